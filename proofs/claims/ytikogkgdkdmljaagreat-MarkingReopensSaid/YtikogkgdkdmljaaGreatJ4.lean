/- What parts of a body do: printed by a program, checked by the kernel; lists that are lent (true) or that last (false). -/
import Derived.Test.YtikogkgdkdmljaaGreatXAnn
import Derived.Test.YtikogkgdkdmljaaGreatAb10
import Derived.Test.YtikogkgdkdmljaaGreatJ2
import Derived.Control
import Derived.Test.YtikogkgdkdmljaaGreatJ3
set_option linter.unusedSimpArgs false
set_option linter.unusedVariables false
noncomputable section
namespace Go.Proofs.YtikogkgdkdmljaaGreat
open Go.Ab
set_option maxRecDepth 100000
theorem f0 (b:Bool) (s:zaM) (l:List zab):tReg za1 zT 0 ⟨[(0,AV.agg [AV.sl 5 (List.map zbj s.Markers),AV.sl 7 (List.map za7 s.Scripts),AV.sl 3 (List.map zaU s.Papers),AV.sl 2 (List.map zcJ s.Schemes),AV.sl 2 (List.map zdg s.Seeds),I s.Monitor.Part,I s.Monitor.Total,I s.Monitor.Window,I s.Monitor.Fails]),(1,frA b 1001 l)],frM b 1001 l⟩=(some ⟨[(1,frA b 1001 l),(2,AV.loc 2 9 0 0),(4,AV.loc 4 2 0 0)],[(2,⟨9,zaK,[zaA s],true⟩),(4,⟨2,zaI,[[AV.v (.slice none 0 0),AV.v (.slice none 0 0)]],true⟩)]++frM b 1001 l⟩):=by cases b <;> kernel_rfl
theorem f1 (b:Bool) (s:zaM) (l:List zab):tReg za1 zT 1 ⟨[(1,frA b 1001 l),(2,AV.loc 2 9 0 0),(4,AV.loc 4 2 0 0)],[(2,⟨9,zaK,[zaA s],true⟩),(4,⟨2,zaI,[[AV.v (.slice none 0 0),AV.v (.slice none 0 0)]],true⟩)]++frM b 1001 l⟩=(callD zau (cw zkl [AV.agg (zaA s)] []) fun (r0:Int)=>some ⟨[(1,frA b 1001 l),(2,AV.loc 2 9 0 0),(4,AV.loc 4 2 0 0),(17,B (r0 != 0))],[(2,⟨9,zaK,[zaA s],true⟩),(4,⟨2,zaI,[[AV.v (.slice none 0 0),AV.v (.slice none 0 0)]],true⟩)]++frM b 1001 l⟩):=by cases b <;> kernel_rfl
theorem f4 (b:Bool) (s:zaM) (l:List zab) (ev:List zab) (c:Int):tReg za1 zT 4 ⟨[(2,AV.loc 2 9 0 0),(4,AV.loc 4 2 0 0),(6,AV.sl 9 (List.map zaa ev)),(7,I c)],[(2,⟨9,zaK,[zaA s],true⟩),(4,⟨2,zaI,[[AV.v (.slice none 0 0),AV.v (.slice none 0 0)]],true⟩)]++frM b 1001 l⟩=(some ⟨[(2,AV.loc 2 9 0 0),(4,AV.loc 4 2 0 0),(6,AV.sl 9 (List.map zaa ev)),(7,I c),(25,B (c != 0))],[(2,⟨9,zaK,[zaA s],true⟩),(4,⟨2,zaI,[[AV.v (.slice none 0 0),AV.v (.slice none 0 0)]],true⟩)]++frM b 1001 l⟩):=by cases b <;> kernel_rfl
theorem f6 (b:Bool) (s:zaM) (l:List zab) (ev:List zab):tReg za1 zT 6 ⟨[(2,AV.loc 2 9 0 0),(4,AV.loc 4 2 0 0),(6,AV.sl 9 (List.map zaa ev))],[(2,⟨9,zaK,[zaA s],true⟩),(4,⟨2,zaI,[[AV.v (.slice none 0 0),AV.v (.slice none 0 0)]],true⟩)]++frM b 1001 l⟩=(callD zls (cw zeG [AV.agg (zaA s),AV.sl 9 (List.map zaa ev)] []) fun (r0:List (Option zar)×List (zaG×zaW))=>some ⟨[(4,AV.loc 4 2 0 0),(8,AV.fa 1 (List.map nDp r0.fst)),(9,AV.mp (List.map zaw r0.snd))],[(4,⟨2,zaI,[[AV.v (.slice none 0 0),AV.v (.slice none 0 0)]],true⟩)]++frM b 1001 l⟩):=by cases b <;> kernel_rfl
theorem f7 (b:Bool) (l:List zab) (ds:List (Option zar)) (R:List (zaG×zaW)):tReg za1 zT 7 ⟨[(4,AV.loc 4 2 0 0),(8,AV.fa 1 (List.map nDp ds)),(9,AV.mp (List.map zaw R))],[(4,⟨2,zaI,[[AV.v (.slice none 0 0),AV.v (.slice none 0 0)]],true⟩)]++frM b 1001 l⟩=(some ⟨[(4,AV.loc 4 2 0 0),(8,AV.fa 1 (List.map nDp ds)),(9,AV.mp (List.map zaw R)),(10,AV.loc 10 2 0 0)],[(4,⟨2,zaI,[[AV.v (.slice none 0 0),AV.v (.slice none 0 0)]],true⟩),(10,⟨2,zaI,[[AV.row 301 8 0 0,AV.row 302 12 0 0]],true⟩),(301,⟨8,zao,[],false⟩),(302,⟨12,zaC,[],false⟩)]++frM b 1001 l⟩):=by cases b <;> kernel_rfl
theorem f8 (b:Bool) (l:List zab) (ds:List (Option zar)) (R:List (zaG×zaW)) (xs:List (List AV)) (ys:List (List AV)):tReg za1 zT 8 ⟨[(4,AV.loc 4 2 0 0),(8,AV.fa 1 (List.map nDp ds)),(9,AV.mp (List.map zaw R)),(10,AV.loc 10 2 0 0)],[(4,⟨2,zaI,[[AV.v (.slice none 0 0),AV.v (.slice none 0 0)]],true⟩),(10,⟨2,zaI,[[AV.row 301 8 0 (List.length xs),AV.row 302 12 0 (List.length ys)]],true⟩),(301,⟨8,zao,xs,false⟩),(302,⟨12,zaC,ys,false⟩)]++frM b 1001 l⟩=(some ⟨[(4,AV.loc 4 2 0 0),(9,AV.mp (List.map zaw R)),(10,AV.loc 10 2 0 0),(34,AV.fa 1 (List.map nDp ds)),(35,I 0)],[(4,⟨2,zaI,[[AV.v (.slice none 0 0),AV.v (.slice none 0 0)]],true⟩),(10,⟨2,zaI,[[AV.row 301 8 0 (List.length xs),AV.row 302 12 0 (List.length ys)]],true⟩),(301,⟨8,zao,xs,false⟩),(302,⟨12,zaC,ys,false⟩)]++frM b 1001 l⟩):=by cases b <;> kernel_rfl
theorem f9 (b:Bool) (l:List zab) (ds:List (Option zar)) (R:List (zaG×zaW)) (xs:List (List AV)) (ys:List (List AV)) (i:Int):tReg za1 zT 9 ⟨[(4,AV.loc 4 2 0 0),(9,AV.mp (List.map zaw R)),(10,AV.loc 10 2 0 0),(34,AV.fa 1 (List.map nDp ds)),(35,I i)],[(4,⟨2,zaI,[[AV.v (.slice none 0 0),AV.v (.slice none 0 0)]],true⟩),(10,⟨2,zaI,[[AV.row 301 8 0 (List.length xs),AV.row 302 12 0 (List.length ys)]],true⟩),(301,⟨8,zao,xs,false⟩),(302,⟨12,zaC,ys,false⟩)]++frM b 1001 l⟩=(some ⟨[(4,AV.loc 4 2 0 0),(9,AV.mp (List.map zaw R)),(10,AV.loc 10 2 0 0),(34,AV.fa 1 (List.map nDp ds)),(35,I i),(36,B (decide (i < 100)))],[(4,⟨2,zaI,[[AV.v (.slice none 0 0),AV.v (.slice none 0 0)]],true⟩),(10,⟨2,zaI,[[AV.row 301 8 0 (List.length xs),AV.row 302 12 0 (List.length ys)]],true⟩),(301,⟨8,zao,xs,false⟩),(302,⟨12,zaC,ys,false⟩)]++frM b 1001 l⟩):=by cases b <;> kernel_rfl
theorem f10 (b:Bool) (l:List zab) (ds:List (Option zar)) (R:List (zaG×zaW)) (xs:List (List AV)) (ys:List (List AV)) (i:Int):tReg za1 zT 10 ⟨[(4,AV.loc 4 2 0 0),(9,AV.mp (List.map zaw R)),(10,AV.loc 10 2 0 0),(34,AV.fa 1 (List.map nDp ds)),(35,I i)],[(4,⟨2,zaI,[[AV.v (.slice none 0 0),AV.v (.slice none 0 0)]],true⟩),(10,⟨2,zaI,[[AV.row 301 8 0 (List.length xs),AV.row 302 12 0 (List.length ys)]],true⟩),(301,⟨8,zao,xs,false⟩),(302,⟨12,zaC,ys,false⟩)]++frM b 1001 l⟩=(chk ((0:Int)≤i)<|
 chk ((i:Int) < (↑100:Int))<|
 elemP zh8 (List.map nDp ds) i.toNat (some ⟨[(4,AV.loc 4 2 0 0),(9,AV.mp (List.map zaw R)),(10,AV.loc 10 2 0 0),(11,I i),(12,AV.v (.pointer none)),(34,AV.fa 1 (List.map nDp ds)),(35,I i)],[(4,⟨2,zaI,[[AV.v (.slice none 0 0),AV.v (.slice none 0 0)]],true⟩),(10,⟨2,zaI,[[AV.row 301 8 0 (List.length xs),AV.row 302 12 0 (List.length ys)]],true⟩),(301,⟨8,zao,xs,false⟩),(302,⟨12,zaC,ys,false⟩)]++frM b 1001 l⟩)
 (fun (p0:Addr)=>some ⟨[(4,AV.loc 4 2 0 0),(9,AV.mp (List.map zaw R)),(10,AV.loc 10 2 0 0),(11,I i),(12,AV.v (.pointer (some p0))),(34,AV.fa 1 (List.map nDp ds)),(35,I i)],[(4,⟨2,zaI,[[AV.v (.slice none 0 0),AV.v (.slice none 0 0)]],true⟩),(10,⟨2,zaI,[[AV.row 301 8 0 (List.length xs),AV.row 302 12 0 (List.length ys)]],true⟩),(301,⟨8,zao,xs,false⟩),(302,⟨12,zaC,ys,false⟩)]++frM b 1001 l⟩)
 fun (c1:zar) =>
 some ⟨[(4,AV.loc 4 2 0 0),(9,AV.mp (List.map zaw R)),(10,AV.loc 10 2 0 0),(11,I i),(12,AV.fp [I c1.level,AV.sl 10 (List.map zas c1.marks),I c1.period,I c1.started.Time,I c1.started.Source,I c1.started.Seq,AV.mp (List.map zaB c1.noted),AV.sl 1 (List.map nBool c1.watch.Last),B c1.watch.Suspended,I c1.good.Time,I c1.good.Source,I c1.good.Seq,B c1.some,AV.sl 12 (List.map zam c1.suspensions)]),(34,AV.fa 1 (List.map nDp ds)),(35,I i)],[(4,⟨2,zaI,[[AV.v (.slice none 0 0),AV.v (.slice none 0 0)]],true⟩),(10,⟨2,zaI,[[AV.row 301 8 0 (List.length xs),AV.row 302 12 0 (List.length ys)]],true⟩),(301,⟨8,zao,xs,false⟩),(302,⟨12,zaC,ys,false⟩)]++frM b 1001 l⟩):=by cases b <;> kernel_rfl
theorem f11n (b:Bool) (l:List zab) (ds:List (Option zar)) (R:List (zaG×zaW)) (xs:List (List AV)) (ys:List (List AV)) (i:Int):tReg za1 zT 11 ⟨[(4,AV.loc 4 2 0 0),(9,AV.mp (List.map zaw R)),(10,AV.loc 10 2 0 0),(11,I i),(12,AV.v (.pointer none)),(34,AV.fa 1 (List.map nDp ds)),(35,I i)],[(4,⟨2,zaI,[[AV.v (.slice none 0 0),AV.v (.slice none 0 0)]],true⟩),(10,⟨2,zaI,[[AV.row 301 8 0 (List.length xs),AV.row 302 12 0 (List.length ys)]],true⟩),(301,⟨8,zao,xs,false⟩),(302,⟨12,zaC,ys,false⟩)]++frM b 1001 l⟩=(some ⟨[(4,AV.loc 4 2 0 0),(9,AV.mp (List.map zaw R)),(10,AV.loc 10 2 0 0),(11,I i),(12,AV.v (.pointer none)),(34,AV.fa 1 (List.map nDp ds)),(35,I i),(42,B true)],[(4,⟨2,zaI,[[AV.v (.slice none 0 0),AV.v (.slice none 0 0)]],true⟩),(10,⟨2,zaI,[[AV.row 301 8 0 (List.length xs),AV.row 302 12 0 (List.length ys)]],true⟩),(301,⟨8,zao,xs,false⟩),(302,⟨12,zaC,ys,false⟩)]++frM b 1001 l⟩):=by cases b <;> kernel_rfl
theorem f11d (b:Bool) (l:List zab) (ds:List (Option zar)) (R:List (zaG×zaW)) (xs:List (List AV)) (ys:List (List AV)) (i:Int) (d:zar):tReg za1 zT 11 ⟨[(4,AV.loc 4 2 0 0),(9,AV.mp (List.map zaw R)),(10,AV.loc 10 2 0 0),(11,I i),(12,AV.fp [I d.level,AV.sl 10 (List.map zas d.marks),I d.period,I d.started.Time,I d.started.Source,I d.started.Seq,AV.mp (List.map zaB d.noted),AV.sl 1 (List.map nBool d.watch.Last),B d.watch.Suspended,I d.good.Time,I d.good.Source,I d.good.Seq,B d.some,AV.sl 12 (List.map zam d.suspensions)]),(34,AV.fa 1 (List.map nDp ds)),(35,I i)],[(4,⟨2,zaI,[[AV.v (.slice none 0 0),AV.v (.slice none 0 0)]],true⟩),(10,⟨2,zaI,[[AV.row 301 8 0 (List.length xs),AV.row 302 12 0 (List.length ys)]],true⟩),(301,⟨8,zao,xs,false⟩),(302,⟨12,zaC,ys,false⟩)]++frM b 1001 l⟩=(some ⟨[(4,AV.loc 4 2 0 0),(9,AV.mp (List.map zaw R)),(10,AV.loc 10 2 0 0),(11,I i),(12,AV.fp [I d.level,AV.sl 10 (List.map zas d.marks),I d.period,I d.started.Time,I d.started.Source,I d.started.Seq,AV.mp (List.map zaB d.noted),AV.sl 1 (List.map nBool d.watch.Last),B d.watch.Suspended,I d.good.Time,I d.good.Source,I d.good.Seq,B d.some,AV.sl 12 (List.map zam d.suspensions)]),(34,AV.fa 1 (List.map nDp ds)),(35,I i),(42,B false)],[(4,⟨2,zaI,[[AV.v (.slice none 0 0),AV.v (.slice none 0 0)]],true⟩),(10,⟨2,zaI,[[AV.row 301 8 0 (List.length xs),AV.row 302 12 0 (List.length ys)]],true⟩),(301,⟨8,zao,xs,false⟩),(302,⟨12,zaC,ys,false⟩)]++frM b 1001 l⟩):=by cases b <;> kernel_rfl
theorem f12 (b:Bool) (l:List zab) (ds:List (Option zar)) (R:List (zaG×zaW)) (xs:List (List AV)) (ys:List (List AV)) (i:Int) (d:zar):tReg za1 zT 12 ⟨[(4,AV.loc 4 2 0 0),(9,AV.mp (List.map zaw R)),(10,AV.loc 10 2 0 0),(11,I i),(12,AV.fp [I d.level,AV.sl 10 (List.map zas d.marks),I d.period,I d.started.Time,I d.started.Source,I d.started.Seq,AV.mp (List.map zaB d.noted),AV.sl 1 (List.map nBool d.watch.Last),B d.watch.Suspended,I d.good.Time,I d.good.Source,I d.good.Seq,B d.some,AV.sl 12 (List.map zam d.suspensions)]),(34,AV.fa 1 (List.map nDp ds)),(35,I i)],[(4,⟨2,zaI,[[AV.v (.slice none 0 0),AV.v (.slice none 0 0)]],true⟩),(10,⟨2,zaI,[[AV.row 301 8 0 (List.length xs),AV.row 302 12 0 (List.length ys)]],true⟩),(301,⟨8,zao,xs,false⟩),(302,⟨12,zaC,ys,false⟩)]++frM b 1001 l⟩=(chk (ys.length=ys.length)<|
 chk ((ys.length+(List.map zam d.suspensions).length)*(88+1)≤1099511627776)<|
 some ⟨[(4,AV.loc 4 2 0 0),(9,AV.mp (List.map zaw R)),(10,AV.loc 10 2 0 0),(11,I i),(12,AV.fp [I d.level,AV.sl 10 (List.map zas d.marks),I d.period,I d.started.Time,I d.started.Source,I d.started.Seq,AV.mp (List.map zaB d.noted),AV.sl 1 (List.map nBool d.watch.Last),B d.watch.Suspended,I d.good.Time,I d.good.Source,I d.good.Seq,B d.some,AV.sl 12 (List.map zam d.suspensions)]),(34,AV.fa 1 (List.map nDp ds)),(35,I i)],[(4,⟨2,zaI,[[AV.v (.slice none 0 0),AV.v (.slice none 0 0)]],true⟩),(10,⟨2,zaI,[[AV.row 301 8 0 (List.length xs),AV.row 302 12 0 (List.length (ys++(List.map zam d.suspensions)))]],true⟩),(301,⟨8,zao,xs,false⟩),(302,⟨12,zaC,ys++(List.map zam d.suspensions),false⟩)]++frM b 1001 l⟩):=by cases b <;> kernel_rfl
theorem f13 (b:Bool) (l:List zab) (ds:List (Option zar)) (R:List (zaG×zaW)) (xs:List (List AV)) (ys:List (List AV)) (i:Int) (d:zar):tSeg za1 zT 13 0 3 ⟨[(4,AV.loc 4 2 0 0),(9,AV.mp (List.map zaw R)),(10,AV.loc 10 2 0 0),(11,I i),(12,AV.fp [I d.level,AV.sl 10 (List.map zas d.marks),I d.period,I d.started.Time,I d.started.Source,I d.started.Seq,AV.mp (List.map zaB d.noted),AV.sl 1 (List.map nBool d.watch.Last),B d.watch.Suspended,I d.good.Time,I d.good.Source,I d.good.Seq,B d.some,AV.sl 12 (List.map zam d.suspensions)]),(34,AV.fa 1 (List.map nDp ds)),(35,I i)],[(4,⟨2,zaI,[[AV.v (.slice none 0 0),AV.v (.slice none 0 0)]],true⟩),(10,⟨2,zaI,[[AV.row 301 8 0 (List.length xs),AV.row 302 12 0 (List.length ys)]],true⟩),(301,⟨8,zao,xs,false⟩),(302,⟨12,zaC,ys,false⟩)]++frM b 1001 l⟩=(callD zgx (cw zfp [AV.fp [I d.level,AV.sl 10 (List.map zas d.marks),I d.period,I d.started.Time,I d.started.Source,I d.started.Seq,AV.mp (List.map zaB d.noted),AV.sl 1 (List.map nBool d.watch.Last),B d.watch.Suspended,I d.good.Time,I d.good.Source,I d.good.Seq,B d.some,AV.sl 12 (List.map zam d.suspensions)],AV.mp (List.map zaw R)] []) fun (r0:(List (zaG×zab)))=>some ⟨[(53,AV.map 53),(52,AV.mp (List.map zaw R)),(51,AV.fp [I d.level,AV.sl 10 (List.map zas d.marks),I d.period,I d.started.Time,I d.started.Source,I d.started.Seq,AV.mp (List.map zaB d.noted),AV.sl 1 (List.map nBool d.watch.Last),B d.watch.Suspended,I d.good.Time,I d.good.Source,I d.good.Seq,B d.some,AV.sl 12 (List.map zam d.suspensions)]),(4,AV.loc 4 2 0 0),(9,AV.mp (List.map zaw R)),(10,AV.loc 10 2 0 0),(11,I i),(12,AV.fp [I d.level,AV.sl 10 (List.map zas d.marks),I d.period,I d.started.Time,I d.started.Source,I d.started.Seq,AV.mp (List.map zaB d.noted),AV.sl 1 (List.map nBool d.watch.Last),B d.watch.Suspended,I d.good.Time,I d.good.Source,I d.good.Seq,B d.some,AV.sl 12 (List.map zam d.suspensions)]),(34,AV.fa 1 (List.map nDp ds)),(35,I i)],[(53,⟨0,zcn,List.map zb4 r0,false⟩),(4,⟨2,zaI,[[AV.v (.slice none 0 0),AV.v (.slice none 0 0)]],true⟩),(10,⟨2,zaI,[[AV.row 301 8 0 (List.length xs),AV.row 302 12 0 (List.length ys)]],true⟩),(301,⟨8,zao,xs,false⟩),(302,⟨12,zaC,ys,false⟩)]++frM b 1001 l⟩):=by cases b <;> kernel_rfl
theorem f15 (b:Bool) (l:List zab) (ds:List (Option zar)) (R:List (zaG×zaW)) (xs:List (List AV)) (ys:List (List AV)) (i:Int) (d:zar) (p:Addr) (k:zaG) (e:zab):tSeg za1 zT 15 1 3 ⟨[(4,AV.loc 4 2 0 0),(9,AV.mp (List.map zaw R)),(10,AV.loc 10 2 0 0),(11,I i),(12,AV.fp [I d.level,AV.sl 10 (List.map zas d.marks),I d.period,I d.started.Time,I d.started.Source,I d.started.Seq,AV.mp (List.map zaB d.noted),AV.sl 1 (List.map nBool d.watch.Last),B d.watch.Suspended,I d.good.Time,I d.good.Source,I d.good.Seq,B d.some,AV.sl 12 (List.map zam d.suspensions)]),(34,AV.fa 1 (List.map nDp ds)),(35,I i),(54,AV.v (.pointer (some p))),(57,AV.tup [AV.agg [I k.script,I k.part],AV.agg [I e.Stamp.Time,I e.Stamp.Source,I e.Stamp.Seq,I e.Kind,I e.Script,I e.Part,I e.Value,I e.Marker,AV.sl 1 (List.map zan e.Pages)]])],[(4,⟨2,zaI,[[AV.v (.slice none 0 0),AV.v (.slice none 0 0)]],true⟩),(10,⟨2,zaI,[[AV.row 301 8 0 (List.length xs),AV.row 302 12 0 (List.length ys)]],true⟩),(301,⟨8,zao,xs,false⟩),(302,⟨12,zaC,ys,false⟩)]++frM b 1001 l⟩=(some ⟨[(14,AV.loc 14 9 0 0),(58,AV.agg [I e.Stamp.Time,I e.Stamp.Source,I e.Stamp.Seq,I e.Kind,I e.Script,I e.Part,I e.Value,I e.Marker,AV.sl 1 (List.map zan e.Pages)]),(4,AV.loc 4 2 0 0),(9,AV.mp (List.map zaw R)),(10,AV.loc 10 2 0 0),(11,I i),(12,AV.fp [I d.level,AV.sl 10 (List.map zas d.marks),I d.period,I d.started.Time,I d.started.Source,I d.started.Seq,AV.mp (List.map zaB d.noted),AV.sl 1 (List.map nBool d.watch.Last),B d.watch.Suspended,I d.good.Time,I d.good.Source,I d.good.Seq,B d.some,AV.sl 12 (List.map zam d.suspensions)]),(34,AV.fa 1 (List.map nDp ds)),(35,I i),(54,AV.v (.pointer (some p))),(57,AV.tup [AV.agg [I k.script,I k.part],AV.agg [I e.Stamp.Time,I e.Stamp.Source,I e.Stamp.Seq,I e.Kind,I e.Script,I e.Part,I e.Value,I e.Marker,AV.sl 1 (List.map zan e.Pages)]])],[(14,⟨9,zac,[zaa e],true⟩),(4,⟨2,zaI,[[AV.v (.slice none 0 0),AV.v (.slice none 0 0)]],true⟩),(10,⟨2,zaI,[[AV.row 301 8 0 (List.length xs),AV.row 302 12 0 (List.length ys)]],true⟩),(301,⟨8,zao,xs,false⟩),(302,⟨12,zaC,ys,false⟩)]++frM b 1001 l⟩):=by cases b <;> kernel_rfl
theorem f16 (b:Bool) (l:List zab) (ds:List (Option zar)) (R:List (zaG×zaW)) (xs:List (List AV)) (ys:List (List AV)) (i:Int) (d:zar) (p:Addr) (e:zab):tReg za1 zT 16 ⟨[(4,AV.loc 4 2 0 0),(9,AV.mp (List.map zaw R)),(10,AV.loc 10 2 0 0),(11,I i),(12,AV.fp [I d.level,AV.sl 10 (List.map zas d.marks),I d.period,I d.started.Time,I d.started.Source,I d.started.Seq,AV.mp (List.map zaB d.noted),AV.sl 1 (List.map nBool d.watch.Last),B d.watch.Suspended,I d.good.Time,I d.good.Source,I d.good.Seq,B d.some,AV.sl 12 (List.map zam d.suspensions)]),(14,AV.loc 14 9 0 0),(34,AV.fa 1 (List.map nDp ds)),(35,I i),(54,AV.v (.pointer (some p)))],[(4,⟨2,zaI,[[AV.v (.slice none 0 0),AV.v (.slice none 0 0)]],true⟩),(10,⟨2,zaI,[[AV.row 301 8 0 (List.length xs),AV.row 302 12 0 (List.length ys)]],true⟩),(14,⟨9,zac,[zaa e],true⟩),(301,⟨8,zao,xs,false⟩),(302,⟨12,zaC,ys,false⟩)]++frM b 1001 l⟩=(chk (xs.length=xs.length)<|
 chk ((xs.length+1)*(64+1)≤1099511627776)<|
 some ⟨[(4,AV.loc 4 2 0 0),(9,AV.mp (List.map zaw R)),(10,AV.loc 10 2 0 0),(11,I i),(12,AV.fp [I d.level,AV.sl 10 (List.map zas d.marks),I d.period,I d.started.Time,I d.started.Source,I d.started.Seq,AV.mp (List.map zaB d.noted),AV.sl 1 (List.map nBool d.watch.Last),B d.watch.Suspended,I d.good.Time,I d.good.Source,I d.good.Seq,B d.some,AV.sl 12 (List.map zam d.suspensions)]),(34,AV.fa 1 (List.map nDp ds)),(35,I i),(54,AV.v (.pointer (some p)))],[(4,⟨2,zaI,[[AV.v (.slice none 0 0),AV.v (.slice none 0 0)]],true⟩),(10,⟨2,zaI,[[AV.row 301 8 0 (List.length (xs++([[I e.Script,I e.Part,I i,I d.level,I e.Value,I e.Stamp.Time,I e.Stamp.Source,I e.Stamp.Seq]]))),AV.row 302 12 0 (List.length ys)]],true⟩),(301,⟨8,zao,xs++([zad (⟨e.Script,e.Part,i,d.level,e.Value,⟨e.Stamp.Time,e.Stamp.Source,e.Stamp.Seq⟩⟩)]),false⟩),(302,⟨12,zaC,ys,false⟩)]++frM b 1001 l⟩):=by cases b <;> kernel_rfl
theorem f17 (b:Bool) (l:List zab) (ds:List (Option zar)) (R:List (zaG×zaW)) (xs:List (List AV)) (ys:List (List AV)) (i:Int):tReg za1 zT 17 ⟨[(4,AV.loc 4 2 0 0),(9,AV.mp (List.map zaw R)),(10,AV.loc 10 2 0 0),(34,AV.fa 1 (List.map nDp ds)),(35,I i)],[(4,⟨2,zaI,[[AV.v (.slice none 0 0),AV.v (.slice none 0 0)]],true⟩),(10,⟨2,zaI,[[AV.row 301 8 0 (List.length xs),AV.row 302 12 0 (List.length ys)]],true⟩),(301,⟨8,zao,xs,false⟩),(302,⟨12,zaC,ys,false⟩)]++frM b 1001 l⟩=(some ⟨[(4,AV.loc 4 2 0 0),(9,AV.mp (List.map zaw R)),(10,AV.loc 10 2 0 0),(34,AV.fa 1 (List.map nDp ds)),(35,I (w64 (i+1)))],[(4,⟨2,zaI,[[AV.v (.slice none 0 0),AV.v (.slice none 0 0)]],true⟩),(10,⟨2,zaI,[[AV.row 301 8 0 (List.length xs),AV.row 302 12 0 (List.length ys)]],true⟩),(301,⟨8,zao,xs,false⟩),(302,⟨12,zaC,ys,false⟩)]++frM b 1001 l⟩):=by cases b <;> kernel_rfl
theorem f18 (b:Bool) (l:List zab) (gs:List zag) (ys:List (List AV)):tReg za1 zT 18 ⟨[(4,AV.loc 4 2 0 0),(10,AV.loc 10 2 0 0)],[(4,⟨2,zaI,[[AV.v (.slice none 0 0),AV.v (.slice none 0 0)]],true⟩),(10,⟨2,zaI,[[AV.row 301 8 0 (List.length (List.map zad gs)),AV.row 302 12 0 (List.length ys)]],true⟩),(301,⟨8,zao,List.map zad gs,false⟩),(302,⟨12,zaC,ys,false⟩)]++frM b 1001 l⟩=(callD zap (cw zew [AV.row 1000 8 0 (List.length (List.map zad gs)),AV.fn zaf []] [(1000,⟨8,zao,List.map zad gs,false⟩)]) fun (r0:(List zag))=>some ⟨[(4,AV.loc 4 2 0 0),(10,AV.loc 10 2 0 0)],[(4,⟨2,zaI,[[AV.v (.slice none 0 0),AV.v (.slice none 0 0)]],true⟩),(10,⟨2,zaI,[[AV.row 301 8 0 ((List.map zad gs).length),AV.row 302 12 0 (List.length ys)]],true⟩),(301,⟨8,zao,List.map zad r0,false⟩),(302,⟨12,zaC,ys,false⟩)]++frM b 1001 l⟩):=by cases b <;> kernel_rfl
theorem f19 (b:Bool) (l:List zab) (xs:List (List AV)) (ys:List (List AV)):tReg za1 zT 19 ⟨[(4,AV.loc 4 2 0 0),(10,AV.loc 10 2 0 0)],[(4,⟨2,zaI,[[AV.v (.slice none 0 0),AV.v (.slice none 0 0)]],true⟩),(10,⟨2,zaI,[[AV.row 301 8 0 (List.length xs),AV.row 302 12 0 (List.length ys)]],true⟩),(301,⟨8,zao,xs,false⟩),(302,⟨12,zaC,ys,false⟩)]++frM b 1001 l⟩=(some ⟨[(4,AV.loc 4 2 0 0),(5,I 0)],[(4,⟨2,zaI,[[AV.row 301 8 0 (List.length xs),AV.row 302 12 0 (List.length ys)]],true⟩),(301,⟨8,zao,xs,false⟩),(302,⟨12,zaC,ys,false⟩)]++frM b 1001 l⟩):=by cases b <;> kernel_rfl
theorem f3 (s:zaM) (l:List zab):tReg za1 zT 3 ⟨[(1,AV.row 1001 9 0 (List.length (List.map zaa l))),(2,AV.loc 2 9 0 0),(4,AV.loc 4 2 0 0)],[(2,⟨9,zaK,[zaA s],true⟩),(4,⟨2,zaI,[[AV.v (.slice none 0 0),AV.v (.slice none 0 0)]],true⟩),(1001,⟨9,zac,List.map zaa l,false⟩)]⟩=(callD zio (cw zby [AV.row 1000 9 0 (List.length (List.map zaa l))] [(1000,⟨9,zac,List.map zaa l,false⟩)]) fun (r0:((List zab)×Int)×(List zab))=>some ⟨[(2,AV.loc 2 9 0 0),(4,AV.loc 4 2 0 0),(6,AV.sl 9 (List.map zaa r0.fst.fst)),(7,I r0.fst.snd)],[(2,⟨9,zaK,[zaA s],true⟩),(4,⟨2,zaI,[[AV.v (.slice none 0 0),AV.v (.slice none 0 0)]],true⟩),(1001,⟨9,zac,List.map zaa r0.snd,false⟩)]⟩):=by kernel_rfl
theorem f3f (s:zaM) (l:List zab):tReg za1 zT 3 ⟨[(1,AV.sl 9 (List.map zaa l)),(2,AV.loc 2 9 0 0),(4,AV.loc 4 2 0 0)],[(2,⟨9,zaK,[zaA s],true⟩),(4,⟨2,zaI,[[AV.v (.slice none 0 0),AV.v (.slice none 0 0)]],true⟩)]⟩=(callD zh6 (cw zby [AV.sl 9 (List.map zaa l)] []) fun (r0:(List zab)×Int)=>some ⟨[(2,AV.loc 2 9 0 0),(4,AV.loc 4 2 0 0),(6,AV.sl 9 (List.map zaa r0.fst)),(7,I r0.snd)],[(2,⟨9,zaK,[zaA s],true⟩),(4,⟨2,zaI,[[AV.v (.slice none 0 0),AV.v (.slice none 0 0)]],true⟩)]⟩):=by kernel_rfl
set_option maxRecDepth 100000
def foC:Code:=(za1.fn.body).getD .skip
def foO (j:Nat):Array Oper:=opsAt j foC
def foD (j:Nat):Bool:=zu6 j foC
theorem fo_hb:za1.fn.body=some foC:=by kernel_rfl
theorem fo_shape:foC=(.seq (.region 0 (foO 0) (foD 0)) (.seq (.seq (.region 1 (foO 1) (foD 1)) (.cond (.tmp 17) (.seq (.region 2 (foO 2) (foD 2)) .ret) .skip)) (.seq (.region 3 (foO 3) (foD 3)) (.seq (.seq (.region 4 (foO 4) (foD 4)) (.cond (.tmp 25) (.seq (.region 5 (foO 5) (foD 5)) .ret) .skip)) (.seq (.region 6 (foO 6) (foD 6)) (.seq (.region 7 (foO 7) (foD 7)) (.seq (.seq (.region 8 (foO 8) (foD 8)) (.block 0 (.loop (.seq (.region 9 (foO 9) (foD 9)) (.seq (.cond (.tmp 36) .skip (.exit 0)) (.seq (.block 1 (.seq (.region 10 (foO 10) (foD 10)) (.seq (.seq (.region 11 (foO 11) (foD 11)) (.cond (.tmp 42) (.exit 1) .skip)) (.seq (.region 12 (foO 12) (foD 12)) (.seq (.region 13 (foO 13) false) (.block 2 (.loop (.seq (.region 14 (foO 14) false) (.seq (.cond (.tmp 56) .skip (.exit 2)) (.block 3 (.seq (.region 15 (foO 15) false) (.region 16 (foO 16) (foD 16))))))))))))) (.region 17 (foO 17) (foD 17)))))))) (.seq (.region 18 (foO 18) (foD 18)) (.seq (.region 19 (foO 19) (foD 19)) .ret))))))))):=by kernel_rfl
theorem fo_r0:regOf 0 foC=some (.region 0 (foO 0) (foD 0)):=by kernel_rfl
theorem fo_r1:regOf 1 foC=some (.region 1 (foO 1) (foD 1)):=by kernel_rfl
theorem fo_r3:regOf 3 foC=some (.region 3 (foO 3) (foD 3)):=by kernel_rfl
theorem fo_r4:regOf 4 foC=some (.region 4 (foO 4) (foD 4)):=by kernel_rfl
theorem fo_r6:regOf 6 foC=some (.region 6 (foO 6) (foD 6)):=by kernel_rfl
theorem fo_r7:regOf 7 foC=some (.region 7 (foO 7) (foD 7)):=by kernel_rfl
theorem fo_r8:regOf 8 foC=some (.region 8 (foO 8) (foD 8)):=by kernel_rfl
theorem fo_r9:regOf 9 foC=some (.region 9 (foO 9) (foD 9)):=by kernel_rfl
theorem fo_r10:regOf 10 foC=some (.region 10 (foO 10) (foD 10)):=by kernel_rfl
theorem fo_r11:regOf 11 foC=some (.region 11 (foO 11) (foD 11)):=by kernel_rfl
theorem fo_r12:regOf 12 foC=some (.region 12 (foO 12) (foD 12)):=by kernel_rfl
theorem fo_r16:regOf 16 foC=some (.region 16 (foO 16) (foD 16)):=by kernel_rfl
theorem fo_r17:regOf 17 foC=some (.region 17 (foO 17) (foD 17)):=by kernel_rfl
theorem fo_r18:regOf 18 foC=some (.region 18 (foO 18) (foD 18)):=by kernel_rfl
theorem fo_r19:regOf 19 foC=some (.region 19 (foO 19) (foD 19)):=by kernel_rfl
theorem fo_r13:regOf 13 foC=some (.region 13 (foO 13) false):=by kernel_rfl
theorem fo_r15:regOf 15 foC=some (.region 15 (foO 15) false):=by kernel_rfl
theorem fo_n:za1.fn.ntmps≤1000:=by decide
def zdo (ds:Desks) (R:Reop) (n:Nat):List zag:=(List.range n).flatMap fun (i:Nat)=>match ds i with
 | some d=>(countS d R).map fun p=>zdn i d p.2
 | none=>[]
def suspTo (ds:Desks) (n:Nat):List zbq:=(List.range n).flatMap fun (i:Nat)=>match ds i with
 | some d=>d.suspensions
 | none=>[]
theorem zqm (ds:Desks) (R:Reop) (n:Nat):zdo ds R (n+1)=zdo ds R n++(match ds n with
 | some d=>(countS d R).map fun p=>zdn n d p.2
 | none=>[]):=by
 unfold zdo; rw [zs4,List.flatMap_append]; simp
theorem zo5 (ds:Desks) (n:Nat):suspTo ds (n+1)=suspTo ds n++(match ds n with
 | some d=>d.suspensions
 | none=>[]):=by
 unfold suspTo; rw [zs4,List.flatMap_append]; simp
theorem zB0 (ds:Desks) {i:Nat} (hi:i < 100):(List.map nDp (deskL ds))[i]?=some (nDp (ds i)):=by unfold deskL; rw [zeU,zeU,zqN hi]; rfl
def gotOf (i:Nat) (d:zar) (cs:Counts) (done:List Nat):List zag:=done.filterMap fun j=>cs[j]?.map fun p=>zdn i d p.2
noncomputable section
abbrev fA (b:Bool) (l:List zab):Nat×AV:=(1,frA b 1001 l)
abbrev fB2 (s:zaM):Nat×Ent:=(2,⟨9,zaK,[zaA s],true⟩)
abbrev fB4:Nat×Ent:=(4,⟨2,zaI,[[.v (.slice none 0 0),.v (.slice none 0 0)]],true⟩)
abbrev fS2:Nat×AV:=(2,.loc 2 9 0 0)
abbrev fS4:Nat×AV:=(4,.loc 4 2 0 0)
abbrev fS10:Nat×AV:=(10,.loc 10 2 0 0)
abbrev fS9 (R:Reop):Nat×AV:=(9,.mp (List.map zaw R))
abbrev fS34 (ds:Desks):Nat×AV:=(34,.fa 1 (List.map nDp (deskL ds)))
abbrev fS35 (i:Nat):Nat×AV:=(35,I (i:Int))
abbrev fS11 (i:Nat):Nat×AV:=(11,I (i:Int))
abbrev fS12 (d:zar):Nat×AV:=(12,.fp (ze5 d))
abbrev fS54 (r:Nat):Nat×AV:=(54,.v (.pointer (some ⟨r,0,none⟩)))
abbrev fM (b:Bool) (gs:List zag) (us:List zbq) (l:List zab):Mem:=[fB4,(10,⟨2,zaI,[[.row 301 8 0 (List.map zad gs).length,.row 302 12 0 (List.map zam us).length]],true⟩),(301,⟨8,zao,List.map zad gs,false⟩),(302,⟨12,zaC,List.map zam us,false⟩)]++frM b 1001 l
abbrev stF (b:Bool) (l:List zab) (ds:Desks) (R:Reop) (gs:List zag) (us:List zbq) (i:Nat):St:=⟨[fS4,fS9 R,fS10,fS34 ds,fS35 i],fM b gs us l⟩
abbrev stG (b:Bool) (l:List zab) (ds:Desks) (R:Reop) (gs:List zag) (us:List zbq) (i:Nat) (d:zar) (r:Nat):St:=⟨[fS4,fS9 R,fS10,fS11 i,fS12 d,fS34 ds,fS35 i,fS54 r],fM b gs us l⟩
structure FoLegs (b:Bool) (s:zaM) (l:List zab) (ds:Desks) (R:Reop):Prop where
 cCheck:cw zkl [.agg (zaA s)] []=some (zbv 0)
 cCanon:cw zby [frA b 1000 l] (frM b 1000 l)=some (bif b then zfV ((canonS l,0),l) else zev (canonS l,0))
 cWalk:cw zeG [.agg (zaA s),.sl 9 (List.map zaa (canonS l))] []=some (zlq (deskL ds,R))
 cCount:∀ i d,ds i=some d→cw zfp [.fp (ze5 d),.mp (List.map zaw R)] []=some (zeD (countS d R))
 cSort:∀ gs,List.Perm gs (zdo ds R 100)→cw zew [.row 1000 8 0 (List.map zad gs).length,.fn zaf []] [(1000,⟨8,zao,List.map zad gs,false⟩)]=some (zf6 (isort zdz (zdo ds R 100)))
 few:(zdo ds R 100).length < 1000000
 fewS:(suspTo ds 100).length < 1000000
theorem f3b (b:Bool) (s:zaM) (l:List zab) {ev:List zab} (h:cw zby [frA b 1000 l] (frM b 1000 l)=some (bif b then zfV ((ev,0),l) else zev (ev,0))):tReg za1 zT 3 ⟨[(1,frA b 1001 l),(2,AV.loc 2 9 0 0),(4,AV.loc 4 2 0 0)],[(2,⟨9,zaK,[zaA s],true⟩),(4,⟨2,zaI,[[AV.v (.slice none 0 0),AV.v (.slice none 0 0)]],true⟩)]++frM b 1001 l⟩=some ⟨[(2,AV.loc 2 9 0 0),(4,AV.loc 4 2 0 0),(6,AV.sl 9 (List.map zaa ev)),(7,I 0)],[(2,⟨9,zaK,[zaA s],true⟩),(4,⟨2,zaI,[[AV.v (.slice none 0 0),AV.v (.slice none 0 0)]],true⟩)]++frM b 1001 l⟩:=by
 cases b with
 | true=>have t:=f3 s l; rw [show cw zby [AV.row 1000 9 0 (List.length (List.map zaa l))] [(1000,⟨9,zac,List.map zaa l,false⟩)]=some (zfV ((ev,0),l)) from h,zou] at t; exact t
 | false=>have t:=f3f s l; rw [show cw zby [AV.sl 9 (List.map zaa l)] []=some (zev (ev,0)) from h,zpM] at t; exact t
section
variable {w0:World} {S0:Nat→Prop} {κ0:Kap} {K:Nat→Prop} {a:Act} {w:World}
abbrev Y0:Sat2:=fun _ _ _ _=>True
theorem foStep {j:Nat} {st st':St} {X:Sat2} (hX:Stable X) (hr:regOf j foC=some (.region j (foO j) (foD j))) (ht:tReg za1 zT j st=some st')
  (h:NowP w0 S0 κ0 K za1.fn.ntmps X st a w) {Q:Exit→Act→World→Prop} (hQ:∀ a' w',NowP w0 S0 κ0 K za1.fn.ntmps X st' a' w'→Q .normal a' w'):(Code.region j (foO j) (foD j)).wp za1.P Q a w:=stepP hX fo_hb fo_n hr ht h hQ
theorem got_snoc (i:Nat) (d:zar) (cs:Counts) (done:List Nat) {j:Nat} {k:zaG} {e:zab} (hj:cs[j]?=some (k,e)):gotOf i d cs (done++[j])=gotOf i d cs done++[zdn i d e]:=by unfold gotOf; rw [List.filterMap_append]; congr 1; simp [hj]
theorem got_perm (i:Nat) (d:zar) (cs:Counts) {done:List Nat} (hd:done.Nodup) (h1:∀ i∈done,i < cs.length) (h2:∀ i,i < cs.length→i∈done):List.Perm (gotOf i d cs done) (cs.map fun p=>zdn i d p.2):=by
 have hp:List.Perm done (List.range cs.length):=(zvI hd List.nodup_range).2 (fun i=>⟨fun h=>zoe.2 (h1 i h),fun h=>h2 i (zoe.1 h)⟩); refine (hp.filterMap _).trans (.of_eq ?_)
 have e:(List.range cs.length).filterMap (fun j=>cs[j]?.map fun p=>zdn i d p.2)=((List.range cs.length).filterMap (fun j=>cs[j]?)).map fun p=>zdn i d p.2:=by rw [List.map_filterMap]
 rw [e,zpY]
theorem fo_range {b:Bool} {l:List zab} {ds:Desks} {R:Reop} {gs:List zag} {us:List zbq} {i:Nat} {d:zar} (hc:cw zfp [.fp (ze5 d),.mp (List.map zaw R)] []=some (zeD (countS d R))) (hfew:gs.length+(countS d R).length < 1000000)
  (h:NowP w0 S0 κ0 K za1.fn.ntmps Y0 ⟨[fS4,fS9 R,fS10,fS11 i,fS12 d,fS34 ds,fS35 i],fM b gs us l⟩ a w) {Q:Exit→Act→World→Prop}
  (hQ:∀ xs a' w',List.Perm xs ((countS d R).map fun p=>zdn i d p.2)→NowP w0 S0 κ0 K za1.fn.ntmps Y0 (stF b l ds R (gs++xs) us i) a' w'→Q .normal a' w'):(Code.seq (.region 13 (foO 13) false) (.block 2 (.loop (.seq (.region 14 (foO 14) false) (.seq (.cond (.tmp 56) .skip (.exit 2)) (.block 3 (.seq (.region 15 (foO 15) false) (.region 16 (foO 16) (foD 16))))))))).wp za1.P Q a w:=by
 refine wp_seq (wp_region ?_); have z2:(foO 13).size=4:=by kernel_rfl
 rw [z2,show List.range 4=List.range' 0 3++[3] from rfl]; have t2:=f13 b l (deskL ds) R (List.map zad gs) (List.map zam us) i d; unfold ze5 at hc; rw [hc,zlE] at t2; refine segP Stable.none fo_hb fo_n fo_r13 t2 (by rw [z2]; decide) h (fun a1 w1 h1=>?_); have h2:=h1.freeze Stable.none fo_n [53] (by cases b <;> kernel_rfl) (st':=⟨[(53,.mp (List.map zb4 (countS d R))),(52,.mp (List.map zaw R)),(51,.fp (ze5 d)),fS4,fS9 R,fS10,fS11 i,fS12 d,fS34 ds,fS35 i],fM b gs us l⟩) (by cases b <;> kernel_rfl); rw [wpOps_cons]; refine range_op (t:=114) (k:=117) (e:=64) (by unfold opIs; kernel_rfl) (by cases b <;> kernel_rfl) (by decide) h2 (m:=53) (d:=54) rfl (fun a3 w3 r q en clock h3=>?_); have h4:=h3.trim Rng.stable [4,9,10,11,12,34,35,54] [] (st':=stG b l ds R gs us i d r) (by cases b <;> kernel_rfl); rw [show gs=gs++gotOf i d (countS d R) [] by simp [gotOf]] at h4; refine rng_loop (it:=54) (d1:=55) (d2:=56) (r:=r) (stf:=fun done=>stG b l ds R (gs++gotOf i d (countS d R) done) us i d r) [4,9,10,11,12,34,35,54] (by cases b <;> kernel_rfl) (by unfold opIs; kernel_rfl) (by unfold opIs; kernel_rfl) (by decide) (by decide) (fun _=>rfl) (fun _ _ _=>by cases b <;> kernel_rfl) ?_ h4 ?_
 · intro done j k v hd hl hjd hkv a w hn
   have hj:j < (countS d R).length:=by have:=(zbU.1 hkv).1; simpa using this
   rw [zeU,zaH hj] at hkv
   have hlen:(gs++gotOf i d (countS d R) done).length < 1000000:=by have h1:(gotOf i d (countS d R) done).length≤done.length:=zvJ _ _; have h2:=zx2 hd (n:=(countS d R).length) (fun i hi=>by simpa using hl i hi); rw [zjz]; omega
   have hev:=got_snoc i d (countS d R) done (j:=j) (k:=(countS d R)[j].1) (e:=(countS d R)[j].2) (zaH hj); simp only [hev,← zjx]; generalize gs++gotOf i d (countS d R) done=xs at hn hlen ⊢; generalize hx:(countS d R)[j]=x at hkv ⊢; obtain ⟨kk,e⟩:=x; simp only [ze8,zaE,zb4,zbA,and_true] at hkv; obtain ⟨rfl,rfl⟩:=hkv; refine wp_block (wp_seq (wp_region ?_)); have z4:(foO 15).size=4:=by kernel_rfl
   rw [z4,show List.range 4=0 :: (List.range' 1 3++[]) from rfl,wpOps_cons]; refine entry_op (by unfold opIs; kernel_rfl) (by decide) hn (it:=54) (d:=57) rfl (by rw [zeU,zaH hj,hx]; rfl) (fun a1 w1 h1=>?_); have h2:=h1.trim Rng.stable [4,9,10,11,12,34,35,54,57] [] (st':=⟨[fS4,fS9 R,fS10,fS11 i,fS12 d,fS34 ds,fS35 i,fS54 r,(57,.tup [.agg (zbr kk),.agg (zaa e)])],fM b xs us l⟩) (by cases b <;> kernel_rfl); refine segP Rng.stable fo_hb fo_n fo_r15 (f15 b l (deskL ds) R (List.map zad xs) (List.map zam us) i d _ kk e) (by rw [z4]; decide) h2 (fun a3 w3 h3=>?_); have h4:=h3.trim Rng.stable [4,9,10,11,12,14,34,35,54] [] (st':=⟨[fS4,fS9 R,fS10,fS11 i,fS12 d,(14,.loc 14 9 0 0),fS34 ds,fS35 i,fS54 r],[fB4,(10,⟨2,zaI,[[.row 301 8 0 (List.map zad xs).length,.row 302 12 0 (List.map zam us).length]],true⟩),(14,⟨9,zac,[zaa e],true⟩),(301,⟨8,zao,List.map zad xs,false⟩),(302,⟨12,zaC,List.map zam us,false⟩)]++frM b 1001 l⟩) (by cases b <;> kernel_rfl); have t6:=f16 b l (deskL ds) R (List.map zad xs) (List.map zam us) i d ⟨r,0,none⟩ e; rw [zav rfl,zav (by simp only [zaq]; omega)] at t6; refine foStep Rng.stable fo_r16 t6 h4 (fun a7 w7 h7=>⟨rfl,?_⟩); have e1:List.map zad (xs++[zdn i d e])=List.map zad xs++[zad (zdn i d e)]:=by simp
   unfold stG fM; rw [e1]; exact h7
 · intro done hd hl hall a' w' hn; refine hQ _ a' w' (got_perm i d (countS d R) hd (fun i hi=>by simpa using hl i hi) (fun i hi=>hall i (by simpa using hi))) ?_; exact (hn.trim Rng.stable [4,9,10,34,35] [] (st':=stF b l ds R (gs++gotOf i d (countS d R) done) us i) (by cases b <;> kernel_rfl)).drop
theorem fo_loop {b:Bool} {s:zaM} {l:List zab} {ds:Desks} {R:Reop} (g:FoLegs b s l ds R) (h:NowP w0 S0 κ0 K za1.fn.ntmps Y0 (stF b l ds R [] [] 0) a w) {Q:Exit→Act→World→Prop}
  (hQ:∀ gs a' w',List.Perm gs (zdo ds R 100)→NowP w0 S0 κ0 K za1.fn.ntmps Y0 (stF b l ds R gs (suspTo ds 100) 100) a' w'→Q .normal a' w'):(Code.wp za1.P (.block 0 (.loop (.seq (.region 9 (foO 9) (foD 9)) (.seq (.cond (.tmp 36) .skip (.exit 0)) (.seq (.block 1 (.seq (.region 10 (foO 10) (foD 10)) (.seq (.seq (.region 11 (foO 11) (foD 11)) (.cond (.tmp 42) (.exit 1) .skip)) (.seq (.region 12 (foO 12) (foD 12)) (.seq (.region 13 (foO 13) false) (.block 2 (.loop (.seq (.region 14 (foO 14) false) (.seq (.cond (.tmp 56) .skip (.exit 2)) (.block 3 (.seq (.region 15 (foO 15) false) (.region 16 (foO 16) (foD 16))))))))))))) (.region 17 (foO 17) (foD 17))))))) Q a w):=by
 have mono:∀ k,k≤100→(zdo ds R k).length≤(zdo ds R 100).length∧(suspTo ds k).length≤(suspTo ds 100).length:=fun k hk=>by
  induction hn:100 - k generalizing k with
  | zero =>
    have:k=100:=by omega
    subst this; exact ⟨zcj _,zcj _⟩
  | succ n ih=>have h1:=ih (k+1) (by omega) (by omega); rw [zqm,zo5,zjz,zjz] at h1; omega
 have hfew:=g.few; have hfewS:=g.fewS; refine wp_block (wp_loop (fun a w=>∃ k gs,k≤100∧List.Perm gs (zdo ds R k)∧NowP w0 S0 κ0 K za1.fn.ntmps Y0 (stF b l ds R gs (suspTo ds k) k) a w) (fun a _=>100 - cnt a 35) ⟨0,[],zoc _,zqP _,h⟩ ?_)
 rintro a w ⟨k,gs,hk,hp,hn⟩
 have hc0:cnt a 35=k:=by rw [hn.cnt (n:=(k:Int)) rfl]; simp
 have hup:∀ (a':Act) (w':World) (gs':List zag),k < 100→List.Perm gs' (zdo ds R (k+1))→NowP w0 S0 κ0 K za1.fn.ntmps Y0 (stF b l ds R gs' (suspTo ds (k+1)) k) a' w'→(Code.region 17 (foO 17) (foD 17)).wp za1.P (Exit.then (fun a' w'=>(∃ k gs,k≤100∧List.Perm gs (zdo ds R k)∧NowP w0 S0 κ0 K za1.fn.ntmps Y0 (stF b l ds R gs (suspTo ds k) k) a' w')∧100 - cnt a' 35 < 100 - cnt a 35) (Exit.inBlock 0 Q)) a' w':=fun a' w' gs' hk' hp' hn'=>by
  refine foStep Stable.none fo_r17 (f17 b l (deskL ds) R _ _ _) hn' (fun a6 w6 h6=>?_); rw [w6Q] at h6; refine ⟨⟨k+1,gs',hk',hp',by exact_mod_cast h6⟩,?_⟩; have:cnt a6 35=k+1:=by rw [h6.cnt (n:=(k:Int)+1) rfl]; omega
  omega
 refine wp_seq (foStep Stable.none fo_r9 (f9 b l (deskL ds) R _ _ _) hn (fun a2 w2 h2=>?_)); refine wp_seq (wp_cond (h2.bool (b:=decide ((k:Int) < 100)) rfl) ?_); by_cases hlt:k < 100
 · rw [decide_eq_true (by omega),if_pos rfl]; refine wp_skip ?_; have h3:=h2.trim Stable.none [4,9,10,34,35] [] (st':=stF b l ds R gs (suspTo ds k) k) (by cases b <;> kernel_rfl); have t:=f10 b l (deskL ds) R (List.map zad gs) (List.map zam (suspTo ds k)) k; have hget:=zB0 ds hlt; rw [cPQ,zav (show ((k:Int)) < 100 by omega)] at t; refine wp_seq (wp_block (wp_seq ?_))
   cases hd:ds k with
   | none =>
     rw [hd] at hget; rw [ztU (by simpa [nDp] using hget)] at t; refine foStep Stable.none fo_r10 t h3 (fun a4 w4 h4=>?_); refine wp_seq (wp_seq (foStep Stable.none fo_r11 (f11n b l (deskL ds) R _ _ _) h4 (fun a5 w5 h5=>?_))); refine wp_cond (h5.bool (b:=true) rfl) ?_; rw [if_pos rfl]; refine wp_exit ?_; have h6:=h5.trim Stable.none [4,9,10,34,35] [] (st':=stF b l ds R gs (suspTo ds k) k) (by cases b <;> kernel_rfl); refine hup a5 w5 gs hlt ?_ ?_
     · rw [zqm,hd]; simpa using hp
     · rw [zo5,hd]; simpa using h6
   | some d =>
     rw [hd] at hget; rw [zB1 (D:=zh8) (x:=d) (by simpa [nDp] using hget)] at t; refine foStep Stable.none fo_r10 t h3 (fun a4 w4 h4=>?_); refine wp_seq (wp_seq (foStep Stable.none fo_r11 (f11d b l (deskL ds) R _ _ _ d) h4 (fun a5 w5 h5=>?_))); refine wp_cond (h5.bool (b:=false) rfl) ?_; rw [iNs]; refine wp_skip ?_; have h6:=h5.trim Stable.none [4,9,10,11,12,34,35] [] (st':=⟨[fS4,fS9 R,fS10,fS11 k,fS12 d,fS34 ds,fS35 k],fM b gs (suspTo ds k) l⟩) (by cases b <;> kernel_rfl); have hm:=mono (k+1) (by omega); rw [zqm,zo5,hd,zjz,zjz] at hm; simp only [zaq] at hm; have t12:=f12 b l (deskL ds) R (List.map zad gs) (List.map zam (suspTo ds k)) k d; rw [zav rfl,zav (by simp only [zaq]; omega)] at t12; refine wp_seq (foStep Stable.none fo_r12 t12 h6 (fun a7 w7 h7=>?_))
     have e1:List.map zam (suspTo ds (k+1))=List.map zam (suspTo ds k)++List.map zam d.suspensions:=by rw [zo5,hd]; simp
     have h8:NowP w0 S0 κ0 K za1.fn.ntmps Y0 ⟨[fS4,fS9 R,fS10,fS11 k,fS12 d,fS34 ds,fS35 k],fM b gs (suspTo ds (k+1)) l⟩ a7 w7:=by unfold fM; rw [e1]; exact h7
     have hgl:gs.length=(zdo ds R k).length:=hp.length_eq; refine fo_range (g.cCount k d hd) (by omega) h8 (fun xs a9 w9 hx h9=>?_); refine hup a9 w9 (gs++xs) hlt ?_ h9; rw [zqm,hd]; exact hp.append hx
 · rw [decide_eq_false (by omega),iNs]; have:k=100:=by omega
   subst this; exact wp_exit (hQ _ _ _ hp (h2.trim Stable.none [4,9,10,34,35] [] (by cases b <;> kernel_rfl)))
abbrev stZ (b:Bool) (l:List zab) (ds:Desks) (R:Reop):St:=⟨[fS4,(5,I 0)],[(4,⟨2,zaI,[[.row 301 8 0 (List.map zad (isort zdz (zdo ds R 100))).length,.row 302 12 0 (List.map zam (suspTo ds 100)).length]],true⟩),(301,⟨8,zao,List.map zad (isort zdz (zdo ds R 100)),false⟩),(302,⟨12,zaC,List.map zam (suspTo ds 100),false⟩)]++frM b 1001 l⟩
theorem fo_body {b:Bool} {s:zaM} {l:List zab} {ds:Desks} {R:Reop} (g:FoLegs b s l ds R) (hl:(isort zdz (zdo ds R 100)).length=(zdo ds R 100).length) (h:NowP w0 S0 κ0 K za1.fn.ntmps Y0 ⟨[(0,.agg (zaA s)),fA b l],(frM b 1001 l)⟩ a w):foC.wp za1.P (PostC w0 S0 κ0 K za1.fn.ntmps .ret (stZ b l ds R)) a w:=by
 rw [fo_shape]; refine wp_seq (foStep Stable.none fo_r0 (f0 b s l) h (fun a1 w1 h1=>?_)); have t1:=f1 b s l; rw [g.cCheck,zbe] at t1; refine wp_seq (wp_seq (foStep Stable.none fo_r1 t1 h1 (fun a2 w2 h2=>?_))); refine wp_cond (h2.bool (b:=false) rfl) ?_; rw [iNs]; refine wp_skip ?_; have h3:=h2.trim Stable.none [1,2,4] [] (st':=⟨[fA b l,fS2,fS4],[fB2 s,fB4]++frM b 1001 l⟩) (by cases b <;> kernel_rfl); have t3:=f3b b s l g.cCanon; refine wp_seq (foStep Stable.none fo_r3 t3 h3 (fun a4 w4 h4=>?_)); refine wp_seq (wp_seq (foStep Stable.none fo_r4 (f4 b s l (canonS l) 0) h4 (fun a5 w5 h5=>?_))); refine wp_cond (h5.bool (b:=false) rfl) ?_; rw [iNs]; refine wp_skip ?_; have h6:=h5.trim Stable.none [2,4,6] [] (st':=⟨[fS2,fS4,(6,.sl 9 (List.map zaa (canonS l)))],[fB2 s,fB4]++frM b 1001 l⟩) (by cases b <;> kernel_rfl); have t6:=f6 b s l (canonS l); rw [g.cWalk,zrC] at t6; refine wp_seq (foStep Stable.none fo_r6 t6 h6 (fun a7 w7 h7=>?_)); refine wp_seq (foStep Stable.none fo_r7 (f7 b l (deskL ds) R) h7 (fun a8 w8 h8=>?_)); refine wp_seq (wp_seq (foStep Stable.none fo_r8 (f8 b l (deskL ds) R [] []) h8 (fun a9 w9 h9=>?_))); refine fo_loop g h9 (fun gs a10 w10 hp h10=>?_); have h11:=h10.trim Stable.none [4,10] [] (st':=⟨[fS4,fS10],fM b gs (suspTo ds 100) l⟩) (by cases b <;> kernel_rfl); have t18:=f18 b l gs (List.map zam (suspTo ds 100)); rw [show List.length (List.map zad gs)=(List.map zad gs).length from rfl,g.cSort gs hp,zlz] at t18; refine wp_seq (foStep Stable.none fo_r18 t18 h11 (fun a12 w12 h12=>?_))
 have hlen:(List.map zad gs).length=(List.map zad (isort zdz (zdo ds R 100))).length:=by rw [zaq,zaq,hp.length_eq,hl]
 rw [hlen] at h12; refine wp_seq (foStep Stable.none fo_r19 (f19 b l _ _) h12 (fun a13 w13 h13=>?_)); refine wp_ret ⟨rfl,?_⟩; obtain ⟨S,κ,hg,_⟩:=h13; exact ⟨S,κ,hg⟩
theorem zB3:enters za1.P zcy=true:=by kernel_rfl
theorem fo_calls {b:Bool} {s:zaM} {l:List zab} {ds:Desks} {R:Reop} (g:FoLegs b s l ds R) (hl:(isort zdz (zdo ds R 100)).length=(zdo ds R 100).length) (w:World) (S:Nat→Prop) (κ:Kap) (vals:Array Value) (hvl:vals.size=2) (hS:∀ g,S g→g < w.heap.size)
  (hv:∀ (k:Nat) (a:AV) (x:Value),[AV.agg (zaA s),frA b 1001 l][k]?=some a→vals[k]?=some x→VRel S κ (Dm (frM b 1001 l)) w a x)
  (hms:∀ d ent,Ab.look (frM b 1001 l) d=some ent→EntAt S κ (Dm (frM b 1001 l)) w (κ d) ent) (hinj:∀ d d' g c c',Dm (frM b 1001 l) d→Dm (frM b 1001 l) d'→κ d=some (g,c)→κ d'=some (g,c')→d=d'):Calls za1.P zcy vals w (Ab.Left S κ (frM b 1001 l) (frM b 1001 l) (.tup [.agg (zc6 ⟨isort zdz (zdo ds R 100),suspTo ds 100⟩),I 0]) w):=by
 have hf:za1.P.funcs[zcy]?=some za1.fn:=by kernel_rfl
 refine zrE (args:=[AV.agg (zaA s),frA b 1001 l]) (frz:=false) (ex:=.ret) (st:=stZ b l ds R) hf fo_hb (show 2≤za1.fn.ntmps by decide) hvl hS hv hms hinj (fun id=>by simp) (fun a hg=>?_) ?_ ?_ ?_
 · obtain ⟨S,κ,hg⟩:=hg; exact fo_body g hl ⟨S,κ,hg,trivial⟩
 · unfold stZ zc6; simp only; generalize List.map zad (isort zdz (zdo ds R 100))=xs; generalize List.map zam (suspTo ds 100)=ys; rw [show ziC za1.P false za1.fn ⟨[fS4,(5,I 0)],[(4,⟨2,zaI,[[.row 301 8 0 xs.length,.row 302 12 0 ys.length]],true⟩),(301,⟨8,zao,xs,false⟩),(302,⟨12,zaC,ys,false⟩)]++frM b 1001 l⟩=outOf false ([(4,⟨2,zaI,[[.row 301 8 0 xs.length,.row 302 12 0 ys.length]],true⟩),(301,⟨8,zao,xs,false⟩),(302,⟨12,zaC,ys,false⟩)]++frM b 1001 l) (.tup [.agg [.row 301 8 0 xs.length,.row 302 12 0 ys.length],I 0]) from by cases b <;> kernel_rfl]; simp [outOf,snap,mapO,Ab.look]
 · cases b <;> kernel_rfl
 · cases b <;> kernel_rfl
end
end
def markEv (s:zaM) (i:Nat) (e:zab):Bool:=e.Kind == 0 && e.Stamp.Source.toNat == i && (fitS s e).isSome && (seedS s e.Script).isNone
theorem zwE (ds:Desks) (i:Nat) (d:zar):upd ds i d i=some d:=by simp [upd]
theorem zt0 (ds:Desks) {i j:Nat} (d:zar) (h:j≠i):upd ds i d j=ds j:=by simp [upd,h]
theorem zED (a:zaW) (d:zar):(reinS a d).marks=d.marks:=by unfold reinS; split <;> rfl
theorem zEC (a:zaW) (d:zar):(reinS a d).level=d.level:=by unfold reinS; split <;> rfl
theorem zDV (p:Int) (f:Bool) (g:zaW) (i:Nat) (m:zbF):(voidIf p f g i m).event=m.event:=by unfold voidIf; split <;> rfl
theorem zEH (id:Int) (a:zaW) (d:zar):(suspS id a d).marks.map (·.event)=d.marks.map (·.event):=by
 unfold suspS; simp only; apply znA; intro j; rw [zeU,zeU,zpj]
 cases d.marks[j]? with
 | none=>rfl
 | some m=>simp [zDV]
theorem zEt (s:zaM) (p:zaQ) (sd:GSeed) (e:zab) (d:zar):(noteS s p sd e d).marks.map (·.event)=d.marks.map (·.event):=by
 unfold noteS; split
 · rfl
 · simp only; split
   · rfl
   · split
     · rfl
     · split
       · rw [zEH]
       · split <;> rfl
theorem zEs (s:zaM) (p:zaQ) (sd:GSeed) (e:zab) (d:zar):(noteS s p sd e d).level=d.level:=by
 unfold noteS; split
 · rfl
 · simp only; split
   · rfl
   · split
     · rfl
     · split
       · rfl
       · split <;> rfl
theorem evS_desk (s:zaM) (st:Desks×Reop) (e:zab) (i:Nat):(∀ d,st.1 i=some d→∃ d',(evS s st e).1 i=some d'∧d'.marks.map (·.event)=d.marks.map (·.event)++(if markEv s i e then [e] else [])∧d'.level=d.level)∧(st.1 i=none→(evS s st e).1 i=none):=by
 have same:(evS s st e).1 i=st.1 i→markEv s i e=false→(∀ d,st.1 i=some d→∃ d',(evS s st e).1 i=some d'∧d'.marks.map (·.event)=d.marks.map (·.event)++(if markEv s i e then [e] else [])∧d'.level=d.level)∧(st.1 i=none→(evS s st e).1 i=none):=fun h1 h2=>⟨fun d hd=>⟨d,by rw [h1,hd],by rw [h2]; simp,rfl⟩,fun hn=>by rw [h1,hn]⟩
 by_cases k1:e.Kind=1
 · have hm:markEv s i e=false:=by unfold markEv; simp [k1]
   cases hd:st.1 e.Marker.toNat with
   | none=>exact same (by unfold evS; rw [if_pos k1]; simp only [hd]) hm
   | some d =>
     have he:(evS s st e).1=upd st.1 e.Marker.toNat (reinS e.Stamp d):=by unfold evS; rw [if_pos k1]; simp only [hd]
     by_cases hi:i=e.Marker.toNat
     · subst hi; refine ⟨fun d' hd'=>⟨_,by rw [he,zwE],?_,?_⟩,fun hn=>by rw [hn] at hd; cases hd⟩
       · rw [hd] at hd'; injection hd' with hd'; subst hd'; rw [hm,zED]; simp
       · rw [hd] at hd'; injection hd' with hd'; subst hd'; exact zEC _ _
     · exact same (by rw [he,zt0 _ _ hi]) hm
 by_cases k2:e.Kind=2
 · have hm:markEv s i e=false:=by unfold markEv; simp [k2]
   exact same (by unfold evS; rw [if_neg k1,if_pos k2]) hm
 by_cases k0:e.Kind=0
 case neg =>
  have hm:markEv s i e=false:=by unfold markEv; simp [k0]
  exact same (by unfold evS; rw [if_neg k1,if_neg k2,if_neg k0]) hm
 cases hd:st.1 e.Stamp.Source.toNat with
 | none =>
   have he:(evS s st e).1=st.1:=by unfold evS; rw [if_neg k1,if_neg k2,if_pos k0]; simp only [hd]
   refine ⟨fun d hd'=>⟨d,by rw [he,hd'],?_,rfl⟩,fun hn=>by rw [he,hn]⟩
   have:markEv s i e=false:=by
    unfold markEv
    have:(e.Stamp.Source.toNat == i)=false:=by rw [beq_eq_false_iff_ne]; intro h; rw [h] at hd; rw [hd] at hd'; cases hd'
    simp [this]
   rw [this]; simp
 | some d =>
   cases hf:fitS s e with
   | none =>
     have he:(evS s st e).1=st.1:=by unfold evS; rw [if_neg k1,if_neg k2,if_pos k0]; simp only [hd,hf]
     exact same (by rw [he]) (by unfold markEv; simp [hf])
   | some q =>
     obtain ⟨x,p,y,h1,h2,h3,h4,h5,h6,h7,h8⟩:=fitS_at hf; have hp:s.Papers[q]?=some p:=(zmb h3).1
     cases hs:seedS s e.Script with
     | some sd =>
       have he:(evS s st e).1=upd st.1 e.Stamp.Source.toNat (noteS s p sd e d):=by unfold evS; rw [if_neg k1,if_neg k2,if_pos k0]; simp only [hd,hf,hs,hp]
       have hm:markEv s i e=false:=by unfold markEv; simp [hs]
       by_cases hi:i=e.Stamp.Source.toNat
       · subst hi; refine ⟨fun d' hd'=>⟨_,by rw [he,zwE],?_,?_⟩,fun hn=>by rw [hn] at hd; cases hd⟩
         · rw [hd] at hd'; injection hd' with hd'; subst hd'; rw [hm,zEt]; simp
         · rw [hd] at hd'; injection hd' with hd'; subst hd'; exact zEs _ _ _ _ _
       · exact same (by rw [he,zt0 _ _ hi]) hm
     | none =>
       have he:(evS s st e).1=upd st.1 e.Stamp.Source.toNat { d with marks:=d.marks++[⟨e,d.watch.Suspended⟩] }:=by unfold evS; rw [if_neg k1,if_neg k2,if_pos k0]; simp only [hd,hf,hs]
       by_cases hi:i=e.Stamp.Source.toNat
       · subst hi; have hm:markEv s e.Stamp.Source.toNat e=true:=by unfold markEv; simp [k0,hf,hs]
         refine ⟨fun d' hd'=>⟨_,by rw [he,zwE],?_,?_⟩,fun hn=>by rw [hn] at hd; cases hd⟩
         · rw [hd] at hd'; injection hd' with hd'; subst hd'; rw [hm]; simp
         · rw [hd] at hd'; injection hd' with hd'; subst hd'; rfl
       · exact same (by rw [he,zt0 _ _ hi]) (by unfold markEv; simp [show ¬ e.Stamp.Source.toNat=i from fun h=>hi h.symm])
theorem zCu (s:zaM):∀ (ev:List zab) (st:Desks×Reop) (i:Nat),(∀ d,st.1 i=some d→∃ d',(ev.foldl (evS s) st).1 i=some d'∧d'.marks.map (·.event)=d.marks.map (·.event)++ev.filter (markEv s i)∧d'.level=d.level)∧(st.1 i=none→(ev.foldl (evS s) st).1 i=none)
 | [],st,i=>⟨fun d hd=>⟨d,hd,by simp,rfl⟩,fun h=>h⟩
 | e :: r,st,i=>by obtain ⟨h1,h2⟩:=evS_desk s st e i; obtain ⟨h3,h4⟩:=zCu s r (evS s st e) i; refine ⟨fun d hd=>?_,fun hn=>h4 (h2 hn)⟩; obtain ⟨d',e1,e2,e3⟩:=h1 d hd; obtain ⟨d'',e4,e5,e6⟩:=h3 d' e1; refine ⟨d'',e4,?_,e6.trans e3⟩; rw [e5,e2,zjx,zzC]; split <;> simp
theorem zCo (ms:List zbh) (i:Nat):∀ d,seats ms i=some d→∃ m∈ms,m.ID.toNat=i∧d=desk0 m.Level:=by
 have key:∀ (ms:List zbh) (ds:Desks) d,(ms.foldl (fun ds m=>upd ds m.ID.toNat (desk0 m.Level)) ds) i=some d→ds i=some d∨∃ m∈ms,m.ID.toNat=i∧d=desk0 m.Level:=by
  intro ms
  induction ms with
  | nil=>intro ds d h; exact .inl h
  | cons m ms ih =>
    intro ds d h; rcases ih _ d h with h | ⟨m',h1,h2⟩
    · replace h:upd ds m.ID.toNat (desk0 m.Level) i=some d:=h; by_cases hi:i=m.ID.toNat
      · rw [hi,zwE] at h; injection h with h; exact .inr ⟨m,by simp,hi.symm,h.symm⟩
      · rw [zt0 _ _ hi] at h; exact .inl h
    · exact .inr ⟨m',by simp [h1],h2⟩
 intro d h; rcases key ms (fun _=>none) d h with h | h
 · cases h
 · exact h
theorem walk_marks {s:zaM} {ev:List zab} {i:Nat} {d:zar} (h:(walkS s ev).1 i=some d):d.marks.map (·.event)=ev.filter (markEv s i):=by
 obtain ⟨h1,h2⟩:=zCu s ev (seats s.Markers,[]) i
 cases hs:seats s.Markers i with
 | none=>rw [show (walkS s ev).1 i=none from h2 hs] at h; cases h
 | some d0=>obtain ⟨d',e1,e2,_⟩:=h1 d0 hs; obtain ⟨m,_,_,hd0⟩:=zCo _ _ _ hs; rw [show (walkS s ev).1 i=some d' from e1] at h; injection h with h; subst h; rw [e2,hd0]; simp [desk0]
theorem filters_le {α:Type} (p:Nat→α→Bool) (hp:∀ x i j,p i x=true→p j x=true→i=j):∀ (n:Nat) (l:List α),((List.range n).map fun i=>(l.filter (p i)).length).sum≤l.length:=by
 intro n l
 induction l with
 | nil =>
   simp only [List.filter_nil,zuS]
   induction n with
   | zero=>simp
   | succ n ih=>rw [zs4,znz,zs5]; simp; omega
 | cons x r ih =>
   have:((List.range n).map fun i=>((x :: r).filter (p i)).length).sum≤((List.range n).map fun i=>(r.filter (p i)).length).sum+1:=by
    have key:∀ n,((List.range n).map fun i=>((x :: r).filter (p i)).length).sum=((List.range n).map fun i=>(r.filter (p i)).length).sum+(if ∃ i,i < n∧p i x=true then 1 else 0):=by
     intro n
     induction n with
     | zero=>simp
     | succ n ihn =>
       rw [zs4,znz,znz,zs5,zs5,ihn]; simp only [zd0,zye,List.sum_cons,List.sum_nil,zn9,zzC]; by_cases hn:p n x=true
       · rw [if_pos hn,if_neg (fun ⟨i,h1,h2⟩=>by have:=hp x i n h2 hn; omega),if_pos ⟨n,by omega,hn⟩]; simp only [zi7]; omega
       · rw [if_neg hn]; by_cases h:∃ i,i < n∧p i x=true
         · rw [if_pos h,if_pos (by obtain ⟨i,h1,h2⟩:=h; exact ⟨i,by omega,h2⟩)]; omega
         · rw [if_neg h,if_neg (fun ⟨i,h1,h2⟩=>by
            by_cases hi:i=n
            · rw [hi] at h2; exact hn h2
            · exact h ⟨i,by omega,h2⟩)]
           omega
    rw [key n]; split <;> omega
   simp only [zi7]; omega
theorem zy1 (d:zar) (R:Reop):∀ (l:List zbF) (m:Counts),(l.foldl (zjt d R) m).length≤m.length+l.length
 | [],m=>by simp
 | x :: r,m=>by
   have h1:=zy1 d R r (zjt d R m x)
   have h2:(zjt d R m x).length≤m.length+1:=by
    unfold zjt; split
    · omega
    · split
      · omega
      · exact zwp
   simp only [List.foldl_cons,zi7]; omega
theorem countS_len (d:zar) (R:Reop):(countS d R).length≤d.marks.length:=by have:=zy1 d R d.marks []; simpa [countS] using this
theorem sum_flat {α:Type} (f:Nat→List α):∀ n,((List.range n).flatMap f).length=((List.range n).map fun i=>(f i).length).sum:=by intro n; rw [List.length_flatMap]
theorem sum_le_sum {f g:Nat→Nat} (h:∀ i,f i≤g i):∀ n,((List.range n).map f).sum≤((List.range n).map g).sum:=by
 intro n
 induction n with
 | zero=>simp
 | succ n ih=>rw [zs4,znz,znz,zs5,zs5]; have:=h n; simp; omega
theorem zuq (s:zaM) (ev:List zab) (R:Reop) (n:Nat):(zdo (walkS s ev).1 R n).length≤ev.length:=by
 unfold zdo; rw [sum_flat]; refine zgk (sum_le_sum (g:=fun i=>(ev.filter (markEv s i)).length) (fun i=>?_) n) (filters_le (markEv s) (fun x i j h1 h2=>?_) n ev)
 · cases hd:(walkS s ev).1 i with
   | none=>simp
   | some d=>simp only [zaq]; have h1:=countS_len d R; have h2:=congrArg List.length (walk_marks hd); simp only [zaq] at h2; omega
 · unfold markEv at h1 h2; simp only [zcm,beq_iff_eq] at h1 h2; omega
def KeyedC (m:Counts):Prop:=(m.map (·.1)).Nodup∧∀ p∈m,p.1=⟨p.2.Script,p.2.Part⟩
theorem zDz (d:zar) (R:Reop):KeyedC (countS d R):=by
 have key:∀ (l:List zbF) (m:Counts),KeyedC m→KeyedC (l.foldl (zjt d R) m):=by
  intro l
  induction l with
  | nil=>intro m h; exact h
  | cons x r ih =>
    intro m h; refine ih _ ?_; unfold zjt; split
    · exact h
    · split
      · exact h
      · refine ⟨(zxZ h.1).1,fun p hp=>?_⟩; rcases zpx hp with rfl | hp
        · rfl
        · exact h.2 p hp
 exact key _ [] ⟨by simp,by simp⟩
theorem zy9 {ds:Desks} {R:Reop} {n:Nat} {g:zag}:g∈zdo ds R n↔∃ i,i < n∧∃ d,ds i=some d∧∃ p∈countS d R,g=zdn i d p.2:=by
 unfold zdo; rw [zdJ]; constructor
 · rintro ⟨i,hi,hg⟩
   cases hd:ds i with
   | none=>rw [hd] at hg; cases hg
   | some d=>rw [hd] at hg; obtain ⟨p,hp,rfl⟩:=zca.1 hg; exact ⟨i,zoe.1 hi,d,hd,p,hp,rfl⟩
 · rintro ⟨i,hi,d,hd,p,hp,rfl⟩
   refine ⟨i,zoe.2 hi,?_⟩; rw [hd]; exact zca.2 ⟨p,hp,rfl⟩
theorem given_inj {ds:Desks} {R:Reop} {n:Nat} {a b:zag} (ha:a∈zdo ds R n) (hb:b∈zdo ds R n) (h1:a.Script=b.Script) (h2:a.Part=b.Part) (h3:a.Marker=b.Marker):a=b:=by
 obtain ⟨i,hi,d,hd,p,hp,rfl⟩:=zy9.1 ha; obtain ⟨j,hj,f,hf,q,hq,rfl⟩:=zy9.1 hb; unfold zdn at h1 h2 h3; simp only at h1 h2 h3; have:i=j:=by omega
 subst this; rw [hd] at hf; injection hf with hf; subst hf; obtain ⟨k1,k2⟩:=zDz d R; have e:p.1=q.1:=by rw [k2 p hp,k2 q hq,h1,h2]
 have:p=q:=by
  have:∀ {l:Counts},(l.map (·.1)).Nodup→p∈l→q∈l→p=q:=by
   intro l
   induction l with
   | nil=>intro _ h; cases h
   | cons x r ih =>
     intro hn h1 h2; obtain ⟨n1,n2⟩:=zi6.1 hn; rcases zbg.1 h1 with e1 | h1
     · rcases zbg.1 h2 with e2 | h2
       · rw [e1,e2]
       · exact absurd (zca.2 ⟨q,h2,by rw [← e,e1]⟩) n1
     · rcases zbg.1 h2 with e2 | h2
       · exact absurd (zca.2 ⟨p,h1,by rw [e,e2]⟩) n1
       · exact ih n2 h1 h2
  exact this k1 hp hq
 rw [this]
end Go.Proofs.YtikogkgdkdmljaaGreat
end
