/- What the functions compute, between two cut points: printed by a program, checked by the kernel. -/
import Derived.Test.YticojpmhlhfhlaaGreatAnn
namespace Go.Proofs.YticojpmhlhfhlaaGreat
open Go.Ab
set_option maxRecDepth 100000
set_option linter.unusedVariables false
noncomputable def zcs (a0:GSetup) (a1:List GMarkEvent) (a2:Int) (x0:List (List AV)) (x1:GWatch) (x2:GStamp) (x3:List (List AV)) (x4:List (List AV)) (x5:Bool) (x6:Int):Option (AV×Mem):=pt zaN 1 ⟨[(1,AV.sl 9 (List.map zab a1)),(2,I a2),(3,AV.loc 3 9 0 0),(8,AV.row 28 1 0 ((List.replicate (↑(List.map zab a1).length:Int).toNat (AV.v (Go.Value.bool false) :: List.map AV.v [])).length)),(9,AV.row 9 12 0 (List.length x0)),(10,AV.loc 10 2 0 0),(11,AV.map 29),(12,AV.loc 12 3 0 0),(13,B x5),(14,I 0),(15,I x6)],[(3,⟨9,zaE,[zat a0],true⟩),(9,⟨12,zaI,x0,false⟩),(10,⟨2,zaQ,[za7 x1],true⟩),(12,⟨3,zaS,[zaT x2],true⟩),(28,⟨1,zbn,x3,false⟩),(29,⟨0,zay,x4,false⟩)]⟩
noncomputable def zex (a0:GSetup) (a1:List GMarkEvent) (a2:Int) (x10:List (List AV)) (x11:GWatch) (x12:GStamp) (x13:List (List AV)) (x14:List (List AV)) (x15:Nat) (x16:Bool) (x17:Int) (x18:Int):Option (AV×Mem):=pt zaN 1008 ⟨[(1,AV.sl 9 (List.map zab a1)),(2,I a2),(3,AV.loc 3 9 0 0),(8,AV.row 28 1 0 ((List.replicate (↑(List.map zab a1).length:Int).toNat (AV.v (Go.Value.bool false) :: List.map AV.v [])).length)),(9,AV.row 9 12 0 x15),(10,AV.loc 10 2 0 0),(11,AV.map 68),(12,AV.loc 12 3 0 0),(13,B x16),(14,I x17),(15,I x18)],[(3,⟨9,zaE,[zat a0],true⟩),(9,⟨12,zaI,x10,false⟩),(10,⟨2,zaQ,[za7 x11],true⟩),(12,⟨3,zaS,[zaT x12],true⟩),(28,⟨1,zbn,x13,false⟩),(68,⟨0,zay,x14,false⟩)]⟩
noncomputable def zf7 (a0:GSetup) (a1:List GMarkEvent) (a2:Int) (x0:List (List AV)) (x1:GWatch) (x2:GStamp) (x3:List (List AV)) (x4:List (List AV)) (x5:Bool) (x6:Int) (c7:GMarkEvent):Option (AV×Mem):=pt zaN 1014 ⟨[(1,AV.sl 9 (List.map zab a1)),(2,I a2),(3,AV.loc 3 9 0 0),(8,AV.row 28 1 0 ((List.replicate (↑(List.map zab a1).length:Int).toNat (AV.v (Go.Value.bool false) :: List.map AV.v [])).length)),(9,AV.row 9 12 0 (List.length x0)),(10,AV.loc 10 2 0 0),(11,AV.map 29),(12,AV.loc 12 3 0 0),(13,B x5),(14,I 0),(15,I x6),(16,AV.loc 16 9 0 0),(53,B false)],[(3,⟨9,zaE,[zat a0],true⟩),(9,⟨12,zaI,x0,false⟩),(10,⟨2,zaQ,[za7 x1],true⟩),(12,⟨3,zaS,[zaT x2],true⟩),(16,⟨9,zar,[zab c7],true⟩),(28,⟨1,zbn,x3,false⟩),(29,⟨0,zay,x4,false⟩)]⟩
noncomputable def zcl (a0:GSetup) (a1:List GMarkEvent) (a2:Int) (x12:GStamp) (x16:Bool) (x17:Int) (x19:List (List AV)) (x20:GWatch) (x21:List (List AV)) (x22:List (List AV)) (x23:Nat) (x24:Int):Option (AV×Mem):=pt zaN 1 ⟨[(1,AV.sl 9 (List.map zab a1)),(2,I a2),(3,AV.loc 3 9 0 0),(8,AV.row 28 1 0 ((List.replicate (↑(List.map zab a1).length:Int).toNat (AV.v (Go.Value.bool false) :: List.map AV.v [])).length)),(9,AV.row 9 12 0 x23),(10,AV.loc 10 2 0 0),(11,AV.map 68),(12,AV.loc 12 3 0 0),(13,B x16),(14,I x17),(15,I x24)],[(3,⟨9,zaE,[zat a0],true⟩),(9,⟨12,zaI,x19,false⟩),(10,⟨2,zaQ,[za7 x20],true⟩),(12,⟨3,zaS,[zaT x12],true⟩),(28,⟨1,zbn,x21,false⟩),(68,⟨0,zay,x22,false⟩)]⟩
noncomputable def zgZ (a0:GSetup) (a1:List GMarkEvent) (a2:Int) (x0:List (List AV)) (x1:GWatch) (x2:GStamp) (x3:List (List AV)) (x4:List (List AV)) (x5:Bool) (x6:Int) (c7:GMarkEvent):Option (AV×Mem):=pt zaN 1008 ⟨[(1,AV.sl 9 (List.map zab a1)),(2,I a2),(3,AV.loc 3 9 0 0),(8,AV.row 28 1 0 ((List.replicate (↑(List.map zab a1).length:Int).toNat (AV.v (Go.Value.bool false) :: List.map AV.v [])).length)),(9,AV.row 9 12 0 (List.length x0)),(10,AV.loc 10 2 0 0),(11,AV.map 29),(12,AV.loc 12 3 0 0),(13,B x5),(14,I 0),(15,I x6),(16,AV.loc 16 9 0 0),(81,B true)],[(3,⟨9,zaE,[zat a0],true⟩),(9,⟨12,zaI,x0,false⟩),(10,⟨2,zaQ,[za7 x1],true⟩),(12,⟨3,zaS,[zaT x2],true⟩),(16,⟨9,zar,[zab c7],true⟩),(28,⟨1,zbn,x3,false⟩),(29,⟨0,zay,x4,false⟩)]⟩
noncomputable def zsQ (a0:GSetup) (a1:List GMarkEvent) (a2:Int) (x0:List (List AV)) (x1:GWatch) (x2:GStamp) (x3:List (List AV)) (x4:List (List AV)) (x5:Bool) (x6:Int) (c7:GMarkEvent):Option (AV×Mem):=pt zaN 1015 ⟨[(1,AV.sl 9 (List.map zab a1)),(2,I a2),(3,AV.loc 3 9 0 0),(8,AV.row 28 1 0 ((List.replicate (↑(List.map zab a1).length:Int).toNat (AV.v (Go.Value.bool false) :: List.map AV.v [])).length)),(9,AV.row 9 12 0 (List.length x0)),(10,AV.loc 10 2 0 0),(11,AV.map 29),(12,AV.loc 12 3 0 0),(13,B x5),(14,I 0),(15,I x6),(16,AV.loc 16 9 0 0),(81,B false)],[(3,⟨9,zaE,[zat a0],true⟩),(9,⟨12,zaI,x0,false⟩),(10,⟨2,zaQ,[za7 x1],true⟩),(12,⟨3,zaS,[zaT x2],true⟩),(16,⟨9,zar,[zab c7],true⟩),(28,⟨1,zbn,x3,false⟩),(29,⟨0,zay,x4,false⟩)]⟩
noncomputable def ze2 (a0:GSetup) (a1:List GMarkEvent) (a2:Int) (x12:GStamp) (x16:Bool) (x17:Int) (x19:List (List AV)) (x20:GWatch) (x21:List (List AV)) (x22:List (List AV)) (x23:Nat) (x24:Int) (c25:GMarkEvent):Option (AV×Mem):=pt zaN 1014 ⟨[(1,AV.sl 9 (List.map zab a1)),(2,I a2),(3,AV.loc 3 9 0 0),(8,AV.row 28 1 0 ((List.replicate (↑(List.map zab a1).length:Int).toNat (AV.v (Go.Value.bool false) :: List.map AV.v [])).length)),(9,AV.row 9 12 0 x23),(10,AV.loc 10 2 0 0),(11,AV.map 68),(12,AV.loc 12 3 0 0),(13,B x16),(14,I x17),(15,I x24),(16,AV.loc 16 9 0 0),(53,B false)],[(3,⟨9,zaE,[zat a0],true⟩),(9,⟨12,zaI,x19,false⟩),(10,⟨2,zaQ,[za7 x20],true⟩),(12,⟨3,zaS,[zaT x12],true⟩),(16,⟨9,zar,[zab c25],true⟩),(28,⟨1,zbn,x21,false⟩),(68,⟨0,zay,x22,false⟩)]⟩
noncomputable def zgX (a0:GSetup) (a1:List GMarkEvent) (a2:Int) (x0:List (List AV)) (x6:Int) (x29:GWatch) (x30:GStamp) (x31:List (List AV)) (x32:List (List AV)) (x33:Bool):Option (AV×Mem):=pt zaN 1008 ⟨[(1,AV.sl 9 (List.map zab a1)),(2,I a2),(3,AV.loc 3 9 0 0),(8,AV.row 28 1 0 ((List.replicate (↑(List.map zab a1).length:Int).toNat (AV.v (Go.Value.bool false) :: List.map AV.v [])).length)),(9,AV.row 9 12 0 (List.length x0)),(10,AV.loc 10 2 0 0),(11,AV.map 29),(12,AV.loc 12 3 0 0),(13,B x33),(14,I 0),(15,I x6)],[(3,⟨9,zaE,[zat a0],true⟩),(9,⟨12,zaI,x0,false⟩),(10,⟨2,zaQ,[za7 x29],true⟩),(12,⟨3,zaS,[zaT x30],true⟩),(28,⟨1,zbn,x31,false⟩),(29,⟨0,zay,x32,false⟩)]⟩
noncomputable def zs1 (a0:GSetup) (a1:List GMarkEvent) (a2:Int) (x0:List (List AV)) (x1:GWatch) (x2:GStamp) (x3:List (List AV)) (x4:List (List AV)) (x5:Bool) (x6:Int) (c7:GMarkEvent):Option (AV×Mem):=pt zaN 1017 ⟨[(1,AV.sl 9 (List.map zab a1)),(2,I a2),(3,AV.loc 3 9 0 0),(8,AV.row 28 1 0 ((List.replicate (↑(List.map zab a1).length:Int).toNat (AV.v (Go.Value.bool false) :: List.map AV.v [])).length)),(9,AV.row 9 12 0 (List.length x0)),(10,AV.loc 10 2 0 0),(11,AV.map 29),(12,AV.loc 12 3 0 0),(13,B x5),(14,I 0),(15,I x6),(16,AV.loc 16 9 0 0),(83,B false)],[(3,⟨9,zaE,[zat a0],true⟩),(9,⟨12,zaI,x0,false⟩),(10,⟨2,zaQ,[za7 x1],true⟩),(12,⟨3,zaS,[zaT x2],true⟩),(16,⟨9,zar,[zab c7],true⟩),(28,⟨1,zbn,x3,false⟩),(29,⟨0,zay,x4,false⟩)]⟩
noncomputable def zhi (a0:GSetup) (a1:List GMarkEvent) (a2:Int) (x12:GStamp) (x16:Bool) (x17:Int) (x19:List (List AV)) (x20:GWatch) (x21:List (List AV)) (x22:List (List AV)) (x23:Nat) (x24:Int) (c25:GMarkEvent):Option (AV×Mem):=pt zaN 1008 ⟨[(1,AV.sl 9 (List.map zab a1)),(2,I a2),(3,AV.loc 3 9 0 0),(8,AV.row 28 1 0 ((List.replicate (↑(List.map zab a1).length:Int).toNat (AV.v (Go.Value.bool false) :: List.map AV.v [])).length)),(9,AV.row 9 12 0 x23),(10,AV.loc 10 2 0 0),(11,AV.map 68),(12,AV.loc 12 3 0 0),(13,B x16),(14,I x17),(15,I x24),(16,AV.loc 16 9 0 0),(81,B true)],[(3,⟨9,zaE,[zat a0],true⟩),(9,⟨12,zaI,x19,false⟩),(10,⟨2,zaQ,[za7 x20],true⟩),(12,⟨3,zaS,[zaT x12],true⟩),(16,⟨9,zar,[zab c25],true⟩),(28,⟨1,zbn,x21,false⟩),(68,⟨0,zay,x22,false⟩)]⟩
noncomputable def zqt (a0:GSetup) (a1:List GMarkEvent) (a2:Int) (x12:GStamp) (x16:Bool) (x17:Int) (x19:List (List AV)) (x20:GWatch) (x21:List (List AV)) (x22:List (List AV)) (x23:Nat) (x24:Int) (c25:GMarkEvent):Option (AV×Mem):=pt zaN 1015 ⟨[(1,AV.sl 9 (List.map zab a1)),(2,I a2),(3,AV.loc 3 9 0 0),(8,AV.row 28 1 0 ((List.replicate (↑(List.map zab a1).length:Int).toNat (AV.v (Go.Value.bool false) :: List.map AV.v [])).length)),(9,AV.row 9 12 0 x23),(10,AV.loc 10 2 0 0),(11,AV.map 68),(12,AV.loc 12 3 0 0),(13,B x16),(14,I x17),(15,I x24),(16,AV.loc 16 9 0 0),(81,B false)],[(3,⟨9,zaE,[zat a0],true⟩),(9,⟨12,zaI,x19,false⟩),(10,⟨2,zaQ,[za7 x20],true⟩),(12,⟨3,zaS,[zaT x12],true⟩),(16,⟨9,zar,[zab c25],true⟩),(28,⟨1,zbn,x21,false⟩),(68,⟨0,zay,x22,false⟩)]⟩
noncomputable def zg9 (a0:GSetup) (a1:List GMarkEvent) (a2:Int) (x0:List (List AV)) (x1:GWatch) (x2:GStamp) (x3:List (List AV)) (x4:List (List AV)) (x5:Bool) (x6:Int) (c7:GMarkEvent):Option (AV×Mem):=pt zaN 1008 ⟨[(1,AV.sl 9 (List.map zab a1)),(2,I a2),(3,AV.loc 3 9 0 0),(8,AV.row 28 1 0 ((List.replicate (↑(List.map zab a1).length:Int).toNat (AV.v (Go.Value.bool false) :: List.map AV.v [])).length)),(9,AV.row 9 12 0 (List.length x0)),(10,AV.loc 10 2 0 0),(11,AV.map 29),(12,AV.loc 12 3 0 0),(13,B x5),(14,I 0),(15,I x6),(16,AV.loc 16 9 0 0),(102,B true)],[(3,⟨9,zaE,[zat a0],true⟩),(9,⟨12,zaI,x0,false⟩),(10,⟨2,zaQ,[za7 x1],true⟩),(12,⟨3,zaS,[zaT x2],true⟩),(16,⟨9,zar,[zab c7],true⟩),(28,⟨1,zbn,x3,false⟩),(29,⟨0,zay,x4,false⟩)]⟩
noncomputable def zmC (a0:GSetup) (a1:List GMarkEvent) (a2:Int) (x0:List (List AV)) (x1:GWatch) (x2:GStamp) (x3:List (List AV)) (x4:List (List AV)) (x5:Bool) (x6:Int) (c7:GMarkEvent):Option (AV×Mem):=pt zaN 1019 ⟨[(1,AV.sl 9 (List.map zab a1)),(2,I a2),(3,AV.loc 3 9 0 0),(8,AV.row 28 1 0 ((List.replicate (↑(List.map zab a1).length:Int).toNat (AV.v (Go.Value.bool false) :: List.map AV.v [])).length)),(9,AV.row 9 12 0 (List.length x0)),(10,AV.loc 10 2 0 0),(11,AV.map 29),(12,AV.loc 12 3 0 0),(13,B x5),(14,I 0),(15,I x6),(16,AV.loc 16 9 0 0),(102,B false)],[(3,⟨9,zaE,[zat a0],true⟩),(9,⟨12,zaI,x0,false⟩),(10,⟨2,zaQ,[za7 x1],true⟩),(12,⟨3,zaS,[zaT x2],true⟩),(16,⟨9,zar,[zab c7],true⟩),(28,⟨1,zbn,x3,false⟩),(29,⟨0,zay,x4,false⟩)]⟩
noncomputable def zqu (a0:GSetup) (a1:List GMarkEvent) (a2:Int) (x12:GStamp) (x16:Bool) (x17:Int) (x19:List (List AV)) (x20:GWatch) (x21:List (List AV)) (x22:List (List AV)) (x23:Nat) (x24:Int) (c25:GMarkEvent):Option (AV×Mem):=pt zaN 1017 ⟨[(1,AV.sl 9 (List.map zab a1)),(2,I a2),(3,AV.loc 3 9 0 0),(8,AV.row 28 1 0 ((List.replicate (↑(List.map zab a1).length:Int).toNat (AV.v (Go.Value.bool false) :: List.map AV.v [])).length)),(9,AV.row 9 12 0 x23),(10,AV.loc 10 2 0 0),(11,AV.map 68),(12,AV.loc 12 3 0 0),(13,B x16),(14,I x17),(15,I x24),(16,AV.loc 16 9 0 0),(83,B false)],[(3,⟨9,zaE,[zat a0],true⟩),(9,⟨12,zaI,x19,false⟩),(10,⟨2,zaQ,[za7 x20],true⟩),(12,⟨3,zaS,[zaT x12],true⟩),(16,⟨9,zar,[zab c25],true⟩),(28,⟨1,zbn,x21,false⟩),(68,⟨0,zay,x22,false⟩)]⟩
noncomputable def ziG (a0:GSetup) (a1:List GMarkEvent) (a2:Int) (x0:List (List AV)) (x1:GWatch) (x2:GStamp) (x3:List (List AV)) (x4:List (List AV)) (x5:Bool) (x6:Int) (c7:GMarkEvent) (c37:List Gref29Noted) (x39:Bool) (x40:Int):Option (AV×Mem):=pt zaN 2 ⟨[(1,AV.sl 9 (List.map zab a1)),(2,I a2),(3,AV.loc 3 9 0 0),(8,AV.row 28 1 0 ((List.replicate (↑(List.map zab a1).length:Int).toNat (AV.v (Go.Value.bool false) :: List.map AV.v [])).length)),(9,AV.row 9 12 0 (List.length x0)),(10,AV.loc 10 2 0 0),(11,AV.map 29),(12,AV.loc 12 3 0 0),(13,B x5),(14,I 0),(15,I x6),(16,AV.loc 16 9 0 0),(20,AV.sl 2 (List.map zaD c37)),(21,B x39),(22,I x40)],[(3,⟨9,zaE,[zat a0],true⟩),(9,⟨12,zaI,x0,false⟩),(10,⟨2,zaQ,[za7 x1],true⟩),(12,⟨3,zaS,[zaT x2],true⟩),(16,⟨9,zar,[zab c7],true⟩),(28,⟨1,zbn,x3,false⟩),(29,⟨0,zay,x4,false⟩)]⟩
noncomputable def zhj (a0:GSetup) (a1:List GMarkEvent) (a2:Int) (x12:GStamp) (x16:Bool) (x17:Int) (x19:List (List AV)) (x20:GWatch) (x21:List (List AV)) (x22:List (List AV)) (x23:Nat) (x24:Int) (c25:GMarkEvent):Option (AV×Mem):=pt zaN 1008 ⟨[(1,AV.sl 9 (List.map zab a1)),(2,I a2),(3,AV.loc 3 9 0 0),(8,AV.row 28 1 0 ((List.replicate (↑(List.map zab a1).length:Int).toNat (AV.v (Go.Value.bool false) :: List.map AV.v [])).length)),(9,AV.row 9 12 0 x23),(10,AV.loc 10 2 0 0),(11,AV.map 68),(12,AV.loc 12 3 0 0),(13,B x16),(14,I x17),(15,I x24),(16,AV.loc 16 9 0 0),(102,B true)],[(3,⟨9,zaE,[zat a0],true⟩),(9,⟨12,zaI,x19,false⟩),(10,⟨2,zaQ,[za7 x20],true⟩),(12,⟨3,zaS,[zaT x12],true⟩),(16,⟨9,zar,[zab c25],true⟩),(28,⟨1,zbn,x21,false⟩),(68,⟨0,zay,x22,false⟩)]⟩
noncomputable def zkx (a0:GSetup) (a1:List GMarkEvent) (a2:Int) (x12:GStamp) (x16:Bool) (x17:Int) (x19:List (List AV)) (x20:GWatch) (x21:List (List AV)) (x22:List (List AV)) (x23:Nat) (x24:Int) (c25:GMarkEvent):Option (AV×Mem):=pt zaN 1019 ⟨[(1,AV.sl 9 (List.map zab a1)),(2,I a2),(3,AV.loc 3 9 0 0),(8,AV.row 28 1 0 ((List.replicate (↑(List.map zab a1).length:Int).toNat (AV.v (Go.Value.bool false) :: List.map AV.v [])).length)),(9,AV.row 9 12 0 x23),(10,AV.loc 10 2 0 0),(11,AV.map 68),(12,AV.loc 12 3 0 0),(13,B x16),(14,I x17),(15,I x24),(16,AV.loc 16 9 0 0),(102,B false)],[(3,⟨9,zaE,[zat a0],true⟩),(9,⟨12,zaI,x19,false⟩),(10,⟨2,zaQ,[za7 x20],true⟩),(12,⟨3,zaS,[zaT x12],true⟩),(16,⟨9,zar,[zab c25],true⟩),(28,⟨1,zbn,x21,false⟩),(68,⟨0,zay,x22,false⟩)]⟩
noncomputable def zqM (a0:GSetup) (a1:List GMarkEvent) (a2:Int) (x0:List (List AV)) (x1:GWatch) (x2:GStamp) (x3:List (List AV)) (x4:List (List AV)) (x5:Bool) (x6:Int) (c7:GMarkEvent) (c37:List Gref29Noted):Option (AV×Mem):=pt zaN 1008 ⟨[(1,AV.sl 9 (List.map zab a1)),(2,I a2),(3,AV.loc 3 9 0 0),(8,AV.row 28 1 0 ((List.replicate (↑(List.map zab a1).length:Int).toNat (AV.v (Go.Value.bool false) :: List.map AV.v [])).length)),(9,AV.row 9 12 0 (List.length x0)),(10,AV.loc 10 2 0 0),(11,AV.map 29),(12,AV.loc 12 3 0 0),(13,B x5),(14,I 0),(15,I x6),(16,AV.loc 16 9 0 0),(20,AV.sl 2 (List.map zaD c37)),(124,B true)],[(3,⟨9,zaE,[zat a0],true⟩),(9,⟨12,zaI,x0,false⟩),(10,⟨2,zaQ,[za7 x1],true⟩),(12,⟨3,zaS,[zaT x2],true⟩),(16,⟨9,zar,[zab c7],true⟩),(28,⟨1,zbn,x3,false⟩),(29,⟨0,zay,x4,false⟩)]⟩
noncomputable def zmM (a0:GSetup) (a1:List GMarkEvent) (a2:Int) (x0:List (List AV)) (x1:GWatch) (x2:GStamp) (x3:List (List AV)) (x4:List (List AV)) (x5:Bool) (x6:Int) (c7:GMarkEvent) (c37:List Gref29Noted):Option (AV×Mem):=pt zaN 1025 ⟨[(1,AV.sl 9 (List.map zab a1)),(2,I a2),(3,AV.loc 3 9 0 0),(8,AV.row 28 1 0 ((List.replicate (↑(List.map zab a1).length:Int).toNat (AV.v (Go.Value.bool false) :: List.map AV.v [])).length)),(9,AV.row 9 12 0 (List.length x0)),(10,AV.loc 10 2 0 0),(11,AV.map 29),(12,AV.loc 12 3 0 0),(13,B x5),(14,I 0),(15,I x6),(16,AV.loc 16 9 0 0),(20,AV.sl 2 (List.map zaD c37)),(124,B false)],[(3,⟨9,zaE,[zat a0],true⟩),(9,⟨12,zaI,x0,false⟩),(10,⟨2,zaQ,[za7 x1],true⟩),(12,⟨3,zaS,[zaT x2],true⟩),(16,⟨9,zar,[zab c7],true⟩),(28,⟨1,zbn,x3,false⟩),(29,⟨0,zay,x4,false⟩)]⟩
noncomputable def zgT (a0:GSetup) (a1:List GMarkEvent) (a2:Int) (x12:GStamp) (x16:Bool) (x17:Int) (x19:List (List AV)) (x20:GWatch) (x21:List (List AV)) (x22:List (List AV)) (x23:Nat) (x24:Int) (c25:GMarkEvent) (c44:List Gref29Noted) (x46:Bool) (x47:Int):Option (AV×Mem):=pt zaN 2 ⟨[(1,AV.sl 9 (List.map zab a1)),(2,I a2),(3,AV.loc 3 9 0 0),(8,AV.row 28 1 0 ((List.replicate (↑(List.map zab a1).length:Int).toNat (AV.v (Go.Value.bool false) :: List.map AV.v [])).length)),(9,AV.row 9 12 0 x23),(10,AV.loc 10 2 0 0),(11,AV.map 68),(12,AV.loc 12 3 0 0),(13,B x16),(14,I x17),(15,I x24),(16,AV.loc 16 9 0 0),(20,AV.sl 2 (List.map zaD c44)),(21,B x46),(22,I x47)],[(3,⟨9,zaE,[zat a0],true⟩),(9,⟨12,zaI,x19,false⟩),(10,⟨2,zaQ,[za7 x20],true⟩),(12,⟨3,zaS,[zaT x12],true⟩),(16,⟨9,zar,[zab c25],true⟩),(28,⟨1,zbn,x21,false⟩),(68,⟨0,zay,x22,false⟩)]⟩
noncomputable def zs3 (a0:GSetup) (a1:List GMarkEvent) (a2:Int) (x0:List (List AV)) (x1:GWatch) (x2:GStamp) (x3:List (List AV)) (x5:Bool) (x6:Int) (c7:GMarkEvent) (m48:List (List AV)):Option (AV×Mem):=pt zaN 1026 ⟨[(1,AV.sl 9 (List.map zab a1)),(2,I a2),(3,AV.loc 3 9 0 0),(8,AV.row 28 1 0 ((List.replicate (↑(List.map zab a1).length:Int).toNat (AV.v (Go.Value.bool false) :: List.map AV.v [])).length)),(9,AV.row 9 12 0 (List.length x0)),(10,AV.loc 10 2 0 0),(11,AV.map 29),(12,AV.loc 12 3 0 0),(13,B x5),(14,I 0),(15,I x6),(16,AV.loc 16 9 0 0)],[(3,⟨9,zaE,[zat a0],true⟩),(9,⟨12,zaI,x0,false⟩),(10,⟨2,zaQ,[za7 x1],true⟩),(12,⟨3,zaS,[zaT x2],true⟩),(16,⟨9,zar,[zab c7],true⟩),(28,⟨1,zbn,x3,false⟩),(29,⟨0,zay,m48,false⟩)]⟩
noncomputable def zrb (a0:GSetup) (a1:List GMarkEvent) (a2:Int) (x12:GStamp) (x16:Bool) (x17:Int) (x19:List (List AV)) (x20:GWatch) (x21:List (List AV)) (x22:List (List AV)) (x23:Nat) (x24:Int) (c25:GMarkEvent) (c44:List Gref29Noted):Option (AV×Mem):=pt zaN 1008 ⟨[(1,AV.sl 9 (List.map zab a1)),(2,I a2),(3,AV.loc 3 9 0 0),(8,AV.row 28 1 0 ((List.replicate (↑(List.map zab a1).length:Int).toNat (AV.v (Go.Value.bool false) :: List.map AV.v [])).length)),(9,AV.row 9 12 0 x23),(10,AV.loc 10 2 0 0),(11,AV.map 68),(12,AV.loc 12 3 0 0),(13,B x16),(14,I x17),(15,I x24),(16,AV.loc 16 9 0 0),(20,AV.sl 2 (List.map zaD c44)),(124,B true)],[(3,⟨9,zaE,[zat a0],true⟩),(9,⟨12,zaI,x19,false⟩),(10,⟨2,zaQ,[za7 x20],true⟩),(12,⟨3,zaS,[zaT x12],true⟩),(16,⟨9,zar,[zab c25],true⟩),(28,⟨1,zbn,x21,false⟩),(68,⟨0,zay,x22,false⟩)]⟩
noncomputable def zk7 (a0:GSetup) (a1:List GMarkEvent) (a2:Int) (x12:GStamp) (x16:Bool) (x17:Int) (x19:List (List AV)) (x20:GWatch) (x21:List (List AV)) (x22:List (List AV)) (x23:Nat) (x24:Int) (c25:GMarkEvent) (c44:List Gref29Noted):Option (AV×Mem):=pt zaN 1025 ⟨[(1,AV.sl 9 (List.map zab a1)),(2,I a2),(3,AV.loc 3 9 0 0),(8,AV.row 28 1 0 ((List.replicate (↑(List.map zab a1).length:Int).toNat (AV.v (Go.Value.bool false) :: List.map AV.v [])).length)),(9,AV.row 9 12 0 x23),(10,AV.loc 10 2 0 0),(11,AV.map 68),(12,AV.loc 12 3 0 0),(13,B x16),(14,I x17),(15,I x24),(16,AV.loc 16 9 0 0),(20,AV.sl 2 (List.map zaD c44)),(124,B false)],[(3,⟨9,zaE,[zat a0],true⟩),(9,⟨12,zaI,x19,false⟩),(10,⟨2,zaQ,[za7 x20],true⟩),(12,⟨3,zaS,[zaT x12],true⟩),(16,⟨9,zar,[zab c25],true⟩),(28,⟨1,zbn,x21,false⟩),(68,⟨0,zay,x22,false⟩)]⟩
noncomputable def zqN (a0:GSetup) (a1:List GMarkEvent) (a2:Int) (x0:List (List AV)) (x1:GWatch) (x2:GStamp) (x3:List (List AV)) (x5:Bool) (x6:Int) (c7:GMarkEvent) (m48:List (List AV)) (r52:Bool×Bool):Option (AV×Mem):=pt zaN 1008 ⟨[(1,AV.sl 9 (List.map zab a1)),(2,I a2),(3,AV.loc 3 9 0 0),(8,AV.row 28 1 0 ((List.replicate (↑(List.map zab a1).length:Int).toNat (AV.v (Go.Value.bool false) :: List.map AV.v [])).length)),(9,AV.row 9 12 0 (List.length x0)),(10,AV.loc 10 2 0 0),(11,AV.map 29),(12,AV.loc 12 3 0 0),(13,B x5),(14,I 0),(15,I x6),(16,AV.loc 16 9 0 0),(24,B r52.snd),(149,B true)],[(3,⟨9,zaE,[zat a0],true⟩),(9,⟨12,zaI,x0,false⟩),(10,⟨2,zaQ,[za7 x1],true⟩),(12,⟨3,zaS,[zaT x2],true⟩),(16,⟨9,zar,[zab c7],true⟩),(28,⟨1,zbn,x3,false⟩),(29,⟨0,zay,m48,false⟩)]⟩
noncomputable def zsO (a0:GSetup) (a1:List GMarkEvent) (a2:Int) (x0:List (List AV)) (x1:GWatch) (x2:GStamp) (x3:List (List AV)) (x5:Bool) (x6:Int) (c7:GMarkEvent) (m48:List (List AV)) (r52:Bool×Bool):Option (AV×Mem):=pt zaN 1028 ⟨[(1,AV.sl 9 (List.map zab a1)),(2,I a2),(3,AV.loc 3 9 0 0),(8,AV.row 28 1 0 ((List.replicate (↑(List.map zab a1).length:Int).toNat (AV.v (Go.Value.bool false) :: List.map AV.v [])).length)),(9,AV.row 9 12 0 (List.length x0)),(10,AV.loc 10 2 0 0),(11,AV.map 29),(12,AV.loc 12 3 0 0),(13,B x5),(14,I 0),(15,I x6),(16,AV.loc 16 9 0 0),(24,B r52.snd),(149,B false)],[(3,⟨9,zaE,[zat a0],true⟩),(9,⟨12,zaI,x0,false⟩),(10,⟨2,zaQ,[za7 x1],true⟩),(12,⟨3,zaS,[zaT x2],true⟩),(16,⟨9,zar,[zab c7],true⟩),(28,⟨1,zbn,x3,false⟩),(29,⟨0,zay,m48,false⟩)]⟩
noncomputable def zry (a0:GSetup) (a1:List GMarkEvent) (a2:Int) (x12:GStamp) (x16:Bool) (x17:Int) (x19:List (List AV)) (x20:GWatch) (x21:List (List AV)) (x23:Nat) (x24:Int) (c25:GMarkEvent) (m53:List (List AV)):Option (AV×Mem):=pt zaN 1026 ⟨[(1,AV.sl 9 (List.map zab a1)),(2,I a2),(3,AV.loc 3 9 0 0),(8,AV.row 28 1 0 ((List.replicate (↑(List.map zab a1).length:Int).toNat (AV.v (Go.Value.bool false) :: List.map AV.v [])).length)),(9,AV.row 9 12 0 x23),(10,AV.loc 10 2 0 0),(11,AV.map 68),(12,AV.loc 12 3 0 0),(13,B x16),(14,I x17),(15,I x24),(16,AV.loc 16 9 0 0)],[(3,⟨9,zaE,[zat a0],true⟩),(9,⟨12,zaI,x19,false⟩),(10,⟨2,zaQ,[za7 x20],true⟩),(12,⟨3,zaS,[zaT x12],true⟩),(16,⟨9,zar,[zab c25],true⟩),(28,⟨1,zbn,x21,false⟩),(68,⟨0,zay,m53,false⟩)]⟩
noncomputable def zmE (a0:GSetup) (a1:List GMarkEvent) (a2:Int) (x0:List (List AV)) (x2:GStamp) (x3:List (List AV)) (x5:Bool) (x6:Int) (c7:GMarkEvent) (m48:List (List AV)) (r52:Bool×Bool) (r54:GWatch×Int):Option (AV×Mem):=pt zaN 1029 ⟨[(1,AV.sl 9 (List.map zab a1)),(2,I a2),(3,AV.loc 3 9 0 0),(8,AV.row 28 1 0 ((List.replicate (↑(List.map zab a1).length:Int).toNat (AV.v (Go.Value.bool false) :: List.map AV.v [])).length)),(9,AV.row 9 12 0 (List.length x0)),(10,AV.loc 10 2 0 0),(11,AV.map 29),(12,AV.loc 12 3 0 0),(13,B x5),(14,I 0),(15,I x6),(16,AV.loc 16 9 0 0),(24,B r52.snd)],[(3,⟨9,zaE,[zat a0],true⟩),(9,⟨12,zaI,x0,false⟩),(10,⟨2,zaQ,[za7 r54.fst],true⟩),(12,⟨3,zaS,[zaT x2],true⟩),(16,⟨9,zar,[zab c7],true⟩),(28,⟨1,zbn,x3,false⟩),(29,⟨0,zay,m48,false⟩)]⟩
noncomputable def zrr (a0:GSetup) (a1:List GMarkEvent) (a2:Int) (x12:GStamp) (x16:Bool) (x17:Int) (x19:List (List AV)) (x20:GWatch) (x21:List (List AV)) (x23:Nat) (x24:Int) (c25:GMarkEvent) (m53:List (List AV)) (r57:Bool×Bool):Option (AV×Mem):=pt zaN 1008 ⟨[(1,AV.sl 9 (List.map zab a1)),(2,I a2),(3,AV.loc 3 9 0 0),(8,AV.row 28 1 0 ((List.replicate (↑(List.map zab a1).length:Int).toNat (AV.v (Go.Value.bool false) :: List.map AV.v [])).length)),(9,AV.row 9 12 0 x23),(10,AV.loc 10 2 0 0),(11,AV.map 68),(12,AV.loc 12 3 0 0),(13,B x16),(14,I x17),(15,I x24),(16,AV.loc 16 9 0 0),(24,B r57.snd),(149,B true)],[(3,⟨9,zaE,[zat a0],true⟩),(9,⟨12,zaI,x19,false⟩),(10,⟨2,zaQ,[za7 x20],true⟩),(12,⟨3,zaS,[zaT x12],true⟩),(16,⟨9,zar,[zab c25],true⟩),(28,⟨1,zbn,x21,false⟩),(68,⟨0,zay,m53,false⟩)]⟩
noncomputable def zqZ (a0:GSetup) (a1:List GMarkEvent) (a2:Int) (x12:GStamp) (x16:Bool) (x17:Int) (x19:List (List AV)) (x20:GWatch) (x21:List (List AV)) (x23:Nat) (x24:Int) (c25:GMarkEvent) (m53:List (List AV)) (r57:Bool×Bool):Option (AV×Mem):=pt zaN 1028 ⟨[(1,AV.sl 9 (List.map zab a1)),(2,I a2),(3,AV.loc 3 9 0 0),(8,AV.row 28 1 0 ((List.replicate (↑(List.map zab a1).length:Int).toNat (AV.v (Go.Value.bool false) :: List.map AV.v [])).length)),(9,AV.row 9 12 0 x23),(10,AV.loc 10 2 0 0),(11,AV.map 68),(12,AV.loc 12 3 0 0),(13,B x16),(14,I x17),(15,I x24),(16,AV.loc 16 9 0 0),(24,B r57.snd),(149,B false)],[(3,⟨9,zaE,[zat a0],true⟩),(9,⟨12,zaI,x19,false⟩),(10,⟨2,zaQ,[za7 x20],true⟩),(12,⟨3,zaS,[zaT x12],true⟩),(16,⟨9,zar,[zab c25],true⟩),(28,⟨1,zbn,x21,false⟩),(68,⟨0,zay,m53,false⟩)]⟩
noncomputable def zme (a0:GSetup) (a1:List GMarkEvent) (a2:Int) (x0:List (List AV)) (x2:GStamp) (x3:List (List AV)) (x5:Bool) (x6:Int) (c7:GMarkEvent) (m48:List (List AV)) (r52:Bool×Bool) (r54:GWatch×Int) (x58:List (List AV)) (x59:Int):Option (AV×Mem):=pt zaN 3 ⟨[(1,AV.sl 9 (List.map zab a1)),(2,I a2),(3,AV.loc 3 9 0 0),(8,AV.row 28 1 0 ((List.replicate (↑(List.map zab a1).length:Int).toNat (AV.v (Go.Value.bool false) :: List.map AV.v [])).length)),(9,AV.row 9 12 0 (List.length (x0++([[I a2,I x2.Time,I x2.Source,I x2.Seq,I c7.Stamp.Time,I c7.Stamp.Source,I c7.Stamp.Seq,I 0,I 0,I 0,B x5,B false]])))),(10,AV.loc 10 2 0 0),(11,AV.map 29),(12,AV.loc 12 3 0 0),(13,B x5),(14,I 0),(15,I x6),(25,I x59)],[(3,⟨9,zaE,[zat a0],true⟩),(9,⟨12,zaI,x0++([zaJ (⟨a2,⟨x2.Time,x2.Source,x2.Seq⟩,⟨c7.Stamp.Time,c7.Stamp.Source,c7.Stamp.Seq⟩,⟨0,0,0⟩,x5,false⟩)]),false⟩),(10,⟨2,zaQ,[za7 r54.fst],true⟩),(12,⟨3,zaS,[zaT x2],true⟩),(28,⟨1,zbn,x58,false⟩),(29,⟨0,zay,m48,false⟩)]⟩
noncomputable def zpY (a0:GSetup) (a1:List GMarkEvent) (a2:Int) (x0:List (List AV)) (x2:GStamp) (x3:List (List AV)) (x5:Bool) (x6:Int) (c7:GMarkEvent) (m48:List (List AV)) (r54:GWatch×Int):Option (AV×Mem):=pt zaN 1008 ⟨[(1,AV.sl 9 (List.map zab a1)),(2,I a2),(3,AV.loc 3 9 0 0),(8,AV.row 28 1 0 ((List.replicate (↑(List.map zab a1).length:Int).toNat (AV.v (Go.Value.bool false) :: List.map AV.v [])).length)),(9,AV.row 9 12 0 (List.length x0)),(10,AV.loc 10 2 0 0),(11,AV.map 29),(12,AV.loc 12 3 0 0),(13,B x5),(14,I 0),(15,I x6),(16,AV.loc 16 9 0 0),(217,B false)],[(3,⟨9,zaE,[zat a0],true⟩),(9,⟨12,zaI,x0,false⟩),(10,⟨2,zaQ,[za7 r54.fst],true⟩),(12,⟨3,zaS,[zaT x2],true⟩),(16,⟨9,zar,[zab c7],true⟩),(28,⟨1,zbn,x3,false⟩),(29,⟨0,zay,m48,false⟩)]⟩
noncomputable def zk5 (a0:GSetup) (a1:List GMarkEvent) (a2:Int) (x12:GStamp) (x16:Bool) (x17:Int) (x19:List (List AV)) (x21:List (List AV)) (x23:Nat) (x24:Int) (c25:GMarkEvent) (m53:List (List AV)) (r57:Bool×Bool) (r60:GWatch×Int):Option (AV×Mem):=pt zaN 1029 ⟨[(1,AV.sl 9 (List.map zab a1)),(2,I a2),(3,AV.loc 3 9 0 0),(8,AV.row 28 1 0 ((List.replicate (↑(List.map zab a1).length:Int).toNat (AV.v (Go.Value.bool false) :: List.map AV.v [])).length)),(9,AV.row 9 12 0 x23),(10,AV.loc 10 2 0 0),(11,AV.map 68),(12,AV.loc 12 3 0 0),(13,B x16),(14,I x17),(15,I x24),(16,AV.loc 16 9 0 0),(24,B r57.snd)],[(3,⟨9,zaE,[zat a0],true⟩),(9,⟨12,zaI,x19,false⟩),(10,⟨2,zaQ,[za7 r60.fst],true⟩),(12,⟨3,zaS,[zaT x12],true⟩),(16,⟨9,zar,[zab c25],true⟩),(28,⟨1,zbn,x21,false⟩),(68,⟨0,zay,m53,false⟩)]⟩
noncomputable def zcZ (a0:GSetup) (a1:List GMarkEvent) (a2:Int) (x0:List (List AV)) (x2:GStamp) (x3:List (List AV)) (x5:Bool) (x6:Int) (c7:GMarkEvent) (m48:List (List AV)) (r52:Bool×Bool) (r54:GWatch×Int) (x59:Int) (x63:List (List AV)):Option (AV×Mem):=pt zaN 1033 ⟨[(1,AV.sl 9 (List.map zab a1)),(2,I a2),(3,AV.loc 3 9 0 0),(8,AV.row 28 1 0 ((List.replicate (↑(List.map zab a1).length:Int).toNat (AV.v (Go.Value.bool false) :: List.map AV.v [])).length)),(9,AV.row 9 12 0 (List.length (x0++([[I a2,I x2.Time,I x2.Source,I x2.Seq,I c7.Stamp.Time,I c7.Stamp.Source,I c7.Stamp.Seq,I 0,I 0,I 0,B x5,B false]])))),(10,AV.loc 10 2 0 0),(11,AV.map 29),(12,AV.loc 12 3 0 0),(13,B x5),(14,I 0),(15,I x6),(25,I x59)],[(3,⟨9,zaE,[zat a0],true⟩),(9,⟨12,zaI,x0++([zaJ (⟨a2,⟨x2.Time,x2.Source,x2.Seq⟩,⟨c7.Stamp.Time,c7.Stamp.Source,c7.Stamp.Seq⟩,⟨0,0,0⟩,x5,false⟩)]),false⟩),(10,⟨2,zaQ,[za7 r54.fst],true⟩),(12,⟨3,zaS,[zaT x2],true⟩),(28,⟨1,zbn,x63,false⟩),(29,⟨0,zay,m48,false⟩)]⟩
noncomputable def zpU (a0:GSetup) (a1:List GMarkEvent) (a2:Int) (x0:List (List AV)) (x2:GStamp) (x3:List (List AV)) (x5:Bool) (x6:Int) (c7:GMarkEvent) (m48:List (List AV)) (r52:Bool×Bool) (r54:GWatch×Int) (x58:List (List AV)) (x59:Int):Option (AV×Mem):=pt zaN 1008 ⟨[(1,AV.sl 9 (List.map zab a1)),(2,I a2),(3,AV.loc 3 9 0 0),(8,AV.row 28 1 0 ((List.replicate (↑(List.map zab a1).length:Int).toNat (AV.v (Go.Value.bool false) :: List.map AV.v [])).length)),(9,AV.row 9 12 0 (List.length (x0++([[I a2,I x2.Time,I x2.Source,I x2.Seq,I c7.Stamp.Time,I c7.Stamp.Source,I c7.Stamp.Seq,I 0,I 0,I 0,B x5,B false]])))),(10,AV.loc 10 2 0 0),(11,AV.map 29),(12,AV.loc 12 3 0 0),(13,B x5),(14,I 0),(15,I x6),(25,I x59),(172,B false)],[(3,⟨9,zaE,[zat a0],true⟩),(9,⟨12,zaI,x0++([zaJ (⟨a2,⟨x2.Time,x2.Source,x2.Seq⟩,⟨c7.Stamp.Time,c7.Stamp.Source,c7.Stamp.Seq⟩,⟨0,0,0⟩,x5,false⟩)]),false⟩),(10,⟨2,zaQ,[za7 r54.fst],true⟩),(12,⟨3,zaS,[zaT x2],true⟩),(28,⟨1,zbn,x58,false⟩),(29,⟨0,zay,m48,false⟩)]⟩
noncomputable def zjD (a0:GSetup) (a1:List GMarkEvent) (a2:Int) (x12:GStamp) (x16:Bool) (x17:Int) (x19:List (List AV)) (x21:List (List AV)) (x23:Nat) (x24:Int) (c25:GMarkEvent) (m53:List (List AV)) (r57:Bool×Bool) (r60:GWatch×Int) (x75:List (List AV)) (x76:Int):Option (AV×Mem):=pt zaN 3 ⟨[(1,AV.sl 9 (List.map zab a1)),(2,I a2),(3,AV.loc 3 9 0 0),(8,AV.row 28 1 0 ((List.replicate (↑(List.map zab a1).length:Int).toNat (AV.v (Go.Value.bool false) :: List.map AV.v [])).length)),(9,AV.row 9 12 0 (List.length (x19++([[I a2,I x12.Time,I x12.Source,I x12.Seq,I c25.Stamp.Time,I c25.Stamp.Source,I c25.Stamp.Seq,I 0,I 0,I 0,B x16,B false]])))),(10,AV.loc 10 2 0 0),(11,AV.map 68),(12,AV.loc 12 3 0 0),(13,B x16),(14,I x17),(15,I x24),(25,I x76)],[(3,⟨9,zaE,[zat a0],true⟩),(9,⟨12,zaI,x19++([zaJ (⟨a2,⟨x12.Time,x12.Source,x12.Seq⟩,⟨c25.Stamp.Time,c25.Stamp.Source,c25.Stamp.Seq⟩,⟨0,0,0⟩,x16,false⟩)]),false⟩),(10,⟨2,zaQ,[za7 r60.fst],true⟩),(12,⟨3,zaS,[zaT x12],true⟩),(28,⟨1,zbn,x75,false⟩),(68,⟨0,zay,m53,false⟩)]⟩
noncomputable def zpW (a0:GSetup) (a1:List GMarkEvent) (a2:Int) (x12:GStamp) (x16:Bool) (x17:Int) (x19:List (List AV)) (x21:List (List AV)) (x23:Nat) (x24:Int) (c25:GMarkEvent) (m53:List (List AV)) (r60:GWatch×Int):Option (AV×Mem):=pt zaN 1008 ⟨[(1,AV.sl 9 (List.map zab a1)),(2,I a2),(3,AV.loc 3 9 0 0),(8,AV.row 28 1 0 ((List.replicate (↑(List.map zab a1).length:Int).toNat (AV.v (Go.Value.bool false) :: List.map AV.v [])).length)),(9,AV.row 9 12 0 x23),(10,AV.loc 10 2 0 0),(11,AV.map 68),(12,AV.loc 12 3 0 0),(13,B x16),(14,I x17),(15,I x24),(16,AV.loc 16 9 0 0),(217,B false)],[(3,⟨9,zaE,[zat a0],true⟩),(9,⟨12,zaI,x19,false⟩),(10,⟨2,zaQ,[za7 r60.fst],true⟩),(12,⟨3,zaS,[zaT x12],true⟩),(16,⟨9,zar,[zab c25],true⟩),(28,⟨1,zbn,x21,false⟩),(68,⟨0,zay,m53,false⟩)]⟩
noncomputable def zcx (a0:GSetup) (a1:List GMarkEvent) (a2:Int) (x12:GStamp) (x16:Bool) (x17:Int) (x19:List (List AV)) (x21:List (List AV)) (x23:Nat) (x24:Int) (c25:GMarkEvent) (m53:List (List AV)) (r57:Bool×Bool) (r60:GWatch×Int) (x76:Int) (x79:List (List AV)):Option (AV×Mem):=pt zaN 1033 ⟨[(1,AV.sl 9 (List.map zab a1)),(2,I a2),(3,AV.loc 3 9 0 0),(8,AV.row 28 1 0 ((List.replicate (↑(List.map zab a1).length:Int).toNat (AV.v (Go.Value.bool false) :: List.map AV.v [])).length)),(9,AV.row 9 12 0 (List.length (x19++([[I a2,I x12.Time,I x12.Source,I x12.Seq,I c25.Stamp.Time,I c25.Stamp.Source,I c25.Stamp.Seq,I 0,I 0,I 0,B x16,B false]])))),(10,AV.loc 10 2 0 0),(11,AV.map 68),(12,AV.loc 12 3 0 0),(13,B x16),(14,I x17),(15,I x24),(25,I x76)],[(3,⟨9,zaE,[zat a0],true⟩),(9,⟨12,zaI,x19++([zaJ (⟨a2,⟨x12.Time,x12.Source,x12.Seq⟩,⟨c25.Stamp.Time,c25.Stamp.Source,c25.Stamp.Seq⟩,⟨0,0,0⟩,x16,false⟩)]),false⟩),(10,⟨2,zaQ,[za7 r60.fst],true⟩),(12,⟨3,zaS,[zaT x12],true⟩),(28,⟨1,zbn,x79,false⟩),(68,⟨0,zay,m53,false⟩)]⟩
noncomputable def zpS (a0:GSetup) (a1:List GMarkEvent) (a2:Int) (x12:GStamp) (x16:Bool) (x17:Int) (x19:List (List AV)) (x21:List (List AV)) (x23:Nat) (x24:Int) (c25:GMarkEvent) (m53:List (List AV)) (r57:Bool×Bool) (r60:GWatch×Int) (x75:List (List AV)) (x76:Int):Option (AV×Mem):=pt zaN 1008 ⟨[(1,AV.sl 9 (List.map zab a1)),(2,I a2),(3,AV.loc 3 9 0 0),(8,AV.row 28 1 0 ((List.replicate (↑(List.map zab a1).length:Int).toNat (AV.v (Go.Value.bool false) :: List.map AV.v [])).length)),(9,AV.row 9 12 0 (List.length (x19++([[I a2,I x12.Time,I x12.Source,I x12.Seq,I c25.Stamp.Time,I c25.Stamp.Source,I c25.Stamp.Seq,I 0,I 0,I 0,B x16,B false]])))),(10,AV.loc 10 2 0 0),(11,AV.map 68),(12,AV.loc 12 3 0 0),(13,B x16),(14,I x17),(15,I x24),(25,I x76),(172,B false)],[(3,⟨9,zaE,[zat a0],true⟩),(9,⟨12,zaI,x19++([zaJ (⟨a2,⟨x12.Time,x12.Source,x12.Seq⟩,⟨c25.Stamp.Time,c25.Stamp.Source,c25.Stamp.Seq⟩,⟨0,0,0⟩,x16,false⟩)]),false⟩),(10,⟨2,zaQ,[za7 r60.fst],true⟩),(12,⟨3,zaS,[zaT x12],true⟩),(28,⟨1,zbn,x75,false⟩),(68,⟨0,zay,m53,false⟩)]⟩
theorem zwb (a0:GSetup) (a1:List GMarkEvent) (a2:Int) (x0:List (List AV)) (x1:GWatch) (x2:GStamp) (x3:List (List AV)) (x4:List (List AV)) (x5:Bool) (x6:Int) {y:AV×Mem} (h:(
 brn (decide (x6 < (↑(List.map zab a1).length:Int))) (chk ((0:Int)≤x6)<|
 elemD zaG (List.map zab a1) x6.toNat fun (c7:GMarkEvent) =>
 brn (c7.Kind == 1) (brn (c7.Marker == a2) (brn x1.Suspended (chk ((0:Int)≤(w64 ((↑x0.length:Int) - 1)))<|
 chk ((w64 ((↑x0.length:Int) - 1):Int) < (↑x0.length:Int))<|
 elemD zbG x0 (0+(w64 ((↑x0.length:Int) - 1)).toNat) fun (c8:GSuspension) =>
 chk ((0:Int)≤(w64 ((↑x0.length:Int) - 1)))<|
 chk ((w64 ((↑x0.length:Int) - 1):Int) < (↑x0.length:Int))<|
 elemD zbG (List.set x0 (0+(w64 ((↑x0.length:Int) - 1)).toNat) (zaJ (⟨c8.Marker,⟨c8.Good.Time,c8.Good.Source,c8.Good.Seq⟩,⟨c8.At.Time,c8.At.Source,c8.At.Seq⟩,⟨c8.Until.Time,c8.Until.Source,c8.Until.Seq⟩,c8.First,true⟩))) (0+(w64 ((↑x0.length:Int) - 1)).toNat) fun (c9:GSuspension) =>
 zex a0 a1 a2 (List.set (List.set x0 (0+(w64 ((↑x0.length:Int) - 1)).toNat) (zaJ (⟨c8.Marker,⟨c8.Good.Time,c8.Good.Source,c8.Good.Seq⟩,⟨c8.At.Time,c8.At.Source,c8.At.Seq⟩,⟨c8.Until.Time,c8.Until.Source,c8.Until.Seq⟩,c8.First,true⟩))) (0+(w64 ((↑x0.length:Int) - 1)).toNat) (zaJ (⟨c9.Marker,⟨c9.Good.Time,c9.Good.Source,c9.Good.Seq⟩,⟨c9.At.Time,c9.At.Source,c9.At.Seq⟩,⟨c7.Stamp.Time,c7.Stamp.Source,c7.Stamp.Seq⟩,c9.First,c9.Lifted⟩))) (⟨[],false⟩) c7.Stamp x3 [] x0.length true x6 x6)
 (zf7 a0 a1 a2 x0 x1 x2 x3 x4 x5 x6 c7))
 (zf7 a0 a1 a2 x0 x1 x2 x3 x4 x5 x6 c7))
 (zf7 a0 a1 a2 x0 x1 x2 x3 x4 x5 x6 c7))
 (chk (0+x0.length≤x0.length)<|
 chk (0+(List.replicate (↑(List.map zab a1).length:Int).toNat (AV.v (Go.Value.bool false) :: List.map AV.v [])).length≤x3.length)<|
 some (AV.tup [AV.sl 12 (List.take x0.length x0),AV.sl 1 (List.take ((List.replicate (↑(List.map zab a1).length:Int).toNat (AV.v (Go.Value.bool false) :: List.map AV.v [])).length) x3)],[])))=some y):zcs a0 a1 a2 x0 x1 x2 x3 x4 x5 x6=some y:=
 pt_of zT [8,14,15,17,19,25,26,28,29,33] (by kernel_rfl) h
theorem zsJ (a0:GSetup) (a1:List GMarkEvent) (a2:Int) (x10:List (List AV)) (x11:GWatch) (x12:GStamp) (x13:List (List AV)) (x14:List (List AV)) (x15:Nat) (x16:Bool) (x17:Int) (x18:Int) {y:AV×Mem} (h:(
 zcl a0 a1 a2 x12 x16 x17 x10 x11 x13 x14 x15 (w64 (x18+1)))=some y):zex a0 a1 a2 x10 x11 x12 x13 x14 x15 x16 x17 x18=some y:=
 pt_of zT [8,14,15,17,19,25,26,28,29,33] (by kernel_rfl) h
theorem zAK (a0:GSetup) (a1:List GMarkEvent) (a2:Int) (x0:List (List AV)) (x1:GWatch) (x2:GStamp) (x3:List (List AV)) (x4:List (List AV)) (x5:Bool) (x6:Int) (c7:GMarkEvent) {y:AV×Mem} (h:(
 brn (c7.Kind != 0) (zgZ a0 a1 a2 x0 x1 x2 x3 x4 x5 x6 c7)
 (brn (c7.Stamp.Source != a2) (zgZ a0 a1 a2 x0 x1 x2 x3 x4 x5 x6 c7)
 (zsQ a0 a1 a2 x0 x1 x2 x3 x4 x5 x6 c7)))=some y):zf7 a0 a1 a2 x0 x1 x2 x3 x4 x5 x6 c7=some y:=
 pt_of zT [8,14,15,17,19,25,26,28,29,33] (by kernel_rfl) h
theorem zub (a0:GSetup) (a1:List GMarkEvent) (a2:Int) (x12:GStamp) (x16:Bool) (x17:Int) (x19:List (List AV)) (x20:GWatch) (x21:List (List AV)) (x22:List (List AV)) (x23:Nat) (x24:Int) {y:AV×Mem} (h:(
 brn (decide (x24 < (↑(List.map zab a1).length:Int))) (chk ((0:Int)≤x24)<|
 elemD zaG (List.map zab a1) x24.toNat fun (c25:GMarkEvent) =>
 brn (c25.Kind == 1) (brn (c25.Marker == a2) (brn x20.Suspended (chk ((0:Int)≤(w64 ((↑x23:Int) - 1)))<|
 chk ((w64 ((↑x23:Int) - 1):Int) < (↑x23:Int))<|
 elemD zbG x19 (0+(w64 ((↑x23:Int) - 1)).toNat) fun (c26:GSuspension) =>
 chk ((0:Int)≤(w64 ((↑x23:Int) - 1)))<|
 chk ((w64 ((↑x23:Int) - 1):Int) < (↑x23:Int))<|
 elemD zbG (List.set x19 (0+(w64 ((↑x23:Int) - 1)).toNat) (zaJ (⟨c26.Marker,⟨c26.Good.Time,c26.Good.Source,c26.Good.Seq⟩,⟨c26.At.Time,c26.At.Source,c26.At.Seq⟩,⟨c26.Until.Time,c26.Until.Source,c26.Until.Seq⟩,c26.First,true⟩))) (0+(w64 ((↑x23:Int) - 1)).toNat) fun (c27:GSuspension) =>
 zex a0 a1 a2 (List.set (List.set x19 (0+(w64 ((↑x23:Int) - 1)).toNat) (zaJ (⟨c26.Marker,⟨c26.Good.Time,c26.Good.Source,c26.Good.Seq⟩,⟨c26.At.Time,c26.At.Source,c26.At.Seq⟩,⟨c26.Until.Time,c26.Until.Source,c26.Until.Seq⟩,c26.First,true⟩))) (0+(w64 ((↑x23:Int) - 1)).toNat) (zaJ (⟨c27.Marker,⟨c27.Good.Time,c27.Good.Source,c27.Good.Seq⟩,⟨c27.At.Time,c27.At.Source,c27.At.Seq⟩,⟨c25.Stamp.Time,c25.Stamp.Source,c25.Stamp.Seq⟩,c27.First,c27.Lifted⟩))) (⟨[],false⟩) c25.Stamp x21 [] x23 true x24 x24)
 (ze2 a0 a1 a2 x12 x16 x17 x19 x20 x21 x22 x23 x24 c25))
 (ze2 a0 a1 a2 x12 x16 x17 x19 x20 x21 x22 x23 x24 c25))
 (ze2 a0 a1 a2 x12 x16 x17 x19 x20 x21 x22 x23 x24 c25))
 (chk (0+x23≤x19.length)<|
 chk (0+(List.replicate (↑(List.map zab a1).length:Int).toNat (AV.v (Go.Value.bool false) :: List.map AV.v [])).length≤x21.length)<|
 some (AV.tup [AV.sl 12 (List.take x23 x19),AV.sl 1 (List.take ((List.replicate (↑(List.map zab a1).length:Int).toNat (AV.v (Go.Value.bool false) :: List.map AV.v [])).length) x21)],[])))=some y):zcl a0 a1 a2 x12 x16 x17 x19 x20 x21 x22 x23 x24=some y:=
 pt_of zT [8,14,15,17,19,25,26,28,29,33] (by kernel_rfl) h
theorem zzc (a0:GSetup) (a1:List GMarkEvent) (a2:Int) (x0:List (List AV)) (x1:GWatch) (x2:GStamp) (x3:List (List AV)) (x4:List (List AV)) (x5:Bool) (x6:Int) (c7:GMarkEvent) {y:AV×Mem} (h:(
 zcs a0 a1 a2 x0 x1 x2 x3 x4 x5 (w64 (x6+1)))=some y):zgZ a0 a1 a2 x0 x1 x2 x3 x4 x5 x6 c7=some y:=
 pt_of zT [8,14,15,17,19,25,26,28,29,33] (by kernel_rfl) h
theorem zAG (a0:GSetup) (a1:List GMarkEvent) (a2:Int) (x0:List (List AV)) (x1:GWatch) (x2:GStamp) (x3:List (List AV)) (x4:List (List AV)) (x5:Bool) (x6:Int) (c7:GMarkEvent) {y:AV×Mem} (h:(
 brn x1.Suspended (chk ((0:Int)≤x6)<|
 chk ((x6:Int) < ((↑(List.replicate (↑(List.map zab a1).length:Int).toNat (AV.v (Go.Value.bool false) :: List.map AV.v [])).length:Int)))<|
 elemD dBool x3 (0+x6.toNat) fun (c28:Bool) =>
 zgX a0 a1 a2 x0 x6 x1 x2 (List.set x3 (0+x6.toNat) (nBool true)) x4 x5)
 (zs1 a0 a1 a2 x0 x1 x2 x3 x4 x5 x6 c7))=some y):zsQ a0 a1 a2 x0 x1 x2 x3 x4 x5 x6 c7=some y:=
 pt_of zT [8,14,15,17,19,25,26,28,29,33] (by kernel_rfl) h
theorem zys (a0:GSetup) (a1:List GMarkEvent) (a2:Int) (x12:GStamp) (x16:Bool) (x17:Int) (x19:List (List AV)) (x20:GWatch) (x21:List (List AV)) (x22:List (List AV)) (x23:Nat) (x24:Int) (c25:GMarkEvent) {y:AV×Mem} (h:(
 brn (c25.Kind != 0) (zhi a0 a1 a2 x12 x16 x17 x19 x20 x21 x22 x23 x24 c25)
 (brn (c25.Stamp.Source != a2) (zhi a0 a1 a2 x12 x16 x17 x19 x20 x21 x22 x23 x24 c25)
 (zqt a0 a1 a2 x12 x16 x17 x19 x20 x21 x22 x23 x24 c25)))=some y):ze2 a0 a1 a2 x12 x16 x17 x19 x20 x21 x22 x23 x24 c25=some y:=
 pt_of zT [8,14,15,17,19,25,26,28,29,33] (by kernel_rfl) h
theorem zy5 (a0:GSetup) (a1:List GMarkEvent) (a2:Int) (x0:List (List AV)) (x6:Int) (x29:GWatch) (x30:GStamp) (x31:List (List AV)) (x32:List (List AV)) (x33:Bool) {y:AV×Mem} (h:(
 zcs a0 a1 a2 x0 x29 x30 x31 x32 x33 (w64 (x6+1)))=some y):zgX a0 a1 a2 x0 x6 x29 x30 x31 x32 x33=some y:=
 pt_of zT [8,14,15,17,19,25,26,28,29,33] (by kernel_rfl) h
theorem zA1 (a0:GSetup) (a1:List GMarkEvent) (a2:Int) (x0:List (List AV)) (x1:GWatch) (x2:GStamp) (x3:List (List AV)) (x4:List (List AV)) (x5:Bool) (x6:Int) (c7:GMarkEvent) {y:AV×Mem} (h:(
 callD zcX (cw zdJ [AV.sl 2 (List.map zbT a0.Seeds),I c7.Script] []) fun (r34:(List Int)×Bool) =>
 brn (!r34.snd) (zg9 a0 a1 a2 x0 x1 x2 x3 x4 x5 x6 c7)
 (callD zj0 (cw zm5 [AV.agg (zat a0),AV.agg (zab c7)] []) fun (r35:Bool) =>
 brn (!r35) (zg9 a0 a1 a2 x0 x1 x2 x3 x4 x5 x6 c7)
 (zmC a0 a1 a2 x0 x1 x2 x3 x4 x5 x6 c7)))=some y):zs1 a0 a1 a2 x0 x1 x2 x3 x4 x5 x6 c7=some y:=
 pt_of zT [8,14,15,17,19,25,26,28,29,33] (by kernel_rfl) h
theorem zyM (a0:GSetup) (a1:List GMarkEvent) (a2:Int) (x12:GStamp) (x16:Bool) (x17:Int) (x19:List (List AV)) (x20:GWatch) (x21:List (List AV)) (x22:List (List AV)) (x23:Nat) (x24:Int) (c25:GMarkEvent) {y:AV×Mem} (h:(
 zcl a0 a1 a2 x12 x16 x17 x19 x20 x21 x22 x23 (w64 (x24+1)))=some y):zhi a0 a1 a2 x12 x16 x17 x19 x20 x21 x22 x23 x24 c25=some y:=
 pt_of zT [8,14,15,17,19,25,26,28,29,33] (by kernel_rfl) h
theorem zyl (a0:GSetup) (a1:List GMarkEvent) (a2:Int) (x12:GStamp) (x16:Bool) (x17:Int) (x19:List (List AV)) (x20:GWatch) (x21:List (List AV)) (x22:List (List AV)) (x23:Nat) (x24:Int) (c25:GMarkEvent) {y:AV×Mem} (h:(
 brn x20.Suspended (chk ((0:Int)≤x24)<|
 chk ((x24:Int) < ((↑(List.replicate (↑(List.map zab a1).length:Int).toNat (AV.v (Go.Value.bool false) :: List.map AV.v [])).length:Int)))<|
 elemD dBool x21 (0+x24.toNat) fun (c36:Bool) =>
 zex a0 a1 a2 x19 x20 x12 (List.set x21 (0+x24.toNat) (nBool true)) x22 x23 x16 x17 x24)
 (zqu a0 a1 a2 x12 x16 x17 x19 x20 x21 x22 x23 x24 c25))=some y):zqt a0 a1 a2 x12 x16 x17 x19 x20 x21 x22 x23 x24 c25=some y:=
 pt_of zT [8,14,15,17,19,25,26,28,29,33] (by kernel_rfl) h
theorem zyp (a0:GSetup) (a1:List GMarkEvent) (a2:Int) (x0:List (List AV)) (x1:GWatch) (x2:GStamp) (x3:List (List AV)) (x4:List (List AV)) (x5:Bool) (x6:Int) (c7:GMarkEvent) {y:AV×Mem} (h:(
 zcs a0 a1 a2 x0 x1 x2 x3 x4 x5 (w64 (x6+1)))=some y):zg9 a0 a1 a2 x0 x1 x2 x3 x4 x5 x6 c7=some y:=
 pt_of zT [8,14,15,17,19,25,26,28,29,33] (by kernel_rfl) h
theorem zAP (a0:GSetup) (a1:List GMarkEvent) (a2:Int) (x0:List (List AV)) (x1:GWatch) (x2:GStamp) (x3:List (List AV)) (x4:List (List AV)) (x5:Bool) (x6:Int) (c7:GMarkEvent) {y:AV×Mem} (h:(
 mapD zP 3 false zdR (AV.sl 2 (List.map zaD [])) x4 (I c7.Script) fun (c37:List Gref29Noted) (b38:Bool) =>
 ziG a0 a1 a2 x0 x1 x2 x3 x4 x5 x6 c7 c37 false 0)=some y):zmC a0 a1 a2 x0 x1 x2 x3 x4 x5 x6 c7=some y:=
 pt_of zT [8,14,15,17,19,25,26,28,29,33] (by kernel_rfl) h
theorem zyI (a0:GSetup) (a1:List GMarkEvent) (a2:Int) (x12:GStamp) (x16:Bool) (x17:Int) (x19:List (List AV)) (x20:GWatch) (x21:List (List AV)) (x22:List (List AV)) (x23:Nat) (x24:Int) (c25:GMarkEvent) {y:AV×Mem} (h:(
 callD zcX (cw zdJ [AV.sl 2 (List.map zbT a0.Seeds),I c25.Script] []) fun (r41:(List Int)×Bool) =>
 brn (!r41.snd) (zhj a0 a1 a2 x12 x16 x17 x19 x20 x21 x22 x23 x24 c25)
 (callD zj0 (cw zm5 [AV.agg (zat a0),AV.agg (zab c25)] []) fun (r42:Bool) =>
 brn (!r42) (zhj a0 a1 a2 x12 x16 x17 x19 x20 x21 x22 x23 x24 c25)
 (zkx a0 a1 a2 x12 x16 x17 x19 x20 x21 x22 x23 x24 c25)))=some y):zqu a0 a1 a2 x12 x16 x17 x19 x20 x21 x22 x23 x24 c25=some y:=
 pt_of zT [8,14,15,17,19,25,26,28,29,33] (by kernel_rfl) h
theorem zvN (a0:GSetup) (a1:List GMarkEvent) (a2:Int) (x0:List (List AV)) (x1:GWatch) (x2:GStamp) (x3:List (List AV)) (x4:List (List AV)) (x5:Bool) (x6:Int) (c7:GMarkEvent) (c37:List Gref29Noted) (x39:Bool) (x40:Int) {y:AV×Mem} (h:(
 brn (decide (x40 < (↑(List.map zaD c37).length:Int))) (brn x39 (ziG a0 a1 a2 x0 x1 x2 x3 x4 x5 x6 c7 c37 true (w64 (x40+1)))
 (chk ((0:Int)≤x40)<|
 elemD zdL (List.map zaD c37) x40.toNat fun (c43:Gref29Noted) =>
 ziG a0 a1 a2 x0 x1 x2 x3 x4 x5 x6 c7 c37 (c43.part == c7.Part) (w64 (x40+1))))
 (brn x39 (zqM a0 a1 a2 x0 x1 x2 x3 x4 x5 x6 c7 c37)
 (zmM a0 a1 a2 x0 x1 x2 x3 x4 x5 x6 c7 c37)))=some y):ziG a0 a1 a2 x0 x1 x2 x3 x4 x5 x6 c7 c37 x39 x40=some y:=
 pt_of zT [8,14,15,17,19,25,26,28,29,33] (by kernel_rfl) h
theorem zx5 (a0:GSetup) (a1:List GMarkEvent) (a2:Int) (x12:GStamp) (x16:Bool) (x17:Int) (x19:List (List AV)) (x20:GWatch) (x21:List (List AV)) (x22:List (List AV)) (x23:Nat) (x24:Int) (c25:GMarkEvent) {y:AV×Mem} (h:(
 zcl a0 a1 a2 x12 x16 x17 x19 x20 x21 x22 x23 (w64 (x24+1)))=some y):zhj a0 a1 a2 x12 x16 x17 x19 x20 x21 x22 x23 x24 c25=some y:=
 pt_of zT [8,14,15,17,19,25,26,28,29,33] (by kernel_rfl) h
theorem zyb (a0:GSetup) (a1:List GMarkEvent) (a2:Int) (x12:GStamp) (x16:Bool) (x17:Int) (x19:List (List AV)) (x20:GWatch) (x21:List (List AV)) (x22:List (List AV)) (x23:Nat) (x24:Int) (c25:GMarkEvent) {y:AV×Mem} (h:(
 mapD zP 3 false zdR (AV.sl 2 (List.map zaD [])) x22 (I c25.Script) fun (c44:List Gref29Noted) (b45:Bool) =>
 zgT a0 a1 a2 x12 x16 x17 x19 x20 x21 x22 x23 x24 c25 c44 false 0)=some y):zkx a0 a1 a2 x12 x16 x17 x19 x20 x21 x22 x23 x24 c25=some y:=
 pt_of zT [8,14,15,17,19,25,26,28,29,33] (by kernel_rfl) h
theorem zyJ (a0:GSetup) (a1:List GMarkEvent) (a2:Int) (x0:List (List AV)) (x1:GWatch) (x2:GStamp) (x3:List (List AV)) (x4:List (List AV)) (x5:Bool) (x6:Int) (c7:GMarkEvent) (c37:List Gref29Noted) {y:AV×Mem} (h:(
 zcs a0 a1 a2 x0 x1 x2 x3 x4 x5 (w64 (x6+1)))=some y):zqM a0 a1 a2 x0 x1 x2 x3 x4 x5 x6 c7 c37=some y:=
 pt_of zT [8,14,15,17,19,25,26,28,29,33] (by kernel_rfl) h
theorem zAw (a0:GSetup) (a1:List GMarkEvent) (a2:Int) (x0:List (List AV)) (x1:GWatch) (x2:GStamp) (x3:List (List AV)) (x4:List (List AV)) (x5:Bool) (x6:Int) (c7:GMarkEvent) (c37:List Gref29Noted) {y:AV×Mem} (h:(
 chk ((List.map zaD c37).length*(16+1)≤1099511627776)<|
 chk ((List.map zaD c37).length=(List.map zaD c37).length)<|
 chk (((List.map zaD c37).length+1)*(16+1)≤1099511627776)<|
 chk (0+(List.map zaD c37++[[I c7.Part,I c7.Value]]).length≤(List.map zaD c37++[[I c7.Part,I c7.Value]]).length)<|
 msetD zP 3 191 (I c7.Script) (AV.sl 2 (List.take ((List.map zaD c37++[[I c7.Part,I c7.Value]]).length) ((List.map zaD c37)++([zaD (⟨c7.Part,c7.Value⟩)])))) x4 fun (m48:List (List AV)) =>
 chk (0+(List.map zaD c37++[[I c7.Part,I c7.Value]]).length≤(List.map zaD c37++[[I c7.Part,I c7.Value]]).length)<|
 zs3 a0 a1 a2 x0 x1 x2 x3 x5 x6 c7 m48)=some y):zmM a0 a1 a2 x0 x1 x2 x3 x4 x5 x6 c7 c37=some y:=
 pt_of zT [8,14,15,17,19,25,26,28,29,33] (by kernel_rfl) h
theorem ztS (a0:GSetup) (a1:List GMarkEvent) (a2:Int) (x12:GStamp) (x16:Bool) (x17:Int) (x19:List (List AV)) (x20:GWatch) (x21:List (List AV)) (x22:List (List AV)) (x23:Nat) (x24:Int) (c25:GMarkEvent) (c44:List Gref29Noted) (x46:Bool) (x47:Int) {y:AV×Mem} (h:(
 brn (decide (x47 < (↑(List.map zaD c44).length:Int))) (brn x46 (zgT a0 a1 a2 x12 x16 x17 x19 x20 x21 x22 x23 x24 c25 c44 true (w64 (x47+1)))
 (chk ((0:Int)≤x47)<|
 elemD zdL (List.map zaD c44) x47.toNat fun (c49:Gref29Noted) =>
 zgT a0 a1 a2 x12 x16 x17 x19 x20 x21 x22 x23 x24 c25 c44 (c49.part == c25.Part) (w64 (x47+1))))
 (brn x46 (zrb a0 a1 a2 x12 x16 x17 x19 x20 x21 x22 x23 x24 c25 c44)
 (zk7 a0 a1 a2 x12 x16 x17 x19 x20 x21 x22 x23 x24 c25 c44)))=some y):zgT a0 a1 a2 x12 x16 x17 x19 x20 x21 x22 x23 x24 c25 c44 x46 x47=some y:=
 pt_of zT [8,14,15,17,19,25,26,28,29,33] (by kernel_rfl) h
theorem zAo (a0:GSetup) (a1:List GMarkEvent) (a2:Int) (x0:List (List AV)) (x1:GWatch) (x2:GStamp) (x3:List (List AV)) (x5:Bool) (x6:Int) (c7:GMarkEvent) (m48:List (List AV)) {y:AV×Mem} (h:(
 mapD zP 3 false zdR (AV.sl 2 (List.map zaD [])) m48 (I c7.Script) fun (c50:List Gref29Noted) (b51:Bool) =>
 callD zlo (cw zll [AV.agg (zat a0),I c7.Script,AV.sl 2 (List.map zaD c50)] []) fun (r52:Bool×Bool) =>
 brn (!r52.fst) (zqN a0 a1 a2 x0 x1 x2 x3 x5 x6 c7 m48 r52)
 (zsO a0 a1 a2 x0 x1 x2 x3 x5 x6 c7 m48 r52))=some y):zs3 a0 a1 a2 x0 x1 x2 x3 x5 x6 c7 m48=some y:=
 pt_of zT [8,14,15,17,19,25,26,28,29,33] (by kernel_rfl) h
theorem zyy (a0:GSetup) (a1:List GMarkEvent) (a2:Int) (x12:GStamp) (x16:Bool) (x17:Int) (x19:List (List AV)) (x20:GWatch) (x21:List (List AV)) (x22:List (List AV)) (x23:Nat) (x24:Int) (c25:GMarkEvent) (c44:List Gref29Noted) {y:AV×Mem} (h:(
 zcl a0 a1 a2 x12 x16 x17 x19 x20 x21 x22 x23 (w64 (x24+1)))=some y):zrb a0 a1 a2 x12 x16 x17 x19 x20 x21 x22 x23 x24 c25 c44=some y:=
 pt_of zT [8,14,15,17,19,25,26,28,29,33] (by kernel_rfl) h
theorem zyA (a0:GSetup) (a1:List GMarkEvent) (a2:Int) (x12:GStamp) (x16:Bool) (x17:Int) (x19:List (List AV)) (x20:GWatch) (x21:List (List AV)) (x22:List (List AV)) (x23:Nat) (x24:Int) (c25:GMarkEvent) (c44:List Gref29Noted) {y:AV×Mem} (h:(
 chk ((List.map zaD c44).length*(16+1)≤1099511627776)<|
 chk ((List.map zaD c44).length=(List.map zaD c44).length)<|
 chk (((List.map zaD c44).length+1)*(16+1)≤1099511627776)<|
 chk (0+(List.map zaD c44++[[I c25.Part,I c25.Value]]).length≤(List.map zaD c44++[[I c25.Part,I c25.Value]]).length)<|
 msetD zP 3 191 (I c25.Script) (AV.sl 2 (List.take ((List.map zaD c44++[[I c25.Part,I c25.Value]]).length) ((List.map zaD c44)++([zaD (⟨c25.Part,c25.Value⟩)])))) x22 fun (m53:List (List AV)) =>
 chk (0+(List.map zaD c44++[[I c25.Part,I c25.Value]]).length≤(List.map zaD c44++[[I c25.Part,I c25.Value]]).length)<|
 zry a0 a1 a2 x12 x16 x17 x19 x20 x21 x23 x24 c25 m53)=some y):zk7 a0 a1 a2 x12 x16 x17 x19 x20 x21 x22 x23 x24 c25 c44=some y:=
 pt_of zT [8,14,15,17,19,25,26,28,29,33] (by kernel_rfl) h
theorem zyK (a0:GSetup) (a1:List GMarkEvent) (a2:Int) (x0:List (List AV)) (x1:GWatch) (x2:GStamp) (x3:List (List AV)) (x5:Bool) (x6:Int) (c7:GMarkEvent) (m48:List (List AV)) (r52:Bool×Bool) {y:AV×Mem} (h:(
 zcs a0 a1 a2 x0 x1 x2 x3 m48 x5 (w64 (x6+1)))=some y):zqN a0 a1 a2 x0 x1 x2 x3 x5 x6 c7 m48 r52=some y:=
 pt_of zT [8,14,15,17,19,25,26,28,29,33] (by kernel_rfl) h
theorem zAz (a0:GSetup) (a1:List GMarkEvent) (a2:Int) (x0:List (List AV)) (x1:GWatch) (x2:GStamp) (x3:List (List AV)) (x5:Bool) (x6:Int) (c7:GMarkEvent) (m48:List (List AV)) (r52:Bool×Bool) {y:AV×Mem} (h:(
 callD zm7 (cw zqJ [AV.agg (zba a0.Monitor),AV.agg (za7 x1),B r52.snd] []) fun (r54:GWatch×Int) =>
 zmE a0 a1 a2 x0 x2 x3 x5 x6 c7 m48 r52 r54)=some y):zsO a0 a1 a2 x0 x1 x2 x3 x5 x6 c7 m48 r52=some y:=
 pt_of zT [8,14,15,17,19,25,26,28,29,33] (by kernel_rfl) h
theorem zyd (a0:GSetup) (a1:List GMarkEvent) (a2:Int) (x12:GStamp) (x16:Bool) (x17:Int) (x19:List (List AV)) (x20:GWatch) (x21:List (List AV)) (x23:Nat) (x24:Int) (c25:GMarkEvent) (m53:List (List AV)) {y:AV×Mem} (h:(
 mapD zP 3 false zdR (AV.sl 2 (List.map zaD [])) m53 (I c25.Script) fun (c55:List Gref29Noted) (b56:Bool) =>
 callD zlo (cw zll [AV.agg (zat a0),I c25.Script,AV.sl 2 (List.map zaD c55)] []) fun (r57:Bool×Bool) =>
 brn (!r57.fst) (zrr a0 a1 a2 x12 x16 x17 x19 x20 x21 x23 x24 c25 m53 r57)
 (zqZ a0 a1 a2 x12 x16 x17 x19 x20 x21 x23 x24 c25 m53 r57))=some y):zry a0 a1 a2 x12 x16 x17 x19 x20 x21 x23 x24 c25 m53=some y:=
 pt_of zT [8,14,15,17,19,25,26,28,29,33] (by kernel_rfl) h
theorem zAS (a0:GSetup) (a1:List GMarkEvent) (a2:Int) (x0:List (List AV)) (x2:GStamp) (x3:List (List AV)) (x5:Bool) (x6:Int) (c7:GMarkEvent) (m48:List (List AV)) (r52:Bool×Bool) (r54:GWatch×Int) {y:AV×Mem} (h:(
 brn r54.fst.Suspended (chk (x0.length=x0.length)<|
 chk ((x0.length+1)*(88+1)≤1099511627776)<|
 chk ((x0++[[I a2,I x2.Time,I x2.Source,I x2.Seq,I c7.Stamp.Time,I c7.Stamp.Source,I c7.Stamp.Seq,I 0,I 0,I 0,AV.v (Go.Value.bool x5),AV.v (Go.Value.bool false)]]).length=(x0++[[I a2,I x2.Time,I x2.Source,I x2.Seq,I c7.Stamp.Time,I c7.Stamp.Source,I c7.Stamp.Seq,I 0,I 0,I 0,AV.v (Go.Value.bool x5),AV.v (Go.Value.bool false)]]).length)<|
 zme a0 a1 a2 x0 x2 x3 x5 x6 c7 m48 r52 r54 x3 0)
 (brn r52.snd (zgX a0 a1 a2 x0 x6 r54.fst c7.Stamp x3 m48 false)
 (zpY a0 a1 a2 x0 x2 x3 x5 x6 c7 m48 r54)))=some y):zmE a0 a1 a2 x0 x2 x3 x5 x6 c7 m48 r52 r54=some y:=
 pt_of zT [8,14,15,17,19,25,26,28,29,33] (by kernel_rfl) h
theorem zzk (a0:GSetup) (a1:List GMarkEvent) (a2:Int) (x12:GStamp) (x16:Bool) (x17:Int) (x19:List (List AV)) (x20:GWatch) (x21:List (List AV)) (x23:Nat) (x24:Int) (c25:GMarkEvent) (m53:List (List AV)) (r57:Bool×Bool) {y:AV×Mem} (h:(
 zcl a0 a1 a2 x12 x16 x17 x19 x20 x21 m53 x23 (w64 (x24+1)))=some y):zrr a0 a1 a2 x12 x16 x17 x19 x20 x21 x23 x24 c25 m53 r57=some y:=
 pt_of zT [8,14,15,17,19,25,26,28,29,33] (by kernel_rfl) h
theorem zy4 (a0:GSetup) (a1:List GMarkEvent) (a2:Int) (x12:GStamp) (x16:Bool) (x17:Int) (x19:List (List AV)) (x20:GWatch) (x21:List (List AV)) (x23:Nat) (x24:Int) (c25:GMarkEvent) (m53:List (List AV)) (r57:Bool×Bool) {y:AV×Mem} (h:(
 callD zm7 (cw zqJ [AV.agg (zba a0.Monitor),AV.agg (za7 x20),B r57.snd] []) fun (r60:GWatch×Int) =>
 zk5 a0 a1 a2 x12 x16 x17 x19 x21 x23 x24 c25 m53 r57 r60)=some y):zqZ a0 a1 a2 x12 x16 x17 x19 x20 x21 x23 x24 c25 m53 r57=some y:=
 pt_of zT [8,14,15,17,19,25,26,28,29,33] (by kernel_rfl) h
theorem zv3 (a0:GSetup) (a1:List GMarkEvent) (a2:Int) (x0:List (List AV)) (x2:GStamp) (x3:List (List AV)) (x5:Bool) (x6:Int) (c7:GMarkEvent) (m48:List (List AV)) (r52:Bool×Bool) (r54:GWatch×Int) (x58:List (List AV)) (x59:Int) {y:AV×Mem} (h:(
 brn (decide (x59≤x6)) (chk ((0:Int)≤x59)<|
 chk ((x59:Int) < ((↑(List.replicate (↑(List.map zab a1).length:Int).toNat (AV.v (Go.Value.bool false) :: List.map AV.v [])).length:Int)))<|
 elemD dBool x58 (0+x59.toNat) fun (c61:Bool) =>
 brn c61 (chk ((0:Int)≤x59)<|
 chk ((x59:Int) < ((↑(List.replicate (↑(List.map zab a1).length:Int).toNat (AV.v (Go.Value.bool false) :: List.map AV.v [])).length:Int)))<|
 elemD dBool x58 (0+x59.toNat) fun (c62:Bool) =>
 zcZ a0 a1 a2 x0 x2 x3 x5 x6 c7 m48 r52 r54 x59 (List.set x58 (0+x59.toNat) (nBool true)))
 (chk ((0:Int)≤x59)<|
 elemD zaG (List.map zab a1) x59.toNat fun (c64:GMarkEvent) =>
 brn (c64.Kind == 0) (chk ((0:Int)≤x59)<|
 elemD zaG (List.map zab a1) x59.toNat fun (c65:GMarkEvent) =>
 brn (c65.Stamp.Source == a2) (brn x5 (brn ((↑(x0++[[I a2,I x2.Time,I x2.Source,I x2.Seq,I c7.Stamp.Time,I c7.Stamp.Source,I c7.Stamp.Seq,I 0,I 0,I 0,AV.v (Go.Value.bool x5),AV.v (Go.Value.bool false)]]).length:Int) == 1) (chk ((0:Int)≤x59)<|
 chk ((x59:Int) < ((↑(List.replicate (↑(List.map zab a1).length:Int).toNat (AV.v (Go.Value.bool false) :: List.map AV.v [])).length:Int)))<|
 elemD dBool x58 (0+x59.toNat) fun (c66:Bool) =>
 zcZ a0 a1 a2 x0 x2 x3 x5 x6 c7 m48 r52 r54 x59 (List.set x58 (0+x59.toNat) (nBool true)))
 (chk ((0:Int)≤x59)<|
 elemD zaG (List.map zab a1) x59.toNat fun (c67:GMarkEvent) =>
 callD zeU (cw zf9 [AV.agg (zaT x2),AV.agg (zaT c67.Stamp)] []) fun (r68:Bool) =>
 chk ((0:Int)≤x59)<|
 chk ((x59:Int) < ((↑(List.replicate (↑(List.map zab a1).length:Int).toNat (AV.v (Go.Value.bool false) :: List.map AV.v [])).length:Int)))<|
 elemD dBool x58 (0+x59.toNat) fun (c69:Bool) =>
 zcZ a0 a1 a2 x0 x2 x3 x5 x6 c7 m48 r52 r54 x59 (List.set x58 (0+x59.toNat) (nBool r68))))
 (chk ((0:Int)≤x59)<|
 elemD zaG (List.map zab a1) x59.toNat fun (c70:GMarkEvent) =>
 callD zeU (cw zf9 [AV.agg (zaT x2),AV.agg (zaT c70.Stamp)] []) fun (r71:Bool) =>
 chk ((0:Int)≤x59)<|
 chk ((x59:Int) < ((↑(List.replicate (↑(List.map zab a1).length:Int).toNat (AV.v (Go.Value.bool false) :: List.map AV.v [])).length:Int)))<|
 elemD dBool x58 (0+x59.toNat) fun (c72:Bool) =>
 zcZ a0 a1 a2 x0 x2 x3 x5 x6 c7 m48 r52 r54 x59 (List.set x58 (0+x59.toNat) (nBool r71))))
 (chk ((0:Int)≤x59)<|
 chk ((x59:Int) < ((↑(List.replicate (↑(List.map zab a1).length:Int).toNat (AV.v (Go.Value.bool false) :: List.map AV.v [])).length:Int)))<|
 elemD dBool x58 (0+x59.toNat) fun (c73:Bool) =>
 zcZ a0 a1 a2 x0 x2 x3 x5 x6 c7 m48 r52 r54 x59 (List.set x58 (0+x59.toNat) (nBool false))))
 (chk ((0:Int)≤x59)<|
 chk ((x59:Int) < ((↑(List.replicate (↑(List.map zab a1).length:Int).toNat (AV.v (Go.Value.bool false) :: List.map AV.v [])).length:Int)))<|
 elemD dBool x58 (0+x59.toNat) fun (c74:Bool) =>
 zcZ a0 a1 a2 x0 x2 x3 x5 x6 c7 m48 r52 r54 x59 (List.set x58 (0+x59.toNat) (nBool false)))))
 (zpU a0 a1 a2 x0 x2 x3 x5 x6 c7 m48 r52 r54 x58 x59))=some y):zme a0 a1 a2 x0 x2 x3 x5 x6 c7 m48 r52 r54 x58 x59=some y:=
 pt_of zT [8,14,15,17,19,25,26,28,29,33] (by kernel_rfl) h
theorem zxK (a0:GSetup) (a1:List GMarkEvent) (a2:Int) (x0:List (List AV)) (x2:GStamp) (x3:List (List AV)) (x5:Bool) (x6:Int) (c7:GMarkEvent) (m48:List (List AV)) (r54:GWatch×Int) {y:AV×Mem} (h:(
 zcs a0 a1 a2 x0 r54.fst x2 x3 m48 x5 (w64 (x6+1)))=some y):zpY a0 a1 a2 x0 x2 x3 x5 x6 c7 m48 r54=some y:=
 pt_of zT [8,14,15,17,19,25,26,28,29,33] (by kernel_rfl) h
theorem zyc (a0:GSetup) (a1:List GMarkEvent) (a2:Int) (x12:GStamp) (x16:Bool) (x17:Int) (x19:List (List AV)) (x21:List (List AV)) (x23:Nat) (x24:Int) (c25:GMarkEvent) (m53:List (List AV)) (r57:Bool×Bool) (r60:GWatch×Int) {y:AV×Mem} (h:(
 brn r60.fst.Suspended (chk (x23=x19.length)<|
 chk ((x19.length+1)*(88+1)≤1099511627776)<|
 chk ((x19++[[I a2,I x12.Time,I x12.Source,I x12.Seq,I c25.Stamp.Time,I c25.Stamp.Source,I c25.Stamp.Seq,I 0,I 0,I 0,AV.v (Go.Value.bool x16),AV.v (Go.Value.bool false)]]).length=(x19++[[I a2,I x12.Time,I x12.Source,I x12.Seq,I c25.Stamp.Time,I c25.Stamp.Source,I c25.Stamp.Seq,I 0,I 0,I 0,AV.v (Go.Value.bool x16),AV.v (Go.Value.bool false)]]).length)<|
 zjD a0 a1 a2 x12 x16 x17 x19 x21 x23 x24 c25 m53 r57 r60 x21 x17)
 (brn r57.snd (zex a0 a1 a2 x19 r60.fst c25.Stamp x21 m53 x23 false x17 x24)
 (zpW a0 a1 a2 x12 x16 x17 x19 x21 x23 x24 c25 m53 r60)))=some y):zk5 a0 a1 a2 x12 x16 x17 x19 x21 x23 x24 c25 m53 r57 r60=some y:=
 pt_of zT [8,14,15,17,19,25,26,28,29,33] (by kernel_rfl) h
theorem zBo (a0:GSetup) (a1:List GMarkEvent) (a2:Int) (x0:List (List AV)) (x2:GStamp) (x3:List (List AV)) (x5:Bool) (x6:Int) (c7:GMarkEvent) (m48:List (List AV)) (r52:Bool×Bool) (r54:GWatch×Int) (x59:Int) (x63:List (List AV)) {y:AV×Mem} (h:(
 zme a0 a1 a2 x0 x2 x3 x5 x6 c7 m48 r52 r54 x63 (w64 (x59+1)))=some y):zcZ a0 a1 a2 x0 x2 x3 x5 x6 c7 m48 r52 r54 x59 x63=some y:=
 pt_of zT [8,14,15,17,19,25,26,28,29,33] (by kernel_rfl) h
theorem zxl (a0:GSetup) (a1:List GMarkEvent) (a2:Int) (x0:List (List AV)) (x2:GStamp) (x3:List (List AV)) (x5:Bool) (x6:Int) (c7:GMarkEvent) (m48:List (List AV)) (r52:Bool×Bool) (r54:GWatch×Int) (x58:List (List AV)) (x59:Int) {y:AV×Mem} (h:(
 zcs a0 a1 a2 (x0++([zaJ (⟨a2,⟨x2.Time,x2.Source,x2.Seq⟩,⟨c7.Stamp.Time,c7.Stamp.Source,c7.Stamp.Seq⟩,⟨0,0,0⟩,x5,false⟩)])) r54.fst x2 x58 m48 x5 (w64 (x6+1)))=some y):zpU a0 a1 a2 x0 x2 x3 x5 x6 c7 m48 r52 r54 x58 x59=some y:=
 pt_of zT [8,14,15,17,19,25,26,28,29,33] (by kernel_rfl) h
theorem zt7 (a0:GSetup) (a1:List GMarkEvent) (a2:Int) (x12:GStamp) (x16:Bool) (x17:Int) (x19:List (List AV)) (x21:List (List AV)) (x23:Nat) (x24:Int) (c25:GMarkEvent) (m53:List (List AV)) (r57:Bool×Bool) (r60:GWatch×Int) (x75:List (List AV)) (x76:Int) {y:AV×Mem} (h:(
 brn (decide (x76≤x24)) (chk ((0:Int)≤x76)<|
 chk ((x76:Int) < ((↑(List.replicate (↑(List.map zab a1).length:Int).toNat (AV.v (Go.Value.bool false) :: List.map AV.v [])).length:Int)))<|
 elemD dBool x75 (0+x76.toNat) fun (c77:Bool) =>
 brn c77 (chk ((0:Int)≤x76)<|
 chk ((x76:Int) < ((↑(List.replicate (↑(List.map zab a1).length:Int).toNat (AV.v (Go.Value.bool false) :: List.map AV.v [])).length:Int)))<|
 elemD dBool x75 (0+x76.toNat) fun (c78:Bool) =>
 zcx a0 a1 a2 x12 x16 x17 x19 x21 x23 x24 c25 m53 r57 r60 x76 (List.set x75 (0+x76.toNat) (nBool true)))
 (chk ((0:Int)≤x76)<|
 elemD zaG (List.map zab a1) x76.toNat fun (c80:GMarkEvent) =>
 brn (c80.Kind == 0) (chk ((0:Int)≤x76)<|
 elemD zaG (List.map zab a1) x76.toNat fun (c81:GMarkEvent) =>
 brn (c81.Stamp.Source == a2) (brn x16 (brn ((↑(x19++[[I a2,I x12.Time,I x12.Source,I x12.Seq,I c25.Stamp.Time,I c25.Stamp.Source,I c25.Stamp.Seq,I 0,I 0,I 0,AV.v (Go.Value.bool x16),AV.v (Go.Value.bool false)]]).length:Int) == 1) (chk ((0:Int)≤x76)<|
 chk ((x76:Int) < ((↑(List.replicate (↑(List.map zab a1).length:Int).toNat (AV.v (Go.Value.bool false) :: List.map AV.v [])).length:Int)))<|
 elemD dBool x75 (0+x76.toNat) fun (c82:Bool) =>
 zcx a0 a1 a2 x12 x16 x17 x19 x21 x23 x24 c25 m53 r57 r60 x76 (List.set x75 (0+x76.toNat) (nBool true)))
 (chk ((0:Int)≤x76)<|
 elemD zaG (List.map zab a1) x76.toNat fun (c83:GMarkEvent) =>
 callD zeU (cw zf9 [AV.agg (zaT x12),AV.agg (zaT c83.Stamp)] []) fun (r84:Bool) =>
 chk ((0:Int)≤x76)<|
 chk ((x76:Int) < ((↑(List.replicate (↑(List.map zab a1).length:Int).toNat (AV.v (Go.Value.bool false) :: List.map AV.v [])).length:Int)))<|
 elemD dBool x75 (0+x76.toNat) fun (c85:Bool) =>
 zcx a0 a1 a2 x12 x16 x17 x19 x21 x23 x24 c25 m53 r57 r60 x76 (List.set x75 (0+x76.toNat) (nBool r84))))
 (chk ((0:Int)≤x76)<|
 elemD zaG (List.map zab a1) x76.toNat fun (c86:GMarkEvent) =>
 callD zeU (cw zf9 [AV.agg (zaT x12),AV.agg (zaT c86.Stamp)] []) fun (r87:Bool) =>
 chk ((0:Int)≤x76)<|
 chk ((x76:Int) < ((↑(List.replicate (↑(List.map zab a1).length:Int).toNat (AV.v (Go.Value.bool false) :: List.map AV.v [])).length:Int)))<|
 elemD dBool x75 (0+x76.toNat) fun (c88:Bool) =>
 zcx a0 a1 a2 x12 x16 x17 x19 x21 x23 x24 c25 m53 r57 r60 x76 (List.set x75 (0+x76.toNat) (nBool r87))))
 (chk ((0:Int)≤x76)<|
 chk ((x76:Int) < ((↑(List.replicate (↑(List.map zab a1).length:Int).toNat (AV.v (Go.Value.bool false) :: List.map AV.v [])).length:Int)))<|
 elemD dBool x75 (0+x76.toNat) fun (c89:Bool) =>
 zcx a0 a1 a2 x12 x16 x17 x19 x21 x23 x24 c25 m53 r57 r60 x76 (List.set x75 (0+x76.toNat) (nBool false))))
 (chk ((0:Int)≤x76)<|
 chk ((x76:Int) < ((↑(List.replicate (↑(List.map zab a1).length:Int).toNat (AV.v (Go.Value.bool false) :: List.map AV.v [])).length:Int)))<|
 elemD dBool x75 (0+x76.toNat) fun (c90:Bool) =>
 zcx a0 a1 a2 x12 x16 x17 x19 x21 x23 x24 c25 m53 r57 r60 x76 (List.set x75 (0+x76.toNat) (nBool false)))))
 (zpS a0 a1 a2 x12 x16 x17 x19 x21 x23 x24 c25 m53 r57 r60 x75 x76))=some y):zjD a0 a1 a2 x12 x16 x17 x19 x21 x23 x24 c25 m53 r57 r60 x75 x76=some y:=
 pt_of zT [8,14,15,17,19,25,26,28,29,33] (by kernel_rfl) h
theorem zxT (a0:GSetup) (a1:List GMarkEvent) (a2:Int) (x12:GStamp) (x16:Bool) (x17:Int) (x19:List (List AV)) (x21:List (List AV)) (x23:Nat) (x24:Int) (c25:GMarkEvent) (m53:List (List AV)) (r60:GWatch×Int) {y:AV×Mem} (h:(
 zcl a0 a1 a2 x12 x16 x17 x19 r60.fst x21 m53 x23 (w64 (x24+1)))=some y):zpW a0 a1 a2 x12 x16 x17 x19 x21 x23 x24 c25 m53 r60=some y:=
 pt_of zT [8,14,15,17,19,25,26,28,29,33] (by kernel_rfl) h
theorem zyu (a0:GSetup) (a1:List GMarkEvent) (a2:Int) (x12:GStamp) (x16:Bool) (x17:Int) (x19:List (List AV)) (x21:List (List AV)) (x23:Nat) (x24:Int) (c25:GMarkEvent) (m53:List (List AV)) (r57:Bool×Bool) (r60:GWatch×Int) (x76:Int) (x79:List (List AV)) {y:AV×Mem} (h:(
 zjD a0 a1 a2 x12 x16 x17 x19 x21 x23 x24 c25 m53 r57 r60 x79 (w64 (x76+1)))=some y):zcx a0 a1 a2 x12 x16 x17 x19 x21 x23 x24 c25 m53 r57 r60 x76 x79=some y:=
 pt_of zT [8,14,15,17,19,25,26,28,29,33] (by kernel_rfl) h
theorem zxD (a0:GSetup) (a1:List GMarkEvent) (a2:Int) (x12:GStamp) (x16:Bool) (x17:Int) (x19:List (List AV)) (x21:List (List AV)) (x23:Nat) (x24:Int) (c25:GMarkEvent) (m53:List (List AV)) (r57:Bool×Bool) (r60:GWatch×Int) (x75:List (List AV)) (x76:Int) {y:AV×Mem} (h:(
 zcl a0 a1 a2 x12 x16 x17 (x19++([zaJ (⟨a2,⟨x12.Time,x12.Source,x12.Seq⟩,⟨c25.Stamp.Time,c25.Stamp.Source,c25.Stamp.Seq⟩,⟨0,0,0⟩,x16,false⟩)])) r60.fst x75 m53 ((x19++[[I a2,I x12.Time,I x12.Source,I x12.Seq,I c25.Stamp.Time,I c25.Stamp.Source,I c25.Stamp.Seq,I 0,I 0,I 0,AV.v (Go.Value.bool x16),AV.v (Go.Value.bool false)]]).length) (w64 (x24+1)))=some y):zpS a0 a1 a2 x12 x16 x17 x19 x21 x23 x24 c25 m53 r57 r60 x75 x76=some y:=
 pt_of zT [8,14,15,17,19,25,26,28,29,33] (by kernel_rfl) h
theorem zHa (a0:GSetup) (a1:List GMarkEvent) (a2:Int) {y:AV×Mem} (h:(
 chk (((↑(List.map zab a1).length:Int):Int)=((↑(List.map zab a1).length:Int)))<|
 chk ((0:Int)≤((↑(List.map zab a1).length:Int)))<|
 chk ((↑(List.map zab a1).length:Int).toNat*(1+1)≤1099511627776)<|
 zcs a0 a1 a2 [] (⟨[],false⟩) (⟨0,0,0⟩) (List.replicate ((↑(List.map zab a1).length:Int).toNat) (nBool false)) [] true 0)=some y):cw zoT [AV.agg (zat a0),AV.sl 9 (List.map zab a1),I a2] []=some y:=
 zah zaN zT [8,14,15,17,19,25,26,28,29,33] rfl (by kernel_rfl) (by kernel_rfl) (by kernel_rfl) (by kernel_rfl) (by kernel_rfl) h
end Go.Proofs.YticojpmhlhfhlaaGreat
