/-
  ShowAgain: what the proof needs, put together by a program of this session (shake.py), part 8.
-/
import Derived.Test.YthebhbomlllpeaaGreatDoorZShowAgain7
set_option linter.unusedVariables false
set_option linter.unusedSimpArgs false
namespace Go.Proofs.YthebhbomlllpeaaGreatDoor.X
open Go.RowKit Go.Proofs.YthebhbomlllpeaaGreatDoorW.PrintWords Go.Proofs.YthebhbomlllpeaaGreatDoorW.PrintLast Go.Proofs.YthebhbomlllpeaaGreatDoorW.PrintMore
structure FactC (V:World) (pn:ByteArray) (pa:List TmS) (ad ld:Addr) (A10 A30 A11 B0 B1:Option Addr) (c10 c30 c11 c31 b0 b1:Nat):Prop where
 r0:V.cell? ad=some (.string pn)
 r1:V.cell? ⟨ad.block,ad.off+1,none⟩=some (.slice A10 pa.length c10)
 r2:V.cell? ⟨ad.block,ad.off+2,none⟩=some (.int .i64 0)
 r3:V.cell? ⟨ad.block,ad.off+3,none⟩=some (.slice A30 0 c30)
 r4:V.cell? ⟨ad.block,ad.off+4,none⟩=some (.string ⟨#[120]⟩)
 r5:V.cell? ⟨ad.block,ad.off+4+1,none⟩=some (.slice A11 0 c11)
 r6:V.cell? ⟨ad.block,ad.off+4+2,none⟩=some (.int .i64 0)
 r7:V.cell? ⟨ad.block,ad.off+4+3,none⟩=some (.slice (some ld) 2 c31)
 l0:V.cell? ld=some (.int .i64 1)
 l1:V.cell? ⟨ld.block,ld.off+1,none⟩=some (.string pn)
 l2:V.cell? ⟨ld.block,ld.off+2,none⟩=some (.slice B0 pa.length b0)
 m0:V.cell? ⟨ld.block,ld.off+17,none⟩=some (.int .i64 2)
 m1:V.cell? ⟨ld.block,ld.off+17+1,none⟩=some (.string pn)
 m2:V.cell? ⟨ld.block,ld.off+17+2,none⟩=some (.slice B1 pa.length b1)
 h0:pa.length≤c10∧Kd.C k60 V A10 pa.length pa
 h1:pa.length≤b0∧Kd.C k60 V B0 pa.length pa
 h2:pa.length≤b1∧Kd.C k60 V B1 pa.length pa
structure FactS (V:World) (pn:ByteArray) (pa:List TmS) (ad ld:Addr) (A10 A30 A11 B0 B1 A0 A1 A3:Option Addr) (c10 c30 c11 c31 b0 b1 c0 c1 c2 c3 n1 n2 n3:Nat) (qn:ByteArray) (qa:List TmS):Prop where
 f:FactC V pn pa ad ld A10 A30 A11 B0 B1 c10 c30 c11 c31 b0 b1
 b1:V.heap[n1]?=some (.cells #[.slice A0 0 c0,.string pn,.slice A1 pa.length c1] 27 (0,0))
 b2:V.heap[n2]?=some (.cells #[.slice (some ad) 2 c2,.string qn,.slice A3 qa.length c3] 27 (0,0))
 b3:V.heap[n3]?=some (.cells #[.string ⟨#[120]⟩,.slice A11 0 c11,.int .i64 0,.slice (some ld) 2 c31] 33 (0,0))
 kc:Kd.C k60 V A1 pa.length pa
def factr.T:Bool × List (List Nat × List Nat):=(true,[([],[]),([0],[0]),([1],[1]),([2],[2]),([3],[3]),([],[]),([5],[5]),([4,6],[4,6]),([7,7],[7]),([8],[8]),([9,8],[8,9]),([10,8],[8,10]),([11,8],[8,11]),([8,12],[8,12]),([13,8],[13]),([14],[14]),([15,14],[14,15]),([16,14],[14,16]),([17,14],[14,17]),([18,14],[14,18]),([19,14],[14,19]),([14,20],[14,20]),([21,14],[21]),([22],[22]),([23,22],[22,23]),([24,22],[22,24]),([25,22],[22,25]),([26,22],[22,26]),([27,22],[22,27]),([22,28],[22,28]),([29,22],[29]),([30],[30]),([31,30],[30,31]),([32,30],[30,32]),([33,30],[30,33]),([34,30],[30,34]),([30],[30]),([36,30],[30,36]),([35,37,30,30],[30,35,37]),([30,38],[30,38]),([39,38],[39]),([40],[40]),([41,40],[40,41]),([42,40],[40,42]),([43,40],[40,43]),([44,40],[40,44]),([40],[40]),([46,40],[40,46]),([45,47,40,40],[40,45,47]),([40,48],[40,48]),([49,48],[49]),([50],[50]),([51,50],[50,51]),([52,50],[50,52]),([53,50],[50,53]),([54,50],[50,54]),([55,50],[50,55]),([50,56],[50,56]),([57,50,0,1,2,3,4,5,6,7,8,9,10,11,12,13,14,15,16,17,18,19,20,21,22,23,24,25,26,27,28,29,30,31,32,33,34,35,36,37,38,39,40,41,42,43,44,45,46,47,48,49,50,51,52,53,54,55,56,57],[57])])
def factr.B:List Nat:=[0,1,3,7,15,0,32,127,255,511,1023,2047,4095,8191,16383,32767,65535,131071,262143,524287,1048575,2097151,4194303,8388607,16777215,33554431,67108863,134217727,268435455,536870911,1073741823,2147483647,4294967295,8589934591,17179869183,34359738367,2147483647,70866960383,274877906943,549755813887,1099511627775,2199023255551,4398046511103,8796093022207,17592186044415,35184372088831,2199023255551,72567767433215,281474976710655,562949953421311,1125899906842623,2251799813685247,4503599627370495,9007199254740991,18014398509481983,36028797018963967,72057594037927935,144115188075855871,288230376151711743]
end Go.Proofs.YthebhbomlllpeaaGreatDoor.X
namespace Go.Proofs.YthebhbomlllpeaaGreatDoor.X
open Go.RowKit Go.Proofs.YthebhbomlllpeaaGreatDoorW.PrintWords Go.Proofs.YthebhbomlllpeaaGreatDoorW.PrintLast Go.Proofs.YthebhbomlllpeaaGreatDoorW.PrintMore
attribute [local go_sem] z4h z4i z5e z5d z3s z3r z4l z4k
def z1c.f (s0_0:List (S53)) (s0_1:Int) (s0_2:Int) (s0_3:Int) (s0_4:Int) (a1:Int) (a2:Int) (a3:ByteArray):Option (Bool × Int × Int × Int × Int):=(z4f.f s0_0 s0_1 s0_2 s0_3 s0_4 a1).bind fun bt267=>(if bt267.1=a2 then(some ((bt267.2.1.toList==a3.toList),bt267.2.2.1,bt267.2.2.2.1,bt267.2.2.2.2.1,bt267.2.2.2.2.2))else(some (false,bt267.2.2.1,bt267.2.2.2.1,bt267.2.2.2.2.1,bt267.2.2.2.2.2)))
def z30.f (s0_0:List (S53)) (s0_1:Int) (s0_2:Int) (s0_3:Int) (s0_4:Int) (a1:Int) (a2:Int):Option (Int × Int × Int × Int):=if s0_3=0 then(some (s0_1,s0_2,a1,a2))else(some (s0_1,s0_2,s0_3,s0_4))
def z3d.f (s0_0:List (S53)) (s0_1:Int) (s0_2:Int) (s0_3:Int) (s0_4:Int):Option (Int × Int × Int × Int × Int):=if s0_1<(s0_0.length:Int)then(if 0≤s0_1 then(some ((zbz s0_0 s0_1).f2,s0_1,s0_2,s0_3,s0_4))else(none))else(some (s0_2,s0_1,s0_2,s0_3,s0_4))
def z5z.f (s0_0:List (S53)) (s0_1:Int) (s0_2:Int) (s0_3:Int) (s0_4:Int) (a1:ByteArray):Option (Int × Int × Int × Int):=(z1c.f s0_0 s0_1 s0_2 s0_3 s0_4 0 4 a1).bind fun bt274=>(if bt274.1=true then(some (wrap64 (bt274.2.1+1),bt274.2.2.1,bt274.2.2.2.1,bt274.2.2.2.2))else((z3d.f s0_0 bt274.2.1 bt274.2.2.1 bt274.2.2.2.1 bt274.2.2.2.2).bind fun bt279=>((z30.f s0_0 bt279.2.1 bt279.2.2.1 bt279.2.2.2.1 bt279.2.2.2.2 2 bt279.1).bind fun bt284=>(some (bt284.1,bt284.2.1,bt284.2.2.1,bt284.2.2.2)))))
def z1m.j0:Nat→ByteArray→Bool→List (S53)→Int→Int→Int→Int→Option (ByteArray × Int × Int × Int × Int)
 |0,_,_,_,_,_,_,_=>none
 |k+1,x4,x15,x1000,x1001,x1002,x1003,x1004=>if x15=true then((z3d.f x1000 x1001 x1002 x1003 x1004).bind fun bt301=>((z30.f x1000 bt301.2.1 bt301.2.2.1 bt301.2.2.2.1 bt301.2.2.2.2 2 bt301.1).bind fun bt306=>(some ((⟨#[]⟩:ByteArray),bt306.1,bt306.2.1,bt306.2.2.1,bt306.2.2.2))))else(some (x4,wrap64 (x1001+1),x1002,x1003,x1004))
def z1m.f (k:Nat) (s0_0:List (S53)) (s0_1:Int) (s0_2:Int) (s0_3:Int) (s0_4:Int):Option (ByteArray × Int × Int × Int × Int):=(z4f.f s0_0 s0_1 s0_2 s0_3 s0_4 0).bind fun bt294=>(if bt294.1=1 then((z3p.f k bt294.2.1).bind fun t300=>(z1m.j0 k bt294.2.1 t300 s0_0 bt294.2.2.1 bt294.2.2.2.1 bt294.2.2.2.2.1 bt294.2.2.2.2.2))else(z1m.j0 k bt294.2.1 true s0_0 bt294.2.2.1 bt294.2.2.2.1 bt294.2.2.2.2.1 bt294.2.2.2.2.2))
def z83.l0:Nat→ByteArray→List ByteArray→Int→Int→Option (Int)
 |0,_,_,_,_=>none
 |k+1,x0,x3,x7,x8=>if x8<x7 then(if 0≤x8 then(if x8<(x3.length:Int)then(if(rdOf ByteArray.empty x3 x8).toList=x0.toList then(some (wrap64 (x8+1)))else(z83.l0 k x0 x3 x7 (wrap64 (x8+1))))else(none))else(none))else(some 0)

abbrev PFT:=Nat→List S53→Int→Int→Int→Int→Int→Option (List S69 × Int × Int × Int × Int)
mutual
def z0n.j0 (PF:PFT):Nat→List (S69)→List (S53)→Int→Int→Int→Int→Option ((List (S69)) × Int × Int × Int × Int)
 |0,_,_,_,_,_,_=>none
 |k+1,x5,x1000,x1001,x1002,x1003,x1004=>z0n.l0 PF k x5 x1000 x1001 x1002 x1003 x1004
def z0n.l0 (PF:PFT):Nat→List (S69)→List (S53)→Int→Int→Int→Int→Option ((List (S69)) × Int × Int × Int × Int)
 |0,_,_,_,_,_,_=>none
 |k+1,x5,x1000,x1001,x1002,x1003,x1004=>if x1003=0 then((z1c.f x1000 x1001 x1002 x1003 x1004 0 4 (⟨#[42]⟩:ByteArray)).bind fun bt300=>(if bt300.1=true then(if x5.length<5864062014805 then(z0n.l0 PF k (x5++[(⟨5,(⟨#[]⟩:ByteArray)⟩:S69)]) x1000 (wrap64 (bt300.2.1+1)) bt300.2.2.1 bt300.2.2.2.1 bt300.2.2.2.2)else(none))else((z1c.f x1000 bt300.2.1 bt300.2.2.1 bt300.2.2.2.1 bt300.2.2.2.2 0 4 (⟨#[43]⟩:ByteArray)).bind fun bt308=>(if bt308.1=true then(if x5.length<5864062014805 then(z0n.l0 PF k (x5++[(⟨6,(⟨#[]⟩:ByteArray)⟩:S69)]) x1000 (wrap64 (bt308.2.1+1)) bt308.2.2.1 bt308.2.2.2.1 bt308.2.2.2.2)else(none))else((z1c.f x1000 bt308.2.1 bt308.2.2.1 bt308.2.2.2.1 bt308.2.2.2.2 0 4 (⟨#[63]⟩:ByteArray)).bind fun bt316=>(if bt316.1=true then(if x5.length<5864062014805 then(z0n.l0 PF k (x5++[(⟨7,(⟨#[]⟩:ByteArray)⟩:S69)]) x1000 (wrap64 (bt316.2.1+1)) bt316.2.2.1 bt316.2.2.2.1 bt316.2.2.2.2)else(none))else(some (x5,bt316.2.1,bt316.2.2.1,bt316.2.2.2.1,bt316.2.2.2.2))))))))else(some (x5,x1001,x1002,x1003,x1004))
end
def z0n.f (PF:PFT) (k:Nat) (s0_0:List (S53)) (s0_1:Int) (s0_2:Int) (s0_3:Int) (s0_4:Int) (a1:Int):Option ((List (S69)) × Int × Int × Int × Int):=(z1c.f s0_0 s0_1 s0_2 s0_3 s0_4 0 4 (⟨#[40]⟩:ByteArray)).bind fun bt254=>(if bt254.1=true then(if a1=32 then((z3d.f s0_0 bt254.2.1 bt254.2.2.1 bt254.2.2.2.1 bt254.2.2.2.2).bind fun bt259=>((z30.f s0_0 bt259.2.1 bt259.2.2.1 bt259.2.2.2.1 bt259.2.2.2.2 3 bt259.1).bind fun bt264=>(some (([]:List (S69)),bt264.1,bt264.2.1,bt264.2.2.1,bt264.2.2.2))))else((PF k s0_0 (wrap64 (bt254.2.1+1)) bt254.2.2.1 bt254.2.2.2.1 bt254.2.2.2.2 (wrap64 (a1+1))).bind fun bt268=>((z5z.f s0_0 bt268.2.1 bt268.2.2.1 bt268.2.2.2.1 bt268.2.2.2.2 (⟨#[41]⟩:ByteArray)).bind fun bt275=>(z0n.j0 PF k bt268.1 s0_0 bt275.1 bt275.2.1 bt275.2.2.1 bt275.2.2.2))))else((z1c.f s0_0 bt254.2.1 bt254.2.2.1 bt254.2.2.2.1 bt254.2.2.2.2 0 4 (⟨#[94]⟩:ByteArray)).bind fun bt279=>(if bt279.1=true then((z1m.f k s0_0 (wrap64 (bt279.2.1+1)) bt279.2.2.1 bt279.2.2.2.1 bt279.2.2.2.2).bind fun bt284=>(z0n.j0 PF k (([(⟨2,bt284.1⟩:S69)]:List (S69))) s0_0 bt284.2.1 bt284.2.2.1 bt284.2.2.2.1 bt284.2.2.2.2))else((z1m.f k s0_0 bt279.2.1 bt279.2.2.1 bt279.2.2.2.1 bt279.2.2.2.2).bind fun bt292=>(z0n.j0 PF k (([(⟨1,bt292.1⟩:S69)]:List (S69))) s0_0 bt292.2.1 bt292.2.2.1 bt292.2.2.2.1 bt292.2.2.2.2)))))
def z1x.l0 (PF:PFT):Nat→Int→List (S69)→List (S53)→Int→Int→Int→Int→Option ((List (S69)) × Int × Int × Int × Int)
 |0,_,_,_,_,_,_,_=>none
 |k+1,x1,x5,x1000,x1001,x1002,x1003,x1004=>if x1003=0 then((z1c.f x1000 x1001 x1002 x1003 x1004 0 4 (⟨#[47]⟩:ByteArray)).bind fun bt331=>(if bt331.1=true then((z0n.f PF k x1000 (wrap64 (bt331.2.1+1)) bt331.2.2.1 bt331.2.2.2.1 bt331.2.2.2.2 x1).bind fun bt336=>(if x5.length+bt336.1.length<5864062014805 then((some (x5++bt336.1:List (S69))).bind fun y343=>(if y343.length<5864062014805 then(z1x.l0 PF k x1 (y343++[(⟨3,(⟨#[]⟩:ByteArray)⟩:S69)]) x1000 bt336.2.1 bt336.2.2.1 bt336.2.2.2.1 bt336.2.2.2.2)else(none)))else(none)))else(some (x5,bt331.2.1,bt331.2.2.1,bt331.2.2.2.1,bt331.2.2.2.2))))else(some (x5,x1001,x1002,x1003,x1004))
def z1x.f (PF:PFT) (k:Nat) (s0_0:List (S53)) (s0_1:Int) (s0_2:Int) (s0_3:Int) (s0_4:Int) (a1:Int):Option ((List (S69)) × Int × Int × Int × Int):=(z0n.f PF k s0_0 s0_1 s0_2 s0_3 s0_4 a1).bind fun bt324=>(z1x.l0 PF k a1 bt324.1 s0_0 bt324.2.1 bt324.2.2.1 bt324.2.2.2.1 bt324.2.2.2.2)
def z61.l0 (PF:PFT):Nat→Int→List (S69)→List (S53)→Int→Int→Int→Int→Option ((List (S69)) × Int × Int × Int × Int)
 |0,_,_,_,_,_,_,_=>none
 |k+1,x1,x5,x1000,x1001,x1002,x1003,x1004=>if x1003=0 then((z1c.f x1000 x1001 x1002 x1003 x1004 0 4 (⟨#[124]⟩:ByteArray)).bind fun bt214=>(if bt214.1=true then((z1x.f PF k x1000 (wrap64 (bt214.2.1+1)) bt214.2.2.1 bt214.2.2.2.1 bt214.2.2.2.2 x1).bind fun bt219=>(if x5.length+bt219.1.length<5864062014805 then((some (x5++bt219.1:List (S69))).bind fun y226=>(if y226.length<5864062014805 then(z61.l0 PF k x1 (y226++[(⟨4,(⟨#[]⟩:ByteArray)⟩:S69)]) x1000 bt219.2.1 bt219.2.2.1 bt219.2.2.2.1 bt219.2.2.2.2)else(none)))else(none)))else(some (x5,bt214.2.1,bt214.2.2.1,bt214.2.2.2.1,bt214.2.2.2.2))))else(some (x5,x1001,x1002,x1003,x1004))
end Go.Proofs.YthebhbomlllpeaaGreatDoor.X
namespace Go.Proofs.YthebhbomlllpeaaGreatDoor.X
open Go.RowKit Go.Proofs.YthebhbomlllpeaaGreatDoorW.PrintWords Go.Proofs.YthebhbomlllpeaaGreatDoorW.PrintLast Go.Proofs.YthebhbomlllpeaaGreatDoorW.PrintMore
attribute [local go_sem high] eqA60
def zmj (x:RlS):Prop:=x.f0.f1.length≤1000∧x.f2.length≤1000∧∀y ∈ x.f2,y.f1.f1.length≤1000∧y.f6.length≤100
def same6.T:Bool × List (List Nat × List Nat):=(true,[([],[]),([0],[0]),([],[]),([1,2],[1,2]),([3],[3]),([],[]),([5],[5]),([],[]),([6,7],[6,7]),([8],[8]),([],[]),([],[]),([10,4,0,1,2,3,4,10,11],[4,10]),([11,9,12,0,1,2,3,4,5,6,7,8,9,10,11,12],[9,11])])
def same6.B:List Nat:=[0,1,0,7,15,0,32,0,224,480,0,0,3103,8191]
def same12.T:Bool × List (List Nat × List Nat):=(true,[([],[]),([0],[0]),([],[]),([1,2],[1,2]),([3],[3]),([],[]),([5],[5]),([],[]),([6,7],[6,7]),([8],[8]),([],[]),([],[]),([10,4,0,1,2,3,4,10,11],[4,10]),([11,9,12,0,1,2,3,4,5,6,7,8,9,10,11,12],[9,11])])
def same12.B:List Nat:=[0,1,0,7,15,0,32,0,224,480,0,0,3103,8191]
end Go.Proofs.YthebhbomlllpeaaGreatDoor.X
namespace Go.Proofs.YthebhbomlllpeaaGreatDoor.X
open Go.RowKit Go.Proofs.YthebhbomlllpeaaGreatDoorW.PrintWords Go.Proofs.YthebhbomlllpeaaGreatDoorW.PrintLast Go.Proofs.YthebhbomlllpeaaGreatDoorW.PrintMore
theorem zg0 {s:ByteArray} (hs:s.size≤20000):(∃p,progO s.data.toList=some p∧z2m.f s=some (p.f0,p.f1.f0,p.f1.f1,0,0))∨∃r1 r2 r3 r4 r5,z2m.f s=some (r1,r2,r3,r4,r5)∧r5≠0:=by
 unfold z2m.f;rw[if_pos (by omega)]
 cases hp:progO s.data.toList with
 |none=>exact .inr ⟨_,_,_,_,_,rfl,zip hs hp zg3⟩
 |some p =>
  refine .inl ⟨p,rfl,?_⟩;rw[zc9 hs hp]
end Go.Proofs.YthebhbomlllpeaaGreatDoor.X
namespace Go.Proofs.YthebhbomlllpeaaGreatDoor.X
open Go.RowKit Go.Proofs.YthebhbomlllpeaaGreatDoorW.PrintWords Go.Proofs.YthebhbomlllpeaaGreatDoorW.PrintLast Go.Proofs.YthebhbomlllpeaaGreatDoorW.PrintMore
attribute [local go_sem] z4h z4i z5e z5d z3s z3r z4l z4k
attribute [local go_sem high] eqA60
mutual
def z0b.j0:Nat→Bool→ByteArray→List (S60)→ByteArray→List (S60)→Option (Bool)
 |0,_,_,_,_,_=>none
 |k+1,x19,x854000,x854001,x855000,x855001=>if x19=true then(some false)else(z0b.l0 k (x854001.length:Int) 0 x854000 x854001 x855000 x855001)
def z0b.l0:Nat→Int→Int→ByteArray→List (S60)→ByteArray→List (S60)→Option (Bool)
 |0,_,_,_,_,_,_=>none
 |k+1,x22,x23,x854000,x854001,x855000,x855001=>if x23<x22 then(if 0≤x23 then(if x23<(x854001.length:Int)then(if x23<(x855001.length:Int)then(if(!((((z1j x854001 x23).f0).toList)==(((z1j x855001 x23).f0).toList))||((!(((z1j x854001 x23).f1.f0)==((z1j x855001 x23).f1.f0))||(!(((z1j x854001 x23).f1.f1)==((z1j x855001 x23).f1.f1))||(!((((z1j x854001 x23).f1.f2).toList)==(((z1j x855001 x23).f1.f2).toList)))))))=true then(some false)else(z0b.l0 k x22 (wrap64 (x23+1)) x854000 x854001 x855000 x855001))else(none))else(none))else(none))else(some true)
end
def z0b.f (k:Nat) (a0_0:ByteArray) (l0_1:List (S60)) (a1_0:ByteArray) (l1_1:List (S60)):Option (Bool):=if a0_0.toList=a1_0.toList then(z0b.j0 k ((l0_1.length:Int) !=(l1_1.length:Int)) a0_0 l0_1 a1_0 l1_1)else(z0b.j0 k true a0_0 l0_1 a1_0 l1_1)
set_option maxHeartbeats 8000000 in
set_option maxRecDepth 100000 in
theorem z0b.calls (k:Nat) (a0_0:ByteArray) (A0_1:Option Addr) (c0_1:Nat) (l0_1:List (S60)) (a1_0:ByteArray) (A1_1:Option Addr) (c1_1:Nat) (l1_1:List (S60)) (r:Bool) (w:World) (hr0_1:Kd.C k60 w A0_1 l0_1.length l0_1) (hc0_1:l0_1.length≤c0_1) (hr1_1:Kd.C k60 w A1_1 l1_1.length l1_1) (hc1_1:l1_1.length≤c1_1) (h:z0b.f k a0_0 l0_1 a1_0 l1_1=some r) :
 Calls Tryz.prog 68 #[.agg #[.string a0_0,.slice A0_1 l0_1.length c0_1],.agg #[.string a1_0,.slice A1_1 l1_1.length c1_1]] w fun e w'=>e=.returned (.bool r)∧Below w.heap.size w w':=by
 have hu25:=Tryz.underlying25;have hu60:=Tryz.underlying60;have HR0_1:=z00.mk hr0_1;have HC0_1:=z00.mk hc0_1;clear hr0_1 hc0_1;have HR1_1:=z00.mk hr1_1;have HC1_1:=z00.mk hc1_1;clear hr1_1 hc1_1;have HB:=z00.mk (Below.refl w.heap.size w);have H:(if a0_0.toList=a1_0.toList then(z0b.j0 k ((l0_1.length:Int) !=(l1_1.length:Int)) a0_0 l0_1 a1_0 l1_1)else(z0b.j0 k true a0_0 l0_1 a1_0 l1_1))=some r:=h;clear h;have HC3:=z00.mk H;clear H;go_enter Tryz.func68,Tryz.ntmps68
 go_upto_region 1 with (first|((with_reducible refine z1u (N:=2) rfl ?_);(try(refine z5o (by rfl) ?_;dsimp only));refine z28 ?hg (N:=2) ?hd (cs:=#[.string a0_0,.slice A0_1 l0_1.length c0_1]) (t:=25) ?hr ?_;(case hd=>rfl);(case hg=>rfl);(case hr=>first|(go_simp;done)|(go_simp;rfl));intro gb853 hg w4 hbox hb;have n0_:=z00.mk (z0g zA00 hb);have n1_:=z00.mk (hbox);have n2_:=z00.mk ((by rw[hg];exact(z0i zA00):w.heap.size≤gb853));have n3_:=z00.mk ((by rw[hg];exact(z0i zA00):w.heap.size≤gb853));clear HB;have HB:=n0_;have BK853:=n1_;have GW853:=n2_;have GE853:=n3_;clear n0_ n1_ n2_ n3_;clear hb hbox hg)|((with_reducible refine z1u (N:=3) rfl ?_);(try(refine z5o (by rfl) ?_;dsimp only));refine z28 ?hg (N:=3) ?hd (cs:=#[.string a1_0,.slice A1_1 l1_1.length c1_1]) (t:=25) ?hr ?_;(case hd=>rfl);(case hg=>rfl);(case hr=>first|(go_simp;done)|(go_simp;rfl));intro gb854 hg w5 hbox hb;have n0_:=z00.mk (z0a (g:=gb853) (o:=.cells #[.string a0_0,.slice A0_1 l0_1.length c0_1] 25 (0,0)) zA04 hb);have n1_:=z00.mk (z0g zA05 hb);have n2_:=z00.mk (hbox);have n3_:=z00.mk ((by rw[hg];exact(z0i zA05):w.heap.size≤gb854));have n4_:=z00.mk ((by rw[hg];exact(z0i zA05):w.heap.size≤gb854));have n5_:=z00.mk ((by rw[hg];exact Nat.ne_of_lt (z27 (g:=gb853) (o:=.cells #[.string a0_0,.slice A0_1 l0_1.length c0_1] 25 (0,0)) zA04):gb853≠gb854));have n6_:=z00.mk ((by rw[hg];exact Nat.ne_of_gt (z27 (g:=gb853) (o:=.cells #[.string a0_0,.slice A0_1 l0_1.length c0_1] 25 (0,0)) zA04):gb854≠gb853));clear BK853;clear HB;have BK853:=n0_;have HB:=n1_;have BK854:=n2_;have GW854:=n3_;have GE854:=n4_;have NB853_854:=n5_;have NB854_853:=n6_;clear n0_ n1_ n2_ n3_ n4_ n5_ n6_;clear hb hbox hg))
 repeat(go_quiet (first|((with_reducible refine z1u (N:=2) rfl ?_);(try(refine z5o (by rfl) ?_;dsimp only));refine z28 ?hg (N:=2) ?hd (cs:=#[.string a0_0,.slice A0_1 l0_1.length c0_1]) (t:=25) ?hr ?_;(case hd=>rfl);(case hg=>rfl);(case hr=>first|(go_simp;done)|(go_simp;rfl));intro gb853 hg w4 hbox hb;have n0_:=z00.mk (z0g zA00 hb);have n1_:=z00.mk (hbox);have n2_:=z00.mk ((by rw[hg];exact(z0i zA00):w.heap.size≤gb853));have n3_:=z00.mk ((by rw[hg];exact(z0i zA00):w.heap.size≤gb853));clear HB;have HB:=n0_;have BK853:=n1_;have GW853:=n2_;have GE853:=n3_;clear n0_ n1_ n2_ n3_;clear hb hbox hg)|((with_reducible refine z1u (N:=3) rfl ?_);(try(refine z5o (by rfl) ?_;dsimp only));refine z28 ?hg (N:=3) ?hd (cs:=#[.string a1_0,.slice A1_1 l1_1.length c1_1]) (t:=25) ?hr ?_;(case hd=>rfl);(case hg=>rfl);(case hr=>first|(go_simp;done)|(go_simp;rfl));intro gb854 hg w5 hbox hb;have n0_:=z00.mk (z0a (g:=gb853) (o:=.cells #[.string a0_0,.slice A0_1 l0_1.length c0_1] 25 (0,0)) zA04 hb);have n1_:=z00.mk (z0g zA05 hb);have n2_:=z00.mk (hbox);have n3_:=z00.mk ((by rw[hg];exact(z0i zA05):w.heap.size≤gb854));have n4_:=z00.mk ((by rw[hg];exact(z0i zA05):w.heap.size≤gb854));have n5_:=z00.mk ((by rw[hg];exact Nat.ne_of_lt (z27 (g:=gb853) (o:=.cells #[.string a0_0,.slice A0_1 l0_1.length c0_1] 25 (0,0)) zA04):gb853≠gb854));have n6_:=z00.mk ((by rw[hg];exact Nat.ne_of_gt (z27 (g:=gb853) (o:=.cells #[.string a0_0,.slice A0_1 l0_1.length c0_1] 25 (0,0)) zA04):gb854≠gb853));clear BK853;clear HB;have BK853:=n0_;have HB:=n1_;have BK854:=n2_;have GW854:=n3_;have GE854:=n4_;have NB853_854:=n5_;have NB854_853:=n6_;clear n0_ n1_ n2_ n3_ n4_ n5_ n6_;clear hb hbox hg));go_upto_region 1 with (first|((with_reducible refine z1u (N:=2) rfl ?_);(try(refine z5o (by rfl) ?_;dsimp only));refine z28 ?hg (N:=2) ?hd (cs:=#[.string a0_0,.slice A0_1 l0_1.length c0_1]) (t:=25) ?hr ?_;(case hd=>rfl);(case hg=>rfl);(case hr=>first|(go_simp;done)|(go_simp;rfl));intro gb853 hg w4 hbox hb;have n0_:=z00.mk (z0g zA00 hb);have n1_:=z00.mk (hbox);have n2_:=z00.mk ((by rw[hg];exact(z0i zA00):w.heap.size≤gb853));have n3_:=z00.mk ((by rw[hg];exact(z0i zA00):w.heap.size≤gb853));clear HB;have HB:=n0_;have BK853:=n1_;have GW853:=n2_;have GE853:=n3_;clear n0_ n1_ n2_ n3_;clear hb hbox hg)|((with_reducible refine z1u (N:=3) rfl ?_);(try(refine z5o (by rfl) ?_;dsimp only));refine z28 ?hg (N:=3) ?hd (cs:=#[.string a1_0,.slice A1_1 l1_1.length c1_1]) (t:=25) ?hr ?_;(case hd=>rfl);(case hg=>rfl);(case hr=>first|(go_simp;done)|(go_simp;rfl));intro gb854 hg w5 hbox hb;have n0_:=z00.mk (z0a (g:=gb853) (o:=.cells #[.string a0_0,.slice A0_1 l0_1.length c0_1] 25 (0,0)) zA04 hb);have n1_:=z00.mk (z0g zA05 hb);have n2_:=z00.mk (hbox);have n3_:=z00.mk ((by rw[hg];exact(z0i zA05):w.heap.size≤gb854));have n4_:=z00.mk ((by rw[hg];exact(z0i zA05):w.heap.size≤gb854));have n5_:=z00.mk ((by rw[hg];exact Nat.ne_of_lt (z27 (g:=gb853) (o:=.cells #[.string a0_0,.slice A0_1 l0_1.length c0_1] 25 (0,0)) zA04):gb853≠gb854));have n6_:=z00.mk ((by rw[hg];exact Nat.ne_of_gt (z27 (g:=gb853) (o:=.cells #[.string a0_0,.slice A0_1 l0_1.length c0_1] 25 (0,0)) zA04):gb854≠gb853));clear BK853;clear HB;have BK853:=n0_;have HB:=n1_;have BK854:=n2_;have GW854:=n3_;have GE854:=n4_;have NB853_854:=n5_;have NB854_853:=n6_;clear n0_ n1_ n2_ n3_ n4_ n5_ n6_;clear hb hbox hg)))
 (try simp only[Act.put,List.setIfInBounds_toArray,List.set_cons_zero,List.set_cons_succ])
 go_cut [19] (fun v19 wc=>∃(kq:Nat) (x19_2:Bool),v19=.bool x19_2∧z00 (z0b.j0 kq x19_2 a0_0 l0_1 a1_0 l1_1=some r)∧z00 (kq≤k)∧z00 (wc.heap[gb853]?=some (.cells #[.string a0_0,(.slice A0_1 l0_1.length c0_1)] 25 (0,0)))∧z00 (wc.heap[gb854]?=some (.cells #[.string a1_0,(.slice A1_1 l1_1.length c1_1)] 25 (0,0)))∧z00 (Below w.heap.size w wc))
 case first =>
  have H:=HC3.out;clear HC3
  by_cases c6:a0_0.toList=a1_0.toList
  · rw[if_pos c6]at H;have c6b0:(a0_0.toList==a1_0.toList)=true:=beq_iff_eq.mpr c6;have c6b1:(a0_0.toList !=a1_0.toList)=false:=bne_eq_false_iff_eq.mpr c6;clear c6
    (first|rw[c6b0]|(simp only[i64_w,i32_w];rw[c6b0])|skip)
    have H':=z00.mk H;clear H;have hnb7:=NB853_854.out;have hnc7:=NB854_853.out;have hcz8_0:w5.cell? ⟨gb853,0,none⟩=some (.string a0_0):=(z01 BK853.out 0).trans rfl;have hcz8_1:w5.cell? ⟨gb853,1,none⟩=some (.slice A0_1 l0_1.length c0_1):=(z01 BK853.out 1).trans rfl;have hfz8_0:=z03 BK853.out 0;have hfz8_1:=z03 BK853.out 1;have hcz9_0:w5.cell? ⟨gb854,0,none⟩=some (.string a1_0):=(z01 BK854.out 0).trans rfl;have hcz9_1:w5.cell? ⟨gb854,1,none⟩=some (.slice A1_1 l1_1.length c1_1):=(z01 BK854.out 1).trans rfl;have hfz9_0:=z03 BK854.out 0;have hfz9_1:=z03 BK854.out 1;go_wp2
    repeat(go_quiet (fail);try go_wp2)
    go_meet
    case rel=>exact⟨_,(((l0_1.length:Int) !=(l1_1.length:Int))),zA07,H',⟨zA0w⟩,⟨zA04⟩,⟨zA0h⟩,⟨zA0d⟩⟩
  · rw[if_neg c6]at H;have c6b0:(a0_0.toList==a1_0.toList)=false:=beq_eq_false_iff_ne.mpr c6;have c6b1:(a0_0.toList !=a1_0.toList)=true:=bne_iff_ne.mpr c6
    (first|rw[c6b0]|(simp only[i64_w,i32_w];rw[c6b0])|skip)
    have H':=z00.mk H;clear H;have hnb10:=NB853_854.out;have hnc10:=NB854_853.out;have hcz11_0:w5.cell? ⟨gb853,0,none⟩=some (.string a0_0):=(z01 BK853.out 0).trans rfl;have hcz11_1:w5.cell? ⟨gb853,1,none⟩=some (.slice A0_1 l0_1.length c0_1):=(z01 BK853.out 1).trans rfl;have hfz11_0:=z03 BK853.out 0;have hfz11_1:=z03 BK853.out 1;have hcz12_0:w5.cell? ⟨gb854,0,none⟩=some (.string a1_0):=(z01 BK854.out 0).trans rfl;have hcz12_1:w5.cell? ⟨gb854,1,none⟩=some (.slice A1_1 l1_1.length c1_1):=(z01 BK854.out 1).trans rfl;have hfz12_0:=z03 BK854.out 0;have hfz12_1:=z03 BK854.out 1;go_wp2
    repeat(go_quiet (fail);try go_wp2)
    go_meet
    case rel=>exact⟨_,(true),zA07,H',⟨zA0w⟩,⟨zA04⟩,⟨zA0h⟩,⟨zA0d⟩⟩
 case rest =>
  clear HC3;(try clear c1);(try clear p2);(try clear c6);(try clear c6b0);(try clear c6b1);(try clear c7);(try clear c10);(try clear hcz11_0);(try clear hcz11_1);(try clear hcz12_0);(try clear hcz12_1);(try clear hcz8_0);(try clear hcz8_1);(try clear hcz9_0);(try clear hcz9_1);(try clear hfz11_0);(try clear hfz11_1);(try clear hfz12_0);(try clear hfz12_1);(try clear hfz8_0);(try clear hfz8_1);(try clear hfz9_0);(try clear hfz9_1);obtain⟨kq,x19_2,rfl,HA,HJ2,BK853,BK854,HB⟩:=hcut
  cases kq with
  |zero=>exact absurd HA.out (by simp[z0b.j0])
  |succ kj2 =>
   have H:=HA.out;clear HA;simp only[z0b.j0]at H
   by_cases c13:x19_2=true
   · subst c13;have H1:(some false)=some r:=by rw[if_pos rfl]at H;exact H
     clear H;have H:=H1;clear H1;obtain rfl:=Option.some.inj H;go_wp2
     repeat(go_quiet (fail);try go_wp2)
     go_ret
     exact⟨by first|rfl|(simp[z12,z13] <;> rfl)|(simp[*,z12,z13] <;> rfl),by repeat(first|(with_reducible first|exact HB.out|apply z02|apply z04|apply z05|refine z08 ?_ GE853.out|refine z08 ?_ GE854.out)|exact HB.out)⟩
   · replace c13:=Bool.eq_false_iff.mpr c13;subst c13;have H1:(z0b.l0 kj2 (l0_1.length:Int) 0 a0_0 l0_1 a1_0 l1_1)=some r:=by rw[if_neg (show ¬(false=true) by decide)]at H;exact H
     clear H;have H:=H1;clear H1;have H':=z00.mk H;clear H;have hnb14:=NB853_854.out;have hnc14:=NB854_853.out;have hcz15_0:wc.cell? ⟨gb853,0,none⟩=some (.string a0_0):=(z01 BK853.out 0).trans rfl;have hcz15_1:wc.cell? ⟨gb853,1,none⟩=some (.slice A0_1 l0_1.length c0_1):=(z01 BK853.out 1).trans rfl;have hfz15_0:=z03 BK853.out 0;have hfz15_1:=z03 BK853.out 1;go_wp2
     repeat(go_quiet (fail);try go_wp2)
     go_loopg [23] kj2 (fun kq v23 w'=>∃(x23_2:Int),v23=.int .i64 x23_2∧z00 (z0b.l0 kq (l0_1.length:Int) x23_2 a0_0 l0_1 a1_0 l1_1=some r)∧z00 (kq≤kj2)∧z00 (w'.heap[gb853]?=some (.cells #[.string a0_0,(.slice A0_1 l0_1.length c0_1)] 25 (0,0)))∧z00 (w'.heap[gb854]?=some (.cells #[.string a1_0,(.slice A1_1 l1_1.length c1_1)] 25 (0,0)))∧z00 (Below w.heap.size w w'))
     case atStart=>exact⟨(0),zA07,H',⟨Nat.le_refl _⟩,⟨zA04⟩,⟨zA0h⟩,⟨zA0d⟩⟩
     case round =>
      clear H';(try clear c1);(try clear p2);(try clear c6);(try clear c6b0);(try clear c6b1);(try clear c7);(try clear c10);(try clear c13);(try clear c14);(try clear hcz11_0);(try clear hcz11_1);(try clear hcz12_0);(try clear hcz12_1);(try clear hcz15_0);(try clear hcz15_1);(try clear hcz8_0);(try clear hcz8_1);(try clear hcz9_0);(try clear hcz9_1);(try clear hfz11_0);(try clear hfz11_1);(try clear hfz12_0);(try clear hfz12_1);(try clear hfz15_0);(try clear hfz15_1);(try clear hfz8_0);(try clear hfz8_1);(try clear hfz9_0);(try clear hfz9_1);(try clear p2);obtain⟨x23_2,rfl,HA,HK2,BK853,BK854,HB⟩:=hrel
      cases gk with
      |zero=>exact absurd HA.out (by simp[z0b.l0])
      |succ k2 =>
       have H:=HA.out;clear HA;simp only[z0b.l0]at H
       by_cases c16:x23_2<(l0_1.length:Int)
       · rw[if_pos c16]at H;have c16b0:decide (x23_2<(l0_1.length:Int))=true:=decide_eq_true c16;clear c16
         by_cases c17:0≤x23_2
         · rw[if_pos c17]at H;have c17b0:decide (0≤x23_2)=true:=decide_eq_true c17;clear c17
           by_cases c18:x23_2<(l0_1.length:Int)
           · rw[if_pos c18]at H;have c18b0:decide (x23_2<(l0_1.length:Int))=true:=decide_eq_true c18;clear c18
             by_cases c19:x23_2<(l1_1.length:Int)
             · rw[if_pos c19]at H;have c19b0:decide (x23_2<(l1_1.length:Int))=true:=decide_eq_true c19;clear c19
               by_cases c20:(!((((z1j l0_1 x23_2).f0).toList)==(((z1j l1_1 x23_2).f0).toList))||((!(((z1j l0_1 x23_2).f1.f0)==((z1j l1_1 x23_2).f1.f0))||(!(((z1j l0_1 x23_2).f1.f1)==((z1j l1_1 x23_2).f1.f1))||(!((((z1j l0_1 x23_2).f1.f2).toList)==(((z1j l1_1 x23_2).f1.f2).toList)))))))=true
               · rw[if_pos c20]at H;have c20b0:(!((((z1j l0_1 x23_2).f0).toList)==(((z1j l1_1 x23_2).f0).toList))||((!(((z1j l0_1 x23_2).f1.f0)==((z1j l1_1 x23_2).f1.f0))||(!(((z1j l0_1 x23_2).f1.f1)==((z1j l1_1 x23_2).f1.f1))||(!((((z1j l0_1 x23_2).f1.f2).toList)==(((z1j l1_1 x23_2).f1.f2).toList)))))))=true:=c20;clear c20;obtain rfl:=Option.some.inj H;have hnb21:=NB853_854.out;have hnc21:=NB854_853.out;have hcz22_0:wr.cell? ⟨gb853,0,none⟩=some (.string a0_0):=(z01 BK853.out 0).trans rfl;have hcz22_1:wr.cell? ⟨gb853,1,none⟩=some (.slice A0_1 l0_1.length c0_1):=(z01 BK853.out 1).trans rfl;have hfz22_0:=z03 BK853.out 0;have hfz22_1:=z03 BK853.out 1;have p855:0≤(x23_2:Int):=of_decide_eq_true zA03;have q855:x23_2<(l0_1.length:Int):=of_decide_eq_true zA03;obtain⟨ad855,e855,hx855_0,hx855_1,hx855_2,hx855_3⟩:=zf5 HR0_1.out x23_2 p855 q855
                 cases e855
                 replace hx855_0:=(HB.out.cell (World.block_lt_of_cell? w _ hx855_0)).trans hx855_0;replace hx855_1:=(HB.out.cell (World.block_lt_of_cell? w _ hx855_1)).trans hx855_1;replace hx855_2:=(HB.out.cell (World.block_lt_of_cell? w _ hx855_2)).trans hx855_2;replace hx855_3:=(HB.out.cell (World.block_lt_of_cell? w _ hx855_3)).trans hx855_3;replace p855:=eq_true p855;replace q855:=eq_true q855;have hcz23_0:wr.cell? ⟨gb854,0,none⟩=some (.string a1_0):=(z01 BK854.out 0).trans rfl;have hcz23_1:wr.cell? ⟨gb854,1,none⟩=some (.slice A1_1 l1_1.length c1_1):=(z01 BK854.out 1).trans rfl;have hfz23_0:=z03 BK854.out 0;have hfz23_1:=z03 BK854.out 1;have p856:0≤(x23_2:Int):=of_decide_eq_true zA03;have q856:x23_2<(l1_1.length:Int):=of_decide_eq_true zA03;obtain⟨ad856,e856,hx856_0,hx856_1,hx856_2,hx856_3⟩:=zf5 HR1_1.out x23_2 p856 q856
                 cases e856
                 replace hx856_0:=(HB.out.cell (World.block_lt_of_cell? w _ hx856_0)).trans hx856_0;replace hx856_1:=(HB.out.cell (World.block_lt_of_cell? w _ hx856_1)).trans hx856_1;replace hx856_2:=(HB.out.cell (World.block_lt_of_cell? w _ hx856_2)).trans hx856_2;replace hx856_3:=(HB.out.cell (World.block_lt_of_cell? w _ hx856_3)).trans hx856_3;replace p856:=eq_true p856;replace q856:=eq_true q856;go_wp2
                 repeat(go_quiet (fail);try go_wp2)
                 go_ret
                 exact⟨by first|rfl|(simp[z12,z13] <;> rfl)|(simp[*,z12,z13] <;> rfl),by repeat(first|(with_reducible first|exact HB.out|apply z02|apply z04|apply z05|refine z08 ?_ GE853.out|refine z08 ?_ GE854.out)|exact HB.out)⟩
               · rw[if_neg c20]at H;have c20b0:(!((((z1j l0_1 x23_2).f0).toList)==(((z1j l1_1 x23_2).f0).toList))||((!(((z1j l0_1 x23_2).f1.f0)==((z1j l1_1 x23_2).f1.f0))||(!(((z1j l0_1 x23_2).f1.f1)==((z1j l1_1 x23_2).f1.f1))||(!((((z1j l0_1 x23_2).f1.f2).toList)==(((z1j l1_1 x23_2).f1.f2).toList)))))))=false:=by simpa using c20
                 clear c20;have H':=z00.mk H;clear H;have hnb24:=NB853_854.out;have hnc24:=NB854_853.out;have hcz25_0:wr.cell? ⟨gb853,0,none⟩=some (.string a0_0):=(z01 BK853.out 0).trans rfl;have hcz25_1:wr.cell? ⟨gb853,1,none⟩=some (.slice A0_1 l0_1.length c0_1):=(z01 BK853.out 1).trans rfl;have hfz25_0:=z03 BK853.out 0;have hfz25_1:=z03 BK853.out 1;have p855:0≤(x23_2:Int):=of_decide_eq_true zA03;have q855:x23_2<(l0_1.length:Int):=of_decide_eq_true zA03;obtain⟨ad855,e855,hx855_0,hx855_1,hx855_2,hx855_3⟩:=zf5 HR0_1.out x23_2 p855 q855
                 cases e855
                 replace hx855_0:=(HB.out.cell (World.block_lt_of_cell? w _ hx855_0)).trans hx855_0;replace hx855_1:=(HB.out.cell (World.block_lt_of_cell? w _ hx855_1)).trans hx855_1;replace hx855_2:=(HB.out.cell (World.block_lt_of_cell? w _ hx855_2)).trans hx855_2;replace hx855_3:=(HB.out.cell (World.block_lt_of_cell? w _ hx855_3)).trans hx855_3;replace p855:=eq_true p855;replace q855:=eq_true q855;have hcz26_0:wr.cell? ⟨gb854,0,none⟩=some (.string a1_0):=(z01 BK854.out 0).trans rfl;have hcz26_1:wr.cell? ⟨gb854,1,none⟩=some (.slice A1_1 l1_1.length c1_1):=(z01 BK854.out 1).trans rfl;have hfz26_0:=z03 BK854.out 0;have hfz26_1:=z03 BK854.out 1;have p856:0≤(x23_2:Int):=of_decide_eq_true zA03;have q856:x23_2<(l1_1.length:Int):=of_decide_eq_true zA03;obtain⟨ad856,e856,hx856_0,hx856_1,hx856_2,hx856_3⟩:=zf5 HR1_1.out x23_2 p856 q856
                 cases e856
                 replace hx856_0:=(HB.out.cell (World.block_lt_of_cell? w _ hx856_0)).trans hx856_0;replace hx856_1:=(HB.out.cell (World.block_lt_of_cell? w _ hx856_1)).trans hx856_1;replace hx856_2:=(HB.out.cell (World.block_lt_of_cell? w _ hx856_2)).trans hx856_2;replace hx856_3:=(HB.out.cell (World.block_lt_of_cell? w _ hx856_3)).trans hx856_3;replace p856:=eq_true p856;replace q856:=eq_true q856;go_wp2
                 repeat(go_quiet (fail);try go_wp2)
                 go_roundg k2
                 case measure=>have:=HJ2.out;have:=HK2.out;omega
                 case rel=>exact⟨(wrap64 (x23_2+1)),zA07,H',⟨by have:=HJ2.out;have:=HK2.out;omega⟩,⟨zA04⟩,⟨zA0h⟩,⟨zA0d⟩⟩
             · rw[if_neg c19]at H;exact absurd H (by simp)
           · rw[if_neg c18]at H;exact absurd H (by simp)
         · rw[if_neg c17]at H;exact absurd H (by simp)
       · rw[if_neg c16]at H;have c16b0:decide (x23_2<(l0_1.length:Int))=false:=decide_eq_false c16;clear c16;obtain rfl:=Option.some.inj H;go_wp2
         repeat(go_quiet (fail);try go_wp2)
         go_ret
         exact⟨by first|rfl|(simp[z12,z13] <;> rfl)|(simp[*,z12,z13] <;> rfl),by repeat(first|(with_reducible first|exact HB.out|apply z02|apply z04|apply z05|refine z08 ?_ GE853.out|refine z08 ?_ GE854.out)|exact HB.out)⟩
end Go.Proofs.YthebhbomlllpeaaGreatDoor.X
namespace Go.Proofs.YthebhbomlllpeaaGreatDoor.X
open Go.RowKit Go.Proofs.YthebhbomlllpeaaGreatDoorW.PrintWords Go.Proofs.YthebhbomlllpeaaGreatDoorW.PrintLast Go.Proofs.YthebhbomlllpeaaGreatDoorW.PrintMore
attribute [local go_sem high] eqA60
theorem zmf (p q:ByteArray) (l:List TmS) (hl:l.length≤1000):∀(d i k:Nat),l.length - i=d→i≤l.length→d<k→z0b.l0 k (l.length:Int) (i:Int) p l q l=some true:=by
 intro d
 induction d with
 |zero =>
  intro i k hd hi hk;obtain⟨k,rfl⟩:∃j,k=j+1:=⟨k - 1,by omega⟩
  simp only[z0b.l0];rw[if_neg (by omega)]
 |succ d ih =>
  intro i k hd hi hk;obtain⟨k,rfl⟩:∃j,k=j+1:=⟨k - 1,by omega⟩
  simp only[z0b.l0];rw[if_pos (by omega),if_pos (by omega),if_pos (by omega),if_pos (by omega),if_neg (by simp),show wrap64 ((i:Int)+1)=((i+1:Nat):Int) by unfold wrap64;omega];exact ih (i+1) k (by omega) (by omega) (by omega)
theorem z8e (p:ByteArray) (l:List TmS) (hl:l.length≤1000):z0b.f 1100 p l p l=some true:=by
 unfold z0b.f;rw[if_pos rfl,show((l.length:Int) !=(l.length:Int))=false from bne_self_eq_false _];simp only[z0b.j0,Bool.false_eq_true,if_false];exact zmf p p l hl _ 0 _ rfl (Nat.zero_le _) (by omega)
theorem zjx (l:List StS) (hl:l.length≤100):∀(d i k:Nat),l.length - i=d→i≤l.length→d<k→z0h.l0 k l l (l.length:Int) (i:Int)=some true:=by
 intro d
 induction d with
 |zero =>
  intro i k hd hi hk;obtain⟨k,rfl⟩:∃j,k=j+1:=⟨k - 1,by omega⟩
  simp only[z0h.l0];rw[if_neg (by omega)]
 |succ d ih =>
  intro i k hd hi hk;obtain⟨k,rfl⟩:∃j,k=j+1:=⟨k - 1,by omega⟩
  simp only[z0h.l0];rw[if_pos (by omega),if_pos (by omega),if_pos (by omega),if_pos (by omega),if_neg (by simp),show wrap64 ((i:Int)+1)=((i+1:Nat):Int) by unfold wrap64;omega];exact ih (i+1) k (by omega) (by omega) (by omega)
theorem zg9 (l:List StS) (hl:l.length≤100):z0h.f 200 l l=some true:=by
 unfold z0h.f;rw[if_pos rfl];exact zjx l hl _ 0 200 rfl (Nat.zero_le _) (by omega)
def sr9.T:Bool × List (List Nat × List Nat):=(true,[([],[]),([0],[0]),([],[]),([1,2],[1,2]),([3],[3]),([],[]),([5],[5]),([],[]),([6,7],[6,7]),([8],[8]),([],[]),([],[]),([10,4,0,1,2,3,4,10,11],[4,10]),([11,9,12,0,1,2,3,4,5,6,7,8,9,10,11,12],[9,11])])
def sr9.B:List Nat:=[0,1,0,7,15,0,32,0,224,480,0,0,3103,8191]
theorem sr9.tab:rtab .any (opsOf Tryz.f41 6)=sr9.T:=by kernel_rfl
theorem sr9.bits:z45 sr9.T.2 sr9.B=true:=by kernel_rfl
def sm9.T:Bool × List (List Nat × List Nat):=(true,[([],[]),([0],[0]),([],[]),([1,2],[1,2]),([3],[3]),([],[]),([5],[5]),([],[]),([6,7],[6,7]),([8],[8]),([4,9],[4,9]),([10],[10])])
def sm9.B:List Nat:=[0,1,0,7,15,0,32,0,224,480,1023,2047]
theorem sm9.tab:rtab .any (opsOf Tryz.f40 6)=sm9.T:=by kernel_rfl
theorem sm9.bits:z45 sm9.T.2 sm9.B=true:=by kernel_rfl
set_option maxHeartbeats 16000000 in
set_option maxRecDepth 100000 in
theorem zbj (x:RlS) (hok:zmj x) (X1 X3 X1' X3':Option Addr) (x1 x3 x1' x3':Nat) (l1:x.f0.f1.length≤x1) (l1':x.f0.f1.length≤x1') (w:World)
 (hA1:Kd.C k60 w X1 x.f0.f1.length x.f0.f1) (hA3:Kd.C k62 w X3 x.f2.length x.f2) (hB1:Kd.C k60 w X1' x.f0.f1.length x.f0.f1) (hB3:Kd.C k62 w X3' x.f2.length x.f2) :
 Calls Tryz.prog 41 #[.agg #[.string x.f0.f0,.slice X1 x.f0.f1.length x1,.int .i64 x.f1,.slice X3 x.f2.length x3],.agg #[.string x.f0.f0,.slice X1' x.f0.f1.length x1',.int .i64 x.f1,.slice X3' x.f2.length x3']] w fun e w'=>e=.returned (.bool true)∧Below w.heap.size w w':=by
 obtain⟨n2,en2⟩:∃n,w.heap.size=n:=⟨_,rfl⟩
 obtain⟨W1,hW1⟩:∃W,w.alloc (.cells #[.string x.f0.f0,.slice X1 x.f0.f1.length x1,.int .i64 x.f1,.slice X3 x.f2.length x3] 33)=W:=⟨_,rfl⟩
 obtain⟨W,hW⟩:∃W,W1.alloc (.cells #[.string x.f0.f0,.slice X1' x.f0.f1.length x1',.int .i64 x.f1,.slice X3' x.f2.length x3'] 33)=W:=⟨_,rfl⟩
 have hsz:W1.heap.size=n2+1:=by rw[←hW1];simp[en2]
 have hBW1:Below w.heap.size w W1:=hW1 ▸ z02 (Below.refl _ _) _;have hBW:Below w.heap.size w W:=hW ▸ z02 hBW1 _;have hN2:=z0l w (.cells #[.string x.f0.f0,.slice X1 x.f0.f1.length x1,.int .i64 x.f1,.slice X3 x.f2.length x3] 33);rw[en2,hW1]at hN2;have hN2:=z0d hN2 (.cells #[.string x.f0.f0,.slice X1' x.f0.f1.length x1',.int .i64 x.f1,.slice X3' x.f2.length x3'] 33);have hN3:=z0l W1 (.cells #[.string x.f0.f0,.slice X1' x.f0.f1.length x1',.int .i64 x.f1,.slice X3' x.f2.length x3'] 33);rw[hW]at hN2 hN3;rw[hsz]at hN3;have HN:=z00.mk (And.intro hN2 hN3);have HX:=z00.mk (And.intro hok (And.intro (Kd.C_below hA3 hBW) (Kd.C_below hB3 hBW)));have HBW:=z00.mk hBW;have HAT0:=z00.mk (z0b.calls 1100 x.f0.f0 X1 x1 x.f0.f1 x.f0.f0 X1' x1' x.f0.f1 true W (Kd.C_below hA1 hBW) l1 (Kd.C_below hB1 hBW) l1' (z8e _ _ hok.1));have u0:W.cell? ⟨n2,0,none⟩=some (.string x.f0.f0):=(z01 hN2 0).trans rfl;have u1:W.cell? ⟨n2,1,none⟩=some (.slice X1 x.f0.f1.length x1):=(z01 hN2 1).trans rfl;have u2:W.cell? ⟨n2,2,none⟩=some (.int .i64 x.f1):=(z01 hN2 2).trans rfl;have u3:W.cell? ⟨n2,3,none⟩=some (.slice X3 x.f2.length x3):=(z01 hN2 3).trans rfl;have v0:W.cell? ⟨n2+1,0,none⟩=some (.string x.f0.f0):=(z01 hN3 0).trans rfl;have v1:W.cell? ⟨n2+1,1,none⟩=some (.slice X1' x.f0.f1.length x1'):=(z01 hN3 1).trans rfl;have v2:W.cell? ⟨n2+1,2,none⟩=some (.int .i64 x.f1):=(z01 hN3 2).trans rfl;have v3:W.cell? ⟨n2+1,3,none⟩=some (.slice X3' x.f2.length x3'):=(z01 hN3 3).trans rfl;have z1:(x.f1 !=x.f1)=false:=bne_self_eq_false _;have z2:((x.f2.length:Int) !=(x.f2.length:Int))=false:=bne_self_eq_false _;clear hA1 hB1 hA3 hB3 hBW hBW1 hN2 hN3 hok;go_enter Tryz.func41,Tryz.ntmps41
 go_wp2_with fail
 refine HAT0.out.mono ?_;rintro e w1 ⟨rfl,hb⟩;have HB1:=z00.mk hb;replace u3:=z07 hb u3;replace v3:=z07 hb v3;clear hb u0 u1 u2 v0 v1 v2 hW hW1 hsz;go_wp2
 go_loopg [33] (x.f2.length+1) (fun kq v33 w'=>∃j:Nat,v33=.int .i64 j∧kq+j=x.f2.length+1∧j≤x.f2.length∧z00 (Below W.heap.size W w'))
 case atStart=>exact⟨0,rfl,by omega,by omega,HB1⟩
 case round =>
  clear HB1 u3 v3;obtain⟨j,rfl,hkj,hij,HB⟩:=hrel
  by_cases hlj:j<x.f2.length
  · have y3:decide ((j:Int)<(x.f2.length:Int))=true:=decide_eq_true (by omega);have y4:decide (j<x.f2.length)=true:=decide_eq_true hlj;obtain⟨k1,rfl⟩:∃k1,gk=k1+1:=⟨gk - 1,by omega⟩
    have p2:(0≤(j:Int))=True:=eq_true (by omega);have p3:((j:Int)<(x.f2.length:Int))=True:=eq_true (by omega);obtain⟨lb,lo,csA,rfl,hlA,hKA,rA⟩:=zfc HX.out.2.1 z62 (by decide) j hlj;obtain⟨mb,mo,csB,rfl,hlB,hKB,rB⟩:=zfc HX.out.2.2 z62 (by decide) j hlj;obtain⟨Y2,y2,Y16,y16,eA,l2,m2,l16,m16⟩:=zda hKA;obtain⟨Y2',y2',Y16',y16',eB,l2',m2',l16',m16'⟩:=zda hKB;have hr:x.f2.getD j z62=x.f2[j]:=by
     rw[List.getD_eq_getElem?_getD,List.getElem?_eq_getElem hlj];rfl
    have hOK:=HX.out.1.2.2 x.f2[j] (List.getElem_mem hlj);obtain⟨y,hy⟩:∃y,x.f2[j]=y:=⟨_,rfl⟩
    simp only[hr,hy]at eA l2 m2 l16 m16 eB l2' m2' l16' m16';rw[hy]at hOK;have h1A:csA.toArray.all (·.oneCell')=true:=by rw[eA];simp[Value.oneCell']
    have h1B:csB.toArray.all (·.oneCell')=true:=by rw[eB];simp[Value.oneCell']
    have HE:=z00.mk (And.intro eA eB);have HAT2:=z00.mk (fun(V:World) (h:Below W.heap.size W V)=>z0b.calls 1100 y.f1.f0 Y2 y2 y.f1.f1 y.f1.f0 Y2' y2' y.f1.f1 true V (Kd.C_below m2 h) l2 (Kd.C_below m2' h) l2' (z8e _ _ hOK.1));have HPA2:=z00.mk (fun(V:World) (h:Below W.heap.size W V)=>z0h.calls 200 Y16 y16 y.f6 Y16' y16' y.f6 true V (Kd.C_below m16 h) l16 (Kd.C_below m16' h) l16' (zg9 _ hOK.2));have fP:=z07 HB.out ((z01 HN.out.1 3).trans rfl:W.cell? ⟨n2,3,none⟩=some (.slice (some ⟨lb,lo,none⟩) x.f2.length x3));have fQ:=z07 HB.out ((z01 HN.out.2 3).trans rfl:W.cell? ⟨n2+1,3,none⟩=some (.slice (some ⟨mb,mo,none⟩) x.f2.length x3'));replace rA:wr.rangeAt lb (lo+j * 17) csA:=fun k v hv=>z07 HB.out (rA k v hv)
    replace rB:wr.rangeAt mb (mo+j * 17) csB:=fun k v hv=>z07 HB.out (rB k v hv)
    have hlA:csA.length=17:=hlA;have hlB:csB.length=17:=hlB;clear hr hy eA eB hKA hKB l2 m2 l16 m16 l2' m2' l16' m16' hOK
    go_wp2_with fail
    refine z6t (n:=14) (S:=fun w'=>Below wr.heap.size wr w') (ds:=[]) #[false,false,false,false,false,false,false,false,false,false,false,false,false,false] (by kernel_rfl) rfl rfl (z05 (Below.refl _ _)) (fun hHeld=>?_);refine z3l sr9.tab sr9.bits (fun HT_ HW_=>?_)
    generalize wr.drew=V at hHeld ⊢
    refine pure_ (i:=0) (N:=some 36) (v:=?_) (a':=?_) #[true,false,false,false,false,false,false,false,false,false,false,false,false,false] rfl rfl (z0s HT_.out (by kernel_rfl)) (fun _ _ _ h=>h) (Or.inl ⟨by rfl,?_⟩) ?_ ?_
    rotate_left
    · intro w'
      go_simp
      with_reducible rfl
    rotate_left
    · simp only[Act.put,List.setIfInBounds_toArray,List.set_cons_zero,List.set_cons_succ,i64_w,i32_w];rfl
    refine pure_ (i:=2) (N:=some 38) (v:=?_) (a':=?_) #[true,false,true,false,false,false,false,false,false,false,false,false,false,false] rfl rfl (z0s HT_.out (by kernel_rfl)) (fun _ _ _ h=>h) (Or.inl ⟨by rfl,?_⟩) ?_ ?_
    rotate_left
    · intro w'
      go_simp
      with_reducible rfl
    rotate_left
    · simp only[Act.put,List.setIfInBounds_toArray,List.set_cons_zero,List.set_cons_succ,i64_w,i32_w];rfl
    refine pure_ (i:=5) (N:=some 41) (v:=?_) (a':=?_) #[true,false,true,false,false,true,false,false,false,false,false,false,false,false] rfl rfl (z0s HT_.out (by kernel_rfl)) (fun _ _ _ h=>h) (Or.inl ⟨by rfl,?_⟩) ?_ ?_
    rotate_left
    · intro w'
      go_simp
      with_reducible rfl
    rotate_left
    · simp only[Act.put,List.setIfInBounds_toArray,List.set_cons_zero,List.set_cons_succ,i64_w,i32_w];rfl
    refine pure_ (i:=7) (N:=some 43) (v:=?_) (a':=?_) #[true,false,true,false,false,true,false,true,false,false,false,false,false,false] rfl rfl (z0s HT_.out (by kernel_rfl)) (fun _ _ _ h=>h) (Or.inl ⟨by rfl,?_⟩) ?_ ?_
    rotate_left
    · intro w'
      go_simp
      with_reducible rfl
    rotate_left
    · simp only[Act.put,List.setIfInBounds_toArray,List.set_cons_zero,List.set_cons_succ,i64_w,i32_w];rfl
    refine take_ (i:=1) (N:=some 37) (v:=?_) (a':=?_) #[true,true,true,false,false,true,false,true,false,false,false,false,false,false] rfl rfl (z1s HT_.out HW_.out (by kernel_rfl)) (fun _ _ _ h=>h) (Or.inl ⟨by rfl,?_⟩) hHeld ?_ ?_
    rotate_left
    · intro w' sS;have f0:=z07 sS fP;clear sS
      go_simp
      with_reducible rfl
    rotate_left
    · simp only[Act.put,List.setIfInBounds_toArray,List.set_cons_zero,List.set_cons_succ,i64_w,i32_w];rfl
    refine pure_ (i:=3) (N:=some 39) (v:=?_) (a':=?_) #[true,true,true,true,false,true,false,true,false,false,false,false,false,false] rfl rfl (z0s HT_.out (by kernel_rfl)) (fun _ _ _ h=>h) (Or.inl ⟨by rfl,?_⟩) ?_ ?_
    rotate_left
    · intro w'
      go_simp
      with_reducible rfl
    rotate_left
    · simp only[Act.put,List.setIfInBounds_toArray,List.set_cons_zero,List.set_cons_succ,i64_w,i32_w];rfl
    refine take_ (i:=4) (N:=some 40) (v:=.agg csA.toArray) (a':=?_) #[true,true,true,true,true,true,false,true,false,false,false,false,false,false] rfl rfl (z1s HT_.out HW_.out (by kernel_rfl)) (fun _ _ _ h=>h) (by exact yieldsIf_load_mid (by rfl) 62 (.tmp 39) rfl _ _ rfl csA _ (fun w' sS k v hv=>z07 sS (rA k v hv)) Tryz.underlying62 rfl (by rw[hlA];kernel_rfl)) hHeld ?_ ?_
    rotate_left
    · simp only[Act.put,List.setIfInBounds_toArray,List.set_cons_zero,List.set_cons_succ,i64_w,i32_w];rfl
    refine take_ (i:=6) (N:=some 42) (v:=?_) (a':=?_) #[true,true,true,true,true,true,true,true,false,false,false,false,false,false] rfl rfl (z1s HT_.out HW_.out (by kernel_rfl)) (fun _ _ _ h=>h) (Or.inl ⟨by rfl,?_⟩) hHeld ?_ ?_
    rotate_left
    · intro w' sS;have f0:=z07 sS fQ;clear sS
      go_simp
      with_reducible rfl
    rotate_left
    · simp only[Act.put,List.setIfInBounds_toArray,List.set_cons_zero,List.set_cons_succ,i64_w,i32_w];rfl
    refine pure_ (i:=8) (N:=some 44) (v:=?_) (a':=?_) #[true,true,true,true,true,true,true,true,true,false,false,false,false,false] rfl rfl (z0s HT_.out (by kernel_rfl)) (fun _ _ _ h=>h) (Or.inl ⟨by rfl,?_⟩) ?_ ?_
    rotate_left
    · intro w'
      go_simp
      with_reducible rfl
    rotate_left
    · simp only[Act.put,List.setIfInBounds_toArray,List.set_cons_zero,List.set_cons_succ,i64_w,i32_w];rfl
    refine take_ (i:=9) (N:=some 45) (v:=.agg csB.toArray) (a':=?_) #[true,true,true,true,true,true,true,true,true,true,false,false,false,false] rfl rfl (z1s HT_.out HW_.out (by kernel_rfl)) (fun _ _ _ h=>h) (by exact yieldsIf_load_mid (by rfl) 62 (.tmp 44) rfl _ _ rfl csB _ (fun w' sS k v hv=>z07 sS (rB k v hv)) Tryz.underlying62 rfl (by rw[hlB];kernel_rfl)) hHeld ?_ ?_
    rotate_left
    · simp only[Act.put,List.setIfInBounds_toArray,List.set_cons_zero,List.set_cons_succ,i64_w,i32_w];rfl
    refine join_ (σ:=Nat × Nat) 2 #[true,true,true,true,true,true,true,true,true,true,true,true,false,false] (fun s_=>[(6,.pointer (some ⟨s_.1,0,none⟩)),(7,.pointer (some ⟨s_.2,0,none⟩))]) (fun s_ w'=>Below wr.heap.size wr w'∧w'.heap[s_.1]?=some (.cells #[.int .i64 0,.string ⟨#[]⟩,.slice none 0 0,.string ⟨#[]⟩,.string ⟨#[]⟩,.int .i64 0,.int .i64 0,.string ⟨#[]⟩,.string ⟨#[]⟩,.int .i64 0,.int .i64 0,.string ⟨#[]⟩,.string ⟨#[]⟩,.int .i64 0,.int .i64 0,.string ⟨#[]⟩,.slice none 0 0] 62 (0,0))∧w'.heap[s_.2]?=some (.cells #[.int .i64 0,.string ⟨#[]⟩,.slice none 0 0,.string ⟨#[]⟩,.string ⟨#[]⟩,.int .i64 0,.int .i64 0,.string ⟨#[]⟩,.string ⟨#[]⟩,.int .i64 0,.int .i64 0,.string ⟨#[]⟩,.string ⟨#[]⟩,.int .i64 0,.int .i64 0,.string ⟨#[]⟩,.slice none 0 0] 62 (0,0))∧wr.heap.size≤s_.1∧wr.heap.size≤s_.2∧s_.1≠s_.2) ?_ ?_
    rotate_left
    · intro hCont;refine two_ (i:=10) (j:=11) (Ni:=some 6) (Nj:=some 7) #[true,true,true,true,true,true,true,true,true,true,true,false,false,false] #[true,true,true,true,true,true,true,true,true,true,false,true,false,false] rfl rfl rfl rfl (two_of HT_.out (by kernel_rfl)) (by decide) (by decide) (fun K hK=>?_) (fun K hK=>?_)
      · refine za5 ?hg (N:=6) ?hd (cs:=#[.int .i64 0,.string ⟨#[]⟩,.slice none 0 0,.string ⟨#[]⟩,.string ⟨#[]⟩,.int .i64 0,.int .i64 0,.string ⟨#[]⟩,.string ⟨#[]⟩,.int .i64 0,.int .i64 0,.string ⟨#[]⟩,.string ⟨#[]⟩,.int .i64 0,.int .i64 0,.string ⟨#[]⟩,.slice none 0 0]) (t:=62) ?hr ?_;(case hd=>rfl);(case hg=>rfl);(case hr=>first|(go_simp;done)|(go_simp;rfl));intro x hx w1 hbx hb1;have hB1:=z0g hHeld hb1;have hgx:wr.heap.size≤x:=by rw[hx];exact hHeld.size
        refine hK.out _ _ hB1 (fun hHeld=>?_);clear hK K;refine norm_ (a':=?_) ?_ ?_
        rotate_left
        · show Act.put _ (some 6) _=_;simp only[Act.put,List.setIfInBounds_toArray,List.set_cons_zero,List.set_cons_succ,i64_w,i32_w];rfl
        refine one_ (i:=11) (N:=some 7) #[true,true,true,true,true,true,true,true,true,true,true,true,false,false] rfl rfl (z2f HT_.out (by kernel_rfl)) (by decide) (fun K hK=>?_);refine za5 ?hg (N:=7) ?hd (cs:=#[.int .i64 0,.string ⟨#[]⟩,.slice none 0 0,.string ⟨#[]⟩,.string ⟨#[]⟩,.int .i64 0,.int .i64 0,.string ⟨#[]⟩,.string ⟨#[]⟩,.int .i64 0,.int .i64 0,.string ⟨#[]⟩,.string ⟨#[]⟩,.int .i64 0,.int .i64 0,.string ⟨#[]⟩,.slice none 0 0]) (t:=62) ?hr ?_;(case hd=>rfl);(case hg=>rfl);(case hr=>first|(go_simp;done)|(go_simp;rfl));intro y hy w2 hby hb2;have hB2:=z0g hHeld hb2;have hgy:wr.heap.size≤y:=by rw[hy];exact hHeld.size
        have hne:x≠y:=by rw[hy];exact Nat.ne_of_lt (z27 hbx)
        have hbx2:=z0a hbx hb2;refine hK.out _ _ hB2 (fun hHeld=>?_);clear hK K;refine norm_ (a':=?_) ?_ ?_
        rotate_left
        · show Act.put _ (some 7) _=_;simp only[Act.put,List.setIfInBounds_toArray,List.set_cons_zero,List.set_cons_succ,i64_w,i32_w];rfl
        exact norm_ (by simp only[zc8,Act.put,List.setIfInBounds_toArray,List.set_cons_zero,List.set_cons_succ]) (hCont (x,y) _ ⟨hHeld,hbx2,hby,hgx,hgy,hne⟩)
      · refine za5 ?hg (N:=7) ?hd (cs:=#[.int .i64 0,.string ⟨#[]⟩,.slice none 0 0,.string ⟨#[]⟩,.string ⟨#[]⟩,.int .i64 0,.int .i64 0,.string ⟨#[]⟩,.string ⟨#[]⟩,.int .i64 0,.int .i64 0,.string ⟨#[]⟩,.string ⟨#[]⟩,.int .i64 0,.int .i64 0,.string ⟨#[]⟩,.slice none 0 0]) (t:=62) ?hr ?_;(case hd=>rfl);(case hg=>rfl);(case hr=>first|(go_simp;done)|(go_simp;rfl));intro x hx w1 hbx hb1;have hB1:=z0g hHeld hb1;have hgx:wr.heap.size≤x:=by rw[hx];exact hHeld.size
        refine hK.out _ _ hB1 (fun hHeld=>?_);clear hK K;refine norm_ (a':=?_) ?_ ?_
        rotate_left
        · show Act.put _ (some 7) _=_;simp only[Act.put,List.setIfInBounds_toArray,List.set_cons_zero,List.set_cons_succ,i64_w,i32_w];rfl
        refine one_ (i:=10) (N:=some 6) #[true,true,true,true,true,true,true,true,true,true,true,true,false,false] rfl rfl (z2f HT_.out (by kernel_rfl)) (by decide) (fun K hK=>?_);refine za5 ?hg (N:=6) ?hd (cs:=#[.int .i64 0,.string ⟨#[]⟩,.slice none 0 0,.string ⟨#[]⟩,.string ⟨#[]⟩,.int .i64 0,.int .i64 0,.string ⟨#[]⟩,.string ⟨#[]⟩,.int .i64 0,.int .i64 0,.string ⟨#[]⟩,.string ⟨#[]⟩,.int .i64 0,.int .i64 0,.string ⟨#[]⟩,.slice none 0 0]) (t:=62) ?hr ?_;(case hd=>rfl);(case hg=>rfl);(case hr=>first|(go_simp;done)|(go_simp;rfl));intro y hy w2 hby hb2;have hB2:=z0g hHeld hb2;have hgy:wr.heap.size≤y:=by rw[hy];exact hHeld.size
        have hne:x≠y:=by rw[hy];exact Nat.ne_of_lt (z27 hbx)
        have hbx2:=z0a hbx hb2;refine hK.out _ _ hB2 (fun hHeld=>?_);clear hK K;refine norm_ (a':=?_) ?_ ?_
        rotate_left
        · show Act.put _ (some 6) _=_;simp only[Act.put,List.setIfInBounds_toArray,List.set_cons_zero,List.set_cons_succ,i64_w,i32_w];rfl
        exact norm_ (by simp only[zc8,Act.put,List.setIfInBounds_toArray,List.set_cons_zero,List.set_cons_succ]) (hCont (y,x) _ ⟨hHeld,hby,hbx2,hgy,hgx,hne.symm⟩)
    rintro⟨g9,g10⟩ V2 ⟨hHeld,hb6,hb7,hg6,hg7,hne⟩;simp only at hb6 hb7 hg6 hg7 hne;refine norm_ (a':=?_) ?_ ?_
    rotate_left
    · simp only[zc8,Act.put,List.setIfInBounds_toArray,List.set_cons_zero,List.set_cons_succ];rfl
    refine one_ (i:=12) (N:=none) #[true,true,true,true,true,true,true,true,true,true,true,true,true,false] rfl rfl (z2f HT_.out (by kernel_rfl)) (by decide) (fun K hK=>?_);have hth:V2.there g9 0 csA.toArray.size:=z4w hb6 (by rw[List.size_toArray,hlA];decide);rw[if_pos (by rfl)];refine wp_store_mid 62 (.tmp 6) (.tmp 40) rfl g9 0 csA.toArray rfl rfl hth (by rw[List.size_toArray,hlA];kernel_rfl) h1A ?_;rw[show csA.toArray.toList=csA from rfl,z2o];have hS:=z2u (n:=g9) hg6 csA 0 _ hHeld;have hb6':=z35 csA 0 V2 #[.int .i64 0,.string ⟨#[]⟩,.slice none 0 0,.string ⟨#[]⟩,.string ⟨#[]⟩,.int .i64 0,.int .i64 0,.string ⟨#[]⟩,.string ⟨#[]⟩,.int .i64 0,.int .i64 0,.string ⟨#[]⟩,.string ⟨#[]⟩,.int .i64 0,.int .i64 0,.string ⟨#[]⟩,.slice none 0 0] hb6;have hb7':=z2q hne.symm csA 0 V2 hb7;rw[z8t (by rw[hlA];rfl)]at hb6';refine hK.out _ _ hS (fun hHeld=>?_);clear hK K hS hth;refine norm_ (a':=?_) ?_ ?_
    rotate_left
    · show Act.put _ none _=_;rfl
    generalize sets V2 g9 0 csA=V3 at hHeld hb6' hb7' ⊢
    clear hb6 hb7;refine one_ (i:=13) (N:=none) #[true,true,true,true,true,true,true,true,true,true,true,true,true,true] rfl rfl (z2f HT_.out (by kernel_rfl)) (by decide) (fun K hK=>?_);have hth:V3.there g10 0 csB.toArray.size:=z4w hb7' (by rw[List.size_toArray,hlB];decide);rw[if_pos (by rfl)];refine wp_store_mid 62 (.tmp 7) (.tmp 45) rfl g10 0 csB.toArray rfl rfl hth (by rw[List.size_toArray,hlB];kernel_rfl) h1B ?_;rw[show csB.toArray.toList=csB from rfl,z2o];have hS:=z2u (n:=g10) hg7 csB 0 _ hHeld;have hb7'':=z35 csB 0 V3 #[.int .i64 0,.string ⟨#[]⟩,.slice none 0 0,.string ⟨#[]⟩,.string ⟨#[]⟩,.int .i64 0,.int .i64 0,.string ⟨#[]⟩,.string ⟨#[]⟩,.int .i64 0,.int .i64 0,.string ⟨#[]⟩,.string ⟨#[]⟩,.int .i64 0,.int .i64 0,.string ⟨#[]⟩,.slice none 0 0] hb7';have hb6'':=z2q hne csB 0 V3 hb6';rw[z8t (by rw[hlB];rfl)]at hb7'';refine hK.out _ _ hS (fun hHeld=>?_);clear hK K hS hth;refine norm_ (a':=?_) ?_ ?_
    rotate_left
    · show Act.put _ none _=_;rfl
    generalize sets V3 g10 0 csB=V6 at hHeld hb6'' hb7'' ⊢
    clear hb6' hb7';refine done_ (z4y HT_.out (by kernel_rfl)) ?_;have HBV6:=z00.mk (z06 HB.out HB.out.size hHeld);have HG6:=z00.mk (show V6.heap[g9]?=some (.cells #[.int .i64 y.f0,.string y.f1.f0,.slice Y2 y.f1.f1.length y2,.string y.f2,.string y.f3.f0,.int .i64 y.f3.f1.f0,.int .i64 y.f3.f1.f1,.string y.f3.f1.f2,.string y.f4.f0,.int .i64 y.f4.f1.f0,.int .i64 y.f4.f1.f1,.string y.f4.f1.f2,.string y.f5.f0,.int .i64 y.f5.f1.f0,.int .i64 y.f5.f1.f1,.string y.f5.f1.f2,.slice Y16 y.f6.length y16] 62 (0,0))∧V6.heap[g10]?=some (.cells #[.int .i64 y.f0,.string y.f1.f0,.slice Y2' y.f1.f1.length y2',.string y.f2,.string y.f3.f0,.int .i64 y.f3.f1.f0,.int .i64 y.f3.f1.f1,.string y.f3.f1.f2,.string y.f4.f0,.int .i64 y.f4.f1.f0,.int .i64 y.f4.f1.f1,.string y.f4.f1.f2,.string y.f5.f0,.int .i64 y.f5.f1.f0,.int .i64 y.f5.f1.f1,.string y.f5.f1.f2,.slice Y16' y.f6.length y16'] 62 (0,0)) by rw[hb6'',hb7'',HE.out.1,HE.out.2];exact⟨rfl,rfl⟩);clear hHeld hb6'' hb7'' hg6 hg7 hne rA rB hlA hlB h1A h1B HE fP fQ HT_ HW_ HB;have a0:V6.cell? ⟨g9,0,none⟩=some (.int .i64 y.f0):=(z01 HG6.out.1 0).trans rfl;have a1:V6.cell? ⟨g9,1,none⟩=some (.string y.f1.f0):=(z01 HG6.out.1 1).trans rfl;have a2:V6.cell? ⟨g9,2,none⟩=some (.slice Y2 y.f1.f1.length y2):=(z01 HG6.out.1 2).trans rfl;have a3:V6.cell? ⟨g9,3,none⟩=some (.string y.f2):=(z01 HG6.out.1 3).trans rfl;have a4:V6.cell? ⟨g9,4,none⟩=some (.string y.f3.f0):=(z01 HG6.out.1 4).trans rfl;have a5:V6.cell? ⟨g9,5,none⟩=some (.int .i64 y.f3.f1.f0):=(z01 HG6.out.1 5).trans rfl;have a6:V6.cell? ⟨g9,6,none⟩=some (.int .i64 y.f3.f1.f1):=(z01 HG6.out.1 6).trans rfl;have a7:V6.cell? ⟨g9,7,none⟩=some (.string y.f3.f1.f2):=(z01 HG6.out.1 7).trans rfl;have a8:V6.cell? ⟨g9,8,none⟩=some (.string y.f4.f0):=(z01 HG6.out.1 8).trans rfl;have a9:V6.cell? ⟨g9,9,none⟩=some (.int .i64 y.f4.f1.f0):=(z01 HG6.out.1 9).trans rfl;have a10:V6.cell? ⟨g9,10,none⟩=some (.int .i64 y.f4.f1.f1):=(z01 HG6.out.1 10).trans rfl
    have a11:V6.cell? ⟨g9,11,none⟩=some (.string y.f4.f1.f2):=(z01 HG6.out.1 11).trans rfl;have a12:V6.cell? ⟨g9,12,none⟩=some (.string y.f5.f0):=(z01 HG6.out.1 12).trans rfl;have a13:V6.cell? ⟨g9,13,none⟩=some (.int .i64 y.f5.f1.f0):=(z01 HG6.out.1 13).trans rfl;have a14:V6.cell? ⟨g9,14,none⟩=some (.int .i64 y.f5.f1.f1):=(z01 HG6.out.1 14).trans rfl;have a15:V6.cell? ⟨g9,15,none⟩=some (.string y.f5.f1.f2):=(z01 HG6.out.1 15).trans rfl;have a16:V6.cell? ⟨g9,16,none⟩=some (.slice Y16 y.f6.length y16):=(z01 HG6.out.1 16).trans rfl;have b0:V6.cell? ⟨g10,0,none⟩=some (.int .i64 y.f0):=(z01 HG6.out.2 0).trans rfl;have b1:V6.cell? ⟨g10,1,none⟩=some (.string y.f1.f0):=(z01 HG6.out.2 1).trans rfl;have b2:V6.cell? ⟨g10,2,none⟩=some (.slice Y2' y.f1.f1.length y2'):=(z01 HG6.out.2 2).trans rfl;have b3:V6.cell? ⟨g10,3,none⟩=some (.string y.f2):=(z01 HG6.out.2 3).trans rfl;have b4:V6.cell? ⟨g10,4,none⟩=some (.string y.f3.f0):=(z01 HG6.out.2 4).trans rfl;have b5:V6.cell? ⟨g10,5,none⟩=some (.int .i64 y.f3.f1.f0):=(z01 HG6.out.2 5).trans rfl;have b6:V6.cell? ⟨g10,6,none⟩=some (.int .i64 y.f3.f1.f1):=(z01 HG6.out.2 6).trans rfl;have b7:V6.cell? ⟨g10,7,none⟩=some (.string y.f3.f1.f2):=(z01 HG6.out.2 7).trans rfl;have b8:V6.cell? ⟨g10,8,none⟩=some (.string y.f4.f0):=(z01 HG6.out.2 8).trans rfl;have b9:V6.cell? ⟨g10,9,none⟩=some (.int .i64 y.f4.f1.f0):=(z01 HG6.out.2 9).trans rfl;have b10:V6.cell? ⟨g10,10,none⟩=some (.int .i64 y.f4.f1.f1):=(z01 HG6.out.2 10).trans rfl;have b11:V6.cell? ⟨g10,11,none⟩=some (.string y.f4.f1.f2):=(z01 HG6.out.2 11).trans rfl;have b12:V6.cell? ⟨g10,12,none⟩=some (.string y.f5.f0):=(z01 HG6.out.2 12).trans rfl;have b13:V6.cell? ⟨g10,13,none⟩=some (.int .i64 y.f5.f1.f0):=(z01 HG6.out.2 13).trans rfl;have b14:V6.cell? ⟨g10,14,none⟩=some (.int .i64 y.f5.f1.f1):=(z01 HG6.out.2 14).trans rfl;have b15:V6.cell? ⟨g10,15,none⟩=some (.string y.f5.f1.f2):=(z01 HG6.out.2 15).trans rfl
    have b16:V6.cell? ⟨g10,16,none⟩=some (.slice Y16' y.f6.length y16'):=(z01 HG6.out.2 16).trans rfl;have s1:(y.f0 !=y.f0)=false:=bne_self_eq_false _;have s2:(y.f2.toList !=y.f2.toList)=false:=bne_self_eq_false _
    go_wp2_with fail
    refine(HAT2.out _ HBV6.out).mono ?_;rintro e w8 ⟨rfl,hb⟩;have c16:w8.cell? ⟨g9,16,none⟩=some (.slice Y16 y.f6.length y16):=(z01 (z0a HG6.out.1 hb) 16).trans rfl;have d16:w8.cell? ⟨g10,16,none⟩=some (.slice Y16' y.f6.length y16'):=(z01 (z0a HG6.out.2 hb) 16).trans rfl;have HB8:=z00.mk (z06 HBV6.out HBV6.out.size hb);clear hb s1 s2 a0 a1 a2 a3 a4 a5 a6 a7 a8 a9 a10 a11 a12 a13 a14 a15 a16 b0 b1 b2 b3 b4 b5 b6 b7 b8 b9 b10 b11 b12 b13 b14 b15 b16
    go_wp2_with fail
    refine(HPA2.out _ HB8.out).mono ?_;rintro e w9 ⟨rfl,hd9⟩;have HB9:=z00.mk (z06 HB8.out HB8.out.size hd9.below);have y5:wrap64 ((j:Int)+1)=((j+1:Nat):Int):=by have:=HX.out.1.2.1;unfold wrap64;omega
    clear hd9 c16 d16;go_wp2
    go_roundg k1
    case rel=>exact⟨j+1,by go_num,by omega,by omega,HB9⟩
    case measure=>omega
  · obtain rfl:j=x.f2.length:=by omega
    have y3:decide ((x.f2.length:Int)<(x.f2.length:Int))=false:=decide_eq_false (by omega);have HBo:=z00.mk (z06 HBW.out HBW.out.size HB.out);go_wp2
    go_ret
    exact⟨rfl,HBo.out⟩
set_option maxHeartbeats 16000000 in
set_option maxRecDepth 100000 in
theorem zgw (rs:List RlS) (pn:ByteArray) (pa:List TmS) (hrs:rs.length≤1000) (hok:∀x ∈ rs,zmj x) (hpa:pa.length≤1000) (A B A1 B1:Option Addr) (c d c1 d1:Nat) (hc1:pa.length≤c1) (hd1:pa.length≤d1) (w:World)
 (hA:Kd.C k33 w A rs.length rs) (hB:Kd.C k33 w B rs.length rs) (hA1:Kd.C k60 w A1 pa.length pa) (hB1:Kd.C k60 w B1 pa.length pa) :
 Calls Tryz.prog 40 #[.agg #[.slice A rs.length c,.string pn,.slice A1 pa.length c1],.agg #[.slice B rs.length d,.string pn,.slice B1 pa.length d1]] w fun e w'=>e=.returned (.bool true)∧Below w.heap.size w w':=by
 obtain⟨n2,en2⟩:∃n,w.heap.size=n:=⟨_,rfl⟩
 obtain⟨W1,hW1⟩:∃W,w.alloc (.cells #[.slice A rs.length c,.string pn,.slice A1 pa.length c1] 27)=W:=⟨_,rfl⟩
 obtain⟨W,hW⟩:∃W,W1.alloc (.cells #[.slice B rs.length d,.string pn,.slice B1 pa.length d1] 27)=W:=⟨_,rfl⟩
 have hsz:W1.heap.size=n2+1:=by rw[←hW1];simp[en2]
 have hBW1:Below w.heap.size w W1:=hW1 ▸ z02 (Below.refl _ _) _;have hBW:Below w.heap.size w W:=hW ▸ z02 hBW1 _;have hN2:=z0l w (.cells #[.slice A rs.length c,.string pn,.slice A1 pa.length c1] 27);rw[en2,hW1]at hN2;have hN2:=z0d hN2 (.cells #[.slice B rs.length d,.string pn,.slice B1 pa.length d1] 27);have hN3:=z0l W1 (.cells #[.slice B rs.length d,.string pn,.slice B1 pa.length d1] 27);rw[hW]at hN2 hN3;rw[hsz]at hN3;have HN:=z00.mk (And.intro hN2 hN3);have HC:=z00.mk (And.intro (Kd.C_below hA hBW) (Kd.C_below hB hBW));have HBW:=z00.mk hBW;have HAT0:=z00.mk (z0b.calls 1100 pn A1 c1 pa pn B1 d1 pa true W (Kd.C_below hA1 hBW) hc1 (Kd.C_below hB1 hBW) hd1 (z8e pn pa hpa));have HOK:=z00.mk (And.intro hrs hok);have u0:W.cell? ⟨n2,0,none⟩=some (.slice A rs.length c):=(z01 hN2 0).trans rfl;have u1:W.cell? ⟨n2,1,none⟩=some (.string pn):=(z01 hN2 1).trans rfl;have u2:W.cell? ⟨n2,2,none⟩=some (.slice A1 pa.length c1):=(z01 hN2 2).trans rfl;have v0:W.cell? ⟨n2+1,0,none⟩=some (.slice B rs.length d):=(z01 hN3 0).trans rfl;have v1:W.cell? ⟨n2+1,1,none⟩=some (.string pn):=(z01 hN3 1).trans rfl;have v2:W.cell? ⟨n2+1,2,none⟩=some (.slice B1 pa.length d1):=(z01 hN3 2).trans rfl;have z0:((rs.length:Int) !=(rs.length:Int))=false:=bne_self_eq_false _;clear hA hB hA1 hB1 hBW hBW1 hN2 hN3 hrs hok;go_enter Tryz.func40,Tryz.ntmps40
 go_wp2_with fail
 refine HAT0.out.mono ?_;rintro e w1 ⟨rfl,hb⟩;have HB1:=z00.mk hb;have u3:=z07 hb u0;clear hb u0 u1 u2 v0 v1 v2 hW hW1 hsz;go_wp2
 go_loopg [24] (rs.length+1) (fun kq v24 w'=>∃i:Nat,v24=.int .i64 i∧kq+i=rs.length+1∧i≤rs.length∧z00 (Below W.heap.size W w'))
 case atStart=>exact⟨0,rfl,by omega,by omega,HB1⟩
 case round =>
  clear HB1 u3;obtain⟨i,rfl,hk,hi,HB⟩:=hrel
  by_cases hlt:i<rs.length
  · have y1:decide ((i:Int)<(rs.length:Int))=true:=decide_eq_true (by omega);have y2:decide (i<rs.length)=true:=decide_eq_true hlt;obtain⟨k1,rfl⟩:∃k1,gk=k1+1:=⟨gk - 1,by omega⟩
    have p0:(0≤(i:Int))=True:=eq_true (by omega);have p1:((i:Int)<(rs.length:Int))=True:=eq_true (by omega);obtain⟨ad,X1,x1,X3,x3,rfl,e0,e1,e2,e3,l1,m1,l3,m3⟩:=at_T33 HC.out.1 (i:Int) (by omega) (by omega);obtain⟨bd,X1',x1',X3',x3',rfl,d0,d1,d2,d3,l1',m1',l3',m3'⟩:=at_T33 HC.out.2 (i:Int) (by omega) (by omega);have hr:z7d rs (i:Int)=rs[i]:=by
     show rs.getD (Int.toNat (i:Int)) _=_;rw[Int.toNat_natCast,List.getD_eq_getElem?_getD,List.getElem?_eq_getElem hlt];rfl
    have hOK:=HOK.out.2 rs[i] (List.getElem_mem hlt);obtain⟨x,hx⟩:∃x,rs[i]=x:=⟨_,rfl⟩
    simp only[hr,hx,Int.toNat_natCast]at e0 e1 e2 e3 l1 m1 l3 m3 d0 d1 d2 d3 l1' m1' l3' m3';rw[hx]at hOK;have HRC:=z00.mk (fun(V:World) (h:Below W.heap.size W V)=>zbj x hOK X1 X3 X1' X3' x1 x3 x1' x3' l1 l1' V (Kd.C_below m1 h) (Kd.C_below m3 h) (Kd.C_below m1' h) (Kd.C_below m3' h));have hP:W.cell? ⟨n2,0,none⟩=some (.slice (some ad) rs.length c):=(z01 HN.out.1 0).trans rfl;have hQ:W.cell? ⟨n2+1,0,none⟩=some (.slice (some bd) rs.length d):=(z01 HN.out.2 0).trans rfl;have fP:=z07 HB.out hP;have fQ:=z07 HB.out hQ;replace e0:=z07 HB.out e0;replace e1:=z07 HB.out e1;replace e2:=z07 HB.out e2;replace e3:=z07 HB.out e3;replace d0:=z07 HB.out d0;replace d1:=z07 HB.out d1;replace d2:=z07 HB.out d2;replace d3:=z07 HB.out d3;clear hP hQ hr hx l1 m1 l3 m3 l1' m1' l3' m3' hOK
    go_wp2_with fail
    refine z6t (n:=12) (S:=fun w'=>Below wr.heap.size wr w') (ds:=[]) #[false,false,false,false,false,false,false,false,false,false,false,false] (by kernel_rfl) rfl rfl (z05 (Below.refl _ _)) (fun hHeld=>?_);refine z3l sm9.tab sm9.bits (fun HT_ HW_=>?_)
    generalize wr.drew=V at hHeld ⊢
    refine pure_ (i:=0) (N:=some 27) (v:=?_) (a':=?_) #[true,false,false,false,false,false,false,false,false,false,false,false] rfl rfl (z0s HT_.out (by kernel_rfl)) (fun _ _ _ h=>h) (Or.inl ⟨by rfl,?_⟩) ?_ ?_
    rotate_left
    · intro w'
      go_simp
      with_reducible rfl
    rotate_left
    · simp only[Act.put,List.setIfInBounds_toArray,List.set_cons_zero,List.set_cons_succ,i64_w,i32_w];rfl
    refine pure_ (i:=2) (N:=some 29) (v:=?_) (a':=?_) #[true,false,true,false,false,false,false,false,false,false,false,false] rfl rfl (z0s HT_.out (by kernel_rfl)) (fun _ _ _ h=>h) (Or.inl ⟨by rfl,?_⟩) ?_ ?_
    rotate_left
    · intro w'
      go_simp
      with_reducible rfl
    rotate_left
    · simp only[Act.put,List.setIfInBounds_toArray,List.set_cons_zero,List.set_cons_succ,i64_w,i32_w];rfl
    refine pure_ (i:=5) (N:=some 32) (v:=?_) (a':=?_) #[true,false,true,false,false,true,false,false,false,false,false,false] rfl rfl (z0s HT_.out (by kernel_rfl)) (fun _ _ _ h=>h) (Or.inl ⟨by rfl,?_⟩) ?_ ?_
    rotate_left
    · intro w'
      go_simp
      with_reducible rfl
    rotate_left
    · simp only[Act.put,List.setIfInBounds_toArray,List.set_cons_zero,List.set_cons_succ,i64_w,i32_w];rfl
    refine pure_ (i:=7) (N:=some 34) (v:=?_) (a':=?_) #[true,false,true,false,false,true,false,true,false,false,false,false] rfl rfl (z0s HT_.out (by kernel_rfl)) (fun _ _ _ h=>h) (Or.inl ⟨by rfl,?_⟩) ?_ ?_
    rotate_left
    · intro w'
      go_simp
      with_reducible rfl
    rotate_left
    · simp only[Act.put,List.setIfInBounds_toArray,List.set_cons_zero,List.set_cons_succ,i64_w,i32_w];rfl
    refine take_ (i:=1) (N:=some 28) (v:=?_) (a':=?_) #[true,true,true,false,false,true,false,true,false,false,false,false] rfl rfl (z1s HT_.out HW_.out (by kernel_rfl)) (fun _ _ _ h=>h) (Or.inl ⟨by rfl,?_⟩) hHeld ?_ ?_
    rotate_left
    · intro w' sS;have f0:=z07 sS fP;clear sS
      go_simp
      with_reducible rfl
    rotate_left
    · simp only[Act.put,List.setIfInBounds_toArray,List.set_cons_zero,List.set_cons_succ,i64_w,i32_w];rfl
    refine pure_ (i:=3) (N:=some 30) (v:=?_) (a':=?_) #[true,true,true,true,false,true,false,true,false,false,false,false] rfl rfl (z0s HT_.out (by kernel_rfl)) (fun _ _ _ h=>h) (Or.inl ⟨by rfl,?_⟩) ?_ ?_
    rotate_left
    · intro w'
      go_simp
      with_reducible rfl
    rotate_left
    · simp only[Act.put,List.setIfInBounds_toArray,List.set_cons_zero,List.set_cons_succ,i64_w,i32_w];rfl
    refine take_ (i:=4) (N:=some 31) (v:=?_) (a':=?_) #[true,true,true,true,true,true,false,true,false,false,false,false] rfl rfl (z1s HT_.out HW_.out (by kernel_rfl)) (fun _ _ _ h=>h) (Or.inl ⟨by rfl,?_⟩) hHeld ?_ ?_
    rotate_left
    · intro w' sS;have f0:=z07 sS e0;have f1:=z07 sS e1;have f2:=z07 sS e2;have f3:=z07 sS e3;clear sS
      go_simp
      with_reducible rfl
    rotate_left
    · simp only[Act.put,List.setIfInBounds_toArray,List.set_cons_zero,List.set_cons_succ,i64_w,i32_w];rfl
    refine take_ (i:=6) (N:=some 33) (v:=?_) (a':=?_) #[true,true,true,true,true,true,true,true,false,false,false,false] rfl rfl (z1s HT_.out HW_.out (by kernel_rfl)) (fun _ _ _ h=>h) (Or.inl ⟨by rfl,?_⟩) hHeld ?_ ?_
    rotate_left
    · intro w' sS;have f0:=z07 sS fQ;clear sS
      go_simp
      with_reducible rfl
    rotate_left
    · simp only[Act.put,List.setIfInBounds_toArray,List.set_cons_zero,List.set_cons_succ,i64_w,i32_w];rfl
    refine pure_ (i:=8) (N:=some 35) (v:=?_) (a':=?_) #[true,true,true,true,true,true,true,true,true,false,false,false] rfl rfl (z0s HT_.out (by kernel_rfl)) (fun _ _ _ h=>h) (Or.inl ⟨by rfl,?_⟩) ?_ ?_
    rotate_left
    · intro w'
      go_simp
      with_reducible rfl
    rotate_left
    · simp only[Act.put,List.setIfInBounds_toArray,List.set_cons_zero,List.set_cons_succ,i64_w,i32_w];rfl
    refine take_ (i:=9) (N:=some 36) (v:=?_) (a':=?_) #[true,true,true,true,true,true,true,true,true,true,false,false] rfl rfl (z1s HT_.out HW_.out (by kernel_rfl)) (fun _ _ _ h=>h) (Or.inl ⟨by rfl,?_⟩) hHeld ?_ ?_
    rotate_left
    · intro w' sS;have f0:=z07 sS d0;have f1:=z07 sS d1;have f2:=z07 sS d2;have f3:=z07 sS d3;clear sS
      go_simp
      with_reducible rfl
    rotate_left
    · simp only[Act.put,List.setIfInBounds_toArray,List.set_cons_zero,List.set_cons_succ,i64_w,i32_w];rfl
    refine one_ (i:=10) (N:=some 37) #[true,true,true,true,true,true,true,true,true,true,true,false] rfl rfl (z2f HT_.out (by kernel_rfl)) (by decide) (fun K hK=>?_);refine goes_ Tryz.func41 (by kernel_rfl) rfl #[.agg #[.string x.f0.f0,.slice X1 x.f0.f1.length x1,.int .i64 x.f1,.slice X3 x.f2.length x3],.agg #[.string x.f0.f0,.slice X1' x.f0.f1.length x1',.int .i64 x.f1,.slice X3' x.f2.length x3']] (by rfl) rfl rfl zA02 ?_;refine(HRC.out _ (z06 HB.out HB.out.size hHeld)).mono ?_;rintro e w5 ⟨rfl,hb⟩;refine⟨_,rfl,?_⟩;refine hK.out _ _ (z0g hHeld hb) (fun hHeld=>?_);clear hK K;refine norm_ (a':=?_) ?_ ?_
    rotate_left
    · show Act.put _ (some 37) _=_;simp only[Act.put,List.setIfInBounds_toArray,List.set_cons_zero,List.set_cons_succ,i64_w,i32_w];rfl
    refine pure_ (i:=11) (N:=some 38) (v:=?_) (a':=?_) #[true,true,true,true,true,true,true,true,true,true,true,true] rfl rfl (z0s HT_.out (by kernel_rfl)) (fun _ _ _ h=>h) (Or.inl ⟨by rfl,?_⟩) ?_ ?_
    rotate_left
    · intro w'
      go_simp
      with_reducible rfl
    rotate_left
    · simp only[Act.put,List.setIfInBounds_toArray,List.set_cons_zero,List.set_cons_succ,i64_w,i32_w];rfl
    refine done_ (z4y HT_.out (by kernel_rfl)) ?_;have HBV:=z00.mk (z06 HB.out HB.out.size hHeld);have y5:wrap64 ((i:Int)+1)=((i+1:Nat):Int):=by have:=HOK.out.1;unfold wrap64;omega
    clear hHeld e0 e1 e2 e3 d0 d1 d2 d3 fP fQ HT_ HW_ HB HRC;go_wp2
    go_roundg k1
    case rel=>exact⟨i+1,by go_num,by omega,by omega,HBV⟩
    case measure=>omega
  · obtain rfl:i=rs.length:=by omega
    have y1:decide ((rs.length:Int)<(rs.length:Int))=false:=decide_eq_false (by omega);have HBo:=z00.mk (z06 HBW.out HBW.out.size HB.out);go_wp2
    go_ret
    exact⟨rfl,HBo.out⟩

def okL (x:LtS):Prop:=okA x.f1∧okT x.f3∧okT x.f4∧okT x.f5∧(∀y ∈ x.f6,y.f1.size≤9223372036854775807)∧x.f6.length≤140737488355328∧x.f2.size≤9223372036854775807
abbrev trm (x:LtS):Nat→TmS
 |0=>x.f3
 |1=>x.f4
 |_=>x.f5
def chkB (x:LtS) (n j:Nat):Bool:=if j<n then !(termL (trm x j)).isEmpty else z59 (trm x j)
theorem zm8 (x:LtS) (n:Nat) (a o p:Bool):restB x n a o p=(chkB x n 0&&(chkB x n 1&&(chkB x n 2&&((a||z7a x.f1)&&((o||(x.f2.toList==([]:List UInt8)))&&(p||(x.f6.length==0))))))):=rfl
theorem rest_no {x:LtS} {n j:Nat} {a o p:Bool} (hj:j<3) (h:chkB x n j=false):restB x n a o p=false:=by
 rw[zm8]
 match j,hj with
 |0,_=>rw[h];rfl
 |1,_=>rw[h];simp
 |2,_=>rw[h];simp
theorem rest_yes {x:LtS} {n:Nat} {a o p:Bool} (h:∀j,j<3→chkB x n j=true):restB x n a o p=((a||z7a x.f1)&&((o||(x.f2.toList==([]:List UInt8)))&&(p||(x.f6.length==0)))):=by
 rw[zm8,h 0 (by decide),h 1 (by decide),h 2 (by decide)]
 simp
theorem zl1 (n:Nat):((n:Int)==0)=(n==0):=by rw[Bool.eq_iff_iff,beq_iff_eq,beq_iff_eq];omega
theorem z50 (s:ByteArray):s.toList.isEmpty=(s.toList==([]:List UInt8)):=by cases s.toList <;> rfl
abbrev litC (x:LtS) (A2:Option Addr) (c2:Nat) (A16:Option Addr) (c16:Nat):Array Value:=#[.int .i64 x.f0,.string x.f1.f0,.slice A2 x.f1.f1.length c2,.string x.f2,.string x.f3.f0,.int .i64 x.f3.f1.f0,.int .i64 x.f3.f1.f1,.string x.f3.f1.f2,.string x.f4.f0,.int .i64 x.f4.f1.f0,.int .i64 x.f4.f1.f1,.string x.f4.f1.f2,.string x.f5.f0,.int .i64 x.f5.f1.f0,.int .i64 x.f5.f1.f1,.string x.f5.f1.f2,.slice A16 x.f6.length c16]
set_option maxHeartbeats 4000000 in
set_option maxRecDepth 100000 in
theorem z6m (x:LtS) (A2:Option Addr) (c2:Nat) (A16:Option Addr) (c16:Nat) (n:Nat) (hn:n≤3) (a o p:Bool) (hc:(a=true∧o=false∧p=false)∨(a=false∧o=true∧p=false)∨(a=false∧o=false∧p=true)) (w:World) (hLW:LaidW w) (hx:okL x) :
 Calls Tryz.prog 74 #[.agg (litC x A2 c2 A16 c16),.int .i64 n,.bool a,.bool o,.bool p] w fun e w'=>e=.returned (.bool (restB x n a o p))∧Below w.heap.size w w':=by
 have hB:=z02 (Below.refl w.heap.size w) (.cells (litC x A2 c2 A16 c16) 62);have hN:=z0l w (.cells (litC x A2 c2 A16 c16) 62);obtain⟨nb,enb⟩:∃n,w.heap.size=n:=⟨_,rfl⟩
 rw[enb]at hN;have HB:=z00.mk hB;have HN:=z00.mk hN;have HLW:=z00.mk hLW;have HX:=z00.mk hx;obtain⟨W,hW⟩:∃W,w.alloc (.cells (litC x A2 c2 A16 c16) 62)=W:=⟨_,rfl⟩
 have HT0:=z00.mk (fun V (h:LaidW V)=>z2a x.f3 V h hx.2.1);have HT1:=z00.mk (fun V (h:LaidW V)=>z2a x.f4 V h hx.2.2.1);have HT2:=z00.mk (fun V (h:LaidW V)=>z2a x.f5 V h hx.2.2.2.1);have HRN:=z00.mk (fun j (hj:j<3) (h:chkB x n j=false)=>rest_no (a:=a) (o:=o) (p:=p) hj h);have HRY:=z00.mk (fun(h:∀j,j<3→chkB x n j=true)=>rest_yes (a:=a) (o:=o) (p:=p) h);obtain⟨r,hr⟩:∃r,restB x n a o p=r:=⟨_,rfl⟩
 rw[hr]at HRN HRY ⊢;have HC:=z00.mk hc;clear hB hN hLW hx hr hc;simp only[litC]at HB HN hW ⊢;rw[hW]at HN HB;have HW:=z00.mk hW;have d4:W.cell? ⟨nb,4,none⟩=some (.string x.f3.f0):=(z01 HN.out 4).trans rfl;have d5:W.cell? ⟨nb,5,none⟩=some (.int .i64 x.f3.f1.f0):=(z01 HN.out 5).trans rfl;have d6:W.cell? ⟨nb,6,none⟩=some (.int .i64 x.f3.f1.f1):=(z01 HN.out 6).trans rfl;have d7:W.cell? ⟨nb,7,none⟩=some (.string x.f3.f1.f2):=(z01 HN.out 7).trans rfl;have d8:W.cell? ⟨nb,8,none⟩=some (.string x.f4.f0):=(z01 HN.out 8).trans rfl;have d9:W.cell? ⟨nb,9,none⟩=some (.int .i64 x.f4.f1.f0):=(z01 HN.out 9).trans rfl;have d10:W.cell? ⟨nb,10,none⟩=some (.int .i64 x.f4.f1.f1):=(z01 HN.out 10).trans rfl;have d11:W.cell? ⟨nb,11,none⟩=some (.string x.f4.f1.f2):=(z01 HN.out 11).trans rfl;have d12:W.cell? ⟨nb,12,none⟩=some (.string x.f5.f0):=(z01 HN.out 12).trans rfl;have d13:W.cell? ⟨nb,13,none⟩=some (.int .i64 x.f5.f1.f0):=(z01 HN.out 13).trans rfl;have d14:W.cell? ⟨nb,14,none⟩=some (.int .i64 x.f5.f1.f1):=(z01 HN.out 14).trans rfl;have d15:W.cell? ⟨nb,15,none⟩=some (.string x.f5.f1.f2):=(z01 HN.out 15).trans rfl;go_enter Tryz.func74,Tryz.ntmps74
 go_wp2_with fail
 have HWB:=z00.mk (show Below w.heap.size w W from hW ▸ HB.out);have HLW2:=z00.mk (HLW.out.below HWB.out);have HBR:=z00.mk (Below.refl W.heap.size W);clear HB HLW hW enb d4 d5 d6 d7 d8 d9 d10 d11 d12 d13 d14 d15
 go_loopg [20] 4 (fun kq v20 w'=>∃(i:Nat),v20=.int .i64 i∧kq+i=4∧i≤3∧z00 (∀j,j<i→chkB x n j=true)∧z00 (Below W.heap.size W w'))
 case atStart=>exact⟨0,rfl,rfl,by omega,⟨fun j hj=>by omega⟩,HBR⟩
 case round =>
  clear HBR;obtain⟨i,rfl,hk,hi,HCS,HB2⟩:=hrel
  by_cases hlt:i<3
  · obtain⟨k1,rfl⟩:∃k1,gk=k1+1:=⟨gk - 1,by omega⟩
    rcases (by omega:i=0∨i=1∨i=2)with rfl|rfl|rfl
    · have hix:∀V:World,(Instr.index 153 (.agg #[.string x.f3.f0,.int .i64 x.f3.f1.f0,.int .i64 x.f3.f1.f1,.string x.f3.f1.f2,.string x.f4.f0,.int .i64 x.f4.f1.f0,.int .i64 x.f4.f1.f1,.string x.f4.f1.f2,.string x.f5.f0,.int .i64 x.f5.f1.f0,.int .i64 x.f5.f1.f1,.string x.f5.f1.f2]) (.int .i64 0)).run Tryz.prog V=.ok (.agg #[.string x.f3.f0,.int .i64 x.f3.f1.f0,.int .i64 x.f3.f1.f1,.string x.f3.f1.f2]) V:=fun _=>by kernel_rfl
      by_cases hjn:0<n
      · have e1:decide ((0:Int)<(n:Int))=true:=decide_eq_true (by omega);have e2:decide (0<n)=true:=decide_eq_true hjn;have e3:decide ((n:Int)≤0)=false:=decide_eq_false (by omega);have e4:decide (n≤0)=false:=decide_eq_false (by omega);have HCK:=z00.mk (show chkB x n 0=!(termL x.f3).isEmpty from if_pos hjn)
        go_wp2_with fail
        refine(HT0.out _ (HLW2.out.below (z06 HB2.out HB2.out.size (z02 (Below.refl _ _) _)))).mono ?_;rintro e V ⟨rfl,hb⟩;have HB3:=z00.mk (z06 HB2.out HB2.out.size (z06 ((Below.refl wr.heap.size wr).alloc (Nat.le_refl _) _) (by simp) hb));clear hb;obtain⟨b,hbE⟩:∃b,baL (termL x.f3)=b:=⟨_,rfl⟩
        rw[hbE]
        by_cases hs0:termL x.f3=[]
        · have e5:(b.toList==([]:List UInt8))=true:=by rw[←hbE,hs0,z17];exact beq_self_eq_true _
          have e6:(b.toList==(⟨#[]⟩:ByteArray).toList)=true:=by rw[←hbE,hs0];exact beq_self_eq_true _
          have HF:=z00.mk (HRN.out 0 (by decide) (by rw[HCK.out,hs0];rfl));clear hbE hs0;go_wp2
          go_ret
          exact⟨by rw[HF.out];rfl,z06 HWB.out HWB.out.size HB3.out⟩
        · have e5:(b.toList==([]:List UInt8))=false:=by rw[beq_eq_false_iff_ne,←hbE,z17];exact hs0
          have e6:(b.toList==(⟨#[]⟩:ByteArray).toList)=false:=by rw[beq_eq_false_iff_ne,←hbE,z17];exact fun h=>hs0 (h.trans z1v)
          have HC2:=z00.mk (show ∀j,j<1→chkB x n j=true from fun j hj=>by
           rcases Nat.lt_succ_iff_lt_or_eq.1 hj with h|rfl
           · exact HCS.out j h
           · rw[HCK.out];cases hh:termL x.f3 with
             |nil=>exact absurd hh hs0
             |cons _ _=>rfl)
          clear hbE hs0;go_wp2
          go_roundg k1
          case rel=>exact⟨1,by go_num,by omega,by omega,HC2,HB3⟩
          case measure=>omega
      · obtain rfl:n=0:=by omega
        have HCK:=z00.mk (show chkB x 0 0=z59 x.f3 from rfl);have HB3:=z00.mk (z06 HB2.out HB2.out.size (z02 (Below.refl wr.heap.size wr) (.cells #[.string x.f3.f0,.int .i64 x.f3.f1.f0,.int .i64 x.f3.f1.f1,.string x.f3.f1.f2] 60)));obtain⟨bn,hbn⟩:∃b,z59 x.f3=b:=⟨_,rfl⟩
        have hbn2:(x.f3.f0.toList.isEmpty&&(x.f3.f1.f0==0&&(x.f3.f1.f1==0&&x.f3.f1.f2.toList.isEmpty)))=bn:=by
         rw[←hbn];unfold z59 z6c;rw[z50,z50]
        rw[hbn]at HCK;clear hbn
        cases bn with
        |false =>
         have HF:=z00.mk (HRN.out 0 (by decide) HCK.out);go_wp2
         go_ret
         exact⟨by rw[HF.out];rfl,z06 HWB.out HWB.out.size HB3.out⟩
        |true =>
         have HC2:=z00.mk (show ∀j,j<1→chkB x 0 j=true from fun j hj=>by
          rcases Nat.lt_succ_iff_lt_or_eq.1 hj with h|rfl
          · exact HCS.out j h
          · exact HCK.out)
         go_wp2
         go_roundg k1
         case rel=>exact⟨1,by go_num,by omega,by omega,HC2,HB3⟩
         case measure=>omega
    · have hix:∀V:World,(Instr.index 153 (.agg #[.string x.f3.f0,.int .i64 x.f3.f1.f0,.int .i64 x.f3.f1.f1,.string x.f3.f1.f2,.string x.f4.f0,.int .i64 x.f4.f1.f0,.int .i64 x.f4.f1.f1,.string x.f4.f1.f2,.string x.f5.f0,.int .i64 x.f5.f1.f0,.int .i64 x.f5.f1.f1,.string x.f5.f1.f2]) (.int .i64 1)).run Tryz.prog V=.ok (.agg #[.string x.f4.f0,.int .i64 x.f4.f1.f0,.int .i64 x.f4.f1.f1,.string x.f4.f1.f2]) V:=fun _=>by kernel_rfl
      by_cases hjn:1<n
      · have e1:decide ((1:Int)<(n:Int))=true:=decide_eq_true (by omega);have e2:decide (1<n)=true:=decide_eq_true hjn;have e3:decide ((n:Int)≤1)=false:=decide_eq_false (by omega);have e4:decide (n≤1)=false:=decide_eq_false (by omega);have HCK:=z00.mk (show chkB x n 1=!(termL x.f4).isEmpty from if_pos hjn)
        go_wp2_with fail
        refine(HT1.out _ (HLW2.out.below (z06 HB2.out HB2.out.size (z02 (Below.refl _ _) _)))).mono ?_;rintro e V ⟨rfl,hb⟩;have HB3:=z00.mk (z06 HB2.out HB2.out.size (z06 ((Below.refl wr.heap.size wr).alloc (Nat.le_refl _) _) (by simp) hb));clear hb;obtain⟨b,hbE⟩:∃b,baL (termL x.f4)=b:=⟨_,rfl⟩
        rw[hbE]
        by_cases hs0:termL x.f4=[]
        · have e5:(b.toList==([]:List UInt8))=true:=by rw[←hbE,hs0,z17];exact beq_self_eq_true _
          have e6:(b.toList==(⟨#[]⟩:ByteArray).toList)=true:=by rw[←hbE,hs0];exact beq_self_eq_true _
          have HF:=z00.mk (HRN.out 1 (by decide) (by rw[HCK.out,hs0];rfl));clear hbE hs0;go_wp2
          go_ret
          exact⟨by rw[HF.out];rfl,z06 HWB.out HWB.out.size HB3.out⟩
        · have e5:(b.toList==([]:List UInt8))=false:=by rw[beq_eq_false_iff_ne,←hbE,z17];exact hs0
          have e6:(b.toList==(⟨#[]⟩:ByteArray).toList)=false:=by rw[beq_eq_false_iff_ne,←hbE,z17];exact fun h=>hs0 (h.trans z1v)
          have HC2:=z00.mk (show ∀j,j<2→chkB x n j=true from fun j hj=>by
           rcases Nat.lt_succ_iff_lt_or_eq.1 hj with h|rfl
           · exact HCS.out j h
           · rw[HCK.out];cases hh:termL x.f4 with
             |nil=>exact absurd hh hs0
             |cons _ _=>rfl)
          clear hbE hs0;go_wp2
          go_roundg k1
          case rel=>exact⟨2,by go_num,by omega,by omega,HC2,HB3⟩
          case measure=>omega
      · have e1:decide ((1:Int)<(n:Int))=false:=decide_eq_false (by omega);have e2:decide (1<n)=false:=decide_eq_false hjn;have e3:decide ((n:Int)≤1)=true:=decide_eq_true (by omega);have e4:decide (n≤1)=true:=decide_eq_true (by omega);have HCK:=z00.mk (show chkB x n 1=z59 x.f4 from if_neg hjn);have HB3:=z00.mk (z06 HB2.out HB2.out.size (z02 (Below.refl wr.heap.size wr) (.cells #[.string x.f4.f0,.int .i64 x.f4.f1.f0,.int .i64 x.f4.f1.f1,.string x.f4.f1.f2] 60)));obtain⟨bn,hbn⟩:∃b,z59 x.f4=b:=⟨_,rfl⟩
        have hbn2:(x.f4.f0.toList.isEmpty&&(x.f4.f1.f0==0&&(x.f4.f1.f1==0&&x.f4.f1.f2.toList.isEmpty)))=bn:=by
         rw[←hbn];unfold z59 z6c;rw[z50,z50]
        rw[hbn]at HCK;clear hbn
        cases bn with
        |false =>
         have HF:=z00.mk (HRN.out 1 (by decide) HCK.out);go_wp2
         go_ret
         exact⟨by rw[HF.out];rfl,z06 HWB.out HWB.out.size HB3.out⟩
        |true =>
         have HC2:=z00.mk (show ∀j,j<2→chkB x n j=true from fun j hj=>by
          rcases Nat.lt_succ_iff_lt_or_eq.1 hj with h|rfl
          · exact HCS.out j h
          · exact HCK.out)
         go_wp2
         go_roundg k1
         case rel=>exact⟨2,by go_num,by omega,by omega,HC2,HB3⟩
         case measure=>omega
    · have hix:∀V:World,(Instr.index 153 (.agg #[.string x.f3.f0,.int .i64 x.f3.f1.f0,.int .i64 x.f3.f1.f1,.string x.f3.f1.f2,.string x.f4.f0,.int .i64 x.f4.f1.f0,.int .i64 x.f4.f1.f1,.string x.f4.f1.f2,.string x.f5.f0,.int .i64 x.f5.f1.f0,.int .i64 x.f5.f1.f1,.string x.f5.f1.f2]) (.int .i64 2)).run Tryz.prog V=.ok (.agg #[.string x.f5.f0,.int .i64 x.f5.f1.f0,.int .i64 x.f5.f1.f1,.string x.f5.f1.f2]) V:=fun _=>by kernel_rfl
      by_cases hjn:2<n
      · have e1:decide ((2:Int)<(n:Int))=true:=decide_eq_true (by omega);have e2:decide (2<n)=true:=decide_eq_true hjn;have e3:decide ((n:Int)≤2)=false:=decide_eq_false (by omega);have e4:decide (n≤2)=false:=decide_eq_false (by omega);have HCK:=z00.mk (show chkB x n 2=!(termL x.f5).isEmpty from if_pos hjn)
        go_wp2_with fail
        refine(HT2.out _ (HLW2.out.below (z06 HB2.out HB2.out.size (z02 (Below.refl _ _) _)))).mono ?_;rintro e V ⟨rfl,hb⟩;have HB3:=z00.mk (z06 HB2.out HB2.out.size (z06 ((Below.refl wr.heap.size wr).alloc (Nat.le_refl _) _) (by simp) hb));clear hb;obtain⟨b,hbE⟩:∃b,baL (termL x.f5)=b:=⟨_,rfl⟩
        rw[hbE]
        by_cases hs0:termL x.f5=[]
        · have e5:(b.toList==([]:List UInt8))=true:=by rw[←hbE,hs0,z17];exact beq_self_eq_true _
          have e6:(b.toList==(⟨#[]⟩:ByteArray).toList)=true:=by rw[←hbE,hs0];exact beq_self_eq_true _
          have HF:=z00.mk (HRN.out 2 (by decide) (by rw[HCK.out,hs0];rfl));clear hbE hs0;go_wp2
          go_ret
          exact⟨by rw[HF.out];rfl,z06 HWB.out HWB.out.size HB3.out⟩
        · have e5:(b.toList==([]:List UInt8))=false:=by rw[beq_eq_false_iff_ne,←hbE,z17];exact hs0
          have e6:(b.toList==(⟨#[]⟩:ByteArray).toList)=false:=by rw[beq_eq_false_iff_ne,←hbE,z17];exact fun h=>hs0 (h.trans z1v)
          have HC2:=z00.mk (show ∀j,j<3→chkB x n j=true from fun j hj=>by
           rcases Nat.lt_succ_iff_lt_or_eq.1 hj with h|rfl
           · exact HCS.out j h
           · rw[HCK.out];cases hh:termL x.f5 with
             |nil=>exact absurd hh hs0
             |cons _ _=>rfl)
          clear hbE hs0;go_wp2
          go_roundg k1
          case rel=>exact⟨3,by go_num,by omega,by omega,HC2,HB3⟩
          case measure=>omega
      · have e1:decide ((2:Int)<(n:Int))=false:=decide_eq_false (by omega);have e2:decide (2<n)=false:=decide_eq_false hjn;have e3:decide ((n:Int)≤2)=true:=decide_eq_true (by omega);have e4:decide (n≤2)=true:=decide_eq_true (by omega);have HCK:=z00.mk (show chkB x n 2=z59 x.f5 from if_neg hjn);have HB3:=z00.mk (z06 HB2.out HB2.out.size (z02 (Below.refl wr.heap.size wr) (.cells #[.string x.f5.f0,.int .i64 x.f5.f1.f0,.int .i64 x.f5.f1.f1,.string x.f5.f1.f2] 60)));obtain⟨bn,hbn⟩:∃b,z59 x.f5=b:=⟨_,rfl⟩
        have hbn2:(x.f5.f0.toList.isEmpty&&(x.f5.f1.f0==0&&(x.f5.f1.f1==0&&x.f5.f1.f2.toList.isEmpty)))=bn:=by
         rw[←hbn];unfold z59 z6c;rw[z50,z50]
        rw[hbn]at HCK;clear hbn
        cases bn with
        |false =>
         have HF:=z00.mk (HRN.out 2 (by decide) HCK.out);go_wp2
         go_ret
         exact⟨by rw[HF.out];rfl,z06 HWB.out HWB.out.size HB3.out⟩
        |true =>
         have HC2:=z00.mk (show ∀j,j<3→chkB x n j=true from fun j hj=>by
          rcases Nat.lt_succ_iff_lt_or_eq.1 hj with h|rfl
          · exact HCS.out j h
          · exact HCK.out)
         go_wp2
         go_roundg k1
         case rel=>exact⟨3,by go_num,by omega,by omega,HC2,HB3⟩
         case measure=>omega
  · obtain rfl:i=3:=by omega
    have HY:=z00.mk (show r=((a||((x.f1.f0.toList==([]:List UInt8))&&(x.f1.f1.length==0)))&&((o||(x.f2.toList==([]:List UInt8)))&&(p||(x.f6.length==0))))from HRY.out HCS.out);have HBZ:=z00.mk (z06 HWB.out HWB.out.size HB2.out);have hN3:=z0a HN.out HB2.out;have d1:wr.cell? ⟨nb,1,none⟩=some (.string x.f1.f0):=(z01 hN3 1).trans rfl;have d2:wr.cell? ⟨nb,2,none⟩=some (.slice A2 x.f1.f1.length c2):=(z01 hN3 2).trans rfl;have d3:wr.cell? ⟨nb,3,none⟩=some (.string x.f2):=(z01 hN3 3).trans rfl;have d16:wr.cell? ⟨nb,16,none⟩=some (.slice A16 x.f6.length c16):=(z01 hN3 16).trans rfl;obtain⟨b1,hb1⟩:∃b,(x.f1.f0.toList==([]:List UInt8))=b:=⟨_,rfl⟩
    obtain⟨b2,hb2⟩:∃b,(x.f1.f1.length==0)=b:=⟨_,rfl⟩
    obtain⟨b3,hb3⟩:∃b,(x.f2.toList==([]:List UInt8))=b:=⟨_,rfl⟩
    obtain⟨b4,hb4⟩:∃b,(x.f6.length==0)=b:=⟨_,rfl⟩
    rw[hb1,hb2,hb3,hb4]at HY;have hc1:(x.f1.f0.toList==(⟨#[]⟩:ByteArray).toList)=b1:=by rw[z1v];exact hb1
    have hc3:(x.f2.toList==(⟨#[]⟩:ByteArray).toList)=b3:=by rw[z1v];exact hb3
    have hc2:((x.f1.f1.length:Int)==0)=b2:=by rw[←hb2];exact zl1 _
    have hc4:((x.f6.length:Int)==0)=b4:=by rw[←hb4];exact zl1 _
    clear HRN HRY HCS HT0 HT1 HT2 HB2 hN3 HN HW HX HLW2 HWB;have hc:=HC.out;rcases hc with ⟨rfl,rfl,rfl⟩|⟨rfl,rfl,rfl⟩|⟨rfl,rfl,rfl⟩
    · clear hb1 hb2 hc1 hc2 d1 d2
      cases b3
      all_goals
       cases b4
       all_goals
        go_wp2
        go_ret
        exact⟨by rw[HY.out];simp,HBZ.out⟩
    · clear hb3 hc3 d3
      cases b1
      all_goals
       cases b2
       all_goals
        cases b4
        all_goals
         go_wp2
         go_ret
         exact⟨by rw[HY.out];simp,HBZ.out⟩
    · clear hb4 hc4 d16
      cases b1
      all_goals
       cases b2
       all_goals
        cases b3
        all_goals
         go_wp2
         go_ret
         exact⟨by rw[HY.out];simp,HBZ.out⟩
end Go.Proofs.YthebhbomlllpeaaGreatDoor.X
namespace Go.Proofs.YthebhbomlllpeaaGreatDoor.X
open Go.RowKit Go.Proofs.YthebhbomlllpeaaGreatDoorW.PrintWords Go.Proofs.YthebhbomlllpeaaGreatDoorW.PrintLast Go.Proofs.YthebhbomlllpeaaGreatDoorW.PrintMore
attribute [local go_sem ↓] Go.wp_at_zero Go.wp_at_succ
theorem emp_t {l:List UInt8} {b:ByteArray} (h:baL l=b) (he:l=[]):(b.toList==([]:List UInt8))=true∧(b.toList==(⟨#[]⟩:ByteArray).toList)=true∧(b.toList !=([]:List UInt8))=false∧(b.toList !=(⟨#[]⟩:ByteArray).toList)=false:=by
 subst h he;exact⟨by rw[z17];rfl,beq_self_eq_true _,by rw[z17];rfl,bne_self_eq_false _⟩
theorem emp_f {l:List UInt8} {b:ByteArray} (h:baL l=b) (he:l≠[]):(b.toList==([]:List UInt8))=false∧(b.toList==(⟨#[]⟩:ByteArray).toList)=false∧(b.toList !=([]:List UInt8))=true∧(b.toList !=(⟨#[]⟩:ByteArray).toList)=true:=by
 subst h;have h1:(baL l).toList≠[]:=by rw[z17];exact he
 exact⟨beq_eq_false_iff_ne.2 h1,beq_eq_false_iff_ne.2 (by rw[z1v];exact h1),bne_iff_ne.2 h1,bne_iff_ne.2 (by rw[z1v];exact h1)⟩
def rpB (l:List StS):Bool:=!(pathL l).isEmpty
set_option maxHeartbeats 4000000 in
set_option maxRecDepth 100000 in
theorem z3c (l:List StS) (A:Option Addr) (c:Nat) (w:World) (hLW:LaidW w) (hC:Kd.C k69 w A l.length l) (hl:∀x ∈ l,x.f1.size≤9223372036854775807) (hl63:l.length≤140737488355328) :
 Calls Tryz.prog 27 #[.slice A l.length c] w fun e w'=>e=.returned (.bool (rpB l))∧Below w.heap.size w w':=by
 have HP:=z00.mk (z57 l A c w hLW hC hl hl63);obtain⟨r,hr⟩:∃r,rpB l=r:=⟨_,rfl⟩
 have HR:=z00.mk hr;rw[hr];clear hC hl hLW hr;go_enter Tryz.func27,Tryz.ntmps27
 go_wp2_with fail
 refine HP.out.mono ?_;rintro e w1 ⟨rfl,hb⟩;have HB1:=z00.mk hb;clear hb;obtain⟨b,hbE⟩:∃b,baL (pathL l)=b:=⟨_,rfl⟩
 rw[hbE]
 by_cases he:pathL l=[]
 · obtain⟨e1,e2,e3,e4⟩:=emp_t hbE he;have HF:=z00.mk (show r=false by rw[←HR.out];unfold rpB;rw[he];rfl);clear hbE he;go_wp2
   go_ret
   exact⟨by rw[HF.out];rfl,HB1.out⟩
 · obtain⟨e1,e2,e3,e4⟩:=emp_f hbE he;have HF:=z00.mk (show r=true by
    rw[←HR.out];unfold rpB
    cases hh:pathL l with
    |nil=>exact absurd hh he
    |cons _ _=>rfl)
   clear hbE he;go_wp2
   go_ret
   exact⟨by rw[HF.out];rfl,HB1.out⟩
theorem neB {l:List UInt8} (h:l≠[]):(!l.isEmpty)=true:=by
 cases l with
 |nil=>exact absurd rfl h
 |cons _ _=>rfl
theorem zlt {l:List UInt8} (h:(!l.isEmpty)=true):l≠[]:=fun e=>by rw[e]at h;cases h
theorem z5y (s:List UInt8):(wordL s).length≤7:=by
 unfold wordL
 repeat' split
 all_goals simp
theorem zee {s:List UInt8} (h:compB s=true):s.length≤2:=by
 unfold compB at h;simp only[Bool.or_eq_true,beq_iff_eq]at h;rcases h with rfl|rfl|rfl|rfl <;> simp
theorem zbu (s:ByteArray):z4g.f s=some (baL (wordL s.data.toList)):=by
 unfold z4g.f wordL;rw[z2z]
 by_cases h1:s.data.toList=[43]
 · rw[if_pos h1,if_pos h1]
 · rw[if_neg h1,if_neg h1]
   by_cases h2:s.data.toList=[45]
   · rw[if_pos h2,if_pos h2]
   · rw[if_neg h2,if_neg h2]
     by_cases h3:s.data.toList=[42]
     · rw[if_pos h3,if_pos h3]
     · rw[if_neg h3,if_neg h3]
set_option maxHeartbeats 8000000 in
set_option maxRecDepth 100000 in
theorem zlr (x:LtS) (A2:Option Addr) (c2:Nat) (A16:Option Addr) (c16:Nat) (j:Int) (w:World) (hLW:LaidW w) (hx:okL x) (hA2:Kd.C k60 w A2 x.f1.f1.length x.f1.f1) (hA16:Kd.C k69 w A16 x.f6.length x.f6) (hk:x.f0≠1∧x.f0≠2∧x.f0≠3∧x.f0≠4∧x.f0≠5) :
 Calls Tryz.prog 44 #[.int .i64 j,.agg (litC x A2 c2 A16 c16)] w fun e w'=>e=.returned (.string (baL (litL x)))∧Below w.heap.size w w':=by
 obtain⟨nb,enb⟩:∃n,w.heap.size=n:=⟨_,rfl⟩
 obtain⟨W,hW⟩:∃W,w.alloc (.cells (litC x A2 c2 A16 c16) 62)=W:=⟨_,rfl⟩
 have hBW:Below w.heap.size w W:=hW ▸ z02 (Below.refl w.heap.size w) (.cells (litC x A2 c2 A16 c16) 62);have hN:=z0l w (.cells (litC x A2 c2 A16 c16) 62);rw[enb,hW]at hN;have HAT:=z00.mk (z5a x.f1 A2 c2 W (hLW.below hBW) (Kd.C_below hA2 hBW) hx.1);have HPA:=z00.mk (fun(V:World) (h:Below w.heap.size w V)=>z57 x.f6 A16 c16 V (hLW.below h) (Kd.C_below hA16 h) hx.2.2.2.2.1 hx.2.2.2.2.2.1);have HRP:=z00.mk (fun(V:World) (h:Below w.heap.size w V)=>z3c x.f6 A16 c16 V (hLW.below h) (Kd.C_below hA16 h) hx.2.2.2.2.1 hx.2.2.2.2.2.1);have HRS:=z00.mk (fun(n:Nat) (hn:n≤3) (a o p:Bool) (hc:(a=true∧o=false∧p=false)∨(a=false∧o=true∧p=false)∨(a=false∧o=false∧p=true)) (V:World) (h:LaidW V)=>z6m x A2 c2 A16 c16 n hn a o p hc V h hx);have HTA:=z00.mk (fun V (h:LaidW V)=>z2a x.f3 V h hx.2.1);have HTB:=z00.mk (fun V (h:LaidW V)=>z2a x.f4 V h hx.2.2.1);have HTC:=z00.mk (fun V (h:LaidW V)=>z2a x.f5 V h hx.2.2.2.1);have HWD:=z00.mk (fun V=>z4g.calls x.f2 (baL (wordL x.f2.data.toList)) V (zbu x.f2));have hla:=z23 x.f3 hx.2.1;have hlb:=z23 x.f4 hx.2.2.1;have hlc:=z23 x.f5 hx.2.2.2.1;have hlp:=z64 x.f6;have hlw:=z5y x.f2.data.toList;have hat:=z5i x.f1 0 hx.1;obtain⟨res,hres⟩:∃r,litL x=r:=⟨_,rfl⟩
 have HRE:=z00.mk hres;have HLW:=z00.mk hLW;have HBW:=z00.mk hBW;have HN:=z00.mk hN;rw[hres];simp only[litC]at HAT HRS HN hW ⊢;have HW:=z00.mk hW;have d1:W.cell? ⟨nb,1,none⟩=some (.string x.f1.f0):=(z01 HN.out 1).trans rfl;have d2:W.cell? ⟨nb,2,none⟩=some (.slice A2 x.f1.f1.length c2):=(z01 HN.out 2).trans rfl;have k1:(x.f0==1)=false:=beq_eq_false_iff_ne.2 (hk.1);have k2:(x.f0==2)=false:=beq_eq_false_iff_ne.2 (hk.2.1);have k3:(x.f0==3)=false:=beq_eq_false_iff_ne.2 (hk.2.2.1);have k4:(x.f0==4)=false:=beq_eq_false_iff_ne.2 (hk.2.2.2.1);have k5:(x.f0==5)=false:=beq_eq_false_iff_ne.2 (hk.2.2.2.2);have HK:=z00.mk hk;clear hk hLW hx hA2 hA16 hres hBW hN hla hlb hlc hlp hlw hat;go_enter Tryz.func44,Tryz.ntmps44
 go_wp2_with fail
 refine HAT.out.mono ?_;rintro e w1 ⟨rfl,hb⟩;have HB1:=z00.mk (z06 HBW.out HBW.out.size hb);have HN1:=z00.mk (z0a HN.out hb);clear hb hW d1 d2 HAT enb;have d0:w1.cell? ⟨nb,0,none⟩=some (.int .i64 x.f0):=(z01 HN1.out 0).trans rfl;have d1:w1.cell? ⟨nb,1,none⟩=some (.string x.f1.f0):=(z01 HN1.out 1).trans rfl;have d2:w1.cell? ⟨nb,2,none⟩=some (.slice A2 x.f1.f1.length c2):=(z01 HN1.out 2).trans rfl;have d3:w1.cell? ⟨nb,3,none⟩=some (.string x.f2):=(z01 HN1.out 3).trans rfl;have d4:w1.cell? ⟨nb,4,none⟩=some (.string x.f3.f0):=(z01 HN1.out 4).trans rfl;have d5:w1.cell? ⟨nb,5,none⟩=some (.int .i64 x.f3.f1.f0):=(z01 HN1.out 5).trans rfl;have d6:w1.cell? ⟨nb,6,none⟩=some (.int .i64 x.f3.f1.f1):=(z01 HN1.out 6).trans rfl;have d7:w1.cell? ⟨nb,7,none⟩=some (.string x.f3.f1.f2):=(z01 HN1.out 7).trans rfl;have d8:w1.cell? ⟨nb,8,none⟩=some (.string x.f4.f0):=(z01 HN1.out 8).trans rfl;have d9:w1.cell? ⟨nb,9,none⟩=some (.int .i64 x.f4.f1.f0):=(z01 HN1.out 9).trans rfl;have d10:w1.cell? ⟨nb,10,none⟩=some (.int .i64 x.f4.f1.f1):=(z01 HN1.out 10).trans rfl;have d11:w1.cell? ⟨nb,11,none⟩=some (.string x.f4.f1.f2):=(z01 HN1.out 11).trans rfl;have d12:w1.cell? ⟨nb,12,none⟩=some (.string x.f5.f0):=(z01 HN1.out 12).trans rfl;have d13:w1.cell? ⟨nb,13,none⟩=some (.int .i64 x.f5.f1.f0):=(z01 HN1.out 13).trans rfl;have d14:w1.cell? ⟨nb,14,none⟩=some (.int .i64 x.f5.f1.f1):=(z01 HN1.out 14).trans rfl;have d15:w1.cell? ⟨nb,15,none⟩=some (.string x.f5.f1.f2):=(z01 HN1.out 15).trans rfl;have d16:w1.cell? ⟨nb,16,none⟩=some (.slice A16 x.f6.length c16):=(z01 HN1.out 16).trans rfl;obtain⟨atx,hatx⟩:∃b,baL (atomL x.f1)=b:=⟨_,rfl⟩
 rw[hatx];have HE:=z00.mk (show res=[] by have hk:=HK.out;rw[←HRE.out];unfold litL;rw[if_neg (fun h=>hk.1 h.1),if_neg (fun h=>hk.2.1 h.1),if_neg (fun h=>hk.2.2.1 h.1),if_neg (fun h=>hk.2.2.2.1 h.1),if_neg (fun h=>hk.2.2.2.2 h.1)]);go_wp2
 go_ret
 exact⟨by rw[HE.out];rfl,HB1.out⟩
set_option maxHeartbeats 8000000 in
set_option maxRecDepth 100000 in
theorem zmp (x:LtS) (A2:Option Addr) (c2:Nat) (A16:Option Addr) (c16:Nat) (j:Int) (w:World) (hLW:LaidW w) (hx:okL x) (hA2:Kd.C k60 w A2 x.f1.f1.length x.f1.f1) (hA16:Kd.C k69 w A16 x.f6.length x.f6) (hk:x.f0=1) :
 Calls Tryz.prog 44 #[.int .i64 j,.agg (litC x A2 c2 A16 c16)] w fun e w'=>e=.returned (.string (baL (litL x)))∧Below w.heap.size w w':=by
 obtain⟨nb,enb⟩:∃n,w.heap.size=n:=⟨_,rfl⟩
 obtain⟨W,hW⟩:∃W,w.alloc (.cells (litC x A2 c2 A16 c16) 62)=W:=⟨_,rfl⟩
 have hBW:Below w.heap.size w W:=hW ▸ z02 (Below.refl w.heap.size w) (.cells (litC x A2 c2 A16 c16) 62);have hN:=z0l w (.cells (litC x A2 c2 A16 c16) 62);rw[enb,hW]at hN;have HAT:=z00.mk (z5a x.f1 A2 c2 W (hLW.below hBW) (Kd.C_below hA2 hBW) hx.1);have HPA:=z00.mk (fun(V:World) (h:Below w.heap.size w V)=>z57 x.f6 A16 c16 V (hLW.below h) (Kd.C_below hA16 h) hx.2.2.2.2.1 hx.2.2.2.2.2.1);have HRP:=z00.mk (fun(V:World) (h:Below w.heap.size w V)=>z3c x.f6 A16 c16 V (hLW.below h) (Kd.C_below hA16 h) hx.2.2.2.2.1 hx.2.2.2.2.2.1);have HRS:=z00.mk (fun(n:Nat) (hn:n≤3) (a o p:Bool) (hc:(a=true∧o=false∧p=false)∨(a=false∧o=true∧p=false)∨(a=false∧o=false∧p=true)) (V:World) (h:LaidW V)=>z6m x A2 c2 A16 c16 n hn a o p hc V h hx);have HTA:=z00.mk (fun V (h:LaidW V)=>z2a x.f3 V h hx.2.1);have HTB:=z00.mk (fun V (h:LaidW V)=>z2a x.f4 V h hx.2.2.1);have HTC:=z00.mk (fun V (h:LaidW V)=>z2a x.f5 V h hx.2.2.2.1);have HWD:=z00.mk (fun V=>z4g.calls x.f2 (baL (wordL x.f2.data.toList)) V (zbu x.f2));have hla:=z23 x.f3 hx.2.1;have hlb:=z23 x.f4 hx.2.2.1;have hlc:=z23 x.f5 hx.2.2.2.1;have hlp:=z64 x.f6;have hlw:=z5y x.f2.data.toList;have hat:=z5i x.f1 0 hx.1;obtain⟨res,hres⟩:∃r,litL x=r:=⟨_,rfl⟩
 have HRE:=z00.mk hres;have HLW:=z00.mk hLW;have HBW:=z00.mk hBW;have HN:=z00.mk hN;rw[hres];simp only[litC]at HAT HRS HN hW ⊢;have HW:=z00.mk hW;have d1:W.cell? ⟨nb,1,none⟩=some (.string x.f1.f0):=(z01 HN.out 1).trans rfl;have d2:W.cell? ⟨nb,2,none⟩=some (.slice A2 x.f1.f1.length c2):=(z01 HN.out 2).trans rfl;have k1:(x.f0==1)=true:=beq_iff_eq.2 hk;have k2:(x.f0==2)=false:=beq_eq_false_iff_ne.2 (by omega);have k3:(x.f0==3)=false:=beq_eq_false_iff_ne.2 (by omega);have k4:(x.f0==4)=false:=beq_eq_false_iff_ne.2 (by omega);have k5:(x.f0==5)=false:=beq_eq_false_iff_ne.2 (by omega);have HK:=z00.mk hk;clear hk hLW hx hA2 hA16 hres hBW hN hla hlb hlc hlp hlw hat;go_enter Tryz.func44,Tryz.ntmps44
 go_wp2_with fail
 refine HAT.out.mono ?_;rintro e w1 ⟨rfl,hb⟩;have HB1:=z00.mk (z06 HBW.out HBW.out.size hb);have HN1:=z00.mk (z0a HN.out hb);clear hb hW d1 d2 HAT enb;have d0:w1.cell? ⟨nb,0,none⟩=some (.int .i64 x.f0):=(z01 HN1.out 0).trans rfl;have d1:w1.cell? ⟨nb,1,none⟩=some (.string x.f1.f0):=(z01 HN1.out 1).trans rfl;have d2:w1.cell? ⟨nb,2,none⟩=some (.slice A2 x.f1.f1.length c2):=(z01 HN1.out 2).trans rfl;have d3:w1.cell? ⟨nb,3,none⟩=some (.string x.f2):=(z01 HN1.out 3).trans rfl;have d4:w1.cell? ⟨nb,4,none⟩=some (.string x.f3.f0):=(z01 HN1.out 4).trans rfl;have d5:w1.cell? ⟨nb,5,none⟩=some (.int .i64 x.f3.f1.f0):=(z01 HN1.out 5).trans rfl;have d6:w1.cell? ⟨nb,6,none⟩=some (.int .i64 x.f3.f1.f1):=(z01 HN1.out 6).trans rfl;have d7:w1.cell? ⟨nb,7,none⟩=some (.string x.f3.f1.f2):=(z01 HN1.out 7).trans rfl;have d8:w1.cell? ⟨nb,8,none⟩=some (.string x.f4.f0):=(z01 HN1.out 8).trans rfl;have d9:w1.cell? ⟨nb,9,none⟩=some (.int .i64 x.f4.f1.f0):=(z01 HN1.out 9).trans rfl;have d10:w1.cell? ⟨nb,10,none⟩=some (.int .i64 x.f4.f1.f1):=(z01 HN1.out 10).trans rfl;have d11:w1.cell? ⟨nb,11,none⟩=some (.string x.f4.f1.f2):=(z01 HN1.out 11).trans rfl;have d12:w1.cell? ⟨nb,12,none⟩=some (.string x.f5.f0):=(z01 HN1.out 12).trans rfl;have d13:w1.cell? ⟨nb,13,none⟩=some (.int .i64 x.f5.f1.f0):=(z01 HN1.out 13).trans rfl;have d14:w1.cell? ⟨nb,14,none⟩=some (.int .i64 x.f5.f1.f1):=(z01 HN1.out 14).trans rfl;have d15:w1.cell? ⟨nb,15,none⟩=some (.string x.f5.f1.f2):=(z01 HN1.out 15).trans rfl;have d16:w1.cell? ⟨nb,16,none⟩=some (.slice A16 x.f6.length c16):=(z01 HN1.out 16).trans rfl;obtain⟨atx,hatx⟩:∃b,baL (atomL x.f1)=b:=⟨_,rfl⟩
 rw[hatx]
 go_wp2_with fail
 refine(HRS.out 0 (by decide) true false false (by decide) _ (HLW.out.below HB1.out)).mono ?_;rintro e w2 ⟨rfl,hb⟩;have HB2:=z00.mk (z06 HB1.out HB1.out.size hb);have HN2:=z00.mk (z0a HN1.out hb);clear hb d0 d1 d2 d3 d4 d5 d6 d7 d8 d9 d10 d11 d12 d13 d14 d15 d16;have d0:w2.cell? ⟨nb,0,none⟩=some (.int .i64 x.f0):=(z01 HN2.out 0).trans rfl;have d3:w2.cell? ⟨nb,3,none⟩=some (.string x.f2):=(z01 HN2.out 3).trans rfl;have d4:w2.cell? ⟨nb,4,none⟩=some (.string x.f3.f0):=(z01 HN2.out 4).trans rfl;have d16:w2.cell? ⟨nb,16,none⟩=some (.slice A16 x.f6.length c16):=(z01 HN2.out 16).trans rfl;obtain⟨rr,hrr⟩:∃b,restB x 0 true false false=b:=⟨_,rfl⟩
 rw[hrr]
 cases rr with
 |false =>
  have HE:=z00.mk (show res=[] by have hk:=HK.out;rw[←HRE.out];unfold litL;rw[if_neg (fun h=>by rw[hrr]at h;cases h.2),if_neg (fun h=>absurd (hk.symm.trans h.1) (by decide)),if_neg (fun h=>absurd (hk.symm.trans h.1) (by decide)),if_neg (fun h=>absurd (hk.symm.trans h.1) (by decide)),if_neg (fun h=>absurd (hk.symm.trans h.1) (by decide))]);clear hrr;go_wp2
  go_ret
  exact⟨by rw[HE.out];rfl,HB2.out⟩
 |true =>
  have HE:=z00.mk (show res=atomL x.f1 by rw[←HRE.out];unfold litL;rw[if_pos ⟨HK.out,hrr⟩]);have HAX:=z00.mk hatx;clear hrr hatx;go_wp2
  go_ret
  exact⟨by rw[HE.out,HAX.out];rfl,HB2.out⟩
set_option maxHeartbeats 8000000 in
set_option maxRecDepth 100000 in
theorem zm9 (x:LtS) (A2:Option Addr) (c2:Nat) (A16:Option Addr) (c16:Nat) (j:Int) (w:World) (hLW:LaidW w) (hx:okL x) (hA2:Kd.C k60 w A2 x.f1.f1.length x.f1.f1) (hA16:Kd.C k69 w A16 x.f6.length x.f6) (hk:x.f0=2) :
 Calls Tryz.prog 44 #[.int .i64 j,.agg (litC x A2 c2 A16 c16)] w fun e w'=>e=.returned (.string (baL (litL x)))∧Below w.heap.size w w':=by
 obtain⟨nb,enb⟩:∃n,w.heap.size=n:=⟨_,rfl⟩
 obtain⟨W,hW⟩:∃W,w.alloc (.cells (litC x A2 c2 A16 c16) 62)=W:=⟨_,rfl⟩
 have hBW:Below w.heap.size w W:=hW ▸ z02 (Below.refl w.heap.size w) (.cells (litC x A2 c2 A16 c16) 62);have hN:=z0l w (.cells (litC x A2 c2 A16 c16) 62);rw[enb,hW]at hN;have HAT:=z00.mk (z5a x.f1 A2 c2 W (hLW.below hBW) (Kd.C_below hA2 hBW) hx.1);have HPA:=z00.mk (fun(V:World) (h:Below w.heap.size w V)=>z57 x.f6 A16 c16 V (hLW.below h) (Kd.C_below hA16 h) hx.2.2.2.2.1 hx.2.2.2.2.2.1);have HRP:=z00.mk (fun(V:World) (h:Below w.heap.size w V)=>z3c x.f6 A16 c16 V (hLW.below h) (Kd.C_below hA16 h) hx.2.2.2.2.1 hx.2.2.2.2.2.1);have HRS:=z00.mk (fun(n:Nat) (hn:n≤3) (a o p:Bool) (hc:(a=true∧o=false∧p=false)∨(a=false∧o=true∧p=false)∨(a=false∧o=false∧p=true)) (V:World) (h:LaidW V)=>z6m x A2 c2 A16 c16 n hn a o p hc V h hx);have HTA:=z00.mk (fun V (h:LaidW V)=>z2a x.f3 V h hx.2.1);have HTB:=z00.mk (fun V (h:LaidW V)=>z2a x.f4 V h hx.2.2.1);have HTC:=z00.mk (fun V (h:LaidW V)=>z2a x.f5 V h hx.2.2.2.1);have HWD:=z00.mk (fun V=>z4g.calls x.f2 (baL (wordL x.f2.data.toList)) V (zbu x.f2));have hla:=z23 x.f3 hx.2.1;have hlb:=z23 x.f4 hx.2.2.1;have hlc:=z23 x.f5 hx.2.2.2.1;have hlp:=z64 x.f6;have hlw:=z5y x.f2.data.toList;have hat:=z5i x.f1 0 hx.1;obtain⟨res,hres⟩:∃r,litL x=r:=⟨_,rfl⟩
 have HRE:=z00.mk hres;have HLW:=z00.mk hLW;have HBW:=z00.mk hBW;have HN:=z00.mk hN;rw[hres];simp only[litC]at HAT HRS HN hW ⊢;have HW:=z00.mk hW;have d1:W.cell? ⟨nb,1,none⟩=some (.string x.f1.f0):=(z01 HN.out 1).trans rfl;have d2:W.cell? ⟨nb,2,none⟩=some (.slice A2 x.f1.f1.length c2):=(z01 HN.out 2).trans rfl;have k1:(x.f0==1)=false:=beq_eq_false_iff_ne.2 (by omega);have k2:(x.f0==2)=true:=beq_iff_eq.2 hk;have k3:(x.f0==3)=false:=beq_eq_false_iff_ne.2 (by omega);have k4:(x.f0==4)=false:=beq_eq_false_iff_ne.2 (by omega);have k5:(x.f0==5)=false:=beq_eq_false_iff_ne.2 (by omega);have HAL:=z00.mk hat;have HK:=z00.mk hk;clear hk hLW hx hA2 hA16 hres hBW hN hla hlb hlc hlp hlw hat;go_enter Tryz.func44,Tryz.ntmps44
 go_wp2_with fail
 refine HAT.out.mono ?_;rintro e w1 ⟨rfl,hb⟩;have HB1:=z00.mk (z06 HBW.out HBW.out.size hb);have HN1:=z00.mk (z0a HN.out hb);clear hb hW d1 d2 HAT enb;have d0:w1.cell? ⟨nb,0,none⟩=some (.int .i64 x.f0):=(z01 HN1.out 0).trans rfl;have d1:w1.cell? ⟨nb,1,none⟩=some (.string x.f1.f0):=(z01 HN1.out 1).trans rfl;have d2:w1.cell? ⟨nb,2,none⟩=some (.slice A2 x.f1.f1.length c2):=(z01 HN1.out 2).trans rfl;have d3:w1.cell? ⟨nb,3,none⟩=some (.string x.f2):=(z01 HN1.out 3).trans rfl;have d4:w1.cell? ⟨nb,4,none⟩=some (.string x.f3.f0):=(z01 HN1.out 4).trans rfl;have d5:w1.cell? ⟨nb,5,none⟩=some (.int .i64 x.f3.f1.f0):=(z01 HN1.out 5).trans rfl;have d6:w1.cell? ⟨nb,6,none⟩=some (.int .i64 x.f3.f1.f1):=(z01 HN1.out 6).trans rfl;have d7:w1.cell? ⟨nb,7,none⟩=some (.string x.f3.f1.f2):=(z01 HN1.out 7).trans rfl;have d8:w1.cell? ⟨nb,8,none⟩=some (.string x.f4.f0):=(z01 HN1.out 8).trans rfl;have d9:w1.cell? ⟨nb,9,none⟩=some (.int .i64 x.f4.f1.f0):=(z01 HN1.out 9).trans rfl;have d10:w1.cell? ⟨nb,10,none⟩=some (.int .i64 x.f4.f1.f1):=(z01 HN1.out 10).trans rfl;have d11:w1.cell? ⟨nb,11,none⟩=some (.string x.f4.f1.f2):=(z01 HN1.out 11).trans rfl;have d12:w1.cell? ⟨nb,12,none⟩=some (.string x.f5.f0):=(z01 HN1.out 12).trans rfl;have d13:w1.cell? ⟨nb,13,none⟩=some (.int .i64 x.f5.f1.f0):=(z01 HN1.out 13).trans rfl;have d14:w1.cell? ⟨nb,14,none⟩=some (.int .i64 x.f5.f1.f1):=(z01 HN1.out 14).trans rfl;have d15:w1.cell? ⟨nb,15,none⟩=some (.string x.f5.f1.f2):=(z01 HN1.out 15).trans rfl;have d16:w1.cell? ⟨nb,16,none⟩=some (.slice A16 x.f6.length c16):=(z01 HN1.out 16).trans rfl;obtain⟨atx,hatx⟩:∃b,baL (atomL x.f1)=b:=⟨_,rfl⟩
 rw[hatx]
 go_wp2_with fail
 refine(HRS.out 0 (by decide) true false false (by decide) _ (HLW.out.below HB1.out)).mono ?_;rintro e w2 ⟨rfl,hb⟩;have HB2:=z00.mk (z06 HB1.out HB1.out.size hb);have HN2:=z00.mk (z0a HN1.out hb);clear hb d0 d1 d2 d3 d4 d5 d6 d7 d8 d9 d10 d11 d12 d13 d14 d15 d16;have d0:w2.cell? ⟨nb,0,none⟩=some (.int .i64 x.f0):=(z01 HN2.out 0).trans rfl;have d3:w2.cell? ⟨nb,3,none⟩=some (.string x.f2):=(z01 HN2.out 3).trans rfl;have d4:w2.cell? ⟨nb,4,none⟩=some (.string x.f3.f0):=(z01 HN2.out 4).trans rfl;have d16:w2.cell? ⟨nb,16,none⟩=some (.slice A16 x.f6.length c16):=(z01 HN2.out 16).trans rfl;obtain⟨rr,hrr⟩:∃b,restB x 0 true false false=b:=⟨_,rfl⟩
 rw[hrr]
 cases rr with
 |false =>
  have HE:=z00.mk (show res=[] by have hk:=HK.out;rw[←HRE.out];unfold litL;rw[if_neg (fun h=>absurd (hk.symm.trans h.1) (by decide)),if_neg (fun h=>by rw[hrr]at h;cases h.2.1),if_neg (fun h=>absurd (hk.symm.trans h.1) (by decide)),if_neg (fun h=>absurd (hk.symm.trans h.1) (by decide)),if_neg (fun h=>absurd (hk.symm.trans h.1) (by decide))]);clear hrr;go_wp2
  go_ret
  exact⟨by rw[HE.out];rfl,HB2.out⟩
 |true =>
  by_cases hae:atomL x.f1=[]
  · obtain⟨e1,e2,e3,e4⟩:=emp_t hatx hae;have HE:=z00.mk (show res=[] by have hk:=HK.out;rw[←HRE.out];unfold litL;rw[if_neg (fun h=>absurd (hk.symm.trans h.1) (by decide)),if_neg (fun h=>h.2.2 hae),if_neg (fun h=>absurd (hk.symm.trans h.1) (by decide)),if_neg (fun h=>absurd (hk.symm.trans h.1) (by decide)),if_neg (fun h=>absurd (hk.symm.trans h.1) (by decide))]);clear hrr hae hatx;go_wp2
    go_ret
    exact⟨by rw[HE.out];rfl,HB2.out⟩
  · obtain⟨e1,e2,e3,e4⟩:=emp_f hatx hae;have HE:=z00.mk (show res=[110,111,116,32]++atomL x.f1 by have hk:=HK.out;rw[←HRE.out];unfold litL;rw[if_neg (fun h=>absurd (hk.symm.trans h.1) (by decide)),if_pos ⟨HK.out,hrr,hae⟩]);have hsz:atx.size≤200000:=by rw[←hatx,z1y];exact HAL.out
    have HAX:=z00.mk hatx;have kq:(9223372036854775807<4+atx.size)=False:=eq_false (by omega);clear hrr hae hatx;go_wp2
    go_ret
    exact⟨by rw[HE.out,←HAX.out];exact z6g (ba_eq (by simp)),HB2.out⟩

def lit7.T:Bool × List (List Nat × List Nat):=(true,[([],[]),([0],[0]),([1],[1]),([2],[2]),([],[]),([4],[4]),([3,5],[3,5]),([6],[6]),([],[]),([8],[8]),([9,2],[9]),([7,10],[7,10]),([11,10,0,1,2,3,4,5,6,7,8,9,10,11],[11])])
def lit7.B:List Nat:=[0,1,3,7,0,16,63,127,0,256,775,2047,4095]
theorem lit7.tab:rtab .any (opsOf Tryz.f44 7)=lit7.T:=by kernel_rfl
theorem lit7.bits:z45 lit7.T.2 lit7.B=true:=by kernel_rfl
set_option maxHeartbeats 8000000 in
set_option maxRecDepth 100000 in
theorem zly (x:LtS) (A2:Option Addr) (c2:Nat) (A16:Option Addr) (c16:Nat) (j:Int) (w:World) (hLW:LaidW w) (hx:okL x) (hA2:Kd.C k60 w A2 x.f1.f1.length x.f1.f1) (hA16:Kd.C k69 w A16 x.f6.length x.f6) (hk:x.f0=3) :
 Calls Tryz.prog 44 #[.int .i64 j,.agg (litC x A2 c2 A16 c16)] w fun e w'=>e=.returned (.string (baL (litL x)))∧Below w.heap.size w w':=by
 obtain⟨nb,enb⟩:∃n,w.heap.size=n:=⟨_,rfl⟩
 obtain⟨W,hW⟩:∃W,w.alloc (.cells (litC x A2 c2 A16 c16) 62)=W:=⟨_,rfl⟩
 have hBW:Below w.heap.size w W:=hW ▸ z02 (Below.refl w.heap.size w) (.cells (litC x A2 c2 A16 c16) 62);have hN:=z0l w (.cells (litC x A2 c2 A16 c16) 62);rw[enb,hW]at hN;have HAT:=z00.mk (z5a x.f1 A2 c2 W (hLW.below hBW) (Kd.C_below hA2 hBW) hx.1);have HPA:=z00.mk (fun(V:World) (h:Below w.heap.size w V)=>z57 x.f6 A16 c16 V (hLW.below h) (Kd.C_below hA16 h) hx.2.2.2.2.1 hx.2.2.2.2.2.1);have HRP:=z00.mk (fun(V:World) (h:Below w.heap.size w V)=>z3c x.f6 A16 c16 V (hLW.below h) (Kd.C_below hA16 h) hx.2.2.2.2.1 hx.2.2.2.2.2.1);have HRS:=z00.mk (fun(n:Nat) (hn:n≤3) (a o p:Bool) (hc:(a=true∧o=false∧p=false)∨(a=false∧o=true∧p=false)∨(a=false∧o=false∧p=true)) (V:World) (h:LaidW V)=>z6m x A2 c2 A16 c16 n hn a o p hc V h hx);have HTA:=z00.mk (fun V (h:LaidW V)=>z2a x.f3 V h hx.2.1);have HTB:=z00.mk (fun V (h:LaidW V)=>z2a x.f4 V h hx.2.2.1);have HTC:=z00.mk (fun V (h:LaidW V)=>z2a x.f5 V h hx.2.2.2.1);have HWD:=z00.mk (fun V=>z4g.calls x.f2 (baL (wordL x.f2.data.toList)) V (zbu x.f2));have hla:=z23 x.f3 hx.2.1;have hlb:=z23 x.f4 hx.2.2.1;have hlc:=z23 x.f5 hx.2.2.2.1;have hlp:=z64 x.f6;have hlw:=z5y x.f2.data.toList;have hat:=z5i x.f1 0 hx.1;obtain⟨res,hres⟩:∃r,litL x=r:=⟨_,rfl⟩
 have HRE:=z00.mk hres;have HLW:=z00.mk hLW;have HBW:=z00.mk hBW;have HN:=z00.mk hN;rw[hres];simp only[litC]at HAT HRS HN hW ⊢;have HW:=z00.mk hW;have d1:W.cell? ⟨nb,1,none⟩=some (.string x.f1.f0):=(z01 HN.out 1).trans rfl;have d2:W.cell? ⟨nb,2,none⟩=some (.slice A2 x.f1.f1.length c2):=(z01 HN.out 2).trans rfl;have k1:(x.f0==1)=false:=beq_eq_false_iff_ne.2 (by omega);have k2:(x.f0==2)=false:=beq_eq_false_iff_ne.2 (by omega);have k3:(x.f0==3)=true:=beq_iff_eq.2 hk;have k4:(x.f0==4)=false:=beq_eq_false_iff_ne.2 (by omega);have k5:(x.f0==5)=false:=beq_eq_false_iff_ne.2 (by omega);have HLN:=z00.mk (And.intro hla (And.intro hlb (And.intro hlc (And.intro hlp hlw))));have HK:=z00.mk hk;clear hk hLW hx hA2 hA16 hres hBW hN hla hlb hlc hlp hlw hat;go_enter Tryz.func44,Tryz.ntmps44
 go_wp2_with fail
 refine HAT.out.mono ?_;rintro e w1 ⟨rfl,hb⟩;have HB1:=z00.mk (z06 HBW.out HBW.out.size hb);have HN1:=z00.mk (z0a HN.out hb);clear hb hW d1 d2 HAT enb;have d0:w1.cell? ⟨nb,0,none⟩=some (.int .i64 x.f0):=(z01 HN1.out 0).trans rfl;have d1:w1.cell? ⟨nb,1,none⟩=some (.string x.f1.f0):=(z01 HN1.out 1).trans rfl;have d2:w1.cell? ⟨nb,2,none⟩=some (.slice A2 x.f1.f1.length c2):=(z01 HN1.out 2).trans rfl;have d3:w1.cell? ⟨nb,3,none⟩=some (.string x.f2):=(z01 HN1.out 3).trans rfl;have d4:w1.cell? ⟨nb,4,none⟩=some (.string x.f3.f0):=(z01 HN1.out 4).trans rfl;have d5:w1.cell? ⟨nb,5,none⟩=some (.int .i64 x.f3.f1.f0):=(z01 HN1.out 5).trans rfl;have d6:w1.cell? ⟨nb,6,none⟩=some (.int .i64 x.f3.f1.f1):=(z01 HN1.out 6).trans rfl;have d7:w1.cell? ⟨nb,7,none⟩=some (.string x.f3.f1.f2):=(z01 HN1.out 7).trans rfl;have d8:w1.cell? ⟨nb,8,none⟩=some (.string x.f4.f0):=(z01 HN1.out 8).trans rfl;have d9:w1.cell? ⟨nb,9,none⟩=some (.int .i64 x.f4.f1.f0):=(z01 HN1.out 9).trans rfl;have d10:w1.cell? ⟨nb,10,none⟩=some (.int .i64 x.f4.f1.f1):=(z01 HN1.out 10).trans rfl;have d11:w1.cell? ⟨nb,11,none⟩=some (.string x.f4.f1.f2):=(z01 HN1.out 11).trans rfl;have d12:w1.cell? ⟨nb,12,none⟩=some (.string x.f5.f0):=(z01 HN1.out 12).trans rfl;have d13:w1.cell? ⟨nb,13,none⟩=some (.int .i64 x.f5.f1.f0):=(z01 HN1.out 13).trans rfl;have d14:w1.cell? ⟨nb,14,none⟩=some (.int .i64 x.f5.f1.f1):=(z01 HN1.out 14).trans rfl;have d15:w1.cell? ⟨nb,15,none⟩=some (.string x.f5.f1.f2):=(z01 HN1.out 15).trans rfl;have d16:w1.cell? ⟨nb,16,none⟩=some (.slice A16 x.f6.length c16):=(z01 HN1.out 16).trans rfl;obtain⟨atx,hatx⟩:∃b,baL (atomL x.f1)=b:=⟨_,rfl⟩
 rw[hatx];obtain⟨cnd,hcn⟩:∃b,(restB x 2 false true false&&compB x.f2.data.toList)=b:=⟨_,rfl⟩
 have HCN0:=z00.mk hcn;have HCN:=z00.mk hcn;clear hcn hatx
 go_upto_region 6 with (fail)
 go_cut [32] (fun v32 wc=>v32=.bool cnd∧z00 (wc.heap[nb]?=some (.cells #[.int .i64 x.f0,.string x.f1.f0,.slice A2 x.f1.f1.length c2,.string x.f2,.string x.f3.f0,.int .i64 x.f3.f1.f0,.int .i64 x.f3.f1.f1,.string x.f3.f1.f2,.string x.f4.f0,.int .i64 x.f4.f1.f0,.int .i64 x.f4.f1.f1,.string x.f4.f1.f2,.string x.f5.f0,.int .i64 x.f5.f1.f0,.int .i64 x.f5.f1.f1,.string x.f5.f1.f2,.slice A16 x.f6.length c16] 62 (0,0)))∧z00 (Below w.heap.size w wc))
 case first =>
  go_wp2_with fail
  refine(HRS.out 2 (by decide) false true false (by decide) _ (HLW.out.below HB1.out)).mono ?_;rintro e w2 ⟨rfl,hb⟩;have HB2:=z00.mk (z06 HB1.out HB1.out.size hb);have HN2:=z00.mk (z0a HN1.out hb);clear hb d0 d1 d2 d3 d4 d5 d6 d7 d8 d9 d10 d11 d12 d13 d14 d15 d16;have d0:w2.cell? ⟨nb,0,none⟩=some (.int .i64 x.f0):=(z01 HN2.out 0).trans rfl;have d3:w2.cell? ⟨nb,3,none⟩=some (.string x.f2):=(z01 HN2.out 3).trans rfl;have d4:w2.cell? ⟨nb,4,none⟩=some (.string x.f3.f0):=(z01 HN2.out 4).trans rfl;have d16:w2.cell? ⟨nb,16,none⟩=some (.slice A16 x.f6.length c16):=(z01 HN2.out 16).trans rfl;obtain⟨rr,hrr⟩:∃b,restB x 2 false true false=b:=⟨_,rfl⟩
  rw[hrr]at HCN ⊢;clear hrr
  cases rr with
  |false =>
   have HC2:=z00.mk (show cnd=false by rw[←HCN.out];rfl);go_wp2;go_meet
   case rel=>exact⟨by first|(rw[HC2.out];done)|(rw[HC2.out];rfl),HN2,HB2⟩
  |true =>
   obtain⟨t1,ht1⟩:∃b,(x.f2.data.toList==([60]:List UInt8))=b:=⟨_,rfl⟩
   obtain⟨t2,ht2⟩:∃b,(x.f2.data.toList==([60,61]:List UInt8))=b:=⟨_,rfl⟩
   obtain⟨t3,ht3⟩:∃b,(x.f2.data.toList==([61]:List UInt8))=b:=⟨_,rfl⟩
   obtain⟨t4,ht4⟩:∃b,(x.f2.data.toList==([33,61]:List UInt8))=b:=⟨_,rfl⟩
   have HC3:=z00.mk (show(t1||(t2||(t3||t4)))=cnd by rw[←ht1,←ht2,←ht3,←ht4];exact HCN.out);have g1:(x.f2.toList==([60]:List UInt8))=t1:=by rw[z2z];exact ht1
   have g2:(x.f2.toList==([60,61]:List UInt8))=t2:=by rw[z2z];exact ht2
   have g3:(x.f2.toList==([61]:List UInt8))=t3:=by rw[z2z];exact ht3
   have g4:(x.f2.toList==([33,61]:List UInt8))=t4:=by rw[z2z];exact ht4
   clear ht1 ht2 ht3 ht4
   cases t1 with
   |true =>
    go_wp2;go_meet
    case rel=>exact⟨by first|(rw[←HC3.out];done)|(rw[←HC3.out];rfl),HN2,HB2⟩
   |false =>
    cases t2 with
    |true =>
     go_wp2;go_meet
     case rel=>exact⟨by first|(rw[←HC3.out];done)|(rw[←HC3.out];rfl),HN2,HB2⟩
    |false =>
     cases t3 with
     |true =>
      go_wp2;go_meet
      case rel=>exact⟨by first|(rw[←HC3.out];done)|(rw[←HC3.out];rfl),HN2,HB2⟩
     |false =>
      cases t4
      all_goals
       go_wp2;go_meet
       case rel=>exact⟨by first|(rw[←HC3.out];done)|(rw[←HC3.out];rfl),HN2,HB2⟩
 case rest =>
  clear HCN HB1 HN1 d0 d1 d2 d3 d4 d5 d6 d7 d8 d9 d10 d11 d12 d13 d14 d15 d16;obtain⟨rfl,HN2,HB2⟩:=hcut;have d0:wc.cell? ⟨nb,0,none⟩=some (.int .i64 x.f0):=(z01 HN2.out 0).trans rfl
  cases cnd with
  |false =>
   have HE:=z00.mk (show res=[] by have hk:=HK.out;have hc:=HCN0.out;rw[←HRE.out];unfold litL;rw[if_neg (fun h=>absurd (hk.symm.trans h.1) (by decide)),if_neg (fun h=>absurd (hk.symm.trans h.1) (by decide)),if_neg (fun h=>by rw[h.2.1,h.2.2]at hc;cases hc),if_neg (fun h=>absurd (hk.symm.trans h.1) (by decide)),if_neg (fun h=>absurd (hk.symm.trans h.1) (by decide))]);clear HCN0;go_wp2
   go_ret
   exact⟨by rw[HE.out];rfl,HB2.out⟩
  |true =>
   have HE:=z00.mk (show res=termL x.f3++([32]++(x.f2.data.toList++([32]++termL x.f4))) by have hk:=HK.out;have hc:=HCN0.out;rw[←HRE.out];unfold litL;rw[if_neg (fun h=>absurd (hk.symm.trans h.1) (by decide)),if_neg (fun h=>absurd (hk.symm.trans h.1) (by decide)),if_pos (⟨hk,(Bool.and_eq_true_iff.1 hc).1,(Bool.and_eq_true_iff.1 hc).2⟩)]);have hop:=zee (Bool.and_eq_true_iff.1 HCN0.out).2;rw[z0f]at hop;obtain⟨la,laE⟩:∃b,baL (termL x.f3)=b:=⟨_,rfl⟩
   have laS:la.size≤40:=by rw[←laE,z1y];exact HLN.out.1
   rw[laE]at HTA;have laH:=z00.mk laE;clear laE;obtain⟨lb,lbE⟩:∃b,baL (termL x.f4)=b:=⟨_,rfl⟩
   have lbS:lb.size≤40:=by rw[←lbE,z1y];exact HLN.out.2.1
   rw[lbE]at HTB;have lbH:=z00.mk lbE;clear lbE;have kq0:(9223372036854775807<la.size+1)=False:=eq_false (by omega);have kq1:(9223372036854775807<la.size+1+x.f2.size)=False:=eq_false (by omega);have kq2:(9223372036854775807<la.size+1+x.f2.size+1)=False:=eq_false (by omega);have kq3:(9223372036854775807<la.size+1+x.f2.size+1+lb.size)=False:=eq_false (by omega);have HNV:=z00.mk (z10 HN2.out);clear HCN0 d0;go_wp2;have HBV:=z00.mk (z05 HB2.out);obtain⟨V0,hV0⟩:∃V,wc=V:=⟨_,rfl⟩
   rw[hV0]at HBV HNV ⊢;clear hV0 HB2 HN2;refine z6t (n:=13) (S:=fun w'=>w'.heap[nb]?=some (.cells #[.int .i64 x.f0,.string x.f1.f0,.slice A2 x.f1.f1.length c2,.string x.f2,.string x.f3.f0,.int .i64 x.f3.f1.f0,.int .i64 x.f3.f1.f1,.string x.f3.f1.f2,.string x.f4.f0,.int .i64 x.f4.f1.f0,.int .i64 x.f4.f1.f1,.string x.f4.f1.f2,.string x.f5.f0,.int .i64 x.f5.f1.f0,.int .i64 x.f5.f1.f1,.string x.f5.f1.f2,.slice A16 x.f6.length c16] 62 (0,0))) (ds:=[]) #[false,false,false,false,false,false,false,false,false,false,false,false,false] (by kernel_rfl) rfl rfl (HNV.out) (fun hHeld=>?_);refine z3l lit7.tab lit7.bits (fun HT_ HW_=>?_)
   generalize V0.drew=V at HBV hHeld ⊢
   refine pure_ (i:=0) (N:=some 60) (v:=?_) (a':=?_) #[true,false,false,false,false,false,false,false,false,false,false,false,false] rfl rfl (z0s HT_.out (by kernel_rfl)) (fun _ _ _ h=>h) (Or.inl ⟨by rfl,?_⟩) ?_ ?_
   rotate_left
   · intro w'
     go_simp
     with_reducible rfl
   rotate_left
   · simp only[Act.put,List.setIfInBounds_toArray,List.set_cons_zero,List.set_cons_succ,i64_w,i32_w];rfl
   refine take_ (i:=1) (N:=some 61) (v:=?_) (a':=?_) #[true,true,false,false,false,false,false,false,false,false,false,false,false] rfl rfl (z1s HT_.out HW_.out (by kernel_rfl)) (fun _ _ _ h=>h) (Or.inl ⟨by rfl,?_⟩) hHeld ?_ ?_
   rotate_left
   · intro w' s1;have f4:w'.cell? ⟨nb,4,none⟩=some (.string x.f3.f0):=(z01 s1 4).trans rfl;have f5:w'.cell? ⟨nb,5,none⟩=some (.int .i64 x.f3.f1.f0):=(z01 s1 5).trans rfl;have f6:w'.cell? ⟨nb,6,none⟩=some (.int .i64 x.f3.f1.f1):=(z01 s1 6).trans rfl;have f7:w'.cell? ⟨nb,7,none⟩=some (.string x.f3.f1.f2):=(z01 s1 7).trans rfl;clear s1
     go_simp
     with_reducible rfl
   rotate_left
   · simp only[Act.put,List.setIfInBounds_toArray,List.set_cons_zero,List.set_cons_succ,i64_w,i32_w];rfl
   refine pure_ (i:=4) (N:=some 64) (v:=?_) (a':=?_) #[true,true,false,false,true,false,false,false,false,false,false,false,false] rfl rfl (z0s HT_.out (by kernel_rfl)) (fun _ _ _ h=>h) (Or.inl ⟨by rfl,?_⟩) ?_ ?_
   rotate_left
   · intro w'
     go_simp
     with_reducible rfl
   rotate_left
   · simp only[Act.put,List.setIfInBounds_toArray,List.set_cons_zero,List.set_cons_succ,i64_w,i32_w];rfl
   refine take_ (i:=5) (N:=some 65) (v:=?_) (a':=?_) #[true,true,false,false,true,true,false,false,false,false,false,false,false] rfl rfl (z1s HT_.out HW_.out (by kernel_rfl)) (fun _ _ _ h=>h) (Or.inl ⟨by rfl,?_⟩) hHeld ?_ ?_
   rotate_left
   · intro w' s1;have f3:w'.cell? ⟨nb,3,none⟩=some (.string x.f2):=(z01 s1 3).trans rfl;clear s1
     go_simp
     with_reducible rfl
   rotate_left
   · simp only[Act.put,List.setIfInBounds_toArray,List.set_cons_zero,List.set_cons_succ,i64_w,i32_w];rfl
   refine pure_ (i:=8) (N:=some 68) (v:=?_) (a':=?_) #[true,true,false,false,true,true,false,false,true,false,false,false,false] rfl rfl (z0s HT_.out (by kernel_rfl)) (fun _ _ _ h=>h) (Or.inl ⟨by rfl,?_⟩) ?_ ?_
   rotate_left
   · intro w'
     go_simp
     with_reducible rfl
   rotate_left
   · simp only[Act.put,List.setIfInBounds_toArray,List.set_cons_zero,List.set_cons_succ,i64_w,i32_w];rfl
   refine take_ (i:=9) (N:=some 69) (v:=?_) (a':=?_) #[true,true,false,false,true,true,false,false,true,true,false,false,false] rfl rfl (z1s HT_.out HW_.out (by kernel_rfl)) (fun _ _ _ h=>h) (Or.inl ⟨by rfl,?_⟩) hHeld ?_ ?_
   rotate_left
   · intro w' s1;have f8:w'.cell? ⟨nb,8,none⟩=some (.string x.f4.f0):=(z01 s1 8).trans rfl;have f9:w'.cell? ⟨nb,9,none⟩=some (.int .i64 x.f4.f1.f0):=(z01 s1 9).trans rfl;have f10:w'.cell? ⟨nb,10,none⟩=some (.int .i64 x.f4.f1.f1):=(z01 s1 10).trans rfl;have f11:w'.cell? ⟨nb,11,none⟩=some (.string x.f4.f1.f2):=(z01 s1 11).trans rfl;clear s1
     go_simp
     with_reducible rfl
   rotate_left
   · simp only[Act.put,List.setIfInBounds_toArray,List.set_cons_zero,List.set_cons_succ,i64_w,i32_w];rfl
   refine one_ (i:=2) (N:=some 62) #[true,true,true,false,true,true,false,false,true,true,false,false,false] rfl rfl (z2f HT_.out (by kernel_rfl)) (by decide) (fun K hK=>?_);refine goes_ Tryz.func70 (by kernel_rfl) rfl #[.agg #[.string x.f3.f0,.int .i64 x.f3.f1.f0,.int .i64 x.f3.f1.f1,.string x.f3.f1.f2]] (by rfl) rfl rfl zA02 ?_;refine(HTA.out _ (HLW.out.below HBV.out)).mono ?_;rintro e V2 ⟨rfl,hb⟩;refine⟨_,rfl,?_⟩;replace HBV:=z00.mk (z06 HBV.out HBV.out.size hb);replace hHeld:=z0a hHeld hb;clear hb;refine hK.out _ _ (hHeld) (fun hHeld=>?_);clear hK K;refine norm_ (a':=?_) ?_ ?_
   rotate_left
   · show Act.put _ (some 62) _=_;simp only[Act.put,List.setIfInBounds_toArray,List.set_cons_zero,List.set_cons_succ,i64_w,i32_w];rfl
   refine pure_ (i:=3) (N:=some 63) (v:=?_) (a':=?_) #[true,true,true,true,true,true,false,false,true,true,false,false,false] rfl rfl (z0s HT_.out (by kernel_rfl)) (fun _ _ _ h=>h) (Or.inl ⟨by rfl,?_⟩) ?_ ?_
   rotate_left
   · intro w'
     go_simp
     with_reducible rfl
   rotate_left
   · simp only[Act.put,List.setIfInBounds_toArray,List.set_cons_zero,List.set_cons_succ,i64_w,i32_w];rfl
   refine pure_ (i:=6) (N:=some 66) (v:=?_) (a':=?_) #[true,true,true,true,true,true,true,false,true,true,false,false,false] rfl rfl (z0s HT_.out (by kernel_rfl)) (fun _ _ _ h=>h) (Or.inl ⟨by rfl,?_⟩) ?_ ?_
   rotate_left
   · intro w'
     go_simp
     with_reducible rfl
   rotate_left
   · simp only[Act.put,List.setIfInBounds_toArray,List.set_cons_zero,List.set_cons_succ,i64_w,i32_w];rfl
   refine pure_ (i:=7) (N:=some 67) (v:=?_) (a':=?_) #[true,true,true,true,true,true,true,true,true,true,false,false,false] rfl rfl (z0s HT_.out (by kernel_rfl)) (fun _ _ _ h=>h) (Or.inl ⟨by rfl,?_⟩) ?_ ?_
   rotate_left
   · intro w'
     go_simp
     with_reducible rfl
   rotate_left
   · simp only[Act.put,List.setIfInBounds_toArray,List.set_cons_zero,List.set_cons_succ,i64_w,i32_w];rfl
   refine one_ (i:=10) (N:=some 70) #[true,true,true,true,true,true,true,true,true,true,true,false,false] rfl rfl (z2f HT_.out (by kernel_rfl)) (by decide) (fun K hK=>?_);refine goes_ Tryz.func70 (by kernel_rfl) rfl #[.agg #[.string x.f4.f0,.int .i64 x.f4.f1.f0,.int .i64 x.f4.f1.f1,.string x.f4.f1.f2]] (by rfl) rfl rfl zA02 ?_;refine(HTB.out _ (HLW.out.below HBV.out)).mono ?_;rintro e V2 ⟨rfl,hb⟩;refine⟨_,rfl,?_⟩;replace HBV:=z00.mk (z06 HBV.out HBV.out.size hb);replace hHeld:=z0a hHeld hb;clear hb;refine hK.out _ _ (hHeld) (fun hHeld=>?_);clear hK K;refine norm_ (a':=?_) ?_ ?_
   rotate_left
   · show Act.put _ (some 70) _=_;simp only[Act.put,List.setIfInBounds_toArray,List.set_cons_zero,List.set_cons_succ,i64_w,i32_w];rfl
   refine pure_ (i:=11) (N:=some 71) (v:=?_) (a':=?_) #[true,true,true,true,true,true,true,true,true,true,true,true,false] rfl rfl (z0s HT_.out (by kernel_rfl)) (fun _ _ _ h=>h) (Or.inl ⟨by rfl,?_⟩) ?_ ?_
   rotate_left
   · intro w'
     go_simp
     with_reducible rfl
   rotate_left
   · simp only[Act.put,List.setIfInBounds_toArray,List.set_cons_zero,List.set_cons_succ,i64_w,i32_w];rfl
   refine pure_ (i:=12) (N:=some 4) (v:=?_) (a':=?_) #[true,true,true,true,true,true,true,true,true,true,true,true,true] rfl rfl (z0s HT_.out (by kernel_rfl)) (fun _ _ _ h=>h) (Or.inl ⟨by rfl,?_⟩) ?_ ?_
   rotate_left
   · intro w'
     go_simp
     with_reducible rfl
   rotate_left
   · simp only[Act.put,List.setIfInBounds_toArray,List.set_cons_zero,List.set_cons_succ,i64_w,i32_w];rfl
   refine done_ (z4y HT_.out (by kernel_rfl)) ?_;go_wp2
   go_ret
   exact⟨by rw[HE.out,←laH.out,←lbH.out];exact z6g (ba_eq (by simp)),HBV.out⟩

def lit9.T:Bool × List (List Nat × List Nat):=(true,[([],[]),([0],[0]),([1],[1]),([2],[2]),([],[]),([4],[4]),([5,2],[5]),([3,6],[3,6]),([],[]),([8],[8]),([9,6],[9]),([7,10],[7,10]),([],[]),([12],[12]),([13,10],[13]),([11,14],[11,14]),([15,14,0,1,2,3,4,5,6,7,8,9,10,11,12,13,14,15],[15])])
def lit9.B:List Nat:=[0,1,3,7,0,16,55,127,0,256,887,2047,0,4096,14199,32767,65535]
theorem lit9.tab:rtab .any (opsOf Tryz.f44 9)=lit9.T:=by kernel_rfl
theorem lit9.bits:z45 lit9.T.2 lit9.B=true:=by kernel_rfl
set_option maxHeartbeats 8000000 in
set_option maxRecDepth 100000 in
theorem zk2 (x:LtS) (A2:Option Addr) (c2:Nat) (A16:Option Addr) (c16:Nat) (j:Int) (w:World) (hLW:LaidW w) (hx:okL x) (hA2:Kd.C k60 w A2 x.f1.f1.length x.f1.f1) (hA16:Kd.C k69 w A16 x.f6.length x.f6) (hk:x.f0=4) :
 Calls Tryz.prog 44 #[.int .i64 j,.agg (litC x A2 c2 A16 c16)] w fun e w'=>e=.returned (.string (baL (litL x)))∧Below w.heap.size w w':=by
 obtain⟨nb,enb⟩:∃n,w.heap.size=n:=⟨_,rfl⟩
 obtain⟨W,hW⟩:∃W,w.alloc (.cells (litC x A2 c2 A16 c16) 62)=W:=⟨_,rfl⟩
 have hBW:Below w.heap.size w W:=hW ▸ z02 (Below.refl w.heap.size w) (.cells (litC x A2 c2 A16 c16) 62);have hN:=z0l w (.cells (litC x A2 c2 A16 c16) 62);rw[enb,hW]at hN;have HAT:=z00.mk (z5a x.f1 A2 c2 W (hLW.below hBW) (Kd.C_below hA2 hBW) hx.1);have HPA:=z00.mk (fun(V:World) (h:Below w.heap.size w V)=>z57 x.f6 A16 c16 V (hLW.below h) (Kd.C_below hA16 h) hx.2.2.2.2.1 hx.2.2.2.2.2.1);have HRP:=z00.mk (fun(V:World) (h:Below w.heap.size w V)=>z3c x.f6 A16 c16 V (hLW.below h) (Kd.C_below hA16 h) hx.2.2.2.2.1 hx.2.2.2.2.2.1);have HRS:=z00.mk (fun(n:Nat) (hn:n≤3) (a o p:Bool) (hc:(a=true∧o=false∧p=false)∨(a=false∧o=true∧p=false)∨(a=false∧o=false∧p=true)) (V:World) (h:LaidW V)=>z6m x A2 c2 A16 c16 n hn a o p hc V h hx);have HTA:=z00.mk (fun V (h:LaidW V)=>z2a x.f3 V h hx.2.1);have HTB:=z00.mk (fun V (h:LaidW V)=>z2a x.f4 V h hx.2.2.1);have HTC:=z00.mk (fun V (h:LaidW V)=>z2a x.f5 V h hx.2.2.2.1);have HWD:=z00.mk (fun V=>z4g.calls x.f2 (baL (wordL x.f2.data.toList)) V (zbu x.f2));have hla:=z23 x.f3 hx.2.1;have hlb:=z23 x.f4 hx.2.2.1;have hlc:=z23 x.f5 hx.2.2.2.1;have hlp:=z64 x.f6;have hlw:=z5y x.f2.data.toList;have hat:=z5i x.f1 0 hx.1;obtain⟨res,hres⟩:∃r,litL x=r:=⟨_,rfl⟩
 have HRE:=z00.mk hres;have HLW:=z00.mk hLW;have HBW:=z00.mk hBW;have HN:=z00.mk hN;rw[hres];simp only[litC]at HAT HRS HN hW ⊢;have HW:=z00.mk hW;have d1:W.cell? ⟨nb,1,none⟩=some (.string x.f1.f0):=(z01 HN.out 1).trans rfl;have d2:W.cell? ⟨nb,2,none⟩=some (.slice A2 x.f1.f1.length c2):=(z01 HN.out 2).trans rfl;have k1:(x.f0==1)=false:=beq_eq_false_iff_ne.2 (by omega);have k2:(x.f0==2)=false:=beq_eq_false_iff_ne.2 (by omega);have k3:(x.f0==3)=false:=beq_eq_false_iff_ne.2 (by omega);have k4:(x.f0==4)=true:=beq_iff_eq.2 hk;have k5:(x.f0==5)=false:=beq_eq_false_iff_ne.2 (by omega);have HLN:=z00.mk (And.intro hla (And.intro hlb (And.intro hlc (And.intro hlp hlw))));have HK:=z00.mk hk;clear hk hLW hx hA2 hA16 hres hBW hN hla hlb hlc hlp hlw hat;go_enter Tryz.func44,Tryz.ntmps44
 go_wp2_with fail
 refine HAT.out.mono ?_;rintro e w1 ⟨rfl,hb⟩;have HB1:=z00.mk (z06 HBW.out HBW.out.size hb);have HN1:=z00.mk (z0a HN.out hb);clear hb hW d1 d2 HAT enb;have d0:w1.cell? ⟨nb,0,none⟩=some (.int .i64 x.f0):=(z01 HN1.out 0).trans rfl;have d1:w1.cell? ⟨nb,1,none⟩=some (.string x.f1.f0):=(z01 HN1.out 1).trans rfl;have d2:w1.cell? ⟨nb,2,none⟩=some (.slice A2 x.f1.f1.length c2):=(z01 HN1.out 2).trans rfl;have d3:w1.cell? ⟨nb,3,none⟩=some (.string x.f2):=(z01 HN1.out 3).trans rfl;have d4:w1.cell? ⟨nb,4,none⟩=some (.string x.f3.f0):=(z01 HN1.out 4).trans rfl;have d5:w1.cell? ⟨nb,5,none⟩=some (.int .i64 x.f3.f1.f0):=(z01 HN1.out 5).trans rfl;have d6:w1.cell? ⟨nb,6,none⟩=some (.int .i64 x.f3.f1.f1):=(z01 HN1.out 6).trans rfl;have d7:w1.cell? ⟨nb,7,none⟩=some (.string x.f3.f1.f2):=(z01 HN1.out 7).trans rfl;have d8:w1.cell? ⟨nb,8,none⟩=some (.string x.f4.f0):=(z01 HN1.out 8).trans rfl;have d9:w1.cell? ⟨nb,9,none⟩=some (.int .i64 x.f4.f1.f0):=(z01 HN1.out 9).trans rfl;have d10:w1.cell? ⟨nb,10,none⟩=some (.int .i64 x.f4.f1.f1):=(z01 HN1.out 10).trans rfl;have d11:w1.cell? ⟨nb,11,none⟩=some (.string x.f4.f1.f2):=(z01 HN1.out 11).trans rfl;have d12:w1.cell? ⟨nb,12,none⟩=some (.string x.f5.f0):=(z01 HN1.out 12).trans rfl;have d13:w1.cell? ⟨nb,13,none⟩=some (.int .i64 x.f5.f1.f0):=(z01 HN1.out 13).trans rfl;have d14:w1.cell? ⟨nb,14,none⟩=some (.int .i64 x.f5.f1.f1):=(z01 HN1.out 14).trans rfl;have d15:w1.cell? ⟨nb,15,none⟩=some (.string x.f5.f1.f2):=(z01 HN1.out 15).trans rfl;have d16:w1.cell? ⟨nb,16,none⟩=some (.slice A16 x.f6.length c16):=(z01 HN1.out 16).trans rfl;obtain⟨atx,hatx⟩:∃b,baL (atomL x.f1)=b:=⟨_,rfl⟩
 rw[hatx];obtain⟨cnd,hcn⟩:∃b,(restB x 3 false true false&&(!(x.f3.f0.data.toList).isEmpty&&!(wordL x.f2.data.toList).isEmpty))=b:=⟨_,rfl⟩
 have HCN0:=z00.mk hcn;have HCN:=z00.mk hcn;clear hcn hatx
 go_upto_region 8 with (fail)
 go_cut [72] (fun v72 wc=>v72=.bool cnd∧z00 (wc.heap[nb]?=some (.cells #[.int .i64 x.f0,.string x.f1.f0,.slice A2 x.f1.f1.length c2,.string x.f2,.string x.f3.f0,.int .i64 x.f3.f1.f0,.int .i64 x.f3.f1.f1,.string x.f3.f1.f2,.string x.f4.f0,.int .i64 x.f4.f1.f0,.int .i64 x.f4.f1.f1,.string x.f4.f1.f2,.string x.f5.f0,.int .i64 x.f5.f1.f0,.int .i64 x.f5.f1.f1,.string x.f5.f1.f2,.slice A16 x.f6.length c16] 62 (0,0)))∧z00 (Below w.heap.size w wc))
 case first =>
  go_wp2_with fail
  refine(HRS.out 3 (by decide) false true false (by decide) _ (HLW.out.below HB1.out)).mono ?_;rintro e w2 ⟨rfl,hb⟩;have HB2:=z00.mk (z06 HB1.out HB1.out.size hb);have HN2:=z00.mk (z0a HN1.out hb);clear hb d0 d1 d2 d3 d4 d5 d6 d7 d8 d9 d10 d11 d12 d13 d14 d15 d16;have d0:w2.cell? ⟨nb,0,none⟩=some (.int .i64 x.f0):=(z01 HN2.out 0).trans rfl;have d3:w2.cell? ⟨nb,3,none⟩=some (.string x.f2):=(z01 HN2.out 3).trans rfl;have d4:w2.cell? ⟨nb,4,none⟩=some (.string x.f3.f0):=(z01 HN2.out 4).trans rfl;have d16:w2.cell? ⟨nb,16,none⟩=some (.slice A16 x.f6.length c16):=(z01 HN2.out 16).trans rfl;obtain⟨rr,hrr⟩:∃b,restB x 3 false true false=b:=⟨_,rfl⟩
  rw[hrr]at HCN ⊢;clear hrr
  cases rr with
  |false =>
   have HC2:=z00.mk (show cnd=false by rw[←HCN.out];rfl);go_wp2;go_meet
   case rel=>exact⟨by first|(rw[HC2.out];done)|(rw[HC2.out];rfl),HN2,HB2⟩
  |true =>
   by_cases hv0:x.f3.f0.data.toList=[]
   · have e5:(x.f3.f0.toList==([]:List UInt8))=true:=by rw[beq_iff_eq,z2z];exact hv0
     have e6:(x.f3.f0.toList==(⟨#[]⟩:ByteArray).toList)=true:=by rw[z1v];exact e5
     have e7:(x.f3.f0.toList !=([]:List UInt8))=false:=by rw[bne,e5];rfl
     have e8:(x.f3.f0.toList !=(⟨#[]⟩:ByteArray).toList)=false:=by rw[bne,e6];rfl
     have HC3:=z00.mk (show cnd=false by rw[←HCN.out,hv0];rfl);clear hv0;go_wp2;go_meet
     case rel=>exact⟨by first|(rw[HC3.out];done)|(rw[HC3.out];rfl),HN2,HB2⟩
   · have e5:(x.f3.f0.toList==([]:List UInt8))=false:=by rw[beq_eq_false_iff_ne,z2z];exact hv0
     have e6:(x.f3.f0.toList==(⟨#[]⟩:ByteArray).toList)=false:=by rw[z1v];exact e5
     have e7:(x.f3.f0.toList !=([]:List UInt8))=true:=by rw[bne,e5];rfl
     have e8:(x.f3.f0.toList !=(⟨#[]⟩:ByteArray).toList)=true:=by rw[bne,e6];rfl
     have HC3:=z00.mk (show cnd=!(wordL x.f2.data.toList).isEmpty by rw[←HCN.out,neB hv0];rfl);clear hv0
     go_wp2_with fail
     refine(HWD.out _).mono ?_;rintro e w3 ⟨rfl,nd,rfl⟩;have HN3:=z00.mk (z1a HN2.out nd);have HB3:=z00.mk (z04 HB2.out nd);obtain⟨wd,hwd⟩:∃b,baL (wordL x.f2.data.toList)=b:=⟨_,rfl⟩
     rw[hwd]
     by_cases hw0:wordL x.f2.data.toList=[]
     · obtain⟨e11,e12,e13,e14⟩:=emp_t hwd hw0;have HC4:=z00.mk (show cnd=false by rw[HC3.out,hw0];rfl);clear hwd hw0;go_wp2;go_meet
       case rel=>exact⟨by first|(rw[HC4.out];done)|(rw[HC4.out];rfl),HN3,HB3⟩
     · obtain⟨e11,e12,e13,e14⟩:=emp_f hwd hw0;have HC4:=z00.mk (show cnd=true by rw[HC3.out,neB hw0]);clear hwd hw0;go_wp2;go_meet
       case rel=>exact⟨by first|(rw[HC4.out];done)|(rw[HC4.out];rfl),HN3,HB3⟩
 case rest =>
  clear HCN HB1 HN1 d0 d1 d2 d3 d4 d5 d6 d7 d8 d9 d10 d11 d12 d13 d14 d15 d16;obtain⟨rfl,HN2,HB2⟩:=hcut;have d0:wc.cell? ⟨nb,0,none⟩=some (.int .i64 x.f0):=(z01 HN2.out 0).trans rfl
  cases cnd with
  |false =>
   have HE:=z00.mk (show res=[] by have hk:=HK.out;have hc:=HCN0.out;rw[←HRE.out];unfold litL;rw[if_neg (fun h=>absurd (hk.symm.trans h.1) (by decide)),if_neg (fun h=>absurd (hk.symm.trans h.1) (by decide)),if_neg (fun h=>absurd (hk.symm.trans h.1) (by decide)),if_neg (fun h=>by rw[h.2.1,neB h.2.2.1,neB h.2.2.2]at hc;cases hc),if_neg (fun h=>absurd (hk.symm.trans h.1) (by decide))]);clear HCN0;go_wp2
   go_ret
   exact⟨by rw[HE.out];rfl,HB2.out⟩
  |true =>
   have HE:=z00.mk (show res=termL x.f3++([32,105,115,32]++(termL x.f4++(wordL x.f2.data.toList++termL x.f5))) by have hk:=HK.out;have hc:=HCN0.out;rw[←HRE.out];unfold litL;rw[if_neg (fun h=>absurd (hk.symm.trans h.1) (by decide)),if_neg (fun h=>absurd (hk.symm.trans h.1) (by decide)),if_neg (fun h=>absurd (hk.symm.trans h.1) (by decide)),if_pos (⟨hk,(Bool.and_eq_true_iff.1 hc).1,zlt (Bool.and_eq_true_iff.1 (Bool.and_eq_true_iff.1 hc).2).1,zlt (Bool.and_eq_true_iff.1 (Bool.and_eq_true_iff.1 hc).2).2⟩)]);obtain⟨la,laE⟩:∃b,baL (termL x.f3)=b:=⟨_,rfl⟩
   have laS:la.size≤40:=by rw[←laE,z1y];exact HLN.out.1
   rw[laE]at HTA;have laH:=z00.mk laE;clear laE;obtain⟨lb,lbE⟩:∃b,baL (termL x.f4)=b:=⟨_,rfl⟩
   have lbS:lb.size≤40:=by rw[←lbE,z1y];exact HLN.out.2.1
   rw[lbE]at HTB;have lbH:=z00.mk lbE;clear lbE;obtain⟨lc,lcE⟩:∃b,baL (termL x.f5)=b:=⟨_,rfl⟩
   have lcS:lc.size≤40:=by rw[←lcE,z1y];exact HLN.out.2.2.1
   rw[lcE]at HTC;have lcH:=z00.mk lcE;clear lcE;obtain⟨wd,wdE⟩:∃b,baL (wordL x.f2.data.toList)=b:=⟨_,rfl⟩
   have wdS:wd.size≤7:=by rw[←wdE,z1y];exact HLN.out.2.2.2.2
   rw[wdE]at HWD;have wdH:=z00.mk wdE;clear wdE;have kq0:(9223372036854775807<la.size+4)=False:=eq_false (by omega);have kq1:(9223372036854775807<la.size+4+lb.size)=False:=eq_false (by omega);have kq2:(9223372036854775807<la.size+4+lb.size+wd.size)=False:=eq_false (by omega);have kq3:(9223372036854775807<la.size+4+lb.size+wd.size+lc.size)=False:=eq_false (by omega);have HNV:=z00.mk (z10 HN2.out);clear HCN0 d0;go_wp2;have HBV:=z00.mk (z05 HB2.out);obtain⟨V0,hV0⟩:∃V,wc=V:=⟨_,rfl⟩
   rw[hV0]at HBV HNV ⊢;clear hV0 HB2 HN2;refine z6t (n:=17) (S:=fun w'=>w'.heap[nb]?=some (.cells #[.int .i64 x.f0,.string x.f1.f0,.slice A2 x.f1.f1.length c2,.string x.f2,.string x.f3.f0,.int .i64 x.f3.f1.f0,.int .i64 x.f3.f1.f1,.string x.f3.f1.f2,.string x.f4.f0,.int .i64 x.f4.f1.f0,.int .i64 x.f4.f1.f1,.string x.f4.f1.f2,.string x.f5.f0,.int .i64 x.f5.f1.f0,.int .i64 x.f5.f1.f1,.string x.f5.f1.f2,.slice A16 x.f6.length c16] 62 (0,0))) (ds:=[]) #[false,false,false,false,false,false,false,false,false,false,false,false,false,false,false,false,false] (by kernel_rfl) rfl rfl (HNV.out) (fun hHeld=>?_);refine z3l lit9.tab lit9.bits (fun HT_ HW_=>?_)
   generalize V0.drew=V at HBV hHeld ⊢
   refine pure_ (i:=0) (N:=some 92) (v:=?_) (a':=?_) #[true,false,false,false,false,false,false,false,false,false,false,false,false,false,false,false,false] rfl rfl (z0s HT_.out (by kernel_rfl)) (fun _ _ _ h=>h) (Or.inl ⟨by rfl,?_⟩) ?_ ?_
   rotate_left
   · intro w'
     go_simp
     with_reducible rfl
   rotate_left
   · simp only[Act.put,List.setIfInBounds_toArray,List.set_cons_zero,List.set_cons_succ,i64_w,i32_w];rfl
   refine take_ (i:=1) (N:=some 93) (v:=?_) (a':=?_) #[true,true,false,false,false,false,false,false,false,false,false,false,false,false,false,false,false] rfl rfl (z1s HT_.out HW_.out (by kernel_rfl)) (fun _ _ _ h=>h) (Or.inl ⟨by rfl,?_⟩) hHeld ?_ ?_
   rotate_left
   · intro w' s1;have f4:w'.cell? ⟨nb,4,none⟩=some (.string x.f3.f0):=(z01 s1 4).trans rfl;have f5:w'.cell? ⟨nb,5,none⟩=some (.int .i64 x.f3.f1.f0):=(z01 s1 5).trans rfl;have f6:w'.cell? ⟨nb,6,none⟩=some (.int .i64 x.f3.f1.f1):=(z01 s1 6).trans rfl;have f7:w'.cell? ⟨nb,7,none⟩=some (.string x.f3.f1.f2):=(z01 s1 7).trans rfl;clear s1
     go_simp
     with_reducible rfl
   rotate_left
   · simp only[Act.put,List.setIfInBounds_toArray,List.set_cons_zero,List.set_cons_succ,i64_w,i32_w];rfl
   refine pure_ (i:=4) (N:=some 96) (v:=?_) (a':=?_) #[true,true,false,false,true,false,false,false,false,false,false,false,false,false,false,false,false] rfl rfl (z0s HT_.out (by kernel_rfl)) (fun _ _ _ h=>h) (Or.inl ⟨by rfl,?_⟩) ?_ ?_
   rotate_left
   · intro w'
     go_simp
     with_reducible rfl
   rotate_left
   · simp only[Act.put,List.setIfInBounds_toArray,List.set_cons_zero,List.set_cons_succ,i64_w,i32_w];rfl
   refine take_ (i:=5) (N:=some 97) (v:=?_) (a':=?_) #[true,true,false,false,true,true,false,false,false,false,false,false,false,false,false,false,false] rfl rfl (z1s HT_.out HW_.out (by kernel_rfl)) (fun _ _ _ h=>h) (Or.inl ⟨by rfl,?_⟩) hHeld ?_ ?_
   rotate_left
   · intro w' s1;have f8:w'.cell? ⟨nb,8,none⟩=some (.string x.f4.f0):=(z01 s1 8).trans rfl;have f9:w'.cell? ⟨nb,9,none⟩=some (.int .i64 x.f4.f1.f0):=(z01 s1 9).trans rfl;have f10:w'.cell? ⟨nb,10,none⟩=some (.int .i64 x.f4.f1.f1):=(z01 s1 10).trans rfl;have f11:w'.cell? ⟨nb,11,none⟩=some (.string x.f4.f1.f2):=(z01 s1 11).trans rfl;clear s1
     go_simp
     with_reducible rfl
   rotate_left
   · simp only[Act.put,List.setIfInBounds_toArray,List.set_cons_zero,List.set_cons_succ,i64_w,i32_w];rfl
   refine pure_ (i:=8) (N:=some 100) (v:=?_) (a':=?_) #[true,true,false,false,true,true,false,false,true,false,false,false,false,false,false,false,false] rfl rfl (z0s HT_.out (by kernel_rfl)) (fun _ _ _ h=>h) (Or.inl ⟨by rfl,?_⟩) ?_ ?_
   rotate_left
   · intro w'
     go_simp
     with_reducible rfl
   rotate_left
   · simp only[Act.put,List.setIfInBounds_toArray,List.set_cons_zero,List.set_cons_succ,i64_w,i32_w];rfl
   refine take_ (i:=9) (N:=some 101) (v:=?_) (a':=?_) #[true,true,false,false,true,true,false,false,true,true,false,false,false,false,false,false,false] rfl rfl (z1s HT_.out HW_.out (by kernel_rfl)) (fun _ _ _ h=>h) (Or.inl ⟨by rfl,?_⟩) hHeld ?_ ?_
   rotate_left
   · intro w' s1;have f3:w'.cell? ⟨nb,3,none⟩=some (.string x.f2):=(z01 s1 3).trans rfl;clear s1
     go_simp
     with_reducible rfl
   rotate_left
   · simp only[Act.put,List.setIfInBounds_toArray,List.set_cons_zero,List.set_cons_succ,i64_w,i32_w];rfl
   refine pure_ (i:=12) (N:=some 104) (v:=?_) (a':=?_) #[true,true,false,false,true,true,false,false,true,true,false,false,true,false,false,false,false] rfl rfl (z0s HT_.out (by kernel_rfl)) (fun _ _ _ h=>h) (Or.inl ⟨by rfl,?_⟩) ?_ ?_
   rotate_left
   · intro w'
     go_simp
     with_reducible rfl
   rotate_left
   · simp only[Act.put,List.setIfInBounds_toArray,List.set_cons_zero,List.set_cons_succ,i64_w,i32_w];rfl
   refine take_ (i:=13) (N:=some 105) (v:=?_) (a':=?_) #[true,true,false,false,true,true,false,false,true,true,false,false,true,true,false,false,false] rfl rfl (z1s HT_.out HW_.out (by kernel_rfl)) (fun _ _ _ h=>h) (Or.inl ⟨by rfl,?_⟩) hHeld ?_ ?_
   rotate_left
   · intro w' s1;have f12:w'.cell? ⟨nb,12,none⟩=some (.string x.f5.f0):=(z01 s1 12).trans rfl;have f13:w'.cell? ⟨nb,13,none⟩=some (.int .i64 x.f5.f1.f0):=(z01 s1 13).trans rfl;have f14:w'.cell? ⟨nb,14,none⟩=some (.int .i64 x.f5.f1.f1):=(z01 s1 14).trans rfl;have f15:w'.cell? ⟨nb,15,none⟩=some (.string x.f5.f1.f2):=(z01 s1 15).trans rfl;clear s1
     go_simp
     with_reducible rfl
   rotate_left
   · simp only[Act.put,List.setIfInBounds_toArray,List.set_cons_zero,List.set_cons_succ,i64_w,i32_w];rfl
   refine one_ (i:=2) (N:=some 94) #[true,true,true,false,true,true,false,false,true,true,false,false,true,true,false,false,false] rfl rfl (z2f HT_.out (by kernel_rfl)) (by decide) (fun K hK=>?_);refine goes_ Tryz.func70 (by kernel_rfl) rfl #[.agg #[.string x.f3.f0,.int .i64 x.f3.f1.f0,.int .i64 x.f3.f1.f1,.string x.f3.f1.f2]] (by rfl) rfl rfl zA02 ?_;refine(HTA.out _ (HLW.out.below HBV.out)).mono ?_;rintro e V2 ⟨rfl,hb⟩;refine⟨_,rfl,?_⟩;replace HBV:=z00.mk (z06 HBV.out HBV.out.size hb);replace hHeld:=z0a hHeld hb;clear hb;refine hK.out _ _ (hHeld) (fun hHeld=>?_);clear hK K;refine norm_ (a':=?_) ?_ ?_
   rotate_left
   · show Act.put _ (some 94) _=_;simp only[Act.put,List.setIfInBounds_toArray,List.set_cons_zero,List.set_cons_succ,i64_w,i32_w];rfl
   refine pure_ (i:=3) (N:=some 95) (v:=?_) (a':=?_) #[true,true,true,true,true,true,false,false,true,true,false,false,true,true,false,false,false] rfl rfl (z0s HT_.out (by kernel_rfl)) (fun _ _ _ h=>h) (Or.inl ⟨by rfl,?_⟩) ?_ ?_
   rotate_left
   · intro w'
     go_simp
     with_reducible rfl
   rotate_left
   · simp only[Act.put,List.setIfInBounds_toArray,List.set_cons_zero,List.set_cons_succ,i64_w,i32_w];rfl
   refine one_ (i:=6) (N:=some 98) #[true,true,true,true,true,true,true,false,true,true,false,false,true,true,false,false,false] rfl rfl (z2f HT_.out (by kernel_rfl)) (by decide) (fun K hK=>?_);refine goes_ Tryz.func70 (by kernel_rfl) rfl #[.agg #[.string x.f4.f0,.int .i64 x.f4.f1.f0,.int .i64 x.f4.f1.f1,.string x.f4.f1.f2]] (by rfl) rfl rfl zA02 ?_;refine(HTB.out _ (HLW.out.below HBV.out)).mono ?_;rintro e V2 ⟨rfl,hb⟩;refine⟨_,rfl,?_⟩;replace HBV:=z00.mk (z06 HBV.out HBV.out.size hb);replace hHeld:=z0a hHeld hb;clear hb;refine hK.out _ _ (hHeld) (fun hHeld=>?_);clear hK K;refine norm_ (a':=?_) ?_ ?_
   rotate_left
   · show Act.put _ (some 98) _=_;simp only[Act.put,List.setIfInBounds_toArray,List.set_cons_zero,List.set_cons_succ,i64_w,i32_w];rfl
   refine pure_ (i:=7) (N:=some 99) (v:=?_) (a':=?_) #[true,true,true,true,true,true,true,true,true,true,false,false,true,true,false,false,false] rfl rfl (z0s HT_.out (by kernel_rfl)) (fun _ _ _ h=>h) (Or.inl ⟨by rfl,?_⟩) ?_ ?_
   rotate_left
   · intro w'
     go_simp
     with_reducible rfl
   rotate_left
   · simp only[Act.put,List.setIfInBounds_toArray,List.set_cons_zero,List.set_cons_succ,i64_w,i32_w];rfl
   refine one_ (i:=10) (N:=some 102) #[true,true,true,true,true,true,true,true,true,true,true,false,true,true,false,false,false] rfl rfl (z2f HT_.out (by kernel_rfl)) (by decide) (fun K hK=>?_);refine goes_ Tryz.func75 (by kernel_rfl) rfl #[.string x.f2] (by rfl) rfl rfl zA02 ?_;refine(HWD.out _).mono ?_;rintro e V2 ⟨rfl,nd,rfl⟩;refine⟨_,rfl,?_⟩;replace HBV:=z00.mk (z04 HBV.out nd);replace hHeld:=z1a hHeld nd;refine hK.out _ _ (hHeld) (fun hHeld=>?_);clear hK K;refine norm_ (a':=?_) ?_ ?_
   rotate_left
   · show Act.put _ (some 102) _=_;simp only[Act.put,List.setIfInBounds_toArray,List.set_cons_zero,List.set_cons_succ,i64_w,i32_w];rfl
   refine pure_ (i:=11) (N:=some 103) (v:=?_) (a':=?_) #[true,true,true,true,true,true,true,true,true,true,true,true,true,true,false,false,false] rfl rfl (z0s HT_.out (by kernel_rfl)) (fun _ _ _ h=>h) (Or.inl ⟨by rfl,?_⟩) ?_ ?_
   rotate_left
   · intro w'
     go_simp
     with_reducible rfl
   rotate_left
   · simp only[Act.put,List.setIfInBounds_toArray,List.set_cons_zero,List.set_cons_succ,i64_w,i32_w];rfl
   refine one_ (i:=14) (N:=some 106) #[true,true,true,true,true,true,true,true,true,true,true,true,true,true,true,false,false] rfl rfl (z2f HT_.out (by kernel_rfl)) (by decide) (fun K hK=>?_);refine goes_ Tryz.func70 (by kernel_rfl) rfl #[.agg #[.string x.f5.f0,.int .i64 x.f5.f1.f0,.int .i64 x.f5.f1.f1,.string x.f5.f1.f2]] (by rfl) rfl rfl zA02 ?_;refine(HTC.out _ (HLW.out.below HBV.out)).mono ?_;rintro e V2 ⟨rfl,hb⟩;refine⟨_,rfl,?_⟩;replace HBV:=z00.mk (z06 HBV.out HBV.out.size hb);replace hHeld:=z0a hHeld hb;clear hb;refine hK.out _ _ (hHeld) (fun hHeld=>?_);clear hK K;refine norm_ (a':=?_) ?_ ?_
   rotate_left
   · show Act.put _ (some 106) _=_;simp only[Act.put,List.setIfInBounds_toArray,List.set_cons_zero,List.set_cons_succ,i64_w,i32_w];rfl
   refine pure_ (i:=15) (N:=some 107) (v:=?_) (a':=?_) #[true,true,true,true,true,true,true,true,true,true,true,true,true,true,true,true,false] rfl rfl (z0s HT_.out (by kernel_rfl)) (fun _ _ _ h=>h) (Or.inl ⟨by rfl,?_⟩) ?_ ?_
   rotate_left
   · intro w'
     go_simp
     with_reducible rfl
   rotate_left
   · simp only[Act.put,List.setIfInBounds_toArray,List.set_cons_zero,List.set_cons_succ,i64_w,i32_w];rfl
   refine pure_ (i:=16) (N:=some 4) (v:=?_) (a':=?_) #[true,true,true,true,true,true,true,true,true,true,true,true,true,true,true,true,true] rfl rfl (z0s HT_.out (by kernel_rfl)) (fun _ _ _ h=>h) (Or.inl ⟨by rfl,?_⟩) ?_ ?_
   rotate_left
   · intro w'
     go_simp
     with_reducible rfl
   rotate_left
   · simp only[Act.put,List.setIfInBounds_toArray,List.set_cons_zero,List.set_cons_succ,i64_w,i32_w];rfl
   refine done_ (z4y HT_.out (by kernel_rfl)) ?_;go_wp2
   go_ret
   exact⟨by rw[HE.out,←laH.out,←lbH.out,←lcH.out,←wdH.out];exact z6g (ba_eq (by simp)),HBV.out⟩
end Go.Proofs.YthebhbomlllpeaaGreatDoor.X
