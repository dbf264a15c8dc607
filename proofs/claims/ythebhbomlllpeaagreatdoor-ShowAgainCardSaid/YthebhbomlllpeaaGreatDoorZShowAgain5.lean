/-
  ShowAgain: what the proof needs, put together by a program of this session (shake.py), part 5.
-/
import Derived.Test.YthebhbomlllpeaaGreatDoorZShowAgain4
set_option linter.unusedVariables false
set_option linter.unusedSimpArgs false
namespace Go.Proofs.YthebhbomlllpeaaGreatDoor.X
open Go.RowKit Go.Proofs.YthebhbomlllpeaaGreatDoorW.PrintWords Go.Proofs.YthebhbomlllpeaaGreatDoorW.PrintLast Go.Proofs.YthebhbomlllpeaaGreatDoorW.PrintMore
attribute [local go_sem] z4h z4i z5e z5d z3s z3r z4l z4k
def stringslite_HasPrefix.f (a0:ByteArray) (a1:ByteArray):Option (Bool):=if(a0.size:Int)≥(a1.size:Int)then(if 0≤(a1.size:Int)then(if(a1.size:Int)≤(a0.size:Int)then(some ((a0.extract 0 ((a1.size:Int):Int).toNat).toList==a1.toList))else(none))else(none))else(some false)
set_option maxHeartbeats 8000000 in
set_option maxRecDepth 100000 in
theorem stringslite_HasPrefix.calls (a0:ByteArray) (a1:ByteArray) (r:Bool) (w:World) (h:stringslite_HasPrefix.f a0 a1=some r) :
 Calls Tryz.prog 155 #[.string a0,.string a1] w fun e w'=>e=.returned (.bool r)∧z0c w w':=by
 have H:(if(a0.size:Int)≥(a1.size:Int)then(if 0≤(a1.size:Int)then(if(a1.size:Int)≤(a0.size:Int)then(some ((a0.extract 0 ((a1.size:Int):Int).toNat).toList==a1.toList))else(none))else(none))else(some false))=some r:=h;clear h
 by_cases c3:(a0.size:Int)≥(a1.size:Int)
 · rw[if_pos c3]at H;have c3b0:decide ((a1.size:Int)≤(a0.size:Int))=true:=decide_eq_true c3;have c3b1:decide (a1.size≤a0.size)=true:=decide_eq_true (Int.ofNat_le.mp c3);clear c3
   by_cases c4:0≤(a1.size:Int)
   · rw[if_pos c4]at H;have c4b0:=eq_true c4;have c4b1:decide (0≤(a1.size:Int))=true:=decide_eq_true c4;clear c4
     by_cases c5:(a1.size:Int)≤(a0.size:Int)
     · rw[if_pos c5]at H;have c5b0:=eq_true c5;have c5b1:decide ((a1.size:Int)≤(a0.size:Int))=true:=decide_eq_true c5;clear c5;obtain rfl:=Option.some.inj H;go_enter Tryz.func155,Tryz.ntmps155;go_wp2
       go_ret
       exact⟨by first|rfl|(simp;done)|(simp[*];done),by repeat(first|exact z0c.refl _|apply z0c.step)⟩
     · rw[if_neg c5]at H;exact absurd H (by simp)
   · rw[if_neg c4]at H;exact absurd H (by simp)
 · rw[if_neg c3]at H;have c3b0:decide ((a1.size:Int)≤(a0.size:Int))=false:=decide_eq_false c3;have c3b1:decide (a1.size≤a0.size)=false:=decide_eq_false (fun h=>c3 (Int.ofNat_le.mpr h));clear c3;obtain rfl:=Option.some.inj H;go_enter Tryz.func155,Tryz.ntmps155;go_wp2
   go_ret
   exact⟨by first|rfl|(simp;done)|(simp[*];done),by repeat(first|exact z0c.refl _|apply z0c.step)⟩
def z09.f (a0:ByteArray) (a1:ByteArray):Option (Bool):=(stringslite_HasPrefix.f a0 a1).bind fun t121=>(some t121)
set_option maxHeartbeats 8000000 in
set_option maxRecDepth 100000 in
theorem z09.calls (a0:ByteArray) (a1:ByteArray) (r:Bool) (w:World) (h:z09.f a0 a1=some r) :
 Calls Tryz.prog 130 #[.string a0,.string a1] w fun e w'=>e=.returned (.bool r)∧z0c w w':=by
 have H:((stringslite_HasPrefix.f a0 a1).bind fun t121=>(some t121))=some r:=h;clear h;replace H:=Option.bind_eq_some_iff.mp H;obtain⟨t121,A30,H⟩:=H;replace H:(some t121)=some r:=H;have A3:=z00.mk A30;clear A30;obtain rfl:=Option.some.inj H;go_enter Tryz.func130,Tryz.ntmps130
 go_wp2_with (first|((with_reducible refine z1r (f:=155) rfl ?_);refine z4s (some 7) rfl rfl Tryz.func155 (by kernel_rfl) rfl #[.string a0,.string a1] rfl zA01 ?_;(with_reducible refine(stringslite_HasPrefix.calls a0 a1 t121 _ A3.out).mono ?_);rintro e w' ⟨rfl,⟨nd,rfl⟩⟩;refine⟨_,rfl,?_⟩))
 go_ret
 exact⟨by first|rfl|(simp;done)|(simp[*];done),by repeat(first|exact z0c.refl _|apply z0c.step)⟩
def z6v.f (k:Nat) (a0_0:Int) (a0_1:ByteArray):Option (ByteArray):=(z2e.f k a0_1).bind fun t130=>(if t130=true then(if a0_0=2 then(if 1+a0_1.size≤9223372036854775807 then(some ((⟨#[94]⟩:ByteArray)++a0_1))else(none))else(if a0_0=1 then(some a0_1)else(some (⟨#[]⟩:ByteArray))))else(some (⟨#[]⟩:ByteArray)))
set_option maxHeartbeats 8000000 in
set_option maxRecDepth 100000 in
theorem z6v.calls (k:Nat) (a0_0:Int) (a0_1:ByteArray) (r:ByteArray) (w:World) (h:z6v.f k a0_0 a0_1=some r) :
 Calls Tryz.prog 50 #[.agg #[.int .i64 a0_0,.string a0_1]] w fun e w'=>e=.returned (.string r)∧Below w.heap.size w w':=by
 have hu69:=Tryz.underlying69;have HB:=z00.mk (Below.refl w.heap.size w);have H:((z2e.f k a0_1).bind fun t130=>(if t130=true then(if a0_0=2 then(if 1+a0_1.size≤9223372036854775807 then(some ((⟨#[94]⟩:ByteArray)++a0_1))else(none))else(if a0_0=1 then(some a0_1)else(some (⟨#[]⟩:ByteArray))))else(some (⟨#[]⟩:ByteArray))))=some r:=h;clear h;replace H:=Option.bind_eq_some_iff.mp H;obtain⟨t130,A20,H⟩:=H;replace H:(if t130=true then(if a0_0=2 then(if 1+a0_1.size≤9223372036854775807 then(some ((⟨#[94]⟩:ByteArray)++a0_1))else(none))else(if a0_0=1 then(some a0_1)else(some (⟨#[]⟩:ByteArray))))else(some (⟨#[]⟩:ByteArray)))=some r:=H;have A2:=z00.mk A20;clear A20
 by_cases c3:t130=true
 · subst c3;have H1:(if a0_0=2 then(if 1+a0_1.size≤9223372036854775807 then(some ((⟨#[94]⟩:ByteArray)++a0_1))else(none))else(if a0_0=1 then(some a0_1)else(some (⟨#[]⟩:ByteArray))))=some r:=by rw[if_pos rfl]at H;exact H
   clear H;have H:=H1;clear H1
   by_cases c4:a0_0=2
   · rw[if_pos c4]at H;have c4b0:(a0_0==2)=true:=beq_iff_eq.mpr c4;have c4b1:(a0_0 !=2)=false:=bne_eq_false_iff_eq.mpr c4;clear c4
     by_cases c5:1+a0_1.size≤9223372036854775807
     · rw[if_pos c5]at H;have c5b0:=eq_true c5;have c5b1:decide (1+a0_1.size≤9223372036854775807)=true:=decide_eq_true c5
       try have c5b2:(9223372036854775807<1+a0_1.size)=False:=eq_false (Nat.not_lt.2 c5)
       obtain rfl:=Option.some.inj H;go_enter Tryz.func50,Tryz.ntmps50
       go_wp2_with (first|((with_reducible refine z1u (N:=1) rfl ?_);refine z28 ?hg (N:=1) ?hd (cs:=#[.int .i64 a0_0,.string a0_1]) (t:=69) ?hr ?_;(case hd=>rfl);(case hg=>rfl);(case hr=>first|(go_simp;done)|(go_simp;rfl));intro gb129 hg w6 hbox hb;have n0_:=z00.mk (z0g zA00 hb);have n1_:=z00.mk (hbox);have n2_:=z00.mk ((by rw[hg];exact(z0i zA00):w.heap.size≤gb129));have n3_:=z00.mk ((by rw[hg];exact(z0i zA00):w.heap.size≤gb129));clear HB;have HB:=n0_;have BK129:=n1_;have GW129:=n2_;have GE129:=n3_;clear n0_ n1_ n2_ n3_;clear hb hbox hg;have hcz7_0:w6.cell? ⟨gb129,0,none⟩=some (.int .i64 a0_0):=(z01 BK129.out 0).trans rfl;have hcz7_1:w6.cell? ⟨gb129,1,none⟩=some (.string a0_1):=(z01 BK129.out 1).trans rfl;have hfz7_0:=z03 BK129.out 0;have hfz7_1:=z03 BK129.out 1)|((with_reducible refine z1r (f:=72) rfl ?_);refine z4s (some 6) rfl rfl Tryz.func72 (by kernel_rfl) rfl #[.string a0_1] rfl zA01 ?_;(with_reducible refine(z2e.calls k a0_1 true _ A2.out).mono ?_);rintro e w' ⟨rfl,⟨nd,rfl⟩⟩;refine⟨_,rfl,?_⟩))
       go_ret
       exact⟨by first|rfl|(simp[z12,z13] <;> rfl)|(simp[*,z12,z13] <;> rfl),by repeat(first|(with_reducible first|exact HB.out|apply z02|apply z04|apply z05|refine z08 ?_ GE129.out)|exact HB.out)⟩
     · rw[if_neg c5]at H;exact absurd H (by simp)
   · rw[if_neg c4]at H;have c4b0:(a0_0==2)=false:=beq_eq_false_iff_ne.mpr c4;have c4b1:(a0_0 !=2)=true:=bne_iff_ne.mpr c4
     by_cases c8:a0_0=1
     · rw[if_pos c8]at H;have c8b0:(a0_0==1)=true:=beq_iff_eq.mpr c8;have c8b1:(a0_0 !=1)=false:=bne_eq_false_iff_eq.mpr c8;clear c8;obtain rfl:=Option.some.inj H;go_enter Tryz.func50,Tryz.ntmps50
       go_wp2_with (first|((with_reducible refine z1u (N:=1) rfl ?_);refine z28 ?hg (N:=1) ?hd (cs:=#[.int .i64 a0_0,.string a0_1]) (t:=69) ?hr ?_;(case hd=>rfl);(case hg=>rfl);(case hr=>first|(go_simp;done)|(go_simp;rfl));intro gb129 hg w9 hbox hb;have n0_:=z00.mk (z0g zA00 hb);have n1_:=z00.mk (hbox);have n2_:=z00.mk ((by rw[hg];exact(z0i zA00):w.heap.size≤gb129));have n3_:=z00.mk ((by rw[hg];exact(z0i zA00):w.heap.size≤gb129));clear HB;have HB:=n0_;have BK129:=n1_;have GW129:=n2_;have GE129:=n3_;clear n0_ n1_ n2_ n3_;clear hb hbox hg;have hcz10_0:w9.cell? ⟨gb129,0,none⟩=some (.int .i64 a0_0):=(z01 BK129.out 0).trans rfl;have hcz10_1:w9.cell? ⟨gb129,1,none⟩=some (.string a0_1):=(z01 BK129.out 1).trans rfl;have hfz10_0:=z03 BK129.out 0;have hfz10_1:=z03 BK129.out 1)|((with_reducible refine z1r (f:=72) rfl ?_);refine z4s (some 6) rfl rfl Tryz.func72 (by kernel_rfl) rfl #[.string a0_1] rfl zA01 ?_;(with_reducible refine(z2e.calls k a0_1 true _ A2.out).mono ?_);rintro e w' ⟨rfl,⟨nd,rfl⟩⟩;refine⟨_,rfl,?_⟩))
       go_ret
       exact⟨by first|rfl|(simp[z12,z13] <;> rfl)|(simp[*,z12,z13] <;> rfl),by repeat(first|(with_reducible first|exact HB.out|apply z02|apply z04|apply z05|refine z08 ?_ GE129.out)|exact HB.out)⟩
     · rw[if_neg c8]at H;have c8b0:(a0_0==1)=false:=beq_eq_false_iff_ne.mpr c8;have c8b1:(a0_0 !=1)=true:=bne_iff_ne.mpr c8;obtain rfl:=Option.some.inj H;go_enter Tryz.func50,Tryz.ntmps50
       go_wp2_with (first|((with_reducible refine z1u (N:=1) rfl ?_);refine z28 ?hg (N:=1) ?hd (cs:=#[.int .i64 a0_0,.string a0_1]) (t:=69) ?hr ?_;(case hd=>rfl);(case hg=>rfl);(case hr=>first|(go_simp;done)|(go_simp;rfl));intro gb129 hg w11 hbox hb;have n0_:=z00.mk (z0g zA00 hb);have n1_:=z00.mk (hbox);have n2_:=z00.mk ((by rw[hg];exact(z0i zA00):w.heap.size≤gb129));have n3_:=z00.mk ((by rw[hg];exact(z0i zA00):w.heap.size≤gb129));clear HB;have HB:=n0_;have BK129:=n1_;have GW129:=n2_;have GE129:=n3_;clear n0_ n1_ n2_ n3_;clear hb hbox hg;have hcz12_0:w11.cell? ⟨gb129,0,none⟩=some (.int .i64 a0_0):=(z01 BK129.out 0).trans rfl;have hcz12_1:w11.cell? ⟨gb129,1,none⟩=some (.string a0_1):=(z01 BK129.out 1).trans rfl;have hfz12_0:=z03 BK129.out 0;have hfz12_1:=z03 BK129.out 1)|((with_reducible refine z1r (f:=72) rfl ?_);refine z4s (some 6) rfl rfl Tryz.func72 (by kernel_rfl) rfl #[.string a0_1] rfl zA01 ?_;(with_reducible refine(z2e.calls k a0_1 true _ A2.out).mono ?_);rintro e w' ⟨rfl,⟨nd,rfl⟩⟩;refine⟨_,rfl,?_⟩))
       go_ret
       exact⟨by first|rfl|(simp[z12,z13] <;> rfl)|(simp[*,z12,z13] <;> rfl),by repeat(first|(with_reducible first|exact HB.out|apply z02|apply z04|apply z05|refine z08 ?_ GE129.out)|exact HB.out)⟩
 · replace c3:=Bool.eq_false_iff.mpr c3;subst c3;have H1:(some (⟨#[]⟩:ByteArray))=some r:=by rw[if_neg (show ¬(false=true) by decide)]at H;exact H
   clear H;have H:=H1;clear H1;obtain rfl:=Option.some.inj H;go_enter Tryz.func50,Tryz.ntmps50
   go_wp2_with (first|((with_reducible refine z1u (N:=1) rfl ?_);refine z28 ?hg (N:=1) ?hd (cs:=#[.int .i64 a0_0,.string a0_1]) (t:=69) ?hr ?_;(case hd=>rfl);(case hg=>rfl);(case hr=>first|(go_simp;done)|(go_simp;rfl));intro gb129 hg w13 hbox hb;have n0_:=z00.mk (z0g zA00 hb);have n1_:=z00.mk (hbox);have n2_:=z00.mk ((by rw[hg];exact(z0i zA00):w.heap.size≤gb129));have n3_:=z00.mk ((by rw[hg];exact(z0i zA00):w.heap.size≤gb129));clear HB;have HB:=n0_;have BK129:=n1_;have GW129:=n2_;have GE129:=n3_;clear n0_ n1_ n2_ n3_;clear hb hbox hg;have hcz14_0:w13.cell? ⟨gb129,0,none⟩=some (.int .i64 a0_0):=(z01 BK129.out 0).trans rfl;have hcz14_1:w13.cell? ⟨gb129,1,none⟩=some (.string a0_1):=(z01 BK129.out 1).trans rfl;have hfz14_0:=z03 BK129.out 0;have hfz14_1:=z03 BK129.out 1)|((with_reducible refine z1r (f:=72) rfl ?_);refine z4s (some 6) rfl rfl Tryz.func72 (by kernel_rfl) rfl #[.string a0_1] rfl zA01 ?_;(with_reducible refine(z2e.calls k a0_1 false _ A2.out).mono ?_);rintro e w' ⟨rfl,⟨nd,rfl⟩⟩;refine⟨_,rfl,?_⟩))
   go_ret
   exact⟨by first|rfl|(simp[z12,z13] <;> rfl)|(simp[*,z12,z13] <;> rfl),by repeat(first|(with_reducible first|exact HB.out|apply z02|apply z04|apply z05|refine z08 ?_ GE129.out)|exact HB.out)⟩
def z1w.f (a0_0:ByteArray) (a0_1:Int) (a1:Int):Option (ByteArray):=if a0_1<a1 then(if 1+a0_0.size≤9223372036854775807 then(if 1+a0_0.size+1≤9223372036854775807 then(some (((⟨#[40]⟩:ByteArray)++a0_0)++(⟨#[41]⟩:ByteArray)))else(none))else(none))else(some a0_0)
set_option maxHeartbeats 8000000 in
set_option maxRecDepth 100000 in
theorem z1w.calls (a0_0:ByteArray) (a0_1:Int) (a1:Int) (r:ByteArray) (w:World) (h:z1w.f a0_0 a0_1 a1=some r) :
 Calls Tryz.prog 51 #[.agg #[.string a0_0,.int .i64 a0_1],.int .i64 a1] w fun e w'=>e=.returned (.string r)∧Below w.heap.size w w':=by
 have hu85:=Tryz.underlying85;have HB:=z00.mk (Below.refl w.heap.size w);have H:(if a0_1<a1 then(if 1+a0_0.size≤9223372036854775807 then(if 1+a0_0.size+1≤9223372036854775807 then(some (((⟨#[40]⟩:ByteArray)++a0_0)++(⟨#[41]⟩:ByteArray)))else(none))else(none))else(some a0_0))=some r:=h;clear h
 by_cases c3:a0_1<a1
 · rw[if_pos c3]at H;have c3b0:decide (a0_1<a1)=true:=decide_eq_true c3;clear c3
   by_cases c4:1+a0_0.size≤9223372036854775807
   · rw[if_pos c4]at H;have c4b0:=eq_true c4;have c4b1:decide (1+a0_0.size≤9223372036854775807)=true:=decide_eq_true c4
     try have c4b2:(9223372036854775807<1+a0_0.size)=False:=eq_false (Nat.not_lt.2 c4)
     by_cases c5:1+a0_0.size+1≤9223372036854775807
     · rw[if_pos c5]at H;have c5b0:=eq_true c5;have c5b1:decide (1+a0_0.size+1≤9223372036854775807)=true:=decide_eq_true c5
       try have c5b2:(9223372036854775807<1+a0_0.size+1)=False:=eq_false (Nat.not_lt.2 c5)
       obtain rfl:=Option.some.inj H;go_enter Tryz.func51,Tryz.ntmps51
       go_wp2_with (first|((with_reducible refine z1u (N:=2) rfl ?_);refine z28 ?hg (N:=2) ?hd (cs:=#[.string a0_0,.int .i64 a0_1]) (t:=85) ?hr ?_;(case hd=>rfl);(case hg=>rfl);(case hr=>first|(go_simp;done)|(go_simp;rfl));intro gb131 hg w6 hbox hb;have n0_:=z00.mk (z0g zA00 hb);have n1_:=z00.mk (hbox);have n2_:=z00.mk ((by rw[hg];exact(z0i zA00):w.heap.size≤gb131));have n3_:=z00.mk ((by rw[hg];exact(z0i zA00):w.heap.size≤gb131));clear HB;have HB:=n0_;have BK131:=n1_;have GW131:=n2_;have GE131:=n3_;clear n0_ n1_ n2_ n3_;clear hb hbox hg;have hcz7_0:w6.cell? ⟨gb131,0,none⟩=some (.string a0_0):=(z01 BK131.out 0).trans rfl;have hcz7_1:w6.cell? ⟨gb131,1,none⟩=some (.int .i64 a0_1):=(z01 BK131.out 1).trans rfl;have hfz7_0:=z03 BK131.out 0;have hfz7_1:=z03 BK131.out 1))
       go_ret
       exact⟨by first|rfl|(simp[z12,z13] <;> rfl)|(simp[*,z12,z13] <;> rfl),by repeat(first|(with_reducible first|exact HB.out|apply z02|apply z04|apply z05|refine z08 ?_ GE131.out)|exact HB.out)⟩
     · rw[if_neg c5]at H;exact absurd H (by simp)
   · rw[if_neg c4]at H;exact absurd H (by simp)
 · rw[if_neg c3]at H;have c3b0:decide (a0_1<a1)=false:=decide_eq_false c3;clear c3;obtain rfl:=Option.some.inj H;go_enter Tryz.func51,Tryz.ntmps51
   go_wp2_with (first|((with_reducible refine z1u (N:=2) rfl ?_);refine z28 ?hg (N:=2) ?hd (cs:=#[.string a0_0,.int .i64 a0_1]) (t:=85) ?hr ?_;(case hd=>rfl);(case hg=>rfl);(case hr=>first|(go_simp;done)|(go_simp;rfl));intro gb131 hg w8 hbox hb;have n0_:=z00.mk (z0g zA00 hb);have n1_:=z00.mk (hbox);have n2_:=z00.mk ((by rw[hg];exact(z0i zA00):w.heap.size≤gb131));have n3_:=z00.mk ((by rw[hg];exact(z0i zA00):w.heap.size≤gb131));clear HB;have HB:=n0_;have BK131:=n1_;have GW131:=n2_;have GE131:=n3_;clear n0_ n1_ n2_ n3_;clear hb hbox hg;have hcz9_0:w8.cell? ⟨gb131,0,none⟩=some (.string a0_0):=(z01 BK131.out 0).trans rfl;have hcz9_1:w8.cell? ⟨gb131,1,none⟩=some (.int .i64 a0_1):=(z01 BK131.out 1).trans rfl;have hfz9_0:=z03 BK131.out 0;have hfz9_1:=z03 BK131.out 1))
   go_ret
   exact⟨by first|rfl|(simp[z12,z13] <;> rfl)|(simp[*,z12,z13] <;> rfl),by repeat(first|(with_reducible first|exact HB.out|apply z02|apply z04|apply z05|refine z08 ?_ GE131.out)|exact HB.out)⟩
def z4g.f (a0:ByteArray):Option (ByteArray):=if a0.toList=([43]:List UInt8)then(some (⟨#[32,112,108,117,115,32]⟩:ByteArray))else(if a0.toList=([45]:List UInt8)then(some (⟨#[32,109,105,110,117,115,32]⟩:ByteArray))else(if a0.toList=([42]:List UInt8)then(some (⟨#[32,116,105,109,101,115,32]⟩:ByteArray))else(some (⟨#[]⟩:ByteArray))))
set_option maxHeartbeats 8000000 in
set_option maxRecDepth 100000 in
theorem z4g.calls (a0:ByteArray) (r:ByteArray) (w:World) (h:z4g.f a0=some r) :
 Calls Tryz.prog 75 #[.string a0] w fun e w'=>e=.returned (.string r)∧z0c w w':=by
 have H:(if a0.toList=([43]:List UInt8)then(some (⟨#[32,112,108,117,115,32]⟩:ByteArray))else(if a0.toList=([45]:List UInt8)then(some (⟨#[32,109,105,110,117,115,32]⟩:ByteArray))else(if a0.toList=([42]:List UInt8)then(some (⟨#[32,116,105,109,101,115,32]⟩:ByteArray))else(some (⟨#[]⟩:ByteArray)))))=some r:=h;clear h
 by_cases c2:a0.toList=([43]:List UInt8)
 · rw[if_pos c2]at H;have c2b0:(a0.toList==([43]:List UInt8))=true:=beq_iff_eq.mpr c2;have c2b1:(a0.toList !=([43]:List UInt8))=false:=bne_eq_false_iff_eq.mpr c2;clear c2;obtain rfl:=Option.some.inj H;go_enter Tryz.func75,Tryz.ntmps75;go_wp2
   go_ret
   exact⟨by first|rfl|(simp;done)|(simp[*];done),by repeat(first|exact z0c.refl _|apply z0c.step)⟩
 · rw[if_neg c2]at H;have c2b0:(a0.toList==([43]:List UInt8))=false:=beq_eq_false_iff_ne.mpr c2;have c2b1:(a0.toList !=([43]:List UInt8))=true:=bne_iff_ne.mpr c2
   by_cases c3:a0.toList=([45]:List UInt8)
   · rw[if_pos c3]at H;have c3b0:(a0.toList==([45]:List UInt8))=true:=beq_iff_eq.mpr c3;have c3b1:(a0.toList !=([45]:List UInt8))=false:=bne_eq_false_iff_eq.mpr c3;clear c3;obtain rfl:=Option.some.inj H;go_enter Tryz.func75,Tryz.ntmps75;go_wp2
     go_ret
     exact⟨by first|rfl|(simp;done)|(simp[*];done),by repeat(first|exact z0c.refl _|apply z0c.step)⟩
   · rw[if_neg c3]at H;have c3b0:(a0.toList==([45]:List UInt8))=false:=beq_eq_false_iff_ne.mpr c3;have c3b1:(a0.toList !=([45]:List UInt8))=true:=bne_iff_ne.mpr c3
     by_cases c4:a0.toList=([42]:List UInt8)
     · rw[if_pos c4]at H;have c4b0:(a0.toList==([42]:List UInt8))=true:=beq_iff_eq.mpr c4;have c4b1:(a0.toList !=([42]:List UInt8))=false:=bne_eq_false_iff_eq.mpr c4;clear c4;obtain rfl:=Option.some.inj H;go_enter Tryz.func75,Tryz.ntmps75;go_wp2
       go_ret
       exact⟨by first|rfl|(simp;done)|(simp[*];done),by repeat(first|exact z0c.refl _|apply z0c.step)⟩
     · rw[if_neg c4]at H;have c4b0:(a0.toList==([42]:List UInt8))=false:=beq_eq_false_iff_ne.mpr c4;have c4b1:(a0.toList !=([42]:List UInt8))=true:=bne_iff_ne.mpr c4;obtain rfl:=Option.some.inj H;go_enter Tryz.func75,Tryz.ntmps75;go_wp2
       go_ret
       exact⟨by first|rfl|(simp;done)|(simp[*];done),by repeat(first|exact z0c.refl _|apply z0c.step)⟩
end Go.Proofs.YthebhbomlllpeaaGreatDoor.X
namespace Go.Proofs.YthebhbomlllpeaaGreatDoor.X
open Go.RowKit Go.Proofs.YthebhbomlllpeaaGreatDoorW.PrintWords Go.Proofs.YthebhbomlllpeaaGreatDoorW.PrintLast Go.Proofs.YthebhbomlllpeaaGreatDoorW.PrintMore
theorem z4o (s:ByteArray) (a b:Nat):(s.extract a b).data.toList=(s.data.toList.take b).drop a:=by
 rw[ByteArray.data_extract,Array.toList_extract,List.extract_eq_take_drop,List.drop_take]
theorem z9x (s:ByteArray) (n:Nat):s.extract 0 n=⟨(s.data.toList.take n).toArray⟩:=by
 apply ByteArray.ext;apply Array.toList_inj.1;rw[z4o];simp
theorem z3n (s:ByteArray) (n:Nat):(s.extract n s.size).data.toList=s.data.toList.drop n:=by
 rw[z4o,List.take_of_length_le (by rw[z0f];exact Nat.le_refl _)]
def varL (l:List UInt8):Bool:=match l with
 |[]=>false
 |c::r=>decide ((c::r).length≤40)&&(z1g c&&decide (runN signB (c::r)=(c::r).length))
def z3a.f (a0:ByteArray):Option Bool:=if a0.size≤140737488355328 then some (varL a0.data.toList)else none
theorem z8v {s:ByteArray} (h:0<s.size):∃r,s.data.toList=s[0]::r:=by
 cases hl:s.data.toList with
 |nil=>have:=z0f s;rw[hl]at this;simp at this;omega
 |cons c r =>
  refine⟨r,?_⟩;have h2:=z5b s 0 h (by rw[z0f];exact h);have h3:s.data.toList[0]'(by rw[z0f];exact h)=c:=by simp[hl]
  rw[←h2,h3]
set_option maxHeartbeats 1600000 in
set_option maxRecDepth 100000 in
theorem z3a.calls (a0:ByteArray) (r:Bool) (w:World) (h:z3a.f a0=some r) :
 Calls Tryz.prog 107 #[.string a0] w fun e w'=>e=.returned (.bool r)∧z0c w w':=by
 unfold z3a.f at h
 split at h
 · rename_i hs;obtain rfl:=Option.some.inj h;clear h;have HR:=z00.mk (fun W=>z5j a0 hs W)
   by_cases hz:a0.size=0
   · have hl:varL a0.data.toList=false:=by
      have:a0.data.toList=[]:=List.eq_nil_of_length_eq_zero (by rw[z0f];exact hz);rw[this];rfl
     have hemp:a0.toList.isEmpty=true:=by rw[z2k,List.isEmpty_iff];exact List.eq_nil_of_length_eq_zero (by rw[z0f];exact hz)
     rw[hl];clear hz hl hs;go_enter Tryz.func107,Tryz.ntmps107;go_wp2
     go_ret
     exact⟨rfl,z0c.refl _⟩
   · have hp:0<a0.size:=by omega
     obtain⟨r,hr⟩:=z8v hp;have hemp:a0.toList.isEmpty=false:=by rw[z2k,hr];rfl
     have hlen:a0.data.toList.length=a0.size:=z0f a0;have hv:varL a0.data.toList=(decide (a0.size≤40)&&(z1g a0[0]&&decide (runN signB a0.data.toList=a0.size))):=by
      rw[←hlen,hr];rfl
     have HG:=z00.mk (fun W=>z1b.calls (a0[0].toNat:Int) (z1g a0[0]) W (z0y a0[0]));rw[hv];clear hr hlen hv
     by_cases h40:a0.size≤40
     · have e1:decide ((a0.size:Int)≤40)=true:=decide_eq_true (by omega);rw[decide_eq_true h40,Bool.true_and]
       cases hg:z1g a0[0]with
       |false =>
        rw[hg]at HG;rw[Bool.false_and];clear hg hz h40 hs;go_enter Tryz.func107,Tryz.ntmps107
        go_wp2_with (go_at_call 126;refine(HG.out _).mono ?_;rintro e w' ⟨rfl,⟨nd,rfl⟩⟩)
        go_ret
        exact⟨rfl,⟨_,rfl⟩⟩
       |true =>
        rw[hg]at HG;rw[Bool.true_and];clear hg hz hs
        by_cases hrun:runN signB a0.data.toList=a0.size
        · have e2:((runN signB a0.data.toList:Int)==(a0.size:Int))=true:=by rw[hrun];simp
          rw[decide_eq_true hrun];clear hrun h40;go_enter Tryz.func107,Tryz.ntmps107
          go_wp2_with (first|(go_at_call 126;refine(HG.out _).mono ?_;rintro e w' ⟨rfl,⟨nd,rfl⟩⟩)|(go_at_call 124;refine(HR.out _).mono ?_;rintro e w' ⟨rfl,⟨nd2,rfl⟩⟩))
          go_ret
          exact⟨rfl,⟨_,rfl⟩⟩
        · have e2:((runN signB a0.data.toList:Int)==(a0.size:Int))=false:=by rw[beq_eq_false_iff_ne];omega
          rw[decide_eq_false hrun];clear hrun h40;go_enter Tryz.func107,Tryz.ntmps107
          go_wp2_with (first|(go_at_call 126;refine(HG.out _).mono ?_;rintro e w' ⟨rfl,⟨nd,rfl⟩⟩)|(go_at_call 124;refine(HR.out _).mono ?_;rintro e w' ⟨rfl,⟨nd2,rfl⟩⟩))
          go_ret
          exact⟨rfl,⟨_,rfl⟩⟩
     · have e1:decide ((a0.size:Int)≤40)=false:=decide_eq_false (by omega);rw[decide_eq_false h40,Bool.false_and];clear hz h40 hs;go_enter Tryz.func107,Tryz.ntmps107;go_wp2
       go_ret
       exact⟨rfl,z0c.refl _⟩
 · cases h
theorem zlh {W:World} {g:Nat} {x0 x1 x2:Value} (hg:W.heap[g]?=some (.cells #[x0,x1,x2] 108 (0,0))) (k t a:Value) :
 (((W.setCell ⟨g,0,none⟩ k).setCell ⟨g,1,none⟩ t).setCell ⟨g,2,none⟩ a).heap[g]?=some (.cells #[k,t,a] 108 (0,0)) :=
 z0t (cs:=#[k,t,x2]) (z0t (cs:=#[k,x1,x2]) (z0t (cs:=#[x0,x1,x2]) hg 0 _ rfl) 1 _ rfl) 2 _ rfl
theorem z4d {w W:World} {tmps:Array Value} (hg:W.heap[w.heap.size]?=some (.cells #[.int .i64 0,.string ⟨#[]⟩,.int .i64 0] 108 (0,0))) (hb:Below w.heap.size w W) (k:Int) (t:ByteArray) (a:Int) (htmp:tmps.getD 4 undef=.pointer (some ⟨w.heap.size,0,none⟩)) :
 bodyPost Tryz.prog Tryz.f97 (fun e w'=>e=.returned (.agg #[.int .i64 k,.string t,.int .i64 a])∧Below w.heap.size w w') Exit.ret { tmps:=tmps,defers:=[]}
  (((W.setCell ⟨w.heap.size,0,none⟩ (.int .i64 k)).setCell ⟨w.heap.size,1,none⟩ (.string t)).setCell ⟨w.heap.size,2,none⟩ (.int .i64 a)) :=
 bodyPost_ret (z84 rfl (.cell w.heap.size 108 #[.int .i64 k,.string t,.int .i64 a] (0,0) _ htmp (zlh hg _ _ _) Tryz.underlying108 rfl (by kernel_rfl) .nil)) rfl
  ⟨rfl,z08 (z08 (z08 hb (Nat.le_refl _)) (Nat.le_refl _)) (Nat.le_refl _)⟩
theorem z2j (w:World) (m:Nat) (o:Obj):((w.alloc o).drewN m).heap[w.heap.size]?=some o:=z1a (z0l w o) m
theorem z18 (w:World) (m:Nat) (o:Obj):Below w.heap.size w ((w.alloc o).drewN m):=z04 ((Below.refl _ _).alloc (Nat.le_refl _) _) m
theorem zmq (s:ByteArray) (n:Nat):nmL (s.data.toList.take n)=nameB (s.extract 0 n):=by unfold nmL;rw[z9x]
def NextR (s:ByteArray) (a:Int):Option (Nat × Nat)→Ending→Prop
 |some (k,n),e=>e=.returned (.agg #[.int .i64 k,.string (s.extract 0 n),.int .i64 a])
 |none,e=>e=.panicked [{ v:=.iface 134 (.int .i64 a),recovered:=false }]
theorem zam {w W:World} {tmps:Array Value} (hg:W.heap[w.heap.size]?=some (.cells #[.int .i64 0,.string ⟨#[]⟩,.int .i64 0] 108 (0,0))) (hb:Below w.heap.size w W) (k:Int) (t:ByteArray) (a:Int) (htmp:tmps.getD 4 undef=.pointer (some ⟨w.heap.size,0,none⟩)) (o:Obj) :
 bodyPost Tryz.prog Tryz.f97 (fun e w'=>e=.returned (.agg #[.int .i64 k,.string t,.int .i64 a])∧Below w.heap.size w w') Exit.ret { tmps:=tmps,defers:=[]}
  ((((W.setCell ⟨w.heap.size,0,none⟩ (.int .i64 k)).setCell ⟨w.heap.size,1,none⟩ (.string t)).setCell ⟨w.heap.size,2,none⟩ (.int .i64 a)).alloc o) :=
 bodyPost_ret (z84 rfl (.cell w.heap.size 108 #[.int .i64 k,.string t,.int .i64 a] (0,0) _ htmp (z0d (zlh hg _ _ _) _) Tryz.underlying108 rfl (by kernel_rfl) .nil)) rfl
  ⟨rfl,z02 (z08 (z08 (z08 hb (Nat.le_refl _)) (Nat.le_refl _)) (Nat.le_refl _)) _⟩
theorem z67 {s:ByteArray} {p:List UInt8} (h:s.data.toList.take 2=p) (hp:p.length=2):2≤s.size:=by
 have:=congrArg List.length h;rw[List.length_take,hp,z0f]at this;omega
theorem z0k (s p:ByteArray) (b:Bool) (h:(s.data.toList.take 2==p.data.toList)=b) (hp:p.size=2:=by rfl):z09.f s p=some b:=by
 unfold z09.f stringslite_HasPrefix.f;rw[hp]
 by_cases h2:(s.size:Int)≥((2:Nat):Int)
 · rw[if_pos h2,if_pos (by omega),if_pos h2];simp only[Option.bind_some];have e:(s.extract 0 (((2:Nat):Int):Int).toNat).toList=s.data.toList.take 2:=by
    rw[z2k,z4o,List.drop_zero];rfl
   rw[e,z2k,h]
 · rw[if_neg h2];simp only[Option.bind_some]
   congr 1
   rw[←h]
   symm
   rw[beq_eq_false_iff_ne];intro e;have:=congrArg List.length e;rw[List.length_take,z0f,z0f,hp]at this;omega
theorem zeg (l:List UInt8) (c:UInt8):decide ((0:Int)≤Lib.indexByte l c)=l.contains c∧-1≤Lib.indexByte l c:=by
 induction l with
 |nil=>exact⟨rfl,Int.le_refl _⟩
 |cons b l ih =>
  obtain⟨ih1,ih2⟩:=ih;unfold Lib.indexByte
  by_cases hb:(b==c)=true
  · rw[if_pos hb];have:b=c:=beq_iff_eq.1 hb;subst this;exact⟨by simp,by decide⟩
  · rw[if_neg hb];have hc:(b::l).contains c=l.contains c:=by
     rw[List.contains_cons];have:(c==b)=false:=by rw[beq_eq_false_iff_ne];intro e;exact hb (beq_iff_eq.2 e.symm)
     rw[this,Bool.false_or]
    rw[hc,←ih1]
    by_cases hm:(Lib.indexByte l c==-1)=true
    · rw[if_pos hm];have:Lib.indexByte l c=-1:=beq_iff_eq.1 hm;rw[this];exact⟨rfl,by decide⟩
    · rw[if_neg hm];have:Lib.indexByte l c≠-1:=fun e=>hm (beq_iff_eq.2 e)
      refine⟨?_,by omega⟩;rw[Bool.eq_iff_iff,decide_eq_true_eq,decide_eq_true_eq];omega
theorem z6s (c:UInt8):decide ((0:Int)≤Lib.indexByte (⟨#[40,41,44,46,60,61,47,124,42,43,63,94]⟩:ByteArray).data.toList ((c.toNat:Int)).toNat.toUInt8)=oneB c:=by
 have e:((c.toNat:Int)).toNat.toUInt8=c:=by
  rw[Int.toNat_natCast];apply UInt8.toNat_inj.1;show(UInt8.ofNat c.toNat).toNat=c.toNat;rw[UInt8.toNat_ofNat'];have:=c.toNat_lt;omega
 rw[e,(zeg _ c).1];rfl
set_option maxHeartbeats 1600000 in
set_option maxRecDepth 100000 in
theorem zaw (s:ByteArray) (hs:s.size≤140737488355328) (a:Int) (w:World) (hp:0<s.size) (n:Nat) (hsm:z16 s[0]=true) (hn:runN lowB s.data.toList=n) (hN:nameB (s.extract 0 n)=true) :
 Calls Tryz.prog 97 #[.string s,.int .i64 a] w fun e w'=>NextR s a (some (1,n)) e∧Below w.heap.size w w':=by
 have HS:=z00.mk (fun W=>z15.calls (s[0].toNat:Int) (z16 s[0]) W (z0u s[0]));rw[hsm]at HS;have HR:=z00.mk (fun W=>zk5 s hs W);have hle:n≤s.size:=by have:=z4a lowB s.data.toList;rwa [z0f,hn]at this
 rw[hn]at HR;have HN:=z00.mk (fun W=>z0p.calls 42 (s.extract 0 n) _ W (z5m _ 42 (Nat.le_refl _)));rw[hN]at HN;clear hN hsm hs hn;go_enter Tryz.func97,Tryz.ntmps97
 go_wp2_with (first|(go_at_call 123;refine(HS.out _).mono ?_;rintro e w' ⟨rfl,⟨nd1,rfl⟩⟩)|(go_at_call 124;refine(HR.out _).mono ?_;rintro e w' ⟨rfl,⟨nd4,rfl⟩⟩)|(go_at_call 108;refine(HN.out _).mono ?_;rintro e w' ⟨rfl,⟨nd6,rfl⟩⟩))
 exact z4d (z2j w _ _) (z18 w _ _) 1 _ a (by rfl)
set_option maxHeartbeats 1600000 in
set_option maxRecDepth 100000 in
theorem z9y (s:ByteArray) (hs:s.size≤140737488355328) (a:Int) (w:World) (hp:0<s.size) (n:Nat) (hsm:z16 s[0]=true) (hn:runN lowB s.data.toList=n) (hN:nameB (s.extract 0 n)=false) :
 Calls Tryz.prog 97 #[.string s,.int .i64 a] w fun e w'=>NextR s a (none) e∧Below w.heap.size w w':=by
 have HS:=z00.mk (fun W=>z15.calls (s[0].toNat:Int) (z16 s[0]) W (z0u s[0]));rw[hsm]at HS;have HR:=z00.mk (fun W=>zk5 s hs W);have hle:n≤s.size:=by have:=z4a lowB s.data.toList;rwa [z0f,hn]at this
 rw[hn]at HR;have HN:=z00.mk (fun W=>z0p.calls 42 (s.extract 0 n) _ W (z5m _ 42 (Nat.le_refl _)));rw[hN]at HN;clear hN hsm hs hn;go_enter Tryz.func97,Tryz.ntmps97
 go_wp2_with (first|(go_at_call 123;refine(HS.out _).mono ?_;rintro e w' ⟨rfl,⟨nd1,rfl⟩⟩)|(go_at_call 124;refine(HR.out _).mono ?_;rintro e w' ⟨rfl,⟨nd4,rfl⟩⟩)|(go_at_call 108;refine(HN.out _).mono ?_;rintro e w' ⟨rfl,⟨nd6,rfl⟩⟩))
 exact⟨rfl,rfl,z18 w _ _⟩
set_option maxHeartbeats 1600000 in
set_option maxRecDepth 100000 in
theorem zbc (s:ByteArray) (hs:s.size≤140737488355328) (a:Int) (w:World) (hp:0<s.size) (n:Nat) (hsm:z16 s[0]=false) (hgr:z1g s[0]=true) (hn:runN signB s.data.toList=n) (hN:varL (s.data.toList.take n)=true) :
 Calls Tryz.prog 97 #[.string s,.int .i64 a] w fun e w'=>NextR s a (some (2,n)) e∧Below w.heap.size w w':=by
 have HS:=z00.mk (fun W=>z15.calls (s[0].toNat:Int) (z16 s[0]) W (z0u s[0]));rw[hsm]at HS;have HG:=z00.mk (fun W=>z1b.calls (s[0].toNat:Int) (z1g s[0]) W (z0y s[0]));rw[hgr]at HG;have HR:=z00.mk (fun W=>z5j s hs W);have hle:n≤s.size:=by have:=z4a signB s.data.toList;rwa [z0f,hn]at this
 rw[hn]at HR;have hv2:=fun W=>z3a.calls (s.extract 0 n) _ W (by unfold z3a.f;rw[if_pos zA0c])
 rw[z4o,List.drop_zero,hN]at hv2;have HN:=z00.mk hv2;clear hv2 hN hsm hgr hs hn;go_enter Tryz.func97,Tryz.ntmps97
 go_wp2_with (first|(go_at_call 123;refine(HS.out _).mono ?_;rintro e w' ⟨rfl,⟨nd1,rfl⟩⟩)|(go_at_call 126;refine(HG.out _).mono ?_;rintro e w' ⟨rfl,⟨nd2,rfl⟩⟩)|(go_at_call 124;refine(HR.out _).mono ?_;rintro e w' ⟨rfl,⟨nd4,rfl⟩⟩)|(go_at_call 107;refine(HN.out _).mono ?_;rintro e w' ⟨rfl,⟨nd5,rfl⟩⟩))
 exact z4d (z2j w _ _) (z18 w _ _) 2 _ a (by rfl)
set_option maxHeartbeats 1600000 in
set_option maxRecDepth 100000 in
theorem z9z (s:ByteArray) (hs:s.size≤140737488355328) (a:Int) (w:World) (hp:0<s.size) (n:Nat) (hsm:z16 s[0]=false) (hgr:z1g s[0]=true) (hn:runN signB s.data.toList=n) (hN:varL (s.data.toList.take n)=false) :
 Calls Tryz.prog 97 #[.string s,.int .i64 a] w fun e w'=>NextR s a (none) e∧Below w.heap.size w w':=by
 have HS:=z00.mk (fun W=>z15.calls (s[0].toNat:Int) (z16 s[0]) W (z0u s[0]));rw[hsm]at HS;have HG:=z00.mk (fun W=>z1b.calls (s[0].toNat:Int) (z1g s[0]) W (z0y s[0]));rw[hgr]at HG;have HR:=z00.mk (fun W=>z5j s hs W);have hle:n≤s.size:=by have:=z4a signB s.data.toList;rwa [z0f,hn]at this
 rw[hn]at HR;have hv2:=fun W=>z3a.calls (s.extract 0 n) _ W (by unfold z3a.f;rw[if_pos zA0c])
 rw[z4o,List.drop_zero,hN]at hv2;have HN:=z00.mk hv2;clear hv2 hN hsm hgr hs hn;go_enter Tryz.func97,Tryz.ntmps97
 go_wp2_with (first|(go_at_call 123;refine(HS.out _).mono ?_;rintro e w' ⟨rfl,⟨nd1,rfl⟩⟩)|(go_at_call 126;refine(HG.out _).mono ?_;rintro e w' ⟨rfl,⟨nd2,rfl⟩⟩)|(go_at_call 124;refine(HR.out _).mono ?_;rintro e w' ⟨rfl,⟨nd4,rfl⟩⟩)|(go_at_call 107;refine(HN.out _).mono ?_;rintro e w' ⟨rfl,⟨nd5,rfl⟩⟩))
 exact⟨rfl,rfl,z18 w _ _⟩
set_option maxHeartbeats 1600000 in
set_option maxRecDepth 100000 in
theorem zel (s:ByteArray) (hs:s.size≤140737488355328) (a:Int) (w:World) (hp:0<s.size) (n:Nat) (hLW:LaidW w) (hsm:z16 s[0]=false) (hgr:z1g s[0]=false) (h35:s[0]=35) (hn:1+runN signB (s.data.toList.drop 1)=n) (hR:(readR (s.extract 0 n)).2.2.2=0) :
 Calls Tryz.prog 97 #[.string s,.int .i64 a] w fun e w'=>NextR s a (some (3,n)) e∧Below w.heap.size w w':=by
 have HS:=z00.mk (fun W=>z15.calls (s[0].toNat:Int) (z16 s[0]) W (z0u s[0]));rw[hsm]at HS;have HG:=z00.mk (fun W=>z1b.calls (s[0].toNat:Int) (z1g s[0]) W (z0y s[0]));rw[hgr]at HG;have hr2:=fun W=>z5j (s.extract 1 s.size) zA0c W
 rw[z3n]at hr2;have hle:n≤s.size:=by have:=z4a signB (s.data.toList.drop 1);rw[List.length_drop,z0f]at this;omega
 generalize runN signB (s.data.toList.drop 1)=m at hn hr2
 have hw:wrap64 (1+(m:Int))=(n:Int):=by unfold wrap64;omega
 have HR:=z00.mk hr2;have HLW:=z00.mk hLW;obtain⟨q1,q2,q3,q4,hq⟩:∃q1 q2 q3 q4,readR (s.extract 0 n)=(q1,q2,q3,q4):=⟨_,_,_,_,rfl⟩
 rw[hq]at hR;have HRD:z00 (z1l.f (s.extract 0 n)=some (q1,q2,q3,q4)):=⟨zA0q⟩
 have e35:((s[0].toNat:Int)==35)=true:=by rw[h35];rfl
 have eq4:(q4==0)=true:=beq_iff_eq.2 hR;clear hR hq hn hr2 hLW hsm hgr hs h35;go_enter Tryz.func97,Tryz.ntmps97
 go_wp2_with (first|(go_at_call 123;refine(HS.out _).mono ?_;rintro e w' ⟨rfl,⟨nd1,rfl⟩⟩)|(go_at_call 126;refine(HG.out _).mono ?_;rintro e w' ⟨rfl,⟨nd2,rfl⟩⟩)|(go_at_call 124;refine(HR.out _).mono ?_;rintro e w' ⟨rfl,⟨nd4,rfl⟩⟩))
 refine(z1l.calls _ _ _ _ _ _ zA0v HRD.out).mono ?_;rintro e w1 ⟨rfl,hb1⟩;have HB:=z00.mk (z0g (z18 w _ _) hb1);have HK:=z00.mk (z0a (z2j w _ _) hb1);have hz:w.heap.size<w1.heap.size:=z27 HK.out;clear hb1;have hf0:=z03 HK.out 0;have hf1:=z03 HK.out 1;have hf2:=z03 HK.out 2;have hc0:w1.cell? ⟨w.heap.size,0,none⟩=some (.int .i64 0):=(z01 HK.out 0).trans rfl;have hc1:w1.cell? ⟨w.heap.size,1,none⟩=some (.string ⟨#[]⟩):=(z01 HK.out 1).trans rfl;have hc2:w1.cell? ⟨w.heap.size,2,none⟩=some (.int .i64 0):=(z01 HK.out 2).trans rfl;go_wp2;exact zam HK.out HB.out 3 _ a rfl _
set_option maxHeartbeats 1600000 in
set_option maxRecDepth 100000 in
theorem zf3 (s:ByteArray) (hs:s.size≤140737488355328) (a:Int) (w:World) (hp:0<s.size) (n:Nat) (hLW:LaidW w) (hsm:z16 s[0]=false) (hgr:z1g s[0]=false) (h35:s[0]=35) (hn:1+runN signB (s.data.toList.drop 1)=n) (hR:(readR (s.extract 0 n)).2.2.2≠0) :
 Calls Tryz.prog 97 #[.string s,.int .i64 a] w fun e w'=>NextR s a (none) e∧Below w.heap.size w w':=by
 have HS:=z00.mk (fun W=>z15.calls (s[0].toNat:Int) (z16 s[0]) W (z0u s[0]));rw[hsm]at HS;have HG:=z00.mk (fun W=>z1b.calls (s[0].toNat:Int) (z1g s[0]) W (z0y s[0]));rw[hgr]at HG;have hr2:=fun W=>z5j (s.extract 1 s.size) zA0c W
 rw[z3n]at hr2;have hle:n≤s.size:=by have:=z4a signB (s.data.toList.drop 1);rw[List.length_drop,z0f]at this;omega
 generalize runN signB (s.data.toList.drop 1)=m at hn hr2
 have hw:wrap64 (1+(m:Int))=(n:Int):=by unfold wrap64;omega
 have HR:=z00.mk hr2;have HLW:=z00.mk hLW;obtain⟨q1,q2,q3,q4,hq⟩:∃q1 q2 q3 q4,readR (s.extract 0 n)=(q1,q2,q3,q4):=⟨_,_,_,_,rfl⟩
 rw[hq]at hR;have HRD:z00 (z1l.f (s.extract 0 n)=some (q1,q2,q3,q4)):=⟨zA0q⟩
 have e35:((s[0].toNat:Int)==35)=true:=by rw[h35];rfl
 have eq4:(q4==0)=false:=beq_eq_false_iff_ne.2 hR;clear hR hq hn hr2 hLW hsm hgr hs h35;go_enter Tryz.func97,Tryz.ntmps97
 go_wp2_with (first|(go_at_call 123;refine(HS.out _).mono ?_;rintro e w' ⟨rfl,⟨nd1,rfl⟩⟩)|(go_at_call 126;refine(HG.out _).mono ?_;rintro e w' ⟨rfl,⟨nd2,rfl⟩⟩)|(go_at_call 124;refine(HR.out _).mono ?_;rintro e w' ⟨rfl,⟨nd4,rfl⟩⟩))
 refine(z1l.calls _ _ _ _ _ _ zA0v HRD.out).mono ?_;rintro e w1 ⟨rfl,hb1⟩;have HB:=z00.mk (z0g (z18 w _ _) hb1);have HK:=z00.mk (z0a (z2j w _ _) hb1);have hz:w.heap.size<w1.heap.size:=z27 HK.out;clear hb1;have hf0:=z03 HK.out 0;have hf1:=z03 HK.out 1;have hf2:=z03 HK.out 2;have hc0:w1.cell? ⟨w.heap.size,0,none⟩=some (.int .i64 0):=(z01 HK.out 0).trans rfl;have hc1:w1.cell? ⟨w.heap.size,1,none⟩=some (.string ⟨#[]⟩):=(z01 HK.out 1).trans rfl;have hc2:w1.cell? ⟨w.heap.size,2,none⟩=some (.int .i64 0):=(z01 HK.out 2).trans rfl;go_wp2;exact⟨rfl,rfl,z02 HB.out _⟩
set_option maxHeartbeats 1600000 in
set_option maxRecDepth 100000 in
theorem zcm (s:ByteArray) (hs:s.size≤140737488355328) (a:Int) (w:World) (hp:0<s.size) (n:Nat) (hLW:LaidW w) (hsm:z16 s[0]=false) (hgr:z1g s[0]=false) (h35:s[0]≠35) (hdg:z11 s[0]=true) (hn:1+runN signB (s.data.toList.drop 1)=n) (hR:(readR (s.extract 0 n)).2.2.2=0) :
 Calls Tryz.prog 97 #[.string s,.int .i64 a] w fun e w'=>NextR s a (some (3,n)) e∧Below w.heap.size w w':=by
 have HS:=z00.mk (fun W=>z15.calls (s[0].toNat:Int) (z16 s[0]) W (z0u s[0]));rw[hsm]at HS;have HG:=z00.mk (fun W=>z1b.calls (s[0].toNat:Int) (z1g s[0]) W (z0y s[0]));rw[hgr]at HG;have hr2:=fun W=>z5j (s.extract 1 s.size) zA0c W
 rw[z3n]at hr2;have hle:n≤s.size:=by have:=z4a signB (s.data.toList.drop 1);rw[List.length_drop,z0f]at this;omega
 generalize runN signB (s.data.toList.drop 1)=m at hn hr2
 have hw:wrap64 (1+(m:Int))=(n:Int):=by unfold wrap64;omega
 have HR:=z00.mk hr2;have HLW:=z00.mk hLW;obtain⟨q1,q2,q3,q4,hq⟩:∃q1 q2 q3 q4,readR (s.extract 0 n)=(q1,q2,q3,q4):=⟨_,_,_,_,rfl⟩
 rw[hq]at hR;have HRD:z00 (z1l.f (s.extract 0 n)=some (q1,q2,q3,q4)):=⟨zA0q⟩
 have HD:=z00.mk (fun W=>z0z.calls (s[0].toNat:Int) (z11 s[0]) W (z0r s[0]));rw[hdg]at HD;have e35:((s[0].toNat:Int)==35)=false:=by rw[show((s[0].toNat:Int)==35)=(s[0]==35)from z26 s[0] 35 (by omega)];exact beq_eq_false_iff_ne.2 h35
 have eq4:(q4==0)=true:=beq_iff_eq.2 hR;clear hR hq hn hr2 hLW hsm hgr hs h35 hdg;go_enter Tryz.func97,Tryz.ntmps97
 go_wp2_with (first|(go_at_call 123;refine(HS.out _).mono ?_;rintro e w' ⟨rfl,⟨nd1,rfl⟩⟩)|(go_at_call 126;refine(HG.out _).mono ?_;rintro e w' ⟨rfl,⟨nd2,rfl⟩⟩)|(go_at_call 128;refine(HD.out _).mono ?_;rintro e w' ⟨rfl,⟨nd3,rfl⟩⟩)|(go_at_call 124;refine(HR.out _).mono ?_;rintro e w' ⟨rfl,⟨nd4,rfl⟩⟩))
 refine(z1l.calls _ _ _ _ _ _ zA0v HRD.out).mono ?_;rintro e w1 ⟨rfl,hb1⟩;have HB:=z00.mk (z0g (z18 w _ _) hb1);have HK:=z00.mk (z0a (z2j w _ _) hb1);have hz:w.heap.size<w1.heap.size:=z27 HK.out;clear hb1;have hf0:=z03 HK.out 0;have hf1:=z03 HK.out 1;have hf2:=z03 HK.out 2;have hc0:w1.cell? ⟨w.heap.size,0,none⟩=some (.int .i64 0):=(z01 HK.out 0).trans rfl;have hc1:w1.cell? ⟨w.heap.size,1,none⟩=some (.string ⟨#[]⟩):=(z01 HK.out 1).trans rfl;have hc2:w1.cell? ⟨w.heap.size,2,none⟩=some (.int .i64 0):=(z01 HK.out 2).trans rfl;go_wp2;exact zam HK.out HB.out 3 _ a rfl _
set_option maxHeartbeats 1600000 in
set_option maxRecDepth 100000 in
theorem zcq (s:ByteArray) (hs:s.size≤140737488355328) (a:Int) (w:World) (hp:0<s.size) (n:Nat) (hLW:LaidW w) (hsm:z16 s[0]=false) (hgr:z1g s[0]=false) (h35:s[0]≠35) (hdg:z11 s[0]=true) (hn:1+runN signB (s.data.toList.drop 1)=n) (hR:(readR (s.extract 0 n)).2.2.2≠0) :
 Calls Tryz.prog 97 #[.string s,.int .i64 a] w fun e w'=>NextR s a (none) e∧Below w.heap.size w w':=by
 have HS:=z00.mk (fun W=>z15.calls (s[0].toNat:Int) (z16 s[0]) W (z0u s[0]));rw[hsm]at HS;have HG:=z00.mk (fun W=>z1b.calls (s[0].toNat:Int) (z1g s[0]) W (z0y s[0]));rw[hgr]at HG;have hr2:=fun W=>z5j (s.extract 1 s.size) zA0c W
 rw[z3n]at hr2;have hle:n≤s.size:=by have:=z4a signB (s.data.toList.drop 1);rw[List.length_drop,z0f]at this;omega
 generalize runN signB (s.data.toList.drop 1)=m at hn hr2
 have hw:wrap64 (1+(m:Int))=(n:Int):=by unfold wrap64;omega
 have HR:=z00.mk hr2;have HLW:=z00.mk hLW;obtain⟨q1,q2,q3,q4,hq⟩:∃q1 q2 q3 q4,readR (s.extract 0 n)=(q1,q2,q3,q4):=⟨_,_,_,_,rfl⟩
 rw[hq]at hR;have HRD:z00 (z1l.f (s.extract 0 n)=some (q1,q2,q3,q4)):=⟨zA0q⟩
 have HD:=z00.mk (fun W=>z0z.calls (s[0].toNat:Int) (z11 s[0]) W (z0r s[0]));rw[hdg]at HD;have e35:((s[0].toNat:Int)==35)=false:=by rw[show((s[0].toNat:Int)==35)=(s[0]==35)from z26 s[0] 35 (by omega)];exact beq_eq_false_iff_ne.2 h35
 have eq4:(q4==0)=false:=beq_eq_false_iff_ne.2 hR;clear hR hq hn hr2 hLW hsm hgr hs h35 hdg;go_enter Tryz.func97,Tryz.ntmps97
 go_wp2_with (first|(go_at_call 123;refine(HS.out _).mono ?_;rintro e w' ⟨rfl,⟨nd1,rfl⟩⟩)|(go_at_call 126;refine(HG.out _).mono ?_;rintro e w' ⟨rfl,⟨nd2,rfl⟩⟩)|(go_at_call 128;refine(HD.out _).mono ?_;rintro e w' ⟨rfl,⟨nd3,rfl⟩⟩)|(go_at_call 124;refine(HR.out _).mono ?_;rintro e w' ⟨rfl,⟨nd4,rfl⟩⟩))
 refine(z1l.calls _ _ _ _ _ _ zA0v HRD.out).mono ?_;rintro e w1 ⟨rfl,hb1⟩;have HB:=z00.mk (z0g (z18 w _ _) hb1);have HK:=z00.mk (z0a (z2j w _ _) hb1);have hz:w.heap.size<w1.heap.size:=z27 HK.out;clear hb1;have hf0:=z03 HK.out 0;have hf1:=z03 HK.out 1;have hf2:=z03 HK.out 2;have hc0:w1.cell? ⟨w.heap.size,0,none⟩=some (.int .i64 0):=(z01 HK.out 0).trans rfl;have hc1:w1.cell? ⟨w.heap.size,1,none⟩=some (.string ⟨#[]⟩):=(z01 HK.out 1).trans rfl;have hc2:w1.cell? ⟨w.heap.size,2,none⟩=some (.int .i64 0):=(z01 HK.out 2).trans rfl;go_wp2;exact⟨rfl,rfl,z02 HB.out _⟩
set_option maxHeartbeats 1600000 in
set_option maxRecDepth 100000 in
theorem zdp (s:ByteArray) (hs:s.size≤140737488355328) (a:Int) (w:World) (hp:0<s.size) (n:Nat) (hLW:LaidW w) (hsm:z16 s[0]=false) (hgr:z1g s[0]=false) (h45:s[0]=45) (h1:1<s.size) (hd1:z11 s[1]=true) (hn:1+runN signB (s.data.toList.drop 1)=n) (hR:(readR (s.extract 0 n)).2.2.2=0) :
 Calls Tryz.prog 97 #[.string s,.int .i64 a] w fun e w'=>NextR s a (some (3,n)) e∧Below w.heap.size w w':=by
 have HS:=z00.mk (fun W=>z15.calls (s[0].toNat:Int) (z16 s[0]) W (z0u s[0]));rw[hsm]at HS;have HG:=z00.mk (fun W=>z1b.calls (s[0].toNat:Int) (z1g s[0]) W (z0y s[0]));rw[hgr]at HG;have hr2:=fun W=>z5j (s.extract 1 s.size) zA0c W
 rw[z3n]at hr2;have hle:n≤s.size:=by have:=z4a signB (s.data.toList.drop 1);rw[List.length_drop,z0f]at this;omega
 generalize runN signB (s.data.toList.drop 1)=m at hn hr2
 have hw:wrap64 (1+(m:Int))=(n:Int):=by unfold wrap64;omega
 have HR:=z00.mk hr2;have HLW:=z00.mk hLW;obtain⟨q1,q2,q3,q4,hq⟩:∃q1 q2 q3 q4,readR (s.extract 0 n)=(q1,q2,q3,q4):=⟨_,_,_,_,rfl⟩
 rw[hq]at hR;have HRD:z00 (z1l.f (s.extract 0 n)=some (q1,q2,q3,q4)):=⟨zA0q⟩
 have HD:=z00.mk (fun W=>z0z.calls (s[0].toNat:Int) (z11 s[0]) W (z0r s[0]));rw[show z11 s[0]=false by rw[h45];rfl]at HD;have HD1:=z00.mk (fun W=>z0z.calls (s[1].toNat:Int) (z11 s[1]) W (z0r s[1]));rw[hd1]at HD1;have e35:((s[0].toNat:Int)==35)=false:=by rw[h45];rfl
 have e45:((s[0].toNat:Int)==45)=true:=by rw[h45];rfl
 have el:decide ((1:Int)<(s.size:Int))=true:=decide_eq_true (by omega);have eq4:(q4==0)=true:=beq_iff_eq.2 hR;clear hR hq hn hr2 hLW hsm hgr hs h45 hd1;go_enter Tryz.func97,Tryz.ntmps97
 go_wp2_with (first|(go_at_call 123;refine(HS.out _).mono ?_;rintro e w' ⟨rfl,⟨nd1,rfl⟩⟩)|(go_at_call 126;refine(HG.out _).mono ?_;rintro e w' ⟨rfl,⟨nd2,rfl⟩⟩)|(go_at_call 128;(with_reducible refine(HD.out _).mono ?_);rintro e w' ⟨rfl,⟨nd3,rfl⟩⟩)|(go_at_call 128;(with_reducible refine(HD1.out _).mono ?_);rintro e w' ⟨rfl,⟨nd7,rfl⟩⟩)|(go_at_call 124;refine(HR.out _).mono ?_;rintro e w' ⟨rfl,⟨nd4,rfl⟩⟩))
 refine(z1l.calls _ _ _ _ _ _ zA0v HRD.out).mono ?_;rintro e w1 ⟨rfl,hb1⟩;have HB:=z00.mk (z0g (z18 w _ _) hb1);have HK:=z00.mk (z0a (z2j w _ _) hb1);have hz:w.heap.size<w1.heap.size:=z27 HK.out;clear hb1;have hf0:=z03 HK.out 0;have hf1:=z03 HK.out 1;have hf2:=z03 HK.out 2;have hc0:w1.cell? ⟨w.heap.size,0,none⟩=some (.int .i64 0):=(z01 HK.out 0).trans rfl;have hc1:w1.cell? ⟨w.heap.size,1,none⟩=some (.string ⟨#[]⟩):=(z01 HK.out 1).trans rfl;have hc2:w1.cell? ⟨w.heap.size,2,none⟩=some (.int .i64 0):=(z01 HK.out 2).trans rfl;go_wp2;exact zam HK.out HB.out 3 _ a rfl _
set_option maxHeartbeats 1600000 in
set_option maxRecDepth 100000 in
theorem zdk (s:ByteArray) (hs:s.size≤140737488355328) (a:Int) (w:World) (hp:0<s.size) (n:Nat) (hLW:LaidW w) (hsm:z16 s[0]=false) (hgr:z1g s[0]=false) (h45:s[0]=45) (h1:1<s.size) (hd1:z11 s[1]=true) (hn:1+runN signB (s.data.toList.drop 1)=n) (hR:(readR (s.extract 0 n)).2.2.2≠0) :
 Calls Tryz.prog 97 #[.string s,.int .i64 a] w fun e w'=>NextR s a (none) e∧Below w.heap.size w w':=by
 have HS:=z00.mk (fun W=>z15.calls (s[0].toNat:Int) (z16 s[0]) W (z0u s[0]));rw[hsm]at HS;have HG:=z00.mk (fun W=>z1b.calls (s[0].toNat:Int) (z1g s[0]) W (z0y s[0]));rw[hgr]at HG;have hr2:=fun W=>z5j (s.extract 1 s.size) zA0c W
 rw[z3n]at hr2;have hle:n≤s.size:=by have:=z4a signB (s.data.toList.drop 1);rw[List.length_drop,z0f]at this;omega
 generalize runN signB (s.data.toList.drop 1)=m at hn hr2
 have hw:wrap64 (1+(m:Int))=(n:Int):=by unfold wrap64;omega
 have HR:=z00.mk hr2;have HLW:=z00.mk hLW;obtain⟨q1,q2,q3,q4,hq⟩:∃q1 q2 q3 q4,readR (s.extract 0 n)=(q1,q2,q3,q4):=⟨_,_,_,_,rfl⟩
 rw[hq]at hR;have HRD:z00 (z1l.f (s.extract 0 n)=some (q1,q2,q3,q4)):=⟨zA0q⟩
 have HD:=z00.mk (fun W=>z0z.calls (s[0].toNat:Int) (z11 s[0]) W (z0r s[0]));rw[show z11 s[0]=false by rw[h45];rfl]at HD;have HD1:=z00.mk (fun W=>z0z.calls (s[1].toNat:Int) (z11 s[1]) W (z0r s[1]));rw[hd1]at HD1;have e35:((s[0].toNat:Int)==35)=false:=by rw[h45];rfl
 have e45:((s[0].toNat:Int)==45)=true:=by rw[h45];rfl
 have el:decide ((1:Int)<(s.size:Int))=true:=decide_eq_true (by omega);have eq4:(q4==0)=false:=beq_eq_false_iff_ne.2 hR;clear hR hq hn hr2 hLW hsm hgr hs h45 hd1;go_enter Tryz.func97,Tryz.ntmps97
 go_wp2_with (first|(go_at_call 123;refine(HS.out _).mono ?_;rintro e w' ⟨rfl,⟨nd1,rfl⟩⟩)|(go_at_call 126;refine(HG.out _).mono ?_;rintro e w' ⟨rfl,⟨nd2,rfl⟩⟩)|(go_at_call 128;(with_reducible refine(HD.out _).mono ?_);rintro e w' ⟨rfl,⟨nd3,rfl⟩⟩)|(go_at_call 128;(with_reducible refine(HD1.out _).mono ?_);rintro e w' ⟨rfl,⟨nd7,rfl⟩⟩)|(go_at_call 124;refine(HR.out _).mono ?_;rintro e w' ⟨rfl,⟨nd4,rfl⟩⟩))
 refine(z1l.calls _ _ _ _ _ _ zA0v HRD.out).mono ?_;rintro e w1 ⟨rfl,hb1⟩;have HB:=z00.mk (z0g (z18 w _ _) hb1);have HK:=z00.mk (z0a (z2j w _ _) hb1);have hz:w.heap.size<w1.heap.size:=z27 HK.out;clear hb1;have hf0:=z03 HK.out 0;have hf1:=z03 HK.out 1;have hf2:=z03 HK.out 2;have hc0:w1.cell? ⟨w.heap.size,0,none⟩=some (.int .i64 0):=(z01 HK.out 0).trans rfl;have hc1:w1.cell? ⟨w.heap.size,1,none⟩=some (.string ⟨#[]⟩):=(z01 HK.out 1).trans rfl;have hc2:w1.cell? ⟨w.heap.size,2,none⟩=some (.int .i64 0):=(z01 HK.out 2).trans rfl;go_wp2;exact⟨rfl,rfl,z02 HB.out _⟩
set_option maxHeartbeats 1600000 in
set_option maxRecDepth 100000 in
theorem zes (s:ByteArray) (hs:s.size≤140737488355328) (a:Int) (w:World) (hp:0<s.size) (hsm:z16 s[0]=false) (hgr:z1g s[0]=false) (h35:s[0]≠35) (hdg:z11 s[0]=false) (h45:s[0]≠45) (p0:(s.data.toList.take 2==[60,61])=true) :
 Calls Tryz.prog 97 #[.string s,.int .i64 a] w fun e w'=>NextR s a (some (4,2)) e∧Below w.heap.size w w':=by
 have HS:=z00.mk (fun W=>z15.calls (s[0].toNat:Int) (z16 s[0]) W (z0u s[0]));rw[hsm]at HS;have HG:=z00.mk (fun W=>z1b.calls (s[0].toNat:Int) (z1g s[0]) W (z0y s[0]));rw[hgr]at HG;have HD:=z00.mk (fun W=>z0z.calls (s[0].toNat:Int) (z11 s[0]) W (z0r s[0]));rw[hdg]at HD;have e35:((s[0].toNat:Int)==35)=false:=by rw[show((s[0].toNat:Int)==35)=(s[0]==35)from z26 s[0] 35 (by omega)];exact beq_eq_false_iff_ne.2 h35
 have e45:((s[0].toNat:Int)==45)=false:=by rw[show((s[0].toNat:Int)==45)=(s[0]==45)from z26 s[0] 45 (by omega)];exact beq_eq_false_iff_ne.2 h45
 have HP0:=z00.mk (fun W=>z09.calls s ⟨#[60,61]⟩ _ W (z0k s _ _ p0));have h2:(2:Nat)≤s.size:=z67 (beq_iff_eq.1 p0) rfl;clear hsm hgr hs h35 hdg h45 p0;go_enter Tryz.func97,Tryz.ntmps97
 go_wp2_with (first|(go_at_call 123;refine(HS.out _).mono ?_;rintro e w' ⟨rfl,⟨nd1,rfl⟩⟩)|(go_at_call 126;refine(HG.out _).mono ?_;rintro e w' ⟨rfl,⟨nd2,rfl⟩⟩)|(go_at_call 128;refine(HD.out _).mono ?_;rintro e w' ⟨rfl,⟨nd3,rfl⟩⟩)|(go_at_call 130;(with_reducible refine(HP0.out _).mono ?_);rintro e w' ⟨rfl,⟨np0,rfl⟩⟩))
 exact z4d (z2j w _ _) (z18 w _ _) 4 _ a (by rfl)
set_option maxHeartbeats 1600000 in
set_option maxRecDepth 100000 in
theorem zfh (s:ByteArray) (hs:s.size≤140737488355328) (a:Int) (w:World) (hp:0<s.size) (hsm:z16 s[0]=false) (hgr:z1g s[0]=false) (h35:s[0]≠35) (hdg:z11 s[0]=false) (h45:s[0]≠45) (p0:(s.data.toList.take 2==[60,61])=false) (p1:(s.data.toList.take 2==[33,61])=true) :
 Calls Tryz.prog 97 #[.string s,.int .i64 a] w fun e w'=>NextR s a (some (4,2)) e∧Below w.heap.size w w':=by
 have HS:=z00.mk (fun W=>z15.calls (s[0].toNat:Int) (z16 s[0]) W (z0u s[0]));rw[hsm]at HS;have HG:=z00.mk (fun W=>z1b.calls (s[0].toNat:Int) (z1g s[0]) W (z0y s[0]));rw[hgr]at HG;have HD:=z00.mk (fun W=>z0z.calls (s[0].toNat:Int) (z11 s[0]) W (z0r s[0]));rw[hdg]at HD;have e35:((s[0].toNat:Int)==35)=false:=by rw[show((s[0].toNat:Int)==35)=(s[0]==35)from z26 s[0] 35 (by omega)];exact beq_eq_false_iff_ne.2 h35
 have e45:((s[0].toNat:Int)==45)=false:=by rw[show((s[0].toNat:Int)==45)=(s[0]==45)from z26 s[0] 45 (by omega)];exact beq_eq_false_iff_ne.2 h45
 have HP0:=z00.mk (fun W=>z09.calls s ⟨#[60,61]⟩ _ W (z0k s _ _ p0));have HP1:=z00.mk (fun W=>z09.calls s ⟨#[33,61]⟩ _ W (z0k s _ _ p1));have h2:(2:Nat)≤s.size:=z67 (beq_iff_eq.1 p1) rfl;clear hsm hgr hs h35 hdg h45 p0 p1;go_enter Tryz.func97,Tryz.ntmps97
 go_wp2_with (first|(go_at_call 123;refine(HS.out _).mono ?_;rintro e w' ⟨rfl,⟨nd1,rfl⟩⟩)|(go_at_call 126;refine(HG.out _).mono ?_;rintro e w' ⟨rfl,⟨nd2,rfl⟩⟩)|(go_at_call 128;refine(HD.out _).mono ?_;rintro e w' ⟨rfl,⟨nd3,rfl⟩⟩)|(go_at_call 130;(with_reducible refine(HP0.out _).mono ?_);rintro e w' ⟨rfl,⟨np0,rfl⟩⟩)|(go_at_call 130;(with_reducible refine(HP1.out _).mono ?_);rintro e w' ⟨rfl,⟨np1,rfl⟩⟩))
 exact z4d (z2j w _ _) (z18 w _ _) 4 _ a (by rfl)
set_option maxHeartbeats 1600000 in
set_option maxRecDepth 100000 in
theorem zeq (s:ByteArray) (hs:s.size≤140737488355328) (a:Int) (w:World) (hp:0<s.size) (hsm:z16 s[0]=false) (hgr:z1g s[0]=false) (h35:s[0]≠35) (hdg:z11 s[0]=false) (h45:s[0]≠45) (p0:(s.data.toList.take 2==[60,61])=false) (p1:(s.data.toList.take 2==[33,61])=false) (p2:(s.data.toList.take 2==[58,45])=true) :
 Calls Tryz.prog 97 #[.string s,.int .i64 a] w fun e w'=>NextR s a (some (4,2)) e∧Below w.heap.size w w':=by
 have HS:=z00.mk (fun W=>z15.calls (s[0].toNat:Int) (z16 s[0]) W (z0u s[0]));rw[hsm]at HS;have HG:=z00.mk (fun W=>z1b.calls (s[0].toNat:Int) (z1g s[0]) W (z0y s[0]));rw[hgr]at HG;have HD:=z00.mk (fun W=>z0z.calls (s[0].toNat:Int) (z11 s[0]) W (z0r s[0]));rw[hdg]at HD;have e35:((s[0].toNat:Int)==35)=false:=by rw[show((s[0].toNat:Int)==35)=(s[0]==35)from z26 s[0] 35 (by omega)];exact beq_eq_false_iff_ne.2 h35
 have e45:((s[0].toNat:Int)==45)=false:=by rw[show((s[0].toNat:Int)==45)=(s[0]==45)from z26 s[0] 45 (by omega)];exact beq_eq_false_iff_ne.2 h45
 have HP0:=z00.mk (fun W=>z09.calls s ⟨#[60,61]⟩ _ W (z0k s _ _ p0));have HP1:=z00.mk (fun W=>z09.calls s ⟨#[33,61]⟩ _ W (z0k s _ _ p1));have HP2:=z00.mk (fun W=>z09.calls s ⟨#[58,45]⟩ _ W (z0k s _ _ p2));have h2:(2:Nat)≤s.size:=z67 (beq_iff_eq.1 p2) rfl;clear hsm hgr hs h35 hdg h45 p0 p1 p2;go_enter Tryz.func97,Tryz.ntmps97
 go_wp2_with (first|(go_at_call 123;refine(HS.out _).mono ?_;rintro e w' ⟨rfl,⟨nd1,rfl⟩⟩)|(go_at_call 126;refine(HG.out _).mono ?_;rintro e w' ⟨rfl,⟨nd2,rfl⟩⟩)|(go_at_call 128;refine(HD.out _).mono ?_;rintro e w' ⟨rfl,⟨nd3,rfl⟩⟩)|(go_at_call 130;(with_reducible refine(HP0.out _).mono ?_);rintro e w' ⟨rfl,⟨np0,rfl⟩⟩)|(go_at_call 130;(with_reducible refine(HP1.out _).mono ?_);rintro e w' ⟨rfl,⟨np1,rfl⟩⟩)|(go_at_call 130;(with_reducible refine(HP2.out _).mono ?_);rintro e w' ⟨rfl,⟨np2,rfl⟩⟩))
 exact z4d (z2j w _ _) (z18 w _ _) 4 _ a (by rfl)
set_option maxHeartbeats 1600000 in
set_option maxRecDepth 100000 in
theorem zff (s:ByteArray) (hs:s.size≤140737488355328) (a:Int) (w:World) (hp:0<s.size) (hsm:z16 s[0]=false) (hgr:z1g s[0]=false) (h35:s[0]≠35) (hdg:z11 s[0]=false) (h45:s[0]≠45) (p0:(s.data.toList.take 2==[60,61])=false) (p1:(s.data.toList.take 2==[33,61])=false) (p2:(s.data.toList.take 2==[58,45])=false) (p3:(s.data.toList.take 2==[63,45])=true) :
 Calls Tryz.prog 97 #[.string s,.int .i64 a] w fun e w'=>NextR s a (some (4,2)) e∧Below w.heap.size w w':=by
 have HS:=z00.mk (fun W=>z15.calls (s[0].toNat:Int) (z16 s[0]) W (z0u s[0]));rw[hsm]at HS;have HG:=z00.mk (fun W=>z1b.calls (s[0].toNat:Int) (z1g s[0]) W (z0y s[0]));rw[hgr]at HG;have HD:=z00.mk (fun W=>z0z.calls (s[0].toNat:Int) (z11 s[0]) W (z0r s[0]));rw[hdg]at HD;have e35:((s[0].toNat:Int)==35)=false:=by rw[show((s[0].toNat:Int)==35)=(s[0]==35)from z26 s[0] 35 (by omega)];exact beq_eq_false_iff_ne.2 h35
 have e45:((s[0].toNat:Int)==45)=false:=by rw[show((s[0].toNat:Int)==45)=(s[0]==45)from z26 s[0] 45 (by omega)];exact beq_eq_false_iff_ne.2 h45
 have HP0:=z00.mk (fun W=>z09.calls s ⟨#[60,61]⟩ _ W (z0k s _ _ p0));have HP1:=z00.mk (fun W=>z09.calls s ⟨#[33,61]⟩ _ W (z0k s _ _ p1));have HP2:=z00.mk (fun W=>z09.calls s ⟨#[58,45]⟩ _ W (z0k s _ _ p2));have HP3:=z00.mk (fun W=>z09.calls s ⟨#[63,45]⟩ _ W (z0k s _ _ p3));have h2:(2:Nat)≤s.size:=z67 (beq_iff_eq.1 p3) rfl;clear hsm hgr hs h35 hdg h45 p0 p1 p2 p3;go_enter Tryz.func97,Tryz.ntmps97
 go_wp2_with (first|(go_at_call 123;refine(HS.out _).mono ?_;rintro e w' ⟨rfl,⟨nd1,rfl⟩⟩)|(go_at_call 126;refine(HG.out _).mono ?_;rintro e w' ⟨rfl,⟨nd2,rfl⟩⟩)|(go_at_call 128;refine(HD.out _).mono ?_;rintro e w' ⟨rfl,⟨nd3,rfl⟩⟩)|(go_at_call 130;(with_reducible refine(HP0.out _).mono ?_);rintro e w' ⟨rfl,⟨np0,rfl⟩⟩)|(go_at_call 130;(with_reducible refine(HP1.out _).mono ?_);rintro e w' ⟨rfl,⟨np1,rfl⟩⟩)|(go_at_call 130;(with_reducible refine(HP2.out _).mono ?_);rintro e w' ⟨rfl,⟨np2,rfl⟩⟩)|(go_at_call 130;(with_reducible refine(HP3.out _).mono ?_);rintro e w' ⟨rfl,⟨np3,rfl⟩⟩))
 exact z4d (z2j w _ _) (z18 w _ _) 4 _ a (by rfl)
set_option maxHeartbeats 1600000 in
set_option maxRecDepth 100000 in
theorem ze6 (s:ByteArray) (hs:s.size≤140737488355328) (a:Int) (w:World) (hp:0<s.size) (hsm:z16 s[0]=false) (hgr:z1g s[0]=false) (h35:s[0]≠35) (hdg:z11 s[0]=false) (h45:s[0]≠45) (p0:(s.data.toList.take 2==[60,61])=false) (p1:(s.data.toList.take 2==[33,61])=false) (p2:(s.data.toList.take 2==[58,45])=false) (p3:(s.data.toList.take 2==[63,45])=false) (hone:oneB s[0]=true) :
 Calls Tryz.prog 97 #[.string s,.int .i64 a] w fun e w'=>NextR s a (some (4,1)) e∧Below w.heap.size w w':=by
 have HS:=z00.mk (fun W=>z15.calls (s[0].toNat:Int) (z16 s[0]) W (z0u s[0]));rw[hsm]at HS;have HG:=z00.mk (fun W=>z1b.calls (s[0].toNat:Int) (z1g s[0]) W (z0y s[0]));rw[hgr]at HG;have HD:=z00.mk (fun W=>z0z.calls (s[0].toNat:Int) (z11 s[0]) W (z0r s[0]));rw[hdg]at HD;have e35:((s[0].toNat:Int)==35)=false:=by rw[show((s[0].toNat:Int)==35)=(s[0]==35)from z26 s[0] 35 (by omega)];exact beq_eq_false_iff_ne.2 h35
 have e45:((s[0].toNat:Int)==45)=false:=by rw[show((s[0].toNat:Int)==45)=(s[0]==45)from z26 s[0] 45 (by omega)];exact beq_eq_false_iff_ne.2 h45
 have HP0:=z00.mk (fun W=>z09.calls s ⟨#[60,61]⟩ _ W (z0k s _ _ p0));have HP1:=z00.mk (fun W=>z09.calls s ⟨#[33,61]⟩ _ W (z0k s _ _ p1));have HP2:=z00.mk (fun W=>z09.calls s ⟨#[58,45]⟩ _ W (z0k s _ _ p2));have HP3:=z00.mk (fun W=>z09.calls s ⟨#[63,45]⟩ _ W (z0k s _ _ p3));have HI:=z00.mk (fun W=>Tryz.strings_IndexByte ⟨#[40,41,44,46,60,61,47,124,42,43,63,94]⟩ (s[0].toNat:Int) W);have ei:decide ((0:Int)≤Lib.indexByte (⟨#[40,41,44,46,60,61,47,124,42,43,63,94]⟩:ByteArray).data.toList ((s[0].toNat:Int)).toNat.toUInt8)=true:=(z6s s[0]).trans hone
 generalize Lib.indexByte (⟨#[40,41,44,46,60,61,47,124,42,43,63,94]⟩:ByteArray).data.toList ((s[0].toNat:Int)).toNat.toUInt8=ix at HI ei
 clear hsm hgr hs h35 hdg h45 p0 p1 p2 p3 hone;go_enter Tryz.func97,Tryz.ntmps97
 go_wp2_with (first|(go_at_call 123;refine(HS.out _).mono ?_;rintro e w' ⟨rfl,⟨nd1,rfl⟩⟩)|(go_at_call 126;refine(HG.out _).mono ?_;rintro e w' ⟨rfl,⟨nd2,rfl⟩⟩)|(go_at_call 128;refine(HD.out _).mono ?_;rintro e w' ⟨rfl,⟨nd3,rfl⟩⟩)|(go_at_call 130;(with_reducible refine(HP0.out _).mono ?_);rintro e w' ⟨rfl,⟨np0,rfl⟩⟩)|(go_at_call 130;(with_reducible refine(HP1.out _).mono ?_);rintro e w' ⟨rfl,⟨np1,rfl⟩⟩)|(go_at_call 130;(with_reducible refine(HP2.out _).mono ?_);rintro e w' ⟨rfl,⟨np2,rfl⟩⟩)|(go_at_call 130;(with_reducible refine(HP3.out _).mono ?_);rintro e w' ⟨rfl,⟨np3,rfl⟩⟩)|(go_at_call 96;refine(HI.out _).mono ?_;rintro e w' ⟨rfl,rfl⟩))
 exact z4d (z2j w _ _) (z18 w _ _) 4 _ a (by rfl)
set_option maxHeartbeats 1600000 in
set_option maxRecDepth 100000 in
theorem zek (s:ByteArray) (hs:s.size≤140737488355328) (a:Int) (w:World) (hp:0<s.size) (hsm:z16 s[0]=false) (hgr:z1g s[0]=false) (h35:s[0]≠35) (hdg:z11 s[0]=false) (h45:s[0]≠45) (p0:(s.data.toList.take 2==[60,61])=false) (p1:(s.data.toList.take 2==[33,61])=false) (p2:(s.data.toList.take 2==[58,45])=false) (p3:(s.data.toList.take 2==[63,45])=false) (hone:oneB s[0]=false) :
 Calls Tryz.prog 97 #[.string s,.int .i64 a] w fun e w'=>NextR s a (none) e∧Below w.heap.size w w':=by
 have HS:=z00.mk (fun W=>z15.calls (s[0].toNat:Int) (z16 s[0]) W (z0u s[0]));rw[hsm]at HS;have HG:=z00.mk (fun W=>z1b.calls (s[0].toNat:Int) (z1g s[0]) W (z0y s[0]));rw[hgr]at HG;have HD:=z00.mk (fun W=>z0z.calls (s[0].toNat:Int) (z11 s[0]) W (z0r s[0]));rw[hdg]at HD;have e35:((s[0].toNat:Int)==35)=false:=by rw[show((s[0].toNat:Int)==35)=(s[0]==35)from z26 s[0] 35 (by omega)];exact beq_eq_false_iff_ne.2 h35
 have e45:((s[0].toNat:Int)==45)=false:=by rw[show((s[0].toNat:Int)==45)=(s[0]==45)from z26 s[0] 45 (by omega)];exact beq_eq_false_iff_ne.2 h45
 have HP0:=z00.mk (fun W=>z09.calls s ⟨#[60,61]⟩ _ W (z0k s _ _ p0));have HP1:=z00.mk (fun W=>z09.calls s ⟨#[33,61]⟩ _ W (z0k s _ _ p1));have HP2:=z00.mk (fun W=>z09.calls s ⟨#[58,45]⟩ _ W (z0k s _ _ p2));have HP3:=z00.mk (fun W=>z09.calls s ⟨#[63,45]⟩ _ W (z0k s _ _ p3));have HI:=z00.mk (fun W=>Tryz.strings_IndexByte ⟨#[40,41,44,46,60,61,47,124,42,43,63,94]⟩ (s[0].toNat:Int) W);have ei:decide ((0:Int)≤Lib.indexByte (⟨#[40,41,44,46,60,61,47,124,42,43,63,94]⟩:ByteArray).data.toList ((s[0].toNat:Int)).toNat.toUInt8)=false:=(z6s s[0]).trans hone
 generalize Lib.indexByte (⟨#[40,41,44,46,60,61,47,124,42,43,63,94]⟩:ByteArray).data.toList ((s[0].toNat:Int)).toNat.toUInt8=ix at HI ei
 clear hsm hgr hs h35 hdg h45 p0 p1 p2 p3 hone;go_enter Tryz.func97,Tryz.ntmps97
 go_wp2_with (first|(go_at_call 123;refine(HS.out _).mono ?_;rintro e w' ⟨rfl,⟨nd1,rfl⟩⟩)|(go_at_call 126;refine(HG.out _).mono ?_;rintro e w' ⟨rfl,⟨nd2,rfl⟩⟩)|(go_at_call 128;refine(HD.out _).mono ?_;rintro e w' ⟨rfl,⟨nd3,rfl⟩⟩)|(go_at_call 130;(with_reducible refine(HP0.out _).mono ?_);rintro e w' ⟨rfl,⟨np0,rfl⟩⟩)|(go_at_call 130;(with_reducible refine(HP1.out _).mono ?_);rintro e w' ⟨rfl,⟨np1,rfl⟩⟩)|(go_at_call 130;(with_reducible refine(HP2.out _).mono ?_);rintro e w' ⟨rfl,⟨np2,rfl⟩⟩)|(go_at_call 130;(with_reducible refine(HP3.out _).mono ?_);rintro e w' ⟨rfl,⟨np3,rfl⟩⟩)|(go_at_call 96;refine(HI.out _).mono ?_;rintro e w' ⟨rfl,rfl⟩))
 exact⟨rfl,rfl,z18 w _ _⟩
set_option maxHeartbeats 1600000 in
set_option maxRecDepth 100000 in
theorem zer (s:ByteArray) (hs:s.size≤140737488355328) (a:Int) (w:World) (hp:0<s.size) (hsm:z16 s[0]=false) (hgr:z1g s[0]=false) (h35:s[0]≠35) (hdg:z11 s[0]=false) (h45:s[0]=45) (h1:s.size≤1) (p0:(s.data.toList.take 2==[60,61])=false) (p1:(s.data.toList.take 2==[33,61])=false) (p2:(s.data.toList.take 2==[58,45])=false) (p3:(s.data.toList.take 2==[63,45])=false) (hone:oneB s[0]=true) :
 Calls Tryz.prog 97 #[.string s,.int .i64 a] w fun e w'=>NextR s a (some (4,1)) e∧Below w.heap.size w w':=by
 have HS:=z00.mk (fun W=>z15.calls (s[0].toNat:Int) (z16 s[0]) W (z0u s[0]));rw[hsm]at HS;have HG:=z00.mk (fun W=>z1b.calls (s[0].toNat:Int) (z1g s[0]) W (z0y s[0]));rw[hgr]at HG;have HD:=z00.mk (fun W=>z0z.calls (s[0].toNat:Int) (z11 s[0]) W (z0r s[0]));rw[hdg]at HD;have e35:((s[0].toNat:Int)==35)=false:=by rw[show((s[0].toNat:Int)==35)=(s[0]==35)from z26 s[0] 35 (by omega)];exact beq_eq_false_iff_ne.2 h35
 have e45:((s[0].toNat:Int)==45)=true:=by rw[h45];rfl
 have el:decide ((1:Int)<(s.size:Int))=false:=decide_eq_false (by omega);have HP0:=z00.mk (fun W=>z09.calls s ⟨#[60,61]⟩ _ W (z0k s _ _ p0));have HP1:=z00.mk (fun W=>z09.calls s ⟨#[33,61]⟩ _ W (z0k s _ _ p1));have HP2:=z00.mk (fun W=>z09.calls s ⟨#[58,45]⟩ _ W (z0k s _ _ p2));have HP3:=z00.mk (fun W=>z09.calls s ⟨#[63,45]⟩ _ W (z0k s _ _ p3));have HI:=z00.mk (fun W=>Tryz.strings_IndexByte ⟨#[40,41,44,46,60,61,47,124,42,43,63,94]⟩ (s[0].toNat:Int) W);have ei:decide ((0:Int)≤Lib.indexByte (⟨#[40,41,44,46,60,61,47,124,42,43,63,94]⟩:ByteArray).data.toList ((s[0].toNat:Int)).toNat.toUInt8)=true:=(z6s s[0]).trans hone
 generalize Lib.indexByte (⟨#[40,41,44,46,60,61,47,124,42,43,63,94]⟩:ByteArray).data.toList ((s[0].toNat:Int)).toNat.toUInt8=ix at HI ei
 clear hsm hgr hs h35 hdg h45 p0 p1 p2 p3 hone;go_enter Tryz.func97,Tryz.ntmps97
 go_wp2_with (first|(go_at_call 123;refine(HS.out _).mono ?_;rintro e w' ⟨rfl,⟨nd1,rfl⟩⟩)|(go_at_call 126;refine(HG.out _).mono ?_;rintro e w' ⟨rfl,⟨nd2,rfl⟩⟩)|(go_at_call 128;refine(HD.out _).mono ?_;rintro e w' ⟨rfl,⟨nd3,rfl⟩⟩)|(go_at_call 130;(with_reducible refine(HP0.out _).mono ?_);rintro e w' ⟨rfl,⟨np0,rfl⟩⟩)|(go_at_call 130;(with_reducible refine(HP1.out _).mono ?_);rintro e w' ⟨rfl,⟨np1,rfl⟩⟩)|(go_at_call 130;(with_reducible refine(HP2.out _).mono ?_);rintro e w' ⟨rfl,⟨np2,rfl⟩⟩)|(go_at_call 130;(with_reducible refine(HP3.out _).mono ?_);rintro e w' ⟨rfl,⟨np3,rfl⟩⟩)|(go_at_call 96;refine(HI.out _).mono ?_;rintro e w' ⟨rfl,rfl⟩))
 exact z4d (z2j w _ _) (z18 w _ _) 4 _ a (by rfl)
set_option maxHeartbeats 1600000 in
set_option maxRecDepth 100000 in
theorem zfr (s:ByteArray) (hs:s.size≤140737488355328) (a:Int) (w:World) (hp:0<s.size) (hsm:z16 s[0]=false) (hgr:z1g s[0]=false) (h35:s[0]≠35) (hdg:z11 s[0]=false) (h45:s[0]=45) (h1:s.size≤1) (p0:(s.data.toList.take 2==[60,61])=false) (p1:(s.data.toList.take 2==[33,61])=false) (p2:(s.data.toList.take 2==[58,45])=false) (p3:(s.data.toList.take 2==[63,45])=false) (hone:oneB s[0]=false) :
 Calls Tryz.prog 97 #[.string s,.int .i64 a] w fun e w'=>NextR s a (none) e∧Below w.heap.size w w':=by
 have HS:=z00.mk (fun W=>z15.calls (s[0].toNat:Int) (z16 s[0]) W (z0u s[0]));rw[hsm]at HS;have HG:=z00.mk (fun W=>z1b.calls (s[0].toNat:Int) (z1g s[0]) W (z0y s[0]));rw[hgr]at HG;have HD:=z00.mk (fun W=>z0z.calls (s[0].toNat:Int) (z11 s[0]) W (z0r s[0]));rw[hdg]at HD;have e35:((s[0].toNat:Int)==35)=false:=by rw[show((s[0].toNat:Int)==35)=(s[0]==35)from z26 s[0] 35 (by omega)];exact beq_eq_false_iff_ne.2 h35
 have e45:((s[0].toNat:Int)==45)=true:=by rw[h45];rfl
 have el:decide ((1:Int)<(s.size:Int))=false:=decide_eq_false (by omega);have HP0:=z00.mk (fun W=>z09.calls s ⟨#[60,61]⟩ _ W (z0k s _ _ p0));have HP1:=z00.mk (fun W=>z09.calls s ⟨#[33,61]⟩ _ W (z0k s _ _ p1));have HP2:=z00.mk (fun W=>z09.calls s ⟨#[58,45]⟩ _ W (z0k s _ _ p2));have HP3:=z00.mk (fun W=>z09.calls s ⟨#[63,45]⟩ _ W (z0k s _ _ p3));have HI:=z00.mk (fun W=>Tryz.strings_IndexByte ⟨#[40,41,44,46,60,61,47,124,42,43,63,94]⟩ (s[0].toNat:Int) W);have ei:decide ((0:Int)≤Lib.indexByte (⟨#[40,41,44,46,60,61,47,124,42,43,63,94]⟩:ByteArray).data.toList ((s[0].toNat:Int)).toNat.toUInt8)=false:=(z6s s[0]).trans hone
 generalize Lib.indexByte (⟨#[40,41,44,46,60,61,47,124,42,43,63,94]⟩:ByteArray).data.toList ((s[0].toNat:Int)).toNat.toUInt8=ix at HI ei
 clear hsm hgr hs h35 hdg h45 p0 p1 p2 p3 hone;go_enter Tryz.func97,Tryz.ntmps97
 go_wp2_with (first|(go_at_call 123;refine(HS.out _).mono ?_;rintro e w' ⟨rfl,⟨nd1,rfl⟩⟩)|(go_at_call 126;refine(HG.out _).mono ?_;rintro e w' ⟨rfl,⟨nd2,rfl⟩⟩)|(go_at_call 128;refine(HD.out _).mono ?_;rintro e w' ⟨rfl,⟨nd3,rfl⟩⟩)|(go_at_call 130;(with_reducible refine(HP0.out _).mono ?_);rintro e w' ⟨rfl,⟨np0,rfl⟩⟩)|(go_at_call 130;(with_reducible refine(HP1.out _).mono ?_);rintro e w' ⟨rfl,⟨np1,rfl⟩⟩)|(go_at_call 130;(with_reducible refine(HP2.out _).mono ?_);rintro e w' ⟨rfl,⟨np2,rfl⟩⟩)|(go_at_call 130;(with_reducible refine(HP3.out _).mono ?_);rintro e w' ⟨rfl,⟨np3,rfl⟩⟩)|(go_at_call 96;refine(HI.out _).mono ?_;rintro e w' ⟨rfl,rfl⟩))
 exact⟨rfl,rfl,z18 w _ _⟩
set_option maxHeartbeats 1600000 in
set_option maxRecDepth 100000 in
theorem zgc (s:ByteArray) (hs:s.size≤140737488355328) (a:Int) (w:World) (hp:0<s.size) (hsm:z16 s[0]=false) (hgr:z1g s[0]=false) (h35:s[0]≠35) (hdg:z11 s[0]=false) (h45:s[0]=45) (h1:1<s.size) (hd1:z11 s[1]=false) (p0:(s.data.toList.take 2==[60,61])=true) :
 Calls Tryz.prog 97 #[.string s,.int .i64 a] w fun e w'=>NextR s a (some (4,2)) e∧Below w.heap.size w w':=by
 have HS:=z00.mk (fun W=>z15.calls (s[0].toNat:Int) (z16 s[0]) W (z0u s[0]));rw[hsm]at HS;have HG:=z00.mk (fun W=>z1b.calls (s[0].toNat:Int) (z1g s[0]) W (z0y s[0]));rw[hgr]at HG;have HD:=z00.mk (fun W=>z0z.calls (s[0].toNat:Int) (z11 s[0]) W (z0r s[0]));rw[hdg]at HD;have e35:((s[0].toNat:Int)==35)=false:=by rw[show((s[0].toNat:Int)==35)=(s[0]==35)from z26 s[0] 35 (by omega)];exact beq_eq_false_iff_ne.2 h35
 have e45:((s[0].toNat:Int)==45)=true:=by rw[h45];rfl
 have el:decide ((1:Int)<(s.size:Int))=true:=decide_eq_true (by omega);have HD1:=z00.mk (fun W=>z0z.calls (s[1].toNat:Int) (z11 s[1]) W (z0r s[1]));rw[hd1]at HD1;have HP0:=z00.mk (fun W=>z09.calls s ⟨#[60,61]⟩ _ W (z0k s _ _ p0));have h2:(2:Nat)≤s.size:=z67 (beq_iff_eq.1 p0) rfl;clear hsm hgr hs h35 hdg h45 hd1 p0;go_enter Tryz.func97,Tryz.ntmps97
 go_wp2_with (first|(go_at_call 123;refine(HS.out _).mono ?_;rintro e w' ⟨rfl,⟨nd1,rfl⟩⟩)|(go_at_call 126;refine(HG.out _).mono ?_;rintro e w' ⟨rfl,⟨nd2,rfl⟩⟩)|(go_at_call 128;(with_reducible refine(HD.out _).mono ?_);rintro e w' ⟨rfl,⟨nd3,rfl⟩⟩)|(go_at_call 128;(with_reducible refine(HD1.out _).mono ?_);rintro e w' ⟨rfl,⟨nd7,rfl⟩⟩)|(go_at_call 130;(with_reducible refine(HP0.out _).mono ?_);rintro e w' ⟨rfl,⟨np0,rfl⟩⟩))
 exact z4d (z2j w _ _) (z18 w _ _) 4 _ a (by rfl)
set_option maxHeartbeats 1600000 in
set_option maxRecDepth 100000 in
theorem zfw (s:ByteArray) (hs:s.size≤140737488355328) (a:Int) (w:World) (hp:0<s.size) (hsm:z16 s[0]=false) (hgr:z1g s[0]=false) (h35:s[0]≠35) (hdg:z11 s[0]=false) (h45:s[0]=45) (h1:1<s.size) (hd1:z11 s[1]=false) (p0:(s.data.toList.take 2==[60,61])=false) (p1:(s.data.toList.take 2==[33,61])=true) :
 Calls Tryz.prog 97 #[.string s,.int .i64 a] w fun e w'=>NextR s a (some (4,2)) e∧Below w.heap.size w w':=by
 have HS:=z00.mk (fun W=>z15.calls (s[0].toNat:Int) (z16 s[0]) W (z0u s[0]));rw[hsm]at HS;have HG:=z00.mk (fun W=>z1b.calls (s[0].toNat:Int) (z1g s[0]) W (z0y s[0]));rw[hgr]at HG;have HD:=z00.mk (fun W=>z0z.calls (s[0].toNat:Int) (z11 s[0]) W (z0r s[0]));rw[hdg]at HD;have e35:((s[0].toNat:Int)==35)=false:=by rw[show((s[0].toNat:Int)==35)=(s[0]==35)from z26 s[0] 35 (by omega)];exact beq_eq_false_iff_ne.2 h35
 have e45:((s[0].toNat:Int)==45)=true:=by rw[h45];rfl
 have el:decide ((1:Int)<(s.size:Int))=true:=decide_eq_true (by omega);have HD1:=z00.mk (fun W=>z0z.calls (s[1].toNat:Int) (z11 s[1]) W (z0r s[1]));rw[hd1]at HD1;have HP0:=z00.mk (fun W=>z09.calls s ⟨#[60,61]⟩ _ W (z0k s _ _ p0));have HP1:=z00.mk (fun W=>z09.calls s ⟨#[33,61]⟩ _ W (z0k s _ _ p1));have h2:(2:Nat)≤s.size:=z67 (beq_iff_eq.1 p1) rfl;clear hsm hgr hs h35 hdg h45 hd1 p0 p1;go_enter Tryz.func97,Tryz.ntmps97
 go_wp2_with (first|(go_at_call 123;refine(HS.out _).mono ?_;rintro e w' ⟨rfl,⟨nd1,rfl⟩⟩)|(go_at_call 126;refine(HG.out _).mono ?_;rintro e w' ⟨rfl,⟨nd2,rfl⟩⟩)|(go_at_call 128;(with_reducible refine(HD.out _).mono ?_);rintro e w' ⟨rfl,⟨nd3,rfl⟩⟩)|(go_at_call 128;(with_reducible refine(HD1.out _).mono ?_);rintro e w' ⟨rfl,⟨nd7,rfl⟩⟩)|(go_at_call 130;(with_reducible refine(HP0.out _).mono ?_);rintro e w' ⟨rfl,⟨np0,rfl⟩⟩)|(go_at_call 130;(with_reducible refine(HP1.out _).mono ?_);rintro e w' ⟨rfl,⟨np1,rfl⟩⟩))
 exact z4d (z2j w _ _) (z18 w _ _) 4 _ a (by rfl)
set_option maxHeartbeats 1600000 in
set_option maxRecDepth 100000 in
theorem zg1 (s:ByteArray) (hs:s.size≤140737488355328) (a:Int) (w:World) (hp:0<s.size) (hsm:z16 s[0]=false) (hgr:z1g s[0]=false) (h35:s[0]≠35) (hdg:z11 s[0]=false) (h45:s[0]=45) (h1:1<s.size) (hd1:z11 s[1]=false) (p0:(s.data.toList.take 2==[60,61])=false) (p1:(s.data.toList.take 2==[33,61])=false) (p2:(s.data.toList.take 2==[58,45])=true) :
 Calls Tryz.prog 97 #[.string s,.int .i64 a] w fun e w'=>NextR s a (some (4,2)) e∧Below w.heap.size w w':=by
 have HS:=z00.mk (fun W=>z15.calls (s[0].toNat:Int) (z16 s[0]) W (z0u s[0]));rw[hsm]at HS;have HG:=z00.mk (fun W=>z1b.calls (s[0].toNat:Int) (z1g s[0]) W (z0y s[0]));rw[hgr]at HG;have HD:=z00.mk (fun W=>z0z.calls (s[0].toNat:Int) (z11 s[0]) W (z0r s[0]));rw[hdg]at HD;have e35:((s[0].toNat:Int)==35)=false:=by rw[show((s[0].toNat:Int)==35)=(s[0]==35)from z26 s[0] 35 (by omega)];exact beq_eq_false_iff_ne.2 h35
 have e45:((s[0].toNat:Int)==45)=true:=by rw[h45];rfl
 have el:decide ((1:Int)<(s.size:Int))=true:=decide_eq_true (by omega);have HD1:=z00.mk (fun W=>z0z.calls (s[1].toNat:Int) (z11 s[1]) W (z0r s[1]));rw[hd1]at HD1;have HP0:=z00.mk (fun W=>z09.calls s ⟨#[60,61]⟩ _ W (z0k s _ _ p0));have HP1:=z00.mk (fun W=>z09.calls s ⟨#[33,61]⟩ _ W (z0k s _ _ p1));have HP2:=z00.mk (fun W=>z09.calls s ⟨#[58,45]⟩ _ W (z0k s _ _ p2));have h2:(2:Nat)≤s.size:=z67 (beq_iff_eq.1 p2) rfl;clear hsm hgr hs h35 hdg h45 hd1 p0 p1 p2;go_enter Tryz.func97,Tryz.ntmps97
 go_wp2_with (first|(go_at_call 123;refine(HS.out _).mono ?_;rintro e w' ⟨rfl,⟨nd1,rfl⟩⟩)|(go_at_call 126;refine(HG.out _).mono ?_;rintro e w' ⟨rfl,⟨nd2,rfl⟩⟩)|(go_at_call 128;(with_reducible refine(HD.out _).mono ?_);rintro e w' ⟨rfl,⟨nd3,rfl⟩⟩)|(go_at_call 128;(with_reducible refine(HD1.out _).mono ?_);rintro e w' ⟨rfl,⟨nd7,rfl⟩⟩)|(go_at_call 130;(with_reducible refine(HP0.out _).mono ?_);rintro e w' ⟨rfl,⟨np0,rfl⟩⟩)|(go_at_call 130;(with_reducible refine(HP1.out _).mono ?_);rintro e w' ⟨rfl,⟨np1,rfl⟩⟩)|(go_at_call 130;(with_reducible refine(HP2.out _).mono ?_);rintro e w' ⟨rfl,⟨np2,rfl⟩⟩))
 exact z4d (z2j w _ _) (z18 w _ _) 4 _ a (by rfl)
set_option maxHeartbeats 1600000 in
set_option maxRecDepth 100000 in
theorem zg5 (s:ByteArray) (hs:s.size≤140737488355328) (a:Int) (w:World) (hp:0<s.size) (hsm:z16 s[0]=false) (hgr:z1g s[0]=false) (h35:s[0]≠35) (hdg:z11 s[0]=false) (h45:s[0]=45) (h1:1<s.size) (hd1:z11 s[1]=false) (p0:(s.data.toList.take 2==[60,61])=false) (p1:(s.data.toList.take 2==[33,61])=false) (p2:(s.data.toList.take 2==[58,45])=false) (p3:(s.data.toList.take 2==[63,45])=true) :
 Calls Tryz.prog 97 #[.string s,.int .i64 a] w fun e w'=>NextR s a (some (4,2)) e∧Below w.heap.size w w':=by
 have HS:=z00.mk (fun W=>z15.calls (s[0].toNat:Int) (z16 s[0]) W (z0u s[0]));rw[hsm]at HS;have HG:=z00.mk (fun W=>z1b.calls (s[0].toNat:Int) (z1g s[0]) W (z0y s[0]));rw[hgr]at HG;have HD:=z00.mk (fun W=>z0z.calls (s[0].toNat:Int) (z11 s[0]) W (z0r s[0]));rw[hdg]at HD;have e35:((s[0].toNat:Int)==35)=false:=by rw[show((s[0].toNat:Int)==35)=(s[0]==35)from z26 s[0] 35 (by omega)];exact beq_eq_false_iff_ne.2 h35
 have e45:((s[0].toNat:Int)==45)=true:=by rw[h45];rfl
 have el:decide ((1:Int)<(s.size:Int))=true:=decide_eq_true (by omega);have HD1:=z00.mk (fun W=>z0z.calls (s[1].toNat:Int) (z11 s[1]) W (z0r s[1]));rw[hd1]at HD1;have HP0:=z00.mk (fun W=>z09.calls s ⟨#[60,61]⟩ _ W (z0k s _ _ p0));have HP1:=z00.mk (fun W=>z09.calls s ⟨#[33,61]⟩ _ W (z0k s _ _ p1));have HP2:=z00.mk (fun W=>z09.calls s ⟨#[58,45]⟩ _ W (z0k s _ _ p2));have HP3:=z00.mk (fun W=>z09.calls s ⟨#[63,45]⟩ _ W (z0k s _ _ p3));have h2:(2:Nat)≤s.size:=z67 (beq_iff_eq.1 p3) rfl;clear hsm hgr hs h35 hdg h45 hd1 p0 p1 p2 p3;go_enter Tryz.func97,Tryz.ntmps97
 go_wp2_with (first|(go_at_call 123;refine(HS.out _).mono ?_;rintro e w' ⟨rfl,⟨nd1,rfl⟩⟩)|(go_at_call 126;refine(HG.out _).mono ?_;rintro e w' ⟨rfl,⟨nd2,rfl⟩⟩)|(go_at_call 128;(with_reducible refine(HD.out _).mono ?_);rintro e w' ⟨rfl,⟨nd3,rfl⟩⟩)|(go_at_call 128;(with_reducible refine(HD1.out _).mono ?_);rintro e w' ⟨rfl,⟨nd7,rfl⟩⟩)|(go_at_call 130;(with_reducible refine(HP0.out _).mono ?_);rintro e w' ⟨rfl,⟨np0,rfl⟩⟩)|(go_at_call 130;(with_reducible refine(HP1.out _).mono ?_);rintro e w' ⟨rfl,⟨np1,rfl⟩⟩)|(go_at_call 130;(with_reducible refine(HP2.out _).mono ?_);rintro e w' ⟨rfl,⟨np2,rfl⟩⟩)|(go_at_call 130;(with_reducible refine(HP3.out _).mono ?_);rintro e w' ⟨rfl,⟨np3,rfl⟩⟩))
 exact z4d (z2j w _ _) (z18 w _ _) 4 _ a (by rfl)
set_option maxHeartbeats 1600000 in
set_option maxRecDepth 100000 in
theorem zgi (s:ByteArray) (hs:s.size≤140737488355328) (a:Int) (w:World) (hp:0<s.size) (hsm:z16 s[0]=false) (hgr:z1g s[0]=false) (h35:s[0]≠35) (hdg:z11 s[0]=false) (h45:s[0]=45) (h1:1<s.size) (hd1:z11 s[1]=false) (p0:(s.data.toList.take 2==[60,61])=false) (p1:(s.data.toList.take 2==[33,61])=false) (p2:(s.data.toList.take 2==[58,45])=false) (p3:(s.data.toList.take 2==[63,45])=false) (hone:oneB s[0]=true) :
 Calls Tryz.prog 97 #[.string s,.int .i64 a] w fun e w'=>NextR s a (some (4,1)) e∧Below w.heap.size w w':=by
 have HS:=z00.mk (fun W=>z15.calls (s[0].toNat:Int) (z16 s[0]) W (z0u s[0]));rw[hsm]at HS;have HG:=z00.mk (fun W=>z1b.calls (s[0].toNat:Int) (z1g s[0]) W (z0y s[0]));rw[hgr]at HG;have HD:=z00.mk (fun W=>z0z.calls (s[0].toNat:Int) (z11 s[0]) W (z0r s[0]));rw[hdg]at HD;have e35:((s[0].toNat:Int)==35)=false:=by rw[show((s[0].toNat:Int)==35)=(s[0]==35)from z26 s[0] 35 (by omega)];exact beq_eq_false_iff_ne.2 h35
 have e45:((s[0].toNat:Int)==45)=true:=by rw[h45];rfl
 have el:decide ((1:Int)<(s.size:Int))=true:=decide_eq_true (by omega);have HD1:=z00.mk (fun W=>z0z.calls (s[1].toNat:Int) (z11 s[1]) W (z0r s[1]));rw[hd1]at HD1;have HP0:=z00.mk (fun W=>z09.calls s ⟨#[60,61]⟩ _ W (z0k s _ _ p0));have HP1:=z00.mk (fun W=>z09.calls s ⟨#[33,61]⟩ _ W (z0k s _ _ p1));have HP2:=z00.mk (fun W=>z09.calls s ⟨#[58,45]⟩ _ W (z0k s _ _ p2));have HP3:=z00.mk (fun W=>z09.calls s ⟨#[63,45]⟩ _ W (z0k s _ _ p3));have HI:=z00.mk (fun W=>Tryz.strings_IndexByte ⟨#[40,41,44,46,60,61,47,124,42,43,63,94]⟩ (s[0].toNat:Int) W);have ei:decide ((0:Int)≤Lib.indexByte (⟨#[40,41,44,46,60,61,47,124,42,43,63,94]⟩:ByteArray).data.toList ((s[0].toNat:Int)).toNat.toUInt8)=true:=(z6s s[0]).trans hone
 generalize Lib.indexByte (⟨#[40,41,44,46,60,61,47,124,42,43,63,94]⟩:ByteArray).data.toList ((s[0].toNat:Int)).toNat.toUInt8=ix at HI ei
 clear hsm hgr hs h35 hdg h45 hd1 p0 p1 p2 p3 hone;go_enter Tryz.func97,Tryz.ntmps97
 go_wp2_with (first|(go_at_call 123;refine(HS.out _).mono ?_;rintro e w' ⟨rfl,⟨nd1,rfl⟩⟩)|(go_at_call 126;refine(HG.out _).mono ?_;rintro e w' ⟨rfl,⟨nd2,rfl⟩⟩)|(go_at_call 128;(with_reducible refine(HD.out _).mono ?_);rintro e w' ⟨rfl,⟨nd3,rfl⟩⟩)|(go_at_call 128;(with_reducible refine(HD1.out _).mono ?_);rintro e w' ⟨rfl,⟨nd7,rfl⟩⟩)|(go_at_call 130;(with_reducible refine(HP0.out _).mono ?_);rintro e w' ⟨rfl,⟨np0,rfl⟩⟩)|(go_at_call 130;(with_reducible refine(HP1.out _).mono ?_);rintro e w' ⟨rfl,⟨np1,rfl⟩⟩)|(go_at_call 130;(with_reducible refine(HP2.out _).mono ?_);rintro e w' ⟨rfl,⟨np2,rfl⟩⟩)|(go_at_call 130;(with_reducible refine(HP3.out _).mono ?_);rintro e w' ⟨rfl,⟨np3,rfl⟩⟩)|(go_at_call 96;refine(HI.out _).mono ?_;rintro e w' ⟨rfl,rfl⟩))
 exact z4d (z2j w _ _) (z18 w _ _) 4 _ a (by rfl)
set_option maxHeartbeats 1600000 in
set_option maxRecDepth 100000 in
theorem zgu (s:ByteArray) (hs:s.size≤140737488355328) (a:Int) (w:World) (hp:0<s.size) (hsm:z16 s[0]=false) (hgr:z1g s[0]=false) (h35:s[0]≠35) (hdg:z11 s[0]=false) (h45:s[0]=45) (h1:1<s.size) (hd1:z11 s[1]=false) (p0:(s.data.toList.take 2==[60,61])=false) (p1:(s.data.toList.take 2==[33,61])=false) (p2:(s.data.toList.take 2==[58,45])=false) (p3:(s.data.toList.take 2==[63,45])=false) (hone:oneB s[0]=false) :
 Calls Tryz.prog 97 #[.string s,.int .i64 a] w fun e w'=>NextR s a (none) e∧Below w.heap.size w w':=by
 have HS:=z00.mk (fun W=>z15.calls (s[0].toNat:Int) (z16 s[0]) W (z0u s[0]));rw[hsm]at HS;have HG:=z00.mk (fun W=>z1b.calls (s[0].toNat:Int) (z1g s[0]) W (z0y s[0]));rw[hgr]at HG;have HD:=z00.mk (fun W=>z0z.calls (s[0].toNat:Int) (z11 s[0]) W (z0r s[0]));rw[hdg]at HD;have e35:((s[0].toNat:Int)==35)=false:=by rw[show((s[0].toNat:Int)==35)=(s[0]==35)from z26 s[0] 35 (by omega)];exact beq_eq_false_iff_ne.2 h35
 have e45:((s[0].toNat:Int)==45)=true:=by rw[h45];rfl
 have el:decide ((1:Int)<(s.size:Int))=true:=decide_eq_true (by omega);have HD1:=z00.mk (fun W=>z0z.calls (s[1].toNat:Int) (z11 s[1]) W (z0r s[1]));rw[hd1]at HD1;have HP0:=z00.mk (fun W=>z09.calls s ⟨#[60,61]⟩ _ W (z0k s _ _ p0));have HP1:=z00.mk (fun W=>z09.calls s ⟨#[33,61]⟩ _ W (z0k s _ _ p1));have HP2:=z00.mk (fun W=>z09.calls s ⟨#[58,45]⟩ _ W (z0k s _ _ p2));have HP3:=z00.mk (fun W=>z09.calls s ⟨#[63,45]⟩ _ W (z0k s _ _ p3));have HI:=z00.mk (fun W=>Tryz.strings_IndexByte ⟨#[40,41,44,46,60,61,47,124,42,43,63,94]⟩ (s[0].toNat:Int) W);have ei:decide ((0:Int)≤Lib.indexByte (⟨#[40,41,44,46,60,61,47,124,42,43,63,94]⟩:ByteArray).data.toList ((s[0].toNat:Int)).toNat.toUInt8)=false:=(z6s s[0]).trans hone
 generalize Lib.indexByte (⟨#[40,41,44,46,60,61,47,124,42,43,63,94]⟩:ByteArray).data.toList ((s[0].toNat:Int)).toNat.toUInt8=ix at HI ei
 clear hsm hgr hs h35 hdg h45 hd1 p0 p1 p2 p3 hone;go_enter Tryz.func97,Tryz.ntmps97
 go_wp2_with (first|(go_at_call 123;refine(HS.out _).mono ?_;rintro e w' ⟨rfl,⟨nd1,rfl⟩⟩)|(go_at_call 126;refine(HG.out _).mono ?_;rintro e w' ⟨rfl,⟨nd2,rfl⟩⟩)|(go_at_call 128;(with_reducible refine(HD.out _).mono ?_);rintro e w' ⟨rfl,⟨nd3,rfl⟩⟩)|(go_at_call 128;(with_reducible refine(HD1.out _).mono ?_);rintro e w' ⟨rfl,⟨nd7,rfl⟩⟩)|(go_at_call 130;(with_reducible refine(HP0.out _).mono ?_);rintro e w' ⟨rfl,⟨np0,rfl⟩⟩)|(go_at_call 130;(with_reducible refine(HP1.out _).mono ?_);rintro e w' ⟨rfl,⟨np1,rfl⟩⟩)|(go_at_call 130;(with_reducible refine(HP2.out _).mono ?_);rintro e w' ⟨rfl,⟨np2,rfl⟩⟩)|(go_at_call 130;(with_reducible refine(HP3.out _).mono ?_);rintro e w' ⟨rfl,⟨np3,rfl⟩⟩)|(go_at_call 96;refine(HI.out _).mono ?_;rintro e w' ⟨rfl,rfl⟩))
 exact⟨rfl,rfl,z18 w _ _⟩

theorem zf6 {s:ByteArray} (h:1<s.size):∃r,s.data.toList.drop 1=s[1]::r:=by
 refine⟨s.data.toList.drop 2,?_⟩;have h':1<s.data.toList.length:=by rw[z0f];exact h
 rw[List.drop_eq_getElem_cons h',z5b s 1 h]
set_option maxRecDepth 100000 in
theorem next_any (s:ByteArray) (hs:s.size≤140737488355328) (a:Int) (w:World) (hLW:LaidW w) (hp:0<s.size) :
 Calls Tryz.prog 97 #[.string s,.int .i64 a] w fun e w'=>NextR s a (nextN nmL vlL s.data.toList) e∧Below w.heap.size w w':=by
 obtain⟨r,hr⟩:=z8v hp;have hd:s.data.toList.drop 1=r:=by rw[hr];rfl
 have key:nextN nmL vlL s.data.toList=(if z16 s[0]then(if nmL (s.data.toList.take (runN lowB s.data.toList))then some (1,runN lowB s.data.toList)else none)else if z1g s[0]then(if runN signB s.data.toList≤40 then some (2,runN signB s.data.toList)else none)else if valB s[0] (s.data.toList.drop 1)then(if vlL (s.data.toList.take (1+runN signB (s.data.toList.drop 1)))then some (3,1+runN signB (s.data.toList.drop 1))else none)else if twoB s.data.toList then some (4,2)else if oneB s[0]then some (4,1)else none):=by
  rw[hd,hr];rfl
 rw[key]
 cases hsm:z16 s[0]with
 |true =>
  rw[if_pos rfl,zmq]
  cases hN:nameB (s.extract 0 (runN lowB s.data.toList))with
  |true=>rw[if_pos rfl];exact zaw s hs a w hp _ hsm rfl hN
  |false=>rw[if_neg (by simp)];exact z9y s hs a w hp _ hsm rfl hN
 |false =>
  rw[if_neg (by simp)]
  cases hgr:z1g s[0]with
  |true =>
   rw[if_pos rfl];have hvar:varL (s.data.toList.take (runN signB s.data.toList))=decide (runN signB s.data.toList≤40):=by
    have h1:signB s[0]=true:=zjd hgr;have h2:=zae signB s.data.toList;have h3:runN signB s.data.toList=runN signB r+1:=by rw[hr];simp only[runN,h1,if_true]
    have h4:(s.data.toList.take (runN signB s.data.toList)).length=runN signB s.data.toList:=by rw[List.length_take];have:=z4a signB s.data.toList;omega
    have h5:s.data.toList.take (runN signB s.data.toList)=s[0]::r.take (runN signB r):=by rw[h3,hr,List.take_succ_cons]
    rw[h5]at h2 h4 ⊢;simp only[varL];rw[h4,h2,hgr]
    simp
   by_cases h40:runN signB s.data.toList≤40
   · rw[if_pos h40];exact zbc s hs a w hp _ hsm hgr rfl (by rw[hvar];exact decide_eq_true h40)
   · rw[if_neg h40];exact z9z s hs a w hp _ hsm hgr rfl (by rw[hvar];exact decide_eq_false h40)
  |false =>
   rw[if_neg (by simp)];have hvl:vlL (s.data.toList.take (1+runN signB (s.data.toList.drop 1)))=((readR (s.extract 0 (1+runN signB (s.data.toList.drop 1)))).2.2.2==0):=by unfold vlL;rw[z9x]
   cases hv:valB s[0] (s.data.toList.drop 1)with
   |true =>
    rw[if_pos rfl,hvl];have hway:s[0]=35∨(s[0]≠35∧z11 s[0]=true)∨(s[0]=45∧∃h:1<s.size,z11 s[1]=true):=by
     unfold valB at hv;simp only[Bool.or_eq_true,Bool.and_eq_true,beq_iff_eq]at hv
     by_cases h35:s[0]=35
     · exact .inl h35
     · rcases hv with (h|h)|⟨h,h1⟩
       · exact absurd h h35
       · exact .inr (.inl ⟨h35,h⟩)
       · refine .inr (.inr ⟨h,?_⟩)
         by_cases hz:1<s.size
         · obtain⟨r2,hr2⟩:=zf6 hz;rw[hr2]at h1;exact⟨hz,h1⟩
         · have:s.data.toList.drop 1=[]:=List.drop_eq_nil_of_le (by rw[z0f];omega);rw[this]at h1
           cases h1
    by_cases hR:(readR (s.extract 0 (1+runN signB (s.data.toList.drop 1)))).2.2.2=0
    · rw[if_pos (beq_iff_eq.2 hR)];rcases hway with h|⟨h,h'⟩|⟨h,h',h''⟩
      · exact zel s hs a w hp _ hLW hsm hgr h rfl hR
      · exact zcm s hs a w hp _ hLW hsm hgr h h' rfl hR
      · exact zdp s hs a w hp _ hLW hsm hgr h h' h'' rfl hR
    · rw[if_neg (fun h=>hR (beq_iff_eq.1 h))];rcases hway with h|⟨h,h'⟩|⟨h,h',h''⟩
      · exact zf3 s hs a w hp _ hLW hsm hgr h rfl hR
      · exact zcq s hs a w hp _ hLW hsm hgr h h' rfl hR
      · exact zdk s hs a w hp _ hLW hsm hgr h h' h'' rfl hR
   |false =>
    rw[if_neg (by simp)];unfold valB at hv;simp only[Bool.or_eq_false_iff,beq_eq_false_iff_ne]at hv;obtain⟨⟨h35,hdg⟩,hm⟩:=hv;have hway:s[0]≠45∨(s[0]=45∧s.size≤1)∨(s[0]=45∧∃h:1<s.size,z11 s[1]=false):=by
     by_cases h45:s[0]=45
     · by_cases hz:1<s.size
       · obtain⟨r2,hr2⟩:=zf6 hz;rw[hr2,h45]at hm;simp only[beq_self_eq_true,Bool.true_and]at hm;exact .inr (.inr ⟨h45,hz,hm⟩)
       · exact .inr (.inl ⟨h45,by omega⟩)
     · exact .inl h45
    have hshort:s.size≤1→∀p:List UInt8,p.length=2→(s.data.toList.take 2==p)=false:=fun hz p hp2=>by
     rw[beq_eq_false_iff_ne];intro e;have:=congrArg List.length e;rw[List.length_take,z0f,hp2]at this;omega
    have htwo:twoB s.data.toList=(s.data.toList.take 2==[60,61]||s.data.toList.take 2==[33,61]||s.data.toList.take 2==[58,45]||s.data.toList.take 2==[63,45]):=rfl
    cases p0:(s.data.toList.take 2==[60,61])with
    |true =>
     rw[htwo,p0];simp only[Bool.true_or,if_true];rcases hway with h|⟨h,h'⟩|⟨h,h',h''⟩
     · exact zes s hs a w hp hsm hgr h35 hdg h p0
     · rw[hshort h' _ rfl]at p0;cases p0
     · exact zgc s hs a w hp hsm hgr h35 hdg h h' h'' p0
    |false =>
     cases p1:(s.data.toList.take 2==[33,61])with
     |true =>
      rw[htwo,p0,p1];simp only[Bool.false_or,Bool.true_or,if_true];rcases hway with h|⟨h,h'⟩|⟨h,h',h''⟩
      · exact zfh s hs a w hp hsm hgr h35 hdg h p0 p1
      · rw[hshort h' _ rfl]at p1;cases p1
      · exact zfw s hs a w hp hsm hgr h35 hdg h h' h'' p0 p1
     |false =>
      cases p2:(s.data.toList.take 2==[58,45])with
      |true =>
       rw[htwo,p0,p1,p2];simp only[Bool.false_or,Bool.true_or,if_true];rcases hway with h|⟨h,h'⟩|⟨h,h',h''⟩
       · exact zeq s hs a w hp hsm hgr h35 hdg h p0 p1 p2
       · rw[hshort h' _ rfl]at p2;cases p2
       · exact zg1 s hs a w hp hsm hgr h35 hdg h h' h'' p0 p1 p2
      |false =>
       cases p3:(s.data.toList.take 2==[63,45])with
       |true =>
        rw[htwo,p0,p1,p2,p3];simp only[Bool.false_or,if_true];rcases hway with h|⟨h,h'⟩|⟨h,h',h''⟩
        · exact zff s hs a w hp hsm hgr h35 hdg h p0 p1 p2 p3
        · rw[hshort h' _ rfl]at p3;cases p3
        · exact zg5 s hs a w hp hsm hgr h35 hdg h h' h'' p0 p1 p2 p3
       |false =>
        rw[htwo,p0,p1,p2,p3];simp only[Bool.false_or,Bool.false_eq_true,if_false]
        cases hone:oneB s[0]with
        |true =>
         rw[if_pos rfl];rcases hway with h|⟨h,h'⟩|⟨h,h',h''⟩
         · exact ze6 s hs a w hp hsm hgr h35 hdg h p0 p1 p2 p3 hone
         · exact zer s hs a w hp hsm hgr h35 hdg h h' p0 p1 p2 p3 hone
         · exact zgi s hs a w hp hsm hgr h35 hdg h h' h'' p0 p1 p2 p3 hone
        |false =>
         rw[if_neg (by simp)];rcases hway with h|⟨h,h'⟩|⟨h,h',h''⟩
         · exact zek s hs a w hp hsm hgr h35 hdg h p0 p1 p2 p3 hone
         · exact zfr s hs a w hp hsm hgr h35 hdg h h' p0 p1 p2 p3 hone
         · exact zgu s hs a w hp hsm hgr h35 hdg h h' h'' p0 p1 p2 p3 hone
theorem zgd (c:UInt8):decide ((0:Int)≤Lib.indexByte (⟨#[32,9,10]⟩:ByteArray).data.toList ((c.toNat:Int)).toNat.toUInt8)=z2y c:=by
 have e:((c.toNat:Int)).toNat.toUInt8=c:=by
  rw[Int.toNat_natCast];apply UInt8.toNat_inj.1;show(UInt8.ofNat c.toNat).toNat=c.toNat;rw[UInt8.toNat_ofNat'];have:=c.toNat_lt;omega
 rw[e,(zeg _ c).1];unfold z2y;simp only[List.contains_cons,List.contains_nil,Bool.or_false,Bool.or_assoc]
set_option maxHeartbeats 1600000 in
set_option maxRecDepth 100000 in
theorem ziv (g0 g1 g2:Nat) (x:Int) (older:List PanicEntry) (w:World) (v0 v1 v2:Value) (h0:w.heap[g0]?=some (.cells #[v0] 105 (0,0))) (h1:w.heap[g1]?=some (.cells #[v1] 3 (0,0))) (h2:w.heap[g2]?=some (.cells #[v2] 40 (0,0))) (hn1:g1≠g0) (hn2:g2≠g0) (hn3:g2≠g1) :
 CallsD Tryz.prog 95 #[.pointer (some ⟨g0,0,none⟩),.pointer (some ⟨g1,0,none⟩),.pointer (some ⟨g2,0,none⟩)] (.panicking ({ v:=.iface 134 (.int .i64 x),recovered:=false }::older)) w fun e u' w' =>
  e=.returned (.tuple #[])∧u'=.panicking ({ v:=.iface 134 (.int .i64 x),recovered:=true }::older)∧w'=((w.setCell ⟨g0,0,none⟩ (.slice none 0 0)).setCell ⟨g1,0,none⟩ (.int .i64 x)).setCell ⟨g2,0,none⟩ (.int .i64 2):=by
 have c0:w.cell? ⟨g0,0,none⟩=some v0:=(z01 h0 0).trans rfl;have c1:w.cell? ⟨g1,0,none⟩=some v1:=(z01 h1 0).trans rfl;have c2:w.cell? ⟨g2,0,none⟩=some v2:=(z01 h2 0).trans rfl;have f0:=z03 h0 0;have f1:=z03 h1 0;have f2:=z03 h2 0;have hta:∀(x:Int) (w:World),(Instr.typeAssert (.iface 134 (.int .i64 x)) 20 134 true).run Tryz.prog w=.ok (.tuple #[.int .i64 x,.bool true]) w:=fun _ _=>by kernel_rfl
 refine callsD_of_wpS Tryz.func95 rfl fun c₀ cs hu=>?_
 apply wpS_seq;apply wpS_region
 simp[wpOpsS,go_sem,recoverD,hu,Tryz.ntmps95,Exit.thenS,hta]
 apply wpS_seq;apply wpS_region
 simp[wpOpsS,go_sem,recoverD,hu,Tryz.ntmps95,Exit.thenS,Array.replicate]
 refine wpS_cond (t:=true) (by simp[Act.eval,Array.replicate]) ?_;simp only[if_true];have k1:∀u,(w.setCell ⟨g0,0,none⟩ u).cell? ⟨g1,0,none⟩=some v1:=fun u=>(zdc (p:=⟨g0,0,none⟩) (a:=⟨g1,0,none⟩) hn1 u).trans c1
 have k2:∀u u',((w.setCell ⟨g0,0,none⟩ u).setCell ⟨g1,0,none⟩ u').cell? ⟨g2,0,none⟩=some v2:=fun u u'=>(zdc (p:=⟨g1,0,none⟩) (a:=⟨g2,0,none⟩) hn3 u').trans ((zdc (p:=⟨g0,0,none⟩) (a:=⟨g2,0,none⟩) hn2 u).trans c2)
 apply wpS_region
 simp[wpOpsS,go_sem,Array.replicate,bodyPostS,results,Tryz.results95,c0,f0,k1,f1,k2,f2]
theorem tok_idle (p0 p1 p2:Value) (w:World) :
 CallsD Tryz.prog 95 #[p0,p1,p2] .returning w fun e u' w'=>e=.returned (.tuple #[])∧u'=.returning∧w'=w:=by
 have hta:∀(w:World),(Instr.typeAssert .nilIface 20 134 true).run Tryz.prog w=.ok (.tuple #[.int .i64 0,.bool false]) w:=fun _=>by kernel_rfl
 refine callsD_of_wpS Tryz.func95 rfl fun c₀ cs hu=>?_
 apply wpS_seq;apply wpS_region
 simp[wpOpsS,go_sem,recoverD,hu,Tryz.ntmps95,Exit.thenS,hta]
 apply wpS_seq;apply wpS_region
 simp[wpOpsS,go_sem,recoverD,hu,Tryz.ntmps95,Exit.thenS,Array.replicate]
 refine wpS_cond (t:=false) (by simp[Act.eval,Array.replicate]) ?_;simp only[Bool.false_eq_true,if_false];refine wpS_of_wp (wp_skip ?_)
 cases c₀
 simp_all [bodyPostS,results,Tryz.results95]
def tokS (s:ByteArray) (x:Nat × Nat × Nat):S108:=⟨x.1,(s.extract x.2.1 s.size).extract 0 x.2.2,x.2.1⟩
def z7o (s:ByteArray):List S108 × Int × Int:=match tokN nmL vlL 0 s.data.toList with
 |.error i=>([],(i:Int),2)
 |.ok l=>(l.map (tokS s),0,0)
def z4b.f (a0:ByteArray):Option (List S108 × Int × Int) :=
 if a0.size≤140737488351232 then(if 20000<a0.size then some ([],0,4)else some (z7o a0))else none
def TokR (s:ByteArray) (w:World) (e:Ending) (w':World):Prop:=∃v l a b,z7o s=(l,a,b)∧e=.returned (.tuple #[v,.int .i64 a,.int .i64 b])∧Kd.R k108 108 w' w.heap.size (fun _=>True) v l∧Below w.heap.size w w'
def z6r (l:List UInt8) (j:Nat) (pre:List (Nat × Nat × Nat)):Prop:=tokN nmL vlL 0 l=match tokN nmL vlL j (l.drop j)with
 |.error i=>.error i
 |.ok r=>.ok (pre++r)
theorem zk4 (l:List UInt8):z6r l 0 []:=by
 unfold z6r;rw[List.drop_zero]
 cases tokN nmL vlL 0 l <;> rfl
theorem zk6 {l:List UInt8} {j:Nat} {pre:List (Nat × Nat × Nat)} (h:z6r l j pre) (hj:j<l.length) (hb:z2y l[j]=true):z6r l (j+1) pre:=by
 unfold z6r at h ⊢;rw[h,List.drop_eq_getElem_cons hj,zah nmL vlL j _ _ hb]
theorem inv_more {l:List UInt8} {j:Nat} {pre:List (Nat × Nat × Nat)} (h:z6r l j pre) (hj:j<l.length) (hb:z2y l[j]=false) (k n:Nat) (hn:nextN nmL vlL (l.drop j)=some (k,n)):z6r l (j+n) (pre++[(k,j,n)]):=by
 unfold z6r at h ⊢;rw[List.drop_eq_getElem_cons hj]at hn h;rw[zdu nmL vlL j _ _ hb k n hn]at h;rw[h,←List.drop_eq_getElem_cons hj,List.drop_drop]
 cases tokN nmL vlL (j+n) (l.drop (j+n))with
 |error i=>rfl
 |ok r=>simp
theorem zlw {l:List UInt8} {j:Nat} {pre:List (Nat × Nat × Nat)} (h:z6r l j pre) (hj:j<l.length) (hb:z2y l[j]=false) (hn:nextN nmL vlL (l.drop j)=none):tokN nmL vlL 0 l=.error j:=by
 unfold z6r at h;rw[List.drop_eq_getElem_cons hj]at hn h;rw[zaq nmL vlL j _ _ hb hn]at h;exact h
theorem inv_end {l:List UInt8} {j:Nat} {pre:List (Nat × Nat × Nat)} (h:z6r l j pre) (hj:l.length≤j):tokN nmL vlL 0 l=.ok pre:=by
 unfold z6r at h;rw[List.drop_eq_nil_of_le hj,zb2]at h
 simpa using h
theorem infoTok:(Tryz.prog.info? 108).map (fun i=>(i.zero,i.size,i.bytes))=some (some (.agg #[.int .i64 0,.string ⟨#[]⟩,.int .i64 0]),3,32):=by kernel_rfl
theorem z6a (w:World) (o0 o1 o2:Obj):(((w.alloc o0).alloc o1).alloc o2).heap[w.heap.size]?=some o0∧(((w.alloc o0).alloc o1).alloc o2).heap[w.heap.size+1]?=some o1∧(((w.alloc o0).alloc o1).alloc o2).heap[w.heap.size+2]?=some o2:=by
 have z1:(w.alloc o0).heap.size=w.heap.size+1:=by simp
 have z2:((w.alloc o0).alloc o1).heap.size=w.heap.size+2:=by simp
 refine⟨z0d (z0d (z0l w o0) _) _,?_,?_⟩
 · have:=z0l (w.alloc o0) o1;rw[z1]at this;exact z0d this _
 · have:=z0l ((w.alloc o0).alloc o1) o2
   rwa [z2]at this
theorem zay (w:World) (o0 o1 o2:Obj):Below w.heap.size w (((w.alloc o0).alloc o1).alloc o2):=z02 (z02 (z02 (Below.refl _ _) _) _) _
structure TokW (w wr:World) (s:ByteArray) (j:Nat) (pre:List (Nat × Nat × Nat)) (A:Option Addr) (c:Nat):Prop where
 inv:z6r s.data.toList j pre
 len:pre.length≤j
 b0:wr.heap[w.heap.size]?=some (.cells #[.slice A pre.length c] 105 (0,0))
 b1:wr.heap[w.heap.size+1]?=some (.cells #[.int .i64 0] 3 (0,0))
 b2:wr.heap[w.heap.size+1+1]?=some (.cells #[.int .i64 0] 40 (0,0))
 own:Kd.R k108 108 wr w.heap.size (fun k=>w.heap.size+3≤k) (.slice A pre.length c) (pre.map (tokS s))
 bel:Below w.heap.size w wr
theorem zjb (w:World) (s:ByteArray):TokW w (((w.alloc (.cells #[.slice none 0 0] 105)).alloc (.cells #[.int .i64 0] 3)).alloc (.cells #[.int .i64 0] 40)) s 0 [] none 0 :=
 ⟨zk4 _,Nat.le_refl _,(z6a w _ _ _).1,(z6a w _ _ _).2.1,(z6a w _ _ _).2.2,Kd.R_nil _ _ _ _ _,zay w _ _ _⟩
theorem TokW.blank {w wr:World} {s:ByteArray} {j:Nat} {pre:List (Nat × Nat × Nat)} {A:Option Addr} {c:Nat} (h:TokW w wr s j pre A c) (hj:j<s.data.toList.length) (hb:z2y s.data.toList[j]=true):TokW w wr s (j+1) pre A c :=
 ⟨zk6 h.inv hj hb,Nat.le_succ_of_le h.len,h.b0,h.b1,h.b2,h.own,h.bel⟩
theorem TokW.more {w wr w1 w2:World} {s:ByteArray} {j:Nat} {pre:List (Nat × Nat × Nat)} {A:Option Addr} {c:Nat} (h:TokW w wr s j pre A c) (hj:j<s.data.toList.length) (hb:z2y s.data.toList[j]=false) (k:Nat) (t:ByteArray) (ht:t=(s.extract j s.size).extract 0 t.size) (ht0:1≤t.size) (hn:nextN nmL vlL (s.data.toList.drop j)=some (k,t.size))
 (hb1:Below wr.heap.size wr w1) {v1:Value} (ho:Kd.R k108 108 w2 w.heap.size (fun k=>w.heap.size+3≤k) v1 (pre.map (tokS s)++[⟨k,t,j⟩])) (hb2:Below w.heap.size w w2) {o:Obj} (hg:(w1.alloc o).grownBy w2 (Value.slice A pre.length c).ownBlock) :
 w2.heap[w.heap.size]?=some (.cells #[.slice A pre.length c] 105 (0,0))∧w2.heap[w1.heap.size]?=some o∧∃A' c',v1=.slice A' (pre.length+1) c'∧TokW w (w2.setCell ⟨w.heap.size,0,none⟩ (.slice A' (pre.length+1) c')) s (j+t.size) (pre++[(k,j,t.size)]) A' c':=by
 obtain⟨A',c',e⟩:=Kd.R_slice ho;have e2:v1=.slice A' (pre.length+1) c':=by rw[e];congr 1;simp
 subst e2;have hne:∀i,i<3→some (w.heap.size+i)≠(Value.slice A pre.length c).ownBlock:=fun i hi he=>by
  have:=h.own.1 _ he.symm;omega
 have keep:∀i o',i<3→wr.heap[w.heap.size+i]?=some o'→w2.heap[w.heap.size+i]?=some o':=fun i o' hi ho'=>z3b (z0d (z0a ho' hb1) _) hg (hne i hi)
 have k0:=keep 0 _ (by omega) h.b0;have k1:=keep 1 _ (by omega) h.b1;have k2:=keep 2 _ (by omega) h.b2;have kb:w2.heap[w1.heap.size]?=some o:=z3b (z0l w1 o) hg (fun he=>by
  have h1:=Kd.R_lt h.own _ he.symm;have h2:=hb1.size;omega)
 refine⟨k0,kb,A',c',rfl,inv_more h.inv hj hb k t.size hn,by have:=h.len;simp;omega,?_,?_,?_,?_,z08 hb2 (Nat.le_refl _)⟩
 · have:=z0t (cs':=#[.slice A' (pre.length+1) c']) k0 0 (.slice A' (pre.length+1) c') rfl
   simpa using this
 · exact z1f k1 (by show w.heap.size+1≠w.heap.size;omega) _
 · exact z1f k2 (by show w.heap.size+1+1≠w.heap.size;omega) _
 · have e3:(pre++[(k,j,t.size)]).map (tokS s)=pre.map (tokS s)++[⟨k,t,j⟩]:=by
    rw[List.map_append]
    congr 1
    simp only[List.map_cons,List.map_nil,tokS];rw[←ht]
   rw[e3,List.length_append];exact Kd.R_far (p:=⟨w.heap.size,0,none⟩) ho (fun k hk=>by show k≠w.heap.size;omega) _
theorem TokW.ends {w wr:World} {s:ByteArray} {j:Nat} {pre:List (Nat × Nat × Nat)} {A:Option Addr} {c:Nat} (h:TokW w wr s j pre A c) (hj:s.size≤j):TokR s w (.returned (.tuple #[.slice A pre.length c,.int .i64 0,.int .i64 0])) (((wr.setCell ⟨w.heap.size,0,none⟩ (.slice A pre.length c)).setCell ⟨w.heap.size+1,0,none⟩ (.int .i64 0)).setCell ⟨w.heap.size+1+1,0,none⟩ (.int .i64 0)):=by
 refine⟨_,pre.map (tokS s),0,0,?_,rfl,?_,?_⟩
 · unfold z7o;rw[inv_end h.inv (by rw[z0f];exact hj)]
 · have h1:=Kd.R_far (p:=⟨w.heap.size,0,none⟩) h.own (fun k hk=>by show k≠w.heap.size;omega) (.slice A pre.length c);have h2:=Kd.R_far (p:=⟨w.heap.size+1,0,none⟩) h1 (fun k hk=>by show k≠w.heap.size+1;omega) (.int .i64 0);exact Kd.R_mono (Kd.R_far (p:=⟨w.heap.size+1+1,0,none⟩) h2 (fun k hk=>by show k≠w.heap.size+1+1;omega) (.int .i64 0)) (fun _ _=>trivial)
 · exact z08 (z08 (z08 h.bel (Nat.le_refl _)) (by omega)) (by omega)
theorem TokW.wrong {w wr w1:World} {s:ByteArray} {j:Nat} {pre:List (Nat × Nat × Nat)} {A:Option Addr} {c:Nat} (h:TokW w wr s j pre A c) (hj:j<s.data.toList.length) (hb:z2y s.data.toList[j]=false) (hn:nextN nmL vlL (s.data.toList.drop j)=none) (hb1:Below wr.heap.size wr w1) :
 TokR s w (.returned (.tuple #[.slice none 0 0,.int .i64 j,.int .i64 2])) (((w1.setCell ⟨w.heap.size,0,none⟩ (.slice none 0 0)).setCell ⟨w.heap.size+1,0,none⟩ (.int .i64 j)).setCell ⟨w.heap.size+1+1,0,none⟩ (.int .i64 2)):=by
 refine⟨_,[],_,_,?_,rfl,Kd.R_nil _ _ _ _ _,?_⟩
 · unfold z7o;rw[zlw h.inv hj hb hn]
 · exact z08 (z08 (z08 (z0g h.bel hb1) (Nat.le_refl _)) (by omega)) (by omega)
set_option maxRecDepth 100000 in
theorem z8h {W:World} {g0 g1 g2:Nat} {tmps:Array Value} (t0:tmps.getD 2 undef=.pointer (some ⟨g0,0,none⟩)) (t1:tmps.getD 3 undef=.pointer (some ⟨g1,0,none⟩)) (t2:tmps.getD 4 undef=.pointer (some ⟨g2,0,none⟩))
 {A:Option Addr} {n c:Nat} {a b:Int} (c0:W.cell? ⟨g0,0,none⟩=some (.slice A n c)) (c1:W.cell? ⟨g1,0,none⟩=some (.int .i64 a)) (c2:W.cell? ⟨g2,0,none⟩=some (.int .i64 b)) :
 (results Tryz.f63 tmps).run Tryz.prog W=.ok (.tuple #[.slice A n c,.int .i64 a,.int .i64 b]) W:=by
 simp only[Array.getD_eq_getD_getElem?]at t0 t1 t2
 simp[results,Tryz.results63,go_sem,t0,t1,t2,c0,c1,c2]
theorem zf8 {W:World} {g:Nat} {x0 x1 x2:Value} (b0:W.heap[g]?=some (.cells #[x0] 105 (0,0))) (b1:W.heap[g+1]?=some (.cells #[x1] 3 (0,0))) (b2:W.heap[g+1+1]?=some (.cells #[x2] 40 (0,0))) (y0 y1 y2:Value) :
 (((W.setCell ⟨g,0,none⟩ y0).setCell ⟨g+1,0,none⟩ y1).setCell ⟨g+1+1,0,none⟩ y2).cell? ⟨g,0,none⟩=some y0∧(((W.setCell ⟨g,0,none⟩ y0).setCell ⟨g+1,0,none⟩ y1).setCell ⟨g+1+1,0,none⟩ y2).cell? ⟨g+1,0,none⟩=some y1∧(((W.setCell ⟨g,0,none⟩ y0).setCell ⟨g+1,0,none⟩ y1).setCell ⟨g+1+1,0,none⟩ y2).cell? ⟨g+1+1,0,none⟩=some y2:=by
 have k0:=z0t (cs':=#[y0]) b0 0 y0 rfl;have k0':=z1f (z1f k0 (p:=⟨g+1,0,none⟩) (by show g≠g+1;omega) y1) (p:=⟨g+1+1,0,none⟩) (by show g≠g+1+1;omega) y2;have k1:=z0t (cs':=#[y1]) (z1f b1 (p:=⟨g,0,none⟩) (by show g+1≠g;omega) y0) 0 y1 rfl;have k1':=z1f k1 (p:=⟨g+1+1,0,none⟩) (by show g+1≠g+1+1;omega) y2;have k2:=z0t (cs':=#[y2]) (z1f (z1f b2 (p:=⟨g,0,none⟩) (by show g+1+1≠g;omega) y0) (p:=⟨g+1,0,none⟩) (by show g+1+1≠g+1;omega) y1) 0 y2 rfl;exact⟨(z01 k0' 0).trans rfl,(z01 k1' 0).trans rfl,(z01 k2 0).trans rfl⟩
set_option maxHeartbeats 3200000 in
set_option maxRecDepth 100000 in
theorem zir (s:ByteArray) (hs:s.size≤20000) (w:World) (hLW:LaidW w) :
 Calls Tryz.prog 63 #[.string s] w (TokR s w):=by
 have hmf:∀(fn:Fn) (first cap:Array Value) (w:World),(Instr.makeFunc fn first cap).run Tryz.prog w=.ok (.func fn first cap) w:=fun _ _ _ _=>rfl
 have e0:decide ((20000:Int)<(s.size:Int))=false:=decide_eq_false (by omega);have HLW:=z00.mk hLW;have H0:=z00.mk (zjb w s);clear hLW
 go_enter_defers Tryz.func63,Tryz.ntmps63
 go_wp2
 go_loopw [5] (fun s5 wr=>∃(j:Nat) (pre:List (Nat × Nat × Nat)) (A:Option Addr) (c:Nat),j≤s.size∧s5=.int .i64 j∧z00 (TokW w wr s j pre A c)) (fun s5 _=>s.size - (intOf s5).toNat)
 case atStart=>exact⟨0,[],none,0,Nat.zero_le _,rfl,H0⟩
 case round =>
  clear H0;obtain⟨j,pre,A,c,hj,rfl,HT⟩:=hrel
  by_cases hlt:j<s.size
  · have hltz:decide ((j:Int)<(s.size:Int))=true:=decide_eq_true (by omega);have HX:=z00.mk (fun W=>Tryz.strings_IndexByte ⟨#[32,9,10]⟩ (s[j].toNat:Int) W);have hbi:=zgd s[j];have hjl:j<s.data.toList.length:=by rw[z0f];exact hlt
    have hgl:s.data.toList[j]=s[j]:=z5b s j hlt hjl
    generalize Lib.indexByte (⟨#[32,9,10]⟩:ByteArray).data.toList ((s[j].toNat:Int)).toNat.toUInt8=ix at HX hbi
    cases hb:z2y s[j]with
    |true =>
     rw[hb]at hbi;have HT1:=z00.mk (HT.out.blank hjl (by rw[hgl];exact hb));clear hb hgl hjl
     go_wp2_with (go_at_call 96;refine(HX.out _).mono ?_;rintro e w' ⟨rfl,rfl⟩)
     go_roundw
     case rel=>exact⟨j+1,pre,A,c,by omega,by go_num,HT1⟩
     case measure=>simp[intOf];omega
    |false =>
     rw[hb]at hbi;have hbl:z2y s.data.toList[j]=false:=by rw[hgl];exact hb
     have HN:=z00.mk (fun W (h:LaidW W)=>next_any (s.extract j s.size) zA0c (j:Int) W h zA0c);rw[z3n]at HN;have HL:=z00.mk (HLW.out.below HT.out.bel)
     cases hn:nextN nmL vlL (s.data.toList.drop j)with
     |none =>
      rw[hn]at HN;have HW:=z00.mk (fun(w1:World) hb1=>HT.out.wrong (w1:=w1) hjl hbl hn hb1);have HK:=z00.mk (And.intro HT.out.b0 (And.intro HT.out.b1 HT.out.b2));clear hn hb hbl hgl hjl
      go_wp2_with (go_at_call 96;refine(HX.out _).mono ?_;rintro e w' ⟨rfl,rfl⟩)
      refine(HN.out _ HL.out).mono ?_;rintro e w1 ⟨he,hb1⟩;obtain rfl:=he;have HR:=z00.mk (HW.out w1 hb1);refine leaves_cons (f:=95) (args:=#[.pointer (some ⟨w.heap.size,0,none⟩),.pointer (some ⟨w.heap.size+1,0,none⟩),.pointer (some ⟨w.heap.size+1+1,0,none⟩)]) (by simp) (by simp[go_sem]) ?_;refine(ziv w.heap.size (w.heap.size+1) (w.heap.size+1+1) (j:Int) [] _ _ _ _ (z0a HK.out.1 hb1) (z0a HK.out.2.1 hb1) (z0a HK.out.2.2 hb1) (by omega) (by omega) (by omega)).mono ?_;rintro e u' w'' ⟨rfl,rfl,rfl⟩;have h3:=zf8 (z0a HK.out.1 hb1) (z0a HK.out.2.1 hb1) (z0a HK.out.2.2 hb1) (.slice none 0 0) (.int .i64 j) (.int .i64 2);exact⟨_,z8h rfl rfl rfl h3.1 h3.2.1 h3.2.2,HR.out⟩
     |some y =>
      obtain⟨k,n⟩:=y;have hp:=z54 hn;rw[List.length_drop,z0f]at hp;rw[hn]at HN;have hN2:∀W,LaidW W→Calls Tryz.prog 97 #[.string (s.extract j s.size),.int .i64 j] W fun e w'=>e=.returned (.agg #[.int .i64 k,.string ((s.extract j s.size).extract 0 n),.int .i64 j])∧Below W.heap.size W w':=HN.out
      have hsz:((s.extract j s.size).extract 0 n).size=n:=by rw[ByteArray.size_extract,ByteArray.size_extract];omega
      generalize ht:(s.extract j s.size).extract 0 n=t at hN2 hsz
      subst hsz;have HW:=z00.mk (fun(w1 w2:World) hb1 v1 ho hb2 o hg=>HT.out.more (w1:=w1) (w2:=w2) hjl hbl k t ht.symm hp.1 hn hb1 (v1:=v1) ho hb2 (o:=o) hg);have hjt:j+t.size≤s.size:=by omega
      have ht0:1≤t.size:=hp.1;have HN2:=z00.mk hN2;have HTL:=z00.mk HT.out.len;clear hN2 HN hp ht hn hb hbl hgl hjl
      go_wp2_with (go_at_call 96;refine(HX.out _).mono ?_;rintro e w' ⟨rfl,rfl⟩)
      refine(HN2.out _ HL.out).mono ?_;rintro e w1 ⟨rfl,hb1⟩;have HB1:=z00.mk hb1;have hz1:w.heap.size+1+1<w1.heap.size:=Nat.lt_of_lt_of_le (z27 HT.out.b2) hb1.size;have hz0:w.heap.size<w1.heap.size:=by omega
      have hc0:w1.cell? ⟨w.heap.size,0,none⟩=some (.slice A pre.length c):=(z01 (z0a HT.out.b0 hb1) 0).trans rfl;have hf0:=z03 (z0a HT.out.b0 hb1) 0;have HO1:=z00.mk (Kd.R_alloc (Kd.R_below HT.out.own hb1) (.cells #[.int .i64 k,.string t,.int .i64 j] 108));have HB2:=z00.mk (z02 (z0g HT.out.bel hb1) (.cells #[.int .i64 k,.string t,.int .i64 j] 108));clear hb1
      go_wp2_with ((with_reducible refine z1n (b:=.append) (xs:=#[.tmp 27,.tmp 29]) rfl ?_);at_builtin;refine Kd.R_append k108 (w0:=w) w.heap.size rfl (.tmp 27) (.tmp 29) 105 108 (.agg #[.int .i64 0,.string ⟨#[]⟩,.int .i64 0]) 32 rfl Tryz.underlying105 infoTok rfl (by decide) (by decide) (.slice A pre.length c) (pre.map (tokS s)) ⟨k,t,j⟩ [.int .i64 k,.string t,.int .i64 j] (fun k=>w.heap.size+3≤k) (fun _=>False) rfl zA0f (k108_mkM _ _ _ _) (fun _ hk=>hk.elim) (fun k hk=>by simp at hk;omega) HO1.out HB2.out HB2.out.size (by rw[List.length_map];have:=HTL.out;omega) ?_;intro v1 w2 ho hb hg hat;obtain⟨hk0,hkb,A',c',rfl,hT⟩:=HW.out w1 w2 HB1.out v1 ho hb _ hg;have HT2:=z00.mk hT;have hd0:w2.cell? ⟨w.heap.size,0,none⟩=some (.slice A pre.length c):=(z01 hk0 0).trans rfl;have hdf:=z03 hk0 0;have hd1:w2.cell? ⟨w1.heap.size,1,none⟩=some (.string t):=(z01 hkb 1).trans rfl;have hne:w1.heap.size≠w.heap.size:=(by omega);clear ho hb hg hat hk0 hkb hT)
      go_roundw
      case rel=>exact⟨j+t.size,pre++[(k,j,t.size)],A',c',by omega,by go_num,HT2⟩
      case measure=>simp[intOf];omega
  · have hltz:decide ((j:Int)<(s.size:Int))=false:=decide_eq_false (by omega);have HW:=z00.mk (HT.out.ends (by omega));have hc0:wr.cell? ⟨w.heap.size,0,none⟩=some (.slice A pre.length c):=(z01 HT.out.b0 0).trans rfl;have hf0:=z03 HT.out.b0 0;have hf1:=z03 HT.out.b1 0;have hf2:=z03 HT.out.b2 0;have hc1:wr.cell? ⟨w.heap.size+1,0,none⟩=some (.int .i64 0):=(z01 HT.out.b1 0).trans rfl;have hc2:wr.cell? ⟨w.heap.size+1+1,0,none⟩=some (.int .i64 0):=(z01 HT.out.b2 0).trans rfl;have hz:=z27 HT.out.b2;go_wp2;refine leaves_cons (f:=95) (args:=#[.pointer (some ⟨w.heap.size,0,none⟩),.pointer (some ⟨w.heap.size+1,0,none⟩),.pointer (some ⟨w.heap.size+1+1,0,none⟩)]) (by simp) (by simp[go_sem]) ?_;refine(tok_idle _ _ _ _).mono ?_;rintro e u' w'' ⟨rfl,rfl,rfl⟩;have h3:=zf8 HT.out.b0 HT.out.b1 HT.out.b2 (.slice A pre.length c) (.int .i64 0) (.int .i64 0);exact⟨_,z8h rfl rfl rfl h3.1 h3.2.1 h3.2.2,HW.out⟩
set_option maxHeartbeats 1600000 in
set_option maxRecDepth 100000 in
theorem zgt (s:ByteArray) (hs:20000<s.size) (w:World) :
 Calls Tryz.prog 63 #[.string s] w fun e w'=>e=.returned (.tuple #[.slice none 0 0,.int .i64 0,.int .i64 4])∧Below w.heap.size w w':=by
 have e0:decide ((20000:Int)<(s.size:Int))=true:=decide_eq_true (by omega);have H3:=z00.mk (z6a w (.cells #[.slice none 0 0] 105) (.cells #[.int .i64 0] 3) (.cells #[.int .i64 4] 40));have HB3:=z00.mk (zay w (.cells #[.slice none 0 0] 105) (.cells #[.int .i64 0] 3) (.cells #[.int .i64 4] 40));clear hs
 go_enter_defers Tryz.func63,Tryz.ntmps63
 go_wp2;exact⟨_,z8h rfl rfl rfl ((z01 H3.out.1 0).trans rfl) ((z01 H3.out.2.1 0).trans rfl) ((z01 H3.out.2.2 0).trans rfl),rfl,HB3.out⟩
theorem z4b.calls (a0:ByteArray) (r1:List S108) (r2:Int) (r3:Int) (w:World) (hLW:LaidW w) (h:z4b.f a0=some (r1,r2,r3)) :
 Calls Tryz.prog 63 #[.string a0] w fun e w'=>∃v0_:Value,e=.returned (.tuple #[v0_,.int .i64 r2,.int .i64 r3])∧Kd.R k108 108 w' w.heap.size (fun _=>True) v0_ r1∧Below w.heap.size w w':=by
 unfold z4b.f at h
 split at h
 · split at h
   · rename_i hl;injection h with h;injection h with e1 h;injection h with e2 e3
     subst e1;subst e2;subst e3;refine(zgt a0 hl w).mono ?_;rintro e w' ⟨rfl,hb⟩;exact⟨_,rfl,Kd.R_nil _ _ _ _ _,hb⟩
   · rename_i hl;injection h with h
     refine(zir a0 (by omega) w hLW).mono ?_;rintro e w' ⟨v,l,a,b,he,rfl,hr,hb⟩;rw[h]at he;injection he with e1 he;injection he with e2 e3
     subst e1;subst e2;subst e3;exact⟨v,rfl,hr,hb⟩
 · cases h

theorem z5x {P:Program} {fn:Func} {t1 t2:Array Value} {R:Ending→World→Prop} (h:results fn t1=results fn t2):∀(ds:List Deferred) (u:FrameMode) (w:World),Leaves P fn t1 R ds u w→Leaves P fn t2 R ds u w
 |[],.returning,w,hl=>by
  obtain⟨v,h1,h2⟩:=hl;exact⟨v,by rw[←h];exact h1,h2⟩
 |[],.panicking chain,w,hl=>hl
 |[],.run,w,hl=>hl
 |d::ds,u,w,hl=>by
  obtain⟨hne,fv,cap,f,args,ht,hi,hc⟩:=hl;refine⟨hne,fv,cap,f,args,ht,hi,hc.mono ?_⟩;intro e u' w' he
  cases e with
  |returned v=>exact z5x h ds _ _ he
  |panicked c=>exact z5x h ds _ _ he
  |outgrown=>exact he
def z2s (s:ByteArray):List S108 × Int × Int:=if 20000<s.size then([],0,4)else z7o s
def outRes {α:Type} (zero:α) (ts:List S108) (en:Int):Except (Nat × Int) α→α × Int × Int
 |.ok x=>(x,0,0)
 |.error q=>(zero,(seeP ts en (ts.length - q.1)).f2,q.2)
def z3o {α:Type} (zero:α) (p:Prs α) (s:ByteArray):α × Int × Int :=
 if(z2s s).2.2=0 then outRes zero (z2s s).1 s.size (allP p ((z2s s).1.map tkOf))else(zero,(z2s s).2.1,(z2s s).2.2)
theorem lex_env {s:ByteArray} (h:(z2s s).2.2=0):(z2s s).1.length≤20000∧∀x ∈ (z2s s).1,x.f1.size≤281474976710656:=by
 unfold z2s at h ⊢
 split at h
 · cases h
 · rename_i hs;rw[if_neg hs];unfold z7o
   cases ht:tokN nmL vlL 0 s.data.toList with
   |error i=>exact⟨Nat.zero_le _,fun x hx=>by cases hx⟩
   |ok l =>
    have hn:=zbb nmL vlL _ s.data.toList 0 l (Nat.le_refl _) ht;rw[z0f]at hn;refine⟨by show(l.map (tokS s)).length≤20000;rw[List.length_map];omega,fun x hx=>?_⟩;obtain⟨y,hy,rfl⟩:=List.mem_map.1 hx;simp only[tokS];rw[ByteArray.size_extract,ByteArray.size_extract];omega
theorem lex_f (s:ByteArray) (hs:s.size≤140737488351232):z4b.f s=some ((z2s s).1,(z2s s).2.1,(z2s s).2.2):=by
 unfold z4b.f z2s;rw[if_pos hs]
 split <;> rfl
theorem z6w (n:Nat):∀(vs:List Value) (i:Nat) (W:World),(sets W n i vs).heap.size=W.heap.size
 |[],_,_=>rfl
 |v::vs,i,W=>by
  show(sets (W.setCell ⟨n,i,none⟩ v) n (i+1) vs).heap.size=_;rw[z6w n vs]
  simp
theorem zan (n:Nat):∀(vs:List Value) (i:Nat) (V W:World),Below 0 V W→Below 0 V (sets W n i vs)
 |[],_,_,_,h=>h
 |v::vs,i,V,W,h=>zan n vs (i+1) V _ (h.setCell (Nat.zero_le _) v)
theorem zio {B m:Nat} {v w:World} {cs:Array Value} {t:TypeId} (h:Below B v w) (hv:v.heap[m]?=some (.cells cs t (0,0))) (hw:w.heap[m]?=some (.cells cs t (0,0))) (vs:List Value):Below B (sets v m 0 vs) (sets w m 0 vs):=by
 have z1:=zan m vs 0 v v (Below.refl 0 v);have z2:=zan m vs 0 w w (Below.refl 0 w);refine⟨z2.os.trans (h.os.trans z1.os.symm),z2.tape.trans (h.tape.trans z1.tape.symm),z2.output.trans (h.output.trans z1.output.symm),by rw[z6w,z6w];exact h.size,fun k hk=>?_⟩
 by_cases hm:k=m
 · subst hm;rw[z35 vs 0 w cs hw,z35 vs 0 v cs hv]
 · have f:∀(vs:List Value) (i:Nat) (W:World),(sets W m i vs).heap[k]?=W.heap[k]?:=by
    intro vs
    induction vs with
    |nil=>intro i W;rfl
    |cons a r ih=>intro i W;exact(ih (i+1) _).trans (Below.heap_setCell W ⟨m,i,none⟩ a k hm)
   rw[f,f];exact h.block k hk
theorem zlu (l:List S108):leftL l 0=l.map tkOf:=by unfold leftL;rw[List.drop_zero]
theorem zkh {α:Type} {p:Prs α} {l:List TK} {q:Nat × Int} (h:p l=.error q):allP p l=.error q:=by unfold allP;rw[h]
theorem all_more {α:Type} {p:Prs α} {l:List TK} {x:α} {r:List TK} (h:p l=.ok (x,r)) (hr:r≠[]):allP p l=.error (r.length,2):=by
 unfold allP;rw[h]
 cases r with
 |nil=>exact absurd rfl hr
 |cons t r=>rfl
theorem all_ok {α:Type} {p:Prs α} {l:List TK} {x:α} (h:p l=.ok (x,[])):allP p l=.ok x:=by unfold allP;rw[h]
theorem blocks4 (w:World) (o0 o1 o2 o3:Obj):((((w.alloc o0).alloc o1).alloc o2).alloc o3).heap[w.heap.size]?=some o0∧((((w.alloc o0).alloc o1).alloc o2).alloc o3).heap[w.heap.size+1]?=some o1∧((((w.alloc o0).alloc o1).alloc o2).alloc o3).heap[w.heap.size+2]?=some o2∧((((w.alloc o0).alloc o1).alloc o2).alloc o3).heap[w.heap.size+3]?=some o3:=by
 have h:=zfv w o0 o1 o2;have z3:(((w.alloc o0).alloc o1).alloc o2).heap.size=w.heap.size+3:=by simp
 have:=z0l (((w.alloc o0).alloc o1).alloc o2) o3;rw[z3]at this;exact⟨z0d h.1 _,z0d h.2.1 _,z0d h.2.2 _,this⟩
def readP4.T:Bool × List (List Nat × List Nat):=(true,[([],[]),([],[]),([],[]),([0,0],[0]),([1,3,0,1,3],[1]),([2,4,0,1,2,3,4],[2])])
def readP4.B:List Nat:=[0,0,0,1,11,31]
theorem readP4.tab:rtab .any (opsOf Tryz.f53 4)=readP4.T:=by kernel_rfl
theorem readP4.bits:z45 readP4.T.2 readP4.B=true:=by kernel_rfl
def readS4.T:Bool × List (List Nat × List Nat):=(true,[([],[]),([],[]),([],[]),([0,0],[0]),([1,3,0,1,3],[1]),([2,4,0,1,2,3,4],[2])])
def readS4.B:List Nat:=[0,0,0,1,11,31]
theorem zaa {W:World} {g4 g5 g6:Nat} {tmps:Array Value} (t0:tmps.getD 4 undef=.pointer (some ⟨g4,0,none⟩)) (t1:tmps.getD 5 undef=.pointer (some ⟨g5,0,none⟩)) (t2:tmps.getD 6 undef=.pointer (some ⟨g6,0,none⟩))
 {y0 y1 y2:Value} {a b:Int} (h4:W.heap[g4]?=some (.cells #[y0,y1,y2] 27 (0,0))) (h5:W.heap[g5]?=some (.cells #[.int .i64 a] 3 (0,0))) (h6:W.heap[g6]?=some (.cells #[.int .i64 b] 40 (0,0))) :
 (results Tryz.f53 tmps).run Tryz.prog W=.ok (.tuple #[(.agg #[y0,y1,y2]),.int .i64 a,.int .i64 b]) W:=by
 simp only[Array.getD_eq_getD_getElem?]at t0 t1 t2;have c0:W.cell? ⟨g4,0,none⟩=some y0:=(z01 h4 0).trans rfl;have c1:W.cell? ⟨g4,1,none⟩=some y1:=(z01 h4 1).trans rfl;have c2:W.cell? ⟨g4,2,none⟩=some y2:=(z01 h4 2).trans rfl;have d5:W.cell? ⟨g5,0,none⟩=some (.int .i64 a):=(z01 h5 0).trans rfl;have d6:W.cell? ⟨g6,0,none⟩=some (.int .i64 b):=(z01 h6 0).trans rfl
 simp[results,Tryz.results53,go_sem,t0,t1,t2,d5,d6,c0,c1,c2]
theorem putP (a:Act) (m:Nat) (v:Value) (h4:m≠4) (h5:m≠5) (h6:m≠6):results Tryz.f53 (a.put (some m) v).tmps=results Tryz.f53 a.tmps:=by
 simp[results,Tryz.results53,Act.put,Array.getD_eq_getD_getElem?,Array.getElem?_setIfInBounds_ne,h4,h5,h6]
set_option maxHeartbeats 4000000 in
set_option maxRecDepth 100000 in
theorem zgr (s:ByteArray) (hs:s.size≤140737488351232) (w:World) (hLW:LaidW w) :
 Calls Tryz.prog 53 #[.string s,.func (.func 54) #[] #[]] w fun e w'=>∃v,e=.returned (.tuple #[v,.int .i64 (z3o (⟨[],noneA⟩:PgS) z2c s).2.1,.int .i64 (z3o (⟨[],noneA⟩:PgS) z2c s).2.2])∧prV w' w.heap.size v (z3o (⟨[],noneA⟩:PgS) z2c s).1∧Below w.heap.size w w':=by
 have hmf:∀(fn:Fn) (first cap:Array Value) (w:World),(Instr.makeFunc fn first cap).run Tryz.prog w=.ok (.func fn first cap) w:=fun _ _ _ _=>rfl
 have HF:=z00.mk (lex_f s hs);have HEN:=z00.mk (fun h=>lex_env (s:=s) h);obtain⟨r,hr⟩:∃r,z3o (⟨[],noneA⟩:PgS) z2c s=r:=⟨_,rfl⟩
 rw[hr];unfold z3o at hr;obtain⟨⟨l,a,b⟩,hl⟩:∃x,z2s s=x:=⟨_,rfl⟩
 rw[hl]at HF HEN hr;have HR:=z00.mk hr;clear hr hl;obtain⟨n4,en4⟩:∃n,w.heap.size=n:=⟨_,rfl⟩
 have hb0:=blocks4 w (.cells #[.slice none 0 0,.string ⟨#[]⟩,.slice none 0 0] 27) (.cells #[.int .i64 0] 3) (.cells #[.int .i64 0] 40) (.cells #[.slice none 0 0,.string ⟨#[]⟩,.slice none 0 0] 27);rw[en4]at hb0;obtain⟨n5,hn5⟩:∃n,n4+1=n:=⟨_,rfl⟩
 obtain⟨n6,hn6⟩:∃n,n5+1=n:=⟨_,rfl⟩
 obtain⟨n7,hn7⟩:∃n,n6+1=n:=⟨_,rfl⟩
 obtain⟨W0,hW0⟩:∃W,(((w.alloc (.cells #[.slice none 0 0,.string ⟨#[]⟩,.slice none 0 0] 27)).alloc (.cells #[.int .i64 0] 3)).alloc (.cells #[.int .i64 0] 40)).alloc (.cells #[.slice none 0 0,.string ⟨#[]⟩,.slice none 0 0] 27)=W:=⟨_,rfl⟩
 have hB0:Below w.heap.size w W0:=hW0 ▸ z02 (z02 (z02 (z02 (Below.refl _ _) _) _) _) _;rw[hW0,hn5,show n4+2=n6 by omega,show n4+3=n7 by omega]at hb0;have hz0:W0.heap.size=n4+4:=by rw[←hW0];simp[en4]
 have HLX:=z00.mk (z4b.calls s l a b W0 (hLW.below hB0) HF.out);have H0:=z00.mk (And.intro hb0 (And.intro hB0 hz0));have HW0:=z00.mk hW0;have HLW:=z00.mk hLW;clear hb0 hB0 hz0 hW0 hLW hs
 go_enter_defers Tryz.func53,Tryz.ntmps53
 go_wp2_with fail
 rw[HW0.out];refine HLX.out.mono ?_;rintro e w1 ⟨v0,rfl,hv,hb⟩;obtain⟨A,c,rfl⟩:=Kd.R_slice hv;have hz0:=H0.out.2.2;have B4:=z0a H0.out.1.1 hb;have B5:=z0a H0.out.1.2.1 hb;have B6:=z0a H0.out.1.2.2.1 hb;have B7:=z0a H0.out.1.2.2.2 hb;have hc5:w1.cell? ⟨n5,0,none⟩=some (.int .i64 0):=(z01 B5 0).trans rfl;have hc6:w1.cell? ⟨n6,0,none⟩=some (.int .i64 0):=(z01 B6 0).trans rfl;have hf5:=z03 B5 0;have hf6:=z03 B6 0;have hB1:=z06 H0.out.2.1 H0.out.2.1.size hb;obtain⟨W2,hW2⟩:∃W,(w1.setCell ⟨n5,0,none⟩ (.int .i64 a)).setCell ⟨n6,0,none⟩ (.int .i64 b)=W:=⟨_,rfl⟩
 have H4:W2.heap[n4]?=some (.cells #[.slice none 0 0,.string ⟨#[]⟩,.slice none 0 0] 27 (0,0)):=hW2 ▸ z1f (z1f B4 (by show n4≠n5;omega) _) zA0x _;have H5:W2.heap[n5]?=some (.cells #[.int .i64 a] 3 (0,0)):=hW2 ▸ z1f (z0t B5 0 (.int .i64 a) rfl) (by show n5≠n6;omega) _;have H6:W2.heap[n6]?=some (.cells #[.int .i64 b] 40 (0,0)):=hW2 ▸ z0t (z1f B6 (by show n6≠n5;omega) _) 0 (.int .i64 b) rfl;have H7:W2.heap[n7]?=some (.cells #[.slice none 0 0,.string ⟨#[]⟩,.slice none 0 0] 27 (0,0)):=hW2 ▸ z1f (z1f B7 (by show n7≠n5;omega) _) (by show n7≠n6;omega) _;have HB:Below w.heap.size w W2:=hW2 ▸ z08 (z08 hB1 (by omega)) (by omega);have hC:=Kd.R_far (p:=⟨n6,0,none⟩) (Kd.R_far (p:=⟨n5,0,none⟩) (ok:=fun k=>W0.heap.size≤k) (Kd.R_mono (Kd.R_bound hv) (fun k hk=>hk.2.1)) (fun k hk=>by show k≠n5;omega) (.int .i64 a)) (fun k hk=>by show k≠n6;omega) (.int .i64 b);rw[hW2]at hC;have HC:=z00.mk hC;have HBW:=z00.mk HB;have HBL:=z00.mk (And.intro H4 (And.intro H5 (And.intro H6 H7)));have hc6b:W2.cell? ⟨n6,0,none⟩=some (.int .i64 b):=(z01 H6 0).trans rfl;have hn:=And.intro hn5 (And.intro hn6 hn7);have HN:=z00.mk hn;have HW2:=z00.mk hW2;clear H0 HLX hv hb B4 B5 B6 B7 hB1 hC HB H4 H5 H6 H7 hz0 HF hW2
 by_cases hb0:b=0
 · subst hb0;replace HR:=z00.mk (show outRes (⟨[],noneA⟩:PgS) l s.size (allP z2c (l.map tkOf))=r by rw[←HR.out];show _=if(0:Int)=0 then _ else _;rw[if_pos rfl]);replace HEN:=z00.mk (HEN.out rfl);obtain⟨g,eg⟩:∃n,w1.heap.size=n:=⟨_,rfl⟩
   have eg2:W2.heap.size=g:=by rw[←HW2.out];simp[eg]
   have hbg:=z0l W2 (.cells #[.slice A l.length c,.int .i64 0,.int .i64 s.size] 128);rw[eg2]at hbg;have h7g:n7<g:=by have:=z27 HBL.out.2.2.2;omega
   have HRD:Rd W2 (W2.alloc (.cells #[.slice A l.length c,.int .i64 0,.int .i64 s.size] 128)) g l 0 s.size:=⟨A,c,hbg,by omega,TokC.of_R HC.out,Nat.zero_le _,HEN.out.1⟩
   have HP:=zdj W2 (W2.alloc (.cells #[.slice A l.length c,.int .i64 0,.int .i64 s.size] 128)) g l 0 s.size ⟨HLW.out.below HBW.out,HEN.out.2⟩ HRD (z02 (Below.refl W2.heap.size W2) _);rw[zlu]at HP;obtain⟨rq,hrq⟩:∃rq,z2c (l.map tkOf)=rq:=⟨_,rfl⟩
   rw[hrq]at HP;have HP:=z00.mk HP;have HRQ:=z00.mk hrq;have H7G:=z00.mk (And.intro h7g eg2);clear hbg HRD hrq h7g eg2
   go_wp2_with fail
   rw[HW2.out];refine HP.out.mono ?_;intro e w4 hp;obtain⟨hn5,hn6,hn7⟩:=HN.out;have h7g:=H7G.out.1;have eg2:=H7G.out.2;rcases hp.split with ⟨y,p',v,rfl,rfl,hv,R,B,K⟩|⟨q,i,p',rfl,h1,h2,rfl,R,B,K⟩
   · have B4:=z0a HBL.out.1 B;have B5:=z0a HBL.out.2.1 B;have B6:=z0a HBL.out.2.2.1 B;have B7:=z0a HBL.out.2.2.2 B;have HB4:=z06 HBW.out HBW.out.size B;have hw3:(W2.alloc (.cells #[.slice A l.length c,.int .i64 0,.int .i64 s.size] 128)).heap.size=g+1:=by simp[eg2]
     obtain⟨u1,u2,rfl,ha,hb'⟩:=hv;obtain⟨A1,c1,rfl⟩:=Kd.R_slice ha;obtain⟨A2,c2,rfl⟩:=Kd.R_slice hb';rw[hw3]at ha hb';obtain⟨Ag,cg,hbg,hgl,hCC,hpl,hll⟩:=id R;have a0:w4.cell? ⟨n4,0,none⟩=some (.slice none 0 0):=(z01 B4 0).trans rfl;have a1:w4.cell? ⟨n4,1,none⟩=some (.string ⟨#[]⟩):=(z01 B4 1).trans rfl;have a2:w4.cell? ⟨n4,2,none⟩=some (.slice none 0 0):=(z01 B4 2).trans rfl;have af0:=z03 B4 0;have af1:=z03 B4 1;have af2:=z03 B4 2;have C4:(((w4.setCell ⟨n4,0,none⟩ (.slice A1 y.f0.length c1)).setCell ⟨n4,1,none⟩ (.string y.f1.f0)).setCell ⟨n4,2,none⟩ (.slice A2 y.f1.f1.length c2)).heap[n4]?=some (.cells #[.slice A1 y.f0.length c1,.string y.f1.f0,.slice A2 y.f1.f1.length c2] 27 (0,0)):=z35 [.slice A1 y.f0.length c1,.string y.f1.f0,.slice A2 y.f1.f1.length c2] 0 w4 #[.slice none 0 0,.string ⟨#[]⟩,.slice none 0 0] B4;have C5:(((w4.setCell ⟨n4,0,none⟩ (.slice A1 y.f0.length c1)).setCell ⟨n4,1,none⟩ (.string y.f1.f0)).setCell ⟨n4,2,none⟩ (.slice A2 y.f1.f1.length c2)).heap[n5]?=some (.cells #[.int .i64 a] 3 (0,0)):=z2q (by omega) [.slice A1 y.f0.length c1,.string y.f1.f0,.slice A2 y.f1.f1.length c2] 0 w4 B5;have C6:(((w4.setCell ⟨n4,0,none⟩ (.slice A1 y.f0.length c1)).setCell ⟨n4,1,none⟩ (.string y.f1.f0)).setCell ⟨n4,2,none⟩ (.slice A2 y.f1.f1.length c2)).heap[n6]?=some (.cells #[.int .i64 0] 40 (0,0)):=z2q (by omega) [.slice A1 y.f0.length c1,.string y.f1.f0,.slice A2 y.f1.f1.length c2] 0 w4 B6;have C7:(((w4.setCell ⟨n4,0,none⟩ (.slice A1 y.f0.length c1)).setCell ⟨n4,1,none⟩ (.string y.f1.f0)).setCell ⟨n4,2,none⟩ (.slice A2 y.f1.f1.length c2)).heap[n7]?=some (.cells #[.slice none 0 0,.string ⟨#[]⟩,.slice none 0 0] 27 (0,0)):=z2q (by omega) [.slice A1 y.f0.length c1,.string y.f1.f0,.slice A2 y.f1.f1.length c2] 0 w4 B7
     have Cg:(((w4.setCell ⟨n4,0,none⟩ (.slice A1 y.f0.length c1)).setCell ⟨n4,1,none⟩ (.string y.f1.f0)).setCell ⟨n4,2,none⟩ (.slice A2 y.f1.f1.length c2)).heap[g]?=some (.cells #[.slice Ag l.length cg,.int .i64 p',.int .i64 s.size] 128 (0,0)):=z2q (by omega) [.slice A1 y.f0.length c1,.string y.f1.f0,.slice A2 y.f1.f1.length c2] 0 w4 hbg;have hcg:(((w4.setCell ⟨n4,0,none⟩ (.slice A1 y.f0.length c1)).setCell ⟨n4,1,none⟩ (.string y.f1.f0)).setCell ⟨n4,2,none⟩ (.slice A2 y.f1.f1.length c2)).cell? ⟨g,1,none⟩=some (.int .i64 p'):=(z01 Cg 1).trans rfl;have HBc:Below w.heap.size w (((w4.setCell ⟨n4,0,none⟩ (.slice A1 y.f0.length c1)).setCell ⟨n4,1,none⟩ (.string y.f1.f0)).setCell ⟨n4,2,none⟩ (.slice A2 y.f1.f1.length c2)):=z2u (by omega) [.slice A1 y.f0.length c1,.string y.f1.f0,.slice A2 y.f1.f1.length c2] 0 w4 HB4;have HO0:=z00.mk (show Kd.R k33 33 (((w4.setCell ⟨n4,0,none⟩ (.slice A1 y.f0.length c1)).setCell ⟨n4,1,none⟩ (.string y.f1.f0)).setCell ⟨n4,2,none⟩ (.slice A2 y.f1.f1.length c2)) (g+1) (fun k=>g+1≤k) (.slice A1 y.f0.length c1) y.f0 from z5h (fun k hk=>by omega) [.slice A1 y.f0.length c1,.string y.f1.f0,.slice A2 y.f1.f1.length c2] 0 w4 ha);have HO1:=z00.mk (show Kd.R k60 60 (((w4.setCell ⟨n4,0,none⟩ (.slice A1 y.f0.length c1)).setCell ⟨n4,1,none⟩ (.string y.f1.f0)).setCell ⟨n4,2,none⟩ (.slice A2 y.f1.f1.length c2)) (g+1) (fun k=>g+1≤k) (.slice A2 y.f1.f1.length c2) y.f1.f1 from z5h (fun k hk=>by omega) [.slice A1 y.f0.length c1,.string y.f1.f0,.slice A2 y.f1.f1.length c2] 0 w4 hb');have hKW:z0e W2 (sets W2 n4 0 [.slice A1 y.f0.length c1,.string y.f1.f0,.slice A2 y.f1.f1.length c2]) n4 none:=z0e.set_ (z0e.set_ (z0e.set_ (z0e.refl W2 n4 none) 0 (.slice A1 y.f0.length c1)) 1 (.string y.f1.f0)) 2 (.slice A2 y.f1.f1.length c2);have hLL:(l.length:Int)=(l.length:Int):=rfl
     by_cases hlt:p'<l.length
     · have hltz:decide ((p':Int)<(l.length:Int))=true:=decide_eq_true (by omega);have hltz2:decide (p'<l.length)=true:=decide_eq_true hlt;have hRc:Rd (sets W2 n4 0 [.slice A1 y.f0.length c1,.string y.f1.f0,.slice A2 y.f1.f1.length c2]) (((w4.setCell ⟨n4,0,none⟩ (.slice A1 y.f0.length c1)).setCell ⟨n4,1,none⟩ (.string y.f1.f0)).setCell ⟨n4,2,none⟩ (.slice A2 y.f1.f1.length c2)) g l p' s.size:=⟨Ag,cg,Cg,by rw[z6w];exact hgl,hCC.far (fun ad he=>by
        obtain⟨cells,hc⟩:=hCC.2 ad he (by intro h0;rw[h0]at hlt;simp at hlt);intro hm;rw[hm,HBL.out.1]at hc
        cases hc) hKW,hpl,hll⟩
       have hBc:Below (sets W2 n4 0 [.slice A1 y.f0.length c1,.string y.f1.f0,.slice A2 y.f1.f1.length c2]).heap.size (sets W2 n4 0 [.slice A1 y.f0.length c1,.string y.f1.f0,.slice A2 y.f1.f1.length c2]) (((w4.setCell ⟨n4,0,none⟩ (.slice A1 y.f0.length c1)).setCell ⟨n4,1,none⟩ (.string y.f1.f0)).setCell ⟨n4,2,none⟩ (.slice A2 y.f1.f1.length c2)):=by rw[z6w];exact zio B HBL.out.1 B4 [.slice A1 y.f0.length c1,.string y.f1.f0,.slice A2 y.f1.f1.length c2]
       have HFL:=z00.mk (z4q (sets W2 n4 0 [.slice A1 y.f0.length c1,.string y.f1.f0,.slice A2 y.f1.f1.length c2]) (((w4.setCell ⟨n4,0,none⟩ (.slice A1 y.f0.length c1)).setCell ⟨n4,1,none⟩ (.string y.f1.f0)).setCell ⟨n4,2,none⟩ (.slice A2 y.f1.f1.length c2)) g l p' s.size 2 hRc hBc);have hne:leftL l p'≠[]:=fun h0=>by
        have:=congrArg List.length h0;rw[z0o]at this
        simp at this
        omega
       rw[all_more HRQ.out hne,z0o]at HR;replace HR:=z00.mk (show((⟨[],noneA⟩:PgS),(seeP l s.size (l.length - (l.length - p'))).f2,(2:Int))=r from HR.out);rw[show l.length - (l.length - p')=p' by omega]at HR;obtain rfl:=HR.out;clear hRc hBc hKW
       go_wp2_with fail
       refine HFL.out.mono ?_;rintro e w6 ⟨rfl,R6,B6',K6⟩;have D4:=z0a (show(sets W2 n4 0 [.slice A1 y.f0.length c1,.string y.f1.f0,.slice A2 y.f1.f1.length c2]).heap[n4]?=some (.cells #[.slice A1 y.f0.length c1,.string y.f1.f0,.slice A2 y.f1.f1.length c2] 27 (0,0))from z35 [.slice A1 y.f0.length c1,.string y.f1.f0,.slice A2 y.f1.f1.length c2] 0 W2 #[.slice none 0 0,.string ⟨#[]⟩,.slice none 0 0] HBL.out.1) B6';have D5:=z0a (show(sets W2 n4 0 [.slice A1 y.f0.length c1,.string y.f1.f0,.slice A2 y.f1.f1.length c2]).heap[n5]?=some (.cells #[.int .i64 a] 3 (0,0))from z2q (by omega) [.slice A1 y.f0.length c1,.string y.f1.f0,.slice A2 y.f1.f1.length c2] 0 W2 HBL.out.2.1) B6';have D6:=z0a (show(sets W2 n4 0 [.slice A1 y.f0.length c1,.string y.f1.f0,.slice A2 y.f1.f1.length c2]).heap[n6]?=some (.cells #[.int .i64 0] 40 (0,0))from z2q (by omega) [.slice A1 y.f0.length c1,.string y.f1.f0,.slice A2 y.f1.f1.length c2] 0 W2 HBL.out.2.2.1) B6';have D7:=z0a (show(sets W2 n4 0 [.slice A1 y.f0.length c1,.string y.f1.f0,.slice A2 y.f1.f1.length c2]).heap[n7]?=some (.cells #[.slice none 0 0,.string ⟨#[]⟩,.slice none 0 0] 27 (0,0))from z2q (by omega) [.slice A1 y.f0.length c1,.string y.f1.f0,.slice A2 y.f1.f1.length c2] 0 W2 HBL.out.2.2.2) B6';have HB6:=z06 (z2u (show w.heap.size≤n4 by omega) [.slice A1 y.f0.length c1,.string y.f1.f0,.slice A2 y.f1.f1.length c2] 0 W2 HBW.out) (by rw[z6w];exact HBW.out.size) B6';refine leaves_cons (f:=81) (args:=#[.pointer (some ⟨n7,0,none⟩),.pointer (some ⟨n4,0,none⟩),.pointer (some ⟨n5,0,none⟩),.pointer (some ⟨n6,0,none⟩)]) (by simp) (by simp[go_sem]) ?_;refine(zme n7 n4 n5 n6 (seeP l s.size p').f2 2 [] w6 (.slice A1 y.f0.length c1) (.string y.f1.f0) (.slice A2 y.f1.f1.length c2) _ _ D7 D4 D5 D6 (by omega) (by omega) (by omega) (by omega) (by omega) (by omega)).mono ?_;rintro e u' w'' ⟨rfl,rfl,F4,F5,F6,HBB⟩
       exact⟨_,zaa rfl rfl rfl F4 F5 F6,_,rfl,⟨_,_,rfl,Kd.R_nil _ _ _ _ _,Kd.R_nil _ _ _ _ _⟩,by have h:=HBB _ _ HB6 (by omega) (by omega) (by omega) HB6.size;first|exact h|(rw[en4]at h;exact h)⟩
     · have hltz:decide ((p':Int)<(l.length:Int))=false:=decide_eq_false (by omega);have hltz2:decide (p'<l.length)=false:=decide_eq_false hlt;have hnil:leftL l p'=[]:=List.length_eq_zero_iff.1 (by rw[z0o];omega);rw[hnil]at HRQ;rw[all_ok HRQ.out]at HR;replace HR:=z00.mk (show(y,(0:Int),(0:Int))=r from HR.out);obtain rfl:=HR.out;clear hKW;have b0:(((w4.setCell ⟨n4,0,none⟩ (.slice A1 y.f0.length c1)).setCell ⟨n4,1,none⟩ (.string y.f1.f0)).setCell ⟨n4,2,none⟩ (.slice A2 y.f1.f1.length c2)).cell? ⟨n4,0,none⟩=some (.slice A1 y.f0.length c1):=(z01 C4 0).trans rfl;have b1:(((w4.setCell ⟨n4,0,none⟩ (.slice A1 y.f0.length c1)).setCell ⟨n4,1,none⟩ (.string y.f1.f0)).setCell ⟨n4,2,none⟩ (.slice A2 y.f1.f1.length c2)).cell? ⟨n4,1,none⟩=some (.string y.f1.f0):=(z01 C4 1).trans rfl;have b2:(((w4.setCell ⟨n4,0,none⟩ (.slice A1 y.f0.length c1)).setCell ⟨n4,1,none⟩ (.string y.f1.f0)).setCell ⟨n4,2,none⟩ (.slice A2 y.f1.f1.length c2)).cell? ⟨n4,2,none⟩=some (.slice A2 y.f1.f1.length c2):=(z01 C4 2).trans rfl;have bf0:=z03 C4 0;have bf1:=z03 C4 1;have bf2:=z03 C4 2;have g5:(((w4.setCell ⟨n4,0,none⟩ (.slice A1 y.f0.length c1)).setCell ⟨n4,1,none⟩ (.string y.f1.f0)).setCell ⟨n4,2,none⟩ (.slice A2 y.f1.f1.length c2)).cell? ⟨n5,0,none⟩=some (.int .i64 a):=(z01 C5 0).trans rfl;have g6:(((w4.setCell ⟨n4,0,none⟩ (.slice A1 y.f0.length c1)).setCell ⟨n4,1,none⟩ (.string y.f1.f0)).setCell ⟨n4,2,none⟩ (.slice A2 y.f1.f1.length c2)).cell? ⟨n6,0,none⟩=some (.int .i64 0):=(z01 C6 0).trans rfl;have gf5:=z03 C5 0;have gf6:=z03 C6 0
       have D4:((((((((w4.setCell ⟨n4,0,none⟩ (.slice A1 y.f0.length c1)).setCell ⟨n4,1,none⟩ (.string y.f1.f0)).setCell ⟨n4,2,none⟩ (.slice A2 y.f1.f1.length c2)).setCell ⟨n4,0,none⟩ (.slice A1 y.f0.length c1)).setCell ⟨n4,1,none⟩ (.string y.f1.f0)).setCell ⟨n4,2,none⟩ (.slice A2 y.f1.f1.length c2)).setCell ⟨n5,0,none⟩ (.int .i64 0)).setCell ⟨n6,0,none⟩ (.int .i64 0)).heap[n4]?=some (.cells #[.slice A1 y.f0.length c1,.string y.f1.f0,.slice A2 y.f1.f1.length c2] 27 (0,0)):=z1f (z1f (z35 [.slice A1 y.f0.length c1,.string y.f1.f0,.slice A2 y.f1.f1.length c2] 0 (((w4.setCell ⟨n4,0,none⟩ (.slice A1 y.f0.length c1)).setCell ⟨n4,1,none⟩ (.string y.f1.f0)).setCell ⟨n4,2,none⟩ (.slice A2 y.f1.f1.length c2)) #[.slice A1 y.f0.length c1,.string y.f1.f0,.slice A2 y.f1.f1.length c2] C4) (by show n4≠n5;omega) _) zA0x _;have D5:((((((((w4.setCell ⟨n4,0,none⟩ (.slice A1 y.f0.length c1)).setCell ⟨n4,1,none⟩ (.string y.f1.f0)).setCell ⟨n4,2,none⟩ (.slice A2 y.f1.f1.length c2)).setCell ⟨n4,0,none⟩ (.slice A1 y.f0.length c1)).setCell ⟨n4,1,none⟩ (.string y.f1.f0)).setCell ⟨n4,2,none⟩ (.slice A2 y.f1.f1.length c2)).setCell ⟨n5,0,none⟩ (.int .i64 0)).setCell ⟨n6,0,none⟩ (.int .i64 0)).heap[n5]?=some (.cells #[.int .i64 0] 3 (0,0)):=z1f (z0t (z2q (by omega) [.slice A1 y.f0.length c1,.string y.f1.f0,.slice A2 y.f1.f1.length c2] 0 (((w4.setCell ⟨n4,0,none⟩ (.slice A1 y.f0.length c1)).setCell ⟨n4,1,none⟩ (.string y.f1.f0)).setCell ⟨n4,2,none⟩ (.slice A2 y.f1.f1.length c2)) C5) 0 (.int .i64 0) rfl) (by show n5≠n6;omega) _
       have D6:((((((((w4.setCell ⟨n4,0,none⟩ (.slice A1 y.f0.length c1)).setCell ⟨n4,1,none⟩ (.string y.f1.f0)).setCell ⟨n4,2,none⟩ (.slice A2 y.f1.f1.length c2)).setCell ⟨n4,0,none⟩ (.slice A1 y.f0.length c1)).setCell ⟨n4,1,none⟩ (.string y.f1.f0)).setCell ⟨n4,2,none⟩ (.slice A2 y.f1.f1.length c2)).setCell ⟨n5,0,none⟩ (.int .i64 0)).setCell ⟨n6,0,none⟩ (.int .i64 0)).heap[n6]?=some (.cells #[.int .i64 0] 40 (0,0)):=z0t (z1f (z2q (by omega) [.slice A1 y.f0.length c1,.string y.f1.f0,.slice A2 y.f1.f1.length c2] 0 (((w4.setCell ⟨n4,0,none⟩ (.slice A1 y.f0.length c1)).setCell ⟨n4,1,none⟩ (.string y.f1.f0)).setCell ⟨n4,2,none⟩ (.slice A2 y.f1.f1.length c2)) C6) (by show n6≠n5;omega) _) 0 (.int .i64 0) rfl;have HBD:Below w.heap.size w ((((((((w4.setCell ⟨n4,0,none⟩ (.slice A1 y.f0.length c1)).setCell ⟨n4,1,none⟩ (.string y.f1.f0)).setCell ⟨n4,2,none⟩ (.slice A2 y.f1.f1.length c2)).setCell ⟨n4,0,none⟩ (.slice A1 y.f0.length c1)).setCell ⟨n4,1,none⟩ (.string y.f1.f0)).setCell ⟨n4,2,none⟩ (.slice A2 y.f1.f1.length c2)).setCell ⟨n5,0,none⟩ (.int .i64 0)).setCell ⟨n6,0,none⟩ (.int .i64 0)):=z08 (z08 (z2u (show w.heap.size≤n4 by omega) [.slice A1 y.f0.length c1,.string y.f1.f0,.slice A2 y.f1.f1.length c2] 0 (((w4.setCell ⟨n4,0,none⟩ (.slice A1 y.f0.length c1)).setCell ⟨n4,1,none⟩ (.string y.f1.f0)).setCell ⟨n4,2,none⟩ (.slice A2 y.f1.f1.length c2)) HBc) (by omega)) (by omega)
       have HE0:=z00.mk (show Kd.R k33 33 ((((((((w4.setCell ⟨n4,0,none⟩ (.slice A1 y.f0.length c1)).setCell ⟨n4,1,none⟩ (.string y.f1.f0)).setCell ⟨n4,2,none⟩ (.slice A2 y.f1.f1.length c2)).setCell ⟨n4,0,none⟩ (.slice A1 y.f0.length c1)).setCell ⟨n4,1,none⟩ (.string y.f1.f0)).setCell ⟨n4,2,none⟩ (.slice A2 y.f1.f1.length c2)).setCell ⟨n5,0,none⟩ (.int .i64 0)).setCell ⟨n6,0,none⟩ (.int .i64 0)) (g+1) (fun k=>g+1≤k) (.slice A1 y.f0.length c1) y.f0 from Kd.R_far (Kd.R_far (z5h (fun k hk=>by omega) [.slice A1 y.f0.length c1,.string y.f1.f0,.slice A2 y.f1.f1.length c2] 0 (((w4.setCell ⟨n4,0,none⟩ (.slice A1 y.f0.length c1)).setCell ⟨n4,1,none⟩ (.string y.f1.f0)).setCell ⟨n4,2,none⟩ (.slice A2 y.f1.f1.length c2)) HO0.out) (fun k hk=>by show k≠n5;omega) _) (fun k hk=>by show k≠n6;omega) _);have HE1:=z00.mk (show Kd.R k60 60 ((((((((w4.setCell ⟨n4,0,none⟩ (.slice A1 y.f0.length c1)).setCell ⟨n4,1,none⟩ (.string y.f1.f0)).setCell ⟨n4,2,none⟩ (.slice A2 y.f1.f1.length c2)).setCell ⟨n4,0,none⟩ (.slice A1 y.f0.length c1)).setCell ⟨n4,1,none⟩ (.string y.f1.f0)).setCell ⟨n4,2,none⟩ (.slice A2 y.f1.f1.length c2)).setCell ⟨n5,0,none⟩ (.int .i64 0)).setCell ⟨n6,0,none⟩ (.int .i64 0)) (g+1) (fun k=>g+1≤k) (.slice A2 y.f1.f1.length c2) y.f1.f1 from Kd.R_far (Kd.R_far (z5h (fun k hk=>by omega) [.slice A1 y.f0.length c1,.string y.f1.f0,.slice A2 y.f1.f1.length c2] 0 (((w4.setCell ⟨n4,0,none⟩ (.slice A1 y.f0.length c1)).setCell ⟨n4,1,none⟩ (.string y.f1.f0)).setCell ⟨n4,2,none⟩ (.slice A2 y.f1.f1.length c2)) HO1.out) (fun k hk=>by show k≠n5;omega) _) (fun k hk=>by show k≠n6;omega) _);have HD:=z00.mk (And.intro D4 (And.intro D5 (And.intro D6 HBD)));clear D4 D5 D6 HBD C4 C5 C6 C7 HBc B4 B5 B6 B7 HB4 R B K hp Cg hbg hgl hCC hpl hll;go_wp2;refine leaves_cons (f:=81) (args:=#[.pointer (some ⟨n7,0,none⟩),.pointer (some ⟨n4,0,none⟩),.pointer (some ⟨n5,0,none⟩),.pointer (some ⟨n6,0,none⟩)]) (by simp) (by simp[go_sem]) ?_;refine(idleP _ _ _ _ _).mono ?_;rintro e u' w'' ⟨rfl,rfl,rfl⟩
       exact⟨_,zaa rfl rfl rfl (z0d HD.out.1 _) (z0d HD.out.2.1 _) (z0d HD.out.2.2.1 _),_,rfl,⟨_,_,rfl,Kd.R_mono (Kd.R_lower (Kd.R_alloc HE0.out _) (show n4≤g+1 by omega)) (fun k hk=>by omega),Kd.R_mono (Kd.R_lower (Kd.R_alloc HE1.out _) (show n4≤g+1 by omega)) (fun k hk=>by omega)⟩,by have h:=z02 HD.out.2.2.2 (.cells #[.int .i64 0,.int .i64 0] 125);rw[en4]at h;exact h⟩
   · have B4:=z0a HBL.out.1 B;have B5:=z0a HBL.out.2.1 B;have B6:=z0a HBL.out.2.2.1 B;have B7:=z0a HBL.out.2.2.2 B;have HB4:=z06 HBW.out HBW.out.size B;rw[zkh HRQ.out]at HR;replace HR:=z00.mk (show((⟨[],noneA⟩:PgS),(seeP l s.size (l.length - q.1)).f2,q.2)=r from HR.out);obtain rfl:=HR.out;obtain rfl:i=l.length - q.1:=by omega
     refine leaves_cons (f:=81) (args:=#[.pointer (some ⟨n7,0,none⟩),.pointer (some ⟨n4,0,none⟩),.pointer (some ⟨n5,0,none⟩),.pointer (some ⟨n6,0,none⟩)]) (by simp) (by simp[go_sem]) ?_;refine(zme n7 n4 n5 n6 (seeP l s.size (l.length - q.1)).f2 q.2 [] w4 (.slice none 0 0) (.string ⟨#[]⟩) (.slice none 0 0) _ _ B7 B4 B5 B6 (by omega) (by omega) (by omega) (by omega) (by omega) (by omega)).mono ?_;rintro e u' w'' ⟨rfl,rfl,F4,F5,F6,HBB⟩;exact⟨_,zaa rfl rfl rfl F4 F5 F6,_,rfl,⟨_,_,rfl,Kd.R_nil _ _ _ _ _,Kd.R_nil _ _ _ _ _⟩,by have h:=HBB _ _ HB4 (by omega) (by omega) (by omega) HB4.size;first|exact h|(rw[en4]at h;exact h)⟩
 · have hbne:(b !=0)=true:=bne_iff_ne.2 hb0;have hbeq:(b==0)=false:=beq_eq_false_iff_ne.2 hb0;replace HR:=z00.mk (show((⟨[],noneA⟩:PgS),a,b)=r by rw[←HR.out];show _=if b=0 then _ else _;rw[if_neg hb0]);obtain rfl:=HR.out
   go_wp2_with fail
   rw[HW2.out];have B4:=z10 HBL.out.1;have B5:=z10 HBL.out.2.1;have B6:=z10 HBL.out.2.2.1;have B7:=z10 HBL.out.2.2.2;have HB:=z05 HBW.out;refine z6t (n:=6) (S:=fun w'=>w'.cell? ⟨n5,0,none⟩=some (.int .i64 a)∧w'.cell? ⟨n6,0,none⟩=some (.int .i64 b)∧w'.cell? ⟨n7,0,none⟩=some (.slice none 0 0)∧w'.cell? ⟨n7,1,none⟩=some (.string ⟨#[]⟩)∧w'.cell? ⟨n7,2,none⟩=some (.slice none 0 0)) (ds:=[5]) #[false,false,false,false,false,false] (by kernel_rfl) rfl rfl ⟨(z01 B5 0).trans rfl,(z01 B6 0).trans rfl,(z01 B7 0).trans rfl,(z01 B7 1).trans rfl,(z01 B7 2).trans rfl⟩ (fun hHeld=>?_);refine z3l readP4.tab readP4.bits (fun HT_ HW_=>?_)
   generalize W2.drew=W at B4 B5 B6 B7 HB hHeld ⊢
   refine take_ (i:=0) (N:=some 18) (v:=?_) (a':=?_) #[true,false,false,false,false,false] rfl rfl (z1s HT_.out HW_.out (by kernel_rfl)) (fun c a w h=>z5x (putP a _ _ (by decide) (by decide) (by decide)) _ _ _ h) (Or.inl ⟨by rfl,?_⟩) hHeld ?_ ?_
   rotate_left
   · rintro w' ⟨s0,s1,z0,z1,z2⟩
     go_simp
     with_reducible rfl
   rotate_left
   · simp only[Act.put,List.setIfInBounds_toArray,List.set_cons_zero,List.set_cons_succ,i64_w,i32_w];rfl
   refine take_ (i:=1) (N:=some 19) (v:=?_) (a':=?_) #[true,true,false,false,false,false] rfl rfl (z1s HT_.out HW_.out (by kernel_rfl)) (fun c a w h=>z5x (putP a _ _ (by decide) (by decide) (by decide)) _ _ _ h) (Or.inl ⟨by rfl,?_⟩) hHeld ?_ ?_
   rotate_left
   · rintro w' ⟨s0,s1,z0,z1,z2⟩
     go_simp
     with_reducible rfl
   rotate_left
   · simp only[Act.put,List.setIfInBounds_toArray,List.set_cons_zero,List.set_cons_succ,i64_w,i32_w];rfl
   refine take_ (i:=2) (N:=some 20) (v:=?_) (a':=?_) #[true,true,true,false,false,false] rfl rfl (z1s HT_.out HW_.out (by kernel_rfl)) (fun c a w h=>z5x (putP a _ _ (by decide) (by decide) (by decide)) _ _ _ h) (Or.inl ⟨by rfl,?_⟩) hHeld ?_ ?_
   rotate_left
   · rintro w' ⟨s0,s1,z0,z1,z2⟩
     go_simp
     with_reducible rfl
   rotate_left
   · simp only[Act.put,List.setIfInBounds_toArray,List.set_cons_zero,List.set_cons_succ,i64_w,i32_w];rfl
   refine one_ (i:=3) (N:=none) #[true,true,true,true,false,false] rfl rfl (z2f HT_.out (by kernel_rfl)) (by decide) (fun K hK=>?_);have a0:W.cell? ⟨n4,0,none⟩=some (.slice none 0 0):=(z01 B4 0).trans rfl;have a1:W.cell? ⟨n4,1,none⟩=some (.string ⟨#[]⟩):=(z01 B4 1).trans rfl;have a2:W.cell? ⟨n4,2,none⟩=some (.slice none 0 0):=(z01 B4 2).trans rfl;have af0:=z03 B4 0;have af1:=z03 B4 1;have af2:=z03 B4 2;refine skip_ (w1:=?_) (by rfl) rfl ?_ ?_
   rotate_left
   · go_simp
     rfl
   have C4:(((W.setCell ⟨n4,0,none⟩ (.slice none 0 0)).setCell ⟨n4,1,none⟩ (.string ⟨#[]⟩)).setCell ⟨n4,2,none⟩ (.slice none 0 0)).heap[n4]?=some (.cells #[.slice none 0 0,.string ⟨#[]⟩,.slice none 0 0] 27 (0,0)):=z35 [.slice none 0 0,.string ⟨#[]⟩,.slice none 0 0] 0 W #[.slice none 0 0,.string ⟨#[]⟩,.slice none 0 0] B4;have C5:(((W.setCell ⟨n4,0,none⟩ (.slice none 0 0)).setCell ⟨n4,1,none⟩ (.string ⟨#[]⟩)).setCell ⟨n4,2,none⟩ (.slice none 0 0)).heap[n5]?=some (.cells #[.int .i64 a] 3 (0,0)):=z2q (by omega) [.slice none 0 0,.string ⟨#[]⟩,.slice none 0 0] 0 W B5;have C6:(((W.setCell ⟨n4,0,none⟩ (.slice none 0 0)).setCell ⟨n4,1,none⟩ (.string ⟨#[]⟩)).setCell ⟨n4,2,none⟩ (.slice none 0 0)).heap[n6]?=some (.cells #[.int .i64 b] 40 (0,0)):=z2q (by omega) [.slice none 0 0,.string ⟨#[]⟩,.slice none 0 0] 0 W B6;have C7:(((W.setCell ⟨n4,0,none⟩ (.slice none 0 0)).setCell ⟨n4,1,none⟩ (.string ⟨#[]⟩)).setCell ⟨n4,2,none⟩ (.slice none 0 0)).heap[n7]?=some (.cells #[.slice none 0 0,.string ⟨#[]⟩,.slice none 0 0] 27 (0,0)):=z2q (by omega) [.slice none 0 0,.string ⟨#[]⟩,.slice none 0 0] 0 W B7;refine hK.out _ _ ⟨(z01 C5 0).trans rfl,(z01 C6 0).trans rfl,(z01 C7 0).trans rfl,(z01 C7 1).trans rfl,(z01 C7 2).trans rfl⟩ (fun hHeld=>?_);clear hK K;refine one_ (i:=4) (N:=none) #[true,true,true,true,true,false] rfl rfl (z2f HT_.out (by kernel_rfl)) (by decide) (fun K hK=>?_);have b0:(((W.setCell ⟨n4,0,none⟩ (.slice none 0 0)).setCell ⟨n4,1,none⟩ (.string ⟨#[]⟩)).setCell ⟨n4,2,none⟩ (.slice none 0 0)).cell? ⟨n5,0,none⟩=some (.int .i64 a):=(z01 C5 0).trans rfl;have bf0:=z03 C5 0;refine skip_ (w1:=?_) (by rfl) rfl ?_ ?_
   rotate_left
   · go_simp
     rfl
   have E4:((((W.setCell ⟨n4,0,none⟩ (.slice none 0 0)).setCell ⟨n4,1,none⟩ (.string ⟨#[]⟩)).setCell ⟨n4,2,none⟩ (.slice none 0 0)).setCell ⟨n5,0,none⟩ (.int .i64 a)).heap[n4]?=some (.cells #[.slice none 0 0,.string ⟨#[]⟩,.slice none 0 0] 27 (0,0)):=z1f C4 (by show n4≠n5;omega) _;have E5:((((W.setCell ⟨n4,0,none⟩ (.slice none 0 0)).setCell ⟨n4,1,none⟩ (.string ⟨#[]⟩)).setCell ⟨n4,2,none⟩ (.slice none 0 0)).setCell ⟨n5,0,none⟩ (.int .i64 a)).heap[n5]?=some (.cells #[.int .i64 a] 3 (0,0)):=z0t C5 0 (.int .i64 a) rfl;have E6:((((W.setCell ⟨n4,0,none⟩ (.slice none 0 0)).setCell ⟨n4,1,none⟩ (.string ⟨#[]⟩)).setCell ⟨n4,2,none⟩ (.slice none 0 0)).setCell ⟨n5,0,none⟩ (.int .i64 a)).heap[n6]?=some (.cells #[.int .i64 b] 40 (0,0)):=z1f C6 (by show n6≠n5;omega) _;have E7:((((W.setCell ⟨n4,0,none⟩ (.slice none 0 0)).setCell ⟨n4,1,none⟩ (.string ⟨#[]⟩)).setCell ⟨n4,2,none⟩ (.slice none 0 0)).setCell ⟨n5,0,none⟩ (.int .i64 a)).heap[n7]?=some (.cells #[.slice none 0 0,.string ⟨#[]⟩,.slice none 0 0] 27 (0,0)):=z1f C7 (by show n7≠n5;omega) _;refine hK.out _ _ ⟨(z01 E5 0).trans rfl,(z01 E6 0).trans rfl,(z01 E7 0).trans rfl,(z01 E7 1).trans rfl,(z01 E7 2).trans rfl⟩ (fun hHeld=>?_);clear hK K;refine last_ (i:=5) (N:=none) #[true,true,true,true,true,true] rfl rfl (z2f HT_.out (by kernel_rfl)) (by decide) (fun K hK=>?_);have c0:((((W.setCell ⟨n4,0,none⟩ (.slice none 0 0)).setCell ⟨n4,1,none⟩ (.string ⟨#[]⟩)).setCell ⟨n4,2,none⟩ (.slice none 0 0)).setCell ⟨n5,0,none⟩ (.int .i64 a)).cell? ⟨n6,0,none⟩=some (.int .i64 b):=(z01 E6 0).trans rfl;have cf0:=z03 E6 0;refine skip_ (w1:=?_) (by rfl) rfl ?_ ?_
   rotate_left
   · go_simp
     rfl
   refine hK.out _ _ ?_;clear hK K;refine done_ (z4y HT_.out (by kernel_rfl)) ?_;have F4:(((((W.setCell ⟨n4,0,none⟩ (.slice none 0 0)).setCell ⟨n4,1,none⟩ (.string ⟨#[]⟩)).setCell ⟨n4,2,none⟩ (.slice none 0 0)).setCell ⟨n5,0,none⟩ (.int .i64 a)).setCell ⟨n6,0,none⟩ (.int .i64 b)).heap[n4]?=some (.cells #[.slice none 0 0,.string ⟨#[]⟩,.slice none 0 0] 27 (0,0)):=z1f E4 zA0x _;have F5:(((((W.setCell ⟨n4,0,none⟩ (.slice none 0 0)).setCell ⟨n4,1,none⟩ (.string ⟨#[]⟩)).setCell ⟨n4,2,none⟩ (.slice none 0 0)).setCell ⟨n5,0,none⟩ (.int .i64 a)).setCell ⟨n6,0,none⟩ (.int .i64 b)).heap[n5]?=some (.cells #[.int .i64 a] 3 (0,0)):=z1f E5 (by show n5≠n6;omega) _;have F6:(((((W.setCell ⟨n4,0,none⟩ (.slice none 0 0)).setCell ⟨n4,1,none⟩ (.string ⟨#[]⟩)).setCell ⟨n4,2,none⟩ (.slice none 0 0)).setCell ⟨n5,0,none⟩ (.int .i64 a)).setCell ⟨n6,0,none⟩ (.int .i64 b)).heap[n6]?=some (.cells #[.int .i64 b] 40 (0,0)):=z0t E6 0 (.int .i64 b) rfl;have HB3:Below w.heap.size w (((((W.setCell ⟨n4,0,none⟩ (.slice none 0 0)).setCell ⟨n4,1,none⟩ (.string ⟨#[]⟩)).setCell ⟨n4,2,none⟩ (.slice none 0 0)).setCell ⟨n5,0,none⟩ (.int .i64 a)).setCell ⟨n6,0,none⟩ (.int .i64 b)):=(((((HB).setCell (show w.heap.size≤n4 by omega) _).setCell (show w.heap.size≤n4 by omega) _).setCell (show w.heap.size≤n4 by omega) _).setCell (show w.heap.size≤n5 by omega) _).setCell (show w.heap.size≤n6 by omega) _;go_wp2;exact⟨_,zaa rfl rfl rfl F4 F5 F6,_,rfl,⟨_,_,rfl,Kd.R_nil _ _ _ _ _,Kd.R_nil _ _ _ _ _⟩,by have h:=HB3;rw[en4]at h;exact h⟩

def z2m.f (a0:ByteArray):Option (List RlS × ByteArray × List TmS × Int × Int) :=
 if a0.size≤140737488351232 then some ((z3o (⟨[],noneA⟩:PgS) z2c a0).1.f0,(z3o (⟨[],noneA⟩:PgS) z2c a0).1.f1.f0,(z3o (⟨[],noneA⟩:PgS) z2c a0).1.f1.f1,(z3o (⟨[],noneA⟩:PgS) z2c a0).2.1,(z3o (⟨[],noneA⟩:PgS) z2c a0).2.2)else none
set_option maxHeartbeats 1600000 in
set_option maxRecDepth 100000 in
theorem z2m.calls (a0:ByteArray) (r1:List RlS) (r2:ByteArray) (r3:List TmS) (r4:Int) (r5:Int) (w:World) (hLW:LaidW w) (h:z2m.f a0=some (r1,r2,r3,r4,r5)) :
 Calls Tryz.prog 29 #[.string a0] w fun e w'=>∃v0_ v1_:Value,e=.returned (.tuple #[.agg #[v0_,.string r2,v1_],.int .i64 r4,.int .i64 r5])∧Kd.R k33 33 w' w.heap.size (fun _=>True) v0_ r1∧Kd.R k60 60 w' w.heap.size (fun _=>True) v1_ r3∧Below w.heap.size w w':=by
 unfold z2m.f at h
 split at h
 case isFalse=>cases h
 rename_i hs;have hB0:Below w.heap.size w (w.alloc (.cells zProg 27)):=z02 (Below.refl _ _) _;have hP:=zgr a0 hs (w.alloc (.cells zProg 27)) (hLW.below hB0);obtain⟨⟨⟨f0,⟨q0,q1⟩⟩,ra,rb⟩,hr⟩:∃x,z3o (⟨[],noneA⟩:PgS) z2c a0=x:=⟨_,rfl⟩
 rw[hr]at h hP;have h:=Option.some.inj h;injection h with h1 h;injection h with h2 h;injection h with h3 h;injection h with h4 h5
 subst h1 h2 h3 h4 h5;have HP:=z00.mk hP;obtain⟨n,en⟩:∃n,w.heap.size=n:=⟨_,rfl⟩
 have hN:=z0l w (.cells zProg 27);rw[en]at hN;have HN:=z00.mk (And.intro hN hB0);have hz:(w.alloc (.cells zProg 27)).heap.size=n+1:=by simp[en]
 clear hr hs hLW hP hN hB0;go_enter Tryz.func29,Tryz.ntmps29
 go_wp2_with fail
 refine HP.out.mono ?_;rintro e w1 ⟨v,rfl,⟨u1,u2,rfl,hu1,hu2⟩,hb⟩;obtain⟨A1,c1,rfl⟩:=Kd.R_slice hu1;obtain⟨A2,c2,rfl⟩:=Kd.R_slice hu2;rw[hz]at hu1 hu2;have B:=z0a HN.out.1 hb;have hc0:w1.cell? ⟨n,0,none⟩=some (.slice none 0 0):=(z01 B 0).trans rfl;have hc1:w1.cell? ⟨n,1,none⟩=some (.string ⟨#[]⟩):=(z01 B 1).trans rfl;have hc2:w1.cell? ⟨n,2,none⟩=some (.slice none 0 0):=(z01 B 2).trans rfl;have hf0:=z03 B 0;have hf1:=z03 B 1;have hf2:=z03 B 2;have HB:=z06 HN.out.2 HN.out.2.size hb;have P1:(sets w1 n 0 [.slice A1 f0.length c1,.string q0,.slice A2 q1.length c2]).heap[n]?=some (.cells #[.slice A1 f0.length c1,.string q0,.slice A2 q1.length c2] 27 (0,0)):=z35 [.slice A1 f0.length c1,.string q0,.slice A2 q1.length c2] 0 w1 zProg B;have HD:=z00.mk (And.intro P1 (And.intro (Kd.R_mono (ok':=fun _=>True) (Kd.R_lower (base':=w.heap.size) (show Kd.R k33 33 (sets w1 n 0 [.slice A1 f0.length c1,.string q0,.slice A2 q1.length c2]) (n+1) (fun k=>n+1≤k) (.slice A1 f0.length c1) f0 from z5h (fun k hk=>by omega) [.slice A1 f0.length c1,.string q0,.slice A2 q1.length c2] 0 w1 hu1) (by omega)) (fun _ _=>trivial)) (And.intro (Kd.R_mono (ok':=fun _=>True) (Kd.R_lower (base':=w.heap.size) (show Kd.R k60 60 (sets w1 n 0 [.slice A1 f0.length c1,.string q0,.slice A2 q1.length c2]) (n+1) (fun k=>n+1≤k) (.slice A2 q1.length c2) q1 from z5h (fun k hk=>by omega) [.slice A1 f0.length c1,.string q0,.slice A2 q1.length c2] 0 w1 hu2) (by omega)) (fun _ _=>trivial)) (z2u (show w.heap.size≤n by omega) [.slice A1 f0.length c1,.string q0,.slice A2 q1.length c2] 0 w1 HB))));clear hu1 hu2 hb B HP P1 HB;go_wp2;refine bodyPost_ret (zgp rfl _ _ n 27 #[.slice A1 f0.length c1,.string q0,.slice A2 q1.length c2] (0,0) _ rfl HD.out.1 Tryz.underlying27 rfl (by kernel_rfl)) rfl ?_;exact⟨_,_,rfl,HD.out.2.1,HD.out.2.2.1,HD.out.2.2.2⟩
end Go.Proofs.YthebhbomlllpeaaGreatDoor.X
