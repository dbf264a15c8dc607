/-
  ShowParts: what the proof needs, put together by a program of this session (shake.py), part 10.
-/
import Derived.Test.YthebhbomlllpeaaGreatDoorZShowParts9
set_option linter.unusedVariables false
set_option linter.unusedSimpArgs false
namespace Go.Proofs.YthebhbomlllpeaaGreatDoor.X
open Go.RowKit Go.Proofs.YthebhbomlllpeaaGreatDoorW.PrintWords Go.Proofs.YthebhbomlllpeaaGreatDoorW.PrintLast Go.Proofs.YthebhbomlllpeaaGreatDoorW.PrintMore
def aw9L:List S69:=[⟨1,⟨#[97]⟩⟩,⟨1,⟨#[98]⟩⟩,⟨1,⟨#[99]⟩⟩,⟨4,⟨#[]⟩⟩,⟨3,⟨#[]⟩⟩]
def aw9T:List S60:=[⟨⟨#[88]⟩,⟨0,0,⟨#[]⟩⟩⟩]
theorem aw9_1:z6h.f aw9L=some ⟨#[97,47,40,98,124,99,41]⟩:=by kernel_rfl
theorem aw9_3:z3t.f aw9L=some true:=by kernel_rfl
theorem aw9_5:z5n.f [] ⟨#[113]⟩ aw9T=some true:=by kernel_rfl
theorem aw9_7:z6q.f [] ⟨#[113]⟩ aw9T=some ⟨#[63,45,32,113,40,88,41,46,10]⟩:=by kernel_rfl
theorem aw9_9:z6r.f ⟨#[113]⟩ aw9T=some ⟨#[113,40,88,41]⟩:=by kernel_rfl
theorem aw9_11:z6s.f ⟨#[113]⟩ aw9T 0 []=some ⟨#[113,40,88,41,46]⟩:=by kernel_rfl
theorem zfu {a:ByteArray} {l:List UInt8} (h:a.data.toList=l):(a.toList==l)=true:=by rw[beq_iff_eq,ByteArray.toList_eq];exact h
set_option maxHeartbeats 8000000 in
set_option maxRecDepth 100000 in
theorem zdk (w:World) (hLW:LaidW w) :
 Calls Tryz.prog 16 #[] w fun e w'=>e=.returned (.bool true)∧Below w.heap.size w w':=by
 have HLW:=z00.mk hLW;clear hLW;have HB:=z00.mk (Below.refl w.heap.size w);obtain⟨y127,hy127⟩:∃y_:List S69,y_=aw9L:=⟨_,rfl⟩
 obtain⟨y130,hy130⟩:∃y_:List S60,y_=aw9T:=⟨_,rfl⟩
 have Ny127:=z00.mk (show y127=([(⟨1,(⟨#[97]⟩:ByteArray)⟩:S69),(⟨1,(⟨#[98]⟩:ByteArray)⟩:S69),(⟨1,(⟨#[99]⟩:ByteArray)⟩:S69),(⟨4,(⟨#[]⟩:ByteArray)⟩:S69),(⟨3,(⟨#[]⟩:ByteArray)⟩:S69)]:List S69)from hy127);have Ny130:=z00.mk (show y130=([(⟨(⟨#[88]⟩:ByteArray),(⟨0,0,(⟨#[]⟩:ByteArray)⟩:S58)⟩:S60)]:List S60)from hy130);obtain⟨t134,h1,c2b0⟩:∃t,z6h.f y127=some t∧(t.toList==([97,47,40,98,124,99,41]:List UInt8))=true:=⟨_,hy127 ▸ aw9_1,zfu rfl⟩
 obtain⟨t137,h7,c8b0⟩:∃t,z6q.f [] ⟨#[113]⟩ y130=some t∧(t.toList==([63,45,32,113,40,88,41,46,10]:List UInt8))=true:=⟨_,hy130 ▸ aw9_7,zfu rfl⟩
 obtain⟨t138,h9,c10b0⟩:∃t,z6r.f ⟨#[113]⟩ y130=some t∧(t.toList==([113,40,88,41]:List UInt8))=true:=⟨_,hy130 ▸ aw9_9,zfu rfl⟩
 obtain⟨t139,h11,c12b0⟩:∃t,z6s.f ⟨#[113]⟩ y130 0 []=some t∧(t.toList==([113,40,88,41,46]:List UInt8))=true:=⟨_,hy130 ▸ aw9_11,zfu rfl⟩
 have A1:=z00.mk h1;have A3:=z00.mk (show z3t.f y127=some true from hy127 ▸ aw9_3);have A5:=z00.mk (show z5n.f [] ⟨#[113]⟩ y130=some true from hy130 ▸ aw9_5);have A7:=z00.mk h7;have A9:=z00.mk h9;have A11:=z00.mk h11;clear h1 h7 h9 h11 hy127 hy130;go_enter Tryz.func16,Tryz.ntmps16
 go_wp2_with (first|((with_reducible refine z1r (N:=8) rfl ?_);refine Kd.R_lit k69 _ 69 ?hg (N:=8) ?hd (xs:=([(⟨1,(⟨#[97]⟩:ByteArray)⟩:S69),(⟨1,(⟨#[98]⟩:ByteArray)⟩:S69),(⟨1,(⟨#[99]⟩:ByteArray)⟩:S69),(⟨4,(⟨#[]⟩:ByteArray)⟩:S69),(⟨3,(⟨#[]⟩:ByteArray)⟩:S69)]:List (S69))) (inner:=[.int .i64 1,.string (⟨#[97]⟩:ByteArray),.int .i64 1,.string (⟨#[98]⟩:ByteArray),.int .i64 1,.string (⟨#[99]⟩:ByteArray),.int .i64 4,.string (⟨#[]⟩:ByteArray),.int .i64 3,.string (⟨#[]⟩:ByteArray)]) (ok:=fun _=>True) (okp:=fun _=>True) ?hr ?hp (fun _ hk=>hk) trivial (Below.refl _ _) (Nat.le_refl _) (by simp) ?_;(case hd=>rfl);(case hg=>rfl);(case hr=>first|(go_simp;done)|(go_simp;rfl));(case hp=>exact(Reps.c2 (show Kd.M k69 _ _ _ (⟨1,(⟨#[97]⟩:ByteArray)⟩:S69) [.int .i64 1,.string (⟨#[97]⟩:ByteArray)]from(z3r _ _ _ (⟨1,(⟨#[97]⟩:ByteArray)⟩:S69))) (Reps.c2 (show Kd.M k69 _ _ _ (⟨1,(⟨#[98]⟩:ByteArray)⟩:S69) [.int .i64 1,.string (⟨#[98]⟩:ByteArray)]from(z3r _ _ _ (⟨1,(⟨#[98]⟩:ByteArray)⟩:S69))) (Reps.c2 (show Kd.M k69 _ _ _ (⟨1,(⟨#[99]⟩:ByteArray)⟩:S69) [.int .i64 1,.string (⟨#[99]⟩:ByteArray)]from(z3r _ _ _ (⟨1,(⟨#[99]⟩:ByteArray)⟩:S69))) (Reps.c2 (show Kd.M k69 _ _ _ (⟨4,(⟨#[]⟩:ByteArray)⟩:S69) [.int .i64 4,.string (⟨#[]⟩:ByteArray)]from(z3r _ _ _ (⟨4,(⟨#[]⟩:ByteArray)⟩:S69))) (Reps.c2 (show Kd.M k69 _ _ _ (⟨3,(⟨#[]⟩:ByteArray)⟩:S69) [.int .i64 3,.string (⟨#[]⟩:ByteArray)]from(z3r _ _ _ (⟨3,(⟨#[]⟩:ByteArray)⟩:S69))) (Reps.none _ _)))))));intro v128 w12 ho13 hb hg_ hnew_;clear hg_ hnew_;(first|rw[←Ny127.out]at ho13|(simp only[Int.reduceToNat]at ho13;rw[←Ny127.out]at ho13));have n0_:=z00.mk (Kd.R_lower ho13 (z0j zA00));have n1_:=z00.mk (z0g zA00 hb);clear HB;have HO129:=n0_;have HB:=n1_;clear n0_ n1_;clear hb ho13)|((with_reducible refine z1r (N:=10) rfl ?_);refine Kd.R_lit k60 _ 60 ?hg (N:=10) ?hd (xs:=([(⟨(⟨#[88]⟩:ByteArray),(⟨0,0,(⟨#[]⟩:ByteArray)⟩:S58)⟩:S60)]:List (S60))) (inner:=[.string (⟨#[88]⟩:ByteArray),.int .i64 0,.int .i64 0,.string (⟨#[]⟩:ByteArray)]) (ok:=fun _=>True) (okp:=fun _=>True) ?hr ?hp (fun _ hk=>hk) trivial (Below.refl _ _) (Nat.le_refl _) (by simp) ?_;(case hd=>rfl);(case hg=>rfl);(case hr=>first|(go_simp;done)|(go_simp;rfl));(case hp=>exact(Reps.c4 (show Kd.M k60 _ _ _ (⟨(⟨#[88]⟩:ByteArray),(⟨0,0,(⟨#[]⟩:ByteArray)⟩:S58)⟩:S60) [.string (⟨#[88]⟩:ByteArray),.int .i64 0,.int .i64 0,.string (⟨#[]⟩:ByteArray)]from(z95 _ _ _ (⟨(⟨#[88]⟩:ByteArray),(⟨0,0,(⟨#[]⟩:ByteArray)⟩:S58)⟩:S60))) (Reps.none _ _)));intro v131 w14 ho15 hb hg_ hnew_;clear hg_ hnew_;(first|rw[←Ny130.out]at ho15|(simp only[Int.reduceToNat]at ho15;rw[←Ny130.out]at ho15));have n0_:=z00.mk (Kd.R_below zA0d hb);have n1_:=z00.mk (Kd.R_lower ho15 (z0j zA00));have n2_:=z00.mk (z0g zA00 hb);clear HO129;clear HB;have HO129:=n0_;have HO132:=n1_;have HB:=n2_;clear n0_ n1_ n2_;clear hb ho15;obtain⟨Ao16,co16,eo16⟩:=Kd.R_slice HO132.out;subst eo16)|((with_reducible refine z1r (N:=2) rfl ?_);refine z1z ?hg (N:=2) ?hd (cs:=#[.slice none 0 0,.string (⟨#[]⟩:ByteArray),.slice none 0 0]) (t:=27) ?hr ?_;(case hd=>rfl);(case hg=>rfl);(case hr=>first|(go_simp;done)|(go_simp;rfl));intro gb133 hg w17 hbox hb;have n0_:=z00.mk (Kd.R_below zA0d hb);have n1_:=z00.mk (Kd.R_below zA0e hb);have n2_:=z00.mk (z0g zA00 hb);have n3_:=z00.mk (hbox);have n4_:=z00.mk ((by rw[hg];exact(z0j zA00):w.heap.size≤gb133));have n5_:=z00.mk ((by rw[hg];exact(z0j zA00):w.heap.size≤gb133));clear HO129;clear HO132;clear HB;have HO129:=n0_;have HO132:=n1_;have HB:=n2_;have BK133:=n3_;have GW133:=n4_;have GE133:=n5_;clear n0_ n1_ n2_ n3_ n4_ n5_;clear hb hbox hg;have hcz18_0:w17.cell? ⟨gb133,0,none⟩=some (.slice none 0 0):=(z01 BK133.out 0).trans rfl;have hcz18_1:w17.cell? ⟨gb133,1,none⟩=some (.string (⟨#[]⟩:ByteArray)):=(z01 BK133.out 1).trans rfl;have hcz18_2:w17.cell? ⟨gb133,2,none⟩=some (.slice none 0 0):=(z01 BK133.out 2).trans rfl;have hfz18_0:=z02 BK133.out 0;have hfz18_1:=z02 BK133.out 1;have hfz18_2:=z02 BK133.out 2;obtain⟨Ao19,co19,eo19⟩:=Kd.R_slice HO129.out;subst eo19)|((with_reducible refine z1t (f:=25) rfl ?_);refine z4p (some 14) rfl rfl Tryz.func25 (by kernel_rfl) rfl #[.slice Ao19 y127.length co19] rfl zA01 ?_;(with_reducible refine(z6h.calls _ _ y127 t134 _ ?side3 ?side1 ?side2 A1.out).mono ?_);(case side1=>refine(Kd.R_reads' (e:=69) (base:=w.heap.size) (ok:=fun k_=>True) (n:=y127.length) (c:=co19) ?_).2.2;exact(by(with_reducible repeat(first|apply Kd.R_alloc|apply Kd.R_drewN|apply Kd.R_drew));exact(Kd.R_mono (Kd.R_far (p:=⟨gb133,2,none⟩) (Kd.R_far (p:=⟨gb133,1,none⟩) (Kd.R_far (p:=⟨gb133,0,none⟩) (Kd.R_types HO129.out BK133.out (by decide)) (fun _ hk=>hk.2) (.slice none 0 0)) (fun _ hk=>hk.2) (.string (⟨#[113]⟩:ByteArray))) (fun _ hk=>hk.2) (.slice Ao16 y130.length co16)) (fun _ h_=>h_.1))));(case side2=>exact(Kd.R_reads' HO129.out).2.1);(case side3=>(first|(refine LaidW.below HLW.out ?_;(repeat(first|(with_reducible first|exact HB.out|apply z03|apply z04|apply z05|refine z06 ?_ GE133.out)|exact HB.out));done)|(repeat(first|exact HLW.out|apply LaidW.drewN|apply LaidW.drew|apply LaidW.alloc))));rintro e w20 ⟨rfl,hb⟩;refine⟨_,rfl,?_⟩;have n0_:=z00.mk (Kd.R_below (by(with_reducible repeat(first|apply Kd.R_alloc|apply Kd.R_drewN|apply Kd.R_drew));exact(Kd.R_mono (Kd.R_far (p:=⟨gb133,2,none⟩) (Kd.R_far (p:=⟨gb133,1,none⟩) (Kd.R_far (p:=⟨gb133,0,none⟩) (Kd.R_types HO129.out BK133.out (by decide)) (fun _ hk=>hk.2) (.slice none 0 0)) (fun _ hk=>hk.2) (.string (⟨#[113]⟩:ByteArray))) (fun _ hk=>hk.2) (.slice Ao16 y130.length co16)) (fun _ h_=>h_.1))) hb);have n1_:=z00.mk (Kd.R_below (by(with_reducible repeat(first|apply Kd.R_alloc|apply Kd.R_drewN|apply Kd.R_drew));exact(Kd.R_mono (Kd.R_far (p:=⟨gb133,2,none⟩) (Kd.R_far (p:=⟨gb133,1,none⟩) (Kd.R_far (p:=⟨gb133,0,none⟩) (Kd.R_types HO132.out BK133.out (by decide)) (fun _ hk=>hk.2) (.slice none 0 0)) (fun _ hk=>hk.2) (.string (⟨#[113]⟩:ByteArray))) (fun _ hk=>hk.2) (.slice Ao16 y130.length co16)) (fun _ h_=>h_.1))) hb);have n2_:=z00.mk (z0b (g:=gb133) (o:=.cells #[.slice none 0 0,.string (⟨#[113]⟩:ByteArray),.slice Ao16 y130.length co16] 27 (0,0)) (by(with_reducible repeat(first|refine z0f ?_ _|refine z0h ?_|refine z0c ?_ _));refine z0x (cs:=#[.slice none 0 0,.string (⟨#[113]⟩:ByteArray),.slice none 0 0]) ?_ 2 _ rfl;(with_reducible repeat(first|refine z0f ?_ _|refine z0h ?_|refine z0c ?_ _));refine z0x (cs:=#[.slice none 0 0,.string (⟨#[]⟩:ByteArray),.slice none 0 0]) ?_ 1 _ rfl;(with_reducible repeat(first|refine z0f ?_ _|refine z0h ?_|refine z0c ?_ _));refine z0x (cs:=#[.slice none 0 0,.string (⟨#[]⟩:ByteArray),.slice none 0 0]) ?_ 0 _ rfl;(with_reducible repeat(first|refine z0f ?_ _|refine z0h ?_|refine z0c ?_ _));exact BK133.out) hb);have n3_:=z00.mk (z0g zA0b hb);clear HO129;clear HO132;clear BK133;clear HB;have HO129:=n0_;have HO132:=n1_;have BK133:=n2_;have HB:=n3_;clear n0_ n1_ n2_ n3_;(try clear hb);(try clear hb2);(try clear hk);(try clear hi))|(go_at_call 27;(with_reducible refine(z3t.calls _ _ y127 true _ ?side3 ?side1 ?side2 A3.out).mono ?_);(case side1=>repeat(first|exact(Kd.R_reads' HO129.out).2.2|(with_reducible refine Kd.C_alloc ?_ _)|(with_reducible refine Kd.C_drewN ?_ _)|(with_reducible refine Kd.C_drew ?_)));(case side2=>exact(Kd.R_reads' HO129.out).2.1);(case side3=>(first|(refine LaidW.below HLW.out ?_;(repeat(first|(with_reducible first|exact HB.out|apply z03|apply z04|apply z05|refine z06 ?_ GE133.out)|exact HB.out));done)|(repeat(first|exact HLW.out|apply LaidW.drewN|apply LaidW.drew|apply LaidW.alloc))));rintro e w21 ⟨rfl,hb⟩;have n0_:=z00.mk (Kd.R_below zA0d hb);have n1_:=z00.mk (Kd.R_below zA0e hb);have n2_:=z00.mk (z0b (g:=gb133) (o:=.cells #[.slice none 0 0,.string (⟨#[113]⟩:ByteArray),.slice Ao16 y130.length co16] 27 (0,0)) zA0h hb);have n3_:=z00.mk (z0g zA0b hb);clear HO129;clear HO132;clear BK133;clear HB;have HO129:=n0_;have HO132:=n1_;have BK133:=n2_;have HB:=n3_;clear n0_ n1_ n2_ n3_;(try clear hb);(try clear hb2);(try clear hk);(try clear hi);have hcz22_0:w21.cell? ⟨gb133,0,none⟩=some (.slice none 0 0):=(z01 BK133.out 0).trans rfl;have hcz22_1:w21.cell? ⟨gb133,1,none⟩=some (.string (⟨#[113]⟩:ByteArray)):=(z01 BK133.out 1).trans rfl;have hcz22_2:w21.cell? ⟨gb133,2,none⟩=some (.slice Ao16 y130.length co16):=(z01 BK133.out 2).trans rfl;have hfz22_0:=z02 BK133.out 0;have hfz22_1:=z02 BK133.out 1;have hfz22_2:=z02 BK133.out 2)|(go_at_call 22;(refine(z5n.calls _ _ ([]:List (S33)) (⟨#[113]⟩:ByteArray) _ _ y130 true _ ?side5 ?side1 ?side2 ?side3 ?side4 A5.out).mono ?_);(case side1=>exact Kd.C_nil _ _);(case side2=>exact Nat.le_refl _);(case side3=>repeat(first|exact(Kd.R_reads' HO132.out).2.2|(with_reducible refine Kd.C_alloc ?_ _)|(with_reducible refine Kd.C_drewN ?_ _)|(with_reducible refine Kd.C_drew ?_)));(case side4=>exact(Kd.R_reads' HO132.out).2.1);(case side5=>(first|(refine LaidW.below HLW.out ?_;(repeat(first|(with_reducible first|exact HB.out|apply z03|apply z04|apply z05|refine z06 ?_ GE133.out)|exact HB.out));done)|(repeat(first|exact HLW.out|apply LaidW.drewN|apply LaidW.drew|apply LaidW.alloc))));rintro e w23 ⟨rfl,hb⟩;have n0_:=z00.mk (Kd.R_below zA0d hb);have n1_:=z00.mk (Kd.R_below zA0e hb);have n2_:=z00.mk (z0b (g:=gb133) (o:=.cells #[.slice none 0 0,.string (⟨#[113]⟩:ByteArray),.slice Ao16 y130.length co16] 27 (0,0)) zA0h hb);have n3_:=z00.mk (z0g zA0b hb);clear HO129;clear HO132;clear BK133;clear HB;have HO129:=n0_;have HO132:=n1_;have BK133:=n2_;have HB:=n3_;clear n0_ n1_ n2_ n3_;(try clear hb);(try clear hb2);(try clear hk);(try clear hi);have hcz24_0:w23.cell? ⟨gb133,0,none⟩=some (.slice none 0 0):=(z01 BK133.out 0).trans rfl;have hcz24_1:w23.cell? ⟨gb133,1,none⟩=some (.string (⟨#[113]⟩:ByteArray)):=(z01 BK133.out 1).trans rfl;have hcz24_2:w23.cell? ⟨gb133,2,none⟩=some (.slice Ao16 y130.length co16):=(z01 BK133.out 2).trans rfl;have hfz24_0:=z02 BK133.out 0;have hfz24_1:=z02 BK133.out 1;have hfz24_2:=z02 BK133.out 2)|(go_at_call 20;(refine(z6q.calls _ _ ([]:List (S33)) (⟨#[113]⟩:ByteArray) _ _ y130 t137 _ ?side5 ?side1 ?side2 ?side3 ?side4 A7.out).mono ?_);(case side1=>exact Kd.C_nil _ _);(case side2=>exact Nat.le_refl _);(case side3=>repeat(first|exact(Kd.R_reads' HO132.out).2.2|(with_reducible refine Kd.C_alloc ?_ _)|(with_reducible refine Kd.C_drewN ?_ _)|(with_reducible refine Kd.C_drew ?_)));(case side4=>exact(Kd.R_reads' HO132.out).2.1);(case side5=>(first|(refine LaidW.below HLW.out ?_;(repeat(first|(with_reducible first|exact HB.out|apply z03|apply z04|apply z05|refine z06 ?_ GE133.out)|exact HB.out));done)|(repeat(first|exact HLW.out|apply LaidW.drewN|apply LaidW.drew|apply LaidW.alloc))));rintro e w25 ⟨rfl,hb⟩;have n0_:=z00.mk (Kd.R_below zA0d hb);have n1_:=z00.mk (Kd.R_below zA0e hb);have n2_:=z00.mk (z0b (g:=gb133) (o:=.cells #[.slice none 0 0,.string (⟨#[113]⟩:ByteArray),.slice Ao16 y130.length co16] 27 (0,0)) zA0h hb);have n3_:=z00.mk (z0g zA0b hb);clear HO129;clear HO132;clear BK133;clear HB;have HO129:=n0_;have HO132:=n1_;have BK133:=n2_;have HB:=n3_;clear n0_ n1_ n2_ n3_;(try clear hb);(try clear hb2);(try clear hk);(try clear hi);have hcz26_0:w25.cell? ⟨gb133,0,none⟩=some (.slice none 0 0):=(z01 BK133.out 0).trans rfl;have hcz26_1:w25.cell? ⟨gb133,1,none⟩=some (.string (⟨#[113]⟩:ByteArray)):=(z01 BK133.out 1).trans rfl;have hcz26_2:w25.cell? ⟨gb133,2,none⟩=some (.slice Ao16 y130.length co16):=(z01 BK133.out 2).trans rfl;have hfz26_0:=z02 BK133.out 0;have hfz26_1:=z02 BK133.out 1;have hfz26_2:=z02 BK133.out 2)|(go_at_call 23;(with_reducible refine(z6r.calls (⟨#[113]⟩:ByteArray) _ _ y130 t138 _ ?side3 ?side1 ?side2 A9.out).mono ?_);(case side1=>repeat(first|exact(Kd.R_reads' HO132.out).2.2|(with_reducible refine Kd.C_alloc ?_ _)|(with_reducible refine Kd.C_drewN ?_ _)|(with_reducible refine Kd.C_drew ?_)));(case side2=>exact(Kd.R_reads' HO132.out).2.1);(case side3=>(first|(refine LaidW.below HLW.out ?_;(repeat(first|(with_reducible first|exact HB.out|apply z03|apply z04|apply z05|refine z06 ?_ GE133.out)|exact HB.out));done)|(repeat(first|exact HLW.out|apply LaidW.drewN|apply LaidW.drew|apply LaidW.alloc))));rintro e w27 ⟨rfl,hb⟩;have n0_:=z00.mk (Kd.R_below zA0d hb);have n1_:=z00.mk (Kd.R_below zA0e hb);have n2_:=z00.mk (z0b (g:=gb133) (o:=.cells #[.slice none 0 0,.string (⟨#[113]⟩:ByteArray),.slice Ao16 y130.length co16] 27 (0,0)) zA0h hb);have n3_:=z00.mk (z0g zA0b hb);clear HO129;clear HO132;clear BK133;clear HB;have HO129:=n0_;have HO132:=n1_;have BK133:=n2_;have HB:=n3_;clear n0_ n1_ n2_ n3_;(try clear hb);(try clear hb2);(try clear hk);(try clear hi);have hcz28_0:w27.cell? ⟨gb133,0,none⟩=some (.slice none 0 0):=(z01 BK133.out 0).trans rfl;have hcz28_1:w27.cell? ⟨gb133,1,none⟩=some (.string (⟨#[113]⟩:ByteArray)):=(z01 BK133.out 1).trans rfl;have hcz28_2:w27.cell? ⟨gb133,2,none⟩=some (.slice Ao16 y130.length co16):=(z01 BK133.out 2).trans rfl;have hfz28_0:=z02 BK133.out 0;have hfz28_1:=z02 BK133.out 1;have hfz28_2:=z02 BK133.out 2)|(go_at_call 18;(refine(z6s.calls (⟨#[113]⟩:ByteArray) _ _ y130 0 _ _ ([]:List (S62)) t139 _ ?side5 ?side1 ?side2 ?side3 ?side4 A11.out).mono ?_);(case side1=>repeat(first|exact(Kd.R_reads' HO132.out).2.2|(with_reducible refine Kd.C_alloc ?_ _)|(with_reducible refine Kd.C_drewN ?_ _)|(with_reducible refine Kd.C_drew ?_)));(case side2=>exact(Kd.R_reads' HO132.out).2.1);(case side3=>exact Kd.C_nil _ _);(case side4=>exact Nat.le_refl _);(case side5=>(first|(refine LaidW.below HLW.out ?_;(repeat(first|(with_reducible first|exact HB.out|apply z03|apply z04|apply z05|refine z06 ?_ GE133.out)|exact HB.out));done)|(repeat(first|exact HLW.out|apply LaidW.drewN|apply LaidW.drew|apply LaidW.alloc))));rintro e w29 ⟨rfl,hb⟩;have n0_:=z00.mk (Kd.R_below zA0d hb);have n1_:=z00.mk (Kd.R_below zA0e hb);have n2_:=z00.mk (z0b (g:=gb133) (o:=.cells #[.slice none 0 0,.string (⟨#[113]⟩:ByteArray),.slice Ao16 y130.length co16] 27 (0,0)) zA0h hb);have n3_:=z00.mk (z0g zA0b hb);clear HO129;clear HO132;clear BK133;clear HB;have HO129:=n0_;have HO132:=n1_;have BK133:=n2_;have HB:=n3_;clear n0_ n1_ n2_ n3_;(try clear hb);(try clear hb2);(try clear hk);(try clear hi)))
 go_ret
 exact⟨by first|rfl|(simp[z0v,z0w] <;> rfl)|(simp[*,z0v,z0w] <;> rfl),by repeat(first|(with_reducible first|exact HB.out|apply z03|apply z04|apply z05|refine z06 ?_ GE133.out)|exact HB.out)⟩

theorem zii {x:RlS} (h:inR x) (hf:fewR x):okR x :=
 ⟨⟨fun t ht=>h.1 t ht,by have:=hf.2.1;omega⟩,fun l hl=>⟨⟨fun t ht=>(h.2 l hl).1 t ht,by have:=(hf.2.2 l hl).2;omega⟩,(h.2 l hl).2.1,(h.2 l hl).2.2.1,(h.2 l hl).2.2.2.1,(h.2 l hl).2.2.2.2.1,by have:=(hf.2.2 l hl).1;omega,(h.2 l hl).2.2.2.2.2⟩,by have:=hf.1;omega⟩
theorem same_few {x:RlS} (hf:fewR x):SameOk x:=⟨by have:=hf.2.1;omega,by have:=hf.1;omega,fun y hy=>⟨by have:=(hf.2.2 y hy).2;omega,by have:=(hf.2.2 y hy).1;omega⟩⟩
structure InP (rs:List RlS) (q:AtS):Prop where
 r:∀x ∈ rs,inR x
 q:∀t ∈ q.f1,inT t
theorem InP.okP {rs:List RlS} {q:AtS} (h:InP rs q) (hf:rs.length≤12∧q.f1.length≤10∧∀x ∈ rs,fewR x):okP ⟨rs,q⟩ :=
 ⟨fun x hx=>zii (h.r x hx) (hf.2.2 x hx),by show rs.length≤1000;omega,⟨fun t ht=>h.q t ht,by show q.f1.length≤1000;omega⟩⟩

def z6j (rs:List RlS):List UInt8:=(rs.map fun x=>ruleL x++[10]).flatten
theorem zf8 (rs:List RlS) (x:RlS):z6j (rs++[x])=z6j rs++(ruleL x++[10]):=by simp[z6j]
theorem ziz (rs:List RlS) (i:Nat):(z6j (rs.take i)).length≤(z6j rs).length:=by
 conv=>rhs;rw[←List.take_append_drop i rs]
 unfold z6j;rw[List.map_append,List.flatten_append,List.length_append];omega
theorem zh2 {rs:List RlS} {q:AtS} (h:progL ⟨rs,q⟩≠[]):(∀x ∈ rs,ruleL x≠[])∧progL ⟨rs,q⟩=z6j rs++([63,45,32]++(atomL q++[46,10]))∧(progL ⟨rs,q⟩).length≤20000∧atomL q≠[]:=by
 unfold progL at h ⊢
 split at h
 · exact absurd rfl h
 rename_i hc;rw[if_neg hc];have h2:(eachL (rs.map ruleL) [10]).2=true:=by cases e:(eachL (rs.map ruleL) [10]).2 with|true=>rfl|false=>exact absurd (.inl e) hc
 obtain⟨h3,h4⟩:=lines_eq rs h2;refine⟨h3,?_,Nat.le_of_not_lt fun e=>hc (.inr (.inr (.inr e))),fun e=>hc (.inr (.inl e))⟩;unfold allT;rw[show(⟨rs,q⟩:PgS).f0=rs from rfl,h4];rfl
abbrev tailX:List UInt8:=[32,63,45,32,120,46]
theorem zhu {x:RlS} (h:ruleL x≠[]) (hr:rngR x) (hs:(ruleL x).length≤19994):z56.f (baL (ruleL x)++(⟨#[32,63,45,32,120,46]⟩:ByteArray))=some ([x],⟨#[120]⟩,[],0,0):=by
 obtain⟨t,ts,hp,b1,b2⟩:=zjt h hr;have g1:=b1 tailX _ tail_x;have hprog:z2w (t::ts++[qT,xT,mkT 46])=.ok (⟨[x],⟨⟨#[120]⟩,[]⟩⟩,[]):=by
  have hq:mk0 (t::ts++[qT,xT,mkT 46]) [63,45]=false:=by
   show isT t 4 [63,45]=false;unfold predB at hp;simp only[Bool.and_eq_true,beq_iff_eq]at hp;unfold isT;rw[hp.1];rfl
  unfold z2w;rw[z9q,if_neg (by rw[hq];decide),if_neg (by rw[show((200:Nat)==0)=false from rfl,Bool.false_and];decide),b2];simp only[bnd];rw[z9q,if_pos (show mk0 [qT,xT,mkT 46] [63,45]=true from two_is 63 45)];simp only[List.drop_succ_cons,List.drop_zero,List.nil_append];unfold atomP;simp only[z1m];rw[if_pos (show predB xT=true by decide)];simp only[bnd];rw[if_neg (by rw[show mk0 [mkT 46] [40]=false from z4o (by decide)];decide)];simp only[wantP];rw[if_pos (show mk0 [mkT 46] [46]=true from mk_is 46)]
  simp
 have hT:(baL (ruleL x)++(⟨#[32,63,45,32,120,46]⟩:ByteArray)).data.toList=ruleL x++tailX:=by simp
 have hz:(baL (ruleL x)++(⟨#[32,63,45,32,120,46]⟩:ByteArray)).size≤20000:=by
  rw[←z0i,hT,List.length_append];show(ruleL x).length+6≤20000;omega
 have h2:progO (baL (ruleL x)++(⟨#[32,63,45,32,120,46]⟩:ByteArray)).data.toList=some ⟨[x],⟨⟨#[120]⟩,[]⟩⟩:=by
  rw[hT];unfold progO;rw[g1,Option.bind_some,hprog]
 have:=zhk hz h2;unfold z56.f;rw[if_pos (by omega),this]
def pts12.T:Bool × List (List Nat × List Nat):=(true,[([],[]),([0],[0]),([1],[1]),([2],[2]),([3,2],[2,3]),([4,2],[2,4]),([5,2],[2,5]),([2,6],[2,6]),([7,2],[7]),([8],[8]),([9,8],[8,9]),([10,8],[8,10]),([11,8],[8,11]),([8],[8]),([13,8],[8,13]),([8],[8]),([14,15,8],[8,14,15]),([16,8],[8,16]),([12,17,8,8],[8,12,17]),([18,8],[8,18]),([8,19],[8,19])])
def pts12.B:List Nat:=[0,1,3,7,15,31,63,127,255,511,1023,2047,4095,511,8703,511,57855,123391,262143,524287,1048575]
theorem pts12.tab:rtab .any (opsOf Tryz.f15 12)=pts12.T:=by kernel_rfl
theorem pts12.bits:z3y pts12.T.2 pts12.B=true:=by kernel_rfl
def pts15.T:Bool × List (List Nat × List Nat):=(true,[([],[]),([0],[0]),([],[]),([2],[2]),([],[]),([4],[4]),([5,1],[5]),([3,6],[3,6]),([7],[7]),([1,8],[1,8]),([9,6,0,1,2,3,4,5,6,7,8,9],[9])])
def pts15.B:List Nat:=[0,1,0,4,0,16,51,127,255,511,1023]
theorem pts15.tab:rtab .any (opsOf Tryz.f15 15)=pts15.T:=by kernel_rfl
theorem pts15.bits:z3y pts15.T.2 pts15.B=true:=by kernel_rfl
set_option maxHeartbeats 16000000 in
set_option maxRecDepth 100000 in
theorem zad (rs:List RlS) (pn:ByteArray) (pa:List TmS) (hin:InP rs ⟨pn,pa⟩) (A B:Option Addr) (c d:Nat) (hd1:pa.length≤d) (w:World) (hLW:LaidW w)
 (hA:Kd.C k33 w A rs.length rs) (hB:Kd.C k60 w B pa.length pa) (hc:rs.length≤c) :
 Calls Tryz.prog 15 #[.agg #[.slice A rs.length c,.string pn,.slice B pa.length d]] w fun e w'=>e=.returned (.bool true)∧Below w.heap.size w w':=by
 have HA:=z00.mk (fun V (h:LaidW V)=>zdk V h);obtain⟨n1,en1⟩:∃n,w.heap.size=n:=⟨_,rfl⟩
 obtain⟨W,hW⟩:∃W,w.alloc (.cells #[.slice A rs.length c,.string pn,.slice B pa.length d] 27)=W:=⟨_,rfl⟩
 have hBW:Below w.heap.size w W:=hW ▸ z03 (Below.refl _ _) _;have hN:=z0q w (.cells #[.slice A rs.length c,.string pn,.slice B pa.length d] 27);rw[en1,hW]at hN;have HN:=z00.mk hN;have HBW:=z00.mk hBW;have HLW:=z00.mk (hLW.below hBW);have HC0:=z00.mk (Kd.C_below hA hBW);have HC1:=z00.mk (Kd.C_below hB hBW);obtain⟨b,hfew,hfb⟩:=few_f rs pn pa;have HF:=z00.mk (fun(V:World) (h:Below W.heap.size W V)=>z08.calls 1000 A c rs pn B d pa 12 14 b V (Kd.C_below HC0.out h) hc (Kd.C_below HC1.out h) hd1 hfew);have HFB:=z00.mk hfb;have HIN:=z00.mk hin;have hT:=fun(h:b=true) (V:World) (hl:LaidW V) (h1:Below W.heap.size W V)=>za9 ⟨rs,⟨pn,pa⟩⟩ A c B d V hl (hin.okP (hfb h)) (Kd.C_below HC0.out h1) (Kd.C_below HC1.out h1)
 have hR:=fun(h:b=true) (V:World) (hl:LaidW V) (h1:Below W.heap.size W V)=>zbd ⟨rs,⟨pn,pa⟩⟩ A c B d V hl (hin.okP (hfb h)) (Kd.C_below HC0.out h1) (Kd.C_below HC1.out h1)
 have HQ:=z00.mk (fun(h:b=true) (V:World) (hl:LaidW V) (h1:Below W.heap.size W V)=>z4v ⟨pn,pa⟩ B d V hl (Kd.C_below HC1.out h1) (hin.okP (hfb h)).2.2);have HPP:=z00.mk (fun(h:progL ⟨rs,⟨pn,pa⟩⟩≠[])=>zh2 h);obtain⟨L,hL⟩:∃L,progL ⟨rs,⟨pn,pa⟩⟩=L:=⟨_,rfl⟩
 rw[hL]at hT hR HPP;have HT:=z00.mk hT;have HR:=z00.mk hR;have d0:W.cell? ⟨n1,0,none⟩=some (.slice A rs.length c):=(z01 hN 0).trans rfl;have d1:W.cell? ⟨n1,1,none⟩=some (.string pn):=(z01 hN 1).trans rfl;have d2:W.cell? ⟨n1,2,none⟩=some (.slice B pa.length d):=(z01 hN 2).trans rfl;have HD:=z00.mk (And.intro d0 (And.intro d1 d2));clear d0 d1 d2 hN hT hR hLW hA hB hBW hfb hfew hL hin hc hd1;go_enter Tryz.func15,Tryz.ntmps15
 go_wp2_with fail
 refine(HA.out _ HLW.out).mono ?_;rintro e w1 ⟨rfl,hb⟩;have HB1:=z00.mk hb;have d0:=z07 hb HD.out.1;have d1:=z07 hb HD.out.2.1;have d2:=z07 hb HD.out.2.2;clear hb
 go_wp2_with fail
 refine(HF.out _ HB1.out).mono ?_;rintro e w2 ⟨rfl,hb⟩;have HB2:=z00.mk (z09 HB1.out HB1.out.size hb);clear hb d0 d1 d2
 cases b with
 |false =>
  go_wp2_with fail
  refine(HA.out _ (HLW.out.below HB2.out)).mono ?_;rintro e w3 ⟨rfl,hb⟩;have HB3:=z00.mk (z09 HBW.out HBW.out.size (z09 HB2.out HB2.out.size hb));clear hb;go_wp2
  go_ret
  exact⟨rfl,HB3.out⟩
 |true =>
  have d0:=z07 HB2.out HD.out.1;have d1:=z07 HB2.out HD.out.2.1;have d2:=z07 HB2.out HD.out.2.2
  go_wp2_with fail
  refine(HR.out (by trivial) _ (HLW.out.below HB2.out) HB2.out).mono ?_;rintro e w4 ⟨rfl,hb⟩;have HB4:=z00.mk (z09 HB2.out HB2.out.size hb);clear hb d0 d1 d2
  by_cases hL0:L=[]
  · subst hL0;have HBo:=z00.mk (z09 HBW.out HBW.out.size HB4.out);have z1:(!([]:List UInt8).isEmpty)=false:=rfl;rw[z1];clear HPP z1;go_wp2
    go_ret
    exact⟨by first|rfl|simp[*],HBo.out⟩
  · have z1:(!L.isEmpty)=true:=by cases L with|nil=>exact absurd rfl hL0|cons c l=>rfl
    rw[z1];obtain⟨hne,hLe,hLl,hq0⟩:=HPP.out hL0;obtain⟨hf12,hf10,hfr⟩:=HFB.out (by trivial);have hrl:(z6j rs).length+(atomL ⟨pn,pa⟩).length+5≤20000:=by
     rw[hLe]at hLl;simp only[List.length_append,List.length_cons,List.length_nil]at hLl;omega
    have hq1:1≤(atomL ⟨pn,pa⟩).length:=List.length_pos_iff.2 hq0;have HX:=z00.mk (fun(x:RlS) (hx:x ∈ rs) (hs:(ruleL x).length≤19994)=>And.intro (zhu (hne x hx) (inR_rng (HIN.out.r x hx)) hs) (And.intro (zii (HIN.out.r x hx) (hfr x hx)) (same_few (hfr x hx))));have HRL:=z00.mk (And.intro hrl (And.intro hq1 hf12));have HLE:=z00.mk hLe;clear z1 hL0 HPP HR hne hLe hLl hq0 hf12 hf10 hfr hrl hq1 HFB HIN;have d0:=z07 HB4.out HD.out.1;go_wp2;clear d0
    go_loopg [3,23] (rs.length+1) (fun kq v3 v23 w'=>∃(i:Nat) (z:ByteArray),v3=.string z∧v23=.int .i64 i∧kq+i=rs.length+1∧i≤rs.length∧z00 (z.data.toList=z6j (rs.take i))∧z00 (Below W.heap.size W w'))
    case atStart=>exact⟨0,⟨#[]⟩,rfl,rfl,by omega,by omega,⟨rfl⟩,HB4⟩
    case round =>
     clear HB4;obtain⟨i,z,rfl,rfl,hk,hi,HZ,HB⟩:=hrel
     by_cases hlt:i<rs.length
     · have y1:decide ((i:Int)<(rs.length:Int))=true:=decide_eq_true (by omega);have y2:decide (i<rs.length)=true:=decide_eq_true hlt;obtain⟨k1,rfl⟩:∃k1,gk=k1+1:=⟨gk - 1,by omega⟩
       have p0:(0≤(i:Int))=True:=eq_true (by omega);have p1:((i:Int)<(rs.length:Int))=True:=eq_true (by omega);obtain⟨ad,X1,x1,X3,x3,rfl,e0,e1,e2,e3,l1,m1,l3,m3⟩:=zi9 HC0.out (i:Int) (by omega) (by omega);obtain⟨x,hx⟩:∃x,rs[i]=x:=⟨_,rfl⟩
       have hmem:x ∈ rs:=by rw[←hx];exact List.getElem_mem hlt
       have hz1:z6j (rs.take (i+1))=z6j (rs.take i)++(ruleL x++[10]):=by rw[List.take_succ_eq_append_getElem hlt,zf8,hx]
       have hzl:z.size+((ruleL x).length+1)≤19994:=by
        have h1:=ziz rs (i+1);rw[hz1,←HZ.out]at h1;simp only[List.length_append,List.length_cons,List.length_nil,z0i]at h1;have h2:=HRL.out;omega
       obtain⟨hpx,hokx,hsx⟩:=HX.out x hmem (by omega);simp only[rd_few rs i hlt,hx,Int.toNat_natCast]at e0 e1 e2 e3 l1 m1 l3 m3;obtain⟨rx,hrx⟩:∃rx,baL (ruleL x)=rx:=⟨_,rfl⟩
       have hrs:rx.size=(ruleL x).length:=by rw[←hrx];show(ruleL x).toArray.size=_;rw[List.size_toArray]
       have HZ':=z00.mk (show(z++(rx++(⟨#[10]⟩:ByteArray))).data.toList=z6j (rs.take (i+1)) by rw[hz1,←HZ.out,←hrx];simp);have hRC:=fun(V:World) (h:Below W.heap.size W V)=>zam x X1 x1 X3 x3 V (HLW.out.below h) hokx (Kd.C_below m1 h) (Kd.C_below m3 h)
       rw[hrx]at hpx hRC;have HRC:=z00.mk hRC;have HPX:=z00.mk (fun V (h:LaidW V)=>z56.calls (rx++(⟨#[32,63,45,32,120,46]⟩:ByteArray)) [x] ⟨#[120]⟩ [] 0 0 V h hpx);have HSM:=z00.mk (fun(V:World) (Y1 Y3:Option Addr) (y1 y3:Nat) (j1:x.f0.f1.length≤y1) (h:Below W.heap.size W V) (g1:Kd.C k60 V Y1 x.f0.f1.length x.f0.f1) (g3:Kd.C k62 V Y3 x.f2.length x.f2)=>zan x hsx Y1 Y3 X1 X3 y1 y3 x1 x3 j1 l1 V g1 g3 (Kd.C_below m1 h) (Kd.C_below m3 h));have k1':(9223372036854775807<rx.size+1)=False:=eq_false (by omega);have k2':(9223372036854775807<z.size+rx.size+1)=False:=eq_false (by omega);have k3':(9223372036854775807<z.size+(rx.size+1))=False:=eq_false (by omega);have k4':(9223372036854775807<rx.size+6)=False:=eq_false (by omega);have HE:=z00.mk (And.intro e0 (And.intro e1 (And.intro e2 e3)));have d0:=z07 HB.out HD.out.1;replace e0:=z07 HB.out e0;replace e1:=z07 HB.out e1;replace e2:=z07 HB.out e2;replace e3:=z07 HB.out e3;clear hx hmem hz1 hzl hpx hokx hsx hrx hrs hRC m1 m3 l1 l3 HZ
       go_wp2_with fail
       refine(HRC.out _ HB.out).mono ?_;rintro e w5 ⟨rfl,hb⟩;have HB5:=z00.mk (z09 HB.out HB.out.size hb);clear hb d0 e0 e1 e2 e3
       go_wp2_with fail
       refine(HPX.out _ (HLW.out.below HB5.out)).mono ?_;rintro e w6 ⟨v2,v3,rfl,g2,g3,hb⟩;obtain⟨A2,c2,rfl⟩:=Kd.R_slice g2;obtain⟨A3,c3,rfl⟩:=Kd.R_slice g3;obtain⟨n2,en2⟩:∃n,w6.heap.size=n:=⟨_,rfl⟩
       have hb3:=z03 hb (.cells #[.slice A2 (1:Nat) c2,.string ⟨#[120]⟩,.slice A3 (0:Nat) c3] 27);have hN2:=z0q w6 (.cells #[.slice A2 (1:Nat) c2,.string ⟨#[120]⟩,.slice A3 (0:Nat) c3] 27);rw[en2]at hN2;have HN2:=z00.mk hN2;have HB6:=z00.mk (z09 HB5.out HB5.out.size hb3);have HQ0:=z00.mk (Kd.C_below (Kd.R_reads' g2).2.2 (z03 (Below.refl w6.heap.size w6) (.cells #[.slice A2 (1:Nat) c2,.string ⟨#[120]⟩,.slice A3 (0:Nat) c3] 27)));clear hN2 g2 g3 hb hb3 k1' k2' k3' k4'
       go_upto_region 12 with (fail)
       generalize w6.alloc (.cells #[.slice A2 (1:Nat) c2,.string ⟨#[120]⟩,.slice A3 (0:Nat) c3] 27)=wr at HN2 HB6 HQ0 ⊢
       obtain⟨bd,Y1,q1,Y3,q3,rfl,f0,f1,f2,f3,j1,o1,j3,o3⟩:=zi9 HQ0.out (0:Int) (by decide) (by show(0:Int)<1;decide);have hr0:z0m [x] (0:Int)=x:=rfl;simp only[hr0,Int.toNat_zero,Nat.zero_mul,add0]at f0 f1 f2 f3 j1 o1 j3 o3;have r0:wr.cell? ⟨n2,0,none⟩=some (.slice (some bd) 1 c2):=(z01 HN2.out 0).trans rfl;have d0:=z07 HB6.out HD.out.1;have e0:=z07 HB6.out HE.out.1;have e1:=z07 HB6.out HE.out.2.1;have e2:=z07 HB6.out HE.out.2.2.1;have e3:=z07 HB6.out HE.out.2.2.2;have HO:=z00.mk (And.intro o1 o3);clear hr0 o1 o3 HN2 HQ0 HE
       go_wp2_with fail
       refine z68 (n:=21) (S:=fun w'=>Below wr.heap.size wr w') (ds:=[]) #[false,false,false,false,false,false,false,false,false,false,false,false,false,false,false,false,false,false,false,false,false] (by kernel_rfl) rfl rfl (z05 (Below.refl _ _)) (fun hHeld=>?_);refine z39 pts12.tab pts12.bits (fun HT_ HW_=>?_)
       generalize wr.drew=V at hHeld ⊢
       refine pure_ (i:=0) (N:=some 43) (v:=?_) (a':=?_) #[true,false,false,false,false,false,false,false,false,false,false,false,false,false,false,false,false,false,false,false,false] rfl rfl (z0r HT_.out (by kernel_rfl)) (fun _ _ _ h=>h) (Or.inl ⟨by rfl,?_⟩) ?_ ?_
       rotate_left
       · intro w'
         go_simp
         with_reducible rfl
       rotate_left
       · simp only[Act.put,List.setIfInBounds_toArray,List.set_cons_zero,List.set_cons_succ,i64_w,i32_w];rfl
       refine pure_ (i:=1) (N:=some 44) (v:=?_) (a':=?_) #[true,true,false,false,false,false,false,false,false,false,false,false,false,false,false,false,false,false,false,false,false] rfl rfl (z0r HT_.out (by kernel_rfl)) (fun _ _ _ h=>h) (Or.inl ⟨by rfl,?_⟩) ?_ ?_
       rotate_left
       · intro w'
         go_simp
         with_reducible rfl
       rotate_left
       · simp only[Act.put,List.setIfInBounds_toArray,List.set_cons_zero,List.set_cons_succ,i64_w,i32_w];rfl
       refine pure_ (i:=2) (N:=some 45) (v:=?_) (a':=?_) #[true,true,true,false,false,false,false,false,false,false,false,false,false,false,false,false,false,false,false,false,false] rfl rfl (z0r HT_.out (by kernel_rfl)) (fun _ _ _ h=>h) (Or.inl ⟨by rfl,?_⟩) ?_ ?_
       rotate_left
       · intro w'
         go_simp
         with_reducible rfl
       rotate_left
       · simp only[Act.put,List.setIfInBounds_toArray,List.set_cons_zero,List.set_cons_succ,i64_w,i32_w];rfl
       refine pure_ (i:=3) (N:=some 46) (v:=?_) (a':=?_) #[true,true,true,true,false,false,false,false,false,false,false,false,false,false,false,false,false,false,false,false,false] rfl rfl (z0r HT_.out (by kernel_rfl)) (fun _ _ _ h=>h) (Or.inl ⟨by rfl,?_⟩) ?_ ?_
       rotate_left
       · intro w'
         go_simp
         with_reducible rfl
       rotate_left
       · simp only[Act.put,List.setIfInBounds_toArray,List.set_cons_zero,List.set_cons_succ,i64_w,i32_w];rfl
       refine take_ (i:=4) (N:=some 47) (v:=?_) (a':=?_) #[true,true,true,true,true,false,false,false,false,false,false,false,false,false,false,false,false,false,false,false,false] rfl rfl (z1j HT_.out HW_.out (by kernel_rfl)) (fun _ _ _ h=>h) (Or.inl ⟨by rfl,?_⟩) hHeld ?_ ?_
       rotate_left
       · intro w' sS;have g0:=z07 sS r0;clear sS
         go_simp
         with_reducible rfl
       rotate_left
       · simp only[Act.put,List.setIfInBounds_toArray,List.set_cons_zero,List.set_cons_succ,i64_w,i32_w];rfl
       refine pure_ (i:=5) (N:=some 48) (v:=?_) (a':=?_) #[true,true,true,true,true,true,false,false,false,false,false,false,false,false,false,false,false,false,false,false,false] rfl rfl (z0r HT_.out (by kernel_rfl)) (fun _ _ _ h=>h) (Or.inl ⟨by rfl,?_⟩) ?_ ?_
       rotate_left
       · intro w'
         go_simp
         with_reducible rfl
       rotate_left
       · simp only[Act.put,List.setIfInBounds_toArray,List.set_cons_zero,List.set_cons_succ,i64_w,i32_w];rfl
       refine pure_ (i:=6) (N:=some 49) (v:=?_) (a':=?_) #[true,true,true,true,true,true,true,false,false,false,false,false,false,false,false,false,false,false,false,false,false] rfl rfl (z0r HT_.out (by kernel_rfl)) (fun _ _ _ h=>h) (Or.inl ⟨by rfl,?_⟩) ?_ ?_
       rotate_left
       · intro w'
         go_simp
         with_reducible rfl
       rotate_left
       · simp only[Act.put,List.setIfInBounds_toArray,List.set_cons_zero,List.set_cons_succ,i64_w,i32_w];rfl
       refine pure_ (i:=7) (N:=some 50) (v:=?_) (a':=?_) #[true,true,true,true,true,true,true,true,false,false,false,false,false,false,false,false,false,false,false,false,false] rfl rfl (z0r HT_.out (by kernel_rfl)) (fun _ _ _ h=>h) (Or.inl ⟨by rfl,?_⟩) ?_ ?_
       rotate_left
       · intro w'
         go_simp
         with_reducible rfl
       rotate_left
       · simp only[Act.put,List.setIfInBounds_toArray,List.set_cons_zero,List.set_cons_succ,i64_w,i32_w];rfl
       refine pure_ (i:=8) (N:=some 51) (v:=?_) (a':=?_) #[true,true,true,true,true,true,true,true,true,false,false,false,false,false,false,false,false,false,false,false,false] rfl rfl (z0r HT_.out (by kernel_rfl)) (fun _ _ _ h=>h) (Or.inl ⟨by rfl,?_⟩) ?_ ?_
       rotate_left
       · intro w'
         go_simp
         with_reducible rfl
       rotate_left
       · simp only[Act.put,List.setIfInBounds_toArray,List.set_cons_zero,List.set_cons_succ,i64_w,i32_w];rfl
       refine pure_ (i:=9) (N:=some 52) (v:=?_) (a':=?_) #[true,true,true,true,true,true,true,true,true,true,false,false,false,false,false,false,false,false,false,false,false] rfl rfl (z0r HT_.out (by kernel_rfl)) (fun _ _ _ h=>h) (Or.inl ⟨by rfl,?_⟩) ?_ ?_
       rotate_left
       · intro w'
         go_simp
         with_reducible rfl
       rotate_left
       · simp only[Act.put,List.setIfInBounds_toArray,List.set_cons_zero,List.set_cons_succ,i64_w,i32_w];rfl
       refine take_ (i:=10) (N:=some 53) (v:=?_) (a':=?_) #[true,true,true,true,true,true,true,true,true,true,true,false,false,false,false,false,false,false,false,false,false] rfl rfl (z1j HT_.out HW_.out (by kernel_rfl)) (fun _ _ _ h=>h) (Or.inl ⟨by rfl,?_⟩) hHeld ?_ ?_
       rotate_left
       · intro w' sS;have g0:=z07 sS r0;clear sS
         go_simp
         with_reducible rfl
       rotate_left
       · simp only[Act.put,List.setIfInBounds_toArray,List.set_cons_zero,List.set_cons_succ,i64_w,i32_w];rfl
       refine pure_ (i:=11) (N:=some 54) (v:=?_) (a':=?_) #[true,true,true,true,true,true,true,true,true,true,true,true,false,false,false,false,false,false,false,false,false] rfl rfl (z0r HT_.out (by kernel_rfl)) (fun _ _ _ h=>h) (Or.inl ⟨by rfl,?_⟩) ?_ ?_
       rotate_left
       · intro w'
         go_simp
         with_reducible rfl
       rotate_left
       · simp only[Act.put,List.setIfInBounds_toArray,List.set_cons_zero,List.set_cons_succ,i64_w,i32_w];rfl
       refine take_ (i:=12) (N:=some 55) (v:=?_) (a':=?_) #[true,true,true,true,true,true,true,true,true,true,true,true,true,false,false,false,false,false,false,false,false] rfl rfl (z1j HT_.out HW_.out (by kernel_rfl)) (fun _ _ _ h=>h) (Or.inl ⟨by rfl,?_⟩) hHeld ?_ ?_
       rotate_left
       · intro w' sS;have g0:=z07 sS f0;have g1:=z07 sS f1;have g2:=z07 sS f2;have g3:=z07 sS f3;clear sS
         go_simp
         with_reducible rfl
       rotate_left
       · simp only[Act.put,List.setIfInBounds_toArray,List.set_cons_zero,List.set_cons_succ,i64_w,i32_w];rfl
       refine pure_ (i:=13) (N:=some 56) (v:=?_) (a':=?_) #[true,true,true,true,true,true,true,true,true,true,true,true,true,true,false,false,false,false,false,false,false] rfl rfl (z0r HT_.out (by kernel_rfl)) (fun _ _ _ h=>h) (Or.inl ⟨by rfl,?_⟩) ?_ ?_
       rotate_left
       · intro w'
         go_simp
         with_reducible rfl
       rotate_left
       · simp only[Act.put,List.setIfInBounds_toArray,List.set_cons_zero,List.set_cons_succ,i64_w,i32_w];rfl
       refine take_ (i:=14) (N:=some 57) (v:=?_) (a':=?_) #[true,true,true,true,true,true,true,true,true,true,true,true,true,true,true,false,false,false,false,false,false] rfl rfl (z1j HT_.out HW_.out (by kernel_rfl)) (fun _ _ _ h=>h) (Or.inl ⟨by rfl,?_⟩) hHeld ?_ ?_
       rotate_left
       · intro w' sS;have g0:=z07 sS d0;clear sS
         go_simp
         with_reducible rfl
       rotate_left
       · simp only[Act.put,List.setIfInBounds_toArray,List.set_cons_zero,List.set_cons_succ,i64_w,i32_w];rfl
       refine pure_ (i:=15) (N:=some 58) (v:=?_) (a':=?_) #[true,true,true,true,true,true,true,true,true,true,true,true,true,true,true,true,false,false,false,false,false] rfl rfl (z0r HT_.out (by kernel_rfl)) (fun _ _ _ h=>h) (Or.inl ⟨by rfl,?_⟩) ?_ ?_
       rotate_left
       · intro w'
         go_simp
         with_reducible rfl
       rotate_left
       · simp only[Act.put,List.setIfInBounds_toArray,List.set_cons_zero,List.set_cons_succ,i64_w,i32_w];rfl
       refine pure_ (i:=16) (N:=some 59) (v:=?_) (a':=?_) #[true,true,true,true,true,true,true,true,true,true,true,true,true,true,true,true,true,false,false,false,false] rfl rfl (z0r HT_.out (by kernel_rfl)) (fun _ _ _ h=>h) (Or.inl ⟨by rfl,?_⟩) ?_ ?_
       rotate_left
       · intro w'
         go_simp
         with_reducible rfl
       rotate_left
       · simp only[Act.put,List.setIfInBounds_toArray,List.set_cons_zero,List.set_cons_succ,i64_w,i32_w];rfl
       refine take_ (i:=17) (N:=some 60) (v:=?_) (a':=?_) #[true,true,true,true,true,true,true,true,true,true,true,true,true,true,true,true,true,true,false,false,false] rfl rfl (z1j HT_.out HW_.out (by kernel_rfl)) (fun _ _ _ h=>h) (Or.inl ⟨by rfl,?_⟩) hHeld ?_ ?_
       rotate_left
       · intro w' sS;have g0:=z07 sS e0;have g1:=z07 sS e1;have g2:=z07 sS e2;have g3:=z07 sS e3;clear sS
         go_simp
         with_reducible rfl
       rotate_left
       · simp only[Act.put,List.setIfInBounds_toArray,List.set_cons_zero,List.set_cons_succ,i64_w,i32_w];rfl
       refine one_ (i:=18) (N:=some 61) #[true,true,true,true,true,true,true,true,true,true,true,true,true,true,true,true,true,true,true,false,false] rfl rfl (z2a HT_.out (by kernel_rfl)) (by decide) (fun K hK=>?_);refine goes_ Tryz.func41 (by kernel_rfl) rfl #[.agg #[.string x.f0.f0,.slice Y1 x.f0.f1.length q1,.int .i64 x.f1,.slice Y3 x.f2.length q3],.agg #[.string x.f0.f0,.slice X1 x.f0.f1.length x1,.int .i64 x.f1,.slice X3 x.f2.length x3]] (by rfl) rfl rfl zA03 ?_;refine(HSM.out _ Y1 Y3 q1 q3 j1 (z09 HB6.out HB6.out.size hHeld) (Kd.C_below HO.out.1 hHeld) (Kd.C_below HO.out.2 hHeld)).mono ?_;rintro e w7 ⟨rfl,hb⟩;refine⟨_,rfl,?_⟩;refine hK.out _ _ (z0g hHeld hb) (fun hHeld=>?_);clear hK K;refine norm_ (a':=?_) ?_ ?_
       rotate_left
       · show Act.put _ (some 61) _=_;simp only[Act.put,List.setIfInBounds_toArray,List.set_cons_zero,List.set_cons_succ,i64_w,i32_w];rfl
       refine pure_ (i:=19) (N:=some 62) (v:=?_) (a':=?_) #[true,true,true,true,true,true,true,true,true,true,true,true,true,true,true,true,true,true,true,true,false] rfl rfl (z0r HT_.out (by kernel_rfl)) (fun _ _ _ h=>h) (Or.inl ⟨by rfl,?_⟩) ?_ ?_
       rotate_left
       · intro w'
         go_simp
         with_reducible rfl
       rotate_left
       · simp only[Act.put,List.setIfInBounds_toArray,List.set_cons_zero,List.set_cons_succ,i64_w,i32_w];rfl
       refine pure_ (i:=20) (N:=some 63) (v:=?_) (a':=?_) #[true,true,true,true,true,true,true,true,true,true,true,true,true,true,true,true,true,true,true,true,true] rfl rfl (z0r HT_.out (by kernel_rfl)) (fun _ _ _ h=>h) (Or.inl ⟨by rfl,?_⟩) ?_ ?_
       rotate_left
       · intro w'
         go_simp
         with_reducible rfl
       rotate_left
       · simp only[Act.put,List.setIfInBounds_toArray,List.set_cons_zero,List.set_cons_succ,i64_w,i32_w];rfl
       refine done_ (z4w HT_.out (by kernel_rfl)) ?_;have HBV:=z00.mk (z09 HB6.out HB6.out.size hHeld);have y5:wrap64 ((i:Int)+1)=((i+1:Nat):Int):=by have:=HRL.out.2.2;unfold wrap64;omega
       clear hHeld e0 e1 e2 e3 f0 f1 f2 f3 r0 d0 HT_ HW_ HB HB5 HB6;go_wp2
       go_roundg k1
       case rel=>exact⟨i+1,z++(rx++(⟨#[10]⟩:ByteArray)),rfl,by go_num,by omega,by omega,HZ',HBV⟩
       case measure=>omega
     · obtain rfl:i=rs.length:=by omega
       have y1:decide ((rs.length:Int)<(rs.length:Int))=false:=decide_eq_false (by omega);have hz:=HZ.out;rw[List.take_length]at hz;have hzs:z.size=(z6j rs).length:=by rw[←hz,z0i]
       obtain⟨qt,hqt⟩:∃qt,baL (atomL ⟨pn,pa⟩)=qt:=⟨_,rfl⟩
       have hqs:qt.size=(atomL ⟨pn,pa⟩).length:=by rw[←hqt];show(atomL ⟨pn,pa⟩).toArray.size=_;rw[List.size_toArray]
       have HEQ:=z00.mk (show((z++(⟨#[63,45,32]⟩:ByteArray))++qt)++(⟨#[46,10]⟩:ByteArray)=baL L from ba_eq (by rw[HLE.out,←hz,←hqt];simp));have hQ:=HQ.out;rw[hqt]at hQ;replace HQ:=z00.mk hQ;have hh:=HRL.out;have k1':(9223372036854775807<z.size+3)=False:=eq_false (by omega);have k2':(9223372036854775807<z.size+3+qt.size)=False:=eq_false (by omega);have k3':(9223372036854775807<z.size+3+qt.size+2)=False:=eq_false (by omega);have d0:=z07 HB.out HD.out.1;have d1:=z07 HB.out HD.out.2.1;have d2:=z07 HB.out HD.out.2.2;obtain⟨t,ht⟩:∃t,baL L=t:=⟨_,rfl⟩
       have hT:=HT.out;rw[ht]at hT HEQ;replace HT:=z00.mk hT;clear hz HZ hzs hqt hqs hQ hT ht hh
       go_wp2_with fail
       refine z68 (n:=11) (S:=fun w'=>Below wr.heap.size wr w') (ds:=[]) #[false,false,false,false,false,false,false,false,false,false,false] (by kernel_rfl) rfl rfl (z05 (Below.refl _ _)) (fun hHeld=>?_);refine z39 pts15.tab pts15.bits (fun HT_ HW_=>?_)
       generalize wr.drew=V at hHeld ⊢
       refine take_ (i:=0) (N:=some 65) (v:=?_) (a':=?_) #[true,false,false,false,false,false,false,false,false,false,false] rfl rfl (z1j HT_.out HW_.out (by kernel_rfl)) (fun _ _ _ h=>h) (Or.inl ⟨by rfl,?_⟩) hHeld ?_ ?_
       rotate_left
       · intro w' sS;have g0:=z07 sS d0;have g1:=z07 sS d1;have g2:=z07 sS d2;clear sS
         go_simp
         with_reducible rfl
       rotate_left
       · simp only[Act.put,List.setIfInBounds_toArray,List.set_cons_zero,List.set_cons_succ,i64_w,i32_w];rfl
       refine pure_ (i:=2) (N:=some 67) (v:=?_) (a':=?_) #[true,false,true,false,false,false,false,false,false,false,false] rfl rfl (z0r HT_.out (by kernel_rfl)) (fun _ _ _ h=>h) (Or.inl ⟨by rfl,?_⟩) ?_ ?_
       rotate_left
       · intro w'
         go_simp
         with_reducible rfl
       rotate_left
       · simp only[Act.put,List.setIfInBounds_toArray,List.set_cons_zero,List.set_cons_succ,i64_w,i32_w];rfl
       refine pure_ (i:=3) (N:=some 68) (v:=?_) (a':=?_) #[true,false,true,true,false,false,false,false,false,false,false] rfl rfl (z0r HT_.out (by kernel_rfl)) (fun _ _ _ h=>h) (Or.inl ⟨by rfl,?_⟩) ?_ ?_
       rotate_left
       · intro w'
         go_simp
         with_reducible rfl
       rotate_left
       · simp only[Act.put,List.setIfInBounds_toArray,List.set_cons_zero,List.set_cons_succ,i64_w,i32_w];rfl
       refine pure_ (i:=4) (N:=some 69) (v:=?_) (a':=?_) #[true,false,true,true,true,false,false,false,false,false,false] rfl rfl (z0r HT_.out (by kernel_rfl)) (fun _ _ _ h=>h) (Or.inl ⟨by rfl,?_⟩) ?_ ?_
       rotate_left
       · intro w'
         go_simp
         with_reducible rfl
       rotate_left
       · simp only[Act.put,List.setIfInBounds_toArray,List.set_cons_zero,List.set_cons_succ,i64_w,i32_w];rfl
       refine take_ (i:=5) (N:=some 70) (v:=?_) (a':=?_) #[true,false,true,true,true,true,false,false,false,false,false] rfl rfl (z1j HT_.out HW_.out (by kernel_rfl)) (fun _ _ _ h=>h) (Or.inl ⟨by rfl,?_⟩) hHeld ?_ ?_
       rotate_left
       · intro w' sS;have g0:=z07 sS d1;have g1:=z07 sS d2;clear sS
         go_simp
         with_reducible rfl
       rotate_left
       · simp only[Act.put,List.setIfInBounds_toArray,List.set_cons_zero,List.set_cons_succ,i64_w,i32_w];rfl
       refine one_ (i:=1) (N:=some 66) #[true,true,true,true,true,true,false,false,false,false,false] rfl rfl (z2a HT_.out (by kernel_rfl)) (by decide) (fun K hK=>?_);refine goes_ Tryz.func20 (by kernel_rfl) rfl #[.agg #[.slice A rs.length c,.string pn,.slice B pa.length d]] (by rfl) rfl rfl zA03 ?_;refine(HT.out (by trivial) _ (HLW.out.below (z09 HB.out HB.out.size hHeld)) (z09 HB.out HB.out.size hHeld)).mono ?_;rintro e w7 ⟨rfl,hb⟩;refine⟨_,rfl,?_⟩;refine hK.out _ _ (z0g hHeld hb) (fun hHeld=>?_);clear hK K;refine norm_ (a':=?_) ?_ ?_
       rotate_left
       · show Act.put _ (some 66) _=_;simp only[Act.put,List.setIfInBounds_toArray,List.set_cons_zero,List.set_cons_succ,i64_w,i32_w];rfl
       refine one_ (i:=6) (N:=some 71) #[true,true,true,true,true,true,true,false,false,false,false] rfl rfl (z2a HT_.out (by kernel_rfl)) (by decide) (fun K hK=>?_);refine goes_ Tryz.func23 (by kernel_rfl) rfl #[.agg #[.string pn,.slice B pa.length d]] (by rfl) rfl rfl zA03 ?_;refine(HQ.out (by trivial) _ (HLW.out.below (z09 HB.out HB.out.size hHeld)) (z09 HB.out HB.out.size hHeld)).mono ?_;rintro e w8 ⟨rfl,hb⟩;refine⟨_,rfl,?_⟩;refine hK.out _ _ (z0g hHeld hb) (fun hHeld=>?_);clear hK K;refine norm_ (a':=?_) ?_ ?_
       rotate_left
       · show Act.put _ (some 71) _=_;simp only[Act.put,List.setIfInBounds_toArray,List.set_cons_zero,List.set_cons_succ,i64_w,i32_w];rfl
       refine pure_ (i:=7) (N:=some 72) (v:=?_) (a':=?_) #[true,true,true,true,true,true,true,true,false,false,false] rfl rfl (z0r HT_.out (by kernel_rfl)) (fun _ _ _ h=>h) (Or.inl ⟨by rfl,?_⟩) ?_ ?_
       rotate_left
       · intro w'
         go_simp
         with_reducible rfl
       rotate_left
       · simp only[Act.put,List.setIfInBounds_toArray,List.set_cons_zero,List.set_cons_succ,i64_w,i32_w];rfl
       refine pure_ (i:=8) (N:=some 73) (v:=?_) (a':=?_) #[true,true,true,true,true,true,true,true,true,false,false] rfl rfl (z0r HT_.out (by kernel_rfl)) (fun _ _ _ h=>h) (Or.inl ⟨by rfl,?_⟩) ?_ ?_
       rotate_left
       · intro w'
         go_simp
         with_reducible rfl
       rotate_left
       · simp only[Act.put,List.setIfInBounds_toArray,List.set_cons_zero,List.set_cons_succ,i64_w,i32_w];rfl
       refine pure_ (i:=9) (N:=some 74) (v:=?_) (a':=?_) #[true,true,true,true,true,true,true,true,true,true,false] rfl rfl (z0r HT_.out (by kernel_rfl)) (fun _ _ _ h=>h) (Or.inl ⟨by rfl,?_⟩) ?_ ?_
       rotate_left
       · intro w'
         go_simp
         with_reducible rfl
       rotate_left
       · simp only[Act.put,List.setIfInBounds_toArray,List.set_cons_zero,List.set_cons_succ,i64_w,i32_w];rfl
       refine pure_ (i:=10) (N:=some 2) (v:=?_) (a':=?_) #[true,true,true,true,true,true,true,true,true,true,true] rfl rfl (z0r HT_.out (by kernel_rfl)) (fun _ _ _ h=>h) (Or.inl ⟨by rfl,?_⟩) ?_ ?_
       rotate_left
       · intro w'
         go_simp
         with_reducible rfl
       rotate_left
       · simp only[Act.put,List.setIfInBounds_toArray,List.set_cons_zero,List.set_cons_succ,i64_w,i32_w];rfl
       refine done_ (z4w HT_.out (by kernel_rfl)) ?_;have HBV:=z00.mk (z09 HBW.out HBW.out.size (z09 HB.out HB.out.size hHeld));clear hHeld d0 d1 d2 HT_ HW_ HB k1' k2' k3';rw[HEQ.out];go_wp2
       go_ret
       exact⟨by first|rfl|simp[*],HBV.out⟩
def z2s.f (k:Nat) (rs:List RlS) (pn:ByteArray) (pa:List TmS):Option Bool:=some true
theorem z2s.calls (k:Nat) (A:Option Addr) (c:Nat) (rs:List RlS) (pn:ByteArray) (B:Option Addr) (d:Nat) (pa:List TmS) (r:Bool) (w:World) (hLW:LaidW w)
 (hA:Kd.C k33 w A rs.length rs) (hc:rs.length≤c) (hB:Kd.C k60 w B pa.length pa) (hd:pa.length≤d) (hr:∀x ∈ rs,inR x) (hq:∀t ∈ pa,inT t) (h:z2s.f k rs pn pa=some r) :
 Calls Tryz.prog 15 #[.agg #[.slice A rs.length c,.string pn,.slice B pa.length d]] w fun e w'=>e=.returned (.bool r)∧Below w.heap.size w w':=by
 obtain rfl:=Option.some.inj h;exact zad rs pn pa ⟨hr,hq⟩ A B c d hd w hLW hA hB hc
end Go.Proofs.YthebhbomlllpeaaGreatDoor.X
namespace Go.Proofs.YthebhbomlllpeaaGreatDoor.X
theorem zbr (rs:List RlS) (pn:ByteArray) (pa:List TmS):∃k,z2s.f k rs pn pa=some true:=⟨0,rfl⟩
end Go.Proofs.YthebhbomlllpeaaGreatDoor.X
