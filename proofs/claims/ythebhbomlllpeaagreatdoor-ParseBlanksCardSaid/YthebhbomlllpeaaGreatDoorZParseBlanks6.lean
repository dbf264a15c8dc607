/-
  ParseBlanks: what the proof needs, put together by a program of this session (shake.py), part 6.
-/
import Derived.Test.YthebhbomlllpeaaGreatDoorZParseBlanks5
set_option linter.unusedVariables false
set_option linter.unusedSimpArgs false
namespace Go.Proofs.YthebhbomlllpeaaGreatDoor.X
open Go.RowKit Go.Proofs.YthebhbomlllpeaaGreatDoorW.PrintWords Go.Proofs.YthebhbomlllpeaaGreatDoorW.PrintLast Go.Proofs.YthebhbomlllpeaaGreatDoorW.PrintMore
attribute [local go_sem] z4g z4f z50 z4w z3s z3p z48 z4c
attribute [local go_sem high] eqA60 eqA69
mutual
def z0o.j0:Nat→Bool→ByteArray→List (S60)→ByteArray→List (S60)→Option (Bool)
 |0,_,_,_,_,_=>none
 |k+1,x19,x675000,x675001,x676000,x676001=>if x19=true then(some false)else(z0o.l0 k (x675001.length:Int) 0 x675000 x675001 x676000 x676001)
def z0o.l0:Nat→Int→Int→ByteArray→List (S60)→ByteArray→List (S60)→Option (Bool)
 |0,_,_,_,_,_,_=>none
 |k+1,x22,x23,x675000,x675001,x676000,x676001=>if x23<x22 then(if 0≤x23 then(if x23<(x675001.length:Int)then(if x23<(x676001.length:Int)then(if(!((((z2g x675001 x23).f0).toList)==(((z2g x676001 x23).f0).toList))||((!(((z2g x675001 x23).f1.f0)==((z2g x676001 x23).f1.f0))||(!(((z2g x675001 x23).f1.f1)==((z2g x676001 x23).f1.f1))||(!((((z2g x675001 x23).f1.f2).toList)==(((z2g x676001 x23).f1.f2).toList)))))))=true then(some false)else(z0o.l0 k x22 (wrap64 (x23+1)) x675000 x675001 x676000 x676001))else(none))else(none))else(none))else(some true)
end
def z0o.f (k:Nat) (a0_0:ByteArray) (l0_1:List (S60)) (a1_0:ByteArray) (l1_1:List (S60)):Option (Bool):=if a0_0.toList=a1_0.toList then(z0o.j0 k ((l0_1.length:Int) !=(l1_1.length:Int)) a0_0 l0_1 a1_0 l1_1)else(z0o.j0 k true a0_0 l0_1 a1_0 l1_1)
set_option maxHeartbeats 8000000 in
set_option maxRecDepth 100000 in
theorem z0o.calls (k:Nat) (a0_0:ByteArray) (A0_1:Option Addr) (c0_1:Nat) (l0_1:List (S60)) (a1_0:ByteArray) (A1_1:Option Addr) (c1_1:Nat) (l1_1:List (S60)) (r:Bool) (w:World) (hr0_1:Kd.C k60 w A0_1 l0_1.length l0_1) (hc0_1:l0_1.length≤c0_1) (hr1_1:Kd.C k60 w A1_1 l1_1.length l1_1) (hc1_1:l1_1.length≤c1_1) (h:z0o.f k a0_0 l0_1 a1_0 l1_1=some r) :
 Calls Tryz.prog 35 #[.agg #[.string a0_0,.slice A0_1 l0_1.length c0_1],.agg #[.string a1_0,.slice A1_1 l1_1.length c1_1]] w fun e w'=>e=.returned (.bool r)∧Below w.heap.size w w':=by
 have hu25:=Tryz.underlying25;have hu60:=Tryz.underlying60;have HR0_1:=z00.mk hr0_1;have HC0_1:=z00.mk hc0_1;clear hr0_1 hc0_1;have HR1_1:=z00.mk hr1_1;have HC1_1:=z00.mk hc1_1;clear hr1_1 hc1_1;have HB:=z00.mk (Below.refl w.heap.size w);have H:(if a0_0.toList=a1_0.toList then(z0o.j0 k ((l0_1.length:Int) !=(l1_1.length:Int)) a0_0 l0_1 a1_0 l1_1)else(z0o.j0 k true a0_0 l0_1 a1_0 l1_1))=some r:=h;clear h;have HC3:=z00.mk H;clear H;go_enter Tryz.func35,Tryz.ntmps35
 go_upto_region 1 with (first|((with_reducible refine z19 (N:=2) rfl ?_);(try(refine z45 (by rfl) ?_;dsimp only));refine z17 ?hg (N:=2) ?hd (cs:=#[.string a0_0,.slice A0_1 l0_1.length c0_1]) (t:=25) ?hr ?_;(case hd=>rfl);(case hg=>rfl);(case hr=>first|(go_simp;done)|(go_simp;rfl));intro gb674 hg w4 hbox hb;have n0_:=z00.mk (z0g zA00 hb);have n1_:=z00.mk (hbox);have n2_:=z00.mk ((by rw[hg];exact(z0j zA00):w.heap.size≤gb674));have n3_:=z00.mk ((by rw[hg];exact(z0j zA00):w.heap.size≤gb674));clear HB;have HB:=n0_;have BK674:=n1_;have GW674:=n2_;have GE674:=n3_;clear n0_ n1_ n2_ n3_;clear hb hbox hg)|((with_reducible refine z19 (N:=3) rfl ?_);(try(refine z45 (by rfl) ?_;dsimp only));refine z17 ?hg (N:=3) ?hd (cs:=#[.string a1_0,.slice A1_1 l1_1.length c1_1]) (t:=25) ?hr ?_;(case hd=>rfl);(case hg=>rfl);(case hr=>first|(go_simp;done)|(go_simp;rfl));intro gb675 hg w5 hbox hb;have n0_:=z00.mk (z0h (g:=gb674) (o:=.cells #[.string a0_0,.slice A0_1 l0_1.length c0_1] 25 (0,0)) zA0c hb);have n1_:=z00.mk (z0g zA0e hb);have n2_:=z00.mk (hbox);have n3_:=z00.mk ((by rw[hg];exact(z0j zA0e):w.heap.size≤gb675));have n4_:=z00.mk ((by rw[hg];exact(z0j zA0e):w.heap.size≤gb675));have n5_:=z00.mk ((by rw[hg];exact Nat.ne_of_lt (z1u (g:=gb674) (o:=.cells #[.string a0_0,.slice A0_1 l0_1.length c0_1] 25 (0,0)) zA0c):gb674≠gb675));have n6_:=z00.mk ((by rw[hg];exact Nat.ne_of_gt (z1u (g:=gb674) (o:=.cells #[.string a0_0,.slice A0_1 l0_1.length c0_1] 25 (0,0)) zA0c):gb675≠gb674));clear BK674;clear HB;have BK674:=n0_;have HB:=n1_;have BK675:=n2_;have GW675:=n3_;have GE675:=n4_;have NB674_675:=n5_;have NB675_674:=n6_;clear n0_ n1_ n2_ n3_ n4_ n5_ n6_;clear hb hbox hg))
 repeat(go_quiet (first|((with_reducible refine z19 (N:=2) rfl ?_);(try(refine z45 (by rfl) ?_;dsimp only));refine z17 ?hg (N:=2) ?hd (cs:=#[.string a0_0,.slice A0_1 l0_1.length c0_1]) (t:=25) ?hr ?_;(case hd=>rfl);(case hg=>rfl);(case hr=>first|(go_simp;done)|(go_simp;rfl));intro gb674 hg w4 hbox hb;have n0_:=z00.mk (z0g zA00 hb);have n1_:=z00.mk (hbox);have n2_:=z00.mk ((by rw[hg];exact(z0j zA00):w.heap.size≤gb674));have n3_:=z00.mk ((by rw[hg];exact(z0j zA00):w.heap.size≤gb674));clear HB;have HB:=n0_;have BK674:=n1_;have GW674:=n2_;have GE674:=n3_;clear n0_ n1_ n2_ n3_;clear hb hbox hg)|((with_reducible refine z19 (N:=3) rfl ?_);(try(refine z45 (by rfl) ?_;dsimp only));refine z17 ?hg (N:=3) ?hd (cs:=#[.string a1_0,.slice A1_1 l1_1.length c1_1]) (t:=25) ?hr ?_;(case hd=>rfl);(case hg=>rfl);(case hr=>first|(go_simp;done)|(go_simp;rfl));intro gb675 hg w5 hbox hb;have n0_:=z00.mk (z0h (g:=gb674) (o:=.cells #[.string a0_0,.slice A0_1 l0_1.length c0_1] 25 (0,0)) zA0c hb);have n1_:=z00.mk (z0g zA0e hb);have n2_:=z00.mk (hbox);have n3_:=z00.mk ((by rw[hg];exact(z0j zA0e):w.heap.size≤gb675));have n4_:=z00.mk ((by rw[hg];exact(z0j zA0e):w.heap.size≤gb675));have n5_:=z00.mk ((by rw[hg];exact Nat.ne_of_lt (z1u (g:=gb674) (o:=.cells #[.string a0_0,.slice A0_1 l0_1.length c0_1] 25 (0,0)) zA0c):gb674≠gb675));have n6_:=z00.mk ((by rw[hg];exact Nat.ne_of_gt (z1u (g:=gb674) (o:=.cells #[.string a0_0,.slice A0_1 l0_1.length c0_1] 25 (0,0)) zA0c):gb675≠gb674));clear BK674;clear HB;have BK674:=n0_;have HB:=n1_;have BK675:=n2_;have GW675:=n3_;have GE675:=n4_;have NB674_675:=n5_;have NB675_674:=n6_;clear n0_ n1_ n2_ n3_ n4_ n5_ n6_;clear hb hbox hg));go_upto_region 1 with (first|((with_reducible refine z19 (N:=2) rfl ?_);(try(refine z45 (by rfl) ?_;dsimp only));refine z17 ?hg (N:=2) ?hd (cs:=#[.string a0_0,.slice A0_1 l0_1.length c0_1]) (t:=25) ?hr ?_;(case hd=>rfl);(case hg=>rfl);(case hr=>first|(go_simp;done)|(go_simp;rfl));intro gb674 hg w4 hbox hb;have n0_:=z00.mk (z0g zA00 hb);have n1_:=z00.mk (hbox);have n2_:=z00.mk ((by rw[hg];exact(z0j zA00):w.heap.size≤gb674));have n3_:=z00.mk ((by rw[hg];exact(z0j zA00):w.heap.size≤gb674));clear HB;have HB:=n0_;have BK674:=n1_;have GW674:=n2_;have GE674:=n3_;clear n0_ n1_ n2_ n3_;clear hb hbox hg)|((with_reducible refine z19 (N:=3) rfl ?_);(try(refine z45 (by rfl) ?_;dsimp only));refine z17 ?hg (N:=3) ?hd (cs:=#[.string a1_0,.slice A1_1 l1_1.length c1_1]) (t:=25) ?hr ?_;(case hd=>rfl);(case hg=>rfl);(case hr=>first|(go_simp;done)|(go_simp;rfl));intro gb675 hg w5 hbox hb;have n0_:=z00.mk (z0h (g:=gb674) (o:=.cells #[.string a0_0,.slice A0_1 l0_1.length c0_1] 25 (0,0)) zA0c hb);have n1_:=z00.mk (z0g zA0e hb);have n2_:=z00.mk (hbox);have n3_:=z00.mk ((by rw[hg];exact(z0j zA0e):w.heap.size≤gb675));have n4_:=z00.mk ((by rw[hg];exact(z0j zA0e):w.heap.size≤gb675));have n5_:=z00.mk ((by rw[hg];exact Nat.ne_of_lt (z1u (g:=gb674) (o:=.cells #[.string a0_0,.slice A0_1 l0_1.length c0_1] 25 (0,0)) zA0c):gb674≠gb675));have n6_:=z00.mk ((by rw[hg];exact Nat.ne_of_gt (z1u (g:=gb674) (o:=.cells #[.string a0_0,.slice A0_1 l0_1.length c0_1] 25 (0,0)) zA0c):gb675≠gb674));clear BK674;clear HB;have BK674:=n0_;have HB:=n1_;have BK675:=n2_;have GW675:=n3_;have GE675:=n4_;have NB674_675:=n5_;have NB675_674:=n6_;clear n0_ n1_ n2_ n3_ n4_ n5_ n6_;clear hb hbox hg)))
 (try simp only[Act.put,List.setIfInBounds_toArray,List.set_cons_zero,List.set_cons_succ])
 go_cut [19] (fun v19 wc=>∃(kq:Nat) (x19_2:Bool),v19=.bool x19_2∧z00 (z0o.j0 kq x19_2 a0_0 l0_1 a1_0 l1_1=some r)∧z00 (kq≤k)∧z00 (wc.heap[gb674]?=some (.cells #[.string a0_0,(.slice A0_1 l0_1.length c0_1)] 25 (0,0)))∧z00 (wc.heap[gb675]?=some (.cells #[.string a1_0,(.slice A1_1 l1_1.length c1_1)] 25 (0,0)))∧z00 (Below w.heap.size w wc))
 case first =>
  have H:=HC3.out;clear HC3
  by_cases c6:a0_0.toList=a1_0.toList
  · rw[if_pos c6]at H;have c6b0:(a0_0.toList==a1_0.toList)=true:=beq_iff_eq.mpr c6;have c6b1:(a0_0.toList !=a1_0.toList)=false:=bne_eq_false_iff_eq.mpr c6;clear c6
    (first|rw[c6b0]|(simp only[i64_w,i32_w];rw[c6b0])|skip)
    have H':=z00.mk H;clear H;have hnb7:=NB674_675.out;have hnc7:=NB675_674.out;have hcz8_0:w5.cell? ⟨gb674,0,none⟩=some (.string a0_0):=(z01 BK674.out 0).trans rfl;have hcz8_1:w5.cell? ⟨gb674,1,none⟩=some (.slice A0_1 l0_1.length c0_1):=(z01 BK674.out 1).trans rfl;have hfz8_0:=z03 BK674.out 0;have hfz8_1:=z03 BK674.out 1;have hcz9_0:w5.cell? ⟨gb675,0,none⟩=some (.string a1_0):=(z01 BK675.out 0).trans rfl;have hcz9_1:w5.cell? ⟨gb675,1,none⟩=some (.slice A1_1 l1_1.length c1_1):=(z01 BK675.out 1).trans rfl;have hfz9_0:=z03 BK675.out 0;have hfz9_1:=z03 BK675.out 1;go_wp2
    repeat(go_quiet (fail);try go_wp2)
    go_meet
    case rel=>exact⟨_,(((l0_1.length:Int) !=(l1_1.length:Int))),zA06,H',⟨zA0m⟩,⟨zA0c⟩,⟨zA0p⟩,⟨zA0n⟩⟩
  · rw[if_neg c6]at H;have c6b0:(a0_0.toList==a1_0.toList)=false:=beq_eq_false_iff_ne.mpr c6;have c6b1:(a0_0.toList !=a1_0.toList)=true:=bne_iff_ne.mpr c6
    (first|rw[c6b0]|(simp only[i64_w,i32_w];rw[c6b0])|skip)
    have H':=z00.mk H;clear H;have hnb10:=NB674_675.out;have hnc10:=NB675_674.out;have hcz11_0:w5.cell? ⟨gb674,0,none⟩=some (.string a0_0):=(z01 BK674.out 0).trans rfl;have hcz11_1:w5.cell? ⟨gb674,1,none⟩=some (.slice A0_1 l0_1.length c0_1):=(z01 BK674.out 1).trans rfl;have hfz11_0:=z03 BK674.out 0;have hfz11_1:=z03 BK674.out 1;have hcz12_0:w5.cell? ⟨gb675,0,none⟩=some (.string a1_0):=(z01 BK675.out 0).trans rfl;have hcz12_1:w5.cell? ⟨gb675,1,none⟩=some (.slice A1_1 l1_1.length c1_1):=(z01 BK675.out 1).trans rfl;have hfz12_0:=z03 BK675.out 0;have hfz12_1:=z03 BK675.out 1;go_wp2
    repeat(go_quiet (fail);try go_wp2)
    go_meet
    case rel=>exact⟨_,(true),zA06,H',⟨zA0m⟩,⟨zA0c⟩,⟨zA0p⟩,⟨zA0n⟩⟩
 case rest =>
  clear HC3;(try clear c1);(try clear p2);(try clear c3);(try clear c6);(try clear c6b0);(try clear c6b1);(try clear c7);(try clear c10);(try clear hcz11_0);(try clear hcz11_1);(try clear hcz12_0);(try clear hcz12_1);(try clear hcz8_0);(try clear hcz8_1);(try clear hcz9_0);(try clear hcz9_1);(try clear hfz11_0);(try clear hfz11_1);(try clear hfz12_0);(try clear hfz12_1);(try clear hfz8_0);(try clear hfz8_1);(try clear hfz9_0);(try clear hfz9_1);obtain⟨kq,x19_2,rfl,HA,HJ2,BK674,BK675,HB⟩:=hcut
  cases kq with
  |zero=>exact absurd HA.out (by simp[z0o.j0])
  |succ kj2 =>
   have H:=HA.out;clear HA;simp only[z0o.j0]at H
   by_cases c13:x19_2=true
   · subst c13;have H1:(some false)=some r:=by rw[if_pos rfl]at H;exact H
     clear H;have H:=H1;clear H1;obtain rfl:=Option.some.inj H;go_wp2
     repeat(go_quiet (fail);try go_wp2)
     go_ret
     exact⟨by first|rfl|(simp[z0q,z0p] <;> rfl)|(simp[*,z0q,z0p] <;> rfl),by repeat(first|(with_reducible first|exact HB.out|apply z04|apply z02|apply z05|refine z08 ?_ GE674.out|refine z08 ?_ GE675.out)|exact HB.out)⟩
   · replace c13:=Bool.eq_false_iff.mpr c13;subst c13;have H1:(z0o.l0 kj2 (l0_1.length:Int) 0 a0_0 l0_1 a1_0 l1_1)=some r:=by rw[if_neg (show ¬(false=true) by decide)]at H;exact H
     clear H;have H:=H1;clear H1;have H':=z00.mk H;clear H;have hnb14:=NB674_675.out;have hnc14:=NB675_674.out;have hcz15_0:wc.cell? ⟨gb674,0,none⟩=some (.string a0_0):=(z01 BK674.out 0).trans rfl;have hcz15_1:wc.cell? ⟨gb674,1,none⟩=some (.slice A0_1 l0_1.length c0_1):=(z01 BK674.out 1).trans rfl;have hfz15_0:=z03 BK674.out 0;have hfz15_1:=z03 BK674.out 1;go_wp2
     repeat(go_quiet (fail);try go_wp2)
     go_loopg [23] kj2 (fun kq v23 w'=>∃(x23_2:Int),v23=.int .i64 x23_2∧z00 (z0o.l0 kq (l0_1.length:Int) x23_2 a0_0 l0_1 a1_0 l1_1=some r)∧z00 (kq≤kj2)∧z00 (w'.heap[gb674]?=some (.cells #[.string a0_0,(.slice A0_1 l0_1.length c0_1)] 25 (0,0)))∧z00 (w'.heap[gb675]?=some (.cells #[.string a1_0,(.slice A1_1 l1_1.length c1_1)] 25 (0,0)))∧z00 (Below w.heap.size w w'))
     case atStart=>exact⟨(0),zA06,H',⟨Nat.le_refl _⟩,⟨zA0c⟩,⟨zA0p⟩,⟨zA0n⟩⟩
     case round =>
      clear H';(try clear c1);(try clear p2);(try clear c3);(try clear c6);(try clear c6b0);(try clear c6b1);(try clear c7);(try clear c10);(try clear c13);(try clear c14);(try clear hcz11_0);(try clear hcz11_1);(try clear hcz12_0);(try clear hcz12_1);(try clear hcz15_0);(try clear hcz15_1);(try clear hcz8_0);(try clear hcz8_1);(try clear hcz9_0);(try clear hcz9_1);(try clear hfz11_0);(try clear hfz11_1);(try clear hfz12_0);(try clear hfz12_1);(try clear hfz15_0);(try clear hfz15_1);(try clear hfz8_0);(try clear hfz8_1);(try clear hfz9_0);(try clear hfz9_1);(try clear p2);obtain⟨x23_2,rfl,HA,HK2,BK674,BK675,HB⟩:=hrel
      cases gk with
      |zero=>exact absurd HA.out (by simp[z0o.l0])
      |succ k2 =>
       have H:=HA.out;clear HA;simp only[z0o.l0]at H
       by_cases c16:x23_2<(l0_1.length:Int)
       · rw[if_pos c16]at H;have c16b0:decide (x23_2<(l0_1.length:Int))=true:=decide_eq_true c16;clear c16
         by_cases c17:0≤x23_2
         · rw[if_pos c17]at H;have c17b0:decide (0≤x23_2)=true:=decide_eq_true c17;clear c17
           by_cases c18:x23_2<(l0_1.length:Int)
           · rw[if_pos c18]at H;have c18b0:decide (x23_2<(l0_1.length:Int))=true:=decide_eq_true c18;clear c18
             by_cases c19:x23_2<(l1_1.length:Int)
             · rw[if_pos c19]at H;have c19b0:decide (x23_2<(l1_1.length:Int))=true:=decide_eq_true c19;clear c19
               by_cases c20:(!((((z2g l0_1 x23_2).f0).toList)==(((z2g l1_1 x23_2).f0).toList))||((!(((z2g l0_1 x23_2).f1.f0)==((z2g l1_1 x23_2).f1.f0))||(!(((z2g l0_1 x23_2).f1.f1)==((z2g l1_1 x23_2).f1.f1))||(!((((z2g l0_1 x23_2).f1.f2).toList)==(((z2g l1_1 x23_2).f1.f2).toList)))))))=true
               · rw[if_pos c20]at H;have c20b0:(!((((z2g l0_1 x23_2).f0).toList)==(((z2g l1_1 x23_2).f0).toList))||((!(((z2g l0_1 x23_2).f1.f0)==((z2g l1_1 x23_2).f1.f0))||(!(((z2g l0_1 x23_2).f1.f1)==((z2g l1_1 x23_2).f1.f1))||(!((((z2g l0_1 x23_2).f1.f2).toList)==(((z2g l1_1 x23_2).f1.f2).toList)))))))=true:=c20;clear c20;obtain rfl:=Option.some.inj H;have hnb21:=NB674_675.out;have hnc21:=NB675_674.out;have hcz22_0:wr.cell? ⟨gb674,0,none⟩=some (.string a0_0):=(z01 BK674.out 0).trans rfl;have hcz22_1:wr.cell? ⟨gb674,1,none⟩=some (.slice A0_1 l0_1.length c0_1):=(z01 BK674.out 1).trans rfl;have hfz22_0:=z03 BK674.out 0;have hfz22_1:=z03 BK674.out 1;have p676:0≤(x23_2:Int):=of_decide_eq_true zA01;have q676:x23_2<(l0_1.length:Int):=of_decide_eq_true zA01;obtain⟨ad676,e676,hx676_0,hx676_1,hx676_2,hx676_3⟩:=ze1 HR0_1.out x23_2 p676 q676
                 cases e676
                 replace hx676_0:=(HB.out.cell (World.block_lt_of_cell? w _ hx676_0)).trans hx676_0;replace hx676_1:=(HB.out.cell (World.block_lt_of_cell? w _ hx676_1)).trans hx676_1;replace hx676_2:=(HB.out.cell (World.block_lt_of_cell? w _ hx676_2)).trans hx676_2;replace hx676_3:=(HB.out.cell (World.block_lt_of_cell? w _ hx676_3)).trans hx676_3;replace p676:=eq_true p676;replace q676:=eq_true q676;have hcz23_0:wr.cell? ⟨gb675,0,none⟩=some (.string a1_0):=(z01 BK675.out 0).trans rfl;have hcz23_1:wr.cell? ⟨gb675,1,none⟩=some (.slice A1_1 l1_1.length c1_1):=(z01 BK675.out 1).trans rfl;have hfz23_0:=z03 BK675.out 0;have hfz23_1:=z03 BK675.out 1;have p677:0≤(x23_2:Int):=of_decide_eq_true zA01;have q677:x23_2<(l1_1.length:Int):=of_decide_eq_true zA01;obtain⟨ad677,e677,hx677_0,hx677_1,hx677_2,hx677_3⟩:=ze1 HR1_1.out x23_2 p677 q677
                 cases e677
                 replace hx677_0:=(HB.out.cell (World.block_lt_of_cell? w _ hx677_0)).trans hx677_0;replace hx677_1:=(HB.out.cell (World.block_lt_of_cell? w _ hx677_1)).trans hx677_1;replace hx677_2:=(HB.out.cell (World.block_lt_of_cell? w _ hx677_2)).trans hx677_2;replace hx677_3:=(HB.out.cell (World.block_lt_of_cell? w _ hx677_3)).trans hx677_3;replace p677:=eq_true p677;replace q677:=eq_true q677;go_wp2
                 repeat(go_quiet (fail);try go_wp2)
                 go_ret
                 exact⟨by first|rfl|(simp[z0q,z0p] <;> rfl)|(simp[*,z0q,z0p] <;> rfl),by repeat(first|(with_reducible first|exact HB.out|apply z04|apply z02|apply z05|refine z08 ?_ GE674.out|refine z08 ?_ GE675.out)|exact HB.out)⟩
               · rw[if_neg c20]at H;have c20b0:(!((((z2g l0_1 x23_2).f0).toList)==(((z2g l1_1 x23_2).f0).toList))||((!(((z2g l0_1 x23_2).f1.f0)==((z2g l1_1 x23_2).f1.f0))||(!(((z2g l0_1 x23_2).f1.f1)==((z2g l1_1 x23_2).f1.f1))||(!((((z2g l0_1 x23_2).f1.f2).toList)==(((z2g l1_1 x23_2).f1.f2).toList)))))))=false:=by simpa using c20
                 clear c20;have H':=z00.mk H;clear H;have hnb24:=NB674_675.out;have hnc24:=NB675_674.out;have hcz25_0:wr.cell? ⟨gb674,0,none⟩=some (.string a0_0):=(z01 BK674.out 0).trans rfl;have hcz25_1:wr.cell? ⟨gb674,1,none⟩=some (.slice A0_1 l0_1.length c0_1):=(z01 BK674.out 1).trans rfl;have hfz25_0:=z03 BK674.out 0;have hfz25_1:=z03 BK674.out 1;have p676:0≤(x23_2:Int):=of_decide_eq_true zA01;have q676:x23_2<(l0_1.length:Int):=of_decide_eq_true zA01;obtain⟨ad676,e676,hx676_0,hx676_1,hx676_2,hx676_3⟩:=ze1 HR0_1.out x23_2 p676 q676
                 cases e676
                 replace hx676_0:=(HB.out.cell (World.block_lt_of_cell? w _ hx676_0)).trans hx676_0;replace hx676_1:=(HB.out.cell (World.block_lt_of_cell? w _ hx676_1)).trans hx676_1;replace hx676_2:=(HB.out.cell (World.block_lt_of_cell? w _ hx676_2)).trans hx676_2;replace hx676_3:=(HB.out.cell (World.block_lt_of_cell? w _ hx676_3)).trans hx676_3;replace p676:=eq_true p676;replace q676:=eq_true q676;have hcz26_0:wr.cell? ⟨gb675,0,none⟩=some (.string a1_0):=(z01 BK675.out 0).trans rfl;have hcz26_1:wr.cell? ⟨gb675,1,none⟩=some (.slice A1_1 l1_1.length c1_1):=(z01 BK675.out 1).trans rfl;have hfz26_0:=z03 BK675.out 0;have hfz26_1:=z03 BK675.out 1;have p677:0≤(x23_2:Int):=of_decide_eq_true zA01;have q677:x23_2<(l1_1.length:Int):=of_decide_eq_true zA01;obtain⟨ad677,e677,hx677_0,hx677_1,hx677_2,hx677_3⟩:=ze1 HR1_1.out x23_2 p677 q677
                 cases e677
                 replace hx677_0:=(HB.out.cell (World.block_lt_of_cell? w _ hx677_0)).trans hx677_0;replace hx677_1:=(HB.out.cell (World.block_lt_of_cell? w _ hx677_1)).trans hx677_1;replace hx677_2:=(HB.out.cell (World.block_lt_of_cell? w _ hx677_2)).trans hx677_2;replace hx677_3:=(HB.out.cell (World.block_lt_of_cell? w _ hx677_3)).trans hx677_3;replace p677:=eq_true p677;replace q677:=eq_true q677;go_wp2
                 repeat(go_quiet (fail);try go_wp2)
                 go_roundg k2
                 case measure=>have:=HJ2.out;have:=HK2.out;omega
                 case rel=>exact⟨(wrap64 (x23_2+1)),zA06,H',⟨by have:=HJ2.out;have:=HK2.out;omega⟩,⟨zA0c⟩,⟨zA0p⟩,⟨zA0n⟩⟩
             · rw[if_neg c19]at H;exact absurd H (by simp)
           · rw[if_neg c18]at H;exact absurd H (by simp)
         · rw[if_neg c17]at H;exact absurd H (by simp)
       · rw[if_neg c16]at H;have c16b0:decide (x23_2<(l0_1.length:Int))=false:=decide_eq_false c16;clear c16;obtain rfl:=Option.some.inj H;go_wp2
         repeat(go_quiet (fail);try go_wp2)
         go_ret
         exact⟨by first|rfl|(simp[z0q,z0p] <;> rfl)|(simp[*,z0q,z0p] <;> rfl),by repeat(first|(with_reducible first|exact HB.out|apply z04|apply z02|apply z05|refine z08 ?_ GE674.out|refine z08 ?_ GE675.out)|exact HB.out)⟩
def z0z.l0:Nat→List (S69)→List (S69)→Int→Int→Option (Bool)
 |0,_,_,_,_=>none
 |k+1,x0,x1,x12,x13=>if x13<x12 then(if 0≤x13 then(if x13<(x0.length:Int)then(if x13<(x1.length:Int)then(if(!(((z3z x0 x13).f0)==((z3z x1 x13).f0))||(!((((z3z x0 x13).f1).toList)==(((z3z x1 x13).f1).toList))))=true then(some false)else(z0z.l0 k x0 x1 x12 (wrap64 (x13+1))))else(none))else(none))else(none))else(some true)
def z0z.f (k:Nat) (l0:List (S69)) (l1:List (S69)):Option (Bool):=if(l0.length:Int)=(l1.length:Int)then(z0z.l0 k l0 l1 (l0.length:Int) 0)else(some false)
set_option maxHeartbeats 8000000 in
set_option maxRecDepth 100000 in
theorem z0z.calls (k:Nat) (A0:Option Addr) (c0:Nat) (l0:List (S69)) (A1:Option Addr) (c1:Nat) (l1:List (S69)) (r:Bool) (w:World) (hr0:Kd.C k69 w A0 l0.length l0) (hc0:l0.length≤c0) (hr1:Kd.C k69 w A1 l1.length l1) (hc1:l1.length≤c1) (h:z0z.f k l0 l1=some r) :
 Calls Tryz.prog 38 #[.slice A0 l0.length c0,.slice A1 l1.length c1] w fun e w'=>e=.returned (.bool r)∧z0d w w':=by
 have hu69:=Tryz.underlying69;have HR0:=z00.mk hr0;have HC0:=z00.mk hc0;clear hr0 hc0;have HR1:=z00.mk hr1;have HC1:=z00.mk hc1;clear hr1 hc1;have H:(if(l0.length:Int)=(l1.length:Int)then(z0z.l0 k l0 l1 (l0.length:Int) 0)else(some false))=some r:=h;clear h
 by_cases c3:(l0.length:Int)=(l1.length:Int)
 · rw[if_pos c3]at H;have c3b0:((l0.length:Int)==(l1.length:Int))=true:=beq_iff_eq.mpr c3;have c3b1:((l0.length:Int) !=(l1.length:Int))=false:=bne_eq_false_iff_eq.mpr c3;have c3b2:(l0.length==l1.length)=true:=by first|simpa using c3|(simp at c3 ⊢;omega)
   clear c3;have H':=z00.mk H;clear H;go_enter Tryz.func38,Tryz.ntmps38;go_wp2
   repeat(go_quiet (fail);try go_wp2)
   go_loopg [13] k (fun kq v13 w'=>∃(x13_1:Int),v13=.int .i64 x13_1∧z00 (z0z.l0 kq l0 l1 (l0.length:Int) x13_1=some r)∧z00 (kq≤k)∧z0d w w')
   case atStart=>exact⟨(0),zA06,H',⟨Nat.le_refl _⟩,by repeat(first|exact z0d.refl _|apply z0d.step)⟩
   case round =>
    clear H';(try clear c1);(try clear p2);(try clear c3);(try clear c3b0);(try clear c3b1);(try clear c3b2);obtain⟨x13_1,rfl,HA,HK1,⟨m1,rfl⟩⟩:=hrel
    cases gk with
    |zero=>exact absurd HA.out (by simp[z0z.l0])
    |succ k1 =>
     have H:=HA.out;clear HA;simp only[z0z.l0]at H
     by_cases c4:x13_1<(l0.length:Int)
     · rw[if_pos c4]at H;have c4b0:decide (x13_1<(l0.length:Int))=true:=decide_eq_true c4;clear c4
       by_cases c5:0≤x13_1
       · rw[if_pos c5]at H;have c5b0:decide (0≤x13_1)=true:=decide_eq_true c5;clear c5
         by_cases c6:x13_1<(l0.length:Int)
         · rw[if_pos c6]at H;have c6b0:decide (x13_1<(l0.length:Int))=true:=decide_eq_true c6;clear c6
           by_cases c7:x13_1<(l1.length:Int)
           · rw[if_pos c7]at H;have c7b0:decide (x13_1<(l1.length:Int))=true:=decide_eq_true c7;clear c7
             by_cases c8:(!(((z3z l0 x13_1).f0)==((z3z l1 x13_1).f0))||(!((((z3z l0 x13_1).f1).toList)==(((z3z l1 x13_1).f1).toList))))=true
             · rw[if_pos c8]at H;have c8b0:(!(((z3z l0 x13_1).f0)==((z3z l1 x13_1).f0))||(!((((z3z l0 x13_1).f1).toList)==(((z3z l1 x13_1).f1).toList))))=true:=c8;clear c8;obtain rfl:=Option.some.inj H;have p678:0≤(x13_1:Int):=of_decide_eq_true zA01;have q678:x13_1<(l0.length:Int):=of_decide_eq_true zA01;obtain⟨ad678,e678,hx678_0,hx678_1⟩:=z9m HR0.out x13_1 p678 q678
               cases e678
               replace p678:=eq_true p678;replace q678:=eq_true q678;have p679:0≤(x13_1:Int):=of_decide_eq_true zA01;have q679:x13_1<(l1.length:Int):=of_decide_eq_true zA01;obtain⟨ad679,e679,hx679_0,hx679_1⟩:=z9m HR1.out x13_1 p679 q679
               cases e679
               replace p679:=eq_true p679;replace q679:=eq_true q679;go_wp2
               repeat(go_quiet (fail);try go_wp2)
               go_ret
               exact⟨by first|rfl|(simp;done)|(simp[*];done),by repeat(first|exact z0d.refl _|apply z0d.step)⟩
             · rw[if_neg c8]at H;have c8b0:(!(((z3z l0 x13_1).f0)==((z3z l1 x13_1).f0))||(!((((z3z l0 x13_1).f1).toList)==(((z3z l1 x13_1).f1).toList))))=false:=by simpa using c8
               clear c8;have H':=z00.mk H;clear H;have p678:0≤(x13_1:Int):=of_decide_eq_true zA01;have q678:x13_1<(l0.length:Int):=of_decide_eq_true zA01;obtain⟨ad678,e678,hx678_0,hx678_1⟩:=z9m HR0.out x13_1 p678 q678
               cases e678
               replace p678:=eq_true p678;replace q678:=eq_true q678;have p679:0≤(x13_1:Int):=of_decide_eq_true zA01;have q679:x13_1<(l1.length:Int):=of_decide_eq_true zA01;obtain⟨ad679,e679,hx679_0,hx679_1⟩:=z9m HR1.out x13_1 p679 q679
               cases e679
               replace p679:=eq_true p679;replace q679:=eq_true q679;go_wp2
               repeat(go_quiet (fail);try go_wp2)
               go_roundg k1
               case measure=>have:=HK1.out;omega
               case rel=>exact⟨(wrap64 (x13_1+1)),zA06,H',⟨zA1b⟩,by repeat(first|exact z0d.refl _|apply z0d.step)⟩
           · rw[if_neg c7]at H;exact absurd H (by simp)
         · rw[if_neg c6]at H;exact absurd H (by simp)
       · rw[if_neg c5]at H;exact absurd H (by simp)
     · rw[if_neg c4]at H;have c4b0:decide (x13_1<(l0.length:Int))=false:=decide_eq_false c4;clear c4;obtain rfl:=Option.some.inj H;go_wp2
       repeat(go_quiet (fail);try go_wp2)
       go_ret
       exact⟨by first|rfl|(simp;done)|(simp[*];done),by repeat(first|exact z0d.refl _|apply z0d.step)⟩
 · rw[if_neg c3]at H;have c3b0:((l0.length:Int)==(l1.length:Int))=false:=beq_eq_false_iff_ne.mpr c3;have c3b1:((l0.length:Int) !=(l1.length:Int))=true:=bne_iff_ne.mpr c3;have c3b2:(l0.length==l1.length)=false:=by first|simpa using c3|(simp at c3 ⊢;omega)
   obtain rfl:=Option.some.inj H;go_enter Tryz.func38,Tryz.ntmps38;go_wp2
   repeat(go_quiet (fail);try go_wp2)
   go_ret
   exact⟨by first|rfl|(simp;done)|(simp[*];done),by repeat(first|exact z0d.refl _|apply z0d.step)⟩
def z5o.l0:Nat→List (S69)→List (S69)→Int→Int→Option (Bool)
 |0,_,_,_,_=>none
 |k+1,x0,x1,x12,x13=>if x13<x12 then(if 0≤x13 then(if x13<(x0.length:Int)then(if x13<(x1.length:Int)then(if(!(((z3z x0 x13).f0)==((z3z x1 x13).f0))||(!((((z3z x0 x13).f1).toList)==(((z3z x1 x13).f1).toList))))=true then(some false)else(z5o.l0 k x0 x1 x12 (wrap64 (x13+1))))else(none))else(none))else(none))else(some true)
end Go.Proofs.YthebhbomlllpeaaGreatDoor.X
namespace Go.Proofs.YthebhbomlllpeaaGreatDoor.X
open Go.RowKit Go.Proofs.YthebhbomlllpeaaGreatDoorW.PrintWords Go.Proofs.YthebhbomlllpeaaGreatDoorW.PrintLast Go.Proofs.YthebhbomlllpeaaGreatDoorW.PrintMore
theorem zbw (head:Bool):∀(n:Nat) (acc:List TmS) (l:List TK) (x:List TmS × Int) (r:List TK),argsP head n acc l=.ok (x,r)→x.1.length≤acc.length+n
 |0,acc,l,x,r,h=>by simp only[argsP]at h;cases h
 |n+1,acc,l,x,r,h=>by
  simp only[argsP]at h
  split at h
  · cases h
  · split at h
    · obtain⟨y,r1,_,h⟩:=z29 h;obtain⟨_,r2,_,h⟩:=z29 h;injection h with h;injection h with e1 _
      rw[←e1];show(acc++[y]).length≤_
      simp
    · obtain⟨y,r1,_,h⟩:=z29 h
      split at h
      · have:=zbw head n _ _ x r h;simp only[List.length_append,List.length_cons,List.length_nil]at this;omega
      · injection h with h;injection h with e1 _
        rw[←e1];show(acc++[y]).length≤_
        simp
theorem z8d {head:Bool} {l:List TK} {x:AtS × Int} {r:List TK} (h:atomP head l=.ok (x,r)):x.1.f1.length≤9:=by
 unfold atomP at h;obtain⟨p,r1,_,h⟩:=z29 h
 split at h
 · obtain⟨a,r2,ha,h⟩:=z29 h;obtain⟨_,r3,_,h⟩:=z29 h;injection h with h;injection h with e1 _
   rw[←e1];have:=zbw head 9 [] _ a r2 ha
   simpa using this
 · injection h with h;injection h with e1 _
   rw[←e1]
   simp
theorem zee {l:List TK} {p:PgS} {r:List TK} (h:z2j l=.ok (p,r)):p.f1.f1.length≤9:=by
 unfold z2j at h;obtain⟨rs,r1,_,h⟩:=z29 h;obtain⟨q,r2,hq,h⟩:=z29 h;obtain⟨_,r3,_,h⟩:=z29 h;injection h with h;injection h with e1 _
 rw[←e1];exact z8d hq
theorem atoms_l0 (p q:ByteArray) (l:List TmS) (hl:l.length≤1000):∀(d i k:Nat),l.length - i=d→i≤l.length→d<k→z0o.l0 k (l.length:Int) (i:Int) p l q l=some true:=by
 intro d
 induction d with
 |zero =>
  intro i k hd hi hk;obtain⟨k,rfl⟩:∃j,k=j+1:=⟨k - 1,by omega⟩
  simp only[z0o.l0];rw[if_neg (by omega)]
 |succ d ih =>
  intro i k hd hi hk;obtain⟨k,rfl⟩:∃j,k=j+1:=⟨k - 1,by omega⟩
  simp only[z0o.l0];rw[if_pos (by omega),if_pos (by omega),if_pos (by omega),if_pos (by omega),if_neg (by simp),show wrap64 ((i:Int)+1)=((i+1:Nat):Int) by unfold wrap64;omega];exact ih (i+1) k (by omega) (by omega) (by omega)
theorem z7n (p:ByteArray) (l:List TmS) (hl:l.length≤1000):z0o.f 1100 p l p l=some true:=by
 unfold z0o.f;rw[if_pos rfl,show((l.length:Int) !=(l.length:Int))=false from bne_self_eq_false _];simp only[z0o.j0,Bool.false_eq_true,if_false];exact atoms_l0 p p l hl _ 0 _ rfl (Nat.zero_le _) (by omega)
structure FactC (V:World) (pn:ByteArray) (pa:List TmS) (ad ld:Addr) (A10 A30 A11 B0 B1:Option Addr) (c10 c30 c11 c31 b0 b1:Nat):Prop where
 r0:V.cell? ad=some (.string pn)
 r1:V.cell? ⟨ad.block,ad.off+1,none⟩=some (.slice A10 pa.length c10)
 r2:V.cell? ⟨ad.block,ad.off+2,none⟩=some (.int .i64 0)
 r3:V.cell? ⟨ad.block,ad.off+3,none⟩=some (.slice A30 0 c30)
 r4:V.cell? ⟨ad.block,ad.off+4,none⟩=some (.string ⟨#[120]⟩)
 r5:V.cell? ⟨ad.block,ad.off+4+1,none⟩=some (.slice A11 0 c11)
 r6:V.cell? ⟨ad.block,ad.off+4+2,none⟩=some (.int .i64 0)
 r7:V.cell? ⟨ad.block,ad.off+4+3,none⟩=some (.slice (some ld) 2 c31)
 l0:V.cell? ld=some (.int .i64 1)
 l1:V.cell? ⟨ld.block,ld.off+1,none⟩=some (.string pn)
 l2:V.cell? ⟨ld.block,ld.off+2,none⟩=some (.slice B0 pa.length b0)
 m0:V.cell? ⟨ld.block,ld.off+17,none⟩=some (.int .i64 2)
 m1:V.cell? ⟨ld.block,ld.off+17+1,none⟩=some (.string pn)
 m2:V.cell? ⟨ld.block,ld.off+17+2,none⟩=some (.slice B1 pa.length b1)
 h0:pa.length≤c10∧Kd.C k60 V A10 pa.length pa
 h1:pa.length≤b0∧Kd.C k60 V B0 pa.length pa
 h2:pa.length≤b1∧Kd.C k60 V B1 pa.length pa
structure FactS (V:World) (pn:ByteArray) (pa:List TmS) (ad ld:Addr) (A10 A30 A11 B0 B1 A0 A1 A3:Option Addr) (c10 c30 c11 c31 b0 b1 c0 c1 c2 c3 n1 n2 n3:Nat) (qn:ByteArray) (qa:List TmS):Prop where
 f:FactC V pn pa ad ld A10 A30 A11 B0 B1 c10 c30 c11 c31 b0 b1
 b1:V.heap[n1]?=some (.cells #[.slice A0 0 c0,.string pn,.slice A1 pa.length c1] 27 (0,0))
 b2:V.heap[n2]?=some (.cells #[.slice (some ad) 2 c2,.string qn,.slice A3 qa.length c3] 27 (0,0))
 b3:V.heap[n3]?=some (.cells #[.string ⟨#[120]⟩,.slice A11 0 c11,.int .i64 0,.slice (some ld) 2 c31] 33 (0,0))
 kc:Kd.C k60 V A1 pa.length pa
def factr.T:Bool × List (List Nat × List Nat):=(true,[([],[]),([0],[0]),([1],[1]),([2],[2]),([3],[3]),([],[]),([5],[5]),([4,6],[4,6]),([7,7],[7]),([8],[8]),([9,8],[8,9]),([10,8],[8,10]),([11,8],[8,11]),([8,12],[8,12]),([13,8],[13]),([14],[14]),([15,14],[14,15]),([16,14],[14,16]),([17,14],[14,17]),([18,14],[14,18]),([19,14],[14,19]),([14,20],[14,20]),([21,14],[21]),([22],[22]),([23,22],[22,23]),([24,22],[22,24]),([25,22],[22,25]),([26,22],[22,26]),([27,22],[22,27]),([22,28],[22,28]),([29,22],[29]),([30],[30]),([31,30],[30,31]),([32,30],[30,32]),([33,30],[30,33]),([34,30],[30,34]),([30],[30]),([36,30],[30,36]),([35,37,30,30],[30,35,37]),([30,38],[30,38]),([39,38],[39]),([40],[40]),([41,40],[40,41]),([42,40],[40,42]),([43,40],[40,43]),([44,40],[40,44]),([40],[40]),([46,40],[40,46]),([45,47,40,40],[40,45,47]),([40,48],[40,48]),([49,48],[49]),([50],[50]),([51,50],[50,51]),([52,50],[50,52]),([53,50],[50,53]),([54,50],[50,54]),([55,50],[50,55]),([50,56],[50,56]),([57,50,0,1,2,3,4,5,6,7,8,9,10,11,12,13,14,15,16,17,18,19,20,21,22,23,24,25,26,27,28,29,30,31,32,33,34,35,36,37,38,39,40,41,42,43,44,45,46,47,48,49,50,51,52,53,54,55,56,57],[57])])
def factr.B:List Nat:=[0,1,3,7,15,0,32,127,255,511,1023,2047,4095,8191,16383,32767,65535,131071,262143,524287,1048575,2097151,4194303,8388607,16777215,33554431,67108863,134217727,268435455,536870911,1073741823,2147483647,4294967295,8589934591,17179869183,34359738367,2147483647,70866960383,274877906943,549755813887,1099511627775,2199023255551,4398046511103,8796093022207,17592186044415,35184372088831,2199023255551,72567767433215,281474976710655,562949953421311,1125899906842623,2251799813685247,4503599627370495,9007199254740991,18014398509481983,36028797018963967,72057594037927935,144115188075855871,288230376151711743]
end Go.Proofs.YthebhbomlllpeaaGreatDoor.X
namespace Go.Proofs.YthebhbomlllpeaaGreatDoor.X
open Go.RowKit Go.Proofs.YthebhbomlllpeaaGreatDoorW.PrintWords Go.Proofs.YthebhbomlllpeaaGreatDoorW.PrintLast Go.Proofs.YthebhbomlllpeaaGreatDoorW.PrintMore
attribute [local go_sem] z4g z4f z50 z4w z3s z3p z48 z4c
def z3i.l0:Nat→ByteArray→List ByteArray→Int→Int→Option (Bool)
 |0,_,_,_,_=>none
 |k+1,x0,x3,x7,x8=>if x8<x7 then(if 0≤x8 then(if x8<(x3.length:Int)then(if(rdOf ByteArray.empty x3 x8).toList=x0.toList then(some true)else(z3i.l0 k x0 x3 x7 (wrap64 (x8+1))))else(none))else(none))else(some false)
def z3i.f (k:Nat) (a0:ByteArray):Option (Bool):=(some (([(⟨#[110,111,116]⟩:ByteArray),(⟨#[105,115]⟩:ByteArray),(⟨#[112,108,117,115]⟩:ByteArray),(⟨#[109,105,110,117,115]⟩:ByteArray),(⟨#[116,105,109,101,115]⟩:ByteArray),(⟨#[119,97,108,107]⟩:ByteArray),(⟨#[99,111,117,110,116]⟩:ByteArray),(⟨#[115,117,109]⟩:ByteArray),(⟨#[109,105,110]⟩:ByteArray),(⟨#[109,97,120]⟩:ByteArray),(⟨#[109,101,97,110]⟩:ByteArray)]:List ByteArray):List ByteArray)).bind fun y151=>(z3i.l0 k a0 y151 (y151.length:Int) 0)
def z16.f (a0:Int):Option (Bool):=if a0≥97 then(if a0≤122 then(some true)else(if a0≥65 then(if a0≤90 then(some true)else(if a0≥48 then(if a0≤57 then(some true)else(some (a0==95)))else(some (a0==95))))else(if a0≥48 then(if a0≤57 then(some true)else(some (a0==95)))else(some (a0==95)))))else(if a0≥65 then(if a0≤90 then(some true)else(if a0≥48 then(if a0≤57 then(some true)else(some (a0==95)))else(some (a0==95))))else(if a0≥48 then(if a0≤57 then(some true)else(some (a0==95)))else(some (a0==95))))
set_option maxHeartbeats 8000000 in
set_option maxRecDepth 100000 in
theorem z16.calls (a0:Int) (r:Bool) (w:World) (h:z16.f a0=some r) :
 Calls Tryz.prog 131 #[.int .u8 a0] w fun e w'=>e=.returned (.bool r)∧z0d w w':=by
 have H:(if a0≥97 then(if a0≤122 then(some true)else(if a0≥65 then(if a0≤90 then(some true)else(if a0≥48 then(if a0≤57 then(some true)else(some (a0==95)))else(some (a0==95))))else(if a0≥48 then(if a0≤57 then(some true)else(some (a0==95)))else(some (a0==95)))))else(if a0≥65 then(if a0≤90 then(some true)else(if a0≥48 then(if a0≤57 then(some true)else(some (a0==95)))else(some (a0==95))))else(if a0≥48 then(if a0≤57 then(some true)else(some (a0==95)))else(some (a0==95)))))=some r:=h;clear h
 by_cases c2:a0≥97
 · rw[if_pos c2]at H;have c2b0:decide (97≤a0)=true:=decide_eq_true c2;clear c2
   by_cases c3:a0≤122
   · rw[if_pos c3]at H;have c3b0:decide (a0≤122)=true:=decide_eq_true c3;clear c3;obtain rfl:=Option.some.inj H;go_enter Tryz.func131,Tryz.ntmps131;go_wp2
     go_ret
     exact⟨by first|rfl|(simp;done)|(simp[*];done),by repeat(first|exact z0d.refl _|apply z0d.step)⟩
   · rw[if_neg c3]at H;have c3b0:decide (a0≤122)=false:=decide_eq_false c3;clear c3
     by_cases c4:a0≥65
     · rw[if_pos c4]at H;have c4b0:decide (65≤a0)=true:=decide_eq_true c4;clear c4
       by_cases c5:a0≤90
       · rw[if_pos c5]at H;have c5b0:decide (a0≤90)=true:=decide_eq_true c5;clear c5;obtain rfl:=Option.some.inj H;go_enter Tryz.func131,Tryz.ntmps131;go_wp2
         go_ret
         exact⟨by first|rfl|(simp;done)|(simp[*];done),by repeat(first|exact z0d.refl _|apply z0d.step)⟩
       · rw[if_neg c5]at H;have c5b0:decide (a0≤90)=false:=decide_eq_false c5;clear c5
         by_cases c6:a0≥48
         · rw[if_pos c6]at H;have c6b0:decide (48≤a0)=true:=decide_eq_true c6;clear c6
           by_cases c7:a0≤57
           · rw[if_pos c7]at H;have c7b0:decide (a0≤57)=true:=decide_eq_true c7;clear c7;obtain rfl:=Option.some.inj H;go_enter Tryz.func131,Tryz.ntmps131;go_wp2
             go_ret
             exact⟨by first|rfl|(simp;done)|(simp[*];done),by repeat(first|exact z0d.refl _|apply z0d.step)⟩
           · rw[if_neg c7]at H;have c7b0:decide (a0≤57)=false:=decide_eq_false c7;clear c7;obtain rfl:=Option.some.inj H;go_enter Tryz.func131,Tryz.ntmps131;go_wp2
             go_ret
             exact⟨by first|rfl|(simp;done)|(simp[*];done),by repeat(first|exact z0d.refl _|apply z0d.step)⟩
         · rw[if_neg c6]at H;have c6b0:decide (48≤a0)=false:=decide_eq_false c6;clear c6;obtain rfl:=Option.some.inj H;go_enter Tryz.func131,Tryz.ntmps131;go_wp2
           go_ret
           exact⟨by first|rfl|(simp;done)|(simp[*];done),by repeat(first|exact z0d.refl _|apply z0d.step)⟩
     · rw[if_neg c4]at H;have c4b0:decide (65≤a0)=false:=decide_eq_false c4;clear c4
       by_cases c8:a0≥48
       · rw[if_pos c8]at H;have c8b0:decide (48≤a0)=true:=decide_eq_true c8;clear c8
         by_cases c9:a0≤57
         · rw[if_pos c9]at H;have c9b0:decide (a0≤57)=true:=decide_eq_true c9;clear c9;obtain rfl:=Option.some.inj H;go_enter Tryz.func131,Tryz.ntmps131;go_wp2
           go_ret
           exact⟨by first|rfl|(simp;done)|(simp[*];done),by repeat(first|exact z0d.refl _|apply z0d.step)⟩
         · rw[if_neg c9]at H;have c9b0:decide (a0≤57)=false:=decide_eq_false c9;clear c9;obtain rfl:=Option.some.inj H;go_enter Tryz.func131,Tryz.ntmps131;go_wp2
           go_ret
           exact⟨by first|rfl|(simp;done)|(simp[*];done),by repeat(first|exact z0d.refl _|apply z0d.step)⟩
       · rw[if_neg c8]at H;have c8b0:decide (48≤a0)=false:=decide_eq_false c8;clear c8;obtain rfl:=Option.some.inj H;go_enter Tryz.func131,Tryz.ntmps131;go_wp2
         go_ret
         exact⟨by first|rfl|(simp;done)|(simp[*];done),by repeat(first|exact z0d.refl _|apply z0d.step)⟩
 · rw[if_neg c2]at H;have c2b0:decide (97≤a0)=false:=decide_eq_false c2;clear c2
   by_cases c10:a0≥65
   · rw[if_pos c10]at H;have c10b0:decide (65≤a0)=true:=decide_eq_true c10;clear c10
     by_cases c11:a0≤90
     · rw[if_pos c11]at H;have c11b0:decide (a0≤90)=true:=decide_eq_true c11;clear c11;obtain rfl:=Option.some.inj H;go_enter Tryz.func131,Tryz.ntmps131;go_wp2
       go_ret
       exact⟨by first|rfl|(simp;done)|(simp[*];done),by repeat(first|exact z0d.refl _|apply z0d.step)⟩
     · rw[if_neg c11]at H;have c11b0:decide (a0≤90)=false:=decide_eq_false c11;clear c11
       by_cases c12:a0≥48
       · rw[if_pos c12]at H;have c12b0:decide (48≤a0)=true:=decide_eq_true c12;clear c12
         by_cases c13:a0≤57
         · rw[if_pos c13]at H;have c13b0:decide (a0≤57)=true:=decide_eq_true c13;clear c13;obtain rfl:=Option.some.inj H;go_enter Tryz.func131,Tryz.ntmps131;go_wp2
           go_ret
           exact⟨by first|rfl|(simp;done)|(simp[*];done),by repeat(first|exact z0d.refl _|apply z0d.step)⟩
         · rw[if_neg c13]at H;have c13b0:decide (a0≤57)=false:=decide_eq_false c13;clear c13;obtain rfl:=Option.some.inj H;go_enter Tryz.func131,Tryz.ntmps131;go_wp2
           go_ret
           exact⟨by first|rfl|(simp;done)|(simp[*];done),by repeat(first|exact z0d.refl _|apply z0d.step)⟩
       · rw[if_neg c12]at H;have c12b0:decide (48≤a0)=false:=decide_eq_false c12;clear c12;obtain rfl:=Option.some.inj H;go_enter Tryz.func131,Tryz.ntmps131;go_wp2
         go_ret
         exact⟨by first|rfl|(simp;done)|(simp[*];done),by repeat(first|exact z0d.refl _|apply z0d.step)⟩
   · rw[if_neg c10]at H;have c10b0:decide (65≤a0)=false:=decide_eq_false c10;clear c10
     by_cases c14:a0≥48
     · rw[if_pos c14]at H;have c14b0:decide (48≤a0)=true:=decide_eq_true c14;clear c14
       by_cases c15:a0≤57
       · rw[if_pos c15]at H;have c15b0:decide (a0≤57)=true:=decide_eq_true c15;clear c15;obtain rfl:=Option.some.inj H;go_enter Tryz.func131,Tryz.ntmps131;go_wp2
         go_ret
         exact⟨by first|rfl|(simp;done)|(simp[*];done),by repeat(first|exact z0d.refl _|apply z0d.step)⟩
       · rw[if_neg c15]at H;have c15b0:decide (a0≤57)=false:=decide_eq_false c15;clear c15;obtain rfl:=Option.some.inj H;go_enter Tryz.func131,Tryz.ntmps131;go_wp2
         go_ret
         exact⟨by first|rfl|(simp;done)|(simp[*];done),by repeat(first|exact z0d.refl _|apply z0d.step)⟩
     · rw[if_neg c14]at H;have c14b0:decide (48≤a0)=false:=decide_eq_false c14;clear c14;obtain rfl:=Option.some.inj H;go_enter Tryz.func131,Tryz.ntmps131;go_wp2
       go_ret
       exact⟨by first|rfl|(simp;done)|(simp[*];done),by repeat(first|exact z0d.refl _|apply z0d.step)⟩
mutual
def z0c.j0:Nat→ByteArray→Bool→Option (Bool)
 |0,_,_=>none
 |k+1,x0,x21=>if x21=true then(some false)else(z0c.l0 k x0 0)
def z0c.l0:Nat→ByteArray→Int→Option (Bool)
 |0,_,_=>none
 |k+1,x0,x3=>if x3<(x0.size:Int)then(if 0≤x3 then((z16.f (bt x0 x3)).bind fun t157=>(if t157=true then(z0c.l0 k x0 (wrap64 (x3+1)))else(some false)))else(none))else(some true)
end
def z0c.f (k:Nat) (a0:ByteArray):Option (Bool):=if(a0.size:Int)<1 then(z0c.j0 k a0 true)else(if(a0.size:Int)>40 then(z0c.j0 k a0 true)else(if 0<(a0.size:Int)then(if(bt a0 0)<65 then(z0c.j0 k a0 true)else(z0c.j0 k a0 (decide ((bt a0 0)>90))))else(none)))
set_option maxHeartbeats 8000000 in
set_option maxRecDepth 100000 in
theorem z0c.calls (k:Nat) (a0:ByteArray) (r:Bool) (w:World) (h:z0c.f k a0=some r) :
 Calls Tryz.prog 100 #[.string a0] w fun e w'=>e=.returned (.bool r)∧z0d w w':=by
 have H:(if(a0.size:Int)<1 then(z0c.j0 k a0 true)else(if(a0.size:Int)>40 then(z0c.j0 k a0 true)else(if 0<(a0.size:Int)then(if(bt a0 0)<65 then(z0c.j0 k a0 true)else(z0c.j0 k a0 (decide ((bt a0 0)>90))))else(none))))=some r:=h;clear h;have HC2:=z00.mk H;clear H;go_enter Tryz.func100,Tryz.ntmps100
 go_upto_region 1 with (fail)
 go_cut [21] (fun v21 wc=>∃(kq:Nat) (x21_1:Bool),v21=.bool x21_1∧z00 (z0c.j0 kq a0 x21_1=some r)∧z00 (kq≤k)∧z0d w wc)
 case first =>
  have H:=HC2.out;clear HC2
  by_cases c3:(a0.size:Int)<1
  · rw[if_pos c3]at H;have c3b0:decide ((a0.size:Int)<1)=true:=decide_eq_true c3;have c3b1:decide (a0.size<1)=true:=decide_eq_true (by omega);clear c3
    (first|rw[c3b0]|(simp only[i64_w,i32_w];rw[c3b0])|skip)
    have H':=z00.mk H;clear H;go_wp2;go_meet
    case rel=>exact⟨_,(true),zA06,H',⟨zA0m⟩,by repeat(first|exact z0d.refl _|apply z0d.step)⟩
  · rw[if_neg c3]at H;have c3b0:decide ((a0.size:Int)<1)=false:=decide_eq_false c3;have c3b1:decide (a0.size<1)=false:=decide_eq_false (by omega);clear c3
    (first|rw[c3b0]|(simp only[i64_w,i32_w];rw[c3b0])|skip)
    by_cases c4:(a0.size:Int)>40
    · rw[if_pos c4]at H;have c4b0:decide (40<(a0.size:Int))=true:=decide_eq_true c4;have c4b1:decide (40<a0.size)=true:=decide_eq_true (by omega);clear c4;have H':=z00.mk H;clear H;go_wp2;go_meet
      case rel=>exact⟨_,(true),zA06,H',⟨zA0m⟩,by repeat(first|exact z0d.refl _|apply z0d.step)⟩
    · rw[if_neg c4]at H;have c4b0:decide (40<(a0.size:Int))=false:=decide_eq_false c4;have c4b1:decide (40<a0.size)=false:=decide_eq_false (by omega);clear c4
      by_cases c5:0<(a0.size:Int)
      · rw[if_pos c5]at H;have c5b0:decide (0<(a0.size:Int))=true:=decide_eq_true c5;have c5b1:decide (0<a0.size)=true:=decide_eq_true (by omega);clear c5
        by_cases c7:(bt a0 0)<65
        · rw[if_pos c7]at H;have c7b0:decide ((bt a0 0)<65)=true:=decide_eq_true c7;clear c7;have H':=z00.mk H;clear H;have p6:0≤(0:Int):=(by omega)
          have q6:0<a0.size:=zA0g;have hx6:∀h:0<a0.size,((a0[0]'h).toNat:Int)=bt a0 0:=bt_at a0 0;clear p6;have qi6:(0<(a0.size:Int))=True:=eq_true (of_decide_eq_true zA01);replace q6:=eq_true q6;go_wp2;go_meet
          case rel=>exact⟨_,(true),zA06,H',⟨zA0m⟩,by repeat(first|exact z0d.refl _|apply z0d.step)⟩
        · rw[if_neg c7]at H;have c7b0:decide ((bt a0 0)<65)=false:=decide_eq_false c7;clear c7;have H':=z00.mk H;clear H;have p6:0≤(0:Int):=(by omega)
          have q6:0<a0.size:=zA0g;have hx6:∀h:0<a0.size,((a0[0]'h).toNat:Int)=bt a0 0:=bt_at a0 0;clear p6;have qi6:(0<(a0.size:Int))=True:=eq_true (of_decide_eq_true zA01);replace q6:=eq_true q6;have p8:0≤(0:Int):=(by omega)
          have q8:0<a0.size:=zA0g;have hx8:∀h:0<a0.size,((a0[0]'h).toNat:Int)=bt a0 0:=bt_at a0 0;clear p8;have qi8:(0<(a0.size:Int))=True:=eq_true (of_decide_eq_true zA01);replace q8:=eq_true q8;go_wp2;go_meet
          case rel=>exact⟨_,(decide ((bt a0 0)>90)),zA06,H',⟨zA0m⟩,by repeat(first|exact z0d.refl _|apply z0d.step)⟩
      · rw[if_neg c5]at H;exact absurd H (by simp)
 case rest =>
  clear HC2;(try clear c1);(try clear p2);(try clear c3);(try clear c3b0);(try clear c3b1);(try clear c4);(try clear c4b0);(try clear c4b1);(try clear c5);(try clear c5b0);(try clear c5b1);(try clear p6);(try clear q6);(try clear hx6);(try clear qi6);(try clear c7);(try clear c7b0);(try clear p8);(try clear q8);(try clear hx8);(try clear qi8);(try clear p6);(try clear p8);(try clear q6);(try clear q8);obtain⟨kq,x21_1,rfl,HA,HJ1,⟨mc1,rfl⟩⟩:=hcut
  cases kq with
  |zero=>exact absurd HA.out (by simp[z0c.j0])
  |succ kj1 =>
   have H:=HA.out;clear HA;simp only[z0c.j0]at H
   by_cases c9:x21_1=true
   · subst c9;have H1:(some false)=some r:=by rw[if_pos rfl]at H;exact H
     clear H;have H:=H1;clear H1;obtain rfl:=Option.some.inj H;go_wp2
     go_ret
     exact⟨by first|rfl|(simp;done)|(simp[*];done),by repeat(first|exact z0d.refl _|apply z0d.step)⟩
   · replace c9:=Bool.eq_false_iff.mpr c9;subst c9;have H1:(z0c.l0 kj1 a0 0)=some r:=by rw[if_neg (show ¬(false=true) by decide)]at H;exact H
     clear H;have H:=H1;clear H1;have H':=z00.mk H;clear H;go_wp2
     go_loopg [3] kj1 (fun kq v3 w'=>∃(x3_2:Int),v3=.int .i64 x3_2∧z00 (z0c.l0 kq a0 x3_2=some r)∧z00 (kq≤kj1)∧z0d w w')
     case atStart=>exact⟨(0),zA06,H',⟨Nat.le_refl _⟩,by repeat(first|exact z0d.refl _|apply z0d.step)⟩
     case round =>
      clear H';(try clear c1);(try clear p2);(try clear c3);(try clear c3b0);(try clear c3b1);(try clear c4);(try clear c4b0);(try clear c4b1);(try clear c5);(try clear c5b0);(try clear c5b1);(try clear p6);(try clear q6);(try clear hx6);(try clear qi6);(try clear c7);(try clear c7b0);(try clear p8);(try clear q8);(try clear hx8);(try clear qi8);(try clear c9);(try clear p2);(try clear p6);(try clear p8);(try clear q6);(try clear q8);obtain⟨x3_2,rfl,HA,HK2,⟨m2,rfl⟩⟩:=hrel
      cases gk with
      |zero=>exact absurd HA.out (by simp[z0c.l0])
      |succ k2 =>
       have H:=HA.out;clear HA;simp only[z0c.l0]at H
       by_cases c10:x3_2<(a0.size:Int)
       · rw[if_pos c10]at H;have c10b0:decide (x3_2<(a0.size:Int))=true:=decide_eq_true c10;clear c10
         by_cases c11:0≤x3_2
         · rw[if_pos c11]at H;have c11b0:decide (0≤x3_2)=true:=decide_eq_true c11;clear c11;replace H:=Option.bind_eq_some_iff.mp H;obtain⟨t157,A130,H⟩:=H;replace H:(if t157=true then(z0c.l0 k2 a0 (wrap64 (x3_2+1)))else(some false))=some r:=H;have A13:=z00.mk A130;clear A130
           by_cases c14:t157=true
           · subst c14;have H1:(z0c.l0 k2 a0 (wrap64 (x3_2+1)))=some r:=by rw[if_pos rfl]at H;exact H
             clear H;have H:=H1;clear H1;have H':=z00.mk H;clear H;have p12:0≤(x3_2:Int):=of_decide_eq_true zA01;have q12:x3_2<(a0.size:Int):=of_decide_eq_true zA01;have hx12:=bt_at a0 x3_2;replace p12:=eq_true p12;replace q12:=eq_true q12
             go_wp2_with (first|((with_reducible refine z0t (f:=131) rfl ?_);refine z27 (some 31) rfl rfl Tryz.func131 (by kernel_rfl) rfl #[.int .u8 (bt a0 x3_2)] rfl zA02 ?_;(with_reducible refine(z16.calls (bt a0 x3_2) true _ A13.out).mono ?_);rintro e w' ⟨rfl,⟨nd,rfl⟩⟩;refine⟨_,rfl,?_⟩))
             go_roundg k2
             case measure=>have:=HJ1.out;have:=HK2.out;omega
             case rel=>exact⟨(wrap64 (x3_2+1)),zA06,H',⟨by have:=HJ1.out;have:=HK2.out;omega⟩,by repeat(first|exact z0d.refl _|apply z0d.step)⟩
           · replace c14:=Bool.eq_false_iff.mpr c14;subst c14;have H1:(some false)=some r:=by rw[if_neg (show ¬(false=true) by decide)]at H;exact H
             clear H;have H:=H1;clear H1;obtain rfl:=Option.some.inj H;have p12:0≤(x3_2:Int):=of_decide_eq_true zA01;have q12:x3_2<(a0.size:Int):=of_decide_eq_true zA01;have hx12:=bt_at a0 x3_2;replace p12:=eq_true p12;replace q12:=eq_true q12
             go_wp2_with (first|((with_reducible refine z0t (f:=131) rfl ?_);refine z27 (some 31) rfl rfl Tryz.func131 (by kernel_rfl) rfl #[.int .u8 (bt a0 x3_2)] rfl zA02 ?_;(with_reducible refine(z16.calls (bt a0 x3_2) false _ A13.out).mono ?_);rintro e w' ⟨rfl,⟨nd,rfl⟩⟩;refine⟨_,rfl,?_⟩))
             go_ret
             exact⟨by first|rfl|(simp;done)|(simp[*];done),by repeat(first|exact z0d.refl _|apply z0d.step)⟩
         · rw[if_neg c11]at H;exact absurd H (by simp)
       · rw[if_neg c10]at H;have c10b0:decide (x3_2<(a0.size:Int))=false:=decide_eq_false c10;clear c10;obtain rfl:=Option.some.inj H;go_wp2
         go_ret
         exact⟨by first|rfl|(simp;done)|(simp[*];done),by repeat(first|exact z0d.refl _|apply z0d.step)⟩
def z22.f (a0:Int):Option (Bool):=if a0=9221120237041090561 then(some true)else(if a0≤9218868437227405312 then(some (decide (a0≥(-9218868437227405313))))else(some false))
set_option maxHeartbeats 8000000 in
set_option maxRecDepth 100000 in
theorem z22.calls (a0:Int) (r:Bool) (w:World) (h:z22.f a0=some r) :
 Calls Tryz.prog 146 #[.int .i64 a0] w fun e w'=>e=.returned (.bool r)∧z0d w w':=by
 have H:(if a0=9221120237041090561 then(some true)else(if a0≤9218868437227405312 then(some (decide (a0≥(-9218868437227405313))))else(some false)))=some r:=h;clear h
 by_cases c2:a0=9221120237041090561
 · rw[if_pos c2]at H;have c2b0:(a0==9221120237041090561)=true:=beq_iff_eq.mpr c2;have c2b1:(a0 !=9221120237041090561)=false:=bne_eq_false_iff_eq.mpr c2;clear c2;obtain rfl:=Option.some.inj H;go_enter Tryz.func146,Tryz.ntmps146;go_wp2
   go_ret
   exact⟨by first|rfl|(simp;done)|(simp[*];done),by repeat(first|exact z0d.refl _|apply z0d.step)⟩
 · rw[if_neg c2]at H;have c2b0:(a0==9221120237041090561)=false:=beq_eq_false_iff_ne.mpr c2;have c2b1:(a0 !=9221120237041090561)=true:=bne_iff_ne.mpr c2
   by_cases c3:a0≤9218868437227405312
   · rw[if_pos c3]at H;have c3b0:decide (a0≤9218868437227405312)=true:=decide_eq_true c3;clear c3;obtain rfl:=Option.some.inj H;go_enter Tryz.func146,Tryz.ntmps146;go_wp2
     go_ret
     exact⟨by first|rfl|(simp;done)|(simp[*];done),by repeat(first|exact z0d.refl _|apply z0d.step)⟩
   · rw[if_neg c3]at H;have c3b0:decide (a0≤9218868437227405312)=false:=decide_eq_false c3;clear c3;obtain rfl:=Option.some.inj H;go_enter Tryz.func146,Tryz.ntmps146;go_wp2
     go_ret
     exact⟨by first|rfl|(simp;done)|(simp[*];done),by repeat(first|exact z0d.refl _|apply z0d.step)⟩
mutual
def z0b.l0:Nat→Int→Int→ByteArray→Option (ByteArray)
 |0,_,_,_=>none
 |k+1,x0,x1,x5=>if x0>0 then(z0b.j1 k x0 x1 x5 true)else(z0b.j1 k x0 x1 x5 (x5.toList==([]:List UInt8)))
def z0b.j1:Nat→Int→Int→ByteArray→Bool→Option (ByteArray)
 |0,_,_,_,_=>none
 |k+1,x0,x1,x5,x13=>if x13=true then(if x1=0 then(none)else(if((Int.tmod x0 x1) % 256)>9 then((some (([(((97+((Int.tmod x0 x1) % 256)) % 256) - 10) % 256]:List Int):List Int)).bind fun y168=>(if(strOfNums y168).size+x5.size≤9223372036854775807 then(z0b.l0 k (IntKind.u64.wrap (Int.tdiv x0 x1)) x1 ((strOfNums y168)++x5))else(none)))else((some (([(48+((Int.tmod x0 x1) % 256)) % 256]:List Int):List Int)).bind fun y171=>(if(strOfNums y171).size+x5.size≤9223372036854775807 then(z0b.l0 k (IntKind.u64.wrap (Int.tdiv x0 x1)) x1 ((strOfNums y171)++x5))else(none)))))else(some x5)
end
def z0b.f (k:Nat) (a0:Int) (a1:Int):Option (ByteArray):=z0b.l0 k a0 a1 (⟨#[]⟩:ByteArray)
set_option maxHeartbeats 8000000 in
set_option maxRecDepth 100000 in
theorem z0b.calls (k:Nat) (a0:Int) (a1:Int) (r:ByteArray) (w:World) (h:z0b.f k a0 a1=some r) :
 Calls Tryz.prog 147 #[.int .u64 a0,.int .u64 a1] w fun e w'=>e=.returned (.string r)∧Below w.heap.size w w':=by
 have HB:=z00.mk (Below.refl w.heap.size w);have H:(z0b.l0 k a0 a1 (⟨#[]⟩:ByteArray))=some r:=h;clear h;have H':=z00.mk H;clear H;go_enter Tryz.func147,Tryz.ntmps147;go_wp2
 go_loopg [0,5] k (fun kq v0 v5 w'=>∃(x0_1:Int) (x5_1:ByteArray),v0=.int .u64 x0_1∧v5=.string x5_1∧z00 (z0b.l0 kq x0_1 a1 x5_1=some r)∧z00 (kq≤k)∧z00 (Below w.heap.size w w'))
 case atStart=>exact⟨(a0),((⟨#[]⟩:ByteArray)),zA06,zA06,H',⟨Nat.le_refl _⟩,⟨zA00⟩⟩
 case round =>
  clear H';(try clear c1);(try clear p2);obtain⟨x0_1,x5_1,rfl,rfl,HA,HK1,HB⟩:=hrel
  cases gk with
  |zero=>exact absurd HA.out (by simp[z0b.l0])
  |succ k1 =>
   have H:=HA.out;clear HA;simp only[z0b.l0]at H;have HC3:=z00.mk H;clear H
   go_upto_region 2 with (fail)
   go_cut [13] (fun v13 wc=>∃(kq:Nat) (x13_2:Bool),v13=.bool x13_2∧z00 (z0b.j1 kq x0_1 a1 x5_1 x13_2=some r)∧z00 (kq≤k1)∧z00 (Below w.heap.size w wc))
   case first =>
    have H:=HC3.out;clear HC3
    by_cases c4:x0_1>0
    · rw[if_pos c4]at H;have c4b0:decide (0<x0_1)=true:=decide_eq_true c4;clear c4
      (first|rw[c4b0]|(simp only[i64_w,i32_w];rw[c4b0])|skip)
      have H':=z00.mk H;clear H;go_wp2;go_meet
      case rel=>exact⟨_,(true),zA06,H',⟨zA11⟩,⟨zA00⟩⟩
    · rw[if_neg c4]at H;have c4b0:decide (0<x0_1)=false:=decide_eq_false c4;clear c4
      (first|rw[c4b0]|(simp only[i64_w,i32_w];rw[c4b0])|skip)
      have H':=z00.mk H;clear H;go_wp2;go_meet
      case rel=>exact⟨_,((x5_1.toList==([]:List UInt8))),zA06,H',⟨zA11⟩,⟨zA00⟩⟩
   case rest =>
    clear HC3;(try clear c1);(try clear p2);(try clear c4);(try clear c4b0);(try clear p2);obtain⟨kq,x13_2,rfl,HA,HJ2,HB⟩:=hcut
    cases kq with
    |zero=>exact absurd HA.out (by simp[z0b.j1])
    |succ kj2 =>
     have H:=HA.out;clear HA;simp only[z0b.j1]at H
     by_cases c5:x13_2=true
     · subst c5;have H1:(if a1=0 then(none)else(if((Int.tmod x0_1 a1) % 256)>9 then((some (([(((97+((Int.tmod x0_1 a1) % 256)) % 256) - 10) % 256]:List Int):List Int)).bind fun y168=>(if(strOfNums y168).size+x5_1.size≤9223372036854775807 then(z0b.l0 kj2 (IntKind.u64.wrap (Int.tdiv x0_1 a1)) a1 ((strOfNums y168)++x5_1))else(none)))else((some (([(48+((Int.tmod x0_1 a1) % 256)) % 256]:List Int):List Int)).bind fun y171=>(if(strOfNums y171).size+x5_1.size≤9223372036854775807 then(z0b.l0 kj2 (IntKind.u64.wrap (Int.tdiv x0_1 a1)) a1 ((strOfNums y171)++x5_1))else(none)))))=some r:=by rw[if_pos rfl]at H;exact H
       clear H;have H:=H1;clear H1
       by_cases c6:a1=0
       · rw[if_pos c6]at H;exact absurd H (by simp)
       · rw[if_neg c6]at H;have c6b0:(a1==0)=false:=beq_eq_false_iff_ne.mpr c6;have c6b1:(a1 !=0)=true:=bne_iff_ne.mpr c6
         by_cases c7:((Int.tmod x0_1 a1) % 256)>9
         · rw[if_pos c7]at H;have c7b0:decide (9<((Int.tmod x0_1 a1) % 256))=true:=decide_eq_true c7;clear c7;obtain⟨y168,hy168⟩:∃y_:List Int,y_=(([(((97+((Int.tmod x0_1 a1) % 256)) % 256) - 10) % 256]:List Int)):=⟨_,rfl⟩
           replace H:(if(strOfNums y168).size+x5_1.size≤9223372036854775807 then(z0b.l0 kj2 (IntKind.u64.wrap (Int.tdiv x0_1 a1)) a1 ((strOfNums y168)++x5_1))else(none))=some r:=by first|(rw[hy168];with_reducible exact H)|(have H2_:=(Option.bind_some _ _).symm.trans H;rw[hy168];with_reducible exact H2_)|(have H2_:=(Option.bind_some _ _).symm.trans H;with_reducible exact H2_)|with_reducible exact H|(rw[hy168];exact H)|exact H
           have Ny168:=z00.mk hy168;clear hy168
           by_cases c8:(strOfNums y168).size+x5_1.size≤9223372036854775807
           · rw[if_pos c8]at H;have c8b0:=eq_true c8;have c8b1:decide ((strOfNums y168).size+x5_1.size≤9223372036854775807)=true:=decide_eq_true c8
             try have c8b2:(9223372036854775807<(strOfNums y168).size+x5_1.size)=False:=eq_false (Nat.not_lt.2 c8)
             have H':=z00.mk H;clear H
             go_wp2_with (first|((with_reducible refine z19 (N:=26) rfl ?_);refine Kd.R_lit (Kd.int .u8) _ 5 ?hg (N:=26) ?hd (xs:=([(((97+((Int.tmod x0_1 a1) % 256)) % 256) - 10) % 256]:List Int)) (inner:=[.int .u8 ((((97+((Int.tmod x0_1 a1) % 256)) % 256) - 10) % 256)]) (ok:=fun _=>True) (okp:=fun _=>True) ?hr ?hp (fun _ hk=>hk) trivial (Below.refl _ _) (Nat.le_refl _) (by simp) ?_;(case hd=>rfl);(case hg=>rfl);(case hr=>first|(go_simp;done)|(go_simp;rfl));(case hp=>exact(Reps.one (show Kd.M (Kd.int .u8) _ _ _ ((((97+((Int.tmod x0_1 a1) % 256)) % 256) - 10) % 256) [.int .u8 ((((97+((Int.tmod x0_1 a1) % 256)) % 256) - 10) % 256)]from rfl) (Reps.none _ _)));intro v169 w9 ho10 hb hg_ hnew_;clear hg_ hnew_;(first|rw[←Ny168.out]at ho10|(simp only[Int.reduceToNat]at ho10;rw[←Ny168.out]at ho10));have n0_:=z00.mk (Kd.R_lower ho10 (z0j zA00));have n1_:=z00.mk (z0g zA00 hb);clear HB;have HO170:=n0_;have HB:=n1_;clear n0_ n1_;clear hb ho10;have hcv11:=za4 (P:=Tryz.prog) Tryz.underlying145 Tryz.underlying5 Tryz.underlying9 (Kd.own_of_R HO170.out)))
             go_roundg kj2
             case measure=>have:=HK1.out;have:=HJ2.out;omega
             case rel=>exact⟨(IntKind.u64.wrap (Int.tdiv x0_1 a1)),((strOfNums y168)++x5_1),zA06,zA06,H',⟨by have:=HK1.out;have:=HJ2.out;omega⟩,⟨zA00⟩⟩
           · rw[if_neg c8]at H;exact absurd H (by simp)
         · rw[if_neg c7]at H;have c7b0:decide (9<((Int.tmod x0_1 a1) % 256))=false:=decide_eq_false c7;clear c7;obtain⟨y171,hy171⟩:∃y_:List Int,y_=(([(48+((Int.tmod x0_1 a1) % 256)) % 256]:List Int)):=⟨_,rfl⟩
           replace H:(if(strOfNums y171).size+x5_1.size≤9223372036854775807 then(z0b.l0 kj2 (IntKind.u64.wrap (Int.tdiv x0_1 a1)) a1 ((strOfNums y171)++x5_1))else(none))=some r:=by first|(rw[hy171];with_reducible exact H)|(have H2_:=(Option.bind_some _ _).symm.trans H;rw[hy171];with_reducible exact H2_)|(have H2_:=(Option.bind_some _ _).symm.trans H;with_reducible exact H2_)|with_reducible exact H|(rw[hy171];exact H)|exact H
           have Ny171:=z00.mk hy171;clear hy171
           by_cases c12:(strOfNums y171).size+x5_1.size≤9223372036854775807
           · rw[if_pos c12]at H;have c12b0:=eq_true c12;have c12b1:decide ((strOfNums y171).size+x5_1.size≤9223372036854775807)=true:=decide_eq_true c12
             try have c12b2:(9223372036854775807<(strOfNums y171).size+x5_1.size)=False:=eq_false (Nat.not_lt.2 c12)
             have H':=z00.mk H;clear H
             go_wp2_with (first|((with_reducible refine z19 (N:=26) rfl ?_);refine Kd.R_lit (Kd.int .u8) _ 5 ?hg (N:=26) ?hd (xs:=([(48+((Int.tmod x0_1 a1) % 256)) % 256]:List Int)) (inner:=[.int .u8 ((48+((Int.tmod x0_1 a1) % 256)) % 256)]) (ok:=fun _=>True) (okp:=fun _=>True) ?hr ?hp (fun _ hk=>hk) trivial (Below.refl _ _) (Nat.le_refl _) (by simp) ?_;(case hd=>rfl);(case hg=>rfl);(case hr=>first|(go_simp;done)|(go_simp;rfl));(case hp=>exact(Reps.one (show Kd.M (Kd.int .u8) _ _ _ ((48+((Int.tmod x0_1 a1) % 256)) % 256) [.int .u8 ((48+((Int.tmod x0_1 a1) % 256)) % 256)]from rfl) (Reps.none _ _)));intro v172 w13 ho14 hb hg_ hnew_;clear hg_ hnew_;(first|rw[←Ny171.out]at ho14|(simp only[Int.reduceToNat]at ho14;rw[←Ny171.out]at ho14));have n0_:=z00.mk (Kd.R_lower ho14 (z0j zA00));have n1_:=z00.mk (z0g zA00 hb);clear HB;have HO173:=n0_;have HB:=n1_;clear n0_ n1_;clear hb ho14;have hcv15:=za4 (P:=Tryz.prog) Tryz.underlying145 Tryz.underlying5 Tryz.underlying9 (Kd.own_of_R HO173.out)))
             go_roundg kj2
             case measure=>have:=HK1.out;have:=HJ2.out;omega
             case rel=>exact⟨(IntKind.u64.wrap (Int.tdiv x0_1 a1)),((strOfNums y171)++x5_1),zA06,zA06,H',⟨by have:=HK1.out;have:=HJ2.out;omega⟩,⟨zA00⟩⟩
           · rw[if_neg c12]at H;exact absurd H (by simp)
     · replace c5:=Bool.eq_false_iff.mpr c5;subst c5;have H1:(some x5_1)=some r:=by rw[if_neg (show ¬(false=true) by decide)]at H;exact H
       clear H;have H:=H1;clear H1;obtain rfl:=Option.some.inj H;go_wp2
       go_ret
       exact⟨by first|rfl|(simp[z0q,z0p] <;> rfl)|(simp[*,z0q,z0p] <;> rfl),by repeat(first|(with_reducible first|exact HB.out|apply z04|apply z02|apply z05)|exact HB.out)⟩

def z0k.l0:Nat→ByteArray→Int→Bool→Int→Option (Int)
 |0,_,_,_,_=>none
 |k+1,x0,x1,x2,x7=>if(wrap64 (x1+x7))<(x0.size:Int)then(if 0≤(wrap64 (x1+x7))then((z16.f (bt x0 (wrap64 (x1+x7)))).bind fun t194=>(if t194=true then(if x2=true then(if(bt x0 (wrap64 (x1+x7)))≥65 then(if((bt x0 (wrap64 (x1+x7)))≤90)then(some x7)else(z0k.l0 k x0 x1 x2 (wrap64 (x7+1))))else(z0k.l0 k x0 x1 x2 (wrap64 (x7+1))))else(z0k.l0 k x0 x1 x2 (wrap64 (x7+1))))else(some x7)))else(none))else(some x7)
def z0k.f (k:Nat) (a0:ByteArray) (a1:Int) (a2:Bool):Option (Int):=z0k.l0 k a0 a1 a2 0
set_option maxHeartbeats 8000000 in
set_option maxRecDepth 100000 in
theorem z0k.calls (k:Nat) (a0:ByteArray) (a1:Int) (a2:Bool) (r:Int) (w:World) (h:z0k.f k a0 a1 a2=some r) :
 Calls Tryz.prog 98 #[.string a0,.int .i64 a1,.bool a2] w fun e w'=>e=.returned (.int .i64 r)∧z0d w w':=by
 have H:(z0k.l0 k a0 a1 a2 0)=some r:=h;clear h;have H':=z00.mk H;clear H;go_enter Tryz.func98,Tryz.ntmps98;go_wp2
 go_loopg [7] k (fun kq v7 w'=>∃(x7_1:Int),v7=.int .i64 x7_1∧z00 (z0k.l0 kq a0 a1 a2 x7_1=some r)∧z00 (kq≤k)∧z0d w w')
 case atStart=>exact⟨(0),zA06,H',⟨Nat.le_refl _⟩,by repeat(first|exact z0d.refl _|apply z0d.step)⟩
 case round =>
  clear H';(try clear p2);obtain⟨x7_1,rfl,HA,HK1,⟨m1,rfl⟩⟩:=hrel
  cases gk with
  |zero=>exact absurd HA.out (by simp[z0k.l0])
  |succ k1 =>
   have H:=HA.out;clear HA;simp only[z0k.l0]at H
   by_cases c4:(wrap64 (a1+x7_1))<(a0.size:Int)
   · rw[if_pos c4]at H;have c4b0:decide ((wrap64 (a1+x7_1))<(a0.size:Int))=true:=decide_eq_true c4;clear c4;obtain⟨ji5,hji5⟩:∃j_:Int,(wrap64 (a1+x7_1))=j_:=⟨_,rfl⟩
     replace H:(if 0≤(ji5)then((z16.f (bt a0 (ji5))).bind fun t194=>(if t194=true then(if a2=true then(if(bt a0 (ji5))≥65 then(if((bt a0 (ji5))≤90)then(some x7_1)else(z0k.l0 k1 a0 a1 a2 (wrap64 (x7_1+1))))else(z0k.l0 k1 a0 a1 a2 (wrap64 (x7_1+1))))else(z0k.l0 k1 a0 a1 a2 (wrap64 (x7_1+1))))else(some x7_1)))else(none))=some r:=by first|(rw[hji5]at H;exact H)|(simp only[hji5]at H ⊢;exact H)
     (try rw[hji5]at c4b0)
     have hji5w:(IntKind.i64.wrap (a1+x7_1))=ji5:=(i64_w _).trans hji5
     by_cases c6:0≤(ji5)
     · rw[if_pos c6]at H;have c6b0:decide (0≤(ji5))=true:=decide_eq_true c6;clear c6;replace H:=Option.bind_eq_some_iff.mp H;obtain⟨t194,A80,H⟩:=H;replace H:(if t194=true then(if a2=true then(if(bt a0 (ji5))≥65 then(if((bt a0 (ji5))≤90)then(some x7_1)else(z0k.l0 k1 a0 a1 a2 (wrap64 (x7_1+1))))else(z0k.l0 k1 a0 a1 a2 (wrap64 (x7_1+1))))else(z0k.l0 k1 a0 a1 a2 (wrap64 (x7_1+1))))else(some x7_1))=some r:=H;have A8:=z00.mk A80;clear A80
       by_cases c9:t194=true
       · subst c9;have H1:(if a2=true then(if(bt a0 (ji5))≥65 then(if((bt a0 (ji5))≤90)then(some x7_1)else(z0k.l0 k1 a0 a1 a2 (wrap64 (x7_1+1))))else(z0k.l0 k1 a0 a1 a2 (wrap64 (x7_1+1))))else(z0k.l0 k1 a0 a1 a2 (wrap64 (x7_1+1))))=some r:=by rw[if_pos rfl]at H;exact H
         clear H;have H:=H1;clear H1
         by_cases c10:a2=true
         · subst c10;have H1:(if(bt a0 (ji5))≥65 then(if((bt a0 (ji5))≤90)then(some x7_1)else(z0k.l0 k1 a0 a1 true (wrap64 (x7_1+1))))else(z0k.l0 k1 a0 a1 true (wrap64 (x7_1+1))))=some r:=by rw[if_pos rfl]at H;exact H
           clear H;have H:=H1;clear H1
           by_cases c12:(bt a0 (ji5))≥65
           · rw[if_pos c12]at H;have c12b0:decide (65≤(bt a0 (ji5)))=true:=decide_eq_true c12;clear c12
             by_cases c14:((bt a0 (ji5))≤90)
             · rw[if_pos c14]at H;have c14b0:decide ((bt a0 (ji5))≤90)=true:=decide_eq_true c14;clear c14;obtain rfl:=Option.some.inj H;have p7:0≤((ji5):Int):=of_decide_eq_true zA01;have q7:(ji5)<(a0.size:Int):=of_decide_eq_true zA01;have hx7:=bt_at a0 (ji5);replace p7:=eq_true p7;replace q7:=eq_true q7
               go_wp2_with (first|(go_at_call 131;(with_reducible refine(z16.calls (bt a0 (ji5)) true _ A8.out).mono ?_);rintro e w' ⟨rfl,⟨nd,rfl⟩⟩;have p11:0≤((ji5):Int):=of_decide_eq_true zA01;have q11:(ji5)<(a0.size:Int):=of_decide_eq_true zA01;have hx11:=bt_at a0 (ji5);replace p11:=eq_true p11;replace q11:=eq_true q11;have p13:0≤((ji5):Int):=of_decide_eq_true zA01;have q13:(ji5)<(a0.size:Int):=of_decide_eq_true zA01;have hx13:=bt_at a0 (ji5);replace p13:=eq_true p13;replace q13:=eq_true q13))
               go_ret
               exact⟨by first|rfl|(simp;done)|(simp only[←hji5] <;> (first|rfl|simp))|(simp[*];done),by repeat(first|exact z0d.refl _|apply z0d.step)⟩
             · rw[if_neg c14]at H;have c14b0:decide ((bt a0 (ji5))≤90)=false:=decide_eq_false c14;clear c14;have H':=z00.mk H;clear H;have p7:0≤((ji5):Int):=of_decide_eq_true zA01;have q7:(ji5)<(a0.size:Int):=of_decide_eq_true zA01;have hx7:=bt_at a0 (ji5);replace p7:=eq_true p7;replace q7:=eq_true q7
               go_wp2_with (first|(go_at_call 131;(with_reducible refine(z16.calls (bt a0 (ji5)) true _ A8.out).mono ?_);rintro e w' ⟨rfl,⟨nd,rfl⟩⟩;have p11:0≤((ji5):Int):=of_decide_eq_true zA01;have q11:(ji5)<(a0.size:Int):=of_decide_eq_true zA01;have hx11:=bt_at a0 (ji5);replace p11:=eq_true p11;replace q11:=eq_true q11;have p13:0≤((ji5):Int):=of_decide_eq_true zA01;have q13:(ji5)<(a0.size:Int):=of_decide_eq_true zA01;have hx13:=bt_at a0 (ji5);replace p13:=eq_true p13;replace q13:=eq_true q13))
               go_roundg k1
               case measure=>have:=HK1.out;omega
               case rel=>exact⟨(wrap64 (x7_1+1)),zA06,H',⟨zA1b⟩,by repeat(first|exact z0d.refl _|apply z0d.step)⟩
           · rw[if_neg c12]at H;have c12b0:decide (65≤(bt a0 (ji5)))=false:=decide_eq_false c12;clear c12;have H':=z00.mk H;clear H;have p7:0≤((ji5):Int):=of_decide_eq_true zA01;have q7:(ji5)<(a0.size:Int):=of_decide_eq_true zA01;have hx7:=bt_at a0 (ji5);replace p7:=eq_true p7;replace q7:=eq_true q7
             go_wp2_with (first|(go_at_call 131;(with_reducible refine(z16.calls (bt a0 (ji5)) true _ A8.out).mono ?_);rintro e w' ⟨rfl,⟨nd,rfl⟩⟩;have p11:0≤((ji5):Int):=of_decide_eq_true zA01;have q11:(ji5)<(a0.size:Int):=of_decide_eq_true zA01;have hx11:=bt_at a0 (ji5);replace p11:=eq_true p11;replace q11:=eq_true q11))
             go_roundg k1
             case measure=>have:=HK1.out;omega
             case rel=>exact⟨(wrap64 (x7_1+1)),zA06,H',⟨zA1b⟩,by repeat(first|exact z0d.refl _|apply z0d.step)⟩
         · replace c10:=Bool.eq_false_iff.mpr c10;subst c10;have H1:(z0k.l0 k1 a0 a1 false (wrap64 (x7_1+1)))=some r:=by rw[if_neg (show ¬(false=true) by decide)]at H;exact H
           clear H;have H:=H1;clear H1;have H':=z00.mk H;clear H;have p7:0≤((ji5):Int):=of_decide_eq_true zA01;have q7:(ji5)<(a0.size:Int):=of_decide_eq_true zA01;have hx7:=bt_at a0 (ji5);replace p7:=eq_true p7;replace q7:=eq_true q7
           go_wp2_with (first|(go_at_call 131;(with_reducible refine(z16.calls (bt a0 (ji5)) true _ A8.out).mono ?_);rintro e w' ⟨rfl,⟨nd,rfl⟩⟩))
           go_roundg k1
           case measure=>have:=HK1.out;omega
           case rel=>exact⟨(wrap64 (x7_1+1)),zA06,H',⟨zA1b⟩,by repeat(first|exact z0d.refl _|apply z0d.step)⟩
       · replace c9:=Bool.eq_false_iff.mpr c9;subst c9;have H1:(some x7_1)=some r:=by rw[if_neg (show ¬(false=true) by decide)]at H;exact H
         clear H;have H:=H1;clear H1;obtain rfl:=Option.some.inj H;have p7:0≤((ji5):Int):=of_decide_eq_true zA01;have q7:(ji5)<(a0.size:Int):=of_decide_eq_true zA01;have hx7:=bt_at a0 (ji5);replace p7:=eq_true p7;replace q7:=eq_true q7
         go_wp2_with (first|(go_at_call 131;(with_reducible refine(z16.calls (bt a0 (ji5)) false _ A8.out).mono ?_);rintro e w' ⟨rfl,⟨nd,rfl⟩⟩))
         go_ret
         exact⟨by first|rfl|(simp;done)|(simp only[←hji5] <;> (first|rfl|simp))|(simp[*];done),by repeat(first|exact z0d.refl _|apply z0d.step)⟩
     · rw[if_neg c6]at H;exact absurd H (by simp)
   · rw[if_neg c4]at H;have c4b0:decide ((wrap64 (a1+x7_1))<(a0.size:Int))=false:=decide_eq_false c4;clear c4;obtain rfl:=Option.some.inj H;go_wp2
     go_ret
     exact⟨by first|rfl|(simp;done)|(simp[*];done),by repeat(first|exact z0d.refl _|apply z0d.step)⟩
mutual
def z0m.j0:Nat→ByteArray→Int→ByteArray→Option (Int)
 |0,_,_,_=>none
 |k+1,x0,x1,x5=>if x5.toList=([60,61]:List UInt8)then(z0m.j1 k x0 x1 true)else(if x5.toList=([33,61]:List UInt8)then(z0m.j1 k x0 x1 true)else(if x5.toList=([58,45]:List UInt8)then(z0m.j1 k x0 x1 true)else(z0m.j1 k x0 x1 (x5.toList==([63,45]:List UInt8)))))
def z0m.j1:Nat→ByteArray→Int→Bool→Option (Int)
 |0,_,_,_=>none
 |k+1,x0,x1,x30=>if x30=true then(some 2)else(if 0≤x1 then(if x1<(x0.size:Int)then(if(bt x0 x1)=40 then(some 1)else(if(bt x0 x1)=41 then(some 1)else(if(bt x0 x1)=44 then(some 1)else(if(bt x0 x1)=46 then(some 1)else(if(bt x0 x1)=60 then(some 1)else(if(bt x0 x1)=61 then(some 1)else(if(bt x0 x1)=47 then(some 1)else(if(bt x0 x1)=124 then(some 1)else(if(bt x0 x1)=42 then(some 1)else(if(bt x0 x1)=43 then(some 1)else(if(bt x0 x1)=63 then(some 1)else(if(bt x0 x1)=94 then(some 1)else(some 0)))))))))))))else(none))else(none))
end
def z0m.f (k:Nat) (a0:ByteArray) (a1:Int):Option (Int):=if(wrap64 (a1+2))≤(a0.size:Int)then(if 0≤a1 then(if a1≤(wrap64 (a1+2))then(z0m.j0 k a0 a1 (a0.extract (a1:Int).toNat ((wrap64 (a1+2)):Int).toNat))else(none))else(none))else(z0m.j0 k a0 a1 (⟨#[]⟩:ByteArray))
set_option maxHeartbeats 8000000 in
set_option maxRecDepth 100000 in
theorem z0m.calls (k:Nat) (a0:ByteArray) (a1:Int) (r:Int) (w:World) (h:z0m.f k a0 a1=some r) :
 Calls Tryz.prog 102 #[.string a0,.int .i64 a1] w fun e w'=>e=.returned (.int .i64 r)∧z0d w w':=by
 have H:(if(wrap64 (a1+2))≤(a0.size:Int)then(if 0≤a1 then(if a1≤(wrap64 (a1+2))then(z0m.j0 k a0 a1 (a0.extract (a1:Int).toNat ((wrap64 (a1+2)):Int).toNat))else(none))else(none))else(z0m.j0 k a0 a1 (⟨#[]⟩:ByteArray)))=some r:=h;clear h;have HC3:=z00.mk H;clear H;go_enter Tryz.func102,Tryz.ntmps102
 go_upto_if 11 with (fail)
 go_cut [5] (fun v5 wc=>∃(kq:Nat) (x5_2:ByteArray),v5=.string x5_2∧z00 (z0m.j0 kq a0 a1 x5_2=some r)∧z00 (kq≤k)∧z0d w wc)
 case first =>
  have H:=HC3.out;clear HC3
  by_cases c4:(wrap64 (a1+2))≤(a0.size:Int)
  · rw[if_pos c4]at H;have c4b0:decide ((wrap64 (a1+2))≤(a0.size:Int))=true:=decide_eq_true c4;clear c4
    (first|rw[c4b0]|(simp only[i64_w,i32_w];rw[c4b0])|skip)
    by_cases c5:0≤a1
    · rw[if_pos c5]at H;have c5b0:=eq_true c5;have c5b1:decide (0≤a1)=true:=decide_eq_true c5;clear c5
      by_cases c6:a1≤(wrap64 (a1+2))
      · rw[if_pos c6]at H;have c6b0:=eq_true c6;have c6b1:decide (a1≤(wrap64 (a1+2)))=true:=decide_eq_true c6;have c7b0:=eq_true (of_decide_eq_true zA01:(wrap64 (a1+2))≤(a0.size:Int));have H':=z00.mk H;clear H;go_wp2;go_meet
        case rel=>exact⟨_,(a0.extract (a1:Int).toNat ((wrap64 (a1+2)):Int).toNat),zA06,H',⟨zA0m⟩,by repeat(first|exact z0d.refl _|apply z0d.step)⟩
      · rw[if_neg c6]at H;exact absurd H (by simp)
    · rw[if_neg c5]at H;exact absurd H (by simp)
  · rw[if_neg c4]at H;have c4b0:decide ((wrap64 (a1+2))≤(a0.size:Int))=false:=decide_eq_false c4;clear c4
    (first|rw[c4b0]|(simp only[i64_w,i32_w];rw[c4b0])|skip)
    have H':=z00.mk H;clear H;go_wp2;go_meet
    case rel=>exact⟨_,((⟨#[]⟩:ByteArray)),zA06,H',⟨zA0m⟩,by repeat(first|exact z0d.refl _|apply z0d.step)⟩
 case rest =>
  clear HC3;(try clear c1);(try clear p2);(try clear c4);(try clear c4b0);(try clear c5);(try clear c5b0);(try clear c5b1);(try clear c6);(try clear c6b0);(try clear c6b1);(try clear p6);(try clear c7);(try clear c7b0);obtain⟨kq,x5_2,rfl,HA,HJ2,⟨mc2,rfl⟩⟩:=hcut
  cases kq with
  |zero=>exact absurd HA.out (by simp[z0m.j0])
  |succ kj2 =>
   have H:=HA.out;clear HA;simp only[z0m.j0]at H;have HC8:=z00.mk H;clear H
   go_upto_region 4 with (fail)
   go_cut [30] (fun v30 wc=>∃(kq:Nat) (x30_7:Bool),v30=.bool x30_7∧z00 (z0m.j1 kq a0 a1 x30_7=some r)∧z00 (kq≤kj2)∧z0d w wc)
   case first =>
    have H:=HC8.out;clear HC8
    by_cases c9:x5_2.toList=([60,61]:List UInt8)
    · rw[if_pos c9]at H;have c9b0:(x5_2.toList==([60,61]:List UInt8))=true:=beq_iff_eq.mpr c9;have c9b1:(x5_2.toList !=([60,61]:List UInt8))=false:=bne_eq_false_iff_eq.mpr c9;clear c9
      (first|rw[c9b0]|(simp only[i64_w,i32_w];rw[c9b0])|skip)
      have H':=z00.mk H;clear H;go_wp2;go_meet
      case rel=>exact⟨_,(true),zA06,H',⟨zA19⟩,by repeat(first|exact z0d.refl _|apply z0d.step)⟩
    · rw[if_neg c9]at H;have c9b0:(x5_2.toList==([60,61]:List UInt8))=false:=beq_eq_false_iff_ne.mpr c9;have c9b1:(x5_2.toList !=([60,61]:List UInt8))=true:=bne_iff_ne.mpr c9
      (first|rw[c9b0]|(simp only[i64_w,i32_w];rw[c9b0])|skip)
      by_cases c10:x5_2.toList=([33,61]:List UInt8)
      · rw[if_pos c10]at H;have c10b0:(x5_2.toList==([33,61]:List UInt8))=true:=beq_iff_eq.mpr c10;have c10b1:(x5_2.toList !=([33,61]:List UInt8))=false:=bne_eq_false_iff_eq.mpr c10;clear c10;have H':=z00.mk H;clear H;go_wp2;go_meet
        case rel=>exact⟨_,(true),zA06,H',⟨zA19⟩,by repeat(first|exact z0d.refl _|apply z0d.step)⟩
      · rw[if_neg c10]at H;have c10b0:(x5_2.toList==([33,61]:List UInt8))=false:=beq_eq_false_iff_ne.mpr c10;have c10b1:(x5_2.toList !=([33,61]:List UInt8))=true:=bne_iff_ne.mpr c10
        by_cases c11:x5_2.toList=([58,45]:List UInt8)
        · rw[if_pos c11]at H;have c11b0:(x5_2.toList==([58,45]:List UInt8))=true:=beq_iff_eq.mpr c11;have c11b1:(x5_2.toList !=([58,45]:List UInt8))=false:=bne_eq_false_iff_eq.mpr c11;clear c11;have H':=z00.mk H;clear H;go_wp2;go_meet
          case rel=>exact⟨_,(true),zA06,H',⟨zA19⟩,by repeat(first|exact z0d.refl _|apply z0d.step)⟩
        · rw[if_neg c11]at H;have c11b0:(x5_2.toList==([58,45]:List UInt8))=false:=beq_eq_false_iff_ne.mpr c11;have c11b1:(x5_2.toList !=([58,45]:List UInt8))=true:=bne_iff_ne.mpr c11;have H':=z00.mk H;clear H;go_wp2;go_meet
          case rel=>exact⟨_,((x5_2.toList==([63,45]:List UInt8))),zA06,H',⟨zA19⟩,by repeat(first|exact z0d.refl _|apply z0d.step)⟩
   case rest =>
    clear HC8;(try clear c1);(try clear c2);(try clear p2);(try clear c4);(try clear c4b0);(try clear c5);(try clear c5b0);(try clear c5b1);(try clear c6);(try clear c6b0);(try clear c6b1);(try clear p6);(try clear c7);(try clear c7b0);(try clear c9);(try clear c9b0);(try clear c9b1);(try clear c10);(try clear c10b0);(try clear c10b1);(try clear c11);(try clear c11b0);(try clear c11b1);(try clear p2);(try clear p6);obtain⟨kq,x30_7,rfl,HA,HJ7,⟨mc7,rfl⟩⟩:=hcut
    cases kq with
    |zero=>exact absurd HA.out (by simp[z0m.j1])
    |succ kj7 =>
     have H:=HA.out;clear HA;simp only[z0m.j1]at H
     by_cases c12:x30_7=true
     · subst c12;have H1:(some 2)=some r:=by rw[if_pos rfl]at H;exact H
       clear H;have H:=H1;clear H1;obtain rfl:=Option.some.inj H;go_wp2
       go_ret
       exact⟨by first|rfl|(simp;done)|(simp[*];done),by repeat(first|exact z0d.refl _|apply z0d.step)⟩
     · replace c12:=Bool.eq_false_iff.mpr c12;subst c12;have H1:(if 0≤a1 then(if a1<(a0.size:Int)then(if(bt a0 a1)=40 then(some 1)else(if(bt a0 a1)=41 then(some 1)else(if(bt a0 a1)=44 then(some 1)else(if(bt a0 a1)=46 then(some 1)else(if(bt a0 a1)=60 then(some 1)else(if(bt a0 a1)=61 then(some 1)else(if(bt a0 a1)=47 then(some 1)else(if(bt a0 a1)=124 then(some 1)else(if(bt a0 a1)=42 then(some 1)else(if(bt a0 a1)=43 then(some 1)else(if(bt a0 a1)=63 then(some 1)else(if(bt a0 a1)=94 then(some 1)else(some 0)))))))))))))else(none))else(none))=some r:=by rw[if_neg (show ¬(false=true) by decide)]at H;exact H
       clear H;have H:=H1;clear H1
       by_cases c13:0≤a1
       · rw[if_pos c13]at H;have c13b0:decide (0≤a1)=true:=decide_eq_true c13;clear c13
         by_cases c14:a1<(a0.size:Int)
         · rw[if_pos c14]at H;have c14b0:decide (a1<(a0.size:Int))=true:=decide_eq_true c14;clear c14
           by_cases c16:(bt a0 a1)=40
           · rw[if_pos c16]at H;have c16b0:((bt a0 a1)==40)=true:=beq_iff_eq.mpr c16;have c16b1:((bt a0 a1) !=40)=false:=bne_eq_false_iff_eq.mpr c16;clear c16;obtain rfl:=Option.some.inj H;have p15:0≤(a1:Int):=of_decide_eq_true zA01;have q15:a1<(a0.size:Int):=of_decide_eq_true zA01;have hx15:=bt_at a0 a1;replace p15:=eq_true p15;replace q15:=eq_true q15;go_wp2
             go_ret
             exact⟨by first|rfl|(simp;done)|(simp[*];done),by repeat(first|exact z0d.refl _|apply z0d.step)⟩
           · rw[if_neg c16]at H;have c16b0:((bt a0 a1)==40)=false:=beq_eq_false_iff_ne.mpr c16;have c16b1:((bt a0 a1) !=40)=true:=bne_iff_ne.mpr c16
             by_cases c17:(bt a0 a1)=41
             · rw[if_pos c17]at H;have c17b0:((bt a0 a1)==41)=true:=beq_iff_eq.mpr c17;have c17b1:((bt a0 a1) !=41)=false:=bne_eq_false_iff_eq.mpr c17;clear c17;obtain rfl:=Option.some.inj H;have p15:0≤(a1:Int):=of_decide_eq_true zA01;have q15:a1<(a0.size:Int):=of_decide_eq_true zA01;have hx15:=bt_at a0 a1;replace p15:=eq_true p15;replace q15:=eq_true q15;go_wp2
               go_ret
               exact⟨by first|rfl|(simp;done)|(simp[*];done),by repeat(first|exact z0d.refl _|apply z0d.step)⟩
             · rw[if_neg c17]at H;have c17b0:((bt a0 a1)==41)=false:=beq_eq_false_iff_ne.mpr c17;have c17b1:((bt a0 a1) !=41)=true:=bne_iff_ne.mpr c17
               by_cases c18:(bt a0 a1)=44
               · rw[if_pos c18]at H;have c18b0:((bt a0 a1)==44)=true:=beq_iff_eq.mpr c18;have c18b1:((bt a0 a1) !=44)=false:=bne_eq_false_iff_eq.mpr c18;clear c18;obtain rfl:=Option.some.inj H;have p15:0≤(a1:Int):=of_decide_eq_true zA01;have q15:a1<(a0.size:Int):=of_decide_eq_true zA01;have hx15:=bt_at a0 a1;replace p15:=eq_true p15;replace q15:=eq_true q15;go_wp2
                 go_ret
                 exact⟨by first|rfl|(simp;done)|(simp[*];done),by repeat(first|exact z0d.refl _|apply z0d.step)⟩
               · rw[if_neg c18]at H;have c18b0:((bt a0 a1)==44)=false:=beq_eq_false_iff_ne.mpr c18;have c18b1:((bt a0 a1) !=44)=true:=bne_iff_ne.mpr c18
                 by_cases c19:(bt a0 a1)=46
                 · rw[if_pos c19]at H;have c19b0:((bt a0 a1)==46)=true:=beq_iff_eq.mpr c19;have c19b1:((bt a0 a1) !=46)=false:=bne_eq_false_iff_eq.mpr c19;clear c19;obtain rfl:=Option.some.inj H;have p15:0≤(a1:Int):=of_decide_eq_true zA01;have q15:a1<(a0.size:Int):=of_decide_eq_true zA01;have hx15:=bt_at a0 a1;replace p15:=eq_true p15;replace q15:=eq_true q15;go_wp2
                   go_ret
                   exact⟨by first|rfl|(simp;done)|(simp[*];done),by repeat(first|exact z0d.refl _|apply z0d.step)⟩
                 · rw[if_neg c19]at H;have c19b0:((bt a0 a1)==46)=false:=beq_eq_false_iff_ne.mpr c19;have c19b1:((bt a0 a1) !=46)=true:=bne_iff_ne.mpr c19
                   by_cases c20:(bt a0 a1)=60
                   · rw[if_pos c20]at H;have c20b0:((bt a0 a1)==60)=true:=beq_iff_eq.mpr c20;have c20b1:((bt a0 a1) !=60)=false:=bne_eq_false_iff_eq.mpr c20;clear c20;obtain rfl:=Option.some.inj H;have p15:0≤(a1:Int):=of_decide_eq_true zA01;have q15:a1<(a0.size:Int):=of_decide_eq_true zA01;have hx15:=bt_at a0 a1;replace p15:=eq_true p15;replace q15:=eq_true q15;go_wp2
                     go_ret
                     exact⟨by first|rfl|(simp;done)|(simp[*];done),by repeat(first|exact z0d.refl _|apply z0d.step)⟩
                   · rw[if_neg c20]at H;have c20b0:((bt a0 a1)==60)=false:=beq_eq_false_iff_ne.mpr c20;have c20b1:((bt a0 a1) !=60)=true:=bne_iff_ne.mpr c20
                     by_cases c21:(bt a0 a1)=61
                     · rw[if_pos c21]at H;have c21b0:((bt a0 a1)==61)=true:=beq_iff_eq.mpr c21;have c21b1:((bt a0 a1) !=61)=false:=bne_eq_false_iff_eq.mpr c21;clear c21;obtain rfl:=Option.some.inj H;have p15:0≤(a1:Int):=of_decide_eq_true zA01;have q15:a1<(a0.size:Int):=of_decide_eq_true zA01;have hx15:=bt_at a0 a1;replace p15:=eq_true p15;replace q15:=eq_true q15;go_wp2
                       go_ret
                       exact⟨by first|rfl|(simp;done)|(simp[*];done),by repeat(first|exact z0d.refl _|apply z0d.step)⟩
                     · rw[if_neg c21]at H;have c21b0:((bt a0 a1)==61)=false:=beq_eq_false_iff_ne.mpr c21;have c21b1:((bt a0 a1) !=61)=true:=bne_iff_ne.mpr c21
                       by_cases c22:(bt a0 a1)=47
                       · rw[if_pos c22]at H;have c22b0:((bt a0 a1)==47)=true:=beq_iff_eq.mpr c22;have c22b1:((bt a0 a1) !=47)=false:=bne_eq_false_iff_eq.mpr c22;clear c22;obtain rfl:=Option.some.inj H;have p15:0≤(a1:Int):=of_decide_eq_true zA01;have q15:a1<(a0.size:Int):=of_decide_eq_true zA01;have hx15:=bt_at a0 a1;replace p15:=eq_true p15;replace q15:=eq_true q15;go_wp2
                         go_ret
                         exact⟨by first|rfl|(simp;done)|(simp[*];done),by repeat(first|exact z0d.refl _|apply z0d.step)⟩
                       · rw[if_neg c22]at H;have c22b0:((bt a0 a1)==47)=false:=beq_eq_false_iff_ne.mpr c22;have c22b1:((bt a0 a1) !=47)=true:=bne_iff_ne.mpr c22
                         by_cases c23:(bt a0 a1)=124
                         · rw[if_pos c23]at H;have c23b0:((bt a0 a1)==124)=true:=beq_iff_eq.mpr c23;have c23b1:((bt a0 a1) !=124)=false:=bne_eq_false_iff_eq.mpr c23;clear c23;obtain rfl:=Option.some.inj H;have p15:0≤(a1:Int):=of_decide_eq_true zA01;have q15:a1<(a0.size:Int):=of_decide_eq_true zA01;have hx15:=bt_at a0 a1;replace p15:=eq_true p15;replace q15:=eq_true q15;go_wp2
                           go_ret
                           exact⟨by first|rfl|(simp;done)|(simp[*];done),by repeat(first|exact z0d.refl _|apply z0d.step)⟩
                         · rw[if_neg c23]at H;have c23b0:((bt a0 a1)==124)=false:=beq_eq_false_iff_ne.mpr c23;have c23b1:((bt a0 a1) !=124)=true:=bne_iff_ne.mpr c23
                           by_cases c24:(bt a0 a1)=42
                           · rw[if_pos c24]at H;have c24b0:((bt a0 a1)==42)=true:=beq_iff_eq.mpr c24;have c24b1:((bt a0 a1) !=42)=false:=bne_eq_false_iff_eq.mpr c24;clear c24;obtain rfl:=Option.some.inj H;have p15:0≤(a1:Int):=of_decide_eq_true zA01;have q15:a1<(a0.size:Int):=of_decide_eq_true zA01;have hx15:=bt_at a0 a1;replace p15:=eq_true p15;replace q15:=eq_true q15;go_wp2
                             go_ret
                             exact⟨by first|rfl|(simp;done)|(simp[*];done),by repeat(first|exact z0d.refl _|apply z0d.step)⟩
                           · rw[if_neg c24]at H;have c24b0:((bt a0 a1)==42)=false:=beq_eq_false_iff_ne.mpr c24;have c24b1:((bt a0 a1) !=42)=true:=bne_iff_ne.mpr c24
                             by_cases c25:(bt a0 a1)=43
                             · rw[if_pos c25]at H;have c25b0:((bt a0 a1)==43)=true:=beq_iff_eq.mpr c25;have c25b1:((bt a0 a1) !=43)=false:=bne_eq_false_iff_eq.mpr c25;clear c25;obtain rfl:=Option.some.inj H;have p15:0≤(a1:Int):=of_decide_eq_true zA01;have q15:a1<(a0.size:Int):=of_decide_eq_true zA01;have hx15:=bt_at a0 a1;replace p15:=eq_true p15;replace q15:=eq_true q15;go_wp2
                               go_ret
                               exact⟨by first|rfl|(simp;done)|(simp[*];done),by repeat(first|exact z0d.refl _|apply z0d.step)⟩
                             · rw[if_neg c25]at H;have c25b0:((bt a0 a1)==43)=false:=beq_eq_false_iff_ne.mpr c25;have c25b1:((bt a0 a1) !=43)=true:=bne_iff_ne.mpr c25
                               by_cases c26:(bt a0 a1)=63
                               · rw[if_pos c26]at H;have c26b0:((bt a0 a1)==63)=true:=beq_iff_eq.mpr c26;have c26b1:((bt a0 a1) !=63)=false:=bne_eq_false_iff_eq.mpr c26;clear c26;obtain rfl:=Option.some.inj H;have p15:0≤(a1:Int):=of_decide_eq_true zA01;have q15:a1<(a0.size:Int):=of_decide_eq_true zA01;have hx15:=bt_at a0 a1;replace p15:=eq_true p15;replace q15:=eq_true q15;go_wp2
                                 go_ret
                                 exact⟨by first|rfl|(simp;done)|(simp[*];done),by repeat(first|exact z0d.refl _|apply z0d.step)⟩
                               · rw[if_neg c26]at H;have c26b0:((bt a0 a1)==63)=false:=beq_eq_false_iff_ne.mpr c26;have c26b1:((bt a0 a1) !=63)=true:=bne_iff_ne.mpr c26
                                 by_cases c27:(bt a0 a1)=94
                                 · rw[if_pos c27]at H;have c27b0:((bt a0 a1)==94)=true:=beq_iff_eq.mpr c27;have c27b1:((bt a0 a1) !=94)=false:=bne_eq_false_iff_eq.mpr c27;clear c27;obtain rfl:=Option.some.inj H;have p15:0≤(a1:Int):=of_decide_eq_true zA01;have q15:a1<(a0.size:Int):=of_decide_eq_true zA01;have hx15:=bt_at a0 a1;replace p15:=eq_true p15;replace q15:=eq_true q15;go_wp2
                                   go_ret
                                   exact⟨by first|rfl|(simp;done)|(simp[*];done),by repeat(first|exact z0d.refl _|apply z0d.step)⟩
                                 · rw[if_neg c27]at H;have c27b0:((bt a0 a1)==94)=false:=beq_eq_false_iff_ne.mpr c27;have c27b1:((bt a0 a1) !=94)=true:=bne_iff_ne.mpr c27;obtain rfl:=Option.some.inj H;have p15:0≤(a1:Int):=of_decide_eq_true zA01;have q15:a1<(a0.size:Int):=of_decide_eq_true zA01;have hx15:=bt_at a0 a1;replace p15:=eq_true p15;replace q15:=eq_true q15;go_wp2
                                   go_ret
                                   exact⟨by first|rfl|(simp;done)|(simp[*];done),by repeat(first|exact z0d.refl _|apply z0d.step)⟩
         · rw[if_neg c14]at H;exact absurd H (by simp)
       · rw[if_neg c13]at H;exact absurd H (by simp)
def IsS95 (w0 W:World) (g:Nat) (f0:List (S53)) (f1:Int) (f2:Int) (f3:Int) (f4:Int):Prop:=∃A0 c0,W.heap[g]?=some (.cells #[.slice A0 f0.length c0,.int .i64 f1,.int .i64 f2,.int .i64 f3,.int .i64 f4] 95 (0,0))∧w0.heap.size≤g∧Kd.C k53 w0 A0 f0.length f0
def z40.f (s0_0:List (S53)) (s0_1:Int) (s0_2:Int) (s0_3:Int) (s0_4:Int) (a1:Int):Option (Int × ByteArray × Int × Int × Int × Int):=if s0_3=0 then(if(wrap64 (s0_1+a1))≥(s0_0.length:Int)then(some (0,(⟨#[]⟩:ByteArray),s0_1,s0_2,s0_3,s0_4))else(if 0≤(wrap64 (s0_1+a1))then(if(wrap64 (s0_1+a1))<(s0_0.length:Int)then(some ((z66 s0_0 (wrap64 (s0_1+a1))).f0,(z66 s0_0 (wrap64 (s0_1+a1))).f1,s0_1,s0_2,s0_3,s0_4))else(none))else(none)))else(some (0,(⟨#[]⟩:ByteArray),s0_1,s0_2,s0_3,s0_4))

def z1n.f (s0_0:List (S53)) (s0_1:Int) (s0_2:Int) (s0_3:Int) (s0_4:Int) (a1:Int) (a2:Int) (a3:ByteArray):Option (Bool × Int × Int × Int × Int):=(z40.f s0_0 s0_1 s0_2 s0_3 s0_4 a1).bind fun bt267=>(if bt267.1=a2 then(some ((bt267.2.1.toList==a3.toList),bt267.2.2.1,bt267.2.2.2.1,bt267.2.2.2.2.1,bt267.2.2.2.2.2))else(some (false,bt267.2.2.1,bt267.2.2.2.1,bt267.2.2.2.2.1,bt267.2.2.2.2.2)))
def z2x.f (s0_0:List (S53)) (s0_1:Int) (s0_2:Int) (s0_3:Int) (s0_4:Int) (a1:Int) (a2:Int):Option (Int × Int × Int × Int):=if s0_3=0 then(some (s0_1,s0_2,a1,a2))else(some (s0_1,s0_2,s0_3,s0_4))
def z38.f (s0_0:List (S53)) (s0_1:Int) (s0_2:Int) (s0_3:Int) (s0_4:Int):Option (Int × Int × Int × Int × Int):=if s0_1<(s0_0.length:Int)then(if 0≤s0_1 then(some ((z66 s0_0 s0_1).f2,s0_1,s0_2,s0_3,s0_4))else(none))else(some (s0_2,s0_1,s0_2,s0_3,s0_4))
def z4v.f (s0_0:List (S53)) (s0_1:Int) (s0_2:Int) (s0_3:Int) (s0_4:Int) (a1:ByteArray):Option (Int × Int × Int × Int):=(z1n.f s0_0 s0_1 s0_2 s0_3 s0_4 0 4 a1).bind fun bt274=>(if bt274.1=true then(some (wrap64 (bt274.2.1+1),bt274.2.2.1,bt274.2.2.2.1,bt274.2.2.2.2))else((z38.f s0_0 bt274.2.1 bt274.2.2.1 bt274.2.2.2.1 bt274.2.2.2.2).bind fun bt279=>((z2x.f s0_0 bt279.2.1 bt279.2.2.1 bt279.2.2.2.1 bt279.2.2.2.2 2 bt279.1).bind fun bt284=>(some (bt284.1,bt284.2.1,bt284.2.2.1,bt284.2.2.2)))))
def z1t.j0:Nat→ByteArray→Bool→List (S53)→Int→Int→Int→Int→Option (ByteArray × Int × Int × Int × Int)
 |0,_,_,_,_,_,_,_=>none
 |k+1,x4,x15,x1000,x1001,x1002,x1003,x1004=>if x15=true then((z38.f x1000 x1001 x1002 x1003 x1004).bind fun bt301=>((z2x.f x1000 bt301.2.1 bt301.2.2.1 bt301.2.2.2.1 bt301.2.2.2.2 2 bt301.1).bind fun bt306=>(some ((⟨#[]⟩:ByteArray),bt306.1,bt306.2.1,bt306.2.2.1,bt306.2.2.2))))else(some (x4,wrap64 (x1001+1),x1002,x1003,x1004))
def z1t.f (k:Nat) (s0_0:List (S53)) (s0_1:Int) (s0_2:Int) (s0_3:Int) (s0_4:Int):Option (ByteArray × Int × Int × Int × Int):=(z40.f s0_0 s0_1 s0_2 s0_3 s0_4 0).bind fun bt294=>(if bt294.1=1 then((z3i.f k bt294.2.1).bind fun t300=>(z1t.j0 k bt294.2.1 t300 s0_0 bt294.2.2.1 bt294.2.2.2.1 bt294.2.2.2.2.1 bt294.2.2.2.2.2))else(z1t.j0 k bt294.2.1 true s0_0 bt294.2.2.1 bt294.2.2.2.1 bt294.2.2.2.2.1 bt294.2.2.2.2.2))
def z6i.l0:Nat→ByteArray→List ByteArray→Int→Int→Option (Int)
 |0,_,_,_,_=>none
 |k+1,x0,x3,x7,x8=>if x8<x7 then(if 0≤x8 then(if x8<(x3.length:Int)then(if(rdOf ByteArray.empty x3 x8).toList=x0.toList then(some (wrap64 (x8+1)))else(z6i.l0 k x0 x3 x7 (wrap64 (x8+1))))else(none))else(none))else(some 0)

abbrev PFT:=Nat→List S53→Int→Int→Int→Int→Int→Option (List S69 × Int × Int × Int × Int)
mutual
def z12.j0 (PF:PFT):Nat→List (S69)→List (S53)→Int→Int→Int→Int→Option ((List (S69)) × Int × Int × Int × Int)
 |0,_,_,_,_,_,_=>none
 |k+1,x5,x1000,x1001,x1002,x1003,x1004=>z12.l0 PF k x5 x1000 x1001 x1002 x1003 x1004
def z12.l0 (PF:PFT):Nat→List (S69)→List (S53)→Int→Int→Int→Int→Option ((List (S69)) × Int × Int × Int × Int)
 |0,_,_,_,_,_,_=>none
 |k+1,x5,x1000,x1001,x1002,x1003,x1004=>if x1003=0 then((z1n.f x1000 x1001 x1002 x1003 x1004 0 4 (⟨#[42]⟩:ByteArray)).bind fun bt300=>(if bt300.1=true then(if x5.length<5864062014805 then(z12.l0 PF k (x5++[(⟨5,(⟨#[]⟩:ByteArray)⟩:S69)]) x1000 (wrap64 (bt300.2.1+1)) bt300.2.2.1 bt300.2.2.2.1 bt300.2.2.2.2)else(none))else((z1n.f x1000 bt300.2.1 bt300.2.2.1 bt300.2.2.2.1 bt300.2.2.2.2 0 4 (⟨#[43]⟩:ByteArray)).bind fun bt308=>(if bt308.1=true then(if x5.length<5864062014805 then(z12.l0 PF k (x5++[(⟨6,(⟨#[]⟩:ByteArray)⟩:S69)]) x1000 (wrap64 (bt308.2.1+1)) bt308.2.2.1 bt308.2.2.2.1 bt308.2.2.2.2)else(none))else((z1n.f x1000 bt308.2.1 bt308.2.2.1 bt308.2.2.2.1 bt308.2.2.2.2 0 4 (⟨#[63]⟩:ByteArray)).bind fun bt316=>(if bt316.1=true then(if x5.length<5864062014805 then(z12.l0 PF k (x5++[(⟨7,(⟨#[]⟩:ByteArray)⟩:S69)]) x1000 (wrap64 (bt316.2.1+1)) bt316.2.2.1 bt316.2.2.2.1 bt316.2.2.2.2)else(none))else(some (x5,bt316.2.1,bt316.2.2.1,bt316.2.2.2.1,bt316.2.2.2.2))))))))else(some (x5,x1001,x1002,x1003,x1004))
end
def z12.f (PF:PFT) (k:Nat) (s0_0:List (S53)) (s0_1:Int) (s0_2:Int) (s0_3:Int) (s0_4:Int) (a1:Int):Option ((List (S69)) × Int × Int × Int × Int):=(z1n.f s0_0 s0_1 s0_2 s0_3 s0_4 0 4 (⟨#[40]⟩:ByteArray)).bind fun bt254=>(if bt254.1=true then(if a1=32 then((z38.f s0_0 bt254.2.1 bt254.2.2.1 bt254.2.2.2.1 bt254.2.2.2.2).bind fun bt259=>((z2x.f s0_0 bt259.2.1 bt259.2.2.1 bt259.2.2.2.1 bt259.2.2.2.2 3 bt259.1).bind fun bt264=>(some (([]:List (S69)),bt264.1,bt264.2.1,bt264.2.2.1,bt264.2.2.2))))else((PF k s0_0 (wrap64 (bt254.2.1+1)) bt254.2.2.1 bt254.2.2.2.1 bt254.2.2.2.2 (wrap64 (a1+1))).bind fun bt268=>((z4v.f s0_0 bt268.2.1 bt268.2.2.1 bt268.2.2.2.1 bt268.2.2.2.2 (⟨#[41]⟩:ByteArray)).bind fun bt275=>(z12.j0 PF k bt268.1 s0_0 bt275.1 bt275.2.1 bt275.2.2.1 bt275.2.2.2))))else((z1n.f s0_0 bt254.2.1 bt254.2.2.1 bt254.2.2.2.1 bt254.2.2.2.2 0 4 (⟨#[94]⟩:ByteArray)).bind fun bt279=>(if bt279.1=true then((z1t.f k s0_0 (wrap64 (bt279.2.1+1)) bt279.2.2.1 bt279.2.2.2.1 bt279.2.2.2.2).bind fun bt284=>(z12.j0 PF k (([(⟨2,bt284.1⟩:S69)]:List (S69))) s0_0 bt284.2.1 bt284.2.2.1 bt284.2.2.2.1 bt284.2.2.2.2))else((z1t.f k s0_0 bt279.2.1 bt279.2.2.1 bt279.2.2.2.1 bt279.2.2.2.2).bind fun bt292=>(z12.j0 PF k (([(⟨1,bt292.1⟩:S69)]:List (S69))) s0_0 bt292.2.1 bt292.2.2.1 bt292.2.2.2.1 bt292.2.2.2.2)))))
def z1y.l0 (PF:PFT):Nat→Int→List (S69)→List (S53)→Int→Int→Int→Int→Option ((List (S69)) × Int × Int × Int × Int)
 |0,_,_,_,_,_,_,_=>none
 |k+1,x1,x5,x1000,x1001,x1002,x1003,x1004=>if x1003=0 then((z1n.f x1000 x1001 x1002 x1003 x1004 0 4 (⟨#[47]⟩:ByteArray)).bind fun bt331=>(if bt331.1=true then((z12.f PF k x1000 (wrap64 (bt331.2.1+1)) bt331.2.2.1 bt331.2.2.2.1 bt331.2.2.2.2 x1).bind fun bt336=>(if x5.length+bt336.1.length<5864062014805 then((some (x5++bt336.1:List (S69))).bind fun y343=>(if y343.length<5864062014805 then(z1y.l0 PF k x1 (y343++[(⟨3,(⟨#[]⟩:ByteArray)⟩:S69)]) x1000 bt336.2.1 bt336.2.2.1 bt336.2.2.2.1 bt336.2.2.2.2)else(none)))else(none)))else(some (x5,bt331.2.1,bt331.2.2.1,bt331.2.2.2.1,bt331.2.2.2.2))))else(some (x5,x1001,x1002,x1003,x1004))
def z1y.f (PF:PFT) (k:Nat) (s0_0:List (S53)) (s0_1:Int) (s0_2:Int) (s0_3:Int) (s0_4:Int) (a1:Int):Option ((List (S69)) × Int × Int × Int × Int):=(z12.f PF k s0_0 s0_1 s0_2 s0_3 s0_4 a1).bind fun bt324=>(z1y.l0 PF k a1 bt324.1 s0_0 bt324.2.1 bt324.2.2.1 bt324.2.2.2.1 bt324.2.2.2.2)
def z4z.l0 (PF:PFT):Nat→Int→List (S69)→List (S53)→Int→Int→Int→Int→Option ((List (S69)) × Int × Int × Int × Int)
 |0,_,_,_,_,_,_,_=>none
 |k+1,x1,x5,x1000,x1001,x1002,x1003,x1004=>if x1003=0 then((z1n.f x1000 x1001 x1002 x1003 x1004 0 4 (⟨#[124]⟩:ByteArray)).bind fun bt214=>(if bt214.1=true then((z1y.f PF k x1000 (wrap64 (bt214.2.1+1)) bt214.2.2.1 bt214.2.2.2.1 bt214.2.2.2.2 x1).bind fun bt219=>(if x5.length+bt219.1.length<5864062014805 then((some (x5++bt219.1:List (S69))).bind fun y226=>(if y226.length<5864062014805 then(z4z.l0 PF k x1 (y226++[(⟨4,(⟨#[]⟩:ByteArray)⟩:S69)]) x1000 bt219.2.1 bt219.2.2.1 bt219.2.2.2.1 bt219.2.2.2.2)else(none)))else(none)))else(some (x5,bt214.2.1,bt214.2.2.1,bt214.2.2.2.1,bt214.2.2.2.2))))else(some (x5,x1001,x1002,x1003,x1004))
end Go.Proofs.YthebhbomlllpeaaGreatDoor.X
namespace Go.Proofs.YthebhbomlllpeaaGreatDoor.X
open Go.RowKit Go.Proofs.YthebhbomlllpeaaGreatDoorW.PrintWords Go.Proofs.YthebhbomlllpeaaGreatDoorW.PrintLast Go.Proofs.YthebhbomlllpeaaGreatDoorW.PrintMore
attribute [local go_sem] z4g z4f z50 z4w z3s z3p z48 z4c
attribute [local go_sem high] eqA58
def z1b.f (a0_0:Int) (a0_1:Int) (a0_2:ByteArray):Option (Bool):=if a0_0=1 then(some (a0_2.toList==([]:List UInt8)))else(if a0_0=2 then(if a0_2.toList=([]:List UInt8)then((z22.f a0_1).bind fun t159=>(some t159))else(some false))else(if a0_0=3 then(if a0_1=0 then((z1g.f a0_2).bind fun t160=>(some t160))else(some false))else(some false)))
set_option maxHeartbeats 8000000 in
set_option maxRecDepth 100000 in
theorem z1b.calls (a0_0:Int) (a0_1:Int) (a0_2:ByteArray) (r:Bool) (w:World) (h:z1b.f a0_0 a0_1 a0_2=some r) :
 Calls Tryz.prog 112 #[.agg #[.int .i64 a0_0,.int .i64 a0_1,.string a0_2]] w fun e w'=>e=.returned (.bool r)∧Below w.heap.size w w':=by
 have hu58:=Tryz.underlying58;have HB:=z00.mk (Below.refl w.heap.size w);have H:(if a0_0=1 then(some (a0_2.toList==([]:List UInt8)))else(if a0_0=2 then(if a0_2.toList=([]:List UInt8)then((z22.f a0_1).bind fun t159=>(some t159))else(some false))else(if a0_0=3 then(if a0_1=0 then((z1g.f a0_2).bind fun t160=>(some t160))else(some false))else(some false))))=some r:=h;clear h
 by_cases c2:a0_0=1
 · rw[if_pos c2]at H;have c2b0:(a0_0==1)=true:=beq_iff_eq.mpr c2;have c2b1:(a0_0 !=1)=false:=bne_eq_false_iff_eq.mpr c2;clear c2;obtain rfl:=Option.some.inj H;go_enter Tryz.func112,Tryz.ntmps112
   go_wp2_with (first|((with_reducible refine z19 (N:=1) rfl ?_);refine z17 ?hg (N:=1) ?hd (cs:=#[.int .i64 a0_0,.int .i64 a0_1,.string a0_2]) (t:=58) ?hr ?_;(case hd=>rfl);(case hg=>rfl);(case hr=>first|(go_simp;done)|(go_simp;rfl));intro gb158 hg w3 hbox hb;have n0_:=z00.mk (z0g zA00 hb);have n1_:=z00.mk (hbox);have n2_:=z00.mk ((by rw[hg];exact(z0j zA00):w.heap.size≤gb158));have n3_:=z00.mk ((by rw[hg];exact(z0j zA00):w.heap.size≤gb158));clear HB;have HB:=n0_;have BK158:=n1_;have GW158:=n2_;have GE158:=n3_;clear n0_ n1_ n2_ n3_;clear hb hbox hg;have hcz4_0:w3.cell? ⟨gb158,0,none⟩=some (.int .i64 a0_0):=(z01 BK158.out 0).trans rfl;have hcz4_1:w3.cell? ⟨gb158,1,none⟩=some (.int .i64 a0_1):=(z01 BK158.out 1).trans rfl;have hcz4_2:w3.cell? ⟨gb158,2,none⟩=some (.string a0_2):=(z01 BK158.out 2).trans rfl;have hfz4_0:=z03 BK158.out 0;have hfz4_1:=z03 BK158.out 1;have hfz4_2:=z03 BK158.out 2))
   go_ret
   exact⟨by first|rfl|(simp[z0q,z0p] <;> rfl)|(simp[*,z0q,z0p] <;> rfl),by repeat(first|(with_reducible first|exact HB.out|apply z04|apply z02|apply z05|refine z08 ?_ GE158.out)|exact HB.out)⟩
 · rw[if_neg c2]at H;have c2b0:(a0_0==1)=false:=beq_eq_false_iff_ne.mpr c2;have c2b1:(a0_0 !=1)=true:=bne_iff_ne.mpr c2
   by_cases c5:a0_0=2
   · rw[if_pos c5]at H;have c5b0:(a0_0==2)=true:=beq_iff_eq.mpr c5;have c5b1:(a0_0 !=2)=false:=bne_eq_false_iff_eq.mpr c5;clear c5
     by_cases c6:a0_2.toList=([]:List UInt8)
     · rw[if_pos c6]at H;have c6b0:(a0_2.toList==([]:List UInt8))=true:=beq_iff_eq.mpr c6;have c6b1:(a0_2.toList !=([]:List UInt8))=false:=bne_eq_false_iff_eq.mpr c6;clear c6;replace H:=Option.bind_eq_some_iff.mp H;obtain⟨t159,A70,H⟩:=H;replace H:(some t159)=some r:=H;have A7:=z00.mk A70;clear A70;obtain rfl:=Option.some.inj H;go_enter Tryz.func112,Tryz.ntmps112
       go_wp2_with (first|((with_reducible refine z19 (N:=1) rfl ?_);refine z17 ?hg (N:=1) ?hd (cs:=#[.int .i64 a0_0,.int .i64 a0_1,.string a0_2]) (t:=58) ?hr ?_;(case hd=>rfl);(case hg=>rfl);(case hr=>first|(go_simp;done)|(go_simp;rfl));intro gb158 hg w8 hbox hb;have n0_:=z00.mk (z0g zA00 hb);have n1_:=z00.mk (hbox);have n2_:=z00.mk ((by rw[hg];exact(z0j zA00):w.heap.size≤gb158));have n3_:=z00.mk ((by rw[hg];exact(z0j zA00):w.heap.size≤gb158));clear HB;have HB:=n0_;have BK158:=n1_;have GW158:=n2_;have GE158:=n3_;clear n0_ n1_ n2_ n3_;clear hb hbox hg;have hcz9_0:w8.cell? ⟨gb158,0,none⟩=some (.int .i64 a0_0):=(z01 BK158.out 0).trans rfl;have hcz9_1:w8.cell? ⟨gb158,1,none⟩=some (.int .i64 a0_1):=(z01 BK158.out 1).trans rfl;have hcz9_2:w8.cell? ⟨gb158,2,none⟩=some (.string a0_2):=(z01 BK158.out 2).trans rfl;have hfz9_0:=z03 BK158.out 0;have hfz9_1:=z03 BK158.out 1;have hfz9_2:=z03 BK158.out 2)|(go_at_call 146;(with_reducible refine(z22.calls a0_1 t159 _ A7.out).mono ?_);rintro e w' ⟨rfl,⟨nd,rfl⟩⟩))
       go_ret
       exact⟨by first|rfl|(simp[z0q,z0p] <;> rfl)|(simp[*,z0q,z0p] <;> rfl),by repeat(first|(with_reducible first|exact HB.out|apply z04|apply z02|apply z05|refine z08 ?_ GE158.out)|exact HB.out)⟩
     · rw[if_neg c6]at H;have c6b0:(a0_2.toList==([]:List UInt8))=false:=beq_eq_false_iff_ne.mpr c6;have c6b1:(a0_2.toList !=([]:List UInt8))=true:=bne_iff_ne.mpr c6;obtain rfl:=Option.some.inj H;go_enter Tryz.func112,Tryz.ntmps112
       go_wp2_with (first|((with_reducible refine z19 (N:=1) rfl ?_);refine z17 ?hg (N:=1) ?hd (cs:=#[.int .i64 a0_0,.int .i64 a0_1,.string a0_2]) (t:=58) ?hr ?_;(case hd=>rfl);(case hg=>rfl);(case hr=>first|(go_simp;done)|(go_simp;rfl));intro gb158 hg w10 hbox hb;have n0_:=z00.mk (z0g zA00 hb);have n1_:=z00.mk (hbox);have n2_:=z00.mk ((by rw[hg];exact(z0j zA00):w.heap.size≤gb158));have n3_:=z00.mk ((by rw[hg];exact(z0j zA00):w.heap.size≤gb158));clear HB;have HB:=n0_;have BK158:=n1_;have GW158:=n2_;have GE158:=n3_;clear n0_ n1_ n2_ n3_;clear hb hbox hg;have hcz11_0:w10.cell? ⟨gb158,0,none⟩=some (.int .i64 a0_0):=(z01 BK158.out 0).trans rfl;have hcz11_1:w10.cell? ⟨gb158,1,none⟩=some (.int .i64 a0_1):=(z01 BK158.out 1).trans rfl;have hcz11_2:w10.cell? ⟨gb158,2,none⟩=some (.string a0_2):=(z01 BK158.out 2).trans rfl;have hfz11_0:=z03 BK158.out 0;have hfz11_1:=z03 BK158.out 1;have hfz11_2:=z03 BK158.out 2))
       go_ret
       exact⟨by first|rfl|(simp[z0q,z0p] <;> rfl)|(simp[*,z0q,z0p] <;> rfl),by repeat(first|(with_reducible first|exact HB.out|apply z04|apply z02|apply z05|refine z08 ?_ GE158.out)|exact HB.out)⟩
   · rw[if_neg c5]at H;have c5b0:(a0_0==2)=false:=beq_eq_false_iff_ne.mpr c5;have c5b1:(a0_0 !=2)=true:=bne_iff_ne.mpr c5
     by_cases c12:a0_0=3
     · rw[if_pos c12]at H;have c12b0:(a0_0==3)=true:=beq_iff_eq.mpr c12;have c12b1:(a0_0 !=3)=false:=bne_eq_false_iff_eq.mpr c12;clear c12
       by_cases c13:a0_1=0
       · rw[if_pos c13]at H;have c13b0:(a0_1==0)=true:=beq_iff_eq.mpr c13;have c13b1:(a0_1 !=0)=false:=bne_eq_false_iff_eq.mpr c13;clear c13;replace H:=Option.bind_eq_some_iff.mp H;obtain⟨t160,A140,H⟩:=H;replace H:(some t160)=some r:=H;have A14:=z00.mk A140;clear A140;obtain rfl:=Option.some.inj H;go_enter Tryz.func112,Tryz.ntmps112
         go_wp2_with (first|((with_reducible refine z19 (N:=1) rfl ?_);refine z17 ?hg (N:=1) ?hd (cs:=#[.int .i64 a0_0,.int .i64 a0_1,.string a0_2]) (t:=58) ?hr ?_;(case hd=>rfl);(case hg=>rfl);(case hr=>first|(go_simp;done)|(go_simp;rfl));intro gb158 hg w15 hbox hb;have n0_:=z00.mk (z0g zA00 hb);have n1_:=z00.mk (hbox);have n2_:=z00.mk ((by rw[hg];exact(z0j zA00):w.heap.size≤gb158));have n3_:=z00.mk ((by rw[hg];exact(z0j zA00):w.heap.size≤gb158));clear HB;have HB:=n0_;have BK158:=n1_;have GW158:=n2_;have GE158:=n3_;clear n0_ n1_ n2_ n3_;clear hb hbox hg;have hcz16_0:w15.cell? ⟨gb158,0,none⟩=some (.int .i64 a0_0):=(z01 BK158.out 0).trans rfl;have hcz16_1:w15.cell? ⟨gb158,1,none⟩=some (.int .i64 a0_1):=(z01 BK158.out 1).trans rfl;have hcz16_2:w15.cell? ⟨gb158,2,none⟩=some (.string a0_2):=(z01 BK158.out 2).trans rfl;have hfz16_0:=z03 BK158.out 0;have hfz16_1:=z03 BK158.out 1;have hfz16_2:=z03 BK158.out 2)|(go_at_call 99;(with_reducible refine(z1g.calls a0_2 t160 _ A14.out).mono ?_);rintro e w17 ⟨rfl,hb⟩;have n0_:=z00.mk (z0h (g:=gb158) (o:=.cells #[.int .i64 a0_0,.int .i64 a0_1,.string a0_2] 58 (0,0)) (by(with_reducible repeat(first|refine z07 ?_ _|refine z09 ?_|refine z06 ?_ _));exact BK158.out) hb);have n1_:=z00.mk (z0g (by repeat(first|(with_reducible first|exact HB.out|apply z04|apply z02|apply z05|refine z08 ?_ GE158.out)|exact HB.out)) hb);clear BK158;clear HB;have BK158:=n0_;have HB:=n1_;clear n0_ n1_;(try clear hb);(try clear hb2);(try clear hk);(try clear hi)))
         go_ret
         exact⟨by first|rfl|(simp[z0q,z0p] <;> rfl)|(simp[*,z0q,z0p] <;> rfl),by repeat(first|(with_reducible first|exact HB.out|apply z04|apply z02|apply z05|refine z08 ?_ GE158.out)|exact HB.out)⟩
       · rw[if_neg c13]at H;have c13b0:(a0_1==0)=false:=beq_eq_false_iff_ne.mpr c13;have c13b1:(a0_1 !=0)=true:=bne_iff_ne.mpr c13;obtain rfl:=Option.some.inj H;go_enter Tryz.func112,Tryz.ntmps112
         go_wp2_with (first|((with_reducible refine z19 (N:=1) rfl ?_);refine z17 ?hg (N:=1) ?hd (cs:=#[.int .i64 a0_0,.int .i64 a0_1,.string a0_2]) (t:=58) ?hr ?_;(case hd=>rfl);(case hg=>rfl);(case hr=>first|(go_simp;done)|(go_simp;rfl));intro gb158 hg w18 hbox hb;have n0_:=z00.mk (z0g zA00 hb);have n1_:=z00.mk (hbox);have n2_:=z00.mk ((by rw[hg];exact(z0j zA00):w.heap.size≤gb158));have n3_:=z00.mk ((by rw[hg];exact(z0j zA00):w.heap.size≤gb158));clear HB;have HB:=n0_;have BK158:=n1_;have GW158:=n2_;have GE158:=n3_;clear n0_ n1_ n2_ n3_;clear hb hbox hg;have hcz19_0:w18.cell? ⟨gb158,0,none⟩=some (.int .i64 a0_0):=(z01 BK158.out 0).trans rfl;have hcz19_1:w18.cell? ⟨gb158,1,none⟩=some (.int .i64 a0_1):=(z01 BK158.out 1).trans rfl;have hcz19_2:w18.cell? ⟨gb158,2,none⟩=some (.string a0_2):=(z01 BK158.out 2).trans rfl;have hfz19_0:=z03 BK158.out 0;have hfz19_1:=z03 BK158.out 1;have hfz19_2:=z03 BK158.out 2))
         go_ret
         exact⟨by first|rfl|(simp[z0q,z0p] <;> rfl)|(simp[*,z0q,z0p] <;> rfl),by repeat(first|(with_reducible first|exact HB.out|apply z04|apply z02|apply z05|refine z08 ?_ GE158.out)|exact HB.out)⟩
     · rw[if_neg c12]at H;have c12b0:(a0_0==3)=false:=beq_eq_false_iff_ne.mpr c12;have c12b1:(a0_0 !=3)=true:=bne_iff_ne.mpr c12;obtain rfl:=Option.some.inj H;go_enter Tryz.func112,Tryz.ntmps112
       go_wp2_with (first|((with_reducible refine z19 (N:=1) rfl ?_);refine z17 ?hg (N:=1) ?hd (cs:=#[.int .i64 a0_0,.int .i64 a0_1,.string a0_2]) (t:=58) ?hr ?_;(case hd=>rfl);(case hg=>rfl);(case hr=>first|(go_simp;done)|(go_simp;rfl));intro gb158 hg w20 hbox hb;have n0_:=z00.mk (z0g zA00 hb);have n1_:=z00.mk (hbox);have n2_:=z00.mk ((by rw[hg];exact(z0j zA00):w.heap.size≤gb158));have n3_:=z00.mk ((by rw[hg];exact(z0j zA00):w.heap.size≤gb158));clear HB;have HB:=n0_;have BK158:=n1_;have GW158:=n2_;have GE158:=n3_;clear n0_ n1_ n2_ n3_;clear hb hbox hg;have hcz21_0:w20.cell? ⟨gb158,0,none⟩=some (.int .i64 a0_0):=(z01 BK158.out 0).trans rfl;have hcz21_1:w20.cell? ⟨gb158,1,none⟩=some (.int .i64 a0_1):=(z01 BK158.out 1).trans rfl;have hcz21_2:w20.cell? ⟨gb158,2,none⟩=some (.string a0_2):=(z01 BK158.out 2).trans rfl;have hfz21_0:=z03 BK158.out 0;have hfz21_1:=z03 BK158.out 1;have hfz21_2:=z03 BK158.out 2))
       go_ret
       exact⟨by first|rfl|(simp[z0q,z0p] <;> rfl)|(simp[*,z0q,z0p] <;> rfl),by repeat(first|(with_reducible first|exact HB.out|apply z04|apply z02|apply z05|refine z08 ?_ GE158.out)|exact HB.out)⟩
def z6h.f (k:Nat) (a0_0:ByteArray) (a0_1:Int) (a0_2:Int) (a0_3:ByteArray):Option (Bool):=if a0_0.toList=([]:List UInt8)then((z1b.f a0_1 a0_2 a0_3).bind fun t162=>(some t162))else((z0c.f k a0_0).bind fun t163=>(if t163=true then(some (a0_1==0&&(a0_2==0&&(a0_3.toList==([]:List UInt8)))))else(some false)))
mutual
def z39.j0:Nat→Bool→ByteArray→List (S60)→Option (Bool)
 |0,_,_,_=>none
 |k+1,x13,x165000,x165001=>if x13=true then(some false)else(z39.l0 k (x165001.length:Int) 0 x165000 x165001)
def z39.l0:Nat→Int→Int→ByteArray→List (S60)→Option (Bool)
 |0,_,_,_,_=>none
 |k+1,x16,x17,x165000,x165001=>if x17<x16 then(if 0≤x17 then(if x17<(x165001.length:Int)then((z6h.f k ((z2g x165001 x17).f0) ((z2g x165001 x17).f1.f0) ((z2g x165001 x17).f1.f1) ((z2g x165001 x17).f1.f2)).bind fun t167=>(if t167=true then(z39.l0 k x16 (wrap64 (x17+1)) x165000 x165001)else(some false)))else(none))else(none))else(some true)
end
def z0i.l0:Nat→ByteArray→Option (ByteArray)
 |0,_=>none
 |k+1,x3=>if(x3.size:Int)<16 then(if 1+x3.size≤9223372036854775807 then(z0i.l0 k ((⟨#[48]⟩:ByteArray)++x3))else(none))else(if 1+x3.size≤9223372036854775807 then(some ((⟨#[35]⟩:ByteArray)++x3))else(none))
def z0i.f (k:Nat) (a0_0:Int) (a0_1:Int) (a0_2:ByteArray):Option (ByteArray):=(z1b.f a0_0 a0_1 a0_2).bind fun t175=>(if t175=true then(if a0_0=1 then(if a0_1<0 then((z0b.f k (IntKind.u64.wrap (-(IntKind.u64.wrap (a0_1)))) 10).bind fun t176=>(if 1+t176.size≤9223372036854775807 then(some ((⟨#[45]⟩:ByteArray)++t176))else(none)))else((z0b.f k (IntKind.u64.wrap (a0_1)) 10).bind fun t177=>(some t177)))else(if a0_0=2 then((z0b.f k (IntKind.u64.wrap (a0_1)) 16).bind fun t178=>(z0i.l0 k t178))else(some a0_2)))else(some (⟨#[]⟩:ByteArray)))
set_option maxHeartbeats 8000000 in
set_option maxRecDepth 100000 in
theorem z0i.calls (k:Nat) (a0_0:Int) (a0_1:Int) (a0_2:ByteArray) (r:ByteArray) (w:World) (h:z0i.f k a0_0 a0_1 a0_2=some r) :
 Calls Tryz.prog 113 #[.agg #[.int .i64 a0_0,.int .i64 a0_1,.string a0_2]] w fun e w'=>e=.returned (.string r)∧Below w.heap.size w w':=by
 have hu58:=Tryz.underlying58;have HB:=z00.mk (Below.refl w.heap.size w);have H:((z1b.f a0_0 a0_1 a0_2).bind fun t175=>(if t175=true then(if a0_0=1 then(if a0_1<0 then((z0b.f k (IntKind.u64.wrap (-(IntKind.u64.wrap (a0_1)))) 10).bind fun t176=>(if 1+t176.size≤9223372036854775807 then(some ((⟨#[45]⟩:ByteArray)++t176))else(none)))else((z0b.f k (IntKind.u64.wrap (a0_1)) 10).bind fun t177=>(some t177)))else(if a0_0=2 then((z0b.f k (IntKind.u64.wrap (a0_1)) 16).bind fun t178=>(z0i.l0 k t178))else(some a0_2)))else(some (⟨#[]⟩:ByteArray))))=some r:=h;clear h;replace H:=Option.bind_eq_some_iff.mp H;obtain⟨t175,A20,H⟩:=H;replace H:(if t175=true then(if a0_0=1 then(if a0_1<0 then((z0b.f k (IntKind.u64.wrap (-(IntKind.u64.wrap (a0_1)))) 10).bind fun t176=>(if 1+t176.size≤9223372036854775807 then(some ((⟨#[45]⟩:ByteArray)++t176))else(none)))else((z0b.f k (IntKind.u64.wrap (a0_1)) 10).bind fun t177=>(some t177)))else(if a0_0=2 then((z0b.f k (IntKind.u64.wrap (a0_1)) 16).bind fun t178=>(z0i.l0 k t178))else(some a0_2)))else(some (⟨#[]⟩:ByteArray)))=some r:=H;have A2:=z00.mk A20;clear A20
 by_cases c3:t175=true
 · subst c3;have H1:(if a0_0=1 then(if a0_1<0 then((z0b.f k (IntKind.u64.wrap (-(IntKind.u64.wrap (a0_1)))) 10).bind fun t176=>(if 1+t176.size≤9223372036854775807 then(some ((⟨#[45]⟩:ByteArray)++t176))else(none)))else((z0b.f k (IntKind.u64.wrap (a0_1)) 10).bind fun t177=>(some t177)))else(if a0_0=2 then((z0b.f k (IntKind.u64.wrap (a0_1)) 16).bind fun t178=>(z0i.l0 k t178))else(some a0_2)))=some r:=by rw[if_pos rfl]at H;exact H
   clear H;have H:=H1;clear H1
   by_cases c4:a0_0=1
   · rw[if_pos c4]at H;have c4b0:(a0_0==1)=true:=beq_iff_eq.mpr c4;have c4b1:(a0_0 !=1)=false:=bne_eq_false_iff_eq.mpr c4;clear c4
     by_cases c5:a0_1<0
     · rw[if_pos c5]at H;have c5b0:decide (a0_1<0)=true:=decide_eq_true c5;clear c5;replace H:=Option.bind_eq_some_iff.mp H;obtain⟨t176,A60,H⟩:=H;replace H:(if 1+t176.size≤9223372036854775807 then(some ((⟨#[45]⟩:ByteArray)++t176))else(none))=some r:=H;have A6:=z00.mk A60;clear A60
       by_cases c7:1+t176.size≤9223372036854775807
       · rw[if_pos c7]at H;have c7b0:=eq_true c7;have c7b1:decide (1+t176.size≤9223372036854775807)=true:=decide_eq_true c7
         try have c7b2:(9223372036854775807<1+t176.size)=False:=eq_false (Nat.not_lt.2 c7)
         obtain rfl:=Option.some.inj H;go_enter Tryz.func113,Tryz.ntmps113
         go_wp2_with (first|((with_reducible refine z19 (N:=1) rfl ?_);refine z17 ?hg (N:=1) ?hd (cs:=#[.int .i64 a0_0,.int .i64 a0_1,.string a0_2]) (t:=58) ?hr ?_;(case hd=>rfl);(case hg=>rfl);(case hr=>first|(go_simp;done)|(go_simp;rfl));intro gb174 hg w8 hbox hb;have n0_:=z00.mk (z0g zA00 hb);have n1_:=z00.mk (hbox);have n2_:=z00.mk ((by rw[hg];exact(z0j zA00):w.heap.size≤gb174));have n3_:=z00.mk ((by rw[hg];exact(z0j zA00):w.heap.size≤gb174));clear HB;have HB:=n0_;have BK174:=n1_;have GW174:=n2_;have GE174:=n3_;clear n0_ n1_ n2_ n3_;clear hb hbox hg;have hcz9_0:w8.cell? ⟨gb174,0,none⟩=some (.int .i64 a0_0):=(z01 BK174.out 0).trans rfl;have hcz9_1:w8.cell? ⟨gb174,1,none⟩=some (.int .i64 a0_1):=(z01 BK174.out 1).trans rfl;have hcz9_2:w8.cell? ⟨gb174,2,none⟩=some (.string a0_2):=(z01 BK174.out 2).trans rfl;have hfz9_0:=z03 BK174.out 0;have hfz9_1:=z03 BK174.out 1;have hfz9_2:=z03 BK174.out 2)|((with_reducible refine z0t (f:=112) rfl ?_);refine z27 (some 5) rfl rfl Tryz.func112 (by kernel_rfl) rfl #[.agg #[.int .i64 a0_0,.int .i64 a0_1,.string a0_2]] rfl zA02 ?_;(with_reducible refine(z1b.calls a0_0 a0_1 a0_2 true _ A2.out).mono ?_);rintro e w10 ⟨rfl,hb⟩;refine⟨_,rfl,?_⟩;have n0_:=z00.mk (z0h (g:=gb174) (o:=.cells #[.int .i64 a0_0,.int .i64 a0_1,.string a0_2] 58 (0,0)) zA0h hb);have n1_:=z00.mk (z0g zA0d hb);clear BK174;clear HB;have BK174:=n0_;have HB:=n1_;clear n0_ n1_;(try clear hb);(try clear hb2);(try clear hk);(try clear hi);have hcz11_0:w10.cell? ⟨gb174,0,none⟩=some (.int .i64 a0_0):=(z01 BK174.out 0).trans rfl;have hcz11_1:w10.cell? ⟨gb174,1,none⟩=some (.int .i64 a0_1):=(z01 BK174.out 1).trans rfl;have hcz11_2:w10.cell? ⟨gb174,2,none⟩=some (.string a0_2):=(z01 BK174.out 2).trans rfl;have hfz11_0:=z03 BK174.out 0;have hfz11_1:=z03 BK174.out 1;have hfz11_2:=z03 BK174.out 2)|((with_reducible refine z0t (f:=147) rfl ?_);refine z27 (some 18) rfl rfl Tryz.func147 (by kernel_rfl) rfl #[.int .u64 (IntKind.u64.wrap (-(IntKind.u64.wrap (a0_1)))),.int .u64 10] rfl zA02 ?_;(with_reducible refine(z0b.calls k (IntKind.u64.wrap (-(IntKind.u64.wrap (a0_1)))) 10 t176 _ A6.out).mono ?_);rintro e w12 ⟨rfl,hb⟩;refine⟨_,rfl,?_⟩;have n0_:=z00.mk (z0h (g:=gb174) (o:=.cells #[.int .i64 a0_0,.int .i64 a0_1,.string a0_2] 58 (0,0)) zA0h hb);have n1_:=z00.mk (z0g zA0d hb);clear BK174;clear HB;have BK174:=n0_;have HB:=n1_;clear n0_ n1_;(try clear hb);(try clear hb2);(try clear hk);(try clear hi)))
         go_ret
         exact⟨by first|rfl|(simp[z0q,z0p] <;> rfl)|(simp[*,z0q,z0p] <;> rfl),by repeat(first|(with_reducible first|exact HB.out|apply z04|apply z02|apply z05|refine z08 ?_ GE174.out)|exact HB.out)⟩
       · rw[if_neg c7]at H;exact absurd H (by simp)
     · rw[if_neg c5]at H;have c5b0:decide (a0_1<0)=false:=decide_eq_false c5;clear c5;replace H:=Option.bind_eq_some_iff.mp H;obtain⟨t177,A130,H⟩:=H;replace H:(some t177)=some r:=H;have A13:=z00.mk A130;clear A130;obtain rfl:=Option.some.inj H;go_enter Tryz.func113,Tryz.ntmps113
       go_wp2_with (first|((with_reducible refine z19 (N:=1) rfl ?_);refine z17 ?hg (N:=1) ?hd (cs:=#[.int .i64 a0_0,.int .i64 a0_1,.string a0_2]) (t:=58) ?hr ?_;(case hd=>rfl);(case hg=>rfl);(case hr=>first|(go_simp;done)|(go_simp;rfl));intro gb174 hg w14 hbox hb;have n0_:=z00.mk (z0g zA00 hb);have n1_:=z00.mk (hbox);have n2_:=z00.mk ((by rw[hg];exact(z0j zA00):w.heap.size≤gb174));have n3_:=z00.mk ((by rw[hg];exact(z0j zA00):w.heap.size≤gb174));clear HB;have HB:=n0_;have BK174:=n1_;have GW174:=n2_;have GE174:=n3_;clear n0_ n1_ n2_ n3_;clear hb hbox hg;have hcz15_0:w14.cell? ⟨gb174,0,none⟩=some (.int .i64 a0_0):=(z01 BK174.out 0).trans rfl;have hcz15_1:w14.cell? ⟨gb174,1,none⟩=some (.int .i64 a0_1):=(z01 BK174.out 1).trans rfl;have hcz15_2:w14.cell? ⟨gb174,2,none⟩=some (.string a0_2):=(z01 BK174.out 2).trans rfl;have hfz15_0:=z03 BK174.out 0;have hfz15_1:=z03 BK174.out 1;have hfz15_2:=z03 BK174.out 2)|((with_reducible refine z0t (f:=112) rfl ?_);refine z27 (some 5) rfl rfl Tryz.func112 (by kernel_rfl) rfl #[.agg #[.int .i64 a0_0,.int .i64 a0_1,.string a0_2]] rfl zA02 ?_;(with_reducible refine(z1b.calls a0_0 a0_1 a0_2 true _ A2.out).mono ?_);rintro e w16 ⟨rfl,hb⟩;refine⟨_,rfl,?_⟩;have n0_:=z00.mk (z0h (g:=gb174) (o:=.cells #[.int .i64 a0_0,.int .i64 a0_1,.string a0_2] 58 (0,0)) zA0h hb);have n1_:=z00.mk (z0g zA0d hb);clear BK174;clear HB;have BK174:=n0_;have HB:=n1_;clear n0_ n1_;(try clear hb);(try clear hb2);(try clear hk);(try clear hi);have hcz17_0:w16.cell? ⟨gb174,0,none⟩=some (.int .i64 a0_0):=(z01 BK174.out 0).trans rfl;have hcz17_1:w16.cell? ⟨gb174,1,none⟩=some (.int .i64 a0_1):=(z01 BK174.out 1).trans rfl;have hcz17_2:w16.cell? ⟨gb174,2,none⟩=some (.string a0_2):=(z01 BK174.out 2).trans rfl;have hfz17_0:=z03 BK174.out 0;have hfz17_1:=z03 BK174.out 1;have hfz17_2:=z03 BK174.out 2)|((with_reducible refine z0t (f:=147) rfl ?_);refine z27 (some 23) rfl rfl Tryz.func147 (by kernel_rfl) rfl #[.int .u64 (IntKind.u64.wrap (a0_1)),.int .u64 10] rfl zA02 ?_;(with_reducible refine(z0b.calls k (IntKind.u64.wrap (a0_1)) 10 t177 _ A13.out).mono ?_);rintro e w18 ⟨rfl,hb⟩;refine⟨_,rfl,?_⟩;have n0_:=z00.mk (z0h (g:=gb174) (o:=.cells #[.int .i64 a0_0,.int .i64 a0_1,.string a0_2] 58 (0,0)) zA0h hb);have n1_:=z00.mk (z0g zA0d hb);clear BK174;clear HB;have BK174:=n0_;have HB:=n1_;clear n0_ n1_;(try clear hb);(try clear hb2);(try clear hk);(try clear hi)))
       go_ret
       exact⟨by first|rfl|(simp[z0q,z0p] <;> rfl)|(simp[*,z0q,z0p] <;> rfl),by repeat(first|(with_reducible first|exact HB.out|apply z04|apply z02|apply z05|refine z08 ?_ GE174.out)|exact HB.out)⟩
   · rw[if_neg c4]at H;have c4b0:(a0_0==1)=false:=beq_eq_false_iff_ne.mpr c4;have c4b1:(a0_0 !=1)=true:=bne_iff_ne.mpr c4
     by_cases c19:a0_0=2
     · rw[if_pos c19]at H;have c19b0:(a0_0==2)=true:=beq_iff_eq.mpr c19;have c19b1:(a0_0 !=2)=false:=bne_eq_false_iff_eq.mpr c19;clear c19;replace H:=Option.bind_eq_some_iff.mp H;obtain⟨t178,A200,H⟩:=H;replace H:(z0i.l0 k t178)=some r:=H;have A20:=z00.mk A200;clear A200;have H':=z00.mk H;clear H;go_enter Tryz.func113,Tryz.ntmps113
       go_wp2_with (first|((with_reducible refine z19 (N:=1) rfl ?_);refine z17 ?hg (N:=1) ?hd (cs:=#[.int .i64 a0_0,.int .i64 a0_1,.string a0_2]) (t:=58) ?hr ?_;(case hd=>rfl);(case hg=>rfl);(case hr=>first|(go_simp;done)|(go_simp;rfl));intro gb174 hg w21 hbox hb;have n0_:=z00.mk (z0g zA00 hb);have n1_:=z00.mk (hbox);have n2_:=z00.mk ((by rw[hg];exact(z0j zA00):w.heap.size≤gb174));have n3_:=z00.mk ((by rw[hg];exact(z0j zA00):w.heap.size≤gb174));clear HB;have HB:=n0_;have BK174:=n1_;have GW174:=n2_;have GE174:=n3_;clear n0_ n1_ n2_ n3_;clear hb hbox hg;have hcz22_0:w21.cell? ⟨gb174,0,none⟩=some (.int .i64 a0_0):=(z01 BK174.out 0).trans rfl;have hcz22_1:w21.cell? ⟨gb174,1,none⟩=some (.int .i64 a0_1):=(z01 BK174.out 1).trans rfl;have hcz22_2:w21.cell? ⟨gb174,2,none⟩=some (.string a0_2):=(z01 BK174.out 2).trans rfl;have hfz22_0:=z03 BK174.out 0;have hfz22_1:=z03 BK174.out 1;have hfz22_2:=z03 BK174.out 2)|((with_reducible refine z0t (f:=112) rfl ?_);refine z27 (some 5) rfl rfl Tryz.func112 (by kernel_rfl) rfl #[.agg #[.int .i64 a0_0,.int .i64 a0_1,.string a0_2]] rfl zA02 ?_;(with_reducible refine(z1b.calls a0_0 a0_1 a0_2 true _ A2.out).mono ?_);rintro e w23 ⟨rfl,hb⟩;refine⟨_,rfl,?_⟩;have n0_:=z00.mk (z0h (g:=gb174) (o:=.cells #[.int .i64 a0_0,.int .i64 a0_1,.string a0_2] 58 (0,0)) zA0h hb);have n1_:=z00.mk (z0g zA0d hb);clear BK174;clear HB;have BK174:=n0_;have HB:=n1_;clear n0_ n1_;(try clear hb);(try clear hb2);(try clear hk);(try clear hi);have hcz24_0:w23.cell? ⟨gb174,0,none⟩=some (.int .i64 a0_0):=(z01 BK174.out 0).trans rfl;have hcz24_1:w23.cell? ⟨gb174,1,none⟩=some (.int .i64 a0_1):=(z01 BK174.out 1).trans rfl;have hcz24_2:w23.cell? ⟨gb174,2,none⟩=some (.string a0_2):=(z01 BK174.out 2).trans rfl;have hfz24_0:=z03 BK174.out 0;have hfz24_1:=z03 BK174.out 1;have hfz24_2:=z03 BK174.out 2)|((with_reducible refine z0t (f:=147) rfl ?_);refine z27 (some 29) rfl rfl Tryz.func147 (by kernel_rfl) rfl #[.int .u64 (IntKind.u64.wrap (a0_1)),.int .u64 16] rfl zA02 ?_;(with_reducible refine(z0b.calls k (IntKind.u64.wrap (a0_1)) 16 t178 _ A20.out).mono ?_);rintro e w25 ⟨rfl,hb⟩;refine⟨_,rfl,?_⟩;have n0_:=z00.mk (z0h (g:=gb174) (o:=.cells #[.int .i64 a0_0,.int .i64 a0_1,.string a0_2] 58 (0,0)) zA0h hb);have n1_:=z00.mk (z0g zA0d hb);clear BK174;clear HB;have BK174:=n0_;have HB:=n1_;clear n0_ n1_;(try clear hb);(try clear hb2);(try clear hk);(try clear hi)))
       go_loopg [3] k (fun kq v3 w'=>∃(x3_1:ByteArray),v3=.string x3_1∧z00 (z0i.l0 kq x3_1=some r)∧z00 (kq≤k)∧z00 (w'.heap[gb174]?=some (.cells #[.int .i64 a0_0,.int .i64 a0_1,.string a0_2] 58 (0,0)))∧z00 (Below w.heap.size w w'))
       case atStart=>exact⟨(t178),zA06,H',⟨Nat.le_refl _⟩,⟨zA0h⟩,⟨zA0d⟩⟩
       case round =>
        clear H';(try clear c1);(try clear p2);(try clear c3);(try clear c4);(try clear c4b0);(try clear c4b1);(try clear c5);(try clear c5b0);(try clear c7);(try clear c7b0);(try clear c7b1);(try clear c7b2);(try clear c11);(try clear c14);(try clear c19);(try clear c19b0);(try clear c19b1);(try clear hcz11_0);(try clear hcz11_1);(try clear hcz11_2);(try clear hcz15_0);(try clear hcz15_1);(try clear hcz15_2);(try clear hcz17_0);(try clear hcz17_1);(try clear hcz17_2);(try clear hcz22_0);(try clear hcz22_1);(try clear hcz22_2);(try clear hcz24_0);(try clear hcz24_1);(try clear hcz24_2);(try clear hcz9_0);(try clear hcz9_1);(try clear hcz9_2);(try clear hfz11_0);(try clear hfz11_1);(try clear hfz11_2);(try clear hfz15_0);(try clear hfz15_1);(try clear hfz15_2);(try clear hfz17_0);(try clear hfz17_1);(try clear hfz17_2);(try clear hfz22_0);(try clear hfz22_1);(try clear hfz22_2);(try clear hfz24_0);(try clear hfz24_1);(try clear hfz24_2);(try clear hfz9_0);(try clear hfz9_1);(try clear hfz9_2);obtain⟨x3_1,rfl,HA,HK1,BK174,HB⟩:=hrel
        cases gk with
        |zero=>exact absurd HA.out (by simp[z0i.l0])
        |succ k1 =>
         have H:=HA.out;clear HA;simp only[z0i.l0]at H
         by_cases c26:(x3_1.size:Int)<16
         · rw[if_pos c26]at H;have c26b0:decide ((x3_1.size:Int)<16)=true:=decide_eq_true c26;have c26b1:decide (x3_1.size<16)=true:=decide_eq_true (by omega);clear c26
           by_cases c27:1+x3_1.size≤9223372036854775807
           · rw[if_pos c27]at H;have c27b0:=eq_true c27;have c27b1:decide (1+x3_1.size≤9223372036854775807)=true:=decide_eq_true c27
             try have c27b2:(9223372036854775807<1+x3_1.size)=False:=eq_false (Nat.not_lt.2 c27)
             have H':=z00.mk H;clear H;go_wp2
             go_roundg k1
             case measure=>have:=HK1.out;omega
             case rel=>exact⟨((⟨#[48]⟩:ByteArray)++x3_1),zA06,H',⟨zA1b⟩,⟨zA0h⟩,⟨zA0d⟩⟩
           · rw[if_neg c27]at H;exact absurd H (by simp)
         · rw[if_neg c26]at H;have c26b0:decide ((x3_1.size:Int)<16)=false:=decide_eq_false c26;have c26b1:decide (x3_1.size<16)=false:=decide_eq_false (by omega);clear c26
           by_cases c28:1+x3_1.size≤9223372036854775807
           · rw[if_pos c28]at H;have c28b0:=eq_true c28;have c28b1:decide (1+x3_1.size≤9223372036854775807)=true:=decide_eq_true c28
             try have c28b2:(9223372036854775807<1+x3_1.size)=False:=eq_false (Nat.not_lt.2 c28)
             obtain rfl:=Option.some.inj H;go_wp2
             go_ret
             exact⟨by first|rfl|(simp[z0q,z0p] <;> rfl)|(simp[*,z0q,z0p] <;> rfl),by repeat(first|(with_reducible first|exact HB.out|apply z04|apply z02|apply z05|refine z08 ?_ GE174.out)|exact HB.out)⟩
           · rw[if_neg c28]at H;exact absurd H (by simp)
     · rw[if_neg c19]at H;have c19b0:(a0_0==2)=false:=beq_eq_false_iff_ne.mpr c19;have c19b1:(a0_0 !=2)=true:=bne_iff_ne.mpr c19;obtain rfl:=Option.some.inj H;go_enter Tryz.func113,Tryz.ntmps113
       go_wp2_with (first|((with_reducible refine z19 (N:=1) rfl ?_);refine z17 ?hg (N:=1) ?hd (cs:=#[.int .i64 a0_0,.int .i64 a0_1,.string a0_2]) (t:=58) ?hr ?_;(case hd=>rfl);(case hg=>rfl);(case hr=>first|(go_simp;done)|(go_simp;rfl));intro gb174 hg w29 hbox hb;have n0_:=z00.mk (z0g zA00 hb);have n1_:=z00.mk (hbox);have n2_:=z00.mk ((by rw[hg];exact(z0j zA00):w.heap.size≤gb174));have n3_:=z00.mk ((by rw[hg];exact(z0j zA00):w.heap.size≤gb174));clear HB;have HB:=n0_;have BK174:=n1_;have GW174:=n2_;have GE174:=n3_;clear n0_ n1_ n2_ n3_;clear hb hbox hg;have hcz30_0:w29.cell? ⟨gb174,0,none⟩=some (.int .i64 a0_0):=(z01 BK174.out 0).trans rfl;have hcz30_1:w29.cell? ⟨gb174,1,none⟩=some (.int .i64 a0_1):=(z01 BK174.out 1).trans rfl;have hcz30_2:w29.cell? ⟨gb174,2,none⟩=some (.string a0_2):=(z01 BK174.out 2).trans rfl;have hfz30_0:=z03 BK174.out 0;have hfz30_1:=z03 BK174.out 1;have hfz30_2:=z03 BK174.out 2)|((with_reducible refine z0t (f:=112) rfl ?_);refine z27 (some 5) rfl rfl Tryz.func112 (by kernel_rfl) rfl #[.agg #[.int .i64 a0_0,.int .i64 a0_1,.string a0_2]] rfl zA02 ?_;(with_reducible refine(z1b.calls a0_0 a0_1 a0_2 true _ A2.out).mono ?_);rintro e w31 ⟨rfl,hb⟩;refine⟨_,rfl,?_⟩;have n0_:=z00.mk (z0h (g:=gb174) (o:=.cells #[.int .i64 a0_0,.int .i64 a0_1,.string a0_2] 58 (0,0)) zA0h hb);have n1_:=z00.mk (z0g zA0d hb);clear BK174;clear HB;have BK174:=n0_;have HB:=n1_;clear n0_ n1_;(try clear hb);(try clear hb2);(try clear hk);(try clear hi);have hcz32_0:w31.cell? ⟨gb174,0,none⟩=some (.int .i64 a0_0):=(z01 BK174.out 0).trans rfl;have hcz32_1:w31.cell? ⟨gb174,1,none⟩=some (.int .i64 a0_1):=(z01 BK174.out 1).trans rfl;have hcz32_2:w31.cell? ⟨gb174,2,none⟩=some (.string a0_2):=(z01 BK174.out 2).trans rfl;have hfz32_0:=z03 BK174.out 0;have hfz32_1:=z03 BK174.out 1;have hfz32_2:=z03 BK174.out 2))
       go_ret
       exact⟨by first|rfl|(simp[z0q,z0p] <;> rfl)|(simp[*,z0q,z0p] <;> rfl),by repeat(first|(with_reducible first|exact HB.out|apply z04|apply z02|apply z05|refine z08 ?_ GE174.out)|exact HB.out)⟩
 · replace c3:=Bool.eq_false_iff.mpr c3;subst c3;have H1:(some (⟨#[]⟩:ByteArray))=some r:=by rw[if_neg (show ¬(false=true) by decide)]at H;exact H
   clear H;have H:=H1;clear H1;obtain rfl:=Option.some.inj H;go_enter Tryz.func113,Tryz.ntmps113
   go_wp2_with (first|((with_reducible refine z19 (N:=1) rfl ?_);refine z17 ?hg (N:=1) ?hd (cs:=#[.int .i64 a0_0,.int .i64 a0_1,.string a0_2]) (t:=58) ?hr ?_;(case hd=>rfl);(case hg=>rfl);(case hr=>first|(go_simp;done)|(go_simp;rfl));intro gb174 hg w33 hbox hb;have n0_:=z00.mk (z0g zA00 hb);have n1_:=z00.mk (hbox);have n2_:=z00.mk ((by rw[hg];exact(z0j zA00):w.heap.size≤gb174));have n3_:=z00.mk ((by rw[hg];exact(z0j zA00):w.heap.size≤gb174));clear HB;have HB:=n0_;have BK174:=n1_;have GW174:=n2_;have GE174:=n3_;clear n0_ n1_ n2_ n3_;clear hb hbox hg;have hcz34_0:w33.cell? ⟨gb174,0,none⟩=some (.int .i64 a0_0):=(z01 BK174.out 0).trans rfl;have hcz34_1:w33.cell? ⟨gb174,1,none⟩=some (.int .i64 a0_1):=(z01 BK174.out 1).trans rfl;have hcz34_2:w33.cell? ⟨gb174,2,none⟩=some (.string a0_2):=(z01 BK174.out 2).trans rfl;have hfz34_0:=z03 BK174.out 0;have hfz34_1:=z03 BK174.out 1;have hfz34_2:=z03 BK174.out 2)|((with_reducible refine z0t (f:=112) rfl ?_);refine z27 (some 5) rfl rfl Tryz.func112 (by kernel_rfl) rfl #[.agg #[.int .i64 a0_0,.int .i64 a0_1,.string a0_2]] rfl zA02 ?_;(with_reducible refine(z1b.calls a0_0 a0_1 a0_2 false _ A2.out).mono ?_);rintro e w35 ⟨rfl,hb⟩;refine⟨_,rfl,?_⟩;have n0_:=z00.mk (z0h (g:=gb174) (o:=.cells #[.int .i64 a0_0,.int .i64 a0_1,.string a0_2] 58 (0,0)) zA0h hb);have n1_:=z00.mk (z0g zA0d hb);clear BK174;clear HB;have BK174:=n0_;have HB:=n1_;clear n0_ n1_;(try clear hb);(try clear hb2);(try clear hk);(try clear hi)))
   go_ret
   exact⟨by first|rfl|(simp[z0q,z0p] <;> rfl)|(simp[*,z0q,z0p] <;> rfl),by repeat(first|(with_reducible first|exact HB.out|apply z04|apply z02|apply z05|refine z08 ?_ GE174.out)|exact HB.out)⟩
end Go.Proofs.YthebhbomlllpeaaGreatDoor.X
