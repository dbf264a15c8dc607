/-
  ShowParts: what the proof needs, put together by a program of this session (shake.py), part 8.
-/
import Derived.Test.YthebhbomlllpeaaGreatDoorZShowParts7
set_option linter.unusedVariables false
set_option linter.unusedSimpArgs false
namespace Go.Proofs.YthebhbomlllpeaaGreatDoor.X
open Go.RowKit Go.Proofs.YthebhbomlllpeaaGreatDoorW.PrintWords Go.Proofs.YthebhbomlllpeaaGreatDoorW.PrintLast Go.Proofs.YthebhbomlllpeaaGreatDoorW.PrintMore
attribute [local go_sem] z4e z49 z54 z50 z3l z3j z4h z4g
mutual
def z08.j0:Nat→Int→Bool→List (S33)→ByteArray→List (S60)→Option (Bool)
 |0,_,_,_,_,_=>none
 |k+1,x2,x22,x146000,x146001,x146002=>if x22=true then(some false)else(z08.l0 k x2 0 (x146000.length:Int) 0 x146000 x146001 x146002)
def z08.l0:Nat→Int→Int→Int→Int→List (S33)→ByteArray→List (S60)→Option (Bool)
 |0,_,_,_,_,_,_,_=>none
 |k+1,x2,x7,x25,x26,x146000,x146001,x146002=>if x26<x25 then(if 0≤x26 then(if x26<(x146000.length:Int)then(if(((z0m x146000 x26).f2).length:Int)>x2 then(z08.j2 k x2 x7 x25 x26 true x146000 x146001 x146002 ((z0m x146000 x26).f0.f0) ((z0m x146000 x26).f0.f1) ((z0m x146000 x26).f1) ((z0m x146000 x26).f2))else(z08.j2 k x2 x7 x25 x26 (decide ((((z0m x146000 x26).f0.f1).length:Int)>10)) x146000 x146001 x146002 ((z0m x146000 x26).f0.f0) ((z0m x146000 x26).f0.f1) ((z0m x146000 x26).f1) ((z0m x146000 x26).f2)))else(none))else(none))else(some true)
def z08.j2:Nat→Int→Int→Int→Int→Bool→List (S33)→ByteArray→List (S60)→ByteArray→List (S60)→Int→List (S62)→Option (Bool)
 |0,_,_,_,_,_,_,_,_,_,_,_,_=>none
 |k+1,x2,x7,x25,x26,x45,x146000,x146001,x146002,x148000,x148001,x148002,x148003=>if x45=true then(some false)else(z08.l1 k x2 x7 x25 x26 (x148003.length:Int) 0 x146000 x146001 x146002 x148000 x148001 x148002 x148003)
def z08.l1:Nat→Int→Int→Int→Int→Int→Int→List (S33)→ByteArray→List (S60)→ByteArray→List (S60)→Int→List (S62)→Option (Bool)
 |0,_,_,_,_,_,_,_,_,_,_,_,_,_=>none
 |k+1,x2,x7,x25,x26,x48,x49,x146000,x146001,x146002,x148000,x148001,x148002,x148003=>if x49<x48 then(if 0≤x49 then(if x49<(x148003.length:Int)then(if(((z2e x148003 x49).f6).length:Int)>30 then(some false)else(if(((z2e x148003 x49).f1.f1).length:Int)>10 then(some false)else(if(wrap64 (x7+(((z2e x148003 x49).f6).length:Int)))>60 then(some false)else(z08.l1 k x2 (wrap64 (x7+(((z2e x148003 x49).f6).length:Int))) x25 x26 x48 (wrap64 (x49+1)) x146000 x146001 x146002 x148000 x148001 x148002 x148003))))else(none))else(none))else(z08.l0 k x2 x7 x25 (wrap64 (x26+1)) x146000 x146001 x146002)
end
def z08.f (k:Nat) (l0_0:List (S33)) (a0_1:ByteArray) (l0_2:List (S60)) (a1:Int) (a2:Int):Option (Bool):=if(l0_0.length:Int)>a1 then(z08.j0 k a2 true l0_0 a0_1 l0_2)else(z08.j0 k a2 (decide ((l0_2.length:Int)>10)) l0_0 a0_1 l0_2)
set_option maxHeartbeats 8000000 in
set_option maxRecDepth 100000 in
theorem z08.calls (k:Nat) (A0_0:Option Addr) (c0_0:Nat) (l0_0:List (S33)) (a0_1:ByteArray) (A0_2:Option Addr) (c0_2:Nat) (l0_2:List (S60)) (a1:Int) (a2:Int) (r:Bool) (w:World) (hr0_0:Kd.C k33 w A0_0 l0_0.length l0_0) (hc0_0:l0_0.length≤c0_0) (hr0_2:Kd.C k60 w A0_2 l0_2.length l0_2) (hc0_2:l0_2.length≤c0_2) (h:z08.f k l0_0 a0_1 l0_2 a1 a2=some r) :
 Calls Tryz.prog 17 #[.agg #[.slice A0_0 l0_0.length c0_0,.string a0_1,.slice A0_2 l0_2.length c0_2],.int .i64 a1,.int .i64 a2] w fun e w'=>e=.returned (.bool r)∧Below w.heap.size w w':=by
 have hu27:=Tryz.underlying27;have hu33:=Tryz.underlying33;have HR0_0:=z00.mk hr0_0;have HC0_0:=z00.mk hc0_0;clear hr0_0 hc0_0;have HR0_2:=z00.mk hr0_2;have HC0_2:=z00.mk hc0_2;clear hr0_2 hc0_2;have HB:=z00.mk (Below.refl w.heap.size w);have H:(if(l0_0.length:Int)>a1 then(z08.j0 k a2 true l0_0 a0_1 l0_2)else(z08.j0 k a2 (decide ((l0_2.length:Int)>10)) l0_0 a0_1 l0_2))=some r:=h;clear h;have HC4:=z00.mk H;clear H;go_enter Tryz.func17,Tryz.ntmps17
 go_upto_region 1 with (first|((with_reducible refine z1r (N:=3) rfl ?_);(try(refine z4r (by rfl) ?_;dsimp only));refine z1z ?hg (N:=3) ?hd (cs:=#[.slice A0_0 l0_0.length c0_0,.string a0_1,.slice A0_2 l0_2.length c0_2]) (t:=27) ?hr ?_;(case hd=>rfl);(case hg=>rfl);(case hr=>first|(go_simp;done)|(go_simp;rfl));intro gb145 hg w5 hbox hb;have n0_:=z00.mk (z0g zA00 hb);have n1_:=z00.mk (hbox);have n2_:=z00.mk ((by rw[hg];exact(z0j zA00):w.heap.size≤gb145));have n3_:=z00.mk ((by rw[hg];exact(z0j zA00):w.heap.size≤gb145));clear HB;have HB:=n0_;have BK145:=n1_;have GW145:=n2_;have GE145:=n3_;clear n0_ n1_ n2_ n3_;clear hb hbox hg))
 (try simp only[Act.put,List.setIfInBounds_toArray,List.set_cons_zero,List.set_cons_succ])
 go_cut [22] (fun v22 wc=>∃(kq:Nat) (x22_3:Bool),v22=.bool x22_3∧z00 (z08.j0 kq a2 x22_3 l0_0 a0_1 l0_2=some r)∧z00 (kq≤k)∧z00 (wc.heap[gb145]?=some (.cells #[(.slice A0_0 l0_0.length c0_0),.string a0_1,(.slice A0_2 l0_2.length c0_2)] 27 (0,0)))∧z00 (Below w.heap.size w wc))
 case first =>
  have H:=HC4.out;clear HC4
  by_cases c6:(l0_0.length:Int)>a1
  · rw[if_pos c6]at H;have c6b0:decide (a1<(l0_0.length:Int))=true:=decide_eq_true c6;clear c6
    (first|rw[c6b0]|(simp only[i64_w,i32_w];rw[c6b0])|skip)
    have H':=z00.mk H;clear H;have hcz7_0:w5.cell? ⟨gb145,0,none⟩=some (.slice A0_0 l0_0.length c0_0):=(z01 BK145.out 0).trans rfl;have hcz7_1:w5.cell? ⟨gb145,1,none⟩=some (.string a0_1):=(z01 BK145.out 1).trans rfl;have hcz7_2:w5.cell? ⟨gb145,2,none⟩=some (.slice A0_2 l0_2.length c0_2):=(z01 BK145.out 2).trans rfl;have hfz7_0:=z02 BK145.out 0;have hfz7_1:=z02 BK145.out 1;have hfz7_2:=z02 BK145.out 2;go_wp2;go_meet
    case rel=>exact⟨_,(true),zA04,H',⟨zA0q⟩,⟨zA08⟩,⟨zA0a⟩⟩
  · rw[if_neg c6]at H;have c6b0:decide (a1<(l0_0.length:Int))=false:=decide_eq_false c6
    (try rw[hl146_1]at c6b0)
    (try rw[hl146_3]at c6b0)
    (try rw[hl148_16]at c6b0)
    (try rw[hl148_2]at c6b0)
    (try rw[hl149_16]at c6b0)
    (try rw[hl149_2]at c6b0)
    (try rw[hl150_16]at c6b0)
    (try rw[hl150_2]at c6b0)
    clear c6
    (first|rw[c6b0]|(simp only[i64_w,i32_w];rw[c6b0])|skip)
    have H':=z00.mk H;clear H;have hcz8_0:w5.cell? ⟨gb145,0,none⟩=some (.slice A0_0 l0_0.length c0_0):=(z01 BK145.out 0).trans rfl;have hcz8_1:w5.cell? ⟨gb145,1,none⟩=some (.string a0_1):=(z01 BK145.out 1).trans rfl;have hcz8_2:w5.cell? ⟨gb145,2,none⟩=some (.slice A0_2 l0_2.length c0_2):=(z01 BK145.out 2).trans rfl;have hfz8_0:=z02 BK145.out 0;have hfz8_1:=z02 BK145.out 1;have hfz8_2:=z02 BK145.out 2;go_wp2;go_meet
    case rel=>exact⟨_,(decide ((l0_2.length:Int)>10)),zA04,H',⟨zA0q⟩,⟨zA08⟩,⟨zA0a⟩⟩
 case rest =>
  clear HC4;(try clear c1);(try clear p2);(try clear c6);(try clear c6b0);(try clear hcz7_0);(try clear hcz7_1);(try clear hcz7_2);(try clear hcz8_0);(try clear hcz8_1);(try clear hcz8_2);(try clear hfz7_0);(try clear hfz7_1);(try clear hfz7_2);(try clear hfz8_0);(try clear hfz8_1);(try clear hfz8_2);obtain⟨kq,x22_3,rfl,HA,HJ3,BK145,HB⟩:=hcut
  cases kq with
  |zero=>exact absurd HA.out (by simp[z08.j0])
  |succ kj3 =>
   have H:=HA.out;clear HA;simp only[z08.j0]at H
   by_cases c9:x22_3=true
   · subst c9;have H1:(some false)=some r:=by rw[if_pos rfl]at H;exact H
     clear H;have H:=H1;clear H1;obtain rfl:=Option.some.inj H;go_wp2
     go_ret
     exact⟨by first|rfl|(simp[z0v,z0w] <;> rfl)|(simp[*,z0v,z0w] <;> rfl),by repeat(first|(with_reducible first|exact HB.out|apply z03|apply z04|apply z05|refine z06 ?_ GE145.out)|exact HB.out)⟩
   · replace c9:=Bool.eq_false_iff.mpr c9;subst c9;have H1:(z08.l0 kj3 a2 0 (l0_0.length:Int) 0 l0_0 a0_1 l0_2)=some r:=by rw[if_neg (show ¬(false=true) by decide)]at H;exact H
     clear H;have H:=H1;clear H1;have H':=z00.mk H;clear H;have hcz10_0:wc.cell? ⟨gb145,0,none⟩=some (.slice A0_0 l0_0.length c0_0):=(z01 BK145.out 0).trans rfl;have hcz10_1:wc.cell? ⟨gb145,1,none⟩=some (.string a0_1):=(z01 BK145.out 1).trans rfl;have hcz10_2:wc.cell? ⟨gb145,2,none⟩=some (.slice A0_2 l0_2.length c0_2):=(z01 BK145.out 2).trans rfl;have hfz10_0:=z02 BK145.out 0;have hfz10_1:=z02 BK145.out 1;have hfz10_2:=z02 BK145.out 2;go_wp2
     go_loopg [7,26] kj3 (fun kq v7 v26 w'=>∃(x7_2:Int) (x26_2:Int),v7=.int .i64 x7_2∧v26=.int .i64 x26_2∧z00 (z08.l0 kq a2 x7_2 (l0_0.length:Int) x26_2 l0_0 a0_1 l0_2=some r)∧z00 (kq≤kj3)∧z00 (w'.heap[gb145]?=some (.cells #[(.slice A0_0 l0_0.length c0_0),.string a0_1,(.slice A0_2 l0_2.length c0_2)] 27 (0,0)))∧z00 (Below w.heap.size w w'))
     case atStart=>exact⟨(0),(0),zA04,zA04,H',⟨Nat.le_refl _⟩,⟨zA08⟩,⟨zA0a⟩⟩
     case round =>
      clear H';(try clear c1);(try clear p2);(try clear c6);(try clear c6b0);(try clear c9);(try clear hcz10_0);(try clear hcz10_1);(try clear hcz10_2);(try clear hcz7_0);(try clear hcz7_1);(try clear hcz7_2);(try clear hcz8_0);(try clear hcz8_1);(try clear hcz8_2);(try clear hfz10_0);(try clear hfz10_1);(try clear hfz10_2);(try clear hfz7_0);(try clear hfz7_1);(try clear hfz7_2);(try clear hfz8_0);(try clear hfz8_1);(try clear hfz8_2);(try clear p2);obtain⟨x7_2,x26_2,rfl,rfl,HA,HK2,BK145,HB⟩:=hrel
      cases gk with
      |zero=>exact absurd HA.out (by simp[z08.l0])
      |succ k2 =>
       have H:=HA.out;clear HA;simp only[z08.l0]at H
       by_cases c11:x26_2<(l0_0.length:Int)
       · rw[if_pos c11]at H;have c11b0:decide (x26_2<(l0_0.length:Int))=true:=decide_eq_true c11;clear c11
         by_cases c12:0≤x26_2
         · rw[if_pos c12]at H;have c12b0:decide (0≤x26_2)=true:=decide_eq_true c12;clear c12
           by_cases c13:x26_2<(l0_0.length:Int)
           · rw[if_pos c13]at H;have c13b0:decide (x26_2<(l0_0.length:Int))=true:=decide_eq_true c13;clear c13;have HC14:=z00.mk H;clear H;have hcz15_0:wr.cell? ⟨gb145,0,none⟩=some (.slice A0_0 l0_0.length c0_0):=(z01 BK145.out 0).trans rfl;have hcz15_1:wr.cell? ⟨gb145,1,none⟩=some (.string a0_1):=(z01 BK145.out 1).trans rfl;have hcz15_2:wr.cell? ⟨gb145,2,none⟩=some (.slice A0_2 l0_2.length c0_2):=(z01 BK145.out 2).trans rfl;have hfz15_0:=z02 BK145.out 0;have hfz15_1:=z02 BK145.out 1;have hfz15_2:=z02 BK145.out 2;have p146:0≤(x26_2:Int):=of_decide_eq_true zA02;have q146:x26_2<(l0_0.length:Int):=of_decide_eq_true zA02;obtain⟨ad146,A146_1,c146_1,A146_3,c146_3,e146,hx146_0,hx146_1,hx146_2,hx146_3,hl146_1,hi146_1,hl146_3,hi146_3⟩:=zi9 HR0_0.out x26_2 p146 q146
             cases e146
             replace hx146_0:=(HB.out.cell (World.block_lt_of_cell? w _ hx146_0)).trans hx146_0;replace hx146_1:=(HB.out.cell (World.block_lt_of_cell? w _ hx146_1)).trans hx146_1;replace hx146_2:=(HB.out.cell (World.block_lt_of_cell? w _ hx146_2)).trans hx146_2;replace hx146_3:=(HB.out.cell (World.block_lt_of_cell? w _ hx146_3)).trans hx146_3;have HR146_1:=z00.mk hi146_1;have HC146_1:=z00.mk hl146_1;clear hi146_1 hl146_1;have HR146_3:=z00.mk hi146_3;have HC146_3:=z00.mk hl146_3;clear hi146_3 hl146_3;replace p146:=eq_true p146;replace q146:=eq_true q146
             go_upto_region 8 with (first|((with_reducible refine z1r (N:=9) rfl ?_);(try(refine z4r (by rfl) ?_;dsimp only));refine z1z ?hg (N:=9) ?hd (cs:=#[.string (⟨#[]⟩:ByteArray),.slice none 0 0,.int .i64 0,.slice none 0 0]) (t:=33) ?hr ?_;(case hd=>rfl);(case hg=>rfl);(case hr=>first|(go_simp;done)|(go_simp;rfl));intro gb147 hg w16 hbox hb;have n0_:=z00.mk (z0b (g:=gb145) (o:=.cells #[.slice (some ad146) l0_0.length c0_0,.string a0_1,.slice A0_2 l0_2.length c0_2] 27 (0,0)) zA08 hb);have n1_:=z00.mk (z0g zA0a hb);have n2_:=z00.mk (hbox);have n3_:=z00.mk ((by rw[hg];exact(z0j zA0a):w.heap.size≤gb147));have n4_:=z00.mk ((by rw[hg];exact(z0j zA0a):w.heap.size≤gb147));have n5_:=z00.mk ((by rw[hg];exact Nat.ne_of_lt (z26 (g:=gb145) (o:=.cells #[.slice (some ad146) l0_0.length c0_0,.string a0_1,.slice A0_2 l0_2.length c0_2] 27 (0,0)) zA08):gb145≠gb147));have n6_:=z00.mk ((by rw[hg];exact Nat.ne_of_gt (z26 (g:=gb145) (o:=.cells #[.slice (some ad146) l0_0.length c0_0,.string a0_1,.slice A0_2 l0_2.length c0_2] 27 (0,0)) zA08):gb147≠gb145));clear BK145;clear HB;have BK145:=n0_;have HB:=n1_;have BK147:=n2_;have GW147:=n3_;have GE147:=n4_;have NB145_147:=n5_;have NB147_145:=n6_;clear n0_ n1_ n2_ n3_ n4_ n5_ n6_;clear hb hbox hg;have hnb17:=NB147_145.out;have hnc17:=NB145_147.out;have hcz18_0:w16.cell? ⟨gb147,0,none⟩=some (.string (⟨#[]⟩:ByteArray)):=(z01 BK147.out 0).trans rfl;have hcz18_1:w16.cell? ⟨gb147,1,none⟩=some (.slice none 0 0):=(z01 BK147.out 1).trans rfl;have hcz18_2:w16.cell? ⟨gb147,2,none⟩=some (.int .i64 0):=(z01 BK147.out 2).trans rfl;have hcz18_3:w16.cell? ⟨gb147,3,none⟩=some (.slice none 0 0):=(z01 BK147.out 3).trans rfl;have hfz18_0:=z02 BK147.out 0;have hfz18_1:=z02 BK147.out 1;have hfz18_2:=z02 BK147.out 2;have hfz18_3:=z02 BK147.out 3))
             (try simp only[Act.put,List.setIfInBounds_toArray,List.set_cons_zero,List.set_cons_succ])
             go_cut [45] (fun v45 wc=>∃(kq:Nat) (x45_13:Bool),v45=.bool x45_13∧z00 (z08.j2 kq a2 x7_2 (l0_0.length:Int) x26_2 x45_13 l0_0 a0_1 l0_2 ((z0m l0_0 x26_2).f0.f0) ((z0m l0_0 x26_2).f0.f1) ((z0m l0_0 x26_2).f1) ((z0m l0_0 x26_2).f2)=some r)∧z00 (kq≤k2)∧z00 (wc.heap[gb145]?=some (.cells #[(.slice (some ad146) l0_0.length c0_0),.string a0_1,(.slice A0_2 l0_2.length c0_2)] 27 (0,0)))∧z00 (wc.heap[gb147]?=some (.cells #[.string ((z0m l0_0 x26_2).f0.f0),(.slice A146_1 ((z0m l0_0 x26_2).f0.f1).length c146_1),.int .i64 ((z0m l0_0 x26_2).f1),(.slice A146_3 ((z0m l0_0 x26_2).f2).length c146_3)] 33 (0,0)))∧z00 (Below w.heap.size w wc))
             case first =>
              have H:=HC14.out;clear HC14
              by_cases c19:(((z0m l0_0 x26_2).f2).length:Int)>a2
              · rw[if_pos c19]at H;have c19b0:decide (a2<(((z0m l0_0 x26_2).f2).length:Int))=true:=decide_eq_true c19;clear c19
                (first|rw[c19b0]|(simp only[i64_w,i32_w];rw[c19b0])|skip)
                have H':=z00.mk H;clear H;have hnb20:=NB147_145.out;have hnc20:=NB145_147.out;have hcz21_0:w16.cell? ⟨gb147,0,none⟩=some (.string (⟨#[]⟩:ByteArray)):=(z01 BK147.out 0).trans rfl;have hcz21_1:w16.cell? ⟨gb147,1,none⟩=some (.slice none 0 0):=(z01 BK147.out 1).trans rfl;have hcz21_2:w16.cell? ⟨gb147,2,none⟩=some (.int .i64 0):=(z01 BK147.out 2).trans rfl;have hcz21_3:w16.cell? ⟨gb147,3,none⟩=some (.slice none 0 0):=(z01 BK147.out 3).trans rfl;have hfz21_0:=z02 BK147.out 0;have hfz21_1:=z02 BK147.out 1;have hfz21_2:=z02 BK147.out 2;have hfz21_3:=z02 BK147.out 3;go_wp2;go_meet
                case rel=>exact⟨_,(true),zA04,H',⟨by have:=HJ3.out;have:=HK2.out;first|omega|exact Nat.le_refl _⟩,⟨by(with_reducible repeat(first|refine z0f ?_ _|refine z0h ?_|refine z0c ?_ _));refine z11 ?_ NB145_147.out _;(with_reducible repeat(first|refine z0f ?_ _|refine z0h ?_|refine z0c ?_ _));refine z11 ?_ NB145_147.out _;(with_reducible repeat(first|refine z0f ?_ _|refine z0h ?_|refine z0c ?_ _));refine z11 ?_ NB145_147.out _;(with_reducible repeat(first|refine z0f ?_ _|refine z0h ?_|refine z0c ?_ _));refine z11 ?_ NB145_147.out _;(with_reducible repeat(first|refine z0f ?_ _|refine z0h ?_|refine z0c ?_ _));exact BK145.out⟩,⟨by(with_reducible repeat(first|refine z0f ?_ _|refine z0h ?_|refine z0c ?_ _));refine z0x (cs:=#[.string ((z0m l0_0 x26_2).f0.f0),.slice A146_1 ((z0m l0_0 x26_2).f0.f1).length c146_1,.int .i64 ((z0m l0_0 x26_2).f1),.slice none 0 0]) ?_ 3 _ rfl;(with_reducible repeat(first|refine z0f ?_ _|refine z0h ?_|refine z0c ?_ _));refine z0x (cs:=#[.string ((z0m l0_0 x26_2).f0.f0),.slice A146_1 ((z0m l0_0 x26_2).f0.f1).length c146_1,.int .i64 0,.slice none 0 0]) ?_ 2 _ rfl;(with_reducible repeat(first|refine z0f ?_ _|refine z0h ?_|refine z0c ?_ _));refine z0x (cs:=#[.string ((z0m l0_0 x26_2).f0.f0),.slice none 0 0,.int .i64 0,.slice none 0 0]) ?_ 1 _ rfl;(with_reducible repeat(first|refine z0f ?_ _|refine z0h ?_|refine z0c ?_ _));refine z0x (cs:=#[.string (⟨#[]⟩:ByteArray),.slice none 0 0,.int .i64 0,.slice none 0 0]) ?_ 0 _ rfl;(with_reducible repeat(first|refine z0f ?_ _|refine z0h ?_|refine z0c ?_ _));exact BK147.out⟩,⟨zA0c⟩⟩
              · rw[if_neg c19]at H;have c19b0:decide (a2<(((z0m l0_0 x26_2).f2).length:Int))=false:=decide_eq_false c19
                (try rw[hl146_1]at c19b0)
                (try rw[hl146_3]at c19b0)
                (try rw[hl148_16]at c19b0)
                (try rw[hl148_2]at c19b0)
                (try rw[hl149_16]at c19b0)
                (try rw[hl149_2]at c19b0)
                (try rw[hl150_16]at c19b0)
                (try rw[hl150_2]at c19b0)
                clear c19
                (first|rw[c19b0]|(simp only[i64_w,i32_w];rw[c19b0])|skip)
                have H':=z00.mk H;clear H;have hnb22:=NB147_145.out;have hnc22:=NB145_147.out;have hcz23_0:w16.cell? ⟨gb147,0,none⟩=some (.string (⟨#[]⟩:ByteArray)):=(z01 BK147.out 0).trans rfl;have hcz23_1:w16.cell? ⟨gb147,1,none⟩=some (.slice none 0 0):=(z01 BK147.out 1).trans rfl;have hcz23_2:w16.cell? ⟨gb147,2,none⟩=some (.int .i64 0):=(z01 BK147.out 2).trans rfl;have hcz23_3:w16.cell? ⟨gb147,3,none⟩=some (.slice none 0 0):=(z01 BK147.out 3).trans rfl;have hfz23_0:=z02 BK147.out 0;have hfz23_1:=z02 BK147.out 1;have hfz23_2:=z02 BK147.out 2;have hfz23_3:=z02 BK147.out 3;go_wp2;go_meet
                case rel=>exact⟨_,(decide ((((z0m l0_0 x26_2).f0.f1).length:Int)>10)),zA04,H',⟨by have:=HJ3.out;have:=HK2.out;first|omega|exact Nat.le_refl _⟩,⟨by(with_reducible repeat(first|refine z0f ?_ _|refine z0h ?_|refine z0c ?_ _));refine z11 ?_ NB145_147.out _;(with_reducible repeat(first|refine z0f ?_ _|refine z0h ?_|refine z0c ?_ _));refine z11 ?_ NB145_147.out _;(with_reducible repeat(first|refine z0f ?_ _|refine z0h ?_|refine z0c ?_ _));refine z11 ?_ NB145_147.out _;(with_reducible repeat(first|refine z0f ?_ _|refine z0h ?_|refine z0c ?_ _));refine z11 ?_ NB145_147.out _;(with_reducible repeat(first|refine z0f ?_ _|refine z0h ?_|refine z0c ?_ _));exact BK145.out⟩,⟨by(with_reducible repeat(first|refine z0f ?_ _|refine z0h ?_|refine z0c ?_ _));refine z0x (cs:=#[.string ((z0m l0_0 x26_2).f0.f0),.slice A146_1 ((z0m l0_0 x26_2).f0.f1).length c146_1,.int .i64 ((z0m l0_0 x26_2).f1),.slice none 0 0]) ?_ 3 _ rfl;(with_reducible repeat(first|refine z0f ?_ _|refine z0h ?_|refine z0c ?_ _));refine z0x (cs:=#[.string ((z0m l0_0 x26_2).f0.f0),.slice A146_1 ((z0m l0_0 x26_2).f0.f1).length c146_1,.int .i64 0,.slice none 0 0]) ?_ 2 _ rfl;(with_reducible repeat(first|refine z0f ?_ _|refine z0h ?_|refine z0c ?_ _));refine z0x (cs:=#[.string ((z0m l0_0 x26_2).f0.f0),.slice none 0 0,.int .i64 0,.slice none 0 0]) ?_ 1 _ rfl;(with_reducible repeat(first|refine z0f ?_ _|refine z0h ?_|refine z0c ?_ _));refine z0x (cs:=#[.string (⟨#[]⟩:ByteArray),.slice none 0 0,.int .i64 0,.slice none 0 0]) ?_ 0 _ rfl;(with_reducible repeat(first|refine z0f ?_ _|refine z0h ?_|refine z0c ?_ _));exact BK147.out⟩,⟨zA0c⟩⟩
             case rest =>
              clear HC14;(try clear c1);(try clear p1);(try clear q1);(try clear hx1);(try clear c2);(try clear p2);(try clear c6);(try clear c6b0);(try clear c9);(try clear c11);(try clear c11b0);(try clear c12);(try clear c12b0);(try clear c13);(try clear c13b0);(try clear c14);(try clear p14);(try clear q14);(try clear hx14);(try clear c17);(try clear c19);(try clear c19b0);(try clear c20);(try clear c22);(try clear hcz10_0);(try clear hcz10_1);(try clear hcz10_2);(try clear hcz15_0);(try clear hcz15_1);(try clear hcz15_2);(try clear hcz18_0);(try clear hcz18_1);(try clear hcz18_2);(try clear hcz18_3);(try clear hcz21_0);(try clear hcz21_1);(try clear hcz21_2);(try clear hcz21_3);(try clear hcz23_0);(try clear hcz23_1);(try clear hcz23_2);(try clear hcz23_3);(try clear hcz7_0);(try clear hcz7_1);(try clear hcz7_2);(try clear hcz8_0);(try clear hcz8_1);(try clear hcz8_2);(try clear hfz10_0);(try clear hfz10_1);(try clear hfz10_2);(try clear hfz15_0);(try clear hfz15_1);(try clear hfz15_2);(try clear hfz18_0);(try clear hfz18_1);(try clear hfz18_2);(try clear hfz18_3);(try clear hfz21_0);(try clear hfz21_1);(try clear hfz21_2);(try clear hfz21_3);(try clear hfz23_0);(try clear hfz23_1);(try clear hfz23_2);(try clear hfz23_3);(try clear hfz7_0);(try clear hfz7_1);(try clear hfz7_2);(try clear hfz8_0);(try clear hfz8_1);(try clear hfz8_2);(try clear hx146_0);(try clear hx146_1);(try clear hx146_2);(try clear hx146_3);(try clear p146);(try clear p2);(try clear q146);obtain⟨kq,x45_13,rfl,HA,HJ13,BK145,BK147,HB⟩:=hcut
              cases kq with
              |zero=>exact absurd HA.out (by simp[z08.j2])
              |succ kj13 =>
               have H:=HA.out;clear HA;simp only[z08.j2]at H
               by_cases c24:x45_13=true
               · subst c24;have H1:(some false)=some r:=by rw[if_pos rfl]at H;exact H
                 clear H;have H:=H1;clear H1;obtain rfl:=Option.some.inj H;go_wp2
                 go_ret
                 exact⟨by first|rfl|(simp[z0v,z0w] <;> rfl)|(simp[*,z0v,z0w] <;> rfl),by repeat(first|(with_reducible first|exact HB.out|apply z03|apply z04|apply z05|refine z06 ?_ GE145.out|refine z06 ?_ GE147.out)|exact HB.out)⟩
               · replace c24:=Bool.eq_false_iff.mpr c24;subst c24;have H1:(z08.l1 kj13 a2 x7_2 (l0_0.length:Int) x26_2 (((z0m l0_0 x26_2).f2).length:Int) 0 l0_0 a0_1 l0_2 ((z0m l0_0 x26_2).f0.f0) ((z0m l0_0 x26_2).f0.f1) ((z0m l0_0 x26_2).f1) ((z0m l0_0 x26_2).f2))=some r:=by rw[if_neg (show ¬(false=true) by decide)]at H;exact H
                 clear H;have H:=H1;clear H1;have H':=z00.mk H;clear H;have hnb25:=NB147_145.out;have hnc25:=NB145_147.out;have hcz26_0:wc.cell? ⟨gb147,0,none⟩=some (.string ((z0m l0_0 x26_2).f0.f0)):=(z01 BK147.out 0).trans rfl;have hcz26_1:wc.cell? ⟨gb147,1,none⟩=some (.slice A146_1 ((z0m l0_0 x26_2).f0.f1).length c146_1):=(z01 BK147.out 1).trans rfl;have hcz26_2:wc.cell? ⟨gb147,2,none⟩=some (.int .i64 ((z0m l0_0 x26_2).f1)):=(z01 BK147.out 2).trans rfl;have hcz26_3:wc.cell? ⟨gb147,3,none⟩=some (.slice A146_3 ((z0m l0_0 x26_2).f2).length c146_3):=(z01 BK147.out 3).trans rfl;have hfz26_0:=z02 BK147.out 0;have hfz26_1:=z02 BK147.out 1;have hfz26_2:=z02 BK147.out 2;have hfz26_3:=z02 BK147.out 3;go_wp2
                 go_loopg [7,49] kj13 (fun kq v7 v49 w'=>∃(x7_4:Int) (x49_4:Int),v7=.int .i64 x7_4∧v49=.int .i64 x49_4∧z00 (z08.l1 kq a2 x7_4 (l0_0.length:Int) x26_2 (((z0m l0_0 x26_2).f2).length:Int) x49_4 l0_0 a0_1 l0_2 ((z0m l0_0 x26_2).f0.f0) ((z0m l0_0 x26_2).f0.f1) ((z0m l0_0 x26_2).f1) ((z0m l0_0 x26_2).f2)=some r)∧z00 (kq≤kj13)∧z00 (w'.heap[gb145]?=some (.cells #[(.slice (some ad146) l0_0.length c0_0),.string a0_1,(.slice A0_2 l0_2.length c0_2)] 27 (0,0)))∧z00 (w'.heap[gb147]?=some (.cells #[.string ((z0m l0_0 x26_2).f0.f0),(.slice A146_1 ((z0m l0_0 x26_2).f0.f1).length c146_1),.int .i64 ((z0m l0_0 x26_2).f1),(.slice A146_3 ((z0m l0_0 x26_2).f2).length c146_3)] 33 (0,0)))∧z00 (Below w.heap.size w w'))
                 case atStart=>exact⟨(x7_2),(0),zA04,zA04,H',⟨Nat.le_refl _⟩,⟨zA08⟩,⟨by(with_reducible repeat(first|refine z0f ?_ _|refine z0h ?_|refine z0c ?_ _));exact BK147.out⟩,⟨zA0c⟩⟩
                 case round =>
                  clear H';(try clear c1);(try clear p1);(try clear q1);(try clear hx1);(try clear c2);(try clear p2);(try clear c6);(try clear c6b0);(try clear c9);(try clear c11);(try clear c11b0);(try clear c12);(try clear c12b0);(try clear c13);(try clear c13b0);(try clear c14);(try clear p14);(try clear q14);(try clear hx14);(try clear c17);(try clear c19);(try clear c19b0);(try clear c20);(try clear c22);(try clear c24);(try clear c25);(try clear hcz10_0);(try clear hcz10_1);(try clear hcz10_2);(try clear hcz15_0);(try clear hcz15_1);(try clear hcz15_2);(try clear hcz18_0);(try clear hcz18_1);(try clear hcz18_2);(try clear hcz18_3);(try clear hcz21_0);(try clear hcz21_1);(try clear hcz21_2);(try clear hcz21_3);(try clear hcz23_0);(try clear hcz23_1);(try clear hcz23_2);(try clear hcz23_3);(try clear hcz26_0);(try clear hcz26_1);(try clear hcz26_2);(try clear hcz26_3);(try clear hcz7_0);(try clear hcz7_1);(try clear hcz7_2);(try clear hcz8_0);(try clear hcz8_1);(try clear hcz8_2);(try clear hfz10_0);(try clear hfz10_1);(try clear hfz10_2);(try clear hfz15_0);(try clear hfz15_1);(try clear hfz15_2);(try clear hfz18_0);(try clear hfz18_1);(try clear hfz18_2);(try clear hfz18_3);(try clear hfz21_0);(try clear hfz21_1);(try clear hfz21_2);(try clear hfz21_3);(try clear hfz23_0);(try clear hfz23_1);(try clear hfz23_2);(try clear hfz23_3);(try clear hfz26_0);(try clear hfz26_1);(try clear hfz26_2);(try clear hfz26_3);(try clear hfz7_0);(try clear hfz7_1);(try clear hfz7_2);(try clear hfz8_0);(try clear hfz8_1);(try clear hfz8_2);(try clear hx146_0);(try clear hx146_1);(try clear hx146_2);(try clear hx146_3);(try clear p1);(try clear p14);(try clear p146);(try clear p2);(try clear q1);(try clear q14);(try clear q146);obtain⟨x7_4,x49_4,rfl,rfl,HA,HK4,BK145,BK147,HB⟩:=hrel
                  cases gk with
                  |zero=>exact absurd HA.out (by simp[z08.l1])
                  |succ k4 =>
                   have H:=HA.out;clear HA;simp only[z08.l1]at H
                   by_cases c27:x49_4<(((z0m l0_0 x26_2).f2).length:Int)
                   · rw[if_pos c27]at H;have c27b0:decide (x49_4<(((z0m l0_0 x26_2).f2).length:Int))=true:=decide_eq_true c27;clear c27
                     by_cases c28:0≤x49_4
                     · rw[if_pos c28]at H;have c28b0:decide (0≤x49_4)=true:=decide_eq_true c28;clear c28
                       by_cases c29:x49_4<(((z0m l0_0 x26_2).f2).length:Int)
                       · rw[if_pos c29]at H;have c29b0:decide (x49_4<(((z0m l0_0 x26_2).f2).length:Int))=true:=decide_eq_true c29;clear c29
                         by_cases c30:(((z2e ((z0m l0_0 x26_2).f2) x49_4).f6).length:Int)>30
                         · rw[if_pos c30]at H;have c30b0:decide (30<(((z2e ((z0m l0_0 x26_2).f2) x49_4).f6).length:Int))=true:=decide_eq_true c30;have c30b1:decide (30<((z2e ((z0m l0_0 x26_2).f2) x49_4).f6).length)=true:=decide_eq_true (by omega);clear c30;obtain rfl:=Option.some.inj H;have hnb31:=NB147_145.out;have hnc31:=NB145_147.out;have hcz32_0:wr.cell? ⟨gb147,0,none⟩=some (.string ((z0m l0_0 x26_2).f0.f0)):=(z01 BK147.out 0).trans rfl;have hcz32_1:wr.cell? ⟨gb147,1,none⟩=some (.slice A146_1 ((z0m l0_0 x26_2).f0.f1).length c146_1):=(z01 BK147.out 1).trans rfl;have hcz32_2:wr.cell? ⟨gb147,2,none⟩=some (.int .i64 ((z0m l0_0 x26_2).f1)):=(z01 BK147.out 2).trans rfl;have hcz32_3:wr.cell? ⟨gb147,3,none⟩=some (.slice A146_3 ((z0m l0_0 x26_2).f2).length c146_3):=(z01 BK147.out 3).trans rfl;have hfz32_0:=z02 BK147.out 0;have hfz32_1:=z02 BK147.out 1;have hfz32_2:=z02 BK147.out 2;have hfz32_3:=z02 BK147.out 3;have p148:0≤(x49_4:Int):=of_decide_eq_true zA02;have q148:x49_4<(((z0m l0_0 x26_2).f2).length:Int):=of_decide_eq_true zA02;obtain⟨ad148,A148_2,c148_2,A148_16,c148_16,e148,hx148_0,hx148_1,hx148_2,hx148_3,hx148_4,hx148_5,hx148_6,hx148_7,hx148_8,hx148_9,hx148_10,hx148_11,hx148_12,hx148_13,hx148_14,hx148_15,hx148_16,hl148_2,hi148_2,hl148_16,hi148_16⟩:=z79 HR146_3.out x49_4 p148 q148
                           cases e148
                           replace hx148_0:=(HB.out.cell (World.block_lt_of_cell? w _ hx148_0)).trans hx148_0;replace hx148_1:=(HB.out.cell (World.block_lt_of_cell? w _ hx148_1)).trans hx148_1;replace hx148_2:=(HB.out.cell (World.block_lt_of_cell? w _ hx148_2)).trans hx148_2;replace hx148_3:=(HB.out.cell (World.block_lt_of_cell? w _ hx148_3)).trans hx148_3;replace hx148_4:=(HB.out.cell (World.block_lt_of_cell? w _ hx148_4)).trans hx148_4;replace hx148_5:=(HB.out.cell (World.block_lt_of_cell? w _ hx148_5)).trans hx148_5;replace hx148_6:=(HB.out.cell (World.block_lt_of_cell? w _ hx148_6)).trans hx148_6;replace hx148_7:=(HB.out.cell (World.block_lt_of_cell? w _ hx148_7)).trans hx148_7;replace hx148_8:=(HB.out.cell (World.block_lt_of_cell? w _ hx148_8)).trans hx148_8;replace hx148_9:=(HB.out.cell (World.block_lt_of_cell? w _ hx148_9)).trans hx148_9;replace hx148_10:=(HB.out.cell (World.block_lt_of_cell? w _ hx148_10)).trans hx148_10;replace hx148_11:=(HB.out.cell (World.block_lt_of_cell? w _ hx148_11)).trans hx148_11;replace hx148_12:=(HB.out.cell (World.block_lt_of_cell? w _ hx148_12)).trans hx148_12;replace hx148_13:=(HB.out.cell (World.block_lt_of_cell? w _ hx148_13)).trans hx148_13;replace hx148_14:=(HB.out.cell (World.block_lt_of_cell? w _ hx148_14)).trans hx148_14;replace hx148_15:=(HB.out.cell (World.block_lt_of_cell? w _ hx148_15)).trans hx148_15;replace hx148_16:=(HB.out.cell (World.block_lt_of_cell? w _ hx148_16)).trans hx148_16;have HR148_2:=z00.mk hi148_2;have HC148_2:=z00.mk hl148_2;clear hi148_2 hl148_2;have HR148_16:=z00.mk hi148_16;have HC148_16:=z00.mk hl148_16;clear hi148_16 hl148_16;replace p148:=eq_true p148;replace q148:=eq_true q148;have p149:0≤(x49_4:Int):=of_decide_eq_true zA02;have q149:x49_4<(((z0m l0_0 x26_2).f2).length:Int):=of_decide_eq_true zA02
                           obtain⟨ad149,A149_2,c149_2,A149_16,c149_16,e149,hx149_0,hx149_1,hx149_2,hx149_3,hx149_4,hx149_5,hx149_6,hx149_7,hx149_8,hx149_9,hx149_10,hx149_11,hx149_12,hx149_13,hx149_14,hx149_15,hx149_16,hl149_2,hi149_2,hl149_16,hi149_16⟩:=z79 HR146_3.out x49_4 p149 q149;obtain rfl:ad148=ad149:=(by injection e149)
                           replace hx149_0:=(HB.out.cell (World.block_lt_of_cell? w _ hx149_0)).trans hx149_0;replace hx149_1:=(HB.out.cell (World.block_lt_of_cell? w _ hx149_1)).trans hx149_1;replace hx149_2:=(HB.out.cell (World.block_lt_of_cell? w _ hx149_2)).trans hx149_2;replace hx149_3:=(HB.out.cell (World.block_lt_of_cell? w _ hx149_3)).trans hx149_3;replace hx149_4:=(HB.out.cell (World.block_lt_of_cell? w _ hx149_4)).trans hx149_4;replace hx149_5:=(HB.out.cell (World.block_lt_of_cell? w _ hx149_5)).trans hx149_5;replace hx149_6:=(HB.out.cell (World.block_lt_of_cell? w _ hx149_6)).trans hx149_6;replace hx149_7:=(HB.out.cell (World.block_lt_of_cell? w _ hx149_7)).trans hx149_7;replace hx149_8:=(HB.out.cell (World.block_lt_of_cell? w _ hx149_8)).trans hx149_8;replace hx149_9:=(HB.out.cell (World.block_lt_of_cell? w _ hx149_9)).trans hx149_9;replace hx149_10:=(HB.out.cell (World.block_lt_of_cell? w _ hx149_10)).trans hx149_10;replace hx149_11:=(HB.out.cell (World.block_lt_of_cell? w _ hx149_11)).trans hx149_11;replace hx149_12:=(HB.out.cell (World.block_lt_of_cell? w _ hx149_12)).trans hx149_12;replace hx149_13:=(HB.out.cell (World.block_lt_of_cell? w _ hx149_13)).trans hx149_13;replace hx149_14:=(HB.out.cell (World.block_lt_of_cell? w _ hx149_14)).trans hx149_14;replace hx149_15:=(HB.out.cell (World.block_lt_of_cell? w _ hx149_15)).trans hx149_15;replace hx149_16:=(HB.out.cell (World.block_lt_of_cell? w _ hx149_16)).trans hx149_16;have HR149_2:=z00.mk hi149_2;have HC149_2:=z00.mk hl149_2;clear hi149_2 hl149_2;have HR149_16:=z00.mk hi149_16;have HC149_16:=z00.mk hl149_16;clear hi149_16 hl149_16;replace p149:=eq_true p149;replace q149:=eq_true q149;have ea_:=Option.some.inj (hx148_2.symm.trans hx149_2);injection ea_ with ea_ en_ ec_
                           subst ea_;subst ec_;clear en_;have ea_:=Option.some.inj (hx148_16.symm.trans hx149_16);injection ea_ with ea_ en_ ec_
                           subst ea_;subst ec_;clear en_;go_wp2
                           go_ret
                           exact⟨by first|rfl|(simp[z0v,z0w] <;> rfl)|(simp[*,z0v,z0w] <;> rfl),by repeat(first|(with_reducible first|exact HB.out|apply z03|apply z04|apply z05|refine z06 ?_ GE145.out|refine z06 ?_ GE147.out)|exact HB.out)⟩
                         · rw[if_neg c30]at H;have c30b0:decide (30<(((z2e ((z0m l0_0 x26_2).f2) x49_4).f6).length:Int))=false:=decide_eq_false c30
                           (try rw[hl146_1]at c30b0)
                           (try rw[hl146_3]at c30b0)
                           (try rw[hl148_16]at c30b0)
                           (try rw[hl148_2]at c30b0)
                           (try rw[hl149_16]at c30b0)
                           (try rw[hl149_2]at c30b0)
                           (try rw[hl150_16]at c30b0)
                           (try rw[hl150_2]at c30b0)
                           have c30b1:decide (30<((z2e ((z0m l0_0 x26_2).f2) x49_4).f6).length)=false:=decide_eq_false (by omega)
                           (try rw[hl146_1]at c30b1)
                           (try rw[hl146_3]at c30b1)
                           (try rw[hl148_16]at c30b1)
                           (try rw[hl148_2]at c30b1)
                           (try rw[hl149_16]at c30b1)
                           (try rw[hl149_2]at c30b1)
                           (try rw[hl150_16]at c30b1)
                           (try rw[hl150_2]at c30b1)
                           clear c30
                           by_cases c33:(((z2e ((z0m l0_0 x26_2).f2) x49_4).f1.f1).length:Int)>10
                           · rw[if_pos c33]at H;have c33b0:decide (10<(((z2e ((z0m l0_0 x26_2).f2) x49_4).f1.f1).length:Int))=true:=decide_eq_true c33;have c33b1:decide (10<((z2e ((z0m l0_0 x26_2).f2) x49_4).f1.f1).length)=true:=decide_eq_true (by omega);clear c33;obtain rfl:=Option.some.inj H;have hnb34:=NB147_145.out;have hnc34:=NB145_147.out;have hcz35_0:wr.cell? ⟨gb147,0,none⟩=some (.string ((z0m l0_0 x26_2).f0.f0)):=(z01 BK147.out 0).trans rfl;have hcz35_1:wr.cell? ⟨gb147,1,none⟩=some (.slice A146_1 ((z0m l0_0 x26_2).f0.f1).length c146_1):=(z01 BK147.out 1).trans rfl;have hcz35_2:wr.cell? ⟨gb147,2,none⟩=some (.int .i64 ((z0m l0_0 x26_2).f1)):=(z01 BK147.out 2).trans rfl;have hcz35_3:wr.cell? ⟨gb147,3,none⟩=some (.slice A146_3 ((z0m l0_0 x26_2).f2).length c146_3):=(z01 BK147.out 3).trans rfl;have hfz35_0:=z02 BK147.out 0;have hfz35_1:=z02 BK147.out 1;have hfz35_2:=z02 BK147.out 2;have hfz35_3:=z02 BK147.out 3;have p148:0≤(x49_4:Int):=of_decide_eq_true zA02;have q148:x49_4<(((z0m l0_0 x26_2).f2).length:Int):=of_decide_eq_true zA02;obtain⟨ad148,A148_2,c148_2,A148_16,c148_16,e148,hx148_0,hx148_1,hx148_2,hx148_3,hx148_4,hx148_5,hx148_6,hx148_7,hx148_8,hx148_9,hx148_10,hx148_11,hx148_12,hx148_13,hx148_14,hx148_15,hx148_16,hl148_2,hi148_2,hl148_16,hi148_16⟩:=z79 HR146_3.out x49_4 p148 q148
                             cases e148
                             replace hx148_0:=(HB.out.cell (World.block_lt_of_cell? w _ hx148_0)).trans hx148_0;replace hx148_1:=(HB.out.cell (World.block_lt_of_cell? w _ hx148_1)).trans hx148_1;replace hx148_2:=(HB.out.cell (World.block_lt_of_cell? w _ hx148_2)).trans hx148_2;replace hx148_3:=(HB.out.cell (World.block_lt_of_cell? w _ hx148_3)).trans hx148_3;replace hx148_4:=(HB.out.cell (World.block_lt_of_cell? w _ hx148_4)).trans hx148_4;replace hx148_5:=(HB.out.cell (World.block_lt_of_cell? w _ hx148_5)).trans hx148_5;replace hx148_6:=(HB.out.cell (World.block_lt_of_cell? w _ hx148_6)).trans hx148_6;replace hx148_7:=(HB.out.cell (World.block_lt_of_cell? w _ hx148_7)).trans hx148_7;replace hx148_8:=(HB.out.cell (World.block_lt_of_cell? w _ hx148_8)).trans hx148_8;replace hx148_9:=(HB.out.cell (World.block_lt_of_cell? w _ hx148_9)).trans hx148_9;replace hx148_10:=(HB.out.cell (World.block_lt_of_cell? w _ hx148_10)).trans hx148_10;replace hx148_11:=(HB.out.cell (World.block_lt_of_cell? w _ hx148_11)).trans hx148_11;replace hx148_12:=(HB.out.cell (World.block_lt_of_cell? w _ hx148_12)).trans hx148_12;replace hx148_13:=(HB.out.cell (World.block_lt_of_cell? w _ hx148_13)).trans hx148_13;replace hx148_14:=(HB.out.cell (World.block_lt_of_cell? w _ hx148_14)).trans hx148_14;replace hx148_15:=(HB.out.cell (World.block_lt_of_cell? w _ hx148_15)).trans hx148_15;replace hx148_16:=(HB.out.cell (World.block_lt_of_cell? w _ hx148_16)).trans hx148_16;have HR148_2:=z00.mk hi148_2;have HC148_2:=z00.mk hl148_2;clear hi148_2 hl148_2;have HR148_16:=z00.mk hi148_16;have HC148_16:=z00.mk hl148_16;clear hi148_16 hl148_16;replace p148:=eq_true p148;replace q148:=eq_true q148;have p149:0≤(x49_4:Int):=of_decide_eq_true zA02;have q149:x49_4<(((z0m l0_0 x26_2).f2).length:Int):=of_decide_eq_true zA02
                             obtain⟨ad149,A149_2,c149_2,A149_16,c149_16,e149,hx149_0,hx149_1,hx149_2,hx149_3,hx149_4,hx149_5,hx149_6,hx149_7,hx149_8,hx149_9,hx149_10,hx149_11,hx149_12,hx149_13,hx149_14,hx149_15,hx149_16,hl149_2,hi149_2,hl149_16,hi149_16⟩:=z79 HR146_3.out x49_4 p149 q149;obtain rfl:ad148=ad149:=(by injection e149)
                             replace hx149_0:=(HB.out.cell (World.block_lt_of_cell? w _ hx149_0)).trans hx149_0;replace hx149_1:=(HB.out.cell (World.block_lt_of_cell? w _ hx149_1)).trans hx149_1;replace hx149_2:=(HB.out.cell (World.block_lt_of_cell? w _ hx149_2)).trans hx149_2;replace hx149_3:=(HB.out.cell (World.block_lt_of_cell? w _ hx149_3)).trans hx149_3;replace hx149_4:=(HB.out.cell (World.block_lt_of_cell? w _ hx149_4)).trans hx149_4;replace hx149_5:=(HB.out.cell (World.block_lt_of_cell? w _ hx149_5)).trans hx149_5;replace hx149_6:=(HB.out.cell (World.block_lt_of_cell? w _ hx149_6)).trans hx149_6;replace hx149_7:=(HB.out.cell (World.block_lt_of_cell? w _ hx149_7)).trans hx149_7;replace hx149_8:=(HB.out.cell (World.block_lt_of_cell? w _ hx149_8)).trans hx149_8;replace hx149_9:=(HB.out.cell (World.block_lt_of_cell? w _ hx149_9)).trans hx149_9;replace hx149_10:=(HB.out.cell (World.block_lt_of_cell? w _ hx149_10)).trans hx149_10;replace hx149_11:=(HB.out.cell (World.block_lt_of_cell? w _ hx149_11)).trans hx149_11;replace hx149_12:=(HB.out.cell (World.block_lt_of_cell? w _ hx149_12)).trans hx149_12;replace hx149_13:=(HB.out.cell (World.block_lt_of_cell? w _ hx149_13)).trans hx149_13;replace hx149_14:=(HB.out.cell (World.block_lt_of_cell? w _ hx149_14)).trans hx149_14;replace hx149_15:=(HB.out.cell (World.block_lt_of_cell? w _ hx149_15)).trans hx149_15;replace hx149_16:=(HB.out.cell (World.block_lt_of_cell? w _ hx149_16)).trans hx149_16;have HR149_2:=z00.mk hi149_2;have HC149_2:=z00.mk hl149_2;clear hi149_2 hl149_2;have HR149_16:=z00.mk hi149_16;have HC149_16:=z00.mk hl149_16;clear hi149_16 hl149_16;replace p149:=eq_true p149;replace q149:=eq_true q149;have ea_:=Option.some.inj (hx148_2.symm.trans hx149_2);injection ea_ with ea_ en_ ec_
                             subst ea_;subst ec_;clear en_;have ea_:=Option.some.inj (hx148_16.symm.trans hx149_16);injection ea_ with ea_ en_ ec_
                             subst ea_;subst ec_;clear en_;have p150:0≤(x49_4:Int):=of_decide_eq_true zA02;have q150:x49_4<(((z0m l0_0 x26_2).f2).length:Int):=of_decide_eq_true zA02;obtain⟨ad150,A150_2,c150_2,A150_16,c150_16,e150,hx150_0,hx150_1,hx150_2,hx150_3,hx150_4,hx150_5,hx150_6,hx150_7,hx150_8,hx150_9,hx150_10,hx150_11,hx150_12,hx150_13,hx150_14,hx150_15,hx150_16,hl150_2,hi150_2,hl150_16,hi150_16⟩:=z79 HR146_3.out x49_4 p150 q150;obtain rfl:ad148=ad150:=(by injection e150)
                             replace hx150_0:=(HB.out.cell (World.block_lt_of_cell? w _ hx150_0)).trans hx150_0;replace hx150_1:=(HB.out.cell (World.block_lt_of_cell? w _ hx150_1)).trans hx150_1;replace hx150_2:=(HB.out.cell (World.block_lt_of_cell? w _ hx150_2)).trans hx150_2;replace hx150_3:=(HB.out.cell (World.block_lt_of_cell? w _ hx150_3)).trans hx150_3;replace hx150_4:=(HB.out.cell (World.block_lt_of_cell? w _ hx150_4)).trans hx150_4;replace hx150_5:=(HB.out.cell (World.block_lt_of_cell? w _ hx150_5)).trans hx150_5;replace hx150_6:=(HB.out.cell (World.block_lt_of_cell? w _ hx150_6)).trans hx150_6;replace hx150_7:=(HB.out.cell (World.block_lt_of_cell? w _ hx150_7)).trans hx150_7;replace hx150_8:=(HB.out.cell (World.block_lt_of_cell? w _ hx150_8)).trans hx150_8;replace hx150_9:=(HB.out.cell (World.block_lt_of_cell? w _ hx150_9)).trans hx150_9;replace hx150_10:=(HB.out.cell (World.block_lt_of_cell? w _ hx150_10)).trans hx150_10;replace hx150_11:=(HB.out.cell (World.block_lt_of_cell? w _ hx150_11)).trans hx150_11;replace hx150_12:=(HB.out.cell (World.block_lt_of_cell? w _ hx150_12)).trans hx150_12;replace hx150_13:=(HB.out.cell (World.block_lt_of_cell? w _ hx150_13)).trans hx150_13;replace hx150_14:=(HB.out.cell (World.block_lt_of_cell? w _ hx150_14)).trans hx150_14;replace hx150_15:=(HB.out.cell (World.block_lt_of_cell? w _ hx150_15)).trans hx150_15;replace hx150_16:=(HB.out.cell (World.block_lt_of_cell? w _ hx150_16)).trans hx150_16;have HR150_2:=z00.mk hi150_2;have HC150_2:=z00.mk hl150_2;clear hi150_2 hl150_2;have HR150_16:=z00.mk hi150_16;have HC150_16:=z00.mk hl150_16;clear hi150_16 hl150_16;replace p150:=eq_true p150;replace q150:=eq_true q150;have ea_:=Option.some.inj (hx148_2.symm.trans hx150_2);injection ea_ with ea_ en_ ec_
                             subst ea_;subst ec_;clear en_;have ea_:=Option.some.inj (hx148_16.symm.trans hx150_16);injection ea_ with ea_ en_ ec_
                             subst ea_;subst ec_;clear en_;go_wp2
                             go_ret
                             exact⟨by first|rfl|(simp[z0v,z0w] <;> rfl)|(simp[*,z0v,z0w] <;> rfl),by repeat(first|(with_reducible first|exact HB.out|apply z03|apply z04|apply z05|refine z06 ?_ GE145.out|refine z06 ?_ GE147.out)|exact HB.out)⟩
                           · rw[if_neg c33]at H;have c33b0:decide (10<(((z2e ((z0m l0_0 x26_2).f2) x49_4).f1.f1).length:Int))=false:=decide_eq_false c33
                             (try rw[hl146_1]at c33b0)
                             (try rw[hl146_3]at c33b0)
                             (try rw[hl148_16]at c33b0)
                             (try rw[hl148_2]at c33b0)
                             (try rw[hl149_16]at c33b0)
                             (try rw[hl149_2]at c33b0)
                             (try rw[hl150_16]at c33b0)
                             (try rw[hl150_2]at c33b0)
                             have c33b1:decide (10<((z2e ((z0m l0_0 x26_2).f2) x49_4).f1.f1).length)=false:=decide_eq_false (by omega)
                             (try rw[hl146_1]at c33b1)
                             (try rw[hl146_3]at c33b1)
                             (try rw[hl148_16]at c33b1)
                             (try rw[hl148_2]at c33b1)
                             (try rw[hl149_16]at c33b1)
                             (try rw[hl149_2]at c33b1)
                             (try rw[hl150_16]at c33b1)
                             (try rw[hl150_2]at c33b1)
                             clear c33
                             by_cases c36:(wrap64 (x7_4+(((z2e ((z0m l0_0 x26_2).f2) x49_4).f6).length:Int)))>60
                             · rw[if_pos c36]at H;have c36b0:decide (60<(wrap64 (x7_4+(((z2e ((z0m l0_0 x26_2).f2) x49_4).f6).length:Int))))=true:=decide_eq_true c36;clear c36;obtain rfl:=Option.some.inj H;have hnb37:=NB147_145.out;have hnc37:=NB145_147.out;have hcz38_0:wr.cell? ⟨gb147,0,none⟩=some (.string ((z0m l0_0 x26_2).f0.f0)):=(z01 BK147.out 0).trans rfl;have hcz38_1:wr.cell? ⟨gb147,1,none⟩=some (.slice A146_1 ((z0m l0_0 x26_2).f0.f1).length c146_1):=(z01 BK147.out 1).trans rfl;have hcz38_2:wr.cell? ⟨gb147,2,none⟩=some (.int .i64 ((z0m l0_0 x26_2).f1)):=(z01 BK147.out 2).trans rfl;have hcz38_3:wr.cell? ⟨gb147,3,none⟩=some (.slice A146_3 ((z0m l0_0 x26_2).f2).length c146_3):=(z01 BK147.out 3).trans rfl;have hfz38_0:=z02 BK147.out 0;have hfz38_1:=z02 BK147.out 1;have hfz38_2:=z02 BK147.out 2;have hfz38_3:=z02 BK147.out 3;have p148:0≤(x49_4:Int):=of_decide_eq_true zA02;have q148:x49_4<(((z0m l0_0 x26_2).f2).length:Int):=of_decide_eq_true zA02;obtain⟨ad148,A148_2,c148_2,A148_16,c148_16,e148,hx148_0,hx148_1,hx148_2,hx148_3,hx148_4,hx148_5,hx148_6,hx148_7,hx148_8,hx148_9,hx148_10,hx148_11,hx148_12,hx148_13,hx148_14,hx148_15,hx148_16,hl148_2,hi148_2,hl148_16,hi148_16⟩:=z79 HR146_3.out x49_4 p148 q148
                               cases e148
                               replace hx148_0:=(HB.out.cell (World.block_lt_of_cell? w _ hx148_0)).trans hx148_0;replace hx148_1:=(HB.out.cell (World.block_lt_of_cell? w _ hx148_1)).trans hx148_1;replace hx148_2:=(HB.out.cell (World.block_lt_of_cell? w _ hx148_2)).trans hx148_2;replace hx148_3:=(HB.out.cell (World.block_lt_of_cell? w _ hx148_3)).trans hx148_3;replace hx148_4:=(HB.out.cell (World.block_lt_of_cell? w _ hx148_4)).trans hx148_4;replace hx148_5:=(HB.out.cell (World.block_lt_of_cell? w _ hx148_5)).trans hx148_5;replace hx148_6:=(HB.out.cell (World.block_lt_of_cell? w _ hx148_6)).trans hx148_6;replace hx148_7:=(HB.out.cell (World.block_lt_of_cell? w _ hx148_7)).trans hx148_7;replace hx148_8:=(HB.out.cell (World.block_lt_of_cell? w _ hx148_8)).trans hx148_8;replace hx148_9:=(HB.out.cell (World.block_lt_of_cell? w _ hx148_9)).trans hx148_9;replace hx148_10:=(HB.out.cell (World.block_lt_of_cell? w _ hx148_10)).trans hx148_10;replace hx148_11:=(HB.out.cell (World.block_lt_of_cell? w _ hx148_11)).trans hx148_11;replace hx148_12:=(HB.out.cell (World.block_lt_of_cell? w _ hx148_12)).trans hx148_12;replace hx148_13:=(HB.out.cell (World.block_lt_of_cell? w _ hx148_13)).trans hx148_13;replace hx148_14:=(HB.out.cell (World.block_lt_of_cell? w _ hx148_14)).trans hx148_14;replace hx148_15:=(HB.out.cell (World.block_lt_of_cell? w _ hx148_15)).trans hx148_15;replace hx148_16:=(HB.out.cell (World.block_lt_of_cell? w _ hx148_16)).trans hx148_16;have HR148_2:=z00.mk hi148_2;have HC148_2:=z00.mk hl148_2;clear hi148_2 hl148_2;have HR148_16:=z00.mk hi148_16;have HC148_16:=z00.mk hl148_16;clear hi148_16 hl148_16;replace p148:=eq_true p148;replace q148:=eq_true q148;have p149:0≤(x49_4:Int):=of_decide_eq_true zA02;have q149:x49_4<(((z0m l0_0 x26_2).f2).length:Int):=of_decide_eq_true zA02
                               obtain⟨ad149,A149_2,c149_2,A149_16,c149_16,e149,hx149_0,hx149_1,hx149_2,hx149_3,hx149_4,hx149_5,hx149_6,hx149_7,hx149_8,hx149_9,hx149_10,hx149_11,hx149_12,hx149_13,hx149_14,hx149_15,hx149_16,hl149_2,hi149_2,hl149_16,hi149_16⟩:=z79 HR146_3.out x49_4 p149 q149;obtain rfl:ad148=ad149:=(by injection e149)
                               replace hx149_0:=(HB.out.cell (World.block_lt_of_cell? w _ hx149_0)).trans hx149_0;replace hx149_1:=(HB.out.cell (World.block_lt_of_cell? w _ hx149_1)).trans hx149_1;replace hx149_2:=(HB.out.cell (World.block_lt_of_cell? w _ hx149_2)).trans hx149_2;replace hx149_3:=(HB.out.cell (World.block_lt_of_cell? w _ hx149_3)).trans hx149_3;replace hx149_4:=(HB.out.cell (World.block_lt_of_cell? w _ hx149_4)).trans hx149_4;replace hx149_5:=(HB.out.cell (World.block_lt_of_cell? w _ hx149_5)).trans hx149_5;replace hx149_6:=(HB.out.cell (World.block_lt_of_cell? w _ hx149_6)).trans hx149_6;replace hx149_7:=(HB.out.cell (World.block_lt_of_cell? w _ hx149_7)).trans hx149_7;replace hx149_8:=(HB.out.cell (World.block_lt_of_cell? w _ hx149_8)).trans hx149_8;replace hx149_9:=(HB.out.cell (World.block_lt_of_cell? w _ hx149_9)).trans hx149_9;replace hx149_10:=(HB.out.cell (World.block_lt_of_cell? w _ hx149_10)).trans hx149_10;replace hx149_11:=(HB.out.cell (World.block_lt_of_cell? w _ hx149_11)).trans hx149_11;replace hx149_12:=(HB.out.cell (World.block_lt_of_cell? w _ hx149_12)).trans hx149_12;replace hx149_13:=(HB.out.cell (World.block_lt_of_cell? w _ hx149_13)).trans hx149_13;replace hx149_14:=(HB.out.cell (World.block_lt_of_cell? w _ hx149_14)).trans hx149_14;replace hx149_15:=(HB.out.cell (World.block_lt_of_cell? w _ hx149_15)).trans hx149_15;replace hx149_16:=(HB.out.cell (World.block_lt_of_cell? w _ hx149_16)).trans hx149_16;have HR149_2:=z00.mk hi149_2;have HC149_2:=z00.mk hl149_2;clear hi149_2 hl149_2;have HR149_16:=z00.mk hi149_16;have HC149_16:=z00.mk hl149_16;clear hi149_16 hl149_16;replace p149:=eq_true p149;replace q149:=eq_true q149;have ea_:=Option.some.inj (hx148_2.symm.trans hx149_2);injection ea_ with ea_ en_ ec_
                               subst ea_;subst ec_;clear en_;have ea_:=Option.some.inj (hx148_16.symm.trans hx149_16);injection ea_ with ea_ en_ ec_
                               subst ea_;subst ec_;clear en_;have p150:0≤(x49_4:Int):=of_decide_eq_true zA02;have q150:x49_4<(((z0m l0_0 x26_2).f2).length:Int):=of_decide_eq_true zA02;obtain⟨ad150,A150_2,c150_2,A150_16,c150_16,e150,hx150_0,hx150_1,hx150_2,hx150_3,hx150_4,hx150_5,hx150_6,hx150_7,hx150_8,hx150_9,hx150_10,hx150_11,hx150_12,hx150_13,hx150_14,hx150_15,hx150_16,hl150_2,hi150_2,hl150_16,hi150_16⟩:=z79 HR146_3.out x49_4 p150 q150;obtain rfl:ad148=ad150:=(by injection e150)
                               replace hx150_0:=(HB.out.cell (World.block_lt_of_cell? w _ hx150_0)).trans hx150_0;replace hx150_1:=(HB.out.cell (World.block_lt_of_cell? w _ hx150_1)).trans hx150_1;replace hx150_2:=(HB.out.cell (World.block_lt_of_cell? w _ hx150_2)).trans hx150_2;replace hx150_3:=(HB.out.cell (World.block_lt_of_cell? w _ hx150_3)).trans hx150_3;replace hx150_4:=(HB.out.cell (World.block_lt_of_cell? w _ hx150_4)).trans hx150_4;replace hx150_5:=(HB.out.cell (World.block_lt_of_cell? w _ hx150_5)).trans hx150_5;replace hx150_6:=(HB.out.cell (World.block_lt_of_cell? w _ hx150_6)).trans hx150_6;replace hx150_7:=(HB.out.cell (World.block_lt_of_cell? w _ hx150_7)).trans hx150_7;replace hx150_8:=(HB.out.cell (World.block_lt_of_cell? w _ hx150_8)).trans hx150_8;replace hx150_9:=(HB.out.cell (World.block_lt_of_cell? w _ hx150_9)).trans hx150_9;replace hx150_10:=(HB.out.cell (World.block_lt_of_cell? w _ hx150_10)).trans hx150_10;replace hx150_11:=(HB.out.cell (World.block_lt_of_cell? w _ hx150_11)).trans hx150_11;replace hx150_12:=(HB.out.cell (World.block_lt_of_cell? w _ hx150_12)).trans hx150_12;replace hx150_13:=(HB.out.cell (World.block_lt_of_cell? w _ hx150_13)).trans hx150_13;replace hx150_14:=(HB.out.cell (World.block_lt_of_cell? w _ hx150_14)).trans hx150_14;replace hx150_15:=(HB.out.cell (World.block_lt_of_cell? w _ hx150_15)).trans hx150_15;replace hx150_16:=(HB.out.cell (World.block_lt_of_cell? w _ hx150_16)).trans hx150_16;have HR150_2:=z00.mk hi150_2;have HC150_2:=z00.mk hl150_2;clear hi150_2 hl150_2;have HR150_16:=z00.mk hi150_16;have HC150_16:=z00.mk hl150_16;clear hi150_16 hl150_16;replace p150:=eq_true p150;replace q150:=eq_true q150;have ea_:=Option.some.inj (hx148_2.symm.trans hx150_2);injection ea_ with ea_ en_ ec_
                               subst ea_;subst ec_;clear en_;have ea_:=Option.some.inj (hx148_16.symm.trans hx150_16);injection ea_ with ea_ en_ ec_
                               subst ea_;subst ec_;clear en_;go_wp2
                               go_ret
                               exact⟨by first|rfl|(simp[z0v,z0w] <;> rfl)|(simp[*,z0v,z0w] <;> rfl),by repeat(first|(with_reducible first|exact HB.out|apply z03|apply z04|apply z05|refine z06 ?_ GE145.out|refine z06 ?_ GE147.out)|exact HB.out)⟩
                             · rw[if_neg c36]at H;have c36b0:decide (60<(wrap64 (x7_4+(((z2e ((z0m l0_0 x26_2).f2) x49_4).f6).length:Int))))=false:=decide_eq_false c36
                               (try rw[hl146_1]at c36b0)
                               (try rw[hl146_3]at c36b0)
                               (try rw[hl148_16]at c36b0)
                               (try rw[hl148_2]at c36b0)
                               (try rw[hl149_16]at c36b0)
                               (try rw[hl149_2]at c36b0)
                               (try rw[hl150_16]at c36b0)
                               (try rw[hl150_2]at c36b0)
                               clear c36;have H':=z00.mk H;clear H;have hnb39:=NB147_145.out;have hnc39:=NB145_147.out;have hcz40_0:wr.cell? ⟨gb147,0,none⟩=some (.string ((z0m l0_0 x26_2).f0.f0)):=(z01 BK147.out 0).trans rfl;have hcz40_1:wr.cell? ⟨gb147,1,none⟩=some (.slice A146_1 ((z0m l0_0 x26_2).f0.f1).length c146_1):=(z01 BK147.out 1).trans rfl;have hcz40_2:wr.cell? ⟨gb147,2,none⟩=some (.int .i64 ((z0m l0_0 x26_2).f1)):=(z01 BK147.out 2).trans rfl;have hcz40_3:wr.cell? ⟨gb147,3,none⟩=some (.slice A146_3 ((z0m l0_0 x26_2).f2).length c146_3):=(z01 BK147.out 3).trans rfl;have hfz40_0:=z02 BK147.out 0;have hfz40_1:=z02 BK147.out 1;have hfz40_2:=z02 BK147.out 2;have hfz40_3:=z02 BK147.out 3;have p148:0≤(x49_4:Int):=of_decide_eq_true zA02;have q148:x49_4<(((z0m l0_0 x26_2).f2).length:Int):=of_decide_eq_true zA02;obtain⟨ad148,A148_2,c148_2,A148_16,c148_16,e148,hx148_0,hx148_1,hx148_2,hx148_3,hx148_4,hx148_5,hx148_6,hx148_7,hx148_8,hx148_9,hx148_10,hx148_11,hx148_12,hx148_13,hx148_14,hx148_15,hx148_16,hl148_2,hi148_2,hl148_16,hi148_16⟩:=z79 HR146_3.out x49_4 p148 q148
                               cases e148
                               replace hx148_0:=(HB.out.cell (World.block_lt_of_cell? w _ hx148_0)).trans hx148_0;replace hx148_1:=(HB.out.cell (World.block_lt_of_cell? w _ hx148_1)).trans hx148_1;replace hx148_2:=(HB.out.cell (World.block_lt_of_cell? w _ hx148_2)).trans hx148_2;replace hx148_3:=(HB.out.cell (World.block_lt_of_cell? w _ hx148_3)).trans hx148_3;replace hx148_4:=(HB.out.cell (World.block_lt_of_cell? w _ hx148_4)).trans hx148_4;replace hx148_5:=(HB.out.cell (World.block_lt_of_cell? w _ hx148_5)).trans hx148_5;replace hx148_6:=(HB.out.cell (World.block_lt_of_cell? w _ hx148_6)).trans hx148_6;replace hx148_7:=(HB.out.cell (World.block_lt_of_cell? w _ hx148_7)).trans hx148_7;replace hx148_8:=(HB.out.cell (World.block_lt_of_cell? w _ hx148_8)).trans hx148_8;replace hx148_9:=(HB.out.cell (World.block_lt_of_cell? w _ hx148_9)).trans hx148_9;replace hx148_10:=(HB.out.cell (World.block_lt_of_cell? w _ hx148_10)).trans hx148_10;replace hx148_11:=(HB.out.cell (World.block_lt_of_cell? w _ hx148_11)).trans hx148_11;replace hx148_12:=(HB.out.cell (World.block_lt_of_cell? w _ hx148_12)).trans hx148_12;replace hx148_13:=(HB.out.cell (World.block_lt_of_cell? w _ hx148_13)).trans hx148_13;replace hx148_14:=(HB.out.cell (World.block_lt_of_cell? w _ hx148_14)).trans hx148_14;replace hx148_15:=(HB.out.cell (World.block_lt_of_cell? w _ hx148_15)).trans hx148_15;replace hx148_16:=(HB.out.cell (World.block_lt_of_cell? w _ hx148_16)).trans hx148_16;have HR148_2:=z00.mk hi148_2;have HC148_2:=z00.mk hl148_2;clear hi148_2 hl148_2;have HR148_16:=z00.mk hi148_16;have HC148_16:=z00.mk hl148_16;clear hi148_16 hl148_16;replace p148:=eq_true p148;replace q148:=eq_true q148;have p149:0≤(x49_4:Int):=of_decide_eq_true zA02;have q149:x49_4<(((z0m l0_0 x26_2).f2).length:Int):=of_decide_eq_true zA02
                               obtain⟨ad149,A149_2,c149_2,A149_16,c149_16,e149,hx149_0,hx149_1,hx149_2,hx149_3,hx149_4,hx149_5,hx149_6,hx149_7,hx149_8,hx149_9,hx149_10,hx149_11,hx149_12,hx149_13,hx149_14,hx149_15,hx149_16,hl149_2,hi149_2,hl149_16,hi149_16⟩:=z79 HR146_3.out x49_4 p149 q149;obtain rfl:ad148=ad149:=(by injection e149)
                               replace hx149_0:=(HB.out.cell (World.block_lt_of_cell? w _ hx149_0)).trans hx149_0;replace hx149_1:=(HB.out.cell (World.block_lt_of_cell? w _ hx149_1)).trans hx149_1;replace hx149_2:=(HB.out.cell (World.block_lt_of_cell? w _ hx149_2)).trans hx149_2;replace hx149_3:=(HB.out.cell (World.block_lt_of_cell? w _ hx149_3)).trans hx149_3;replace hx149_4:=(HB.out.cell (World.block_lt_of_cell? w _ hx149_4)).trans hx149_4;replace hx149_5:=(HB.out.cell (World.block_lt_of_cell? w _ hx149_5)).trans hx149_5;replace hx149_6:=(HB.out.cell (World.block_lt_of_cell? w _ hx149_6)).trans hx149_6;replace hx149_7:=(HB.out.cell (World.block_lt_of_cell? w _ hx149_7)).trans hx149_7;replace hx149_8:=(HB.out.cell (World.block_lt_of_cell? w _ hx149_8)).trans hx149_8;replace hx149_9:=(HB.out.cell (World.block_lt_of_cell? w _ hx149_9)).trans hx149_9;replace hx149_10:=(HB.out.cell (World.block_lt_of_cell? w _ hx149_10)).trans hx149_10;replace hx149_11:=(HB.out.cell (World.block_lt_of_cell? w _ hx149_11)).trans hx149_11;replace hx149_12:=(HB.out.cell (World.block_lt_of_cell? w _ hx149_12)).trans hx149_12;replace hx149_13:=(HB.out.cell (World.block_lt_of_cell? w _ hx149_13)).trans hx149_13;replace hx149_14:=(HB.out.cell (World.block_lt_of_cell? w _ hx149_14)).trans hx149_14;replace hx149_15:=(HB.out.cell (World.block_lt_of_cell? w _ hx149_15)).trans hx149_15;replace hx149_16:=(HB.out.cell (World.block_lt_of_cell? w _ hx149_16)).trans hx149_16;have HR149_2:=z00.mk hi149_2;have HC149_2:=z00.mk hl149_2;clear hi149_2 hl149_2;have HR149_16:=z00.mk hi149_16;have HC149_16:=z00.mk hl149_16;clear hi149_16 hl149_16;replace p149:=eq_true p149;replace q149:=eq_true q149;have ea_:=Option.some.inj (hx148_2.symm.trans hx149_2);injection ea_ with ea_ en_ ec_
                               subst ea_;subst ec_;clear en_;have ea_:=Option.some.inj (hx148_16.symm.trans hx149_16);injection ea_ with ea_ en_ ec_
                               subst ea_;subst ec_;clear en_;have p150:0≤(x49_4:Int):=of_decide_eq_true zA02;have q150:x49_4<(((z0m l0_0 x26_2).f2).length:Int):=of_decide_eq_true zA02;obtain⟨ad150,A150_2,c150_2,A150_16,c150_16,e150,hx150_0,hx150_1,hx150_2,hx150_3,hx150_4,hx150_5,hx150_6,hx150_7,hx150_8,hx150_9,hx150_10,hx150_11,hx150_12,hx150_13,hx150_14,hx150_15,hx150_16,hl150_2,hi150_2,hl150_16,hi150_16⟩:=z79 HR146_3.out x49_4 p150 q150;obtain rfl:ad148=ad150:=(by injection e150)
                               replace hx150_0:=(HB.out.cell (World.block_lt_of_cell? w _ hx150_0)).trans hx150_0;replace hx150_1:=(HB.out.cell (World.block_lt_of_cell? w _ hx150_1)).trans hx150_1;replace hx150_2:=(HB.out.cell (World.block_lt_of_cell? w _ hx150_2)).trans hx150_2;replace hx150_3:=(HB.out.cell (World.block_lt_of_cell? w _ hx150_3)).trans hx150_3;replace hx150_4:=(HB.out.cell (World.block_lt_of_cell? w _ hx150_4)).trans hx150_4;replace hx150_5:=(HB.out.cell (World.block_lt_of_cell? w _ hx150_5)).trans hx150_5;replace hx150_6:=(HB.out.cell (World.block_lt_of_cell? w _ hx150_6)).trans hx150_6;replace hx150_7:=(HB.out.cell (World.block_lt_of_cell? w _ hx150_7)).trans hx150_7;replace hx150_8:=(HB.out.cell (World.block_lt_of_cell? w _ hx150_8)).trans hx150_8;replace hx150_9:=(HB.out.cell (World.block_lt_of_cell? w _ hx150_9)).trans hx150_9;replace hx150_10:=(HB.out.cell (World.block_lt_of_cell? w _ hx150_10)).trans hx150_10;replace hx150_11:=(HB.out.cell (World.block_lt_of_cell? w _ hx150_11)).trans hx150_11;replace hx150_12:=(HB.out.cell (World.block_lt_of_cell? w _ hx150_12)).trans hx150_12;replace hx150_13:=(HB.out.cell (World.block_lt_of_cell? w _ hx150_13)).trans hx150_13;replace hx150_14:=(HB.out.cell (World.block_lt_of_cell? w _ hx150_14)).trans hx150_14;replace hx150_15:=(HB.out.cell (World.block_lt_of_cell? w _ hx150_15)).trans hx150_15;replace hx150_16:=(HB.out.cell (World.block_lt_of_cell? w _ hx150_16)).trans hx150_16;have HR150_2:=z00.mk hi150_2;have HC150_2:=z00.mk hl150_2;clear hi150_2 hl150_2;have HR150_16:=z00.mk hi150_16;have HC150_16:=z00.mk hl150_16;clear hi150_16 hl150_16;replace p150:=eq_true p150;replace q150:=eq_true q150;have ea_:=Option.some.inj (hx148_2.symm.trans hx150_2);injection ea_ with ea_ en_ ec_
                               subst ea_;subst ec_;clear en_;have ea_:=Option.some.inj (hx148_16.symm.trans hx150_16);injection ea_ with ea_ en_ ec_
                               subst ea_;subst ec_;clear en_;go_wp2
                               go_roundg k4
                               case measure=>have:=HJ3.out;have:=HK2.out;have:=HJ13.out;have:=HK4.out;omega
                               case rel=>exact⟨(wrap64 (x7_4+(((z2e ((z0m l0_0 x26_2).f2) x49_4).f6).length:Int))),(wrap64 (x49_4+1)),zA04,zA04,H',⟨by have:=HJ3.out;have:=HK2.out;have:=HJ13.out;have:=HK4.out;omega⟩,⟨zA08⟩,⟨by(with_reducible repeat(first|refine z0f ?_ _|refine z0h ?_|refine z0c ?_ _));exact BK147.out⟩,⟨zA0c⟩⟩
                       · rw[if_neg c29]at H;exact absurd H (by simp)
                     · rw[if_neg c28]at H;exact absurd H (by simp)
                   · rw[if_neg c27]at H;have c27b0:decide (x49_4<(((z0m l0_0 x26_2).f2).length:Int))=false:=decide_eq_false c27
                     (try rw[hl146_1]at c27b0)
                     (try rw[hl146_3]at c27b0)
                     (try rw[hl148_16]at c27b0)
                     (try rw[hl148_2]at c27b0)
                     (try rw[hl149_16]at c27b0)
                     (try rw[hl149_2]at c27b0)
                     (try rw[hl150_16]at c27b0)
                     (try rw[hl150_2]at c27b0)
                     clear c27;have H':=z00.mk H;clear H;go_wp2
                     go_roundg k4
                     case measure=>have:=HJ3.out;have:=HK2.out;have:=HJ13.out;have:=HK4.out;omega
                     case rel=>exact⟨(x7_4),(wrap64 (x26_2+1)),zA04,zA04,H',⟨by have:=HJ3.out;have:=HK2.out;have:=HJ13.out;have:=HK4.out;omega⟩,⟨zA08⟩,⟨zA0c⟩⟩
           · rw[if_neg c13]at H;exact absurd H (by simp)
         · rw[if_neg c12]at H;exact absurd H (by simp)
       · rw[if_neg c11]at H;have c11b0:decide (x26_2<(l0_0.length:Int))=false:=decide_eq_false c11
         (try rw[hl146_1]at c11b0)
         (try rw[hl146_3]at c11b0)
         (try rw[hl148_16]at c11b0)
         (try rw[hl148_2]at c11b0)
         (try rw[hl149_16]at c11b0)
         (try rw[hl149_2]at c11b0)
         (try rw[hl150_16]at c11b0)
         (try rw[hl150_2]at c11b0)
         clear c11;obtain rfl:=Option.some.inj H;go_wp2
         go_ret
         exact⟨by first|rfl|(simp[z0v,z0w] <;> rfl)|(simp[*,z0v,z0w] <;> rfl),by repeat(first|(with_reducible first|exact HB.out|apply z03|apply z04|apply z05|refine z06 ?_ GE145.out)|exact HB.out)⟩
end Go.Proofs.YthebhbomlllpeaaGreatDoor.X
namespace Go.Proofs.YthebhbomlllpeaaGreatDoor.X
open Go.RowKit Go.Proofs.YthebhbomlllpeaaGreatDoorW.PrintWords Go.Proofs.YthebhbomlllpeaaGreatDoorW.PrintLast Go.Proofs.YthebhbomlllpeaaGreatDoorW.PrintMore
def fewL (l:LtS):Prop:=l.f6.length≤30∧l.f1.f1.length≤10
def fewR (x:RlS):Prop:=x.f2.length≤14∧x.f0.f1.length≤10∧∀l ∈ x.f2,fewL l
theorem rd_few (rs:List RlS) (i:Nat) (h:i<rs.length):z0m rs (i:Int)=rs[i]:=by
 unfold z0m;rw[Int.toNat_natCast,List.getD_eq_getElem?_getD,List.getElem?_eq_getElem h];rfl
theorem rd_fewL (ls:List LtS) (i:Nat) (h:i<ls.length):z2e ls (i:Int)=ls[i]:=by
 unfold z2e;rw[Int.toNat_natCast,List.getD_eq_getElem?_getD,List.getElem?_eq_getElem h];rfl
theorem few_l1 (rs:List RlS) (pn:ByteArray) (pa:List TmS) (x:RlS) (hx:x.f2.length≤14) (i:Nat) (hi:i<100) (D:Nat) (Q:Prop)
 (ih:∀(k:Nat) (s:Nat),D≤k→s≤60→∃b,z08.l0 k 14 (s:Int) (rs.length:Int) ((i+1:Nat):Int) rs pn pa=some b∧(b=true→Q)) :
 ∀(d j k s:Nat),x.f2.length - j=d→j≤x.f2.length→D+d+1≤k→s≤60 →
  ∃b,z08.l1 k 14 (s:Int) (rs.length:Int) (i:Int) (x.f2.length:Int) (j:Int) rs pn pa x.f0.f0 x.f0.f1 x.f1 x.f2=some b∧(b=true→(∀l ∈ x.f2.drop j,fewL l)∧Q)
 |0,j,k,s,hd,hj,hk,hs=>by
  obtain⟨k,rfl⟩:∃m,k=m+1:=⟨k - 1,by omega⟩
  obtain⟨b,h1,h2⟩:=ih k s (by omega) hs;rw[z08.l1,if_neg (by omega),show wrap64 ((i:Int)+1)=((i+1:Nat):Int) by unfold wrap64;omega];refine⟨b,h1,fun e=>⟨fun l hl=>?_,h2 e⟩⟩;rw[List.drop_eq_nil_of_le (by omega)]at hl
  cases hl
 |d+1,j,k,s,hd,hj,hk,hs=>by
  obtain⟨k,rfl⟩:∃m,k=m+1:=⟨k - 1,by omega⟩
  have hlt:j<x.f2.length:=by omega
  rw[z08.l1,if_pos (by omega),if_pos (by omega),if_pos (by omega),rd_fewL _ _ hlt]
  by_cases h1:((x.f2[j].f6.length:Nat):Int)>30
  · rw[if_pos h1];exact⟨false,rfl,fun e=>by cases e⟩
  rw[if_neg h1]
  by_cases h2:((x.f2[j].f1.f1.length:Nat):Int)>10
  · rw[if_pos h2];exact⟨false,rfl,fun e=>by cases e⟩
  rw[if_neg h2,show wrap64 ((s:Int)+(x.f2[j].f6.length:Int))=((s+x.f2[j].f6.length:Nat):Int) by unfold wrap64;omega]
  by_cases h3:(((s+x.f2[j].f6.length:Nat)):Int)>60
  · rw[if_pos h3];exact⟨false,rfl,fun e=>by cases e⟩
  rw[if_neg h3,show wrap64 ((j:Int)+1)=((j+1:Nat):Int) by unfold wrap64;omega];obtain⟨b,g1,g2⟩:=few_l1 rs pn pa x hx i hi D Q ih d (j+1) k (s+x.f2[j].f6.length) (by omega) (by omega) (by omega) (by omega);refine⟨b,g1,fun e=>⟨fun l hl=>?_,(g2 e).2⟩⟩;rw[List.drop_eq_getElem_cons hlt]at hl;rcases List.mem_cons.1 hl with rfl|hl
  · exact⟨by omega,by omega⟩
  · exact(g2 e).1 l hl
theorem few_l0 (rs:List RlS) (hrs:rs.length≤12) (pn:ByteArray) (pa:List TmS):∀(d i k s:Nat),rs.length - i=d→i≤rs.length→20 * d+1≤k→s≤60 →
 ∃b,z08.l0 k 14 (s:Int) (rs.length:Int) (i:Int) rs pn pa=some b∧(b=true→∀x ∈ rs.drop i,fewR x)
 |0,i,k,s,hd,hi,hk,hs=>by
  obtain⟨k,rfl⟩:∃m,k=m+1:=⟨k - 1,by omega⟩
  rw[z08.l0,if_neg (by omega)];refine⟨true,rfl,fun e x hx=>?_⟩;rw[List.drop_eq_nil_of_le (by omega)]at hx
  cases hx
 |d+1,i,k,s,hd,hi,hk,hs=>by
  obtain⟨k,rfl⟩:∃m,k=m+2:=⟨k - 2,by omega⟩
  have hlt:i<rs.length:=by omega
  rw[z08.l0,if_pos (by omega),if_pos (by omega),if_pos (by omega),rd_few _ _ hlt];obtain⟨x,hx⟩:∃x,rs[i]=x:=⟨_,rfl⟩
  rw[List.drop_eq_getElem_cons hlt,hx]
  by_cases h1:((x.f2.length:Nat):Int)>14
  · rw[if_pos h1,z08.j2,if_pos rfl];exact⟨false,rfl,fun e=>by cases e⟩
  rw[if_neg h1]
  by_cases h2:((x.f0.f1.length:Nat):Int)>10
  · rw[decide_eq_true h2,z08.j2,if_pos rfl];exact⟨false,rfl,fun e=>by cases e⟩
  rw[decide_eq_false h2,z08.j2,if_neg (by decide)];obtain⟨b,g1,g2⟩:=few_l1 rs pn pa x (by omega) i (by omega) (20 * d+1) (∀y ∈ rs.drop (i+1),fewR y) (fun k s hk hs=>few_l0 rs hrs pn pa d (i+1) k s (by omega) (by omega) (by omega) hs) x.f2.length 0 k s (by omega) (by omega) (by omega) hs;refine⟨b,g1,fun e y hy=>?_⟩;rcases List.mem_cons.1 hy with rfl|hy
  · exact⟨by omega,by omega,fun l hl=>(g2 e).1 l (by rw[List.drop_zero];exact hl)⟩
  · exact(g2 e).2 y hy
theorem few_f (rs:List RlS) (pn:ByteArray) (pa:List TmS):∃b,z08.f 1000 rs pn pa 12 14=some b∧(b=true→rs.length≤12∧pa.length≤10∧∀x ∈ rs,fewR x):=by
 unfold z08.f
 by_cases h1:((rs.length:Nat):Int)>12
 · rw[if_pos h1,z08.j0,if_pos rfl];exact⟨false,rfl,fun e=>by cases e⟩
 rw[if_neg h1]
 by_cases h2:((pa.length:Nat):Int)>10
 · rw[decide_eq_true h2,z08.j0,if_pos rfl];exact⟨false,rfl,fun e=>by cases e⟩
 rw[decide_eq_false h2,z08.j0,if_neg (by decide)];obtain⟨b,g1,g2⟩:=few_l0 rs (by omega) pn pa rs.length 0 999 0 rfl (Nat.zero_le _) (by omega) (by omega);refine⟨b,g1,fun e=>⟨by omega,by omega,fun x hx=>g2 e x (by rw[List.drop_zero];exact hx)⟩⟩
theorem inL_rng {l:LtS} (h:inL l):rngL l:=⟨fun t ht=>(h.1 t ht).1,h.2.1.1,h.2.2.1.1,h.2.2.2.1.1⟩
theorem inR_rng {x:RlS} (h:inR x):rngR x:=⟨fun t ht=>(h.1 t ht).1,fun l hl=>inL_rng (h.2 l hl)⟩
end Go.Proofs.YthebhbomlllpeaaGreatDoor.X
namespace Go.Proofs.YthebhbomlllpeaaGreatDoor.X
open Go.RowKit Go.Proofs.YthebhbomlllpeaaGreatDoorW.PrintWords Go.Proofs.YthebhbomlllpeaaGreatDoorW.PrintLast Go.Proofs.YthebhbomlllpeaaGreatDoorW.PrintMore
attribute [local go_sem] z4e z49 z54 z50 z3l z3j z4h z4g
theorem eqA60 (d:Nat) (w:World) (x0 y0:ByteArray) (x1 y1:Int) (x2 y2:Int) (x3 y3:ByteArray) :
 (Op.equalIn (d+3) 60 (.agg #[.string x0,.int .i64 x1,.int .i64 x2,.string x3]) (.agg #[.string y0,.int .i64 y1,.int .i64 y2,.string y3])).run Tryz.prog w=.ok (x0.toList==y0.toList&&((x1==y1&&(x2==y2&&(x3.toList==y3.toList))))) w:=by
 refine zjw Tryz.underlying60 (by kernel_rfl) ?_;refine z9j (by rfl) (by go_simp;rfl) (by go_simp;rfl) (by go_simp) ?_;exact zce (by rfl) (by go_simp) (by go_simp) (eqA58 (d+0) w _ _ _ _ _ _)

theorem eqA69 (d:Nat) (w:World) (x0 y0:Int) (x1 y1:ByteArray) :
 (Op.equalIn (d+2) 69 (.agg #[.int .i64 x0,.string x1]) (.agg #[.int .i64 y0,.string y1])).run Tryz.prog w=.ok (x0==y0&&(x1.toList==y1.toList)) w:=by
 refine zjw Tryz.underlying69 (by kernel_rfl) ?_;refine z9j (by rfl) (by go_simp;rfl) (by go_simp;rfl) (by go_simp) ?_;exact zce (by rfl) (by go_simp;rfl) (by go_simp;rfl) (by go_simp)
end Go.Proofs.YthebhbomlllpeaaGreatDoor.X
namespace Go.Proofs.YthebhbomlllpeaaGreatDoor.X
open Go.RowKit Go.Proofs.YthebhbomlllpeaaGreatDoorW.PrintWords Go.Proofs.YthebhbomlllpeaaGreatDoorW.PrintLast Go.Proofs.YthebhbomlllpeaaGreatDoorW.PrintMore
attribute [local go_sem] z4e z49 z54 z50 z3l z3j z4h z4g
attribute [local go_sem high] eqA60 eqA69
mutual
def z43.j0:Nat→Bool→ByteArray→List (S60)→ByteArray→List (S60)→Option (Bool)
 |0,_,_,_,_,_=>none
 |k+1,x19,x675000,x675001,x676000,x676001=>if x19=true then(some false)else(z43.l0 k (x675001.length:Int) 0 x675000 x675001 x676000 x676001)
def z43.l0:Nat→Int→Int→ByteArray→List (S60)→ByteArray→List (S60)→Option (Bool)
 |0,_,_,_,_,_,_=>none
 |k+1,x22,x23,x675000,x675001,x676000,x676001=>if x23<x22 then(if 0≤x23 then(if x23<(x675001.length:Int)then(if x23<(x676001.length:Int)then(if(!((((z1i x675001 x23).f0).toList)==(((z1i x676001 x23).f0).toList))||((!(((z1i x675001 x23).f1.f0)==((z1i x676001 x23).f1.f0))||(!(((z1i x675001 x23).f1.f1)==((z1i x676001 x23).f1.f1))||(!((((z1i x675001 x23).f1.f2).toList)==(((z1i x676001 x23).f1.f2).toList)))))))=true then(some false)else(z43.l0 k x22 (wrap64 (x23+1)) x675000 x675001 x676000 x676001))else(none))else(none))else(none))else(some true)
end
def z6x.l0:Nat→List (S69)→List (S69)→Int→Int→Option (Bool)
 |0,_,_,_,_=>none
 |k+1,x0,x1,x12,x13=>if x13<x12 then(if 0≤x13 then(if x13<(x0.length:Int)then(if x13<(x1.length:Int)then(if(!(((z47 x0 x13).f0)==((z47 x1 x13).f0))||(!((((z47 x0 x13).f1).toList)==(((z47 x1 x13).f1).toList))))=true then(some false)else(z6x.l0 k x0 x1 x12 (wrap64 (x13+1))))else(none))else(none))else(none))else(some true)
def z0l.l0:Nat→List (S69)→List (S69)→Int→Int→Option (Bool)
 |0,_,_,_,_=>none
 |k+1,x0,x1,x12,x13=>if x13<x12 then(if 0≤x13 then(if x13<(x0.length:Int)then(if x13<(x1.length:Int)then(if(!(((z47 x0 x13).f0)==((z47 x1 x13).f0))||(!((((z47 x0 x13).f1).toList)==(((z47 x1 x13).f1).toList))))=true then(some false)else(z0l.l0 k x0 x1 x12 (wrap64 (x13+1))))else(none))else(none))else(none))else(some true)
def z0l.f (k:Nat) (l0:List (S69)) (l1:List (S69)):Option (Bool):=if(l0.length:Int)=(l1.length:Int)then(z0l.l0 k l0 l1 (l0.length:Int) 0)else(some false)
set_option maxHeartbeats 8000000 in
set_option maxRecDepth 100000 in
theorem z0l.calls (k:Nat) (A0:Option Addr) (c0:Nat) (l0:List (S69)) (A1:Option Addr) (c1:Nat) (l1:List (S69)) (r:Bool) (w:World) (hr0:Kd.C k69 w A0 l0.length l0) (hc0:l0.length≤c0) (hr1:Kd.C k69 w A1 l1.length l1) (hc1:l1.length≤c1) (h:z0l.f k l0 l1=some r) :
 Calls Tryz.prog 39 #[.slice A0 l0.length c0,.slice A1 l1.length c1] w fun e w'=>e=.returned (.bool r)∧z0e w w':=by
 have hu69:=Tryz.underlying69;have HR0:=z00.mk hr0;have HC0:=z00.mk hc0;clear hr0 hc0;have HR1:=z00.mk hr1;have HC1:=z00.mk hc1;clear hr1 hc1;have H:(if(l0.length:Int)=(l1.length:Int)then(z0l.l0 k l0 l1 (l0.length:Int) 0)else(some false))=some r:=h;clear h
 by_cases c3:(l0.length:Int)=(l1.length:Int)
 · rw[if_pos c3]at H;have c3b0:((l0.length:Int)==(l1.length:Int))=true:=beq_iff_eq.mpr c3;have c3b1:((l0.length:Int) !=(l1.length:Int))=false:=bne_eq_false_iff_eq.mpr c3;have c3b2:(l0.length==l1.length)=true:=by first|simpa using c3|(simp at c3 ⊢;omega)
   clear c3;have H':=z00.mk H;clear H;go_enter Tryz.func39,Tryz.ntmps39;go_wp2
   repeat(go_quiet (fail);try go_wp2)
   go_loopg [13] k (fun kq v13 w'=>∃(x13_1:Int),v13=.int .i64 x13_1∧z00 (z0l.l0 kq l0 l1 (l0.length:Int) x13_1=some r)∧z00 (kq≤k)∧z0e w w')
   case atStart=>exact⟨(0),zA04,H',⟨Nat.le_refl _⟩,by repeat(first|exact z0e.refl _|apply z0e.step)⟩
   case round =>
    clear H';(try clear c1);(try clear p2);(try clear c3);(try clear c3b0);(try clear c3b1);(try clear c3b2);obtain⟨x13_1,rfl,HA,HK1,⟨m1,rfl⟩⟩:=hrel
    cases gk with
    |zero=>exact absurd HA.out (by simp[z0l.l0])
    |succ k1 =>
     have H:=HA.out;clear HA;simp only[z0l.l0]at H
     by_cases c4:x13_1<(l0.length:Int)
     · rw[if_pos c4]at H;have c4b0:decide (x13_1<(l0.length:Int))=true:=decide_eq_true c4;clear c4
       by_cases c5:0≤x13_1
       · rw[if_pos c5]at H;have c5b0:decide (0≤x13_1)=true:=decide_eq_true c5;clear c5
         by_cases c6:x13_1<(l0.length:Int)
         · rw[if_pos c6]at H;have c6b0:decide (x13_1<(l0.length:Int))=true:=decide_eq_true c6;clear c6
           by_cases c7:x13_1<(l1.length:Int)
           · rw[if_pos c7]at H;have c7b0:decide (x13_1<(l1.length:Int))=true:=decide_eq_true c7;clear c7
             by_cases c8:(!(((z47 l0 x13_1).f0)==((z47 l1 x13_1).f0))||(!((((z47 l0 x13_1).f1).toList)==(((z47 l1 x13_1).f1).toList))))=true
             · rw[if_pos c8]at H;have c8b0:(!(((z47 l0 x13_1).f0)==((z47 l1 x13_1).f0))||(!((((z47 l0 x13_1).f1).toList)==(((z47 l1 x13_1).f1).toList))))=true:=c8;clear c8;obtain rfl:=Option.some.inj H;have p851:0≤(x13_1:Int):=of_decide_eq_true zA02;have q851:x13_1<(l0.length:Int):=of_decide_eq_true zA02;obtain⟨ad851,e851,hx851_0,hx851_1⟩:=zeo HR0.out x13_1 p851 q851
               cases e851
               replace p851:=eq_true p851;replace q851:=eq_true q851;have p852:0≤(x13_1:Int):=of_decide_eq_true zA02;have q852:x13_1<(l1.length:Int):=of_decide_eq_true zA02;obtain⟨ad852,e852,hx852_0,hx852_1⟩:=zeo HR1.out x13_1 p852 q852
               cases e852
               replace p852:=eq_true p852;replace q852:=eq_true q852;go_wp2
               repeat(go_quiet (fail);try go_wp2)
               go_ret
               exact⟨by first|rfl|(simp;done)|(simp[*];done),by repeat(first|exact z0e.refl _|apply z0e.step)⟩
             · rw[if_neg c8]at H;have c8b0:(!(((z47 l0 x13_1).f0)==((z47 l1 x13_1).f0))||(!((((z47 l0 x13_1).f1).toList)==(((z47 l1 x13_1).f1).toList))))=false:=by simpa using c8
               clear c8;have H':=z00.mk H;clear H;have p851:0≤(x13_1:Int):=of_decide_eq_true zA02;have q851:x13_1<(l0.length:Int):=of_decide_eq_true zA02;obtain⟨ad851,e851,hx851_0,hx851_1⟩:=zeo HR0.out x13_1 p851 q851
               cases e851
               replace p851:=eq_true p851;replace q851:=eq_true q851;have p852:0≤(x13_1:Int):=of_decide_eq_true zA02;have q852:x13_1<(l1.length:Int):=of_decide_eq_true zA02;obtain⟨ad852,e852,hx852_0,hx852_1⟩:=zeo HR1.out x13_1 p852 q852
               cases e852
               replace p852:=eq_true p852;replace q852:=eq_true q852;go_wp2
               repeat(go_quiet (fail);try go_wp2)
               go_roundg k1
               case measure=>have:=HK1.out;omega
               case rel=>exact⟨(wrap64 (x13_1+1)),zA04,H',⟨by have:=HK1.out;omega⟩,by repeat(first|exact z0e.refl _|apply z0e.step)⟩
           · rw[if_neg c7]at H;exact absurd H (by simp)
         · rw[if_neg c6]at H;exact absurd H (by simp)
       · rw[if_neg c5]at H;exact absurd H (by simp)
     · rw[if_neg c4]at H;have c4b0:decide (x13_1<(l0.length:Int))=false:=decide_eq_false c4;clear c4;obtain rfl:=Option.some.inj H;go_wp2
       repeat(go_quiet (fail);try go_wp2)
       go_ret
       exact⟨by first|rfl|(simp;done)|(simp[*];done),by repeat(first|exact z0e.refl _|apply z0e.step)⟩
 · rw[if_neg c3]at H;have c3b0:((l0.length:Int)==(l1.length:Int))=false:=beq_eq_false_iff_ne.mpr c3;have c3b1:((l0.length:Int) !=(l1.length:Int))=true:=bne_iff_ne.mpr c3;have c3b2:(l0.length==l1.length)=false:=by first|simpa using c3|(simp at c3 ⊢;omega)
   obtain rfl:=Option.some.inj H;go_enter Tryz.func39,Tryz.ntmps39;go_wp2
   repeat(go_quiet (fail);try go_wp2)
   go_ret
   exact⟨by first|rfl|(simp;done)|(simp[*];done),by repeat(first|exact z0e.refl _|apply z0e.step)⟩
end Go.Proofs.YthebhbomlllpeaaGreatDoor.X
namespace Go.Proofs.YthebhbomlllpeaaGreatDoor.X
open Go.RowKit Go.Proofs.YthebhbomlllpeaaGreatDoorW.PrintWords Go.Proofs.YthebhbomlllpeaaGreatDoorW.PrintLast Go.Proofs.YthebhbomlllpeaaGreatDoorW.PrintMore
structure FactC (V:World) (pn:ByteArray) (pa:List TmS) (ad ld:Addr) (A10 A30 A11 B0 B1:Option Addr) (c10 c30 c11 c31 b0 b1:Nat):Prop where
 r0:V.cell? ad=some (.string pn)
 r1:V.cell? ⟨ad.block,ad.off+1,none⟩=some (.slice A10 pa.length c10)
 r2:V.cell? ⟨ad.block,ad.off+2,none⟩=some (.int .i64 0)
 r3:V.cell? ⟨ad.block,ad.off+3,none⟩=some (.slice A30 0 c30)
 r4:V.cell? ⟨ad.block,ad.off+4,none⟩=some (.string ⟨#[120]⟩)
 r5:V.cell? ⟨ad.block,ad.off+4+1,none⟩=some (.slice A11 0 c11)
 r6:V.cell? ⟨ad.block,ad.off+4+2,none⟩=some (.int .i64 0)
 r7:V.cell? ⟨ad.block,ad.off+4+3,none⟩=some (.slice (some ld) 2 c31)
 l0:V.cell? ld=some (.int .i64 1)
 l1:V.cell? ⟨ld.block,ld.off+1,none⟩=some (.string pn)
 l2:V.cell? ⟨ld.block,ld.off+2,none⟩=some (.slice B0 pa.length b0)
 m0:V.cell? ⟨ld.block,ld.off+17,none⟩=some (.int .i64 2)
 m1:V.cell? ⟨ld.block,ld.off+17+1,none⟩=some (.string pn)
 m2:V.cell? ⟨ld.block,ld.off+17+2,none⟩=some (.slice B1 pa.length b1)
 h0:pa.length≤c10∧Kd.C k60 V A10 pa.length pa
 h1:pa.length≤b0∧Kd.C k60 V B0 pa.length pa
 h2:pa.length≤b1∧Kd.C k60 V B1 pa.length pa
structure FactS (V:World) (pn:ByteArray) (pa:List TmS) (ad ld:Addr) (A10 A30 A11 B0 B1 A0 A1 A3:Option Addr) (c10 c30 c11 c31 b0 b1 c0 c1 c2 c3 n1 n2 n3:Nat) (qn:ByteArray) (qa:List TmS):Prop where
 f:FactC V pn pa ad ld A10 A30 A11 B0 B1 c10 c30 c11 c31 b0 b1
 b1:V.heap[n1]?=some (.cells #[.slice A0 0 c0,.string pn,.slice A1 pa.length c1] 27 (0,0))
 b2:V.heap[n2]?=some (.cells #[.slice (some ad) 2 c2,.string qn,.slice A3 qa.length c3] 27 (0,0))
 b3:V.heap[n3]?=some (.cells #[.string ⟨#[120]⟩,.slice A11 0 c11,.int .i64 0,.slice (some ld) 2 c31] 33 (0,0))
 kc:Kd.C k60 V A1 pa.length pa
def factr.T:Bool × List (List Nat × List Nat):=(true,[([],[]),([0],[0]),([1],[1]),([2],[2]),([3],[3]),([],[]),([5],[5]),([4,6],[4,6]),([7,7],[7]),([8],[8]),([9,8],[8,9]),([10,8],[8,10]),([11,8],[8,11]),([8,12],[8,12]),([13,8],[13]),([14],[14]),([15,14],[14,15]),([16,14],[14,16]),([17,14],[14,17]),([18,14],[14,18]),([19,14],[14,19]),([14,20],[14,20]),([21,14],[21]),([22],[22]),([23,22],[22,23]),([24,22],[22,24]),([25,22],[22,25]),([26,22],[22,26]),([27,22],[22,27]),([22,28],[22,28]),([29,22],[29]),([30],[30]),([31,30],[30,31]),([32,30],[30,32]),([33,30],[30,33]),([34,30],[30,34]),([30],[30]),([36,30],[30,36]),([35,37,30,30],[30,35,37]),([30,38],[30,38]),([39,38],[39]),([40],[40]),([41,40],[40,41]),([42,40],[40,42]),([43,40],[40,43]),([44,40],[40,44]),([40],[40]),([46,40],[40,46]),([45,47,40,40],[40,45,47]),([40,48],[40,48]),([49,48],[49]),([50],[50]),([51,50],[50,51]),([52,50],[50,52]),([53,50],[50,53]),([54,50],[50,54]),([55,50],[50,55]),([50,56],[50,56]),([57,50,0,1,2,3,4,5,6,7,8,9,10,11,12,13,14,15,16,17,18,19,20,21,22,23,24,25,26,27,28,29,30,31,32,33,34,35,36,37,38,39,40,41,42,43,44,45,46,47,48,49,50,51,52,53,54,55,56,57],[57])])
def factr.B:List Nat:=[0,1,3,7,15,0,32,127,255,511,1023,2047,4095,8191,16383,32767,65535,131071,262143,524287,1048575,2097151,4194303,8388607,16777215,33554431,67108863,134217727,268435455,536870911,1073741823,2147483647,4294967295,8589934591,17179869183,34359738367,2147483647,70866960383,274877906943,549755813887,1099511627775,2199023255551,4398046511103,8796093022207,17592186044415,35184372088831,2199023255551,72567767433215,281474976710655,562949953421311,1125899906842623,2251799813685247,4503599627370495,9007199254740991,18014398509481983,36028797018963967,72057594037927935,144115188075855871,288230376151711743]
end Go.Proofs.YthebhbomlllpeaaGreatDoor.X
namespace Go.Proofs.YthebhbomlllpeaaGreatDoor.X
open Go.RowKit Go.Proofs.YthebhbomlllpeaaGreatDoorW.PrintWords Go.Proofs.YthebhbomlllpeaaGreatDoorW.PrintLast Go.Proofs.YthebhbomlllpeaaGreatDoorW.PrintMore
attribute [local go_sem] z4e z49 z54 z50 z3l z3j z4h z4g
def z1c.f (s0_0:List (S53)) (s0_1:Int) (s0_2:Int) (s0_3:Int) (s0_4:Int) (a1:Int) (a2:Int) (a3:ByteArray):Option (Bool × Int × Int × Int × Int):=(z4i.f s0_0 s0_1 s0_2 s0_3 s0_4 a1).bind fun bt267=>(if bt267.1=a2 then(some ((bt267.2.1.toList==a3.toList),bt267.2.2.1,bt267.2.2.2.1,bt267.2.2.2.2.1,bt267.2.2.2.2.2))else(some (false,bt267.2.2.1,bt267.2.2.2.1,bt267.2.2.2.2.1,bt267.2.2.2.2.2)))
def z30.f (s0_0:List (S53)) (s0_1:Int) (s0_2:Int) (s0_3:Int) (s0_4:Int) (a1:Int) (a2:Int):Option (Int × Int × Int × Int):=if s0_3=0 then(some (s0_1,s0_2,a1,a2))else(some (s0_1,s0_2,s0_3,s0_4))
def z3e.f (s0_0:List (S53)) (s0_1:Int) (s0_2:Int) (s0_3:Int) (s0_4:Int):Option (Int × Int × Int × Int × Int):=if s0_1<(s0_0.length:Int)then(if 0≤s0_1 then(some ((zbh s0_0 s0_1).f2,s0_1,s0_2,s0_3,s0_4))else(none))else(some (s0_2,s0_1,s0_2,s0_3,s0_4))
def z5v.f (s0_0:List (S53)) (s0_1:Int) (s0_2:Int) (s0_3:Int) (s0_4:Int) (a1:ByteArray):Option (Int × Int × Int × Int):=(z1c.f s0_0 s0_1 s0_2 s0_3 s0_4 0 4 a1).bind fun bt274=>(if bt274.1=true then(some (wrap64 (bt274.2.1+1),bt274.2.2.1,bt274.2.2.2.1,bt274.2.2.2.2))else((z3e.f s0_0 bt274.2.1 bt274.2.2.1 bt274.2.2.2.1 bt274.2.2.2.2).bind fun bt279=>((z30.f s0_0 bt279.2.1 bt279.2.2.1 bt279.2.2.2.1 bt279.2.2.2.2 2 bt279.1).bind fun bt284=>(some (bt284.1,bt284.2.1,bt284.2.2.1,bt284.2.2.2)))))
def z1o.j0:Nat→ByteArray→Bool→List (S53)→Int→Int→Int→Int→Option (ByteArray × Int × Int × Int × Int)
 |0,_,_,_,_,_,_,_=>none
 |k+1,x4,x15,x1000,x1001,x1002,x1003,x1004=>if x15=true then((z3e.f x1000 x1001 x1002 x1003 x1004).bind fun bt301=>((z30.f x1000 bt301.2.1 bt301.2.2.1 bt301.2.2.2.1 bt301.2.2.2.2 2 bt301.1).bind fun bt306=>(some ((⟨#[]⟩:ByteArray),bt306.1,bt306.2.1,bt306.2.2.1,bt306.2.2.2))))else(some (x4,wrap64 (x1001+1),x1002,x1003,x1004))
def z1o.f (k:Nat) (s0_0:List (S53)) (s0_1:Int) (s0_2:Int) (s0_3:Int) (s0_4:Int):Option (ByteArray × Int × Int × Int × Int):=(z4i.f s0_0 s0_1 s0_2 s0_3 s0_4 0).bind fun bt294=>(if bt294.1=1 then((z3q.f k bt294.2.1).bind fun t300=>(z1o.j0 k bt294.2.1 t300 s0_0 bt294.2.2.1 bt294.2.2.2.1 bt294.2.2.2.2.1 bt294.2.2.2.2.2))else(z1o.j0 k bt294.2.1 true s0_0 bt294.2.2.1 bt294.2.2.2.1 bt294.2.2.2.2.1 bt294.2.2.2.2.2))
def z7l.l0:Nat→ByteArray→List ByteArray→Int→Int→Option (Int)
 |0,_,_,_,_=>none
 |k+1,x0,x3,x7,x8=>if x8<x7 then(if 0≤x8 then(if x8<(x3.length:Int)then(if(rdOf ByteArray.empty x3 x8).toList=x0.toList then(some (wrap64 (x8+1)))else(z7l.l0 k x0 x3 x7 (wrap64 (x8+1))))else(none))else(none))else(some 0)

abbrev PFT:=Nat→List S53→Int→Int→Int→Int→Int→Option (List S69 × Int × Int × Int × Int)
mutual
def z0t.j0 (PF:PFT):Nat→List (S69)→List (S53)→Int→Int→Int→Int→Option ((List (S69)) × Int × Int × Int × Int)
 |0,_,_,_,_,_,_=>none
 |k+1,x5,x1000,x1001,x1002,x1003,x1004=>z0t.l0 PF k x5 x1000 x1001 x1002 x1003 x1004
def z0t.l0 (PF:PFT):Nat→List (S69)→List (S53)→Int→Int→Int→Int→Option ((List (S69)) × Int × Int × Int × Int)
 |0,_,_,_,_,_,_=>none
 |k+1,x5,x1000,x1001,x1002,x1003,x1004=>if x1003=0 then((z1c.f x1000 x1001 x1002 x1003 x1004 0 4 (⟨#[42]⟩:ByteArray)).bind fun bt300=>(if bt300.1=true then(if x5.length<5864062014805 then(z0t.l0 PF k (x5++[(⟨5,(⟨#[]⟩:ByteArray)⟩:S69)]) x1000 (wrap64 (bt300.2.1+1)) bt300.2.2.1 bt300.2.2.2.1 bt300.2.2.2.2)else(none))else((z1c.f x1000 bt300.2.1 bt300.2.2.1 bt300.2.2.2.1 bt300.2.2.2.2 0 4 (⟨#[43]⟩:ByteArray)).bind fun bt308=>(if bt308.1=true then(if x5.length<5864062014805 then(z0t.l0 PF k (x5++[(⟨6,(⟨#[]⟩:ByteArray)⟩:S69)]) x1000 (wrap64 (bt308.2.1+1)) bt308.2.2.1 bt308.2.2.2.1 bt308.2.2.2.2)else(none))else((z1c.f x1000 bt308.2.1 bt308.2.2.1 bt308.2.2.2.1 bt308.2.2.2.2 0 4 (⟨#[63]⟩:ByteArray)).bind fun bt316=>(if bt316.1=true then(if x5.length<5864062014805 then(z0t.l0 PF k (x5++[(⟨7,(⟨#[]⟩:ByteArray)⟩:S69)]) x1000 (wrap64 (bt316.2.1+1)) bt316.2.2.1 bt316.2.2.2.1 bt316.2.2.2.2)else(none))else(some (x5,bt316.2.1,bt316.2.2.1,bt316.2.2.2.1,bt316.2.2.2.2))))))))else(some (x5,x1001,x1002,x1003,x1004))
end
def z0t.f (PF:PFT) (k:Nat) (s0_0:List (S53)) (s0_1:Int) (s0_2:Int) (s0_3:Int) (s0_4:Int) (a1:Int):Option ((List (S69)) × Int × Int × Int × Int):=(z1c.f s0_0 s0_1 s0_2 s0_3 s0_4 0 4 (⟨#[40]⟩:ByteArray)).bind fun bt254=>(if bt254.1=true then(if a1=32 then((z3e.f s0_0 bt254.2.1 bt254.2.2.1 bt254.2.2.2.1 bt254.2.2.2.2).bind fun bt259=>((z30.f s0_0 bt259.2.1 bt259.2.2.1 bt259.2.2.2.1 bt259.2.2.2.2 3 bt259.1).bind fun bt264=>(some (([]:List (S69)),bt264.1,bt264.2.1,bt264.2.2.1,bt264.2.2.2))))else((PF k s0_0 (wrap64 (bt254.2.1+1)) bt254.2.2.1 bt254.2.2.2.1 bt254.2.2.2.2 (wrap64 (a1+1))).bind fun bt268=>((z5v.f s0_0 bt268.2.1 bt268.2.2.1 bt268.2.2.2.1 bt268.2.2.2.2 (⟨#[41]⟩:ByteArray)).bind fun bt275=>(z0t.j0 PF k bt268.1 s0_0 bt275.1 bt275.2.1 bt275.2.2.1 bt275.2.2.2))))else((z1c.f s0_0 bt254.2.1 bt254.2.2.1 bt254.2.2.2.1 bt254.2.2.2.2 0 4 (⟨#[94]⟩:ByteArray)).bind fun bt279=>(if bt279.1=true then((z1o.f k s0_0 (wrap64 (bt279.2.1+1)) bt279.2.2.1 bt279.2.2.2.1 bt279.2.2.2.2).bind fun bt284=>(z0t.j0 PF k (([(⟨2,bt284.1⟩:S69)]:List (S69))) s0_0 bt284.2.1 bt284.2.2.1 bt284.2.2.2.1 bt284.2.2.2.2))else((z1o.f k s0_0 bt279.2.1 bt279.2.2.1 bt279.2.2.2.1 bt279.2.2.2.2).bind fun bt292=>(z0t.j0 PF k (([(⟨1,bt292.1⟩:S69)]:List (S69))) s0_0 bt292.2.1 bt292.2.2.1 bt292.2.2.2.1 bt292.2.2.2.2)))))
def z1w.l0 (PF:PFT):Nat→Int→List (S69)→List (S53)→Int→Int→Int→Int→Option ((List (S69)) × Int × Int × Int × Int)
 |0,_,_,_,_,_,_,_=>none
 |k+1,x1,x5,x1000,x1001,x1002,x1003,x1004=>if x1003=0 then((z1c.f x1000 x1001 x1002 x1003 x1004 0 4 (⟨#[47]⟩:ByteArray)).bind fun bt331=>(if bt331.1=true then((z0t.f PF k x1000 (wrap64 (bt331.2.1+1)) bt331.2.2.1 bt331.2.2.2.1 bt331.2.2.2.2 x1).bind fun bt336=>(if x5.length+bt336.1.length<5864062014805 then((some (x5++bt336.1:List (S69))).bind fun y343=>(if y343.length<5864062014805 then(z1w.l0 PF k x1 (y343++[(⟨3,(⟨#[]⟩:ByteArray)⟩:S69)]) x1000 bt336.2.1 bt336.2.2.1 bt336.2.2.2.1 bt336.2.2.2.2)else(none)))else(none)))else(some (x5,bt331.2.1,bt331.2.2.1,bt331.2.2.2.1,bt331.2.2.2.2))))else(some (x5,x1001,x1002,x1003,x1004))
def z1w.f (PF:PFT) (k:Nat) (s0_0:List (S53)) (s0_1:Int) (s0_2:Int) (s0_3:Int) (s0_4:Int) (a1:Int):Option ((List (S69)) × Int × Int × Int × Int):=(z0t.f PF k s0_0 s0_1 s0_2 s0_3 s0_4 a1).bind fun bt324=>(z1w.l0 PF k a1 bt324.1 s0_0 bt324.2.1 bt324.2.2.1 bt324.2.2.2.1 bt324.2.2.2.2)
def z5q.l0 (PF:PFT):Nat→Int→List (S69)→List (S53)→Int→Int→Int→Int→Option ((List (S69)) × Int × Int × Int × Int)
 |0,_,_,_,_,_,_,_=>none
 |k+1,x1,x5,x1000,x1001,x1002,x1003,x1004=>if x1003=0 then((z1c.f x1000 x1001 x1002 x1003 x1004 0 4 (⟨#[124]⟩:ByteArray)).bind fun bt214=>(if bt214.1=true then((z1w.f PF k x1000 (wrap64 (bt214.2.1+1)) bt214.2.2.1 bt214.2.2.2.1 bt214.2.2.2.2 x1).bind fun bt219=>(if x5.length+bt219.1.length<5864062014805 then((some (x5++bt219.1:List (S69))).bind fun y226=>(if y226.length<5864062014805 then(z5q.l0 PF k x1 (y226++[(⟨4,(⟨#[]⟩:ByteArray)⟩:S69)]) x1000 bt219.2.1 bt219.2.2.1 bt219.2.2.2.1 bt219.2.2.2.2)else(none)))else(none)))else(some (x5,bt214.2.1,bt214.2.2.1,bt214.2.2.2.1,bt214.2.2.2.2))))else(some (x5,x1001,x1002,x1003,x1004))
end Go.Proofs.YthebhbomlllpeaaGreatDoor.X
namespace Go.Proofs.YthebhbomlllpeaaGreatDoor.X
open Go.RowKit Go.Proofs.YthebhbomlllpeaaGreatDoorW.PrintWords Go.Proofs.YthebhbomlllpeaaGreatDoorW.PrintLast Go.Proofs.YthebhbomlllpeaaGreatDoorW.PrintMore
attribute [local go_sem high] eqA60
def SameOk (x:RlS):Prop:=x.f0.f1.length≤1000∧x.f2.length≤1000∧∀y ∈ x.f2,y.f1.f1.length≤1000∧y.f6.length≤100
def same6.T:Bool × List (List Nat × List Nat):=(true,[([],[]),([0],[0]),([],[]),([1,2],[1,2]),([3],[3]),([],[]),([5],[5]),([],[]),([6,7],[6,7]),([8],[8]),([],[]),([],[]),([10,4,0,1,2,3,4,10,11],[4,10]),([11,9,12,0,1,2,3,4,5,6,7,8,9,10,11,12],[9,11])])
def same6.B:List Nat:=[0,1,0,7,15,0,32,0,224,480,0,0,3103,8191]
def same12.T:Bool × List (List Nat × List Nat):=(true,[([],[]),([0],[0]),([],[]),([1,2],[1,2]),([3],[3]),([],[]),([5],[5]),([],[]),([6,7],[6,7]),([8],[8]),([],[]),([],[]),([10,4,0,1,2,3,4,10,11],[4,10]),([11,9,12,0,1,2,3,4,5,6,7,8,9,10,11,12],[9,11])])
def same12.B:List Nat:=[0,1,0,7,15,0,32,0,224,480,0,0,3103,8191]
end Go.Proofs.YthebhbomlllpeaaGreatDoor.X
namespace Go.Proofs.YthebhbomlllpeaaGreatDoor.X
open Go.RowKit Go.Proofs.YthebhbomlllpeaaGreatDoorW.PrintWords Go.Proofs.YthebhbomlllpeaaGreatDoorW.PrintLast Go.Proofs.YthebhbomlllpeaaGreatDoorW.PrintMore
attribute [local go_sem] z4e z49 z54 z50 z3l z3j z4h z4g
attribute [local go_sem high] eqA60
mutual
def z0d.j0:Nat→Bool→ByteArray→List (S60)→ByteArray→List (S60)→Option (Bool)
 |0,_,_,_,_,_=>none
 |k+1,x19,x854000,x854001,x855000,x855001=>if x19=true then(some false)else(z0d.l0 k (x854001.length:Int) 0 x854000 x854001 x855000 x855001)
def z0d.l0:Nat→Int→Int→ByteArray→List (S60)→ByteArray→List (S60)→Option (Bool)
 |0,_,_,_,_,_,_=>none
 |k+1,x22,x23,x854000,x854001,x855000,x855001=>if x23<x22 then(if 0≤x23 then(if x23<(x854001.length:Int)then(if x23<(x855001.length:Int)then(if(!((((z1i x854001 x23).f0).toList)==(((z1i x855001 x23).f0).toList))||((!(((z1i x854001 x23).f1.f0)==((z1i x855001 x23).f1.f0))||(!(((z1i x854001 x23).f1.f1)==((z1i x855001 x23).f1.f1))||(!((((z1i x854001 x23).f1.f2).toList)==(((z1i x855001 x23).f1.f2).toList)))))))=true then(some false)else(z0d.l0 k x22 (wrap64 (x23+1)) x854000 x854001 x855000 x855001))else(none))else(none))else(none))else(some true)
end
def z0d.f (k:Nat) (a0_0:ByteArray) (l0_1:List (S60)) (a1_0:ByteArray) (l1_1:List (S60)):Option (Bool):=if a0_0.toList=a1_0.toList then(z0d.j0 k ((l0_1.length:Int) !=(l1_1.length:Int)) a0_0 l0_1 a1_0 l1_1)else(z0d.j0 k true a0_0 l0_1 a1_0 l1_1)
set_option maxHeartbeats 8000000 in
set_option maxRecDepth 100000 in
theorem z0d.calls (k:Nat) (a0_0:ByteArray) (A0_1:Option Addr) (c0_1:Nat) (l0_1:List (S60)) (a1_0:ByteArray) (A1_1:Option Addr) (c1_1:Nat) (l1_1:List (S60)) (r:Bool) (w:World) (hr0_1:Kd.C k60 w A0_1 l0_1.length l0_1) (hc0_1:l0_1.length≤c0_1) (hr1_1:Kd.C k60 w A1_1 l1_1.length l1_1) (hc1_1:l1_1.length≤c1_1) (h:z0d.f k a0_0 l0_1 a1_0 l1_1=some r) :
 Calls Tryz.prog 68 #[.agg #[.string a0_0,.slice A0_1 l0_1.length c0_1],.agg #[.string a1_0,.slice A1_1 l1_1.length c1_1]] w fun e w'=>e=.returned (.bool r)∧Below w.heap.size w w':=by
 have hu25:=Tryz.underlying25;have hu60:=Tryz.underlying60;have HR0_1:=z00.mk hr0_1;have HC0_1:=z00.mk hc0_1;clear hr0_1 hc0_1;have HR1_1:=z00.mk hr1_1;have HC1_1:=z00.mk hc1_1;clear hr1_1 hc1_1;have HB:=z00.mk (Below.refl w.heap.size w);have H:(if a0_0.toList=a1_0.toList then(z0d.j0 k ((l0_1.length:Int) !=(l1_1.length:Int)) a0_0 l0_1 a1_0 l1_1)else(z0d.j0 k true a0_0 l0_1 a1_0 l1_1))=some r:=h;clear h;have HC3:=z00.mk H;clear H;go_enter Tryz.func68,Tryz.ntmps68
 go_upto_region 1 with (first|((with_reducible refine z1r (N:=2) rfl ?_);(try(refine z4r (by rfl) ?_;dsimp only));refine z1z ?hg (N:=2) ?hd (cs:=#[.string a0_0,.slice A0_1 l0_1.length c0_1]) (t:=25) ?hr ?_;(case hd=>rfl);(case hg=>rfl);(case hr=>first|(go_simp;done)|(go_simp;rfl));intro gb853 hg w4 hbox hb;have n0_:=z00.mk (z0g zA00 hb);have n1_:=z00.mk (hbox);have n2_:=z00.mk ((by rw[hg];exact(z0j zA00):w.heap.size≤gb853));have n3_:=z00.mk ((by rw[hg];exact(z0j zA00):w.heap.size≤gb853));clear HB;have HB:=n0_;have BK853:=n1_;have GW853:=n2_;have GE853:=n3_;clear n0_ n1_ n2_ n3_;clear hb hbox hg)|((with_reducible refine z1r (N:=3) rfl ?_);(try(refine z4r (by rfl) ?_;dsimp only));refine z1z ?hg (N:=3) ?hd (cs:=#[.string a1_0,.slice A1_1 l1_1.length c1_1]) (t:=25) ?hr ?_;(case hd=>rfl);(case hg=>rfl);(case hr=>first|(go_simp;done)|(go_simp;rfl));intro gb854 hg w5 hbox hb;have n0_:=z00.mk (z0b (g:=gb853) (o:=.cells #[.string a0_0,.slice A0_1 l0_1.length c0_1] 25 (0,0)) zA05 hb);have n1_:=z00.mk (z0g zA06 hb);have n2_:=z00.mk (hbox);have n3_:=z00.mk ((by rw[hg];exact(z0j zA06):w.heap.size≤gb854));have n4_:=z00.mk ((by rw[hg];exact(z0j zA06):w.heap.size≤gb854));have n5_:=z00.mk ((by rw[hg];exact Nat.ne_of_lt (z26 (g:=gb853) (o:=.cells #[.string a0_0,.slice A0_1 l0_1.length c0_1] 25 (0,0)) zA05):gb853≠gb854));have n6_:=z00.mk ((by rw[hg];exact Nat.ne_of_gt (z26 (g:=gb853) (o:=.cells #[.string a0_0,.slice A0_1 l0_1.length c0_1] 25 (0,0)) zA05):gb854≠gb853));clear BK853;clear HB;have BK853:=n0_;have HB:=n1_;have BK854:=n2_;have GW854:=n3_;have GE854:=n4_;have NB853_854:=n5_;have NB854_853:=n6_;clear n0_ n1_ n2_ n3_ n4_ n5_ n6_;clear hb hbox hg))
 repeat(go_quiet (first|((with_reducible refine z1r (N:=2) rfl ?_);(try(refine z4r (by rfl) ?_;dsimp only));refine z1z ?hg (N:=2) ?hd (cs:=#[.string a0_0,.slice A0_1 l0_1.length c0_1]) (t:=25) ?hr ?_;(case hd=>rfl);(case hg=>rfl);(case hr=>first|(go_simp;done)|(go_simp;rfl));intro gb853 hg w4 hbox hb;have n0_:=z00.mk (z0g zA00 hb);have n1_:=z00.mk (hbox);have n2_:=z00.mk ((by rw[hg];exact(z0j zA00):w.heap.size≤gb853));have n3_:=z00.mk ((by rw[hg];exact(z0j zA00):w.heap.size≤gb853));clear HB;have HB:=n0_;have BK853:=n1_;have GW853:=n2_;have GE853:=n3_;clear n0_ n1_ n2_ n3_;clear hb hbox hg)|((with_reducible refine z1r (N:=3) rfl ?_);(try(refine z4r (by rfl) ?_;dsimp only));refine z1z ?hg (N:=3) ?hd (cs:=#[.string a1_0,.slice A1_1 l1_1.length c1_1]) (t:=25) ?hr ?_;(case hd=>rfl);(case hg=>rfl);(case hr=>first|(go_simp;done)|(go_simp;rfl));intro gb854 hg w5 hbox hb;have n0_:=z00.mk (z0b (g:=gb853) (o:=.cells #[.string a0_0,.slice A0_1 l0_1.length c0_1] 25 (0,0)) zA05 hb);have n1_:=z00.mk (z0g zA06 hb);have n2_:=z00.mk (hbox);have n3_:=z00.mk ((by rw[hg];exact(z0j zA06):w.heap.size≤gb854));have n4_:=z00.mk ((by rw[hg];exact(z0j zA06):w.heap.size≤gb854));have n5_:=z00.mk ((by rw[hg];exact Nat.ne_of_lt (z26 (g:=gb853) (o:=.cells #[.string a0_0,.slice A0_1 l0_1.length c0_1] 25 (0,0)) zA05):gb853≠gb854));have n6_:=z00.mk ((by rw[hg];exact Nat.ne_of_gt (z26 (g:=gb853) (o:=.cells #[.string a0_0,.slice A0_1 l0_1.length c0_1] 25 (0,0)) zA05):gb854≠gb853));clear BK853;clear HB;have BK853:=n0_;have HB:=n1_;have BK854:=n2_;have GW854:=n3_;have GE854:=n4_;have NB853_854:=n5_;have NB854_853:=n6_;clear n0_ n1_ n2_ n3_ n4_ n5_ n6_;clear hb hbox hg));go_upto_region 1 with (first|((with_reducible refine z1r (N:=2) rfl ?_);(try(refine z4r (by rfl) ?_;dsimp only));refine z1z ?hg (N:=2) ?hd (cs:=#[.string a0_0,.slice A0_1 l0_1.length c0_1]) (t:=25) ?hr ?_;(case hd=>rfl);(case hg=>rfl);(case hr=>first|(go_simp;done)|(go_simp;rfl));intro gb853 hg w4 hbox hb;have n0_:=z00.mk (z0g zA00 hb);have n1_:=z00.mk (hbox);have n2_:=z00.mk ((by rw[hg];exact(z0j zA00):w.heap.size≤gb853));have n3_:=z00.mk ((by rw[hg];exact(z0j zA00):w.heap.size≤gb853));clear HB;have HB:=n0_;have BK853:=n1_;have GW853:=n2_;have GE853:=n3_;clear n0_ n1_ n2_ n3_;clear hb hbox hg)|((with_reducible refine z1r (N:=3) rfl ?_);(try(refine z4r (by rfl) ?_;dsimp only));refine z1z ?hg (N:=3) ?hd (cs:=#[.string a1_0,.slice A1_1 l1_1.length c1_1]) (t:=25) ?hr ?_;(case hd=>rfl);(case hg=>rfl);(case hr=>first|(go_simp;done)|(go_simp;rfl));intro gb854 hg w5 hbox hb;have n0_:=z00.mk (z0b (g:=gb853) (o:=.cells #[.string a0_0,.slice A0_1 l0_1.length c0_1] 25 (0,0)) zA05 hb);have n1_:=z00.mk (z0g zA06 hb);have n2_:=z00.mk (hbox);have n3_:=z00.mk ((by rw[hg];exact(z0j zA06):w.heap.size≤gb854));have n4_:=z00.mk ((by rw[hg];exact(z0j zA06):w.heap.size≤gb854));have n5_:=z00.mk ((by rw[hg];exact Nat.ne_of_lt (z26 (g:=gb853) (o:=.cells #[.string a0_0,.slice A0_1 l0_1.length c0_1] 25 (0,0)) zA05):gb853≠gb854));have n6_:=z00.mk ((by rw[hg];exact Nat.ne_of_gt (z26 (g:=gb853) (o:=.cells #[.string a0_0,.slice A0_1 l0_1.length c0_1] 25 (0,0)) zA05):gb854≠gb853));clear BK853;clear HB;have BK853:=n0_;have HB:=n1_;have BK854:=n2_;have GW854:=n3_;have GE854:=n4_;have NB853_854:=n5_;have NB854_853:=n6_;clear n0_ n1_ n2_ n3_ n4_ n5_ n6_;clear hb hbox hg)))
 (try simp only[Act.put,List.setIfInBounds_toArray,List.set_cons_zero,List.set_cons_succ])
 go_cut [19] (fun v19 wc=>∃(kq:Nat) (x19_2:Bool),v19=.bool x19_2∧z00 (z0d.j0 kq x19_2 a0_0 l0_1 a1_0 l1_1=some r)∧z00 (kq≤k)∧z00 (wc.heap[gb853]?=some (.cells #[.string a0_0,(.slice A0_1 l0_1.length c0_1)] 25 (0,0)))∧z00 (wc.heap[gb854]?=some (.cells #[.string a1_0,(.slice A1_1 l1_1.length c1_1)] 25 (0,0)))∧z00 (Below w.heap.size w wc))
 case first =>
  have H:=HC3.out;clear HC3
  by_cases c6:a0_0.toList=a1_0.toList
  · rw[if_pos c6]at H;have c6b0:(a0_0.toList==a1_0.toList)=true:=beq_iff_eq.mpr c6;have c6b1:(a0_0.toList !=a1_0.toList)=false:=bne_eq_false_iff_eq.mpr c6;clear c6
    (first|rw[c6b0]|(simp only[i64_w,i32_w];rw[c6b0])|skip)
    have H':=z00.mk H;clear H;have hnb7:=NB853_854.out;have hnc7:=NB854_853.out;have hcz8_0:w5.cell? ⟨gb853,0,none⟩=some (.string a0_0):=(z01 BK853.out 0).trans rfl;have hcz8_1:w5.cell? ⟨gb853,1,none⟩=some (.slice A0_1 l0_1.length c0_1):=(z01 BK853.out 1).trans rfl;have hfz8_0:=z02 BK853.out 0;have hfz8_1:=z02 BK853.out 1;have hcz9_0:w5.cell? ⟨gb854,0,none⟩=some (.string a1_0):=(z01 BK854.out 0).trans rfl;have hcz9_1:w5.cell? ⟨gb854,1,none⟩=some (.slice A1_1 l1_1.length c1_1):=(z01 BK854.out 1).trans rfl;have hfz9_0:=z02 BK854.out 0;have hfz9_1:=z02 BK854.out 1;go_wp2
    repeat(go_quiet (fail);try go_wp2)
    go_meet
    case rel=>exact⟨_,(((l0_1.length:Int) !=(l1_1.length:Int))),zA04,H',⟨zA0q⟩,⟨zA05⟩,⟨zA0k⟩,⟨zA0g⟩⟩
  · rw[if_neg c6]at H;have c6b0:(a0_0.toList==a1_0.toList)=false:=beq_eq_false_iff_ne.mpr c6;have c6b1:(a0_0.toList !=a1_0.toList)=true:=bne_iff_ne.mpr c6
    (first|rw[c6b0]|(simp only[i64_w,i32_w];rw[c6b0])|skip)
    have H':=z00.mk H;clear H;have hnb10:=NB853_854.out;have hnc10:=NB854_853.out;have hcz11_0:w5.cell? ⟨gb853,0,none⟩=some (.string a0_0):=(z01 BK853.out 0).trans rfl;have hcz11_1:w5.cell? ⟨gb853,1,none⟩=some (.slice A0_1 l0_1.length c0_1):=(z01 BK853.out 1).trans rfl;have hfz11_0:=z02 BK853.out 0;have hfz11_1:=z02 BK853.out 1;have hcz12_0:w5.cell? ⟨gb854,0,none⟩=some (.string a1_0):=(z01 BK854.out 0).trans rfl;have hcz12_1:w5.cell? ⟨gb854,1,none⟩=some (.slice A1_1 l1_1.length c1_1):=(z01 BK854.out 1).trans rfl;have hfz12_0:=z02 BK854.out 0;have hfz12_1:=z02 BK854.out 1;go_wp2
    repeat(go_quiet (fail);try go_wp2)
    go_meet
    case rel=>exact⟨_,(true),zA04,H',⟨zA0q⟩,⟨zA05⟩,⟨zA0k⟩,⟨zA0g⟩⟩
 case rest =>
  clear HC3;(try clear c1);(try clear p2);(try clear c6);(try clear c6b0);(try clear c6b1);(try clear c7);(try clear c10);(try clear hcz11_0);(try clear hcz11_1);(try clear hcz12_0);(try clear hcz12_1);(try clear hcz8_0);(try clear hcz8_1);(try clear hcz9_0);(try clear hcz9_1);(try clear hfz11_0);(try clear hfz11_1);(try clear hfz12_0);(try clear hfz12_1);(try clear hfz8_0);(try clear hfz8_1);(try clear hfz9_0);(try clear hfz9_1);obtain⟨kq,x19_2,rfl,HA,HJ2,BK853,BK854,HB⟩:=hcut
  cases kq with
  |zero=>exact absurd HA.out (by simp[z0d.j0])
  |succ kj2 =>
   have H:=HA.out;clear HA;simp only[z0d.j0]at H
   by_cases c13:x19_2=true
   · subst c13;have H1:(some false)=some r:=by rw[if_pos rfl]at H;exact H
     clear H;have H:=H1;clear H1;obtain rfl:=Option.some.inj H;go_wp2
     repeat(go_quiet (fail);try go_wp2)
     go_ret
     exact⟨by first|rfl|(simp[z0v,z0w] <;> rfl)|(simp[*,z0v,z0w] <;> rfl),by repeat(first|(with_reducible first|exact HB.out|apply z03|apply z04|apply z05|refine z06 ?_ GE853.out|refine z06 ?_ GE854.out)|exact HB.out)⟩
   · replace c13:=Bool.eq_false_iff.mpr c13;subst c13;have H1:(z0d.l0 kj2 (l0_1.length:Int) 0 a0_0 l0_1 a1_0 l1_1)=some r:=by rw[if_neg (show ¬(false=true) by decide)]at H;exact H
     clear H;have H:=H1;clear H1;have H':=z00.mk H;clear H;have hnb14:=NB853_854.out;have hnc14:=NB854_853.out;have hcz15_0:wc.cell? ⟨gb853,0,none⟩=some (.string a0_0):=(z01 BK853.out 0).trans rfl;have hcz15_1:wc.cell? ⟨gb853,1,none⟩=some (.slice A0_1 l0_1.length c0_1):=(z01 BK853.out 1).trans rfl;have hfz15_0:=z02 BK853.out 0;have hfz15_1:=z02 BK853.out 1;go_wp2
     repeat(go_quiet (fail);try go_wp2)
     go_loopg [23] kj2 (fun kq v23 w'=>∃(x23_2:Int),v23=.int .i64 x23_2∧z00 (z0d.l0 kq (l0_1.length:Int) x23_2 a0_0 l0_1 a1_0 l1_1=some r)∧z00 (kq≤kj2)∧z00 (w'.heap[gb853]?=some (.cells #[.string a0_0,(.slice A0_1 l0_1.length c0_1)] 25 (0,0)))∧z00 (w'.heap[gb854]?=some (.cells #[.string a1_0,(.slice A1_1 l1_1.length c1_1)] 25 (0,0)))∧z00 (Below w.heap.size w w'))
     case atStart=>exact⟨(0),zA04,H',⟨Nat.le_refl _⟩,⟨zA05⟩,⟨zA0k⟩,⟨zA0g⟩⟩
     case round =>
      clear H';(try clear c1);(try clear p2);(try clear c6);(try clear c6b0);(try clear c6b1);(try clear c7);(try clear c10);(try clear c13);(try clear c14);(try clear hcz11_0);(try clear hcz11_1);(try clear hcz12_0);(try clear hcz12_1);(try clear hcz15_0);(try clear hcz15_1);(try clear hcz8_0);(try clear hcz8_1);(try clear hcz9_0);(try clear hcz9_1);(try clear hfz11_0);(try clear hfz11_1);(try clear hfz12_0);(try clear hfz12_1);(try clear hfz15_0);(try clear hfz15_1);(try clear hfz8_0);(try clear hfz8_1);(try clear hfz9_0);(try clear hfz9_1);(try clear p2);obtain⟨x23_2,rfl,HA,HK2,BK853,BK854,HB⟩:=hrel
      cases gk with
      |zero=>exact absurd HA.out (by simp[z0d.l0])
      |succ k2 =>
       have H:=HA.out;clear HA;simp only[z0d.l0]at H
       by_cases c16:x23_2<(l0_1.length:Int)
       · rw[if_pos c16]at H;have c16b0:decide (x23_2<(l0_1.length:Int))=true:=decide_eq_true c16;clear c16
         by_cases c17:0≤x23_2
         · rw[if_pos c17]at H;have c17b0:decide (0≤x23_2)=true:=decide_eq_true c17;clear c17
           by_cases c18:x23_2<(l0_1.length:Int)
           · rw[if_pos c18]at H;have c18b0:decide (x23_2<(l0_1.length:Int))=true:=decide_eq_true c18;clear c18
             by_cases c19:x23_2<(l1_1.length:Int)
             · rw[if_pos c19]at H;have c19b0:decide (x23_2<(l1_1.length:Int))=true:=decide_eq_true c19;clear c19
               by_cases c20:(!((((z1i l0_1 x23_2).f0).toList)==(((z1i l1_1 x23_2).f0).toList))||((!(((z1i l0_1 x23_2).f1.f0)==((z1i l1_1 x23_2).f1.f0))||(!(((z1i l0_1 x23_2).f1.f1)==((z1i l1_1 x23_2).f1.f1))||(!((((z1i l0_1 x23_2).f1.f2).toList)==(((z1i l1_1 x23_2).f1.f2).toList)))))))=true
               · rw[if_pos c20]at H;have c20b0:(!((((z1i l0_1 x23_2).f0).toList)==(((z1i l1_1 x23_2).f0).toList))||((!(((z1i l0_1 x23_2).f1.f0)==((z1i l1_1 x23_2).f1.f0))||(!(((z1i l0_1 x23_2).f1.f1)==((z1i l1_1 x23_2).f1.f1))||(!((((z1i l0_1 x23_2).f1.f2).toList)==(((z1i l1_1 x23_2).f1.f2).toList)))))))=true:=c20;clear c20;obtain rfl:=Option.some.inj H;have hnb21:=NB853_854.out;have hnc21:=NB854_853.out;have hcz22_0:wr.cell? ⟨gb853,0,none⟩=some (.string a0_0):=(z01 BK853.out 0).trans rfl;have hcz22_1:wr.cell? ⟨gb853,1,none⟩=some (.slice A0_1 l0_1.length c0_1):=(z01 BK853.out 1).trans rfl;have hfz22_0:=z02 BK853.out 0;have hfz22_1:=z02 BK853.out 1;have p855:0≤(x23_2:Int):=of_decide_eq_true zA02;have q855:x23_2<(l0_1.length:Int):=of_decide_eq_true zA02;obtain⟨ad855,e855,hx855_0,hx855_1,hx855_2,hx855_3⟩:=zdi HR0_1.out x23_2 p855 q855
                 cases e855
                 replace hx855_0:=(HB.out.cell (World.block_lt_of_cell? w _ hx855_0)).trans hx855_0;replace hx855_1:=(HB.out.cell (World.block_lt_of_cell? w _ hx855_1)).trans hx855_1;replace hx855_2:=(HB.out.cell (World.block_lt_of_cell? w _ hx855_2)).trans hx855_2;replace hx855_3:=(HB.out.cell (World.block_lt_of_cell? w _ hx855_3)).trans hx855_3;replace p855:=eq_true p855;replace q855:=eq_true q855;have hcz23_0:wr.cell? ⟨gb854,0,none⟩=some (.string a1_0):=(z01 BK854.out 0).trans rfl;have hcz23_1:wr.cell? ⟨gb854,1,none⟩=some (.slice A1_1 l1_1.length c1_1):=(z01 BK854.out 1).trans rfl;have hfz23_0:=z02 BK854.out 0;have hfz23_1:=z02 BK854.out 1;have p856:0≤(x23_2:Int):=of_decide_eq_true zA02;have q856:x23_2<(l1_1.length:Int):=of_decide_eq_true zA02;obtain⟨ad856,e856,hx856_0,hx856_1,hx856_2,hx856_3⟩:=zdi HR1_1.out x23_2 p856 q856
                 cases e856
                 replace hx856_0:=(HB.out.cell (World.block_lt_of_cell? w _ hx856_0)).trans hx856_0;replace hx856_1:=(HB.out.cell (World.block_lt_of_cell? w _ hx856_1)).trans hx856_1;replace hx856_2:=(HB.out.cell (World.block_lt_of_cell? w _ hx856_2)).trans hx856_2;replace hx856_3:=(HB.out.cell (World.block_lt_of_cell? w _ hx856_3)).trans hx856_3;replace p856:=eq_true p856;replace q856:=eq_true q856;go_wp2
                 repeat(go_quiet (fail);try go_wp2)
                 go_ret
                 exact⟨by first|rfl|(simp[z0v,z0w] <;> rfl)|(simp[*,z0v,z0w] <;> rfl),by repeat(first|(with_reducible first|exact HB.out|apply z03|apply z04|apply z05|refine z06 ?_ GE853.out|refine z06 ?_ GE854.out)|exact HB.out)⟩
               · rw[if_neg c20]at H;have c20b0:(!((((z1i l0_1 x23_2).f0).toList)==(((z1i l1_1 x23_2).f0).toList))||((!(((z1i l0_1 x23_2).f1.f0)==((z1i l1_1 x23_2).f1.f0))||(!(((z1i l0_1 x23_2).f1.f1)==((z1i l1_1 x23_2).f1.f1))||(!((((z1i l0_1 x23_2).f1.f2).toList)==(((z1i l1_1 x23_2).f1.f2).toList)))))))=false:=by simpa using c20
                 clear c20;have H':=z00.mk H;clear H;have hnb24:=NB853_854.out;have hnc24:=NB854_853.out;have hcz25_0:wr.cell? ⟨gb853,0,none⟩=some (.string a0_0):=(z01 BK853.out 0).trans rfl;have hcz25_1:wr.cell? ⟨gb853,1,none⟩=some (.slice A0_1 l0_1.length c0_1):=(z01 BK853.out 1).trans rfl;have hfz25_0:=z02 BK853.out 0;have hfz25_1:=z02 BK853.out 1;have p855:0≤(x23_2:Int):=of_decide_eq_true zA02;have q855:x23_2<(l0_1.length:Int):=of_decide_eq_true zA02;obtain⟨ad855,e855,hx855_0,hx855_1,hx855_2,hx855_3⟩:=zdi HR0_1.out x23_2 p855 q855
                 cases e855
                 replace hx855_0:=(HB.out.cell (World.block_lt_of_cell? w _ hx855_0)).trans hx855_0;replace hx855_1:=(HB.out.cell (World.block_lt_of_cell? w _ hx855_1)).trans hx855_1;replace hx855_2:=(HB.out.cell (World.block_lt_of_cell? w _ hx855_2)).trans hx855_2;replace hx855_3:=(HB.out.cell (World.block_lt_of_cell? w _ hx855_3)).trans hx855_3;replace p855:=eq_true p855;replace q855:=eq_true q855;have hcz26_0:wr.cell? ⟨gb854,0,none⟩=some (.string a1_0):=(z01 BK854.out 0).trans rfl;have hcz26_1:wr.cell? ⟨gb854,1,none⟩=some (.slice A1_1 l1_1.length c1_1):=(z01 BK854.out 1).trans rfl;have hfz26_0:=z02 BK854.out 0;have hfz26_1:=z02 BK854.out 1;have p856:0≤(x23_2:Int):=of_decide_eq_true zA02;have q856:x23_2<(l1_1.length:Int):=of_decide_eq_true zA02;obtain⟨ad856,e856,hx856_0,hx856_1,hx856_2,hx856_3⟩:=zdi HR1_1.out x23_2 p856 q856
                 cases e856
                 replace hx856_0:=(HB.out.cell (World.block_lt_of_cell? w _ hx856_0)).trans hx856_0;replace hx856_1:=(HB.out.cell (World.block_lt_of_cell? w _ hx856_1)).trans hx856_1;replace hx856_2:=(HB.out.cell (World.block_lt_of_cell? w _ hx856_2)).trans hx856_2;replace hx856_3:=(HB.out.cell (World.block_lt_of_cell? w _ hx856_3)).trans hx856_3;replace p856:=eq_true p856;replace q856:=eq_true q856;go_wp2
                 repeat(go_quiet (fail);try go_wp2)
                 go_roundg k2
                 case measure=>have:=HJ2.out;have:=HK2.out;omega
                 case rel=>exact⟨(wrap64 (x23_2+1)),zA04,H',⟨by have:=HJ2.out;have:=HK2.out;omega⟩,⟨zA05⟩,⟨zA0k⟩,⟨zA0g⟩⟩
             · rw[if_neg c19]at H;exact absurd H (by simp)
           · rw[if_neg c18]at H;exact absurd H (by simp)
         · rw[if_neg c17]at H;exact absurd H (by simp)
       · rw[if_neg c16]at H;have c16b0:decide (x23_2<(l0_1.length:Int))=false:=decide_eq_false c16;clear c16;obtain rfl:=Option.some.inj H;go_wp2
         repeat(go_quiet (fail);try go_wp2)
         go_ret
         exact⟨by first|rfl|(simp[z0v,z0w] <;> rfl)|(simp[*,z0v,z0w] <;> rfl),by repeat(first|(with_reducible first|exact HB.out|apply z03|apply z04|apply z05|refine z06 ?_ GE853.out|refine z06 ?_ GE854.out)|exact HB.out)⟩
end Go.Proofs.YthebhbomlllpeaaGreatDoor.X
