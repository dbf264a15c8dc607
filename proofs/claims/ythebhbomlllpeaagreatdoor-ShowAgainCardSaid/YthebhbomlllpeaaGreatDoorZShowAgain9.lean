/-
  ShowAgain: what the proof needs, put together by a program of this session (shake.py), part 9.
-/
import Derived.Test.YthebhbomlllpeaaGreatDoorZShowAgain8
set_option linter.unusedVariables false
set_option linter.unusedSimpArgs false
namespace Go.Proofs.YthebhbomlllpeaaGreatDoor.X
open Go.RowKit Go.Proofs.YthebhbomlllpeaaGreatDoorW.PrintWords Go.Proofs.YthebhbomlllpeaaGreatDoorW.PrintLast Go.Proofs.YthebhbomlllpeaaGreatDoorW.PrintMore
attribute [local go_sem ↓] Go.wp_at_zero Go.wp_at_succ
def lit11.T:Bool × List (List Nat × List Nat):=(true,[([],[]),([0],[0]),([1],[1]),([2],[2]),([3],[3]),([],[]),([5],[5]),([6,2],[6]),([4,7],[4,7]),([8],[8]),([],[]),([10],[10]),([11,7],[11]),([9,12],[9,12]),([13],[13]),([14,12,0,1,2,3,4,5,6,7,8,9,10,11,12,13,14],[14])])
def lit11.B:List Nat:=[0,1,3,7,15,0,32,103,255,511,0,1024,3303,8191,16383,32767]
theorem lit11.tab:rtab .any (opsOf Tryz.f44 11)=lit11.T:=by kernel_rfl
theorem lit11.bits:z45 lit11.T.2 lit11.B=true:=by kernel_rfl
set_option maxHeartbeats 8000000 in
set_option maxRecDepth 100000 in
theorem zkg (x:LtS) (A2:Option Addr) (c2:Nat) (A16:Option Addr) (c16:Nat) (j:Int) (w:World) (hLW:LaidW w) (hx:okL x) (hA2:Kd.C k60 w A2 x.f1.f1.length x.f1.f1) (hA16:Kd.C k69 w A16 x.f6.length x.f6) (hk:x.f0=5) :
 Calls Tryz.prog 44 #[.int .i64 j,.agg (litC x A2 c2 A16 c16)] w fun e w'=>e=.returned (.string (baL (litL x)))∧Below w.heap.size w w':=by
 obtain⟨nb,enb⟩:∃n,w.heap.size=n:=⟨_,rfl⟩
 obtain⟨W,hW⟩:∃W,w.alloc (.cells (litC x A2 c2 A16 c16) 62)=W:=⟨_,rfl⟩
 have hBW:Below w.heap.size w W:=hW ▸ z02 (Below.refl w.heap.size w) (.cells (litC x A2 c2 A16 c16) 62);have hN:=z0l w (.cells (litC x A2 c2 A16 c16) 62);rw[enb,hW]at hN;have HAT:=z00.mk (z5a x.f1 A2 c2 W (hLW.below hBW) (Kd.C_below hA2 hBW) hx.1);have HPA:=z00.mk (fun(V:World) (h:Below w.heap.size w V)=>z57 x.f6 A16 c16 V (hLW.below h) (Kd.C_below hA16 h) hx.2.2.2.2.1 hx.2.2.2.2.2.1);have HRP:=z00.mk (fun(V:World) (h:Below w.heap.size w V)=>z3c x.f6 A16 c16 V (hLW.below h) (Kd.C_below hA16 h) hx.2.2.2.2.1 hx.2.2.2.2.2.1);have HRS:=z00.mk (fun(n:Nat) (hn:n≤3) (a o p:Bool) (hc:(a=true∧o=false∧p=false)∨(a=false∧o=true∧p=false)∨(a=false∧o=false∧p=true)) (V:World) (h:LaidW V)=>z6m x A2 c2 A16 c16 n hn a o p hc V h hx);have HTA:=z00.mk (fun V (h:LaidW V)=>z2a x.f3 V h hx.2.1);have HTB:=z00.mk (fun V (h:LaidW V)=>z2a x.f4 V h hx.2.2.1);have HTC:=z00.mk (fun V (h:LaidW V)=>z2a x.f5 V h hx.2.2.2.1);have HWD:=z00.mk (fun V=>z4g.calls x.f2 (baL (wordL x.f2.data.toList)) V (zbu x.f2));have hla:=z23 x.f3 hx.2.1;have hlb:=z23 x.f4 hx.2.2.1;have hlc:=z23 x.f5 hx.2.2.2.1;have hlp:=z64 x.f6;have hlw:=z5y x.f2.data.toList;have hat:=z5i x.f1 0 hx.1;obtain⟨res,hres⟩:∃r,litL x=r:=⟨_,rfl⟩
 have HRE:=z00.mk hres;have HLW:=z00.mk hLW;have HBW:=z00.mk hBW;have HN:=z00.mk hN;rw[hres];simp only[litC]at HAT HRS HN hW ⊢;have HW:=z00.mk hW;have d1:W.cell? ⟨nb,1,none⟩=some (.string x.f1.f0):=(z01 HN.out 1).trans rfl;have d2:W.cell? ⟨nb,2,none⟩=some (.slice A2 x.f1.f1.length c2):=(z01 HN.out 2).trans rfl;have k1:(x.f0==1)=false:=beq_eq_false_iff_ne.2 (by omega);have k2:(x.f0==2)=false:=beq_eq_false_iff_ne.2 (by omega);have k3:(x.f0==3)=false:=beq_eq_false_iff_ne.2 (by omega);have k4:(x.f0==4)=false:=beq_eq_false_iff_ne.2 (by omega);have k5:(x.f0==5)=true:=beq_iff_eq.2 hk;have HLN:=z00.mk (And.intro hla (And.intro hlb (And.intro hlc (And.intro hlp hlw))));have HK:=z00.mk hk;clear hk hLW hx hA2 hA16 hres hBW hN hla hlb hlc hlp hlw hat;go_enter Tryz.func44,Tryz.ntmps44
 go_wp2_with fail
 refine HAT.out.mono ?_;rintro e w1 ⟨rfl,hb⟩;have HB1:=z00.mk (z06 HBW.out HBW.out.size hb);have HN1:=z00.mk (z0a HN.out hb);clear hb hW d1 d2 HAT enb;have d0:w1.cell? ⟨nb,0,none⟩=some (.int .i64 x.f0):=(z01 HN1.out 0).trans rfl;have d1:w1.cell? ⟨nb,1,none⟩=some (.string x.f1.f0):=(z01 HN1.out 1).trans rfl;have d2:w1.cell? ⟨nb,2,none⟩=some (.slice A2 x.f1.f1.length c2):=(z01 HN1.out 2).trans rfl;have d3:w1.cell? ⟨nb,3,none⟩=some (.string x.f2):=(z01 HN1.out 3).trans rfl;have d4:w1.cell? ⟨nb,4,none⟩=some (.string x.f3.f0):=(z01 HN1.out 4).trans rfl;have d5:w1.cell? ⟨nb,5,none⟩=some (.int .i64 x.f3.f1.f0):=(z01 HN1.out 5).trans rfl;have d6:w1.cell? ⟨nb,6,none⟩=some (.int .i64 x.f3.f1.f1):=(z01 HN1.out 6).trans rfl;have d7:w1.cell? ⟨nb,7,none⟩=some (.string x.f3.f1.f2):=(z01 HN1.out 7).trans rfl;have d8:w1.cell? ⟨nb,8,none⟩=some (.string x.f4.f0):=(z01 HN1.out 8).trans rfl;have d9:w1.cell? ⟨nb,9,none⟩=some (.int .i64 x.f4.f1.f0):=(z01 HN1.out 9).trans rfl;have d10:w1.cell? ⟨nb,10,none⟩=some (.int .i64 x.f4.f1.f1):=(z01 HN1.out 10).trans rfl;have d11:w1.cell? ⟨nb,11,none⟩=some (.string x.f4.f1.f2):=(z01 HN1.out 11).trans rfl;have d12:w1.cell? ⟨nb,12,none⟩=some (.string x.f5.f0):=(z01 HN1.out 12).trans rfl;have d13:w1.cell? ⟨nb,13,none⟩=some (.int .i64 x.f5.f1.f0):=(z01 HN1.out 13).trans rfl;have d14:w1.cell? ⟨nb,14,none⟩=some (.int .i64 x.f5.f1.f1):=(z01 HN1.out 14).trans rfl;have d15:w1.cell? ⟨nb,15,none⟩=some (.string x.f5.f1.f2):=(z01 HN1.out 15).trans rfl;have d16:w1.cell? ⟨nb,16,none⟩=some (.slice A16 x.f6.length c16):=(z01 HN1.out 16).trans rfl;obtain⟨atx,hatx⟩:∃b,baL (atomL x.f1)=b:=⟨_,rfl⟩
 rw[hatx];obtain⟨cnd,hcn⟩:∃b,(restB x 2 false false true&&rpB x.f6)=b:=⟨_,rfl⟩
 have HCN0:=z00.mk hcn;have HCN:=z00.mk hcn;clear hcn hatx
 go_upto_region 10 with (fail)
 go_cut [108] (fun v108 wc=>v108=.bool cnd∧z00 (wc.heap[nb]?=some (.cells #[.int .i64 x.f0,.string x.f1.f0,.slice A2 x.f1.f1.length c2,.string x.f2,.string x.f3.f0,.int .i64 x.f3.f1.f0,.int .i64 x.f3.f1.f1,.string x.f3.f1.f2,.string x.f4.f0,.int .i64 x.f4.f1.f0,.int .i64 x.f4.f1.f1,.string x.f4.f1.f2,.string x.f5.f0,.int .i64 x.f5.f1.f0,.int .i64 x.f5.f1.f1,.string x.f5.f1.f2,.slice A16 x.f6.length c16] 62 (0,0)))∧z00 (Below w.heap.size w wc))
 case first =>
  go_wp2_with fail
  refine(HRS.out 2 (by decide) false false true (by decide) _ (HLW.out.below HB1.out)).mono ?_;rintro e w2 ⟨rfl,hb⟩;have HB2:=z00.mk (z06 HB1.out HB1.out.size hb);have HN2:=z00.mk (z0a HN1.out hb);clear hb d0 d1 d2 d3 d4 d5 d6 d7 d8 d9 d10 d11 d12 d13 d14 d15 d16;have d0:w2.cell? ⟨nb,0,none⟩=some (.int .i64 x.f0):=(z01 HN2.out 0).trans rfl;have d3:w2.cell? ⟨nb,3,none⟩=some (.string x.f2):=(z01 HN2.out 3).trans rfl;have d4:w2.cell? ⟨nb,4,none⟩=some (.string x.f3.f0):=(z01 HN2.out 4).trans rfl;have d16:w2.cell? ⟨nb,16,none⟩=some (.slice A16 x.f6.length c16):=(z01 HN2.out 16).trans rfl;obtain⟨rr,hrr⟩:∃b,restB x 2 false false true=b:=⟨_,rfl⟩
  rw[hrr]at HCN ⊢;clear hrr
  cases rr with
  |false =>
   have HC2:=z00.mk (show cnd=false by rw[←HCN.out];rfl);go_wp2;go_meet
   case rel=>exact⟨by first|(rw[HC2.out];done)|(rw[HC2.out];rfl),HN2,HB2⟩
  |true =>
   go_wp2_with fail
   refine(HRP.out _ HB2.out).mono ?_;rintro e w3 ⟨rfl,hb⟩;have HN3:=z00.mk (z0a HN2.out hb);have HB3:=z00.mk (z06 HB2.out HB2.out.size hb);clear hb;obtain⟨rp,hrp⟩:∃b,rpB x.f6=b:=⟨_,rfl⟩
   rw[hrp]at HCN ⊢;have HC3:=z00.mk (show rp=cnd from HCN.out);clear hrp
   cases rp
   all_goals
    go_wp2;go_meet
    case rel=>exact⟨by first|(rw[←HC3.out];done)|(rw[←HC3.out];rfl),HN3,HB3⟩
 case rest =>
  clear HCN HB1 HN1 d0 d1 d2 d3 d4 d5 d6 d7 d8 d9 d10 d11 d12 d13 d14 d15 d16;obtain⟨rfl,HN2,HB2⟩:=hcut;have d0:wc.cell? ⟨nb,0,none⟩=some (.int .i64 x.f0):=(z01 HN2.out 0).trans rfl
  cases cnd with
  |false =>
   have HE:=z00.mk (show res=[] by have hk:=HK.out;have hc:=HCN0.out;rw[←HRE.out];unfold litL;rw[if_neg (fun h=>absurd (hk.symm.trans h.1) (by decide)),if_neg (fun h=>absurd (hk.symm.trans h.1) (by decide)),if_neg (fun h=>absurd (hk.symm.trans h.1) (by decide)),if_neg (fun h=>absurd (hk.symm.trans h.1) (by decide)),if_neg (fun h=>by rw[h.2.1,show rpB x.f6=true from neB h.2.2]at hc;cases hc)]);clear HCN0;go_wp2
   go_ret
   exact⟨by rw[HE.out];rfl,HB2.out⟩
  |true =>
   have HE:=z00.mk (show res=[119,97,108,107,40]++(termL x.f3++([44,32]++(pathL x.f6++([44,32]++(termL x.f4++[41]))))) by have hk:=HK.out;have hc:=HCN0.out;rw[←HRE.out];unfold litL;rw[if_neg (fun h=>absurd (hk.symm.trans h.1) (by decide)),if_neg (fun h=>absurd (hk.symm.trans h.1) (by decide)),if_neg (fun h=>absurd (hk.symm.trans h.1) (by decide)),if_neg (fun h=>absurd (hk.symm.trans h.1) (by decide)),if_pos (⟨hk,(Bool.and_eq_true_iff.1 hc).1,zlt (Bool.and_eq_true_iff.1 hc).2⟩)]);obtain⟨la,laE⟩:∃b,baL (termL x.f3)=b:=⟨_,rfl⟩
   have laS:la.size≤40:=by rw[←laE,z1y];exact HLN.out.1
   rw[laE]at HTA;have laH:=z00.mk laE;clear laE;obtain⟨lb,lbE⟩:∃b,baL (termL x.f4)=b:=⟨_,rfl⟩
   have lbS:lb.size≤40:=by rw[←lbE,z1y];exact HLN.out.2.1
   rw[lbE]at HTB;have lbH:=z00.mk lbE;clear lbE;obtain⟨pt,ptE⟩:∃b,baL (pathL x.f6)=b:=⟨_,rfl⟩
   have ptS:pt.size≤5000:=by rw[←ptE,z1y];exact HLN.out.2.2.2.1
   rw[ptE]at HPA;have ptH:=z00.mk ptE;clear ptE;have kq0:(9223372036854775807<5+la.size)=False:=eq_false (by omega);have kq1:(9223372036854775807<5+la.size+2)=False:=eq_false (by omega);have kq2:(9223372036854775807<5+la.size+2+pt.size)=False:=eq_false (by omega);have kq3:(9223372036854775807<5+la.size+2+pt.size+2)=False:=eq_false (by omega);have kq4:(9223372036854775807<5+la.size+2+pt.size+2+lb.size)=False:=eq_false (by omega);have kq5:(9223372036854775807<5+la.size+2+pt.size+2+lb.size+1)=False:=eq_false (by omega);have HNV:=z00.mk (z10 HN2.out);clear HCN0 d0;go_wp2;have HBV:=z00.mk (z05 HB2.out);obtain⟨V0,hV0⟩:∃V,wc=V:=⟨_,rfl⟩
   rw[hV0]at HBV HNV ⊢;clear hV0 HB2 HN2;refine z6t (n:=16) (S:=fun w'=>w'.heap[nb]?=some (.cells #[.int .i64 x.f0,.string x.f1.f0,.slice A2 x.f1.f1.length c2,.string x.f2,.string x.f3.f0,.int .i64 x.f3.f1.f0,.int .i64 x.f3.f1.f1,.string x.f3.f1.f2,.string x.f4.f0,.int .i64 x.f4.f1.f0,.int .i64 x.f4.f1.f1,.string x.f4.f1.f2,.string x.f5.f0,.int .i64 x.f5.f1.f0,.int .i64 x.f5.f1.f1,.string x.f5.f1.f2,.slice A16 x.f6.length c16] 62 (0,0))) (ds:=[]) #[false,false,false,false,false,false,false,false,false,false,false,false,false,false,false,false] (by kernel_rfl) rfl rfl (HNV.out) (fun hHeld=>?_);refine z3l lit11.tab lit11.bits (fun HT_ HW_=>?_)
   generalize V0.drew=V at HBV hHeld ⊢
   refine pure_ (i:=0) (N:=some 121) (v:=?_) (a':=?_) #[true,false,false,false,false,false,false,false,false,false,false,false,false,false,false,false] rfl rfl (z0s HT_.out (by kernel_rfl)) (fun _ _ _ h=>h) (Or.inl ⟨by rfl,?_⟩) ?_ ?_
   rotate_left
   · intro w'
     go_simp
     with_reducible rfl
   rotate_left
   · simp only[Act.put,List.setIfInBounds_toArray,List.set_cons_zero,List.set_cons_succ,i64_w,i32_w];rfl
   refine take_ (i:=1) (N:=some 122) (v:=?_) (a':=?_) #[true,true,false,false,false,false,false,false,false,false,false,false,false,false,false,false] rfl rfl (z1s HT_.out HW_.out (by kernel_rfl)) (fun _ _ _ h=>h) (Or.inl ⟨by rfl,?_⟩) hHeld ?_ ?_
   rotate_left
   · intro w' s1;have f4:w'.cell? ⟨nb,4,none⟩=some (.string x.f3.f0):=(z01 s1 4).trans rfl;have f5:w'.cell? ⟨nb,5,none⟩=some (.int .i64 x.f3.f1.f0):=(z01 s1 5).trans rfl;have f6:w'.cell? ⟨nb,6,none⟩=some (.int .i64 x.f3.f1.f1):=(z01 s1 6).trans rfl;have f7:w'.cell? ⟨nb,7,none⟩=some (.string x.f3.f1.f2):=(z01 s1 7).trans rfl;clear s1
     go_simp
     with_reducible rfl
   rotate_left
   · simp only[Act.put,List.setIfInBounds_toArray,List.set_cons_zero,List.set_cons_succ,i64_w,i32_w];rfl
   refine pure_ (i:=5) (N:=some 126) (v:=?_) (a':=?_) #[true,true,false,false,false,true,false,false,false,false,false,false,false,false,false,false] rfl rfl (z0s HT_.out (by kernel_rfl)) (fun _ _ _ h=>h) (Or.inl ⟨by rfl,?_⟩) ?_ ?_
   rotate_left
   · intro w'
     go_simp
     with_reducible rfl
   rotate_left
   · simp only[Act.put,List.setIfInBounds_toArray,List.set_cons_zero,List.set_cons_succ,i64_w,i32_w];rfl
   refine take_ (i:=6) (N:=some 127) (v:=?_) (a':=?_) #[true,true,false,false,false,true,true,false,false,false,false,false,false,false,false,false] rfl rfl (z1s HT_.out HW_.out (by kernel_rfl)) (fun _ _ _ h=>h) (Or.inl ⟨by rfl,?_⟩) hHeld ?_ ?_
   rotate_left
   · intro w' s1;have f16:w'.cell? ⟨nb,16,none⟩=some (.slice A16 x.f6.length c16):=(z01 s1 16).trans rfl;clear s1
     go_simp
     with_reducible rfl
   rotate_left
   · simp only[Act.put,List.setIfInBounds_toArray,List.set_cons_zero,List.set_cons_succ,i64_w,i32_w];rfl
   refine pure_ (i:=10) (N:=some 131) (v:=?_) (a':=?_) #[true,true,false,false,false,true,true,false,false,false,true,false,false,false,false,false] rfl rfl (z0s HT_.out (by kernel_rfl)) (fun _ _ _ h=>h) (Or.inl ⟨by rfl,?_⟩) ?_ ?_
   rotate_left
   · intro w'
     go_simp
     with_reducible rfl
   rotate_left
   · simp only[Act.put,List.setIfInBounds_toArray,List.set_cons_zero,List.set_cons_succ,i64_w,i32_w];rfl
   refine take_ (i:=11) (N:=some 132) (v:=?_) (a':=?_) #[true,true,false,false,false,true,true,false,false,false,true,true,false,false,false,false] rfl rfl (z1s HT_.out HW_.out (by kernel_rfl)) (fun _ _ _ h=>h) (Or.inl ⟨by rfl,?_⟩) hHeld ?_ ?_
   rotate_left
   · intro w' s1;have f8:w'.cell? ⟨nb,8,none⟩=some (.string x.f4.f0):=(z01 s1 8).trans rfl;have f9:w'.cell? ⟨nb,9,none⟩=some (.int .i64 x.f4.f1.f0):=(z01 s1 9).trans rfl;have f10:w'.cell? ⟨nb,10,none⟩=some (.int .i64 x.f4.f1.f1):=(z01 s1 10).trans rfl;have f11:w'.cell? ⟨nb,11,none⟩=some (.string x.f4.f1.f2):=(z01 s1 11).trans rfl;clear s1
     go_simp
     with_reducible rfl
   rotate_left
   · simp only[Act.put,List.setIfInBounds_toArray,List.set_cons_zero,List.set_cons_succ,i64_w,i32_w];rfl
   refine one_ (i:=2) (N:=some 123) #[true,true,true,false,false,true,true,false,false,false,true,true,false,false,false,false] rfl rfl (z2f HT_.out (by kernel_rfl)) (by decide) (fun K hK=>?_);refine goes_ Tryz.func70 (by kernel_rfl) rfl #[.agg #[.string x.f3.f0,.int .i64 x.f3.f1.f0,.int .i64 x.f3.f1.f1,.string x.f3.f1.f2]] (by rfl) rfl rfl zA02 ?_;refine(HTA.out _ (HLW.out.below HBV.out)).mono ?_;rintro e V2 ⟨rfl,hb⟩;refine⟨_,rfl,?_⟩;replace HBV:=z00.mk (z06 HBV.out HBV.out.size hb);replace hHeld:=z0a hHeld hb;clear hb;refine hK.out _ _ (hHeld) (fun hHeld=>?_);clear hK K;refine norm_ (a':=?_) ?_ ?_
   rotate_left
   · show Act.put _ (some 123) _=_;simp only[Act.put,List.setIfInBounds_toArray,List.set_cons_zero,List.set_cons_succ,i64_w,i32_w];rfl
   refine pure_ (i:=3) (N:=some 124) (v:=?_) (a':=?_) #[true,true,true,true,false,true,true,false,false,false,true,true,false,false,false,false] rfl rfl (z0s HT_.out (by kernel_rfl)) (fun _ _ _ h=>h) (Or.inl ⟨by rfl,?_⟩) ?_ ?_
   rotate_left
   · intro w'
     go_simp
     with_reducible rfl
   rotate_left
   · simp only[Act.put,List.setIfInBounds_toArray,List.set_cons_zero,List.set_cons_succ,i64_w,i32_w];rfl
   refine pure_ (i:=4) (N:=some 125) (v:=?_) (a':=?_) #[true,true,true,true,true,true,true,false,false,false,true,true,false,false,false,false] rfl rfl (z0s HT_.out (by kernel_rfl)) (fun _ _ _ h=>h) (Or.inl ⟨by rfl,?_⟩) ?_ ?_
   rotate_left
   · intro w'
     go_simp
     with_reducible rfl
   rotate_left
   · simp only[Act.put,List.setIfInBounds_toArray,List.set_cons_zero,List.set_cons_succ,i64_w,i32_w];rfl
   refine one_ (i:=7) (N:=some 128) #[true,true,true,true,true,true,true,true,false,false,true,true,false,false,false,false] rfl rfl (z2f HT_.out (by kernel_rfl)) (by decide) (fun K hK=>?_);refine goes_ Tryz.func25 (by kernel_rfl) rfl #[.slice A16 x.f6.length c16] (by rfl) rfl rfl zA02 ?_;refine(HPA.out _ HBV.out).mono ?_;rintro e V2 ⟨rfl,hb⟩;refine⟨_,rfl,?_⟩;replace HBV:=z00.mk (z06 HBV.out HBV.out.size hb);replace hHeld:=z0a hHeld hb;clear hb;refine hK.out _ _ (hHeld) (fun hHeld=>?_);clear hK K;refine norm_ (a':=?_) ?_ ?_
   rotate_left
   · show Act.put _ (some 128) _=_;simp only[Act.put,List.setIfInBounds_toArray,List.set_cons_zero,List.set_cons_succ,i64_w,i32_w];rfl
   refine pure_ (i:=8) (N:=some 129) (v:=?_) (a':=?_) #[true,true,true,true,true,true,true,true,true,false,true,true,false,false,false,false] rfl rfl (z0s HT_.out (by kernel_rfl)) (fun _ _ _ h=>h) (Or.inl ⟨by rfl,?_⟩) ?_ ?_
   rotate_left
   · intro w'
     go_simp
     with_reducible rfl
   rotate_left
   · simp only[Act.put,List.setIfInBounds_toArray,List.set_cons_zero,List.set_cons_succ,i64_w,i32_w];rfl
   refine pure_ (i:=9) (N:=some 130) (v:=?_) (a':=?_) #[true,true,true,true,true,true,true,true,true,true,true,true,false,false,false,false] rfl rfl (z0s HT_.out (by kernel_rfl)) (fun _ _ _ h=>h) (Or.inl ⟨by rfl,?_⟩) ?_ ?_
   rotate_left
   · intro w'
     go_simp
     with_reducible rfl
   rotate_left
   · simp only[Act.put,List.setIfInBounds_toArray,List.set_cons_zero,List.set_cons_succ,i64_w,i32_w];rfl
   refine one_ (i:=12) (N:=some 133) #[true,true,true,true,true,true,true,true,true,true,true,true,true,false,false,false] rfl rfl (z2f HT_.out (by kernel_rfl)) (by decide) (fun K hK=>?_);refine goes_ Tryz.func70 (by kernel_rfl) rfl #[.agg #[.string x.f4.f0,.int .i64 x.f4.f1.f0,.int .i64 x.f4.f1.f1,.string x.f4.f1.f2]] (by rfl) rfl rfl zA02 ?_;refine(HTB.out _ (HLW.out.below HBV.out)).mono ?_;rintro e V2 ⟨rfl,hb⟩;refine⟨_,rfl,?_⟩;replace HBV:=z00.mk (z06 HBV.out HBV.out.size hb);replace hHeld:=z0a hHeld hb;clear hb;refine hK.out _ _ (hHeld) (fun hHeld=>?_);clear hK K;refine norm_ (a':=?_) ?_ ?_
   rotate_left
   · show Act.put _ (some 133) _=_;simp only[Act.put,List.setIfInBounds_toArray,List.set_cons_zero,List.set_cons_succ,i64_w,i32_w];rfl
   refine pure_ (i:=13) (N:=some 134) (v:=?_) (a':=?_) #[true,true,true,true,true,true,true,true,true,true,true,true,true,true,false,false] rfl rfl (z0s HT_.out (by kernel_rfl)) (fun _ _ _ h=>h) (Or.inl ⟨by rfl,?_⟩) ?_ ?_
   rotate_left
   · intro w'
     go_simp
     with_reducible rfl
   rotate_left
   · simp only[Act.put,List.setIfInBounds_toArray,List.set_cons_zero,List.set_cons_succ,i64_w,i32_w];rfl
   refine pure_ (i:=14) (N:=some 135) (v:=?_) (a':=?_) #[true,true,true,true,true,true,true,true,true,true,true,true,true,true,true,false] rfl rfl (z0s HT_.out (by kernel_rfl)) (fun _ _ _ h=>h) (Or.inl ⟨by rfl,?_⟩) ?_ ?_
   rotate_left
   · intro w'
     go_simp
     with_reducible rfl
   rotate_left
   · simp only[Act.put,List.setIfInBounds_toArray,List.set_cons_zero,List.set_cons_succ,i64_w,i32_w];rfl
   refine pure_ (i:=15) (N:=some 4) (v:=?_) (a':=?_) #[true,true,true,true,true,true,true,true,true,true,true,true,true,true,true,true] rfl rfl (z0s HT_.out (by kernel_rfl)) (fun _ _ _ h=>h) (Or.inl ⟨by rfl,?_⟩) ?_ ?_
   rotate_left
   · intro w'
     go_simp
     with_reducible rfl
   rotate_left
   · simp only[Act.put,List.setIfInBounds_toArray,List.set_cons_zero,List.set_cons_succ,i64_w,i32_w];rfl
   refine done_ (z4y HT_.out (by kernel_rfl)) ?_;go_wp2
   go_ret
   exact⟨by rw[HE.out,←laH.out,←lbH.out,←ptH.out];exact z6g (ba_eq (by simp)),HBV.out⟩

theorem lit_show (x:LtS) (A2:Option Addr) (c2:Nat) (A16:Option Addr) (c16:Nat) (j:Int) (w:World) (hLW:LaidW w) (hx:okL x) (hA2:Kd.C k60 w A2 x.f1.f1.length x.f1.f1) (hA16:Kd.C k69 w A16 x.f6.length x.f6) :
 Calls Tryz.prog 44 #[.int .i64 j,.agg (litC x A2 c2 A16 c16)] w fun e w'=>e=.returned (.string (baL (litL x)))∧Below w.heap.size w w':=by
 by_cases h1:x.f0=1
 · exact zmp x A2 c2 A16 c16 j w hLW hx hA2 hA16 h1
 by_cases h2:x.f0=2
 · exact zm9 x A2 c2 A16 c16 j w hLW hx hA2 hA16 h2
 by_cases h3:x.f0=3
 · exact zly x A2 c2 A16 c16 j w hLW hx hA2 hA16 h3
 by_cases h4:x.f0=4
 · exact zk2 x A2 c2 A16 c16 j w hLW hx hA2 hA16 h4
 by_cases h5:x.f0=5
 · exact zkg x A2 c2 A16 c16 j w hLW hx hA2 hA16 h5
 exact zlr x A2 c2 A16 c16 j w hLW hx hA2 hA16 ⟨h1,h2,h3,h4,h5⟩
end Go.Proofs.YthebhbomlllpeaaGreatDoor.X
namespace Go.Proofs.YthebhbomlllpeaaGreatDoor.X
open Go.RowKit Go.Proofs.YthebhbomlllpeaaGreatDoorW.PrintWords Go.Proofs.YthebhbomlllpeaaGreatDoorW.PrintLast Go.Proofs.YthebhbomlllpeaaGreatDoorW.PrintMore
abbrev zhc:Array Value:=#[.string ⟨#[]⟩,.slice none 0 0,.int .i64 0,.slice none 0 0]
set_option maxHeartbeats 4000000 in
set_option maxRecDepth 100000 in
theorem zg8 (w:World) (A:Option Addr) (c:Nat) (xs:List S33) (g:Nat→List UInt8) (sep:ByteArray) (hsep:sep.size≤2) (hC:Kd.C k33 w A xs.length xs) (hn:xs.length≤1000) (hg:∀i,(g i).length≤100000000)
 (hby:∀(W:World) (i:Nat) (cs:List Value),i<xs.length→Below w.heap.size w W→k33.K W (xs.getD i z33) cs→Calls Tryz.prog 49 #[.int .i64 i,.agg cs.toArray] W fun e W'=>e=.returned (.string (baL (g i)))∧Below W.heap.size W W') :
 Calls Tryz.prog 48 #[.slice A xs.length c,.func (.func 49) #[] #[],.string sep] w fun e w'=>e=.returned (.tuple #[.string (baL (eachG g xs.length sep.data.toList).1),.bool (eachG g xs.length sep.data.toList).2])∧Below w.heap.size w w':=by
 have HC:=z00.mk hC;have HBY:=z00.mk hby;have HG:=z00.mk (And.intro hg hsep);have HR:=z00.mk (Kd.R_nil Kd.string 9 w w.heap.size (fun k=>w.heap.size≤k));have HB:=z00.mk (Below.refl w.heap.size w);clear hC hby hg hsep;go_enter Tryz.func48,Tryz.ntmps48;go_wp2
 go_loopg [8,14] (xs.length+1) (fun kq v8 v14 w'=>∃(i:Nat),v14=.int .i64 i∧kq+i=xs.length+1∧i≤xs.length∧z00 (∀j,j<i→g j≠[])∧z00 (Kd.R Kd.string 9 w' w.heap.size (fun k=>w.heap.size≤k) v8 ((List.range i).map (fun j=>baL (g j))))∧z00 (Below w.heap.size w w'))
 case atStart=>exact⟨0,rfl,by omega,by omega,⟨fun j hj=>by omega⟩,HR,HB⟩
 case round =>
  clear HR HB;obtain⟨i,rfl,hk,hi,HE,HV,HB⟩:=hrel
  by_cases hlt:i<xs.length
  · have hz:decide ((i:Int)<(xs.length:Int))=true:=decide_eq_true (by omega);have hz2:decide (i<xs.length)=true:=decide_eq_true hlt;obtain⟨k1,rfl⟩:∃k1,gk=k1+1:=⟨gk - 1,by omega⟩
    obtain⟨bk,o,cs,rfl,hcl,hK,hcell⟩:=zfc (Kd.C_below HC.out HB.out) z33 (by decide) i hlt;have hcl:cs.length=4:=hcl;have hrg:wr.rangeAt bk (o+i * 4) cs:=hcell;have h1c:=k33.K_one hK;have HK:=z00.mk (And.intro hK (And.intro hrg (And.intro hcl h1c)));obtain⟨n,en⟩:∃n,wr.heap.size=n:=⟨_,rfl⟩
    have hN:=z0l wr (.cells zhc 33);rw[en]at hN;have HN:=z00.mk hN;have HBA:=z00.mk (z02 HB.out (.cells zhc 33));have HNB:=z00.mk (show w.heap.size≤n by rw[←en];exact HB.out.size);have HRG:=z00.mk (show(sets (wr.alloc (.cells zhc 33)) n 0 cs).rangeAt n 0 cs from by
     have h1:=z7i (z35 cs 0 _ _ hN)
     rwa [z8t (hcl.trans (by kernel_rfl)),List.toList_toArray]at h1)
    have hBW:Below wr.heap.size wr (sets (wr.alloc (.cells zhc 33)) n 0 cs):=z2u (w0:=wr) (by omega) cs 0 _ (z02 (Below.refl _ _) _);have HBW:=z00.mk hBW;clear hK hrg hcl h1c hcell hN hBW
    go_wp2_with (first|((with_reducible refine z1u (N:=18) rfl ?_);refine wpList_load_mid rfl 33 (.tmp 17) rfl bk (o+i * 4) rfl cs _ HK.out.2.1 Tryz.underlying33 rfl (by rw[HK.out.2.2.1];kernel_rfl) ?_)|((with_reducible refine z3x (t:=33) (p:=10) (v:=.tmp 18) rfl ?_);refine wpList_store_mid rfl 33 (.tmp 10) (.tmp 18) rfl n 0 cs.toArray rfl rfl (z4w HN.out (by rw[List.size_toArray,HK.out.2.2.1];exact Nat.le_of_eq (by kernel_rfl))) (by rw[List.size_toArray,HK.out.2.2.1];kernel_rfl) (all_oneCell_toArray HK.out.2.2.2) ?_;rw[z2o,List.toList_toArray])|((with_reducible refine z1u (N:=21) rfl ?_);refine wpList_load_mid rfl 33 (.tmp 10) rfl n 0 rfl cs _ HRG.out Tryz.underlying33 rfl (by rw[HK.out.2.2.1];kernel_rfl) ?_))
    have HCB:=z00.mk (z06 HB.out HB.out.size HBW.out);refine(HBY.out _ i cs hlt HCB.out (k33.K_below HBW.out HK.out.1)).mono ?_;rintro e w1 ⟨rfl,hb⟩;have hb1:=z06 HBW.out HBW.out.size hb;have HB1:=z00.mk (z06 HB.out HB.out.size hb1);have HV1:=z00.mk (Kd.R_below HV.out hb1);clear hb hb1;obtain⟨b,hbE⟩:∃b,baL (g i)=b:=⟨_,rfl⟩
    by_cases he:g i=[]
    · have e1:(b.toList==([]:List UInt8))=true:=by rw[←hbE,he,z17];exact beq_self_eq_true _
      have e2:(b.toList==(⟨#[]⟩:ByteArray).toList)=true:=by rw[←hbE,he];exact beq_self_eq_true _
      have HE:=z00.mk (zdd (sep:=sep.data.toList) hlt he);clear he;rw[hbE];clear hbE;go_wp2
      go_ret2
      rw[HE.out];exact⟨rfl,HB1.out⟩
    · have e1:(b.toList==([]:List UInt8))=false:=by rw[beq_eq_false_iff_ne,←hbE,z17];exact he
      have e2:(b.toList==(⟨#[]⟩:ByteArray).toList)=false:=by rw[beq_eq_false_iff_ne,←hbE,z17];exact fun h=>he (h.trans z1v)
      have HBE:=z00.mk (And.intro hbE he);obtain⟨A8,c8,rfl⟩:=Kd.R_slice HV1.out;have HL:z00 (((List.range i).map fun j=>baL (g j)).length≤1000):=⟨by rw[List.length_map,List.length_range];omega⟩
      rw[hbE];clear hbE he;obtain⟨L,hL⟩:∃L,((List.range i).map fun j=>baL (g j))=L:=⟨_,rfl⟩
      rw[hL]at HV1 HL;rw[hL];have HLE:=z00.mk hL;clear hL
      go_wp2_with ((with_reducible refine z1n (b:=.append) (xs:=#[.tmp 25,.tmp 27]) rfl ?_);at_builtin;refine Kd.R_append Kd.string (w0:=w) w.heap.size rfl (.tmp 25) (.tmp 27) 54 9 (.string ⟨#[]⟩) 16 rfl Tryz.underlying54 zm1 rfl (by decide) (by decide) (.slice A8 L.length c8) L b [.string b] (fun k=>w.heap.size≤k) (fun _=>False) rfl zA0f rfl (fun _ hk=>hk.elim) (fun k hk=>Nat.le_trans HB1.out.size hk) HV1.out HB1.out HB1.out.size (by have:=HL.out;omega) ?_;intro v1 w2 ho hb hg hat;have HV2:=z00.mk ho;have HB2:=z00.mk hb;clear ho hb hg hat)
      go_roundg k1
      case rel=>exact⟨i+1,by go_num,by omega,by omega,⟨fun j hj=>by rcases Nat.lt_succ_iff_lt_or_eq.1 hj with h|h;exact HE.out j h;exact h ▸ HBE.out.2⟩,⟨by rw[z9n,HBE.out.1,HLE.out];exact HV2.out⟩,HB2⟩
      case measure=>omega
  · obtain rfl:i=xs.length:=by omega
    have hz:decide ((xs.length:Int)<(xs.length:Int))=false:=decide_eq_false (by omega);obtain⟨A8,c8,rfl⟩:=Kd.R_slice HV.out;have hj:=z9u sep HV.out (by rw[z5n];exact z9s HG.out.1 HG.out.2 hn) (by rw[List.length_map,List.length_range];exact hn);rw[z5n]at hj;obtain⟨L,hL⟩:∃L,((List.range xs.length).map fun j=>baL (g j))=L:=⟨_,rfl⟩
    rw[hL]at hj ⊢;clear HV hL;have HJ:=z00.mk hj;have HE2:=z00.mk (zaz (sep:=sep.data.toList) HE.out);clear hj
    go_wp2_with fail
    refine HJ.out.mono ?_;rintro e w1 ⟨rfl,hb⟩;have HB1:=z00.mk (z06 HB.out HB.out.size hb);clear hb;go_wp2
    go_ret2
    rw[HE2.out];exact⟨rfl,HB1.out⟩

def okR (x:RlS):Prop:=okA x.f0∧(∀y ∈ x.f2,okL y)∧x.f2.length≤1000
def okP (p:PgS):Prop:=(∀x ∈ p.f0,okR x)∧p.f0.length≤1000∧okA p.f1
theorem zhn (a:AtS) (h:okA a):(atomL a).length≤200000:=z5i a 0 h
theorem zik (x:LtS) (h:okL x):(litL x).length≤300000:=by
 have h1:=zhn x.f1 h.1;have h2:=z23 x.f3 h.2.1;have h3:=z23 x.f4 h.2.2.1;have h4:=z23 x.f5 h.2.2.2.1;have h5:=z64 x.f6;have h6:=z5y x.f2.data.toList;unfold litL
 split
 · omega
 · split
   · simp only[List.length_append,List.length_cons,List.length_nil];omega
   · split
     · rename_i hc;have:=zee hc.2.2;simp only[List.length_append,List.length_cons,List.length_nil];omega
     · split
       · simp only[List.length_append,List.length_cons,List.length_nil];omega
       · split
         · simp only[List.length_append,List.length_cons,List.length_nil];omega
         · simp
theorem zjc {α:Type} (f:α→List UInt8) (z:α) (xs:List α):(List.range xs.length).map (fun i=>f (xs.getD i z))=xs.map f:=by
 apply List.ext_getElem?;intro i
 by_cases h:i<xs.length
 · rw[List.getElem?_map,List.getElem?_range h,List.getElem?_map,List.getElem?_eq_getElem h];simp only[Option.map_some,List.getD_eq_getElem?_getD,List.getElem?_eq_getElem h,Option.getD_some]
 · rw[List.getElem?_eq_none (by simp;omega),List.getElem?_eq_none (by simp;omega)]
theorem zha {α:Type} (f:α→List UInt8) (z:α) (xs:List α) (sep:List UInt8):eachG (fun i=>f (xs.getD i z)) xs.length sep=eachL (xs.map f) sep:=by unfold eachG;rw[zjc]
theorem za7 {α:Type} {P:α→Prop} {z:α} {xs:List α} (h:∀x ∈ xs,P x) (hz:P z) (i:Nat):P (xs.getD i z):=by
 rw[List.getD_eq_getElem?_getD]
 cases hg:xs[i]? with
 |none=>exact hz
 |some y=>exact h y (List.mem_of_getElem? hg)
theorem okT_z:okT z60:=⟨⟨by decide,by decide⟩,by decide⟩
theorem okA_z:okA z25:=⟨(fun x hx=>by cases hx),by decide⟩
theorem okL_z:okL z62:=⟨okA_z,okT_z,okT_z,okT_z,(fun y hy=>by cases hy),by decide,by decide⟩
theorem okR_z:okR z33:=⟨okA_z,(fun y hy=>by cases hy),by decide⟩
theorem zhy (x:RlS) (h:okR x) (h12:x.f2.length≤12):(eachL (x.f2.map litL) [44,32]).1.length≤12 * 300002:=by
 refine Nat.le_trans (za8 (m:=300000) (fun y hy=>?_)) ?_
 · obtain⟨z,hz,rfl⟩:=List.mem_map.1 hy;exact zik z (h.2.1 z hz)
 · rw[List.length_map];exact Nat.mul_le_mul h12 (by simp)
theorem zem (x:RlS) (h:okR x):(ruleL x).length≤4000000:=by
 have h1:=z5i x.f0 x.f1 h.1;unfold ruleL
 split
 · simp
 · rename_i hc;have h2:=zhy x h (by omega)
   split
   · simp
   · split
     · simp only[List.length_append,List.length_cons,List.length_nil];omega
     · simp only[List.length_append,List.length_cons,List.length_nil];omega
theorem zcy (w:World) (A:Option Addr) (c:Nat) (xs:List LtS) (hLW:LaidW w) (hC:Kd.C k62 w A xs.length xs) (hn:xs.length≤1000) (hx:∀y ∈ xs,okL y) :
 Calls Tryz.prog 43 #[.slice A xs.length c,.func (.func 44) #[] #[],.string ⟨#[44,32]⟩] w fun e w'=>e=.returned (.tuple #[.string (baL (eachL (xs.map litL) [44,32]).1),.bool (eachL (xs.map litL) [44,32]).2])∧Below w.heap.size w w':=by
 have h:=zgk w A c xs (fun i=>litL (xs.getD i z62)) ⟨#[44,32]⟩ (by decide) hC hn (fun i=>Nat.le_trans (zik _ (za7 hx okL_z i)) (by decide)) (fun W i cs hi hb hK=>by
  obtain⟨A2,c2,A16,c16,rfl,_,g2,_,g16⟩:=zda hK;exact lit_show (xs.getD i z62) A2 c2 A16 c16 (i:Int) W (hLW.below hb) (za7 hx okL_z i) g2 g16)
 rw[zha,show(⟨#[44,32]⟩:ByteArray).data.toList=[44,32]from rfl]at h;exact h
set_option maxHeartbeats 4000000 in
set_option maxRecDepth 100000 in
theorem ze2 (x:RlS) (A1:Option Addr) (c1:Nat) (A3:Option Addr) (c3:Nat) (w:World) (hLW:LaidW w) (hx:okR x) (hA1:Kd.C k60 w A1 x.f0.f1.length x.f0.f1) (hA3:Kd.C k62 w A3 x.f2.length x.f2) :
 Calls Tryz.prog 18 #[.agg #[.string x.f0.f0,.slice A1 x.f0.f1.length c1,.int .i64 x.f1,.slice A3 x.f2.length c3]] w fun e w'=>e=.returned (.string (baL (ruleL x)))∧Below w.heap.size w w':=by
 obtain⟨W,hW⟩:∃W,w.alloc (.cells #[.string x.f0.f0,.slice A1 x.f0.f1.length c1,.int .i64 x.f1,.slice A3 x.f2.length c3] 33)=W:=⟨_,rfl⟩
 have hBW:Below w.heap.size w W:=hW ▸ z02 (Below.refl w.heap.size w) _;have hN:=z0l w (.cells #[.string x.f0.f0,.slice A1 x.f0.f1.length c1,.int .i64 x.f1,.slice A3 x.f2.length c3] 33);rw[hW]at hN;have d0:W.cell? ⟨w.heap.size,0,none⟩=some (.string x.f0.f0):=(z01 hN 0).trans rfl;have d1:W.cell? ⟨w.heap.size,1,none⟩=some (.slice A1 x.f0.f1.length c1):=(z01 hN 1).trans rfl;have d2:W.cell? ⟨w.heap.size,2,none⟩=some (.int .i64 x.f1):=(z01 hN 2).trans rfl;have d3:W.cell? ⟨w.heap.size,3,none⟩=some (.slice A3 x.f2.length c3):=(z01 hN 3).trans rfl;have HB:=z00.mk hBW;have HN:=z00.mk hN;have hlb:x.f2.length≤1000:=hx.2.2;obtain⟨res,hres⟩:∃r,ruleL x=r:=⟨_,rfl⟩
 have HRE:=z00.mk hres;rw[hres]
 by_cases hf0:x.f1<0
 · have e1:decide (x.f1<0)=true:=decide_eq_true hf0;have HE:=z00.mk (show res=[] by rw[←HRE.out];exact if_pos (Or.inl hf0));clear hA1 hA3 hx hLW hBW hN hres;go_enter Tryz.func18,Tryz.ntmps18;go_wp2
   go_ret
   exact⟨by rw[HE.out];rfl,HB.out⟩
 have e1:decide (x.f1<0)=false:=decide_eq_false hf0
 by_cases hf5:5<x.f1
 · have e2:decide (5<x.f1)=true:=decide_eq_true hf5;have HE:=z00.mk (show res=[] by rw[←HRE.out];exact if_pos (Or.inr (Or.inl hf5)));clear hA1 hA3 hx hLW hBW hN hres hf0 hf5;go_enter Tryz.func18,Tryz.ntmps18;go_wp2
   go_ret
   exact⟨by rw[HE.out];rfl,HB.out⟩
 have e2:decide (5<x.f1)=false:=decide_eq_false hf5
 by_cases h12:12<x.f2.length
 · have e3:decide ((12:Int)<(x.f2.length:Int))=true:=decide_eq_true (by omega);have e4:decide (12<x.f2.length)=true:=decide_eq_true h12;have HE:=z00.mk (show res=[] by rw[←HRE.out];exact if_pos (Or.inr (Or.inr h12)));clear hA1 hA3 hx hLW hBW hN hres hf0 hf5;go_enter Tryz.func18,Tryz.ntmps18;go_wp2
   go_ret
   exact⟨by rw[HE.out];rfl,HB.out⟩
 have e3:decide ((12:Int)<(x.f2.length:Int))=false:=decide_eq_false (by omega);have e4:decide (12<x.f2.length)=false:=decide_eq_false h12;obtain⟨f,hf⟩:∃f:Nat,(f:Int)=x.f1:=⟨x.f1.toNat,by omega⟩
 have HHD:=z00.mk (show Calls Tryz.prog 42 #[.agg #[.string x.f0.f0,.slice A1 x.f0.f1.length c1],.int .i64 x.f1] W fun e w'=>e=.returned (.string (baL (headL x.f0 x.f1)))∧Below W.heap.size W w' from by
  have:=zch x.f0 A1 c1 f (by omega) W (hLW.below hBW) (Kd.C_below hA1 hBW) hx.1;rw[hf]at this;exact this)
 have HEA:=z00.mk (fun(V:World) (h:Below w.heap.size w V)=>zcy V A3 c3 x.f2 (hLW.below h) (Kd.C_below hA3 h) hx.2.2 hx.2.1);have hhl:=z5i x.f0 x.f1 hx.1;have hbl:=zhy x hx (by omega);have HE:=z00.mk (show res=if headL x.f0 x.f1=[]∨(eachL (x.f2.map litL) [44,32]).2=false then[]else if x.f2=[]then headL x.f0 x.f1++[46]else headL x.f0 x.f1++([32,58,45,32]++((eachL (x.f2.map litL) [44,32]).1++[46])) by rw[←HRE.out];exact if_neg (by rintro(h|h|h);exact hf0 h;exact hf5 h;exact h12 h));obtain⟨⟨s,ok⟩,hso⟩:∃p,eachL (x.f2.map litL) [44,32]=p:=⟨_,rfl⟩
 obtain⟨hd,hhd⟩:∃p,headL x.f0 x.f1=p:=⟨_,rfl⟩
 rw[hso]at HE HEA hbl;rw[hhd]at HE HHD hhl;obtain⟨hb,hbE⟩:∃b,baL hd=b:=⟨_,rfl⟩
 obtain⟨sb,sbE⟩:∃b,baL s=b:=⟨_,rfl⟩
 have hbS:hb.size≤200000:=by rw[←hbE,z1y];exact hhl
 have sbS:sb.size≤12 * 300002:=by rw[←sbE,z1y];exact hbl
 have HSB:=z00.mk sbE;rw[hbE]at HHD;simp only[sbE]at HEA;clear hA1 hA3 hx hLW hBW hN hres hf0 hf5 hf hso hhd sbE hhl hbl HRE;go_enter Tryz.func18,Tryz.ntmps18
 go_wp2_with fail
 refine HHD.out.mono ?_;rintro e w1 ⟨rfl,hb1⟩;have HB1:=z00.mk (z06 HB.out HB.out.size hb1);have HN1:=z00.mk (z0a HN.out hb1);clear hb1 d0 d1 d2 d3 hW;have d3:w1.cell? ⟨w.heap.size,3,none⟩=some (.slice A3 x.f2.length c3):=(z01 HN1.out 3).trans rfl
 go_wp2_with fail
 refine(HEA.out _ HB1.out).mono ?_;rintro e w2 ⟨rfl,hb2⟩;have HB2:=z00.mk (z06 HB1.out HB1.out.size hb2);have HN2:=z00.mk (z0a HN1.out hb2);clear hb2 d3;have d3:w2.cell? ⟨w.heap.size,3,none⟩=some (.slice A3 x.f2.length c3):=(z01 HN2.out 3).trans rfl
 by_cases hd0:hd=[]
 · obtain⟨g1,g2,g3,g4⟩:=emp_t hbE hd0;have HE2:=z00.mk (HE.out.trans (if_pos (Or.inl hd0)));clear hbE hd0;go_wp2
   go_ret
   exact⟨by rw[HE2.out];rfl,HB2.out⟩
 obtain⟨g1,g2,g3,g4⟩:=emp_f hbE hd0;have HHB:=z00.mk hbE;have HD0:=z00.mk hd0;clear hbE hd0
 cases ok with
 |false =>
  have HE2:=z00.mk (HE.out.trans (if_pos (Or.inr rfl)));go_wp2
  go_ret
  exact⟨by rw[HE2.out];rfl,HB2.out⟩
 |true =>
  have HE1:=z00.mk (HE.out.trans (if_neg (by rintro(h|h);exact HD0.out h;cases h)));clear HE
  by_cases hb0:x.f2=[]
  · have hl0:x.f2.length=0:=by rw[hb0];rfl
    have g5:decide ((0:Int)<(x.f2.length:Int))=false:=decide_eq_false (by omega);have g6:decide (0<x.f2.length)=false:=decide_eq_false (by omega);have HE2:=z00.mk (HE1.out.trans (if_pos hb0));clear HE1 hb0 hl0 HEA;have kq1:(9223372036854775807<hb.size+1)=False:=eq_false (by omega);go_wp2
    go_ret
    exact⟨by rw[HE2.out,←HHB.out];exact z6g (ba_eq (by simp)),HB2.out⟩
  · have hl0:x.f2.length≠0:=fun h=>hb0 (List.length_eq_zero_iff.1 h)
    have g5:decide ((0:Int)<(x.f2.length:Int))=true:=decide_eq_true (by omega);have g6:decide (0<x.f2.length)=true:=decide_eq_true (by omega);have HE2:=z00.mk (HE1.out.trans (if_neg hb0));clear HE1 hb0 hl0 HEA;have kq1:(9223372036854775807<4+sb.size)=False:=eq_false (by omega);have kq2:(9223372036854775807<hb.size+(4+sb.size))=False:=eq_false (by omega);have kq3:(9223372036854775807<hb.size+(4+sb.size)+1)=False:=eq_false (by omega);go_wp2
    go_ret
    exact⟨by rw[HE2.out,←HHB.out,←HSB.out];exact z6g (ba_eq (by simp)),HB2.out⟩
set_option maxRecDepth 100000 in
theorem zj5 (x:RlS) (A1:Option Addr) (c1:Nat) (A3:Option Addr) (c3:Nat) (j:Int) (w:World) (hLW:LaidW w) (hx:okR x) (hA1:Kd.C k60 w A1 x.f0.f1.length x.f0.f1) (hA3:Kd.C k62 w A3 x.f2.length x.f2) :
 Calls Tryz.prog 49 #[.int .i64 j,.agg #[.string x.f0.f0,.slice A1 x.f0.f1.length c1,.int .i64 x.f1,.slice A3 x.f2.length c3]] w fun e w'=>e=.returned (.string (baL (ruleL x)))∧Below w.heap.size w w':=by
 have hB:=z02 (Below.refl w.heap.size w) (.cells #[.string x.f0.f0,.slice A1 x.f0.f1.length c1,.int .i64 x.f1,.slice A3 x.f2.length c3] 33);have HP:=z00.mk (ze2 x A1 c1 A3 c3 _ (hLW.below hB) hx (Kd.C_below hA1 hB) (Kd.C_below hA3 hB));have HB:=z00.mk hB;clear hA1 hA3 hx hLW hB;go_enter Tryz.func49,Tryz.ntmps49
 go_wp2_with fail
 refine HP.out.mono ?_;rintro e w1 ⟨rfl,hb⟩;have HB1:=z00.mk (z06 HB.out HB.out.size hb);clear hb;go_wp2
 go_ret
 exact⟨rfl,HB1.out⟩
theorem zbm (w:World) (A:Option Addr) (c:Nat) (xs:List RlS) (hLW:LaidW w) (hC:Kd.C k33 w A xs.length xs) (hn:xs.length≤1000) (hx:∀y ∈ xs,okR y) :
 Calls Tryz.prog 48 #[.slice A xs.length c,.func (.func 49) #[] #[],.string ⟨#[10]⟩] w fun e w'=>e=.returned (.tuple #[.string (baL (eachL (xs.map ruleL) [10]).1),.bool (eachL (xs.map ruleL) [10]).2])∧Below w.heap.size w w':=by
 have h:=zg8 w A c xs (fun i=>ruleL (xs.getD i z33)) ⟨#[10]⟩ (by decide) hC hn (fun i=>Nat.le_trans (zem _ (za7 hx okR_z i)) (by decide)) (fun W i cs hi hb hK=>by
  obtain⟨A1,c1,A3,c3,rfl,_,g1,_,g3⟩:=zi1 hK;exact zj5 (xs.getD i z33) A1 c1 A3 c3 (i:Int) W (hLW.below hb) (za7 hx okR_z i) g1 g3)
 rw[zha,show(⟨#[10]⟩:ByteArray).data.toList=[10]from rfl]at h;exact h

set_option maxHeartbeats 4000000 in
set_option maxRecDepth 100000 in
theorem zau (p:PgS) (A0:Option Addr) (c0:Nat) (A2:Option Addr) (c2:Nat) (w:World) (hLW:LaidW w) (hp:okP p) (hA0:Kd.C k33 w A0 p.f0.length p.f0) (hA2:Kd.C k60 w A2 p.f1.f1.length p.f1.f1) :
 Calls Tryz.prog 20 #[.agg #[.slice A0 p.f0.length c0,.string p.f1.f0,.slice A2 p.f1.f1.length c2]] w fun e w'=>e=.returned (.string (baL (progL p)))∧Below w.heap.size w w':=by
 obtain⟨rs,q⟩:=p;have hlr:rs.length≤1000:=hp.2.1;obtain⟨W,hW⟩:∃W,w.alloc (.cells #[.slice A0 rs.length c0,.string q.f0,.slice A2 q.f1.length c2] 27)=W:=⟨_,rfl⟩
 have hBW:Below w.heap.size w W:=hW ▸ z02 (Below.refl w.heap.size w) _;have hN:=z0l w (.cells #[.slice A0 rs.length c0,.string q.f0,.slice A2 q.f1.length c2] 27);rw[hW]at hN;have d0:W.cell? ⟨w.heap.size,0,none⟩=some (.slice A0 rs.length c0):=(z01 hN 0).trans rfl;have HB:=z00.mk hBW;have HN:=z00.mk hN;have HEA:=z00.mk (zbm W A0 c0 rs (hLW.below hBW) (Kd.C_below hA0 hBW) hlr hp.1);have HAT:=z00.mk (fun(V:World) (h:Below w.heap.size w V)=>z5a q A2 c2 V (hLW.below h) (Kd.C_below hA2 h) hp.2.2);have hql:=zhn q hp.2.2;have hsl:(eachL (rs.map ruleL) [10]).1.length≤1000 * 4000001:=by
  refine Nat.le_trans (za8 (m:=4000000) (fun y hy=>?_)) ?_
  · obtain⟨z,hz,rfl⟩:=List.mem_map.1 hy;exact zem z (hp.1 z hz)
  · rw[List.length_map];exact Nat.mul_le_mul hlr (by simp)
 obtain⟨res,hres⟩:∃r,progL ⟨rs,q⟩=r:=⟨_,rfl⟩
 rw[hres];have HE:=z00.mk (show res=if(eachL (rs.map ruleL) [10]).2=false∨atomL q=[]∨200<rs.length∨20000<(((eachL (rs.map ruleL) [10]).1++(if rs=[]then[]else[10]))++([63,45,32]++(atomL q++[46,10]))).length then[]else((eachL (rs.map ruleL) [10]).1++(if rs=[]then[]else[10]))++([63,45,32]++(atomL q++[46,10])) by rw[←hres];rfl);obtain⟨⟨s,ok⟩,hso⟩:∃x,eachL (rs.map ruleL) [10]=x:=⟨_,rfl⟩
 obtain⟨qt,hqt⟩:∃x,atomL q=x:=⟨_,rfl⟩
 rw[hso]at HE HEA hsl;rw[hqt]at HE hql;simp only[hqt]at HAT;obtain⟨sb,sbE⟩:∃b,baL s=b:=⟨_,rfl⟩
 obtain⟨qb,qbE⟩:∃b,baL qt=b:=⟨_,rfl⟩
 have sbS:sb.size≤1000 * 4000001:=by rw[←sbE,z1y];exact hsl
 have qbS:qb.size≤200000:=by rw[←qbE,z1y];exact hql
 have HSB:=z00.mk sbE;simp only[sbE]at HEA;simp only[qbE]at HAT;have HQB:=z00.mk qbE;clear hA0 hA2 hp hLW hBW hN hres hso hqt sbE qbE hql hsl;go_enter Tryz.func20,Tryz.ntmps20
 go_wp2_with fail
 refine HEA.out.mono ?_;rintro e w1 ⟨rfl,hb1⟩;have HB1:=z00.mk (z06 HB.out HB.out.size hb1);have HN1:=z00.mk (z0a HN.out hb1);clear hb1 d0 hW HEA;have d0:w1.cell? ⟨w.heap.size,0,none⟩=some (.slice A0 rs.length c0):=(z01 HN1.out 0).trans rfl;have d1:w1.cell? ⟨w.heap.size,1,none⟩=some (.string q.f0):=(z01 HN1.out 1).trans rfl;have d2:w1.cell? ⟨w.heap.size,2,none⟩=some (.slice A2 q.f1.length c2):=(z01 HN1.out 2).trans rfl;obtain⟨ln,hln⟩:∃l,s++(if rs=[]then[]else[10])=l:=⟨_,rfl⟩
 rw[hln]at HE
 by_cases hr0:rs=[]
 · have hl0:rs.length=0:=by rw[hr0];rfl
   have g5:decide ((0:Int)<(rs.length:Int))=false:=decide_eq_false (by omega);have g6:decide (0<rs.length)=false:=decide_eq_false (by omega);have g7:decide ((200:Int)<(rs.length:Int))=false:=decide_eq_false (by omega);have g8:decide (200<rs.length)=false:=decide_eq_false (by omega);obtain⟨lb,lbE⟩:∃b,baL ln=b:=⟨_,rfl⟩
   have hsl2:sb=lb:=by rw[←lbE,←hln,if_pos hr0,List.append_nil,HSB.out]
   subst hsl2;have HLB:=z00.mk lbE;have H2:=z00.mk (show ¬200<rs.length by omega);clear hr0 hl0 hln lbE HSB
   go_wp2_with fail
   refine(HAT.out _ HB1.out).mono ?_;rintro e w2 ⟨rfl,hb2⟩;have HB2:=z00.mk (z06 HB1.out HB1.out.size hb2);have HN2:=z00.mk (z0a HN1.out hb2);clear hb2 d0 d1 d2;have d0:w2.cell? ⟨w.heap.size,0,none⟩=some (.slice A0 rs.length c0):=(z01 HN2.out 0).trans rfl;have kq1:(9223372036854775807<sb.size+3)=False:=eq_false (by omega);have kq2:(9223372036854775807<sb.size+3+qb.size)=False:=eq_false (by omega);have kq3:(9223372036854775807<sb.size+3+qb.size+2)=False:=eq_false (by omega)
   cases ok with
   |false =>
    have HE2:=z00.mk (HE.out.trans (if_pos (Or.inl rfl)));go_wp2
    go_ret
    exact⟨by rw[HE2.out];rfl,HB2.out⟩
   |true =>
   by_cases hq0:qt=[]
   · obtain⟨g1,g2,g3,g4⟩:=emp_t HQB.out hq0;have HE2:=z00.mk (HE.out.trans (if_pos (Or.inr (Or.inl hq0))));clear hq0;go_wp2
     go_ret
     exact⟨by rw[HE2.out];rfl,HB2.out⟩
   obtain⟨g1,g2,g3,g4⟩:=emp_f HQB.out hq0;have HQ0:=z00.mk hq0;clear hq0;have HTX:=z00.mk (show((sb++(⟨#[63,45,32]⟩:ByteArray))++qb)++(⟨#[46,10]⟩:ByteArray)=baL (ln++([63,45,32]++(qt++[46,10]))) by rw[←HLB.out,←HQB.out];exact ba_eq (by simp));have HSZ:=z00.mk (show(ln++([63,45,32]++(qt++[46,10]))).length=sb.size+3+qb.size+2 by rw[←z1y,←HTX.out];simp only[ByteArray.size_append];rfl)
   by_cases hbig:20000<(ln++([63,45,32]++(qt++[46,10]))).length
   · have HE2:=z00.mk (HE.out.trans (if_pos (Or.inr (Or.inr (Or.inr hbig)))));rw[HSZ.out]at hbig;have g9:decide (20000<sb.size+3+qb.size+2)=true:=decide_eq_true hbig;have g10:decide ((20000:Int)<(sb.size:Int)+3+(qb.size:Int)+2)=true:=decide_eq_true (by omega);clear hbig;go_wp2
     go_ret
     exact⟨by rw[HE2.out];rfl,HB2.out⟩
   · have HE2:=z00.mk (HE.out.trans (if_neg (by rintro(h|h|h|h);cases h;exact HQ0.out h;exact H2.out h;exact hbig h)));rw[HSZ.out]at hbig;have g9:decide (20000<sb.size+3+qb.size+2)=false:=decide_eq_false hbig;have g10:decide ((20000:Int)<(sb.size:Int)+3+(qb.size:Int)+2)=false:=decide_eq_false (by omega);clear hbig;go_wp2
     go_ret
     exact⟨by rw[HE2.out,←HTX.out];rfl,HB2.out⟩
 · have hl0:rs.length≠0:=fun h=>hr0 (List.length_eq_zero_iff.1 h)
   have g5:decide ((0:Int)<(rs.length:Int))=true:=decide_eq_true (by omega);have g6:decide (0<rs.length)=true:=decide_eq_true (by omega);have kq0:(9223372036854775807<sb.size+1)=False:=eq_false (by omega);obtain⟨lb,lbE⟩:∃b,baL ln=b:=⟨_,rfl⟩
   have hsl2:sb++(⟨#[10]⟩:ByteArray)=lb:=by rw[←lbE,←hln,if_neg hr0,←HSB.out];exact ba_eq (by simp)
   have hlbs:lb.size≤1000 * 4000001+1:=by rw[←hsl2,ByteArray.size_append];show sb.size+1≤_;omega
   have HLB:=z00.mk lbE;clear hr0 hl0 hln lbE HSB
   go_wp2_with fail
   refine(HAT.out _ HB1.out).mono ?_;rintro e w2 ⟨rfl,hb2⟩;have HB2:=z00.mk (z06 HB1.out HB1.out.size hb2);have HN2:=z00.mk (z0a HN1.out hb2);clear hb2 d0 d1 d2 hsl2;have d0:w2.cell? ⟨w.heap.size,0,none⟩=some (.slice A0 rs.length c0):=(z01 HN2.out 0).trans rfl;clear kq0 sbS
   by_cases h200:200<rs.length
   · have H2:=z00.mk h200;have g7:decide ((200:Int)<(rs.length:Int))=true:=decide_eq_true (by omega);have g8:decide (200<rs.length)=true:=decide_eq_true (by omega);clear h200;have kq1:(9223372036854775807<lb.size+3)=False:=eq_false (by omega);have kq2:(9223372036854775807<lb.size+3+qb.size)=False:=eq_false (by omega);have kq3:(9223372036854775807<lb.size+3+qb.size+2)=False:=eq_false (by omega)
     cases ok with
     |false =>
      have HE2:=z00.mk (HE.out.trans (if_pos (Or.inl rfl)));go_wp2
      go_ret
      exact⟨by rw[HE2.out];rfl,HB2.out⟩
     |true =>
     by_cases hq0:qt=[]
     · obtain⟨g1,g2,g3,g4⟩:=emp_t HQB.out hq0;have HE2:=z00.mk (HE.out.trans (if_pos (Or.inr (Or.inl hq0))));clear hq0;go_wp2
       go_ret
       exact⟨by rw[HE2.out];rfl,HB2.out⟩
     obtain⟨g1,g2,g3,g4⟩:=emp_f HQB.out hq0;have HQ0:=z00.mk hq0;clear hq0;have HE2:=z00.mk (HE.out.trans (if_pos (Or.inr (Or.inr (Or.inl H2.out)))));go_wp2
     go_ret
     exact⟨by rw[HE2.out];rfl,HB2.out⟩
   · have H2:=z00.mk h200;have g7:decide ((200:Int)<(rs.length:Int))=false:=decide_eq_false (by omega);have g8:decide (200<rs.length)=false:=decide_eq_false (by omega);clear h200;have kq1:(9223372036854775807<lb.size+3)=False:=eq_false (by omega);have kq2:(9223372036854775807<lb.size+3+qb.size)=False:=eq_false (by omega);have kq3:(9223372036854775807<lb.size+3+qb.size+2)=False:=eq_false (by omega)
     cases ok with
     |false =>
      have HE2:=z00.mk (HE.out.trans (if_pos (Or.inl rfl)));go_wp2
      go_ret
      exact⟨by rw[HE2.out];rfl,HB2.out⟩
     |true =>
     by_cases hq0:qt=[]
     · obtain⟨g1,g2,g3,g4⟩:=emp_t HQB.out hq0;have HE2:=z00.mk (HE.out.trans (if_pos (Or.inr (Or.inl hq0))));clear hq0;go_wp2
       go_ret
       exact⟨by rw[HE2.out];rfl,HB2.out⟩
     obtain⟨g1,g2,g3,g4⟩:=emp_f HQB.out hq0;have HQ0:=z00.mk hq0;clear hq0;have HTX:=z00.mk (show((lb++(⟨#[63,45,32]⟩:ByteArray))++qb)++(⟨#[46,10]⟩:ByteArray)=baL (ln++([63,45,32]++(qt++[46,10]))) by rw[←HLB.out,←HQB.out];exact ba_eq (by simp));have HSZ:=z00.mk (show(ln++([63,45,32]++(qt++[46,10]))).length=lb.size+3+qb.size+2 by rw[←z1y,←HTX.out];simp only[ByteArray.size_append];rfl)
     by_cases hbig:20000<(ln++([63,45,32]++(qt++[46,10]))).length
     · have HE2:=z00.mk (HE.out.trans (if_pos (Or.inr (Or.inr (Or.inr hbig)))));rw[HSZ.out]at hbig;have g9:decide (20000<lb.size+3+qb.size+2)=true:=decide_eq_true hbig;have g10:decide ((20000:Int)<(lb.size:Int)+3+(qb.size:Int)+2)=true:=decide_eq_true (by omega);clear hbig;go_wp2
       go_ret
       exact⟨by rw[HE2.out];rfl,HB2.out⟩
     · have HE2:=z00.mk (HE.out.trans (if_neg (by rintro(h|h|h|h);cases h;exact HQ0.out h;exact H2.out h;exact hbig h)));rw[HSZ.out]at hbig;have g9:decide (20000<lb.size+3+qb.size+2)=false:=decide_eq_false hbig;have g10:decide ((20000:Int)<(lb.size:Int)+3+(qb.size:Int)+2)=false:=decide_eq_false (by omega);clear hbig;go_wp2
       go_ret
       exact⟨by rw[HE2.out,←HTX.out];rfl,HB2.out⟩
set_option maxRecDepth 100000 in
theorem zj7 (p:PgS) (A0:Option Addr) (c0:Nat) (A2:Option Addr) (c2:Nat) (w:World) (hLW:LaidW w) (hp:okP p) (hA0:Kd.C k33 w A0 p.f0.length p.f0) (hA2:Kd.C k60 w A2 p.f1.f1.length p.f1.f1) :
 Calls Tryz.prog 22 #[.agg #[.slice A0 p.f0.length c0,.string p.f1.f0,.slice A2 p.f1.f1.length c2]] w fun e w'=>e=.returned (.bool (!(progL p).isEmpty))∧Below w.heap.size w w':=by
 have hB:=z02 (Below.refl w.heap.size w) (.cells #[.slice A0 p.f0.length c0,.string p.f1.f0,.slice A2 p.f1.f1.length c2] 27);have HP:=z00.mk (zau p A0 c0 A2 c2 _ (hLW.below hB) hp (Kd.C_below hA0 hB) (Kd.C_below hA2 hB));have HB:=z00.mk hB;obtain⟨r,hr⟩:∃r,(!(progL p).isEmpty)=r:=⟨_,rfl⟩
 have HR:=z00.mk hr;rw[hr];clear hA0 hA2 hp hLW hB hr;go_enter Tryz.func22,Tryz.ntmps22
 go_wp2_with fail
 refine HP.out.mono ?_;rintro e w1 ⟨rfl,hb⟩;have HB1:=z00.mk (z06 HB.out HB.out.size hb);clear hb;obtain⟨b,hbE⟩:∃b,baL (progL p)=b:=⟨_,rfl⟩
 rw[hbE]
 by_cases he:progL p=[]
 · obtain⟨e1,e2,e3,e4⟩:=emp_t hbE he;have HF:=z00.mk (show r=false by rw[←HR.out,he];rfl);clear hbE he;go_wp2
   go_ret
   exact⟨by rw[HF.out];rfl,HB1.out⟩
 · obtain⟨e1,e2,e3,e4⟩:=emp_f hbE he;have HF:=z00.mk (show r=true by rw[←HR.out,neB he]);clear hbE he;go_wp2
   go_ret
   exact⟨by rw[HF.out];rfl,HB1.out⟩

def okTB (t:TmS):Bool:=decide (-9223372036854775808≤t.f1.f1)&&(decide (t.f1.f1≤9223372036854775807)&&decide (t.f0.size≤9223372036854775807))
theorem zgf {t:TmS}:okTB t=true↔okT t:=by
 unfold okTB okT;simp only[Bool.and_eq_true,decide_eq_true_eq];exact⟨fun h=>⟨⟨h.1,h.2.1⟩,h.2.2⟩,fun h=>⟨h.1.1,h.1.2,h.2⟩⟩
def okAB (l:List TmS):Bool:=l.all okTB&&decide (l.length≤1000)
theorem zdl {p:ByteArray} {l:List TmS}:okAB l=true↔okA ⟨p,l⟩:=by
 unfold okAB okA;simp only[Bool.and_eq_true,decide_eq_true_eq,List.all_eq_true];exact⟨fun h=>⟨fun x hx=>zgf.1 (h.1 x hx),h.2⟩,fun h=>⟨fun x hx=>zgf.2 (h.1 x hx),h.2⟩⟩
def okSB (l:List StS):Bool:=(l.all fun x=>decide (x.f1.size≤9223372036854775807))&&decide (l.length≤140737488355328)
theorem zb4 {l:List StS}:okSB l=true↔((∀x ∈ l,x.f1.size≤9223372036854775807)∧l.length≤140737488355328):=by
 unfold okSB;simp only[Bool.and_eq_true,decide_eq_true_eq,List.all_eq_true]
def okLB (x:LtS):Bool:=okAB x.f1.f1&&(okTB x.f3&&(okTB x.f4&&(okTB x.f5&&(okSB x.f6&&decide (x.f2.size≤9223372036854775807)))))
theorem zl7 {x:LtS}:okLB x=true↔okL x:=by
 unfold okLB okL;simp only[Bool.and_eq_true,decide_eq_true_eq,zgf,zb4,zdl (p:=x.f1.f0)];exact⟨fun h=>⟨h.1,h.2.1,h.2.2.1,h.2.2.2.1,h.2.2.2.2.1.1,h.2.2.2.2.1.2,h.2.2.2.2.2⟩,fun h=>⟨h.1,h.2.1,h.2.2.1,h.2.2.2.1,⟨h.2.2.2.2.1,h.2.2.2.2.2.1⟩,h.2.2.2.2.2.2⟩⟩
def okRB (a:List TmS) (b:List LtS):Bool:=okAB a&&(b.all okLB&&decide (b.length≤1000))
theorem zgz {x:RlS}:okRB x.f0.f1 x.f2=true↔okR x:=by
 unfold okRB okR;simp only[Bool.and_eq_true,decide_eq_true_eq,List.all_eq_true,zdl (p:=x.f0.f0)];exact⟨fun h=>⟨h.1,fun y hy=>zl7.1 (h.2.1 y hy),h.2.2⟩,fun h=>⟨h.1,fun y hy=>zl7.2 (h.2.1 y hy),h.2.2⟩⟩
def okPB (rs:List RlS) (a:List TmS):Bool:=(rs.all fun x=>okRB x.f0.f1 x.f2)&&(decide (rs.length≤1000)&&okAB a)
theorem zm6 {p:PgS}:okPB p.f0 p.f1.f1=true↔okP p:=by
 unfold okPB okP;simp only[Bool.and_eq_true,decide_eq_true_eq,List.all_eq_true,zdl (p:=p.f1.f0)];exact⟨fun h=>⟨fun y hy=>zgz.1 (h.1 y hy),h.2.1,h.2.2⟩,fun h=>⟨fun y hy=>zgz.2 (h.1 y hy),h.2.1,h.2.2⟩⟩
def z6u.f (l0:List S69):Option ByteArray:=if okSB l0=true then some (baL (pathL l0))else none
theorem z6u.calls (A0:Option Addr) (c0:Nat) (l0:List S69) (r:ByteArray) (w:World) (hLW:LaidW w) (hr0:Kd.C k69 w A0 l0.length l0) (hc0:l0.length≤c0) (h:z6u.f l0=some r) :
 Calls Tryz.prog 25 #[.slice A0 l0.length c0] w fun e w'=>e=.returned (.string r)∧Below w.heap.size w w':=by
 unfold z6u.f at h
 split at h
 · rename_i hk;obtain rfl:=Option.some.inj h;exact z57 l0 A0 c0 w hLW hr0 (zb4.1 hk).1 (zb4.1 hk).2
 · cases h
def z3w.f (l0:List S69):Option Bool:=if okSB l0=true then some (rpB l0)else none
theorem z3w.calls (A0:Option Addr) (c0:Nat) (l0:List S69) (r:Bool) (w:World) (hLW:LaidW w) (hr0:Kd.C k69 w A0 l0.length l0) (hc0:l0.length≤c0) (h:z3w.f l0=some r) :
 Calls Tryz.prog 27 #[.slice A0 l0.length c0] w fun e w'=>e=.returned (.bool r)∧Below w.heap.size w w':=by
 unfold z3w.f at h
 split at h
 · rename_i hk;obtain rfl:=Option.some.inj h;exact z3c l0 A0 c0 w hLW hr0 (zb4.1 hk).1 (zb4.1 hk).2
 · cases h
def z6o.f (a0_0:ByteArray) (l0_1:List S60):Option ByteArray:=if okAB l0_1=true then some (baL (atomL ⟨a0_0,l0_1⟩))else none
theorem z6o.calls (a0_0:ByteArray) (A0_1:Option Addr) (c0_1:Nat) (l0_1:List S60) (r:ByteArray) (w:World) (hLW:LaidW w) (hr0_1:Kd.C k60 w A0_1 l0_1.length l0_1) (hc0_1:l0_1.length≤c0_1) (h:z6o.f a0_0 l0_1=some r) :
 Calls Tryz.prog 23 #[.agg #[.string a0_0,.slice A0_1 l0_1.length c0_1]] w fun e w'=>e=.returned (.string r)∧Below w.heap.size w w':=by
 unfold z6o.f at h
 split at h
 · rename_i hk;obtain rfl:=Option.some.inj h;exact z5a ⟨a0_0,l0_1⟩ A0_1 c0_1 w hLW hr0_1 (zdl.1 hk)
 · cases h
def z6n.f (a0_0:ByteArray) (l0_1:List S60) (a0_2:Int) (l0_3:List S62):Option ByteArray:=if okRB l0_1 l0_3=true then some (baL (ruleL ⟨⟨a0_0,l0_1⟩,a0_2,l0_3⟩))else none
theorem z6n.calls (a0_0:ByteArray) (A0_1:Option Addr) (c0_1:Nat) (l0_1:List S60) (a0_2:Int) (A0_3:Option Addr) (c0_3:Nat) (l0_3:List S62) (r:ByteArray) (w:World) (hLW:LaidW w) (hr0_1:Kd.C k60 w A0_1 l0_1.length l0_1) (hc0_1:l0_1.length≤c0_1) (hr0_3:Kd.C k62 w A0_3 l0_3.length l0_3) (hc0_3:l0_3.length≤c0_3) (h:z6n.f a0_0 l0_1 a0_2 l0_3=some r) :
 Calls Tryz.prog 18 #[.agg #[.string a0_0,.slice A0_1 l0_1.length c0_1,.int .i64 a0_2,.slice A0_3 l0_3.length c0_3]] w fun e w'=>e=.returned (.string r)∧Below w.heap.size w w':=by
 unfold z6n.f at h
 split at h
 · rename_i hk;obtain rfl:=Option.some.inj h;exact ze2 ⟨⟨a0_0,l0_1⟩,a0_2,l0_3⟩ A0_1 c0_1 A0_3 c0_3 w hLW (zgz (x:=⟨⟨a0_0,l0_1⟩,a0_2,l0_3⟩).1 hk) hr0_1 hr0_3
 · cases h
def z6p.f (l0_0:List S33) (a0_1:ByteArray) (l0_2:List S60):Option ByteArray:=if okPB l0_0 l0_2=true then some (baL (progL ⟨l0_0,⟨a0_1,l0_2⟩⟩))else none
theorem z6p.calls (A0_0:Option Addr) (c0_0:Nat) (l0_0:List S33) (a0_1:ByteArray) (A0_2:Option Addr) (c0_2:Nat) (l0_2:List S60) (r:ByteArray) (w:World) (hLW:LaidW w) (hr0_0:Kd.C k33 w A0_0 l0_0.length l0_0) (hc0_0:l0_0.length≤c0_0) (hr0_2:Kd.C k60 w A0_2 l0_2.length l0_2) (hc0_2:l0_2.length≤c0_2) (h:z6p.f l0_0 a0_1 l0_2=some r) :
 Calls Tryz.prog 20 #[.agg #[.slice A0_0 l0_0.length c0_0,.string a0_1,.slice A0_2 l0_2.length c0_2]] w fun e w'=>e=.returned (.string r)∧Below w.heap.size w w':=by
 unfold z6p.f at h
 split at h
 · rename_i hk;obtain rfl:=Option.some.inj h;exact zau ⟨l0_0,⟨a0_1,l0_2⟩⟩ A0_0 c0_0 A0_2 c0_2 w hLW (zm6 (p:=⟨l0_0,⟨a0_1,l0_2⟩⟩).1 hk) hr0_0 hr0_2
 · cases h
def z5p.f (l0_0:List S33) (a0_1:ByteArray) (l0_2:List S60):Option Bool:=if okPB l0_0 l0_2=true then some (!(progL ⟨l0_0,⟨a0_1,l0_2⟩⟩).isEmpty)else none
theorem z5p.calls (A0_0:Option Addr) (c0_0:Nat) (l0_0:List S33) (a0_1:ByteArray) (A0_2:Option Addr) (c0_2:Nat) (l0_2:List S60) (r:Bool) (w:World) (hLW:LaidW w) (hr0_0:Kd.C k33 w A0_0 l0_0.length l0_0) (hc0_0:l0_0.length≤c0_0) (hr0_2:Kd.C k60 w A0_2 l0_2.length l0_2) (hc0_2:l0_2.length≤c0_2) (h:z5p.f l0_0 a0_1 l0_2=some r) :
 Calls Tryz.prog 22 #[.agg #[.slice A0_0 l0_0.length c0_0,.string a0_1,.slice A0_2 l0_2.length c0_2]] w fun e w'=>e=.returned (.bool r)∧Below w.heap.size w w':=by
 unfold z5p.f at h
 split at h
 · rename_i hk;obtain rfl:=Option.some.inj h;exact zj7 ⟨l0_0,⟨a0_1,l0_2⟩⟩ A0_0 c0_0 A0_2 c0_2 w hLW (zm6 (p:=⟨l0_0,⟨a0_1,l0_2⟩⟩).1 hk) hr0_0 hr0_2
 · cases h

def aw9L:List S69:=[⟨1,⟨#[97]⟩⟩,⟨1,⟨#[98]⟩⟩,⟨1,⟨#[99]⟩⟩,⟨4,⟨#[]⟩⟩,⟨3,⟨#[]⟩⟩]
def aw9T:List S60:=[⟨⟨#[88]⟩,⟨0,0,⟨#[]⟩⟩⟩]
theorem aw9_1:z6u.f aw9L=some ⟨#[97,47,40,98,124,99,41]⟩:=by kernel_rfl
theorem aw9_3:z3w.f aw9L=some true:=by kernel_rfl
theorem aw9_5:z5p.f [] ⟨#[113]⟩ aw9T=some true:=by kernel_rfl
theorem aw9_7:z6p.f [] ⟨#[113]⟩ aw9T=some ⟨#[63,45,32,113,40,88,41,46,10]⟩:=by kernel_rfl
theorem aw9_9:z6o.f ⟨#[113]⟩ aw9T=some ⟨#[113,40,88,41]⟩:=by kernel_rfl
theorem aw9_11:z6n.f ⟨#[113]⟩ aw9T 0 []=some ⟨#[113,40,88,41,46]⟩:=by kernel_rfl
theorem zh7 {a:ByteArray} {l:List UInt8} (h:a.data.toList=l):(a.toList==l)=true:=by rw[beq_iff_eq,ByteArray.toList_eq];exact h
set_option maxHeartbeats 8000000 in
set_option maxRecDepth 100000 in
theorem z7l (w:World) (hLW:LaidW w) :
 Calls Tryz.prog 16 #[] w fun e w'=>e=.returned (.bool true)∧Below w.heap.size w w':=by
 have HLW:=z00.mk hLW;clear hLW;have HB:=z00.mk (Below.refl w.heap.size w);obtain⟨y127,hy127⟩:∃y_:List S69,y_=aw9L:=⟨_,rfl⟩
 obtain⟨y130,hy130⟩:∃y_:List S60,y_=aw9T:=⟨_,rfl⟩
 have Ny127:=z00.mk (show y127=([(⟨1,(⟨#[97]⟩:ByteArray)⟩:S69),(⟨1,(⟨#[98]⟩:ByteArray)⟩:S69),(⟨1,(⟨#[99]⟩:ByteArray)⟩:S69),(⟨4,(⟨#[]⟩:ByteArray)⟩:S69),(⟨3,(⟨#[]⟩:ByteArray)⟩:S69)]:List S69)from hy127);have Ny130:=z00.mk (show y130=([(⟨(⟨#[88]⟩:ByteArray),(⟨0,0,(⟨#[]⟩:ByteArray)⟩:S58)⟩:S60)]:List S60)from hy130);obtain⟨t134,h1,c2b0⟩:∃t,z6u.f y127=some t∧(t.toList==([97,47,40,98,124,99,41]:List UInt8))=true:=⟨_,hy127 ▸ aw9_1,zh7 rfl⟩
 obtain⟨t137,h7,c8b0⟩:∃t,z6p.f [] ⟨#[113]⟩ y130=some t∧(t.toList==([63,45,32,113,40,88,41,46,10]:List UInt8))=true:=⟨_,hy130 ▸ aw9_7,zh7 rfl⟩
 obtain⟨t138,h9,c10b0⟩:∃t,z6o.f ⟨#[113]⟩ y130=some t∧(t.toList==([113,40,88,41]:List UInt8))=true:=⟨_,hy130 ▸ aw9_9,zh7 rfl⟩
 obtain⟨t139,h11,c12b0⟩:∃t,z6n.f ⟨#[113]⟩ y130 0 []=some t∧(t.toList==([113,40,88,41,46]:List UInt8))=true:=⟨_,hy130 ▸ aw9_11,zh7 rfl⟩
 have A1:=z00.mk h1;have A3:=z00.mk (show z3w.f y127=some true from hy127 ▸ aw9_3);have A5:=z00.mk (show z5p.f [] ⟨#[113]⟩ y130=some true from hy130 ▸ aw9_5);have A7:=z00.mk h7;have A9:=z00.mk h9;have A11:=z00.mk h11;clear h1 h7 h9 h11 hy127 hy130;go_enter Tryz.func16,Tryz.ntmps16
 go_wp2_with (first|((with_reducible refine z1u (N:=8) rfl ?_);refine Kd.R_lit k69 _ 69 ?hg (N:=8) ?hd (xs:=([(⟨1,(⟨#[97]⟩:ByteArray)⟩:S69),(⟨1,(⟨#[98]⟩:ByteArray)⟩:S69),(⟨1,(⟨#[99]⟩:ByteArray)⟩:S69),(⟨4,(⟨#[]⟩:ByteArray)⟩:S69),(⟨3,(⟨#[]⟩:ByteArray)⟩:S69)]:List (S69))) (inner:=[.int .i64 1,.string (⟨#[97]⟩:ByteArray),.int .i64 1,.string (⟨#[98]⟩:ByteArray),.int .i64 1,.string (⟨#[99]⟩:ByteArray),.int .i64 4,.string (⟨#[]⟩:ByteArray),.int .i64 3,.string (⟨#[]⟩:ByteArray)]) (ok:=fun _=>True) (okp:=fun _=>True) ?hr ?hp (fun _ hk=>hk) trivial (Below.refl _ _) (Nat.le_refl _) (by simp) ?_;(case hd=>rfl);(case hg=>rfl);(case hr=>first|(go_simp;done)|(go_simp;rfl));(case hp=>exact(Reps.c2 (show Kd.M k69 _ _ _ (⟨1,(⟨#[97]⟩:ByteArray)⟩:S69) [.int .i64 1,.string (⟨#[97]⟩:ByteArray)]from(z3q _ _ _ (⟨1,(⟨#[97]⟩:ByteArray)⟩:S69))) (Reps.c2 (show Kd.M k69 _ _ _ (⟨1,(⟨#[98]⟩:ByteArray)⟩:S69) [.int .i64 1,.string (⟨#[98]⟩:ByteArray)]from(z3q _ _ _ (⟨1,(⟨#[98]⟩:ByteArray)⟩:S69))) (Reps.c2 (show Kd.M k69 _ _ _ (⟨1,(⟨#[99]⟩:ByteArray)⟩:S69) [.int .i64 1,.string (⟨#[99]⟩:ByteArray)]from(z3q _ _ _ (⟨1,(⟨#[99]⟩:ByteArray)⟩:S69))) (Reps.c2 (show Kd.M k69 _ _ _ (⟨4,(⟨#[]⟩:ByteArray)⟩:S69) [.int .i64 4,.string (⟨#[]⟩:ByteArray)]from(z3q _ _ _ (⟨4,(⟨#[]⟩:ByteArray)⟩:S69))) (Reps.c2 (show Kd.M k69 _ _ _ (⟨3,(⟨#[]⟩:ByteArray)⟩:S69) [.int .i64 3,.string (⟨#[]⟩:ByteArray)]from(z3q _ _ _ (⟨3,(⟨#[]⟩:ByteArray)⟩:S69))) (Reps.none _ _)))))));intro v128 w12 ho13 hb hg_ hnew_;clear hg_ hnew_;(first|rw[←Ny127.out]at ho13|(simp only[Int.reduceToNat]at ho13;rw[←Ny127.out]at ho13));have n0_:=z00.mk (Kd.R_lower ho13 (z0i zA00));have n1_:=z00.mk (z0g zA00 hb);clear HB;have HO129:=n0_;have HB:=n1_;clear n0_ n1_;clear hb ho13)|((with_reducible refine z1u (N:=10) rfl ?_);refine Kd.R_lit k60 _ 60 ?hg (N:=10) ?hd (xs:=([(⟨(⟨#[88]⟩:ByteArray),(⟨0,0,(⟨#[]⟩:ByteArray)⟩:S58)⟩:S60)]:List (S60))) (inner:=[.string (⟨#[88]⟩:ByteArray),.int .i64 0,.int .i64 0,.string (⟨#[]⟩:ByteArray)]) (ok:=fun _=>True) (okp:=fun _=>True) ?hr ?hp (fun _ hk=>hk) trivial (Below.refl _ _) (Nat.le_refl _) (by simp) ?_;(case hd=>rfl);(case hg=>rfl);(case hr=>first|(go_simp;done)|(go_simp;rfl));(case hp=>exact(Reps.c4 (show Kd.M k60 _ _ _ (⟨(⟨#[88]⟩:ByteArray),(⟨0,0,(⟨#[]⟩:ByteArray)⟩:S58)⟩:S60) [.string (⟨#[88]⟩:ByteArray),.int .i64 0,.int .i64 0,.string (⟨#[]⟩:ByteArray)]from(z9g _ _ _ (⟨(⟨#[88]⟩:ByteArray),(⟨0,0,(⟨#[]⟩:ByteArray)⟩:S58)⟩:S60))) (Reps.none _ _)));intro v131 w14 ho15 hb hg_ hnew_;clear hg_ hnew_;(first|rw[←Ny130.out]at ho15|(simp only[Int.reduceToNat]at ho15;rw[←Ny130.out]at ho15));have n0_:=z00.mk (Kd.R_below zA0a hb);have n1_:=z00.mk (Kd.R_lower ho15 (z0i zA00));have n2_:=z00.mk (z0g zA00 hb);clear HO129;clear HB;have HO129:=n0_;have HO132:=n1_;have HB:=n2_;clear n0_ n1_ n2_;clear hb ho15;obtain⟨Ao16,co16,eo16⟩:=Kd.R_slice HO132.out;subst eo16)|((with_reducible refine z1u (N:=2) rfl ?_);refine z28 ?hg (N:=2) ?hd (cs:=#[.slice none 0 0,.string (⟨#[]⟩:ByteArray),.slice none 0 0]) (t:=27) ?hr ?_;(case hd=>rfl);(case hg=>rfl);(case hr=>first|(go_simp;done)|(go_simp;rfl));intro gb133 hg w17 hbox hb;have n0_:=z00.mk (Kd.R_below zA0a hb);have n1_:=z00.mk (Kd.R_below zA0b hb);have n2_:=z00.mk (z0g zA00 hb);have n3_:=z00.mk (hbox);have n4_:=z00.mk ((by rw[hg];exact(z0i zA00):w.heap.size≤gb133));have n5_:=z00.mk ((by rw[hg];exact(z0i zA00):w.heap.size≤gb133));clear HO129;clear HO132;clear HB;have HO129:=n0_;have HO132:=n1_;have HB:=n2_;have BK133:=n3_;have GW133:=n4_;have GE133:=n5_;clear n0_ n1_ n2_ n3_ n4_ n5_;clear hb hbox hg;have hcz18_0:w17.cell? ⟨gb133,0,none⟩=some (.slice none 0 0):=(z01 BK133.out 0).trans rfl;have hcz18_1:w17.cell? ⟨gb133,1,none⟩=some (.string (⟨#[]⟩:ByteArray)):=(z01 BK133.out 1).trans rfl;have hcz18_2:w17.cell? ⟨gb133,2,none⟩=some (.slice none 0 0):=(z01 BK133.out 2).trans rfl;have hfz18_0:=z03 BK133.out 0;have hfz18_1:=z03 BK133.out 1;have hfz18_2:=z03 BK133.out 2;obtain⟨Ao19,co19,eo19⟩:=Kd.R_slice HO129.out;subst eo19)|((with_reducible refine z1r (f:=25) rfl ?_);refine z4s (some 14) rfl rfl Tryz.func25 (by kernel_rfl) rfl #[.slice Ao19 y127.length co19] rfl zA01 ?_;(with_reducible refine(z6u.calls _ _ y127 t134 _ ?side3 ?side1 ?side2 A1.out).mono ?_);(case side1=>refine(Kd.R_reads' (e:=69) (base:=w.heap.size) (ok:=fun k_=>True) (n:=y127.length) (c:=co19) ?_).2.2;exact(by(with_reducible repeat(first|apply Kd.R_alloc|apply Kd.R_drewN|apply Kd.R_drew));exact(Kd.R_mono (Kd.R_far (p:=⟨gb133,2,none⟩) (Kd.R_far (p:=⟨gb133,1,none⟩) (Kd.R_far (p:=⟨gb133,0,none⟩) (Kd.R_types HO129.out BK133.out (by decide)) (fun _ hk=>hk.2) (.slice none 0 0)) (fun _ hk=>hk.2) (.string (⟨#[113]⟩:ByteArray))) (fun _ hk=>hk.2) (.slice Ao16 y130.length co16)) (fun _ h_=>h_.1))));(case side2=>exact(Kd.R_reads' HO129.out).2.1);(case side3=>(first|(refine LaidW.below HLW.out ?_;(repeat(first|(with_reducible first|exact HB.out|apply z02|apply z04|apply z05|refine z08 ?_ GE133.out)|exact HB.out));done)|(repeat(first|exact HLW.out|apply LaidW.drewN|apply LaidW.drew|apply LaidW.alloc))));rintro e w20 ⟨rfl,hb⟩;refine⟨_,rfl,?_⟩;have n0_:=z00.mk (Kd.R_below (by(with_reducible repeat(first|apply Kd.R_alloc|apply Kd.R_drewN|apply Kd.R_drew));exact(Kd.R_mono (Kd.R_far (p:=⟨gb133,2,none⟩) (Kd.R_far (p:=⟨gb133,1,none⟩) (Kd.R_far (p:=⟨gb133,0,none⟩) (Kd.R_types HO129.out BK133.out (by decide)) (fun _ hk=>hk.2) (.slice none 0 0)) (fun _ hk=>hk.2) (.string (⟨#[113]⟩:ByteArray))) (fun _ hk=>hk.2) (.slice Ao16 y130.length co16)) (fun _ h_=>h_.1))) hb);have n1_:=z00.mk (Kd.R_below (by(with_reducible repeat(first|apply Kd.R_alloc|apply Kd.R_drewN|apply Kd.R_drew));exact(Kd.R_mono (Kd.R_far (p:=⟨gb133,2,none⟩) (Kd.R_far (p:=⟨gb133,1,none⟩) (Kd.R_far (p:=⟨gb133,0,none⟩) (Kd.R_types HO132.out BK133.out (by decide)) (fun _ hk=>hk.2) (.slice none 0 0)) (fun _ hk=>hk.2) (.string (⟨#[113]⟩:ByteArray))) (fun _ hk=>hk.2) (.slice Ao16 y130.length co16)) (fun _ h_=>h_.1))) hb);have n2_:=z00.mk (z0a (g:=gb133) (o:=.cells #[.slice none 0 0,.string (⟨#[113]⟩:ByteArray),.slice Ao16 y130.length co16] 27 (0,0)) (by(with_reducible repeat(first|refine z1a ?_ _|refine z10 ?_|refine z0d ?_ _));refine z0t (cs:=#[.slice none 0 0,.string (⟨#[113]⟩:ByteArray),.slice none 0 0]) ?_ 2 _ rfl;(with_reducible repeat(first|refine z1a ?_ _|refine z10 ?_|refine z0d ?_ _));refine z0t (cs:=#[.slice none 0 0,.string (⟨#[]⟩:ByteArray),.slice none 0 0]) ?_ 1 _ rfl;(with_reducible repeat(first|refine z1a ?_ _|refine z10 ?_|refine z0d ?_ _));refine z0t (cs:=#[.slice none 0 0,.string (⟨#[]⟩:ByteArray),.slice none 0 0]) ?_ 0 _ rfl;(with_reducible repeat(first|refine z1a ?_ _|refine z10 ?_|refine z0d ?_ _));exact BK133.out) hb);have n3_:=z00.mk (z0g zA09 hb);clear HO129;clear HO132;clear BK133;clear HB;have HO129:=n0_;have HO132:=n1_;have BK133:=n2_;have HB:=n3_;clear n0_ n1_ n2_ n3_;(try clear hb);(try clear hb2);(try clear hk);(try clear hi))|(go_at_call 27;(with_reducible refine(z3w.calls _ _ y127 true _ ?side3 ?side1 ?side2 A3.out).mono ?_);(case side1=>repeat(first|exact(Kd.R_reads' HO129.out).2.2|(with_reducible refine Kd.C_alloc ?_ _)|(with_reducible refine Kd.C_drewN ?_ _)|(with_reducible refine Kd.C_drew ?_)));(case side2=>exact(Kd.R_reads' HO129.out).2.1);(case side3=>(first|(refine LaidW.below HLW.out ?_;(repeat(first|(with_reducible first|exact HB.out|apply z02|apply z04|apply z05|refine z08 ?_ GE133.out)|exact HB.out));done)|(repeat(first|exact HLW.out|apply LaidW.drewN|apply LaidW.drew|apply LaidW.alloc))));rintro e w21 ⟨rfl,hb⟩;have n0_:=z00.mk (Kd.R_below zA0a hb);have n1_:=z00.mk (Kd.R_below zA0b hb);have n2_:=z00.mk (z0a (g:=gb133) (o:=.cells #[.slice none 0 0,.string (⟨#[113]⟩:ByteArray),.slice Ao16 y130.length co16] 27 (0,0)) zA0e hb);have n3_:=z00.mk (z0g zA09 hb);clear HO129;clear HO132;clear BK133;clear HB;have HO129:=n0_;have HO132:=n1_;have BK133:=n2_;have HB:=n3_;clear n0_ n1_ n2_ n3_;(try clear hb);(try clear hb2);(try clear hk);(try clear hi);have hcz22_0:w21.cell? ⟨gb133,0,none⟩=some (.slice none 0 0):=(z01 BK133.out 0).trans rfl;have hcz22_1:w21.cell? ⟨gb133,1,none⟩=some (.string (⟨#[113]⟩:ByteArray)):=(z01 BK133.out 1).trans rfl;have hcz22_2:w21.cell? ⟨gb133,2,none⟩=some (.slice Ao16 y130.length co16):=(z01 BK133.out 2).trans rfl;have hfz22_0:=z03 BK133.out 0;have hfz22_1:=z03 BK133.out 1;have hfz22_2:=z03 BK133.out 2)|(go_at_call 22;(refine(z5p.calls _ _ ([]:List (S33)) (⟨#[113]⟩:ByteArray) _ _ y130 true _ ?side5 ?side1 ?side2 ?side3 ?side4 A5.out).mono ?_);(case side1=>exact Kd.C_nil _ _);(case side2=>exact Nat.le_refl _);(case side3=>repeat(first|exact(Kd.R_reads' HO132.out).2.2|(with_reducible refine Kd.C_alloc ?_ _)|(with_reducible refine Kd.C_drewN ?_ _)|(with_reducible refine Kd.C_drew ?_)));(case side4=>exact(Kd.R_reads' HO132.out).2.1);(case side5=>(first|(refine LaidW.below HLW.out ?_;(repeat(first|(with_reducible first|exact HB.out|apply z02|apply z04|apply z05|refine z08 ?_ GE133.out)|exact HB.out));done)|(repeat(first|exact HLW.out|apply LaidW.drewN|apply LaidW.drew|apply LaidW.alloc))));rintro e w23 ⟨rfl,hb⟩;have n0_:=z00.mk (Kd.R_below zA0a hb);have n1_:=z00.mk (Kd.R_below zA0b hb);have n2_:=z00.mk (z0a (g:=gb133) (o:=.cells #[.slice none 0 0,.string (⟨#[113]⟩:ByteArray),.slice Ao16 y130.length co16] 27 (0,0)) zA0e hb);have n3_:=z00.mk (z0g zA09 hb);clear HO129;clear HO132;clear BK133;clear HB;have HO129:=n0_;have HO132:=n1_;have BK133:=n2_;have HB:=n3_;clear n0_ n1_ n2_ n3_;(try clear hb);(try clear hb2);(try clear hk);(try clear hi);have hcz24_0:w23.cell? ⟨gb133,0,none⟩=some (.slice none 0 0):=(z01 BK133.out 0).trans rfl;have hcz24_1:w23.cell? ⟨gb133,1,none⟩=some (.string (⟨#[113]⟩:ByteArray)):=(z01 BK133.out 1).trans rfl;have hcz24_2:w23.cell? ⟨gb133,2,none⟩=some (.slice Ao16 y130.length co16):=(z01 BK133.out 2).trans rfl;have hfz24_0:=z03 BK133.out 0;have hfz24_1:=z03 BK133.out 1;have hfz24_2:=z03 BK133.out 2)|(go_at_call 20;(refine(z6p.calls _ _ ([]:List (S33)) (⟨#[113]⟩:ByteArray) _ _ y130 t137 _ ?side5 ?side1 ?side2 ?side3 ?side4 A7.out).mono ?_);(case side1=>exact Kd.C_nil _ _);(case side2=>exact Nat.le_refl _);(case side3=>repeat(first|exact(Kd.R_reads' HO132.out).2.2|(with_reducible refine Kd.C_alloc ?_ _)|(with_reducible refine Kd.C_drewN ?_ _)|(with_reducible refine Kd.C_drew ?_)));(case side4=>exact(Kd.R_reads' HO132.out).2.1);(case side5=>(first|(refine LaidW.below HLW.out ?_;(repeat(first|(with_reducible first|exact HB.out|apply z02|apply z04|apply z05|refine z08 ?_ GE133.out)|exact HB.out));done)|(repeat(first|exact HLW.out|apply LaidW.drewN|apply LaidW.drew|apply LaidW.alloc))));rintro e w25 ⟨rfl,hb⟩;have n0_:=z00.mk (Kd.R_below zA0a hb);have n1_:=z00.mk (Kd.R_below zA0b hb);have n2_:=z00.mk (z0a (g:=gb133) (o:=.cells #[.slice none 0 0,.string (⟨#[113]⟩:ByteArray),.slice Ao16 y130.length co16] 27 (0,0)) zA0e hb);have n3_:=z00.mk (z0g zA09 hb);clear HO129;clear HO132;clear BK133;clear HB;have HO129:=n0_;have HO132:=n1_;have BK133:=n2_;have HB:=n3_;clear n0_ n1_ n2_ n3_;(try clear hb);(try clear hb2);(try clear hk);(try clear hi);have hcz26_0:w25.cell? ⟨gb133,0,none⟩=some (.slice none 0 0):=(z01 BK133.out 0).trans rfl;have hcz26_1:w25.cell? ⟨gb133,1,none⟩=some (.string (⟨#[113]⟩:ByteArray)):=(z01 BK133.out 1).trans rfl;have hcz26_2:w25.cell? ⟨gb133,2,none⟩=some (.slice Ao16 y130.length co16):=(z01 BK133.out 2).trans rfl;have hfz26_0:=z03 BK133.out 0;have hfz26_1:=z03 BK133.out 1;have hfz26_2:=z03 BK133.out 2)|(go_at_call 23;(with_reducible refine(z6o.calls (⟨#[113]⟩:ByteArray) _ _ y130 t138 _ ?side3 ?side1 ?side2 A9.out).mono ?_);(case side1=>repeat(first|exact(Kd.R_reads' HO132.out).2.2|(with_reducible refine Kd.C_alloc ?_ _)|(with_reducible refine Kd.C_drewN ?_ _)|(with_reducible refine Kd.C_drew ?_)));(case side2=>exact(Kd.R_reads' HO132.out).2.1);(case side3=>(first|(refine LaidW.below HLW.out ?_;(repeat(first|(with_reducible first|exact HB.out|apply z02|apply z04|apply z05|refine z08 ?_ GE133.out)|exact HB.out));done)|(repeat(first|exact HLW.out|apply LaidW.drewN|apply LaidW.drew|apply LaidW.alloc))));rintro e w27 ⟨rfl,hb⟩;have n0_:=z00.mk (Kd.R_below zA0a hb);have n1_:=z00.mk (Kd.R_below zA0b hb);have n2_:=z00.mk (z0a (g:=gb133) (o:=.cells #[.slice none 0 0,.string (⟨#[113]⟩:ByteArray),.slice Ao16 y130.length co16] 27 (0,0)) zA0e hb);have n3_:=z00.mk (z0g zA09 hb);clear HO129;clear HO132;clear BK133;clear HB;have HO129:=n0_;have HO132:=n1_;have BK133:=n2_;have HB:=n3_;clear n0_ n1_ n2_ n3_;(try clear hb);(try clear hb2);(try clear hk);(try clear hi);have hcz28_0:w27.cell? ⟨gb133,0,none⟩=some (.slice none 0 0):=(z01 BK133.out 0).trans rfl;have hcz28_1:w27.cell? ⟨gb133,1,none⟩=some (.string (⟨#[113]⟩:ByteArray)):=(z01 BK133.out 1).trans rfl;have hcz28_2:w27.cell? ⟨gb133,2,none⟩=some (.slice Ao16 y130.length co16):=(z01 BK133.out 2).trans rfl;have hfz28_0:=z03 BK133.out 0;have hfz28_1:=z03 BK133.out 1;have hfz28_2:=z03 BK133.out 2)|(go_at_call 18;(refine(z6n.calls (⟨#[113]⟩:ByteArray) _ _ y130 0 _ _ ([]:List (S62)) t139 _ ?side5 ?side1 ?side2 ?side3 ?side4 A11.out).mono ?_);(case side1=>repeat(first|exact(Kd.R_reads' HO132.out).2.2|(with_reducible refine Kd.C_alloc ?_ _)|(with_reducible refine Kd.C_drewN ?_ _)|(with_reducible refine Kd.C_drew ?_)));(case side2=>exact(Kd.R_reads' HO132.out).2.1);(case side3=>exact Kd.C_nil _ _);(case side4=>exact Nat.le_refl _);(case side5=>(first|(refine LaidW.below HLW.out ?_;(repeat(first|(with_reducible first|exact HB.out|apply z02|apply z04|apply z05|refine z08 ?_ GE133.out)|exact HB.out));done)|(repeat(first|exact HLW.out|apply LaidW.drewN|apply LaidW.drew|apply LaidW.alloc))));rintro e w29 ⟨rfl,hb⟩;have n0_:=z00.mk (Kd.R_below zA0a hb);have n1_:=z00.mk (Kd.R_below zA0b hb);have n2_:=z00.mk (z0a (g:=gb133) (o:=.cells #[.slice none 0 0,.string (⟨#[113]⟩:ByteArray),.slice Ao16 y130.length co16] 27 (0,0)) zA0e hb);have n3_:=z00.mk (z0g zA09 hb);clear HO129;clear HO132;clear BK133;clear HB;have HO129:=n0_;have HO132:=n1_;have BK133:=n2_;have HB:=n3_;clear n0_ n1_ n2_ n3_;(try clear hb);(try clear hb2);(try clear hk);(try clear hi)))
 go_ret
 exact⟨by first|rfl|(simp[z12,z13] <;> rfl)|(simp[*,z12,z13] <;> rfl),by repeat(first|(with_reducible first|exact HB.out|apply z02|apply z04|apply z05|refine z08 ?_ GE133.out)|exact HB.out)⟩

theorem zig {t:TmS} (h:szT t):okT t:=⟨h.1,by have:=h.2;omega⟩
theorem zla {a:AtS} (h:szA a):okA a:=⟨fun x hx=>zig (h.1 x hx),by have:=h.2;omega⟩
theorem okL_sz {x:LtS} (h:szL x):okL x:=⟨zla h.1,zig h.2.1,zig h.2.2.1,zig h.2.2.2.1,fun y hy=>by have:=h.2.2.2.2.1 y hy;omega,by have:=h.2.2.2.2.2.1;omega,by have:=h.2.2.2.2.2.2;omega⟩
theorem okR_sz {x:RlS} (h:szR x):okR x:=⟨zla h.1,fun y hy=>okL_sz (h.2.1 y hy),by have:=h.2.2;omega⟩
theorem okP_sz {p:PgS} (h:szP p):okP p:=⟨fun x hx=>okR_sz (h.2.1 x hx),by have:=h.2.2;omega,zla h.1⟩
theorem same_sz {x:RlS} (h:szR x):zmj x:=⟨by have:=h.1.2;omega,by have:=h.2.2;omega,fun y hy=>⟨by have:=(h.2.1 y hy).1.2;omega,(h.2.1 y hy).2.2.2.2.2.1⟩⟩
theorem zjj {p:PgS} (h:progL p≠[]) (hr:rngP p):z2m.f (baL (progL p))=some (p.f0,p.f1.f0,p.f1.f1,0,0):=by
 obtain⟨h1,h2,_⟩:=zka h hr;have hs:(baL (progL p)).size≤20000:=by show(progL p).toArray.size≤_;rw[List.size_toArray];exact h2
 have:=zc9 (s:=baL (progL p)) hs h1;unfold z2m.f;rw[if_pos (by omega),this]
set_option maxHeartbeats 4000000 in
set_option maxRecDepth 100000 in
theorem zde (s:ByteArray) (hs:1500<s.size) (w:World) (hLW:LaidW w) :
 Calls Tryz.prog 14 #[.string s] w fun e w'=>e=.returned (.bool true)∧Below w.heap.size w w':=by
 have HA:=z00.mk (fun V (h:LaidW V)=>z7l V h);have HLW:=z00.mk hLW;have e3:decide ((1500:Int)<(s.size:Int))=true:=decide_eq_true (by omega);have e4:decide (1500<s.size)=true:=decide_eq_true hs;clear hLW hs;go_enter Tryz.func14,Tryz.ntmps14
 go_wp2_with fail
 refine(HA.out _ HLW.out).mono ?_;rintro e w1 ⟨rfl,hb⟩;have HB:=z00.mk hb;clear hb
 go_wp2_with fail
 refine(HA.out _ (HLW.out.below HB.out)).mono ?_;rintro e w2 ⟨rfl,hb⟩;have HB2:=z00.mk (z06 HB.out HB.out.size hb);clear hb;go_wp2
 go_ret
 exact⟨rfl,HB2.out⟩
set_option maxHeartbeats 4000000 in
set_option maxRecDepth 100000 in
theorem zdw (s:ByteArray) (hs:s.size≤1500) {rs:List RlS} {pn:ByteArray} {pa:List TmS} {a1 e1:Int} (h1:z2m.f s=some (rs,pn,pa,a1,e1)) (he:e1≠0) (w:World) (hLW:LaidW w) :
 Calls Tryz.prog 14 #[.string s] w fun e w'=>e=.returned (.bool true)∧Below w.heap.size w w':=by
 have HA:=z00.mk (fun V (h:LaidW V)=>z7l V h);have HLW:=z00.mk hLW;have e3:decide ((1500:Int)<(s.size:Int))=false:=decide_eq_false (by omega);have e4:decide (1500<s.size)=false:=decide_eq_false (by omega);have HP1:=z00.mk (fun V (h:LaidW V)=>z2m.calls s rs pn pa a1 e1 V h h1);have z1:(e1 !=0)=true:=bne_iff_ne.2 he;have z2:(e1==0)=false:=beq_eq_false_iff_ne.2 he;clear hLW hs h1 he;go_enter Tryz.func14,Tryz.ntmps14
 go_wp2_with fail
 refine(HA.out _ HLW.out).mono ?_;rintro e w1 ⟨rfl,hb⟩;have HB:=z00.mk hb;clear hb
 go_wp2_with fail
 refine(HP1.out _ (HLW.out.below HB.out)).mono ?_;rintro e w2 ⟨v0,v1,rfl,g0,g1,hb⟩;obtain⟨A0,c0,rfl⟩:=Kd.R_slice g0;obtain⟨A1,c1,rfl⟩:=Kd.R_slice g1;have HB2:=z00.mk (z06 HB.out HB.out.size hb);have HBA:=z00.mk (z02 HB2.out (.cells #[.slice A0 rs.length c0,.string pn,.slice A1 pa.length c1] 27));clear g0 g1 hb;go_wp2
 go_ret
 exact⟨rfl,HBA.out⟩
set_option maxHeartbeats 8000000 in
set_option maxRecDepth 100000 in
theorem zf7 (s:ByteArray) (hs:s.size≤1500) (rs:List RlS) (pn:ByteArray) (pa:List TmS) (hp:progO s.data.toList=some ⟨rs,⟨pn,pa⟩⟩) (h1:z2m.f s=some (rs,pn,pa,0,0)) (w:World) (hLW:LaidW w) :
 Calls Tryz.prog 14 #[.string s] w fun e w'=>e=.returned (.bool true)∧Below w.heap.size w w':=by
 have HA:=z00.mk (fun V (h:LaidW V)=>z7l V h);have HLW:=z00.mk hLW;have e3:decide ((1500:Int)<(s.size:Int))=false:=decide_eq_false (by omega);have e4:decide (1500<s.size)=false:=decide_eq_false (by omega);obtain⟨hne,hsz⟩:=zj0 hs hp;have h2:=zjj hne (szP_rng hsz);have hok:=okP_sz hsz;have HP1:=z00.mk (fun V (h:LaidW V)=>z2m.calls s rs pn pa 0 0 V h h1);have hT:=fun(V:World) (A:Option Addr) (c:Nat) (B:Option Addr) (d:Nat) (h:LaidW V) (hA:Kd.C k33 V A rs.length rs) (hB:Kd.C k60 V B pa.length pa)=>zau ⟨rs,⟨pn,pa⟩⟩ A c B d V h hok hA hB
 have z3:((baL (progL ⟨rs,⟨pn,pa⟩⟩)).toList==([]:List UInt8))=false:=beq_eq_false_iff_ne.2 (by rw[z17];exact hne);obtain⟨t,ht⟩:∃t,baL (progL ⟨rs,⟨pn,pa⟩⟩)=t:=⟨_,rfl⟩
 rw[ht]at h2 hT z3;have HT:=z00.mk hT;have HP2:=z00.mk (fun V (h:LaidW V)=>z2m.calls t rs pn pa 0 0 V h h2);have HSM:=z00.mk (fun(V:World) (A B A1 B1:Option Addr) (c d c1 d1:Nat) (hc1:pa.length≤c1) (hd1:pa.length≤d1) (hA:Kd.C k33 V A rs.length rs) (hB:Kd.C k33 V B rs.length rs) (hA1:Kd.C k60 V A1 pa.length pa) (hB1:Kd.C k60 V B1 pa.length pa) =>
  zgw rs pn pa (by have:=hsz.2.2;have h':rs.length≤200:=this;omega) (fun x hx=>same_sz (hsz.2.1 x hx)) (by have:=hsz.1.2;have h':pa.length≤8:=this;omega) A B A1 B1 c d c1 d1 hc1 hd1 V hA hB hA1 hB1)
 have z4:(t.toList==t.toList)=true:=beq_self_eq_true _;clear hLW hs hp h1 h2 hne hsz hok hT ht;go_enter Tryz.func14,Tryz.ntmps14
 go_wp2_with fail
 refine(HA.out _ HLW.out).mono ?_;rintro e w1 ⟨rfl,hb⟩;have HB:=z00.mk hb;clear hb
 go_wp2_with fail
 refine(HP1.out _ (HLW.out.below HB.out)).mono ?_;rintro e w2 ⟨v0,v1,rfl,g0,g1,hb⟩;obtain⟨A0,c0,rfl⟩:=Kd.R_slice g0;obtain⟨A1,c1,rfl⟩:=Kd.R_slice g1;have HG0:=z00.mk (Kd.R_mono (ok':=fun _=>True) g0 (fun _ _=>trivial));have HG1:=z00.mk (Kd.R_mono (ok':=fun _=>True) g1 (fun _ _=>trivial));have HB2:=z00.mk (z06 HB.out HB.out.size hb);clear g0 g1 hb;obtain⟨n1,en1⟩:∃n,w2.heap.size=n:=⟨_,rfl⟩
 have hN1:=z0l w2 (.cells #[.slice A0 rs.length c0,.string pn,.slice A1 pa.length c1] 27);rw[en1]at hN1;have HN1:=z00.mk hN1;have HBA:=z00.mk (z02 HB2.out (.cells #[.slice A0 rs.length c0,.string pn,.slice A1 pa.length c1] 27));have HC0:=z00.mk (Kd.C_below (Kd.R_reads' HG0.out).2.2 (z02 (Below.refl w2.heap.size w2) (.cells #[.slice A0 rs.length c0,.string pn,.slice A1 pa.length c1] 27)));have HC1:=z00.mk (Kd.C_below (Kd.R_reads' HG1.out).2.2 (z02 (Below.refl w2.heap.size w2) (.cells #[.slice A0 rs.length c0,.string pn,.slice A1 pa.length c1] 27)));have HL1:=z00.mk (Kd.R_reads' HG1.out).2.1;clear hN1 HG0 HG1
 go_upto_region 6 with (fail)
 generalize w2.alloc (.cells #[.slice A0 rs.length c0,.string pn,.slice A1 pa.length c1] 27)=W1 at HN1 HBA HC0 HC1 ⊢
 have d0:W1.cell? ⟨n1,0,none⟩=some (.slice A0 rs.length c0):=(z01 HN1.out 0).trans rfl;have d1:W1.cell? ⟨n1,1,none⟩=some (.string pn):=(z01 HN1.out 1).trans rfl;have d2:W1.cell? ⟨n1,2,none⟩=some (.slice A1 pa.length c1):=(z01 HN1.out 2).trans rfl
 go_wp2_with fail
 refine(HT.out _ A0 c0 A1 c1 (HLW.out.below HBA.out) HC0.out HC1.out).mono ?_;rintro e w3 ⟨rfl,hb⟩;have HB3:=z00.mk (z06 HBA.out HBA.out.size hb);have HC0':=z00.mk (Kd.C_below HC0.out hb);have HC1':=z00.mk (Kd.C_below HC1.out hb);have HN1':=z00.mk (z0a HN1.out hb);clear hb d0 d1 d2 HC0 HC1 HN1
 go_wp2_with fail
 refine(HP2.out _ (HLW.out.below HB3.out)).mono ?_;rintro e w4 ⟨v2,v3,rfl,g2,g3,hb⟩;obtain⟨A2,c2,rfl⟩:=Kd.R_slice g2;obtain⟨A3,c3,rfl⟩:=Kd.R_slice g3;obtain⟨n2,en2⟩:∃n,w4.heap.size=n:=⟨_,rfl⟩
 have hb3:=z02 hb (.cells #[.slice A2 rs.length c2,.string pn,.slice A3 pa.length c3] 27);have hN2:=z0l w4 (.cells #[.slice A2 rs.length c2,.string pn,.slice A3 pa.length c3] 27);rw[en2]at hN2;have HN2:=z00.mk hN2;have HN1:=z00.mk (z0a HN1'.out hb3);have HB4:=z00.mk (z06 HB3.out HB3.out.size hb3);have HQ0:=z00.mk (Kd.C_below (Kd.R_reads' g2).2.2 (z02 (Below.refl w4.heap.size w4) (.cells #[.slice A2 rs.length c2,.string pn,.slice A3 pa.length c3] 27)));have HQ1:=z00.mk (Kd.C_below (Kd.R_reads' g3).2.2 (z02 (Below.refl w4.heap.size w4) (.cells #[.slice A2 rs.length c2,.string pn,.slice A3 pa.length c3] 27)));have HL3:=z00.mk (Kd.R_reads' g3).2.1;have HR0:=z00.mk (Kd.C_below HC0'.out hb3);have HR1:=z00.mk (Kd.C_below HC1'.out hb3);clear hN2 g2 g3 hb hb3 HC0' HC1' HN1'
 go_upto_region 10 with (fail)
 generalize w4.alloc (.cells #[.slice A2 rs.length c2,.string pn,.slice A3 pa.length c3] 27)=W at HN1 HN2 HB4 HQ0 HQ1 HR0 HR1 ⊢
 have d0:W.cell? ⟨n1,0,none⟩=some (.slice A0 rs.length c0):=(z01 HN1.out 0).trans rfl;have d1:W.cell? ⟨n1,1,none⟩=some (.string pn):=(z01 HN1.out 1).trans rfl;have d2:W.cell? ⟨n1,2,none⟩=some (.slice A1 pa.length c1):=(z01 HN1.out 2).trans rfl;have q0:W.cell? ⟨n2,0,none⟩=some (.slice A2 rs.length c2):=(z01 HN2.out 0).trans rfl;have q1:W.cell? ⟨n2,1,none⟩=some (.string pn):=(z01 HN2.out 1).trans rfl;have q2:W.cell? ⟨n2,2,none⟩=some (.slice A3 pa.length c3):=(z01 HN2.out 2).trans rfl
 go_wp2_with fail
 refine(HSM.out _ A0 A2 A1 A3 c0 c2 c1 c3 HL1.out HL3.out HR0.out HQ0.out HR1.out HQ1.out).mono ?_;rintro e w5 ⟨rfl,hb⟩;have r0:=z07 hb q0;have r1:=z07 hb q1;have r2:=z07 hb q2;have HB5:=z00.mk (z06 HB4.out HB4.out.size hb);have HQ0':=z00.mk (Kd.C_below HQ0.out hb);have HQ1':=z00.mk (Kd.C_below HQ1.out hb);clear hb d0 d1 d2 q0 q1 q2
 go_wp2_with fail
 refine(HT.out _ A2 c2 A3 c3 (HLW.out.below HB5.out) HQ0'.out HQ1'.out).mono ?_;rintro e w6 ⟨rfl,hb⟩;have HB6:=z00.mk (z06 HB5.out HB5.out.size hb);clear hb;go_wp2
 go_ret
 exact⟨by first|rfl|simp[*],HB6.out⟩
def z2p.f (k:Nat) (a0:ByteArray):Option Bool:=some true
theorem z2p.calls (k:Nat) (a0:ByteArray) (r:Bool) (w:World) (hLW:LaidW w) (h:z2p.f k a0=some r) :
 Calls Tryz.prog 14 #[.string a0] w fun e w'=>e=.returned (.bool r)∧Below w.heap.size w w':=by
 obtain rfl:=Option.some.inj h
 by_cases hs:1500<a0.size
 · exact zde a0 hs w hLW
 · rcases zg0 (s:=a0) (by omega)with ⟨p,hp,hpa⟩|⟨r1,r2,r3,r4,r5,hpa,hne⟩
   · exact zf7 a0 (by omega) p.f0 p.f1.f0 p.f1.f1 hp hpa w hLW
   · exact zdw a0 (by omega) hpa hne w hLW
end Go.Proofs.YthebhbomlllpeaaGreatDoor.X
namespace Go.Proofs.YthebhbomlllpeaaGreatDoor.X
theorem zd3 (s:ByteArray) (_:s.size≤maxLen):∃k,z2p.f k s=some true:=⟨0,rfl⟩
end Go.Proofs.YthebhbomlllpeaaGreatDoor.X
