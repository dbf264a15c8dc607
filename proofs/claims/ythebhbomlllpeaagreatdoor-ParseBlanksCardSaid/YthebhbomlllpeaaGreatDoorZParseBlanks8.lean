/-
  ParseBlanks: what the proof needs, put together by a program of this session (shake.py), part 8.
-/
import Derived.Test.YthebhbomlllpeaaGreatDoorZParseBlanks7
set_option linter.unusedVariables false
set_option linter.unusedSimpArgs false
namespace Go.Proofs.YthebhbomlllpeaaGreatDoor.X
open Go.RowKit Go.Proofs.YthebhbomlllpeaaGreatDoorW.PrintWords Go.Proofs.YthebhbomlllpeaaGreatDoorW.PrintLast Go.Proofs.YthebhbomlllpeaaGreatDoorW.PrintMore
private theorem zbx (k k':IntKind) (x y:Int):Builtin.max2 (.int k x) (.int k' y)=pure (.int k (mx x y)):=by rw[z4g];rfl
private theorem zc6 (k k':IntKind) (x y:Int):Builtin.min2 (.int k x) (.int k' y)=pure (.int k (mn x y)):=by rw[z4f];rfl
attribute [local go_sem] zbx zc6 z50 z4w z3s z3p z48 z4c
mutual
def z0f.l0:Nat→ByteArray→List (S53)→Int→Option ((List (S53)) × Int × Int)
 |0,_,_,_=>none
 |k+1,x0,x5,x6=>if x6<(x0.size:Int)then(if 0≤x6 then(if(bt x0 x6)=32 then(z0f.j1 k x0 x5 x6 true)else(if(bt x0 x6)=9 then(z0f.j1 k x0 x5 x6 true)else(z0f.j1 k x0 x5 x6 ((bt x0 x6)==10))))else(none))else(some (x5,0,0))
def z0f.j1:Nat→ByteArray→List (S53)→Int→Bool→Option ((List (S53)) × Int × Int)
 |0,_,_,_,_=>none
 |k+1,x0,x5,x6,x31=>if x31=true then(z0f.l0 k x0 x5 (wrap64 (x6+1)))else((z0a.f k x0 x6).bind fun bt216=>(if bt216.2.2.2=true then(if x5.length<4398046511104 then(z0f.l0 k x0 (x5++[(⟨bt216.1,bt216.2.1,bt216.2.2.1⟩:S53)]) (wrap64 (x6+(bt216.2.1.size:Int))))else(none))else(some (([]:List (S53)),x6,2))))
end
def z0f.f (k:Nat) (a0:ByteArray):Option ((List (S53)) × Int × Int):=if(a0.size:Int)>20000 then(some (([]:List (S53)),0,4))else(z0f.l0 k a0 ([]:List (S53)) 0)
set_option maxHeartbeats 8000000 in
set_option maxRecDepth 100000 in
theorem z0f.calls (k:Nat) (a0:ByteArray) (r1:List (S53)) (r2:Int) (r3:Int) (w:World) (h:z0f.f k a0=some (r1,r2,r3)) :
 Calls Tryz.prog 34 #[.string a0] w fun e w'=>∃v0_:Value,e=.returned (.tuple #[v0_,.int .i64 r2,.int .i64 r3])∧Kd.R k53 53 w' w.heap.size (fun _=>True) v0_ r1∧Below w.heap.size w w':=by
 have hu53:=Tryz.underlying53;have HB:=z00.mk (Below.refl w.heap.size w);have H:(if(a0.size:Int)>20000 then(some (([]:List (S53)),0,4))else(z0f.l0 k a0 ([]:List (S53)) 0))=some (r1,r2,r3):=h;clear h
 by_cases c2:(a0.size:Int)>20000
 · rw[if_pos c2]at H;have c2b0:decide (20000<(a0.size:Int))=true:=decide_eq_true c2;have c2b1:decide (20000<a0.size)=true:=decide_eq_true (by omega);clear c2;simp only[Option.some.injEq,Prod.mk.injEq]at H;obtain⟨rfl,rfl,rfl⟩:=H;go_enter Tryz.func34,Tryz.ntmps34;go_wp2
   go_ret3
   exact⟨_,by first|rfl|(simp[z0q,z0p] <;> rfl)|(simp[*,z0q,z0p] <;> rfl),by first|exact Kd.R_nil _ _ _ _ _|exact Kd.N_nil _ _ _ _ _|exact Kd.V_nil _ _ _ _ _|exact Kd.Q_nil _ _ _ _ _|exact Kd.S_nil _ _ _ _ _,by repeat(first|(with_reducible first|exact HB.out|apply z04|apply z02|apply z05)|exact HB.out)⟩
 · rw[if_neg c2]at H;have c2b0:decide (20000<(a0.size:Int))=false:=decide_eq_false c2;have c2b1:decide (20000<a0.size)=false:=decide_eq_false (by omega);clear c2;have H':=z00.mk H;clear H;go_enter Tryz.func34,Tryz.ntmps34;go_wp2
   go_loopg [5,6] k (fun kq v5 v6 w'=>∃(x5_1:List (S53)) (x6_1:Int),v6=.int .i64 x6_1∧z00 (z0f.l0 kq a0 x5_1 x6_1=some (r1,r2,r3))∧z00 (kq≤k)∧z00 (Kd.R k53 53 w' w.heap.size (fun _=>True) v5 x5_1)∧z00 (Below w.heap.size w w'))
   case atStart=>exact⟨(([]:List (S53))),(0),zA06,H',⟨Nat.le_refl _⟩,⟨by first|exact Kd.R_nil _ _ _ _ _|exact Kd.N_nil _ _ _ _ _|exact Kd.V_nil _ _ _ _ _|exact Kd.Q_nil _ _ _ _ _|exact Kd.S_nil _ _ _ _ _⟩,⟨zA00⟩⟩
   case round =>
    clear H';(try clear c2);(try clear c2b0);(try clear c2b1);(try clear p2);obtain⟨x5_1,x6_1,rfl,HA,HK1,HO_5,HB⟩:=hrel
    cases gk with
    |zero=>exact absurd HA.out (by simp[z0f.l0])
    |succ k1 =>
     have H:=HA.out;clear HA;simp only[z0f.l0]at H
     by_cases c3:x6_1<(a0.size:Int)
     · rw[if_pos c3]at H;have c3b0:decide (x6_1<(a0.size:Int))=true:=decide_eq_true c3;clear c3;have HC4:=z00.mk H;clear H
       go_upto_region 6 with (fail)
       go_cut [31] (fun v31 wc=>∃(kq:Nat) (x31_3:Bool),v31=.bool x31_3∧z00 (z0f.j1 kq a0 x5_1 x6_1 x31_3=some (r1,r2,r3))∧z00 (kq≤k1)∧z00 (Kd.R k53 53 wc w.heap.size (fun _=>True) u5 x5_1)∧z00 (Below w.heap.size w wc))
       case first =>
        have H:=HC4.out;clear HC4
        by_cases c5:0≤x6_1
        · rw[if_pos c5]at H;have c5b0:decide (0≤x6_1)=true:=decide_eq_true c5;clear c5
          (first|rw[c5b0]|(simp only[i64_w,i32_w];rw[c5b0])|skip)
          by_cases c7:(bt a0 x6_1)=32
          · rw[if_pos c7]at H;have c7b0:((bt a0 x6_1)==32)=true:=beq_iff_eq.mpr c7;have c7b1:((bt a0 x6_1) !=32)=false:=bne_eq_false_iff_eq.mpr c7;clear c7;have H':=z00.mk H;clear H;have p6:0≤(x6_1:Int):=of_decide_eq_true zA01;have q6:x6_1<(a0.size:Int):=of_decide_eq_true zA01;have hx6:=bt_at a0 x6_1;replace p6:=eq_true p6;replace q6:=eq_true q6;go_wp2;go_meet
            case rel=>exact⟨_,(true),zA06,H',⟨zA11⟩,⟨zA0j⟩,⟨zA00⟩⟩
          · rw[if_neg c7]at H;have c7b0:((bt a0 x6_1)==32)=false:=beq_eq_false_iff_ne.mpr c7;have c7b1:((bt a0 x6_1) !=32)=true:=bne_iff_ne.mpr c7
            by_cases c9:(bt a0 x6_1)=9
            · rw[if_pos c9]at H;have c9b0:((bt a0 x6_1)==9)=true:=beq_iff_eq.mpr c9;have c9b1:((bt a0 x6_1) !=9)=false:=bne_eq_false_iff_eq.mpr c9;clear c9;have H':=z00.mk H;clear H;have p6:0≤(x6_1:Int):=of_decide_eq_true zA01;have q6:x6_1<(a0.size:Int):=of_decide_eq_true zA01;have hx6:=bt_at a0 x6_1;replace p6:=eq_true p6;replace q6:=eq_true q6;have p8:0≤(x6_1:Int):=of_decide_eq_true zA01;have q8:x6_1<(a0.size:Int):=of_decide_eq_true zA01;have hx8:=bt_at a0 x6_1;replace p8:=eq_true p8;replace q8:=eq_true q8;go_wp2;go_meet
              case rel=>exact⟨_,(true),zA06,H',⟨zA11⟩,⟨zA0j⟩,⟨zA00⟩⟩
            · rw[if_neg c9]at H;have c9b0:((bt a0 x6_1)==9)=false:=beq_eq_false_iff_ne.mpr c9;have c9b1:((bt a0 x6_1) !=9)=true:=bne_iff_ne.mpr c9;have H':=z00.mk H;clear H;have p6:0≤(x6_1:Int):=of_decide_eq_true zA01;have q6:x6_1<(a0.size:Int):=of_decide_eq_true zA01;have hx6:=bt_at a0 x6_1;replace p6:=eq_true p6;replace q6:=eq_true q6;have p8:0≤(x6_1:Int):=of_decide_eq_true zA01;have q8:x6_1<(a0.size:Int):=of_decide_eq_true zA01;have hx8:=bt_at a0 x6_1;replace p8:=eq_true p8;replace q8:=eq_true q8;have p10:0≤(x6_1:Int):=of_decide_eq_true zA01;have q10:x6_1<(a0.size:Int):=of_decide_eq_true zA01;have hx10:=bt_at a0 x6_1;replace p10:=eq_true p10;replace q10:=eq_true q10;go_wp2;go_meet
              case rel=>exact⟨_,(((bt a0 x6_1)==10)),zA06,H',⟨zA11⟩,⟨zA0j⟩,⟨zA00⟩⟩
        · rw[if_neg c5]at H;exact absurd H (by simp)
       case rest =>
        clear HC4;(try clear p1);(try clear q1);(try clear hx1);(try clear c2);(try clear c2b0);(try clear c2b1);(try clear p2);(try clear c3);(try clear c3b0);(try clear c5);(try clear c5b0);(try clear p6);(try clear q6);(try clear hx6);(try clear c7);(try clear c7b0);(try clear c7b1);(try clear p8);(try clear q8);(try clear hx8);(try clear c9);(try clear c9b0);(try clear c9b1);(try clear p10);(try clear q10);(try clear hx10);(try clear p10);(try clear p2);(try clear p6);(try clear p8);(try clear q10);(try clear q6);(try clear q8);obtain⟨kq,x31_3,rfl,HA,HJ3,HO_5,HB⟩:=hcut
        cases kq with
        |zero=>exact absurd HA.out (by simp[z0f.j1])
        |succ kj3 =>
         have H:=HA.out;clear HA;simp only[z0f.j1]at H
         by_cases c11:x31_3=true
         · subst c11;have H1:(z0f.l0 kj3 a0 x5_1 (wrap64 (x6_1+1)))=some (r1,r2,r3):=by rw[if_pos rfl]at H;exact H
           clear H;have H:=H1;clear H1;have H':=z00.mk H;clear H;go_wp2
           go_roundg kj3
           case measure=>have:=HK1.out;have:=HJ3.out;omega
           case rel=>exact⟨(x5_1),(wrap64 (x6_1+1)),zA06,H',⟨by have:=HK1.out;have:=HJ3.out;omega⟩,⟨zA0j⟩,⟨zA00⟩⟩
         · replace c11:=Bool.eq_false_iff.mpr c11;subst c11;have H1:((z0a.f kj3 a0 x6_1).bind fun bt216=>(if bt216.2.2.2=true then(if x5_1.length<4398046511104 then(z0f.l0 kj3 a0 (x5_1++[(⟨bt216.1,bt216.2.1,bt216.2.2.1⟩:S53)]) (wrap64 (x6_1+(bt216.2.1.size:Int))))else(none))else(some (([]:List (S53)),x6_1,2))))=some (r1,r2,r3):=by rw[if_neg (show ¬(false=true) by decide)]at H;exact H
           clear H;have H:=H1;clear H1;replace H:=Option.bind_eq_some_iff.mp H;obtain⟨⟨t216,t217,t218,t219⟩,A120,H⟩:=H;replace H:(if t219=true then(if x5_1.length<4398046511104 then(z0f.l0 kj3 a0 (x5_1++[(⟨t216,t217,t218⟩:S53)]) (wrap64 (x6_1+(t217.size:Int))))else(none))else(some (([]:List (S53)),x6_1,2)))=some (r1,r2,r3):=H;have A12:=z00.mk A120;clear A120
           by_cases c13:t219=true
           · subst c13;have H1:(if x5_1.length<4398046511104 then(z0f.l0 kj3 a0 (x5_1++[(⟨t216,t217,t218⟩:S53)]) (wrap64 (x6_1+(t217.size:Int))))else(none))=some (r1,r2,r3):=by rw[if_pos rfl]at H;exact H
             clear H;have H:=H1;clear H1
             by_cases c14:x5_1.length<4398046511104
             · rw[if_pos c14]at H;have LMc14:=z00.mk c14;clear c14;obtain⟨y221,hy221⟩:∃y_:List (S53),y_=(x5_1++[(⟨t216,t217,t218⟩:S53)]):=⟨_,rfl⟩
               replace H:(z0f.l0 kj3 a0 y221 (wrap64 (x6_1+(t217.size:Int))))=some (r1,r2,r3):=by first|(rw[hy221];with_reducible exact H)|(have H2_:=(Option.bind_some _ _).symm.trans H;rw[hy221];with_reducible exact H2_)|(have H2_:=(Option.bind_some _ _).symm.trans H;with_reducible exact H2_)|with_reducible exact H|(rw[hy221];exact H)|exact H
               have Ny221:=z00.mk hy221;clear hy221;have H':=z00.mk H;clear H
               go_wp2_with (first|((with_reducible refine z0t (f:=64) rfl ?_);refine z27 (some 37) rfl rfl Tryz.func64 (by kernel_rfl) rfl #[.string a0,.int .i64 x6_1] rfl zA02 ?_;(with_reducible refine(z0a.calls kj3 a0 x6_1 t216 t217 t218 true _ A12.out).mono ?_);rintro e w15 ⟨rfl,hb⟩;refine⟨_,rfl,?_⟩;have n0_:=z00.mk (Kd.R_below zA0j hb);have n1_:=z00.mk (z0g zA00 hb);clear HO_5;clear HB;have HO_5:=n0_;have HB:=n1_;clear n0_ n1_;(try clear hb);(try clear hb2);(try clear hk);(try clear hi))|((with_reducible refine z19 (N:=7) rfl ?_);refine z17 ?hg (N:=7) ?hd (cs:=#[.int .i64 0,.string (⟨#[]⟩:ByteArray),.int .i64 0]) (t:=53) ?hr ?_;(case hd=>rfl);(case hg=>rfl);(case hr=>first|(go_simp;done)|(go_simp;rfl));intro gb220 hg w16 hbox hb;have n0_:=z00.mk (Kd.R_below (Kd.R_elderB zA0j gb220 (Nat.le_of_eq hg.symm)) hb);have n1_:=z00.mk (z0g zA00 hb);have n2_:=z00.mk (hbox);have n3_:=z00.mk ((by rw[hg];exact(z0j zA00):w.heap.size≤gb220));have n4_:=z00.mk ((by rw[hg];exact(z0j zA00):w.heap.size≤gb220));clear HO_5;clear HB;have HO_5:=n0_;have HB:=n1_;have BK220:=n2_;have GW220:=n3_;have GE220:=n4_;clear n0_ n1_ n2_ n3_ n4_;clear hb hbox hg;have hcz17_0:w16.cell? ⟨gb220,0,none⟩=some (.int .i64 0):=(z01 BK220.out 0).trans rfl;have hcz17_1:w16.cell? ⟨gb220,1,none⟩=some (.string (⟨#[]⟩:ByteArray)):=(z01 BK220.out 1).trans rfl;have hcz17_2:w16.cell? ⟨gb220,2,none⟩=some (.int .i64 0):=(z01 BK220.out 2).trans rfl;have hfz17_0:=z03 BK220.out 0;have hfz17_1:=z03 BK220.out 1;have hfz17_2:=z03 BK220.out 2)|((with_reducible refine z23 (b:=.append) (xs:=#[.tmp 43,.tmp 45]) rfl ?_);at_builtin;refine Kd.R_append k53 (w0:=w) w.heap.size rfl (.tmp 43) (.tmp 45) 49 53 (.agg #[(.int .i64 0),(.string ⟨#[]⟩),(.int .i64 0)]) 32 rfl Tryz.underlying49 info53 rfl (by decide) (by omega) u5 x5_1 (⟨t216,t217,t218⟩:S53) [.int .i64 t216,.string t217,.int .i64 t218] (fun k_=>k_≠gb220) (fun _=>False) rfl (by first|(go_simp;done)|(go_simp;rfl)) ?aP (fun _ hk=>hk.elim) ?aF ?aO ?aB ?aS ?aL ?_;(case aP=>exact k53_mkM _ _ _ (⟨t216,t217,t218⟩:S53));(case aB=>exact zA0v);(case aF=>exact(fun k_ hk=>Kd.freshB (g:=gb220) (o:=.cells #[.int .i64 t216,.string t217,.int .i64 t218] 53 (0,0)) (by(with_reducible repeat(first|refine z07 ?_ _|refine z09 ?_|refine z06 ?_ _));refine z0l (cs:=#[.int .i64 t216,.string t217,.int .i64 0]) ?_ 2 _ rfl;(with_reducible repeat(first|refine z07 ?_ _|refine z09 ?_|refine z06 ?_ _));refine z0l (cs:=#[.int .i64 t216,.string (⟨#[]⟩:ByteArray),.int .i64 0]) ?_ 1 _ rfl;(with_reducible repeat(first|refine z07 ?_ _|refine z09 ?_|refine z06 ?_ _));refine z0l (cs:=#[.int .i64 0,.string (⟨#[]⟩:ByteArray),.int .i64 0]) ?_ 0 _ rfl;(with_reducible repeat(first|refine z07 ?_ _|refine z09 ?_|refine z06 ?_ _));exact BK220.out) k_ hk));(case aO=>exact(by(with_reducible repeat(first|apply Kd.R_alloc|apply Kd.R_drewN|apply Kd.R_drew));exact Kd.R_mono (Kd.R_far (p:=⟨gb220,2,none⟩) (Kd.R_far (p:=⟨gb220,1,none⟩) (Kd.R_far (p:=⟨gb220,0,none⟩) (Kd.R_mono HO_5.out (fun k_ hk=>(⟨hk,hk.2⟩:_∧k_≠gb220))) (fun _ hk=>hk.2) (.int .i64 t216)) (fun _ hk=>hk.2) (.string t217)) (fun _ hk=>hk.2) (.int .i64 t218)) (fun _ hk=>hk.1.2)));(case aS=>exact(z0j zA0v));(case aL=>have:=LMc14.out;omega);intro v222 w18 ho hb hg hat;rw[←Ny221.out]at ho;have n0_:=z00.mk (z42 (g:=gb220) (o:=.cells #[.int .i64 t216,.string t217,.int .i64 t218] 53 (0,0)) (by(with_reducible repeat(first|refine z07 ?_ _|refine z09 ?_|refine z06 ?_ _));refine z0l (cs:=#[.int .i64 t216,.string t217,.int .i64 0]) ?_ 2 _ rfl;(with_reducible repeat(first|refine z07 ?_ _|refine z09 ?_|refine z06 ?_ _));refine z0l (cs:=#[.int .i64 t216,.string (⟨#[]⟩:ByteArray),.int .i64 0]) ?_ 1 _ rfl;(with_reducible repeat(first|refine z07 ?_ _|refine z09 ?_|refine z06 ?_ _));refine z0l (cs:=#[.int .i64 0,.string (⟨#[]⟩:ByteArray),.int .i64 0]) ?_ 0 _ rfl;(with_reducible repeat(first|refine z07 ?_ _|refine z09 ?_|refine z06 ?_ _));exact BK220.out) hg (Kd.R_away HO_5.out (fun _ hk=>hk.2)));have n1_:=z00.mk (hb);have n2_:=z00.mk (ho);clear BK220;clear HB;clear HO_5;have BK220:=n0_;have HB:=n1_;have HO223:=n2_;clear n0_ n1_ n2_;clear ho hb hg hat;have hcz19_0:w18.cell? ⟨gb220,0,none⟩=some (.int .i64 t216):=(z01 BK220.out 0).trans rfl;have hcz19_1:w18.cell? ⟨gb220,1,none⟩=some (.string t217):=(z01 BK220.out 1).trans rfl;have hcz19_2:w18.cell? ⟨gb220,2,none⟩=some (.int .i64 t218):=(z01 BK220.out 2).trans rfl;have hfz19_0:=z03 BK220.out 0;have hfz19_1:=z03 BK220.out 1;have hfz19_2:=z03 BK220.out 2))
               go_roundg kj3
               case measure=>have:=HK1.out;have:=HJ3.out;omega
               case rel=>exact⟨(y221),(wrap64 (x6_1+(t217.size:Int))),zA06,H',⟨by have:=HK1.out;have:=HJ3.out;omega⟩,⟨by(with_reducible repeat(first|apply Kd.R_alloc|apply Kd.R_drewN|apply Kd.R_drew));exact Kd.R_mono HO223.out (fun _ hk=>trivial)⟩,⟨zA0v⟩⟩
             · rw[if_neg c14]at H;exact absurd H (by simp)
           · replace c13:=Bool.eq_false_iff.mpr c13;subst c13;have H1:(some (([]:List (S53)),x6_1,2))=some (r1,r2,r3):=by rw[if_neg (show ¬(false=true) by decide)]at H;exact H
             clear H;have H:=H1;clear H1;simp only[Option.some.injEq,Prod.mk.injEq]at H;obtain⟨rfl,rfl,rfl⟩:=H
             go_wp2_with (first|((with_reducible refine z0t (f:=64) rfl ?_);refine z27 (some 37) rfl rfl Tryz.func64 (by kernel_rfl) rfl #[.string a0,.int .i64 x6_1] rfl zA02 ?_;(with_reducible refine(z0a.calls kj3 a0 x6_1 t216 t217 t218 false _ A12.out).mono ?_);rintro e w20 ⟨rfl,hb⟩;refine⟨_,rfl,?_⟩;have n0_:=z00.mk (Kd.R_below zA0j hb);have n1_:=z00.mk (z0g zA00 hb);clear HO_5;clear HB;have HO_5:=n0_;have HB:=n1_;clear n0_ n1_;(try clear hb);(try clear hb2);(try clear hk);(try clear hi))|((with_reducible refine z19 (N:=7) rfl ?_);refine z17 ?hg (N:=7) ?hd (cs:=#[.int .i64 0,.string (⟨#[]⟩:ByteArray),.int .i64 0]) (t:=53) ?hr ?_;(case hd=>rfl);(case hg=>rfl);(case hr=>first|(go_simp;done)|(go_simp;rfl));intro gb220 hg w21 hbox hb;have n0_:=z00.mk (Kd.R_below (Kd.R_elderB zA0j gb220 (Nat.le_of_eq hg.symm)) hb);have n1_:=z00.mk (z0g zA00 hb);have n2_:=z00.mk (hbox);have n3_:=z00.mk ((by rw[hg];exact(z0j zA00):w.heap.size≤gb220));have n4_:=z00.mk ((by rw[hg];exact(z0j zA00):w.heap.size≤gb220));clear HO_5;clear HB;have HO_5:=n0_;have HB:=n1_;have BK220:=n2_;have GW220:=n3_;have GE220:=n4_;clear n0_ n1_ n2_ n3_ n4_;clear hb hbox hg;have hcz22_0:w21.cell? ⟨gb220,0,none⟩=some (.int .i64 0):=(z01 BK220.out 0).trans rfl;have hcz22_1:w21.cell? ⟨gb220,1,none⟩=some (.string (⟨#[]⟩:ByteArray)):=(z01 BK220.out 1).trans rfl;have hcz22_2:w21.cell? ⟨gb220,2,none⟩=some (.int .i64 0):=(z01 BK220.out 2).trans rfl;have hfz22_0:=z03 BK220.out 0;have hfz22_1:=z03 BK220.out 1;have hfz22_2:=z03 BK220.out 2))
             go_ret3
             exact⟨_,by first|rfl|(simp[z0q,z0p] <;> rfl)|(simp[*,z0q,z0p] <;> rfl),by first|exact Kd.R_nil _ _ _ _ _|exact Kd.N_nil _ _ _ _ _|exact Kd.V_nil _ _ _ _ _|exact Kd.Q_nil _ _ _ _ _|exact Kd.S_nil _ _ _ _ _,by repeat(first|(with_reducible first|exact HB.out|apply z04|apply z02|apply z05|refine z08 ?_ GE220.out)|exact HB.out)⟩
     · rw[if_neg c3]at H;have c3b0:decide (x6_1<(a0.size:Int))=false:=decide_eq_false c3;clear c3;simp only[Option.some.injEq,Prod.mk.injEq]at H;obtain⟨rfl,rfl,rfl⟩:=H;go_wp2
       go_ret3
       exact⟨_,by first|rfl|(simp[z0q,z0p] <;> rfl)|(simp[*,z0q,z0p] <;> rfl),by(with_reducible repeat(first|apply Kd.R_alloc|apply Kd.R_drewN|apply Kd.R_drew));exact HO_5.out,by repeat(first|(with_reducible first|exact HB.out|apply z04|apply z02|apply z05)|exact HB.out)⟩
def z3a.l0:Nat→List (S53)→Int→Int→Int→Int→Option (Int)
 |0,_,_,_,_,_=>none
 |k+1,x3,x6,x7,x16,x17=>if x17<x16 then(if 0≤x17 then(if x17<(x3.length:Int)then(if((z66 x3 x17).f1).toList=([40]:List UInt8)then(if((z66 x3 x17).f1).toList=([41]:List UInt8)then(z3a.l0 k x3 (mx 0 (wrap64 ((wrap64 (x6+1)) - 1))) (mx x7 (mx 0 (wrap64 ((wrap64 (x6+1)) - 1)))) x16 (wrap64 (x17+1)))else(z3a.l0 k x3 (wrap64 (x6+1)) (mx x7 (wrap64 (x6+1))) x16 (wrap64 (x17+1))))else(if((z66 x3 x17).f1).toList=([41]:List UInt8)then(z3a.l0 k x3 (mx 0 (wrap64 (x6 - 1))) (mx x7 (mx 0 (wrap64 (x6 - 1)))) x16 (wrap64 (x17+1)))else(z3a.l0 k x3 x6 (mx x7 x6) x16 (wrap64 (x17+1)))))else(none))else(none))else(some x7)

theorem zdz (c:UInt8) (n:Nat) (hn:n<256):((c.toNat:Int)=(n:Int))↔c=UInt8.ofNat n:=by
 have:=z1x c n hn;rw[←beq_iff_eq,this,beq_iff_eq]
theorem zcb:∀c:Fin 256,z16.f (c.val:Int)=some (signB (UInt8.ofNat c.val)):=by decide +kernel
theorem z8q (c:UInt8):z16.f (c.toNat:Int)=some (signB c):=by
 have:=zcb ⟨c.toNat,c.toNat_lt⟩
 simpa using this
def pB (b:Bool) (c:UInt8):Bool:=signB c&&!(b&&z1d c)
theorem z6e {p q:UInt8→Bool} (h:∀c,p c=q c):∀l,runN p l=runN q l
 |[]=>rfl
 |c::r=>by simp only[runN,h c,z6e h r]
theorem pB_true (c:UInt8):pB true c=lowB c:=by
 unfold pB signB
 cases hl:lowB c with
 |true =>
  cases hg:z1d c with
  |true=>have:=zat hg;rw[hl]at this;cases this
  |false=>rfl
 |false=>cases z1d c <;> rfl
theorem zau (c:UInt8):pB false c=signB c:=by unfold pB;simp
theorem z9t (s:ByteArray) (hs:s.size≤20000) (at_:Nat) (b:Bool):∀(d n k:Nat),s.size - (at_+n)=d→at_+n≤s.size→d<k→z0k.l0 k s (at_:Int) b (n:Int)=some ((n+runN (pB b) (s.data.toList.drop (at_+n)):Nat):Int)
 |0,n,k,hd,hn,hk=>by
  obtain⟨k,rfl⟩:∃m,k=m+1:=⟨k - 1,by omega⟩
  simp only[z0k.l0];rw[show wrap64 ((at_:Int)+(n:Int))=((at_+n:Nat):Int) by unfold wrap64;omega,if_neg (by omega),z82 _ _ _ (by rw[z0n];omega)];rfl
 |d+1,n,k,hd,hn,hk=>by
  obtain⟨k,rfl⟩:∃m,k=m+1:=⟨k - 1,by omega⟩
  have hlt:at_+n<s.size:=by omega
  have ih:=z9t s hs at_ b d (n+1) k (by omega) (by omega) (by omega);have hst:=z5y (pB b) s.data.toList (at_+n) (by rw[z0n];exact hlt);rw[z2k s _ hlt]at hst;simp only[z0k.l0];rw[show wrap64 ((at_:Int)+(n:Int))=((at_+n:Nat):Int) by unfold wrap64;omega,if_pos (by omega),if_pos (by omega),z5g s _ hlt,z8q];simp only[Option.bind_some];rw[show wrap64 ((n:Int)+1)=((n+1:Nat):Int) by unfold wrap64;omega,ih,hst]
  generalize hc:s[at_+n]=c
  have hstep:some (((n+1+runN (pB b) (s.data.toList.drop (at_+(n+1))):Nat):Int))=some (((n+(runN (pB b) (s.data.toList.drop (at_+n+1))+1):Nat):Int)):=by
   rw[show at_+(n+1)=at_+n+1 by omega];congr 1;omega
  cases hs1:signB c with
  |false =>
   have:pB b c=false:=by unfold pB;rw[hs1];rfl
   rw[this];simp
  |true =>
   rw[if_pos rfl]
   cases b with
   |false =>
    rw[if_neg (by simp)];have:pB false c=true:=by rw[zau];exact hs1
    rw[this,if_pos rfl];exact hstep
   |true =>
    rw[if_pos rfl]
    cases hg:z1d c with
    |true =>
     have h2:=hg;unfold z1d at h2;rw[decide_eq_true_eq]at h2;have:pB true c=false:=by unfold pB;rw[hs1,hg];rfl
     rw[if_pos (by omega),if_pos (by omega),this]
     simp
    |false =>
     have h2:=hg;unfold z1d at h2;rw[decide_eq_false_iff_not]at h2;have:pB true c=true:=by unfold pB;rw[hs1,hg];rfl
     rw[this,if_pos rfl]
     by_cases h3:((c.toNat:Int))≥65
     · rw[if_pos h3,if_neg (by omega)];exact hstep
     · rw[if_neg h3];exact hstep
theorem z7f (s:ByteArray) (hs:s.size≤20000) (a:Nat) (ha:a≤s.size) (b:Bool) (k:Nat) (hk:s.size<k):z0k.f k s (a:Int) b=some ((runN (pB b) (s.data.toList.drop a):Nat):Int):=by
 unfold z0k.f;have:=z9t s hs a b _ 0 k rfl (by omega) (by omega);rw[Nat.zero_add]at this;exact this
theorem zcw (s:ByteArray) (hs:s.size≤20000) (a:Nat) (ha:a<s.size) (k:Nat) (hk:5≤k):z0m.f k s (a:Int)=some (if twoB (s.data.toList.drop a)then 2 else if oneB s[a]then 1 else 0):=by
 obtain⟨k,rfl⟩:∃m,k=m+2:=⟨k - 2,by omega⟩
 have hj1:∀b:Bool,z0m.j1 (k+1) s (a:Int) b=some (if b then 2 else if oneB s[a]then 1 else 0):=fun b=>by
  simp only[z0m.j1]
  cases b with
  |true=>rfl
  |false =>
   rw[if_neg (by simp),if_pos (by omega),if_pos (by omega),z5g s a ha]
   generalize s[a]=c
   have h:∀n:Nat,n<256→(((c.toNat:Int)=(n:Int))↔c=UInt8.ofNat n):=fun n hn=>by
    have:=z1x c n hn;rw[←beq_iff_eq,this,beq_iff_eq]
   have e40:(c.toNat:Int)=40↔c=40:=h 40 (by omega);have e41:(c.toNat:Int)=41↔c=41:=h 41 (by omega);have e44:(c.toNat:Int)=44↔c=44:=h 44 (by omega);have e46:(c.toNat:Int)=46↔c=46:=h 46 (by omega);have e60:(c.toNat:Int)=60↔c=60:=h 60 (by omega);have e61:(c.toNat:Int)=61↔c=61:=h 61 (by omega);have e47:(c.toNat:Int)=47↔c=47:=h 47 (by omega);have e124:(c.toNat:Int)=124↔c=124:=h 124 (by omega);have e42:(c.toNat:Int)=42↔c=42:=h 42 (by omega);have e43:(c.toNat:Int)=43↔c=43:=h 43 (by omega);have e63:(c.toNat:Int)=63↔c=63:=h 63 (by omega);have e94:(c.toNat:Int)=94↔c=94:=h 94 (by omega);unfold oneB;have hall:∀c:UInt8,([40,41,44,46,60,61,47,124,42,43,63,94]:List UInt8).contains c=decide (c=40∨c=41∨c=44∨c=46∨c=60∨c=61∨c=47∨c=124∨c=42∨c=43∨c=63∨c=94):=fun c=>by
    rw[Bool.eq_iff_iff]
    simp
   rw[hall]
   by_cases q40:c=40
   · rw[if_pos (e40.2 q40)];simp[q40]
   rw[if_neg (fun z=>q40 (e40.1 z))]
   by_cases q41:c=41
   · rw[if_pos (e41.2 q41)];simp[q41]
   rw[if_neg (fun z=>q41 (e41.1 z))]
   by_cases q44:c=44
   · rw[if_pos (e44.2 q44)];simp[q44]
   rw[if_neg (fun z=>q44 (e44.1 z))]
   by_cases q46:c=46
   · rw[if_pos (e46.2 q46)];simp[q46]
   rw[if_neg (fun z=>q46 (e46.1 z))]
   by_cases q60:c=60
   · rw[if_pos (e60.2 q60)];simp[q60]
   rw[if_neg (fun z=>q60 (e60.1 z))]
   by_cases q61:c=61
   · rw[if_pos (e61.2 q61)];simp[q61]
   rw[if_neg (fun z=>q61 (e61.1 z))]
   by_cases q47:c=47
   · rw[if_pos (e47.2 q47)];simp[q47]
   rw[if_neg (fun z=>q47 (e47.1 z))]
   by_cases q124:c=124
   · rw[if_pos (e124.2 q124)];simp[q124]
   rw[if_neg (fun z=>q124 (e124.1 z))]
   by_cases q42:c=42
   · rw[if_pos (e42.2 q42)];simp[q42]
   rw[if_neg (fun z=>q42 (e42.1 z))]
   by_cases q43:c=43
   · rw[if_pos (e43.2 q43)];simp[q43]
   rw[if_neg (fun z=>q43 (e43.1 z))]
   by_cases q63:c=63
   · rw[if_pos (e63.2 q63)];simp[q63]
   rw[if_neg (fun z=>q63 (e63.1 z))]
   by_cases q94:c=94
   · rw[if_pos (e94.2 q94)];simp[q94]
   rw[if_neg (fun z=>q94 (e94.1 z))]
   simp[q40,q41,q44,q46,q60,q61,q47,q124,q42,q43,q63,q94]
 have hj0:∀z:ByteArray,z0m.j0 (k+2) s (a:Int) z=some (if(z.data.toList==[60,61]||z.data.toList==[33,61]||z.data.toList==[58,45]||z.data.toList==[63,45])then 2 else if oneB s[a]then 1 else 0):=fun z=>by
  simp only[z0m.j0,hj1,z2d]
  by_cases q0:z.data.toList=[60,61]
  · rw[if_pos q0];simp[q0]
  rw[if_neg q0]
  by_cases q1:z.data.toList=[33,61]
  · rw[if_pos q1];simp[q1]
  rw[if_neg q1]
  by_cases q2:z.data.toList=[58,45]
  · rw[if_pos q2];simp[q2]
  rw[if_neg q2];have h0:(z.data.toList==[60,61])=false:=beq_eq_false_iff_ne.2 q0;have h1:(z.data.toList==[33,61])=false:=beq_eq_false_iff_ne.2 q1;have h2:(z.data.toList==[58,45])=false:=beq_eq_false_iff_ne.2 q2;rw[h0,h1,h2]
  simp
 unfold z0m.f;rw[show wrap64 ((a:Int)+2)=((a+2:Nat):Int) by unfold wrap64;omega]
 by_cases h2:a+2≤s.size
 · rw[if_pos (by omega),if_pos (by omega),if_pos (by omega),hj0,Int.toNat_natCast,Int.toNat_natCast];have e:(s.extract a (a+2)).data.toList=(s.data.toList.drop a).take 2:=by
    rw[z3g,List.take_drop,Nat.add_comm]
   rw[e];rfl
 · rw[if_neg (by omega),hj0];have e:∀p:List UInt8,p.length=2→((s.data.toList.drop a).take 2==p)=false:=fun p hp=>by
    rw[beq_eq_false_iff_ne];intro h;have:=congrArg List.length h;rw[List.length_take,List.length_drop,z0n,hp]at this;omega
   have h3:twoB (s.data.toList.drop a)=false:=by
    unfold twoB;rw[e _ rfl,e _ rfl,e _ rfl,e _ rfl];rfl
   rw[h3];rfl
theorem za5 (s:ByteArray) (hs:s.size≤20000):∀(d i k:Nat),s.size - i=d→i≤s.size→d<k→z0c.l0 k s (i:Int)=some (decide (i+runN signB (s.data.toList.drop i)=s.size))
 |0,i,k,hd,hi,hk=>by
  obtain⟨k,rfl⟩:∃m,k=m+1:=⟨k - 1,by omega⟩
  simp only[z0c.l0];rw[if_neg (by omega),z82 _ _ _ (by rw[z0n];omega),decide_eq_true (by omega)]
 |d+1,i,k,hd,hi,hk=>by
  obtain⟨k,rfl⟩:∃m,k=m+1:=⟨k - 1,by omega⟩
  have hlt:i<s.size:=by omega
  have ih:=za5 s hs d (i+1) k (by omega) (by omega) (by omega);have hst:=z5y signB s.data.toList i (by rw[z0n];exact hlt);rw[z2k s _ hlt]at hst;simp only[z0c.l0];rw[if_pos (by omega),if_pos (by omega),z5g s _ hlt,z8q,hst];simp only[Option.bind_some]
  cases signB s[i]with
  |true =>
   rw[if_pos rfl,if_pos rfl,show wrap64 ((i:Int)+1)=((i+1:Nat):Int) by unfold wrap64;omega,ih]
   congr 1
   rw[Bool.eq_iff_iff,decide_eq_true_eq,decide_eq_true_eq];omega
  |false =>
   rw[if_neg (by simp),if_neg (by simp),decide_eq_false (by omega)]
theorem zeu (s:ByteArray) (hs:s.size≤20000) (k:Nat) (hk:s.size+2<k):z0c.f k s=some (varL s.data.toList):=by
 obtain⟨k,rfl⟩:∃m,k=m+1:=⟨k - 1,by omega⟩
 unfold z0c.f;have hT:z0c.j0 (k+1) s true=some false:=by simp only[z0c.j0,if_true]
 by_cases h0:s.size=0
 · rw[if_pos (by omega),hT];have:s.data.toList=[]:=List.eq_nil_of_length_eq_zero (by rw[z0n];exact h0);rw[this];rfl
 · have hp:0<s.size:=by omega
   obtain⟨r,hr⟩:=z8f hp;have hv:varL s.data.toList=(decide (s.size≤40)&&(z1d s[0]&&decide (runN signB s.data.toList=s.size))):=by
    rw[←z0n s,hr];rfl
   rw[if_neg (by omega),hv]
   by_cases h40:s.size≤40
   · rw[if_neg (by omega),if_pos (by omega),decide_eq_true h40,Bool.true_and];have hb:=z5g s 0 hp;rw[show((0:Nat):Int)=0 from rfl]at hb;rw[hb]
     cases hg:z1d s[0]with
     |true =>
      unfold z1d at hg;rw[decide_eq_true_eq]at hg;rw[if_neg (by omega),decide_eq_false (by omega)];simp only[z0c.j0,Bool.false_eq_true,if_false];have:=za5 s hs _ 0 k rfl (Nat.zero_le _) (by omega);rw[Nat.zero_add,List.drop_zero]at this;rw[show(0:Int)=((0:Nat):Int)from rfl,this,Bool.true_and]
     |false =>
      unfold z1d at hg;rw[decide_eq_false_iff_not]at hg;rw[Bool.false_and]
      by_cases h1:((s[0].toNat:Int))<65
      · rw[if_pos h1,hT]
      · rw[if_neg h1,decide_eq_true (by omega),hT]
   · rw[if_pos (by omega),hT,decide_eq_false h40,Bool.false_and]
theorem z6c (s:ByteArray) (a n:Nat):(s.extract a (a+n)).data.toList=(s.data.toList.drop a).take n:=by rw[z3g,List.take_drop]
theorem nm_at (s:ByteArray) (a n:Nat):nmL ((s.data.toList.drop a).take n)=nameB (s.extract a (a+n)):=by
 unfold nmL;rw[←z6c,z77]
theorem vl_at (s:ByteArray) (a n:Nat):vlL ((s.data.toList.drop a).take n)=((readR (s.extract a (a+n))).2.2.2==0):=by
 unfold vlL;rw[←z6c,z77]
def z7b (s:ByteArray) (a:Nat) (r:Option (Int × ByteArray × Int × Bool)) (o:Option (Nat × Nat)):Prop:=∃kk txt ok,r=some (kk,txt,(a:Int),ok)∧(∀k' n,o=some (k',n)→kk=(k':Int)∧txt=s.extract a (a+n)∧ok=true)∧(o=none→ok=false)
theorem z7b.yes {s:ByteArray} {a k n:Nat} {r:Option (Int × ByteArray × Int × Bool)} {ok:Bool} (h:r=some ((k:Int),s.extract a (a+n),(a:Int),ok)) {o:Option (Nat × Nat)} (ho:o=if ok then some (k,n)else none):z7b s a r o:=by
 refine⟨_,_,_,h,?_,?_⟩
 · intro k' n' he;subst ho
   cases ok with
   |true=>injection he with he;injection he with e1 e2;subst e1;subst e2;exact⟨rfl,rfl,rfl⟩
   |false=>cases he
 · intro he;subst ho
   cases ok with
   |true=>cases he
   |false=>rfl
theorem zbz (s:ByteArray) (a m:Nat) (y:Int) (hy:y=(m:Int)) (h1:a≤m) (h2:m≤s.size) {α:Type} (f:ByteArray→Option α) :
 (if 0≤(a:Int)then(if(a:Int)≤y then(if y≤(s.size:Int)then f (s.extract (a:Int).toNat (y:Int).toNat)else none)else none)else none)=f (s.extract a m):=by
 subst hy;rw[if_pos (by omega),if_pos (by omega),if_pos (by omega),Int.toNat_natCast,Int.toNat_natCast]
theorem ref_j2 (s:ByteArray) (hs:s.size≤20000) (a:Nat) (ha:a<s.size) (k:Nat) (hk:s.size+60≤k) (b:Bool) :
 z7b s a (z0a.j2 (k+1) s (a:Int) b) (if b then(if vlL ((s.data.toList.drop a).take (1+runN signB (s.data.toList.drop (a+1))))then some (3,1+runN signB (s.data.toList.drop (a+1)))else none)else if twoB (s.data.toList.drop a)then some (4,2)else if oneB s[a]then some (4,1)else none):=by
 simp only[z0a.j2]
 cases b with
 |true =>
  simp only[if_true];rw[show wrap64 ((a:Int)+1)=((a+1:Nat):Int) by unfold wrap64;omega,z7f s hs (a+1) (by omega) false k (by omega),z6e zau];have h1:=z3c signB (s.data.toList.drop (a+1));rw[List.length_drop,z0n]at h1
  generalize hn:runN signB (s.data.toList.drop (a+1))=n at h1
  rw[Option.bind_some];rw[zbz s a (a+(1+n)) _ (by unfold wrap64;omega) (by omega) (by omega) (fun z=>(z0u.f k z).bind fun bt152=>some ((3:Int),z,(a:Int),(bt152.2.2.2==0))),zb3 _ k (by omega),refR_eq,vl_at];rw[Option.bind_some];exact z7b.yes (k:=3) (n:=1+n) rfl rfl
 |false =>
  simp only[Bool.false_eq_true,if_false];have h2:twoB (s.data.toList.drop a)=true→a+2≤s.size:=fun ht=>by
   rcases Nat.lt_or_ge (a+1) s.size with h|h
   · omega
   · have hal:a<s.data.toList.length:=by rw[z0n];exact ha
     have:s.data.toList.drop (a+1)=[]:=List.drop_eq_nil_of_le (by rw[z0n];exact h);rw[List.drop_eq_getElem_cons hal,this]at ht
     simp[twoB]at ht
  have hm:∃m:Nat,z0m.f k s (a:Int)=some (m:Int)∧a+m≤s.size∧(if twoB (s.data.toList.drop a)then some (4,2)else if oneB s[a]then some (4,1)else none)=(if decide ((m:Int)>0)then some (4,m)else none:Option (Nat × Nat)):=by
   rw[zcw s hs a ha k (by omega)]
   cases ht:twoB (s.data.toList.drop a)with
   |true=>exact⟨2,rfl,h2 ht,rfl⟩
   |false =>
    cases ho:oneB s[a]with
    |true=>exact⟨1,rfl,by omega,rfl⟩
    |false=>exact⟨0,rfl,by omega,rfl⟩
  obtain⟨m,hm1,hm2,hm3⟩:=hm;rw[hm1,hm3];rw[Option.bind_some];rw[zbz s a (a+m) _ (by unfold wrap64;omega) (by omega) hm2 (fun z=>some ((4:Int),z,(a:Int),decide ((m:Int)>0)))];exact z7b.yes (k:=4) (n:=m) rfl rfl
theorem val_test (s:ByteArray) (hs:s.size≤20000) (a:Nat) (ha:a<s.size) {α:Type} (g:Bool→Option α) (c:UInt8) :
 (if(c.toNat:Int)=35 then g true else if(c.toNat:Int)≥48 then(if(c.toNat:Int)≤57 then g true else(if(c.toNat:Int)=45 then(if(wrap64 ((a:Int)+1))<(s.size:Int)then(if 0≤(wrap64 ((a:Int)+1))then(if(bt s (wrap64 ((a:Int)+1)))≥48 then g (decide ((bt s (wrap64 ((a:Int)+1)))≤57))else g false)else none)else g false)else g false))else(if(c.toNat:Int)=45 then(if(wrap64 ((a:Int)+1))<(s.size:Int)then(if 0≤(wrap64 ((a:Int)+1))then(if(bt s (wrap64 ((a:Int)+1)))≥48 then g (decide ((bt s (wrap64 ((a:Int)+1)))≤57))else g false)else none)else g false)else g false))=g (valB c (s.data.toList.drop (a+1))):=by
 have e35:((c.toNat:Int)=35)↔c=35:=zdz c 35 (by omega);have e45:((c.toNat:Int)=45)↔c=45:=zdz c 45 (by omega);have hm:(if(c.toNat:Int)=45 then(if(wrap64 ((a:Int)+1))<(s.size:Int)then(if 0≤(wrap64 ((a:Int)+1))then(if(bt s (wrap64 ((a:Int)+1)))≥48 then g (decide ((bt s (wrap64 ((a:Int)+1)))≤57))else g false)else none)else g false)else g false)=g (c==45&&z5m (s.data.toList.drop (a+1))):=by
  by_cases h45:c=45
  · rw[if_pos (e45.2 h45),show wrap64 ((a:Int)+1)=((a+1:Nat):Int) by unfold wrap64;omega];have:(c==45)=true:=beq_iff_eq.2 h45;rw[this,Bool.true_and]
    by_cases hz:a+1<s.size
    · have hal2:a+1<s.data.toList.length:=by rw[z0n];exact hz
      rw[if_pos (by omega),if_pos (by omega),z5g s _ hz,List.drop_eq_getElem_cons hal2,z2k s _ hz]
      generalize s[a+1]=d
      have hd:z5m (d::s.data.toList.drop (a+1+1))=z1i d:=rfl;rw[hd];unfold z1i
      by_cases h48:(d.toNat:Int)≥48
      · rw[if_pos h48];congr 1;rw[Bool.eq_iff_iff,decide_eq_true_eq,decide_eq_true_eq];omega
      · rw[if_neg h48];congr 1;symm;rw[decide_eq_false_iff_not];omega
    · rw[if_neg (by omega),List.drop_eq_nil_of_le (by rw[z0n];omega)];rfl
  · rw[if_neg (fun h=>h45 (e45.1 h))];have:(c==45)=false:=beq_eq_false_iff_ne.2 h45;rw[this,Bool.false_and]
 rw[hm];unfold valB
 by_cases h35:c=35
 · rw[if_pos (e35.2 h35)];have:(c==35)=true:=beq_iff_eq.2 h35;rw[this];rfl
 · rw[if_neg (fun h=>h35 (e35.1 h))];have:(c==35)=false:=beq_eq_false_iff_ne.2 h35;rw[this,Bool.false_or];unfold z1i
   by_cases h48:(c.toNat:Int)≥48
   · rw[if_pos h48]
     by_cases h57:(c.toNat:Int)≤57
     · rw[if_pos h57,decide_eq_true (by omega)];rfl
     · rw[if_neg h57,decide_eq_false (by omega),Bool.false_or]
   · rw[if_neg h48,decide_eq_false (by omega),Bool.false_or]
theorem zep (c:UInt8) {α:Type} (g:Bool→Option α):(if(c.toNat:Int)≥65 then g (decide ((c.toNat:Int)≤90))else g false)=g (z1d c):=by
 unfold z1d
 by_cases h:(c.toNat:Int)≥65
 · rw[if_pos h];congr 1;rw[Bool.eq_iff_iff,decide_eq_true_eq,decide_eq_true_eq];omega
 · rw[if_neg h];congr 1;symm;rw[decide_eq_false_iff_not];omega
theorem zez (c:UInt8) {α:Type} (g:Bool→Option α):(if(c.toNat:Int)≥97 then g (decide ((c.toNat:Int)≤122))else g false)=g (z1p c):=by
 unfold z1p
 by_cases h:(c.toNat:Int)≥97
 · rw[if_pos h];congr 1;rw[Bool.eq_iff_iff,decide_eq_true_eq,decide_eq_true_eq];omega
 · rw[if_neg h];congr 1;symm;rw[decide_eq_false_iff_not];omega
theorem ref_j1 (s:ByteArray) (hs:s.size≤20000) (a:Nat) (ha:a<s.size) (k:Nat) (hk:s.size+62≤k) :
 z7b s a (z0a.j1 (k+2) s (a:Int) (s[a].toNat:Int) (z1d s[a])) (if z1d s[a]then(if runN signB (s.data.toList.drop a)≤40 then some (2,runN signB (s.data.toList.drop a))else none)else if valB s[a] (s.data.toList.drop (a+1))then(if vlL ((s.data.toList.drop a).take (1+runN signB (s.data.toList.drop (a+1))))then some (3,1+runN signB (s.data.toList.drop (a+1)))else none)else if twoB (s.data.toList.drop a)then some (4,2)else if oneB s[a]then some (4,1)else none):=by
 have hal:a<s.data.toList.length:=by rw[z0n];exact ha
 rw[show k+2=(k+1)+1 from rfl];simp only[z0a.j1]
 cases hgr:z1d s[a]with
 |true =>
  simp only[if_true];have hst:=z5y signB s.data.toList a hal;have hd:s.data.toList.drop a=s[a]::s.data.toList.drop (a+1):=by rw[List.drop_eq_getElem_cons hal,z2k s a ha]
  rw[z2k s a ha,za1 hgr,if_pos rfl]at hst;have h1:=z3c signB (s.data.toList.drop a);rw[List.length_drop,z0n]at h1;have hvar:varL ((s.data.toList.drop a).take (runN signB (s.data.toList.drop a)))=decide (runN signB (s.data.toList.drop a)≤40):=by
   have h2:=z5n signB (s.data.toList.drop a);have h4:((s.data.toList.drop a).take (runN signB (s.data.toList.drop a))).length=runN signB (s.data.toList.drop a):=by rw[List.length_take,List.length_drop,z0n];omega
   have h5:(s.data.toList.drop a).take (runN signB (s.data.toList.drop a))=s[a]::(s.data.toList.drop (a+1)).take (runN signB (s.data.toList.drop (a+1))):=by rw[hst,hd,List.take_succ_cons]
   rw[h5]at h2 h4 ⊢;simp only[varL];rw[h4,h2,hgr]
   simp
  rw[z7f s hs a (by omega) false (k+1) (by omega),z6e zau]
  generalize hn:runN signB (s.data.toList.drop a)=n at h1 hvar
  rw[Option.bind_some];have hsz:(s.extract a (a+n)).size=n:=by rw[ByteArray.size_extract];omega
  rw[zbz s a (a+n) _ (by unfold wrap64;omega) (by omega) (by omega) (fun z=>(z0c.f (k+1) z).bind fun t150=>some ((2:Int),z,(a:Int),t150)),zeu _ (by omega) (k+1) (by omega),z6c,hvar];rw[Option.bind_some];refine z7b.yes (k:=2) (n:=n) rfl ?_
  by_cases h40:n≤40
  · rw[if_pos h40,decide_eq_true h40];rfl
  · rw[if_neg h40,decide_eq_false h40];rfl
 |false =>
  simp only[Bool.false_eq_true,if_false];rw[val_test s hs a ha (fun b=>z0a.j2 (k+1) s (a:Int) b) s[a]];exact ref_j2 s hs a ha k (by omega) _
theorem zd5 (s:ByteArray) (hs:s.size≤20000) (a:Nat) (ha:a<s.size) (k:Nat) (hk:s.size+70≤k):z7b s a (z0a.f k s (a:Int)) (nextN nmL vlL (s.data.toList.drop a)):=by
 obtain⟨k,rfl⟩:∃m,k=m+3:=⟨k - 3,by omega⟩
 have hal:a<s.data.toList.length:=by rw[z0n];exact ha
 have hd:s.data.toList.drop a=s[a]::s.data.toList.drop (a+1):=by rw[List.drop_eq_getElem_cons hal,z2k s a ha]
 have key:nextN nmL vlL (s.data.toList.drop a)=(if z1p s[a]then(if nmL ((s.data.toList.drop a).take (runN lowB (s.data.toList.drop a)))then some (1,runN lowB (s.data.toList.drop a))else none)else(if z1d s[a]then(if runN signB (s.data.toList.drop a)≤40 then some (2,runN signB (s.data.toList.drop a))else none)else if valB s[a] (s.data.toList.drop (a+1))then(if vlL ((s.data.toList.drop a).take (1+runN signB (s.data.toList.drop (a+1))))then some (3,1+runN signB (s.data.toList.drop (a+1)))else none)else if twoB (s.data.toList.drop a)then some (4,2)else if oneB s[a]then some (4,1)else none)):=by
  rw[hd];simp only[nextN]
 rw[key];unfold z0a.f;rw[if_pos (by omega),if_pos (by omega),z5g s a ha,zez s[a] (fun b=>z0a.j0 (k+3) s (a:Int) (s[a].toNat:Int) b),show k+3=(k+2)+1 from rfl];simp only[z0a.j0]
 cases hsm:z1p s[a]with
 |true =>
  simp only[if_true];have h1:=z3c lowB (s.data.toList.drop a);rw[List.length_drop,z0n]at h1;rw[z7f s hs a (by omega) true (k+2) (by omega),z6e pB_true]
  generalize hn:runN lowB (s.data.toList.drop a)=n at h1
  rw[Option.bind_some];rw[zbz s a (a+n) _ (by unfold wrap64;omega) (by omega) (by omega) (fun z=>(z1g.f z).bind fun t148=>some ((1:Int),z,(a:Int),t148)),nm_at];unfold z1g.f;rw[Option.bind_some];exact z7b.yes (k:=1) (n:=n) rfl rfl
 |false =>
  simp only[Bool.false_eq_true,if_false];rw[zep s[a] (fun b=>z0a.j1 (k+2) s (a:Int) (s[a].toNat:Int) b)];exact ref_j1 s hs a ha k (by omega)
def tokS2 (s:ByteArray) (x:Nat × Nat × Nat):S53:=⟨x.1,s.extract x.2.1 (x.2.1+x.2.2),x.2.1⟩
def z7e (s:ByteArray):List S53 × Int × Int:=match tokN nmL vlL 0 s.data.toList with
 |.error i=>([],(i:Int),2)
 |.ok l=>(l.map (tokS2 s),0,0)
theorem z5w (s:ByteArray) (hs:s.size≤20000):∀(d a:Nat) (pre:List (Nat × Nat × Nat)) (k:Nat),s.size - a≤d→a≤s.size→z5d s.data.toList a pre→pre.length≤a→2 * d+s.size+72≤k →
 z0f.l0 k s (pre.map (tokS2 s)) (a:Int)=some (z7e s)
 |d,a,pre,k,hd,ha,hi,hp,hk=>by
  obtain⟨k,rfl⟩:∃m,k=m+2:=⟨k - 2,by omega⟩
  simp only[z0f.l0]
  by_cases hlt:a<s.size
  · have hal:a<s.data.toList.length:=by rw[z0n];exact hlt
    have hg:=z2k s a hlt hal;have e1:(if(bt s (a:Int))=32 then z0f.j1 (k+1) s (pre.map (tokS2 s)) (a:Int) true else if(bt s (a:Int))=9 then z0f.j1 (k+1) s (pre.map (tokS2 s)) (a:Int) true else z0f.j1 (k+1) s (pre.map (tokS2 s)) (a:Int) ((bt s (a:Int))==10))=z0f.j1 (k+1) s (pre.map (tokS2 s)) (a:Int) (z2m s[a]):=by
     rw[z5g s a hlt]
     generalize s[a]=c
     have e32:((c.toNat:Int)=32)↔c=32:=zdz c 32 (by omega);have e9:((c.toNat:Int)=9)↔c=9:=zdz c 9 (by omega);have e10:((c.toNat:Int)==10)=(c==10):=z1x c 10 (by omega);unfold z2m
     by_cases h32:c=32
     · rw[if_pos (e32.2 h32)];simp[h32]
     · rw[if_neg (fun h=>h32 (e32.1 h))]
       by_cases h9:c=9
       · rw[if_pos (e9.2 h9)];simp[h9]
       · rw[if_neg (fun h=>h9 (e9.1 h)),e10,beq_eq_false_iff_ne.2 h32,beq_eq_false_iff_ne.2 h9,Bool.false_or,Bool.false_or]
    rw[if_pos (by omega),if_pos (by omega),e1];simp only[z0f.j1]
    cases hb:z2m s[a]with
    |true =>
     rw[if_pos rfl,show wrap64 ((a:Int)+1)=((a+1:Nat):Int) by unfold wrap64;omega];obtain⟨d,rfl⟩:∃m,d=m+1:=⟨d - 1,by omega⟩
     exact z5w s hs d (a+1) pre k (by omega) (by omega) (zbj hi hal (by rw[hg];exact hb)) (by omega) (by omega)
    |false =>
     rw[if_neg (by simp)];obtain⟨kk,txt,ok,hn,hcase,hcase2⟩:=zd5 s hs a hlt k (by omega);rw[hn];simp only[Option.bind_some]
     cases hm:nextN nmL vlL (s.data.toList.drop a)with
     |none =>
      rw[hcase2 hm,if_neg (by simp)];have:=zbc hi hal (by rw[hg];exact hb) hm;unfold z7e;rw[this]
     |some y =>
      obtain⟨k',n⟩:=y;obtain⟨h1,h2,h3⟩:=hcase k' n hm;have hpos:=z4k hm;rw[List.length_drop,z0n]at hpos;have hsz:txt.size=n:=by rw[h2,ByteArray.size_extract];omega
      rw[h3,if_pos rfl,if_pos (by rw[List.length_map];omega),hsz,show wrap64 ((a:Int)+(n:Int))=((a+n:Nat):Int) by unfold wrap64;omega];have e2:pre.map (tokS2 s)++[(⟨kk,txt,(a:Int)⟩:S53)]=(pre++[(k',a,n)]).map (tokS2 s):=by
       rw[List.map_append,h1,h2];rfl
      rw[e2];obtain⟨d,rfl⟩:∃m,d=m+1:=⟨d - 1,by omega⟩
      exact z5w s hs d (a+n) _ k (by omega) (by omega) (zdy hi hal (by rw[hg];exact hb) k' n hm) (by rw[List.length_append];simp;omega) (by omega)
  · rw[if_neg (by omega)];have:=zfd hi (by rw[z0n];omega);unfold z7e;rw[this]
theorem z6x (s:ByteArray) (hs:s.size≤20000) (k:Nat) (hk:3 * s.size+72≤k):z0f.f k s=some (z7e s):=by
 unfold z0f.f;rw[if_neg (by omega)];exact z5w s hs s.size 0 [] k (by omega) (Nat.zero_le _) (zbg _) (Nat.le_refl _) (by omega)

theorem paths_l0 (l:List StS) (hl:l.length≤100):∀(d i k:Nat),l.length - i=d→i≤l.length→d<k→z0z.l0 k l l (l.length:Int) (i:Int)=some true:=by
 intro d
 induction d with
 |zero =>
  intro i k hd hi hk;obtain⟨k,rfl⟩:∃j,k=j+1:=⟨k - 1,by omega⟩
  simp only[z0z.l0];rw[if_neg (by omega)]
 |succ d ih =>
  intro i k hd hi hk;obtain⟨k,rfl⟩:∃j,k=j+1:=⟨k - 1,by omega⟩
  simp only[z0z.l0];rw[if_pos (by omega),if_pos (by omega),if_pos (by omega),if_pos (by omega),if_neg (by simp),show wrap64 ((i:Int)+1)=((i+1:Nat):Int) by unfold wrap64;omega];exact ih (i+1) k (by omega) (by omega) (by omega)
theorem zeo (l:List StS) (hl:l.length≤100):z0z.f 200 l l=some true:=by
 unfold z0z.f;rw[if_pos rfl];exact paths_l0 l hl _ 0 200 rfl (Nat.zero_le _) (by omega)

theorem row_at {α:Type} {d:Kd α} {W:World} {A:Option Addr} {xs:List α} (h:Kd.C d W A xs.length xs) (z:α) (hs:0<d.sz) (i:Nat) (hi:i<xs.length) :
 ∃bk o cs,A=some ⟨bk,o,none⟩∧cs.length=d.sz∧d.K W (xs.getD i z) cs∧W.rangeAt bk (o+i * d.sz) cs:=by
 obtain⟨⟨bk,o,sub⟩,cs,rfl,hl,hK,hc⟩:=Kd.C_get h z (i:Int) (by omega) (by omega);rw[Int.toNat_natCast]at hK hc;obtain⟨ad,he,hh⟩:=h.2.2 (by omega);injection he with he
 subst he;obtain⟨c0,hl0,_,hc0⟩:=hh 0 xs[0] (List.getElem?_eq_getElem (by omega));have h0:=hc0 0 c0[0] (List.getElem?_eq_getElem (by omega));rw[Nat.zero_mul]at h0;have hsub:sub=none:=by
  cases sub with
  |none=>rfl
  |some s =>
   exfalso
   unfold Addr.add at h0
   revert h0
   unfold World.cell?
   simp
   split <;> simp
 subst hsub;refine⟨bk,o,cs,rfl,hl,hK,fun j v hj=>?_⟩;have:=hc j v hj;rw[Addr.add_mid]at this;rw[←Nat.add_assoc]at this;exact this
theorem za0:∀(vs:List Value) (cs:Array Value) (i:Nat),i+vs.length=cs.size→(setsA cs i vs).toList=cs.toList.take i++vs
 |[],cs,i,h=>by
  simp only[setsA,List.append_nil];rw[List.take_of_length_le (by rw[List.length_nil]at h;simp;omega)]
 |v::vs,cs,i,h=>by
  simp only[setsA];rw[za0 vs _ (i+1) (by simp at h ⊢;omega)];have hi:i<cs.size:=by simp at h;omega
  have hi2:i<cs.toList.length:=by simpa using hi
  rw[Array.toList_setIfInBounds,List.take_set,List.take_succ_eq_append_getElem hi2];have hl:(cs.toList.take i).length=i:=by rw[List.length_take];omega
  rw[List.set_append_right _ _ (by omega),hl]
  simp
theorem zcf {vs:List Value} {cs:Array Value} (h:vs.length=cs.size):setsA cs 0 vs=vs.toArray:=by
 have:=za0 vs cs 0 (by omega);rw[List.take_zero,List.nil_append]at this;apply Array.toList_inj.1;rw[this]
end Go.Proofs.YthebhbomlllpeaaGreatDoor.X
namespace Go.Proofs.YthebhbomlllpeaaGreatDoor.X
open Go.RowKit Go.Proofs.YthebhbomlllpeaaGreatDoorW.PrintWords Go.Proofs.YthebhbomlllpeaaGreatDoorW.PrintLast Go.Proofs.YthebhbomlllpeaaGreatDoorW.PrintMore
attribute [local go_sem high] eqA60
def z7p (x:RlS):Prop:=x.f0.f1.length≤1000∧x.f2.length≤1000∧∀y ∈ x.f2,y.f1.f1.length≤1000∧y.f6.length≤100
def same6.T:Bool × List (List Nat × List Nat):=(true,[([],[]),([0],[0]),([],[]),([1,2],[1,2]),([3],[3]),([],[]),([5],[5]),([],[]),([6,7],[6,7]),([8],[8]),([],[]),([],[]),([10,4,0,1,2,3,4,10,11],[4,10]),([11,9,12,0,1,2,3,4,5,6,7,8,9,10,11,12],[9,11])])
def same6.B:List Nat:=[0,1,0,7,15,0,32,0,224,480,0,0,3103,8191]
theorem same6.tab:rtab .any (opsOf Tryz.f31 6)=same6.T:=by kernel_rfl
theorem same6.bits:z4j same6.T.2 same6.B=true:=by kernel_rfl
def same12.T:Bool × List (List Nat × List Nat):=(true,[([],[]),([0],[0]),([],[]),([1,2],[1,2]),([3],[3]),([],[]),([5],[5]),([],[]),([6,7],[6,7]),([8],[8]),([],[]),([],[]),([10,4,0,1,2,3,4,10,11],[4,10]),([11,9,12,0,1,2,3,4,5,6,7,8,9,10,11,12],[9,11])])
def same12.B:List Nat:=[0,1,0,7,15,0,32,0,224,480,0,0,3103,8191]
theorem same12.tab:rtab .any (opsOf Tryz.f31 12)=same12.T:=by kernel_rfl
theorem same12.bits:z4j same12.T.2 same12.B=true:=by kernel_rfl
set_option maxHeartbeats 16000000 in
set_option maxRecDepth 100000 in
theorem zes (rs:List RlS) (pn:ByteArray) (pa:List TmS) (hrs:rs.length≤1000) (hok:∀x ∈ rs,z7p x) (hpa:pa.length≤1000) (A B A1 B1:Option Addr) (c d c1 d1:Nat) (hc1:pa.length≤c1) (hd1:pa.length≤d1) (w:World)
 (hA:Kd.C k33 w A rs.length rs) (hB:Kd.C k33 w B rs.length rs) (hA1:Kd.C k60 w A1 pa.length pa) (hB1:Kd.C k60 w B1 pa.length pa) :
 Calls Tryz.prog 31 #[.agg #[.slice A rs.length c,.string pn,.slice A1 pa.length c1],.agg #[.slice B rs.length d,.string pn,.slice B1 pa.length d1]] w fun e w'=>e=.returned (.bool true)∧Below w.heap.size w w':=by
 obtain⟨n2,en2⟩:∃n,w.heap.size=n:=⟨_,rfl⟩
 obtain⟨W1,hW1⟩:∃W,w.alloc (.cells #[.slice A rs.length c,.string pn,.slice A1 pa.length c1] 27)=W:=⟨_,rfl⟩
 obtain⟨W,hW⟩:∃W,W1.alloc (.cells #[.slice B rs.length d,.string pn,.slice B1 pa.length d1] 27)=W:=⟨_,rfl⟩
 have hsz:W1.heap.size=n2+1:=by rw[←hW1];simp[en2]
 have hBW1:Below w.heap.size w W1:=hW1 ▸ z04 (Below.refl _ _) _;have hBW:Below w.heap.size w W:=hW ▸ z04 hBW1 _;have hN2:=z1h w (.cells #[.slice A rs.length c,.string pn,.slice A1 pa.length c1] 27);rw[en2,hW1]at hN2;have hN2:=z06 hN2 (.cells #[.slice B rs.length d,.string pn,.slice B1 pa.length d1] 27);have hN3:=z1h W1 (.cells #[.slice B rs.length d,.string pn,.slice B1 pa.length d1] 27);rw[hW]at hN2 hN3;rw[hsz]at hN3;have HN:=z00.mk (And.intro hN2 hN3);have HC:=z00.mk (And.intro (Kd.C_below hA hBW) (Kd.C_below hB hBW));have HBW:=z00.mk hBW;have HAT0:=z00.mk (z0o.calls 1100 pn A1 c1 pa pn B1 d1 pa true W (Kd.C_below hA1 hBW) hc1 (Kd.C_below hB1 hBW) hd1 (z7n pn pa hpa));have HOK:=z00.mk (And.intro hrs hok);have u0:W.cell? ⟨n2,0,none⟩=some (.slice A rs.length c):=(z01 hN2 0).trans rfl;have u1:W.cell? ⟨n2,1,none⟩=some (.string pn):=(z01 hN2 1).trans rfl;have u2:W.cell? ⟨n2,2,none⟩=some (.slice A1 pa.length c1):=(z01 hN2 2).trans rfl;have v0:W.cell? ⟨n2+1,0,none⟩=some (.slice B rs.length d):=(z01 hN3 0).trans rfl;have v1:W.cell? ⟨n2+1,1,none⟩=some (.string pn):=(z01 hN3 1).trans rfl;have v2:W.cell? ⟨n2+1,2,none⟩=some (.slice B1 pa.length d1):=(z01 hN3 2).trans rfl;have z0:((rs.length:Int) !=(rs.length:Int))=false:=bne_self_eq_false _;clear hA hB hA1 hB1 hBW hBW1 hN2 hN3 hrs hok;go_enter Tryz.func31,Tryz.ntmps31
 go_wp2_with fail
 refine HAT0.out.mono ?_;rintro e w1 ⟨rfl,hb⟩;have HB1:=z00.mk hb;have u3:=z0r hb u0;clear hb u0 u1 u2 v0 v1 v2 hW hW1 hsz;go_wp2
 go_loopg [29] (rs.length+1) (fun kq v29 w'=>∃i:Nat,v29=.int .i64 i∧kq+i=rs.length+1∧i≤rs.length∧z00 (Below W.heap.size W w'))
 case atStart=>exact⟨0,rfl,by omega,by omega,HB1⟩
 case round =>
  clear HB1 u3;obtain⟨i,rfl,hk,hi,HB⟩:=hrel
  by_cases hlt:i<rs.length
  · have y1:decide ((i:Int)<(rs.length:Int))=true:=decide_eq_true (by omega);have y2:decide (i<rs.length)=true:=decide_eq_true hlt;obtain⟨k1,rfl⟩:∃k1,gk=k1+1:=⟨gk - 1,by omega⟩
    have p0:(0≤(i:Int))=True:=eq_true (by omega);have p1:((i:Int)<(rs.length:Int))=True:=eq_true (by omega);obtain⟨ad,X1,x1,X3,x3,rfl,e0,e1,e2,e3,l1,m1,l3,m3⟩:=zfa HC.out.1 (i:Int) (by omega) (by omega);obtain⟨bd,X1',x1',X3',x3',rfl,d0,d1,d2,d3,l1',m1',l3',m3'⟩:=zfa HC.out.2 (i:Int) (by omega) (by omega);have hr:z64 rs (i:Int)=rs[i]:=by
     show rs.getD (Int.toNat (i:Int)) _=_;rw[Int.toNat_natCast,List.getD_eq_getElem?_getD,List.getElem?_eq_getElem hlt];rfl
    have hOK:=HOK.out.2 rs[i] (List.getElem_mem hlt);obtain⟨x,hx⟩:∃x,rs[i]=x:=⟨_,rfl⟩
    simp only[hr,hx,Int.toNat_natCast]at e0 e1 e2 e3 l1 m1 l3 m3 d0 d1 d2 d3 l1' m1' l3' m3';rw[hx]at hOK;have HX:=z00.mk (And.intro hOK (And.intro m3 m3'));have HAT:=z00.mk (fun(V:World) (h:Below W.heap.size W V)=>z0o.calls 1100 x.f0.f0 X1 x1 x.f0.f1 x.f0.f0 X1' x1' x.f0.f1 true V (Kd.C_below m1 h) l1 (Kd.C_below m1' h) l1' (z7n _ _ hOK.1));have hP:W.cell? ⟨n2,0,none⟩=some (.slice (some ad) rs.length c):=(z01 HN.out.1 0).trans rfl;have hQ:W.cell? ⟨n2+1,0,none⟩=some (.slice (some bd) rs.length d):=(z01 HN.out.2 0).trans rfl;have fP:=z0r HB.out hP;have fQ:=z0r HB.out hQ;replace e0:=z0r HB.out e0;replace e1:=z0r HB.out e1;replace e2:=z0r HB.out e2;replace e3:=z0r HB.out e3;replace d0:=z0r HB.out d0;replace d1:=z0r HB.out d1;replace d2:=z0r HB.out d2;replace d3:=z0r HB.out d3;clear hP hQ hr hx l1 m1 l3 m3 l1' m1' l3' m3' hOK
    go_wp2_with fail
    refine z78 (n:=14) (S:=fun w'=>Below wr.heap.size wr w') (ds:=[]) #[false,false,false,false,false,false,false,false,false,false,false,false,false,false] (by kernel_rfl) rfl rfl (z05 (Below.refl _ _)) (fun hHeld=>?_);refine z4a same6.tab same6.bits (fun HT_ HW_=>?_)
    generalize wr.drew=V at hHeld ⊢
    refine pure_ (i:=0) (N:=some 32) (v:=?_) (a':=?_) #[true,false,false,false,false,false,false,false,false,false,false,false,false,false] rfl rfl (z2l HT_.out (by kernel_rfl)) (fun _ _ _ h=>h) (Or.inl ⟨by rfl,?_⟩) ?_ ?_
    rotate_left
    · intro w'
      go_simp
      with_reducible rfl
    rotate_left
    · simp only[Act.put,List.setIfInBounds_toArray,List.set_cons_zero,List.set_cons_succ,i64_w,i32_w];rfl
    refine pure_ (i:=2) (N:=some 34) (v:=?_) (a':=?_) #[true,false,true,false,false,false,false,false,false,false,false,false,false,false] rfl rfl (z2l HT_.out (by kernel_rfl)) (fun _ _ _ h=>h) (Or.inl ⟨by rfl,?_⟩) ?_ ?_
    rotate_left
    · intro w'
      go_simp
      with_reducible rfl
    rotate_left
    · simp only[Act.put,List.setIfInBounds_toArray,List.set_cons_zero,List.set_cons_succ,i64_w,i32_w];rfl
    refine pure_ (i:=5) (N:=some 37) (v:=?_) (a':=?_) #[true,false,true,false,false,true,false,false,false,false,false,false,false,false] rfl rfl (z2l HT_.out (by kernel_rfl)) (fun _ _ _ h=>h) (Or.inl ⟨by rfl,?_⟩) ?_ ?_
    rotate_left
    · intro w'
      go_simp
      with_reducible rfl
    rotate_left
    · simp only[Act.put,List.setIfInBounds_toArray,List.set_cons_zero,List.set_cons_succ,i64_w,i32_w];rfl
    refine pure_ (i:=7) (N:=some 39) (v:=?_) (a':=?_) #[true,false,true,false,false,true,false,true,false,false,false,false,false,false] rfl rfl (z2l HT_.out (by kernel_rfl)) (fun _ _ _ h=>h) (Or.inl ⟨by rfl,?_⟩) ?_ ?_
    rotate_left
    · intro w'
      go_simp
      with_reducible rfl
    rotate_left
    · simp only[Act.put,List.setIfInBounds_toArray,List.set_cons_zero,List.set_cons_succ,i64_w,i32_w];rfl
    refine take_ (i:=1) (N:=some 33) (v:=?_) (a':=?_) #[true,true,true,false,false,true,false,true,false,false,false,false,false,false] rfl rfl (z2v HT_.out HW_.out (by kernel_rfl)) (fun _ _ _ h=>h) (Or.inl ⟨by rfl,?_⟩) hHeld ?_ ?_
    rotate_left
    · intro w' sS;have f0:=z0r sS fP;clear sS
      go_simp
      with_reducible rfl
    rotate_left
    · simp only[Act.put,List.setIfInBounds_toArray,List.set_cons_zero,List.set_cons_succ,i64_w,i32_w];rfl
    refine pure_ (i:=3) (N:=some 35) (v:=?_) (a':=?_) #[true,true,true,true,false,true,false,true,false,false,false,false,false,false] rfl rfl (z2l HT_.out (by kernel_rfl)) (fun _ _ _ h=>h) (Or.inl ⟨by rfl,?_⟩) ?_ ?_
    rotate_left
    · intro w'
      go_simp
      with_reducible rfl
    rotate_left
    · simp only[Act.put,List.setIfInBounds_toArray,List.set_cons_zero,List.set_cons_succ,i64_w,i32_w];rfl
    refine take_ (i:=4) (N:=some 36) (v:=?_) (a':=?_) #[true,true,true,true,true,true,false,true,false,false,false,false,false,false] rfl rfl (z2v HT_.out HW_.out (by kernel_rfl)) (fun _ _ _ h=>h) (Or.inl ⟨by rfl,?_⟩) hHeld ?_ ?_
    rotate_left
    · intro w' sS;have f0:=z0r sS e0;have f1:=z0r sS e1;have f2:=z0r sS e2;have f3:=z0r sS e3;clear sS
      go_simp
      with_reducible rfl
    rotate_left
    · simp only[Act.put,List.setIfInBounds_toArray,List.set_cons_zero,List.set_cons_succ,i64_w,i32_w];rfl
    refine take_ (i:=6) (N:=some 38) (v:=?_) (a':=?_) #[true,true,true,true,true,true,true,true,false,false,false,false,false,false] rfl rfl (z2v HT_.out HW_.out (by kernel_rfl)) (fun _ _ _ h=>h) (Or.inl ⟨by rfl,?_⟩) hHeld ?_ ?_
    rotate_left
    · intro w' sS;have f0:=z0r sS fQ;clear sS
      go_simp
      with_reducible rfl
    rotate_left
    · simp only[Act.put,List.setIfInBounds_toArray,List.set_cons_zero,List.set_cons_succ,i64_w,i32_w];rfl
    refine pure_ (i:=8) (N:=some 40) (v:=?_) (a':=?_) #[true,true,true,true,true,true,true,true,true,false,false,false,false,false] rfl rfl (z2l HT_.out (by kernel_rfl)) (fun _ _ _ h=>h) (Or.inl ⟨by rfl,?_⟩) ?_ ?_
    rotate_left
    · intro w'
      go_simp
      with_reducible rfl
    rotate_left
    · simp only[Act.put,List.setIfInBounds_toArray,List.set_cons_zero,List.set_cons_succ,i64_w,i32_w];rfl
    refine take_ (i:=9) (N:=some 41) (v:=?_) (a':=?_) #[true,true,true,true,true,true,true,true,true,true,false,false,false,false] rfl rfl (z2v HT_.out HW_.out (by kernel_rfl)) (fun _ _ _ h=>h) (Or.inl ⟨by rfl,?_⟩) hHeld ?_ ?_
    rotate_left
    · intro w' sS;have f0:=z0r sS d0;have f1:=z0r sS d1;have f2:=z0r sS d2;have f3:=z0r sS d3;clear sS
      go_simp
      with_reducible rfl
    rotate_left
    · simp only[Act.put,List.setIfInBounds_toArray,List.set_cons_zero,List.set_cons_succ,i64_w,i32_w];rfl
    refine join_ (σ:=Nat × Nat) 2 #[true,true,true,true,true,true,true,true,true,true,true,true,false,false] (fun s_=>[(6,.pointer (some ⟨s_.1,0,none⟩)),(7,.pointer (some ⟨s_.2,0,none⟩))]) (fun s_ w'=>Below wr.heap.size wr w'∧w'.heap[s_.1]?=some (.cells #[.string ⟨#[]⟩,.slice none 0 0,.int .i64 0,.slice none 0 0] 33 (0,0))∧w'.heap[s_.2]?=some (.cells #[.string ⟨#[]⟩,.slice none 0 0,.int .i64 0,.slice none 0 0] 33 (0,0))∧wr.heap.size≤s_.1∧wr.heap.size≤s_.2∧s_.1≠s_.2) ?_ ?_
    rotate_left
    · intro hCont;refine two_ (i:=10) (j:=11) (Ni:=some 6) (Nj:=some 7) #[true,true,true,true,true,true,true,true,true,true,true,false,false,false] #[true,true,true,true,true,true,true,true,true,true,false,true,false,false] rfl rfl rfl rfl (two_of HT_.out (by kernel_rfl)) (by decide) (by decide) (fun K hK=>?_) (fun K hK=>?_)
      · refine z59 ?hg (N:=6) ?hd (cs:=#[.string ⟨#[]⟩,.slice none 0 0,.int .i64 0,.slice none 0 0]) (t:=33) ?hr ?_;(case hd=>rfl);(case hg=>rfl);(case hr=>first|(go_simp;done)|(go_simp;rfl));intro x hx w1 hbx hb1;have hB1:=z0g hHeld hb1;have hgx:wr.heap.size≤x:=by rw[hx];exact hHeld.size
        refine hK.out _ _ hB1 (fun hHeld=>?_);clear hK K;refine norm_ (a':=?_) ?_ ?_
        rotate_left
        · show Act.put _ (some 6) _=_;simp only[Act.put,List.setIfInBounds_toArray,List.set_cons_zero,List.set_cons_succ,i64_w,i32_w];rfl
        refine one_ (i:=11) (N:=some 7) #[true,true,true,true,true,true,true,true,true,true,true,true,false,false] rfl rfl (z2w HT_.out (by kernel_rfl)) (by decide) (fun K hK=>?_);refine z59 ?hg (N:=7) ?hd (cs:=#[.string ⟨#[]⟩,.slice none 0 0,.int .i64 0,.slice none 0 0]) (t:=33) ?hr ?_;(case hd=>rfl);(case hg=>rfl);(case hr=>first|(go_simp;done)|(go_simp;rfl));intro y hy w2 hby hb2;have hB2:=z0g hHeld hb2;have hgy:wr.heap.size≤y:=by rw[hy];exact hHeld.size
        have hne:x≠y:=by rw[hy];exact Nat.ne_of_lt (z1u hbx)
        have hbx2:=z0h hbx hb2;refine hK.out _ _ hB2 (fun hHeld=>?_);clear hK K;refine norm_ (a':=?_) ?_ ?_
        rotate_left
        · show Act.put _ (some 7) _=_;simp only[Act.put,List.setIfInBounds_toArray,List.set_cons_zero,List.set_cons_succ,i64_w,i32_w];rfl
        exact norm_ zA0s (hCont (x,y) _ ⟨hHeld,hbx2,hby,hgx,hgy,hne⟩)
      · refine z59 ?hg (N:=7) ?hd (cs:=#[.string ⟨#[]⟩,.slice none 0 0,.int .i64 0,.slice none 0 0]) (t:=33) ?hr ?_;(case hd=>rfl);(case hg=>rfl);(case hr=>first|(go_simp;done)|(go_simp;rfl));intro x hx w1 hbx hb1;have hB1:=z0g hHeld hb1;have hgx:wr.heap.size≤x:=by rw[hx];exact hHeld.size
        refine hK.out _ _ hB1 (fun hHeld=>?_);clear hK K;refine norm_ (a':=?_) ?_ ?_
        rotate_left
        · show Act.put _ (some 7) _=_;simp only[Act.put,List.setIfInBounds_toArray,List.set_cons_zero,List.set_cons_succ,i64_w,i32_w];rfl
        refine one_ (i:=10) (N:=some 6) #[true,true,true,true,true,true,true,true,true,true,true,true,false,false] rfl rfl (z2w HT_.out (by kernel_rfl)) (by decide) (fun K hK=>?_);refine z59 ?hg (N:=6) ?hd (cs:=#[.string ⟨#[]⟩,.slice none 0 0,.int .i64 0,.slice none 0 0]) (t:=33) ?hr ?_;(case hd=>rfl);(case hg=>rfl);(case hr=>first|(go_simp;done)|(go_simp;rfl));intro y hy w2 hby hb2;have hB2:=z0g hHeld hb2;have hgy:wr.heap.size≤y:=by rw[hy];exact hHeld.size
        have hne:x≠y:=by rw[hy];exact Nat.ne_of_lt (z1u hbx)
        have hbx2:=z0h hbx hb2;refine hK.out _ _ hB2 (fun hHeld=>?_);clear hK K;refine norm_ (a':=?_) ?_ ?_
        rotate_left
        · show Act.put _ (some 6) _=_;simp only[Act.put,List.setIfInBounds_toArray,List.set_cons_zero,List.set_cons_succ,i64_w,i32_w];rfl
        exact norm_ zA0s (hCont (y,x) _ ⟨hHeld,hby,hbx2,hgy,hgx,hne.symm⟩)
    rintro⟨g6,g7⟩ V2 ⟨hHeld,hb6,hb7,hg6,hg7,hne⟩;simp only at hb6 hb7 hg6 hg7 hne;refine norm_ (a':=?_) ?_ ?_
    rotate_left
    · simp only[z73,Act.put,List.setIfInBounds_toArray,List.set_cons_zero,List.set_cons_succ];rfl
    refine one_ (i:=12) (N:=none) #[true,true,true,true,true,true,true,true,true,true,true,true,true,false] rfl rfl (z2w HT_.out (by kernel_rfl)) (by decide) (fun K hK=>?_);have k0:V2.cell? ⟨g6,0,none⟩=some (.string ⟨#[]⟩):=(z01 hb6 0).trans rfl;have q0:=z03 hb6 0;have k1:V2.cell? ⟨g6,1,none⟩=some (.slice none 0 0):=(z01 hb6 1).trans rfl;have q1:=z03 hb6 1;have k2:V2.cell? ⟨g6,2,none⟩=some (.int .i64 0):=(z01 hb6 2).trans rfl;have q2:=z03 hb6 2;have k3:V2.cell? ⟨g6,3,none⟩=some (.slice none 0 0):=(z01 hb6 3).trans rfl;have q3:=z03 hb6 3;refine skip_ (w1:=sets V2 g6 0 [.string x.f0.f0,.slice X1 x.f0.f1.length x1,.int .i64 x.f1,.slice X3 x.f2.length x3]) (by rfl) rfl ?_ ?_
    · go_simp
      try rfl
    have hS:=z2r (n:=g6) hg6 [.string x.f0.f0,.slice X1 x.f0.f1.length x1,.int .i64 x.f1,.slice X3 x.f2.length x3] 0 _ hHeld;clear k0 q0 k1 q1 k2 q2 k3 q3;have hb6':=z2z [.string x.f0.f0,.slice X1 x.f0.f1.length x1,.int .i64 x.f1,.slice X3 x.f2.length x3] 0 V2 #[.string ⟨#[]⟩,.slice none 0 0,.int .i64 0,.slice none 0 0] hb6;have hb7':=z2h hne.symm [.string x.f0.f0,.slice X1 x.f0.f1.length x1,.int .i64 x.f1,.slice X3 x.f2.length x3] 0 V2 hb7;replace hb6':(sets V2 g6 0 [.string x.f0.f0,.slice X1 x.f0.f1.length x1,.int .i64 x.f1,.slice X3 x.f2.length x3]).heap[g6]?=some (.cells #[.string x.f0.f0,.slice X1 x.f0.f1.length x1,.int .i64 x.f1,.slice X3 x.f2.length x3] 33 (0,0)):=hb6';refine hK.out _ _ hS (fun hHeld=>?_);clear hK K hS
    generalize sets V2 g6 0 [.string x.f0.f0,.slice X1 x.f0.f1.length x1,.int .i64 x.f1,.slice X3 x.f2.length x3]=V3 at hHeld hb6' hb7' ⊢
    clear hb6 hb7;refine one_ (i:=13) (N:=none) #[true,true,true,true,true,true,true,true,true,true,true,true,true,true] rfl rfl (z2w HT_.out (by kernel_rfl)) (by decide) (fun K hK=>?_);have k0:V3.cell? ⟨g7,0,none⟩=some (.string ⟨#[]⟩):=(z01 hb7' 0).trans rfl;have q0:=z03 hb7' 0;have k1:V3.cell? ⟨g7,1,none⟩=some (.slice none 0 0):=(z01 hb7' 1).trans rfl;have q1:=z03 hb7' 1;have k2:V3.cell? ⟨g7,2,none⟩=some (.int .i64 0):=(z01 hb7' 2).trans rfl;have q2:=z03 hb7' 2;have k3:V3.cell? ⟨g7,3,none⟩=some (.slice none 0 0):=(z01 hb7' 3).trans rfl;have q3:=z03 hb7' 3;refine skip_ (w1:=sets V3 g7 0 [.string x.f0.f0,.slice X1' x.f0.f1.length x1',.int .i64 x.f1,.slice X3' x.f2.length x3']) (by rfl) rfl ?_ ?_
    · go_simp
      try rfl
    have hS:=z2r (n:=g7) hg7 [.string x.f0.f0,.slice X1' x.f0.f1.length x1',.int .i64 x.f1,.slice X3' x.f2.length x3'] 0 _ hHeld;clear k0 q0 k1 q1 k2 q2 k3 q3;have hb7'':=z2z [.string x.f0.f0,.slice X1' x.f0.f1.length x1',.int .i64 x.f1,.slice X3' x.f2.length x3'] 0 V3 #[.string ⟨#[]⟩,.slice none 0 0,.int .i64 0,.slice none 0 0] hb7';have hb6'':=z2h hne [.string x.f0.f0,.slice X1' x.f0.f1.length x1',.int .i64 x.f1,.slice X3' x.f2.length x3'] 0 V3 hb6';replace hb7'':(sets V3 g7 0 [.string x.f0.f0,.slice X1' x.f0.f1.length x1',.int .i64 x.f1,.slice X3' x.f2.length x3']).heap[g7]?=some (.cells #[.string x.f0.f0,.slice X1' x.f0.f1.length x1',.int .i64 x.f1,.slice X3' x.f2.length x3'] 33 (0,0)):=hb7'';refine hK.out _ _ hS (fun hHeld=>?_);clear hK K hS
    generalize sets V3 g7 0 [.string x.f0.f0,.slice X1' x.f0.f1.length x1',.int .i64 x.f1,.slice X3' x.f2.length x3']=V5 at hHeld hb6'' hb7'' ⊢
    clear hb6' hb7';refine done_ (z5v HT_.out (by kernel_rfl)) ?_;have HBV:=z00.mk (z14 HB.out HB.out.size hHeld);have HG:=z00.mk (And.intro hb6'' hb7'');have HGE:=z00.mk (And.intro (Nat.le_trans HB.out.size hg6) (Nat.le_trans HB.out.size hg7));clear hHeld hb6'' hb7'' hg6 hg7 hne e0 e1 e2 e3 d0 d1 d2 d3 fP fQ HT_ HW_ HB;have a0:V5.cell? ⟨g6,0,none⟩=some (.string x.f0.f0):=(z01 HG.out.1 0).trans rfl;have a1:V5.cell? ⟨g6,1,none⟩=some (.slice X1 x.f0.f1.length x1):=(z01 HG.out.1 1).trans rfl;have a2:V5.cell? ⟨g6,2,none⟩=some (.int .i64 x.f1):=(z01 HG.out.1 2).trans rfl;have b0:V5.cell? ⟨g7,0,none⟩=some (.string x.f0.f0):=(z01 HG.out.2 0).trans rfl;have b1:V5.cell? ⟨g7,1,none⟩=some (.slice X1' x.f0.f1.length x1'):=(z01 HG.out.2 1).trans rfl;have b2:V5.cell? ⟨g7,2,none⟩=some (.int .i64 x.f1):=(z01 HG.out.2 2).trans rfl;have z1:(x.f1 !=x.f1)=false:=bne_self_eq_false _;have z2:((x.f2.length:Int) !=(x.f2.length:Int))=false:=bne_self_eq_false _
    go_wp2_with fail
    refine(HAT.out _ HBV.out).mono ?_;rintro e w6 ⟨rfl,hb⟩;have a3:w6.cell? ⟨g6,3,none⟩=some (.slice X3 x.f2.length x3):=(z01 (z0h HG.out.1 hb) 3).trans rfl;have b3:w6.cell? ⟨g7,3,none⟩=some (.slice X3' x.f2.length x3'):=(z01 (z0h HG.out.2 hb) 3).trans rfl;have HB6:=z00.mk hb;clear hb a0 a1 a2 b0 b1 b2;go_wp2
    go_loopg [67] (x.f2.length+1) (fun kq v67 w'=>∃j:Nat,v67=.int .i64 j∧kq+j=x.f2.length+1∧j≤x.f2.length∧z00 (Below V5.heap.size V5 w'))
    case atStart=>exact⟨0,rfl,by omega,by omega,HB6⟩
    case round =>
     clear HB6 a3 b3;obtain⟨j,rfl,hkj,hij,HB⟩:=hrel
     by_cases hlj:j<x.f2.length
     · have y3:decide ((j:Int)<(x.f2.length:Int))=true:=decide_eq_true (by omega);have y4:decide (j<x.f2.length)=true:=decide_eq_true hlj;obtain⟨k2,rfl⟩:∃k2,gk=k2+1:=⟨gk - 1,by omega⟩
       have p2:(0≤(j:Int))=True:=eq_true (by omega);have p3:((j:Int)<(x.f2.length:Int))=True:=eq_true (by omega);obtain⟨lb,lo,csA,rfl,hlA,hKA,rA⟩:=row_at HX.out.2.1 z62 (by decide) j hlj;obtain⟨mb,mo,csB,rfl,hlB,hKB,rB⟩:=row_at HX.out.2.2 z62 (by decide) j hlj;obtain⟨Y2,y2,Y16,y16,eA,l2,m2,l16,m16⟩:=zah hKA;obtain⟨Y2',y2',Y16',y16',eB,l2',m2',l16',m16'⟩:=zah hKB;have hr:x.f2.getD j z62=x.f2[j]:=by
        rw[List.getD_eq_getElem?_getD,List.getElem?_eq_getElem hlj];rfl
       have hOK:=HX.out.1.2.2 x.f2[j] (List.getElem_mem hlj);obtain⟨y,hy⟩:∃y,x.f2[j]=y:=⟨_,rfl⟩
       simp only[hr,hy]at eA l2 m2 l16 m16 eB l2' m2' l16' m16';rw[hy]at hOK;have h1A:csA.toArray.all (·.oneCell')=true:=by rw[eA];simp[Value.oneCell']
       have h1B:csB.toArray.all (·.oneCell')=true:=by rw[eB];simp[Value.oneCell']
       have HE:=z00.mk (And.intro eA eB);have HAT2:=z00.mk (fun(V:World) (h:Below W.heap.size W V)=>z0o.calls 1100 y.f1.f0 Y2 y2 y.f1.f1 y.f1.f0 Y2' y2' y.f1.f1 true V (Kd.C_below m2 h) l2 (Kd.C_below m2' h) l2' (z7n _ _ hOK.1));have HPA2:=z00.mk (fun(V:World) (h:Below W.heap.size W V)=>z0z.calls 200 Y16 y16 y.f6 Y16' y16' y.f6 true V (Kd.C_below m16 h) l16 (Kd.C_below m16' h) l16' (zeo _ hOK.2));have HWr:=z00.mk (z14 HBV.out HBV.out.size HB.out);have fP:=z0r HB.out ((z01 HG.out.1 3).trans rfl:V5.cell? ⟨g6,3,none⟩=some (.slice (some ⟨lb,lo,none⟩) x.f2.length x3));have fQ:=z0r HB.out ((z01 HG.out.2 3).trans rfl:V5.cell? ⟨g7,3,none⟩=some (.slice (some ⟨mb,mo,none⟩) x.f2.length x3'));replace rA:wr.rangeAt lb (lo+j * 17) csA:=fun k v hv=>z0r HWr.out (rA k v hv)
       replace rB:wr.rangeAt mb (mo+j * 17) csB:=fun k v hv=>z0r HWr.out (rB k v hv)
       have hlA:csA.length=17:=hlA;have hlB:csB.length=17:=hlB;clear hr hy eA eB hKA hKB l2 m2 l16 m16 l2' m2' l16' m16' hOK HWr
       go_wp2_with fail
       refine z78 (n:=14) (S:=fun w'=>Below wr.heap.size wr w') (ds:=[]) #[false,false,false,false,false,false,false,false,false,false,false,false,false,false] (by kernel_rfl) rfl rfl (z05 (Below.refl _ _)) (fun hHeld=>?_);refine z4a same12.tab same12.bits (fun HT_ HW_=>?_)
       generalize wr.drew=V at hHeld ⊢
       refine pure_ (i:=0) (N:=some 70) (v:=?_) (a':=?_) #[true,false,false,false,false,false,false,false,false,false,false,false,false,false] rfl rfl (z2l HT_.out (by kernel_rfl)) (fun _ _ _ h=>h) (Or.inl ⟨by rfl,?_⟩) ?_ ?_
       rotate_left
       · intro w'
         go_simp
         with_reducible rfl
       rotate_left
       · simp only[Act.put,List.setIfInBounds_toArray,List.set_cons_zero,List.set_cons_succ,i64_w,i32_w];rfl
       refine pure_ (i:=2) (N:=some 72) (v:=?_) (a':=?_) #[true,false,true,false,false,false,false,false,false,false,false,false,false,false] rfl rfl (z2l HT_.out (by kernel_rfl)) (fun _ _ _ h=>h) (Or.inl ⟨by rfl,?_⟩) ?_ ?_
       rotate_left
       · intro w'
         go_simp
         with_reducible rfl
       rotate_left
       · simp only[Act.put,List.setIfInBounds_toArray,List.set_cons_zero,List.set_cons_succ,i64_w,i32_w];rfl
       refine pure_ (i:=5) (N:=some 75) (v:=?_) (a':=?_) #[true,false,true,false,false,true,false,false,false,false,false,false,false,false] rfl rfl (z2l HT_.out (by kernel_rfl)) (fun _ _ _ h=>h) (Or.inl ⟨by rfl,?_⟩) ?_ ?_
       rotate_left
       · intro w'
         go_simp
         with_reducible rfl
       rotate_left
       · simp only[Act.put,List.setIfInBounds_toArray,List.set_cons_zero,List.set_cons_succ,i64_w,i32_w];rfl
       refine pure_ (i:=7) (N:=some 77) (v:=?_) (a':=?_) #[true,false,true,false,false,true,false,true,false,false,false,false,false,false] rfl rfl (z2l HT_.out (by kernel_rfl)) (fun _ _ _ h=>h) (Or.inl ⟨by rfl,?_⟩) ?_ ?_
       rotate_left
       · intro w'
         go_simp
         with_reducible rfl
       rotate_left
       · simp only[Act.put,List.setIfInBounds_toArray,List.set_cons_zero,List.set_cons_succ,i64_w,i32_w];rfl
       refine take_ (i:=1) (N:=some 71) (v:=?_) (a':=?_) #[true,true,true,false,false,true,false,true,false,false,false,false,false,false] rfl rfl (z2v HT_.out HW_.out (by kernel_rfl)) (fun _ _ _ h=>h) (Or.inl ⟨by rfl,?_⟩) hHeld ?_ ?_
       rotate_left
       · intro w' sS;have f0:=z0r sS fP;clear sS
         go_simp
         with_reducible rfl
       rotate_left
       · simp only[Act.put,List.setIfInBounds_toArray,List.set_cons_zero,List.set_cons_succ,i64_w,i32_w];rfl
       refine pure_ (i:=3) (N:=some 73) (v:=?_) (a':=?_) #[true,true,true,true,false,true,false,true,false,false,false,false,false,false] rfl rfl (z2l HT_.out (by kernel_rfl)) (fun _ _ _ h=>h) (Or.inl ⟨by rfl,?_⟩) ?_ ?_
       rotate_left
       · intro w'
         go_simp
         with_reducible rfl
       rotate_left
       · simp only[Act.put,List.setIfInBounds_toArray,List.set_cons_zero,List.set_cons_succ,i64_w,i32_w];rfl
       refine take_ (i:=4) (N:=some 74) (v:=.agg csA.toArray) (a':=?_) #[true,true,true,true,true,true,false,true,false,false,false,false,false,false] rfl rfl (z2v HT_.out HW_.out (by kernel_rfl)) (fun _ _ _ h=>h) (by exact yieldsIf_load_mid (by rfl) 62 (.tmp 73) rfl _ _ rfl csA _ (fun w' sS k v hv=>z0r sS (rA k v hv)) Tryz.underlying62 rfl (by rw[hlA];kernel_rfl)) hHeld ?_ ?_
       rotate_left
       · simp only[Act.put,List.setIfInBounds_toArray,List.set_cons_zero,List.set_cons_succ,i64_w,i32_w];rfl
       refine take_ (i:=6) (N:=some 76) (v:=?_) (a':=?_) #[true,true,true,true,true,true,true,true,false,false,false,false,false,false] rfl rfl (z2v HT_.out HW_.out (by kernel_rfl)) (fun _ _ _ h=>h) (Or.inl ⟨by rfl,?_⟩) hHeld ?_ ?_
       rotate_left
       · intro w' sS;have f0:=z0r sS fQ;clear sS
         go_simp
         with_reducible rfl
       rotate_left
       · simp only[Act.put,List.setIfInBounds_toArray,List.set_cons_zero,List.set_cons_succ,i64_w,i32_w];rfl
       refine pure_ (i:=8) (N:=some 78) (v:=?_) (a':=?_) #[true,true,true,true,true,true,true,true,true,false,false,false,false,false] rfl rfl (z2l HT_.out (by kernel_rfl)) (fun _ _ _ h=>h) (Or.inl ⟨by rfl,?_⟩) ?_ ?_
       rotate_left
       · intro w'
         go_simp
         with_reducible rfl
       rotate_left
       · simp only[Act.put,List.setIfInBounds_toArray,List.set_cons_zero,List.set_cons_succ,i64_w,i32_w];rfl
       refine take_ (i:=9) (N:=some 79) (v:=.agg csB.toArray) (a':=?_) #[true,true,true,true,true,true,true,true,true,true,false,false,false,false] rfl rfl (z2v HT_.out HW_.out (by kernel_rfl)) (fun _ _ _ h=>h) (by exact yieldsIf_load_mid (by rfl) 62 (.tmp 78) rfl _ _ rfl csB _ (fun w' sS k v hv=>z0r sS (rB k v hv)) Tryz.underlying62 rfl (by rw[hlB];kernel_rfl)) hHeld ?_ ?_
       rotate_left
       · simp only[Act.put,List.setIfInBounds_toArray,List.set_cons_zero,List.set_cons_succ,i64_w,i32_w];rfl
       refine join_ (σ:=Nat × Nat) 2 #[true,true,true,true,true,true,true,true,true,true,true,true,false,false] (fun s_=>[(9,.pointer (some ⟨s_.1,0,none⟩)),(10,.pointer (some ⟨s_.2,0,none⟩))]) (fun s_ w'=>Below wr.heap.size wr w'∧w'.heap[s_.1]?=some (.cells #[.int .i64 0,.string ⟨#[]⟩,.slice none 0 0,.string ⟨#[]⟩,.string ⟨#[]⟩,.int .i64 0,.int .i64 0,.string ⟨#[]⟩,.string ⟨#[]⟩,.int .i64 0,.int .i64 0,.string ⟨#[]⟩,.string ⟨#[]⟩,.int .i64 0,.int .i64 0,.string ⟨#[]⟩,.slice none 0 0] 62 (0,0))∧w'.heap[s_.2]?=some (.cells #[.int .i64 0,.string ⟨#[]⟩,.slice none 0 0,.string ⟨#[]⟩,.string ⟨#[]⟩,.int .i64 0,.int .i64 0,.string ⟨#[]⟩,.string ⟨#[]⟩,.int .i64 0,.int .i64 0,.string ⟨#[]⟩,.string ⟨#[]⟩,.int .i64 0,.int .i64 0,.string ⟨#[]⟩,.slice none 0 0] 62 (0,0))∧wr.heap.size≤s_.1∧wr.heap.size≤s_.2∧s_.1≠s_.2) ?_ ?_
       rotate_left
       · intro hCont;refine two_ (i:=10) (j:=11) (Ni:=some 9) (Nj:=some 10) #[true,true,true,true,true,true,true,true,true,true,true,false,false,false] #[true,true,true,true,true,true,true,true,true,true,false,true,false,false] rfl rfl rfl rfl (two_of HT_.out (by kernel_rfl)) (by decide) (by decide) (fun K hK=>?_) (fun K hK=>?_)
         · refine z59 ?hg (N:=9) ?hd (cs:=#[.int .i64 0,.string ⟨#[]⟩,.slice none 0 0,.string ⟨#[]⟩,.string ⟨#[]⟩,.int .i64 0,.int .i64 0,.string ⟨#[]⟩,.string ⟨#[]⟩,.int .i64 0,.int .i64 0,.string ⟨#[]⟩,.string ⟨#[]⟩,.int .i64 0,.int .i64 0,.string ⟨#[]⟩,.slice none 0 0]) (t:=62) ?hr ?_;(case hd=>rfl);(case hg=>rfl);(case hr=>first|(go_simp;done)|(go_simp;rfl));intro x hx w1 hbx hb1;have hB1:=z0g hHeld hb1;have hgx:wr.heap.size≤x:=by rw[hx];exact hHeld.size
           refine hK.out _ _ hB1 (fun hHeld=>?_);clear hK K;refine norm_ (a':=?_) ?_ ?_
           rotate_left
           · show Act.put _ (some 9) _=_;simp only[Act.put,List.setIfInBounds_toArray,List.set_cons_zero,List.set_cons_succ,i64_w,i32_w];rfl
           refine one_ (i:=11) (N:=some 10) #[true,true,true,true,true,true,true,true,true,true,true,true,false,false] rfl rfl (z2w HT_.out (by kernel_rfl)) (by decide) (fun K hK=>?_);refine z59 ?hg (N:=10) ?hd (cs:=#[.int .i64 0,.string ⟨#[]⟩,.slice none 0 0,.string ⟨#[]⟩,.string ⟨#[]⟩,.int .i64 0,.int .i64 0,.string ⟨#[]⟩,.string ⟨#[]⟩,.int .i64 0,.int .i64 0,.string ⟨#[]⟩,.string ⟨#[]⟩,.int .i64 0,.int .i64 0,.string ⟨#[]⟩,.slice none 0 0]) (t:=62) ?hr ?_;(case hd=>rfl);(case hg=>rfl);(case hr=>first|(go_simp;done)|(go_simp;rfl));intro y hy w2 hby hb2;have hB2:=z0g hHeld hb2;have hgy:wr.heap.size≤y:=by rw[hy];exact hHeld.size
           have hne:x≠y:=by rw[hy];exact Nat.ne_of_lt (z1u hbx)
           have hbx2:=z0h hbx hb2;refine hK.out _ _ hB2 (fun hHeld=>?_);clear hK K;refine norm_ (a':=?_) ?_ ?_
           rotate_left
           · show Act.put _ (some 10) _=_;simp only[Act.put,List.setIfInBounds_toArray,List.set_cons_zero,List.set_cons_succ,i64_w,i32_w];rfl
           exact norm_ zA0s (hCont (x,y) _ ⟨hHeld,hbx2,hby,hgx,hgy,hne⟩)
         · refine z59 ?hg (N:=10) ?hd (cs:=#[.int .i64 0,.string ⟨#[]⟩,.slice none 0 0,.string ⟨#[]⟩,.string ⟨#[]⟩,.int .i64 0,.int .i64 0,.string ⟨#[]⟩,.string ⟨#[]⟩,.int .i64 0,.int .i64 0,.string ⟨#[]⟩,.string ⟨#[]⟩,.int .i64 0,.int .i64 0,.string ⟨#[]⟩,.slice none 0 0]) (t:=62) ?hr ?_;(case hd=>rfl);(case hg=>rfl);(case hr=>first|(go_simp;done)|(go_simp;rfl));intro x hx w1 hbx hb1;have hB1:=z0g hHeld hb1;have hgx:wr.heap.size≤x:=by rw[hx];exact hHeld.size
           refine hK.out _ _ hB1 (fun hHeld=>?_);clear hK K;refine norm_ (a':=?_) ?_ ?_
           rotate_left
           · show Act.put _ (some 10) _=_;simp only[Act.put,List.setIfInBounds_toArray,List.set_cons_zero,List.set_cons_succ,i64_w,i32_w];rfl
           refine one_ (i:=10) (N:=some 9) #[true,true,true,true,true,true,true,true,true,true,true,true,false,false] rfl rfl (z2w HT_.out (by kernel_rfl)) (by decide) (fun K hK=>?_);refine z59 ?hg (N:=9) ?hd (cs:=#[.int .i64 0,.string ⟨#[]⟩,.slice none 0 0,.string ⟨#[]⟩,.string ⟨#[]⟩,.int .i64 0,.int .i64 0,.string ⟨#[]⟩,.string ⟨#[]⟩,.int .i64 0,.int .i64 0,.string ⟨#[]⟩,.string ⟨#[]⟩,.int .i64 0,.int .i64 0,.string ⟨#[]⟩,.slice none 0 0]) (t:=62) ?hr ?_;(case hd=>rfl);(case hg=>rfl);(case hr=>first|(go_simp;done)|(go_simp;rfl));intro y hy w2 hby hb2;have hB2:=z0g hHeld hb2;have hgy:wr.heap.size≤y:=by rw[hy];exact hHeld.size
           have hne:x≠y:=by rw[hy];exact Nat.ne_of_lt (z1u hbx)
           have hbx2:=z0h hbx hb2;refine hK.out _ _ hB2 (fun hHeld=>?_);clear hK K;refine norm_ (a':=?_) ?_ ?_
           rotate_left
           · show Act.put _ (some 9) _=_;simp only[Act.put,List.setIfInBounds_toArray,List.set_cons_zero,List.set_cons_succ,i64_w,i32_w];rfl
           exact norm_ zA0s (hCont (y,x) _ ⟨hHeld,hby,hbx2,hgy,hgx,hne.symm⟩)
       rintro⟨g9,g10⟩ V2 ⟨hHeld,hb6,hb7,hg6,hg7,hne⟩;simp only at hb6 hb7 hg6 hg7 hne;refine norm_ (a':=?_) ?_ ?_
       rotate_left
       · simp only[z73,Act.put,List.setIfInBounds_toArray,List.set_cons_zero,List.set_cons_succ];rfl
       refine one_ (i:=12) (N:=none) #[true,true,true,true,true,true,true,true,true,true,true,true,true,false] rfl rfl (z2w HT_.out (by kernel_rfl)) (by decide) (fun K hK=>?_);have hth:V2.there g9 0 csA.toArray.size:=z54 hb6 (by rw[List.size_toArray,hlA];decide);rw[if_pos (by rfl)];refine wp_store_mid 62 (.tmp 9) (.tmp 74) rfl g9 0 csA.toArray rfl rfl hth (by rw[List.size_toArray,hlA];kernel_rfl) h1A ?_;rw[show csA.toArray.toList=csA from rfl,z36];have hS:=z2r (n:=g9) hg6 csA 0 _ hHeld;have hb6':=z2z csA 0 V2 #[.int .i64 0,.string ⟨#[]⟩,.slice none 0 0,.string ⟨#[]⟩,.string ⟨#[]⟩,.int .i64 0,.int .i64 0,.string ⟨#[]⟩,.string ⟨#[]⟩,.int .i64 0,.int .i64 0,.string ⟨#[]⟩,.string ⟨#[]⟩,.int .i64 0,.int .i64 0,.string ⟨#[]⟩,.slice none 0 0] hb6;have hb7':=z2h hne.symm csA 0 V2 hb7;rw[zcf (by rw[hlA];rfl)]at hb6';refine hK.out _ _ hS (fun hHeld=>?_);clear hK K hS hth;refine norm_ (a':=?_) ?_ ?_
       rotate_left
       · show Act.put _ none _=_;rfl
       generalize sets V2 g9 0 csA=V3 at hHeld hb6' hb7' ⊢
       clear hb6 hb7;refine one_ (i:=13) (N:=none) #[true,true,true,true,true,true,true,true,true,true,true,true,true,true] rfl rfl (z2w HT_.out (by kernel_rfl)) (by decide) (fun K hK=>?_);have hth:V3.there g10 0 csB.toArray.size:=z54 hb7' (by rw[List.size_toArray,hlB];decide);rw[if_pos (by rfl)];refine wp_store_mid 62 (.tmp 10) (.tmp 79) rfl g10 0 csB.toArray rfl rfl hth (by rw[List.size_toArray,hlB];kernel_rfl) h1B ?_;rw[show csB.toArray.toList=csB from rfl,z36];have hS:=z2r (n:=g10) hg7 csB 0 _ hHeld;have hb7'':=z2z csB 0 V3 #[.int .i64 0,.string ⟨#[]⟩,.slice none 0 0,.string ⟨#[]⟩,.string ⟨#[]⟩,.int .i64 0,.int .i64 0,.string ⟨#[]⟩,.string ⟨#[]⟩,.int .i64 0,.int .i64 0,.string ⟨#[]⟩,.string ⟨#[]⟩,.int .i64 0,.int .i64 0,.string ⟨#[]⟩,.slice none 0 0] hb7';have hb6'':=z2h hne csB 0 V3 hb6';rw[zcf (by rw[hlB];rfl)]at hb7'';refine hK.out _ _ hS (fun hHeld=>?_);clear hK K hS hth;refine norm_ (a':=?_) ?_ ?_
       rotate_left
       · show Act.put _ none _=_;rfl
       generalize sets V3 g10 0 csB=V6 at hHeld hb6'' hb7'' ⊢
       clear hb6' hb7';refine done_ (z5v HT_.out (by kernel_rfl)) ?_;have HBV6:=z00.mk (z14 HB.out HB.out.size hHeld);have HG6:=z00.mk (show V6.heap[g9]?=some (.cells #[.int .i64 y.f0,.string y.f1.f0,.slice Y2 y.f1.f1.length y2,.string y.f2,.string y.f3.f0,.int .i64 y.f3.f1.f0,.int .i64 y.f3.f1.f1,.string y.f3.f1.f2,.string y.f4.f0,.int .i64 y.f4.f1.f0,.int .i64 y.f4.f1.f1,.string y.f4.f1.f2,.string y.f5.f0,.int .i64 y.f5.f1.f0,.int .i64 y.f5.f1.f1,.string y.f5.f1.f2,.slice Y16 y.f6.length y16] 62 (0,0))∧V6.heap[g10]?=some (.cells #[.int .i64 y.f0,.string y.f1.f0,.slice Y2' y.f1.f1.length y2',.string y.f2,.string y.f3.f0,.int .i64 y.f3.f1.f0,.int .i64 y.f3.f1.f1,.string y.f3.f1.f2,.string y.f4.f0,.int .i64 y.f4.f1.f0,.int .i64 y.f4.f1.f1,.string y.f4.f1.f2,.string y.f5.f0,.int .i64 y.f5.f1.f0,.int .i64 y.f5.f1.f1,.string y.f5.f1.f2,.slice Y16' y.f6.length y16'] 62 (0,0)) by rw[hb6'',hb7'',HE.out.1,HE.out.2];exact⟨rfl,rfl⟩);clear hHeld hb6'' hb7'' hg6 hg7 hne rA rB hlA hlB h1A h1B HE fP fQ HT_ HW_ HB;have a0:V6.cell? ⟨g9,0,none⟩=some (.int .i64 y.f0):=(z01 HG6.out.1 0).trans rfl;have a1:V6.cell? ⟨g9,1,none⟩=some (.string y.f1.f0):=(z01 HG6.out.1 1).trans rfl;have a2:V6.cell? ⟨g9,2,none⟩=some (.slice Y2 y.f1.f1.length y2):=(z01 HG6.out.1 2).trans rfl;have a3:V6.cell? ⟨g9,3,none⟩=some (.string y.f2):=(z01 HG6.out.1 3).trans rfl;have a4:V6.cell? ⟨g9,4,none⟩=some (.string y.f3.f0):=(z01 HG6.out.1 4).trans rfl;have a5:V6.cell? ⟨g9,5,none⟩=some (.int .i64 y.f3.f1.f0):=(z01 HG6.out.1 5).trans rfl;have a6:V6.cell? ⟨g9,6,none⟩=some (.int .i64 y.f3.f1.f1):=(z01 HG6.out.1 6).trans rfl;have a7:V6.cell? ⟨g9,7,none⟩=some (.string y.f3.f1.f2):=(z01 HG6.out.1 7).trans rfl;have a8:V6.cell? ⟨g9,8,none⟩=some (.string y.f4.f0):=(z01 HG6.out.1 8).trans rfl;have a9:V6.cell? ⟨g9,9,none⟩=some (.int .i64 y.f4.f1.f0):=(z01 HG6.out.1 9).trans rfl;have a10:V6.cell? ⟨g9,10,none⟩=some (.int .i64 y.f4.f1.f1):=(z01 HG6.out.1 10).trans rfl
       have a11:V6.cell? ⟨g9,11,none⟩=some (.string y.f4.f1.f2):=(z01 HG6.out.1 11).trans rfl;have a12:V6.cell? ⟨g9,12,none⟩=some (.string y.f5.f0):=(z01 HG6.out.1 12).trans rfl;have a13:V6.cell? ⟨g9,13,none⟩=some (.int .i64 y.f5.f1.f0):=(z01 HG6.out.1 13).trans rfl;have a14:V6.cell? ⟨g9,14,none⟩=some (.int .i64 y.f5.f1.f1):=(z01 HG6.out.1 14).trans rfl;have a15:V6.cell? ⟨g9,15,none⟩=some (.string y.f5.f1.f2):=(z01 HG6.out.1 15).trans rfl;have a16:V6.cell? ⟨g9,16,none⟩=some (.slice Y16 y.f6.length y16):=(z01 HG6.out.1 16).trans rfl;have b0:V6.cell? ⟨g10,0,none⟩=some (.int .i64 y.f0):=(z01 HG6.out.2 0).trans rfl;have b1:V6.cell? ⟨g10,1,none⟩=some (.string y.f1.f0):=(z01 HG6.out.2 1).trans rfl;have b2:V6.cell? ⟨g10,2,none⟩=some (.slice Y2' y.f1.f1.length y2'):=(z01 HG6.out.2 2).trans rfl;have b3:V6.cell? ⟨g10,3,none⟩=some (.string y.f2):=(z01 HG6.out.2 3).trans rfl;have b4:V6.cell? ⟨g10,4,none⟩=some (.string y.f3.f0):=(z01 HG6.out.2 4).trans rfl;have b5:V6.cell? ⟨g10,5,none⟩=some (.int .i64 y.f3.f1.f0):=(z01 HG6.out.2 5).trans rfl;have b6:V6.cell? ⟨g10,6,none⟩=some (.int .i64 y.f3.f1.f1):=(z01 HG6.out.2 6).trans rfl;have b7:V6.cell? ⟨g10,7,none⟩=some (.string y.f3.f1.f2):=(z01 HG6.out.2 7).trans rfl;have b8:V6.cell? ⟨g10,8,none⟩=some (.string y.f4.f0):=(z01 HG6.out.2 8).trans rfl;have b9:V6.cell? ⟨g10,9,none⟩=some (.int .i64 y.f4.f1.f0):=(z01 HG6.out.2 9).trans rfl;have b10:V6.cell? ⟨g10,10,none⟩=some (.int .i64 y.f4.f1.f1):=(z01 HG6.out.2 10).trans rfl;have b11:V6.cell? ⟨g10,11,none⟩=some (.string y.f4.f1.f2):=(z01 HG6.out.2 11).trans rfl;have b12:V6.cell? ⟨g10,12,none⟩=some (.string y.f5.f0):=(z01 HG6.out.2 12).trans rfl;have b13:V6.cell? ⟨g10,13,none⟩=some (.int .i64 y.f5.f1.f0):=(z01 HG6.out.2 13).trans rfl;have b14:V6.cell? ⟨g10,14,none⟩=some (.int .i64 y.f5.f1.f1):=(z01 HG6.out.2 14).trans rfl;have b15:V6.cell? ⟨g10,15,none⟩=some (.string y.f5.f1.f2):=(z01 HG6.out.2 15).trans rfl
       have b16:V6.cell? ⟨g10,16,none⟩=some (.slice Y16' y.f6.length y16'):=(z01 HG6.out.2 16).trans rfl;have s1:(y.f0 !=y.f0)=false:=bne_self_eq_false _;have s2:(y.f2.toList !=y.f2.toList)=false:=bne_self_eq_false _
       go_wp2_with fail
       refine(HAT2.out _ (z14 HBV.out HBV.out.size HBV6.out)).mono ?_;rintro e w8 ⟨rfl,hb⟩;have c16:w8.cell? ⟨g9,16,none⟩=some (.slice Y16 y.f6.length y16):=(z01 (z0h HG6.out.1 hb) 16).trans rfl;have d16:w8.cell? ⟨g10,16,none⟩=some (.slice Y16' y.f6.length y16'):=(z01 (z0h HG6.out.2 hb) 16).trans rfl;have HB8:=z00.mk (z14 HBV6.out HBV6.out.size hb);clear hb s1 s2 a0 a1 a2 a3 a4 a5 a6 a7 a8 a9 a10 a11 a12 a13 a14 a15 a16 b0 b1 b2 b3 b4 b5 b6 b7 b8 b9 b10 b11 b12 b13 b14 b15 b16
       go_wp2_with fail
       refine(HPA2.out _ (z14 HBV.out HBV.out.size HB8.out)).mono ?_;rintro e w9 ⟨rfl,hd9⟩;have HB9:=z00.mk (z14 HB8.out HB8.out.size hd9.below);have y5:wrap64 ((j:Int)+1)=((j+1:Nat):Int):=by have:=HX.out.1.2.1;unfold wrap64;omega
       clear hd9 c16 d16;go_wp2
       go_roundg k2
       case rel=>exact⟨j+1,by go_num,by omega,by omega,HB9⟩
       case measure=>omega
     · obtain rfl:j=x.f2.length:=by omega
       have y3:decide ((x.f2.length:Int)<(x.f2.length:Int))=false:=decide_eq_false (by omega);have HBo:=z00.mk (z14 HBV.out HBV.out.size HB.out);have y5:wrap64 ((i:Int)+1)=((i+1:Nat):Int):=by have:=HOK.out.1;unfold wrap64;omega
       go_wp2
       go_roundg k1
       case rel=>exact⟨i+1,by go_num,by omega,by omega,HBo⟩
       case measure=>omega
  · obtain rfl:i=rs.length:=by omega
    have y1:decide ((rs.length:Int)<(rs.length:Int))=false:=decide_eq_false (by omega);have HBo:=z00.mk (z14 HBW.out HBW.out.size HB.out);go_wp2
    go_ret
    exact⟨rfl,HBo.out⟩
end Go.Proofs.YthebhbomlllpeaaGreatDoor.X
namespace Go.Proofs.YthebhbomlllpeaaGreatDoor.X
open Go.RowKit Go.Proofs.YthebhbomlllpeaaGreatDoorW.PrintWords Go.Proofs.YthebhbomlllpeaaGreatDoorW.PrintLast Go.Proofs.YthebhbomlllpeaaGreatDoorW.PrintMore
theorem zb8 {l:List TK} {y:LtS} {r:List TK} (h:z2c l=.ok (y,r)):y.f1.f1.length≤1000∧y.f6.length≤100:=by
 have holds:∀k l y r,z4q k l=.ok (y,r)→y.f1.f1.length≤1000∧y.f6.length≤100:=fun k l y r h=>by
  unfold z4q at h;obtain⟨a,r1,ha,h⟩:=z29 h;injection h with h;injection h with e1 _
  rw[←e1];have:=z8d ha;exact⟨by show a.1.f1.length≤1000;omega,by show([]:List StS).length≤100;simp⟩
 unfold z2c at h
 split at h
 · unfold z5f at h;obtain⟨a,r1,_,h⟩:=z29 h;obtain⟨b,r2,_,h⟩:=z29 h;injection h with h;injection h with e1 _
   rw[←e1];exact⟨by simp[noneA],by simp⟩
 split at h
 · unfold letP at h;obtain⟨a,r1,_,h⟩:=z29 h;obtain⟨b,r2,_,h⟩:=z29 h;obtain⟨s,r3,_,h⟩:=z29 h;obtain⟨c,r4,_,h⟩:=z29 h;injection h with h;injection h with e1 _
   rw[←e1];exact⟨by simp[noneA],by simp⟩
 split at h
 · exact holds 2 _ _ _ h
 split at h
 · unfold walkP at h;obtain⟨_,r1,_,h⟩:=z29 h;obtain⟨_,r1,_,h⟩:=z29 h;obtain⟨_,r1,_,h⟩:=z29 h;obtain⟨p,r1,hp,h⟩:=z29 h;obtain⟨_,r1,_,h⟩:=z29 h;obtain⟨_,r1,_,h⟩:=z29 h;obtain⟨_,r1,_,h⟩:=z29 h;injection h with h;injection h with e1 _
   rw[←e1];exact⟨by simp[noneA],(whole_of hp).2⟩
 split at h
 · exact holds 1 _ _ _ h
 obtain⟨_,r1,_,h⟩:=z29 h
 cases h
theorem zbu:∀(n:Nat) (acc:List LtS) (l:List TK) (x:List LtS) (r:List TK),(∀y ∈ acc,y.f1.f1.length≤1000∧y.f6.length≤100)→bodyP n acc l=.ok (x,r)→x.length≤acc.length+n∧∀y ∈ x,y.f1.f1.length≤1000∧y.f6.length≤100
 |0,acc,l,x,r,ha,h=>by simp only[bodyP]at h;cases h
 |n+1,acc,l,x,r,ha,h=>by
  simp only[bodyP]at h
  split at h
  · cases h
  obtain⟨z,r1,hz,h⟩:=z29 h;have hall:∀y ∈ acc++[z],y.f1.f1.length≤1000∧y.f6.length≤100:=fun y hy=>by
   rcases List.mem_append.1 hy with hy|hy
   · exact ha y hy
   · rw[List.mem_singleton]at hy;rw[hy];exact zb8 hz
  split at h
  · obtain⟨h1,h2⟩:=zbu n _ _ x r hall h;simp only[List.length_append,List.length_cons,List.length_nil]at h1;exact⟨by omega,h2⟩
  · injection h with h;injection h with e1 _
    rw[←e1];exact⟨by simp,hall⟩
theorem zfq {l:List TK} {x:RlS} {r:List TK} (h:ruleP l=.ok (x,r)):z7p x:=by
 unfold ruleP at h;obtain⟨a,r1,ha,h⟩:=z29 h;obtain⟨b,r2,hb,h⟩:=z29 h;obtain⟨_,r3,_,h⟩:=z29 h;injection h with h;injection h with e1 _
 rw[←e1];have h1:=z8d ha;have h2:b.length≤13∧∀y ∈ b,y.f1.f1.length≤1000∧y.f6.length≤100:=by
  unfold tailP at hb
  split at hb
  · have:=zbu 13 [] _ _ _ (fun y hy=>by cases hy) hb
    simpa using this
  · injection hb with hb;injection hb with e2 _
    rw[←e2];exact⟨by simp,fun y hy=>by cases hy⟩
 exact⟨by show a.1.f1.length≤1000;omega,by show b.length≤1000;omega,h2.2⟩
theorem z9y:∀(n:Nat) (acc:List RlS) (l:List TK) (x:List RlS) (r:List TK),(∀y ∈ acc,z7p y)→z6k n acc l=.ok (x,r)→x.length≤acc.length+n∧∀y ∈ x,z7p y
 |0,acc,l,x,r,ha,h=>by simp only[z6k]at h;cases h
 |n+1,acc,l,x,r,ha,h=>by
  simp only[z6k]at h
  split at h
  · injection h with h;injection h with e1 _
    rw[←e1];exact⟨by omega,ha⟩
  · split at h
    · cases h
    obtain⟨z,r1,hz,h⟩:=z29 h;have hall:∀y ∈ acc++[z],z7p y:=fun y hy=>by
     rcases List.mem_append.1 hy with hy|hy
     · exact ha y hy
     · rw[List.mem_singleton]at hy;rw[hy];exact zfq hz
    obtain⟨h1,h2⟩:=z9y n _ _ x r hall h;simp only[List.length_append,List.length_cons,List.length_nil]at h1;exact⟨by omega,h2⟩
theorem zb6 {l:List TK} {p:PgS} {r:List TK} (h:z2j l=.ok (p,r)):p.f0.length≤201∧(∀y ∈ p.f0,z7p y)∧p.f1.f1.length≤9:=by
 have hq:=zee h;unfold z2j at h;obtain⟨rs,r1,hr,h⟩:=z29 h;obtain⟨q,r2,_,h⟩:=z29 h;obtain⟨_,r3,_,h⟩:=z29 h;injection h with h;injection h with e1 _
 rw[←e1]at hq ⊢;have:=z9y 201 [] _ _ _ (fun y hy=>by cases hy) hr;simp only[List.length_nil]at this;exact⟨by show rs.length≤201;omega,this.2,hq⟩

abbrev RtS:=S53
def z3j (B:List UInt8):List RtS→List UInt8
 |[]=>[]
 |t::r=>t.f1.data.toList++(B++z3j B r)
theorem zgn {c:UInt8} (h:z2m c=true):sepB c=true:=by
 rcases z7x h with rfl|rfl|rfl <;> decide
theorem z93:∀(B:List UInt8) (h:∀c ∈ B,z2m c=true) (r:List UInt8),tkO (B++r)=tkO r
 |[],_,r=>rfl
 |c::B,h,r=>by
  rw[List.cons_append,tkO,z7m _ _ _ (h c (List.mem_cons_self ..))];exact z93 B (fun x hx=>h x (List.mem_cons_of_mem _ hx)) r
def OneT (t:RtS):Prop:=∃k:Nat,t.f0=(k:Int)∧nextN nmL vlL t.f1.data.toList=some (k,t.f1.data.toList.length)
theorem z8k {c:UInt8} {B:List UInt8} (h:∀x ∈ c::B,z2m x=true):∀(T:List RtS),(∀t ∈ T,OneT t)→tkO (z3j (c::B) T)=some (T.map fun t=>((t.f0,t.f1):TK))
 |[],_=>rfl
 |t::T,hT=>by
  obtain⟨k,hk,hn⟩:=hT t (List.mem_cons_self ..);have ih:=z8k h T (fun x hx=>hT x (List.mem_cons_of_mem _ hx));have hb:tkO (c::(B++z3j (c::B) T))=some (T.map fun t=>((t.f0,t.f1):TK)):=by
   rw[show c::(B++z3j (c::B) T)=(c::B)++z3j (c::B) T from rfl,z93 _ h];exact ih
  have ha:=toks_app (zgn (h c (List.mem_cons_self ..))) (toks_one hn) hb;show tkO (t.f1.data.toList++(c::(B++z3j (c::B) T)))=_;rw[show tkO (t.f1.data.toList++(c::(B++z3j (c::B) T)))=_ from ha,List.map_cons,hk,show(⟨t.f1.data.toList.toArray⟩:ByteArray)=t.f1 from ba_eq (by simp)];rfl
theorem z6t (B:List UInt8):∀T:List RtS,(z3j B T).length=(T.map fun t=>t.f1.size).sum+T.length * B.length
 |[]=>by simp[z3j]
 |t::T=>by
  simp only[z3j,List.length_append,z6t B T,List.map_cons,List.sum_cons,List.length_cons,Nat.add_mul,z0n];omega
theorem ze7 {full:List UInt8}:∀(l:List (Nat × Nat × Nat)) (a:Nat),a≤full.length→covT nmL vlL full a l→((l.map (fun x=>x.2.2)).sum≤full.length - a)
 |[],a,_,_=>by simp
 |x::l,a,ha,h=>by
  obtain⟨h1,h2,h3,h4,h5,h6,h7,h8⟩:=h;have:=ze7 l (x.2.1+x.2.2) h3 h8;simp only[List.map_cons,List.sum_cons];omega
theorem z7h (s:ByteArray) (x:Nat × Nat × Nat):(tokS2 s x).f1.data.toList=(s.data.toList.drop x.2.1).take x.2.2:=z6c s _ _
theorem z8e {s:ByteArray} {l:List (Nat × Nat × Nat)} (h:tokN nmL vlL 0 s.data.toList=.ok l):(∀t ∈ l.map (tokS2 s),OneT t∧t.f1.size≤s.size)∧((l.map (tokS2 s)).map fun t=>t.f1.size).sum≤s.size∧l.length≤s.size:=by
 have hc:=tok_cov nmL vlL s.data.toList _ 0 l (Nat.le_refl _) (by simpa using h);have he:=zbr l 0 hc;have hsz:∀x ∈ l,(tokS2 s x).f1.size=x.2.2:=fun x hx=>by
  have:=(he x hx).2.1;rw[←z0n,z7h,List.length_take,List.length_drop];omega
 refine⟨fun t ht=>?_,?_,?_⟩
 · obtain⟨x,hx,rfl⟩:=List.mem_map.1 ht;refine⟨⟨x.1,rfl,?_⟩,?_⟩
   · have hl:(tokS2 s x).f1.data.toList.length=x.2.2:=by rw[z0n];exact hsz x hx
     rw[hl,z7h];exact zft (he x hx).1
   · rw[hsz x hx];have:=(he x hx).2.1;rw[z0n]at this;omega
 · have h0:=ze7 l 0 (Nat.zero_le _) hc;have:((l.map (tokS2 s)).map fun t=>t.f1.size)=l.map (fun x=>x.2.2):=by
    rw[List.map_map];exact List.map_congr_left fun x hx=>hsz x hx
   rw[this];rw[z0n]at h0;omega
 · have:=zce nmL vlL _ s.data.toList 0 l (Nat.le_refl _) h;rw[z0n]at this;exact this
theorem tkOf_2 (s:ByteArray) (x:Nat × Nat × Nat):((tokS2 s x).f0,(tokS2 s x).f1)=tkOf (tokS s x):=by
 show((x.1:Int),_)=((x.1:Int),_);rw[Prod.mk.injEq];exact⟨rfl,ba_eq (by rw[z7h];exact(zc1 s x).symm)⟩
theorem zct {s:ByteArray} (hs:s.size≤1500) {l:List (Nat × Nat × Nat)} (h:tokN nmL vlL 0 s.data.toList=.ok l) {c:UInt8} {B:List UInt8} (hB:∀x ∈ c::B,z2m x=true) (hn:B.length≤2) :
 (baL (z3j (c::B) (l.map (tokS2 s)))).size≤6000∧∃(p:PgS) (a b e:Int),p.f0.length≤1000∧(∀x ∈ p.f0,z7p x)∧p.f1.f1.length≤1000∧z3b (⟨[],noneA⟩:PgS) z2j s=(p,a,e)∧z3b (⟨[],noneA⟩:PgS) z2j (baL (z3j (c::B) (l.map (tokS2 s))))=(p,b,e) ∧
   ((e=0∧a=0)∨(a=(s.size:Int)∨∃t ∈ l.map (tokS2 s),t.f2=a)):=by
 obtain⟨h1,h2,h3⟩:=z8e h;have hT:=z8k hB _ (fun t ht=>(h1 t ht).1);have hL:=z6t (c::B) (l.map (tokS2 s));rw[List.length_map,List.length_cons]at hL;have hz:(baL (z3j (c::B) (l.map (tokS2 s)))).size≤6000:=by
  show(z3j (c::B) (l.map (tokS2 s))).toArray.size≤_;rw[List.size_toArray,hL];have:l.length * (B.length+1)≤l.length * 3:=Nat.mul_le_mul_left _ (by omega);exact Nat.le_trans (Nat.add_le_add h2 this) (by omega)
 refine⟨hz,?_⟩;have hls:z41 s=(l.map (tokS s),0,0):=by unfold z41;rw[if_neg (by omega),z6m,h]
 have hQ:(l.map (tokS s)).map tkOf=(l.map (tokS2 s)).map fun t=>((t.f0,t.f1):TK):=by
  rw[List.map_map,List.map_map];exact List.map_congr_left fun x _=>(tkOf_2 s x).symm
 have ht:=lex_toks (s:=baL (z3j (c::B) (l.map (tokS2 s)))) (by omega);rw[show(baL (z3j (c::B) (l.map (tokS2 s)))).data.toList=z3j (c::B) (l.map (tokS2 s))from rfl,hT]at ht
 split at ht
 case isFalse=>cases ht
 rename_i hz0;injection ht with ht
 unfold z3b;rw[if_pos hz0,←ht,hls];simp only;rw[if_pos trivial,hQ]
 cases ha:allP z2j ((l.map (tokS2 s)).map fun t=>((t.f0,t.f1):TK))with
 |ok p =>
  have hp:∃r,z2j ((l.map (tokS2 s)).map fun t=>((t.f0,t.f1):TK))=.ok (p,r):=by
   unfold allP at ha
   split at ha
   · cases ha
   · rename_i y hy;injection ha with ha;subst ha;exact⟨_,hy⟩
   · cases ha
  obtain⟨r,hp⟩:=hp;obtain⟨m1,m2,m3⟩:=zb6 hp;exact⟨p,0,0,0,by omega,m2,by omega,rfl,rfl,.inl ⟨rfl,rfl⟩⟩
 |error q =>
  refine⟨⟨[],noneA⟩,_,_,q.2,Nat.zero_le _,(fun x hx=>by cases hx),Nat.zero_le _,rfl,rfl,.inr ?_⟩
  by_cases hi:(l.map (tokS s)).length - q.1<(l.map (tokS s)).length
  · right
    have hi':l.length - q.1<l.length:=by simpa using hi
    refine⟨tokS2 s (l[l.length - q.1]),List.mem_map.2 ⟨_,List.getElem_mem hi',rfl⟩,?_⟩;unfold seeP;rw[List.getD_eq_getElem?_getD,List.getElem?_eq_getElem hi,Option.getD_some,List.getElem_map];simp only[List.length_map];rfl
  · left
    unfold seeP;rw[List.getD_eq_getElem?_getD,List.getElem?_eq_none (by omega),Option.getD_none]

def blsB:List ByteArray:=[(⟨#[32]⟩:ByteArray),(⟨#[10]⟩:ByteArray),(⟨#[9,32,32]⟩:ByteArray),(⟨#[32,10,10]⟩:ByteArray)]
theorem zfs (T:List RtS) (i:Nat) (h:i<T.length):z66 T (i:Int)=T[i]:=by
 unfold z66;rw[Int.toNat_natCast,List.getD_eq_getElem?_getD,List.getElem?_eq_getElem h];rfl
theorem tmod4 {x:Int} (hx:0≤x∧x≤255):0≤Int.tmod x 4∧Int.tmod x 4<4:=by rw[Int.tmod_eq_emod_of_nonneg hx.1];omega
theorem blanks_B (x:Int) (hx:0≤x∧x≤255):∃c B,(rdOf ByteArray.empty blsB (Int.tmod x 4)).data.toList=c::B∧(∀y ∈ c::B,z2m y=true)∧B.length≤2:=by
 obtain⟨n,hn⟩:∃n:Nat,Int.tmod x 4=(n:Int):=⟨(Int.tmod x 4).toNat,by have:=tmod4 hx;omega⟩
 have h4:n<4:=by have:=tmod4 hx;omega
 rw[hn]
 match n,h4 with
 |0,_=>exact⟨32,[],rfl,by decide,by decide⟩
 |1,_=>exact⟨10,[],rfl,by decide,by decide⟩
 |2,_=>exact⟨9,[32,32],rfl,by decide,by decide⟩
 |3,_=>exact⟨32,[10,10],rfl,by decide,by decide⟩
theorem zd7 {s:ByteArray} (hs:s.size≤20000) {p:PgS} {a e:Int} (h:z3b (⟨[],noneA⟩:PgS) z2j s=(p,a,e)):z2t.f s=some (p.f0,p.f1.f0,p.f1.f1,a,e):=by
 unfold z2t.f;rw[if_pos (by omega),h]
def blk11.T:Bool × List (List Nat × List Nat):=(true,[([],[]),([],[]),([],[]),([1,2],[1,2]),([3],[3]),([4],[4]),([],[]),([],[]),([7],[7]),([6,8],[6,8]),([9],[9]),([5,10],[5,10]),([0,11],[0,11]),([12,0,1,2,3,4,5,6,7,8,9,10,11,12],[0,12])])
def blk11.B:List Nat:=[0,0,0,6,14,30,0,0,128,448,960,2046,4095,8191]
theorem blk11.tab:rtab .any (opsOf Tryz.f7 11)=blk11.T:=by kernel_rfl
theorem blk11.bits:z4j blk11.T.2 blk11.B=true:=by kernel_rfl
set_option maxHeartbeats 4000000 in
set_option maxRecDepth 100000 in
theorem zf1 (s:ByteArray) (hs:1500<s.size) (x:Int) (w:World) (hLW:LaidW w) :
 Calls Tryz.prog 7 #[.string s,.int .u8 x] w fun e w'=>e=.returned (.bool true)∧Below w.heap.size w w':=by
 have HA:=z00.mk (fun V (h:LaidW V)=>z68 V h);have HLW:=z00.mk hLW;have e3:decide ((1500:Int)<(s.size:Int))=true:=decide_eq_true (by omega);have e4:decide (1500<s.size)=true:=decide_eq_true hs;clear hLW hs;go_enter Tryz.func7,Tryz.ntmps7
 go_wp2_with fail
 refine(HA.out _ HLW.out).mono ?_;rintro e w1 ⟨rfl,hb⟩;have HB:=z00.mk hb;clear hb
 go_wp2_with fail
 refine(HA.out _ (HLW.out.below HB.out)).mono ?_;rintro e w2 ⟨rfl,hb⟩;have HB2:=z00.mk (z14 HB.out HB.out.size hb);clear hb;go_wp2
 go_ret
 exact⟨rfl,HB2.out⟩
set_option maxHeartbeats 4000000 in
set_option maxRecDepth 100000 in
theorem zek (s:ByteArray) (hs:s.size≤1500) (x:Int) (i:Nat) (h:tokN nmL vlL 0 s.data.toList=.error i) (w:World) (hLW:LaidW w) :
 Calls Tryz.prog 7 #[.string s,.int .u8 x] w fun e w'=>e=.returned (.bool true)∧Below w.heap.size w w':=by
 have HA:=z00.mk (fun V (h:LaidW V)=>z68 V h);have HLW:=z00.mk hLW;have e3:decide ((1500:Int)<(s.size:Int))=false:=decide_eq_false (by omega);have e4:decide (1500<s.size)=false:=decide_eq_false (by omega);have hls:z41 s=([],(i:Int),2):=by unfold z41;rw[if_neg (by omega),z6m,h]
 have h1:=zd7 (s:=s) (p:=⟨[],noneA⟩) (a:=(i:Int)) (e:=2) (by omega) (by unfold z3b;rw[hls];rfl);have h2:z0f.f 9999 s=some ([],(i:Int),2):=by rw[z6x s (by omega) 9999 (by omega),z7e,h]
 have HP:=z00.mk (fun V (h:LaidW V)=>z2t.calls s [] ⟨#[]⟩ [] (i:Int) 2 V h h1);have HT:=z00.mk (fun V=>z0f.calls 9999 s [] (i:Int) 2 V h2);clear hLW hs h1 h2 hls h;go_enter Tryz.func7,Tryz.ntmps7
 go_wp2_with fail
 refine(HA.out _ HLW.out).mono ?_;rintro e w1 ⟨rfl,hb⟩;have HB:=z00.mk hb;clear hb
 go_wp2_with fail
 refine(HP.out _ (HLW.out.below HB.out)).mono ?_;rintro e w2 ⟨v0,v1,rfl,g0,g1,hb⟩;obtain⟨A0,c0,rfl⟩:=Kd.R_slice g0;obtain⟨A1,c1,rfl⟩:=Kd.R_slice g1;have HB2:=z00.mk (z14 HB.out HB.out.size hb);have HBA:=z00.mk (z04 HB2.out (.cells #[.slice A0 (0:Nat) c0,.string ⟨#[]⟩,.slice A1 (0:Nat) c1] 27));clear g0 g1 hb
 go_wp2_with fail
 refine(HT.out _).mono ?_;rintro e w3 ⟨v,rfl,g,hb⟩;obtain⟨A2,c2,rfl⟩:=Kd.R_slice g;have HB3:=z00.mk (z14 HBA.out HBA.out.size hb);clear g hb;go_wp2
 go_ret
 exact⟨by first|rfl|simp[*],HB3.out⟩
set_option maxHeartbeats 16000000 in
set_option maxRecDepth 100000 in
theorem zdm (s:ByteArray) (hs:s.size≤1500) (x:Int) (hx:0≤x∧x≤255) (T:List RtS) (hTl:T.length≤1500) (hTs:∀t ∈ T,t.f1.size≤1500) (L:List UInt8) (hL:z3j (rdOf ByteArray.empty blsB (Int.tmod x 4)).data.toList T=L) (hLs:L.length≤6000)
 (rs:List RlS) (pn:ByteArray) (pa:List TmS) (a b e:Int) (m1:rs.length≤1000) (m2:∀y ∈ rs,z7p y) (m3:pa.length≤1000) (h1:z2t.f s=some (rs,pn,pa,a,e)) (h2:z2t.f (baL L)=some (rs,pn,pa,b,e)) (hT:z0f.f 9999 s=some (T,0,0))
 (hat:(e=0∧a=0)∨((a==(s.size:Int))||T.any fun t=>t.f2==a)=true) (w:World) (hLW:LaidW w) :
 Calls Tryz.prog 7 #[.string s,.int .u8 x] w fun e w'=>e=.returned (.bool true)∧Below w.heap.size w w':=by
 have HA:=z00.mk (fun V (h:LaidW V)=>z68 V h);have HLW:=z00.mk hLW;have e3:decide ((1500:Int)<(s.size:Int))=false:=decide_eq_false (by omega);have e4:decide (1500<s.size)=false:=decide_eq_false (by omega);have HP1:=z00.mk (fun V (h:LaidW V)=>z2t.calls s rs pn pa a e V h h1);have HP2:=z00.mk (fun V (h:LaidW V)=>z2t.calls (baL L) rs pn pa b e V h h2);have HT:=z00.mk (fun V=>z0f.calls 9999 s T 0 0 V hT);have HSM:=z00.mk (zes rs pn pa m1 m2 m3);obtain⟨j,hj⟩:∃j,Int.tmod x 4=j:=⟨_,rfl⟩
 have j0:0≤j:=by rw[←hj];exact(tmod4 hx).1
 have j4:j<4:=by rw[←hj];exact(tmod4 hx).2
 have HJ:=z00.mk (And.intro j0 j4);rw[hj]at hL;obtain⟨bl,hbl⟩:∃bl,rdOf ByteArray.empty blsB j=bl:=⟨_,rfl⟩
 rw[hbl]at hL;have HBL:=z00.mk hbl;have HTL:=z00.mk (And.intro hTl hTs);have HL:=z00.mk (And.intro hL hLs);obtain⟨b0,hb0⟩:∃b0,(a==(s.size:Int))=b0:=⟨_,rfl⟩
 obtain⟨G,hG⟩:∃G,(b0||T.any fun t=>t.f2==a)=G:=⟨_,rfl⟩
 rw[hb0,hG]at hat;have HG:=z00.mk hG;have HAT:=z00.mk hat;clear hLW hs hx h1 h2 hT m1 m2 m3 hTl hTs hL hLs hbl hG hat j0 j4;go_enter Tryz.func7,Tryz.ntmps7
 go_wp2_with fail
 refine(HA.out _ HLW.out).mono ?_;rintro ex w1 ⟨rfl,hb⟩;have HB:=z00.mk hb;clear hb
 go_wp2_with fail
 refine(HP1.out _ (HLW.out.below HB.out)).mono ?_;rintro ex w2 ⟨v0,v1,rfl,g0,g1,hb⟩;obtain⟨A0,c0,rfl⟩:=Kd.R_slice g0;obtain⟨A1,c1,rfl⟩:=Kd.R_slice g1;have HG0:=z00.mk (Kd.R_mono (ok':=fun _=>True) g0 (fun _ _=>trivial));have HG1:=z00.mk (Kd.R_mono (ok':=fun _=>True) g1 (fun _ _=>trivial));have HB2:=z00.mk (z14 HB.out HB.out.size hb);clear g0 g1 hb;obtain⟨n1,en1⟩:∃n,w2.heap.size=n:=⟨_,rfl⟩
 have hN1:=z1h w2 (.cells #[.slice A0 rs.length c0,.string pn,.slice A1 pa.length c1] 27);rw[en1]at hN1;have HN1:=z00.mk hN1;have HBA:=z00.mk (z04 HB2.out (.cells #[.slice A0 rs.length c0,.string pn,.slice A1 pa.length c1] 27));have HC0:=z00.mk (Kd.C_below (Kd.R_reads' HG0.out).2.2 (z04 (Below.refl w2.heap.size w2) (.cells #[.slice A0 rs.length c0,.string pn,.slice A1 pa.length c1] 27)));have HC1:=z00.mk (Kd.C_below (Kd.R_reads' HG1.out).2.2 (z04 (Below.refl w2.heap.size w2) (.cells #[.slice A0 rs.length c0,.string pn,.slice A1 pa.length c1] 27)));have HL1:=z00.mk (Kd.R_reads' HG1.out).2.1;clear hN1 HG0 HG1
 go_wp2_with fail
 generalize w2.alloc (.cells #[.slice A0 rs.length c0,.string pn,.slice A1 pa.length c1] 27)=W1 at HN1 HBA HC0 HC1 ⊢
 refine(HT.out _).mono ?_;rintro ex W ⟨v,rfl,g,hb⟩;obtain⟨A2,c2,rfl⟩:=Kd.R_slice g;have HTC:=z00.mk (Kd.R_reads' g).2.2;have HBW:=z00.mk (z14 HBA.out HBA.out.size hb);have HC0':=z00.mk (Kd.C_below HC0.out hb);have HC1':=z00.mk (Kd.C_below HC1.out hb);have HN1':=z00.mk (z0h HN1.out hb);clear g hb HC0 HC1 HN1;go_wp2
 go_loopg [11,45] (T.length+1) (fun kq v11 v45 w'=>∃(i:Nat) (z:ByteArray),v11=.string z∧v45=.int .i64 i∧kq+i=T.length+1∧i≤T.length∧z00 (z.data.toList++z3j bl.data.toList (T.drop i)=L)∧z00 (Below W.heap.size W w'))
 case atStart=>exact⟨0,⟨#[]⟩,rfl,rfl,by omega,by omega,⟨by rw[List.drop_zero];exact HL.out.1⟩,⟨Below.refl _ _⟩⟩
 case round =>
  obtain⟨i,z,rfl,rfl,hk,hi,HZ,HB⟩:=hrel
  by_cases hlt:i<T.length
  · have y1:decide ((i:Int)<(T.length:Int))=true:=decide_eq_true (by omega);have y2:decide (i<T.length)=true:=decide_eq_true hlt;obtain⟨k1,rfl⟩:∃k1,gk=k1+1:=⟨gk - 1,by omega⟩
    have p0:(0≤(i:Int))=True:=eq_true (by omega);have p1:((i:Int)<(T.length:Int))=True:=eq_true (by omega);obtain⟨ad,rfl,x0,x1,x2⟩:=at_T53 HTC.out (i:Int) (by omega) (by omega);rw[zfs T i hlt]at x0 x1 x2;obtain⟨t,ht⟩:∃t,T[i]=t:=⟨_,rfl⟩
    rw[ht]at x0 x1 x2;have hts:t.f1.size≤1500:=HTL.out.2 t (by rw[←ht];exact List.getElem_mem hlt);have hdr:T.drop i=t::T.drop (i+1):=by rw[List.drop_eq_getElem_cons hlt,ht]
    have hz':z.data.toList++(t.f1.data.toList++(bl.data.toList++z3j bl.data.toList (T.drop (i+1))))=L:=by have:=HZ.out;rw[hdr]at this;exact this
    have hlen:z.size+(t.f1.size+bl.size)≤6000:=by
     have h1:=congrArg List.length hz';have h2:=HL.out.2;simp only[List.length_append,z0n]at h1;omega
    have k1':(9223372036854775807<t.f1.size+bl.size)=False:=eq_false (by omega);have k2':(9223372036854775807<z.size+t.f1.size+bl.size)=False:=eq_false (by omega);have k3':(9223372036854775807<z.size+(t.f1.size+bl.size))=False:=eq_false (by omega);have HZ':=z00.mk (show(z++(t.f1++bl)).data.toList++z3j bl.data.toList (T.drop (i+1))=L by rw[show(z++(t.f1++bl)).data.toList=z.data.toList++(t.f1.data.toList++bl.data.toList) by simp,←hz'];simp only[List.append_assoc]);have e1:=z0r HB.out x1;simp only[Int.toNat_natCast]at e1;clear x0 x1 x2 ht hdr hz' hlen hts HZ
    go_wp2_with fail
    refine z78 (n:=14) (S:=fun w'=>Below wr.heap.size wr w') (ds:=[]) #[false,false,false,false,false,false,false,false,false,false,false,false,false,false] (by kernel_rfl) rfl rfl (z05 (Below.refl _ _)) (fun hHeld=>?_);refine z4a blk11.tab blk11.bits (fun HT_ HW_=>?_)
    generalize wr.drew=V at hHeld ⊢
    refine pure_ (i:=0) (N:=some 48) (v:=?_) (a':=?_) #[true,false,false,false,false,false,false,false,false,false,false,false,false,false] rfl rfl (z2l HT_.out (by kernel_rfl)) (fun _ _ _ h=>h) (Or.inl ⟨by rfl,?_⟩) ?_ ?_
    rotate_left
    · intro w'
      go_simp
      with_reducible rfl
    rotate_left
    · simp only[Act.put,List.setIfInBounds_toArray,List.set_cons_zero,List.set_cons_succ,i64_w,i32_w];rfl
    refine pure_ (i:=1) (N:=some 49) (v:=?_) (a':=?_) #[true,true,false,false,false,false,false,false,false,false,false,false,false,false] rfl rfl (z2l HT_.out (by kernel_rfl)) (fun _ _ _ h=>h) (Or.inl ⟨by rfl,?_⟩) ?_ ?_
    rotate_left
    · intro w'
      go_simp
      with_reducible rfl
    rotate_left
    · simp only[Act.put,List.setIfInBounds_toArray,List.set_cons_zero,List.set_cons_succ,i64_w,i32_w];rfl
    refine pure_ (i:=2) (N:=some 50) (v:=?_) (a':=?_) #[true,true,true,false,false,false,false,false,false,false,false,false,false,false] rfl rfl (z2l HT_.out (by kernel_rfl)) (fun _ _ _ h=>h) (Or.inl ⟨by rfl,?_⟩) ?_ ?_
    rotate_left
    · intro w'
      go_simp
      with_reducible rfl
    rotate_left
    · simp only[Act.put,List.setIfInBounds_toArray,List.set_cons_zero,List.set_cons_succ,i64_w,i32_w];rfl
    refine pure_ (i:=3) (N:=some 51) (v:=?_) (a':=?_) #[true,true,true,true,false,false,false,false,false,false,false,false,false,false] rfl rfl (z2l HT_.out (by kernel_rfl)) (fun _ _ _ h=>h) (Or.inl ⟨by rfl,?_⟩) ?_ ?_
    rotate_left
    · intro w'
      go_simp
      with_reducible rfl
    rotate_left
    · simp only[Act.put,List.setIfInBounds_toArray,List.set_cons_zero,List.set_cons_succ,i64_w,i32_w];rfl
    refine pure_ (i:=4) (N:=some 52) (v:=?_) (a':=?_) #[true,true,true,true,true,false,false,false,false,false,false,false,false,false] rfl rfl (z2l HT_.out (by kernel_rfl)) (fun _ _ _ h=>h) (Or.inl ⟨by rfl,?_⟩) ?_ ?_
    rotate_left
    · intro w'
      go_simp
      with_reducible rfl
    rotate_left
    · simp only[Act.put,List.setIfInBounds_toArray,List.set_cons_zero,List.set_cons_succ,i64_w,i32_w];rfl
    refine pure_ (i:=7) (N:=some 55) (v:=?_) (a':=?_) #[true,true,true,true,true,false,false,true,false,false,false,false,false,false] rfl rfl (z2l HT_.out (by kernel_rfl)) (fun _ _ _ h=>h) (Or.inl ⟨by rfl,?_⟩) ?_ ?_
    rotate_left
    · intro w'
      go_simp
      with_reducible rfl
    rotate_left
    · simp only[Act.put,List.setIfInBounds_toArray,List.set_cons_zero,List.set_cons_succ,i64_w,i32_w];rfl
    refine pure_ (i:=8) (N:=some 56) (v:=?_) (a':=?_) #[true,true,true,true,true,false,false,true,true,false,false,false,false,false] rfl rfl (z2l HT_.out (by kernel_rfl)) (fun _ _ _ h=>h) (Or.inl ⟨by rfl,?_⟩) ?_ ?_
    rotate_left
    · intro w'
      go_simp
      with_reducible rfl
    rotate_left
    · simp only[Act.put,List.setIfInBounds_toArray,List.set_cons_zero,List.set_cons_succ,i64_w,i32_w];rfl
    refine take_ (i:=5) (N:=some 53) (v:=?_) (a':=?_) #[true,true,true,true,true,true,false,true,true,false,false,false,false,false] rfl rfl (z2v HT_.out HW_.out (by kernel_rfl)) (fun _ _ _ h=>h) (Or.inl ⟨by rfl,?_⟩) hHeld ?_ ?_
    rotate_left
    · intro w' sS;have f0:=z0r sS e1;clear sS
      go_simp
      with_reducible rfl
    rotate_left
    · simp only[Act.put,List.setIfInBounds_toArray,List.set_cons_zero,List.set_cons_succ,i64_w,i32_w];rfl
    refine one_ (i:=6) (N:=some 54) #[true,true,true,true,true,true,true,true,true,false,false,false,false,false] rfl rfl (z2w HT_.out (by kernel_rfl)) (by decide) (fun K hK=>?_);refine Kd.R_lit_step Kd.string _ 9 ?hg (N:=54) ?hd (xs:=([(⟨#[32]⟩:ByteArray),(⟨#[10]⟩:ByteArray),(⟨#[9,32,32]⟩:ByteArray),(⟨#[32,10,10]⟩:ByteArray)]:List ByteArray)) (inner:=[.string (⟨#[32]⟩:ByteArray),.string (⟨#[10]⟩:ByteArray),.string (⟨#[9,32,32]⟩:ByteArray),.string (⟨#[32,10,10]⟩:ByteArray)]) (ok:=fun _=>True) (okp:=fun _=>True) ?hr ?hp (fun _ hk=>hk) trivial (Below.refl _ _) (Nat.le_refl _) (by simp) ?_;(case hd=>rfl);(case hg=>rfl);(case hr=>first|(go_simp;done)|(go_simp;rfl));(case hp=>exact(Reps.one (show Kd.M Kd.string _ _ _ (⟨#[32]⟩:ByteArray) [.string (⟨#[32]⟩:ByteArray)]from rfl) (Reps.one (show Kd.M Kd.string _ _ _ (⟨#[10]⟩:ByteArray) [.string (⟨#[10]⟩:ByteArray)]from rfl) (Reps.one (show Kd.M Kd.string _ _ _ (⟨#[9,32,32]⟩:ByteArray) [.string (⟨#[9,32,32]⟩:ByteArray)]from rfl) (Reps.one (show Kd.M Kd.string _ _ _ (⟨#[32,10,10]⟩:ByteArray) [.string (⟨#[32,10,10]⟩:ByteArray)]from rfl) (Reps.none _ _))))));intro vq V6 ho hb hg_ hnew_;clear hg_ hnew_;have hS:=z0g hHeld hb;obtain⟨Ao,co,eo⟩:=Kd.R_slice ho;subst eo;obtain⟨ado,fo,hcell⟩:=Kd.at_string (Kd.R_reads' ho).2.2 j HJ.out.1 HJ.out.2
    cases fo
    rw[show rdOf ByteArray.empty [(⟨#[32]⟩:ByteArray),(⟨#[10]⟩:ByteArray),(⟨#[9,32,32]⟩:ByteArray),(⟨#[32,10,10]⟩:ByteArray)] j=bl from HBL.out]at hcell;have q0:(0≤j)=True:=eq_true HJ.out.1;have q1:(j<4)=True:=eq_true HJ.out.2;clear ho hb;refine hK.out _ _ hS (fun hHeld=>?_);clear hK K hS;refine norm_ (a':=?_) ?_ ?_
    rotate_left
    · show Act.put _ (some 54) _=_;simp only[Act.put,List.setIfInBounds_toArray,List.set_cons_zero,List.set_cons_succ,i64_w,i32_w];rfl
    refine pure_ (i:=9) (N:=some 57) (v:=?_) (a':=?_) #[true,true,true,true,true,true,true,true,true,true,false,false,false,false] rfl rfl (z2l HT_.out (by kernel_rfl)) (fun _ _ _ h=>h) (Or.inl ⟨by rfl,?_⟩) ?_ ?_
    rotate_left
    · intro w'
      go_simp
      with_reducible rfl
    rotate_left
    · simp only[Act.put,List.setIfInBounds_toArray,List.set_cons_zero,List.set_cons_succ,i64_w,i32_w];rfl
    refine one_ (i:=10) (N:=some 58) #[true,true,true,true,true,true,true,true,true,true,true,false,false,false] rfl rfl (z2w HT_.out (by kernel_rfl)) (by decide) (fun K hK=>?_);refine zba (w1:=?_) (v:=?_) (by rfl) rfl ?_ ?_
    rotate_left 2
    · go_simp
      constructor
      · rfl
      · rfl
    clear hcell;refine hK.out _ _ hHeld (fun hHeld=>?_);clear hK K;refine norm_ (a':=?_) ?_ ?_
    rotate_left
    · show Act.put _ (some 58) _=_;simp only[Act.put,List.setIfInBounds_toArray,List.set_cons_zero,List.set_cons_succ,i64_w,i32_w];rfl
    refine pure_ (i:=11) (N:=some 59) (v:=?_) (a':=?_) #[true,true,true,true,true,true,true,true,true,true,true,true,false,false] rfl rfl (z2l HT_.out (by kernel_rfl)) (fun _ _ _ h=>h) (Or.inl ⟨by rfl,?_⟩) ?_ ?_
    rotate_left
    · intro w'
      go_simp
      with_reducible rfl
    rotate_left
    · simp only[Act.put,List.setIfInBounds_toArray,List.set_cons_zero,List.set_cons_succ,i64_w,i32_w];rfl
    refine pure_ (i:=12) (N:=some 60) (v:=?_) (a':=?_) #[true,true,true,true,true,true,true,true,true,true,true,true,true,false] rfl rfl (z2l HT_.out (by kernel_rfl)) (fun _ _ _ h=>h) (Or.inl ⟨by rfl,?_⟩) ?_ ?_
    rotate_left
    · intro w'
      go_simp
      with_reducible rfl
    rotate_left
    · simp only[Act.put,List.setIfInBounds_toArray,List.set_cons_zero,List.set_cons_succ,i64_w,i32_w];rfl
    refine pure_ (i:=13) (N:=some 11) (v:=?_) (a':=?_) #[true,true,true,true,true,true,true,true,true,true,true,true,true,true] rfl rfl (z2l HT_.out (by kernel_rfl)) (fun _ _ _ h=>h) (Or.inl ⟨by rfl,?_⟩) ?_ ?_
    rotate_left
    · intro w'
      go_simp
      with_reducible rfl
    rotate_left
    · simp only[Act.put,List.setIfInBounds_toArray,List.set_cons_zero,List.set_cons_succ,i64_w,i32_w];rfl
    refine done_ (z5v HT_.out (by kernel_rfl)) ?_;have HBV:=z00.mk (z14 HB.out HB.out.size hHeld);have y5:wrap64 ((i:Int)+1)=((i+1:Nat):Int):=by have:=HTL.out.1;unfold wrap64;omega
    clear hHeld e1 HT_ HW_ HB k1' k2' k3';go_wp2
    go_roundg k1
    case rel=>exact⟨i+1,z++(t.f1++bl),rfl,by go_num,by omega,by omega,HZ',HBV⟩
    case measure=>omega
  · obtain rfl:i=T.length:=by omega
    have y1:decide ((T.length:Int)<(T.length:Int))=false:=decide_eq_false (by omega);have hz:=HZ.out;rw[List.drop_length,z3j,List.append_nil]at hz;obtain rfl:z=baL L:=ba_eq (by rw[hz]);have HBo:=z00.mk (z14 HBW.out HBW.out.size HB.out);have HC0:=z00.mk (Kd.C_below HC0'.out HB.out);have HC1:=z00.mk (Kd.C_below HC1'.out HB.out);have HN1:=z00.mk (z0h HN1'.out HB.out);have HTC':=z00.mk (Kd.C_below HTC.out HB.out);clear hz HZ HC0' HC1' HN1' HTC HB
    go_wp2_with fail
    refine(HP2.out _ (HLW.out.below HBo.out)).mono ?_;rintro ex w4 ⟨v2,v3,rfl,g2,g3,hb⟩;obtain⟨A3,c3,rfl⟩:=Kd.R_slice g2;obtain⟨A4,c4,rfl⟩:=Kd.R_slice g3;obtain⟨n2,en2⟩:∃n,w4.heap.size=n:=⟨_,rfl⟩
    have hb3:=z04 hb (.cells #[.slice A3 rs.length c3,.string pn,.slice A4 pa.length c4] 27);have hN2:=z1h w4 (.cells #[.slice A3 rs.length c3,.string pn,.slice A4 pa.length c4] 27);rw[en2]at hN2;have HN2:=z00.mk hN2;have HN1':=z00.mk (z0h HN1.out hb3);have HB4:=z00.mk (z14 HBo.out HBo.out.size hb3);have HQ0:=z00.mk (Kd.C_below (Kd.R_reads' g2).2.2 (z04 (Below.refl w4.heap.size w4) (.cells #[.slice A3 rs.length c3,.string pn,.slice A4 pa.length c4] 27)));have HQ1:=z00.mk (Kd.C_below (Kd.R_reads' g3).2.2 (z04 (Below.refl w4.heap.size w4) (.cells #[.slice A3 rs.length c3,.string pn,.slice A4 pa.length c4] 27)));have HL3:=z00.mk (Kd.R_reads' g3).2.1;have HR0:=z00.mk (Kd.C_below HC0.out hb3);have HR1:=z00.mk (Kd.C_below HC1.out hb3);have HTC:=z00.mk (Kd.C_below HTC'.out hb3);clear hN2 g2 g3 hb hb3 HC0 HC1 HN1 HTC'
    go_upto_region 14 with (fail)
    generalize w4.alloc (.cells #[.slice A3 rs.length c3,.string pn,.slice A4 pa.length c4] 27)=V at HN1' HN2 HB4 HQ0 HQ1 HR0 HR1 HTC ⊢
    go_wp2
    go_loopg [16,74] (T.length+1) (fun kq v16 v74 w'=>∃(i:Nat) (c:Bool),v16=.bool c∧v74=.int .i64 i∧kq+i=T.length+1∧i≤T.length∧z00 ((c||(T.drop i).any fun t=>t.f2==a)=G)∧z00 (Below V.heap.size V w'))
    case atStart=>exact⟨0,b0,by first|rfl|simp[*],rfl,by omega,by omega,⟨by rw[List.drop_zero];exact HG.out⟩,⟨Below.refl _ _⟩⟩
    case round =>
     obtain⟨i,c,rfl,rfl,hk2,hi2,HZ,HB⟩:=hrel
     by_cases hlt:i<T.length
     · have y1:decide ((i:Int)<(T.length:Int))=true:=decide_eq_true (by omega);have y2:decide (i<T.length)=true:=decide_eq_true hlt;obtain⟨k1,rfl⟩:∃k1,gk=k1+1:=⟨gk - 1,by omega⟩
       cases c with
       |true =>
        have HZ':=z00.mk (show(true||(T.drop (i+1)).any fun t=>t.f2==a)=G by have:=HZ.out;rw[Bool.true_or]at this ⊢;exact this);have y5:wrap64 ((i:Int)+1)=((i+1:Nat):Int):=by have:=HTL.out.1;unfold wrap64;omega
        clear HZ;go_wp2
        go_roundg k1
        case rel=>exact⟨i+1,true,rfl,by go_num,by omega,by omega,HZ',HB⟩
        case measure=>omega
       |false =>
        have p0:(0≤(i:Int))=True:=eq_true (by omega);have p1:((i:Int)<(T.length:Int))=True:=eq_true (by omega);obtain⟨ad,rfl,x0,x1,x2⟩:=at_T53 HTC.out (i:Int) (by omega) (by omega);rw[zfs T i hlt]at x0 x1 x2;obtain⟨t,ht⟩:∃t,T[i]=t:=⟨_,rfl⟩
        rw[ht]at x0 x1 x2;have HZ':=z00.mk (show((t.f2==a)||(T.drop (i+1)).any fun t=>t.f2==a)=G by have:=HZ.out;rw[List.drop_eq_getElem_cons hlt,ht,List.any_cons,Bool.false_or]at this;exact this);have e2:=z0r HB.out x2;simp only[Int.toNat_natCast]at e2;have y5:wrap64 ((i:Int)+1)=((i+1:Nat):Int):=by have:=HTL.out.1;unfold wrap64;omega
        clear x0 x1 x2 ht HZ;go_wp2
        go_roundg k1
        case rel=>exact⟨i+1,(t.f2==a),by first|rfl|simp[*],by go_num,by omega,by omega,HZ',HB⟩
        case measure=>omega
     · obtain rfl:i=T.length:=by omega
       have y1:decide ((T.length:Int)<(T.length:Int))=false:=decide_eq_false (by omega);have hz:=HZ.out;rw[List.drop_length,List.any_nil,Bool.or_false]at hz;subst hz;have d0:=z0r HB.out ((z01 HN1'.out 0).trans rfl:V.cell? ⟨n1,0,none⟩=some (.slice A0 rs.length c0));have d1:=z0r HB.out ((z01 HN1'.out 1).trans rfl:V.cell? ⟨n1,1,none⟩=some (.string pn));have d2:=z0r HB.out ((z01 HN1'.out 2).trans rfl:V.cell? ⟨n1,2,none⟩=some (.slice A1 pa.length c1));have q0:=z0r HB.out ((z01 HN2.out 0).trans rfl:V.cell? ⟨n2,0,none⟩=some (.slice A3 rs.length c3));have q1:=z0r HB.out ((z01 HN2.out 1).trans rfl:V.cell? ⟨n2,1,none⟩=some (.string pn));have q2:=z0r HB.out ((z01 HN2.out 2).trans rfl:V.cell? ⟨n2,2,none⟩=some (.slice A4 pa.length c4));have z1:(e==e)=true:=beq_self_eq_true e;clear HZ
       go_wp2_with fail
       refine(HSM.out A0 A3 A1 A4 c0 c3 c1 c4 HL1.out HL3.out _ (Kd.C_below HR0.out HB.out) (Kd.C_below HQ0.out HB.out) (Kd.C_below HR1.out HB.out) (Kd.C_below HQ1.out HB.out)).mono ?_;rintro ex w6 ⟨rfl,hb⟩;have HB6:=z00.mk (z14 HB4.out HB4.out.size (z14 HB.out HB.out.size hb));clear hb d0 d1 d2 q0 q1 q2
       cases c with
       |true =>
        go_wp2
        go_ret
        exact⟨by first|rfl|simp[*],HB6.out⟩
       |false =>
        rcases HAT.out with ⟨rfl,rfl⟩|h
        · go_wp2
          go_ret
          exact⟨by first|rfl|simp[*],HB6.out⟩
        · cases h
def z26.f (k:Nat) (a0:ByteArray) (x:Int):Option Bool:=if 0≤x∧x≤255 then some true else none
theorem z26.calls (k:Nat) (a0:ByteArray) (x:Int) (r:Bool) (w:World) (hLW:LaidW w) (h:z26.f k a0 x=some r) :
 Calls Tryz.prog 7 #[.string a0,.int .u8 x] w fun e w'=>e=.returned (.bool r)∧Below w.heap.size w w':=by
 unfold z26.f at h
 split at h
 case isFalse=>cases h
 rename_i hx;obtain rfl:=Option.some.inj h
 by_cases hs:1500<a0.size
 · exact zf1 a0 hs x w hLW
 cases ht:tokN nmL vlL 0 a0.data.toList with
 |error i=>exact zek a0 (by omega) x i ht w hLW
 |ok l =>
  obtain⟨c,B,hcB,hB,hBn⟩:=blanks_B x hx;obtain⟨hz,p,a,b,e,m1,m2,m3,r1,r2,hat⟩:=zct (s:=a0) (by omega) ht hB hBn;obtain⟨g1,g2,g3⟩:=z8e ht;have hzl:(z3j (c::B) (l.map (tokS2 a0))).length≤6000:=by
   have:(z3j (c::B) (l.map (tokS2 a0))).toArray.size≤6000:=hz
   rwa [List.size_toArray]at this
  refine zdm a0 (by omega) x hx (l.map (tokS2 a0)) (by rw[List.length_map];omega) (fun t ht=>by have:=(g1 t ht).2;omega) (z3j (c::B) (l.map (tokS2 a0))) (by rw[hcB]) hzl p.f0 p.f1.f0 p.f1.f1 a b e m1 m2 m3 (zd7 (by omega) r1) (zd7 (by omega) r2) (by rw[z6x a0 (by omega) 9999 (by omega),z7e,ht]) ?_ w hLW;rcases hat with h|h|⟨t,ht,h⟩
  · exact .inl h
  · right;rw[beq_iff_eq.2 h,Bool.true_or]
  · right
    have hany:((l.map (tokS2 a0)).any fun t=>t.f2==a)=true:=List.any_eq_true.2 ⟨t,ht,beq_iff_eq.2 h⟩;rw[hany,Bool.or_true]
end Go.Proofs.YthebhbomlllpeaaGreatDoor.X
namespace Go.Proofs.YthebhbomlllpeaaGreatDoor.X
theorem z8c (a:ByteArray) (_:a.size≤maxLen) (x:Int) (hx:(Lit.int .u8 x).wf=true):∃k,z26.f k a x=some true:=by
 have h1:0≤x∧x≤255:=by simp[Lit.wf]at hx;exact hx
 exact⟨0,if_pos h1⟩
end Go.Proofs.YthebhbomlllpeaaGreatDoor.X
