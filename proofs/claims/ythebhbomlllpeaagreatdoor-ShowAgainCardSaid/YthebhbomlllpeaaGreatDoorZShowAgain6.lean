/-
  ShowAgain: what the proof needs, put together by a program of this session (shake.py), part 6.
-/
import Derived.Test.YthebhbomlllpeaaGreatDoorZShowAgain5
set_option linter.unusedVariables false
set_option linter.unusedSimpArgs false
namespace Go.Proofs.YthebhbomlllpeaaGreatDoor.X
open Go.RowKit Go.Proofs.YthebhbomlllpeaaGreatDoorW.PrintWords Go.Proofs.YthebhbomlllpeaaGreatDoorW.PrintLast Go.Proofs.YthebhbomlllpeaaGreatDoorW.PrintMore
private theorem zeb (k k':IntKind) (x y:Int):Builtin.max2 (.int k x) (.int k' y)=pure (.int k (mx x y)):=by rw[z4h];rfl
private theorem zfo (k k':IntKind) (x y:Int):Builtin.min2 (.int k x) (.int k' y)=pure (.int k (mn x y)):=by rw[z4i];rfl
attribute [local go_sem] zeb zfo z5e z5d z3s z3r z4l z4k
def z1q.l0:Nat→Int→Int→List (S108)→Int→Int→Option (Int)
 |0,_,_,_,_,_=>none
 |k+1,x6,x7,x16,x17,x18=>if x18<x17 then(if 0≤x18 then(if x18<(x16.length:Int)then(if((z2g x16 x18).f1).toList=([40]:List UInt8)then(z1q.l0 k (wrap64 (x6+1)) (mx x7 (wrap64 (x6+1))) x16 x17 (wrap64 (x18+1)))else(if((z2g x16 x18).f1).toList=([41]:List UInt8)then(z1q.l0 k (mx 0 (wrap64 (x6 - 1))) (mx x7 (mx 0 (wrap64 (x6 - 1)))) x16 x17 (wrap64 (x18+1)))else(z1q.l0 k x6 (mx x7 x6) x16 x17 (wrap64 (x18+1)))))else(none))else(none))else(some x7)
def z1q.f (k:Nat) (a0:ByteArray):Option (Int):=(z4b.f a0).bind fun bt122=>(z1q.l0 k 0 0 bt122.1 (bt122.1.length:Int) 0)
set_option maxHeartbeats 8000000 in
set_option maxRecDepth 100000 in
theorem z1q.calls (k:Nat) (a0:ByteArray) (r:Int) (w:World) (hLW:LaidW w) (h:z1q.f k a0=some r) :
 Calls Tryz.prog 32 #[.string a0] w fun e w'=>e=.returned (.int .i64 r)∧Below w.heap.size w w':=by
 have hu108:=Tryz.underlying108;have HLW:=z00.mk hLW;clear hLW;have HB:=z00.mk (Below.refl w.heap.size w);have H:((z4b.f a0).bind fun bt122=>(z1q.l0 k 0 0 bt122.1 (bt122.1.length:Int) 0))=some r:=h;clear h;replace H:=Option.bind_eq_some_iff.mp H;obtain⟨⟨t122,t123,t124⟩,A20,H⟩:=H;replace H:(z1q.l0 k 0 0 t122 (t122.length:Int) 0)=some r:=H;have A2:=z00.mk A20;clear A20;have H':=z00.mk H;clear H;go_enter Tryz.func32,Tryz.ntmps32
 go_wp2_with (first|((with_reducible refine z1r (f:=63) rfl ?_);refine z4s (some 12) rfl rfl Tryz.func63 (by kernel_rfl) rfl #[.string a0] rfl zA01 ?_;(with_reducible refine(z4b.calls a0 t122 t123 t124 _ ?side1 A2.out).mono ?_);(case side1=>(first|(refine LaidW.below HLW.out ?_;(repeat(first|(with_reducible first|exact HB.out|apply z02|apply z04|apply z05)|exact HB.out));done)|(repeat(first|exact HLW.out|apply LaidW.drewN|apply LaidW.drew|apply LaidW.alloc))));rintro e w3 ⟨v125,rfl,ho0,hb⟩;refine⟨_,rfl,?_⟩;have n0_:=z00.mk (Kd.R_lower ho0 (z0i zA00));have n1_:=z00.mk (z0g zA00 hb);clear HB;have HO126:=n0_;have HB:=n1_;clear n0_ n1_;(try clear hb);(try clear hb2);(try clear hk);(try clear hi);(try clear ho0);obtain⟨Ao4,co4,eo4⟩:=Kd.R_slice HO126.out;subst eo4))
 go_loopg [6,7,18] k (fun kq v6 v7 v18 w'=>∃(x6_1:Int) (x7_1:Int) (x18_1:Int),v6=.int .i64 x6_1∧v7=.int .i64 x7_1∧v18=.int .i64 x18_1∧z00 (z1q.l0 kq x6_1 x7_1 t122 (t122.length:Int) x18_1=some r)∧z00 (kq≤k)∧z00 (Kd.R k108 108 w' w.heap.size (fun _=>True) (.slice Ao4 t122.length co4) t122)∧z00 (Below w.heap.size w w'))
 case atStart=>exact⟨(0),(0),(0),zA07,zA07,zA07,H',⟨Nat.le_refl _⟩,⟨by(with_reducible repeat(first|apply Kd.R_alloc|apply Kd.R_drewN|apply Kd.R_drew));exact HO126.out⟩,⟨zA00⟩⟩
 case round =>
  clear H';(try clear p2);(try clear c3);obtain⟨x6_1,x7_1,x18_1,rfl,rfl,rfl,HA,HK1,HO_16,HB⟩:=hrel
  cases gk with
  |zero=>exact absurd HA.out (by simp[z1q.l0])
  |succ k1 =>
   have H:=HA.out;clear HA;simp only[z1q.l0]at H
   by_cases c5:x18_1<(t122.length:Int)
   · rw[if_pos c5]at H;have c5b0:decide (x18_1<(t122.length:Int))=true:=decide_eq_true c5;clear c5
     by_cases c6:0≤x18_1
     · rw[if_pos c6]at H;have c6b0:decide (0≤x18_1)=true:=decide_eq_true c6;clear c6
       by_cases c7:x18_1<(t122.length:Int)
       · rw[if_pos c7]at H;have c7b0:decide (x18_1<(t122.length:Int))=true:=decide_eq_true c7;clear c7
         by_cases c8:((z2g t122 x18_1).f1).toList=([40]:List UInt8)
         · rw[if_pos c8]at H;have c8b0:(((z2g t122 x18_1).f1).toList==([40]:List UInt8))=true:=beq_iff_eq.mpr c8;have c8b1:(((z2g t122 x18_1).f1).toList !=([40]:List UInt8))=false:=bne_eq_false_iff_eq.mpr c8;clear c8;obtain⟨ji9,hji9⟩:∃j_:Int,(mx x7_1 (wrap64 (x6_1+1)))=j_:=⟨_,rfl⟩
           replace H:(z1q.l0 k1 (wrap64 (x6_1+1)) ji9 t122 (t122.length:Int) (wrap64 (x18_1+1)))=some r:=by first|(rw[hji9]at H;exact H)|(simp only[hji9]at H ⊢;exact H)
           have hji9_:(if x7_1<(wrap64 (x6_1+1))then(wrap64 (x6_1+1))else x7_1)=ji9:=hji9;have H':=z00.mk H;clear H;have p127:0≤(x18_1:Int):=of_decide_eq_true zA03;have q127:x18_1<(t122.length:Int):=of_decide_eq_true zA03;obtain⟨ad127,e127,hx127_0,hx127_1,hx127_2⟩:=zb6 (Kd.R_reads' HO_16.out).2.2 x18_1 p127 q127
           cases e127
           replace p127:=eq_true p127;replace q127:=eq_true q127
           go_wp2_with (first|((with_reducible refine z1u (N:=9) rfl ?_);refine z28 ?hg (N:=9) ?hd (cs:=#[.int .i64 0,.string (⟨#[]⟩:ByteArray),.int .i64 0]) (t:=108) ?hr ?_;(case hd=>rfl);(case hg=>rfl);(case hr=>first|(go_simp;done)|(go_simp;rfl));intro gb128 hg w10 hbox hb;have n0_:=z00.mk (Kd.R_below (Kd.R_elderB zA0n gb128 (Nat.le_of_eq hg.symm)) hb);have n1_:=z00.mk (z0g zA00 hb);have n2_:=z00.mk (hbox);have n3_:=z00.mk ((by rw[hg];exact(z0i zA00):w.heap.size≤gb128));have n4_:=z00.mk ((by rw[hg];exact(z0i zA00):w.heap.size≤gb128));clear HO_16;clear HB;have HO_16:=n0_;have HB:=n1_;have BK128:=n2_;have GW128:=n3_;have GE128:=n4_;clear n0_ n1_ n2_ n3_ n4_;clear hb hbox hg;have hcz11_0:w10.cell? ⟨gb128,0,none⟩=some (.int .i64 0):=(z01 BK128.out 0).trans rfl;have hcz11_1:w10.cell? ⟨gb128,1,none⟩=some (.string (⟨#[]⟩:ByteArray)):=(z01 BK128.out 1).trans rfl;have hcz11_2:w10.cell? ⟨gb128,2,none⟩=some (.int .i64 0):=(z01 BK128.out 2).trans rfl;have hfz11_0:=z03 BK128.out 0;have hfz11_1:=z03 BK128.out 1;have hfz11_2:=z03 BK128.out 2))
           go_roundg k1
           case measure=>have:=HK1.out;omega
           case rel=>exact⟨(wrap64 (x6_1+1)),(ji9),(wrap64 (x18_1+1)),zA07,(by first|rfl|(simp;done)|(simp only[←hji9] <;> (first|rfl|simp))|(simp[*];done)),zA07,H',⟨by have:=HK1.out;omega⟩,⟨zA06⟩,⟨zA0j⟩⟩
         · rw[if_neg c8]at H;have c8b0:(((z2g t122 x18_1).f1).toList==([40]:List UInt8))=false:=beq_eq_false_iff_ne.mpr c8;have c8b1:(((z2g t122 x18_1).f1).toList !=([40]:List UInt8))=true:=bne_iff_ne.mpr c8
           by_cases c12:((z2g t122 x18_1).f1).toList=([41]:List UInt8)
           · rw[if_pos c12]at H;have c12b0:(((z2g t122 x18_1).f1).toList==([41]:List UInt8))=true:=beq_iff_eq.mpr c12;have c12b1:(((z2g t122 x18_1).f1).toList !=([41]:List UInt8))=false:=bne_eq_false_iff_eq.mpr c12;clear c12;obtain⟨ji13,hji13⟩:∃j_:Int,(mx 0 (wrap64 (x6_1 - 1)))=j_:=⟨_,rfl⟩
             replace H:(z1q.l0 k1 ji13 (mx x7_1 (ji13)) t122 (t122.length:Int) (wrap64 (x18_1+1)))=some r:=by first|(rw[hji13]at H;exact H)|(simp only[hji13]at H ⊢;exact H)
             have hji13_:(if 0<(wrap64 (x6_1 - 1))then(wrap64 (x6_1 - 1))else 0)=ji13:=hji13;obtain⟨ji14,hji14⟩:∃j_:Int,(mx x7_1 (ji13))=j_:=⟨_,rfl⟩
             replace H:(z1q.l0 k1 ji13 ji14 t122 (t122.length:Int) (wrap64 (x18_1+1)))=some r:=by first|(rw[hji14]at H;exact H)|(simp only[hji14]at H ⊢;exact H)
             have hji14_:(if x7_1<(ji13)then(ji13)else x7_1)=ji14:=hji14;have H':=z00.mk H;clear H;have p127:0≤(x18_1:Int):=of_decide_eq_true zA03;have q127:x18_1<(t122.length:Int):=of_decide_eq_true zA03;obtain⟨ad127,e127,hx127_0,hx127_1,hx127_2⟩:=zb6 (Kd.R_reads' HO_16.out).2.2 x18_1 p127 q127
             cases e127
             replace p127:=eq_true p127;replace q127:=eq_true q127
             go_wp2_with (first|((with_reducible refine z1u (N:=9) rfl ?_);refine z28 ?hg (N:=9) ?hd (cs:=#[.int .i64 0,.string (⟨#[]⟩:ByteArray),.int .i64 0]) (t:=108) ?hr ?_;(case hd=>rfl);(case hg=>rfl);(case hr=>first|(go_simp;done)|(go_simp;rfl));intro gb128 hg w15 hbox hb;have n0_:=z00.mk (Kd.R_below (Kd.R_elderB zA0n gb128 (Nat.le_of_eq hg.symm)) hb);have n1_:=z00.mk (z0g zA00 hb);have n2_:=z00.mk (hbox);have n3_:=z00.mk ((by rw[hg];exact(z0i zA00):w.heap.size≤gb128));have n4_:=z00.mk ((by rw[hg];exact(z0i zA00):w.heap.size≤gb128));clear HO_16;clear HB;have HO_16:=n0_;have HB:=n1_;have BK128:=n2_;have GW128:=n3_;have GE128:=n4_;clear n0_ n1_ n2_ n3_ n4_;clear hb hbox hg;have hcz16_0:w15.cell? ⟨gb128,0,none⟩=some (.int .i64 0):=(z01 BK128.out 0).trans rfl;have hcz16_1:w15.cell? ⟨gb128,1,none⟩=some (.string (⟨#[]⟩:ByteArray)):=(z01 BK128.out 1).trans rfl;have hcz16_2:w15.cell? ⟨gb128,2,none⟩=some (.int .i64 0):=(z01 BK128.out 2).trans rfl;have hfz16_0:=z03 BK128.out 0;have hfz16_1:=z03 BK128.out 1;have hfz16_2:=z03 BK128.out 2))
             go_roundg k1
             case measure=>have:=HK1.out;omega
             case rel=>exact⟨(ji13),(ji14),(wrap64 (x18_1+1)),(by first|rfl|(simp;done)|(simp only[←hji13] <;> (first|rfl|simp))|(simp[*];done)),(by first|rfl|(simp;done)|(simp only[←hji14] <;> (first|rfl|simp))|(simp[*];done)),zA07,H',⟨by have:=HK1.out;omega⟩,⟨zA06⟩,⟨zA0j⟩⟩
           · rw[if_neg c12]at H;have c12b0:(((z2g t122 x18_1).f1).toList==([41]:List UInt8))=false:=beq_eq_false_iff_ne.mpr c12;have c12b1:(((z2g t122 x18_1).f1).toList !=([41]:List UInt8))=true:=bne_iff_ne.mpr c12;obtain⟨ji17,hji17⟩:∃j_:Int,(mx x7_1 x6_1)=j_:=⟨_,rfl⟩
             replace H:(z1q.l0 k1 x6_1 ji17 t122 (t122.length:Int) (wrap64 (x18_1+1)))=some r:=by first|(rw[hji17]at H;exact H)|(simp only[hji17]at H ⊢;exact H)
             have hji17_:(if x7_1<x6_1 then x6_1 else x7_1)=ji17:=hji17;have H':=z00.mk H;clear H;have p127:0≤(x18_1:Int):=of_decide_eq_true zA03;have q127:x18_1<(t122.length:Int):=of_decide_eq_true zA03;obtain⟨ad127,e127,hx127_0,hx127_1,hx127_2⟩:=zb6 (Kd.R_reads' HO_16.out).2.2 x18_1 p127 q127
             cases e127
             replace p127:=eq_true p127;replace q127:=eq_true q127
             go_wp2_with (first|((with_reducible refine z1u (N:=9) rfl ?_);refine z28 ?hg (N:=9) ?hd (cs:=#[.int .i64 0,.string (⟨#[]⟩:ByteArray),.int .i64 0]) (t:=108) ?hr ?_;(case hd=>rfl);(case hg=>rfl);(case hr=>first|(go_simp;done)|(go_simp;rfl));intro gb128 hg w18 hbox hb;have n0_:=z00.mk (Kd.R_below (Kd.R_elderB zA0n gb128 (Nat.le_of_eq hg.symm)) hb);have n1_:=z00.mk (z0g zA00 hb);have n2_:=z00.mk (hbox);have n3_:=z00.mk ((by rw[hg];exact(z0i zA00):w.heap.size≤gb128));have n4_:=z00.mk ((by rw[hg];exact(z0i zA00):w.heap.size≤gb128));clear HO_16;clear HB;have HO_16:=n0_;have HB:=n1_;have BK128:=n2_;have GW128:=n3_;have GE128:=n4_;clear n0_ n1_ n2_ n3_ n4_;clear hb hbox hg;have hcz19_0:w18.cell? ⟨gb128,0,none⟩=some (.int .i64 0):=(z01 BK128.out 0).trans rfl;have hcz19_1:w18.cell? ⟨gb128,1,none⟩=some (.string (⟨#[]⟩:ByteArray)):=(z01 BK128.out 1).trans rfl;have hcz19_2:w18.cell? ⟨gb128,2,none⟩=some (.int .i64 0):=(z01 BK128.out 2).trans rfl;have hfz19_0:=z03 BK128.out 0;have hfz19_1:=z03 BK128.out 1;have hfz19_2:=z03 BK128.out 2))
             go_roundg k1
             case measure=>have:=HK1.out;omega
             case rel=>exact⟨(x6_1),(ji17),(wrap64 (x18_1+1)),zA07,(by first|rfl|(simp;done)|(simp only[←hji17] <;> (first|rfl|simp))|(simp[*];done)),zA07,H',⟨by have:=HK1.out;omega⟩,⟨zA06⟩,⟨zA0j⟩⟩
       · rw[if_neg c7]at H;exact absurd H (by simp)
     · rw[if_neg c6]at H;exact absurd H (by simp)
   · rw[if_neg c5]at H;have c5b0:decide (x18_1<(t122.length:Int))=false:=decide_eq_false c5;clear c5;obtain rfl:=Option.some.inj H;go_wp2
     go_ret
     exact⟨by first|rfl|(simp[z12,z13] <;> rfl)|(simp[*,z12,z13] <;> rfl),by repeat(first|(with_reducible first|exact HB.out|apply z02|apply z04|apply z05)|exact HB.out)⟩

def Err {α:Type} (p:Prs α):Prop:=∀l q,p l=.error q→q.2≠0
theorem bnd_e {α β:Type} {p:Except (Nat × Int) (α × List TK)} {f:α→List TK→Except (Nat × Int) β} {q:Nat × Int} (h:bnd p f=.error q):p=.error q∨∃x r,p=.ok (x,r)∧f x r=.error q:=by
 cases p with
 |error e=>exact Or.inl (show(Except.error e:Except (Nat × Int) (α × List TK))=.error q by simp only[bnd]at h;injection h with h;rw[h])
 |ok y=>exact Or.inr ⟨y.1,y.2,rfl,h⟩
theorem z79:Err z0w:=fun l q h=>by
 cases l with
 |nil=>simp only[z0w]at h;injection h with h;subst h;simp
 |cons t r =>
  simp only[z0w]at h
  split at h
  · cases h
  · injection h with h;subst h;simp
theorem z5k (s:List UInt8):Err (wantP s):=fun l q h=>by
 unfold wantP at h
 split at h
 · cases h
 · injection h with h;subst h;simp
theorem zh9 {s:List UInt8} {k:Int} {one:Prs (List StS)} (h1:Err one):∀(n:Nat) (acc:List StS),Err (rowL s k one n acc)
 |0,acc=>fun l q h=>by simp only[rowL]at h;cases h
 |n+1,acc=>fun l q h=>by
  simp only[rowL]at h
  split at h
  · rcases bnd_e h with h|⟨x,r,_,h⟩
    · exact h1 _ q h
    · exact zh9 h1 n _ r q h
  · cases h
theorem zdt {s:List UInt8} {k:Int} {one:Prs (List StS)} (h1:Err one):Err (rowP s k one):=fun l q h=>by
 unfold rowP at h;rcases bnd_e h with h|⟨x,r,_,h⟩
 · exact h1 _ q h
 · exact zh9 h1 _ _ r q h
theorem zhw {inner:Option (Prs (List StS))} (hi:∀p,inner=some p→Err p):Err (partW inner):=fun l q h=>by
 unfold partW at h;rcases bnd_e h with h|⟨x,r,_,h⟩
 · unfold baseP at h
   split at h
   · cases inner with
     |none=>injection h with h;subst h;simp
     |some p =>
      rcases bnd_e h with h|⟨x,r,_,h⟩
      · exact hi p rfl _ q h
      · rcases bnd_e h with h|⟨x,r,_,h⟩
        · exact z5k _ _ q h
        · cases h
   · split at h
     · rcases bnd_e h with h|⟨x,r,_,h⟩
       · exact z79 _ q h
       · cases h
     · rcases bnd_e h with h|⟨x,r,_,h⟩
       · exact z79 _ q h
       · cases h
 · cases h
theorem zi8:∀d,Err (partP d)∧Err (pathP d)
 |0=>by
  have h:Err (partP 0):=zhw (fun p h=>by cases h);exact⟨h,zdt (zdt h)⟩
 |d+1=>by
  have h:Err (partP (d+1)):=zhw (fun p h=>by injection h with h;subst h;exact(zi8 d).2);exact⟨h,zdt (zdt h)⟩
theorem zl2:Err z88:=fun l q h=>by
 unfold z88 at h;rcases bnd_e h with h|⟨x,r,_,h⟩
 · exact(zi8 32).2 _ q h
 · 
   split at h
   · injection h with h;subst h;simp
   · cases h
theorem zar {full:List UInt8}:∀(l:List (Nat × Nat × Nat)) (a:Nat),covT nmL vlL full a l→∀x ∈ l,nextN nmL vlL (full.drop x.2.1)=some (x.1,x.2.2)∧x.2.1+x.2.2≤full.length∧1≤x.2.2
 |[],_,_=>fun x hx=>by cases hx
 |y::l,a,⟨h1,h2,h3,h4,h5,h6,h7,h8⟩=>fun x hx=>by
  rcases List.mem_cons.1 hx with rfl|hx
  · exact⟨h6,h3,h2⟩
  · exact zar l _ h8 x hx
theorem z8m (s:ByteArray) (x:Nat × Nat × Nat):(tokS s x).f1.data.toList=(s.data.toList.drop x.2.1).take x.2.2:=by
 simp only[tokS];rw[z4o,z3n];simp
def TokOk (t:TK):Prop:=0<t.2.size∧(t.1=1→t.2.data.toList≠[40]∧t.2.data.toList≠[41])
theorem tok_ok {s:ByteArray} {l:List (Nat × Nat × Nat)} (h:tokN nmL vlL 0 s.data.toList=.ok l):∀x ∈ l,TokOk (tkOf (tokS s x)):=fun x hx=>by
 have hc:=zlp nmL vlL s.data.toList _ 0 l (Nat.le_refl _) (by simpa using h);obtain⟨hn,hle,h1⟩:=zar l 0 hc x hx;have ht:=z8m s x;refine⟨?_,fun h0=>?_⟩
 · show 0<(tokS s x).f1.size;rw[←z0f,ht,List.length_take,List.length_drop];omega
 · have hk:x.1=1:=by
    have:((x.1:Nat):Int)=1:=h0;omega
   rw[hk]at hn;show(tokS s x).f1.data.toList≠[40]∧(tokS s x).f1.data.toList≠[41];rw[ht]
   cases hd:s.data.toList.drop x.2.1 with
   |nil=>exact⟨by simp,by simp⟩
   |cons c r =>
    rw[hd]at hn;obtain⟨hs,_⟩:=zfs hn;refine⟨fun e=>?_,fun e=>?_⟩
    all_goals
     obtain⟨m,hm⟩:∃m,x.2.2=m+1:=⟨x.2.2 - 1,by omega⟩
     rw[hm,List.take_succ_cons]at e;injection e with e1 e2
     subst e1;exact absurd hs (by decide)
theorem lex_ok {s:ByteArray} (hs:s.size≤20000) (h:(z2s s).2.2=0):(∀t ∈ (z2s s).1.map tkOf,TokOk t)∧(z2s s).1.length≤s.size:=by
 unfold z2s at h ⊢;rw[if_neg (by omega)]at h ⊢;unfold z7o at h ⊢
 cases ht:tokN nmL vlL 0 s.data.toList with
 |error i=>rw[ht]at h;cases h
 |ok l =>
  simp only;refine⟨fun t hm=>?_,?_⟩
  · rw[List.map_map,List.mem_map]at hm;obtain⟨x,hx,rfl⟩:=hm;exact tok_ok ht x hx
  · have hn:=zbb nmL vlL _ s.data.toList 0 l (Nat.le_refl _) ht;rw[z0f]at hn
    simpa using hn
theorem mx8 (a b:Nat):mx (a:Int) (b:Int)=((max a b:Nat):Int):=by unfold mx;split <;> omega
theorem zjv (ts:List S108) (hl:ts.length≤20000):∀(d i o m k:Nat),ts.length - i=d→i≤ts.length→d<k→o≤i→z1q.l0 k (o:Int) (m:Int) ts (ts.length:Int) (i:Int)=some (((deepF (o,m) (txts ((ts.drop i).map tkOf))).2:Nat):Int):=by
 intro d
 induction d with
 |zero =>
  intro i o m k hd hi hk ho;obtain⟨k,rfl⟩:∃j,k=j+1:=⟨k - 1,by omega⟩
  simp only[z1q.l0];rw[if_neg (by omega),List.drop_eq_nil_of_le (by omega)];rfl
 |succ d ih =>
  intro i o m k hd hi hk ho;obtain⟨k,rfl⟩:∃j,k=j+1:=⟨k - 1,by omega⟩
  have hlt:i<ts.length:=by omega
  simp only[z1q.l0];rw[if_pos (by omega),if_pos (by omega),if_pos (by omega)];have hr:z2g ts (i:Int)=ts[i]:=by
   show ts.getD (Int.toNat (i:Int)) _=_;rw[Int.toNat_natCast,List.getD_eq_getElem?_getD,List.getElem?_eq_getElem hlt];rfl
  have hw1:wrap64 ((i:Int)+1)=((i+1:Nat):Int):=by unfold wrap64;omega
  have hw2:wrap64 ((o:Int)+1)=((o+1:Nat):Int):=by unfold wrap64;omega
  have hw3:mx 0 (wrap64 ((o:Int) - 1))=((o - 1:Nat):Int):=by
   have:wrap64 ((o:Int) - 1)=(o:Int) - 1:=by unfold wrap64;omega
   rw[this];unfold mx;split <;> omega
  have hf:deepF (o,m) (txts ((ts.drop i).map tkOf))=deepF (deep1 (o,m) (ts[i].f1.data.toList)) (txts ((ts.drop (i+1)).map tkOf)):=by
   rw[List.drop_eq_getElem_cons hlt];rfl
  rw[hr,hw1,hw2,hw3,hf,z2k]
  by_cases h40:ts[i].f1.data.toList=[40]
  · rw[if_pos h40,mx8,ih (i+1) (o+1) (max m (o+1)) k (by omega) (by omega) (by omega) (by omega)];unfold deep1;rw[if_pos h40]
  · rw[if_neg h40]
    by_cases h41:ts[i].f1.data.toList=[41]
    · rw[if_pos h41,mx8,ih (i+1) (o - 1) (max m (o - 1)) k (by omega) (by omega) (by omega) (by omega)];unfold deep1;rw[if_neg h40,if_pos h41]
    · rw[if_neg h41,mx8,ih (i+1) o (max m o) k (by omega) (by omega) (by omega) (by omega)];unfold deep1;rw[if_neg h40,if_neg h41]
theorem deep_f (s:ByteArray) (hs:s.size≤20000) (hl:(z2s s).1.length≤20000):z1q.f ((z2s s).1.length+1) s=some (((deepF (0,0) (txts ((z2s s).1.map tkOf))).2:Nat):Int):=by
 unfold z1q.f;rw[lex_f s (by omega)];exact zjv (z2s s).1 hl _ 0 0 0 _ rfl (Nat.zero_le _) (by omega) (Nat.le_refl _)
theorem all_err {α:Type} {p:Prs α} (hp:Err p) {l:List TK} {q:Nat × Int} (h:allP p l=.error q):q.2≠0:=by
 unfold allP at h
 split at h
 · rename_i e he;injection h with h;rw[←h];exact hp l e he
 · cases h
 · injection h with h;subst h;simp

def eachL (ws:List (List UInt8)) (sep:List UInt8):List UInt8 × Bool:=if ws.any (·.isEmpty)=true then([],false)else(Lib.join ws sep,true)
abbrev baL (l:List UInt8):ByteArray:=⟨l.toArray⟩
theorem z17 (l:List UInt8):(baL l).toList=l:=by rw[ByteArray.toList_eq]
theorem z1v:(⟨#[]⟩:ByteArray).toList=[]:=by rw[ByteArray.toList_eq]
theorem zhk:∀(r:List (List UInt8)) (sep:List UInt8) (m:Nat),(∀x ∈ r,x.length≤m)→(Lib.joinTail sep r).length≤r.length * (m+sep.length)
 |[],sep,m,h=>by simp[Lib.joinTail]
 |x::r,sep,m,h=>by
  have h1:=h x (by simp);have h2:=zhk r sep m (fun z hz=>h z (List.mem_cons_of_mem _ hz));have e:Lib.joinTail sep (x::r)=sep++x++Lib.joinTail sep r:=by simp[Lib.joinTail]
  rw[e,List.length_append,List.length_append,List.length_cons,Nat.add_mul,Nat.one_mul];omega
theorem zhf (ws:List (List UInt8)) (sep:List UInt8) (m:Nat) (h:∀x ∈ ws,x.length≤m):(Lib.join ws sep).length≤ws.length * (m+sep.length):=by
 cases ws with
 |nil=>simp[Lib.join_nil]
 |cons x r =>
  have h1:=h x (by simp);have h2:=zhk r sep m (fun z hz=>h z (List.mem_cons_of_mem _ hz));rw[Lib.join_cons,List.length_append,List.length_cons,Nat.add_mul,Nat.one_mul];omega
theorem z9s {g:Nat→List UInt8} {n:Nat} {sep:ByteArray} (hg:∀i,(g i).length≤100000000) (hs:sep.size≤2) (hn:n≤1000):(Lib.join ((List.range n).map g) sep.data.toList).length≤140737488355328:=by
 have h1:=zhf ((List.range n).map g) sep.data.toList 100000000 (fun x hx=>by obtain⟨j,_,rfl⟩:=List.mem_map.1 hx;exact hg j);have h2:sep.data.toList.length≤2:=by rw[z0f];exact hs
 rw[List.length_map,List.length_range]at h1;have h3:n * (100000000+sep.data.toList.length)≤1000 * 100000002:=Nat.mul_le_mul hn (by omega);omega
theorem zm1:(Tryz.prog.info? 9).map (fun i=>(i.zero,i.size,i.bytes))=some (some (.string ⟨#[]⟩),1,16):=by kernel_rfl
theorem zm5 {W:World} {A:Option Addr} {ws:List ByteArray} (h:Kd.C Kd.string W A ws.length ws) (hn:0<ws.length):∃bk o,A=some ⟨bk,o,none⟩∧bk<W.heap.size∧∀(j:Nat) x,ws[j]?=some x→W.cell? ⟨bk,o+j,none⟩=some (.string x):=by
 obtain⟨⟨bk,o,sub⟩,rfl,hc⟩:=h.2.2 hn;have get:∀(j:Nat) x,ws[j]?=some x→W.cell? ((⟨bk,o,sub⟩:Addr).add j)=some (.string x):=fun j x hj=>by
  obtain⟨c,hl,hk,hcell⟩:=hc j x hj;have hk:c=[.string x]:=hk;subst hk;have:=hcell 0 (.string x) rfl;have e:j * (Kd.string).sz+0=j:=by show j * 1+0=j;omega
  rwa [e]at this
 have h0:=get 0 ws[0] (List.getElem?_eq_getElem hn);have hs:sub=none:=by
  cases sub with
  |none=>rfl
  |some s =>
   exfalso
   unfold Addr.add at h0
   revert h0
   unfold World.cell?
   simp
   split <;> simp
 subst hs;refine⟨bk,o,rfl,?_,fun j x hj=>?_⟩
 · have hb:(W.heap[bk]?).isSome=true:=by
    unfold World.cell? at h0
    simp[Addr.add]at h0
    cases hh:W.heap[bk]? with
    |none=>rw[hh]at h0;cases h0
    |some y=>rfl
   obtain⟨y,hy⟩:=Option.isSome_iff_exists.1 hb;exact(Array.getElem?_eq_some_iff.1 hy).1
 · have:=get j x hj
   rwa [Addr.add_mid]at this
theorem z9u {W:World} {base:Nat} {ok:Nat→Prop} {A:Option Addr} {c:Nat} {ws:List ByteArray} (sep:ByteArray) (h:Kd.R Kd.string 9 W base ok (.slice A ws.length c) ws) (hl:(Lib.join (ws.map (·.data.toList)) sep.data.toList).length≤140737488355328) (hn:ws.length≤1000) :
 Calls Tryz.prog 73 #[.slice A ws.length c,.string sep] W fun e W'=>e=.returned (.string ⟨(Lib.join (ws.map (·.data.toList)) sep.data.toList).toArray⟩)∧Below W.heap.size W W':=by
 obtain⟨A',c',he,hcap,hC⟩:=Kd.R_reads h;injection he with he1 he2 he3
 subst he1 he3
 cases ws with
 |nil =>
  refine(Tryz.strings_Join_none A c sep W).mono ?_;rintro e w' ⟨rfl,rfl⟩;exact⟨rfl,Below.refl _ _⟩
 |cons x ws =>
  obtain⟨bk,o,rfl,hbk,hcells⟩:=zm5 hC (by simp);exact Tryz.strings_Join bk o c (x::ws) sep W hcells hbk (by omega) hcap hl
def eachG (g:Nat→List UInt8) (n:Nat) (sep:List UInt8):List UInt8 × Bool:=eachL ((List.range n).map g) sep
theorem zdd {g:Nat→List UInt8} {n i:Nat} {sep:List UInt8} (hi:i<n) (h:g i=[]):eachG g n sep=([],false):=by
 unfold eachG eachL;rw[if_pos];rw[List.any_eq_true];exact⟨g i,List.mem_map.2 ⟨i,List.mem_range.2 hi,rfl⟩,by rw[h];rfl⟩
theorem zaz {g:Nat→List UInt8} {n:Nat} {sep:List UInt8} (h:∀i,i<n→g i≠[]):eachG g n sep=(Lib.join ((List.range n).map g) sep,true):=by
 unfold eachG eachL;rw[if_neg];rw[List.any_eq_true];rintro⟨x,hx,he⟩;obtain⟨i,hi,rfl⟩:=List.mem_map.1 hx;exact h i (List.mem_range.1 hi) (List.isEmpty_iff.1 he)
theorem z9n (g:Nat→List UInt8) (i:Nat):(List.range (i+1)).map (fun j=>baL (g j))=(List.range i).map (fun j=>baL (g j))++[baL (g i)]:=by rw[List.range_succ,List.map_append];rfl
theorem z5n (g:Nat→List UInt8) (n:Nat):((List.range n).map (fun j=>baL (g j))).map (·.data.toList)=(List.range n).map g:=by rw[List.map_map];rfl
set_option maxHeartbeats 4000000 in
set_option maxRecDepth 100000 in
theorem zgx (w:World) (A:Option Addr) (c:Nat) (xs:List S60) (p2 p3:Value) (g:Nat→List UInt8) (sep:ByteArray) (hsep:sep.size≤2) (hC:Kd.C k60 w A xs.length xs) (hn:xs.length≤1000) (hg:∀i,(g i).length≤100000000)
 (hby:∀(W:World) (i:Nat),i<xs.length→Below w.heap.size w W→Calls Tryz.prog 69 #[.int .i64 i,.agg #[.string (z1j xs i).f0,.int .i64 (z1j xs i).f1.f0,.int .i64 (z1j xs i).f1.f1,.string (z1j xs i).f1.f2],p2,p3] W fun e W'=>e=.returned (.string (baL (g i)))∧Below W.heap.size W W') :
 Calls Tryz.prog 71 #[.slice A xs.length c,.func (.func 69) #[] #[p2,p3],.string sep] w fun e w'=>e=.returned (.tuple #[.string (baL (eachG g xs.length sep.data.toList).1),.bool (eachG g xs.length sep.data.toList).2])∧Below w.heap.size w w':=by
 have HC:=z00.mk hC;have HBY:=z00.mk hby;have HG:=z00.mk (And.intro hg hsep);have HR:=z00.mk (Kd.R_nil Kd.string 9 w w.heap.size (fun k=>w.heap.size≤k));have HB:=z00.mk (Below.refl w.heap.size w);clear hC hby hg hsep;go_enter Tryz.func71,Tryz.ntmps71;go_wp2
 go_loopg [8,14] (xs.length+1) (fun kq v8 v14 w'=>∃(i:Nat),v14=.int .i64 i∧kq+i=xs.length+1∧i≤xs.length∧z00 (∀j,j<i→g j≠[])∧z00 (Kd.R Kd.string 9 w' w.heap.size (fun k=>w.heap.size≤k) v8 ((List.range i).map (fun j=>baL (g j))))∧z00 (Below w.heap.size w w'))
 case atStart=>exact⟨0,rfl,by omega,by omega,⟨fun j hj=>by omega⟩,HR,HB⟩
 case round =>
  clear HR HB;obtain⟨i,rfl,hk,hi,HE,HV,HB⟩:=hrel
  by_cases hlt:i<xs.length
  · have hz:decide ((i:Int)<(xs.length:Int))=true:=decide_eq_true (by omega);have hz2:decide (i<xs.length)=true:=decide_eq_true hlt;obtain⟨k1,rfl⟩:∃k1,gk=k1+1:=⟨gk - 1,by omega⟩
    obtain⟨ad,rfl,x0,x1,x2,x3⟩:=zf5 (Kd.C_below HC.out HB.out) (i:Int) (by omega) (by omega);simp only[Int.toNat_natCast]at x0 x1 x2 x3;have hsz:=HB.out.size
    go_wp2_with fail
    refine(HBY.out _ i hlt ?_).mono ?_
    · exact z02 HB.out _
    rintro e w1 ⟨rfl,hb⟩;have hb1:Below wr.heap.size wr w1:=z06 ((Below.refl wr.heap.size wr).alloc (Nat.le_refl _) _) (by simp) hb;have HB1:=z00.mk (z06 HB.out HB.out.size hb1);have HV1:=z00.mk (Kd.R_below HV.out hb1);clear hb hb1;obtain⟨b,hbE⟩:∃b,baL (g i)=b:=⟨_,rfl⟩
    by_cases he:g i=[]
    · have e1:(b.toList==([]:List UInt8))=true:=by rw[←hbE,he,z17];exact beq_self_eq_true _
      have e2:(b.toList==(⟨#[]⟩:ByteArray).toList)=true:=by rw[←hbE,he];exact beq_self_eq_true _
      have HE:=z00.mk (zdd (sep:=sep.data.toList) hlt he);clear he;rw[hbE];clear hbE;go_wp2
      go_ret2
      rw[HE.out];exact⟨rfl,HB1.out⟩
    · have e1:(b.toList==([]:List UInt8))=false:=by rw[beq_eq_false_iff_ne,←hbE,z17];exact he
      have e2:(b.toList==(⟨#[]⟩:ByteArray).toList)=false:=by rw[beq_eq_false_iff_ne,←hbE,z17];exact fun h=>he (h.trans z1v)
      have HBE:=z00.mk (And.intro hbE he);obtain⟨A8,c8,rfl⟩:=Kd.R_slice HV1.out;have HL:z00 (((List.range i).map fun j=>baL (g j)).length≤1000):=⟨by rw[List.length_map,List.length_range];omega⟩
      rw[hbE];clear hbE he;obtain⟨L,hL⟩:∃L,((List.range i).map fun j=>baL (g j))=L:=⟨_,rfl⟩
      rw[hL]at HV1 HL;rw[hL];have HLE:=z00.mk hL;clear hL
      go_wp2_with ((with_reducible refine z1n (b:=.append) (xs:=#[.tmp 25,.tmp 27]) rfl ?_);at_builtin;refine Kd.R_append Kd.string (w0:=w) w.heap.size rfl (.tmp 25) (.tmp 27) 54 9 (.string ⟨#[]⟩) 16 rfl Tryz.underlying54 zm1 rfl (by decide) (by decide) (.slice A8 L.length c8) L b [.string b] (fun k=>w.heap.size≤k) (fun _=>False) rfl zA0f rfl (fun _ hk=>hk.elim) (fun k hk=>Nat.le_trans HB1.out.size hk) HV1.out HB1.out HB1.out.size (by have:=HL.out;omega) ?_;intro v1 w2 ho hb hg hat;have HV2:=z00.mk ho;have HB2:=z00.mk hb;clear ho hb hg hat)
      go_roundg k1
      case rel=>exact⟨i+1,by go_num,by omega,by omega,⟨fun j hj=>by rcases Nat.lt_succ_iff_lt_or_eq.1 hj with h|h;exact HE.out j h;exact h ▸ HBE.out.2⟩,⟨by rw[z9n,HBE.out.1,HLE.out];exact HV2.out⟩,HB2⟩
      case measure=>omega
  · obtain rfl:i=xs.length:=by omega
    have hz:decide ((xs.length:Int)<(xs.length:Int))=false:=decide_eq_false (by omega);obtain⟨A8,c8,rfl⟩:=Kd.R_slice HV.out;have hj:=z9u sep HV.out (by rw[z5n];exact z9s HG.out.1 HG.out.2 hn) (by rw[List.length_map,List.length_range];exact hn);rw[z5n]at hj;obtain⟨L,hL⟩:∃L,((List.range xs.length).map fun j=>baL (g j))=L:=⟨_,rfl⟩
    rw[hL]at hj ⊢;clear HV hL;have HJ:=z00.mk hj;have HE2:=z00.mk (zaz (sep:=sep.data.toList) HE.out);clear hj
    go_wp2_with fail
    refine HJ.out.mono ?_;rintro e w1 ⟨rfl,hb⟩;have HB1:=z00.mk (z06 HB.out HB.out.size hb);clear hb;go_wp2
    go_ret2
    rw[HE2.out];exact⟨rfl,HB1.out⟩
end Go.Proofs.YthebhbomlllpeaaGreatDoor.X
namespace Go.Proofs.YthebhbomlllpeaaGreatDoor.X
def predN (s:ByteArray):Bool:=nmL s.data.toList&&!keyL s.data.toList
def z6c (v:VlS):Bool:=v.f0==0&&(v.f1==0&&(v.f2.toList==([]:List UInt8)))
def z59 (t:TmS):Bool:=t.f0.toList==([]:List UInt8)&&z6c t.f1
def termL (t:TmS):List UInt8 :=
 if t.f0.data.toList=[]then textL t.f1.f0 t.f1.f1 t.f1.f2 else if varL t.f0.data.toList=true then(if z6c t.f1=true then t.f0.data.toList else[])else[]
def foldW (f:Int):List UInt8 :=
 if f=1 then[99,111,117,110,116]else if f=2 then[115,117,109]else if f=3 then[109,105,110]else if f=4 then[109,97,120]else if f=5 then[109,101,97,110]else[]
def argL (f:Int) (last:Bool) (t:TmS):List UInt8 :=
 if f=0∨last=false then termL t else if t.f0.data.toList=[]∨termL t=[]then[]else foldW f++([40]++(termL t++[41]))
def argsL (f:Int):List TmS→List (List UInt8)
 |[]=>[]
 |[t]=>[argL f true t]
 |t::u::r=>argL f false t::argsL f (u::r)
def headL (a:AtS) (f:Int):List UInt8 :=
 if(eachL (argsL f a.f1) [44,32]).2=false∨predN a.f0=false∨8<a.f1.length∨(0<f∧a.f1=[])then[]
 else if a.f1=[]then a.f0.data.toList
 else a.f0.data.toList++([40]++((eachL (argsL f a.f1) [44,32]).1++[41]))
def atomL (a:AtS):List UInt8:=headL a 0
abbrev Pc:=List UInt8 × Int
def z1p (p:Pc) (b:Int):List UInt8:=if p.2<b then[40]++(p.1++[41])else p.1
def z4t (x:StS):List UInt8:=if predN x.f1=true then(if x.f0=2 then[94]++x.f1.data.toList else if x.f0=1 then x.f1.data.toList else[])else[]
def markL (k:Int):List UInt8:=if k=3 then[47]else if k=4 then[124]else if k=5 then[42]else if k=6 then[43]else[63]
def push1 (st:List Pc) (x:StS):Option (List Pc) :=
 if x.f0<1∨7<x.f0 then none
 else if x.f0≤2 then(if z4t x=[]then none else some ((z4t x,3)::st))
 else if x.f1.data.toList≠[]then none
 else match st with
  |[]=>none
  |b::r =>
   if x.f0≤4 then
    match r with
    |[]=>none
    |a::r=>if x.f0=3 then some ((z1p a 2++(markL 3++z1p b 3),2)::r)else some ((a.1++(markL 4++z1p b 2),1)::r)
   else some ((z1p b 3++markL x.f0,3)::r)
def z2t:List Pc→List StS→Option (List Pc)
 |st,[]=>some st
 |st,x::l=>(push1 st x).bind fun st=>z2t st l
def deepS (s:List UInt8):Nat:=(deepF (0,0) (txts ((z2s ⟨s.toArray⟩).1.map tkOf))).2
def pathL (l:List StS):List UInt8 :=
 if 100<l.length then[]else match z2t [] l with
  |some [p]=>if 32<deepS p.1 then[]else p.1
  |_=>[]
def z7a (a:AtS):Bool:=a.f0.toList==([]:List UInt8)&&(a.f1.length==0)
def restB (l:LtS) (n:Nat) (atom op path:Bool):Bool :=
 (if 0<n then !(termL l.f3).isEmpty else z59 l.f3)&&((if 1<n then !(termL l.f4).isEmpty else z59 l.f4)&&((if 2<n then !(termL l.f5).isEmpty else z59 l.f5) &&
   ((atom||z7a l.f1)&&((op||(l.f2.toList==([]:List UInt8)))&&(path||(l.f6.length==0))))))
def compB (s:List UInt8):Bool:=s==[60]||(s==[60,61]||(s==[61]||s==[33,61]))
def wordL (s:List UInt8):List UInt8:=if s=[43]then[32,112,108,117,115,32]else if s=[45]then[32,109,105,110,117,115,32]else if s=[42]then[32,116,105,109,101,115,32]else[]
def litL (l:LtS):List UInt8 :=
 if l.f0=1∧restB l 0 true false false=true then atomL l.f1
 else if l.f0=2∧restB l 0 true false false=true∧atomL l.f1≠[]then[110,111,116,32]++atomL l.f1
 else if l.f0=3∧restB l 2 false true false=true∧compB l.f2.data.toList=true then termL l.f3++([32]++(l.f2.data.toList++([32]++termL l.f4)))
 else if l.f0=4∧restB l 3 false true false=true∧l.f3.f0.data.toList≠[]∧wordL l.f2.data.toList≠[]then termL l.f3++([32,105,115,32]++(termL l.f4++(wordL l.f2.data.toList++termL l.f5)))
 else if l.f0=5∧restB l 2 false false true=true∧pathL l.f6≠[]then[119,97,108,107,40]++(termL l.f3++([44,32]++(pathL l.f6++([44,32]++(termL l.f4++[41])))))
 else[]
def ruleL (x:RlS):List UInt8 :=
 if x.f1<0∨5<x.f1∨12<x.f2.length then[]
 else if headL x.f0 x.f1=[]∨(eachL (x.f2.map litL) [44,32]).2=false then[]
 else if x.f2=[]then headL x.f0 x.f1++[46]
 else headL x.f0 x.f1++([32,58,45,32]++((eachL (x.f2.map litL) [44,32]).1++[46]))
def zln (rs:List RlS):List UInt8:=(eachL (rs.map ruleL) [10]).1++(if rs=[]then[]else[10])
def allT (p:PgS):List UInt8:=zln p.f0++([63,45,32]++(atomL p.f1++[46,10]))
def progL (p:PgS):List UInt8 :=
 if(eachL (p.f0.map ruleL) [10]).2=false∨atomL p.f1=[]∨200<p.f0.length∨20000<(allT p).length then[]else allT p

abbrev tkO (s:List UInt8):Option (List TK):=toksO nmL vlL s
def DeepE (d:Nat) (u:List (List UInt8)):Prop:=∀o m,o≤m→deepF (o,m) u=(o,max m (o+d))
theorem DeepE.nil:DeepE 0 []:=fun o m h=>by
 show(o,m)=_;rw[Nat.add_zero,Nat.max_eq_left h]
theorem DeepE.app {d e:Nat} {a b:List (List UInt8)} (ha:DeepE d a) (hb:DeepE e b):DeepE (max d e) (a++b):=fun o m h=>by
 rw[z8w,ha o m h,hb o _ (by omega)]
 congr 1
 omega
theorem DeepE.one {s:List UInt8} (h1:s≠[40]) (h2:s≠[41]):DeepE 0 [s]:=fun o m h=>by
 simp only[deepF,List.foldl_cons,List.foldl_nil,deep1,if_neg h1,if_neg h2];rw[Nat.add_zero]
theorem DeepE.round {d:Nat} {a:List (List UInt8)} (ha:DeepE d a):DeepE (d+1) ([40]::a++[[41]]):=fun o m h=>by
 have e2:deepF (o,m) ([40]::a++[[41]])=deepF (deepF (o+1,max m (o+1)) a) [[41]]:=by
  rw[List.cons_append,←z8w];rfl
 rw[e2,ha (o+1) _ (by omega)];simp only[deepF,List.foldl_cons,List.foldl_nil,deep1];rw[if_neg (by decide)];simp only[if_true,Nat.add_sub_cancel]
 congr 1
 omega
theorem zif (a b:List TK):txts (a++b)=txts a++txts b:=List.map_append
def P3 (D:Nat) (ts:List TK) (l:List StS):Prop:=∀r,partP D (ts++r)=.ok (l++(z0q r).1,(z0q r).2)
def P2 (D:Nat) (ts:List TK) (l:List StS):Prop:=∀r,z0q r=([],r)→rowP [47] 3 (partP D) (ts++r)=rowL [47] 3 (partP D) r.length l r
def P1 (D:Nat) (ts:List TK) (l:List StS):Prop:=∀r,z0q r=([],r)→mk0 r [47]=false→pathP D (ts++r)=rowL [124] 4 (rowP [47] 3 (partP D)) r.length l r
theorem z8y {s:List UInt8} {k:Int} {one:Prs (List StS)} (n:Nat) (acc:List StS) {l:List TK} (h:mk0 l s=false):rowL s k one n acc l=.ok (acc,l):=by
 cases n with
 |zero=>rfl
 |succ n=>simp only[rowL,h,Bool.false_eq_true,if_false]
theorem zlg {s:List UInt8} {k:Int} {one:Prs (List StS)} (h1:Loc 0 one) {acc x:List StS} {t:TK} {l r:List TK} (ht:isT t 4 s=true) (ho:one l=.ok (x,r)):rowL s k one (t::l).length acc (t::l)=rowL s k one r.length (acc++x++[stepS k]) r:=by
 have hm:mk0 (t::l) s=true:=ht;rw[List.length_cons];simp only[rowL,hm,if_true,List.drop_one,List.tail_cons];rw[z34 ho];obtain⟨u,e,_,_⟩:=h1 _ _ _ ho;have:r.length≤l.length:=by rw[e,List.length_append];omega
 exact ze3 h1 _ _ _ _ this (Nat.le_refl _)
theorem P3.two {D:Nat} {ts:List TK} {l:List StS} (h:P3 D ts l):P2 D ts l:=fun r hr=>by
 unfold rowP;rw[z34 (h r),hr,List.append_nil]
theorem P2.one {D:Nat} {ts:List TK} {l:List StS} (h:P2 D ts l):P1 D ts l:=fun r hr hm=>by
 have h1:=h r hr;rw[z8y _ _ hm]at h1;show rowP [124] 4 (rowP [47] 3 (partP D)) (ts++r)=_;rw[rowP,z34 h1]
theorem mk_is (m:UInt8):isT (mkT m) 4 [m]=true:=by
 unfold isT
 simp
theorem z4r {m n:UInt8} (h:m≠n):isT (mkT m) 4 [n]=false:=by
 unfold isT
 simp[h]
theorem z7x {m:UInt8} (h1:m≠42) (h2:m≠43) (h3:m≠63) (r:List TK):z0q (mkT m::r)=([],mkT m::r):=zfj ⟨z4r h1,z4r h2,z4r h3⟩ r
theorem zku (D:Nat):partP (D+1)=partW (some (pathP D)):=rfl
theorem P1.round {D:Nat} {ts:List TK} {l:List StS} (h:P1 D ts l):P3 (D+1) (mkT 40::(ts++[mkT 41])) l:=fun r=>by
 have h1:=h (mkT 41::r) (z7x (by decide) (by decide) (by decide) r) (z4r (by decide));rw[z8y _ _ (show mk0 (mkT 41::r) [124]=false from z4r (by decide))]at h1;have e:mkT 40::(ts++[mkT 41])++r=mkT 40::(ts++mkT 41::r):=by simp
 have hb:baseP (some (pathP D)) (mkT 40::(ts++mkT 41::r))=.ok (l,r):=by
  unfold baseP;rw[if_pos (show mk0 (mkT 40::_) [40]=true from mk_is 40)];simp only[List.drop_one,List.tail_cons];rw[z34 h1];have hw:wantP [41] (mkT 41::r)=.ok ((),r):=by
   unfold wantP;rw[if_pos (show mk0 (mkT 41::_) [41]=true from mk_is 41)];rfl
  rw[z34 hw]
 rw[e,zku,partW,z34 hb]
theorem P3.mark {D:Nat} {ts:List TK} {l:List StS} (h:P3 D ts l) (m:UInt8) (k:Int) (hm:(m=42∧k=5)∨(m=43∧k=6)∨(m=63∧k=7)):P3 D (ts++[mkT m]) (l++[stepS k]):=fun r=>by
 have e:ts++[mkT m]++r=ts++mkT m::r:=by simp
 have hk:z0q (mkT m::r)=(stepS k::(z0q r).1,(z0q r).2):=by
  simp only[z0q];rcases hm with ⟨rfl,rfl⟩|⟨rfl,rfl⟩|⟨rfl,rfl⟩
  · rw[if_pos (mk_is 42)]
  · rw[if_neg (by rw[z4r (by decide)];decide),if_pos (mk_is 43)]
  · rw[if_neg (by rw[z4r (by decide)];decide),if_neg (by rw[z4r (by decide)];decide),if_pos (mk_is 63)]
 rw[e,h (mkT m::r),hk]
 simp
theorem zhg (D:Nat):∃o,partP D=partW o:=by
 cases D with
 |zero=>exact⟨_,rfl⟩
 |succ D=>exact⟨_,rfl⟩
theorem zd8 (s:ByteArray) (x:List UInt8):isT ((1,s):TK) 4 x=false:=by unfold isT;simp
theorem P3.along {D:Nat} {s:ByteArray} (hs:predB (1,s)=true):P3 D [(1,s)] [⟨1,s⟩]:=fun r=>by
 obtain⟨o,ho⟩:=zhg D;have hb:baseP o ((1,s)::r)=.ok ([⟨1,s⟩],r):=by
  unfold baseP;rw[if_neg (by rw[show mk0 ((1,s)::r) [40]=false from zd8 s _];decide),if_neg (by rw[show mk0 ((1,s)::r) [94]=false from zd8 s _];decide)];simp only[z0w,hs,if_true];rfl
 rw[ho,List.singleton_append,partW,z34 hb]
theorem P3.back {D:Nat} {s:ByteArray} (hs:predB (1,s)=true):P3 D [mkT 94,(1,s)] [⟨2,s⟩]:=fun r=>by
 obtain⟨o,ho⟩:=zhg D;have hb:baseP o (mkT 94::(1,s)::r)=.ok ([⟨2,s⟩],r):=by
  unfold baseP;rw[if_neg (by rw[show mk0 (mkT 94::(1,s)::r) [40]=false from z4r (by decide)];decide),if_pos (show mk0 (mkT 94::_) [94]=true from mk_is 94)];simp only[List.drop_one,List.tail_cons,z0w,hs,if_true];rfl
 show partP D (mkT 94::(1,s)::r)=_;rw[ho,partW,z34 hb]
theorem P2.thenP {D:Nat} {ta tb:List TK} {la lb:List StS} (ha:P2 D ta la) (hb:P3 D tb lb):P2 D (ta++mkT 47::tb) (la++lb++[stepS 3]):=fun r hr=>by
 have e:ta++mkT 47::tb++r=ta++mkT 47::(tb++r):=by simp
 have hb1:=hb r;rw[hr,List.append_nil]at hb1;rw[e,ha _ (z7x (by decide) (by decide) (by decide) _),zlg ((z93 D).le (Nat.zero_le _)) (mk_is 47) hb1]
theorem P1.orP {D:Nat} {ta tb:List TK} {la lb:List StS} (ha:P1 D ta la) (hb:P2 D tb lb):P1 D (ta++mkT 124::tb) (la++lb++[stepS 4]):=fun r hr hm=>by
 have e:ta++mkT 124::tb++r=ta++mkT 124::(tb++r):=by simp
 have hb1:=hb r hr;rw[z8y _ _ hm]at hb1;rw[e,ha _ (z7x (by decide) (by decide) (by decide) _) (z4r (by decide)),zlg (zd1 ((z93 D).le (Nat.zero_le _))) (mk_is 124) hb1]
def Lv (b:Int) (D:Nat) (ts:List TK) (l:List StS):Prop:=(b=3→P3 D ts l)∧(2≤b→P2 D ts l)∧P1 D ts l
theorem Lv.of3 {D:Nat} {ts:List TK} {l:List StS} (h:P3 D ts l):Lv 3 D ts l:=⟨fun _=>h,fun _=>h.two,h.two.one⟩
theorem Lv.of2 {D:Nat} {ts:List TK} {l:List StS} (h:P2 D ts l):Lv 2 D ts l:=⟨fun e=>absurd e (by decide),fun _=>h,h.one⟩
theorem Lv.of1 {D:Nat} {ts:List TK} {l:List StS} (h:P1 D ts l):Lv 1 D ts l:=⟨fun e=>absurd e (by decide),fun e=>absurd e (by decide),h⟩
structure PInv (p:Pc) (l:List StS) (d:Nat):Prop where
 mk ::
 ne:p.1≠[]
 lo:1≤p.2
 hi:p.2≤3
 tk:∃ts,tkO p.1=some ts∧DeepE d (txts ts)∧∀D,d≤D→Lv p.2 D ts l
def upD (p:Pc) (k:Int) (d:Nat):Nat:=if p.2<k then d+1 else d
theorem PInv.least {p:Pc} {l:List StS} {d:Nat} (h:PInv p l d) (k:Int) (hk:k≤3):PInv (z1p p k,if p.2<k then 3 else p.2) l (upD p k d):=by
 obtain⟨hne,hlo,hhi,ts,ht,hd,hl⟩:=h;unfold z1p upD
 by_cases hc:p.2<k
 · rw[if_pos hc,if_pos hc,if_pos hc];refine⟨by simp,by show(1:Int)≤3;omega,by show(3:Int)≤3;omega,mkT 40::(ts++[mkT 41]),?_,?_,?_⟩
   · exact z2h (by decide) (z52 (zdq (by decide)) ht (z2h (by decide) (z7z _ _)))
   · have:txts (mkT 40::(ts++[mkT 41]))=[40]::txts ts++[[41]]:=by simp[txts]
     rw[this];exact hd.round
   · intro D hD;obtain⟨D,rfl⟩:∃E,D=E+1:=⟨D - 1,by omega⟩
     exact Lv.of3 (hl D (by omega)).2.2.round
 · rw[if_neg hc,if_neg hc,if_neg hc];exact⟨hne,hlo,hhi,ts,ht,hd,hl⟩
theorem PInv.thenP {a b:List UInt8} {ba:Int} {la lb:List StS} {da db:Nat} (ha:PInv (a,ba) la da) (hb:PInv (b,3) lb db) (h2:2≤ba):PInv (a++([47]++b),2) (la++lb++[stepS 3]) (max da db):=by
 obtain⟨ane,alo,ahi,ts,ht,hd,hl⟩:=ha;obtain⟨bne,blo,bhi,us,hu,he,hm⟩:=hb;refine⟨by simp,by show(1:Int)≤2;omega,by show(2:Int)≤3;omega,ts++mkT 47::us,?_,?_,?_⟩
 · exact z52 (zdq (by decide)) ht (z2h (by decide) hu)
 · have:txts (ts++mkT 47::us)=txts ts++([[47]]++txts us):=by simp[txts]
   rw[this];have:=hd.app ((DeepE.one (s:=[47]) (by decide) (by decide)).app he)
   rwa [Nat.zero_max]at this
 · intro D hD;exact Lv.of2 (P2.thenP ((hl D (by omega)).2.1 h2) ((hm D (by omega)).1 rfl))
theorem PInv.orP {a b:List UInt8} {ba bb:Int} {la lb:List StS} {da db:Nat} (ha:PInv (a,ba) la da) (hb:PInv (b,bb) lb db) (h2:2≤bb):PInv (a++([124]++b),1) (la++lb++[stepS 4]) (max da db):=by
 obtain⟨ane,alo,ahi,ts,ht,hd,hl⟩:=ha;obtain⟨bne,blo,bhi,us,hu,he,hm⟩:=hb;refine⟨by simp,by show(1:Int)≤1;omega,by show(1:Int)≤3;omega,ts++mkT 124::us,?_,?_,?_⟩
 · exact z52 (zdq (by decide)) ht (z2h (by decide) hu)
 · have:txts (ts++mkT 124::us)=txts ts++([[124]]++txts us):=by simp[txts]
   rw[this];have:=hd.app ((DeepE.one (s:=[124]) (by decide) (by decide)).app he)
   rwa [Nat.zero_max]at this
 · intro D hD;exact Lv.of1 (P1.orP (hl D (by omega)).2.2 ((hm D (by omega)).2.1 h2))
theorem PInv.markP {a:List UInt8} {la:List StS} {da:Nat} (ha:PInv (a,3) la da) (k:Int) (h5:5≤k) (h7:k≤7):PInv (a++markL k,3) (la++[stepS k]) da:=by
 obtain⟨ane,alo,ahi,ts,ht,hd,hl⟩:=ha;have hk:(k=5∧markL k=[42])∨(k=6∧markL k=[43])∨(k=7∧markL k=[63]):=by
  rcases (by omega:k=5∨k=6∨k=7)with rfl|rfl|rfl
  · exact .inl ⟨rfl,by decide⟩
  · exact .inr (.inl ⟨rfl,by decide⟩)
  · exact .inr (.inr ⟨rfl,by decide⟩)
 obtain⟨m,hm,hmk,hs,h1,h4,h41⟩:∃m,markL k=[m]∧((m=42∧k=5)∨(m=43∧k=6)∨(m=63∧k=7))∧sepB m=true∧tkO [m]=some [mkT m]∧m≠40∧m≠41:=by
  rcases hk with ⟨e,h⟩|⟨e,h⟩|⟨e,h⟩
  · exact⟨42,h,.inl ⟨rfl,e⟩,by decide,z2h (by decide) (z7z _ _),by decide,by decide⟩
  · exact⟨43,h,.inr (.inl ⟨rfl,e⟩),by decide,z2h (by decide) (z7z _ _),by decide,by decide⟩
  · exact⟨63,h,.inr (.inr ⟨rfl,e⟩),by decide,zjh _ _,by decide,by decide⟩
 rw[hm];refine⟨by simp,by show(1:Int)≤3;omega,by show(3:Int)≤3;omega,ts++[mkT m],z52 hs ht h1,?_,?_⟩
 · have:txts (ts++[mkT m])=txts ts++[[m]]:=by simp[txts]
   rw[this];have:=hd.app (DeepE.one (s:=[m]) (by simpa using h4) (by simpa using h41))
   rwa [Nat.max_zero]at this
 · intro D hD;exact Lv.of3 (((hl D hD).1 rfl).mark m k hmk)
theorem zev {s:List UInt8} (h:nmL s=true):nextN nmL vlL s=some (1,s.length):=by
 obtain⟨c,l,hl,h1,h2⟩:=z8s h;have hl:s=c::l:=hl;have hlow:∀c ∈ s,lowB c=true:=(zdi h).1;have hr:=z9a lowB s hlow;have hc:z16 c=true:=decide_eq_true ⟨h1,h2⟩;subst hl;simp only[nextN,hc,if_true,hr,List.take_length,h]
theorem z7r {s:ByteArray} (h:predN s=true):predB (1,s)=true∧nmL s.data.toList=true:=by
 unfold predN at h;unfold predB;simp only[Bool.and_eq_true]at h ⊢;exact⟨⟨rfl,h.2⟩,h.1⟩
theorem z8x {s:ByteArray} (h:nmL s.data.toList=true):tkO s.data.toList=some [(1,s)]:=za6 (zev h)
theorem z6y {s:List UInt8} (h:nmL s=true):s≠[]∧s≠[40]∧s≠[41]:=by
 obtain⟨c,l,hl,h1,h2⟩:=z8s h;have hl:s=c::l:=hl;subst hl;refine⟨by simp,fun e=>?_,fun e=>?_⟩
 all_goals
  injection e with e1 e2
  rw[e1]at h1;exact absurd h1 (by decide)
theorem PInv.along {s:ByteArray} (h:predN s=true):PInv (s.data.toList,3) [⟨1,s⟩] 0:=by
 obtain⟨hp,hn⟩:=z7r h;obtain⟨n0,n1,n2⟩:=z6y hn;exact⟨n0,by show(1:Int)≤3;omega,by show(3:Int)≤3;omega,[(1,s)],z8x hn,DeepE.one n1 n2,fun D _=>Lv.of3 (P3.along hp)⟩
theorem PInv.back {s:ByteArray} (h:predN s=true):PInv ([94]++s.data.toList,3) [⟨2,s⟩] 0:=by
 obtain⟨hp,hn⟩:=z7r h;obtain⟨n0,n1,n2⟩:=z6y hn;refine⟨by simp,by show(1:Int)≤3;omega,by show(3:Int)≤3;omega,[mkT 94,(1,s)],z2h (by decide) (z8x hn),?_,fun D _=>Lv.of3 (P3.back hp)⟩;have:=(DeepE.one (s:=[94]) (by decide) (by decide)).app (DeepE.one n1 n2);exact this
def StI:List Pc→List StS→Prop
 |[],done=>done=[]
 |p::st,done=>∃pre l d,done=pre++l∧StI st pre∧PInv p l d
theorem zkf {x:StS} (h:x.f1.data.toList=[]):x=stepS x.f0:=by
 obtain⟨k,⟨⟨l⟩⟩⟩:=x;have h:l=[]:=h;subst h;rfl
theorem zjw {st st':List Pc} {done:List StS} {x:StS} (h:StI st done) (hp:push1 st x=some st'):StI st' (done++[x]):=by
 unfold push1 at hp
 split at hp
 · cases hp
 rename_i hk
 split at hp
 · rename_i h2
   split at hp
   · cases hp
   rename_i hne;injection hp with hp
   subst hp;refine⟨done,[x],0,rfl,h,?_⟩;unfold z4t at hne ⊢
   split at hne
   · rename_i hpr;rw[if_pos hpr];rcases (by omega:x.f0=1∨x.f0=2)with e|e
     · rw[if_neg (by omega),if_pos e];have:=PInv.along hpr
       rwa [show x=⟨1,x.f1⟩from by cases x;simp only at e;subst e;rfl]
     · rw[if_pos e];have:=PInv.back hpr
       rwa [show x=⟨2,x.f1⟩from by cases x;simp only at e;subst e;rfl]
   · exact absurd rfl hne
 · rename_i h2
   split at hp
   · cases hp
   rename_i hb;have hx:x=stepS x.f0:=zkf (by simpa using hb)
   cases st with
   |nil=>cases hp
   |cons b r =>
    obtain⟨pre,lb,db,rfl,hs,hb⟩:=h;simp only at hp
    split at hp
    · rename_i h4
      cases r with
      |nil=>cases hp
      |cons a r =>
       obtain⟨pre,la,da,rfl,hs,ha⟩:=hs;simp only at hp;have h3:=hb.least 3 (by omega);have h32:=hb.least 2 (by omega);have h22:=ha.least 2 (by omega)
       split at hp
       · rename_i e3;injection hp with hp
         subst hp;have e:(if b.2<3 then(3:Int)else b.2)=3:=by have:=hb.hi;split <;> omega
         rw[e]at h3;refine⟨pre,la++lb++[stepS 3],_,?_,hs,PInv.thenP h22 h3 (by split <;> omega)⟩;rw[hx,e3];simp
       · rename_i e3;injection hp with hp
         subst hp;have e4:x.f0=4:=by omega
         refine⟨pre,la++lb++[stepS 4],_,?_,hs,PInv.orP (ba:=a.2) ha h32 (by split <;> omega)⟩;rw[hx,e4];simp
    · rename_i h4;injection hp with hp
      subst hp;have h3:=hb.least 3 (by omega);have e:(if b.2<3 then(3:Int)else b.2)=3:=by have:=hb.hi;split <;> omega
      rw[e]at h3;refine⟨pre,lb++[stepS x.f0],_,?_,hs,h3.markP x.f0 (by omega) (by omega)⟩;rw[←hx];simp
theorem zc7:∀(l:List StS) (st st':List Pc) (done:List StS),StI st done→z2t st l=some st'→StI st' (done++l)
 |[],st,st',done,h,hp=>by
  injection hp with hp
  subst hp
  rwa [List.append_nil]
 |x::l,st,st',done,h,hp=>by
  simp only[z2t]at hp
  cases h1:push1 st x with
  |none=>rw[h1]at hp;cases hp
  |some s =>
   rw[h1,Option.bind_some]at hp;have:=zc7 l s st' (done++[x]) (zjw h h1) hp
   rwa [List.append_assoc]at this
theorem zjm {l:List StS} {p:Pc} (h:z2t [] l=some [p]):∃d,PInv p l d:=by
 obtain⟨pre,m,d,e,hs,hp⟩:=zc7 l [] [p] [] rfl h;have hs:pre=[]:=hs;subst hs;have e:l=m:=e;subst e;exact⟨d,hp⟩
theorem za3 {s:ByteArray} (hs:s.size≤20000):tkO s.data.toList=if(z2s s).2.2=0 then some ((z2s s).1.map tkOf)else none:=by
 have hL:z2s s=z7o s:=by unfold z2s;rw[if_neg (by omega)]
 rw[hL,z7o,tkO,toksO_of]
 cases tokN nmL vlL 0 s.data.toList with
 |error i=>rfl
 |ok l =>
  simp only;rw[if_pos trivial,List.map_map]
  congr 1
  refine List.map_congr_left fun x _=>?_
  show cutT s.data.toList x=tkOf (tokS s x);have ht:(tokS s x).f1.data.toList=(s.data.toList.drop x.2.1).take x.2.2:=z8m s x;unfold cutT;rw[←ht];rfl
theorem deepS_of {s:List UInt8} (hs:s.length≤20000) {ts:List TK} (h:tkO s=some ts):deepS s=(deepF (0,0) (txts ts)).2:=by
 have:=za3 (s:=⟨s.toArray⟩) (by simpa [ByteArray.size] using hs);rw[show(⟨s.toArray⟩:ByteArray).data.toList=s from rfl,h]at this
 split at this
 · injection this with this
   unfold deepS;rw[←this]
 · cases this
theorem PInv.deep {p:Pc} {l:List StS} {d:Nat} (h:PInv p l d) (hs:p.1.length≤20000):deepS p.1=d:=by
 obtain⟨_,_,_,ts,ht,hd,_⟩:=h;rw[deepS_of hs ht,hd 0 0 (Nat.le_refl _)];show max 0 (0+d)=d;omega
theorem z9f {l:List StS} (h:pathL l≠[]):∃p,z2t [] l=some [p]∧l.length≤100∧deepS p.1≤32∧pathL l=p.1:=by
 unfold pathL at h
 split at h
 · exact absurd rfl h
 rename_i h100
 split at h
 · rename_i p hp
   split at h
   · exact absurd rfl h
   rename_i h32;refine⟨p,hp,by omega,by omega,?_⟩;unfold pathL;rw[if_neg h100,hp];exact if_neg h32
 · exact absurd rfl h
theorem zjz {l:List StS} (hne:pathL l≠[]) (hs:(pathL l).length≤20000):∃ts,tkO (pathL l)=some ts∧l.length≤100∧∀r,z0q r=([],r)→mk0 r [47]=false→mk0 r [124]=false→pathP 32 (ts++r)=.ok (l,r):=by
 obtain⟨p,hp,h100,h32,e⟩:=z9f hne;rw[e]at hs ⊢;obtain⟨d,hI⟩:=zjm hp;have hd:=hI.deep hs;obtain⟨_,_,_,ts,ht,_,hl⟩:=hI;refine⟨ts,ht,h100,fun r h1 h2 h3=>?_⟩;rw[(hl 32 (by omega)).2.2 r h1 h2,z8y _ _ h3]

def Clo {α:Type} (p:Prs α):Prop:=∀l x r,p l=.ok (x,r)→∃u,l=u++r∧u≠[]∧∀r',p (u++r')=.ok (x,r')
def Cons {α:Type} (N:TK→Prop) (p:Prs α):Prop:=∀l x r,p l=.ok (x,r)→∃u,l=u++r∧∀t ∈ u,N t
def NoQ (t:TK):Prop:=isT t 4 [63,45]=false
theorem z8i (n:Nat) (acc:List RlS) (l:List TK):z6e (n+1) acc l=if mk0 l [63,45]then .ok (acc,l.drop 1)else if n==0&&predL l then .error (l.length,4)else bnd (ruleP l) fun x r=>z6e n (acc++[x]) r:=rfl
theorem z9o (n:Nat) (acc:List LtS) (l:List TK):bodyP (n+1) acc l=if n==0&&z1t l then .error (l.length,4)else bnd (z19 l) fun x r=>if mk0 r [44]then bodyP n (acc++[x]) (r.drop 1)else .ok (acc++[x],r):=rfl
theorem zfb {t:TK} (ht:predB t=true) {l:List TK} (hl:∀s,s=[60]∨s=[60,61]∨s=[61]∨s=[33,61]→mk0 l s=false):z19 (t::l)=z41 1 (t::l):=by
 have ht':=ht;unfold predB at ht';simp only[Bool.and_eq_true,beq_iff_eq,Bool.not_eq_true']at ht';have hc:z1h (t::l)=false:=by
  unfold z1h mk1;simp only[List.drop_succ_cons,List.drop_zero];rw[hl _ (Or.inl rfl),hl _ (Or.inr (Or.inl rfl)),hl _ (Or.inr (Or.inr (Or.inl rfl))),hl _ (Or.inr (Or.inr (Or.inr rfl)))];rfl
 have hk:(kindL (t::l)==2)=false:=beq_eq_false_iff_ne.2 (by show t.1≠2;omega);have hkey:∀s,keyL s=true→isL (t::l) 1 s=false:=fun s hs=>by
  show isT t 1 s=false;unfold isT;rw[Bool.and_eq_false_iff];refine Or.inr (beq_eq_false_iff_ne.2 ?_);rintro e;rw[e,hs]at ht';exact absurd ht'.2 (by simp)
 unfold z19;rw[hc,Bool.and_false,hk,Bool.false_and,hkey _ (by decide),hkey _ (by decide)];simp only[Bool.false_eq_true,if_false];rw[if_pos (show predL (t::l)=true from ht)]
theorem zh1 {n:TK} (hn:isT n 1 [110,111,116]=true) {t:TK} (ht:predB t=true) (l:List TK):z19 (n::t::l)=z41 2 (t::l):=by
 obtain⟨h1,h2⟩:=z5l hn;have ht':=ht;unfold predB at ht';simp only[Bool.and_eq_true,beq_iff_eq]at ht';have h4:∀s,isT t 4 s=false:=fun s=>by
  unfold isT;rw[Bool.and_eq_false_iff];exact Or.inl (beq_eq_false_iff_ne.2 (by omega))
 have hc:z1h (n::t::l)=false:=by
  unfold z1h mk1;simp only[List.drop_succ_cons,List.drop_zero,mk0,h4];rfl
 have hk:(kindL (n::t::l)==2)=false:=beq_eq_false_iff_ne.2 (by show n.1≠2;omega);unfold z19;rw[hc,Bool.and_false,hk,Bool.false_and];simp only[Bool.false_eq_true,if_false];rw[if_pos (show isL (n::t::l) 1 [110,111,116]=true from hn)];rfl

def progO (s:List UInt8):Option PgS:=(tkO s).bind fun ts=>match z2c ts with
 |.ok (p,[])=>some p
 |_=>none
theorem zhp {α:Type} {p:Prs α} {l:List TK}:(∃x,p l=.ok (x,[])∧allP p l=.ok x)∨((∀x,p l≠.ok (x,[]))∧∃q,allP p l=.error q):=by
 unfold allP
 cases h:p l with
 |error e=>exact .inr ⟨fun x h=>(by cases h),e,rfl⟩
 |ok y =>
  obtain⟨x,r⟩:=y
  cases r with
  |nil=>exact .inl ⟨x,rfl,rfl⟩
  |cons t r=>exact .inr ⟨fun x h=>(by injection h with h;injection h with _ h;cases h),_,rfl⟩
theorem zc9 {s:ByteArray} (hs:s.size≤20000) {p:PgS} (h:progO s.data.toList=some p):z3o (⟨[],noneA⟩:PgS) z2c s=(p,0,0):=by
 unfold progO at h;rw[za3 hs]at h
 split at h
 · rename_i hz;rw[Option.bind_some]at h;unfold z3o;rw[if_pos hz];rcases zhp (p:=z2c) (l:=(z2s s).1.map tkOf)with ⟨x,h1,h2⟩|⟨h1,q,h2⟩
   · rw[h1]at h;injection h with h
     rw[h2,←h];rfl
   · split at h
     · rename_i y hy;exact absurd hy (h1 y)
     · cases h
 · cases h
theorem zip {s:ByteArray} (hs:s.size≤20000) (h:progO s.data.toList=none) (herr:Err z2c):(z3o (⟨[],noneA⟩:PgS) z2c s).2.2≠0:=by
 unfold progO at h;rw[za3 hs]at h;unfold z3o
 split at h
 · rename_i hz;rw[Option.bind_some]at h;rw[if_pos hz];rcases zhp (p:=z2c) (l:=(z2s s).1.map tkOf)with ⟨x,h1,h2⟩|⟨h1,q,h2⟩
   · rw[h1]at h;cases h
   · rw[h2];exact all_err herr h2
 · rename_i hz;rw[if_neg hz];exact hz
theorem z9v:Err z2w:=fun l q h=>by
 cases l with
 |nil=>simp only[z2w]at h;injection h with h;subst h;simp
 |cons t r =>
  simp only[z2w]at h
  split at h
  · cases h
  · injection h with h;subst h;simp
theorem z65:Err termP:=fun l q h=>by
 cases l with
 |nil=>simp only[termP]at h;injection h with h;subst h;simp
 |cons t r =>
  simp only[termP]at h
  split at h
  · cases h
  · split at h
    · cases h
    · injection h with h;subst h;simp
theorem zij (head:Bool):∀(n:Nat) (acc:List TmS),Err (argsP head n acc)
 |0,acc=>fun l q h=>by simp only[argsP]at h;injection h with h;subst h;simp
 |n+1,acc=>fun l q h=>by
  simp only[argsP]at h
  split at h
  · injection h with h;subst h;simp
  · split at h
    · rcases bnd_e h with h|⟨x,r,_,h⟩
      · exact z9v _ q h
      · rcases bnd_e h with h|⟨y,r',_,h⟩
        · exact z5k _ _ q h
        · cases h
    · rcases bnd_e h with h|⟨x,r,_,h⟩
      · exact z65 _ q h
      · split at h
        · exact zij head n _ _ q h
        · cases h
theorem zcu (head:Bool):Err (atomP head):=fun l q h=>by
 unfold atomP at h;rcases bnd_e h with h|⟨x,r,_,h⟩
 · exact z79 _ q h
 · split at h
   · rcases bnd_e h with h|⟨y,r',_,h⟩
     · exact zij head 9 [] _ q h
     · rcases bnd_e h with h|⟨z,r'',_,h⟩
       · exact z5k _ _ q h
       · cases h
   · cases h
theorem err_sign:Err signP:=fun l q h=>by
 cases l with
 |nil=>simp only[signP]at h;injection h with h;subst h;simp
 |cons t r =>
  simp only[signP]at h
  split at h
  · injection h with h;subst h;simp
  · cases h
theorem zfg (k:Int):Err (z41 k):=fun l q h=>by
 unfold z41 at h;rcases bnd_e h with h|⟨x,r,_,h⟩
 · exact zcu false _ q h
 · cases h
theorem zh0:Err z4j:=fun l q h=>by
 unfold z4j at h;rcases bnd_e h with h|⟨x,r,_,h⟩
 · exact z65 _ q h
 · rcases bnd_e h with h|⟨y,r',_,h⟩
   · exact z65 _ q h
   · cases h
theorem err_let:Err letP:=fun l q h=>by
 unfold letP at h;rcases bnd_e h with h|⟨x,r,_,h⟩
 · exact z9v _ q h
 · rcases bnd_e h with h|⟨y,r',_,h⟩
   · exact z65 _ q h
   · rcases bnd_e h with h|⟨z,r'',_,h⟩
     · exact err_sign _ q h
     · rcases bnd_e h with h|⟨u,r3,_,h⟩
       · exact z65 _ q h
       · cases h
theorem err_walk:Err walkP:=fun l q h=>by
 unfold walkP at h;rcases bnd_e h with h|⟨_,r,_,h⟩
 · exact z5k _ _ q h
 rcases bnd_e h with h|⟨_,r,_,h⟩
 · exact z65 _ q h
 rcases bnd_e h with h|⟨_,r,_,h⟩
 · exact z5k _ _ q h
 rcases bnd_e h with h|⟨_,r,_,h⟩
 · exact zl2 _ q h
 rcases bnd_e h with h|⟨_,r,_,h⟩
 · exact z5k _ _ q h
 rcases bnd_e h with h|⟨_,r,_,h⟩
 · exact z65 _ q h
 rcases bnd_e h with h|⟨_,r,_,h⟩
 · exact z5k _ _ q h
 cases h
theorem zgb:Err z19:=fun l q h=>by
 unfold z19 at h
 split at h
 · exact zh0 _ q h
 split at h
 · exact err_let _ q h
 split at h
 · exact zfg 2 _ q h
 split at h
 · exact err_walk _ q h
 split at h
 · exact zfg 1 _ q h
 rcases bnd_e h with h|⟨_,r,_,h⟩
 · exact z65 _ q h
 · injection h with h;subst h;simp
theorem zi7:∀(n:Nat) (acc:List LtS),Err (bodyP n acc)
 |0,acc=>fun l q h=>by simp only[bodyP]at h;injection h with h;subst h;simp
 |n+1,acc=>fun l q h=>by
  simp only[bodyP]at h
  split at h
  · injection h with h;subst h;simp
  · rcases bnd_e h with h|⟨x,r,_,h⟩
    · exact zgb _ q h
    · split at h
      · exact zi7 n _ _ q h
      · cases h
theorem err_rule:Err ruleP:=fun l q h=>by
 unfold ruleP at h;rcases bnd_e h with h|⟨x,r,_,h⟩
 · exact zcu true _ q h
 rcases bnd_e h with h|⟨y,r',_,h⟩
 · unfold tailP at h
   split at h
   · exact zi7 13 [] _ q h
   · cases h
 rcases bnd_e h with h|⟨_,r'',_,h⟩
 · exact z5k _ _ q h
 · cases h
theorem zfd:∀(n:Nat) (acc:List RlS),Err (z6e n acc)
 |0,acc=>fun l q h=>by simp only[z6e]at h;injection h with h;subst h;simp
 |n+1,acc=>fun l q h=>by
  simp only[z6e]at h
  split at h
  · cases h
  · split at h
    · injection h with h;subst h;simp
    · rcases bnd_e h with h|⟨x,r,_,h⟩
      · exact err_rule _ q h
      · exact zfd n _ _ q h
theorem zg3:Err z2c:=fun l q h=>by
 unfold z2c at h;rcases bnd_e h with h|⟨x,r,_,h⟩
 · exact zfd 201 [] _ q h
 rcases bnd_e h with h|⟨y,r',_,h⟩
 · exact zcu false _ q h
 rcases bnd_e h with h|⟨_,r'',_,h⟩
 · exact z5k _ _ q h
 · cases h
theorem zh2 {nm vl:List UInt8→Bool} {a b:UInt8} (h:(a=58∧b=45)∨(a=63∧b=45)) {r:List UInt8} {l:List TK} (hr:toksO nm vl r=some l):toksO nm vl (a::b::r)=some ((4,⟨#[a,b]⟩)::l):=by
 have hb:z2y a=false∧nextN nm vl (a::b::r)=some (4,2):=by
  rcases h with ⟨rfl,rfl⟩|⟨rfl,rfl⟩
  all_goals
   refine⟨by decide,?_⟩;simp only[nextN];rw[if_neg (by decide),if_neg (by decide),if_neg (by unfold valB;simp[z11]),if_pos (by unfold twoB;simp)]
 rw[z6x hb.1 hb.2];show(toksO nm vl r).map _=_;rw[hr];rfl
theorem z96 {w:List UInt8} (hw:nmL w=true) {x:UInt8} (hx:sepB x=true) {r:List UInt8} {l:List TK} (hr:tkO (x::r)=some l):tkO (w++x::r)=some ((1,⟨w.toArray⟩)::l):=z52 hx (za6 (zev hw)) hr
abbrev qT:TK:=(4,⟨#[63,45]⟩)
abbrev cT:TK:=(4,⟨#[58,45]⟩)
abbrev nT:TK:=(1,⟨#[110,111,116]⟩)
theorem z2l {c:UInt8} (h:z2y c=true) {r:List UInt8} {l:List TK} (hr:tkO r=some l):tkO (c::r)=some l:=by rw[tkO,z9h _ _ r h];exact hr
theorem two_is (a b:UInt8):isT ((4,⟨#[a,b]⟩):TK) 4 [a,b]=true:=by unfold isT;simp

theorem zlz {c:UInt8} {r:List UInt8} (h:varL (c::r)=true):nextN nmL vlL (c::r)=some (2,(c::r).length):=by
 simp only[varL,Bool.and_eq_true,decide_eq_true_eq]at h;obtain⟨h1,h2,h3⟩:=h;have h0:z16 c=false:=by
  unfold z1g at h2;rw[decide_eq_true_eq]at h2;exact decide_eq_false (by omega)
 simp only[nextN,h0,h2,h3,Bool.false_eq_true,if_false,if_true];rw[if_pos h1]
theorem zg4 {ws:List (List UInt8)} {sep:List UInt8} (h:(eachL ws sep).2=true):(∀w ∈ ws,w≠[])∧(eachL ws sep).1=Lib.join ws sep:=by
 unfold eachL at h ⊢
 split at h
 · cases h
 · rename_i hn;rw[if_neg hn];refine⟨fun w hw e=>hn ?_,rfl⟩;rw[List.any_eq_true];exact⟨w,hw,by rw[e];rfl⟩
theorem z99 (x y:List UInt8) (l:List (List UInt8)) (sep:List UInt8):Lib.join (x::y::l) sep=x++(sep++Lib.join (y::l) sep):=by
 simp[Lib.join,List.intercalate,List.intersperse]
def rngT (t:TmS):Prop:=-9223372036854775808≤t.f1.f1∧t.f1.f1≤9223372036854775807
def tokTm (t:TmS):TK:=if t.f0.data.toList=[]then(if t.f1.f0=3 then 1 else 3,baL (termL t))else(2,baL (termL t))
theorem zds {v:VlS} (h:z6c v=true):v=noneV:=by
 unfold z6c at h;simp only[Bool.and_eq_true,beq_iff_eq]at h;obtain⟨a,b,c⟩:=v;obtain⟨h1,h2,h3⟩:=h;simp only at h1 h2 h3;subst h1 h2;rw[ByteArray.toList_eq]at h3;rw[show c=⟨#[]⟩from ba_eq h3];rfl
theorem zdm {t:TmS} (h:z59 t=true):t=noneT:=by
 unfold z59 at h;simp only[Bool.and_eq_true,beq_iff_eq]at h;obtain⟨a,b⟩:=t;obtain⟨h1,h2⟩:=h;simp only at h1 h2;rw[ByteArray.toList_eq]at h1;rw[show a=⟨#[]⟩from ba_eq h1,zds h2];rfl
theorem zgn {a:AtS} (h:z7a a=true):a=noneA:=by
 unfold z7a at h;simp only[Bool.and_eq_true,beq_iff_eq]at h;obtain⟨p,l⟩:=a;obtain⟨h1,h2⟩:=h;simp only at h1 h2;rw[ByteArray.toList_eq]at h1;rw[show p=⟨#[]⟩from ba_eq h1,List.eq_nil_of_length_eq_zero h2];rfl
theorem zba {t:TmS} (h:termL t≠[]) (hr:rngT t):∃k:Nat,(tokTm t).1=(k:Int)∧(tokTm t).2=baL (termL t)∧nextN nmL vlL (termL t)=some (k,(termL t).length)∧(k=1∨k=2∨k=3)∧(t.f0.data.toList≠[]→k=2)∧∀r,termP (tokTm t::r)=.ok (t,r):=by
 by_cases h0:t.f0.data.toList=[]
 · have ht:termL t=textL t.f1.f0 t.f1.f1 t.f1.f2:=by unfold termL;rw[if_pos h0]
   have hR:z44 t.f1.f0 t.f1.f1 t.f1.f2=true:=by
    cases hb:z44 t.f1.f0 t.f1.f1 t.f1.f2 with
    |true=>rfl
    |false =>
     exfalso;apply h
     rw[ht];unfold textL;rw[hb,if_neg (by decide)]
   have hn:=zc6 t.f1.f0 t.f1.f1 t.f1.f2 hR hr;have htk:tokTm t=(if t.f1.f0=3 then 1 else 3,baL (termL t)):=by unfold tokTm;rw[if_pos h0]
   refine⟨if t.f1.f0=3 then 1 else 3,?_,?_,?_,?_,fun e=>absurd h0 e,fun r=>?_⟩
   · rw[htk];split <;> rfl
   · rw[htk]
   · rw[ht];exact hn
   · split <;> simp
   · rw[htk,ht];have hk:∀k:Int,k=1∨k=3→termP ((k,baL (textL t.f1.f0 t.f1.f1 t.f1.f2))::r)=.ok (t,r):=fun k hk=>by
      have e2:(k==2)=false:=beq_eq_false_iff_ne.2 (by omega);have e13:(k==1||k==3)=true:=by rcases hk with rfl|rfl <;> rfl
      simp only[termP,e2,e13,if_true,Bool.false_eq_true,if_false];have hv:readV (baL (textL t.f1.f0 t.f1.f1 t.f1.f2))=t.f1:=by
       have:=z9i t.f1.f0 t.f1.f1 t.f1.f2 hR hr;unfold txt at this;unfold readV;rw[this]
      rw[hv,show(⟨⟨#[]⟩,t.f1⟩:TmS)=t by rw[show(⟨#[]⟩:ByteArray)=t.f0 from ba_eq h0.symm]]
     refine hk _ ?_
     split
     · exact .inl rfl
     · exact .inr rfl
 · have hv:varL t.f0.data.toList=true∧z6c t.f1=true:=by
    unfold termL at h;rw[if_neg h0]at h
    split at h
    · rename_i h1
      split at h
      · rename_i h2;exact⟨h1,h2⟩
      · exact absurd rfl h
    · exact absurd rfl h
   have ht:termL t=t.f0.data.toList:=by unfold termL;rw[if_neg h0,if_pos hv.1,if_pos hv.2]
   have htk:tokTm t=(2,baL (termL t)):=by unfold tokTm;rw[if_neg h0]
   refine⟨2,by rw[htk];rfl,by rw[htk],?_,.inr (.inl rfl),fun _=>rfl,fun r=>?_⟩
   · rw[ht];obtain⟨c,l,hl⟩:∃c l,t.f0.data.toList=c::l:=by
      cases hl:t.f0.data.toList with
      |nil=>exact absurd hl h0
      |cons c l=>exact⟨c,l,rfl⟩
     rw[hl];exact zlz (by rw[←hl];exact hv.1)
   · rw[htk,ht];simp only[termP,beq_self_eq_true,if_true];rw[←zds hv.2,show baL t.f0.data.toList=t.f0 from ba_eq (by simp)]
theorem z8a {t:TmS} (h:termL t≠[]) (hr:rngT t) {x:UInt8} (hx:sepB x=true) {s:List UInt8} {R:List TK} (hs:tkO (x::s)=some R):tkO (termL t++x::s)=some (tokTm t::R):=by
 obtain⟨k,h1,h2,hn,_⟩:=zba h hr;have:=z52 hx (za6 hn) hs;rw[show tkO (termL t++x::s)=_ from this,←h1,show(⟨(termL t).toArray⟩:ByteArray)=(tokTm t).2 from h2.symm];rfl
theorem z7c {t:TmS} (h:termL t≠[]) (hr:rngT t) (r:List TK):termP (tokTm t::r)=.ok (t,r):=by
 obtain⟨_,_,_,_,_,_,h'⟩:=zba h hr;exact h' r
theorem tm_kind {t:TmS} (h:termL t≠[]) (hr:rngT t):(tokTm t).1=1∨(tokTm t).1=2∨(tokTm t).1=3:=by
 obtain⟨k,h1,_,_,h2,_⟩:=zba h hr;omega
theorem zml {t:TmS} (h:termL t≠[]) (hr:rngT t) (r:List TK):z1t (tokTm t::r)=true:=by
 rcases tm_kind h hr with e|e|e <;> simp[z1t,e]
theorem tm_var {t:TmS} (h:termL t≠[]) (hv:t.f0.data.toList≠[]) (r:List TK):z2w (tokTm t::r)=.ok (t,r)∧(tokTm t).1=2:=by
 have htk:tokTm t=(2,baL (termL t)):=by unfold tokTm;rw[if_neg hv]
 have hv':varL t.f0.data.toList=true∧z6c t.f1=true:=by
  unfold termL at h;rw[if_neg hv]at h
  split at h
  · rename_i h1
    split at h
    · rename_i h2;exact⟨h1,h2⟩
    · exact absurd rfl h
  · exact absurd rfl h
 have ht:termL t=t.f0.data.toList:=by unfold termL;rw[if_neg hv,if_pos hv'.1,if_pos hv'.2]
 rw[htk,ht];refine⟨?_,rfl⟩;simp only[z2w,beq_self_eq_true,if_true];rw[←zds hv'.2,show baL t.f0.data.toList=t.f0 from ba_eq (by simp)]
theorem zfa {f:Int} (h0:0<f) (h5:f≤5):nmL (foldW f)=true∧foldL (foldW f)=f:=by
 obtain rfl|rfl|rfl|rfl|rfl:f=1∨f=2∨f=3∨f=4∨f=5:=by omega
 all_goals exact⟨by decide,by decide⟩
def z7s (f:Int) (t:TmS):List TK:=if f=0 then[tokTm t]else[(1,baL (foldW f)),mkT 40,tokTm t,mkT 41]
def z4n (f:Int):List TmS→List TK
 |[]=>[]
 |[t]=>z7s f t
 |t::u::r=>tokTm t::mkT 44::z4n f (u::r)
theorem zi4 {f:Int} {t:TmS} (h:argL f true t≠[]):termL t≠[]∧(f≠0→t.f0.data.toList≠[]):=by
 unfold argL at h
 split at h
 · rename_i h0;rcases h0 with h0|h0
   · exact⟨h,fun e=>absurd h0 e⟩
   · cases h0
 · split at h
   · exact absurd rfl h
   · rename_i h1;exact⟨fun e=>h1 (.inr e),fun _ e=>h1 (.inl e)⟩
theorem zeo {f:Int} (h0:0≤f) (h5:f≤5) {s:List UInt8} {R:List TK} (hs:tkO (41::s)=some R):∀(l:List TmS),l≠[]→(∀w ∈ argsL f l,w≠[])→(∀t ∈ l,rngT t)→tkO (Lib.join (argsL f l) [44,32]++41::s)=some (z4n f l++R)
 |[],h,_,_=>absurd rfl h
 |[t],_,hw,hr=>by
  have ha:argL f true t≠[]:=hw _ (List.mem_singleton.2 rfl);obtain⟨ht,hv⟩:=zi4 ha;have hrt:=hr t (List.mem_singleton.2 rfl);show tkO (Lib.join [argL f true t] [44,32]++41::s)=some (z7s f t++R);rw[Lib.join_one]
  by_cases hf:f=0
  · rw[show argL f true t=termL t by unfold argL;rw[if_pos (.inl hf)],show z7s f t=[tokTm t] by unfold z7s;rw[if_pos hf]];exact z8a ht hrt (by decide) hs
  · rw[show argL f true t=foldW f++([40]++(termL t++[41])) by unfold argL;rw[if_neg (by rintro(e|e);exact hf e;cases e),if_neg (by rintro(e|e);exact hv hf e;exact ht e)],show z7s f t=[(1,baL (foldW f)),mkT 40,tokTm t,mkT 41] by unfold z7s;rw[if_neg hf]];have h1:tkO (termL t++41::(41::s))=some (tokTm t::mkT 41::R):=z8a ht hrt (by decide) (z2h (by decide) hs);have h2:=z96 (zfa (by omega) h5).1 (x:=40) (by decide) (z2h (m:=40) (by decide) h1);rw[show(foldW f++([40]++(termL t++[41])))++41::s=foldW f++40::(termL t++41::(41::s)) by simp];exact h2
 |t::u::r,_,hw,hr=>by
  have ht:termL t≠[]:=by
   have:=hw (argL f false t) (List.mem_cons_self ..)
   rwa [show argL f false t=termL t by unfold argL;rw[if_pos (.inr rfl)]]at this
  have ih:=zeo h0 h5 hs (u::r) (by simp) (fun w hw'=>hw w (List.mem_cons_of_mem _ hw')) (fun x hx=>hr x (List.mem_cons_of_mem _ hx));obtain⟨y,ys,hy⟩:∃y ys,argsL f (u::r)=y::ys:=by cases r <;> exact⟨_,_,rfl⟩
  show tkO (Lib.join (argL f false t::argsL f (u::r)) [44,32]++41::s)=some (tokTm t::mkT 44::(z4n f (u::r)++R));rw[hy,z99,←hy,show argL f false t=termL t by unfold argL;rw[if_pos (.inr rfl)]];rw[show(termL t++([44,32]++Lib.join (argsL f (u::r)) [44,32]))++41::s=termL t++44::(32::(Lib.join (argsL f (u::r)) [44,32]++41::s)) by simp];exact z8a ht (hr t (List.mem_cons_self ..)) (by decide) (z2h (by decide) (z2l (by decide) ih))
theorem zli {head:Bool} {t d:TK} (r:List TK) (h:isT d 4 [40]=false):(head&&foldB (t::d::r))=false:=by
 have:foldB (t::d::r)=false:=by
  show(t.1==1&&foldL t.2.data.toList !=0&&isT d 4 [40])=false;rw[h,Bool.and_false]
 rw[this,Bool.and_false]
theorem zcj {head:Bool} {f:Int} (h0:0≤f) (h5:f≤5) (hh:f=0∨head=true) (r:List TK):∀(l:List TmS) (n:Nat) (acc:List TmS),l≠[]→(∀w ∈ argsL f l,w≠[])→(∀t ∈ l,rngT t)→l.length<n→argsP head n acc (z4n f l++mkT 41::r)=.ok ((acc++l,f),mkT 41::r)
 |[],_,_,h,_,_,_=>absurd rfl h
 |[t],n+1,acc,_,hw,hr,hn=>by
  obtain⟨ht,hv⟩:=zi4 (hw _ (List.mem_singleton.2 rfl));have hrt:=hr t (List.mem_singleton.2 rfl);have hn0:(n==0)=false:=beq_eq_false_iff_ne.2 (by simp at hn;omega);show argsP head (n+1) acc (z7s f t++mkT 41::r)=_
  by_cases hf:f=0
  · rw[show z7s f t=[tokTm t] by unfold z7s;rw[if_pos hf]];simp only[List.singleton_append,argsP];rw[hn0,Bool.false_and,if_neg (by decide),zli r (z4r (by decide)),if_neg (by decide),z7c ht hrt];simp only[bnd];rw[if_neg (by rw[show mk0 (mkT 41::r) [44]=false from z4r (by decide)];decide),hf]
  · have hh':head=true:=hh.resolve_left hf;obtain⟨hw1,hw2⟩:=zfa (by omega) h5;obtain⟨hv1,hv2⟩:=tm_var ht (hv hf) (mkT 41::mkT 41::r);rw[show z7s f t=[(1,baL (foldW f)),mkT 40,tokTm t,mkT 41] by unfold z7s;rw[if_neg hf]];simp only[List.cons_append,List.nil_append,argsP];have hfb:foldB ((1,baL (foldW f))::mkT 40::tokTm t::mkT 41::mkT 41::r)=true:=by
     show((1:Int)==1&&foldL (foldW f) !=0&&isT (mkT 40) 4 [40])=true;rw[hw2,mk_is]
     simp[hf]
    rw[hn0,Bool.false_and,if_neg (by decide),hh',hfb,if_pos (by decide)];simp only[List.drop_succ_cons,List.drop_zero];rw[hv1];simp only[bnd];unfold wantP;rw[if_pos (show mk0 (mkT 41::mkT 41::r) [41]=true from mk_is 41)];simp only[foldN,List.drop_succ_cons,List.drop_zero];rw[show foldL (baL (foldW f)).data.toList=f from hw2]
 |t::u::q,n+1,acc,_,hw,hr,hn=>by
  have ht:termL t≠[]:=by
   have:=hw (argL f false t) (List.mem_cons_self ..)
   rwa [show argL f false t=termL t by unfold argL;rw[if_pos (.inr rfl)]]at this
  have hrt:=hr t (List.mem_cons_self ..);have hn0:(n==0)=false:=beq_eq_false_iff_ne.2 (by simp at hn;omega);have ih:=zcj h0 h5 hh r (u::q) n (acc++[t]) (by simp) (fun w hw'=>hw w (List.mem_cons_of_mem _ hw')) (fun x hx=>hr x (List.mem_cons_of_mem _ hx)) (by simp at hn ⊢;omega);show argsP head (n+1) acc (tokTm t::mkT 44::(z4n f (u::q)++mkT 41::r))=_;simp only[argsP];rw[hn0,Bool.false_and,if_neg (by decide),zli _ (z4r (by decide)),if_neg (by decide),z7c ht hrt];simp only[bnd];rw[if_pos (show mk0 (mkT 44::(z4n f (u::q)++mkT 41::r)) [44]=true from mk_is 44)];simp only[List.drop_succ_cons,List.drop_zero];rw[ih,List.append_assoc];rfl
def z3y (a:AtS) (f:Int):List TK:=(1,a.f0)::(if a.f1=[]then[]else mkT 40::(z4n f a.f1++[mkT 41]))
theorem z8p {a:AtS} {f:Int} (h:headL a f≠[]):predN a.f0=true∧a.f1.length≤8∧(0<f→a.f1≠[])∧(∀w ∈ argsL f a.f1,w≠[])∧headL a f=if a.f1=[]then a.f0.data.toList else a.f0.data.toList++([40]++(Lib.join (argsL f a.f1) [44,32]++[41])):=by
 unfold headL at h ⊢
 split at h
 · exact absurd rfl h
 · rename_i hc;rw[if_neg hc];have h2:(eachL (argsL f a.f1) [44,32]).2=true:=by cases e:(eachL (argsL f a.f1) [44,32]).2 with|true=>rfl|false=>exact absurd (.inl e) hc
   obtain⟨h3,h4⟩:=zg4 h2;rw[h4];refine⟨?_,Nat.le_of_not_lt fun e=>hc (.inr (.inr (.inl e))),fun e1 e2=>hc (.inr (.inr (.inr ⟨e1,e2⟩))),h3,rfl⟩
   cases e:predN a.f0 with
   |true=>rfl
   |false=>exact absurd (.inr (.inl e)) hc
theorem z7e {a:AtS} {f:Int} (h:headL a f≠[]) (h0:0≤f) (h5:f≤5) (hr:∀t ∈ a.f1,rngT t) {x:UInt8} (hx:sepB x=true) {s:List UInt8} {R:List TK} (hs:tkO (x::s)=some R):tkO (headL a f++x::s)=some (z3y a f++R):=by
 obtain⟨hp,_,_,hw,he⟩:=z8p h;obtain⟨_,hn⟩:=z7r hp;rw[he];unfold z3y
 by_cases hl:a.f1=[]
 · rw[if_pos hl,if_pos hl];exact z52 hx (z8x hn) hs
 · rw[if_neg hl,if_neg hl];have h1:=zeo h0 h5 (z2h (m:=41) (by decide) hs) a.f1 hl hw hr;have h2:tkO (a.f0.data.toList++40::(Lib.join (argsL f a.f1) [44,32]++41::x::s))=some ([(1,a.f0)]++mkT 40::(z4n f a.f1++mkT 41::R)):=z52 (x:=40) (by decide) (z8x hn) (z2h (by decide) h1);rw[show a.f0.data.toList++([40]++(Lib.join (argsL f a.f1) [44,32]++[41]))++x::s=a.f0.data.toList++40::(Lib.join (argsL f a.f1) [44,32]++41::x::s) by simp,h2]
   simp
theorem z7w {head:Bool} {a:AtS} {f:Int} (h:headL a f≠[]) (h0:0≤f) (h5:f≤5) (hh:f=0∨head=true) (hr:∀t ∈ a.f1,rngT t) {r:List TK} (hm:mk0 r [40]=false):atomP head (z3y a f++r)=.ok ((a,f),r):=by
 obtain⟨hp,h8,hne,hw,_⟩:=z8p h;obtain⟨hb,_⟩:=z7r hp;unfold z3y atomP
 by_cases hl:a.f1=[]
 · rw[if_pos hl];have hf:f=0:=by have:=mt hne (fun e=>e hl);omega
   simp only[List.cons_append,List.nil_append,z0w,hb,if_true,bnd,hm,Bool.false_eq_true,if_false];rw[hf,←hl]
 · rw[if_neg hl];simp only[List.cons_append,z0w,hb,if_true,bnd];rw[if_pos (show mk0 (mkT 40::(z4n f a.f1++[mkT 41]++r)) [40]=true from mk_is 40)];simp only[List.drop_succ_cons,List.drop_zero];rw[show z4n f a.f1++[mkT 41]++r=z4n f a.f1++mkT 41::r by simp,zcj h0 h5 hh r a.f1 9 [] hl hw hr (by omega)];simp only[List.nil_append];unfold wantP;rw[if_pos (show mk0 (mkT 41::r) [41]=true from mk_is 41)];rfl
end Go.Proofs.YthebhbomlllpeaaGreatDoor.X
namespace Go.Proofs.YthebhbomlllpeaaGreatDoor.X
open Go.RowKit Go.Proofs.YthebhbomlllpeaaGreatDoorW.PrintWords Go.Proofs.YthebhbomlllpeaaGreatDoorW.PrintLast Go.Proofs.YthebhbomlllpeaaGreatDoorW.PrintMore
attribute [local go_sem] z4h z4i z5e z5d z3s z3r z4l z4k
theorem eqA58 (d:Nat) (w:World) (x0 y0:Int) (x1 y1:Int) (x2 y2:ByteArray) :
 (Op.equalIn (d+2) 58 (.agg #[.int .i64 x0,.int .i64 x1,.string x2]) (.agg #[.int .i64 y0,.int .i64 y1,.string y2])).run Tryz.prog w=.ok (x0==y0&&(x1==y1&&(x2.toList==y2.toList))) w:=by
 refine zmw Tryz.underlying58 (by kernel_rfl) ?_;refine za2 (by rfl) (by go_simp;rfl) (by go_simp;rfl) (by go_simp) ?_;refine za2 (by rfl) (by go_simp;rfl) (by go_simp;rfl) (by go_simp) ?_;exact zd2 (by rfl) (by go_simp;rfl) (by go_simp;rfl) (by go_simp)

def z3p.l0:Nat→ByteArray→List ByteArray→Int→Int→Option (Bool)
 |0,_,_,_,_=>none
 |k+1,x0,x3,x7,x8=>if x8<x7 then(if 0≤x8 then(if x8<(x3.length:Int)then(if(rdOf ByteArray.empty x3 x8).toList=x0.toList then(some true)else(z3p.l0 k x0 x3 x7 (wrap64 (x8+1))))else(none))else(none))else(some false)
def z3p.f (k:Nat) (a0:ByteArray):Option (Bool):=(some (([(⟨#[110,111,116]⟩:ByteArray),(⟨#[105,115]⟩:ByteArray),(⟨#[112,108,117,115]⟩:ByteArray),(⟨#[109,105,110,117,115]⟩:ByteArray),(⟨#[116,105,109,101,115]⟩:ByteArray),(⟨#[119,97,108,107]⟩:ByteArray),(⟨#[99,111,117,110,116]⟩:ByteArray),(⟨#[115,117,109]⟩:ByteArray),(⟨#[109,105,110]⟩:ByteArray),(⟨#[109,97,120]⟩:ByteArray),(⟨#[109,101,97,110]⟩:ByteArray)]:List ByteArray):List ByteArray)).bind fun y151=>(z3p.l0 k a0 y151 (y151.length:Int) 0)
def z5f.f (a0:Int):Option (Bool):=if a0≥97 then(if a0≤122 then(some true)else(if a0≥65 then(if a0≤90 then(some true)else(if a0≥48 then(if a0≤57 then(some true)else(some (a0==95)))else(some (a0==95))))else(if a0≥48 then(if a0≤57 then(some true)else(some (a0==95)))else(some (a0==95)))))else(if a0≥65 then(if a0≤90 then(some true)else(if a0≥48 then(if a0≤57 then(some true)else(some (a0==95)))else(some (a0==95))))else(if a0≥48 then(if a0≤57 then(some true)else(some (a0==95)))else(some (a0==95))))
mutual
def z0v.j0:Nat→ByteArray→Bool→Option (Bool)
 |0,_,_=>none
 |k+1,x0,x21=>if x21=true then(some false)else(z0v.l0 k x0 0)
def z0v.l0:Nat→ByteArray→Int→Option (Bool)
 |0,_,_=>none
 |k+1,x0,x3=>if x3<(x0.size:Int)then(if 0≤x3 then((z5f.f (bt x0 x3)).bind fun t157=>(if t157=true then(z0v.l0 k x0 (wrap64 (x3+1)))else(some false)))else(none))else(some true)
end
def z0v.f (k:Nat) (a0:ByteArray):Option (Bool):=if(a0.size:Int)<1 then(z0v.j0 k a0 true)else(if(a0.size:Int)>40 then(z0v.j0 k a0 true)else(if 0<(a0.size:Int)then(if(bt a0 0)<65 then(z0v.j0 k a0 true)else(z0v.j0 k a0 (decide ((bt a0 0)>90))))else(none)))
def z7q.f (a0:Int):Option (Bool):=if a0=9221120237041090561 then(some true)else(if a0≤9218868437227405312 then(some (decide (a0≥(-9218868437227405313))))else(some false))
mutual
def z14.l0:Nat→Int→Int→ByteArray→Option (ByteArray)
 |0,_,_,_=>none
 |k+1,x0,x1,x5=>if x0>0 then(z14.j1 k x0 x1 x5 true)else(z14.j1 k x0 x1 x5 (x5.toList==([]:List UInt8)))
def z14.j1:Nat→Int→Int→ByteArray→Bool→Option (ByteArray)
 |0,_,_,_,_=>none
 |k+1,x0,x1,x5,x13=>if x13=true then(if x1=0 then(none)else(if((Int.tmod x0 x1) % 256)>9 then((some (([(((97+((Int.tmod x0 x1) % 256)) % 256) - 10) % 256]:List Int):List Int)).bind fun y168=>(if(strOfNums y168).size+x5.size≤9223372036854775807 then(z14.l0 k (IntKind.u64.wrap (Int.tdiv x0 x1)) x1 ((strOfNums y168)++x5))else(none)))else((some (([(48+((Int.tmod x0 x1) % 256)) % 256]:List Int):List Int)).bind fun y171=>(if(strOfNums y171).size+x5.size≤9223372036854775807 then(z14.l0 k (IntKind.u64.wrap (Int.tdiv x0 x1)) x1 ((strOfNums y171)++x5))else(none)))))else(some x5)
end
def z14.f (k:Nat) (a0:Int) (a1:Int):Option (ByteArray):=z14.l0 k a0 a1 (⟨#[]⟩:ByteArray)
end Go.Proofs.YthebhbomlllpeaaGreatDoor.X
namespace Go.Proofs.YthebhbomlllpeaaGreatDoor.X
open Go.RowKit Go.Proofs.YthebhbomlllpeaaGreatDoorW.PrintWords Go.Proofs.YthebhbomlllpeaaGreatDoorW.PrintLast Go.Proofs.YthebhbomlllpeaaGreatDoorW.PrintMore
attribute [local go_sem] z4h z4i z5e z5d z3s z3r z4l z4k
attribute [local go_sem high] eqA58
def z55.f (a0_0:Int) (a0_1:Int) (a0_2:ByteArray):Option (Bool):=if a0_0=1 then(some (a0_2.toList==([]:List UInt8)))else(if a0_0=2 then(if a0_2.toList=([]:List UInt8)then((z7q.f a0_1).bind fun t159=>(some t159))else(some false))else(if a0_0=3 then(if a0_1=0 then((z5g.f a0_2).bind fun t160=>(some t160))else(some false))else(some false)))
def z81.f (k:Nat) (a0_0:ByteArray) (a0_1:Int) (a0_2:Int) (a0_3:ByteArray):Option (Bool):=if a0_0.toList=([]:List UInt8)then((z55.f a0_1 a0_2 a0_3).bind fun t162=>(some t162))else((z0v.f k a0_0).bind fun t163=>(if t163=true then(some (a0_1==0&&(a0_2==0&&(a0_3.toList==([]:List UInt8)))))else(some false)))
mutual
def z3e.j0:Nat→Bool→ByteArray→List (S60)→Option (Bool)
 |0,_,_,_=>none
 |k+1,x13,x165000,x165001=>if x13=true then(some false)else(z3e.l0 k (x165001.length:Int) 0 x165000 x165001)
def z3e.l0:Nat→Int→Int→ByteArray→List (S60)→Option (Bool)
 |0,_,_,_,_=>none
 |k+1,x16,x17,x165000,x165001=>if x17<x16 then(if 0≤x17 then(if x17<(x165001.length:Int)then((z81.f k ((z1j x165001 x17).f0) ((z1j x165001 x17).f1.f0) ((z1j x165001 x17).f1.f1) ((z1j x165001 x17).f1.f2)).bind fun t167=>(if t167=true then(z3e.l0 k x16 (wrap64 (x17+1)) x165000 x165001)else(some false)))else(none))else(none))else(some true)
end
def z2b.l0:Nat→ByteArray→Option (ByteArray)
 |0,_=>none
 |k+1,x3=>if(x3.size:Int)<16 then(if 1+x3.size≤9223372036854775807 then(z2b.l0 k ((⟨#[48]⟩:ByteArray)++x3))else(none))else(if 1+x3.size≤9223372036854775807 then(some ((⟨#[35]⟩:ByteArray)++x3))else(none))
def z2b.f (k:Nat) (a0_0:Int) (a0_1:Int) (a0_2:ByteArray):Option (ByteArray):=(z55.f a0_0 a0_1 a0_2).bind fun t175=>(if t175=true then(if a0_0=1 then(if a0_1<0 then((z14.f k (IntKind.u64.wrap (-(IntKind.u64.wrap (a0_1)))) 10).bind fun t176=>(if 1+t176.size≤9223372036854775807 then(some ((⟨#[45]⟩:ByteArray)++t176))else(none)))else((z14.f k (IntKind.u64.wrap (a0_1)) 10).bind fun t177=>(some t177)))else(if a0_0=2 then((z14.f k (IntKind.u64.wrap (a0_1)) 16).bind fun t178=>(z2b.l0 k t178))else(some a0_2)))else(some (⟨#[]⟩:ByteArray)))
end Go.Proofs.YthebhbomlllpeaaGreatDoor.X
namespace Go.Proofs.YthebhbomlllpeaaGreatDoor.X
open Go.RowKit Go.Proofs.YthebhbomlllpeaaGreatDoorW.PrintWords Go.Proofs.YthebhbomlllpeaaGreatDoorW.PrintLast Go.Proofs.YthebhbomlllpeaaGreatDoorW.PrintMore
theorem zfi (a b:Int) (s:ByteArray) (hb:-9223372036854775808≤b∧b≤9223372036854775807):(textL a b s).length≤40:=by
 unfold textL
 by_cases hr:z44 a b s=true
 · rw[if_pos hr]
   by_cases h1:a=1
   · rw[if_pos h1];unfold Lib.itoa
     split
     · have:=zc0 b.natAbs (by omega)
       simp[Lib.decDigits_length];omega
     · have:=zc0 b.toNat (by omega)
       simp[Lib.decDigits_length];omega
   · rw[if_neg h1]
     by_cases h2:a=2
     · rw[if_pos h2];have hw:=wrap_u64 b;have:=zac (IntKind.u64.wrap b).toNat 16 (by omega) (by omega);unfold hex16
       simp;omega
     · rw[if_neg h2];unfold z44 at hr;rw[if_neg h1,if_neg h2]at hr
       by_cases h3:a=3
       · rw[if_pos h3]at hr;simp only[Bool.and_eq_true,nameB,decide_eq_true_eq]at hr;show s.size≤40;exact hr.2.1.2
       · rw[if_neg h3]at hr
         cases hr
 · rw[if_neg hr];simp
end Go.Proofs.YthebhbomlllpeaaGreatDoor.X
namespace Go.Proofs.YthebhbomlllpeaaGreatDoor.X
open Go.RowKit Go.Proofs.YthebhbomlllpeaaGreatDoorW.PrintWords Go.Proofs.YthebhbomlllpeaaGreatDoorW.PrintLast Go.Proofs.YthebhbomlllpeaaGreatDoorW.PrintMore
attribute [local go_sem high] eqA58
def okT (t:TmS):Prop:=(-9223372036854775808≤t.f1.f1∧t.f1.f1≤9223372036854775807)∧t.f0.size≤9223372036854775807
theorem z2z (s:ByteArray):s.toList=s.data.toList:=ByteArray.toList_eq s
theorem ze8 {s:ByteArray} (h:s.data.toList=[]):s=⟨#[]⟩:=by
 cases s with
 |mk d=>have:=congrArg List.toArray h;simp at this;rw[this]
theorem zit {w1 w0:World} {n:Nat} {cs:Array Value} {t:TypeId} (hn:w0.heap.size=n) (h:Below (w0.alloc (.cells cs t)).heap.size (w0.alloc (.cells cs t)) w1):w1.heap[n]?=some (.cells cs t (0,0)):=by
 have:=z0l w0 (.cells cs t);rw[hn]at this;exact z0a this h
set_option maxRecDepth 100000 in
theorem zfe (v:ByteArray) (hv:v.size≤9223372036854775807) (w:World) :
 Calls Tryz.prog 107 #[.string v] w fun e w'=>e=.returned (.bool (varL v.data.toList))∧z0c w w':=by
 by_cases h40:v.size≤40
 · exact z3a.calls v _ w (by unfold z3a.f;exact if_pos (by omega))
 · have hl:varL v.data.toList=false:=by
    obtain⟨r,hr⟩:=z8v (s:=v) (by omega);have hlen:v.data.toList.length=v.size:=z0f v;rw[hr]at hlen ⊢;unfold varL;simp only;rw[decide_eq_false (by omega)];rfl
   have hemp:v.toList.isEmpty=false:=by
    obtain⟨r,hr⟩:=z8v (s:=v) (by omega);rw[z2k,hr];rfl
   have e1:decide ((v.size:Int)≤40)=false:=decide_eq_false (by omega);rw[hl];clear hl h40 hv;go_enter Tryz.func107,Tryz.ntmps107;go_wp2
   go_ret
   exact⟨rfl,z0c.refl _⟩
set_option maxHeartbeats 4000000 in
set_option maxRecDepth 100000 in
theorem z2a (t:TmS) (w:World) (hLW:LaidW w) (h:okT t) :
 Calls Tryz.prog 70 #[.agg #[.string t.f0,.int .i64 t.f1.f0,.int .i64 t.f1.f1,.string t.f1.f2]] w fun e w'=>e=.returned (.string (baL (termL t)))∧Below w.heap.size w w':=by
 obtain⟨v,⟨k,m,s⟩⟩:=t;have hB:=z02 (Below.refl w.heap.size w) (.cells #[.string v,.int .i64 k,.int .i64 m,.string s] 60);have hN:=z0l w (.cells #[.string v,.int .i64 k,.int .i64 m,.string s] 60);obtain⟨n,en⟩:∃n,w.heap.size=n:=⟨_,rfl⟩
 rw[en]at hN
 by_cases h0:v.data.toList=[]
 · have e1:(v.toList==([]:List UInt8))=true:=by rw[beq_iff_eq,z2z];exact h0
   have e2:(v.toList==(⟨#[]⟩:ByteArray).toList)=true:=by rw[z1v];exact e1
   have HT:=z00.mk (fun W (hW:LaidW W)=>z3m.calls k m s (baL (textL k m s)) W hW (by unfold z3m.f;exact if_pos h.1));have HE:=z00.mk (show termL ⟨v,⟨k,m,s⟩⟩=textL k m s from if_pos h0);have HB:=z00.mk hB;have HLW:=z00.mk hLW;clear hB hN h0 h hLW;go_enter Tryz.func70,Tryz.ntmps70
   go_wp2_with fail
   refine(HT.out _ (HLW.out.below HB.out)).mono ?_;rintro e w1 ⟨rfl,hb⟩;have HB1:=z00.mk (z06 HB.out HB.out.size hb);clear hb;go_wp2
   go_ret
   exact⟨by rw[HE.out];rfl,HB1.out⟩
 · have e1:(v.toList==([]:List UInt8))=false:=by rw[beq_eq_false_iff_ne,z2z];exact h0
   have e2:(v.toList==(⟨#[]⟩:ByteArray).toList)=false:=by rw[z1v];exact e1
   have HV:=z00.mk (fun W=>zfe v h.2 W);have HE:=z00.mk (show termL ⟨v,⟨k,m,s⟩⟩=if varL v.data.toList=true then(if z6c ⟨k,m,s⟩=true then v.data.toList else[])else[]from if_neg h0);have HB:=z00.mk hB;have HN:=z00.mk hN;have HLW:=z00.mk hLW;clear hB hN h0 h hLW;obtain⟨b,hb⟩:∃b,varL v.data.toList=b:=⟨_,rfl⟩
   rw[hb]at HV HE;clear hb
   cases b with
   |false =>
    go_enter Tryz.func70,Tryz.ntmps70
    go_wp2_with fail
    refine(HV.out _).mono ?_;rintro e w1 ⟨rfl,hb⟩;obtain⟨nd,rfl⟩:=hb;go_wp2
    go_ret
    exact⟨by rw[HE.out];rfl,z04 HB.out nd⟩
   |true =>
    obtain⟨b2,hb2⟩:∃b2,z6c ⟨k,m,s⟩=b2:=⟨_,rfl⟩
    rw[hb2]at HE;have hb3:(k==0&&(m==0&&(s.toList==([]:List UInt8))))=b2:=hb2;clear hb2
    cases b2 with
    |true =>
     rw[Bool.and_eq_true,Bool.and_eq_true,beq_iff_eq,beq_iff_eq,beq_iff_eq]at hb3;obtain⟨rfl,rfl,hs⟩:=hb3;rw[z2z]at hs;obtain rfl:=ze8 hs;clear hs;go_enter Tryz.func70,Tryz.ntmps70
     go_wp2_with fail
     refine(HV.out _).mono ?_;rintro e w1 ⟨rfl,hb⟩;obtain⟨nd,rfl⟩:=hb;have hN2:=z1a HN.out nd;go_wp2
     go_ret
     exact⟨by rw[HE.out];rfl,z04 HB.out nd⟩
    |false =>
     have hb4:(k==0&&(m==0&&(s.toList==(⟨#[]⟩:ByteArray).toList)))=false:=by rw[z1v];exact hb3
     have hb5:(k==0&&(m==0&&s.toList.isEmpty))=false:=by rw[show s.toList.isEmpty=(s.toList==([]:List UInt8)) by cases s.toList <;> rfl];exact hb3
     clear hb3;go_enter Tryz.func70,Tryz.ntmps70
     go_wp2_with fail
     refine(HV.out _).mono ?_;rintro e w1 ⟨rfl,hb⟩;obtain⟨nd,rfl⟩:=hb;go_wp2
     go_ret
     exact⟨by rw[HE.out];rfl,z04 HB.out nd⟩
theorem varL_len {l:List UInt8} (h:varL l=true):l.length≤40:=by
 cases l with
 |nil=>simp
 |cons c r =>
  unfold varL at h;rw[Bool.and_eq_true]at h;exact of_decide_eq_true h.1
theorem z23 (t:TmS) (h:okT t):(termL t).length≤40:=by
 unfold termL
 split
 · exact zfi _ _ _ h.1
 · split
   · rename_i hv
     split
     · exact varL_len hv
     · simp
   · simp
theorem z94 {s:ByteArray} (h:predN s=true):s.size≤40:=by
 unfold predN nmL at h;rw[Bool.and_eq_true]at h;have:=h.1;unfold nameB at this;rw[Bool.and_eq_true]at this;have:=of_decide_eq_true this.1;exact this.2
theorem zb7 (s:ByteArray):z2e.f 42 s=some (predN s):=by
 unfold z2e.f predN;rw[z5m s 42 (Nat.le_refl _),z5v];simp only[Option.bind_some];have e:nmL s.data.toList=nameB s:=rfl;rw[e]
 cases nameB s <;> rfl
theorem zia (f:Int) (b:Bool) (t:TmS) (h:okT t):(argL f b t).length≤100:=by
 have h1:=z23 t h;have h2:(foldW f).length≤5:=by
  unfold foldW
  repeat' split
  all_goals simp
 unfold argL
 split
 · omega
 · split
   · simp
   · simp only[List.length_append,List.length_cons,List.length_nil];omega
theorem rd_ok {xs:List S60} (h:∀x ∈ xs,okT x) (i:Int):okT (z1j xs i):=by
 unfold z1j;rw[List.getD_eq_getElem?_getD]
 cases hg:xs[i.toNat]? with
 |none=>exact⟨⟨by decide,by decide⟩,by decide⟩
 |some y=>exact h y (List.mem_of_getElem? hg)
def argG (f:Int) (xs:List TmS) (i:Nat):List UInt8:=argL f (decide ((i:Int)=(xs.length:Int) - 1)) (z1j xs (i:Int))
theorem zez (f:Int):∀(xs:List TmS) (i:Nat),i<xs.length→(argsL f xs)[i]?=some (argG f xs i)
 |[],i,h=>by simp at h
 |[t],i,h=>by
  have:i=0:=by simp at h;omega
  subst this;rfl
 |t::u::r,0,h=>by
  show some _=some _
  congr 1
  unfold argG;rw[decide_eq_false (by simp;omega)];rfl
 |t::u::r,i+1,h=>by
  have ih:=zez f (u::r) i (by simpa using h);show(argsL f (u::r))[i]?=_;rw[ih]
  congr 1
  unfold argG;have e1:z1j (t::u::r) ((i+1:Nat):Int)=z1j (u::r) (i:Int):=by
   unfold z1j;rw[show((i+1:Nat):Int).toNat=i+1 by omega,show(i:Int).toNat=i by omega];rfl
  rw[e1]
  congr 1
  simp only[List.length_cons]
  congr 1
  simp
theorem z6d (f:Int):∀xs:List TmS,(argsL f xs).length=xs.length
 |[]=>rfl
 |[t]=>rfl
 |t::u::r=>by
  show(argsL f (u::r)).length+1=_;rw[z6d f (u::r)];rfl
theorem zap (f:Int) (xs:List TmS):(List.range xs.length).map (argG f xs)=argsL f xs:=by
 apply List.ext_getElem?;intro i
 by_cases h:i<xs.length
 · rw[zez f xs i h,List.getElem?_map,List.getElem?_range h];rfl
 · rw[List.getElem?_eq_none (by simp;omega),List.getElem?_eq_none (by rw[z6d];omega)]
theorem zmm (f:Int) (xs:List TmS) (sep:List UInt8):eachG (argG f xs) xs.length sep=eachL (argsL f xs) sep:=by unfold eachG;rw[zap]
theorem z6g {a b:ByteArray} (h:a=b):Ending.returned (.string a)=.returned (.string b):=by rw[h]
theorem zix:∀(f:Nat),f≤5→∀w:World,(Instr.index 115 (.agg #[.string ⟨#[]⟩,.string ⟨#[99,111,117,110,116]⟩,.string ⟨#[115,117,109]⟩,.string ⟨#[109,105,110]⟩,.string ⟨#[109,97,120]⟩,.string ⟨#[109,101,97,110]⟩]) (.int .i64 f)).run Tryz.prog w=.ok (.string (baL (foldW f))) w
 |0,_=>fun _=>by kernel_rfl
 |1,_=>fun _=>by kernel_rfl
 |2,_=>fun _=>by kernel_rfl
 |3,_=>fun _=>by kernel_rfl
 |4,_=>fun _=>by kernel_rfl
 |5,_=>fun _=>by kernel_rfl
 |n+6,h=>by omega
set_option maxHeartbeats 4000000 in
set_option maxRecDepth 100000 in
theorem zfx (t:TmS) (f:Nat) (hf:f≤5) (i last:Int) (b3 b5:Nat) (w:World) (hLW:LaidW w) (ht:okT t) (h3:w.heap[b3]?=some (.cells #[.int .i64 f] 3 (0,0))) (h5:w.heap[b5]?=some (.cells #[.int .i64 last] 3 (0,0))) :
 Calls Tryz.prog 69 #[.int .i64 i,.agg #[.string t.f0,.int .i64 t.f1.f0,.int .i64 t.f1.f1,.string t.f1.f2],.pointer (some ⟨b3,0,none⟩),.pointer (some ⟨b5,0,none⟩)] w fun e w'=>e=.returned (.string (baL (argL f (decide (i=last)) t)))∧Below w.heap.size w w':=by
 have hl:=z23 t ht;have HT:=z00.mk (fun W (hW:LaidW W)=>z2a t W hW ht);obtain⟨s,hs⟩:∃s,termL t=s:=⟨_,rfl⟩
 rw[hs]at HT hl;have HE:=z00.mk (show argL f (decide (i=last)) t=if(f:Int)=0∨decide (i=last)=false then s else if t.f0.data.toList=[]∨s=[]then[]else foldW f++([40]++(s++[41])) by unfold argL;rw[hs]);obtain⟨d,hd⟩:∃d,decide (i=last)=d:=⟨_,rfl⟩
 rw[hd]at HE ⊢;have HD:=z00.mk hd;clear hd;obtain⟨v,⟨k,m,z⟩⟩:=t;have hB:=z02 (Below.refl w.heap.size w) (.cells #[.string v,.int .i64 k,.int .i64 m,.string z] 60);obtain⟨n,en⟩:∃n,w.heap.size=n:=⟨_,rfl⟩
 have hN:=fun w1 (h:Below (w.alloc (.cells #[.string v,.int .i64 k,.int .i64 m,.string z] 60)).heap.size (w.alloc (.cells #[.string v,.int .i64 k,.int .i64 m,.string z] 60)) w1)=>zit en h
 have HN:=z00.mk hN;have HB:=z00.mk hB;have HLW:=z00.mk (hLW.below hB);have H3:=z00.mk (z0a h3 hB);have H5:=z00.mk (z0a h5 hB);have hfs:(foldW f).length≤5:=by
  unfold foldW
  repeat' split
  all_goals simp
 have HW:=z00.mk (zix f hf);clear hN hB hLW h3 h5 ht hs;go_enter Tryz.func69,Tryz.ntmps69
 go_wp2_with fail
 refine(HT.out _ HLW.out).mono ?_;rintro e w1 ⟨rfl,hb⟩;have HB1:=z00.mk (z06 HB.out HB.out.size hb);have g3:=z0a H3.out hb;have g5:=z0a H5.out hb;have hN1:=HN.out w1 hb;have hc3:w1.cell? ⟨b3,0,none⟩=some (.int .i64 f):=(z01 g3 0).trans rfl;have hc5:w1.cell? ⟨b5,0,none⟩=some (.int .i64 last):=(z01 g5 0).trans rfl;have hv:w1.cell? ⟨n,0,none⟩=some (.string v):=(z01 hN1 0).trans rfl;clear hb g3 g5 hN1
 by_cases hf0:f=0
 · subst hf0;have HE2:=z00.mk (HE.out.trans (if_pos (Or.inl rfl)));clear HE;go_wp2
   go_ret
   exact⟨by rw[HE2.out];rfl,HB1.out⟩
 · have e1:((f:Int)==0)=false:=beq_eq_false_iff_ne.2 (by omega);have e2:(f==0)=false:=beq_eq_false_iff_ne.2 hf0
   by_cases hil:i=last
   · obtain rfl:true=d:=by rw[←HD.out,decide_eq_true hil]
     have e0:(i==last)=true:=beq_iff_eq.2 hil;have e01:(i !=last)=false:=bne_eq_false_iff_eq.2 hil;clear hil;have HE1:=z00.mk (HE.out.trans (if_neg (by rintro(h|h);exact hf0 (by omega);cases h)));clear HE
     by_cases hv0:v.data.toList=[]
     · have e3:(v.toList==([]:List UInt8))=true:=by rw[beq_iff_eq,z2z];exact hv0
       have e4:(v.toList==(⟨#[]⟩:ByteArray).toList)=true:=by rw[z1v];exact e3
       have HE2:=z00.mk (HE1.out.trans (if_pos (Or.inl hv0)));clear HE1 hv0;go_wp2
       go_ret
       exact⟨by rw[HE2.out];rfl,HB1.out⟩
     · have e3:(v.toList==([]:List UInt8))=false:=by rw[beq_eq_false_iff_ne,z2z];exact hv0
       have e4:(v.toList==(⟨#[]⟩:ByteArray).toList)=false:=by rw[z1v];exact e3
       obtain⟨b,hbE⟩:∃b,baL s=b:=⟨_,rfl⟩
       rw[hbE]
       by_cases hs0:s=[]
       · have e5:(b.toList==([]:List UInt8))=true:=by rw[←hbE,hs0,z17];exact beq_self_eq_true _
         have e6:(b.toList==(⟨#[]⟩:ByteArray).toList)=true:=by rw[←hbE,hs0];exact beq_self_eq_true _
         have HE2:=z00.mk (HE1.out.trans (if_pos (Or.inr hs0)));clear HE1 hv0 hs0 hbE;go_wp2
         go_ret
         exact⟨by rw[HE2.out];rfl,HB1.out⟩
       · have e5:(b.toList==([]:List UInt8))=false:=by rw[beq_eq_false_iff_ne,←hbE,z17];exact hs0
         have e6:(b.toList==(⟨#[]⟩:ByteArray).toList)=false:=by rw[beq_eq_false_iff_ne,←hbE,z17];exact fun h=>hs0 (h.trans z1v)
         have HE2:=z00.mk (HE1.out.trans (if_neg (by rintro(h|h);exact hv0 h;exact hs0 h)));have HBE:=z00.mk hbE;have hbs:b.size≤40:=by rw[←hbE];simpa [ByteArray.size] using hl
         obtain⟨q,hq⟩:∃q,baL (foldW f)=q:=⟨_,rfl⟩
         have hqs:q.size≤5:=by rw[←hq];simpa [ByteArray.size] using hfs
         have hw:=HW.out;rw[hq]at hw;have HQ:=z00.mk hq;clear HE1 hv0 hs0 hbE hq HW hl hfs;go_wp2
         go_ret
         exact⟨by rw[HE2.out,←HBE.out,←HQ.out];exact z6g (ba_eq (by simp)),HB1.out⟩
   · have e3:(i==last)=false:=beq_eq_false_iff_ne.2 hil;have e4:(i !=last)=true:=bne_iff_ne.2 hil;obtain rfl:false=d:=by rw[←HD.out,decide_eq_false hil]
     have HE1:=z00.mk (HE.out.trans (if_pos (Or.inr rfl)));clear HE;go_wp2
     go_ret
     exact⟨by rw[HE1.out];rfl,HB1.out⟩
end Go.Proofs.YthebhbomlllpeaaGreatDoor.X
namespace Go.Proofs.YthebhbomlllpeaaGreatDoor.X
open Go.RowKit Go.Proofs.YthebhbomlllpeaaGreatDoorW.PrintWords Go.Proofs.YthebhbomlllpeaaGreatDoorW.PrintLast Go.Proofs.YthebhbomlllpeaaGreatDoorW.PrintMore
def okA (a:AtS):Prop:=(∀x ∈ a.f1,okT x)∧a.f1.length≤1000
theorem blocks3v (w:World) (o0 o1 o2:Obj):(((w.alloc o0).alloc o1).alloc o2).heap[w.heap.size]?=some o0∧(((w.alloc o0).alloc o1).alloc o2).heap[w.heap.size+1]?=some o1∧(((w.alloc o0).alloc o1).alloc o2).heap[w.heap.size+2]?=some o2:=by
 have z1:(w.alloc o0).heap.size=w.heap.size+1:=by simp
 have z2:((w.alloc o0).alloc o1).heap.size=w.heap.size+2:=by simp
 refine⟨z0d (z0d (z0l w o0) _) _,?_,?_⟩
 · have:=z0l (w.alloc o0) o1;rw[z1]at this;exact z0d this _
 · have:=z0l ((w.alloc o0).alloc o1) o2
   rwa [z2]at this
theorem zho (f:Int) (xs:List TmS) (h:∀x ∈ xs,okT x):∀x ∈ argsL f xs,x.length≤100:=fun x hx=>by
 rw[←zap]at hx;obtain⟨i,_,rfl⟩:=List.mem_map.1 hx;exact zia _ _ _ (rd_ok h _)
theorem za8 {ws:List (List UInt8)} {sep:List UInt8} {m:Nat} (h:∀x ∈ ws,x.length≤m):(eachL ws sep).1.length≤ws.length * (m+sep.length):=by
 unfold eachL
 split
 · simp
 · exact zhf ws sep m h
theorem z5i (a:AtS) (f:Int) (h:okA a):(headL a f).length≤200000:=by
 have h1:(eachL (argsL f a.f1) [44,32]).1.length≤1000 * 102:=Nat.le_trans (za8 (zho f a.f1 h.1)) (by rw[z6d];exact Nat.mul_le_mul h.2 (by simp));unfold headL
 split
 · simp
 · rename_i hc;have hp:a.f0.size≤40:=z94 (by
    cases hb:predN a.f0 with
    |true=>rfl
    |false=>exact absurd (Or.inr (Or.inl hb)) hc)
   split
   · rw[z0f];omega
   · simp only[List.length_append,List.length_cons,List.length_nil,z0f];omega
set_option maxHeartbeats 4000000 in
set_option maxRecDepth 100000 in
theorem zch (a:AtS) (A:Option Addr) (c:Nat) (f:Nat) (hf:f≤5) (w:World) (hLW:LaidW w) (hC:Kd.C k60 w A a.f1.length a.f1) (ha:okA a) :
 Calls Tryz.prog 42 #[.agg #[.string a.f0,.slice A a.f1.length c],.int .i64 f] w fun e w'=>e=.returned (.string (baL (headL a f)))∧Below w.heap.size w w':=by
 obtain⟨p,xs⟩:=a;have hlen:xs.length≤1000:=ha.2;obtain⟨n,en⟩:∃n,w.heap.size=n:=⟨_,rfl⟩
 obtain⟨last,hlast⟩:∃l:Int,(xs.length:Int) - 1=l:=⟨_,rfl⟩
 have hz1:(w.alloc (.cells #[.string p,.slice A xs.length c] 25)).heap.size=n+1:=by simp[en]
 have hz2:((w.alloc (.cells #[.string p,.slice A xs.length c] 25)).alloc (.cells #[.int .i64 f] 3)).heap.size=n+2:=by simp[en]
 have hb:=blocks3v w (.cells #[.string p,.slice A xs.length c] 25) (.cells #[.int .i64 f] 3) (.cells #[.int .i64 last] 3);rw[en]at hb;obtain⟨W,hW⟩:∃W,((w.alloc (.cells #[.string p,.slice A xs.length c] 25)).alloc (.cells #[.int .i64 f] 3)).alloc (.cells #[.int .i64 last] 3)=W:=⟨_,rfl⟩
 have hBW:Below w.heap.size w W:=hW ▸ z02 (z02 (z02 (Below.refl _ _) _) _) _;rw[hW]at hb;have HP:=z00.mk (zgx W A c xs (.pointer (some ⟨n+1,0,none⟩)) (.pointer (some ⟨n+2,0,none⟩)) (argG f xs) ⟨#[44,32]⟩ (by decide) (Kd.C_below hC hBW) hlen (fun i=>Nat.le_trans (zia _ _ _ (rd_ok ha.1 _)) (by decide)) (fun V i hi hV=>by
  have:=zfx (z1j xs i) f hf (i:Int) ((xs.length:Int) - 1) (n+1) (n+2) V (hLW.below (z06 hBW hBW.size hV)) (rd_ok ha.1 _) (z0a hb.2.1 hV) (by rw[hlast];exact z0a hb.2.2 hV);exact this))
 have hs1:(eachL (argsL f xs) [44,32]).1.length≤1000 * 102:=Nat.le_trans (za8 (zho f xs ha.1)) (by rw[z6d];exact Nat.mul_le_mul hlen (by simp));rw[zmm,show(⟨#[44,32]⟩:ByteArray).data.toList=[44,32]from rfl]at HP;have HE:=z00.mk (show headL ⟨p,xs⟩ f=if(eachL (argsL f xs) [44,32]).2=false∨predN p=false∨8<xs.length∨(0<(f:Int)∧xs=[])then[]else if xs=[]then p.data.toList else p.data.toList++([40]++((eachL (argsL f xs) [44,32]).1++[41]))from rfl);obtain⟨⟨s,ok⟩,hso⟩:∃x,eachL (argsL f xs) [44,32]=x:=⟨_,rfl⟩
 rw[hso]at HP HE hs1;have HPR:=z00.mk (fun V=>z2e.calls 42 p (predN p) V (zb7 p));have HPL:=z00.mk (fun(h:predN p=true)=>z94 h);obtain⟨pr,hpr⟩:∃b,predN p=b:=⟨_,rfl⟩
 rw[hpr]at HPR HE HPL;have HB:=z00.mk (And.intro hb hBW);have HW:=z00.mk hW;have HLS:=z00.mk hlast;have hmf:∀(fn:Fn) (first cap:Array Value) (w:World),(Instr.makeFunc fn first cap).run Tryz.prog w=.ok (.func fn first cap) w:=fun _ _ _ _=>rfl
 have hll:-1≤last∧last≤1000:=by omega
 clear hC ha hso hpr hb hBW hW hLW;go_enter Tryz.func42,Tryz.ntmps42
 go_wp2_with fail
 rw[HW.out];refine HP.out.mono ?_;rintro e w1 ⟨rfl,hb⟩;have HB1:=z00.mk (z06 HB.out.2 HB.out.2.size hb);have g0:=z0a HB.out.1.1 hb;have g1:=z0a HB.out.1.2.1 hb;have g2:=z0a HB.out.1.2.2 hb;have hc0:w1.cell? ⟨n,0,none⟩=some (.string p):=(z01 g0 0).trans rfl;have hc1:w1.cell? ⟨n,1,none⟩=some (.slice A xs.length c):=(z01 g0 1).trans rfl;have hc3:w1.cell? ⟨n+1,0,none⟩=some (.int .i64 f):=(z01 g1 0).trans rfl;have hc5:w1.cell? ⟨n+2,0,none⟩=some (.int .i64 last):=(z01 g2 0).trans rfl;clear hb g0 g1 g2 HB HW HP
 cases ok with
 |false =>
  have HE2:=z00.mk (HE.out.trans (if_pos (Or.inl rfl)));clear HE;go_wp2
  go_ret
  exact⟨by rw[HE2.out];rfl,HB1.out⟩
 |true =>
  cases pr with
  |false =>
   have HE2:=z00.mk (HE.out.trans (if_pos (Or.inr (Or.inl rfl))));clear HE
   go_wp2_with fail
   refine(HPR.out _).mono ?_;rintro e w2 ⟨rfl,nd,rfl⟩;go_wp2
   go_ret
   exact⟨by rw[HE2.out];rfl,z04 HB1.out nd⟩
  |true =>
   have hpl:=HPL.out rfl;clear HPL;have HE1:=z00.mk HE.out;clear HE
   go_wp2_with fail
   refine(HPR.out _).mono ?_;rintro e w2 ⟨rfl,nd,rfl⟩;have HB2:=z00.mk (z04 HB1.out nd);replace hc0:(w1.drewN nd).cell? ⟨n,0,none⟩=some (.string p):=hc0;replace hc1:(w1.drewN nd).cell? ⟨n,1,none⟩=some (.slice A xs.length c):=hc1;replace hc3:(w1.drewN nd).cell? ⟨n+1,0,none⟩=some (.int .i64 f):=hc3;replace hc5:(w1.drewN nd).cell? ⟨n+2,0,none⟩=some (.int .i64 last):=hc5
   generalize w1.drewN nd=w2 at HB2 hc0 hc1 hc3 hc5 ⊢
   by_cases h8:8<xs.length
   · have e1:decide ((8:Int)<(xs.length:Int))=true:=decide_eq_true (by omega);have e2:decide (8<xs.length)=true:=decide_eq_true h8;have HE2:=z00.mk (HE1.out.trans (if_pos (Or.inr (Or.inr (Or.inl h8)))));clear HE1;go_wp2
     go_ret
     exact⟨by rw[HE2.out];rfl,HB2.out⟩
   · have e1:decide ((8:Int)<(xs.length:Int))=false:=decide_eq_false (by omega);have e2:decide (8<xs.length)=false:=decide_eq_false h8
     by_cases hx:xs=[]
     · have hl0:last=-1:=by rw[←HLS.out,hx];rfl
       have e3:decide (last<0)=true:=decide_eq_true (by omega)
       by_cases h0:0<f
       · have e4:decide ((0:Int)<(f:Int))=true:=decide_eq_true (by omega);have e5:decide (0<f)=true:=decide_eq_true h0;have HE2:=z00.mk (HE1.out.trans (if_pos (Or.inr (Or.inr (Or.inr ⟨by omega,hx⟩)))));clear HE1 hl0 hx;go_wp2
         go_ret
         exact⟨by rw[HE2.out];rfl,HB2.out⟩
       · have e4:decide ((0:Int)<(f:Int))=false:=decide_eq_false (by omega);have e5:decide (0<f)=false:=decide_eq_false h0;have HE2:=z00.mk ((HE1.out.trans (if_neg (by rintro(h|h|h|h);cases h;cases h;exact h8 h;exact h0 (by omega)))).trans (if_pos hx));clear HE1 hl0 hx;go_wp2
         go_ret
         exact⟨by rw[HE2.out];exact z6g (ba_eq rfl),HB2.out⟩
     · have hl0:0≤last:=by
        have:xs.length≠0:=fun h=>hx (List.length_eq_zero_iff.1 h)
        have:=HLS.out;omega
       have e3:decide (last<0)=false:=decide_eq_false (by omega);have HE2:=z00.mk ((HE1.out.trans (if_neg (by rintro(h|h|h|h);cases h;cases h;exact h8 h;exact hx h.2))).trans (if_neg hx));have hss:(baL s).size≤102000:=by simpa [ByteArray.size] using hs1
       obtain⟨b,hbE⟩:∃b,baL s=b:=⟨_,rfl⟩
       rw[hbE]at hss ⊢;have HBE:=z00.mk hbE;clear HE1 hx hbE hs1
       by_cases h0:0<f
       · have e4:decide ((0:Int)<(f:Int))=true:=decide_eq_true (by omega);have e5:decide (0<f)=true:=decide_eq_true h0;go_wp2
         go_ret
         exact⟨by rw[HE2.out,←HBE.out];exact z6g (ba_eq (by simp)),HB2.out⟩
       · have e4:decide ((0:Int)<(f:Int))=false:=decide_eq_false (by omega);have e5:decide (0<f)=false:=decide_eq_false h0;go_wp2
         go_ret
         exact⟨by rw[HE2.out,←HBE.out];exact z6g (ba_eq (by simp)),HB2.out⟩
set_option maxHeartbeats 4000000 in
set_option maxRecDepth 100000 in
theorem z5a (a:AtS) (A:Option Addr) (c:Nat) (w:World) (hLW:LaidW w) (hC:Kd.C k60 w A a.f1.length a.f1) (ha:okA a) :
 Calls Tryz.prog 23 #[.agg #[.string a.f0,.slice A a.f1.length c]] w fun e w'=>e=.returned (.string (baL (atomL a)))∧Below w.heap.size w w':=by
 have hB:=z02 (Below.refl w.heap.size w) (.cells #[.string a.f0,.slice A a.f1.length c] 25);have HP:=z00.mk (zch a A c 0 (by decide) _ (hLW.below hB) (Kd.C_below hC hB) ha);have HB:=z00.mk hB;clear hC ha hB hLW;unfold atomL;go_enter Tryz.func23,Tryz.ntmps23
 go_wp2_with fail
 refine HP.out.mono ?_;rintro e w1 ⟨rfl,hb⟩;have HB1:=z00.mk (z06 HB.out HB.out.size hb);clear hb;go_wp2
 go_ret
 exact⟨rfl,HB1.out⟩

theorem zfc {α:Type} {d:Kd α} {W:World} {A:Option Addr} {xs:List α} (h:Kd.C d W A xs.length xs) (z:α) (hs:0<d.sz) (i:Nat) (hi:i<xs.length) :
 ∃bk o cs,A=some ⟨bk,o,none⟩∧cs.length=d.sz∧d.K W (xs.getD i z) cs∧W.rangeAt bk (o+i * d.sz) cs:=by
 obtain⟨⟨bk,o,sub⟩,cs,rfl,hl,hK,hc⟩:=Kd.C_get h z (i:Int) (by omega) (by omega);rw[Int.toNat_natCast]at hK hc;obtain⟨ad,he,hh⟩:=h.2.2 (by omega);injection he with he
 subst he;obtain⟨c0,hl0,_,hc0⟩:=hh 0 xs[0] (List.getElem?_eq_getElem (by omega));have h0:=hc0 0 c0[0] (List.getElem?_eq_getElem (by omega));rw[Nat.zero_mul]at h0;have hsub:sub=none:=by
  cases sub with
  |none=>rfl
  |some s =>
   exfalso
   unfold Addr.add at h0
   revert h0
   unfold World.cell?
   simp
   split <;> simp
 subst hsub;refine⟨bk,o,cs,rfl,hl,hK,fun j v hj=>?_⟩;have:=hc j v hj;rw[Addr.add_mid]at this;rw[←Nat.add_assoc]at this;exact this
theorem zbq:∀(vs:List Value) (cs:Array Value) (i:Nat),i+vs.length=cs.size→(setsA cs i vs).toList=cs.toList.take i++vs
 |[],cs,i,h=>by
  simp only[setsA,List.append_nil];rw[List.take_of_length_le (by rw[List.length_nil]at h;simp;omega)]
 |v::vs,cs,i,h=>by
  simp only[setsA];rw[zbq vs _ (i+1) (by simp at h ⊢;omega)];have hi:i<cs.size:=by simp at h;omega
  have hi2:i<cs.toList.length:=by simpa using hi
  rw[Array.toList_setIfInBounds,List.take_set,List.take_succ_eq_append_getElem hi2];have hl:(cs.toList.take i).length=i:=by rw[List.length_take];omega
  rw[List.set_append_right _ _ (by omega),hl]
  simp
theorem z8t {vs:List Value} {cs:Array Value} (h:vs.length=cs.size):setsA cs 0 vs=vs.toArray:=by
 have:=zbq vs cs 0 (by omega);rw[List.take_zero,List.nil_append]at this;apply Array.toList_inj.1;rw[this]
set_option maxHeartbeats 4000000 in
set_option maxRecDepth 100000 in
theorem zgk (w:World) (A:Option Addr) (c:Nat) (xs:List S62) (g:Nat→List UInt8) (sep:ByteArray) (hsep:sep.size≤2) (hC:Kd.C k62 w A xs.length xs) (hn:xs.length≤1000) (hg:∀i,(g i).length≤100000000)
 (hby:∀(W:World) (i:Nat) (cs:List Value),i<xs.length→Below w.heap.size w W→k62.K W (xs.getD i z62) cs→Calls Tryz.prog 44 #[.int .i64 i,.agg cs.toArray] W fun e W'=>e=.returned (.string (baL (g i)))∧Below W.heap.size W W') :
 Calls Tryz.prog 43 #[.slice A xs.length c,.func (.func 44) #[] #[],.string sep] w fun e w'=>e=.returned (.tuple #[.string (baL (eachG g xs.length sep.data.toList).1),.bool (eachG g xs.length sep.data.toList).2])∧Below w.heap.size w w':=by
 have HC:=z00.mk hC;have HBY:=z00.mk hby;have HG:=z00.mk (And.intro hg hsep);have HR:=z00.mk (Kd.R_nil Kd.string 9 w w.heap.size (fun k=>w.heap.size≤k));have HB:=z00.mk (Below.refl w.heap.size w);clear hC hby hg hsep;go_enter Tryz.func43,Tryz.ntmps43;go_wp2
 go_loopg [8,14] (xs.length+1) (fun kq v8 v14 w'=>∃(i:Nat),v14=.int .i64 i∧kq+i=xs.length+1∧i≤xs.length∧z00 (∀j,j<i→g j≠[])∧z00 (Kd.R Kd.string 9 w' w.heap.size (fun k=>w.heap.size≤k) v8 ((List.range i).map (fun j=>baL (g j))))∧z00 (Below w.heap.size w w'))
 case atStart=>exact⟨0,rfl,by omega,by omega,⟨fun j hj=>by omega⟩,HR,HB⟩
 case round =>
  clear HR HB;obtain⟨i,rfl,hk,hi,HE,HV,HB⟩:=hrel
  by_cases hlt:i<xs.length
  · have hz:decide ((i:Int)<(xs.length:Int))=true:=decide_eq_true (by omega);have hz2:decide (i<xs.length)=true:=decide_eq_true hlt;obtain⟨k1,rfl⟩:∃k1,gk=k1+1:=⟨gk - 1,by omega⟩
    obtain⟨bk,o,cs,rfl,hcl,hK,hcell⟩:=zfc (Kd.C_below HC.out HB.out) z62 (by decide) i hlt;have hcl:cs.length=17:=hcl;have hrg:wr.rangeAt bk (o+i * 17) cs:=hcell;have h1c:=k62.K_one hK;have HK:=z00.mk (And.intro hK (And.intro hrg (And.intro hcl h1c)));obtain⟨n,en⟩:∃n,wr.heap.size=n:=⟨_,rfl⟩
    have hN:=z0l wr (.cells zLit 62);rw[en]at hN;have HN:=z00.mk hN;have HBA:=z00.mk (z02 HB.out (.cells zLit 62));have HNB:=z00.mk (show w.heap.size≤n by rw[←en];exact HB.out.size);have HRG:=z00.mk (show(sets (wr.alloc (.cells zLit 62)) n 0 cs).rangeAt n 0 cs from by
     have h1:=z7i (z35 cs 0 _ _ hN)
     rwa [z8t (hcl.trans (by kernel_rfl)),List.toList_toArray]at h1)
    have hBW:Below wr.heap.size wr (sets (wr.alloc (.cells zLit 62)) n 0 cs):=z2u (w0:=wr) (by omega) cs 0 _ (z02 (Below.refl _ _) _);have HBW:=z00.mk hBW;clear hK hrg hcl h1c hcell hN hBW
    go_wp2_with (first|((with_reducible refine z1u (N:=18) rfl ?_);refine wpList_load_mid rfl 62 (.tmp 17) rfl bk (o+i * 17) rfl cs _ HK.out.2.1 Tryz.underlying62 rfl (by rw[HK.out.2.2.1];kernel_rfl) ?_)|((with_reducible refine z3x (t:=62) (p:=10) (v:=.tmp 18) rfl ?_);refine wpList_store_mid rfl 62 (.tmp 10) (.tmp 18) rfl n 0 cs.toArray rfl rfl (z4w HN.out (by rw[List.size_toArray,HK.out.2.2.1];exact Nat.le_of_eq (by kernel_rfl))) (by rw[List.size_toArray,HK.out.2.2.1];kernel_rfl) (all_oneCell_toArray HK.out.2.2.2) ?_;rw[z2o,List.toList_toArray])|((with_reducible refine z1u (N:=21) rfl ?_);refine wpList_load_mid rfl 62 (.tmp 10) rfl n 0 rfl cs _ HRG.out Tryz.underlying62 rfl (by rw[HK.out.2.2.1];kernel_rfl) ?_))
    have HCB:=z00.mk (z06 HB.out HB.out.size HBW.out);refine(HBY.out _ i cs hlt HCB.out (k62.K_below HBW.out HK.out.1)).mono ?_;rintro e w1 ⟨rfl,hb⟩;have hb1:=z06 HBW.out HBW.out.size hb;have HB1:=z00.mk (z06 HB.out HB.out.size hb1);have HV1:=z00.mk (Kd.R_below HV.out hb1);clear hb hb1;obtain⟨b,hbE⟩:∃b,baL (g i)=b:=⟨_,rfl⟩
    by_cases he:g i=[]
    · have e1:(b.toList==([]:List UInt8))=true:=by rw[←hbE,he,z17];exact beq_self_eq_true _
      have e2:(b.toList==(⟨#[]⟩:ByteArray).toList)=true:=by rw[←hbE,he];exact beq_self_eq_true _
      have HE:=z00.mk (zdd (sep:=sep.data.toList) hlt he);clear he;rw[hbE];clear hbE;go_wp2
      go_ret2
      rw[HE.out];exact⟨rfl,HB1.out⟩
    · have e1:(b.toList==([]:List UInt8))=false:=by rw[beq_eq_false_iff_ne,←hbE,z17];exact he
      have e2:(b.toList==(⟨#[]⟩:ByteArray).toList)=false:=by rw[beq_eq_false_iff_ne,←hbE,z17];exact fun h=>he (h.trans z1v)
      have HBE:=z00.mk (And.intro hbE he);obtain⟨A8,c8,rfl⟩:=Kd.R_slice HV1.out;have HL:z00 (((List.range i).map fun j=>baL (g j)).length≤1000):=⟨by rw[List.length_map,List.length_range];omega⟩
      rw[hbE];clear hbE he;obtain⟨L,hL⟩:∃L,((List.range i).map fun j=>baL (g j))=L:=⟨_,rfl⟩
      rw[hL]at HV1 HL;rw[hL];have HLE:=z00.mk hL;clear hL
      go_wp2_with ((with_reducible refine z1n (b:=.append) (xs:=#[.tmp 25,.tmp 27]) rfl ?_);at_builtin;refine Kd.R_append Kd.string (w0:=w) w.heap.size rfl (.tmp 25) (.tmp 27) 54 9 (.string ⟨#[]⟩) 16 rfl Tryz.underlying54 zm1 rfl (by decide) (by decide) (.slice A8 L.length c8) L b [.string b] (fun k=>w.heap.size≤k) (fun _=>False) rfl zA0f rfl (fun _ hk=>hk.elim) (fun k hk=>Nat.le_trans HB1.out.size hk) HV1.out HB1.out HB1.out.size (by have:=HL.out;omega) ?_;intro v1 w2 ho hb hg hat;have HV2:=z00.mk ho;have HB2:=z00.mk hb;clear ho hb hg hat)
      go_roundg k1
      case rel=>exact⟨i+1,by go_num,by omega,by omega,⟨fun j hj=>by rcases Nat.lt_succ_iff_lt_or_eq.1 hj with h|h;exact HE.out j h;exact h ▸ HBE.out.2⟩,⟨by rw[z9n,HBE.out.1,HLE.out];exact HV2.out⟩,HB2⟩
      case measure=>omega
  · obtain rfl:i=xs.length:=by omega
    have hz:decide ((xs.length:Int)<(xs.length:Int))=false:=decide_eq_false (by omega);obtain⟨A8,c8,rfl⟩:=Kd.R_slice HV.out;have hj:=z9u sep HV.out (by rw[z5n];exact z9s HG.out.1 HG.out.2 hn) (by rw[List.length_map,List.length_range];exact hn);rw[z5n]at hj;obtain⟨L,hL⟩:∃L,((List.range xs.length).map fun j=>baL (g j))=L:=⟨_,rfl⟩
    rw[hL]at hj ⊢;clear HV hL;have HJ:=z00.mk hj;have HE2:=z00.mk (zaz (sep:=sep.data.toList) HE.out);clear hj
    go_wp2_with fail
    refine HJ.out.mono ?_;rintro e w1 ⟨rfl,hb⟩;have HB1:=z00.mk (z06 HB.out HB.out.size hb);clear hb;go_wp2
    go_ret2
    rw[HE2.out];exact⟨rfl,HB1.out⟩

abbrev kP:Kd (ByteArray × Int):=Kd.pair Kd.string (Kd.int .i64)
theorem kP_open {w:World} {x:ByteArray × Int} {cs:List Value} (h:kP.K w x cs):cs=[.string x.1,.int .i64 x.2]:=by
 obtain⟨_,_,rfl,rfl,rfl⟩:=h;rfl
theorem zbw (w:World) (base:Nat) (ok:Nat→Prop) (x:ByteArray × Int):kP.M w base ok x [.string x.1,.int .i64 x.2]:=⟨[.string x.1],[.int .i64 x.2],rfl,rfl,rfl⟩
theorem infoP:(Tryz.prog.info? 85).map (fun i=>(i.zero,i.size,i.bytes))=some (some (.agg #[(.string ⟨#[]⟩),(.int .i64 0)]),2,24):=by kernel_rfl
def memS (st:List Pc):List (ByteArray × Int):=(st.map fun p=>(baL p.1,p.2)).reverse
theorem z6k (p:Pc) (st:List Pc):memS (p::st)=memS st++[(baL p.1,p.2)]:=by simp[memS]
theorem z2n (st:List Pc):(memS st).length=st.length:=by simp[memS]
theorem z8f (a:List Pc) (p:Pc) (st:List Pc):(memS (a++p::st))[st.length]?=some (baL p.1,p.2):=by
 simp only[memS,List.map_append,List.map_cons,List.reverse_append,List.reverse_cons,List.append_assoc];rw[List.getElem?_append_right (by simp)]
 simp
theorem at_P {W:World} {A:Option Addr} {xs:List (ByteArray × Int)} (h:Kd.C kP W A xs.length xs) (i:Nat) (x:ByteArray × Int) (hi:xs[i]?=some x) :
 ∃bk o,A=some ⟨bk,o,none⟩∧W.cell? ⟨bk,o+i * 2,none⟩=some (.string x.1)∧W.cell? ⟨bk,o+i * 2+1,none⟩=some (.int .i64 x.2):=by
 have hlt:i<xs.length:=(List.getElem?_eq_some_iff.1 hi).1;obtain⟨bk,o,cs,rfl,hl,hK,hr⟩:=zfc h (⟨#[]⟩,0) (by decide) i hlt;have he:xs.getD i (⟨#[]⟩,0)=x:=by rw[List.getD_eq_getElem?_getD,hi];rfl
 rw[he]at hK;obtain rfl:=kP_open hK;exact⟨bk,o,rfl,hr 0 _ rfl,hr 1 _ rfl⟩
def wt:List Pc→Nat
 |[]=>0
 |p::st=>p.1.length+wt st
theorem zjn (x:StS):(z4t x).length≤41:=by
 unfold z4t
 split
 · rename_i h;have:=z94 h
   split
   · simp[z0f];omega
   · split
     · rw[z0f];omega
     · simp
 · simp
theorem z3i (p:Pc) (b:Int):(z1p p b).length≤p.1.length+2:=by
 unfold z1p
 split <;> simp <;> omega
theorem zab (k:Int):(markL k).length=1:=by
 unfold markL
 repeat' split
 all_goals rfl
theorem zhs {st st':List Pc} {x:StS} (h:push1 st x=some st'):wt st'≤wt st+50∧st'.length≤st.length+1:=by
 unfold push1 at h
 split at h
 · cases h
 · split at h
   · split at h
     · cases h
     · injection h with h
       subst h;have:=zjn x;simp only[wt,List.length_cons];omega
   · split at h
     · cases h
     · cases st with
       |nil=>cases h
       |cons b r =>
        simp only at h
        split at h
        · cases r with
          |nil=>cases h
          |cons a r =>
           simp only at h
           split at h
           · injection h with h
             subst h;have h1:=z3i a 2;have h2:=z3i b 3;have h3:=zab 3;simp only[wt,List.length_cons,List.length_append];omega
           · injection h with h
             subst h;have h2:=z3i b 2;have h3:=zab 4;simp only[wt,List.length_cons,List.length_append];omega
        · injection h with h
          subst h;have h2:=z3i b 3;have h3:=zab x.f0;simp only[wt,List.length_cons,List.length_append];omega
theorem z5r:∀(a b:List StS) (st:List Pc),z2t st (a++b)=(z2t st a).bind fun st=>z2t st b
 |[],b,st=>rfl
 |x::a,b,st=>by
  simp only[List.cons_append,z2t]
  cases push1 st x with
  |none=>rfl
  |some st'=>exact z5r a b st'
theorem z7k:∀(l:List StS) (st st':List Pc),z2t st l=some st'→wt st'≤wt st+50 * l.length
 |[],st,st',h=>by
  injection h with h
  subst h
  simp
 |x::l,st,st',h=>by
  simp only[z2t]at h
  cases hp:push1 st x with
  |none=>rw[hp]at h;cases h
  |some s1 =>
   rw[hp]at h;have h1:=(zhs hp).1;have h2:=z7k l s1 st' h;simp only[List.length_cons];omega
theorem zc4:∀(l:List StS) (st st':List Pc),z2t st l=some st'→st'.length≤st.length+l.length
 |[],st,st',h=>by
  injection h with h
  subst h
  simp
 |x::l,st,st',h=>by
  simp only[z2t]at h
  cases hp:push1 st x with
  |none=>rw[hp]at h;cases h
  |some s1 =>
   rw[hp]at h;have h1:=(zhs hp).2;have h2:=zc4 l s1 st' h;simp only[List.length_cons];omega
theorem zb8 {st:List Pc} {p:Pc} (h:p ∈ st):p.1.length≤wt st:=by
 induction st with
 |nil=>cases h
 |cons q st ih =>
  simp only[wt];rcases List.mem_cons.1 h with rfl|h
  · omega
  · have:=ih h;omega
theorem z64 (l:List StS):(pathL l).length≤5000:=by
 unfold pathL
 split
 · simp
 · rename_i h
   split
   · rename_i p hp;have:=z7k l [] [p] hp;simp only[wt]at this
     split
     · simp
     · omega
   · simp
theorem label_f (x:StS) (h:x.f1.size≤9223372036854775807):z6v.f 42 x.f0 x.f1=some (baL (z4t x)):=by
 unfold z6v.f;rw[zb7];simp only[Option.bind_some];unfold z4t
 cases hp:predN x.f1 with
 |false=>rfl
 |true =>
  simp only[if_true]
  by_cases h2:x.f0=2
  · rw[if_pos h2,if_pos h2,if_pos (by have:=z94 hp;omega)]
    congr 1
  · rw[if_neg h2,if_neg h2]
    by_cases h1:x.f0=1
    · rw[if_pos h1,if_pos h1]
    · rw[if_neg h1,if_neg h1]
theorem z8g (p:Pc) (b:Int) (h:p.1.length≤100000):z1w.f (baL p.1) p.2 b=some (baL (z1p p b)):=by
 unfold z1w.f z1p;have hs:(baL p.1).size=p.1.length:=by simp[ByteArray.size]
 by_cases h1:p.2<b
 · rw[if_pos h1,if_pos h1,if_pos (by omega),if_pos (by omega)]
   congr 1
 · rw[if_neg h1,if_neg h1]
end Go.Proofs.YthebhbomlllpeaaGreatDoor.X
