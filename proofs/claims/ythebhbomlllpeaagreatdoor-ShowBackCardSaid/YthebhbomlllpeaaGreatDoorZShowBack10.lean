/-
  ShowBack: what the proof needs, put together by a program of this session (shake.py), part 10.
-/
import Derived.Test.YthebhbomlllpeaaGreatDoorZShowBack9
set_option linter.unusedVariables false
set_option linter.unusedSimpArgs false
namespace Go.Proofs.YthebhbomlllpeaaGreatDoor.X
open Go.RowKit Go.Proofs.YthebhbomlllpeaaGreatDoorW.PrintWords Go.Proofs.YthebhbomlllpeaaGreatDoorW.PrintLast Go.Proofs.YthebhbomlllpeaaGreatDoorW.PrintMore
set_option maxHeartbeats 4000000 in
set_option maxRecDepth 100000 in
theorem za1 (p:PgS) (A0:Option Addr) (c0:Nat) (A2:Option Addr) (c2:Nat) (w:World) (hLW:LaidW w) (hp:okP p) (hA0:Kd.C k33 w A0 p.f0.length p.f0) (hA2:Kd.C k60 w A2 p.f1.f1.length p.f1.f1) :
 Calls Tryz.prog 20 #[.agg #[.slice A0 p.f0.length c0,.string p.f1.f0,.slice A2 p.f1.f1.length c2]] w fun e w'=>e=.returned (.string (baL (progL p)))∧Below w.heap.size w w':=by
 obtain⟨rs,q⟩:=p;have hlr:rs.length≤1000:=hp.2.1;obtain⟨W,hW⟩:∃W,w.alloc (.cells #[.slice A0 rs.length c0,.string q.f0,.slice A2 q.f1.length c2] 27)=W:=⟨_,rfl⟩
 have hBW:Below w.heap.size w W:=hW ▸ z03 (Below.refl w.heap.size w) _;have hN:=z0p w (.cells #[.slice A0 rs.length c0,.string q.f0,.slice A2 q.f1.length c2] 27);rw[hW]at hN;have d0:W.cell? ⟨w.heap.size,0,none⟩=some (.slice A0 rs.length c0):=(z01 hN 0).trans rfl;have HB:=z00.mk hBW;have HN:=z00.mk hN;have HEA:=z00.mk (zar W A0 c0 rs (hLW.below hBW) (Kd.C_below hA0 hBW) hlr hp.1);have HAT:=z00.mk (fun(V:World) (h:Below w.heap.size w V)=>z5a q A2 c2 V (hLW.below h) (Kd.C_below hA2 h) hp.2.2);have hql:=zft q hp.2.2;have hsl:(eachL (rs.map ruleL) [10]).1.length≤1000 * 4000001:=by
  refine Nat.le_trans (z9h (m:=4000000) (fun y hy=>?_)) ?_
  · obtain⟨z,hz,rfl⟩:=List.mem_map.1 hy;exact ze5 z (hp.1 z hz)
  · rw[List.length_map];exact Nat.mul_le_mul hlr (by simp)
 obtain⟨res,hres⟩:∃r,progL ⟨rs,q⟩=r:=⟨_,rfl⟩
 rw[hres];have HE:=z00.mk (show res=if(eachL (rs.map ruleL) [10]).2=false∨atomL q=[]∨200<rs.length∨20000<(((eachL (rs.map ruleL) [10]).1++(if rs=[]then[]else[10]))++([63,45,32]++(atomL q++[46,10]))).length then[]else((eachL (rs.map ruleL) [10]).1++(if rs=[]then[]else[10]))++([63,45,32]++(atomL q++[46,10])) by rw[←hres];rfl);obtain⟨⟨s,ok⟩,hso⟩:∃x,eachL (rs.map ruleL) [10]=x:=⟨_,rfl⟩
 obtain⟨qt,hqt⟩:∃x,atomL q=x:=⟨_,rfl⟩
 rw[hso]at HE HEA hsl;rw[hqt]at HE hql;simp only[hqt]at HAT;obtain⟨sb,sbE⟩:∃b,baL s=b:=⟨_,rfl⟩
 obtain⟨qb,qbE⟩:∃b,baL qt=b:=⟨_,rfl⟩
 have sbS:sb.size≤1000 * 4000001:=by rw[←sbE,z1x];exact hsl
 have qbS:qb.size≤200000:=by rw[←qbE,z1x];exact hql
 have HSB:=z00.mk sbE;simp only[sbE]at HEA;simp only[qbE]at HAT;have HQB:=z00.mk qbE;clear hA0 hA2 hp hLW hBW hN hres hso hqt sbE qbE hql hsl;go_enter Tryz.func20,Tryz.ntmps20
 go_wp2_with fail
 refine HEA.out.mono ?_;rintro e w1 ⟨rfl,hb1⟩;have HB1:=z00.mk (z09 HB.out HB.out.size hb1);have HN1:=z00.mk (z0b HN.out hb1);clear hb1 d0 hW HEA;have d0:w1.cell? ⟨w.heap.size,0,none⟩=some (.slice A0 rs.length c0):=(z01 HN1.out 0).trans rfl;have d1:w1.cell? ⟨w.heap.size,1,none⟩=some (.string q.f0):=(z01 HN1.out 1).trans rfl;have d2:w1.cell? ⟨w.heap.size,2,none⟩=some (.slice A2 q.f1.length c2):=(z01 HN1.out 2).trans rfl;obtain⟨ln,hln⟩:∃l,s++(if rs=[]then[]else[10])=l:=⟨_,rfl⟩
 rw[hln]at HE
 by_cases hr0:rs=[]
 · have hl0:rs.length=0:=by rw[hr0];rfl
   have g5:decide ((0:Int)<(rs.length:Int))=false:=decide_eq_false (by omega);have g6:decide (0<rs.length)=false:=decide_eq_false (by omega);have g7:decide ((200:Int)<(rs.length:Int))=false:=decide_eq_false (by omega);have g8:decide (200<rs.length)=false:=decide_eq_false (by omega);obtain⟨lb,lbE⟩:∃b,baL ln=b:=⟨_,rfl⟩
   have hsl2:sb=lb:=by rw[←lbE,←hln,if_pos hr0,List.append_nil,HSB.out]
   subst hsl2;have HLB:=z00.mk lbE;have H2:=z00.mk (show ¬200<rs.length by omega);clear hr0 hl0 hln lbE HSB
   go_wp2_with fail
   refine(HAT.out _ HB1.out).mono ?_;rintro e w2 ⟨rfl,hb2⟩;have HB2:=z00.mk (z09 HB1.out HB1.out.size hb2);have HN2:=z00.mk (z0b HN1.out hb2);clear hb2 d0 d1 d2;have d0:w2.cell? ⟨w.heap.size,0,none⟩=some (.slice A0 rs.length c0):=(z01 HN2.out 0).trans rfl;have kq1:(9223372036854775807<sb.size+3)=False:=eq_false (by omega);have kq2:(9223372036854775807<sb.size+3+qb.size)=False:=eq_false (by omega);have kq3:(9223372036854775807<sb.size+3+qb.size+2)=False:=eq_false (by omega)
   cases ok with
   |false =>
    have HE2:=z00.mk (HE.out.trans (if_pos (Or.inl rfl)));go_wp2
    go_ret
    exact⟨by rw[HE2.out];rfl,HB2.out⟩
   |true =>
   by_cases hq0:qt=[]
   · obtain⟨g1,g2,g3,g4⟩:=emp_t HQB.out hq0;have HE2:=z00.mk (HE.out.trans (if_pos (Or.inr (Or.inl hq0))));clear hq0;go_wp2
     go_ret
     exact⟨by rw[HE2.out];rfl,HB2.out⟩
   obtain⟨g1,g2,g3,g4⟩:=emp_f HQB.out hq0;have HQ0:=z00.mk hq0;clear hq0;have HTX:=z00.mk (show((sb++(⟨#[63,45,32]⟩:ByteArray))++qb)++(⟨#[46,10]⟩:ByteArray)=baL (ln++([63,45,32]++(qt++[46,10]))) by rw[←HLB.out,←HQB.out];exact ba_eq (by simp));have HSZ:=z00.mk (show(ln++([63,45,32]++(qt++[46,10]))).length=sb.size+3+qb.size+2 by rw[←z1x,←HTX.out];simp only[ByteArray.size_append];rfl)
   by_cases hbig:20000<(ln++([63,45,32]++(qt++[46,10]))).length
   · have HE2:=z00.mk (HE.out.trans (if_pos (Or.inr (Or.inr (Or.inr hbig)))));rw[HSZ.out]at hbig;have g9:decide (20000<sb.size+3+qb.size+2)=true:=decide_eq_true hbig;have g10:decide ((20000:Int)<(sb.size:Int)+3+(qb.size:Int)+2)=true:=decide_eq_true (by omega);clear hbig;go_wp2
     go_ret
     exact⟨by rw[HE2.out];rfl,HB2.out⟩
   · have HE2:=z00.mk (HE.out.trans (if_neg (by rintro(h|h|h|h);cases h;exact HQ0.out h;exact H2.out h;exact hbig h)));rw[HSZ.out]at hbig;have g9:decide (20000<sb.size+3+qb.size+2)=false:=decide_eq_false hbig;have g10:decide ((20000:Int)<(sb.size:Int)+3+(qb.size:Int)+2)=false:=decide_eq_false (by omega);clear hbig;go_wp2
     go_ret
     exact⟨by rw[HE2.out,←HTX.out];rfl,HB2.out⟩
 · have hl0:rs.length≠0:=fun h=>hr0 (List.length_eq_zero_iff.1 h)
   have g5:decide ((0:Int)<(rs.length:Int))=true:=decide_eq_true (by omega);have g6:decide (0<rs.length)=true:=decide_eq_true (by omega);have kq0:(9223372036854775807<sb.size+1)=False:=eq_false (by omega);obtain⟨lb,lbE⟩:∃b,baL ln=b:=⟨_,rfl⟩
   have hsl2:sb++(⟨#[10]⟩:ByteArray)=lb:=by rw[←lbE,←hln,if_neg hr0,←HSB.out];exact ba_eq (by simp)
   have hlbs:lb.size≤1000 * 4000001+1:=by rw[←hsl2,ByteArray.size_append];show sb.size+1≤_;omega
   have HLB:=z00.mk lbE;clear hr0 hl0 hln lbE HSB
   go_wp2_with fail
   refine(HAT.out _ HB1.out).mono ?_;rintro e w2 ⟨rfl,hb2⟩;have HB2:=z00.mk (z09 HB1.out HB1.out.size hb2);have HN2:=z00.mk (z0b HN1.out hb2);clear hb2 d0 d1 d2 hsl2;have d0:w2.cell? ⟨w.heap.size,0,none⟩=some (.slice A0 rs.length c0):=(z01 HN2.out 0).trans rfl;clear kq0 sbS
   by_cases h200:200<rs.length
   · have H2:=z00.mk h200;have g7:decide ((200:Int)<(rs.length:Int))=true:=decide_eq_true (by omega);have g8:decide (200<rs.length)=true:=decide_eq_true (by omega);clear h200;have kq1:(9223372036854775807<lb.size+3)=False:=eq_false (by omega);have kq2:(9223372036854775807<lb.size+3+qb.size)=False:=eq_false (by omega);have kq3:(9223372036854775807<lb.size+3+qb.size+2)=False:=eq_false (by omega)
     cases ok with
     |false =>
      have HE2:=z00.mk (HE.out.trans (if_pos (Or.inl rfl)));go_wp2
      go_ret
      exact⟨by rw[HE2.out];rfl,HB2.out⟩
     |true =>
     by_cases hq0:qt=[]
     · obtain⟨g1,g2,g3,g4⟩:=emp_t HQB.out hq0;have HE2:=z00.mk (HE.out.trans (if_pos (Or.inr (Or.inl hq0))));clear hq0;go_wp2
       go_ret
       exact⟨by rw[HE2.out];rfl,HB2.out⟩
     obtain⟨g1,g2,g3,g4⟩:=emp_f HQB.out hq0;have HQ0:=z00.mk hq0;clear hq0;have HE2:=z00.mk (HE.out.trans (if_pos (Or.inr (Or.inr (Or.inl H2.out)))));go_wp2
     go_ret
     exact⟨by rw[HE2.out];rfl,HB2.out⟩
   · have H2:=z00.mk h200;have g7:decide ((200:Int)<(rs.length:Int))=false:=decide_eq_false (by omega);have g8:decide (200<rs.length)=false:=decide_eq_false (by omega);clear h200;have kq1:(9223372036854775807<lb.size+3)=False:=eq_false (by omega);have kq2:(9223372036854775807<lb.size+3+qb.size)=False:=eq_false (by omega);have kq3:(9223372036854775807<lb.size+3+qb.size+2)=False:=eq_false (by omega)
     cases ok with
     |false =>
      have HE2:=z00.mk (HE.out.trans (if_pos (Or.inl rfl)));go_wp2
      go_ret
      exact⟨by rw[HE2.out];rfl,HB2.out⟩
     |true =>
     by_cases hq0:qt=[]
     · obtain⟨g1,g2,g3,g4⟩:=emp_t HQB.out hq0;have HE2:=z00.mk (HE.out.trans (if_pos (Or.inr (Or.inl hq0))));clear hq0;go_wp2
       go_ret
       exact⟨by rw[HE2.out];rfl,HB2.out⟩
     obtain⟨g1,g2,g3,g4⟩:=emp_f HQB.out hq0;have HQ0:=z00.mk hq0;clear hq0;have HTX:=z00.mk (show((lb++(⟨#[63,45,32]⟩:ByteArray))++qb)++(⟨#[46,10]⟩:ByteArray)=baL (ln++([63,45,32]++(qt++[46,10]))) by rw[←HLB.out,←HQB.out];exact ba_eq (by simp));have HSZ:=z00.mk (show(ln++([63,45,32]++(qt++[46,10]))).length=lb.size+3+qb.size+2 by rw[←z1x,←HTX.out];simp only[ByteArray.size_append];rfl)
     by_cases hbig:20000<(ln++([63,45,32]++(qt++[46,10]))).length
     · have HE2:=z00.mk (HE.out.trans (if_pos (Or.inr (Or.inr (Or.inr hbig)))));rw[HSZ.out]at hbig;have g9:decide (20000<lb.size+3+qb.size+2)=true:=decide_eq_true hbig;have g10:decide ((20000:Int)<(lb.size:Int)+3+(qb.size:Int)+2)=true:=decide_eq_true (by omega);clear hbig;go_wp2
       go_ret
       exact⟨by rw[HE2.out];rfl,HB2.out⟩
     · have HE2:=z00.mk (HE.out.trans (if_neg (by rintro(h|h|h|h);cases h;exact HQ0.out h;exact H2.out h;exact hbig h)));rw[HSZ.out]at hbig;have g9:decide (20000<lb.size+3+qb.size+2)=false:=decide_eq_false hbig;have g10:decide ((20000:Int)<(lb.size:Int)+3+(qb.size:Int)+2)=false:=decide_eq_false (by omega);clear hbig;go_wp2
       go_ret
       exact⟨by rw[HE2.out,←HTX.out];rfl,HB2.out⟩
set_option maxRecDepth 100000 in
theorem zay (p:PgS) (A0:Option Addr) (c0:Nat) (A2:Option Addr) (c2:Nat) (w:World) (hLW:LaidW w) (hp:okP p) (hA0:Kd.C k33 w A0 p.f0.length p.f0) (hA2:Kd.C k60 w A2 p.f1.f1.length p.f1.f1) :
 Calls Tryz.prog 22 #[.agg #[.slice A0 p.f0.length c0,.string p.f1.f0,.slice A2 p.f1.f1.length c2]] w fun e w'=>e=.returned (.bool (!(progL p).isEmpty))∧Below w.heap.size w w':=by
 have hB:=z03 (Below.refl w.heap.size w) (.cells #[.slice A0 p.f0.length c0,.string p.f1.f0,.slice A2 p.f1.f1.length c2] 27);have HP:=z00.mk (za1 p A0 c0 A2 c2 _ (hLW.below hB) hp (Kd.C_below hA0 hB) (Kd.C_below hA2 hB));have HB:=z00.mk hB;obtain⟨r,hr⟩:∃r,(!(progL p).isEmpty)=r:=⟨_,rfl⟩
 have HR:=z00.mk hr;rw[hr];clear hA0 hA2 hp hLW hB hr;go_enter Tryz.func22,Tryz.ntmps22
 go_wp2_with fail
 refine HP.out.mono ?_;rintro e w1 ⟨rfl,hb⟩;have HB1:=z00.mk (z09 HB.out HB.out.size hb);clear hb;obtain⟨b,hbE⟩:∃b,baL (progL p)=b:=⟨_,rfl⟩
 rw[hbE]
 by_cases he:progL p=[]
 · obtain⟨e1,e2,e3,e4⟩:=emp_t hbE he;have HF:=z00.mk (show r=false by rw[←HR.out,he];rfl);clear hbE he;go_wp2
   go_ret
   exact⟨by rw[HF.out];rfl,HB1.out⟩
 · obtain⟨e1,e2,e3,e4⟩:=emp_f hbE he;have HF:=z00.mk (show r=true by rw[←HR.out,neB he]);clear hbE he;go_wp2
   go_ret
   exact⟨by rw[HF.out];rfl,HB1.out⟩

def okTB (t:TmS):Bool:=decide (-9223372036854775808≤t.f1.f1)&&(decide (t.f1.f1≤9223372036854775807)&&decide (t.f0.size≤9223372036854775807))
theorem zfi {t:TmS}:okTB t=true↔okT t:=by
 unfold okTB okT;simp only[Bool.and_eq_true,decide_eq_true_eq];exact⟨fun h=>⟨⟨h.1,h.2.1⟩,h.2.2⟩,fun h=>⟨h.1.1,h.1.2,h.2⟩⟩
def okAB (l:List TmS):Bool:=l.all okTB&&decide (l.length≤1000)
theorem zcu {p:ByteArray} {l:List TmS}:okAB l=true↔okA ⟨p,l⟩:=by
 unfold okAB okA;simp only[Bool.and_eq_true,decide_eq_true_eq,List.all_eq_true];exact⟨fun h=>⟨fun x hx=>zfi.1 (h.1 x hx),h.2⟩,fun h=>⟨fun x hx=>zfi.2 (h.1 x hx),h.2⟩⟩
def okSB (l:List StS):Bool:=(l.all fun x=>decide (x.f1.size≤9223372036854775807))&&decide (l.length≤140737488355328)
theorem z9t {l:List StS}:okSB l=true↔((∀x ∈ l,x.f1.size≤9223372036854775807)∧l.length≤140737488355328):=by
 unfold okSB;simp only[Bool.and_eq_true,decide_eq_true_eq,List.all_eq_true]
def okLB (x:LtS):Bool:=okAB x.f1.f1&&(okTB x.f3&&(okTB x.f4&&(okTB x.f5&&(okSB x.f6&&decide (x.f2.size≤9223372036854775807)))))
theorem zji {x:LtS}:okLB x=true↔okL x:=by
 unfold okLB okL;simp only[Bool.and_eq_true,decide_eq_true_eq,zfi,z9t,zcu (p:=x.f1.f0)];exact⟨fun h=>⟨h.1,h.2.1,h.2.2.1,h.2.2.2.1,h.2.2.2.2.1.1,h.2.2.2.2.1.2,h.2.2.2.2.2⟩,fun h=>⟨h.1,h.2.1,h.2.2.1,h.2.2.2.1,⟨h.2.2.2.2.1,h.2.2.2.2.2.1⟩,h.2.2.2.2.2.2⟩⟩
def okRB (a:List TmS) (b:List LtS):Bool:=okAB a&&(b.all okLB&&decide (b.length≤1000))
theorem zes {x:RlS}:okRB x.f0.f1 x.f2=true↔okR x:=by
 unfold okRB okR;simp only[Bool.and_eq_true,decide_eq_true_eq,List.all_eq_true,zcu (p:=x.f0.f0)];exact⟨fun h=>⟨h.1,fun y hy=>zji.1 (h.2.1 y hy),h.2.2⟩,fun h=>⟨h.1,fun y hy=>zji.2 (h.2.1 y hy),h.2.2⟩⟩
def okPB (rs:List RlS) (a:List TmS):Bool:=(rs.all fun x=>okRB x.f0.f1 x.f2)&&(decide (rs.length≤1000)&&okAB a)
theorem zk8 {p:PgS}:okPB p.f0 p.f1.f1=true↔okP p:=by
 unfold okPB okP;simp only[Bool.and_eq_true,decide_eq_true_eq,List.all_eq_true,zcu (p:=p.f1.f0)];exact⟨fun h=>⟨fun y hy=>zes.1 (h.1 y hy),h.2.1,h.2.2⟩,fun h=>⟨fun y hy=>zes.2 (h.1 y hy),h.2.1,h.2.2⟩⟩
def z6n.f (l0:List S69):Option ByteArray:=if okSB l0=true then some (baL (pathL l0))else none
theorem z6n.calls (A0:Option Addr) (c0:Nat) (l0:List S69) (r:ByteArray) (w:World) (hLW:LaidW w) (hr0:Kd.C k69 w A0 l0.length l0) (hc0:l0.length≤c0) (h:z6n.f l0=some r) :
 Calls Tryz.prog 25 #[.slice A0 l0.length c0] w fun e w'=>e=.returned (.string r)∧Below w.heap.size w w':=by
 unfold z6n.f at h
 split at h
 · rename_i hk;obtain rfl:=Option.some.inj h;exact z5f l0 A0 c0 w hLW hr0 (z9t.1 hk).1 (z9t.1 hk).2
 · cases h
def z3u.f (l0:List S69):Option Bool:=if okSB l0=true then some (rpB l0)else none
theorem z3u.calls (A0:Option Addr) (c0:Nat) (l0:List S69) (r:Bool) (w:World) (hLW:LaidW w) (hr0:Kd.C k69 w A0 l0.length l0) (hc0:l0.length≤c0) (h:z3u.f l0=some r) :
 Calls Tryz.prog 27 #[.slice A0 l0.length c0] w fun e w'=>e=.returned (.bool r)∧Below w.heap.size w w':=by
 unfold z3u.f at h
 split at h
 · rename_i hk;obtain rfl:=Option.some.inj h;exact z3e l0 A0 c0 w hLW hr0 (z9t.1 hk).1 (z9t.1 hk).2
 · cases h
def z6k.f (a0_0:ByteArray) (l0_1:List S60):Option ByteArray:=if okAB l0_1=true then some (baL (atomL ⟨a0_0,l0_1⟩))else none
theorem z6k.calls (a0_0:ByteArray) (A0_1:Option Addr) (c0_1:Nat) (l0_1:List S60) (r:ByteArray) (w:World) (hLW:LaidW w) (hr0_1:Kd.C k60 w A0_1 l0_1.length l0_1) (hc0_1:l0_1.length≤c0_1) (h:z6k.f a0_0 l0_1=some r) :
 Calls Tryz.prog 23 #[.agg #[.string a0_0,.slice A0_1 l0_1.length c0_1]] w fun e w'=>e=.returned (.string r)∧Below w.heap.size w w':=by
 unfold z6k.f at h
 split at h
 · rename_i hk;obtain rfl:=Option.some.inj h;exact z5a ⟨a0_0,l0_1⟩ A0_1 c0_1 w hLW hr0_1 (zcu.1 hk)
 · cases h
def z6g.f (a0_0:ByteArray) (l0_1:List S60) (a0_2:Int) (l0_3:List S62):Option ByteArray:=if okRB l0_1 l0_3=true then some (baL (ruleL ⟨⟨a0_0,l0_1⟩,a0_2,l0_3⟩))else none
theorem z6g.calls (a0_0:ByteArray) (A0_1:Option Addr) (c0_1:Nat) (l0_1:List S60) (a0_2:Int) (A0_3:Option Addr) (c0_3:Nat) (l0_3:List S62) (r:ByteArray) (w:World) (hLW:LaidW w) (hr0_1:Kd.C k60 w A0_1 l0_1.length l0_1) (hc0_1:l0_1.length≤c0_1) (hr0_3:Kd.C k62 w A0_3 l0_3.length l0_3) (hc0_3:l0_3.length≤c0_3) (h:z6g.f a0_0 l0_1 a0_2 l0_3=some r) :
 Calls Tryz.prog 18 #[.agg #[.string a0_0,.slice A0_1 l0_1.length c0_1,.int .i64 a0_2,.slice A0_3 l0_3.length c0_3]] w fun e w'=>e=.returned (.string r)∧Below w.heap.size w w':=by
 unfold z6g.f at h
 split at h
 · rename_i hk;obtain rfl:=Option.some.inj h;exact zdh ⟨⟨a0_0,l0_1⟩,a0_2,l0_3⟩ A0_1 c0_1 A0_3 c0_3 w hLW (zes (x:=⟨⟨a0_0,l0_1⟩,a0_2,l0_3⟩).1 hk) hr0_1 hr0_3
 · cases h
def z6d.f (l0_0:List S33) (a0_1:ByteArray) (l0_2:List S60):Option ByteArray:=if okPB l0_0 l0_2=true then some (baL (progL ⟨l0_0,⟨a0_1,l0_2⟩⟩))else none
theorem z6d.calls (A0_0:Option Addr) (c0_0:Nat) (l0_0:List S33) (a0_1:ByteArray) (A0_2:Option Addr) (c0_2:Nat) (l0_2:List S60) (r:ByteArray) (w:World) (hLW:LaidW w) (hr0_0:Kd.C k33 w A0_0 l0_0.length l0_0) (hc0_0:l0_0.length≤c0_0) (hr0_2:Kd.C k60 w A0_2 l0_2.length l0_2) (hc0_2:l0_2.length≤c0_2) (h:z6d.f l0_0 a0_1 l0_2=some r) :
 Calls Tryz.prog 20 #[.agg #[.slice A0_0 l0_0.length c0_0,.string a0_1,.slice A0_2 l0_2.length c0_2]] w fun e w'=>e=.returned (.string r)∧Below w.heap.size w w':=by
 unfold z6d.f at h
 split at h
 · rename_i hk;obtain rfl:=Option.some.inj h;exact za1 ⟨l0_0,⟨a0_1,l0_2⟩⟩ A0_0 c0_0 A0_2 c0_2 w hLW (zk8 (p:=⟨l0_0,⟨a0_1,l0_2⟩⟩).1 hk) hr0_0 hr0_2
 · cases h
def z5o.f (l0_0:List S33) (a0_1:ByteArray) (l0_2:List S60):Option Bool:=if okPB l0_0 l0_2=true then some (!(progL ⟨l0_0,⟨a0_1,l0_2⟩⟩).isEmpty)else none
theorem z5o.calls (A0_0:Option Addr) (c0_0:Nat) (l0_0:List S33) (a0_1:ByteArray) (A0_2:Option Addr) (c0_2:Nat) (l0_2:List S60) (r:Bool) (w:World) (hLW:LaidW w) (hr0_0:Kd.C k33 w A0_0 l0_0.length l0_0) (hc0_0:l0_0.length≤c0_0) (hr0_2:Kd.C k60 w A0_2 l0_2.length l0_2) (hc0_2:l0_2.length≤c0_2) (h:z5o.f l0_0 a0_1 l0_2=some r) :
 Calls Tryz.prog 22 #[.agg #[.slice A0_0 l0_0.length c0_0,.string a0_1,.slice A0_2 l0_2.length c0_2]] w fun e w'=>e=.returned (.bool r)∧Below w.heap.size w w':=by
 unfold z5o.f at h
 split at h
 · rename_i hk;obtain rfl:=Option.some.inj h;exact zay ⟨l0_0,⟨a0_1,l0_2⟩⟩ A0_0 c0_0 A0_2 c0_2 w hLW (zk8 (p:=⟨l0_0,⟨a0_1,l0_2⟩⟩).1 hk) hr0_0 hr0_2
 · cases h

def aw9L:List S69:=[⟨1,⟨#[97]⟩⟩,⟨1,⟨#[98]⟩⟩,⟨1,⟨#[99]⟩⟩,⟨4,⟨#[]⟩⟩,⟨3,⟨#[]⟩⟩]
def aw9T:List S60:=[⟨⟨#[88]⟩,⟨0,0,⟨#[]⟩⟩⟩]
theorem aw9_1:z6n.f aw9L=some ⟨#[97,47,40,98,124,99,41]⟩:=by kernel_rfl
theorem aw9_3:z3u.f aw9L=some true:=by kernel_rfl
theorem aw9_5:z5o.f [] ⟨#[113]⟩ aw9T=some true:=by kernel_rfl
theorem aw9_7:z6d.f [] ⟨#[113]⟩ aw9T=some ⟨#[63,45,32,113,40,88,41,46,10]⟩:=by kernel_rfl
theorem aw9_9:z6k.f ⟨#[113]⟩ aw9T=some ⟨#[113,40,88,41]⟩:=by kernel_rfl
theorem aw9_11:z6g.f ⟨#[113]⟩ aw9T 0 []=some ⟨#[113,40,88,41,46]⟩:=by kernel_rfl
theorem zg1 {a:ByteArray} {l:List UInt8} (h:a.data.toList=l):(a.toList==l)=true:=by rw[beq_iff_eq,ByteArray.toList_eq];exact h
set_option maxHeartbeats 8000000 in
set_option maxRecDepth 100000 in
theorem zdt (w:World) (hLW:LaidW w) :
 Calls Tryz.prog 16 #[] w fun e w'=>e=.returned (.bool true)∧Below w.heap.size w w':=by
 have HLW:=z00.mk hLW;clear hLW;have HB:=z00.mk (Below.refl w.heap.size w);obtain⟨y127,hy127⟩:∃y_:List S69,y_=aw9L:=⟨_,rfl⟩
 obtain⟨y130,hy130⟩:∃y_:List S60,y_=aw9T:=⟨_,rfl⟩
 have Ny127:=z00.mk (show y127=([(⟨1,(⟨#[97]⟩:ByteArray)⟩:S69),(⟨1,(⟨#[98]⟩:ByteArray)⟩:S69),(⟨1,(⟨#[99]⟩:ByteArray)⟩:S69),(⟨4,(⟨#[]⟩:ByteArray)⟩:S69),(⟨3,(⟨#[]⟩:ByteArray)⟩:S69)]:List S69)from hy127);have Ny130:=z00.mk (show y130=([(⟨(⟨#[88]⟩:ByteArray),(⟨0,0,(⟨#[]⟩:ByteArray)⟩:S58)⟩:S60)]:List S60)from hy130);obtain⟨t134,h1,c2b0⟩:∃t,z6n.f y127=some t∧(t.toList==([97,47,40,98,124,99,41]:List UInt8))=true:=⟨_,hy127 ▸ aw9_1,zg1 rfl⟩
 obtain⟨t137,h7,c8b0⟩:∃t,z6d.f [] ⟨#[113]⟩ y130=some t∧(t.toList==([63,45,32,113,40,88,41,46,10]:List UInt8))=true:=⟨_,hy130 ▸ aw9_7,zg1 rfl⟩
 obtain⟨t138,h9,c10b0⟩:∃t,z6k.f ⟨#[113]⟩ y130=some t∧(t.toList==([113,40,88,41]:List UInt8))=true:=⟨_,hy130 ▸ aw9_9,zg1 rfl⟩
 obtain⟨t139,h11,c12b0⟩:∃t,z6g.f ⟨#[113]⟩ y130 0 []=some t∧(t.toList==([113,40,88,41,46]:List UInt8))=true:=⟨_,hy130 ▸ aw9_11,zg1 rfl⟩
 have A1:=z00.mk h1;have A3:=z00.mk (show z3u.f y127=some true from hy127 ▸ aw9_3);have A5:=z00.mk (show z5o.f [] ⟨#[113]⟩ y130=some true from hy130 ▸ aw9_5);have A7:=z00.mk h7;have A9:=z00.mk h9;have A11:=z00.mk h11;clear h1 h7 h9 h11 hy127 hy130;go_enter Tryz.func16,Tryz.ntmps16
 go_wp2_with (first|((with_reducible refine z1p (N:=8) rfl ?_);refine Kd.R_lit k69 _ 69 ?hg (N:=8) ?hd (xs:=([(⟨1,(⟨#[97]⟩:ByteArray)⟩:S69),(⟨1,(⟨#[98]⟩:ByteArray)⟩:S69),(⟨1,(⟨#[99]⟩:ByteArray)⟩:S69),(⟨4,(⟨#[]⟩:ByteArray)⟩:S69),(⟨3,(⟨#[]⟩:ByteArray)⟩:S69)]:List (S69))) (inner:=[.int .i64 1,.string (⟨#[97]⟩:ByteArray),.int .i64 1,.string (⟨#[98]⟩:ByteArray),.int .i64 1,.string (⟨#[99]⟩:ByteArray),.int .i64 4,.string (⟨#[]⟩:ByteArray),.int .i64 3,.string (⟨#[]⟩:ByteArray)]) (ok:=fun _=>True) (okp:=fun _=>True) ?hr ?hp (fun _ hk=>hk) trivial (Below.refl _ _) (Nat.le_refl _) (by simp) ?_;(case hd=>rfl);(case hg=>rfl);(case hr=>first|(go_simp;done)|(go_simp;rfl));(case hp=>exact(Reps.c2 (show Kd.M k69 _ _ _ (⟨1,(⟨#[97]⟩:ByteArray)⟩:S69) [.int .i64 1,.string (⟨#[97]⟩:ByteArray)]from(z3q _ _ _ (⟨1,(⟨#[97]⟩:ByteArray)⟩:S69))) (Reps.c2 (show Kd.M k69 _ _ _ (⟨1,(⟨#[98]⟩:ByteArray)⟩:S69) [.int .i64 1,.string (⟨#[98]⟩:ByteArray)]from(z3q _ _ _ (⟨1,(⟨#[98]⟩:ByteArray)⟩:S69))) (Reps.c2 (show Kd.M k69 _ _ _ (⟨1,(⟨#[99]⟩:ByteArray)⟩:S69) [.int .i64 1,.string (⟨#[99]⟩:ByteArray)]from(z3q _ _ _ (⟨1,(⟨#[99]⟩:ByteArray)⟩:S69))) (Reps.c2 (show Kd.M k69 _ _ _ (⟨4,(⟨#[]⟩:ByteArray)⟩:S69) [.int .i64 4,.string (⟨#[]⟩:ByteArray)]from(z3q _ _ _ (⟨4,(⟨#[]⟩:ByteArray)⟩:S69))) (Reps.c2 (show Kd.M k69 _ _ _ (⟨3,(⟨#[]⟩:ByteArray)⟩:S69) [.int .i64 3,.string (⟨#[]⟩:ByteArray)]from(z3q _ _ _ (⟨3,(⟨#[]⟩:ByteArray)⟩:S69))) (Reps.none _ _)))))));intro v128 w12 ho13 hb hg_ hnew_;clear hg_ hnew_;(first|rw[←Ny127.out]at ho13|(simp only[Int.reduceToNat]at ho13;rw[←Ny127.out]at ho13));have n0_:=z00.mk (Kd.R_lower ho13 (z0h zA00));have n1_:=z00.mk (z0i zA00 hb);clear HB;have HO129:=n0_;have HB:=n1_;clear n0_ n1_;clear hb ho13)|((with_reducible refine z1p (N:=10) rfl ?_);refine Kd.R_lit k60 _ 60 ?hg (N:=10) ?hd (xs:=([(⟨(⟨#[88]⟩:ByteArray),(⟨0,0,(⟨#[]⟩:ByteArray)⟩:S58)⟩:S60)]:List (S60))) (inner:=[.string (⟨#[88]⟩:ByteArray),.int .i64 0,.int .i64 0,.string (⟨#[]⟩:ByteArray)]) (ok:=fun _=>True) (okp:=fun _=>True) ?hr ?hp (fun _ hk=>hk) trivial (Below.refl _ _) (Nat.le_refl _) (by simp) ?_;(case hd=>rfl);(case hg=>rfl);(case hr=>first|(go_simp;done)|(go_simp;rfl));(case hp=>exact(Reps.c4 (show Kd.M k60 _ _ _ (⟨(⟨#[88]⟩:ByteArray),(⟨0,0,(⟨#[]⟩:ByteArray)⟩:S58)⟩:S60) [.string (⟨#[88]⟩:ByteArray),.int .i64 0,.int .i64 0,.string (⟨#[]⟩:ByteArray)]from(z8y _ _ _ (⟨(⟨#[88]⟩:ByteArray),(⟨0,0,(⟨#[]⟩:ByteArray)⟩:S58)⟩:S60))) (Reps.none _ _)));intro v131 w14 ho15 hb hg_ hnew_;clear hg_ hnew_;(first|rw[←Ny130.out]at ho15|(simp only[Int.reduceToNat]at ho15;rw[←Ny130.out]at ho15));have n0_:=z00.mk (Kd.R_below zA0d hb);have n1_:=z00.mk (Kd.R_lower ho15 (z0h zA00));have n2_:=z00.mk (z0i zA00 hb);clear HO129;clear HB;have HO129:=n0_;have HO132:=n1_;have HB:=n2_;clear n0_ n1_ n2_;clear hb ho15;obtain⟨Ao16,co16,eo16⟩:=Kd.R_slice HO132.out;subst eo16)|((with_reducible refine z1p (N:=2) rfl ?_);refine z1z ?hg (N:=2) ?hd (cs:=#[.slice none 0 0,.string (⟨#[]⟩:ByteArray),.slice none 0 0]) (t:=27) ?hr ?_;(case hd=>rfl);(case hg=>rfl);(case hr=>first|(go_simp;done)|(go_simp;rfl));intro gb133 hg w17 hbox hb;have n0_:=z00.mk (Kd.R_below zA0d hb);have n1_:=z00.mk (Kd.R_below zA0e hb);have n2_:=z00.mk (z0i zA00 hb);have n3_:=z00.mk (hbox);have n4_:=z00.mk ((by rw[hg];exact(z0h zA00):w.heap.size≤gb133));have n5_:=z00.mk ((by rw[hg];exact(z0h zA00):w.heap.size≤gb133));clear HO129;clear HO132;clear HB;have HO129:=n0_;have HO132:=n1_;have HB:=n2_;have BK133:=n3_;have GW133:=n4_;have GE133:=n5_;clear n0_ n1_ n2_ n3_ n4_ n5_;clear hb hbox hg;have hcz18_0:w17.cell? ⟨gb133,0,none⟩=some (.slice none 0 0):=(z01 BK133.out 0).trans rfl;have hcz18_1:w17.cell? ⟨gb133,1,none⟩=some (.string (⟨#[]⟩:ByteArray)):=(z01 BK133.out 1).trans rfl;have hcz18_2:w17.cell? ⟨gb133,2,none⟩=some (.slice none 0 0):=(z01 BK133.out 2).trans rfl;have hfz18_0:=z02 BK133.out 0;have hfz18_1:=z02 BK133.out 1;have hfz18_2:=z02 BK133.out 2;obtain⟨Ao19,co19,eo19⟩:=Kd.R_slice HO129.out;subst eo19)|((with_reducible refine z1s (f:=25) rfl ?_);refine z4q (some 14) rfl rfl Tryz.func25 (by kernel_rfl) rfl #[.slice Ao19 y127.length co19] rfl zA01 ?_;(with_reducible refine(z6n.calls _ _ y127 t134 _ ?side3 ?side1 ?side2 A1.out).mono ?_);(case side1=>refine(Kd.R_reads' (e:=69) (base:=w.heap.size) (ok:=fun k_=>True) (n:=y127.length) (c:=co19) ?_).2.2;exact(by(with_reducible repeat(first|apply Kd.R_alloc|apply Kd.R_drewN|apply Kd.R_drew));exact(Kd.R_mono (Kd.R_far (p:=⟨gb133,2,none⟩) (Kd.R_far (p:=⟨gb133,1,none⟩) (Kd.R_far (p:=⟨gb133,0,none⟩) (Kd.R_types HO129.out BK133.out (by decide)) (fun _ hk=>hk.2) (.slice none 0 0)) (fun _ hk=>hk.2) (.string (⟨#[113]⟩:ByteArray))) (fun _ hk=>hk.2) (.slice Ao16 y130.length co16)) (fun _ h_=>h_.1))));(case side2=>exact(Kd.R_reads' HO129.out).2.1);(case side3=>(first|(refine LaidW.below HLW.out ?_;(repeat(first|(with_reducible first|exact HB.out|apply z03|apply z04|apply z05|refine z06 ?_ GE133.out)|exact HB.out));done)|(repeat(first|exact HLW.out|apply LaidW.drewN|apply LaidW.drew|apply LaidW.alloc))));rintro e w20 ⟨rfl,hb⟩;refine⟨_,rfl,?_⟩;have n0_:=z00.mk (Kd.R_below (by(with_reducible repeat(first|apply Kd.R_alloc|apply Kd.R_drewN|apply Kd.R_drew));exact(Kd.R_mono (Kd.R_far (p:=⟨gb133,2,none⟩) (Kd.R_far (p:=⟨gb133,1,none⟩) (Kd.R_far (p:=⟨gb133,0,none⟩) (Kd.R_types HO129.out BK133.out (by decide)) (fun _ hk=>hk.2) (.slice none 0 0)) (fun _ hk=>hk.2) (.string (⟨#[113]⟩:ByteArray))) (fun _ hk=>hk.2) (.slice Ao16 y130.length co16)) (fun _ h_=>h_.1))) hb);have n1_:=z00.mk (Kd.R_below (by(with_reducible repeat(first|apply Kd.R_alloc|apply Kd.R_drewN|apply Kd.R_drew));exact(Kd.R_mono (Kd.R_far (p:=⟨gb133,2,none⟩) (Kd.R_far (p:=⟨gb133,1,none⟩) (Kd.R_far (p:=⟨gb133,0,none⟩) (Kd.R_types HO132.out BK133.out (by decide)) (fun _ hk=>hk.2) (.slice none 0 0)) (fun _ hk=>hk.2) (.string (⟨#[113]⟩:ByteArray))) (fun _ hk=>hk.2) (.slice Ao16 y130.length co16)) (fun _ h_=>h_.1))) hb);have n2_:=z00.mk (z0b (g:=gb133) (o:=.cells #[.slice none 0 0,.string (⟨#[113]⟩:ByteArray),.slice Ao16 y130.length co16] 27 (0,0)) (by(with_reducible repeat(first|refine z0f ?_ _|refine z0g ?_|refine z0c ?_ _));refine z0w (cs:=#[.slice none 0 0,.string (⟨#[113]⟩:ByteArray),.slice none 0 0]) ?_ 2 _ rfl;(with_reducible repeat(first|refine z0f ?_ _|refine z0g ?_|refine z0c ?_ _));refine z0w (cs:=#[.slice none 0 0,.string (⟨#[]⟩:ByteArray),.slice none 0 0]) ?_ 1 _ rfl;(with_reducible repeat(first|refine z0f ?_ _|refine z0g ?_|refine z0c ?_ _));refine z0w (cs:=#[.slice none 0 0,.string (⟨#[]⟩:ByteArray),.slice none 0 0]) ?_ 0 _ rfl;(with_reducible repeat(first|refine z0f ?_ _|refine z0g ?_|refine z0c ?_ _));exact BK133.out) hb);have n3_:=z00.mk (z0i zA0b hb);clear HO129;clear HO132;clear BK133;clear HB;have HO129:=n0_;have HO132:=n1_;have BK133:=n2_;have HB:=n3_;clear n0_ n1_ n2_ n3_;(try clear hb);(try clear hb2);(try clear hk);(try clear hi))|(go_at_call 27;(with_reducible refine(z3u.calls _ _ y127 true _ ?side3 ?side1 ?side2 A3.out).mono ?_);(case side1=>repeat(first|exact(Kd.R_reads' HO129.out).2.2|(with_reducible refine Kd.C_alloc ?_ _)|(with_reducible refine Kd.C_drewN ?_ _)|(with_reducible refine Kd.C_drew ?_)));(case side2=>exact(Kd.R_reads' HO129.out).2.1);(case side3=>(first|(refine LaidW.below HLW.out ?_;(repeat(first|(with_reducible first|exact HB.out|apply z03|apply z04|apply z05|refine z06 ?_ GE133.out)|exact HB.out));done)|(repeat(first|exact HLW.out|apply LaidW.drewN|apply LaidW.drew|apply LaidW.alloc))));rintro e w21 ⟨rfl,hb⟩;have n0_:=z00.mk (Kd.R_below zA0d hb);have n1_:=z00.mk (Kd.R_below zA0e hb);have n2_:=z00.mk (z0b (g:=gb133) (o:=.cells #[.slice none 0 0,.string (⟨#[113]⟩:ByteArray),.slice Ao16 y130.length co16] 27 (0,0)) zA0h hb);have n3_:=z00.mk (z0i zA0b hb);clear HO129;clear HO132;clear BK133;clear HB;have HO129:=n0_;have HO132:=n1_;have BK133:=n2_;have HB:=n3_;clear n0_ n1_ n2_ n3_;(try clear hb);(try clear hb2);(try clear hk);(try clear hi);have hcz22_0:w21.cell? ⟨gb133,0,none⟩=some (.slice none 0 0):=(z01 BK133.out 0).trans rfl;have hcz22_1:w21.cell? ⟨gb133,1,none⟩=some (.string (⟨#[113]⟩:ByteArray)):=(z01 BK133.out 1).trans rfl;have hcz22_2:w21.cell? ⟨gb133,2,none⟩=some (.slice Ao16 y130.length co16):=(z01 BK133.out 2).trans rfl;have hfz22_0:=z02 BK133.out 0;have hfz22_1:=z02 BK133.out 1;have hfz22_2:=z02 BK133.out 2)|(go_at_call 22;(refine(z5o.calls _ _ ([]:List (S33)) (⟨#[113]⟩:ByteArray) _ _ y130 true _ ?side5 ?side1 ?side2 ?side3 ?side4 A5.out).mono ?_);(case side1=>exact Kd.C_nil _ _);(case side2=>exact Nat.le_refl _);(case side3=>repeat(first|exact(Kd.R_reads' HO132.out).2.2|(with_reducible refine Kd.C_alloc ?_ _)|(with_reducible refine Kd.C_drewN ?_ _)|(with_reducible refine Kd.C_drew ?_)));(case side4=>exact(Kd.R_reads' HO132.out).2.1);(case side5=>(first|(refine LaidW.below HLW.out ?_;(repeat(first|(with_reducible first|exact HB.out|apply z03|apply z04|apply z05|refine z06 ?_ GE133.out)|exact HB.out));done)|(repeat(first|exact HLW.out|apply LaidW.drewN|apply LaidW.drew|apply LaidW.alloc))));rintro e w23 ⟨rfl,hb⟩;have n0_:=z00.mk (Kd.R_below zA0d hb);have n1_:=z00.mk (Kd.R_below zA0e hb);have n2_:=z00.mk (z0b (g:=gb133) (o:=.cells #[.slice none 0 0,.string (⟨#[113]⟩:ByteArray),.slice Ao16 y130.length co16] 27 (0,0)) zA0h hb);have n3_:=z00.mk (z0i zA0b hb);clear HO129;clear HO132;clear BK133;clear HB;have HO129:=n0_;have HO132:=n1_;have BK133:=n2_;have HB:=n3_;clear n0_ n1_ n2_ n3_;(try clear hb);(try clear hb2);(try clear hk);(try clear hi);have hcz24_0:w23.cell? ⟨gb133,0,none⟩=some (.slice none 0 0):=(z01 BK133.out 0).trans rfl;have hcz24_1:w23.cell? ⟨gb133,1,none⟩=some (.string (⟨#[113]⟩:ByteArray)):=(z01 BK133.out 1).trans rfl;have hcz24_2:w23.cell? ⟨gb133,2,none⟩=some (.slice Ao16 y130.length co16):=(z01 BK133.out 2).trans rfl;have hfz24_0:=z02 BK133.out 0;have hfz24_1:=z02 BK133.out 1;have hfz24_2:=z02 BK133.out 2)|(go_at_call 20;(refine(z6d.calls _ _ ([]:List (S33)) (⟨#[113]⟩:ByteArray) _ _ y130 t137 _ ?side5 ?side1 ?side2 ?side3 ?side4 A7.out).mono ?_);(case side1=>exact Kd.C_nil _ _);(case side2=>exact Nat.le_refl _);(case side3=>repeat(first|exact(Kd.R_reads' HO132.out).2.2|(with_reducible refine Kd.C_alloc ?_ _)|(with_reducible refine Kd.C_drewN ?_ _)|(with_reducible refine Kd.C_drew ?_)));(case side4=>exact(Kd.R_reads' HO132.out).2.1);(case side5=>(first|(refine LaidW.below HLW.out ?_;(repeat(first|(with_reducible first|exact HB.out|apply z03|apply z04|apply z05|refine z06 ?_ GE133.out)|exact HB.out));done)|(repeat(first|exact HLW.out|apply LaidW.drewN|apply LaidW.drew|apply LaidW.alloc))));rintro e w25 ⟨rfl,hb⟩;have n0_:=z00.mk (Kd.R_below zA0d hb);have n1_:=z00.mk (Kd.R_below zA0e hb);have n2_:=z00.mk (z0b (g:=gb133) (o:=.cells #[.slice none 0 0,.string (⟨#[113]⟩:ByteArray),.slice Ao16 y130.length co16] 27 (0,0)) zA0h hb);have n3_:=z00.mk (z0i zA0b hb);clear HO129;clear HO132;clear BK133;clear HB;have HO129:=n0_;have HO132:=n1_;have BK133:=n2_;have HB:=n3_;clear n0_ n1_ n2_ n3_;(try clear hb);(try clear hb2);(try clear hk);(try clear hi);have hcz26_0:w25.cell? ⟨gb133,0,none⟩=some (.slice none 0 0):=(z01 BK133.out 0).trans rfl;have hcz26_1:w25.cell? ⟨gb133,1,none⟩=some (.string (⟨#[113]⟩:ByteArray)):=(z01 BK133.out 1).trans rfl;have hcz26_2:w25.cell? ⟨gb133,2,none⟩=some (.slice Ao16 y130.length co16):=(z01 BK133.out 2).trans rfl;have hfz26_0:=z02 BK133.out 0;have hfz26_1:=z02 BK133.out 1;have hfz26_2:=z02 BK133.out 2)|(go_at_call 23;(with_reducible refine(z6k.calls (⟨#[113]⟩:ByteArray) _ _ y130 t138 _ ?side3 ?side1 ?side2 A9.out).mono ?_);(case side1=>repeat(first|exact(Kd.R_reads' HO132.out).2.2|(with_reducible refine Kd.C_alloc ?_ _)|(with_reducible refine Kd.C_drewN ?_ _)|(with_reducible refine Kd.C_drew ?_)));(case side2=>exact(Kd.R_reads' HO132.out).2.1);(case side3=>(first|(refine LaidW.below HLW.out ?_;(repeat(first|(with_reducible first|exact HB.out|apply z03|apply z04|apply z05|refine z06 ?_ GE133.out)|exact HB.out));done)|(repeat(first|exact HLW.out|apply LaidW.drewN|apply LaidW.drew|apply LaidW.alloc))));rintro e w27 ⟨rfl,hb⟩;have n0_:=z00.mk (Kd.R_below zA0d hb);have n1_:=z00.mk (Kd.R_below zA0e hb);have n2_:=z00.mk (z0b (g:=gb133) (o:=.cells #[.slice none 0 0,.string (⟨#[113]⟩:ByteArray),.slice Ao16 y130.length co16] 27 (0,0)) zA0h hb);have n3_:=z00.mk (z0i zA0b hb);clear HO129;clear HO132;clear BK133;clear HB;have HO129:=n0_;have HO132:=n1_;have BK133:=n2_;have HB:=n3_;clear n0_ n1_ n2_ n3_;(try clear hb);(try clear hb2);(try clear hk);(try clear hi);have hcz28_0:w27.cell? ⟨gb133,0,none⟩=some (.slice none 0 0):=(z01 BK133.out 0).trans rfl;have hcz28_1:w27.cell? ⟨gb133,1,none⟩=some (.string (⟨#[113]⟩:ByteArray)):=(z01 BK133.out 1).trans rfl;have hcz28_2:w27.cell? ⟨gb133,2,none⟩=some (.slice Ao16 y130.length co16):=(z01 BK133.out 2).trans rfl;have hfz28_0:=z02 BK133.out 0;have hfz28_1:=z02 BK133.out 1;have hfz28_2:=z02 BK133.out 2)|(go_at_call 18;(refine(z6g.calls (⟨#[113]⟩:ByteArray) _ _ y130 0 _ _ ([]:List (S62)) t139 _ ?side5 ?side1 ?side2 ?side3 ?side4 A11.out).mono ?_);(case side1=>repeat(first|exact(Kd.R_reads' HO132.out).2.2|(with_reducible refine Kd.C_alloc ?_ _)|(with_reducible refine Kd.C_drewN ?_ _)|(with_reducible refine Kd.C_drew ?_)));(case side2=>exact(Kd.R_reads' HO132.out).2.1);(case side3=>exact Kd.C_nil _ _);(case side4=>exact Nat.le_refl _);(case side5=>(first|(refine LaidW.below HLW.out ?_;(repeat(first|(with_reducible first|exact HB.out|apply z03|apply z04|apply z05|refine z06 ?_ GE133.out)|exact HB.out));done)|(repeat(first|exact HLW.out|apply LaidW.drewN|apply LaidW.drew|apply LaidW.alloc))));rintro e w29 ⟨rfl,hb⟩;have n0_:=z00.mk (Kd.R_below zA0d hb);have n1_:=z00.mk (Kd.R_below zA0e hb);have n2_:=z00.mk (z0b (g:=gb133) (o:=.cells #[.slice none 0 0,.string (⟨#[113]⟩:ByteArray),.slice Ao16 y130.length co16] 27 (0,0)) zA0h hb);have n3_:=z00.mk (z0i zA0b hb);clear HO129;clear HO132;clear BK133;clear HB;have HO129:=n0_;have HO132:=n1_;have BK133:=n2_;have HB:=n3_;clear n0_ n1_ n2_ n3_;(try clear hb);(try clear hb2);(try clear hk);(try clear hi)))
 go_ret
 exact⟨by first|rfl|(simp[z0v,z0u] <;> rfl)|(simp[*,z0v,z0u] <;> rfl),by repeat(first|(with_reducible first|exact HB.out|apply z03|apply z04|apply z05|refine z06 ?_ GE133.out)|exact HB.out)⟩

theorem zh9 {p:PgS} (h:progL p≠[]) (hr:rngP p):z4z.f (baL (progL p))=some (p.f0,p.f1.f0,p.f1.f1,0,0):=by
 obtain⟨h1,h2,_⟩:=zkc h hr;have hs:(baL (progL p)).size≤20000:=by show(progL p).toArray.size≤_;rw[List.size_toArray];exact h2
 have:=zhk (s:=baL (progL p)) hs h1;unfold z4z.f;rw[if_pos (by omega),this]

theorem okR_few {x:RlS} (h:inR x) (hf:fewR x):okR x :=
 ⟨⟨fun t ht=>h.1 t ht,by have:=hf.2.1;omega⟩,fun l hl=>⟨⟨fun t ht=>(h.2 l hl).1 t ht,by have:=(hf.2.2 l hl).2;omega⟩,(h.2 l hl).2.1,(h.2 l hl).2.2.1,(h.2 l hl).2.2.2.1,(h.2 l hl).2.2.2.2.1,by have:=(hf.2.2 l hl).1;omega,(h.2 l hl).2.2.2.2.2⟩,by have:=hf.1;omega⟩
theorem same_few {x:RlS} (hf:fewR x):zip x:=⟨by have:=hf.2.1;omega,by have:=hf.1;omega,fun y hy=>⟨by have:=(hf.2.2 y hy).2;omega,by have:=(hf.2.2 y hy).1;omega⟩⟩
structure InP (rs:List RlS) (q:AtS):Prop where
 r:∀x ∈ rs,inR x
 q:∀t ∈ q.f1,inT t
theorem InP.okP {rs:List RlS} {q:AtS} (h:InP rs q) (hf:rs.length≤12∧q.f1.length≤10∧∀x ∈ rs,fewR x):okP ⟨rs,q⟩ :=
 ⟨fun x hx=>okR_few (h.r x hx) (hf.2.2 x hx),by show rs.length≤1000;omega,⟨fun t ht=>h.q t ht,by show q.f1.length≤1000;omega⟩⟩
theorem InP.rng {rs:List RlS} {q:AtS} (h:InP rs q):rngP ⟨rs,q⟩:=⟨fun t ht=>(h.q t ht).1,fun x hx=>inR_rng (h.r x hx)⟩
set_option maxHeartbeats 8000000 in
set_option maxRecDepth 100000 in
theorem zal (rs:List RlS) (pn:ByteArray) (pa:List TmS) (hin:InP rs ⟨pn,pa⟩) (A B:Option Addr) (c d:Nat) (hd1:pa.length≤d) (w:World) (hLW:LaidW w)
 (hA:Kd.C k33 w A rs.length rs) (hB:Kd.C k60 w B pa.length pa) (hc:rs.length≤c) :
 Calls Tryz.prog 13 #[.agg #[.slice A rs.length c,.string pn,.slice B pa.length d]] w fun e w'=>e=.returned (.bool true)∧Below w.heap.size w w':=by
 have HA:=z00.mk (fun V (h:LaidW V)=>zdt V h);obtain⟨n1,en1⟩:∃n,w.heap.size=n:=⟨_,rfl⟩
 obtain⟨W,hW⟩:∃W,w.alloc (.cells #[.slice A rs.length c,.string pn,.slice B pa.length d] 27)=W:=⟨_,rfl⟩
 have hBW:Below w.heap.size w W:=hW ▸ z03 (Below.refl _ _) _;have hN:=z0p w (.cells #[.slice A rs.length c,.string pn,.slice B pa.length d] 27);rw[en1,hW]at hN;have HN:=z00.mk hN;have HBW:=z00.mk hBW;have HLW:=z00.mk (hLW.below hBW);have HC0:=z00.mk (Kd.C_below hA hBW);have HC1:=z00.mk (Kd.C_below hB hBW);obtain⟨b,hfew,hfb⟩:=few_f rs pn pa;have HF:=z00.mk (fun(V:World) (h:Below W.heap.size W V)=>z08.calls 1000 A c rs pn B d pa 12 14 b V (Kd.C_below HC0.out h) hc (Kd.C_below HC1.out h) hd1 hfew);have hT:=fun(h:b=true) (V:World) (hl:LaidW V) (h1:Below W.heap.size W V)=>za1 ⟨rs,⟨pn,pa⟩⟩ A c B d V hl (hin.okP (hfb h)) (Kd.C_below HC0.out h1) (Kd.C_below HC1.out h1)
 have hR:=fun(h:b=true) (V:World) (hl:LaidW V) (h1:Below W.heap.size W V)=>zay ⟨rs,⟨pn,pa⟩⟩ A c B d V hl (hin.okP (hfb h)) (Kd.C_below HC0.out h1) (Kd.C_below HC1.out h1)
 have HNE:=z00.mk (fun(h:progL ⟨rs,⟨pn,pa⟩⟩≠[])=>zh9 h hin.rng);have HSM:=z00.mk (fun(h:b=true) (V:World) (A B A1 B1:Option Addr) (c d c1 d1:Nat) (hc1:pa.length≤c1) (hd1:pa.length≤d1) (hA:Kd.C k33 V A rs.length rs) (hB:Kd.C k33 V B rs.length rs) (hA1:Kd.C k60 V A1 pa.length pa) (hB1:Kd.C k60 V B1 pa.length pa) =>
  zfp rs pn pa (by have:=(hfb h).1;omega) (fun x hx=>same_few ((hfb h).2.2 x hx)) (by have:=(hfb h).2.1;omega) A B A1 B1 c d c1 d1 hc1 hd1 V hA hB hA1 hB1)
 obtain⟨L,hL⟩:∃L,progL ⟨rs,⟨pn,pa⟩⟩=L:=⟨_,rfl⟩
 rw[hL]at hT hR HNE;have HT:=z00.mk hT;have HR:=z00.mk hR;have d0:W.cell? ⟨n1,0,none⟩=some (.slice A rs.length c):=(z01 hN 0).trans rfl;have d1:W.cell? ⟨n1,1,none⟩=some (.string pn):=(z01 hN 1).trans rfl;have d2:W.cell? ⟨n1,2,none⟩=some (.slice B pa.length d):=(z01 hN 2).trans rfl;have HD:=z00.mk (And.intro d0 (And.intro d1 d2));have HL1:=z00.mk hd1;clear d0 d1 d2 hN hT hR hLW hA hB hBW hfb hfew hL hin hc hd1;go_enter Tryz.func13,Tryz.ntmps13
 go_wp2_with fail
 refine(HA.out _ HLW.out).mono ?_;rintro e w1 ⟨rfl,hb⟩;have HB1:=z00.mk hb;have d0:=z07 hb HD.out.1;have d1:=z07 hb HD.out.2.1;have d2:=z07 hb HD.out.2.2;clear hb
 go_wp2_with fail
 refine(HF.out _ HB1.out).mono ?_;rintro e w2 ⟨rfl,hb⟩;have HB2:=z00.mk (z09 HB1.out HB1.out.size hb);clear hb d0 d1 d2
 cases b with
 |false =>
  go_wp2_with fail
  refine(HA.out _ (HLW.out.below HB2.out)).mono ?_;rintro e w3 ⟨rfl,hb⟩;have HB3:=z00.mk (z09 HBW.out HBW.out.size (z09 HB2.out HB2.out.size hb));clear hb;go_wp2
  go_ret
  exact⟨rfl,HB3.out⟩
 |true =>
  have d0:=z07 HB2.out HD.out.1;have d1:=z07 HB2.out HD.out.2.1;have d2:=z07 HB2.out HD.out.2.2
  go_wp2_with fail
  refine(HT.out (by trivial) _ (HLW.out.below HB2.out) HB2.out).mono ?_;rintro e w3 ⟨rfl,hb⟩;have HB3:=z00.mk (z09 HB2.out HB2.out.size hb);clear hb d0 d1 d2;have d0:=z07 HB3.out HD.out.1;have d1:=z07 HB3.out HD.out.2.1;have d2:=z07 HB3.out HD.out.2.2
  go_wp2_with fail
  refine(HR.out (by trivial) _ (HLW.out.below HB3.out) HB3.out).mono ?_;rintro e w4 ⟨rfl,hb⟩;have HB4:=z00.mk (z09 HB3.out HB3.out.size hb);clear hb d0 d1 d2
  by_cases hL0:L=[]
  · subst hL0;have z0:((baL ([]:List UInt8)).toList==([]:List UInt8))=true:=by rw[z19];rfl
    have HBo:=z00.mk (z09 HBW.out HBW.out.size HB4.out);have z1:(!([]:List UInt8).isEmpty)=false:=rfl;rw[z1];clear HNE z1;go_wp2
    go_ret
    exact⟨by first|rfl|simp[*],HBo.out⟩
  · have z1:(!L.isEmpty)=true:=by cases L with|nil=>exact absurd rfl hL0|cons c l=>rfl
    rw[z1];have h2:=HNE.out hL0;obtain⟨t,ht⟩:∃t,baL L=t:=⟨_,rfl⟩
    rw[ht]at h2 ⊢;have HP2:=z00.mk (fun V (h:LaidW V)=>z4z.calls t rs pn pa 0 0 V h h2);clear h2 ht z1 hL0 HNE HT HR
    go_wp2_with fail
    refine(HP2.out _ (HLW.out.below HB4.out)).mono ?_;rintro e w5 ⟨v2,v3,rfl,g2,g3,hb⟩;obtain⟨A2,c2,rfl⟩:=Kd.R_slice g2;obtain⟨A3,c3,rfl⟩:=Kd.R_slice g3;obtain⟨n2,en2⟩:∃n,w5.heap.size=n:=⟨_,rfl⟩
    have hb3:=z03 hb (.cells #[.slice A2 rs.length c2,.string pn,.slice A3 pa.length c3] 27);have hN2:=z0p w5 (.cells #[.slice A2 rs.length c2,.string pn,.slice A3 pa.length c3] 27);rw[en2]at hN2;have HN2:=z00.mk hN2;have HB5:=z00.mk (z09 HB4.out HB4.out.size hb3);have HQ0:=z00.mk (Kd.C_below (Kd.R_reads' g2).2.2 (z03 (Below.refl w5.heap.size w5) (.cells #[.slice A2 rs.length c2,.string pn,.slice A3 pa.length c3] 27)));have HQ1:=z00.mk (Kd.C_below (Kd.R_reads' g3).2.2 (z03 (Below.refl w5.heap.size w5) (.cells #[.slice A2 rs.length c2,.string pn,.slice A3 pa.length c3] 27)));have HL3:=z00.mk (Kd.R_reads' g3).2.1;clear hN2 g2 g3 hb hb3
    go_upto_region 7 with (fail)
    generalize w5.alloc (.cells #[.slice A2 rs.length c2,.string pn,.slice A3 pa.length c3] 27)=W5 at HN2 HB5 HQ0 HQ1 ⊢
    have d0:=z07 HB5.out HD.out.1;have d1:=z07 HB5.out HD.out.2.1;have d2:=z07 HB5.out HD.out.2.2;have q0:W5.cell? ⟨n2,0,none⟩=some (.slice A2 rs.length c2):=(z01 HN2.out 0).trans rfl;have q1:W5.cell? ⟨n2,1,none⟩=some (.string pn):=(z01 HN2.out 1).trans rfl;have q2:W5.cell? ⟨n2,2,none⟩=some (.slice A3 pa.length c3):=(z01 HN2.out 2).trans rfl
    go_wp2_with fail
    refine(HSM.out (by trivial) _ A A2 B A3 c c2 d c3 HL1.out HL3.out (Kd.C_below HC0.out HB5.out) HQ0.out (Kd.C_below HC1.out HB5.out) HQ1.out).mono ?_;rintro e w6 ⟨rfl,hb⟩;have HB6:=z00.mk (z09 HBW.out HBW.out.size (z09 HB5.out HB5.out.size hb));clear hb d0 d1 d2 q0 q1 q2;go_wp2
    go_ret
    exact⟨by first|rfl|simp[*],HB6.out⟩
def z2t.f (k:Nat) (rs:List RlS) (pn:ByteArray) (pa:List TmS):Option Bool:=some true
theorem z2t.calls (k:Nat) (A:Option Addr) (c:Nat) (rs:List RlS) (pn:ByteArray) (B:Option Addr) (d:Nat) (pa:List TmS) (r:Bool) (w:World) (hLW:LaidW w)
 (hA:Kd.C k33 w A rs.length rs) (hc:rs.length≤c) (hB:Kd.C k60 w B pa.length pa) (hd:pa.length≤d) (hr:∀x ∈ rs,inR x) (hq:∀t ∈ pa,inT t) (h:z2t.f k rs pn pa=some r) :
 Calls Tryz.prog 13 #[.agg #[.slice A rs.length c,.string pn,.slice B pa.length d]] w fun e w'=>e=.returned (.bool r)∧Below w.heap.size w w':=by
 obtain rfl:=Option.some.inj h;exact zal rs pn pa ⟨hr,hq⟩ A B c d hd w hLW hA hB hc
end Go.Proofs.YthebhbomlllpeaaGreatDoor.X
namespace Go.Proofs.YthebhbomlllpeaaGreatDoor.X
theorem zcy (rs:List RlS) (pn:ByteArray) (pa:List TmS):∃k,z2t.f k rs pn pa=some true:=⟨0,rfl⟩
end Go.Proofs.YthebhbomlllpeaaGreatDoor.X
