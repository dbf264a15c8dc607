/-
  ParseBlanks: what the proof needs, put together by a program of this session (shake.py), part 3.
-/
import Derived.Test.YthebhbomlllpeaaGreatDoorZParseBlanks2
set_option linter.unusedVariables false
set_option linter.unusedSimpArgs false
namespace Go.Proofs.YthebhbomlllpeaaGreatDoor.X
open Go.RowKit Go.Proofs.YthebhbomlllpeaaGreatDoorW.PrintWords Go.Proofs.YthebhbomlllpeaaGreatDoorW.PrintLast Go.Proofs.YthebhbomlllpeaaGreatDoorW.PrintMore
def TokC (w0:World) (A:Option Addr) (ts:List S108):Prop:=Kd.C k108 w0 A ts.length ts∧∀ad,A=some ad→ts≠[]→∃cells,w0.heap[ad.block]?=some (.cells cells 108 (0,0))
theorem TokC.far {w0 w1:World} {A:Option Addr} {ts:List S108} {m:Nat} (h:TokC w0 A ts) (hm:∀ad,A=some ad→ad.block≠m) (hk:z0v w0 w1 m none):TokC w1 A ts:=by
 refine⟨Kd.C_foot_ne (g:=m) (fun {W W' x cs} hx=>by rw[zbk hx];exact k108_mk W' x) h.1 (fun ad he _=>hm ad he) w1 hk,fun ad he hn=>?_⟩;obtain⟨cells,hc⟩:=h.2 ad he hn;exact⟨cells,hk.blk hc (hm ad he) (by simp)⟩
theorem TokC.of_R {w0:World} {base:Nat} {ok:Nat→Prop} {A:Option Addr} {c:Nat} {ts:List S108} (h:Kd.R k108 108 w0 base ok (.slice A ts.length c) ts):TokC w0 A ts:=by
 refine⟨(Kd.R_reads' h).2.2,fun ad he hn=>?_⟩;subst he;obtain⟨h0,inner,ho,hr⟩:=h;rcases ho.2 with ⟨hv,hx⟩|⟨g,cap,cur,hv,hg,hh,r⟩
 · injection hv with h1 h2 h3;cases h1
 · injection hv with h1 h2 h3
   injection h1 with h1
   subst h1;exact⟨cur,hh⟩
def Rd (w0 W:World) (g:Nat) (ts:List S108) (p:Nat) (en:Int):Prop:=∃A c,W.heap[g]?=some (.cells #[.slice A ts.length c,.int .i64 p,.int .i64 en] 128 (0,0))∧w0.heap.size≤g∧TokC w0 A ts∧p≤ts.length∧ts.length≤20000
theorem Rd.grown {w0 W:World} {g:Nat} {ts:List S108} {p:Nat} {en:Int} {W1:World} {row:Option Nat} (h:Rd w0 W g ts p en) (hw:W.grownBy W1 row) (hne:some g≠row):Rd w0 W1 g ts p en:=by
 obtain⟨A,c,hb,hg,hr,hp,hl⟩:=h;exact⟨A,c,z42 hb hw hne,hg,hr,hp,hl⟩
theorem Rd.below {w0 W:World} {g:Nat} {ts:List S108} {p:Nat} {en:Int} {W1:World} (h:Rd w0 W g ts p en) (hw:Below W.heap.size W W1):Rd w0 W1 g ts p en:=h.grown (z98 hw none) (by simp)
theorem Rd.alloc {w0 W:World} {g:Nat} {ts:List S108} {p:Nat} {en:Int} (h:Rd w0 W g ts p en) (o:Obj):Rd w0 (W.alloc o) g ts p en:=h.below (z04 (Below.refl _ _) o)
theorem Rd.drewN {w0 W:World} {g:Nat} {ts:List S108} {p:Nat} {en:Int} (h:Rd w0 W g ts p en) (m:Nat):Rd w0 (W.drewN m) g ts p en:=h
theorem Rd.drew {w0 W:World} {g:Nat} {ts:List S108} {p:Nat} {en:Int} (h:Rd w0 W g ts p en):Rd w0 W.drew g ts p en:=h
theorem Rd.lt {w0 W:World} {g:Nat} {ts:List S108} {p:Nat} {en:Int} (h:Rd w0 W g ts p en):g<W.heap.size:=by
 obtain⟨A,c,hb,_⟩:=h;exact z1u hb
theorem Rd.ge {w0 W:World} {g:Nat} {ts:List S108} {p:Nat} {en:Int} (h:Rd w0 W g ts p en):w0.heap.size≤g:=by
 obtain⟨A,c,hb,hg,_⟩:=h;exact hg
theorem Rd.far {w0 W:World} {g:Nat} {ts:List S108} {p:Nat} {en:Int} {q:Addr} (h:Rd w0 W g ts p en) (hne:g≠q.block) (u:Value):Rd w0 (W.setCell q u) g ts p en:=by
 obtain⟨A,c,hb,hg,hr,hp,hl⟩:=h;exact⟨A,c,z0w hb hne u,hg,hr,hp,hl⟩
theorem Rd.move {w0 W:World} {g:Nat} {ts:List S108} {p:Nat} {en:Int} (h:Rd w0 W g ts p en) (q:Nat) (hq:q≤ts.length):Rd w0 (W.setCell ⟨g,1,none⟩ (.int .i64 q)) g ts q en:=by
 obtain⟨A,c,hb,hg,hr,hp,hl⟩:=h;exact⟨A,c,by simpa using z87 hb 1 (.int .i64 (q:Int)),hg,hr,hq,hl⟩
def seeP (ts:List S108) (en:Int) (i:Nat):S108:=ts.getD i ⟨0,⟨#[]⟩,en⟩
theorem zgp {w0 w w1:World} {g n:Nat} {ts:List S108} {p:Nat} {en:Int} (x:S108) (hI:Rd w0 w1 g ts p en) (hB:Below w0.heap.size w0 w1) (hK:z0v w w1 g none) (hN:∃k s i,w1.heap[n]?=some (.cells #[.int .i64 k,.string s,.int .i64 i] 108 (0,0)))
 (hg:g≠n) (h0:w0.heap.size≤n) (h1:w.heap.size≤n):z00 ((((w1.setCell ⟨n,0,none⟩ (.int .i64 x.f0)).setCell ⟨n,1,none⟩ (.string x.f1)).setCell ⟨n,2,none⟩ (.int .i64 x.f2)).heap[n]?=some (.cells #[.int .i64 x.f0,.string x.f1,.int .i64 x.f2] 108 (0,0))) ∧
   z00 (Rd w0 (((w1.setCell ⟨n,0,none⟩ (.int .i64 x.f0)).setCell ⟨n,1,none⟩ (.string x.f1)).setCell ⟨n,2,none⟩ (.int .i64 x.f2)) g ts p en) ∧
   z00 (Below w0.heap.size w0 (((w1.setCell ⟨n,0,none⟩ (.int .i64 x.f0)).setCell ⟨n,1,none⟩ (.string x.f1)).setCell ⟨n,2,none⟩ (.int .i64 x.f2))) ∧
   z00 (z0v w (((w1.setCell ⟨n,0,none⟩ (.int .i64 x.f0)).setCell ⟨n,1,none⟩ (.string x.f1)).setCell ⟨n,2,none⟩ (.int .i64 x.f2)) g none):=by
 obtain⟨k,s,i,hN⟩:=hN;refine⟨⟨?_⟩,⟨Rd.far (Rd.far (Rd.far hI hg _) hg _) hg _⟩,⟨z08 (z08 (z08 hB h0) h0) h0⟩,⟨z3n (z3n (z3n hK h1 _) h1 _) h1 _⟩⟩;exact z0l (cs:=#[.int .i64 x.f0,.string x.f1,.int .i64 i]) (z0l (cs:=#[.int .i64 x.f0,.string s,.int .i64 i]) (z0l hN 0 (.int .i64 x.f0) rfl) 1 (.string x.f1) rfl) 2 (.int .i64 x.f2) rfl
set_option maxRecDepth 100000 in
theorem z2a (w0 w:World) (g:Nat) (ts:List S108) (p:Nat) (en:Int) (a:Nat) (ha:a≤1) (hI:Rd w0 w g ts p en) (hB:Below w0.heap.size w0 w) :
 Calls Tryz.prog 84 #[.pointer (some ⟨g,0,none⟩),.int .i64 a] w fun e w'=>e=.returned (.agg #[.int .i64 (seeP ts en (p+a)).f0,.string (seeP ts en (p+a)).f1,.int .i64 (seeP ts en (p+a)).f2])∧Rd w0 w' g ts p en∧Below w0.heap.size w0 w'∧z0v w w' g none:=by
 have hI1:=z00.mk (hI.alloc (.cells #[.int .i64 0,.string ⟨#[]⟩,.int .i64 0] 108));have hB1:=z00.mk (z04 hB (.cells #[.int .i64 0,.string ⟨#[]⟩,.int .i64 0] 108));have hK1:=z00.mk (z1s (z0v.refl w g none) (.cells #[.int .i64 0,.string ⟨#[]⟩,.int .i64 0] 108));have hN:=z1h w (.cells #[.int .i64 0,.string ⟨#[]⟩,.int .i64 0] 108);obtain⟨n,en'⟩:∃n,w.heap.size=n:=⟨_,rfl⟩
 have hgn:z00 (g≠n):=⟨by have:=hI.lt;omega⟩
 have h0n:z00 (w0.heap.size≤n):=⟨by rw[←en'];exact hB.size⟩
 have h1n:z00 (w.heap.size≤n):=⟨by omega⟩
 rw[en']at hN;obtain⟨A,c,hb,hg,hr,hp,hl⟩:=hI;have hG1:=z06 hb (.cells #[.int .i64 0,.string ⟨#[]⟩,.int .i64 0] 108);have hw:wrap64 ((p:Int)+(a:Int))=((p+a:Nat):Int):=by unfold wrap64;omega
 by_cases hc:ts.length≤p+a
 · have hs:seeP ts en (p+a)=⟨0,⟨#[]⟩,en⟩:=by
    unfold seeP;rw[List.getD_eq_getElem?_getD,List.getElem?_eq_none hc];rfl
   rw[hs];clear hB hb;go_enter Tryz.func84,Tryz.ntmps84
   go_wp2_with fail
   generalize w.alloc (.cells #[.int .i64 0,.string ⟨#[]⟩,.int .i64 0] 108)=w1 at hI1 hB1 hK1 hG1 hN ⊢
   have hc0:w1.cell? ⟨g,0,none⟩=some (.slice A ts.length c):=(z01 hG1 0).trans rfl;have hc1:w1.cell? ⟨g,1,none⟩=some (.int .i64 p):=(z01 hG1 1).trans rfl;have hc2:w1.cell? ⟨g,2,none⟩=some (.int .i64 en):=(z01 hG1 2).trans rfl;have hd0:w1.cell? ⟨n,0,none⟩=some (.int .i64 0):=(z01 hN 0).trans rfl;have hd1:w1.cell? ⟨n,1,none⟩=some (.string ⟨#[]⟩):=(z01 hN 1).trans rfl;have hd2:w1.cell? ⟨n,2,none⟩=some (.int .i64 0):=(z01 hN 2).trans rfl;have hf0:=z03 hN 0;have hf1:=z03 hN 1;have hf2:=z03 hN 2;have HN:=z00.mk hN;clear hN hG1
   go_quiet (fail)
   try go_wp2
   obtain⟨P1,P2,P3,P4⟩:=zgp (n:=n) ⟨0,⟨#[]⟩,en⟩ (hI1.out.drewN nq) (z02 hB1.out nq) (z7j hK1.out nq) ⟨_,_,_,z07 HN.out nq⟩ hgn.out h0n.out h1n.out;refine bodyPost_ret (results_cell_row rfl _ _ n 108 #[.int .i64 0,.string ⟨#[]⟩,.int .i64 en] (0,0) _ rfl P1.out Tryz.underlying108 rfl (by kernel_rfl)) rfl ?_;exact⟨rfl,P2.out,P3.out,P4.out⟩
 · have hi:p+a<ts.length:=by omega
   have hs:seeP ts en (p+a)=z2f ts ((p:Int)+(a:Int)):=by
    unfold seeP z2f;rw[show((p:Int)+(a:Int)).toNat=p+a by omega,List.getD_eq_getElem?_getD,List.getD_eq_getElem?_getD,List.getElem?_eq_getElem hi];rfl
   rw[hs];obtain⟨ad,rfl,hx0,hx1,hx2⟩:=z8w hr.1 ((p:Int)+(a:Int)) (by omega) (by omega);have hx0:=z0r hB1.out hx0;have hx1:=z0r hB1.out hx1;have hx2:=z0r hB1.out hx2
   generalize z2f ts ((p:Int)+(a:Int))=x at hx0 hx1 hx2 ⊢
   clear hB hb hs;go_enter Tryz.func84,Tryz.ntmps84
   go_wp2_with fail
   generalize w.alloc (.cells #[.int .i64 0,.string ⟨#[]⟩,.int .i64 0] 108)=w1 at hI1 hB1 hK1 hG1 hN hx0 hx1 hx2 ⊢
   have hc0:w1.cell? ⟨g,0,none⟩=some (.slice (some ad) ts.length c):=(z01 hG1 0).trans rfl;have hc1:w1.cell? ⟨g,1,none⟩=some (.int .i64 p):=(z01 hG1 1).trans rfl;have hd0:w1.cell? ⟨n,0,none⟩=some (.int .i64 0):=(z01 hN 0).trans rfl;have hd1:w1.cell? ⟨n,1,none⟩=some (.string ⟨#[]⟩):=(z01 hN 1).trans rfl;have hd2:w1.cell? ⟨n,2,none⟩=some (.int .i64 0):=(z01 hN 2).trans rfl;have hf0:=z03 hN 0;have hf1:=z03 hN 1;have hf2:=z03 hN 2;have HN:=z00.mk hN;clear hN hG1
   go_quiet (fail)
   try go_wp2
   replace hI1:=z00.mk (hI1.out.drewN nq);replace hB1:=z00.mk (z02 hB1.out nq);replace hK1:=z00.mk (z7j hK1.out nq);replace HN:=z00.mk (z07 HN.out nq);replace hx0:(w1.drewN nq).drew.cell? (ad.add (((p:Int)+(a:Int)).toNat * 3))=_:=hx0;replace hx1:(w1.drewN nq).drew.cell? ⟨(ad.add (((p:Int)+(a:Int)).toNat * 3)).block,(ad.add (((p:Int)+(a:Int)).toNat * 3)).off+1,none⟩=_:=hx1;replace hx2:(w1.drewN nq).drew.cell? ⟨(ad.add (((p:Int)+(a:Int)).toNat * 3)).block,(ad.add (((p:Int)+(a:Int)).toNat * 3)).off+2,none⟩=_:=hx2;replace hc0:(w1.drewN nq).drew.cell? ⟨g,0,none⟩=_:=hc0;replace hc1:(w1.drewN nq).drew.cell? ⟨g,1,none⟩=_:=hc1;replace hd0:(w1.drewN nq).drew.cell? ⟨n,0,none⟩=_:=hd0;replace hd1:(w1.drewN nq).drew.cell? ⟨n,1,none⟩=_:=hd1;replace hd2:(w1.drewN nq).drew.cell? ⟨n,2,none⟩=_:=hd2;replace hf0:(w1.drewN nq).drew.frozen? ⟨n,0,none⟩=_:=hf0;replace hf1:(w1.drewN nq).drew.frozen? ⟨n,1,none⟩=_:=hf1;replace hf2:(w1.drewN nq).drew.frozen? ⟨n,2,none⟩=_:=hf2;have hiw:IntKind.i64.wrap ((p:Int)+(a:Int))=(p:Int)+(a:Int):=by rw[i64_w];unfold wrap64;omega
   have q0:(0≤(p:Int)+(a:Int))=True:=eq_true (by omega);have q1:((p:Int)+(a:Int)<(ts.length:Int))=True:=eq_true (by omega);refine wp_region_still_tail 12 (by kernel_rfl) (by kernel_rfl) ?_
   change wpStill _ _ (w1.drewN nq).drew (fun a'=>wpList _ _ _ _ a' (w1.drewN nq).drew) _ _
   have hI2:=z00.mk (Rd.drew hI1.out);have hB2:=z00.mk (z05 hB1.out);have hK2:=z00.mk (zca hK1.out);have HN2:=z00.mk (z09 HN.out);clear hI1 hB1 hK1 HN
   generalize (w1.drewN nq).drew=w2 at hI2 hB2 hK2 HN2 hx0 hx1 hx2 hc0 hc1 hd0 hd1 hd2 hf0 hf1 hf2 ⊢
   simp only[List.take_succ_cons,List.take_zero,List.drop_succ_cons,List.drop_zero]
   repeat still_step
   refine wpStill_nil ?_;go_wp2;obtain⟨P1,P2,P3,P4⟩:=zgp (n:=n) x hI2.out hB2.out hK2.out ⟨_,_,_,HN2.out⟩ hgn.out h0n.out h1n.out;refine bodyPost_ret (results_cell_row rfl _ _ n 108 #[.int .i64 x.f0,.string x.f1,.int .i64 x.f2] (0,0) _ rfl P1.out Tryz.underlying108 rfl (by kernel_rfl)) rfl ?_;exact⟨rfl,P2.out,P3.out,P4.out⟩

def markT (x:S108) (s:ByteArray):Bool:=x.f0==4&&x.f1.toList==s.toList
set_option maxRecDepth 100000 in
theorem z6b (w0 w:World) (g:Nat) (ts:List S108) (p:Nat) (en:Int) (a:Nat) (s:ByteArray) (ha:a≤1) (hI:Rd w0 w g ts p en) (hB:Below w0.heap.size w0 w) :
 Calls Tryz.prog 114 #[.pointer (some ⟨g,0,none⟩),.int .i64 a,.string s] w fun e w'=>e=.returned (.bool (markT (seeP ts en (p+a)) s))∧Rd w0 w' g ts p en∧Below w0.heap.size w0 w'∧z0v w w' g none:=by
 have HS:=z00.mk (z2a w0 w g ts p en a ha hI hB);clear hI hB;unfold markT
 generalize seeP ts en (p+a)=x at HS ⊢
 go_enter Tryz.func114,Tryz.ntmps114
 go_wp2_with fail
 refine HS.out.mono ?_;rintro e w1 ⟨rfl,i1,b1,k1⟩;have hI1:=z00.mk (i1.alloc (.cells #[.int .i64 x.f0,.string x.f1,.int .i64 x.f2] 108));have hB1:=z00.mk (z04 b1 (.cells #[.int .i64 x.f0,.string x.f1,.int .i64 x.f2] 108));have hK1:=z00.mk (z1s k1 (.cells #[.int .i64 x.f0,.string x.f1,.int .i64 x.f2] 108));clear i1 b1 k1
 by_cases h4:x.f0=4
 · have c0:(x.f0==4)=true:=beq_iff_eq.2 h4;go_wp2
   go_ret
   rw[h4]at hI1 hB1 hK1;exact⟨by rw[c0];rfl,hI1.out,hB1.out,hK1.out⟩
 · have c0:(x.f0==4)=false:=beq_eq_false_iff_ne.2 h4;go_wp2
   go_ret
   exact⟨by rw[c0];rfl,hI1.out,hB1.out,hK1.out⟩
set_option maxRecDepth 100000 in
theorem z1o (w0 w:World) (g:Nat) (ts:List S108) (p:Nat) (en:Int) (s:ByteArray) (hI:Rd w0 w g ts p en) (hB:Below w0.heap.size w0 w) :
 Calls Tryz.prog 83 #[.pointer (some ⟨g,0,none⟩),.string s] w fun e w'=>e=.returned (.bool (markT (seeP ts en p) s))∧Rd w0 w' g ts (if markT (seeP ts en p) s=true then p+1 else p) en∧Below w0.heap.size w0 w'∧z0v w w' g none:=by
 have HS:=z00.mk (z6b w0 w g ts p en 0 s (by omega) hI hB);rw[Nat.add_zero]at HS;have hp:p≤ts.length∧ts.length≤20000:=by
  obtain⟨A,c,hb,hg,hr,h1,h2⟩:=hI;exact⟨h1,h2⟩
 have hlt:markT (seeP ts en p) s=true→p<ts.length:=fun h=>by
  cases Nat.lt_or_ge p ts.length with
  |inl h=>exact h
  |inr h' =>
   unfold seeP at h;rw[List.getD_eq_getElem?_getD,List.getElem?_eq_none h']at h
   cases h
 clear hI hB
 cases hm:markT (seeP ts en p) s with
 |false =>
  rw[hm]at HS;go_enter Tryz.func83,Tryz.ntmps83
  go_wp2_with fail
  refine HS.out.mono ?_;rintro e w1 ⟨rfl,i1,b1,k1⟩;have hI1:=z00.mk i1;have hB1:=z00.mk b1;have hK1:=z00.mk k1;clear i1 b1 k1;go_wp2
  go_ret
  exact⟨rfl,hI1.out,hB1.out,hK1.out⟩
 |true =>
  have hlt:=hlt hm;rw[hm]at HS;go_enter Tryz.func83,Tryz.ntmps83
  go_wp2_with fail
  refine HS.out.mono ?_;rintro e w1 ⟨rfl,i1,b1,k1⟩;have hI2:=z00.mk (i1.move (p+1) (by omega));have hB2:=z00.mk (z08 (j:=1) (v:=.int .i64 ((p+1:Nat):Int)) b1 i1.ge);have hK2:=z00.mk (z0v.set_ k1 1 (.int .i64 ((p+1:Nat):Int)));obtain⟨A,c,hb,hg,hr,h1,h2⟩:=i1;have hc1:w1.cell? ⟨g,1,none⟩=some (.int .i64 p):=(z01 hb 1).trans rfl;have hf1:=z03 hb 1;clear hb b1 k1;rw[show((p+1:Nat):Int)=(p:Int)+1 by omega]at hI2 hB2 hK2;go_wp2
  go_ret
  exact⟨rfl,hI2.out,hB2.out,hK2.out⟩
def zbi (at_ er:Int):Ending:=.panicked [{ v:=.iface 125 (.agg #[.int .i64 at_,.int .i64 er]),recovered:=false }]
set_option maxRecDepth 100000 in
theorem z47 (w0 w:World) (g:Nat) (ts:List S108) (p:Nat) (en:Int) (er:Int) (hI:Rd w0 w g ts p en) (hB:Below w0.heap.size w0 w) :
 Calls Tryz.prog 82 #[.pointer (some ⟨g,0,none⟩),.int .i64 er] w fun e w'=>e=zbi (seeP ts en p).f2 er∧Rd w0 w' g ts p en∧Below w0.heap.size w0 w'∧z0v w w' g none:=by
 have HS:=z00.mk (z2a w0 w g ts p en 0 (by omega) hI hB);rw[Nat.add_zero]at HS;clear hI hB;unfold zbi
 generalize seeP ts en p=x at HS ⊢
 go_enter Tryz.func82,Tryz.ntmps82
 go_wp2_with fail
 refine HS.out.mono ?_;rintro e w1 ⟨rfl,i1,b1,k1⟩;have hI1:=z00.mk i1;have hB1:=z00.mk b1;have hK1:=z00.mk k1;clear i1 b1 k1;have hfd:∀w:World,(Instr.field 108 (.agg #[.int .i64 x.f0,.string x.f1,.int .i64 x.f2]) 2).run Tryz.prog w=.ok (.int .i64 x.f2) w:=fun _=>by kernel_rfl
 go_wp2;exact⟨rfl,rfl,hI1.out,hB1.out,hK1.out⟩

def tkOf (x:S108):TK:=(x.f0,x.f1)
def leftL (ts:List S108) (p:Nat):List TK:=(ts.drop p).map tkOf
theorem z3k {ts:List S108} {p:Nat} (en:Int) (h:p<ts.length):leftL ts p=tkOf (seeP ts en p)::leftL ts (p+1):=by
 unfold leftL seeP;rw[List.drop_eq_getElem_cons h,List.map_cons,List.getD_eq_getElem?_getD,List.getElem?_eq_getElem h];rfl
theorem z49 {ts:List S108} {p:Nat} (en:Int) (h:ts.length≤p):leftL ts p=[]∧seeP ts en p=⟨0,⟨#[]⟩,en⟩:=by
 refine⟨?_,?_⟩
 · unfold leftL;rw[List.drop_eq_nil_of_le h,List.map_nil]
 · unfold seeP;rw[List.getD_eq_getElem?_getD,List.getElem?_eq_none h];rfl
theorem z13 (ts:List S108) (p:Nat):(leftL ts p).length=ts.length - p:=by
 unfold leftL;rw[List.length_map,List.length_drop]
theorem z0y (ts:List S108) (p k:Nat):(leftL ts p).drop k=leftL ts (p+k):=by
 unfold leftL;rw[←List.map_drop,List.drop_drop]
theorem z3t (s:ByteArray):s.toList=s.data.toList:=ByteArray.toList_eq s
theorem z1q (ts:List S108) (en:Int) (p:Nat) (s:ByteArray):markT (seeP ts en p) s=mk0 (leftL ts p) s.data.toList:=by
 rcases Nat.lt_or_ge p ts.length with h|h
 · rw[z3k en h];simp only[markT,mk0,isT,tkOf,z3t]
 · obtain⟨h1,h2⟩:=z49 en h;rw[h1,h2];rfl
def Post {α:Type} (w0 w:World) (g:Nat) (ts:List S108) (en:Int) (r:Except (Nat × Int) (α × List TK)) (V:Value→World→α→Prop) (e:Ending) (w':World):Prop :=
 Below w0.heap.size w0 w'∧z0v w w' g none∧∃p',Rd w0 w' g ts p' en∧match r with
  |.ok x=>leftL ts p'=x.2∧∃v,e=.returned v∧V v w' x.1
  |.error q=>∃i,i≤ts.length∧ts.length - i=q.1∧e=zbi (seeP ts en i).f2 q.2
theorem Post.split {α:Type} {w0 w w':World} {g:Nat} {ts:List S108} {en:Int} {r:Except (Nat × Int) (α × List TK)} {V:Value→World→α→Prop} {e:Ending} (h:Post w0 w g ts en r V e w') :
 (∃x p' v,r=.ok (x,leftL ts p')∧e=.returned v∧V v w' x∧Rd w0 w' g ts p' en∧Below w0.heap.size w0 w'∧z0v w w' g none) ∨
 (∃q i p',r=.error q∧i≤ts.length∧ts.length - i=q.1∧e=zbi (seeP ts en i).f2 q.2∧Rd w0 w' g ts p' en∧Below w0.heap.size w0 w'∧z0v w w' g none):=by
 obtain⟨hB,hK,p',hR,h⟩:=h
 cases r with
 |ok x =>
  obtain⟨h1,v,h2,h3⟩:=h;exact .inl ⟨x.1,p',v,by rw[h1],h2,h3,hR,hB,hK⟩
 |error q =>
  obtain⟨i,h1,h2,h3⟩:=h;exact .inr ⟨q,i,p',rfl,h1,h2,h3,hR,hB,hK⟩
theorem Post.thrown_ {α:Type} {w0 w w':World} {g:Nat} {ts:List S108} {en:Int} {V:Value→World→α→Prop} {q:Nat × Int} {i p':Nat} (h1:i≤ts.length) (h2:ts.length - i=q.1) (hR:Rd w0 w' g ts p' en) (hB:Below w0.heap.size w0 w') (hK:z0v w w' g none):Post w0 w g ts en (.error q) V (zbi (seeP ts en i).f2 q.2) w' :=
 ⟨hB,hK,p',hR,i,h1,h2,rfl⟩
set_option maxRecDepth 100000 in
theorem z3f (w0 w:World) (g:Nat) (ts:List S108) (p:Nat) (en:Int) (s:ByteArray) (hI:Rd w0 w g ts p en) (hB:Below w0.heap.size w0 w) :
 Calls Tryz.prog 88 #[.pointer (some ⟨g,0,none⟩),.string s] w fun e w'=>Post w0 w g ts en (wantP s.data.toList (leftL ts p)) (fun v _ _=>v=.tuple #[]) e w':=by
 have hp:p≤ts.length:=by
  obtain⟨A,c,hb,hg,hr,h1,h2⟩:=hI;exact h1
 have HS:=z00.mk (z1o w0 w g ts p en s hI hB);clear hI hB;unfold wantP;rw[z1q]at HS
 cases hm:mk0 (leftL ts p) s.data.toList with
 |true =>
  rw[hm]at HS;go_enter Tryz.func88,Tryz.ntmps88
  go_wp2_with fail
  refine HS.out.mono ?_;rintro e w1 ⟨rfl,i1,b1,k1⟩;have hI1:=z00.mk i1;have hB1:=z00.mk b1;have hK1:=z00.mk k1;clear i1 b1 k1;go_wp2;refine⟨rfl,_,results_none rfl _ _ _,hB1.out,hK1.out,p+1,hI1.out,?_,_,rfl,rfl⟩;rw[←z0y ts p 1,List.drop_one]
 |false =>
  rw[hm]at HS;go_enter Tryz.func88,Tryz.ntmps88
  go_wp2_with fail
  refine HS.out.mono ?_;rintro e w1 ⟨rfl,i1,b1,k1⟩;have HF:=z00.mk (z47 w0 w1 g ts p en 2 i1 b1);have hK1:=z00.mk k1;clear i1 b1 k1
  go_wp2_with fail
  refine HF.out.mono ?_;rintro e w2 ⟨rfl,i2,b2,k2⟩;refine⟨rfl,b2,hK1.out.trans k2 (.inl rfl),p,i2,p,hp,?_,rfl⟩;rw[z13]
def nextP (fine:Bool):Prs ByteArray
 |[]=>.error (0,2)
 |t::r=>if fine then .ok (t.2,r)else .error (r.length+1,2)
set_option maxRecDepth 100000 in
theorem z4t (w0 w:World) (g:Nat) (ts:List S108) (p:Nat) (en:Int) (fine:Bool) (hf:fine=true→p<ts.length) (hI:Rd w0 w g ts p en) (hB:Below w0.heap.size w0 w) :
 Calls Tryz.prog 149 #[.pointer (some ⟨g,0,none⟩),.bool fine] w fun e w'=>Post w0 w g ts en (nextP fine (leftL ts p)) (fun v _ x=>v=.string x) e w':=by
 have hp:p≤ts.length:=by
  obtain⟨A,c,hb,hg,hr,h1,h2⟩:=hI;exact h1
 cases fine with
 |false =>
  have HF:=z00.mk (z47 w0 w g ts p en 2 hI hB);clear hI hB;have he:nextP false (leftL ts p)=.error (ts.length - p,2):=by
   rw[←z13]
   cases leftL ts p with
   |nil=>rfl
   |cons t r=>rfl
  rw[he];go_enter Tryz.func149,Tryz.ntmps149
  go_wp2_with fail
  refine HF.out.mono ?_;rintro e w2 ⟨rfl,i2,b2,k2⟩;exact⟨rfl,b2,k2,p,i2,p,hp,rfl,rfl⟩
 |true =>
  have hlt:=hf rfl;rw[z3k en hlt];have hs:seeP ts en p=z2f ts (p:Int):=by
   unfold seeP z2f;rw[Int.toNat_natCast,List.getD_eq_getElem?_getD,List.getD_eq_getElem?_getD,List.getElem?_eq_getElem hlt];rfl
  rw[hs];have hI2:=z00.mk (hI.move (p+1) (by omega));have hB2:=z00.mk (z08 (j:=1) (v:=.int .i64 ((p+1:Nat):Int)) hB hI.ge);have hK2:=z00.mk (z0v.set_ (z0v.refl w g none) 1 (.int .i64 ((p+1:Nat):Int)));obtain⟨A,c,hb,hg,hr,h1,h2⟩:=hI;obtain⟨ad,rfl,hx0,hx1,hx2⟩:=z8w hr.1 (p:Int) (by omega) (by omega);have hx1:=z0r hB2.out hx1
  generalize z2f ts (p:Int)=x at hx1 ⊢
  have hc1:w.cell? ⟨g,1,none⟩=some (.int .i64 p):=(z01 hb 1).trans rfl;have hf1:=z03 hb 1;have hb2:=z0l hb 1 (.int .i64 ((p+1:Nat):Int)) rfl;clear hb hB hx0 hx2;rw[show((p+1:Nat):Int)=(p:Int)+1 by omega]at hI2 hB2 hK2 hx1 hb2;go_enter Tryz.func149,Tryz.ntmps149
  go_wp2_with fail
  generalize w.setCell ⟨g,1,none⟩ (.int .i64 ((p:Int)+1))=w1 at hI2 hB2 hK2 hx1 hb2 ⊢
  have hd0:w1.cell? ⟨g,0,none⟩=some (.slice (some ad) ts.length c):=(z01 hb2 0).trans rfl;have hd1:w1.cell? ⟨g,1,none⟩=some (.int .i64 ((p:Int)+1)):=(z01 hb2 1).trans rfl;have hiw:IntKind.i64.wrap ((p:Int)+1 - 1)=(p:Int):=by rw[i64_w];unfold wrap64;omega
  have q0:(0≤(p:Int))=True:=eq_true (by omega);have q1:((p:Int)<(ts.length:Int))=True:=eq_true (by omega);have q2:(p<ts.length)=True:=eq_true hlt;rw[Int.toNat_natCast]at hx1;clear hb2
  go_quiet (fail)
  go_wp2
  go_ret
  exact⟨z02 hB2.out nq,z7j hK2.out nq,p+1,hI2.out.drewN nq,rfl,_,rfl,rfl⟩

theorem zdi (ts:List S108) (en:Int) (p:Nat):z2n (leftL ts p)=((seeP ts en p).f0==1||(seeP ts en p).f0==2||(seeP ts en p).f0==3):=by
 rcases Nat.lt_or_ge p ts.length with h|h
 · rw[z3k en h];rfl
 · obtain⟨h1,h2⟩:=z49 en h;rw[h1,h2];rfl
set_option maxRecDepth 100000 in
theorem z35 (w0 w:World) (g:Nat) (ts:List S108) (p:Nat) (en:Int) (hI:Rd w0 w g ts p en) (hB:Below w0.heap.size w0 w) :
 Calls Tryz.prog 115 #[.pointer (some ⟨g,0,none⟩)] w fun e w'=>e=.returned (.bool (z2n (leftL ts p)))∧Rd w0 w' g ts p en∧Below w0.heap.size w0 w'∧z0v w w' g none:=by
 have HS:=z00.mk (z2a w0 w g ts p en 0 (by omega) hI hB);rw[Nat.add_zero]at HS;clear hI hB;rw[zdi ts en p]
 generalize seeP ts en p=x at HS ⊢
 have hfd:∀w:World,(Instr.field 108 (.agg #[.int .i64 x.f0,.string x.f1,.int .i64 x.f2]) 0).run Tryz.prog w=.ok (.int .i64 x.f0) w:=fun _=>by kernel_rfl
 go_enter Tryz.func115,Tryz.ntmps115
 go_wp2_with fail
 refine HS.out.mono ?_;rintro e w1 ⟨rfl,i1,b1,k1⟩;have hI1:=z00.mk i1;have hB1:=z00.mk b1;have hK1:=z00.mk k1;clear i1 b1 k1
 cases c1:(x.f0==1)with
 |true =>
  go_wp2
  go_ret
  exact⟨by rw[c1];rfl,hI1.out,hB1.out,hK1.out⟩
 |false =>
  cases c2:(x.f0==2)with
  |true =>
   go_wp2
   go_ret
   exact⟨by rw[c1,c2];rfl,hI1.out,hB1.out,hK1.out⟩
  |false =>
   go_wp2
   go_ret
   exact⟨by rw[c1,c2];rfl,hI1.out,hB1.out,hK1.out⟩
theorem z5t (s:ByteArray):z67.f s=some (keyL s.data.toList):=by
 unfold z67.f;rw[z3t]
 generalize s.data.toList=l
 by_cases h:l=[110,111,116]
 · subst h;rfl
 rw[if_neg h];have n0:=h;clear h
 by_cases h:l=[105,115]
 · subst h;rfl
 rw[if_neg h];have n1:=h;clear h
 by_cases h:l=[112,108,117,115]
 · subst h;rfl
 rw[if_neg h];have n2:=h;clear h
 by_cases h:l=[109,105,110,117,115]
 · subst h;rfl
 rw[if_neg h];have n3:=h;clear h
 by_cases h:l=[116,105,109,101,115]
 · subst h;rfl
 rw[if_neg h];have n4:=h;clear h
 by_cases h:l=[119,97,108,107]
 · subst h;rfl
 rw[if_neg h];have n5:=h;clear h
 by_cases h:l=[99,111,117,110,116]
 · subst h;rfl
 rw[if_neg h];have n6:=h;clear h
 by_cases h:l=[115,117,109]
 · subst h;rfl
 rw[if_neg h];have n7:=h;clear h
 by_cases h:l=[109,105,110]
 · subst h;rfl
 rw[if_neg h];have n8:=h;clear h
 by_cases h:l=[109,97,120]
 · subst h;rfl
 rw[if_neg h];have n9:=h;clear h;have hlast:(if l=([109,101,97,110]:List UInt8)then(some true)else(some false))=some (l==[109,101,97,110]):=by
  by_cases h:l=[109,101,97,110]
  · rw[if_pos h,beq_iff_eq.2 h]
  · rw[if_neg h,beq_eq_false_iff_ne.2 h]
 rw[hlast];unfold keyL keysL;simp only[List.contains_cons,List.contains_nil,Bool.or_false];rw[beq_eq_false_iff_ne.2 n0,beq_eq_false_iff_ne.2 n1,beq_eq_false_iff_ne.2 n2,beq_eq_false_iff_ne.2 n3,beq_eq_false_iff_ne.2 n4,beq_eq_false_iff_ne.2 n5,beq_eq_false_iff_ne.2 n6,beq_eq_false_iff_ne.2 n7,beq_eq_false_iff_ne.2 n8,beq_eq_false_iff_ne.2 n9];rfl
theorem z9g (l:List TK):z28 l=nextP (predL l) l:=by
 cases l with
 |nil=>rfl
 |cons t r=>rfl
theorem z4l (ts:List S108) (en:Int) (p:Nat):predL (leftL ts p)=((seeP ts en p).f0==1&&!keyL (seeP ts en p).f1.data.toList):=by
 rcases Nat.lt_or_ge p ts.length with h|h
 · rw[z3k en h];rfl
 · obtain⟨h1,h2⟩:=z49 en h;rw[h1,h2];rfl
theorem pred_lt {ts:List S108} {p:Nat} (h:predL (leftL ts p)=true):p<ts.length:=by
 rcases Nat.lt_or_ge p ts.length with h'|h'
 · exact h'
 · rw[(z49 0 h').1]at h;cases h
set_option maxRecDepth 100000 in
theorem z52 (w0 w:World) (g:Nat) (ts:List S108) (p:Nat) (en:Int) (hI:Rd w0 w g ts p en) (hB:Below w0.heap.size w0 w) :
 Calls Tryz.prog 117 #[.pointer (some ⟨g,0,none⟩)] w fun e w'=>Post w0 w g ts en (z28 (leftL ts p)) (fun v _ x=>v=.string x) e w':=by
 have HS:=z00.mk (z2a w0 w g ts p en 0 (by omega) hI hB);rw[Nat.add_zero]at HS;clear hI hB;rw[z9g];have HL:=z00.mk (z4l ts en p);have HP:=z00.mk (fun h=>pred_lt (ts:=ts) (p:=p) h)
 generalize predL (leftL ts p)=fine at HL HP ⊢
 obtain⟨r,hr0⟩:∃r,nextP fine (leftL ts p)=r:=⟨_,rfl⟩
 rw[hr0];have HR0:=z00.mk hr0;clear hr0
 generalize seeP ts en p=x at HS HL ⊢
 go_enter Tryz.func117,Tryz.ntmps117
 go_wp2_with fail
 refine HS.out.mono ?_;rintro e w1 ⟨rfl,i1,b1,k1⟩;have hI1:=z00.mk (i1.alloc (.cells #[.int .i64 x.f0,.string x.f1,.int .i64 x.f2] 108));have hB1:=z00.mk (z04 b1 (.cells #[.int .i64 x.f0,.string x.f1,.int .i64 x.f2] 108));have hK1:=z00.mk (z1s k1 (.cells #[.int .i64 x.f0,.string x.f1,.int .i64 x.f2] 108));clear i1 b1 k1
 cases c1:(x.f0==1)with
 |false =>
  rw[c1]at HL;have hL:=HL.out;simp only[Bool.false_and]at hL;subst hL;have HN:=z4t w0 _ g ts p en false (fun h=>by cases h) hI1.out hB1.out;rw[HR0.out]at HN;have HN:=z00.mk HN;clear HR0
  go_wp2_with fail
  refine HN.out.mono ?_;intro e w2 hp;rcases hp.split with ⟨y,p',v,rfl,rfl,rfl,R,B,K⟩|⟨q,i,p',rfl,h1,h2,rfl,R,B,K⟩
  · have hR:=z00.mk R;have hB:=z00.mk B;have hK:=z00.mk (hK1.out.trans K (.inl rfl));clear R B K hp;go_wp2
    go_ret
    exact⟨hB.out,hK.out,p',hR.out,rfl,_,rfl,rfl⟩
  · exact⟨rfl,Post.thrown_ h1 h2 R B (hK1.out.trans K (.inl rfl))⟩
 |true =>
  rw[c1]at HL;have hL:=HL.out;simp only[Bool.true_and]at hL;have HY:=z00.mk (z67.calls x.f1 (keyL x.f1.data.toList) (w1.alloc (.cells #[.int .i64 x.f0,.string x.f1,.int .i64 x.f2] 108)) (z5t x.f1))
  generalize keyL x.f1.data.toList=ky at hL HY
  subst hL
  go_wp2_with fail
  refine HY.out.mono ?_;rintro e w2 ⟨rfl,d⟩;have hI2:=z00.mk (hI1.out.below d.below);have hB2:=z00.mk (z0g hB1.out d.below);have hK2:=z00.mk (hK1.out.trans (z0v.of_below d.below g none) (.inl rfl));clear d;have HN:=z4t w0 w2 g ts p en (!ky) HP.out hI2.out hB2.out;rw[HR0.out]at HN;have HN:=z00.mk HN;clear HR0
  go_wp2_with fail
  refine HN.out.mono ?_;intro e w2 hp;rcases hp.split with ⟨y,p',v,rfl,rfl,rfl,R,B,K⟩|⟨q,i,p',rfl,h1,h2,rfl,R,B,K⟩
  · have hR:=z00.mk R;have hB:=z00.mk B;have hK:=z00.mk (hK2.out.trans K (.inl rfl));clear R B K hp;go_wp2
    go_ret
    exact⟨hB.out,hK.out,p',hR.out,rfl,_,rfl,rfl⟩
  · exact⟨rfl,Post.thrown_ h1 h2 R B (hK2.out.trans K (.inl rfl))⟩

def Env (w0:World) (ts:List S108):Prop:=LaidW w0∧∀x ∈ ts,x.f1.size≤281474976710656
def mapR {α β:Type} (f:α→β):Except (Nat × Int) (α × List TK)→Except (Nat × Int) (β × List TK)
 |.error e=>.error e
 |.ok x=>.ok (f x.1,x.2)
theorem zb4 (l:List TK):z4b l=mapR (fun s=>(⟨s,noneV⟩:TmS)) (nextP (kindL l==2) l):=by
 cases l with
 |nil=>rfl
 |cons t r =>
  show(if(t.1==2)=true then Except.ok (⟨t.2,noneV⟩,r)else Except.error (r.length+1,2))=mapR (fun s=>(⟨s,noneV⟩:TmS)) (nextP (t.1==2) (t::r))
  generalize (t.1==2)=b
  cases b <;> rfl
theorem zfm (l:List TK) (h:(kindL l==2)=false):termP l=mapR (fun s=>(⟨⟨#[]⟩,readV s⟩:TmS)) (nextP (z2n l) l):=by
 cases l with
 |nil=>rfl
 |cons t r =>
  replace h:(t.1==2)=false:=h;show(if(t.1==2)=true then Except.ok (⟨t.2,noneV⟩,r)else if(t.1==1||t.1==3)=true then Except.ok (⟨⟨#[]⟩,readV t.2⟩,r)else Except.error (r.length+1,2))=mapR (fun s=>(⟨⟨#[]⟩,readV s⟩:TmS)) (nextP (t.1==1||t.1==2||t.1==3) (t::r))
  generalize (t.1==2)=b at h ⊢
  subst h
  generalize (t.1==1)=c
  generalize (t.1==3)=d
  cases c <;> cases d <;> rfl
theorem term_var (l:List TK) (h:(kindL l==2)=true):termP l=z4b l:=by
 cases l with
 |nil=>rfl
 |cons t r =>
  replace h:(t.1==2)=true:=h;show(if(t.1==2)=true then Except.ok ((⟨t.2,noneV⟩:TmS),r)else if(t.1==1||t.1==3)=true then Except.ok ((⟨⟨#[]⟩,readV t.2⟩:TmS),r)else Except.error (r.length+1,2))=(if(t.1==2)=true then Except.ok ((⟨t.2,noneV⟩:TmS),r)else Except.error (r.length+1,2));rw[if_pos h,if_pos h]
theorem z2y (ts:List S108) (en:Int) (p:Nat):kindL (leftL ts p)=(seeP ts en p).f0:=by
 rcases Nat.lt_or_ge p ts.length with h|h
 · rw[z3k en h];rfl
 · obtain⟨h1,h2⟩:=z49 en h;rw[h1,h2];rfl
theorem z4y {ts:List S108} {p:Nat} (h:leftL ts p≠[]):p<ts.length:=by
 rcases Nat.lt_or_ge p ts.length with h'|h'
 · exact h'
 · exact absurd (z49 0 h').1 h
theorem zfu {ts:List S108} {p:Nat} {fine:Bool} {s:ByteArray} {r:List TK} (h:nextP fine (leftL ts p)=.ok (s,r)):∃x ∈ ts,x.f1=s:=by
 rcases Nat.lt_or_ge p ts.length with h'|h'
 · rw[z3k 0 h']at h
   cases fine with
   |false=>cases h
   |true =>
    simp only[nextP,if_true,Except.ok.injEq,Prod.mk.injEq]at h;refine⟨ts[p],List.getElem_mem h',?_⟩;rw[←h.1];unfold seeP tkOf;rw[List.getD_eq_getElem?_getD,List.getElem?_eq_getElem h'];rfl
 · rw[(z49 0 h').1]at h
   cases h
def tmV (x:TmS):Value:=.agg #[.string x.f0,.int .i64 x.f1.f0,.int .i64 x.f1.f1,.string x.f1.f2]
theorem zgh {w0 w w1:World} {g n:Nat} {ts:List S108} {p:Nat} {en:Int} (a:ByteArray) (b c:Int) (d:ByteArray) (hI:Rd w0 w1 g ts p en) (hB:Below w0.heap.size w0 w1) (hK:z0v w w1 g none) (hN:w1.heap[n]?=some (.cells #[.string ⟨#[]⟩,.int .i64 0,.int .i64 0,.string ⟨#[]⟩] 60 (0,0)))
 (hg:g≠n) (h0:w0.heap.size≤n) (h1:w.heap.size≤n):z00 (((((w1.setCell ⟨n,0,none⟩ (.string a)).setCell ⟨n,1,none⟩ (.int .i64 b)).setCell ⟨n,2,none⟩ (.int .i64 c)).setCell ⟨n,3,none⟩ (.string d)).heap[n]?=some (.cells #[.string a,.int .i64 b,.int .i64 c,.string d] 60 (0,0))) ∧
   z00 (Rd w0 ((((w1.setCell ⟨n,0,none⟩ (.string a)).setCell ⟨n,1,none⟩ (.int .i64 b)).setCell ⟨n,2,none⟩ (.int .i64 c)).setCell ⟨n,3,none⟩ (.string d)) g ts p en) ∧
   z00 (Below w0.heap.size w0 ((((w1.setCell ⟨n,0,none⟩ (.string a)).setCell ⟨n,1,none⟩ (.int .i64 b)).setCell ⟨n,2,none⟩ (.int .i64 c)).setCell ⟨n,3,none⟩ (.string d))) ∧
   z00 (z0v w ((((w1.setCell ⟨n,0,none⟩ (.string a)).setCell ⟨n,1,none⟩ (.int .i64 b)).setCell ⟨n,2,none⟩ (.int .i64 c)).setCell ⟨n,3,none⟩ (.string d)) g none):=by
 refine⟨⟨?_⟩,⟨Rd.far (Rd.far (Rd.far (Rd.far hI hg _) hg _) hg _) hg _⟩,⟨z08 (z08 (z08 (z08 hB h0) h0) h0) h0⟩,⟨z3n (z3n (z3n (z3n hK h1 _) h1 _) h1 _) h1 _⟩⟩;exact z0l (cs:=#[.string a,.int .i64 b,.int .i64 c,.string ⟨#[]⟩]) (z0l (cs:=#[.string a,.int .i64 b,.int .i64 0,.string ⟨#[]⟩]) (z0l (cs:=#[.string a,.int .i64 0,.int .i64 0,.string ⟨#[]⟩]) (z0l hN 0 (.string a) rfl) 1 (.int .i64 b) rfl) 2 (.int .i64 c) rfl) 3 (.string d) rfl
set_option maxRecDepth 100000 in
theorem z5h (w0 w:World) (g:Nat) (ts:List S108) (p:Nat) (en:Int) (hI:Rd w0 w g ts p en) (hB:Below w0.heap.size w0 w) :
 Calls Tryz.prog 119 #[.pointer (some ⟨g,0,none⟩)] w fun e w'=>Post w0 w g ts en (z4b (leftL ts p)) (fun v _ x=>v=tmV x) e w':=by
 have hI1:=hI.alloc (.cells #[.string ⟨#[]⟩,.int .i64 0,.int .i64 0,.string ⟨#[]⟩] 60);have hB1:=z04 hB (.cells #[.string ⟨#[]⟩,.int .i64 0,.int .i64 0,.string ⟨#[]⟩] 60);have hK1:=z00.mk (z1s (z0v.refl w g none) (.cells #[.string ⟨#[]⟩,.int .i64 0,.int .i64 0,.string ⟨#[]⟩] 60));have hN:=z00.mk (z1h w (.cells #[.string ⟨#[]⟩,.int .i64 0,.int .i64 0,.string ⟨#[]⟩] 60));obtain⟨n,en'⟩:∃n,w.heap.size=n:=⟨_,rfl⟩
 have hgn:z00 (g≠n):=⟨by have:=hI.lt;omega⟩
 have h0n:z00 (w0.heap.size≤n):=⟨by rw[←en'];exact hB.size⟩
 have h1n:z00 (w.heap.size≤n):=⟨by omega⟩
 rw[en']at hN;have HS:=z00.mk (z2a w0 _ g ts p en 0 (by omega) hI1 hB1);rw[Nat.add_zero]at HS;clear hI hB hI1 hB1;rw[zb4,z2y ts en p];have HP : z00 (((seeP ts en p).f0 == 2) = true → p < ts.length) := ⟨fun h=>z4y fun e=>by
  rw[←z2y ts en p,e]at h
  cases h⟩
 generalize seeP ts en p=x at HS HP ⊢
 obtain⟨fine,hf⟩:∃fine,(x.f0==2)=fine:=⟨_,rfl⟩
 rw[hf]at HP ⊢;obtain⟨r,hr0⟩:∃r,nextP fine (leftL ts p)=r:=⟨_,rfl⟩
 rw[hr0];have HR0:=z00.mk hr0;clear hr0;have hfd:∀w:World,(Instr.field 108 (.agg #[.int .i64 x.f0,.string x.f1,.int .i64 x.f2]) 0).run Tryz.prog w=.ok (.int .i64 x.f0) w:=fun _=>by kernel_rfl
 go_enter Tryz.func119,Tryz.ntmps119
 go_wp2_with fail
 refine HS.out.mono ?_;rintro e w1 ⟨rfl,i1,b1,k1⟩;have HN:=z4t w0 w1 g ts p en fine HP.out i1 b1;rw[HR0.out]at HN;have HN:=z00.mk HN;replace hN:=z00.mk (k1.blk hN.out hgn.out.symm (by simp));replace hK1:=z00.mk (hK1.out.trans k1 (.inl rfl));clear HR0 HP i1 b1 k1
 go_wp2_with fail
 refine HN.out.mono ?_;intro e w2 hp;rcases hp.split with ⟨y,p',v,rfl,rfl,rfl,R,B,K⟩|⟨q,i,p',rfl,h1,h2,rfl,R,B,K⟩
 · replace hN:=K.blk hN.out hgn.out.symm (by simp);have hf0:=z03 hN 0;have hf1:=z03 hN 1;have hf2:=z03 hN 2;have hf3:=z03 hN 3;have hd0:w2.cell? ⟨n,0,none⟩=some (.string ⟨#[]⟩):=(z01 hN 0).trans rfl;have hd1:w2.cell? ⟨n,1,none⟩=some (.int .i64 0):=(z01 hN 1).trans rfl;have hd2:w2.cell? ⟨n,2,none⟩=some (.int .i64 0):=(z01 hN 2).trans rfl;have hd3:w2.cell? ⟨n,3,none⟩=some (.string ⟨#[]⟩):=(z01 hN 3).trans rfl;obtain⟨P1,P2,P3,P4⟩:=zgh (n:=n) y 0 0 ⟨#[]⟩ R B (hK1.out.trans K (.inl rfl)) hN hgn.out h0n.out h1n.out;clear R B K hp hN;go_wp2;refine bodyPost_ret (results_cell_row rfl _ _ n 60 #[.string y,.int .i64 0,.int .i64 0,.string ⟨#[]⟩] (0,0) _ rfl P1.out Tryz.underlying60 rfl (by kernel_rfl)) rfl ?_;exact⟨P3.out,P4.out,p',P2.out,rfl,_,rfl,rfl⟩
 · exact⟨rfl,Post.thrown_ h1 h2 R B (hK1.out.trans K (.inl rfl))⟩
set_option maxRecDepth 100000 in
theorem z44 (w0 w:World) (g:Nat) (ts:List S108) (p:Nat) (en:Int) (hE:Env w0 ts) (hI:Rd w0 w g ts p en) (hB:Below w0.heap.size w0 w) :
 Calls Tryz.prog 120 #[.pointer (some ⟨g,0,none⟩)] w fun e w'=>Post w0 w g ts en (termP (leftL ts p)) (fun v _ x=>v=tmV x) e w':=by
 have HE:=z00.mk hE;have hI1:=hI.alloc (.cells #[.string ⟨#[]⟩,.int .i64 0,.int .i64 0,.string ⟨#[]⟩] 60);have hB1:=z04 hB (.cells #[.string ⟨#[]⟩,.int .i64 0,.int .i64 0,.string ⟨#[]⟩] 60);have hK1:=z00.mk (z1s (z0v.refl w g none) (.cells #[.string ⟨#[]⟩,.int .i64 0,.int .i64 0,.string ⟨#[]⟩] 60));have hN:=z00.mk (z1h w (.cells #[.string ⟨#[]⟩,.int .i64 0,.int .i64 0,.string ⟨#[]⟩] 60));obtain⟨n,en'⟩:∃n,w.heap.size=n:=⟨_,rfl⟩
 have hgn:z00 (g≠n):=⟨by have:=hI.lt;omega⟩
 have h0n:z00 (w0.heap.size≤n):=⟨by rw[←en'];exact hB.size⟩
 have h1n:z00 (w.heap.size≤n):=⟨by omega⟩
 rw[en']at hN;have HS:=z00.mk (z2a w0 _ g ts p en 0 (by omega) hI1 hB1);rw[Nat.add_zero]at HS;clear hE hI hB hI1 hB1;have HF:=z00.mk (z2y ts en p)
 generalize seeP ts en p=x at HS HF ⊢
 have hfd:∀w:World,(Instr.field 108 (.agg #[.int .i64 x.f0,.string x.f1,.int .i64 x.f2]) 0).run Tryz.prog w=.ok (.int .i64 x.f0) w:=fun _=>by kernel_rfl
 cases c2:(x.f0==2)with
 |true =>
  have hk2:(kindL (leftL ts p)==2)=true:=by rw[HF.out];exact c2
  rw[term_var _ hk2];obtain⟨r,hr0⟩:∃r,z4b (leftL ts p)=r:=⟨_,rfl⟩
  rw[hr0];have HR0:=z00.mk hr0;clear hr0;go_enter Tryz.func120,Tryz.ntmps120
  go_wp2_with fail
  refine HS.out.mono ?_;rintro e w1 ⟨rfl,i1,b1,k1⟩;have HN:=z5h w0 w1 g ts p en i1 b1;rw[HR0.out]at HN;have HN:=z00.mk HN;replace hN:=z00.mk (k1.blk hN.out hgn.out.symm (by simp));replace hK1:=z00.mk (hK1.out.trans k1 (.inl rfl));clear i1 b1 k1 HF HS hk2 HR0
  go_wp2_with fail
  refine HN.out.mono ?_;intro e w2 hp;rcases hp.split with ⟨y,p',v,rfl,rfl,rfl,R,B,K⟩|⟨q,i,p',rfl,h1,h2,rfl,R,B,K⟩
  · replace hN:=K.blk hN.out hgn.out.symm (by simp);have hf0:=z03 hN 0;have hf1:=z03 hN 1;have hf2:=z03 hN 2;have hf3:=z03 hN 3;have hd0:w2.cell? ⟨n,0,none⟩=some (.string ⟨#[]⟩):=(z01 hN 0).trans rfl;have hd1:w2.cell? ⟨n,1,none⟩=some (.int .i64 0):=(z01 hN 1).trans rfl;have hd2:w2.cell? ⟨n,2,none⟩=some (.int .i64 0):=(z01 hN 2).trans rfl;have hd3:w2.cell? ⟨n,3,none⟩=some (.string ⟨#[]⟩):=(z01 hN 3).trans rfl;obtain⟨P1,P2,P3,P4⟩:=zgh (n:=n) y.f0 y.f1.f0 y.f1.f1 y.f1.f2 R B (hK1.out.trans K (.inl rfl)) hN hgn.out h0n.out h1n.out;clear R B K hp hN;unfold tmV;go_wp2;refine bodyPost_ret (results_cell_row rfl _ _ n 60 #[.string y.f0,.int .i64 y.f1.f0,.int .i64 y.f1.f1,.string y.f1.f2] (0,0) _ rfl P1.out Tryz.underlying60 rfl (by kernel_rfl)) rfl ?_;exact⟨P3.out,P4.out,p',P2.out,rfl,_,rfl,rfl⟩
  · exact⟨rfl,Post.thrown_ h1 h2 R B (hK1.out.trans K (.inl rfl))⟩
 |false =>
  have hk2:(kindL (leftL ts p)==2)=false:=by rw[HF.out];exact c2
  rw[zfm _ hk2];have HP : z00 (z2n (leftL ts p) = true → p < ts.length) := ⟨fun h=>z4y fun e=>by
   rw[e]at h
   cases h⟩
  have HST:=z00.mk (fun w1 i1 b1=>z35 w0 w1 g ts p en i1 b1);obtain⟨fine,hf⟩:∃fine,z2n (leftL ts p)=fine:=⟨_,rfl⟩
  rw[hf]at HP HST ⊢;obtain⟨r,hr0⟩:∃r,nextP fine (leftL ts p)=r:=⟨_,rfl⟩
  rw[hr0];have HR0:=z00.mk hr0;clear hr0;go_enter Tryz.func120,Tryz.ntmps120
  go_wp2_with fail
  refine HS.out.mono ?_;rintro e w1 ⟨rfl,i1,b1,k1⟩;have HN:=z00.mk (HST.out w1 i1 b1);replace hN:=z00.mk (k1.blk hN.out hgn.out.symm (by simp));replace hK1:=z00.mk (hK1.out.trans k1 (.inl rfl));clear i1 b1 k1 HF HS hk2 hf HST
  go_wp2_with fail
  refine HN.out.mono ?_;rintro e w2 ⟨rfl,i2,b2,k2⟩;have HX:=z4t w0 w2 g ts p en fine HP.out i2 b2;rw[HR0.out]at HX;have HX:=z00.mk HX;replace hN:=z00.mk (k2.blk hN.out hgn.out.symm (by simp));replace hK1:=z00.mk (hK1.out.trans k2 (.inl rfl));clear i2 b2 k2 HN
  go_wp2_with fail
  refine HX.out.mono ?_;intro e w3 hp;rcases hp.split with ⟨y,p',v,rfl,rfl,rfl,R,B,K⟩|⟨q,i,p',rfl,h1,h2,rfl,R,B,K⟩
  · replace hN:=z00.mk (K.blk hN.out hgn.out.symm (by simp));replace hK1:=z00.mk (hK1.out.trans K (.inl rfl));have HY := z00.mk (z1r.calls y (readR y).1 (readR y).2.1 (readR y).2.2.1 (readR y).2.2.2 w3 (HE.out.1.below B) (read_f y (by
     obtain⟨x',hx',rfl⟩:=zfu HR0.out;exact HE.out.2 x' hx')))
    have hR:=z00.mk R;have hB:=z00.mk B;have hval:readV y=⟨(readR y).1,(readR y).2.1,(readR y).2.2.1⟩:=rfl
    generalize (readR y).1=r1 at HY hval
    generalize (readR y).2.1=r2 at HY hval
    generalize (readR y).2.2.1=r3 at HY hval
    generalize (readR y).2.2.2=r4 at HY
    have HV:=z00.mk hval;clear R B K hp HX hval
    go_wp2_with fail
    refine HY.out.mono ?_;rintro e w4 ⟨rfl,d⟩;have hN4:=z06 (z0h hN.out d) (.cells #[.int .i64 r1,.int .i64 r2,.string r3] 58);have hf0:=z03 hN4 0;have hf1:=z03 hN4 1;have hf2:=z03 hN4 2;have hf3:=z03 hN4 3;have hd0:(w4.alloc (.cells #[.int .i64 r1,.int .i64 r2,.string r3] 58)).cell? ⟨n,0,none⟩=some (.string ⟨#[]⟩):=(z01 hN4 0).trans rfl;have hd1:(w4.alloc (.cells #[.int .i64 r1,.int .i64 r2,.string r3] 58)).cell? ⟨n,1,none⟩=some (.int .i64 0):=(z01 hN4 1).trans rfl;have hd2:(w4.alloc (.cells #[.int .i64 r1,.int .i64 r2,.string r3] 58)).cell? ⟨n,2,none⟩=some (.int .i64 0):=(z01 hN4 2).trans rfl;have hd3:(w4.alloc (.cells #[.int .i64 r1,.int .i64 r2,.string r3] 58)).cell? ⟨n,3,none⟩=some (.string ⟨#[]⟩):=(z01 hN4 3).trans rfl;obtain⟨P1,P2,P3,P4⟩:=zgh (n:=n) ⟨#[]⟩ r1 r2 r3 ((hR.out.below d).alloc (.cells #[.int .i64 r1,.int .i64 r2,.string r3] 58)) (z04 (z0g hB.out d) _) (z1s (hK1.out.trans (z0v.of_below d g none) (.inl rfl)) _) hN4 hgn.out h0n.out h1n.out;clear d hN4 HY;go_wp2;refine bodyPost_ret (results_cell_row rfl _ _ n 60 #[.string ⟨#[]⟩,.int .i64 r1,.int .i64 r2,.string r3] (0,0) _ rfl P1.out Tryz.underlying60 rfl (by kernel_rfl)) rfl ?_;refine⟨P3.out,P4.out,p',P2.out,rfl,_,rfl,?_⟩;show _=tmV ⟨⟨#[]⟩,readV y⟩;rw[HV.out];rfl
  · exact⟨rfl,Post.thrown_ h1 h2 R B (hK1.out.trans K (.inl rfl))⟩

set_option maxRecDepth 100000 in
theorem za2 (s:ByteArray) (w:World) :
 Calls Tryz.prog 118 #[.string s] w fun e w'=>e=.returned (.int .i64 (foldL s.data.toList))∧w'=w:=by
 rw[←z3t];have hx0:∀w:World,(Instr.index 171 (.agg #[.string ⟨#[99,111,117,110,116]⟩,.string ⟨#[115,117,109]⟩,.string ⟨#[109,105,110]⟩,.string ⟨#[109,97,120]⟩,.string ⟨#[109,101,97,110]⟩]) (.int .i64 0)).run Tryz.prog w=.ok (.string ⟨#[99,111,117,110,116]⟩) w:=fun _=>by kernel_rfl
 have hx1:∀w:World,(Instr.index 171 (.agg #[.string ⟨#[99,111,117,110,116]⟩,.string ⟨#[115,117,109]⟩,.string ⟨#[109,105,110]⟩,.string ⟨#[109,97,120]⟩,.string ⟨#[109,101,97,110]⟩]) (.int .i64 1)).run Tryz.prog w=.ok (.string ⟨#[115,117,109]⟩) w:=fun _=>by kernel_rfl
 have hx2:∀w:World,(Instr.index 171 (.agg #[.string ⟨#[99,111,117,110,116]⟩,.string ⟨#[115,117,109]⟩,.string ⟨#[109,105,110]⟩,.string ⟨#[109,97,120]⟩,.string ⟨#[109,101,97,110]⟩]) (.int .i64 2)).run Tryz.prog w=.ok (.string ⟨#[109,105,110]⟩) w:=fun _=>by kernel_rfl
 have hx3:∀w:World,(Instr.index 171 (.agg #[.string ⟨#[99,111,117,110,116]⟩,.string ⟨#[115,117,109]⟩,.string ⟨#[109,105,110]⟩,.string ⟨#[109,97,120]⟩,.string ⟨#[109,101,97,110]⟩]) (.int .i64 3)).run Tryz.prog w=.ok (.string ⟨#[109,97,120]⟩) w:=fun _=>by kernel_rfl
 have hx4:∀w:World,(Instr.index 171 (.agg #[.string ⟨#[99,111,117,110,116]⟩,.string ⟨#[115,117,109]⟩,.string ⟨#[109,105,110]⟩,.string ⟨#[109,97,120]⟩,.string ⟨#[109,101,97,110]⟩]) (.int .i64 4)).run Tryz.prog w=.ok (.string ⟨#[109,101,97,110]⟩) w:=fun _=>by kernel_rfl
 by_cases h0:s.toList=[99,111,117,110,116]
 · have hv:foldL s.toList=1:=by rw[h0];rfl
   rw[hv];go_enter Tryz.func118,Tryz.ntmps118;go_wp2;refine wp_loop_rounds 1 ?_;rw[rounds_succ];go_wp2
   go_ret
   exact⟨rfl,rfl⟩
 by_cases h1:s.toList=[115,117,109]
 · have hv:foldL s.toList=2:=by rw[h1];rfl
   rw[hv];go_enter Tryz.func118,Tryz.ntmps118;go_wp2;refine wp_loop_rounds 2 ?_;rw[rounds_succ];go_wp2;rw[rounds_succ];go_wp2
   go_ret
   exact⟨rfl,rfl⟩
 by_cases h2:s.toList=[109,105,110]
 · have hv:foldL s.toList=3:=by rw[h2];rfl
   rw[hv];go_enter Tryz.func118,Tryz.ntmps118;go_wp2;refine wp_loop_rounds 3 ?_;rw[rounds_succ];go_wp2;rw[rounds_succ];go_wp2;rw[rounds_succ];go_wp2
   go_ret
   exact⟨rfl,rfl⟩
 by_cases h3:s.toList=[109,97,120]
 · have hv:foldL s.toList=4:=by rw[h3];rfl
   rw[hv];go_enter Tryz.func118,Tryz.ntmps118;go_wp2;refine wp_loop_rounds 4 ?_;rw[rounds_succ];go_wp2;rw[rounds_succ];go_wp2;rw[rounds_succ];go_wp2;rw[rounds_succ];go_wp2
   go_ret
   exact⟨rfl,rfl⟩
 by_cases h4:s.toList=[109,101,97,110]
 · have hv:foldL s.toList=5:=by rw[h4];rfl
   rw[hv];go_enter Tryz.func118,Tryz.ntmps118;go_wp2;refine wp_loop_rounds 5 ?_;rw[rounds_succ];go_wp2;rw[rounds_succ];go_wp2;rw[rounds_succ];go_wp2;rw[rounds_succ];go_wp2;rw[rounds_succ];go_wp2
   go_ret
   exact⟨rfl,rfl⟩
 have e0:(([99,111,117,110,116]:List UInt8)==s.toList)=false:=beq_eq_false_iff_ne.2 (Ne.symm h0);have e1:(([115,117,109]:List UInt8)==s.toList)=false:=beq_eq_false_iff_ne.2 (Ne.symm h1);have e2:(([109,105,110]:List UInt8)==s.toList)=false:=beq_eq_false_iff_ne.2 (Ne.symm h2);have e3:(([109,97,120]:List UInt8)==s.toList)=false:=beq_eq_false_iff_ne.2 (Ne.symm h3);have e4:(([109,101,97,110]:List UInt8)==s.toList)=false:=beq_eq_false_iff_ne.2 (Ne.symm h4);have hv:foldL s.toList=0:=by unfold foldL;rw[if_neg h0,if_neg h1,if_neg h2,if_neg h3,if_neg h4]
 rw[hv];go_enter Tryz.func118,Tryz.ntmps118;go_wp2;refine wp_loop_rounds 6 ?_;rw[rounds_succ];go_wp2;rw[rounds_succ];go_wp2;rw[rounds_succ];go_wp2;rw[rounds_succ];go_wp2;rw[rounds_succ];go_wp2;rw[rounds_succ];go_wp2
 go_ret
 exact⟨rfl,rfl⟩

theorem ze6 {P : Program} {ops : Array Oper} {Q : Exit → Act → World → Prop} {oi : Oper} {N : Option Tmp} {a : Act} {w : World} {K : Act → World → Prop} {f : FuncId} {fn : Func} {xs_ : Array Operand} {ts : Array TypeId} (hf : P.funcs[f]? = some fn) (hname : (fn.name == "runtime.NumGoroutine") = false) (hb : fn.body.isSome = true) (args : Array Value)
 (hw:Region.wanted oi (yielded ops a.tmps)=true) (hN:oi.dst=N) (hop:oi.op=.call { callee:=.value (.func f),args:=xs_,argTypes:=ts }) (hargs:xs_.map a.eval=args)
 (h:Calls P f args w fun e w'=>(∃v,e=.returned v∧K (a.put N v) w')∨(∃c,e=.panicked c∧Q (.panic c) a w')):if Region.wanted oi (yielded ops a.tmps)=true then Oper.wp P oi a w K Q else K (a.put N undef) w:=by
 have he:=zgc hf hname hb args w;have hrun:(execOp a.eval oi).run P w=.ok (.enter f args) w:=by
  unfold execOp
  simp[hop,resolve,Deferred.ofValue,invoke,Act.eval,hargs,he]
 rw[if_pos hw];subst hN;unfold Oper.wp;rw[hrun,Oper.upon_enter];refine h.mono fun e w'' hh=>?_
 rcases hh with ⟨v,rfl,hk⟩|⟨c,rfl,hk⟩
 · exact hk
 · exact hk
theorem Post.as {α:Type} {w0 w w':World} {g:Nat} {ts:List S108} {en:Int} {r r':Except (Nat × Int) (α × List TK)} {V:Value→World→α→Prop} {e:Ending} (h:r=r') (hp:Post w0 w g ts en r' V e w'):Post w0 w g ts en r V e w':=by
 subst h;exact hp
theorem Rd.le {w0 W:World} {g:Nat} {ts:List S108} {p:Nat} {en:Int} (h:Rd w0 W g ts p en):p≤ts.length:=by
 obtain⟨A,c,hb,hg,hr,h1,h2⟩:=h;exact h1
structure GM {α:Type} (d:Kd α) (e t:Nat) (cs:Value→Array Value) (z4:Array Value) (w0 w wr:World) (g n4 n6:Nat) (ts:List S108) (en:Int) (p:Nat) (acc:List α) (u:Value):Prop where
 R:Rd w0 wr g ts p en
 B:Below w0.heap.size w0 wr
 K:z0v w wr g none
 b4:wr.heap[n4]?=some (.cells z4 t (0,0))
 b6:wr.heap[n6]?=some (.cells (cs u) t (0,0))
 own:d.R e wr w.heap.size (fun k=>w.heap.size≤k∧k≠n4∧k≠n6) u acc
 h0:w0.heap.size≤w.heap.size
 gw:g<w.heap.size
 h4:w.heap.size≤n4
 h46:n4<n6
section
variable {α:Type} {d:Kd α} {e t:Nat} {cs:Value→Array Value} {z4:Array Value} {w0 w wr:World} {g n4 n6:Nat} {ts:List S108} {en:Int} {p:Nat} {acc:List α} {u:Value}
theorem GM.drew (h:GM d e t cs z4 w0 w wr g n4 n6 ts en p acc u):GM d e t cs z4 w0 w wr.drew g n4 n6 ts en p acc u :=
 ⟨h.R.drew,z05 h.B,zca h.K,z09 h.b4,z09 h.b6,Kd.R_drew h.own,h.h0,h.gw,h.h4,h.h46⟩
theorem GM.alloc (h:GM d e t cs z4 w0 w wr g n4 n6 ts en p acc u) (o:Obj):GM d e t cs z4 w0 w (wr.alloc o) g n4 n6 ts en p acc u :=
 ⟨h.R.alloc o,z04 h.B o,z1s h.K o,z06 h.b4 o,z06 h.b6 o,Kd.R_alloc h.own o,h.h0,h.gw,h.h4,h.h46⟩
theorem GM.call (h:GM d e t cs z4 w0 w wr g n4 n6 ts en p acc u) {w1:World} {p2:Nat} (hR:Rd w0 w1 g ts p2 en) (hB:Below w0.heap.size w0 w1) (hK:z0v wr w1 g none):GM d e t cs z4 w0 w w1 g n4 n6 ts en p2 acc u:=by
 have h1:=h.gw;have h2:=h.h4;have h3:=h.h46;exact⟨hR,hB,h.K.trans hK (.inl rfl),hK.blk h.b4 (by omega) (by simp),hK.blk h.b6 (by omega) (by simp),Kd.R_keep h.own hK (fun k hk=>by have:=hk.1;omega),h.h0,h.gw,h.h4,h.h46⟩
theorem GM.move (h:GM d e t cs z4 w0 w wr g n4 n6 ts en p acc u) (q:Nat) (hq:q≤ts.length):GM d e t cs z4 w0 w (wr.setCell ⟨g,1,none⟩ (.int .i64 q)) g n4 n6 ts en q acc u:=by
 have h1:=h.gw;have h2:=h.h4;have h3:=h.h46;exact⟨h.R.move q hq,z08 h.B h.R.ge,z0v.set_ h.K 1 _,z0w h.b4 (by show n4≠g;omega) _,z0w h.b6 (by show n6≠g;omega) _,Kd.R_far h.own (fun k hk=>by have:=hk.1;show k≠g;omega) _,h.h0,h.gw,h.h4,h.h46⟩
theorem GM.fresh (h:GM d e t cs z4 w0 w wr g n4 n6 ts en p acc u) {k:Nat} (hk:wr.heap.size≤k):w.heap.size≤k∧k≠n4∧k≠n6:=by
 have h1:=z1u h.b4;have h2:=z1u h.b6;have h3:=h.K.1;omega
theorem GM.ne4 (h:GM d e t cs z4 w0 w wr g n4 n6 ts en p acc u):some n4≠u.ownBlock:=fun he=>(h.own.1 _ he.symm).2.1 rfl
theorem GM.ne6 (h:GM d e t cs z4 w0 w wr g n4 n6 ts en p acc u):some n6≠u.ownBlock:=fun he=>(h.own.1 _ he.symm).2.2 rfl
theorem GM.neg (h:GM d e t cs z4 w0 w wr g n4 n6 ts en p acc u):some g≠u.ownBlock:=fun he=>by
 have h1:=(h.own.1 _ he.symm).1;have h2:=h.gw;omega
theorem GM.more (h:GM d e t cs z4 w0 w wr g n4 n6 ts en p acc u) {w2:World} {u':Value} {acc':List α} (j:Nat) (hcs:(cs u).setIfInBounds j u'=cs u') (ho:d.R e w2 w.heap.size (fun k=>w.heap.size≤k∧k≠n4∧k≠n6) u' acc') (hb:Below w0.heap.size w0 w2) (hg:wr.grownBy w2 u.ownBlock) :
 GM d e t cs z4 w0 w (w2.setCell ⟨n6,j,none⟩ u') g n4 n6 ts en p acc' u':=by
 have h1:=h.gw;have h2:=h.h4;have h3:=h.h46;have h5:=h.h0;refine⟨(h.R.grown hg h.neg).far (by show g≠n6;omega) _,z08 hb (by omega),z3n (h.K.trans (z0v.of_grown hg g) ?_) (by show w.heap.size≤n6;omega) _,z0w (z42 h.b4 hg h.ne4) zA1c _,z0l (z42 h.b6 hg h.ne6) j u' hcs,Kd.R_far ho (fun k hk=>hk.2.2) _,h5,h1,h2,h3⟩
 cases hu:u.ownBlock with
 |none=>exact .inl rfl
 |some b=>exact .inr ⟨b,rfl,(h.own.1 b hu).1⟩
end
def atomE (s:ByteArray) (a:List TmS × Int) (l:List TK):Except (Nat × Int) ((AtS × Int) × List TK):=bnd (wantP [41] l) fun _ r=>.ok ((⟨s,a.1⟩,a.2),r)
theorem zfz (head:Bool) (acc:List TmS) (l:List TK) (h:acc.length≤8):argsP head (9 - acc.length) acc l=if(acc.length==8&&z2n l)=true then .error (l.length,4)else if(head&&foldB l)=true then bnd (z4b (l.drop 2)) fun x r=>bnd (wantP [41] r) fun _ r=>.ok ((acc++[x],foldN l),r)else bnd (termP l) fun x r=>if mk0 r [44]then argsP head (8 - acc.length) (acc++[x]) (r.drop 1)else .ok ((acc++[x],0),r):=by
 obtain⟨n,hn⟩:∃n,8 - acc.length=n:=⟨_,rfl⟩
 rw[show 9 - acc.length=n+1 by omega,hn];have hb:(acc.length==8)=(n==0):=by
  by_cases h8:acc.length=8
  · rw[beq_iff_eq.2 h8,beq_iff_eq.2 (show n=0 by omega)]
  · rw[beq_eq_false_iff_ne.2 h8,beq_eq_false_iff_ne.2 (show n≠0 by omega)]
 rw[hb];rfl
theorem zcv {l:List TK} {x:TmS} {r:List TK} (h:termP l=.ok (x,r)):z2n l=true:=by
 cases hs:z2n l with
 |true=>rfl
 |false =>
  exfalso
  cases l with
  |nil=>cases h
  |cons t r =>
   simp only[z2n,Bool.or_eq_false_iff]at hs;simp only[termP,hs.1.1,hs.1.2,hs.2]at h
   cases h
theorem zem (ts:List S108) (en:Int) (p:Nat):foldB (leftL ts p)=((seeP ts en p).f0==1&&foldL (seeP ts en p).f1.data.toList !=0&&mk0 (leftL ts (p+1)) [40]):=by
 rcases Nat.lt_or_ge p ts.length with h|h
 · rw[z3k en h];rfl
 · obtain⟨h1,h2⟩:=z49 en h;rw[h1,h2];rfl
theorem zeg (ts:List S108) (en:Int) (p:Nat) (h:p<ts.length):foldN (leftL ts p)=foldL (seeP ts en p).f1.data.toList:=by
 rw[z3k en h];rfl
theorem z5b {ts:List S108} {p:Nat} {s:List UInt8} (h:mk0 (leftL ts p) s=true):p<ts.length:=z4y fun e=>by
 rw[e]at h
 cases h
def atom11.T:Bool × List (List Nat × List Nat):=(true,[([],[]),([0],[0]),([],[]),([2],[2]),([3],[3]),([1,4,3],[1,4]),([0,1,2,3,4,5],[]),([6,5,5,0,1,2,3,4,5],[5,6])])
def atom11.B:List Nat:=[0,1,0,4,12,31,63,127]
theorem atom11.tab:rtab .any (opsOf Tryz.f87 11)=atom11.T:=by kernel_rfl
theorem atom11.bits:z4j atom11.T.2 atom11.B=true:=by kernel_rfl
def atom13.T:Bool × List (List Nat × List Nat):=(true,[([],[]),([0],[0]),([],[]),([2],[2]),([3],[3]),([1,4,3],[1,4]),([0,1,2,3,4,5],[]),([6,5,5,0,1,2,3,4,5],[5,6])])
def atom13.B:List Nat:=[0,1,0,4,12,31,63,127]
theorem atom13.tab:rtab .any (opsOf Tryz.f87 13)=atom13.T:=by kernel_rfl
theorem atom13.bits:z4j atom13.T.2 atom13.B=true:=by kernel_rfl
def atV (w':World) (base:Nat) (v:Value) (x:AtS × Int):Prop:=∃u,v=.tuple #[.agg #[.string x.1.f0,u],.int .i64 x.2]∧Kd.R k60 60 w' base (fun k=>base≤k) u x.1.f1
abbrev AtM (s:ByteArray):=GM k60 60 25 (fun u=>#[.string s,u]) #[.string ⟨#[]⟩,.slice none 0 0]
theorem AtM.ends {s:ByteArray} {w0 w wr:World} {g n4 n6:Nat} {ts:List S108} {en:Int} {p:Nat} {acc:List TmS} {u:Value} (h:AtM s w0 w wr g n4 n6 ts en p acc u) (f:Int) {r:Except (Nat × Int) ((AtS × Int) × List TK)} (hr:r=.ok ((⟨s,acc⟩,f),leftL ts p)) :
 z00 (((wr.setCell ⟨n4,0,none⟩ (.string s)).setCell ⟨n4,1,none⟩ u).heap[n4]?=some (.cells #[.string s,u] 25 (0,0))) ∧
 z00 (Post w0 w g ts en r (fun v w' x=>atV w' w.heap.size v x) (.returned (.tuple #[.agg #[.string s,u],.int .i64 f])) ((wr.setCell ⟨n4,0,none⟩ (.string s)).setCell ⟨n4,1,none⟩ u)):=by
 have h1:=h.gw;have h2:=h.h4;have h3:=h.h0;refine⟨⟨z0l (cs:=#[.string s,.slice none 0 0]) (z0l h.b4 0 (.string s) rfl) 1 u rfl⟩,⟨z08 (z08 h.B (by omega)) (by omega),z3n (z3n h.K (by show w.heap.size≤n4;omega) _) (by show w.heap.size≤n4;omega) _,p,(h.R.far (by show g≠n4;omega) _).far (by show g≠n4;omega) _,?_⟩⟩;rw[hr];refine⟨rfl,_,rfl,u,rfl,Kd.R_mono (Kd.R_far (Kd.R_far h.own (fun k hk=>hk.2.1) _) (fun k hk=>hk.2.1) _) (fun k hk=>hk.1)⟩
set_option maxHeartbeats 4000000 in
set_option maxRecDepth 100000 in
theorem z6f (w0 w:World) (g:Nat) (ts:List S108) (p:Nat) (en:Int) (head:Bool) (hE:Env w0 ts) (hI:Rd w0 w g ts p en) (hB:Below w0.heap.size w0 w) :
 Calls Tryz.prog 87 #[.pointer (some ⟨g,0,none⟩),.bool head] w fun e w'=>Post w0 w g ts en (atomP head (leftL ts p)) (fun v w' x=>atV w' w.heap.size v x) e w':=by
 have HE:=z00.mk hE;have hI1:=hI.alloc (.cells #[.string ⟨#[]⟩,.slice none 0 0] 25);have hB1:=z04 hB (.cells #[.string ⟨#[]⟩,.slice none 0 0] 25);have hK1:=z00.mk (z1s (z0v.refl w g none) (.cells #[.string ⟨#[]⟩,.slice none 0 0] 25));have hN:=z00.mk (z1h w (.cells #[.string ⟨#[]⟩,.slice none 0 0] 25));obtain⟨n4,en4⟩:∃n,w.heap.size=n:=⟨_,rfl⟩
 have h0w:=z00.mk hB.size;have hgw:=z00.mk hI.lt;rw[en4]at hN;have HP:=z52 w0 _ g ts p en hI1 hB1;clear hE hI hB hI1 hB1;obtain⟨rp,hrp⟩:∃rp,z28 (leftL ts p)=rp:=⟨_,rfl⟩
 rw[hrp]at HP;obtain⟨r,hr⟩:∃r,atomP head (leftL ts p)=r:=⟨_,rfl⟩
 rw[hr];have HA:=z00.mk (show r=bnd rp fun s r=>if mk0 r [40]then bnd (argsP head 9 [] (r.drop 1)) fun a r=>bnd (wantP [41] r) fun _ r=>.ok ((⟨s,a.1⟩,a.2),r)else .ok ((⟨s,[]⟩,0),r) by rw[←hr,←hrp];rfl);have HP:=z00.mk HP;clear hr hrp;go_enter Tryz.func87,Tryz.ntmps87
 go_wp2_with fail
 refine HP.out.mono ?_;intro e w1 hp;rcases hp.split with ⟨s,p1,v,rfl,rfl,rfl,R,B,K⟩|⟨q,i,p1,rfl,h1,h2,rfl,R,B,K⟩
 case inr=>exact⟨rfl,Post.as HA.out (Post.thrown_ h1 h2 R B (hK1.out.trans K (.inl rfl)))⟩
 obtain⟨n6,en6⟩:∃n,w1.heap.size=n:=⟨_,rfl⟩
 have hgn:g≠n4:=by have:=hgw.out;omega
 have hb4:=K.blk hN.out hgn.symm (by simp);have hN6:=z1h w1 (.cells #[.string s,.slice none 0 0] 25);rw[en6]at hN6;have HM:=z00.mk (show AtM s w0 w (w1.alloc (.cells #[.string s,.slice none 0 0] 25)) g n4 n6 ts en p1 [] (.slice none 0 0)from⟨R.alloc _,z04 B _,z1s (hK1.out.trans K (.inl rfl)) _,z06 hb4 _,hN6,Kd.R_nil _ _ _ _ _,h0w.out,hgw.out,by omega,by have:=z1u hb4;omega⟩);clear R B K hp hb4 hN6 hK1 hN HP;have HS:=z00.mk (z1o w0 _ g ts p1 en ⟨#[40]⟩ HM.out.R HM.out.B);rw[z1q]at HS
 cases hm:mk0 (leftL ts p1) [40]with
 |false =>
  have HA2:=z00.mk (show r=.ok ((⟨s,[]⟩,0),leftL ts p1) by rw[HA.out];show(if mk0 (leftL ts p1) [40]=true then _ else _)=_;rw[hm];rfl);rw[show((⟨#[40]⟩:ByteArray).data.toList)=[40]from rfl,hm]at HS;clear HA
  go_wp2_with fail
  refine HS.out.mono ?_;rintro e w2 ⟨rfl,R,B,K⟩;simp only[Bool.false_eq_true,if_false]at R;replace HM:=z00.mk (HM.out.call R B K);clear R B K;have hc60:w2.cell? ⟨n6,0,none⟩=some (.string s):=(z01 HM.out.b6 0).trans rfl;have hc61:w2.cell? ⟨n6,1,none⟩=some (.slice none 0 0):=(z01 HM.out.b6 1).trans rfl;have hc40:w2.cell? ⟨n4,0,none⟩=some (.string ⟨#[]⟩):=(z01 HM.out.b4 0).trans rfl;have hc41:w2.cell? ⟨n4,1,none⟩=some (.slice none 0 0):=(z01 HM.out.b4 1).trans rfl;have hf40:=z03 HM.out.b4 0;have hf41:=z03 HM.out.b4 1;go_wp2;obtain⟨P1,P2⟩:=AtM.ends HM.out 0 HA2.out;refine bodyPost_ret (z1w rfl _ _ n4 25 #[.string s,.slice none 0 0] (0,0) _ rfl P1.out Tryz.underlying25 rfl (by kernel_rfl)) rfl ?_;exact P2.out
 |true =>
  have HQ:=z00.mk (show r=bnd (argsP head (9 - ([]:List TmS).length) [] (leftL ts (p1+1))) (atomE s) by rw[HA.out];show(if mk0 (leftL ts p1) [40]=true then _ else _)=_;rw[hm,z0y];rfl);rw[show((⟨#[40]⟩:ByteArray).data.toList)=[40]from rfl,hm]at HS;have hp1:=z5b hm;clear HA
  go_wp2_with fail
  refine HS.out.mono ?_;rintro e w2 ⟨rfl,R,B,K⟩;simp only[if_true]at R;replace HM:=z00.mk (HM.out.call R B K);clear R B K HS;go_wp2
  go_loopg [7] 9 (fun kq v7 w'=>∃(acc:List TmS) (p':Nat) (u:Value),v7=.int .i64 0∧acc.length+kq=9∧acc.length≤8∧z00 (r=bnd (argsP head (9 - acc.length) acc (leftL ts p')) (atomE s))∧z00 (AtM s w0 w w' g n4 n6 ts en p' acc u))
  case atStart=>exact⟨[],p1+1,_,rfl,rfl,by simp,HQ,HM⟩
  case round =>
   clear HQ HM hm hp1;obtain⟨acc,p',u,rfl,hk9,hl8,HQ,HM⟩:=hrel
   cases gk with
   |zero=>exact absurd hk9 (by omega)
   |succ k1 =>
   have HLEN:=z00.mk hl8;replace HQ:=z00.mk (HQ.out.trans (by rw[zfz head acc _ hl8]));obtain⟨A,c,rfl⟩:=Kd.R_slice HM.out.own;have hc60:wr.cell? ⟨n6,0,none⟩=some (.string s):=(z01 HM.out.b6 0).trans rfl;have hc61:wr.cell? ⟨n6,1,none⟩=some (.slice A acc.length c):=(z01 HM.out.b6 1).trans rfl;have HST:=z00.mk (z35 w0 wr g ts p' en HM.out.R HM.out.B);obtain⟨st,hst⟩:∃st,z2n (leftL ts p')=st:=⟨_,rfl⟩
   rw[hst]at HST HQ;have HSC:=HST;replace HST:=z00.mk hst.symm;clear hst
   go_upto_region 5 with (fail)
   go_cut [23] (fun v23 wc=>v23=.bool (acc.length==8&&st)∧z00 (AtM s w0 w wc g n4 n6 ts en p' acc (.slice A acc.length c)))
   case first =>
    by_cases h8:acc.length=8
    · have c0:((acc.length:Int)==8)=true:=beq_iff_eq.2 (by omega);have c1:(acc.length==8)=true:=beq_iff_eq.2 h8
      go_wp2_with fail
      refine HSC.out.mono ?_;rintro e w3 ⟨rfl,R,B,K⟩;have HM2:=z00.mk (HM.out.call R B K);clear R B K;go_wp2;go_meet
      case rel=>exact⟨by rw[c1];rfl,HM2⟩
    · have c0:((acc.length:Int)==8)=false:=beq_eq_false_iff_ne.2 (by omega);have c1:(acc.length==8)=false:=beq_eq_false_iff_ne.2 h8;go_wp2;go_meet
      case rel=>exact⟨by rw[c1];rfl,HM⟩
   case rest =>
    clear HM hc60 hc61;obtain⟨rfl,HM⟩:=hcut;obtain⟨fl,hfl⟩:∃fl,(acc.length==8&&st)=fl:=⟨_,rfl⟩
    rw[hfl]at HQ ⊢;have HFL:=z00.mk hfl;clear hfl HSC
    cases fl with
    |true =>
     have HF:=z00.mk (z47 w0 wc g ts p' en 4 HM.out.R HM.out.B)
     go_wp2_with fail
     refine HF.out.mono ?_;rintro e w3 ⟨rfl,R,B,K⟩;exact⟨rfl,Post.as (by rw[HQ.out];rfl) (Post.thrown_ (q:=((leftL ts p').length,4)) (i:=p') R.le (z13 ts p').symm R B (HM.out.K.trans K (.inl rfl)))⟩
    |false =>
    simp only[Bool.false_eq_true,if_false,z0y]at HQ;obtain⟨x,hx⟩:∃x,seeP ts en p'=x:=⟨_,rfl⟩
    have HS2:=z00.mk (z2a w0 wc g ts p' en 0 (by omega) HM.out.R HM.out.B);have HFB:=z00.mk (zem ts en p');rw[Nat.add_zero]at HS2;rw[hx]at HS2 HFB;have HXX:=z00.mk hx;clear hx
    go_wp2_with fail
    refine HS2.out.mono ?_;rintro e w3 ⟨rfl,R,B,K⟩;obtain⟨n8,en8⟩:∃n,w3.heap.size=n:=⟨_,rfl⟩
    have HGN:=z00.mk (show g<n8 by have:=R.lt;omega);have hX:=z1h w3 (.cells #[.int .i64 x.f0,.string x.f1,.int .i64 x.f2] 108);rw[en8]at hX;have HX:=z00.mk hX;replace HM:=z00.mk ((HM.out.call R B K).alloc (.cells #[.int .i64 x.f0,.string x.f1,.int .i64 x.f2] 108));clear R B K HS2 hX
    go_upto_region 8 with (fail)
    generalize w3.alloc (.cells #[.int .i64 x.f0,.string x.f1,.int .i64 x.f2] 108)=w4 at HM HX ⊢
    have hx0:w4.cell? ⟨n8,0,none⟩=some (.int .i64 x.f0):=(z01 HX.out 0).trans rfl;have hx1:w4.cell? ⟨n8,1,none⟩=some (.string x.f1):=(z01 HX.out 1).trans rfl
    go_cut [43] (fun v43 wd=>v43=.bool (head&&foldB (leftL ts p'))∧z00 (wd.heap[n8]?=some (.cells #[.int .i64 x.f0,.string x.f1,.int .i64 x.f2] 108 (0,0)))∧z00 (AtM s w0 w wd g n4 n6 ts en p' acc (.slice A acc.length c)))
    case first =>
     have HFC:=z00.mk (fun W=>za2 x.f1 W);have HMK:=z00.mk (z6b w0 w4 g ts p' en 1 ⟨#[40]⟩ (by omega) HM.out.R HM.out.B);rw[z1q,show((⟨#[40]⟩:ByteArray).data.toList)=[40]from rfl]at HMK;obtain⟨m1,hm1⟩:∃m,mk0 (leftL ts (p'+1)) [40]=m:=⟨_,rfl⟩
     rw[hm1]at HMK HFB;obtain⟨fd,hfd⟩:∃m,foldL x.f1.data.toList=m:=⟨_,rfl⟩
     rw[hfd]at HFB HFC;have hb:=HFB.out;clear HFB
     cases head with
     |false =>
      go_wp2;go_meet
      case rel=>exact⟨rfl,HX,HM⟩
     |true =>
      cases c1:(x.f0==1)with
      |false =>
       rw[c1,Bool.false_and,Bool.false_and]at hb;go_wp2;go_meet
       case rel=>exact⟨by rw[hb];rfl,HX,HM⟩
      |true =>
       rw[c1,Bool.true_and]at hb
       cases c2:(fd !=0)with
       |false =>
        rw[c2,Bool.false_and]at hb
        go_wp2_with (go_at_call 118;refine(HFC.out _).mono ?_;rintro e w' ⟨rfl,rfl⟩)
        go_meet
        case rel=>exact⟨by rw[hb];rfl,HX,HM⟩
       |true =>
        rw[c2,Bool.true_and]at hb
        go_wp2_with (go_at_call 118;refine(HFC.out _).mono ?_;rintro e w' ⟨rfl,rfl⟩)
        refine HMK.out.mono ?_;rintro e w5 ⟨rfl,R,B,K⟩;have HM5:=z00.mk (HM.out.call R B K);have HX5:=z00.mk (K.blk HX.out (by have h1:=HM.out.gw;have h2:=HM.out.h4;have h3:=HM.out.h46;have h4:=HM.out.R.lt;have h5:=HGN.out;omega) (by simp));clear R B K;go_wp2;go_meet
        case rel=>exact⟨by rw[hb];rfl,HX5,HM5⟩
    case rest =>
     clear HM HX hx0 hx1;obtain⟨rfl,HX,HM⟩:=hcut;obtain⟨hf,hhf⟩:∃b,(head&&foldB (leftL ts p'))=b:=⟨_,rfl⟩
     rw[hhf]at HQ ⊢;have HHF:=z00.mk hhf;clear hhf
     cases hf with
     |true =>
      simp only[if_true]at HQ;have hfb:foldB (leftL ts p')=true:=by
       have h1:=HHF.out;simp only[Bool.and_eq_true]at h1;exact h1.2
      have hm1:mk0 (leftL ts (p'+1)) [40]=true:=by
       have h1:=HFB.out;rw[hfb]at h1;simp only[Bool.true_eq,Bool.and_eq_true]at h1;exact h1.2
      have hp2:=z5b hm1;have hfn:foldN (leftL ts p')=foldL x.f1.data.toList:=by rw[zeg ts en p' (by omega),HXX.out]
      rw[hfn]at HQ;have HFC:=z00.mk (fun W=>za2 x.f1 W);obtain⟨fd,hfd⟩:∃m,foldL x.f1.data.toList=m:=⟨_,rfl⟩
      rw[hfd]at HQ HFC;clear hfb hm1 hfn hfd HFB HHF HXX;have hx1:wc.cell? ⟨n8,1,none⟩=some (.string x.f1):=(z01 HX.out 1).trans rfl;obtain⟨Ag,cg,hbg,_⟩:=HM.out.R;have hcg:wc.cell? ⟨g,1,none⟩=some (.int .i64 p'):=(z01 hbg 1).trans rfl;have hfg:=z03 hbg 1;clear hbg HX;replace HM:=z00.mk (HM.out.move (p'+2) (by omega));rw[show((p'+2:Nat):Int)=(p':Int)+2 by omega]at HM
      go_wp2_with (go_at_call 118;refine(HFC.out _).mono ?_;rintro e w' ⟨rfl,he⟩;obtain rfl:=he.symm)
      generalize wc.setCell ⟨g,1,none⟩ (.int .i64 ((p':Int)+2))=we at HM ⊢
      replace HM:=z00.mk HM.out.drew;refine z78 (n:=8) (S:=fun w'=>w'.cell? ⟨n6,1,none⟩=some (.slice A acc.length c)) (ds:=[7]) #[false,false,false,false,false,false,false,false] (by kernel_rfl) rfl rfl ((z01 HM.out.b6 1).trans rfl) (fun hHeld=>?_);refine z4a atom11.tab atom11.bits (fun HT_ HW_=>?_)
      generalize we.drew=w1 at HM hHeld ⊢
      refine pure_ (i:=0) (N:=some 54) (v:=?_) (a':=?_) #[true,false,false,false,false,false,false,false] rfl rfl (z2l HT_.out (by kernel_rfl)) (fun _ _ _ h=>h) (Or.inl ⟨by rfl,?_⟩) ?_ ?_
      rotate_left
      · intro w'
        go_simp
        with_reducible rfl
      rotate_left
      · simp only[Act.put,List.setIfInBounds_toArray,List.set_cons_zero,List.set_cons_succ,i64_w,i32_w];rfl
      refine pure_ (i:=2) (N:=some 56) (v:=?_) (a':=?_) #[true,false,true,false,false,false,false,false] rfl rfl (z2l HT_.out (by kernel_rfl)) (fun _ _ _ h=>h) (Or.inl ⟨by rfl,?_⟩) ?_ ?_
      rotate_left
      · intro w'
        go_simp
        with_reducible rfl
      rotate_left
      · simp only[Act.put,List.setIfInBounds_toArray,List.set_cons_zero,List.set_cons_succ,i64_w,i32_w];rfl
      refine take_ (i:=1) (N:=some 55) (v:=?_) (a':=?_) #[true,true,true,false,false,false,false,false] rfl rfl (z2v HT_.out HW_.out (by kernel_rfl)) (fun _ _ _ h=>h) (Or.inl ⟨by rfl,?_⟩) hHeld ?_ ?_
      rotate_left
      · rintro w' s1
        go_simp
        with_reducible rfl
      rotate_left
      · simp only[Act.put,List.setIfInBounds_toArray,List.set_cons_zero,List.set_cons_succ,i64_w,i32_w];rfl
      refine one_ (i:=3) (N:=some 57) #[true,true,true,true,false,false,false,false] rfl rfl (z2w HT_.out (by kernel_rfl)) (by decide) (fun K hK=>?_);refine ze6 Tryz.func119 (by kernel_rfl) rfl #[.pointer (some ⟨g,0,none⟩)] (by rfl) rfl rfl zA0w ?_;refine(z5h w0 w1 g ts (p'+2) en HM.out.R HM.out.B).mono ?_;intro e w2 hp;rcases hp.split with ⟨y,p2,v,er,rfl,hv,R,B,Kk⟩|⟨q,i,p2,er,h1,h2,rfl,R,B,Kk⟩
      case inr=>exact .inr ⟨_,rfl,rfl,Post.as (by rw[HQ.out,er];rfl) (Post.thrown_ h1 h2 R B (HM.out.K.trans Kk (.inl rfl)))⟩
      obtain rfl:=hv;refine .inl ⟨_,rfl,?_⟩;have HER:=z00.mk er;replace HM:=z00.mk (HM.out.call R B Kk);clear R B Kk hp er;refine hK.out _ _ ((z01 HM.out.b6 1).trans rfl) (fun hHeld=>?_);clear hK K;refine norm_ (a':=?_) ?_ ?_
      rotate_left
      · show Act.put _ (some 57) _=_;simp only[Act.put,List.setIfInBounds_toArray,List.set_cons_zero,List.set_cons_succ,i64_w,i32_w];rfl
      simp only[tmV];refine one_ (i:=4) (N:=some 58) #[true,true,true,true,true,false,false,false] rfl rfl (z2w HT_.out (by kernel_rfl)) (by decide) (fun K hK=>?_);refine zba (w1:=?_) (v:=?_) (by rfl) rfl ?_ ?_
      rotate_left 2
      · go_simp
        constructor
        · rfl
        · rfl
      refine hK.out _ _ ((z01 (z06 HM.out.b6 _) 1).trans rfl) (fun hHeld=>?_);clear hK K;refine norm_ (a':=?_) ?_ ?_
      rotate_left
      · show Act.put _ (some 58) _=_;simp only[Act.put,List.setIfInBounds_toArray,List.set_cons_zero,List.set_cons_succ,i64_w,i32_w];rfl
      refine one_ (i:=5) (N:=some 59) #[true,true,true,true,true,true,false,false] rfl rfl (z2w HT_.out (by kernel_rfl)) (by decide) (fun K hK=>?_);refine Kd.R_append_step k60 w.heap.size (by rfl) (.tmp 55) (.tmp 58) 23 60 (.agg #[(.string ⟨#[]⟩),(.int .i64 0),(.int .i64 0),(.string ⟨#[]⟩)]) 48 rfl Tryz.underlying23 info60 rfl (by decide) (by omega) (.slice A acc.length c) acc y [.string y.f0,.int .i64 y.f1.f0,.int .i64 y.f1.f1,.string y.f1.f2] (fun k=>w.heap.size≤k∧k≠n4∧k≠n6) (fun _=>False) rfl rfl (z8a _ _ _ y) (fun _ hk=>hk.elim) (fun k hk=>HM.out.fresh hk) HM.out.own (Below.refl _ _) HM.out.K.1 (by have:=HLEN.out;omega) ?_;intro u' w3 ho hb hg hat;obtain⟨A',c',eu⟩:=Kd.R_slice ho;rw[List.length_append,List.length_singleton]at eu;subst eu;have HM3:=z00.mk (HM.out.more (u':=.slice A' (acc.length+1) c') 1 rfl ho (z4m HM.out.B HM.out.h0 hb) hg);have HB6:=z42 HM.out.b6 hg HM.out.ne6;refine hK.out _ _ ((z01 HB6 1).trans rfl) (fun hHeld=>?_);clear hK K;refine norm_ (a':=?_) ?_ ?_
      rotate_left
      · show Act.put _ (some 59) _=_;simp only[Act.put,List.setIfInBounds_toArray,List.set_cons_zero,List.set_cons_succ,i64_w,i32_w];rfl
      refine pure_ (i:=6) (N:=some 60) (v:=?_) (a':=?_) #[true,true,true,true,true,true,true,false] rfl rfl (z2l HT_.out (by kernel_rfl)) (fun _ _ _ h=>h) (Or.inl ⟨by rfl,?_⟩) ?_ ?_
      rotate_left
      · intro w'
        go_simp
        with_reducible rfl
      rotate_left
      · simp only[Act.put,List.setIfInBounds_toArray,List.set_cons_zero,List.set_cons_succ,i64_w,i32_w];rfl
      refine last_ (i:=7) (N:=none) #[true,true,true,true,true,true,true,true] rfl rfl (z2w HT_.out (by kernel_rfl)) (by decide) (fun K hK=>?_);have hs6:w3.cell? ⟨n6,1,none⟩=some (.slice A acc.length c):=(z01 HB6 1).trans rfl;have hsf6:=z03 HB6 1;refine skip_ (w1:=?_) (by rfl) rfl ?_ ?_
      rotate_left
      · go_simp
        rfl
      refine hK.out _ _ ?_;clear hK K;refine done_ (z5v HT_.out (by kernel_rfl)) ?_;clear HM hs6 hsf6 HB6 ho hb hg hat hHeld HT_ HW_;have HM:=HM3;clear HM3
      generalize w3.setCell ⟨n6,1,none⟩ (.slice A' (acc.length+1) c')=w4 at HM ⊢
      replace HQ:=z00.mk (HQ.out.trans (by rw[HER.out];rfl:_=bnd (bnd (wantP [41] (leftL ts p2)) fun _ r=>.ok ((acc++[y],fd),r)) (atomE s)));clear HER;have HW3:=z00.mk (show Calls Tryz.prog 88 #[.pointer (some ⟨g,0,none⟩),.string ⟨#[41]⟩] w4 fun e w'=>Post w0 w4 g ts en (wantP [41] (leftL ts p2)) (fun v _ _=>v=.tuple #[]) e w' from z3f w0 w4 g ts p2 en ⟨#[41]⟩ HM.out.R HM.out.B)
      go_wp2_with fail
      refine HW3.out.mono ?_;intro e w5 hp;rcases hp.split with ⟨y2,p3,v2,ew,rfl,rfl,R,B,K⟩|⟨q,i,p3,ew,h1,h2,rfl,R,B,K⟩
      case inr=>exact⟨rfl,Post.as (by rw[HQ.out,ew];rfl) (Post.thrown_ h1 h2 R B (HM.out.K.trans K (.inl rfl)))⟩
      replace HQ:=z00.mk (HQ.out.trans (by rw[ew];rfl:_=bnd (.ok ((acc++[y],fd),leftL ts p3)) (atomE s)));replace HM:=z00.mk (HM.out.call R B K);clear R B K hp HW3 ew;replace HQ:=z00.mk (show r=bnd (wantP [41] (leftL ts p3)) (fun _ r=>.ok ((⟨s,acc++[y]⟩,fd),r))from HQ.out);have HW2:=z00.mk (show Calls Tryz.prog 88 #[.pointer (some ⟨g,0,none⟩),.string ⟨#[41]⟩] w5 fun e w'=>Post w0 w5 g ts en (wantP [41] (leftL ts p3)) (fun v _ _=>v=.tuple #[]) e w' from z3f w0 w5 g ts p3 en ⟨#[41]⟩ HM.out.R HM.out.B)
      go_wp2_with fail
      refine HW2.out.mono ?_;intro e w6 hp;rcases hp.split with ⟨y2,p4,v2,ew2,rfl,rfl,R,B,K⟩|⟨q,i,p4,ew2,h1,h2,rfl,R,B,K⟩
      case inr=>exact⟨rfl,Post.as (by rw[HQ.out,ew2];rfl) (Post.thrown_ h1 h2 R B (HM.out.K.trans K (.inl rfl)))⟩
      replace HQ:=z00.mk (show r=.ok ((⟨s,acc++[y]⟩,fd),leftL ts p4) by rw[HQ.out,ew2];rfl);replace HM:=z00.mk (HM.out.call R B K);clear R B K hp HW2 ew2;have hd60:w6.cell? ⟨n6,0,none⟩=some (.string s):=(z01 HM.out.b6 0).trans rfl;have hd61:w6.cell? ⟨n6,1,none⟩=some (.slice A' (acc.length+1) c'):=(z01 HM.out.b6 1).trans rfl;have hd40:w6.cell? ⟨n4,0,none⟩=some (.string ⟨#[]⟩):=(z01 HM.out.b4 0).trans rfl;have hd41:w6.cell? ⟨n4,1,none⟩=some (.slice none 0 0):=(z01 HM.out.b4 1).trans rfl;have hg40:=z03 HM.out.b4 0;have hg41:=z03 HM.out.b4 1;obtain⟨P1,P2⟩:=AtM.ends HM.out (fd) HQ.out;obtain⟨ln,hln⟩:∃ln,acc.length+1=ln:=⟨_,rfl⟩
      rw[hln]at hd61 P1 P2;go_wp2;refine bodyPost_ret (z1w rfl _ _ n4 25 #[.string s,.slice A' ln c'] (0,0) _ rfl P1.out Tryz.underlying25 rfl (by kernel_rfl)) rfl ?_;exact P2.out
     |false =>
      simp only[Bool.false_eq_true,if_false]at HQ;clear HFB HX HHF;go_wp2;replace HM:=z00.mk HM.out.drew;refine z78 (n:=8) (S:=fun w'=>w'.cell? ⟨n6,1,none⟩=some (.slice A acc.length c)) (ds:=[7]) #[false,false,false,false,false,false,false,false] (by kernel_rfl) rfl rfl ((z01 HM.out.b6 1).trans rfl) (fun hHeld=>?_);refine z4a atom13.tab atom13.bits (fun HT_ HW_=>?_)
      generalize wc.drew=w1 at HM hHeld ⊢
      refine pure_ (i:=0) (N:=some 63) (v:=?_) (a':=?_) #[true,false,false,false,false,false,false,false] rfl rfl (z2l HT_.out (by kernel_rfl)) (fun _ _ _ h=>h) (Or.inl ⟨by rfl,?_⟩) ?_ ?_
      rotate_left
      · intro w'
        go_simp
        with_reducible rfl
      rotate_left
      · simp only[Act.put,List.setIfInBounds_toArray,List.set_cons_zero,List.set_cons_succ,i64_w,i32_w];rfl
      refine pure_ (i:=2) (N:=some 65) (v:=?_) (a':=?_) #[true,false,true,false,false,false,false,false] rfl rfl (z2l HT_.out (by kernel_rfl)) (fun _ _ _ h=>h) (Or.inl ⟨by rfl,?_⟩) ?_ ?_
      rotate_left
      · intro w'
        go_simp
        with_reducible rfl
      rotate_left
      · simp only[Act.put,List.setIfInBounds_toArray,List.set_cons_zero,List.set_cons_succ,i64_w,i32_w];rfl
      refine take_ (i:=1) (N:=some 64) (v:=?_) (a':=?_) #[true,true,true,false,false,false,false,false] rfl rfl (z2v HT_.out HW_.out (by kernel_rfl)) (fun _ _ _ h=>h) (Or.inl ⟨by rfl,?_⟩) hHeld ?_ ?_
      rotate_left
      · rintro w' s1
        go_simp
        with_reducible rfl
      rotate_left
      · simp only[Act.put,List.setIfInBounds_toArray,List.set_cons_zero,List.set_cons_succ,i64_w,i32_w];rfl
      refine one_ (i:=3) (N:=some 66) #[true,true,true,true,false,false,false,false] rfl rfl (z2w HT_.out (by kernel_rfl)) (by decide) (fun K hK=>?_);refine ze6 Tryz.func120 (by kernel_rfl) rfl #[.pointer (some ⟨g,0,none⟩)] (by rfl) rfl rfl zA0w ?_;refine(z44 w0 w1 g ts p' en HE.out HM.out.R HM.out.B).mono ?_;intro e w2 hp;rcases hp.split with ⟨y,p2,v,er,rfl,hv,R,B,Kk⟩|⟨q,i,p2,er,h1,h2,rfl,R,B,Kk⟩
      case inr=>exact .inr ⟨_,rfl,rfl,Post.as (by rw[HQ.out,er];rfl) (Post.thrown_ h1 h2 R B (HM.out.K.trans Kk (.inl rfl)))⟩
      obtain rfl:=hv;refine .inl ⟨_,rfl,?_⟩;have HER:=z00.mk er;replace HM:=z00.mk (HM.out.call R B Kk);clear R B Kk hp er;refine hK.out _ _ ((z01 HM.out.b6 1).trans rfl) (fun hHeld=>?_);clear hK K;refine norm_ (a':=?_) ?_ ?_
      rotate_left
      · show Act.put _ (some 66) _=_;simp only[Act.put,List.setIfInBounds_toArray,List.set_cons_zero,List.set_cons_succ,i64_w,i32_w];rfl
      simp only[tmV];refine one_ (i:=4) (N:=some 67) #[true,true,true,true,true,false,false,false] rfl rfl (z2w HT_.out (by kernel_rfl)) (by decide) (fun K hK=>?_);refine zba (w1:=?_) (v:=?_) (by rfl) rfl ?_ ?_
      rotate_left 2
      · go_simp
        constructor
        · rfl
        · rfl
      refine hK.out _ _ ((z01 (z06 HM.out.b6 _) 1).trans rfl) (fun hHeld=>?_);clear hK K;refine norm_ (a':=?_) ?_ ?_
      rotate_left
      · show Act.put _ (some 67) _=_;simp only[Act.put,List.setIfInBounds_toArray,List.set_cons_zero,List.set_cons_succ,i64_w,i32_w];rfl
      refine one_ (i:=5) (N:=some 68) #[true,true,true,true,true,true,false,false] rfl rfl (z2w HT_.out (by kernel_rfl)) (by decide) (fun K hK=>?_);refine Kd.R_append_step k60 w.heap.size (by rfl) (.tmp 64) (.tmp 67) 23 60 (.agg #[(.string ⟨#[]⟩),(.int .i64 0),(.int .i64 0),(.string ⟨#[]⟩)]) 48 rfl Tryz.underlying23 info60 rfl (by decide) (by omega) (.slice A acc.length c) acc y [.string y.f0,.int .i64 y.f1.f0,.int .i64 y.f1.f1,.string y.f1.f2] (fun k=>w.heap.size≤k∧k≠n4∧k≠n6) (fun _=>False) rfl rfl (z8a _ _ _ y) (fun _ hk=>hk.elim) (fun k hk=>HM.out.fresh hk) HM.out.own (Below.refl _ _) HM.out.K.1 (by have:=HLEN.out;omega) ?_;intro u' w3 ho hb hg hat;obtain⟨A',c',eu⟩:=Kd.R_slice ho;rw[List.length_append,List.length_singleton]at eu;subst eu;have HM3:=z00.mk (HM.out.more (u':=.slice A' (acc.length+1) c') 1 rfl ho (z4m HM.out.B HM.out.h0 hb) hg);have HB6:=z42 HM.out.b6 hg HM.out.ne6;refine hK.out _ _ ((z01 HB6 1).trans rfl) (fun hHeld=>?_);clear hK K;refine norm_ (a':=?_) ?_ ?_
      rotate_left
      · show Act.put _ (some 68) _=_;simp only[Act.put,List.setIfInBounds_toArray,List.set_cons_zero,List.set_cons_succ,i64_w,i32_w];rfl
      refine pure_ (i:=6) (N:=some 69) (v:=?_) (a':=?_) #[true,true,true,true,true,true,true,false] rfl rfl (z2l HT_.out (by kernel_rfl)) (fun _ _ _ h=>h) (Or.inl ⟨by rfl,?_⟩) ?_ ?_
      rotate_left
      · intro w'
        go_simp
        with_reducible rfl
      rotate_left
      · simp only[Act.put,List.setIfInBounds_toArray,List.set_cons_zero,List.set_cons_succ,i64_w,i32_w];rfl
      refine last_ (i:=7) (N:=none) #[true,true,true,true,true,true,true,true] rfl rfl (z2w HT_.out (by kernel_rfl)) (by decide) (fun K hK=>?_);have hs6:w3.cell? ⟨n6,1,none⟩=some (.slice A acc.length c):=(z01 HB6 1).trans rfl;have hsf6:=z03 HB6 1;refine skip_ (w1:=?_) (by rfl) rfl ?_ ?_
      rotate_left
      · go_simp
        rfl
      refine hK.out _ _ ?_;clear hK K;refine done_ (z5v HT_.out (by kernel_rfl)) ?_;clear HM hs6 hsf6 HB6 ho hb hg hat hHeld HT_ HW_;have HM:=HM3;clear HM3
      generalize w3.setCell ⟨n6,1,none⟩ (.slice A' (acc.length+1) c')=w4 at HM ⊢
      replace HQ:=z00.mk (HQ.out.trans (by rw[HER.out];rfl:_=bnd (if mk0 (leftL ts p2) [44]=true then argsP head (8 - acc.length) (acc++[y]) ((leftL ts p2).drop 1)else .ok ((acc++[y],0),leftL ts p2)) (atomE s)));have hst:z2n (leftL ts p')=true:=zcv HER.out;have h8:acc.length≠8:=fun h=>by
       have h1:=HFL.out;rw[HST.out,hst,beq_iff_eq.2 h]at h1
       cases h1
      clear HER hst;have HS4:=z00.mk (z1o w0 w4 g ts p2 en ⟨#[44]⟩ HM.out.R HM.out.B);rw[z1q,show((⟨#[44]⟩:ByteArray).data.toList)=[44]from rfl]at HS4
      cases hm2:mk0 (leftL ts p2) [44]with
      |true =>
       rw[hm2]at HS4;simp only[hm2,if_true,z0y]at HQ
       go_wp2_with fail
       refine HS4.out.mono ?_;rintro e w5 ⟨rfl,R,B,K⟩;simp only[if_true]at R;replace HM:=z00.mk (HM.out.call R B K);clear R B K HS4;have hl1:(acc++[y]).length=acc.length+1:=by simp
       go_wp2
       go_roundg k1
       case rel=>exact⟨acc++[y],p2+1,_,rfl,by omega,by have:=HLEN.out;omega,⟨by rw[HQ.out,show 9 - (acc++[y]).length=8 - acc.length by omega]⟩,HM⟩
       case measure=>omega
      |false =>
       rw[hm2]at HS4;simp only[hm2,Bool.false_eq_true,if_false]at HQ
       go_wp2_with fail
       refine HS4.out.mono ?_;rintro e w5 ⟨rfl,R,B,K⟩;simp only[Bool.false_eq_true,if_false]at R;replace HM:=z00.mk (HM.out.call R B K);clear R B K HS4;replace HQ:=z00.mk (show r=bnd (wantP [41] (leftL ts p2)) (fun _ r=>.ok ((⟨s,acc++[y]⟩,0),r))from HQ.out);have HW2:=z00.mk (show Calls Tryz.prog 88 #[.pointer (some ⟨g,0,none⟩),.string ⟨#[41]⟩] w5 fun e w'=>Post w0 w5 g ts en (wantP [41] (leftL ts p2)) (fun v _ _=>v=.tuple #[]) e w' from z3f w0 w5 g ts p2 en ⟨#[41]⟩ HM.out.R HM.out.B)
       go_wp2_with fail
       refine HW2.out.mono ?_;intro e w6 hp;rcases hp.split with ⟨y2,p4,v2,ew2,rfl,rfl,R,B,K⟩|⟨q,i,p4,ew2,h1,h2,rfl,R,B,K⟩
       case inr=>exact⟨rfl,Post.as (by rw[HQ.out,ew2];rfl) (Post.thrown_ h1 h2 R B (HM.out.K.trans K (.inl rfl)))⟩
       replace HQ:=z00.mk (show r=.ok ((⟨s,acc++[y]⟩,0),leftL ts p4) by rw[HQ.out,ew2];rfl);replace HM:=z00.mk (HM.out.call R B K);clear R B K hp HW2 ew2;have hd60:w6.cell? ⟨n6,0,none⟩=some (.string s):=(z01 HM.out.b6 0).trans rfl;have hd61:w6.cell? ⟨n6,1,none⟩=some (.slice A' (acc.length+1) c'):=(z01 HM.out.b6 1).trans rfl;have hd40:w6.cell? ⟨n4,0,none⟩=some (.string ⟨#[]⟩):=(z01 HM.out.b4 0).trans rfl;have hd41:w6.cell? ⟨n4,1,none⟩=some (.slice none 0 0):=(z01 HM.out.b4 1).trans rfl;have hg40:=z03 HM.out.b4 0;have hg41:=z03 HM.out.b4 1;obtain⟨P1,P2⟩:=AtM.ends HM.out (0) HQ.out;obtain⟨ln,hln⟩:∃ln,acc.length+1=ln:=⟨_,rfl⟩
       rw[hln]at hd61 P1 P2;go_wp2;refine bodyPost_ret (z1w rfl _ _ n4 25 #[.string s,.slice A' ln c'] (0,0) _ rfl P1.out Tryz.underlying25 rfl (by kernel_rfl)) rfl ?_;exact P2.out

set_option maxRecDepth 100000 in
theorem z2p (k:Int) (w:World) :
 Calls Tryz.prog 156 #[.int .i64 k] w fun e w'=>e=.returned (.agg #[.int .i64 k,.string ⟨#[]⟩])∧Below w.heap.size w w':=by
 have hN:=z1h w (.cells #[.int .i64 k,.string ⟨#[]⟩] 69);have hB:=z00.mk (z04 (Below.refl w.heap.size w) (.cells #[.int .i64 k,.string ⟨#[]⟩] 69));have HN:=z00.mk hN;clear hN;go_enter Tryz.func156,Tryz.ntmps156;go_wp2;refine bodyPost_ret (results_cell_row rfl _ _ w.heap.size 69 #[.int .i64 k,.string ⟨#[]⟩] (0,0) _ rfl HN.out Tryz.underlying69 rfl (by kernel_rfl)) rfl ?_;exact⟨rfl,hB.out⟩
theorem z3x:(Tryz.prog.info? 69).map (fun i=>(i.zero,i.size,i.bytes))=some (some (.agg #[(.int .i64 0),(.string ⟨#[]⟩)]),2,24):=by kernel_rfl
theorem zdn (W:World) (base:Nat) (hb:base≤W.heap.size) (k:Int) (s:ByteArray):Kd.R k69 69 (W.alloc (.cells #[.int .i64 k,.string s] 69)) base (fun k=>base≤k) (.slice (some ⟨W.heap.size,0,none⟩) 1 1) [(⟨k,s⟩:StS)]:=by
 refine⟨fun j hj=>?_,[.int .i64 k,.string s],?_,(Reps.none _ _).snoc (z4e _ _ _ (⟨k,s⟩:StS)) rfl⟩
 · have:W.heap.size=j:=by simpa [Value.ownBlock] using hj
   omega
 · have h2:=World.ownsRow_lit (base:=base) (e:=69) (size:=2) W #[.int .i64 k,.string s] 1 hb (by decide) rfl;exact h2
structure PM (w0 w wr:World) (g:Nat) (ts:List S108) (en:Int) (p:Nat) (acc:List StS) (u:Value):Prop where
 R:Rd w0 wr g ts p en
 B:Below w0.heap.size w0 wr
 K:z0v w wr g none
 own:Kd.R k69 69 wr w.heap.size (fun k=>w.heap.size≤k) u acc
 h0:w0.heap.size≤w.heap.size
 gw:g<w.heap.size
section
variable {w0 w wr:World} {g:Nat} {ts:List S108} {en:Int} {p:Nat} {acc:List StS} {u:Value}
theorem PM.call (h:PM w0 w wr g ts en p acc u) {w1:World} {p2:Nat} (hR:Rd w0 w1 g ts p2 en) (hB:Below w0.heap.size w0 w1) (hK:z0v wr w1 g none):PM w0 w w1 g ts en p2 acc u :=
 ⟨hR,hB,h.K.trans hK (.inl rfl),Kd.R_keep h.own hK (fun k hk=>by have:=h.gw;omega),h.h0,h.gw⟩
theorem PM.below (h:PM w0 w wr g ts en p acc u) {w1:World} (d:Below wr.heap.size wr w1):PM w0 w w1 g ts en p acc u:=h.call (h.R.below d) (z0g h.B d) (z0v.of_below d g none)
theorem PM.neg (h:PM w0 w wr g ts en p acc u):some g≠u.ownBlock:=fun he=>by
 have h1:=h.own.1 _ he.symm;have h2:=h.gw;omega
theorem PM.more (h:PM w0 w wr g ts en p acc u) {w2:World} {u':Value} {acc':List StS} (ho:Kd.R k69 69 w2 w.heap.size (fun k=>w.heap.size≤k) u' acc') (hb:Below w.heap.size wr w2) (hg:wr.grownBy w2 u.ownBlock):PM w0 w w2 g ts en p acc' u':=by
 refine⟨h.R.grown hg h.neg,z4m h.B h.h0 hb,h.K.trans (z0v.of_grown hg g) ?_,ho,h.h0,h.gw⟩
 cases hu:u.ownBlock with
 |none=>exact .inl rfl
 |some b=>exact .inr ⟨b,rfl,h.own.1 b hu⟩
end
theorem zay {l:List TK} (h:mk0 l [42]=true):z1k l=(stepS 5::(z1k (l.drop 1)).1,(z1k (l.drop 1)).2):=by
 cases l with
 |nil=>cases h
 |cons t r =>
  have h':isT t 4 [42]=true:=h;simp only[z1k,h',if_true,List.drop_one,List.tail_cons]
theorem zb2 {l:List TK} (h0:mk0 l [42]=false) (h:mk0 l [43]=true):z1k l=(stepS 6::(z1k (l.drop 1)).1,(z1k (l.drop 1)).2):=by
 cases l with
 |nil=>cases h
 |cons t r =>
  have h':isT t 4 [43]=true:=h;have h0':isT t 4 [42]=false:=h0;simp only[z1k,h',h0',Bool.false_eq_true,if_false,if_true,List.drop_one,List.tail_cons]
theorem zag {l:List TK} (h0:mk0 l [42]=false) (h1:mk0 l [43]=false) (h:mk0 l [63]=true):z1k l=(stepS 7::(z1k (l.drop 1)).1,(z1k (l.drop 1)).2):=by
 cases l with
 |nil=>cases h
 |cons t r =>
  have h':isT t 4 [63]=true:=h;have h0':isT t 4 [42]=false:=h0;have h1':isT t 4 [43]=false:=h1;simp only[z1k,h',h0',h1',Bool.false_eq_true,if_false,if_true,List.drop_one,List.tail_cons]
theorem z7i {l:List TK} (h0:mk0 l [42]=false) (h1:mk0 l [43]=false) (h2:mk0 l [63]=false):z1k l=([],l):=by
 cases l with
 |nil=>rfl
 |cons t r=>exact zgs ⟨h0,h1,h2⟩ r
def Sz (p:Prs (List StS)):Prop:=∀l x r,p l=.ok (x,r)→x.length+r.length≤l.length
theorem ze5 {s:List UInt8} {l r:List TK} {x:Unit} (h:wantP s l=.ok (x,r)):r.length+1=l.length∧r=l.drop 1:=by
 unfold wantP at h
 cases hm:mk0 l s with
 |true =>
  rw[if_pos hm]at h;injection h with h
  have h2:=congrArg Prod.snd h
  cases l with
  |nil=>cases hm
  |cons t r'=>simp at h2;subst h2;exact⟨rfl,rfl⟩
 |false=>rw[if_neg (by rw[hm];simp)]at h;cases h
theorem z84 {l r:List TK} {x:ByteArray} (h:z28 l=.ok (x,r)):r.length+1=l.length:=by
 cases l with
 |nil=>cases h
 |cons t r' =>
  simp only[z28]at h
  split at h
  · injection h with h
    have h2:=congrArg Prod.snd h
    simp at h2
    subst h2;rfl
  · cases h
theorem ze9:∀l:List TK,(z1k l).1.length+(z1k l).2.length=l.length
 |[]=>rfl
 |t::r=>by
  have ih:=ze9 r;simp only[z1k]
  split
  · simp;omega
  · split
    · simp;omega
    · split
      · simp;omega
      · simp
theorem sz_base (inner:Option (Prs (List StS))) (h:∀p,inner=some p→Sz p):Sz (baseP inner):=by
 intro l x r hp;unfold baseP at hp
 split at hp
 · rename_i hm
   cases inner with
   |none=>cases hp
   |some p =>
    obtain⟨y,r1,h1,h2⟩:=z29 hp;obtain⟨y2,r2,h3,h4⟩:=z29 h2;injection h4 with h4
    injection h4 with h5 h6
    subst h5 h6;have e1:=h p rfl _ _ _ h1;have e2:=(ze5 h3).1;have e3:(l.drop 1).length+1=l.length:=by
     cases l with
     |nil=>cases hm
     |cons t r'=>rfl
    omega
 · split at hp
   · rename_i hm;obtain⟨y,r1,h1,h2⟩:=z29 hp;injection h2 with h2
     injection h2 with h5 h6
     subst h5 h6;have e1:=z84 h1;have e3:(l.drop 1).length+1=l.length:=by
      cases l with
      |nil=>cases hm
      |cons t r'=>rfl
     simp only[List.length_cons,List.length_nil];omega
   · obtain⟨y,r1,h1,h2⟩:=z29 hp;injection h2 with h2
     injection h2 with h5 h6
     subst h5 h6;have e1:=z84 h1;simp only[List.length_cons,List.length_nil];omega
theorem zdt (inner:Option (Prs (List StS))) (h:∀p,inner=some p→Sz p):Sz (partW inner):=by
 intro l x r hp;obtain⟨y,r1,h1,h2⟩:=z29 hp;injection h2 with h2
 injection h2 with h5 h6
 subst h5 h6;have e1:=sz_base inner h _ _ _ h1;have e2:=ze9 r1;simp only[List.length_append];omega
theorem zf7 {s:List UInt8} {k:Int} {one:Prs (List StS)} (h:Sz one):∀(n:Nat) (acc:List StS) (l:List TK) (x:List StS) (r:List TK),rowL s k one n acc l=.ok (x,r)→x.length+r.length≤acc.length+l.length
 |0,acc,l,x,r,hp=>by
  injection hp with hp
  injection hp with h5 h6
  subst h5 h6;exact Nat.le_refl _
 |n+1,acc,l,x,r,hp=>by
  simp only[rowL]at hp
  split at hp
  · rename_i hm;obtain⟨y,r1,h1,h2⟩:=z29 hp;have e1:=h _ _ _ h1;have e2:=zf7 h n _ _ _ _ h2;have e3:(l.drop 1).length+1=l.length:=by
     cases l with
     |nil=>cases hm
     |cons t r'=>rfl
    simp only[List.length_append,List.length_cons,List.length_nil]at e2;omega
  · injection hp with hp
    injection hp with h5 h6
    subst h5 h6;exact Nat.le_refl _
theorem zfi {s:List UInt8} {k:Int} {one:Prs (List StS)} (h:Sz one):Sz (rowP s k one):=by
 intro l x r hp;obtain⟨y,r1,h1,h2⟩:=z29 hp;have e1:=h _ _ _ h1;have e2:=zf7 h _ _ _ _ _ h2;omega
theorem zdp {part:Prs (List StS)} (h:Sz part):Sz (pathW part):=zfi (zfi h)
theorem zal:∀d,Sz (partP d)
 |0=>zdt none (fun p h=>by cases h)
 |d+1=>zdt _ (fun p h=>by injection h with h;subst h;exact zdp (zal d))
theorem sz_path (d:Nat):Sz (pathP d):=zdp (zal d)
def stV (w':World) (base:Nat) (v:Value) (x:List StS):Prop:=Kd.R k69 69 w' base (fun k=>base≤k) v x
def PathC (w0:World) (g:Nat) (ts:List S108) (en:Int) (d:Nat):Prop:=∀(w:World) (p:Nat),Rd w0 w g ts p en→Below w0.heap.size w0 w →
 Calls Tryz.prog 104 #[.pointer (some ⟨g,0,none⟩),.int .i64 (32 - (d:Int))] w fun e w'=>Post w0 w g ts en (pathP d (leftL ts p)) (fun v w' x=>stV w' w.heap.size v x) e w'
def zb5:Nat→Option (Prs (List StS))
 |0=>none
 |d+1=>some (pathP d)
theorem zex (d:Nat):partP d=partW (zb5 d):=by
 cases d with
 |zero=>rfl
 |succ d=>rfl
set_option maxHeartbeats 4000000 in
set_option maxRecDepth 100000 in
theorem zei (w0 w:World) (g:Nat) (ts:List S108) (p:Nat) (en:Int) (d:Nat) (hd:d≤32) (hI:Rd w0 w g ts p en) (hB:Below w0.heap.size w0 w) (hin:∀d',d=d'+1→PathC w0 g ts en d') :
 Calls Tryz.prog 134 #[.pointer (some ⟨g,0,none⟩),.int .i64 (32 - (d:Int))] w fun e w'=>Post w0 w g ts en (partP d (leftL ts p)) (fun v w' x=>stV w' w.heap.size v x) e w':=by
 have hgw:=z00.mk hI.lt;have h0w:=z00.mk hB.size;have hnt:=z00.mk (show ts.length≤20000 by obtain⟨A,c,hb,hg,hr,h1,h2⟩:=hI;exact h2);have HMK:=z00.mk (z6b w0 w g ts p en 0 ⟨#[40]⟩ (by omega) hI hB);rw[Nat.add_zero,z1q,show((⟨#[40]⟩:ByteArray).data.toList)=[40]from rfl]at HMK;rw[zex];obtain⟨r,hr⟩:∃r,partW (zb5 d) (leftL ts p)=r:=⟨_,rfl⟩
 rw[hr];have HA:=z00.mk (show r=bnd (baseP (zb5 d) (leftL ts p)) fun x r=>.ok (x++(z1k r).1,(z1k r).2) by rw[←hr];rfl);have HIN:=z00.mk hin;clear hr hI hB hin
 cases hm:mk0 (leftL ts p) [40]with
 |true =>
  rw[hm]at HMK;have hlt:=z5b hm
  cases d with
  |zero =>
   replace HA:=z00.mk (show r=.error ((leftL ts p).length,3) by rw[HA.out];unfold baseP zb5;rw[if_pos hm];rfl);go_enter Tryz.func134,Tryz.ntmps134;go_wp2
   go_step3
   go_wp2_with fail
   refine HMK.out.mono ?_;rintro e w1 ⟨rfl,R,B,K⟩;have HF:=z00.mk (z47 w0 w1 g ts p en 3 R B);have hK:=z00.mk K;clear R B K
   go_wp2_with fail
   refine HF.out.mono ?_;rintro e w2 ⟨rfl,R,B,K⟩;exact⟨rfl,Post.as HA.out (Post.thrown_ (q:=((leftL ts p).length,3)) (i:=p) R.le (z13 ts p).symm R B (hK.out.trans K (.inl rfl)))⟩
  |succ d =>
   replace HA:=z00.mk (show r=bnd (bnd (pathP d (leftL ts (p+1))) fun x r=>bnd (wantP [41] r) fun _ r=>.ok (x,r)) fun x r=>.ok (x++(z1k r).1,(z1k r).2) by rw[HA.out,←z0y ts p 1];unfold baseP zb5;rw[if_pos hm]);replace HIN:=z00.mk (HIN.out d rfl);have hd32:((32:Int) - ((d+1:Nat):Int)==32)=false:=beq_eq_false_iff_ne.2 (by omega);have hdw:wrap64 ((32:Int) - ((d+1:Nat):Int)+1)=32 - (d:Int):=by unfold wrap64;omega
   obtain⟨op,hop⟩:∃op,(32:Int) - ((d+1:Nat):Int)=op:=⟨_,rfl⟩
   rw[hop]at hd32 hdw ⊢;go_enter Tryz.func134,Tryz.ntmps134;go_wp2
   go_step3
   go_wp2_with fail
   refine HMK.out.mono ?_;rintro e w1 ⟨rfl,R,B,K⟩;obtain⟨Ag,cg,hbg,_⟩:=id R;have hcg:w1.cell? ⟨g,1,none⟩=some (.int .i64 p):=(z01 hbg 1).trans rfl;have hfg:=z03 hbg 1;have hR1:=z00.mk (R.move (p+1) (by omega));have hB1:=z00.mk (z08 (j:=1) (v:=.int .i64 ((p+1:Nat):Int)) B R.ge);have hK1:=z00.mk (z0v.set_ K 1 (.int .i64 ((p+1:Nat):Int)));rw[show((p+1:Nat):Int)=(p:Int)+1 by omega]at hR1 hB1 hK1;clear R B K hbg;have HC:=z00.mk (HIN.out _ (p+1) hR1.out hB1.out);obtain⟨rq,hrq⟩:∃rq,pathP d (leftL ts (p+1))=rq:=⟨_,rfl⟩
   rw[hrq]at HC HA;have hop1:32 - (d:Int)=op+1:=by omega
   rw[hop1]at HC;have HRQ:=z00.mk hrq;clear hrq hdw
   go_wp2_with fail
   refine HC.out.mono ?_;intro e w2 hp;rcases hp.split with ⟨y,p2,v,rfl,rfl,hv,R,B,K⟩|⟨q,i,p2,rfl,h1,h2,rfl,R,B,K⟩
   case inr=>exact⟨rfl,Post.as HA.out (Post.thrown_ h1 h2 R B (hK1.out.trans K (.inl rfl)))⟩
   have hw1:w.heap.size≤(w1.setCell ⟨g,1,none⟩ (.int .i64 ((p:Int)+1))).heap.size:=hK1.out.1;have HM:=z00.mk (show PM w0 w w2 g ts en p2 y v from⟨R,B,hK1.out.trans K (.inl rfl),Kd.R_mono (Kd.R_lower hv hw1) (fun k hk=>Nat.le_trans hw1 hk),h0w.out,hgw.out⟩);replace HA:=z00.mk (HA.out.trans (by rfl:_=bnd (bnd (wantP [41] (leftL ts p2)) fun _ r=>.ok (y,r)) fun x r=>.ok (x++(z1k r).1,(z1k r).2)));clear R B K hp hv hw1 HC HIN HMK hR1 hB1 hK1 hcg hfg;have HW:=z00.mk (show Calls Tryz.prog 88 #[.pointer (some ⟨g,0,none⟩),.string ⟨#[41]⟩] w2 fun e w'=>Post w0 w2 g ts en (wantP [41] (leftL ts p2)) (fun v _ _=>v=.tuple #[]) e w' from z3f w0 w2 g ts p2 en ⟨#[41]⟩ HM.out.R HM.out.B)
   go_wp2_with fail
   refine HW.out.mono ?_;intro e w3 hp;rcases hp.split with ⟨y2,p3,v2,ew,rfl,rfl,R,B,K⟩|⟨q,i,p3,ew,h1,h2,rfl,R,B,K⟩
   case inr=>exact⟨rfl,Post.as (by rw[HA.out,ew];rfl) (Post.thrown_ h1 h2 R B (HM.out.K.trans K (.inl rfl)))⟩
   have HQ:=z00.mk (show r=.ok (y++(z1k (leftL ts p3)).1,(z1k (leftL ts p3)).2) by rw[HA.out,ew];rfl);have HWL:=z00.mk (ze5 ew).1;replace HM:=z00.mk (HM.out.call R B K);clear R B K hp HW ew HA;have hlen0:y.length+(ts.length - p3)≤20000:=by
    have e1:=sz_path d _ _ _ HRQ.out;have e2:=HWL.out;have e3:=hnt.out;rw[z13,z13]at e1;rw[z13,z13]at e2;omega
   clear HRQ HWL;go_wp2
   go_step3
   go_wp2
   go_loopg [5] (ts.length+1 - p3) (fun kq v5 w'=>∃(acc:List StS) (p':Nat) (u:Value),v5=u∧kq=ts.length+1 - p'∧acc.length+(ts.length - p')≤20000∧z00 (r=.ok (acc++(z1k (leftL ts p')).1,(z1k (leftL ts p')).2))∧z00 (PM w0 w w' g ts en p' acc u))
   case atStart=>exact⟨_,p3,_,rfl,rfl,by exact hlen0,HQ,HM⟩
   case round =>
    clear HQ HM;obtain⟨acc,p',u,rfl,rfl,hlen0,HQ,HM⟩:=hrel;have HLEN:=z00.mk hlen0;clear hlen0;have hple:=HM.out.R.le;obtain⟨A,c,rfl⟩:=Kd.R_slice HM.out.own
    cases hm1:mk0 (leftL ts p') [42]with
    |true =>
     have HS1:=z00.mk (z1o w0 wr g ts p' en ⟨#[42]⟩ HM.out.R HM.out.B);rw[z1q,show((⟨#[42]⟩:ByteArray).data.toList)=[42]from rfl,hm1]at HS1
     go_wp2_with fail
     refine HS1.out.mono ?_;rintro e w21 ⟨rfl,R,B,K⟩;simp only[if_true]at R;replace HM:=z00.mk (HM.out.call R B K);have hlt:=z5b hm1;clear R B K HS1;have HG:=z00.mk (fun W=>z2p 5 W)
     go_wp2_with fail
     refine(HG.out _).mono ?_;rintro e ws ⟨rfl,d⟩;replace HM:=z00.mk (HM.out.below d);clear d;have hlen:acc.length≤20000:=by have:=HLEN.out;omega
     go_wp2_with ((with_reducible refine z23 (b:=.append) (xs:=#[.tmp 40,.tmp 42]) rfl ?_);at_builtin;refine Kd.R_append k69 (w0:=ws) w.heap.size rfl (.tmp 40) (.tmp 42) 37 69 (.agg #[(.int .i64 0),(.string ⟨#[]⟩)]) 24 rfl Tryz.underlying37 z3x rfl (by decide) (by decide) (.slice A acc.length c) acc (stepS 5) [.int .i64 5,.string ⟨#[]⟩] (fun k=>w.heap.size≤k) (fun _=>False) rfl zA0t (z4e _ _ _ (stepS 5)) (fun _ hk=>hk.elim) (fun k hk=>Nat.le_trans HM.out.K.1 hk) HM.out.own (Below.refl _ _) HM.out.K.1 (by have:=hlen;omega) ?_;intro v1 w2 ho hb hg hat;have HM3:=z00.mk (HM.out.more ho hb hg);clear ho hb hg hat)
     clear HM;have HM:=HM3;clear HM3
     go_roundg (ts.length - p')
     case rel=>exact⟨acc++[stepS 5],p'+1,v1,rfl,by omega,by rw[List.length_append,List.length_singleton];have:=HLEN.out;omega,⟨zA1d⟩,HM⟩
     case measure=>omega
    |false =>
     have HS1:=z00.mk (z1o w0 wr g ts p' en ⟨#[42]⟩ HM.out.R HM.out.B);rw[z1q,show((⟨#[42]⟩:ByteArray).data.toList)=[42]from rfl,hm1]at HS1
     go_wp2_with fail
     refine HS1.out.mono ?_;rintro e w21 ⟨rfl,R,B,K⟩;simp only[Bool.false_eq_true,if_false]at R;replace HM:=z00.mk (HM.out.call R B K);clear R B K HS1
     cases hm2:mk0 (leftL ts p') [43]with
     |true =>
      have HS2:=z00.mk (z1o w0 w21 g ts p' en ⟨#[43]⟩ HM.out.R HM.out.B);rw[z1q,show((⟨#[43]⟩:ByteArray).data.toList)=[43]from rfl,hm2]at HS2
      go_wp2_with fail
      refine HS2.out.mono ?_;rintro e w22 ⟨rfl,R,B,K⟩;simp only[if_true]at R;replace HM:=z00.mk (HM.out.call R B K);have hlt:=z5b hm2;clear R B K HS2;have HG:=z00.mk (fun W=>z2p 6 W)
      go_wp2_with fail
      refine(HG.out _).mono ?_;rintro e ws ⟨rfl,d⟩;replace HM:=z00.mk (HM.out.below d);clear d;have hlen:acc.length≤20000:=by have:=HLEN.out;omega
      go_wp2_with ((with_reducible refine z23 (b:=.append) (xs:=#[.tmp 47,.tmp 49]) rfl ?_);at_builtin;refine Kd.R_append k69 (w0:=ws) w.heap.size rfl (.tmp 47) (.tmp 49) 37 69 (.agg #[(.int .i64 0),(.string ⟨#[]⟩)]) 24 rfl Tryz.underlying37 z3x rfl (by decide) (by decide) (.slice A acc.length c) acc (stepS 6) [.int .i64 6,.string ⟨#[]⟩] (fun k=>w.heap.size≤k) (fun _=>False) rfl zA0t (z4e _ _ _ (stepS 6)) (fun _ hk=>hk.elim) (fun k hk=>Nat.le_trans HM.out.K.1 hk) HM.out.own (Below.refl _ _) HM.out.K.1 (by have:=hlen;omega) ?_;intro v1 w2 ho hb hg hat;have HM3:=z00.mk (HM.out.more ho hb hg);clear ho hb hg hat)
      clear HM;have HM:=HM3;clear HM3
      go_roundg (ts.length - p')
      case rel=>exact⟨acc++[stepS 6],p'+1,v1,rfl,by omega,by rw[List.length_append,List.length_singleton];have:=HLEN.out;omega,⟨zA18⟩,HM⟩
      case measure=>omega
     |false =>
      have HS2:=z00.mk (z1o w0 w21 g ts p' en ⟨#[43]⟩ HM.out.R HM.out.B);rw[z1q,show((⟨#[43]⟩:ByteArray).data.toList)=[43]from rfl,hm2]at HS2
      go_wp2_with fail
      refine HS2.out.mono ?_;rintro e w22 ⟨rfl,R,B,K⟩;simp only[Bool.false_eq_true,if_false]at R;replace HM:=z00.mk (HM.out.call R B K);clear R B K HS2
      cases hm3:mk0 (leftL ts p') [63]with
      |true =>
       have HS3:=z00.mk (z1o w0 w22 g ts p' en ⟨#[63]⟩ HM.out.R HM.out.B);rw[z1q,show((⟨#[63]⟩:ByteArray).data.toList)=[63]from rfl,hm3]at HS3
       go_wp2_with fail
       refine HS3.out.mono ?_;rintro e w23 ⟨rfl,R,B,K⟩;simp only[if_true]at R;replace HM:=z00.mk (HM.out.call R B K);have hlt:=z5b hm3;clear R B K HS3;have HG:=z00.mk (fun W=>z2p 7 W)
       go_wp2_with fail
       refine(HG.out _).mono ?_;rintro e ws ⟨rfl,d⟩;replace HM:=z00.mk (HM.out.below d);clear d;have hlen:acc.length≤20000:=by have:=HLEN.out;omega
       go_wp2_with ((with_reducible refine z23 (b:=.append) (xs:=#[.tmp 54,.tmp 56]) rfl ?_);at_builtin;refine Kd.R_append k69 (w0:=ws) w.heap.size rfl (.tmp 54) (.tmp 56) 37 69 (.agg #[(.int .i64 0),(.string ⟨#[]⟩)]) 24 rfl Tryz.underlying37 z3x rfl (by decide) (by decide) (.slice A acc.length c) acc (stepS 7) [.int .i64 7,.string ⟨#[]⟩] (fun k=>w.heap.size≤k) (fun _=>False) rfl zA0t (z4e _ _ _ (stepS 7)) (fun _ hk=>hk.elim) (fun k hk=>Nat.le_trans HM.out.K.1 hk) HM.out.own (Below.refl _ _) HM.out.K.1 (by have:=hlen;omega) ?_;intro v1 w2 ho hb hg hat;have HM3:=z00.mk (HM.out.more ho hb hg);clear ho hb hg hat)
       clear HM;have HM:=HM3;clear HM3
       go_roundg (ts.length - p')
       case rel=>exact⟨acc++[stepS 7],p'+1,v1,rfl,by omega,by rw[List.length_append,List.length_singleton];have:=HLEN.out;omega,⟨zA13⟩,HM⟩
       case measure=>omega
      |false =>
       have HS3:=z00.mk (z1o w0 w22 g ts p' en ⟨#[63]⟩ HM.out.R HM.out.B);rw[z1q,show((⟨#[63]⟩:ByteArray).data.toList)=[63]from rfl,hm3]at HS3
       go_wp2_with fail
       refine HS3.out.mono ?_;rintro e w23 ⟨rfl,R,B,K⟩;simp only[Bool.false_eq_true,if_false]at R;replace HM:=z00.mk (HM.out.call R B K);clear R B K HS3;replace HQ:=z00.mk (show r=.ok (acc,leftL ts p') by rw[HQ.out,z7i hm1 hm2 hm3,List.append_nil]);go_wp2
       try rw[Exit.noGoto_ret]
       go_ret
       exact⟨HM.out.B,HM.out.K,p',HM.out.R,by rw[HQ.out];exact⟨rfl,_,rfl,HM.out.own⟩⟩
 |false =>
  rw[hm]at HMK;clear HIN;go_enter Tryz.func134,Tryz.ntmps134;go_wp2
  go_step3
  go_wp2_with fail
  refine HMK.out.mono ?_;rintro e w1 ⟨rfl,R,B,K⟩;have HS:=z00.mk (z1o w0 w1 g ts p en ⟨#[94]⟩ R B);rw[z1q,show((⟨#[94]⟩:ByteArray).data.toList)=[94]from rfl]at HS;have hK:=z00.mk K;clear R B K HMK
  cases hm2:mk0 (leftL ts p) [94]with
  |true =>
   rw[hm2]at HS;replace HA:=z00.mk (show r=bnd (bnd (z28 (leftL ts (p+1))) fun p r=>.ok ([⟨2,p⟩],r)) fun x r=>.ok (x++(z1k r).1,(z1k r).2) by rw[HA.out];unfold baseP;rw[if_neg (by rw[hm];simp),if_pos hm2,←z0y ts p 1])
   go_wp2_with fail
   refine HS.out.mono ?_;rintro e w2 ⟨rfl,R,B,K⟩;simp only[if_true]at R;have HP:=z52 w0 w2 g ts (p+1) en R B;replace hK:=z00.mk (hK.out.trans K (.inl rfl));obtain⟨rq,hrq⟩:∃rq,z28 (leftL ts (p+1))=rq:=⟨_,rfl⟩
   rw[hrq]at HP HA;have HRQ:=z00.mk hrq;have HP:=z00.mk HP;clear R B K HS hrq
   go_wp2_with fail
   refine HP.out.mono ?_;intro e w3 hp;rcases hp.split with ⟨s,p3,v,rfl,rfl,rfl,R,B,K⟩|⟨q,i,p3,rfl,h1,h2,rfl,R,B,K⟩
   case inr=>exact⟨rfl,Post.as HA.out (Post.thrown_ h1 h2 R B (hK.out.trans K (.inl rfl)))⟩
   replace hK:=z00.mk (hK.out.trans K (.inl rfl));have HM:=z00.mk (show PM w0 w (w3.alloc (.cells #[.int .i64 2,.string s] 69)) g ts en p3 [⟨2,s⟩] (.slice (some ⟨w3.heap.size,0,none⟩) 1 1)from⟨R.alloc _,z04 B _,z1s hK.out _,zdn w3 w.heap.size hK.out.1 2 s,h0w.out,hgw.out⟩);have HQ:=z00.mk (show r=.ok ([(⟨2,s⟩:StS)]++(z1k (leftL ts p3)).1,(z1k (leftL ts p3)).2)from HA.out);have hlen0:[(⟨2,s⟩:StS)].length+(ts.length - p3)≤20000:=by
    have e1:=z84 HRQ.out;have e3:=hnt.out;rw[z13,z13]at e1;simp only[List.length_cons,List.length_nil];omega
   clear HRQ R B K hp HP hK HA;go_wp2
   go_step3
   go_wp2
   go_loopg [5] (ts.length+1 - p3) (fun kq v5 w'=>∃(acc:List StS) (p':Nat) (u:Value),v5=u∧kq=ts.length+1 - p'∧acc.length+(ts.length - p')≤20000∧z00 (r=.ok (acc++(z1k (leftL ts p')).1,(z1k (leftL ts p')).2))∧z00 (PM w0 w w' g ts en p' acc u))
   case atStart=>exact⟨_,p3,_,rfl,rfl,by exact hlen0,HQ,HM⟩
   case round =>
    clear HQ HM;obtain⟨acc,p',u,rfl,rfl,hlen0,HQ,HM⟩:=hrel;have HLEN:=z00.mk hlen0;clear hlen0;have hple:=HM.out.R.le;obtain⟨A,c,rfl⟩:=Kd.R_slice HM.out.own
    cases hm1:mk0 (leftL ts p') [42]with
    |true =>
     have HS1:=z00.mk (z1o w0 wr g ts p' en ⟨#[42]⟩ HM.out.R HM.out.B);rw[z1q,show((⟨#[42]⟩:ByteArray).data.toList)=[42]from rfl,hm1]at HS1
     go_wp2_with fail
     refine HS1.out.mono ?_;rintro e w21 ⟨rfl,R,B,K⟩;simp only[if_true]at R;replace HM:=z00.mk (HM.out.call R B K);have hlt:=z5b hm1;clear R B K HS1;have HG:=z00.mk (fun W=>z2p 5 W)
     go_wp2_with fail
     refine(HG.out _).mono ?_;rintro e ws ⟨rfl,d⟩;replace HM:=z00.mk (HM.out.below d);clear d;have hlen:acc.length≤20000:=by have:=HLEN.out;omega
     go_wp2_with ((with_reducible refine z23 (b:=.append) (xs:=#[.tmp 40,.tmp 42]) rfl ?_);at_builtin;refine Kd.R_append k69 (w0:=ws) w.heap.size rfl (.tmp 40) (.tmp 42) 37 69 (.agg #[(.int .i64 0),(.string ⟨#[]⟩)]) 24 rfl Tryz.underlying37 z3x rfl (by decide) (by decide) (.slice A acc.length c) acc (stepS 5) [.int .i64 5,.string ⟨#[]⟩] (fun k=>w.heap.size≤k) (fun _=>False) rfl zA0t (z4e _ _ _ (stepS 5)) (fun _ hk=>hk.elim) (fun k hk=>Nat.le_trans HM.out.K.1 hk) HM.out.own (Below.refl _ _) HM.out.K.1 (by have:=hlen;omega) ?_;intro v1 w2 ho hb hg hat;have HM3:=z00.mk (HM.out.more ho hb hg);clear ho hb hg hat)
     clear HM;have HM:=HM3;clear HM3
     go_roundg (ts.length - p')
     case rel=>exact⟨acc++[stepS 5],p'+1,v1,rfl,by omega,by rw[List.length_append,List.length_singleton];have:=HLEN.out;omega,⟨zA1d⟩,HM⟩
     case measure=>omega
    |false =>
     have HS1:=z00.mk (z1o w0 wr g ts p' en ⟨#[42]⟩ HM.out.R HM.out.B);rw[z1q,show((⟨#[42]⟩:ByteArray).data.toList)=[42]from rfl,hm1]at HS1
     go_wp2_with fail
     refine HS1.out.mono ?_;rintro e w21 ⟨rfl,R,B,K⟩;simp only[Bool.false_eq_true,if_false]at R;replace HM:=z00.mk (HM.out.call R B K);clear R B K HS1
     cases hm2:mk0 (leftL ts p') [43]with
     |true =>
      have HS2:=z00.mk (z1o w0 w21 g ts p' en ⟨#[43]⟩ HM.out.R HM.out.B);rw[z1q,show((⟨#[43]⟩:ByteArray).data.toList)=[43]from rfl,hm2]at HS2
      go_wp2_with fail
      refine HS2.out.mono ?_;rintro e w22 ⟨rfl,R,B,K⟩;simp only[if_true]at R;replace HM:=z00.mk (HM.out.call R B K);have hlt:=z5b hm2;clear R B K HS2;have HG:=z00.mk (fun W=>z2p 6 W)
      go_wp2_with fail
      refine(HG.out _).mono ?_;rintro e ws ⟨rfl,d⟩;replace HM:=z00.mk (HM.out.below d);clear d;have hlen:acc.length≤20000:=by have:=HLEN.out;omega
      go_wp2_with ((with_reducible refine z23 (b:=.append) (xs:=#[.tmp 47,.tmp 49]) rfl ?_);at_builtin;refine Kd.R_append k69 (w0:=ws) w.heap.size rfl (.tmp 47) (.tmp 49) 37 69 (.agg #[(.int .i64 0),(.string ⟨#[]⟩)]) 24 rfl Tryz.underlying37 z3x rfl (by decide) (by decide) (.slice A acc.length c) acc (stepS 6) [.int .i64 6,.string ⟨#[]⟩] (fun k=>w.heap.size≤k) (fun _=>False) rfl zA0t (z4e _ _ _ (stepS 6)) (fun _ hk=>hk.elim) (fun k hk=>Nat.le_trans HM.out.K.1 hk) HM.out.own (Below.refl _ _) HM.out.K.1 (by have:=hlen;omega) ?_;intro v1 w2 ho hb hg hat;have HM3:=z00.mk (HM.out.more ho hb hg);clear ho hb hg hat)
      clear HM;have HM:=HM3;clear HM3
      go_roundg (ts.length - p')
      case rel=>exact⟨acc++[stepS 6],p'+1,v1,rfl,by omega,by rw[List.length_append,List.length_singleton];have:=HLEN.out;omega,⟨zA18⟩,HM⟩
      case measure=>omega
     |false =>
      have HS2:=z00.mk (z1o w0 w21 g ts p' en ⟨#[43]⟩ HM.out.R HM.out.B);rw[z1q,show((⟨#[43]⟩:ByteArray).data.toList)=[43]from rfl,hm2]at HS2
      go_wp2_with fail
      refine HS2.out.mono ?_;rintro e w22 ⟨rfl,R,B,K⟩;simp only[Bool.false_eq_true,if_false]at R;replace HM:=z00.mk (HM.out.call R B K);clear R B K HS2
      cases hm3:mk0 (leftL ts p') [63]with
      |true =>
       have HS3:=z00.mk (z1o w0 w22 g ts p' en ⟨#[63]⟩ HM.out.R HM.out.B);rw[z1q,show((⟨#[63]⟩:ByteArray).data.toList)=[63]from rfl,hm3]at HS3
       go_wp2_with fail
       refine HS3.out.mono ?_;rintro e w23 ⟨rfl,R,B,K⟩;simp only[if_true]at R;replace HM:=z00.mk (HM.out.call R B K);have hlt:=z5b hm3;clear R B K HS3;have HG:=z00.mk (fun W=>z2p 7 W)
       go_wp2_with fail
       refine(HG.out _).mono ?_;rintro e ws ⟨rfl,d⟩;replace HM:=z00.mk (HM.out.below d);clear d;have hlen:acc.length≤20000:=by have:=HLEN.out;omega
       go_wp2_with ((with_reducible refine z23 (b:=.append) (xs:=#[.tmp 54,.tmp 56]) rfl ?_);at_builtin;refine Kd.R_append k69 (w0:=ws) w.heap.size rfl (.tmp 54) (.tmp 56) 37 69 (.agg #[(.int .i64 0),(.string ⟨#[]⟩)]) 24 rfl Tryz.underlying37 z3x rfl (by decide) (by decide) (.slice A acc.length c) acc (stepS 7) [.int .i64 7,.string ⟨#[]⟩] (fun k=>w.heap.size≤k) (fun _=>False) rfl zA0t (z4e _ _ _ (stepS 7)) (fun _ hk=>hk.elim) (fun k hk=>Nat.le_trans HM.out.K.1 hk) HM.out.own (Below.refl _ _) HM.out.K.1 (by have:=hlen;omega) ?_;intro v1 w2 ho hb hg hat;have HM3:=z00.mk (HM.out.more ho hb hg);clear ho hb hg hat)
       clear HM;have HM:=HM3;clear HM3
       go_roundg (ts.length - p')
       case rel=>exact⟨acc++[stepS 7],p'+1,v1,rfl,by omega,by rw[List.length_append,List.length_singleton];have:=HLEN.out;omega,⟨zA13⟩,HM⟩
       case measure=>omega
      |false =>
       have HS3:=z00.mk (z1o w0 w22 g ts p' en ⟨#[63]⟩ HM.out.R HM.out.B);rw[z1q,show((⟨#[63]⟩:ByteArray).data.toList)=[63]from rfl,hm3]at HS3
       go_wp2_with fail
       refine HS3.out.mono ?_;rintro e w23 ⟨rfl,R,B,K⟩;simp only[Bool.false_eq_true,if_false]at R;replace HM:=z00.mk (HM.out.call R B K);clear R B K HS3;replace HQ:=z00.mk (show r=.ok (acc,leftL ts p') by rw[HQ.out,z7i hm1 hm2 hm3,List.append_nil]);go_wp2
       try rw[Exit.noGoto_ret]
       go_ret
       exact⟨HM.out.B,HM.out.K,p',HM.out.R,by rw[HQ.out];exact⟨rfl,_,rfl,HM.out.own⟩⟩
  |false =>
   rw[hm2]at HS;replace HA:=z00.mk (show r=bnd (bnd (z28 (leftL ts p)) fun p r=>.ok ([⟨1,p⟩],r)) fun x r=>.ok (x++(z1k r).1,(z1k r).2) by rw[HA.out];unfold baseP;rw[if_neg (by rw[hm];simp),if_neg (by rw[hm2];simp)])
   go_wp2_with fail
   refine HS.out.mono ?_;rintro e w2 ⟨rfl,R,B,K⟩;simp only[Bool.false_eq_true,if_false]at R;have HP:=z52 w0 w2 g ts p en R B;replace hK:=z00.mk (hK.out.trans K (.inl rfl));obtain⟨rq,hrq⟩:∃rq,z28 (leftL ts p)=rq:=⟨_,rfl⟩
   rw[hrq]at HP HA;have HRQ:=z00.mk hrq;have HP:=z00.mk HP;clear R B K HS hrq
   go_wp2_with fail
   refine HP.out.mono ?_;intro e w3 hp;rcases hp.split with ⟨s,p3,v,rfl,rfl,rfl,R,B,K⟩|⟨q,i,p3,rfl,h1,h2,rfl,R,B,K⟩
   case inr=>exact⟨rfl,Post.as HA.out (Post.thrown_ h1 h2 R B (hK.out.trans K (.inl rfl)))⟩
   replace hK:=z00.mk (hK.out.trans K (.inl rfl));have HM:=z00.mk (show PM w0 w (w3.alloc (.cells #[.int .i64 1,.string s] 69)) g ts en p3 [⟨1,s⟩] (.slice (some ⟨w3.heap.size,0,none⟩) 1 1)from⟨R.alloc _,z04 B _,z1s hK.out _,zdn w3 w.heap.size hK.out.1 1 s,h0w.out,hgw.out⟩);have HQ:=z00.mk (show r=.ok ([(⟨1,s⟩:StS)]++(z1k (leftL ts p3)).1,(z1k (leftL ts p3)).2)from HA.out);have hlen0:[(⟨1,s⟩:StS)].length+(ts.length - p3)≤20000:=by
    have e1:=z84 HRQ.out;have e3:=hnt.out;rw[z13,z13]at e1;simp only[List.length_cons,List.length_nil];omega
   clear HRQ R B K hp HP hK HA;go_wp2
   go_step3
   go_wp2
   go_loopg [5] (ts.length+1 - p3) (fun kq v5 w'=>∃(acc:List StS) (p':Nat) (u:Value),v5=u∧kq=ts.length+1 - p'∧acc.length+(ts.length - p')≤20000∧z00 (r=.ok (acc++(z1k (leftL ts p')).1,(z1k (leftL ts p')).2))∧z00 (PM w0 w w' g ts en p' acc u))
   case atStart=>exact⟨_,p3,_,rfl,rfl,by exact hlen0,HQ,HM⟩
   case round =>
    clear HQ HM;obtain⟨acc,p',u,rfl,rfl,hlen0,HQ,HM⟩:=hrel;have HLEN:=z00.mk hlen0;clear hlen0;have hple:=HM.out.R.le;obtain⟨A,c,rfl⟩:=Kd.R_slice HM.out.own
    cases hm1:mk0 (leftL ts p') [42]with
    |true =>
     have HS1:=z00.mk (z1o w0 wr g ts p' en ⟨#[42]⟩ HM.out.R HM.out.B);rw[z1q,show((⟨#[42]⟩:ByteArray).data.toList)=[42]from rfl,hm1]at HS1
     go_wp2_with fail
     refine HS1.out.mono ?_;rintro e w21 ⟨rfl,R,B,K⟩;simp only[if_true]at R;replace HM:=z00.mk (HM.out.call R B K);have hlt:=z5b hm1;clear R B K HS1;have HG:=z00.mk (fun W=>z2p 5 W)
     go_wp2_with fail
     refine(HG.out _).mono ?_;rintro e ws ⟨rfl,d⟩;replace HM:=z00.mk (HM.out.below d);clear d;have hlen:acc.length≤20000:=by have:=HLEN.out;omega
     go_wp2_with ((with_reducible refine z23 (b:=.append) (xs:=#[.tmp 40,.tmp 42]) rfl ?_);at_builtin;refine Kd.R_append k69 (w0:=ws) w.heap.size rfl (.tmp 40) (.tmp 42) 37 69 (.agg #[(.int .i64 0),(.string ⟨#[]⟩)]) 24 rfl Tryz.underlying37 z3x rfl (by decide) (by decide) (.slice A acc.length c) acc (stepS 5) [.int .i64 5,.string ⟨#[]⟩] (fun k=>w.heap.size≤k) (fun _=>False) rfl zA0t (z4e _ _ _ (stepS 5)) (fun _ hk=>hk.elim) (fun k hk=>Nat.le_trans HM.out.K.1 hk) HM.out.own (Below.refl _ _) HM.out.K.1 (by have:=hlen;omega) ?_;intro v1 w2 ho hb hg hat;have HM3:=z00.mk (HM.out.more ho hb hg);clear ho hb hg hat)
     clear HM;have HM:=HM3;clear HM3
     go_roundg (ts.length - p')
     case rel=>exact⟨acc++[stepS 5],p'+1,v1,rfl,by omega,by rw[List.length_append,List.length_singleton];have:=HLEN.out;omega,⟨zA1d⟩,HM⟩
     case measure=>omega
    |false =>
     have HS1:=z00.mk (z1o w0 wr g ts p' en ⟨#[42]⟩ HM.out.R HM.out.B);rw[z1q,show((⟨#[42]⟩:ByteArray).data.toList)=[42]from rfl,hm1]at HS1
     go_wp2_with fail
     refine HS1.out.mono ?_;rintro e w21 ⟨rfl,R,B,K⟩;simp only[Bool.false_eq_true,if_false]at R;replace HM:=z00.mk (HM.out.call R B K);clear R B K HS1
     cases hm2:mk0 (leftL ts p') [43]with
     |true =>
      have HS2:=z00.mk (z1o w0 w21 g ts p' en ⟨#[43]⟩ HM.out.R HM.out.B);rw[z1q,show((⟨#[43]⟩:ByteArray).data.toList)=[43]from rfl,hm2]at HS2
      go_wp2_with fail
      refine HS2.out.mono ?_;rintro e w22 ⟨rfl,R,B,K⟩;simp only[if_true]at R;replace HM:=z00.mk (HM.out.call R B K);have hlt:=z5b hm2;clear R B K HS2;have HG:=z00.mk (fun W=>z2p 6 W)
      go_wp2_with fail
      refine(HG.out _).mono ?_;rintro e ws ⟨rfl,d⟩;replace HM:=z00.mk (HM.out.below d);clear d;have hlen:acc.length≤20000:=by have:=HLEN.out;omega
      go_wp2_with ((with_reducible refine z23 (b:=.append) (xs:=#[.tmp 47,.tmp 49]) rfl ?_);at_builtin;refine Kd.R_append k69 (w0:=ws) w.heap.size rfl (.tmp 47) (.tmp 49) 37 69 (.agg #[(.int .i64 0),(.string ⟨#[]⟩)]) 24 rfl Tryz.underlying37 z3x rfl (by decide) (by decide) (.slice A acc.length c) acc (stepS 6) [.int .i64 6,.string ⟨#[]⟩] (fun k=>w.heap.size≤k) (fun _=>False) rfl zA0t (z4e _ _ _ (stepS 6)) (fun _ hk=>hk.elim) (fun k hk=>Nat.le_trans HM.out.K.1 hk) HM.out.own (Below.refl _ _) HM.out.K.1 (by have:=hlen;omega) ?_;intro v1 w2 ho hb hg hat;have HM3:=z00.mk (HM.out.more ho hb hg);clear ho hb hg hat)
      clear HM;have HM:=HM3;clear HM3
      go_roundg (ts.length - p')
      case rel=>exact⟨acc++[stepS 6],p'+1,v1,rfl,by omega,by rw[List.length_append,List.length_singleton];have:=HLEN.out;omega,⟨zA18⟩,HM⟩
      case measure=>omega
     |false =>
      have HS2:=z00.mk (z1o w0 w21 g ts p' en ⟨#[43]⟩ HM.out.R HM.out.B);rw[z1q,show((⟨#[43]⟩:ByteArray).data.toList)=[43]from rfl,hm2]at HS2
      go_wp2_with fail
      refine HS2.out.mono ?_;rintro e w22 ⟨rfl,R,B,K⟩;simp only[Bool.false_eq_true,if_false]at R;replace HM:=z00.mk (HM.out.call R B K);clear R B K HS2
      cases hm3:mk0 (leftL ts p') [63]with
      |true =>
       have HS3:=z00.mk (z1o w0 w22 g ts p' en ⟨#[63]⟩ HM.out.R HM.out.B);rw[z1q,show((⟨#[63]⟩:ByteArray).data.toList)=[63]from rfl,hm3]at HS3
       go_wp2_with fail
       refine HS3.out.mono ?_;rintro e w23 ⟨rfl,R,B,K⟩;simp only[if_true]at R;replace HM:=z00.mk (HM.out.call R B K);have hlt:=z5b hm3;clear R B K HS3;have HG:=z00.mk (fun W=>z2p 7 W)
       go_wp2_with fail
       refine(HG.out _).mono ?_;rintro e ws ⟨rfl,d⟩;replace HM:=z00.mk (HM.out.below d);clear d;have hlen:acc.length≤20000:=by have:=HLEN.out;omega
       go_wp2_with ((with_reducible refine z23 (b:=.append) (xs:=#[.tmp 54,.tmp 56]) rfl ?_);at_builtin;refine Kd.R_append k69 (w0:=ws) w.heap.size rfl (.tmp 54) (.tmp 56) 37 69 (.agg #[(.int .i64 0),(.string ⟨#[]⟩)]) 24 rfl Tryz.underlying37 z3x rfl (by decide) (by decide) (.slice A acc.length c) acc (stepS 7) [.int .i64 7,.string ⟨#[]⟩] (fun k=>w.heap.size≤k) (fun _=>False) rfl zA0t (z4e _ _ _ (stepS 7)) (fun _ hk=>hk.elim) (fun k hk=>Nat.le_trans HM.out.K.1 hk) HM.out.own (Below.refl _ _) HM.out.K.1 (by have:=hlen;omega) ?_;intro v1 w2 ho hb hg hat;have HM3:=z00.mk (HM.out.more ho hb hg);clear ho hb hg hat)
       clear HM;have HM:=HM3;clear HM3
       go_roundg (ts.length - p')
       case rel=>exact⟨acc++[stepS 7],p'+1,v1,rfl,by omega,by rw[List.length_append,List.length_singleton];have:=HLEN.out;omega,⟨zA13⟩,HM⟩
       case measure=>omega
      |false =>
       have HS3:=z00.mk (z1o w0 w22 g ts p' en ⟨#[63]⟩ HM.out.R HM.out.B);rw[z1q,show((⟨#[63]⟩:ByteArray).data.toList)=[63]from rfl,hm3]at HS3
       go_wp2_with fail
       refine HS3.out.mono ?_;rintro e w23 ⟨rfl,R,B,K⟩;simp only[Bool.false_eq_true,if_false]at R;replace HM:=z00.mk (HM.out.call R B K);clear R B K HS3;replace HQ:=z00.mk (show r=.ok (acc,leftL ts p') by rw[HQ.out,z7i hm1 hm2 hm3,List.append_nil]);go_wp2
       try rw[Exit.noGoto_ret]
       go_ret
       exact⟨HM.out.B,HM.out.K,p',HM.out.R,by rw[HQ.out];exact⟨rfl,_,rfl,HM.out.own⟩⟩

theorem zd4 (w:World) (o0 o1 o2:Obj):(((w.alloc o0).alloc o1).alloc o2).heap[w.heap.size]?=some o0∧(((w.alloc o0).alloc o1).alloc o2).heap[w.heap.size+1]?=some o1∧(((w.alloc o0).alloc o1).alloc o2).heap[w.heap.size+2]?=some o2:=by
 have z1:(w.alloc o0).heap.size=w.heap.size+1:=by simp
 have z2:((w.alloc o0).alloc o1).heap.size=w.heap.size+2:=by simp
 refine⟨z06 (z06 (z1h w o0) _) _,?_,?_⟩
 · have:=z1h (w.alloc o0) o1;rw[z1]at this;exact z06 this _
 · have:=z1h ((w.alloc o0).alloc o1) o2
   rwa [z2]at this
set_option maxHeartbeats 4000000 in
set_option maxRecDepth 100000 in
theorem zer (w0 w:World) (g:Nat) (ts:List S108) (p:Nat) (en:Int) (s:ByteArray) (kd:Int) (one:Prs (List StS)) (c1 c2:Nat) (hloc:Loc 1 one) (hsz:Sz one) (hI:Rd w0 w g ts p en) (hB:Below w0.heap.size w0 w)
 (hone:∀(W:World) (q:Nat),z0v w W g none→Rd w0 W g ts q en→Below w0.heap.size w0 W→Calls Tryz.prog 133 #[.pointer (some ⟨c1,0,none⟩),.pointer (some ⟨c2,0,none⟩)] W fun e w'=>Post w0 W g ts en (one (leftL ts q)) (fun v w' x=>stV w' W.heap.size v x) e w') :
 Calls Tryz.prog 135 #[.pointer (some ⟨g,0,none⟩),.string s,.int .i64 kd,.func (.func 133) #[] #[.pointer (some ⟨c1,0,none⟩),.pointer (some ⟨c2,0,none⟩)]] w fun e w'=>Post w0 w g ts en (rowP s.data.toList kd one (leftL ts p)) (fun v w' x=>stV w' w.heap.size v x) e w':=by
 have hgw:=z00.mk hI.lt;have h0w:=z00.mk hB.size;have hnt:=z00.mk (show ts.length≤20000 by obtain⟨A,c,hb,hg,hr,h1,h2⟩:=hI;exact h2);have HO:=hone w p (z0v.refl w g none) hI hB;obtain⟨r,hr⟩:∃r,rowP s.data.toList kd one (leftL ts p)=r:=⟨_,rfl⟩
 rw[hr];have HA:=z00.mk (show r=bnd (one (leftL ts p)) fun x r=>rowL s.data.toList kd one r.length x r by rw[←hr];rfl);obtain⟨rq,hrq⟩:∃rq,one (leftL ts p)=rq:=⟨_,rfl⟩
 rw[hrq]at HO HA;have HRQ:=z00.mk hrq;have HONE:=z00.mk hone;have HO:=z00.mk HO;clear hr hrq hone hI hB;go_enter Tryz.func135,Tryz.ntmps135
 go_wp2_with fail
 refine HO.out.mono ?_;intro e w1 hp;rcases hp.split with ⟨y,p1,v,rfl,rfl,hv,R,B,K⟩|⟨q,i,p1,rfl,h1,h2,rfl,R,B,K⟩
 case inr=>exact⟨rfl,Post.as HA.out (Post.thrown_ h1 h2 R B K)⟩
 have HQ:=z00.mk (show r=rowL s.data.toList kd one (leftL ts p1).length y (leftL ts p1)from HA.out);rw[z13]at HQ;have hlen0:y.length+(ts.length - p1)≤20000:=by
  have e1:=hsz _ _ _ HRQ.out;have e3:=hnt.out;rw[z13,z13]at e1;omega
 have HM:=z00.mk (show PM w0 w w1 g ts en p1 y v from⟨R,B,K,hv,h0w.out,hgw.out⟩);clear R B K hp hv HO HA HRQ;go_wp2
 go_loopg [9] (ts.length+1 - p1) (fun kq v9 w'=>∃(acc:List StS) (p' n:Nat) (u:Value),v9=u∧kq=ts.length+1 - p'∧ts.length - p'≤n∧acc.length+(ts.length - p')≤20000∧z00 (r=rowL s.data.toList kd one n acc (leftL ts p'))∧z00 (PM w0 w w' g ts en p' acc u))
 case atStart=>exact⟨y,p1,_,_,rfl,rfl,Nat.le_refl _,hlen0,HQ,HM⟩
 case round =>
  clear HQ HM hlen0;obtain⟨acc,p',n,u,rfl,rfl,hn,hlen0,HQ,HM⟩:=hrel;have HLEN:=z00.mk (And.intro hn hlen0);clear hn hlen0;have HPL:=z00.mk HM.out.R.le;obtain⟨A,c,rfl⟩:=Kd.R_slice HM.out.own;have HS:=z00.mk (z1o w0 wr g ts p' en s HM.out.R HM.out.B);rw[z1q]at HS
  cases hm:mk0 (leftL ts p') s.data.toList with
  |false =>
   rw[hm]at HS;replace HQ := z00.mk (show r=.ok (acc,leftL ts p') by
    rw[HQ.out]
    cases n with
    |zero=>rfl
    |succ n=>simp only[rowL];rw[if_neg (by rw[hm];simp)])
   go_wp2_with fail
   refine HS.out.mono ?_;rintro e w2 ⟨rfl,R,B,K⟩;simp only[Bool.false_eq_true,if_false]at R;replace HM:=z00.mk (HM.out.call R B K);clear R B K HS;go_wp2
   go_ret
   exact⟨HM.out.B,HM.out.K,p',HM.out.R,by rw[HQ.out];exact⟨rfl,_,rfl,HM.out.own⟩⟩
  |true =>
   rw[hm]at HS;have hlt:=z5b hm;obtain⟨n,rfl⟩:∃m,n=m+1:=⟨n - 1,by have:=HLEN.out.1;omega⟩
   replace HQ := z00.mk (show r=bnd (one (leftL ts (p'+1))) fun x r=>rowL s.data.toList kd one n (acc++x++[stepS kd]) r by
    rw[HQ.out];simp only[rowL];rw[if_pos hm,z0y])
   go_wp2_with fail
   refine HS.out.mono ?_;rintro e w2 ⟨rfl,R,B,K⟩;simp only[if_true]at R;replace HM:=z00.mk (HM.out.call R B K);clear R B K HS;have HO:=HONE.out w2 (p'+1) HM.out.K HM.out.R HM.out.B;obtain⟨rq,hrq⟩:∃rq,one (leftL ts (p'+1))=rq:=⟨_,rfl⟩
   rw[hrq]at HO HQ;have HRQ:=z00.mk hrq;have HO:=z00.mk HO;clear hrq
   go_wp2_with fail
   refine HO.out.mono ?_;intro e w3 hp;rcases hp.split with ⟨y,p2,v,rfl,rfl,hv,R,B,K⟩|⟨q,i,p2,rfl,h1,h2,rfl,R,B,K⟩
   case inr=>exact⟨rfl,Post.as HQ.out (Post.thrown_ h1 h2 R B (HM.out.K.trans K (.inl rfl)))⟩
   replace HQ:=z00.mk (show r=rowL s.data.toList kd one n (acc++y++[stepS kd]) (leftL ts p2)from HQ.out);have hf1:p'+1<p2:=by
    obtain⟨u,e1,e2,_⟩:=hloc _ _ _ HRQ.out;have e3:=congrArg List.length e1;have e4:=R.le;rw[List.length_append,z13,z13]at e3;omega
   have hf2:acc.length+y.length+1+(ts.length - p2)≤20000:=by
    have e1:=hsz _ _ _ HRQ.out;have e3:=HLEN.out.2;rw[z13,z13]at e1;omega
   have hf3:ts.length - p2≤n:=by have:=HLEN.out.1;omega
   have HFA:=z00.mk (And.intro hf1 (And.intro hf2 hf3));have hw2:w2.heap.size≤w3.heap.size:=K.1;have HV:=z00.mk (Kd.R_bound hv);have HW2:=z00.mk (HM.out.K.1);have HLT:=z00.mk (Kd.R_lt HM.out.own);replace HM:=z00.mk (HM.out.call R B K);obtain⟨A2,c2',rfl⟩:=Kd.R_slice hv;clear R B K hp hv HO HRQ hf1 hf2 hf3 hlt hm HLEN HPL;have hl1:acc.length+y.length≤20000:=by have:=HFA.out.2.1;omega
   go_wp2_with ((with_reducible refine z23 (b:=.append) (xs:=#[.tmp 15,.tmp 17]) rfl ?_);at_builtin;refine Kd.R_append_rows k69 (w0:=w3) w.heap.size rfl (.tmp 15) (.tmp 17) 37 69 (.agg #[(.int .i64 0),(.string ⟨#[]⟩)]) 24 rfl Tryz.underlying37 z3x rfl (by decide) (by decide) (.slice A acc.length c) acc y A2 y.length c2' (fun k=>w.heap.size≤k) (fun _=>False) rfl rfl HM.out.own (Kd.R_reads' HV.out).2.2 (fun x cs hx=>by rw[zar hx];exact z4e _ _ _ x) (fun _ hk=>hk.elim) (fun k hk=>Nat.le_trans HM.out.K.1 hk) (Below.refl _ _) HM.out.K.1 (by have:=hl1;omega) ?_;intro v1 w4 ho hb hg hat;have HM3:=z00.mk (HM.out.more ho hb hg);clear ho hb hg hat)
   have HM:=HM3;clear HM3;obtain⟨A3,c3,e3⟩:=Kd.R_slice HM.out.own;rw[List.length_append]at e3;subst e3;have HG:=z00.mk (fun W=>z2p kd W);refine(HG.out _).mono ?_;rintro e ws ⟨rfl,d⟩;replace HM:=z00.mk (HM.out.below d);clear d;have hl2:(acc++y).length≤20000:=by rw[List.length_append];exact hl1
   go_wp2_with ((with_reducible refine z23 (b:=.append) (xs:=#[.tmp 18,.tmp 21]) rfl ?_);at_builtin;refine Kd.R_append k69 (w0:=ws) w.heap.size rfl (.tmp 18) (.tmp 21) 37 69 (.agg #[(.int .i64 0),(.string ⟨#[]⟩)]) 24 rfl Tryz.underlying37 z3x rfl (by decide) (by decide) (.slice A3 (acc.length+y.length) c3) (acc++y) (stepS kd) [.int .i64 kd,.string ⟨#[]⟩] (fun k=>w.heap.size≤k) (fun _=>False) rfl zA0t (z4e _ _ _ (stepS kd)) (fun _ hk=>hk.elim) (fun k hk=>Nat.le_trans HM.out.K.1 hk) HM.out.own (Below.refl _ _) HM.out.K.1 (by have:=hl2;omega) ?_;intro v2 w5 ho hb hg hat;have HM4:=z00.mk (HM.out.more ho hb hg);clear ho hb hg hat)
   go_roundg (ts.length+1 - p2)
   case rel=>exact⟨acc++y++[stepS kd],p2,n,v2,rfl,rfl,HFA.out.2.2,by rw[List.length_append,List.length_append,List.length_singleton];exact HFA.out.2.1,HQ,HM4⟩
   case measure=>have:=HFA.out.1;have:=HM4.out.R.le;omega
set_option maxHeartbeats 4000000 in
set_option maxRecDepth 100000 in
theorem zf2 (w0 w:World) (g:Nat) (ts:List S108) (p:Nat) (en:Int) (s:ByteArray) (kd:Int) (one:Prs (List StS)) (c1 c2:Nat) (hloc:Loc 1 one) (hsz:Sz one) (hI:Rd w0 w g ts p en) (hB:Below w0.heap.size w0 w)
 (hone:∀(W:World) (q:Nat),z0v w W g none→Rd w0 W g ts q en→Below w0.heap.size w0 W→Calls Tryz.prog 136 #[.pointer (some ⟨c1,0,none⟩),.pointer (some ⟨c2,0,none⟩)] W fun e w'=>Post w0 W g ts en (one (leftL ts q)) (fun v w' x=>stV w' W.heap.size v x) e w') :
 Calls Tryz.prog 135 #[.pointer (some ⟨g,0,none⟩),.string s,.int .i64 kd,.func (.func 136) #[] #[.pointer (some ⟨c1,0,none⟩),.pointer (some ⟨c2,0,none⟩)]] w fun e w'=>Post w0 w g ts en (rowP s.data.toList kd one (leftL ts p)) (fun v w' x=>stV w' w.heap.size v x) e w':=by
 have hgw:=z00.mk hI.lt;have h0w:=z00.mk hB.size;have hnt:=z00.mk (show ts.length≤20000 by obtain⟨A,c,hb,hg,hr,h1,h2⟩:=hI;exact h2);have HO:=hone w p (z0v.refl w g none) hI hB;obtain⟨r,hr⟩:∃r,rowP s.data.toList kd one (leftL ts p)=r:=⟨_,rfl⟩
 rw[hr];have HA:=z00.mk (show r=bnd (one (leftL ts p)) fun x r=>rowL s.data.toList kd one r.length x r by rw[←hr];rfl);obtain⟨rq,hrq⟩:∃rq,one (leftL ts p)=rq:=⟨_,rfl⟩
 rw[hrq]at HO HA;have HRQ:=z00.mk hrq;have HONE:=z00.mk hone;have HO:=z00.mk HO;clear hr hrq hone hI hB;go_enter Tryz.func135,Tryz.ntmps135
 go_wp2_with fail
 refine HO.out.mono ?_;intro e w1 hp;rcases hp.split with ⟨y,p1,v,rfl,rfl,hv,R,B,K⟩|⟨q,i,p1,rfl,h1,h2,rfl,R,B,K⟩
 case inr=>exact⟨rfl,Post.as HA.out (Post.thrown_ h1 h2 R B K)⟩
 have HQ:=z00.mk (show r=rowL s.data.toList kd one (leftL ts p1).length y (leftL ts p1)from HA.out);rw[z13]at HQ;have hlen0:y.length+(ts.length - p1)≤20000:=by
  have e1:=hsz _ _ _ HRQ.out;have e3:=hnt.out;rw[z13,z13]at e1;omega
 have HM:=z00.mk (show PM w0 w w1 g ts en p1 y v from⟨R,B,K,hv,h0w.out,hgw.out⟩);clear R B K hp hv HO HA HRQ;go_wp2
 go_loopg [9] (ts.length+1 - p1) (fun kq v9 w'=>∃(acc:List StS) (p' n:Nat) (u:Value),v9=u∧kq=ts.length+1 - p'∧ts.length - p'≤n∧acc.length+(ts.length - p')≤20000∧z00 (r=rowL s.data.toList kd one n acc (leftL ts p'))∧z00 (PM w0 w w' g ts en p' acc u))
 case atStart=>exact⟨y,p1,_,_,rfl,rfl,Nat.le_refl _,hlen0,HQ,HM⟩
 case round =>
  clear HQ HM hlen0;obtain⟨acc,p',n,u,rfl,rfl,hn,hlen0,HQ,HM⟩:=hrel;have HLEN:=z00.mk (And.intro hn hlen0);clear hn hlen0;have HPL:=z00.mk HM.out.R.le;obtain⟨A,c,rfl⟩:=Kd.R_slice HM.out.own;have HS:=z00.mk (z1o w0 wr g ts p' en s HM.out.R HM.out.B);rw[z1q]at HS
  cases hm:mk0 (leftL ts p') s.data.toList with
  |false =>
   rw[hm]at HS;replace HQ := z00.mk (show r=.ok (acc,leftL ts p') by
    rw[HQ.out]
    cases n with
    |zero=>rfl
    |succ n=>simp only[rowL];rw[if_neg (by rw[hm];simp)])
   go_wp2_with fail
   refine HS.out.mono ?_;rintro e w2 ⟨rfl,R,B,K⟩;simp only[Bool.false_eq_true,if_false]at R;replace HM:=z00.mk (HM.out.call R B K);clear R B K HS;go_wp2
   go_ret
   exact⟨HM.out.B,HM.out.K,p',HM.out.R,by rw[HQ.out];exact⟨rfl,_,rfl,HM.out.own⟩⟩
  |true =>
   rw[hm]at HS;have hlt:=z5b hm;obtain⟨n,rfl⟩:∃m,n=m+1:=⟨n - 1,by have:=HLEN.out.1;omega⟩
   replace HQ := z00.mk (show r=bnd (one (leftL ts (p'+1))) fun x r=>rowL s.data.toList kd one n (acc++x++[stepS kd]) r by
    rw[HQ.out];simp only[rowL];rw[if_pos hm,z0y])
   go_wp2_with fail
   refine HS.out.mono ?_;rintro e w2 ⟨rfl,R,B,K⟩;simp only[if_true]at R;replace HM:=z00.mk (HM.out.call R B K);clear R B K HS;have HO:=HONE.out w2 (p'+1) HM.out.K HM.out.R HM.out.B;obtain⟨rq,hrq⟩:∃rq,one (leftL ts (p'+1))=rq:=⟨_,rfl⟩
   rw[hrq]at HO HQ;have HRQ:=z00.mk hrq;have HO:=z00.mk HO;clear hrq
   go_wp2_with fail
   refine HO.out.mono ?_;intro e w3 hp;rcases hp.split with ⟨y,p2,v,rfl,rfl,hv,R,B,K⟩|⟨q,i,p2,rfl,h1,h2,rfl,R,B,K⟩
   case inr=>exact⟨rfl,Post.as HQ.out (Post.thrown_ h1 h2 R B (HM.out.K.trans K (.inl rfl)))⟩
   replace HQ:=z00.mk (show r=rowL s.data.toList kd one n (acc++y++[stepS kd]) (leftL ts p2)from HQ.out);have hf1:p'+1<p2:=by
    obtain⟨u,e1,e2,_⟩:=hloc _ _ _ HRQ.out;have e3:=congrArg List.length e1;have e4:=R.le;rw[List.length_append,z13,z13]at e3;omega
   have hf2:acc.length+y.length+1+(ts.length - p2)≤20000:=by
    have e1:=hsz _ _ _ HRQ.out;have e3:=HLEN.out.2;rw[z13,z13]at e1;omega
   have hf3:ts.length - p2≤n:=by have:=HLEN.out.1;omega
   have HFA:=z00.mk (And.intro hf1 (And.intro hf2 hf3));have hw2:w2.heap.size≤w3.heap.size:=K.1;have HV:=z00.mk (Kd.R_bound hv);have HW2:=z00.mk (HM.out.K.1);have HLT:=z00.mk (Kd.R_lt HM.out.own);replace HM:=z00.mk (HM.out.call R B K);obtain⟨A2,c2',rfl⟩:=Kd.R_slice hv;clear R B K hp hv HO HRQ hf1 hf2 hf3 hlt hm HLEN HPL;have hl1:acc.length+y.length≤20000:=by have:=HFA.out.2.1;omega
   go_wp2_with ((with_reducible refine z23 (b:=.append) (xs:=#[.tmp 15,.tmp 17]) rfl ?_);at_builtin;refine Kd.R_append_rows k69 (w0:=w3) w.heap.size rfl (.tmp 15) (.tmp 17) 37 69 (.agg #[(.int .i64 0),(.string ⟨#[]⟩)]) 24 rfl Tryz.underlying37 z3x rfl (by decide) (by decide) (.slice A acc.length c) acc y A2 y.length c2' (fun k=>w.heap.size≤k) (fun _=>False) rfl rfl HM.out.own (Kd.R_reads' HV.out).2.2 (fun x cs hx=>by rw[zar hx];exact z4e _ _ _ x) (fun _ hk=>hk.elim) (fun k hk=>Nat.le_trans HM.out.K.1 hk) (Below.refl _ _) HM.out.K.1 (by have:=hl1;omega) ?_;intro v1 w4 ho hb hg hat;have HM3:=z00.mk (HM.out.more ho hb hg);clear ho hb hg hat)
   have HM:=HM3;clear HM3;obtain⟨A3,c3,e3⟩:=Kd.R_slice HM.out.own;rw[List.length_append]at e3;subst e3;have HG:=z00.mk (fun W=>z2p kd W);refine(HG.out _).mono ?_;rintro e ws ⟨rfl,d⟩;replace HM:=z00.mk (HM.out.below d);clear d;have hl2:(acc++y).length≤20000:=by rw[List.length_append];exact hl1
   go_wp2_with ((with_reducible refine z23 (b:=.append) (xs:=#[.tmp 18,.tmp 21]) rfl ?_);at_builtin;refine Kd.R_append k69 (w0:=ws) w.heap.size rfl (.tmp 18) (.tmp 21) 37 69 (.agg #[(.int .i64 0),(.string ⟨#[]⟩)]) 24 rfl Tryz.underlying37 z3x rfl (by decide) (by decide) (.slice A3 (acc.length+y.length) c3) (acc++y) (stepS kd) [.int .i64 kd,.string ⟨#[]⟩] (fun k=>w.heap.size≤k) (fun _=>False) rfl zA0t (z4e _ _ _ (stepS kd)) (fun _ hk=>hk.elim) (fun k hk=>Nat.le_trans HM.out.K.1 hk) HM.out.own (Below.refl _ _) HM.out.K.1 (by have:=hl2;omega) ?_;intro v2 w5 ho hb hg hat;have HM4:=z00.mk (HM.out.more ho hb hg);clear ho hb hg hat)
   go_roundg (ts.length+1 - p2)
   case rel=>exact⟨acc++y++[stepS kd],p2,n,v2,rfl,rfl,HFA.out.2.2,by rw[List.length_append,List.length_append,List.length_singleton];exact HFA.out.2.1,HQ,HM4⟩
   case measure=>have:=HFA.out.1;have:=HM4.out.R.le;omega
set_option maxRecDepth 100000 in
theorem zd1 (w0 w:World) (g:Nat) (ts:List S108) (p:Nat) (en:Int) (d:Nat) (hd:d≤32) (c1 c2:Nat) (h1:w.heap[c1]?=some (.cells #[.pointer (some ⟨g,0,none⟩)] 92 (0,0))) (h2:w.heap[c2]?=some (.cells #[.int .i64 (32 - (d:Int))] 3 (0,0))) (hI:Rd w0 w g ts p en) (hB:Below w0.heap.size w0 w) (hin:∀d',d=d'+1→PathC w0 g ts en d') :
 Calls Tryz.prog 133 #[.pointer (some ⟨c1,0,none⟩),.pointer (some ⟨c2,0,none⟩)] w fun e w'=>Post w0 w g ts en (partP d (leftL ts p)) (fun v w' x=>stV w' w.heap.size v x) e w':=by
 have HP:=zei w0 w g ts p en d hd hI hB hin;have hc1:w.cell? ⟨c1,0,none⟩=some (.pointer (some ⟨g,0,none⟩)):=(z01 h1 0).trans rfl;have hc2:w.cell? ⟨c2,0,none⟩=some (.int .i64 (32 - (d:Int))):=(z01 h2 0).trans rfl;obtain⟨op,hop⟩:∃op,(32:Int) - (d:Int)=op:=⟨_,rfl⟩
 rw[hop]at hc2 HP;obtain⟨r,hr⟩:∃r,partP d (leftL ts p)=r:=⟨_,rfl⟩
 rw[hr]at HP ⊢;have HP:=z00.mk HP;clear hI hB hin h1 h2 hop hr;go_enter Tryz.func133,Tryz.ntmps133
 go_wp2_with fail
 refine HP.out.mono ?_;intro e w2 hp;rcases hp.split with ⟨y,p',v,rfl,rfl,hv,R,B,K⟩|⟨q,i,p',rfl,h1,h2,rfl,R,B,K⟩
 · have HV:=z00.mk hv;have HR:=z00.mk (And.intro R (And.intro B K));clear hv R B K hp;go_wp2
   go_ret
   exact⟨HR.out.2.1,HR.out.2.2,p',HR.out.1,rfl,_,rfl,HV.out⟩
 · exact⟨rfl,Post.thrown_ h1 h2 R B K⟩
set_option maxRecDepth 100000 in
theorem zcx (w0 w:World) (g:Nat) (ts:List S108) (p:Nat) (en:Int) (d:Nat) (hd:d≤32) (c1 c2 c5:Nat) (h1:w.heap[c1]?=some (.cells #[.pointer (some ⟨g,0,none⟩)] 92 (0,0))) (h2:w.heap[c2]?=some (.cells #[.int .i64 (32 - (d:Int))] 3 (0,0)))
 (h5:w.heap[c5]?=some (.cells #[.func (.func 133) #[] #[.pointer (some ⟨c1,0,none⟩),.pointer (some ⟨c2,0,none⟩)]] 113 (0,0))) (n1:c1≠g) (n2:c2≠g) (hI:Rd w0 w g ts p en) (hB:Below w0.heap.size w0 w) (hin:∀d',d=d'+1→PathC w0 g ts en d') :
 Calls Tryz.prog 136 #[.pointer (some ⟨c1,0,none⟩),.pointer (some ⟨c5,0,none⟩)] w fun e w'=>Post w0 w g ts en (rowP [47] 3 (partP d) (leftL ts p)) (fun v w' x=>stV w' w.heap.size v x) e w':=by
 have HP:Calls Tryz.prog 135 #[.pointer (some ⟨g,0,none⟩),.string ⟨#[47]⟩,.int .i64 3,.func (.func 133) #[] #[.pointer (some ⟨c1,0,none⟩),.pointer (some ⟨c2,0,none⟩)]] w fun e w'=>Post w0 w g ts en (rowP [47] 3 (partP d) (leftL ts p)) (fun v w' x=>stV w' w.heap.size v x) e w' :=
  zer w0 w g ts p en ⟨#[47]⟩ 3 (partP d) c1 c2 (zai d) (zal d) hI hB (fun W q hk hr hb=>zd1 w0 W g ts q en d hd c1 c2 (hk.blk h1 n1 (by simp)) (hk.blk h2 n2 (by simp)) hr hb hin)
 have hc1:w.cell? ⟨c1,0,none⟩=some (.pointer (some ⟨g,0,none⟩)):=(z01 h1 0).trans rfl;have hc5:w.cell? ⟨c5,0,none⟩=some (.func (.func 133) #[] #[.pointer (some ⟨c1,0,none⟩),.pointer (some ⟨c2,0,none⟩)]):=(z01 h5 0).trans rfl;obtain⟨r,hr⟩:∃r,rowP [47] 3 (partP d) (leftL ts p)=r:=⟨_,rfl⟩
 rw[hr]at HP ⊢;have HP:=z00.mk HP;clear hI hB hin h1 h2 h5 hr;go_enter Tryz.func136,Tryz.ntmps136
 go_wp2_with fail
 refine HP.out.mono ?_;intro e w2 hp;rcases hp.split with ⟨y,p',v,rfl,rfl,hv,R,B,K⟩|⟨q,i,p',rfl,h1,h2,rfl,R,B,K⟩
 · have HV:=z00.mk hv;have HR:=z00.mk (And.intro R (And.intro B K));clear hv R B K hp;go_wp2
   go_ret
   exact⟨HR.out.2.1,HR.out.2.2,p',HR.out.1,rfl,_,rfl,HV.out⟩
 · exact⟨rfl,Post.thrown_ h1 h2 R B K⟩
set_option maxRecDepth 100000 in
theorem zc5 (w0:World) (g:Nat) (ts:List S108) (en:Int) (d:Nat) (hd:d≤32) (hin:∀d',d=d'+1→PathC w0 g ts en d'):PathC w0 g ts en d:=by
 intro w p hI hB;have hmf:∀(fn:Fn) (first cap:Array Value) (w:World),(Instr.makeFunc fn first cap).run Tryz.prog w=.ok (.func fn first cap) w:=fun _ _ _ _=>rfl
 have hst:∀(a:Addr) (fn:Fn) (first cap:Array Value) (m:Mode) (w:World),(store a (.func fn first cap) m).run Tryz.prog w=stored Tryz.prog w a (.func fn first cap) m:=fun _ _ _ _ _ _=>run_store _ _ _ _ _ rfl
 obtain⟨op,hop⟩:∃op,(32:Int) - (d:Int)=op:=⟨_,rfl⟩
 obtain⟨c1,ec1⟩:∃n,w.heap.size=n:=⟨_,rfl⟩
 have hg:=hI.lt;have h0:=hB.size;have hz1:(w.alloc (.cells #[.pointer (some ⟨g,0,none⟩)] 92)).heap.size=c1+1:=by simp[ec1]
 have hz2:((w.alloc (.cells #[.pointer (some ⟨g,0,none⟩)] 92)).alloc (.cells #[.int .i64 op] 3)).heap.size=c1+2:=by simp[ec1]
 have hb0:=zd4 w (.cells #[.pointer (some ⟨g,0,none⟩)] 92) (.cells #[.int .i64 op] 3) (.cells #[.nilFunc] 113);rw[ec1]at hb0;have hc5:(((w.alloc (.cells #[.pointer (some ⟨g,0,none⟩)] 92)).alloc (.cells #[.int .i64 op] 3)).alloc (.cells #[.nilFunc] 113)).cell? ⟨c1+2,0,none⟩=some .nilFunc:=(z01 hb0.2.2 0).trans rfl;have hf5:=z03 hb0.2.2 0;have hb:=zd4 w (.cells #[.pointer (some ⟨g,0,none⟩)] 92) (.cells #[.int .i64 op] 3) (.cells #[.func (.func 133) #[] #[.pointer (some ⟨c1,0,none⟩),.pointer (some ⟨c1+1,0,none⟩)]] 113);rw[ec1]at hb;obtain⟨W,hW⟩:∃W,((w.alloc (.cells #[.pointer (some ⟨g,0,none⟩)] 92)).alloc (.cells #[.int .i64 op] 3)).alloc (.cells #[.func (.func 133) #[] #[.pointer (some ⟨c1,0,none⟩),.pointer (some ⟨c1+1,0,none⟩)]] 113)=W:=⟨_,rfl⟩
 have hIW:Rd w0 W g ts p en:=hW ▸ ((hI.alloc _).alloc _).alloc _;have hBW:Below w0.heap.size w0 W:=hW ▸ z04 (z04 (z04 hB _) _) _;have hKW:z0v w W g none:=hW ▸ z1s (z1s (z1s (z0v.refl w g none) _) _) _;rw[hW]at hb;rw[←hop]at hb;have HP:Calls Tryz.prog 135 #[.pointer (some ⟨g,0,none⟩),.string ⟨#[124]⟩,.int .i64 4,.func (.func 136) #[] #[.pointer (some ⟨c1,0,none⟩),.pointer (some ⟨c1+2,0,none⟩)]] W fun e w'=>Post w0 W g ts en (pathP d (leftL ts p)) (fun v w' x=>stV w' W.heap.size v x) e w' :=
  zf2 w0 W g ts p en ⟨#[124]⟩ 4 (rowP [47] 3 (partP d)) c1 (c1+2) (zdh (zai d)) (zfi (zal d)) hIW hBW (fun V q hk hr hb'=>zcx w0 V g ts q en d hd c1 (c1+1) (c1+2) (hk.blk hb.1 (by omega) (by simp)) (hk.blk hb.2.1 (by omega) (by simp)) (hk.blk hb.2.2 (by omega) (by simp)) (by omega) (by omega) hr hb' hin)
 obtain⟨r,hr⟩:∃r,pathP d (leftL ts p)=r:=⟨_,rfl⟩
 rw[hr]at HP ⊢;have HP:=z00.mk HP;have HKW:=z00.mk hKW;have hcW:W.cell? ⟨c1,0,none⟩=some (.pointer (some ⟨g,0,none⟩)):=(z01 hb.1 0).trans rfl;rw[hop];have HW:=z00.mk hW;clear hI hB hin hb hb0 hIW hBW hKW hr hop hW;go_enter Tryz.func104,Tryz.ntmps104
 go_wp2_with fail
 rw[HW.out];refine HP.out.mono ?_;intro e w2 hp;rcases hp.split with ⟨y,p',v,rfl,rfl,hv,R,B,K⟩|⟨q,i,p',rfl,h1,h2,rfl,R,B,K⟩
 · have HV:=z00.mk (show stV w2 w.heap.size v y from Kd.R_mono (Kd.R_lower hv HKW.out.1) (fun k hk=>Nat.le_trans HKW.out.1 hk));have HR:=z00.mk (And.intro R (And.intro B (HKW.out.trans K (.inl rfl))));clear hv R B K hp;go_wp2
   go_ret
   exact⟨HR.out.2.1,HR.out.2.2,p',HR.out.1,rfl,_,rfl,HV.out⟩
 · exact⟨rfl,Post.thrown_ h1 h2 R B (HKW.out.trans K (.inl rfl))⟩
theorem z9z (w0:World) (g:Nat) (ts:List S108) (en:Int):∀d,d≤32→PathC w0 g ts en d
 |0,hd=>zc5 w0 g ts en 0 hd (fun d' h=>by omega)
 | d + 1, hd => zc5 w0 g ts en (d + 1) hd (fun d' h=>by
  obtain rfl:d=d':=by omega
  exact z9z w0 g ts en d (by omega))

set_option maxRecDepth 100000 in
theorem zcu (w0 w:World) (g:Nat) (ts:List S108) (p:Nat) (en:Int) (hI:Rd w0 w g ts p en) (hB:Below w0.heap.size w0 w) :
 Calls Tryz.prog 66 #[.pointer (some ⟨g,0,none⟩)] w fun e w'=>Post w0 w g ts en (zc2 (leftL ts p)) (fun v w' x=>stV w' w.heap.size v x) e w':=by
 have hple:=z00.mk hI.le;have HS:=z00.mk (z2a w0 w g ts p en 0 (by omega) hI hB);rw[Nat.add_zero]at HS;obtain⟨r,hr⟩:∃r,zc2 (leftL ts p)=r:=⟨_,rfl⟩
 rw[hr];obtain⟨rq,hrq⟩:∃rq,pathP 32 (leftL ts p)=rq:=⟨_,rfl⟩
 have HA:=z00.mk (show r=bnd rq fun x r=>if 100<x.length then .error ((leftL ts p).length,4)else .ok (x,r) by rw[←hr,←hrq];rfl);have HRQ:=z00.mk hrq;have hfd:∀w:World,(Instr.field 108 (.agg #[.int .i64 (seeP ts en p).f0,.string (seeP ts en p).f1,.int .i64 (seeP ts en p).f2]) 2).run Tryz.prog w=.ok (.int .i64 (seeP ts en p).f2) w:=fun _=>by kernel_rfl
 obtain⟨x,hx⟩:∃x,seeP ts en p=x:=⟨_,rfl⟩
 rw[hx]at HS hfd;have HX:=z00.mk hx;clear hI hB hr hrq hx;go_enter Tryz.func66,Tryz.ntmps66
 go_wp2_with fail
 refine HS.out.mono ?_;rintro e w1 ⟨rfl,R,B,K⟩;have HP:Calls Tryz.prog 104 #[.pointer (some ⟨g,0,none⟩),.int .i64 0] w1 fun e w'=>Post w0 w1 g ts en (pathP 32 (leftL ts p)) (fun v w' x=>stV w' w1.heap.size v x) e w':=z9z w0 g ts en 32 (Nat.le_refl _) w1 p R B
 rw[HRQ.out]at HP;have HP:=z00.mk HP;have hK:=z00.mk K;clear R B K HS HRQ
 go_wp2_with fail
 refine HP.out.mono ?_;intro e w2 hp;rcases hp.split with ⟨y,p',v,rfl,rfl,hv,R,B,K⟩|⟨q,i,p',rfl,h1,h2,rfl,R,B,K⟩
 case inr=>exact⟨rfl,Post.as HA.out (Post.thrown_ h1 h2 R B (hK.out.trans K (.inl rfl)))⟩
 have hw1:=hK.out.1;have HV:=z00.mk (show stV w2 w.heap.size v y from Kd.R_mono (Kd.R_lower hv hw1) (fun k hk=>Nat.le_trans hw1 hk));have HR:=z00.mk (And.intro R (And.intro B (hK.out.trans K (.inl rfl))));obtain⟨A,c,rfl⟩:=Kd.R_slice hv;clear hv R B K hp HP
 by_cases hl:100<y.length
 · have hlz:decide ((100:Int)<(y.length:Int))=true:=decide_eq_true (by omega);replace HA:=z00.mk (show r=.error ((leftL ts p).length,4) by rw[HA.out];show(if 100<y.length then _ else _)=_;rw[if_pos hl]);go_wp2;refine⟨rfl,Post.as HA.out ⟨HR.out.2.1,HR.out.2.2,p',HR.out.1,p,hple.out,(z13 ts p).symm,?_⟩⟩;rw[HX.out];rfl
 · have hlz:decide ((100:Int)<(y.length:Int))=false:=decide_eq_false (by omega);replace HA:=z00.mk (show r=.ok (y,leftL ts p') by rw[HA.out];show(if 100<y.length then _ else _)=_;rw[if_neg hl]);go_wp2
   go_ret
   exact Post.as HA.out ⟨HR.out.2.1,HR.out.2.2,p',HR.out.1,rfl,_,rfl,HV.out⟩
set_option maxRecDepth 100000 in
theorem z3l (w0 w:World) (g:Nat) (ts:List S108) (p:Nat) (en:Int) (hI:Rd w0 w g ts p en) (hB:Below w0.heap.size w0 w) :
 Calls Tryz.prog 148 #[.pointer (some ⟨g,0,none⟩)] w fun e w'=>e=.returned (.bool (z2q (leftL ts p)))∧Rd w0 w' g ts p en∧Below w0.heap.size w0 w'∧z0v w w' g none:=by
 have HM:=z00.mk (fun(s:ByteArray) (W:World) (h1:Rd w0 W g ts p en) (h2:Below w0.heap.size w0 W)=>z6b w0 W g ts p en 1 s (by omega) h1 h2);simp only[z1q]at HM;have hv:z2q (leftL ts p)=(mk0 (leftL ts (p+1)) [60]||(mk0 (leftL ts (p+1)) [60,61]||(mk0 (leftL ts (p+1)) [61]||mk0 (leftL ts (p+1)) [33,61]))):=by
  unfold z2q mk1;rw[z0y]
 rw[hv];clear hv;have h0:=HM.out ⟨#[60]⟩ w hI hB;clear hI hB;rw[show((⟨#[60]⟩:ByteArray).data.toList)=[60]from rfl]at h0;have H0:=z00.mk h0;clear h0
 cases m0:mk0 (leftL ts (p+1)) [60]with
 |true =>
  rw[m0]at H0;go_enter Tryz.func148,Tryz.ntmps148
  go_wp2_with fail
  refine H0.out.mono ?_;rintro e w1 ⟨rfl,R,B,K⟩;have HR:=z00.mk (And.intro R (And.intro B K));clear R B K;go_wp2
  go_ret
  exact⟨rfl,HR.out⟩
 |false =>
  rw[m0]at H0
  cases m1:mk0 (leftL ts (p+1)) [60,61]with
  |true =>
   go_enter Tryz.func148,Tryz.ntmps148
   go_wp2_with fail
   refine H0.out.mono ?_;rintro e w1 ⟨rfl,R,B,K⟩;have h1:=HM.out ⟨#[60,61]⟩ w1 R B;rw[show((⟨#[60,61]⟩:ByteArray).data.toList)=[60,61]from rfl,m1]at h1;have H1:=z00.mk h1;have HK:=z00.mk K;clear R B K h1
   go_wp2_with fail
   refine H1.out.mono ?_;rintro e w2 ⟨rfl,R,B,K⟩;have HR:=z00.mk (And.intro R (And.intro B (HK.out.trans K (.inl rfl))));clear R B K;go_wp2
   go_ret
   exact⟨rfl,HR.out⟩
  |false =>
   cases m2:mk0 (leftL ts (p+1)) [61]with
   |true =>
    go_enter Tryz.func148,Tryz.ntmps148
    go_wp2_with fail
    refine H0.out.mono ?_;rintro e w1 ⟨rfl,R,B,K⟩;have h1:=HM.out ⟨#[60,61]⟩ w1 R B;rw[show((⟨#[60,61]⟩:ByteArray).data.toList)=[60,61]from rfl,m1]at h1;have H1:=z00.mk h1;have HK:=z00.mk K;clear R B K h1
    go_wp2_with fail
    refine H1.out.mono ?_;rintro e w2 ⟨rfl,R,B,K⟩;have h1:=HM.out ⟨#[61]⟩ w2 R B;rw[show((⟨#[61]⟩:ByteArray).data.toList)=[61]from rfl,m2]at h1;have H2:=z00.mk h1;replace HK:=z00.mk (HK.out.trans K (.inl rfl));clear R B K h1
    go_wp2_with fail
    refine H2.out.mono ?_;rintro e w3 ⟨rfl,R,B,K⟩;have HR:=z00.mk (And.intro R (And.intro B (HK.out.trans K (.inl rfl))));clear R B K;go_wp2
    go_ret
    exact⟨rfl,HR.out⟩
   |false =>
    obtain⟨m3,hm3⟩:∃m,mk0 (leftL ts (p+1)) [33,61]=m:=⟨_,rfl⟩
    rw[hm3];go_enter Tryz.func148,Tryz.ntmps148
    go_wp2_with fail
    refine H0.out.mono ?_;rintro e w1 ⟨rfl,R,B,K⟩;have h1:=HM.out ⟨#[60,61]⟩ w1 R B;rw[show((⟨#[60,61]⟩:ByteArray).data.toList)=[60,61]from rfl,m1]at h1;have H1:=z00.mk h1;have HK:=z00.mk K;clear R B K h1
    go_wp2_with fail
    refine H1.out.mono ?_;rintro e w2 ⟨rfl,R,B,K⟩;have h1:=HM.out ⟨#[61]⟩ w2 R B;rw[show((⟨#[61]⟩:ByteArray).data.toList)=[61]from rfl,m2]at h1;have H2:=z00.mk h1;replace HK:=z00.mk (HK.out.trans K (.inl rfl));clear R B K h1
    go_wp2_with fail
    refine H2.out.mono ?_;rintro e w3 ⟨rfl,R,B,K⟩;have h1:=HM.out ⟨#[33,61]⟩ w3 R B;rw[show((⟨#[33,61]⟩:ByteArray).data.toList)=[33,61]from rfl,hm3]at h1;have H3:=z00.mk h1;replace HK:=z00.mk (HK.out.trans K (.inl rfl));clear R B K h1
    go_wp2_with fail
    refine H3.out.mono ?_;rintro e w4 ⟨rfl,R,B,K⟩;have HR:=z00.mk (And.intro R (And.intro B (HK.out.trans K (.inl rfl))));clear R B K;go_wp2
    go_ret
    exact⟨by simp,HR.out⟩
def sgnB (s:ByteArray):ByteArray:=⟨(z4n s.data.toList).toArray⟩
set_option maxRecDepth 100000 in
theorem zbp (s:ByteArray) (w:World) :
 Calls Tryz.prog 165 #[.string s] w fun e w'=>e=.returned (.string (sgnB s))∧w'=w:=by
 unfold sgnB;rw[←z3t]
 by_cases h0:s.toList=[112,108,117,115]
 · have hv:z4n s.toList=[43]:=by rw[h0];rfl
   rw[hv];go_enter Tryz.func165,Tryz.ntmps165;go_wp2
   go_ret
   exact⟨rfl,rfl⟩
 have e0:(s.toList==([112,108,117,115]:List UInt8))=false:=beq_eq_false_iff_ne.2 h0
 by_cases h1:s.toList=[109,105,110,117,115]
 · have hv:z4n s.toList=[45]:=by rw[h1];rfl
   rw[hv];go_enter Tryz.func165,Tryz.ntmps165;go_wp2
   go_ret
   exact⟨rfl,rfl⟩
 have e1:(s.toList==([109,105,110,117,115]:List UInt8))=false:=beq_eq_false_iff_ne.2 h1
 by_cases h2:s.toList=[116,105,109,101,115]
 · have hv:z4n s.toList=[42]:=by rw[h2];rfl
   rw[hv];go_enter Tryz.func165,Tryz.ntmps165;go_wp2
   go_ret
   exact⟨rfl,rfl⟩
 have e2:(s.toList==([116,105,109,101,115]:List UInt8))=false:=beq_eq_false_iff_ne.2 h2;have hv:z4n s.toList=[]:=by unfold z4n;rw[if_neg h0,if_neg h1,if_neg h2]
 rw[hv];go_enter Tryz.func165,Tryz.ntmps165;go_wp2
 go_ret
 exact⟨rfl,rfl⟩
theorem zff (ts:List S108) (en:Int) (p:Nat):signP (leftL ts p)=mapR (fun _=>sgnB (seeP ts en p).f1) (nextP (!(sgnB (seeP ts en p).f1).toList.isEmpty) (leftL ts p)):=by
 have hb:∀l:List UInt8,((⟨l.toArray⟩:ByteArray).toList.isEmpty)=l.isEmpty:=fun l=>by rw[z3t]
 rcases Nat.lt_or_ge p ts.length with h|h
 · rw[z3k en h];show(if z4n (seeP ts en p).f1.data.toList=[]then Except.error ((leftL ts (p+1)).length+1,2)else Except.ok ((⟨(z4n (seeP ts en p).f1.data.toList).toArray⟩:ByteArray),leftL ts (p+1)))=_;unfold sgnB;rw[hb]
   cases hs:z4n (seeP ts en p).f1.data.toList with
   |nil=>rfl
   |cons a b=>rfl
 · obtain⟨h1,h2⟩:=z49 en h;rw[h1,h2];rfl
set_option maxRecDepth 100000 in
theorem zel (w0 w:World) (g:Nat) (ts:List S108) (p:Nat) (en:Int) (hI:Rd w0 w g ts p en) (hB:Below w0.heap.size w0 w) :
 Calls Tryz.prog 150 #[.pointer (some ⟨g,0,none⟩)] w fun e w'=>Post w0 w g ts en (signP (leftL ts p)) (fun v _ x=>v=.string x) e w':=by
 have HS:=z00.mk (z2a w0 w g ts p en 0 (by omega) hI hB);rw[Nat.add_zero]at HS;rw[zff ts en p];have HP : z00 ((!(sgnB (seeP ts en p).f1).toList.isEmpty) = true → p < ts.length) := ⟨fun h=>z4y fun e=>by
  have h2:seeP ts en p=⟨0,⟨#[]⟩,en⟩:=by
   rcases Nat.lt_or_ge p ts.length with h'|h'
   · rw[z3k en h']at e;cases e
   · exact(z49 en h').2
  rw[h2]at h
  simp[sgnB,z3t,z4n]at h⟩
 have hfd:∀w:World,(Instr.field 108 (.agg #[.int .i64 (seeP ts en p).f0,.string (seeP ts en p).f1,.int .i64 (seeP ts en p).f2]) 1).run Tryz.prog w=.ok (.string (seeP ts en p).f1) w:=fun _=>by kernel_rfl
 clear hI hB
 generalize seeP ts en p=x at HS HP hfd ⊢
 have HG:=z00.mk (fun W=>zbp x.f1 W);obtain⟨sg,hsg⟩:∃s,sgnB x.f1=s:=⟨_,rfl⟩
 rw[hsg]at HG HP ⊢;obtain⟨r,hr0⟩:∃r,nextP (!sg.toList.isEmpty) (leftL ts p)=r:=⟨_,rfl⟩
 rw[hr0];have HR0:=z00.mk hr0;clear hr0 hsg;go_enter Tryz.func150,Tryz.ntmps150
 go_wp2_with fail
 refine HS.out.mono ?_;rintro e w1 ⟨rfl,R,B,K⟩;have HN:=z4t w0 w1 g ts p en (!sg.toList.isEmpty) HP.out R B;rw[HR0.out]at HN;have HN:=z00.mk HN;have HK:=z00.mk K;clear R B K HR0 HP HS
 go_wp2_with (go_at_call 165;refine(HG.out _).mono ?_;rintro e w' ⟨rfl,he⟩;obtain rfl:=he.symm)
 refine HN.out.mono ?_;intro e w2 hp;rcases hp.split with ⟨y,p',v,rfl,rfl,rfl,R,B,K⟩|⟨q,i,p',rfl,h1,h2,rfl,R,B,K⟩
 · have HR:=z00.mk (And.intro R (And.intro B (HK.out.trans K (.inl rfl))));clear R B K hp;go_wp2
   go_ret
   exact⟨HR.out.2.1,HR.out.2.2,p',HR.out.1,rfl,_,rfl,rfl⟩
 · exact⟨rfl,Post.thrown_ h1 h2 R B (HK.out.trans K (.inl rfl))⟩

def sets (W:World) (n:Nat):Nat→List Value→World
 |_,[]=>W
 |i,v::vs=>sets (W.setCell ⟨n,i,none⟩ v) n (i+1) vs
def setsA (cs:Array Value):Nat→List Value→Array Value
 |_,[]=>cs
 |i,v::vs=>setsA (cs.setIfInBounds i v) (i+1) vs
theorem z2z {n:Nat} {t:TypeId}:∀(vs:List Value) (i:Nat) (W:World) (cs:Array Value),W.heap[n]?=some (.cells cs t (0,0))→(sets W n i vs).heap[n]?=some (.cells (setsA cs i vs) t (0,0))
 |[],_,_,_,h=>h
 |v::vs,i,W,cs,h=>z2z vs (i+1) _ _ (z87 h i v)
theorem z2h {n m:Nat} {t:TypeId} {cs:Array Value} (hm:m≠n):∀(vs:List Value) (i:Nat) (W:World),W.heap[m]?=some (.cells cs t (0,0))→(sets W n i vs).heap[m]?=some (.cells cs t (0,0))
 |[],_,_,h=>h
 |v::vs,i,W,h=>z2h hm vs (i+1) _ (z0w h hm v)
theorem Rd.sets_ {w0:World} {g n p:Nat} {ts:List S108} {en:Int} (hg:g≠n):∀(vs:List Value) (i:Nat) (W:World),Rd w0 W g ts p en→Rd w0 (sets W n i vs) g ts p en
 |[],_,_,h=>h
 |v::vs,i,W,h=>Rd.sets_ hg vs (i+1) _ (h.far hg v)
theorem z2r {w0:World} {n:Nat} (hn:w0.heap.size≤n):∀(vs:List Value) (i:Nat) (W:World),Below w0.heap.size w0 W→Below w0.heap.size w0 (sets W n i vs)
 |[],_,_,h=>h
 |v::vs,i,W,h=>z2r hn vs (i+1) _ (z08 h hn)
theorem z5i {w:World} {g n:Nat} (hn:w.heap.size≤n):∀(vs:List Value) (i:Nat) (W:World),z0v w W g none→z0v w (sets W n i vs) g none
 |[],_,_,h=>h
 |v::vs,i,W,h=>z5i hn vs (i+1) _ (z3n h hn v)
theorem z4p {α:Type} {d:Kd α} {e base n:Nat} {ok:Nat→Prop} {u:Value} {xs:List α} (hok:∀k,ok k→k≠n):∀(vs:List Value) (i:Nat) (W:World),d.R e W base ok u xs→d.R e (sets W n i vs) base ok u xs
 |[],_,_,h=>h
 |v::vs,i,W,h=>z4p hok vs (i+1) _ (Kd.R_far h hok v)
theorem z36 (n:Nat):∀(vs:List Value) (i:Nat) (W:World),W.setCells n i vs=sets W n i vs
 |[],_,_=>rfl
 |v::vs,i,W=>z36 n vs (i+1) _
theorem z97 {W:World} {n:Nat} {cs:Array Value} {t:TypeId} (h:W.heap[n]?=some (.cells cs t (0,0))):W.rangeAt n 0 cs.toList:=fun j v hv=>by
 rw[Nat.zero_add,z01 h j]
 simpa using hv
theorem z54 {W:World} {n:Nat} {cs:Array Value} {t:TypeId} {m:Nat} (h:W.heap[n]?=some (.cells cs t (0,0))) (hm:m≤cs.size):W.there n 0 m:=fun j hj=>by
 rw[Nat.zero_add];refine⟨?_,z03 h j⟩;rw[z01 h j,Array.getElem?_eq_getElem (by omega)];rfl
abbrev zLit:Array Value:=#[.int .i64 0,.string ⟨#[]⟩,.slice none 0 0,.string ⟨#[]⟩,.string ⟨#[]⟩,.int .i64 0,.int .i64 0,.string ⟨#[]⟩,.string ⟨#[]⟩,.int .i64 0,.int .i64 0,.string ⟨#[]⟩,.string ⟨#[]⟩,.int .i64 0,.int .i64 0,.string ⟨#[]⟩,.slice none 0 0]
structure L2 (w0 w wr:World) (g n2:Nat) (ts:List S108) (en:Int) (p:Nat):Prop where
 R:Rd w0 wr g ts p en
 B:Below w0.heap.size w0 wr
 K:z0v w wr g none
 b2:wr.heap[n2]?=some (.cells zLit 62 (0,0))
 h0:w0.heap.size≤w.heap.size
 gw:g<w.heap.size
 h2:w.heap.size≤n2
structure L5 (w0 w wr:World) (g n2 n5:Nat) (ts:List S108) (en:Int) (p:Nat) (cs:Array Value):Prop extends L2 w0 w wr g n2 ts en p where
 b5:wr.heap[n5]?=some (.cells cs 62 (0,0))
 h5:n2<n5
section
variable {w0 w wr:World} {g n2 n5:Nat} {ts:List S108} {en:Int} {p:Nat} {cs cs':Array Value}
theorem L2.call (h:L2 w0 w wr g n2 ts en p) {w1:World} {p2:Nat} (hR:Rd w0 w1 g ts p2 en) (hB:Below w0.heap.size w0 w1) (hK:z0v wr w1 g none):L2 w0 w w1 g n2 ts en p2:=by
 have h1:=h.gw;have h2:=h.h2;exact⟨hR,hB,h.K.trans hK (.inl rfl),hK.blk h.b2 (by omega) (by simp),h.h0,h1,h2⟩
theorem L2.below (h:L2 w0 w wr g n2 ts en p) {w1:World} (d:Below wr.heap.size wr w1):L2 w0 w w1 g n2 ts en p:=h.call (h.R.below d) (z0g h.B d) (z0v.of_below d g none)
theorem L2.alloc_ (h:L2 w0 w wr g n2 ts en p) (o:Obj):L2 w0 w (wr.alloc o) g n2 ts en p:=h.below (z04 (Below.refl _ _) o)
theorem L2.alloc (h:L2 w0 w wr g n2 ts en p) (o:Array Value) (e:wr.heap.size=n5):L5 w0 w (wr.alloc (.cells o 62)) g n2 n5 ts en p o:=by
 have hb:=z1h wr (.cells o 62);rw[e]at hb;exact⟨h.alloc_ _,hb,by have:=z1u h.b2;omega⟩
theorem L2.move (h:L2 w0 w wr g n2 ts en p) (q:Nat) (hq:q≤ts.length):L2 w0 w (wr.setCell ⟨g,1,none⟩ (.int .i64 q)) g n2 ts en q:=by
 have h1:=h.gw;have h2:=h.h2;exact⟨h.R.move q hq,z08 h.B h.R.ge,z0v.set_ h.K 1 _,z0w h.b2 (by show n2≠g;omega) _,h.h0,h1,h2⟩
theorem L5.call (h:L5 w0 w wr g n2 n5 ts en p cs) {w1:World} {p2:Nat} (hR:Rd w0 w1 g ts p2 en) (hB:Below w0.heap.size w0 w1) (hK:z0v wr w1 g none):L5 w0 w w1 g n2 n5 ts en p2 cs:=by
 have h1:=h.gw;have h2:=h.h2;have h5:=h.h5;exact⟨h.toL2.call hR hB hK,hK.blk h.b5 (by omega) (by simp),h5⟩
theorem L5.move (h:L5 w0 w wr g n2 n5 ts en p cs) (q:Nat) (hq:q≤ts.length):L5 w0 w (wr.setCell ⟨g,1,none⟩ (.int .i64 q)) g n2 n5 ts en q cs:=by
 have h1:=h.gw;have h2:=h.h2;have h5:=h.h5;exact⟨h.toL2.move q hq,z0w h.b5 (by show n5≠g;omega) _,h5⟩
theorem L5.put5 (h:L5 w0 w wr g n2 n5 ts en p cs) (j:Nat) (vs:List Value) (e:setsA cs j vs=cs'):L5 w0 w (sets wr n5 j vs) g n2 n5 ts en p cs':=by
 have h0:=h.h0;have h1:=h.gw;have h2:=h.h2;have h5:=h.h5;exact⟨⟨h.R.sets_ (by omega) vs j wr,z2r (by omega) vs j wr h.B,z5i (by omega) vs j wr h.K,z2h (by omega) vs j wr h.b2,h0,h1,h2⟩,e ▸ z2z vs j wr cs h.b5,h5⟩
def litV (w':World) (base:Nat) (v:Value) (x:LtS):Prop:=∃u1 u2,v=.agg #[.int .i64 x.f0,.string x.f1.f0,u1,.string x.f2,.string x.f3.f0,.int .i64 x.f3.f1.f0,.int .i64 x.f3.f1.f1,.string x.f3.f1.f2,.string x.f4.f0,.int .i64 x.f4.f1.f0,.int .i64 x.f4.f1.f1,.string x.f4.f1.f2,.string x.f5.f0,.int .i64 x.f5.f1.f0,.int .i64 x.f5.f1.f1,.string x.f5.f1.f2,u2] ∧
 Kd.R k60 60 w' base (fun k=>base≤k) u1 x.f1.f1∧Kd.R k69 69 w' base (fun k=>base≤k) u2 x.f6
theorem L2.ends (h:L2 w0 w wr g n2 ts en p) (vs:List Value) (e:setsA zLit 0 vs=cs'):z00 ((sets wr n2 0 vs).heap[n2]?=some (.cells cs' 62 (0,0))) ∧
 z00 (∀(x:LtS) (u1 u2:Value),Value.agg cs'=.agg #[.int .i64 x.f0,.string x.f1.f0,u1,.string x.f2,.string x.f3.f0,.int .i64 x.f3.f1.f0,.int .i64 x.f3.f1.f1,.string x.f3.f1.f2,.string x.f4.f0,.int .i64 x.f4.f1.f0,.int .i64 x.f4.f1.f1,.string x.f4.f1.f2,.string x.f5.f0,.int .i64 x.f5.f1.f0,.int .i64 x.f5.f1.f1,.string x.f5.f1.f2,u2] →
  Kd.R k60 60 wr w.heap.size (fun k=>w.heap.size≤k∧k≠n2) u1 x.f1.f1→Kd.R k69 69 wr w.heap.size (fun k=>w.heap.size≤k∧k≠n2) u2 x.f6 →
  Post w0 w g ts en (.ok (x,leftL ts p)) (fun v w' x=>litV w' w.heap.size v x) (.returned (.agg cs')) (sets wr n2 0 vs)):=by
 have h0:=h.h0;have h1:=h.gw;have h2:=h.h2;refine⟨⟨e ▸ z2z vs 0 wr zLit h.b2⟩,⟨fun x u1 u2 hv o1 o2=>?_⟩⟩;refine⟨z2r (by omega) vs 0 wr h.B,z5i (by omega) vs 0 wr h.K,p,h.R.sets_ (by omega) vs 0 wr,rfl,_,rfl,u1,u2,hv,?_,?_⟩
 · exact Kd.R_mono (z4p (fun k hk=>hk.2) vs 0 wr o1) (fun k hk=>hk.1)
 · exact Kd.R_mono (z4p (fun k hk=>hk.2) vs 0 wr o2) (fun k hk=>hk.1)
end
theorem zgr {l r:List TK} {y:ByteArray} (h:nextP true l=.ok (y,r)):y=textL0 l∧r=l.drop 1:=by
 cases l with
 |nil=>cases h
 |cons t r' =>
  simp only[nextP,if_true,Except.ok.injEq,Prod.mk.injEq]at h;exact⟨h.1.symm,h.2.symm⟩
theorem zfc {l r:List TK} {x:TmS} (h:termP l=.ok (x,r)):r=l.drop 1∧l≠[]:=by
 cases l with
 |nil=>cases h
 |cons t r' =>
  simp only[termP]at h;refine⟨?_,by simp⟩
  split at h
  · injection h with h;injection h with h5 h6;exact h6.symm
  · split at h
    · injection h with h;injection h with h5 h6;exact h6.symm
    · cases h
theorem zb1 {l r:List TK} {x:TmS} (h:z4b l=.ok (x,r)):r=l.drop 1∧l≠[]:=by
 cases l with
 |nil=>cases h
 |cons t r' =>
  simp only[z4b]at h;refine⟨?_,by simp⟩
  split at h
  · injection h with h;injection h with h5 h6;exact h6.symm
  · cases h
theorem zak {ts:List S108} {p q:Nat} (h:leftL ts p=leftL ts q) (hp:p≤ts.length) (hq:q≤ts.length):p=q:=by
 have:=congrArg List.length h;rw[z13,z13]at this;omega
theorem z32 (ts:List S108) (en:Int) (p:Nat) (s:List UInt8):isL (leftL ts p) 1 s=((seeP ts en p).f0==1&&(seeP ts en p).f1.toList==s):=by
 rcases Nat.lt_or_ge p ts.length with h|h
 · rw[z3k en h];show((seeP ts en p).f0==1&&(seeP ts en p).f1.data.toList==s)=_;rw[z3t]
 · obtain⟨h1,h2⟩:=z49 en h;rw[h1,h2];rfl
theorem z4h {ts:List S108} {p:Nat} {k:Int} {s:List UInt8} (h:isL (leftL ts p) k s=true):p<ts.length:=z4y fun e=>by
 rw[e]at h
 cases h
def Two (wr:World) (n3:Nat) (x3 x4:S108):Prop:=wr.heap[n3]?=some (.cells #[.int .i64 x3.f0,.string x3.f1,.int .i64 x3.f2] 108 (0,0))∧wr.heap[n3+1]?=some (.cells #[.int .i64 x4.f0,.string x4.f1,.int .i64 x4.f2] 108 (0,0))
def selL (l:List TK):Nat:=if(z2n l&&z2q l)=true then 0 else if(kindL l==2&&isL (l.drop 1) 1 [105,115])=true then 1 else if isL l 1 [110,111,116]=true then 2 else if isL l 1 [119,97,108,107]=true then 3 else if predL l=true then 4 else 5
theorem zfl (l:List TK):selL l=0∨selL l=1∨selL l=2∨selL l=3∨selL l=4∨selL l=5:=by
 unfold selL
 repeat' split
 all_goals simp
end Go.Proofs.YthebhbomlllpeaaGreatDoor.X
