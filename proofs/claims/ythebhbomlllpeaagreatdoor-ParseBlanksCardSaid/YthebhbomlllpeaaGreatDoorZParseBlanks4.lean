/-
  ParseBlanks: what the proof needs, put together by a program of this session (shake.py), part 4.
-/
import Derived.Test.YthebhbomlllpeaaGreatDoorZParseBlanks3
set_option linter.unusedVariables false
set_option linter.unusedSimpArgs false
namespace Go.Proofs.YthebhbomlllpeaaGreatDoor.X
open Go.RowKit Go.Proofs.YthebhbomlllpeaaGreatDoorW.PrintWords Go.Proofs.YthebhbomlllpeaaGreatDoorW.PrintLast Go.Proofs.YthebhbomlllpeaaGreatDoorW.PrintMore
set_option maxHeartbeats 4000000 in
set_option maxRecDepth 100000 in
theorem zfr (w0 w:World) (g:Nat) (ts:List S108) (p:Nat) (en:Int) (hE:Env w0 ts) (hsel:selL (leftL ts p)=0) (hI:Rd w0 w g ts p en) (hB:Below w0.heap.size w0 w) :
 Calls Tryz.prog 116 #[.pointer (some ⟨g,0,none⟩)] w fun e w'=>Post w0 w g ts en (z2c (leftL ts p)) (fun v w' x=>litV w' w.heap.size v x) e w':=by
 have HE:=z00.mk hE;obtain⟨n2,en2⟩:∃n,w.heap.size=n:=⟨_,rfl⟩
 have hN:=z1h w (.cells zLit 62);rw[en2]at hN;have HM:=z00.mk (show L2 w0 w (w.alloc (.cells zLit 62)) g n2 ts en p from⟨hI.alloc _,z04 hB _,z1s (z0v.refl w g none) _,hN,hB.size,hI.lt,by omega⟩);have HS:=z00.mk (z2a w0 _ g ts p en 0 (by omega) HM.out.R HM.out.B);rw[Nat.add_zero]at HS;obtain⟨r,hr⟩:∃r,z2c (leftL ts p)=r:=⟨_,rfl⟩
 rw[hr];have HQ:=z00.mk hr.symm;have HK3:=z00.mk (z2y ts en p);obtain⟨x3,hx3⟩:∃x,seeP ts en p=x:=⟨_,rfl⟩
 obtain⟨x4,hx4⟩:∃x,seeP ts en (p+1)=x:=⟨_,rfl⟩
 rw[hx3]at HS;have HX3:=z00.mk hx3;have HX4:=z00.mk hx4;clear hE hI hB hN hr hx3 hx4 HK3;go_enter Tryz.func116,Tryz.ntmps116
 go_wp2_with fail
 refine HS.out.mono ?_;rintro e w1 ⟨rfl,R,B,K⟩;replace HM:=z00.mk (HM.out.call R B K);clear R B K HS;have HS:=z2a w0 _ g ts p en 1 (by omega) HM.out.R HM.out.B;rw[HX4.out]at HS;have HS:=z00.mk HS
 go_wp2_with fail
 refine HS.out.mono ?_;rintro e w2 ⟨rfl,R,B,K⟩;replace HM:=z00.mk (HM.out.call R B K);clear R B K HS;obtain⟨n3,en3⟩:∃n,w2.heap.size=n:=⟨_,rfl⟩
 have hx30:=z06 (z1h w2 (.cells #[.int .i64 x3.f0,.string x3.f1,.int .i64 x3.f2] 108)) (.cells #[.int .i64 x4.f0,.string x4.f1,.int .i64 x4.f2] 108);have hx40:=z1h (w2.alloc (.cells #[.int .i64 x3.f0,.string x3.f1,.int .i64 x3.f2] 108)) (.cells #[.int .i64 x4.f0,.string x4.f1,.int .i64 x4.f2] 108);rw[en3]at hx30;rw[show(w2.alloc (.cells #[.int .i64 x3.f0,.string x3.f1,.int .i64 x3.f2] 108)).heap.size=n3+1 by simp[en3]]at hx40;have HT:=z00.mk (show Two _ n3 x3 x4 from⟨hx30,hx40⟩);have HG3:=z00.mk (show g<n3 by have:=HM.out.R.lt;omega);replace HM:=z00.mk ((HM.out.alloc_ (.cells #[.int .i64 x3.f0,.string x3.f1,.int .i64 x3.f2] 108)).alloc_ (.cells #[.int .i64 x4.f0,.string x4.f1,.int .i64 x4.f2] 108));clear hx30 hx40
 go_upto_region 2 with (fail)
 generalize (w2.alloc (.cells #[.int .i64 x3.f0,.string x3.f1,.int .i64 x3.f2] 108)).alloc (.cells #[.int .i64 x4.f0,.string x4.f1,.int .i64 x4.f2] 108)=w3 at HM HT ⊢
 obtain⟨st,hst⟩:∃c,z2n (leftL ts p)=c:=⟨_,rfl⟩
 obtain⟨cm,hcm⟩:∃c,z2q (leftL ts p)=c:=⟨_,rfl⟩
 obtain⟨c1,hc1⟩:∃c,(kindL (leftL ts p)==2&&isL ((leftL ts p).drop 1) 1 [105,115])=c:=⟨_,rfl⟩
 obtain⟨c2,hc2⟩:∃c,isL (leftL ts p) 1 [110,111,116]=c:=⟨_,rfl⟩
 obtain⟨c3,hc3⟩:∃c,isL (leftL ts p) 1 [119,97,108,107]=c:=⟨_,rfl⟩
 obtain⟨c4,hc4⟩:∃c,predL (leftL ts p)=c:=⟨_,rfl⟩
 replace HQ := z00.mk (show r=if(st&&cm)=true then z5f (leftL ts p)else if c1=true then letP (leftL ts p)else if c2=true then z4q 2 (leftL ts (p+1))else if c3=true then walkP (leftL ts (p+1))else if c4=true then z4q 1 (leftL ts p)else bnd (termP (leftL ts p)) fun _ r=>.error (r.length,2) by
  rw[HQ.out,←z0y ts p 1];unfold z2c;rw[hst,hcm,hc1,hc2,hc3,hc4])
 have HSEL := z00.mk (show(if(st&&cm)=true then 0 else if c1=true then 1 else if c2=true then 2 else if c3=true then 3 else if c4=true then 4 else 5)=0 by
  unfold selL at hsel;rw[hst,hcm,hc1,hc2,hc3,hc4]at hsel;exact hsel)
 clear hsel;have HL0 : z00 (cm = true → p + 1 < ts.length) := ⟨fun h=>by
  rw[h]at hcm;unfold z2q mk1 at hcm;rw[z0y]at hcm;exact z4y fun e=>by rw[e]at hcm;cases hcm⟩
 have HL1 : z00 (c1 = true → p + 1 < ts.length) := ⟨fun h=>by
  rw[h,z0y,Bool.and_eq_true]at hc1;exact z4h hc1.2⟩
 have HL2:z00 (c2=true→p<ts.length):=⟨fun h=>z4h (hc2.trans h)⟩
 have HL3:z00 (c3=true→p<ts.length):=⟨fun h=>z4h (hc3.trans h)⟩
 have HV1:z00 (((x3.f0==2)&&((x4.f0==1)&&(x4.f1.toList==[105,115])))=c1):=⟨zA0r⟩
 have HV2:z00 (((x3.f0==1)&&(x3.f1.toList==[110,111,116]))=c2):=⟨zA15⟩
 have HV3:z00 (((x3.f0==1)&&(x3.f1.toList==[119,97,108,107]))=c3):=⟨zA16⟩
 have HV4:z00 (((x3.f0==1)&&!keyL x3.f1.data.toList)=c4):=⟨zA17⟩
 have HST:=z35 w0 w3 g ts p en HM.out.R HM.out.B;have HCM:=z00.mk (fun W h1 h2=>z3l w0 W g ts p en h1 h2);rw[hst]at HST;rw[hcm]at HCM;have HST:=z00.mk HST;clear hst hcm hc1 hc2 hc3 hc4 HX3 HX4
 go_cut [16] (fun v16 wc=>v16=.bool (st&&cm)∧z00 (L2 w0 w wc g n2 ts en p)∧z00 (Two wc n3 x3 x4))
 case first =>
  cases st with
  |false =>
   go_wp2_with fail
   refine HST.out.mono ?_;rintro e w4 ⟨rfl,R,B,K⟩;have HM2:=z00.mk (HM.out.call R B K);have HT2:=z00.mk (show Two w4 n3 x3 x4 from⟨K.blk HT.out.1 zA0i (by simp),K.blk HT.out.2 zA0i (by simp)⟩);clear R B K;go_wp2;go_meet
   case rel=>exact⟨rfl,HM2,HT2⟩
  |true =>
   go_wp2_with fail
   refine HST.out.mono ?_;rintro e w4 ⟨rfl,R,B,K⟩;have HM2:=z00.mk (HM.out.call R B K);have HT2:=z00.mk (show Two w4 n3 x3 x4 from⟨K.blk HT.out.1 zA0i (by simp),K.blk HT.out.2 zA0i (by simp)⟩);have HC:=z00.mk (HCM.out w4 R B);clear R B K
   go_wp2_with fail
   refine HC.out.mono ?_;rintro e w5 ⟨rfl,R,B,K⟩;replace HM2:=z00.mk (HM2.out.call R B K);replace HT2:=z00.mk (show Two w5 n3 x3 x4 from⟨K.blk HT2.out.1 zA0i (by simp),K.blk HT2.out.2 zA0i (by simp)⟩);clear R B K HC;go_wp2;go_meet
   case rel=>exact⟨rfl,HM2,HT2⟩
 case rest =>
 clear HM HT HST HCM;obtain⟨rfl,HM,HT⟩:=hcut;obtain⟨c0,hc0⟩:∃c,(st&&cm)=c:=⟨_,rfl⟩
 have HL0':z00 (c0=true→p+1<ts.length):=⟨fun h=>HL0.out zA0x⟩
 rw[hc0]at HQ HSEL ⊢;clear hc0 HL0
 cases c0 with
 |true =>
  simp only[if_true]at HQ;have HC:=z00.mk (z44 w0 wc g ts p en HE.out HM.out.R HM.out.B)
  go_wp2_with fail
  refine HC.out.mono ?_;intro e wa1 hp;rcases hp.split with ⟨y1,pa1,va1,ey,rfl,rfl,R,B,K⟩|⟨q,i,p2',ey,h1,h2,rfl,R,B,K⟩
  case inr=>exact⟨rfl,Post.as (HQ.out.trans (z3e ey)) (Post.thrown_ h1 h2 R B (HM.out.K.trans K (.inl rfl)))⟩
  have hlt:pa1<ts.length:=by
   have h1:=HL0'.out (by trivial);have h2:=zak ((zfc ey).1.trans (z0y ts p 1)) R.le (by omega);omega
  have HE1:=z00.mk ey;replace HQ:=z00.mk (HQ.out.trans (z3q ey));replace HM:=z00.mk (HM.out.call R B K);clear R B K hp HC ey
  (try simp only[z0y]at HQ)
  obtain⟨n5,en5⟩:∃n,wa1.heap.size=n:=⟨_,rfl⟩
  replace HM:=z00.mk (HM.out.alloc #[.int .i64 3,.string ⟨#[]⟩,.slice none 0 0,.string ⟨#[]⟩,.string y1.f0,.int .i64 y1.f1.f0,.int .i64 y1.f1.f1,.string y1.f1.f2,.string ⟨#[]⟩,.int .i64 0,.int .i64 0,.string ⟨#[]⟩,.string ⟨#[]⟩,.int .i64 0,.int .i64 0,.string ⟨#[]⟩,.slice none 0 0] en5);have HC:=z00.mk (z4t w0 (wa1.alloc (.cells #[.int .i64 3,.string ⟨#[]⟩,.slice none 0 0,.string ⟨#[]⟩,.string y1.f0,.int .i64 y1.f1.f0,.int .i64 y1.f1.f1,.string y1.f1.f2,.string ⟨#[]⟩,.int .i64 0,.int .i64 0,.string ⟨#[]⟩,.string ⟨#[]⟩,.int .i64 0,.int .i64 0,.string ⟨#[]⟩,.slice none 0 0] 62)) g ts pa1 en true (fun _=>hlt) HM.out.R HM.out.B);simp only[tmV]
  go_wp2_with fail
  refine HC.out.mono ?_;intro e wa2 hp;rcases hp.split with ⟨y2,pa2,va2,ey,rfl,rfl,R,B,K⟩|⟨q,i,p2',ey,h1,h2,rfl,R,B,K⟩
  case inr=>rw[z3k en hlt]at ey;cases ey
  obtain⟨e1,e2⟩:=zgr ey;obtain rfl:pa2=pa1+1:=zak (e2.trans (z0y ts pa1 1)) R.le (by omega);rw[←e1]at HQ;replace HM:=z00.mk (HM.out.call R B K);clear R B K hp HC ey e1 e2;have hx3:wa2.cell? ⟨n5,3,none⟩=some (.string ⟨#[]⟩):=(z01 HM.out.b5 3).trans rfl;have hxf3:=z03 HM.out.b5 3;replace HM:=z00.mk (show L5 w0 w (wa2.setCell ⟨n5,3,none⟩ (.string y2)) g n2 n5 ts en (pa1+1) #[.int .i64 3,.string ⟨#[]⟩,.slice none 0 0,.string y2,.string y1.f0,.int .i64 y1.f1.f0,.int .i64 y1.f1.f1,.string y1.f1.f2,.string ⟨#[]⟩,.int .i64 0,.int .i64 0,.string ⟨#[]⟩,.string ⟨#[]⟩,.int .i64 0,.int .i64 0,.string ⟨#[]⟩,.slice none 0 0]from HM.out.put5 3 [.string y2] (by kernel_rfl));have HC:=z00.mk (z44 w0 (wa2.setCell ⟨n5,3,none⟩ (.string y2)) g ts (pa1+1) en HE.out HM.out.R HM.out.B)
  go_wp2_with fail
  refine HC.out.mono ?_;intro e wa3 hp;rcases hp.split with ⟨y3,pa3,va3,ey,rfl,rfl,R,B,K⟩|⟨q,i,p2',ey,h1,h2,rfl,R,B,K⟩
  case inr=>exact⟨rfl,Post.as (HQ.out.trans (z3e ey)) (Post.thrown_ h1 h2 R B (HM.out.K.trans K (.inl rfl)))⟩
  have HE3:=z00.mk ey;replace HQ:=z00.mk (HQ.out.trans (z3q ey));replace HM:=z00.mk (HM.out.call R B K);clear R B K hp HC ey;clear hx3 hxf3;have hx8:wa3.cell? ⟨n5,8,none⟩=some (.string ⟨#[]⟩):=(z01 HM.out.b5 8).trans rfl;have hx9:wa3.cell? ⟨n5,9,none⟩=some (.int .i64 0):=(z01 HM.out.b5 9).trans rfl;have hx10:wa3.cell? ⟨n5,10,none⟩=some (.int .i64 0):=(z01 HM.out.b5 10).trans rfl;have hx11:wa3.cell? ⟨n5,11,none⟩=some (.string ⟨#[]⟩):=(z01 HM.out.b5 11).trans rfl;have hxf8:=z03 HM.out.b5 8;have hxf9:=z03 HM.out.b5 9;have hxf10:=z03 HM.out.b5 10;have hxf11:=z03 HM.out.b5 11;simp only[tmV];replace HM:=z00.mk (show L5 w0 w ((((wa3.setCell ⟨n5,8,none⟩ (.string y3.f0)).setCell ⟨n5,9,none⟩ (.int .i64 y3.f1.f0)).setCell ⟨n5,10,none⟩ (.int .i64 y3.f1.f1)).setCell ⟨n5,11,none⟩ (.string y3.f1.f2)) g n2 n5 ts en pa3 #[.int .i64 3,.string ⟨#[]⟩,.slice none 0 0,.string y2,.string y1.f0,.int .i64 y1.f1.f0,.int .i64 y1.f1.f1,.string y1.f1.f2,.string y3.f0,.int .i64 y3.f1.f0,.int .i64 y3.f1.f1,.string y3.f1.f2,.string ⟨#[]⟩,.int .i64 0,.int .i64 0,.string ⟨#[]⟩,.slice none 0 0]from HM.out.put5 8 [.string y3.f0,.int .i64 y3.f1.f0,.int .i64 y3.f1.f1,.string y3.f1.f2] (by kernel_rfl));obtain⟨P1,P2⟩:=(HM.out.toL2).ends [.int .i64 3,.string ⟨#[]⟩,.slice none 0 0,.string y2,.string y1.f0,.int .i64 y1.f1.f0,.int .i64 y1.f1.f1,.string y1.f1.f2,.string y3.f0,.int .i64 y3.f1.f0,.int .i64 y3.f1.f1,.string y3.f1.f2,.string ⟨#[]⟩,.int .i64 0,.int .i64 0,.string ⟨#[]⟩,.slice none 0 0] (cs':=#[.int .i64 3,.string ⟨#[]⟩,.slice none 0 0,.string y2,.string y1.f0,.int .i64 y1.f1.f0,.int .i64 y1.f1.f1,.string y1.f1.f2,.string y3.f0,.int .i64 y3.f1.f0,.int .i64 y3.f1.f1,.string y3.f1.f2,.string ⟨#[]⟩,.int .i64 0,.int .i64 0,.string ⟨#[]⟩,.slice none 0 0]) (by kernel_rfl);have P3:=z00.mk (Post.as (r':=.ok ((⟨3,noneA,y2,y1,y3,noneT,[]⟩:LtS),leftL ts pa3)) HQ.out (P2.out ((⟨3,noneA,y2,y1,y3,noneT,[]⟩:LtS)) (.slice none 0 0) (.slice none 0 0) rfl (Kd.R_nil _ _ _ _ _) (Kd.R_nil _ _ _ _ _)));clear P2
  go_wp2_with (first|((with_reducible refine z19 (N:=32) rfl ?_);refine wpList_load_mid rfl 62 (.tmp 5) rfl n5 0 rfl [.int .i64 3,.string ⟨#[]⟩,.slice none 0 0,.string y2,.string y1.f0,.int .i64 y1.f1.f0,.int .i64 y1.f1.f1,.string y1.f1.f2,.string y3.f0,.int .i64 y3.f1.f0,.int .i64 y3.f1.f1,.string y3.f1.f2,.string ⟨#[]⟩,.int .i64 0,.int .i64 0,.string ⟨#[]⟩,.slice none 0 0] _ (z97 HM.out.b5) Tryz.underlying62 rfl (by kernel_rfl) ?_)|((with_reducible refine z5l (t:=62) (p:=2) (v:=.tmp 32) rfl ?_);refine wpList_store_mid rfl 62 (.tmp 2) (.tmp 32) rfl n2 0 #[.int .i64 3,.string ⟨#[]⟩,.slice none 0 0,.string y2,.string y1.f0,.int .i64 y1.f1.f0,.int .i64 y1.f1.f1,.string y1.f1.f2,.string y3.f0,.int .i64 y3.f1.f0,.int .i64 y3.f1.f1,.string y3.f1.f2,.string ⟨#[]⟩,.int .i64 0,.int .i64 0,.string ⟨#[]⟩,.slice none 0 0] rfl rfl (z54 HM.out.b2 (Nat.le_of_eq (by kernel_rfl))) (by kernel_rfl) (by kernel_rfl) ?_;rw[z36]))
  refine bodyPost_ret (results_cell_row rfl _ _ n2 62 #[.int .i64 3,.string ⟨#[]⟩,.slice none 0 0,.string y2,.string y1.f0,.int .i64 y1.f1.f0,.int .i64 y1.f1.f1,.string y1.f1.f2,.string y3.f0,.int .i64 y3.f1.f0,.int .i64 y3.f1.f1,.string y3.f1.f2,.string ⟨#[]⟩,.int .i64 0,.int .i64 0,.string ⟨#[]⟩,.slice none 0 0] (0,0) _ rfl P1.out Tryz.underlying62 rfl (by kernel_rfl)) rfl ?_;exact P3.out
 |false=>exact absurd HSEL.out zA12

set_option maxHeartbeats 4000000 in
set_option maxRecDepth 100000 in
theorem zg6 (w0 w:World) (g:Nat) (ts:List S108) (p:Nat) (en:Int) (hE:Env w0 ts) (hsel:selL (leftL ts p)=1) (hI:Rd w0 w g ts p en) (hB:Below w0.heap.size w0 w) :
 Calls Tryz.prog 116 #[.pointer (some ⟨g,0,none⟩)] w fun e w'=>Post w0 w g ts en (z2c (leftL ts p)) (fun v w' x=>litV w' w.heap.size v x) e w':=by
 have HE:=z00.mk hE;obtain⟨n2,en2⟩:∃n,w.heap.size=n:=⟨_,rfl⟩
 have hN:=z1h w (.cells zLit 62);rw[en2]at hN;have HM:=z00.mk (show L2 w0 w (w.alloc (.cells zLit 62)) g n2 ts en p from⟨hI.alloc _,z04 hB _,z1s (z0v.refl w g none) _,hN,hB.size,hI.lt,by omega⟩);have HS:=z00.mk (z2a w0 _ g ts p en 0 (by omega) HM.out.R HM.out.B);rw[Nat.add_zero]at HS;obtain⟨r,hr⟩:∃r,z2c (leftL ts p)=r:=⟨_,rfl⟩
 rw[hr];have HQ:=z00.mk hr.symm;have HK3:=z00.mk (z2y ts en p);obtain⟨x3,hx3⟩:∃x,seeP ts en p=x:=⟨_,rfl⟩
 obtain⟨x4,hx4⟩:∃x,seeP ts en (p+1)=x:=⟨_,rfl⟩
 rw[hx3]at HS;have HX3:=z00.mk hx3;have HX4:=z00.mk hx4;clear hE hI hB hN hr hx3 hx4 HK3;go_enter Tryz.func116,Tryz.ntmps116
 go_wp2_with fail
 refine HS.out.mono ?_;rintro e w1 ⟨rfl,R,B,K⟩;replace HM:=z00.mk (HM.out.call R B K);clear R B K HS;have HS:=z2a w0 _ g ts p en 1 (by omega) HM.out.R HM.out.B;rw[HX4.out]at HS;have HS:=z00.mk HS
 go_wp2_with fail
 refine HS.out.mono ?_;rintro e w2 ⟨rfl,R,B,K⟩;replace HM:=z00.mk (HM.out.call R B K);clear R B K HS;obtain⟨n3,en3⟩:∃n,w2.heap.size=n:=⟨_,rfl⟩
 have hx30:=z06 (z1h w2 (.cells #[.int .i64 x3.f0,.string x3.f1,.int .i64 x3.f2] 108)) (.cells #[.int .i64 x4.f0,.string x4.f1,.int .i64 x4.f2] 108);have hx40:=z1h (w2.alloc (.cells #[.int .i64 x3.f0,.string x3.f1,.int .i64 x3.f2] 108)) (.cells #[.int .i64 x4.f0,.string x4.f1,.int .i64 x4.f2] 108);rw[en3]at hx30;rw[show(w2.alloc (.cells #[.int .i64 x3.f0,.string x3.f1,.int .i64 x3.f2] 108)).heap.size=n3+1 by simp[en3]]at hx40;have HT:=z00.mk (show Two _ n3 x3 x4 from⟨hx30,hx40⟩);have HG3:=z00.mk (show g<n3 by have:=HM.out.R.lt;omega);replace HM:=z00.mk ((HM.out.alloc_ (.cells #[.int .i64 x3.f0,.string x3.f1,.int .i64 x3.f2] 108)).alloc_ (.cells #[.int .i64 x4.f0,.string x4.f1,.int .i64 x4.f2] 108));clear hx30 hx40
 go_upto_region 2 with (fail)
 generalize (w2.alloc (.cells #[.int .i64 x3.f0,.string x3.f1,.int .i64 x3.f2] 108)).alloc (.cells #[.int .i64 x4.f0,.string x4.f1,.int .i64 x4.f2] 108)=w3 at HM HT ⊢
 obtain⟨st,hst⟩:∃c,z2n (leftL ts p)=c:=⟨_,rfl⟩
 obtain⟨cm,hcm⟩:∃c,z2q (leftL ts p)=c:=⟨_,rfl⟩
 obtain⟨c1,hc1⟩:∃c,(kindL (leftL ts p)==2&&isL ((leftL ts p).drop 1) 1 [105,115])=c:=⟨_,rfl⟩
 obtain⟨c2,hc2⟩:∃c,isL (leftL ts p) 1 [110,111,116]=c:=⟨_,rfl⟩
 obtain⟨c3,hc3⟩:∃c,isL (leftL ts p) 1 [119,97,108,107]=c:=⟨_,rfl⟩
 obtain⟨c4,hc4⟩:∃c,predL (leftL ts p)=c:=⟨_,rfl⟩
 replace HQ := z00.mk (show r=if(st&&cm)=true then z5f (leftL ts p)else if c1=true then letP (leftL ts p)else if c2=true then z4q 2 (leftL ts (p+1))else if c3=true then walkP (leftL ts (p+1))else if c4=true then z4q 1 (leftL ts p)else bnd (termP (leftL ts p)) fun _ r=>.error (r.length,2) by
  rw[HQ.out,←z0y ts p 1];unfold z2c;rw[hst,hcm,hc1,hc2,hc3,hc4])
 have HSEL := z00.mk (show(if(st&&cm)=true then 0 else if c1=true then 1 else if c2=true then 2 else if c3=true then 3 else if c4=true then 4 else 5)=1 by
  unfold selL at hsel;rw[hst,hcm,hc1,hc2,hc3,hc4]at hsel;exact hsel)
 clear hsel;have HL0 : z00 (cm = true → p + 1 < ts.length) := ⟨fun h=>by
  rw[h]at hcm;unfold z2q mk1 at hcm;rw[z0y]at hcm;exact z4y fun e=>by rw[e]at hcm;cases hcm⟩
 have HL1 : z00 (c1 = true → p + 1 < ts.length) := ⟨fun h=>by
  rw[h,z0y,Bool.and_eq_true]at hc1;exact z4h hc1.2⟩
 have HL2:z00 (c2=true→p<ts.length):=⟨fun h=>z4h (hc2.trans h)⟩
 have HL3:z00 (c3=true→p<ts.length):=⟨fun h=>z4h (hc3.trans h)⟩
 have HV1:z00 (((x3.f0==2)&&((x4.f0==1)&&(x4.f1.toList==[105,115])))=c1):=⟨zA0r⟩
 have HV2:z00 (((x3.f0==1)&&(x3.f1.toList==[110,111,116]))=c2):=⟨zA15⟩
 have HV3:z00 (((x3.f0==1)&&(x3.f1.toList==[119,97,108,107]))=c3):=⟨zA16⟩
 have HV4:z00 (((x3.f0==1)&&!keyL x3.f1.data.toList)=c4):=⟨zA17⟩
 have HST:=z35 w0 w3 g ts p en HM.out.R HM.out.B;have HCM:=z00.mk (fun W h1 h2=>z3l w0 W g ts p en h1 h2);rw[hst]at HST;rw[hcm]at HCM;have HST:=z00.mk HST;clear hst hcm hc1 hc2 hc3 hc4 HX3 HX4
 go_cut [16] (fun v16 wc=>v16=.bool (st&&cm)∧z00 (L2 w0 w wc g n2 ts en p)∧z00 (Two wc n3 x3 x4))
 case first =>
  cases st with
  |false =>
   go_wp2_with fail
   refine HST.out.mono ?_;rintro e w4 ⟨rfl,R,B,K⟩;have HM2:=z00.mk (HM.out.call R B K);have HT2:=z00.mk (show Two w4 n3 x3 x4 from⟨K.blk HT.out.1 zA0i (by simp),K.blk HT.out.2 zA0i (by simp)⟩);clear R B K;go_wp2;go_meet
   case rel=>exact⟨rfl,HM2,HT2⟩
  |true =>
   go_wp2_with fail
   refine HST.out.mono ?_;rintro e w4 ⟨rfl,R,B,K⟩;have HM2:=z00.mk (HM.out.call R B K);have HT2:=z00.mk (show Two w4 n3 x3 x4 from⟨K.blk HT.out.1 zA0i (by simp),K.blk HT.out.2 zA0i (by simp)⟩);have HC:=z00.mk (HCM.out w4 R B);clear R B K
   go_wp2_with fail
   refine HC.out.mono ?_;rintro e w5 ⟨rfl,R,B,K⟩;replace HM2:=z00.mk (HM2.out.call R B K);replace HT2:=z00.mk (show Two w5 n3 x3 x4 from⟨K.blk HT2.out.1 zA0i (by simp),K.blk HT2.out.2 zA0i (by simp)⟩);clear R B K HC;go_wp2;go_meet
   case rel=>exact⟨rfl,HM2,HT2⟩
 case rest =>
 clear HM HT HST HCM;obtain⟨rfl,HM,HT⟩:=hcut;obtain⟨c0,hc0⟩:∃c,(st&&cm)=c:=⟨_,rfl⟩
 have HL0':z00 (c0=true→p+1<ts.length):=⟨fun h=>HL0.out zA0x⟩
 rw[hc0]at HQ HSEL ⊢;clear hc0 HL0
 cases c0 with
 |true =>
  simp only[if_true]at HQ;exact absurd HSEL.out (by simp)
 |false =>
 simp only[Bool.false_eq_true,if_false]at HQ;clear HL0';have h30:wc.cell? ⟨n3,0,none⟩=some (.int .i64 x3.f0):=(z01 HT.out.1 0).trans rfl;have h31:wc.cell? ⟨n3,1,none⟩=some (.string x3.f1):=(z01 HT.out.1 1).trans rfl;have h40:wc.cell? ⟨n3+1,0,none⟩=some (.int .i64 x4.f0):=(z01 HT.out.2 0).trans rfl;have h41:wc.cell? ⟨n3+1,1,none⟩=some (.string x4.f1):=(z01 HT.out.2 1).trans rfl
 go_upto_region 7 with (fail)
 go_cut [33] (fun v33 wc=>v33=.bool c1∧z00 (L2 w0 w wc g n2 ts en p)∧z00 (Two wc n3 x3 x4))
 case first =>
  cases k1:(x3.f0==2)with
  |false =>
   go_wp2;go_meet
   case rel=>exact⟨by rw[←HV1.out,k1];rfl,HM,HT⟩
  |true =>
   cases k2:(x4.f0==1)with
   |false =>
    go_wp2;go_meet
    case rel=>exact⟨by rw[←HV1.out,k1,k2];rfl,HM,HT⟩
   |true =>
    go_wp2;go_meet
    case rel=>exact⟨by rw[←HV1.out,k1,k2];first|rfl|(simp;done)|simp,HM,HT⟩
 case rest =>
 clear HM HT h30 h31 h40 h41;obtain⟨rfl,HM,HT⟩:=hcut
 cases c1 with
 |true =>
  simp only[if_true]at HQ;have HC:=z00.mk (z5h w0 wc g ts p en HM.out.R HM.out.B)
  go_wp2_with fail
  refine HC.out.mono ?_;intro e wa1 hp;rcases hp.split with ⟨y1,pa1,va1,ey,rfl,rfl,R,B,K⟩|⟨q,i,p2',ey,h1,h2,rfl,R,B,K⟩
  case inr=>exact⟨rfl,Post.as (HQ.out.trans (z3e ey)) (Post.thrown_ h1 h2 R B (HM.out.K.trans K (.inl rfl)))⟩
  have hlt:pa1<ts.length:=by
   have h1:=HL1.out (by trivial);have h2:=zak ((zb1 ey).1.trans (z0y ts p 1)) R.le (by omega);omega
  have HE1:=z00.mk ey;replace HQ:=z00.mk (HQ.out.trans (z3q ey));replace HM:=z00.mk (HM.out.call R B K);clear R B K hp HC ey
  (try simp only[z0y]at HQ)
  obtain⟨n5,en5⟩:∃n,wa1.heap.size=n:=⟨_,rfl⟩
  replace HM:=z00.mk (HM.out.alloc #[.int .i64 4,.string ⟨#[]⟩,.slice none 0 0,.string ⟨#[]⟩,.string y1.f0,.int .i64 y1.f1.f0,.int .i64 y1.f1.f1,.string y1.f1.f2,.string ⟨#[]⟩,.int .i64 0,.int .i64 0,.string ⟨#[]⟩,.string ⟨#[]⟩,.int .i64 0,.int .i64 0,.string ⟨#[]⟩,.slice none 0 0] en5);simp only[tmV];obtain⟨Ag,cg,hbg,_⟩:=id HM.out.R;have hcg:(wa1.alloc (.cells #[.int .i64 4,.string ⟨#[]⟩,.slice none 0 0,.string ⟨#[]⟩,.string y1.f0,.int .i64 y1.f1.f0,.int .i64 y1.f1.f1,.string y1.f1.f2,.string ⟨#[]⟩,.int .i64 0,.int .i64 0,.string ⟨#[]⟩,.string ⟨#[]⟩,.int .i64 0,.int .i64 0,.string ⟨#[]⟩,.slice none 0 0] 62)).cell? ⟨g,1,none⟩=some (.int .i64 pa1):=(z01 hbg 1).trans rfl;have hfg:=z03 hbg 1;clear hbg;replace HM:=z00.mk (HM.out.move (pa1+1) (by omega));rw[show((pa1+1:Nat):Int)=(pa1:Int)+1 by omega]at HM;have HC:=z00.mk (z44 w0 ((wa1.alloc (.cells #[.int .i64 4,.string ⟨#[]⟩,.slice none 0 0,.string ⟨#[]⟩,.string y1.f0,.int .i64 y1.f1.f0,.int .i64 y1.f1.f1,.string y1.f1.f2,.string ⟨#[]⟩,.int .i64 0,.int .i64 0,.string ⟨#[]⟩,.string ⟨#[]⟩,.int .i64 0,.int .i64 0,.string ⟨#[]⟩,.slice none 0 0] 62)).setCell ⟨g,1,none⟩ (.int .i64 ((pa1:Int)+1))) g ts (pa1+1) en HE.out HM.out.R HM.out.B)
  go_wp2_with fail
  refine HC.out.mono ?_;intro e wa2 hp;rcases hp.split with ⟨y2,pa2,va2,ey,rfl,rfl,R,B,K⟩|⟨q,i,p2',ey,h1,h2,rfl,R,B,K⟩
  case inr=>exact⟨rfl,Post.as (HQ.out.trans (z3e ey)) (Post.thrown_ h1 h2 R B (HM.out.K.trans K (.inl rfl)))⟩
  have HE2:=z00.mk ey;replace HQ:=z00.mk (HQ.out.trans (z3q ey));replace HM:=z00.mk (HM.out.call R B K);clear R B K hp HC ey;clear hcg hfg;have hx8:wa2.cell? ⟨n5,8,none⟩=some (.string ⟨#[]⟩):=(z01 HM.out.b5 8).trans rfl;have hx9:wa2.cell? ⟨n5,9,none⟩=some (.int .i64 0):=(z01 HM.out.b5 9).trans rfl;have hx10:wa2.cell? ⟨n5,10,none⟩=some (.int .i64 0):=(z01 HM.out.b5 10).trans rfl;have hx11:wa2.cell? ⟨n5,11,none⟩=some (.string ⟨#[]⟩):=(z01 HM.out.b5 11).trans rfl;have hxf8:=z03 HM.out.b5 8;have hxf9:=z03 HM.out.b5 9;have hxf10:=z03 HM.out.b5 10;have hxf11:=z03 HM.out.b5 11;simp only[tmV];replace HM:=z00.mk (show L5 w0 w ((((wa2.setCell ⟨n5,8,none⟩ (.string y2.f0)).setCell ⟨n5,9,none⟩ (.int .i64 y2.f1.f0)).setCell ⟨n5,10,none⟩ (.int .i64 y2.f1.f1)).setCell ⟨n5,11,none⟩ (.string y2.f1.f2)) g n2 n5 ts en pa2 #[.int .i64 4,.string ⟨#[]⟩,.slice none 0 0,.string ⟨#[]⟩,.string y1.f0,.int .i64 y1.f1.f0,.int .i64 y1.f1.f1,.string y1.f1.f2,.string y2.f0,.int .i64 y2.f1.f0,.int .i64 y2.f1.f1,.string y2.f1.f2,.string ⟨#[]⟩,.int .i64 0,.int .i64 0,.string ⟨#[]⟩,.slice none 0 0]from HM.out.put5 8 [.string y2.f0,.int .i64 y2.f1.f0,.int .i64 y2.f1.f1,.string y2.f1.f2] (by kernel_rfl));have HC:=z00.mk (zel w0 ((((wa2.setCell ⟨n5,8,none⟩ (.string y2.f0)).setCell ⟨n5,9,none⟩ (.int .i64 y2.f1.f0)).setCell ⟨n5,10,none⟩ (.int .i64 y2.f1.f1)).setCell ⟨n5,11,none⟩ (.string y2.f1.f2)) g ts pa2 en HM.out.R HM.out.B)
  go_wp2_with fail
  refine HC.out.mono ?_;intro e wa3 hp;rcases hp.split with ⟨y3,pa3,va3,ey,rfl,rfl,R,B,K⟩|⟨q,i,p2',ey,h1,h2,rfl,R,B,K⟩
  case inr=>exact⟨rfl,Post.as (HQ.out.trans (z3e ey)) (Post.thrown_ h1 h2 R B (HM.out.K.trans K (.inl rfl)))⟩
  have HE3:=z00.mk ey;replace HQ:=z00.mk (HQ.out.trans (z3q ey));replace HM:=z00.mk (HM.out.call R B K);clear R B K hp HC ey;clear hx8 hx9 hx10 hx11 hxf8 hxf9 hxf10 hxf11;have hx3:wa3.cell? ⟨n5,3,none⟩=some (.string ⟨#[]⟩):=(z01 HM.out.b5 3).trans rfl;have hxf3:=z03 HM.out.b5 3;replace HM:=z00.mk (show L5 w0 w (wa3.setCell ⟨n5,3,none⟩ (.string y3)) g n2 n5 ts en pa3 #[.int .i64 4,.string ⟨#[]⟩,.slice none 0 0,.string y3,.string y1.f0,.int .i64 y1.f1.f0,.int .i64 y1.f1.f1,.string y1.f1.f2,.string y2.f0,.int .i64 y2.f1.f0,.int .i64 y2.f1.f1,.string y2.f1.f2,.string ⟨#[]⟩,.int .i64 0,.int .i64 0,.string ⟨#[]⟩,.slice none 0 0]from HM.out.put5 3 [.string y3] (by kernel_rfl));have HC:=z00.mk (z44 w0 (wa3.setCell ⟨n5,3,none⟩ (.string y3)) g ts pa3 en HE.out HM.out.R HM.out.B)
  go_wp2_with fail
  refine HC.out.mono ?_;intro e wa4 hp;rcases hp.split with ⟨y4,pa4,va4,ey,rfl,rfl,R,B,K⟩|⟨q,i,p2',ey,h1,h2,rfl,R,B,K⟩
  case inr=>exact⟨rfl,Post.as (HQ.out.trans (z3e ey)) (Post.thrown_ h1 h2 R B (HM.out.K.trans K (.inl rfl)))⟩
  have HE4:=z00.mk ey;replace HQ:=z00.mk (HQ.out.trans (z3q ey));replace HM:=z00.mk (HM.out.call R B K);clear R B K hp HC ey;clear hx3 hxf3;have hx12:wa4.cell? ⟨n5,12,none⟩=some (.string ⟨#[]⟩):=(z01 HM.out.b5 12).trans rfl;have hx13:wa4.cell? ⟨n5,13,none⟩=some (.int .i64 0):=(z01 HM.out.b5 13).trans rfl;have hx14:wa4.cell? ⟨n5,14,none⟩=some (.int .i64 0):=(z01 HM.out.b5 14).trans rfl;have hx15:wa4.cell? ⟨n5,15,none⟩=some (.string ⟨#[]⟩):=(z01 HM.out.b5 15).trans rfl;have hxf12:=z03 HM.out.b5 12;have hxf13:=z03 HM.out.b5 13;have hxf14:=z03 HM.out.b5 14;have hxf15:=z03 HM.out.b5 15;simp only[tmV];replace HM:=z00.mk (show L5 w0 w ((((wa4.setCell ⟨n5,12,none⟩ (.string y4.f0)).setCell ⟨n5,13,none⟩ (.int .i64 y4.f1.f0)).setCell ⟨n5,14,none⟩ (.int .i64 y4.f1.f1)).setCell ⟨n5,15,none⟩ (.string y4.f1.f2)) g n2 n5 ts en pa4 #[.int .i64 4,.string ⟨#[]⟩,.slice none 0 0,.string y3,.string y1.f0,.int .i64 y1.f1.f0,.int .i64 y1.f1.f1,.string y1.f1.f2,.string y2.f0,.int .i64 y2.f1.f0,.int .i64 y2.f1.f1,.string y2.f1.f2,.string y4.f0,.int .i64 y4.f1.f0,.int .i64 y4.f1.f1,.string y4.f1.f2,.slice none 0 0]from HM.out.put5 12 [.string y4.f0,.int .i64 y4.f1.f0,.int .i64 y4.f1.f1,.string y4.f1.f2] (by kernel_rfl));obtain⟨P1,P2⟩:=(HM.out.toL2).ends [.int .i64 4,.string ⟨#[]⟩,.slice none 0 0,.string y3,.string y1.f0,.int .i64 y1.f1.f0,.int .i64 y1.f1.f1,.string y1.f1.f2,.string y2.f0,.int .i64 y2.f1.f0,.int .i64 y2.f1.f1,.string y2.f1.f2,.string y4.f0,.int .i64 y4.f1.f0,.int .i64 y4.f1.f1,.string y4.f1.f2,.slice none 0 0] (cs':=#[.int .i64 4,.string ⟨#[]⟩,.slice none 0 0,.string y3,.string y1.f0,.int .i64 y1.f1.f0,.int .i64 y1.f1.f1,.string y1.f1.f2,.string y2.f0,.int .i64 y2.f1.f0,.int .i64 y2.f1.f1,.string y2.f1.f2,.string y4.f0,.int .i64 y4.f1.f0,.int .i64 y4.f1.f1,.string y4.f1.f2,.slice none 0 0]) (by kernel_rfl)
  have P3:=z00.mk (Post.as (r':=.ok ((⟨4,noneA,y3,y1,y2,y4,[]⟩:LtS),leftL ts pa4)) HQ.out (P2.out ((⟨4,noneA,y3,y1,y2,y4,[]⟩:LtS)) (.slice none 0 0) (.slice none 0 0) rfl (Kd.R_nil _ _ _ _ _) (Kd.R_nil _ _ _ _ _)));clear P2
  go_wp2_with (first|((with_reducible refine z19 (N:=66) rfl ?_);refine wpList_load_mid rfl 62 (.tmp 6) rfl n5 0 rfl [.int .i64 4,.string ⟨#[]⟩,.slice none 0 0,.string y3,.string y1.f0,.int .i64 y1.f1.f0,.int .i64 y1.f1.f1,.string y1.f1.f2,.string y2.f0,.int .i64 y2.f1.f0,.int .i64 y2.f1.f1,.string y2.f1.f2,.string y4.f0,.int .i64 y4.f1.f0,.int .i64 y4.f1.f1,.string y4.f1.f2,.slice none 0 0] _ (z97 HM.out.b5) Tryz.underlying62 rfl (by kernel_rfl) ?_)|((with_reducible refine z5l (t:=62) (p:=2) (v:=.tmp 66) rfl ?_);refine wpList_store_mid rfl 62 (.tmp 2) (.tmp 66) rfl n2 0 #[.int .i64 4,.string ⟨#[]⟩,.slice none 0 0,.string y3,.string y1.f0,.int .i64 y1.f1.f0,.int .i64 y1.f1.f1,.string y1.f1.f2,.string y2.f0,.int .i64 y2.f1.f0,.int .i64 y2.f1.f1,.string y2.f1.f2,.string y4.f0,.int .i64 y4.f1.f0,.int .i64 y4.f1.f1,.string y4.f1.f2,.slice none 0 0] rfl rfl (z54 HM.out.b2 (Nat.le_of_eq (by kernel_rfl))) (by kernel_rfl) (by kernel_rfl) ?_;rw[z36]))
  refine bodyPost_ret (results_cell_row rfl _ _ n2 62 #[.int .i64 4,.string ⟨#[]⟩,.slice none 0 0,.string y3,.string y1.f0,.int .i64 y1.f1.f0,.int .i64 y1.f1.f1,.string y1.f1.f2,.string y2.f0,.int .i64 y2.f1.f0,.int .i64 y2.f1.f1,.string y2.f1.f2,.string y4.f0,.int .i64 y4.f1.f0,.int .i64 y4.f1.f1,.string y4.f1.f2,.slice none 0 0] (0,0) _ rfl P1.out Tryz.underlying62 rfl (by kernel_rfl)) rfl ?_;exact P3.out
 |false=>exact absurd HSEL.out zA12

set_option maxHeartbeats 4000000 in
set_option maxRecDepth 100000 in
theorem zfn (w0 w:World) (g:Nat) (ts:List S108) (p:Nat) (en:Int) (hE:Env w0 ts) (hsel:selL (leftL ts p)=2) (hI:Rd w0 w g ts p en) (hB:Below w0.heap.size w0 w) :
 Calls Tryz.prog 116 #[.pointer (some ⟨g,0,none⟩)] w fun e w'=>Post w0 w g ts en (z2c (leftL ts p)) (fun v w' x=>litV w' w.heap.size v x) e w':=by
 have HE:=z00.mk hE;obtain⟨n2,en2⟩:∃n,w.heap.size=n:=⟨_,rfl⟩
 have hN:=z1h w (.cells zLit 62);rw[en2]at hN;have HM:=z00.mk (show L2 w0 w (w.alloc (.cells zLit 62)) g n2 ts en p from⟨hI.alloc _,z04 hB _,z1s (z0v.refl w g none) _,hN,hB.size,hI.lt,by omega⟩);have HS:=z00.mk (z2a w0 _ g ts p en 0 (by omega) HM.out.R HM.out.B);rw[Nat.add_zero]at HS;obtain⟨r,hr⟩:∃r,z2c (leftL ts p)=r:=⟨_,rfl⟩
 rw[hr];have HQ:=z00.mk hr.symm;have HK3:=z00.mk (z2y ts en p);obtain⟨x3,hx3⟩:∃x,seeP ts en p=x:=⟨_,rfl⟩
 obtain⟨x4,hx4⟩:∃x,seeP ts en (p+1)=x:=⟨_,rfl⟩
 rw[hx3]at HS;have HX3:=z00.mk hx3;have HX4:=z00.mk hx4;clear hE hI hB hN hr hx3 hx4 HK3;go_enter Tryz.func116,Tryz.ntmps116
 go_wp2_with fail
 refine HS.out.mono ?_;rintro e w1 ⟨rfl,R,B,K⟩;replace HM:=z00.mk (HM.out.call R B K);clear R B K HS;have HS:=z2a w0 _ g ts p en 1 (by omega) HM.out.R HM.out.B;rw[HX4.out]at HS;have HS:=z00.mk HS
 go_wp2_with fail
 refine HS.out.mono ?_;rintro e w2 ⟨rfl,R,B,K⟩;replace HM:=z00.mk (HM.out.call R B K);clear R B K HS;obtain⟨n3,en3⟩:∃n,w2.heap.size=n:=⟨_,rfl⟩
 have hx30:=z06 (z1h w2 (.cells #[.int .i64 x3.f0,.string x3.f1,.int .i64 x3.f2] 108)) (.cells #[.int .i64 x4.f0,.string x4.f1,.int .i64 x4.f2] 108);have hx40:=z1h (w2.alloc (.cells #[.int .i64 x3.f0,.string x3.f1,.int .i64 x3.f2] 108)) (.cells #[.int .i64 x4.f0,.string x4.f1,.int .i64 x4.f2] 108);rw[en3]at hx30;rw[show(w2.alloc (.cells #[.int .i64 x3.f0,.string x3.f1,.int .i64 x3.f2] 108)).heap.size=n3+1 by simp[en3]]at hx40;have HT:=z00.mk (show Two _ n3 x3 x4 from⟨hx30,hx40⟩);have HG3:=z00.mk (show g<n3 by have:=HM.out.R.lt;omega);replace HM:=z00.mk ((HM.out.alloc_ (.cells #[.int .i64 x3.f0,.string x3.f1,.int .i64 x3.f2] 108)).alloc_ (.cells #[.int .i64 x4.f0,.string x4.f1,.int .i64 x4.f2] 108));clear hx30 hx40
 go_upto_region 2 with (fail)
 generalize (w2.alloc (.cells #[.int .i64 x3.f0,.string x3.f1,.int .i64 x3.f2] 108)).alloc (.cells #[.int .i64 x4.f0,.string x4.f1,.int .i64 x4.f2] 108)=w3 at HM HT ⊢
 obtain⟨st,hst⟩:∃c,z2n (leftL ts p)=c:=⟨_,rfl⟩
 obtain⟨cm,hcm⟩:∃c,z2q (leftL ts p)=c:=⟨_,rfl⟩
 obtain⟨c1,hc1⟩:∃c,(kindL (leftL ts p)==2&&isL ((leftL ts p).drop 1) 1 [105,115])=c:=⟨_,rfl⟩
 obtain⟨c2,hc2⟩:∃c,isL (leftL ts p) 1 [110,111,116]=c:=⟨_,rfl⟩
 obtain⟨c3,hc3⟩:∃c,isL (leftL ts p) 1 [119,97,108,107]=c:=⟨_,rfl⟩
 obtain⟨c4,hc4⟩:∃c,predL (leftL ts p)=c:=⟨_,rfl⟩
 replace HQ := z00.mk (show r=if(st&&cm)=true then z5f (leftL ts p)else if c1=true then letP (leftL ts p)else if c2=true then z4q 2 (leftL ts (p+1))else if c3=true then walkP (leftL ts (p+1))else if c4=true then z4q 1 (leftL ts p)else bnd (termP (leftL ts p)) fun _ r=>.error (r.length,2) by
  rw[HQ.out,←z0y ts p 1];unfold z2c;rw[hst,hcm,hc1,hc2,hc3,hc4])
 have HSEL := z00.mk (show(if(st&&cm)=true then 0 else if c1=true then 1 else if c2=true then 2 else if c3=true then 3 else if c4=true then 4 else 5)=2 by
  unfold selL at hsel;rw[hst,hcm,hc1,hc2,hc3,hc4]at hsel;exact hsel)
 clear hsel;have HL0 : z00 (cm = true → p + 1 < ts.length) := ⟨fun h=>by
  rw[h]at hcm;unfold z2q mk1 at hcm;rw[z0y]at hcm;exact z4y fun e=>by rw[e]at hcm;cases hcm⟩
 have HL1 : z00 (c1 = true → p + 1 < ts.length) := ⟨fun h=>by
  rw[h,z0y,Bool.and_eq_true]at hc1;exact z4h hc1.2⟩
 have HL2:z00 (c2=true→p<ts.length):=⟨fun h=>z4h (hc2.trans h)⟩
 have HL3:z00 (c3=true→p<ts.length):=⟨fun h=>z4h (hc3.trans h)⟩
 have HV1:z00 (((x3.f0==2)&&((x4.f0==1)&&(x4.f1.toList==[105,115])))=c1):=⟨zA0r⟩
 have HV2:z00 (((x3.f0==1)&&(x3.f1.toList==[110,111,116]))=c2):=⟨zA15⟩
 have HV3:z00 (((x3.f0==1)&&(x3.f1.toList==[119,97,108,107]))=c3):=⟨zA16⟩
 have HV4:z00 (((x3.f0==1)&&!keyL x3.f1.data.toList)=c4):=⟨zA17⟩
 have HST:=z35 w0 w3 g ts p en HM.out.R HM.out.B;have HCM:=z00.mk (fun W h1 h2=>z3l w0 W g ts p en h1 h2);rw[hst]at HST;rw[hcm]at HCM;have HST:=z00.mk HST;clear hst hcm hc1 hc2 hc3 hc4 HX3 HX4
 go_cut [16] (fun v16 wc=>v16=.bool (st&&cm)∧z00 (L2 w0 w wc g n2 ts en p)∧z00 (Two wc n3 x3 x4))
 case first =>
  cases st with
  |false =>
   go_wp2_with fail
   refine HST.out.mono ?_;rintro e w4 ⟨rfl,R,B,K⟩;have HM2:=z00.mk (HM.out.call R B K);have HT2:=z00.mk (show Two w4 n3 x3 x4 from⟨K.blk HT.out.1 zA0i (by simp),K.blk HT.out.2 zA0i (by simp)⟩);clear R B K;go_wp2;go_meet
   case rel=>exact⟨rfl,HM2,HT2⟩
  |true =>
   go_wp2_with fail
   refine HST.out.mono ?_;rintro e w4 ⟨rfl,R,B,K⟩;have HM2:=z00.mk (HM.out.call R B K);have HT2:=z00.mk (show Two w4 n3 x3 x4 from⟨K.blk HT.out.1 zA0i (by simp),K.blk HT.out.2 zA0i (by simp)⟩);have HC:=z00.mk (HCM.out w4 R B);clear R B K
   go_wp2_with fail
   refine HC.out.mono ?_;rintro e w5 ⟨rfl,R,B,K⟩;replace HM2:=z00.mk (HM2.out.call R B K);replace HT2:=z00.mk (show Two w5 n3 x3 x4 from⟨K.blk HT2.out.1 zA0i (by simp),K.blk HT2.out.2 zA0i (by simp)⟩);clear R B K HC;go_wp2;go_meet
   case rel=>exact⟨rfl,HM2,HT2⟩
 case rest =>
 clear HM HT HST HCM;obtain⟨rfl,HM,HT⟩:=hcut;obtain⟨c0,hc0⟩:∃c,(st&&cm)=c:=⟨_,rfl⟩
 have HL0':z00 (c0=true→p+1<ts.length):=⟨fun h=>HL0.out zA0x⟩
 rw[hc0]at HQ HSEL ⊢;clear hc0 HL0
 cases c0 with
 |true =>
  simp only[if_true]at HQ;exact absurd HSEL.out (by simp)
 |false =>
 simp only[Bool.false_eq_true,if_false]at HQ;clear HL0';have h30:wc.cell? ⟨n3,0,none⟩=some (.int .i64 x3.f0):=(z01 HT.out.1 0).trans rfl;have h31:wc.cell? ⟨n3,1,none⟩=some (.string x3.f1):=(z01 HT.out.1 1).trans rfl;have h40:wc.cell? ⟨n3+1,0,none⟩=some (.int .i64 x4.f0):=(z01 HT.out.2 0).trans rfl;have h41:wc.cell? ⟨n3+1,1,none⟩=some (.string x4.f1):=(z01 HT.out.2 1).trans rfl
 go_upto_region 7 with (fail)
 go_cut [33] (fun v33 wc=>v33=.bool c1∧z00 (L2 w0 w wc g n2 ts en p)∧z00 (Two wc n3 x3 x4))
 case first =>
  cases k1:(x3.f0==2)with
  |false =>
   go_wp2;go_meet
   case rel=>exact⟨by rw[←HV1.out,k1];rfl,HM,HT⟩
  |true =>
   cases k2:(x4.f0==1)with
   |false =>
    go_wp2;go_meet
    case rel=>exact⟨by rw[←HV1.out,k1,k2];rfl,HM,HT⟩
   |true =>
    go_wp2;go_meet
    case rel=>exact⟨by rw[←HV1.out,k1,k2];first|rfl|(simp;done)|simp,HM,HT⟩
 case rest =>
 clear HM HT h30 h31 h40 h41;obtain⟨rfl,HM,HT⟩:=hcut
 cases c1 with
 |true =>
  simp only[if_true]at HQ;exact absurd HSEL.out (by simp)
 |false =>
 simp only[Bool.false_eq_true,if_false]at HQ;clear HL1 HV1;have h30:wc.cell? ⟨n3,0,none⟩=some (.int .i64 x3.f0):=(z01 HT.out.1 0).trans rfl;have h31:wc.cell? ⟨n3,1,none⟩=some (.string x3.f1):=(z01 HT.out.1 1).trans rfl
 go_upto_region 14 with (fail)
 go_cut [67] (fun v67 wc=>v67=.bool c2∧z00 (L2 w0 w wc g n2 ts en p)∧z00 (Two wc n3 x3 x4))
 case first =>
  cases k1:(x3.f0==1)with
  |false =>
   go_wp2;go_meet
   case rel=>exact⟨by rw[←HV2.out,k1];rfl,HM,HT⟩
  |true =>
   go_wp2;go_meet
   case rel=>exact⟨by rw[←HV2.out,k1];first|rfl|(simp;done)|simp,HM,HT⟩
 case rest =>
 clear HM HT h30 h31;obtain⟨rfl,HM,HT⟩:=hcut
 cases c2 with
 |true =>
  simp only[if_true]at HQ;obtain⟨Ag,cg,hbg,_⟩:=id HM.out.R;have hcg:wc.cell? ⟨g,1,none⟩=some (.int .i64 p):=(z01 hbg 1).trans rfl;have hfg:=z03 hbg 1;clear hbg;replace HM:=z00.mk (HM.out.move (p+1) (HL2.out (by trivial)));rw[show((p+1:Nat):Int)=(p:Int)+1 by omega]at HM;have HC:=z00.mk (z6f w0 (wc.setCell ⟨g,1,none⟩ (.int .i64 ((p:Int)+1))) g ts (p+1) en false HE.out HM.out.R HM.out.B)
  go_wp2_with fail
  refine HC.out.mono ?_;intro e wa1 hp;rcases hp.split with ⟨y1,pa1,va1,ey,rfl,⟨u,rfl,hu⟩,R,B,K⟩|⟨q,i,p2',ey,h1,h2,rfl,R,B,K⟩
  case inr=>exact⟨rfl,Post.as (HQ.out.trans (z3e ey)) (Post.thrown_ h1 h2 R B (HM.out.K.trans K (.inl rfl)))⟩
  have hb1:=HM.out.K.1;have hb2:=z1u HM.out.b2;obtain⟨Au,cu,rfl⟩:=Kd.R_slice hu;have HU:=z00.mk (show Kd.R k60 60 wa1 w.heap.size (fun k=>w.heap.size≤k∧k≠n2) (.slice Au y1.1.f1.length cu) y1.1.f1 from Kd.R_mono (Kd.R_lower hu hb1) (fun k hk=>⟨Nat.le_trans hb1 hk,by omega⟩));clear hu hb1 hb2;have HE1:=z00.mk ey;replace HQ:=z00.mk (HQ.out.trans (z3q ey));replace HM:=z00.mk (HM.out.call R B K);clear R B K hp HC ey;clear hcg hfg;replace HM:=z00.mk (HM.out.alloc_ (.cells #[.string y1.1.f0,.slice Au y1.1.f1.length cu] 25));replace HU:=z00.mk (Kd.R_alloc HU.out (.cells #[.string y1.1.f0,.slice Au y1.1.f1.length cu] 25));obtain⟨P1,P2⟩:=(HM.out).ends [.int .i64 2,.string y1.1.f0,.slice Au y1.1.f1.length cu,.string ⟨#[]⟩,.string ⟨#[]⟩,.int .i64 0,.int .i64 0,.string ⟨#[]⟩,.string ⟨#[]⟩,.int .i64 0,.int .i64 0,.string ⟨#[]⟩,.string ⟨#[]⟩,.int .i64 0,.int .i64 0,.string ⟨#[]⟩,.slice none 0 0] (cs':=#[.int .i64 2,.string y1.1.f0,.slice Au y1.1.f1.length cu,.string ⟨#[]⟩,.string ⟨#[]⟩,.int .i64 0,.int .i64 0,.string ⟨#[]⟩,.string ⟨#[]⟩,.int .i64 0,.int .i64 0,.string ⟨#[]⟩,.string ⟨#[]⟩,.int .i64 0,.int .i64 0,.string ⟨#[]⟩,.slice none 0 0]) (by kernel_rfl);have P3:=z00.mk (Post.as (r':=.ok ((⟨2,y1.1,⟨#[]⟩,noneT,noneT,noneT,[]⟩:LtS),leftL ts pa1)) HQ.out (P2.out ((⟨2,y1.1,⟨#[]⟩,noneT,noneT,noneT,[]⟩:LtS)) (.slice Au y1.1.f1.length cu) (.slice none 0 0) rfl (HU.out) (Kd.R_nil _ _ _ _ _)));clear P2
  go_wp2_with (first|((with_reducible refine z5l (t:=62) (p:=2) (v:=.tmp 89) rfl ?_);refine wpList_store_mid rfl 62 (.tmp 2) (.tmp 89) rfl n2 0 #[.int .i64 2,.string y1.1.f0,.slice Au y1.1.f1.length cu,.string ⟨#[]⟩,.string ⟨#[]⟩,.int .i64 0,.int .i64 0,.string ⟨#[]⟩,.string ⟨#[]⟩,.int .i64 0,.int .i64 0,.string ⟨#[]⟩,.string ⟨#[]⟩,.int .i64 0,.int .i64 0,.string ⟨#[]⟩,.slice none 0 0] rfl rfl (z54 HM.out.b2 (Nat.le_of_eq (by kernel_rfl))) (by kernel_rfl) (by kernel_rfl) ?_;rw[z36]))
  refine bodyPost_ret (results_cell_row rfl _ _ n2 62 #[.int .i64 2,.string y1.1.f0,.slice Au y1.1.f1.length cu,.string ⟨#[]⟩,.string ⟨#[]⟩,.int .i64 0,.int .i64 0,.string ⟨#[]⟩,.string ⟨#[]⟩,.int .i64 0,.int .i64 0,.string ⟨#[]⟩,.string ⟨#[]⟩,.int .i64 0,.int .i64 0,.string ⟨#[]⟩,.slice none 0 0] (0,0) _ rfl P1.out Tryz.underlying62 rfl (by kernel_rfl)) rfl ?_;exact P3.out
 |false=>exact absurd HSEL.out zA12

set_option maxHeartbeats 4000000 in
set_option maxRecDepth 100000 in
theorem zgf (w0 w:World) (g:Nat) (ts:List S108) (p:Nat) (en:Int) (hE:Env w0 ts) (hsel:selL (leftL ts p)=3) (hI:Rd w0 w g ts p en) (hB:Below w0.heap.size w0 w) :
 Calls Tryz.prog 116 #[.pointer (some ⟨g,0,none⟩)] w fun e w'=>Post w0 w g ts en (z2c (leftL ts p)) (fun v w' x=>litV w' w.heap.size v x) e w':=by
 have HE:=z00.mk hE;obtain⟨n2,en2⟩:∃n,w.heap.size=n:=⟨_,rfl⟩
 have hN:=z1h w (.cells zLit 62);rw[en2]at hN;have HM:=z00.mk (show L2 w0 w (w.alloc (.cells zLit 62)) g n2 ts en p from⟨hI.alloc _,z04 hB _,z1s (z0v.refl w g none) _,hN,hB.size,hI.lt,by omega⟩);have HS:=z00.mk (z2a w0 _ g ts p en 0 (by omega) HM.out.R HM.out.B);rw[Nat.add_zero]at HS;obtain⟨r,hr⟩:∃r,z2c (leftL ts p)=r:=⟨_,rfl⟩
 rw[hr];have HQ:=z00.mk hr.symm;have HK3:=z00.mk (z2y ts en p);obtain⟨x3,hx3⟩:∃x,seeP ts en p=x:=⟨_,rfl⟩
 obtain⟨x4,hx4⟩:∃x,seeP ts en (p+1)=x:=⟨_,rfl⟩
 rw[hx3]at HS;have HX3:=z00.mk hx3;have HX4:=z00.mk hx4;clear hE hI hB hN hr hx3 hx4 HK3;go_enter Tryz.func116,Tryz.ntmps116
 go_wp2_with fail
 refine HS.out.mono ?_;rintro e w1 ⟨rfl,R,B,K⟩;replace HM:=z00.mk (HM.out.call R B K);clear R B K HS;have HS:=z2a w0 _ g ts p en 1 (by omega) HM.out.R HM.out.B;rw[HX4.out]at HS;have HS:=z00.mk HS
 go_wp2_with fail
 refine HS.out.mono ?_;rintro e w2 ⟨rfl,R,B,K⟩;replace HM:=z00.mk (HM.out.call R B K);clear R B K HS;obtain⟨n3,en3⟩:∃n,w2.heap.size=n:=⟨_,rfl⟩
 have hx30:=z06 (z1h w2 (.cells #[.int .i64 x3.f0,.string x3.f1,.int .i64 x3.f2] 108)) (.cells #[.int .i64 x4.f0,.string x4.f1,.int .i64 x4.f2] 108);have hx40:=z1h (w2.alloc (.cells #[.int .i64 x3.f0,.string x3.f1,.int .i64 x3.f2] 108)) (.cells #[.int .i64 x4.f0,.string x4.f1,.int .i64 x4.f2] 108);rw[en3]at hx30;rw[show(w2.alloc (.cells #[.int .i64 x3.f0,.string x3.f1,.int .i64 x3.f2] 108)).heap.size=n3+1 by simp[en3]]at hx40;have HT:=z00.mk (show Two _ n3 x3 x4 from⟨hx30,hx40⟩);have HG3:=z00.mk (show g<n3 by have:=HM.out.R.lt;omega);replace HM:=z00.mk ((HM.out.alloc_ (.cells #[.int .i64 x3.f0,.string x3.f1,.int .i64 x3.f2] 108)).alloc_ (.cells #[.int .i64 x4.f0,.string x4.f1,.int .i64 x4.f2] 108));clear hx30 hx40
 go_upto_region 2 with (fail)
 generalize (w2.alloc (.cells #[.int .i64 x3.f0,.string x3.f1,.int .i64 x3.f2] 108)).alloc (.cells #[.int .i64 x4.f0,.string x4.f1,.int .i64 x4.f2] 108)=w3 at HM HT ⊢
 obtain⟨st,hst⟩:∃c,z2n (leftL ts p)=c:=⟨_,rfl⟩
 obtain⟨cm,hcm⟩:∃c,z2q (leftL ts p)=c:=⟨_,rfl⟩
 obtain⟨c1,hc1⟩:∃c,(kindL (leftL ts p)==2&&isL ((leftL ts p).drop 1) 1 [105,115])=c:=⟨_,rfl⟩
 obtain⟨c2,hc2⟩:∃c,isL (leftL ts p) 1 [110,111,116]=c:=⟨_,rfl⟩
 obtain⟨c3,hc3⟩:∃c,isL (leftL ts p) 1 [119,97,108,107]=c:=⟨_,rfl⟩
 obtain⟨c4,hc4⟩:∃c,predL (leftL ts p)=c:=⟨_,rfl⟩
 replace HQ := z00.mk (show r=if(st&&cm)=true then z5f (leftL ts p)else if c1=true then letP (leftL ts p)else if c2=true then z4q 2 (leftL ts (p+1))else if c3=true then walkP (leftL ts (p+1))else if c4=true then z4q 1 (leftL ts p)else bnd (termP (leftL ts p)) fun _ r=>.error (r.length,2) by
  rw[HQ.out,←z0y ts p 1];unfold z2c;rw[hst,hcm,hc1,hc2,hc3,hc4])
 have HSEL := z00.mk (show(if(st&&cm)=true then 0 else if c1=true then 1 else if c2=true then 2 else if c3=true then 3 else if c4=true then 4 else 5)=3 by
  unfold selL at hsel;rw[hst,hcm,hc1,hc2,hc3,hc4]at hsel;exact hsel)
 clear hsel;have HL0 : z00 (cm = true → p + 1 < ts.length) := ⟨fun h=>by
  rw[h]at hcm;unfold z2q mk1 at hcm;rw[z0y]at hcm;exact z4y fun e=>by rw[e]at hcm;cases hcm⟩
 have HL1 : z00 (c1 = true → p + 1 < ts.length) := ⟨fun h=>by
  rw[h,z0y,Bool.and_eq_true]at hc1;exact z4h hc1.2⟩
 have HL2:z00 (c2=true→p<ts.length):=⟨fun h=>z4h (hc2.trans h)⟩
 have HL3:z00 (c3=true→p<ts.length):=⟨fun h=>z4h (hc3.trans h)⟩
 have HV1:z00 (((x3.f0==2)&&((x4.f0==1)&&(x4.f1.toList==[105,115])))=c1):=⟨zA0r⟩
 have HV2:z00 (((x3.f0==1)&&(x3.f1.toList==[110,111,116]))=c2):=⟨zA15⟩
 have HV3:z00 (((x3.f0==1)&&(x3.f1.toList==[119,97,108,107]))=c3):=⟨zA16⟩
 have HV4:z00 (((x3.f0==1)&&!keyL x3.f1.data.toList)=c4):=⟨zA17⟩
 have HST:=z35 w0 w3 g ts p en HM.out.R HM.out.B;have HCM:=z00.mk (fun W h1 h2=>z3l w0 W g ts p en h1 h2);rw[hst]at HST;rw[hcm]at HCM;have HST:=z00.mk HST;clear hst hcm hc1 hc2 hc3 hc4 HX3 HX4
 go_cut [16] (fun v16 wc=>v16=.bool (st&&cm)∧z00 (L2 w0 w wc g n2 ts en p)∧z00 (Two wc n3 x3 x4))
 case first =>
  cases st with
  |false =>
   go_wp2_with fail
   refine HST.out.mono ?_;rintro e w4 ⟨rfl,R,B,K⟩;have HM2:=z00.mk (HM.out.call R B K);have HT2:=z00.mk (show Two w4 n3 x3 x4 from⟨K.blk HT.out.1 zA0i (by simp),K.blk HT.out.2 zA0i (by simp)⟩);clear R B K;go_wp2;go_meet
   case rel=>exact⟨rfl,HM2,HT2⟩
  |true =>
   go_wp2_with fail
   refine HST.out.mono ?_;rintro e w4 ⟨rfl,R,B,K⟩;have HM2:=z00.mk (HM.out.call R B K);have HT2:=z00.mk (show Two w4 n3 x3 x4 from⟨K.blk HT.out.1 zA0i (by simp),K.blk HT.out.2 zA0i (by simp)⟩);have HC:=z00.mk (HCM.out w4 R B);clear R B K
   go_wp2_with fail
   refine HC.out.mono ?_;rintro e w5 ⟨rfl,R,B,K⟩;replace HM2:=z00.mk (HM2.out.call R B K);replace HT2:=z00.mk (show Two w5 n3 x3 x4 from⟨K.blk HT2.out.1 zA0i (by simp),K.blk HT2.out.2 zA0i (by simp)⟩);clear R B K HC;go_wp2;go_meet
   case rel=>exact⟨rfl,HM2,HT2⟩
 case rest =>
 clear HM HT HST HCM;obtain⟨rfl,HM,HT⟩:=hcut;obtain⟨c0,hc0⟩:∃c,(st&&cm)=c:=⟨_,rfl⟩
 have HL0':z00 (c0=true→p+1<ts.length):=⟨fun h=>HL0.out zA0x⟩
 rw[hc0]at HQ HSEL ⊢;clear hc0 HL0
 cases c0 with
 |true =>
  simp only[if_true]at HQ;exact absurd HSEL.out (by simp)
 |false =>
 simp only[Bool.false_eq_true,if_false]at HQ;clear HL0';have h30:wc.cell? ⟨n3,0,none⟩=some (.int .i64 x3.f0):=(z01 HT.out.1 0).trans rfl;have h31:wc.cell? ⟨n3,1,none⟩=some (.string x3.f1):=(z01 HT.out.1 1).trans rfl;have h40:wc.cell? ⟨n3+1,0,none⟩=some (.int .i64 x4.f0):=(z01 HT.out.2 0).trans rfl;have h41:wc.cell? ⟨n3+1,1,none⟩=some (.string x4.f1):=(z01 HT.out.2 1).trans rfl
 go_upto_region 7 with (fail)
 go_cut [33] (fun v33 wc=>v33=.bool c1∧z00 (L2 w0 w wc g n2 ts en p)∧z00 (Two wc n3 x3 x4))
 case first =>
  cases k1:(x3.f0==2)with
  |false =>
   go_wp2;go_meet
   case rel=>exact⟨by rw[←HV1.out,k1];rfl,HM,HT⟩
  |true =>
   cases k2:(x4.f0==1)with
   |false =>
    go_wp2;go_meet
    case rel=>exact⟨by rw[←HV1.out,k1,k2];rfl,HM,HT⟩
   |true =>
    go_wp2;go_meet
    case rel=>exact⟨by rw[←HV1.out,k1,k2];first|rfl|(simp;done)|simp,HM,HT⟩
 case rest =>
 clear HM HT h30 h31 h40 h41;obtain⟨rfl,HM,HT⟩:=hcut
 cases c1 with
 |true =>
  simp only[if_true]at HQ;exact absurd HSEL.out (by simp)
 |false =>
 simp only[Bool.false_eq_true,if_false]at HQ;clear HL1 HV1;have h30:wc.cell? ⟨n3,0,none⟩=some (.int .i64 x3.f0):=(z01 HT.out.1 0).trans rfl;have h31:wc.cell? ⟨n3,1,none⟩=some (.string x3.f1):=(z01 HT.out.1 1).trans rfl
 go_upto_region 14 with (fail)
 go_cut [67] (fun v67 wc=>v67=.bool c2∧z00 (L2 w0 w wc g n2 ts en p)∧z00 (Two wc n3 x3 x4))
 case first =>
  cases k1:(x3.f0==1)with
  |false =>
   go_wp2;go_meet
   case rel=>exact⟨by rw[←HV2.out,k1];rfl,HM,HT⟩
  |true =>
   go_wp2;go_meet
   case rel=>exact⟨by rw[←HV2.out,k1];first|rfl|(simp;done)|simp,HM,HT⟩
 case rest =>
 clear HM HT h30 h31;obtain⟨rfl,HM,HT⟩:=hcut
 cases c2 with
 |true =>
  simp only[if_true]at HQ;exact absurd HSEL.out (by simp)
 |false =>
 simp only[Bool.false_eq_true,if_false]at HQ;clear HL2 HV2;have h30:wc.cell? ⟨n3,0,none⟩=some (.int .i64 x3.f0):=(z01 HT.out.1 0).trans rfl;have h31:wc.cell? ⟨n3,1,none⟩=some (.string x3.f1):=(z01 HT.out.1 1).trans rfl
 go_upto_region 18 with (fail)
 go_cut [90] (fun v90 wc=>v90=.bool c3∧z00 (L2 w0 w wc g n2 ts en p)∧z00 (Two wc n3 x3 x4))
 case first =>
  cases k1:(x3.f0==1)with
  |false =>
   go_wp2;go_meet
   case rel=>exact⟨by rw[←HV3.out,k1];rfl,HM,HT⟩
  |true =>
   go_wp2;go_meet
   case rel=>exact⟨by rw[←HV3.out,k1];first|rfl|(simp;done)|simp,HM,HT⟩
 case rest =>
 clear HM HT h30 h31;obtain⟨rfl,HM,HT⟩:=hcut
 cases c3 with
 |true =>
  simp only[if_true]at HQ;obtain⟨Ag,cg,hbg,_⟩:=id HM.out.R;have hcg:wc.cell? ⟨g,1,none⟩=some (.int .i64 p):=(z01 hbg 1).trans rfl;have hfg:=z03 hbg 1;clear hbg;replace HM:=z00.mk (HM.out.move (p+1) (HL3.out (by trivial)));rw[show((p+1:Nat):Int)=(p:Int)+1 by omega]at HM;have HC:=z00.mk (show Calls Tryz.prog 88 #[.pointer (some ⟨g,0,none⟩),.string ⟨#[40]⟩] (wc.setCell ⟨g,1,none⟩ (.int .i64 ((p:Int)+1))) fun e w'=>Post w0 (wc.setCell ⟨g,1,none⟩ (.int .i64 ((p:Int)+1))) g ts en (wantP [40] (leftL ts (p+1))) (fun v _ _=>v=.tuple #[]) e w' from z3f w0 (wc.setCell ⟨g,1,none⟩ (.int .i64 ((p:Int)+1))) g ts (p+1) en ⟨#[40]⟩ HM.out.R HM.out.B)
  go_wp2_with fail
  refine HC.out.mono ?_;intro e wa1 hp;rcases hp.split with ⟨y0,pa1,va1,ey,rfl,rfl,R,B,K⟩|⟨q,i,p2',ey,h1,h2,rfl,R,B,K⟩
  case inr=>exact⟨rfl,Post.as (HQ.out.trans (z3e ey)) (Post.thrown_ h1 h2 R B (HM.out.K.trans K (.inl rfl)))⟩
  have HE1:=z00.mk ey;replace HQ:=z00.mk (HQ.out.trans (z3q ey));replace HM:=z00.mk (HM.out.call R B K);clear R B K hp HC ey;clear hcg hfg;have HC:=z00.mk (z44 w0 wa1 g ts pa1 en HE.out HM.out.R HM.out.B)
  go_wp2_with fail
  refine HC.out.mono ?_;intro e wa2 hp;rcases hp.split with ⟨y1,pa2,va2,ey,rfl,rfl,R,B,K⟩|⟨q,i,p2',ey,h1,h2,rfl,R,B,K⟩
  case inr=>exact⟨rfl,Post.as (HQ.out.trans (z3e ey)) (Post.thrown_ h1 h2 R B (HM.out.K.trans K (.inl rfl)))⟩
  have HE2:=z00.mk ey;replace HQ:=z00.mk (HQ.out.trans (z3q ey));replace HM:=z00.mk (HM.out.call R B K);clear R B K hp HC ey;obtain⟨n5,en5⟩:∃n,wa2.heap.size=n:=⟨_,rfl⟩
  replace HM:=z00.mk (HM.out.alloc #[.int .i64 5,.string ⟨#[]⟩,.slice none 0 0,.string ⟨#[]⟩,.string y1.f0,.int .i64 y1.f1.f0,.int .i64 y1.f1.f1,.string y1.f1.f2,.string ⟨#[]⟩,.int .i64 0,.int .i64 0,.string ⟨#[]⟩,.string ⟨#[]⟩,.int .i64 0,.int .i64 0,.string ⟨#[]⟩,.slice none 0 0] en5);simp only[tmV];have HC:=z00.mk (show Calls Tryz.prog 88 #[.pointer (some ⟨g,0,none⟩),.string ⟨#[44]⟩] (wa2.alloc (.cells #[.int .i64 5,.string ⟨#[]⟩,.slice none 0 0,.string ⟨#[]⟩,.string y1.f0,.int .i64 y1.f1.f0,.int .i64 y1.f1.f1,.string y1.f1.f2,.string ⟨#[]⟩,.int .i64 0,.int .i64 0,.string ⟨#[]⟩,.string ⟨#[]⟩,.int .i64 0,.int .i64 0,.string ⟨#[]⟩,.slice none 0 0] 62)) fun e w'=>Post w0 (wa2.alloc (.cells #[.int .i64 5,.string ⟨#[]⟩,.slice none 0 0,.string ⟨#[]⟩,.string y1.f0,.int .i64 y1.f1.f0,.int .i64 y1.f1.f1,.string y1.f1.f2,.string ⟨#[]⟩,.int .i64 0,.int .i64 0,.string ⟨#[]⟩,.string ⟨#[]⟩,.int .i64 0,.int .i64 0,.string ⟨#[]⟩,.slice none 0 0] 62)) g ts en (wantP [44] (leftL ts pa2)) (fun v _ _=>v=.tuple #[]) e w' from z3f w0 (wa2.alloc (.cells #[.int .i64 5,.string ⟨#[]⟩,.slice none 0 0,.string ⟨#[]⟩,.string y1.f0,.int .i64 y1.f1.f0,.int .i64 y1.f1.f1,.string y1.f1.f2,.string ⟨#[]⟩,.int .i64 0,.int .i64 0,.string ⟨#[]⟩,.string ⟨#[]⟩,.int .i64 0,.int .i64 0,.string ⟨#[]⟩,.slice none 0 0] 62)) g ts pa2 en ⟨#[44]⟩ HM.out.R HM.out.B)
  go_wp2_with fail
  refine HC.out.mono ?_;intro e wa3 hp;rcases hp.split with ⟨y2,pa3,va3,ey,rfl,rfl,R,B,K⟩|⟨q,i,p2',ey,h1,h2,rfl,R,B,K⟩
  case inr=>exact⟨rfl,Post.as (HQ.out.trans (z3e ey)) (Post.thrown_ h1 h2 R B (HM.out.K.trans K (.inl rfl)))⟩
  have HE3:=z00.mk ey;replace HQ:=z00.mk (HQ.out.trans (z3q ey));replace HM:=z00.mk (HM.out.call R B K);clear R B K hp HC ey;have HC:=z00.mk (zcu w0 wa3 g ts pa3 en HM.out.R HM.out.B)
  go_wp2_with fail
  refine HC.out.mono ?_;intro e wa4 hp;rcases hp.split with ⟨y3,pa4,va4,ey,rfl,hu,R,B,K⟩|⟨q,i,p2',ey,h1,h2,rfl,R,B,K⟩
  case inr=>exact⟨rfl,Post.as (HQ.out.trans (z3e ey)) (Post.thrown_ h1 h2 R B (HM.out.K.trans K (.inl rfl)))⟩
  have hb1:=HM.out.K.1;have hb2:=z1u HM.out.b2;have hb5:=z1u HM.out.b5;obtain⟨Au,cu,rfl⟩:=Kd.R_slice hu;have HU:=z00.mk (show Kd.R k69 69 wa4 w.heap.size (fun k=>w.heap.size≤k∧k≠n2∧k≠n5) (.slice Au y3.length cu) y3 from Kd.R_mono (Kd.R_lower hu hb1) (fun k hk=>⟨Nat.le_trans hb1 hk,by omega,by omega⟩));clear hu hb1 hb2 hb5;have HE4:=z00.mk ey;replace HQ:=z00.mk (HQ.out.trans (z3q ey));replace HM:=z00.mk (HM.out.call R B K);clear R B K hp HC ey;have hx16:wa4.cell? ⟨n5,16,none⟩=some (.slice none 0 0):=(z01 HM.out.b5 16).trans rfl;have hxf16:=z03 HM.out.b5 16;replace HU:=z00.mk (show Kd.R k69 69 (wa4.setCell ⟨n5,16,none⟩ (.slice Au y3.length cu)) w.heap.size (fun k=>w.heap.size≤k∧k≠n2∧k≠n5) (.slice Au y3.length cu) y3 from z4p (fun k hk=>hk.2.2) [.slice Au y3.length cu] 16 _ HU.out);replace HM:=z00.mk (show L5 w0 w (wa4.setCell ⟨n5,16,none⟩ (.slice Au y3.length cu)) g n2 n5 ts en pa4 #[.int .i64 5,.string ⟨#[]⟩,.slice none 0 0,.string ⟨#[]⟩,.string y1.f0,.int .i64 y1.f1.f0,.int .i64 y1.f1.f1,.string y1.f1.f2,.string ⟨#[]⟩,.int .i64 0,.int .i64 0,.string ⟨#[]⟩,.string ⟨#[]⟩,.int .i64 0,.int .i64 0,.string ⟨#[]⟩,.slice Au y3.length cu]from HM.out.put5 16 [.slice Au y3.length cu] (by kernel_rfl));have HC:=z00.mk (show Calls Tryz.prog 88 #[.pointer (some ⟨g,0,none⟩),.string ⟨#[44]⟩] (wa4.setCell ⟨n5,16,none⟩ (.slice Au y3.length cu)) fun e w'=>Post w0 (wa4.setCell ⟨n5,16,none⟩ (.slice Au y3.length cu)) g ts en (wantP [44] (leftL ts pa4)) (fun v _ _=>v=.tuple #[]) e w' from z3f w0 (wa4.setCell ⟨n5,16,none⟩ (.slice Au y3.length cu)) g ts pa4 en ⟨#[44]⟩ HM.out.R HM.out.B)
  go_wp2_with fail
  refine HC.out.mono ?_;intro e wa5 hp;rcases hp.split with ⟨y4,pa5,va5,ey,rfl,rfl,R,B,K⟩|⟨q,i,p2',ey,h1,h2,rfl,R,B,K⟩
  case inr=>exact⟨rfl,Post.as (HQ.out.trans (z3e ey)) (Post.thrown_ h1 h2 R B (HM.out.K.trans K (.inl rfl)))⟩
  replace HU:=z00.mk (Kd.R_keep HU.out K (fun k hk=>by have h1:=hk.1;have h2:=HM.out.gw;omega));have HE5:=z00.mk ey;replace HQ:=z00.mk (HQ.out.trans (z3q ey));replace HM:=z00.mk (HM.out.call R B K);clear R B K hp HC ey;clear hx16 hxf16;have HC:=z00.mk (z44 w0 wa5 g ts pa5 en HE.out HM.out.R HM.out.B)
  go_wp2_with fail
  refine HC.out.mono ?_;intro e wa6 hp;rcases hp.split with ⟨y5,pa6,va6,ey,rfl,rfl,R,B,K⟩|⟨q,i,p2',ey,h1,h2,rfl,R,B,K⟩
  case inr=>exact⟨rfl,Post.as (HQ.out.trans (z3e ey)) (Post.thrown_ h1 h2 R B (HM.out.K.trans K (.inl rfl)))⟩
  replace HU:=z00.mk (Kd.R_keep HU.out K (fun k hk=>by have h1:=hk.1;have h2:=HM.out.gw;omega));have HE6:=z00.mk ey;replace HQ:=z00.mk (HQ.out.trans (z3q ey));replace HM:=z00.mk (HM.out.call R B K);clear R B K hp HC ey;have hx8:wa6.cell? ⟨n5,8,none⟩=some (.string ⟨#[]⟩):=(z01 HM.out.b5 8).trans rfl;have hx9:wa6.cell? ⟨n5,9,none⟩=some (.int .i64 0):=(z01 HM.out.b5 9).trans rfl;have hx10:wa6.cell? ⟨n5,10,none⟩=some (.int .i64 0):=(z01 HM.out.b5 10).trans rfl;have hx11:wa6.cell? ⟨n5,11,none⟩=some (.string ⟨#[]⟩):=(z01 HM.out.b5 11).trans rfl;have hxf8:=z03 HM.out.b5 8;have hxf9:=z03 HM.out.b5 9;have hxf10:=z03 HM.out.b5 10;have hxf11:=z03 HM.out.b5 11;simp only[tmV];replace HU:=z00.mk (show Kd.R k69 69 ((((wa6.setCell ⟨n5,8,none⟩ (.string y5.f0)).setCell ⟨n5,9,none⟩ (.int .i64 y5.f1.f0)).setCell ⟨n5,10,none⟩ (.int .i64 y5.f1.f1)).setCell ⟨n5,11,none⟩ (.string y5.f1.f2)) w.heap.size (fun k=>w.heap.size≤k∧k≠n2∧k≠n5) (.slice Au y3.length cu) y3 from z4p (fun k hk=>hk.2.2) [.string y5.f0,.int .i64 y5.f1.f0,.int .i64 y5.f1.f1,.string y5.f1.f2] 8 _ HU.out);replace HM:=z00.mk (show L5 w0 w ((((wa6.setCell ⟨n5,8,none⟩ (.string y5.f0)).setCell ⟨n5,9,none⟩ (.int .i64 y5.f1.f0)).setCell ⟨n5,10,none⟩ (.int .i64 y5.f1.f1)).setCell ⟨n5,11,none⟩ (.string y5.f1.f2)) g n2 n5 ts en pa6 #[.int .i64 5,.string ⟨#[]⟩,.slice none 0 0,.string ⟨#[]⟩,.string y1.f0,.int .i64 y1.f1.f0,.int .i64 y1.f1.f1,.string y1.f1.f2,.string y5.f0,.int .i64 y5.f1.f0,.int .i64 y5.f1.f1,.string y5.f1.f2,.string ⟨#[]⟩,.int .i64 0,.int .i64 0,.string ⟨#[]⟩,.slice Au y3.length cu]from HM.out.put5 8 [.string y5.f0,.int .i64 y5.f1.f0,.int .i64 y5.f1.f1,.string y5.f1.f2] (by kernel_rfl))
  have HC:=z00.mk (show Calls Tryz.prog 88 #[.pointer (some ⟨g,0,none⟩),.string ⟨#[41]⟩] ((((wa6.setCell ⟨n5,8,none⟩ (.string y5.f0)).setCell ⟨n5,9,none⟩ (.int .i64 y5.f1.f0)).setCell ⟨n5,10,none⟩ (.int .i64 y5.f1.f1)).setCell ⟨n5,11,none⟩ (.string y5.f1.f2)) fun e w'=>Post w0 ((((wa6.setCell ⟨n5,8,none⟩ (.string y5.f0)).setCell ⟨n5,9,none⟩ (.int .i64 y5.f1.f0)).setCell ⟨n5,10,none⟩ (.int .i64 y5.f1.f1)).setCell ⟨n5,11,none⟩ (.string y5.f1.f2)) g ts en (wantP [41] (leftL ts pa6)) (fun v _ _=>v=.tuple #[]) e w' from z3f w0 ((((wa6.setCell ⟨n5,8,none⟩ (.string y5.f0)).setCell ⟨n5,9,none⟩ (.int .i64 y5.f1.f0)).setCell ⟨n5,10,none⟩ (.int .i64 y5.f1.f1)).setCell ⟨n5,11,none⟩ (.string y5.f1.f2)) g ts pa6 en ⟨#[41]⟩ HM.out.R HM.out.B)
  go_wp2_with fail
  refine HC.out.mono ?_;intro e wa7 hp;rcases hp.split with ⟨y6,pa7,va7,ey,rfl,rfl,R,B,K⟩|⟨q,i,p2',ey,h1,h2,rfl,R,B,K⟩
  case inr=>exact⟨rfl,Post.as (HQ.out.trans (z3e ey)) (Post.thrown_ h1 h2 R B (HM.out.K.trans K (.inl rfl)))⟩
  replace HU:=z00.mk (Kd.R_keep HU.out K (fun k hk=>by have h1:=hk.1;have h2:=HM.out.gw;omega));have HE7:=z00.mk ey;replace HQ:=z00.mk (HQ.out.trans (z3q ey));replace HM:=z00.mk (HM.out.call R B K);clear R B K hp HC ey;clear hx8 hx9 hx10 hx11 hxf8 hxf9 hxf10 hxf11;obtain⟨P1,P2⟩:=(HM.out.toL2).ends [.int .i64 5,.string ⟨#[]⟩,.slice none 0 0,.string ⟨#[]⟩,.string y1.f0,.int .i64 y1.f1.f0,.int .i64 y1.f1.f1,.string y1.f1.f2,.string y5.f0,.int .i64 y5.f1.f0,.int .i64 y5.f1.f1,.string y5.f1.f2,.string ⟨#[]⟩,.int .i64 0,.int .i64 0,.string ⟨#[]⟩,.slice Au y3.length cu] (cs':=#[.int .i64 5,.string ⟨#[]⟩,.slice none 0 0,.string ⟨#[]⟩,.string y1.f0,.int .i64 y1.f1.f0,.int .i64 y1.f1.f1,.string y1.f1.f2,.string y5.f0,.int .i64 y5.f1.f0,.int .i64 y5.f1.f1,.string y5.f1.f2,.string ⟨#[]⟩,.int .i64 0,.int .i64 0,.string ⟨#[]⟩,.slice Au y3.length cu]) (by kernel_rfl);have P3:=z00.mk (Post.as (r':=.ok ((⟨5,noneA,⟨#[]⟩,y1,y5,noneT,y3⟩:LtS),leftL ts pa7)) HQ.out (P2.out ((⟨5,noneA,⟨#[]⟩,y1,y5,noneT,y3⟩:LtS)) (.slice none 0 0) (.slice Au y3.length cu) rfl (Kd.R_nil _ _ _ _ _) (Kd.R_mono HU.out (fun k hk=>⟨hk.1,hk.2.1⟩))));clear P2
  go_wp2_with (first|((with_reducible refine z19 (N:=123) rfl ?_);refine wpList_load_mid rfl 62 (.tmp 9) rfl n5 0 rfl [.int .i64 5,.string ⟨#[]⟩,.slice none 0 0,.string ⟨#[]⟩,.string y1.f0,.int .i64 y1.f1.f0,.int .i64 y1.f1.f1,.string y1.f1.f2,.string y5.f0,.int .i64 y5.f1.f0,.int .i64 y5.f1.f1,.string y5.f1.f2,.string ⟨#[]⟩,.int .i64 0,.int .i64 0,.string ⟨#[]⟩,.slice Au y3.length cu] _ (z97 HM.out.b5) Tryz.underlying62 rfl (by kernel_rfl) ?_)|((with_reducible refine z5l (t:=62) (p:=2) (v:=.tmp 123) rfl ?_);refine wpList_store_mid rfl 62 (.tmp 2) (.tmp 123) rfl n2 0 #[.int .i64 5,.string ⟨#[]⟩,.slice none 0 0,.string ⟨#[]⟩,.string y1.f0,.int .i64 y1.f1.f0,.int .i64 y1.f1.f1,.string y1.f1.f2,.string y5.f0,.int .i64 y5.f1.f0,.int .i64 y5.f1.f1,.string y5.f1.f2,.string ⟨#[]⟩,.int .i64 0,.int .i64 0,.string ⟨#[]⟩,.slice Au y3.length cu] rfl rfl (z54 HM.out.b2 (Nat.le_of_eq (by kernel_rfl))) (by kernel_rfl) (by kernel_rfl) ?_;rw[z36]))
  refine bodyPost_ret (results_cell_row rfl _ _ n2 62 #[.int .i64 5,.string ⟨#[]⟩,.slice none 0 0,.string ⟨#[]⟩,.string y1.f0,.int .i64 y1.f1.f0,.int .i64 y1.f1.f1,.string y1.f1.f2,.string y5.f0,.int .i64 y5.f1.f0,.int .i64 y5.f1.f1,.string y5.f1.f2,.string ⟨#[]⟩,.int .i64 0,.int .i64 0,.string ⟨#[]⟩,.slice Au y3.length cu] (0,0) _ rfl P1.out Tryz.underlying62 rfl (by kernel_rfl)) rfl ?_;exact P3.out
 |false=>exact absurd HSEL.out zA12

set_option maxHeartbeats 4000000 in
set_option maxRecDepth 100000 in
theorem zfj (w0 w:World) (g:Nat) (ts:List S108) (p:Nat) (en:Int) (hE:Env w0 ts) (hsel:selL (leftL ts p)=4) (hI:Rd w0 w g ts p en) (hB:Below w0.heap.size w0 w) :
 Calls Tryz.prog 116 #[.pointer (some ⟨g,0,none⟩)] w fun e w'=>Post w0 w g ts en (z2c (leftL ts p)) (fun v w' x=>litV w' w.heap.size v x) e w':=by
 have HE:=z00.mk hE;obtain⟨n2,en2⟩:∃n,w.heap.size=n:=⟨_,rfl⟩
 have hN:=z1h w (.cells zLit 62);rw[en2]at hN;have HM:=z00.mk (show L2 w0 w (w.alloc (.cells zLit 62)) g n2 ts en p from⟨hI.alloc _,z04 hB _,z1s (z0v.refl w g none) _,hN,hB.size,hI.lt,by omega⟩);have HS:=z00.mk (z2a w0 _ g ts p en 0 (by omega) HM.out.R HM.out.B);rw[Nat.add_zero]at HS;obtain⟨r,hr⟩:∃r,z2c (leftL ts p)=r:=⟨_,rfl⟩
 rw[hr];have HQ:=z00.mk hr.symm;have HK3:=z00.mk (z2y ts en p);obtain⟨x3,hx3⟩:∃x,seeP ts en p=x:=⟨_,rfl⟩
 obtain⟨x4,hx4⟩:∃x,seeP ts en (p+1)=x:=⟨_,rfl⟩
 rw[hx3]at HS;have HX3:=z00.mk hx3;have HX4:=z00.mk hx4;clear hE hI hB hN hr hx3 hx4 HK3;go_enter Tryz.func116,Tryz.ntmps116
 go_wp2_with fail
 refine HS.out.mono ?_;rintro e w1 ⟨rfl,R,B,K⟩;replace HM:=z00.mk (HM.out.call R B K);clear R B K HS;have HS:=z2a w0 _ g ts p en 1 (by omega) HM.out.R HM.out.B;rw[HX4.out]at HS;have HS:=z00.mk HS
 go_wp2_with fail
 refine HS.out.mono ?_;rintro e w2 ⟨rfl,R,B,K⟩;replace HM:=z00.mk (HM.out.call R B K);clear R B K HS;obtain⟨n3,en3⟩:∃n,w2.heap.size=n:=⟨_,rfl⟩
 have hx30:=z06 (z1h w2 (.cells #[.int .i64 x3.f0,.string x3.f1,.int .i64 x3.f2] 108)) (.cells #[.int .i64 x4.f0,.string x4.f1,.int .i64 x4.f2] 108);have hx40:=z1h (w2.alloc (.cells #[.int .i64 x3.f0,.string x3.f1,.int .i64 x3.f2] 108)) (.cells #[.int .i64 x4.f0,.string x4.f1,.int .i64 x4.f2] 108);rw[en3]at hx30;rw[show(w2.alloc (.cells #[.int .i64 x3.f0,.string x3.f1,.int .i64 x3.f2] 108)).heap.size=n3+1 by simp[en3]]at hx40;have HT:=z00.mk (show Two _ n3 x3 x4 from⟨hx30,hx40⟩);have HG3:=z00.mk (show g<n3 by have:=HM.out.R.lt;omega);replace HM:=z00.mk ((HM.out.alloc_ (.cells #[.int .i64 x3.f0,.string x3.f1,.int .i64 x3.f2] 108)).alloc_ (.cells #[.int .i64 x4.f0,.string x4.f1,.int .i64 x4.f2] 108));clear hx30 hx40
 go_upto_region 2 with (fail)
 generalize (w2.alloc (.cells #[.int .i64 x3.f0,.string x3.f1,.int .i64 x3.f2] 108)).alloc (.cells #[.int .i64 x4.f0,.string x4.f1,.int .i64 x4.f2] 108)=w3 at HM HT ⊢
 obtain⟨st,hst⟩:∃c,z2n (leftL ts p)=c:=⟨_,rfl⟩
 obtain⟨cm,hcm⟩:∃c,z2q (leftL ts p)=c:=⟨_,rfl⟩
 obtain⟨c1,hc1⟩:∃c,(kindL (leftL ts p)==2&&isL ((leftL ts p).drop 1) 1 [105,115])=c:=⟨_,rfl⟩
 obtain⟨c2,hc2⟩:∃c,isL (leftL ts p) 1 [110,111,116]=c:=⟨_,rfl⟩
 obtain⟨c3,hc3⟩:∃c,isL (leftL ts p) 1 [119,97,108,107]=c:=⟨_,rfl⟩
 obtain⟨c4,hc4⟩:∃c,predL (leftL ts p)=c:=⟨_,rfl⟩
 replace HQ := z00.mk (show r=if(st&&cm)=true then z5f (leftL ts p)else if c1=true then letP (leftL ts p)else if c2=true then z4q 2 (leftL ts (p+1))else if c3=true then walkP (leftL ts (p+1))else if c4=true then z4q 1 (leftL ts p)else bnd (termP (leftL ts p)) fun _ r=>.error (r.length,2) by
  rw[HQ.out,←z0y ts p 1];unfold z2c;rw[hst,hcm,hc1,hc2,hc3,hc4])
 have HSEL := z00.mk (show(if(st&&cm)=true then 0 else if c1=true then 1 else if c2=true then 2 else if c3=true then 3 else if c4=true then 4 else 5)=4 by
  unfold selL at hsel;rw[hst,hcm,hc1,hc2,hc3,hc4]at hsel;exact hsel)
 clear hsel;have HL0 : z00 (cm = true → p + 1 < ts.length) := ⟨fun h=>by
  rw[h]at hcm;unfold z2q mk1 at hcm;rw[z0y]at hcm;exact z4y fun e=>by rw[e]at hcm;cases hcm⟩
 have HL1 : z00 (c1 = true → p + 1 < ts.length) := ⟨fun h=>by
  rw[h,z0y,Bool.and_eq_true]at hc1;exact z4h hc1.2⟩
 have HL2:z00 (c2=true→p<ts.length):=⟨fun h=>z4h (hc2.trans h)⟩
 have HL3:z00 (c3=true→p<ts.length):=⟨fun h=>z4h (hc3.trans h)⟩
 have HV1:z00 (((x3.f0==2)&&((x4.f0==1)&&(x4.f1.toList==[105,115])))=c1):=⟨zA0r⟩
 have HV2:z00 (((x3.f0==1)&&(x3.f1.toList==[110,111,116]))=c2):=⟨zA15⟩
 have HV3:z00 (((x3.f0==1)&&(x3.f1.toList==[119,97,108,107]))=c3):=⟨zA16⟩
 have HV4:z00 (((x3.f0==1)&&!keyL x3.f1.data.toList)=c4):=⟨zA17⟩
 have HST:=z35 w0 w3 g ts p en HM.out.R HM.out.B;have HCM:=z00.mk (fun W h1 h2=>z3l w0 W g ts p en h1 h2);rw[hst]at HST;rw[hcm]at HCM;have HST:=z00.mk HST;clear hst hcm hc1 hc2 hc3 hc4 HX3 HX4
 go_cut [16] (fun v16 wc=>v16=.bool (st&&cm)∧z00 (L2 w0 w wc g n2 ts en p)∧z00 (Two wc n3 x3 x4))
 case first =>
  cases st with
  |false =>
   go_wp2_with fail
   refine HST.out.mono ?_;rintro e w4 ⟨rfl,R,B,K⟩;have HM2:=z00.mk (HM.out.call R B K);have HT2:=z00.mk (show Two w4 n3 x3 x4 from⟨K.blk HT.out.1 zA0i (by simp),K.blk HT.out.2 zA0i (by simp)⟩);clear R B K;go_wp2;go_meet
   case rel=>exact⟨rfl,HM2,HT2⟩
  |true =>
   go_wp2_with fail
   refine HST.out.mono ?_;rintro e w4 ⟨rfl,R,B,K⟩;have HM2:=z00.mk (HM.out.call R B K);have HT2:=z00.mk (show Two w4 n3 x3 x4 from⟨K.blk HT.out.1 zA0i (by simp),K.blk HT.out.2 zA0i (by simp)⟩);have HC:=z00.mk (HCM.out w4 R B);clear R B K
   go_wp2_with fail
   refine HC.out.mono ?_;rintro e w5 ⟨rfl,R,B,K⟩;replace HM2:=z00.mk (HM2.out.call R B K);replace HT2:=z00.mk (show Two w5 n3 x3 x4 from⟨K.blk HT2.out.1 zA0i (by simp),K.blk HT2.out.2 zA0i (by simp)⟩);clear R B K HC;go_wp2;go_meet
   case rel=>exact⟨rfl,HM2,HT2⟩
 case rest =>
 clear HM HT HST HCM;obtain⟨rfl,HM,HT⟩:=hcut;obtain⟨c0,hc0⟩:∃c,(st&&cm)=c:=⟨_,rfl⟩
 have HL0':z00 (c0=true→p+1<ts.length):=⟨fun h=>HL0.out zA0x⟩
 rw[hc0]at HQ HSEL ⊢;clear hc0 HL0
 cases c0 with
 |true =>
  simp only[if_true]at HQ;exact absurd HSEL.out (by simp)
 |false =>
 simp only[Bool.false_eq_true,if_false]at HQ;clear HL0';have h30:wc.cell? ⟨n3,0,none⟩=some (.int .i64 x3.f0):=(z01 HT.out.1 0).trans rfl;have h31:wc.cell? ⟨n3,1,none⟩=some (.string x3.f1):=(z01 HT.out.1 1).trans rfl;have h40:wc.cell? ⟨n3+1,0,none⟩=some (.int .i64 x4.f0):=(z01 HT.out.2 0).trans rfl;have h41:wc.cell? ⟨n3+1,1,none⟩=some (.string x4.f1):=(z01 HT.out.2 1).trans rfl
 go_upto_region 7 with (fail)
 go_cut [33] (fun v33 wc=>v33=.bool c1∧z00 (L2 w0 w wc g n2 ts en p)∧z00 (Two wc n3 x3 x4))
 case first =>
  cases k1:(x3.f0==2)with
  |false =>
   go_wp2;go_meet
   case rel=>exact⟨by rw[←HV1.out,k1];rfl,HM,HT⟩
  |true =>
   cases k2:(x4.f0==1)with
   |false =>
    go_wp2;go_meet
    case rel=>exact⟨by rw[←HV1.out,k1,k2];rfl,HM,HT⟩
   |true =>
    go_wp2;go_meet
    case rel=>exact⟨by rw[←HV1.out,k1,k2];first|rfl|(simp;done)|simp,HM,HT⟩
 case rest =>
 clear HM HT h30 h31 h40 h41;obtain⟨rfl,HM,HT⟩:=hcut
 cases c1 with
 |true =>
  simp only[if_true]at HQ;exact absurd HSEL.out (by simp)
 |false =>
 simp only[Bool.false_eq_true,if_false]at HQ;clear HL1 HV1;have h30:wc.cell? ⟨n3,0,none⟩=some (.int .i64 x3.f0):=(z01 HT.out.1 0).trans rfl;have h31:wc.cell? ⟨n3,1,none⟩=some (.string x3.f1):=(z01 HT.out.1 1).trans rfl
 go_upto_region 14 with (fail)
 go_cut [67] (fun v67 wc=>v67=.bool c2∧z00 (L2 w0 w wc g n2 ts en p)∧z00 (Two wc n3 x3 x4))
 case first =>
  cases k1:(x3.f0==1)with
  |false =>
   go_wp2;go_meet
   case rel=>exact⟨by rw[←HV2.out,k1];rfl,HM,HT⟩
  |true =>
   go_wp2;go_meet
   case rel=>exact⟨by rw[←HV2.out,k1];first|rfl|(simp;done)|simp,HM,HT⟩
 case rest =>
 clear HM HT h30 h31;obtain⟨rfl,HM,HT⟩:=hcut
 cases c2 with
 |true =>
  simp only[if_true]at HQ;exact absurd HSEL.out (by simp)
 |false =>
 simp only[Bool.false_eq_true,if_false]at HQ;clear HL2 HV2;have h30:wc.cell? ⟨n3,0,none⟩=some (.int .i64 x3.f0):=(z01 HT.out.1 0).trans rfl;have h31:wc.cell? ⟨n3,1,none⟩=some (.string x3.f1):=(z01 HT.out.1 1).trans rfl
 go_upto_region 18 with (fail)
 go_cut [90] (fun v90 wc=>v90=.bool c3∧z00 (L2 w0 w wc g n2 ts en p)∧z00 (Two wc n3 x3 x4))
 case first =>
  cases k1:(x3.f0==1)with
  |false =>
   go_wp2;go_meet
   case rel=>exact⟨by rw[←HV3.out,k1];rfl,HM,HT⟩
  |true =>
   go_wp2;go_meet
   case rel=>exact⟨by rw[←HV3.out,k1];first|rfl|(simp;done)|simp,HM,HT⟩
 case rest =>
 clear HM HT h30 h31;obtain⟨rfl,HM,HT⟩:=hcut
 cases c3 with
 |true =>
  simp only[if_true]at HQ;exact absurd HSEL.out (by simp)
 |false =>
 simp only[Bool.false_eq_true,if_false]at HQ;clear HL3 HV3;have h30:wc.cell? ⟨n3,0,none⟩=some (.int .i64 x3.f0):=(z01 HT.out.1 0).trans rfl;have h31:wc.cell? ⟨n3,1,none⟩=some (.string x3.f1):=(z01 HT.out.1 1).trans rfl
 go_upto_region 28 with (fail)
 go_cut [124] (fun v124 wc=>v124=.bool c4∧z00 (L2 w0 w wc g n2 ts en p))
 case first =>
  have HY:=z00.mk (fun W=>z67.calls x3.f1 (keyL x3.f1.data.toList) W (z5t x3.f1));obtain⟨ky,hky⟩:∃c,keyL x3.f1.data.toList=c:=⟨_,rfl⟩
  rw[hky]at HY HV4;clear hky
  cases k1:(x3.f0==1)with
  |false =>
   go_wp2;go_meet
   case rel=>exact⟨by rw[←HV4.out,k1];rfl,HM⟩
  |true =>
   go_wp2_with fail
   refine(HY.out _).mono ?_;rintro e w4 ⟨rfl,d⟩;have HM2:=z00.mk (HM.out.below d.below);clear d;go_wp2;go_meet
   case rel=>exact⟨by rw[←HV4.out,k1];first|rfl|(simp;done)|simp,HM2⟩
 case rest =>
 clear HM HT h30 h31 HV4;obtain⟨rfl,HM⟩:=hcut
 cases c4 with
 |true =>
  simp only[if_true]at HQ;have HC:=z00.mk (z6f w0 wc g ts p en false HE.out HM.out.R HM.out.B)
  go_wp2_with fail
  refine HC.out.mono ?_;intro e wa1 hp;rcases hp.split with ⟨y1,pa1,va1,ey,rfl,⟨u,rfl,hu⟩,R,B,K⟩|⟨q,i,p2',ey,h1,h2,rfl,R,B,K⟩
  case inr=>exact⟨rfl,Post.as (HQ.out.trans (z3e ey)) (Post.thrown_ h1 h2 R B (HM.out.K.trans K (.inl rfl)))⟩
  have hb1:=HM.out.K.1;have hb2:=z1u HM.out.b2;obtain⟨Au,cu,rfl⟩:=Kd.R_slice hu;have HU:=z00.mk (show Kd.R k60 60 wa1 w.heap.size (fun k=>w.heap.size≤k∧k≠n2) (.slice Au y1.1.f1.length cu) y1.1.f1 from Kd.R_mono (Kd.R_lower hu hb1) (fun k hk=>⟨Nat.le_trans hb1 hk,by omega⟩));clear hu hb1 hb2;have HE1:=z00.mk ey;replace HQ:=z00.mk (HQ.out.trans (z3q ey));replace HM:=z00.mk (HM.out.call R B K);clear R B K hp HC ey;replace HM:=z00.mk (HM.out.alloc_ (.cells #[.string y1.1.f0,.slice Au y1.1.f1.length cu] 25));replace HU:=z00.mk (Kd.R_alloc HU.out (.cells #[.string y1.1.f0,.slice Au y1.1.f1.length cu] 25));obtain⟨P1,P2⟩:=(HM.out).ends [.int .i64 1,.string y1.1.f0,.slice Au y1.1.f1.length cu,.string ⟨#[]⟩,.string ⟨#[]⟩,.int .i64 0,.int .i64 0,.string ⟨#[]⟩,.string ⟨#[]⟩,.int .i64 0,.int .i64 0,.string ⟨#[]⟩,.string ⟨#[]⟩,.int .i64 0,.int .i64 0,.string ⟨#[]⟩,.slice none 0 0] (cs':=#[.int .i64 1,.string y1.1.f0,.slice Au y1.1.f1.length cu,.string ⟨#[]⟩,.string ⟨#[]⟩,.int .i64 0,.int .i64 0,.string ⟨#[]⟩,.string ⟨#[]⟩,.int .i64 0,.int .i64 0,.string ⟨#[]⟩,.string ⟨#[]⟩,.int .i64 0,.int .i64 0,.string ⟨#[]⟩,.slice none 0 0]) (by kernel_rfl);have P3:=z00.mk (Post.as (r':=.ok ((⟨1,y1.1,⟨#[]⟩,noneT,noneT,noneT,[]⟩:LtS),leftL ts pa1)) HQ.out (P2.out ((⟨1,y1.1,⟨#[]⟩,noneT,noneT,noneT,[]⟩:LtS)) (.slice Au y1.1.f1.length cu) (.slice none 0 0) rfl (HU.out) (Kd.R_nil _ _ _ _ _)));clear P2
  go_wp2_with (first|((with_reducible refine z5l (t:=62) (p:=2) (v:=.tmp 140) rfl ?_);refine wpList_store_mid rfl 62 (.tmp 2) (.tmp 140) rfl n2 0 #[.int .i64 1,.string y1.1.f0,.slice Au y1.1.f1.length cu,.string ⟨#[]⟩,.string ⟨#[]⟩,.int .i64 0,.int .i64 0,.string ⟨#[]⟩,.string ⟨#[]⟩,.int .i64 0,.int .i64 0,.string ⟨#[]⟩,.string ⟨#[]⟩,.int .i64 0,.int .i64 0,.string ⟨#[]⟩,.slice none 0 0] rfl rfl (z54 HM.out.b2 (Nat.le_of_eq (by kernel_rfl))) (by kernel_rfl) (by kernel_rfl) ?_;rw[z36]))
  refine bodyPost_ret (results_cell_row rfl _ _ n2 62 #[.int .i64 1,.string y1.1.f0,.slice Au y1.1.f1.length cu,.string ⟨#[]⟩,.string ⟨#[]⟩,.int .i64 0,.int .i64 0,.string ⟨#[]⟩,.string ⟨#[]⟩,.int .i64 0,.int .i64 0,.string ⟨#[]⟩,.string ⟨#[]⟩,.int .i64 0,.int .i64 0,.string ⟨#[]⟩,.slice none 0 0] (0,0) _ rfl P1.out Tryz.underlying62 rfl (by kernel_rfl)) rfl ?_;exact P3.out
 |false =>
  simp only[Bool.false_eq_true,if_false]at HQ;exact absurd HSEL.out (by simp)

set_option maxHeartbeats 4000000 in
set_option maxRecDepth 100000 in
theorem zga (w0 w:World) (g:Nat) (ts:List S108) (p:Nat) (en:Int) (hE:Env w0 ts) (hsel:selL (leftL ts p)=5) (hI:Rd w0 w g ts p en) (hB:Below w0.heap.size w0 w) :
 Calls Tryz.prog 116 #[.pointer (some ⟨g,0,none⟩)] w fun e w'=>Post w0 w g ts en (z2c (leftL ts p)) (fun v w' x=>litV w' w.heap.size v x) e w':=by
 have HE:=z00.mk hE;obtain⟨n2,en2⟩:∃n,w.heap.size=n:=⟨_,rfl⟩
 have hN:=z1h w (.cells zLit 62);rw[en2]at hN;have HM:=z00.mk (show L2 w0 w (w.alloc (.cells zLit 62)) g n2 ts en p from⟨hI.alloc _,z04 hB _,z1s (z0v.refl w g none) _,hN,hB.size,hI.lt,by omega⟩);have HS:=z00.mk (z2a w0 _ g ts p en 0 (by omega) HM.out.R HM.out.B);rw[Nat.add_zero]at HS;obtain⟨r,hr⟩:∃r,z2c (leftL ts p)=r:=⟨_,rfl⟩
 rw[hr];have HQ:=z00.mk hr.symm;have HK3:=z00.mk (z2y ts en p);obtain⟨x3,hx3⟩:∃x,seeP ts en p=x:=⟨_,rfl⟩
 obtain⟨x4,hx4⟩:∃x,seeP ts en (p+1)=x:=⟨_,rfl⟩
 rw[hx3]at HS;have HX3:=z00.mk hx3;have HX4:=z00.mk hx4;clear hE hI hB hN hr hx3 hx4 HK3;go_enter Tryz.func116,Tryz.ntmps116
 go_wp2_with fail
 refine HS.out.mono ?_;rintro e w1 ⟨rfl,R,B,K⟩;replace HM:=z00.mk (HM.out.call R B K);clear R B K HS;have HS:=z2a w0 _ g ts p en 1 (by omega) HM.out.R HM.out.B;rw[HX4.out]at HS;have HS:=z00.mk HS
 go_wp2_with fail
 refine HS.out.mono ?_;rintro e w2 ⟨rfl,R,B,K⟩;replace HM:=z00.mk (HM.out.call R B K);clear R B K HS;obtain⟨n3,en3⟩:∃n,w2.heap.size=n:=⟨_,rfl⟩
 have hx30:=z06 (z1h w2 (.cells #[.int .i64 x3.f0,.string x3.f1,.int .i64 x3.f2] 108)) (.cells #[.int .i64 x4.f0,.string x4.f1,.int .i64 x4.f2] 108);have hx40:=z1h (w2.alloc (.cells #[.int .i64 x3.f0,.string x3.f1,.int .i64 x3.f2] 108)) (.cells #[.int .i64 x4.f0,.string x4.f1,.int .i64 x4.f2] 108);rw[en3]at hx30;rw[show(w2.alloc (.cells #[.int .i64 x3.f0,.string x3.f1,.int .i64 x3.f2] 108)).heap.size=n3+1 by simp[en3]]at hx40;have HT:=z00.mk (show Two _ n3 x3 x4 from⟨hx30,hx40⟩);have HG3:=z00.mk (show g<n3 by have:=HM.out.R.lt;omega);replace HM:=z00.mk ((HM.out.alloc_ (.cells #[.int .i64 x3.f0,.string x3.f1,.int .i64 x3.f2] 108)).alloc_ (.cells #[.int .i64 x4.f0,.string x4.f1,.int .i64 x4.f2] 108));clear hx30 hx40
 go_upto_region 2 with (fail)
 generalize (w2.alloc (.cells #[.int .i64 x3.f0,.string x3.f1,.int .i64 x3.f2] 108)).alloc (.cells #[.int .i64 x4.f0,.string x4.f1,.int .i64 x4.f2] 108)=w3 at HM HT ⊢
 obtain⟨st,hst⟩:∃c,z2n (leftL ts p)=c:=⟨_,rfl⟩
 obtain⟨cm,hcm⟩:∃c,z2q (leftL ts p)=c:=⟨_,rfl⟩
 obtain⟨c1,hc1⟩:∃c,(kindL (leftL ts p)==2&&isL ((leftL ts p).drop 1) 1 [105,115])=c:=⟨_,rfl⟩
 obtain⟨c2,hc2⟩:∃c,isL (leftL ts p) 1 [110,111,116]=c:=⟨_,rfl⟩
 obtain⟨c3,hc3⟩:∃c,isL (leftL ts p) 1 [119,97,108,107]=c:=⟨_,rfl⟩
 obtain⟨c4,hc4⟩:∃c,predL (leftL ts p)=c:=⟨_,rfl⟩
 replace HQ := z00.mk (show r=if(st&&cm)=true then z5f (leftL ts p)else if c1=true then letP (leftL ts p)else if c2=true then z4q 2 (leftL ts (p+1))else if c3=true then walkP (leftL ts (p+1))else if c4=true then z4q 1 (leftL ts p)else bnd (termP (leftL ts p)) fun _ r=>.error (r.length,2) by
  rw[HQ.out,←z0y ts p 1];unfold z2c;rw[hst,hcm,hc1,hc2,hc3,hc4])
 have HSEL := z00.mk (show(if(st&&cm)=true then 0 else if c1=true then 1 else if c2=true then 2 else if c3=true then 3 else if c4=true then 4 else 5)=5 by
  unfold selL at hsel;rw[hst,hcm,hc1,hc2,hc3,hc4]at hsel;exact hsel)
 clear hsel;have HL0 : z00 (cm = true → p + 1 < ts.length) := ⟨fun h=>by
  rw[h]at hcm;unfold z2q mk1 at hcm;rw[z0y]at hcm;exact z4y fun e=>by rw[e]at hcm;cases hcm⟩
 have HL1 : z00 (c1 = true → p + 1 < ts.length) := ⟨fun h=>by
  rw[h,z0y,Bool.and_eq_true]at hc1;exact z4h hc1.2⟩
 have HL2:z00 (c2=true→p<ts.length):=⟨fun h=>z4h (hc2.trans h)⟩
 have HL3:z00 (c3=true→p<ts.length):=⟨fun h=>z4h (hc3.trans h)⟩
 have HV1:z00 (((x3.f0==2)&&((x4.f0==1)&&(x4.f1.toList==[105,115])))=c1):=⟨zA0r⟩
 have HV2:z00 (((x3.f0==1)&&(x3.f1.toList==[110,111,116]))=c2):=⟨zA15⟩
 have HV3:z00 (((x3.f0==1)&&(x3.f1.toList==[119,97,108,107]))=c3):=⟨zA16⟩
 have HV4:z00 (((x3.f0==1)&&!keyL x3.f1.data.toList)=c4):=⟨zA17⟩
 have HST:=z35 w0 w3 g ts p en HM.out.R HM.out.B;have HCM:=z00.mk (fun W h1 h2=>z3l w0 W g ts p en h1 h2);rw[hst]at HST;rw[hcm]at HCM;have HST:=z00.mk HST;clear hst hcm hc1 hc2 hc3 hc4 HX3 HX4
 go_cut [16] (fun v16 wc=>v16=.bool (st&&cm)∧z00 (L2 w0 w wc g n2 ts en p)∧z00 (Two wc n3 x3 x4))
 case first =>
  cases st with
  |false =>
   go_wp2_with fail
   refine HST.out.mono ?_;rintro e w4 ⟨rfl,R,B,K⟩;have HM2:=z00.mk (HM.out.call R B K);have HT2:=z00.mk (show Two w4 n3 x3 x4 from⟨K.blk HT.out.1 zA0i (by simp),K.blk HT.out.2 zA0i (by simp)⟩);clear R B K;go_wp2;go_meet
   case rel=>exact⟨rfl,HM2,HT2⟩
  |true =>
   go_wp2_with fail
   refine HST.out.mono ?_;rintro e w4 ⟨rfl,R,B,K⟩;have HM2:=z00.mk (HM.out.call R B K);have HT2:=z00.mk (show Two w4 n3 x3 x4 from⟨K.blk HT.out.1 zA0i (by simp),K.blk HT.out.2 zA0i (by simp)⟩);have HC:=z00.mk (HCM.out w4 R B);clear R B K
   go_wp2_with fail
   refine HC.out.mono ?_;rintro e w5 ⟨rfl,R,B,K⟩;replace HM2:=z00.mk (HM2.out.call R B K);replace HT2:=z00.mk (show Two w5 n3 x3 x4 from⟨K.blk HT2.out.1 zA0i (by simp),K.blk HT2.out.2 zA0i (by simp)⟩);clear R B K HC;go_wp2;go_meet
   case rel=>exact⟨rfl,HM2,HT2⟩
 case rest =>
 clear HM HT HST HCM;obtain⟨rfl,HM,HT⟩:=hcut;obtain⟨c0,hc0⟩:∃c,(st&&cm)=c:=⟨_,rfl⟩
 have HL0':z00 (c0=true→p+1<ts.length):=⟨fun h=>HL0.out zA0x⟩
 rw[hc0]at HQ HSEL ⊢;clear hc0 HL0
 cases c0 with
 |true =>
  simp only[if_true]at HQ;exact absurd HSEL.out (by simp)
 |false =>
 simp only[Bool.false_eq_true,if_false]at HQ;clear HL0';have h30:wc.cell? ⟨n3,0,none⟩=some (.int .i64 x3.f0):=(z01 HT.out.1 0).trans rfl;have h31:wc.cell? ⟨n3,1,none⟩=some (.string x3.f1):=(z01 HT.out.1 1).trans rfl;have h40:wc.cell? ⟨n3+1,0,none⟩=some (.int .i64 x4.f0):=(z01 HT.out.2 0).trans rfl;have h41:wc.cell? ⟨n3+1,1,none⟩=some (.string x4.f1):=(z01 HT.out.2 1).trans rfl
 go_upto_region 7 with (fail)
 go_cut [33] (fun v33 wc=>v33=.bool c1∧z00 (L2 w0 w wc g n2 ts en p)∧z00 (Two wc n3 x3 x4))
 case first =>
  cases k1:(x3.f0==2)with
  |false =>
   go_wp2;go_meet
   case rel=>exact⟨by rw[←HV1.out,k1];rfl,HM,HT⟩
  |true =>
   cases k2:(x4.f0==1)with
   |false =>
    go_wp2;go_meet
    case rel=>exact⟨by rw[←HV1.out,k1,k2];rfl,HM,HT⟩
   |true =>
    go_wp2;go_meet
    case rel=>exact⟨by rw[←HV1.out,k1,k2];first|rfl|(simp;done)|simp,HM,HT⟩
 case rest =>
 clear HM HT h30 h31 h40 h41;obtain⟨rfl,HM,HT⟩:=hcut
 cases c1 with
 |true =>
  simp only[if_true]at HQ;exact absurd HSEL.out (by simp)
 |false =>
 simp only[Bool.false_eq_true,if_false]at HQ;clear HL1 HV1;have h30:wc.cell? ⟨n3,0,none⟩=some (.int .i64 x3.f0):=(z01 HT.out.1 0).trans rfl;have h31:wc.cell? ⟨n3,1,none⟩=some (.string x3.f1):=(z01 HT.out.1 1).trans rfl
 go_upto_region 14 with (fail)
 go_cut [67] (fun v67 wc=>v67=.bool c2∧z00 (L2 w0 w wc g n2 ts en p)∧z00 (Two wc n3 x3 x4))
 case first =>
  cases k1:(x3.f0==1)with
  |false =>
   go_wp2;go_meet
   case rel=>exact⟨by rw[←HV2.out,k1];rfl,HM,HT⟩
  |true =>
   go_wp2;go_meet
   case rel=>exact⟨by rw[←HV2.out,k1];first|rfl|(simp;done)|simp,HM,HT⟩
 case rest =>
 clear HM HT h30 h31;obtain⟨rfl,HM,HT⟩:=hcut
 cases c2 with
 |true =>
  simp only[if_true]at HQ;exact absurd HSEL.out (by simp)
 |false =>
 simp only[Bool.false_eq_true,if_false]at HQ;clear HL2 HV2;have h30:wc.cell? ⟨n3,0,none⟩=some (.int .i64 x3.f0):=(z01 HT.out.1 0).trans rfl;have h31:wc.cell? ⟨n3,1,none⟩=some (.string x3.f1):=(z01 HT.out.1 1).trans rfl
 go_upto_region 18 with (fail)
 go_cut [90] (fun v90 wc=>v90=.bool c3∧z00 (L2 w0 w wc g n2 ts en p)∧z00 (Two wc n3 x3 x4))
 case first =>
  cases k1:(x3.f0==1)with
  |false =>
   go_wp2;go_meet
   case rel=>exact⟨by rw[←HV3.out,k1];rfl,HM,HT⟩
  |true =>
   go_wp2;go_meet
   case rel=>exact⟨by rw[←HV3.out,k1];first|rfl|(simp;done)|simp,HM,HT⟩
 case rest =>
 clear HM HT h30 h31;obtain⟨rfl,HM,HT⟩:=hcut
 cases c3 with
 |true =>
  simp only[if_true]at HQ;exact absurd HSEL.out (by simp)
 |false =>
 simp only[Bool.false_eq_true,if_false]at HQ;clear HL3 HV3;have h30:wc.cell? ⟨n3,0,none⟩=some (.int .i64 x3.f0):=(z01 HT.out.1 0).trans rfl;have h31:wc.cell? ⟨n3,1,none⟩=some (.string x3.f1):=(z01 HT.out.1 1).trans rfl
 go_upto_region 28 with (fail)
 go_cut [124] (fun v124 wc=>v124=.bool c4∧z00 (L2 w0 w wc g n2 ts en p))
 case first =>
  have HY:=z00.mk (fun W=>z67.calls x3.f1 (keyL x3.f1.data.toList) W (z5t x3.f1));obtain⟨ky,hky⟩:∃c,keyL x3.f1.data.toList=c:=⟨_,rfl⟩
  rw[hky]at HY HV4;clear hky
  cases k1:(x3.f0==1)with
  |false =>
   go_wp2;go_meet
   case rel=>exact⟨by rw[←HV4.out,k1];rfl,HM⟩
  |true =>
   go_wp2_with fail
   refine(HY.out _).mono ?_;rintro e w4 ⟨rfl,d⟩;have HM2:=z00.mk (HM.out.below d.below);clear d;go_wp2;go_meet
   case rel=>exact⟨by rw[←HV4.out,k1];first|rfl|(simp;done)|simp,HM2⟩
 case rest =>
 clear HM HT h30 h31 HV4;obtain⟨rfl,HM⟩:=hcut
 cases c4 with
 |true =>
  simp only[if_true]at HQ;exact absurd HSEL.out (by simp)
 |false =>
  simp only[Bool.false_eq_true,if_false]at HQ;have HC:=z00.mk (z44 w0 wc g ts p en HE.out HM.out.R HM.out.B)
  go_wp2_with fail
  refine HC.out.mono ?_;intro e wa1 hp;rcases hp.split with ⟨y1,pa1,va1,ey,rfl,rfl,R,B,K⟩|⟨q,i,p2',ey,h1,h2,rfl,R,B,K⟩
  case inr=>exact⟨rfl,Post.as (HQ.out.trans (z3e ey)) (Post.thrown_ h1 h2 R B (HM.out.K.trans K (.inl rfl)))⟩
  have HE1:=z00.mk ey;replace HQ:=z00.mk (HQ.out.trans (z3q ey));replace HM:=z00.mk (HM.out.call R B K);clear R B K hp HC ey;have HF:=z00.mk (z47 w0 wa1 g ts pa1 en 2 HM.out.R HM.out.B)
  go_wp2_with fail
  refine HF.out.mono ?_;rintro e w9 ⟨rfl,R,B,K⟩;exact⟨rfl,Post.as HQ.out (Post.thrown_ (q:=((leftL ts pa1).length,2)) (i:=pa1) R.le (z13 ts pa1).symm R B (HM.out.K.trans K (.inl rfl)))⟩

theorem zas (w0 w:World) (g:Nat) (ts:List S108) (p:Nat) (en:Int) (hE:Env w0 ts) (hI:Rd w0 w g ts p en) (hB:Below w0.heap.size w0 w) :
 Calls Tryz.prog 116 #[.pointer (some ⟨g,0,none⟩)] w fun e w'=>Post w0 w g ts en (z2c (leftL ts p)) (fun v w' x=>litV w' w.heap.size v x) e w':=by
 rcases zfl (leftL ts p)with h|h|h|h|h|h
 · exact zfr w0 w g ts p en hE h hI hB
 · exact zg6 w0 w g ts p en hE h hI hB
 · exact zfn w0 w g ts p en hE h hI hB
 · exact zgf w0 w g ts p en hE h hI hB
 · exact zfj w0 w g ts p en hE h hI hB
 · exact zga w0 w g ts p en hE h hI hB

theorem info62:(Tryz.prog.info? 62).map (fun i=>(i.zero,i.size,i.bytes))=some (some (.agg #[(.int .i64 0),(.string ⟨#[]⟩),(.slice none 0 0),(.string ⟨#[]⟩),(.string ⟨#[]⟩),(.int .i64 0),(.int .i64 0),(.string ⟨#[]⟩),(.string ⟨#[]⟩),(.int .i64 0),(.int .i64 0),(.string ⟨#[]⟩),(.string ⟨#[]⟩),(.int .i64 0),(.int .i64 0),(.string ⟨#[]⟩),(.slice none 0 0)]),17,232):=by kernel_rfl
def rule6.T:Bool × List (List Nat × List Nat):=(true,[([],[]),([0],[0]),([],[]),([2],[2]),([3],[3]),([1,4,3],[1,4]),([0,1,2,3,4,5],[]),([6,5,5,0,1,2,3,4,5],[5,6])])
def rule6.B:List Nat:=[0,1,0,4,12,31,63,127]
theorem rule6.tab:rtab .any (opsOf Tryz.f86 6)=rule6.T:=by kernel_rfl
theorem rule6.bits:z4j rule6.T.2 rule6.B=true:=by kernel_rfl
def ruleE (h:AtS × Int) (b:List LtS) (l:List TK):Except (Nat × Int) (RlS × List TK):=bnd (wantP [46] l) fun _ r=>.ok (⟨h.1,h.2,b⟩,r)
theorem zg7 (acc:List LtS) (l:List TK) (h:acc.length≤12):bodyP (13 - acc.length) acc l=if(acc.length==12&&z2n l)=true then .error (l.length,4)else bnd (z2c l) fun x r=>if mk0 r [44]then bodyP (12 - acc.length) (acc++[x]) (r.drop 1)else .ok (acc++[x],r):=by
 obtain⟨n,hn⟩:∃n,12 - acc.length=n:=⟨_,rfl⟩
 rw[show 13 - acc.length=n+1 by omega,hn];have hb:(acc.length==12)=(n==0):=by
  by_cases h8:acc.length=12
  · rw[beq_iff_eq.2 h8,beq_iff_eq.2 (show n=0 by omega)]
  · rw[beq_eq_false_iff_ne.2 h8,beq_eq_false_iff_ne.2 (show n≠0 by omega)]
 rw[hb];rfl
theorem zf0 {l:List TK} {x:LtS} {r:List TK} (h:z2c l=.ok (x,r)):z2n l=true:=by
 cases hs:z2n l with
 |true=>rfl
 |false =>
  exfalso
  cases l with
  |nil=>cases h
  |cons t r =>
   have hs':=hs;simp only[z2n,Bool.or_eq_false_iff]at hs';obtain⟨⟨h1,h2⟩,h3⟩:=hs';unfold z2c at h;simp only[hs,kindL,isL,isT,predL,predB,h1,h2,Bool.false_and,Bool.false_eq_true,if_false]at h;simp only[termP,h1,h2,h3,Bool.or_false,Bool.false_eq_true,if_false,bnd]at h
   cases h
def ruV (w':World) (base:Nat) (v:Value) (x:RlS):Prop:=∃u1 u3,v=.agg #[.string x.f0.f0,u1,.int .i64 x.f1,u3]∧Kd.R k60 60 w' base (fun k=>base≤k) u1 x.f0.f1∧Kd.R k62 62 w' base (fun k=>base≤k) u3 x.f2
abbrev zRule:Array Value:=#[.string ⟨#[]⟩,.slice none 0 0,.int .i64 0,.slice none 0 0]
abbrev RuM (s:ByteArray) (u1:Value) (f:Int):=GM k62 62 33 (fun u=>#[.string s,u1,.int .i64 f,u]) zRule
theorem RuM.ends {s:ByteArray} {u1:Value} {f:Int} {args:List TmS} {w0 w wr:World} {g n4 n6:Nat} {ts:List S108} {en:Int} {p:Nat} {acc:List LtS} {u:Value} (h:RuM s u1 f w0 w wr g n4 n6 ts en p acc u) (hu:Kd.R k60 60 wr w.heap.size (fun k=>(w.heap.size≤k∧k≠n4∧k≠n6)∧some k≠u.ownBlock) u1 args) {r:Except (Nat × Int) (RlS × List TK)} (hr:r=.ok (⟨⟨s,args⟩,f,acc⟩,leftL ts p)) :
 z00 ((sets wr n4 0 [.string s,u1,.int .i64 f,u]).heap[n4]?=some (.cells #[.string s,u1,.int .i64 f,u] 33 (0,0))) ∧
 z00 (Post w0 w g ts en r (fun v w' x=>ruV w' w.heap.size v x) (.returned (.agg #[.string s,u1,.int .i64 f,u])) (sets wr n4 0 [.string s,u1,.int .i64 f,u])):=by
 have h1:=h.gw;have h2:=h.h4;have h3:=h.h0;refine⟨⟨z2z [.string s,u1,.int .i64 f,u] 0 wr zRule h.b4⟩,⟨z2r (by omega) _ 0 wr h.B,z5i (by omega) _ 0 wr h.K,p,h.R.sets_ (by omega) _ 0 wr,?_⟩⟩;rw[hr];exact⟨rfl,_,rfl,u1,u,rfl,Kd.R_mono (z4p (fun k hk=>hk.1.2.1) _ 0 wr hu) (fun k hk=>hk.1.1),Kd.R_mono (z4p (fun k hk=>hk.2.1) _ 0 wr h.own) (fun k hk=>hk.1)⟩
set_option maxHeartbeats 4000000 in
set_option maxRecDepth 100000 in
theorem zf6 (w0 w:World) (g:Nat) (ts:List S108) (p:Nat) (en:Int) (hE:Env w0 ts) (hI:Rd w0 w g ts p en) (hB:Below w0.heap.size w0 w) :
 Calls Tryz.prog 86 #[.pointer (some ⟨g,0,none⟩)] w fun e w'=>Post w0 w g ts en (ruleP (leftL ts p)) (fun v w' x=>ruV w' w.heap.size v x) e w':=by
 have HE:=z00.mk hE;obtain⟨n4,en4⟩:∃n,w.heap.size=n:=⟨_,rfl⟩
 have hz1:(w.alloc (.cells zRule 33)).heap.size=n4+1:=by simp[en4]
 have hb4:=z06 (z1h w (.cells zRule 33)) (.cells zRule 33);have hb6:=z1h (w.alloc (.cells zRule 33)) (.cells zRule 33);rw[en4]at hb4;rw[hz1]at hb6;have HG:=z00.mk (And.intro hB.size hI.lt);obtain⟨W,hW⟩:∃W,(w.alloc (.cells zRule 33)).alloc (.cells zRule 33)=W:=⟨_,rfl⟩
 have HK:=z00.mk (show z0v w W g none from hW ▸ z1s (z1s (z0v.refl w g none) _) _);have HP:=z6f w0 W g ts p en true hE (hW ▸ (hI.alloc _).alloc _) (hW ▸ z04 (z04 hB _) _);rw[hW]at hb4 hb6;have HB4:=z00.mk (And.intro hb4 hb6);obtain⟨rp,hrp⟩:∃rp,atomP true (leftL ts p)=rp:=⟨_,rfl⟩
 rw[hrp]at HP;obtain⟨r,hr⟩:∃r,ruleP (leftL ts p)=r:=⟨_,rfl⟩
 rw[hr];have HA:=z00.mk (show r=bnd rp fun h r=>bnd (tailP r) fun b r=>ruleE h b r by rw[←hr,←hrp];rfl);have HP:=z00.mk HP;have HW:=z00.mk hW;clear hE hI hB hb4 hb6 hr hrp hW hz1;go_enter Tryz.func86,Tryz.ntmps86
 go_wp2_with fail
 rw[HW.out];refine HP.out.mono ?_;intro e w1 hp;rcases hp.split with ⟨y0,p1,v,rfl,rfl,⟨u1,rfl,hu1⟩,R,B,K⟩|⟨q,i,p1,rfl,h1,h2,rfl,R,B,K⟩
 case inr=>exact⟨rfl,Post.as HA.out (Post.thrown_ h1 h2 R B (HK.out.trans K (.inl rfl)))⟩
 obtain⟨Au,cu,rfl⟩:=Kd.R_slice hu1;have h4W:=z1u HB4.out.1;have h6W:=z1u HB4.out.2;have hkW:=HK.out.1;have HU:=z00.mk (show Kd.R k60 60 w1 w.heap.size (fun k=>w.heap.size≤k∧k≠n4∧k≠n4+1) (.slice Au y0.1.f1.length cu) y0.1.f1 from Kd.R_mono (Kd.R_lower hu1 hkW) (fun k hk=>⟨Nat.le_trans hkW hk,by omega,by omega⟩));have hgw:=HG.out.2;have hb4:=K.blk HB4.out.1 (by omega) (by simp);have hb6:=K.blk HB4.out.2 (by omega) (by simp);obtain⟨n6,hn6⟩:∃n,n4+1=n:=⟨_,rfl⟩
 rw[hn6]at hb6 HU;obtain⟨al,hal⟩:∃n,y0.1.f1.length=n:=⟨_,rfl⟩
 rw[hal]at HU;have HM := z00.mk (show RuM y0.1.f0 (.slice Au al cu) y0.2 w0 w (((w1.setCell ⟨n6,0,none⟩ (.string y0.1.f0)).setCell ⟨n6,1,none⟩ (.slice Au al cu)).setCell ⟨n6,2,none⟩ (.int .i64 y0.2)) g n4 n6 ts en p1 [] (.slice none 0 0)from
  ⟨((R.far (by show g≠n6;omega) _).far (by show g≠n6;omega) _).far (by show g≠n6;omega) _,z08 (z08 (z08 B (by have:=HG.out.1;omega)) (by have:=HG.out.1;omega)) (by have:=HG.out.1;omega),z3n (z3n (z3n (HK.out.trans K (.inl rfl)) (by show w.heap.size≤n6;omega) _) (by show w.heap.size≤n6;omega) _) (by show w.heap.size≤n6;omega) _,z0w (z0w (z0w hb4 zA1c _) zA1c _) zA1c _,
   z0l (cs:=#[.string y0.1.f0,.slice Au al cu,.int .i64 0,.slice none 0 0]) (z0l (cs:=#[.string y0.1.f0,.slice none 0 0,.int .i64 0,.slice none 0 0]) (z0l hb6 0 (.string y0.1.f0) rfl) 1 (.slice Au al cu) rfl) 2 (.int .i64 y0.2) rfl,Kd.R_nil _ _ _ _ _,HG.out.1,HG.out.2,by omega,by omega⟩)
 replace HU:=z00.mk (Kd.R_apart_nil (Kd.R_far (p:=⟨n6,2,none⟩) (Kd.R_far (p:=⟨n6,1,none⟩) (Kd.R_far (p:=⟨n6,0,none⟩) HU.out (fun k hk=>hk.2.2) (.string y0.1.f0)) (fun k hk=>hk.2.2) (.slice Au al cu)) (fun k hk=>hk.2.2) (.int .i64 y0.2)));have hd60:w1.cell? ⟨n6,0,none⟩=some (.string ⟨#[]⟩):=(z01 hb6 0).trans rfl;have hd61:w1.cell? ⟨n6,1,none⟩=some (.slice none 0 0):=(z01 hb6 1).trans rfl;have hd62:w1.cell? ⟨n6,2,none⟩=some (.int .i64 0):=(z01 hb6 2).trans rfl;have hf60:=z03 hb6 0;have hf61:=z03 hb6 1;have hf62:=z03 hb6 2;clear R B K hp hu1 HP HK HB4 h4W h6W hkW hb4 hb6 hgw;rw[hn6]
 go_wp2_with fail
 generalize ((w1.setCell ⟨n6,0,none⟩ (.string y0.1.f0)).setCell ⟨n6,1,none⟩ (.slice Au al cu)).setCell ⟨n6,2,none⟩ (.int .i64 y0.2)=ws at HM HU ⊢
 have HQ:=z00.mk (show r=bnd (tailP (leftL ts p1)) (ruleE y0)from HA.out);clear HA hd60 hd61 hd62 hf60 hf61 hf62;have HS4:=z00.mk (z1o w0 ws g ts p1 en ⟨#[58,45]⟩ HM.out.R HM.out.B);rw[z1q,show((⟨#[58,45]⟩:ByteArray).data.toList)=[58,45]from rfl]at HS4
 cases hm:mk0 (leftL ts p1) [58,45]with
 |false =>
  rw[hm]at HS4;refine HS4.out.mono ?_;rintro e w5 ⟨rfl,R,B,K⟩;simp only[Bool.false_eq_true,if_false]at R;replace HU:=z00.mk (Kd.R_keep HU.out K (fun k hk=>by have h1:=hk.1.1;have h2:=HM.out.gw;omega));replace HM:=z00.mk (HM.out.call R B K);clear R B K HS4;replace HQ:=z00.mk (show r=ruleE y0 [] (leftL ts p1) by rw[HQ.out];unfold tailP;rw[if_neg (by rw[hm];simp)];rfl);replace HQ:=z00.mk (show r=bnd (wantP [46] (leftL ts p1)) (fun _ r=>.ok (⟨y0.1,y0.2,[]⟩,r))from HQ.out);have HW2:=z00.mk (show Calls Tryz.prog 88 #[.pointer (some ⟨g,0,none⟩),.string ⟨#[46]⟩] w5 fun e w'=>Post w0 w5 g ts en (wantP [46] (leftL ts p1)) (fun v _ _=>v=.tuple #[]) e w' from z3f w0 w5 g ts p1 en ⟨#[46]⟩ HM.out.R HM.out.B)
  go_wp2_with fail
  refine HW2.out.mono ?_;intro e w6 hp;rcases hp.split with ⟨y2,p4,v2,ew2,rfl,rfl,R,B,K⟩|⟨q,i,p4,ew2,h1,h2,rfl,R,B,K⟩
  case inr=>exact⟨rfl,Post.as (HQ.out.trans (z3e ew2)) (Post.thrown_ h1 h2 R B (HM.out.K.trans K (.inl rfl)))⟩
  replace HQ:=z00.mk (show r=.ok (⟨⟨y0.1.f0,y0.1.f1⟩,y0.2,[]⟩,leftL ts p4)from HQ.out.trans (z3q ew2));replace HU:=z00.mk (Kd.R_keep HU.out K (fun k hk=>by have h1:=hk.1.1;have h2:=HM.out.gw;omega));replace HM:=z00.mk (HM.out.call R B K);clear R B K hp HW2 ew2;have hd60:w6.cell? ⟨n6,0,none⟩=some (.string y0.1.f0):=(z01 HM.out.b6 0).trans rfl;have hd61:w6.cell? ⟨n6,1,none⟩=some (.slice Au al cu):=(z01 HM.out.b6 1).trans rfl;have hd62:w6.cell? ⟨n6,2,none⟩=some (.int .i64 y0.2):=(z01 HM.out.b6 2).trans rfl;have hd63:w6.cell? ⟨n6,3,none⟩=some (.slice none 0 0):=(z01 HM.out.b6 3).trans rfl;have hd40:w6.cell? ⟨n4,0,none⟩=some (.string ⟨#[]⟩):=(z01 HM.out.b4 0).trans rfl;have hd41:w6.cell? ⟨n4,1,none⟩=some (.slice none 0 0):=(z01 HM.out.b4 1).trans rfl;have hd42:w6.cell? ⟨n4,2,none⟩=some (.int .i64 0):=(z01 HM.out.b4 2).trans rfl;have hd43:w6.cell? ⟨n4,3,none⟩=some (.slice none 0 0):=(z01 HM.out.b4 3).trans rfl;have hg40:=z03 HM.out.b4 0;have hg41:=z03 HM.out.b4 1;have hg42:=z03 HM.out.b4 2;have hg43:=z03 HM.out.b4 3;obtain⟨P1,P2⟩:=RuM.ends HM.out HU.out HQ.out;go_wp2;refine bodyPost_ret (results_cell_row rfl _ _ n4 33 #[.string y0.1.f0,.slice Au al cu,.int .i64 y0.2,.slice none 0 0] (0,0) _ rfl P1.out Tryz.underlying33 rfl (by kernel_rfl)) rfl ?_;exact P2.out
 |true =>
  rw[hm]at HS4;refine HS4.out.mono ?_;rintro e w5 ⟨rfl,R,B,K⟩;simp only[if_true]at R;replace HU:=z00.mk (Kd.R_keep HU.out K (fun k hk=>by have h1:=hk.1.1;have h2:=HM.out.gw;omega));replace HM:=z00.mk (HM.out.call R B K);clear R B K HS4;replace HQ:=z00.mk (show r=bnd (bodyP (13 - ([]:List LtS).length) [] (leftL ts (p1+1))) (ruleE y0) by rw[HQ.out];unfold tailP;rw[if_pos hm,z0y];rfl);go_wp2
  go_loopg [] 13 (fun kq w'=>∃(acc:List LtS) (p':Nat) (u:Value),acc.length+kq=13∧acc.length≤12∧z00 (r=bnd (bodyP (13 - acc.length) acc (leftL ts p')) (ruleE y0))∧z00 (RuM y0.1.f0 (.slice Au al cu) y0.2 w0 w w' g n4 n6 ts en p' acc u)∧z00 (Kd.R k60 60 w' w.heap.size (fun k=>(w.heap.size≤k∧k≠n4∧k≠n6)∧some k≠u.ownBlock) (.slice Au al cu) y0.1.f1))
  case atStart=>exact⟨[],p1+1,_,rfl,by simp,HQ,HM,HU⟩
  case round =>
   clear HQ HM HU hm;obtain⟨acc,p',u,hk9,hl8,HQ,HM,HU⟩:=hrel
   cases gk with
   |zero=>exact absurd hk9 (by omega)
   |succ k1 =>
   have HLEN:=z00.mk hl8;replace HQ:=z00.mk (HQ.out.trans (by rw[zg7 acc _ hl8]));obtain⟨A,c,rfl⟩:=Kd.R_slice HM.out.own;have hc63:wr.cell? ⟨n6,3,none⟩=some (.slice A acc.length c):=(z01 HM.out.b6 3).trans rfl;have HST:=z00.mk (z35 w0 wr g ts p' en HM.out.R HM.out.B);obtain⟨st,hst⟩:∃st,z2n (leftL ts p')=st:=⟨_,rfl⟩
   rw[hst]at HST HQ;have HSC:=HST;replace HST:=z00.mk hst.symm;clear hst
   go_upto_region 4 with (fail)
   go_cut [20] (fun v20 wc=>v20=.bool (acc.length==12&&st)∧z00 (RuM y0.1.f0 (.slice Au al cu) y0.2 w0 w wc g n4 n6 ts en p' acc (.slice A acc.length c))∧z00 (Kd.R k60 60 wc w.heap.size (fun k=>(w.heap.size≤k∧k≠n4∧k≠n6)∧some k≠(Value.slice A acc.length c).ownBlock) (.slice Au al cu) y0.1.f1))
   case first =>
    by_cases h8:acc.length=12
    · have c0:((acc.length:Int)==12)=true:=beq_iff_eq.2 (by omega);have c1:(acc.length==12)=true:=beq_iff_eq.2 h8
      go_wp2_with fail
      refine HSC.out.mono ?_;rintro e w3 ⟨rfl,R,B,K⟩;have HU2:=z00.mk (Kd.R_keep HU.out K (fun k hk=>by have h1:=hk.1.1;have h2:=HM.out.gw;omega));have HM2:=z00.mk (HM.out.call R B K);clear R B K;go_wp2;go_meet
      case rel=>exact⟨by rw[c1];rfl,HM2,HU2⟩
    · have c0:((acc.length:Int)==12)=false:=beq_eq_false_iff_ne.2 (by omega);have c1:(acc.length==12)=false:=beq_eq_false_iff_ne.2 h8;go_wp2;go_meet
      case rel=>exact⟨by rw[c1];rfl,HM,HU⟩
   case rest =>
    clear HM HU hc63;obtain⟨rfl,HM,HU⟩:=hcut;obtain⟨fl,hfl⟩:∃fl,(acc.length==12&&st)=fl:=⟨_,rfl⟩
    rw[hfl]at HQ ⊢;have HFL:=z00.mk hfl;clear hfl HSC
    cases fl with
    |true =>
     have HF:=z00.mk (z47 w0 wc g ts p' en 4 HM.out.R HM.out.B)
     go_wp2_with fail
     refine HF.out.mono ?_;rintro e w3 ⟨rfl,R,B,K⟩;exact⟨rfl,Post.as (by rw[HQ.out];rfl) (Post.thrown_ (q:=((leftL ts p').length,4)) (i:=p') R.le (z13 ts p').symm R B (HM.out.K.trans K (.inl rfl)))⟩
    |false =>
     simp only[Bool.false_eq_true,if_false]at HQ;go_wp2;replace HM:=z00.mk HM.out.drew;replace HU:=z00.mk (Kd.R_drew HU.out);refine z78 (n:=8) (S:=fun w'=>w'.cell? ⟨n6,3,none⟩=some (.slice A acc.length c)) (ds:=[7]) #[false,false,false,false,false,false,false,false] (by kernel_rfl) rfl rfl ((z01 HM.out.b6 3).trans rfl) (fun hHeld=>?_);refine z4a rule6.tab rule6.bits (fun HT_ HW_=>?_)
     generalize wc.drew=w1 at HM HU hHeld ⊢
     refine pure_ (i:=0) (N:=some 23) (v:=?_) (a':=?_) #[true,false,false,false,false,false,false,false] rfl rfl (z2l HT_.out (by kernel_rfl)) (fun _ _ _ h=>h) (Or.inl ⟨by rfl,?_⟩) ?_ ?_
     rotate_left
     · intro w'
       go_simp
       with_reducible rfl
     rotate_left
     · simp only[Act.put,List.setIfInBounds_toArray,List.set_cons_zero,List.set_cons_succ,i64_w,i32_w];rfl
     refine pure_ (i:=2) (N:=some 25) (v:=?_) (a':=?_) #[true,false,true,false,false,false,false,false] rfl rfl (z2l HT_.out (by kernel_rfl)) (fun _ _ _ h=>h) (Or.inl ⟨by rfl,?_⟩) ?_ ?_
     rotate_left
     · intro w'
       go_simp
       with_reducible rfl
     rotate_left
     · simp only[Act.put,List.setIfInBounds_toArray,List.set_cons_zero,List.set_cons_succ,i64_w,i32_w];rfl
     refine take_ (i:=1) (N:=some 24) (v:=?_) (a':=?_) #[true,true,true,false,false,false,false,false] rfl rfl (z2v HT_.out HW_.out (by kernel_rfl)) (fun _ _ _ h=>h) (Or.inl ⟨by rfl,?_⟩) hHeld ?_ ?_
     rotate_left
     · rintro w' s1
       go_simp
       with_reducible rfl
     rotate_left
     · simp only[Act.put,List.setIfInBounds_toArray,List.set_cons_zero,List.set_cons_succ,i64_w,i32_w];rfl
     refine one_ (i:=3) (N:=some 26) #[true,true,true,true,false,false,false,false] rfl rfl (z2w HT_.out (by kernel_rfl)) (by decide) (fun K hK=>?_);refine ze6 Tryz.func116 (by kernel_rfl) rfl #[.pointer (some ⟨g,0,none⟩)] (by rfl) rfl rfl zA0w ?_;refine(zas w0 w1 g ts p' en HE.out HM.out.R HM.out.B).mono ?_;intro e w2 hp;rcases hp.split with ⟨y,p2,v,er,rfl,hv,R,B,Kk⟩|⟨q,i,p2,er,h1,h2,rfl,R,B,Kk⟩
     case inr=>exact .inr ⟨_,rfl,rfl,Post.as (by rw[HQ.out,er];rfl) (Post.thrown_ h1 h2 R B (HM.out.K.trans Kk (.inl rfl)))⟩
     obtain⟨ua,ub,rfl,ha,hb0⟩:=hv;obtain⟨Aa,ca,rfl⟩:=Kd.R_slice ha;obtain⟨Ab,cb,rfl⟩:=Kd.R_slice hb0;obtain⟨nb,enb⟩:∃n,w1.heap.size=n:=⟨_,rfl⟩
     rw[enb]at ha hb0;have HLB:=z00.mk (show w.heap.size≤nb∧n4<nb∧n6<nb∧∀k,(Value.slice A acc.length c).ownBlock=some k→k<nb from⟨by rw[←enb];exact HM.out.K.1,by rw[←enb];exact z1u HM.out.b4,by rw[←enb];exact z1u HM.out.b6,fun k hk=>by rw[←enb];exact Kd.R_lt HM.out.own k hk⟩);have HLA:=z00.mk (And.intro (Kd.R_lower ha HLB.out.1) (Kd.R_lower hb0 HLB.out.1));clear ha hb0;refine .inl ⟨_,rfl,?_⟩;have HER:=z00.mk er;replace HU:=z00.mk (Kd.R_keep HU.out Kk (fun k hk=>by have h1:=hk.1.1;have h2:=HM.out.gw;omega));replace HM:=z00.mk (HM.out.call R B Kk);clear R B Kk hp er;refine hK.out _ _ ((z01 HM.out.b6 3).trans rfl) (fun hHeld=>?_);clear hK K;refine norm_ (a':=?_) ?_ ?_
     rotate_left
     · show Act.put _ (some 26) _=_;simp only[Act.put,List.setIfInBounds_toArray,List.set_cons_zero,List.set_cons_succ,i64_w,i32_w];rfl
     refine one_ (i:=4) (N:=some 27) #[true,true,true,true,true,false,false,false] rfl rfl (z2w HT_.out (by kernel_rfl)) (by decide) (fun K hK=>?_);refine zba (w1:=?_) (v:=?_) (by rfl) rfl ?_ ?_
     rotate_left 2
     · go_simp
       constructor
       · rfl
       · rfl
     refine hK.out _ _ ((z01 (z06 HM.out.b6 _) 3).trans rfl) (fun hHeld=>?_);clear hK K;refine norm_ (a':=?_) ?_ ?_
     rotate_left
     · show Act.put _ (some 27) _=_;simp only[Act.put,List.setIfInBounds_toArray,List.set_cons_zero,List.set_cons_succ,i64_w,i32_w];rfl
     refine one_ (i:=5) (N:=some 28) #[true,true,true,true,true,true,false,false] rfl rfl (z2w HT_.out (by kernel_rfl)) (by decide) (fun K hK=>?_);refine Kd.R_append_step k62 w.heap.size (by rfl) (.tmp 24) (.tmp 27) 31 62 (.agg #[(.int .i64 0),(.string ⟨#[]⟩),(.slice none 0 0),(.string ⟨#[]⟩),(.string ⟨#[]⟩),(.int .i64 0),(.int .i64 0),(.string ⟨#[]⟩),(.string ⟨#[]⟩),(.int .i64 0),(.int .i64 0),(.string ⟨#[]⟩),(.string ⟨#[]⟩),(.int .i64 0),(.int .i64 0),(.string ⟨#[]⟩),(.slice none 0 0)]) 232 rfl Tryz.underlying31 info62 rfl (by decide) (by omega) (.slice A acc.length c) acc y [.int .i64 y.f0,.string y.f1.f0,.slice Aa y.f1.f1.length ca,.string y.f2,.string y.f3.f0,.int .i64 y.f3.f1.f0,.int .i64 y.f3.f1.f1,.string y.f3.f1.f2,.string y.f4.f0,.int .i64 y.f4.f1.f0,.int .i64 y.f4.f1.f1,.string y.f4.f1.f2,.string y.f5.f0,.int .i64 y.f5.f1.f0,.int .i64 y.f5.f1.f1,.string y.f5.f1.f2,.slice Ab y.f6.length cb] (fun k=>w.heap.size≤k∧k≠n4∧k≠n6) (fun k=>nb≤k) rfl rfl (k62_mkM _ _ _ y HLA.out.1 HLA.out.2) (fun k hk=>⟨⟨by have h1:=HLB.out.1;omega,by have h1:=HLB.out.2.1;omega,by have h1:=HLB.out.2.2.1;omega⟩,fun he=>by have h1:=HLB.out.2.2.2 k he.symm;omega⟩) (fun k hk=>HM.out.fresh hk) HM.out.own (Below.refl _ _) HM.out.K.1 (by have:=HLEN.out;omega) ?_;intro u' w3 ho hb hg hat;obtain⟨A',c',eu⟩:=Kd.R_slice ho;rw[List.length_append,List.length_singleton]at eu;subst eu;have HM3:=z00.mk (HM.out.more (u':=.slice A' (acc.length+1) c') 3 rfl ho (z4m HM.out.B HM.out.h0 hb) hg);replace HU:=z00.mk (Kd.R_far (p:=⟨n6,3,none⟩) (Kd.R_after HU.out hg hat) (fun k hk=>hk.1.2.2) (.slice A' (acc.length+1) c'));have HB6:=z42 HM.out.b6 hg HM.out.ne6;refine hK.out _ _ ((z01 HB6 3).trans rfl) (fun hHeld=>?_);clear hK K;refine norm_ (a':=?_) ?_ ?_
     rotate_left
     · show Act.put _ (some 28) _=_;simp only[Act.put,List.setIfInBounds_toArray,List.set_cons_zero,List.set_cons_succ,i64_w,i32_w];rfl
     refine pure_ (i:=6) (N:=some 29) (v:=?_) (a':=?_) #[true,true,true,true,true,true,true,false] rfl rfl (z2l HT_.out (by kernel_rfl)) (fun _ _ _ h=>h) (Or.inl ⟨by rfl,?_⟩) ?_ ?_
     rotate_left
     · intro w'
       go_simp
       with_reducible rfl
     rotate_left
     · simp only[Act.put,List.setIfInBounds_toArray,List.set_cons_zero,List.set_cons_succ,i64_w,i32_w];rfl
     refine last_ (i:=7) (N:=none) #[true,true,true,true,true,true,true,true] rfl rfl (z2w HT_.out (by kernel_rfl)) (by decide) (fun K hK=>?_);have hs6:w3.cell? ⟨n6,3,none⟩=some (.slice A acc.length c):=(z01 HB6 3).trans rfl;have hsf6:=z03 HB6 3;refine skip_ (w1:=?_) (by rfl) rfl ?_ ?_
     rotate_left
     · go_simp
       rfl
     refine hK.out _ _ ?_;clear hK K;refine done_ (z5v HT_.out (by kernel_rfl)) ?_;clear HM hs6 hsf6 HB6 ho hb hg hat hHeld HT_ HW_;have HM:=HM3;clear HM3
     generalize w3.setCell ⟨n6,3,none⟩ (.slice A' (acc.length+1) c')=w4 at HM HU ⊢
     replace HQ:=z00.mk (HQ.out.trans (by rw[HER.out];rfl:_=bnd (if mk0 (leftL ts p2) [44]=true then bodyP (12 - acc.length) (acc++[y]) ((leftL ts p2).drop 1)else .ok (acc++[y],leftL ts p2)) (ruleE y0)));have hst:z2n (leftL ts p')=true:=zf0 HER.out;have h8:acc.length≠12:=fun h=>by
      have h1:=HFL.out;rw[HST.out,hst,beq_iff_eq.2 h]at h1
      cases h1
     clear HER hst HLA HLB;have HS5:=z00.mk (z1o w0 w4 g ts p2 en ⟨#[44]⟩ HM.out.R HM.out.B);rw[z1q,show((⟨#[44]⟩:ByteArray).data.toList)=[44]from rfl]at HS5
     cases hm2:mk0 (leftL ts p2) [44]with
     |true =>
      rw[hm2]at HS5;simp only[hm2,if_true,z0y]at HQ
      go_wp2_with fail
      refine HS5.out.mono ?_;rintro e w5 ⟨rfl,R,B,K⟩;simp only[if_true]at R;replace HU:=z00.mk (Kd.R_keep HU.out K (fun k hk=>by have h1:=hk.1.1;have h2:=HM.out.gw;omega));replace HM:=z00.mk (HM.out.call R B K);clear R B K HS5;have hl1:(acc++[y]).length=acc.length+1:=by simp
      go_wp2
      go_roundg k1
      case rel=>exact⟨acc++[y],p2+1,_,by omega,by have:=HLEN.out;omega,⟨by rw[HQ.out,show 13 - (acc++[y]).length=12 - acc.length by omega]⟩,HM,HU⟩
      case measure=>omega
     |false =>
      rw[hm2]at HS5;simp only[hm2,Bool.false_eq_true,if_false]at HQ
      go_wp2_with fail
      refine HS5.out.mono ?_;rintro e w5 ⟨rfl,R,B,K⟩;simp only[Bool.false_eq_true,if_false]at R;replace HU:=z00.mk (Kd.R_keep HU.out K (fun k hk=>by have h1:=hk.1.1;have h2:=HM.out.gw;omega));replace HM:=z00.mk (HM.out.call R B K);clear R B K HS5;replace HQ:=z00.mk (show r=bnd (wantP [46] (leftL ts p2)) (fun _ r=>.ok (⟨y0.1,y0.2,acc++[y]⟩,r))from HQ.out);have HW2:=z00.mk (show Calls Tryz.prog 88 #[.pointer (some ⟨g,0,none⟩),.string ⟨#[46]⟩] w5 fun e w'=>Post w0 w5 g ts en (wantP [46] (leftL ts p2)) (fun v _ _=>v=.tuple #[]) e w' from z3f w0 w5 g ts p2 en ⟨#[46]⟩ HM.out.R HM.out.B)
      go_wp2_with fail
      refine HW2.out.mono ?_;intro e w6 hp;rcases hp.split with ⟨y2,p4,v2,ew2,rfl,rfl,R,B,K⟩|⟨q,i,p4,ew2,h1,h2,rfl,R,B,K⟩
      case inr=>exact⟨rfl,Post.as (HQ.out.trans (z3e ew2)) (Post.thrown_ h1 h2 R B (HM.out.K.trans K (.inl rfl)))⟩
      replace HQ:=z00.mk (show r=.ok (⟨⟨y0.1.f0,y0.1.f1⟩,y0.2,acc++[y]⟩,leftL ts p4)from HQ.out.trans (z3q ew2));replace HU:=z00.mk (Kd.R_keep HU.out K (fun k hk=>by have h1:=hk.1.1;have h2:=HM.out.gw;omega));replace HM:=z00.mk (HM.out.call R B K);clear R B K hp HW2 ew2;have hd60:w6.cell? ⟨n6,0,none⟩=some (.string y0.1.f0):=(z01 HM.out.b6 0).trans rfl;have hd61:w6.cell? ⟨n6,1,none⟩=some (.slice Au al cu):=(z01 HM.out.b6 1).trans rfl;have hd62:w6.cell? ⟨n6,2,none⟩=some (.int .i64 y0.2):=(z01 HM.out.b6 2).trans rfl;have hd63:w6.cell? ⟨n6,3,none⟩=some (.slice A' (acc.length+1) c'):=(z01 HM.out.b6 3).trans rfl;have hd40:w6.cell? ⟨n4,0,none⟩=some (.string ⟨#[]⟩):=(z01 HM.out.b4 0).trans rfl;have hd41:w6.cell? ⟨n4,1,none⟩=some (.slice none 0 0):=(z01 HM.out.b4 1).trans rfl;have hd42:w6.cell? ⟨n4,2,none⟩=some (.int .i64 0):=(z01 HM.out.b4 2).trans rfl;have hd43:w6.cell? ⟨n4,3,none⟩=some (.slice none 0 0):=(z01 HM.out.b4 3).trans rfl;have hg40:=z03 HM.out.b4 0;have hg41:=z03 HM.out.b4 1;have hg42:=z03 HM.out.b4 2;have hg43:=z03 HM.out.b4 3;obtain⟨P1,P2⟩:=RuM.ends HM.out HU.out HQ.out;obtain⟨ln,hln⟩:∃ln,acc.length+1=ln:=⟨_,rfl⟩
      rw[hln]at hd63 P1 P2;go_wp2;refine bodyPost_ret (results_cell_row rfl _ _ n4 33 #[.string y0.1.f0,.slice Au al cu,.int .i64 y0.2,.slice A' ln c'] (0,0) _ rfl P1.out Tryz.underlying33 rfl (by kernel_rfl)) rfl ?_;exact P2.out

theorem info33:(Tryz.prog.info? 33).map (fun i=>(i.zero,i.size,i.bytes))=some (some (.agg #[(.string ⟨#[]⟩),(.slice none 0 0),(.int .i64 0),(.slice none 0 0)]),4,72):=by kernel_rfl
def prog6.T:Bool × List (List Nat × List Nat):=(true,[([],[]),([0],[0]),([],[]),([2],[2]),([3],[3]),([1,4,3],[1,4]),([0,1,2,3,4,5],[]),([6,5,5,0,1,2,3,4,5],[5,6])])
def prog6.B:List Nat:=[0,1,0,4,12,31,63,127]
theorem prog6.tab:rtab .any (opsOf Tryz.f54 6)=prog6.T:=by kernel_rfl
theorem prog6.bits:z4j prog6.T.2 prog6.B=true:=by kernel_rfl
def progE (rs:List RlS) (l:List TK):Except (Nat × Int) (PgS × List TK):=bnd (atomP false l) fun q r=>bnd (wantP [46] r) fun _ r=>.ok (⟨rs,q.1⟩,r)
theorem zeq (acc:List RlS) (l:List TK) (h:acc.length≤200):z6k (201 - acc.length) acc l=if mk0 l [63,45]=true then .ok (acc,l.drop 1)else if(acc.length==200&&predL l)=true then .error (l.length,4)else bnd (ruleP l) fun x r=>z6k (200 - acc.length) (acc++[x]) r:=by
 obtain⟨n,hn⟩:∃n,200 - acc.length=n:=⟨_,rfl⟩
 rw[show 201 - acc.length=n+1 by omega,hn];have hb:(acc.length==200)=(n==0):=by
  by_cases h8:acc.length=200
  · rw[beq_iff_eq.2 h8,beq_iff_eq.2 (show n=0 by omega)]
  · rw[beq_eq_false_iff_ne.2 h8,beq_eq_false_iff_ne.2 (show n≠0 by omega)]
 rw[hb];rfl
theorem zg4 {l:List TK} {x:RlS} {r:List TK} (h:ruleP l=.ok (x,r)):predL l=true:=by
 obtain⟨y,r1,h1,h2⟩:=z29 h;obtain⟨z,r2,h3,h4⟩:=z29 h1
 cases l with
 |nil=>cases h3
 |cons t r' =>
  simp only[z28]at h3
  split at h3
  · rename_i hp;exact hp
  · cases h3
def prV (w':World) (base:Nat) (v:Value) (x:PgS):Prop:=∃u1 u2,v=.agg #[u1,.string x.f1.f0,u2]∧Kd.R k33 33 w' base (fun k=>base≤k) u1 x.f0∧Kd.R k60 60 w' base (fun k=>base≤k) u2 x.f1.f1
abbrev zProg:Array Value:=#[.slice none 0 0,.string ⟨#[]⟩,.slice none 0 0]
abbrev PrM (q:ByteArray) (u2:Value):=GM k33 33 27 (fun u=>#[u,.string q,u2]) zProg
theorem PrM.ends {q:ByteArray} {u2:Value} {args:List TmS} {w0 w wr:World} {g n4 n6:Nat} {ts:List S108} {en:Int} {p:Nat} {acc:List RlS} {u:Value} (h:PrM q u2 w0 w wr g n4 n6 ts en p acc u) (hu:Kd.R k60 60 wr w.heap.size (fun k=>w.heap.size≤k∧k≠n4∧k≠n6) u2 args) {r:Except (Nat × Int) (PgS × List TK)} (hr:r=.ok (⟨acc,⟨q,args⟩⟩,leftL ts p)) :
 z00 ((sets wr n4 0 [u,.string q,u2]).heap[n4]?=some (.cells #[u,.string q,u2] 27 (0,0))) ∧
 z00 (Post w0 w g ts en r (fun v w' x=>prV w' w.heap.size v x) (.returned (.agg #[u,.string q,u2])) (sets wr n4 0 [u,.string q,u2])):=by
 have h1:=h.gw;have h2:=h.h4;have h3:=h.h0;refine⟨⟨z2z [u,.string q,u2] 0 wr zProg h.b4⟩,⟨z2r (by omega) _ 0 wr h.B,z5i (by omega) _ 0 wr h.K,p,h.R.sets_ (by omega) _ 0 wr,?_⟩⟩;rw[hr];exact⟨rfl,_,rfl,u,u2,rfl,Kd.R_mono (z4p (fun k hk=>hk.2.1) _ 0 wr h.own) (fun k hk=>hk.1),Kd.R_mono (z4p (fun k hk=>hk.2.1) _ 0 wr hu) (fun k hk=>hk.1)⟩
theorem PrM.query {q0:ByteArray} {v0:Value} {w0 w wr:World} {g n4 n6:Nat} {ts:List S108} {en:Int} {p:Nat} {acc:List RlS} {u:Value} (h:PrM q0 v0 w0 w wr g n4 n6 ts en p acc u) (q:ByteArray) (u2:Value):PrM q u2 w0 w (sets wr n6 1 [.string q,u2]) g n4 n6 ts en p acc u:=by
 have h0:=h.h0;have h1:=h.gw;have h2:=h.h4;have h3:=h.h46;exact⟨h.R.sets_ (by omega) _ 1 wr,z2r (by omega) _ 1 wr h.B,z5i (by omega) _ 1 wr h.K,z2h (by omega) _ 1 wr h.b4,z2z [.string q,u2] 1 wr #[u,.string q0,v0] h.b6,z4p (fun k hk=>hk.2.2) _ 1 wr h.own,h0,h1,h2,h3⟩
set_option maxHeartbeats 4000000 in
set_option maxRecDepth 100000 in
theorem zav (w0 w:World) (g:Nat) (ts:List S108) (p:Nat) (en:Int) (hE:Env w0 ts) (hI:Rd w0 w g ts p en) (hB:Below w0.heap.size w0 w) :
 Calls Tryz.prog 54 #[.pointer (some ⟨g,0,none⟩)] w fun e w'=>Post w0 w g ts en (z2j (leftL ts p)) (fun v w' x=>prV w' w.heap.size v x) e w':=by
 have HE:=z00.mk hE;obtain⟨n4,en4⟩:∃n,w.heap.size=n:=⟨_,rfl⟩
 have hz1:(w.alloc (.cells zProg 27)).heap.size=n4+1:=by simp[en4]
 have hb4:=z06 (z1h w (.cells zProg 27)) (.cells zProg 27);have hb6:=z1h (w.alloc (.cells zProg 27)) (.cells zProg 27);rw[en4]at hb4;rw[hz1]at hb6;obtain⟨W,hW⟩:∃W,(w.alloc (.cells zProg 27)).alloc (.cells zProg 27)=W:=⟨_,rfl⟩
 obtain⟨n6,hn6⟩:∃n,n4+1=n:=⟨_,rfl⟩
 rw[hW]at hb4 hb6;rw[hn6]at hb6;have HM:=z00.mk (show PrM ⟨#[]⟩ (.slice none 0 0) w0 w W g n4 n6 ts en p [] (.slice none 0 0)from⟨hW ▸ (hI.alloc _).alloc _,hW ▸ z04 (z04 hB _) _,hW ▸ z1s (z1s (z0v.refl w g none) _) _,hb4,hb6,Kd.R_nil _ _ _ _ _,hB.size,hI.lt,by omega,by omega⟩);obtain⟨r,hr⟩:∃r,z2j (leftL ts p)=r:=⟨_,rfl⟩
 rw[hr];have HQ:=z00.mk (show r=bnd (z6k (201 - ([]:List RlS).length) [] (leftL ts p)) progE by rw[←hr];rfl);have HW:=z00.mk hW;clear hE hI hB hb4 hb6 hr hW hz1;go_enter Tryz.func54,Tryz.ntmps54;go_wp2;rw[HW.out]
 go_loopg [] 201 (fun kq w'=>∃(acc:List RlS) (p':Nat) (u:Value),acc.length+kq=201∧acc.length≤200∧z00 (r=bnd (z6k (201 - acc.length) acc (leftL ts p')) progE)∧z00 (PrM ⟨#[]⟩ (.slice none 0 0) w0 w w' g n4 n6 ts en p' acc u))
 case atStart=>exact⟨[],p,_,rfl,by simp,HQ,HM⟩
 case round =>
  clear HQ HM;obtain⟨acc,p',u,hk9,hl8,HQ,HM⟩:=hrel
  cases gk with
  |zero=>exact absurd hk9 (by omega)
  |succ k1 =>
  have HLEN:=z00.mk hl8;replace HQ:=z00.mk (HQ.out.trans (by rw[zeq acc _ hl8]));obtain⟨A,c,rfl⟩:=Kd.R_slice HM.out.own;have HS4:=z00.mk (z1o w0 wr g ts p' en ⟨#[63,45]⟩ HM.out.R HM.out.B);rw[z1q,show((⟨#[63,45]⟩:ByteArray).data.toList)=[63,45]from rfl]at HS4
  cases hm:mk0 (leftL ts p') [63,45]with
  |true =>
   rw[hm]at HS4;simp only[hm,if_true,z0y]at HQ;replace HQ:=z00.mk (show r=bnd (atomP false (leftL ts (p'+1))) fun q r=>bnd (wantP [46] r) fun _ r=>.ok (⟨acc,q.1⟩,r)from HQ.out)
   go_wp2_with fail
   refine HS4.out.mono ?_;rintro e w5 ⟨rfl,R,B,K⟩;simp only[if_true]at R;replace HM:=z00.mk (HM.out.call R B K);clear R B K HS4;have HP:=z00.mk (z6f w0 w5 g ts (p'+1) en false HE.out HM.out.R HM.out.B)
   go_wp2_with fail
   refine HP.out.mono ?_;intro e w1 hp;rcases hp.split with ⟨y0,p1,v,ey,rfl,⟨u1,rfl,hu1⟩,R,B,K⟩|⟨q,i,p1,ey,h1,h2,rfl,R,B,K⟩
   case inr=>exact⟨rfl,Post.as (HQ.out.trans (z3e ey)) (Post.thrown_ h1 h2 R B (HM.out.K.trans K (.inl rfl)))⟩
   obtain⟨Au,cu,rfl⟩:=Kd.R_slice hu1;have h4W:=z1u HM.out.b4;have h6W:=z1u HM.out.b6;have hkW:=HM.out.K.1;obtain⟨al,hal⟩:∃n,y0.1.f1.length=n:=⟨_,rfl⟩
   rw[hal]at hu1 ⊢;have HU:=z00.mk (show Kd.R k60 60 w1 w.heap.size (fun k=>w.heap.size≤k∧k≠n4∧k≠n6) (.slice Au al cu) y0.1.f1 from Kd.R_mono (Kd.R_lower hu1 hkW) (fun k hk=>⟨Nat.le_trans hkW hk,by omega,by omega⟩));replace HQ:=z00.mk (HQ.out.trans (z3q ey));replace HM:=z00.mk (HM.out.call R B K);have hd61:w1.cell? ⟨n6,1,none⟩=some (.string ⟨#[]⟩):=(z01 HM.out.b6 1).trans rfl;have hd62:w1.cell? ⟨n6,2,none⟩=some (.slice none 0 0):=(z01 HM.out.b6 2).trans rfl;have hf61:=z03 HM.out.b6 1;have hf62:=z03 HM.out.b6 2;replace HM:=z00.mk (show PrM y0.1.f0 (.slice Au al cu) w0 w ((w1.setCell ⟨n6,1,none⟩ (.string y0.1.f0)).setCell ⟨n6,2,none⟩ (.slice Au al cu)) g n4 n6 ts en p1 acc (.slice A acc.length c)from PrM.query HM.out y0.1.f0 (.slice Au al cu));replace HU:=z00.mk (Kd.R_far (p:=⟨n6,2,none⟩) (Kd.R_far (p:=⟨n6,1,none⟩) HU.out (fun k hk=>hk.2.2) (.string y0.1.f0)) (fun k hk=>hk.2.2) (.slice Au al cu));have HW2:=z00.mk (show Calls Tryz.prog 88 #[.pointer (some ⟨g,0,none⟩),.string ⟨#[46]⟩] ((w1.setCell ⟨n6,1,none⟩ (.string y0.1.f0)).setCell ⟨n6,2,none⟩ (.slice Au al cu)) fun e w'=>Post w0 ((w1.setCell ⟨n6,1,none⟩ (.string y0.1.f0)).setCell ⟨n6,2,none⟩ (.slice Au al cu)) g ts en (wantP [46] (leftL ts p1)) (fun v _ _=>v=.tuple #[]) e w' from z3f w0 _ g ts p1 en ⟨#[46]⟩ HM.out.R HM.out.B);clear R B K hp hu1 h4W h6W hkW HP ey
   go_wp2_with fail
   refine HW2.out.mono ?_;intro e w6 hp;rcases hp.split with ⟨y2,p4,v2,ew2,rfl,rfl,R,B,K⟩|⟨q,i,p4,ew2,h1,h2,rfl,R,B,K⟩
   case inr=>exact⟨rfl,Post.as (HQ.out.trans (z3e ew2)) (Post.thrown_ h1 h2 R B (HM.out.K.trans K (.inl rfl)))⟩
   replace HQ:=z00.mk (show r=.ok (⟨acc,⟨y0.1.f0,y0.1.f1⟩⟩,leftL ts p4)from HQ.out.trans (z3q ew2));replace HU:=z00.mk (Kd.R_keep HU.out K (fun k hk=>by have h1:=hk.1;have h2:=HM.out.gw;omega));replace HM:=z00.mk (HM.out.call R B K);clear R B K hp HW2 ew2 hd61 hd62 hf61 hf62;have hd60:w6.cell? ⟨n6,0,none⟩=some (.slice A acc.length c):=(z01 HM.out.b6 0).trans rfl;have hd61:w6.cell? ⟨n6,1,none⟩=some (.string y0.1.f0):=(z01 HM.out.b6 1).trans rfl;have hd62:w6.cell? ⟨n6,2,none⟩=some (.slice Au al cu):=(z01 HM.out.b6 2).trans rfl;have hd40:w6.cell? ⟨n4,0,none⟩=some (.slice none 0 0):=(z01 HM.out.b4 0).trans rfl;have hd41:w6.cell? ⟨n4,1,none⟩=some (.string ⟨#[]⟩):=(z01 HM.out.b4 1).trans rfl;have hd42:w6.cell? ⟨n4,2,none⟩=some (.slice none 0 0):=(z01 HM.out.b4 2).trans rfl;have hg40:=z03 HM.out.b4 0;have hg41:=z03 HM.out.b4 1;have hg42:=z03 HM.out.b4 2;obtain⟨P1,P2⟩:=PrM.ends HM.out HU.out HQ.out;go_wp2;refine bodyPost_ret (results_cell_row rfl _ _ n4 27 #[.slice A acc.length c,.string y0.1.f0,.slice Au al cu] (0,0) _ rfl P1.out Tryz.underlying27 rfl (by kernel_rfl)) rfl ?_;exact P2.out
  |false =>
   rw[hm]at HS4;simp only[hm,Bool.false_eq_true,if_false]at HQ
   go_wp2_with fail
   refine HS4.out.mono ?_;rintro e w5 ⟨rfl,R,B,K⟩;simp only[Bool.false_eq_true,if_false]at R;replace HM:=z00.mk (HM.out.call R B K);clear R B K HS4;obtain⟨x,hx⟩:∃x,seeP ts en p'=x:=⟨_,rfl⟩
   have HS2:=z00.mk (z2a w0 w5 g ts p' en 0 (by omega) HM.out.R HM.out.B);rw[Nat.add_zero,hx]at HS2;have HPB:=z4l ts en p';rw[hx]at HPB;have HPB:=z00.mk HPB;clear hx hm
   go_wp2_with fail
   refine HS2.out.mono ?_;rintro e w3 ⟨rfl,R,B,K⟩;obtain⟨n8,en8⟩:∃n,w3.heap.size=n:=⟨_,rfl⟩
   have hX:=z1h w3 (.cells #[.int .i64 x.f0,.string x.f1,.int .i64 x.f2] 108);rw[en8]at hX;have HX:=z00.mk hX;replace HM:=z00.mk ((HM.out.call R B K).alloc (.cells #[.int .i64 x.f0,.string x.f1,.int .i64 x.f2] 108));clear R B K HS2 hX
   go_upto_region 4 with (fail)
   generalize w3.alloc (.cells #[.int .i64 x.f0,.string x.f1,.int .i64 x.f2] 108)=w4 at HM HX ⊢
   have hx0:w4.cell? ⟨n8,0,none⟩=some (.int .i64 x.f0):=(z01 HX.out 0).trans rfl;have hx1:w4.cell? ⟨n8,1,none⟩=some (.string x.f1):=(z01 HX.out 1).trans rfl;have hc60:w4.cell? ⟨n6,0,none⟩=some (.slice A acc.length c):=(z01 HM.out.b6 0).trans rfl
   go_cut [24] (fun v24 wc=>v24=.bool (acc.length==200&&predL (leftL ts p'))∧z00 (PrM ⟨#[]⟩ (.slice none 0 0) w0 w wc g n4 n6 ts en p' acc (.slice A acc.length c)))
   case first =>
    have HY:=z00.mk (fun W=>z67.calls x.f1 (keyL x.f1.data.toList) W (z5t x.f1));obtain⟨ky,hky⟩:∃c,keyL x.f1.data.toList=c:=⟨_,rfl⟩
    rw[hky]at HY HPB;clear hky
    by_cases h8:acc.length=200
    · have c0:((acc.length:Int)==200)=true:=beq_iff_eq.2 (by omega);have c1:(acc.length==200)=true:=beq_iff_eq.2 h8
      cases k1:(x.f0==1)with
      |false =>
       go_wp2;go_meet
       case rel=>exact⟨by rw[HPB.out,c1,k1];rfl,HM⟩
      |true =>
       go_wp2_with fail
       refine(HY.out _).mono ?_;rintro e w6 ⟨rfl,d⟩;have HM2:=z00.mk (HM.out.call (HM.out.R.below d.below) (z0g HM.out.B d.below) (z0v.of_below d.below g none));clear d;go_wp2;go_meet
       case rel=>exact⟨by rw[HPB.out,c1,k1];first|rfl|simp,HM2⟩
    · have c0:((acc.length:Int)==200)=false:=beq_eq_false_iff_ne.2 (by omega);have c1:(acc.length==200)=false:=beq_eq_false_iff_ne.2 h8;go_wp2;go_meet
      case rel=>exact⟨by rw[c1];rfl,HM⟩
   case rest =>
    clear HM HX hx0 hx1 hc60;obtain⟨rfl,HM⟩:=hcut;obtain⟨fl,hfl⟩:∃fl,(acc.length==200&&predL (leftL ts p'))=fl:=⟨_,rfl⟩
    rw[hfl]at HQ ⊢;have HFL:=z00.mk hfl;clear hfl HPB
    cases fl with
    |true =>
     have HF:=z00.mk (z47 w0 wc g ts p' en 4 HM.out.R HM.out.B)
     go_wp2_with fail
     refine HF.out.mono ?_;rintro e w3 ⟨rfl,R,B,K⟩;exact⟨rfl,Post.as (by rw[HQ.out];rfl) (Post.thrown_ (q:=((leftL ts p').length,4)) (i:=p') R.le (z13 ts p').symm R B (HM.out.K.trans K (.inl rfl)))⟩
    |false =>
    simp only[Bool.false_eq_true,if_false]at HQ;go_wp2;replace HM:=z00.mk HM.out.drew;refine z78 (n:=8) (S:=fun w'=>w'.cell? ⟨n6,0,none⟩=some (.slice A acc.length c)) (ds:=[7]) #[false,false,false,false,false,false,false,false] (by kernel_rfl) rfl rfl ((z01 HM.out.b6 0).trans rfl) (fun hHeld=>?_);refine z4a prog6.tab prog6.bits (fun HT_ HW_=>?_)
    generalize wc.drew=w1 at HM hHeld ⊢
    refine pure_ (i:=0) (N:=some 27) (v:=?_) (a':=?_) #[true,false,false,false,false,false,false,false] rfl rfl (z2l HT_.out (by kernel_rfl)) (fun _ _ _ h=>h) (Or.inl ⟨by rfl,?_⟩) ?_ ?_
    rotate_left
    · intro w'
      go_simp
      with_reducible rfl
    rotate_left
    · simp only[Act.put,List.setIfInBounds_toArray,List.set_cons_zero,List.set_cons_succ,i64_w,i32_w];rfl
    refine pure_ (i:=2) (N:=some 29) (v:=?_) (a':=?_) #[true,false,true,false,false,false,false,false] rfl rfl (z2l HT_.out (by kernel_rfl)) (fun _ _ _ h=>h) (Or.inl ⟨by rfl,?_⟩) ?_ ?_
    rotate_left
    · intro w'
      go_simp
      with_reducible rfl
    rotate_left
    · simp only[Act.put,List.setIfInBounds_toArray,List.set_cons_zero,List.set_cons_succ,i64_w,i32_w];rfl
    refine take_ (i:=1) (N:=some 28) (v:=?_) (a':=?_) #[true,true,true,false,false,false,false,false] rfl rfl (z2v HT_.out HW_.out (by kernel_rfl)) (fun _ _ _ h=>h) (Or.inl ⟨by rfl,?_⟩) hHeld ?_ ?_
    rotate_left
    · rintro w' s1
      go_simp
      with_reducible rfl
    rotate_left
    · simp only[Act.put,List.setIfInBounds_toArray,List.set_cons_zero,List.set_cons_succ,i64_w,i32_w];rfl
    refine one_ (i:=3) (N:=some 30) #[true,true,true,true,false,false,false,false] rfl rfl (z2w HT_.out (by kernel_rfl)) (by decide) (fun K hK=>?_);refine ze6 Tryz.func86 (by kernel_rfl) rfl #[.pointer (some ⟨g,0,none⟩)] (by rfl) rfl rfl zA0w ?_;refine(zf6 w0 w1 g ts p' en HE.out HM.out.R HM.out.B).mono ?_;intro e w2 hp;rcases hp.split with ⟨y,p2,v,er,rfl,hv,R,B,Kk⟩|⟨q,i,p2,er,h1,h2,rfl,R,B,Kk⟩
    case inr=>exact .inr ⟨_,rfl,rfl,Post.as (by rw[HQ.out,er];rfl) (Post.thrown_ h1 h2 R B (HM.out.K.trans Kk (.inl rfl)))⟩
    obtain⟨ua,ub,rfl,ha,hb0⟩:=hv;obtain⟨Aa,ca,rfl⟩:=Kd.R_slice ha;obtain⟨Ab,cb,rfl⟩:=Kd.R_slice hb0;obtain⟨nb,enb⟩:∃n,w1.heap.size=n:=⟨_,rfl⟩
    rw[enb]at ha hb0;have HLB:=z00.mk (show w.heap.size≤nb∧n4<nb∧n6<nb∧∀k,(Value.slice A acc.length c).ownBlock=some k→k<nb from⟨by rw[←enb];exact HM.out.K.1,by rw[←enb];exact z1u HM.out.b4,by rw[←enb];exact z1u HM.out.b6,fun k hk=>by rw[←enb];exact Kd.R_lt HM.out.own k hk⟩);have HLA:=z00.mk (And.intro (Kd.R_lower ha HLB.out.1) (Kd.R_lower hb0 HLB.out.1));clear ha hb0;refine .inl ⟨_,rfl,?_⟩;have HER:=z00.mk er;replace HM:=z00.mk (HM.out.call R B Kk);clear R B Kk hp er;refine hK.out _ _ ((z01 HM.out.b6 0).trans rfl) (fun hHeld=>?_);clear hK K;refine norm_ (a':=?_) ?_ ?_
    rotate_left
    · show Act.put _ (some 30) _=_;simp only[Act.put,List.setIfInBounds_toArray,List.set_cons_zero,List.set_cons_succ,i64_w,i32_w];rfl
    refine one_ (i:=4) (N:=some 31) #[true,true,true,true,true,false,false,false] rfl rfl (z2w HT_.out (by kernel_rfl)) (by decide) (fun K hK=>?_);refine zba (w1:=?_) (v:=?_) (by rfl) rfl ?_ ?_
    rotate_left 2
    · go_simp
      constructor
      · rfl
      · rfl
    refine hK.out _ _ ((z01 (z06 HM.out.b6 _) 0).trans rfl) (fun hHeld=>?_);clear hK K;refine norm_ (a':=?_) ?_ ?_
    rotate_left
    · show Act.put _ (some 31) _=_;simp only[Act.put,List.setIfInBounds_toArray,List.set_cons_zero,List.set_cons_succ,i64_w,i32_w];rfl
    refine one_ (i:=5) (N:=some 32) #[true,true,true,true,true,true,false,false] rfl rfl (z2w HT_.out (by kernel_rfl)) (by decide) (fun K hK=>?_);refine Kd.R_append_step k33 w.heap.size (by rfl) (.tmp 28) (.tmp 31) 22 33 (.agg #[(.string ⟨#[]⟩),(.slice none 0 0),(.int .i64 0),(.slice none 0 0)]) 72 rfl Tryz.underlying22 info33 rfl (by decide) (by omega) (.slice A acc.length c) acc y [.string y.f0.f0,.slice Aa y.f0.f1.length ca,.int .i64 y.f1,.slice Ab y.f2.length cb] (fun k=>w.heap.size≤k∧k≠n4∧k≠n6) (fun k=>nb≤k) rfl rfl (k33_mkM _ _ _ y HLA.out.1 HLA.out.2) (fun k hk=>⟨⟨by have h1:=HLB.out.1;omega,by have h1:=HLB.out.2.1;omega,by have h1:=HLB.out.2.2.1;omega⟩,fun he=>by have h1:=HLB.out.2.2.2 k he.symm;omega⟩) (fun k hk=>HM.out.fresh hk) HM.out.own (Below.refl _ _) HM.out.K.1 (by have:=HLEN.out;omega) ?_;intro u' w3 ho hb hg hat;obtain⟨A',c',eu⟩:=Kd.R_slice ho;rw[List.length_append,List.length_singleton]at eu;subst eu;have HM3:=z00.mk (HM.out.more (u':=.slice A' (acc.length+1) c') 0 rfl ho (z4m HM.out.B HM.out.h0 hb) hg);have HB6:=z42 HM.out.b6 hg HM.out.ne6;refine hK.out _ _ ((z01 HB6 0).trans rfl) (fun hHeld=>?_);clear hK K;refine norm_ (a':=?_) ?_ ?_
    rotate_left
    · show Act.put _ (some 32) _=_;simp only[Act.put,List.setIfInBounds_toArray,List.set_cons_zero,List.set_cons_succ,i64_w,i32_w];rfl
    refine pure_ (i:=6) (N:=some 33) (v:=?_) (a':=?_) #[true,true,true,true,true,true,true,false] rfl rfl (z2l HT_.out (by kernel_rfl)) (fun _ _ _ h=>h) (Or.inl ⟨by rfl,?_⟩) ?_ ?_
    rotate_left
    · intro w'
      go_simp
      with_reducible rfl
    rotate_left
    · simp only[Act.put,List.setIfInBounds_toArray,List.set_cons_zero,List.set_cons_succ,i64_w,i32_w];rfl
    refine last_ (i:=7) (N:=none) #[true,true,true,true,true,true,true,true] rfl rfl (z2w HT_.out (by kernel_rfl)) (by decide) (fun K hK=>?_);have hs6:w3.cell? ⟨n6,0,none⟩=some (.slice A acc.length c):=(z01 HB6 0).trans rfl;have hsf6:=z03 HB6 0;refine skip_ (w1:=?_) (by rfl) rfl ?_ ?_
    rotate_left
    · go_simp
      rfl
    refine hK.out _ _ ?_;clear hK K;refine done_ (z5v HT_.out (by kernel_rfl)) ?_;clear HM hs6 hsf6 HB6 ho hb hg hat hHeld HT_ HW_;have HM:=HM3;clear HM3
    generalize w3.setCell ⟨n6,0,none⟩ (.slice A' (acc.length+1) c')=w4 at HM ⊢
    replace HQ:=z00.mk (HQ.out.trans (by rw[HER.out];rfl:_=bnd (z6k (200 - acc.length) (acc++[y]) (leftL ts p2)) progE));have h8:acc.length≠200:=fun h=>by
     have h1:=HFL.out;rw[zg4 HER.out,beq_iff_eq.2 h]at h1
     cases h1
    clear HER HLA HLB;have hl1:(acc++[y]).length=acc.length+1:=by simp
    go_wp2
    go_roundg k1
    case rel=>exact⟨acc++[y],p2,_,by omega,by have:=HLEN.out;omega,⟨by rw[HQ.out,show 201 - (acc++[y]).length=200 - acc.length by omega]⟩,HM⟩
    case measure=>omega

def closP2.T:Bool × List (List Nat × List Nat):=(true,[([],[]),([],[]),([1],[1]),([],[]),([3],[3]),([0,0],[0]),([2,5,0,1,2,5],[2]),([4,6,0,1,2,3,4,5,6],[4])])
def closP2.B:List Nat:=[0,0,2,0,8,1,39,127]
theorem closP2.tab:rtab .any (opsOf Tryz.f81 2)=closP2.T:=by kernel_rfl
theorem closP2.bits:z4j closP2.T.2 closP2.B=true:=by kernel_rfl
def closS2.T:Bool × List (List Nat × List Nat):=(true,[([],[]),([],[]),([1],[1]),([],[]),([3],[3]),([0,0],[0]),([2,5,0,1,2,5],[2]),([4,6,0,1,2,3,4,5,6],[4])])
def closS2.B:List Nat:=[0,0,2,0,8,1,39,127]
set_option maxHeartbeats 1600000 in
set_option maxRecDepth 100000 in
theorem zg8 (g7 g4 g5 g6:Nat) (x0 x1:Int) (older:List PanicEntry) (w:World) (y0 y1 y2:Value) (v5 v6:Int) (h7:w.heap[g7]?=some (.cells #[.slice none 0 0,.string ⟨#[]⟩,.slice none 0 0] 27 (0,0))) (h4:w.heap[g4]?=some (.cells #[y0,y1,y2] 27 (0,0))) (h5:w.heap[g5]?=some (.cells #[.int .i64 v5] 3 (0,0))) (h6:w.heap[g6]?=some (.cells #[.int .i64 v6] 40 (0,0))) (n74:g7≠g4) (n45:g4≠g5) (n46:g4≠g6) (n56:g5≠g6) (n75:g7≠g5) (n76:g7≠g6) :
 CallsD Tryz.prog 81 #[.pointer (some ⟨g7,0,none⟩),.pointer (some ⟨g4,0,none⟩),.pointer (some ⟨g5,0,none⟩),.pointer (some ⟨g6,0,none⟩)] (.panicking ({ v:=.iface 125 (.agg #[.int .i64 x0,.int .i64 x1]),recovered:=false }::older)) w fun e u' w' =>
  e=.returned (.tuple #[])∧u'=.panicking ({ v:=.iface 125 (.agg #[.int .i64 x0,.int .i64 x1]),recovered:=true }::older)∧w'.heap[g4]?=some (.cells #[.slice none 0 0,.string ⟨#[]⟩,.slice none 0 0] 27 (0,0))∧w'.heap[g5]?=some (.cells #[.int .i64 x0] 3 (0,0))∧w'.heap[g6]?=some (.cells #[.int .i64 x1] 40 (0,0))∧∀b (v:World),Below b v w→b≤g4→b≤g5→b≤g6→b≤w.heap.size→Below b v w':=by
 have hta:∀(w:World),(Instr.typeAssert (.iface 125 (.agg #[.int .i64 x0,.int .i64 x1])) 20 125 true).run Tryz.prog w=.ok (.tuple #[.agg #[.int .i64 x0,.int .i64 x1],.bool true]) w:=fun _=>by kernel_rfl
 refine callsD_of_wpS Tryz.func81 rfl fun c₀ cs hu=>?_
 apply wpS_seq;apply wpS_region
 simp[wpOpsS,go_sem,recoverD,hu,Tryz.ntmps81,Exit.thenS,hta,Array.replicate]
 apply wpS_seq;apply wpS_region
 simp[wpOpsS,go_sem,recoverD,hu,Tryz.ntmps81,Exit.thenS,Array.replicate]
 refine wpS_cond (t:=true) (by simp[Act.eval,Array.replicate]) ?_;simp only[if_true];refine wpS_of_wp ?_;obtain⟨n8,en8⟩:∃n,w.heap.size=n:=⟨_,rfl⟩
 have hb8:=z1h w (.cells #[.int .i64 x0,.int .i64 x1] 125);rw[en8]at hb8 ⊢;have B4:=z09 (z06 h4 (.cells #[.int .i64 x0,.int .i64 x1] 125));have B5:=z09 (z06 h5 (.cells #[.int .i64 x0,.int .i64 x1] 125));have B6:=z09 (z06 h6 (.cells #[.int .i64 x0,.int .i64 x1] 125));have B7:=z09 (z06 h7 (.cells #[.int .i64 x0,.int .i64 x1] 125));have B8:=z09 hb8;have l4:=z1u h4;have l5:=z1u h5;have l6:=z1u h6;have l7:=z1u h7;have HBL:∀b (v:World),Below b v w→b≤w.heap.size→Below b v (w.alloc (.cells #[.int .i64 x0,.int .i64 x1] 125)).drew:=fun b v h hb=>(h.alloc hb _).drew
 refine z78 (n:=8) (S:=fun w'=>w'.cell? ⟨n8,0,none⟩=some (.int .i64 x0)∧w'.cell? ⟨n8,1,none⟩=some (.int .i64 x1)∧w'.cell? ⟨g7,0,none⟩=some (.slice none 0 0)∧w'.cell? ⟨g7,1,none⟩=some (.string ⟨#[]⟩)∧w'.cell? ⟨g7,2,none⟩=some (.slice none 0 0)) (ds:=[7]) #[false,false,false,false,false,false,false,false] (by kernel_rfl) rfl rfl ⟨(z01 B8 0).trans rfl,(z01 B8 1).trans rfl,(z01 B7 0).trans rfl,(z01 B7 1).trans rfl,(z01 B7 2).trans rfl⟩ (fun hHeld=>?_);refine z4a closP2.tab closP2.bits (fun HT_ HW_=>?_)
 generalize (w.alloc (.cells #[.int .i64 x0,.int .i64 x1] 125)).drew=W at B4 B5 B6 B7 B8 HBL hHeld ⊢
 refine pure_ (i:=1) (N:=some 13) (v:=?_) (a':=?_) #[false,true,false,false,false,false,false,false] rfl rfl (z2l HT_.out (by kernel_rfl)) (fun _ _ _ h=>h) (Or.inl ⟨by rfl,?_⟩) ?_ ?_
 rotate_left
 · intro w'
   go_simp
   with_reducible rfl
 rotate_left
 · simp only[Act.put,List.setIfInBounds_toArray,List.set_cons_zero,List.set_cons_succ,i64_w,i32_w];rfl
 refine pure_ (i:=3) (N:=some 15) (v:=?_) (a':=?_) #[false,true,false,true,false,false,false,false] rfl rfl (z2l HT_.out (by kernel_rfl)) (fun _ _ _ h=>h) (Or.inl ⟨by rfl,?_⟩) ?_ ?_
 rotate_left
 · intro w'
   go_simp
   with_reducible rfl
 rotate_left
 · simp only[Act.put,List.setIfInBounds_toArray,List.set_cons_zero,List.set_cons_succ,i64_w,i32_w];rfl
 refine take_ (i:=0) (N:=some 12) (v:=?_) (a':=?_) #[true,true,false,true,false,false,false,false] rfl rfl (z2v HT_.out HW_.out (by kernel_rfl)) (fun _ _ _ h=>h) (Or.inl ⟨by rfl,?_⟩) hHeld ?_ ?_
 rotate_left
 · rintro w' ⟨s0,s1,z0,z1,z2⟩
   go_simp
   with_reducible rfl
 rotate_left
 · simp only[Act.put,List.setIfInBounds_toArray,List.set_cons_zero,List.set_cons_succ,i64_w,i32_w];rfl
 refine take_ (i:=2) (N:=some 14) (v:=?_) (a':=?_) #[true,true,true,true,false,false,false,false] rfl rfl (z2v HT_.out HW_.out (by kernel_rfl)) (fun _ _ _ h=>h) (Or.inl ⟨by rfl,?_⟩) hHeld ?_ ?_
 rotate_left
 · rintro w' ⟨s0,s1,z0,z1,z2⟩
   go_simp
   with_reducible rfl
 rotate_left
 · simp only[Act.put,List.setIfInBounds_toArray,List.set_cons_zero,List.set_cons_succ,i64_w,i32_w];rfl
 refine take_ (i:=4) (N:=some 16) (v:=?_) (a':=?_) #[true,true,true,true,true,false,false,false] rfl rfl (z2v HT_.out HW_.out (by kernel_rfl)) (fun _ _ _ h=>h) (Or.inl ⟨by rfl,?_⟩) hHeld ?_ ?_
 rotate_left
 · rintro w' ⟨s0,s1,z0,z1,z2⟩
   go_simp
   with_reducible rfl
 rotate_left
 · simp only[Act.put,List.setIfInBounds_toArray,List.set_cons_zero,List.set_cons_succ,i64_w,i32_w];rfl
 refine one_ (i:=5) (N:=none) #[true,true,true,true,true,true,false,false] rfl rfl (z2w HT_.out (by kernel_rfl)) (by decide) (fun K hK=>?_);have a0:W.cell? ⟨g4,0,none⟩=some (y0):=(z01 B4 0).trans rfl;have a1:W.cell? ⟨g4,1,none⟩=some (y1):=(z01 B4 1).trans rfl;have a2:W.cell? ⟨g4,2,none⟩=some (y2):=(z01 B4 2).trans rfl;have af0:=z03 B4 0;have af1:=z03 B4 1;have af2:=z03 B4 2;refine skip_ (w1:=?_) (by rfl) rfl ?_ ?_
 rotate_left
 · go_simp
   rfl
 have C4:(((W.setCell ⟨g4,0,none⟩ (.slice none 0 0)).setCell ⟨g4,1,none⟩ (.string ⟨#[]⟩)).setCell ⟨g4,2,none⟩ (.slice none 0 0)).heap[g4]?=some (.cells #[.slice none 0 0,.string ⟨#[]⟩,.slice none 0 0] 27 (0,0)):=z2z [.slice none 0 0,.string ⟨#[]⟩,.slice none 0 0] 0 W #[y0,y1,y2] B4;have C5:(((W.setCell ⟨g4,0,none⟩ (.slice none 0 0)).setCell ⟨g4,1,none⟩ (.string ⟨#[]⟩)).setCell ⟨g4,2,none⟩ (.slice none 0 0)).heap[g5]?=some (.cells #[.int .i64 v5] 3 (0,0)):=z2h (by omega) [.slice none 0 0,.string ⟨#[]⟩,.slice none 0 0] 0 W B5;have C6:(((W.setCell ⟨g4,0,none⟩ (.slice none 0 0)).setCell ⟨g4,1,none⟩ (.string ⟨#[]⟩)).setCell ⟨g4,2,none⟩ (.slice none 0 0)).heap[g6]?=some (.cells #[.int .i64 v6] 40 (0,0)):=z2h (by omega) [.slice none 0 0,.string ⟨#[]⟩,.slice none 0 0] 0 W B6;have C7:(((W.setCell ⟨g4,0,none⟩ (.slice none 0 0)).setCell ⟨g4,1,none⟩ (.string ⟨#[]⟩)).setCell ⟨g4,2,none⟩ (.slice none 0 0)).heap[g7]?=some (.cells #[.slice none 0 0,.string ⟨#[]⟩,.slice none 0 0] 27 (0,0)):=z2h (by omega) [.slice none 0 0,.string ⟨#[]⟩,.slice none 0 0] 0 W B7;have C8:(((W.setCell ⟨g4,0,none⟩ (.slice none 0 0)).setCell ⟨g4,1,none⟩ (.string ⟨#[]⟩)).setCell ⟨g4,2,none⟩ (.slice none 0 0)).heap[n8]?=some (.cells #[.int .i64 x0,.int .i64 x1] 125 (0,0)):=z2h (by omega) [.slice none 0 0,.string ⟨#[]⟩,.slice none 0 0] 0 W B8;refine hK.out _ _ ⟨(z01 C8 0).trans rfl,(z01 C8 1).trans rfl,(z01 C7 0).trans rfl,(z01 C7 1).trans rfl,(z01 C7 2).trans rfl⟩ (fun hHeld=>?_);clear hK K;refine one_ (i:=6) (N:=none) #[true,true,true,true,true,true,true,false] rfl rfl (z2w HT_.out (by kernel_rfl)) (by decide) (fun K hK=>?_);have b0:(((W.setCell ⟨g4,0,none⟩ (.slice none 0 0)).setCell ⟨g4,1,none⟩ (.string ⟨#[]⟩)).setCell ⟨g4,2,none⟩ (.slice none 0 0)).cell? ⟨g5,0,none⟩=some (.int .i64 v5):=(z01 C5 0).trans rfl;have bf0:=z03 C5 0;refine skip_ (w1:=?_) (by rfl) rfl ?_ ?_
 rotate_left
 · go_simp
   rfl
 refine hK.out _ _ ⟨(z01 (z0w C8 (by show n8≠g5;omega) _) 0).trans rfl,(z01 (z0w C8 (by show n8≠g5;omega) _) 1).trans rfl,(z01 (z0w C7 (by show g7≠g5;omega) _) 0).trans rfl,(z01 (z0w C7 (by show g7≠g5;omega) _) 1).trans rfl,(z01 (z0w C7 (by show g7≠g5;omega) _) 2).trans rfl⟩ (fun hHeld=>?_);clear hK K;have E6:((((W.setCell ⟨g4,0,none⟩ (.slice none 0 0)).setCell ⟨g4,1,none⟩ (.string ⟨#[]⟩)).setCell ⟨g4,2,none⟩ (.slice none 0 0)).setCell ⟨g5,0,none⟩ (.int .i64 x0)).heap[g6]?=some (.cells #[.int .i64 v6] 40 (0,0)):=z0w C6 (by show g6≠g5;omega) _;refine last_ (i:=7) (N:=none) #[true,true,true,true,true,true,true,true] rfl rfl (z2w HT_.out (by kernel_rfl)) (by decide) (fun K hK=>?_);have c0:((((W.setCell ⟨g4,0,none⟩ (.slice none 0 0)).setCell ⟨g4,1,none⟩ (.string ⟨#[]⟩)).setCell ⟨g4,2,none⟩ (.slice none 0 0)).setCell ⟨g5,0,none⟩ (.int .i64 x0)).cell? ⟨g6,0,none⟩=some (.int .i64 v6):=(z01 E6 0).trans rfl;have cf0:=z03 E6 0;refine skip_ (w1:=?_) (by rfl) rfl ?_ ?_
 rotate_left
 · go_simp
   rfl
 refine hK.out _ _ ?_;clear hK K;refine done_ (z5v HT_.out (by kernel_rfl)) ?_;have F4:(((((W.setCell ⟨g4,0,none⟩ (.slice none 0 0)).setCell ⟨g4,1,none⟩ (.string ⟨#[]⟩)).setCell ⟨g4,2,none⟩ (.slice none 0 0)).setCell ⟨g5,0,none⟩ (.int .i64 x0)).setCell ⟨g6,0,none⟩ (.int .i64 x1)).heap[g4]?=some (.cells #[.slice none 0 0,.string ⟨#[]⟩,.slice none 0 0] 27 (0,0)):=z0w (z0w C4 (by show g4≠g5;omega) _) (by show g4≠g6;omega) _;have F5:(((((W.setCell ⟨g4,0,none⟩ (.slice none 0 0)).setCell ⟨g4,1,none⟩ (.string ⟨#[]⟩)).setCell ⟨g4,2,none⟩ (.slice none 0 0)).setCell ⟨g5,0,none⟩ (.int .i64 x0)).setCell ⟨g6,0,none⟩ (.int .i64 x1)).heap[g5]?=some (.cells #[.int .i64 x0] 3 (0,0)):=z0w (z0l C5 0 (.int .i64 x0) rfl) (by show g5≠g6;omega) _;have F6:(((((W.setCell ⟨g4,0,none⟩ (.slice none 0 0)).setCell ⟨g4,1,none⟩ (.string ⟨#[]⟩)).setCell ⟨g4,2,none⟩ (.slice none 0 0)).setCell ⟨g5,0,none⟩ (.int .i64 x0)).setCell ⟨g6,0,none⟩ (.int .i64 x1)).heap[g6]?=some (.cells #[.int .i64 x1] 40 (0,0)):=z0l E6 0 (.int .i64 x1) rfl;have HBB:∀b (v:World),Below b v w→b≤g4→b≤g5→b≤g6→b≤w.heap.size→Below b v (((((W.setCell ⟨g4,0,none⟩ (.slice none 0 0)).setCell ⟨g4,1,none⟩ (.string ⟨#[]⟩)).setCell ⟨g4,2,none⟩ (.slice none 0 0)).setCell ⟨g5,0,none⟩ (.int .i64 x0)).setCell ⟨g6,0,none⟩ (.int .i64 x1)):=fun b v h b4 b5 b6 b8=>(((((HBL b v h b8).setCell b4 _).setCell b4 _).setCell b4 _).setCell b5 _).setCell b6 _
 rw[en8]at HBB;clear HBL HT_ HW_ hHeld
 generalize (((((W.setCell ⟨g4,0,none⟩ (.slice none 0 0)).setCell ⟨g4,1,none⟩ (.string ⟨#[]⟩)).setCell ⟨g4,2,none⟩ (.slice none 0 0)).setCell ⟨g5,0,none⟩ (.int .i64 x0)).setCell ⟨g6,0,none⟩ (.int .i64 x1))=W' at F4 F5 F6 HBB ⊢
 simp[bodyPostS,results,Tryz.results81,go_sem,F4,F5,F6]
 exact HBB
theorem idleP (p0 p1 p2 p3:Value) (w:World) :
 CallsD Tryz.prog 81 #[p0,p1,p2,p3] .returning w fun e u' w'=>e=.returned (.tuple #[])∧u'=.returning∧w'=w.alloc (.cells #[.int .i64 0,.int .i64 0] 125):=by
 have hta:∀(w:World),(Instr.typeAssert .nilIface 20 125 true).run Tryz.prog w=.ok (.tuple #[.agg #[.int .i64 0,.int .i64 0],.bool false]) w:=fun _=>by kernel_rfl
 refine callsD_of_wpS Tryz.func81 rfl fun c₀ cs hu=>?_
 apply wpS_seq;apply wpS_region
 simp[wpOpsS,go_sem,recoverD,hu,Tryz.ntmps81,Exit.thenS,hta,Array.replicate]
 apply wpS_seq;apply wpS_region
 simp[wpOpsS,go_sem,recoverD,hu,Tryz.ntmps81,Exit.thenS,Array.replicate]
 refine wpS_cond (t:=false) (by simp[Act.eval,Array.replicate]) ?_;simp only[Bool.false_eq_true,if_false];refine wpS_of_wp (wp_skip ?_)
 cases c₀
 simp_all [bodyPostS,results,Tryz.results81]

def nmL (l:List UInt8):Bool:=nameB ⟨l.toArray⟩
def vlL (l:List UInt8):Bool:=(readR ⟨l.toArray⟩).2.2.2==0

theorem z1a (c:UInt8):z1j.f (c.toNat:Int)=some (z1p c):=by
 unfold z1j.f z1p
 by_cases h:(c.toNat:Int)≥97
 · rw[if_pos h];congr 1;rw[Bool.eq_iff_iff];simp only[decide_eq_true_eq];omega
 · rw[if_neg h];congr 1;symm;rw[decide_eq_false_iff_not];omega
theorem z1e (c:UInt8):z1m.f (c.toNat:Int)=some (z1d c):=by
 unfold z1m.f z1d
 by_cases h:(c.toNat:Int)≥65
 · rw[if_pos h];congr 1;rw[Bool.eq_iff_iff];simp only[decide_eq_true_eq];omega
 · rw[if_neg h];congr 1;symm;rw[decide_eq_false_iff_not];omega
theorem z18 (c:UInt8):z1f.f (c.toNat:Int)=some (z1i c):=by
 unfold z1f.f z1i
 by_cases h:(c.toNat:Int)≥48
 · rw[if_pos h];congr 1;rw[Bool.eq_iff_iff];simp only[decide_eq_true_eq];omega
 · rw[if_neg h];congr 1;symm;rw[decide_eq_false_iff_not];omega
theorem z1x (c:UInt8) (n:Nat) (hn:n<256):((c.toNat:Int)==(n:Int))=(c==UInt8.ofNat n):=by
 rw[Bool.eq_iff_iff,beq_iff_eq,beq_iff_eq]
 constructor
 · intro h;apply UInt8.toNat_inj.1;rw[UInt8.toNat_ofNat'];omega
 · intro h;rw[h,UInt8.toNat_ofNat'];omega
theorem z9n (c:UInt8):z5s.f (c.toNat:Int)=some (lowB c):=by
 unfold z5s.f lowB;rw[z1a,z18];simp only[Option.bind_some];have h95:((c.toNat:Int)==95)=(c==95):=z1x c 95 (by omega);rw[h95]
 cases z1p c <;> cases z1i c <;> simp
theorem zd8 (c:UInt8):z6z.f (c.toNat:Int)=some (signB c):=by
 unfold z6z.f signB;rw[z9n,z1e];simp only[Option.bind_some]
 cases lowB c <;> simp
theorem zao {a b:Nat} (h:a=b):Ending.returned (.int .i64 (a:Int))=.returned (.int .i64 (b:Int)):=by rw[h]
theorem z5y (p:UInt8→Bool) (l:List UInt8) (j:Nat) (hj:j<l.length):runN p (l.drop j)=if p l[j]then runN p (l.drop (j+1))+1 else 0:=by
 rw[List.drop_eq_getElem_cons hj];rfl
theorem z82 (p:UInt8→Bool) (l:List UInt8) (j:Nat) (hj:l.length≤j):runN p (l.drop j)=0:=by
 rw[List.drop_eq_nil_of_le hj];rfl
theorem z2k (s:ByteArray) (j:Nat) (h:j<s.size) (h':j<s.data.toList.length):s.data.toList[j]=s[j]:=by
 rw[Array.getElem_toList];rfl
set_option maxHeartbeats 1600000 in
set_option maxRecDepth 100000 in
theorem zfk (s:ByteArray) (hs:s.size≤140737488355328) (w:World) :
 Calls Tryz.prog 124 #[.string s,.func (.func 125) #[] #[]] w fun e w'=>e=.returned (.int .i64 (runN lowB s.data.toList:Nat))∧z0d w w':=by
 go_enter Tryz.func124,Tryz.ntmps124;go_wp2
 go_loopg [5] s.size (fun gg s5 wr=>∃j m:Nat,j≤s.size∧s.size - j≤gg∧s5=.int .i64 j∧wr=w.drewN m∧z00 (j+runN lowB (s.data.toList.drop j)=runN lowB s.data.toList))
 case atStart=>exact⟨0,0,Nat.zero_le _,by omega,rfl,(World.drewN_zero w).symm,⟨by simp⟩⟩
 case round =>
  obtain⟨j,m,hj,hg,rfl,rfl,HA⟩:=hrel
  by_cases hlt:j<s.size
  · have hltz:decide ((j:Int)<(s.size:Int))=true:=decide_eq_true (by omega);have hst:=z5y lowB s.data.toList j (by rw[z0n];exact hlt);rw[z2k s j hlt]at hst;have HST:=z00.mk hst;have HC:=z00.mk (fun W=>z5s.calls (s[j].toNat:Int) (lowB s[j]) W (z9n s[j]));clear hst
    cases hp:lowB s[j]with
    |true =>
     have HP:=z00.mk hp;rw[hp]at HC;clear hp
     go_wp2_with (go_at_call 125;refine(HC.out _).mono ?_;rintro e w' ⟨rfl,⟨nd,rfl⟩⟩)
     go_roundg (s.size - (j+1))
     case measure=>omega
     case rel=>exact⟨j+1,m+nd,by omega,by omega,by go_num,rfl,⟨by have:=HA.out;rw[HST.out,HP.out]at this;simp only[if_true]at this;omega⟩⟩
    |false =>
     have HP:=z00.mk hp;rw[hp]at HC;clear hp
     go_wp2_with (go_at_call 125;refine(HC.out _).mono ?_;rintro e w' ⟨rfl,⟨nd,rfl⟩⟩)
     go_ret
     exact⟨zao (by have:=HA.out;rw[HST.out,HP.out]at this;simp only[Bool.false_eq_true,if_false,Nat.add_zero]at this;exact this),⟨_,rfl⟩⟩
  · have hltz:decide ((j:Int)<(s.size:Int))=false:=decide_eq_false (by omega);have he:=z82 lowB s.data.toList j (by rw[z0n];omega);have HE:=z00.mk he;clear he;go_wp2
    go_ret
    exact⟨zao (by have:=HA.out;rw[HE.out,Nat.add_zero]at this;exact this),⟨_,rfl⟩⟩
set_option maxHeartbeats 1600000 in
set_option maxRecDepth 100000 in
theorem z4s (s:ByteArray) (hs:s.size≤140737488355328) (w:World) :
 Calls Tryz.prog 124 #[.string s,.func (.func 127) #[] #[]] w fun e w'=>e=.returned (.int .i64 (runN signB s.data.toList:Nat))∧z0d w w':=by
 go_enter Tryz.func124,Tryz.ntmps124;go_wp2
 go_loopg [5] s.size (fun gg s5 wr=>∃j m:Nat,j≤s.size∧s.size - j≤gg∧s5=.int .i64 j∧wr=w.drewN m∧z00 (j+runN signB (s.data.toList.drop j)=runN signB s.data.toList))
 case atStart=>exact⟨0,0,Nat.zero_le _,by omega,rfl,(World.drewN_zero w).symm,⟨by simp⟩⟩
 case round =>
  obtain⟨j,m,hj,hg,rfl,rfl,HA⟩:=hrel
  by_cases hlt:j<s.size
  · have hltz:decide ((j:Int)<(s.size:Int))=true:=decide_eq_true (by omega);have hst:=z5y signB s.data.toList j (by rw[z0n];exact hlt);rw[z2k s j hlt]at hst;have HST:=z00.mk hst;have HC:=z00.mk (fun W=>z6z.calls (s[j].toNat:Int) (signB s[j]) W (zd8 s[j]));clear hst
    cases hp:signB s[j]with
    |true =>
     have HP:=z00.mk hp;rw[hp]at HC;clear hp
     go_wp2_with (go_at_call 127;refine(HC.out _).mono ?_;rintro e w' ⟨rfl,⟨nd,rfl⟩⟩)
     go_roundg (s.size - (j+1))
     case measure=>omega
     case rel=>exact⟨j+1,m+nd,by omega,by omega,by go_num,rfl,⟨by have:=HA.out;rw[HST.out,HP.out]at this;simp only[if_true]at this;omega⟩⟩
    |false =>
     have HP:=z00.mk hp;rw[hp]at HC;clear hp
     go_wp2_with (go_at_call 127;refine(HC.out _).mono ?_;rintro e w' ⟨rfl,⟨nd,rfl⟩⟩)
     go_ret
     exact⟨zao (by have:=HA.out;rw[HST.out,HP.out]at this;simp only[Bool.false_eq_true,if_false,Nat.add_zero]at this;exact this),⟨_,rfl⟩⟩
  · have hltz:decide ((j:Int)<(s.size:Int))=false:=decide_eq_false (by omega);have he:=z82 signB s.data.toList j (by rw[z0n];omega);have HE:=z00.mk he;clear he;go_wp2
    go_ret
    exact⟨zao (by have:=HA.out;rw[HE.out,Nat.add_zero]at this;exact this),⟨_,rfl⟩⟩
end Go.Proofs.YthebhbomlllpeaaGreatDoor.X
namespace Go.Proofs.YthebhbomlllpeaaGreatDoor.X
open Go.RowKit Go.Proofs.YthebhbomlllpeaaGreatDoorW.PrintWords Go.Proofs.YthebhbomlllpeaaGreatDoorW.PrintLast Go.Proofs.YthebhbomlllpeaaGreatDoorW.PrintMore
attribute [local go_sem] z4g z4f z50 z4w z3s z3p z48 z4c
def stringslite_HasPrefix.f (a0:ByteArray) (a1:ByteArray):Option (Bool):=if(a0.size:Int)≥(a1.size:Int)then(if 0≤(a1.size:Int)then(if(a1.size:Int)≤(a0.size:Int)then(some ((a0.extract 0 ((a1.size:Int):Int).toNat).toList==a1.toList))else(none))else(none))else(some false)
set_option maxHeartbeats 8000000 in
set_option maxRecDepth 100000 in
theorem stringslite_HasPrefix.calls (a0:ByteArray) (a1:ByteArray) (r:Bool) (w:World) (h:stringslite_HasPrefix.f a0 a1=some r) :
 Calls Tryz.prog 155 #[.string a0,.string a1] w fun e w'=>e=.returned (.bool r)∧z0d w w':=by
 have H:(if(a0.size:Int)≥(a1.size:Int)then(if 0≤(a1.size:Int)then(if(a1.size:Int)≤(a0.size:Int)then(some ((a0.extract 0 ((a1.size:Int):Int).toNat).toList==a1.toList))else(none))else(none))else(some false))=some r:=h;clear h
 by_cases c3:(a0.size:Int)≥(a1.size:Int)
 · rw[if_pos c3]at H;have c3b0:decide ((a1.size:Int)≤(a0.size:Int))=true:=decide_eq_true c3;have c3b1:decide (a1.size≤a0.size)=true:=decide_eq_true (Int.ofNat_le.mp c3);clear c3
   by_cases c4:0≤(a1.size:Int)
   · rw[if_pos c4]at H;have c4b0:=eq_true c4;have c4b1:decide (0≤(a1.size:Int))=true:=decide_eq_true c4;clear c4
     by_cases c5:(a1.size:Int)≤(a0.size:Int)
     · rw[if_pos c5]at H;have c5b0:=eq_true c5;have c5b1:decide ((a1.size:Int)≤(a0.size:Int))=true:=decide_eq_true c5;clear c5;obtain rfl:=Option.some.inj H;go_enter Tryz.func155,Tryz.ntmps155;go_wp2
       go_ret
       exact⟨by first|rfl|(simp;done)|(simp[*];done),by repeat(first|exact z0d.refl _|apply z0d.step)⟩
     · rw[if_neg c5]at H;exact absurd H (by simp)
   · rw[if_neg c4]at H;exact absurd H (by simp)
 · rw[if_neg c3]at H;have c3b0:decide ((a1.size:Int)≤(a0.size:Int))=false:=decide_eq_false c3;have c3b1:decide (a1.size≤a0.size)=false:=decide_eq_false (fun h=>c3 (Int.ofNat_le.mpr h));clear c3;obtain rfl:=Option.some.inj H;go_enter Tryz.func155,Tryz.ntmps155;go_wp2
   go_ret
   exact⟨by first|rfl|(simp;done)|(simp[*];done),by repeat(first|exact z0d.refl _|apply z0d.step)⟩
def z0e.f (a0:ByteArray) (a1:ByteArray):Option (Bool):=(stringslite_HasPrefix.f a0 a1).bind fun t121=>(some t121)
set_option maxHeartbeats 8000000 in
set_option maxRecDepth 100000 in
theorem z0e.calls (a0:ByteArray) (a1:ByteArray) (r:Bool) (w:World) (h:z0e.f a0 a1=some r) :
 Calls Tryz.prog 130 #[.string a0,.string a1] w fun e w'=>e=.returned (.bool r)∧z0d w w':=by
 have H:((stringslite_HasPrefix.f a0 a1).bind fun t121=>(some t121))=some r:=h;clear h;replace H:=Option.bind_eq_some_iff.mp H;obtain⟨t121,A30,H⟩:=H;replace H:(some t121)=some r:=H;have A3:=z00.mk A30;clear A30;obtain rfl:=Option.some.inj H;go_enter Tryz.func130,Tryz.ntmps130
 go_wp2_with (first|((with_reducible refine z0t (f:=155) rfl ?_);refine z27 (some 7) rfl rfl Tryz.func155 (by kernel_rfl) rfl #[.string a0,.string a1] rfl zA02 ?_;(with_reducible refine(stringslite_HasPrefix.calls a0 a1 t121 _ A3.out).mono ?_);rintro e w' ⟨rfl,⟨nd,rfl⟩⟩;refine⟨_,rfl,?_⟩))
 go_ret
 exact⟨by first|rfl|(simp;done)|(simp[*];done),by repeat(first|exact z0d.refl _|apply z0d.step)⟩
end Go.Proofs.YthebhbomlllpeaaGreatDoor.X
