/-
  ShowParts: what the proof needs, put together by a program of this session (shake.py), part 4.
-/
import Derived.Test.YthebhbomlllpeaaGreatDoorZShowParts3
set_option linter.unusedVariables false
set_option linter.unusedSimpArgs false
namespace Go.Proofs.YthebhbomlllpeaaGreatDoor.X
open Go.RowKit Go.Proofs.YthebhbomlllpeaaGreatDoorW.PrintWords Go.Proofs.YthebhbomlllpeaaGreatDoorW.PrintLast Go.Proofs.YthebhbomlllpeaaGreatDoorW.PrintMore
theorem zfd (w:World) (o0 o1 o2:Obj):(((w.alloc o0).alloc o1).alloc o2).heap[w.heap.size]?=some o0∧(((w.alloc o0).alloc o1).alloc o2).heap[w.heap.size+1]?=some o1∧(((w.alloc o0).alloc o1).alloc o2).heap[w.heap.size+2]?=some o2:=by
 have z1:(w.alloc o0).heap.size=w.heap.size+1:=by simp
 have z2:((w.alloc o0).alloc o1).heap.size=w.heap.size+2:=by simp
 refine⟨z0c (z0c (z0q w o0) _) _,?_,?_⟩
 · have:=z0q (w.alloc o0) o1;rw[z1]at this;exact z0c this _
 · have:=z0q ((w.alloc o0).alloc o1) o2
   rwa [z2]at this
set_option maxHeartbeats 4000000 in
set_option maxRecDepth 100000 in
theorem zh5 (w0 w:World) (g:Nat) (ts:List S108) (p:Nat) (en:Int) (s:ByteArray) (kd:Int) (one:Prs (List StS)) (c1 c2:Nat) (hloc:Loc 1 one) (hsz:Sz one) (hI:Rd w0 w g ts p en) (hB:Below w0.heap.size w0 w)
 (hone:∀(W:World) (q:Nat),z0k w W g none→Rd w0 W g ts q en→Below w0.heap.size w0 W→Calls Tryz.prog 133 #[.pointer (some ⟨c1,0,none⟩),.pointer (some ⟨c2,0,none⟩)] W fun e w'=>Post w0 W g ts en (one (leftL ts q)) (fun v w' x=>stV w' W.heap.size v x) e w') :
 Calls Tryz.prog 135 #[.pointer (some ⟨g,0,none⟩),.string s,.int .i64 kd,.func (.func 133) #[] #[.pointer (some ⟨c1,0,none⟩),.pointer (some ⟨c2,0,none⟩)]] w fun e w'=>Post w0 w g ts en (rowP s.data.toList kd one (leftL ts p)) (fun v w' x=>stV w' w.heap.size v x) e w':=by
 have hgw:=z00.mk hI.lt;have h0w:=z00.mk hB.size;have hnt:=z00.mk (show ts.length≤20000 by obtain⟨A,c,hb,hg,hr,h1,h2⟩:=hI;exact h2);have HO:=hone w p (z0k.refl w g none) hI hB;obtain⟨r,hr⟩:∃r,rowP s.data.toList kd one (leftL ts p)=r:=⟨_,rfl⟩
 rw[hr];have HA:=z00.mk (show r=bnd (one (leftL ts p)) fun x r=>rowL s.data.toList kd one r.length x r by rw[←hr];rfl);obtain⟨rq,hrq⟩:∃rq,one (leftL ts p)=rq:=⟨_,rfl⟩
 rw[hrq]at HO HA;have HRQ:=z00.mk hrq;have HONE:=z00.mk hone;have HO:=z00.mk HO;clear hr hrq hone hI hB;go_enter Tryz.func135,Tryz.ntmps135
 go_wp2_with fail
 refine HO.out.mono ?_;intro e w1 hp;rcases hp.split with ⟨y,p1,v,rfl,rfl,hv,R,B,K⟩|⟨q,i,p1,rfl,h1,h2,rfl,R,B,K⟩
 case inr=>exact⟨rfl,Post.as HA.out (Post.thrown_ h1 h2 R B K)⟩
 have HQ:=z00.mk (show r=rowL s.data.toList kd one (leftL ts p1).length y (leftL ts p1)from HA.out);rw[z0s]at HQ;have hlen0:y.length+(ts.length - p1)≤20000:=by
  have e1:=hsz _ _ _ HRQ.out;have e3:=hnt.out;rw[z0s,z0s]at e1;omega
 have HM:=z00.mk (show PM w0 w w1 g ts en p1 y v from⟨R,B,K,hv,h0w.out,hgw.out⟩);clear R B K hp hv HO HA HRQ;go_wp2
 go_loopg [9] (ts.length+1 - p1) (fun kq v9 w'=>∃(acc:List StS) (p' n:Nat) (u:Value),v9=u∧kq=ts.length+1 - p'∧ts.length - p'≤n∧acc.length+(ts.length - p')≤20000∧z00 (r=rowL s.data.toList kd one n acc (leftL ts p'))∧z00 (PM w0 w w' g ts en p' acc u))
 case atStart=>exact⟨y,p1,_,_,rfl,rfl,Nat.le_refl _,hlen0,HQ,HM⟩
 case round =>
  clear HQ HM hlen0;obtain⟨acc,p',n,u,rfl,rfl,hn,hlen0,HQ,HM⟩:=hrel;have HLEN:=z00.mk (And.intro hn hlen0);clear hn hlen0;have HPL:=z00.mk HM.out.R.le;obtain⟨A,c,rfl⟩:=Kd.R_slice HM.out.own;have HS:=z00.mk (z1e w0 wr g ts p' en s HM.out.R HM.out.B);rw[z1g]at HS
  cases hm:mk0 (leftL ts p') s.data.toList with
  |false =>
   rw[hm]at HS;replace HQ:=z00.mk (show r=.ok (acc,leftL ts p') by
    rw[HQ.out]
    cases n with
    |zero=>rfl
    |succ n=>simp only[rowL];rw[if_neg (by rw[hm];simp)])
   go_wp2_with fail
   refine HS.out.mono ?_;rintro e w2 ⟨rfl,R,B,K⟩;simp only[Bool.false_eq_true,if_false]at R;replace HM:=z00.mk (HM.out.call R B K);clear R B K HS;go_wp2
   go_ret
   exact⟨HM.out.B,HM.out.K,p',HM.out.R,by rw[HQ.out];exact⟨rfl,_,rfl,HM.out.own⟩⟩
  |true =>
   rw[hm]at HS;have hlt:=z65 hm;obtain⟨n,rfl⟩:∃m,n=m+1:=⟨n - 1,by have:=HLEN.out.1;omega⟩
   replace HQ:=z00.mk (show r=bnd (one (leftL ts (p'+1))) fun x r=>rowL s.data.toList kd one n (acc++x++[stepS kd]) r by
    rw[HQ.out];simp only[rowL];rw[if_pos hm,z0p])
   go_wp2_with fail
   refine HS.out.mono ?_;rintro e w2 ⟨rfl,R,B,K⟩;simp only[if_true]at R;replace HM:=z00.mk (HM.out.call R B K);clear R B K HS;have HO:=HONE.out w2 (p'+1) HM.out.K HM.out.R HM.out.B;obtain⟨rq,hrq⟩:∃rq,one (leftL ts (p'+1))=rq:=⟨_,rfl⟩
   rw[hrq]at HO HQ;have HRQ:=z00.mk hrq;have HO:=z00.mk HO;clear hrq
   go_wp2_with fail
   refine HO.out.mono ?_;intro e w3 hp;rcases hp.split with ⟨y,p2,v,rfl,rfl,hv,R,B,K⟩|⟨q,i,p2,rfl,h1,h2,rfl,R,B,K⟩
   case inr=>exact⟨rfl,Post.as HQ.out (Post.thrown_ h1 h2 R B (HM.out.K.trans K (.inl rfl)))⟩
   replace HQ:=z00.mk (show r=rowL s.data.toList kd one n (acc++y++[stepS kd]) (leftL ts p2)from HQ.out);have hf1:p'+1<p2:=by
    obtain⟨u,e1,e2,_⟩:=hloc _ _ _ HRQ.out;have e3:=congrArg List.length e1;have e4:=R.le;rw[List.length_append,z0s,z0s]at e3;omega
   have hf2:acc.length+y.length+1+(ts.length - p2)≤20000:=by
    have e1:=hsz _ _ _ HRQ.out;have e3:=HLEN.out.2;rw[z0s,z0s]at e1;omega
   have hf3:ts.length - p2≤n:=by have:=HLEN.out.1;omega
   have HFA:=z00.mk (And.intro hf1 (And.intro hf2 hf3));have hw2:w2.heap.size≤w3.heap.size:=K.1;have HV:=z00.mk (Kd.R_bound hv);have HW2:=z00.mk (HM.out.K.1);have HLT:=z00.mk (Kd.R_lt HM.out.own);replace HM:=z00.mk (HM.out.call R B K);obtain⟨A2,c2',rfl⟩:=Kd.R_slice hv;clear R B K hp hv HO HRQ hf1 hf2 hf3 hlt hm HLEN HPL;have hl1:acc.length+y.length≤20000:=by have:=HFA.out.2.1;omega
   go_wp2_with ((with_reducible refine z1p (b:=.append) (xs:=#[.tmp 15,.tmp 17]) rfl ?_);at_builtin;refine Kd.R_append_rows k69 (w0:=w3) w.heap.size rfl (.tmp 15) (.tmp 17) 37 69 (.agg #[(.int .i64 0),(.string ⟨#[]⟩)]) 24 rfl Tryz.underlying37 z4d rfl (by decide) (by decide) (.slice A acc.length c) acc y A2 y.length c2' (fun k=>w.heap.size≤k) (fun _=>False) rfl rfl HM.out.own (Kd.R_reads' HV.out).2.2 (fun x cs hx=>by rw[zby hx];exact z3r _ _ _ x) (fun _ hk=>hk.elim) (fun k hk=>Nat.le_trans HM.out.K.1 hk) (Below.refl _ _) HM.out.K.1 (by have:=hl1;omega) ?_;intro v1 w4 ho hb hg hat;have HM3:=z00.mk (HM.out.more ho hb hg);clear ho hb hg hat)
   have HM:=HM3;clear HM3;obtain⟨A3,c3,e3⟩:=Kd.R_slice HM.out.own;rw[List.length_append]at e3;subst e3;have HG:=z00.mk (fun W=>z2t kd W);refine(HG.out _).mono ?_;rintro e ws ⟨rfl,d⟩;replace HM:=z00.mk (HM.out.below d);clear d;have hl2:(acc++y).length≤20000:=by rw[List.length_append];exact hl1
   go_wp2_with ((with_reducible refine z1p (b:=.append) (xs:=#[.tmp 18,.tmp 21]) rfl ?_);at_builtin;refine Kd.R_append k69 (w0:=ws) w.heap.size rfl (.tmp 18) (.tmp 21) 37 69 (.agg #[(.int .i64 0),(.string ⟨#[]⟩)]) 24 rfl Tryz.underlying37 z4d rfl (by decide) (by decide) (.slice A3 (acc.length+y.length) c3) (acc++y) (stepS kd) [.int .i64 kd,.string ⟨#[]⟩] (fun k=>w.heap.size≤k) (fun _=>False) rfl zA0i (z3r _ _ _ (stepS kd)) (fun _ hk=>hk.elim) (fun k hk=>Nat.le_trans HM.out.K.1 hk) HM.out.own (Below.refl _ _) HM.out.K.1 (by have:=hl2;omega) ?_;intro v2 w5 ho hb hg hat;have HM4:=z00.mk (HM.out.more ho hb hg);clear ho hb hg hat)
   go_roundg (ts.length+1 - p2)
   case rel=>exact⟨acc++y++[stepS kd],p2,n,v2,rfl,rfl,HFA.out.2.2,by rw[List.length_append,List.length_append,List.length_singleton];exact HFA.out.2.1,HQ,HM4⟩
   case measure=>have:=HFA.out.1;have:=HM4.out.R.le;omega
set_option maxHeartbeats 4000000 in
set_option maxRecDepth 100000 in
theorem zhx (w0 w:World) (g:Nat) (ts:List S108) (p:Nat) (en:Int) (s:ByteArray) (kd:Int) (one:Prs (List StS)) (c1 c2:Nat) (hloc:Loc 1 one) (hsz:Sz one) (hI:Rd w0 w g ts p en) (hB:Below w0.heap.size w0 w)
 (hone:∀(W:World) (q:Nat),z0k w W g none→Rd w0 W g ts q en→Below w0.heap.size w0 W→Calls Tryz.prog 136 #[.pointer (some ⟨c1,0,none⟩),.pointer (some ⟨c2,0,none⟩)] W fun e w'=>Post w0 W g ts en (one (leftL ts q)) (fun v w' x=>stV w' W.heap.size v x) e w') :
 Calls Tryz.prog 135 #[.pointer (some ⟨g,0,none⟩),.string s,.int .i64 kd,.func (.func 136) #[] #[.pointer (some ⟨c1,0,none⟩),.pointer (some ⟨c2,0,none⟩)]] w fun e w'=>Post w0 w g ts en (rowP s.data.toList kd one (leftL ts p)) (fun v w' x=>stV w' w.heap.size v x) e w':=by
 have hgw:=z00.mk hI.lt;have h0w:=z00.mk hB.size;have hnt:=z00.mk (show ts.length≤20000 by obtain⟨A,c,hb,hg,hr,h1,h2⟩:=hI;exact h2);have HO:=hone w p (z0k.refl w g none) hI hB;obtain⟨r,hr⟩:∃r,rowP s.data.toList kd one (leftL ts p)=r:=⟨_,rfl⟩
 rw[hr];have HA:=z00.mk (show r=bnd (one (leftL ts p)) fun x r=>rowL s.data.toList kd one r.length x r by rw[←hr];rfl);obtain⟨rq,hrq⟩:∃rq,one (leftL ts p)=rq:=⟨_,rfl⟩
 rw[hrq]at HO HA;have HRQ:=z00.mk hrq;have HONE:=z00.mk hone;have HO:=z00.mk HO;clear hr hrq hone hI hB;go_enter Tryz.func135,Tryz.ntmps135
 go_wp2_with fail
 refine HO.out.mono ?_;intro e w1 hp;rcases hp.split with ⟨y,p1,v,rfl,rfl,hv,R,B,K⟩|⟨q,i,p1,rfl,h1,h2,rfl,R,B,K⟩
 case inr=>exact⟨rfl,Post.as HA.out (Post.thrown_ h1 h2 R B K)⟩
 have HQ:=z00.mk (show r=rowL s.data.toList kd one (leftL ts p1).length y (leftL ts p1)from HA.out);rw[z0s]at HQ;have hlen0:y.length+(ts.length - p1)≤20000:=by
  have e1:=hsz _ _ _ HRQ.out;have e3:=hnt.out;rw[z0s,z0s]at e1;omega
 have HM:=z00.mk (show PM w0 w w1 g ts en p1 y v from⟨R,B,K,hv,h0w.out,hgw.out⟩);clear R B K hp hv HO HA HRQ;go_wp2
 go_loopg [9] (ts.length+1 - p1) (fun kq v9 w'=>∃(acc:List StS) (p' n:Nat) (u:Value),v9=u∧kq=ts.length+1 - p'∧ts.length - p'≤n∧acc.length+(ts.length - p')≤20000∧z00 (r=rowL s.data.toList kd one n acc (leftL ts p'))∧z00 (PM w0 w w' g ts en p' acc u))
 case atStart=>exact⟨y,p1,_,_,rfl,rfl,Nat.le_refl _,hlen0,HQ,HM⟩
 case round =>
  clear HQ HM hlen0;obtain⟨acc,p',n,u,rfl,rfl,hn,hlen0,HQ,HM⟩:=hrel;have HLEN:=z00.mk (And.intro hn hlen0);clear hn hlen0;have HPL:=z00.mk HM.out.R.le;obtain⟨A,c,rfl⟩:=Kd.R_slice HM.out.own;have HS:=z00.mk (z1e w0 wr g ts p' en s HM.out.R HM.out.B);rw[z1g]at HS
  cases hm:mk0 (leftL ts p') s.data.toList with
  |false =>
   rw[hm]at HS;replace HQ:=z00.mk (show r=.ok (acc,leftL ts p') by
    rw[HQ.out]
    cases n with
    |zero=>rfl
    |succ n=>simp only[rowL];rw[if_neg (by rw[hm];simp)])
   go_wp2_with fail
   refine HS.out.mono ?_;rintro e w2 ⟨rfl,R,B,K⟩;simp only[Bool.false_eq_true,if_false]at R;replace HM:=z00.mk (HM.out.call R B K);clear R B K HS;go_wp2
   go_ret
   exact⟨HM.out.B,HM.out.K,p',HM.out.R,by rw[HQ.out];exact⟨rfl,_,rfl,HM.out.own⟩⟩
  |true =>
   rw[hm]at HS;have hlt:=z65 hm;obtain⟨n,rfl⟩:∃m,n=m+1:=⟨n - 1,by have:=HLEN.out.1;omega⟩
   replace HQ:=z00.mk (show r=bnd (one (leftL ts (p'+1))) fun x r=>rowL s.data.toList kd one n (acc++x++[stepS kd]) r by
    rw[HQ.out];simp only[rowL];rw[if_pos hm,z0p])
   go_wp2_with fail
   refine HS.out.mono ?_;rintro e w2 ⟨rfl,R,B,K⟩;simp only[if_true]at R;replace HM:=z00.mk (HM.out.call R B K);clear R B K HS;have HO:=HONE.out w2 (p'+1) HM.out.K HM.out.R HM.out.B;obtain⟨rq,hrq⟩:∃rq,one (leftL ts (p'+1))=rq:=⟨_,rfl⟩
   rw[hrq]at HO HQ;have HRQ:=z00.mk hrq;have HO:=z00.mk HO;clear hrq
   go_wp2_with fail
   refine HO.out.mono ?_;intro e w3 hp;rcases hp.split with ⟨y,p2,v,rfl,rfl,hv,R,B,K⟩|⟨q,i,p2,rfl,h1,h2,rfl,R,B,K⟩
   case inr=>exact⟨rfl,Post.as HQ.out (Post.thrown_ h1 h2 R B (HM.out.K.trans K (.inl rfl)))⟩
   replace HQ:=z00.mk (show r=rowL s.data.toList kd one n (acc++y++[stepS kd]) (leftL ts p2)from HQ.out);have hf1:p'+1<p2:=by
    obtain⟨u,e1,e2,_⟩:=hloc _ _ _ HRQ.out;have e3:=congrArg List.length e1;have e4:=R.le;rw[List.length_append,z0s,z0s]at e3;omega
   have hf2:acc.length+y.length+1+(ts.length - p2)≤20000:=by
    have e1:=hsz _ _ _ HRQ.out;have e3:=HLEN.out.2;rw[z0s,z0s]at e1;omega
   have hf3:ts.length - p2≤n:=by have:=HLEN.out.1;omega
   have HFA:=z00.mk (And.intro hf1 (And.intro hf2 hf3));have hw2:w2.heap.size≤w3.heap.size:=K.1;have HV:=z00.mk (Kd.R_bound hv);have HW2:=z00.mk (HM.out.K.1);have HLT:=z00.mk (Kd.R_lt HM.out.own);replace HM:=z00.mk (HM.out.call R B K);obtain⟨A2,c2',rfl⟩:=Kd.R_slice hv;clear R B K hp hv HO HRQ hf1 hf2 hf3 hlt hm HLEN HPL;have hl1:acc.length+y.length≤20000:=by have:=HFA.out.2.1;omega
   go_wp2_with ((with_reducible refine z1p (b:=.append) (xs:=#[.tmp 15,.tmp 17]) rfl ?_);at_builtin;refine Kd.R_append_rows k69 (w0:=w3) w.heap.size rfl (.tmp 15) (.tmp 17) 37 69 (.agg #[(.int .i64 0),(.string ⟨#[]⟩)]) 24 rfl Tryz.underlying37 z4d rfl (by decide) (by decide) (.slice A acc.length c) acc y A2 y.length c2' (fun k=>w.heap.size≤k) (fun _=>False) rfl rfl HM.out.own (Kd.R_reads' HV.out).2.2 (fun x cs hx=>by rw[zby hx];exact z3r _ _ _ x) (fun _ hk=>hk.elim) (fun k hk=>Nat.le_trans HM.out.K.1 hk) (Below.refl _ _) HM.out.K.1 (by have:=hl1;omega) ?_;intro v1 w4 ho hb hg hat;have HM3:=z00.mk (HM.out.more ho hb hg);clear ho hb hg hat)
   have HM:=HM3;clear HM3;obtain⟨A3,c3,e3⟩:=Kd.R_slice HM.out.own;rw[List.length_append]at e3;subst e3;have HG:=z00.mk (fun W=>z2t kd W);refine(HG.out _).mono ?_;rintro e ws ⟨rfl,d⟩;replace HM:=z00.mk (HM.out.below d);clear d;have hl2:(acc++y).length≤20000:=by rw[List.length_append];exact hl1
   go_wp2_with ((with_reducible refine z1p (b:=.append) (xs:=#[.tmp 18,.tmp 21]) rfl ?_);at_builtin;refine Kd.R_append k69 (w0:=ws) w.heap.size rfl (.tmp 18) (.tmp 21) 37 69 (.agg #[(.int .i64 0),(.string ⟨#[]⟩)]) 24 rfl Tryz.underlying37 z4d rfl (by decide) (by decide) (.slice A3 (acc.length+y.length) c3) (acc++y) (stepS kd) [.int .i64 kd,.string ⟨#[]⟩] (fun k=>w.heap.size≤k) (fun _=>False) rfl zA0i (z3r _ _ _ (stepS kd)) (fun _ hk=>hk.elim) (fun k hk=>Nat.le_trans HM.out.K.1 hk) HM.out.own (Below.refl _ _) HM.out.K.1 (by have:=hl2;omega) ?_;intro v2 w5 ho hb hg hat;have HM4:=z00.mk (HM.out.more ho hb hg);clear ho hb hg hat)
   go_roundg (ts.length+1 - p2)
   case rel=>exact⟨acc++y++[stepS kd],p2,n,v2,rfl,rfl,HFA.out.2.2,by rw[List.length_append,List.length_append,List.length_singleton];exact HFA.out.2.1,HQ,HM4⟩
   case measure=>have:=HFA.out.1;have:=HM4.out.R.le;omega
set_option maxRecDepth 100000 in
theorem zer (w0 w:World) (g:Nat) (ts:List S108) (p:Nat) (en:Int) (d:Nat) (hd:d≤32) (c1 c2:Nat) (h1:w.heap[c1]?=some (.cells #[.pointer (some ⟨g,0,none⟩)] 92 (0,0))) (h2:w.heap[c2]?=some (.cells #[.int .i64 (32 - (d:Int))] 3 (0,0))) (hI:Rd w0 w g ts p en) (hB:Below w0.heap.size w0 w) (hin:∀d',d=d'+1→PathC w0 g ts en d') :
 Calls Tryz.prog 133 #[.pointer (some ⟨c1,0,none⟩),.pointer (some ⟨c2,0,none⟩)] w fun e w'=>Post w0 w g ts en (partP d (leftL ts p)) (fun v w' x=>stV w' w.heap.size v x) e w':=by
 have HP:=zi1 w0 w g ts p en d hd hI hB hin;have hc1:w.cell? ⟨c1,0,none⟩=some (.pointer (some ⟨g,0,none⟩)):=(z01 h1 0).trans rfl;have hc2:w.cell? ⟨c2,0,none⟩=some (.int .i64 (32 - (d:Int))):=(z01 h2 0).trans rfl;obtain⟨op,hop⟩:∃op,(32:Int) - (d:Int)=op:=⟨_,rfl⟩
 rw[hop]at hc2 HP;obtain⟨r,hr⟩:∃r,partP d (leftL ts p)=r:=⟨_,rfl⟩
 rw[hr]at HP ⊢;have HP:=z00.mk HP;clear hI hB hin h1 h2 hop hr;go_enter Tryz.func133,Tryz.ntmps133
 go_wp2_with fail
 refine HP.out.mono ?_;intro e w2 hp;rcases hp.split with ⟨y,p',v,rfl,rfl,hv,R,B,K⟩|⟨q,i,p',rfl,h1,h2,rfl,R,B,K⟩
 · have HV:=z00.mk hv;have HR:=z00.mk (And.intro R (And.intro B K));clear hv R B K hp;go_wp2
   go_ret
   exact⟨HR.out.2.1,HR.out.2.2,p',HR.out.1,rfl,_,rfl,HV.out⟩
 · exact⟨rfl,Post.thrown_ h1 h2 R B K⟩
set_option maxRecDepth 100000 in
theorem zfo (w0 w:World) (g:Nat) (ts:List S108) (p:Nat) (en:Int) (d:Nat) (hd:d≤32) (c1 c2 c5:Nat) (h1:w.heap[c1]?=some (.cells #[.pointer (some ⟨g,0,none⟩)] 92 (0,0))) (h2:w.heap[c2]?=some (.cells #[.int .i64 (32 - (d:Int))] 3 (0,0)))
 (h5:w.heap[c5]?=some (.cells #[.func (.func 133) #[] #[.pointer (some ⟨c1,0,none⟩),.pointer (some ⟨c2,0,none⟩)]] 113 (0,0))) (n1:c1≠g) (n2:c2≠g) (hI:Rd w0 w g ts p en) (hB:Below w0.heap.size w0 w) (hin:∀d',d=d'+1→PathC w0 g ts en d') :
 Calls Tryz.prog 136 #[.pointer (some ⟨c1,0,none⟩),.pointer (some ⟨c5,0,none⟩)] w fun e w'=>Post w0 w g ts en (rowP [47] 3 (partP d) (leftL ts p)) (fun v w' x=>stV w' w.heap.size v x) e w':=by
 have HP:Calls Tryz.prog 135 #[.pointer (some ⟨g,0,none⟩),.string ⟨#[47]⟩,.int .i64 3,.func (.func 133) #[] #[.pointer (some ⟨c1,0,none⟩),.pointer (some ⟨c2,0,none⟩)]] w fun e w'=>Post w0 w g ts en (rowP [47] 3 (partP d) (leftL ts p)) (fun v w' x=>stV w' w.heap.size v x) e w' :=
  zh5 w0 w g ts p en ⟨#[47]⟩ 3 (partP d) c1 c2 (z8n d) (zca d) hI hB (fun W q hk hr hb=>zer w0 W g ts q en d hd c1 c2 (hk.blk h1 n1 (by simp)) (hk.blk h2 n2 (by simp)) hr hb hin)
 have hc1:w.cell? ⟨c1,0,none⟩=some (.pointer (some ⟨g,0,none⟩)):=(z01 h1 0).trans rfl;have hc5:w.cell? ⟨c5,0,none⟩=some (.func (.func 133) #[] #[.pointer (some ⟨c1,0,none⟩),.pointer (some ⟨c2,0,none⟩)]):=(z01 h5 0).trans rfl;obtain⟨r,hr⟩:∃r,rowP [47] 3 (partP d) (leftL ts p)=r:=⟨_,rfl⟩
 rw[hr]at HP ⊢;have HP:=z00.mk HP;clear hI hB hin h1 h2 h5 hr;go_enter Tryz.func136,Tryz.ntmps136
 go_wp2_with fail
 refine HP.out.mono ?_;intro e w2 hp;rcases hp.split with ⟨y,p',v,rfl,rfl,hv,R,B,K⟩|⟨q,i,p',rfl,h1,h2,rfl,R,B,K⟩
 · have HV:=z00.mk hv;have HR:=z00.mk (And.intro R (And.intro B K));clear hv R B K hp;go_wp2
   go_ret
   exact⟨HR.out.2.1,HR.out.2.2,p',HR.out.1,rfl,_,rfl,HV.out⟩
 · exact⟨rfl,Post.thrown_ h1 h2 R B K⟩
set_option maxRecDepth 100000 in
theorem zea (w0:World) (g:Nat) (ts:List S108) (en:Int) (d:Nat) (hd:d≤32) (hin:∀d',d=d'+1→PathC w0 g ts en d'):PathC w0 g ts en d:=by
 intro w p hI hB;have hmf:∀(fn:Fn) (first cap:Array Value) (w:World),(Instr.makeFunc fn first cap).run Tryz.prog w=.ok (.func fn first cap) w:=fun _ _ _ _=>rfl
 have hst:∀(a:Addr) (fn:Fn) (first cap:Array Value) (m:Mode) (w:World),(store a (.func fn first cap) m).run Tryz.prog w=stored Tryz.prog w a (.func fn first cap) m:=fun _ _ _ _ _ _=>run_store _ _ _ _ _ rfl
 obtain⟨op,hop⟩:∃op,(32:Int) - (d:Int)=op:=⟨_,rfl⟩
 obtain⟨c1,ec1⟩:∃n,w.heap.size=n:=⟨_,rfl⟩
 have hg:=hI.lt;have h0:=hB.size;have hz1:(w.alloc (.cells #[.pointer (some ⟨g,0,none⟩)] 92)).heap.size=c1+1:=by simp[ec1]
 have hz2:((w.alloc (.cells #[.pointer (some ⟨g,0,none⟩)] 92)).alloc (.cells #[.int .i64 op] 3)).heap.size=c1+2:=by simp[ec1]
 have hb0:=zfd w (.cells #[.pointer (some ⟨g,0,none⟩)] 92) (.cells #[.int .i64 op] 3) (.cells #[.nilFunc] 113);rw[ec1]at hb0;have hc5:(((w.alloc (.cells #[.pointer (some ⟨g,0,none⟩)] 92)).alloc (.cells #[.int .i64 op] 3)).alloc (.cells #[.nilFunc] 113)).cell? ⟨c1+2,0,none⟩=some .nilFunc:=(z01 hb0.2.2 0).trans rfl;have hf5:=z02 hb0.2.2 0;have hb:=zfd w (.cells #[.pointer (some ⟨g,0,none⟩)] 92) (.cells #[.int .i64 op] 3) (.cells #[.func (.func 133) #[] #[.pointer (some ⟨c1,0,none⟩),.pointer (some ⟨c1+1,0,none⟩)]] 113);rw[ec1]at hb;obtain⟨W,hW⟩:∃W,((w.alloc (.cells #[.pointer (some ⟨g,0,none⟩)] 92)).alloc (.cells #[.int .i64 op] 3)).alloc (.cells #[.func (.func 133) #[] #[.pointer (some ⟨c1,0,none⟩),.pointer (some ⟨c1+1,0,none⟩)]] 113)=W:=⟨_,rfl⟩
 have hIW:Rd w0 W g ts p en:=hW ▸ ((hI.alloc _).alloc _).alloc _;have hBW:Below w0.heap.size w0 W:=hW ▸ z03 (z03 (z03 hB _) _) _;have hKW:z0k w W g none:=hW ▸ z1k (z1k (z1k (z0k.refl w g none) _) _) _;rw[hW]at hb;rw[←hop]at hb;have HP:Calls Tryz.prog 135 #[.pointer (some ⟨g,0,none⟩),.string ⟨#[124]⟩,.int .i64 4,.func (.func 136) #[] #[.pointer (some ⟨c1,0,none⟩),.pointer (some ⟨c1+2,0,none⟩)]] W fun e w'=>Post w0 W g ts en (pathP d (leftL ts p)) (fun v w' x=>stV w' W.heap.size v x) e w' :=
  zhx w0 W g ts p en ⟨#[124]⟩ 4 (rowP [47] 3 (partP d)) c1 (c1+2) (zcv (z8n d)) (zib (zca d)) hIW hBW (fun V q hk hr hb'=>zfo w0 V g ts q en d hd c1 (c1+1) (c1+2) (hk.blk hb.1 (by omega) (by simp)) (hk.blk hb.2.1 (by omega) (by simp)) (hk.blk hb.2.2 (by omega) (by simp)) (by omega) (by omega) hr hb' hin)
 obtain⟨r,hr⟩:∃r,pathP d (leftL ts p)=r:=⟨_,rfl⟩
 rw[hr]at HP ⊢;have HP:=z00.mk HP;have HKW:=z00.mk hKW;have hcW:W.cell? ⟨c1,0,none⟩=some (.pointer (some ⟨g,0,none⟩)):=(z01 hb.1 0).trans rfl;rw[hop];have HW:=z00.mk hW;clear hI hB hin hb hb0 hIW hBW hKW hr hop hW;go_enter Tryz.func104,Tryz.ntmps104
 go_wp2_with fail
 rw[HW.out];refine HP.out.mono ?_;intro e w2 hp;rcases hp.split with ⟨y,p',v,rfl,rfl,hv,R,B,K⟩|⟨q,i,p',rfl,h1,h2,rfl,R,B,K⟩
 · have HV:=z00.mk (show stV w2 w.heap.size v y from Kd.R_mono (Kd.R_lower hv HKW.out.1) (fun k hk=>Nat.le_trans HKW.out.1 hk));have HR:=z00.mk (And.intro R (And.intro B (HKW.out.trans K (.inl rfl))));clear hv R B K hp;go_wp2
   go_ret
   exact⟨HR.out.2.1,HR.out.2.2,p',HR.out.1,rfl,_,rfl,HV.out⟩
 · exact⟨rfl,Post.thrown_ h1 h2 R B (HKW.out.trans K (.inl rfl))⟩
theorem zbk (w0:World) (g:Nat) (ts:List S108) (en:Int):∀d,d≤32→PathC w0 g ts en d
 |0,hd=>zea w0 g ts en 0 hd (fun d' h=>by omega)
 |d+1,hd=>zea w0 g ts en (d+1) hd (fun d' h=>by
  obtain rfl:d=d':=by omega
  exact zbk w0 g ts en d (by omega))

set_option maxRecDepth 100000 in
theorem zfp (w0 w:World) (g:Nat) (ts:List S108) (p:Nat) (en:Int) (hI:Rd w0 w g ts p en) (hB:Below w0.heap.size w0 w) :
 Calls Tryz.prog 66 #[.pointer (some ⟨g,0,none⟩)] w fun e w'=>Post w0 w g ts en (zg0 (leftL ts p)) (fun v w' x=>stV w' w.heap.size v x) e w':=by
 have hple:=z00.mk hI.le;have HS:=z00.mk (z29 w0 w g ts p en 0 (by omega) hI hB);rw[Nat.add_zero]at HS;obtain⟨r,hr⟩:∃r,zg0 (leftL ts p)=r:=⟨_,rfl⟩
 rw[hr];obtain⟨rq,hrq⟩:∃rq,pathP 32 (leftL ts p)=rq:=⟨_,rfl⟩
 have HA:=z00.mk (show r=bnd rq fun x r=>if 100<x.length then .error ((leftL ts p).length,4)else .ok (x,r) by rw[←hr,←hrq];rfl);have HRQ:=z00.mk hrq;have hfd:∀w:World,(Instr.field 108 (.agg #[.int .i64 (seeP ts en p).f0,.string (seeP ts en p).f1,.int .i64 (seeP ts en p).f2]) 2).run Tryz.prog w=.ok (.int .i64 (seeP ts en p).f2) w:=fun _=>by kernel_rfl
 obtain⟨x,hx⟩:∃x,seeP ts en p=x:=⟨_,rfl⟩
 rw[hx]at HS hfd;have HX:=z00.mk hx;clear hI hB hr hrq hx;go_enter Tryz.func66,Tryz.ntmps66
 go_wp2_with fail
 refine HS.out.mono ?_;rintro e w1 ⟨rfl,R,B,K⟩;have HP:Calls Tryz.prog 104 #[.pointer (some ⟨g,0,none⟩),.int .i64 0] w1 fun e w'=>Post w0 w1 g ts en (pathP 32 (leftL ts p)) (fun v w' x=>stV w' w1.heap.size v x) e w':=zbk w0 g ts en 32 (Nat.le_refl _) w1 p R B
 rw[HRQ.out]at HP;have HP:=z00.mk HP;have hK:=z00.mk K;clear R B K HS HRQ
 go_wp2_with fail
 refine HP.out.mono ?_;intro e w2 hp;rcases hp.split with ⟨y,p',v,rfl,rfl,hv,R,B,K⟩|⟨q,i,p',rfl,h1,h2,rfl,R,B,K⟩
 case inr=>exact⟨rfl,Post.as HA.out (Post.thrown_ h1 h2 R B (hK.out.trans K (.inl rfl)))⟩
 have hw1:=hK.out.1;have HV:=z00.mk (show stV w2 w.heap.size v y from Kd.R_mono (Kd.R_lower hv hw1) (fun k hk=>Nat.le_trans hw1 hk));have HR:=z00.mk (And.intro R (And.intro B (hK.out.trans K (.inl rfl))));obtain⟨A,c,rfl⟩:=Kd.R_slice hv;clear hv R B K hp HP
 by_cases hl:100<y.length
 · have hlz:decide ((100:Int)<(y.length:Int))=true:=decide_eq_true (by omega);replace HA:=z00.mk (show r=.error ((leftL ts p).length,4) by rw[HA.out];show(if 100<y.length then _ else _)=_;rw[if_pos hl]);go_wp2;refine⟨rfl,Post.as HA.out ⟨HR.out.2.1,HR.out.2.2,p',HR.out.1,p,hple.out,(z0s ts p).symm,?_⟩⟩;rw[HX.out];rfl
 · have hlz:decide ((100:Int)<(y.length:Int))=false:=decide_eq_false (by omega);replace HA:=z00.mk (show r=.ok (y,leftL ts p') by rw[HA.out];show(if 100<y.length then _ else _)=_;rw[if_neg hl]);go_wp2
   go_ret
   exact Post.as HA.out ⟨HR.out.2.1,HR.out.2.2,p',HR.out.1,rfl,_,rfl,HV.out⟩
set_option maxRecDepth 100000 in
theorem z3u (w0 w:World) (g:Nat) (ts:List S108) (p:Nat) (en:Int) (hI:Rd w0 w g ts p en) (hB:Below w0.heap.size w0 w) :
 Calls Tryz.prog 148 #[.pointer (some ⟨g,0,none⟩)] w fun e w'=>e=.returned (.bool (z1n (leftL ts p)))∧Rd w0 w' g ts p en∧Below w0.heap.size w0 w'∧z0k w w' g none:=by
 have HM:=z00.mk (fun(s:ByteArray) (W:World) (h1:Rd w0 W g ts p en) (h2:Below w0.heap.size w0 W)=>z7f w0 W g ts p en 1 s (by omega) h1 h2);simp only[z1g]at HM;have hv:z1n (leftL ts p)=(mk0 (leftL ts (p+1)) [60]||(mk0 (leftL ts (p+1)) [60,61]||(mk0 (leftL ts (p+1)) [61]||mk0 (leftL ts (p+1)) [33,61]))):=by
  unfold z1n mk1;rw[z0p]
 rw[hv];clear hv;have h0:=HM.out ⟨#[60]⟩ w hI hB;clear hI hB;rw[show((⟨#[60]⟩:ByteArray).data.toList)=[60]from rfl]at h0;have H0:=z00.mk h0;clear h0
 cases m0:mk0 (leftL ts (p+1)) [60]with
 |true =>
  rw[m0]at H0;go_enter Tryz.func148,Tryz.ntmps148
  go_wp2_with fail
  refine H0.out.mono ?_;rintro e w1 ⟨rfl,R,B,K⟩;have HR:=z00.mk (And.intro R (And.intro B K));clear R B K;go_wp2
  go_ret
  exact⟨rfl,HR.out⟩
 |false =>
  rw[m0]at H0
  cases m1:mk0 (leftL ts (p+1)) [60,61]with
  |true =>
   go_enter Tryz.func148,Tryz.ntmps148
   go_wp2_with fail
   refine H0.out.mono ?_;rintro e w1 ⟨rfl,R,B,K⟩;have h1:=HM.out ⟨#[60,61]⟩ w1 R B;rw[show((⟨#[60,61]⟩:ByteArray).data.toList)=[60,61]from rfl,m1]at h1;have H1:=z00.mk h1;have HK:=z00.mk K;clear R B K h1
   go_wp2_with fail
   refine H1.out.mono ?_;rintro e w2 ⟨rfl,R,B,K⟩;have HR:=z00.mk (And.intro R (And.intro B (HK.out.trans K (.inl rfl))));clear R B K;go_wp2
   go_ret
   exact⟨rfl,HR.out⟩
  |false =>
   cases m2:mk0 (leftL ts (p+1)) [61]with
   |true =>
    go_enter Tryz.func148,Tryz.ntmps148
    go_wp2_with fail
    refine H0.out.mono ?_;rintro e w1 ⟨rfl,R,B,K⟩;have h1:=HM.out ⟨#[60,61]⟩ w1 R B;rw[show((⟨#[60,61]⟩:ByteArray).data.toList)=[60,61]from rfl,m1]at h1;have H1:=z00.mk h1;have HK:=z00.mk K;clear R B K h1
    go_wp2_with fail
    refine H1.out.mono ?_;rintro e w2 ⟨rfl,R,B,K⟩;have h1:=HM.out ⟨#[61]⟩ w2 R B;rw[show((⟨#[61]⟩:ByteArray).data.toList)=[61]from rfl,m2]at h1;have H2:=z00.mk h1;replace HK:=z00.mk (HK.out.trans K (.inl rfl));clear R B K h1
    go_wp2_with fail
    refine H2.out.mono ?_;rintro e w3 ⟨rfl,R,B,K⟩;have HR:=z00.mk (And.intro R (And.intro B (HK.out.trans K (.inl rfl))));clear R B K;go_wp2
    go_ret
    exact⟨rfl,HR.out⟩
   |false =>
    obtain⟨m3,hm3⟩:∃m,mk0 (leftL ts (p+1)) [33,61]=m:=⟨_,rfl⟩
    rw[hm3];go_enter Tryz.func148,Tryz.ntmps148
    go_wp2_with fail
    refine H0.out.mono ?_;rintro e w1 ⟨rfl,R,B,K⟩;have h1:=HM.out ⟨#[60,61]⟩ w1 R B;rw[show((⟨#[60,61]⟩:ByteArray).data.toList)=[60,61]from rfl,m1]at h1;have H1:=z00.mk h1;have HK:=z00.mk K;clear R B K h1
    go_wp2_with fail
    refine H1.out.mono ?_;rintro e w2 ⟨rfl,R,B,K⟩;have h1:=HM.out ⟨#[61]⟩ w2 R B;rw[show((⟨#[61]⟩:ByteArray).data.toList)=[61]from rfl,m2]at h1;have H2:=z00.mk h1;replace HK:=z00.mk (HK.out.trans K (.inl rfl));clear R B K h1
    go_wp2_with fail
    refine H2.out.mono ?_;rintro e w3 ⟨rfl,R,B,K⟩;have h1:=HM.out ⟨#[33,61]⟩ w3 R B;rw[show((⟨#[33,61]⟩:ByteArray).data.toList)=[33,61]from rfl,hm3]at h1;have H3:=z00.mk h1;replace HK:=z00.mk (HK.out.trans K (.inl rfl));clear R B K h1
    go_wp2_with fail
    refine H3.out.mono ?_;rintro e w4 ⟨rfl,R,B,K⟩;have HR:=z00.mk (And.intro R (And.intro B (HK.out.trans K (.inl rfl))));clear R B K;go_wp2
    go_ret
    exact⟨by simp,HR.out⟩
def sgnB (s:ByteArray):ByteArray:=⟨(z4j s.data.toList).toArray⟩
set_option maxRecDepth 100000 in
theorem zdt (s:ByteArray) (w:World) :
 Calls Tryz.prog 165 #[.string s] w fun e w'=>e=.returned (.string (sgnB s))∧w'=w:=by
 unfold sgnB;rw[←z44]
 by_cases h0:s.toList=[112,108,117,115]
 · have hv:z4j s.toList=[43]:=by rw[h0];rfl
   rw[hv];go_enter Tryz.func165,Tryz.ntmps165;go_wp2
   go_ret
   exact⟨rfl,rfl⟩
 have e0:(s.toList==([112,108,117,115]:List UInt8))=false:=beq_eq_false_iff_ne.2 h0
 by_cases h1:s.toList=[109,105,110,117,115]
 · have hv:z4j s.toList=[45]:=by rw[h1];rfl
   rw[hv];go_enter Tryz.func165,Tryz.ntmps165;go_wp2
   go_ret
   exact⟨rfl,rfl⟩
 have e1:(s.toList==([109,105,110,117,115]:List UInt8))=false:=beq_eq_false_iff_ne.2 h1
 by_cases h2:s.toList=[116,105,109,101,115]
 · have hv:z4j s.toList=[42]:=by rw[h2];rfl
   rw[hv];go_enter Tryz.func165,Tryz.ntmps165;go_wp2
   go_ret
   exact⟨rfl,rfl⟩
 have e2:(s.toList==([116,105,109,101,115]:List UInt8))=false:=beq_eq_false_iff_ne.2 h2;have hv:z4j s.toList=[]:=by unfold z4j;rw[if_neg h0,if_neg h1,if_neg h2]
 rw[hv];go_enter Tryz.func165,Tryz.ntmps165;go_wp2
 go_ret
 exact⟨rfl,rfl⟩
theorem zi8 (ts:List S108) (en:Int) (p:Nat):signP (leftL ts p)=mapR (fun _=>sgnB (seeP ts en p).f1) (nextP (!(sgnB (seeP ts en p).f1).toList.isEmpty) (leftL ts p)):=by
 have hb:∀l:List UInt8,((⟨l.toArray⟩:ByteArray).toList.isEmpty)=l.isEmpty:=fun l=>by rw[z44]
 rcases Nat.lt_or_ge p ts.length with h|h
 · rw[z3s en h];show(if z4j (seeP ts en p).f1.data.toList=[]then Except.error ((leftL ts (p+1)).length+1,2)else Except.ok ((⟨(z4j (seeP ts en p).f1.data.toList).toArray⟩:ByteArray),leftL ts (p+1)))=_;unfold sgnB;rw[hb]
   cases hs:z4j (seeP ts en p).f1.data.toList with
   |nil=>rfl
   |cons a b=>rfl
 · obtain⟨h1,h2⟩:=z4x en h;rw[h1,h2];rfl
set_option maxRecDepth 100000 in
theorem zhj (w0 w:World) (g:Nat) (ts:List S108) (p:Nat) (en:Int) (hI:Rd w0 w g ts p en) (hB:Below w0.heap.size w0 w) :
 Calls Tryz.prog 150 #[.pointer (some ⟨g,0,none⟩)] w fun e w'=>Post w0 w g ts en (signP (leftL ts p)) (fun v _ x=>v=.string x) e w':=by
 have HS:=z00.mk (z29 w0 w g ts p en 0 (by omega) hI hB);rw[Nat.add_zero]at HS;rw[zi8 ts en p];have HP:z00 ((!(sgnB (seeP ts en p).f1).toList.isEmpty)=true→p<ts.length):=⟨fun h=>z5x fun e=>by
  have h2:seeP ts en p=⟨0,⟨#[]⟩,en⟩:=by
   rcases Nat.lt_or_ge p ts.length with h'|h'
   · rw[z3s en h']at e;cases e
   · exact(z4x en h').2
  rw[h2]at h
  simp[sgnB,z44,z4j]at h⟩
 have hfd:∀w:World,(Instr.field 108 (.agg #[.int .i64 (seeP ts en p).f0,.string (seeP ts en p).f1,.int .i64 (seeP ts en p).f2]) 1).run Tryz.prog w=.ok (.string (seeP ts en p).f1) w:=fun _=>by kernel_rfl
 clear hI hB
 generalize seeP ts en p=x at HS HP hfd ⊢
 have HG:=z00.mk (fun W=>zdt x.f1 W);obtain⟨sg,hsg⟩:∃s,sgnB x.f1=s:=⟨_,rfl⟩
 rw[hsg]at HG HP ⊢;obtain⟨r,hr0⟩:∃r,nextP (!sg.toList.isEmpty) (leftL ts p)=r:=⟨_,rfl⟩
 rw[hr0];have HR0:=z00.mk hr0;clear hr0 hsg;go_enter Tryz.func150,Tryz.ntmps150
 go_wp2_with fail
 refine HS.out.mono ?_;rintro e w1 ⟨rfl,R,B,K⟩;have HN:=z5o w0 w1 g ts p en (!sg.toList.isEmpty) HP.out R B;rw[HR0.out]at HN;have HN:=z00.mk HN;have HK:=z00.mk K;clear R B K HR0 HP HS
 go_wp2_with (go_at_call 165;refine(HG.out _).mono ?_;rintro e w' ⟨rfl,he⟩;obtain rfl:=he.symm)
 refine HN.out.mono ?_;intro e w2 hp;rcases hp.split with ⟨y,p',v,rfl,rfl,rfl,R,B,K⟩|⟨q,i,p',rfl,h1,h2,rfl,R,B,K⟩
 · have HR:=z00.mk (And.intro R (And.intro B (HK.out.trans K (.inl rfl))));clear R B K hp;go_wp2
   go_ret
   exact⟨HR.out.2.1,HR.out.2.2,p',HR.out.1,rfl,_,rfl,rfl⟩
 · exact⟨rfl,Post.thrown_ h1 h2 R B (HK.out.trans K (.inl rfl))⟩

def sets (W:World) (n:Nat):Nat→List Value→World
 |_,[]=>W
 |i,v::vs=>sets (W.setCell ⟨n,i,none⟩ v) n (i+1) vs
def setsA (cs:Array Value):Nat→List Value→Array Value
 |_,[]=>cs
 |i,v::vs=>setsA (cs.setIfInBounds i v) (i+1) vs
theorem z34 {n:Nat} {t:TypeId}:∀(vs:List Value) (i:Nat) (W:World) (cs:Array Value),W.heap[n]?=some (.cells cs t (0,0))→(sets W n i vs).heap[n]?=some (.cells (setsA cs i vs) t (0,0))
 |[],_,_,_,h=>h
 |v::vs,i,W,cs,h=>z34 vs (i+1) _ _ (z8w h i v)
theorem z2q {n m:Nat} {t:TypeId} {cs:Array Value} (hm:m≠n):∀(vs:List Value) (i:Nat) (W:World),W.heap[m]?=some (.cells cs t (0,0))→(sets W n i vs).heap[m]?=some (.cells cs t (0,0))
 |[],_,_,h=>h
 |v::vs,i,W,h=>z2q hm vs (i+1) _ (z11 h hm v)
theorem Rd.sets_ {w0:World} {g n p:Nat} {ts:List S108} {en:Int} (hg:g≠n):∀(vs:List Value) (i:Nat) (W:World),Rd w0 W g ts p en→Rd w0 (sets W n i vs) g ts p en
 |[],_,_,h=>h
 |v::vs,i,W,h=>Rd.sets_ hg vs (i+1) _ (h.far hg v)
theorem z2u {w0:World} {n:Nat} (hn:w0.heap.size≤n):∀(vs:List Value) (i:Nat) (W:World),Below w0.heap.size w0 W→Below w0.heap.size w0 (sets W n i vs)
 |[],_,_,h=>h
 |v::vs,i,W,h=>z2u hn vs (i+1) _ (z06 h hn)
theorem z6m {w:World} {g n:Nat} (hn:w.heap.size≤n):∀(vs:List Value) (i:Nat) (W:World),z0k w W g none→z0k w (sets W n i vs) g none
 |[],_,_,h=>h
 |v::vs,i,W,h=>z6m hn vs (i+1) _ (z41 h hn v)
theorem z5i {α:Type} {d:Kd α} {e base n:Nat} {ok:Nat→Prop} {u:Value} {xs:List α} (hok:∀k,ok k→k≠n):∀(vs:List Value) (i:Nat) (W:World),d.R e W base ok u xs→d.R e (sets W n i vs) base ok u xs
 |[],_,_,h=>h
 |v::vs,i,W,h=>z5i hok vs (i+1) _ (Kd.R_far h hok v)
theorem z2p (n:Nat):∀(vs:List Value) (i:Nat) (W:World),W.setCells n i vs=sets W n i vs
 |[],_,_=>rfl
 |v::vs,i,W=>z2p n vs (i+1) _
theorem z71 {W:World} {n:Nat} {cs:Array Value} {t:TypeId} (h:W.heap[n]?=some (.cells cs t (0,0))):W.rangeAt n 0 cs.toList:=fun j v hv=>by
 rw[Nat.zero_add,z01 h j]
 simpa using hv
theorem z4u {W:World} {n:Nat} {cs:Array Value} {t:TypeId} {m:Nat} (h:W.heap[n]?=some (.cells cs t (0,0))) (hm:m≤cs.size):W.there n 0 m:=fun j hj=>by
 rw[Nat.zero_add];refine⟨?_,z02 h j⟩;rw[z01 h j,Array.getElem?_eq_getElem (by omega)];rfl
abbrev zLit:Array Value:=#[.int .i64 0,.string ⟨#[]⟩,.slice none 0 0,.string ⟨#[]⟩,.string ⟨#[]⟩,.int .i64 0,.int .i64 0,.string ⟨#[]⟩,.string ⟨#[]⟩,.int .i64 0,.int .i64 0,.string ⟨#[]⟩,.string ⟨#[]⟩,.int .i64 0,.int .i64 0,.string ⟨#[]⟩,.slice none 0 0]
structure L2 (w0 w wr:World) (g n2:Nat) (ts:List S108) (en:Int) (p:Nat):Prop where
 R:Rd w0 wr g ts p en
 B:Below w0.heap.size w0 wr
 K:z0k w wr g none
 b2:wr.heap[n2]?=some (.cells zLit 62 (0,0))
 h0:w0.heap.size≤w.heap.size
 gw:g<w.heap.size
 h2:w.heap.size≤n2
structure L5 (w0 w wr:World) (g n2 n5:Nat) (ts:List S108) (en:Int) (p:Nat) (cs:Array Value):Prop extends L2 w0 w wr g n2 ts en p where
 b5:wr.heap[n5]?=some (.cells cs 62 (0,0))
 h5:n2<n5
section
variable {w0 w wr:World} {g n2 n5:Nat} {ts:List S108} {en:Int} {p:Nat} {cs cs':Array Value}
theorem L2.call (h:L2 w0 w wr g n2 ts en p) {w1:World} {p2:Nat} (hR:Rd w0 w1 g ts p2 en) (hB:Below w0.heap.size w0 w1) (hK:z0k wr w1 g none):L2 w0 w w1 g n2 ts en p2:=by
 have h1:=h.gw;have h2:=h.h2;exact⟨hR,hB,h.K.trans hK (.inl rfl),hK.blk h.b2 (by omega) (by simp),h.h0,h1,h2⟩
theorem L2.below (h:L2 w0 w wr g n2 ts en p) {w1:World} (d:Below wr.heap.size wr w1):L2 w0 w w1 g n2 ts en p:=h.call (h.R.below d) (z0g h.B d) (z0k.of_below d g none)
theorem L2.alloc_ (h:L2 w0 w wr g n2 ts en p) (o:Obj):L2 w0 w (wr.alloc o) g n2 ts en p:=h.below (z03 (Below.refl _ _) o)
theorem L2.alloc (h:L2 w0 w wr g n2 ts en p) (o:Array Value) (e:wr.heap.size=n5):L5 w0 w (wr.alloc (.cells o 62)) g n2 n5 ts en p o:=by
 have hb:=z0q wr (.cells o 62);rw[e]at hb;exact⟨h.alloc_ _,hb,by have:=z26 h.b2;omega⟩
theorem L2.move (h:L2 w0 w wr g n2 ts en p) (q:Nat) (hq:q≤ts.length):L2 w0 w (wr.setCell ⟨g,1,none⟩ (.int .i64 q)) g n2 ts en q:=by
 have h1:=h.gw;have h2:=h.h2;exact⟨h.R.move q hq,z06 h.B h.R.ge,z0k.set_ h.K 1 _,z11 h.b2 (by show n2≠g;omega) _,h.h0,h1,h2⟩
theorem L5.call (h:L5 w0 w wr g n2 n5 ts en p cs) {w1:World} {p2:Nat} (hR:Rd w0 w1 g ts p2 en) (hB:Below w0.heap.size w0 w1) (hK:z0k wr w1 g none):L5 w0 w w1 g n2 n5 ts en p2 cs:=by
 have h1:=h.gw;have h2:=h.h2;have h5:=h.h5;exact⟨h.toL2.call hR hB hK,hK.blk h.b5 (by omega) (by simp),h5⟩
theorem L5.move (h:L5 w0 w wr g n2 n5 ts en p cs) (q:Nat) (hq:q≤ts.length):L5 w0 w (wr.setCell ⟨g,1,none⟩ (.int .i64 q)) g n2 n5 ts en q cs:=by
 have h1:=h.gw;have h2:=h.h2;have h5:=h.h5;exact⟨h.toL2.move q hq,z11 h.b5 (by show n5≠g;omega) _,h5⟩
theorem L5.put5 (h:L5 w0 w wr g n2 n5 ts en p cs) (j:Nat) (vs:List Value) (e:setsA cs j vs=cs'):L5 w0 w (sets wr n5 j vs) g n2 n5 ts en p cs':=by
 have h0:=h.h0;have h1:=h.gw;have h2:=h.h2;have h5:=h.h5;exact⟨⟨h.R.sets_ (by omega) vs j wr,z2u (by omega) vs j wr h.B,z6m (by omega) vs j wr h.K,z2q (by omega) vs j wr h.b2,h0,h1,h2⟩,e ▸ z34 vs j wr cs h.b5,h5⟩
def litV (w':World) (base:Nat) (v:Value) (x:LtS):Prop:=∃u1 u2,v=.agg #[.int .i64 x.f0,.string x.f1.f0,u1,.string x.f2,.string x.f3.f0,.int .i64 x.f3.f1.f0,.int .i64 x.f3.f1.f1,.string x.f3.f1.f2,.string x.f4.f0,.int .i64 x.f4.f1.f0,.int .i64 x.f4.f1.f1,.string x.f4.f1.f2,.string x.f5.f0,.int .i64 x.f5.f1.f0,.int .i64 x.f5.f1.f1,.string x.f5.f1.f2,u2] ∧
 Kd.R k60 60 w' base (fun k=>base≤k) u1 x.f1.f1∧Kd.R k69 69 w' base (fun k=>base≤k) u2 x.f6
theorem L2.ends (h:L2 w0 w wr g n2 ts en p) (vs:List Value) (e:setsA zLit 0 vs=cs'):z00 ((sets wr n2 0 vs).heap[n2]?=some (.cells cs' 62 (0,0))) ∧
 z00 (∀(x:LtS) (u1 u2:Value),Value.agg cs'=.agg #[.int .i64 x.f0,.string x.f1.f0,u1,.string x.f2,.string x.f3.f0,.int .i64 x.f3.f1.f0,.int .i64 x.f3.f1.f1,.string x.f3.f1.f2,.string x.f4.f0,.int .i64 x.f4.f1.f0,.int .i64 x.f4.f1.f1,.string x.f4.f1.f2,.string x.f5.f0,.int .i64 x.f5.f1.f0,.int .i64 x.f5.f1.f1,.string x.f5.f1.f2,u2] →
  Kd.R k60 60 wr w.heap.size (fun k=>w.heap.size≤k∧k≠n2) u1 x.f1.f1→Kd.R k69 69 wr w.heap.size (fun k=>w.heap.size≤k∧k≠n2) u2 x.f6 →
  Post w0 w g ts en (.ok (x,leftL ts p)) (fun v w' x=>litV w' w.heap.size v x) (.returned (.agg cs')) (sets wr n2 0 vs)):=by
 have h0:=h.h0;have h1:=h.gw;have h2:=h.h2;refine⟨⟨e ▸ z34 vs 0 wr zLit h.b2⟩,⟨fun x u1 u2 hv o1 o2=>?_⟩⟩;refine⟨z2u (by omega) vs 0 wr h.B,z6m (by omega) vs 0 wr h.K,p,h.R.sets_ (by omega) vs 0 wr,rfl,_,rfl,u1,u2,hv,?_,?_⟩
 · exact Kd.R_mono (z5i (fun k hk=>hk.2) vs 0 wr o1) (fun k hk=>hk.1)
 · exact Kd.R_mono (z5i (fun k hk=>hk.2) vs 0 wr o2) (fun k hk=>hk.1)
end
theorem zjl {l r:List TK} {y:ByteArray} (h:nextP true l=.ok (y,r)):y=zia l∧r=l.drop 1:=by
 cases l with
 |nil=>cases h
 |cons t r' =>
  simp only[nextP,if_true,Except.ok.injEq,Prod.mk.injEq]at h;exact⟨h.1.symm,h.2.symm⟩
theorem zji {l r:List TK} {x:TmS} (h:termP l=.ok (x,r)):r=l.drop 1∧l≠[]:=by
 cases l with
 |nil=>cases h
 |cons t r' =>
  simp only[termP]at h;refine⟨?_,by simp⟩
  split at h
  · injection h with h;injection h with h5 h6;exact h6.symm
  · split at h
    · injection h with h;injection h with h5 h6;exact h6.symm
    · cases h
theorem zcl {l r:List TK} {x:TmS} (h:z45 l=.ok (x,r)):r=l.drop 1∧l≠[]:=by
 cases l with
 |nil=>cases h
 |cons t r' =>
  simp only[z45]at h;refine⟨?_,by simp⟩
  split at h
  · injection h with h;injection h with h5 h6;exact h6.symm
  · cases h
theorem zbq {ts:List S108} {p q:Nat} (h:leftL ts p=leftL ts q) (hp:p≤ts.length) (hq:q≤ts.length):p=q:=by
 have:=congrArg List.length h;rw[z0s,z0s]at this;omega
theorem z35 (ts:List S108) (en:Int) (p:Nat) (s:List UInt8):isL (leftL ts p) 1 s=((seeP ts en p).f0==1&&(seeP ts en p).f1.toList==s):=by
 rcases Nat.lt_or_ge p ts.length with h|h
 · rw[z3s en h];show((seeP ts en p).f0==1&&(seeP ts en p).f1.data.toList==s)=_;rw[z44]
 · obtain⟨h1,h2⟩:=z4x en h;rw[h1,h2];rfl
theorem z4y {ts:List S108} {p:Nat} {k:Int} {s:List UInt8} (h:isL (leftL ts p) k s=true):p<ts.length:=z5x fun e=>by
 rw[e]at h
 cases h
def Two (wr:World) (n3:Nat) (x3 x4:S108):Prop:=wr.heap[n3]?=some (.cells #[.int .i64 x3.f0,.string x3.f1,.int .i64 x3.f2] 108 (0,0))∧wr.heap[n3+1]?=some (.cells #[.int .i64 x4.f0,.string x4.f1,.int .i64 x4.f2] 108 (0,0))
def selL (l:List TK):Nat:=if(z2h l&&z1n l)=true then 0 else if(kindL l==2&&isL (l.drop 1) 1 [105,115])=true then 1 else if isL l 1 [110,111,116]=true then 2 else if isL l 1 [119,97,108,107]=true then 3 else if predL l=true then 4 else 5
theorem zi3 (l:List TK):selL l=0∨selL l=1∨selL l=2∨selL l=3∨selL l=4∨selL l=5:=by
 unfold selL
 repeat' split
 all_goals simp

set_option maxHeartbeats 4000000 in
set_option maxRecDepth 100000 in
theorem zif (w0 w:World) (g:Nat) (ts:List S108) (p:Nat) (en:Int) (hE:Env w0 ts) (hsel:selL (leftL ts p)=0) (hI:Rd w0 w g ts p en) (hB:Below w0.heap.size w0 w) :
 Calls Tryz.prog 116 #[.pointer (some ⟨g,0,none⟩)] w fun e w'=>Post w0 w g ts en (z1h (leftL ts p)) (fun v w' x=>litV w' w.heap.size v x) e w':=by
 have HE:=z00.mk hE;obtain⟨n2,en2⟩:∃n,w.heap.size=n:=⟨_,rfl⟩
 have hN:=z0q w (.cells zLit 62);rw[en2]at hN;have HM:=z00.mk (show L2 w0 w (w.alloc (.cells zLit 62)) g n2 ts en p from⟨hI.alloc _,z03 hB _,z1k (z0k.refl w g none) _,hN,hB.size,hI.lt,by omega⟩);have HS:=z00.mk (z29 w0 _ g ts p en 0 (by omega) HM.out.R HM.out.B);rw[Nat.add_zero]at HS;obtain⟨r,hr⟩:∃r,z1h (leftL ts p)=r:=⟨_,rfl⟩
 rw[hr];have HQ:=z00.mk hr.symm;have HK3:=z00.mk (z32 ts en p);obtain⟨x3,hx3⟩:∃x,seeP ts en p=x:=⟨_,rfl⟩
 obtain⟨x4,hx4⟩:∃x,seeP ts en (p+1)=x:=⟨_,rfl⟩
 rw[hx3]at HS;have HX3:=z00.mk hx3;have HX4:=z00.mk hx4;clear hE hI hB hN hr hx3 hx4 HK3;go_enter Tryz.func116,Tryz.ntmps116
 go_wp2_with fail
 refine HS.out.mono ?_;rintro e w1 ⟨rfl,R,B,K⟩;replace HM:=z00.mk (HM.out.call R B K);clear R B K HS;have HS:=z29 w0 _ g ts p en 1 (by omega) HM.out.R HM.out.B;rw[HX4.out]at HS;have HS:=z00.mk HS
 go_wp2_with fail
 refine HS.out.mono ?_;rintro e w2 ⟨rfl,R,B,K⟩;replace HM:=z00.mk (HM.out.call R B K);clear R B K HS;obtain⟨n3,en3⟩:∃n,w2.heap.size=n:=⟨_,rfl⟩
 have hx30:=z0c (z0q w2 (.cells #[.int .i64 x3.f0,.string x3.f1,.int .i64 x3.f2] 108)) (.cells #[.int .i64 x4.f0,.string x4.f1,.int .i64 x4.f2] 108);have hx40:=z0q (w2.alloc (.cells #[.int .i64 x3.f0,.string x3.f1,.int .i64 x3.f2] 108)) (.cells #[.int .i64 x4.f0,.string x4.f1,.int .i64 x4.f2] 108);rw[en3]at hx30;rw[show(w2.alloc (.cells #[.int .i64 x3.f0,.string x3.f1,.int .i64 x3.f2] 108)).heap.size=n3+1 by simp[en3]]at hx40;have HT:=z00.mk (show Two _ n3 x3 x4 from⟨hx30,hx40⟩);have HG3:=z00.mk (show g<n3 by have:=HM.out.R.lt;omega);replace HM:=z00.mk ((HM.out.alloc_ (.cells #[.int .i64 x3.f0,.string x3.f1,.int .i64 x3.f2] 108)).alloc_ (.cells #[.int .i64 x4.f0,.string x4.f1,.int .i64 x4.f2] 108));clear hx30 hx40
 go_upto_region 2 with (fail)
 generalize (w2.alloc (.cells #[.int .i64 x3.f0,.string x3.f1,.int .i64 x3.f2] 108)).alloc (.cells #[.int .i64 x4.f0,.string x4.f1,.int .i64 x4.f2] 108)=w3 at HM HT ⊢
 obtain⟨st,hst⟩:∃c,z2h (leftL ts p)=c:=⟨_,rfl⟩
 obtain⟨cm,hcm⟩:∃c,z1n (leftL ts p)=c:=⟨_,rfl⟩
 obtain⟨c1,hc1⟩:∃c,(kindL (leftL ts p)==2&&isL ((leftL ts p).drop 1) 1 [105,115])=c:=⟨_,rfl⟩
 obtain⟨c2,hc2⟩:∃c,isL (leftL ts p) 1 [110,111,116]=c:=⟨_,rfl⟩
 obtain⟨c3,hc3⟩:∃c,isL (leftL ts p) 1 [119,97,108,107]=c:=⟨_,rfl⟩
 obtain⟨c4,hc4⟩:∃c,predL (leftL ts p)=c:=⟨_,rfl⟩
 replace HQ:=z00.mk (show r=if(st&&cm)=true then z66 (leftL ts p)else if c1=true then letP (leftL ts p)else if c2=true then z4z 2 (leftL ts (p+1))else if c3=true then walkP (leftL ts (p+1))else if c4=true then z4z 1 (leftL ts p)else bnd (termP (leftL ts p)) fun _ r=>.error (r.length,2) by
  rw[HQ.out,←z0p ts p 1];unfold z1h;rw[hst,hcm,hc1,hc2,hc3,hc4])
 have HSEL:=z00.mk (show(if(st&&cm)=true then 0 else if c1=true then 1 else if c2=true then 2 else if c3=true then 3 else if c4=true then 4 else 5)=0 by
  unfold selL at hsel;rw[hst,hcm,hc1,hc2,hc3,hc4]at hsel;exact hsel)
 clear hsel;have HL0:z00 (cm=true→p+1<ts.length):=⟨fun h=>by
  rw[h]at hcm;unfold z1n mk1 at hcm;rw[z0p]at hcm;exact z5x fun e=>by rw[e]at hcm;cases hcm⟩
 have HL1:z00 (c1=true→p+1<ts.length):=⟨fun h=>by
  rw[h,z0p,Bool.and_eq_true]at hc1;exact z4y hc1.2⟩
 have HL2:z00 (c2=true→p<ts.length):=⟨fun h=>z4y (hc2.trans h)⟩
 have HL3:z00 (c3=true→p<ts.length):=⟨fun h=>z4y (hc3.trans h)⟩
 have HV1:z00 (((x3.f0==2)&&((x4.f0==1)&&(x4.f1.toList==[105,115])))=c1):=⟨zA0l⟩
 have HV2:z00 (((x3.f0==1)&&(x3.f1.toList==[110,111,116]))=c2):=⟨zA0v⟩
 have HV3:z00 (((x3.f0==1)&&(x3.f1.toList==[119,97,108,107]))=c3):=⟨zA0w⟩
 have HV4:z00 (((x3.f0==1)&&!keyL x3.f1.data.toList)=c4):=⟨zA0x⟩
 have HST:=z3c w0 w3 g ts p en HM.out.R HM.out.B;have HCM:=z00.mk (fun W h1 h2=>z3u w0 W g ts p en h1 h2);rw[hst]at HST;rw[hcm]at HCM;have HST:=z00.mk HST;clear hst hcm hc1 hc2 hc3 hc4 HX3 HX4
 go_cut [16] (fun v16 wc=>v16=.bool (st&&cm)∧z00 (L2 w0 w wc g n2 ts en p)∧z00 (Two wc n3 x3 x4))
 case first =>
  cases st with
  |false =>
   go_wp2_with fail
   refine HST.out.mono ?_;rintro e w4 ⟨rfl,R,B,K⟩;have HM2:=z00.mk (HM.out.call R B K);have HT2:=z00.mk (show Two w4 n3 x3 x4 from⟨K.blk HT.out.1 zA09 (by simp),K.blk HT.out.2 zA09 (by simp)⟩);clear R B K;go_wp2;go_meet
   case rel=>exact⟨rfl,HM2,HT2⟩
  |true =>
   go_wp2_with fail
   refine HST.out.mono ?_;rintro e w4 ⟨rfl,R,B,K⟩;have HM2:=z00.mk (HM.out.call R B K);have HT2:=z00.mk (show Two w4 n3 x3 x4 from⟨K.blk HT.out.1 zA09 (by simp),K.blk HT.out.2 zA09 (by simp)⟩);have HC:=z00.mk (HCM.out w4 R B);clear R B K
   go_wp2_with fail
   refine HC.out.mono ?_;rintro e w5 ⟨rfl,R,B,K⟩;replace HM2:=z00.mk (HM2.out.call R B K);replace HT2:=z00.mk (show Two w5 n3 x3 x4 from⟨K.blk HT2.out.1 zA09 (by simp),K.blk HT2.out.2 zA09 (by simp)⟩);clear R B K HC;go_wp2;go_meet
   case rel=>exact⟨rfl,HM2,HT2⟩
 case rest =>
 clear HM HT HST HCM;obtain⟨rfl,HM,HT⟩:=hcut;obtain⟨c0,hc0⟩:∃c,(st&&cm)=c:=⟨_,rfl⟩
 have HL0':z00 (c0=true→p+1<ts.length):=⟨fun h=>HL0.out zA0n⟩
 rw[hc0]at HQ HSEL ⊢;clear hc0 HL0
 cases c0 with
 |true =>
  simp only[if_true]at HQ;have HC:=z00.mk (z4q w0 wc g ts p en HE.out HM.out.R HM.out.B)
  go_wp2_with fail
  refine HC.out.mono ?_;intro e wa1 hp;rcases hp.split with ⟨y1,pa1,va1,ey,rfl,rfl,R,B,K⟩|⟨q,i,p2',ey,h1,h2,rfl,R,B,K⟩
  case inr=>exact⟨rfl,Post.as (HQ.out.trans (z3m ey)) (Post.thrown_ h1 h2 R B (HM.out.K.trans K (.inl rfl)))⟩
  have hlt:pa1<ts.length:=by
   have h1:=HL0'.out (by trivial);have h2:=zbq ((zji ey).1.trans (z0p ts p 1)) R.le (by omega);omega
  have HE1:=z00.mk ey;replace HQ:=z00.mk (HQ.out.trans (z2z ey));replace HM:=z00.mk (HM.out.call R B K);clear R B K hp HC ey
  (try simp only[z0p]at HQ)
  obtain⟨n5,en5⟩:∃n,wa1.heap.size=n:=⟨_,rfl⟩
  replace HM:=z00.mk (HM.out.alloc #[.int .i64 3,.string ⟨#[]⟩,.slice none 0 0,.string ⟨#[]⟩,.string y1.f0,.int .i64 y1.f1.f0,.int .i64 y1.f1.f1,.string y1.f1.f2,.string ⟨#[]⟩,.int .i64 0,.int .i64 0,.string ⟨#[]⟩,.string ⟨#[]⟩,.int .i64 0,.int .i64 0,.string ⟨#[]⟩,.slice none 0 0] en5);have HC:=z00.mk (z5o w0 (wa1.alloc (.cells #[.int .i64 3,.string ⟨#[]⟩,.slice none 0 0,.string ⟨#[]⟩,.string y1.f0,.int .i64 y1.f1.f0,.int .i64 y1.f1.f1,.string y1.f1.f2,.string ⟨#[]⟩,.int .i64 0,.int .i64 0,.string ⟨#[]⟩,.string ⟨#[]⟩,.int .i64 0,.int .i64 0,.string ⟨#[]⟩,.slice none 0 0] 62)) g ts pa1 en true (fun _=>hlt) HM.out.R HM.out.B);simp only[tmV]
  go_wp2_with fail
  refine HC.out.mono ?_;intro e wa2 hp;rcases hp.split with ⟨y2,pa2,va2,ey,rfl,rfl,R,B,K⟩|⟨q,i,p2',ey,h1,h2,rfl,R,B,K⟩
  case inr=>rw[z3s en hlt]at ey;cases ey
  obtain⟨e1,e2⟩:=zjl ey;obtain rfl:pa2=pa1+1:=zbq (e2.trans (z0p ts pa1 1)) R.le (by omega);rw[←e1]at HQ;replace HM:=z00.mk (HM.out.call R B K);clear R B K hp HC ey e1 e2;have hx3:wa2.cell? ⟨n5,3,none⟩=some (.string ⟨#[]⟩):=(z01 HM.out.b5 3).trans rfl;have hxf3:=z02 HM.out.b5 3;replace HM:=z00.mk (show L5 w0 w (wa2.setCell ⟨n5,3,none⟩ (.string y2)) g n2 n5 ts en (pa1+1) #[.int .i64 3,.string ⟨#[]⟩,.slice none 0 0,.string y2,.string y1.f0,.int .i64 y1.f1.f0,.int .i64 y1.f1.f1,.string y1.f1.f2,.string ⟨#[]⟩,.int .i64 0,.int .i64 0,.string ⟨#[]⟩,.string ⟨#[]⟩,.int .i64 0,.int .i64 0,.string ⟨#[]⟩,.slice none 0 0]from HM.out.put5 3 [.string y2] (by kernel_rfl));have HC:=z00.mk (z4q w0 (wa2.setCell ⟨n5,3,none⟩ (.string y2)) g ts (pa1+1) en HE.out HM.out.R HM.out.B)
  go_wp2_with fail
  refine HC.out.mono ?_;intro e wa3 hp;rcases hp.split with ⟨y3,pa3,va3,ey,rfl,rfl,R,B,K⟩|⟨q,i,p2',ey,h1,h2,rfl,R,B,K⟩
  case inr=>exact⟨rfl,Post.as (HQ.out.trans (z3m ey)) (Post.thrown_ h1 h2 R B (HM.out.K.trans K (.inl rfl)))⟩
  have HE3:=z00.mk ey;replace HQ:=z00.mk (HQ.out.trans (z2z ey));replace HM:=z00.mk (HM.out.call R B K);clear R B K hp HC ey;clear hx3 hxf3;have hx8:wa3.cell? ⟨n5,8,none⟩=some (.string ⟨#[]⟩):=(z01 HM.out.b5 8).trans rfl;have hx9:wa3.cell? ⟨n5,9,none⟩=some (.int .i64 0):=(z01 HM.out.b5 9).trans rfl;have hx10:wa3.cell? ⟨n5,10,none⟩=some (.int .i64 0):=(z01 HM.out.b5 10).trans rfl;have hx11:wa3.cell? ⟨n5,11,none⟩=some (.string ⟨#[]⟩):=(z01 HM.out.b5 11).trans rfl;have hxf8:=z02 HM.out.b5 8;have hxf9:=z02 HM.out.b5 9;have hxf10:=z02 HM.out.b5 10;have hxf11:=z02 HM.out.b5 11;simp only[tmV];replace HM:=z00.mk (show L5 w0 w ((((wa3.setCell ⟨n5,8,none⟩ (.string y3.f0)).setCell ⟨n5,9,none⟩ (.int .i64 y3.f1.f0)).setCell ⟨n5,10,none⟩ (.int .i64 y3.f1.f1)).setCell ⟨n5,11,none⟩ (.string y3.f1.f2)) g n2 n5 ts en pa3 #[.int .i64 3,.string ⟨#[]⟩,.slice none 0 0,.string y2,.string y1.f0,.int .i64 y1.f1.f0,.int .i64 y1.f1.f1,.string y1.f1.f2,.string y3.f0,.int .i64 y3.f1.f0,.int .i64 y3.f1.f1,.string y3.f1.f2,.string ⟨#[]⟩,.int .i64 0,.int .i64 0,.string ⟨#[]⟩,.slice none 0 0]from HM.out.put5 8 [.string y3.f0,.int .i64 y3.f1.f0,.int .i64 y3.f1.f1,.string y3.f1.f2] (by kernel_rfl));obtain⟨P1,P2⟩:=(HM.out.toL2).ends [.int .i64 3,.string ⟨#[]⟩,.slice none 0 0,.string y2,.string y1.f0,.int .i64 y1.f1.f0,.int .i64 y1.f1.f1,.string y1.f1.f2,.string y3.f0,.int .i64 y3.f1.f0,.int .i64 y3.f1.f1,.string y3.f1.f2,.string ⟨#[]⟩,.int .i64 0,.int .i64 0,.string ⟨#[]⟩,.slice none 0 0] (cs':=#[.int .i64 3,.string ⟨#[]⟩,.slice none 0 0,.string y2,.string y1.f0,.int .i64 y1.f1.f0,.int .i64 y1.f1.f1,.string y1.f1.f2,.string y3.f0,.int .i64 y3.f1.f0,.int .i64 y3.f1.f1,.string y3.f1.f2,.string ⟨#[]⟩,.int .i64 0,.int .i64 0,.string ⟨#[]⟩,.slice none 0 0]) (by kernel_rfl);have P3:=z00.mk (Post.as (r':=.ok ((⟨3,noneA,y2,y1,y3,noneT,[]⟩:LtS),leftL ts pa3)) HQ.out (P2.out ((⟨3,noneA,y2,y1,y3,noneT,[]⟩:LtS)) (.slice none 0 0) (.slice none 0 0) rfl (Kd.R_nil _ _ _ _ _) (Kd.R_nil _ _ _ _ _)));clear P2
  go_wp2_with (first|((with_reducible refine z1r (N:=32) rfl ?_);refine wpList_load_mid rfl 62 (.tmp 5) rfl n5 0 rfl [.int .i64 3,.string ⟨#[]⟩,.slice none 0 0,.string y2,.string y1.f0,.int .i64 y1.f1.f0,.int .i64 y1.f1.f1,.string y1.f1.f2,.string y3.f0,.int .i64 y3.f1.f0,.int .i64 y3.f1.f1,.string y3.f1.f2,.string ⟨#[]⟩,.int .i64 0,.int .i64 0,.string ⟨#[]⟩,.slice none 0 0] _ (z71 HM.out.b5) Tryz.underlying62 rfl (by kernel_rfl) ?_)|((with_reducible refine z3v (t:=62) (p:=2) (v:=.tmp 32) rfl ?_);refine wpList_store_mid rfl 62 (.tmp 2) (.tmp 32) rfl n2 0 #[.int .i64 3,.string ⟨#[]⟩,.slice none 0 0,.string y2,.string y1.f0,.int .i64 y1.f1.f0,.int .i64 y1.f1.f1,.string y1.f1.f2,.string y3.f0,.int .i64 y3.f1.f0,.int .i64 y3.f1.f1,.string y3.f1.f2,.string ⟨#[]⟩,.int .i64 0,.int .i64 0,.string ⟨#[]⟩,.slice none 0 0] rfl rfl (z4u HM.out.b2 (Nat.le_of_eq (by kernel_rfl))) (by kernel_rfl) (by kernel_rfl) ?_;rw[z2p]))
  refine bodyPost_ret (results_cell_row rfl _ _ n2 62 #[.int .i64 3,.string ⟨#[]⟩,.slice none 0 0,.string y2,.string y1.f0,.int .i64 y1.f1.f0,.int .i64 y1.f1.f1,.string y1.f1.f2,.string y3.f0,.int .i64 y3.f1.f0,.int .i64 y3.f1.f1,.string y3.f1.f2,.string ⟨#[]⟩,.int .i64 0,.int .i64 0,.string ⟨#[]⟩,.slice none 0 0] (0,0) _ rfl P1.out Tryz.underlying62 rfl (by kernel_rfl)) rfl ?_;exact P3.out
 |false=>exact absurd HSEL.out zA0s

set_option maxHeartbeats 4000000 in
set_option maxRecDepth 100000 in
theorem zjf (w0 w:World) (g:Nat) (ts:List S108) (p:Nat) (en:Int) (hE:Env w0 ts) (hsel:selL (leftL ts p)=1) (hI:Rd w0 w g ts p en) (hB:Below w0.heap.size w0 w) :
 Calls Tryz.prog 116 #[.pointer (some ⟨g,0,none⟩)] w fun e w'=>Post w0 w g ts en (z1h (leftL ts p)) (fun v w' x=>litV w' w.heap.size v x) e w':=by
 have HE:=z00.mk hE;obtain⟨n2,en2⟩:∃n,w.heap.size=n:=⟨_,rfl⟩
 have hN:=z0q w (.cells zLit 62);rw[en2]at hN;have HM:=z00.mk (show L2 w0 w (w.alloc (.cells zLit 62)) g n2 ts en p from⟨hI.alloc _,z03 hB _,z1k (z0k.refl w g none) _,hN,hB.size,hI.lt,by omega⟩);have HS:=z00.mk (z29 w0 _ g ts p en 0 (by omega) HM.out.R HM.out.B);rw[Nat.add_zero]at HS;obtain⟨r,hr⟩:∃r,z1h (leftL ts p)=r:=⟨_,rfl⟩
 rw[hr];have HQ:=z00.mk hr.symm;have HK3:=z00.mk (z32 ts en p);obtain⟨x3,hx3⟩:∃x,seeP ts en p=x:=⟨_,rfl⟩
 obtain⟨x4,hx4⟩:∃x,seeP ts en (p+1)=x:=⟨_,rfl⟩
 rw[hx3]at HS;have HX3:=z00.mk hx3;have HX4:=z00.mk hx4;clear hE hI hB hN hr hx3 hx4 HK3;go_enter Tryz.func116,Tryz.ntmps116
 go_wp2_with fail
 refine HS.out.mono ?_;rintro e w1 ⟨rfl,R,B,K⟩;replace HM:=z00.mk (HM.out.call R B K);clear R B K HS;have HS:=z29 w0 _ g ts p en 1 (by omega) HM.out.R HM.out.B;rw[HX4.out]at HS;have HS:=z00.mk HS
 go_wp2_with fail
 refine HS.out.mono ?_;rintro e w2 ⟨rfl,R,B,K⟩;replace HM:=z00.mk (HM.out.call R B K);clear R B K HS;obtain⟨n3,en3⟩:∃n,w2.heap.size=n:=⟨_,rfl⟩
 have hx30:=z0c (z0q w2 (.cells #[.int .i64 x3.f0,.string x3.f1,.int .i64 x3.f2] 108)) (.cells #[.int .i64 x4.f0,.string x4.f1,.int .i64 x4.f2] 108);have hx40:=z0q (w2.alloc (.cells #[.int .i64 x3.f0,.string x3.f1,.int .i64 x3.f2] 108)) (.cells #[.int .i64 x4.f0,.string x4.f1,.int .i64 x4.f2] 108);rw[en3]at hx30;rw[show(w2.alloc (.cells #[.int .i64 x3.f0,.string x3.f1,.int .i64 x3.f2] 108)).heap.size=n3+1 by simp[en3]]at hx40;have HT:=z00.mk (show Two _ n3 x3 x4 from⟨hx30,hx40⟩);have HG3:=z00.mk (show g<n3 by have:=HM.out.R.lt;omega);replace HM:=z00.mk ((HM.out.alloc_ (.cells #[.int .i64 x3.f0,.string x3.f1,.int .i64 x3.f2] 108)).alloc_ (.cells #[.int .i64 x4.f0,.string x4.f1,.int .i64 x4.f2] 108));clear hx30 hx40
 go_upto_region 2 with (fail)
 generalize (w2.alloc (.cells #[.int .i64 x3.f0,.string x3.f1,.int .i64 x3.f2] 108)).alloc (.cells #[.int .i64 x4.f0,.string x4.f1,.int .i64 x4.f2] 108)=w3 at HM HT ⊢
 obtain⟨st,hst⟩:∃c,z2h (leftL ts p)=c:=⟨_,rfl⟩
 obtain⟨cm,hcm⟩:∃c,z1n (leftL ts p)=c:=⟨_,rfl⟩
 obtain⟨c1,hc1⟩:∃c,(kindL (leftL ts p)==2&&isL ((leftL ts p).drop 1) 1 [105,115])=c:=⟨_,rfl⟩
 obtain⟨c2,hc2⟩:∃c,isL (leftL ts p) 1 [110,111,116]=c:=⟨_,rfl⟩
 obtain⟨c3,hc3⟩:∃c,isL (leftL ts p) 1 [119,97,108,107]=c:=⟨_,rfl⟩
 obtain⟨c4,hc4⟩:∃c,predL (leftL ts p)=c:=⟨_,rfl⟩
 replace HQ:=z00.mk (show r=if(st&&cm)=true then z66 (leftL ts p)else if c1=true then letP (leftL ts p)else if c2=true then z4z 2 (leftL ts (p+1))else if c3=true then walkP (leftL ts (p+1))else if c4=true then z4z 1 (leftL ts p)else bnd (termP (leftL ts p)) fun _ r=>.error (r.length,2) by
  rw[HQ.out,←z0p ts p 1];unfold z1h;rw[hst,hcm,hc1,hc2,hc3,hc4])
 have HSEL:=z00.mk (show(if(st&&cm)=true then 0 else if c1=true then 1 else if c2=true then 2 else if c3=true then 3 else if c4=true then 4 else 5)=1 by
  unfold selL at hsel;rw[hst,hcm,hc1,hc2,hc3,hc4]at hsel;exact hsel)
 clear hsel;have HL0:z00 (cm=true→p+1<ts.length):=⟨fun h=>by
  rw[h]at hcm;unfold z1n mk1 at hcm;rw[z0p]at hcm;exact z5x fun e=>by rw[e]at hcm;cases hcm⟩
 have HL1:z00 (c1=true→p+1<ts.length):=⟨fun h=>by
  rw[h,z0p,Bool.and_eq_true]at hc1;exact z4y hc1.2⟩
 have HL2:z00 (c2=true→p<ts.length):=⟨fun h=>z4y (hc2.trans h)⟩
 have HL3:z00 (c3=true→p<ts.length):=⟨fun h=>z4y (hc3.trans h)⟩
 have HV1:z00 (((x3.f0==2)&&((x4.f0==1)&&(x4.f1.toList==[105,115])))=c1):=⟨zA0l⟩
 have HV2:z00 (((x3.f0==1)&&(x3.f1.toList==[110,111,116]))=c2):=⟨zA0v⟩
 have HV3:z00 (((x3.f0==1)&&(x3.f1.toList==[119,97,108,107]))=c3):=⟨zA0w⟩
 have HV4:z00 (((x3.f0==1)&&!keyL x3.f1.data.toList)=c4):=⟨zA0x⟩
 have HST:=z3c w0 w3 g ts p en HM.out.R HM.out.B;have HCM:=z00.mk (fun W h1 h2=>z3u w0 W g ts p en h1 h2);rw[hst]at HST;rw[hcm]at HCM;have HST:=z00.mk HST;clear hst hcm hc1 hc2 hc3 hc4 HX3 HX4
 go_cut [16] (fun v16 wc=>v16=.bool (st&&cm)∧z00 (L2 w0 w wc g n2 ts en p)∧z00 (Two wc n3 x3 x4))
 case first =>
  cases st with
  |false =>
   go_wp2_with fail
   refine HST.out.mono ?_;rintro e w4 ⟨rfl,R,B,K⟩;have HM2:=z00.mk (HM.out.call R B K);have HT2:=z00.mk (show Two w4 n3 x3 x4 from⟨K.blk HT.out.1 zA09 (by simp),K.blk HT.out.2 zA09 (by simp)⟩);clear R B K;go_wp2;go_meet
   case rel=>exact⟨rfl,HM2,HT2⟩
  |true =>
   go_wp2_with fail
   refine HST.out.mono ?_;rintro e w4 ⟨rfl,R,B,K⟩;have HM2:=z00.mk (HM.out.call R B K);have HT2:=z00.mk (show Two w4 n3 x3 x4 from⟨K.blk HT.out.1 zA09 (by simp),K.blk HT.out.2 zA09 (by simp)⟩);have HC:=z00.mk (HCM.out w4 R B);clear R B K
   go_wp2_with fail
   refine HC.out.mono ?_;rintro e w5 ⟨rfl,R,B,K⟩;replace HM2:=z00.mk (HM2.out.call R B K);replace HT2:=z00.mk (show Two w5 n3 x3 x4 from⟨K.blk HT2.out.1 zA09 (by simp),K.blk HT2.out.2 zA09 (by simp)⟩);clear R B K HC;go_wp2;go_meet
   case rel=>exact⟨rfl,HM2,HT2⟩
 case rest =>
 clear HM HT HST HCM;obtain⟨rfl,HM,HT⟩:=hcut;obtain⟨c0,hc0⟩:∃c,(st&&cm)=c:=⟨_,rfl⟩
 have HL0':z00 (c0=true→p+1<ts.length):=⟨fun h=>HL0.out zA0n⟩
 rw[hc0]at HQ HSEL ⊢;clear hc0 HL0
 cases c0 with
 |true =>
  simp only[if_true]at HQ;exact absurd HSEL.out (by simp)
 |false =>
 simp only[Bool.false_eq_true,if_false]at HQ;clear HL0';have h30:wc.cell? ⟨n3,0,none⟩=some (.int .i64 x3.f0):=(z01 HT.out.1 0).trans rfl;have h31:wc.cell? ⟨n3,1,none⟩=some (.string x3.f1):=(z01 HT.out.1 1).trans rfl;have h40:wc.cell? ⟨n3+1,0,none⟩=some (.int .i64 x4.f0):=(z01 HT.out.2 0).trans rfl;have h41:wc.cell? ⟨n3+1,1,none⟩=some (.string x4.f1):=(z01 HT.out.2 1).trans rfl
 go_upto_region 7 with (fail)
 go_cut [33] (fun v33 wc=>v33=.bool c1∧z00 (L2 w0 w wc g n2 ts en p)∧z00 (Two wc n3 x3 x4))
 case first =>
  cases k1:(x3.f0==2)with
  |false =>
   go_wp2;go_meet
   case rel=>exact⟨by rw[←HV1.out,k1];rfl,HM,HT⟩
  |true =>
   cases k2:(x4.f0==1)with
   |false =>
    go_wp2;go_meet
    case rel=>exact⟨by rw[←HV1.out,k1,k2];rfl,HM,HT⟩
   |true =>
    go_wp2;go_meet
    case rel=>exact⟨by rw[←HV1.out,k1,k2];first|rfl|(simp;done)|simp,HM,HT⟩
 case rest =>
 clear HM HT h30 h31 h40 h41;obtain⟨rfl,HM,HT⟩:=hcut
 cases c1 with
 |true =>
  simp only[if_true]at HQ;have HC:=z00.mk (z6c w0 wc g ts p en HM.out.R HM.out.B)
  go_wp2_with fail
  refine HC.out.mono ?_;intro e wa1 hp;rcases hp.split with ⟨y1,pa1,va1,ey,rfl,rfl,R,B,K⟩|⟨q,i,p2',ey,h1,h2,rfl,R,B,K⟩
  case inr=>exact⟨rfl,Post.as (HQ.out.trans (z3m ey)) (Post.thrown_ h1 h2 R B (HM.out.K.trans K (.inl rfl)))⟩
  have hlt:pa1<ts.length:=by
   have h1:=HL1.out (by trivial);have h2:=zbq ((zcl ey).1.trans (z0p ts p 1)) R.le (by omega);omega
  have HE1:=z00.mk ey;replace HQ:=z00.mk (HQ.out.trans (z2z ey));replace HM:=z00.mk (HM.out.call R B K);clear R B K hp HC ey
  (try simp only[z0p]at HQ)
  obtain⟨n5,en5⟩:∃n,wa1.heap.size=n:=⟨_,rfl⟩
  replace HM:=z00.mk (HM.out.alloc #[.int .i64 4,.string ⟨#[]⟩,.slice none 0 0,.string ⟨#[]⟩,.string y1.f0,.int .i64 y1.f1.f0,.int .i64 y1.f1.f1,.string y1.f1.f2,.string ⟨#[]⟩,.int .i64 0,.int .i64 0,.string ⟨#[]⟩,.string ⟨#[]⟩,.int .i64 0,.int .i64 0,.string ⟨#[]⟩,.slice none 0 0] en5);simp only[tmV];obtain⟨Ag,cg,hbg,_⟩:=id HM.out.R;have hcg:(wa1.alloc (.cells #[.int .i64 4,.string ⟨#[]⟩,.slice none 0 0,.string ⟨#[]⟩,.string y1.f0,.int .i64 y1.f1.f0,.int .i64 y1.f1.f1,.string y1.f1.f2,.string ⟨#[]⟩,.int .i64 0,.int .i64 0,.string ⟨#[]⟩,.string ⟨#[]⟩,.int .i64 0,.int .i64 0,.string ⟨#[]⟩,.slice none 0 0] 62)).cell? ⟨g,1,none⟩=some (.int .i64 pa1):=(z01 hbg 1).trans rfl;have hfg:=z02 hbg 1;clear hbg;replace HM:=z00.mk (HM.out.move (pa1+1) (by omega));rw[show((pa1+1:Nat):Int)=(pa1:Int)+1 by omega]at HM;have HC:=z00.mk (z4q w0 ((wa1.alloc (.cells #[.int .i64 4,.string ⟨#[]⟩,.slice none 0 0,.string ⟨#[]⟩,.string y1.f0,.int .i64 y1.f1.f0,.int .i64 y1.f1.f1,.string y1.f1.f2,.string ⟨#[]⟩,.int .i64 0,.int .i64 0,.string ⟨#[]⟩,.string ⟨#[]⟩,.int .i64 0,.int .i64 0,.string ⟨#[]⟩,.slice none 0 0] 62)).setCell ⟨g,1,none⟩ (.int .i64 ((pa1:Int)+1))) g ts (pa1+1) en HE.out HM.out.R HM.out.B)
  go_wp2_with fail
  refine HC.out.mono ?_;intro e wa2 hp;rcases hp.split with ⟨y2,pa2,va2,ey,rfl,rfl,R,B,K⟩|⟨q,i,p2',ey,h1,h2,rfl,R,B,K⟩
  case inr=>exact⟨rfl,Post.as (HQ.out.trans (z3m ey)) (Post.thrown_ h1 h2 R B (HM.out.K.trans K (.inl rfl)))⟩
  have HE2:=z00.mk ey;replace HQ:=z00.mk (HQ.out.trans (z2z ey));replace HM:=z00.mk (HM.out.call R B K);clear R B K hp HC ey;clear hcg hfg;have hx8:wa2.cell? ⟨n5,8,none⟩=some (.string ⟨#[]⟩):=(z01 HM.out.b5 8).trans rfl;have hx9:wa2.cell? ⟨n5,9,none⟩=some (.int .i64 0):=(z01 HM.out.b5 9).trans rfl;have hx10:wa2.cell? ⟨n5,10,none⟩=some (.int .i64 0):=(z01 HM.out.b5 10).trans rfl;have hx11:wa2.cell? ⟨n5,11,none⟩=some (.string ⟨#[]⟩):=(z01 HM.out.b5 11).trans rfl;have hxf8:=z02 HM.out.b5 8;have hxf9:=z02 HM.out.b5 9;have hxf10:=z02 HM.out.b5 10;have hxf11:=z02 HM.out.b5 11;simp only[tmV];replace HM:=z00.mk (show L5 w0 w ((((wa2.setCell ⟨n5,8,none⟩ (.string y2.f0)).setCell ⟨n5,9,none⟩ (.int .i64 y2.f1.f0)).setCell ⟨n5,10,none⟩ (.int .i64 y2.f1.f1)).setCell ⟨n5,11,none⟩ (.string y2.f1.f2)) g n2 n5 ts en pa2 #[.int .i64 4,.string ⟨#[]⟩,.slice none 0 0,.string ⟨#[]⟩,.string y1.f0,.int .i64 y1.f1.f0,.int .i64 y1.f1.f1,.string y1.f1.f2,.string y2.f0,.int .i64 y2.f1.f0,.int .i64 y2.f1.f1,.string y2.f1.f2,.string ⟨#[]⟩,.int .i64 0,.int .i64 0,.string ⟨#[]⟩,.slice none 0 0]from HM.out.put5 8 [.string y2.f0,.int .i64 y2.f1.f0,.int .i64 y2.f1.f1,.string y2.f1.f2] (by kernel_rfl));have HC:=z00.mk (zhj w0 ((((wa2.setCell ⟨n5,8,none⟩ (.string y2.f0)).setCell ⟨n5,9,none⟩ (.int .i64 y2.f1.f0)).setCell ⟨n5,10,none⟩ (.int .i64 y2.f1.f1)).setCell ⟨n5,11,none⟩ (.string y2.f1.f2)) g ts pa2 en HM.out.R HM.out.B)
  go_wp2_with fail
  refine HC.out.mono ?_;intro e wa3 hp;rcases hp.split with ⟨y3,pa3,va3,ey,rfl,rfl,R,B,K⟩|⟨q,i,p2',ey,h1,h2,rfl,R,B,K⟩
  case inr=>exact⟨rfl,Post.as (HQ.out.trans (z3m ey)) (Post.thrown_ h1 h2 R B (HM.out.K.trans K (.inl rfl)))⟩
  have HE3:=z00.mk ey;replace HQ:=z00.mk (HQ.out.trans (z2z ey));replace HM:=z00.mk (HM.out.call R B K);clear R B K hp HC ey;clear hx8 hx9 hx10 hx11 hxf8 hxf9 hxf10 hxf11;have hx3:wa3.cell? ⟨n5,3,none⟩=some (.string ⟨#[]⟩):=(z01 HM.out.b5 3).trans rfl;have hxf3:=z02 HM.out.b5 3;replace HM:=z00.mk (show L5 w0 w (wa3.setCell ⟨n5,3,none⟩ (.string y3)) g n2 n5 ts en pa3 #[.int .i64 4,.string ⟨#[]⟩,.slice none 0 0,.string y3,.string y1.f0,.int .i64 y1.f1.f0,.int .i64 y1.f1.f1,.string y1.f1.f2,.string y2.f0,.int .i64 y2.f1.f0,.int .i64 y2.f1.f1,.string y2.f1.f2,.string ⟨#[]⟩,.int .i64 0,.int .i64 0,.string ⟨#[]⟩,.slice none 0 0]from HM.out.put5 3 [.string y3] (by kernel_rfl));have HC:=z00.mk (z4q w0 (wa3.setCell ⟨n5,3,none⟩ (.string y3)) g ts pa3 en HE.out HM.out.R HM.out.B)
  go_wp2_with fail
  refine HC.out.mono ?_;intro e wa4 hp;rcases hp.split with ⟨y4,pa4,va4,ey,rfl,rfl,R,B,K⟩|⟨q,i,p2',ey,h1,h2,rfl,R,B,K⟩
  case inr=>exact⟨rfl,Post.as (HQ.out.trans (z3m ey)) (Post.thrown_ h1 h2 R B (HM.out.K.trans K (.inl rfl)))⟩
  have HE4:=z00.mk ey;replace HQ:=z00.mk (HQ.out.trans (z2z ey));replace HM:=z00.mk (HM.out.call R B K);clear R B K hp HC ey;clear hx3 hxf3;have hx12:wa4.cell? ⟨n5,12,none⟩=some (.string ⟨#[]⟩):=(z01 HM.out.b5 12).trans rfl;have hx13:wa4.cell? ⟨n5,13,none⟩=some (.int .i64 0):=(z01 HM.out.b5 13).trans rfl;have hx14:wa4.cell? ⟨n5,14,none⟩=some (.int .i64 0):=(z01 HM.out.b5 14).trans rfl;have hx15:wa4.cell? ⟨n5,15,none⟩=some (.string ⟨#[]⟩):=(z01 HM.out.b5 15).trans rfl;have hxf12:=z02 HM.out.b5 12;have hxf13:=z02 HM.out.b5 13;have hxf14:=z02 HM.out.b5 14;have hxf15:=z02 HM.out.b5 15;simp only[tmV];replace HM:=z00.mk (show L5 w0 w ((((wa4.setCell ⟨n5,12,none⟩ (.string y4.f0)).setCell ⟨n5,13,none⟩ (.int .i64 y4.f1.f0)).setCell ⟨n5,14,none⟩ (.int .i64 y4.f1.f1)).setCell ⟨n5,15,none⟩ (.string y4.f1.f2)) g n2 n5 ts en pa4 #[.int .i64 4,.string ⟨#[]⟩,.slice none 0 0,.string y3,.string y1.f0,.int .i64 y1.f1.f0,.int .i64 y1.f1.f1,.string y1.f1.f2,.string y2.f0,.int .i64 y2.f1.f0,.int .i64 y2.f1.f1,.string y2.f1.f2,.string y4.f0,.int .i64 y4.f1.f0,.int .i64 y4.f1.f1,.string y4.f1.f2,.slice none 0 0]from HM.out.put5 12 [.string y4.f0,.int .i64 y4.f1.f0,.int .i64 y4.f1.f1,.string y4.f1.f2] (by kernel_rfl));obtain⟨P1,P2⟩:=(HM.out.toL2).ends [.int .i64 4,.string ⟨#[]⟩,.slice none 0 0,.string y3,.string y1.f0,.int .i64 y1.f1.f0,.int .i64 y1.f1.f1,.string y1.f1.f2,.string y2.f0,.int .i64 y2.f1.f0,.int .i64 y2.f1.f1,.string y2.f1.f2,.string y4.f0,.int .i64 y4.f1.f0,.int .i64 y4.f1.f1,.string y4.f1.f2,.slice none 0 0] (cs':=#[.int .i64 4,.string ⟨#[]⟩,.slice none 0 0,.string y3,.string y1.f0,.int .i64 y1.f1.f0,.int .i64 y1.f1.f1,.string y1.f1.f2,.string y2.f0,.int .i64 y2.f1.f0,.int .i64 y2.f1.f1,.string y2.f1.f2,.string y4.f0,.int .i64 y4.f1.f0,.int .i64 y4.f1.f1,.string y4.f1.f2,.slice none 0 0]) (by kernel_rfl)
  have P3:=z00.mk (Post.as (r':=.ok ((⟨4,noneA,y3,y1,y2,y4,[]⟩:LtS),leftL ts pa4)) HQ.out (P2.out ((⟨4,noneA,y3,y1,y2,y4,[]⟩:LtS)) (.slice none 0 0) (.slice none 0 0) rfl (Kd.R_nil _ _ _ _ _) (Kd.R_nil _ _ _ _ _)));clear P2
  go_wp2_with (first|((with_reducible refine z1r (N:=66) rfl ?_);refine wpList_load_mid rfl 62 (.tmp 6) rfl n5 0 rfl [.int .i64 4,.string ⟨#[]⟩,.slice none 0 0,.string y3,.string y1.f0,.int .i64 y1.f1.f0,.int .i64 y1.f1.f1,.string y1.f1.f2,.string y2.f0,.int .i64 y2.f1.f0,.int .i64 y2.f1.f1,.string y2.f1.f2,.string y4.f0,.int .i64 y4.f1.f0,.int .i64 y4.f1.f1,.string y4.f1.f2,.slice none 0 0] _ (z71 HM.out.b5) Tryz.underlying62 rfl (by kernel_rfl) ?_)|((with_reducible refine z3v (t:=62) (p:=2) (v:=.tmp 66) rfl ?_);refine wpList_store_mid rfl 62 (.tmp 2) (.tmp 66) rfl n2 0 #[.int .i64 4,.string ⟨#[]⟩,.slice none 0 0,.string y3,.string y1.f0,.int .i64 y1.f1.f0,.int .i64 y1.f1.f1,.string y1.f1.f2,.string y2.f0,.int .i64 y2.f1.f0,.int .i64 y2.f1.f1,.string y2.f1.f2,.string y4.f0,.int .i64 y4.f1.f0,.int .i64 y4.f1.f1,.string y4.f1.f2,.slice none 0 0] rfl rfl (z4u HM.out.b2 (Nat.le_of_eq (by kernel_rfl))) (by kernel_rfl) (by kernel_rfl) ?_;rw[z2p]))
  refine bodyPost_ret (results_cell_row rfl _ _ n2 62 #[.int .i64 4,.string ⟨#[]⟩,.slice none 0 0,.string y3,.string y1.f0,.int .i64 y1.f1.f0,.int .i64 y1.f1.f1,.string y1.f1.f2,.string y2.f0,.int .i64 y2.f1.f0,.int .i64 y2.f1.f1,.string y2.f1.f2,.string y4.f0,.int .i64 y4.f1.f0,.int .i64 y4.f1.f1,.string y4.f1.f2,.slice none 0 0] (0,0) _ rfl P1.out Tryz.underlying62 rfl (by kernel_rfl)) rfl ?_;exact P3.out
 |false=>exact absurd HSEL.out zA0s

set_option maxHeartbeats 4000000 in
set_option maxRecDepth 100000 in
theorem zjj (w0 w:World) (g:Nat) (ts:List S108) (p:Nat) (en:Int) (hE:Env w0 ts) (hsel:selL (leftL ts p)=2) (hI:Rd w0 w g ts p en) (hB:Below w0.heap.size w0 w) :
 Calls Tryz.prog 116 #[.pointer (some ⟨g,0,none⟩)] w fun e w'=>Post w0 w g ts en (z1h (leftL ts p)) (fun v w' x=>litV w' w.heap.size v x) e w':=by
 have HE:=z00.mk hE;obtain⟨n2,en2⟩:∃n,w.heap.size=n:=⟨_,rfl⟩
 have hN:=z0q w (.cells zLit 62);rw[en2]at hN;have HM:=z00.mk (show L2 w0 w (w.alloc (.cells zLit 62)) g n2 ts en p from⟨hI.alloc _,z03 hB _,z1k (z0k.refl w g none) _,hN,hB.size,hI.lt,by omega⟩);have HS:=z00.mk (z29 w0 _ g ts p en 0 (by omega) HM.out.R HM.out.B);rw[Nat.add_zero]at HS;obtain⟨r,hr⟩:∃r,z1h (leftL ts p)=r:=⟨_,rfl⟩
 rw[hr];have HQ:=z00.mk hr.symm;have HK3:=z00.mk (z32 ts en p);obtain⟨x3,hx3⟩:∃x,seeP ts en p=x:=⟨_,rfl⟩
 obtain⟨x4,hx4⟩:∃x,seeP ts en (p+1)=x:=⟨_,rfl⟩
 rw[hx3]at HS;have HX3:=z00.mk hx3;have HX4:=z00.mk hx4;clear hE hI hB hN hr hx3 hx4 HK3;go_enter Tryz.func116,Tryz.ntmps116
 go_wp2_with fail
 refine HS.out.mono ?_;rintro e w1 ⟨rfl,R,B,K⟩;replace HM:=z00.mk (HM.out.call R B K);clear R B K HS;have HS:=z29 w0 _ g ts p en 1 (by omega) HM.out.R HM.out.B;rw[HX4.out]at HS;have HS:=z00.mk HS
 go_wp2_with fail
 refine HS.out.mono ?_;rintro e w2 ⟨rfl,R,B,K⟩;replace HM:=z00.mk (HM.out.call R B K);clear R B K HS;obtain⟨n3,en3⟩:∃n,w2.heap.size=n:=⟨_,rfl⟩
 have hx30:=z0c (z0q w2 (.cells #[.int .i64 x3.f0,.string x3.f1,.int .i64 x3.f2] 108)) (.cells #[.int .i64 x4.f0,.string x4.f1,.int .i64 x4.f2] 108);have hx40:=z0q (w2.alloc (.cells #[.int .i64 x3.f0,.string x3.f1,.int .i64 x3.f2] 108)) (.cells #[.int .i64 x4.f0,.string x4.f1,.int .i64 x4.f2] 108);rw[en3]at hx30;rw[show(w2.alloc (.cells #[.int .i64 x3.f0,.string x3.f1,.int .i64 x3.f2] 108)).heap.size=n3+1 by simp[en3]]at hx40;have HT:=z00.mk (show Two _ n3 x3 x4 from⟨hx30,hx40⟩);have HG3:=z00.mk (show g<n3 by have:=HM.out.R.lt;omega);replace HM:=z00.mk ((HM.out.alloc_ (.cells #[.int .i64 x3.f0,.string x3.f1,.int .i64 x3.f2] 108)).alloc_ (.cells #[.int .i64 x4.f0,.string x4.f1,.int .i64 x4.f2] 108));clear hx30 hx40
 go_upto_region 2 with (fail)
 generalize (w2.alloc (.cells #[.int .i64 x3.f0,.string x3.f1,.int .i64 x3.f2] 108)).alloc (.cells #[.int .i64 x4.f0,.string x4.f1,.int .i64 x4.f2] 108)=w3 at HM HT ⊢
 obtain⟨st,hst⟩:∃c,z2h (leftL ts p)=c:=⟨_,rfl⟩
 obtain⟨cm,hcm⟩:∃c,z1n (leftL ts p)=c:=⟨_,rfl⟩
 obtain⟨c1,hc1⟩:∃c,(kindL (leftL ts p)==2&&isL ((leftL ts p).drop 1) 1 [105,115])=c:=⟨_,rfl⟩
 obtain⟨c2,hc2⟩:∃c,isL (leftL ts p) 1 [110,111,116]=c:=⟨_,rfl⟩
 obtain⟨c3,hc3⟩:∃c,isL (leftL ts p) 1 [119,97,108,107]=c:=⟨_,rfl⟩
 obtain⟨c4,hc4⟩:∃c,predL (leftL ts p)=c:=⟨_,rfl⟩
 replace HQ:=z00.mk (show r=if(st&&cm)=true then z66 (leftL ts p)else if c1=true then letP (leftL ts p)else if c2=true then z4z 2 (leftL ts (p+1))else if c3=true then walkP (leftL ts (p+1))else if c4=true then z4z 1 (leftL ts p)else bnd (termP (leftL ts p)) fun _ r=>.error (r.length,2) by
  rw[HQ.out,←z0p ts p 1];unfold z1h;rw[hst,hcm,hc1,hc2,hc3,hc4])
 have HSEL:=z00.mk (show(if(st&&cm)=true then 0 else if c1=true then 1 else if c2=true then 2 else if c3=true then 3 else if c4=true then 4 else 5)=2 by
  unfold selL at hsel;rw[hst,hcm,hc1,hc2,hc3,hc4]at hsel;exact hsel)
 clear hsel;have HL0:z00 (cm=true→p+1<ts.length):=⟨fun h=>by
  rw[h]at hcm;unfold z1n mk1 at hcm;rw[z0p]at hcm;exact z5x fun e=>by rw[e]at hcm;cases hcm⟩
 have HL1:z00 (c1=true→p+1<ts.length):=⟨fun h=>by
  rw[h,z0p,Bool.and_eq_true]at hc1;exact z4y hc1.2⟩
 have HL2:z00 (c2=true→p<ts.length):=⟨fun h=>z4y (hc2.trans h)⟩
 have HL3:z00 (c3=true→p<ts.length):=⟨fun h=>z4y (hc3.trans h)⟩
 have HV1:z00 (((x3.f0==2)&&((x4.f0==1)&&(x4.f1.toList==[105,115])))=c1):=⟨zA0l⟩
 have HV2:z00 (((x3.f0==1)&&(x3.f1.toList==[110,111,116]))=c2):=⟨zA0v⟩
 have HV3:z00 (((x3.f0==1)&&(x3.f1.toList==[119,97,108,107]))=c3):=⟨zA0w⟩
 have HV4:z00 (((x3.f0==1)&&!keyL x3.f1.data.toList)=c4):=⟨zA0x⟩
 have HST:=z3c w0 w3 g ts p en HM.out.R HM.out.B;have HCM:=z00.mk (fun W h1 h2=>z3u w0 W g ts p en h1 h2);rw[hst]at HST;rw[hcm]at HCM;have HST:=z00.mk HST;clear hst hcm hc1 hc2 hc3 hc4 HX3 HX4
 go_cut [16] (fun v16 wc=>v16=.bool (st&&cm)∧z00 (L2 w0 w wc g n2 ts en p)∧z00 (Two wc n3 x3 x4))
 case first =>
  cases st with
  |false =>
   go_wp2_with fail
   refine HST.out.mono ?_;rintro e w4 ⟨rfl,R,B,K⟩;have HM2:=z00.mk (HM.out.call R B K);have HT2:=z00.mk (show Two w4 n3 x3 x4 from⟨K.blk HT.out.1 zA09 (by simp),K.blk HT.out.2 zA09 (by simp)⟩);clear R B K;go_wp2;go_meet
   case rel=>exact⟨rfl,HM2,HT2⟩
  |true =>
   go_wp2_with fail
   refine HST.out.mono ?_;rintro e w4 ⟨rfl,R,B,K⟩;have HM2:=z00.mk (HM.out.call R B K);have HT2:=z00.mk (show Two w4 n3 x3 x4 from⟨K.blk HT.out.1 zA09 (by simp),K.blk HT.out.2 zA09 (by simp)⟩);have HC:=z00.mk (HCM.out w4 R B);clear R B K
   go_wp2_with fail
   refine HC.out.mono ?_;rintro e w5 ⟨rfl,R,B,K⟩;replace HM2:=z00.mk (HM2.out.call R B K);replace HT2:=z00.mk (show Two w5 n3 x3 x4 from⟨K.blk HT2.out.1 zA09 (by simp),K.blk HT2.out.2 zA09 (by simp)⟩);clear R B K HC;go_wp2;go_meet
   case rel=>exact⟨rfl,HM2,HT2⟩
 case rest =>
 clear HM HT HST HCM;obtain⟨rfl,HM,HT⟩:=hcut;obtain⟨c0,hc0⟩:∃c,(st&&cm)=c:=⟨_,rfl⟩
 have HL0':z00 (c0=true→p+1<ts.length):=⟨fun h=>HL0.out zA0n⟩
 rw[hc0]at HQ HSEL ⊢;clear hc0 HL0
 cases c0 with
 |true =>
  simp only[if_true]at HQ;exact absurd HSEL.out (by simp)
 |false =>
 simp only[Bool.false_eq_true,if_false]at HQ;clear HL0';have h30:wc.cell? ⟨n3,0,none⟩=some (.int .i64 x3.f0):=(z01 HT.out.1 0).trans rfl;have h31:wc.cell? ⟨n3,1,none⟩=some (.string x3.f1):=(z01 HT.out.1 1).trans rfl;have h40:wc.cell? ⟨n3+1,0,none⟩=some (.int .i64 x4.f0):=(z01 HT.out.2 0).trans rfl;have h41:wc.cell? ⟨n3+1,1,none⟩=some (.string x4.f1):=(z01 HT.out.2 1).trans rfl
 go_upto_region 7 with (fail)
 go_cut [33] (fun v33 wc=>v33=.bool c1∧z00 (L2 w0 w wc g n2 ts en p)∧z00 (Two wc n3 x3 x4))
 case first =>
  cases k1:(x3.f0==2)with
  |false =>
   go_wp2;go_meet
   case rel=>exact⟨by rw[←HV1.out,k1];rfl,HM,HT⟩
  |true =>
   cases k2:(x4.f0==1)with
   |false =>
    go_wp2;go_meet
    case rel=>exact⟨by rw[←HV1.out,k1,k2];rfl,HM,HT⟩
   |true =>
    go_wp2;go_meet
    case rel=>exact⟨by rw[←HV1.out,k1,k2];first|rfl|(simp;done)|simp,HM,HT⟩
 case rest =>
 clear HM HT h30 h31 h40 h41;obtain⟨rfl,HM,HT⟩:=hcut
 cases c1 with
 |true =>
  simp only[if_true]at HQ;exact absurd HSEL.out (by simp)
 |false =>
 simp only[Bool.false_eq_true,if_false]at HQ;clear HL1 HV1;have h30:wc.cell? ⟨n3,0,none⟩=some (.int .i64 x3.f0):=(z01 HT.out.1 0).trans rfl;have h31:wc.cell? ⟨n3,1,none⟩=some (.string x3.f1):=(z01 HT.out.1 1).trans rfl
 go_upto_region 14 with (fail)
 go_cut [67] (fun v67 wc=>v67=.bool c2∧z00 (L2 w0 w wc g n2 ts en p)∧z00 (Two wc n3 x3 x4))
 case first =>
  cases k1:(x3.f0==1)with
  |false =>
   go_wp2;go_meet
   case rel=>exact⟨by rw[←HV2.out,k1];rfl,HM,HT⟩
  |true =>
   go_wp2;go_meet
   case rel=>exact⟨by rw[←HV2.out,k1];first|rfl|(simp;done)|simp,HM,HT⟩
 case rest =>
 clear HM HT h30 h31;obtain⟨rfl,HM,HT⟩:=hcut
 cases c2 with
 |true =>
  simp only[if_true]at HQ;obtain⟨Ag,cg,hbg,_⟩:=id HM.out.R;have hcg:wc.cell? ⟨g,1,none⟩=some (.int .i64 p):=(z01 hbg 1).trans rfl;have hfg:=z02 hbg 1;clear hbg;replace HM:=z00.mk (HM.out.move (p+1) (HL2.out (by trivial)));rw[show((p+1:Nat):Int)=(p:Int)+1 by omega]at HM;have HC:=z00.mk (z7d w0 (wc.setCell ⟨g,1,none⟩ (.int .i64 ((p:Int)+1))) g ts (p+1) en false HE.out HM.out.R HM.out.B)
  go_wp2_with fail
  refine HC.out.mono ?_;intro e wa1 hp;rcases hp.split with ⟨y1,pa1,va1,ey,rfl,⟨u,rfl,hu⟩,R,B,K⟩|⟨q,i,p2',ey,h1,h2,rfl,R,B,K⟩
  case inr=>exact⟨rfl,Post.as (HQ.out.trans (z3m ey)) (Post.thrown_ h1 h2 R B (HM.out.K.trans K (.inl rfl)))⟩
  have hb1:=HM.out.K.1;have hb2:=z26 HM.out.b2;obtain⟨Au,cu,rfl⟩:=Kd.R_slice hu;have HU:=z00.mk (show Kd.R k60 60 wa1 w.heap.size (fun k=>w.heap.size≤k∧k≠n2) (.slice Au y1.1.f1.length cu) y1.1.f1 from Kd.R_mono (Kd.R_lower hu hb1) (fun k hk=>⟨Nat.le_trans hb1 hk,by omega⟩));clear hu hb1 hb2;have HE1:=z00.mk ey;replace HQ:=z00.mk (HQ.out.trans (z2z ey));replace HM:=z00.mk (HM.out.call R B K);clear R B K hp HC ey;clear hcg hfg;replace HM:=z00.mk (HM.out.alloc_ (.cells #[.string y1.1.f0,.slice Au y1.1.f1.length cu] 25));replace HU:=z00.mk (Kd.R_alloc HU.out (.cells #[.string y1.1.f0,.slice Au y1.1.f1.length cu] 25));obtain⟨P1,P2⟩:=(HM.out).ends [.int .i64 2,.string y1.1.f0,.slice Au y1.1.f1.length cu,.string ⟨#[]⟩,.string ⟨#[]⟩,.int .i64 0,.int .i64 0,.string ⟨#[]⟩,.string ⟨#[]⟩,.int .i64 0,.int .i64 0,.string ⟨#[]⟩,.string ⟨#[]⟩,.int .i64 0,.int .i64 0,.string ⟨#[]⟩,.slice none 0 0] (cs':=#[.int .i64 2,.string y1.1.f0,.slice Au y1.1.f1.length cu,.string ⟨#[]⟩,.string ⟨#[]⟩,.int .i64 0,.int .i64 0,.string ⟨#[]⟩,.string ⟨#[]⟩,.int .i64 0,.int .i64 0,.string ⟨#[]⟩,.string ⟨#[]⟩,.int .i64 0,.int .i64 0,.string ⟨#[]⟩,.slice none 0 0]) (by kernel_rfl);have P3:=z00.mk (Post.as (r':=.ok ((⟨2,y1.1,⟨#[]⟩,noneT,noneT,noneT,[]⟩:LtS),leftL ts pa1)) HQ.out (P2.out ((⟨2,y1.1,⟨#[]⟩,noneT,noneT,noneT,[]⟩:LtS)) (.slice Au y1.1.f1.length cu) (.slice none 0 0) rfl (HU.out) (Kd.R_nil _ _ _ _ _)));clear P2
  go_wp2_with (first|((with_reducible refine z3v (t:=62) (p:=2) (v:=.tmp 89) rfl ?_);refine wpList_store_mid rfl 62 (.tmp 2) (.tmp 89) rfl n2 0 #[.int .i64 2,.string y1.1.f0,.slice Au y1.1.f1.length cu,.string ⟨#[]⟩,.string ⟨#[]⟩,.int .i64 0,.int .i64 0,.string ⟨#[]⟩,.string ⟨#[]⟩,.int .i64 0,.int .i64 0,.string ⟨#[]⟩,.string ⟨#[]⟩,.int .i64 0,.int .i64 0,.string ⟨#[]⟩,.slice none 0 0] rfl rfl (z4u HM.out.b2 (Nat.le_of_eq (by kernel_rfl))) (by kernel_rfl) (by kernel_rfl) ?_;rw[z2p]))
  refine bodyPost_ret (results_cell_row rfl _ _ n2 62 #[.int .i64 2,.string y1.1.f0,.slice Au y1.1.f1.length cu,.string ⟨#[]⟩,.string ⟨#[]⟩,.int .i64 0,.int .i64 0,.string ⟨#[]⟩,.string ⟨#[]⟩,.int .i64 0,.int .i64 0,.string ⟨#[]⟩,.string ⟨#[]⟩,.int .i64 0,.int .i64 0,.string ⟨#[]⟩,.slice none 0 0] (0,0) _ rfl P1.out Tryz.underlying62 rfl (by kernel_rfl)) rfl ?_;exact P3.out
 |false=>exact absurd HSEL.out zA0s

set_option maxHeartbeats 4000000 in
set_option maxRecDepth 100000 in
theorem zjs (w0 w:World) (g:Nat) (ts:List S108) (p:Nat) (en:Int) (hE:Env w0 ts) (hsel:selL (leftL ts p)=3) (hI:Rd w0 w g ts p en) (hB:Below w0.heap.size w0 w) :
 Calls Tryz.prog 116 #[.pointer (some ⟨g,0,none⟩)] w fun e w'=>Post w0 w g ts en (z1h (leftL ts p)) (fun v w' x=>litV w' w.heap.size v x) e w':=by
 have HE:=z00.mk hE;obtain⟨n2,en2⟩:∃n,w.heap.size=n:=⟨_,rfl⟩
 have hN:=z0q w (.cells zLit 62);rw[en2]at hN;have HM:=z00.mk (show L2 w0 w (w.alloc (.cells zLit 62)) g n2 ts en p from⟨hI.alloc _,z03 hB _,z1k (z0k.refl w g none) _,hN,hB.size,hI.lt,by omega⟩);have HS:=z00.mk (z29 w0 _ g ts p en 0 (by omega) HM.out.R HM.out.B);rw[Nat.add_zero]at HS;obtain⟨r,hr⟩:∃r,z1h (leftL ts p)=r:=⟨_,rfl⟩
 rw[hr];have HQ:=z00.mk hr.symm;have HK3:=z00.mk (z32 ts en p);obtain⟨x3,hx3⟩:∃x,seeP ts en p=x:=⟨_,rfl⟩
 obtain⟨x4,hx4⟩:∃x,seeP ts en (p+1)=x:=⟨_,rfl⟩
 rw[hx3]at HS;have HX3:=z00.mk hx3;have HX4:=z00.mk hx4;clear hE hI hB hN hr hx3 hx4 HK3;go_enter Tryz.func116,Tryz.ntmps116
 go_wp2_with fail
 refine HS.out.mono ?_;rintro e w1 ⟨rfl,R,B,K⟩;replace HM:=z00.mk (HM.out.call R B K);clear R B K HS;have HS:=z29 w0 _ g ts p en 1 (by omega) HM.out.R HM.out.B;rw[HX4.out]at HS;have HS:=z00.mk HS
 go_wp2_with fail
 refine HS.out.mono ?_;rintro e w2 ⟨rfl,R,B,K⟩;replace HM:=z00.mk (HM.out.call R B K);clear R B K HS;obtain⟨n3,en3⟩:∃n,w2.heap.size=n:=⟨_,rfl⟩
 have hx30:=z0c (z0q w2 (.cells #[.int .i64 x3.f0,.string x3.f1,.int .i64 x3.f2] 108)) (.cells #[.int .i64 x4.f0,.string x4.f1,.int .i64 x4.f2] 108);have hx40:=z0q (w2.alloc (.cells #[.int .i64 x3.f0,.string x3.f1,.int .i64 x3.f2] 108)) (.cells #[.int .i64 x4.f0,.string x4.f1,.int .i64 x4.f2] 108);rw[en3]at hx30;rw[show(w2.alloc (.cells #[.int .i64 x3.f0,.string x3.f1,.int .i64 x3.f2] 108)).heap.size=n3+1 by simp[en3]]at hx40;have HT:=z00.mk (show Two _ n3 x3 x4 from⟨hx30,hx40⟩);have HG3:=z00.mk (show g<n3 by have:=HM.out.R.lt;omega);replace HM:=z00.mk ((HM.out.alloc_ (.cells #[.int .i64 x3.f0,.string x3.f1,.int .i64 x3.f2] 108)).alloc_ (.cells #[.int .i64 x4.f0,.string x4.f1,.int .i64 x4.f2] 108));clear hx30 hx40
 go_upto_region 2 with (fail)
 generalize (w2.alloc (.cells #[.int .i64 x3.f0,.string x3.f1,.int .i64 x3.f2] 108)).alloc (.cells #[.int .i64 x4.f0,.string x4.f1,.int .i64 x4.f2] 108)=w3 at HM HT ⊢
 obtain⟨st,hst⟩:∃c,z2h (leftL ts p)=c:=⟨_,rfl⟩
 obtain⟨cm,hcm⟩:∃c,z1n (leftL ts p)=c:=⟨_,rfl⟩
 obtain⟨c1,hc1⟩:∃c,(kindL (leftL ts p)==2&&isL ((leftL ts p).drop 1) 1 [105,115])=c:=⟨_,rfl⟩
 obtain⟨c2,hc2⟩:∃c,isL (leftL ts p) 1 [110,111,116]=c:=⟨_,rfl⟩
 obtain⟨c3,hc3⟩:∃c,isL (leftL ts p) 1 [119,97,108,107]=c:=⟨_,rfl⟩
 obtain⟨c4,hc4⟩:∃c,predL (leftL ts p)=c:=⟨_,rfl⟩
 replace HQ:=z00.mk (show r=if(st&&cm)=true then z66 (leftL ts p)else if c1=true then letP (leftL ts p)else if c2=true then z4z 2 (leftL ts (p+1))else if c3=true then walkP (leftL ts (p+1))else if c4=true then z4z 1 (leftL ts p)else bnd (termP (leftL ts p)) fun _ r=>.error (r.length,2) by
  rw[HQ.out,←z0p ts p 1];unfold z1h;rw[hst,hcm,hc1,hc2,hc3,hc4])
 have HSEL:=z00.mk (show(if(st&&cm)=true then 0 else if c1=true then 1 else if c2=true then 2 else if c3=true then 3 else if c4=true then 4 else 5)=3 by
  unfold selL at hsel;rw[hst,hcm,hc1,hc2,hc3,hc4]at hsel;exact hsel)
 clear hsel;have HL0:z00 (cm=true→p+1<ts.length):=⟨fun h=>by
  rw[h]at hcm;unfold z1n mk1 at hcm;rw[z0p]at hcm;exact z5x fun e=>by rw[e]at hcm;cases hcm⟩
 have HL1:z00 (c1=true→p+1<ts.length):=⟨fun h=>by
  rw[h,z0p,Bool.and_eq_true]at hc1;exact z4y hc1.2⟩
 have HL2:z00 (c2=true→p<ts.length):=⟨fun h=>z4y (hc2.trans h)⟩
 have HL3:z00 (c3=true→p<ts.length):=⟨fun h=>z4y (hc3.trans h)⟩
 have HV1:z00 (((x3.f0==2)&&((x4.f0==1)&&(x4.f1.toList==[105,115])))=c1):=⟨zA0l⟩
 have HV2:z00 (((x3.f0==1)&&(x3.f1.toList==[110,111,116]))=c2):=⟨zA0v⟩
 have HV3:z00 (((x3.f0==1)&&(x3.f1.toList==[119,97,108,107]))=c3):=⟨zA0w⟩
 have HV4:z00 (((x3.f0==1)&&!keyL x3.f1.data.toList)=c4):=⟨zA0x⟩
 have HST:=z3c w0 w3 g ts p en HM.out.R HM.out.B;have HCM:=z00.mk (fun W h1 h2=>z3u w0 W g ts p en h1 h2);rw[hst]at HST;rw[hcm]at HCM;have HST:=z00.mk HST;clear hst hcm hc1 hc2 hc3 hc4 HX3 HX4
 go_cut [16] (fun v16 wc=>v16=.bool (st&&cm)∧z00 (L2 w0 w wc g n2 ts en p)∧z00 (Two wc n3 x3 x4))
 case first =>
  cases st with
  |false =>
   go_wp2_with fail
   refine HST.out.mono ?_;rintro e w4 ⟨rfl,R,B,K⟩;have HM2:=z00.mk (HM.out.call R B K);have HT2:=z00.mk (show Two w4 n3 x3 x4 from⟨K.blk HT.out.1 zA09 (by simp),K.blk HT.out.2 zA09 (by simp)⟩);clear R B K;go_wp2;go_meet
   case rel=>exact⟨rfl,HM2,HT2⟩
  |true =>
   go_wp2_with fail
   refine HST.out.mono ?_;rintro e w4 ⟨rfl,R,B,K⟩;have HM2:=z00.mk (HM.out.call R B K);have HT2:=z00.mk (show Two w4 n3 x3 x4 from⟨K.blk HT.out.1 zA09 (by simp),K.blk HT.out.2 zA09 (by simp)⟩);have HC:=z00.mk (HCM.out w4 R B);clear R B K
   go_wp2_with fail
   refine HC.out.mono ?_;rintro e w5 ⟨rfl,R,B,K⟩;replace HM2:=z00.mk (HM2.out.call R B K);replace HT2:=z00.mk (show Two w5 n3 x3 x4 from⟨K.blk HT2.out.1 zA09 (by simp),K.blk HT2.out.2 zA09 (by simp)⟩);clear R B K HC;go_wp2;go_meet
   case rel=>exact⟨rfl,HM2,HT2⟩
 case rest =>
 clear HM HT HST HCM;obtain⟨rfl,HM,HT⟩:=hcut;obtain⟨c0,hc0⟩:∃c,(st&&cm)=c:=⟨_,rfl⟩
 have HL0':z00 (c0=true→p+1<ts.length):=⟨fun h=>HL0.out zA0n⟩
 rw[hc0]at HQ HSEL ⊢;clear hc0 HL0
 cases c0 with
 |true =>
  simp only[if_true]at HQ;exact absurd HSEL.out (by simp)
 |false =>
 simp only[Bool.false_eq_true,if_false]at HQ;clear HL0';have h30:wc.cell? ⟨n3,0,none⟩=some (.int .i64 x3.f0):=(z01 HT.out.1 0).trans rfl;have h31:wc.cell? ⟨n3,1,none⟩=some (.string x3.f1):=(z01 HT.out.1 1).trans rfl;have h40:wc.cell? ⟨n3+1,0,none⟩=some (.int .i64 x4.f0):=(z01 HT.out.2 0).trans rfl;have h41:wc.cell? ⟨n3+1,1,none⟩=some (.string x4.f1):=(z01 HT.out.2 1).trans rfl
 go_upto_region 7 with (fail)
 go_cut [33] (fun v33 wc=>v33=.bool c1∧z00 (L2 w0 w wc g n2 ts en p)∧z00 (Two wc n3 x3 x4))
 case first =>
  cases k1:(x3.f0==2)with
  |false =>
   go_wp2;go_meet
   case rel=>exact⟨by rw[←HV1.out,k1];rfl,HM,HT⟩
  |true =>
   cases k2:(x4.f0==1)with
   |false =>
    go_wp2;go_meet
    case rel=>exact⟨by rw[←HV1.out,k1,k2];rfl,HM,HT⟩
   |true =>
    go_wp2;go_meet
    case rel=>exact⟨by rw[←HV1.out,k1,k2];first|rfl|(simp;done)|simp,HM,HT⟩
 case rest =>
 clear HM HT h30 h31 h40 h41;obtain⟨rfl,HM,HT⟩:=hcut
 cases c1 with
 |true =>
  simp only[if_true]at HQ;exact absurd HSEL.out (by simp)
 |false =>
 simp only[Bool.false_eq_true,if_false]at HQ;clear HL1 HV1;have h30:wc.cell? ⟨n3,0,none⟩=some (.int .i64 x3.f0):=(z01 HT.out.1 0).trans rfl;have h31:wc.cell? ⟨n3,1,none⟩=some (.string x3.f1):=(z01 HT.out.1 1).trans rfl
 go_upto_region 14 with (fail)
 go_cut [67] (fun v67 wc=>v67=.bool c2∧z00 (L2 w0 w wc g n2 ts en p)∧z00 (Two wc n3 x3 x4))
 case first =>
  cases k1:(x3.f0==1)with
  |false =>
   go_wp2;go_meet
   case rel=>exact⟨by rw[←HV2.out,k1];rfl,HM,HT⟩
  |true =>
   go_wp2;go_meet
   case rel=>exact⟨by rw[←HV2.out,k1];first|rfl|(simp;done)|simp,HM,HT⟩
 case rest =>
 clear HM HT h30 h31;obtain⟨rfl,HM,HT⟩:=hcut
 cases c2 with
 |true =>
  simp only[if_true]at HQ;exact absurd HSEL.out (by simp)
 |false =>
 simp only[Bool.false_eq_true,if_false]at HQ;clear HL2 HV2;have h30:wc.cell? ⟨n3,0,none⟩=some (.int .i64 x3.f0):=(z01 HT.out.1 0).trans rfl;have h31:wc.cell? ⟨n3,1,none⟩=some (.string x3.f1):=(z01 HT.out.1 1).trans rfl
 go_upto_region 18 with (fail)
 go_cut [90] (fun v90 wc=>v90=.bool c3∧z00 (L2 w0 w wc g n2 ts en p)∧z00 (Two wc n3 x3 x4))
 case first =>
  cases k1:(x3.f0==1)with
  |false =>
   go_wp2;go_meet
   case rel=>exact⟨by rw[←HV3.out,k1];rfl,HM,HT⟩
  |true =>
   go_wp2;go_meet
   case rel=>exact⟨by rw[←HV3.out,k1];first|rfl|(simp;done)|simp,HM,HT⟩
 case rest =>
 clear HM HT h30 h31;obtain⟨rfl,HM,HT⟩:=hcut
 cases c3 with
 |true =>
  simp only[if_true]at HQ;obtain⟨Ag,cg,hbg,_⟩:=id HM.out.R;have hcg:wc.cell? ⟨g,1,none⟩=some (.int .i64 p):=(z01 hbg 1).trans rfl;have hfg:=z02 hbg 1;clear hbg;replace HM:=z00.mk (HM.out.move (p+1) (HL3.out (by trivial)));rw[show((p+1:Nat):Int)=(p:Int)+1 by omega]at HM;have HC:=z00.mk (show Calls Tryz.prog 88 #[.pointer (some ⟨g,0,none⟩),.string ⟨#[40]⟩] (wc.setCell ⟨g,1,none⟩ (.int .i64 ((p:Int)+1))) fun e w'=>Post w0 (wc.setCell ⟨g,1,none⟩ (.int .i64 ((p:Int)+1))) g ts en (wantP [40] (leftL ts (p+1))) (fun v _ _=>v=.tuple #[]) e w' from z3i w0 (wc.setCell ⟨g,1,none⟩ (.int .i64 ((p:Int)+1))) g ts (p+1) en ⟨#[40]⟩ HM.out.R HM.out.B)
  go_wp2_with fail
  refine HC.out.mono ?_;intro e wa1 hp;rcases hp.split with ⟨y0,pa1,va1,ey,rfl,rfl,R,B,K⟩|⟨q,i,p2',ey,h1,h2,rfl,R,B,K⟩
  case inr=>exact⟨rfl,Post.as (HQ.out.trans (z3m ey)) (Post.thrown_ h1 h2 R B (HM.out.K.trans K (.inl rfl)))⟩
  have HE1:=z00.mk ey;replace HQ:=z00.mk (HQ.out.trans (z2z ey));replace HM:=z00.mk (HM.out.call R B K);clear R B K hp HC ey;clear hcg hfg;have HC:=z00.mk (z4q w0 wa1 g ts pa1 en HE.out HM.out.R HM.out.B)
  go_wp2_with fail
  refine HC.out.mono ?_;intro e wa2 hp;rcases hp.split with ⟨y1,pa2,va2,ey,rfl,rfl,R,B,K⟩|⟨q,i,p2',ey,h1,h2,rfl,R,B,K⟩
  case inr=>exact⟨rfl,Post.as (HQ.out.trans (z3m ey)) (Post.thrown_ h1 h2 R B (HM.out.K.trans K (.inl rfl)))⟩
  have HE2:=z00.mk ey;replace HQ:=z00.mk (HQ.out.trans (z2z ey));replace HM:=z00.mk (HM.out.call R B K);clear R B K hp HC ey;obtain⟨n5,en5⟩:∃n,wa2.heap.size=n:=⟨_,rfl⟩
  replace HM:=z00.mk (HM.out.alloc #[.int .i64 5,.string ⟨#[]⟩,.slice none 0 0,.string ⟨#[]⟩,.string y1.f0,.int .i64 y1.f1.f0,.int .i64 y1.f1.f1,.string y1.f1.f2,.string ⟨#[]⟩,.int .i64 0,.int .i64 0,.string ⟨#[]⟩,.string ⟨#[]⟩,.int .i64 0,.int .i64 0,.string ⟨#[]⟩,.slice none 0 0] en5);simp only[tmV];have HC:=z00.mk (show Calls Tryz.prog 88 #[.pointer (some ⟨g,0,none⟩),.string ⟨#[44]⟩] (wa2.alloc (.cells #[.int .i64 5,.string ⟨#[]⟩,.slice none 0 0,.string ⟨#[]⟩,.string y1.f0,.int .i64 y1.f1.f0,.int .i64 y1.f1.f1,.string y1.f1.f2,.string ⟨#[]⟩,.int .i64 0,.int .i64 0,.string ⟨#[]⟩,.string ⟨#[]⟩,.int .i64 0,.int .i64 0,.string ⟨#[]⟩,.slice none 0 0] 62)) fun e w'=>Post w0 (wa2.alloc (.cells #[.int .i64 5,.string ⟨#[]⟩,.slice none 0 0,.string ⟨#[]⟩,.string y1.f0,.int .i64 y1.f1.f0,.int .i64 y1.f1.f1,.string y1.f1.f2,.string ⟨#[]⟩,.int .i64 0,.int .i64 0,.string ⟨#[]⟩,.string ⟨#[]⟩,.int .i64 0,.int .i64 0,.string ⟨#[]⟩,.slice none 0 0] 62)) g ts en (wantP [44] (leftL ts pa2)) (fun v _ _=>v=.tuple #[]) e w' from z3i w0 (wa2.alloc (.cells #[.int .i64 5,.string ⟨#[]⟩,.slice none 0 0,.string ⟨#[]⟩,.string y1.f0,.int .i64 y1.f1.f0,.int .i64 y1.f1.f1,.string y1.f1.f2,.string ⟨#[]⟩,.int .i64 0,.int .i64 0,.string ⟨#[]⟩,.string ⟨#[]⟩,.int .i64 0,.int .i64 0,.string ⟨#[]⟩,.slice none 0 0] 62)) g ts pa2 en ⟨#[44]⟩ HM.out.R HM.out.B)
  go_wp2_with fail
  refine HC.out.mono ?_;intro e wa3 hp;rcases hp.split with ⟨y2,pa3,va3,ey,rfl,rfl,R,B,K⟩|⟨q,i,p2',ey,h1,h2,rfl,R,B,K⟩
  case inr=>exact⟨rfl,Post.as (HQ.out.trans (z3m ey)) (Post.thrown_ h1 h2 R B (HM.out.K.trans K (.inl rfl)))⟩
  have HE3:=z00.mk ey;replace HQ:=z00.mk (HQ.out.trans (z2z ey));replace HM:=z00.mk (HM.out.call R B K);clear R B K hp HC ey;have HC:=z00.mk (zfp w0 wa3 g ts pa3 en HM.out.R HM.out.B)
  go_wp2_with fail
  refine HC.out.mono ?_;intro e wa4 hp;rcases hp.split with ⟨y3,pa4,va4,ey,rfl,hu,R,B,K⟩|⟨q,i,p2',ey,h1,h2,rfl,R,B,K⟩
  case inr=>exact⟨rfl,Post.as (HQ.out.trans (z3m ey)) (Post.thrown_ h1 h2 R B (HM.out.K.trans K (.inl rfl)))⟩
  have hb1:=HM.out.K.1;have hb2:=z26 HM.out.b2;have hb5:=z26 HM.out.b5;obtain⟨Au,cu,rfl⟩:=Kd.R_slice hu;have HU:=z00.mk (show Kd.R k69 69 wa4 w.heap.size (fun k=>w.heap.size≤k∧k≠n2∧k≠n5) (.slice Au y3.length cu) y3 from Kd.R_mono (Kd.R_lower hu hb1) (fun k hk=>⟨Nat.le_trans hb1 hk,by omega,by omega⟩));clear hu hb1 hb2 hb5;have HE4:=z00.mk ey;replace HQ:=z00.mk (HQ.out.trans (z2z ey));replace HM:=z00.mk (HM.out.call R B K);clear R B K hp HC ey;have hx16:wa4.cell? ⟨n5,16,none⟩=some (.slice none 0 0):=(z01 HM.out.b5 16).trans rfl;have hxf16:=z02 HM.out.b5 16;replace HU:=z00.mk (show Kd.R k69 69 (wa4.setCell ⟨n5,16,none⟩ (.slice Au y3.length cu)) w.heap.size (fun k=>w.heap.size≤k∧k≠n2∧k≠n5) (.slice Au y3.length cu) y3 from z5i (fun k hk=>hk.2.2) [.slice Au y3.length cu] 16 _ HU.out);replace HM:=z00.mk (show L5 w0 w (wa4.setCell ⟨n5,16,none⟩ (.slice Au y3.length cu)) g n2 n5 ts en pa4 #[.int .i64 5,.string ⟨#[]⟩,.slice none 0 0,.string ⟨#[]⟩,.string y1.f0,.int .i64 y1.f1.f0,.int .i64 y1.f1.f1,.string y1.f1.f2,.string ⟨#[]⟩,.int .i64 0,.int .i64 0,.string ⟨#[]⟩,.string ⟨#[]⟩,.int .i64 0,.int .i64 0,.string ⟨#[]⟩,.slice Au y3.length cu]from HM.out.put5 16 [.slice Au y3.length cu] (by kernel_rfl));have HC:=z00.mk (show Calls Tryz.prog 88 #[.pointer (some ⟨g,0,none⟩),.string ⟨#[44]⟩] (wa4.setCell ⟨n5,16,none⟩ (.slice Au y3.length cu)) fun e w'=>Post w0 (wa4.setCell ⟨n5,16,none⟩ (.slice Au y3.length cu)) g ts en (wantP [44] (leftL ts pa4)) (fun v _ _=>v=.tuple #[]) e w' from z3i w0 (wa4.setCell ⟨n5,16,none⟩ (.slice Au y3.length cu)) g ts pa4 en ⟨#[44]⟩ HM.out.R HM.out.B)
  go_wp2_with fail
  refine HC.out.mono ?_;intro e wa5 hp;rcases hp.split with ⟨y4,pa5,va5,ey,rfl,rfl,R,B,K⟩|⟨q,i,p2',ey,h1,h2,rfl,R,B,K⟩
  case inr=>exact⟨rfl,Post.as (HQ.out.trans (z3m ey)) (Post.thrown_ h1 h2 R B (HM.out.K.trans K (.inl rfl)))⟩
  replace HU:=z00.mk (Kd.R_keep HU.out K (fun k hk=>by have h1:=hk.1;have h2:=HM.out.gw;omega));have HE5:=z00.mk ey;replace HQ:=z00.mk (HQ.out.trans (z2z ey));replace HM:=z00.mk (HM.out.call R B K);clear R B K hp HC ey;clear hx16 hxf16;have HC:=z00.mk (z4q w0 wa5 g ts pa5 en HE.out HM.out.R HM.out.B)
  go_wp2_with fail
  refine HC.out.mono ?_;intro e wa6 hp;rcases hp.split with ⟨y5,pa6,va6,ey,rfl,rfl,R,B,K⟩|⟨q,i,p2',ey,h1,h2,rfl,R,B,K⟩
  case inr=>exact⟨rfl,Post.as (HQ.out.trans (z3m ey)) (Post.thrown_ h1 h2 R B (HM.out.K.trans K (.inl rfl)))⟩
  replace HU:=z00.mk (Kd.R_keep HU.out K (fun k hk=>by have h1:=hk.1;have h2:=HM.out.gw;omega));have HE6:=z00.mk ey;replace HQ:=z00.mk (HQ.out.trans (z2z ey));replace HM:=z00.mk (HM.out.call R B K);clear R B K hp HC ey;have hx8:wa6.cell? ⟨n5,8,none⟩=some (.string ⟨#[]⟩):=(z01 HM.out.b5 8).trans rfl;have hx9:wa6.cell? ⟨n5,9,none⟩=some (.int .i64 0):=(z01 HM.out.b5 9).trans rfl;have hx10:wa6.cell? ⟨n5,10,none⟩=some (.int .i64 0):=(z01 HM.out.b5 10).trans rfl;have hx11:wa6.cell? ⟨n5,11,none⟩=some (.string ⟨#[]⟩):=(z01 HM.out.b5 11).trans rfl;have hxf8:=z02 HM.out.b5 8;have hxf9:=z02 HM.out.b5 9;have hxf10:=z02 HM.out.b5 10;have hxf11:=z02 HM.out.b5 11;simp only[tmV];replace HU:=z00.mk (show Kd.R k69 69 ((((wa6.setCell ⟨n5,8,none⟩ (.string y5.f0)).setCell ⟨n5,9,none⟩ (.int .i64 y5.f1.f0)).setCell ⟨n5,10,none⟩ (.int .i64 y5.f1.f1)).setCell ⟨n5,11,none⟩ (.string y5.f1.f2)) w.heap.size (fun k=>w.heap.size≤k∧k≠n2∧k≠n5) (.slice Au y3.length cu) y3 from z5i (fun k hk=>hk.2.2) [.string y5.f0,.int .i64 y5.f1.f0,.int .i64 y5.f1.f1,.string y5.f1.f2] 8 _ HU.out);replace HM:=z00.mk (show L5 w0 w ((((wa6.setCell ⟨n5,8,none⟩ (.string y5.f0)).setCell ⟨n5,9,none⟩ (.int .i64 y5.f1.f0)).setCell ⟨n5,10,none⟩ (.int .i64 y5.f1.f1)).setCell ⟨n5,11,none⟩ (.string y5.f1.f2)) g n2 n5 ts en pa6 #[.int .i64 5,.string ⟨#[]⟩,.slice none 0 0,.string ⟨#[]⟩,.string y1.f0,.int .i64 y1.f1.f0,.int .i64 y1.f1.f1,.string y1.f1.f2,.string y5.f0,.int .i64 y5.f1.f0,.int .i64 y5.f1.f1,.string y5.f1.f2,.string ⟨#[]⟩,.int .i64 0,.int .i64 0,.string ⟨#[]⟩,.slice Au y3.length cu]from HM.out.put5 8 [.string y5.f0,.int .i64 y5.f1.f0,.int .i64 y5.f1.f1,.string y5.f1.f2] (by kernel_rfl))
  have HC:=z00.mk (show Calls Tryz.prog 88 #[.pointer (some ⟨g,0,none⟩),.string ⟨#[41]⟩] ((((wa6.setCell ⟨n5,8,none⟩ (.string y5.f0)).setCell ⟨n5,9,none⟩ (.int .i64 y5.f1.f0)).setCell ⟨n5,10,none⟩ (.int .i64 y5.f1.f1)).setCell ⟨n5,11,none⟩ (.string y5.f1.f2)) fun e w'=>Post w0 ((((wa6.setCell ⟨n5,8,none⟩ (.string y5.f0)).setCell ⟨n5,9,none⟩ (.int .i64 y5.f1.f0)).setCell ⟨n5,10,none⟩ (.int .i64 y5.f1.f1)).setCell ⟨n5,11,none⟩ (.string y5.f1.f2)) g ts en (wantP [41] (leftL ts pa6)) (fun v _ _=>v=.tuple #[]) e w' from z3i w0 ((((wa6.setCell ⟨n5,8,none⟩ (.string y5.f0)).setCell ⟨n5,9,none⟩ (.int .i64 y5.f1.f0)).setCell ⟨n5,10,none⟩ (.int .i64 y5.f1.f1)).setCell ⟨n5,11,none⟩ (.string y5.f1.f2)) g ts pa6 en ⟨#[41]⟩ HM.out.R HM.out.B)
  go_wp2_with fail
  refine HC.out.mono ?_;intro e wa7 hp;rcases hp.split with ⟨y6,pa7,va7,ey,rfl,rfl,R,B,K⟩|⟨q,i,p2',ey,h1,h2,rfl,R,B,K⟩
  case inr=>exact⟨rfl,Post.as (HQ.out.trans (z3m ey)) (Post.thrown_ h1 h2 R B (HM.out.K.trans K (.inl rfl)))⟩
  replace HU:=z00.mk (Kd.R_keep HU.out K (fun k hk=>by have h1:=hk.1;have h2:=HM.out.gw;omega));have HE7:=z00.mk ey;replace HQ:=z00.mk (HQ.out.trans (z2z ey));replace HM:=z00.mk (HM.out.call R B K);clear R B K hp HC ey;clear hx8 hx9 hx10 hx11 hxf8 hxf9 hxf10 hxf11;obtain⟨P1,P2⟩:=(HM.out.toL2).ends [.int .i64 5,.string ⟨#[]⟩,.slice none 0 0,.string ⟨#[]⟩,.string y1.f0,.int .i64 y1.f1.f0,.int .i64 y1.f1.f1,.string y1.f1.f2,.string y5.f0,.int .i64 y5.f1.f0,.int .i64 y5.f1.f1,.string y5.f1.f2,.string ⟨#[]⟩,.int .i64 0,.int .i64 0,.string ⟨#[]⟩,.slice Au y3.length cu] (cs':=#[.int .i64 5,.string ⟨#[]⟩,.slice none 0 0,.string ⟨#[]⟩,.string y1.f0,.int .i64 y1.f1.f0,.int .i64 y1.f1.f1,.string y1.f1.f2,.string y5.f0,.int .i64 y5.f1.f0,.int .i64 y5.f1.f1,.string y5.f1.f2,.string ⟨#[]⟩,.int .i64 0,.int .i64 0,.string ⟨#[]⟩,.slice Au y3.length cu]) (by kernel_rfl);have P3:=z00.mk (Post.as (r':=.ok ((⟨5,noneA,⟨#[]⟩,y1,y5,noneT,y3⟩:LtS),leftL ts pa7)) HQ.out (P2.out ((⟨5,noneA,⟨#[]⟩,y1,y5,noneT,y3⟩:LtS)) (.slice none 0 0) (.slice Au y3.length cu) rfl (Kd.R_nil _ _ _ _ _) (Kd.R_mono HU.out (fun k hk=>⟨hk.1,hk.2.1⟩))));clear P2
  go_wp2_with (first|((with_reducible refine z1r (N:=123) rfl ?_);refine wpList_load_mid rfl 62 (.tmp 9) rfl n5 0 rfl [.int .i64 5,.string ⟨#[]⟩,.slice none 0 0,.string ⟨#[]⟩,.string y1.f0,.int .i64 y1.f1.f0,.int .i64 y1.f1.f1,.string y1.f1.f2,.string y5.f0,.int .i64 y5.f1.f0,.int .i64 y5.f1.f1,.string y5.f1.f2,.string ⟨#[]⟩,.int .i64 0,.int .i64 0,.string ⟨#[]⟩,.slice Au y3.length cu] _ (z71 HM.out.b5) Tryz.underlying62 rfl (by kernel_rfl) ?_)|((with_reducible refine z3v (t:=62) (p:=2) (v:=.tmp 123) rfl ?_);refine wpList_store_mid rfl 62 (.tmp 2) (.tmp 123) rfl n2 0 #[.int .i64 5,.string ⟨#[]⟩,.slice none 0 0,.string ⟨#[]⟩,.string y1.f0,.int .i64 y1.f1.f0,.int .i64 y1.f1.f1,.string y1.f1.f2,.string y5.f0,.int .i64 y5.f1.f0,.int .i64 y5.f1.f1,.string y5.f1.f2,.string ⟨#[]⟩,.int .i64 0,.int .i64 0,.string ⟨#[]⟩,.slice Au y3.length cu] rfl rfl (z4u HM.out.b2 (Nat.le_of_eq (by kernel_rfl))) (by kernel_rfl) (by kernel_rfl) ?_;rw[z2p]))
  refine bodyPost_ret (results_cell_row rfl _ _ n2 62 #[.int .i64 5,.string ⟨#[]⟩,.slice none 0 0,.string ⟨#[]⟩,.string y1.f0,.int .i64 y1.f1.f0,.int .i64 y1.f1.f1,.string y1.f1.f2,.string y5.f0,.int .i64 y5.f1.f0,.int .i64 y5.f1.f1,.string y5.f1.f2,.string ⟨#[]⟩,.int .i64 0,.int .i64 0,.string ⟨#[]⟩,.slice Au y3.length cu] (0,0) _ rfl P1.out Tryz.underlying62 rfl (by kernel_rfl)) rfl ?_;exact P3.out
 |false=>exact absurd HSEL.out zA0s

set_option maxHeartbeats 4000000 in
set_option maxRecDepth 100000 in
theorem zit (w0 w:World) (g:Nat) (ts:List S108) (p:Nat) (en:Int) (hE:Env w0 ts) (hsel:selL (leftL ts p)=4) (hI:Rd w0 w g ts p en) (hB:Below w0.heap.size w0 w) :
 Calls Tryz.prog 116 #[.pointer (some ⟨g,0,none⟩)] w fun e w'=>Post w0 w g ts en (z1h (leftL ts p)) (fun v w' x=>litV w' w.heap.size v x) e w':=by
 have HE:=z00.mk hE;obtain⟨n2,en2⟩:∃n,w.heap.size=n:=⟨_,rfl⟩
 have hN:=z0q w (.cells zLit 62);rw[en2]at hN;have HM:=z00.mk (show L2 w0 w (w.alloc (.cells zLit 62)) g n2 ts en p from⟨hI.alloc _,z03 hB _,z1k (z0k.refl w g none) _,hN,hB.size,hI.lt,by omega⟩);have HS:=z00.mk (z29 w0 _ g ts p en 0 (by omega) HM.out.R HM.out.B);rw[Nat.add_zero]at HS;obtain⟨r,hr⟩:∃r,z1h (leftL ts p)=r:=⟨_,rfl⟩
 rw[hr];have HQ:=z00.mk hr.symm;have HK3:=z00.mk (z32 ts en p);obtain⟨x3,hx3⟩:∃x,seeP ts en p=x:=⟨_,rfl⟩
 obtain⟨x4,hx4⟩:∃x,seeP ts en (p+1)=x:=⟨_,rfl⟩
 rw[hx3]at HS;have HX3:=z00.mk hx3;have HX4:=z00.mk hx4;clear hE hI hB hN hr hx3 hx4 HK3;go_enter Tryz.func116,Tryz.ntmps116
 go_wp2_with fail
 refine HS.out.mono ?_;rintro e w1 ⟨rfl,R,B,K⟩;replace HM:=z00.mk (HM.out.call R B K);clear R B K HS;have HS:=z29 w0 _ g ts p en 1 (by omega) HM.out.R HM.out.B;rw[HX4.out]at HS;have HS:=z00.mk HS
 go_wp2_with fail
 refine HS.out.mono ?_;rintro e w2 ⟨rfl,R,B,K⟩;replace HM:=z00.mk (HM.out.call R B K);clear R B K HS;obtain⟨n3,en3⟩:∃n,w2.heap.size=n:=⟨_,rfl⟩
 have hx30:=z0c (z0q w2 (.cells #[.int .i64 x3.f0,.string x3.f1,.int .i64 x3.f2] 108)) (.cells #[.int .i64 x4.f0,.string x4.f1,.int .i64 x4.f2] 108);have hx40:=z0q (w2.alloc (.cells #[.int .i64 x3.f0,.string x3.f1,.int .i64 x3.f2] 108)) (.cells #[.int .i64 x4.f0,.string x4.f1,.int .i64 x4.f2] 108);rw[en3]at hx30;rw[show(w2.alloc (.cells #[.int .i64 x3.f0,.string x3.f1,.int .i64 x3.f2] 108)).heap.size=n3+1 by simp[en3]]at hx40;have HT:=z00.mk (show Two _ n3 x3 x4 from⟨hx30,hx40⟩);have HG3:=z00.mk (show g<n3 by have:=HM.out.R.lt;omega);replace HM:=z00.mk ((HM.out.alloc_ (.cells #[.int .i64 x3.f0,.string x3.f1,.int .i64 x3.f2] 108)).alloc_ (.cells #[.int .i64 x4.f0,.string x4.f1,.int .i64 x4.f2] 108));clear hx30 hx40
 go_upto_region 2 with (fail)
 generalize (w2.alloc (.cells #[.int .i64 x3.f0,.string x3.f1,.int .i64 x3.f2] 108)).alloc (.cells #[.int .i64 x4.f0,.string x4.f1,.int .i64 x4.f2] 108)=w3 at HM HT ⊢
 obtain⟨st,hst⟩:∃c,z2h (leftL ts p)=c:=⟨_,rfl⟩
 obtain⟨cm,hcm⟩:∃c,z1n (leftL ts p)=c:=⟨_,rfl⟩
 obtain⟨c1,hc1⟩:∃c,(kindL (leftL ts p)==2&&isL ((leftL ts p).drop 1) 1 [105,115])=c:=⟨_,rfl⟩
 obtain⟨c2,hc2⟩:∃c,isL (leftL ts p) 1 [110,111,116]=c:=⟨_,rfl⟩
 obtain⟨c3,hc3⟩:∃c,isL (leftL ts p) 1 [119,97,108,107]=c:=⟨_,rfl⟩
 obtain⟨c4,hc4⟩:∃c,predL (leftL ts p)=c:=⟨_,rfl⟩
 replace HQ:=z00.mk (show r=if(st&&cm)=true then z66 (leftL ts p)else if c1=true then letP (leftL ts p)else if c2=true then z4z 2 (leftL ts (p+1))else if c3=true then walkP (leftL ts (p+1))else if c4=true then z4z 1 (leftL ts p)else bnd (termP (leftL ts p)) fun _ r=>.error (r.length,2) by
  rw[HQ.out,←z0p ts p 1];unfold z1h;rw[hst,hcm,hc1,hc2,hc3,hc4])
 have HSEL:=z00.mk (show(if(st&&cm)=true then 0 else if c1=true then 1 else if c2=true then 2 else if c3=true then 3 else if c4=true then 4 else 5)=4 by
  unfold selL at hsel;rw[hst,hcm,hc1,hc2,hc3,hc4]at hsel;exact hsel)
 clear hsel;have HL0:z00 (cm=true→p+1<ts.length):=⟨fun h=>by
  rw[h]at hcm;unfold z1n mk1 at hcm;rw[z0p]at hcm;exact z5x fun e=>by rw[e]at hcm;cases hcm⟩
 have HL1:z00 (c1=true→p+1<ts.length):=⟨fun h=>by
  rw[h,z0p,Bool.and_eq_true]at hc1;exact z4y hc1.2⟩
 have HL2:z00 (c2=true→p<ts.length):=⟨fun h=>z4y (hc2.trans h)⟩
 have HL3:z00 (c3=true→p<ts.length):=⟨fun h=>z4y (hc3.trans h)⟩
 have HV1:z00 (((x3.f0==2)&&((x4.f0==1)&&(x4.f1.toList==[105,115])))=c1):=⟨zA0l⟩
 have HV2:z00 (((x3.f0==1)&&(x3.f1.toList==[110,111,116]))=c2):=⟨zA0v⟩
 have HV3:z00 (((x3.f0==1)&&(x3.f1.toList==[119,97,108,107]))=c3):=⟨zA0w⟩
 have HV4:z00 (((x3.f0==1)&&!keyL x3.f1.data.toList)=c4):=⟨zA0x⟩
 have HST:=z3c w0 w3 g ts p en HM.out.R HM.out.B;have HCM:=z00.mk (fun W h1 h2=>z3u w0 W g ts p en h1 h2);rw[hst]at HST;rw[hcm]at HCM;have HST:=z00.mk HST;clear hst hcm hc1 hc2 hc3 hc4 HX3 HX4
 go_cut [16] (fun v16 wc=>v16=.bool (st&&cm)∧z00 (L2 w0 w wc g n2 ts en p)∧z00 (Two wc n3 x3 x4))
 case first =>
  cases st with
  |false =>
   go_wp2_with fail
   refine HST.out.mono ?_;rintro e w4 ⟨rfl,R,B,K⟩;have HM2:=z00.mk (HM.out.call R B K);have HT2:=z00.mk (show Two w4 n3 x3 x4 from⟨K.blk HT.out.1 zA09 (by simp),K.blk HT.out.2 zA09 (by simp)⟩);clear R B K;go_wp2;go_meet
   case rel=>exact⟨rfl,HM2,HT2⟩
  |true =>
   go_wp2_with fail
   refine HST.out.mono ?_;rintro e w4 ⟨rfl,R,B,K⟩;have HM2:=z00.mk (HM.out.call R B K);have HT2:=z00.mk (show Two w4 n3 x3 x4 from⟨K.blk HT.out.1 zA09 (by simp),K.blk HT.out.2 zA09 (by simp)⟩);have HC:=z00.mk (HCM.out w4 R B);clear R B K
   go_wp2_with fail
   refine HC.out.mono ?_;rintro e w5 ⟨rfl,R,B,K⟩;replace HM2:=z00.mk (HM2.out.call R B K);replace HT2:=z00.mk (show Two w5 n3 x3 x4 from⟨K.blk HT2.out.1 zA09 (by simp),K.blk HT2.out.2 zA09 (by simp)⟩);clear R B K HC;go_wp2;go_meet
   case rel=>exact⟨rfl,HM2,HT2⟩
 case rest =>
 clear HM HT HST HCM;obtain⟨rfl,HM,HT⟩:=hcut;obtain⟨c0,hc0⟩:∃c,(st&&cm)=c:=⟨_,rfl⟩
 have HL0':z00 (c0=true→p+1<ts.length):=⟨fun h=>HL0.out zA0n⟩
 rw[hc0]at HQ HSEL ⊢;clear hc0 HL0
 cases c0 with
 |true =>
  simp only[if_true]at HQ;exact absurd HSEL.out (by simp)
 |false =>
 simp only[Bool.false_eq_true,if_false]at HQ;clear HL0';have h30:wc.cell? ⟨n3,0,none⟩=some (.int .i64 x3.f0):=(z01 HT.out.1 0).trans rfl;have h31:wc.cell? ⟨n3,1,none⟩=some (.string x3.f1):=(z01 HT.out.1 1).trans rfl;have h40:wc.cell? ⟨n3+1,0,none⟩=some (.int .i64 x4.f0):=(z01 HT.out.2 0).trans rfl;have h41:wc.cell? ⟨n3+1,1,none⟩=some (.string x4.f1):=(z01 HT.out.2 1).trans rfl
 go_upto_region 7 with (fail)
 go_cut [33] (fun v33 wc=>v33=.bool c1∧z00 (L2 w0 w wc g n2 ts en p)∧z00 (Two wc n3 x3 x4))
 case first =>
  cases k1:(x3.f0==2)with
  |false =>
   go_wp2;go_meet
   case rel=>exact⟨by rw[←HV1.out,k1];rfl,HM,HT⟩
  |true =>
   cases k2:(x4.f0==1)with
   |false =>
    go_wp2;go_meet
    case rel=>exact⟨by rw[←HV1.out,k1,k2];rfl,HM,HT⟩
   |true =>
    go_wp2;go_meet
    case rel=>exact⟨by rw[←HV1.out,k1,k2];first|rfl|(simp;done)|simp,HM,HT⟩
 case rest =>
 clear HM HT h30 h31 h40 h41;obtain⟨rfl,HM,HT⟩:=hcut
 cases c1 with
 |true =>
  simp only[if_true]at HQ;exact absurd HSEL.out (by simp)
 |false =>
 simp only[Bool.false_eq_true,if_false]at HQ;clear HL1 HV1;have h30:wc.cell? ⟨n3,0,none⟩=some (.int .i64 x3.f0):=(z01 HT.out.1 0).trans rfl;have h31:wc.cell? ⟨n3,1,none⟩=some (.string x3.f1):=(z01 HT.out.1 1).trans rfl
 go_upto_region 14 with (fail)
 go_cut [67] (fun v67 wc=>v67=.bool c2∧z00 (L2 w0 w wc g n2 ts en p)∧z00 (Two wc n3 x3 x4))
 case first =>
  cases k1:(x3.f0==1)with
  |false =>
   go_wp2;go_meet
   case rel=>exact⟨by rw[←HV2.out,k1];rfl,HM,HT⟩
  |true =>
   go_wp2;go_meet
   case rel=>exact⟨by rw[←HV2.out,k1];first|rfl|(simp;done)|simp,HM,HT⟩
 case rest =>
 clear HM HT h30 h31;obtain⟨rfl,HM,HT⟩:=hcut
 cases c2 with
 |true =>
  simp only[if_true]at HQ;exact absurd HSEL.out (by simp)
 |false =>
 simp only[Bool.false_eq_true,if_false]at HQ;clear HL2 HV2;have h30:wc.cell? ⟨n3,0,none⟩=some (.int .i64 x3.f0):=(z01 HT.out.1 0).trans rfl;have h31:wc.cell? ⟨n3,1,none⟩=some (.string x3.f1):=(z01 HT.out.1 1).trans rfl
 go_upto_region 18 with (fail)
 go_cut [90] (fun v90 wc=>v90=.bool c3∧z00 (L2 w0 w wc g n2 ts en p)∧z00 (Two wc n3 x3 x4))
 case first =>
  cases k1:(x3.f0==1)with
  |false =>
   go_wp2;go_meet
   case rel=>exact⟨by rw[←HV3.out,k1];rfl,HM,HT⟩
  |true =>
   go_wp2;go_meet
   case rel=>exact⟨by rw[←HV3.out,k1];first|rfl|(simp;done)|simp,HM,HT⟩
 case rest =>
 clear HM HT h30 h31;obtain⟨rfl,HM,HT⟩:=hcut
 cases c3 with
 |true =>
  simp only[if_true]at HQ;exact absurd HSEL.out (by simp)
 |false =>
 simp only[Bool.false_eq_true,if_false]at HQ;clear HL3 HV3;have h30:wc.cell? ⟨n3,0,none⟩=some (.int .i64 x3.f0):=(z01 HT.out.1 0).trans rfl;have h31:wc.cell? ⟨n3,1,none⟩=some (.string x3.f1):=(z01 HT.out.1 1).trans rfl
 go_upto_region 28 with (fail)
 go_cut [124] (fun v124 wc=>v124=.bool c4∧z00 (L2 w0 w wc g n2 ts en p))
 case first =>
  have HY:=z00.mk (fun W=>z52.calls x3.f1 (keyL x3.f1.data.toList) W (z61 x3.f1));obtain⟨ky,hky⟩:∃c,keyL x3.f1.data.toList=c:=⟨_,rfl⟩
  rw[hky]at HY HV4;clear hky
  cases k1:(x3.f0==1)with
  |false =>
   go_wp2;go_meet
   case rel=>exact⟨by rw[←HV4.out,k1];rfl,HM⟩
  |true =>
   go_wp2_with fail
   refine(HY.out _).mono ?_;rintro e w4 ⟨rfl,d⟩;have HM2:=z00.mk (HM.out.below d.below);clear d;go_wp2;go_meet
   case rel=>exact⟨by rw[←HV4.out,k1];first|rfl|(simp;done)|simp,HM2⟩
 case rest =>
 clear HM HT h30 h31 HV4;obtain⟨rfl,HM⟩:=hcut
 cases c4 with
 |true =>
  simp only[if_true]at HQ;have HC:=z00.mk (z7d w0 wc g ts p en false HE.out HM.out.R HM.out.B)
  go_wp2_with fail
  refine HC.out.mono ?_;intro e wa1 hp;rcases hp.split with ⟨y1,pa1,va1,ey,rfl,⟨u,rfl,hu⟩,R,B,K⟩|⟨q,i,p2',ey,h1,h2,rfl,R,B,K⟩
  case inr=>exact⟨rfl,Post.as (HQ.out.trans (z3m ey)) (Post.thrown_ h1 h2 R B (HM.out.K.trans K (.inl rfl)))⟩
  have hb1:=HM.out.K.1;have hb2:=z26 HM.out.b2;obtain⟨Au,cu,rfl⟩:=Kd.R_slice hu;have HU:=z00.mk (show Kd.R k60 60 wa1 w.heap.size (fun k=>w.heap.size≤k∧k≠n2) (.slice Au y1.1.f1.length cu) y1.1.f1 from Kd.R_mono (Kd.R_lower hu hb1) (fun k hk=>⟨Nat.le_trans hb1 hk,by omega⟩));clear hu hb1 hb2;have HE1:=z00.mk ey;replace HQ:=z00.mk (HQ.out.trans (z2z ey));replace HM:=z00.mk (HM.out.call R B K);clear R B K hp HC ey;replace HM:=z00.mk (HM.out.alloc_ (.cells #[.string y1.1.f0,.slice Au y1.1.f1.length cu] 25));replace HU:=z00.mk (Kd.R_alloc HU.out (.cells #[.string y1.1.f0,.slice Au y1.1.f1.length cu] 25));obtain⟨P1,P2⟩:=(HM.out).ends [.int .i64 1,.string y1.1.f0,.slice Au y1.1.f1.length cu,.string ⟨#[]⟩,.string ⟨#[]⟩,.int .i64 0,.int .i64 0,.string ⟨#[]⟩,.string ⟨#[]⟩,.int .i64 0,.int .i64 0,.string ⟨#[]⟩,.string ⟨#[]⟩,.int .i64 0,.int .i64 0,.string ⟨#[]⟩,.slice none 0 0] (cs':=#[.int .i64 1,.string y1.1.f0,.slice Au y1.1.f1.length cu,.string ⟨#[]⟩,.string ⟨#[]⟩,.int .i64 0,.int .i64 0,.string ⟨#[]⟩,.string ⟨#[]⟩,.int .i64 0,.int .i64 0,.string ⟨#[]⟩,.string ⟨#[]⟩,.int .i64 0,.int .i64 0,.string ⟨#[]⟩,.slice none 0 0]) (by kernel_rfl);have P3:=z00.mk (Post.as (r':=.ok ((⟨1,y1.1,⟨#[]⟩,noneT,noneT,noneT,[]⟩:LtS),leftL ts pa1)) HQ.out (P2.out ((⟨1,y1.1,⟨#[]⟩,noneT,noneT,noneT,[]⟩:LtS)) (.slice Au y1.1.f1.length cu) (.slice none 0 0) rfl (HU.out) (Kd.R_nil _ _ _ _ _)));clear P2
  go_wp2_with (first|((with_reducible refine z3v (t:=62) (p:=2) (v:=.tmp 140) rfl ?_);refine wpList_store_mid rfl 62 (.tmp 2) (.tmp 140) rfl n2 0 #[.int .i64 1,.string y1.1.f0,.slice Au y1.1.f1.length cu,.string ⟨#[]⟩,.string ⟨#[]⟩,.int .i64 0,.int .i64 0,.string ⟨#[]⟩,.string ⟨#[]⟩,.int .i64 0,.int .i64 0,.string ⟨#[]⟩,.string ⟨#[]⟩,.int .i64 0,.int .i64 0,.string ⟨#[]⟩,.slice none 0 0] rfl rfl (z4u HM.out.b2 (Nat.le_of_eq (by kernel_rfl))) (by kernel_rfl) (by kernel_rfl) ?_;rw[z2p]))
  refine bodyPost_ret (results_cell_row rfl _ _ n2 62 #[.int .i64 1,.string y1.1.f0,.slice Au y1.1.f1.length cu,.string ⟨#[]⟩,.string ⟨#[]⟩,.int .i64 0,.int .i64 0,.string ⟨#[]⟩,.string ⟨#[]⟩,.int .i64 0,.int .i64 0,.string ⟨#[]⟩,.string ⟨#[]⟩,.int .i64 0,.int .i64 0,.string ⟨#[]⟩,.slice none 0 0] (0,0) _ rfl P1.out Tryz.underlying62 rfl (by kernel_rfl)) rfl ?_;exact P3.out
 |false =>
  simp only[Bool.false_eq_true,if_false]at HQ;exact absurd HSEL.out (by simp)

set_option maxHeartbeats 4000000 in
set_option maxRecDepth 100000 in
theorem ziy (w0 w:World) (g:Nat) (ts:List S108) (p:Nat) (en:Int) (hE:Env w0 ts) (hsel:selL (leftL ts p)=5) (hI:Rd w0 w g ts p en) (hB:Below w0.heap.size w0 w) :
 Calls Tryz.prog 116 #[.pointer (some ⟨g,0,none⟩)] w fun e w'=>Post w0 w g ts en (z1h (leftL ts p)) (fun v w' x=>litV w' w.heap.size v x) e w':=by
 have HE:=z00.mk hE;obtain⟨n2,en2⟩:∃n,w.heap.size=n:=⟨_,rfl⟩
 have hN:=z0q w (.cells zLit 62);rw[en2]at hN;have HM:=z00.mk (show L2 w0 w (w.alloc (.cells zLit 62)) g n2 ts en p from⟨hI.alloc _,z03 hB _,z1k (z0k.refl w g none) _,hN,hB.size,hI.lt,by omega⟩);have HS:=z00.mk (z29 w0 _ g ts p en 0 (by omega) HM.out.R HM.out.B);rw[Nat.add_zero]at HS;obtain⟨r,hr⟩:∃r,z1h (leftL ts p)=r:=⟨_,rfl⟩
 rw[hr];have HQ:=z00.mk hr.symm;have HK3:=z00.mk (z32 ts en p);obtain⟨x3,hx3⟩:∃x,seeP ts en p=x:=⟨_,rfl⟩
 obtain⟨x4,hx4⟩:∃x,seeP ts en (p+1)=x:=⟨_,rfl⟩
 rw[hx3]at HS;have HX3:=z00.mk hx3;have HX4:=z00.mk hx4;clear hE hI hB hN hr hx3 hx4 HK3;go_enter Tryz.func116,Tryz.ntmps116
 go_wp2_with fail
 refine HS.out.mono ?_;rintro e w1 ⟨rfl,R,B,K⟩;replace HM:=z00.mk (HM.out.call R B K);clear R B K HS;have HS:=z29 w0 _ g ts p en 1 (by omega) HM.out.R HM.out.B;rw[HX4.out]at HS;have HS:=z00.mk HS
 go_wp2_with fail
 refine HS.out.mono ?_;rintro e w2 ⟨rfl,R,B,K⟩;replace HM:=z00.mk (HM.out.call R B K);clear R B K HS;obtain⟨n3,en3⟩:∃n,w2.heap.size=n:=⟨_,rfl⟩
 have hx30:=z0c (z0q w2 (.cells #[.int .i64 x3.f0,.string x3.f1,.int .i64 x3.f2] 108)) (.cells #[.int .i64 x4.f0,.string x4.f1,.int .i64 x4.f2] 108);have hx40:=z0q (w2.alloc (.cells #[.int .i64 x3.f0,.string x3.f1,.int .i64 x3.f2] 108)) (.cells #[.int .i64 x4.f0,.string x4.f1,.int .i64 x4.f2] 108);rw[en3]at hx30;rw[show(w2.alloc (.cells #[.int .i64 x3.f0,.string x3.f1,.int .i64 x3.f2] 108)).heap.size=n3+1 by simp[en3]]at hx40;have HT:=z00.mk (show Two _ n3 x3 x4 from⟨hx30,hx40⟩);have HG3:=z00.mk (show g<n3 by have:=HM.out.R.lt;omega);replace HM:=z00.mk ((HM.out.alloc_ (.cells #[.int .i64 x3.f0,.string x3.f1,.int .i64 x3.f2] 108)).alloc_ (.cells #[.int .i64 x4.f0,.string x4.f1,.int .i64 x4.f2] 108));clear hx30 hx40
 go_upto_region 2 with (fail)
 generalize (w2.alloc (.cells #[.int .i64 x3.f0,.string x3.f1,.int .i64 x3.f2] 108)).alloc (.cells #[.int .i64 x4.f0,.string x4.f1,.int .i64 x4.f2] 108)=w3 at HM HT ⊢
 obtain⟨st,hst⟩:∃c,z2h (leftL ts p)=c:=⟨_,rfl⟩
 obtain⟨cm,hcm⟩:∃c,z1n (leftL ts p)=c:=⟨_,rfl⟩
 obtain⟨c1,hc1⟩:∃c,(kindL (leftL ts p)==2&&isL ((leftL ts p).drop 1) 1 [105,115])=c:=⟨_,rfl⟩
 obtain⟨c2,hc2⟩:∃c,isL (leftL ts p) 1 [110,111,116]=c:=⟨_,rfl⟩
 obtain⟨c3,hc3⟩:∃c,isL (leftL ts p) 1 [119,97,108,107]=c:=⟨_,rfl⟩
 obtain⟨c4,hc4⟩:∃c,predL (leftL ts p)=c:=⟨_,rfl⟩
 replace HQ:=z00.mk (show r=if(st&&cm)=true then z66 (leftL ts p)else if c1=true then letP (leftL ts p)else if c2=true then z4z 2 (leftL ts (p+1))else if c3=true then walkP (leftL ts (p+1))else if c4=true then z4z 1 (leftL ts p)else bnd (termP (leftL ts p)) fun _ r=>.error (r.length,2) by
  rw[HQ.out,←z0p ts p 1];unfold z1h;rw[hst,hcm,hc1,hc2,hc3,hc4])
 have HSEL:=z00.mk (show(if(st&&cm)=true then 0 else if c1=true then 1 else if c2=true then 2 else if c3=true then 3 else if c4=true then 4 else 5)=5 by
  unfold selL at hsel;rw[hst,hcm,hc1,hc2,hc3,hc4]at hsel;exact hsel)
 clear hsel;have HL0:z00 (cm=true→p+1<ts.length):=⟨fun h=>by
  rw[h]at hcm;unfold z1n mk1 at hcm;rw[z0p]at hcm;exact z5x fun e=>by rw[e]at hcm;cases hcm⟩
 have HL1:z00 (c1=true→p+1<ts.length):=⟨fun h=>by
  rw[h,z0p,Bool.and_eq_true]at hc1;exact z4y hc1.2⟩
 have HL2:z00 (c2=true→p<ts.length):=⟨fun h=>z4y (hc2.trans h)⟩
 have HL3:z00 (c3=true→p<ts.length):=⟨fun h=>z4y (hc3.trans h)⟩
 have HV1:z00 (((x3.f0==2)&&((x4.f0==1)&&(x4.f1.toList==[105,115])))=c1):=⟨zA0l⟩
 have HV2:z00 (((x3.f0==1)&&(x3.f1.toList==[110,111,116]))=c2):=⟨zA0v⟩
 have HV3:z00 (((x3.f0==1)&&(x3.f1.toList==[119,97,108,107]))=c3):=⟨zA0w⟩
 have HV4:z00 (((x3.f0==1)&&!keyL x3.f1.data.toList)=c4):=⟨zA0x⟩
 have HST:=z3c w0 w3 g ts p en HM.out.R HM.out.B;have HCM:=z00.mk (fun W h1 h2=>z3u w0 W g ts p en h1 h2);rw[hst]at HST;rw[hcm]at HCM;have HST:=z00.mk HST;clear hst hcm hc1 hc2 hc3 hc4 HX3 HX4
 go_cut [16] (fun v16 wc=>v16=.bool (st&&cm)∧z00 (L2 w0 w wc g n2 ts en p)∧z00 (Two wc n3 x3 x4))
 case first =>
  cases st with
  |false =>
   go_wp2_with fail
   refine HST.out.mono ?_;rintro e w4 ⟨rfl,R,B,K⟩;have HM2:=z00.mk (HM.out.call R B K);have HT2:=z00.mk (show Two w4 n3 x3 x4 from⟨K.blk HT.out.1 zA09 (by simp),K.blk HT.out.2 zA09 (by simp)⟩);clear R B K;go_wp2;go_meet
   case rel=>exact⟨rfl,HM2,HT2⟩
  |true =>
   go_wp2_with fail
   refine HST.out.mono ?_;rintro e w4 ⟨rfl,R,B,K⟩;have HM2:=z00.mk (HM.out.call R B K);have HT2:=z00.mk (show Two w4 n3 x3 x4 from⟨K.blk HT.out.1 zA09 (by simp),K.blk HT.out.2 zA09 (by simp)⟩);have HC:=z00.mk (HCM.out w4 R B);clear R B K
   go_wp2_with fail
   refine HC.out.mono ?_;rintro e w5 ⟨rfl,R,B,K⟩;replace HM2:=z00.mk (HM2.out.call R B K);replace HT2:=z00.mk (show Two w5 n3 x3 x4 from⟨K.blk HT2.out.1 zA09 (by simp),K.blk HT2.out.2 zA09 (by simp)⟩);clear R B K HC;go_wp2;go_meet
   case rel=>exact⟨rfl,HM2,HT2⟩
 case rest =>
 clear HM HT HST HCM;obtain⟨rfl,HM,HT⟩:=hcut;obtain⟨c0,hc0⟩:∃c,(st&&cm)=c:=⟨_,rfl⟩
 have HL0':z00 (c0=true→p+1<ts.length):=⟨fun h=>HL0.out zA0n⟩
 rw[hc0]at HQ HSEL ⊢;clear hc0 HL0
 cases c0 with
 |true =>
  simp only[if_true]at HQ;exact absurd HSEL.out (by simp)
 |false =>
 simp only[Bool.false_eq_true,if_false]at HQ;clear HL0';have h30:wc.cell? ⟨n3,0,none⟩=some (.int .i64 x3.f0):=(z01 HT.out.1 0).trans rfl;have h31:wc.cell? ⟨n3,1,none⟩=some (.string x3.f1):=(z01 HT.out.1 1).trans rfl;have h40:wc.cell? ⟨n3+1,0,none⟩=some (.int .i64 x4.f0):=(z01 HT.out.2 0).trans rfl;have h41:wc.cell? ⟨n3+1,1,none⟩=some (.string x4.f1):=(z01 HT.out.2 1).trans rfl
 go_upto_region 7 with (fail)
 go_cut [33] (fun v33 wc=>v33=.bool c1∧z00 (L2 w0 w wc g n2 ts en p)∧z00 (Two wc n3 x3 x4))
 case first =>
  cases k1:(x3.f0==2)with
  |false =>
   go_wp2;go_meet
   case rel=>exact⟨by rw[←HV1.out,k1];rfl,HM,HT⟩
  |true =>
   cases k2:(x4.f0==1)with
   |false =>
    go_wp2;go_meet
    case rel=>exact⟨by rw[←HV1.out,k1,k2];rfl,HM,HT⟩
   |true =>
    go_wp2;go_meet
    case rel=>exact⟨by rw[←HV1.out,k1,k2];first|rfl|(simp;done)|simp,HM,HT⟩
 case rest =>
 clear HM HT h30 h31 h40 h41;obtain⟨rfl,HM,HT⟩:=hcut
 cases c1 with
 |true =>
  simp only[if_true]at HQ;exact absurd HSEL.out (by simp)
 |false =>
 simp only[Bool.false_eq_true,if_false]at HQ;clear HL1 HV1;have h30:wc.cell? ⟨n3,0,none⟩=some (.int .i64 x3.f0):=(z01 HT.out.1 0).trans rfl;have h31:wc.cell? ⟨n3,1,none⟩=some (.string x3.f1):=(z01 HT.out.1 1).trans rfl
 go_upto_region 14 with (fail)
 go_cut [67] (fun v67 wc=>v67=.bool c2∧z00 (L2 w0 w wc g n2 ts en p)∧z00 (Two wc n3 x3 x4))
 case first =>
  cases k1:(x3.f0==1)with
  |false =>
   go_wp2;go_meet
   case rel=>exact⟨by rw[←HV2.out,k1];rfl,HM,HT⟩
  |true =>
   go_wp2;go_meet
   case rel=>exact⟨by rw[←HV2.out,k1];first|rfl|(simp;done)|simp,HM,HT⟩
 case rest =>
 clear HM HT h30 h31;obtain⟨rfl,HM,HT⟩:=hcut
 cases c2 with
 |true =>
  simp only[if_true]at HQ;exact absurd HSEL.out (by simp)
 |false =>
 simp only[Bool.false_eq_true,if_false]at HQ;clear HL2 HV2;have h30:wc.cell? ⟨n3,0,none⟩=some (.int .i64 x3.f0):=(z01 HT.out.1 0).trans rfl;have h31:wc.cell? ⟨n3,1,none⟩=some (.string x3.f1):=(z01 HT.out.1 1).trans rfl
 go_upto_region 18 with (fail)
 go_cut [90] (fun v90 wc=>v90=.bool c3∧z00 (L2 w0 w wc g n2 ts en p)∧z00 (Two wc n3 x3 x4))
 case first =>
  cases k1:(x3.f0==1)with
  |false =>
   go_wp2;go_meet
   case rel=>exact⟨by rw[←HV3.out,k1];rfl,HM,HT⟩
  |true =>
   go_wp2;go_meet
   case rel=>exact⟨by rw[←HV3.out,k1];first|rfl|(simp;done)|simp,HM,HT⟩
 case rest =>
 clear HM HT h30 h31;obtain⟨rfl,HM,HT⟩:=hcut
 cases c3 with
 |true =>
  simp only[if_true]at HQ;exact absurd HSEL.out (by simp)
 |false =>
 simp only[Bool.false_eq_true,if_false]at HQ;clear HL3 HV3;have h30:wc.cell? ⟨n3,0,none⟩=some (.int .i64 x3.f0):=(z01 HT.out.1 0).trans rfl;have h31:wc.cell? ⟨n3,1,none⟩=some (.string x3.f1):=(z01 HT.out.1 1).trans rfl
 go_upto_region 28 with (fail)
 go_cut [124] (fun v124 wc=>v124=.bool c4∧z00 (L2 w0 w wc g n2 ts en p))
 case first =>
  have HY:=z00.mk (fun W=>z52.calls x3.f1 (keyL x3.f1.data.toList) W (z61 x3.f1));obtain⟨ky,hky⟩:∃c,keyL x3.f1.data.toList=c:=⟨_,rfl⟩
  rw[hky]at HY HV4;clear hky
  cases k1:(x3.f0==1)with
  |false =>
   go_wp2;go_meet
   case rel=>exact⟨by rw[←HV4.out,k1];rfl,HM⟩
  |true =>
   go_wp2_with fail
   refine(HY.out _).mono ?_;rintro e w4 ⟨rfl,d⟩;have HM2:=z00.mk (HM.out.below d.below);clear d;go_wp2;go_meet
   case rel=>exact⟨by rw[←HV4.out,k1];first|rfl|(simp;done)|simp,HM2⟩
 case rest =>
 clear HM HT h30 h31 HV4;obtain⟨rfl,HM⟩:=hcut
 cases c4 with
 |true =>
  simp only[if_true]at HQ;exact absurd HSEL.out (by simp)
 |false =>
  simp only[Bool.false_eq_true,if_false]at HQ;have HC:=z00.mk (z4q w0 wc g ts p en HE.out HM.out.R HM.out.B)
  go_wp2_with fail
  refine HC.out.mono ?_;intro e wa1 hp;rcases hp.split with ⟨y1,pa1,va1,ey,rfl,rfl,R,B,K⟩|⟨q,i,p2',ey,h1,h2,rfl,R,B,K⟩
  case inr=>exact⟨rfl,Post.as (HQ.out.trans (z3m ey)) (Post.thrown_ h1 h2 R B (HM.out.K.trans K (.inl rfl)))⟩
  have HE1:=z00.mk ey;replace HQ:=z00.mk (HQ.out.trans (z2z ey));replace HM:=z00.mk (HM.out.call R B K);clear R B K hp HC ey;have HF:=z00.mk (z4t w0 wa1 g ts pa1 en 2 HM.out.R HM.out.B)
  go_wp2_with fail
  refine HF.out.mono ?_;rintro e w9 ⟨rfl,R,B,K⟩;exact⟨rfl,Post.as HQ.out (Post.thrown_ (q:=((leftL ts pa1).length,2)) (i:=pa1) R.le (z0s ts pa1).symm R B (HM.out.K.trans K (.inl rfl)))⟩

theorem zbv (w0 w:World) (g:Nat) (ts:List S108) (p:Nat) (en:Int) (hE:Env w0 ts) (hI:Rd w0 w g ts p en) (hB:Below w0.heap.size w0 w) :
 Calls Tryz.prog 116 #[.pointer (some ⟨g,0,none⟩)] w fun e w'=>Post w0 w g ts en (z1h (leftL ts p)) (fun v w' x=>litV w' w.heap.size v x) e w':=by
 rcases zi3 (leftL ts p)with h|h|h|h|h|h
 · exact zif w0 w g ts p en hE h hI hB
 · exact zjf w0 w g ts p en hE h hI hB
 · exact zjj w0 w g ts p en hE h hI hB
 · exact zjs w0 w g ts p en hE h hI hB
 · exact zit w0 w g ts p en hE h hI hB
 · exact ziy w0 w g ts p en hE h hI hB

theorem info62:(Tryz.prog.info? 62).map (fun i=>(i.zero,i.size,i.bytes))=some (some (.agg #[(.int .i64 0),(.string ⟨#[]⟩),(.slice none 0 0),(.string ⟨#[]⟩),(.string ⟨#[]⟩),(.int .i64 0),(.int .i64 0),(.string ⟨#[]⟩),(.string ⟨#[]⟩),(.int .i64 0),(.int .i64 0),(.string ⟨#[]⟩),(.string ⟨#[]⟩),(.int .i64 0),(.int .i64 0),(.string ⟨#[]⟩),(.slice none 0 0)]),17,232):=by kernel_rfl
def rule6.T:Bool × List (List Nat × List Nat):=(true,[([],[]),([0],[0]),([],[]),([2],[2]),([3],[3]),([1,4,3],[1,4]),([0,1,2,3,4,5],[]),([6,5,5,0,1,2,3,4,5],[5,6])])
def rule6.B:List Nat:=[0,1,0,4,12,31,63,127]
theorem rule6.tab:rtab .any (opsOf Tryz.f86 6)=rule6.T:=by kernel_rfl
theorem rule6.bits:z3y rule6.T.2 rule6.B=true:=by kernel_rfl
def ruleE (h:AtS × Int) (b:List LtS) (l:List TK):Except (Nat × Int) (RlS × List TK):=bnd (wantP [46] l) fun _ r=>.ok (⟨h.1,h.2,b⟩,r)
theorem ziw (acc:List LtS) (l:List TK) (h:acc.length≤12):bodyP (13 - acc.length) acc l=if(acc.length==12&&z2h l)=true then .error (l.length,4)else bnd (z1h l) fun x r=>if mk0 r [44]then bodyP (12 - acc.length) (acc++[x]) (r.drop 1)else .ok (acc++[x],r):=by
 obtain⟨n,hn⟩:∃n,12 - acc.length=n:=⟨_,rfl⟩
 rw[show 13 - acc.length=n+1 by omega,hn];have hb:(acc.length==12)=(n==0):=by
  by_cases h8:acc.length=12
  · rw[beq_iff_eq.2 h8,beq_iff_eq.2 (show n=0 by omega)]
  · rw[beq_eq_false_iff_ne.2 h8,beq_eq_false_iff_ne.2 (show n≠0 by omega)]
 rw[hb];rfl
theorem zhr {l:List TK} {x:LtS} {r:List TK} (h:z1h l=.ok (x,r)):z2h l=true:=by
 cases hs:z2h l with
 |true=>rfl
 |false =>
  exfalso
  cases l with
  |nil=>cases h
  |cons t r =>
   have hs':=hs;simp only[z2h,Bool.or_eq_false_iff]at hs';obtain⟨⟨h1,h2⟩,h3⟩:=hs';unfold z1h at h;simp only[hs,kindL,isL,isT,predL,predB,h1,h2,Bool.false_and,Bool.false_eq_true,if_false]at h;simp only[termP,h1,h2,h3,Bool.or_false,Bool.false_eq_true,if_false,bnd]at h
   cases h
def ruV (w':World) (base:Nat) (v:Value) (x:RlS):Prop:=∃u1 u3,v=.agg #[.string x.f0.f0,u1,.int .i64 x.f1,u3]∧Kd.R k60 60 w' base (fun k=>base≤k) u1 x.f0.f1∧Kd.R k62 62 w' base (fun k=>base≤k) u3 x.f2
abbrev zRule:Array Value:=#[.string ⟨#[]⟩,.slice none 0 0,.int .i64 0,.slice none 0 0]
abbrev RuM (s:ByteArray) (u1:Value) (f:Int):=GM k62 62 33 (fun u=>#[.string s,u1,.int .i64 f,u]) zRule
theorem RuM.ends {s:ByteArray} {u1:Value} {f:Int} {args:List TmS} {w0 w wr:World} {g n4 n6:Nat} {ts:List S108} {en:Int} {p:Nat} {acc:List LtS} {u:Value} (h:RuM s u1 f w0 w wr g n4 n6 ts en p acc u) (hu:Kd.R k60 60 wr w.heap.size (fun k=>(w.heap.size≤k∧k≠n4∧k≠n6)∧some k≠u.ownBlock) u1 args) {r:Except (Nat × Int) (RlS × List TK)} (hr:r=.ok (⟨⟨s,args⟩,f,acc⟩,leftL ts p)) :
 z00 ((sets wr n4 0 [.string s,u1,.int .i64 f,u]).heap[n4]?=some (.cells #[.string s,u1,.int .i64 f,u] 33 (0,0))) ∧
 z00 (Post w0 w g ts en r (fun v w' x=>ruV w' w.heap.size v x) (.returned (.agg #[.string s,u1,.int .i64 f,u])) (sets wr n4 0 [.string s,u1,.int .i64 f,u])):=by
 have h1:=h.gw;have h2:=h.h4;have h3:=h.h0;refine⟨⟨z34 [.string s,u1,.int .i64 f,u] 0 wr zRule h.b4⟩,⟨z2u (by omega) _ 0 wr h.B,z6m (by omega) _ 0 wr h.K,p,h.R.sets_ (by omega) _ 0 wr,?_⟩⟩;rw[hr];exact⟨rfl,_,rfl,u1,u,rfl,Kd.R_mono (z5i (fun k hk=>hk.1.2.1) _ 0 wr hu) (fun k hk=>hk.1.1),Kd.R_mono (z5i (fun k hk=>hk.2.1) _ 0 wr h.own) (fun k hk=>hk.1)⟩
set_option maxHeartbeats 4000000 in
set_option maxRecDepth 100000 in
theorem zh0 (w0 w:World) (g:Nat) (ts:List S108) (p:Nat) (en:Int) (hE:Env w0 ts) (hI:Rd w0 w g ts p en) (hB:Below w0.heap.size w0 w) :
 Calls Tryz.prog 86 #[.pointer (some ⟨g,0,none⟩)] w fun e w'=>Post w0 w g ts en (ruleP (leftL ts p)) (fun v w' x=>ruV w' w.heap.size v x) e w':=by
 have HE:=z00.mk hE;obtain⟨n4,en4⟩:∃n,w.heap.size=n:=⟨_,rfl⟩
 have hz1:(w.alloc (.cells zRule 33)).heap.size=n4+1:=by simp[en4]
 have hb4:=z0c (z0q w (.cells zRule 33)) (.cells zRule 33);have hb6:=z0q (w.alloc (.cells zRule 33)) (.cells zRule 33);rw[en4]at hb4;rw[hz1]at hb6;have HG:=z00.mk (And.intro hB.size hI.lt);obtain⟨W,hW⟩:∃W,(w.alloc (.cells zRule 33)).alloc (.cells zRule 33)=W:=⟨_,rfl⟩
 have HK:=z00.mk (show z0k w W g none from hW ▸ z1k (z1k (z0k.refl w g none) _) _);have HP:=z7d w0 W g ts p en true hE (hW ▸ (hI.alloc _).alloc _) (hW ▸ z03 (z03 hB _) _);rw[hW]at hb4 hb6;have HB4:=z00.mk (And.intro hb4 hb6);obtain⟨rp,hrp⟩:∃rp,atomP true (leftL ts p)=rp:=⟨_,rfl⟩
 rw[hrp]at HP;obtain⟨r,hr⟩:∃r,ruleP (leftL ts p)=r:=⟨_,rfl⟩
 rw[hr];have HA:=z00.mk (show r=bnd rp fun h r=>bnd (tailP r) fun b r=>ruleE h b r by rw[←hr,←hrp];rfl);have HP:=z00.mk HP;have HW:=z00.mk hW;clear hE hI hB hb4 hb6 hr hrp hW hz1;go_enter Tryz.func86,Tryz.ntmps86
 go_wp2_with fail
 rw[HW.out];refine HP.out.mono ?_;intro e w1 hp;rcases hp.split with ⟨y0,p1,v,rfl,rfl,⟨u1,rfl,hu1⟩,R,B,K⟩|⟨q,i,p1,rfl,h1,h2,rfl,R,B,K⟩
 case inr=>exact⟨rfl,Post.as HA.out (Post.thrown_ h1 h2 R B (HK.out.trans K (.inl rfl)))⟩
 obtain⟨Au,cu,rfl⟩:=Kd.R_slice hu1;have h4W:=z26 HB4.out.1;have h6W:=z26 HB4.out.2;have hkW:=HK.out.1;have HU:=z00.mk (show Kd.R k60 60 w1 w.heap.size (fun k=>w.heap.size≤k∧k≠n4∧k≠n4+1) (.slice Au y0.1.f1.length cu) y0.1.f1 from Kd.R_mono (Kd.R_lower hu1 hkW) (fun k hk=>⟨Nat.le_trans hkW hk,by omega,by omega⟩));have hgw:=HG.out.2;have hb4:=K.blk HB4.out.1 (by omega) (by simp);have hb6:=K.blk HB4.out.2 (by omega) (by simp);obtain⟨n6,hn6⟩:∃n,n4+1=n:=⟨_,rfl⟩
 rw[hn6]at hb6 HU;obtain⟨al,hal⟩:∃n,y0.1.f1.length=n:=⟨_,rfl⟩
 rw[hal]at HU;have HM:=z00.mk (show RuM y0.1.f0 (.slice Au al cu) y0.2 w0 w (((w1.setCell ⟨n6,0,none⟩ (.string y0.1.f0)).setCell ⟨n6,1,none⟩ (.slice Au al cu)).setCell ⟨n6,2,none⟩ (.int .i64 y0.2)) g n4 n6 ts en p1 [] (.slice none 0 0)from
  ⟨((R.far (by show g≠n6;omega) _).far (by show g≠n6;omega) _).far (by show g≠n6;omega) _,z06 (z06 (z06 B (by have:=HG.out.1;omega)) (by have:=HG.out.1;omega)) (by have:=HG.out.1;omega),z41 (z41 (z41 (HK.out.trans K (.inl rfl)) (by show w.heap.size≤n6;omega) _) (by show w.heap.size≤n6;omega) _) (by show w.heap.size≤n6;omega) _,z11 (z11 (z11 hb4 zA10 _) zA10 _) zA10 _,
   z0x (cs:=#[.string y0.1.f0,.slice Au al cu,.int .i64 0,.slice none 0 0]) (z0x (cs:=#[.string y0.1.f0,.slice none 0 0,.int .i64 0,.slice none 0 0]) (z0x hb6 0 (.string y0.1.f0) rfl) 1 (.slice Au al cu) rfl) 2 (.int .i64 y0.2) rfl,Kd.R_nil _ _ _ _ _,HG.out.1,HG.out.2,by omega,by omega⟩)
 replace HU:=z00.mk (Kd.R_apart_nil (Kd.R_far (p:=⟨n6,2,none⟩) (Kd.R_far (p:=⟨n6,1,none⟩) (Kd.R_far (p:=⟨n6,0,none⟩) HU.out (fun k hk=>hk.2.2) (.string y0.1.f0)) (fun k hk=>hk.2.2) (.slice Au al cu)) (fun k hk=>hk.2.2) (.int .i64 y0.2)));have hd60:w1.cell? ⟨n6,0,none⟩=some (.string ⟨#[]⟩):=(z01 hb6 0).trans rfl;have hd61:w1.cell? ⟨n6,1,none⟩=some (.slice none 0 0):=(z01 hb6 1).trans rfl;have hd62:w1.cell? ⟨n6,2,none⟩=some (.int .i64 0):=(z01 hb6 2).trans rfl;have hf60:=z02 hb6 0;have hf61:=z02 hb6 1;have hf62:=z02 hb6 2;clear R B K hp hu1 HP HK HB4 h4W h6W hkW hb4 hb6 hgw;rw[hn6]
 go_wp2_with fail
 generalize ((w1.setCell ⟨n6,0,none⟩ (.string y0.1.f0)).setCell ⟨n6,1,none⟩ (.slice Au al cu)).setCell ⟨n6,2,none⟩ (.int .i64 y0.2)=ws at HM HU ⊢
 have HQ:=z00.mk (show r=bnd (tailP (leftL ts p1)) (ruleE y0)from HA.out);clear HA hd60 hd61 hd62 hf60 hf61 hf62;have HS4:=z00.mk (z1e w0 ws g ts p1 en ⟨#[58,45]⟩ HM.out.R HM.out.B);rw[z1g,show((⟨#[58,45]⟩:ByteArray).data.toList)=[58,45]from rfl]at HS4
 cases hm:mk0 (leftL ts p1) [58,45]with
 |false =>
  rw[hm]at HS4;refine HS4.out.mono ?_;rintro e w5 ⟨rfl,R,B,K⟩;simp only[Bool.false_eq_true,if_false]at R;replace HU:=z00.mk (Kd.R_keep HU.out K (fun k hk=>by have h1:=hk.1.1;have h2:=HM.out.gw;omega));replace HM:=z00.mk (HM.out.call R B K);clear R B K HS4;replace HQ:=z00.mk (show r=ruleE y0 [] (leftL ts p1) by rw[HQ.out];unfold tailP;rw[if_neg (by rw[hm];simp)];rfl);replace HQ:=z00.mk (show r=bnd (wantP [46] (leftL ts p1)) (fun _ r=>.ok (⟨y0.1,y0.2,[]⟩,r))from HQ.out);have HW2:=z00.mk (show Calls Tryz.prog 88 #[.pointer (some ⟨g,0,none⟩),.string ⟨#[46]⟩] w5 fun e w'=>Post w0 w5 g ts en (wantP [46] (leftL ts p1)) (fun v _ _=>v=.tuple #[]) e w' from z3i w0 w5 g ts p1 en ⟨#[46]⟩ HM.out.R HM.out.B)
  go_wp2_with fail
  refine HW2.out.mono ?_;intro e w6 hp;rcases hp.split with ⟨y2,p4,v2,ew2,rfl,rfl,R,B,K⟩|⟨q,i,p4,ew2,h1,h2,rfl,R,B,K⟩
  case inr=>exact⟨rfl,Post.as (HQ.out.trans (z3m ew2)) (Post.thrown_ h1 h2 R B (HM.out.K.trans K (.inl rfl)))⟩
  replace HQ:=z00.mk (show r=.ok (⟨⟨y0.1.f0,y0.1.f1⟩,y0.2,[]⟩,leftL ts p4)from HQ.out.trans (z2z ew2));replace HU:=z00.mk (Kd.R_keep HU.out K (fun k hk=>by have h1:=hk.1.1;have h2:=HM.out.gw;omega));replace HM:=z00.mk (HM.out.call R B K);clear R B K hp HW2 ew2;have hd60:w6.cell? ⟨n6,0,none⟩=some (.string y0.1.f0):=(z01 HM.out.b6 0).trans rfl;have hd61:w6.cell? ⟨n6,1,none⟩=some (.slice Au al cu):=(z01 HM.out.b6 1).trans rfl;have hd62:w6.cell? ⟨n6,2,none⟩=some (.int .i64 y0.2):=(z01 HM.out.b6 2).trans rfl;have hd63:w6.cell? ⟨n6,3,none⟩=some (.slice none 0 0):=(z01 HM.out.b6 3).trans rfl;have hd40:w6.cell? ⟨n4,0,none⟩=some (.string ⟨#[]⟩):=(z01 HM.out.b4 0).trans rfl;have hd41:w6.cell? ⟨n4,1,none⟩=some (.slice none 0 0):=(z01 HM.out.b4 1).trans rfl;have hd42:w6.cell? ⟨n4,2,none⟩=some (.int .i64 0):=(z01 HM.out.b4 2).trans rfl;have hd43:w6.cell? ⟨n4,3,none⟩=some (.slice none 0 0):=(z01 HM.out.b4 3).trans rfl;have hg40:=z02 HM.out.b4 0;have hg41:=z02 HM.out.b4 1;have hg42:=z02 HM.out.b4 2;have hg43:=z02 HM.out.b4 3;obtain⟨P1,P2⟩:=RuM.ends HM.out HU.out HQ.out;go_wp2;refine bodyPost_ret (results_cell_row rfl _ _ n4 33 #[.string y0.1.f0,.slice Au al cu,.int .i64 y0.2,.slice none 0 0] (0,0) _ rfl P1.out Tryz.underlying33 rfl (by kernel_rfl)) rfl ?_;exact P2.out
 |true =>
  rw[hm]at HS4;refine HS4.out.mono ?_;rintro e w5 ⟨rfl,R,B,K⟩;simp only[if_true]at R;replace HU:=z00.mk (Kd.R_keep HU.out K (fun k hk=>by have h1:=hk.1.1;have h2:=HM.out.gw;omega));replace HM:=z00.mk (HM.out.call R B K);clear R B K HS4;replace HQ:=z00.mk (show r=bnd (bodyP (13 - ([]:List LtS).length) [] (leftL ts (p1+1))) (ruleE y0) by rw[HQ.out];unfold tailP;rw[if_pos hm,z0p];rfl);go_wp2
  go_loopg [] 13 (fun kq w'=>∃(acc:List LtS) (p':Nat) (u:Value),acc.length+kq=13∧acc.length≤12∧z00 (r=bnd (bodyP (13 - acc.length) acc (leftL ts p')) (ruleE y0))∧z00 (RuM y0.1.f0 (.slice Au al cu) y0.2 w0 w w' g n4 n6 ts en p' acc u)∧z00 (Kd.R k60 60 w' w.heap.size (fun k=>(w.heap.size≤k∧k≠n4∧k≠n6)∧some k≠u.ownBlock) (.slice Au al cu) y0.1.f1))
  case atStart=>exact⟨[],p1+1,_,rfl,by simp,HQ,HM,HU⟩
  case round =>
   clear HQ HM HU hm;obtain⟨acc,p',u,hk9,hl8,HQ,HM,HU⟩:=hrel
   cases gk with
   |zero=>exact absurd hk9 (by omega)
   |succ k1 =>
   have HLEN:=z00.mk hl8;replace HQ:=z00.mk (HQ.out.trans (by rw[ziw acc _ hl8]));obtain⟨A,c,rfl⟩:=Kd.R_slice HM.out.own;have hc63:wr.cell? ⟨n6,3,none⟩=some (.slice A acc.length c):=(z01 HM.out.b6 3).trans rfl;have HST:=z00.mk (z3c w0 wr g ts p' en HM.out.R HM.out.B);obtain⟨st,hst⟩:∃st,z2h (leftL ts p')=st:=⟨_,rfl⟩
   rw[hst]at HST HQ;have HSC:=HST;replace HST:=z00.mk hst.symm;clear hst
   go_upto_region 4 with (fail)
   go_cut [20] (fun v20 wc=>v20=.bool (acc.length==12&&st)∧z00 (RuM y0.1.f0 (.slice Au al cu) y0.2 w0 w wc g n4 n6 ts en p' acc (.slice A acc.length c))∧z00 (Kd.R k60 60 wc w.heap.size (fun k=>(w.heap.size≤k∧k≠n4∧k≠n6)∧some k≠(Value.slice A acc.length c).ownBlock) (.slice Au al cu) y0.1.f1))
   case first =>
    by_cases h8:acc.length=12
    · have c0:((acc.length:Int)==12)=true:=beq_iff_eq.2 (by omega);have c1:(acc.length==12)=true:=beq_iff_eq.2 h8
      go_wp2_with fail
      refine HSC.out.mono ?_;rintro e w3 ⟨rfl,R,B,K⟩;have HU2:=z00.mk (Kd.R_keep HU.out K (fun k hk=>by have h1:=hk.1.1;have h2:=HM.out.gw;omega));have HM2:=z00.mk (HM.out.call R B K);clear R B K;go_wp2;go_meet
      case rel=>exact⟨by rw[c1];rfl,HM2,HU2⟩
    · have c0:((acc.length:Int)==12)=false:=beq_eq_false_iff_ne.2 (by omega);have c1:(acc.length==12)=false:=beq_eq_false_iff_ne.2 h8;go_wp2;go_meet
      case rel=>exact⟨by rw[c1];rfl,HM,HU⟩
   case rest =>
    clear HM HU hc63;obtain⟨rfl,HM,HU⟩:=hcut;obtain⟨fl,hfl⟩:∃fl,(acc.length==12&&st)=fl:=⟨_,rfl⟩
    rw[hfl]at HQ ⊢;have HFL:=z00.mk hfl;clear hfl HSC
    cases fl with
    |true =>
     have HF:=z00.mk (z4t w0 wc g ts p' en 4 HM.out.R HM.out.B)
     go_wp2_with fail
     refine HF.out.mono ?_;rintro e w3 ⟨rfl,R,B,K⟩;exact⟨rfl,Post.as (by rw[HQ.out];rfl) (Post.thrown_ (q:=((leftL ts p').length,4)) (i:=p') R.le (z0s ts p').symm R B (HM.out.K.trans K (.inl rfl)))⟩
    |false =>
     simp only[Bool.false_eq_true,if_false]at HQ;go_wp2;replace HM:=z00.mk HM.out.drew;replace HU:=z00.mk (Kd.R_drew HU.out);refine z68 (n:=8) (S:=fun w'=>w'.cell? ⟨n6,3,none⟩=some (.slice A acc.length c)) (ds:=[7]) #[false,false,false,false,false,false,false,false] (by kernel_rfl) rfl rfl ((z01 HM.out.b6 3).trans rfl) (fun hHeld=>?_);refine z39 rule6.tab rule6.bits (fun HT_ HW_=>?_)
     generalize wc.drew=w1 at HM HU hHeld ⊢
     refine pure_ (i:=0) (N:=some 23) (v:=?_) (a':=?_) #[true,false,false,false,false,false,false,false] rfl rfl (z0r HT_.out (by kernel_rfl)) (fun _ _ _ h=>h) (Or.inl ⟨by rfl,?_⟩) ?_ ?_
     rotate_left
     · intro w'
       go_simp
       with_reducible rfl
     rotate_left
     · simp only[Act.put,List.setIfInBounds_toArray,List.set_cons_zero,List.set_cons_succ,i64_w,i32_w];rfl
     refine pure_ (i:=2) (N:=some 25) (v:=?_) (a':=?_) #[true,false,true,false,false,false,false,false] rfl rfl (z0r HT_.out (by kernel_rfl)) (fun _ _ _ h=>h) (Or.inl ⟨by rfl,?_⟩) ?_ ?_
     rotate_left
     · intro w'
       go_simp
       with_reducible rfl
     rotate_left
     · simp only[Act.put,List.setIfInBounds_toArray,List.set_cons_zero,List.set_cons_succ,i64_w,i32_w];rfl
     refine take_ (i:=1) (N:=some 24) (v:=?_) (a':=?_) #[true,true,true,false,false,false,false,false] rfl rfl (z1j HT_.out HW_.out (by kernel_rfl)) (fun _ _ _ h=>h) (Or.inl ⟨by rfl,?_⟩) hHeld ?_ ?_
     rotate_left
     · rintro w' s1
       go_simp
       with_reducible rfl
     rotate_left
     · simp only[Act.put,List.setIfInBounds_toArray,List.set_cons_zero,List.set_cons_succ,i64_w,i32_w];rfl
     refine one_ (i:=3) (N:=some 26) #[true,true,true,true,false,false,false,false] rfl rfl (z2a HT_.out (by kernel_rfl)) (by decide) (fun K hK=>?_);refine zgy Tryz.func116 (by kernel_rfl) rfl #[.pointer (some ⟨g,0,none⟩)] (by rfl) rfl rfl zA03 ?_;refine(zbv w0 w1 g ts p' en HE.out HM.out.R HM.out.B).mono ?_;intro e w2 hp;rcases hp.split with ⟨y,p2,v,er,rfl,hv,R,B,Kk⟩|⟨q,i,p2,er,h1,h2,rfl,R,B,Kk⟩
     case inr=>exact .inr ⟨_,rfl,rfl,Post.as (by rw[HQ.out,er];rfl) (Post.thrown_ h1 h2 R B (HM.out.K.trans Kk (.inl rfl)))⟩
     obtain⟨ua,ub,rfl,ha,hb0⟩:=hv;obtain⟨Aa,ca,rfl⟩:=Kd.R_slice ha;obtain⟨Ab,cb,rfl⟩:=Kd.R_slice hb0;obtain⟨nb,enb⟩:∃n,w1.heap.size=n:=⟨_,rfl⟩
     rw[enb]at ha hb0;have HLB:=z00.mk (show w.heap.size≤nb∧n4<nb∧n6<nb∧∀k,(Value.slice A acc.length c).ownBlock=some k→k<nb from⟨by rw[←enb];exact HM.out.K.1,by rw[←enb];exact z26 HM.out.b4,by rw[←enb];exact z26 HM.out.b6,fun k hk=>by rw[←enb];exact Kd.R_lt HM.out.own k hk⟩);have HLA:=z00.mk (And.intro (Kd.R_lower ha HLB.out.1) (Kd.R_lower hb0 HLB.out.1));clear ha hb0;refine .inl ⟨_,rfl,?_⟩;have HER:=z00.mk er;replace HU:=z00.mk (Kd.R_keep HU.out Kk (fun k hk=>by have h1:=hk.1.1;have h2:=HM.out.gw;omega));replace HM:=z00.mk (HM.out.call R B Kk);clear R B Kk hp er;refine hK.out _ _ ((z01 HM.out.b6 3).trans rfl) (fun hHeld=>?_);clear hK K;refine norm_ (a':=?_) ?_ ?_
     rotate_left
     · show Act.put _ (some 26) _=_;simp only[Act.put,List.setIfInBounds_toArray,List.set_cons_zero,List.set_cons_succ,i64_w,i32_w];rfl
     refine one_ (i:=4) (N:=some 27) #[true,true,true,true,true,false,false,false] rfl rfl (z2a HT_.out (by kernel_rfl)) (by decide) (fun K hK=>?_);refine zbf (w1:=?_) (v:=?_) (by rfl) rfl ?_ ?_
     rotate_left 2
     · go_simp
       constructor
       · rfl
       · rfl
     refine hK.out _ _ ((z01 (z0c HM.out.b6 _) 3).trans rfl) (fun hHeld=>?_);clear hK K;refine norm_ (a':=?_) ?_ ?_
     rotate_left
     · show Act.put _ (some 27) _=_;simp only[Act.put,List.setIfInBounds_toArray,List.set_cons_zero,List.set_cons_succ,i64_w,i32_w];rfl
     refine one_ (i:=5) (N:=some 28) #[true,true,true,true,true,true,false,false] rfl rfl (z2a HT_.out (by kernel_rfl)) (by decide) (fun K hK=>?_);refine Kd.R_append_step k62 w.heap.size (by rfl) (.tmp 24) (.tmp 27) 31 62 (.agg #[(.int .i64 0),(.string ⟨#[]⟩),(.slice none 0 0),(.string ⟨#[]⟩),(.string ⟨#[]⟩),(.int .i64 0),(.int .i64 0),(.string ⟨#[]⟩),(.string ⟨#[]⟩),(.int .i64 0),(.int .i64 0),(.string ⟨#[]⟩),(.string ⟨#[]⟩),(.int .i64 0),(.int .i64 0),(.string ⟨#[]⟩),(.slice none 0 0)]) 232 rfl Tryz.underlying31 info62 rfl (by decide) (by omega) (.slice A acc.length c) acc y [.int .i64 y.f0,.string y.f1.f0,.slice Aa y.f1.f1.length ca,.string y.f2,.string y.f3.f0,.int .i64 y.f3.f1.f0,.int .i64 y.f3.f1.f1,.string y.f3.f1.f2,.string y.f4.f0,.int .i64 y.f4.f1.f0,.int .i64 y.f4.f1.f1,.string y.f4.f1.f2,.string y.f5.f0,.int .i64 y.f5.f1.f0,.int .i64 y.f5.f1.f1,.string y.f5.f1.f2,.slice Ab y.f6.length cb] (fun k=>w.heap.size≤k∧k≠n4∧k≠n6) (fun k=>nb≤k) rfl rfl (k62_mkM _ _ _ y HLA.out.1 HLA.out.2) (fun k hk=>⟨⟨by have h1:=HLB.out.1;omega,by have h1:=HLB.out.2.1;omega,by have h1:=HLB.out.2.2.1;omega⟩,fun he=>by have h1:=HLB.out.2.2.2 k he.symm;omega⟩) (fun k hk=>HM.out.fresh hk) HM.out.own (Below.refl _ _) HM.out.K.1 (by have:=HLEN.out;omega) ?_;intro u' w3 ho hb hg hat;obtain⟨A',c',eu⟩:=Kd.R_slice ho;rw[List.length_append,List.length_singleton]at eu;subst eu;have HM3:=z00.mk (HM.out.more (u':=.slice A' (acc.length+1) c') 3 rfl ho (z5e HM.out.B HM.out.h0 hb) hg);replace HU:=z00.mk (Kd.R_far (p:=⟨n6,3,none⟩) (Kd.R_after HU.out hg hat) (fun k hk=>hk.1.2.2) (.slice A' (acc.length+1) c'));have HB6:=z3b HM.out.b6 hg HM.out.ne6;refine hK.out _ _ ((z01 HB6 3).trans rfl) (fun hHeld=>?_);clear hK K;refine norm_ (a':=?_) ?_ ?_
     rotate_left
     · show Act.put _ (some 28) _=_;simp only[Act.put,List.setIfInBounds_toArray,List.set_cons_zero,List.set_cons_succ,i64_w,i32_w];rfl
     refine pure_ (i:=6) (N:=some 29) (v:=?_) (a':=?_) #[true,true,true,true,true,true,true,false] rfl rfl (z0r HT_.out (by kernel_rfl)) (fun _ _ _ h=>h) (Or.inl ⟨by rfl,?_⟩) ?_ ?_
     rotate_left
     · intro w'
       go_simp
       with_reducible rfl
     rotate_left
     · simp only[Act.put,List.setIfInBounds_toArray,List.set_cons_zero,List.set_cons_succ,i64_w,i32_w];rfl
     refine last_ (i:=7) (N:=none) #[true,true,true,true,true,true,true,true] rfl rfl (z2a HT_.out (by kernel_rfl)) (by decide) (fun K hK=>?_);have hs6:w3.cell? ⟨n6,3,none⟩=some (.slice A acc.length c):=(z01 HB6 3).trans rfl;have hsf6:=z02 HB6 3;refine skip_ (w1:=?_) (by rfl) rfl ?_ ?_
     rotate_left
     · go_simp
       rfl
     refine hK.out _ _ ?_;clear hK K;refine done_ (z4w HT_.out (by kernel_rfl)) ?_;clear HM hs6 hsf6 HB6 ho hb hg hat hHeld HT_ HW_;have HM:=HM3;clear HM3
     generalize w3.setCell ⟨n6,3,none⟩ (.slice A' (acc.length+1) c')=w4 at HM HU ⊢
     replace HQ:=z00.mk (HQ.out.trans (by rw[HER.out];rfl:_=bnd (if mk0 (leftL ts p2) [44]=true then bodyP (12 - acc.length) (acc++[y]) ((leftL ts p2).drop 1)else .ok (acc++[y],leftL ts p2)) (ruleE y0)));have hst:z2h (leftL ts p')=true:=zhr HER.out;have h8:acc.length≠12:=fun h=>by
      have h1:=HFL.out;rw[HST.out,hst,beq_iff_eq.2 h]at h1
      cases h1
     clear HER hst HLA HLB;have HS5:=z00.mk (z1e w0 w4 g ts p2 en ⟨#[44]⟩ HM.out.R HM.out.B);rw[z1g,show((⟨#[44]⟩:ByteArray).data.toList)=[44]from rfl]at HS5
     cases hm2:mk0 (leftL ts p2) [44]with
     |true =>
      rw[hm2]at HS5;simp only[hm2,if_true,z0p]at HQ
      go_wp2_with fail
      refine HS5.out.mono ?_;rintro e w5 ⟨rfl,R,B,K⟩;simp only[if_true]at R;replace HU:=z00.mk (Kd.R_keep HU.out K (fun k hk=>by have h1:=hk.1.1;have h2:=HM.out.gw;omega));replace HM:=z00.mk (HM.out.call R B K);clear R B K HS5;have hl1:(acc++[y]).length=acc.length+1:=by simp
      go_wp2
      go_roundg k1
      case rel=>exact⟨acc++[y],p2+1,_,by omega,by have:=HLEN.out;omega,⟨by rw[HQ.out,show 13 - (acc++[y]).length=12 - acc.length by omega]⟩,HM,HU⟩
      case measure=>omega
     |false =>
      rw[hm2]at HS5;simp only[hm2,Bool.false_eq_true,if_false]at HQ
      go_wp2_with fail
      refine HS5.out.mono ?_;rintro e w5 ⟨rfl,R,B,K⟩;simp only[Bool.false_eq_true,if_false]at R;replace HU:=z00.mk (Kd.R_keep HU.out K (fun k hk=>by have h1:=hk.1.1;have h2:=HM.out.gw;omega));replace HM:=z00.mk (HM.out.call R B K);clear R B K HS5;replace HQ:=z00.mk (show r=bnd (wantP [46] (leftL ts p2)) (fun _ r=>.ok (⟨y0.1,y0.2,acc++[y]⟩,r))from HQ.out);have HW2:=z00.mk (show Calls Tryz.prog 88 #[.pointer (some ⟨g,0,none⟩),.string ⟨#[46]⟩] w5 fun e w'=>Post w0 w5 g ts en (wantP [46] (leftL ts p2)) (fun v _ _=>v=.tuple #[]) e w' from z3i w0 w5 g ts p2 en ⟨#[46]⟩ HM.out.R HM.out.B)
      go_wp2_with fail
      refine HW2.out.mono ?_;intro e w6 hp;rcases hp.split with ⟨y2,p4,v2,ew2,rfl,rfl,R,B,K⟩|⟨q,i,p4,ew2,h1,h2,rfl,R,B,K⟩
      case inr=>exact⟨rfl,Post.as (HQ.out.trans (z3m ew2)) (Post.thrown_ h1 h2 R B (HM.out.K.trans K (.inl rfl)))⟩
      replace HQ:=z00.mk (show r=.ok (⟨⟨y0.1.f0,y0.1.f1⟩,y0.2,acc++[y]⟩,leftL ts p4)from HQ.out.trans (z2z ew2));replace HU:=z00.mk (Kd.R_keep HU.out K (fun k hk=>by have h1:=hk.1.1;have h2:=HM.out.gw;omega));replace HM:=z00.mk (HM.out.call R B K);clear R B K hp HW2 ew2;have hd60:w6.cell? ⟨n6,0,none⟩=some (.string y0.1.f0):=(z01 HM.out.b6 0).trans rfl;have hd61:w6.cell? ⟨n6,1,none⟩=some (.slice Au al cu):=(z01 HM.out.b6 1).trans rfl;have hd62:w6.cell? ⟨n6,2,none⟩=some (.int .i64 y0.2):=(z01 HM.out.b6 2).trans rfl;have hd63:w6.cell? ⟨n6,3,none⟩=some (.slice A' (acc.length+1) c'):=(z01 HM.out.b6 3).trans rfl;have hd40:w6.cell? ⟨n4,0,none⟩=some (.string ⟨#[]⟩):=(z01 HM.out.b4 0).trans rfl;have hd41:w6.cell? ⟨n4,1,none⟩=some (.slice none 0 0):=(z01 HM.out.b4 1).trans rfl;have hd42:w6.cell? ⟨n4,2,none⟩=some (.int .i64 0):=(z01 HM.out.b4 2).trans rfl;have hd43:w6.cell? ⟨n4,3,none⟩=some (.slice none 0 0):=(z01 HM.out.b4 3).trans rfl;have hg40:=z02 HM.out.b4 0;have hg41:=z02 HM.out.b4 1;have hg42:=z02 HM.out.b4 2;have hg43:=z02 HM.out.b4 3;obtain⟨P1,P2⟩:=RuM.ends HM.out HU.out HQ.out;obtain⟨ln,hln⟩:∃ln,acc.length+1=ln:=⟨_,rfl⟩
      rw[hln]at hd63 P1 P2;go_wp2;refine bodyPost_ret (results_cell_row rfl _ _ n4 33 #[.string y0.1.f0,.slice Au al cu,.int .i64 y0.2,.slice A' ln c'] (0,0) _ rfl P1.out Tryz.underlying33 rfl (by kernel_rfl)) rfl ?_;exact P2.out
end Go.Proofs.YthebhbomlllpeaaGreatDoor.X
