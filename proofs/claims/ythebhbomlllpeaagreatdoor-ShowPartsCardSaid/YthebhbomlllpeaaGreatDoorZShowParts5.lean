/-
  ShowParts: what the proof needs, put together by a program of this session (shake.py), part 5.
-/
import Derived.Test.YthebhbomlllpeaaGreatDoorZShowParts4
set_option linter.unusedVariables false
set_option linter.unusedSimpArgs false
namespace Go.Proofs.YthebhbomlllpeaaGreatDoor.X
open Go.RowKit Go.Proofs.YthebhbomlllpeaaGreatDoorW.PrintWords Go.Proofs.YthebhbomlllpeaaGreatDoorW.PrintLast Go.Proofs.YthebhbomlllpeaaGreatDoorW.PrintMore
theorem info33:(Tryz.prog.info? 33).map (fun i=>(i.zero,i.size,i.bytes))=some (some (.agg #[(.string ⟨#[]⟩),(.slice none 0 0),(.int .i64 0),(.slice none 0 0)]),4,72):=by kernel_rfl
def prog6.T:Bool × List (List Nat × List Nat):=(true,[([],[]),([0],[0]),([],[]),([2],[2]),([3],[3]),([1,4,3],[1,4]),([0,1,2,3,4,5],[]),([6,5,5,0,1,2,3,4,5],[5,6])])
def prog6.B:List Nat:=[0,1,0,4,12,31,63,127]
theorem prog6.tab:rtab .any (opsOf Tryz.f54 6)=prog6.T:=by kernel_rfl
theorem prog6.bits:z3y prog6.T.2 prog6.B=true:=by kernel_rfl
def progE (rs:List RlS) (l:List TK):Except (Nat × Int) (PgS × List TK):=bnd (atomP false l) fun q r=>bnd (wantP [46] r) fun _ r=>.ok (⟨rs,q.1⟩,r)
theorem zhb (acc:List RlS) (l:List TK) (h:acc.length≤200):z8l (201 - acc.length) acc l=if mk0 l [63,45]=true then .ok (acc,l.drop 1)else if(acc.length==200&&predL l)=true then .error (l.length,4)else bnd (ruleP l) fun x r=>z8l (200 - acc.length) (acc++[x]) r:=by
 obtain⟨n,hn⟩:∃n,200 - acc.length=n:=⟨_,rfl⟩
 rw[show 201 - acc.length=n+1 by omega,hn];have hb:(acc.length==200)=(n==0):=by
  by_cases h8:acc.length=200
  · rw[beq_iff_eq.2 h8,beq_iff_eq.2 (show n=0 by omega)]
  · rw[beq_eq_false_iff_ne.2 h8,beq_eq_false_iff_ne.2 (show n≠0 by omega)]
 rw[hb];rfl
theorem zky {l:List TK} {x:RlS} {r:List TK} (h:ruleP l=.ok (x,r)):predL l=true:=by
 obtain⟨y,r1,h1,h2⟩:=z6v h;obtain⟨z,r2,h3,h4⟩:=z6v h1
 cases l with
 |nil=>cases h3
 |cons t r' =>
  simp only[z1m]at h3
  split at h3
  · rename_i hp;exact hp
  · cases h3
def prV (w':World) (base:Nat) (v:Value) (x:PgS):Prop:=∃u1 u2,v=.agg #[u1,.string x.f1.f0,u2]∧Kd.R k33 33 w' base (fun k=>base≤k) u1 x.f0∧Kd.R k60 60 w' base (fun k=>base≤k) u2 x.f1.f1
abbrev zProg:Array Value:=#[.slice none 0 0,.string ⟨#[]⟩,.slice none 0 0]
abbrev PrM (q:ByteArray) (u2:Value):=GM k33 33 27 (fun u=>#[u,.string q,u2]) zProg
theorem PrM.ends {q:ByteArray} {u2:Value} {args:List TmS} {w0 w wr:World} {g n4 n6:Nat} {ts:List S108} {en:Int} {p:Nat} {acc:List RlS} {u:Value} (h:PrM q u2 w0 w wr g n4 n6 ts en p acc u) (hu:Kd.R k60 60 wr w.heap.size (fun k=>w.heap.size≤k∧k≠n4∧k≠n6) u2 args) {r:Except (Nat × Int) (PgS × List TK)} (hr:r=.ok (⟨acc,⟨q,args⟩⟩,leftL ts p)) :
 z00 ((sets wr n4 0 [u,.string q,u2]).heap[n4]?=some (.cells #[u,.string q,u2] 27 (0,0))) ∧
 z00 (Post w0 w g ts en r (fun v w' x=>prV w' w.heap.size v x) (.returned (.agg #[u,.string q,u2])) (sets wr n4 0 [u,.string q,u2])):=by
 have h1:=h.gw;have h2:=h.h4;have h3:=h.h0;refine⟨⟨z34 [u,.string q,u2] 0 wr zProg h.b4⟩,⟨z2u (by omega) _ 0 wr h.B,z6m (by omega) _ 0 wr h.K,p,h.R.sets_ (by omega) _ 0 wr,?_⟩⟩;rw[hr];exact⟨rfl,_,rfl,u,u2,rfl,Kd.R_mono (z5i (fun k hk=>hk.2.1) _ 0 wr h.own) (fun k hk=>hk.1),Kd.R_mono (z5i (fun k hk=>hk.2.1) _ 0 wr hu) (fun k hk=>hk.1)⟩
theorem PrM.query {q0:ByteArray} {v0:Value} {w0 w wr:World} {g n4 n6:Nat} {ts:List S108} {en:Int} {p:Nat} {acc:List RlS} {u:Value} (h:PrM q0 v0 w0 w wr g n4 n6 ts en p acc u) (q:ByteArray) (u2:Value):PrM q u2 w0 w (sets wr n6 1 [.string q,u2]) g n4 n6 ts en p acc u:=by
 have h0:=h.h0;have h1:=h.gw;have h2:=h.h4;have h3:=h.h46;exact⟨h.R.sets_ (by omega) _ 1 wr,z2u (by omega) _ 1 wr h.B,z6m (by omega) _ 1 wr h.K,z2q (by omega) _ 1 wr h.b4,z34 [.string q,u2] 1 wr #[u,.string q0,v0] h.b6,z5i (fun k hk=>hk.2.2) _ 1 wr h.own,h0,h1,h2,h3⟩
set_option maxHeartbeats 4000000 in
set_option maxRecDepth 100000 in
theorem zc0 (w0 w:World) (g:Nat) (ts:List S108) (p:Nat) (en:Int) (hE:Env w0 ts) (hI:Rd w0 w g ts p en) (hB:Below w0.heap.size w0 w) :
 Calls Tryz.prog 54 #[.pointer (some ⟨g,0,none⟩)] w fun e w'=>Post w0 w g ts en (z2w (leftL ts p)) (fun v w' x=>prV w' w.heap.size v x) e w':=by
 have HE:=z00.mk hE;obtain⟨n4,en4⟩:∃n,w.heap.size=n:=⟨_,rfl⟩
 have hz1:(w.alloc (.cells zProg 27)).heap.size=n4+1:=by simp[en4]
 have hb4:=z0c (z0q w (.cells zProg 27)) (.cells zProg 27);have hb6:=z0q (w.alloc (.cells zProg 27)) (.cells zProg 27);rw[en4]at hb4;rw[hz1]at hb6;obtain⟨W,hW⟩:∃W,(w.alloc (.cells zProg 27)).alloc (.cells zProg 27)=W:=⟨_,rfl⟩
 obtain⟨n6,hn6⟩:∃n,n4+1=n:=⟨_,rfl⟩
 rw[hW]at hb4 hb6;rw[hn6]at hb6;have HM:=z00.mk (show PrM ⟨#[]⟩ (.slice none 0 0) w0 w W g n4 n6 ts en p [] (.slice none 0 0)from⟨hW ▸ (hI.alloc _).alloc _,hW ▸ z03 (z03 hB _) _,hW ▸ z1k (z1k (z0k.refl w g none) _) _,hb4,hb6,Kd.R_nil _ _ _ _ _,hB.size,hI.lt,by omega,by omega⟩);obtain⟨r,hr⟩:∃r,z2w (leftL ts p)=r:=⟨_,rfl⟩
 rw[hr];have HQ:=z00.mk (show r=bnd (z8l (201 - ([]:List RlS).length) [] (leftL ts p)) progE by rw[←hr];rfl);have HW:=z00.mk hW;clear hE hI hB hb4 hb6 hr hW hz1;go_enter Tryz.func54,Tryz.ntmps54;go_wp2;rw[HW.out]
 go_loopg [] 201 (fun kq w'=>∃(acc:List RlS) (p':Nat) (u:Value),acc.length+kq=201∧acc.length≤200∧z00 (r=bnd (z8l (201 - acc.length) acc (leftL ts p')) progE)∧z00 (PrM ⟨#[]⟩ (.slice none 0 0) w0 w w' g n4 n6 ts en p' acc u))
 case atStart=>exact⟨[],p,_,rfl,by simp,HQ,HM⟩
 case round =>
  clear HQ HM;obtain⟨acc,p',u,hk9,hl8,HQ,HM⟩:=hrel
  cases gk with
  |zero=>exact absurd hk9 (by omega)
  |succ k1 =>
  have HLEN:=z00.mk hl8;replace HQ:=z00.mk (HQ.out.trans (by rw[zhb acc _ hl8]));obtain⟨A,c,rfl⟩:=Kd.R_slice HM.out.own;have HS4:=z00.mk (z1e w0 wr g ts p' en ⟨#[63,45]⟩ HM.out.R HM.out.B);rw[z1g,show((⟨#[63,45]⟩:ByteArray).data.toList)=[63,45]from rfl]at HS4
  cases hm:mk0 (leftL ts p') [63,45]with
  |true =>
   rw[hm]at HS4;simp only[hm,if_true,z0p]at HQ;replace HQ:=z00.mk (show r=bnd (atomP false (leftL ts (p'+1))) fun q r=>bnd (wantP [46] r) fun _ r=>.ok (⟨acc,q.1⟩,r)from HQ.out)
   go_wp2_with fail
   refine HS4.out.mono ?_;rintro e w5 ⟨rfl,R,B,K⟩;simp only[if_true]at R;replace HM:=z00.mk (HM.out.call R B K);clear R B K HS4;have HP:=z00.mk (z7d w0 w5 g ts (p'+1) en false HE.out HM.out.R HM.out.B)
   go_wp2_with fail
   refine HP.out.mono ?_;intro e w1 hp;rcases hp.split with ⟨y0,p1,v,ey,rfl,⟨u1,rfl,hu1⟩,R,B,K⟩|⟨q,i,p1,ey,h1,h2,rfl,R,B,K⟩
   case inr=>exact⟨rfl,Post.as (HQ.out.trans (z3m ey)) (Post.thrown_ h1 h2 R B (HM.out.K.trans K (.inl rfl)))⟩
   obtain⟨Au,cu,rfl⟩:=Kd.R_slice hu1;have h4W:=z26 HM.out.b4;have h6W:=z26 HM.out.b6;have hkW:=HM.out.K.1;obtain⟨al,hal⟩:∃n,y0.1.f1.length=n:=⟨_,rfl⟩
   rw[hal]at hu1 ⊢;have HU:=z00.mk (show Kd.R k60 60 w1 w.heap.size (fun k=>w.heap.size≤k∧k≠n4∧k≠n6) (.slice Au al cu) y0.1.f1 from Kd.R_mono (Kd.R_lower hu1 hkW) (fun k hk=>⟨Nat.le_trans hkW hk,by omega,by omega⟩));replace HQ:=z00.mk (HQ.out.trans (z2z ey));replace HM:=z00.mk (HM.out.call R B K);have hd61:w1.cell? ⟨n6,1,none⟩=some (.string ⟨#[]⟩):=(z01 HM.out.b6 1).trans rfl;have hd62:w1.cell? ⟨n6,2,none⟩=some (.slice none 0 0):=(z01 HM.out.b6 2).trans rfl;have hf61:=z02 HM.out.b6 1;have hf62:=z02 HM.out.b6 2;replace HM:=z00.mk (show PrM y0.1.f0 (.slice Au al cu) w0 w ((w1.setCell ⟨n6,1,none⟩ (.string y0.1.f0)).setCell ⟨n6,2,none⟩ (.slice Au al cu)) g n4 n6 ts en p1 acc (.slice A acc.length c)from PrM.query HM.out y0.1.f0 (.slice Au al cu));replace HU:=z00.mk (Kd.R_far (p:=⟨n6,2,none⟩) (Kd.R_far (p:=⟨n6,1,none⟩) HU.out (fun k hk=>hk.2.2) (.string y0.1.f0)) (fun k hk=>hk.2.2) (.slice Au al cu));have HW2:=z00.mk (show Calls Tryz.prog 88 #[.pointer (some ⟨g,0,none⟩),.string ⟨#[46]⟩] ((w1.setCell ⟨n6,1,none⟩ (.string y0.1.f0)).setCell ⟨n6,2,none⟩ (.slice Au al cu)) fun e w'=>Post w0 ((w1.setCell ⟨n6,1,none⟩ (.string y0.1.f0)).setCell ⟨n6,2,none⟩ (.slice Au al cu)) g ts en (wantP [46] (leftL ts p1)) (fun v _ _=>v=.tuple #[]) e w' from z3i w0 _ g ts p1 en ⟨#[46]⟩ HM.out.R HM.out.B);clear R B K hp hu1 h4W h6W hkW HP ey
   go_wp2_with fail
   refine HW2.out.mono ?_;intro e w6 hp;rcases hp.split with ⟨y2,p4,v2,ew2,rfl,rfl,R,B,K⟩|⟨q,i,p4,ew2,h1,h2,rfl,R,B,K⟩
   case inr=>exact⟨rfl,Post.as (HQ.out.trans (z3m ew2)) (Post.thrown_ h1 h2 R B (HM.out.K.trans K (.inl rfl)))⟩
   replace HQ:=z00.mk (show r=.ok (⟨acc,⟨y0.1.f0,y0.1.f1⟩⟩,leftL ts p4)from HQ.out.trans (z2z ew2));replace HU:=z00.mk (Kd.R_keep HU.out K (fun k hk=>by have h1:=hk.1;have h2:=HM.out.gw;omega));replace HM:=z00.mk (HM.out.call R B K);clear R B K hp HW2 ew2 hd61 hd62 hf61 hf62;have hd60:w6.cell? ⟨n6,0,none⟩=some (.slice A acc.length c):=(z01 HM.out.b6 0).trans rfl;have hd61:w6.cell? ⟨n6,1,none⟩=some (.string y0.1.f0):=(z01 HM.out.b6 1).trans rfl;have hd62:w6.cell? ⟨n6,2,none⟩=some (.slice Au al cu):=(z01 HM.out.b6 2).trans rfl;have hd40:w6.cell? ⟨n4,0,none⟩=some (.slice none 0 0):=(z01 HM.out.b4 0).trans rfl;have hd41:w6.cell? ⟨n4,1,none⟩=some (.string ⟨#[]⟩):=(z01 HM.out.b4 1).trans rfl;have hd42:w6.cell? ⟨n4,2,none⟩=some (.slice none 0 0):=(z01 HM.out.b4 2).trans rfl;have hg40:=z02 HM.out.b4 0;have hg41:=z02 HM.out.b4 1;have hg42:=z02 HM.out.b4 2;obtain⟨P1,P2⟩:=PrM.ends HM.out HU.out HQ.out;go_wp2;refine bodyPost_ret (results_cell_row rfl _ _ n4 27 #[.slice A acc.length c,.string y0.1.f0,.slice Au al cu] (0,0) _ rfl P1.out Tryz.underlying27 rfl (by kernel_rfl)) rfl ?_;exact P2.out
  |false =>
   rw[hm]at HS4;simp only[hm,Bool.false_eq_true,if_false]at HQ
   go_wp2_with fail
   refine HS4.out.mono ?_;rintro e w5 ⟨rfl,R,B,K⟩;simp only[Bool.false_eq_true,if_false]at R;replace HM:=z00.mk (HM.out.call R B K);clear R B K HS4;obtain⟨x,hx⟩:∃x,seeP ts en p'=x:=⟨_,rfl⟩
   have HS2:=z00.mk (z29 w0 w5 g ts p' en 0 (by omega) HM.out.R HM.out.B);rw[Nat.add_zero,hx]at HS2;have HPB:=z5c ts en p';rw[hx]at HPB;have HPB:=z00.mk HPB;clear hx hm
   go_wp2_with fail
   refine HS2.out.mono ?_;rintro e w3 ⟨rfl,R,B,K⟩;obtain⟨n8,en8⟩:∃n,w3.heap.size=n:=⟨_,rfl⟩
   have hX:=z0q w3 (.cells #[.int .i64 x.f0,.string x.f1,.int .i64 x.f2] 108);rw[en8]at hX;have HX:=z00.mk hX;replace HM:=z00.mk ((HM.out.call R B K).alloc (.cells #[.int .i64 x.f0,.string x.f1,.int .i64 x.f2] 108));clear R B K HS2 hX
   go_upto_region 4 with (fail)
   generalize w3.alloc (.cells #[.int .i64 x.f0,.string x.f1,.int .i64 x.f2] 108)=w4 at HM HX ⊢
   have hx0:w4.cell? ⟨n8,0,none⟩=some (.int .i64 x.f0):=(z01 HX.out 0).trans rfl;have hx1:w4.cell? ⟨n8,1,none⟩=some (.string x.f1):=(z01 HX.out 1).trans rfl;have hc60:w4.cell? ⟨n6,0,none⟩=some (.slice A acc.length c):=(z01 HM.out.b6 0).trans rfl
   go_cut [24] (fun v24 wc=>v24=.bool (acc.length==200&&predL (leftL ts p'))∧z00 (PrM ⟨#[]⟩ (.slice none 0 0) w0 w wc g n4 n6 ts en p' acc (.slice A acc.length c)))
   case first =>
    have HY:=z00.mk (fun W=>z52.calls x.f1 (keyL x.f1.data.toList) W (z61 x.f1));obtain⟨ky,hky⟩:∃c,keyL x.f1.data.toList=c:=⟨_,rfl⟩
    rw[hky]at HY HPB;clear hky
    by_cases h8:acc.length=200
    · have c0:((acc.length:Int)==200)=true:=beq_iff_eq.2 (by omega);have c1:(acc.length==200)=true:=beq_iff_eq.2 h8
      cases k1:(x.f0==1)with
      |false =>
       go_wp2;go_meet
       case rel=>exact⟨by rw[HPB.out,c1,k1];rfl,HM⟩
      |true =>
       go_wp2_with fail
       refine(HY.out _).mono ?_;rintro e w6 ⟨rfl,d⟩;have HM2:=z00.mk (HM.out.call (HM.out.R.below d.below) (z0g HM.out.B d.below) (z0k.of_below d.below g none));clear d;go_wp2;go_meet
       case rel=>exact⟨by rw[HPB.out,c1,k1];first|rfl|simp,HM2⟩
    · have c0:((acc.length:Int)==200)=false:=beq_eq_false_iff_ne.2 (by omega);have c1:(acc.length==200)=false:=beq_eq_false_iff_ne.2 h8;go_wp2;go_meet
      case rel=>exact⟨by rw[c1];rfl,HM⟩
   case rest =>
    clear HM HX hx0 hx1 hc60;obtain⟨rfl,HM⟩:=hcut;obtain⟨fl,hfl⟩:∃fl,(acc.length==200&&predL (leftL ts p'))=fl:=⟨_,rfl⟩
    rw[hfl]at HQ ⊢;have HFL:=z00.mk hfl;clear hfl HPB
    cases fl with
    |true =>
     have HF:=z00.mk (z4t w0 wc g ts p' en 4 HM.out.R HM.out.B)
     go_wp2_with fail
     refine HF.out.mono ?_;rintro e w3 ⟨rfl,R,B,K⟩;exact⟨rfl,Post.as (by rw[HQ.out];rfl) (Post.thrown_ (q:=((leftL ts p').length,4)) (i:=p') R.le (z0s ts p').symm R B (HM.out.K.trans K (.inl rfl)))⟩
    |false =>
    simp only[Bool.false_eq_true,if_false]at HQ;go_wp2;replace HM:=z00.mk HM.out.drew;refine z68 (n:=8) (S:=fun w'=>w'.cell? ⟨n6,0,none⟩=some (.slice A acc.length c)) (ds:=[7]) #[false,false,false,false,false,false,false,false] (by kernel_rfl) rfl rfl ((z01 HM.out.b6 0).trans rfl) (fun hHeld=>?_);refine z39 prog6.tab prog6.bits (fun HT_ HW_=>?_)
    generalize wc.drew=w1 at HM hHeld ⊢
    refine pure_ (i:=0) (N:=some 27) (v:=?_) (a':=?_) #[true,false,false,false,false,false,false,false] rfl rfl (z0r HT_.out (by kernel_rfl)) (fun _ _ _ h=>h) (Or.inl ⟨by rfl,?_⟩) ?_ ?_
    rotate_left
    · intro w'
      go_simp
      with_reducible rfl
    rotate_left
    · simp only[Act.put,List.setIfInBounds_toArray,List.set_cons_zero,List.set_cons_succ,i64_w,i32_w];rfl
    refine pure_ (i:=2) (N:=some 29) (v:=?_) (a':=?_) #[true,false,true,false,false,false,false,false] rfl rfl (z0r HT_.out (by kernel_rfl)) (fun _ _ _ h=>h) (Or.inl ⟨by rfl,?_⟩) ?_ ?_
    rotate_left
    · intro w'
      go_simp
      with_reducible rfl
    rotate_left
    · simp only[Act.put,List.setIfInBounds_toArray,List.set_cons_zero,List.set_cons_succ,i64_w,i32_w];rfl
    refine take_ (i:=1) (N:=some 28) (v:=?_) (a':=?_) #[true,true,true,false,false,false,false,false] rfl rfl (z1j HT_.out HW_.out (by kernel_rfl)) (fun _ _ _ h=>h) (Or.inl ⟨by rfl,?_⟩) hHeld ?_ ?_
    rotate_left
    · rintro w' s1
      go_simp
      with_reducible rfl
    rotate_left
    · simp only[Act.put,List.setIfInBounds_toArray,List.set_cons_zero,List.set_cons_succ,i64_w,i32_w];rfl
    refine one_ (i:=3) (N:=some 30) #[true,true,true,true,false,false,false,false] rfl rfl (z2a HT_.out (by kernel_rfl)) (by decide) (fun K hK=>?_);refine zgy Tryz.func86 (by kernel_rfl) rfl #[.pointer (some ⟨g,0,none⟩)] (by rfl) rfl rfl zA03 ?_;refine(zh0 w0 w1 g ts p' en HE.out HM.out.R HM.out.B).mono ?_;intro e w2 hp;rcases hp.split with ⟨y,p2,v,er,rfl,hv,R,B,Kk⟩|⟨q,i,p2,er,h1,h2,rfl,R,B,Kk⟩
    case inr=>exact .inr ⟨_,rfl,rfl,Post.as (by rw[HQ.out,er];rfl) (Post.thrown_ h1 h2 R B (HM.out.K.trans Kk (.inl rfl)))⟩
    obtain⟨ua,ub,rfl,ha,hb0⟩:=hv;obtain⟨Aa,ca,rfl⟩:=Kd.R_slice ha;obtain⟨Ab,cb,rfl⟩:=Kd.R_slice hb0;obtain⟨nb,enb⟩:∃n,w1.heap.size=n:=⟨_,rfl⟩
    rw[enb]at ha hb0;have HLB:=z00.mk (show w.heap.size≤nb∧n4<nb∧n6<nb∧∀k,(Value.slice A acc.length c).ownBlock=some k→k<nb from⟨by rw[←enb];exact HM.out.K.1,by rw[←enb];exact z26 HM.out.b4,by rw[←enb];exact z26 HM.out.b6,fun k hk=>by rw[←enb];exact Kd.R_lt HM.out.own k hk⟩);have HLA:=z00.mk (And.intro (Kd.R_lower ha HLB.out.1) (Kd.R_lower hb0 HLB.out.1));clear ha hb0;refine .inl ⟨_,rfl,?_⟩;have HER:=z00.mk er;replace HM:=z00.mk (HM.out.call R B Kk);clear R B Kk hp er;refine hK.out _ _ ((z01 HM.out.b6 0).trans rfl) (fun hHeld=>?_);clear hK K;refine norm_ (a':=?_) ?_ ?_
    rotate_left
    · show Act.put _ (some 30) _=_;simp only[Act.put,List.setIfInBounds_toArray,List.set_cons_zero,List.set_cons_succ,i64_w,i32_w];rfl
    refine one_ (i:=4) (N:=some 31) #[true,true,true,true,true,false,false,false] rfl rfl (z2a HT_.out (by kernel_rfl)) (by decide) (fun K hK=>?_);refine zbf (w1:=?_) (v:=?_) (by rfl) rfl ?_ ?_
    rotate_left 2
    · go_simp
      constructor
      · rfl
      · rfl
    refine hK.out _ _ ((z01 (z0c HM.out.b6 _) 0).trans rfl) (fun hHeld=>?_);clear hK K;refine norm_ (a':=?_) ?_ ?_
    rotate_left
    · show Act.put _ (some 31) _=_;simp only[Act.put,List.setIfInBounds_toArray,List.set_cons_zero,List.set_cons_succ,i64_w,i32_w];rfl
    refine one_ (i:=5) (N:=some 32) #[true,true,true,true,true,true,false,false] rfl rfl (z2a HT_.out (by kernel_rfl)) (by decide) (fun K hK=>?_);refine Kd.R_append_step k33 w.heap.size (by rfl) (.tmp 28) (.tmp 31) 22 33 (.agg #[(.string ⟨#[]⟩),(.slice none 0 0),(.int .i64 0),(.slice none 0 0)]) 72 rfl Tryz.underlying22 info33 rfl (by decide) (by omega) (.slice A acc.length c) acc y [.string y.f0.f0,.slice Aa y.f0.f1.length ca,.int .i64 y.f1,.slice Ab y.f2.length cb] (fun k=>w.heap.size≤k∧k≠n4∧k≠n6) (fun k=>nb≤k) rfl rfl (k33_mkM _ _ _ y HLA.out.1 HLA.out.2) (fun k hk=>⟨⟨by have h1:=HLB.out.1;omega,by have h1:=HLB.out.2.1;omega,by have h1:=HLB.out.2.2.1;omega⟩,fun he=>by have h1:=HLB.out.2.2.2 k he.symm;omega⟩) (fun k hk=>HM.out.fresh hk) HM.out.own (Below.refl _ _) HM.out.K.1 (by have:=HLEN.out;omega) ?_;intro u' w3 ho hb hg hat;obtain⟨A',c',eu⟩:=Kd.R_slice ho;rw[List.length_append,List.length_singleton]at eu;subst eu;have HM3:=z00.mk (HM.out.more (u':=.slice A' (acc.length+1) c') 0 rfl ho (z5e HM.out.B HM.out.h0 hb) hg);have HB6:=z3b HM.out.b6 hg HM.out.ne6;refine hK.out _ _ ((z01 HB6 0).trans rfl) (fun hHeld=>?_);clear hK K;refine norm_ (a':=?_) ?_ ?_
    rotate_left
    · show Act.put _ (some 32) _=_;simp only[Act.put,List.setIfInBounds_toArray,List.set_cons_zero,List.set_cons_succ,i64_w,i32_w];rfl
    refine pure_ (i:=6) (N:=some 33) (v:=?_) (a':=?_) #[true,true,true,true,true,true,true,false] rfl rfl (z0r HT_.out (by kernel_rfl)) (fun _ _ _ h=>h) (Or.inl ⟨by rfl,?_⟩) ?_ ?_
    rotate_left
    · intro w'
      go_simp
      with_reducible rfl
    rotate_left
    · simp only[Act.put,List.setIfInBounds_toArray,List.set_cons_zero,List.set_cons_succ,i64_w,i32_w];rfl
    refine last_ (i:=7) (N:=none) #[true,true,true,true,true,true,true,true] rfl rfl (z2a HT_.out (by kernel_rfl)) (by decide) (fun K hK=>?_);have hs6:w3.cell? ⟨n6,0,none⟩=some (.slice A acc.length c):=(z01 HB6 0).trans rfl;have hsf6:=z02 HB6 0;refine skip_ (w1:=?_) (by rfl) rfl ?_ ?_
    rotate_left
    · go_simp
      rfl
    refine hK.out _ _ ?_;clear hK K;refine done_ (z4w HT_.out (by kernel_rfl)) ?_;clear HM hs6 hsf6 HB6 ho hb hg hat hHeld HT_ HW_;have HM:=HM3;clear HM3
    generalize w3.setCell ⟨n6,0,none⟩ (.slice A' (acc.length+1) c')=w4 at HM ⊢
    replace HQ:=z00.mk (HQ.out.trans (by rw[HER.out];rfl:_=bnd (z8l (200 - acc.length) (acc++[y]) (leftL ts p2)) progE));have h8:acc.length≠200:=fun h=>by
     have h1:=HFL.out;rw[zky HER.out,beq_iff_eq.2 h]at h1
     cases h1
    clear HER HLA HLB;have hl1:(acc++[y]).length=acc.length+1:=by simp
    go_wp2
    go_roundg k1
    case rel=>exact⟨acc++[y],p2,_,by omega,by have:=HLEN.out;omega,⟨by rw[HQ.out,show 201 - (acc++[y]).length=200 - acc.length by omega]⟩,HM⟩
    case measure=>omega

def closP2.T:Bool × List (List Nat × List Nat):=(true,[([],[]),([],[]),([1],[1]),([],[]),([3],[3]),([0,0],[0]),([2,5,0,1,2,5],[2]),([4,6,0,1,2,3,4,5,6],[4])])
def closP2.B:List Nat:=[0,0,2,0,8,1,39,127]
theorem closP2.tab:rtab .any (opsOf Tryz.f81 2)=closP2.T:=by kernel_rfl
theorem closP2.bits:z3y closP2.T.2 closP2.B=true:=by kernel_rfl
def closS2.T:Bool × List (List Nat × List Nat):=(true,[([],[]),([],[]),([1],[1]),([],[]),([3],[3]),([0,0],[0]),([2,5,0,1,2,5],[2]),([4,6,0,1,2,3,4,5,6],[4])])
def closS2.B:List Nat:=[0,0,2,0,8,1,39,127]
set_option maxHeartbeats 1600000 in
set_option maxRecDepth 100000 in
theorem zkb (g7 g4 g5 g6:Nat) (x0 x1:Int) (older:List PanicEntry) (w:World) (y0 y1 y2:Value) (v5 v6:Int) (h7:w.heap[g7]?=some (.cells #[.slice none 0 0,.string ⟨#[]⟩,.slice none 0 0] 27 (0,0))) (h4:w.heap[g4]?=some (.cells #[y0,y1,y2] 27 (0,0))) (h5:w.heap[g5]?=some (.cells #[.int .i64 v5] 3 (0,0))) (h6:w.heap[g6]?=some (.cells #[.int .i64 v6] 40 (0,0))) (n74:g7≠g4) (n45:g4≠g5) (n46:g4≠g6) (n56:g5≠g6) (n75:g7≠g5) (n76:g7≠g6) :
 CallsD Tryz.prog 81 #[.pointer (some ⟨g7,0,none⟩),.pointer (some ⟨g4,0,none⟩),.pointer (some ⟨g5,0,none⟩),.pointer (some ⟨g6,0,none⟩)] (.panicking ({ v:=.iface 125 (.agg #[.int .i64 x0,.int .i64 x1]),recovered:=false }::older)) w fun e u' w' =>
  e=.returned (.tuple #[])∧u'=.panicking ({ v:=.iface 125 (.agg #[.int .i64 x0,.int .i64 x1]),recovered:=true }::older)∧w'.heap[g4]?=some (.cells #[.slice none 0 0,.string ⟨#[]⟩,.slice none 0 0] 27 (0,0))∧w'.heap[g5]?=some (.cells #[.int .i64 x0] 3 (0,0))∧w'.heap[g6]?=some (.cells #[.int .i64 x1] 40 (0,0))∧∀b (v:World),Below b v w→b≤g4→b≤g5→b≤g6→b≤w.heap.size→Below b v w':=by
 have hta:∀(w:World),(Instr.typeAssert (.iface 125 (.agg #[.int .i64 x0,.int .i64 x1])) 20 125 true).run Tryz.prog w=.ok (.tuple #[.agg #[.int .i64 x0,.int .i64 x1],.bool true]) w:=fun _=>by kernel_rfl
 refine callsD_of_wpS Tryz.func81 rfl fun c₀ cs hu=>?_
 apply wpS_seq;apply wpS_region
 simp[wpOpsS,go_sem,recoverD,hu,Tryz.ntmps81,Exit.thenS,hta,Array.replicate]
 apply wpS_seq;apply wpS_region
 simp[wpOpsS,go_sem,recoverD,hu,Tryz.ntmps81,Exit.thenS,Array.replicate]
 refine wpS_cond (t:=true) (by simp[Act.eval,Array.replicate]) ?_;simp only[if_true];refine wpS_of_wp ?_;obtain⟨n8,en8⟩:∃n,w.heap.size=n:=⟨_,rfl⟩
 have hb8:=z0q w (.cells #[.int .i64 x0,.int .i64 x1] 125);rw[en8]at hb8 ⊢;have B4:=z0h (z0c h4 (.cells #[.int .i64 x0,.int .i64 x1] 125));have B5:=z0h (z0c h5 (.cells #[.int .i64 x0,.int .i64 x1] 125));have B6:=z0h (z0c h6 (.cells #[.int .i64 x0,.int .i64 x1] 125));have B7:=z0h (z0c h7 (.cells #[.int .i64 x0,.int .i64 x1] 125));have B8:=z0h hb8;have l4:=z26 h4;have l5:=z26 h5;have l6:=z26 h6;have l7:=z26 h7;have HBL:∀b (v:World),Below b v w→b≤w.heap.size→Below b v (w.alloc (.cells #[.int .i64 x0,.int .i64 x1] 125)).drew:=fun b v h hb=>(h.alloc hb _).drew
 refine z68 (n:=8) (S:=fun w'=>w'.cell? ⟨n8,0,none⟩=some (.int .i64 x0)∧w'.cell? ⟨n8,1,none⟩=some (.int .i64 x1)∧w'.cell? ⟨g7,0,none⟩=some (.slice none 0 0)∧w'.cell? ⟨g7,1,none⟩=some (.string ⟨#[]⟩)∧w'.cell? ⟨g7,2,none⟩=some (.slice none 0 0)) (ds:=[7]) #[false,false,false,false,false,false,false,false] (by kernel_rfl) rfl rfl ⟨(z01 B8 0).trans rfl,(z01 B8 1).trans rfl,(z01 B7 0).trans rfl,(z01 B7 1).trans rfl,(z01 B7 2).trans rfl⟩ (fun hHeld=>?_);refine z39 closP2.tab closP2.bits (fun HT_ HW_=>?_)
 generalize (w.alloc (.cells #[.int .i64 x0,.int .i64 x1] 125)).drew=W at B4 B5 B6 B7 B8 HBL hHeld ⊢
 refine pure_ (i:=1) (N:=some 13) (v:=?_) (a':=?_) #[false,true,false,false,false,false,false,false] rfl rfl (z0r HT_.out (by kernel_rfl)) (fun _ _ _ h=>h) (Or.inl ⟨by rfl,?_⟩) ?_ ?_
 rotate_left
 · intro w'
   go_simp
   with_reducible rfl
 rotate_left
 · simp only[Act.put,List.setIfInBounds_toArray,List.set_cons_zero,List.set_cons_succ,i64_w,i32_w];rfl
 refine pure_ (i:=3) (N:=some 15) (v:=?_) (a':=?_) #[false,true,false,true,false,false,false,false] rfl rfl (z0r HT_.out (by kernel_rfl)) (fun _ _ _ h=>h) (Or.inl ⟨by rfl,?_⟩) ?_ ?_
 rotate_left
 · intro w'
   go_simp
   with_reducible rfl
 rotate_left
 · simp only[Act.put,List.setIfInBounds_toArray,List.set_cons_zero,List.set_cons_succ,i64_w,i32_w];rfl
 refine take_ (i:=0) (N:=some 12) (v:=?_) (a':=?_) #[true,true,false,true,false,false,false,false] rfl rfl (z1j HT_.out HW_.out (by kernel_rfl)) (fun _ _ _ h=>h) (Or.inl ⟨by rfl,?_⟩) hHeld ?_ ?_
 rotate_left
 · rintro w' ⟨s0,s1,z0,z1,z2⟩
   go_simp
   with_reducible rfl
 rotate_left
 · simp only[Act.put,List.setIfInBounds_toArray,List.set_cons_zero,List.set_cons_succ,i64_w,i32_w];rfl
 refine take_ (i:=2) (N:=some 14) (v:=?_) (a':=?_) #[true,true,true,true,false,false,false,false] rfl rfl (z1j HT_.out HW_.out (by kernel_rfl)) (fun _ _ _ h=>h) (Or.inl ⟨by rfl,?_⟩) hHeld ?_ ?_
 rotate_left
 · rintro w' ⟨s0,s1,z0,z1,z2⟩
   go_simp
   with_reducible rfl
 rotate_left
 · simp only[Act.put,List.setIfInBounds_toArray,List.set_cons_zero,List.set_cons_succ,i64_w,i32_w];rfl
 refine take_ (i:=4) (N:=some 16) (v:=?_) (a':=?_) #[true,true,true,true,true,false,false,false] rfl rfl (z1j HT_.out HW_.out (by kernel_rfl)) (fun _ _ _ h=>h) (Or.inl ⟨by rfl,?_⟩) hHeld ?_ ?_
 rotate_left
 · rintro w' ⟨s0,s1,z0,z1,z2⟩
   go_simp
   with_reducible rfl
 rotate_left
 · simp only[Act.put,List.setIfInBounds_toArray,List.set_cons_zero,List.set_cons_succ,i64_w,i32_w];rfl
 refine one_ (i:=5) (N:=none) #[true,true,true,true,true,true,false,false] rfl rfl (z2a HT_.out (by kernel_rfl)) (by decide) (fun K hK=>?_);have a0:W.cell? ⟨g4,0,none⟩=some (y0):=(z01 B4 0).trans rfl;have a1:W.cell? ⟨g4,1,none⟩=some (y1):=(z01 B4 1).trans rfl;have a2:W.cell? ⟨g4,2,none⟩=some (y2):=(z01 B4 2).trans rfl;have af0:=z02 B4 0;have af1:=z02 B4 1;have af2:=z02 B4 2;refine skip_ (w1:=?_) (by rfl) rfl ?_ ?_
 rotate_left
 · go_simp
   rfl
 have C4:(((W.setCell ⟨g4,0,none⟩ (.slice none 0 0)).setCell ⟨g4,1,none⟩ (.string ⟨#[]⟩)).setCell ⟨g4,2,none⟩ (.slice none 0 0)).heap[g4]?=some (.cells #[.slice none 0 0,.string ⟨#[]⟩,.slice none 0 0] 27 (0,0)):=z34 [.slice none 0 0,.string ⟨#[]⟩,.slice none 0 0] 0 W #[y0,y1,y2] B4;have C5:(((W.setCell ⟨g4,0,none⟩ (.slice none 0 0)).setCell ⟨g4,1,none⟩ (.string ⟨#[]⟩)).setCell ⟨g4,2,none⟩ (.slice none 0 0)).heap[g5]?=some (.cells #[.int .i64 v5] 3 (0,0)):=z2q (by omega) [.slice none 0 0,.string ⟨#[]⟩,.slice none 0 0] 0 W B5;have C6:(((W.setCell ⟨g4,0,none⟩ (.slice none 0 0)).setCell ⟨g4,1,none⟩ (.string ⟨#[]⟩)).setCell ⟨g4,2,none⟩ (.slice none 0 0)).heap[g6]?=some (.cells #[.int .i64 v6] 40 (0,0)):=z2q (by omega) [.slice none 0 0,.string ⟨#[]⟩,.slice none 0 0] 0 W B6;have C7:(((W.setCell ⟨g4,0,none⟩ (.slice none 0 0)).setCell ⟨g4,1,none⟩ (.string ⟨#[]⟩)).setCell ⟨g4,2,none⟩ (.slice none 0 0)).heap[g7]?=some (.cells #[.slice none 0 0,.string ⟨#[]⟩,.slice none 0 0] 27 (0,0)):=z2q (by omega) [.slice none 0 0,.string ⟨#[]⟩,.slice none 0 0] 0 W B7;have C8:(((W.setCell ⟨g4,0,none⟩ (.slice none 0 0)).setCell ⟨g4,1,none⟩ (.string ⟨#[]⟩)).setCell ⟨g4,2,none⟩ (.slice none 0 0)).heap[n8]?=some (.cells #[.int .i64 x0,.int .i64 x1] 125 (0,0)):=z2q (by omega) [.slice none 0 0,.string ⟨#[]⟩,.slice none 0 0] 0 W B8;refine hK.out _ _ ⟨(z01 C8 0).trans rfl,(z01 C8 1).trans rfl,(z01 C7 0).trans rfl,(z01 C7 1).trans rfl,(z01 C7 2).trans rfl⟩ (fun hHeld=>?_);clear hK K;refine one_ (i:=6) (N:=none) #[true,true,true,true,true,true,true,false] rfl rfl (z2a HT_.out (by kernel_rfl)) (by decide) (fun K hK=>?_);have b0:(((W.setCell ⟨g4,0,none⟩ (.slice none 0 0)).setCell ⟨g4,1,none⟩ (.string ⟨#[]⟩)).setCell ⟨g4,2,none⟩ (.slice none 0 0)).cell? ⟨g5,0,none⟩=some (.int .i64 v5):=(z01 C5 0).trans rfl;have bf0:=z02 C5 0;refine skip_ (w1:=?_) (by rfl) rfl ?_ ?_
 rotate_left
 · go_simp
   rfl
 refine hK.out _ _ ⟨(z01 (z11 C8 (by show n8≠g5;omega) _) 0).trans rfl,(z01 (z11 C8 (by show n8≠g5;omega) _) 1).trans rfl,(z01 (z11 C7 (by show g7≠g5;omega) _) 0).trans rfl,(z01 (z11 C7 (by show g7≠g5;omega) _) 1).trans rfl,(z01 (z11 C7 (by show g7≠g5;omega) _) 2).trans rfl⟩ (fun hHeld=>?_);clear hK K;have E6:((((W.setCell ⟨g4,0,none⟩ (.slice none 0 0)).setCell ⟨g4,1,none⟩ (.string ⟨#[]⟩)).setCell ⟨g4,2,none⟩ (.slice none 0 0)).setCell ⟨g5,0,none⟩ (.int .i64 x0)).heap[g6]?=some (.cells #[.int .i64 v6] 40 (0,0)):=z11 C6 (by show g6≠g5;omega) _;refine last_ (i:=7) (N:=none) #[true,true,true,true,true,true,true,true] rfl rfl (z2a HT_.out (by kernel_rfl)) (by decide) (fun K hK=>?_);have c0:((((W.setCell ⟨g4,0,none⟩ (.slice none 0 0)).setCell ⟨g4,1,none⟩ (.string ⟨#[]⟩)).setCell ⟨g4,2,none⟩ (.slice none 0 0)).setCell ⟨g5,0,none⟩ (.int .i64 x0)).cell? ⟨g6,0,none⟩=some (.int .i64 v6):=(z01 E6 0).trans rfl;have cf0:=z02 E6 0;refine skip_ (w1:=?_) (by rfl) rfl ?_ ?_
 rotate_left
 · go_simp
   rfl
 refine hK.out _ _ ?_;clear hK K;refine done_ (z4w HT_.out (by kernel_rfl)) ?_;have F4:(((((W.setCell ⟨g4,0,none⟩ (.slice none 0 0)).setCell ⟨g4,1,none⟩ (.string ⟨#[]⟩)).setCell ⟨g4,2,none⟩ (.slice none 0 0)).setCell ⟨g5,0,none⟩ (.int .i64 x0)).setCell ⟨g6,0,none⟩ (.int .i64 x1)).heap[g4]?=some (.cells #[.slice none 0 0,.string ⟨#[]⟩,.slice none 0 0] 27 (0,0)):=z11 (z11 C4 (by show g4≠g5;omega) _) (by show g4≠g6;omega) _;have F5:(((((W.setCell ⟨g4,0,none⟩ (.slice none 0 0)).setCell ⟨g4,1,none⟩ (.string ⟨#[]⟩)).setCell ⟨g4,2,none⟩ (.slice none 0 0)).setCell ⟨g5,0,none⟩ (.int .i64 x0)).setCell ⟨g6,0,none⟩ (.int .i64 x1)).heap[g5]?=some (.cells #[.int .i64 x0] 3 (0,0)):=z11 (z0x C5 0 (.int .i64 x0) rfl) (by show g5≠g6;omega) _;have F6:(((((W.setCell ⟨g4,0,none⟩ (.slice none 0 0)).setCell ⟨g4,1,none⟩ (.string ⟨#[]⟩)).setCell ⟨g4,2,none⟩ (.slice none 0 0)).setCell ⟨g5,0,none⟩ (.int .i64 x0)).setCell ⟨g6,0,none⟩ (.int .i64 x1)).heap[g6]?=some (.cells #[.int .i64 x1] 40 (0,0)):=z0x E6 0 (.int .i64 x1) rfl;have HBB:∀b (v:World),Below b v w→b≤g4→b≤g5→b≤g6→b≤w.heap.size→Below b v (((((W.setCell ⟨g4,0,none⟩ (.slice none 0 0)).setCell ⟨g4,1,none⟩ (.string ⟨#[]⟩)).setCell ⟨g4,2,none⟩ (.slice none 0 0)).setCell ⟨g5,0,none⟩ (.int .i64 x0)).setCell ⟨g6,0,none⟩ (.int .i64 x1)):=fun b v h b4 b5 b6 b8=>(((((HBL b v h b8).setCell b4 _).setCell b4 _).setCell b4 _).setCell b5 _).setCell b6 _
 rw[en8]at HBB;clear HBL HT_ HW_ hHeld
 generalize (((((W.setCell ⟨g4,0,none⟩ (.slice none 0 0)).setCell ⟨g4,1,none⟩ (.string ⟨#[]⟩)).setCell ⟨g4,2,none⟩ (.slice none 0 0)).setCell ⟨g5,0,none⟩ (.int .i64 x0)).setCell ⟨g6,0,none⟩ (.int .i64 x1))=W' at F4 F5 F6 HBB ⊢
 simp[bodyPostS,results,Tryz.results81,go_sem,F4,F5,F6]
 exact HBB
theorem idleP (p0 p1 p2 p3:Value) (w:World) :
 CallsD Tryz.prog 81 #[p0,p1,p2,p3] .returning w fun e u' w'=>e=.returned (.tuple #[])∧u'=.returning∧w'=w.alloc (.cells #[.int .i64 0,.int .i64 0] 125):=by
 have hta:∀(w:World),(Instr.typeAssert .nilIface 20 125 true).run Tryz.prog w=.ok (.tuple #[.agg #[.int .i64 0,.int .i64 0],.bool false]) w:=fun _=>by kernel_rfl
 refine callsD_of_wpS Tryz.func81 rfl fun c₀ cs hu=>?_
 apply wpS_seq;apply wpS_region
 simp[wpOpsS,go_sem,recoverD,hu,Tryz.ntmps81,Exit.thenS,hta,Array.replicate]
 apply wpS_seq;apply wpS_region
 simp[wpOpsS,go_sem,recoverD,hu,Tryz.ntmps81,Exit.thenS,Array.replicate]
 refine wpS_cond (t:=false) (by simp[Act.eval,Array.replicate]) ?_;simp only[Bool.false_eq_true,if_false];refine wpS_of_wp (wp_skip ?_)
 cases c₀
 simp_all [bodyPostS,results,Tryz.results81]

def nmL (l:List UInt8):Bool:=nameB ⟨l.toArray⟩
def vlL (l:List UInt8):Bool:=(readR ⟨l.toArray⟩).2.2.2==0
theorem vl_text {k n:Int} {s:ByteArray} (hr:z5f k n s=true) (hn:-9223372036854775808≤n∧n≤9223372036854775807):vlL (textL k n s)=true:=by
 have:=zb1 k n s hr hn;unfold txt at this;unfold vlL;rw[this];rfl
theorem zcg {k n:Int} {s:ByteArray} (hr:z5f k n s=true):textL k n s=if k=1 then Lib.itoa n else if k=2 then 35::hex16 (IntKind.u64.wrap n).toNat else s.data.toList:=by unfold textL;rw[if_pos hr]
theorem okB_low (c:UInt8):okB (c.toNat:Int)=lowB c:=by
 unfold okB lowB z1a z16;rw[Bool.eq_iff_iff];simp only[Bool.or_eq_true,decide_eq_true_eq,beq_iff_eq];have h95:c=95↔c.toNat=95:=⟨fun h=>by rw[h];rfl,fun h=>UInt8.toNat_inj.1 (by rw[h];rfl)⟩
 rw[h95];omega
theorem zfr {s:ByteArray} (h:nameB s=true):(∀c ∈ s.data.toList,lowB c=true)∧s.size≤40:=by
 unfold nameB at h;simp only[Bool.and_eq_true,decide_eq_true_eq]at h;refine⟨fun c hc=>?_,h.1.2⟩;obtain⟨j,hj,rfl⟩:=List.getElem_of_mem hc;have:=(z8e s s.size 0).1 h.2.2 j hj;rw[Int.zero_add,bt_nat s j hj,okB_low]at this;exact this
theorem zdp (d:Nat) (h:d<16):signB (hexc d)=true:=by
 have:∀d:Fin 16,signB (hexc d.val)=true:=by decide
 exact this ⟨d,h⟩
theorem zhl {b:Nat} {l:Nat→List UInt8} (hT:zdf b l) (u:Nat):∀c ∈ l u,signB c=true:=by
 have hb:=hT.two;have hb2:=hT.most
 induction u using Nat.strongRecOn with
 |_ u ih =>
  intro c hc
  by_cases h:u<b
  · rw[hT.one u h,List.mem_singleton]at hc;subst hc;exact zdp u (by omega)
  · rw[hT.more u (by omega)]at hc;have hm:u % b<b:=Nat.mod_lt _ (by omega);rcases List.mem_append.1 hc with hc|hc
    · exact ih (u / b) (Nat.div_lt_self (by omega) (by omega)) c hc
    · rw[List.mem_singleton]at hc;subst hc;exact zdp _ (by omega)
theorem zhz (u:Nat):∀c ∈ hex16 u,signB c=true:=by
 intro c hc;unfold hex16 at hc;rcases List.mem_append.1 hc with hc|hc
 · rw[(List.mem_replicate.1 hc).2];decide
 · exact zhl tells16 u c hc
theorem zg8 (u:Nat):∀c ∈ Lib.decDigits u,signB c=true:=fun c hc=>low_sign (zjg (decide_eq_true (z87 u c hc)))
theorem zhc (k n:Int) (s:ByteArray) (hr:z5f k n s=true) (hn:-9223372036854775808≤n∧n≤9223372036854775807) :
 nextN nmL vlL (textL k n s)=some (if k=3 then 1 else 3,(textL k n s).length):=by
 have hv:=vl_text hr hn;have ht:=zcg hr;rw[ht]at hv ⊢;rcases za1 hr with ⟨rfl,rfl⟩|⟨rfl,rfl,hf⟩|⟨rfl,rfl,hN⟩
 · rw[if_pos rfl]at hv ⊢;rw[if_neg (by omega)];obtain⟨c,l,he,hc⟩:=zdn n;rw[he]at hv ⊢;have h1:z1a c=false:=decide_eq_false (by omega);have h2:z1f c=false:=decide_eq_false (by omega);have hs:∀x ∈ l,signB x=true:=by
    rcases hc with ⟨_,_,h3⟩|⟨_,_,_,h4⟩
    · rw[h3];exact zg8 _
    · exact fun x hx=>zg8 n.toNat x (by rw[←h4];exact List.mem_cons_of_mem _ hx)
   have h3:valB c l=true:=by
    unfold valB;rcases hc with ⟨h5,_,h6⟩|⟨h5,h6,_⟩
    · have e1:c=45:=UInt8.toNat_inj.1 (by rw[h5];rfl);have e2:z8g l=true:=by
       cases l with
       |nil=>exact absurd h6.symm (zed _)
       |cons d l=>exact decide_eq_true (z87 n.natAbs d (by rw[←h6];exact List.mem_cons_self ..))
      rw[e1,e2];rfl
    · have e1:z16 c=true:=decide_eq_true ⟨h5,h6⟩;rw[e1];simp
   have h4:runN signB l=l.length:=z82 signB l hs;have h6:1+l.length=(c::l).length:=by rw[List.length_cons];omega
   simp only[nextN,h1,h2,h3,h4,h6,List.take_length,hv,Bool.false_eq_true,if_false,if_true]
 · rw[if_neg (by omega),if_pos rfl]at hv ⊢;rw[if_neg (by omega)]
   generalize hx:hex16 (IntKind.u64.wrap n).toNat=l at hv
   have hs:∀x ∈ l,signB x=true:=by rw[←hx];exact zhz _
   have h1:z1a 35=false:=by decide
   have h2:z1f 35=false:=by decide
   have h3:valB 35 l=true:=by unfold valB;simp
   have h4:runN signB l=l.length:=z82 signB l hs;have h6:1+l.length=((35:UInt8)::l).length:=by rw[List.length_cons];omega
   simp only[nextN,h1,h2,h3,h4,h6,List.take_length,hv,Bool.false_eq_true,if_false,if_true]
 · rw[if_neg (by omega),if_neg (by omega)];rw[if_pos rfl];obtain⟨c,l,he,h1,h2⟩:=z8q hN;have hl:=zfr hN;rw[he]at hl ⊢;have hs:s=⟨(c::l).toArray⟩:=by rw[←he,zgu]
   have h3:z1a c=true:=decide_eq_true ⟨h1,h2⟩;have h4:runN lowB (c::l)=(c::l).length:=z82 lowB _ hl.1;have h5:nmL (c::l)=true:=by unfold nmL;rw[←hs];exact hN
   simp only[nextN,h3,h4,List.take_length,h5,if_true]

theorem z0z (c:UInt8):z18.f (c.toNat:Int)=some (z1a c):=by
 unfold z18.f z1a
 by_cases h:(c.toNat:Int)≥97
 · rw[if_pos h];congr 1;rw[Bool.eq_iff_iff];simp only[decide_eq_true_eq];omega
 · rw[if_neg h];congr 1;symm;rw[decide_eq_false_iff_not];omega
theorem z13 (c:UInt8):z1b.f (c.toNat:Int)=some (z1f c):=by
 unfold z1b.f z1f
 by_cases h:(c.toNat:Int)≥65
 · rw[if_pos h];congr 1;rw[Bool.eq_iff_iff];simp only[decide_eq_true_eq];omega
 · rw[if_neg h];congr 1;symm;rw[decide_eq_false_iff_not];omega
theorem z0y (c:UInt8):z15.f (c.toNat:Int)=some (z16 c):=by
 unfold z15.f z16
 by_cases h:(c.toNat:Int)≥48
 · rw[if_pos h];congr 1;rw[Bool.eq_iff_iff];simp only[decide_eq_true_eq];omega
 · rw[if_neg h];congr 1;symm;rw[decide_eq_false_iff_not];omega
theorem z23 (c:UInt8) (n:Nat) (hn:n<256):((c.toNat:Int)==(n:Int))=(c==UInt8.ofNat n):=by
 rw[Bool.eq_iff_iff,beq_iff_eq,beq_iff_eq]
 constructor
 · intro h;apply UInt8.toNat_inj.1;rw[UInt8.toNat_ofNat'];omega
 · intro h;rw[h,UInt8.toNat_ofNat'];omega
theorem zb9 (c:UInt8):z6u.f (c.toNat:Int)=some (lowB c):=by
 unfold z6u.f lowB;rw[z0z,z0y];simp only[Option.bind_some];have h95:((c.toNat:Int)==95)=(c==95):=z23 c 95 (by omega);rw[h95]
 cases z1a c <;> cases z16 c <;> simp
theorem zev (c:UInt8):z8b.f (c.toNat:Int)=some (signB c):=by
 unfold z8b.f signB;rw[zb9,z13];simp only[Option.bind_some]
 cases lowB c <;> simp
theorem zc2 {a b:Nat} (h:a=b):Ending.returned (.int .i64 (a:Int))=.returned (.int .i64 (b:Int)):=by rw[h]
theorem zd9 (p:UInt8→Bool) (l:List UInt8) (j:Nat) (hj:j<l.length):runN p (l.drop j)=if p l[j]then runN p (l.drop (j+1))+1 else 0:=by
 rw[List.drop_eq_getElem_cons hj];rfl
theorem zgn (p:UInt8→Bool) (l:List UInt8) (j:Nat) (hj:l.length≤j):runN p (l.drop j)=0:=by
 rw[List.drop_eq_nil_of_le hj];rfl
theorem z5d (s:ByteArray) (j:Nat) (h:j<s.size) (h':j<s.data.toList.length):s.data.toList[j]=s[j]:=by
 rw[Array.getElem_toList];rfl
set_option maxHeartbeats 1600000 in
set_option maxRecDepth 100000 in
theorem zju (s:ByteArray) (hs:s.size≤140737488355328) (w:World) :
 Calls Tryz.prog 124 #[.string s,.func (.func 125) #[] #[]] w fun e w'=>e=.returned (.int .i64 (runN lowB s.data.toList:Nat))∧z0e w w':=by
 go_enter Tryz.func124,Tryz.ntmps124;go_wp2
 go_loopg [5] s.size (fun gg s5 wr=>∃j m:Nat,j≤s.size∧s.size - j≤gg∧s5=.int .i64 j∧wr=w.drewN m∧z00 (j+runN lowB (s.data.toList.drop j)=runN lowB s.data.toList))
 case atStart=>exact⟨0,0,Nat.zero_le _,by omega,rfl,(World.drewN_zero w).symm,⟨by simp⟩⟩
 case round =>
  obtain⟨j,m,hj,hg,rfl,rfl,HA⟩:=hrel
  by_cases hlt:j<s.size
  · have hltz:decide ((j:Int)<(s.size:Int))=true:=decide_eq_true (by omega);have hst:=zd9 lowB s.data.toList j (by rw[z0i];exact hlt);rw[z5d s j hlt]at hst;have HST:=z00.mk hst;have HC:=z00.mk (fun W=>z6u.calls (s[j].toNat:Int) (lowB s[j]) W (zb9 s[j]));clear hst
    cases hp:lowB s[j]with
    |true =>
     have HP:=z00.mk hp;rw[hp]at HC;clear hp
     go_wp2_with (go_at_call 125;refine(HC.out _).mono ?_;rintro e w' ⟨rfl,⟨nd,rfl⟩⟩)
     go_roundg (s.size - (j+1))
     case measure=>omega
     case rel=>exact⟨j+1,m+nd,by omega,by omega,by go_num,rfl,⟨by have:=HA.out;rw[HST.out,HP.out]at this;simp only[if_true]at this;omega⟩⟩
    |false =>
     have HP:=z00.mk hp;rw[hp]at HC;clear hp
     go_wp2_with (go_at_call 125;refine(HC.out _).mono ?_;rintro e w' ⟨rfl,⟨nd,rfl⟩⟩)
     go_ret
     exact⟨zc2 (by have:=HA.out;rw[HST.out,HP.out]at this;simp only[Bool.false_eq_true,if_false,Nat.add_zero]at this;exact this),⟨_,rfl⟩⟩
  · have hltz:decide ((j:Int)<(s.size:Int))=false:=decide_eq_false (by omega);have he:=zgn lowB s.data.toList j (by rw[z0i];omega);have HE:=z00.mk he;clear he;go_wp2
    go_ret
    exact⟨zc2 (by have:=HA.out;rw[HE.out,Nat.add_zero]at this;exact this),⟨_,rfl⟩⟩
set_option maxHeartbeats 1600000 in
set_option maxRecDepth 100000 in
theorem z5l (s:ByteArray) (hs:s.size≤140737488355328) (w:World) :
 Calls Tryz.prog 124 #[.string s,.func (.func 127) #[] #[]] w fun e w'=>e=.returned (.int .i64 (runN signB s.data.toList:Nat))∧z0e w w':=by
 go_enter Tryz.func124,Tryz.ntmps124;go_wp2
 go_loopg [5] s.size (fun gg s5 wr=>∃j m:Nat,j≤s.size∧s.size - j≤gg∧s5=.int .i64 j∧wr=w.drewN m∧z00 (j+runN signB (s.data.toList.drop j)=runN signB s.data.toList))
 case atStart=>exact⟨0,0,Nat.zero_le _,by omega,rfl,(World.drewN_zero w).symm,⟨by simp⟩⟩
 case round =>
  obtain⟨j,m,hj,hg,rfl,rfl,HA⟩:=hrel
  by_cases hlt:j<s.size
  · have hltz:decide ((j:Int)<(s.size:Int))=true:=decide_eq_true (by omega);have hst:=zd9 signB s.data.toList j (by rw[z0i];exact hlt);rw[z5d s j hlt]at hst;have HST:=z00.mk hst;have HC:=z00.mk (fun W=>z8b.calls (s[j].toNat:Int) (signB s[j]) W (zev s[j]));clear hst
    cases hp:signB s[j]with
    |true =>
     have HP:=z00.mk hp;rw[hp]at HC;clear hp
     go_wp2_with (go_at_call 127;refine(HC.out _).mono ?_;rintro e w' ⟨rfl,⟨nd,rfl⟩⟩)
     go_roundg (s.size - (j+1))
     case measure=>omega
     case rel=>exact⟨j+1,m+nd,by omega,by omega,by go_num,rfl,⟨by have:=HA.out;rw[HST.out,HP.out]at this;simp only[if_true]at this;omega⟩⟩
    |false =>
     have HP:=z00.mk hp;rw[hp]at HC;clear hp
     go_wp2_with (go_at_call 127;refine(HC.out _).mono ?_;rintro e w' ⟨rfl,⟨nd,rfl⟩⟩)
     go_ret
     exact⟨zc2 (by have:=HA.out;rw[HST.out,HP.out]at this;simp only[Bool.false_eq_true,if_false,Nat.add_zero]at this;exact this),⟨_,rfl⟩⟩
  · have hltz:decide ((j:Int)<(s.size:Int))=false:=decide_eq_false (by omega);have he:=zgn signB s.data.toList j (by rw[z0i];omega);have HE:=z00.mk he;clear he;go_wp2
    go_ret
    exact⟨zc2 (by have:=HA.out;rw[HE.out,Nat.add_zero]at this;exact this),⟨_,rfl⟩⟩
end Go.Proofs.YthebhbomlllpeaaGreatDoor.X
namespace Go.Proofs.YthebhbomlllpeaaGreatDoor.X
open Go.RowKit Go.Proofs.YthebhbomlllpeaaGreatDoorW.PrintWords Go.Proofs.YthebhbomlllpeaaGreatDoorW.PrintLast Go.Proofs.YthebhbomlllpeaaGreatDoorW.PrintMore
attribute [local go_sem] z4e z49 z54 z50 z3l z3j z4h z4g
def stringslite_HasPrefix.f (a0:ByteArray) (a1:ByteArray):Option (Bool):=if(a0.size:Int)≥(a1.size:Int)then(if 0≤(a1.size:Int)then(if(a1.size:Int)≤(a0.size:Int)then(some ((a0.extract 0 ((a1.size:Int):Int).toNat).toList==a1.toList))else(none))else(none))else(some false)
set_option maxHeartbeats 8000000 in
set_option maxRecDepth 100000 in
theorem stringslite_HasPrefix.calls (a0:ByteArray) (a1:ByteArray) (r:Bool) (w:World) (h:stringslite_HasPrefix.f a0 a1=some r) :
 Calls Tryz.prog 155 #[.string a0,.string a1] w fun e w'=>e=.returned (.bool r)∧z0e w w':=by
 have H:(if(a0.size:Int)≥(a1.size:Int)then(if 0≤(a1.size:Int)then(if(a1.size:Int)≤(a0.size:Int)then(some ((a0.extract 0 ((a1.size:Int):Int).toNat).toList==a1.toList))else(none))else(none))else(some false))=some r:=h;clear h
 by_cases c3:(a0.size:Int)≥(a1.size:Int)
 · rw[if_pos c3]at H;have c3b0:decide ((a1.size:Int)≤(a0.size:Int))=true:=decide_eq_true c3;have c3b1:decide (a1.size≤a0.size)=true:=decide_eq_true (Int.ofNat_le.mp c3);clear c3
   by_cases c4:0≤(a1.size:Int)
   · rw[if_pos c4]at H;have c4b0:=eq_true c4;have c4b1:decide (0≤(a1.size:Int))=true:=decide_eq_true c4;clear c4
     by_cases c5:(a1.size:Int)≤(a0.size:Int)
     · rw[if_pos c5]at H;have c5b0:=eq_true c5;have c5b1:decide ((a1.size:Int)≤(a0.size:Int))=true:=decide_eq_true c5;clear c5;obtain rfl:=Option.some.inj H;go_enter Tryz.func155,Tryz.ntmps155;go_wp2
       go_ret
       exact⟨by first|rfl|(simp;done)|(simp[*];done),by repeat(first|exact z0e.refl _|apply z0e.step)⟩
     · rw[if_neg c5]at H;exact absurd H (by simp)
   · rw[if_neg c4]at H;exact absurd H (by simp)
 · rw[if_neg c3]at H;have c3b0:decide ((a1.size:Int)≤(a0.size:Int))=false:=decide_eq_false c3;have c3b1:decide (a1.size≤a0.size)=false:=decide_eq_false (fun h=>c3 (Int.ofNat_le.mpr h));clear c3;obtain rfl:=Option.some.inj H;go_enter Tryz.func155,Tryz.ntmps155;go_wp2
   go_ret
   exact⟨by first|rfl|(simp;done)|(simp[*];done),by repeat(first|exact z0e.refl _|apply z0e.step)⟩
def z0a.f (a0:ByteArray) (a1:ByteArray):Option (Bool):=(stringslite_HasPrefix.f a0 a1).bind fun t121=>(some t121)
set_option maxHeartbeats 8000000 in
set_option maxRecDepth 100000 in
theorem z0a.calls (a0:ByteArray) (a1:ByteArray) (r:Bool) (w:World) (h:z0a.f a0 a1=some r) :
 Calls Tryz.prog 130 #[.string a0,.string a1] w fun e w'=>e=.returned (.bool r)∧z0e w w':=by
 have H:((stringslite_HasPrefix.f a0 a1).bind fun t121=>(some t121))=some r:=h;clear h;replace H:=Option.bind_eq_some_iff.mp H;obtain⟨t121,A30,H⟩:=H;replace H:(some t121)=some r:=H;have A3:=z00.mk A30;clear A30;obtain rfl:=Option.some.inj H;go_enter Tryz.func130,Tryz.ntmps130
 go_wp2_with (first|((with_reducible refine z1t (f:=155) rfl ?_);refine z4p (some 7) rfl rfl Tryz.func155 (by kernel_rfl) rfl #[.string a0,.string a1] rfl zA01 ?_;(with_reducible refine(stringslite_HasPrefix.calls a0 a1 t121 _ A3.out).mono ?_);rintro e w' ⟨rfl,⟨nd,rfl⟩⟩;refine⟨_,rfl,?_⟩))
 go_ret
 exact⟨by first|rfl|(simp;done)|(simp[*];done),by repeat(first|exact z0e.refl _|apply z0e.step)⟩
def z6n.f (k:Nat) (a0_0:Int) (a0_1:ByteArray):Option (ByteArray):=(z2f.f k a0_1).bind fun t130=>(if t130=true then(if a0_0=2 then(if 1+a0_1.size≤9223372036854775807 then(some ((⟨#[94]⟩:ByteArray)++a0_1))else(none))else(if a0_0=1 then(some a0_1)else(some (⟨#[]⟩:ByteArray))))else(some (⟨#[]⟩:ByteArray)))
set_option maxHeartbeats 8000000 in
set_option maxRecDepth 100000 in
theorem z6n.calls (k:Nat) (a0_0:Int) (a0_1:ByteArray) (r:ByteArray) (w:World) (h:z6n.f k a0_0 a0_1=some r) :
 Calls Tryz.prog 50 #[.agg #[.int .i64 a0_0,.string a0_1]] w fun e w'=>e=.returned (.string r)∧Below w.heap.size w w':=by
 have hu69:=Tryz.underlying69;have HB:=z00.mk (Below.refl w.heap.size w);have H:((z2f.f k a0_1).bind fun t130=>(if t130=true then(if a0_0=2 then(if 1+a0_1.size≤9223372036854775807 then(some ((⟨#[94]⟩:ByteArray)++a0_1))else(none))else(if a0_0=1 then(some a0_1)else(some (⟨#[]⟩:ByteArray))))else(some (⟨#[]⟩:ByteArray))))=some r:=h;clear h;replace H:=Option.bind_eq_some_iff.mp H;obtain⟨t130,A20,H⟩:=H;replace H:(if t130=true then(if a0_0=2 then(if 1+a0_1.size≤9223372036854775807 then(some ((⟨#[94]⟩:ByteArray)++a0_1))else(none))else(if a0_0=1 then(some a0_1)else(some (⟨#[]⟩:ByteArray))))else(some (⟨#[]⟩:ByteArray)))=some r:=H;have A2:=z00.mk A20;clear A20
 by_cases c3:t130=true
 · subst c3;have H1:(if a0_0=2 then(if 1+a0_1.size≤9223372036854775807 then(some ((⟨#[94]⟩:ByteArray)++a0_1))else(none))else(if a0_0=1 then(some a0_1)else(some (⟨#[]⟩:ByteArray))))=some r:=by rw[if_pos rfl]at H;exact H
   clear H;have H:=H1;clear H1
   by_cases c4:a0_0=2
   · rw[if_pos c4]at H;have c4b0:(a0_0==2)=true:=beq_iff_eq.mpr c4;have c4b1:(a0_0 !=2)=false:=bne_eq_false_iff_eq.mpr c4;clear c4
     by_cases c5:1+a0_1.size≤9223372036854775807
     · rw[if_pos c5]at H;have c5b0:=eq_true c5;have c5b1:decide (1+a0_1.size≤9223372036854775807)=true:=decide_eq_true c5
       try have c5b2:(9223372036854775807<1+a0_1.size)=False:=eq_false (Nat.not_lt.2 c5)
       obtain rfl:=Option.some.inj H;go_enter Tryz.func50,Tryz.ntmps50
       go_wp2_with (first|((with_reducible refine z1r (N:=1) rfl ?_);refine z1z ?hg (N:=1) ?hd (cs:=#[.int .i64 a0_0,.string a0_1]) (t:=69) ?hr ?_;(case hd=>rfl);(case hg=>rfl);(case hr=>first|(go_simp;done)|(go_simp;rfl));intro gb129 hg w6 hbox hb;have n0_:=z00.mk (z0g zA00 hb);have n1_:=z00.mk (hbox);have n2_:=z00.mk ((by rw[hg];exact(z0j zA00):w.heap.size≤gb129));have n3_:=z00.mk ((by rw[hg];exact(z0j zA00):w.heap.size≤gb129));clear HB;have HB:=n0_;have BK129:=n1_;have GW129:=n2_;have GE129:=n3_;clear n0_ n1_ n2_ n3_;clear hb hbox hg;have hcz7_0:w6.cell? ⟨gb129,0,none⟩=some (.int .i64 a0_0):=(z01 BK129.out 0).trans rfl;have hcz7_1:w6.cell? ⟨gb129,1,none⟩=some (.string a0_1):=(z01 BK129.out 1).trans rfl;have hfz7_0:=z02 BK129.out 0;have hfz7_1:=z02 BK129.out 1)|((with_reducible refine z1t (f:=72) rfl ?_);refine z4p (some 6) rfl rfl Tryz.func72 (by kernel_rfl) rfl #[.string a0_1] rfl zA01 ?_;(with_reducible refine(z2f.calls k a0_1 true _ A2.out).mono ?_);rintro e w' ⟨rfl,⟨nd,rfl⟩⟩;refine⟨_,rfl,?_⟩))
       go_ret
       exact⟨by first|rfl|(simp[z0v,z0w] <;> rfl)|(simp[*,z0v,z0w] <;> rfl),by repeat(first|(with_reducible first|exact HB.out|apply z03|apply z04|apply z05|refine z06 ?_ GE129.out)|exact HB.out)⟩
     · rw[if_neg c5]at H;exact absurd H (by simp)
   · rw[if_neg c4]at H;have c4b0:(a0_0==2)=false:=beq_eq_false_iff_ne.mpr c4;have c4b1:(a0_0 !=2)=true:=bne_iff_ne.mpr c4
     by_cases c8:a0_0=1
     · rw[if_pos c8]at H;have c8b0:(a0_0==1)=true:=beq_iff_eq.mpr c8;have c8b1:(a0_0 !=1)=false:=bne_eq_false_iff_eq.mpr c8;clear c8;obtain rfl:=Option.some.inj H;go_enter Tryz.func50,Tryz.ntmps50
       go_wp2_with (first|((with_reducible refine z1r (N:=1) rfl ?_);refine z1z ?hg (N:=1) ?hd (cs:=#[.int .i64 a0_0,.string a0_1]) (t:=69) ?hr ?_;(case hd=>rfl);(case hg=>rfl);(case hr=>first|(go_simp;done)|(go_simp;rfl));intro gb129 hg w9 hbox hb;have n0_:=z00.mk (z0g zA00 hb);have n1_:=z00.mk (hbox);have n2_:=z00.mk ((by rw[hg];exact(z0j zA00):w.heap.size≤gb129));have n3_:=z00.mk ((by rw[hg];exact(z0j zA00):w.heap.size≤gb129));clear HB;have HB:=n0_;have BK129:=n1_;have GW129:=n2_;have GE129:=n3_;clear n0_ n1_ n2_ n3_;clear hb hbox hg;have hcz10_0:w9.cell? ⟨gb129,0,none⟩=some (.int .i64 a0_0):=(z01 BK129.out 0).trans rfl;have hcz10_1:w9.cell? ⟨gb129,1,none⟩=some (.string a0_1):=(z01 BK129.out 1).trans rfl;have hfz10_0:=z02 BK129.out 0;have hfz10_1:=z02 BK129.out 1)|((with_reducible refine z1t (f:=72) rfl ?_);refine z4p (some 6) rfl rfl Tryz.func72 (by kernel_rfl) rfl #[.string a0_1] rfl zA01 ?_;(with_reducible refine(z2f.calls k a0_1 true _ A2.out).mono ?_);rintro e w' ⟨rfl,⟨nd,rfl⟩⟩;refine⟨_,rfl,?_⟩))
       go_ret
       exact⟨by first|rfl|(simp[z0v,z0w] <;> rfl)|(simp[*,z0v,z0w] <;> rfl),by repeat(first|(with_reducible first|exact HB.out|apply z03|apply z04|apply z05|refine z06 ?_ GE129.out)|exact HB.out)⟩
     · rw[if_neg c8]at H;have c8b0:(a0_0==1)=false:=beq_eq_false_iff_ne.mpr c8;have c8b1:(a0_0 !=1)=true:=bne_iff_ne.mpr c8;obtain rfl:=Option.some.inj H;go_enter Tryz.func50,Tryz.ntmps50
       go_wp2_with (first|((with_reducible refine z1r (N:=1) rfl ?_);refine z1z ?hg (N:=1) ?hd (cs:=#[.int .i64 a0_0,.string a0_1]) (t:=69) ?hr ?_;(case hd=>rfl);(case hg=>rfl);(case hr=>first|(go_simp;done)|(go_simp;rfl));intro gb129 hg w11 hbox hb;have n0_:=z00.mk (z0g zA00 hb);have n1_:=z00.mk (hbox);have n2_:=z00.mk ((by rw[hg];exact(z0j zA00):w.heap.size≤gb129));have n3_:=z00.mk ((by rw[hg];exact(z0j zA00):w.heap.size≤gb129));clear HB;have HB:=n0_;have BK129:=n1_;have GW129:=n2_;have GE129:=n3_;clear n0_ n1_ n2_ n3_;clear hb hbox hg;have hcz12_0:w11.cell? ⟨gb129,0,none⟩=some (.int .i64 a0_0):=(z01 BK129.out 0).trans rfl;have hcz12_1:w11.cell? ⟨gb129,1,none⟩=some (.string a0_1):=(z01 BK129.out 1).trans rfl;have hfz12_0:=z02 BK129.out 0;have hfz12_1:=z02 BK129.out 1)|((with_reducible refine z1t (f:=72) rfl ?_);refine z4p (some 6) rfl rfl Tryz.func72 (by kernel_rfl) rfl #[.string a0_1] rfl zA01 ?_;(with_reducible refine(z2f.calls k a0_1 true _ A2.out).mono ?_);rintro e w' ⟨rfl,⟨nd,rfl⟩⟩;refine⟨_,rfl,?_⟩))
       go_ret
       exact⟨by first|rfl|(simp[z0v,z0w] <;> rfl)|(simp[*,z0v,z0w] <;> rfl),by repeat(first|(with_reducible first|exact HB.out|apply z03|apply z04|apply z05|refine z06 ?_ GE129.out)|exact HB.out)⟩
 · replace c3:=Bool.eq_false_iff.mpr c3;subst c3;have H1:(some (⟨#[]⟩:ByteArray))=some r:=by rw[if_neg (show ¬(false=true) by decide)]at H;exact H
   clear H;have H:=H1;clear H1;obtain rfl:=Option.some.inj H;go_enter Tryz.func50,Tryz.ntmps50
   go_wp2_with (first|((with_reducible refine z1r (N:=1) rfl ?_);refine z1z ?hg (N:=1) ?hd (cs:=#[.int .i64 a0_0,.string a0_1]) (t:=69) ?hr ?_;(case hd=>rfl);(case hg=>rfl);(case hr=>first|(go_simp;done)|(go_simp;rfl));intro gb129 hg w13 hbox hb;have n0_:=z00.mk (z0g zA00 hb);have n1_:=z00.mk (hbox);have n2_:=z00.mk ((by rw[hg];exact(z0j zA00):w.heap.size≤gb129));have n3_:=z00.mk ((by rw[hg];exact(z0j zA00):w.heap.size≤gb129));clear HB;have HB:=n0_;have BK129:=n1_;have GW129:=n2_;have GE129:=n3_;clear n0_ n1_ n2_ n3_;clear hb hbox hg;have hcz14_0:w13.cell? ⟨gb129,0,none⟩=some (.int .i64 a0_0):=(z01 BK129.out 0).trans rfl;have hcz14_1:w13.cell? ⟨gb129,1,none⟩=some (.string a0_1):=(z01 BK129.out 1).trans rfl;have hfz14_0:=z02 BK129.out 0;have hfz14_1:=z02 BK129.out 1)|((with_reducible refine z1t (f:=72) rfl ?_);refine z4p (some 6) rfl rfl Tryz.func72 (by kernel_rfl) rfl #[.string a0_1] rfl zA01 ?_;(with_reducible refine(z2f.calls k a0_1 false _ A2.out).mono ?_);rintro e w' ⟨rfl,⟨nd,rfl⟩⟩;refine⟨_,rfl,?_⟩))
   go_ret
   exact⟨by first|rfl|(simp[z0v,z0w] <;> rfl)|(simp[*,z0v,z0w] <;> rfl),by repeat(first|(with_reducible first|exact HB.out|apply z03|apply z04|apply z05|refine z06 ?_ GE129.out)|exact HB.out)⟩
def z1u.f (a0_0:ByteArray) (a0_1:Int) (a1:Int):Option (ByteArray):=if a0_1<a1 then(if 1+a0_0.size≤9223372036854775807 then(if 1+a0_0.size+1≤9223372036854775807 then(some (((⟨#[40]⟩:ByteArray)++a0_0)++(⟨#[41]⟩:ByteArray)))else(none))else(none))else(some a0_0)
set_option maxHeartbeats 8000000 in
set_option maxRecDepth 100000 in
theorem z1u.calls (a0_0:ByteArray) (a0_1:Int) (a1:Int) (r:ByteArray) (w:World) (h:z1u.f a0_0 a0_1 a1=some r) :
 Calls Tryz.prog 51 #[.agg #[.string a0_0,.int .i64 a0_1],.int .i64 a1] w fun e w'=>e=.returned (.string r)∧Below w.heap.size w w':=by
 have hu85:=Tryz.underlying85;have HB:=z00.mk (Below.refl w.heap.size w);have H:(if a0_1<a1 then(if 1+a0_0.size≤9223372036854775807 then(if 1+a0_0.size+1≤9223372036854775807 then(some (((⟨#[40]⟩:ByteArray)++a0_0)++(⟨#[41]⟩:ByteArray)))else(none))else(none))else(some a0_0))=some r:=h;clear h
 by_cases c3:a0_1<a1
 · rw[if_pos c3]at H;have c3b0:decide (a0_1<a1)=true:=decide_eq_true c3;clear c3
   by_cases c4:1+a0_0.size≤9223372036854775807
   · rw[if_pos c4]at H;have c4b0:=eq_true c4;have c4b1:decide (1+a0_0.size≤9223372036854775807)=true:=decide_eq_true c4
     try have c4b2:(9223372036854775807<1+a0_0.size)=False:=eq_false (Nat.not_lt.2 c4)
     by_cases c5:1+a0_0.size+1≤9223372036854775807
     · rw[if_pos c5]at H;have c5b0:=eq_true c5;have c5b1:decide (1+a0_0.size+1≤9223372036854775807)=true:=decide_eq_true c5
       try have c5b2:(9223372036854775807<1+a0_0.size+1)=False:=eq_false (Nat.not_lt.2 c5)
       obtain rfl:=Option.some.inj H;go_enter Tryz.func51,Tryz.ntmps51
       go_wp2_with (first|((with_reducible refine z1r (N:=2) rfl ?_);refine z1z ?hg (N:=2) ?hd (cs:=#[.string a0_0,.int .i64 a0_1]) (t:=85) ?hr ?_;(case hd=>rfl);(case hg=>rfl);(case hr=>first|(go_simp;done)|(go_simp;rfl));intro gb131 hg w6 hbox hb;have n0_:=z00.mk (z0g zA00 hb);have n1_:=z00.mk (hbox);have n2_:=z00.mk ((by rw[hg];exact(z0j zA00):w.heap.size≤gb131));have n3_:=z00.mk ((by rw[hg];exact(z0j zA00):w.heap.size≤gb131));clear HB;have HB:=n0_;have BK131:=n1_;have GW131:=n2_;have GE131:=n3_;clear n0_ n1_ n2_ n3_;clear hb hbox hg;have hcz7_0:w6.cell? ⟨gb131,0,none⟩=some (.string a0_0):=(z01 BK131.out 0).trans rfl;have hcz7_1:w6.cell? ⟨gb131,1,none⟩=some (.int .i64 a0_1):=(z01 BK131.out 1).trans rfl;have hfz7_0:=z02 BK131.out 0;have hfz7_1:=z02 BK131.out 1))
       go_ret
       exact⟨by first|rfl|(simp[z0v,z0w] <;> rfl)|(simp[*,z0v,z0w] <;> rfl),by repeat(first|(with_reducible first|exact HB.out|apply z03|apply z04|apply z05|refine z06 ?_ GE131.out)|exact HB.out)⟩
     · rw[if_neg c5]at H;exact absurd H (by simp)
   · rw[if_neg c4]at H;exact absurd H (by simp)
 · rw[if_neg c3]at H;have c3b0:decide (a0_1<a1)=false:=decide_eq_false c3;clear c3;obtain rfl:=Option.some.inj H;go_enter Tryz.func51,Tryz.ntmps51
   go_wp2_with (first|((with_reducible refine z1r (N:=2) rfl ?_);refine z1z ?hg (N:=2) ?hd (cs:=#[.string a0_0,.int .i64 a0_1]) (t:=85) ?hr ?_;(case hd=>rfl);(case hg=>rfl);(case hr=>first|(go_simp;done)|(go_simp;rfl));intro gb131 hg w8 hbox hb;have n0_:=z00.mk (z0g zA00 hb);have n1_:=z00.mk (hbox);have n2_:=z00.mk ((by rw[hg];exact(z0j zA00):w.heap.size≤gb131));have n3_:=z00.mk ((by rw[hg];exact(z0j zA00):w.heap.size≤gb131));clear HB;have HB:=n0_;have BK131:=n1_;have GW131:=n2_;have GE131:=n3_;clear n0_ n1_ n2_ n3_;clear hb hbox hg;have hcz9_0:w8.cell? ⟨gb131,0,none⟩=some (.string a0_0):=(z01 BK131.out 0).trans rfl;have hcz9_1:w8.cell? ⟨gb131,1,none⟩=some (.int .i64 a0_1):=(z01 BK131.out 1).trans rfl;have hfz9_0:=z02 BK131.out 0;have hfz9_1:=z02 BK131.out 1))
   go_ret
   exact⟨by first|rfl|(simp[z0v,z0w] <;> rfl)|(simp[*,z0v,z0w] <;> rfl),by repeat(first|(with_reducible first|exact HB.out|apply z03|apply z04|apply z05|refine z06 ?_ GE131.out)|exact HB.out)⟩
def z4l.f (a0:ByteArray):Option (ByteArray):=if a0.toList=([43]:List UInt8)then(some (⟨#[32,112,108,117,115,32]⟩:ByteArray))else(if a0.toList=([45]:List UInt8)then(some (⟨#[32,109,105,110,117,115,32]⟩:ByteArray))else(if a0.toList=([42]:List UInt8)then(some (⟨#[32,116,105,109,101,115,32]⟩:ByteArray))else(some (⟨#[]⟩:ByteArray))))
set_option maxHeartbeats 8000000 in
set_option maxRecDepth 100000 in
theorem z4l.calls (a0:ByteArray) (r:ByteArray) (w:World) (h:z4l.f a0=some r) :
 Calls Tryz.prog 75 #[.string a0] w fun e w'=>e=.returned (.string r)∧z0e w w':=by
 have H:(if a0.toList=([43]:List UInt8)then(some (⟨#[32,112,108,117,115,32]⟩:ByteArray))else(if a0.toList=([45]:List UInt8)then(some (⟨#[32,109,105,110,117,115,32]⟩:ByteArray))else(if a0.toList=([42]:List UInt8)then(some (⟨#[32,116,105,109,101,115,32]⟩:ByteArray))else(some (⟨#[]⟩:ByteArray)))))=some r:=h;clear h
 by_cases c2:a0.toList=([43]:List UInt8)
 · rw[if_pos c2]at H;have c2b0:(a0.toList==([43]:List UInt8))=true:=beq_iff_eq.mpr c2;have c2b1:(a0.toList !=([43]:List UInt8))=false:=bne_eq_false_iff_eq.mpr c2;clear c2;obtain rfl:=Option.some.inj H;go_enter Tryz.func75,Tryz.ntmps75;go_wp2
   go_ret
   exact⟨by first|rfl|(simp;done)|(simp[*];done),by repeat(first|exact z0e.refl _|apply z0e.step)⟩
 · rw[if_neg c2]at H;have c2b0:(a0.toList==([43]:List UInt8))=false:=beq_eq_false_iff_ne.mpr c2;have c2b1:(a0.toList !=([43]:List UInt8))=true:=bne_iff_ne.mpr c2
   by_cases c3:a0.toList=([45]:List UInt8)
   · rw[if_pos c3]at H;have c3b0:(a0.toList==([45]:List UInt8))=true:=beq_iff_eq.mpr c3;have c3b1:(a0.toList !=([45]:List UInt8))=false:=bne_eq_false_iff_eq.mpr c3;clear c3;obtain rfl:=Option.some.inj H;go_enter Tryz.func75,Tryz.ntmps75;go_wp2
     go_ret
     exact⟨by first|rfl|(simp;done)|(simp[*];done),by repeat(first|exact z0e.refl _|apply z0e.step)⟩
   · rw[if_neg c3]at H;have c3b0:(a0.toList==([45]:List UInt8))=false:=beq_eq_false_iff_ne.mpr c3;have c3b1:(a0.toList !=([45]:List UInt8))=true:=bne_iff_ne.mpr c3
     by_cases c4:a0.toList=([42]:List UInt8)
     · rw[if_pos c4]at H;have c4b0:(a0.toList==([42]:List UInt8))=true:=beq_iff_eq.mpr c4;have c4b1:(a0.toList !=([42]:List UInt8))=false:=bne_eq_false_iff_eq.mpr c4;clear c4;obtain rfl:=Option.some.inj H;go_enter Tryz.func75,Tryz.ntmps75;go_wp2
       go_ret
       exact⟨by first|rfl|(simp;done)|(simp[*];done),by repeat(first|exact z0e.refl _|apply z0e.step)⟩
     · rw[if_neg c4]at H;have c4b0:(a0.toList==([42]:List UInt8))=false:=beq_eq_false_iff_ne.mpr c4;have c4b1:(a0.toList !=([42]:List UInt8))=true:=bne_iff_ne.mpr c4;obtain rfl:=Option.some.inj H;go_enter Tryz.func75,Tryz.ntmps75;go_wp2
       go_ret
       exact⟨by first|rfl|(simp;done)|(simp[*];done),by repeat(first|exact z0e.refl _|apply z0e.step)⟩
end Go.Proofs.YthebhbomlllpeaaGreatDoor.X
namespace Go.Proofs.YthebhbomlllpeaaGreatDoor.X
open Go.RowKit Go.Proofs.YthebhbomlllpeaaGreatDoorW.PrintWords Go.Proofs.YthebhbomlllpeaaGreatDoorW.PrintLast Go.Proofs.YthebhbomlllpeaaGreatDoorW.PrintMore
theorem z4s (s:ByteArray) (a b:Nat):(s.extract a b).data.toList=(s.data.toList.take b).drop a:=by
 rw[ByteArray.data_extract,Array.toList_extract,List.extract_eq_take_drop,List.drop_take]
theorem z98 (s:ByteArray) (n:Nat):s.extract 0 n=⟨(s.data.toList.take n).toArray⟩:=by
 apply ByteArray.ext;apply Array.toList_inj.1;rw[z4s];simp
theorem z3p (s:ByteArray) (n:Nat):(s.extract n s.size).data.toList=s.data.toList.drop n:=by
 rw[z4s,List.take_of_length_le (by rw[z0i];exact Nat.le_refl _)]
def varL (l:List UInt8):Bool:=match l with
 |[]=>false
 |c::r=>decide ((c::r).length≤40)&&(z1f c&&decide (runN signB (c::r)=(c::r).length))
def z38.f (a0:ByteArray):Option Bool:=if a0.size≤140737488355328 then some (varL a0.data.toList)else none
theorem z7y {s:ByteArray} (h:0<s.size):∃r,s.data.toList=s[0]::r:=by
 cases hl:s.data.toList with
 |nil=>have:=z0i s;rw[hl]at this;simp at this;omega
 |cons c r =>
  refine⟨r,?_⟩;have h2:=z5d s 0 h (by rw[z0i];exact h);have h3:s.data.toList[0]'(by rw[z0i];exact h)=c:=by simp[hl]
  rw[←h2,h3]
set_option maxHeartbeats 1600000 in
set_option maxRecDepth 100000 in
theorem z38.calls (a0:ByteArray) (r:Bool) (w:World) (h:z38.f a0=some r) :
 Calls Tryz.prog 107 #[.string a0] w fun e w'=>e=.returned (.bool r)∧z0e w w':=by
 unfold z38.f at h
 split at h
 · rename_i hs;obtain rfl:=Option.some.inj h;clear h;have HR:=z00.mk (fun W=>z5l a0 hs W)
   by_cases hz:a0.size=0
   · have hl:varL a0.data.toList=false:=by
      have:a0.data.toList=[]:=List.eq_nil_of_length_eq_zero (by rw[z0i];exact hz);rw[this];rfl
     have hemp:a0.toList.isEmpty=true:=by rw[z2l,List.isEmpty_iff];exact List.eq_nil_of_length_eq_zero (by rw[z0i];exact hz)
     rw[hl];clear hz hl hs;go_enter Tryz.func107,Tryz.ntmps107;go_wp2
     go_ret
     exact⟨rfl,z0e.refl _⟩
   · have hp:0<a0.size:=by omega
     obtain⟨r,hr⟩:=z7y hp;have hemp:a0.toList.isEmpty=false:=by rw[z2l,hr];rfl
     have hlen:a0.data.toList.length=a0.size:=z0i a0;have hv:varL a0.data.toList=(decide (a0.size≤40)&&(z1f a0[0]&&decide (runN signB a0.data.toList=a0.size))):=by
      rw[←hlen,hr];rfl
     have HG:=z00.mk (fun W=>z1b.calls (a0[0].toNat:Int) (z1f a0[0]) W (z13 a0[0]));rw[hv];clear hr hlen hv
     by_cases h40:a0.size≤40
     · have e1:decide ((a0.size:Int)≤40)=true:=decide_eq_true (by omega);rw[decide_eq_true h40,Bool.true_and]
       cases hg:z1f a0[0]with
       |false =>
        rw[hg]at HG;rw[Bool.false_and];clear hg hz h40 hs;go_enter Tryz.func107,Tryz.ntmps107
        go_wp2_with (go_at_call 126;refine(HG.out _).mono ?_;rintro e w' ⟨rfl,⟨nd,rfl⟩⟩)
        go_ret
        exact⟨rfl,⟨_,rfl⟩⟩
       |true =>
        rw[hg]at HG;rw[Bool.true_and];clear hg hz hs
        by_cases hrun:runN signB a0.data.toList=a0.size
        · have e2:((runN signB a0.data.toList:Int)==(a0.size:Int))=true:=by rw[hrun];simp
          rw[decide_eq_true hrun];clear hrun h40;go_enter Tryz.func107,Tryz.ntmps107
          go_wp2_with (first|(go_at_call 126;refine(HG.out _).mono ?_;rintro e w' ⟨rfl,⟨nd,rfl⟩⟩)|(go_at_call 124;refine(HR.out _).mono ?_;rintro e w' ⟨rfl,⟨nd2,rfl⟩⟩))
          go_ret
          exact⟨rfl,⟨_,rfl⟩⟩
        · have e2:((runN signB a0.data.toList:Int)==(a0.size:Int))=false:=by rw[beq_eq_false_iff_ne];omega
          rw[decide_eq_false hrun];clear hrun h40;go_enter Tryz.func107,Tryz.ntmps107
          go_wp2_with (first|(go_at_call 126;refine(HG.out _).mono ?_;rintro e w' ⟨rfl,⟨nd,rfl⟩⟩)|(go_at_call 124;refine(HR.out _).mono ?_;rintro e w' ⟨rfl,⟨nd2,rfl⟩⟩))
          go_ret
          exact⟨rfl,⟨_,rfl⟩⟩
     · have e1:decide ((a0.size:Int)≤40)=false:=decide_eq_false (by omega);rw[decide_eq_false h40,Bool.false_and];clear hz h40 hs;go_enter Tryz.func107,Tryz.ntmps107;go_wp2
       go_ret
       exact⟨rfl,z0e.refl _⟩
 · cases h
theorem zkx {W:World} {g:Nat} {x0 x1 x2:Value} (hg:W.heap[g]?=some (.cells #[x0,x1,x2] 108 (0,0))) (k t a:Value) :
 (((W.setCell ⟨g,0,none⟩ k).setCell ⟨g,1,none⟩ t).setCell ⟨g,2,none⟩ a).heap[g]?=some (.cells #[k,t,a] 108 (0,0)) :=
 z0x (cs:=#[k,t,x2]) (z0x (cs:=#[k,x1,x2]) (z0x (cs:=#[x0,x1,x2]) hg 0 _ rfl) 1 _ rfl) 2 _ rfl
theorem z4c {w W:World} {tmps:Array Value} (hg:W.heap[w.heap.size]?=some (.cells #[.int .i64 0,.string ⟨#[]⟩,.int .i64 0] 108 (0,0))) (hb:Below w.heap.size w W) (k:Int) (t:ByteArray) (a:Int) (htmp:tmps.getD 4 undef=.pointer (some ⟨w.heap.size,0,none⟩)) :
 bodyPost Tryz.prog Tryz.f97 (fun e w'=>e=.returned (.agg #[.int .i64 k,.string t,.int .i64 a])∧Below w.heap.size w w') Exit.ret { tmps:=tmps,defers:=[]}
  (((W.setCell ⟨w.heap.size,0,none⟩ (.int .i64 k)).setCell ⟨w.heap.size,1,none⟩ (.string t)).setCell ⟨w.heap.size,2,none⟩ (.int .i64 a)) :=
 bodyPost_ret (z7o rfl (.cell w.heap.size 108 #[.int .i64 k,.string t,.int .i64 a] (0,0) _ htmp (zkx hg _ _ _) Tryz.underlying108 rfl (by kernel_rfl) .nil)) rfl
  ⟨rfl,z06 (z06 (z06 hb (Nat.le_refl _)) (Nat.le_refl _)) (Nat.le_refl _)⟩
theorem z2m (w:World) (m:Nat) (o:Obj):((w.alloc o).drewN m).heap[w.heap.size]?=some o:=z0f (z0q w o) m
theorem z19 (w:World) (m:Nat) (o:Obj):Below w.heap.size w ((w.alloc o).drewN m):=z04 ((Below.refl _ _).alloc (Nat.le_refl _) _) m
theorem zjn (s:ByteArray) (n:Nat):nmL (s.data.toList.take n)=nameB (s.extract 0 n):=by unfold nmL;rw[z98]
def NextR (s:ByteArray) (a:Int):Option (Nat × Nat)→Ending→Prop
 |some (k,n),e=>e=.returned (.agg #[.int .i64 k,.string (s.extract 0 n),.int .i64 a])
 |none,e=>e=.panicked [{ v:=.iface 134 (.int .i64 a),recovered:=false }]
theorem zak {w W:World} {tmps:Array Value} (hg:W.heap[w.heap.size]?=some (.cells #[.int .i64 0,.string ⟨#[]⟩,.int .i64 0] 108 (0,0))) (hb:Below w.heap.size w W) (k:Int) (t:ByteArray) (a:Int) (htmp:tmps.getD 4 undef=.pointer (some ⟨w.heap.size,0,none⟩)) (o:Obj) :
 bodyPost Tryz.prog Tryz.f97 (fun e w'=>e=.returned (.agg #[.int .i64 k,.string t,.int .i64 a])∧Below w.heap.size w w') Exit.ret { tmps:=tmps,defers:=[]}
  ((((W.setCell ⟨w.heap.size,0,none⟩ (.int .i64 k)).setCell ⟨w.heap.size,1,none⟩ (.string t)).setCell ⟨w.heap.size,2,none⟩ (.int .i64 a)).alloc o) :=
 bodyPost_ret (z7o rfl (.cell w.heap.size 108 #[.int .i64 k,.string t,.int .i64 a] (0,0) _ htmp (z0c (zkx hg _ _ _) _) Tryz.underlying108 rfl (by kernel_rfl) .nil)) rfl
  ⟨rfl,z03 (z06 (z06 (z06 hb (Nat.le_refl _)) (Nat.le_refl _)) (Nat.le_refl _)) _⟩
theorem z64 {s:ByteArray} {p:List UInt8} (h:s.data.toList.take 2=p) (hp:p.length=2):2≤s.size:=by
 have:=congrArg List.length h;rw[List.length_take,hp,z0i]at this;omega
theorem z0o (s p:ByteArray) (b:Bool) (h:(s.data.toList.take 2==p.data.toList)=b) (hp:p.size=2:=by rfl):z0a.f s p=some b:=by
 unfold z0a.f stringslite_HasPrefix.f;rw[hp]
 by_cases h2:(s.size:Int)≥((2:Nat):Int)
 · rw[if_pos h2,if_pos (by omega),if_pos h2];simp only[Option.bind_some];have e:(s.extract 0 (((2:Nat):Int):Int).toNat).toList=s.data.toList.take 2:=by
    rw[z2l,z4s,List.drop_zero];rfl
   rw[e,z2l,h]
 · rw[if_neg h2];simp only[Option.bind_some]
   congr 1
   rw[←h]
   symm
   rw[beq_eq_false_iff_ne];intro e;have:=congrArg List.length e;rw[List.length_take,z0i,z0i,hp]at this;omega
theorem zdc (l:List UInt8) (c:UInt8):decide ((0:Int)≤Lib.indexByte l c)=l.contains c∧-1≤Lib.indexByte l c:=by
 induction l with
 |nil=>exact⟨rfl,Int.le_refl _⟩
 |cons b l ih =>
  obtain⟨ih1,ih2⟩:=ih;unfold Lib.indexByte
  by_cases hb:(b==c)=true
  · rw[if_pos hb];have:b=c:=beq_iff_eq.1 hb;subst this;exact⟨by simp,by decide⟩
  · rw[if_neg hb];have hc:(b::l).contains c=l.contains c:=by
     rw[List.contains_cons];have:(c==b)=false:=by rw[beq_eq_false_iff_ne];intro e;exact hb (beq_iff_eq.2 e.symm)
     rw[this,Bool.false_or]
    rw[hc,←ih1]
    by_cases hm:(Lib.indexByte l c==-1)=true
    · rw[if_pos hm];have:Lib.indexByte l c=-1:=beq_iff_eq.1 hm;rw[this];exact⟨rfl,by decide⟩
    · rw[if_neg hm];have:Lib.indexByte l c≠-1:=fun e=>hm (beq_iff_eq.2 e)
      refine⟨?_,by omega⟩;rw[Bool.eq_iff_iff,decide_eq_true_eq,decide_eq_true_eq];omega
theorem z6i (c:UInt8):decide ((0:Int)≤Lib.indexByte (⟨#[40,41,44,46,60,61,47,124,42,43,63,94]⟩:ByteArray).data.toList ((c.toNat:Int)).toNat.toUInt8)=oneB c:=by
 have e:((c.toNat:Int)).toNat.toUInt8=c:=by
  rw[Int.toNat_natCast];apply UInt8.toNat_inj.1;show(UInt8.ofNat c.toNat).toNat=c.toNat;rw[UInt8.toNat_ofNat'];have:=c.toNat_lt;omega
 rw[e,(zdc _ c).1];rfl
set_option maxHeartbeats 1600000 in
set_option maxRecDepth 100000 in
theorem za6 (s:ByteArray) (hs:s.size≤140737488355328) (a:Int) (w:World) (hp:0<s.size) (n:Nat) (hsm:z1a s[0]=true) (hn:runN lowB s.data.toList=n) (hN:nameB (s.extract 0 n)=true) :
 Calls Tryz.prog 97 #[.string s,.int .i64 a] w fun e w'=>NextR s a (some (1,n)) e∧Below w.heap.size w w':=by
 have HS:=z00.mk (fun W=>z18.calls (s[0].toNat:Int) (z1a s[0]) W (z0z s[0]));rw[hsm]at HS;have HR:=z00.mk (fun W=>zju s hs W);have hle:n≤s.size:=by have:=z48 lowB s.data.toList;rwa [z0i,hn]at this
 rw[hn]at HR;have HN:=z00.mk (fun W=>z0u.calls 42 (s.extract 0 n) _ W (z5k _ 42 (Nat.le_refl _)));rw[hN]at HN;clear hN hsm hs hn;go_enter Tryz.func97,Tryz.ntmps97
 go_wp2_with (first|(go_at_call 123;refine(HS.out _).mono ?_;rintro e w' ⟨rfl,⟨nd1,rfl⟩⟩)|(go_at_call 124;refine(HR.out _).mono ?_;rintro e w' ⟨rfl,⟨nd4,rfl⟩⟩)|(go_at_call 108;refine(HN.out _).mono ?_;rintro e w' ⟨rfl,⟨nd6,rfl⟩⟩))
 exact z4c (z2m w _ _) (z19 w _ _) 1 _ a (by rfl)
set_option maxHeartbeats 1600000 in
set_option maxRecDepth 100000 in
theorem z9a (s:ByteArray) (hs:s.size≤140737488355328) (a:Int) (w:World) (hp:0<s.size) (n:Nat) (hsm:z1a s[0]=true) (hn:runN lowB s.data.toList=n) (hN:nameB (s.extract 0 n)=false) :
 Calls Tryz.prog 97 #[.string s,.int .i64 a] w fun e w'=>NextR s a (none) e∧Below w.heap.size w w':=by
 have HS:=z00.mk (fun W=>z18.calls (s[0].toNat:Int) (z1a s[0]) W (z0z s[0]));rw[hsm]at HS;have HR:=z00.mk (fun W=>zju s hs W);have hle:n≤s.size:=by have:=z48 lowB s.data.toList;rwa [z0i,hn]at this
 rw[hn]at HR;have HN:=z00.mk (fun W=>z0u.calls 42 (s.extract 0 n) _ W (z5k _ 42 (Nat.le_refl _)));rw[hN]at HN;clear hN hsm hs hn;go_enter Tryz.func97,Tryz.ntmps97
 go_wp2_with (first|(go_at_call 123;refine(HS.out _).mono ?_;rintro e w' ⟨rfl,⟨nd1,rfl⟩⟩)|(go_at_call 124;refine(HR.out _).mono ?_;rintro e w' ⟨rfl,⟨nd4,rfl⟩⟩)|(go_at_call 108;refine(HN.out _).mono ?_;rintro e w' ⟨rfl,⟨nd6,rfl⟩⟩))
 exact⟨rfl,rfl,z19 w _ _⟩
set_option maxHeartbeats 1600000 in
set_option maxRecDepth 100000 in
theorem z9v (s:ByteArray) (hs:s.size≤140737488355328) (a:Int) (w:World) (hp:0<s.size) (n:Nat) (hsm:z1a s[0]=false) (hgr:z1f s[0]=true) (hn:runN signB s.data.toList=n) (hN:varL (s.data.toList.take n)=true) :
 Calls Tryz.prog 97 #[.string s,.int .i64 a] w fun e w'=>NextR s a (some (2,n)) e∧Below w.heap.size w w':=by
 have HS:=z00.mk (fun W=>z18.calls (s[0].toNat:Int) (z1a s[0]) W (z0z s[0]));rw[hsm]at HS;have HG:=z00.mk (fun W=>z1b.calls (s[0].toNat:Int) (z1f s[0]) W (z13 s[0]));rw[hgr]at HG;have HR:=z00.mk (fun W=>z5l s hs W);have hle:n≤s.size:=by have:=z48 signB s.data.toList;rwa [z0i,hn]at this
 rw[hn]at HR;have hv2:=fun W=>z38.calls (s.extract 0 n) _ W (by unfold z38.f;rw[if_pos zA0f])
 rw[z4s,List.drop_zero,hN]at hv2;have HN:=z00.mk hv2;clear hv2 hN hsm hgr hs hn;go_enter Tryz.func97,Tryz.ntmps97
 go_wp2_with (first|(go_at_call 123;refine(HS.out _).mono ?_;rintro e w' ⟨rfl,⟨nd1,rfl⟩⟩)|(go_at_call 126;refine(HG.out _).mono ?_;rintro e w' ⟨rfl,⟨nd2,rfl⟩⟩)|(go_at_call 124;refine(HR.out _).mono ?_;rintro e w' ⟨rfl,⟨nd4,rfl⟩⟩)|(go_at_call 107;refine(HN.out _).mono ?_;rintro e w' ⟨rfl,⟨nd5,rfl⟩⟩))
 exact z4c (z2m w _ _) (z19 w _ _) 2 _ a (by rfl)
set_option maxHeartbeats 1600000 in
set_option maxRecDepth 100000 in
theorem z9c (s:ByteArray) (hs:s.size≤140737488355328) (a:Int) (w:World) (hp:0<s.size) (n:Nat) (hsm:z1a s[0]=false) (hgr:z1f s[0]=true) (hn:runN signB s.data.toList=n) (hN:varL (s.data.toList.take n)=false) :
 Calls Tryz.prog 97 #[.string s,.int .i64 a] w fun e w'=>NextR s a (none) e∧Below w.heap.size w w':=by
 have HS:=z00.mk (fun W=>z18.calls (s[0].toNat:Int) (z1a s[0]) W (z0z s[0]));rw[hsm]at HS;have HG:=z00.mk (fun W=>z1b.calls (s[0].toNat:Int) (z1f s[0]) W (z13 s[0]));rw[hgr]at HG;have HR:=z00.mk (fun W=>z5l s hs W);have hle:n≤s.size:=by have:=z48 signB s.data.toList;rwa [z0i,hn]at this
 rw[hn]at HR;have hv2:=fun W=>z38.calls (s.extract 0 n) _ W (by unfold z38.f;rw[if_pos zA0f])
 rw[z4s,List.drop_zero,hN]at hv2;have HN:=z00.mk hv2;clear hv2 hN hsm hgr hs hn;go_enter Tryz.func97,Tryz.ntmps97
 go_wp2_with (first|(go_at_call 123;refine(HS.out _).mono ?_;rintro e w' ⟨rfl,⟨nd1,rfl⟩⟩)|(go_at_call 126;refine(HG.out _).mono ?_;rintro e w' ⟨rfl,⟨nd2,rfl⟩⟩)|(go_at_call 124;refine(HR.out _).mono ?_;rintro e w' ⟨rfl,⟨nd4,rfl⟩⟩)|(go_at_call 107;refine(HN.out _).mono ?_;rintro e w' ⟨rfl,⟨nd5,rfl⟩⟩))
 exact⟨rfl,rfl,z19 w _ _⟩
set_option maxHeartbeats 1600000 in
set_option maxRecDepth 100000 in
theorem zd1 (s:ByteArray) (hs:s.size≤140737488355328) (a:Int) (w:World) (hp:0<s.size) (n:Nat) (hLW:LaidW w) (hsm:z1a s[0]=false) (hgr:z1f s[0]=false) (h35:s[0]=35) (hn:1+runN signB (s.data.toList.drop 1)=n) (hR:(readR (s.extract 0 n)).2.2.2=0) :
 Calls Tryz.prog 97 #[.string s,.int .i64 a] w fun e w'=>NextR s a (some (3,n)) e∧Below w.heap.size w w':=by
 have HS:=z00.mk (fun W=>z18.calls (s[0].toNat:Int) (z1a s[0]) W (z0z s[0]));rw[hsm]at HS;have HG:=z00.mk (fun W=>z1b.calls (s[0].toNat:Int) (z1f s[0]) W (z13 s[0]));rw[hgr]at HG;have hr2:=fun W=>z5l (s.extract 1 s.size) zA0f W
 rw[z3p]at hr2;have hle:n≤s.size:=by have:=z48 signB (s.data.toList.drop 1);rw[List.length_drop,z0i]at this;omega
 generalize runN signB (s.data.toList.drop 1)=m at hn hr2
 have hw:wrap64 (1+(m:Int))=(n:Int):=by unfold wrap64;omega
 have HR:=z00.mk hr2;have HLW:=z00.mk hLW;obtain⟨q1,q2,q3,q4,hq⟩:∃q1 q2 q3 q4,readR (s.extract 0 n)=(q1,q2,q3,q4):=⟨_,_,_,_,rfl⟩
 rw[hq]at hR;have HRD:z00 (z1l.f (s.extract 0 n)=some (q1,q2,q3,q4)):=⟨zA0u⟩
 have e35:((s[0].toNat:Int)==35)=true:=by rw[h35];rfl
 have eq4:(q4==0)=true:=beq_iff_eq.2 hR;clear hR hq hn hr2 hLW hsm hgr hs h35;go_enter Tryz.func97,Tryz.ntmps97
 go_wp2_with (first|(go_at_call 123;refine(HS.out _).mono ?_;rintro e w' ⟨rfl,⟨nd1,rfl⟩⟩)|(go_at_call 126;refine(HG.out _).mono ?_;rintro e w' ⟨rfl,⟨nd2,rfl⟩⟩)|(go_at_call 124;refine(HR.out _).mono ?_;rintro e w' ⟨rfl,⟨nd4,rfl⟩⟩))
 refine(z1l.calls _ _ _ _ _ _ zA0z HRD.out).mono ?_;rintro e w1 ⟨rfl,hb1⟩;have HB:=z00.mk (z0g (z19 w _ _) hb1);have HK:=z00.mk (z0b (z2m w _ _) hb1);have hz:w.heap.size<w1.heap.size:=z26 HK.out;clear hb1;have hf0:=z02 HK.out 0;have hf1:=z02 HK.out 1;have hf2:=z02 HK.out 2;have hc0:w1.cell? ⟨w.heap.size,0,none⟩=some (.int .i64 0):=(z01 HK.out 0).trans rfl;have hc1:w1.cell? ⟨w.heap.size,1,none⟩=some (.string ⟨#[]⟩):=(z01 HK.out 1).trans rfl;have hc2:w1.cell? ⟨w.heap.size,2,none⟩=some (.int .i64 0):=(z01 HK.out 2).trans rfl;go_wp2;exact zak HK.out HB.out 3 _ a rfl _
set_option maxHeartbeats 1600000 in
set_option maxRecDepth 100000 in
theorem zds (s:ByteArray) (hs:s.size≤140737488355328) (a:Int) (w:World) (hp:0<s.size) (n:Nat) (hLW:LaidW w) (hsm:z1a s[0]=false) (hgr:z1f s[0]=false) (h35:s[0]=35) (hn:1+runN signB (s.data.toList.drop 1)=n) (hR:(readR (s.extract 0 n)).2.2.2≠0) :
 Calls Tryz.prog 97 #[.string s,.int .i64 a] w fun e w'=>NextR s a (none) e∧Below w.heap.size w w':=by
 have HS:=z00.mk (fun W=>z18.calls (s[0].toNat:Int) (z1a s[0]) W (z0z s[0]));rw[hsm]at HS;have HG:=z00.mk (fun W=>z1b.calls (s[0].toNat:Int) (z1f s[0]) W (z13 s[0]));rw[hgr]at HG;have hr2:=fun W=>z5l (s.extract 1 s.size) zA0f W
 rw[z3p]at hr2;have hle:n≤s.size:=by have:=z48 signB (s.data.toList.drop 1);rw[List.length_drop,z0i]at this;omega
 generalize runN signB (s.data.toList.drop 1)=m at hn hr2
 have hw:wrap64 (1+(m:Int))=(n:Int):=by unfold wrap64;omega
 have HR:=z00.mk hr2;have HLW:=z00.mk hLW;obtain⟨q1,q2,q3,q4,hq⟩:∃q1 q2 q3 q4,readR (s.extract 0 n)=(q1,q2,q3,q4):=⟨_,_,_,_,rfl⟩
 rw[hq]at hR;have HRD:z00 (z1l.f (s.extract 0 n)=some (q1,q2,q3,q4)):=⟨zA0u⟩
 have e35:((s[0].toNat:Int)==35)=true:=by rw[h35];rfl
 have eq4:(q4==0)=false:=beq_eq_false_iff_ne.2 hR;clear hR hq hn hr2 hLW hsm hgr hs h35;go_enter Tryz.func97,Tryz.ntmps97
 go_wp2_with (first|(go_at_call 123;refine(HS.out _).mono ?_;rintro e w' ⟨rfl,⟨nd1,rfl⟩⟩)|(go_at_call 126;refine(HG.out _).mono ?_;rintro e w' ⟨rfl,⟨nd2,rfl⟩⟩)|(go_at_call 124;refine(HR.out _).mono ?_;rintro e w' ⟨rfl,⟨nd4,rfl⟩⟩))
 refine(z1l.calls _ _ _ _ _ _ zA0z HRD.out).mono ?_;rintro e w1 ⟨rfl,hb1⟩;have HB:=z00.mk (z0g (z19 w _ _) hb1);have HK:=z00.mk (z0b (z2m w _ _) hb1);have hz:w.heap.size<w1.heap.size:=z26 HK.out;clear hb1;have hf0:=z02 HK.out 0;have hf1:=z02 HK.out 1;have hf2:=z02 HK.out 2;have hc0:w1.cell? ⟨w.heap.size,0,none⟩=some (.int .i64 0):=(z01 HK.out 0).trans rfl;have hc1:w1.cell? ⟨w.heap.size,1,none⟩=some (.string ⟨#[]⟩):=(z01 HK.out 1).trans rfl;have hc2:w1.cell? ⟨w.heap.size,2,none⟩=some (.int .i64 0):=(z01 HK.out 2).trans rfl;go_wp2;exact⟨rfl,rfl,z03 HB.out _⟩
set_option maxHeartbeats 1600000 in
set_option maxRecDepth 100000 in
theorem zct (s:ByteArray) (hs:s.size≤140737488355328) (a:Int) (w:World) (hp:0<s.size) (n:Nat) (hLW:LaidW w) (hsm:z1a s[0]=false) (hgr:z1f s[0]=false) (h35:s[0]≠35) (hdg:z16 s[0]=true) (hn:1+runN signB (s.data.toList.drop 1)=n) (hR:(readR (s.extract 0 n)).2.2.2=0) :
 Calls Tryz.prog 97 #[.string s,.int .i64 a] w fun e w'=>NextR s a (some (3,n)) e∧Below w.heap.size w w':=by
 have HS:=z00.mk (fun W=>z18.calls (s[0].toNat:Int) (z1a s[0]) W (z0z s[0]));rw[hsm]at HS;have HG:=z00.mk (fun W=>z1b.calls (s[0].toNat:Int) (z1f s[0]) W (z13 s[0]));rw[hgr]at HG;have hr2:=fun W=>z5l (s.extract 1 s.size) zA0f W
 rw[z3p]at hr2;have hle:n≤s.size:=by have:=z48 signB (s.data.toList.drop 1);rw[List.length_drop,z0i]at this;omega
 generalize runN signB (s.data.toList.drop 1)=m at hn hr2
 have hw:wrap64 (1+(m:Int))=(n:Int):=by unfold wrap64;omega
 have HR:=z00.mk hr2;have HLW:=z00.mk hLW;obtain⟨q1,q2,q3,q4,hq⟩:∃q1 q2 q3 q4,readR (s.extract 0 n)=(q1,q2,q3,q4):=⟨_,_,_,_,rfl⟩
 rw[hq]at hR;have HRD:z00 (z1l.f (s.extract 0 n)=some (q1,q2,q3,q4)):=⟨zA0u⟩
 have HD:=z00.mk (fun W=>z15.calls (s[0].toNat:Int) (z16 s[0]) W (z0y s[0]));rw[hdg]at HD;have e35:((s[0].toNat:Int)==35)=false:=by rw[show((s[0].toNat:Int)==35)=(s[0]==35)from z23 s[0] 35 (by omega)];exact beq_eq_false_iff_ne.2 h35
 have eq4:(q4==0)=true:=beq_iff_eq.2 hR;clear hR hq hn hr2 hLW hsm hgr hs h35 hdg;go_enter Tryz.func97,Tryz.ntmps97
 go_wp2_with (first|(go_at_call 123;refine(HS.out _).mono ?_;rintro e w' ⟨rfl,⟨nd1,rfl⟩⟩)|(go_at_call 126;refine(HG.out _).mono ?_;rintro e w' ⟨rfl,⟨nd2,rfl⟩⟩)|(go_at_call 128;refine(HD.out _).mono ?_;rintro e w' ⟨rfl,⟨nd3,rfl⟩⟩)|(go_at_call 124;refine(HR.out _).mono ?_;rintro e w' ⟨rfl,⟨nd4,rfl⟩⟩))
 refine(z1l.calls _ _ _ _ _ _ zA0z HRD.out).mono ?_;rintro e w1 ⟨rfl,hb1⟩;have HB:=z00.mk (z0g (z19 w _ _) hb1);have HK:=z00.mk (z0b (z2m w _ _) hb1);have hz:w.heap.size<w1.heap.size:=z26 HK.out;clear hb1;have hf0:=z02 HK.out 0;have hf1:=z02 HK.out 1;have hf2:=z02 HK.out 2;have hc0:w1.cell? ⟨w.heap.size,0,none⟩=some (.int .i64 0):=(z01 HK.out 0).trans rfl;have hc1:w1.cell? ⟨w.heap.size,1,none⟩=some (.string ⟨#[]⟩):=(z01 HK.out 1).trans rfl;have hc2:w1.cell? ⟨w.heap.size,2,none⟩=some (.int .i64 0):=(z01 HK.out 2).trans rfl;go_wp2;exact zak HK.out HB.out 3 _ a rfl _
set_option maxHeartbeats 1600000 in
set_option maxRecDepth 100000 in
theorem zcq (s:ByteArray) (hs:s.size≤140737488355328) (a:Int) (w:World) (hp:0<s.size) (n:Nat) (hLW:LaidW w) (hsm:z1a s[0]=false) (hgr:z1f s[0]=false) (h35:s[0]≠35) (hdg:z16 s[0]=true) (hn:1+runN signB (s.data.toList.drop 1)=n) (hR:(readR (s.extract 0 n)).2.2.2≠0) :
 Calls Tryz.prog 97 #[.string s,.int .i64 a] w fun e w'=>NextR s a (none) e∧Below w.heap.size w w':=by
 have HS:=z00.mk (fun W=>z18.calls (s[0].toNat:Int) (z1a s[0]) W (z0z s[0]));rw[hsm]at HS;have HG:=z00.mk (fun W=>z1b.calls (s[0].toNat:Int) (z1f s[0]) W (z13 s[0]));rw[hgr]at HG;have hr2:=fun W=>z5l (s.extract 1 s.size) zA0f W
 rw[z3p]at hr2;have hle:n≤s.size:=by have:=z48 signB (s.data.toList.drop 1);rw[List.length_drop,z0i]at this;omega
 generalize runN signB (s.data.toList.drop 1)=m at hn hr2
 have hw:wrap64 (1+(m:Int))=(n:Int):=by unfold wrap64;omega
 have HR:=z00.mk hr2;have HLW:=z00.mk hLW;obtain⟨q1,q2,q3,q4,hq⟩:∃q1 q2 q3 q4,readR (s.extract 0 n)=(q1,q2,q3,q4):=⟨_,_,_,_,rfl⟩
 rw[hq]at hR;have HRD:z00 (z1l.f (s.extract 0 n)=some (q1,q2,q3,q4)):=⟨zA0u⟩
 have HD:=z00.mk (fun W=>z15.calls (s[0].toNat:Int) (z16 s[0]) W (z0y s[0]));rw[hdg]at HD;have e35:((s[0].toNat:Int)==35)=false:=by rw[show((s[0].toNat:Int)==35)=(s[0]==35)from z23 s[0] 35 (by omega)];exact beq_eq_false_iff_ne.2 h35
 have eq4:(q4==0)=false:=beq_eq_false_iff_ne.2 hR;clear hR hq hn hr2 hLW hsm hgr hs h35 hdg;go_enter Tryz.func97,Tryz.ntmps97
 go_wp2_with (first|(go_at_call 123;refine(HS.out _).mono ?_;rintro e w' ⟨rfl,⟨nd1,rfl⟩⟩)|(go_at_call 126;refine(HG.out _).mono ?_;rintro e w' ⟨rfl,⟨nd2,rfl⟩⟩)|(go_at_call 128;refine(HD.out _).mono ?_;rintro e w' ⟨rfl,⟨nd3,rfl⟩⟩)|(go_at_call 124;refine(HR.out _).mono ?_;rintro e w' ⟨rfl,⟨nd4,rfl⟩⟩))
 refine(z1l.calls _ _ _ _ _ _ zA0z HRD.out).mono ?_;rintro e w1 ⟨rfl,hb1⟩;have HB:=z00.mk (z0g (z19 w _ _) hb1);have HK:=z00.mk (z0b (z2m w _ _) hb1);have hz:w.heap.size<w1.heap.size:=z26 HK.out;clear hb1;have hf0:=z02 HK.out 0;have hf1:=z02 HK.out 1;have hf2:=z02 HK.out 2;have hc0:w1.cell? ⟨w.heap.size,0,none⟩=some (.int .i64 0):=(z01 HK.out 0).trans rfl;have hc1:w1.cell? ⟨w.heap.size,1,none⟩=some (.string ⟨#[]⟩):=(z01 HK.out 1).trans rfl;have hc2:w1.cell? ⟨w.heap.size,2,none⟩=some (.int .i64 0):=(z01 HK.out 2).trans rfl;go_wp2;exact⟨rfl,rfl,z03 HB.out _⟩
set_option maxHeartbeats 1600000 in
set_option maxRecDepth 100000 in
theorem zcn (s:ByteArray) (hs:s.size≤140737488355328) (a:Int) (w:World) (hp:0<s.size) (n:Nat) (hLW:LaidW w) (hsm:z1a s[0]=false) (hgr:z1f s[0]=false) (h45:s[0]=45) (h1:1<s.size) (hd1:z16 s[1]=true) (hn:1+runN signB (s.data.toList.drop 1)=n) (hR:(readR (s.extract 0 n)).2.2.2=0) :
 Calls Tryz.prog 97 #[.string s,.int .i64 a] w fun e w'=>NextR s a (some (3,n)) e∧Below w.heap.size w w':=by
 have HS:=z00.mk (fun W=>z18.calls (s[0].toNat:Int) (z1a s[0]) W (z0z s[0]));rw[hsm]at HS;have HG:=z00.mk (fun W=>z1b.calls (s[0].toNat:Int) (z1f s[0]) W (z13 s[0]));rw[hgr]at HG;have hr2:=fun W=>z5l (s.extract 1 s.size) zA0f W
 rw[z3p]at hr2;have hle:n≤s.size:=by have:=z48 signB (s.data.toList.drop 1);rw[List.length_drop,z0i]at this;omega
 generalize runN signB (s.data.toList.drop 1)=m at hn hr2
 have hw:wrap64 (1+(m:Int))=(n:Int):=by unfold wrap64;omega
 have HR:=z00.mk hr2;have HLW:=z00.mk hLW;obtain⟨q1,q2,q3,q4,hq⟩:∃q1 q2 q3 q4,readR (s.extract 0 n)=(q1,q2,q3,q4):=⟨_,_,_,_,rfl⟩
 rw[hq]at hR;have HRD:z00 (z1l.f (s.extract 0 n)=some (q1,q2,q3,q4)):=⟨zA0u⟩
 have HD:=z00.mk (fun W=>z15.calls (s[0].toNat:Int) (z16 s[0]) W (z0y s[0]));rw[show z16 s[0]=false by rw[h45];rfl]at HD;have HD1:=z00.mk (fun W=>z15.calls (s[1].toNat:Int) (z16 s[1]) W (z0y s[1]));rw[hd1]at HD1;have e35:((s[0].toNat:Int)==35)=false:=by rw[h45];rfl
 have e45:((s[0].toNat:Int)==45)=true:=by rw[h45];rfl
 have el:decide ((1:Int)<(s.size:Int))=true:=decide_eq_true (by omega);have eq4:(q4==0)=true:=beq_iff_eq.2 hR;clear hR hq hn hr2 hLW hsm hgr hs h45 hd1;go_enter Tryz.func97,Tryz.ntmps97
 go_wp2_with (first|(go_at_call 123;refine(HS.out _).mono ?_;rintro e w' ⟨rfl,⟨nd1,rfl⟩⟩)|(go_at_call 126;refine(HG.out _).mono ?_;rintro e w' ⟨rfl,⟨nd2,rfl⟩⟩)|(go_at_call 128;(with_reducible refine(HD.out _).mono ?_);rintro e w' ⟨rfl,⟨nd3,rfl⟩⟩)|(go_at_call 128;(with_reducible refine(HD1.out _).mono ?_);rintro e w' ⟨rfl,⟨nd7,rfl⟩⟩)|(go_at_call 124;refine(HR.out _).mono ?_;rintro e w' ⟨rfl,⟨nd4,rfl⟩⟩))
 refine(z1l.calls _ _ _ _ _ _ zA0z HRD.out).mono ?_;rintro e w1 ⟨rfl,hb1⟩;have HB:=z00.mk (z0g (z19 w _ _) hb1);have HK:=z00.mk (z0b (z2m w _ _) hb1);have hz:w.heap.size<w1.heap.size:=z26 HK.out;clear hb1;have hf0:=z02 HK.out 0;have hf1:=z02 HK.out 1;have hf2:=z02 HK.out 2;have hc0:w1.cell? ⟨w.heap.size,0,none⟩=some (.int .i64 0):=(z01 HK.out 0).trans rfl;have hc1:w1.cell? ⟨w.heap.size,1,none⟩=some (.string ⟨#[]⟩):=(z01 HK.out 1).trans rfl;have hc2:w1.cell? ⟨w.heap.size,2,none⟩=some (.int .i64 0):=(z01 HK.out 2).trans rfl;go_wp2;exact zak HK.out HB.out 3 _ a rfl _
set_option maxHeartbeats 1600000 in
set_option maxRecDepth 100000 in
theorem zbx (s:ByteArray) (hs:s.size≤140737488355328) (a:Int) (w:World) (hp:0<s.size) (n:Nat) (hLW:LaidW w) (hsm:z1a s[0]=false) (hgr:z1f s[0]=false) (h45:s[0]=45) (h1:1<s.size) (hd1:z16 s[1]=true) (hn:1+runN signB (s.data.toList.drop 1)=n) (hR:(readR (s.extract 0 n)).2.2.2≠0) :
 Calls Tryz.prog 97 #[.string s,.int .i64 a] w fun e w'=>NextR s a (none) e∧Below w.heap.size w w':=by
 have HS:=z00.mk (fun W=>z18.calls (s[0].toNat:Int) (z1a s[0]) W (z0z s[0]));rw[hsm]at HS;have HG:=z00.mk (fun W=>z1b.calls (s[0].toNat:Int) (z1f s[0]) W (z13 s[0]));rw[hgr]at HG;have hr2:=fun W=>z5l (s.extract 1 s.size) zA0f W
 rw[z3p]at hr2;have hle:n≤s.size:=by have:=z48 signB (s.data.toList.drop 1);rw[List.length_drop,z0i]at this;omega
 generalize runN signB (s.data.toList.drop 1)=m at hn hr2
 have hw:wrap64 (1+(m:Int))=(n:Int):=by unfold wrap64;omega
 have HR:=z00.mk hr2;have HLW:=z00.mk hLW;obtain⟨q1,q2,q3,q4,hq⟩:∃q1 q2 q3 q4,readR (s.extract 0 n)=(q1,q2,q3,q4):=⟨_,_,_,_,rfl⟩
 rw[hq]at hR;have HRD:z00 (z1l.f (s.extract 0 n)=some (q1,q2,q3,q4)):=⟨zA0u⟩
 have HD:=z00.mk (fun W=>z15.calls (s[0].toNat:Int) (z16 s[0]) W (z0y s[0]));rw[show z16 s[0]=false by rw[h45];rfl]at HD;have HD1:=z00.mk (fun W=>z15.calls (s[1].toNat:Int) (z16 s[1]) W (z0y s[1]));rw[hd1]at HD1;have e35:((s[0].toNat:Int)==35)=false:=by rw[h45];rfl
 have e45:((s[0].toNat:Int)==45)=true:=by rw[h45];rfl
 have el:decide ((1:Int)<(s.size:Int))=true:=decide_eq_true (by omega);have eq4:(q4==0)=false:=beq_eq_false_iff_ne.2 hR;clear hR hq hn hr2 hLW hsm hgr hs h45 hd1;go_enter Tryz.func97,Tryz.ntmps97
 go_wp2_with (first|(go_at_call 123;refine(HS.out _).mono ?_;rintro e w' ⟨rfl,⟨nd1,rfl⟩⟩)|(go_at_call 126;refine(HG.out _).mono ?_;rintro e w' ⟨rfl,⟨nd2,rfl⟩⟩)|(go_at_call 128;(with_reducible refine(HD.out _).mono ?_);rintro e w' ⟨rfl,⟨nd3,rfl⟩⟩)|(go_at_call 128;(with_reducible refine(HD1.out _).mono ?_);rintro e w' ⟨rfl,⟨nd7,rfl⟩⟩)|(go_at_call 124;refine(HR.out _).mono ?_;rintro e w' ⟨rfl,⟨nd4,rfl⟩⟩))
 refine(z1l.calls _ _ _ _ _ _ zA0z HRD.out).mono ?_;rintro e w1 ⟨rfl,hb1⟩;have HB:=z00.mk (z0g (z19 w _ _) hb1);have HK:=z00.mk (z0b (z2m w _ _) hb1);have hz:w.heap.size<w1.heap.size:=z26 HK.out;clear hb1;have hf0:=z02 HK.out 0;have hf1:=z02 HK.out 1;have hf2:=z02 HK.out 2;have hc0:w1.cell? ⟨w.heap.size,0,none⟩=some (.int .i64 0):=(z01 HK.out 0).trans rfl;have hc1:w1.cell? ⟨w.heap.size,1,none⟩=some (.string ⟨#[]⟩):=(z01 HK.out 1).trans rfl;have hc2:w1.cell? ⟨w.heap.size,2,none⟩=some (.int .i64 0):=(z01 HK.out 2).trans rfl;go_wp2;exact⟨rfl,rfl,z03 HB.out _⟩
set_option maxHeartbeats 1600000 in
set_option maxRecDepth 100000 in
theorem zek (s:ByteArray) (hs:s.size≤140737488355328) (a:Int) (w:World) (hp:0<s.size) (hsm:z1a s[0]=false) (hgr:z1f s[0]=false) (h35:s[0]≠35) (hdg:z16 s[0]=false) (h45:s[0]≠45) (p0:(s.data.toList.take 2==[60,61])=true) :
 Calls Tryz.prog 97 #[.string s,.int .i64 a] w fun e w'=>NextR s a (some (4,2)) e∧Below w.heap.size w w':=by
 have HS:=z00.mk (fun W=>z18.calls (s[0].toNat:Int) (z1a s[0]) W (z0z s[0]));rw[hsm]at HS;have HG:=z00.mk (fun W=>z1b.calls (s[0].toNat:Int) (z1f s[0]) W (z13 s[0]));rw[hgr]at HG;have HD:=z00.mk (fun W=>z15.calls (s[0].toNat:Int) (z16 s[0]) W (z0y s[0]));rw[hdg]at HD;have e35:((s[0].toNat:Int)==35)=false:=by rw[show((s[0].toNat:Int)==35)=(s[0]==35)from z23 s[0] 35 (by omega)];exact beq_eq_false_iff_ne.2 h35
 have e45:((s[0].toNat:Int)==45)=false:=by rw[show((s[0].toNat:Int)==45)=(s[0]==45)from z23 s[0] 45 (by omega)];exact beq_eq_false_iff_ne.2 h45
 have HP0:=z00.mk (fun W=>z0a.calls s ⟨#[60,61]⟩ _ W (z0o s _ _ p0));have h2:(2:Nat)≤s.size:=z64 (beq_iff_eq.1 p0) rfl;clear hsm hgr hs h35 hdg h45 p0;go_enter Tryz.func97,Tryz.ntmps97
 go_wp2_with (first|(go_at_call 123;refine(HS.out _).mono ?_;rintro e w' ⟨rfl,⟨nd1,rfl⟩⟩)|(go_at_call 126;refine(HG.out _).mono ?_;rintro e w' ⟨rfl,⟨nd2,rfl⟩⟩)|(go_at_call 128;refine(HD.out _).mono ?_;rintro e w' ⟨rfl,⟨nd3,rfl⟩⟩)|(go_at_call 130;(with_reducible refine(HP0.out _).mono ?_);rintro e w' ⟨rfl,⟨np0,rfl⟩⟩))
 exact z4c (z2m w _ _) (z19 w _ _) 4 _ a (by rfl)
set_option maxHeartbeats 1600000 in
set_option maxRecDepth 100000 in
theorem zda (s:ByteArray) (hs:s.size≤140737488355328) (a:Int) (w:World) (hp:0<s.size) (hsm:z1a s[0]=false) (hgr:z1f s[0]=false) (h35:s[0]≠35) (hdg:z16 s[0]=false) (h45:s[0]≠45) (p0:(s.data.toList.take 2==[60,61])=false) (p1:(s.data.toList.take 2==[33,61])=true) :
 Calls Tryz.prog 97 #[.string s,.int .i64 a] w fun e w'=>NextR s a (some (4,2)) e∧Below w.heap.size w w':=by
 have HS:=z00.mk (fun W=>z18.calls (s[0].toNat:Int) (z1a s[0]) W (z0z s[0]));rw[hsm]at HS;have HG:=z00.mk (fun W=>z1b.calls (s[0].toNat:Int) (z1f s[0]) W (z13 s[0]));rw[hgr]at HG;have HD:=z00.mk (fun W=>z15.calls (s[0].toNat:Int) (z16 s[0]) W (z0y s[0]));rw[hdg]at HD;have e35:((s[0].toNat:Int)==35)=false:=by rw[show((s[0].toNat:Int)==35)=(s[0]==35)from z23 s[0] 35 (by omega)];exact beq_eq_false_iff_ne.2 h35
 have e45:((s[0].toNat:Int)==45)=false:=by rw[show((s[0].toNat:Int)==45)=(s[0]==45)from z23 s[0] 45 (by omega)];exact beq_eq_false_iff_ne.2 h45
 have HP0:=z00.mk (fun W=>z0a.calls s ⟨#[60,61]⟩ _ W (z0o s _ _ p0));have HP1:=z00.mk (fun W=>z0a.calls s ⟨#[33,61]⟩ _ W (z0o s _ _ p1));have h2:(2:Nat)≤s.size:=z64 (beq_iff_eq.1 p1) rfl;clear hsm hgr hs h35 hdg h45 p0 p1;go_enter Tryz.func97,Tryz.ntmps97
 go_wp2_with (first|(go_at_call 123;refine(HS.out _).mono ?_;rintro e w' ⟨rfl,⟨nd1,rfl⟩⟩)|(go_at_call 126;refine(HG.out _).mono ?_;rintro e w' ⟨rfl,⟨nd2,rfl⟩⟩)|(go_at_call 128;refine(HD.out _).mono ?_;rintro e w' ⟨rfl,⟨nd3,rfl⟩⟩)|(go_at_call 130;(with_reducible refine(HP0.out _).mono ?_);rintro e w' ⟨rfl,⟨np0,rfl⟩⟩)|(go_at_call 130;(with_reducible refine(HP1.out _).mono ?_);rintro e w' ⟨rfl,⟨np1,rfl⟩⟩))
 exact z4c (z2m w _ _) (z19 w _ _) 4 _ a (by rfl)
set_option maxHeartbeats 1600000 in
set_option maxRecDepth 100000 in
theorem zdj (s:ByteArray) (hs:s.size≤140737488355328) (a:Int) (w:World) (hp:0<s.size) (hsm:z1a s[0]=false) (hgr:z1f s[0]=false) (h35:s[0]≠35) (hdg:z16 s[0]=false) (h45:s[0]≠45) (p0:(s.data.toList.take 2==[60,61])=false) (p1:(s.data.toList.take 2==[33,61])=false) (p2:(s.data.toList.take 2==[58,45])=true) :
 Calls Tryz.prog 97 #[.string s,.int .i64 a] w fun e w'=>NextR s a (some (4,2)) e∧Below w.heap.size w w':=by
 have HS:=z00.mk (fun W=>z18.calls (s[0].toNat:Int) (z1a s[0]) W (z0z s[0]));rw[hsm]at HS;have HG:=z00.mk (fun W=>z1b.calls (s[0].toNat:Int) (z1f s[0]) W (z13 s[0]));rw[hgr]at HG;have HD:=z00.mk (fun W=>z15.calls (s[0].toNat:Int) (z16 s[0]) W (z0y s[0]));rw[hdg]at HD;have e35:((s[0].toNat:Int)==35)=false:=by rw[show((s[0].toNat:Int)==35)=(s[0]==35)from z23 s[0] 35 (by omega)];exact beq_eq_false_iff_ne.2 h35
 have e45:((s[0].toNat:Int)==45)=false:=by rw[show((s[0].toNat:Int)==45)=(s[0]==45)from z23 s[0] 45 (by omega)];exact beq_eq_false_iff_ne.2 h45
 have HP0:=z00.mk (fun W=>z0a.calls s ⟨#[60,61]⟩ _ W (z0o s _ _ p0));have HP1:=z00.mk (fun W=>z0a.calls s ⟨#[33,61]⟩ _ W (z0o s _ _ p1));have HP2:=z00.mk (fun W=>z0a.calls s ⟨#[58,45]⟩ _ W (z0o s _ _ p2));have h2:(2:Nat)≤s.size:=z64 (beq_iff_eq.1 p2) rfl;clear hsm hgr hs h35 hdg h45 p0 p1 p2;go_enter Tryz.func97,Tryz.ntmps97
 go_wp2_with (first|(go_at_call 123;refine(HS.out _).mono ?_;rintro e w' ⟨rfl,⟨nd1,rfl⟩⟩)|(go_at_call 126;refine(HG.out _).mono ?_;rintro e w' ⟨rfl,⟨nd2,rfl⟩⟩)|(go_at_call 128;refine(HD.out _).mono ?_;rintro e w' ⟨rfl,⟨nd3,rfl⟩⟩)|(go_at_call 130;(with_reducible refine(HP0.out _).mono ?_);rintro e w' ⟨rfl,⟨np0,rfl⟩⟩)|(go_at_call 130;(with_reducible refine(HP1.out _).mono ?_);rintro e w' ⟨rfl,⟨np1,rfl⟩⟩)|(go_at_call 130;(with_reducible refine(HP2.out _).mono ?_);rintro e w' ⟨rfl,⟨np2,rfl⟩⟩))
 exact z4c (z2m w _ _) (z19 w _ _) 4 _ a (by rfl)
set_option maxHeartbeats 1600000 in
set_option maxRecDepth 100000 in
theorem zd8 (s:ByteArray) (hs:s.size≤140737488355328) (a:Int) (w:World) (hp:0<s.size) (hsm:z1a s[0]=false) (hgr:z1f s[0]=false) (h35:s[0]≠35) (hdg:z16 s[0]=false) (h45:s[0]≠45) (p0:(s.data.toList.take 2==[60,61])=false) (p1:(s.data.toList.take 2==[33,61])=false) (p2:(s.data.toList.take 2==[58,45])=false) (p3:(s.data.toList.take 2==[63,45])=true) :
 Calls Tryz.prog 97 #[.string s,.int .i64 a] w fun e w'=>NextR s a (some (4,2)) e∧Below w.heap.size w w':=by
 have HS:=z00.mk (fun W=>z18.calls (s[0].toNat:Int) (z1a s[0]) W (z0z s[0]));rw[hsm]at HS;have HG:=z00.mk (fun W=>z1b.calls (s[0].toNat:Int) (z1f s[0]) W (z13 s[0]));rw[hgr]at HG;have HD:=z00.mk (fun W=>z15.calls (s[0].toNat:Int) (z16 s[0]) W (z0y s[0]));rw[hdg]at HD;have e35:((s[0].toNat:Int)==35)=false:=by rw[show((s[0].toNat:Int)==35)=(s[0]==35)from z23 s[0] 35 (by omega)];exact beq_eq_false_iff_ne.2 h35
 have e45:((s[0].toNat:Int)==45)=false:=by rw[show((s[0].toNat:Int)==45)=(s[0]==45)from z23 s[0] 45 (by omega)];exact beq_eq_false_iff_ne.2 h45
 have HP0:=z00.mk (fun W=>z0a.calls s ⟨#[60,61]⟩ _ W (z0o s _ _ p0));have HP1:=z00.mk (fun W=>z0a.calls s ⟨#[33,61]⟩ _ W (z0o s _ _ p1));have HP2:=z00.mk (fun W=>z0a.calls s ⟨#[58,45]⟩ _ W (z0o s _ _ p2));have HP3:=z00.mk (fun W=>z0a.calls s ⟨#[63,45]⟩ _ W (z0o s _ _ p3));have h2:(2:Nat)≤s.size:=z64 (beq_iff_eq.1 p3) rfl;clear hsm hgr hs h35 hdg h45 p0 p1 p2 p3;go_enter Tryz.func97,Tryz.ntmps97
 go_wp2_with (first|(go_at_call 123;refine(HS.out _).mono ?_;rintro e w' ⟨rfl,⟨nd1,rfl⟩⟩)|(go_at_call 126;refine(HG.out _).mono ?_;rintro e w' ⟨rfl,⟨nd2,rfl⟩⟩)|(go_at_call 128;refine(HD.out _).mono ?_;rintro e w' ⟨rfl,⟨nd3,rfl⟩⟩)|(go_at_call 130;(with_reducible refine(HP0.out _).mono ?_);rintro e w' ⟨rfl,⟨np0,rfl⟩⟩)|(go_at_call 130;(with_reducible refine(HP1.out _).mono ?_);rintro e w' ⟨rfl,⟨np1,rfl⟩⟩)|(go_at_call 130;(with_reducible refine(HP2.out _).mono ?_);rintro e w' ⟨rfl,⟨np2,rfl⟩⟩)|(go_at_call 130;(with_reducible refine(HP3.out _).mono ?_);rintro e w' ⟨rfl,⟨np3,rfl⟩⟩))
 exact z4c (z2m w _ _) (z19 w _ _) 4 _ a (by rfl)
set_option maxHeartbeats 1600000 in
set_option maxRecDepth 100000 in
theorem zdv (s:ByteArray) (hs:s.size≤140737488355328) (a:Int) (w:World) (hp:0<s.size) (hsm:z1a s[0]=false) (hgr:z1f s[0]=false) (h35:s[0]≠35) (hdg:z16 s[0]=false) (h45:s[0]≠45) (p0:(s.data.toList.take 2==[60,61])=false) (p1:(s.data.toList.take 2==[33,61])=false) (p2:(s.data.toList.take 2==[58,45])=false) (p3:(s.data.toList.take 2==[63,45])=false) (hone:oneB s[0]=true) :
 Calls Tryz.prog 97 #[.string s,.int .i64 a] w fun e w'=>NextR s a (some (4,1)) e∧Below w.heap.size w w':=by
 have HS:=z00.mk (fun W=>z18.calls (s[0].toNat:Int) (z1a s[0]) W (z0z s[0]));rw[hsm]at HS;have HG:=z00.mk (fun W=>z1b.calls (s[0].toNat:Int) (z1f s[0]) W (z13 s[0]));rw[hgr]at HG;have HD:=z00.mk (fun W=>z15.calls (s[0].toNat:Int) (z16 s[0]) W (z0y s[0]));rw[hdg]at HD;have e35:((s[0].toNat:Int)==35)=false:=by rw[show((s[0].toNat:Int)==35)=(s[0]==35)from z23 s[0] 35 (by omega)];exact beq_eq_false_iff_ne.2 h35
 have e45:((s[0].toNat:Int)==45)=false:=by rw[show((s[0].toNat:Int)==45)=(s[0]==45)from z23 s[0] 45 (by omega)];exact beq_eq_false_iff_ne.2 h45
 have HP0:=z00.mk (fun W=>z0a.calls s ⟨#[60,61]⟩ _ W (z0o s _ _ p0));have HP1:=z00.mk (fun W=>z0a.calls s ⟨#[33,61]⟩ _ W (z0o s _ _ p1));have HP2:=z00.mk (fun W=>z0a.calls s ⟨#[58,45]⟩ _ W (z0o s _ _ p2));have HP3:=z00.mk (fun W=>z0a.calls s ⟨#[63,45]⟩ _ W (z0o s _ _ p3));have HI:=z00.mk (fun W=>Tryz.strings_IndexByte ⟨#[40,41,44,46,60,61,47,124,42,43,63,94]⟩ (s[0].toNat:Int) W);have ei:decide ((0:Int)≤Lib.indexByte (⟨#[40,41,44,46,60,61,47,124,42,43,63,94]⟩:ByteArray).data.toList ((s[0].toNat:Int)).toNat.toUInt8)=true:=(z6i s[0]).trans hone
 generalize Lib.indexByte (⟨#[40,41,44,46,60,61,47,124,42,43,63,94]⟩:ByteArray).data.toList ((s[0].toNat:Int)).toNat.toUInt8=ix at HI ei
 clear hsm hgr hs h35 hdg h45 p0 p1 p2 p3 hone;go_enter Tryz.func97,Tryz.ntmps97
 go_wp2_with (first|(go_at_call 123;refine(HS.out _).mono ?_;rintro e w' ⟨rfl,⟨nd1,rfl⟩⟩)|(go_at_call 126;refine(HG.out _).mono ?_;rintro e w' ⟨rfl,⟨nd2,rfl⟩⟩)|(go_at_call 128;refine(HD.out _).mono ?_;rintro e w' ⟨rfl,⟨nd3,rfl⟩⟩)|(go_at_call 130;(with_reducible refine(HP0.out _).mono ?_);rintro e w' ⟨rfl,⟨np0,rfl⟩⟩)|(go_at_call 130;(with_reducible refine(HP1.out _).mono ?_);rintro e w' ⟨rfl,⟨np1,rfl⟩⟩)|(go_at_call 130;(with_reducible refine(HP2.out _).mono ?_);rintro e w' ⟨rfl,⟨np2,rfl⟩⟩)|(go_at_call 130;(with_reducible refine(HP3.out _).mono ?_);rintro e w' ⟨rfl,⟨np3,rfl⟩⟩)|(go_at_call 96;refine(HI.out _).mono ?_;rintro e w' ⟨rfl,rfl⟩))
 exact z4c (z2m w _ _) (z19 w _ _) 4 _ a (by rfl)
set_option maxHeartbeats 1600000 in
set_option maxRecDepth 100000 in
theorem zd3 (s:ByteArray) (hs:s.size≤140737488355328) (a:Int) (w:World) (hp:0<s.size) (hsm:z1a s[0]=false) (hgr:z1f s[0]=false) (h35:s[0]≠35) (hdg:z16 s[0]=false) (h45:s[0]≠45) (p0:(s.data.toList.take 2==[60,61])=false) (p1:(s.data.toList.take 2==[33,61])=false) (p2:(s.data.toList.take 2==[58,45])=false) (p3:(s.data.toList.take 2==[63,45])=false) (hone:oneB s[0]=false) :
 Calls Tryz.prog 97 #[.string s,.int .i64 a] w fun e w'=>NextR s a (none) e∧Below w.heap.size w w':=by
 have HS:=z00.mk (fun W=>z18.calls (s[0].toNat:Int) (z1a s[0]) W (z0z s[0]));rw[hsm]at HS;have HG:=z00.mk (fun W=>z1b.calls (s[0].toNat:Int) (z1f s[0]) W (z13 s[0]));rw[hgr]at HG;have HD:=z00.mk (fun W=>z15.calls (s[0].toNat:Int) (z16 s[0]) W (z0y s[0]));rw[hdg]at HD;have e35:((s[0].toNat:Int)==35)=false:=by rw[show((s[0].toNat:Int)==35)=(s[0]==35)from z23 s[0] 35 (by omega)];exact beq_eq_false_iff_ne.2 h35
 have e45:((s[0].toNat:Int)==45)=false:=by rw[show((s[0].toNat:Int)==45)=(s[0]==45)from z23 s[0] 45 (by omega)];exact beq_eq_false_iff_ne.2 h45
 have HP0:=z00.mk (fun W=>z0a.calls s ⟨#[60,61]⟩ _ W (z0o s _ _ p0));have HP1:=z00.mk (fun W=>z0a.calls s ⟨#[33,61]⟩ _ W (z0o s _ _ p1));have HP2:=z00.mk (fun W=>z0a.calls s ⟨#[58,45]⟩ _ W (z0o s _ _ p2));have HP3:=z00.mk (fun W=>z0a.calls s ⟨#[63,45]⟩ _ W (z0o s _ _ p3));have HI:=z00.mk (fun W=>Tryz.strings_IndexByte ⟨#[40,41,44,46,60,61,47,124,42,43,63,94]⟩ (s[0].toNat:Int) W);have ei:decide ((0:Int)≤Lib.indexByte (⟨#[40,41,44,46,60,61,47,124,42,43,63,94]⟩:ByteArray).data.toList ((s[0].toNat:Int)).toNat.toUInt8)=false:=(z6i s[0]).trans hone
 generalize Lib.indexByte (⟨#[40,41,44,46,60,61,47,124,42,43,63,94]⟩:ByteArray).data.toList ((s[0].toNat:Int)).toNat.toUInt8=ix at HI ei
 clear hsm hgr hs h35 hdg h45 p0 p1 p2 p3 hone;go_enter Tryz.func97,Tryz.ntmps97
 go_wp2_with (first|(go_at_call 123;refine(HS.out _).mono ?_;rintro e w' ⟨rfl,⟨nd1,rfl⟩⟩)|(go_at_call 126;refine(HG.out _).mono ?_;rintro e w' ⟨rfl,⟨nd2,rfl⟩⟩)|(go_at_call 128;refine(HD.out _).mono ?_;rintro e w' ⟨rfl,⟨nd3,rfl⟩⟩)|(go_at_call 130;(with_reducible refine(HP0.out _).mono ?_);rintro e w' ⟨rfl,⟨np0,rfl⟩⟩)|(go_at_call 130;(with_reducible refine(HP1.out _).mono ?_);rintro e w' ⟨rfl,⟨np1,rfl⟩⟩)|(go_at_call 130;(with_reducible refine(HP2.out _).mono ?_);rintro e w' ⟨rfl,⟨np2,rfl⟩⟩)|(go_at_call 130;(with_reducible refine(HP3.out _).mono ?_);rintro e w' ⟨rfl,⟨np3,rfl⟩⟩)|(go_at_call 96;refine(HI.out _).mono ?_;rintro e w' ⟨rfl,rfl⟩))
 exact⟨rfl,rfl,z19 w _ _⟩
set_option maxHeartbeats 1600000 in
set_option maxRecDepth 100000 in
theorem zeb (s:ByteArray) (hs:s.size≤140737488355328) (a:Int) (w:World) (hp:0<s.size) (hsm:z1a s[0]=false) (hgr:z1f s[0]=false) (h35:s[0]≠35) (hdg:z16 s[0]=false) (h45:s[0]=45) (h1:s.size≤1) (p0:(s.data.toList.take 2==[60,61])=false) (p1:(s.data.toList.take 2==[33,61])=false) (p2:(s.data.toList.take 2==[58,45])=false) (p3:(s.data.toList.take 2==[63,45])=false) (hone:oneB s[0]=true) :
 Calls Tryz.prog 97 #[.string s,.int .i64 a] w fun e w'=>NextR s a (some (4,1)) e∧Below w.heap.size w w':=by
 have HS:=z00.mk (fun W=>z18.calls (s[0].toNat:Int) (z1a s[0]) W (z0z s[0]));rw[hsm]at HS;have HG:=z00.mk (fun W=>z1b.calls (s[0].toNat:Int) (z1f s[0]) W (z13 s[0]));rw[hgr]at HG;have HD:=z00.mk (fun W=>z15.calls (s[0].toNat:Int) (z16 s[0]) W (z0y s[0]));rw[hdg]at HD;have e35:((s[0].toNat:Int)==35)=false:=by rw[show((s[0].toNat:Int)==35)=(s[0]==35)from z23 s[0] 35 (by omega)];exact beq_eq_false_iff_ne.2 h35
 have e45:((s[0].toNat:Int)==45)=true:=by rw[h45];rfl
 have el:decide ((1:Int)<(s.size:Int))=false:=decide_eq_false (by omega);have HP0:=z00.mk (fun W=>z0a.calls s ⟨#[60,61]⟩ _ W (z0o s _ _ p0));have HP1:=z00.mk (fun W=>z0a.calls s ⟨#[33,61]⟩ _ W (z0o s _ _ p1));have HP2:=z00.mk (fun W=>z0a.calls s ⟨#[58,45]⟩ _ W (z0o s _ _ p2));have HP3:=z00.mk (fun W=>z0a.calls s ⟨#[63,45]⟩ _ W (z0o s _ _ p3));have HI:=z00.mk (fun W=>Tryz.strings_IndexByte ⟨#[40,41,44,46,60,61,47,124,42,43,63,94]⟩ (s[0].toNat:Int) W);have ei:decide ((0:Int)≤Lib.indexByte (⟨#[40,41,44,46,60,61,47,124,42,43,63,94]⟩:ByteArray).data.toList ((s[0].toNat:Int)).toNat.toUInt8)=true:=(z6i s[0]).trans hone
 generalize Lib.indexByte (⟨#[40,41,44,46,60,61,47,124,42,43,63,94]⟩:ByteArray).data.toList ((s[0].toNat:Int)).toNat.toUInt8=ix at HI ei
 clear hsm hgr hs h35 hdg h45 p0 p1 p2 p3 hone;go_enter Tryz.func97,Tryz.ntmps97
 go_wp2_with (first|(go_at_call 123;refine(HS.out _).mono ?_;rintro e w' ⟨rfl,⟨nd1,rfl⟩⟩)|(go_at_call 126;refine(HG.out _).mono ?_;rintro e w' ⟨rfl,⟨nd2,rfl⟩⟩)|(go_at_call 128;refine(HD.out _).mono ?_;rintro e w' ⟨rfl,⟨nd3,rfl⟩⟩)|(go_at_call 130;(with_reducible refine(HP0.out _).mono ?_);rintro e w' ⟨rfl,⟨np0,rfl⟩⟩)|(go_at_call 130;(with_reducible refine(HP1.out _).mono ?_);rintro e w' ⟨rfl,⟨np1,rfl⟩⟩)|(go_at_call 130;(with_reducible refine(HP2.out _).mono ?_);rintro e w' ⟨rfl,⟨np2,rfl⟩⟩)|(go_at_call 130;(with_reducible refine(HP3.out _).mono ?_);rintro e w' ⟨rfl,⟨np3,rfl⟩⟩)|(go_at_call 96;refine(HI.out _).mono ?_;rintro e w' ⟨rfl,rfl⟩))
 exact z4c (z2m w _ _) (z19 w _ _) 4 _ a (by rfl)
set_option maxHeartbeats 1600000 in
set_option maxRecDepth 100000 in
theorem zdw (s:ByteArray) (hs:s.size≤140737488355328) (a:Int) (w:World) (hp:0<s.size) (hsm:z1a s[0]=false) (hgr:z1f s[0]=false) (h35:s[0]≠35) (hdg:z16 s[0]=false) (h45:s[0]=45) (h1:s.size≤1) (p0:(s.data.toList.take 2==[60,61])=false) (p1:(s.data.toList.take 2==[33,61])=false) (p2:(s.data.toList.take 2==[58,45])=false) (p3:(s.data.toList.take 2==[63,45])=false) (hone:oneB s[0]=false) :
 Calls Tryz.prog 97 #[.string s,.int .i64 a] w fun e w'=>NextR s a (none) e∧Below w.heap.size w w':=by
 have HS:=z00.mk (fun W=>z18.calls (s[0].toNat:Int) (z1a s[0]) W (z0z s[0]));rw[hsm]at HS;have HG:=z00.mk (fun W=>z1b.calls (s[0].toNat:Int) (z1f s[0]) W (z13 s[0]));rw[hgr]at HG;have HD:=z00.mk (fun W=>z15.calls (s[0].toNat:Int) (z16 s[0]) W (z0y s[0]));rw[hdg]at HD;have e35:((s[0].toNat:Int)==35)=false:=by rw[show((s[0].toNat:Int)==35)=(s[0]==35)from z23 s[0] 35 (by omega)];exact beq_eq_false_iff_ne.2 h35
 have e45:((s[0].toNat:Int)==45)=true:=by rw[h45];rfl
 have el:decide ((1:Int)<(s.size:Int))=false:=decide_eq_false (by omega);have HP0:=z00.mk (fun W=>z0a.calls s ⟨#[60,61]⟩ _ W (z0o s _ _ p0));have HP1:=z00.mk (fun W=>z0a.calls s ⟨#[33,61]⟩ _ W (z0o s _ _ p1));have HP2:=z00.mk (fun W=>z0a.calls s ⟨#[58,45]⟩ _ W (z0o s _ _ p2));have HP3:=z00.mk (fun W=>z0a.calls s ⟨#[63,45]⟩ _ W (z0o s _ _ p3));have HI:=z00.mk (fun W=>Tryz.strings_IndexByte ⟨#[40,41,44,46,60,61,47,124,42,43,63,94]⟩ (s[0].toNat:Int) W);have ei:decide ((0:Int)≤Lib.indexByte (⟨#[40,41,44,46,60,61,47,124,42,43,63,94]⟩:ByteArray).data.toList ((s[0].toNat:Int)).toNat.toUInt8)=false:=(z6i s[0]).trans hone
 generalize Lib.indexByte (⟨#[40,41,44,46,60,61,47,124,42,43,63,94]⟩:ByteArray).data.toList ((s[0].toNat:Int)).toNat.toUInt8=ix at HI ei
 clear hsm hgr hs h35 hdg h45 p0 p1 p2 p3 hone;go_enter Tryz.func97,Tryz.ntmps97
 go_wp2_with (first|(go_at_call 123;refine(HS.out _).mono ?_;rintro e w' ⟨rfl,⟨nd1,rfl⟩⟩)|(go_at_call 126;refine(HG.out _).mono ?_;rintro e w' ⟨rfl,⟨nd2,rfl⟩⟩)|(go_at_call 128;refine(HD.out _).mono ?_;rintro e w' ⟨rfl,⟨nd3,rfl⟩⟩)|(go_at_call 130;(with_reducible refine(HP0.out _).mono ?_);rintro e w' ⟨rfl,⟨np0,rfl⟩⟩)|(go_at_call 130;(with_reducible refine(HP1.out _).mono ?_);rintro e w' ⟨rfl,⟨np1,rfl⟩⟩)|(go_at_call 130;(with_reducible refine(HP2.out _).mono ?_);rintro e w' ⟨rfl,⟨np2,rfl⟩⟩)|(go_at_call 130;(with_reducible refine(HP3.out _).mono ?_);rintro e w' ⟨rfl,⟨np3,rfl⟩⟩)|(go_at_call 96;refine(HI.out _).mono ?_;rintro e w' ⟨rfl,rfl⟩))
 exact⟨rfl,rfl,z19 w _ _⟩
set_option maxHeartbeats 1600000 in
set_option maxRecDepth 100000 in
theorem zf5 (s:ByteArray) (hs:s.size≤140737488355328) (a:Int) (w:World) (hp:0<s.size) (hsm:z1a s[0]=false) (hgr:z1f s[0]=false) (h35:s[0]≠35) (hdg:z16 s[0]=false) (h45:s[0]=45) (h1:1<s.size) (hd1:z16 s[1]=false) (p0:(s.data.toList.take 2==[60,61])=true) :
 Calls Tryz.prog 97 #[.string s,.int .i64 a] w fun e w'=>NextR s a (some (4,2)) e∧Below w.heap.size w w':=by
 have HS:=z00.mk (fun W=>z18.calls (s[0].toNat:Int) (z1a s[0]) W (z0z s[0]));rw[hsm]at HS;have HG:=z00.mk (fun W=>z1b.calls (s[0].toNat:Int) (z1f s[0]) W (z13 s[0]));rw[hgr]at HG;have HD:=z00.mk (fun W=>z15.calls (s[0].toNat:Int) (z16 s[0]) W (z0y s[0]));rw[hdg]at HD;have e35:((s[0].toNat:Int)==35)=false:=by rw[show((s[0].toNat:Int)==35)=(s[0]==35)from z23 s[0] 35 (by omega)];exact beq_eq_false_iff_ne.2 h35
 have e45:((s[0].toNat:Int)==45)=true:=by rw[h45];rfl
 have el:decide ((1:Int)<(s.size:Int))=true:=decide_eq_true (by omega);have HD1:=z00.mk (fun W=>z15.calls (s[1].toNat:Int) (z16 s[1]) W (z0y s[1]));rw[hd1]at HD1;have HP0:=z00.mk (fun W=>z0a.calls s ⟨#[60,61]⟩ _ W (z0o s _ _ p0));have h2:(2:Nat)≤s.size:=z64 (beq_iff_eq.1 p0) rfl;clear hsm hgr hs h35 hdg h45 hd1 p0;go_enter Tryz.func97,Tryz.ntmps97
 go_wp2_with (first|(go_at_call 123;refine(HS.out _).mono ?_;rintro e w' ⟨rfl,⟨nd1,rfl⟩⟩)|(go_at_call 126;refine(HG.out _).mono ?_;rintro e w' ⟨rfl,⟨nd2,rfl⟩⟩)|(go_at_call 128;(with_reducible refine(HD.out _).mono ?_);rintro e w' ⟨rfl,⟨nd3,rfl⟩⟩)|(go_at_call 128;(with_reducible refine(HD1.out _).mono ?_);rintro e w' ⟨rfl,⟨nd7,rfl⟩⟩)|(go_at_call 130;(with_reducible refine(HP0.out _).mono ?_);rintro e w' ⟨rfl,⟨np0,rfl⟩⟩))
 exact z4c (z2m w _ _) (z19 w _ _) 4 _ a (by rfl)
set_option maxHeartbeats 1600000 in
set_option maxRecDepth 100000 in
theorem zeu (s:ByteArray) (hs:s.size≤140737488355328) (a:Int) (w:World) (hp:0<s.size) (hsm:z1a s[0]=false) (hgr:z1f s[0]=false) (h35:s[0]≠35) (hdg:z16 s[0]=false) (h45:s[0]=45) (h1:1<s.size) (hd1:z16 s[1]=false) (p0:(s.data.toList.take 2==[60,61])=false) (p1:(s.data.toList.take 2==[33,61])=true) :
 Calls Tryz.prog 97 #[.string s,.int .i64 a] w fun e w'=>NextR s a (some (4,2)) e∧Below w.heap.size w w':=by
 have HS:=z00.mk (fun W=>z18.calls (s[0].toNat:Int) (z1a s[0]) W (z0z s[0]));rw[hsm]at HS;have HG:=z00.mk (fun W=>z1b.calls (s[0].toNat:Int) (z1f s[0]) W (z13 s[0]));rw[hgr]at HG;have HD:=z00.mk (fun W=>z15.calls (s[0].toNat:Int) (z16 s[0]) W (z0y s[0]));rw[hdg]at HD;have e35:((s[0].toNat:Int)==35)=false:=by rw[show((s[0].toNat:Int)==35)=(s[0]==35)from z23 s[0] 35 (by omega)];exact beq_eq_false_iff_ne.2 h35
 have e45:((s[0].toNat:Int)==45)=true:=by rw[h45];rfl
 have el:decide ((1:Int)<(s.size:Int))=true:=decide_eq_true (by omega);have HD1:=z00.mk (fun W=>z15.calls (s[1].toNat:Int) (z16 s[1]) W (z0y s[1]));rw[hd1]at HD1;have HP0:=z00.mk (fun W=>z0a.calls s ⟨#[60,61]⟩ _ W (z0o s _ _ p0));have HP1:=z00.mk (fun W=>z0a.calls s ⟨#[33,61]⟩ _ W (z0o s _ _ p1));have h2:(2:Nat)≤s.size:=z64 (beq_iff_eq.1 p1) rfl;clear hsm hgr hs h35 hdg h45 hd1 p0 p1;go_enter Tryz.func97,Tryz.ntmps97
 go_wp2_with (first|(go_at_call 123;refine(HS.out _).mono ?_;rintro e w' ⟨rfl,⟨nd1,rfl⟩⟩)|(go_at_call 126;refine(HG.out _).mono ?_;rintro e w' ⟨rfl,⟨nd2,rfl⟩⟩)|(go_at_call 128;(with_reducible refine(HD.out _).mono ?_);rintro e w' ⟨rfl,⟨nd3,rfl⟩⟩)|(go_at_call 128;(with_reducible refine(HD1.out _).mono ?_);rintro e w' ⟨rfl,⟨nd7,rfl⟩⟩)|(go_at_call 130;(with_reducible refine(HP0.out _).mono ?_);rintro e w' ⟨rfl,⟨np0,rfl⟩⟩)|(go_at_call 130;(with_reducible refine(HP1.out _).mono ?_);rintro e w' ⟨rfl,⟨np1,rfl⟩⟩))
 exact z4c (z2m w _ _) (z19 w _ _) 4 _ a (by rfl)
set_option maxHeartbeats 1600000 in
set_option maxRecDepth 100000 in
theorem zfg (s:ByteArray) (hs:s.size≤140737488355328) (a:Int) (w:World) (hp:0<s.size) (hsm:z1a s[0]=false) (hgr:z1f s[0]=false) (h35:s[0]≠35) (hdg:z16 s[0]=false) (h45:s[0]=45) (h1:1<s.size) (hd1:z16 s[1]=false) (p0:(s.data.toList.take 2==[60,61])=false) (p1:(s.data.toList.take 2==[33,61])=false) (p2:(s.data.toList.take 2==[58,45])=true) :
 Calls Tryz.prog 97 #[.string s,.int .i64 a] w fun e w'=>NextR s a (some (4,2)) e∧Below w.heap.size w w':=by
 have HS:=z00.mk (fun W=>z18.calls (s[0].toNat:Int) (z1a s[0]) W (z0z s[0]));rw[hsm]at HS;have HG:=z00.mk (fun W=>z1b.calls (s[0].toNat:Int) (z1f s[0]) W (z13 s[0]));rw[hgr]at HG;have HD:=z00.mk (fun W=>z15.calls (s[0].toNat:Int) (z16 s[0]) W (z0y s[0]));rw[hdg]at HD;have e35:((s[0].toNat:Int)==35)=false:=by rw[show((s[0].toNat:Int)==35)=(s[0]==35)from z23 s[0] 35 (by omega)];exact beq_eq_false_iff_ne.2 h35
 have e45:((s[0].toNat:Int)==45)=true:=by rw[h45];rfl
 have el:decide ((1:Int)<(s.size:Int))=true:=decide_eq_true (by omega);have HD1:=z00.mk (fun W=>z15.calls (s[1].toNat:Int) (z16 s[1]) W (z0y s[1]));rw[hd1]at HD1;have HP0:=z00.mk (fun W=>z0a.calls s ⟨#[60,61]⟩ _ W (z0o s _ _ p0));have HP1:=z00.mk (fun W=>z0a.calls s ⟨#[33,61]⟩ _ W (z0o s _ _ p1));have HP2:=z00.mk (fun W=>z0a.calls s ⟨#[58,45]⟩ _ W (z0o s _ _ p2));have h2:(2:Nat)≤s.size:=z64 (beq_iff_eq.1 p2) rfl;clear hsm hgr hs h35 hdg h45 hd1 p0 p1 p2;go_enter Tryz.func97,Tryz.ntmps97
 go_wp2_with (first|(go_at_call 123;refine(HS.out _).mono ?_;rintro e w' ⟨rfl,⟨nd1,rfl⟩⟩)|(go_at_call 126;refine(HG.out _).mono ?_;rintro e w' ⟨rfl,⟨nd2,rfl⟩⟩)|(go_at_call 128;(with_reducible refine(HD.out _).mono ?_);rintro e w' ⟨rfl,⟨nd3,rfl⟩⟩)|(go_at_call 128;(with_reducible refine(HD1.out _).mono ?_);rintro e w' ⟨rfl,⟨nd7,rfl⟩⟩)|(go_at_call 130;(with_reducible refine(HP0.out _).mono ?_);rintro e w' ⟨rfl,⟨np0,rfl⟩⟩)|(go_at_call 130;(with_reducible refine(HP1.out _).mono ?_);rintro e w' ⟨rfl,⟨np1,rfl⟩⟩)|(go_at_call 130;(with_reducible refine(HP2.out _).mono ?_);rintro e w' ⟨rfl,⟨np2,rfl⟩⟩))
 exact z4c (z2m w _ _) (z19 w _ _) 4 _ a (by rfl)
set_option maxHeartbeats 1600000 in
set_option maxRecDepth 100000 in
theorem zey (s:ByteArray) (hs:s.size≤140737488355328) (a:Int) (w:World) (hp:0<s.size) (hsm:z1a s[0]=false) (hgr:z1f s[0]=false) (h35:s[0]≠35) (hdg:z16 s[0]=false) (h45:s[0]=45) (h1:1<s.size) (hd1:z16 s[1]=false) (p0:(s.data.toList.take 2==[60,61])=false) (p1:(s.data.toList.take 2==[33,61])=false) (p2:(s.data.toList.take 2==[58,45])=false) (p3:(s.data.toList.take 2==[63,45])=true) :
 Calls Tryz.prog 97 #[.string s,.int .i64 a] w fun e w'=>NextR s a (some (4,2)) e∧Below w.heap.size w w':=by
 have HS:=z00.mk (fun W=>z18.calls (s[0].toNat:Int) (z1a s[0]) W (z0z s[0]));rw[hsm]at HS;have HG:=z00.mk (fun W=>z1b.calls (s[0].toNat:Int) (z1f s[0]) W (z13 s[0]));rw[hgr]at HG;have HD:=z00.mk (fun W=>z15.calls (s[0].toNat:Int) (z16 s[0]) W (z0y s[0]));rw[hdg]at HD;have e35:((s[0].toNat:Int)==35)=false:=by rw[show((s[0].toNat:Int)==35)=(s[0]==35)from z23 s[0] 35 (by omega)];exact beq_eq_false_iff_ne.2 h35
 have e45:((s[0].toNat:Int)==45)=true:=by rw[h45];rfl
 have el:decide ((1:Int)<(s.size:Int))=true:=decide_eq_true (by omega);have HD1:=z00.mk (fun W=>z15.calls (s[1].toNat:Int) (z16 s[1]) W (z0y s[1]));rw[hd1]at HD1;have HP0:=z00.mk (fun W=>z0a.calls s ⟨#[60,61]⟩ _ W (z0o s _ _ p0));have HP1:=z00.mk (fun W=>z0a.calls s ⟨#[33,61]⟩ _ W (z0o s _ _ p1));have HP2:=z00.mk (fun W=>z0a.calls s ⟨#[58,45]⟩ _ W (z0o s _ _ p2));have HP3:=z00.mk (fun W=>z0a.calls s ⟨#[63,45]⟩ _ W (z0o s _ _ p3));have h2:(2:Nat)≤s.size:=z64 (beq_iff_eq.1 p3) rfl;clear hsm hgr hs h35 hdg h45 hd1 p0 p1 p2 p3;go_enter Tryz.func97,Tryz.ntmps97
 go_wp2_with (first|(go_at_call 123;refine(HS.out _).mono ?_;rintro e w' ⟨rfl,⟨nd1,rfl⟩⟩)|(go_at_call 126;refine(HG.out _).mono ?_;rintro e w' ⟨rfl,⟨nd2,rfl⟩⟩)|(go_at_call 128;(with_reducible refine(HD.out _).mono ?_);rintro e w' ⟨rfl,⟨nd3,rfl⟩⟩)|(go_at_call 128;(with_reducible refine(HD1.out _).mono ?_);rintro e w' ⟨rfl,⟨nd7,rfl⟩⟩)|(go_at_call 130;(with_reducible refine(HP0.out _).mono ?_);rintro e w' ⟨rfl,⟨np0,rfl⟩⟩)|(go_at_call 130;(with_reducible refine(HP1.out _).mono ?_);rintro e w' ⟨rfl,⟨np1,rfl⟩⟩)|(go_at_call 130;(with_reducible refine(HP2.out _).mono ?_);rintro e w' ⟨rfl,⟨np2,rfl⟩⟩)|(go_at_call 130;(with_reducible refine(HP3.out _).mono ?_);rintro e w' ⟨rfl,⟨np3,rfl⟩⟩))
 exact z4c (z2m w _ _) (z19 w _ _) 4 _ a (by rfl)
set_option maxHeartbeats 1600000 in
set_option maxRecDepth 100000 in
theorem zfb (s:ByteArray) (hs:s.size≤140737488355328) (a:Int) (w:World) (hp:0<s.size) (hsm:z1a s[0]=false) (hgr:z1f s[0]=false) (h35:s[0]≠35) (hdg:z16 s[0]=false) (h45:s[0]=45) (h1:1<s.size) (hd1:z16 s[1]=false) (p0:(s.data.toList.take 2==[60,61])=false) (p1:(s.data.toList.take 2==[33,61])=false) (p2:(s.data.toList.take 2==[58,45])=false) (p3:(s.data.toList.take 2==[63,45])=false) (hone:oneB s[0]=true) :
 Calls Tryz.prog 97 #[.string s,.int .i64 a] w fun e w'=>NextR s a (some (4,1)) e∧Below w.heap.size w w':=by
 have HS:=z00.mk (fun W=>z18.calls (s[0].toNat:Int) (z1a s[0]) W (z0z s[0]));rw[hsm]at HS;have HG:=z00.mk (fun W=>z1b.calls (s[0].toNat:Int) (z1f s[0]) W (z13 s[0]));rw[hgr]at HG;have HD:=z00.mk (fun W=>z15.calls (s[0].toNat:Int) (z16 s[0]) W (z0y s[0]));rw[hdg]at HD;have e35:((s[0].toNat:Int)==35)=false:=by rw[show((s[0].toNat:Int)==35)=(s[0]==35)from z23 s[0] 35 (by omega)];exact beq_eq_false_iff_ne.2 h35
 have e45:((s[0].toNat:Int)==45)=true:=by rw[h45];rfl
 have el:decide ((1:Int)<(s.size:Int))=true:=decide_eq_true (by omega);have HD1:=z00.mk (fun W=>z15.calls (s[1].toNat:Int) (z16 s[1]) W (z0y s[1]));rw[hd1]at HD1;have HP0:=z00.mk (fun W=>z0a.calls s ⟨#[60,61]⟩ _ W (z0o s _ _ p0));have HP1:=z00.mk (fun W=>z0a.calls s ⟨#[33,61]⟩ _ W (z0o s _ _ p1));have HP2:=z00.mk (fun W=>z0a.calls s ⟨#[58,45]⟩ _ W (z0o s _ _ p2));have HP3:=z00.mk (fun W=>z0a.calls s ⟨#[63,45]⟩ _ W (z0o s _ _ p3));have HI:=z00.mk (fun W=>Tryz.strings_IndexByte ⟨#[40,41,44,46,60,61,47,124,42,43,63,94]⟩ (s[0].toNat:Int) W);have ei:decide ((0:Int)≤Lib.indexByte (⟨#[40,41,44,46,60,61,47,124,42,43,63,94]⟩:ByteArray).data.toList ((s[0].toNat:Int)).toNat.toUInt8)=true:=(z6i s[0]).trans hone
 generalize Lib.indexByte (⟨#[40,41,44,46,60,61,47,124,42,43,63,94]⟩:ByteArray).data.toList ((s[0].toNat:Int)).toNat.toUInt8=ix at HI ei
 clear hsm hgr hs h35 hdg h45 hd1 p0 p1 p2 p3 hone;go_enter Tryz.func97,Tryz.ntmps97
 go_wp2_with (first|(go_at_call 123;refine(HS.out _).mono ?_;rintro e w' ⟨rfl,⟨nd1,rfl⟩⟩)|(go_at_call 126;refine(HG.out _).mono ?_;rintro e w' ⟨rfl,⟨nd2,rfl⟩⟩)|(go_at_call 128;(with_reducible refine(HD.out _).mono ?_);rintro e w' ⟨rfl,⟨nd3,rfl⟩⟩)|(go_at_call 128;(with_reducible refine(HD1.out _).mono ?_);rintro e w' ⟨rfl,⟨nd7,rfl⟩⟩)|(go_at_call 130;(with_reducible refine(HP0.out _).mono ?_);rintro e w' ⟨rfl,⟨np0,rfl⟩⟩)|(go_at_call 130;(with_reducible refine(HP1.out _).mono ?_);rintro e w' ⟨rfl,⟨np1,rfl⟩⟩)|(go_at_call 130;(with_reducible refine(HP2.out _).mono ?_);rintro e w' ⟨rfl,⟨np2,rfl⟩⟩)|(go_at_call 130;(with_reducible refine(HP3.out _).mono ?_);rintro e w' ⟨rfl,⟨np3,rfl⟩⟩)|(go_at_call 96;refine(HI.out _).mono ?_;rintro e w' ⟨rfl,rfl⟩))
 exact z4c (z2m w _ _) (z19 w _ _) 4 _ a (by rfl)
set_option maxHeartbeats 1600000 in
set_option maxRecDepth 100000 in
theorem zex (s:ByteArray) (hs:s.size≤140737488355328) (a:Int) (w:World) (hp:0<s.size) (hsm:z1a s[0]=false) (hgr:z1f s[0]=false) (h35:s[0]≠35) (hdg:z16 s[0]=false) (h45:s[0]=45) (h1:1<s.size) (hd1:z16 s[1]=false) (p0:(s.data.toList.take 2==[60,61])=false) (p1:(s.data.toList.take 2==[33,61])=false) (p2:(s.data.toList.take 2==[58,45])=false) (p3:(s.data.toList.take 2==[63,45])=false) (hone:oneB s[0]=false) :
 Calls Tryz.prog 97 #[.string s,.int .i64 a] w fun e w'=>NextR s a (none) e∧Below w.heap.size w w':=by
 have HS:=z00.mk (fun W=>z18.calls (s[0].toNat:Int) (z1a s[0]) W (z0z s[0]));rw[hsm]at HS;have HG:=z00.mk (fun W=>z1b.calls (s[0].toNat:Int) (z1f s[0]) W (z13 s[0]));rw[hgr]at HG;have HD:=z00.mk (fun W=>z15.calls (s[0].toNat:Int) (z16 s[0]) W (z0y s[0]));rw[hdg]at HD;have e35:((s[0].toNat:Int)==35)=false:=by rw[show((s[0].toNat:Int)==35)=(s[0]==35)from z23 s[0] 35 (by omega)];exact beq_eq_false_iff_ne.2 h35
 have e45:((s[0].toNat:Int)==45)=true:=by rw[h45];rfl
 have el:decide ((1:Int)<(s.size:Int))=true:=decide_eq_true (by omega);have HD1:=z00.mk (fun W=>z15.calls (s[1].toNat:Int) (z16 s[1]) W (z0y s[1]));rw[hd1]at HD1;have HP0:=z00.mk (fun W=>z0a.calls s ⟨#[60,61]⟩ _ W (z0o s _ _ p0));have HP1:=z00.mk (fun W=>z0a.calls s ⟨#[33,61]⟩ _ W (z0o s _ _ p1));have HP2:=z00.mk (fun W=>z0a.calls s ⟨#[58,45]⟩ _ W (z0o s _ _ p2));have HP3:=z00.mk (fun W=>z0a.calls s ⟨#[63,45]⟩ _ W (z0o s _ _ p3));have HI:=z00.mk (fun W=>Tryz.strings_IndexByte ⟨#[40,41,44,46,60,61,47,124,42,43,63,94]⟩ (s[0].toNat:Int) W);have ei:decide ((0:Int)≤Lib.indexByte (⟨#[40,41,44,46,60,61,47,124,42,43,63,94]⟩:ByteArray).data.toList ((s[0].toNat:Int)).toNat.toUInt8)=false:=(z6i s[0]).trans hone
 generalize Lib.indexByte (⟨#[40,41,44,46,60,61,47,124,42,43,63,94]⟩:ByteArray).data.toList ((s[0].toNat:Int)).toNat.toUInt8=ix at HI ei
 clear hsm hgr hs h35 hdg h45 hd1 p0 p1 p2 p3 hone;go_enter Tryz.func97,Tryz.ntmps97
 go_wp2_with (first|(go_at_call 123;refine(HS.out _).mono ?_;rintro e w' ⟨rfl,⟨nd1,rfl⟩⟩)|(go_at_call 126;refine(HG.out _).mono ?_;rintro e w' ⟨rfl,⟨nd2,rfl⟩⟩)|(go_at_call 128;(with_reducible refine(HD.out _).mono ?_);rintro e w' ⟨rfl,⟨nd3,rfl⟩⟩)|(go_at_call 128;(with_reducible refine(HD1.out _).mono ?_);rintro e w' ⟨rfl,⟨nd7,rfl⟩⟩)|(go_at_call 130;(with_reducible refine(HP0.out _).mono ?_);rintro e w' ⟨rfl,⟨np0,rfl⟩⟩)|(go_at_call 130;(with_reducible refine(HP1.out _).mono ?_);rintro e w' ⟨rfl,⟨np1,rfl⟩⟩)|(go_at_call 130;(with_reducible refine(HP2.out _).mono ?_);rintro e w' ⟨rfl,⟨np2,rfl⟩⟩)|(go_at_call 130;(with_reducible refine(HP3.out _).mono ?_);rintro e w' ⟨rfl,⟨np3,rfl⟩⟩)|(go_at_call 96;refine(HI.out _).mono ?_;rintro e w' ⟨rfl,rfl⟩))
 exact⟨rfl,rfl,z19 w _ _⟩

theorem zdh {s:ByteArray} (h:1<s.size):∃r,s.data.toList.drop 1=s[1]::r:=by
 refine⟨s.data.toList.drop 2,?_⟩;have h':1<s.data.toList.length:=by rw[z0i];exact h
 rw[List.drop_eq_getElem_cons h',z5d s 1 h]
set_option maxRecDepth 100000 in
theorem next_any (s:ByteArray) (hs:s.size≤140737488355328) (a:Int) (w:World) (hLW:LaidW w) (hp:0<s.size) :
 Calls Tryz.prog 97 #[.string s,.int .i64 a] w fun e w'=>NextR s a (nextN nmL vlL s.data.toList) e∧Below w.heap.size w w':=by
 obtain⟨r,hr⟩:=z7y hp;have hd:s.data.toList.drop 1=r:=by rw[hr];rfl
 have key:nextN nmL vlL s.data.toList=(if z1a s[0]then(if nmL (s.data.toList.take (runN lowB s.data.toList))then some (1,runN lowB s.data.toList)else none)else if z1f s[0]then(if runN signB s.data.toList≤40 then some (2,runN signB s.data.toList)else none)else if valB s[0] (s.data.toList.drop 1)then(if vlL (s.data.toList.take (1+runN signB (s.data.toList.drop 1)))then some (3,1+runN signB (s.data.toList.drop 1))else none)else if twoB s.data.toList then some (4,2)else if oneB s[0]then some (4,1)else none):=by
  rw[hd,hr];rfl
 rw[key]
 cases hsm:z1a s[0]with
 |true =>
  rw[if_pos rfl,zjn]
  cases hN:nameB (s.extract 0 (runN lowB s.data.toList))with
  |true=>rw[if_pos rfl];exact za6 s hs a w hp _ hsm rfl hN
  |false=>rw[if_neg (by simp)];exact z9a s hs a w hp _ hsm rfl hN
 |false =>
  rw[if_neg (by simp)]
  cases hgr:z1f s[0]with
  |true =>
   rw[if_pos rfl];have hvar:varL (s.data.toList.take (runN signB s.data.toList))=decide (runN signB s.data.toList≤40):=by
    have h1:signB s[0]=true:=zhy hgr;have h2:=zee signB s.data.toList;have h3:runN signB s.data.toList=runN signB r+1:=by rw[hr];simp only[runN,h1,if_true]
    have h4:(s.data.toList.take (runN signB s.data.toList)).length=runN signB s.data.toList:=by rw[List.length_take];have:=z48 signB s.data.toList;omega
    have h5:s.data.toList.take (runN signB s.data.toList)=s[0]::r.take (runN signB r):=by rw[h3,hr,List.take_succ_cons]
    rw[h5]at h2 h4 ⊢;simp only[varL];rw[h4,h2,hgr]
    simp
   by_cases h40:runN signB s.data.toList≤40
   · rw[if_pos h40];exact z9v s hs a w hp _ hsm hgr rfl (by rw[hvar];exact decide_eq_true h40)
   · rw[if_neg h40];exact z9c s hs a w hp _ hsm hgr rfl (by rw[hvar];exact decide_eq_false h40)
  |false =>
   rw[if_neg (by simp)];have hvl:vlL (s.data.toList.take (1+runN signB (s.data.toList.drop 1)))=((readR (s.extract 0 (1+runN signB (s.data.toList.drop 1)))).2.2.2==0):=by unfold vlL;rw[z98]
   cases hv:valB s[0] (s.data.toList.drop 1)with
   |true =>
    rw[if_pos rfl,hvl];have hway:s[0]=35∨(s[0]≠35∧z16 s[0]=true)∨(s[0]=45∧∃h:1<s.size,z16 s[1]=true):=by
     unfold valB at hv;simp only[Bool.or_eq_true,Bool.and_eq_true,beq_iff_eq]at hv
     by_cases h35:s[0]=35
     · exact .inl h35
     · rcases hv with (h|h)|⟨h,h1⟩
       · exact absurd h h35
       · exact .inr (.inl ⟨h35,h⟩)
       · refine .inr (.inr ⟨h,?_⟩)
         by_cases hz:1<s.size
         · obtain⟨r2,hr2⟩:=zdh hz;rw[hr2]at h1;exact⟨hz,h1⟩
         · have:s.data.toList.drop 1=[]:=List.drop_eq_nil_of_le (by rw[z0i];omega);rw[this]at h1
           cases h1
    by_cases hR:(readR (s.extract 0 (1+runN signB (s.data.toList.drop 1)))).2.2.2=0
    · rw[if_pos (beq_iff_eq.2 hR)];rcases hway with h|⟨h,h'⟩|⟨h,h',h''⟩
      · exact zd1 s hs a w hp _ hLW hsm hgr h rfl hR
      · exact zct s hs a w hp _ hLW hsm hgr h h' rfl hR
      · exact zcn s hs a w hp _ hLW hsm hgr h h' h'' rfl hR
    · rw[if_neg (fun h=>hR (beq_iff_eq.1 h))];rcases hway with h|⟨h,h'⟩|⟨h,h',h''⟩
      · exact zds s hs a w hp _ hLW hsm hgr h rfl hR
      · exact zcq s hs a w hp _ hLW hsm hgr h h' rfl hR
      · exact zbx s hs a w hp _ hLW hsm hgr h h' h'' rfl hR
   |false =>
    rw[if_neg (by simp)];unfold valB at hv;simp only[Bool.or_eq_false_iff,beq_eq_false_iff_ne]at hv;obtain⟨⟨h35,hdg⟩,hm⟩:=hv;have hway:s[0]≠45∨(s[0]=45∧s.size≤1)∨(s[0]=45∧∃h:1<s.size,z16 s[1]=false):=by
     by_cases h45:s[0]=45
     · by_cases hz:1<s.size
       · obtain⟨r2,hr2⟩:=zdh hz;rw[hr2,h45]at hm;simp only[beq_self_eq_true,Bool.true_and]at hm;exact .inr (.inr ⟨h45,hz,hm⟩)
       · exact .inr (.inl ⟨h45,by omega⟩)
     · exact .inl h45
    have hshort:s.size≤1→∀p:List UInt8,p.length=2→(s.data.toList.take 2==p)=false:=fun hz p hp2=>by
     rw[beq_eq_false_iff_ne];intro e;have:=congrArg List.length e;rw[List.length_take,z0i,hp2]at this;omega
    have htwo:twoB s.data.toList=(s.data.toList.take 2==[60,61]||s.data.toList.take 2==[33,61]||s.data.toList.take 2==[58,45]||s.data.toList.take 2==[63,45]):=rfl
    cases p0:(s.data.toList.take 2==[60,61])with
    |true =>
     rw[htwo,p0];simp only[Bool.true_or,if_true];rcases hway with h|⟨h,h'⟩|⟨h,h',h''⟩
     · exact zek s hs a w hp hsm hgr h35 hdg h p0
     · rw[hshort h' _ rfl]at p0;cases p0
     · exact zf5 s hs a w hp hsm hgr h35 hdg h h' h'' p0
    |false =>
     cases p1:(s.data.toList.take 2==[33,61])with
     |true =>
      rw[htwo,p0,p1];simp only[Bool.false_or,Bool.true_or,if_true];rcases hway with h|⟨h,h'⟩|⟨h,h',h''⟩
      · exact zda s hs a w hp hsm hgr h35 hdg h p0 p1
      · rw[hshort h' _ rfl]at p1;cases p1
      · exact zeu s hs a w hp hsm hgr h35 hdg h h' h'' p0 p1
     |false =>
      cases p2:(s.data.toList.take 2==[58,45])with
      |true =>
       rw[htwo,p0,p1,p2];simp only[Bool.false_or,Bool.true_or,if_true];rcases hway with h|⟨h,h'⟩|⟨h,h',h''⟩
       · exact zdj s hs a w hp hsm hgr h35 hdg h p0 p1 p2
       · rw[hshort h' _ rfl]at p2;cases p2
       · exact zfg s hs a w hp hsm hgr h35 hdg h h' h'' p0 p1 p2
      |false =>
       cases p3:(s.data.toList.take 2==[63,45])with
       |true =>
        rw[htwo,p0,p1,p2,p3];simp only[Bool.false_or,if_true];rcases hway with h|⟨h,h'⟩|⟨h,h',h''⟩
        · exact zd8 s hs a w hp hsm hgr h35 hdg h p0 p1 p2 p3
        · rw[hshort h' _ rfl]at p3;cases p3
        · exact zey s hs a w hp hsm hgr h35 hdg h h' h'' p0 p1 p2 p3
       |false =>
        rw[htwo,p0,p1,p2,p3];simp only[Bool.false_or,Bool.false_eq_true,if_false]
        cases hone:oneB s[0]with
        |true =>
         rw[if_pos rfl];rcases hway with h|⟨h,h'⟩|⟨h,h',h''⟩
         · exact zdv s hs a w hp hsm hgr h35 hdg h p0 p1 p2 p3 hone
         · exact zeb s hs a w hp hsm hgr h35 hdg h h' p0 p1 p2 p3 hone
         · exact zfb s hs a w hp hsm hgr h35 hdg h h' h'' p0 p1 p2 p3 hone
        |false =>
         rw[if_neg (by simp)];rcases hway with h|⟨h,h'⟩|⟨h,h',h''⟩
         · exact zd3 s hs a w hp hsm hgr h35 hdg h p0 p1 p2 p3 hone
         · exact zdw s hs a w hp hsm hgr h35 hdg h h' p0 p1 p2 p3 hone
         · exact zex s hs a w hp hsm hgr h35 hdg h h' h'' p0 p1 p2 p3 hone
theorem zf7 (c:UInt8):decide ((0:Int)≤Lib.indexByte (⟨#[32,9,10]⟩:ByteArray).data.toList ((c.toNat:Int)).toNat.toUInt8)=z2x c:=by
 have e:((c.toNat:Int)).toNat.toUInt8=c:=by
  rw[Int.toNat_natCast];apply UInt8.toNat_inj.1;show(UInt8.ofNat c.toNat).toNat=c.toNat;rw[UInt8.toNat_ofNat'];have:=c.toNat_lt;omega
 rw[e,(zdc _ c).1];unfold z2x;simp only[List.contains_cons,List.contains_nil,Bool.or_false,Bool.or_assoc]
set_option maxHeartbeats 1600000 in
set_option maxRecDepth 100000 in
theorem zhs (g0 g1 g2:Nat) (x:Int) (older:List PanicEntry) (w:World) (v0 v1 v2:Value) (h0:w.heap[g0]?=some (.cells #[v0] 105 (0,0))) (h1:w.heap[g1]?=some (.cells #[v1] 3 (0,0))) (h2:w.heap[g2]?=some (.cells #[v2] 40 (0,0))) (hn1:g1≠g0) (hn2:g2≠g0) (hn3:g2≠g1) :
 CallsD Tryz.prog 95 #[.pointer (some ⟨g0,0,none⟩),.pointer (some ⟨g1,0,none⟩),.pointer (some ⟨g2,0,none⟩)] (.panicking ({ v:=.iface 134 (.int .i64 x),recovered:=false }::older)) w fun e u' w' =>
  e=.returned (.tuple #[])∧u'=.panicking ({ v:=.iface 134 (.int .i64 x),recovered:=true }::older)∧w'=((w.setCell ⟨g0,0,none⟩ (.slice none 0 0)).setCell ⟨g1,0,none⟩ (.int .i64 x)).setCell ⟨g2,0,none⟩ (.int .i64 2):=by
 have c0:w.cell? ⟨g0,0,none⟩=some v0:=(z01 h0 0).trans rfl;have c1:w.cell? ⟨g1,0,none⟩=some v1:=(z01 h1 0).trans rfl;have c2:w.cell? ⟨g2,0,none⟩=some v2:=(z01 h2 0).trans rfl;have f0:=z02 h0 0;have f1:=z02 h1 0;have f2:=z02 h2 0;have hta:∀(x:Int) (w:World),(Instr.typeAssert (.iface 134 (.int .i64 x)) 20 134 true).run Tryz.prog w=.ok (.tuple #[.int .i64 x,.bool true]) w:=fun _ _=>by kernel_rfl
 refine callsD_of_wpS Tryz.func95 rfl fun c₀ cs hu=>?_
 apply wpS_seq;apply wpS_region
 simp[wpOpsS,go_sem,recoverD,hu,Tryz.ntmps95,Exit.thenS,hta]
 apply wpS_seq;apply wpS_region
 simp[wpOpsS,go_sem,recoverD,hu,Tryz.ntmps95,Exit.thenS,Array.replicate]
 refine wpS_cond (t:=true) (by simp[Act.eval,Array.replicate]) ?_;simp only[if_true];have k1:∀u,(w.setCell ⟨g0,0,none⟩ u).cell? ⟨g1,0,none⟩=some v1:=fun u=>(zcr (p:=⟨g0,0,none⟩) (a:=⟨g1,0,none⟩) hn1 u).trans c1
 have k2:∀u u',((w.setCell ⟨g0,0,none⟩ u).setCell ⟨g1,0,none⟩ u').cell? ⟨g2,0,none⟩=some v2:=fun u u'=>(zcr (p:=⟨g1,0,none⟩) (a:=⟨g2,0,none⟩) hn3 u').trans ((zcr (p:=⟨g0,0,none⟩) (a:=⟨g2,0,none⟩) hn2 u).trans c2)
 apply wpS_region
 simp[wpOpsS,go_sem,Array.replicate,bodyPostS,results,Tryz.results95,c0,f0,k1,f1,k2,f2]
theorem tok_idle (p0 p1 p2:Value) (w:World) :
 CallsD Tryz.prog 95 #[p0,p1,p2] .returning w fun e u' w'=>e=.returned (.tuple #[])∧u'=.returning∧w'=w:=by
 have hta:∀(w:World),(Instr.typeAssert .nilIface 20 134 true).run Tryz.prog w=.ok (.tuple #[.int .i64 0,.bool false]) w:=fun _=>by kernel_rfl
 refine callsD_of_wpS Tryz.func95 rfl fun c₀ cs hu=>?_
 apply wpS_seq;apply wpS_region
 simp[wpOpsS,go_sem,recoverD,hu,Tryz.ntmps95,Exit.thenS,hta]
 apply wpS_seq;apply wpS_region
 simp[wpOpsS,go_sem,recoverD,hu,Tryz.ntmps95,Exit.thenS,Array.replicate]
 refine wpS_cond (t:=false) (by simp[Act.eval,Array.replicate]) ?_;simp only[Bool.false_eq_true,if_false];refine wpS_of_wp (wp_skip ?_)
 cases c₀
 simp_all [bodyPostS,results,Tryz.results95]
def tokS (s:ByteArray) (x:Nat × Nat × Nat):S108:=⟨x.1,(s.extract x.2.1 s.size).extract 0 x.2.2,x.2.1⟩
def z7s (s:ByteArray):List S108 × Int × Int:=match tokN nmL vlL 0 s.data.toList with
 |.error i=>([],(i:Int),2)
 |.ok l=>(l.map (tokS s),0,0)
def z4f.f (a0:ByteArray):Option (List S108 × Int × Int) :=
 if a0.size≤140737488351232 then(if 20000<a0.size then some ([],0,4)else some (z7s a0))else none
def TokR (s:ByteArray) (w:World) (e:Ending) (w':World):Prop:=∃v l a b,z7s s=(l,a,b)∧e=.returned (.tuple #[v,.int .i64 a,.int .i64 b])∧Kd.R k108 108 w' w.heap.size (fun _=>True) v l∧Below w.heap.size w w'
def z6f (l:List UInt8) (j:Nat) (pre:List (Nat × Nat × Nat)):Prop:=tokN nmL vlL 0 l=match tokN nmL vlL j (l.drop j)with
 |.error i=>.error i
 |.ok r=>.ok (pre++r)
theorem zkk (l:List UInt8):z6f l 0 []:=by
 unfold z6f;rw[List.drop_zero]
 cases tokN nmL vlL 0 l <;> rfl
theorem zjd {l:List UInt8} {j:Nat} {pre:List (Nat × Nat × Nat)} (h:z6f l j pre) (hj:j<l.length) (hb:z2x l[j]=true):z6f l (j+1) pre:=by
 unfold z6f at h ⊢;rw[h,List.drop_eq_getElem_cons hj,z9p nmL vlL j _ _ hb]
theorem inv_more {l:List UInt8} {j:Nat} {pre:List (Nat × Nat × Nat)} (h:z6f l j pre) (hj:j<l.length) (hb:z2x l[j]=false) (k n:Nat) (hn:nextN nmL vlL (l.drop j)=some (k,n)):z6f l (j+n) (pre++[(k,j,n)]):=by
 unfold z6f at h ⊢;rw[List.drop_eq_getElem_cons hj]at hn h;rw[zci nmL vlL j _ _ hb k n hn]at h;rw[h,←List.drop_eq_getElem_cons hj,List.drop_drop]
 cases tokN nmL vlL (j+n) (l.drop (j+n))with
 |error i=>rfl
 |ok r=>simp
theorem zk3 {l:List UInt8} {j:Nat} {pre:List (Nat × Nat × Nat)} (h:z6f l j pre) (hj:j<l.length) (hb:z2x l[j]=false) (hn:nextN nmL vlL (l.drop j)=none):tokN nmL vlL 0 l=.error j:=by
 unfold z6f at h;rw[List.drop_eq_getElem_cons hj]at hn h;rw[z9o nmL vlL j _ _ hb hn]at h;exact h
theorem inv_end {l:List UInt8} {j:Nat} {pre:List (Nat × Nat × Nat)} (h:z6f l j pre) (hj:l.length≤j):tokN nmL vlL 0 l=.ok pre:=by
 unfold z6f at h;rw[List.drop_eq_nil_of_le hj,zaf]at h
 simpa using h
theorem infoTok:(Tryz.prog.info? 108).map (fun i=>(i.zero,i.size,i.bytes))=some (some (.agg #[.int .i64 0,.string ⟨#[]⟩,.int .i64 0]),3,32):=by kernel_rfl
theorem z6a (w:World) (o0 o1 o2:Obj):(((w.alloc o0).alloc o1).alloc o2).heap[w.heap.size]?=some o0∧(((w.alloc o0).alloc o1).alloc o2).heap[w.heap.size+1]?=some o1∧(((w.alloc o0).alloc o1).alloc o2).heap[w.heap.size+2]?=some o2:=by
 have z1:(w.alloc o0).heap.size=w.heap.size+1:=by simp
 have z2:((w.alloc o0).alloc o1).heap.size=w.heap.size+2:=by simp
 refine⟨z0c (z0c (z0q w o0) _) _,?_,?_⟩
 · have:=z0q (w.alloc o0) o1;rw[z1]at this;exact z0c this _
 · have:=z0q ((w.alloc o0).alloc o1) o2
   rwa [z2]at this
theorem zae (w:World) (o0 o1 o2:Obj):Below w.heap.size w (((w.alloc o0).alloc o1).alloc o2):=z03 (z03 (z03 (Below.refl _ _) _) _) _
structure TokW (w wr:World) (s:ByteArray) (j:Nat) (pre:List (Nat × Nat × Nat)) (A:Option Addr) (c:Nat):Prop where
 inv:z6f s.data.toList j pre
 len:pre.length≤j
 b0:wr.heap[w.heap.size]?=some (.cells #[.slice A pre.length c] 105 (0,0))
 b1:wr.heap[w.heap.size+1]?=some (.cells #[.int .i64 0] 3 (0,0))
 b2:wr.heap[w.heap.size+1+1]?=some (.cells #[.int .i64 0] 40 (0,0))
 own:Kd.R k108 108 wr w.heap.size (fun k=>w.heap.size+3≤k) (.slice A pre.length c) (pre.map (tokS s))
 bel:Below w.heap.size w wr
theorem zh3 (w:World) (s:ByteArray):TokW w (((w.alloc (.cells #[.slice none 0 0] 105)).alloc (.cells #[.int .i64 0] 3)).alloc (.cells #[.int .i64 0] 40)) s 0 [] none 0 :=
 ⟨zkk _,Nat.le_refl _,(z6a w _ _ _).1,(z6a w _ _ _).2.1,(z6a w _ _ _).2.2,Kd.R_nil _ _ _ _ _,zae w _ _ _⟩
theorem TokW.blank {w wr:World} {s:ByteArray} {j:Nat} {pre:List (Nat × Nat × Nat)} {A:Option Addr} {c:Nat} (h:TokW w wr s j pre A c) (hj:j<s.data.toList.length) (hb:z2x s.data.toList[j]=true):TokW w wr s (j+1) pre A c :=
 ⟨zjd h.inv hj hb,Nat.le_succ_of_le h.len,h.b0,h.b1,h.b2,h.own,h.bel⟩
theorem TokW.more {w wr w1 w2:World} {s:ByteArray} {j:Nat} {pre:List (Nat × Nat × Nat)} {A:Option Addr} {c:Nat} (h:TokW w wr s j pre A c) (hj:j<s.data.toList.length) (hb:z2x s.data.toList[j]=false) (k:Nat) (t:ByteArray) (ht:t=(s.extract j s.size).extract 0 t.size) (ht0:1≤t.size) (hn:nextN nmL vlL (s.data.toList.drop j)=some (k,t.size))
 (hb1:Below wr.heap.size wr w1) {v1:Value} (ho:Kd.R k108 108 w2 w.heap.size (fun k=>w.heap.size+3≤k) v1 (pre.map (tokS s)++[⟨k,t,j⟩])) (hb2:Below w.heap.size w w2) {o:Obj} (hg:(w1.alloc o).grownBy w2 (Value.slice A pre.length c).ownBlock) :
 w2.heap[w.heap.size]?=some (.cells #[.slice A pre.length c] 105 (0,0))∧w2.heap[w1.heap.size]?=some o∧∃A' c',v1=.slice A' (pre.length+1) c'∧TokW w (w2.setCell ⟨w.heap.size,0,none⟩ (.slice A' (pre.length+1) c')) s (j+t.size) (pre++[(k,j,t.size)]) A' c':=by
 obtain⟨A',c',e⟩:=Kd.R_slice ho;have e2:v1=.slice A' (pre.length+1) c':=by rw[e];congr 1;simp
 subst e2;have hne:∀i,i<3→some (w.heap.size+i)≠(Value.slice A pre.length c).ownBlock:=fun i hi he=>by
  have:=h.own.1 _ he.symm;omega
 have keep:∀i o',i<3→wr.heap[w.heap.size+i]?=some o'→w2.heap[w.heap.size+i]?=some o':=fun i o' hi ho'=>z3b (z0c (z0b ho' hb1) _) hg (hne i hi)
 have k0:=keep 0 _ (by omega) h.b0;have k1:=keep 1 _ (by omega) h.b1;have k2:=keep 2 _ (by omega) h.b2;have kb:w2.heap[w1.heap.size]?=some o:=z3b (z0q w1 o) hg (fun he=>by
  have h1:=Kd.R_lt h.own _ he.symm;have h2:=hb1.size;omega)
 refine⟨k0,kb,A',c',rfl,inv_more h.inv hj hb k t.size hn,by have:=h.len;simp;omega,?_,?_,?_,?_,z06 hb2 (Nat.le_refl _)⟩
 · have:=z0x (cs':=#[.slice A' (pre.length+1) c']) k0 0 (.slice A' (pre.length+1) c') rfl
   simpa using this
 · exact z11 k1 (by show w.heap.size+1≠w.heap.size;omega) _
 · exact z11 k2 (by show w.heap.size+1+1≠w.heap.size;omega) _
 · have e3:(pre++[(k,j,t.size)]).map (tokS s)=pre.map (tokS s)++[⟨k,t,j⟩]:=by
    rw[List.map_append]
    congr 1
    simp only[List.map_cons,List.map_nil,tokS];rw[←ht]
   rw[e3,List.length_append];exact Kd.R_far (p:=⟨w.heap.size,0,none⟩) ho (fun k hk=>by show k≠w.heap.size;omega) _
theorem TokW.ends {w wr:World} {s:ByteArray} {j:Nat} {pre:List (Nat × Nat × Nat)} {A:Option Addr} {c:Nat} (h:TokW w wr s j pre A c) (hj:s.size≤j):TokR s w (.returned (.tuple #[.slice A pre.length c,.int .i64 0,.int .i64 0])) (((wr.setCell ⟨w.heap.size,0,none⟩ (.slice A pre.length c)).setCell ⟨w.heap.size+1,0,none⟩ (.int .i64 0)).setCell ⟨w.heap.size+1+1,0,none⟩ (.int .i64 0)):=by
 refine⟨_,pre.map (tokS s),0,0,?_,rfl,?_,?_⟩
 · unfold z7s;rw[inv_end h.inv (by rw[z0i];exact hj)]
 · have h1:=Kd.R_far (p:=⟨w.heap.size,0,none⟩) h.own (fun k hk=>by show k≠w.heap.size;omega) (.slice A pre.length c);have h2:=Kd.R_far (p:=⟨w.heap.size+1,0,none⟩) h1 (fun k hk=>by show k≠w.heap.size+1;omega) (.int .i64 0);exact Kd.R_mono (Kd.R_far (p:=⟨w.heap.size+1+1,0,none⟩) h2 (fun k hk=>by show k≠w.heap.size+1+1;omega) (.int .i64 0)) (fun _ _=>trivial)
 · exact z06 (z06 (z06 h.bel (Nat.le_refl _)) (by omega)) (by omega)
theorem TokW.wrong {w wr w1:World} {s:ByteArray} {j:Nat} {pre:List (Nat × Nat × Nat)} {A:Option Addr} {c:Nat} (h:TokW w wr s j pre A c) (hj:j<s.data.toList.length) (hb:z2x s.data.toList[j]=false) (hn:nextN nmL vlL (s.data.toList.drop j)=none) (hb1:Below wr.heap.size wr w1) :
 TokR s w (.returned (.tuple #[.slice none 0 0,.int .i64 j,.int .i64 2])) (((w1.setCell ⟨w.heap.size,0,none⟩ (.slice none 0 0)).setCell ⟨w.heap.size+1,0,none⟩ (.int .i64 j)).setCell ⟨w.heap.size+1+1,0,none⟩ (.int .i64 2)):=by
 refine⟨_,[],_,_,?_,rfl,Kd.R_nil _ _ _ _ _,?_⟩
 · unfold z7s;rw[zk3 h.inv hj hb hn]
 · exact z06 (z06 (z06 (z0g h.bel hb1) (Nat.le_refl _)) (by omega)) (by omega)
set_option maxRecDepth 100000 in
theorem z7w {W:World} {g0 g1 g2:Nat} {tmps:Array Value} (t0:tmps.getD 2 undef=.pointer (some ⟨g0,0,none⟩)) (t1:tmps.getD 3 undef=.pointer (some ⟨g1,0,none⟩)) (t2:tmps.getD 4 undef=.pointer (some ⟨g2,0,none⟩))
 {A:Option Addr} {n c:Nat} {a b:Int} (c0:W.cell? ⟨g0,0,none⟩=some (.slice A n c)) (c1:W.cell? ⟨g1,0,none⟩=some (.int .i64 a)) (c2:W.cell? ⟨g2,0,none⟩=some (.int .i64 b)) :
 (results Tryz.f63 tmps).run Tryz.prog W=.ok (.tuple #[.slice A n c,.int .i64 a,.int .i64 b]) W:=by
 simp only[Array.getD_eq_getD_getElem?]at t0 t1 t2
 simp[results,Tryz.results63,go_sem,t0,t1,t2,c0,c1,c2]
theorem ze0 {W:World} {g:Nat} {x0 x1 x2:Value} (b0:W.heap[g]?=some (.cells #[x0] 105 (0,0))) (b1:W.heap[g+1]?=some (.cells #[x1] 3 (0,0))) (b2:W.heap[g+1+1]?=some (.cells #[x2] 40 (0,0))) (y0 y1 y2:Value) :
 (((W.setCell ⟨g,0,none⟩ y0).setCell ⟨g+1,0,none⟩ y1).setCell ⟨g+1+1,0,none⟩ y2).cell? ⟨g,0,none⟩=some y0∧(((W.setCell ⟨g,0,none⟩ y0).setCell ⟨g+1,0,none⟩ y1).setCell ⟨g+1+1,0,none⟩ y2).cell? ⟨g+1,0,none⟩=some y1∧(((W.setCell ⟨g,0,none⟩ y0).setCell ⟨g+1,0,none⟩ y1).setCell ⟨g+1+1,0,none⟩ y2).cell? ⟨g+1+1,0,none⟩=some y2:=by
 have k0:=z0x (cs':=#[y0]) b0 0 y0 rfl;have k0':=z11 (z11 k0 (p:=⟨g+1,0,none⟩) (by show g≠g+1;omega) y1) (p:=⟨g+1+1,0,none⟩) (by show g≠g+1+1;omega) y2;have k1:=z0x (cs':=#[y1]) (z11 b1 (p:=⟨g,0,none⟩) (by show g+1≠g;omega) y0) 0 y1 rfl;have k1':=z11 k1 (p:=⟨g+1+1,0,none⟩) (by show g+1≠g+1+1;omega) y2;have k2:=z0x (cs':=#[y2]) (z11 (z11 b2 (p:=⟨g,0,none⟩) (by show g+1+1≠g;omega) y0) (p:=⟨g+1,0,none⟩) (by show g+1+1≠g+1;omega) y1) 0 y2 rfl;exact⟨(z01 k0' 0).trans rfl,(z01 k1' 0).trans rfl,(z01 k2 0).trans rfl⟩
set_option maxHeartbeats 3200000 in
set_option maxRecDepth 100000 in
theorem zi0 (s:ByteArray) (hs:s.size≤20000) (w:World) (hLW:LaidW w) :
 Calls Tryz.prog 63 #[.string s] w (TokR s w):=by
 have hmf:∀(fn:Fn) (first cap:Array Value) (w:World),(Instr.makeFunc fn first cap).run Tryz.prog w=.ok (.func fn first cap) w:=fun _ _ _ _=>rfl
 have e0:decide ((20000:Int)<(s.size:Int))=false:=decide_eq_false (by omega);have HLW:=z00.mk hLW;have H0:=z00.mk (zh3 w s);clear hLW
 go_enter_defers Tryz.func63,Tryz.ntmps63
 go_wp2
 go_loopw [5] (fun s5 wr=>∃(j:Nat) (pre:List (Nat × Nat × Nat)) (A:Option Addr) (c:Nat),j≤s.size∧s5=.int .i64 j∧z00 (TokW w wr s j pre A c)) (fun s5 _=>s.size - (intOf s5).toNat)
 case atStart=>exact⟨0,[],none,0,Nat.zero_le _,rfl,H0⟩
 case round =>
  clear H0;obtain⟨j,pre,A,c,hj,rfl,HT⟩:=hrel
  by_cases hlt:j<s.size
  · have hltz:decide ((j:Int)<(s.size:Int))=true:=decide_eq_true (by omega);have HX:=z00.mk (fun W=>Tryz.strings_IndexByte ⟨#[32,9,10]⟩ (s[j].toNat:Int) W);have hbi:=zf7 s[j];have hjl:j<s.data.toList.length:=by rw[z0i];exact hlt
    have hgl:s.data.toList[j]=s[j]:=z5d s j hlt hjl
    generalize Lib.indexByte (⟨#[32,9,10]⟩:ByteArray).data.toList ((s[j].toNat:Int)).toNat.toUInt8=ix at HX hbi
    cases hb:z2x s[j]with
    |true =>
     rw[hb]at hbi;have HT1:=z00.mk (HT.out.blank hjl (by rw[hgl];exact hb));clear hb hgl hjl
     go_wp2_with (go_at_call 96;refine(HX.out _).mono ?_;rintro e w' ⟨rfl,rfl⟩)
     go_roundw
     case rel=>exact⟨j+1,pre,A,c,by omega,by go_num,HT1⟩
     case measure=>simp[intOf];omega
    |false =>
     rw[hb]at hbi;have hbl:z2x s.data.toList[j]=false:=by rw[hgl];exact hb
     have HN:=z00.mk (fun W (h:LaidW W)=>next_any (s.extract j s.size) zA0f (j:Int) W h zA0f);rw[z3p]at HN;have HL:=z00.mk (HLW.out.below HT.out.bel)
     cases hn:nextN nmL vlL (s.data.toList.drop j)with
     |none =>
      rw[hn]at HN;have HW:=z00.mk (fun(w1:World) hb1=>HT.out.wrong (w1:=w1) hjl hbl hn hb1);have HK:=z00.mk (And.intro HT.out.b0 (And.intro HT.out.b1 HT.out.b2));clear hn hb hbl hgl hjl
      go_wp2_with (go_at_call 96;refine(HX.out _).mono ?_;rintro e w' ⟨rfl,rfl⟩)
      refine(HN.out _ HL.out).mono ?_;rintro e w1 ⟨he,hb1⟩;obtain rfl:=he;have HR:=z00.mk (HW.out w1 hb1);refine leaves_cons (f:=95) (args:=#[.pointer (some ⟨w.heap.size,0,none⟩),.pointer (some ⟨w.heap.size+1,0,none⟩),.pointer (some ⟨w.heap.size+1+1,0,none⟩)]) (by simp) (by simp[go_sem]) ?_;refine(zhs w.heap.size (w.heap.size+1) (w.heap.size+1+1) (j:Int) [] _ _ _ _ (z0b HK.out.1 hb1) (z0b HK.out.2.1 hb1) (z0b HK.out.2.2 hb1) (by omega) (by omega) (by omega)).mono ?_;rintro e u' w'' ⟨rfl,rfl,rfl⟩;have h3:=ze0 (z0b HK.out.1 hb1) (z0b HK.out.2.1 hb1) (z0b HK.out.2.2 hb1) (.slice none 0 0) (.int .i64 j) (.int .i64 2);exact⟨_,z7w rfl rfl rfl h3.1 h3.2.1 h3.2.2,HR.out⟩
     |some y =>
      obtain⟨k,n⟩:=y;have hp:=z67 hn;rw[List.length_drop,z0i]at hp;rw[hn]at HN;have hN2:∀W,LaidW W→Calls Tryz.prog 97 #[.string (s.extract j s.size),.int .i64 j] W fun e w'=>e=.returned (.agg #[.int .i64 k,.string ((s.extract j s.size).extract 0 n),.int .i64 j])∧Below W.heap.size W w':=HN.out
      have hsz:((s.extract j s.size).extract 0 n).size=n:=by rw[ByteArray.size_extract,ByteArray.size_extract];omega
      generalize ht:(s.extract j s.size).extract 0 n=t at hN2 hsz
      subst hsz;have HW:=z00.mk (fun(w1 w2:World) hb1 v1 ho hb2 o hg=>HT.out.more (w1:=w1) (w2:=w2) hjl hbl k t ht.symm hp.1 hn hb1 (v1:=v1) ho hb2 (o:=o) hg);have hjt:j+t.size≤s.size:=by omega
      have ht0:1≤t.size:=hp.1;have HN2:=z00.mk hN2;have HTL:=z00.mk HT.out.len;clear hN2 HN hp ht hn hb hbl hgl hjl
      go_wp2_with (go_at_call 96;refine(HX.out _).mono ?_;rintro e w' ⟨rfl,rfl⟩)
      refine(HN2.out _ HL.out).mono ?_;rintro e w1 ⟨rfl,hb1⟩;have HB1:=z00.mk hb1;have hz1:w.heap.size+1+1<w1.heap.size:=Nat.lt_of_lt_of_le (z26 HT.out.b2) hb1.size;have hz0:w.heap.size<w1.heap.size:=by omega
      have hc0:w1.cell? ⟨w.heap.size,0,none⟩=some (.slice A pre.length c):=(z01 (z0b HT.out.b0 hb1) 0).trans rfl;have hf0:=z02 (z0b HT.out.b0 hb1) 0;have HO1:=z00.mk (Kd.R_alloc (Kd.R_below HT.out.own hb1) (.cells #[.int .i64 k,.string t,.int .i64 j] 108));have HB2:=z00.mk (z03 (z0g HT.out.bel hb1) (.cells #[.int .i64 k,.string t,.int .i64 j] 108));clear hb1
      go_wp2_with ((with_reducible refine z1p (b:=.append) (xs:=#[.tmp 27,.tmp 29]) rfl ?_);at_builtin;refine Kd.R_append k108 (w0:=w) w.heap.size rfl (.tmp 27) (.tmp 29) 105 108 (.agg #[.int .i64 0,.string ⟨#[]⟩,.int .i64 0]) 32 rfl Tryz.underlying105 infoTok rfl (by decide) (by decide) (.slice A pre.length c) (pre.map (tokS s)) ⟨k,t,j⟩ [.int .i64 k,.string t,.int .i64 j] (fun k=>w.heap.size+3≤k) (fun _=>False) rfl zA0i (k108_mkM _ _ _ _) (fun _ hk=>hk.elim) (fun k hk=>by simp at hk;omega) HO1.out HB2.out HB2.out.size (by rw[List.length_map];have:=HTL.out;omega) ?_;intro v1 w2 ho hb hg hat;obtain⟨hk0,hkb,A',c',rfl,hT⟩:=HW.out w1 w2 HB1.out v1 ho hb _ hg;have HT2:=z00.mk hT;have hd0:w2.cell? ⟨w.heap.size,0,none⟩=some (.slice A pre.length c):=(z01 hk0 0).trans rfl;have hdf:=z02 hk0 0;have hd1:w2.cell? ⟨w1.heap.size,1,none⟩=some (.string t):=(z01 hkb 1).trans rfl;have hne:w1.heap.size≠w.heap.size:=(by omega);clear ho hb hg hat hk0 hkb hT)
      go_roundw
      case rel=>exact⟨j+t.size,pre++[(k,j,t.size)],A',c',by omega,by go_num,HT2⟩
      case measure=>simp[intOf];omega
  · have hltz:decide ((j:Int)<(s.size:Int))=false:=decide_eq_false (by omega);have HW:=z00.mk (HT.out.ends (by omega));have hc0:wr.cell? ⟨w.heap.size,0,none⟩=some (.slice A pre.length c):=(z01 HT.out.b0 0).trans rfl;have hf0:=z02 HT.out.b0 0;have hf1:=z02 HT.out.b1 0;have hf2:=z02 HT.out.b2 0;have hc1:wr.cell? ⟨w.heap.size+1,0,none⟩=some (.int .i64 0):=(z01 HT.out.b1 0).trans rfl;have hc2:wr.cell? ⟨w.heap.size+1+1,0,none⟩=some (.int .i64 0):=(z01 HT.out.b2 0).trans rfl;have hz:=z26 HT.out.b2;go_wp2;refine leaves_cons (f:=95) (args:=#[.pointer (some ⟨w.heap.size,0,none⟩),.pointer (some ⟨w.heap.size+1,0,none⟩),.pointer (some ⟨w.heap.size+1+1,0,none⟩)]) (by simp) (by simp[go_sem]) ?_;refine(tok_idle _ _ _ _).mono ?_;rintro e u' w'' ⟨rfl,rfl,rfl⟩;have h3:=ze0 HT.out.b0 HT.out.b1 HT.out.b2 (.slice A pre.length c) (.int .i64 0) (.int .i64 0);exact⟨_,z7w rfl rfl rfl h3.1 h3.2.1 h3.2.2,HW.out⟩
set_option maxHeartbeats 1600000 in
set_option maxRecDepth 100000 in
theorem zfk (s:ByteArray) (hs:20000<s.size) (w:World) :
 Calls Tryz.prog 63 #[.string s] w fun e w'=>e=.returned (.tuple #[.slice none 0 0,.int .i64 0,.int .i64 4])∧Below w.heap.size w w':=by
 have e0:decide ((20000:Int)<(s.size:Int))=true:=decide_eq_true (by omega);have H3:=z00.mk (z6a w (.cells #[.slice none 0 0] 105) (.cells #[.int .i64 0] 3) (.cells #[.int .i64 4] 40));have HB3:=z00.mk (zae w (.cells #[.slice none 0 0] 105) (.cells #[.int .i64 0] 3) (.cells #[.int .i64 4] 40));clear hs
 go_enter_defers Tryz.func63,Tryz.ntmps63
 go_wp2;exact⟨_,z7w rfl rfl rfl ((z01 H3.out.1 0).trans rfl) ((z01 H3.out.2.1 0).trans rfl) ((z01 H3.out.2.2 0).trans rfl),rfl,HB3.out⟩
theorem z4f.calls (a0:ByteArray) (r1:List S108) (r2:Int) (r3:Int) (w:World) (hLW:LaidW w) (h:z4f.f a0=some (r1,r2,r3)) :
 Calls Tryz.prog 63 #[.string a0] w fun e w'=>∃v0_:Value,e=.returned (.tuple #[v0_,.int .i64 r2,.int .i64 r3])∧Kd.R k108 108 w' w.heap.size (fun _=>True) v0_ r1∧Below w.heap.size w w':=by
 unfold z4f.f at h
 split at h
 · split at h
   · rename_i hl;injection h with h;injection h with e1 h;injection h with e2 e3
     subst e1;subst e2;subst e3;refine(zfk a0 hl w).mono ?_;rintro e w' ⟨rfl,hb⟩;exact⟨_,rfl,Kd.R_nil _ _ _ _ _,hb⟩
   · rename_i hl;injection h with h
     refine(zi0 a0 (by omega) w hLW).mono ?_;rintro e w' ⟨v,l,a,b,he,rfl,hr,hb⟩;rw[h]at he;injection he with e1 he;injection he with e2 e3
     subst e1;subst e2;subst e3;exact⟨v,rfl,hr,hb⟩
 · cases h
end Go.Proofs.YthebhbomlllpeaaGreatDoor.X
