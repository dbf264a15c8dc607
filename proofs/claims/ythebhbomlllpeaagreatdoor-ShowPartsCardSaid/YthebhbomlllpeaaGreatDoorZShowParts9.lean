/-
  ShowParts: what the proof needs, put together by a program of this session (shake.py), part 9.
-/
import Derived.Test.YthebhbomlllpeaaGreatDoorZShowParts8
set_option linter.unusedVariables false
set_option linter.unusedSimpArgs false
namespace Go.Proofs.YthebhbomlllpeaaGreatDoor.X
open Go.RowKit Go.Proofs.YthebhbomlllpeaaGreatDoorW.PrintWords Go.Proofs.YthebhbomlllpeaaGreatDoorW.PrintLast Go.Proofs.YthebhbomlllpeaaGreatDoorW.PrintMore
attribute [local go_sem high] eqA60
theorem zih (p q:ByteArray) (l:List TmS) (hl:l.length≤1000):∀(d i k:Nat),l.length - i=d→i≤l.length→d<k→z0d.l0 k (l.length:Int) (i:Int) p l q l=some true:=by
 intro d
 induction d with
 |zero =>
  intro i k hd hi hk;obtain⟨k,rfl⟩:∃j,k=j+1:=⟨k - 1,by omega⟩
  simp only[z0d.l0];rw[if_neg (by omega)]
 |succ d ih =>
  intro i k hd hi hk;obtain⟨k,rfl⟩:∃j,k=j+1:=⟨k - 1,by omega⟩
  simp only[z0d.l0];rw[if_pos (by omega),if_pos (by omega),if_pos (by omega),if_pos (by omega),if_neg (by simp),show wrap64 ((i:Int)+1)=((i+1:Nat):Int) by unfold wrap64;omega];exact ih (i+1) k (by omega) (by omega) (by omega)
theorem z9t (p:ByteArray) (l:List TmS) (hl:l.length≤1000):z0d.f 1100 p l p l=some true:=by
 unfold z0d.f;rw[if_pos rfl,show((l.length:Int) !=(l.length:Int))=false from bne_self_eq_false _];simp only[z0d.j0,Bool.false_eq_true,if_false];exact zih p p l hl _ 0 _ rfl (Nat.zero_le _) (by omega)
theorem zim (l:List StS) (hl:l.length≤100):∀(d i k:Nat),l.length - i=d→i≤l.length→d<k→z0l.l0 k l l (l.length:Int) (i:Int)=some true:=by
 intro d
 induction d with
 |zero =>
  intro i k hd hi hk;obtain⟨k,rfl⟩:∃j,k=j+1:=⟨k - 1,by omega⟩
  simp only[z0l.l0];rw[if_neg (by omega)]
 |succ d ih =>
  intro i k hd hi hk;obtain⟨k,rfl⟩:∃j,k=j+1:=⟨k - 1,by omega⟩
  simp only[z0l.l0];rw[if_pos (by omega),if_pos (by omega),if_pos (by omega),if_pos (by omega),if_neg (by simp),show wrap64 ((i:Int)+1)=((i+1:Nat):Int) by unfold wrap64;omega];exact ih (i+1) k (by omega) (by omega) (by omega)
theorem zfi (l:List StS) (hl:l.length≤100):z0l.f 200 l l=some true:=by
 unfold z0l.f;rw[if_pos rfl];exact zim l hl _ 0 200 rfl (Nat.zero_le _) (by omega)
def sr9.T:Bool × List (List Nat × List Nat):=(true,[([],[]),([0],[0]),([],[]),([1,2],[1,2]),([3],[3]),([],[]),([5],[5]),([],[]),([6,7],[6,7]),([8],[8]),([],[]),([],[]),([10,4,0,1,2,3,4,10,11],[4,10]),([11,9,12,0,1,2,3,4,5,6,7,8,9,10,11,12],[9,11])])
def sr9.B:List Nat:=[0,1,0,7,15,0,32,0,224,480,0,0,3103,8191]
theorem sr9.tab:rtab .any (opsOf Tryz.f41 6)=sr9.T:=by kernel_rfl
theorem sr9.bits:z3y sr9.T.2 sr9.B=true:=by kernel_rfl
def sm9.T:Bool × List (List Nat × List Nat):=(true,[([],[]),([0],[0]),([],[]),([1,2],[1,2]),([3],[3]),([],[]),([5],[5]),([],[]),([6,7],[6,7]),([8],[8]),([4,9],[4,9]),([10],[10])])
def sm9.B:List Nat:=[0,1,0,7,15,0,32,0,224,480,1023,2047]
set_option maxHeartbeats 16000000 in
set_option maxRecDepth 100000 in
theorem zan (x:RlS) (hok:SameOk x) (X1 X3 X1' X3':Option Addr) (x1 x3 x1' x3':Nat) (l1:x.f0.f1.length≤x1) (l1':x.f0.f1.length≤x1') (w:World)
 (hA1:Kd.C k60 w X1 x.f0.f1.length x.f0.f1) (hA3:Kd.C k62 w X3 x.f2.length x.f2) (hB1:Kd.C k60 w X1' x.f0.f1.length x.f0.f1) (hB3:Kd.C k62 w X3' x.f2.length x.f2) :
 Calls Tryz.prog 41 #[.agg #[.string x.f0.f0,.slice X1 x.f0.f1.length x1,.int .i64 x.f1,.slice X3 x.f2.length x3],.agg #[.string x.f0.f0,.slice X1' x.f0.f1.length x1',.int .i64 x.f1,.slice X3' x.f2.length x3']] w fun e w'=>e=.returned (.bool true)∧Below w.heap.size w w':=by
 obtain⟨n2,en2⟩:∃n,w.heap.size=n:=⟨_,rfl⟩
 obtain⟨W1,hW1⟩:∃W,w.alloc (.cells #[.string x.f0.f0,.slice X1 x.f0.f1.length x1,.int .i64 x.f1,.slice X3 x.f2.length x3] 33)=W:=⟨_,rfl⟩
 obtain⟨W,hW⟩:∃W,W1.alloc (.cells #[.string x.f0.f0,.slice X1' x.f0.f1.length x1',.int .i64 x.f1,.slice X3' x.f2.length x3'] 33)=W:=⟨_,rfl⟩
 have hsz:W1.heap.size=n2+1:=by rw[←hW1];simp[en2]
 have hBW1:Below w.heap.size w W1:=hW1 ▸ z03 (Below.refl _ _) _;have hBW:Below w.heap.size w W:=hW ▸ z03 hBW1 _;have hN2:=z0q w (.cells #[.string x.f0.f0,.slice X1 x.f0.f1.length x1,.int .i64 x.f1,.slice X3 x.f2.length x3] 33);rw[en2,hW1]at hN2;have hN2:=z0c hN2 (.cells #[.string x.f0.f0,.slice X1' x.f0.f1.length x1',.int .i64 x.f1,.slice X3' x.f2.length x3'] 33);have hN3:=z0q W1 (.cells #[.string x.f0.f0,.slice X1' x.f0.f1.length x1',.int .i64 x.f1,.slice X3' x.f2.length x3'] 33);rw[hW]at hN2 hN3;rw[hsz]at hN3;have HN:=z00.mk (And.intro hN2 hN3);have HX:=z00.mk (And.intro hok (And.intro (Kd.C_below hA3 hBW) (Kd.C_below hB3 hBW)));have HBW:=z00.mk hBW;have HAT0:=z00.mk (z0d.calls 1100 x.f0.f0 X1 x1 x.f0.f1 x.f0.f0 X1' x1' x.f0.f1 true W (Kd.C_below hA1 hBW) l1 (Kd.C_below hB1 hBW) l1' (z9t _ _ hok.1));have u0:W.cell? ⟨n2,0,none⟩=some (.string x.f0.f0):=(z01 hN2 0).trans rfl;have u1:W.cell? ⟨n2,1,none⟩=some (.slice X1 x.f0.f1.length x1):=(z01 hN2 1).trans rfl;have u2:W.cell? ⟨n2,2,none⟩=some (.int .i64 x.f1):=(z01 hN2 2).trans rfl;have u3:W.cell? ⟨n2,3,none⟩=some (.slice X3 x.f2.length x3):=(z01 hN2 3).trans rfl;have v0:W.cell? ⟨n2+1,0,none⟩=some (.string x.f0.f0):=(z01 hN3 0).trans rfl;have v1:W.cell? ⟨n2+1,1,none⟩=some (.slice X1' x.f0.f1.length x1'):=(z01 hN3 1).trans rfl;have v2:W.cell? ⟨n2+1,2,none⟩=some (.int .i64 x.f1):=(z01 hN3 2).trans rfl;have v3:W.cell? ⟨n2+1,3,none⟩=some (.slice X3' x.f2.length x3'):=(z01 hN3 3).trans rfl;have z1:(x.f1 !=x.f1)=false:=bne_self_eq_false _;have z2:((x.f2.length:Int) !=(x.f2.length:Int))=false:=bne_self_eq_false _;clear hA1 hB1 hA3 hB3 hBW hBW1 hN2 hN3 hok;go_enter Tryz.func41,Tryz.ntmps41
 go_wp2_with fail
 refine HAT0.out.mono ?_;rintro e w1 ⟨rfl,hb⟩;have HB1:=z00.mk hb;replace u3:=z07 hb u3;replace v3:=z07 hb v3;clear hb u0 u1 u2 v0 v1 v2 hW hW1 hsz;go_wp2
 go_loopg [33] (x.f2.length+1) (fun kq v33 w'=>∃j:Nat,v33=.int .i64 j∧kq+j=x.f2.length+1∧j≤x.f2.length∧z00 (Below W.heap.size W w'))
 case atStart=>exact⟨0,rfl,by omega,by omega,HB1⟩
 case round =>
  clear HB1 u3 v3;obtain⟨j,rfl,hkj,hij,HB⟩:=hrel
  by_cases hlj:j<x.f2.length
  · have y3:decide ((j:Int)<(x.f2.length:Int))=true:=decide_eq_true (by omega);have y4:decide (j<x.f2.length)=true:=decide_eq_true hlj;obtain⟨k1,rfl⟩:∃k1,gk=k1+1:=⟨gk - 1,by omega⟩
    have p2:(0≤(j:Int))=True:=eq_true (by omega);have p3:((j:Int)<(x.f2.length:Int))=True:=eq_true (by omega);obtain⟨lb,lo,csA,rfl,hlA,hKA,rA⟩:=ze2 HX.out.2.1 z62 (by decide) j hlj;obtain⟨mb,mo,csB,rfl,hlB,hKB,rB⟩:=ze2 HX.out.2.2 z62 (by decide) j hlj;obtain⟨Y2,y2,Y16,y16,eA,l2,m2,l16,m16⟩:=z9l hKA;obtain⟨Y2',y2',Y16',y16',eB,l2',m2',l16',m16'⟩:=z9l hKB;have hr:x.f2.getD j z62=x.f2[j]:=by
     rw[List.getD_eq_getElem?_getD,List.getElem?_eq_getElem hlj];rfl
    have hOK:=HX.out.1.2.2 x.f2[j] (List.getElem_mem hlj);obtain⟨y,hy⟩:∃y,x.f2[j]=y:=⟨_,rfl⟩
    simp only[hr,hy]at eA l2 m2 l16 m16 eB l2' m2' l16' m16';rw[hy]at hOK;have h1A:csA.toArray.all (·.oneCell')=true:=by rw[eA];simp[Value.oneCell']
    have h1B:csB.toArray.all (·.oneCell')=true:=by rw[eB];simp[Value.oneCell']
    have HE:=z00.mk (And.intro eA eB);have HAT2:=z00.mk (fun(V:World) (h:Below W.heap.size W V)=>z0d.calls 1100 y.f1.f0 Y2 y2 y.f1.f1 y.f1.f0 Y2' y2' y.f1.f1 true V (Kd.C_below m2 h) l2 (Kd.C_below m2' h) l2' (z9t _ _ hOK.1));have HPA2:=z00.mk (fun(V:World) (h:Below W.heap.size W V)=>z0l.calls 200 Y16 y16 y.f6 Y16' y16' y.f6 true V (Kd.C_below m16 h) l16 (Kd.C_below m16' h) l16' (zfi _ hOK.2));have fP:=z07 HB.out ((z01 HN.out.1 3).trans rfl:W.cell? ⟨n2,3,none⟩=some (.slice (some ⟨lb,lo,none⟩) x.f2.length x3));have fQ:=z07 HB.out ((z01 HN.out.2 3).trans rfl:W.cell? ⟨n2+1,3,none⟩=some (.slice (some ⟨mb,mo,none⟩) x.f2.length x3'));replace rA:wr.rangeAt lb (lo+j * 17) csA:=fun k v hv=>z07 HB.out (rA k v hv)
    replace rB:wr.rangeAt mb (mo+j * 17) csB:=fun k v hv=>z07 HB.out (rB k v hv)
    have hlA:csA.length=17:=hlA;have hlB:csB.length=17:=hlB;clear hr hy eA eB hKA hKB l2 m2 l16 m16 l2' m2' l16' m16' hOK
    go_wp2_with fail
    refine z68 (n:=14) (S:=fun w'=>Below wr.heap.size wr w') (ds:=[]) #[false,false,false,false,false,false,false,false,false,false,false,false,false,false] (by kernel_rfl) rfl rfl (z05 (Below.refl _ _)) (fun hHeld=>?_);refine z39 sr9.tab sr9.bits (fun HT_ HW_=>?_)
    generalize wr.drew=V at hHeld ⊢
    refine pure_ (i:=0) (N:=some 36) (v:=?_) (a':=?_) #[true,false,false,false,false,false,false,false,false,false,false,false,false,false] rfl rfl (z0r HT_.out (by kernel_rfl)) (fun _ _ _ h=>h) (Or.inl ⟨by rfl,?_⟩) ?_ ?_
    rotate_left
    · intro w'
      go_simp
      with_reducible rfl
    rotate_left
    · simp only[Act.put,List.setIfInBounds_toArray,List.set_cons_zero,List.set_cons_succ,i64_w,i32_w];rfl
    refine pure_ (i:=2) (N:=some 38) (v:=?_) (a':=?_) #[true,false,true,false,false,false,false,false,false,false,false,false,false,false] rfl rfl (z0r HT_.out (by kernel_rfl)) (fun _ _ _ h=>h) (Or.inl ⟨by rfl,?_⟩) ?_ ?_
    rotate_left
    · intro w'
      go_simp
      with_reducible rfl
    rotate_left
    · simp only[Act.put,List.setIfInBounds_toArray,List.set_cons_zero,List.set_cons_succ,i64_w,i32_w];rfl
    refine pure_ (i:=5) (N:=some 41) (v:=?_) (a':=?_) #[true,false,true,false,false,true,false,false,false,false,false,false,false,false] rfl rfl (z0r HT_.out (by kernel_rfl)) (fun _ _ _ h=>h) (Or.inl ⟨by rfl,?_⟩) ?_ ?_
    rotate_left
    · intro w'
      go_simp
      with_reducible rfl
    rotate_left
    · simp only[Act.put,List.setIfInBounds_toArray,List.set_cons_zero,List.set_cons_succ,i64_w,i32_w];rfl
    refine pure_ (i:=7) (N:=some 43) (v:=?_) (a':=?_) #[true,false,true,false,false,true,false,true,false,false,false,false,false,false] rfl rfl (z0r HT_.out (by kernel_rfl)) (fun _ _ _ h=>h) (Or.inl ⟨by rfl,?_⟩) ?_ ?_
    rotate_left
    · intro w'
      go_simp
      with_reducible rfl
    rotate_left
    · simp only[Act.put,List.setIfInBounds_toArray,List.set_cons_zero,List.set_cons_succ,i64_w,i32_w];rfl
    refine take_ (i:=1) (N:=some 37) (v:=?_) (a':=?_) #[true,true,true,false,false,true,false,true,false,false,false,false,false,false] rfl rfl (z1j HT_.out HW_.out (by kernel_rfl)) (fun _ _ _ h=>h) (Or.inl ⟨by rfl,?_⟩) hHeld ?_ ?_
    rotate_left
    · intro w' sS;have f0:=z07 sS fP;clear sS
      go_simp
      with_reducible rfl
    rotate_left
    · simp only[Act.put,List.setIfInBounds_toArray,List.set_cons_zero,List.set_cons_succ,i64_w,i32_w];rfl
    refine pure_ (i:=3) (N:=some 39) (v:=?_) (a':=?_) #[true,true,true,true,false,true,false,true,false,false,false,false,false,false] rfl rfl (z0r HT_.out (by kernel_rfl)) (fun _ _ _ h=>h) (Or.inl ⟨by rfl,?_⟩) ?_ ?_
    rotate_left
    · intro w'
      go_simp
      with_reducible rfl
    rotate_left
    · simp only[Act.put,List.setIfInBounds_toArray,List.set_cons_zero,List.set_cons_succ,i64_w,i32_w];rfl
    refine take_ (i:=4) (N:=some 40) (v:=.agg csA.toArray) (a':=?_) #[true,true,true,true,true,true,false,true,false,false,false,false,false,false] rfl rfl (z1j HT_.out HW_.out (by kernel_rfl)) (fun _ _ _ h=>h) (by exact yieldsIf_load_mid (by rfl) 62 (.tmp 39) rfl _ _ rfl csA _ (fun w' sS k v hv=>z07 sS (rA k v hv)) Tryz.underlying62 rfl (by rw[hlA];kernel_rfl)) hHeld ?_ ?_
    rotate_left
    · simp only[Act.put,List.setIfInBounds_toArray,List.set_cons_zero,List.set_cons_succ,i64_w,i32_w];rfl
    refine take_ (i:=6) (N:=some 42) (v:=?_) (a':=?_) #[true,true,true,true,true,true,true,true,false,false,false,false,false,false] rfl rfl (z1j HT_.out HW_.out (by kernel_rfl)) (fun _ _ _ h=>h) (Or.inl ⟨by rfl,?_⟩) hHeld ?_ ?_
    rotate_left
    · intro w' sS;have f0:=z07 sS fQ;clear sS
      go_simp
      with_reducible rfl
    rotate_left
    · simp only[Act.put,List.setIfInBounds_toArray,List.set_cons_zero,List.set_cons_succ,i64_w,i32_w];rfl
    refine pure_ (i:=8) (N:=some 44) (v:=?_) (a':=?_) #[true,true,true,true,true,true,true,true,true,false,false,false,false,false] rfl rfl (z0r HT_.out (by kernel_rfl)) (fun _ _ _ h=>h) (Or.inl ⟨by rfl,?_⟩) ?_ ?_
    rotate_left
    · intro w'
      go_simp
      with_reducible rfl
    rotate_left
    · simp only[Act.put,List.setIfInBounds_toArray,List.set_cons_zero,List.set_cons_succ,i64_w,i32_w];rfl
    refine take_ (i:=9) (N:=some 45) (v:=.agg csB.toArray) (a':=?_) #[true,true,true,true,true,true,true,true,true,true,false,false,false,false] rfl rfl (z1j HT_.out HW_.out (by kernel_rfl)) (fun _ _ _ h=>h) (by exact yieldsIf_load_mid (by rfl) 62 (.tmp 44) rfl _ _ rfl csB _ (fun w' sS k v hv=>z07 sS (rB k v hv)) Tryz.underlying62 rfl (by rw[hlB];kernel_rfl)) hHeld ?_ ?_
    rotate_left
    · simp only[Act.put,List.setIfInBounds_toArray,List.set_cons_zero,List.set_cons_succ,i64_w,i32_w];rfl
    refine join_ (σ:=Nat × Nat) 2 #[true,true,true,true,true,true,true,true,true,true,true,true,false,false] (fun s_=>[(6,.pointer (some ⟨s_.1,0,none⟩)),(7,.pointer (some ⟨s_.2,0,none⟩))]) (fun s_ w'=>Below wr.heap.size wr w'∧w'.heap[s_.1]?=some (.cells #[.int .i64 0,.string ⟨#[]⟩,.slice none 0 0,.string ⟨#[]⟩,.string ⟨#[]⟩,.int .i64 0,.int .i64 0,.string ⟨#[]⟩,.string ⟨#[]⟩,.int .i64 0,.int .i64 0,.string ⟨#[]⟩,.string ⟨#[]⟩,.int .i64 0,.int .i64 0,.string ⟨#[]⟩,.slice none 0 0] 62 (0,0))∧w'.heap[s_.2]?=some (.cells #[.int .i64 0,.string ⟨#[]⟩,.slice none 0 0,.string ⟨#[]⟩,.string ⟨#[]⟩,.int .i64 0,.int .i64 0,.string ⟨#[]⟩,.string ⟨#[]⟩,.int .i64 0,.int .i64 0,.string ⟨#[]⟩,.string ⟨#[]⟩,.int .i64 0,.int .i64 0,.string ⟨#[]⟩,.slice none 0 0] 62 (0,0))∧wr.heap.size≤s_.1∧wr.heap.size≤s_.2∧s_.1≠s_.2) ?_ ?_
    rotate_left
    · intro hCont;refine two_ (i:=10) (j:=11) (Ni:=some 6) (Nj:=some 7) #[true,true,true,true,true,true,true,true,true,true,true,false,false,false] #[true,true,true,true,true,true,true,true,true,true,false,true,false,false] rfl rfl rfl rfl (two_of HT_.out (by kernel_rfl)) (by decide) (by decide) (fun K hK=>?_) (fun K hK=>?_)
      · refine z9k ?hg (N:=6) ?hd (cs:=#[.int .i64 0,.string ⟨#[]⟩,.slice none 0 0,.string ⟨#[]⟩,.string ⟨#[]⟩,.int .i64 0,.int .i64 0,.string ⟨#[]⟩,.string ⟨#[]⟩,.int .i64 0,.int .i64 0,.string ⟨#[]⟩,.string ⟨#[]⟩,.int .i64 0,.int .i64 0,.string ⟨#[]⟩,.slice none 0 0]) (t:=62) ?hr ?_;(case hd=>rfl);(case hg=>rfl);(case hr=>first|(go_simp;done)|(go_simp;rfl));intro x hx w1 hbx hb1;have hB1:=z0g hHeld hb1;have hgx:wr.heap.size≤x:=by rw[hx];exact hHeld.size
        refine hK.out _ _ hB1 (fun hHeld=>?_);clear hK K;refine norm_ (a':=?_) ?_ ?_
        rotate_left
        · show Act.put _ (some 6) _=_;simp only[Act.put,List.setIfInBounds_toArray,List.set_cons_zero,List.set_cons_succ,i64_w,i32_w];rfl
        refine one_ (i:=11) (N:=some 7) #[true,true,true,true,true,true,true,true,true,true,true,true,false,false] rfl rfl (z2a HT_.out (by kernel_rfl)) (by decide) (fun K hK=>?_);refine z9k ?hg (N:=7) ?hd (cs:=#[.int .i64 0,.string ⟨#[]⟩,.slice none 0 0,.string ⟨#[]⟩,.string ⟨#[]⟩,.int .i64 0,.int .i64 0,.string ⟨#[]⟩,.string ⟨#[]⟩,.int .i64 0,.int .i64 0,.string ⟨#[]⟩,.string ⟨#[]⟩,.int .i64 0,.int .i64 0,.string ⟨#[]⟩,.slice none 0 0]) (t:=62) ?hr ?_;(case hd=>rfl);(case hg=>rfl);(case hr=>first|(go_simp;done)|(go_simp;rfl));intro y hy w2 hby hb2;have hB2:=z0g hHeld hb2;have hgy:wr.heap.size≤y:=by rw[hy];exact hHeld.size
        have hne:x≠y:=by rw[hy];exact Nat.ne_of_lt (z26 hbx)
        have hbx2:=z0b hbx hb2;refine hK.out _ _ hB2 (fun hHeld=>?_);clear hK K;refine norm_ (a':=?_) ?_ ?_
        rotate_left
        · show Act.put _ (some 7) _=_;simp only[Act.put,List.setIfInBounds_toArray,List.set_cons_zero,List.set_cons_succ,i64_w,i32_w];rfl
        exact norm_ (by simp only[zbl,Act.put,List.setIfInBounds_toArray,List.set_cons_zero,List.set_cons_succ]) (hCont (x,y) _ ⟨hHeld,hbx2,hby,hgx,hgy,hne⟩)
      · refine z9k ?hg (N:=7) ?hd (cs:=#[.int .i64 0,.string ⟨#[]⟩,.slice none 0 0,.string ⟨#[]⟩,.string ⟨#[]⟩,.int .i64 0,.int .i64 0,.string ⟨#[]⟩,.string ⟨#[]⟩,.int .i64 0,.int .i64 0,.string ⟨#[]⟩,.string ⟨#[]⟩,.int .i64 0,.int .i64 0,.string ⟨#[]⟩,.slice none 0 0]) (t:=62) ?hr ?_;(case hd=>rfl);(case hg=>rfl);(case hr=>first|(go_simp;done)|(go_simp;rfl));intro x hx w1 hbx hb1;have hB1:=z0g hHeld hb1;have hgx:wr.heap.size≤x:=by rw[hx];exact hHeld.size
        refine hK.out _ _ hB1 (fun hHeld=>?_);clear hK K;refine norm_ (a':=?_) ?_ ?_
        rotate_left
        · show Act.put _ (some 7) _=_;simp only[Act.put,List.setIfInBounds_toArray,List.set_cons_zero,List.set_cons_succ,i64_w,i32_w];rfl
        refine one_ (i:=10) (N:=some 6) #[true,true,true,true,true,true,true,true,true,true,true,true,false,false] rfl rfl (z2a HT_.out (by kernel_rfl)) (by decide) (fun K hK=>?_);refine z9k ?hg (N:=6) ?hd (cs:=#[.int .i64 0,.string ⟨#[]⟩,.slice none 0 0,.string ⟨#[]⟩,.string ⟨#[]⟩,.int .i64 0,.int .i64 0,.string ⟨#[]⟩,.string ⟨#[]⟩,.int .i64 0,.int .i64 0,.string ⟨#[]⟩,.string ⟨#[]⟩,.int .i64 0,.int .i64 0,.string ⟨#[]⟩,.slice none 0 0]) (t:=62) ?hr ?_;(case hd=>rfl);(case hg=>rfl);(case hr=>first|(go_simp;done)|(go_simp;rfl));intro y hy w2 hby hb2;have hB2:=z0g hHeld hb2;have hgy:wr.heap.size≤y:=by rw[hy];exact hHeld.size
        have hne:x≠y:=by rw[hy];exact Nat.ne_of_lt (z26 hbx)
        have hbx2:=z0b hbx hb2;refine hK.out _ _ hB2 (fun hHeld=>?_);clear hK K;refine norm_ (a':=?_) ?_ ?_
        rotate_left
        · show Act.put _ (some 6) _=_;simp only[Act.put,List.setIfInBounds_toArray,List.set_cons_zero,List.set_cons_succ,i64_w,i32_w];rfl
        exact norm_ (by simp only[zbl,Act.put,List.setIfInBounds_toArray,List.set_cons_zero,List.set_cons_succ]) (hCont (y,x) _ ⟨hHeld,hby,hbx2,hgy,hgx,hne.symm⟩)
    rintro⟨g9,g10⟩ V2 ⟨hHeld,hb6,hb7,hg6,hg7,hne⟩;simp only at hb6 hb7 hg6 hg7 hne;refine norm_ (a':=?_) ?_ ?_
    rotate_left
    · simp only[zbl,Act.put,List.setIfInBounds_toArray,List.set_cons_zero,List.set_cons_succ];rfl
    refine one_ (i:=12) (N:=none) #[true,true,true,true,true,true,true,true,true,true,true,true,true,false] rfl rfl (z2a HT_.out (by kernel_rfl)) (by decide) (fun K hK=>?_);have hth:V2.there g9 0 csA.toArray.size:=z4u hb6 (by rw[List.size_toArray,hlA];decide);rw[if_pos (by rfl)];refine wp_store_mid 62 (.tmp 6) (.tmp 40) rfl g9 0 csA.toArray rfl rfl hth (by rw[List.size_toArray,hlA];kernel_rfl) h1A ?_;rw[show csA.toArray.toList=csA from rfl,z2p];have hS:=z2u (n:=g9) hg6 csA 0 _ hHeld;have hb6':=z34 csA 0 V2 #[.int .i64 0,.string ⟨#[]⟩,.slice none 0 0,.string ⟨#[]⟩,.string ⟨#[]⟩,.int .i64 0,.int .i64 0,.string ⟨#[]⟩,.string ⟨#[]⟩,.int .i64 0,.int .i64 0,.string ⟨#[]⟩,.string ⟨#[]⟩,.int .i64 0,.int .i64 0,.string ⟨#[]⟩,.slice none 0 0] hb6;have hb7':=z2q hne.symm csA 0 V2 hb7;rw[z8d (by rw[hlA];rfl)]at hb6';refine hK.out _ _ hS (fun hHeld=>?_);clear hK K hS hth;refine norm_ (a':=?_) ?_ ?_
    rotate_left
    · show Act.put _ none _=_;rfl
    generalize sets V2 g9 0 csA=V3 at hHeld hb6' hb7' ⊢
    clear hb6 hb7;refine one_ (i:=13) (N:=none) #[true,true,true,true,true,true,true,true,true,true,true,true,true,true] rfl rfl (z2a HT_.out (by kernel_rfl)) (by decide) (fun K hK=>?_);have hth:V3.there g10 0 csB.toArray.size:=z4u hb7' (by rw[List.size_toArray,hlB];decide);rw[if_pos (by rfl)];refine wp_store_mid 62 (.tmp 7) (.tmp 45) rfl g10 0 csB.toArray rfl rfl hth (by rw[List.size_toArray,hlB];kernel_rfl) h1B ?_;rw[show csB.toArray.toList=csB from rfl,z2p];have hS:=z2u (n:=g10) hg7 csB 0 _ hHeld;have hb7'':=z34 csB 0 V3 #[.int .i64 0,.string ⟨#[]⟩,.slice none 0 0,.string ⟨#[]⟩,.string ⟨#[]⟩,.int .i64 0,.int .i64 0,.string ⟨#[]⟩,.string ⟨#[]⟩,.int .i64 0,.int .i64 0,.string ⟨#[]⟩,.string ⟨#[]⟩,.int .i64 0,.int .i64 0,.string ⟨#[]⟩,.slice none 0 0] hb7';have hb6'':=z2q hne csB 0 V3 hb6';rw[z8d (by rw[hlB];rfl)]at hb7'';refine hK.out _ _ hS (fun hHeld=>?_);clear hK K hS hth;refine norm_ (a':=?_) ?_ ?_
    rotate_left
    · show Act.put _ none _=_;rfl
    generalize sets V3 g10 0 csB=V6 at hHeld hb6'' hb7'' ⊢
    clear hb6' hb7';refine done_ (z4w HT_.out (by kernel_rfl)) ?_;have HBV6:=z00.mk (z09 HB.out HB.out.size hHeld);have HG6:=z00.mk (show V6.heap[g9]?=some (.cells #[.int .i64 y.f0,.string y.f1.f0,.slice Y2 y.f1.f1.length y2,.string y.f2,.string y.f3.f0,.int .i64 y.f3.f1.f0,.int .i64 y.f3.f1.f1,.string y.f3.f1.f2,.string y.f4.f0,.int .i64 y.f4.f1.f0,.int .i64 y.f4.f1.f1,.string y.f4.f1.f2,.string y.f5.f0,.int .i64 y.f5.f1.f0,.int .i64 y.f5.f1.f1,.string y.f5.f1.f2,.slice Y16 y.f6.length y16] 62 (0,0))∧V6.heap[g10]?=some (.cells #[.int .i64 y.f0,.string y.f1.f0,.slice Y2' y.f1.f1.length y2',.string y.f2,.string y.f3.f0,.int .i64 y.f3.f1.f0,.int .i64 y.f3.f1.f1,.string y.f3.f1.f2,.string y.f4.f0,.int .i64 y.f4.f1.f0,.int .i64 y.f4.f1.f1,.string y.f4.f1.f2,.string y.f5.f0,.int .i64 y.f5.f1.f0,.int .i64 y.f5.f1.f1,.string y.f5.f1.f2,.slice Y16' y.f6.length y16'] 62 (0,0)) by rw[hb6'',hb7'',HE.out.1,HE.out.2];exact⟨rfl,rfl⟩);clear hHeld hb6'' hb7'' hg6 hg7 hne rA rB hlA hlB h1A h1B HE fP fQ HT_ HW_ HB;have a0:V6.cell? ⟨g9,0,none⟩=some (.int .i64 y.f0):=(z01 HG6.out.1 0).trans rfl;have a1:V6.cell? ⟨g9,1,none⟩=some (.string y.f1.f0):=(z01 HG6.out.1 1).trans rfl;have a2:V6.cell? ⟨g9,2,none⟩=some (.slice Y2 y.f1.f1.length y2):=(z01 HG6.out.1 2).trans rfl;have a3:V6.cell? ⟨g9,3,none⟩=some (.string y.f2):=(z01 HG6.out.1 3).trans rfl;have a4:V6.cell? ⟨g9,4,none⟩=some (.string y.f3.f0):=(z01 HG6.out.1 4).trans rfl;have a5:V6.cell? ⟨g9,5,none⟩=some (.int .i64 y.f3.f1.f0):=(z01 HG6.out.1 5).trans rfl;have a6:V6.cell? ⟨g9,6,none⟩=some (.int .i64 y.f3.f1.f1):=(z01 HG6.out.1 6).trans rfl;have a7:V6.cell? ⟨g9,7,none⟩=some (.string y.f3.f1.f2):=(z01 HG6.out.1 7).trans rfl;have a8:V6.cell? ⟨g9,8,none⟩=some (.string y.f4.f0):=(z01 HG6.out.1 8).trans rfl;have a9:V6.cell? ⟨g9,9,none⟩=some (.int .i64 y.f4.f1.f0):=(z01 HG6.out.1 9).trans rfl;have a10:V6.cell? ⟨g9,10,none⟩=some (.int .i64 y.f4.f1.f1):=(z01 HG6.out.1 10).trans rfl
    have a11:V6.cell? ⟨g9,11,none⟩=some (.string y.f4.f1.f2):=(z01 HG6.out.1 11).trans rfl;have a12:V6.cell? ⟨g9,12,none⟩=some (.string y.f5.f0):=(z01 HG6.out.1 12).trans rfl;have a13:V6.cell? ⟨g9,13,none⟩=some (.int .i64 y.f5.f1.f0):=(z01 HG6.out.1 13).trans rfl;have a14:V6.cell? ⟨g9,14,none⟩=some (.int .i64 y.f5.f1.f1):=(z01 HG6.out.1 14).trans rfl;have a15:V6.cell? ⟨g9,15,none⟩=some (.string y.f5.f1.f2):=(z01 HG6.out.1 15).trans rfl;have a16:V6.cell? ⟨g9,16,none⟩=some (.slice Y16 y.f6.length y16):=(z01 HG6.out.1 16).trans rfl;have b0:V6.cell? ⟨g10,0,none⟩=some (.int .i64 y.f0):=(z01 HG6.out.2 0).trans rfl;have b1:V6.cell? ⟨g10,1,none⟩=some (.string y.f1.f0):=(z01 HG6.out.2 1).trans rfl;have b2:V6.cell? ⟨g10,2,none⟩=some (.slice Y2' y.f1.f1.length y2'):=(z01 HG6.out.2 2).trans rfl;have b3:V6.cell? ⟨g10,3,none⟩=some (.string y.f2):=(z01 HG6.out.2 3).trans rfl;have b4:V6.cell? ⟨g10,4,none⟩=some (.string y.f3.f0):=(z01 HG6.out.2 4).trans rfl;have b5:V6.cell? ⟨g10,5,none⟩=some (.int .i64 y.f3.f1.f0):=(z01 HG6.out.2 5).trans rfl;have b6:V6.cell? ⟨g10,6,none⟩=some (.int .i64 y.f3.f1.f1):=(z01 HG6.out.2 6).trans rfl;have b7:V6.cell? ⟨g10,7,none⟩=some (.string y.f3.f1.f2):=(z01 HG6.out.2 7).trans rfl;have b8:V6.cell? ⟨g10,8,none⟩=some (.string y.f4.f0):=(z01 HG6.out.2 8).trans rfl;have b9:V6.cell? ⟨g10,9,none⟩=some (.int .i64 y.f4.f1.f0):=(z01 HG6.out.2 9).trans rfl;have b10:V6.cell? ⟨g10,10,none⟩=some (.int .i64 y.f4.f1.f1):=(z01 HG6.out.2 10).trans rfl;have b11:V6.cell? ⟨g10,11,none⟩=some (.string y.f4.f1.f2):=(z01 HG6.out.2 11).trans rfl;have b12:V6.cell? ⟨g10,12,none⟩=some (.string y.f5.f0):=(z01 HG6.out.2 12).trans rfl;have b13:V6.cell? ⟨g10,13,none⟩=some (.int .i64 y.f5.f1.f0):=(z01 HG6.out.2 13).trans rfl;have b14:V6.cell? ⟨g10,14,none⟩=some (.int .i64 y.f5.f1.f1):=(z01 HG6.out.2 14).trans rfl;have b15:V6.cell? ⟨g10,15,none⟩=some (.string y.f5.f1.f2):=(z01 HG6.out.2 15).trans rfl
    have b16:V6.cell? ⟨g10,16,none⟩=some (.slice Y16' y.f6.length y16'):=(z01 HG6.out.2 16).trans rfl;have s1:(y.f0 !=y.f0)=false:=bne_self_eq_false _;have s2:(y.f2.toList !=y.f2.toList)=false:=bne_self_eq_false _
    go_wp2_with fail
    refine(HAT2.out _ HBV6.out).mono ?_;rintro e w8 ⟨rfl,hb⟩;have c16:w8.cell? ⟨g9,16,none⟩=some (.slice Y16 y.f6.length y16):=(z01 (z0b HG6.out.1 hb) 16).trans rfl;have d16:w8.cell? ⟨g10,16,none⟩=some (.slice Y16' y.f6.length y16'):=(z01 (z0b HG6.out.2 hb) 16).trans rfl;have HB8:=z00.mk (z09 HBV6.out HBV6.out.size hb);clear hb s1 s2 a0 a1 a2 a3 a4 a5 a6 a7 a8 a9 a10 a11 a12 a13 a14 a15 a16 b0 b1 b2 b3 b4 b5 b6 b7 b8 b9 b10 b11 b12 b13 b14 b15 b16
    go_wp2_with fail
    refine(HPA2.out _ HB8.out).mono ?_;rintro e w9 ⟨rfl,hd9⟩;have HB9:=z00.mk (z09 HB8.out HB8.out.size hd9.below);have y5:wrap64 ((j:Int)+1)=((j+1:Nat):Int):=by have:=HX.out.1.2.1;unfold wrap64;omega
    clear hd9 c16 d16;go_wp2
    go_roundg k1
    case rel=>exact⟨j+1,by go_num,by omega,by omega,HB9⟩
    case measure=>omega
  · obtain rfl:j=x.f2.length:=by omega
    have y3:decide ((x.f2.length:Int)<(x.f2.length:Int))=false:=decide_eq_false (by omega);have HBo:=z00.mk (z09 HBW.out HBW.out.size HB.out);go_wp2
    go_ret
    exact⟨rfl,HBo.out⟩

def okL (x:LtS):Prop:=okA x.f1∧okT x.f3∧okT x.f4∧okT x.f5∧(∀y ∈ x.f6,y.f1.size≤9223372036854775807)∧x.f6.length≤140737488355328∧x.f2.size≤9223372036854775807
abbrev trm (x:LtS):Nat→TmS
 |0=>x.f3
 |1=>x.f4
 |_=>x.f5
def chkB (x:LtS) (n j:Nat):Bool:=if j<n then !(termL (trm x j)).isEmpty else z5s (trm x j)
theorem zk9 (x:LtS) (n:Nat) (a o p:Bool):restB x n a o p=(chkB x n 0&&(chkB x n 1&&(chkB x n 2&&((a||z81 x.f1)&&((o||(x.f2.toList==([]:List UInt8)))&&(p||(x.f6.length==0))))))):=rfl
theorem rest_no {x:LtS} {n j:Nat} {a o p:Bool} (hj:j<3) (h:chkB x n j=false):restB x n a o p=false:=by
 rw[zk9]
 match j,hj with
 |0,_=>rw[h];rfl
 |1,_=>rw[h];simp
 |2,_=>rw[h];simp
theorem rest_yes {x:LtS} {n:Nat} {a o p:Bool} (h:∀j,j<3→chkB x n j=true):restB x n a o p=((a||z81 x.f1)&&((o||(x.f2.toList==([]:List UInt8)))&&(p||(x.f6.length==0)))):=by
 rw[zk9,h 0 (by decide),h 1 (by decide),h 2 (by decide)]
 simp
theorem zkm (n:Nat):((n:Int)==0)=(n==0):=by rw[Bool.eq_iff_iff,beq_iff_eq,beq_iff_eq];omega
theorem z55 (s:ByteArray):s.toList.isEmpty=(s.toList==([]:List UInt8)):=by cases s.toList <;> rfl
abbrev litC (x:LtS) (A2:Option Addr) (c2:Nat) (A16:Option Addr) (c16:Nat):Array Value:=#[.int .i64 x.f0,.string x.f1.f0,.slice A2 x.f1.f1.length c2,.string x.f2,.string x.f3.f0,.int .i64 x.f3.f1.f0,.int .i64 x.f3.f1.f1,.string x.f3.f1.f2,.string x.f4.f0,.int .i64 x.f4.f1.f0,.int .i64 x.f4.f1.f1,.string x.f4.f1.f2,.string x.f5.f0,.int .i64 x.f5.f1.f0,.int .i64 x.f5.f1.f1,.string x.f5.f1.f2,.slice A16 x.f6.length c16]
set_option maxHeartbeats 4000000 in
set_option maxRecDepth 100000 in
theorem z6l (x:LtS) (A2:Option Addr) (c2:Nat) (A16:Option Addr) (c16:Nat) (n:Nat) (hn:n≤3) (a o p:Bool) (hc:(a=true∧o=false∧p=false)∨(a=false∧o=true∧p=false)∨(a=false∧o=false∧p=true)) (w:World) (hLW:LaidW w) (hx:okL x) :
 Calls Tryz.prog 74 #[.agg (litC x A2 c2 A16 c16),.int .i64 n,.bool a,.bool o,.bool p] w fun e w'=>e=.returned (.bool (restB x n a o p))∧Below w.heap.size w w':=by
 have hB:=z03 (Below.refl w.heap.size w) (.cells (litC x A2 c2 A16 c16) 62);have hN:=z0q w (.cells (litC x A2 c2 A16 c16) 62);obtain⟨nb,enb⟩:∃n,w.heap.size=n:=⟨_,rfl⟩
 rw[enb]at hN;have HB:=z00.mk hB;have HN:=z00.mk hN;have HLW:=z00.mk hLW;have HX:=z00.mk hx;obtain⟨W,hW⟩:∃W,w.alloc (.cells (litC x A2 c2 A16 c16) 62)=W:=⟨_,rfl⟩
 have HT0:=z00.mk (fun V (h:LaidW V)=>z2b x.f3 V h hx.2.1);have HT1:=z00.mk (fun V (h:LaidW V)=>z2b x.f4 V h hx.2.2.1);have HT2:=z00.mk (fun V (h:LaidW V)=>z2b x.f5 V h hx.2.2.2.1);have HRN:=z00.mk (fun j (hj:j<3) (h:chkB x n j=false)=>rest_no (a:=a) (o:=o) (p:=p) hj h);have HRY:=z00.mk (fun(h:∀j,j<3→chkB x n j=true)=>rest_yes (a:=a) (o:=o) (p:=p) h);obtain⟨r,hr⟩:∃r,restB x n a o p=r:=⟨_,rfl⟩
 rw[hr]at HRN HRY ⊢;have HC:=z00.mk hc;clear hB hN hLW hx hr hc;simp only[litC]at HB HN hW ⊢;rw[hW]at HN HB;have HW:=z00.mk hW;have d4:W.cell? ⟨nb,4,none⟩=some (.string x.f3.f0):=(z01 HN.out 4).trans rfl;have d5:W.cell? ⟨nb,5,none⟩=some (.int .i64 x.f3.f1.f0):=(z01 HN.out 5).trans rfl;have d6:W.cell? ⟨nb,6,none⟩=some (.int .i64 x.f3.f1.f1):=(z01 HN.out 6).trans rfl;have d7:W.cell? ⟨nb,7,none⟩=some (.string x.f3.f1.f2):=(z01 HN.out 7).trans rfl;have d8:W.cell? ⟨nb,8,none⟩=some (.string x.f4.f0):=(z01 HN.out 8).trans rfl;have d9:W.cell? ⟨nb,9,none⟩=some (.int .i64 x.f4.f1.f0):=(z01 HN.out 9).trans rfl;have d10:W.cell? ⟨nb,10,none⟩=some (.int .i64 x.f4.f1.f1):=(z01 HN.out 10).trans rfl;have d11:W.cell? ⟨nb,11,none⟩=some (.string x.f4.f1.f2):=(z01 HN.out 11).trans rfl;have d12:W.cell? ⟨nb,12,none⟩=some (.string x.f5.f0):=(z01 HN.out 12).trans rfl;have d13:W.cell? ⟨nb,13,none⟩=some (.int .i64 x.f5.f1.f0):=(z01 HN.out 13).trans rfl;have d14:W.cell? ⟨nb,14,none⟩=some (.int .i64 x.f5.f1.f1):=(z01 HN.out 14).trans rfl;have d15:W.cell? ⟨nb,15,none⟩=some (.string x.f5.f1.f2):=(z01 HN.out 15).trans rfl;go_enter Tryz.func74,Tryz.ntmps74
 go_wp2_with fail
 have HWB:=z00.mk (show Below w.heap.size w W from hW ▸ HB.out);have HLW2:=z00.mk (HLW.out.below HWB.out);have HBR:=z00.mk (Below.refl W.heap.size W);clear HB HLW hW enb d4 d5 d6 d7 d8 d9 d10 d11 d12 d13 d14 d15
 go_loopg [20] 4 (fun kq v20 w'=>∃(i:Nat),v20=.int .i64 i∧kq+i=4∧i≤3∧z00 (∀j,j<i→chkB x n j=true)∧z00 (Below W.heap.size W w'))
 case atStart=>exact⟨0,rfl,rfl,by omega,⟨fun j hj=>by omega⟩,HBR⟩
 case round =>
  clear HBR;obtain⟨i,rfl,hk,hi,HCS,HB2⟩:=hrel
  by_cases hlt:i<3
  · obtain⟨k1,rfl⟩:∃k1,gk=k1+1:=⟨gk - 1,by omega⟩
    rcases (by omega:i=0∨i=1∨i=2)with rfl|rfl|rfl
    · have hix:∀V:World,(Instr.index 153 (.agg #[.string x.f3.f0,.int .i64 x.f3.f1.f0,.int .i64 x.f3.f1.f1,.string x.f3.f1.f2,.string x.f4.f0,.int .i64 x.f4.f1.f0,.int .i64 x.f4.f1.f1,.string x.f4.f1.f2,.string x.f5.f0,.int .i64 x.f5.f1.f0,.int .i64 x.f5.f1.f1,.string x.f5.f1.f2]) (.int .i64 0)).run Tryz.prog V=.ok (.agg #[.string x.f3.f0,.int .i64 x.f3.f1.f0,.int .i64 x.f3.f1.f1,.string x.f3.f1.f2]) V:=fun _=>by kernel_rfl
      by_cases hjn:0<n
      · have e1:decide ((0:Int)<(n:Int))=true:=decide_eq_true (by omega);have e2:decide (0<n)=true:=decide_eq_true hjn;have e3:decide ((n:Int)≤0)=false:=decide_eq_false (by omega);have e4:decide (n≤0)=false:=decide_eq_false (by omega);have HCK:=z00.mk (show chkB x n 0=!(termL x.f3).isEmpty from if_pos hjn)
        go_wp2_with fail
        refine(HT0.out _ (HLW2.out.below (z09 HB2.out HB2.out.size (z03 (Below.refl _ _) _)))).mono ?_;rintro e V ⟨rfl,hb⟩;have HB3:=z00.mk (z09 HB2.out HB2.out.size (z09 ((Below.refl wr.heap.size wr).alloc (Nat.le_refl _) _) (by simp) hb));clear hb;obtain⟨b,hbE⟩:∃b,baL (termL x.f3)=b:=⟨_,rfl⟩
        rw[hbE]
        by_cases hs0:termL x.f3=[]
        · have e5:(b.toList==([]:List UInt8))=true:=by rw[←hbE,hs0,z1d];exact beq_self_eq_true _
          have e6:(b.toList==(⟨#[]⟩:ByteArray).toList)=true:=by rw[←hbE,hs0];exact beq_self_eq_true _
          have HF:=z00.mk (HRN.out 0 (by decide) (by rw[HCK.out,hs0];rfl));clear hbE hs0;go_wp2
          go_ret
          exact⟨by rw[HF.out];rfl,z09 HWB.out HWB.out.size HB3.out⟩
        · have e5:(b.toList==([]:List UInt8))=false:=by rw[beq_eq_false_iff_ne,←hbE,z1d];exact hs0
          have e6:(b.toList==(⟨#[]⟩:ByteArray).toList)=false:=by rw[beq_eq_false_iff_ne,←hbE,z1d];exact fun h=>hs0 (h.trans z2k)
          have HC2:=z00.mk (show ∀j,j<1→chkB x n j=true from fun j hj=>by
           rcases Nat.lt_succ_iff_lt_or_eq.1 hj with h|rfl
           · exact HCS.out j h
           · rw[HCK.out];cases hh:termL x.f3 with
             |nil=>exact absurd hh hs0
             |cons _ _=>rfl)
          clear hbE hs0;go_wp2
          go_roundg k1
          case rel=>exact⟨1,by go_num,by omega,by omega,HC2,HB3⟩
          case measure=>omega
      · obtain rfl:n=0:=by omega
        have HCK:=z00.mk (show chkB x 0 0=z5s x.f3 from rfl);have HB3:=z00.mk (z09 HB2.out HB2.out.size (z03 (Below.refl wr.heap.size wr) (.cells #[.string x.f3.f0,.int .i64 x.f3.f1.f0,.int .i64 x.f3.f1.f1,.string x.f3.f1.f2] 60)));obtain⟨bn,hbn⟩:∃b,z5s x.f3=b:=⟨_,rfl⟩
        have hbn2:(x.f3.f0.toList.isEmpty&&(x.f3.f1.f0==0&&(x.f3.f1.f1==0&&x.f3.f1.f2.toList.isEmpty)))=bn:=by
         rw[←hbn];unfold z5s z74;rw[z55,z55]
        rw[hbn]at HCK;clear hbn
        cases bn with
        |false =>
         have HF:=z00.mk (HRN.out 0 (by decide) HCK.out);go_wp2
         go_ret
         exact⟨by rw[HF.out];rfl,z09 HWB.out HWB.out.size HB3.out⟩
        |true =>
         have HC2:=z00.mk (show ∀j,j<1→chkB x 0 j=true from fun j hj=>by
          rcases Nat.lt_succ_iff_lt_or_eq.1 hj with h|rfl
          · exact HCS.out j h
          · exact HCK.out)
         go_wp2
         go_roundg k1
         case rel=>exact⟨1,by go_num,by omega,by omega,HC2,HB3⟩
         case measure=>omega
    · have hix:∀V:World,(Instr.index 153 (.agg #[.string x.f3.f0,.int .i64 x.f3.f1.f0,.int .i64 x.f3.f1.f1,.string x.f3.f1.f2,.string x.f4.f0,.int .i64 x.f4.f1.f0,.int .i64 x.f4.f1.f1,.string x.f4.f1.f2,.string x.f5.f0,.int .i64 x.f5.f1.f0,.int .i64 x.f5.f1.f1,.string x.f5.f1.f2]) (.int .i64 1)).run Tryz.prog V=.ok (.agg #[.string x.f4.f0,.int .i64 x.f4.f1.f0,.int .i64 x.f4.f1.f1,.string x.f4.f1.f2]) V:=fun _=>by kernel_rfl
      by_cases hjn:1<n
      · have e1:decide ((1:Int)<(n:Int))=true:=decide_eq_true (by omega);have e2:decide (1<n)=true:=decide_eq_true hjn;have e3:decide ((n:Int)≤1)=false:=decide_eq_false (by omega);have e4:decide (n≤1)=false:=decide_eq_false (by omega);have HCK:=z00.mk (show chkB x n 1=!(termL x.f4).isEmpty from if_pos hjn)
        go_wp2_with fail
        refine(HT1.out _ (HLW2.out.below (z09 HB2.out HB2.out.size (z03 (Below.refl _ _) _)))).mono ?_;rintro e V ⟨rfl,hb⟩;have HB3:=z00.mk (z09 HB2.out HB2.out.size (z09 ((Below.refl wr.heap.size wr).alloc (Nat.le_refl _) _) (by simp) hb));clear hb;obtain⟨b,hbE⟩:∃b,baL (termL x.f4)=b:=⟨_,rfl⟩
        rw[hbE]
        by_cases hs0:termL x.f4=[]
        · have e5:(b.toList==([]:List UInt8))=true:=by rw[←hbE,hs0,z1d];exact beq_self_eq_true _
          have e6:(b.toList==(⟨#[]⟩:ByteArray).toList)=true:=by rw[←hbE,hs0];exact beq_self_eq_true _
          have HF:=z00.mk (HRN.out 1 (by decide) (by rw[HCK.out,hs0];rfl));clear hbE hs0;go_wp2
          go_ret
          exact⟨by rw[HF.out];rfl,z09 HWB.out HWB.out.size HB3.out⟩
        · have e5:(b.toList==([]:List UInt8))=false:=by rw[beq_eq_false_iff_ne,←hbE,z1d];exact hs0
          have e6:(b.toList==(⟨#[]⟩:ByteArray).toList)=false:=by rw[beq_eq_false_iff_ne,←hbE,z1d];exact fun h=>hs0 (h.trans z2k)
          have HC2:=z00.mk (show ∀j,j<2→chkB x n j=true from fun j hj=>by
           rcases Nat.lt_succ_iff_lt_or_eq.1 hj with h|rfl
           · exact HCS.out j h
           · rw[HCK.out];cases hh:termL x.f4 with
             |nil=>exact absurd hh hs0
             |cons _ _=>rfl)
          clear hbE hs0;go_wp2
          go_roundg k1
          case rel=>exact⟨2,by go_num,by omega,by omega,HC2,HB3⟩
          case measure=>omega
      · have e1:decide ((1:Int)<(n:Int))=false:=decide_eq_false (by omega);have e2:decide (1<n)=false:=decide_eq_false hjn;have e3:decide ((n:Int)≤1)=true:=decide_eq_true (by omega);have e4:decide (n≤1)=true:=decide_eq_true (by omega);have HCK:=z00.mk (show chkB x n 1=z5s x.f4 from if_neg hjn);have HB3:=z00.mk (z09 HB2.out HB2.out.size (z03 (Below.refl wr.heap.size wr) (.cells #[.string x.f4.f0,.int .i64 x.f4.f1.f0,.int .i64 x.f4.f1.f1,.string x.f4.f1.f2] 60)));obtain⟨bn,hbn⟩:∃b,z5s x.f4=b:=⟨_,rfl⟩
        have hbn2:(x.f4.f0.toList.isEmpty&&(x.f4.f1.f0==0&&(x.f4.f1.f1==0&&x.f4.f1.f2.toList.isEmpty)))=bn:=by
         rw[←hbn];unfold z5s z74;rw[z55,z55]
        rw[hbn]at HCK;clear hbn
        cases bn with
        |false =>
         have HF:=z00.mk (HRN.out 1 (by decide) HCK.out);go_wp2
         go_ret
         exact⟨by rw[HF.out];rfl,z09 HWB.out HWB.out.size HB3.out⟩
        |true =>
         have HC2:=z00.mk (show ∀j,j<2→chkB x n j=true from fun j hj=>by
          rcases Nat.lt_succ_iff_lt_or_eq.1 hj with h|rfl
          · exact HCS.out j h
          · exact HCK.out)
         go_wp2
         go_roundg k1
         case rel=>exact⟨2,by go_num,by omega,by omega,HC2,HB3⟩
         case measure=>omega
    · have hix:∀V:World,(Instr.index 153 (.agg #[.string x.f3.f0,.int .i64 x.f3.f1.f0,.int .i64 x.f3.f1.f1,.string x.f3.f1.f2,.string x.f4.f0,.int .i64 x.f4.f1.f0,.int .i64 x.f4.f1.f1,.string x.f4.f1.f2,.string x.f5.f0,.int .i64 x.f5.f1.f0,.int .i64 x.f5.f1.f1,.string x.f5.f1.f2]) (.int .i64 2)).run Tryz.prog V=.ok (.agg #[.string x.f5.f0,.int .i64 x.f5.f1.f0,.int .i64 x.f5.f1.f1,.string x.f5.f1.f2]) V:=fun _=>by kernel_rfl
      by_cases hjn:2<n
      · have e1:decide ((2:Int)<(n:Int))=true:=decide_eq_true (by omega);have e2:decide (2<n)=true:=decide_eq_true hjn;have e3:decide ((n:Int)≤2)=false:=decide_eq_false (by omega);have e4:decide (n≤2)=false:=decide_eq_false (by omega);have HCK:=z00.mk (show chkB x n 2=!(termL x.f5).isEmpty from if_pos hjn)
        go_wp2_with fail
        refine(HT2.out _ (HLW2.out.below (z09 HB2.out HB2.out.size (z03 (Below.refl _ _) _)))).mono ?_;rintro e V ⟨rfl,hb⟩;have HB3:=z00.mk (z09 HB2.out HB2.out.size (z09 ((Below.refl wr.heap.size wr).alloc (Nat.le_refl _) _) (by simp) hb));clear hb;obtain⟨b,hbE⟩:∃b,baL (termL x.f5)=b:=⟨_,rfl⟩
        rw[hbE]
        by_cases hs0:termL x.f5=[]
        · have e5:(b.toList==([]:List UInt8))=true:=by rw[←hbE,hs0,z1d];exact beq_self_eq_true _
          have e6:(b.toList==(⟨#[]⟩:ByteArray).toList)=true:=by rw[←hbE,hs0];exact beq_self_eq_true _
          have HF:=z00.mk (HRN.out 2 (by decide) (by rw[HCK.out,hs0];rfl));clear hbE hs0;go_wp2
          go_ret
          exact⟨by rw[HF.out];rfl,z09 HWB.out HWB.out.size HB3.out⟩
        · have e5:(b.toList==([]:List UInt8))=false:=by rw[beq_eq_false_iff_ne,←hbE,z1d];exact hs0
          have e6:(b.toList==(⟨#[]⟩:ByteArray).toList)=false:=by rw[beq_eq_false_iff_ne,←hbE,z1d];exact fun h=>hs0 (h.trans z2k)
          have HC2:=z00.mk (show ∀j,j<3→chkB x n j=true from fun j hj=>by
           rcases Nat.lt_succ_iff_lt_or_eq.1 hj with h|rfl
           · exact HCS.out j h
           · rw[HCK.out];cases hh:termL x.f5 with
             |nil=>exact absurd hh hs0
             |cons _ _=>rfl)
          clear hbE hs0;go_wp2
          go_roundg k1
          case rel=>exact⟨3,by go_num,by omega,by omega,HC2,HB3⟩
          case measure=>omega
      · have e1:decide ((2:Int)<(n:Int))=false:=decide_eq_false (by omega);have e2:decide (2<n)=false:=decide_eq_false hjn;have e3:decide ((n:Int)≤2)=true:=decide_eq_true (by omega);have e4:decide (n≤2)=true:=decide_eq_true (by omega);have HCK:=z00.mk (show chkB x n 2=z5s x.f5 from if_neg hjn);have HB3:=z00.mk (z09 HB2.out HB2.out.size (z03 (Below.refl wr.heap.size wr) (.cells #[.string x.f5.f0,.int .i64 x.f5.f1.f0,.int .i64 x.f5.f1.f1,.string x.f5.f1.f2] 60)));obtain⟨bn,hbn⟩:∃b,z5s x.f5=b:=⟨_,rfl⟩
        have hbn2:(x.f5.f0.toList.isEmpty&&(x.f5.f1.f0==0&&(x.f5.f1.f1==0&&x.f5.f1.f2.toList.isEmpty)))=bn:=by
         rw[←hbn];unfold z5s z74;rw[z55,z55]
        rw[hbn]at HCK;clear hbn
        cases bn with
        |false =>
         have HF:=z00.mk (HRN.out 2 (by decide) HCK.out);go_wp2
         go_ret
         exact⟨by rw[HF.out];rfl,z09 HWB.out HWB.out.size HB3.out⟩
        |true =>
         have HC2:=z00.mk (show ∀j,j<3→chkB x n j=true from fun j hj=>by
          rcases Nat.lt_succ_iff_lt_or_eq.1 hj with h|rfl
          · exact HCS.out j h
          · exact HCK.out)
         go_wp2
         go_roundg k1
         case rel=>exact⟨3,by go_num,by omega,by omega,HC2,HB3⟩
         case measure=>omega
  · obtain rfl:i=3:=by omega
    have HY:=z00.mk (show r=((a||((x.f1.f0.toList==([]:List UInt8))&&(x.f1.f1.length==0)))&&((o||(x.f2.toList==([]:List UInt8)))&&(p||(x.f6.length==0))))from HRY.out HCS.out);have HBZ:=z00.mk (z09 HWB.out HWB.out.size HB2.out);have hN3:=z0b HN.out HB2.out;have d1:wr.cell? ⟨nb,1,none⟩=some (.string x.f1.f0):=(z01 hN3 1).trans rfl;have d2:wr.cell? ⟨nb,2,none⟩=some (.slice A2 x.f1.f1.length c2):=(z01 hN3 2).trans rfl;have d3:wr.cell? ⟨nb,3,none⟩=some (.string x.f2):=(z01 hN3 3).trans rfl;have d16:wr.cell? ⟨nb,16,none⟩=some (.slice A16 x.f6.length c16):=(z01 hN3 16).trans rfl;obtain⟨b1,hb1⟩:∃b,(x.f1.f0.toList==([]:List UInt8))=b:=⟨_,rfl⟩
    obtain⟨b2,hb2⟩:∃b,(x.f1.f1.length==0)=b:=⟨_,rfl⟩
    obtain⟨b3,hb3⟩:∃b,(x.f2.toList==([]:List UInt8))=b:=⟨_,rfl⟩
    obtain⟨b4,hb4⟩:∃b,(x.f6.length==0)=b:=⟨_,rfl⟩
    rw[hb1,hb2,hb3,hb4]at HY;have hc1:(x.f1.f0.toList==(⟨#[]⟩:ByteArray).toList)=b1:=by rw[z2k];exact hb1
    have hc3:(x.f2.toList==(⟨#[]⟩:ByteArray).toList)=b3:=by rw[z2k];exact hb3
    have hc2:((x.f1.f1.length:Int)==0)=b2:=by rw[←hb2];exact zkm _
    have hc4:((x.f6.length:Int)==0)=b4:=by rw[←hb4];exact zkm _
    clear HRN HRY HCS HT0 HT1 HT2 HB2 hN3 HN HW HX HLW2 HWB;have hc:=HC.out;rcases hc with ⟨rfl,rfl,rfl⟩|⟨rfl,rfl,rfl⟩|⟨rfl,rfl,rfl⟩
    · clear hb1 hb2 hc1 hc2 d1 d2
      cases b3
      all_goals
       cases b4
       all_goals
        go_wp2
        go_ret
        exact⟨by rw[HY.out];simp,HBZ.out⟩
    · clear hb3 hc3 d3
      cases b1
      all_goals
       cases b2
       all_goals
        cases b4
        all_goals
         go_wp2
         go_ret
         exact⟨by rw[HY.out];simp,HBZ.out⟩
    · clear hb4 hc4 d16
      cases b1
      all_goals
       cases b2
       all_goals
        cases b3
        all_goals
         go_wp2
         go_ret
         exact⟨by rw[HY.out];simp,HBZ.out⟩
end Go.Proofs.YthebhbomlllpeaaGreatDoor.X
namespace Go.Proofs.YthebhbomlllpeaaGreatDoor.X
open Go.RowKit Go.Proofs.YthebhbomlllpeaaGreatDoorW.PrintWords Go.Proofs.YthebhbomlllpeaaGreatDoorW.PrintLast Go.Proofs.YthebhbomlllpeaaGreatDoorW.PrintMore
attribute [local go_sem ↓] Go.wp_at_zero Go.wp_at_succ
theorem emp_t {l:List UInt8} {b:ByteArray} (h:baL l=b) (he:l=[]):(b.toList==([]:List UInt8))=true∧(b.toList==(⟨#[]⟩:ByteArray).toList)=true∧(b.toList !=([]:List UInt8))=false∧(b.toList !=(⟨#[]⟩:ByteArray).toList)=false:=by
 subst h he;exact⟨by rw[z1d];rfl,beq_self_eq_true _,by rw[z1d];rfl,bne_self_eq_false _⟩
theorem emp_f {l:List UInt8} {b:ByteArray} (h:baL l=b) (he:l≠[]):(b.toList==([]:List UInt8))=false∧(b.toList==(⟨#[]⟩:ByteArray).toList)=false∧(b.toList !=([]:List UInt8))=true∧(b.toList !=(⟨#[]⟩:ByteArray).toList)=true:=by
 subst h;have h1:(baL l).toList≠[]:=by rw[z1d];exact he
 exact⟨beq_eq_false_iff_ne.2 h1,beq_eq_false_iff_ne.2 (by rw[z2k];exact h1),bne_iff_ne.2 h1,bne_iff_ne.2 (by rw[z2k];exact h1)⟩
def rpB (l:List StS):Bool:=!(pathL l).isEmpty
set_option maxHeartbeats 4000000 in
set_option maxRecDepth 100000 in
theorem z3f (l:List StS) (A:Option Addr) (c:Nat) (w:World) (hLW:LaidW w) (hC:Kd.C k69 w A l.length l) (hl:∀x ∈ l,x.f1.size≤9223372036854775807) (hl63:l.length≤140737488355328) :
 Calls Tryz.prog 27 #[.slice A l.length c] w fun e w'=>e=.returned (.bool (rpB l))∧Below w.heap.size w w':=by
 have HP:=z00.mk (z5a l A c w hLW hC hl hl63);obtain⟨r,hr⟩:∃r,rpB l=r:=⟨_,rfl⟩
 have HR:=z00.mk hr;rw[hr];clear hC hl hLW hr;go_enter Tryz.func27,Tryz.ntmps27
 go_wp2_with fail
 refine HP.out.mono ?_;rintro e w1 ⟨rfl,hb⟩;have HB1:=z00.mk hb;clear hb;obtain⟨b,hbE⟩:∃b,baL (pathL l)=b:=⟨_,rfl⟩
 rw[hbE]
 by_cases he:pathL l=[]
 · obtain⟨e1,e2,e3,e4⟩:=emp_t hbE he;have HF:=z00.mk (show r=false by rw[←HR.out];unfold rpB;rw[he];rfl);clear hbE he;go_wp2
   go_ret
   exact⟨by rw[HF.out];rfl,HB1.out⟩
 · obtain⟨e1,e2,e3,e4⟩:=emp_f hbE he;have HF:=z00.mk (show r=true by
    rw[←HR.out];unfold rpB
    cases hh:pathL l with
    |nil=>exact absurd hh he
    |cons _ _=>rfl)
   clear hbE he;go_wp2
   go_ret
   exact⟨by rw[HF.out];rfl,HB1.out⟩
theorem neB {l:List UInt8} (h:l≠[]):(!l.isEmpty)=true:=by
 cases l with
 |nil=>exact absurd rfl h
 |cons _ _=>rfl
theorem zk8 {l:List UInt8} (h:(!l.isEmpty)=true):l≠[]:=fun e=>by rw[e]at h;cases h
theorem z5z (s:List UInt8):(wordL s).length≤7:=by
 unfold wordL
 repeat' split
 all_goals simp
theorem zd4 {s:List UInt8} (h:compB s=true):s.length≤2:=by
 unfold compB at h;simp only[Bool.or_eq_true,beq_iff_eq]at h;rcases h with rfl|rfl|rfl|rfl <;> simp
theorem zb5 (s:ByteArray):z4l.f s=some (baL (wordL s.data.toList)):=by
 unfold z4l.f wordL;rw[z2y]
 by_cases h1:s.data.toList=[43]
 · rw[if_pos h1,if_pos h1]
 · rw[if_neg h1,if_neg h1]
   by_cases h2:s.data.toList=[45]
   · rw[if_pos h2,if_pos h2]
   · rw[if_neg h2,if_neg h2]
     by_cases h3:s.data.toList=[42]
     · rw[if_pos h3,if_pos h3]
     · rw[if_neg h3,if_neg h3]
set_option maxHeartbeats 8000000 in
set_option maxRecDepth 100000 in
theorem zk4 (x:LtS) (A2:Option Addr) (c2:Nat) (A16:Option Addr) (c16:Nat) (j:Int) (w:World) (hLW:LaidW w) (hx:okL x) (hA2:Kd.C k60 w A2 x.f1.f1.length x.f1.f1) (hA16:Kd.C k69 w A16 x.f6.length x.f6) (hk:x.f0≠1∧x.f0≠2∧x.f0≠3∧x.f0≠4∧x.f0≠5) :
 Calls Tryz.prog 44 #[.int .i64 j,.agg (litC x A2 c2 A16 c16)] w fun e w'=>e=.returned (.string (baL (litL x)))∧Below w.heap.size w w':=by
 obtain⟨nb,enb⟩:∃n,w.heap.size=n:=⟨_,rfl⟩
 obtain⟨W,hW⟩:∃W,w.alloc (.cells (litC x A2 c2 A16 c16) 62)=W:=⟨_,rfl⟩
 have hBW:Below w.heap.size w W:=hW ▸ z03 (Below.refl w.heap.size w) (.cells (litC x A2 c2 A16 c16) 62);have hN:=z0q w (.cells (litC x A2 c2 A16 c16) 62);rw[enb,hW]at hN;have HAT:=z00.mk (z4v x.f1 A2 c2 W (hLW.below hBW) (Kd.C_below hA2 hBW) hx.1);have HPA:=z00.mk (fun(V:World) (h:Below w.heap.size w V)=>z5a x.f6 A16 c16 V (hLW.below h) (Kd.C_below hA16 h) hx.2.2.2.2.1 hx.2.2.2.2.2.1);have HRP:=z00.mk (fun(V:World) (h:Below w.heap.size w V)=>z3f x.f6 A16 c16 V (hLW.below h) (Kd.C_below hA16 h) hx.2.2.2.2.1 hx.2.2.2.2.2.1);have HRS:=z00.mk (fun(n:Nat) (hn:n≤3) (a o p:Bool) (hc:(a=true∧o=false∧p=false)∨(a=false∧o=true∧p=false)∨(a=false∧o=false∧p=true)) (V:World) (h:LaidW V)=>z6l x A2 c2 A16 c16 n hn a o p hc V h hx);have HTA:=z00.mk (fun V (h:LaidW V)=>z2b x.f3 V h hx.2.1);have HTB:=z00.mk (fun V (h:LaidW V)=>z2b x.f4 V h hx.2.2.1);have HTC:=z00.mk (fun V (h:LaidW V)=>z2b x.f5 V h hx.2.2.2.1);have HWD:=z00.mk (fun V=>z4l.calls x.f2 (baL (wordL x.f2.data.toList)) V (zb5 x.f2));have hla:=z27 x.f3 hx.2.1;have hlb:=z27 x.f4 hx.2.2.1;have hlc:=z27 x.f5 hx.2.2.2.1;have hlp:=z5u x.f6;have hlw:=z5z x.f2.data.toList;have hat:=z5j x.f1 0 hx.1;obtain⟨res,hres⟩:∃r,litL x=r:=⟨_,rfl⟩
 have HRE:=z00.mk hres;have HLW:=z00.mk hLW;have HBW:=z00.mk hBW;have HN:=z00.mk hN;rw[hres];simp only[litC]at HAT HRS HN hW ⊢;have HW:=z00.mk hW;have d1:W.cell? ⟨nb,1,none⟩=some (.string x.f1.f0):=(z01 HN.out 1).trans rfl;have d2:W.cell? ⟨nb,2,none⟩=some (.slice A2 x.f1.f1.length c2):=(z01 HN.out 2).trans rfl;have k1:(x.f0==1)=false:=beq_eq_false_iff_ne.2 (hk.1);have k2:(x.f0==2)=false:=beq_eq_false_iff_ne.2 (hk.2.1);have k3:(x.f0==3)=false:=beq_eq_false_iff_ne.2 (hk.2.2.1);have k4:(x.f0==4)=false:=beq_eq_false_iff_ne.2 (hk.2.2.2.1);have k5:(x.f0==5)=false:=beq_eq_false_iff_ne.2 (hk.2.2.2.2);have HK:=z00.mk hk;clear hk hLW hx hA2 hA16 hres hBW hN hla hlb hlc hlp hlw hat;go_enter Tryz.func44,Tryz.ntmps44
 go_wp2_with fail
 refine HAT.out.mono ?_;rintro e w1 ⟨rfl,hb⟩;have HB1:=z00.mk (z09 HBW.out HBW.out.size hb);have HN1:=z00.mk (z0b HN.out hb);clear hb hW d1 d2 HAT enb;have d0:w1.cell? ⟨nb,0,none⟩=some (.int .i64 x.f0):=(z01 HN1.out 0).trans rfl;have d1:w1.cell? ⟨nb,1,none⟩=some (.string x.f1.f0):=(z01 HN1.out 1).trans rfl;have d2:w1.cell? ⟨nb,2,none⟩=some (.slice A2 x.f1.f1.length c2):=(z01 HN1.out 2).trans rfl;have d3:w1.cell? ⟨nb,3,none⟩=some (.string x.f2):=(z01 HN1.out 3).trans rfl;have d4:w1.cell? ⟨nb,4,none⟩=some (.string x.f3.f0):=(z01 HN1.out 4).trans rfl;have d5:w1.cell? ⟨nb,5,none⟩=some (.int .i64 x.f3.f1.f0):=(z01 HN1.out 5).trans rfl;have d6:w1.cell? ⟨nb,6,none⟩=some (.int .i64 x.f3.f1.f1):=(z01 HN1.out 6).trans rfl;have d7:w1.cell? ⟨nb,7,none⟩=some (.string x.f3.f1.f2):=(z01 HN1.out 7).trans rfl;have d8:w1.cell? ⟨nb,8,none⟩=some (.string x.f4.f0):=(z01 HN1.out 8).trans rfl;have d9:w1.cell? ⟨nb,9,none⟩=some (.int .i64 x.f4.f1.f0):=(z01 HN1.out 9).trans rfl;have d10:w1.cell? ⟨nb,10,none⟩=some (.int .i64 x.f4.f1.f1):=(z01 HN1.out 10).trans rfl;have d11:w1.cell? ⟨nb,11,none⟩=some (.string x.f4.f1.f2):=(z01 HN1.out 11).trans rfl;have d12:w1.cell? ⟨nb,12,none⟩=some (.string x.f5.f0):=(z01 HN1.out 12).trans rfl;have d13:w1.cell? ⟨nb,13,none⟩=some (.int .i64 x.f5.f1.f0):=(z01 HN1.out 13).trans rfl;have d14:w1.cell? ⟨nb,14,none⟩=some (.int .i64 x.f5.f1.f1):=(z01 HN1.out 14).trans rfl;have d15:w1.cell? ⟨nb,15,none⟩=some (.string x.f5.f1.f2):=(z01 HN1.out 15).trans rfl;have d16:w1.cell? ⟨nb,16,none⟩=some (.slice A16 x.f6.length c16):=(z01 HN1.out 16).trans rfl;obtain⟨atx,hatx⟩:∃b,baL (atomL x.f1)=b:=⟨_,rfl⟩
 rw[hatx];have HE:=z00.mk (show res=[] by have hk:=HK.out;rw[←HRE.out];unfold litL;rw[if_neg (fun h=>hk.1 h.1),if_neg (fun h=>hk.2.1 h.1),if_neg (fun h=>hk.2.2.1 h.1),if_neg (fun h=>hk.2.2.2.1 h.1),if_neg (fun h=>hk.2.2.2.2 h.1)]);go_wp2
 go_ret
 exact⟨by rw[HE.out];rfl,HB1.out⟩
set_option maxHeartbeats 8000000 in
set_option maxRecDepth 100000 in
theorem zjp (x:LtS) (A2:Option Addr) (c2:Nat) (A16:Option Addr) (c16:Nat) (j:Int) (w:World) (hLW:LaidW w) (hx:okL x) (hA2:Kd.C k60 w A2 x.f1.f1.length x.f1.f1) (hA16:Kd.C k69 w A16 x.f6.length x.f6) (hk:x.f0=1) :
 Calls Tryz.prog 44 #[.int .i64 j,.agg (litC x A2 c2 A16 c16)] w fun e w'=>e=.returned (.string (baL (litL x)))∧Below w.heap.size w w':=by
 obtain⟨nb,enb⟩:∃n,w.heap.size=n:=⟨_,rfl⟩
 obtain⟨W,hW⟩:∃W,w.alloc (.cells (litC x A2 c2 A16 c16) 62)=W:=⟨_,rfl⟩
 have hBW:Below w.heap.size w W:=hW ▸ z03 (Below.refl w.heap.size w) (.cells (litC x A2 c2 A16 c16) 62);have hN:=z0q w (.cells (litC x A2 c2 A16 c16) 62);rw[enb,hW]at hN;have HAT:=z00.mk (z4v x.f1 A2 c2 W (hLW.below hBW) (Kd.C_below hA2 hBW) hx.1);have HPA:=z00.mk (fun(V:World) (h:Below w.heap.size w V)=>z5a x.f6 A16 c16 V (hLW.below h) (Kd.C_below hA16 h) hx.2.2.2.2.1 hx.2.2.2.2.2.1);have HRP:=z00.mk (fun(V:World) (h:Below w.heap.size w V)=>z3f x.f6 A16 c16 V (hLW.below h) (Kd.C_below hA16 h) hx.2.2.2.2.1 hx.2.2.2.2.2.1);have HRS:=z00.mk (fun(n:Nat) (hn:n≤3) (a o p:Bool) (hc:(a=true∧o=false∧p=false)∨(a=false∧o=true∧p=false)∨(a=false∧o=false∧p=true)) (V:World) (h:LaidW V)=>z6l x A2 c2 A16 c16 n hn a o p hc V h hx);have HTA:=z00.mk (fun V (h:LaidW V)=>z2b x.f3 V h hx.2.1);have HTB:=z00.mk (fun V (h:LaidW V)=>z2b x.f4 V h hx.2.2.1);have HTC:=z00.mk (fun V (h:LaidW V)=>z2b x.f5 V h hx.2.2.2.1);have HWD:=z00.mk (fun V=>z4l.calls x.f2 (baL (wordL x.f2.data.toList)) V (zb5 x.f2));have hla:=z27 x.f3 hx.2.1;have hlb:=z27 x.f4 hx.2.2.1;have hlc:=z27 x.f5 hx.2.2.2.1;have hlp:=z5u x.f6;have hlw:=z5z x.f2.data.toList;have hat:=z5j x.f1 0 hx.1;obtain⟨res,hres⟩:∃r,litL x=r:=⟨_,rfl⟩
 have HRE:=z00.mk hres;have HLW:=z00.mk hLW;have HBW:=z00.mk hBW;have HN:=z00.mk hN;rw[hres];simp only[litC]at HAT HRS HN hW ⊢;have HW:=z00.mk hW;have d1:W.cell? ⟨nb,1,none⟩=some (.string x.f1.f0):=(z01 HN.out 1).trans rfl;have d2:W.cell? ⟨nb,2,none⟩=some (.slice A2 x.f1.f1.length c2):=(z01 HN.out 2).trans rfl;have k1:(x.f0==1)=true:=beq_iff_eq.2 hk;have k2:(x.f0==2)=false:=beq_eq_false_iff_ne.2 (by omega);have k3:(x.f0==3)=false:=beq_eq_false_iff_ne.2 (by omega);have k4:(x.f0==4)=false:=beq_eq_false_iff_ne.2 (by omega);have k5:(x.f0==5)=false:=beq_eq_false_iff_ne.2 (by omega);have HK:=z00.mk hk;clear hk hLW hx hA2 hA16 hres hBW hN hla hlb hlc hlp hlw hat;go_enter Tryz.func44,Tryz.ntmps44
 go_wp2_with fail
 refine HAT.out.mono ?_;rintro e w1 ⟨rfl,hb⟩;have HB1:=z00.mk (z09 HBW.out HBW.out.size hb);have HN1:=z00.mk (z0b HN.out hb);clear hb hW d1 d2 HAT enb;have d0:w1.cell? ⟨nb,0,none⟩=some (.int .i64 x.f0):=(z01 HN1.out 0).trans rfl;have d1:w1.cell? ⟨nb,1,none⟩=some (.string x.f1.f0):=(z01 HN1.out 1).trans rfl;have d2:w1.cell? ⟨nb,2,none⟩=some (.slice A2 x.f1.f1.length c2):=(z01 HN1.out 2).trans rfl;have d3:w1.cell? ⟨nb,3,none⟩=some (.string x.f2):=(z01 HN1.out 3).trans rfl;have d4:w1.cell? ⟨nb,4,none⟩=some (.string x.f3.f0):=(z01 HN1.out 4).trans rfl;have d5:w1.cell? ⟨nb,5,none⟩=some (.int .i64 x.f3.f1.f0):=(z01 HN1.out 5).trans rfl;have d6:w1.cell? ⟨nb,6,none⟩=some (.int .i64 x.f3.f1.f1):=(z01 HN1.out 6).trans rfl;have d7:w1.cell? ⟨nb,7,none⟩=some (.string x.f3.f1.f2):=(z01 HN1.out 7).trans rfl;have d8:w1.cell? ⟨nb,8,none⟩=some (.string x.f4.f0):=(z01 HN1.out 8).trans rfl;have d9:w1.cell? ⟨nb,9,none⟩=some (.int .i64 x.f4.f1.f0):=(z01 HN1.out 9).trans rfl;have d10:w1.cell? ⟨nb,10,none⟩=some (.int .i64 x.f4.f1.f1):=(z01 HN1.out 10).trans rfl;have d11:w1.cell? ⟨nb,11,none⟩=some (.string x.f4.f1.f2):=(z01 HN1.out 11).trans rfl;have d12:w1.cell? ⟨nb,12,none⟩=some (.string x.f5.f0):=(z01 HN1.out 12).trans rfl;have d13:w1.cell? ⟨nb,13,none⟩=some (.int .i64 x.f5.f1.f0):=(z01 HN1.out 13).trans rfl;have d14:w1.cell? ⟨nb,14,none⟩=some (.int .i64 x.f5.f1.f1):=(z01 HN1.out 14).trans rfl;have d15:w1.cell? ⟨nb,15,none⟩=some (.string x.f5.f1.f2):=(z01 HN1.out 15).trans rfl;have d16:w1.cell? ⟨nb,16,none⟩=some (.slice A16 x.f6.length c16):=(z01 HN1.out 16).trans rfl;obtain⟨atx,hatx⟩:∃b,baL (atomL x.f1)=b:=⟨_,rfl⟩
 rw[hatx]
 go_wp2_with fail
 refine(HRS.out 0 (by decide) true false false (by decide) _ (HLW.out.below HB1.out)).mono ?_;rintro e w2 ⟨rfl,hb⟩;have HB2:=z00.mk (z09 HB1.out HB1.out.size hb);have HN2:=z00.mk (z0b HN1.out hb);clear hb d0 d1 d2 d3 d4 d5 d6 d7 d8 d9 d10 d11 d12 d13 d14 d15 d16;have d0:w2.cell? ⟨nb,0,none⟩=some (.int .i64 x.f0):=(z01 HN2.out 0).trans rfl;have d3:w2.cell? ⟨nb,3,none⟩=some (.string x.f2):=(z01 HN2.out 3).trans rfl;have d4:w2.cell? ⟨nb,4,none⟩=some (.string x.f3.f0):=(z01 HN2.out 4).trans rfl;have d16:w2.cell? ⟨nb,16,none⟩=some (.slice A16 x.f6.length c16):=(z01 HN2.out 16).trans rfl;obtain⟨rr,hrr⟩:∃b,restB x 0 true false false=b:=⟨_,rfl⟩
 rw[hrr]
 cases rr with
 |false =>
  have HE:=z00.mk (show res=[] by have hk:=HK.out;rw[←HRE.out];unfold litL;rw[if_neg (fun h=>by rw[hrr]at h;cases h.2),if_neg (fun h=>absurd (hk.symm.trans h.1) (by decide)),if_neg (fun h=>absurd (hk.symm.trans h.1) (by decide)),if_neg (fun h=>absurd (hk.symm.trans h.1) (by decide)),if_neg (fun h=>absurd (hk.symm.trans h.1) (by decide))]);clear hrr;go_wp2
  go_ret
  exact⟨by rw[HE.out];rfl,HB2.out⟩
 |true =>
  have HE:=z00.mk (show res=atomL x.f1 by rw[←HRE.out];unfold litL;rw[if_pos ⟨HK.out,hrr⟩]);have HAX:=z00.mk hatx;clear hrr hatx;go_wp2
  go_ret
  exact⟨by rw[HE.out,HAX.out];rfl,HB2.out⟩
set_option maxHeartbeats 8000000 in
set_option maxRecDepth 100000 in
theorem zkn (x:LtS) (A2:Option Addr) (c2:Nat) (A16:Option Addr) (c16:Nat) (j:Int) (w:World) (hLW:LaidW w) (hx:okL x) (hA2:Kd.C k60 w A2 x.f1.f1.length x.f1.f1) (hA16:Kd.C k69 w A16 x.f6.length x.f6) (hk:x.f0=2) :
 Calls Tryz.prog 44 #[.int .i64 j,.agg (litC x A2 c2 A16 c16)] w fun e w'=>e=.returned (.string (baL (litL x)))∧Below w.heap.size w w':=by
 obtain⟨nb,enb⟩:∃n,w.heap.size=n:=⟨_,rfl⟩
 obtain⟨W,hW⟩:∃W,w.alloc (.cells (litC x A2 c2 A16 c16) 62)=W:=⟨_,rfl⟩
 have hBW:Below w.heap.size w W:=hW ▸ z03 (Below.refl w.heap.size w) (.cells (litC x A2 c2 A16 c16) 62);have hN:=z0q w (.cells (litC x A2 c2 A16 c16) 62);rw[enb,hW]at hN;have HAT:=z00.mk (z4v x.f1 A2 c2 W (hLW.below hBW) (Kd.C_below hA2 hBW) hx.1);have HPA:=z00.mk (fun(V:World) (h:Below w.heap.size w V)=>z5a x.f6 A16 c16 V (hLW.below h) (Kd.C_below hA16 h) hx.2.2.2.2.1 hx.2.2.2.2.2.1);have HRP:=z00.mk (fun(V:World) (h:Below w.heap.size w V)=>z3f x.f6 A16 c16 V (hLW.below h) (Kd.C_below hA16 h) hx.2.2.2.2.1 hx.2.2.2.2.2.1);have HRS:=z00.mk (fun(n:Nat) (hn:n≤3) (a o p:Bool) (hc:(a=true∧o=false∧p=false)∨(a=false∧o=true∧p=false)∨(a=false∧o=false∧p=true)) (V:World) (h:LaidW V)=>z6l x A2 c2 A16 c16 n hn a o p hc V h hx);have HTA:=z00.mk (fun V (h:LaidW V)=>z2b x.f3 V h hx.2.1);have HTB:=z00.mk (fun V (h:LaidW V)=>z2b x.f4 V h hx.2.2.1);have HTC:=z00.mk (fun V (h:LaidW V)=>z2b x.f5 V h hx.2.2.2.1);have HWD:=z00.mk (fun V=>z4l.calls x.f2 (baL (wordL x.f2.data.toList)) V (zb5 x.f2));have hla:=z27 x.f3 hx.2.1;have hlb:=z27 x.f4 hx.2.2.1;have hlc:=z27 x.f5 hx.2.2.2.1;have hlp:=z5u x.f6;have hlw:=z5z x.f2.data.toList;have hat:=z5j x.f1 0 hx.1;obtain⟨res,hres⟩:∃r,litL x=r:=⟨_,rfl⟩
 have HRE:=z00.mk hres;have HLW:=z00.mk hLW;have HBW:=z00.mk hBW;have HN:=z00.mk hN;rw[hres];simp only[litC]at HAT HRS HN hW ⊢;have HW:=z00.mk hW;have d1:W.cell? ⟨nb,1,none⟩=some (.string x.f1.f0):=(z01 HN.out 1).trans rfl;have d2:W.cell? ⟨nb,2,none⟩=some (.slice A2 x.f1.f1.length c2):=(z01 HN.out 2).trans rfl;have k1:(x.f0==1)=false:=beq_eq_false_iff_ne.2 (by omega);have k2:(x.f0==2)=true:=beq_iff_eq.2 hk;have k3:(x.f0==3)=false:=beq_eq_false_iff_ne.2 (by omega);have k4:(x.f0==4)=false:=beq_eq_false_iff_ne.2 (by omega);have k5:(x.f0==5)=false:=beq_eq_false_iff_ne.2 (by omega);have HAL:=z00.mk hat;have HK:=z00.mk hk;clear hk hLW hx hA2 hA16 hres hBW hN hla hlb hlc hlp hlw hat;go_enter Tryz.func44,Tryz.ntmps44
 go_wp2_with fail
 refine HAT.out.mono ?_;rintro e w1 ⟨rfl,hb⟩;have HB1:=z00.mk (z09 HBW.out HBW.out.size hb);have HN1:=z00.mk (z0b HN.out hb);clear hb hW d1 d2 HAT enb;have d0:w1.cell? ⟨nb,0,none⟩=some (.int .i64 x.f0):=(z01 HN1.out 0).trans rfl;have d1:w1.cell? ⟨nb,1,none⟩=some (.string x.f1.f0):=(z01 HN1.out 1).trans rfl;have d2:w1.cell? ⟨nb,2,none⟩=some (.slice A2 x.f1.f1.length c2):=(z01 HN1.out 2).trans rfl;have d3:w1.cell? ⟨nb,3,none⟩=some (.string x.f2):=(z01 HN1.out 3).trans rfl;have d4:w1.cell? ⟨nb,4,none⟩=some (.string x.f3.f0):=(z01 HN1.out 4).trans rfl;have d5:w1.cell? ⟨nb,5,none⟩=some (.int .i64 x.f3.f1.f0):=(z01 HN1.out 5).trans rfl;have d6:w1.cell? ⟨nb,6,none⟩=some (.int .i64 x.f3.f1.f1):=(z01 HN1.out 6).trans rfl;have d7:w1.cell? ⟨nb,7,none⟩=some (.string x.f3.f1.f2):=(z01 HN1.out 7).trans rfl;have d8:w1.cell? ⟨nb,8,none⟩=some (.string x.f4.f0):=(z01 HN1.out 8).trans rfl;have d9:w1.cell? ⟨nb,9,none⟩=some (.int .i64 x.f4.f1.f0):=(z01 HN1.out 9).trans rfl;have d10:w1.cell? ⟨nb,10,none⟩=some (.int .i64 x.f4.f1.f1):=(z01 HN1.out 10).trans rfl;have d11:w1.cell? ⟨nb,11,none⟩=some (.string x.f4.f1.f2):=(z01 HN1.out 11).trans rfl;have d12:w1.cell? ⟨nb,12,none⟩=some (.string x.f5.f0):=(z01 HN1.out 12).trans rfl;have d13:w1.cell? ⟨nb,13,none⟩=some (.int .i64 x.f5.f1.f0):=(z01 HN1.out 13).trans rfl;have d14:w1.cell? ⟨nb,14,none⟩=some (.int .i64 x.f5.f1.f1):=(z01 HN1.out 14).trans rfl;have d15:w1.cell? ⟨nb,15,none⟩=some (.string x.f5.f1.f2):=(z01 HN1.out 15).trans rfl;have d16:w1.cell? ⟨nb,16,none⟩=some (.slice A16 x.f6.length c16):=(z01 HN1.out 16).trans rfl;obtain⟨atx,hatx⟩:∃b,baL (atomL x.f1)=b:=⟨_,rfl⟩
 rw[hatx]
 go_wp2_with fail
 refine(HRS.out 0 (by decide) true false false (by decide) _ (HLW.out.below HB1.out)).mono ?_;rintro e w2 ⟨rfl,hb⟩;have HB2:=z00.mk (z09 HB1.out HB1.out.size hb);have HN2:=z00.mk (z0b HN1.out hb);clear hb d0 d1 d2 d3 d4 d5 d6 d7 d8 d9 d10 d11 d12 d13 d14 d15 d16;have d0:w2.cell? ⟨nb,0,none⟩=some (.int .i64 x.f0):=(z01 HN2.out 0).trans rfl;have d3:w2.cell? ⟨nb,3,none⟩=some (.string x.f2):=(z01 HN2.out 3).trans rfl;have d4:w2.cell? ⟨nb,4,none⟩=some (.string x.f3.f0):=(z01 HN2.out 4).trans rfl;have d16:w2.cell? ⟨nb,16,none⟩=some (.slice A16 x.f6.length c16):=(z01 HN2.out 16).trans rfl;obtain⟨rr,hrr⟩:∃b,restB x 0 true false false=b:=⟨_,rfl⟩
 rw[hrr]
 cases rr with
 |false =>
  have HE:=z00.mk (show res=[] by have hk:=HK.out;rw[←HRE.out];unfold litL;rw[if_neg (fun h=>absurd (hk.symm.trans h.1) (by decide)),if_neg (fun h=>by rw[hrr]at h;cases h.2.1),if_neg (fun h=>absurd (hk.symm.trans h.1) (by decide)),if_neg (fun h=>absurd (hk.symm.trans h.1) (by decide)),if_neg (fun h=>absurd (hk.symm.trans h.1) (by decide))]);clear hrr;go_wp2
  go_ret
  exact⟨by rw[HE.out];rfl,HB2.out⟩
 |true =>
  by_cases hae:atomL x.f1=[]
  · obtain⟨e1,e2,e3,e4⟩:=emp_t hatx hae;have HE:=z00.mk (show res=[] by have hk:=HK.out;rw[←HRE.out];unfold litL;rw[if_neg (fun h=>absurd (hk.symm.trans h.1) (by decide)),if_neg (fun h=>h.2.2 hae),if_neg (fun h=>absurd (hk.symm.trans h.1) (by decide)),if_neg (fun h=>absurd (hk.symm.trans h.1) (by decide)),if_neg (fun h=>absurd (hk.symm.trans h.1) (by decide))]);clear hrr hae hatx;go_wp2
    go_ret
    exact⟨by rw[HE.out];rfl,HB2.out⟩
  · obtain⟨e1,e2,e3,e4⟩:=emp_f hatx hae;have HE:=z00.mk (show res=[110,111,116,32]++atomL x.f1 by have hk:=HK.out;rw[←HRE.out];unfold litL;rw[if_neg (fun h=>absurd (hk.symm.trans h.1) (by decide)),if_pos ⟨HK.out,hrr,hae⟩]);have hsz:atx.size≤200000:=by rw[←hatx,z1x];exact HAL.out
    have HAX:=z00.mk hatx;have kq:(9223372036854775807<4+atx.size)=False:=eq_false (by omega);clear hrr hae hatx;go_wp2
    go_ret
    exact⟨by rw[HE.out,←HAX.out];exact z6d (ba_eq (by simp)),HB2.out⟩

def lit7.T:Bool × List (List Nat × List Nat):=(true,[([],[]),([0],[0]),([1],[1]),([2],[2]),([],[]),([4],[4]),([3,5],[3,5]),([6],[6]),([],[]),([8],[8]),([9,2],[9]),([7,10],[7,10]),([11,10,0,1,2,3,4,5,6,7,8,9,10,11],[11])])
def lit7.B:List Nat:=[0,1,3,7,0,16,63,127,0,256,775,2047,4095]
theorem lit7.tab:rtab .any (opsOf Tryz.f44 7)=lit7.T:=by kernel_rfl
theorem lit7.bits:z3y lit7.T.2 lit7.B=true:=by kernel_rfl
set_option maxHeartbeats 8000000 in
set_option maxRecDepth 100000 in
theorem ziv (x:LtS) (A2:Option Addr) (c2:Nat) (A16:Option Addr) (c16:Nat) (j:Int) (w:World) (hLW:LaidW w) (hx:okL x) (hA2:Kd.C k60 w A2 x.f1.f1.length x.f1.f1) (hA16:Kd.C k69 w A16 x.f6.length x.f6) (hk:x.f0=3) :
 Calls Tryz.prog 44 #[.int .i64 j,.agg (litC x A2 c2 A16 c16)] w fun e w'=>e=.returned (.string (baL (litL x)))∧Below w.heap.size w w':=by
 obtain⟨nb,enb⟩:∃n,w.heap.size=n:=⟨_,rfl⟩
 obtain⟨W,hW⟩:∃W,w.alloc (.cells (litC x A2 c2 A16 c16) 62)=W:=⟨_,rfl⟩
 have hBW:Below w.heap.size w W:=hW ▸ z03 (Below.refl w.heap.size w) (.cells (litC x A2 c2 A16 c16) 62);have hN:=z0q w (.cells (litC x A2 c2 A16 c16) 62);rw[enb,hW]at hN;have HAT:=z00.mk (z4v x.f1 A2 c2 W (hLW.below hBW) (Kd.C_below hA2 hBW) hx.1);have HPA:=z00.mk (fun(V:World) (h:Below w.heap.size w V)=>z5a x.f6 A16 c16 V (hLW.below h) (Kd.C_below hA16 h) hx.2.2.2.2.1 hx.2.2.2.2.2.1);have HRP:=z00.mk (fun(V:World) (h:Below w.heap.size w V)=>z3f x.f6 A16 c16 V (hLW.below h) (Kd.C_below hA16 h) hx.2.2.2.2.1 hx.2.2.2.2.2.1);have HRS:=z00.mk (fun(n:Nat) (hn:n≤3) (a o p:Bool) (hc:(a=true∧o=false∧p=false)∨(a=false∧o=true∧p=false)∨(a=false∧o=false∧p=true)) (V:World) (h:LaidW V)=>z6l x A2 c2 A16 c16 n hn a o p hc V h hx);have HTA:=z00.mk (fun V (h:LaidW V)=>z2b x.f3 V h hx.2.1);have HTB:=z00.mk (fun V (h:LaidW V)=>z2b x.f4 V h hx.2.2.1);have HTC:=z00.mk (fun V (h:LaidW V)=>z2b x.f5 V h hx.2.2.2.1);have HWD:=z00.mk (fun V=>z4l.calls x.f2 (baL (wordL x.f2.data.toList)) V (zb5 x.f2));have hla:=z27 x.f3 hx.2.1;have hlb:=z27 x.f4 hx.2.2.1;have hlc:=z27 x.f5 hx.2.2.2.1;have hlp:=z5u x.f6;have hlw:=z5z x.f2.data.toList;have hat:=z5j x.f1 0 hx.1;obtain⟨res,hres⟩:∃r,litL x=r:=⟨_,rfl⟩
 have HRE:=z00.mk hres;have HLW:=z00.mk hLW;have HBW:=z00.mk hBW;have HN:=z00.mk hN;rw[hres];simp only[litC]at HAT HRS HN hW ⊢;have HW:=z00.mk hW;have d1:W.cell? ⟨nb,1,none⟩=some (.string x.f1.f0):=(z01 HN.out 1).trans rfl;have d2:W.cell? ⟨nb,2,none⟩=some (.slice A2 x.f1.f1.length c2):=(z01 HN.out 2).trans rfl;have k1:(x.f0==1)=false:=beq_eq_false_iff_ne.2 (by omega);have k2:(x.f0==2)=false:=beq_eq_false_iff_ne.2 (by omega);have k3:(x.f0==3)=true:=beq_iff_eq.2 hk;have k4:(x.f0==4)=false:=beq_eq_false_iff_ne.2 (by omega);have k5:(x.f0==5)=false:=beq_eq_false_iff_ne.2 (by omega);have HLN:=z00.mk (And.intro hla (And.intro hlb (And.intro hlc (And.intro hlp hlw))));have HK:=z00.mk hk;clear hk hLW hx hA2 hA16 hres hBW hN hla hlb hlc hlp hlw hat;go_enter Tryz.func44,Tryz.ntmps44
 go_wp2_with fail
 refine HAT.out.mono ?_;rintro e w1 ⟨rfl,hb⟩;have HB1:=z00.mk (z09 HBW.out HBW.out.size hb);have HN1:=z00.mk (z0b HN.out hb);clear hb hW d1 d2 HAT enb;have d0:w1.cell? ⟨nb,0,none⟩=some (.int .i64 x.f0):=(z01 HN1.out 0).trans rfl;have d1:w1.cell? ⟨nb,1,none⟩=some (.string x.f1.f0):=(z01 HN1.out 1).trans rfl;have d2:w1.cell? ⟨nb,2,none⟩=some (.slice A2 x.f1.f1.length c2):=(z01 HN1.out 2).trans rfl;have d3:w1.cell? ⟨nb,3,none⟩=some (.string x.f2):=(z01 HN1.out 3).trans rfl;have d4:w1.cell? ⟨nb,4,none⟩=some (.string x.f3.f0):=(z01 HN1.out 4).trans rfl;have d5:w1.cell? ⟨nb,5,none⟩=some (.int .i64 x.f3.f1.f0):=(z01 HN1.out 5).trans rfl;have d6:w1.cell? ⟨nb,6,none⟩=some (.int .i64 x.f3.f1.f1):=(z01 HN1.out 6).trans rfl;have d7:w1.cell? ⟨nb,7,none⟩=some (.string x.f3.f1.f2):=(z01 HN1.out 7).trans rfl;have d8:w1.cell? ⟨nb,8,none⟩=some (.string x.f4.f0):=(z01 HN1.out 8).trans rfl;have d9:w1.cell? ⟨nb,9,none⟩=some (.int .i64 x.f4.f1.f0):=(z01 HN1.out 9).trans rfl;have d10:w1.cell? ⟨nb,10,none⟩=some (.int .i64 x.f4.f1.f1):=(z01 HN1.out 10).trans rfl;have d11:w1.cell? ⟨nb,11,none⟩=some (.string x.f4.f1.f2):=(z01 HN1.out 11).trans rfl;have d12:w1.cell? ⟨nb,12,none⟩=some (.string x.f5.f0):=(z01 HN1.out 12).trans rfl;have d13:w1.cell? ⟨nb,13,none⟩=some (.int .i64 x.f5.f1.f0):=(z01 HN1.out 13).trans rfl;have d14:w1.cell? ⟨nb,14,none⟩=some (.int .i64 x.f5.f1.f1):=(z01 HN1.out 14).trans rfl;have d15:w1.cell? ⟨nb,15,none⟩=some (.string x.f5.f1.f2):=(z01 HN1.out 15).trans rfl;have d16:w1.cell? ⟨nb,16,none⟩=some (.slice A16 x.f6.length c16):=(z01 HN1.out 16).trans rfl;obtain⟨atx,hatx⟩:∃b,baL (atomL x.f1)=b:=⟨_,rfl⟩
 rw[hatx];obtain⟨cnd,hcn⟩:∃b,(restB x 2 false true false&&compB x.f2.data.toList)=b:=⟨_,rfl⟩
 have HCN0:=z00.mk hcn;have HCN:=z00.mk hcn;clear hcn hatx
 go_upto_region 6 with (fail)
 go_cut [32] (fun v32 wc=>v32=.bool cnd∧z00 (wc.heap[nb]?=some (.cells #[.int .i64 x.f0,.string x.f1.f0,.slice A2 x.f1.f1.length c2,.string x.f2,.string x.f3.f0,.int .i64 x.f3.f1.f0,.int .i64 x.f3.f1.f1,.string x.f3.f1.f2,.string x.f4.f0,.int .i64 x.f4.f1.f0,.int .i64 x.f4.f1.f1,.string x.f4.f1.f2,.string x.f5.f0,.int .i64 x.f5.f1.f0,.int .i64 x.f5.f1.f1,.string x.f5.f1.f2,.slice A16 x.f6.length c16] 62 (0,0)))∧z00 (Below w.heap.size w wc))
 case first =>
  go_wp2_with fail
  refine(HRS.out 2 (by decide) false true false (by decide) _ (HLW.out.below HB1.out)).mono ?_;rintro e w2 ⟨rfl,hb⟩;have HB2:=z00.mk (z09 HB1.out HB1.out.size hb);have HN2:=z00.mk (z0b HN1.out hb);clear hb d0 d1 d2 d3 d4 d5 d6 d7 d8 d9 d10 d11 d12 d13 d14 d15 d16;have d0:w2.cell? ⟨nb,0,none⟩=some (.int .i64 x.f0):=(z01 HN2.out 0).trans rfl;have d3:w2.cell? ⟨nb,3,none⟩=some (.string x.f2):=(z01 HN2.out 3).trans rfl;have d4:w2.cell? ⟨nb,4,none⟩=some (.string x.f3.f0):=(z01 HN2.out 4).trans rfl;have d16:w2.cell? ⟨nb,16,none⟩=some (.slice A16 x.f6.length c16):=(z01 HN2.out 16).trans rfl;obtain⟨rr,hrr⟩:∃b,restB x 2 false true false=b:=⟨_,rfl⟩
  rw[hrr]at HCN ⊢;clear hrr
  cases rr with
  |false =>
   have HC2:=z00.mk (show cnd=false by rw[←HCN.out];rfl);go_wp2;go_meet
   case rel=>exact⟨by first|(rw[HC2.out];done)|(rw[HC2.out];rfl),HN2,HB2⟩
  |true =>
   obtain⟨t1,ht1⟩:∃b,(x.f2.data.toList==([60]:List UInt8))=b:=⟨_,rfl⟩
   obtain⟨t2,ht2⟩:∃b,(x.f2.data.toList==([60,61]:List UInt8))=b:=⟨_,rfl⟩
   obtain⟨t3,ht3⟩:∃b,(x.f2.data.toList==([61]:List UInt8))=b:=⟨_,rfl⟩
   obtain⟨t4,ht4⟩:∃b,(x.f2.data.toList==([33,61]:List UInt8))=b:=⟨_,rfl⟩
   have HC3:=z00.mk (show(t1||(t2||(t3||t4)))=cnd by rw[←ht1,←ht2,←ht3,←ht4];exact HCN.out);have g1:(x.f2.toList==([60]:List UInt8))=t1:=by rw[z2y];exact ht1
   have g2:(x.f2.toList==([60,61]:List UInt8))=t2:=by rw[z2y];exact ht2
   have g3:(x.f2.toList==([61]:List UInt8))=t3:=by rw[z2y];exact ht3
   have g4:(x.f2.toList==([33,61]:List UInt8))=t4:=by rw[z2y];exact ht4
   clear ht1 ht2 ht3 ht4
   cases t1 with
   |true =>
    go_wp2;go_meet
    case rel=>exact⟨by first|(rw[←HC3.out];done)|(rw[←HC3.out];rfl),HN2,HB2⟩
   |false =>
    cases t2 with
    |true =>
     go_wp2;go_meet
     case rel=>exact⟨by first|(rw[←HC3.out];done)|(rw[←HC3.out];rfl),HN2,HB2⟩
    |false =>
     cases t3 with
     |true =>
      go_wp2;go_meet
      case rel=>exact⟨by first|(rw[←HC3.out];done)|(rw[←HC3.out];rfl),HN2,HB2⟩
     |false =>
      cases t4
      all_goals
       go_wp2;go_meet
       case rel=>exact⟨by first|(rw[←HC3.out];done)|(rw[←HC3.out];rfl),HN2,HB2⟩
 case rest =>
  clear HCN HB1 HN1 d0 d1 d2 d3 d4 d5 d6 d7 d8 d9 d10 d11 d12 d13 d14 d15 d16;obtain⟨rfl,HN2,HB2⟩:=hcut;have d0:wc.cell? ⟨nb,0,none⟩=some (.int .i64 x.f0):=(z01 HN2.out 0).trans rfl
  cases cnd with
  |false =>
   have HE:=z00.mk (show res=[] by have hk:=HK.out;have hc:=HCN0.out;rw[←HRE.out];unfold litL;rw[if_neg (fun h=>absurd (hk.symm.trans h.1) (by decide)),if_neg (fun h=>absurd (hk.symm.trans h.1) (by decide)),if_neg (fun h=>by rw[h.2.1,h.2.2]at hc;cases hc),if_neg (fun h=>absurd (hk.symm.trans h.1) (by decide)),if_neg (fun h=>absurd (hk.symm.trans h.1) (by decide))]);clear HCN0;go_wp2
   go_ret
   exact⟨by rw[HE.out];rfl,HB2.out⟩
  |true =>
   have HE:=z00.mk (show res=termL x.f3++([32]++(x.f2.data.toList++([32]++termL x.f4))) by have hk:=HK.out;have hc:=HCN0.out;rw[←HRE.out];unfold litL;rw[if_neg (fun h=>absurd (hk.symm.trans h.1) (by decide)),if_neg (fun h=>absurd (hk.symm.trans h.1) (by decide)),if_pos (⟨hk,(Bool.and_eq_true_iff.1 hc).1,(Bool.and_eq_true_iff.1 hc).2⟩)]);have hop:=zd4 (Bool.and_eq_true_iff.1 HCN0.out).2;rw[z0i]at hop;obtain⟨la,laE⟩:∃b,baL (termL x.f3)=b:=⟨_,rfl⟩
   have laS:la.size≤40:=by rw[←laE,z1x];exact HLN.out.1
   rw[laE]at HTA;have laH:=z00.mk laE;clear laE;obtain⟨lb,lbE⟩:∃b,baL (termL x.f4)=b:=⟨_,rfl⟩
   have lbS:lb.size≤40:=by rw[←lbE,z1x];exact HLN.out.2.1
   rw[lbE]at HTB;have lbH:=z00.mk lbE;clear lbE;have kq0:(9223372036854775807<la.size+1)=False:=eq_false (by omega);have kq1:(9223372036854775807<la.size+1+x.f2.size)=False:=eq_false (by omega);have kq2:(9223372036854775807<la.size+1+x.f2.size+1)=False:=eq_false (by omega);have kq3:(9223372036854775807<la.size+1+x.f2.size+1+lb.size)=False:=eq_false (by omega);have HNV:=z00.mk (z0h HN2.out);clear HCN0 d0;go_wp2;have HBV:=z00.mk (z05 HB2.out);obtain⟨V0,hV0⟩:∃V,wc=V:=⟨_,rfl⟩
   rw[hV0]at HBV HNV ⊢;clear hV0 HB2 HN2;refine z68 (n:=13) (S:=fun w'=>w'.heap[nb]?=some (.cells #[.int .i64 x.f0,.string x.f1.f0,.slice A2 x.f1.f1.length c2,.string x.f2,.string x.f3.f0,.int .i64 x.f3.f1.f0,.int .i64 x.f3.f1.f1,.string x.f3.f1.f2,.string x.f4.f0,.int .i64 x.f4.f1.f0,.int .i64 x.f4.f1.f1,.string x.f4.f1.f2,.string x.f5.f0,.int .i64 x.f5.f1.f0,.int .i64 x.f5.f1.f1,.string x.f5.f1.f2,.slice A16 x.f6.length c16] 62 (0,0))) (ds:=[]) #[false,false,false,false,false,false,false,false,false,false,false,false,false] (by kernel_rfl) rfl rfl (HNV.out) (fun hHeld=>?_);refine z39 lit7.tab lit7.bits (fun HT_ HW_=>?_)
   generalize V0.drew=V at HBV hHeld ⊢
   refine pure_ (i:=0) (N:=some 60) (v:=?_) (a':=?_) #[true,false,false,false,false,false,false,false,false,false,false,false,false] rfl rfl (z0r HT_.out (by kernel_rfl)) (fun _ _ _ h=>h) (Or.inl ⟨by rfl,?_⟩) ?_ ?_
   rotate_left
   · intro w'
     go_simp
     with_reducible rfl
   rotate_left
   · simp only[Act.put,List.setIfInBounds_toArray,List.set_cons_zero,List.set_cons_succ,i64_w,i32_w];rfl
   refine take_ (i:=1) (N:=some 61) (v:=?_) (a':=?_) #[true,true,false,false,false,false,false,false,false,false,false,false,false] rfl rfl (z1j HT_.out HW_.out (by kernel_rfl)) (fun _ _ _ h=>h) (Or.inl ⟨by rfl,?_⟩) hHeld ?_ ?_
   rotate_left
   · intro w' s1;have f4:w'.cell? ⟨nb,4,none⟩=some (.string x.f3.f0):=(z01 s1 4).trans rfl;have f5:w'.cell? ⟨nb,5,none⟩=some (.int .i64 x.f3.f1.f0):=(z01 s1 5).trans rfl;have f6:w'.cell? ⟨nb,6,none⟩=some (.int .i64 x.f3.f1.f1):=(z01 s1 6).trans rfl;have f7:w'.cell? ⟨nb,7,none⟩=some (.string x.f3.f1.f2):=(z01 s1 7).trans rfl;clear s1
     go_simp
     with_reducible rfl
   rotate_left
   · simp only[Act.put,List.setIfInBounds_toArray,List.set_cons_zero,List.set_cons_succ,i64_w,i32_w];rfl
   refine pure_ (i:=4) (N:=some 64) (v:=?_) (a':=?_) #[true,true,false,false,true,false,false,false,false,false,false,false,false] rfl rfl (z0r HT_.out (by kernel_rfl)) (fun _ _ _ h=>h) (Or.inl ⟨by rfl,?_⟩) ?_ ?_
   rotate_left
   · intro w'
     go_simp
     with_reducible rfl
   rotate_left
   · simp only[Act.put,List.setIfInBounds_toArray,List.set_cons_zero,List.set_cons_succ,i64_w,i32_w];rfl
   refine take_ (i:=5) (N:=some 65) (v:=?_) (a':=?_) #[true,true,false,false,true,true,false,false,false,false,false,false,false] rfl rfl (z1j HT_.out HW_.out (by kernel_rfl)) (fun _ _ _ h=>h) (Or.inl ⟨by rfl,?_⟩) hHeld ?_ ?_
   rotate_left
   · intro w' s1;have f3:w'.cell? ⟨nb,3,none⟩=some (.string x.f2):=(z01 s1 3).trans rfl;clear s1
     go_simp
     with_reducible rfl
   rotate_left
   · simp only[Act.put,List.setIfInBounds_toArray,List.set_cons_zero,List.set_cons_succ,i64_w,i32_w];rfl
   refine pure_ (i:=8) (N:=some 68) (v:=?_) (a':=?_) #[true,true,false,false,true,true,false,false,true,false,false,false,false] rfl rfl (z0r HT_.out (by kernel_rfl)) (fun _ _ _ h=>h) (Or.inl ⟨by rfl,?_⟩) ?_ ?_
   rotate_left
   · intro w'
     go_simp
     with_reducible rfl
   rotate_left
   · simp only[Act.put,List.setIfInBounds_toArray,List.set_cons_zero,List.set_cons_succ,i64_w,i32_w];rfl
   refine take_ (i:=9) (N:=some 69) (v:=?_) (a':=?_) #[true,true,false,false,true,true,false,false,true,true,false,false,false] rfl rfl (z1j HT_.out HW_.out (by kernel_rfl)) (fun _ _ _ h=>h) (Or.inl ⟨by rfl,?_⟩) hHeld ?_ ?_
   rotate_left
   · intro w' s1;have f8:w'.cell? ⟨nb,8,none⟩=some (.string x.f4.f0):=(z01 s1 8).trans rfl;have f9:w'.cell? ⟨nb,9,none⟩=some (.int .i64 x.f4.f1.f0):=(z01 s1 9).trans rfl;have f10:w'.cell? ⟨nb,10,none⟩=some (.int .i64 x.f4.f1.f1):=(z01 s1 10).trans rfl;have f11:w'.cell? ⟨nb,11,none⟩=some (.string x.f4.f1.f2):=(z01 s1 11).trans rfl;clear s1
     go_simp
     with_reducible rfl
   rotate_left
   · simp only[Act.put,List.setIfInBounds_toArray,List.set_cons_zero,List.set_cons_succ,i64_w,i32_w];rfl
   refine one_ (i:=2) (N:=some 62) #[true,true,true,false,true,true,false,false,true,true,false,false,false] rfl rfl (z2a HT_.out (by kernel_rfl)) (by decide) (fun K hK=>?_);refine goes_ Tryz.func70 (by kernel_rfl) rfl #[.agg #[.string x.f3.f0,.int .i64 x.f3.f1.f0,.int .i64 x.f3.f1.f1,.string x.f3.f1.f2]] (by rfl) rfl rfl zA03 ?_;refine(HTA.out _ (HLW.out.below HBV.out)).mono ?_;rintro e V2 ⟨rfl,hb⟩;refine⟨_,rfl,?_⟩;replace HBV:=z00.mk (z09 HBV.out HBV.out.size hb);replace hHeld:=z0b hHeld hb;clear hb;refine hK.out _ _ (hHeld) (fun hHeld=>?_);clear hK K;refine norm_ (a':=?_) ?_ ?_
   rotate_left
   · show Act.put _ (some 62) _=_;simp only[Act.put,List.setIfInBounds_toArray,List.set_cons_zero,List.set_cons_succ,i64_w,i32_w];rfl
   refine pure_ (i:=3) (N:=some 63) (v:=?_) (a':=?_) #[true,true,true,true,true,true,false,false,true,true,false,false,false] rfl rfl (z0r HT_.out (by kernel_rfl)) (fun _ _ _ h=>h) (Or.inl ⟨by rfl,?_⟩) ?_ ?_
   rotate_left
   · intro w'
     go_simp
     with_reducible rfl
   rotate_left
   · simp only[Act.put,List.setIfInBounds_toArray,List.set_cons_zero,List.set_cons_succ,i64_w,i32_w];rfl
   refine pure_ (i:=6) (N:=some 66) (v:=?_) (a':=?_) #[true,true,true,true,true,true,true,false,true,true,false,false,false] rfl rfl (z0r HT_.out (by kernel_rfl)) (fun _ _ _ h=>h) (Or.inl ⟨by rfl,?_⟩) ?_ ?_
   rotate_left
   · intro w'
     go_simp
     with_reducible rfl
   rotate_left
   · simp only[Act.put,List.setIfInBounds_toArray,List.set_cons_zero,List.set_cons_succ,i64_w,i32_w];rfl
   refine pure_ (i:=7) (N:=some 67) (v:=?_) (a':=?_) #[true,true,true,true,true,true,true,true,true,true,false,false,false] rfl rfl (z0r HT_.out (by kernel_rfl)) (fun _ _ _ h=>h) (Or.inl ⟨by rfl,?_⟩) ?_ ?_
   rotate_left
   · intro w'
     go_simp
     with_reducible rfl
   rotate_left
   · simp only[Act.put,List.setIfInBounds_toArray,List.set_cons_zero,List.set_cons_succ,i64_w,i32_w];rfl
   refine one_ (i:=10) (N:=some 70) #[true,true,true,true,true,true,true,true,true,true,true,false,false] rfl rfl (z2a HT_.out (by kernel_rfl)) (by decide) (fun K hK=>?_);refine goes_ Tryz.func70 (by kernel_rfl) rfl #[.agg #[.string x.f4.f0,.int .i64 x.f4.f1.f0,.int .i64 x.f4.f1.f1,.string x.f4.f1.f2]] (by rfl) rfl rfl zA03 ?_;refine(HTB.out _ (HLW.out.below HBV.out)).mono ?_;rintro e V2 ⟨rfl,hb⟩;refine⟨_,rfl,?_⟩;replace HBV:=z00.mk (z09 HBV.out HBV.out.size hb);replace hHeld:=z0b hHeld hb;clear hb;refine hK.out _ _ (hHeld) (fun hHeld=>?_);clear hK K;refine norm_ (a':=?_) ?_ ?_
   rotate_left
   · show Act.put _ (some 70) _=_;simp only[Act.put,List.setIfInBounds_toArray,List.set_cons_zero,List.set_cons_succ,i64_w,i32_w];rfl
   refine pure_ (i:=11) (N:=some 71) (v:=?_) (a':=?_) #[true,true,true,true,true,true,true,true,true,true,true,true,false] rfl rfl (z0r HT_.out (by kernel_rfl)) (fun _ _ _ h=>h) (Or.inl ⟨by rfl,?_⟩) ?_ ?_
   rotate_left
   · intro w'
     go_simp
     with_reducible rfl
   rotate_left
   · simp only[Act.put,List.setIfInBounds_toArray,List.set_cons_zero,List.set_cons_succ,i64_w,i32_w];rfl
   refine pure_ (i:=12) (N:=some 4) (v:=?_) (a':=?_) #[true,true,true,true,true,true,true,true,true,true,true,true,true] rfl rfl (z0r HT_.out (by kernel_rfl)) (fun _ _ _ h=>h) (Or.inl ⟨by rfl,?_⟩) ?_ ?_
   rotate_left
   · intro w'
     go_simp
     with_reducible rfl
   rotate_left
   · simp only[Act.put,List.setIfInBounds_toArray,List.set_cons_zero,List.set_cons_succ,i64_w,i32_w];rfl
   refine done_ (z4w HT_.out (by kernel_rfl)) ?_;go_wp2
   go_ret
   exact⟨by rw[HE.out,←laH.out,←lbH.out];exact z6d (ba_eq (by simp)),HBV.out⟩

def lit9.T:Bool × List (List Nat × List Nat):=(true,[([],[]),([0],[0]),([1],[1]),([2],[2]),([],[]),([4],[4]),([5,2],[5]),([3,6],[3,6]),([],[]),([8],[8]),([9,6],[9]),([7,10],[7,10]),([],[]),([12],[12]),([13,10],[13]),([11,14],[11,14]),([15,14,0,1,2,3,4,5,6,7,8,9,10,11,12,13,14,15],[15])])
def lit9.B:List Nat:=[0,1,3,7,0,16,55,127,0,256,887,2047,0,4096,14199,32767,65535]
theorem lit9.tab:rtab .any (opsOf Tryz.f44 9)=lit9.T:=by kernel_rfl
theorem lit9.bits:z3y lit9.T.2 lit9.B=true:=by kernel_rfl
set_option maxHeartbeats 8000000 in
set_option maxRecDepth 100000 in
theorem zj9 (x:LtS) (A2:Option Addr) (c2:Nat) (A16:Option Addr) (c16:Nat) (j:Int) (w:World) (hLW:LaidW w) (hx:okL x) (hA2:Kd.C k60 w A2 x.f1.f1.length x.f1.f1) (hA16:Kd.C k69 w A16 x.f6.length x.f6) (hk:x.f0=4) :
 Calls Tryz.prog 44 #[.int .i64 j,.agg (litC x A2 c2 A16 c16)] w fun e w'=>e=.returned (.string (baL (litL x)))∧Below w.heap.size w w':=by
 obtain⟨nb,enb⟩:∃n,w.heap.size=n:=⟨_,rfl⟩
 obtain⟨W,hW⟩:∃W,w.alloc (.cells (litC x A2 c2 A16 c16) 62)=W:=⟨_,rfl⟩
 have hBW:Below w.heap.size w W:=hW ▸ z03 (Below.refl w.heap.size w) (.cells (litC x A2 c2 A16 c16) 62);have hN:=z0q w (.cells (litC x A2 c2 A16 c16) 62);rw[enb,hW]at hN;have HAT:=z00.mk (z4v x.f1 A2 c2 W (hLW.below hBW) (Kd.C_below hA2 hBW) hx.1);have HPA:=z00.mk (fun(V:World) (h:Below w.heap.size w V)=>z5a x.f6 A16 c16 V (hLW.below h) (Kd.C_below hA16 h) hx.2.2.2.2.1 hx.2.2.2.2.2.1);have HRP:=z00.mk (fun(V:World) (h:Below w.heap.size w V)=>z3f x.f6 A16 c16 V (hLW.below h) (Kd.C_below hA16 h) hx.2.2.2.2.1 hx.2.2.2.2.2.1);have HRS:=z00.mk (fun(n:Nat) (hn:n≤3) (a o p:Bool) (hc:(a=true∧o=false∧p=false)∨(a=false∧o=true∧p=false)∨(a=false∧o=false∧p=true)) (V:World) (h:LaidW V)=>z6l x A2 c2 A16 c16 n hn a o p hc V h hx);have HTA:=z00.mk (fun V (h:LaidW V)=>z2b x.f3 V h hx.2.1);have HTB:=z00.mk (fun V (h:LaidW V)=>z2b x.f4 V h hx.2.2.1);have HTC:=z00.mk (fun V (h:LaidW V)=>z2b x.f5 V h hx.2.2.2.1);have HWD:=z00.mk (fun V=>z4l.calls x.f2 (baL (wordL x.f2.data.toList)) V (zb5 x.f2));have hla:=z27 x.f3 hx.2.1;have hlb:=z27 x.f4 hx.2.2.1;have hlc:=z27 x.f5 hx.2.2.2.1;have hlp:=z5u x.f6;have hlw:=z5z x.f2.data.toList;have hat:=z5j x.f1 0 hx.1;obtain⟨res,hres⟩:∃r,litL x=r:=⟨_,rfl⟩
 have HRE:=z00.mk hres;have HLW:=z00.mk hLW;have HBW:=z00.mk hBW;have HN:=z00.mk hN;rw[hres];simp only[litC]at HAT HRS HN hW ⊢;have HW:=z00.mk hW;have d1:W.cell? ⟨nb,1,none⟩=some (.string x.f1.f0):=(z01 HN.out 1).trans rfl;have d2:W.cell? ⟨nb,2,none⟩=some (.slice A2 x.f1.f1.length c2):=(z01 HN.out 2).trans rfl;have k1:(x.f0==1)=false:=beq_eq_false_iff_ne.2 (by omega);have k2:(x.f0==2)=false:=beq_eq_false_iff_ne.2 (by omega);have k3:(x.f0==3)=false:=beq_eq_false_iff_ne.2 (by omega);have k4:(x.f0==4)=true:=beq_iff_eq.2 hk;have k5:(x.f0==5)=false:=beq_eq_false_iff_ne.2 (by omega);have HLN:=z00.mk (And.intro hla (And.intro hlb (And.intro hlc (And.intro hlp hlw))));have HK:=z00.mk hk;clear hk hLW hx hA2 hA16 hres hBW hN hla hlb hlc hlp hlw hat;go_enter Tryz.func44,Tryz.ntmps44
 go_wp2_with fail
 refine HAT.out.mono ?_;rintro e w1 ⟨rfl,hb⟩;have HB1:=z00.mk (z09 HBW.out HBW.out.size hb);have HN1:=z00.mk (z0b HN.out hb);clear hb hW d1 d2 HAT enb;have d0:w1.cell? ⟨nb,0,none⟩=some (.int .i64 x.f0):=(z01 HN1.out 0).trans rfl;have d1:w1.cell? ⟨nb,1,none⟩=some (.string x.f1.f0):=(z01 HN1.out 1).trans rfl;have d2:w1.cell? ⟨nb,2,none⟩=some (.slice A2 x.f1.f1.length c2):=(z01 HN1.out 2).trans rfl;have d3:w1.cell? ⟨nb,3,none⟩=some (.string x.f2):=(z01 HN1.out 3).trans rfl;have d4:w1.cell? ⟨nb,4,none⟩=some (.string x.f3.f0):=(z01 HN1.out 4).trans rfl;have d5:w1.cell? ⟨nb,5,none⟩=some (.int .i64 x.f3.f1.f0):=(z01 HN1.out 5).trans rfl;have d6:w1.cell? ⟨nb,6,none⟩=some (.int .i64 x.f3.f1.f1):=(z01 HN1.out 6).trans rfl;have d7:w1.cell? ⟨nb,7,none⟩=some (.string x.f3.f1.f2):=(z01 HN1.out 7).trans rfl;have d8:w1.cell? ⟨nb,8,none⟩=some (.string x.f4.f0):=(z01 HN1.out 8).trans rfl;have d9:w1.cell? ⟨nb,9,none⟩=some (.int .i64 x.f4.f1.f0):=(z01 HN1.out 9).trans rfl;have d10:w1.cell? ⟨nb,10,none⟩=some (.int .i64 x.f4.f1.f1):=(z01 HN1.out 10).trans rfl;have d11:w1.cell? ⟨nb,11,none⟩=some (.string x.f4.f1.f2):=(z01 HN1.out 11).trans rfl;have d12:w1.cell? ⟨nb,12,none⟩=some (.string x.f5.f0):=(z01 HN1.out 12).trans rfl;have d13:w1.cell? ⟨nb,13,none⟩=some (.int .i64 x.f5.f1.f0):=(z01 HN1.out 13).trans rfl;have d14:w1.cell? ⟨nb,14,none⟩=some (.int .i64 x.f5.f1.f1):=(z01 HN1.out 14).trans rfl;have d15:w1.cell? ⟨nb,15,none⟩=some (.string x.f5.f1.f2):=(z01 HN1.out 15).trans rfl;have d16:w1.cell? ⟨nb,16,none⟩=some (.slice A16 x.f6.length c16):=(z01 HN1.out 16).trans rfl;obtain⟨atx,hatx⟩:∃b,baL (atomL x.f1)=b:=⟨_,rfl⟩
 rw[hatx];obtain⟨cnd,hcn⟩:∃b,(restB x 3 false true false&&(!(x.f3.f0.data.toList).isEmpty&&!(wordL x.f2.data.toList).isEmpty))=b:=⟨_,rfl⟩
 have HCN0:=z00.mk hcn;have HCN:=z00.mk hcn;clear hcn hatx
 go_upto_region 8 with (fail)
 go_cut [72] (fun v72 wc=>v72=.bool cnd∧z00 (wc.heap[nb]?=some (.cells #[.int .i64 x.f0,.string x.f1.f0,.slice A2 x.f1.f1.length c2,.string x.f2,.string x.f3.f0,.int .i64 x.f3.f1.f0,.int .i64 x.f3.f1.f1,.string x.f3.f1.f2,.string x.f4.f0,.int .i64 x.f4.f1.f0,.int .i64 x.f4.f1.f1,.string x.f4.f1.f2,.string x.f5.f0,.int .i64 x.f5.f1.f0,.int .i64 x.f5.f1.f1,.string x.f5.f1.f2,.slice A16 x.f6.length c16] 62 (0,0)))∧z00 (Below w.heap.size w wc))
 case first =>
  go_wp2_with fail
  refine(HRS.out 3 (by decide) false true false (by decide) _ (HLW.out.below HB1.out)).mono ?_;rintro e w2 ⟨rfl,hb⟩;have HB2:=z00.mk (z09 HB1.out HB1.out.size hb);have HN2:=z00.mk (z0b HN1.out hb);clear hb d0 d1 d2 d3 d4 d5 d6 d7 d8 d9 d10 d11 d12 d13 d14 d15 d16;have d0:w2.cell? ⟨nb,0,none⟩=some (.int .i64 x.f0):=(z01 HN2.out 0).trans rfl;have d3:w2.cell? ⟨nb,3,none⟩=some (.string x.f2):=(z01 HN2.out 3).trans rfl;have d4:w2.cell? ⟨nb,4,none⟩=some (.string x.f3.f0):=(z01 HN2.out 4).trans rfl;have d16:w2.cell? ⟨nb,16,none⟩=some (.slice A16 x.f6.length c16):=(z01 HN2.out 16).trans rfl;obtain⟨rr,hrr⟩:∃b,restB x 3 false true false=b:=⟨_,rfl⟩
  rw[hrr]at HCN ⊢;clear hrr
  cases rr with
  |false =>
   have HC2:=z00.mk (show cnd=false by rw[←HCN.out];rfl);go_wp2;go_meet
   case rel=>exact⟨by first|(rw[HC2.out];done)|(rw[HC2.out];rfl),HN2,HB2⟩
  |true =>
   by_cases hv0:x.f3.f0.data.toList=[]
   · have e5:(x.f3.f0.toList==([]:List UInt8))=true:=by rw[beq_iff_eq,z2y];exact hv0
     have e6:(x.f3.f0.toList==(⟨#[]⟩:ByteArray).toList)=true:=by rw[z2k];exact e5
     have e7:(x.f3.f0.toList !=([]:List UInt8))=false:=by rw[bne,e5];rfl
     have e8:(x.f3.f0.toList !=(⟨#[]⟩:ByteArray).toList)=false:=by rw[bne,e6];rfl
     have HC3:=z00.mk (show cnd=false by rw[←HCN.out,hv0];rfl);clear hv0;go_wp2;go_meet
     case rel=>exact⟨by first|(rw[HC3.out];done)|(rw[HC3.out];rfl),HN2,HB2⟩
   · have e5:(x.f3.f0.toList==([]:List UInt8))=false:=by rw[beq_eq_false_iff_ne,z2y];exact hv0
     have e6:(x.f3.f0.toList==(⟨#[]⟩:ByteArray).toList)=false:=by rw[z2k];exact e5
     have e7:(x.f3.f0.toList !=([]:List UInt8))=true:=by rw[bne,e5];rfl
     have e8:(x.f3.f0.toList !=(⟨#[]⟩:ByteArray).toList)=true:=by rw[bne,e6];rfl
     have HC3:=z00.mk (show cnd=!(wordL x.f2.data.toList).isEmpty by rw[←HCN.out,neB hv0];rfl);clear hv0
     go_wp2_with fail
     refine(HWD.out _).mono ?_;rintro e w3 ⟨rfl,nd,rfl⟩;have HN3:=z00.mk (z0f HN2.out nd);have HB3:=z00.mk (z04 HB2.out nd);obtain⟨wd,hwd⟩:∃b,baL (wordL x.f2.data.toList)=b:=⟨_,rfl⟩
     rw[hwd]
     by_cases hw0:wordL x.f2.data.toList=[]
     · obtain⟨e11,e12,e13,e14⟩:=emp_t hwd hw0;have HC4:=z00.mk (show cnd=false by rw[HC3.out,hw0];rfl);clear hwd hw0;go_wp2;go_meet
       case rel=>exact⟨by first|(rw[HC4.out];done)|(rw[HC4.out];rfl),HN3,HB3⟩
     · obtain⟨e11,e12,e13,e14⟩:=emp_f hwd hw0;have HC4:=z00.mk (show cnd=true by rw[HC3.out,neB hw0]);clear hwd hw0;go_wp2;go_meet
       case rel=>exact⟨by first|(rw[HC4.out];done)|(rw[HC4.out];rfl),HN3,HB3⟩
 case rest =>
  clear HCN HB1 HN1 d0 d1 d2 d3 d4 d5 d6 d7 d8 d9 d10 d11 d12 d13 d14 d15 d16;obtain⟨rfl,HN2,HB2⟩:=hcut;have d0:wc.cell? ⟨nb,0,none⟩=some (.int .i64 x.f0):=(z01 HN2.out 0).trans rfl
  cases cnd with
  |false =>
   have HE:=z00.mk (show res=[] by have hk:=HK.out;have hc:=HCN0.out;rw[←HRE.out];unfold litL;rw[if_neg (fun h=>absurd (hk.symm.trans h.1) (by decide)),if_neg (fun h=>absurd (hk.symm.trans h.1) (by decide)),if_neg (fun h=>absurd (hk.symm.trans h.1) (by decide)),if_neg (fun h=>by rw[h.2.1,neB h.2.2.1,neB h.2.2.2]at hc;cases hc),if_neg (fun h=>absurd (hk.symm.trans h.1) (by decide))]);clear HCN0;go_wp2
   go_ret
   exact⟨by rw[HE.out];rfl,HB2.out⟩
  |true =>
   have HE:=z00.mk (show res=termL x.f3++([32,105,115,32]++(termL x.f4++(wordL x.f2.data.toList++termL x.f5))) by have hk:=HK.out;have hc:=HCN0.out;rw[←HRE.out];unfold litL;rw[if_neg (fun h=>absurd (hk.symm.trans h.1) (by decide)),if_neg (fun h=>absurd (hk.symm.trans h.1) (by decide)),if_neg (fun h=>absurd (hk.symm.trans h.1) (by decide)),if_pos (⟨hk,(Bool.and_eq_true_iff.1 hc).1,zk8 (Bool.and_eq_true_iff.1 (Bool.and_eq_true_iff.1 hc).2).1,zk8 (Bool.and_eq_true_iff.1 (Bool.and_eq_true_iff.1 hc).2).2⟩)]);obtain⟨la,laE⟩:∃b,baL (termL x.f3)=b:=⟨_,rfl⟩
   have laS:la.size≤40:=by rw[←laE,z1x];exact HLN.out.1
   rw[laE]at HTA;have laH:=z00.mk laE;clear laE;obtain⟨lb,lbE⟩:∃b,baL (termL x.f4)=b:=⟨_,rfl⟩
   have lbS:lb.size≤40:=by rw[←lbE,z1x];exact HLN.out.2.1
   rw[lbE]at HTB;have lbH:=z00.mk lbE;clear lbE;obtain⟨lc,lcE⟩:∃b,baL (termL x.f5)=b:=⟨_,rfl⟩
   have lcS:lc.size≤40:=by rw[←lcE,z1x];exact HLN.out.2.2.1
   rw[lcE]at HTC;have lcH:=z00.mk lcE;clear lcE;obtain⟨wd,wdE⟩:∃b,baL (wordL x.f2.data.toList)=b:=⟨_,rfl⟩
   have wdS:wd.size≤7:=by rw[←wdE,z1x];exact HLN.out.2.2.2.2
   rw[wdE]at HWD;have wdH:=z00.mk wdE;clear wdE;have kq0:(9223372036854775807<la.size+4)=False:=eq_false (by omega);have kq1:(9223372036854775807<la.size+4+lb.size)=False:=eq_false (by omega);have kq2:(9223372036854775807<la.size+4+lb.size+wd.size)=False:=eq_false (by omega);have kq3:(9223372036854775807<la.size+4+lb.size+wd.size+lc.size)=False:=eq_false (by omega);have HNV:=z00.mk (z0h HN2.out);clear HCN0 d0;go_wp2;have HBV:=z00.mk (z05 HB2.out);obtain⟨V0,hV0⟩:∃V,wc=V:=⟨_,rfl⟩
   rw[hV0]at HBV HNV ⊢;clear hV0 HB2 HN2;refine z68 (n:=17) (S:=fun w'=>w'.heap[nb]?=some (.cells #[.int .i64 x.f0,.string x.f1.f0,.slice A2 x.f1.f1.length c2,.string x.f2,.string x.f3.f0,.int .i64 x.f3.f1.f0,.int .i64 x.f3.f1.f1,.string x.f3.f1.f2,.string x.f4.f0,.int .i64 x.f4.f1.f0,.int .i64 x.f4.f1.f1,.string x.f4.f1.f2,.string x.f5.f0,.int .i64 x.f5.f1.f0,.int .i64 x.f5.f1.f1,.string x.f5.f1.f2,.slice A16 x.f6.length c16] 62 (0,0))) (ds:=[]) #[false,false,false,false,false,false,false,false,false,false,false,false,false,false,false,false,false] (by kernel_rfl) rfl rfl (HNV.out) (fun hHeld=>?_);refine z39 lit9.tab lit9.bits (fun HT_ HW_=>?_)
   generalize V0.drew=V at HBV hHeld ⊢
   refine pure_ (i:=0) (N:=some 92) (v:=?_) (a':=?_) #[true,false,false,false,false,false,false,false,false,false,false,false,false,false,false,false,false] rfl rfl (z0r HT_.out (by kernel_rfl)) (fun _ _ _ h=>h) (Or.inl ⟨by rfl,?_⟩) ?_ ?_
   rotate_left
   · intro w'
     go_simp
     with_reducible rfl
   rotate_left
   · simp only[Act.put,List.setIfInBounds_toArray,List.set_cons_zero,List.set_cons_succ,i64_w,i32_w];rfl
   refine take_ (i:=1) (N:=some 93) (v:=?_) (a':=?_) #[true,true,false,false,false,false,false,false,false,false,false,false,false,false,false,false,false] rfl rfl (z1j HT_.out HW_.out (by kernel_rfl)) (fun _ _ _ h=>h) (Or.inl ⟨by rfl,?_⟩) hHeld ?_ ?_
   rotate_left
   · intro w' s1;have f4:w'.cell? ⟨nb,4,none⟩=some (.string x.f3.f0):=(z01 s1 4).trans rfl;have f5:w'.cell? ⟨nb,5,none⟩=some (.int .i64 x.f3.f1.f0):=(z01 s1 5).trans rfl;have f6:w'.cell? ⟨nb,6,none⟩=some (.int .i64 x.f3.f1.f1):=(z01 s1 6).trans rfl;have f7:w'.cell? ⟨nb,7,none⟩=some (.string x.f3.f1.f2):=(z01 s1 7).trans rfl;clear s1
     go_simp
     with_reducible rfl
   rotate_left
   · simp only[Act.put,List.setIfInBounds_toArray,List.set_cons_zero,List.set_cons_succ,i64_w,i32_w];rfl
   refine pure_ (i:=4) (N:=some 96) (v:=?_) (a':=?_) #[true,true,false,false,true,false,false,false,false,false,false,false,false,false,false,false,false] rfl rfl (z0r HT_.out (by kernel_rfl)) (fun _ _ _ h=>h) (Or.inl ⟨by rfl,?_⟩) ?_ ?_
   rotate_left
   · intro w'
     go_simp
     with_reducible rfl
   rotate_left
   · simp only[Act.put,List.setIfInBounds_toArray,List.set_cons_zero,List.set_cons_succ,i64_w,i32_w];rfl
   refine take_ (i:=5) (N:=some 97) (v:=?_) (a':=?_) #[true,true,false,false,true,true,false,false,false,false,false,false,false,false,false,false,false] rfl rfl (z1j HT_.out HW_.out (by kernel_rfl)) (fun _ _ _ h=>h) (Or.inl ⟨by rfl,?_⟩) hHeld ?_ ?_
   rotate_left
   · intro w' s1;have f8:w'.cell? ⟨nb,8,none⟩=some (.string x.f4.f0):=(z01 s1 8).trans rfl;have f9:w'.cell? ⟨nb,9,none⟩=some (.int .i64 x.f4.f1.f0):=(z01 s1 9).trans rfl;have f10:w'.cell? ⟨nb,10,none⟩=some (.int .i64 x.f4.f1.f1):=(z01 s1 10).trans rfl;have f11:w'.cell? ⟨nb,11,none⟩=some (.string x.f4.f1.f2):=(z01 s1 11).trans rfl;clear s1
     go_simp
     with_reducible rfl
   rotate_left
   · simp only[Act.put,List.setIfInBounds_toArray,List.set_cons_zero,List.set_cons_succ,i64_w,i32_w];rfl
   refine pure_ (i:=8) (N:=some 100) (v:=?_) (a':=?_) #[true,true,false,false,true,true,false,false,true,false,false,false,false,false,false,false,false] rfl rfl (z0r HT_.out (by kernel_rfl)) (fun _ _ _ h=>h) (Or.inl ⟨by rfl,?_⟩) ?_ ?_
   rotate_left
   · intro w'
     go_simp
     with_reducible rfl
   rotate_left
   · simp only[Act.put,List.setIfInBounds_toArray,List.set_cons_zero,List.set_cons_succ,i64_w,i32_w];rfl
   refine take_ (i:=9) (N:=some 101) (v:=?_) (a':=?_) #[true,true,false,false,true,true,false,false,true,true,false,false,false,false,false,false,false] rfl rfl (z1j HT_.out HW_.out (by kernel_rfl)) (fun _ _ _ h=>h) (Or.inl ⟨by rfl,?_⟩) hHeld ?_ ?_
   rotate_left
   · intro w' s1;have f3:w'.cell? ⟨nb,3,none⟩=some (.string x.f2):=(z01 s1 3).trans rfl;clear s1
     go_simp
     with_reducible rfl
   rotate_left
   · simp only[Act.put,List.setIfInBounds_toArray,List.set_cons_zero,List.set_cons_succ,i64_w,i32_w];rfl
   refine pure_ (i:=12) (N:=some 104) (v:=?_) (a':=?_) #[true,true,false,false,true,true,false,false,true,true,false,false,true,false,false,false,false] rfl rfl (z0r HT_.out (by kernel_rfl)) (fun _ _ _ h=>h) (Or.inl ⟨by rfl,?_⟩) ?_ ?_
   rotate_left
   · intro w'
     go_simp
     with_reducible rfl
   rotate_left
   · simp only[Act.put,List.setIfInBounds_toArray,List.set_cons_zero,List.set_cons_succ,i64_w,i32_w];rfl
   refine take_ (i:=13) (N:=some 105) (v:=?_) (a':=?_) #[true,true,false,false,true,true,false,false,true,true,false,false,true,true,false,false,false] rfl rfl (z1j HT_.out HW_.out (by kernel_rfl)) (fun _ _ _ h=>h) (Or.inl ⟨by rfl,?_⟩) hHeld ?_ ?_
   rotate_left
   · intro w' s1;have f12:w'.cell? ⟨nb,12,none⟩=some (.string x.f5.f0):=(z01 s1 12).trans rfl;have f13:w'.cell? ⟨nb,13,none⟩=some (.int .i64 x.f5.f1.f0):=(z01 s1 13).trans rfl;have f14:w'.cell? ⟨nb,14,none⟩=some (.int .i64 x.f5.f1.f1):=(z01 s1 14).trans rfl;have f15:w'.cell? ⟨nb,15,none⟩=some (.string x.f5.f1.f2):=(z01 s1 15).trans rfl;clear s1
     go_simp
     with_reducible rfl
   rotate_left
   · simp only[Act.put,List.setIfInBounds_toArray,List.set_cons_zero,List.set_cons_succ,i64_w,i32_w];rfl
   refine one_ (i:=2) (N:=some 94) #[true,true,true,false,true,true,false,false,true,true,false,false,true,true,false,false,false] rfl rfl (z2a HT_.out (by kernel_rfl)) (by decide) (fun K hK=>?_);refine goes_ Tryz.func70 (by kernel_rfl) rfl #[.agg #[.string x.f3.f0,.int .i64 x.f3.f1.f0,.int .i64 x.f3.f1.f1,.string x.f3.f1.f2]] (by rfl) rfl rfl zA03 ?_;refine(HTA.out _ (HLW.out.below HBV.out)).mono ?_;rintro e V2 ⟨rfl,hb⟩;refine⟨_,rfl,?_⟩;replace HBV:=z00.mk (z09 HBV.out HBV.out.size hb);replace hHeld:=z0b hHeld hb;clear hb;refine hK.out _ _ (hHeld) (fun hHeld=>?_);clear hK K;refine norm_ (a':=?_) ?_ ?_
   rotate_left
   · show Act.put _ (some 94) _=_;simp only[Act.put,List.setIfInBounds_toArray,List.set_cons_zero,List.set_cons_succ,i64_w,i32_w];rfl
   refine pure_ (i:=3) (N:=some 95) (v:=?_) (a':=?_) #[true,true,true,true,true,true,false,false,true,true,false,false,true,true,false,false,false] rfl rfl (z0r HT_.out (by kernel_rfl)) (fun _ _ _ h=>h) (Or.inl ⟨by rfl,?_⟩) ?_ ?_
   rotate_left
   · intro w'
     go_simp
     with_reducible rfl
   rotate_left
   · simp only[Act.put,List.setIfInBounds_toArray,List.set_cons_zero,List.set_cons_succ,i64_w,i32_w];rfl
   refine one_ (i:=6) (N:=some 98) #[true,true,true,true,true,true,true,false,true,true,false,false,true,true,false,false,false] rfl rfl (z2a HT_.out (by kernel_rfl)) (by decide) (fun K hK=>?_);refine goes_ Tryz.func70 (by kernel_rfl) rfl #[.agg #[.string x.f4.f0,.int .i64 x.f4.f1.f0,.int .i64 x.f4.f1.f1,.string x.f4.f1.f2]] (by rfl) rfl rfl zA03 ?_;refine(HTB.out _ (HLW.out.below HBV.out)).mono ?_;rintro e V2 ⟨rfl,hb⟩;refine⟨_,rfl,?_⟩;replace HBV:=z00.mk (z09 HBV.out HBV.out.size hb);replace hHeld:=z0b hHeld hb;clear hb;refine hK.out _ _ (hHeld) (fun hHeld=>?_);clear hK K;refine norm_ (a':=?_) ?_ ?_
   rotate_left
   · show Act.put _ (some 98) _=_;simp only[Act.put,List.setIfInBounds_toArray,List.set_cons_zero,List.set_cons_succ,i64_w,i32_w];rfl
   refine pure_ (i:=7) (N:=some 99) (v:=?_) (a':=?_) #[true,true,true,true,true,true,true,true,true,true,false,false,true,true,false,false,false] rfl rfl (z0r HT_.out (by kernel_rfl)) (fun _ _ _ h=>h) (Or.inl ⟨by rfl,?_⟩) ?_ ?_
   rotate_left
   · intro w'
     go_simp
     with_reducible rfl
   rotate_left
   · simp only[Act.put,List.setIfInBounds_toArray,List.set_cons_zero,List.set_cons_succ,i64_w,i32_w];rfl
   refine one_ (i:=10) (N:=some 102) #[true,true,true,true,true,true,true,true,true,true,true,false,true,true,false,false,false] rfl rfl (z2a HT_.out (by kernel_rfl)) (by decide) (fun K hK=>?_);refine goes_ Tryz.func75 (by kernel_rfl) rfl #[.string x.f2] (by rfl) rfl rfl zA03 ?_;refine(HWD.out _).mono ?_;rintro e V2 ⟨rfl,nd,rfl⟩;refine⟨_,rfl,?_⟩;replace HBV:=z00.mk (z04 HBV.out nd);replace hHeld:=z0f hHeld nd;refine hK.out _ _ (hHeld) (fun hHeld=>?_);clear hK K;refine norm_ (a':=?_) ?_ ?_
   rotate_left
   · show Act.put _ (some 102) _=_;simp only[Act.put,List.setIfInBounds_toArray,List.set_cons_zero,List.set_cons_succ,i64_w,i32_w];rfl
   refine pure_ (i:=11) (N:=some 103) (v:=?_) (a':=?_) #[true,true,true,true,true,true,true,true,true,true,true,true,true,true,false,false,false] rfl rfl (z0r HT_.out (by kernel_rfl)) (fun _ _ _ h=>h) (Or.inl ⟨by rfl,?_⟩) ?_ ?_
   rotate_left
   · intro w'
     go_simp
     with_reducible rfl
   rotate_left
   · simp only[Act.put,List.setIfInBounds_toArray,List.set_cons_zero,List.set_cons_succ,i64_w,i32_w];rfl
   refine one_ (i:=14) (N:=some 106) #[true,true,true,true,true,true,true,true,true,true,true,true,true,true,true,false,false] rfl rfl (z2a HT_.out (by kernel_rfl)) (by decide) (fun K hK=>?_);refine goes_ Tryz.func70 (by kernel_rfl) rfl #[.agg #[.string x.f5.f0,.int .i64 x.f5.f1.f0,.int .i64 x.f5.f1.f1,.string x.f5.f1.f2]] (by rfl) rfl rfl zA03 ?_;refine(HTC.out _ (HLW.out.below HBV.out)).mono ?_;rintro e V2 ⟨rfl,hb⟩;refine⟨_,rfl,?_⟩;replace HBV:=z00.mk (z09 HBV.out HBV.out.size hb);replace hHeld:=z0b hHeld hb;clear hb;refine hK.out _ _ (hHeld) (fun hHeld=>?_);clear hK K;refine norm_ (a':=?_) ?_ ?_
   rotate_left
   · show Act.put _ (some 106) _=_;simp only[Act.put,List.setIfInBounds_toArray,List.set_cons_zero,List.set_cons_succ,i64_w,i32_w];rfl
   refine pure_ (i:=15) (N:=some 107) (v:=?_) (a':=?_) #[true,true,true,true,true,true,true,true,true,true,true,true,true,true,true,true,false] rfl rfl (z0r HT_.out (by kernel_rfl)) (fun _ _ _ h=>h) (Or.inl ⟨by rfl,?_⟩) ?_ ?_
   rotate_left
   · intro w'
     go_simp
     with_reducible rfl
   rotate_left
   · simp only[Act.put,List.setIfInBounds_toArray,List.set_cons_zero,List.set_cons_succ,i64_w,i32_w];rfl
   refine pure_ (i:=16) (N:=some 4) (v:=?_) (a':=?_) #[true,true,true,true,true,true,true,true,true,true,true,true,true,true,true,true,true] rfl rfl (z0r HT_.out (by kernel_rfl)) (fun _ _ _ h=>h) (Or.inl ⟨by rfl,?_⟩) ?_ ?_
   rotate_left
   · intro w'
     go_simp
     with_reducible rfl
   rotate_left
   · simp only[Act.put,List.setIfInBounds_toArray,List.set_cons_zero,List.set_cons_succ,i64_w,i32_w];rfl
   refine done_ (z4w HT_.out (by kernel_rfl)) ?_;go_wp2
   go_ret
   exact⟨by rw[HE.out,←laH.out,←lbH.out,←lcH.out,←wdH.out];exact z6d (ba_eq (by simp)),HBV.out⟩

def lit11.T:Bool × List (List Nat × List Nat):=(true,[([],[]),([0],[0]),([1],[1]),([2],[2]),([3],[3]),([],[]),([5],[5]),([6,2],[6]),([4,7],[4,7]),([8],[8]),([],[]),([10],[10]),([11,7],[11]),([9,12],[9,12]),([13],[13]),([14,12,0,1,2,3,4,5,6,7,8,9,10,11,12,13,14],[14])])
def lit11.B:List Nat:=[0,1,3,7,15,0,32,103,255,511,0,1024,3303,8191,16383,32767]
theorem lit11.tab:rtab .any (opsOf Tryz.f44 11)=lit11.T:=by kernel_rfl
theorem lit11.bits:z3y lit11.T.2 lit11.B=true:=by kernel_rfl
set_option maxHeartbeats 8000000 in
set_option maxRecDepth 100000 in
theorem zio (x:LtS) (A2:Option Addr) (c2:Nat) (A16:Option Addr) (c16:Nat) (j:Int) (w:World) (hLW:LaidW w) (hx:okL x) (hA2:Kd.C k60 w A2 x.f1.f1.length x.f1.f1) (hA16:Kd.C k69 w A16 x.f6.length x.f6) (hk:x.f0=5) :
 Calls Tryz.prog 44 #[.int .i64 j,.agg (litC x A2 c2 A16 c16)] w fun e w'=>e=.returned (.string (baL (litL x)))∧Below w.heap.size w w':=by
 obtain⟨nb,enb⟩:∃n,w.heap.size=n:=⟨_,rfl⟩
 obtain⟨W,hW⟩:∃W,w.alloc (.cells (litC x A2 c2 A16 c16) 62)=W:=⟨_,rfl⟩
 have hBW:Below w.heap.size w W:=hW ▸ z03 (Below.refl w.heap.size w) (.cells (litC x A2 c2 A16 c16) 62);have hN:=z0q w (.cells (litC x A2 c2 A16 c16) 62);rw[enb,hW]at hN;have HAT:=z00.mk (z4v x.f1 A2 c2 W (hLW.below hBW) (Kd.C_below hA2 hBW) hx.1);have HPA:=z00.mk (fun(V:World) (h:Below w.heap.size w V)=>z5a x.f6 A16 c16 V (hLW.below h) (Kd.C_below hA16 h) hx.2.2.2.2.1 hx.2.2.2.2.2.1);have HRP:=z00.mk (fun(V:World) (h:Below w.heap.size w V)=>z3f x.f6 A16 c16 V (hLW.below h) (Kd.C_below hA16 h) hx.2.2.2.2.1 hx.2.2.2.2.2.1);have HRS:=z00.mk (fun(n:Nat) (hn:n≤3) (a o p:Bool) (hc:(a=true∧o=false∧p=false)∨(a=false∧o=true∧p=false)∨(a=false∧o=false∧p=true)) (V:World) (h:LaidW V)=>z6l x A2 c2 A16 c16 n hn a o p hc V h hx);have HTA:=z00.mk (fun V (h:LaidW V)=>z2b x.f3 V h hx.2.1);have HTB:=z00.mk (fun V (h:LaidW V)=>z2b x.f4 V h hx.2.2.1);have HTC:=z00.mk (fun V (h:LaidW V)=>z2b x.f5 V h hx.2.2.2.1);have HWD:=z00.mk (fun V=>z4l.calls x.f2 (baL (wordL x.f2.data.toList)) V (zb5 x.f2));have hla:=z27 x.f3 hx.2.1;have hlb:=z27 x.f4 hx.2.2.1;have hlc:=z27 x.f5 hx.2.2.2.1;have hlp:=z5u x.f6;have hlw:=z5z x.f2.data.toList;have hat:=z5j x.f1 0 hx.1;obtain⟨res,hres⟩:∃r,litL x=r:=⟨_,rfl⟩
 have HRE:=z00.mk hres;have HLW:=z00.mk hLW;have HBW:=z00.mk hBW;have HN:=z00.mk hN;rw[hres];simp only[litC]at HAT HRS HN hW ⊢;have HW:=z00.mk hW;have d1:W.cell? ⟨nb,1,none⟩=some (.string x.f1.f0):=(z01 HN.out 1).trans rfl;have d2:W.cell? ⟨nb,2,none⟩=some (.slice A2 x.f1.f1.length c2):=(z01 HN.out 2).trans rfl;have k1:(x.f0==1)=false:=beq_eq_false_iff_ne.2 (by omega);have k2:(x.f0==2)=false:=beq_eq_false_iff_ne.2 (by omega);have k3:(x.f0==3)=false:=beq_eq_false_iff_ne.2 (by omega);have k4:(x.f0==4)=false:=beq_eq_false_iff_ne.2 (by omega);have k5:(x.f0==5)=true:=beq_iff_eq.2 hk;have HLN:=z00.mk (And.intro hla (And.intro hlb (And.intro hlc (And.intro hlp hlw))));have HK:=z00.mk hk;clear hk hLW hx hA2 hA16 hres hBW hN hla hlb hlc hlp hlw hat;go_enter Tryz.func44,Tryz.ntmps44
 go_wp2_with fail
 refine HAT.out.mono ?_;rintro e w1 ⟨rfl,hb⟩;have HB1:=z00.mk (z09 HBW.out HBW.out.size hb);have HN1:=z00.mk (z0b HN.out hb);clear hb hW d1 d2 HAT enb;have d0:w1.cell? ⟨nb,0,none⟩=some (.int .i64 x.f0):=(z01 HN1.out 0).trans rfl;have d1:w1.cell? ⟨nb,1,none⟩=some (.string x.f1.f0):=(z01 HN1.out 1).trans rfl;have d2:w1.cell? ⟨nb,2,none⟩=some (.slice A2 x.f1.f1.length c2):=(z01 HN1.out 2).trans rfl;have d3:w1.cell? ⟨nb,3,none⟩=some (.string x.f2):=(z01 HN1.out 3).trans rfl;have d4:w1.cell? ⟨nb,4,none⟩=some (.string x.f3.f0):=(z01 HN1.out 4).trans rfl;have d5:w1.cell? ⟨nb,5,none⟩=some (.int .i64 x.f3.f1.f0):=(z01 HN1.out 5).trans rfl;have d6:w1.cell? ⟨nb,6,none⟩=some (.int .i64 x.f3.f1.f1):=(z01 HN1.out 6).trans rfl;have d7:w1.cell? ⟨nb,7,none⟩=some (.string x.f3.f1.f2):=(z01 HN1.out 7).trans rfl;have d8:w1.cell? ⟨nb,8,none⟩=some (.string x.f4.f0):=(z01 HN1.out 8).trans rfl;have d9:w1.cell? ⟨nb,9,none⟩=some (.int .i64 x.f4.f1.f0):=(z01 HN1.out 9).trans rfl;have d10:w1.cell? ⟨nb,10,none⟩=some (.int .i64 x.f4.f1.f1):=(z01 HN1.out 10).trans rfl;have d11:w1.cell? ⟨nb,11,none⟩=some (.string x.f4.f1.f2):=(z01 HN1.out 11).trans rfl;have d12:w1.cell? ⟨nb,12,none⟩=some (.string x.f5.f0):=(z01 HN1.out 12).trans rfl;have d13:w1.cell? ⟨nb,13,none⟩=some (.int .i64 x.f5.f1.f0):=(z01 HN1.out 13).trans rfl;have d14:w1.cell? ⟨nb,14,none⟩=some (.int .i64 x.f5.f1.f1):=(z01 HN1.out 14).trans rfl;have d15:w1.cell? ⟨nb,15,none⟩=some (.string x.f5.f1.f2):=(z01 HN1.out 15).trans rfl;have d16:w1.cell? ⟨nb,16,none⟩=some (.slice A16 x.f6.length c16):=(z01 HN1.out 16).trans rfl;obtain⟨atx,hatx⟩:∃b,baL (atomL x.f1)=b:=⟨_,rfl⟩
 rw[hatx];obtain⟨cnd,hcn⟩:∃b,(restB x 2 false false true&&rpB x.f6)=b:=⟨_,rfl⟩
 have HCN0:=z00.mk hcn;have HCN:=z00.mk hcn;clear hcn hatx
 go_upto_region 10 with (fail)
 go_cut [108] (fun v108 wc=>v108=.bool cnd∧z00 (wc.heap[nb]?=some (.cells #[.int .i64 x.f0,.string x.f1.f0,.slice A2 x.f1.f1.length c2,.string x.f2,.string x.f3.f0,.int .i64 x.f3.f1.f0,.int .i64 x.f3.f1.f1,.string x.f3.f1.f2,.string x.f4.f0,.int .i64 x.f4.f1.f0,.int .i64 x.f4.f1.f1,.string x.f4.f1.f2,.string x.f5.f0,.int .i64 x.f5.f1.f0,.int .i64 x.f5.f1.f1,.string x.f5.f1.f2,.slice A16 x.f6.length c16] 62 (0,0)))∧z00 (Below w.heap.size w wc))
 case first =>
  go_wp2_with fail
  refine(HRS.out 2 (by decide) false false true (by decide) _ (HLW.out.below HB1.out)).mono ?_;rintro e w2 ⟨rfl,hb⟩;have HB2:=z00.mk (z09 HB1.out HB1.out.size hb);have HN2:=z00.mk (z0b HN1.out hb);clear hb d0 d1 d2 d3 d4 d5 d6 d7 d8 d9 d10 d11 d12 d13 d14 d15 d16;have d0:w2.cell? ⟨nb,0,none⟩=some (.int .i64 x.f0):=(z01 HN2.out 0).trans rfl;have d3:w2.cell? ⟨nb,3,none⟩=some (.string x.f2):=(z01 HN2.out 3).trans rfl;have d4:w2.cell? ⟨nb,4,none⟩=some (.string x.f3.f0):=(z01 HN2.out 4).trans rfl;have d16:w2.cell? ⟨nb,16,none⟩=some (.slice A16 x.f6.length c16):=(z01 HN2.out 16).trans rfl;obtain⟨rr,hrr⟩:∃b,restB x 2 false false true=b:=⟨_,rfl⟩
  rw[hrr]at HCN ⊢;clear hrr
  cases rr with
  |false =>
   have HC2:=z00.mk (show cnd=false by rw[←HCN.out];rfl);go_wp2;go_meet
   case rel=>exact⟨by first|(rw[HC2.out];done)|(rw[HC2.out];rfl),HN2,HB2⟩
  |true =>
   go_wp2_with fail
   refine(HRP.out _ HB2.out).mono ?_;rintro e w3 ⟨rfl,hb⟩;have HN3:=z00.mk (z0b HN2.out hb);have HB3:=z00.mk (z09 HB2.out HB2.out.size hb);clear hb;obtain⟨rp,hrp⟩:∃b,rpB x.f6=b:=⟨_,rfl⟩
   rw[hrp]at HCN ⊢;have HC3:=z00.mk (show rp=cnd from HCN.out);clear hrp
   cases rp
   all_goals
    go_wp2;go_meet
    case rel=>exact⟨by first|(rw[←HC3.out];done)|(rw[←HC3.out];rfl),HN3,HB3⟩
 case rest =>
  clear HCN HB1 HN1 d0 d1 d2 d3 d4 d5 d6 d7 d8 d9 d10 d11 d12 d13 d14 d15 d16;obtain⟨rfl,HN2,HB2⟩:=hcut;have d0:wc.cell? ⟨nb,0,none⟩=some (.int .i64 x.f0):=(z01 HN2.out 0).trans rfl
  cases cnd with
  |false =>
   have HE:=z00.mk (show res=[] by have hk:=HK.out;have hc:=HCN0.out;rw[←HRE.out];unfold litL;rw[if_neg (fun h=>absurd (hk.symm.trans h.1) (by decide)),if_neg (fun h=>absurd (hk.symm.trans h.1) (by decide)),if_neg (fun h=>absurd (hk.symm.trans h.1) (by decide)),if_neg (fun h=>absurd (hk.symm.trans h.1) (by decide)),if_neg (fun h=>by rw[h.2.1,show rpB x.f6=true from neB h.2.2]at hc;cases hc)]);clear HCN0;go_wp2
   go_ret
   exact⟨by rw[HE.out];rfl,HB2.out⟩
  |true =>
   have HE:=z00.mk (show res=[119,97,108,107,40]++(termL x.f3++([44,32]++(pathL x.f6++([44,32]++(termL x.f4++[41]))))) by have hk:=HK.out;have hc:=HCN0.out;rw[←HRE.out];unfold litL;rw[if_neg (fun h=>absurd (hk.symm.trans h.1) (by decide)),if_neg (fun h=>absurd (hk.symm.trans h.1) (by decide)),if_neg (fun h=>absurd (hk.symm.trans h.1) (by decide)),if_neg (fun h=>absurd (hk.symm.trans h.1) (by decide)),if_pos (⟨hk,(Bool.and_eq_true_iff.1 hc).1,zk8 (Bool.and_eq_true_iff.1 hc).2⟩)]);obtain⟨la,laE⟩:∃b,baL (termL x.f3)=b:=⟨_,rfl⟩
   have laS:la.size≤40:=by rw[←laE,z1x];exact HLN.out.1
   rw[laE]at HTA;have laH:=z00.mk laE;clear laE;obtain⟨lb,lbE⟩:∃b,baL (termL x.f4)=b:=⟨_,rfl⟩
   have lbS:lb.size≤40:=by rw[←lbE,z1x];exact HLN.out.2.1
   rw[lbE]at HTB;have lbH:=z00.mk lbE;clear lbE;obtain⟨pt,ptE⟩:∃b,baL (pathL x.f6)=b:=⟨_,rfl⟩
   have ptS:pt.size≤5000:=by rw[←ptE,z1x];exact HLN.out.2.2.2.1
   rw[ptE]at HPA;have ptH:=z00.mk ptE;clear ptE;have kq0:(9223372036854775807<5+la.size)=False:=eq_false (by omega);have kq1:(9223372036854775807<5+la.size+2)=False:=eq_false (by omega);have kq2:(9223372036854775807<5+la.size+2+pt.size)=False:=eq_false (by omega);have kq3:(9223372036854775807<5+la.size+2+pt.size+2)=False:=eq_false (by omega);have kq4:(9223372036854775807<5+la.size+2+pt.size+2+lb.size)=False:=eq_false (by omega);have kq5:(9223372036854775807<5+la.size+2+pt.size+2+lb.size+1)=False:=eq_false (by omega);have HNV:=z00.mk (z0h HN2.out);clear HCN0 d0;go_wp2;have HBV:=z00.mk (z05 HB2.out);obtain⟨V0,hV0⟩:∃V,wc=V:=⟨_,rfl⟩
   rw[hV0]at HBV HNV ⊢;clear hV0 HB2 HN2;refine z68 (n:=16) (S:=fun w'=>w'.heap[nb]?=some (.cells #[.int .i64 x.f0,.string x.f1.f0,.slice A2 x.f1.f1.length c2,.string x.f2,.string x.f3.f0,.int .i64 x.f3.f1.f0,.int .i64 x.f3.f1.f1,.string x.f3.f1.f2,.string x.f4.f0,.int .i64 x.f4.f1.f0,.int .i64 x.f4.f1.f1,.string x.f4.f1.f2,.string x.f5.f0,.int .i64 x.f5.f1.f0,.int .i64 x.f5.f1.f1,.string x.f5.f1.f2,.slice A16 x.f6.length c16] 62 (0,0))) (ds:=[]) #[false,false,false,false,false,false,false,false,false,false,false,false,false,false,false,false] (by kernel_rfl) rfl rfl (HNV.out) (fun hHeld=>?_);refine z39 lit11.tab lit11.bits (fun HT_ HW_=>?_)
   generalize V0.drew=V at HBV hHeld ⊢
   refine pure_ (i:=0) (N:=some 121) (v:=?_) (a':=?_) #[true,false,false,false,false,false,false,false,false,false,false,false,false,false,false,false] rfl rfl (z0r HT_.out (by kernel_rfl)) (fun _ _ _ h=>h) (Or.inl ⟨by rfl,?_⟩) ?_ ?_
   rotate_left
   · intro w'
     go_simp
     with_reducible rfl
   rotate_left
   · simp only[Act.put,List.setIfInBounds_toArray,List.set_cons_zero,List.set_cons_succ,i64_w,i32_w];rfl
   refine take_ (i:=1) (N:=some 122) (v:=?_) (a':=?_) #[true,true,false,false,false,false,false,false,false,false,false,false,false,false,false,false] rfl rfl (z1j HT_.out HW_.out (by kernel_rfl)) (fun _ _ _ h=>h) (Or.inl ⟨by rfl,?_⟩) hHeld ?_ ?_
   rotate_left
   · intro w' s1;have f4:w'.cell? ⟨nb,4,none⟩=some (.string x.f3.f0):=(z01 s1 4).trans rfl;have f5:w'.cell? ⟨nb,5,none⟩=some (.int .i64 x.f3.f1.f0):=(z01 s1 5).trans rfl;have f6:w'.cell? ⟨nb,6,none⟩=some (.int .i64 x.f3.f1.f1):=(z01 s1 6).trans rfl;have f7:w'.cell? ⟨nb,7,none⟩=some (.string x.f3.f1.f2):=(z01 s1 7).trans rfl;clear s1
     go_simp
     with_reducible rfl
   rotate_left
   · simp only[Act.put,List.setIfInBounds_toArray,List.set_cons_zero,List.set_cons_succ,i64_w,i32_w];rfl
   refine pure_ (i:=5) (N:=some 126) (v:=?_) (a':=?_) #[true,true,false,false,false,true,false,false,false,false,false,false,false,false,false,false] rfl rfl (z0r HT_.out (by kernel_rfl)) (fun _ _ _ h=>h) (Or.inl ⟨by rfl,?_⟩) ?_ ?_
   rotate_left
   · intro w'
     go_simp
     with_reducible rfl
   rotate_left
   · simp only[Act.put,List.setIfInBounds_toArray,List.set_cons_zero,List.set_cons_succ,i64_w,i32_w];rfl
   refine take_ (i:=6) (N:=some 127) (v:=?_) (a':=?_) #[true,true,false,false,false,true,true,false,false,false,false,false,false,false,false,false] rfl rfl (z1j HT_.out HW_.out (by kernel_rfl)) (fun _ _ _ h=>h) (Or.inl ⟨by rfl,?_⟩) hHeld ?_ ?_
   rotate_left
   · intro w' s1;have f16:w'.cell? ⟨nb,16,none⟩=some (.slice A16 x.f6.length c16):=(z01 s1 16).trans rfl;clear s1
     go_simp
     with_reducible rfl
   rotate_left
   · simp only[Act.put,List.setIfInBounds_toArray,List.set_cons_zero,List.set_cons_succ,i64_w,i32_w];rfl
   refine pure_ (i:=10) (N:=some 131) (v:=?_) (a':=?_) #[true,true,false,false,false,true,true,false,false,false,true,false,false,false,false,false] rfl rfl (z0r HT_.out (by kernel_rfl)) (fun _ _ _ h=>h) (Or.inl ⟨by rfl,?_⟩) ?_ ?_
   rotate_left
   · intro w'
     go_simp
     with_reducible rfl
   rotate_left
   · simp only[Act.put,List.setIfInBounds_toArray,List.set_cons_zero,List.set_cons_succ,i64_w,i32_w];rfl
   refine take_ (i:=11) (N:=some 132) (v:=?_) (a':=?_) #[true,true,false,false,false,true,true,false,false,false,true,true,false,false,false,false] rfl rfl (z1j HT_.out HW_.out (by kernel_rfl)) (fun _ _ _ h=>h) (Or.inl ⟨by rfl,?_⟩) hHeld ?_ ?_
   rotate_left
   · intro w' s1;have f8:w'.cell? ⟨nb,8,none⟩=some (.string x.f4.f0):=(z01 s1 8).trans rfl;have f9:w'.cell? ⟨nb,9,none⟩=some (.int .i64 x.f4.f1.f0):=(z01 s1 9).trans rfl;have f10:w'.cell? ⟨nb,10,none⟩=some (.int .i64 x.f4.f1.f1):=(z01 s1 10).trans rfl;have f11:w'.cell? ⟨nb,11,none⟩=some (.string x.f4.f1.f2):=(z01 s1 11).trans rfl;clear s1
     go_simp
     with_reducible rfl
   rotate_left
   · simp only[Act.put,List.setIfInBounds_toArray,List.set_cons_zero,List.set_cons_succ,i64_w,i32_w];rfl
   refine one_ (i:=2) (N:=some 123) #[true,true,true,false,false,true,true,false,false,false,true,true,false,false,false,false] rfl rfl (z2a HT_.out (by kernel_rfl)) (by decide) (fun K hK=>?_);refine goes_ Tryz.func70 (by kernel_rfl) rfl #[.agg #[.string x.f3.f0,.int .i64 x.f3.f1.f0,.int .i64 x.f3.f1.f1,.string x.f3.f1.f2]] (by rfl) rfl rfl zA03 ?_;refine(HTA.out _ (HLW.out.below HBV.out)).mono ?_;rintro e V2 ⟨rfl,hb⟩;refine⟨_,rfl,?_⟩;replace HBV:=z00.mk (z09 HBV.out HBV.out.size hb);replace hHeld:=z0b hHeld hb;clear hb;refine hK.out _ _ (hHeld) (fun hHeld=>?_);clear hK K;refine norm_ (a':=?_) ?_ ?_
   rotate_left
   · show Act.put _ (some 123) _=_;simp only[Act.put,List.setIfInBounds_toArray,List.set_cons_zero,List.set_cons_succ,i64_w,i32_w];rfl
   refine pure_ (i:=3) (N:=some 124) (v:=?_) (a':=?_) #[true,true,true,true,false,true,true,false,false,false,true,true,false,false,false,false] rfl rfl (z0r HT_.out (by kernel_rfl)) (fun _ _ _ h=>h) (Or.inl ⟨by rfl,?_⟩) ?_ ?_
   rotate_left
   · intro w'
     go_simp
     with_reducible rfl
   rotate_left
   · simp only[Act.put,List.setIfInBounds_toArray,List.set_cons_zero,List.set_cons_succ,i64_w,i32_w];rfl
   refine pure_ (i:=4) (N:=some 125) (v:=?_) (a':=?_) #[true,true,true,true,true,true,true,false,false,false,true,true,false,false,false,false] rfl rfl (z0r HT_.out (by kernel_rfl)) (fun _ _ _ h=>h) (Or.inl ⟨by rfl,?_⟩) ?_ ?_
   rotate_left
   · intro w'
     go_simp
     with_reducible rfl
   rotate_left
   · simp only[Act.put,List.setIfInBounds_toArray,List.set_cons_zero,List.set_cons_succ,i64_w,i32_w];rfl
   refine one_ (i:=7) (N:=some 128) #[true,true,true,true,true,true,true,true,false,false,true,true,false,false,false,false] rfl rfl (z2a HT_.out (by kernel_rfl)) (by decide) (fun K hK=>?_);refine goes_ Tryz.func25 (by kernel_rfl) rfl #[.slice A16 x.f6.length c16] (by rfl) rfl rfl zA03 ?_;refine(HPA.out _ HBV.out).mono ?_;rintro e V2 ⟨rfl,hb⟩;refine⟨_,rfl,?_⟩;replace HBV:=z00.mk (z09 HBV.out HBV.out.size hb);replace hHeld:=z0b hHeld hb;clear hb;refine hK.out _ _ (hHeld) (fun hHeld=>?_);clear hK K;refine norm_ (a':=?_) ?_ ?_
   rotate_left
   · show Act.put _ (some 128) _=_;simp only[Act.put,List.setIfInBounds_toArray,List.set_cons_zero,List.set_cons_succ,i64_w,i32_w];rfl
   refine pure_ (i:=8) (N:=some 129) (v:=?_) (a':=?_) #[true,true,true,true,true,true,true,true,true,false,true,true,false,false,false,false] rfl rfl (z0r HT_.out (by kernel_rfl)) (fun _ _ _ h=>h) (Or.inl ⟨by rfl,?_⟩) ?_ ?_
   rotate_left
   · intro w'
     go_simp
     with_reducible rfl
   rotate_left
   · simp only[Act.put,List.setIfInBounds_toArray,List.set_cons_zero,List.set_cons_succ,i64_w,i32_w];rfl
   refine pure_ (i:=9) (N:=some 130) (v:=?_) (a':=?_) #[true,true,true,true,true,true,true,true,true,true,true,true,false,false,false,false] rfl rfl (z0r HT_.out (by kernel_rfl)) (fun _ _ _ h=>h) (Or.inl ⟨by rfl,?_⟩) ?_ ?_
   rotate_left
   · intro w'
     go_simp
     with_reducible rfl
   rotate_left
   · simp only[Act.put,List.setIfInBounds_toArray,List.set_cons_zero,List.set_cons_succ,i64_w,i32_w];rfl
   refine one_ (i:=12) (N:=some 133) #[true,true,true,true,true,true,true,true,true,true,true,true,true,false,false,false] rfl rfl (z2a HT_.out (by kernel_rfl)) (by decide) (fun K hK=>?_);refine goes_ Tryz.func70 (by kernel_rfl) rfl #[.agg #[.string x.f4.f0,.int .i64 x.f4.f1.f0,.int .i64 x.f4.f1.f1,.string x.f4.f1.f2]] (by rfl) rfl rfl zA03 ?_;refine(HTB.out _ (HLW.out.below HBV.out)).mono ?_;rintro e V2 ⟨rfl,hb⟩;refine⟨_,rfl,?_⟩;replace HBV:=z00.mk (z09 HBV.out HBV.out.size hb);replace hHeld:=z0b hHeld hb;clear hb;refine hK.out _ _ (hHeld) (fun hHeld=>?_);clear hK K;refine norm_ (a':=?_) ?_ ?_
   rotate_left
   · show Act.put _ (some 133) _=_;simp only[Act.put,List.setIfInBounds_toArray,List.set_cons_zero,List.set_cons_succ,i64_w,i32_w];rfl
   refine pure_ (i:=13) (N:=some 134) (v:=?_) (a':=?_) #[true,true,true,true,true,true,true,true,true,true,true,true,true,true,false,false] rfl rfl (z0r HT_.out (by kernel_rfl)) (fun _ _ _ h=>h) (Or.inl ⟨by rfl,?_⟩) ?_ ?_
   rotate_left
   · intro w'
     go_simp
     with_reducible rfl
   rotate_left
   · simp only[Act.put,List.setIfInBounds_toArray,List.set_cons_zero,List.set_cons_succ,i64_w,i32_w];rfl
   refine pure_ (i:=14) (N:=some 135) (v:=?_) (a':=?_) #[true,true,true,true,true,true,true,true,true,true,true,true,true,true,true,false] rfl rfl (z0r HT_.out (by kernel_rfl)) (fun _ _ _ h=>h) (Or.inl ⟨by rfl,?_⟩) ?_ ?_
   rotate_left
   · intro w'
     go_simp
     with_reducible rfl
   rotate_left
   · simp only[Act.put,List.setIfInBounds_toArray,List.set_cons_zero,List.set_cons_succ,i64_w,i32_w];rfl
   refine pure_ (i:=15) (N:=some 4) (v:=?_) (a':=?_) #[true,true,true,true,true,true,true,true,true,true,true,true,true,true,true,true] rfl rfl (z0r HT_.out (by kernel_rfl)) (fun _ _ _ h=>h) (Or.inl ⟨by rfl,?_⟩) ?_ ?_
   rotate_left
   · intro w'
     go_simp
     with_reducible rfl
   rotate_left
   · simp only[Act.put,List.setIfInBounds_toArray,List.set_cons_zero,List.set_cons_succ,i64_w,i32_w];rfl
   refine done_ (z4w HT_.out (by kernel_rfl)) ?_;go_wp2
   go_ret
   exact⟨by rw[HE.out,←laH.out,←lbH.out,←ptH.out];exact z6d (ba_eq (by simp)),HBV.out⟩

theorem lit_show (x:LtS) (A2:Option Addr) (c2:Nat) (A16:Option Addr) (c16:Nat) (j:Int) (w:World) (hLW:LaidW w) (hx:okL x) (hA2:Kd.C k60 w A2 x.f1.f1.length x.f1.f1) (hA16:Kd.C k69 w A16 x.f6.length x.f6) :
 Calls Tryz.prog 44 #[.int .i64 j,.agg (litC x A2 c2 A16 c16)] w fun e w'=>e=.returned (.string (baL (litL x)))∧Below w.heap.size w w':=by
 by_cases h1:x.f0=1
 · exact zjp x A2 c2 A16 c16 j w hLW hx hA2 hA16 h1
 by_cases h2:x.f0=2
 · exact zkn x A2 c2 A16 c16 j w hLW hx hA2 hA16 h2
 by_cases h3:x.f0=3
 · exact ziv x A2 c2 A16 c16 j w hLW hx hA2 hA16 h3
 by_cases h4:x.f0=4
 · exact zj9 x A2 c2 A16 c16 j w hLW hx hA2 hA16 h4
 by_cases h5:x.f0=5
 · exact zio x A2 c2 A16 c16 j w hLW hx hA2 hA16 h5
 exact zk4 x A2 c2 A16 c16 j w hLW hx hA2 hA16 ⟨h1,h2,h3,h4,h5⟩
end Go.Proofs.YthebhbomlllpeaaGreatDoor.X
namespace Go.Proofs.YthebhbomlllpeaaGreatDoor.X
open Go.RowKit Go.Proofs.YthebhbomlllpeaaGreatDoorW.PrintWords Go.Proofs.YthebhbomlllpeaaGreatDoorW.PrintLast Go.Proofs.YthebhbomlllpeaaGreatDoorW.PrintMore
abbrev zg6:Array Value:=#[.string ⟨#[]⟩,.slice none 0 0,.int .i64 0,.slice none 0 0]
set_option maxHeartbeats 4000000 in
set_option maxRecDepth 100000 in
theorem zfm (w:World) (A:Option Addr) (c:Nat) (xs:List S33) (g:Nat→List UInt8) (sep:ByteArray) (hsep:sep.size≤2) (hC:Kd.C k33 w A xs.length xs) (hn:xs.length≤1000) (hg:∀i,(g i).length≤100000000)
 (hby:∀(W:World) (i:Nat) (cs:List Value),i<xs.length→Below w.heap.size w W→k33.K W (xs.getD i z33) cs→Calls Tryz.prog 49 #[.int .i64 i,.agg cs.toArray] W fun e W'=>e=.returned (.string (baL (g i)))∧Below W.heap.size W W') :
 Calls Tryz.prog 48 #[.slice A xs.length c,.func (.func 49) #[] #[],.string sep] w fun e w'=>e=.returned (.tuple #[.string (baL (eachG g xs.length sep.data.toList).1),.bool (eachG g xs.length sep.data.toList).2])∧Below w.heap.size w w':=by
 have HC:=z00.mk hC;have HBY:=z00.mk hby;have HG:=z00.mk (And.intro hg hsep);have HR:=z00.mk (Kd.R_nil Kd.string 9 w w.heap.size (fun k=>w.heap.size≤k));have HB:=z00.mk (Below.refl w.heap.size w);clear hC hby hg hsep;go_enter Tryz.func48,Tryz.ntmps48;go_wp2
 go_loopg [8,14] (xs.length+1) (fun kq v8 v14 w'=>∃(i:Nat),v14=.int .i64 i∧kq+i=xs.length+1∧i≤xs.length∧z00 (∀j,j<i→g j≠[])∧z00 (Kd.R Kd.string 9 w' w.heap.size (fun k=>w.heap.size≤k) v8 ((List.range i).map (fun j=>baL (g j))))∧z00 (Below w.heap.size w w'))
 case atStart=>exact⟨0,rfl,by omega,by omega,⟨fun j hj=>by omega⟩,HR,HB⟩
 case round =>
  clear HR HB;obtain⟨i,rfl,hk,hi,HE,HV,HB⟩:=hrel
  by_cases hlt:i<xs.length
  · have hz:decide ((i:Int)<(xs.length:Int))=true:=decide_eq_true (by omega);have hz2:decide (i<xs.length)=true:=decide_eq_true hlt;obtain⟨k1,rfl⟩:∃k1,gk=k1+1:=⟨gk - 1,by omega⟩
    obtain⟨bk,o,cs,rfl,hcl,hK,hcell⟩:=ze2 (Kd.C_below HC.out HB.out) z33 (by decide) i hlt;have hcl:cs.length=4:=hcl;have hrg:wr.rangeAt bk (o+i * 4) cs:=hcell;have h1c:=k33.K_one hK;have HK:=z00.mk (And.intro hK (And.intro hrg (And.intro hcl h1c)));obtain⟨n,en⟩:∃n,wr.heap.size=n:=⟨_,rfl⟩
    have hN:=z0q wr (.cells zg6 33);rw[en]at hN;have HN:=z00.mk hN;have HBA:=z00.mk (z03 HB.out (.cells zg6 33));have HNB:=z00.mk (show w.heap.size≤n by rw[←en];exact HB.out.size);have HRG:=z00.mk (show(sets (wr.alloc (.cells zg6 33)) n 0 cs).rangeAt n 0 cs from by
     have h1:=z71 (z34 cs 0 _ _ hN)
     rwa [z8d (hcl.trans (by kernel_rfl)),List.toList_toArray]at h1)
    have hBW:Below wr.heap.size wr (sets (wr.alloc (.cells zg6 33)) n 0 cs):=z2u (w0:=wr) (by omega) cs 0 _ (z03 (Below.refl _ _) _);have HBW:=z00.mk hBW;clear hK hrg hcl h1c hcell hN hBW
    go_wp2_with (first|((with_reducible refine z1r (N:=18) rfl ?_);refine wpList_load_mid rfl 33 (.tmp 17) rfl bk (o+i * 4) rfl cs _ HK.out.2.1 Tryz.underlying33 rfl (by rw[HK.out.2.2.1];kernel_rfl) ?_)|((with_reducible refine z3v (t:=33) (p:=10) (v:=.tmp 18) rfl ?_);refine wpList_store_mid rfl 33 (.tmp 10) (.tmp 18) rfl n 0 cs.toArray rfl rfl (z4u HN.out (by rw[List.size_toArray,HK.out.2.2.1];exact Nat.le_of_eq (by kernel_rfl))) (by rw[List.size_toArray,HK.out.2.2.1];kernel_rfl) (all_oneCell_toArray HK.out.2.2.2) ?_;rw[z2p,List.toList_toArray])|((with_reducible refine z1r (N:=21) rfl ?_);refine wpList_load_mid rfl 33 (.tmp 10) rfl n 0 rfl cs _ HRG.out Tryz.underlying33 rfl (by rw[HK.out.2.2.1];kernel_rfl) ?_))
    have HCB:=z00.mk (z09 HB.out HB.out.size HBW.out);refine(HBY.out _ i cs hlt HCB.out (k33.K_below HBW.out HK.out.1)).mono ?_;rintro e w1 ⟨rfl,hb⟩;have hb1:=z09 HBW.out HBW.out.size hb;have HB1:=z00.mk (z09 HB.out HB.out.size hb1);have HV1:=z00.mk (Kd.R_below HV.out hb1);clear hb hb1;obtain⟨b,hbE⟩:∃b,baL (g i)=b:=⟨_,rfl⟩
    by_cases he:g i=[]
    · have e1:(b.toList==([]:List UInt8))=true:=by rw[←hbE,he,z1d];exact beq_self_eq_true _
      have e2:(b.toList==(⟨#[]⟩:ByteArray).toList)=true:=by rw[←hbE,he];exact beq_self_eq_true _
      have HE:=z00.mk (zc9 (sep:=sep.data.toList) hlt he);clear he;rw[hbE];clear hbE;go_wp2
      go_ret2
      rw[HE.out];exact⟨rfl,HB1.out⟩
    · have e1:(b.toList==([]:List UInt8))=false:=by rw[beq_eq_false_iff_ne,←hbE,z1d];exact he
      have e2:(b.toList==(⟨#[]⟩:ByteArray).toList)=false:=by rw[beq_eq_false_iff_ne,←hbE,z1d];exact fun h=>he (h.trans z2k)
      have HBE:=z00.mk (And.intro hbE he);obtain⟨A8,c8,rfl⟩:=Kd.R_slice HV1.out;have HL:z00 (((List.range i).map fun j=>baL (g j)).length≤1000):=⟨by rw[List.length_map,List.length_range];omega⟩
      rw[hbE];clear hbE he;obtain⟨L,hL⟩:∃L,((List.range i).map fun j=>baL (g j))=L:=⟨_,rfl⟩
      rw[hL]at HV1 HL;rw[hL];have HLE:=z00.mk hL;clear hL
      go_wp2_with ((with_reducible refine z1p (b:=.append) (xs:=#[.tmp 25,.tmp 27]) rfl ?_);at_builtin;refine Kd.R_append Kd.string (w0:=w) w.heap.size rfl (.tmp 25) (.tmp 27) 54 9 (.string ⟨#[]⟩) 16 rfl Tryz.underlying54 zke rfl (by decide) (by decide) (.slice A8 L.length c8) L b [.string b] (fun k=>w.heap.size≤k) (fun _=>False) rfl zA0i rfl (fun _ hk=>hk.elim) (fun k hk=>Nat.le_trans HB1.out.size hk) HV1.out HB1.out HB1.out.size (by have:=HL.out;omega) ?_;intro v1 w2 ho hb hg hat;have HV2:=z00.mk ho;have HB2:=z00.mk hb;clear ho hb hg hat)
      go_roundg k1
      case rel=>exact⟨i+1,by go_num,by omega,by omega,⟨fun j hj=>by rcases Nat.lt_succ_iff_lt_or_eq.1 hj with h|h;exact HE.out j h;exact h ▸ HBE.out.2⟩,⟨by rw[z91,HBE.out.1,HLE.out];exact HV2.out⟩,HB2⟩
      case measure=>omega
  · obtain rfl:i=xs.length:=by omega
    have hz:decide ((xs.length:Int)<(xs.length:Int))=false:=decide_eq_false (by omega);obtain⟨A8,c8,rfl⟩:=Kd.R_slice HV.out;have hj:=z8s sep HV.out (by rw[z5m];exact z8t HG.out.1 HG.out.2 hn) (by rw[List.length_map,List.length_range];exact hn);rw[z5m]at hj;obtain⟨L,hL⟩:∃L,((List.range xs.length).map fun j=>baL (g j))=L:=⟨_,rfl⟩
    rw[hL]at hj ⊢;clear HV hL;have HJ:=z00.mk hj;have HE2:=z00.mk (z9y (sep:=sep.data.toList) HE.out);clear hj
    go_wp2_with fail
    refine HJ.out.mono ?_;rintro e w1 ⟨rfl,hb⟩;have HB1:=z00.mk (z09 HB.out HB.out.size hb);clear hb;go_wp2
    go_ret2
    rw[HE2.out];exact⟨rfl,HB1.out⟩

def okR (x:RlS):Prop:=okA x.f0∧(∀y ∈ x.f2,okL y)∧x.f2.length≤1000
def okP (p:PgS):Prop:=(∀x ∈ p.f0,okR x)∧p.f0.length≤1000∧okA p.f1
theorem zgg (a:AtS) (h:okA a):(atomL a).length≤200000:=z5j a 0 h
theorem zg4 (x:LtS) (h:okL x):(litL x).length≤300000:=by
 have h1:=zgg x.f1 h.1;have h2:=z27 x.f3 h.2.1;have h3:=z27 x.f4 h.2.2.1;have h4:=z27 x.f5 h.2.2.2.1;have h5:=z5u x.f6;have h6:=z5z x.f2.data.toList;unfold litL
 split
 · omega
 · split
   · simp only[List.length_append,List.length_cons,List.length_nil];omega
   · split
     · rename_i hc;have:=zd4 hc.2.2;simp only[List.length_append,List.length_cons,List.length_nil];omega
     · split
       · simp only[List.length_append,List.length_cons,List.length_nil];omega
       · split
         · simp only[List.length_append,List.length_cons,List.length_nil];omega
         · simp
theorem zhd {α:Type} (f:α→List UInt8) (z:α) (xs:List α):(List.range xs.length).map (fun i=>f (xs.getD i z))=xs.map f:=by
 apply List.ext_getElem?;intro i
 by_cases h:i<xs.length
 · rw[List.getElem?_map,List.getElem?_range h,List.getElem?_map,List.getElem?_eq_getElem h];simp only[Option.map_some,List.getD_eq_getElem?_getD,List.getElem?_eq_getElem h,Option.getD_some]
 · rw[List.getElem?_eq_none (by simp;omega),List.getElem?_eq_none (by simp;omega)]
theorem zfs {α:Type} (f:α→List UInt8) (z:α) (xs:List α) (sep:List UInt8):eachG (fun i=>f (xs.getD i z)) xs.length sep=eachL (xs.map f) sep:=by unfold eachG;rw[zhd]
theorem z9m {α:Type} {P:α→Prop} {z:α} {xs:List α} (h:∀x ∈ xs,P x) (hz:P z) (i:Nat):P (xs.getD i z):=by
 rw[List.getD_eq_getElem?_getD]
 cases hg:xs[i]? with
 |none=>exact hz
 |some y=>exact h y (List.mem_of_getElem? hg)
theorem okT_z:okT z60:=⟨⟨by decide,by decide⟩,by decide⟩
theorem okA_z:okA z25:=⟨(fun x hx=>by cases hx),by decide⟩
theorem okL_z:okL z62:=⟨okA_z,okT_z,okT_z,okT_z,(fun y hy=>by cases hy),by decide,by decide⟩
theorem okR_z:okR z33:=⟨okA_z,(fun y hy=>by cases hy),by decide⟩
theorem zgl (x:RlS) (h:okR x) (h12:x.f2.length≤12):(eachL (x.f2.map litL) [44,32]).1.length≤12 * 300002:=by
 refine Nat.le_trans (z9g (m:=300000) (fun y hy=>?_)) ?_
 · obtain⟨z,hz,rfl⟩:=List.mem_map.1 hy;exact zg4 z (h.2.1 z hz)
 · rw[List.length_map];exact Nat.mul_le_mul h12 (by simp)
theorem zdd (x:RlS) (h:okR x):(ruleL x).length≤4000000:=by
 have h1:=z5j x.f0 x.f1 h.1;unfold ruleL
 split
 · simp
 · rename_i hc;have h2:=zgl x h (by omega)
   split
   · simp
   · split
     · simp only[List.length_append,List.length_cons,List.length_nil];omega
     · simp only[List.length_append,List.length_cons,List.length_nil];omega
theorem zc4 (w:World) (A:Option Addr) (c:Nat) (xs:List LtS) (hLW:LaidW w) (hC:Kd.C k62 w A xs.length xs) (hn:xs.length≤1000) (hx:∀y ∈ xs,okL y) :
 Calls Tryz.prog 43 #[.slice A xs.length c,.func (.func 44) #[] #[],.string ⟨#[44,32]⟩] w fun e w'=>e=.returned (.tuple #[.string (baL (eachL (xs.map litL) [44,32]).1),.bool (eachL (xs.map litL) [44,32]).2])∧Below w.heap.size w w':=by
 have h:=zep w A c xs (fun i=>litL (xs.getD i z62)) ⟨#[44,32]⟩ (by decide) hC hn (fun i=>Nat.le_trans (zg4 _ (z9m hx okL_z i)) (by decide)) (fun W i cs hi hb hK=>by
  obtain⟨A2,c2,A16,c16,rfl,_,g2,_,g16⟩:=z9l hK;exact lit_show (xs.getD i z62) A2 c2 A16 c16 (i:Int) W (hLW.below hb) (z9m hx okL_z i) g2 g16)
 rw[zfs,show(⟨#[44,32]⟩:ByteArray).data.toList=[44,32]from rfl]at h;exact h
set_option maxHeartbeats 4000000 in
set_option maxRecDepth 100000 in
theorem zam (x:RlS) (A1:Option Addr) (c1:Nat) (A3:Option Addr) (c3:Nat) (w:World) (hLW:LaidW w) (hx:okR x) (hA1:Kd.C k60 w A1 x.f0.f1.length x.f0.f1) (hA3:Kd.C k62 w A3 x.f2.length x.f2) :
 Calls Tryz.prog 18 #[.agg #[.string x.f0.f0,.slice A1 x.f0.f1.length c1,.int .i64 x.f1,.slice A3 x.f2.length c3]] w fun e w'=>e=.returned (.string (baL (ruleL x)))∧Below w.heap.size w w':=by
 obtain⟨W,hW⟩:∃W,w.alloc (.cells #[.string x.f0.f0,.slice A1 x.f0.f1.length c1,.int .i64 x.f1,.slice A3 x.f2.length c3] 33)=W:=⟨_,rfl⟩
 have hBW:Below w.heap.size w W:=hW ▸ z03 (Below.refl w.heap.size w) _;have hN:=z0q w (.cells #[.string x.f0.f0,.slice A1 x.f0.f1.length c1,.int .i64 x.f1,.slice A3 x.f2.length c3] 33);rw[hW]at hN;have d0:W.cell? ⟨w.heap.size,0,none⟩=some (.string x.f0.f0):=(z01 hN 0).trans rfl;have d1:W.cell? ⟨w.heap.size,1,none⟩=some (.slice A1 x.f0.f1.length c1):=(z01 hN 1).trans rfl;have d2:W.cell? ⟨w.heap.size,2,none⟩=some (.int .i64 x.f1):=(z01 hN 2).trans rfl;have d3:W.cell? ⟨w.heap.size,3,none⟩=some (.slice A3 x.f2.length c3):=(z01 hN 3).trans rfl;have HB:=z00.mk hBW;have HN:=z00.mk hN;have hlb:x.f2.length≤1000:=hx.2.2;obtain⟨res,hres⟩:∃r,ruleL x=r:=⟨_,rfl⟩
 have HRE:=z00.mk hres;rw[hres]
 by_cases hf0:x.f1<0
 · have e1:decide (x.f1<0)=true:=decide_eq_true hf0;have HE:=z00.mk (show res=[] by rw[←HRE.out];exact if_pos (Or.inl hf0));clear hA1 hA3 hx hLW hBW hN hres;go_enter Tryz.func18,Tryz.ntmps18;go_wp2
   go_ret
   exact⟨by rw[HE.out];rfl,HB.out⟩
 have e1:decide (x.f1<0)=false:=decide_eq_false hf0
 by_cases hf5:5<x.f1
 · have e2:decide (5<x.f1)=true:=decide_eq_true hf5;have HE:=z00.mk (show res=[] by rw[←HRE.out];exact if_pos (Or.inr (Or.inl hf5)));clear hA1 hA3 hx hLW hBW hN hres hf0 hf5;go_enter Tryz.func18,Tryz.ntmps18;go_wp2
   go_ret
   exact⟨by rw[HE.out];rfl,HB.out⟩
 have e2:decide (5<x.f1)=false:=decide_eq_false hf5
 by_cases h12:12<x.f2.length
 · have e3:decide ((12:Int)<(x.f2.length:Int))=true:=decide_eq_true (by omega);have e4:decide (12<x.f2.length)=true:=decide_eq_true h12;have HE:=z00.mk (show res=[] by rw[←HRE.out];exact if_pos (Or.inr (Or.inr h12)));clear hA1 hA3 hx hLW hBW hN hres hf0 hf5;go_enter Tryz.func18,Tryz.ntmps18;go_wp2
   go_ret
   exact⟨by rw[HE.out];rfl,HB.out⟩
 have e3:decide ((12:Int)<(x.f2.length:Int))=false:=decide_eq_false (by omega);have e4:decide (12<x.f2.length)=false:=decide_eq_false h12;obtain⟨f,hf⟩:∃f:Nat,(f:Int)=x.f1:=⟨x.f1.toNat,by omega⟩
 have HHD:=z00.mk (show Calls Tryz.prog 42 #[.agg #[.string x.f0.f0,.slice A1 x.f0.f1.length c1],.int .i64 x.f1] W fun e w'=>e=.returned (.string (baL (headL x.f0 x.f1)))∧Below W.heap.size W w' from by
  have:=zbp x.f0 A1 c1 f (by omega) W (hLW.below hBW) (Kd.C_below hA1 hBW) hx.1;rw[hf]at this;exact this)
 have HEA:=z00.mk (fun(V:World) (h:Below w.heap.size w V)=>zc4 V A3 c3 x.f2 (hLW.below h) (Kd.C_below hA3 h) hx.2.2 hx.2.1);have hhl:=z5j x.f0 x.f1 hx.1;have hbl:=zgl x hx (by omega);have HE:=z00.mk (show res=if headL x.f0 x.f1=[]∨(eachL (x.f2.map litL) [44,32]).2=false then[]else if x.f2=[]then headL x.f0 x.f1++[46]else headL x.f0 x.f1++([32,58,45,32]++((eachL (x.f2.map litL) [44,32]).1++[46])) by rw[←HRE.out];exact if_neg (by rintro(h|h|h);exact hf0 h;exact hf5 h;exact h12 h));obtain⟨⟨s,ok⟩,hso⟩:∃p,eachL (x.f2.map litL) [44,32]=p:=⟨_,rfl⟩
 obtain⟨hd,hhd⟩:∃p,headL x.f0 x.f1=p:=⟨_,rfl⟩
 rw[hso]at HE HEA hbl;rw[hhd]at HE HHD hhl;obtain⟨hb,hbE⟩:∃b,baL hd=b:=⟨_,rfl⟩
 obtain⟨sb,sbE⟩:∃b,baL s=b:=⟨_,rfl⟩
 have hbS:hb.size≤200000:=by rw[←hbE,z1x];exact hhl
 have sbS:sb.size≤12 * 300002:=by rw[←sbE,z1x];exact hbl
 have HSB:=z00.mk sbE;rw[hbE]at HHD;simp only[sbE]at HEA;clear hA1 hA3 hx hLW hBW hN hres hf0 hf5 hf hso hhd sbE hhl hbl HRE;go_enter Tryz.func18,Tryz.ntmps18
 go_wp2_with fail
 refine HHD.out.mono ?_;rintro e w1 ⟨rfl,hb1⟩;have HB1:=z00.mk (z09 HB.out HB.out.size hb1);have HN1:=z00.mk (z0b HN.out hb1);clear hb1 d0 d1 d2 d3 hW;have d3:w1.cell? ⟨w.heap.size,3,none⟩=some (.slice A3 x.f2.length c3):=(z01 HN1.out 3).trans rfl
 go_wp2_with fail
 refine(HEA.out _ HB1.out).mono ?_;rintro e w2 ⟨rfl,hb2⟩;have HB2:=z00.mk (z09 HB1.out HB1.out.size hb2);have HN2:=z00.mk (z0b HN1.out hb2);clear hb2 d3;have d3:w2.cell? ⟨w.heap.size,3,none⟩=some (.slice A3 x.f2.length c3):=(z01 HN2.out 3).trans rfl
 by_cases hd0:hd=[]
 · obtain⟨g1,g2,g3,g4⟩:=emp_t hbE hd0;have HE2:=z00.mk (HE.out.trans (if_pos (Or.inl hd0)));clear hbE hd0;go_wp2
   go_ret
   exact⟨by rw[HE2.out];rfl,HB2.out⟩
 obtain⟨g1,g2,g3,g4⟩:=emp_f hbE hd0;have HHB:=z00.mk hbE;have HD0:=z00.mk hd0;clear hbE hd0
 cases ok with
 |false =>
  have HE2:=z00.mk (HE.out.trans (if_pos (Or.inr rfl)));go_wp2
  go_ret
  exact⟨by rw[HE2.out];rfl,HB2.out⟩
 |true =>
  have HE1:=z00.mk (HE.out.trans (if_neg (by rintro(h|h);exact HD0.out h;cases h)));clear HE
  by_cases hb0:x.f2=[]
  · have hl0:x.f2.length=0:=by rw[hb0];rfl
    have g5:decide ((0:Int)<(x.f2.length:Int))=false:=decide_eq_false (by omega);have g6:decide (0<x.f2.length)=false:=decide_eq_false (by omega);have HE2:=z00.mk (HE1.out.trans (if_pos hb0));clear HE1 hb0 hl0 HEA;have kq1:(9223372036854775807<hb.size+1)=False:=eq_false (by omega);go_wp2
    go_ret
    exact⟨by rw[HE2.out,←HHB.out];exact z6d (ba_eq (by simp)),HB2.out⟩
  · have hl0:x.f2.length≠0:=fun h=>hb0 (List.length_eq_zero_iff.1 h)
    have g5:decide ((0:Int)<(x.f2.length:Int))=true:=decide_eq_true (by omega);have g6:decide (0<x.f2.length)=true:=decide_eq_true (by omega);have HE2:=z00.mk (HE1.out.trans (if_neg hb0));clear HE1 hb0 hl0 HEA;have kq1:(9223372036854775807<4+sb.size)=False:=eq_false (by omega);have kq2:(9223372036854775807<hb.size+(4+sb.size))=False:=eq_false (by omega);have kq3:(9223372036854775807<hb.size+(4+sb.size)+1)=False:=eq_false (by omega);go_wp2
    go_ret
    exact⟨by rw[HE2.out,←HHB.out,←HSB.out];exact z6d (ba_eq (by simp)),HB2.out⟩
set_option maxRecDepth 100000 in
theorem zhh (x:RlS) (A1:Option Addr) (c1:Nat) (A3:Option Addr) (c3:Nat) (j:Int) (w:World) (hLW:LaidW w) (hx:okR x) (hA1:Kd.C k60 w A1 x.f0.f1.length x.f0.f1) (hA3:Kd.C k62 w A3 x.f2.length x.f2) :
 Calls Tryz.prog 49 #[.int .i64 j,.agg #[.string x.f0.f0,.slice A1 x.f0.f1.length c1,.int .i64 x.f1,.slice A3 x.f2.length c3]] w fun e w'=>e=.returned (.string (baL (ruleL x)))∧Below w.heap.size w w':=by
 have hB:=z03 (Below.refl w.heap.size w) (.cells #[.string x.f0.f0,.slice A1 x.f0.f1.length c1,.int .i64 x.f1,.slice A3 x.f2.length c3] 33);have HP:=z00.mk (zam x A1 c1 A3 c3 _ (hLW.below hB) hx (Kd.C_below hA1 hB) (Kd.C_below hA3 hB));have HB:=z00.mk hB;clear hA1 hA3 hx hLW hB;go_enter Tryz.func49,Tryz.ntmps49
 go_wp2_with fail
 refine HP.out.mono ?_;rintro e w1 ⟨rfl,hb⟩;have HB1:=z00.mk (z09 HB.out HB.out.size hb);clear hb;go_wp2
 go_ret
 exact⟨rfl,HB1.out⟩
theorem zat (w:World) (A:Option Addr) (c:Nat) (xs:List RlS) (hLW:LaidW w) (hC:Kd.C k33 w A xs.length xs) (hn:xs.length≤1000) (hx:∀y ∈ xs,okR y) :
 Calls Tryz.prog 48 #[.slice A xs.length c,.func (.func 49) #[] #[],.string ⟨#[10]⟩] w fun e w'=>e=.returned (.tuple #[.string (baL (eachL (xs.map ruleL) [10]).1),.bool (eachL (xs.map ruleL) [10]).2])∧Below w.heap.size w w':=by
 have h:=zfm w A c xs (fun i=>ruleL (xs.getD i z33)) ⟨#[10]⟩ (by decide) hC hn (fun i=>Nat.le_trans (zdd _ (z9m hx okR_z i)) (by decide)) (fun W i cs hi hb hK=>by
  obtain⟨A1,c1,A3,c3,rfl,_,g1,_,g3⟩:=zgs hK;exact zhh (xs.getD i z33) A1 c1 A3 c3 (i:Int) W (hLW.below hb) (z9m hx okR_z i) g1 g3)
 rw[zfs,show(⟨#[10]⟩:ByteArray).data.toList=[10]from rfl]at h;exact h

set_option maxHeartbeats 4000000 in
set_option maxRecDepth 100000 in
theorem za9 (p:PgS) (A0:Option Addr) (c0:Nat) (A2:Option Addr) (c2:Nat) (w:World) (hLW:LaidW w) (hp:okP p) (hA0:Kd.C k33 w A0 p.f0.length p.f0) (hA2:Kd.C k60 w A2 p.f1.f1.length p.f1.f1) :
 Calls Tryz.prog 20 #[.agg #[.slice A0 p.f0.length c0,.string p.f1.f0,.slice A2 p.f1.f1.length c2]] w fun e w'=>e=.returned (.string (baL (progL p)))∧Below w.heap.size w w':=by
 obtain⟨rs,q⟩:=p;have hlr:rs.length≤1000:=hp.2.1;obtain⟨W,hW⟩:∃W,w.alloc (.cells #[.slice A0 rs.length c0,.string q.f0,.slice A2 q.f1.length c2] 27)=W:=⟨_,rfl⟩
 have hBW:Below w.heap.size w W:=hW ▸ z03 (Below.refl w.heap.size w) _;have hN:=z0q w (.cells #[.slice A0 rs.length c0,.string q.f0,.slice A2 q.f1.length c2] 27);rw[hW]at hN;have d0:W.cell? ⟨w.heap.size,0,none⟩=some (.slice A0 rs.length c0):=(z01 hN 0).trans rfl;have HB:=z00.mk hBW;have HN:=z00.mk hN;have HEA:=z00.mk (zat W A0 c0 rs (hLW.below hBW) (Kd.C_below hA0 hBW) hlr hp.1);have HAT:=z00.mk (fun(V:World) (h:Below w.heap.size w V)=>z4v q A2 c2 V (hLW.below h) (Kd.C_below hA2 h) hp.2.2);have hql:=zgg q hp.2.2;have hsl:(eachL (rs.map ruleL) [10]).1.length≤1000 * 4000001:=by
  refine Nat.le_trans (z9g (m:=4000000) (fun y hy=>?_)) ?_
  · obtain⟨z,hz,rfl⟩:=List.mem_map.1 hy;exact zdd z (hp.1 z hz)
  · rw[List.length_map];exact Nat.mul_le_mul hlr (by simp)
 obtain⟨res,hres⟩:∃r,progL ⟨rs,q⟩=r:=⟨_,rfl⟩
 rw[hres];have HE:=z00.mk (show res=if(eachL (rs.map ruleL) [10]).2=false∨atomL q=[]∨200<rs.length∨20000<(((eachL (rs.map ruleL) [10]).1++(if rs=[]then[]else[10]))++([63,45,32]++(atomL q++[46,10]))).length then[]else((eachL (rs.map ruleL) [10]).1++(if rs=[]then[]else[10]))++([63,45,32]++(atomL q++[46,10])) by rw[←hres];rfl);obtain⟨⟨s,ok⟩,hso⟩:∃x,eachL (rs.map ruleL) [10]=x:=⟨_,rfl⟩
 obtain⟨qt,hqt⟩:∃x,atomL q=x:=⟨_,rfl⟩
 rw[hso]at HE HEA hsl;rw[hqt]at HE hql;simp only[hqt]at HAT;obtain⟨sb,sbE⟩:∃b,baL s=b:=⟨_,rfl⟩
 obtain⟨qb,qbE⟩:∃b,baL qt=b:=⟨_,rfl⟩
 have sbS:sb.size≤1000 * 4000001:=by rw[←sbE,z1x];exact hsl
 have qbS:qb.size≤200000:=by rw[←qbE,z1x];exact hql
 have HSB:=z00.mk sbE;simp only[sbE]at HEA;simp only[qbE]at HAT;have HQB:=z00.mk qbE;clear hA0 hA2 hp hLW hBW hN hres hso hqt sbE qbE hql hsl;go_enter Tryz.func20,Tryz.ntmps20
 go_wp2_with fail
 refine HEA.out.mono ?_;rintro e w1 ⟨rfl,hb1⟩;have HB1:=z00.mk (z09 HB.out HB.out.size hb1);have HN1:=z00.mk (z0b HN.out hb1);clear hb1 d0 hW HEA;have d0:w1.cell? ⟨w.heap.size,0,none⟩=some (.slice A0 rs.length c0):=(z01 HN1.out 0).trans rfl;have d1:w1.cell? ⟨w.heap.size,1,none⟩=some (.string q.f0):=(z01 HN1.out 1).trans rfl;have d2:w1.cell? ⟨w.heap.size,2,none⟩=some (.slice A2 q.f1.length c2):=(z01 HN1.out 2).trans rfl;obtain⟨ln,hln⟩:∃l,s++(if rs=[]then[]else[10])=l:=⟨_,rfl⟩
 rw[hln]at HE
 by_cases hr0:rs=[]
 · have hl0:rs.length=0:=by rw[hr0];rfl
   have g5:decide ((0:Int)<(rs.length:Int))=false:=decide_eq_false (by omega);have g6:decide (0<rs.length)=false:=decide_eq_false (by omega);have g7:decide ((200:Int)<(rs.length:Int))=false:=decide_eq_false (by omega);have g8:decide (200<rs.length)=false:=decide_eq_false (by omega);obtain⟨lb,lbE⟩:∃b,baL ln=b:=⟨_,rfl⟩
   have hsl2:sb=lb:=by rw[←lbE,←hln,if_pos hr0,List.append_nil,HSB.out]
   subst hsl2;have HLB:=z00.mk lbE;have H2:=z00.mk (show ¬200<rs.length by omega);clear hr0 hl0 hln lbE HSB
   go_wp2_with fail
   refine(HAT.out _ HB1.out).mono ?_;rintro e w2 ⟨rfl,hb2⟩;have HB2:=z00.mk (z09 HB1.out HB1.out.size hb2);have HN2:=z00.mk (z0b HN1.out hb2);clear hb2 d0 d1 d2;have d0:w2.cell? ⟨w.heap.size,0,none⟩=some (.slice A0 rs.length c0):=(z01 HN2.out 0).trans rfl;have kq1:(9223372036854775807<sb.size+3)=False:=eq_false (by omega);have kq2:(9223372036854775807<sb.size+3+qb.size)=False:=eq_false (by omega);have kq3:(9223372036854775807<sb.size+3+qb.size+2)=False:=eq_false (by omega)
   cases ok with
   |false =>
    have HE2:=z00.mk (HE.out.trans (if_pos (Or.inl rfl)));go_wp2
    go_ret
    exact⟨by rw[HE2.out];rfl,HB2.out⟩
   |true =>
   by_cases hq0:qt=[]
   · obtain⟨g1,g2,g3,g4⟩:=emp_t HQB.out hq0;have HE2:=z00.mk (HE.out.trans (if_pos (Or.inr (Or.inl hq0))));clear hq0;go_wp2
     go_ret
     exact⟨by rw[HE2.out];rfl,HB2.out⟩
   obtain⟨g1,g2,g3,g4⟩:=emp_f HQB.out hq0;have HQ0:=z00.mk hq0;clear hq0;have HTX:=z00.mk (show((sb++(⟨#[63,45,32]⟩:ByteArray))++qb)++(⟨#[46,10]⟩:ByteArray)=baL (ln++([63,45,32]++(qt++[46,10]))) by rw[←HLB.out,←HQB.out];exact ba_eq (by simp));have HSZ:=z00.mk (show(ln++([63,45,32]++(qt++[46,10]))).length=sb.size+3+qb.size+2 by rw[←z1x,←HTX.out];simp only[ByteArray.size_append];rfl)
   by_cases hbig:20000<(ln++([63,45,32]++(qt++[46,10]))).length
   · have HE2:=z00.mk (HE.out.trans (if_pos (Or.inr (Or.inr (Or.inr hbig)))));rw[HSZ.out]at hbig;have g9:decide (20000<sb.size+3+qb.size+2)=true:=decide_eq_true hbig;have g10:decide ((20000:Int)<(sb.size:Int)+3+(qb.size:Int)+2)=true:=decide_eq_true (by omega);clear hbig;go_wp2
     go_ret
     exact⟨by rw[HE2.out];rfl,HB2.out⟩
   · have HE2:=z00.mk (HE.out.trans (if_neg (by rintro(h|h|h|h);cases h;exact HQ0.out h;exact H2.out h;exact hbig h)));rw[HSZ.out]at hbig;have g9:decide (20000<sb.size+3+qb.size+2)=false:=decide_eq_false hbig;have g10:decide ((20000:Int)<(sb.size:Int)+3+(qb.size:Int)+2)=false:=decide_eq_false (by omega);clear hbig;go_wp2
     go_ret
     exact⟨by rw[HE2.out,←HTX.out];rfl,HB2.out⟩
 · have hl0:rs.length≠0:=fun h=>hr0 (List.length_eq_zero_iff.1 h)
   have g5:decide ((0:Int)<(rs.length:Int))=true:=decide_eq_true (by omega);have g6:decide (0<rs.length)=true:=decide_eq_true (by omega);have kq0:(9223372036854775807<sb.size+1)=False:=eq_false (by omega);obtain⟨lb,lbE⟩:∃b,baL ln=b:=⟨_,rfl⟩
   have hsl2:sb++(⟨#[10]⟩:ByteArray)=lb:=by rw[←lbE,←hln,if_neg hr0,←HSB.out];exact ba_eq (by simp)
   have hlbs:lb.size≤1000 * 4000001+1:=by rw[←hsl2,ByteArray.size_append];show sb.size+1≤_;omega
   have HLB:=z00.mk lbE;clear hr0 hl0 hln lbE HSB
   go_wp2_with fail
   refine(HAT.out _ HB1.out).mono ?_;rintro e w2 ⟨rfl,hb2⟩;have HB2:=z00.mk (z09 HB1.out HB1.out.size hb2);have HN2:=z00.mk (z0b HN1.out hb2);clear hb2 d0 d1 d2 hsl2;have d0:w2.cell? ⟨w.heap.size,0,none⟩=some (.slice A0 rs.length c0):=(z01 HN2.out 0).trans rfl;clear kq0 sbS
   by_cases h200:200<rs.length
   · have H2:=z00.mk h200;have g7:decide ((200:Int)<(rs.length:Int))=true:=decide_eq_true (by omega);have g8:decide (200<rs.length)=true:=decide_eq_true (by omega);clear h200;have kq1:(9223372036854775807<lb.size+3)=False:=eq_false (by omega);have kq2:(9223372036854775807<lb.size+3+qb.size)=False:=eq_false (by omega);have kq3:(9223372036854775807<lb.size+3+qb.size+2)=False:=eq_false (by omega)
     cases ok with
     |false =>
      have HE2:=z00.mk (HE.out.trans (if_pos (Or.inl rfl)));go_wp2
      go_ret
      exact⟨by rw[HE2.out];rfl,HB2.out⟩
     |true =>
     by_cases hq0:qt=[]
     · obtain⟨g1,g2,g3,g4⟩:=emp_t HQB.out hq0;have HE2:=z00.mk (HE.out.trans (if_pos (Or.inr (Or.inl hq0))));clear hq0;go_wp2
       go_ret
       exact⟨by rw[HE2.out];rfl,HB2.out⟩
     obtain⟨g1,g2,g3,g4⟩:=emp_f HQB.out hq0;have HQ0:=z00.mk hq0;clear hq0;have HE2:=z00.mk (HE.out.trans (if_pos (Or.inr (Or.inr (Or.inl H2.out)))));go_wp2
     go_ret
     exact⟨by rw[HE2.out];rfl,HB2.out⟩
   · have H2:=z00.mk h200;have g7:decide ((200:Int)<(rs.length:Int))=false:=decide_eq_false (by omega);have g8:decide (200<rs.length)=false:=decide_eq_false (by omega);clear h200;have kq1:(9223372036854775807<lb.size+3)=False:=eq_false (by omega);have kq2:(9223372036854775807<lb.size+3+qb.size)=False:=eq_false (by omega);have kq3:(9223372036854775807<lb.size+3+qb.size+2)=False:=eq_false (by omega)
     cases ok with
     |false =>
      have HE2:=z00.mk (HE.out.trans (if_pos (Or.inl rfl)));go_wp2
      go_ret
      exact⟨by rw[HE2.out];rfl,HB2.out⟩
     |true =>
     by_cases hq0:qt=[]
     · obtain⟨g1,g2,g3,g4⟩:=emp_t HQB.out hq0;have HE2:=z00.mk (HE.out.trans (if_pos (Or.inr (Or.inl hq0))));clear hq0;go_wp2
       go_ret
       exact⟨by rw[HE2.out];rfl,HB2.out⟩
     obtain⟨g1,g2,g3,g4⟩:=emp_f HQB.out hq0;have HQ0:=z00.mk hq0;clear hq0;have HTX:=z00.mk (show((lb++(⟨#[63,45,32]⟩:ByteArray))++qb)++(⟨#[46,10]⟩:ByteArray)=baL (ln++([63,45,32]++(qt++[46,10]))) by rw[←HLB.out,←HQB.out];exact ba_eq (by simp));have HSZ:=z00.mk (show(ln++([63,45,32]++(qt++[46,10]))).length=lb.size+3+qb.size+2 by rw[←z1x,←HTX.out];simp only[ByteArray.size_append];rfl)
     by_cases hbig:20000<(ln++([63,45,32]++(qt++[46,10]))).length
     · have HE2:=z00.mk (HE.out.trans (if_pos (Or.inr (Or.inr (Or.inr hbig)))));rw[HSZ.out]at hbig;have g9:decide (20000<lb.size+3+qb.size+2)=true:=decide_eq_true hbig;have g10:decide ((20000:Int)<(lb.size:Int)+3+(qb.size:Int)+2)=true:=decide_eq_true (by omega);clear hbig;go_wp2
       go_ret
       exact⟨by rw[HE2.out];rfl,HB2.out⟩
     · have HE2:=z00.mk (HE.out.trans (if_neg (by rintro(h|h|h|h);cases h;exact HQ0.out h;exact H2.out h;exact hbig h)));rw[HSZ.out]at hbig;have g9:decide (20000<lb.size+3+qb.size+2)=false:=decide_eq_false hbig;have g10:decide ((20000:Int)<(lb.size:Int)+3+(qb.size:Int)+2)=false:=decide_eq_false (by omega);clear hbig;go_wp2
       go_ret
       exact⟨by rw[HE2.out,←HTX.out];rfl,HB2.out⟩
set_option maxRecDepth 100000 in
theorem zbd (p:PgS) (A0:Option Addr) (c0:Nat) (A2:Option Addr) (c2:Nat) (w:World) (hLW:LaidW w) (hp:okP p) (hA0:Kd.C k33 w A0 p.f0.length p.f0) (hA2:Kd.C k60 w A2 p.f1.f1.length p.f1.f1) :
 Calls Tryz.prog 22 #[.agg #[.slice A0 p.f0.length c0,.string p.f1.f0,.slice A2 p.f1.f1.length c2]] w fun e w'=>e=.returned (.bool (!(progL p).isEmpty))∧Below w.heap.size w w':=by
 have hB:=z03 (Below.refl w.heap.size w) (.cells #[.slice A0 p.f0.length c0,.string p.f1.f0,.slice A2 p.f1.f1.length c2] 27);have HP:=z00.mk (za9 p A0 c0 A2 c2 _ (hLW.below hB) hp (Kd.C_below hA0 hB) (Kd.C_below hA2 hB));have HB:=z00.mk hB;obtain⟨r,hr⟩:∃r,(!(progL p).isEmpty)=r:=⟨_,rfl⟩
 have HR:=z00.mk hr;rw[hr];clear hA0 hA2 hp hLW hB hr;go_enter Tryz.func22,Tryz.ntmps22
 go_wp2_with fail
 refine HP.out.mono ?_;rintro e w1 ⟨rfl,hb⟩;have HB1:=z00.mk (z09 HB.out HB.out.size hb);clear hb;obtain⟨b,hbE⟩:∃b,baL (progL p)=b:=⟨_,rfl⟩
 rw[hbE]
 by_cases he:progL p=[]
 · obtain⟨e1,e2,e3,e4⟩:=emp_t hbE he;have HF:=z00.mk (show r=false by rw[←HR.out,he];rfl);clear hbE he;go_wp2
   go_ret
   exact⟨by rw[HF.out];rfl,HB1.out⟩
 · obtain⟨e1,e2,e3,e4⟩:=emp_f hbE he;have HF:=z00.mk (show r=true by rw[←HR.out,neB he]);clear hbE he;go_wp2
   go_ret
   exact⟨by rw[HF.out];rfl,HB1.out⟩

def okTB (t:TmS):Bool:=decide (-9223372036854775808≤t.f1.f1)&&(decide (t.f1.f1≤9223372036854775807)&&decide (t.f0.size≤9223372036854775807))
theorem zez {t:TmS}:okTB t=true↔okT t:=by
 unfold okTB okT;simp only[Bool.and_eq_true,decide_eq_true_eq];exact⟨fun h=>⟨⟨h.1,h.2.1⟩,h.2.2⟩,fun h=>⟨h.1.1,h.1.2,h.2⟩⟩
def okAB (l:List TmS):Bool:=l.all okTB&&decide (l.length≤1000)
theorem zc5 {p:ByteArray} {l:List TmS}:okAB l=true↔okA ⟨p,l⟩:=by
 unfold okAB okA;simp only[Bool.and_eq_true,decide_eq_true_eq,List.all_eq_true];exact⟨fun h=>⟨fun x hx=>zez.1 (h.1 x hx),h.2⟩,fun h=>⟨fun x hx=>zez.2 (h.1 x hx),h.2⟩⟩
def okSB (l:List StS):Bool:=(l.all fun x=>decide (x.f1.size≤9223372036854775807))&&decide (l.length≤140737488355328)
theorem za7 {l:List StS}:okSB l=true↔((∀x ∈ l,x.f1.size≤9223372036854775807)∧l.length≤140737488355328):=by
 unfold okSB;simp only[Bool.and_eq_true,decide_eq_true_eq,List.all_eq_true]
def okLB (x:LtS):Bool:=okAB x.f1.f1&&(okTB x.f3&&(okTB x.f4&&(okTB x.f5&&(okSB x.f6&&decide (x.f2.size≤9223372036854775807)))))
theorem ziq {x:LtS}:okLB x=true↔okL x:=by
 unfold okLB okL;simp only[Bool.and_eq_true,decide_eq_true_eq,zez,za7,zc5 (p:=x.f1.f0)];exact⟨fun h=>⟨h.1,h.2.1,h.2.2.1,h.2.2.2.1,h.2.2.2.2.1.1,h.2.2.2.2.1.2,h.2.2.2.2.2⟩,fun h=>⟨h.1,h.2.1,h.2.2.1,h.2.2.2.1,⟨h.2.2.2.2.1,h.2.2.2.2.2.1⟩,h.2.2.2.2.2.2⟩⟩
def okRB (a:List TmS) (b:List LtS):Bool:=okAB a&&(b.all okLB&&decide (b.length≤1000))
theorem zf9 {x:RlS}:okRB x.f0.f1 x.f2=true↔okR x:=by
 unfold okRB okR;simp only[Bool.and_eq_true,decide_eq_true_eq,List.all_eq_true,zc5 (p:=x.f0.f0)];exact⟨fun h=>⟨h.1,fun y hy=>ziq.1 (h.2.1 y hy),h.2.2⟩,fun h=>⟨h.1,fun y hy=>ziq.2 (h.2.1 y hy),h.2.2⟩⟩
def okPB (rs:List RlS) (a:List TmS):Bool:=(rs.all fun x=>okRB x.f0.f1 x.f2)&&(decide (rs.length≤1000)&&okAB a)
theorem zjr {p:PgS}:okPB p.f0 p.f1.f1=true↔okP p:=by
 unfold okPB okP;simp only[Bool.and_eq_true,decide_eq_true_eq,List.all_eq_true,zc5 (p:=p.f1.f0)];exact⟨fun h=>⟨fun y hy=>zf9.1 (h.1 y hy),h.2.1,h.2.2⟩,fun h=>⟨fun y hy=>zf9.2 (h.1 y hy),h.2.1,h.2.2⟩⟩
def z6h.f (l0:List S69):Option ByteArray:=if okSB l0=true then some (baL (pathL l0))else none
theorem z6h.calls (A0:Option Addr) (c0:Nat) (l0:List S69) (r:ByteArray) (w:World) (hLW:LaidW w) (hr0:Kd.C k69 w A0 l0.length l0) (hc0:l0.length≤c0) (h:z6h.f l0=some r) :
 Calls Tryz.prog 25 #[.slice A0 l0.length c0] w fun e w'=>e=.returned (.string r)∧Below w.heap.size w w':=by
 unfold z6h.f at h
 split at h
 · rename_i hk;obtain rfl:=Option.some.inj h;exact z5a l0 A0 c0 w hLW hr0 (za7.1 hk).1 (za7.1 hk).2
 · cases h
def z3t.f (l0:List S69):Option Bool:=if okSB l0=true then some (rpB l0)else none
theorem z3t.calls (A0:Option Addr) (c0:Nat) (l0:List S69) (r:Bool) (w:World) (hLW:LaidW w) (hr0:Kd.C k69 w A0 l0.length l0) (hc0:l0.length≤c0) (h:z3t.f l0=some r) :
 Calls Tryz.prog 27 #[.slice A0 l0.length c0] w fun e w'=>e=.returned (.bool r)∧Below w.heap.size w w':=by
 unfold z3t.f at h
 split at h
 · rename_i hk;obtain rfl:=Option.some.inj h;exact z3f l0 A0 c0 w hLW hr0 (za7.1 hk).1 (za7.1 hk).2
 · cases h
def z6r.f (a0_0:ByteArray) (l0_1:List S60):Option ByteArray:=if okAB l0_1=true then some (baL (atomL ⟨a0_0,l0_1⟩))else none
theorem z6r.calls (a0_0:ByteArray) (A0_1:Option Addr) (c0_1:Nat) (l0_1:List S60) (r:ByteArray) (w:World) (hLW:LaidW w) (hr0_1:Kd.C k60 w A0_1 l0_1.length l0_1) (hc0_1:l0_1.length≤c0_1) (h:z6r.f a0_0 l0_1=some r) :
 Calls Tryz.prog 23 #[.agg #[.string a0_0,.slice A0_1 l0_1.length c0_1]] w fun e w'=>e=.returned (.string r)∧Below w.heap.size w w':=by
 unfold z6r.f at h
 split at h
 · rename_i hk;obtain rfl:=Option.some.inj h;exact z4v ⟨a0_0,l0_1⟩ A0_1 c0_1 w hLW hr0_1 (zc5.1 hk)
 · cases h
def z6s.f (a0_0:ByteArray) (l0_1:List S60) (a0_2:Int) (l0_3:List S62):Option ByteArray:=if okRB l0_1 l0_3=true then some (baL (ruleL ⟨⟨a0_0,l0_1⟩,a0_2,l0_3⟩))else none
theorem z6s.calls (a0_0:ByteArray) (A0_1:Option Addr) (c0_1:Nat) (l0_1:List S60) (a0_2:Int) (A0_3:Option Addr) (c0_3:Nat) (l0_3:List S62) (r:ByteArray) (w:World) (hLW:LaidW w) (hr0_1:Kd.C k60 w A0_1 l0_1.length l0_1) (hc0_1:l0_1.length≤c0_1) (hr0_3:Kd.C k62 w A0_3 l0_3.length l0_3) (hc0_3:l0_3.length≤c0_3) (h:z6s.f a0_0 l0_1 a0_2 l0_3=some r) :
 Calls Tryz.prog 18 #[.agg #[.string a0_0,.slice A0_1 l0_1.length c0_1,.int .i64 a0_2,.slice A0_3 l0_3.length c0_3]] w fun e w'=>e=.returned (.string r)∧Below w.heap.size w w':=by
 unfold z6s.f at h
 split at h
 · rename_i hk;obtain rfl:=Option.some.inj h;exact zam ⟨⟨a0_0,l0_1⟩,a0_2,l0_3⟩ A0_1 c0_1 A0_3 c0_3 w hLW (zf9 (x:=⟨⟨a0_0,l0_1⟩,a0_2,l0_3⟩).1 hk) hr0_1 hr0_3
 · cases h
def z6q.f (l0_0:List S33) (a0_1:ByteArray) (l0_2:List S60):Option ByteArray:=if okPB l0_0 l0_2=true then some (baL (progL ⟨l0_0,⟨a0_1,l0_2⟩⟩))else none
theorem z6q.calls (A0_0:Option Addr) (c0_0:Nat) (l0_0:List S33) (a0_1:ByteArray) (A0_2:Option Addr) (c0_2:Nat) (l0_2:List S60) (r:ByteArray) (w:World) (hLW:LaidW w) (hr0_0:Kd.C k33 w A0_0 l0_0.length l0_0) (hc0_0:l0_0.length≤c0_0) (hr0_2:Kd.C k60 w A0_2 l0_2.length l0_2) (hc0_2:l0_2.length≤c0_2) (h:z6q.f l0_0 a0_1 l0_2=some r) :
 Calls Tryz.prog 20 #[.agg #[.slice A0_0 l0_0.length c0_0,.string a0_1,.slice A0_2 l0_2.length c0_2]] w fun e w'=>e=.returned (.string r)∧Below w.heap.size w w':=by
 unfold z6q.f at h
 split at h
 · rename_i hk;obtain rfl:=Option.some.inj h;exact za9 ⟨l0_0,⟨a0_1,l0_2⟩⟩ A0_0 c0_0 A0_2 c0_2 w hLW (zjr (p:=⟨l0_0,⟨a0_1,l0_2⟩⟩).1 hk) hr0_0 hr0_2
 · cases h
def z5n.f (l0_0:List S33) (a0_1:ByteArray) (l0_2:List S60):Option Bool:=if okPB l0_0 l0_2=true then some (!(progL ⟨l0_0,⟨a0_1,l0_2⟩⟩).isEmpty)else none
theorem z5n.calls (A0_0:Option Addr) (c0_0:Nat) (l0_0:List S33) (a0_1:ByteArray) (A0_2:Option Addr) (c0_2:Nat) (l0_2:List S60) (r:Bool) (w:World) (hLW:LaidW w) (hr0_0:Kd.C k33 w A0_0 l0_0.length l0_0) (hc0_0:l0_0.length≤c0_0) (hr0_2:Kd.C k60 w A0_2 l0_2.length l0_2) (hc0_2:l0_2.length≤c0_2) (h:z5n.f l0_0 a0_1 l0_2=some r) :
 Calls Tryz.prog 22 #[.agg #[.slice A0_0 l0_0.length c0_0,.string a0_1,.slice A0_2 l0_2.length c0_2]] w fun e w'=>e=.returned (.bool r)∧Below w.heap.size w w':=by
 unfold z5n.f at h
 split at h
 · rename_i hk;obtain rfl:=Option.some.inj h;exact zbd ⟨l0_0,⟨a0_1,l0_2⟩⟩ A0_0 c0_0 A0_2 c0_2 w hLW (zjr (p:=⟨l0_0,⟨a0_1,l0_2⟩⟩).1 hk) hr0_0 hr0_2
 · cases h
end Go.Proofs.YthebhbomlllpeaaGreatDoor.X
