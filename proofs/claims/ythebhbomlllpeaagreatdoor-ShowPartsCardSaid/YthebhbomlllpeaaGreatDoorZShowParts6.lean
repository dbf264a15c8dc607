/-
  ShowParts: what the proof needs, put together by a program of this session (shake.py), part 6.
-/
import Derived.Test.YthebhbomlllpeaaGreatDoorZShowParts5
set_option linter.unusedVariables false
set_option linter.unusedSimpArgs false
namespace Go.Proofs.YthebhbomlllpeaaGreatDoor.X
open Go.RowKit Go.Proofs.YthebhbomlllpeaaGreatDoorW.PrintWords Go.Proofs.YthebhbomlllpeaaGreatDoorW.PrintLast Go.Proofs.YthebhbomlllpeaaGreatDoorW.PrintMore
theorem z5w {P:Program} {fn:Func} {t1 t2:Array Value} {R:Ending→World→Prop} (h:results fn t1=results fn t2):∀(ds:List Deferred) (u:FrameMode) (w:World),Leaves P fn t1 R ds u w→Leaves P fn t2 R ds u w
 |[],.returning,w,hl=>by
  obtain⟨v,h1,h2⟩:=hl;exact⟨v,by rw[←h];exact h1,h2⟩
 |[],.panicking chain,w,hl=>hl
 |[],.run,w,hl=>hl
 |d::ds,u,w,hl=>by
  obtain⟨hne,fv,cap,f,args,ht,hi,hc⟩:=hl;refine⟨hne,fv,cap,f,args,ht,hi,hc.mono ?_⟩;intro e u' w' he
  cases e with
  |returned v=>exact z5w h ds _ _ he
  |panicked c=>exact z5w h ds _ _ he
  |outgrown=>exact he
def z36 (s:ByteArray):List S108 × Int × Int:=if 20000<s.size then([],0,4)else z7s s
def outRes {α:Type} (zero:α) (ts:List S108) (en:Int):Except (Nat × Int) α→α × Int × Int
 |.ok x=>(x,0,0)
 |.error q=>(zero,(seeP ts en (ts.length - q.1)).f2,q.2)
def z4b {α:Type} (zero:α) (p:Prs α) (s:ByteArray):α × Int × Int :=
 if(z36 s).2.2=0 then outRes zero (z36 s).1 s.size (allP p ((z36 s).1.map tkOf))else(zero,(z36 s).2.1,(z36 s).2.2)
theorem lex_env {s:ByteArray} (h:(z36 s).2.2=0):(z36 s).1.length≤20000∧∀x ∈ (z36 s).1,x.f1.size≤281474976710656:=by
 unfold z36 at h ⊢
 split at h
 · cases h
 · rename_i hs;rw[if_neg hs];unfold z7s
   cases ht:tokN nmL vlL 0 s.data.toList with
   |error i=>exact⟨Nat.zero_le _,fun x hx=>by cases hx⟩
   |ok l =>
    have hn:=zd5 nmL vlL _ s.data.toList 0 l (Nat.le_refl _) ht;rw[z0i]at hn;refine⟨by show(l.map (tokS s)).length≤20000;rw[List.length_map];omega,fun x hx=>?_⟩;obtain⟨y,hy,rfl⟩:=List.mem_map.1 hx;simp only[tokS];rw[ByteArray.size_extract,ByteArray.size_extract];omega
theorem lex_f (s:ByteArray) (hs:s.size≤140737488351232):z4f.f s=some ((z36 s).1,(z36 s).2.1,(z36 s).2.2):=by
 unfold z4f.f z36;rw[if_pos hs]
 split <;> rfl
theorem z6g (n:Nat):∀(vs:List Value) (i:Nat) (W:World),(sets W n i vs).heap.size=W.heap.size
 |[],_,_=>rfl
 |v::vs,i,W=>by
  show(sets (W.setCell ⟨n,i,none⟩ v) n (i+1) vs).heap.size=_;rw[z6g n vs]
  simp
theorem z9x (n:Nat):∀(vs:List Value) (i:Nat) (V W:World),Below 0 V W→Below 0 V (sets W n i vs)
 |[],_,_,_,h=>h
 |v::vs,i,V,W,h=>z9x n vs (i+1) V _ (h.setCell (Nat.zero_le _) v)
theorem zh1 {B m:Nat} {v w:World} {cs:Array Value} {t:TypeId} (h:Below B v w) (hv:v.heap[m]?=some (.cells cs t (0,0))) (hw:w.heap[m]?=some (.cells cs t (0,0))) (vs:List Value):Below B (sets v m 0 vs) (sets w m 0 vs):=by
 have z1:=z9x m vs 0 v v (Below.refl 0 v);have z2:=z9x m vs 0 w w (Below.refl 0 w);refine⟨z2.os.trans (h.os.trans z1.os.symm),z2.tape.trans (h.tape.trans z1.tape.symm),z2.output.trans (h.output.trans z1.output.symm),by rw[z6g,z6g];exact h.size,fun k hk=>?_⟩
 by_cases hm:k=m
 · subst hm;rw[z34 vs 0 w cs hw,z34 vs 0 v cs hv]
 · have f:∀(vs:List Value) (i:Nat) (W:World),(sets W m i vs).heap[k]?=W.heap[k]?:=by
    intro vs
    induction vs with
    |nil=>intro i W;rfl
    |cons a r ih=>intro i W;exact(ih (i+1) _).trans (Below.heap_setCell W ⟨m,i,none⟩ a k hm)
   rw[f,f];exact h.block k hk
theorem zk6 (l:List S108):leftL l 0=l.map tkOf:=by unfold leftL;rw[List.drop_zero]
theorem zj5 {α:Type} {p:Prs α} {l:List TK} {q:Nat × Int} (h:p l=.error q):allP p l=.error q:=by unfold allP;rw[h]
theorem all_more {α:Type} {p:Prs α} {l:List TK} {x:α} {r:List TK} (h:p l=.ok (x,r)) (hr:r≠[]):allP p l=.error (r.length,2):=by
 unfold allP;rw[h]
 cases r with
 |nil=>exact absurd rfl hr
 |cons t r=>rfl
theorem all_ok {α:Type} {p:Prs α} {l:List TK} {x:α} (h:p l=.ok (x,[])):allP p l=.ok x:=by unfold allP;rw[h]
theorem blocks4 (w:World) (o0 o1 o2 o3:Obj):((((w.alloc o0).alloc o1).alloc o2).alloc o3).heap[w.heap.size]?=some o0∧((((w.alloc o0).alloc o1).alloc o2).alloc o3).heap[w.heap.size+1]?=some o1∧((((w.alloc o0).alloc o1).alloc o2).alloc o3).heap[w.heap.size+2]?=some o2∧((((w.alloc o0).alloc o1).alloc o2).alloc o3).heap[w.heap.size+3]?=some o3:=by
 have h:=zfd w o0 o1 o2;have z3:(((w.alloc o0).alloc o1).alloc o2).heap.size=w.heap.size+3:=by simp
 have:=z0q (((w.alloc o0).alloc o1).alloc o2) o3;rw[z3]at this;exact⟨z0c h.1 _,z0c h.2.1 _,z0c h.2.2 _,this⟩
def readP4.T:Bool × List (List Nat × List Nat):=(true,[([],[]),([],[]),([],[]),([0,0],[0]),([1,3,0,1,3],[1]),([2,4,0,1,2,3,4],[2])])
def readP4.B:List Nat:=[0,0,0,1,11,31]
theorem readP4.tab:rtab .any (opsOf Tryz.f53 4)=readP4.T:=by kernel_rfl
theorem readP4.bits:z3y readP4.T.2 readP4.B=true:=by kernel_rfl
def readS4.T:Bool × List (List Nat × List Nat):=(true,[([],[]),([],[]),([],[]),([0,0],[0]),([1,3,0,1,3],[1]),([2,4,0,1,2,3,4],[2])])
def readS4.B:List Nat:=[0,0,0,1,11,31]
theorem z9n {W:World} {g4 g5 g6:Nat} {tmps:Array Value} (t0:tmps.getD 4 undef=.pointer (some ⟨g4,0,none⟩)) (t1:tmps.getD 5 undef=.pointer (some ⟨g5,0,none⟩)) (t2:tmps.getD 6 undef=.pointer (some ⟨g6,0,none⟩))
 {y0 y1 y2:Value} {a b:Int} (h4:W.heap[g4]?=some (.cells #[y0,y1,y2] 27 (0,0))) (h5:W.heap[g5]?=some (.cells #[.int .i64 a] 3 (0,0))) (h6:W.heap[g6]?=some (.cells #[.int .i64 b] 40 (0,0))) :
 (results Tryz.f53 tmps).run Tryz.prog W=.ok (.tuple #[(.agg #[y0,y1,y2]),.int .i64 a,.int .i64 b]) W:=by
 simp only[Array.getD_eq_getD_getElem?]at t0 t1 t2;have c0:W.cell? ⟨g4,0,none⟩=some y0:=(z01 h4 0).trans rfl;have c1:W.cell? ⟨g4,1,none⟩=some y1:=(z01 h4 1).trans rfl;have c2:W.cell? ⟨g4,2,none⟩=some y2:=(z01 h4 2).trans rfl;have d5:W.cell? ⟨g5,0,none⟩=some (.int .i64 a):=(z01 h5 0).trans rfl;have d6:W.cell? ⟨g6,0,none⟩=some (.int .i64 b):=(z01 h6 0).trans rfl
 simp[results,Tryz.results53,go_sem,t0,t1,t2,d5,d6,c0,c1,c2]
theorem putP (a:Act) (m:Nat) (v:Value) (h4:m≠4) (h5:m≠5) (h6:m≠6):results Tryz.f53 (a.put (some m) v).tmps=results Tryz.f53 a.tmps:=by
 simp[results,Tryz.results53,Act.put,Array.getD_eq_getD_getElem?,Array.getElem?_setIfInBounds_ne,h4,h5,h6]
set_option maxHeartbeats 4000000 in
set_option maxRecDepth 100000 in
theorem zet (s:ByteArray) (hs:s.size≤140737488351232) (w:World) (hLW:LaidW w) :
 Calls Tryz.prog 53 #[.string s,.func (.func 54) #[] #[]] w fun e w'=>∃v,e=.returned (.tuple #[v,.int .i64 (z4b (⟨[],noneA⟩:PgS) z2w s).2.1,.int .i64 (z4b (⟨[],noneA⟩:PgS) z2w s).2.2])∧prV w' w.heap.size v (z4b (⟨[],noneA⟩:PgS) z2w s).1∧Below w.heap.size w w':=by
 have hmf:∀(fn:Fn) (first cap:Array Value) (w:World),(Instr.makeFunc fn first cap).run Tryz.prog w=.ok (.func fn first cap) w:=fun _ _ _ _=>rfl
 have HF:=z00.mk (lex_f s hs);have HEN:=z00.mk (fun h=>lex_env (s:=s) h);obtain⟨r,hr⟩:∃r,z4b (⟨[],noneA⟩:PgS) z2w s=r:=⟨_,rfl⟩
 rw[hr];unfold z4b at hr;obtain⟨⟨l,a,b⟩,hl⟩:∃x,z36 s=x:=⟨_,rfl⟩
 rw[hl]at HF HEN hr;have HR:=z00.mk hr;clear hr hl;obtain⟨n4,en4⟩:∃n,w.heap.size=n:=⟨_,rfl⟩
 have hb0:=blocks4 w (.cells #[.slice none 0 0,.string ⟨#[]⟩,.slice none 0 0] 27) (.cells #[.int .i64 0] 3) (.cells #[.int .i64 0] 40) (.cells #[.slice none 0 0,.string ⟨#[]⟩,.slice none 0 0] 27);rw[en4]at hb0;obtain⟨n5,hn5⟩:∃n,n4+1=n:=⟨_,rfl⟩
 obtain⟨n6,hn6⟩:∃n,n5+1=n:=⟨_,rfl⟩
 obtain⟨n7,hn7⟩:∃n,n6+1=n:=⟨_,rfl⟩
 obtain⟨W0,hW0⟩:∃W,(((w.alloc (.cells #[.slice none 0 0,.string ⟨#[]⟩,.slice none 0 0] 27)).alloc (.cells #[.int .i64 0] 3)).alloc (.cells #[.int .i64 0] 40)).alloc (.cells #[.slice none 0 0,.string ⟨#[]⟩,.slice none 0 0] 27)=W:=⟨_,rfl⟩
 have hB0:Below w.heap.size w W0:=hW0 ▸ z03 (z03 (z03 (z03 (Below.refl _ _) _) _) _) _;rw[hW0,hn5,show n4+2=n6 by omega,show n4+3=n7 by omega]at hb0;have hz0:W0.heap.size=n4+4:=by rw[←hW0];simp[en4]
 have HLX:=z00.mk (z4f.calls s l a b W0 (hLW.below hB0) HF.out);have H0:=z00.mk (And.intro hb0 (And.intro hB0 hz0));have HW0:=z00.mk hW0;have HLW:=z00.mk hLW;clear hb0 hB0 hz0 hW0 hLW hs
 go_enter_defers Tryz.func53,Tryz.ntmps53
 go_wp2_with fail
 rw[HW0.out];refine HLX.out.mono ?_;rintro e w1 ⟨v0,rfl,hv,hb⟩;obtain⟨A,c,rfl⟩:=Kd.R_slice hv;have hz0:=H0.out.2.2;have B4:=z0b H0.out.1.1 hb;have B5:=z0b H0.out.1.2.1 hb;have B6:=z0b H0.out.1.2.2.1 hb;have B7:=z0b H0.out.1.2.2.2 hb;have hc5:w1.cell? ⟨n5,0,none⟩=some (.int .i64 0):=(z01 B5 0).trans rfl;have hc6:w1.cell? ⟨n6,0,none⟩=some (.int .i64 0):=(z01 B6 0).trans rfl;have hf5:=z02 B5 0;have hf6:=z02 B6 0;have hB1:=z09 H0.out.2.1 H0.out.2.1.size hb;obtain⟨W2,hW2⟩:∃W,(w1.setCell ⟨n5,0,none⟩ (.int .i64 a)).setCell ⟨n6,0,none⟩ (.int .i64 b)=W:=⟨_,rfl⟩
 have H4:W2.heap[n4]?=some (.cells #[.slice none 0 0,.string ⟨#[]⟩,.slice none 0 0] 27 (0,0)):=hW2 ▸ z11 (z11 B4 (by show n4≠n5;omega) _) zA10 _;have H5:W2.heap[n5]?=some (.cells #[.int .i64 a] 3 (0,0)):=hW2 ▸ z11 (z0x B5 0 (.int .i64 a) rfl) (by show n5≠n6;omega) _;have H6:W2.heap[n6]?=some (.cells #[.int .i64 b] 40 (0,0)):=hW2 ▸ z0x (z11 B6 (by show n6≠n5;omega) _) 0 (.int .i64 b) rfl;have H7:W2.heap[n7]?=some (.cells #[.slice none 0 0,.string ⟨#[]⟩,.slice none 0 0] 27 (0,0)):=hW2 ▸ z11 (z11 B7 (by show n7≠n5;omega) _) (by show n7≠n6;omega) _;have HB:Below w.heap.size w W2:=hW2 ▸ z06 (z06 hB1 (by omega)) (by omega);have hC:=Kd.R_far (p:=⟨n6,0,none⟩) (Kd.R_far (p:=⟨n5,0,none⟩) (ok:=fun k=>W0.heap.size≤k) (Kd.R_mono (Kd.R_bound hv) (fun k hk=>hk.2.1)) (fun k hk=>by show k≠n5;omega) (.int .i64 a)) (fun k hk=>by show k≠n6;omega) (.int .i64 b);rw[hW2]at hC;have HC:=z00.mk hC;have HBW:=z00.mk HB;have HBL:=z00.mk (And.intro H4 (And.intro H5 (And.intro H6 H7)));have hc6b:W2.cell? ⟨n6,0,none⟩=some (.int .i64 b):=(z01 H6 0).trans rfl;have hn:=And.intro hn5 (And.intro hn6 hn7);have HN:=z00.mk hn;have HW2:=z00.mk hW2;clear H0 HLX hv hb B4 B5 B6 B7 hB1 hC HB H4 H5 H6 H7 hz0 HF hW2
 by_cases hb0:b=0
 · subst hb0;replace HR:=z00.mk (show outRes (⟨[],noneA⟩:PgS) l s.size (allP z2w (l.map tkOf))=r by rw[←HR.out];show _=if(0:Int)=0 then _ else _;rw[if_pos rfl]);replace HEN:=z00.mk (HEN.out rfl);obtain⟨g,eg⟩:∃n,w1.heap.size=n:=⟨_,rfl⟩
   have eg2:W2.heap.size=g:=by rw[←HW2.out];simp[eg]
   have hbg:=z0q W2 (.cells #[.slice A l.length c,.int .i64 0,.int .i64 s.size] 128);rw[eg2]at hbg;have h7g:n7<g:=by have:=z26 HBL.out.2.2.2;omega
   have HRD:Rd W2 (W2.alloc (.cells #[.slice A l.length c,.int .i64 0,.int .i64 s.size] 128)) g l 0 s.size:=⟨A,c,hbg,by omega,TokC.of_R HC.out,Nat.zero_le _,HEN.out.1⟩
   have HP:=zc0 W2 (W2.alloc (.cells #[.slice A l.length c,.int .i64 0,.int .i64 s.size] 128)) g l 0 s.size ⟨HLW.out.below HBW.out,HEN.out.2⟩ HRD (z03 (Below.refl W2.heap.size W2) _);rw[zk6]at HP;obtain⟨rq,hrq⟩:∃rq,z2w (l.map tkOf)=rq:=⟨_,rfl⟩
   rw[hrq]at HP;have HP:=z00.mk HP;have HRQ:=z00.mk hrq;have H7G:=z00.mk (And.intro h7g eg2);clear hbg HRD hrq h7g eg2
   go_wp2_with fail
   rw[HW2.out];refine HP.out.mono ?_;intro e w4 hp;obtain⟨hn5,hn6,hn7⟩:=HN.out;have h7g:=H7G.out.1;have eg2:=H7G.out.2;rcases hp.split with ⟨y,p',v,rfl,rfl,hv,R,B,K⟩|⟨q,i,p',rfl,h1,h2,rfl,R,B,K⟩
   · have B4:=z0b HBL.out.1 B;have B5:=z0b HBL.out.2.1 B;have B6:=z0b HBL.out.2.2.1 B;have B7:=z0b HBL.out.2.2.2 B;have HB4:=z09 HBW.out HBW.out.size B;have hw3:(W2.alloc (.cells #[.slice A l.length c,.int .i64 0,.int .i64 s.size] 128)).heap.size=g+1:=by simp[eg2]
     obtain⟨u1,u2,rfl,ha,hb'⟩:=hv;obtain⟨A1,c1,rfl⟩:=Kd.R_slice ha;obtain⟨A2,c2,rfl⟩:=Kd.R_slice hb';rw[hw3]at ha hb';obtain⟨Ag,cg,hbg,hgl,hCC,hpl,hll⟩:=id R;have a0:w4.cell? ⟨n4,0,none⟩=some (.slice none 0 0):=(z01 B4 0).trans rfl;have a1:w4.cell? ⟨n4,1,none⟩=some (.string ⟨#[]⟩):=(z01 B4 1).trans rfl;have a2:w4.cell? ⟨n4,2,none⟩=some (.slice none 0 0):=(z01 B4 2).trans rfl;have af0:=z02 B4 0;have af1:=z02 B4 1;have af2:=z02 B4 2;have C4:(((w4.setCell ⟨n4,0,none⟩ (.slice A1 y.f0.length c1)).setCell ⟨n4,1,none⟩ (.string y.f1.f0)).setCell ⟨n4,2,none⟩ (.slice A2 y.f1.f1.length c2)).heap[n4]?=some (.cells #[.slice A1 y.f0.length c1,.string y.f1.f0,.slice A2 y.f1.f1.length c2] 27 (0,0)):=z34 [.slice A1 y.f0.length c1,.string y.f1.f0,.slice A2 y.f1.f1.length c2] 0 w4 #[.slice none 0 0,.string ⟨#[]⟩,.slice none 0 0] B4;have C5:(((w4.setCell ⟨n4,0,none⟩ (.slice A1 y.f0.length c1)).setCell ⟨n4,1,none⟩ (.string y.f1.f0)).setCell ⟨n4,2,none⟩ (.slice A2 y.f1.f1.length c2)).heap[n5]?=some (.cells #[.int .i64 a] 3 (0,0)):=z2q (by omega) [.slice A1 y.f0.length c1,.string y.f1.f0,.slice A2 y.f1.f1.length c2] 0 w4 B5;have C6:(((w4.setCell ⟨n4,0,none⟩ (.slice A1 y.f0.length c1)).setCell ⟨n4,1,none⟩ (.string y.f1.f0)).setCell ⟨n4,2,none⟩ (.slice A2 y.f1.f1.length c2)).heap[n6]?=some (.cells #[.int .i64 0] 40 (0,0)):=z2q (by omega) [.slice A1 y.f0.length c1,.string y.f1.f0,.slice A2 y.f1.f1.length c2] 0 w4 B6;have C7:(((w4.setCell ⟨n4,0,none⟩ (.slice A1 y.f0.length c1)).setCell ⟨n4,1,none⟩ (.string y.f1.f0)).setCell ⟨n4,2,none⟩ (.slice A2 y.f1.f1.length c2)).heap[n7]?=some (.cells #[.slice none 0 0,.string ⟨#[]⟩,.slice none 0 0] 27 (0,0)):=z2q (by omega) [.slice A1 y.f0.length c1,.string y.f1.f0,.slice A2 y.f1.f1.length c2] 0 w4 B7
     have Cg:(((w4.setCell ⟨n4,0,none⟩ (.slice A1 y.f0.length c1)).setCell ⟨n4,1,none⟩ (.string y.f1.f0)).setCell ⟨n4,2,none⟩ (.slice A2 y.f1.f1.length c2)).heap[g]?=some (.cells #[.slice Ag l.length cg,.int .i64 p',.int .i64 s.size] 128 (0,0)):=z2q (by omega) [.slice A1 y.f0.length c1,.string y.f1.f0,.slice A2 y.f1.f1.length c2] 0 w4 hbg;have hcg:(((w4.setCell ⟨n4,0,none⟩ (.slice A1 y.f0.length c1)).setCell ⟨n4,1,none⟩ (.string y.f1.f0)).setCell ⟨n4,2,none⟩ (.slice A2 y.f1.f1.length c2)).cell? ⟨g,1,none⟩=some (.int .i64 p'):=(z01 Cg 1).trans rfl;have HBc:Below w.heap.size w (((w4.setCell ⟨n4,0,none⟩ (.slice A1 y.f0.length c1)).setCell ⟨n4,1,none⟩ (.string y.f1.f0)).setCell ⟨n4,2,none⟩ (.slice A2 y.f1.f1.length c2)):=z2u (by omega) [.slice A1 y.f0.length c1,.string y.f1.f0,.slice A2 y.f1.f1.length c2] 0 w4 HB4;have HO0:=z00.mk (show Kd.R k33 33 (((w4.setCell ⟨n4,0,none⟩ (.slice A1 y.f0.length c1)).setCell ⟨n4,1,none⟩ (.string y.f1.f0)).setCell ⟨n4,2,none⟩ (.slice A2 y.f1.f1.length c2)) (g+1) (fun k=>g+1≤k) (.slice A1 y.f0.length c1) y.f0 from z5i (fun k hk=>by omega) [.slice A1 y.f0.length c1,.string y.f1.f0,.slice A2 y.f1.f1.length c2] 0 w4 ha);have HO1:=z00.mk (show Kd.R k60 60 (((w4.setCell ⟨n4,0,none⟩ (.slice A1 y.f0.length c1)).setCell ⟨n4,1,none⟩ (.string y.f1.f0)).setCell ⟨n4,2,none⟩ (.slice A2 y.f1.f1.length c2)) (g+1) (fun k=>g+1≤k) (.slice A2 y.f1.f1.length c2) y.f1.f1 from z5i (fun k hk=>by omega) [.slice A1 y.f0.length c1,.string y.f1.f0,.slice A2 y.f1.f1.length c2] 0 w4 hb');have hKW:z0k W2 (sets W2 n4 0 [.slice A1 y.f0.length c1,.string y.f1.f0,.slice A2 y.f1.f1.length c2]) n4 none:=z0k.set_ (z0k.set_ (z0k.set_ (z0k.refl W2 n4 none) 0 (.slice A1 y.f0.length c1)) 1 (.string y.f1.f0)) 2 (.slice A2 y.f1.f1.length c2);have hLL:(l.length:Int)=(l.length:Int):=rfl
     by_cases hlt:p'<l.length
     · have hltz:decide ((p':Int)<(l.length:Int))=true:=decide_eq_true (by omega);have hltz2:decide (p'<l.length)=true:=decide_eq_true hlt;have hRc:Rd (sets W2 n4 0 [.slice A1 y.f0.length c1,.string y.f1.f0,.slice A2 y.f1.f1.length c2]) (((w4.setCell ⟨n4,0,none⟩ (.slice A1 y.f0.length c1)).setCell ⟨n4,1,none⟩ (.string y.f1.f0)).setCell ⟨n4,2,none⟩ (.slice A2 y.f1.f1.length c2)) g l p' s.size:=⟨Ag,cg,Cg,by rw[z6g];exact hgl,hCC.far (fun ad he=>by
        obtain⟨cells,hc⟩:=hCC.2 ad he (by intro h0;rw[h0]at hlt;simp at hlt);intro hm;rw[hm,HBL.out.1]at hc
        cases hc) hKW,hpl,hll⟩
       have hBc:Below (sets W2 n4 0 [.slice A1 y.f0.length c1,.string y.f1.f0,.slice A2 y.f1.f1.length c2]).heap.size (sets W2 n4 0 [.slice A1 y.f0.length c1,.string y.f1.f0,.slice A2 y.f1.f1.length c2]) (((w4.setCell ⟨n4,0,none⟩ (.slice A1 y.f0.length c1)).setCell ⟨n4,1,none⟩ (.string y.f1.f0)).setCell ⟨n4,2,none⟩ (.slice A2 y.f1.f1.length c2)):=by rw[z6g];exact zh1 B HBL.out.1 B4 [.slice A1 y.f0.length c1,.string y.f1.f0,.slice A2 y.f1.f1.length c2]
       have HFL:=z00.mk (z4t (sets W2 n4 0 [.slice A1 y.f0.length c1,.string y.f1.f0,.slice A2 y.f1.f1.length c2]) (((w4.setCell ⟨n4,0,none⟩ (.slice A1 y.f0.length c1)).setCell ⟨n4,1,none⟩ (.string y.f1.f0)).setCell ⟨n4,2,none⟩ (.slice A2 y.f1.f1.length c2)) g l p' s.size 2 hRc hBc);have hne:leftL l p'≠[]:=fun h0=>by
        have:=congrArg List.length h0;rw[z0s]at this
        simp at this
        omega
       rw[all_more HRQ.out hne,z0s]at HR;replace HR:=z00.mk (show((⟨[],noneA⟩:PgS),(seeP l s.size (l.length - (l.length - p'))).f2,(2:Int))=r from HR.out);rw[show l.length - (l.length - p')=p' by omega]at HR;obtain rfl:=HR.out;clear hRc hBc hKW
       go_wp2_with fail
       refine HFL.out.mono ?_;rintro e w6 ⟨rfl,R6,B6',K6⟩;have D4:=z0b (show(sets W2 n4 0 [.slice A1 y.f0.length c1,.string y.f1.f0,.slice A2 y.f1.f1.length c2]).heap[n4]?=some (.cells #[.slice A1 y.f0.length c1,.string y.f1.f0,.slice A2 y.f1.f1.length c2] 27 (0,0))from z34 [.slice A1 y.f0.length c1,.string y.f1.f0,.slice A2 y.f1.f1.length c2] 0 W2 #[.slice none 0 0,.string ⟨#[]⟩,.slice none 0 0] HBL.out.1) B6';have D5:=z0b (show(sets W2 n4 0 [.slice A1 y.f0.length c1,.string y.f1.f0,.slice A2 y.f1.f1.length c2]).heap[n5]?=some (.cells #[.int .i64 a] 3 (0,0))from z2q (by omega) [.slice A1 y.f0.length c1,.string y.f1.f0,.slice A2 y.f1.f1.length c2] 0 W2 HBL.out.2.1) B6';have D6:=z0b (show(sets W2 n4 0 [.slice A1 y.f0.length c1,.string y.f1.f0,.slice A2 y.f1.f1.length c2]).heap[n6]?=some (.cells #[.int .i64 0] 40 (0,0))from z2q (by omega) [.slice A1 y.f0.length c1,.string y.f1.f0,.slice A2 y.f1.f1.length c2] 0 W2 HBL.out.2.2.1) B6';have D7:=z0b (show(sets W2 n4 0 [.slice A1 y.f0.length c1,.string y.f1.f0,.slice A2 y.f1.f1.length c2]).heap[n7]?=some (.cells #[.slice none 0 0,.string ⟨#[]⟩,.slice none 0 0] 27 (0,0))from z2q (by omega) [.slice A1 y.f0.length c1,.string y.f1.f0,.slice A2 y.f1.f1.length c2] 0 W2 HBL.out.2.2.2) B6';have HB6:=z09 (z2u (show w.heap.size≤n4 by omega) [.slice A1 y.f0.length c1,.string y.f1.f0,.slice A2 y.f1.f1.length c2] 0 W2 HBW.out) (by rw[z6g];exact HBW.out.size) B6';refine leaves_cons (f:=81) (args:=#[.pointer (some ⟨n7,0,none⟩),.pointer (some ⟨n4,0,none⟩),.pointer (some ⟨n5,0,none⟩),.pointer (some ⟨n6,0,none⟩)]) (by simp) (by simp[go_sem]) ?_;refine(zkb n7 n4 n5 n6 (seeP l s.size p').f2 2 [] w6 (.slice A1 y.f0.length c1) (.string y.f1.f0) (.slice A2 y.f1.f1.length c2) _ _ D7 D4 D5 D6 (by omega) (by omega) (by omega) (by omega) (by omega) (by omega)).mono ?_;rintro e u' w'' ⟨rfl,rfl,F4,F5,F6,HBB⟩
       exact⟨_,z9n rfl rfl rfl F4 F5 F6,_,rfl,⟨_,_,rfl,Kd.R_nil _ _ _ _ _,Kd.R_nil _ _ _ _ _⟩,by have h:=HBB _ _ HB6 (by omega) (by omega) (by omega) HB6.size;first|exact h|(rw[en4]at h;exact h)⟩
     · have hltz:decide ((p':Int)<(l.length:Int))=false:=decide_eq_false (by omega);have hltz2:decide (p'<l.length)=false:=decide_eq_false hlt;have hnil:leftL l p'=[]:=List.length_eq_zero_iff.1 (by rw[z0s];omega);rw[hnil]at HRQ;rw[all_ok HRQ.out]at HR;replace HR:=z00.mk (show(y,(0:Int),(0:Int))=r from HR.out);obtain rfl:=HR.out;clear hKW;have b0:(((w4.setCell ⟨n4,0,none⟩ (.slice A1 y.f0.length c1)).setCell ⟨n4,1,none⟩ (.string y.f1.f0)).setCell ⟨n4,2,none⟩ (.slice A2 y.f1.f1.length c2)).cell? ⟨n4,0,none⟩=some (.slice A1 y.f0.length c1):=(z01 C4 0).trans rfl;have b1:(((w4.setCell ⟨n4,0,none⟩ (.slice A1 y.f0.length c1)).setCell ⟨n4,1,none⟩ (.string y.f1.f0)).setCell ⟨n4,2,none⟩ (.slice A2 y.f1.f1.length c2)).cell? ⟨n4,1,none⟩=some (.string y.f1.f0):=(z01 C4 1).trans rfl;have b2:(((w4.setCell ⟨n4,0,none⟩ (.slice A1 y.f0.length c1)).setCell ⟨n4,1,none⟩ (.string y.f1.f0)).setCell ⟨n4,2,none⟩ (.slice A2 y.f1.f1.length c2)).cell? ⟨n4,2,none⟩=some (.slice A2 y.f1.f1.length c2):=(z01 C4 2).trans rfl;have bf0:=z02 C4 0;have bf1:=z02 C4 1;have bf2:=z02 C4 2;have g5:(((w4.setCell ⟨n4,0,none⟩ (.slice A1 y.f0.length c1)).setCell ⟨n4,1,none⟩ (.string y.f1.f0)).setCell ⟨n4,2,none⟩ (.slice A2 y.f1.f1.length c2)).cell? ⟨n5,0,none⟩=some (.int .i64 a):=(z01 C5 0).trans rfl;have g6:(((w4.setCell ⟨n4,0,none⟩ (.slice A1 y.f0.length c1)).setCell ⟨n4,1,none⟩ (.string y.f1.f0)).setCell ⟨n4,2,none⟩ (.slice A2 y.f1.f1.length c2)).cell? ⟨n6,0,none⟩=some (.int .i64 0):=(z01 C6 0).trans rfl;have gf5:=z02 C5 0;have gf6:=z02 C6 0
       have D4:((((((((w4.setCell ⟨n4,0,none⟩ (.slice A1 y.f0.length c1)).setCell ⟨n4,1,none⟩ (.string y.f1.f0)).setCell ⟨n4,2,none⟩ (.slice A2 y.f1.f1.length c2)).setCell ⟨n4,0,none⟩ (.slice A1 y.f0.length c1)).setCell ⟨n4,1,none⟩ (.string y.f1.f0)).setCell ⟨n4,2,none⟩ (.slice A2 y.f1.f1.length c2)).setCell ⟨n5,0,none⟩ (.int .i64 0)).setCell ⟨n6,0,none⟩ (.int .i64 0)).heap[n4]?=some (.cells #[.slice A1 y.f0.length c1,.string y.f1.f0,.slice A2 y.f1.f1.length c2] 27 (0,0)):=z11 (z11 (z34 [.slice A1 y.f0.length c1,.string y.f1.f0,.slice A2 y.f1.f1.length c2] 0 (((w4.setCell ⟨n4,0,none⟩ (.slice A1 y.f0.length c1)).setCell ⟨n4,1,none⟩ (.string y.f1.f0)).setCell ⟨n4,2,none⟩ (.slice A2 y.f1.f1.length c2)) #[.slice A1 y.f0.length c1,.string y.f1.f0,.slice A2 y.f1.f1.length c2] C4) (by show n4≠n5;omega) _) zA10 _;have D5:((((((((w4.setCell ⟨n4,0,none⟩ (.slice A1 y.f0.length c1)).setCell ⟨n4,1,none⟩ (.string y.f1.f0)).setCell ⟨n4,2,none⟩ (.slice A2 y.f1.f1.length c2)).setCell ⟨n4,0,none⟩ (.slice A1 y.f0.length c1)).setCell ⟨n4,1,none⟩ (.string y.f1.f0)).setCell ⟨n4,2,none⟩ (.slice A2 y.f1.f1.length c2)).setCell ⟨n5,0,none⟩ (.int .i64 0)).setCell ⟨n6,0,none⟩ (.int .i64 0)).heap[n5]?=some (.cells #[.int .i64 0] 3 (0,0)):=z11 (z0x (z2q (by omega) [.slice A1 y.f0.length c1,.string y.f1.f0,.slice A2 y.f1.f1.length c2] 0 (((w4.setCell ⟨n4,0,none⟩ (.slice A1 y.f0.length c1)).setCell ⟨n4,1,none⟩ (.string y.f1.f0)).setCell ⟨n4,2,none⟩ (.slice A2 y.f1.f1.length c2)) C5) 0 (.int .i64 0) rfl) (by show n5≠n6;omega) _
       have D6:((((((((w4.setCell ⟨n4,0,none⟩ (.slice A1 y.f0.length c1)).setCell ⟨n4,1,none⟩ (.string y.f1.f0)).setCell ⟨n4,2,none⟩ (.slice A2 y.f1.f1.length c2)).setCell ⟨n4,0,none⟩ (.slice A1 y.f0.length c1)).setCell ⟨n4,1,none⟩ (.string y.f1.f0)).setCell ⟨n4,2,none⟩ (.slice A2 y.f1.f1.length c2)).setCell ⟨n5,0,none⟩ (.int .i64 0)).setCell ⟨n6,0,none⟩ (.int .i64 0)).heap[n6]?=some (.cells #[.int .i64 0] 40 (0,0)):=z0x (z11 (z2q (by omega) [.slice A1 y.f0.length c1,.string y.f1.f0,.slice A2 y.f1.f1.length c2] 0 (((w4.setCell ⟨n4,0,none⟩ (.slice A1 y.f0.length c1)).setCell ⟨n4,1,none⟩ (.string y.f1.f0)).setCell ⟨n4,2,none⟩ (.slice A2 y.f1.f1.length c2)) C6) (by show n6≠n5;omega) _) 0 (.int .i64 0) rfl;have HBD:Below w.heap.size w ((((((((w4.setCell ⟨n4,0,none⟩ (.slice A1 y.f0.length c1)).setCell ⟨n4,1,none⟩ (.string y.f1.f0)).setCell ⟨n4,2,none⟩ (.slice A2 y.f1.f1.length c2)).setCell ⟨n4,0,none⟩ (.slice A1 y.f0.length c1)).setCell ⟨n4,1,none⟩ (.string y.f1.f0)).setCell ⟨n4,2,none⟩ (.slice A2 y.f1.f1.length c2)).setCell ⟨n5,0,none⟩ (.int .i64 0)).setCell ⟨n6,0,none⟩ (.int .i64 0)):=z06 (z06 (z2u (show w.heap.size≤n4 by omega) [.slice A1 y.f0.length c1,.string y.f1.f0,.slice A2 y.f1.f1.length c2] 0 (((w4.setCell ⟨n4,0,none⟩ (.slice A1 y.f0.length c1)).setCell ⟨n4,1,none⟩ (.string y.f1.f0)).setCell ⟨n4,2,none⟩ (.slice A2 y.f1.f1.length c2)) HBc) (by omega)) (by omega)
       have HE0:=z00.mk (show Kd.R k33 33 ((((((((w4.setCell ⟨n4,0,none⟩ (.slice A1 y.f0.length c1)).setCell ⟨n4,1,none⟩ (.string y.f1.f0)).setCell ⟨n4,2,none⟩ (.slice A2 y.f1.f1.length c2)).setCell ⟨n4,0,none⟩ (.slice A1 y.f0.length c1)).setCell ⟨n4,1,none⟩ (.string y.f1.f0)).setCell ⟨n4,2,none⟩ (.slice A2 y.f1.f1.length c2)).setCell ⟨n5,0,none⟩ (.int .i64 0)).setCell ⟨n6,0,none⟩ (.int .i64 0)) (g+1) (fun k=>g+1≤k) (.slice A1 y.f0.length c1) y.f0 from Kd.R_far (Kd.R_far (z5i (fun k hk=>by omega) [.slice A1 y.f0.length c1,.string y.f1.f0,.slice A2 y.f1.f1.length c2] 0 (((w4.setCell ⟨n4,0,none⟩ (.slice A1 y.f0.length c1)).setCell ⟨n4,1,none⟩ (.string y.f1.f0)).setCell ⟨n4,2,none⟩ (.slice A2 y.f1.f1.length c2)) HO0.out) (fun k hk=>by show k≠n5;omega) _) (fun k hk=>by show k≠n6;omega) _);have HE1:=z00.mk (show Kd.R k60 60 ((((((((w4.setCell ⟨n4,0,none⟩ (.slice A1 y.f0.length c1)).setCell ⟨n4,1,none⟩ (.string y.f1.f0)).setCell ⟨n4,2,none⟩ (.slice A2 y.f1.f1.length c2)).setCell ⟨n4,0,none⟩ (.slice A1 y.f0.length c1)).setCell ⟨n4,1,none⟩ (.string y.f1.f0)).setCell ⟨n4,2,none⟩ (.slice A2 y.f1.f1.length c2)).setCell ⟨n5,0,none⟩ (.int .i64 0)).setCell ⟨n6,0,none⟩ (.int .i64 0)) (g+1) (fun k=>g+1≤k) (.slice A2 y.f1.f1.length c2) y.f1.f1 from Kd.R_far (Kd.R_far (z5i (fun k hk=>by omega) [.slice A1 y.f0.length c1,.string y.f1.f0,.slice A2 y.f1.f1.length c2] 0 (((w4.setCell ⟨n4,0,none⟩ (.slice A1 y.f0.length c1)).setCell ⟨n4,1,none⟩ (.string y.f1.f0)).setCell ⟨n4,2,none⟩ (.slice A2 y.f1.f1.length c2)) HO1.out) (fun k hk=>by show k≠n5;omega) _) (fun k hk=>by show k≠n6;omega) _);have HD:=z00.mk (And.intro D4 (And.intro D5 (And.intro D6 HBD)));clear D4 D5 D6 HBD C4 C5 C6 C7 HBc B4 B5 B6 B7 HB4 R B K hp Cg hbg hgl hCC hpl hll;go_wp2;refine leaves_cons (f:=81) (args:=#[.pointer (some ⟨n7,0,none⟩),.pointer (some ⟨n4,0,none⟩),.pointer (some ⟨n5,0,none⟩),.pointer (some ⟨n6,0,none⟩)]) (by simp) (by simp[go_sem]) ?_;refine(idleP _ _ _ _ _).mono ?_;rintro e u' w'' ⟨rfl,rfl,rfl⟩
       exact⟨_,z9n rfl rfl rfl (z0c HD.out.1 _) (z0c HD.out.2.1 _) (z0c HD.out.2.2.1 _),_,rfl,⟨_,_,rfl,Kd.R_mono (Kd.R_lower (Kd.R_alloc HE0.out _) (show n4≤g+1 by omega)) (fun k hk=>by omega),Kd.R_mono (Kd.R_lower (Kd.R_alloc HE1.out _) (show n4≤g+1 by omega)) (fun k hk=>by omega)⟩,by have h:=z03 HD.out.2.2.2 (.cells #[.int .i64 0,.int .i64 0] 125);rw[en4]at h;exact h⟩
   · have B4:=z0b HBL.out.1 B;have B5:=z0b HBL.out.2.1 B;have B6:=z0b HBL.out.2.2.1 B;have B7:=z0b HBL.out.2.2.2 B;have HB4:=z09 HBW.out HBW.out.size B;rw[zj5 HRQ.out]at HR;replace HR:=z00.mk (show((⟨[],noneA⟩:PgS),(seeP l s.size (l.length - q.1)).f2,q.2)=r from HR.out);obtain rfl:=HR.out;obtain rfl:i=l.length - q.1:=by omega
     refine leaves_cons (f:=81) (args:=#[.pointer (some ⟨n7,0,none⟩),.pointer (some ⟨n4,0,none⟩),.pointer (some ⟨n5,0,none⟩),.pointer (some ⟨n6,0,none⟩)]) (by simp) (by simp[go_sem]) ?_;refine(zkb n7 n4 n5 n6 (seeP l s.size (l.length - q.1)).f2 q.2 [] w4 (.slice none 0 0) (.string ⟨#[]⟩) (.slice none 0 0) _ _ B7 B4 B5 B6 (by omega) (by omega) (by omega) (by omega) (by omega) (by omega)).mono ?_;rintro e u' w'' ⟨rfl,rfl,F4,F5,F6,HBB⟩;exact⟨_,z9n rfl rfl rfl F4 F5 F6,_,rfl,⟨_,_,rfl,Kd.R_nil _ _ _ _ _,Kd.R_nil _ _ _ _ _⟩,by have h:=HBB _ _ HB4 (by omega) (by omega) (by omega) HB4.size;first|exact h|(rw[en4]at h;exact h)⟩
 · have hbne:(b !=0)=true:=bne_iff_ne.2 hb0;have hbeq:(b==0)=false:=beq_eq_false_iff_ne.2 hb0;replace HR:=z00.mk (show((⟨[],noneA⟩:PgS),a,b)=r by rw[←HR.out];show _=if b=0 then _ else _;rw[if_neg hb0]);obtain rfl:=HR.out
   go_wp2_with fail
   rw[HW2.out];have B4:=z0h HBL.out.1;have B5:=z0h HBL.out.2.1;have B6:=z0h HBL.out.2.2.1;have B7:=z0h HBL.out.2.2.2;have HB:=z05 HBW.out;refine z68 (n:=6) (S:=fun w'=>w'.cell? ⟨n5,0,none⟩=some (.int .i64 a)∧w'.cell? ⟨n6,0,none⟩=some (.int .i64 b)∧w'.cell? ⟨n7,0,none⟩=some (.slice none 0 0)∧w'.cell? ⟨n7,1,none⟩=some (.string ⟨#[]⟩)∧w'.cell? ⟨n7,2,none⟩=some (.slice none 0 0)) (ds:=[5]) #[false,false,false,false,false,false] (by kernel_rfl) rfl rfl ⟨(z01 B5 0).trans rfl,(z01 B6 0).trans rfl,(z01 B7 0).trans rfl,(z01 B7 1).trans rfl,(z01 B7 2).trans rfl⟩ (fun hHeld=>?_);refine z39 readP4.tab readP4.bits (fun HT_ HW_=>?_)
   generalize W2.drew=W at B4 B5 B6 B7 HB hHeld ⊢
   refine take_ (i:=0) (N:=some 18) (v:=?_) (a':=?_) #[true,false,false,false,false,false] rfl rfl (z1j HT_.out HW_.out (by kernel_rfl)) (fun c a w h=>z5w (putP a _ _ (by decide) (by decide) (by decide)) _ _ _ h) (Or.inl ⟨by rfl,?_⟩) hHeld ?_ ?_
   rotate_left
   · rintro w' ⟨s0,s1,z0,z1,z2⟩
     go_simp
     with_reducible rfl
   rotate_left
   · simp only[Act.put,List.setIfInBounds_toArray,List.set_cons_zero,List.set_cons_succ,i64_w,i32_w];rfl
   refine take_ (i:=1) (N:=some 19) (v:=?_) (a':=?_) #[true,true,false,false,false,false] rfl rfl (z1j HT_.out HW_.out (by kernel_rfl)) (fun c a w h=>z5w (putP a _ _ (by decide) (by decide) (by decide)) _ _ _ h) (Or.inl ⟨by rfl,?_⟩) hHeld ?_ ?_
   rotate_left
   · rintro w' ⟨s0,s1,z0,z1,z2⟩
     go_simp
     with_reducible rfl
   rotate_left
   · simp only[Act.put,List.setIfInBounds_toArray,List.set_cons_zero,List.set_cons_succ,i64_w,i32_w];rfl
   refine take_ (i:=2) (N:=some 20) (v:=?_) (a':=?_) #[true,true,true,false,false,false] rfl rfl (z1j HT_.out HW_.out (by kernel_rfl)) (fun c a w h=>z5w (putP a _ _ (by decide) (by decide) (by decide)) _ _ _ h) (Or.inl ⟨by rfl,?_⟩) hHeld ?_ ?_
   rotate_left
   · rintro w' ⟨s0,s1,z0,z1,z2⟩
     go_simp
     with_reducible rfl
   rotate_left
   · simp only[Act.put,List.setIfInBounds_toArray,List.set_cons_zero,List.set_cons_succ,i64_w,i32_w];rfl
   refine one_ (i:=3) (N:=none) #[true,true,true,true,false,false] rfl rfl (z2a HT_.out (by kernel_rfl)) (by decide) (fun K hK=>?_);have a0:W.cell? ⟨n4,0,none⟩=some (.slice none 0 0):=(z01 B4 0).trans rfl;have a1:W.cell? ⟨n4,1,none⟩=some (.string ⟨#[]⟩):=(z01 B4 1).trans rfl;have a2:W.cell? ⟨n4,2,none⟩=some (.slice none 0 0):=(z01 B4 2).trans rfl;have af0:=z02 B4 0;have af1:=z02 B4 1;have af2:=z02 B4 2;refine skip_ (w1:=?_) (by rfl) rfl ?_ ?_
   rotate_left
   · go_simp
     rfl
   have C4:(((W.setCell ⟨n4,0,none⟩ (.slice none 0 0)).setCell ⟨n4,1,none⟩ (.string ⟨#[]⟩)).setCell ⟨n4,2,none⟩ (.slice none 0 0)).heap[n4]?=some (.cells #[.slice none 0 0,.string ⟨#[]⟩,.slice none 0 0] 27 (0,0)):=z34 [.slice none 0 0,.string ⟨#[]⟩,.slice none 0 0] 0 W #[.slice none 0 0,.string ⟨#[]⟩,.slice none 0 0] B4;have C5:(((W.setCell ⟨n4,0,none⟩ (.slice none 0 0)).setCell ⟨n4,1,none⟩ (.string ⟨#[]⟩)).setCell ⟨n4,2,none⟩ (.slice none 0 0)).heap[n5]?=some (.cells #[.int .i64 a] 3 (0,0)):=z2q (by omega) [.slice none 0 0,.string ⟨#[]⟩,.slice none 0 0] 0 W B5;have C6:(((W.setCell ⟨n4,0,none⟩ (.slice none 0 0)).setCell ⟨n4,1,none⟩ (.string ⟨#[]⟩)).setCell ⟨n4,2,none⟩ (.slice none 0 0)).heap[n6]?=some (.cells #[.int .i64 b] 40 (0,0)):=z2q (by omega) [.slice none 0 0,.string ⟨#[]⟩,.slice none 0 0] 0 W B6;have C7:(((W.setCell ⟨n4,0,none⟩ (.slice none 0 0)).setCell ⟨n4,1,none⟩ (.string ⟨#[]⟩)).setCell ⟨n4,2,none⟩ (.slice none 0 0)).heap[n7]?=some (.cells #[.slice none 0 0,.string ⟨#[]⟩,.slice none 0 0] 27 (0,0)):=z2q (by omega) [.slice none 0 0,.string ⟨#[]⟩,.slice none 0 0] 0 W B7;refine hK.out _ _ ⟨(z01 C5 0).trans rfl,(z01 C6 0).trans rfl,(z01 C7 0).trans rfl,(z01 C7 1).trans rfl,(z01 C7 2).trans rfl⟩ (fun hHeld=>?_);clear hK K;refine one_ (i:=4) (N:=none) #[true,true,true,true,true,false] rfl rfl (z2a HT_.out (by kernel_rfl)) (by decide) (fun K hK=>?_);have b0:(((W.setCell ⟨n4,0,none⟩ (.slice none 0 0)).setCell ⟨n4,1,none⟩ (.string ⟨#[]⟩)).setCell ⟨n4,2,none⟩ (.slice none 0 0)).cell? ⟨n5,0,none⟩=some (.int .i64 a):=(z01 C5 0).trans rfl;have bf0:=z02 C5 0;refine skip_ (w1:=?_) (by rfl) rfl ?_ ?_
   rotate_left
   · go_simp
     rfl
   have E4:((((W.setCell ⟨n4,0,none⟩ (.slice none 0 0)).setCell ⟨n4,1,none⟩ (.string ⟨#[]⟩)).setCell ⟨n4,2,none⟩ (.slice none 0 0)).setCell ⟨n5,0,none⟩ (.int .i64 a)).heap[n4]?=some (.cells #[.slice none 0 0,.string ⟨#[]⟩,.slice none 0 0] 27 (0,0)):=z11 C4 (by show n4≠n5;omega) _;have E5:((((W.setCell ⟨n4,0,none⟩ (.slice none 0 0)).setCell ⟨n4,1,none⟩ (.string ⟨#[]⟩)).setCell ⟨n4,2,none⟩ (.slice none 0 0)).setCell ⟨n5,0,none⟩ (.int .i64 a)).heap[n5]?=some (.cells #[.int .i64 a] 3 (0,0)):=z0x C5 0 (.int .i64 a) rfl;have E6:((((W.setCell ⟨n4,0,none⟩ (.slice none 0 0)).setCell ⟨n4,1,none⟩ (.string ⟨#[]⟩)).setCell ⟨n4,2,none⟩ (.slice none 0 0)).setCell ⟨n5,0,none⟩ (.int .i64 a)).heap[n6]?=some (.cells #[.int .i64 b] 40 (0,0)):=z11 C6 (by show n6≠n5;omega) _;have E7:((((W.setCell ⟨n4,0,none⟩ (.slice none 0 0)).setCell ⟨n4,1,none⟩ (.string ⟨#[]⟩)).setCell ⟨n4,2,none⟩ (.slice none 0 0)).setCell ⟨n5,0,none⟩ (.int .i64 a)).heap[n7]?=some (.cells #[.slice none 0 0,.string ⟨#[]⟩,.slice none 0 0] 27 (0,0)):=z11 C7 (by show n7≠n5;omega) _;refine hK.out _ _ ⟨(z01 E5 0).trans rfl,(z01 E6 0).trans rfl,(z01 E7 0).trans rfl,(z01 E7 1).trans rfl,(z01 E7 2).trans rfl⟩ (fun hHeld=>?_);clear hK K;refine last_ (i:=5) (N:=none) #[true,true,true,true,true,true] rfl rfl (z2a HT_.out (by kernel_rfl)) (by decide) (fun K hK=>?_);have c0:((((W.setCell ⟨n4,0,none⟩ (.slice none 0 0)).setCell ⟨n4,1,none⟩ (.string ⟨#[]⟩)).setCell ⟨n4,2,none⟩ (.slice none 0 0)).setCell ⟨n5,0,none⟩ (.int .i64 a)).cell? ⟨n6,0,none⟩=some (.int .i64 b):=(z01 E6 0).trans rfl;have cf0:=z02 E6 0;refine skip_ (w1:=?_) (by rfl) rfl ?_ ?_
   rotate_left
   · go_simp
     rfl
   refine hK.out _ _ ?_;clear hK K;refine done_ (z4w HT_.out (by kernel_rfl)) ?_;have F4:(((((W.setCell ⟨n4,0,none⟩ (.slice none 0 0)).setCell ⟨n4,1,none⟩ (.string ⟨#[]⟩)).setCell ⟨n4,2,none⟩ (.slice none 0 0)).setCell ⟨n5,0,none⟩ (.int .i64 a)).setCell ⟨n6,0,none⟩ (.int .i64 b)).heap[n4]?=some (.cells #[.slice none 0 0,.string ⟨#[]⟩,.slice none 0 0] 27 (0,0)):=z11 E4 zA10 _;have F5:(((((W.setCell ⟨n4,0,none⟩ (.slice none 0 0)).setCell ⟨n4,1,none⟩ (.string ⟨#[]⟩)).setCell ⟨n4,2,none⟩ (.slice none 0 0)).setCell ⟨n5,0,none⟩ (.int .i64 a)).setCell ⟨n6,0,none⟩ (.int .i64 b)).heap[n5]?=some (.cells #[.int .i64 a] 3 (0,0)):=z11 E5 (by show n5≠n6;omega) _;have F6:(((((W.setCell ⟨n4,0,none⟩ (.slice none 0 0)).setCell ⟨n4,1,none⟩ (.string ⟨#[]⟩)).setCell ⟨n4,2,none⟩ (.slice none 0 0)).setCell ⟨n5,0,none⟩ (.int .i64 a)).setCell ⟨n6,0,none⟩ (.int .i64 b)).heap[n6]?=some (.cells #[.int .i64 b] 40 (0,0)):=z0x E6 0 (.int .i64 b) rfl;have HB3:Below w.heap.size w (((((W.setCell ⟨n4,0,none⟩ (.slice none 0 0)).setCell ⟨n4,1,none⟩ (.string ⟨#[]⟩)).setCell ⟨n4,2,none⟩ (.slice none 0 0)).setCell ⟨n5,0,none⟩ (.int .i64 a)).setCell ⟨n6,0,none⟩ (.int .i64 b)):=(((((HB).setCell (show w.heap.size≤n4 by omega) _).setCell (show w.heap.size≤n4 by omega) _).setCell (show w.heap.size≤n4 by omega) _).setCell (show w.heap.size≤n5 by omega) _).setCell (show w.heap.size≤n6 by omega) _;go_wp2;exact⟨_,z9n rfl rfl rfl F4 F5 F6,_,rfl,⟨_,_,rfl,Kd.R_nil _ _ _ _ _,Kd.R_nil _ _ _ _ _⟩,by have h:=HB3;rw[en4]at h;exact h⟩

def z56.f (a0:ByteArray):Option (List RlS × ByteArray × List TmS × Int × Int) :=
 if a0.size≤140737488351232 then some ((z4b (⟨[],noneA⟩:PgS) z2w a0).1.f0,(z4b (⟨[],noneA⟩:PgS) z2w a0).1.f1.f0,(z4b (⟨[],noneA⟩:PgS) z2w a0).1.f1.f1,(z4b (⟨[],noneA⟩:PgS) z2w a0).2.1,(z4b (⟨[],noneA⟩:PgS) z2w a0).2.2)else none
set_option maxHeartbeats 1600000 in
set_option maxRecDepth 100000 in
theorem z56.calls (a0:ByteArray) (r1:List RlS) (r2:ByteArray) (r3:List TmS) (r4:Int) (r5:Int) (w:World) (hLW:LaidW w) (h:z56.f a0=some (r1,r2,r3,r4,r5)) :
 Calls Tryz.prog 29 #[.string a0] w fun e w'=>∃v0_ v1_:Value,e=.returned (.tuple #[.agg #[v0_,.string r2,v1_],.int .i64 r4,.int .i64 r5])∧Kd.R k33 33 w' w.heap.size (fun _=>True) v0_ r1∧Kd.R k60 60 w' w.heap.size (fun _=>True) v1_ r3∧Below w.heap.size w w':=by
 unfold z56.f at h
 split at h
 case isFalse=>cases h
 rename_i hs;have hB0:Below w.heap.size w (w.alloc (.cells zProg 27)):=z03 (Below.refl _ _) _;have hP:=zet a0 hs (w.alloc (.cells zProg 27)) (hLW.below hB0);obtain⟨⟨⟨f0,⟨q0,q1⟩⟩,ra,rb⟩,hr⟩:∃x,z4b (⟨[],noneA⟩:PgS) z2w a0=x:=⟨_,rfl⟩
 rw[hr]at h hP;have h:=Option.some.inj h;injection h with h1 h;injection h with h2 h;injection h with h3 h;injection h with h4 h5
 subst h1 h2 h3 h4 h5;have HP:=z00.mk hP;obtain⟨n,en⟩:∃n,w.heap.size=n:=⟨_,rfl⟩
 have hN:=z0q w (.cells zProg 27);rw[en]at hN;have HN:=z00.mk (And.intro hN hB0);have hz:(w.alloc (.cells zProg 27)).heap.size=n+1:=by simp[en]
 clear hr hs hLW hP hN hB0;go_enter Tryz.func29,Tryz.ntmps29
 go_wp2_with fail
 refine HP.out.mono ?_;rintro e w1 ⟨v,rfl,⟨u1,u2,rfl,hu1,hu2⟩,hb⟩;obtain⟨A1,c1,rfl⟩:=Kd.R_slice hu1;obtain⟨A2,c2,rfl⟩:=Kd.R_slice hu2;rw[hz]at hu1 hu2;have B:=z0b HN.out.1 hb;have hc0:w1.cell? ⟨n,0,none⟩=some (.slice none 0 0):=(z01 B 0).trans rfl;have hc1:w1.cell? ⟨n,1,none⟩=some (.string ⟨#[]⟩):=(z01 B 1).trans rfl;have hc2:w1.cell? ⟨n,2,none⟩=some (.slice none 0 0):=(z01 B 2).trans rfl;have hf0:=z02 B 0;have hf1:=z02 B 1;have hf2:=z02 B 2;have HB:=z09 HN.out.2 HN.out.2.size hb;have P1:(sets w1 n 0 [.slice A1 f0.length c1,.string q0,.slice A2 q1.length c2]).heap[n]?=some (.cells #[.slice A1 f0.length c1,.string q0,.slice A2 q1.length c2] 27 (0,0)):=z34 [.slice A1 f0.length c1,.string q0,.slice A2 q1.length c2] 0 w1 zProg B;have HD:=z00.mk (And.intro P1 (And.intro (Kd.R_mono (ok':=fun _=>True) (Kd.R_lower (base':=w.heap.size) (show Kd.R k33 33 (sets w1 n 0 [.slice A1 f0.length c1,.string q0,.slice A2 q1.length c2]) (n+1) (fun k=>n+1≤k) (.slice A1 f0.length c1) f0 from z5i (fun k hk=>by omega) [.slice A1 f0.length c1,.string q0,.slice A2 q1.length c2] 0 w1 hu1) (by omega)) (fun _ _=>trivial)) (And.intro (Kd.R_mono (ok':=fun _=>True) (Kd.R_lower (base':=w.heap.size) (show Kd.R k60 60 (sets w1 n 0 [.slice A1 f0.length c1,.string q0,.slice A2 q1.length c2]) (n+1) (fun k=>n+1≤k) (.slice A2 q1.length c2) q1 from z5i (fun k hk=>by omega) [.slice A1 f0.length c1,.string q0,.slice A2 q1.length c2] 0 w1 hu2) (by omega)) (fun _ _=>trivial)) (z2u (show w.heap.size≤n by omega) [.slice A1 f0.length c1,.string q0,.slice A2 q1.length c2] 0 w1 HB))));clear hu1 hu2 hb B HP P1 HB;go_wp2;refine bodyPost_ret (zeq rfl _ _ n 27 #[.slice A1 f0.length c1,.string q0,.slice A2 q1.length c2] (0,0) _ rfl HD.out.1 Tryz.underlying27 rfl (by kernel_rfl)) rfl ?_;exact⟨_,_,rfl,HD.out.2.1,HD.out.2.2.1,HD.out.2.2.2⟩

private theorem zdo (k k':IntKind) (x y:Int):Builtin.max2 (.int k x) (.int k' y)=pure (.int k (mx x y)):=by rw[z4e];rfl
private theorem zdu (k k':IntKind) (x y:Int):Builtin.min2 (.int k x) (.int k' y)=pure (.int k (mn x y)):=by rw[z49];rfl
attribute [local go_sem] zdo zdu z54 z50 z3l z3j z4h z4g
def z1s.l0:Nat→Int→Int→List (S108)→Int→Int→Option (Int)
 |0,_,_,_,_,_=>none
 |k+1,x6,x7,x16,x17,x18=>if x18<x17 then(if 0≤x18 then(if x18<(x16.length:Int)then(if((z2g x16 x18).f1).toList=([40]:List UInt8)then(z1s.l0 k (wrap64 (x6+1)) (mx x7 (wrap64 (x6+1))) x16 x17 (wrap64 (x18+1)))else(if((z2g x16 x18).f1).toList=([41]:List UInt8)then(z1s.l0 k (mx 0 (wrap64 (x6 - 1))) (mx x7 (mx 0 (wrap64 (x6 - 1)))) x16 x17 (wrap64 (x18+1)))else(z1s.l0 k x6 (mx x7 x6) x16 x17 (wrap64 (x18+1)))))else(none))else(none))else(some x7)
def z1s.f (k:Nat) (a0:ByteArray):Option (Int):=(z4f.f a0).bind fun bt122=>(z1s.l0 k 0 0 bt122.1 (bt122.1.length:Int) 0)
set_option maxHeartbeats 8000000 in
set_option maxRecDepth 100000 in
theorem z1s.calls (k:Nat) (a0:ByteArray) (r:Int) (w:World) (hLW:LaidW w) (h:z1s.f k a0=some r) :
 Calls Tryz.prog 32 #[.string a0] w fun e w'=>e=.returned (.int .i64 r)∧Below w.heap.size w w':=by
 have hu108:=Tryz.underlying108;have HLW:=z00.mk hLW;clear hLW;have HB:=z00.mk (Below.refl w.heap.size w);have H:((z4f.f a0).bind fun bt122=>(z1s.l0 k 0 0 bt122.1 (bt122.1.length:Int) 0))=some r:=h;clear h;replace H:=Option.bind_eq_some_iff.mp H;obtain⟨⟨t122,t123,t124⟩,A20,H⟩:=H;replace H:(z1s.l0 k 0 0 t122 (t122.length:Int) 0)=some r:=H;have A2:=z00.mk A20;clear A20;have H':=z00.mk H;clear H;go_enter Tryz.func32,Tryz.ntmps32
 go_wp2_with (first|((with_reducible refine z1t (f:=63) rfl ?_);refine z4p (some 12) rfl rfl Tryz.func63 (by kernel_rfl) rfl #[.string a0] rfl zA01 ?_;(with_reducible refine(z4f.calls a0 t122 t123 t124 _ ?side1 A2.out).mono ?_);(case side1=>(first|(refine LaidW.below HLW.out ?_;(repeat(first|(with_reducible first|exact HB.out|apply z03|apply z04|apply z05)|exact HB.out));done)|(repeat(first|exact HLW.out|apply LaidW.drewN|apply LaidW.drew|apply LaidW.alloc))));rintro e w3 ⟨v125,rfl,ho0,hb⟩;refine⟨_,rfl,?_⟩;have n0_:=z00.mk (Kd.R_lower ho0 (z0j zA00));have n1_:=z00.mk (z0g zA00 hb);clear HB;have HO126:=n0_;have HB:=n1_;clear n0_ n1_;(try clear hb);(try clear hb2);(try clear hk);(try clear hi);(try clear ho0);obtain⟨Ao4,co4,eo4⟩:=Kd.R_slice HO126.out;subst eo4))
 go_loopg [6,7,18] k (fun kq v6 v7 v18 w'=>∃(x6_1:Int) (x7_1:Int) (x18_1:Int),v6=.int .i64 x6_1∧v7=.int .i64 x7_1∧v18=.int .i64 x18_1∧z00 (z1s.l0 kq x6_1 x7_1 t122 (t122.length:Int) x18_1=some r)∧z00 (kq≤k)∧z00 (Kd.R k108 108 w' w.heap.size (fun _=>True) (.slice Ao4 t122.length co4) t122)∧z00 (Below w.heap.size w w'))
 case atStart=>exact⟨(0),(0),(0),zA04,zA04,zA04,H',⟨Nat.le_refl _⟩,⟨by(with_reducible repeat(first|apply Kd.R_alloc|apply Kd.R_drewN|apply Kd.R_drew));exact HO126.out⟩,⟨zA00⟩⟩
 case round =>
  clear H';(try clear p2);(try clear c3);obtain⟨x6_1,x7_1,x18_1,rfl,rfl,rfl,HA,HK1,HO_16,HB⟩:=hrel
  cases gk with
  |zero=>exact absurd HA.out (by simp[z1s.l0])
  |succ k1 =>
   have H:=HA.out;clear HA;simp only[z1s.l0]at H
   by_cases c5:x18_1<(t122.length:Int)
   · rw[if_pos c5]at H;have c5b0:decide (x18_1<(t122.length:Int))=true:=decide_eq_true c5;clear c5
     by_cases c6:0≤x18_1
     · rw[if_pos c6]at H;have c6b0:decide (0≤x18_1)=true:=decide_eq_true c6;clear c6
       by_cases c7:x18_1<(t122.length:Int)
       · rw[if_pos c7]at H;have c7b0:decide (x18_1<(t122.length:Int))=true:=decide_eq_true c7;clear c7
         by_cases c8:((z2g t122 x18_1).f1).toList=([40]:List UInt8)
         · rw[if_pos c8]at H;have c8b0:(((z2g t122 x18_1).f1).toList==([40]:List UInt8))=true:=beq_iff_eq.mpr c8;have c8b1:(((z2g t122 x18_1).f1).toList !=([40]:List UInt8))=false:=bne_eq_false_iff_eq.mpr c8;clear c8;obtain⟨ji9,hji9⟩:∃j_:Int,(mx x7_1 (wrap64 (x6_1+1)))=j_:=⟨_,rfl⟩
           replace H:(z1s.l0 k1 (wrap64 (x6_1+1)) ji9 t122 (t122.length:Int) (wrap64 (x18_1+1)))=some r:=by first|(rw[hji9]at H;exact H)|(simp only[hji9]at H ⊢;exact H)
           have hji9_:(if x7_1<(wrap64 (x6_1+1))then(wrap64 (x6_1+1))else x7_1)=ji9:=hji9;have H':=z00.mk H;clear H;have p127:0≤(x18_1:Int):=of_decide_eq_true zA02;have q127:x18_1<(t122.length:Int):=of_decide_eq_true zA02;obtain⟨ad127,e127,hx127_0,hx127_1,hx127_2⟩:=za8 (Kd.R_reads' HO_16.out).2.2 x18_1 p127 q127
           cases e127
           replace p127:=eq_true p127;replace q127:=eq_true q127
           go_wp2_with (first|((with_reducible refine z1r (N:=9) rfl ?_);refine z1z ?hg (N:=9) ?hd (cs:=#[.int .i64 0,.string (⟨#[]⟩:ByteArray),.int .i64 0]) (t:=108) ?hr ?_;(case hd=>rfl);(case hg=>rfl);(case hr=>first|(go_simp;done)|(go_simp;rfl));intro gb128 hg w10 hbox hb;have n0_:=z00.mk (Kd.R_below (Kd.R_elderB zA0r gb128 (Nat.le_of_eq hg.symm)) hb);have n1_:=z00.mk (z0g zA00 hb);have n2_:=z00.mk (hbox);have n3_:=z00.mk ((by rw[hg];exact(z0j zA00):w.heap.size≤gb128));have n4_:=z00.mk ((by rw[hg];exact(z0j zA00):w.heap.size≤gb128));clear HO_16;clear HB;have HO_16:=n0_;have HB:=n1_;have BK128:=n2_;have GW128:=n3_;have GE128:=n4_;clear n0_ n1_ n2_ n3_ n4_;clear hb hbox hg;have hcz11_0:w10.cell? ⟨gb128,0,none⟩=some (.int .i64 0):=(z01 BK128.out 0).trans rfl;have hcz11_1:w10.cell? ⟨gb128,1,none⟩=some (.string (⟨#[]⟩:ByteArray)):=(z01 BK128.out 1).trans rfl;have hcz11_2:w10.cell? ⟨gb128,2,none⟩=some (.int .i64 0):=(z01 BK128.out 2).trans rfl;have hfz11_0:=z02 BK128.out 0;have hfz11_1:=z02 BK128.out 1;have hfz11_2:=z02 BK128.out 2))
           go_roundg k1
           case measure=>have:=HK1.out;omega
           case rel=>exact⟨(wrap64 (x6_1+1)),(ji9),(wrap64 (x18_1+1)),zA04,(by first|rfl|(simp;done)|(simp only[←hji9] <;> (first|rfl|simp))|(simp[*];done)),zA04,H',⟨by have:=HK1.out;omega⟩,⟨zA07⟩,⟨zA0m⟩⟩
         · rw[if_neg c8]at H;have c8b0:(((z2g t122 x18_1).f1).toList==([40]:List UInt8))=false:=beq_eq_false_iff_ne.mpr c8;have c8b1:(((z2g t122 x18_1).f1).toList !=([40]:List UInt8))=true:=bne_iff_ne.mpr c8
           by_cases c12:((z2g t122 x18_1).f1).toList=([41]:List UInt8)
           · rw[if_pos c12]at H;have c12b0:(((z2g t122 x18_1).f1).toList==([41]:List UInt8))=true:=beq_iff_eq.mpr c12;have c12b1:(((z2g t122 x18_1).f1).toList !=([41]:List UInt8))=false:=bne_eq_false_iff_eq.mpr c12;clear c12;obtain⟨ji13,hji13⟩:∃j_:Int,(mx 0 (wrap64 (x6_1 - 1)))=j_:=⟨_,rfl⟩
             replace H:(z1s.l0 k1 ji13 (mx x7_1 (ji13)) t122 (t122.length:Int) (wrap64 (x18_1+1)))=some r:=by first|(rw[hji13]at H;exact H)|(simp only[hji13]at H ⊢;exact H)
             have hji13_:(if 0<(wrap64 (x6_1 - 1))then(wrap64 (x6_1 - 1))else 0)=ji13:=hji13;obtain⟨ji14,hji14⟩:∃j_:Int,(mx x7_1 (ji13))=j_:=⟨_,rfl⟩
             replace H:(z1s.l0 k1 ji13 ji14 t122 (t122.length:Int) (wrap64 (x18_1+1)))=some r:=by first|(rw[hji14]at H;exact H)|(simp only[hji14]at H ⊢;exact H)
             have hji14_:(if x7_1<(ji13)then(ji13)else x7_1)=ji14:=hji14;have H':=z00.mk H;clear H;have p127:0≤(x18_1:Int):=of_decide_eq_true zA02;have q127:x18_1<(t122.length:Int):=of_decide_eq_true zA02;obtain⟨ad127,e127,hx127_0,hx127_1,hx127_2⟩:=za8 (Kd.R_reads' HO_16.out).2.2 x18_1 p127 q127
             cases e127
             replace p127:=eq_true p127;replace q127:=eq_true q127
             go_wp2_with (first|((with_reducible refine z1r (N:=9) rfl ?_);refine z1z ?hg (N:=9) ?hd (cs:=#[.int .i64 0,.string (⟨#[]⟩:ByteArray),.int .i64 0]) (t:=108) ?hr ?_;(case hd=>rfl);(case hg=>rfl);(case hr=>first|(go_simp;done)|(go_simp;rfl));intro gb128 hg w15 hbox hb;have n0_:=z00.mk (Kd.R_below (Kd.R_elderB zA0r gb128 (Nat.le_of_eq hg.symm)) hb);have n1_:=z00.mk (z0g zA00 hb);have n2_:=z00.mk (hbox);have n3_:=z00.mk ((by rw[hg];exact(z0j zA00):w.heap.size≤gb128));have n4_:=z00.mk ((by rw[hg];exact(z0j zA00):w.heap.size≤gb128));clear HO_16;clear HB;have HO_16:=n0_;have HB:=n1_;have BK128:=n2_;have GW128:=n3_;have GE128:=n4_;clear n0_ n1_ n2_ n3_ n4_;clear hb hbox hg;have hcz16_0:w15.cell? ⟨gb128,0,none⟩=some (.int .i64 0):=(z01 BK128.out 0).trans rfl;have hcz16_1:w15.cell? ⟨gb128,1,none⟩=some (.string (⟨#[]⟩:ByteArray)):=(z01 BK128.out 1).trans rfl;have hcz16_2:w15.cell? ⟨gb128,2,none⟩=some (.int .i64 0):=(z01 BK128.out 2).trans rfl;have hfz16_0:=z02 BK128.out 0;have hfz16_1:=z02 BK128.out 1;have hfz16_2:=z02 BK128.out 2))
             go_roundg k1
             case measure=>have:=HK1.out;omega
             case rel=>exact⟨(ji13),(ji14),(wrap64 (x18_1+1)),(by first|rfl|(simp;done)|(simp only[←hji13] <;> (first|rfl|simp))|(simp[*];done)),(by first|rfl|(simp;done)|(simp only[←hji14] <;> (first|rfl|simp))|(simp[*];done)),zA04,H',⟨by have:=HK1.out;omega⟩,⟨zA07⟩,⟨zA0m⟩⟩
           · rw[if_neg c12]at H;have c12b0:(((z2g t122 x18_1).f1).toList==([41]:List UInt8))=false:=beq_eq_false_iff_ne.mpr c12;have c12b1:(((z2g t122 x18_1).f1).toList !=([41]:List UInt8))=true:=bne_iff_ne.mpr c12;obtain⟨ji17,hji17⟩:∃j_:Int,(mx x7_1 x6_1)=j_:=⟨_,rfl⟩
             replace H:(z1s.l0 k1 x6_1 ji17 t122 (t122.length:Int) (wrap64 (x18_1+1)))=some r:=by first|(rw[hji17]at H;exact H)|(simp only[hji17]at H ⊢;exact H)
             have hji17_:(if x7_1<x6_1 then x6_1 else x7_1)=ji17:=hji17;have H':=z00.mk H;clear H;have p127:0≤(x18_1:Int):=of_decide_eq_true zA02;have q127:x18_1<(t122.length:Int):=of_decide_eq_true zA02;obtain⟨ad127,e127,hx127_0,hx127_1,hx127_2⟩:=za8 (Kd.R_reads' HO_16.out).2.2 x18_1 p127 q127
             cases e127
             replace p127:=eq_true p127;replace q127:=eq_true q127
             go_wp2_with (first|((with_reducible refine z1r (N:=9) rfl ?_);refine z1z ?hg (N:=9) ?hd (cs:=#[.int .i64 0,.string (⟨#[]⟩:ByteArray),.int .i64 0]) (t:=108) ?hr ?_;(case hd=>rfl);(case hg=>rfl);(case hr=>first|(go_simp;done)|(go_simp;rfl));intro gb128 hg w18 hbox hb;have n0_:=z00.mk (Kd.R_below (Kd.R_elderB zA0r gb128 (Nat.le_of_eq hg.symm)) hb);have n1_:=z00.mk (z0g zA00 hb);have n2_:=z00.mk (hbox);have n3_:=z00.mk ((by rw[hg];exact(z0j zA00):w.heap.size≤gb128));have n4_:=z00.mk ((by rw[hg];exact(z0j zA00):w.heap.size≤gb128));clear HO_16;clear HB;have HO_16:=n0_;have HB:=n1_;have BK128:=n2_;have GW128:=n3_;have GE128:=n4_;clear n0_ n1_ n2_ n3_ n4_;clear hb hbox hg;have hcz19_0:w18.cell? ⟨gb128,0,none⟩=some (.int .i64 0):=(z01 BK128.out 0).trans rfl;have hcz19_1:w18.cell? ⟨gb128,1,none⟩=some (.string (⟨#[]⟩:ByteArray)):=(z01 BK128.out 1).trans rfl;have hcz19_2:w18.cell? ⟨gb128,2,none⟩=some (.int .i64 0):=(z01 BK128.out 2).trans rfl;have hfz19_0:=z02 BK128.out 0;have hfz19_1:=z02 BK128.out 1;have hfz19_2:=z02 BK128.out 2))
             go_roundg k1
             case measure=>have:=HK1.out;omega
             case rel=>exact⟨(x6_1),(ji17),(wrap64 (x18_1+1)),zA04,(by first|rfl|(simp;done)|(simp only[←hji17] <;> (first|rfl|simp))|(simp[*];done)),zA04,H',⟨by have:=HK1.out;omega⟩,⟨zA07⟩,⟨zA0m⟩⟩
       · rw[if_neg c7]at H;exact absurd H (by simp)
     · rw[if_neg c6]at H;exact absurd H (by simp)
   · rw[if_neg c5]at H;have c5b0:decide (x18_1<(t122.length:Int))=false:=decide_eq_false c5;clear c5;obtain rfl:=Option.some.inj H;go_wp2
     go_ret
     exact⟨by first|rfl|(simp[z0v,z0w] <;> rfl)|(simp[*,z0v,z0w] <;> rfl),by repeat(first|(with_reducible first|exact HB.out|apply z03|apply z04|apply z05)|exact HB.out)⟩

theorem add0 (a:Addr):a.add 0=a:=by simp[Addr.add]

def Err {α:Type} (p:Prs α):Prop:=∀l q,p l=.error q→q.2≠0
theorem zej {full:List UInt8}:∀(l:List (Nat × Nat × Nat)) (a:Nat),covT nmL vlL full a l→∀x ∈ l,nextN nmL vlL (full.drop x.2.1)=some (x.1,x.2.2)∧x.2.1+x.2.2≤full.length∧1≤x.2.2
 |[],_,_=>fun x hx=>by cases hx
 |y::l,a,⟨h1,h2,h3,h4,h5,h6,h7,h8⟩=>fun x hx=>by
  rcases List.mem_cons.1 hx with rfl|hx
  · exact⟨h6,h3,h2⟩
  · exact zej l _ h8 x hx
theorem zdm (s:ByteArray) (x:Nat × Nat × Nat):(tokS s x).f1.data.toList=(s.data.toList.drop x.2.1).take x.2.2:=by
 simp only[tokS];rw[z4s,z3p];simp
def TokOk (t:TK):Prop:=0<t.2.size∧(t.1=1→t.2.data.toList≠[40]∧t.2.data.toList≠[41])
theorem tok_ok {s:ByteArray} {l:List (Nat × Nat × Nat)} (h:tokN nmL vlL 0 s.data.toList=.ok l):∀x ∈ l,TokOk (tkOf (tokS s x)):=fun x hx=>by
 have hc:=tok_cov nmL vlL s.data.toList _ 0 l (Nat.le_refl _) (by simpa using h);obtain⟨hn,hle,h1⟩:=zej l 0 hc x hx;have ht:=zdm s x;refine⟨?_,fun h0=>?_⟩
 · show 0<(tokS s x).f1.size;rw[←z0i,ht,List.length_take,List.length_drop];omega
 · have hk:x.1=1:=by
    have:((x.1:Nat):Int)=1:=h0;omega
   rw[hk]at hn;show(tokS s x).f1.data.toList≠[40]∧(tokS s x).f1.data.toList≠[41];rw[ht]
   cases hd:s.data.toList.drop x.2.1 with
   |nil=>exact⟨by simp,by simp⟩
   |cons c r =>
    rw[hd]at hn;obtain⟨hs,_⟩:=zj0 hn;refine⟨fun e=>?_,fun e=>?_⟩
    all_goals
     obtain⟨m,hm⟩:∃m,x.2.2=m+1:=⟨x.2.2 - 1,by omega⟩
     rw[hm,List.take_succ_cons]at e;injection e with e1 e2
     subst e1;exact absurd hs (by decide)
theorem lex_ok {s:ByteArray} (hs:s.size≤20000) (h:(z36 s).2.2=0):(∀t ∈ (z36 s).1.map tkOf,TokOk t)∧(z36 s).1.length≤s.size:=by
 unfold z36 at h ⊢;rw[if_neg (by omega)]at h ⊢;unfold z7s at h ⊢
 cases ht:tokN nmL vlL 0 s.data.toList with
 |error i=>rw[ht]at h;cases h
 |ok l =>
  simp only;refine⟨fun t hm=>?_,?_⟩
  · rw[List.map_map,List.mem_map]at hm;obtain⟨x,hx,rfl⟩:=hm;exact tok_ok ht x hx
  · have hn:=zd5 nmL vlL _ s.data.toList 0 l (Nat.le_refl _) ht;rw[z0i]at hn
    simpa using hn
theorem mx8 (a b:Nat):mx (a:Int) (b:Int)=((max a b:Nat):Int):=by unfold mx;split <;> omega
theorem zjm (ts:List S108) (hl:ts.length≤20000):∀(d i o m k:Nat),ts.length - i=d→i≤ts.length→d<k→o≤i→z1s.l0 k (o:Int) (m:Int) ts (ts.length:Int) (i:Int)=some (((deepF (o,m) (txts ((ts.drop i).map tkOf))).2:Nat):Int):=by
 intro d
 induction d with
 |zero =>
  intro i o m k hd hi hk ho;obtain⟨k,rfl⟩:∃j,k=j+1:=⟨k - 1,by omega⟩
  simp only[z1s.l0];rw[if_neg (by omega),List.drop_eq_nil_of_le (by omega)];rfl
 |succ d ih =>
  intro i o m k hd hi hk ho;obtain⟨k,rfl⟩:∃j,k=j+1:=⟨k - 1,by omega⟩
  have hlt:i<ts.length:=by omega
  simp only[z1s.l0];rw[if_pos (by omega),if_pos (by omega),if_pos (by omega)];have hr:z2g ts (i:Int)=ts[i]:=by
   show ts.getD (Int.toNat (i:Int)) _=_;rw[Int.toNat_natCast,List.getD_eq_getElem?_getD,List.getElem?_eq_getElem hlt];rfl
  have hw1:wrap64 ((i:Int)+1)=((i+1:Nat):Int):=by unfold wrap64;omega
  have hw2:wrap64 ((o:Int)+1)=((o+1:Nat):Int):=by unfold wrap64;omega
  have hw3:mx 0 (wrap64 ((o:Int) - 1))=((o - 1:Nat):Int):=by
   have:wrap64 ((o:Int) - 1)=(o:Int) - 1:=by unfold wrap64;omega
   rw[this];unfold mx;split <;> omega
  have hf:deepF (o,m) (txts ((ts.drop i).map tkOf))=deepF (deep1 (o,m) (ts[i].f1.data.toList)) (txts ((ts.drop (i+1)).map tkOf)):=by
   rw[List.drop_eq_getElem_cons hlt];rfl
  rw[hr,hw1,hw2,hw3,hf,z2l]
  by_cases h40:ts[i].f1.data.toList=[40]
  · rw[if_pos h40,mx8,ih (i+1) (o+1) (max m (o+1)) k (by omega) (by omega) (by omega) (by omega)];unfold deep1;rw[if_pos h40]
  · rw[if_neg h40]
    by_cases h41:ts[i].f1.data.toList=[41]
    · rw[if_pos h41,mx8,ih (i+1) (o - 1) (max m (o - 1)) k (by omega) (by omega) (by omega) (by omega)];unfold deep1;rw[if_neg h40,if_pos h41]
    · rw[if_neg h41,mx8,ih (i+1) o (max m o) k (by omega) (by omega) (by omega) (by omega)];unfold deep1;rw[if_neg h40,if_neg h41]
theorem deep_f (s:ByteArray) (hs:s.size≤20000) (hl:(z36 s).1.length≤20000):z1s.f ((z36 s).1.length+1) s=some (((deepF (0,0) (txts ((z36 s).1.map tkOf))).2:Nat):Int):=by
 unfold z1s.f;rw[lex_f s (by omega)];exact zjm (z36 s).1 hl _ 0 0 0 _ rfl (Nat.zero_le _) (by omega) (Nat.le_refl _)

def eachL (ws:List (List UInt8)) (sep:List UInt8):List UInt8 × Bool:=if ws.any (·.isEmpty)=true then([],false)else(Lib.join ws sep,true)
abbrev baL (l:List UInt8):ByteArray:=⟨l.toArray⟩
theorem z1d (l:List UInt8):(baL l).toList=l:=by rw[ByteArray.toList_eq]
theorem z2k:(⟨#[]⟩:ByteArray).toList=[]:=by rw[ByteArray.toList_eq]
theorem zgt:∀(r:List (List UInt8)) (sep:List UInt8) (m:Nat),(∀x ∈ r,x.length≤m)→(Lib.joinTail sep r).length≤r.length * (m+sep.length)
 |[],sep,m,h=>by simp[Lib.joinTail]
 |x::r,sep,m,h=>by
  have h1:=h x (by simp);have h2:=zgt r sep m (fun z hz=>h z (List.mem_cons_of_mem _ hz));have e:Lib.joinTail sep (x::r)=sep++x++Lib.joinTail sep r:=by simp[Lib.joinTail]
  rw[e,List.length_append,List.length_append,List.length_cons,Nat.add_mul,Nat.one_mul];omega
theorem zfx (ws:List (List UInt8)) (sep:List UInt8) (m:Nat) (h:∀x ∈ ws,x.length≤m):(Lib.join ws sep).length≤ws.length * (m+sep.length):=by
 cases ws with
 |nil=>simp[Lib.join_nil]
 |cons x r =>
  have h1:=h x (by simp);have h2:=zgt r sep m (fun z hz=>h z (List.mem_cons_of_mem _ hz));rw[Lib.join_cons,List.length_append,List.length_cons,Nat.add_mul,Nat.one_mul];omega
theorem z8t {g:Nat→List UInt8} {n:Nat} {sep:ByteArray} (hg:∀i,(g i).length≤100000000) (hs:sep.size≤2) (hn:n≤1000):(Lib.join ((List.range n).map g) sep.data.toList).length≤140737488355328:=by
 have h1:=zfx ((List.range n).map g) sep.data.toList 100000000 (fun x hx=>by obtain⟨j,_,rfl⟩:=List.mem_map.1 hx;exact hg j);have h2:sep.data.toList.length≤2:=by rw[z0i];exact hs
 rw[List.length_map,List.length_range]at h1;have h3:n * (100000000+sep.data.toList.length)≤1000 * 100000002:=Nat.mul_le_mul hn (by omega);omega
theorem zke:(Tryz.prog.info? 9).map (fun i=>(i.zero,i.size,i.bytes))=some (some (.string ⟨#[]⟩),1,16):=by kernel_rfl
theorem zip {W:World} {A:Option Addr} {ws:List ByteArray} (h:Kd.C Kd.string W A ws.length ws) (hn:0<ws.length):∃bk o,A=some ⟨bk,o,none⟩∧bk<W.heap.size∧∀(j:Nat) x,ws[j]?=some x→W.cell? ⟨bk,o+j,none⟩=some (.string x):=by
 obtain⟨⟨bk,o,sub⟩,rfl,hc⟩:=h.2.2 hn;have get:∀(j:Nat) x,ws[j]?=some x→W.cell? ((⟨bk,o,sub⟩:Addr).add j)=some (.string x):=fun j x hj=>by
  obtain⟨c,hl,hk,hcell⟩:=hc j x hj;have hk:c=[.string x]:=hk;subst hk;have:=hcell 0 (.string x) rfl;have e:j * (Kd.string).sz+0=j:=by show j * 1+0=j;omega
  rwa [e]at this
 have h0:=get 0 ws[0] (List.getElem?_eq_getElem hn);have hs:sub=none:=by
  cases sub with
  |none=>rfl
  |some s =>
   exfalso
   unfold Addr.add at h0
   revert h0
   unfold World.cell?
   simp
   split <;> simp
 subst hs;refine⟨bk,o,rfl,?_,fun j x hj=>?_⟩
 · have hb:(W.heap[bk]?).isSome=true:=by
    unfold World.cell? at h0
    simp[Addr.add]at h0
    cases hh:W.heap[bk]? with
    |none=>rw[hh]at h0;cases h0
    |some y=>rfl
   obtain⟨y,hy⟩:=Option.isSome_iff_exists.1 hb;exact(Array.getElem?_eq_some_iff.1 hy).1
 · have:=get j x hj
   rwa [Addr.add_mid]at this
theorem z8s {W:World} {base:Nat} {ok:Nat→Prop} {A:Option Addr} {c:Nat} {ws:List ByteArray} (sep:ByteArray) (h:Kd.R Kd.string 9 W base ok (.slice A ws.length c) ws) (hl:(Lib.join (ws.map (·.data.toList)) sep.data.toList).length≤140737488355328) (hn:ws.length≤1000) :
 Calls Tryz.prog 73 #[.slice A ws.length c,.string sep] W fun e W'=>e=.returned (.string ⟨(Lib.join (ws.map (·.data.toList)) sep.data.toList).toArray⟩)∧Below W.heap.size W W':=by
 obtain⟨A',c',he,hcap,hC⟩:=Kd.R_reads h;injection he with he1 he2 he3
 subst he1 he3
 cases ws with
 |nil =>
  refine(Tryz.strings_Join_none A c sep W).mono ?_;rintro e w' ⟨rfl,rfl⟩;exact⟨rfl,Below.refl _ _⟩
 |cons x ws =>
  obtain⟨bk,o,rfl,hbk,hcells⟩:=zip hC (by simp);exact Tryz.strings_Join bk o c (x::ws) sep W hcells hbk (by omega) hcap hl
def eachG (g:Nat→List UInt8) (n:Nat) (sep:List UInt8):List UInt8 × Bool:=eachL ((List.range n).map g) sep
theorem zc9 {g:Nat→List UInt8} {n i:Nat} {sep:List UInt8} (hi:i<n) (h:g i=[]):eachG g n sep=([],false):=by
 unfold eachG eachL;rw[if_pos];rw[List.any_eq_true];exact⟨g i,List.mem_map.2 ⟨i,List.mem_range.2 hi,rfl⟩,by rw[h];rfl⟩
theorem z9y {g:Nat→List UInt8} {n:Nat} {sep:List UInt8} (h:∀i,i<n→g i≠[]):eachG g n sep=(Lib.join ((List.range n).map g) sep,true):=by
 unfold eachG eachL;rw[if_neg];rw[List.any_eq_true];rintro⟨x,hx,he⟩;obtain⟨i,hi,rfl⟩:=List.mem_map.1 hx;exact h i (List.mem_range.1 hi) (List.isEmpty_iff.1 he)
theorem z91 (g:Nat→List UInt8) (i:Nat):(List.range (i+1)).map (fun j=>baL (g j))=(List.range i).map (fun j=>baL (g j))++[baL (g i)]:=by rw[List.range_succ,List.map_append];rfl
theorem z5m (g:Nat→List UInt8) (n:Nat):((List.range n).map (fun j=>baL (g j))).map (·.data.toList)=(List.range n).map g:=by rw[List.map_map];rfl
set_option maxHeartbeats 4000000 in
set_option maxRecDepth 100000 in
theorem zfh (w:World) (A:Option Addr) (c:Nat) (xs:List S60) (p2 p3:Value) (g:Nat→List UInt8) (sep:ByteArray) (hsep:sep.size≤2) (hC:Kd.C k60 w A xs.length xs) (hn:xs.length≤1000) (hg:∀i,(g i).length≤100000000)
 (hby:∀(W:World) (i:Nat),i<xs.length→Below w.heap.size w W→Calls Tryz.prog 69 #[.int .i64 i,.agg #[.string (z1i xs i).f0,.int .i64 (z1i xs i).f1.f0,.int .i64 (z1i xs i).f1.f1,.string (z1i xs i).f1.f2],p2,p3] W fun e W'=>e=.returned (.string (baL (g i)))∧Below W.heap.size W W') :
 Calls Tryz.prog 71 #[.slice A xs.length c,.func (.func 69) #[] #[p2,p3],.string sep] w fun e w'=>e=.returned (.tuple #[.string (baL (eachG g xs.length sep.data.toList).1),.bool (eachG g xs.length sep.data.toList).2])∧Below w.heap.size w w':=by
 have HC:=z00.mk hC;have HBY:=z00.mk hby;have HG:=z00.mk (And.intro hg hsep);have HR:=z00.mk (Kd.R_nil Kd.string 9 w w.heap.size (fun k=>w.heap.size≤k));have HB:=z00.mk (Below.refl w.heap.size w);clear hC hby hg hsep;go_enter Tryz.func71,Tryz.ntmps71;go_wp2
 go_loopg [8,14] (xs.length+1) (fun kq v8 v14 w'=>∃(i:Nat),v14=.int .i64 i∧kq+i=xs.length+1∧i≤xs.length∧z00 (∀j,j<i→g j≠[])∧z00 (Kd.R Kd.string 9 w' w.heap.size (fun k=>w.heap.size≤k) v8 ((List.range i).map (fun j=>baL (g j))))∧z00 (Below w.heap.size w w'))
 case atStart=>exact⟨0,rfl,by omega,by omega,⟨fun j hj=>by omega⟩,HR,HB⟩
 case round =>
  clear HR HB;obtain⟨i,rfl,hk,hi,HE,HV,HB⟩:=hrel
  by_cases hlt:i<xs.length
  · have hz:decide ((i:Int)<(xs.length:Int))=true:=decide_eq_true (by omega);have hz2:decide (i<xs.length)=true:=decide_eq_true hlt;obtain⟨k1,rfl⟩:∃k1,gk=k1+1:=⟨gk - 1,by omega⟩
    obtain⟨ad,rfl,x0,x1,x2,x3⟩:=zdi (Kd.C_below HC.out HB.out) (i:Int) (by omega) (by omega);simp only[Int.toNat_natCast]at x0 x1 x2 x3;have hsz:=HB.out.size
    go_wp2_with fail
    refine(HBY.out _ i hlt ?_).mono ?_
    · exact z03 HB.out _
    rintro e w1 ⟨rfl,hb⟩;have hb1:Below wr.heap.size wr w1:=z09 ((Below.refl wr.heap.size wr).alloc (Nat.le_refl _) _) (by simp) hb;have HB1:=z00.mk (z09 HB.out HB.out.size hb1);have HV1:=z00.mk (Kd.R_below HV.out hb1);clear hb hb1;obtain⟨b,hbE⟩:∃b,baL (g i)=b:=⟨_,rfl⟩
    by_cases he:g i=[]
    · have e1:(b.toList==([]:List UInt8))=true:=by rw[←hbE,he,z1d];exact beq_self_eq_true _
      have e2:(b.toList==(⟨#[]⟩:ByteArray).toList)=true:=by rw[←hbE,he];exact beq_self_eq_true _
      have HE:=z00.mk (zc9 (sep:=sep.data.toList) hlt he);clear he;rw[hbE];clear hbE;go_wp2
      go_ret2
      rw[HE.out];exact⟨rfl,HB1.out⟩
    · have e1:(b.toList==([]:List UInt8))=false:=by rw[beq_eq_false_iff_ne,←hbE,z1d];exact he
      have e2:(b.toList==(⟨#[]⟩:ByteArray).toList)=false:=by rw[beq_eq_false_iff_ne,←hbE,z1d];exact fun h=>he (h.trans z2k)
      have HBE:=z00.mk (And.intro hbE he);obtain⟨A8,c8,rfl⟩:=Kd.R_slice HV1.out;have HL:z00 (((List.range i).map fun j=>baL (g j)).length≤1000):=⟨by rw[List.length_map,List.length_range];omega⟩
      rw[hbE];clear hbE he;obtain⟨L,hL⟩:∃L,((List.range i).map fun j=>baL (g j))=L:=⟨_,rfl⟩
      rw[hL]at HV1 HL;rw[hL];have HLE:=z00.mk hL;clear hL
      go_wp2_with ((with_reducible refine z1p (b:=.append) (xs:=#[.tmp 25,.tmp 27]) rfl ?_);at_builtin;refine Kd.R_append Kd.string (w0:=w) w.heap.size rfl (.tmp 25) (.tmp 27) 54 9 (.string ⟨#[]⟩) 16 rfl Tryz.underlying54 zke rfl (by decide) (by decide) (.slice A8 L.length c8) L b [.string b] (fun k=>w.heap.size≤k) (fun _=>False) rfl zA0i rfl (fun _ hk=>hk.elim) (fun k hk=>Nat.le_trans HB1.out.size hk) HV1.out HB1.out HB1.out.size (by have:=HL.out;omega) ?_;intro v1 w2 ho hb hg hat;have HV2:=z00.mk ho;have HB2:=z00.mk hb;clear ho hb hg hat)
      go_roundg k1
      case rel=>exact⟨i+1,by go_num,by omega,by omega,⟨fun j hj=>by rcases Nat.lt_succ_iff_lt_or_eq.1 hj with h|h;exact HE.out j h;exact h ▸ HBE.out.2⟩,⟨by rw[z91,HBE.out.1,HLE.out];exact HV2.out⟩,HB2⟩
      case measure=>omega
  · obtain rfl:i=xs.length:=by omega
    have hz:decide ((xs.length:Int)<(xs.length:Int))=false:=decide_eq_false (by omega);obtain⟨A8,c8,rfl⟩:=Kd.R_slice HV.out;have hj:=z8s sep HV.out (by rw[z5m];exact z8t HG.out.1 HG.out.2 hn) (by rw[List.length_map,List.length_range];exact hn);rw[z5m]at hj;obtain⟨L,hL⟩:∃L,((List.range xs.length).map fun j=>baL (g j))=L:=⟨_,rfl⟩
    rw[hL]at hj ⊢;clear HV hL;have HJ:=z00.mk hj;have HE2:=z00.mk (z9y (sep:=sep.data.toList) HE.out);clear hj
    go_wp2_with fail
    refine HJ.out.mono ?_;rintro e w1 ⟨rfl,hb⟩;have HB1:=z00.mk (z09 HB.out HB.out.size hb);clear hb;go_wp2
    go_ret2
    rw[HE2.out];exact⟨rfl,HB1.out⟩
end Go.Proofs.YthebhbomlllpeaaGreatDoor.X
namespace Go.Proofs.YthebhbomlllpeaaGreatDoor.X
def predN (s:ByteArray):Bool:=nmL s.data.toList&&!keyL s.data.toList
def z74 (v:VlS):Bool:=v.f0==0&&(v.f1==0&&(v.f2.toList==([]:List UInt8)))
def z5s (t:TmS):Bool:=t.f0.toList==([]:List UInt8)&&z74 t.f1
def termL (t:TmS):List UInt8 :=
 if t.f0.data.toList=[]then textL t.f1.f0 t.f1.f1 t.f1.f2 else if varL t.f0.data.toList=true then(if z74 t.f1=true then t.f0.data.toList else[])else[]
def foldW (f:Int):List UInt8 :=
 if f=1 then[99,111,117,110,116]else if f=2 then[115,117,109]else if f=3 then[109,105,110]else if f=4 then[109,97,120]else if f=5 then[109,101,97,110]else[]
def argL (f:Int) (last:Bool) (t:TmS):List UInt8 :=
 if f=0∨last=false then termL t else if t.f0.data.toList=[]∨termL t=[]then[]else foldW f++([40]++(termL t++[41]))
def argsL (f:Int):List TmS→List (List UInt8)
 |[]=>[]
 |[t]=>[argL f true t]
 |t::u::r=>argL f false t::argsL f (u::r)
def headL (a:AtS) (f:Int):List UInt8 :=
 if(eachL (argsL f a.f1) [44,32]).2=false∨predN a.f0=false∨8<a.f1.length∨(0<f∧a.f1=[])then[]
 else if a.f1=[]then a.f0.data.toList
 else a.f0.data.toList++([40]++((eachL (argsL f a.f1) [44,32]).1++[41]))
def atomL (a:AtS):List UInt8:=headL a 0
abbrev Pc:=List UInt8 × Int
def z1y (p:Pc) (b:Int):List UInt8:=if p.2<b then[40]++(p.1++[41])else p.1
def z7c (x:StS):List UInt8:=if predN x.f1=true then(if x.f0=2 then[94]++x.f1.data.toList else if x.f0=1 then x.f1.data.toList else[])else[]
def markL (k:Int):List UInt8:=if k=3 then[47]else if k=4 then[124]else if k=5 then[42]else if k=6 then[43]else[63]
def push1 (st:List Pc) (x:StS):Option (List Pc) :=
 if x.f0<1∨7<x.f0 then none
 else if x.f0≤2 then(if z7c x=[]then none else some ((z7c x,3)::st))
 else if x.f1.data.toList≠[]then none
 else match st with
  |[]=>none
  |b::r =>
   if x.f0≤4 then
    match r with
    |[]=>none
    |a::r=>if x.f0=3 then some ((z1y a 2++(markL 3++z1y b 3),2)::r)else some ((a.1++(markL 4++z1y b 2),1)::r)
   else some ((z1y b 3++markL x.f0,3)::r)
def z40:List Pc→List StS→Option (List Pc)
 |st,[]=>some st
 |st,x::l=>(push1 st x).bind fun st=>z40 st l
def deepS (s:List UInt8):Nat:=(deepF (0,0) (txts ((z36 ⟨s.toArray⟩).1.map tkOf))).2
def pathL (l:List StS):List UInt8 :=
 if 100<l.length then[]else match z40 [] l with
  |some [p]=>if 32<deepS p.1 then[]else p.1
  |_=>[]
def z81 (a:AtS):Bool:=a.f0.toList==([]:List UInt8)&&(a.f1.length==0)
def restB (l:LtS) (n:Nat) (atom op path:Bool):Bool :=
 (if 0<n then !(termL l.f3).isEmpty else z5s l.f3)&&((if 1<n then !(termL l.f4).isEmpty else z5s l.f4)&&((if 2<n then !(termL l.f5).isEmpty else z5s l.f5) &&
   ((atom||z81 l.f1)&&((op||(l.f2.toList==([]:List UInt8)))&&(path||(l.f6.length==0))))))
def compB (s:List UInt8):Bool:=s==[60]||(s==[60,61]||(s==[61]||s==[33,61]))
def wordL (s:List UInt8):List UInt8:=if s=[43]then[32,112,108,117,115,32]else if s=[45]then[32,109,105,110,117,115,32]else if s=[42]then[32,116,105,109,101,115,32]else[]
def litL (l:LtS):List UInt8 :=
 if l.f0=1∧restB l 0 true false false=true then atomL l.f1
 else if l.f0=2∧restB l 0 true false false=true∧atomL l.f1≠[]then[110,111,116,32]++atomL l.f1
 else if l.f0=3∧restB l 2 false true false=true∧compB l.f2.data.toList=true then termL l.f3++([32]++(l.f2.data.toList++([32]++termL l.f4)))
 else if l.f0=4∧restB l 3 false true false=true∧l.f3.f0.data.toList≠[]∧wordL l.f2.data.toList≠[]then termL l.f3++([32,105,115,32]++(termL l.f4++(wordL l.f2.data.toList++termL l.f5)))
 else if l.f0=5∧restB l 2 false false true=true∧pathL l.f6≠[]then[119,97,108,107,40]++(termL l.f3++([44,32]++(pathL l.f6++([44,32]++(termL l.f4++[41])))))
 else[]
def ruleL (x:RlS):List UInt8 :=
 if x.f1<0∨5<x.f1∨12<x.f2.length then[]
 else if headL x.f0 x.f1=[]∨(eachL (x.f2.map litL) [44,32]).2=false then[]
 else if x.f2=[]then headL x.f0 x.f1++[46]
 else headL x.f0 x.f1++([32,58,45,32]++((eachL (x.f2.map litL) [44,32]).1++[46]))
def zjz (rs:List RlS):List UInt8:=(eachL (rs.map ruleL) [10]).1++(if rs=[]then[]else[10])
def allT (p:PgS):List UInt8:=zjz p.f0++([63,45,32]++(atomL p.f1++[46,10]))
def progL (p:PgS):List UInt8 :=
 if(eachL (p.f0.map ruleL) [10]).2=false∨atomL p.f1=[]∨200<p.f0.length∨20000<(allT p).length then[]else allT p

abbrev tkO (s:List UInt8):Option (List TK):=toksO nmL vlL s
def DeepE (d:Nat) (u:List (List UInt8)):Prop:=∀o m,o≤m→deepF (o,m) u=(o,max m (o+d))
theorem DeepE.app {d e:Nat} {a b:List (List UInt8)} (ha:DeepE d a) (hb:DeepE e b):DeepE (max d e) (a++b):=fun o m h=>by
 rw[zcy,ha o m h,hb o _ (by omega)]
 congr 1
 omega
theorem DeepE.one {s:List UInt8} (h1:s≠[40]) (h2:s≠[41]):DeepE 0 [s]:=fun o m h=>by
 simp only[deepF,List.foldl_cons,List.foldl_nil,deep1,if_neg h1,if_neg h2];rw[Nat.add_zero]
theorem DeepE.round {d:Nat} {a:List (List UInt8)} (ha:DeepE d a):DeepE (d+1) ([40]::a++[[41]]):=fun o m h=>by
 have e2:deepF (o,m) ([40]::a++[[41]])=deepF (deepF (o+1,max m (o+1)) a) [[41]]:=by
  rw[List.cons_append,←zcy];rfl
 rw[e2,ha (o+1) _ (by omega)];simp only[deepF,List.foldl_cons,List.foldl_nil,deep1];rw[if_neg (by decide)];simp only[if_true,Nat.add_sub_cancel]
 congr 1
 omega
def P3 (D:Nat) (ts:List TK) (l:List StS):Prop:=∀r,partP D (ts++r)=.ok (l++(z14 r).1,(z14 r).2)
def P2 (D:Nat) (ts:List TK) (l:List StS):Prop:=∀r,z14 r=([],r)→rowP [47] 3 (partP D) (ts++r)=rowL [47] 3 (partP D) r.length l r
def P1 (D:Nat) (ts:List TK) (l:List StS):Prop:=∀r,z14 r=([],r)→mk0 r [47]=false→pathP D (ts++r)=rowL [124] 4 (rowP [47] 3 (partP D)) r.length l r
theorem z88 {s:List UInt8} {k:Int} {one:Prs (List StS)} (n:Nat) (acc:List StS) {l:List TK} (h:mk0 l s=false):rowL s k one n acc l=.ok (acc,l):=by
 cases n with
 |zero=>rfl
 |succ n=>simp only[rowL,h,Bool.false_eq_true,if_false]
theorem zkc {s:List UInt8} {k:Int} {one:Prs (List StS)} (h1:Loc 0 one) {acc x:List StS} {t:TK} {l r:List TK} (ht:isT t 4 s=true) (ho:one l=.ok (x,r)):rowL s k one (t::l).length acc (t::l)=rowL s k one r.length (acc++x++[stepS k]) r:=by
 have hm:mk0 (t::l) s=true:=ht;rw[List.length_cons];simp only[rowL,hm,if_true,List.drop_one,List.tail_cons];rw[z2z ho];obtain⟨u,e,_,_⟩:=h1 _ _ _ ho;have:r.length≤l.length:=by rw[e,List.length_append];omega
 exact zdx h1 _ _ _ _ this (Nat.le_refl _)
theorem P3.two {D:Nat} {ts:List TK} {l:List StS} (h:P3 D ts l):P2 D ts l:=fun r hr=>by
 unfold rowP;rw[z2z (h r),hr,List.append_nil]
theorem P2.one {D:Nat} {ts:List TK} {l:List StS} (h:P2 D ts l):P1 D ts l:=fun r hr hm=>by
 have h1:=h r hr;rw[z88 _ _ hm]at h1;show rowP [124] 4 (rowP [47] 3 (partP D)) (ts++r)=_;rw[rowP,z2z h1]
theorem mk_is (m:UInt8):isT (mkT m) 4 [m]=true:=by
 unfold isT
 simp
theorem z4o {m n:UInt8} (h:m≠n):isT (mkT m) 4 [n]=false:=by
 unfold isT
 simp[h]
theorem z7h {m:UInt8} (h1:m≠42) (h2:m≠43) (h3:m≠63) (r:List TK):z14 (mkT m::r)=([],mkT m::r):=zd7 ⟨z4o h1,z4o h2,z4o h3⟩ r
theorem zki (D:Nat):partP (D+1)=partW (some (pathP D)):=rfl
theorem P1.round {D:Nat} {ts:List TK} {l:List StS} (h:P1 D ts l):P3 (D+1) (mkT 40::(ts++[mkT 41])) l:=fun r=>by
 have h1:=h (mkT 41::r) (z7h (by decide) (by decide) (by decide) r) (z4o (by decide));rw[z88 _ _ (show mk0 (mkT 41::r) [124]=false from z4o (by decide))]at h1;have e:mkT 40::(ts++[mkT 41])++r=mkT 40::(ts++mkT 41::r):=by simp
 have hb:baseP (some (pathP D)) (mkT 40::(ts++mkT 41::r))=.ok (l,r):=by
  unfold baseP;rw[if_pos (show mk0 (mkT 40::_) [40]=true from mk_is 40)];simp only[List.drop_one,List.tail_cons];rw[z2z h1];have hw:wantP [41] (mkT 41::r)=.ok ((),r):=by
   unfold wantP;rw[if_pos (show mk0 (mkT 41::_) [41]=true from mk_is 41)];rfl
  rw[z2z hw]
 rw[e,zki,partW,z2z hb]
theorem P3.mark {D:Nat} {ts:List TK} {l:List StS} (h:P3 D ts l) (m:UInt8) (k:Int) (hm:(m=42∧k=5)∨(m=43∧k=6)∨(m=63∧k=7)):P3 D (ts++[mkT m]) (l++[stepS k]):=fun r=>by
 have e:ts++[mkT m]++r=ts++mkT m::r:=by simp
 have hk:z14 (mkT m::r)=(stepS k::(z14 r).1,(z14 r).2):=by
  simp only[z14];rcases hm with ⟨rfl,rfl⟩|⟨rfl,rfl⟩|⟨rfl,rfl⟩
  · rw[if_pos (mk_is 42)]
  · rw[if_neg (by rw[z4o (by decide)];decide),if_pos (mk_is 43)]
  · rw[if_neg (by rw[z4o (by decide)];decide),if_neg (by rw[z4o (by decide)];decide),if_pos (mk_is 63)]
 rw[e,h (mkT m::r),hk]
 simp
theorem zg2 (D:Nat):∃o,partP D=partW o:=by
 cases D with
 |zero=>exact⟨_,rfl⟩
 |succ D=>exact⟨_,rfl⟩
theorem zck (s:ByteArray) (x:List UInt8):isT ((1,s):TK) 4 x=false:=by unfold isT;simp
theorem P3.along {D:Nat} {s:ByteArray} (hs:predB (1,s)=true):P3 D [(1,s)] [⟨1,s⟩]:=fun r=>by
 obtain⟨o,ho⟩:=zg2 D;have hb:baseP o ((1,s)::r)=.ok ([⟨1,s⟩],r):=by
  unfold baseP;rw[if_neg (by rw[show mk0 ((1,s)::r) [40]=false from zck s _];decide),if_neg (by rw[show mk0 ((1,s)::r) [94]=false from zck s _];decide)];simp only[z1m,hs,if_true];rfl
 rw[ho,List.singleton_append,partW,z2z hb]
theorem P3.back {D:Nat} {s:ByteArray} (hs:predB (1,s)=true):P3 D [mkT 94,(1,s)] [⟨2,s⟩]:=fun r=>by
 obtain⟨o,ho⟩:=zg2 D;have hb:baseP o (mkT 94::(1,s)::r)=.ok ([⟨2,s⟩],r):=by
  unfold baseP;rw[if_neg (by rw[show mk0 (mkT 94::(1,s)::r) [40]=false from z4o (by decide)];decide),if_pos (show mk0 (mkT 94::_) [94]=true from mk_is 94)];simp only[List.drop_one,List.tail_cons,z1m,hs,if_true];rfl
 show partP D (mkT 94::(1,s)::r)=_;rw[ho,partW,z2z hb]
theorem P2.thenP {D:Nat} {ta tb:List TK} {la lb:List StS} (ha:P2 D ta la) (hb:P3 D tb lb):P2 D (ta++mkT 47::tb) (la++lb++[stepS 3]):=fun r hr=>by
 have e:ta++mkT 47::tb++r=ta++mkT 47::(tb++r):=by simp
 have hb1:=hb r;rw[hr,List.append_nil]at hb1;rw[e,ha _ (z7h (by decide) (by decide) (by decide) _),zkc ((z8n D).le (Nat.zero_le _)) (mk_is 47) hb1]
theorem P1.orP {D:Nat} {ta tb:List TK} {la lb:List StS} (ha:P1 D ta la) (hb:P2 D tb lb):P1 D (ta++mkT 124::tb) (la++lb++[stepS 4]):=fun r hr hm=>by
 have e:ta++mkT 124::tb++r=ta++mkT 124::(tb++r):=by simp
 have hb1:=hb r hr;rw[z88 _ _ hm]at hb1;rw[e,ha _ (z7h (by decide) (by decide) (by decide) _) (z4o (by decide)),zkc (zcv ((z8n D).le (Nat.zero_le _))) (mk_is 124) hb1]
def Lv (b:Int) (D:Nat) (ts:List TK) (l:List StS):Prop:=(b=3→P3 D ts l)∧(2≤b→P2 D ts l)∧P1 D ts l
theorem Lv.of3 {D:Nat} {ts:List TK} {l:List StS} (h:P3 D ts l):Lv 3 D ts l:=⟨fun _=>h,fun _=>h.two,h.two.one⟩
theorem Lv.of2 {D:Nat} {ts:List TK} {l:List StS} (h:P2 D ts l):Lv 2 D ts l:=⟨fun e=>absurd e (by decide),fun _=>h,h.one⟩
theorem Lv.of1 {D:Nat} {ts:List TK} {l:List StS} (h:P1 D ts l):Lv 1 D ts l:=⟨fun e=>absurd e (by decide),fun e=>absurd e (by decide),h⟩
structure PInv (p:Pc) (l:List StS) (d:Nat):Prop where
 mk ::
 ne:p.1≠[]
 lo:1≤p.2
 hi:p.2≤3
 tk:∃ts,tkO p.1=some ts∧DeepE d (txts ts)∧∀D,d≤D→Lv p.2 D ts l
def upD (p:Pc) (k:Int) (d:Nat):Nat:=if p.2<k then d+1 else d
theorem PInv.least {p:Pc} {l:List StS} {d:Nat} (h:PInv p l d) (k:Int) (hk:k≤3):PInv (z1y p k,if p.2<k then 3 else p.2) l (upD p k d):=by
 obtain⟨hne,hlo,hhi,ts,ht,hd,hl⟩:=h;unfold z1y upD
 by_cases hc:p.2<k
 · rw[if_pos hc,if_pos hc,if_pos hc];refine⟨by simp,by show(1:Int)≤3;omega,by show(3:Int)≤3;omega,mkT 40::(ts++[mkT 41]),?_,?_,?_⟩
   · exact z2i (by decide) (z59 (zc3 (by decide)) ht (z2i (by decide) (z7j _ _)))
   · have:txts (mkT 40::(ts++[mkT 41]))=[40]::txts ts++[[41]]:=by simp[txts]
     rw[this];exact hd.round
   · intro D hD;obtain⟨D,rfl⟩:∃E,D=E+1:=⟨D - 1,by omega⟩
     exact Lv.of3 (hl D (by omega)).2.2.round
 · rw[if_neg hc,if_neg hc,if_neg hc];exact⟨hne,hlo,hhi,ts,ht,hd,hl⟩
theorem PInv.thenP {a b:List UInt8} {ba:Int} {la lb:List StS} {da db:Nat} (ha:PInv (a,ba) la da) (hb:PInv (b,3) lb db) (h2:2≤ba):PInv (a++([47]++b),2) (la++lb++[stepS 3]) (max da db):=by
 obtain⟨ane,alo,ahi,ts,ht,hd,hl⟩:=ha;obtain⟨bne,blo,bhi,us,hu,he,hm⟩:=hb;refine⟨by simp,by show(1:Int)≤2;omega,by show(2:Int)≤3;omega,ts++mkT 47::us,?_,?_,?_⟩
 · exact z59 (zc3 (by decide)) ht (z2i (by decide) hu)
 · have:txts (ts++mkT 47::us)=txts ts++([[47]]++txts us):=by simp[txts]
   rw[this];have:=hd.app ((DeepE.one (s:=[47]) (by decide) (by decide)).app he)
   rwa [Nat.zero_max]at this
 · intro D hD;exact Lv.of2 (P2.thenP ((hl D (by omega)).2.1 h2) ((hm D (by omega)).1 rfl))
theorem PInv.orP {a b:List UInt8} {ba bb:Int} {la lb:List StS} {da db:Nat} (ha:PInv (a,ba) la da) (hb:PInv (b,bb) lb db) (h2:2≤bb):PInv (a++([124]++b),1) (la++lb++[stepS 4]) (max da db):=by
 obtain⟨ane,alo,ahi,ts,ht,hd,hl⟩:=ha;obtain⟨bne,blo,bhi,us,hu,he,hm⟩:=hb;refine⟨by simp,by show(1:Int)≤1;omega,by show(1:Int)≤3;omega,ts++mkT 124::us,?_,?_,?_⟩
 · exact z59 (zc3 (by decide)) ht (z2i (by decide) hu)
 · have:txts (ts++mkT 124::us)=txts ts++([[124]]++txts us):=by simp[txts]
   rw[this];have:=hd.app ((DeepE.one (s:=[124]) (by decide) (by decide)).app he)
   rwa [Nat.zero_max]at this
 · intro D hD;exact Lv.of1 (P1.orP (hl D (by omega)).2.2 ((hm D (by omega)).2.1 h2))
theorem PInv.markP {a:List UInt8} {la:List StS} {da:Nat} (ha:PInv (a,3) la da) (k:Int) (h5:5≤k) (h7:k≤7):PInv (a++markL k,3) (la++[stepS k]) da:=by
 obtain⟨ane,alo,ahi,ts,ht,hd,hl⟩:=ha;have hk:(k=5∧markL k=[42])∨(k=6∧markL k=[43])∨(k=7∧markL k=[63]):=by
  rcases (by omega:k=5∨k=6∨k=7)with rfl|rfl|rfl
  · exact .inl ⟨rfl,by decide⟩
  · exact .inr (.inl ⟨rfl,by decide⟩)
  · exact .inr (.inr ⟨rfl,by decide⟩)
 obtain⟨m,hm,hmk,hs,h1,h4,h41⟩:∃m,markL k=[m]∧((m=42∧k=5)∨(m=43∧k=6)∨(m=63∧k=7))∧sepB m=true∧tkO [m]=some [mkT m]∧m≠40∧m≠41:=by
  rcases hk with ⟨e,h⟩|⟨e,h⟩|⟨e,h⟩
  · exact⟨42,h,.inl ⟨rfl,e⟩,by decide,z2i (by decide) (z7j _ _),by decide,by decide⟩
  · exact⟨43,h,.inr (.inl ⟨rfl,e⟩),by decide,z2i (by decide) (z7j _ _),by decide,by decide⟩
  · exact⟨63,h,.inr (.inr ⟨rfl,e⟩),by decide,zhf _ _,by decide,by decide⟩
 rw[hm];refine⟨by simp,by show(1:Int)≤3;omega,by show(3:Int)≤3;omega,ts++[mkT m],z59 hs ht h1,?_,?_⟩
 · have:txts (ts++[mkT m])=txts ts++[[m]]:=by simp[txts]
   rw[this];have:=hd.app (DeepE.one (s:=[m]) (by simpa using h4) (by simpa using h41))
   rwa [Nat.max_zero]at this
 · intro D hD;exact Lv.of3 (((hl D hD).1 rfl).mark m k hmk)
theorem ze4 {s:List UInt8} (h:nmL s=true):nextN nmL vlL s=some (1,s.length):=by
 obtain⟨c,l,hl,h1,h2⟩:=z8q h;have hl:s=c::l:=hl;have hlow:∀c ∈ s,lowB c=true:=(zfr h).1;have hr:=z82 lowB s hlow;have hc:z1a c=true:=decide_eq_true ⟨h1,h2⟩;subst hl;simp only[nextN,hc,if_true,hr,List.take_length,h]
theorem z8x {s:ByteArray} (h:predN s=true):predB (1,s)=true∧nmL s.data.toList=true:=by
 unfold predN at h;unfold predB;simp only[Bool.and_eq_true]at h ⊢;exact⟨⟨rfl,h.2⟩,h.1⟩
theorem z89 {s:ByteArray} (h:nmL s.data.toList=true):tkO s.data.toList=some [(1,s)]:=z9e (ze4 h)
theorem zeh {s:List UInt8} (h:nmL s=true):s≠[]∧s≠[40]∧s≠[41]:=by
 obtain⟨c,l,hl,h1,h2⟩:=z8q h;have hl:s=c::l:=hl;subst hl;refine⟨by simp,fun e=>?_,fun e=>?_⟩
 all_goals
  injection e with e1 e2
  rw[e1]at h1;exact absurd h1 (by decide)
theorem PInv.along {s:ByteArray} (h:predN s=true):PInv (s.data.toList,3) [⟨1,s⟩] 0:=by
 obtain⟨hp,hn⟩:=z8x h;obtain⟨n0,n1,n2⟩:=zeh hn;exact⟨n0,by show(1:Int)≤3;omega,by show(3:Int)≤3;omega,[(1,s)],z89 hn,DeepE.one n1 n2,fun D _=>Lv.of3 (P3.along hp)⟩
theorem PInv.back {s:ByteArray} (h:predN s=true):PInv ([94]++s.data.toList,3) [⟨2,s⟩] 0:=by
 obtain⟨hp,hn⟩:=z8x h;obtain⟨n0,n1,n2⟩:=zeh hn;refine⟨by simp,by show(1:Int)≤3;omega,by show(3:Int)≤3;omega,[mkT 94,(1,s)],z2i (by decide) (z89 hn),?_,fun D _=>Lv.of3 (P3.back hp)⟩;have:=(DeepE.one (s:=[94]) (by decide) (by decide)).app (DeepE.one n1 n2);exact this
def StI:List Pc→List StS→Prop
 |[],done=>done=[]
 |p::st,done=>∃pre l d,done=pre++l∧StI st pre∧PInv p l d
theorem zjb {x:StS} (h:x.f1.data.toList=[]):x=stepS x.f0:=by
 obtain⟨k,⟨⟨l⟩⟩⟩:=x;have h:l=[]:=h;subst h;rfl
theorem zjk {st st':List Pc} {done:List StS} {x:StS} (h:StI st done) (hp:push1 st x=some st'):StI st' (done++[x]):=by
 unfold push1 at hp
 split at hp
 · cases hp
 rename_i hk
 split at hp
 · rename_i h2
   split at hp
   · cases hp
   rename_i hne;injection hp with hp
   subst hp;refine⟨done,[x],0,rfl,h,?_⟩;unfold z7c at hne ⊢
   split at hne
   · rename_i hpr;rw[if_pos hpr];rcases (by omega:x.f0=1∨x.f0=2)with e|e
     · rw[if_neg (by omega),if_pos e];have:=PInv.along hpr
       rwa [show x=⟨1,x.f1⟩from by cases x;simp only at e;subst e;rfl]
     · rw[if_pos e];have:=PInv.back hpr
       rwa [show x=⟨2,x.f1⟩from by cases x;simp only at e;subst e;rfl]
   · exact absurd rfl hne
 · rename_i h2
   split at hp
   · cases hp
   rename_i hb;have hx:x=stepS x.f0:=zjb (by simpa using hb)
   cases st with
   |nil=>cases hp
   |cons b r =>
    obtain⟨pre,lb,db,rfl,hs,hb⟩:=h;simp only at hp
    split at hp
    · rename_i h4
      cases r with
      |nil=>cases hp
      |cons a r =>
       obtain⟨pre,la,da,rfl,hs,ha⟩:=hs;simp only at hp;have h3:=hb.least 3 (by omega);have h32:=hb.least 2 (by omega);have h22:=ha.least 2 (by omega)
       split at hp
       · rename_i e3;injection hp with hp
         subst hp;have e:(if b.2<3 then(3:Int)else b.2)=3:=by have:=hb.hi;split <;> omega
         rw[e]at h3;refine⟨pre,la++lb++[stepS 3],_,?_,hs,PInv.thenP h22 h3 (by split <;> omega)⟩;rw[hx,e3];simp
       · rename_i e3;injection hp with hp
         subst hp;have e4:x.f0=4:=by omega
         refine⟨pre,la++lb++[stepS 4],_,?_,hs,PInv.orP (ba:=a.2) ha h32 (by split <;> omega)⟩;rw[hx,e4];simp
    · rename_i h4;injection hp with hp
      subst hp;have h3:=hb.least 3 (by omega);have e:(if b.2<3 then(3:Int)else b.2)=3:=by have:=hb.hi;split <;> omega
      rw[e]at h3;refine⟨pre,lb++[stepS x.f0],_,?_,hs,h3.markP x.f0 (by omega) (by omega)⟩;rw[←hx];simp
theorem zbm:∀(l:List StS) (st st':List Pc) (done:List StS),StI st done→z40 st l=some st'→StI st' (done++l)
 |[],st,st',done,h,hp=>by
  injection hp with hp
  subst hp
  rwa [List.append_nil]
 |x::l,st,st',done,h,hp=>by
  simp only[z40]at hp
  cases h1:push1 st x with
  |none=>rw[h1]at hp;cases hp
  |some s =>
   rw[h1,Option.bind_some]at hp;have:=zbm l s st' (done++[x]) (zjk h h1) hp
   rwa [List.append_assoc]at this
theorem zh7 {l:List StS} {p:Pc} (h:z40 [] l=some [p]):∃d,PInv p l d:=by
 obtain⟨pre,m,d,e,hs,hp⟩:=zbm l [] [p] [] rfl h;have hs:pre=[]:=hs;subst hs;have e:l=m:=e;subst e;exact⟨d,hp⟩
theorem zgf {s:ByteArray} (hs:s.size≤20000):tkO s.data.toList=if(z36 s).2.2=0 then some ((z36 s).1.map tkOf)else none:=by
 have hL:z36 s=z7s s:=by unfold z36;rw[if_neg (by omega)]
 rw[hL,z7s,tkO,toksO_of]
 cases tokN nmL vlL 0 s.data.toList with
 |error i=>rfl
 |ok l =>
  simp only;rw[if_pos trivial,List.map_map]
  congr 1
  refine List.map_congr_left fun x _=>?_
  show cutT s.data.toList x=tkOf (tokS s x);have ht:(tokS s x).f1.data.toList=(s.data.toList.drop x.2.1).take x.2.2:=zdm s x;unfold cutT;rw[←ht];rfl
theorem deepS_of {s:List UInt8} (hs:s.length≤20000) {ts:List TK} (h:tkO s=some ts):deepS s=(deepF (0,0) (txts ts)).2:=by
 have:=zgf (s:=⟨s.toArray⟩) (by simpa [ByteArray.size] using hs);rw[show(⟨s.toArray⟩:ByteArray).data.toList=s from rfl,h]at this
 split at this
 · injection this with this
   unfold deepS;rw[←this]
 · cases this
theorem PInv.deep {p:Pc} {l:List StS} {d:Nat} (h:PInv p l d) (hs:p.1.length≤20000):deepS p.1=d:=by
 obtain⟨_,_,_,ts,ht,hd,_⟩:=h;rw[deepS_of hs ht,hd 0 0 (Nat.le_refl _)];show max 0 (0+d)=d;omega
theorem zbj {l:List StS} (h:pathL l≠[]):∃p,z40 [] l=some [p]∧l.length≤100∧deepS p.1≤32∧pathL l=p.1:=by
 unfold pathL at h
 split at h
 · exact absurd rfl h
 rename_i h100
 split at h
 · rename_i p hp
   split at h
   · exact absurd rfl h
   rename_i h32;refine⟨p,hp,by omega,by omega,?_⟩;unfold pathL;rw[if_neg h100,hp];exact if_neg h32
 · exact absurd rfl h
theorem zi5 {l:List StS} (hne:pathL l≠[]) (hs:(pathL l).length≤20000):∃ts,tkO (pathL l)=some ts∧l.length≤100∧∀r,z14 r=([],r)→mk0 r [47]=false→mk0 r [124]=false→pathP 32 (ts++r)=.ok (l,r):=by
 obtain⟨p,hp,h100,h32,e⟩:=zbj hne;rw[e]at hs ⊢;obtain⟨d,hI⟩:=zh7 hp;have hd:=hI.deep hs;obtain⟨_,_,_,ts,ht,_,hl⟩:=hI;refine⟨ts,ht,h100,fun r h1 h2 h3=>?_⟩;rw[(hl 32 (by omega)).2.2 r h1 h2,z88 _ _ h3]

def Clo {α:Type} (p:Prs α):Prop:=∀l x r,p l=.ok (x,r)→∃u,l=u++r∧u≠[]∧∀r',p (u++r')=.ok (x,r')
def Cons {α:Type} (N:TK→Prop) (p:Prs α):Prop:=∀l x r,p l=.ok (x,r)→∃u,l=u++r∧∀t ∈ u,N t
def NoQ (t:TK):Prop:=isT t 4 [63,45]=false
theorem z9q (n:Nat) (acc:List RlS) (l:List TK):z8l (n+1) acc l=if mk0 l [63,45]then .ok (acc,l.drop 1)else if n==0&&predL l then .error (l.length,4)else bnd (ruleP l) fun x r=>z8l n (acc++[x]) r:=rfl
theorem zb2 (n:Nat) (acc:List LtS) (l:List TK):bodyP (n+1) acc l=if n==0&&z2h l then .error (l.length,4)else bnd (z1h l) fun x r=>if mk0 r [44]then bodyP n (acc++[x]) (r.drop 1)else .ok (acc++[x],r):=rfl
theorem zcz {t:TK} (ht:predB t=true) {l:List TK} (hl:∀s,s=[60]∨s=[60,61]∨s=[61]∨s=[33,61]→mk0 l s=false):z1h (t::l)=z4z 1 (t::l):=by
 have ht':=ht;unfold predB at ht';simp only[Bool.and_eq_true,beq_iff_eq,Bool.not_eq_true']at ht';have hc:z1n (t::l)=false:=by
  unfold z1n mk1;simp only[List.drop_succ_cons,List.drop_zero];rw[hl _ (Or.inl rfl),hl _ (Or.inr (Or.inl rfl)),hl _ (Or.inr (Or.inr (Or.inl rfl))),hl _ (Or.inr (Or.inr (Or.inr rfl)))];rfl
 have hk:(kindL (t::l)==2)=false:=beq_eq_false_iff_ne.2 (by show t.1≠2;omega);have hkey:∀s,keyL s=true→isL (t::l) 1 s=false:=fun s hs=>by
  show isT t 1 s=false;unfold isT;rw[Bool.and_eq_false_iff];refine Or.inr (beq_eq_false_iff_ne.2 ?_);rintro e;rw[e,hs]at ht';exact absurd ht'.2 (by simp)
 unfold z1h;rw[hc,Bool.and_false,hk,Bool.false_and,hkey _ (by decide),hkey _ (by decide)];simp only[Bool.false_eq_true,if_false];rw[if_pos (show predL (t::l)=true from ht)]
theorem zfe {n:TK} (hn:isT n 1 [110,111,116]=true) {t:TK} (ht:predB t=true) (l:List TK):z1h (n::t::l)=z4z 2 (t::l):=by
 obtain⟨h1,h2⟩:=isT_text hn;have ht':=ht;unfold predB at ht';simp only[Bool.and_eq_true,beq_iff_eq]at ht';have h4:∀s,isT t 4 s=false:=fun s=>by
  unfold isT;rw[Bool.and_eq_false_iff];exact Or.inl (beq_eq_false_iff_ne.2 (by omega))
 have hc:z1n (n::t::l)=false:=by
  unfold z1n mk1;simp only[List.drop_succ_cons,List.drop_zero,mk0,h4];rfl
 have hk:(kindL (n::t::l)==2)=false:=beq_eq_false_iff_ne.2 (by show n.1≠2;omega);unfold z1h;rw[hc,Bool.and_false,hk,Bool.false_and];simp only[Bool.false_eq_true,if_false];rw[if_pos (show isL (n::t::l) 1 [110,111,116]=true from hn)];rfl

def progO (s:List UInt8):Option PgS:=(tkO s).bind fun ts=>match z2w ts with
 |.ok (p,[])=>some p
 |_=>none
theorem err_allP {α:Type} {p:Prs α} {l:List TK}:(∃x,p l=.ok (x,[])∧allP p l=.ok x)∨((∀x,p l≠.ok (x,[]))∧∃q,allP p l=.error q):=by
 unfold allP
 cases h:p l with
 |error e=>exact .inr ⟨fun x h=>(by cases h),e,rfl⟩
 |ok y =>
  obtain⟨x,r⟩:=y
  cases r with
  |nil=>exact .inl ⟨x,rfl,rfl⟩
  |cons t r=>exact .inr ⟨fun x h=>(by injection h with h;injection h with _ h;cases h),_,rfl⟩
theorem zhk {s:ByteArray} (hs:s.size≤20000) {p:PgS} (h:progO s.data.toList=some p):z4b (⟨[],noneA⟩:PgS) z2w s=(p,0,0):=by
 unfold progO at h;rw[zgf hs]at h
 split at h
 · rename_i hz;rw[Option.bind_some]at h;unfold z4b;rw[if_pos hz];rcases err_allP (p:=z2w) (l:=(z36 s).1.map tkOf)with ⟨x,h1,h2⟩|⟨h1,q,h2⟩
   · rw[h1]at h;injection h with h
     rw[h2,←h];rfl
   · split at h
     · rename_i y hy;exact absurd hy (h1 y)
     · cases h
 · cases h
theorem zgm {nm vl:List UInt8→Bool} {a b:UInt8} (h:(a=58∧b=45)∨(a=63∧b=45)) {r:List UInt8} {l:List TK} (hr:toksO nm vl r=some l):toksO nm vl (a::b::r)=some ((4,⟨#[a,b]⟩)::l):=by
 have hb:z2x a=false∧nextN nm vl (a::b::r)=some (4,2):=by
  rcases h with ⟨rfl,rfl⟩|⟨rfl,rfl⟩
  all_goals
   refine⟨by decide,?_⟩;simp only[nextN];rw[if_neg (by decide),if_neg (by decide),if_neg (by unfold valB;simp[z16]),if_pos (by unfold twoB;simp)]
 rw[z6p hb.1 hb.2];show(toksO nm vl r).map _=_;rw[hr];rfl
theorem z7e {w:List UInt8} (hw:nmL w=true) {x:UInt8} (hx:sepB x=true) {r:List UInt8} {l:List TK} (hr:tkO (x::r)=some l):tkO (w++x::r)=some ((1,⟨w.toArray⟩)::l):=z59 hx (z9e (ze4 hw)) hr
abbrev qT:TK:=(4,⟨#[63,45]⟩)
abbrev cT:TK:=(4,⟨#[58,45]⟩)
abbrev xT:TK:=(1,⟨#[120]⟩)
abbrev nT:TK:=(1,⟨#[110,111,116]⟩)
theorem z2n {c:UInt8} (h:z2x c=true) {r:List UInt8} {l:List TK} (hr:tkO r=some l):tkO (c::r)=some l:=by rw[tkO,z97 _ _ r h];exact hr
theorem two_is (a b:UInt8):isT ((4,⟨#[a,b]⟩):TK) 4 [a,b]=true:=by unfold isT;simp
theorem tail_x:tkO [32,63,45,32,120,46]=some [qT,xT,mkT 46] :=
 z2n (by decide) (zgm (.inr ⟨rfl,rfl⟩) (z2n (by decide) (z7e (w:=[120]) (by decide) (by decide) (z2i (by decide) (z7j _ _)))))

theorem zig {c:UInt8} {r:List UInt8} (h:varL (c::r)=true):nextN nmL vlL (c::r)=some (2,(c::r).length):=by
 simp only[varL,Bool.and_eq_true,decide_eq_true_eq]at h;obtain⟨h1,h2,h3⟩:=h;have h0:z1a c=false:=by
  unfold z1f at h2;rw[decide_eq_true_eq]at h2;exact decide_eq_false (by omega)
 simp only[nextN,h0,h2,h3,Bool.false_eq_true,if_false,if_true];rw[if_pos h1]
theorem zf6 {ws:List (List UInt8)} {sep:List UInt8} (h:(eachL ws sep).2=true):(∀w ∈ ws,w≠[])∧(eachL ws sep).1=Lib.join ws sep:=by
 unfold eachL at h ⊢
 split at h
 · cases h
 · rename_i hn;rw[if_neg hn];refine⟨fun w hw e=>hn ?_,rfl⟩;rw[List.any_eq_true];exact⟨w,hw,by rw[e];rfl⟩
theorem zc6 (x y:List UInt8) (l:List (List UInt8)) (sep:List UInt8):Lib.join (x::y::l) sep=x++(sep++Lib.join (y::l) sep):=by
 simp[Lib.join,List.intercalate,List.intersperse]
def rngT (t:TmS):Prop:=-9223372036854775808≤t.f1.f1∧t.f1.f1≤9223372036854775807
def tokTm (t:TmS):TK:=if t.f0.data.toList=[]then(if t.f1.f0=3 then 1 else 3,baL (termL t))else(2,baL (termL t))
theorem zcd {v:VlS} (h:z74 v=true):v=noneV:=by
 unfold z74 at h;simp only[Bool.and_eq_true,beq_iff_eq]at h;obtain⟨a,b,c⟩:=v;obtain⟨h1,h2,h3⟩:=h;simp only at h1 h2 h3;subst h1 h2;rw[ByteArray.toList_eq]at h3;rw[show c=⟨#[]⟩from ba_eq h3];rfl
theorem zcw {t:TmS} (h:z5s t=true):t=noneT:=by
 unfold z5s at h;simp only[Bool.and_eq_true,beq_iff_eq]at h;obtain⟨a,b⟩:=t;obtain⟨h1,h2⟩:=h;simp only at h1 h2;rw[ByteArray.toList_eq]at h1;rw[show a=⟨#[]⟩from ba_eq h1,zcd h2];rfl
theorem zf0 {a:AtS} (h:z81 a=true):a=noneA:=by
 unfold z81 at h;simp only[Bool.and_eq_true,beq_iff_eq]at h;obtain⟨p,l⟩:=a;obtain⟨h1,h2⟩:=h;simp only at h1 h2;rw[ByteArray.toList_eq]at h1;rw[show p=⟨#[]⟩from ba_eq h1,List.eq_nil_of_length_eq_zero h2];rfl
theorem za5 {t:TmS} (h:termL t≠[]) (hr:rngT t):∃k:Nat,(tokTm t).1=(k:Int)∧(tokTm t).2=baL (termL t)∧nextN nmL vlL (termL t)=some (k,(termL t).length)∧(k=1∨k=2∨k=3)∧(t.f0.data.toList≠[]→k=2)∧∀r,termP (tokTm t::r)=.ok (t,r):=by
 by_cases h0:t.f0.data.toList=[]
 · have ht:termL t=textL t.f1.f0 t.f1.f1 t.f1.f2:=by unfold termL;rw[if_pos h0]
   have hR:z5f t.f1.f0 t.f1.f1 t.f1.f2=true:=by
    cases hb:z5f t.f1.f0 t.f1.f1 t.f1.f2 with
    |true=>rfl
    |false =>
     exfalso;apply h
     rw[ht];unfold textL;rw[hb,if_neg (by decide)]
   have hn:=zhc t.f1.f0 t.f1.f1 t.f1.f2 hR hr;have htk:tokTm t=(if t.f1.f0=3 then 1 else 3,baL (termL t)):=by unfold tokTm;rw[if_pos h0]
   refine⟨if t.f1.f0=3 then 1 else 3,?_,?_,?_,?_,fun e=>absurd h0 e,fun r=>?_⟩
   · rw[htk];split <;> rfl
   · rw[htk]
   · rw[ht];exact hn
   · split <;> simp
   · rw[htk,ht];have hk:∀k:Int,k=1∨k=3→termP ((k,baL (textL t.f1.f0 t.f1.f1 t.f1.f2))::r)=.ok (t,r):=fun k hk=>by
      have e2:(k==2)=false:=beq_eq_false_iff_ne.2 (by omega);have e13:(k==1||k==3)=true:=by rcases hk with rfl|rfl <;> rfl
      simp only[termP,e2,e13,if_true,Bool.false_eq_true,if_false];have hv:readV (baL (textL t.f1.f0 t.f1.f1 t.f1.f2))=t.f1:=by
       have:=zb1 t.f1.f0 t.f1.f1 t.f1.f2 hR hr;unfold txt at this;unfold readV;rw[this]
      rw[hv,show(⟨⟨#[]⟩,t.f1⟩:TmS)=t by rw[show(⟨#[]⟩:ByteArray)=t.f0 from ba_eq h0.symm]]
     refine hk _ ?_
     split
     · exact .inl rfl
     · exact .inr rfl
 · have hv:varL t.f0.data.toList=true∧z74 t.f1=true:=by
    unfold termL at h;rw[if_neg h0]at h
    split at h
    · rename_i h1
      split at h
      · rename_i h2;exact⟨h1,h2⟩
      · exact absurd rfl h
    · exact absurd rfl h
   have ht:termL t=t.f0.data.toList:=by unfold termL;rw[if_neg h0,if_pos hv.1,if_pos hv.2]
   have htk:tokTm t=(2,baL (termL t)):=by unfold tokTm;rw[if_neg h0]
   refine⟨2,by rw[htk];rfl,by rw[htk],?_,.inr (.inl rfl),fun _=>rfl,fun r=>?_⟩
   · rw[ht];obtain⟨c,l,hl⟩:∃c l,t.f0.data.toList=c::l:=by
      cases hl:t.f0.data.toList with
      |nil=>exact absurd hl h0
      |cons c l=>exact⟨c,l,rfl⟩
     rw[hl];exact zig (by rw[←hl];exact hv.1)
   · rw[htk,ht];simp only[termP,beq_self_eq_true,if_true];rw[←zcd hv.2,show baL t.f0.data.toList=t.f0 from ba_eq (by simp)]
theorem z7p {t:TmS} (h:termL t≠[]) (hr:rngT t) {x:UInt8} (hx:sepB x=true) {s:List UInt8} {R:List TK} (hs:tkO (x::s)=some R):tkO (termL t++x::s)=some (tokTm t::R):=by
 obtain⟨k,h1,h2,hn,_⟩:=za5 h hr;have:=z59 hx (z9e hn) hs;rw[show tkO (termL t++x::s)=_ from this,←h1,show(⟨(termL t).toArray⟩:ByteArray)=(tokTm t).2 from h2.symm];rfl
theorem z6y {t:TmS} (h:termL t≠[]) (hr:rngT t) (r:List TK):termP (tokTm t::r)=.ok (t,r):=by
 obtain⟨_,_,_,_,_,_,h'⟩:=za5 h hr;exact h' r
theorem tm_kind {t:TmS} (h:termL t≠[]) (hr:rngT t):(tokTm t).1=1∨(tokTm t).1=2∨(tokTm t).1=3:=by
 obtain⟨k,h1,_,_,h2,_⟩:=za5 h hr;omega
theorem zj3 {t:TmS} (h:termL t≠[]) (hr:rngT t) (r:List TK):z2h (tokTm t::r)=true:=by
 rcases tm_kind h hr with e|e|e <;> simp[z2h,e]
theorem tm_var {t:TmS} (h:termL t≠[]) (hv:t.f0.data.toList≠[]) (r:List TK):z45 (tokTm t::r)=.ok (t,r)∧(tokTm t).1=2:=by
 have htk:tokTm t=(2,baL (termL t)):=by unfold tokTm;rw[if_neg hv]
 have hv':varL t.f0.data.toList=true∧z74 t.f1=true:=by
  unfold termL at h;rw[if_neg hv]at h
  split at h
  · rename_i h1
    split at h
    · rename_i h2;exact⟨h1,h2⟩
    · exact absurd rfl h
  · exact absurd rfl h
 have ht:termL t=t.f0.data.toList:=by unfold termL;rw[if_neg hv,if_pos hv'.1,if_pos hv'.2]
 rw[htk,ht];refine⟨?_,rfl⟩;simp only[z45,beq_self_eq_true,if_true];rw[←zcd hv'.2,show baL t.f0.data.toList=t.f0 from ba_eq (by simp)]
theorem zd0 {f:Int} (h0:0<f) (h5:f≤5):nmL (foldW f)=true∧foldL (foldW f)=f:=by
 obtain rfl|rfl|rfl|rfl|rfl:f=1∨f=2∨f=3∨f=4∨f=5:=by omega
 all_goals exact⟨by decide,by decide⟩
def z77 (f:Int) (t:TmS):List TK:=if f=0 then[tokTm t]else[(1,baL (foldW f)),mkT 40,tokTm t,mkT 41]
def z4n (f:Int):List TmS→List TK
 |[]=>[]
 |[t]=>z77 f t
 |t::u::r=>tokTm t::mkT 44::z4n f (u::r)
theorem zga {f:Int} {t:TmS} (h:argL f true t≠[]):termL t≠[]∧(f≠0→t.f0.data.toList≠[]):=by
 unfold argL at h
 split at h
 · rename_i h0;rcases h0 with h0|h0
   · exact⟨h,fun e=>absurd h0 e⟩
   · cases h0
 · split at h
   · exact absurd rfl h
   · rename_i h1;exact⟨fun e=>h1 (.inr e),fun _ e=>h1 (.inl e)⟩
theorem zdl {f:Int} (h0:0≤f) (h5:f≤5) {s:List UInt8} {R:List TK} (hs:tkO (41::s)=some R):∀(l:List TmS),l≠[]→(∀w ∈ argsL f l,w≠[])→(∀t ∈ l,rngT t)→tkO (Lib.join (argsL f l) [44,32]++41::s)=some (z4n f l++R)
 |[],h,_,_=>absurd rfl h
 |[t],_,hw,hr=>by
  have ha:argL f true t≠[]:=hw _ (List.mem_singleton.2 rfl);obtain⟨ht,hv⟩:=zga ha;have hrt:=hr t (List.mem_singleton.2 rfl);show tkO (Lib.join [argL f true t] [44,32]++41::s)=some (z77 f t++R);rw[Lib.join_one]
  by_cases hf:f=0
  · rw[show argL f true t=termL t by unfold argL;rw[if_pos (.inl hf)],show z77 f t=[tokTm t] by unfold z77;rw[if_pos hf]];exact z7p ht hrt (by decide) hs
  · rw[show argL f true t=foldW f++([40]++(termL t++[41])) by unfold argL;rw[if_neg (by rintro(e|e);exact hf e;cases e),if_neg (by rintro(e|e);exact hv hf e;exact ht e)],show z77 f t=[(1,baL (foldW f)),mkT 40,tokTm t,mkT 41] by unfold z77;rw[if_neg hf]];have h1:tkO (termL t++41::(41::s))=some (tokTm t::mkT 41::R):=z7p ht hrt (by decide) (z2i (by decide) hs);have h2:=z7e (zd0 (by omega) h5).1 (x:=40) (by decide) (z2i (m:=40) (by decide) h1);rw[show(foldW f++([40]++(termL t++[41])))++41::s=foldW f++40::(termL t++41::(41::s)) by simp];exact h2
 |t::u::r,_,hw,hr=>by
  have ht:termL t≠[]:=by
   have:=hw (argL f false t) (List.mem_cons_self ..)
   rwa [show argL f false t=termL t by unfold argL;rw[if_pos (.inr rfl)]]at this
  have ih:=zdl h0 h5 hs (u::r) (by simp) (fun w hw'=>hw w (List.mem_cons_of_mem _ hw')) (fun x hx=>hr x (List.mem_cons_of_mem _ hx));obtain⟨y,ys,hy⟩:∃y ys,argsL f (u::r)=y::ys:=by cases r <;> exact⟨_,_,rfl⟩
  show tkO (Lib.join (argL f false t::argsL f (u::r)) [44,32]++41::s)=some (tokTm t::mkT 44::(z4n f (u::r)++R));rw[hy,zc6,←hy,show argL f false t=termL t by unfold argL;rw[if_pos (.inr rfl)]];rw[show(termL t++([44,32]++Lib.join (argsL f (u::r)) [44,32]))++41::s=termL t++44::(32::(Lib.join (argsL f (u::r)) [44,32]++41::s)) by simp];exact z7p ht (hr t (List.mem_cons_self ..)) (by decide) (z2i (by decide) (z2n (by decide) ih))
theorem zjh {head:Bool} {t d:TK} (r:List TK) (h:isT d 4 [40]=false):(head&&foldB (t::d::r))=false:=by
 have:foldB (t::d::r)=false:=by
  show(t.1==1&&foldL t.2.data.toList !=0&&isT d 4 [40])=false;rw[h,Bool.and_false]
 rw[this,Bool.and_false]
theorem zb4 {head:Bool} {f:Int} (h0:0≤f) (h5:f≤5) (hh:f=0∨head=true) (r:List TK):∀(l:List TmS) (n:Nat) (acc:List TmS),l≠[]→(∀w ∈ argsL f l,w≠[])→(∀t ∈ l,rngT t)→l.length<n→argsP head n acc (z4n f l++mkT 41::r)=.ok ((acc++l,f),mkT 41::r)
 |[],_,_,h,_,_,_=>absurd rfl h
 |[t],n+1,acc,_,hw,hr,hn=>by
  obtain⟨ht,hv⟩:=zga (hw _ (List.mem_singleton.2 rfl));have hrt:=hr t (List.mem_singleton.2 rfl);have hn0:(n==0)=false:=beq_eq_false_iff_ne.2 (by simp at hn;omega);show argsP head (n+1) acc (z77 f t++mkT 41::r)=_
  by_cases hf:f=0
  · rw[show z77 f t=[tokTm t] by unfold z77;rw[if_pos hf]];simp only[List.singleton_append,argsP];rw[hn0,Bool.false_and,if_neg (by decide),zjh r (z4o (by decide)),if_neg (by decide),z6y ht hrt];simp only[bnd];rw[if_neg (by rw[show mk0 (mkT 41::r) [44]=false from z4o (by decide)];decide),hf]
  · have hh':head=true:=hh.resolve_left hf;obtain⟨hw1,hw2⟩:=zd0 (by omega) h5;obtain⟨hv1,hv2⟩:=tm_var ht (hv hf) (mkT 41::mkT 41::r);rw[show z77 f t=[(1,baL (foldW f)),mkT 40,tokTm t,mkT 41] by unfold z77;rw[if_neg hf]];simp only[List.cons_append,List.nil_append,argsP];have hfb:foldB ((1,baL (foldW f))::mkT 40::tokTm t::mkT 41::mkT 41::r)=true:=by
     show((1:Int)==1&&foldL (foldW f) !=0&&isT (mkT 40) 4 [40])=true;rw[hw2,mk_is]
     simp[hf]
    rw[hn0,Bool.false_and,if_neg (by decide),hh',hfb,if_pos (by decide)];simp only[List.drop_succ_cons,List.drop_zero];rw[hv1];simp only[bnd];unfold wantP;rw[if_pos (show mk0 (mkT 41::mkT 41::r) [41]=true from mk_is 41)];simp only[foldN,List.drop_succ_cons,List.drop_zero];rw[show foldL (baL (foldW f)).data.toList=f from hw2]
 |t::u::q,n+1,acc,_,hw,hr,hn=>by
  have ht:termL t≠[]:=by
   have:=hw (argL f false t) (List.mem_cons_self ..)
   rwa [show argL f false t=termL t by unfold argL;rw[if_pos (.inr rfl)]]at this
  have hrt:=hr t (List.mem_cons_self ..);have hn0:(n==0)=false:=beq_eq_false_iff_ne.2 (by simp at hn;omega);have ih:=zb4 h0 h5 hh r (u::q) n (acc++[t]) (by simp) (fun w hw'=>hw w (List.mem_cons_of_mem _ hw')) (fun x hx=>hr x (List.mem_cons_of_mem _ hx)) (by simp at hn ⊢;omega);show argsP head (n+1) acc (tokTm t::mkT 44::(z4n f (u::q)++mkT 41::r))=_;simp only[argsP];rw[hn0,Bool.false_and,if_neg (by decide),zjh _ (z4o (by decide)),if_neg (by decide),z6y ht hrt];simp only[bnd];rw[if_pos (show mk0 (mkT 44::(z4n f (u::q)++mkT 41::r)) [44]=true from mk_is 44)];simp only[List.drop_succ_cons,List.drop_zero];rw[ih,List.append_assoc];rfl
def z4k (a:AtS) (f:Int):List TK:=(1,a.f0)::(if a.f1=[]then[]else mkT 40::(z4n f a.f1++[mkT 41]))
theorem z8c {a:AtS} {f:Int} (h:headL a f≠[]):predN a.f0=true∧a.f1.length≤8∧(0<f→a.f1≠[])∧(∀w ∈ argsL f a.f1,w≠[])∧headL a f=if a.f1=[]then a.f0.data.toList else a.f0.data.toList++([40]++(Lib.join (argsL f a.f1) [44,32]++[41])):=by
 unfold headL at h ⊢
 split at h
 · exact absurd rfl h
 · rename_i hc;rw[if_neg hc];have h2:(eachL (argsL f a.f1) [44,32]).2=true:=by cases e:(eachL (argsL f a.f1) [44,32]).2 with|true=>rfl|false=>exact absurd (.inl e) hc
   obtain⟨h3,h4⟩:=zf6 h2;rw[h4];refine⟨?_,Nat.le_of_not_lt fun e=>hc (.inr (.inr (.inl e))),fun e1 e2=>hc (.inr (.inr (.inr ⟨e1,e2⟩))),h3,rfl⟩
   cases e:predN a.f0 with
   |true=>rfl
   |false=>exact absurd (.inr (.inl e)) hc
theorem z83 {a:AtS} {f:Int} (h:headL a f≠[]) (h0:0≤f) (h5:f≤5) (hr:∀t ∈ a.f1,rngT t) {x:UInt8} (hx:sepB x=true) {s:List UInt8} {R:List TK} (hs:tkO (x::s)=some R):tkO (headL a f++x::s)=some (z4k a f++R):=by
 obtain⟨hp,_,_,hw,he⟩:=z8c h;obtain⟨_,hn⟩:=z8x hp;rw[he];unfold z4k
 by_cases hl:a.f1=[]
 · rw[if_pos hl,if_pos hl];exact z59 hx (z89 hn) hs
 · rw[if_neg hl,if_neg hl];have h1:=zdl h0 h5 (z2i (m:=41) (by decide) hs) a.f1 hl hw hr;have h2:tkO (a.f0.data.toList++40::(Lib.join (argsL f a.f1) [44,32]++41::x::s))=some ([(1,a.f0)]++mkT 40::(z4n f a.f1++mkT 41::R)):=z59 (x:=40) (by decide) (z89 hn) (z2i (by decide) h1);rw[show a.f0.data.toList++([40]++(Lib.join (argsL f a.f1) [44,32]++[41]))++x::s=a.f0.data.toList++40::(Lib.join (argsL f a.f1) [44,32]++41::x::s) by simp,h2]
   simp
theorem z90 {head:Bool} {a:AtS} {f:Int} (h:headL a f≠[]) (h0:0≤f) (h5:f≤5) (hh:f=0∨head=true) (hr:∀t ∈ a.f1,rngT t) {r:List TK} (hm:mk0 r [40]=false):atomP head (z4k a f++r)=.ok ((a,f),r):=by
 obtain⟨hp,h8,hne,hw,_⟩:=z8c h;obtain⟨hb,_⟩:=z8x hp;unfold z4k atomP
 by_cases hl:a.f1=[]
 · rw[if_pos hl];have hf:f=0:=by have:=mt hne (fun e=>e hl);omega
   simp only[List.cons_append,List.nil_append,z1m,hb,if_true,bnd,hm,Bool.false_eq_true,if_false];rw[hf,←hl]
 · rw[if_neg hl];simp only[List.cons_append,z1m,hb,if_true,bnd];rw[if_pos (show mk0 (mkT 40::(z4n f a.f1++[mkT 41]++r)) [40]=true from mk_is 40)];simp only[List.drop_succ_cons,List.drop_zero];rw[show z4n f a.f1++[mkT 41]++r=z4n f a.f1++mkT 41::r by simp,zb4 h0 h5 hh r a.f1 9 [] hl hw hr (by omega)];simp only[List.nil_append];unfold wantP;rw[if_pos (show mk0 (mkT 41::r) [41]=true from mk_is 41)];rfl
end Go.Proofs.YthebhbomlllpeaaGreatDoor.X
namespace Go.Proofs.YthebhbomlllpeaaGreatDoor.X
open Go.RowKit Go.Proofs.YthebhbomlllpeaaGreatDoorW.PrintWords Go.Proofs.YthebhbomlllpeaaGreatDoorW.PrintLast Go.Proofs.YthebhbomlllpeaaGreatDoorW.PrintMore
attribute [local go_sem] z4e z49 z54 z50 z3l z3j z4h z4g
theorem eqA58 (d:Nat) (w:World) (x0 y0:Int) (x1 y1:Int) (x2 y2:ByteArray) :
 (Op.equalIn (d+2) 58 (.agg #[.int .i64 x0,.int .i64 x1,.string x2]) (.agg #[.int .i64 y0,.int .i64 y1,.string y2])).run Tryz.prog w=.ok (x0==y0&&(x1==y1&&(x2.toList==y2.toList))) w:=by
 refine zjw Tryz.underlying58 (by kernel_rfl) ?_;refine z9j (by rfl) (by go_simp;rfl) (by go_simp;rfl) (by go_simp) ?_;refine z9j (by rfl) (by go_simp;rfl) (by go_simp;rfl) (by go_simp) ?_;exact zce (by rfl) (by go_simp;rfl) (by go_simp;rfl) (by go_simp)

def z3q.l0:Nat→ByteArray→List ByteArray→Int→Int→Option (Bool)
 |0,_,_,_,_=>none
 |k+1,x0,x3,x7,x8=>if x8<x7 then(if 0≤x8 then(if x8<(x3.length:Int)then(if(rdOf ByteArray.empty x3 x8).toList=x0.toList then(some true)else(z3q.l0 k x0 x3 x7 (wrap64 (x8+1))))else(none))else(none))else(some false)
def z3q.f (k:Nat) (a0:ByteArray):Option (Bool):=(some (([(⟨#[110,111,116]⟩:ByteArray),(⟨#[105,115]⟩:ByteArray),(⟨#[112,108,117,115]⟩:ByteArray),(⟨#[109,105,110,117,115]⟩:ByteArray),(⟨#[116,105,109,101,115]⟩:ByteArray),(⟨#[119,97,108,107]⟩:ByteArray),(⟨#[99,111,117,110,116]⟩:ByteArray),(⟨#[115,117,109]⟩:ByteArray),(⟨#[109,105,110]⟩:ByteArray),(⟨#[109,97,120]⟩:ByteArray),(⟨#[109,101,97,110]⟩:ByteArray)]:List ByteArray):List ByteArray)).bind fun y151=>(z3q.l0 k a0 y151 (y151.length:Int) 0)
def z5g.f (a0:Int):Option (Bool):=if a0≥97 then(if a0≤122 then(some true)else(if a0≥65 then(if a0≤90 then(some true)else(if a0≥48 then(if a0≤57 then(some true)else(some (a0==95)))else(some (a0==95))))else(if a0≥48 then(if a0≤57 then(some true)else(some (a0==95)))else(some (a0==95)))))else(if a0≥65 then(if a0≤90 then(some true)else(if a0≥48 then(if a0≤57 then(some true)else(some (a0==95)))else(some (a0==95))))else(if a0≥48 then(if a0≤57 then(some true)else(some (a0==95)))else(some (a0==95))))
mutual
def z10.j0:Nat→ByteArray→Bool→Option (Bool)
 |0,_,_=>none
 |k+1,x0,x21=>if x21=true then(some false)else(z10.l0 k x0 0)
def z10.l0:Nat→ByteArray→Int→Option (Bool)
 |0,_,_=>none
 |k+1,x0,x3=>if x3<(x0.size:Int)then(if 0≤x3 then((z5g.f (bt x0 x3)).bind fun t157=>(if t157=true then(z10.l0 k x0 (wrap64 (x3+1)))else(some false)))else(none))else(some true)
end
def z10.f (k:Nat) (a0:ByteArray):Option (Bool):=if(a0.size:Int)<1 then(z10.j0 k a0 true)else(if(a0.size:Int)>40 then(z10.j0 k a0 true)else(if 0<(a0.size:Int)then(if(bt a0 0)<65 then(z10.j0 k a0 true)else(z10.j0 k a0 (decide ((bt a0 0)>90))))else(none)))
def z6w.f (a0:Int):Option (Bool):=if a0=9221120237041090561 then(some true)else(if a0≤9218868437227405312 then(some (decide (a0≥(-9218868437227405313))))else(some false))
mutual
def z17.l0:Nat→Int→Int→ByteArray→Option (ByteArray)
 |0,_,_,_=>none
 |k+1,x0,x1,x5=>if x0>0 then(z17.j1 k x0 x1 x5 true)else(z17.j1 k x0 x1 x5 (x5.toList==([]:List UInt8)))
def z17.j1:Nat→Int→Int→ByteArray→Bool→Option (ByteArray)
 |0,_,_,_,_=>none
 |k+1,x0,x1,x5,x13=>if x13=true then(if x1=0 then(none)else(if((Int.tmod x0 x1) % 256)>9 then((some (([(((97+((Int.tmod x0 x1) % 256)) % 256) - 10) % 256]:List Int):List Int)).bind fun y168=>(if(strOfNums y168).size+x5.size≤9223372036854775807 then(z17.l0 k (IntKind.u64.wrap (Int.tdiv x0 x1)) x1 ((strOfNums y168)++x5))else(none)))else((some (([(48+((Int.tmod x0 x1) % 256)) % 256]:List Int):List Int)).bind fun y171=>(if(strOfNums y171).size+x5.size≤9223372036854775807 then(z17.l0 k (IntKind.u64.wrap (Int.tdiv x0 x1)) x1 ((strOfNums y171)++x5))else(none)))))else(some x5)
end
def z17.f (k:Nat) (a0:Int) (a1:Int):Option (ByteArray):=z17.l0 k a0 a1 (⟨#[]⟩:ByteArray)
end Go.Proofs.YthebhbomlllpeaaGreatDoor.X
namespace Go.Proofs.YthebhbomlllpeaaGreatDoor.X
open Go.RowKit Go.Proofs.YthebhbomlllpeaaGreatDoorW.PrintWords Go.Proofs.YthebhbomlllpeaaGreatDoorW.PrintLast Go.Proofs.YthebhbomlllpeaaGreatDoorW.PrintMore
attribute [local go_sem] z4e z49 z54 z50 z3l z3j z4h z4g
attribute [local go_sem high] eqA58
def z5b.f (a0_0:Int) (a0_1:Int) (a0_2:ByteArray):Option (Bool):=if a0_0=1 then(some (a0_2.toList==([]:List UInt8)))else(if a0_0=2 then(if a0_2.toList=([]:List UInt8)then((z6w.f a0_1).bind fun t159=>(some t159))else(some false))else(if a0_0=3 then(if a0_1=0 then((z5h.f a0_2).bind fun t160=>(some t160))else(some false))else(some false)))
def z7m.f (k:Nat) (a0_0:ByteArray) (a0_1:Int) (a0_2:Int) (a0_3:ByteArray):Option (Bool):=if a0_0.toList=([]:List UInt8)then((z5b.f a0_1 a0_2 a0_3).bind fun t162=>(some t162))else((z10.f k a0_0).bind fun t163=>(if t163=true then(some (a0_1==0&&(a0_2==0&&(a0_3.toList==([]:List UInt8)))))else(some false)))
mutual
def z3d.j0:Nat→Bool→ByteArray→List (S60)→Option (Bool)
 |0,_,_,_=>none
 |k+1,x13,x165000,x165001=>if x13=true then(some false)else(z3d.l0 k (x165001.length:Int) 0 x165000 x165001)
def z3d.l0:Nat→Int→Int→ByteArray→List (S60)→Option (Bool)
 |0,_,_,_,_=>none
 |k+1,x16,x17,x165000,x165001=>if x17<x16 then(if 0≤x17 then(if x17<(x165001.length:Int)then((z7m.f k ((z1i x165001 x17).f0) ((z1i x165001 x17).f1.f0) ((z1i x165001 x17).f1.f1) ((z1i x165001 x17).f1.f2)).bind fun t167=>(if t167=true then(z3d.l0 k x16 (wrap64 (x17+1)) x165000 x165001)else(some false)))else(none))else(none))else(some true)
end
def z2c.l0:Nat→ByteArray→Option (ByteArray)
 |0,_=>none
 |k+1,x3=>if(x3.size:Int)<16 then(if 1+x3.size≤9223372036854775807 then(z2c.l0 k ((⟨#[48]⟩:ByteArray)++x3))else(none))else(if 1+x3.size≤9223372036854775807 then(some ((⟨#[35]⟩:ByteArray)++x3))else(none))
def z2c.f (k:Nat) (a0_0:Int) (a0_1:Int) (a0_2:ByteArray):Option (ByteArray):=(z5b.f a0_0 a0_1 a0_2).bind fun t175=>(if t175=true then(if a0_0=1 then(if a0_1<0 then((z17.f k (IntKind.u64.wrap (-(IntKind.u64.wrap (a0_1)))) 10).bind fun t176=>(if 1+t176.size≤9223372036854775807 then(some ((⟨#[45]⟩:ByteArray)++t176))else(none)))else((z17.f k (IntKind.u64.wrap (a0_1)) 10).bind fun t177=>(some t177)))else(if a0_0=2 then((z17.f k (IntKind.u64.wrap (a0_1)) 16).bind fun t178=>(z2c.l0 k t178))else(some a0_2)))else(some (⟨#[]⟩:ByteArray)))
end Go.Proofs.YthebhbomlllpeaaGreatDoor.X
namespace Go.Proofs.YthebhbomlllpeaaGreatDoor.X
open Go.RowKit Go.Proofs.YthebhbomlllpeaaGreatDoorW.PrintWords Go.Proofs.YthebhbomlllpeaaGreatDoorW.PrintLast Go.Proofs.YthebhbomlllpeaaGreatDoorW.PrintMore
theorem ze9 (a b:Int) (s:ByteArray) (hb:-9223372036854775808≤b∧b≤9223372036854775807):(textL a b s).length≤40:=by
 unfold textL
 by_cases hr:z5f a b s=true
 · rw[if_pos hr]
   by_cases h1:a=1
   · rw[if_pos h1];unfold Lib.itoa
     split
     · have:=zb6 b.natAbs (by omega)
       simp[Lib.decDigits_length];omega
     · have:=zb6 b.toNat (by omega)
       simp[Lib.decDigits_length];omega
   · rw[if_neg h1]
     by_cases h2:a=2
     · rw[if_pos h2];have hw:=wrap_u64 b;have:=z9r (IntKind.u64.wrap b).toNat 16 (by omega) (by omega);unfold hex16
       simp;omega
     · rw[if_neg h2];unfold z5f at hr;rw[if_neg h1,if_neg h2]at hr
       by_cases h3:a=3
       · rw[if_pos h3]at hr;simp only[Bool.and_eq_true,nameB,decide_eq_true_eq]at hr;show s.size≤40;exact hr.2.1.2
       · rw[if_neg h3]at hr
         cases hr
 · rw[if_neg hr];simp
end Go.Proofs.YthebhbomlllpeaaGreatDoor.X
namespace Go.Proofs.YthebhbomlllpeaaGreatDoor.X
open Go.RowKit Go.Proofs.YthebhbomlllpeaaGreatDoorW.PrintWords Go.Proofs.YthebhbomlllpeaaGreatDoorW.PrintLast Go.Proofs.YthebhbomlllpeaaGreatDoorW.PrintMore
attribute [local go_sem high] eqA58
def okT (t:TmS):Prop:=(-9223372036854775808≤t.f1.f1∧t.f1.f1≤9223372036854775807)∧t.f0.size≤9223372036854775807
theorem z2y (s:ByteArray):s.toList=s.data.toList:=ByteArray.toList_eq s
theorem zec {s:ByteArray} (h:s.data.toList=[]):s=⟨#[]⟩:=by
 cases s with
 |mk d=>have:=congrArg List.toArray h;simp at this;rw[this]
theorem zhe {w1 w0:World} {n:Nat} {cs:Array Value} {t:TypeId} (hn:w0.heap.size=n) (h:Below (w0.alloc (.cells cs t)).heap.size (w0.alloc (.cells cs t)) w1):w1.heap[n]?=some (.cells cs t (0,0)):=by
 have:=z0q w0 (.cells cs t);rw[hn]at this;exact z0b this h
set_option maxRecDepth 100000 in
theorem zd2 (v:ByteArray) (hv:v.size≤9223372036854775807) (w:World) :
 Calls Tryz.prog 107 #[.string v] w fun e w'=>e=.returned (.bool (varL v.data.toList))∧z0e w w':=by
 by_cases h40:v.size≤40
 · exact z38.calls v _ w (by unfold z38.f;exact if_pos (by omega))
 · have hl:varL v.data.toList=false:=by
    obtain⟨r,hr⟩:=z7y (s:=v) (by omega);have hlen:v.data.toList.length=v.size:=z0i v;rw[hr]at hlen ⊢;unfold varL;simp only;rw[decide_eq_false (by omega)];rfl
   have hemp:v.toList.isEmpty=false:=by
    obtain⟨r,hr⟩:=z7y (s:=v) (by omega);rw[z2l,hr];rfl
   have e1:decide ((v.size:Int)≤40)=false:=decide_eq_false (by omega);rw[hl];clear hl h40 hv;go_enter Tryz.func107,Tryz.ntmps107;go_wp2
   go_ret
   exact⟨rfl,z0e.refl _⟩
set_option maxHeartbeats 4000000 in
set_option maxRecDepth 100000 in
theorem z2b (t:TmS) (w:World) (hLW:LaidW w) (h:okT t) :
 Calls Tryz.prog 70 #[.agg #[.string t.f0,.int .i64 t.f1.f0,.int .i64 t.f1.f1,.string t.f1.f2]] w fun e w'=>e=.returned (.string (baL (termL t)))∧Below w.heap.size w w':=by
 obtain⟨v,⟨k,m,s⟩⟩:=t;have hB:=z03 (Below.refl w.heap.size w) (.cells #[.string v,.int .i64 k,.int .i64 m,.string s] 60);have hN:=z0q w (.cells #[.string v,.int .i64 k,.int .i64 m,.string s] 60);obtain⟨n,en⟩:∃n,w.heap.size=n:=⟨_,rfl⟩
 rw[en]at hN
 by_cases h0:v.data.toList=[]
 · have e1:(v.toList==([]:List UInt8))=true:=by rw[beq_iff_eq,z2y];exact h0
   have e2:(v.toList==(⟨#[]⟩:ByteArray).toList)=true:=by rw[z2k];exact e1
   have HT:=z00.mk (fun W (hW:LaidW W)=>z3k.calls k m s (baL (textL k m s)) W hW (by unfold z3k.f;exact if_pos h.1));have HE:=z00.mk (show termL ⟨v,⟨k,m,s⟩⟩=textL k m s from if_pos h0);have HB:=z00.mk hB;have HLW:=z00.mk hLW;clear hB hN h0 h hLW;go_enter Tryz.func70,Tryz.ntmps70
   go_wp2_with fail
   refine(HT.out _ (HLW.out.below HB.out)).mono ?_;rintro e w1 ⟨rfl,hb⟩;have HB1:=z00.mk (z09 HB.out HB.out.size hb);clear hb;go_wp2
   go_ret
   exact⟨by rw[HE.out];rfl,HB1.out⟩
 · have e1:(v.toList==([]:List UInt8))=false:=by rw[beq_eq_false_iff_ne,z2y];exact h0
   have e2:(v.toList==(⟨#[]⟩:ByteArray).toList)=false:=by rw[z2k];exact e1
   have HV:=z00.mk (fun W=>zd2 v h.2 W);have HE:=z00.mk (show termL ⟨v,⟨k,m,s⟩⟩=if varL v.data.toList=true then(if z74 ⟨k,m,s⟩=true then v.data.toList else[])else[]from if_neg h0);have HB:=z00.mk hB;have HN:=z00.mk hN;have HLW:=z00.mk hLW;clear hB hN h0 h hLW;obtain⟨b,hb⟩:∃b,varL v.data.toList=b:=⟨_,rfl⟩
   rw[hb]at HV HE;clear hb
   cases b with
   |false =>
    go_enter Tryz.func70,Tryz.ntmps70
    go_wp2_with fail
    refine(HV.out _).mono ?_;rintro e w1 ⟨rfl,hb⟩;obtain⟨nd,rfl⟩:=hb;go_wp2
    go_ret
    exact⟨by rw[HE.out];rfl,z04 HB.out nd⟩
   |true =>
    obtain⟨b2,hb2⟩:∃b2,z74 ⟨k,m,s⟩=b2:=⟨_,rfl⟩
    rw[hb2]at HE;have hb3:(k==0&&(m==0&&(s.toList==([]:List UInt8))))=b2:=hb2;clear hb2
    cases b2 with
    |true =>
     rw[Bool.and_eq_true,Bool.and_eq_true,beq_iff_eq,beq_iff_eq,beq_iff_eq]at hb3;obtain⟨rfl,rfl,hs⟩:=hb3;rw[z2y]at hs;obtain rfl:=zec hs;clear hs;go_enter Tryz.func70,Tryz.ntmps70
     go_wp2_with fail
     refine(HV.out _).mono ?_;rintro e w1 ⟨rfl,hb⟩;obtain⟨nd,rfl⟩:=hb;have hN2:=z0f HN.out nd;go_wp2
     go_ret
     exact⟨by rw[HE.out];rfl,z04 HB.out nd⟩
    |false =>
     have hb4:(k==0&&(m==0&&(s.toList==(⟨#[]⟩:ByteArray).toList)))=false:=by rw[z2k];exact hb3
     have hb5:(k==0&&(m==0&&s.toList.isEmpty))=false:=by rw[show s.toList.isEmpty=(s.toList==([]:List UInt8)) by cases s.toList <;> rfl];exact hb3
     clear hb3;go_enter Tryz.func70,Tryz.ntmps70
     go_wp2_with fail
     refine(HV.out _).mono ?_;rintro e w1 ⟨rfl,hb⟩;obtain⟨nd,rfl⟩:=hb;go_wp2
     go_ret
     exact⟨by rw[HE.out];rfl,z04 HB.out nd⟩
theorem varL_len {l:List UInt8} (h:varL l=true):l.length≤40:=by
 cases l with
 |nil=>simp
 |cons c r =>
  unfold varL at h;rw[Bool.and_eq_true]at h;exact of_decide_eq_true h.1
theorem z27 (t:TmS) (h:okT t):(termL t).length≤40:=by
 unfold termL
 split
 · exact ze9 _ _ _ h.1
 · split
   · rename_i hv
     split
     · exact varL_len hv
     · simp
   · simp
theorem z84 {s:ByteArray} (h:predN s=true):s.size≤40:=by
 unfold predN nmL at h;rw[Bool.and_eq_true]at h;have:=h.1;unfold nameB at this;rw[Bool.and_eq_true]at this;have:=of_decide_eq_true this.1;exact this.2
theorem z9z (s:ByteArray):z2f.f 42 s=some (predN s):=by
 unfold z2f.f predN;rw[z5k s 42 (Nat.le_refl _),z61];simp only[Option.bind_some];have e:nmL s.data.toList=nameB s:=rfl;rw[e]
 cases nameB s <;> rfl
theorem zgb (f:Int) (b:Bool) (t:TmS) (h:okT t):(argL f b t).length≤100:=by
 have h1:=z27 t h;have h2:(foldW f).length≤5:=by
  unfold foldW
  repeat' split
  all_goals simp
 unfold argL
 split
 · omega
 · split
   · simp
   · simp only[List.length_append,List.length_cons,List.length_nil];omega
theorem rd_ok {xs:List S60} (h:∀x ∈ xs,okT x) (i:Int):okT (z1i xs i):=by
 unfold z1i;rw[List.getD_eq_getElem?_getD]
 cases hg:xs[i.toNat]? with
 |none=>exact⟨⟨by decide,by decide⟩,by decide⟩
 |some y=>exact h y (List.mem_of_getElem? hg)
def argG (f:Int) (xs:List TmS) (i:Nat):List UInt8:=argL f (decide ((i:Int)=(xs.length:Int) - 1)) (z1i xs (i:Int))
theorem ze6 (f:Int):∀(xs:List TmS) (i:Nat),i<xs.length→(argsL f xs)[i]?=some (argG f xs i)
 |[],i,h=>by simp at h
 |[t],i,h=>by
  have:i=0:=by simp at h;omega
  subst this;rfl
 |t::u::r,0,h=>by
  show some _=some _
  congr 1
  unfold argG;rw[decide_eq_false (by simp;omega)];rfl
 |t::u::r,i+1,h=>by
  have ih:=ze6 f (u::r) i (by simpa using h);show(argsL f (u::r))[i]?=_;rw[ih]
  congr 1
  unfold argG;have e1:z1i (t::u::r) ((i+1:Nat):Int)=z1i (u::r) (i:Int):=by
   unfold z1i;rw[show((i+1:Nat):Int).toNat=i+1 by omega,show(i:Int).toNat=i by omega];rfl
  rw[e1]
  congr 1
  simp only[List.length_cons]
  congr 1
  simp
theorem z63 (f:Int):∀xs:List TmS,(argsL f xs).length=xs.length
 |[]=>rfl
 |[t]=>rfl
 |t::u::r=>by
  show(argsL f (u::r)).length+1=_;rw[z63 f (u::r)];rfl
theorem zaa (f:Int) (xs:List TmS):(List.range xs.length).map (argG f xs)=argsL f xs:=by
 apply List.ext_getElem?;intro i
 by_cases h:i<xs.length
 · rw[ze6 f xs i h,List.getElem?_map,List.getElem?_range h];rfl
 · rw[List.getElem?_eq_none (by simp;omega),List.getElem?_eq_none (by rw[z63];omega)]
theorem zks (f:Int) (xs:List TmS) (sep:List UInt8):eachG (argG f xs) xs.length sep=eachL (argsL f xs) sep:=by unfold eachG;rw[zaa]
theorem z6d {a b:ByteArray} (h:a=b):Ending.returned (.string a)=.returned (.string b):=by rw[h]
theorem zhi:∀(f:Nat),f≤5→∀w:World,(Instr.index 115 (.agg #[.string ⟨#[]⟩,.string ⟨#[99,111,117,110,116]⟩,.string ⟨#[115,117,109]⟩,.string ⟨#[109,105,110]⟩,.string ⟨#[109,97,120]⟩,.string ⟨#[109,101,97,110]⟩]) (.int .i64 f)).run Tryz.prog w=.ok (.string (baL (foldW f))) w
 |0,_=>fun _=>by kernel_rfl
 |1,_=>fun _=>by kernel_rfl
 |2,_=>fun _=>by kernel_rfl
 |3,_=>fun _=>by kernel_rfl
 |4,_=>fun _=>by kernel_rfl
 |5,_=>fun _=>by kernel_rfl
 |n+6,h=>by omega
set_option maxHeartbeats 4000000 in
set_option maxRecDepth 100000 in
theorem zew (t:TmS) (f:Nat) (hf:f≤5) (i last:Int) (b3 b5:Nat) (w:World) (hLW:LaidW w) (ht:okT t) (h3:w.heap[b3]?=some (.cells #[.int .i64 f] 3 (0,0))) (h5:w.heap[b5]?=some (.cells #[.int .i64 last] 3 (0,0))) :
 Calls Tryz.prog 69 #[.int .i64 i,.agg #[.string t.f0,.int .i64 t.f1.f0,.int .i64 t.f1.f1,.string t.f1.f2],.pointer (some ⟨b3,0,none⟩),.pointer (some ⟨b5,0,none⟩)] w fun e w'=>e=.returned (.string (baL (argL f (decide (i=last)) t)))∧Below w.heap.size w w':=by
 have hl:=z27 t ht;have HT:=z00.mk (fun W (hW:LaidW W)=>z2b t W hW ht);obtain⟨s,hs⟩:∃s,termL t=s:=⟨_,rfl⟩
 rw[hs]at HT hl;have HE:=z00.mk (show argL f (decide (i=last)) t=if(f:Int)=0∨decide (i=last)=false then s else if t.f0.data.toList=[]∨s=[]then[]else foldW f++([40]++(s++[41])) by unfold argL;rw[hs]);obtain⟨d,hd⟩:∃d,decide (i=last)=d:=⟨_,rfl⟩
 rw[hd]at HE ⊢;have HD:=z00.mk hd;clear hd;obtain⟨v,⟨k,m,z⟩⟩:=t;have hB:=z03 (Below.refl w.heap.size w) (.cells #[.string v,.int .i64 k,.int .i64 m,.string z] 60);obtain⟨n,en⟩:∃n,w.heap.size=n:=⟨_,rfl⟩
 have hN:=fun w1 (h:Below (w.alloc (.cells #[.string v,.int .i64 k,.int .i64 m,.string z] 60)).heap.size (w.alloc (.cells #[.string v,.int .i64 k,.int .i64 m,.string z] 60)) w1)=>zhe en h
 have HN:=z00.mk hN;have HB:=z00.mk hB;have HLW:=z00.mk (hLW.below hB);have H3:=z00.mk (z0b h3 hB);have H5:=z00.mk (z0b h5 hB);have hfs:(foldW f).length≤5:=by
  unfold foldW
  repeat' split
  all_goals simp
 have HW:=z00.mk (zhi f hf);clear hN hB hLW h3 h5 ht hs;go_enter Tryz.func69,Tryz.ntmps69
 go_wp2_with fail
 refine(HT.out _ HLW.out).mono ?_;rintro e w1 ⟨rfl,hb⟩;have HB1:=z00.mk (z09 HB.out HB.out.size hb);have g3:=z0b H3.out hb;have g5:=z0b H5.out hb;have hN1:=HN.out w1 hb;have hc3:w1.cell? ⟨b3,0,none⟩=some (.int .i64 f):=(z01 g3 0).trans rfl;have hc5:w1.cell? ⟨b5,0,none⟩=some (.int .i64 last):=(z01 g5 0).trans rfl;have hv:w1.cell? ⟨n,0,none⟩=some (.string v):=(z01 hN1 0).trans rfl;clear hb g3 g5 hN1
 by_cases hf0:f=0
 · subst hf0;have HE2:=z00.mk (HE.out.trans (if_pos (Or.inl rfl)));clear HE;go_wp2
   go_ret
   exact⟨by rw[HE2.out];rfl,HB1.out⟩
 · have e1:((f:Int)==0)=false:=beq_eq_false_iff_ne.2 (by omega);have e2:(f==0)=false:=beq_eq_false_iff_ne.2 hf0
   by_cases hil:i=last
   · obtain rfl:true=d:=by rw[←HD.out,decide_eq_true hil]
     have e0:(i==last)=true:=beq_iff_eq.2 hil;have e01:(i !=last)=false:=bne_eq_false_iff_eq.2 hil;clear hil;have HE1:=z00.mk (HE.out.trans (if_neg (by rintro(h|h);exact hf0 (by omega);cases h)));clear HE
     by_cases hv0:v.data.toList=[]
     · have e3:(v.toList==([]:List UInt8))=true:=by rw[beq_iff_eq,z2y];exact hv0
       have e4:(v.toList==(⟨#[]⟩:ByteArray).toList)=true:=by rw[z2k];exact e3
       have HE2:=z00.mk (HE1.out.trans (if_pos (Or.inl hv0)));clear HE1 hv0;go_wp2
       go_ret
       exact⟨by rw[HE2.out];rfl,HB1.out⟩
     · have e3:(v.toList==([]:List UInt8))=false:=by rw[beq_eq_false_iff_ne,z2y];exact hv0
       have e4:(v.toList==(⟨#[]⟩:ByteArray).toList)=false:=by rw[z2k];exact e3
       obtain⟨b,hbE⟩:∃b,baL s=b:=⟨_,rfl⟩
       rw[hbE]
       by_cases hs0:s=[]
       · have e5:(b.toList==([]:List UInt8))=true:=by rw[←hbE,hs0,z1d];exact beq_self_eq_true _
         have e6:(b.toList==(⟨#[]⟩:ByteArray).toList)=true:=by rw[←hbE,hs0];exact beq_self_eq_true _
         have HE2:=z00.mk (HE1.out.trans (if_pos (Or.inr hs0)));clear HE1 hv0 hs0 hbE;go_wp2
         go_ret
         exact⟨by rw[HE2.out];rfl,HB1.out⟩
       · have e5:(b.toList==([]:List UInt8))=false:=by rw[beq_eq_false_iff_ne,←hbE,z1d];exact hs0
         have e6:(b.toList==(⟨#[]⟩:ByteArray).toList)=false:=by rw[beq_eq_false_iff_ne,←hbE,z1d];exact fun h=>hs0 (h.trans z2k)
         have HE2:=z00.mk (HE1.out.trans (if_neg (by rintro(h|h);exact hv0 h;exact hs0 h)));have HBE:=z00.mk hbE;have hbs:b.size≤40:=by rw[←hbE];simpa [ByteArray.size] using hl
         obtain⟨q,hq⟩:∃q,baL (foldW f)=q:=⟨_,rfl⟩
         have hqs:q.size≤5:=by rw[←hq];simpa [ByteArray.size] using hfs
         have hw:=HW.out;rw[hq]at hw;have HQ:=z00.mk hq;clear HE1 hv0 hs0 hbE hq HW hl hfs;go_wp2
         go_ret
         exact⟨by rw[HE2.out,←HBE.out,←HQ.out];exact z6d (ba_eq (by simp)),HB1.out⟩
   · have e3:(i==last)=false:=beq_eq_false_iff_ne.2 hil;have e4:(i !=last)=true:=bne_iff_ne.2 hil;obtain rfl:false=d:=by rw[←HD.out,decide_eq_false hil]
     have HE1:=z00.mk (HE.out.trans (if_pos (Or.inr rfl)));clear HE;go_wp2
     go_ret
     exact⟨by rw[HE1.out];rfl,HB1.out⟩
end Go.Proofs.YthebhbomlllpeaaGreatDoor.X
namespace Go.Proofs.YthebhbomlllpeaaGreatDoor.X
open Go.RowKit Go.Proofs.YthebhbomlllpeaaGreatDoorW.PrintWords Go.Proofs.YthebhbomlllpeaaGreatDoorW.PrintLast Go.Proofs.YthebhbomlllpeaaGreatDoorW.PrintMore
def okA (a:AtS):Prop:=(∀x ∈ a.f1,okT x)∧a.f1.length≤1000
theorem blocks3v (w:World) (o0 o1 o2:Obj):(((w.alloc o0).alloc o1).alloc o2).heap[w.heap.size]?=some o0∧(((w.alloc o0).alloc o1).alloc o2).heap[w.heap.size+1]?=some o1∧(((w.alloc o0).alloc o1).alloc o2).heap[w.heap.size+2]?=some o2:=by
 have z1:(w.alloc o0).heap.size=w.heap.size+1:=by simp
 have z2:((w.alloc o0).alloc o1).heap.size=w.heap.size+2:=by simp
 refine⟨z0c (z0c (z0q w o0) _) _,?_,?_⟩
 · have:=z0q (w.alloc o0) o1;rw[z1]at this;exact z0c this _
 · have:=z0q ((w.alloc o0).alloc o1) o2
   rwa [z2]at this
theorem zgo (f:Int) (xs:List TmS) (h:∀x ∈ xs,okT x):∀x ∈ argsL f xs,x.length≤100:=fun x hx=>by
 rw[←zaa]at hx;obtain⟨i,_,rfl⟩:=List.mem_map.1 hx;exact zgb _ _ _ (rd_ok h _)
theorem z9g {ws:List (List UInt8)} {sep:List UInt8} {m:Nat} (h:∀x ∈ ws,x.length≤m):(eachL ws sep).1.length≤ws.length * (m+sep.length):=by
 unfold eachL
 split
 · simp
 · exact zfx ws sep m h
theorem z5j (a:AtS) (f:Int) (h:okA a):(headL a f).length≤200000:=by
 have h1:(eachL (argsL f a.f1) [44,32]).1.length≤1000 * 102:=Nat.le_trans (z9g (zgo f a.f1 h.1)) (by rw[z63];exact Nat.mul_le_mul h.2 (by simp));unfold headL
 split
 · simp
 · rename_i hc;have hp:a.f0.size≤40:=z84 (by
    cases hb:predN a.f0 with
    |true=>rfl
    |false=>exact absurd (Or.inr (Or.inl hb)) hc)
   split
   · rw[z0i];omega
   · simp only[List.length_append,List.length_cons,List.length_nil,z0i];omega
set_option maxHeartbeats 4000000 in
set_option maxRecDepth 100000 in
theorem zbp (a:AtS) (A:Option Addr) (c:Nat) (f:Nat) (hf:f≤5) (w:World) (hLW:LaidW w) (hC:Kd.C k60 w A a.f1.length a.f1) (ha:okA a) :
 Calls Tryz.prog 42 #[.agg #[.string a.f0,.slice A a.f1.length c],.int .i64 f] w fun e w'=>e=.returned (.string (baL (headL a f)))∧Below w.heap.size w w':=by
 obtain⟨p,xs⟩:=a;have hlen:xs.length≤1000:=ha.2;obtain⟨n,en⟩:∃n,w.heap.size=n:=⟨_,rfl⟩
 obtain⟨last,hlast⟩:∃l:Int,(xs.length:Int) - 1=l:=⟨_,rfl⟩
 have hz1:(w.alloc (.cells #[.string p,.slice A xs.length c] 25)).heap.size=n+1:=by simp[en]
 have hz2:((w.alloc (.cells #[.string p,.slice A xs.length c] 25)).alloc (.cells #[.int .i64 f] 3)).heap.size=n+2:=by simp[en]
 have hb:=blocks3v w (.cells #[.string p,.slice A xs.length c] 25) (.cells #[.int .i64 f] 3) (.cells #[.int .i64 last] 3);rw[en]at hb;obtain⟨W,hW⟩:∃W,((w.alloc (.cells #[.string p,.slice A xs.length c] 25)).alloc (.cells #[.int .i64 f] 3)).alloc (.cells #[.int .i64 last] 3)=W:=⟨_,rfl⟩
 have hBW:Below w.heap.size w W:=hW ▸ z03 (z03 (z03 (Below.refl _ _) _) _) _;rw[hW]at hb;have HP:=z00.mk (zfh W A c xs (.pointer (some ⟨n+1,0,none⟩)) (.pointer (some ⟨n+2,0,none⟩)) (argG f xs) ⟨#[44,32]⟩ (by decide) (Kd.C_below hC hBW) hlen (fun i=>Nat.le_trans (zgb _ _ _ (rd_ok ha.1 _)) (by decide)) (fun V i hi hV=>by
  have:=zew (z1i xs i) f hf (i:Int) ((xs.length:Int) - 1) (n+1) (n+2) V (hLW.below (z09 hBW hBW.size hV)) (rd_ok ha.1 _) (z0b hb.2.1 hV) (by rw[hlast];exact z0b hb.2.2 hV);exact this))
 have hs1:(eachL (argsL f xs) [44,32]).1.length≤1000 * 102:=Nat.le_trans (z9g (zgo f xs ha.1)) (by rw[z63];exact Nat.mul_le_mul hlen (by simp));rw[zks,show(⟨#[44,32]⟩:ByteArray).data.toList=[44,32]from rfl]at HP;have HE:=z00.mk (show headL ⟨p,xs⟩ f=if(eachL (argsL f xs) [44,32]).2=false∨predN p=false∨8<xs.length∨(0<(f:Int)∧xs=[])then[]else if xs=[]then p.data.toList else p.data.toList++([40]++((eachL (argsL f xs) [44,32]).1++[41]))from rfl);obtain⟨⟨s,ok⟩,hso⟩:∃x,eachL (argsL f xs) [44,32]=x:=⟨_,rfl⟩
 rw[hso]at HP HE hs1;have HPR:=z00.mk (fun V=>z2f.calls 42 p (predN p) V (z9z p));have HPL:=z00.mk (fun(h:predN p=true)=>z84 h);obtain⟨pr,hpr⟩:∃b,predN p=b:=⟨_,rfl⟩
 rw[hpr]at HPR HE HPL;have HB:=z00.mk (And.intro hb hBW);have HW:=z00.mk hW;have HLS:=z00.mk hlast;have hmf:∀(fn:Fn) (first cap:Array Value) (w:World),(Instr.makeFunc fn first cap).run Tryz.prog w=.ok (.func fn first cap) w:=fun _ _ _ _=>rfl
 have hll:-1≤last∧last≤1000:=by omega
 clear hC ha hso hpr hb hBW hW hLW;go_enter Tryz.func42,Tryz.ntmps42
 go_wp2_with fail
 rw[HW.out];refine HP.out.mono ?_;rintro e w1 ⟨rfl,hb⟩;have HB1:=z00.mk (z09 HB.out.2 HB.out.2.size hb);have g0:=z0b HB.out.1.1 hb;have g1:=z0b HB.out.1.2.1 hb;have g2:=z0b HB.out.1.2.2 hb;have hc0:w1.cell? ⟨n,0,none⟩=some (.string p):=(z01 g0 0).trans rfl;have hc1:w1.cell? ⟨n,1,none⟩=some (.slice A xs.length c):=(z01 g0 1).trans rfl;have hc3:w1.cell? ⟨n+1,0,none⟩=some (.int .i64 f):=(z01 g1 0).trans rfl;have hc5:w1.cell? ⟨n+2,0,none⟩=some (.int .i64 last):=(z01 g2 0).trans rfl;clear hb g0 g1 g2 HB HW HP
 cases ok with
 |false =>
  have HE2:=z00.mk (HE.out.trans (if_pos (Or.inl rfl)));clear HE;go_wp2
  go_ret
  exact⟨by rw[HE2.out];rfl,HB1.out⟩
 |true =>
  cases pr with
  |false =>
   have HE2:=z00.mk (HE.out.trans (if_pos (Or.inr (Or.inl rfl))));clear HE
   go_wp2_with fail
   refine(HPR.out _).mono ?_;rintro e w2 ⟨rfl,nd,rfl⟩;go_wp2
   go_ret
   exact⟨by rw[HE2.out];rfl,z04 HB1.out nd⟩
  |true =>
   have hpl:=HPL.out rfl;clear HPL;have HE1:=z00.mk HE.out;clear HE
   go_wp2_with fail
   refine(HPR.out _).mono ?_;rintro e w2 ⟨rfl,nd,rfl⟩;have HB2:=z00.mk (z04 HB1.out nd);replace hc0:(w1.drewN nd).cell? ⟨n,0,none⟩=some (.string p):=hc0;replace hc1:(w1.drewN nd).cell? ⟨n,1,none⟩=some (.slice A xs.length c):=hc1;replace hc3:(w1.drewN nd).cell? ⟨n+1,0,none⟩=some (.int .i64 f):=hc3;replace hc5:(w1.drewN nd).cell? ⟨n+2,0,none⟩=some (.int .i64 last):=hc5
   generalize w1.drewN nd=w2 at HB2 hc0 hc1 hc3 hc5 ⊢
   by_cases h8:8<xs.length
   · have e1:decide ((8:Int)<(xs.length:Int))=true:=decide_eq_true (by omega);have e2:decide (8<xs.length)=true:=decide_eq_true h8;have HE2:=z00.mk (HE1.out.trans (if_pos (Or.inr (Or.inr (Or.inl h8)))));clear HE1;go_wp2
     go_ret
     exact⟨by rw[HE2.out];rfl,HB2.out⟩
   · have e1:decide ((8:Int)<(xs.length:Int))=false:=decide_eq_false (by omega);have e2:decide (8<xs.length)=false:=decide_eq_false h8
     by_cases hx:xs=[]
     · have hl0:last=-1:=by rw[←HLS.out,hx];rfl
       have e3:decide (last<0)=true:=decide_eq_true (by omega)
       by_cases h0:0<f
       · have e4:decide ((0:Int)<(f:Int))=true:=decide_eq_true (by omega);have e5:decide (0<f)=true:=decide_eq_true h0;have HE2:=z00.mk (HE1.out.trans (if_pos (Or.inr (Or.inr (Or.inr ⟨by omega,hx⟩)))));clear HE1 hl0 hx;go_wp2
         go_ret
         exact⟨by rw[HE2.out];rfl,HB2.out⟩
       · have e4:decide ((0:Int)<(f:Int))=false:=decide_eq_false (by omega);have e5:decide (0<f)=false:=decide_eq_false h0;have HE2:=z00.mk ((HE1.out.trans (if_neg (by rintro(h|h|h|h);cases h;cases h;exact h8 h;exact h0 (by omega)))).trans (if_pos hx));clear HE1 hl0 hx;go_wp2
         go_ret
         exact⟨by rw[HE2.out];exact z6d (ba_eq rfl),HB2.out⟩
     · have hl0:0≤last:=by
        have:xs.length≠0:=fun h=>hx (List.length_eq_zero_iff.1 h)
        have:=HLS.out;omega
       have e3:decide (last<0)=false:=decide_eq_false (by omega);have HE2:=z00.mk ((HE1.out.trans (if_neg (by rintro(h|h|h|h);cases h;cases h;exact h8 h;exact hx h.2))).trans (if_neg hx));have hss:(baL s).size≤102000:=by simpa [ByteArray.size] using hs1
       obtain⟨b,hbE⟩:∃b,baL s=b:=⟨_,rfl⟩
       rw[hbE]at hss ⊢;have HBE:=z00.mk hbE;clear HE1 hx hbE hs1
       by_cases h0:0<f
       · have e4:decide ((0:Int)<(f:Int))=true:=decide_eq_true (by omega);have e5:decide (0<f)=true:=decide_eq_true h0;go_wp2
         go_ret
         exact⟨by rw[HE2.out,←HBE.out];exact z6d (ba_eq (by simp)),HB2.out⟩
       · have e4:decide ((0:Int)<(f:Int))=false:=decide_eq_false (by omega);have e5:decide (0<f)=false:=decide_eq_false h0;go_wp2
         go_ret
         exact⟨by rw[HE2.out,←HBE.out];exact z6d (ba_eq (by simp)),HB2.out⟩
set_option maxHeartbeats 4000000 in
set_option maxRecDepth 100000 in
theorem z4v (a:AtS) (A:Option Addr) (c:Nat) (w:World) (hLW:LaidW w) (hC:Kd.C k60 w A a.f1.length a.f1) (ha:okA a) :
 Calls Tryz.prog 23 #[.agg #[.string a.f0,.slice A a.f1.length c]] w fun e w'=>e=.returned (.string (baL (atomL a)))∧Below w.heap.size w w':=by
 have hB:=z03 (Below.refl w.heap.size w) (.cells #[.string a.f0,.slice A a.f1.length c] 25);have HP:=z00.mk (zbp a A c 0 (by decide) _ (hLW.below hB) (Kd.C_below hC hB) ha);have HB:=z00.mk hB;clear hC ha hB hLW;unfold atomL;go_enter Tryz.func23,Tryz.ntmps23
 go_wp2_with fail
 refine HP.out.mono ?_;rintro e w1 ⟨rfl,hb⟩;have HB1:=z00.mk (z09 HB.out HB.out.size hb);clear hb;go_wp2
 go_ret
 exact⟨rfl,HB1.out⟩

theorem ze2 {α:Type} {d:Kd α} {W:World} {A:Option Addr} {xs:List α} (h:Kd.C d W A xs.length xs) (z:α) (hs:0<d.sz) (i:Nat) (hi:i<xs.length) :
 ∃bk o cs,A=some ⟨bk,o,none⟩∧cs.length=d.sz∧d.K W (xs.getD i z) cs∧W.rangeAt bk (o+i * d.sz) cs:=by
 obtain⟨⟨bk,o,sub⟩,cs,rfl,hl,hK,hc⟩:=Kd.C_get h z (i:Int) (by omega) (by omega);rw[Int.toNat_natCast]at hK hc;obtain⟨ad,he,hh⟩:=h.2.2 (by omega);injection he with he
 subst he;obtain⟨c0,hl0,_,hc0⟩:=hh 0 xs[0] (List.getElem?_eq_getElem (by omega));have h0:=hc0 0 c0[0] (List.getElem?_eq_getElem (by omega));rw[Nat.zero_mul]at h0;have hsub:sub=none:=by
  cases sub with
  |none=>rfl
  |some s =>
   exfalso
   unfold Addr.add at h0
   revert h0
   unfold World.cell?
   simp
   split <;> simp
 subst hsub;refine⟨bk,o,cs,rfl,hl,hK,fun j v hj=>?_⟩;have:=hc j v hj;rw[Addr.add_mid]at this;rw[←Nat.add_assoc]at this;exact this
theorem zbg:∀(vs:List Value) (cs:Array Value) (i:Nat),i+vs.length=cs.size→(setsA cs i vs).toList=cs.toList.take i++vs
 |[],cs,i,h=>by
  simp only[setsA,List.append_nil];rw[List.take_of_length_le (by rw[List.length_nil]at h;simp;omega)]
 |v::vs,cs,i,h=>by
  simp only[setsA];rw[zbg vs _ (i+1) (by simp at h ⊢;omega)];have hi:i<cs.size:=by simp at h;omega
  have hi2:i<cs.toList.length:=by simpa using hi
  rw[Array.toList_setIfInBounds,List.take_set,List.take_succ_eq_append_getElem hi2];have hl:(cs.toList.take i).length=i:=by rw[List.length_take];omega
  rw[List.set_append_right _ _ (by omega),hl]
  simp
theorem z8d {vs:List Value} {cs:Array Value} (h:vs.length=cs.size):setsA cs 0 vs=vs.toArray:=by
 have:=zbg vs cs 0 (by omega);rw[List.take_zero,List.nil_append]at this;apply Array.toList_inj.1;rw[this]
set_option maxHeartbeats 4000000 in
set_option maxRecDepth 100000 in
theorem zep (w:World) (A:Option Addr) (c:Nat) (xs:List S62) (g:Nat→List UInt8) (sep:ByteArray) (hsep:sep.size≤2) (hC:Kd.C k62 w A xs.length xs) (hn:xs.length≤1000) (hg:∀i,(g i).length≤100000000)
 (hby:∀(W:World) (i:Nat) (cs:List Value),i<xs.length→Below w.heap.size w W→k62.K W (xs.getD i z62) cs→Calls Tryz.prog 44 #[.int .i64 i,.agg cs.toArray] W fun e W'=>e=.returned (.string (baL (g i)))∧Below W.heap.size W W') :
 Calls Tryz.prog 43 #[.slice A xs.length c,.func (.func 44) #[] #[],.string sep] w fun e w'=>e=.returned (.tuple #[.string (baL (eachG g xs.length sep.data.toList).1),.bool (eachG g xs.length sep.data.toList).2])∧Below w.heap.size w w':=by
 have HC:=z00.mk hC;have HBY:=z00.mk hby;have HG:=z00.mk (And.intro hg hsep);have HR:=z00.mk (Kd.R_nil Kd.string 9 w w.heap.size (fun k=>w.heap.size≤k));have HB:=z00.mk (Below.refl w.heap.size w);clear hC hby hg hsep;go_enter Tryz.func43,Tryz.ntmps43;go_wp2
 go_loopg [8,14] (xs.length+1) (fun kq v8 v14 w'=>∃(i:Nat),v14=.int .i64 i∧kq+i=xs.length+1∧i≤xs.length∧z00 (∀j,j<i→g j≠[])∧z00 (Kd.R Kd.string 9 w' w.heap.size (fun k=>w.heap.size≤k) v8 ((List.range i).map (fun j=>baL (g j))))∧z00 (Below w.heap.size w w'))
 case atStart=>exact⟨0,rfl,by omega,by omega,⟨fun j hj=>by omega⟩,HR,HB⟩
 case round =>
  clear HR HB;obtain⟨i,rfl,hk,hi,HE,HV,HB⟩:=hrel
  by_cases hlt:i<xs.length
  · have hz:decide ((i:Int)<(xs.length:Int))=true:=decide_eq_true (by omega);have hz2:decide (i<xs.length)=true:=decide_eq_true hlt;obtain⟨k1,rfl⟩:∃k1,gk=k1+1:=⟨gk - 1,by omega⟩
    obtain⟨bk,o,cs,rfl,hcl,hK,hcell⟩:=ze2 (Kd.C_below HC.out HB.out) z62 (by decide) i hlt;have hcl:cs.length=17:=hcl;have hrg:wr.rangeAt bk (o+i * 17) cs:=hcell;have h1c:=k62.K_one hK;have HK:=z00.mk (And.intro hK (And.intro hrg (And.intro hcl h1c)));obtain⟨n,en⟩:∃n,wr.heap.size=n:=⟨_,rfl⟩
    have hN:=z0q wr (.cells zLit 62);rw[en]at hN;have HN:=z00.mk hN;have HBA:=z00.mk (z03 HB.out (.cells zLit 62));have HNB:=z00.mk (show w.heap.size≤n by rw[←en];exact HB.out.size);have HRG:=z00.mk (show(sets (wr.alloc (.cells zLit 62)) n 0 cs).rangeAt n 0 cs from by
     have h1:=z71 (z34 cs 0 _ _ hN)
     rwa [z8d (hcl.trans (by kernel_rfl)),List.toList_toArray]at h1)
    have hBW:Below wr.heap.size wr (sets (wr.alloc (.cells zLit 62)) n 0 cs):=z2u (w0:=wr) (by omega) cs 0 _ (z03 (Below.refl _ _) _);have HBW:=z00.mk hBW;clear hK hrg hcl h1c hcell hN hBW
    go_wp2_with (first|((with_reducible refine z1r (N:=18) rfl ?_);refine wpList_load_mid rfl 62 (.tmp 17) rfl bk (o+i * 17) rfl cs _ HK.out.2.1 Tryz.underlying62 rfl (by rw[HK.out.2.2.1];kernel_rfl) ?_)|((with_reducible refine z3v (t:=62) (p:=10) (v:=.tmp 18) rfl ?_);refine wpList_store_mid rfl 62 (.tmp 10) (.tmp 18) rfl n 0 cs.toArray rfl rfl (z4u HN.out (by rw[List.size_toArray,HK.out.2.2.1];exact Nat.le_of_eq (by kernel_rfl))) (by rw[List.size_toArray,HK.out.2.2.1];kernel_rfl) (all_oneCell_toArray HK.out.2.2.2) ?_;rw[z2p,List.toList_toArray])|((with_reducible refine z1r (N:=21) rfl ?_);refine wpList_load_mid rfl 62 (.tmp 10) rfl n 0 rfl cs _ HRG.out Tryz.underlying62 rfl (by rw[HK.out.2.2.1];kernel_rfl) ?_))
    have HCB:=z00.mk (z09 HB.out HB.out.size HBW.out);refine(HBY.out _ i cs hlt HCB.out (k62.K_below HBW.out HK.out.1)).mono ?_;rintro e w1 ⟨rfl,hb⟩;have hb1:=z09 HBW.out HBW.out.size hb;have HB1:=z00.mk (z09 HB.out HB.out.size hb1);have HV1:=z00.mk (Kd.R_below HV.out hb1);clear hb hb1;obtain⟨b,hbE⟩:∃b,baL (g i)=b:=⟨_,rfl⟩
    by_cases he:g i=[]
    · have e1:(b.toList==([]:List UInt8))=true:=by rw[←hbE,he,z1d];exact beq_self_eq_true _
      have e2:(b.toList==(⟨#[]⟩:ByteArray).toList)=true:=by rw[←hbE,he];exact beq_self_eq_true _
      have HE:=z00.mk (zc9 (sep:=sep.data.toList) hlt he);clear he;rw[hbE];clear hbE;go_wp2
      go_ret2
      rw[HE.out];exact⟨rfl,HB1.out⟩
    · have e1:(b.toList==([]:List UInt8))=false:=by rw[beq_eq_false_iff_ne,←hbE,z1d];exact he
      have e2:(b.toList==(⟨#[]⟩:ByteArray).toList)=false:=by rw[beq_eq_false_iff_ne,←hbE,z1d];exact fun h=>he (h.trans z2k)
      have HBE:=z00.mk (And.intro hbE he);obtain⟨A8,c8,rfl⟩:=Kd.R_slice HV1.out;have HL:z00 (((List.range i).map fun j=>baL (g j)).length≤1000):=⟨by rw[List.length_map,List.length_range];omega⟩
      rw[hbE];clear hbE he;obtain⟨L,hL⟩:∃L,((List.range i).map fun j=>baL (g j))=L:=⟨_,rfl⟩
      rw[hL]at HV1 HL;rw[hL];have HLE:=z00.mk hL;clear hL
      go_wp2_with ((with_reducible refine z1p (b:=.append) (xs:=#[.tmp 25,.tmp 27]) rfl ?_);at_builtin;refine Kd.R_append Kd.string (w0:=w) w.heap.size rfl (.tmp 25) (.tmp 27) 54 9 (.string ⟨#[]⟩) 16 rfl Tryz.underlying54 zke rfl (by decide) (by decide) (.slice A8 L.length c8) L b [.string b] (fun k=>w.heap.size≤k) (fun _=>False) rfl zA0i rfl (fun _ hk=>hk.elim) (fun k hk=>Nat.le_trans HB1.out.size hk) HV1.out HB1.out HB1.out.size (by have:=HL.out;omega) ?_;intro v1 w2 ho hb hg hat;have HV2:=z00.mk ho;have HB2:=z00.mk hb;clear ho hb hg hat)
      go_roundg k1
      case rel=>exact⟨i+1,by go_num,by omega,by omega,⟨fun j hj=>by rcases Nat.lt_succ_iff_lt_or_eq.1 hj with h|h;exact HE.out j h;exact h ▸ HBE.out.2⟩,⟨by rw[z91,HBE.out.1,HLE.out];exact HV2.out⟩,HB2⟩
      case measure=>omega
  · obtain rfl:i=xs.length:=by omega
    have hz:decide ((xs.length:Int)<(xs.length:Int))=false:=decide_eq_false (by omega);obtain⟨A8,c8,rfl⟩:=Kd.R_slice HV.out;have hj:=z8s sep HV.out (by rw[z5m];exact z8t HG.out.1 HG.out.2 hn) (by rw[List.length_map,List.length_range];exact hn);rw[z5m]at hj;obtain⟨L,hL⟩:∃L,((List.range xs.length).map fun j=>baL (g j))=L:=⟨_,rfl⟩
    rw[hL]at hj ⊢;clear HV hL;have HJ:=z00.mk hj;have HE2:=z00.mk (z9y (sep:=sep.data.toList) HE.out);clear hj
    go_wp2_with fail
    refine HJ.out.mono ?_;rintro e w1 ⟨rfl,hb⟩;have HB1:=z00.mk (z09 HB.out HB.out.size hb);clear hb;go_wp2
    go_ret2
    rw[HE2.out];exact⟨rfl,HB1.out⟩

abbrev kP:Kd (ByteArray × Int):=Kd.pair Kd.string (Kd.int .i64)
theorem kP_open {w:World} {x:ByteArray × Int} {cs:List Value} (h:kP.K w x cs):cs=[.string x.1,.int .i64 x.2]:=by
 obtain⟨_,_,rfl,rfl,rfl⟩:=h;rfl
theorem zbb (w:World) (base:Nat) (ok:Nat→Prop) (x:ByteArray × Int):kP.M w base ok x [.string x.1,.int .i64 x.2]:=⟨[.string x.1],[.int .i64 x.2],rfl,rfl,rfl⟩
theorem infoP:(Tryz.prog.info? 85).map (fun i=>(i.zero,i.size,i.bytes))=some (some (.agg #[(.string ⟨#[]⟩),(.int .i64 0)]),2,24):=by kernel_rfl
def memS (st:List Pc):List (ByteArray × Int):=(st.map fun p=>(baL p.1,p.2)).reverse
theorem z6k (p:Pc) (st:List Pc):memS (p::st)=memS st++[(baL p.1,p.2)]:=by simp[memS]
theorem z2o (st:List Pc):(memS st).length=st.length:=by simp[memS]
theorem z7x (a:List Pc) (p:Pc) (st:List Pc):(memS (a++p::st))[st.length]?=some (baL p.1,p.2):=by
 simp only[memS,List.map_append,List.map_cons,List.reverse_append,List.reverse_cons,List.append_assoc];rw[List.getElem?_append_right (by simp)]
 simp
theorem at_P {W:World} {A:Option Addr} {xs:List (ByteArray × Int)} (h:Kd.C kP W A xs.length xs) (i:Nat) (x:ByteArray × Int) (hi:xs[i]?=some x) :
 ∃bk o,A=some ⟨bk,o,none⟩∧W.cell? ⟨bk,o+i * 2,none⟩=some (.string x.1)∧W.cell? ⟨bk,o+i * 2+1,none⟩=some (.int .i64 x.2):=by
 have hlt:i<xs.length:=(List.getElem?_eq_some_iff.1 hi).1;obtain⟨bk,o,cs,rfl,hl,hK,hr⟩:=ze2 h (⟨#[]⟩,0) (by decide) i hlt;have he:xs.getD i (⟨#[]⟩,0)=x:=by rw[List.getD_eq_getElem?_getD,hi];rfl
 rw[he]at hK;obtain rfl:=kP_open hK;exact⟨bk,o,rfl,hr 0 _ rfl,hr 1 _ rfl⟩
def wt:List Pc→Nat
 |[]=>0
 |p::st=>p.1.length+wt st
theorem zhn (x:StS):(z7c x).length≤41:=by
 unfold z7c
 split
 · rename_i h;have:=z84 h
   split
   · simp[z0i];omega
   · split
     · rw[z0i];omega
     · simp
 · simp
theorem z3o (p:Pc) (b:Int):(z1y p b).length≤p.1.length+2:=by
 unfold z1y
 split <;> simp <;> omega
theorem zac (k:Int):(markL k).length=1:=by
 unfold markL
 repeat' split
 all_goals rfl
theorem zgw {st st':List Pc} {x:StS} (h:push1 st x=some st'):wt st'≤wt st+50∧st'.length≤st.length+1:=by
 unfold push1 at h
 split at h
 · cases h
 · split at h
   · split at h
     · cases h
     · injection h with h
       subst h;have:=zhn x;simp only[wt,List.length_cons];omega
   · split at h
     · cases h
     · cases st with
       |nil=>cases h
       |cons b r =>
        simp only at h
        split at h
        · cases r with
          |nil=>cases h
          |cons a r =>
           simp only at h
           split at h
           · injection h with h
             subst h;have h1:=z3o a 2;have h2:=z3o b 3;have h3:=zac 3;simp only[wt,List.length_cons,List.length_append];omega
           · injection h with h
             subst h;have h2:=z3o b 2;have h3:=zac 4;simp only[wt,List.length_cons,List.length_append];omega
        · injection h with h
          subst h;have h2:=z3o b 3;have h3:=zac x.f0;simp only[wt,List.length_cons,List.length_append];omega
theorem z8y:∀(a b:List StS) (st:List Pc),z40 st (a++b)=(z40 st a).bind fun st=>z40 st b
 |[],b,st=>rfl
 |x::a,b,st=>by
  simp only[List.cons_append,z40]
  cases push1 st x with
  |none=>rfl
  |some st'=>exact z8y a b st'
theorem z6z:∀(l:List StS) (st st':List Pc),z40 st l=some st'→wt st'≤wt st+50 * l.length
 |[],st,st',h=>by
  injection h with h
  subst h
  simp
 |x::l,st,st',h=>by
  simp only[z40]at h
  cases hp:push1 st x with
  |none=>rw[hp]at h;cases h
  |some s1 =>
   rw[hp]at h;have h1:=(zgw hp).1;have h2:=z6z l s1 st' h;simp only[List.length_cons];omega
theorem zb3:∀(l:List StS) (st st':List Pc),z40 st l=some st'→st'.length≤st.length+l.length
 |[],st,st',h=>by
  injection h with h
  subst h
  simp
 |x::l,st,st',h=>by
  simp only[z40]at h
  cases hp:push1 st x with
  |none=>rw[hp]at h;cases h
  |some s1 =>
   rw[hp]at h;have h1:=(zgw hp).2;have h2:=zb3 l s1 st' h;simp only[List.length_cons];omega
theorem zal {st:List Pc} {p:Pc} (h:p ∈ st):p.1.length≤wt st:=by
 induction st with
 |nil=>cases h
 |cons q st ih =>
  simp only[wt];rcases List.mem_cons.1 h with rfl|h
  · omega
  · have:=ih h;omega
theorem z5u (l:List StS):(pathL l).length≤5000:=by
 unfold pathL
 split
 · simp
 · rename_i h
   split
   · rename_i p hp;have:=z6z l [] [p] hp;simp only[wt]at this
     split
     · simp
     · omega
   · simp
theorem label_f (x:StS) (h:x.f1.size≤9223372036854775807):z6n.f 42 x.f0 x.f1=some (baL (z7c x)):=by
 unfold z6n.f;rw[z9z];simp only[Option.bind_some];unfold z7c
 cases hp:predN x.f1 with
 |false=>rfl
 |true =>
  simp only[if_true]
  by_cases h2:x.f0=2
  · rw[if_pos h2,if_pos h2,if_pos (by have:=z84 hp;omega)]
    congr 1
  · rw[if_neg h2,if_neg h2]
    by_cases h1:x.f0=1
    · rw[if_pos h1,if_pos h1]
    · rw[if_neg h1,if_neg h1]
theorem z7u (p:Pc) (b:Int) (h:p.1.length≤100000):z1u.f (baL p.1) p.2 b=some (baL (z1y p b)):=by
 unfold z1u.f z1y;have hs:(baL p.1).size=p.1.length:=by simp[ByteArray.size]
 by_cases h1:p.2<b
 · rw[if_pos h1,if_pos h1,if_pos (by omega),if_pos (by omega)]
   congr 1
 · rw[if_neg h1,if_neg h1]
end Go.Proofs.YthebhbomlllpeaaGreatDoor.X
