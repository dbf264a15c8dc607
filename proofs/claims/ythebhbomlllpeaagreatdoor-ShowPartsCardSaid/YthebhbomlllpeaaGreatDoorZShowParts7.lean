/-
  ShowParts: what the proof needs, put together by a program of this session (shake.py), part 7.
-/
import Derived.Test.YthebhbomlllpeaaGreatDoorZShowParts6
set_option linter.unusedVariables false
set_option linter.unusedSimpArgs false
namespace Go.Proofs.YthebhbomlllpeaaGreatDoor.X
open Go.RowKit Go.Proofs.YthebhbomlllpeaaGreatDoorW.PrintWords Go.Proofs.YthebhbomlllpeaaGreatDoorW.PrintLast Go.Proofs.YthebhbomlllpeaaGreatDoorW.PrintMore
attribute [local go_sem ↓] Go.wp_at_zero Go.wp_at_succ
def show22.T:Bool × List (List Nat × List Nat):=(true,[([],[]),([],[]),([1],[1]),([0,2],[0,2]),([],[]),([],[]),([5],[5]),([4,6],[4,6]),([7],[7]),([8],[8]),([],[]),([9,10],[9,10]),([],[]),([12,9],[12]),([11,13],[11,13]),([14],[14]),([15],[15]),([3,16,13],[3,16]),([17,17,0,1,2,3,4,5,6,7,8,9,10,11,12,13,14,15,16,17],[0,4,17])])
def show22.B:List Nat:=[0,0,2,7,0,0,32,112,240,496,0,2032,0,5104,16368,32752,65520,131071,262143]
theorem show22.tab:rtab .any (opsOf Tryz.f25 22)=show22.T:=by kernel_rfl
theorem show22.bits:z3y show22.T.2 show22.B=true:=by kernel_rfl
def show24.T:Bool × List (List Nat × List Nat):=(true,[([],[]),([],[]),([1],[1]),([0,2],[0,2]),([],[]),([],[]),([5],[5]),([4,6],[4,6]),([7],[7]),([8],[8]),([],[]),([9,10],[9,10]),([],[]),([12],[12]),([11,13],[11,13]),([14],[14]),([15],[15]),([3,16,13],[3,16]),([17,17,0,1,2,3,4,5,6,7,8,9,10,11,12,13,14,15,16,17],[0,4,17])])
def show24.B:List Nat:=[0,0,2,7,0,0,32,112,240,496,0,2032,0,4096,16368,32752,65520,131071,262143]
theorem show24.tab:rtab .any (opsOf Tryz.f25 24)=show24.T:=by kernel_rfl
theorem show24.bits:z3y show24.T.2 show24.B=true:=by kernel_rfl
abbrev zg3:Array Value:=#[.string ⟨#[]⟩,.string ⟨#[]⟩,.string ⟨#[]⟩,.string ⟨#[47]⟩,.string ⟨#[124]⟩,.string ⟨#[42]⟩,.string ⟨#[43]⟩,.string ⟨#[63]⟩]
structure PaM (w W:World) (n3:Nat) (u:Value) (st:List Pc):Prop where
 B:Below w.heap.size w W
 own:Kd.R kP 85 W w.heap.size (fun k=>w.heap.size≤k∧k≠n3) u (memS st)
 b3:W.heap[n3]?=some (.cells zg3 81 (0,0))
 h3:w.heap.size≤n3
theorem PaM.below {w W W1:World} {n3:Nat} {u:Value} {st:List Pc} (h:PaM w W n3 u st) (hb:Below W.heap.size W W1):PaM w W1 n3 u st :=
 ⟨z09 h.B h.B.size hb,Kd.R_below h.own hb,z0b h.b3 hb,h.h3⟩
theorem PaM.more {w W w2:World} {n3:Nat} {u u':Value} {st:List Pc} {p:Pc} (h:PaM w W n3 u st) (ho:Kd.R kP 85 w2 w.heap.size (fun k=>w.heap.size≤k∧k≠n3) u' (memS st++[(baL p.1,p.2)])) (hb:Below w.heap.size w w2) (hg:W.grownBy w2 u.ownBlock):PaM w w2 n3 u' (p::st) :=
 ⟨hb,by rw[z6k];exact ho,z3b h.b3 hg (fun he=>(h.own.1 n3 he.symm).2 rfl),h.h3⟩
theorem PaM.after {w W w2:World} {n3 bk o n c:Nat} {u':Value} {st r:List Pc} {p:Pc} (h:PaM w W n3 (.slice (some ⟨bk,o,none⟩) n c) st) (ho:Kd.R kP 85 w2 w.heap.size (fun k=>w.heap.size≤k∧k≠n3) u' (memS r++[(baL p.1,p.2)])) (hb:Below w.heap.size w w2) (hg:W.grownBy w2 (some bk)):PaM w w2 n3 u' (p::r) :=
 ⟨hb,by rw[z6k];exact ho,z3b h.b3 hg (fun he=>(h.own.1 n3 he.symm).2 rfl),h.h3⟩
theorem zb0 (b a:Pc) (r:List Pc) (q:Nat) (hq:r.length=q):(memS (b::a::r)).take q=memS r:=by
 rw[z6k,z6k,List.append_assoc,List.take_append_of_le_length (by rw[z2o];omega),List.take_of_length_le (by rw[z2o];omega)]
theorem zc1 (p x:Pc) (st:List Pc) (m:Nat) (hm:st.length=m):(memS (p::st)).set m (baL x.1,x.2)=memS (x::st):=by
 rw[z6k,z6k,List.set_append_right _ _ (by rw[z2o];omega),z2o,hm,Nat.sub_self];rfl
theorem z7v (a b:List UInt8):baL a++baL b=baL (a++b):=ba_eq (by simp)
theorem z1x (a:List UInt8):(baL a).size=a.length:=by simp[ByteArray.size]
theorem deep_S (s:List UInt8) (h:s.length≤20000):∃k,z1s.f k (baL s)=some ((deepS s:Nat):Int):=by
 refine⟨_,deep_f (baL s) (by rw[z1x];exact h) ?_⟩
 by_cases h0:(z36 (baL s)).2.2=0
 · have:=(lex_ok (by rw[z1x];exact h) h0).2;rw[z1x]at this;omega
 · unfold z36 at h0 ⊢;rw[if_neg (by rw[z1x];omega)]at h0 ⊢;unfold z7s at h0 ⊢
   cases ht:tokN nmL vlL 0 (baL s).data.toList with
   |error i=>simp
   |ok l=>rw[ht]at h0;exact absurd rfl h0
theorem zcu {α:Type} {d:Kd α} {e:TypeId} {W:World} {base bk o n c:Nat} {ok:Nat→Prop} {xs:List α} (h:d.R e W base ok (.slice (some ⟨bk,o,none⟩) n c) xs):o=0∧∃cur,W.heap[bk]?=some (.cells cur e (0,0)):=by
 obtain⟨_,inner,hown,_⟩:=h;rcases hown.2 with ⟨hv,_⟩|⟨g,cap,cur,hv,_,hh,_⟩
 · cases hv
 · injection hv with h1 h2 h3
   injection h1 with h1
   injection h1 with h1 h4
   subst h1 h4;exact⟨rfl,cur,hh⟩
def endL:List Pc→List UInt8
 |[p]=>if 32<deepS p.1 then[]else p.1
 |_=>[]
theorem zj2 {l:List StS} {st:List Pc} (h:¬100<l.length) (hs:z40 [] l=some st):pathL l=endL st:=by
 unfold pathL;rw[if_neg h,hs]
 match st with
 |[]=>rfl
 |[p]=>rfl
 |_::_::_=>rfl
theorem zh9 (l:List StS) (i:Nat) (hi:i<l.length) (x:StS) (hx:l[i]=x):l.take (i+1)=l.take i++[x]:=by rw[List.take_succ_eq_append_getElem hi,hx]
theorem z6o {l:List StS} {i:Nat} {st:List Pc} {x:StS} (hl:l.length≤100) (hs:z40 [] (l.take i)=some st) (hi:i<l.length) (hx:l[i]=x) (h:push1 st x=none):pathL l=[]:=by
 have:z40 [] l=none:=by
  have e:l=l.take i++(x::l.drop (i+1)):=by
   have:=List.take_append_drop i l;rw[List.drop_eq_getElem_cons hi,hx]at this;exact this.symm
  rw[e,z8y,hs];simp only[Option.bind_some,z40,h];rfl
 unfold pathL;rw[if_neg (by omega),this]
theorem z4a {l:List StS} {i:Nat} {st st':List Pc} {x:StS} (hs:z40 [] (l.take i)=some st) (hi:i<l.length) (hx:l[i]=x) (h:push1 st x=some st'):z40 [] (l.take (i+1))=some st':=by
 rw[zh9 l i hi x hx,z8y,hs];simp only[Option.bind_some,z40,h]
theorem zir {kd:Int} (h0:¬(kd<1∨7<kd)) (h2:¬kd≤2):push1 [] ⟨kd,⟨#[]⟩⟩=none:=by
 unfold push1;rw[if_neg h0,if_neg h2,if_neg (fun h=>h rfl)]
theorem zkv {kd:Int} {b:Pc} (h0:¬(kd<1∨7<kd)) (h2:¬kd≤2) (h4:kd≤4):push1 [b] ⟨kd,⟨#[]⟩⟩=none:=by
 unfold push1;rw[if_neg h0,if_neg h2,if_neg (fun h=>h rfl)];simp only[if_pos h4]
theorem zh6 {b a:Pc} {r:List Pc}:push1 (b::a::r) ⟨3,⟨#[]⟩⟩=some ((z1y a 2++(markL 3++z1y b 3),2)::r):=by
 unfold push1;rw[if_neg (by rintro(h|h);exact absurd h (by decide);exact absurd h (by decide)),if_neg (show ¬((3:Int)≤2) by decide),if_neg (fun h=>h rfl)];rfl
theorem push1_or {b a:Pc} {r:List Pc}:push1 (b::a::r) ⟨4,⟨#[]⟩⟩=some ((a.1++(markL 4++z1y b 2),1)::r):=by
 unfold push1;rw[if_neg (by rintro(h|h);exact absurd h (by decide);exact absurd h (by decide)),if_neg (show ¬((4:Int)≤2) by decide),if_neg (fun h=>h rfl)];rfl
theorem z8u {kd:Int} {b:Pc} {r:List Pc} (h0:¬(kd<1∨7<kd)) (h2:¬kd≤2) (h4:¬kd≤4):push1 (b::r) ⟨kd,⟨#[]⟩⟩=some ((z1y b 3++markL kd,3)::r):=by
 unfold push1;rw[if_neg h0,if_neg h2,if_neg (fun h=>h rfl)];simp only[if_neg h4]
set_option maxHeartbeats 8000000 in
set_option maxRecDepth 100000 in
theorem z5a (l:List StS) (A:Option Addr) (c:Nat) (w:World) (hLW:LaidW w) (hC:Kd.C k69 w A l.length l) (hl:∀x ∈ l,x.f1.size≤9223372036854775807) (hl63:l.length≤140737488355328) :
 Calls Tryz.prog 25 #[.slice A l.length c] w fun e w'=>e=.returned (.string (baL (pathL l)))∧Below w.heap.size w w':=by
 by_cases h100:100<l.length
 · have e1:decide ((100:Int)<(l.length:Int))=true:=decide_eq_true (by omega);have e2:decide (100<l.length)=true:=decide_eq_true h100;have HE:=z00.mk (show pathL l=[]from if_pos h100);have HB:=z00.mk (Below.refl w.heap.size w);clear hC hl hLW;go_enter Tryz.func25,Tryz.ntmps25;go_wp2
   go_ret
   exact⟨by rw[HE.out];rfl,HB.out⟩
 · have e1:decide ((100:Int)<(l.length:Int))=false:=decide_eq_false (by omega);have e2:decide (100<l.length)=false:=decide_eq_false h100;have hlen:l.length≤100:=by omega
   have hB:=z03 (Below.refl w.heap.size w) (.cells zg3 81);have h3:=z0q w (.cells zg3 81);have HM:=z00.mk (show PaM w (w.alloc (.cells zg3 81)) w.heap.size (.slice none 0 0) []from⟨hB,Kd.R_nil _ _ _ _ _,h3,Nat.le_refl _⟩);have HC:=z00.mk hC;have HL:=z00.mk hl;have HLW:=z00.mk hLW;clear hC hl hLW hB h3;go_enter Tryz.func25,Tryz.ntmps25;go_wp2
   go_loopg [4,17] (l.length+1) (fun kq v4 v17 w'=>∃(i:Nat) (st:List Pc),v17=.int .i64 i∧kq+i=l.length+1∧i≤l.length∧z00 (z40 [] (l.take i)=some st)∧z00 (PaM w w' w.heap.size v4 st))
   case atStart=>exact⟨0,[],rfl,by omega,by omega,⟨rfl⟩,HM⟩
   case round =>
    clear HM;obtain⟨i,st,rfl,hk,hi,HS,HM⟩:=hrel
    by_cases hlt:i<l.length
    · have hz:decide ((i:Int)<(l.length:Int))=true:=decide_eq_true (by omega);have hz2:decide (i<l.length)=true:=decide_eq_true hlt;obtain⟨k1,rfl⟩:∃k1,gk=k1+1:=⟨gk - 1,by omega⟩
      obtain⟨ad,rfl,x0,x1⟩:=zeo (Kd.C_below HC.out HM.out.B) (i:Int) (by omega) (by omega);have hr:z47 l (i:Int)=l[i]:=by
       show l.getD (Int.toNat (i:Int)) _=_;rw[Int.toNat_natCast,List.getD_eq_getElem?_getD,List.getElem?_eq_getElem hlt];rfl
      rw[hr]at x0 x1;simp only[Int.toNat_natCast]at x0 x1;obtain⟨⟨kd,lb⟩,hx⟩:∃x,l[i]=x:=⟨_,rfl⟩
      rw[hx]at x0 x1;simp only at x0 x1;have HX:=z00.mk (And.intro hx (HL.out l[i] (List.getElem_mem hlt)));have HLN:=z00.mk (show st.length≤100∧wt st≤5000 from by
       have h1:=z6z _ _ _ HS.out;have h2:=zb3 _ _ _ HS.out;have h3:(l.take i).length≤100:=by rw[List.length_take];omega
       simp only[wt,List.length_nil]at h1 h2;omega)
      obtain⟨A4,c4,hu⟩:=Kd.R_slice HM.out.own;rw[z2o]at hu;subst hu;clear hr hx
      by_cases hk1:kd<1
      · have f1:decide (kd<1)=true:=decide_eq_true hk1;have HE:=z00.mk (z6o hlen HS.out hlt HX.out.1 (if_pos (Or.inl hk1)));have HB:=z00.mk HM.out.B;clear HS HM;go_wp2
        go_ret
        exact⟨by rw[HE.out];rfl,by repeat(first|(with_reducible first|exact HB.out|apply z03|apply z04|apply z05)|exact HB.out)⟩
      have f1:decide (kd<1)=false:=decide_eq_false hk1
      by_cases hk7:7<kd
      · have f2:decide (7<kd)=true:=decide_eq_true hk7;have HE:=z00.mk (z6o hlen HS.out hlt HX.out.1 (if_pos (Or.inr hk7)));have HB:=z00.mk HM.out.B;clear HS HM;go_wp2
        go_ret
        exact⟨by rw[HE.out];rfl,by repeat(first|(with_reducible first|exact HB.out|apply z03|apply z04|apply z05)|exact HB.out)⟩
      have f2:decide (7<kd)=false:=decide_eq_false hk7;have HP0:=z00.mk (show ¬(kd<1∨7<kd)from fun h=>h.elim hk1 hk7)
      by_cases hk2:kd≤2
      · have f3:decide (kd≤2)=true:=decide_eq_true hk2;have HLB:=z00.mk (fun V=>z6n.calls 42 kd lb (baL (z7c ⟨kd,lb⟩)) V (label_f ⟨kd,lb⟩ (by have:=HX.out.2;rw[HX.out.1]at this;exact this)));have HPU:=z00.mk (show push1 st ⟨kd,lb⟩=if z7c ⟨kd,lb⟩=[]then none else some ((z7c ⟨kd,lb⟩,3)::st)from(if_neg HP0.out).trans (if_pos hk2));obtain⟨s,hs⟩:∃s,z7c ⟨kd,lb⟩=s:=⟨_,rfl⟩
        rw[hs]at HLB HPU;clear hs
        go_wp2_with fail
        refine(HLB.out _).mono ?_;rintro e w1 ⟨rfl,hb⟩;have HM1:=z00.mk (HM.out.below (z09 ((Below.refl wr.heap.size wr).alloc (Nat.le_refl _) _) (by simp) hb));clear hb;obtain⟨b,hbE⟩:∃b,baL s=b:=⟨_,rfl⟩
        rw[hbE]
        by_cases hs0:s=[]
        · have e5:(b.toList==([]:List UInt8))=true:=by rw[←hbE,hs0,z1d];exact beq_self_eq_true _
          have e6:(b.toList==(⟨#[]⟩:ByteArray).toList)=true:=by rw[←hbE,hs0];exact beq_self_eq_true _
          have HE:=z00.mk (z6o hlen HS.out hlt HX.out.1 (HPU.out.trans (if_pos hs0)));have HB:=z00.mk HM1.out.B;clear HS HM HM1 hbE hs0;go_wp2
          go_ret
          exact⟨by rw[HE.out];rfl,HB.out⟩
        · have e5:(b.toList==([]:List UInt8))=false:=by rw[beq_eq_false_iff_ne,←hbE,z1d];exact hs0
          have e6:(b.toList==(⟨#[]⟩:ByteArray).toList)=false:=by rw[beq_eq_false_iff_ne,←hbE,z1d];exact fun h=>hs0 (h.trans z2k)
          have HS2:=z00.mk (z4a HS.out hlt HX.out.1 (HPU.out.trans (if_neg hs0)));have HBE:=z00.mk hbE;clear HS HM hbE hs0
          go_wp2_with ((with_reducible refine z1p (b:=.append) (xs:=#[.tmp 40,.tmp 43]) rfl ?_);at_builtin;refine Kd.R_append kP (w0:=w) w.heap.size rfl (.tmp 40) (.tmp 43) 82 85 (.agg #[.string ⟨#[]⟩,.int .i64 0]) 24 rfl Tryz.underlying82 infoP rfl (by decide) (by decide) (.slice A4 st.length c4) (memS st) (b,3) [.string b,.int .i64 3] (fun k=>w.heap.size≤k∧k≠w.heap.size) (fun _=>False) rfl zA0i (zbb _ _ _ _) (fun _ hk=>hk.elim) (fun k hk=>⟨Nat.le_trans HM1.out.B.size hk,by have:=z26 HM1.out.b3;omega⟩) HM1.out.own HM1.out.B HM1.out.B.size (by rw[z2o];have:=HLN.out;omega) ?_;intro v1 w2 ho hb hg hat;have HM2:=z00.mk (PaM.more (p:=(s,3)) HM1.out (by rw[HBE.out];exact ho) hb hg);clear ho hb hg hat)
          go_roundg k1
          case rel=>exact⟨i+1,_,by go_num,by omega,by omega,HS2,HM2⟩
          case measure=>omega
      have f3:decide (kd≤2)=false:=decide_eq_false hk2
      by_cases hlb:lb.data.toList≠[]
      · have e5:(lb.toList==([]:List UInt8))=false:=by rw[beq_eq_false_iff_ne,z2y];exact hlb
        have e6:(lb.toList==(⟨#[]⟩:ByteArray).toList)=false:=by rw[z2k];exact e5
        have e7:(lb.toList !=([]:List UInt8))=true:=by rw[bne,e5];rfl
        have e8:(lb.toList !=(⟨#[]⟩:ByteArray).toList)=true:=by rw[bne,e6];rfl
        have HE:=z00.mk (z6o hlen HS.out hlt HX.out.1 ((if_neg HP0.out).trans ((if_neg hk2).trans (if_pos hlb))));have HB:=z00.mk HM.out.B;clear HS HM;go_wp2
        go_ret
        exact⟨by rw[HE.out];rfl,by repeat(first|(with_reducible first|exact HB.out|apply z03|apply z04|apply z05)|exact HB.out)⟩
      have hlb0:lb.data.toList=[]:=Classical.not_not.1 hlb;obtain rfl:=zec hlb0;clear hlb hlb0
      cases st with
      |nil =>
       have HE:=z00.mk (z6o hlen HS.out hlt HX.out.1 (zir HP0.out hk2));have HB:=z00.mk HM.out.B;clear HS HM;go_wp2
       go_ret
       exact⟨by rw[HE.out];rfl,by repeat(first|(with_reducible first|exact HB.out|apply z03|apply z04|apply z05)|exact HB.out)⟩
      |cons b r =>
       obtain⟨m,hm⟩:∃m,r.length=m:=⟨_,rfl⟩
       have hmm:m<100:=by have:=HLN.out.1;rw[List.length_cons]at this;omega
       have HML:=z00.mk hm;rw[List.length_cons,hm]at HM ⊢;clear hm;have g1:decide ((m:Int)+1<1)=false:=decide_eq_false (by omega)
       by_cases hone:kd≤4∧m=0
       · obtain⟨h4,rfl⟩:=hone;obtain rfl:r=[]:=List.length_eq_zero_iff.1 HML.out;have HE:=z00.mk (z6o hlen HS.out hlt HX.out.1 (zkv HP0.out hk2 h4));have f4:decide (kd≤4)=true:=decide_eq_true h4;have HB:=z00.mk HM.out.B;clear HS HM;go_wp2
         go_ret
         exact⟨by rw[HE.out];rfl,by repeat(first|(with_reducible first|exact HB.out|apply z03|apply z04|apply z05)|exact HB.out)⟩
       have g2:kd≤4→decide ((m:Int)+1<2)=false:=fun h=>decide_eq_false (by have:m≠0:=fun e=>hone ⟨h,e⟩;omega)
       have HONE:=z00.mk hone;clear hone;rcases (by omega:kd=3∨kd=4∨kd=5∨kd=6∨kd=7)with rfl|rfl|rfl|rfl|rfl
       · -- two
         cases r with
         |nil=>exact absurd ⟨by decide,HML.out.symm⟩ HONE.out
         |cons a r =>
         obtain⟨q,hq⟩:∃q,r.length=q:=⟨_,rfl⟩
         have hmq:m=q+1:=by rw[←HML.out,List.length_cons,hq]
         have HRL:=z00.mk hq;have HMQ:=z00.mk hmq;have g3:=g2 (by decide);clear g2 hq hmq;go_wp2;have hmq:=HMQ.out;have HB0:=z03 (Below.refl wr.heap.size wr) (.cells #[.int .i64 3,.string ⟨#[]⟩] 69);have HM0:=z00.mk (HM.out.below HB0);have hbx:=z0q wr (.cells #[.int .i64 3,.string ⟨#[]⟩] 69);obtain⟨nb,enb⟩:∃n,wr.heap.size=n:=⟨_,rfl⟩
         rw[enb]at hbx ⊢
         generalize wr.alloc (.cells #[.int .i64 3,.string ⟨#[]⟩] 69)=W0 at HM0 hbx ⊢
         have hown:=HM0.out.own;have hC4:=(Kd.R_reads' hown).2.2;have hcap:=(Kd.R_reads hown)
         obtain⟨A',c',he,hcap,_⟩:=hcap;injection he with he1 he2 he3
         subst he1 he3;rw[z2o,List.length_cons,List.length_cons,HRL.out]at hcap;obtain⟨bk,o,rfl,y0,y1⟩:=at_P hC4 m (baL b.1,b.2) (by have:=z7x [] b (a::r);rw[List.length_cons,HRL.out,←hmq]at this;exact this);obtain⟨bk',o',he,x0',x1'⟩:=at_P hC4 q (baL a.1,a.2) (by have:=z7x [b] a r;rw[HRL.out]at this;exact this);injection he with he
         injection he with he1 he2
         subst he1 he2;obtain⟨bs,hbs⟩:∃bs,baL b.1=bs:=⟨_,rfl⟩
         obtain⟨as1,has⟩:∃as1,baL a.1=as1:=⟨_,rfl⟩
         simp only[hbs]at y0;simp only[has]at x0';have hcb:W0.cell? ⟨nb,0,none⟩=some (.int .i64 3):=(z01 hbx 0).trans rfl;have hcs:W0.cell? ⟨w.heap.size,3,none⟩=some (.string ⟨#[47]⟩):=(z01 HM0.out.b3 3).trans rfl;have hwb:b.1.length≤5000:=Nat.le_trans (zal (by simp)) HLN.out.2;have hwa:a.1.length≤5000:=Nat.le_trans (zal (by simp)) HLN.out.2;have hsa:as1.size≤5000:=by rw[←has,z1x];exact hwa
         have HLA:=z00.mk (fun V=>z1u.calls as1 a.2 2 (baL (z1y a 2)) V (by rw[←has];exact z7u a 2 (by omega)));have HLB:=z00.mk (fun V=>z1u.calls bs b.2 3 (baL (z1y b 3)) V zA12);have hla:=z3o a 2;have hlb:=z3o b 3;have HTX:=z00.mk (show(baL (z1y a 2)++(⟨#[47]⟩:ByteArray))++baL (z1y b 3)=baL (z1y a 2++(markL 3++z1y b 3))from by rw[show(⟨#[47]⟩:ByteArray)=baL [47]from rfl,z7v,z7v,List.append_assoc];rfl);obtain⟨la,hla'⟩:∃x,baL (z1y a 2)=x:=⟨_,rfl⟩
         obtain⟨lb',hlb'⟩:∃x,baL (z1y b 3)=x:=⟨_,rfl⟩
         have hla2:la.size≤5002:=by rw[←hla',z1x];omega
         have hlb2:lb'.size≤5002:=by rw[←hlb',z1x];omega
         rw[hla']at HLA;rw[hlb']at HLB
         (try rw[hla']at HTX)
         (try rw[hlb']at HTX)
         (try rw[has]at HTX)
         have HHB:=z00.mk hbx;have HHA:=z00.mk has;have p0:(0:Int)≤(m:Int):=by omega
         have p1:(m:Int)<(m:Int)+1:=by omega
         have q0:(0:Int)≤(q:Int):=by omega
         have q1:(q:Int)<(m:Int)+1:=by omega
         have q2:(q:Int)≤(c4:Int):=by omega
         have q3:q≤c4:=by omega
         have HQM:=z00.mk (show q+1<100 by omega);have HW4:=z00.mk (show IntKind.i64.wrap ((m:Int)+1 - 2)=(q:Int) by rw[i64_w];unfold wrap64;omega);clear he2 hcap hown hC4 hbs has hbx HB0 HM enb x0 x1 hwb hwa hla hlb hla' hlb' hmq;have hw1:IntKind.i64.wrap ((m:Int)+1 - 1)=(m:Int):=by rw[i64_w];unfold wrap64;omega
         have hw2:IntKind.i64.wrap (m:Int)=(m:Int):=by rw[i64_w];unfold wrap64;omega
         have hw3:(m:Int)+1 - 1=(m:Int):=by omega
         have kq1:(9223372036854775807<la.size+1)=False:=eq_false (by omega);have kq2:(9223372036854775807<la.size+1+lb'.size)=False:=eq_false (by omega);have hw4:=HW4.out
         go_region_held3 (fun w'=>w'.cell? ⟨bk,o+m * 2,none⟩=some (.string bs)∧w'.cell? ⟨bk,o+m * 2+1,none⟩=some (.int .i64 b.2)∧w'.cell? ⟨nb,0,none⟩=some (.int .i64 3)∧w'.cell? ⟨w.heap.size,3,none⟩=some (.string ⟨#[47]⟩)) (go_keep) (fail)
         go_wp2;rename_i hHeld0;clear hHeld0;have hB1:Below W0.heap.size W0 (W0.alloc (.cells #[.string bs,.int .i64 b.2] 85)).drew:=z05 (z03 (Below.refl _ _) _);have h9:=z0h (z0q W0 (.cells #[.string bs,.int .i64 b.2] 85));obtain⟨n9,en9⟩:∃n,W0.heap.size=n:=⟨_,rfl⟩
         rw[en9]at h9 ⊢;have HMV:=z00.mk ((HM0.out.below hB1).below (z05 (Below.refl _ _)));have z0:=z07 hB1 x0';have z1:=z07 hB1 x1'
         generalize (W0.alloc (.cells #[.string bs,.int .i64 b.2] 85)).drew=V0 at HMV z0 z1 h9 ⊢
         have u0:V0.cell? ⟨n9,0,none⟩=some (.string bs):=(z01 h9 0).trans rfl;have u1:V0.cell? ⟨n9,1,none⟩=some (.int .i64 b.2):=(z01 h9 1).trans rfl;have HRT:=z00.mk (fun(V:World) (h:Kd.R kP 85 V w.heap.size (fun k=>w.heap.size≤k∧k≠w.heap.size) (.slice (some ⟨bk,o,none⟩) (m+1) c4) (memS (b::a::r)))=>show Kd.R kP 85 V w.heap.size (fun k=>w.heap.size≤k∧k≠w.heap.size) (.slice (some ⟨bk,o,none⟩) q c4) (memS r)from zb0 b a r q HRL.out ▸ Kd.R_take (m:=q) h (by rw[z2o,List.length_cons,List.length_cons,HRL.out];omega));have HS2:=z00.mk (z4a HS.out hlt HX.out.1 (zh6 (b:=b) (a:=a) (r:=r)));clear HS hB1 h9 en9 hcb hcs y0 y1 x0' x1' HM0 hw1 hw2 hw3;refine z68 (n:=19) (S:=fun w'=>w'.cell? ⟨bk,o+q * 2,none⟩=some (.string as1)∧w'.cell? ⟨bk,o+q * 2+1,none⟩=some (.int .i64 a.2)∧w'.cell? ⟨n9,0,none⟩=some (.string bs)∧w'.cell? ⟨n9,1,none⟩=some (.int .i64 b.2)) (ds:=[17]) #[false,false,false,false,false,false,false,false,false,false,false,false,false,false,false,false,false,false,false] (by kernel_rfl) rfl rfl (⟨z0,z1,u0,u1⟩) (fun hHeld=>?_);refine z39 show22.tab show22.bits (fun HT_ HW_=>?_)
         generalize V0.drew=V at HMV hHeld ⊢
         refine pure_ (i:=0) (N:=some 84) (v:=?_) (a':=?_) #[true,false,false,false,false,false,false,false,false,false,false,false,false,false,false,false,false,false,false] rfl rfl (z0r HT_.out (by kernel_rfl)) (fun _ _ _ h=>h) (Or.inl ⟨by rfl,?_⟩) ?_ ?_
         rotate_left
         · intro w'
           go_simp
           with_reducible rfl
         rotate_left
         · simp only[Act.put,List.setIfInBounds_toArray,List.set_cons_zero,List.set_cons_succ,i64_w,i32_w];rfl
         refine pure_ (i:=1) (N:=some 85) (v:=?_) (a':=?_) #[true,true,false,false,false,false,false,false,false,false,false,false,false,false,false,false,false,false,false] rfl rfl (z0r HT_.out (by kernel_rfl)) (fun _ _ _ h=>h) (Or.inl ⟨by rfl,?_⟩) ?_ ?_
         rotate_left
         · intro w'
           go_simp
           with_reducible rfl
         rotate_left
         · simp only[Act.put,List.setIfInBounds_toArray,List.set_cons_zero,List.set_cons_succ,i64_w,i32_w];rfl
         refine pure_ (i:=2) (N:=some 86) (v:=?_) (a':=?_) #[true,true,true,false,false,false,false,false,false,false,false,false,false,false,false,false,false,false,false] rfl rfl (z0r HT_.out (by kernel_rfl)) (fun _ _ _ h=>h) (Or.inl ⟨by rfl,?_⟩) ?_ ?_
         rotate_left
         · intro w'
           go_simp
           with_reducible rfl
         rotate_left
         · simp only[Act.put,List.setIfInBounds_toArray,List.set_cons_zero,List.set_cons_succ,i64_w,i32_w];rfl
         refine pure_ (i:=3) (N:=some 87) (v:=?_) (a':=?_) #[true,true,true,true,false,false,false,false,false,false,false,false,false,false,false,false,false,false,false] rfl rfl (z0r HT_.out (by kernel_rfl)) (fun _ _ _ h=>h) (Or.inl ⟨by rfl,?_⟩) ?_ ?_
         rotate_left
         · intro w'
           go_simp
           with_reducible rfl
         rotate_left
         · simp only[Act.put,List.setIfInBounds_toArray,List.set_cons_zero,List.set_cons_succ,i64_w,i32_w];rfl
         refine pure_ (i:=4) (N:=some 88) (v:=?_) (a':=?_) #[true,true,true,true,true,false,false,false,false,false,false,false,false,false,false,false,false,false,false] rfl rfl (z0r HT_.out (by kernel_rfl)) (fun _ _ _ h=>h) (Or.inl ⟨by rfl,?_⟩) ?_ ?_
         rotate_left
         · intro w'
           go_simp
           with_reducible rfl
         rotate_left
         · simp only[Act.put,List.setIfInBounds_toArray,List.set_cons_zero,List.set_cons_succ,i64_w,i32_w];rfl
         refine pure_ (i:=5) (N:=some 89) (v:=?_) (a':=?_) #[true,true,true,true,true,true,false,false,false,false,false,false,false,false,false,false,false,false,false] rfl rfl (z0r HT_.out (by kernel_rfl)) (fun _ _ _ h=>h) (Or.inl ⟨by rfl,?_⟩) ?_ ?_
         rotate_left
         · intro w'
           go_simp
           with_reducible rfl
         rotate_left
         · simp only[Act.put,List.setIfInBounds_toArray,List.set_cons_zero,List.set_cons_succ,i64_w,i32_w];rfl
         refine pure_ (i:=6) (N:=some 90) (v:=?_) (a':=?_) #[true,true,true,true,true,true,true,false,false,false,false,false,false,false,false,false,false,false,false] rfl rfl (z0r HT_.out (by kernel_rfl)) (fun _ _ _ h=>h) (Or.inl ⟨by rfl,?_⟩) ?_ ?_
         rotate_left
         · intro w'
           go_simp
           with_reducible rfl
         rotate_left
         · simp only[Act.put,List.setIfInBounds_toArray,List.set_cons_zero,List.set_cons_succ,i64_w,i32_w];rfl
         refine pure_ (i:=7) (N:=some 91) (v:=?_) (a':=?_) #[true,true,true,true,true,true,true,true,false,false,false,false,false,false,false,false,false,false,false] rfl rfl (z0r HT_.out (by kernel_rfl)) (fun _ _ _ h=>h) (Or.inl ⟨by rfl,?_⟩) ?_ ?_
         rotate_left
         · intro w'
           go_simp
           with_reducible rfl
         rotate_left
         · simp only[Act.put,List.setIfInBounds_toArray,List.set_cons_zero,List.set_cons_succ,i64_w,i32_w];rfl
         refine take_ (i:=8) (N:=some 92) (v:=?_) (a':=?_) #[true,true,true,true,true,true,true,true,true,false,false,false,false,false,false,false,false,false,false] rfl rfl (z1j HT_.out HW_.out (by kernel_rfl)) (fun _ _ _ h=>h) (Or.inl ⟨by rfl,?_⟩) hHeld ?_ ?_
         rotate_left
         · rintro w' ⟨s1,s2,s3,s4⟩
           go_simp
           with_reducible rfl
         rotate_left
         · simp only[Act.put,List.setIfInBounds_toArray,List.set_cons_zero,List.set_cons_succ,i64_w,i32_w];rfl
         refine pure_ (i:=10) (N:=some 94) (v:=?_) (a':=?_) #[true,true,true,true,true,true,true,true,true,false,true,false,false,false,false,false,false,false,false] rfl rfl (z0r HT_.out (by kernel_rfl)) (fun _ _ _ h=>h) (Or.inl ⟨by rfl,?_⟩) ?_ ?_
         rotate_left
         · intro w'
           go_simp
           with_reducible rfl
         rotate_left
         · simp only[Act.put,List.setIfInBounds_toArray,List.set_cons_zero,List.set_cons_succ,i64_w,i32_w];rfl
         refine take_ (i:=12) (N:=some 96) (v:=?_) (a':=?_) #[true,true,true,true,true,true,true,true,true,false,true,false,true,false,false,false,false,false,false] rfl rfl (z1j HT_.out HW_.out (by kernel_rfl)) (fun _ _ _ h=>h) (Or.inl ⟨by rfl,?_⟩) hHeld ?_ ?_
         rotate_left
         · rintro w' ⟨s1,s2,s3,s4⟩
           go_simp
           with_reducible rfl
         rotate_left
         · simp only[Act.put,List.setIfInBounds_toArray,List.set_cons_zero,List.set_cons_succ,i64_w,i32_w];rfl
         refine one_ (i:=9) (N:=some 93) #[true,true,true,true,true,true,true,true,true,true,true,false,true,false,false,false,false,false,false] rfl rfl (z2a HT_.out (by kernel_rfl)) (by decide) (fun K hK=>?_);refine goes_ Tryz.func51 (by kernel_rfl) rfl #[.agg #[.string as1,.int .i64 a.2],.int .i64 2] (by rfl) rfl rfl zA03 ?_;refine(HLA.out _).mono ?_;rintro e V2 ⟨rfl,hb⟩;refine⟨_,rfl,?_⟩;replace HMV:=z00.mk (HMV.out.below hb);refine hK.out _ _ (⟨z07 hb hHeld.1,z07 hb hHeld.2.1,z07 hb hHeld.2.2.1,z07 hb hHeld.2.2.2⟩) (fun hHeld=>?_);clear hK K;refine norm_ (a':=?_) ?_ ?_
         rotate_left
         · show Act.put _ (some 93) _=_;simp only[Act.put,List.setIfInBounds_toArray,List.set_cons_zero,List.set_cons_succ,i64_w,i32_w];rfl
         refine pure_ (i:=11) (N:=some 95) (v:=?_) (a':=?_) #[true,true,true,true,true,true,true,true,true,true,true,true,true,false,false,false,false,false,false] rfl rfl (z0r HT_.out (by kernel_rfl)) (fun _ _ _ h=>h) (Or.inl ⟨by rfl,?_⟩) ?_ ?_
         rotate_left
         · intro w'
           go_simp
           with_reducible rfl
         rotate_left
         · simp only[Act.put,List.setIfInBounds_toArray,List.set_cons_zero,List.set_cons_succ,i64_w,i32_w];rfl
         refine one_ (i:=13) (N:=some 97) #[true,true,true,true,true,true,true,true,true,true,true,true,true,true,false,false,false,false,false] rfl rfl (z2a HT_.out (by kernel_rfl)) (by decide) (fun K hK=>?_);refine goes_ Tryz.func51 (by kernel_rfl) rfl #[.agg #[.string bs,.int .i64 b.2],.int .i64 3] (by rfl) rfl rfl zA03 ?_;refine(HLB.out _).mono ?_;rintro e V3 ⟨rfl,hb3⟩;refine⟨_,rfl,?_⟩;have hb:=hb3;replace HMV:=z00.mk (HMV.out.below hb);refine hK.out _ _ (⟨z07 hb hHeld.1,z07 hb hHeld.2.1,z07 hb hHeld.2.2.1,z07 hb hHeld.2.2.2⟩) (fun hHeld=>?_);clear hK K;refine norm_ (a':=?_) ?_ ?_
         rotate_left
         · show Act.put _ (some 97) _=_;simp only[Act.put,List.setIfInBounds_toArray,List.set_cons_zero,List.set_cons_succ,i64_w,i32_w];rfl
         refine pure_ (i:=14) (N:=some 98) (v:=?_) (a':=?_) #[true,true,true,true,true,true,true,true,true,true,true,true,true,true,true,false,false,false,false] rfl rfl (z0r HT_.out (by kernel_rfl)) (fun _ _ _ h=>h) (Or.inl ⟨by rfl,?_⟩) ?_ ?_
         rotate_left
         · intro w'
           go_simp
           with_reducible rfl
         rotate_left
         · simp only[Act.put,List.setIfInBounds_toArray,List.set_cons_zero,List.set_cons_succ,i64_w,i32_w];rfl
         refine pure_ (i:=15) (N:=some 99) (v:=?_) (a':=?_) #[true,true,true,true,true,true,true,true,true,true,true,true,true,true,true,true,false,false,false] rfl rfl (z0r HT_.out (by kernel_rfl)) (fun _ _ _ h=>h) (Or.inl ⟨by rfl,?_⟩) ?_ ?_
         rotate_left
         · intro w'
           go_simp
           with_reducible rfl
         rotate_left
         · simp only[Act.put,List.setIfInBounds_toArray,List.set_cons_zero,List.set_cons_succ,i64_w,i32_w];rfl
         refine one_ (i:=16) (N:=some 100) #[true,true,true,true,true,true,true,true,true,true,true,true,true,true,true,true,true,false,false] rfl rfl (z2a HT_.out (by kernel_rfl)) (by decide) (fun K hK=>?_);refine zbf (w1:=?_) (v:=?_) (by rfl) rfl ?_ ?_
         rotate_left 2
         · go_simp
           constructor
           · rfl
           · rfl
         refine hK.out _ _ (⟨(z07 (z03 (Below.refl _ _) _) hHeld.1),(z07 (z03 (Below.refl _ _) _) hHeld.2.1),(z07 (z03 (Below.refl _ _) _) hHeld.2.2.1),(z07 (z03 (Below.refl _ _) _) hHeld.2.2.2)⟩) (fun hHeld=>?_);clear hK K;refine norm_ (a':=?_) ?_ ?_
         rotate_left
         · show Act.put _ (some 100) _=_;simp only[Act.put,List.setIfInBounds_toArray,List.set_cons_zero,List.set_cons_succ,i64_w,i32_w];rfl
         refine last_ (i:=17) (N:=some 101) #[true,true,true,true,true,true,true,true,true,true,true,true,true,true,true,true,true,true,false] rfl rfl (z2a HT_.out (by kernel_rfl)) (by decide) (fun K hK=>?_);refine Kd.R_append_step kP w.heap.size (by rfl) (.tmp 87) (.tmp 100) 82 85 (.agg #[.string ⟨#[]⟩,.int .i64 0]) 24 rfl Tryz.underlying82 infoP rfl (by decide) (by omega) (.slice (some ⟨bk,o,none⟩) q c4) (memS r) ((la++(⟨#[47]⟩:ByteArray))++lb',2) [.string ((la++(⟨#[47]⟩:ByteArray))++lb'),.int .i64 2] (fun k=>w.heap.size≤k∧k≠w.heap.size) (fun _=>False) rfl rfl (zbb _ _ _ _) (fun _ hk=>hk.elim) (fun k hk=>⟨Nat.le_trans HMV.out.B.size hk,by have:=z26 HMV.out.b3;omega⟩) (HRT.out _ HMV.out.own) HMV.out.B HMV.out.B.size (by rw[z2o,HRL.out];have:=HQM.out;omega) ?_;intro u' w3 ho hb hg hat;have HM2:=z00.mk (PaM.after (p:=(z1y a 2++(markL 3++z1y b 3),2)) HMV.out (by rw[←HTX.out];exact ho) hb hg);clear ho hb hg hat hHeld;refine hK.out _ _ ?_;clear hK K;refine norm_ (a':=?_) ?_ ?_
         rotate_left
         · show Act.put _ (some 101) _=_;simp only[Act.put,List.setIfInBounds_toArray,List.set_cons_zero,List.set_cons_succ,i64_w,i32_w];rfl
         refine pure_ (i:=18) (N:=some 4) (v:=?_) (a':=?_) #[true,true,true,true,true,true,true,true,true,true,true,true,true,true,true,true,true,true,true] rfl rfl (z0r HT_.out (by kernel_rfl)) (fun _ _ _ h=>h) (Or.inl ⟨by rfl,?_⟩) ?_ ?_
         rotate_left
         · intro w'
           go_simp
           with_reducible rfl
         rotate_left
         · simp only[Act.put,List.setIfInBounds_toArray,List.set_cons_zero,List.set_cons_succ,i64_w,i32_w];rfl
         refine done_ (z4w HT_.out (by kernel_rfl)) ?_;clear hw4;go_wp2
         go_roundg k1
         case rel=>exact⟨i+1,_,by go_num,by omega,by omega,HS2,HM2⟩
         case measure=>omega
       · -- two
         cases r with
         |nil=>exact absurd ⟨by decide,HML.out.symm⟩ HONE.out
         |cons a r =>
         obtain⟨q,hq⟩:∃q,r.length=q:=⟨_,rfl⟩
         have hmq:m=q+1:=by rw[←HML.out,List.length_cons,hq]
         have HRL:=z00.mk hq;have HMQ:=z00.mk hmq;have g3:=g2 (by decide);clear g2 hq hmq;go_wp2;have hmq:=HMQ.out;have HB0:=z03 (Below.refl wr.heap.size wr) (.cells #[.int .i64 4,.string ⟨#[]⟩] 69);have HM0:=z00.mk (HM.out.below HB0);have hbx:=z0q wr (.cells #[.int .i64 4,.string ⟨#[]⟩] 69);obtain⟨nb,enb⟩:∃n,wr.heap.size=n:=⟨_,rfl⟩
         rw[enb]at hbx ⊢
         generalize wr.alloc (.cells #[.int .i64 4,.string ⟨#[]⟩] 69)=W0 at HM0 hbx ⊢
         have hown:=HM0.out.own;have hC4:=(Kd.R_reads' hown).2.2;have hcap:=(Kd.R_reads hown)
         obtain⟨A',c',he,hcap,_⟩:=hcap;injection he with he1 he2 he3
         subst he1 he3;rw[z2o,List.length_cons,List.length_cons,HRL.out]at hcap;obtain⟨bk,o,rfl,y0,y1⟩:=at_P hC4 m (baL b.1,b.2) (by have:=z7x [] b (a::r);rw[List.length_cons,HRL.out,←hmq]at this;exact this);obtain⟨bk',o',he,x0',x1'⟩:=at_P hC4 q (baL a.1,a.2) (by have:=z7x [b] a r;rw[HRL.out]at this;exact this);injection he with he
         injection he with he1 he2
         subst he1 he2;obtain⟨bs,hbs⟩:∃bs,baL b.1=bs:=⟨_,rfl⟩
         obtain⟨as1,has⟩:∃as1,baL a.1=as1:=⟨_,rfl⟩
         simp only[hbs]at y0;simp only[has]at x0';have hcb:W0.cell? ⟨nb,0,none⟩=some (.int .i64 4):=(z01 hbx 0).trans rfl;have hcs:W0.cell? ⟨w.heap.size,4,none⟩=some (.string ⟨#[124]⟩):=(z01 HM0.out.b3 4).trans rfl;have hwb:b.1.length≤5000:=Nat.le_trans (zal (by simp)) HLN.out.2;have hwa:a.1.length≤5000:=Nat.le_trans (zal (by simp)) HLN.out.2;have hsa:as1.size≤5000:=by rw[←has,z1x];exact hwa
         have HLA:=z00.mk (fun V=>z1u.calls as1 a.2 2 (baL (z1y a 2)) V (by rw[←has];exact z7u a 2 (by omega)));have HLB:=z00.mk (fun V=>z1u.calls bs b.2 2 (baL (z1y b 2)) V (by rw[←hbs];exact z7u b 2 (by omega)));have hla:=z3o a 2;have hlb:=z3o b 2;have HTX:=z00.mk (show(baL a.1++(⟨#[124]⟩:ByteArray))++baL (z1y b 2)=baL (a.1++(markL 4++z1y b 2))from by rw[show(⟨#[124]⟩:ByteArray)=baL [124]from rfl,z7v,z7v,List.append_assoc];rfl);obtain⟨la,hla'⟩:∃x,baL (z1y a 2)=x:=⟨_,rfl⟩
         obtain⟨lb',hlb'⟩:∃x,baL (z1y b 2)=x:=⟨_,rfl⟩
         have hla2:la.size≤5002:=by rw[←hla',z1x];omega
         have hlb2:lb'.size≤5002:=by rw[←hlb',z1x];omega
         rw[hla']at HLA;rw[hlb']at HLB
         (try rw[hla']at HTX)
         (try rw[hlb']at HTX)
         (try rw[has]at HTX)
         have HHB:=z00.mk hbx;have HHA:=z00.mk has;have p0:(0:Int)≤(m:Int):=by omega
         have p1:(m:Int)<(m:Int)+1:=by omega
         have q0:(0:Int)≤(q:Int):=by omega
         have q1:(q:Int)<(m:Int)+1:=by omega
         have q2:(q:Int)≤(c4:Int):=by omega
         have q3:q≤c4:=by omega
         have HQM:=z00.mk (show q+1<100 by omega);have HW4:=z00.mk (show IntKind.i64.wrap ((m:Int)+1 - 2)=(q:Int) by rw[i64_w];unfold wrap64;omega);clear he2 hcap hown hC4 hbs has hbx HB0 HM enb x0 x1 hwb hwa hla hlb hla' hlb' hmq;have hw1:IntKind.i64.wrap ((m:Int)+1 - 1)=(m:Int):=by rw[i64_w];unfold wrap64;omega
         have hw2:IntKind.i64.wrap (m:Int)=(m:Int):=by rw[i64_w];unfold wrap64;omega
         have hw3:(m:Int)+1 - 1=(m:Int):=by omega
         have kq1:(9223372036854775807<as1.size+1)=False:=eq_false (by omega);have kq2:(9223372036854775807<as1.size+1+lb'.size)=False:=eq_false (by omega);have hw4:=HW4.out
         go_region_held3 (fun w'=>w'.cell? ⟨bk,o+m * 2,none⟩=some (.string bs)∧w'.cell? ⟨bk,o+m * 2+1,none⟩=some (.int .i64 b.2)∧w'.cell? ⟨nb,0,none⟩=some (.int .i64 4)∧w'.cell? ⟨w.heap.size,4,none⟩=some (.string ⟨#[124]⟩)) (go_keep) (fail)
         go_wp2;rename_i hHeld0;clear hHeld0;have hB1:Below W0.heap.size W0 (W0.alloc (.cells #[.string bs,.int .i64 b.2] 85)).drew:=z05 (z03 (Below.refl _ _) _);have h9:=z0h (z0q W0 (.cells #[.string bs,.int .i64 b.2] 85));obtain⟨n9,en9⟩:∃n,W0.heap.size=n:=⟨_,rfl⟩
         rw[en9]at h9 ⊢;have HMV:=z00.mk ((HM0.out.below hB1).below (z05 (Below.refl _ _)));have z0:=z07 hB1 x0';have z1:=z07 hB1 x1'
         generalize (W0.alloc (.cells #[.string bs,.int .i64 b.2] 85)).drew=V0 at HMV z0 z1 h9 ⊢
         have u0:V0.cell? ⟨n9,0,none⟩=some (.string bs):=(z01 h9 0).trans rfl;have u1:V0.cell? ⟨n9,1,none⟩=some (.int .i64 b.2):=(z01 h9 1).trans rfl;have HRT:=z00.mk (fun(V:World) (h:Kd.R kP 85 V w.heap.size (fun k=>w.heap.size≤k∧k≠w.heap.size) (.slice (some ⟨bk,o,none⟩) (m+1) c4) (memS (b::a::r)))=>show Kd.R kP 85 V w.heap.size (fun k=>w.heap.size≤k∧k≠w.heap.size) (.slice (some ⟨bk,o,none⟩) q c4) (memS r)from zb0 b a r q HRL.out ▸ Kd.R_take (m:=q) h (by rw[z2o,List.length_cons,List.length_cons,HRL.out];omega));have HS2:=z00.mk (z4a HS.out hlt HX.out.1 (push1_or (b:=b) (a:=a) (r:=r)));clear HS hB1 h9 en9 hcb hcs y0 y1 x0' x1' HM0 hw1 hw2 hw3;refine z68 (n:=19) (S:=fun w'=>w'.cell? ⟨bk,o+q * 2,none⟩=some (.string as1)∧w'.cell? ⟨bk,o+q * 2+1,none⟩=some (.int .i64 a.2)∧w'.cell? ⟨n9,0,none⟩=some (.string bs)∧w'.cell? ⟨n9,1,none⟩=some (.int .i64 b.2)) (ds:=[17]) #[false,false,false,false,false,false,false,false,false,false,false,false,false,false,false,false,false,false,false] (by kernel_rfl) rfl rfl (⟨z0,z1,u0,u1⟩) (fun hHeld=>?_);refine z39 show24.tab show24.bits (fun HT_ HW_=>?_)
         generalize V0.drew=V at HMV hHeld ⊢
         refine pure_ (i:=0) (N:=some 104) (v:=?_) (a':=?_) #[true,false,false,false,false,false,false,false,false,false,false,false,false,false,false,false,false,false,false] rfl rfl (z0r HT_.out (by kernel_rfl)) (fun _ _ _ h=>h) (Or.inl ⟨by rfl,?_⟩) ?_ ?_
         rotate_left
         · intro w'
           go_simp
           with_reducible rfl
         rotate_left
         · simp only[Act.put,List.setIfInBounds_toArray,List.set_cons_zero,List.set_cons_succ,i64_w,i32_w];rfl
         refine pure_ (i:=1) (N:=some 105) (v:=?_) (a':=?_) #[true,true,false,false,false,false,false,false,false,false,false,false,false,false,false,false,false,false,false] rfl rfl (z0r HT_.out (by kernel_rfl)) (fun _ _ _ h=>h) (Or.inl ⟨by rfl,?_⟩) ?_ ?_
         rotate_left
         · intro w'
           go_simp
           with_reducible rfl
         rotate_left
         · simp only[Act.put,List.setIfInBounds_toArray,List.set_cons_zero,List.set_cons_succ,i64_w,i32_w];rfl
         refine pure_ (i:=2) (N:=some 106) (v:=?_) (a':=?_) #[true,true,true,false,false,false,false,false,false,false,false,false,false,false,false,false,false,false,false] rfl rfl (z0r HT_.out (by kernel_rfl)) (fun _ _ _ h=>h) (Or.inl ⟨by rfl,?_⟩) ?_ ?_
         rotate_left
         · intro w'
           go_simp
           with_reducible rfl
         rotate_left
         · simp only[Act.put,List.setIfInBounds_toArray,List.set_cons_zero,List.set_cons_succ,i64_w,i32_w];rfl
         refine pure_ (i:=3) (N:=some 107) (v:=?_) (a':=?_) #[true,true,true,true,false,false,false,false,false,false,false,false,false,false,false,false,false,false,false] rfl rfl (z0r HT_.out (by kernel_rfl)) (fun _ _ _ h=>h) (Or.inl ⟨by rfl,?_⟩) ?_ ?_
         rotate_left
         · intro w'
           go_simp
           with_reducible rfl
         rotate_left
         · simp only[Act.put,List.setIfInBounds_toArray,List.set_cons_zero,List.set_cons_succ,i64_w,i32_w];rfl
         refine pure_ (i:=4) (N:=some 108) (v:=?_) (a':=?_) #[true,true,true,true,true,false,false,false,false,false,false,false,false,false,false,false,false,false,false] rfl rfl (z0r HT_.out (by kernel_rfl)) (fun _ _ _ h=>h) (Or.inl ⟨by rfl,?_⟩) ?_ ?_
         rotate_left
         · intro w'
           go_simp
           with_reducible rfl
         rotate_left
         · simp only[Act.put,List.setIfInBounds_toArray,List.set_cons_zero,List.set_cons_succ,i64_w,i32_w];rfl
         refine pure_ (i:=5) (N:=some 109) (v:=?_) (a':=?_) #[true,true,true,true,true,true,false,false,false,false,false,false,false,false,false,false,false,false,false] rfl rfl (z0r HT_.out (by kernel_rfl)) (fun _ _ _ h=>h) (Or.inl ⟨by rfl,?_⟩) ?_ ?_
         rotate_left
         · intro w'
           go_simp
           with_reducible rfl
         rotate_left
         · simp only[Act.put,List.setIfInBounds_toArray,List.set_cons_zero,List.set_cons_succ,i64_w,i32_w];rfl
         refine pure_ (i:=6) (N:=some 110) (v:=?_) (a':=?_) #[true,true,true,true,true,true,true,false,false,false,false,false,false,false,false,false,false,false,false] rfl rfl (z0r HT_.out (by kernel_rfl)) (fun _ _ _ h=>h) (Or.inl ⟨by rfl,?_⟩) ?_ ?_
         rotate_left
         · intro w'
           go_simp
           with_reducible rfl
         rotate_left
         · simp only[Act.put,List.setIfInBounds_toArray,List.set_cons_zero,List.set_cons_succ,i64_w,i32_w];rfl
         refine pure_ (i:=7) (N:=some 111) (v:=?_) (a':=?_) #[true,true,true,true,true,true,true,true,false,false,false,false,false,false,false,false,false,false,false] rfl rfl (z0r HT_.out (by kernel_rfl)) (fun _ _ _ h=>h) (Or.inl ⟨by rfl,?_⟩) ?_ ?_
         rotate_left
         · intro w'
           go_simp
           with_reducible rfl
         rotate_left
         · simp only[Act.put,List.setIfInBounds_toArray,List.set_cons_zero,List.set_cons_succ,i64_w,i32_w];rfl
         refine pure_ (i:=8) (N:=some 112) (v:=?_) (a':=?_) #[true,true,true,true,true,true,true,true,true,false,false,false,false,false,false,false,false,false,false] rfl rfl (z0r HT_.out (by kernel_rfl)) (fun _ _ _ h=>h) (Or.inl ⟨by rfl,?_⟩) ?_ ?_
         rotate_left
         · intro w'
           go_simp
           with_reducible rfl
         rotate_left
         · simp only[Act.put,List.setIfInBounds_toArray,List.set_cons_zero,List.set_cons_succ,i64_w,i32_w];rfl
         refine take_ (i:=9) (N:=some 113) (v:=?_) (a':=?_) #[true,true,true,true,true,true,true,true,true,true,false,false,false,false,false,false,false,false,false] rfl rfl (z1j HT_.out HW_.out (by kernel_rfl)) (fun _ _ _ h=>h) (Or.inl ⟨by rfl,?_⟩) hHeld ?_ ?_
         rotate_left
         · rintro w' ⟨s1,s2,s3,s4⟩
           go_simp
           with_reducible rfl
         rotate_left
         · simp only[Act.put,List.setIfInBounds_toArray,List.set_cons_zero,List.set_cons_succ,i64_w,i32_w];rfl
         refine pure_ (i:=10) (N:=some 114) (v:=?_) (a':=?_) #[true,true,true,true,true,true,true,true,true,true,true,false,false,false,false,false,false,false,false] rfl rfl (z0r HT_.out (by kernel_rfl)) (fun _ _ _ h=>h) (Or.inl ⟨by rfl,?_⟩) ?_ ?_
         rotate_left
         · intro w'
           go_simp
           with_reducible rfl
         rotate_left
         · simp only[Act.put,List.setIfInBounds_toArray,List.set_cons_zero,List.set_cons_succ,i64_w,i32_w];rfl
         refine pure_ (i:=11) (N:=some 115) (v:=?_) (a':=?_) #[true,true,true,true,true,true,true,true,true,true,true,true,false,false,false,false,false,false,false] rfl rfl (z0r HT_.out (by kernel_rfl)) (fun _ _ _ h=>h) (Or.inl ⟨by rfl,?_⟩) ?_ ?_
         rotate_left
         · intro w'
           go_simp
           with_reducible rfl
         rotate_left
         · simp only[Act.put,List.setIfInBounds_toArray,List.set_cons_zero,List.set_cons_succ,i64_w,i32_w];rfl
         refine take_ (i:=12) (N:=some 116) (v:=?_) (a':=?_) #[true,true,true,true,true,true,true,true,true,true,true,true,true,false,false,false,false,false,false] rfl rfl (z1j HT_.out HW_.out (by kernel_rfl)) (fun _ _ _ h=>h) (Or.inl ⟨by rfl,?_⟩) hHeld ?_ ?_
         rotate_left
         · rintro w' ⟨s1,s2,s3,s4⟩
           go_simp
           with_reducible rfl
         rotate_left
         · simp only[Act.put,List.setIfInBounds_toArray,List.set_cons_zero,List.set_cons_succ,i64_w,i32_w];rfl
         refine one_ (i:=13) (N:=some 117) #[true,true,true,true,true,true,true,true,true,true,true,true,true,true,false,false,false,false,false] rfl rfl (z2a HT_.out (by kernel_rfl)) (by decide) (fun K hK=>?_);refine goes_ Tryz.func51 (by kernel_rfl) rfl #[.agg #[.string bs,.int .i64 b.2],.int .i64 2] (by rfl) rfl rfl zA03 ?_;refine(HLB.out _).mono ?_;rintro e V2 ⟨rfl,hb⟩;refine⟨_,rfl,?_⟩;replace HMV:=z00.mk (HMV.out.below hb);refine hK.out _ _ (⟨z07 hb hHeld.1,z07 hb hHeld.2.1,z07 hb hHeld.2.2.1,z07 hb hHeld.2.2.2⟩) (fun hHeld=>?_);clear hK K;refine norm_ (a':=?_) ?_ ?_
         rotate_left
         · show Act.put _ (some 117) _=_;simp only[Act.put,List.setIfInBounds_toArray,List.set_cons_zero,List.set_cons_succ,i64_w,i32_w];rfl
         refine pure_ (i:=14) (N:=some 118) (v:=?_) (a':=?_) #[true,true,true,true,true,true,true,true,true,true,true,true,true,true,true,false,false,false,false] rfl rfl (z0r HT_.out (by kernel_rfl)) (fun _ _ _ h=>h) (Or.inl ⟨by rfl,?_⟩) ?_ ?_
         rotate_left
         · intro w'
           go_simp
           with_reducible rfl
         rotate_left
         · simp only[Act.put,List.setIfInBounds_toArray,List.set_cons_zero,List.set_cons_succ,i64_w,i32_w];rfl
         refine pure_ (i:=15) (N:=some 119) (v:=?_) (a':=?_) #[true,true,true,true,true,true,true,true,true,true,true,true,true,true,true,true,false,false,false] rfl rfl (z0r HT_.out (by kernel_rfl)) (fun _ _ _ h=>h) (Or.inl ⟨by rfl,?_⟩) ?_ ?_
         rotate_left
         · intro w'
           go_simp
           with_reducible rfl
         rotate_left
         · simp only[Act.put,List.setIfInBounds_toArray,List.set_cons_zero,List.set_cons_succ,i64_w,i32_w];rfl
         refine one_ (i:=16) (N:=some 120) #[true,true,true,true,true,true,true,true,true,true,true,true,true,true,true,true,true,false,false] rfl rfl (z2a HT_.out (by kernel_rfl)) (by decide) (fun K hK=>?_);refine zbf (w1:=?_) (v:=?_) (by rfl) rfl ?_ ?_
         rotate_left 2
         · go_simp
           constructor
           · rfl
           · rfl
         refine hK.out _ _ (⟨(z07 (z03 (Below.refl _ _) _) hHeld.1),(z07 (z03 (Below.refl _ _) _) hHeld.2.1),(z07 (z03 (Below.refl _ _) _) hHeld.2.2.1),(z07 (z03 (Below.refl _ _) _) hHeld.2.2.2)⟩) (fun hHeld=>?_);clear hK K;refine norm_ (a':=?_) ?_ ?_
         rotate_left
         · show Act.put _ (some 120) _=_;simp only[Act.put,List.setIfInBounds_toArray,List.set_cons_zero,List.set_cons_succ,i64_w,i32_w];rfl
         refine last_ (i:=17) (N:=some 121) #[true,true,true,true,true,true,true,true,true,true,true,true,true,true,true,true,true,true,false] rfl rfl (z2a HT_.out (by kernel_rfl)) (by decide) (fun K hK=>?_);refine Kd.R_append_step kP w.heap.size (by rfl) (.tmp 107) (.tmp 120) 82 85 (.agg #[.string ⟨#[]⟩,.int .i64 0]) 24 rfl Tryz.underlying82 infoP rfl (by decide) (by omega) (.slice (some ⟨bk,o,none⟩) q c4) (memS r) ((as1++(⟨#[124]⟩:ByteArray))++lb',1) [.string ((as1++(⟨#[124]⟩:ByteArray))++lb'),.int .i64 1] (fun k=>w.heap.size≤k∧k≠w.heap.size) (fun _=>False) rfl rfl (zbb _ _ _ _) (fun _ hk=>hk.elim) (fun k hk=>⟨Nat.le_trans HMV.out.B.size hk,by have:=z26 HMV.out.b3;omega⟩) (HRT.out _ HMV.out.own) HMV.out.B HMV.out.B.size (by rw[z2o,HRL.out];have:=HQM.out;omega) ?_;intro u' w3 ho hb hg hat;have HM2:=z00.mk (PaM.after (p:=(a.1++(markL 4++z1y b 2),1)) HMV.out (by rw[←HTX.out];exact ho) hb hg);clear ho hb hg hat hHeld;refine hK.out _ _ ?_;clear hK K;refine norm_ (a':=?_) ?_ ?_
         rotate_left
         · show Act.put _ (some 121) _=_;simp only[Act.put,List.setIfInBounds_toArray,List.set_cons_zero,List.set_cons_succ,i64_w,i32_w];rfl
         refine pure_ (i:=18) (N:=some 4) (v:=?_) (a':=?_) #[true,true,true,true,true,true,true,true,true,true,true,true,true,true,true,true,true,true,true] rfl rfl (z0r HT_.out (by kernel_rfl)) (fun _ _ _ h=>h) (Or.inl ⟨by rfl,?_⟩) ?_ ?_
         rotate_left
         · intro w'
           go_simp
           with_reducible rfl
         rotate_left
         · simp only[Act.put,List.setIfInBounds_toArray,List.set_cons_zero,List.set_cons_succ,i64_w,i32_w];rfl
         refine done_ (z4w HT_.out (by kernel_rfl)) ?_;clear hw4;go_wp2
         go_roundg k1
         case rel=>exact⟨i+1,_,by go_num,by omega,by omega,HS2,HM2⟩
         case measure=>omega
       · -- mark
         clear g2;go_wp2;have HB0:=z03 (Below.refl wr.heap.size wr) (.cells #[.int .i64 5,.string ⟨#[]⟩] 69);have HM0:=z00.mk (HM.out.below HB0);have hbx:=z0q wr (.cells #[.int .i64 5,.string ⟨#[]⟩] 69);obtain⟨nb,enb⟩:∃n,wr.heap.size=n:=⟨_,rfl⟩
         rw[enb]at hbx ⊢
         generalize wr.alloc (.cells #[.int .i64 5,.string ⟨#[]⟩] 69)=W0 at HM0 hbx ⊢
         have hown:=HM0.out.own;have hC4:=(Kd.R_reads' hown).2.2;obtain⟨bk,o,rfl,y0,y1⟩:=at_P hC4 m (baL b.1,b.2) (by have:=z7x [] b r;rw[HML.out]at this;exact this);obtain⟨rfl,cur,hcur⟩:=zcu hown;obtain⟨bs,hbs⟩:∃bs,baL b.1=bs:=⟨_,rfl⟩
         simp only[hbs,Nat.zero_add]at y0;simp only[Nat.zero_add]at y1;have hcb:W0.cell? ⟨nb,0,none⟩=some (.int .i64 5):=(z01 hbx 0).trans rfl;have hcs:W0.cell? ⟨w.heap.size,5,none⟩=some (.string ⟨#[42]⟩):=(z01 HM0.out.b3 5).trans rfl;have hwb:b.1.length≤5000:=Nat.le_trans (zal (by simp)) HLN.out.2;have HLB:=z00.mk (fun V=>z1u.calls bs b.2 3 (baL (z1y b 3)) V zA12);have hlb:=z3o b 3;have HTX:=z00.mk (show baL (z1y b 3)++(⟨#[42]⟩:ByteArray)=baL (z1y b 3++markL 5)from by rw[show(⟨#[42]⟩:ByteArray)=baL [42]from rfl,z7v];rfl);obtain⟨lb',hlb'⟩:∃x,baL (z1y b 3)=x:=⟨_,rfl⟩
         have hlb2:lb'.size≤5002:=by rw[←hlb',z1x];omega
         rw[hlb']at HLB HTX;have HBS:=z00.mk hbs;have HCUR:=z00.mk hcur;have p0:(0:Int)≤(m:Int):=by omega
         have p1:(m:Int)<(m:Int)+1:=by omega
         have hmz:m * 2<(m+1) * 2:=by omega
         have kq1:(9223372036854775807<lb'.size+1)=False:=eq_false (by omega);have HS2:=z00.mk (z4a HS.out hlt HX.out.1 (z8u (b:=b) (r:=r) (by decide) (by decide) (by decide)));have HSET:=z00.mk (zc1 b (z1y b 3++markL 5,3) r m HML.out);clear HS hown hC4 hbs hcur hbx HB0 HM enb x0 x1 hwb hlb hlb';have hw1:IntKind.i64.wrap ((m:Int)+1 - 1)=(m:Int):=by rw[i64_w];unfold wrap64;omega
         have hw2:IntKind.i64.wrap (m:Int)=(m:Int):=by rw[i64_w];unfold wrap64;omega
         have hw3:(m:Int)+1 - 1=(m:Int):=by omega
         go_region_held3 (fun w'=>w'.cell? ⟨bk,m * 2,none⟩=some (.string bs)∧w'.cell? ⟨bk,m * 2+1,none⟩=some (.int .i64 b.2)∧w'.cell? ⟨nb,0,none⟩=some (.int .i64 5)∧w'.cell? ⟨w.heap.size,5,none⟩=some (.string ⟨#[42]⟩)) (go_keep) (fail)
         rename_i hHeld0
         go_wp2_with fail
         clear hw1 hw2 hw3 hHeld0;refine(HLB.out _).mono ?_;rintro e V ⟨rfl,hb⟩;have hB1:Below W0.heap.size W0 V:=z09 (z05 (z03 (Below.refl _ _) _)) (z05 (z03 (Below.refl W0.heap.size W0) (.cells #[.string bs,.int .i64 b.2] 85))).size hb;have HMV:=z00.mk (HM0.out.below hB1);have z0:=z07 hB1 y0;have z1:=z07 hB1 y1;have hfz:=z02 (z0b HCUR.out hB1) (m * 2);have hfz1:=z02 (z0b HCUR.out hB1) (m * 2+1);clear hb hB1 hcb hcs y0 y1 HM0;have HCC:=z00.mk (show ∀(j:Nat) (u:Value),([.string bs,.int .i64 b.2]:List Value)[j]?=some u→V.cell? ⟨bk,(m:Int).toNat * kP.sz+j,none⟩=some u from fun j u hj=>by
          match j,hj with
          |0,hj=>obtain rfl:=Option.some.inj hj;exact z0
          |1,hj=>obtain rfl:=Option.some.inj hj;exact z1)
         clear z0 z1
         go_wp2_with ((with_reducible refine z3v (t:=85) (p:=81) (v:=.tmp 80) rfl ?_);refine Kd.R_store kP (w0:=w) w.heap.size rfl rfl 85 (.tmp 81) (.tmp 80) rfl 85 (g:=bk) (n:=m+1) (cap:=c4) (o':=m * 2) (m:Int) 0 (memS (b::r)) (lb'++(⟨#[42]⟩:ByteArray),3) (.agg #[.string (lb'++(⟨#[42]⟩:ByteArray)),.int .i64 3]) [.string (lb'++(⟨#[42]⟩:ByteArray)),.int .i64 3] [.string bs,.int .i64 b.2] (fun k=>w.heap.size≤k∧k≠w.heap.size) (fun _=>False) (by first|rfl|(simp;done)) rfl rfl rfl (by kernel_rfl) zA13 HMV.out.own p0 (by omega) rfl HCC.out (Nat.le_refl 2) (zbb _ _ _ _) (fun _ hk=>hk.elim) HMV.out.B ?_;intro w3 ho hb hg;have HM2:=z00.mk (show PaM w w3 w.heap.size (.slice (some ⟨bk,0,none⟩) (m+1) c4) ((z1y b 3++markL 5,3)::r)from⟨hb,by rw[←HSET.out,←HTX.out];exact ho,z3b HMV.out.b3 hg (fun he=>(HMV.out.own.1 w.heap.size he.symm).2 rfl),HMV.out.h3⟩);clear ho hb hg)
         go_wp2
         go_roundg k1
         case rel=>exact⟨i+1,_,by go_num,by omega,by omega,HS2,HM2⟩
         case measure=>omega
       · -- mark
         clear g2;go_wp2;have HB0:=z03 (Below.refl wr.heap.size wr) (.cells #[.int .i64 6,.string ⟨#[]⟩] 69);have HM0:=z00.mk (HM.out.below HB0);have hbx:=z0q wr (.cells #[.int .i64 6,.string ⟨#[]⟩] 69);obtain⟨nb,enb⟩:∃n,wr.heap.size=n:=⟨_,rfl⟩
         rw[enb]at hbx ⊢
         generalize wr.alloc (.cells #[.int .i64 6,.string ⟨#[]⟩] 69)=W0 at HM0 hbx ⊢
         have hown:=HM0.out.own;have hC4:=(Kd.R_reads' hown).2.2;obtain⟨bk,o,rfl,y0,y1⟩:=at_P hC4 m (baL b.1,b.2) (by have:=z7x [] b r;rw[HML.out]at this;exact this);obtain⟨rfl,cur,hcur⟩:=zcu hown;obtain⟨bs,hbs⟩:∃bs,baL b.1=bs:=⟨_,rfl⟩
         simp only[hbs,Nat.zero_add]at y0;simp only[Nat.zero_add]at y1;have hcb:W0.cell? ⟨nb,0,none⟩=some (.int .i64 6):=(z01 hbx 0).trans rfl;have hcs:W0.cell? ⟨w.heap.size,6,none⟩=some (.string ⟨#[43]⟩):=(z01 HM0.out.b3 6).trans rfl;have hwb:b.1.length≤5000:=Nat.le_trans (zal (by simp)) HLN.out.2;have HLB:=z00.mk (fun V=>z1u.calls bs b.2 3 (baL (z1y b 3)) V zA12);have hlb:=z3o b 3;have HTX:=z00.mk (show baL (z1y b 3)++(⟨#[43]⟩:ByteArray)=baL (z1y b 3++markL 6)from by rw[show(⟨#[43]⟩:ByteArray)=baL [43]from rfl,z7v];rfl);obtain⟨lb',hlb'⟩:∃x,baL (z1y b 3)=x:=⟨_,rfl⟩
         have hlb2:lb'.size≤5002:=by rw[←hlb',z1x];omega
         rw[hlb']at HLB HTX;have HBS:=z00.mk hbs;have HCUR:=z00.mk hcur;have p0:(0:Int)≤(m:Int):=by omega
         have p1:(m:Int)<(m:Int)+1:=by omega
         have hmz:m * 2<(m+1) * 2:=by omega
         have kq1:(9223372036854775807<lb'.size+1)=False:=eq_false (by omega);have HS2:=z00.mk (z4a HS.out hlt HX.out.1 (z8u (b:=b) (r:=r) (by decide) (by decide) (by decide)));have HSET:=z00.mk (zc1 b (z1y b 3++markL 6,3) r m HML.out);clear HS hown hC4 hbs hcur hbx HB0 HM enb x0 x1 hwb hlb hlb';have hw1:IntKind.i64.wrap ((m:Int)+1 - 1)=(m:Int):=by rw[i64_w];unfold wrap64;omega
         have hw2:IntKind.i64.wrap (m:Int)=(m:Int):=by rw[i64_w];unfold wrap64;omega
         have hw3:(m:Int)+1 - 1=(m:Int):=by omega
         go_region_held3 (fun w'=>w'.cell? ⟨bk,m * 2,none⟩=some (.string bs)∧w'.cell? ⟨bk,m * 2+1,none⟩=some (.int .i64 b.2)∧w'.cell? ⟨nb,0,none⟩=some (.int .i64 6)∧w'.cell? ⟨w.heap.size,6,none⟩=some (.string ⟨#[43]⟩)) (go_keep) (fail)
         rename_i hHeld0
         go_wp2_with fail
         clear hw1 hw2 hw3 hHeld0;refine(HLB.out _).mono ?_;rintro e V ⟨rfl,hb⟩;have hB1:Below W0.heap.size W0 V:=z09 (z05 (z03 (Below.refl _ _) _)) (z05 (z03 (Below.refl W0.heap.size W0) (.cells #[.string bs,.int .i64 b.2] 85))).size hb;have HMV:=z00.mk (HM0.out.below hB1);have z0:=z07 hB1 y0;have z1:=z07 hB1 y1;have hfz:=z02 (z0b HCUR.out hB1) (m * 2);have hfz1:=z02 (z0b HCUR.out hB1) (m * 2+1);clear hb hB1 hcb hcs y0 y1 HM0;have HCC:=z00.mk (show ∀(j:Nat) (u:Value),([.string bs,.int .i64 b.2]:List Value)[j]?=some u→V.cell? ⟨bk,(m:Int).toNat * kP.sz+j,none⟩=some u from fun j u hj=>by
          match j,hj with
          |0,hj=>obtain rfl:=Option.some.inj hj;exact z0
          |1,hj=>obtain rfl:=Option.some.inj hj;exact z1)
         clear z0 z1
         go_wp2_with ((with_reducible refine z3v (t:=85) (p:=81) (v:=.tmp 80) rfl ?_);refine Kd.R_store kP (w0:=w) w.heap.size rfl rfl 85 (.tmp 81) (.tmp 80) rfl 85 (g:=bk) (n:=m+1) (cap:=c4) (o':=m * 2) (m:Int) 0 (memS (b::r)) (lb'++(⟨#[43]⟩:ByteArray),3) (.agg #[.string (lb'++(⟨#[43]⟩:ByteArray)),.int .i64 3]) [.string (lb'++(⟨#[43]⟩:ByteArray)),.int .i64 3] [.string bs,.int .i64 b.2] (fun k=>w.heap.size≤k∧k≠w.heap.size) (fun _=>False) (by first|rfl|(simp;done)) rfl rfl rfl (by kernel_rfl) zA13 HMV.out.own p0 (by omega) rfl HCC.out (Nat.le_refl 2) (zbb _ _ _ _) (fun _ hk=>hk.elim) HMV.out.B ?_;intro w3 ho hb hg;have HM2:=z00.mk (show PaM w w3 w.heap.size (.slice (some ⟨bk,0,none⟩) (m+1) c4) ((z1y b 3++markL 6,3)::r)from⟨hb,by rw[←HSET.out,←HTX.out];exact ho,z3b HMV.out.b3 hg (fun he=>(HMV.out.own.1 w.heap.size he.symm).2 rfl),HMV.out.h3⟩);clear ho hb hg)
         go_wp2
         go_roundg k1
         case rel=>exact⟨i+1,_,by go_num,by omega,by omega,HS2,HM2⟩
         case measure=>omega
       · -- mark
         clear g2;go_wp2;have HB0:=z03 (Below.refl wr.heap.size wr) (.cells #[.int .i64 7,.string ⟨#[]⟩] 69);have HM0:=z00.mk (HM.out.below HB0);have hbx:=z0q wr (.cells #[.int .i64 7,.string ⟨#[]⟩] 69);obtain⟨nb,enb⟩:∃n,wr.heap.size=n:=⟨_,rfl⟩
         rw[enb]at hbx ⊢
         generalize wr.alloc (.cells #[.int .i64 7,.string ⟨#[]⟩] 69)=W0 at HM0 hbx ⊢
         have hown:=HM0.out.own;have hC4:=(Kd.R_reads' hown).2.2;obtain⟨bk,o,rfl,y0,y1⟩:=at_P hC4 m (baL b.1,b.2) (by have:=z7x [] b r;rw[HML.out]at this;exact this);obtain⟨rfl,cur,hcur⟩:=zcu hown;obtain⟨bs,hbs⟩:∃bs,baL b.1=bs:=⟨_,rfl⟩
         simp only[hbs,Nat.zero_add]at y0;simp only[Nat.zero_add]at y1;have hcb:W0.cell? ⟨nb,0,none⟩=some (.int .i64 7):=(z01 hbx 0).trans rfl;have hcs:W0.cell? ⟨w.heap.size,7,none⟩=some (.string ⟨#[63]⟩):=(z01 HM0.out.b3 7).trans rfl;have hwb:b.1.length≤5000:=Nat.le_trans (zal (by simp)) HLN.out.2;have HLB:=z00.mk (fun V=>z1u.calls bs b.2 3 (baL (z1y b 3)) V zA12);have hlb:=z3o b 3;have HTX:=z00.mk (show baL (z1y b 3)++(⟨#[63]⟩:ByteArray)=baL (z1y b 3++markL 7)from by rw[show(⟨#[63]⟩:ByteArray)=baL [63]from rfl,z7v];rfl);obtain⟨lb',hlb'⟩:∃x,baL (z1y b 3)=x:=⟨_,rfl⟩
         have hlb2:lb'.size≤5002:=by rw[←hlb',z1x];omega
         rw[hlb']at HLB HTX;have HBS:=z00.mk hbs;have HCUR:=z00.mk hcur;have p0:(0:Int)≤(m:Int):=by omega
         have p1:(m:Int)<(m:Int)+1:=by omega
         have hmz:m * 2<(m+1) * 2:=by omega
         have kq1:(9223372036854775807<lb'.size+1)=False:=eq_false (by omega);have HS2:=z00.mk (z4a HS.out hlt HX.out.1 (z8u (b:=b) (r:=r) (by decide) (by decide) (by decide)));have HSET:=z00.mk (zc1 b (z1y b 3++markL 7,3) r m HML.out);clear HS hown hC4 hbs hcur hbx HB0 HM enb x0 x1 hwb hlb hlb';have hw1:IntKind.i64.wrap ((m:Int)+1 - 1)=(m:Int):=by rw[i64_w];unfold wrap64;omega
         have hw2:IntKind.i64.wrap (m:Int)=(m:Int):=by rw[i64_w];unfold wrap64;omega
         have hw3:(m:Int)+1 - 1=(m:Int):=by omega
         go_region_held3 (fun w'=>w'.cell? ⟨bk,m * 2,none⟩=some (.string bs)∧w'.cell? ⟨bk,m * 2+1,none⟩=some (.int .i64 b.2)∧w'.cell? ⟨nb,0,none⟩=some (.int .i64 7)∧w'.cell? ⟨w.heap.size,7,none⟩=some (.string ⟨#[63]⟩)) (go_keep) (fail)
         rename_i hHeld0
         go_wp2_with fail
         clear hw1 hw2 hw3 hHeld0;refine(HLB.out _).mono ?_;rintro e V ⟨rfl,hb⟩;have hB1:Below W0.heap.size W0 V:=z09 (z05 (z03 (Below.refl _ _) _)) (z05 (z03 (Below.refl W0.heap.size W0) (.cells #[.string bs,.int .i64 b.2] 85))).size hb;have HMV:=z00.mk (HM0.out.below hB1);have z0:=z07 hB1 y0;have z1:=z07 hB1 y1;have hfz:=z02 (z0b HCUR.out hB1) (m * 2);have hfz1:=z02 (z0b HCUR.out hB1) (m * 2+1);clear hb hB1 hcb hcs y0 y1 HM0;have HCC:=z00.mk (show ∀(j:Nat) (u:Value),([.string bs,.int .i64 b.2]:List Value)[j]?=some u→V.cell? ⟨bk,(m:Int).toNat * kP.sz+j,none⟩=some u from fun j u hj=>by
          match j,hj with
          |0,hj=>obtain rfl:=Option.some.inj hj;exact z0
          |1,hj=>obtain rfl:=Option.some.inj hj;exact z1)
         clear z0 z1
         go_wp2_with ((with_reducible refine z3v (t:=85) (p:=81) (v:=.tmp 80) rfl ?_);refine Kd.R_store kP (w0:=w) w.heap.size rfl rfl 85 (.tmp 81) (.tmp 80) rfl 85 (g:=bk) (n:=m+1) (cap:=c4) (o':=m * 2) (m:Int) 0 (memS (b::r)) (lb'++(⟨#[63]⟩:ByteArray),3) (.agg #[.string (lb'++(⟨#[63]⟩:ByteArray)),.int .i64 3]) [.string (lb'++(⟨#[63]⟩:ByteArray)),.int .i64 3] [.string bs,.int .i64 b.2] (fun k=>w.heap.size≤k∧k≠w.heap.size) (fun _=>False) (by first|rfl|(simp;done)) rfl rfl rfl (by kernel_rfl) zA13 HMV.out.own p0 (by omega) rfl HCC.out (Nat.le_refl 2) (zbb _ _ _ _) (fun _ hk=>hk.elim) HMV.out.B ?_;intro w3 ho hb hg;have HM2:=z00.mk (show PaM w w3 w.heap.size (.slice (some ⟨bk,0,none⟩) (m+1) c4) ((z1y b 3++markL 7,3)::r)from⟨hb,by rw[←HSET.out,←HTX.out];exact ho,z3b HMV.out.b3 hg (fun he=>(HMV.out.own.1 w.heap.size he.symm).2 rfl),HMV.out.h3⟩);clear ho hb hg)
         go_wp2
         go_roundg k1
         case rel=>exact⟨i+1,_,by go_num,by omega,by omega,HS2,HM2⟩
         case measure=>omega
    · obtain rfl:i=l.length:=by omega
      have hz:decide ((l.length:Int)<(l.length:Int))=false:=decide_eq_false (by omega);have hs:=HS.out;rw[List.take_length]at hs;have hwt:=z6z _ _ _ hs;have hml:=z2o st;obtain⟨A4,c4,hu⟩:=Kd.R_slice HM.out.own;rw[hml]at hu;subst hu;have HE:=z00.mk (zj2 (by omega) hs);have HB:=z00.mk HM.out.B;clear HS hml hs
      cases st with
      |nil =>
       clear HM hwt;go_wp2
       go_ret
       exact⟨by rw[HE.out];rfl,HB.out⟩
      |cons b r =>
       cases r with
       |cons b2 r =>
        have g1:(((b::b2::r).length:Int)==1)=false:=beq_eq_false_iff_ne.2 (by simp;omega);have g2:(((b::b2::r).length:Int) !=1)=true:=bne_iff_ne.2 (by simp;omega);obtain⟨k2,hk2⟩:∃k2,(b::b2::r).length=k2:=⟨_,rfl⟩
        rw[hk2]at g1 g2 ⊢;clear HM hwt hk2;go_wp2
        go_ret
        exact⟨by rw[HE.out];rfl,HB.out⟩
       |nil =>
        have hC4:=(Kd.R_reads' HM.out.own).2.2;obtain⟨bk,o,rfl,y0,y1⟩:=at_P hC4 0 (baL b.1,b.2) rfl;have hwb:b.1.length≤5000:=by simp only[wt]at hwt;omega
        obtain⟨kd,hkd⟩:=deep_S b.1 (by omega);have HD:=z00.mk (fun V (h:LaidW V)=>z1s.calls kd (baL b.1) ((deepS b.1:Nat):Int) V h hkd);obtain⟨bs,hbs⟩:∃bs,baL b.1=bs:=⟨_,rfl⟩
        have HBS:=z00.mk hbs;simp only[hbs]at y0;rw[hbs]at HD;obtain⟨dp,hdp⟩:∃d,deepS b.1=d:=⟨_,rfl⟩
        have HE2:=z00.mk (show pathL l=if 32<dp then[]else b.1 from by rw[HE.out,←hdp];rfl);rw[hdp]at HD;rw[Nat.zero_mul,Nat.add_zero]at y0;clear hC4 hwt hkd hbs hdp HE HM y1 hwb
        go_wp2_with fail
        refine(HD.out _ (HLW.out.below HB.out)).mono ?_;rintro e V ⟨rfl,hb⟩;have HB1:=z00.mk (z09 HB.out HB.out.size hb);have z0:=z07 hb y0;clear hb y0
        by_cases h32:32<dp
        · have g1:decide ((32:Int)<(dp:Int))=true:=decide_eq_true (by omega);have g2:decide (32<dp)=true:=decide_eq_true h32;go_wp2
          go_ret
          exact⟨by rw[HE2.out,if_pos h32];rfl,HB1.out⟩
        · have g1:decide ((32:Int)<(dp:Int))=false:=decide_eq_false (by omega);have g2:decide (32<dp)=false:=decide_eq_false h32;go_wp2
          go_ret
          exact⟨by rw[HE2.out,if_neg h32,HBS.out];rfl,HB1.out⟩
end Go.Proofs.YthebhbomlllpeaaGreatDoor.X
namespace Go.Proofs.YthebhbomlllpeaaGreatDoor.X
open Go.RowKit Go.Proofs.YthebhbomlllpeaaGreatDoorW.PrintWords Go.Proofs.YthebhbomlllpeaaGreatDoorW.PrintLast Go.Proofs.YthebhbomlllpeaaGreatDoorW.PrintMore
def numDig (c:Int):Int:=if 97≤c then c - 97+10 else(c - 48) % 256
def numStep (b n c:Int):Int:=IntKind.u64.wrap (IntKind.u64.wrap (n * b)+numDig c)
def zkq (s:ByteArray) (b:Int):Nat→Nat→Int→Int
 |0,_,n=>n
 |d+1,pos,n=>if pos<s.size then zkq s b d (pos+(Utf8.decode s pos).2) (numStep b n (bt s (pos:Int)))else n
def z3x.f (a0:ByteArray) (a1:Int):Option Int:=some (zkq a0 a1 a0.size 0 0)
end Go.Proofs.YthebhbomlllpeaaGreatDoor.X
namespace Go.Proofs.YthebhbomlllpeaaGreatDoor.X
open Go.RowKit Go.Proofs.YthebhbomlllpeaaGreatDoorW.PrintWords Go.Proofs.YthebhbomlllpeaaGreatDoorW.PrintLast Go.Proofs.YthebhbomlllpeaaGreatDoorW.PrintMore
attribute [local go_sem] z4e z49 z54 z50 z3l z3j z4h z4g
def z3g.j0:Nat→ByteArray→Bool→Int→Int→ByteArray→Option (Int × Int × ByteArray × Int)
 |0,_,_,_,_,_=>none
 |k+1,x0,x34,x197000,x197001,x197002=>if x34=true then((z3x.f x0 10).bind fun t201=>((z2c.f k 1 (wrap64 (t201)) (⟨#[]⟩:ByteArray)).bind fun t202=>(if t202.toList=x0.toList then(some (1,wrap64 (t201),(⟨#[]⟩:ByteArray),0))else(some (0,0,(⟨#[]⟩:ByteArray),2)))))else((z2c.f k x197000 x197001 x197002).bind fun t203=>(if t203.toList=x0.toList then(some (x197000,x197001,x197002,0))else(some (0,0,(⟨#[]⟩:ByteArray),2))))
def z3g.f (k:Nat) (a0:ByteArray):Option (Int × Int × ByteArray × Int):=if a0.toList=([]:List UInt8)then(some (0,0,(⟨#[]⟩:ByteArray),2))else(if 0<(a0.size:Int)then(if(bt a0 0)=35 then(if 1≤(a0.size:Int)then((z3x.f (a0.extract 1 a0.size) 16).bind fun t197=>((z2c.f k 2 (wrap64 (t197)) (⟨#[]⟩:ByteArray)).bind fun t198=>(if t198.toList=a0.toList then(some (2,wrap64 (t197),(⟨#[]⟩:ByteArray),0))else(some (0,0,(⟨#[]⟩:ByteArray),2)))))else(none))else(if(bt a0 0)=45 then(if 1≤(a0.size:Int)then((z3x.f (a0.extract 1 a0.size) 10).bind fun t199=>((z2c.f k 1 (wrap64 (IntKind.u64.wrap (-t199))) (⟨#[]⟩:ByteArray)).bind fun t200=>(if t200.toList=a0.toList then(some (1,wrap64 (IntKind.u64.wrap (-t199)),(⟨#[]⟩:ByteArray),0))else(some (0,0,(⟨#[]⟩:ByteArray),2)))))else(none))else(if(bt a0 0)≥48 then(z3g.j0 k a0 (decide ((bt a0 0)≤57)) 3 0 a0)else(z3g.j0 k a0 false 3 0 a0))))else(none))

def z28.l0:Nat→ByteArray→Int→Bool→Int→Option (Int)
 |0,_,_,_,_=>none
 |k+1,x0,x1,x2,x7=>if(wrap64 (x1+x7))<(x0.size:Int)then(if 0≤(wrap64 (x1+x7))then((z5g.f (bt x0 (wrap64 (x1+x7)))).bind fun t194=>(if t194=true then(if x2=true then(if(bt x0 (wrap64 (x1+x7)))≥65 then(if((bt x0 (wrap64 (x1+x7)))≤90)then(some x7)else(z28.l0 k x0 x1 x2 (wrap64 (x7+1))))else(z28.l0 k x0 x1 x2 (wrap64 (x7+1))))else(z28.l0 k x0 x1 x2 (wrap64 (x7+1))))else(some x7)))else(none))else(some x7)
def z28.f (k:Nat) (a0:ByteArray) (a1:Int) (a2:Bool):Option (Int):=z28.l0 k a0 a1 a2 0
mutual
def z1q.j0:Nat→ByteArray→Int→ByteArray→Option (Int)
 |0,_,_,_=>none
 |k+1,x0,x1,x5=>if x5.toList=([60,61]:List UInt8)then(z1q.j1 k x0 x1 true)else(if x5.toList=([33,61]:List UInt8)then(z1q.j1 k x0 x1 true)else(if x5.toList=([58,45]:List UInt8)then(z1q.j1 k x0 x1 true)else(z1q.j1 k x0 x1 (x5.toList==([63,45]:List UInt8)))))
def z1q.j1:Nat→ByteArray→Int→Bool→Option (Int)
 |0,_,_,_=>none
 |k+1,x0,x1,x30=>if x30=true then(some 2)else(if 0≤x1 then(if x1<(x0.size:Int)then(if(bt x0 x1)=40 then(some 1)else(if(bt x0 x1)=41 then(some 1)else(if(bt x0 x1)=44 then(some 1)else(if(bt x0 x1)=46 then(some 1)else(if(bt x0 x1)=60 then(some 1)else(if(bt x0 x1)=61 then(some 1)else(if(bt x0 x1)=47 then(some 1)else(if(bt x0 x1)=124 then(some 1)else(if(bt x0 x1)=42 then(some 1)else(if(bt x0 x1)=43 then(some 1)else(if(bt x0 x1)=63 then(some 1)else(if(bt x0 x1)=94 then(some 1)else(some 0)))))))))))))else(none))else(none))
end
def z1q.f (k:Nat) (a0:ByteArray) (a1:Int):Option (Int):=if(wrap64 (a1+2))≤(a0.size:Int)then(if 0≤a1 then(if a1≤(wrap64 (a1+2))then(z1q.j0 k a0 a1 (a0.extract (a1:Int).toNat ((wrap64 (a1+2)):Int).toNat))else(none))else(none))else(z1q.j0 k a0 a1 (⟨#[]⟩:ByteArray))
def IsS95 (w0 W:World) (g:Nat) (f0:List (S53)) (f1:Int) (f2:Int) (f3:Int) (f4:Int):Prop:=∃A0 c0,W.heap[g]?=some (.cells #[.slice A0 f0.length c0,.int .i64 f1,.int .i64 f2,.int .i64 f3,.int .i64 f4] 95 (0,0))∧w0.heap.size≤g∧Kd.C k53 w0 A0 f0.length f0
def z4i.f (s0_0:List (S53)) (s0_1:Int) (s0_2:Int) (s0_3:Int) (s0_4:Int) (a1:Int):Option (Int × ByteArray × Int × Int × Int × Int):=if s0_3=0 then(if(wrap64 (s0_1+a1))≥(s0_0.length:Int)then(some (0,(⟨#[]⟩:ByteArray),s0_1,s0_2,s0_3,s0_4))else(if 0≤(wrap64 (s0_1+a1))then(if(wrap64 (s0_1+a1))<(s0_0.length:Int)then(some ((zbh s0_0 (wrap64 (s0_1+a1))).f0,(zbh s0_0 (wrap64 (s0_1+a1))).f1,s0_1,s0_2,s0_3,s0_4))else(none))else(none)))else(some (0,(⟨#[]⟩:ByteArray),s0_1,s0_2,s0_3,s0_4))

mutual
def z0n.j0:Nat→ByteArray→Int→Int→Bool→Option (Int × ByteArray × Int × Bool)
 |0,_,_,_,_=>none
 |k+1,x0,x1,x6,x21=>if x21=true then((z28.f k x0 x1 true).bind fun t205=>(if 0≤x1 then(if x1≤(wrap64 (x1+t205))then(if(wrap64 (x1+t205))≤(x0.size:Int)then((z5h.f (x0.extract (x1:Int).toNat ((wrap64 (x1+t205)):Int).toNat)).bind fun t206=>(some (1,x0.extract (x1:Int).toNat ((wrap64 (x1+t205)):Int).toNat,x1,t206)))else(none))else(none))else(none)))else(if x6≥65 then(z0n.j1 k x0 x1 x6 (decide (x6≤90)))else(z0n.j1 k x0 x1 x6 false))
def z0n.j1:Nat→ByteArray→Int→Int→Bool→Option (Int × ByteArray × Int × Bool)
 |0,_,_,_,_=>none
 |k+1,x0,x1,x6,x40=>if x40=true then((z28.f k x0 x1 false).bind fun t207=>(if 0≤x1 then(if x1≤(wrap64 (x1+t207))then(if(wrap64 (x1+t207))≤(x0.size:Int)then((z10.f k (x0.extract (x1:Int).toNat ((wrap64 (x1+t207)):Int).toNat)).bind fun t208=>(some (2,x0.extract (x1:Int).toNat ((wrap64 (x1+t207)):Int).toNat,x1,t208)))else(none))else(none))else(none)))else(if x6=35 then(z0n.j2 k x0 x1 true)else(if x6≥48 then(if x6≤57 then(z0n.j2 k x0 x1 true)else(if x6=45 then(if(wrap64 (x1+1))<(x0.size:Int)then(if 0≤(wrap64 (x1+1))then(if(bt x0 (wrap64 (x1+1)))≥48 then(z0n.j2 k x0 x1 (decide ((bt x0 (wrap64 (x1+1)))≤57)))else(z0n.j2 k x0 x1 false))else(none))else(z0n.j2 k x0 x1 false))else(z0n.j2 k x0 x1 false)))else(if x6=45 then(if(wrap64 (x1+1))<(x0.size:Int)then(if 0≤(wrap64 (x1+1))then(if(bt x0 (wrap64 (x1+1)))≥48 then(z0n.j2 k x0 x1 (decide ((bt x0 (wrap64 (x1+1)))≤57)))else(z0n.j2 k x0 x1 false))else(none))else(z0n.j2 k x0 x1 false))else(z0n.j2 k x0 x1 false))))
def z0n.j2:Nat→ByteArray→Int→Bool→Option (Int × ByteArray × Int × Bool)
 |0,_,_,_=>none
 |k+1,x0,x1,x88=>if x88=true then((z28.f k x0 (wrap64 (x1+1)) false).bind fun t209=>(if 0≤x1 then(if x1≤(wrap64 ((wrap64 (x1+1))+t209))then(if(wrap64 ((wrap64 (x1+1))+t209))≤(x0.size:Int)then((z3g.f k (x0.extract (x1:Int).toNat ((wrap64 ((wrap64 (x1+1))+t209)):Int).toNat)).bind fun bt210=>(some (3,x0.extract (x1:Int).toNat ((wrap64 ((wrap64 (x1+1))+t209)):Int).toNat,x1,(bt210.2.2.2==0))))else(none))else(none))else(none)))else((z1q.f k x0 x1).bind fun t215=>(if 0≤x1 then(if x1≤(wrap64 (x1+t215))then(if(wrap64 (x1+t215))≤(x0.size:Int)then(some (4,x0.extract (x1:Int).toNat ((wrap64 (x1+t215)):Int).toNat,x1,decide (t215>0)))else(none))else(none))else(none)))
end
def z0n.f (k:Nat) (a0:ByteArray) (a1:Int):Option (Int × ByteArray × Int × Bool):=if 0≤a1 then(if a1<(a0.size:Int)then(if(bt a0 a1)≥97 then(z0n.j0 k a0 a1 (bt a0 a1) (decide ((bt a0 a1)≤122)))else(z0n.j0 k a0 a1 (bt a0 a1) false))else(none))else(none)
end Go.Proofs.YthebhbomlllpeaaGreatDoor.X
namespace Go.Proofs.YthebhbomlllpeaaGreatDoor.X
open Go.RowKit Go.Proofs.YthebhbomlllpeaaGreatDoorW.PrintWords Go.Proofs.YthebhbomlllpeaaGreatDoorW.PrintLast Go.Proofs.YthebhbomlllpeaaGreatDoorW.PrintMore
private theorem zdq (k k':IntKind) (x y:Int):Builtin.max2 (.int k x) (.int k' y)=pure (.int k (mx x y)):=by rw[z4e];rfl
private theorem zef (k k':IntKind) (x y:Int):Builtin.min2 (.int k x) (.int k' y)=pure (.int k (mn x y)):=by rw[z49];rfl
attribute [local go_sem] zdq zef z54 z50 z3l z3j z4h z4g
mutual
def z2d.l0:Nat→ByteArray→List (S53)→Int→Option ((List (S53)) × Int × Int)
 |0,_,_,_=>none
 |k+1,x0,x5,x6=>if x6<(x0.size:Int)then(if 0≤x6 then(if(bt x0 x6)=32 then(z2d.j1 k x0 x5 x6 true)else(if(bt x0 x6)=9 then(z2d.j1 k x0 x5 x6 true)else(z2d.j1 k x0 x5 x6 ((bt x0 x6)==10))))else(none))else(some (x5,0,0))
def z2d.j1:Nat→ByteArray→List (S53)→Int→Bool→Option ((List (S53)) × Int × Int)
 |0,_,_,_,_=>none
 |k+1,x0,x5,x6,x31=>if x31=true then(z2d.l0 k x0 x5 (wrap64 (x6+1)))else((z0n.f k x0 x6).bind fun bt216=>(if bt216.2.2.2=true then(if x5.length<4398046511104 then(z2d.l0 k x0 (x5++[(⟨bt216.1,bt216.2.1,bt216.2.2.1⟩:S53)]) (wrap64 (x6+(bt216.2.1.size:Int))))else(none))else(some (([]:List (S53)),x6,2))))
end
def z3h.l0:Nat→List (S53)→Int→Int→Int→Int→Option (Int)
 |0,_,_,_,_,_=>none
 |k+1,x3,x6,x7,x16,x17=>if x17<x16 then(if 0≤x17 then(if x17<(x3.length:Int)then(if((zbh x3 x17).f1).toList=([40]:List UInt8)then(if((zbh x3 x17).f1).toList=([41]:List UInt8)then(z3h.l0 k x3 (mx 0 (wrap64 ((wrap64 (x6+1)) - 1))) (mx x7 (mx 0 (wrap64 ((wrap64 (x6+1)) - 1)))) x16 (wrap64 (x17+1)))else(z3h.l0 k x3 (wrap64 (x6+1)) (mx x7 (wrap64 (x6+1))) x16 (wrap64 (x17+1))))else(if((zbh x3 x17).f1).toList=([41]:List UInt8)then(z3h.l0 k x3 (mx 0 (wrap64 (x6 - 1))) (mx x7 (mx 0 (wrap64 (x6 - 1)))) x16 (wrap64 (x17+1)))else(z3h.l0 k x3 x6 (mx x7 x6) x16 (wrap64 (x17+1)))))else(none))else(none))else(some x7)
end Go.Proofs.YthebhbomlllpeaaGreatDoor.X
namespace Go.Proofs.YthebhbomlllpeaaGreatDoor.X
def Shown (k:Int) (e:Nat) (x:List StS):Prop:=∃p d,(∀st,z40 st x=some (p::st))∧PInv p x d∧upD p k d≤e
theorem one_len {l:List StS} {p:Pc} (h:z40 [] l=some [p]):p.1.length≤50 * l.length:=by
 have:=z6z _ [] [p] h;simp only[wt]at this;omega

def rngA (a:AtS):Prop:=∀t ∈ a.f1,rngT t
def rngL (l:LtS):Prop:=rngA l.f1∧rngT l.f3∧rngT l.f4∧rngT l.f5
def rngR (x:RlS):Prop:=rngA x.f0∧∀l ∈ x.f2,rngL l
def BackL (l:LtS) (s:List UInt8) (ts:List TK):Prop :=
 (∀m:UInt8,(m=44∨m=46)→∀rest R,tkO (m::rest)=some R→tkO (s++m::rest)=some (ts++R))∧∀m:UInt8,(m=44∨m=46)→∀r,z1h (ts++mkT m::r)=.ok (l,mkT m::r)
theorem zch {m:UInt8} (h:m=44∨m=46):sepB m=true:=by rcases h with rfl|rfl <;> decide
theorem zjq {m:UInt8} (h:m=44∨m=46) {s:List UInt8} (hs:s≠[44]∧s≠[46]) (r:List TK):mk0 (mkT m::r) s=false:=by
 show isT (mkT m) 4 s=false;unfold isT;have:(mkT m).2.data.toList≠s:=by rcases h with rfl|rfl;exact fun e=>hs.1 e.symm;exact fun e=>hs.2 e.symm
 rw[beq_eq_false_iff_ne.2 this,Bool.and_false]
theorem za4 {l:LtS} {n:Nat} {atom op path:Bool} (h:restB l n atom op path=true):(0<n→termL l.f3≠[])∧(¬0<n→l.f3=noneT)∧(1<n→termL l.f4≠[])∧(¬1<n→l.f4=noneT)∧(2<n→termL l.f5≠[])∧(¬2<n→l.f5=noneT)∧(atom=false→l.f1=noneA)∧(op=false→l.f2=⟨#[]⟩)∧(path=false→l.f6=[]):=by
 unfold restB at h;simp only[Bool.and_eq_true]at h;obtain⟨h3,h4,h5,h1,h2,h6⟩:=h;have ne:∀s:List UInt8,(!s.isEmpty)=true→s≠[]:=fun s hs e=>by rw[e]at hs;cases hs
 refine⟨fun e=>?_,fun e=>?_,fun e=>?_,fun e=>?_,fun e=>?_,fun e=>?_,fun e=>?_,fun e=>?_,fun e=>?_⟩
 · rw[if_pos e]at h3;exact ne _ h3
 · rw[if_neg e]at h3;exact zcw h3
 · rw[if_pos e]at h4;exact ne _ h4
 · rw[if_neg e]at h4;exact zcw h4
 · rw[if_pos e]at h5;exact ne _ h5
 · rw[if_neg e]at h5;exact zcw h5
 · rw[e,Bool.false_or]at h1;exact zf0 h1
 · rw[e,Bool.false_or,beq_iff_eq,ByteArray.toList_eq]at h2;exact ba_eq h2
 · rw[e,Bool.false_or,beq_iff_eq]at h6;exact List.eq_nil_of_length_eq_zero h6
theorem za2 (l:LtS) {k:Int} {a:AtS} {o:ByteArray} {x y z:TmS} {p:List StS} (h0:l.f0=k) (h1:l.f1=a) (h2:l.f2=o) (h3:l.f3=x) (h4:l.f4=y) (h5:l.f5=z) (h6:l.f6=p):l=⟨k,a,o,x,y,z,p⟩:=by
 cases l;simp only at *;subst h0 h1 h2 h3 h4 h5 h6;rfl
theorem no_comp {t u:TK} (h:∀s,isT u 4 s=false) (r:List TK):(z2h (t::u::r)&&z1n (t::u::r))=false:=by
 have:z1n (t::u::r)=false:=by
  unfold z1n mk1;simp only[List.drop_succ_cons,List.drop_zero,mk0,h];rfl
 rw[this,Bool.and_false]
theorem zhq {t:TK} {m:UInt8} (h:m≠60∧m≠61) (r:List TK):z1n (t::mkT m::r)=false:=by
 unfold z1n mk1;simp only[List.drop_succ_cons,List.drop_zero,mk0];have h2:∀a b,isT (mkT m) 4 [a,b]=false:=fun a b=>by
  unfold isT;rw[show((mkT m).2.data.toList==[a,b])=false from beq_eq_false_iff_ne.2 (by show[m]≠[a,b];simp),Bool.and_false]
 rw[z4o h.1,z4o h.2,h2,h2];rfl
theorem zab {a:AtS} (h:atomL a≠[]) (hr:rngA a) {m:UInt8} (hm:m=44∨m=46) (r:List TK) (k:Int):z4z k (z4k a 0++mkT m::r)=.ok (⟨k,a,⟨#[]⟩,noneT,noneT,noneT,[]⟩,mkT m::r):=by
 unfold z4z;rw[z90 h (by decide) (by decide) (.inl rfl) hr (zjq hm (by decide) r)];rfl
theorem zbe {a:AtS} (h:atomL a≠[]) {m:UInt8} (hm:m=44∨m=46) (r:List TK):∃t l,z4k a 0++mkT m::r=t::l∧predB t=true∧∀s,s=[60]∨s=[60,61]∨s=[61]∨s=[33,61]→mk0 l s=false:=by
 obtain⟨hb,_⟩:=z8x (z8c h).1;unfold z4k;refine⟨(1,a.f0),_,rfl,hb,fun s hs=>?_⟩;have hne:s≠[44]∧s≠[46]∧s≠[40]:=by rcases hs with rfl|rfl|rfl|rfl <;> decide
 by_cases hl:a.f1=[]
 · rw[if_pos hl];exact zjq hm ⟨hne.1,hne.2.1⟩ r
 · rw[if_neg hl];show isT (mkT 40) 4 s=false;unfold isT;rw[beq_eq_false_iff_ne.2 (fun e=>hne.2.2 e.symm),Bool.and_false]
theorem zjv {l:LtS} (hk:l.f0=1) (hR:restB l 0 true false false=true) (h:atomL l.f1≠[]) (hr:rngA l.f1):∃ts,BackL l (atomL l.f1) ts:=by
 obtain⟨_,e3,_,e4,_,e5,_,e2,e6⟩:=za4 hR;refine⟨z4k l.f1 0,fun m hm rest R hs=>z83 h (by decide) (by decide) hr (zch hm) hs,fun m hm r=>?_⟩;obtain⟨t,q,he,hb,hc⟩:=zbe h hm r;rw[he,zcz hb hc,←he,zab h hr hm r];rw[←za2 l hk rfl (e2 rfl) (e3 (by decide)) (e4 (by decide)) (e5 (by decide)) (e6 rfl)]
theorem zkf {l:LtS} (hk:l.f0=2) (hR:restB l 0 true false false=true) (h:atomL l.f1≠[]) (hr:rngA l.f1):∃ts,BackL l ([110,111,116,32]++atomL l.f1) ts:=by
 obtain⟨_,e3,_,e4,_,e5,_,e2,e6⟩:=za4 hR;refine⟨nT::z4k l.f1 0,fun m hm rest R hs=>?_,fun m hm r=>?_⟩
 · have h1:=z83 h (by decide) (by decide) hr (zch hm) hs;have h2:=z7e (w:=[110,111,116]) (by decide) (x:=32) (by decide) (z2n (by decide) h1);rw[show[110,111,116,32]++atomL l.f1++m::rest=[110,111,116]++32::(headL l.f1 0++m::rest) by simp[atomL],h2];rfl
 · obtain⟨t,q,he,hb,hc⟩:=zbe h hm r;show z1h (nT::(z4k l.f1 0++mkT m::r))=_;rw[he,zfe (by decide) hb,←he,zab h hr hm r];rw[←za2 l hk rfl (e2 rfl) (e3 (by decide)) (e4 (by decide)) (e5 (by decide)) (e6 rfl)]
theorem zkw {s:List UInt8} (h:compB s=true):nextN nmL vlL s=some (4,s.length)∧∀(t:TK) (r:List TK),z1n (t::(4,baL s)::r)=true:=by
 unfold compB at h;simp only[Bool.or_eq_true,beq_iff_eq]at h;rcases h with rfl|rfl|rfl|rfl
 all_goals
  refine⟨?_,fun t r=>?_⟩
  · simp only[nextN];rw[if_neg (by decide),if_neg (by decide),if_neg (by unfold valB;simp[z16])]
    simp[twoB,oneB]
  · unfold z1n mk1
    simp[mk0,isT]
theorem zi7 {l:LtS} (hk:l.f0=3) (hR:restB l 2 false true false=true) (h:compB l.f2.data.toList=true) (hr:rngL l):∃ts,BackL l (termL l.f3++([32]++(l.f2.data.toList++([32]++termL l.f4)))) ts:=by
 obtain⟨e3,_,e4,_,_,e5,e1,_,e6⟩:=za4 hR;have h3:=e3 (by decide);have h4:=e4 (by decide);obtain⟨hn,hc⟩:=zkw h;have hb:baL l.f2.data.toList=l.f2:=ba_eq (by simp);refine⟨[tokTm l.f3,(4,l.f2),tokTm l.f4],fun m hm rest R hs=>?_,fun m hm r=>?_⟩
 · have h5:=z7p h4 hr.2.2.1 (zch hm) hs;have h6:tkO (l.f2.data.toList++32::(termL l.f4++m::rest))=some ([(((4:Nat):Int),baL l.f2.data.toList)]++tokTm l.f4::R):=z59 (x:=32) (by decide) (z9e hn) (z2n (by decide) h5);have h7:=z7p h3 hr.2.1 (x:=32) (by decide) (z2n (by decide) h6);rw[show termL l.f3++([32]++(l.f2.data.toList++([32]++termL l.f4)))++m::rest=termL l.f3++32::(l.f2.data.toList++32::(termL l.f4++m::rest)) by simp,h7,hb];rfl
 · show z1h (tokTm l.f3::(4,l.f2)::tokTm l.f4::mkT m::r)=_;have hc':=hc (tokTm l.f3) (tokTm l.f4::mkT m::r);rw[hb]at hc';unfold z1h;rw[zj3 h3 hr.2.1,hc',if_pos (by decide)];unfold z66;rw[z6y h3 hr.2.1];simp only[bnd,List.drop_succ_cons,List.drop_zero];rw[z6y h4 hr.2.2.1];simp only[bnd,zia];rw[←za2 l hk (e1 rfl) rfl rfl rfl (e5 (by decide)) (e6 rfl)]
theorem zij {s:List UInt8} (h:wordL s≠[]):∃w,wordL s=32::(w++[32])∧nmL w=true∧z4j w=s∧s≠[]:=by
 unfold wordL at h ⊢
 by_cases h1:s=[43]
 · subst h1;exact⟨[112,108,117,115],rfl,by decide,by decide,by decide⟩
 · by_cases h2:s=[45]
   · subst h2;exact⟨[109,105,110,117,115],rfl,by decide,by decide,by decide⟩
   · by_cases h3:s=[42]
     · subst h3;exact⟨[116,105,109,101,115],rfl,by decide,by decide,by decide⟩
     · rw[if_neg h1,if_neg h2,if_neg h3]at h;exact absurd rfl h
abbrev isW:TK:=(1,⟨#[105,115]⟩)
theorem zil {l:LtS} (hk:l.f0=4) (hR:restB l 3 false true false=true) (hv:l.f3.f0.data.toList≠[]) (h:wordL l.f2.data.toList≠[]) (hr:rngL l):∃ts,BackL l (termL l.f3++([32,105,115,32]++(termL l.f4++(wordL l.f2.data.toList++termL l.f5)))) ts:=by
 obtain⟨e3,_,e4,_,e5,_,e1,_,e6⟩:=za4 hR;have h3:=e3 (by decide);have h4:=e4 (by decide);have h5:=e5 (by decide);obtain⟨w,hw,hn,hs,hne⟩:=zij h;refine⟨[tokTm l.f3,isW,tokTm l.f4,(1,baL w),tokTm l.f5],fun m hm rest R hz=>?_,fun m hm r=>?_⟩
 · have g5:=z7p h5 hr.2.2.2 (zch hm) hz;have g6:=z7e hn (x:=32) (by decide) (z2n (by decide) g5);have g7:=z7p h4 hr.2.2.1 (x:=32) (by decide) (z2n (by decide) g6);have g8:=z7e (w:=[105,115]) (by decide) (x:=32) (by decide) (z2n (by decide) g7);have g9:=z7p h3 hr.2.1 (x:=32) (by decide) (z2n (by decide) g8);rw[hw,show termL l.f3++([32,105,115,32]++(termL l.f4++(32::(w++[32])++termL l.f5)))++m::rest=termL l.f3++32::([105,115]++32::(termL l.f4++32::(w++32::(termL l.f5++m::rest)))) by simp,g9];rfl
 · show z1h (tokTm l.f3::isW::tokTm l.f4::(1,baL w)::tokTm l.f5::mkT m::r)=_;obtain⟨v1,v2⟩:=tm_var h3 hv (isW::tokTm l.f4::(1,baL w)::tokTm l.f5::mkT m::r);unfold z1h;rw[no_comp (fun s=>zck _ s),if_neg (by decide)];rw[if_pos (by rw[show kindL (tokTm l.f3::isW::tokTm l.f4::(1,baL w)::tokTm l.f5::mkT m::r)=2 from v2];rfl)];unfold letP;rw[v1];simp only[bnd,List.drop_succ_cons,List.drop_zero];rw[z6y h4 hr.2.2.1];simp only[bnd,signP];rw[if_neg (by show z4j w≠[];rw[hs];exact hne)];simp only[bnd];rw[z6y h5 hr.2.2.2];simp only[bnd];rw[←za2 l hk (e1 rfl) (show l.f2=⟨(z4j (baL w).data.toList).toArray⟩from ba_eq (by show l.f2.data.toList=(z4j w);rw[hs])) rfl rfl rfl (e6 rfl)]
abbrev wkT:TK:=(1,⟨#[119,97,108,107]⟩)
theorem zjy {l:LtS} (hk:l.f0=5) (hR:restB l 2 false false true=true) (h:pathL l.f6≠[]) (hr:rngL l):∃ts,BackL l ([119,97,108,107,40]++(termL l.f3++([44,32]++(pathL l.f6++([44,32]++(termL l.f4++[41])))))) ts:=by
 obtain⟨e3,_,e4,_,_,e5,e1,e2,_⟩:=za4 hR;have h3:=e3 (by decide);have h4:=e4 (by decide);obtain⟨q,hq1,hq2,_,hq3⟩:=zbj h;obtain⟨ps,hp,h100,hb⟩:=zi5 h (by rw[hq3];have:=one_len hq1;omega);refine⟨wkT::mkT 40::tokTm l.f3::mkT 44::(ps++mkT 44::tokTm l.f4::[mkT 41]),fun m hm rest R hz=>?_,fun m hm r=>?_⟩
 · have g1:=z7p h4 hr.2.2.1 (x:=41) (by decide) (z2i (by decide) hz);have g2:tkO (pathL l.f6++44::(32::(termL l.f4++41::m::rest)))=some (ps++mkT 44::(tokTm l.f4::mkT 41::R)):=z59 (x:=44) (by decide) hp (z2i (by decide) (z2n (by decide) g1));have g3:=z7p h3 hr.2.1 (x:=44) (by decide) (z2i (by decide) (z2n (c:=32) (by decide) g2));have g4:=z7e (w:=[119,97,108,107]) (by decide) (x:=40) (by decide) (z2i (by decide) g3);rw[show[119,97,108,107,40]++(termL l.f3++([44,32]++(pathL l.f6++([44,32]++(termL l.f4++[41])))))++m::rest=[119,97,108,107]++40::(termL l.f3++44::(32::(pathL l.f6++44::(32::(termL l.f4++41::m::rest))))) by simp,g4]
   simp
 · rw[show wkT::mkT 40::tokTm l.f3::mkT 44::(ps++mkT 44::tokTm l.f4::[mkT 41])++mkT m::r=wkT::mkT 40::tokTm l.f3::mkT 44::(ps++mkT 44::tokTm l.f4::mkT 41::mkT m::r) by simp];unfold z1h;rw[zhq (by decide),Bool.and_false,if_neg (by decide),if_neg (by rw[show kindL (wkT::mkT 40::tokTm l.f3::mkT 44::(ps++mkT 44::tokTm l.f4::mkT 41::mkT m::r))=1 from rfl];rintro e;cases e)];rw[if_neg (by show ¬isT wkT 1 [110,111,116]=true;decide),if_pos (show isL (wkT::mkT 40::tokTm l.f3::mkT 44::(ps++mkT 44::tokTm l.f4::mkT 41::mkT m::r)) 1 [119,97,108,107]=true from(by decide:isT wkT 1 [119,97,108,107]=true))];unfold walkP wantP;simp only[List.drop_succ_cons,List.drop_zero];rw[if_pos (show mk0 (mkT 40::tokTm l.f3::mkT 44::(ps++mkT 44::tokTm l.f4::mkT 41::mkT m::r)) [40]=true from mk_is 40)];simp only[bnd,List.drop_succ_cons,List.drop_zero];rw[z6y h3 hr.2.1];simp only[bnd];rw[if_pos (show mk0 (mkT 44::(ps++mkT 44::tokTm l.f4::mkT 41::mkT m::r)) [44]=true from mk_is 44)];simp only[bnd,List.drop_succ_cons,List.drop_zero];unfold zg0;rw[hb _ (z7h (by decide) (by decide) (by decide) _) (z4o (by decide)) (z4o (by decide))];simp only[bnd];rw[if_neg (by omega)];simp only;rw[if_pos (show mk0 (mkT 44::tokTm l.f4::mkT 41::mkT m::r) [44]=true from mk_is 44)];simp only[List.drop_succ_cons,List.drop_zero];rw[z6y h4 hr.2.2.1];simp only;rw[if_pos (show mk0 (mkT 41::mkT m::r) [41]=true from mk_is 41)];simp only[List.drop_succ_cons,List.drop_zero];rw[←za2 l hk (e1 rfl) (e2 rfl) rfl rfl (e5 (by decide)) rfl]
theorem zgq {l:LtS} (h:litL l≠[]) (hr:rngL l):∃ts,BackL l (litL l) ts:=by
 unfold litL at h ⊢
 split at h
 · rename_i hc;rw[if_pos hc];exact zjv hc.1 hc.2 h hr.1
 rename_i hc1;rw[if_neg hc1]
 split at h
 · rename_i hc;rw[if_pos hc];exact zkf hc.1 hc.2.1 hc.2.2 hr.1
 rename_i hc2;rw[if_neg hc2]
 split at h
 · rename_i hc;rw[if_pos hc];exact zi7 hc.1 hc.2.1 hc.2.2 hr
 rename_i hc3;rw[if_neg hc3]
 split at h
 · rename_i hc;rw[if_pos hc];exact zil hc.1 hc.2.1 hc.2.2.1 hc.2.2.2 hr
 rename_i hc4;rw[if_neg hc4]
 split at h
 · rename_i hc;rw[if_pos hc];exact zjy hc.1 hc.2.1 hc.2.2 hr
 · exact absurd rfl h
theorem ze1:∀(ls:List LtS),ls≠[]→(∀l ∈ ls,litL l≠[]∧rngL l)→∃ts,(∀rest R,tkO (46::rest)=some R→tkO (Lib.join (ls.map litL) [44,32]++46::rest)=some (ts++R))∧∀r n acc,ls.length<n→bodyP n acc (ts++mkT 46::r)=.ok (acc++ls,mkT 46::r)
 |[],h,_=>absurd rfl h
 |[l],_,hl=>by
  obtain⟨h1,h2⟩:=hl l (List.mem_singleton.2 rfl);obtain⟨ts,b1,b2⟩:=zgq h1 h2;refine⟨ts,fun rest R hR=>by rw[show Lib.join ([l].map litL) [44,32]=litL l from Lib.join_one _ _];exact b1 46 (.inr rfl) rest R hR,fun r n acc hn=>?_⟩;obtain⟨n,rfl⟩:∃m,n=m+1:=⟨n - 1,by omega⟩
  rw[zb2,beq_eq_false_iff_ne.2 (by simp at hn;omega),Bool.false_and,if_neg (by decide),b2 46 (.inr rfl)];simp only[bnd];rw[if_neg (by rw[show mk0 (mkT 46::r) [44]=false from z4o (by decide)];decide)]
 |l::k::ls,_,hl=>by
  obtain⟨h1,h2⟩:=hl l (List.mem_cons_self ..);obtain⟨ts,b1,b2⟩:=zgq h1 h2;obtain⟨us,c1,c2⟩:=ze1 (k::ls) (by simp) (fun x hx=>hl x (List.mem_cons_of_mem _ hx));refine⟨ts++mkT 44::us,fun rest R hR=>?_,fun r n acc hn=>?_⟩
  · have h3:=b1 44 (.inl rfl) (32::(Lib.join ((k::ls).map litL) [44,32]++46::rest)) _ (z2i (by decide) (z2n (by decide) (c1 rest R hR)));rw[show Lib.join ((l::k::ls).map litL) [44,32]=litL l++([44,32]++Lib.join ((k::ls).map litL) [44,32])from zc6 _ _ _ _];rw[show litL l++([44,32]++Lib.join ((k::ls).map litL) [44,32])++46::rest=litL l++44::32::(Lib.join ((k::ls).map litL) [44,32]++46::rest) by simp,h3]
    simp
  · obtain⟨n,rfl⟩:∃m,n=m+1:=⟨n - 1,by omega⟩
    rw[show ts++mkT 44::us++mkT 46::r=ts++mkT 44::(us++mkT 46::r) by simp];rw[zb2,beq_eq_false_iff_ne.2 (by simp at hn;omega),Bool.false_and,if_neg (by decide),b2 44 (.inl rfl)];simp only[bnd];rw[if_pos (show mk0 (mkT 44::(us++mkT 46::r)) [44]=true from mk_is 44)];simp only[List.drop_succ_cons,List.drop_zero];rw[c2 r n (acc++[l]) (by simp at hn ⊢;omega)]
    simp
theorem zjt {x:RlS} (h:ruleL x≠[]) (hr:rngR x):∃t ts,predB t=true∧(∀rest R,tkO rest=some R→tkO (ruleL x++rest)=some (t::ts++R))∧∀r,ruleP (t::ts++r)=.ok (x,r):=by
 unfold ruleL at h ⊢
 split at h
 · exact absurd rfl h
 rename_i hc1;rw[if_neg hc1]
 split at h
 · exact absurd rfl h
 rename_i hc2;rw[if_neg hc2];clear h;have hh:headL x.f0 x.f1≠[]:=fun e=>hc2 (.inl e)
 have h0:0≤x.f1:=by omega
 have h5:x.f1≤5:=by omega
 have hb:(eachL (x.f2.map litL) [44,32]).2=true:=by cases e:(eachL (x.f2.map litL) [44,32]).2 with|true=>rfl|false=>exact absurd (.inr e) hc2
 have hp:=(z8x (z8c hh).1).1
 by_cases hl:x.f2=[]
 · rw[if_pos hl];refine⟨(1,x.f0.f0),(if x.f0.f1=[]then[]else mkT 40::(z4n x.f1 x.f0.f1++[mkT 41]))++[mkT 46],hp,fun rest R hR=>?_,fun r=>?_⟩
   · have:=z83 hh h0 h5 hr.1 (x:=46) (by decide) (z2i (by decide) hR);rw[List.append_assoc];refine this.trans ?_;unfold z4k
     simp
   · rw[show(1,x.f0.f0)::((if x.f0.f1=[]then[]else mkT 40::(z4n x.f1 x.f0.f1++[mkT 41]))++[mkT 46])++r=z4k x.f0 x.f1++mkT 46::r by unfold z4k;simp];unfold ruleP;rw[z90 hh h0 h5 (.inr rfl) hr.1 (show mk0 (mkT 46::r) [40]=false from z4o (by decide))];simp only[bnd,tailP];rw[if_neg (by rw[show mk0 (mkT 46::r) [58,45]=false from(by unfold mk0 isT;simp)];decide)];simp only[wantP];rw[if_pos (show mk0 (mkT 46::r) [46]=true from mk_is 46)];simp only[List.drop_succ_cons,List.drop_zero];rw[←hl]
 · rw[if_neg hl];obtain⟨e1,e2⟩:=zf6 hb;obtain⟨us,c1,c2⟩:=ze1 x.f2 hl (fun l hm=>⟨e1 _ (List.mem_map.2 ⟨l,hm,rfl⟩),hr.2 l hm⟩);rw[e2];refine⟨(1,x.f0.f0),(if x.f0.f1=[]then[]else mkT 40::(z4n x.f1 x.f0.f1++[mkT 41]))++cT::(us++[mkT 46]),hp,fun rest R hR=>?_,fun r=>?_⟩
   · have g1:=c1 rest _ (z2i (by decide) hR);have g2:=zgm (a:=58) (b:=45) (.inl ⟨rfl,rfl⟩) (z2n (c:=32) (by decide) g1);have g3:=z83 hh h0 h5 hr.1 (x:=32) (by decide) (z2n (by decide) g2);rw[show headL x.f0 x.f1++([32,58,45,32]++(Lib.join (x.f2.map litL) [44,32]++[46]))++rest=headL x.f0 x.f1++32::(58::45::32::(Lib.join (x.f2.map litL) [44,32]++46::rest)) by simp];refine g3.trans ?_;unfold z4k
     simp
   · rw[show(1,x.f0.f0)::((if x.f0.f1=[]then[]else mkT 40::(z4n x.f1 x.f0.f1++[mkT 41]))++cT::(us++[mkT 46]))++r=z4k x.f0 x.f1++cT::(us++mkT 46::r) by unfold z4k;simp];unfold ruleP;rw[z90 hh h0 h5 (.inr rfl) hr.1 (show mk0 (cT::(us++mkT 46::r)) [40]=false by unfold mk0 isT;simp)];simp only[bnd,tailP];rw[if_pos (show mk0 (cT::(us++mkT 46::r)) [58,45]=true from two_is 58 45)];simp only[List.drop_succ_cons,List.drop_zero];rw[c2 r 13 [] (by omega)];simp only[wantP];rw[if_pos (show mk0 (mkT 46::r) [46]=true from mk_is 46)];simp only[List.drop_succ_cons,List.drop_zero,List.nil_append]
theorem lines_eq:∀(rs:List RlS),(eachL (rs.map ruleL) [10]).2=true→(∀x ∈ rs,ruleL x≠[])∧zjz rs=(rs.map fun x=>ruleL x++[10]).flatten:=fun rs h=>by
 obtain⟨h1,h2⟩:=zf6 h;refine⟨fun x hx=>h1 _ (List.mem_map.2 ⟨x,hx,rfl⟩),?_⟩;unfold zjz;rw[h2];clear h h1 h2;have go:∀(rs:List RlS),rs≠[]→Lib.join (rs.map ruleL) [10]++[10]=(rs.map fun x=>ruleL x++[10]).flatten:=fun rs=>by
  induction rs with
  |nil=>exact fun h=>absurd rfl h
  |cons x rs ih =>
   intro _
   cases rs with
   |nil=>simp[Lib.join_one]
   |cons y rs =>
    have:=ih (by simp);rw[List.map_cons,List.map_cons,zc6,←List.map_cons (f:=ruleL),List.map_cons (f:=fun x=>ruleL x++[10]),List.flatten_cons,←this]
    simp
 by_cases hrs:rs=[]
 · subst hrs;rfl
 · rw[if_neg hrs];exact go rs hrs
end Go.Proofs.YthebhbomlllpeaaGreatDoor.X
namespace Go.Proofs.YthebhbomlllpeaaGreatDoor.X
open Go.RowKit Go.Proofs.YthebhbomlllpeaaGreatDoorW.PrintWords Go.Proofs.YthebhbomlllpeaaGreatDoorW.PrintLast Go.Proofs.YthebhbomlllpeaaGreatDoorW.PrintMore
def TokV (t:TK):Prop:=t.2.size≤20000∧((t.1=1∧nameB t.2=true)∨(t.1=2∧varL t.2.data.toList=true)∨(t.1=3∧(readR t.2).2.2.2=0)∨t.1=4)
def AllV (l:List TK):Prop:=∀t ∈ l,TokV t
def Wt:List TK→Nat
 |[]=>0
 |t::l=>t.2.size+4+Wt l
def szT (t:TmS):Prop:=rngT t∧t.f0.size≤20000
def sumT (l:List TmS):Nat:=(l.map fun t=>(termL t).length+2).sum
structure ArgsIn (head:Bool) (n:Nat) (acc:List TmS) (l:List TK) (a:List TmS) (f:Int) (r:List TK):Prop where
 all:AllV r
 sz:∀t ∈ a,szT t
 ne:∀w ∈ argsL f a,w≠[]
 f0:0≤f
 f5:f≤5
 hd:head=false→f=0
 len:a.length+1≤acc.length+n
 some:a≠[]
 wt:(Lib.join (argsL f a) [44,32]).length+Wt r≤sumT acc+Wt l
end Go.Proofs.YthebhbomlllpeaaGreatDoor.X
