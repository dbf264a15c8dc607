/-
  ShowAgain: what the proof needs, put together by a program of this session (shake.py), part 7.
-/
import Derived.Test.YthebhbomlllpeaaGreatDoorZShowAgain6
set_option linter.unusedVariables false
set_option linter.unusedSimpArgs false
namespace Go.Proofs.YthebhbomlllpeaaGreatDoor.X
open Go.RowKit Go.Proofs.YthebhbomlllpeaaGreatDoorW.PrintWords Go.Proofs.YthebhbomlllpeaaGreatDoorW.PrintLast Go.Proofs.YthebhbomlllpeaaGreatDoorW.PrintMore
attribute [local go_sem ↓] Go.wp_at_zero Go.wp_at_succ
def show22.T:Bool × List (List Nat × List Nat):=(true,[([],[]),([],[]),([1],[1]),([0,2],[0,2]),([],[]),([],[]),([5],[5]),([4,6],[4,6]),([7],[7]),([8],[8]),([],[]),([9,10],[9,10]),([],[]),([12,9],[12]),([11,13],[11,13]),([14],[14]),([15],[15]),([3,16,13],[3,16]),([17,17,0,1,2,3,4,5,6,7,8,9,10,11,12,13,14,15,16,17],[0,4,17])])
def show22.B:List Nat:=[0,0,2,7,0,0,32,112,240,496,0,2032,0,5104,16368,32752,65520,131071,262143]
theorem show22.tab:rtab .any (opsOf Tryz.f25 22)=show22.T:=by kernel_rfl
theorem show22.bits:z45 show22.T.2 show22.B=true:=by kernel_rfl
def show24.T:Bool × List (List Nat × List Nat):=(true,[([],[]),([],[]),([1],[1]),([0,2],[0,2]),([],[]),([],[]),([5],[5]),([4,6],[4,6]),([7],[7]),([8],[8]),([],[]),([9,10],[9,10]),([],[]),([12],[12]),([11,13],[11,13]),([14],[14]),([15],[15]),([3,16,13],[3,16]),([17,17,0,1,2,3,4,5,6,7,8,9,10,11,12,13,14,15,16,17],[0,4,17])])
def show24.B:List Nat:=[0,0,2,7,0,0,32,112,240,496,0,2032,0,4096,16368,32752,65520,131071,262143]
theorem show24.tab:rtab .any (opsOf Tryz.f25 24)=show24.T:=by kernel_rfl
theorem show24.bits:z45 show24.T.2 show24.B=true:=by kernel_rfl
abbrev zhx:Array Value:=#[.string ⟨#[]⟩,.string ⟨#[]⟩,.string ⟨#[]⟩,.string ⟨#[47]⟩,.string ⟨#[124]⟩,.string ⟨#[42]⟩,.string ⟨#[43]⟩,.string ⟨#[63]⟩]
structure PaM (w W:World) (n3:Nat) (u:Value) (st:List Pc):Prop where
 B:Below w.heap.size w W
 own:Kd.R kP 85 W w.heap.size (fun k=>w.heap.size≤k∧k≠n3) u (memS st)
 b3:W.heap[n3]?=some (.cells zhx 81 (0,0))
 h3:w.heap.size≤n3
theorem PaM.below {w W W1:World} {n3:Nat} {u:Value} {st:List Pc} (h:PaM w W n3 u st) (hb:Below W.heap.size W W1):PaM w W1 n3 u st :=
 ⟨z06 h.B h.B.size hb,Kd.R_below h.own hb,z0a h.b3 hb,h.h3⟩
theorem PaM.more {w W w2:World} {n3:Nat} {u u':Value} {st:List Pc} {p:Pc} (h:PaM w W n3 u st) (ho:Kd.R kP 85 w2 w.heap.size (fun k=>w.heap.size≤k∧k≠n3) u' (memS st++[(baL p.1,p.2)])) (hb:Below w.heap.size w w2) (hg:W.grownBy w2 u.ownBlock):PaM w w2 n3 u' (p::st) :=
 ⟨hb,by rw[z6k];exact ho,z3b h.b3 hg (fun he=>(h.own.1 n3 he.symm).2 rfl),h.h3⟩
theorem PaM.after {w W w2:World} {n3 bk o n c:Nat} {u':Value} {st r:List Pc} {p:Pc} (h:PaM w W n3 (.slice (some ⟨bk,o,none⟩) n c) st) (ho:Kd.R kP 85 w2 w.heap.size (fun k=>w.heap.size≤k∧k≠n3) u' (memS r++[(baL p.1,p.2)])) (hb:Below w.heap.size w w2) (hg:W.grownBy w2 (some bk)):PaM w w2 n3 u' (p::r) :=
 ⟨hb,by rw[z6k];exact ho,z3b h.b3 hg (fun he=>(h.own.1 n3 he.symm).2 rfl),h.h3⟩
theorem zci (b a:Pc) (r:List Pc) (q:Nat) (hq:r.length=q):(memS (b::a::r)).take q=memS r:=by
 rw[z6k,z6k,List.append_assoc,List.take_append_of_le_length (by rw[z2n];omega),List.take_of_length_le (by rw[z2n];omega)]
theorem zcs (p x:Pc) (st:List Pc) (m:Nat) (hm:st.length=m):(memS (p::st)).set m (baL x.1,x.2)=memS (x::st):=by
 rw[z6k,z6k,List.set_append_right _ _ (by rw[z2n];omega),z2n,hm,Nat.sub_self];rfl
theorem z8d (a b:List UInt8):baL a++baL b=baL (a++b):=ba_eq (by simp)
theorem z1y (a:List UInt8):(baL a).size=a.length:=by simp[ByteArray.size]
theorem deep_S (s:List UInt8) (h:s.length≤20000):∃k,z1q.f k (baL s)=some ((deepS s:Nat):Int):=by
 refine⟨_,deep_f (baL s) (by rw[z1y];exact h) ?_⟩
 by_cases h0:(z2s (baL s)).2.2=0
 · have:=(lex_ok (by rw[z1y];exact h) h0).2;rw[z1y]at this;omega
 · unfold z2s at h0 ⊢;rw[if_neg (by rw[z1y];omega)]at h0 ⊢;unfold z7o at h0 ⊢
   cases ht:tokN nmL vlL 0 (baL s).data.toList with
   |error i=>simp
   |ok l=>rw[ht]at h0;exact absurd rfl h0
theorem zd7 {α:Type} {d:Kd α} {e:TypeId} {W:World} {base bk o n c:Nat} {ok:Nat→Prop} {xs:List α} (h:d.R e W base ok (.slice (some ⟨bk,o,none⟩) n c) xs):o=0∧∃cur,W.heap[bk]?=some (.cells cur e (0,0)):=by
 obtain⟨_,inner,hown,_⟩:=h;rcases hown.2 with ⟨hv,_⟩|⟨g,cap,cur,hv,_,hh,_⟩
 · cases hv
 · injection hv with h1 h2 h3
   injection h1 with h1
   injection h1 with h1 h4
   subst h1 h4;exact⟨rfl,cur,hh⟩
def endL:List Pc→List UInt8
 |[p]=>if 32<deepS p.1 then[]else p.1
 |_=>[]
theorem zkd {l:List StS} {st:List Pc} (h:¬100<l.length) (hs:z2t [] l=some st):pathL l=endL st:=by
 unfold pathL;rw[if_neg h,hs]
 match st with
 |[]=>rfl
 |[p]=>rfl
 |_::_::_=>rfl
theorem zjf (l:List StS) (i:Nat) (hi:i<l.length) (x:StS) (hx:l[i]=x):l.take (i+1)=l.take i++[x]:=by rw[List.take_succ_eq_append_getElem hi,hx]
theorem z6j {l:List StS} {i:Nat} {st:List Pc} {x:StS} (hl:l.length≤100) (hs:z2t [] (l.take i)=some st) (hi:i<l.length) (hx:l[i]=x) (h:push1 st x=none):pathL l=[]:=by
 have:z2t [] l=none:=by
  have e:l=l.take i++(x::l.drop (i+1)):=by
   have:=List.take_append_drop i l;rw[List.drop_eq_getElem_cons hi,hx]at this;exact this.symm
  rw[e,z5r,hs];simp only[Option.bind_some,z2t,h];rfl
 unfold pathL;rw[if_neg (by omega),this]
theorem z4c {l:List StS} {i:Nat} {st st':List Pc} {x:StS} (hs:z2t [] (l.take i)=some st) (hi:i<l.length) (hx:l[i]=x) (h:push1 st x=some st'):z2t [] (l.take (i+1))=some st':=by
 rw[zjf l i hi x hx,z5r,hs];simp only[Option.bind_some,z2t,h]
theorem zl6 {kd:Int} (h0:¬(kd<1∨7<kd)) (h2:¬kd≤2):push1 [] ⟨kd,⟨#[]⟩⟩=none:=by
 unfold push1;rw[if_neg h0,if_neg h2,if_neg (fun h=>h rfl)]
theorem zmu {kd:Int} {b:Pc} (h0:¬(kd<1∨7<kd)) (h2:¬kd≤2) (h4:kd≤4):push1 [b] ⟨kd,⟨#[]⟩⟩=none:=by
 unfold push1;rw[if_neg h0,if_neg h2,if_neg (fun h=>h rfl)];simp only[if_pos h4]
theorem zim {b a:Pc} {r:List Pc}:push1 (b::a::r) ⟨3,⟨#[]⟩⟩=some ((z1p a 2++(markL 3++z1p b 3),2)::r):=by
 unfold push1;rw[if_neg (by rintro(h|h);exact absurd h (by decide);exact absurd h (by decide)),if_neg (show ¬((3:Int)≤2) by decide),if_neg (fun h=>h rfl)];rfl
theorem push1_or {b a:Pc} {r:List Pc}:push1 (b::a::r) ⟨4,⟨#[]⟩⟩=some ((a.1++(markL 4++z1p b 2),1)::r):=by
 unfold push1;rw[if_neg (by rintro(h|h);exact absurd h (by decide);exact absurd h (by decide)),if_neg (show ¬((4:Int)≤2) by decide),if_neg (fun h=>h rfl)];rfl
theorem z9t {kd:Int} {b:Pc} {r:List Pc} (h0:¬(kd<1∨7<kd)) (h2:¬kd≤2) (h4:¬kd≤4):push1 (b::r) ⟨kd,⟨#[]⟩⟩=some ((z1p b 3++markL kd,3)::r):=by
 unfold push1;rw[if_neg h0,if_neg h2,if_neg (fun h=>h rfl)];simp only[if_neg h4]
set_option maxHeartbeats 8000000 in
set_option maxRecDepth 100000 in
theorem z57 (l:List StS) (A:Option Addr) (c:Nat) (w:World) (hLW:LaidW w) (hC:Kd.C k69 w A l.length l) (hl:∀x ∈ l,x.f1.size≤9223372036854775807) (hl63:l.length≤140737488355328) :
 Calls Tryz.prog 25 #[.slice A l.length c] w fun e w'=>e=.returned (.string (baL (pathL l)))∧Below w.heap.size w w':=by
 by_cases h100:100<l.length
 · have e1:decide ((100:Int)<(l.length:Int))=true:=decide_eq_true (by omega);have e2:decide (100<l.length)=true:=decide_eq_true h100;have HE:=z00.mk (show pathL l=[]from if_pos h100);have HB:=z00.mk (Below.refl w.heap.size w);clear hC hl hLW;go_enter Tryz.func25,Tryz.ntmps25;go_wp2
   go_ret
   exact⟨by rw[HE.out];rfl,HB.out⟩
 · have e1:decide ((100:Int)<(l.length:Int))=false:=decide_eq_false (by omega);have e2:decide (100<l.length)=false:=decide_eq_false h100;have hlen:l.length≤100:=by omega
   have hB:=z02 (Below.refl w.heap.size w) (.cells zhx 81);have h3:=z0l w (.cells zhx 81);have HM:=z00.mk (show PaM w (w.alloc (.cells zhx 81)) w.heap.size (.slice none 0 0) []from⟨hB,Kd.R_nil _ _ _ _ _,h3,Nat.le_refl _⟩);have HC:=z00.mk hC;have HL:=z00.mk hl;have HLW:=z00.mk hLW;clear hC hl hLW hB h3;go_enter Tryz.func25,Tryz.ntmps25;go_wp2
   go_loopg [4,17] (l.length+1) (fun kq v4 v17 w'=>∃(i:Nat) (st:List Pc),v17=.int .i64 i∧kq+i=l.length+1∧i≤l.length∧z00 (z2t [] (l.take i)=some st)∧z00 (PaM w w' w.heap.size v4 st))
   case atStart=>exact⟨0,[],rfl,by omega,by omega,⟨rfl⟩,HM⟩
   case round =>
    clear HM;obtain⟨i,st,rfl,hk,hi,HS,HM⟩:=hrel
    by_cases hlt:i<l.length
    · have hz:decide ((i:Int)<(l.length:Int))=true:=decide_eq_true (by omega);have hz2:decide (i<l.length)=true:=decide_eq_true hlt;obtain⟨k1,rfl⟩:∃k1,gk=k1+1:=⟨gk - 1,by omega⟩
      obtain⟨ad,rfl,x0,x1⟩:=zeu (Kd.C_below HC.out HM.out.B) (i:Int) (by omega) (by omega);have hr:z43 l (i:Int)=l[i]:=by
       show l.getD (Int.toNat (i:Int)) _=_;rw[Int.toNat_natCast,List.getD_eq_getElem?_getD,List.getElem?_eq_getElem hlt];rfl
      rw[hr]at x0 x1;simp only[Int.toNat_natCast]at x0 x1;obtain⟨⟨kd,lb⟩,hx⟩:∃x,l[i]=x:=⟨_,rfl⟩
      rw[hx]at x0 x1;simp only at x0 x1;have HX:=z00.mk (And.intro hx (HL.out l[i] (List.getElem_mem hlt)));have HLN:=z00.mk (show st.length≤100∧wt st≤5000 from by
       have h1:=z7k _ _ _ HS.out;have h2:=zc4 _ _ _ HS.out;have h3:(l.take i).length≤100:=by rw[List.length_take];omega
       simp only[wt,List.length_nil]at h1 h2;omega)
      obtain⟨A4,c4,hu⟩:=Kd.R_slice HM.out.own;rw[z2n]at hu;subst hu;clear hr hx
      by_cases hk1:kd<1
      · have f1:decide (kd<1)=true:=decide_eq_true hk1;have HE:=z00.mk (z6j hlen HS.out hlt HX.out.1 (if_pos (Or.inl hk1)));have HB:=z00.mk HM.out.B;clear HS HM;go_wp2
        go_ret
        exact⟨by rw[HE.out];rfl,by repeat(first|(with_reducible first|exact HB.out|apply z02|apply z04|apply z05)|exact HB.out)⟩
      have f1:decide (kd<1)=false:=decide_eq_false hk1
      by_cases hk7:7<kd
      · have f2:decide (7<kd)=true:=decide_eq_true hk7;have HE:=z00.mk (z6j hlen HS.out hlt HX.out.1 (if_pos (Or.inr hk7)));have HB:=z00.mk HM.out.B;clear HS HM;go_wp2
        go_ret
        exact⟨by rw[HE.out];rfl,by repeat(first|(with_reducible first|exact HB.out|apply z02|apply z04|apply z05)|exact HB.out)⟩
      have f2:decide (7<kd)=false:=decide_eq_false hk7;have HP0:=z00.mk (show ¬(kd<1∨7<kd)from fun h=>h.elim hk1 hk7)
      by_cases hk2:kd≤2
      · have f3:decide (kd≤2)=true:=decide_eq_true hk2;have HLB:=z00.mk (fun V=>z6v.calls 42 kd lb (baL (z4t ⟨kd,lb⟩)) V (label_f ⟨kd,lb⟩ (by have:=HX.out.2;rw[HX.out.1]at this;exact this)));have HPU:=z00.mk (show push1 st ⟨kd,lb⟩=if z4t ⟨kd,lb⟩=[]then none else some ((z4t ⟨kd,lb⟩,3)::st)from(if_neg HP0.out).trans (if_pos hk2));obtain⟨s,hs⟩:∃s,z4t ⟨kd,lb⟩=s:=⟨_,rfl⟩
        rw[hs]at HLB HPU;clear hs
        go_wp2_with fail
        refine(HLB.out _).mono ?_;rintro e w1 ⟨rfl,hb⟩;have HM1:=z00.mk (HM.out.below (z06 ((Below.refl wr.heap.size wr).alloc (Nat.le_refl _) _) (by simp) hb));clear hb;obtain⟨b,hbE⟩:∃b,baL s=b:=⟨_,rfl⟩
        rw[hbE]
        by_cases hs0:s=[]
        · have e5:(b.toList==([]:List UInt8))=true:=by rw[←hbE,hs0,z17];exact beq_self_eq_true _
          have e6:(b.toList==(⟨#[]⟩:ByteArray).toList)=true:=by rw[←hbE,hs0];exact beq_self_eq_true _
          have HE:=z00.mk (z6j hlen HS.out hlt HX.out.1 (HPU.out.trans (if_pos hs0)));have HB:=z00.mk HM1.out.B;clear HS HM HM1 hbE hs0;go_wp2
          go_ret
          exact⟨by rw[HE.out];rfl,HB.out⟩
        · have e5:(b.toList==([]:List UInt8))=false:=by rw[beq_eq_false_iff_ne,←hbE,z17];exact hs0
          have e6:(b.toList==(⟨#[]⟩:ByteArray).toList)=false:=by rw[beq_eq_false_iff_ne,←hbE,z17];exact fun h=>hs0 (h.trans z1v)
          have HS2:=z00.mk (z4c HS.out hlt HX.out.1 (HPU.out.trans (if_neg hs0)));have HBE:=z00.mk hbE;clear HS HM hbE hs0
          go_wp2_with ((with_reducible refine z1n (b:=.append) (xs:=#[.tmp 40,.tmp 43]) rfl ?_);at_builtin;refine Kd.R_append kP (w0:=w) w.heap.size rfl (.tmp 40) (.tmp 43) 82 85 (.agg #[.string ⟨#[]⟩,.int .i64 0]) 24 rfl Tryz.underlying82 infoP rfl (by decide) (by decide) (.slice A4 st.length c4) (memS st) (b,3) [.string b,.int .i64 3] (fun k=>w.heap.size≤k∧k≠w.heap.size) (fun _=>False) rfl zA0f (zbw _ _ _ _) (fun _ hk=>hk.elim) (fun k hk=>⟨Nat.le_trans HM1.out.B.size hk,by have:=z27 HM1.out.b3;omega⟩) HM1.out.own HM1.out.B HM1.out.B.size (by rw[z2n];have:=HLN.out;omega) ?_;intro v1 w2 ho hb hg hat;have HM2:=z00.mk (PaM.more (p:=(s,3)) HM1.out (by rw[HBE.out];exact ho) hb hg);clear ho hb hg hat)
          go_roundg k1
          case rel=>exact⟨i+1,_,by go_num,by omega,by omega,HS2,HM2⟩
          case measure=>omega
      have f3:decide (kd≤2)=false:=decide_eq_false hk2
      by_cases hlb:lb.data.toList≠[]
      · have e5:(lb.toList==([]:List UInt8))=false:=by rw[beq_eq_false_iff_ne,z2z];exact hlb
        have e6:(lb.toList==(⟨#[]⟩:ByteArray).toList)=false:=by rw[z1v];exact e5
        have e7:(lb.toList !=([]:List UInt8))=true:=by rw[bne,e5];rfl
        have e8:(lb.toList !=(⟨#[]⟩:ByteArray).toList)=true:=by rw[bne,e6];rfl
        have HE:=z00.mk (z6j hlen HS.out hlt HX.out.1 ((if_neg HP0.out).trans ((if_neg hk2).trans (if_pos hlb))));have HB:=z00.mk HM.out.B;clear HS HM;go_wp2
        go_ret
        exact⟨by rw[HE.out];rfl,by repeat(first|(with_reducible first|exact HB.out|apply z02|apply z04|apply z05)|exact HB.out)⟩
      have hlb0:lb.data.toList=[]:=Classical.not_not.1 hlb;obtain rfl:=ze8 hlb0;clear hlb hlb0
      cases st with
      |nil =>
       have HE:=z00.mk (z6j hlen HS.out hlt HX.out.1 (zl6 HP0.out hk2));have HB:=z00.mk HM.out.B;clear HS HM;go_wp2
       go_ret
       exact⟨by rw[HE.out];rfl,by repeat(first|(with_reducible first|exact HB.out|apply z02|apply z04|apply z05)|exact HB.out)⟩
      |cons b r =>
       obtain⟨m,hm⟩:∃m,r.length=m:=⟨_,rfl⟩
       have hmm:m<100:=by have:=HLN.out.1;rw[List.length_cons]at this;omega
       have HML:=z00.mk hm;rw[List.length_cons,hm]at HM ⊢;clear hm;have g1:decide ((m:Int)+1<1)=false:=decide_eq_false (by omega)
       by_cases hone:kd≤4∧m=0
       · obtain⟨h4,rfl⟩:=hone;obtain rfl:r=[]:=List.length_eq_zero_iff.1 HML.out;have HE:=z00.mk (z6j hlen HS.out hlt HX.out.1 (zmu HP0.out hk2 h4));have f4:decide (kd≤4)=true:=decide_eq_true h4;have HB:=z00.mk HM.out.B;clear HS HM;go_wp2
         go_ret
         exact⟨by rw[HE.out];rfl,by repeat(first|(with_reducible first|exact HB.out|apply z02|apply z04|apply z05)|exact HB.out)⟩
       have g2:kd≤4→decide ((m:Int)+1<2)=false:=fun h=>decide_eq_false (by have:m≠0:=fun e=>hone ⟨h,e⟩;omega)
       have HONE:=z00.mk hone;clear hone;rcases (by omega:kd=3∨kd=4∨kd=5∨kd=6∨kd=7)with rfl|rfl|rfl|rfl|rfl
       · -- two
         cases r with
         |nil=>exact absurd ⟨by decide,HML.out.symm⟩ HONE.out
         |cons a r =>
         obtain⟨q,hq⟩:∃q,r.length=q:=⟨_,rfl⟩
         have hmq:m=q+1:=by rw[←HML.out,List.length_cons,hq]
         have HRL:=z00.mk hq;have HMQ:=z00.mk hmq;have g3:=g2 (by decide);clear g2 hq hmq;go_wp2;have hmq:=HMQ.out;have HB0:=z02 (Below.refl wr.heap.size wr) (.cells #[.int .i64 3,.string ⟨#[]⟩] 69);have HM0:=z00.mk (HM.out.below HB0);have hbx:=z0l wr (.cells #[.int .i64 3,.string ⟨#[]⟩] 69);obtain⟨nb,enb⟩:∃n,wr.heap.size=n:=⟨_,rfl⟩
         rw[enb]at hbx ⊢
         generalize wr.alloc (.cells #[.int .i64 3,.string ⟨#[]⟩] 69)=W0 at HM0 hbx ⊢
         have hown:=HM0.out.own;have hC4:=(Kd.R_reads' hown).2.2;have hcap:=(Kd.R_reads hown)
         obtain⟨A',c',he,hcap,_⟩:=hcap;injection he with he1 he2 he3
         subst he1 he3;rw[z2n,List.length_cons,List.length_cons,HRL.out]at hcap;obtain⟨bk,o,rfl,y0,y1⟩:=at_P hC4 m (baL b.1,b.2) (by have:=z8f [] b (a::r);rw[List.length_cons,HRL.out,←hmq]at this;exact this);obtain⟨bk',o',he,x0',x1'⟩:=at_P hC4 q (baL a.1,a.2) (by have:=z8f [b] a r;rw[HRL.out]at this;exact this);injection he with he
         injection he with he1 he2
         subst he1 he2;obtain⟨bs,hbs⟩:∃bs,baL b.1=bs:=⟨_,rfl⟩
         obtain⟨as1,has⟩:∃as1,baL a.1=as1:=⟨_,rfl⟩
         simp only[hbs]at y0;simp only[has]at x0';have hcb:W0.cell? ⟨nb,0,none⟩=some (.int .i64 3):=(z01 hbx 0).trans rfl;have hcs:W0.cell? ⟨w.heap.size,3,none⟩=some (.string ⟨#[47]⟩):=(z01 HM0.out.b3 3).trans rfl;have hwb:b.1.length≤5000:=Nat.le_trans (zb8 (by simp)) HLN.out.2;have hwa:a.1.length≤5000:=Nat.le_trans (zb8 (by simp)) HLN.out.2;have hsa:as1.size≤5000:=by rw[←has,z1y];exact hwa
         have HLA:=z00.mk (fun V=>z1w.calls as1 a.2 2 (baL (z1p a 2)) V (by rw[←has];exact z8g a 2 (by omega)));have HLB:=z00.mk (fun V=>z1w.calls bs b.2 3 (baL (z1p b 3)) V zA0z);have hla:=z3i a 2;have hlb:=z3i b 3;have HTX:=z00.mk (show(baL (z1p a 2)++(⟨#[47]⟩:ByteArray))++baL (z1p b 3)=baL (z1p a 2++(markL 3++z1p b 3))from by rw[show(⟨#[47]⟩:ByteArray)=baL [47]from rfl,z8d,z8d,List.append_assoc];rfl);obtain⟨la,hla'⟩:∃x,baL (z1p a 2)=x:=⟨_,rfl⟩
         obtain⟨lb',hlb'⟩:∃x,baL (z1p b 3)=x:=⟨_,rfl⟩
         have hla2:la.size≤5002:=by rw[←hla',z1y];omega
         have hlb2:lb'.size≤5002:=by rw[←hlb',z1y];omega
         rw[hla']at HLA;rw[hlb']at HLB
         (try rw[hla']at HTX)
         (try rw[hlb']at HTX)
         (try rw[has]at HTX)
         have HHB:=z00.mk hbx;have HHA:=z00.mk has;have p0:(0:Int)≤(m:Int):=by omega
         have p1:(m:Int)<(m:Int)+1:=by omega
         have q0:(0:Int)≤(q:Int):=by omega
         have q1:(q:Int)<(m:Int)+1:=by omega
         have q2:(q:Int)≤(c4:Int):=by omega
         have q3:q≤c4:=by omega
         have HQM:=z00.mk (show q+1<100 by omega);have HW4:=z00.mk (show IntKind.i64.wrap ((m:Int)+1 - 2)=(q:Int) by rw[i64_w];unfold wrap64;omega);clear he2 hcap hown hC4 hbs has hbx HB0 HM enb x0 x1 hwb hwa hla hlb hla' hlb' hmq;have hw1:IntKind.i64.wrap ((m:Int)+1 - 1)=(m:Int):=by rw[i64_w];unfold wrap64;omega
         have hw2:IntKind.i64.wrap (m:Int)=(m:Int):=by rw[i64_w];unfold wrap64;omega
         have hw3:(m:Int)+1 - 1=(m:Int):=by omega
         have kq1:(9223372036854775807<la.size+1)=False:=eq_false (by omega);have kq2:(9223372036854775807<la.size+1+lb'.size)=False:=eq_false (by omega);have hw4:=HW4.out
         go_region_held3 (fun w'=>w'.cell? ⟨bk,o+m * 2,none⟩=some (.string bs)∧w'.cell? ⟨bk,o+m * 2+1,none⟩=some (.int .i64 b.2)∧w'.cell? ⟨nb,0,none⟩=some (.int .i64 3)∧w'.cell? ⟨w.heap.size,3,none⟩=some (.string ⟨#[47]⟩)) (go_keep) (fail)
         go_wp2;rename_i hHeld0;clear hHeld0;have hB1:Below W0.heap.size W0 (W0.alloc (.cells #[.string bs,.int .i64 b.2] 85)).drew:=z05 (z02 (Below.refl _ _) _);have h9:=z10 (z0l W0 (.cells #[.string bs,.int .i64 b.2] 85));obtain⟨n9,en9⟩:∃n,W0.heap.size=n:=⟨_,rfl⟩
         rw[en9]at h9 ⊢;have HMV:=z00.mk ((HM0.out.below hB1).below (z05 (Below.refl _ _)));have z0:=z07 hB1 x0';have z1:=z07 hB1 x1'
         generalize (W0.alloc (.cells #[.string bs,.int .i64 b.2] 85)).drew=V0 at HMV z0 z1 h9 ⊢
         have u0:V0.cell? ⟨n9,0,none⟩=some (.string bs):=(z01 h9 0).trans rfl;have u1:V0.cell? ⟨n9,1,none⟩=some (.int .i64 b.2):=(z01 h9 1).trans rfl;have HRT:=z00.mk (fun(V:World) (h:Kd.R kP 85 V w.heap.size (fun k=>w.heap.size≤k∧k≠w.heap.size) (.slice (some ⟨bk,o,none⟩) (m+1) c4) (memS (b::a::r)))=>show Kd.R kP 85 V w.heap.size (fun k=>w.heap.size≤k∧k≠w.heap.size) (.slice (some ⟨bk,o,none⟩) q c4) (memS r)from zci b a r q HRL.out ▸ Kd.R_take (m:=q) h (by rw[z2n,List.length_cons,List.length_cons,HRL.out];omega));have HS2:=z00.mk (z4c HS.out hlt HX.out.1 (zim (b:=b) (a:=a) (r:=r)));clear HS hB1 h9 en9 hcb hcs y0 y1 x0' x1' HM0 hw1 hw2 hw3;refine z6t (n:=19) (S:=fun w'=>w'.cell? ⟨bk,o+q * 2,none⟩=some (.string as1)∧w'.cell? ⟨bk,o+q * 2+1,none⟩=some (.int .i64 a.2)∧w'.cell? ⟨n9,0,none⟩=some (.string bs)∧w'.cell? ⟨n9,1,none⟩=some (.int .i64 b.2)) (ds:=[17]) #[false,false,false,false,false,false,false,false,false,false,false,false,false,false,false,false,false,false,false] (by kernel_rfl) rfl rfl (⟨z0,z1,u0,u1⟩) (fun hHeld=>?_);refine z3l show22.tab show22.bits (fun HT_ HW_=>?_)
         generalize V0.drew=V at HMV hHeld ⊢
         refine pure_ (i:=0) (N:=some 84) (v:=?_) (a':=?_) #[true,false,false,false,false,false,false,false,false,false,false,false,false,false,false,false,false,false,false] rfl rfl (z0s HT_.out (by kernel_rfl)) (fun _ _ _ h=>h) (Or.inl ⟨by rfl,?_⟩) ?_ ?_
         rotate_left
         · intro w'
           go_simp
           with_reducible rfl
         rotate_left
         · simp only[Act.put,List.setIfInBounds_toArray,List.set_cons_zero,List.set_cons_succ,i64_w,i32_w];rfl
         refine pure_ (i:=1) (N:=some 85) (v:=?_) (a':=?_) #[true,true,false,false,false,false,false,false,false,false,false,false,false,false,false,false,false,false,false] rfl rfl (z0s HT_.out (by kernel_rfl)) (fun _ _ _ h=>h) (Or.inl ⟨by rfl,?_⟩) ?_ ?_
         rotate_left
         · intro w'
           go_simp
           with_reducible rfl
         rotate_left
         · simp only[Act.put,List.setIfInBounds_toArray,List.set_cons_zero,List.set_cons_succ,i64_w,i32_w];rfl
         refine pure_ (i:=2) (N:=some 86) (v:=?_) (a':=?_) #[true,true,true,false,false,false,false,false,false,false,false,false,false,false,false,false,false,false,false] rfl rfl (z0s HT_.out (by kernel_rfl)) (fun _ _ _ h=>h) (Or.inl ⟨by rfl,?_⟩) ?_ ?_
         rotate_left
         · intro w'
           go_simp
           with_reducible rfl
         rotate_left
         · simp only[Act.put,List.setIfInBounds_toArray,List.set_cons_zero,List.set_cons_succ,i64_w,i32_w];rfl
         refine pure_ (i:=3) (N:=some 87) (v:=?_) (a':=?_) #[true,true,true,true,false,false,false,false,false,false,false,false,false,false,false,false,false,false,false] rfl rfl (z0s HT_.out (by kernel_rfl)) (fun _ _ _ h=>h) (Or.inl ⟨by rfl,?_⟩) ?_ ?_
         rotate_left
         · intro w'
           go_simp
           with_reducible rfl
         rotate_left
         · simp only[Act.put,List.setIfInBounds_toArray,List.set_cons_zero,List.set_cons_succ,i64_w,i32_w];rfl
         refine pure_ (i:=4) (N:=some 88) (v:=?_) (a':=?_) #[true,true,true,true,true,false,false,false,false,false,false,false,false,false,false,false,false,false,false] rfl rfl (z0s HT_.out (by kernel_rfl)) (fun _ _ _ h=>h) (Or.inl ⟨by rfl,?_⟩) ?_ ?_
         rotate_left
         · intro w'
           go_simp
           with_reducible rfl
         rotate_left
         · simp only[Act.put,List.setIfInBounds_toArray,List.set_cons_zero,List.set_cons_succ,i64_w,i32_w];rfl
         refine pure_ (i:=5) (N:=some 89) (v:=?_) (a':=?_) #[true,true,true,true,true,true,false,false,false,false,false,false,false,false,false,false,false,false,false] rfl rfl (z0s HT_.out (by kernel_rfl)) (fun _ _ _ h=>h) (Or.inl ⟨by rfl,?_⟩) ?_ ?_
         rotate_left
         · intro w'
           go_simp
           with_reducible rfl
         rotate_left
         · simp only[Act.put,List.setIfInBounds_toArray,List.set_cons_zero,List.set_cons_succ,i64_w,i32_w];rfl
         refine pure_ (i:=6) (N:=some 90) (v:=?_) (a':=?_) #[true,true,true,true,true,true,true,false,false,false,false,false,false,false,false,false,false,false,false] rfl rfl (z0s HT_.out (by kernel_rfl)) (fun _ _ _ h=>h) (Or.inl ⟨by rfl,?_⟩) ?_ ?_
         rotate_left
         · intro w'
           go_simp
           with_reducible rfl
         rotate_left
         · simp only[Act.put,List.setIfInBounds_toArray,List.set_cons_zero,List.set_cons_succ,i64_w,i32_w];rfl
         refine pure_ (i:=7) (N:=some 91) (v:=?_) (a':=?_) #[true,true,true,true,true,true,true,true,false,false,false,false,false,false,false,false,false,false,false] rfl rfl (z0s HT_.out (by kernel_rfl)) (fun _ _ _ h=>h) (Or.inl ⟨by rfl,?_⟩) ?_ ?_
         rotate_left
         · intro w'
           go_simp
           with_reducible rfl
         rotate_left
         · simp only[Act.put,List.setIfInBounds_toArray,List.set_cons_zero,List.set_cons_succ,i64_w,i32_w];rfl
         refine take_ (i:=8) (N:=some 92) (v:=?_) (a':=?_) #[true,true,true,true,true,true,true,true,true,false,false,false,false,false,false,false,false,false,false] rfl rfl (z1s HT_.out HW_.out (by kernel_rfl)) (fun _ _ _ h=>h) (Or.inl ⟨by rfl,?_⟩) hHeld ?_ ?_
         rotate_left
         · rintro w' ⟨s1,s2,s3,s4⟩
           go_simp
           with_reducible rfl
         rotate_left
         · simp only[Act.put,List.setIfInBounds_toArray,List.set_cons_zero,List.set_cons_succ,i64_w,i32_w];rfl
         refine pure_ (i:=10) (N:=some 94) (v:=?_) (a':=?_) #[true,true,true,true,true,true,true,true,true,false,true,false,false,false,false,false,false,false,false] rfl rfl (z0s HT_.out (by kernel_rfl)) (fun _ _ _ h=>h) (Or.inl ⟨by rfl,?_⟩) ?_ ?_
         rotate_left
         · intro w'
           go_simp
           with_reducible rfl
         rotate_left
         · simp only[Act.put,List.setIfInBounds_toArray,List.set_cons_zero,List.set_cons_succ,i64_w,i32_w];rfl
         refine take_ (i:=12) (N:=some 96) (v:=?_) (a':=?_) #[true,true,true,true,true,true,true,true,true,false,true,false,true,false,false,false,false,false,false] rfl rfl (z1s HT_.out HW_.out (by kernel_rfl)) (fun _ _ _ h=>h) (Or.inl ⟨by rfl,?_⟩) hHeld ?_ ?_
         rotate_left
         · rintro w' ⟨s1,s2,s3,s4⟩
           go_simp
           with_reducible rfl
         rotate_left
         · simp only[Act.put,List.setIfInBounds_toArray,List.set_cons_zero,List.set_cons_succ,i64_w,i32_w];rfl
         refine one_ (i:=9) (N:=some 93) #[true,true,true,true,true,true,true,true,true,true,true,false,true,false,false,false,false,false,false] rfl rfl (z2f HT_.out (by kernel_rfl)) (by decide) (fun K hK=>?_);refine goes_ Tryz.func51 (by kernel_rfl) rfl #[.agg #[.string as1,.int .i64 a.2],.int .i64 2] (by rfl) rfl rfl zA02 ?_;refine(HLA.out _).mono ?_;rintro e V2 ⟨rfl,hb⟩;refine⟨_,rfl,?_⟩;replace HMV:=z00.mk (HMV.out.below hb);refine hK.out _ _ (⟨z07 hb hHeld.1,z07 hb hHeld.2.1,z07 hb hHeld.2.2.1,z07 hb hHeld.2.2.2⟩) (fun hHeld=>?_);clear hK K;refine norm_ (a':=?_) ?_ ?_
         rotate_left
         · show Act.put _ (some 93) _=_;simp only[Act.put,List.setIfInBounds_toArray,List.set_cons_zero,List.set_cons_succ,i64_w,i32_w];rfl
         refine pure_ (i:=11) (N:=some 95) (v:=?_) (a':=?_) #[true,true,true,true,true,true,true,true,true,true,true,true,true,false,false,false,false,false,false] rfl rfl (z0s HT_.out (by kernel_rfl)) (fun _ _ _ h=>h) (Or.inl ⟨by rfl,?_⟩) ?_ ?_
         rotate_left
         · intro w'
           go_simp
           with_reducible rfl
         rotate_left
         · simp only[Act.put,List.setIfInBounds_toArray,List.set_cons_zero,List.set_cons_succ,i64_w,i32_w];rfl
         refine one_ (i:=13) (N:=some 97) #[true,true,true,true,true,true,true,true,true,true,true,true,true,true,false,false,false,false,false] rfl rfl (z2f HT_.out (by kernel_rfl)) (by decide) (fun K hK=>?_);refine goes_ Tryz.func51 (by kernel_rfl) rfl #[.agg #[.string bs,.int .i64 b.2],.int .i64 3] (by rfl) rfl rfl zA02 ?_;refine(HLB.out _).mono ?_;rintro e V3 ⟨rfl,hb3⟩;refine⟨_,rfl,?_⟩;have hb:=hb3;replace HMV:=z00.mk (HMV.out.below hb);refine hK.out _ _ (⟨z07 hb hHeld.1,z07 hb hHeld.2.1,z07 hb hHeld.2.2.1,z07 hb hHeld.2.2.2⟩) (fun hHeld=>?_);clear hK K;refine norm_ (a':=?_) ?_ ?_
         rotate_left
         · show Act.put _ (some 97) _=_;simp only[Act.put,List.setIfInBounds_toArray,List.set_cons_zero,List.set_cons_succ,i64_w,i32_w];rfl
         refine pure_ (i:=14) (N:=some 98) (v:=?_) (a':=?_) #[true,true,true,true,true,true,true,true,true,true,true,true,true,true,true,false,false,false,false] rfl rfl (z0s HT_.out (by kernel_rfl)) (fun _ _ _ h=>h) (Or.inl ⟨by rfl,?_⟩) ?_ ?_
         rotate_left
         · intro w'
           go_simp
           with_reducible rfl
         rotate_left
         · simp only[Act.put,List.setIfInBounds_toArray,List.set_cons_zero,List.set_cons_succ,i64_w,i32_w];rfl
         refine pure_ (i:=15) (N:=some 99) (v:=?_) (a':=?_) #[true,true,true,true,true,true,true,true,true,true,true,true,true,true,true,true,false,false,false] rfl rfl (z0s HT_.out (by kernel_rfl)) (fun _ _ _ h=>h) (Or.inl ⟨by rfl,?_⟩) ?_ ?_
         rotate_left
         · intro w'
           go_simp
           with_reducible rfl
         rotate_left
         · simp only[Act.put,List.setIfInBounds_toArray,List.set_cons_zero,List.set_cons_succ,i64_w,i32_w];rfl
         refine one_ (i:=16) (N:=some 100) #[true,true,true,true,true,true,true,true,true,true,true,true,true,true,true,true,true,false,false] rfl rfl (z2f HT_.out (by kernel_rfl)) (by decide) (fun K hK=>?_);refine zbx (w1:=?_) (v:=?_) (by rfl) rfl ?_ ?_
         rotate_left 2
         · go_simp
           constructor
           · rfl
           · rfl
         refine hK.out _ _ (⟨(z07 (z02 (Below.refl _ _) _) hHeld.1),(z07 (z02 (Below.refl _ _) _) hHeld.2.1),(z07 (z02 (Below.refl _ _) _) hHeld.2.2.1),(z07 (z02 (Below.refl _ _) _) hHeld.2.2.2)⟩) (fun hHeld=>?_);clear hK K;refine norm_ (a':=?_) ?_ ?_
         rotate_left
         · show Act.put _ (some 100) _=_;simp only[Act.put,List.setIfInBounds_toArray,List.set_cons_zero,List.set_cons_succ,i64_w,i32_w];rfl
         refine last_ (i:=17) (N:=some 101) #[true,true,true,true,true,true,true,true,true,true,true,true,true,true,true,true,true,true,false] rfl rfl (z2f HT_.out (by kernel_rfl)) (by decide) (fun K hK=>?_);refine Kd.R_append_step kP w.heap.size (by rfl) (.tmp 87) (.tmp 100) 82 85 (.agg #[.string ⟨#[]⟩,.int .i64 0]) 24 rfl Tryz.underlying82 infoP rfl (by decide) (by omega) (.slice (some ⟨bk,o,none⟩) q c4) (memS r) ((la++(⟨#[47]⟩:ByteArray))++lb',2) [.string ((la++(⟨#[47]⟩:ByteArray))++lb'),.int .i64 2] (fun k=>w.heap.size≤k∧k≠w.heap.size) (fun _=>False) rfl rfl (zbw _ _ _ _) (fun _ hk=>hk.elim) (fun k hk=>⟨Nat.le_trans HMV.out.B.size hk,by have:=z27 HMV.out.b3;omega⟩) (HRT.out _ HMV.out.own) HMV.out.B HMV.out.B.size (by rw[z2n,HRL.out];have:=HQM.out;omega) ?_;intro u' w3 ho hb hg hat;have HM2:=z00.mk (PaM.after (p:=(z1p a 2++(markL 3++z1p b 3),2)) HMV.out (by rw[←HTX.out];exact ho) hb hg);clear ho hb hg hat hHeld;refine hK.out _ _ ?_;clear hK K;refine norm_ (a':=?_) ?_ ?_
         rotate_left
         · show Act.put _ (some 101) _=_;simp only[Act.put,List.setIfInBounds_toArray,List.set_cons_zero,List.set_cons_succ,i64_w,i32_w];rfl
         refine pure_ (i:=18) (N:=some 4) (v:=?_) (a':=?_) #[true,true,true,true,true,true,true,true,true,true,true,true,true,true,true,true,true,true,true] rfl rfl (z0s HT_.out (by kernel_rfl)) (fun _ _ _ h=>h) (Or.inl ⟨by rfl,?_⟩) ?_ ?_
         rotate_left
         · intro w'
           go_simp
           with_reducible rfl
         rotate_left
         · simp only[Act.put,List.setIfInBounds_toArray,List.set_cons_zero,List.set_cons_succ,i64_w,i32_w];rfl
         refine done_ (z4y HT_.out (by kernel_rfl)) ?_;clear hw4;go_wp2
         go_roundg k1
         case rel=>exact⟨i+1,_,by go_num,by omega,by omega,HS2,HM2⟩
         case measure=>omega
       · -- two
         cases r with
         |nil=>exact absurd ⟨by decide,HML.out.symm⟩ HONE.out
         |cons a r =>
         obtain⟨q,hq⟩:∃q,r.length=q:=⟨_,rfl⟩
         have hmq:m=q+1:=by rw[←HML.out,List.length_cons,hq]
         have HRL:=z00.mk hq;have HMQ:=z00.mk hmq;have g3:=g2 (by decide);clear g2 hq hmq;go_wp2;have hmq:=HMQ.out;have HB0:=z02 (Below.refl wr.heap.size wr) (.cells #[.int .i64 4,.string ⟨#[]⟩] 69);have HM0:=z00.mk (HM.out.below HB0);have hbx:=z0l wr (.cells #[.int .i64 4,.string ⟨#[]⟩] 69);obtain⟨nb,enb⟩:∃n,wr.heap.size=n:=⟨_,rfl⟩
         rw[enb]at hbx ⊢
         generalize wr.alloc (.cells #[.int .i64 4,.string ⟨#[]⟩] 69)=W0 at HM0 hbx ⊢
         have hown:=HM0.out.own;have hC4:=(Kd.R_reads' hown).2.2;have hcap:=(Kd.R_reads hown)
         obtain⟨A',c',he,hcap,_⟩:=hcap;injection he with he1 he2 he3
         subst he1 he3;rw[z2n,List.length_cons,List.length_cons,HRL.out]at hcap;obtain⟨bk,o,rfl,y0,y1⟩:=at_P hC4 m (baL b.1,b.2) (by have:=z8f [] b (a::r);rw[List.length_cons,HRL.out,←hmq]at this;exact this);obtain⟨bk',o',he,x0',x1'⟩:=at_P hC4 q (baL a.1,a.2) (by have:=z8f [b] a r;rw[HRL.out]at this;exact this);injection he with he
         injection he with he1 he2
         subst he1 he2;obtain⟨bs,hbs⟩:∃bs,baL b.1=bs:=⟨_,rfl⟩
         obtain⟨as1,has⟩:∃as1,baL a.1=as1:=⟨_,rfl⟩
         simp only[hbs]at y0;simp only[has]at x0';have hcb:W0.cell? ⟨nb,0,none⟩=some (.int .i64 4):=(z01 hbx 0).trans rfl;have hcs:W0.cell? ⟨w.heap.size,4,none⟩=some (.string ⟨#[124]⟩):=(z01 HM0.out.b3 4).trans rfl;have hwb:b.1.length≤5000:=Nat.le_trans (zb8 (by simp)) HLN.out.2;have hwa:a.1.length≤5000:=Nat.le_trans (zb8 (by simp)) HLN.out.2;have hsa:as1.size≤5000:=by rw[←has,z1y];exact hwa
         have HLA:=z00.mk (fun V=>z1w.calls as1 a.2 2 (baL (z1p a 2)) V (by rw[←has];exact z8g a 2 (by omega)));have HLB:=z00.mk (fun V=>z1w.calls bs b.2 2 (baL (z1p b 2)) V (by rw[←hbs];exact z8g b 2 (by omega)));have hla:=z3i a 2;have hlb:=z3i b 2;have HTX:=z00.mk (show(baL a.1++(⟨#[124]⟩:ByteArray))++baL (z1p b 2)=baL (a.1++(markL 4++z1p b 2))from by rw[show(⟨#[124]⟩:ByteArray)=baL [124]from rfl,z8d,z8d,List.append_assoc];rfl);obtain⟨la,hla'⟩:∃x,baL (z1p a 2)=x:=⟨_,rfl⟩
         obtain⟨lb',hlb'⟩:∃x,baL (z1p b 2)=x:=⟨_,rfl⟩
         have hla2:la.size≤5002:=by rw[←hla',z1y];omega
         have hlb2:lb'.size≤5002:=by rw[←hlb',z1y];omega
         rw[hla']at HLA;rw[hlb']at HLB
         (try rw[hla']at HTX)
         (try rw[hlb']at HTX)
         (try rw[has]at HTX)
         have HHB:=z00.mk hbx;have HHA:=z00.mk has;have p0:(0:Int)≤(m:Int):=by omega
         have p1:(m:Int)<(m:Int)+1:=by omega
         have q0:(0:Int)≤(q:Int):=by omega
         have q1:(q:Int)<(m:Int)+1:=by omega
         have q2:(q:Int)≤(c4:Int):=by omega
         have q3:q≤c4:=by omega
         have HQM:=z00.mk (show q+1<100 by omega);have HW4:=z00.mk (show IntKind.i64.wrap ((m:Int)+1 - 2)=(q:Int) by rw[i64_w];unfold wrap64;omega);clear he2 hcap hown hC4 hbs has hbx HB0 HM enb x0 x1 hwb hwa hla hlb hla' hlb' hmq;have hw1:IntKind.i64.wrap ((m:Int)+1 - 1)=(m:Int):=by rw[i64_w];unfold wrap64;omega
         have hw2:IntKind.i64.wrap (m:Int)=(m:Int):=by rw[i64_w];unfold wrap64;omega
         have hw3:(m:Int)+1 - 1=(m:Int):=by omega
         have kq1:(9223372036854775807<as1.size+1)=False:=eq_false (by omega);have kq2:(9223372036854775807<as1.size+1+lb'.size)=False:=eq_false (by omega);have hw4:=HW4.out
         go_region_held3 (fun w'=>w'.cell? ⟨bk,o+m * 2,none⟩=some (.string bs)∧w'.cell? ⟨bk,o+m * 2+1,none⟩=some (.int .i64 b.2)∧w'.cell? ⟨nb,0,none⟩=some (.int .i64 4)∧w'.cell? ⟨w.heap.size,4,none⟩=some (.string ⟨#[124]⟩)) (go_keep) (fail)
         go_wp2;rename_i hHeld0;clear hHeld0;have hB1:Below W0.heap.size W0 (W0.alloc (.cells #[.string bs,.int .i64 b.2] 85)).drew:=z05 (z02 (Below.refl _ _) _);have h9:=z10 (z0l W0 (.cells #[.string bs,.int .i64 b.2] 85));obtain⟨n9,en9⟩:∃n,W0.heap.size=n:=⟨_,rfl⟩
         rw[en9]at h9 ⊢;have HMV:=z00.mk ((HM0.out.below hB1).below (z05 (Below.refl _ _)));have z0:=z07 hB1 x0';have z1:=z07 hB1 x1'
         generalize (W0.alloc (.cells #[.string bs,.int .i64 b.2] 85)).drew=V0 at HMV z0 z1 h9 ⊢
         have u0:V0.cell? ⟨n9,0,none⟩=some (.string bs):=(z01 h9 0).trans rfl;have u1:V0.cell? ⟨n9,1,none⟩=some (.int .i64 b.2):=(z01 h9 1).trans rfl;have HRT:=z00.mk (fun(V:World) (h:Kd.R kP 85 V w.heap.size (fun k=>w.heap.size≤k∧k≠w.heap.size) (.slice (some ⟨bk,o,none⟩) (m+1) c4) (memS (b::a::r)))=>show Kd.R kP 85 V w.heap.size (fun k=>w.heap.size≤k∧k≠w.heap.size) (.slice (some ⟨bk,o,none⟩) q c4) (memS r)from zci b a r q HRL.out ▸ Kd.R_take (m:=q) h (by rw[z2n,List.length_cons,List.length_cons,HRL.out];omega));have HS2:=z00.mk (z4c HS.out hlt HX.out.1 (push1_or (b:=b) (a:=a) (r:=r)));clear HS hB1 h9 en9 hcb hcs y0 y1 x0' x1' HM0 hw1 hw2 hw3;refine z6t (n:=19) (S:=fun w'=>w'.cell? ⟨bk,o+q * 2,none⟩=some (.string as1)∧w'.cell? ⟨bk,o+q * 2+1,none⟩=some (.int .i64 a.2)∧w'.cell? ⟨n9,0,none⟩=some (.string bs)∧w'.cell? ⟨n9,1,none⟩=some (.int .i64 b.2)) (ds:=[17]) #[false,false,false,false,false,false,false,false,false,false,false,false,false,false,false,false,false,false,false] (by kernel_rfl) rfl rfl (⟨z0,z1,u0,u1⟩) (fun hHeld=>?_);refine z3l show24.tab show24.bits (fun HT_ HW_=>?_)
         generalize V0.drew=V at HMV hHeld ⊢
         refine pure_ (i:=0) (N:=some 104) (v:=?_) (a':=?_) #[true,false,false,false,false,false,false,false,false,false,false,false,false,false,false,false,false,false,false] rfl rfl (z0s HT_.out (by kernel_rfl)) (fun _ _ _ h=>h) (Or.inl ⟨by rfl,?_⟩) ?_ ?_
         rotate_left
         · intro w'
           go_simp
           with_reducible rfl
         rotate_left
         · simp only[Act.put,List.setIfInBounds_toArray,List.set_cons_zero,List.set_cons_succ,i64_w,i32_w];rfl
         refine pure_ (i:=1) (N:=some 105) (v:=?_) (a':=?_) #[true,true,false,false,false,false,false,false,false,false,false,false,false,false,false,false,false,false,false] rfl rfl (z0s HT_.out (by kernel_rfl)) (fun _ _ _ h=>h) (Or.inl ⟨by rfl,?_⟩) ?_ ?_
         rotate_left
         · intro w'
           go_simp
           with_reducible rfl
         rotate_left
         · simp only[Act.put,List.setIfInBounds_toArray,List.set_cons_zero,List.set_cons_succ,i64_w,i32_w];rfl
         refine pure_ (i:=2) (N:=some 106) (v:=?_) (a':=?_) #[true,true,true,false,false,false,false,false,false,false,false,false,false,false,false,false,false,false,false] rfl rfl (z0s HT_.out (by kernel_rfl)) (fun _ _ _ h=>h) (Or.inl ⟨by rfl,?_⟩) ?_ ?_
         rotate_left
         · intro w'
           go_simp
           with_reducible rfl
         rotate_left
         · simp only[Act.put,List.setIfInBounds_toArray,List.set_cons_zero,List.set_cons_succ,i64_w,i32_w];rfl
         refine pure_ (i:=3) (N:=some 107) (v:=?_) (a':=?_) #[true,true,true,true,false,false,false,false,false,false,false,false,false,false,false,false,false,false,false] rfl rfl (z0s HT_.out (by kernel_rfl)) (fun _ _ _ h=>h) (Or.inl ⟨by rfl,?_⟩) ?_ ?_
         rotate_left
         · intro w'
           go_simp
           with_reducible rfl
         rotate_left
         · simp only[Act.put,List.setIfInBounds_toArray,List.set_cons_zero,List.set_cons_succ,i64_w,i32_w];rfl
         refine pure_ (i:=4) (N:=some 108) (v:=?_) (a':=?_) #[true,true,true,true,true,false,false,false,false,false,false,false,false,false,false,false,false,false,false] rfl rfl (z0s HT_.out (by kernel_rfl)) (fun _ _ _ h=>h) (Or.inl ⟨by rfl,?_⟩) ?_ ?_
         rotate_left
         · intro w'
           go_simp
           with_reducible rfl
         rotate_left
         · simp only[Act.put,List.setIfInBounds_toArray,List.set_cons_zero,List.set_cons_succ,i64_w,i32_w];rfl
         refine pure_ (i:=5) (N:=some 109) (v:=?_) (a':=?_) #[true,true,true,true,true,true,false,false,false,false,false,false,false,false,false,false,false,false,false] rfl rfl (z0s HT_.out (by kernel_rfl)) (fun _ _ _ h=>h) (Or.inl ⟨by rfl,?_⟩) ?_ ?_
         rotate_left
         · intro w'
           go_simp
           with_reducible rfl
         rotate_left
         · simp only[Act.put,List.setIfInBounds_toArray,List.set_cons_zero,List.set_cons_succ,i64_w,i32_w];rfl
         refine pure_ (i:=6) (N:=some 110) (v:=?_) (a':=?_) #[true,true,true,true,true,true,true,false,false,false,false,false,false,false,false,false,false,false,false] rfl rfl (z0s HT_.out (by kernel_rfl)) (fun _ _ _ h=>h) (Or.inl ⟨by rfl,?_⟩) ?_ ?_
         rotate_left
         · intro w'
           go_simp
           with_reducible rfl
         rotate_left
         · simp only[Act.put,List.setIfInBounds_toArray,List.set_cons_zero,List.set_cons_succ,i64_w,i32_w];rfl
         refine pure_ (i:=7) (N:=some 111) (v:=?_) (a':=?_) #[true,true,true,true,true,true,true,true,false,false,false,false,false,false,false,false,false,false,false] rfl rfl (z0s HT_.out (by kernel_rfl)) (fun _ _ _ h=>h) (Or.inl ⟨by rfl,?_⟩) ?_ ?_
         rotate_left
         · intro w'
           go_simp
           with_reducible rfl
         rotate_left
         · simp only[Act.put,List.setIfInBounds_toArray,List.set_cons_zero,List.set_cons_succ,i64_w,i32_w];rfl
         refine pure_ (i:=8) (N:=some 112) (v:=?_) (a':=?_) #[true,true,true,true,true,true,true,true,true,false,false,false,false,false,false,false,false,false,false] rfl rfl (z0s HT_.out (by kernel_rfl)) (fun _ _ _ h=>h) (Or.inl ⟨by rfl,?_⟩) ?_ ?_
         rotate_left
         · intro w'
           go_simp
           with_reducible rfl
         rotate_left
         · simp only[Act.put,List.setIfInBounds_toArray,List.set_cons_zero,List.set_cons_succ,i64_w,i32_w];rfl
         refine take_ (i:=9) (N:=some 113) (v:=?_) (a':=?_) #[true,true,true,true,true,true,true,true,true,true,false,false,false,false,false,false,false,false,false] rfl rfl (z1s HT_.out HW_.out (by kernel_rfl)) (fun _ _ _ h=>h) (Or.inl ⟨by rfl,?_⟩) hHeld ?_ ?_
         rotate_left
         · rintro w' ⟨s1,s2,s3,s4⟩
           go_simp
           with_reducible rfl
         rotate_left
         · simp only[Act.put,List.setIfInBounds_toArray,List.set_cons_zero,List.set_cons_succ,i64_w,i32_w];rfl
         refine pure_ (i:=10) (N:=some 114) (v:=?_) (a':=?_) #[true,true,true,true,true,true,true,true,true,true,true,false,false,false,false,false,false,false,false] rfl rfl (z0s HT_.out (by kernel_rfl)) (fun _ _ _ h=>h) (Or.inl ⟨by rfl,?_⟩) ?_ ?_
         rotate_left
         · intro w'
           go_simp
           with_reducible rfl
         rotate_left
         · simp only[Act.put,List.setIfInBounds_toArray,List.set_cons_zero,List.set_cons_succ,i64_w,i32_w];rfl
         refine pure_ (i:=11) (N:=some 115) (v:=?_) (a':=?_) #[true,true,true,true,true,true,true,true,true,true,true,true,false,false,false,false,false,false,false] rfl rfl (z0s HT_.out (by kernel_rfl)) (fun _ _ _ h=>h) (Or.inl ⟨by rfl,?_⟩) ?_ ?_
         rotate_left
         · intro w'
           go_simp
           with_reducible rfl
         rotate_left
         · simp only[Act.put,List.setIfInBounds_toArray,List.set_cons_zero,List.set_cons_succ,i64_w,i32_w];rfl
         refine take_ (i:=12) (N:=some 116) (v:=?_) (a':=?_) #[true,true,true,true,true,true,true,true,true,true,true,true,true,false,false,false,false,false,false] rfl rfl (z1s HT_.out HW_.out (by kernel_rfl)) (fun _ _ _ h=>h) (Or.inl ⟨by rfl,?_⟩) hHeld ?_ ?_
         rotate_left
         · rintro w' ⟨s1,s2,s3,s4⟩
           go_simp
           with_reducible rfl
         rotate_left
         · simp only[Act.put,List.setIfInBounds_toArray,List.set_cons_zero,List.set_cons_succ,i64_w,i32_w];rfl
         refine one_ (i:=13) (N:=some 117) #[true,true,true,true,true,true,true,true,true,true,true,true,true,true,false,false,false,false,false] rfl rfl (z2f HT_.out (by kernel_rfl)) (by decide) (fun K hK=>?_);refine goes_ Tryz.func51 (by kernel_rfl) rfl #[.agg #[.string bs,.int .i64 b.2],.int .i64 2] (by rfl) rfl rfl zA02 ?_;refine(HLB.out _).mono ?_;rintro e V2 ⟨rfl,hb⟩;refine⟨_,rfl,?_⟩;replace HMV:=z00.mk (HMV.out.below hb);refine hK.out _ _ (⟨z07 hb hHeld.1,z07 hb hHeld.2.1,z07 hb hHeld.2.2.1,z07 hb hHeld.2.2.2⟩) (fun hHeld=>?_);clear hK K;refine norm_ (a':=?_) ?_ ?_
         rotate_left
         · show Act.put _ (some 117) _=_;simp only[Act.put,List.setIfInBounds_toArray,List.set_cons_zero,List.set_cons_succ,i64_w,i32_w];rfl
         refine pure_ (i:=14) (N:=some 118) (v:=?_) (a':=?_) #[true,true,true,true,true,true,true,true,true,true,true,true,true,true,true,false,false,false,false] rfl rfl (z0s HT_.out (by kernel_rfl)) (fun _ _ _ h=>h) (Or.inl ⟨by rfl,?_⟩) ?_ ?_
         rotate_left
         · intro w'
           go_simp
           with_reducible rfl
         rotate_left
         · simp only[Act.put,List.setIfInBounds_toArray,List.set_cons_zero,List.set_cons_succ,i64_w,i32_w];rfl
         refine pure_ (i:=15) (N:=some 119) (v:=?_) (a':=?_) #[true,true,true,true,true,true,true,true,true,true,true,true,true,true,true,true,false,false,false] rfl rfl (z0s HT_.out (by kernel_rfl)) (fun _ _ _ h=>h) (Or.inl ⟨by rfl,?_⟩) ?_ ?_
         rotate_left
         · intro w'
           go_simp
           with_reducible rfl
         rotate_left
         · simp only[Act.put,List.setIfInBounds_toArray,List.set_cons_zero,List.set_cons_succ,i64_w,i32_w];rfl
         refine one_ (i:=16) (N:=some 120) #[true,true,true,true,true,true,true,true,true,true,true,true,true,true,true,true,true,false,false] rfl rfl (z2f HT_.out (by kernel_rfl)) (by decide) (fun K hK=>?_);refine zbx (w1:=?_) (v:=?_) (by rfl) rfl ?_ ?_
         rotate_left 2
         · go_simp
           constructor
           · rfl
           · rfl
         refine hK.out _ _ (⟨(z07 (z02 (Below.refl _ _) _) hHeld.1),(z07 (z02 (Below.refl _ _) _) hHeld.2.1),(z07 (z02 (Below.refl _ _) _) hHeld.2.2.1),(z07 (z02 (Below.refl _ _) _) hHeld.2.2.2)⟩) (fun hHeld=>?_);clear hK K;refine norm_ (a':=?_) ?_ ?_
         rotate_left
         · show Act.put _ (some 120) _=_;simp only[Act.put,List.setIfInBounds_toArray,List.set_cons_zero,List.set_cons_succ,i64_w,i32_w];rfl
         refine last_ (i:=17) (N:=some 121) #[true,true,true,true,true,true,true,true,true,true,true,true,true,true,true,true,true,true,false] rfl rfl (z2f HT_.out (by kernel_rfl)) (by decide) (fun K hK=>?_);refine Kd.R_append_step kP w.heap.size (by rfl) (.tmp 107) (.tmp 120) 82 85 (.agg #[.string ⟨#[]⟩,.int .i64 0]) 24 rfl Tryz.underlying82 infoP rfl (by decide) (by omega) (.slice (some ⟨bk,o,none⟩) q c4) (memS r) ((as1++(⟨#[124]⟩:ByteArray))++lb',1) [.string ((as1++(⟨#[124]⟩:ByteArray))++lb'),.int .i64 1] (fun k=>w.heap.size≤k∧k≠w.heap.size) (fun _=>False) rfl rfl (zbw _ _ _ _) (fun _ hk=>hk.elim) (fun k hk=>⟨Nat.le_trans HMV.out.B.size hk,by have:=z27 HMV.out.b3;omega⟩) (HRT.out _ HMV.out.own) HMV.out.B HMV.out.B.size (by rw[z2n,HRL.out];have:=HQM.out;omega) ?_;intro u' w3 ho hb hg hat;have HM2:=z00.mk (PaM.after (p:=(a.1++(markL 4++z1p b 2),1)) HMV.out (by rw[←HTX.out];exact ho) hb hg);clear ho hb hg hat hHeld;refine hK.out _ _ ?_;clear hK K;refine norm_ (a':=?_) ?_ ?_
         rotate_left
         · show Act.put _ (some 121) _=_;simp only[Act.put,List.setIfInBounds_toArray,List.set_cons_zero,List.set_cons_succ,i64_w,i32_w];rfl
         refine pure_ (i:=18) (N:=some 4) (v:=?_) (a':=?_) #[true,true,true,true,true,true,true,true,true,true,true,true,true,true,true,true,true,true,true] rfl rfl (z0s HT_.out (by kernel_rfl)) (fun _ _ _ h=>h) (Or.inl ⟨by rfl,?_⟩) ?_ ?_
         rotate_left
         · intro w'
           go_simp
           with_reducible rfl
         rotate_left
         · simp only[Act.put,List.setIfInBounds_toArray,List.set_cons_zero,List.set_cons_succ,i64_w,i32_w];rfl
         refine done_ (z4y HT_.out (by kernel_rfl)) ?_;clear hw4;go_wp2
         go_roundg k1
         case rel=>exact⟨i+1,_,by go_num,by omega,by omega,HS2,HM2⟩
         case measure=>omega
       · -- mark
         clear g2;go_wp2;have HB0:=z02 (Below.refl wr.heap.size wr) (.cells #[.int .i64 5,.string ⟨#[]⟩] 69);have HM0:=z00.mk (HM.out.below HB0);have hbx:=z0l wr (.cells #[.int .i64 5,.string ⟨#[]⟩] 69);obtain⟨nb,enb⟩:∃n,wr.heap.size=n:=⟨_,rfl⟩
         rw[enb]at hbx ⊢
         generalize wr.alloc (.cells #[.int .i64 5,.string ⟨#[]⟩] 69)=W0 at HM0 hbx ⊢
         have hown:=HM0.out.own;have hC4:=(Kd.R_reads' hown).2.2;obtain⟨bk,o,rfl,y0,y1⟩:=at_P hC4 m (baL b.1,b.2) (by have:=z8f [] b r;rw[HML.out]at this;exact this);obtain⟨rfl,cur,hcur⟩:=zd7 hown;obtain⟨bs,hbs⟩:∃bs,baL b.1=bs:=⟨_,rfl⟩
         simp only[hbs,Nat.zero_add]at y0;simp only[Nat.zero_add]at y1;have hcb:W0.cell? ⟨nb,0,none⟩=some (.int .i64 5):=(z01 hbx 0).trans rfl;have hcs:W0.cell? ⟨w.heap.size,5,none⟩=some (.string ⟨#[42]⟩):=(z01 HM0.out.b3 5).trans rfl;have hwb:b.1.length≤5000:=Nat.le_trans (zb8 (by simp)) HLN.out.2;have HLB:=z00.mk (fun V=>z1w.calls bs b.2 3 (baL (z1p b 3)) V zA0z);have hlb:=z3i b 3;have HTX:=z00.mk (show baL (z1p b 3)++(⟨#[42]⟩:ByteArray)=baL (z1p b 3++markL 5)from by rw[show(⟨#[42]⟩:ByteArray)=baL [42]from rfl,z8d];rfl);obtain⟨lb',hlb'⟩:∃x,baL (z1p b 3)=x:=⟨_,rfl⟩
         have hlb2:lb'.size≤5002:=by rw[←hlb',z1y];omega
         rw[hlb']at HLB HTX;have HBS:=z00.mk hbs;have HCUR:=z00.mk hcur;have p0:(0:Int)≤(m:Int):=by omega
         have p1:(m:Int)<(m:Int)+1:=by omega
         have hmz:m * 2<(m+1) * 2:=by omega
         have kq1:(9223372036854775807<lb'.size+1)=False:=eq_false (by omega);have HS2:=z00.mk (z4c HS.out hlt HX.out.1 (z9t (b:=b) (r:=r) (by decide) (by decide) (by decide)));have HSET:=z00.mk (zcs b (z1p b 3++markL 5,3) r m HML.out);clear HS hown hC4 hbs hcur hbx HB0 HM enb x0 x1 hwb hlb hlb';have hw1:IntKind.i64.wrap ((m:Int)+1 - 1)=(m:Int):=by rw[i64_w];unfold wrap64;omega
         have hw2:IntKind.i64.wrap (m:Int)=(m:Int):=by rw[i64_w];unfold wrap64;omega
         have hw3:(m:Int)+1 - 1=(m:Int):=by omega
         go_region_held3 (fun w'=>w'.cell? ⟨bk,m * 2,none⟩=some (.string bs)∧w'.cell? ⟨bk,m * 2+1,none⟩=some (.int .i64 b.2)∧w'.cell? ⟨nb,0,none⟩=some (.int .i64 5)∧w'.cell? ⟨w.heap.size,5,none⟩=some (.string ⟨#[42]⟩)) (go_keep) (fail)
         rename_i hHeld0
         go_wp2_with fail
         clear hw1 hw2 hw3 hHeld0;refine(HLB.out _).mono ?_;rintro e V ⟨rfl,hb⟩;have hB1:Below W0.heap.size W0 V:=z06 (z05 (z02 (Below.refl _ _) _)) (z05 (z02 (Below.refl W0.heap.size W0) (.cells #[.string bs,.int .i64 b.2] 85))).size hb;have HMV:=z00.mk (HM0.out.below hB1);have z0:=z07 hB1 y0;have z1:=z07 hB1 y1;have hfz:=z03 (z0a HCUR.out hB1) (m * 2);have hfz1:=z03 (z0a HCUR.out hB1) (m * 2+1);clear hb hB1 hcb hcs y0 y1 HM0;have HCC:=z00.mk (show ∀(j:Nat) (u:Value),([.string bs,.int .i64 b.2]:List Value)[j]?=some u→V.cell? ⟨bk,(m:Int).toNat * kP.sz+j,none⟩=some u from fun j u hj=>by
          match j,hj with
          |0,hj=>obtain rfl:=Option.some.inj hj;exact z0
          |1,hj=>obtain rfl:=Option.some.inj hj;exact z1)
         clear z0 z1
         go_wp2_with ((with_reducible refine z3x (t:=85) (p:=81) (v:=.tmp 80) rfl ?_);refine Kd.R_store kP (w0:=w) w.heap.size rfl rfl 85 (.tmp 81) (.tmp 80) rfl 85 (g:=bk) (n:=m+1) (cap:=c4) (o':=m * 2) (m:Int) 0 (memS (b::r)) (lb'++(⟨#[42]⟩:ByteArray),3) (.agg #[.string (lb'++(⟨#[42]⟩:ByteArray)),.int .i64 3]) [.string (lb'++(⟨#[42]⟩:ByteArray)),.int .i64 3] [.string bs,.int .i64 b.2] (fun k=>w.heap.size≤k∧k≠w.heap.size) (fun _=>False) (by first|rfl|(simp;done)) rfl rfl rfl (by kernel_rfl) zA10 HMV.out.own p0 (by omega) rfl HCC.out (Nat.le_refl 2) (zbw _ _ _ _) (fun _ hk=>hk.elim) HMV.out.B ?_;intro w3 ho hb hg;have HM2:=z00.mk (show PaM w w3 w.heap.size (.slice (some ⟨bk,0,none⟩) (m+1) c4) ((z1p b 3++markL 5,3)::r)from⟨hb,by rw[←HSET.out,←HTX.out];exact ho,z3b HMV.out.b3 hg (fun he=>(HMV.out.own.1 w.heap.size he.symm).2 rfl),HMV.out.h3⟩);clear ho hb hg)
         go_wp2
         go_roundg k1
         case rel=>exact⟨i+1,_,by go_num,by omega,by omega,HS2,HM2⟩
         case measure=>omega
       · -- mark
         clear g2;go_wp2;have HB0:=z02 (Below.refl wr.heap.size wr) (.cells #[.int .i64 6,.string ⟨#[]⟩] 69);have HM0:=z00.mk (HM.out.below HB0);have hbx:=z0l wr (.cells #[.int .i64 6,.string ⟨#[]⟩] 69);obtain⟨nb,enb⟩:∃n,wr.heap.size=n:=⟨_,rfl⟩
         rw[enb]at hbx ⊢
         generalize wr.alloc (.cells #[.int .i64 6,.string ⟨#[]⟩] 69)=W0 at HM0 hbx ⊢
         have hown:=HM0.out.own;have hC4:=(Kd.R_reads' hown).2.2;obtain⟨bk,o,rfl,y0,y1⟩:=at_P hC4 m (baL b.1,b.2) (by have:=z8f [] b r;rw[HML.out]at this;exact this);obtain⟨rfl,cur,hcur⟩:=zd7 hown;obtain⟨bs,hbs⟩:∃bs,baL b.1=bs:=⟨_,rfl⟩
         simp only[hbs,Nat.zero_add]at y0;simp only[Nat.zero_add]at y1;have hcb:W0.cell? ⟨nb,0,none⟩=some (.int .i64 6):=(z01 hbx 0).trans rfl;have hcs:W0.cell? ⟨w.heap.size,6,none⟩=some (.string ⟨#[43]⟩):=(z01 HM0.out.b3 6).trans rfl;have hwb:b.1.length≤5000:=Nat.le_trans (zb8 (by simp)) HLN.out.2;have HLB:=z00.mk (fun V=>z1w.calls bs b.2 3 (baL (z1p b 3)) V zA0z);have hlb:=z3i b 3;have HTX:=z00.mk (show baL (z1p b 3)++(⟨#[43]⟩:ByteArray)=baL (z1p b 3++markL 6)from by rw[show(⟨#[43]⟩:ByteArray)=baL [43]from rfl,z8d];rfl);obtain⟨lb',hlb'⟩:∃x,baL (z1p b 3)=x:=⟨_,rfl⟩
         have hlb2:lb'.size≤5002:=by rw[←hlb',z1y];omega
         rw[hlb']at HLB HTX;have HBS:=z00.mk hbs;have HCUR:=z00.mk hcur;have p0:(0:Int)≤(m:Int):=by omega
         have p1:(m:Int)<(m:Int)+1:=by omega
         have hmz:m * 2<(m+1) * 2:=by omega
         have kq1:(9223372036854775807<lb'.size+1)=False:=eq_false (by omega);have HS2:=z00.mk (z4c HS.out hlt HX.out.1 (z9t (b:=b) (r:=r) (by decide) (by decide) (by decide)));have HSET:=z00.mk (zcs b (z1p b 3++markL 6,3) r m HML.out);clear HS hown hC4 hbs hcur hbx HB0 HM enb x0 x1 hwb hlb hlb';have hw1:IntKind.i64.wrap ((m:Int)+1 - 1)=(m:Int):=by rw[i64_w];unfold wrap64;omega
         have hw2:IntKind.i64.wrap (m:Int)=(m:Int):=by rw[i64_w];unfold wrap64;omega
         have hw3:(m:Int)+1 - 1=(m:Int):=by omega
         go_region_held3 (fun w'=>w'.cell? ⟨bk,m * 2,none⟩=some (.string bs)∧w'.cell? ⟨bk,m * 2+1,none⟩=some (.int .i64 b.2)∧w'.cell? ⟨nb,0,none⟩=some (.int .i64 6)∧w'.cell? ⟨w.heap.size,6,none⟩=some (.string ⟨#[43]⟩)) (go_keep) (fail)
         rename_i hHeld0
         go_wp2_with fail
         clear hw1 hw2 hw3 hHeld0;refine(HLB.out _).mono ?_;rintro e V ⟨rfl,hb⟩;have hB1:Below W0.heap.size W0 V:=z06 (z05 (z02 (Below.refl _ _) _)) (z05 (z02 (Below.refl W0.heap.size W0) (.cells #[.string bs,.int .i64 b.2] 85))).size hb;have HMV:=z00.mk (HM0.out.below hB1);have z0:=z07 hB1 y0;have z1:=z07 hB1 y1;have hfz:=z03 (z0a HCUR.out hB1) (m * 2);have hfz1:=z03 (z0a HCUR.out hB1) (m * 2+1);clear hb hB1 hcb hcs y0 y1 HM0;have HCC:=z00.mk (show ∀(j:Nat) (u:Value),([.string bs,.int .i64 b.2]:List Value)[j]?=some u→V.cell? ⟨bk,(m:Int).toNat * kP.sz+j,none⟩=some u from fun j u hj=>by
          match j,hj with
          |0,hj=>obtain rfl:=Option.some.inj hj;exact z0
          |1,hj=>obtain rfl:=Option.some.inj hj;exact z1)
         clear z0 z1
         go_wp2_with ((with_reducible refine z3x (t:=85) (p:=81) (v:=.tmp 80) rfl ?_);refine Kd.R_store kP (w0:=w) w.heap.size rfl rfl 85 (.tmp 81) (.tmp 80) rfl 85 (g:=bk) (n:=m+1) (cap:=c4) (o':=m * 2) (m:Int) 0 (memS (b::r)) (lb'++(⟨#[43]⟩:ByteArray),3) (.agg #[.string (lb'++(⟨#[43]⟩:ByteArray)),.int .i64 3]) [.string (lb'++(⟨#[43]⟩:ByteArray)),.int .i64 3] [.string bs,.int .i64 b.2] (fun k=>w.heap.size≤k∧k≠w.heap.size) (fun _=>False) (by first|rfl|(simp;done)) rfl rfl rfl (by kernel_rfl) zA10 HMV.out.own p0 (by omega) rfl HCC.out (Nat.le_refl 2) (zbw _ _ _ _) (fun _ hk=>hk.elim) HMV.out.B ?_;intro w3 ho hb hg;have HM2:=z00.mk (show PaM w w3 w.heap.size (.slice (some ⟨bk,0,none⟩) (m+1) c4) ((z1p b 3++markL 6,3)::r)from⟨hb,by rw[←HSET.out,←HTX.out];exact ho,z3b HMV.out.b3 hg (fun he=>(HMV.out.own.1 w.heap.size he.symm).2 rfl),HMV.out.h3⟩);clear ho hb hg)
         go_wp2
         go_roundg k1
         case rel=>exact⟨i+1,_,by go_num,by omega,by omega,HS2,HM2⟩
         case measure=>omega
       · -- mark
         clear g2;go_wp2;have HB0:=z02 (Below.refl wr.heap.size wr) (.cells #[.int .i64 7,.string ⟨#[]⟩] 69);have HM0:=z00.mk (HM.out.below HB0);have hbx:=z0l wr (.cells #[.int .i64 7,.string ⟨#[]⟩] 69);obtain⟨nb,enb⟩:∃n,wr.heap.size=n:=⟨_,rfl⟩
         rw[enb]at hbx ⊢
         generalize wr.alloc (.cells #[.int .i64 7,.string ⟨#[]⟩] 69)=W0 at HM0 hbx ⊢
         have hown:=HM0.out.own;have hC4:=(Kd.R_reads' hown).2.2;obtain⟨bk,o,rfl,y0,y1⟩:=at_P hC4 m (baL b.1,b.2) (by have:=z8f [] b r;rw[HML.out]at this;exact this);obtain⟨rfl,cur,hcur⟩:=zd7 hown;obtain⟨bs,hbs⟩:∃bs,baL b.1=bs:=⟨_,rfl⟩
         simp only[hbs,Nat.zero_add]at y0;simp only[Nat.zero_add]at y1;have hcb:W0.cell? ⟨nb,0,none⟩=some (.int .i64 7):=(z01 hbx 0).trans rfl;have hcs:W0.cell? ⟨w.heap.size,7,none⟩=some (.string ⟨#[63]⟩):=(z01 HM0.out.b3 7).trans rfl;have hwb:b.1.length≤5000:=Nat.le_trans (zb8 (by simp)) HLN.out.2;have HLB:=z00.mk (fun V=>z1w.calls bs b.2 3 (baL (z1p b 3)) V zA0z);have hlb:=z3i b 3;have HTX:=z00.mk (show baL (z1p b 3)++(⟨#[63]⟩:ByteArray)=baL (z1p b 3++markL 7)from by rw[show(⟨#[63]⟩:ByteArray)=baL [63]from rfl,z8d];rfl);obtain⟨lb',hlb'⟩:∃x,baL (z1p b 3)=x:=⟨_,rfl⟩
         have hlb2:lb'.size≤5002:=by rw[←hlb',z1y];omega
         rw[hlb']at HLB HTX;have HBS:=z00.mk hbs;have HCUR:=z00.mk hcur;have p0:(0:Int)≤(m:Int):=by omega
         have p1:(m:Int)<(m:Int)+1:=by omega
         have hmz:m * 2<(m+1) * 2:=by omega
         have kq1:(9223372036854775807<lb'.size+1)=False:=eq_false (by omega);have HS2:=z00.mk (z4c HS.out hlt HX.out.1 (z9t (b:=b) (r:=r) (by decide) (by decide) (by decide)));have HSET:=z00.mk (zcs b (z1p b 3++markL 7,3) r m HML.out);clear HS hown hC4 hbs hcur hbx HB0 HM enb x0 x1 hwb hlb hlb';have hw1:IntKind.i64.wrap ((m:Int)+1 - 1)=(m:Int):=by rw[i64_w];unfold wrap64;omega
         have hw2:IntKind.i64.wrap (m:Int)=(m:Int):=by rw[i64_w];unfold wrap64;omega
         have hw3:(m:Int)+1 - 1=(m:Int):=by omega
         go_region_held3 (fun w'=>w'.cell? ⟨bk,m * 2,none⟩=some (.string bs)∧w'.cell? ⟨bk,m * 2+1,none⟩=some (.int .i64 b.2)∧w'.cell? ⟨nb,0,none⟩=some (.int .i64 7)∧w'.cell? ⟨w.heap.size,7,none⟩=some (.string ⟨#[63]⟩)) (go_keep) (fail)
         rename_i hHeld0
         go_wp2_with fail
         clear hw1 hw2 hw3 hHeld0;refine(HLB.out _).mono ?_;rintro e V ⟨rfl,hb⟩;have hB1:Below W0.heap.size W0 V:=z06 (z05 (z02 (Below.refl _ _) _)) (z05 (z02 (Below.refl W0.heap.size W0) (.cells #[.string bs,.int .i64 b.2] 85))).size hb;have HMV:=z00.mk (HM0.out.below hB1);have z0:=z07 hB1 y0;have z1:=z07 hB1 y1;have hfz:=z03 (z0a HCUR.out hB1) (m * 2);have hfz1:=z03 (z0a HCUR.out hB1) (m * 2+1);clear hb hB1 hcb hcs y0 y1 HM0;have HCC:=z00.mk (show ∀(j:Nat) (u:Value),([.string bs,.int .i64 b.2]:List Value)[j]?=some u→V.cell? ⟨bk,(m:Int).toNat * kP.sz+j,none⟩=some u from fun j u hj=>by
          match j,hj with
          |0,hj=>obtain rfl:=Option.some.inj hj;exact z0
          |1,hj=>obtain rfl:=Option.some.inj hj;exact z1)
         clear z0 z1
         go_wp2_with ((with_reducible refine z3x (t:=85) (p:=81) (v:=.tmp 80) rfl ?_);refine Kd.R_store kP (w0:=w) w.heap.size rfl rfl 85 (.tmp 81) (.tmp 80) rfl 85 (g:=bk) (n:=m+1) (cap:=c4) (o':=m * 2) (m:Int) 0 (memS (b::r)) (lb'++(⟨#[63]⟩:ByteArray),3) (.agg #[.string (lb'++(⟨#[63]⟩:ByteArray)),.int .i64 3]) [.string (lb'++(⟨#[63]⟩:ByteArray)),.int .i64 3] [.string bs,.int .i64 b.2] (fun k=>w.heap.size≤k∧k≠w.heap.size) (fun _=>False) (by first|rfl|(simp;done)) rfl rfl rfl (by kernel_rfl) zA10 HMV.out.own p0 (by omega) rfl HCC.out (Nat.le_refl 2) (zbw _ _ _ _) (fun _ hk=>hk.elim) HMV.out.B ?_;intro w3 ho hb hg;have HM2:=z00.mk (show PaM w w3 w.heap.size (.slice (some ⟨bk,0,none⟩) (m+1) c4) ((z1p b 3++markL 7,3)::r)from⟨hb,by rw[←HSET.out,←HTX.out];exact ho,z3b HMV.out.b3 hg (fun he=>(HMV.out.own.1 w.heap.size he.symm).2 rfl),HMV.out.h3⟩);clear ho hb hg)
         go_wp2
         go_roundg k1
         case rel=>exact⟨i+1,_,by go_num,by omega,by omega,HS2,HM2⟩
         case measure=>omega
    · obtain rfl:i=l.length:=by omega
      have hz:decide ((l.length:Int)<(l.length:Int))=false:=decide_eq_false (by omega);have hs:=HS.out;rw[List.take_length]at hs;have hwt:=z7k _ _ _ hs;have hml:=z2n st;obtain⟨A4,c4,hu⟩:=Kd.R_slice HM.out.own;rw[hml]at hu;subst hu;have HE:=z00.mk (zkd (by omega) hs);have HB:=z00.mk HM.out.B;clear HS hml hs
      cases st with
      |nil =>
       clear HM hwt;go_wp2
       go_ret
       exact⟨by rw[HE.out];rfl,HB.out⟩
      |cons b r =>
       cases r with
       |cons b2 r =>
        have g1:(((b::b2::r).length:Int)==1)=false:=beq_eq_false_iff_ne.2 (by simp;omega);have g2:(((b::b2::r).length:Int) !=1)=true:=bne_iff_ne.2 (by simp;omega);obtain⟨k2,hk2⟩:∃k2,(b::b2::r).length=k2:=⟨_,rfl⟩
        rw[hk2]at g1 g2 ⊢;clear HM hwt hk2;go_wp2
        go_ret
        exact⟨by rw[HE.out];rfl,HB.out⟩
       |nil =>
        have hC4:=(Kd.R_reads' HM.out.own).2.2;obtain⟨bk,o,rfl,y0,y1⟩:=at_P hC4 0 (baL b.1,b.2) rfl;have hwb:b.1.length≤5000:=by simp only[wt]at hwt;omega
        obtain⟨kd,hkd⟩:=deep_S b.1 (by omega);have HD:=z00.mk (fun V (h:LaidW V)=>z1q.calls kd (baL b.1) ((deepS b.1:Nat):Int) V h hkd);obtain⟨bs,hbs⟩:∃bs,baL b.1=bs:=⟨_,rfl⟩
        have HBS:=z00.mk hbs;simp only[hbs]at y0;rw[hbs]at HD;obtain⟨dp,hdp⟩:∃d,deepS b.1=d:=⟨_,rfl⟩
        have HE2:=z00.mk (show pathL l=if 32<dp then[]else b.1 from by rw[HE.out,←hdp];rfl);rw[hdp]at HD;rw[Nat.zero_mul,Nat.add_zero]at y0;clear hC4 hwt hkd hbs hdp HE HM y1 hwb
        go_wp2_with fail
        refine(HD.out _ (HLW.out.below HB.out)).mono ?_;rintro e V ⟨rfl,hb⟩;have HB1:=z00.mk (z06 HB.out HB.out.size hb);have z0:=z07 hb y0;clear hb y0
        by_cases h32:32<dp
        · have g1:decide ((32:Int)<(dp:Int))=true:=decide_eq_true (by omega);have g2:decide (32<dp)=true:=decide_eq_true h32;go_wp2
          go_ret
          exact⟨by rw[HE2.out,if_pos h32];rfl,HB1.out⟩
        · have g1:decide ((32:Int)<(dp:Int))=false:=decide_eq_false (by omega);have g2:decide (32<dp)=false:=decide_eq_false h32;go_wp2
          go_ret
          exact⟨by rw[HE2.out,if_neg h32,HBS.out];rfl,HB1.out⟩
end Go.Proofs.YthebhbomlllpeaaGreatDoor.X
namespace Go.Proofs.YthebhbomlllpeaaGreatDoor.X
open Go.RowKit Go.Proofs.YthebhbomlllpeaaGreatDoorW.PrintWords Go.Proofs.YthebhbomlllpeaaGreatDoorW.PrintLast Go.Proofs.YthebhbomlllpeaaGreatDoorW.PrintMore
def numDig (c:Int):Int:=if 97≤c then c - 97+10 else(c - 48) % 256
def numStep (b n c:Int):Int:=IntKind.u64.wrap (IntKind.u64.wrap (n * b)+numDig c)
def zkq (s:ByteArray) (b:Int):Nat→Nat→Int→Int
 |0,_,n=>n
 |d+1,pos,n=>if pos<s.size then zkq s b d (pos+(Utf8.decode s pos).2) (numStep b n (bt s (pos:Int)))else n
def z3z.f (a0:ByteArray) (a1:Int):Option Int:=some (zkq a0 a1 a0.size 0 0)
end Go.Proofs.YthebhbomlllpeaaGreatDoor.X
namespace Go.Proofs.YthebhbomlllpeaaGreatDoor.X
open Go.RowKit Go.Proofs.YthebhbomlllpeaaGreatDoorW.PrintWords Go.Proofs.YthebhbomlllpeaaGreatDoorW.PrintLast Go.Proofs.YthebhbomlllpeaaGreatDoorW.PrintMore
attribute [local go_sem] z4h z4i z5e z5d z3s z3r z4l z4k
def z3g.j0:Nat→ByteArray→Bool→Int→Int→ByteArray→Option (Int × Int × ByteArray × Int)
 |0,_,_,_,_,_=>none
 |k+1,x0,x34,x197000,x197001,x197002=>if x34=true then((z3z.f x0 10).bind fun t201=>((z2b.f k 1 (wrap64 (t201)) (⟨#[]⟩:ByteArray)).bind fun t202=>(if t202.toList=x0.toList then(some (1,wrap64 (t201),(⟨#[]⟩:ByteArray),0))else(some (0,0,(⟨#[]⟩:ByteArray),2)))))else((z2b.f k x197000 x197001 x197002).bind fun t203=>(if t203.toList=x0.toList then(some (x197000,x197001,x197002,0))else(some (0,0,(⟨#[]⟩:ByteArray),2))))
def z3g.f (k:Nat) (a0:ByteArray):Option (Int × Int × ByteArray × Int):=if a0.toList=([]:List UInt8)then(some (0,0,(⟨#[]⟩:ByteArray),2))else(if 0<(a0.size:Int)then(if(bt a0 0)=35 then(if 1≤(a0.size:Int)then((z3z.f (a0.extract 1 a0.size) 16).bind fun t197=>((z2b.f k 2 (wrap64 (t197)) (⟨#[]⟩:ByteArray)).bind fun t198=>(if t198.toList=a0.toList then(some (2,wrap64 (t197),(⟨#[]⟩:ByteArray),0))else(some (0,0,(⟨#[]⟩:ByteArray),2)))))else(none))else(if(bt a0 0)=45 then(if 1≤(a0.size:Int)then((z3z.f (a0.extract 1 a0.size) 10).bind fun t199=>((z2b.f k 1 (wrap64 (IntKind.u64.wrap (-t199))) (⟨#[]⟩:ByteArray)).bind fun t200=>(if t200.toList=a0.toList then(some (1,wrap64 (IntKind.u64.wrap (-t199)),(⟨#[]⟩:ByteArray),0))else(some (0,0,(⟨#[]⟩:ByteArray),2)))))else(none))else(if(bt a0 0)≥48 then(z3g.j0 k a0 (decide ((bt a0 0)≤57)) 3 0 a0)else(z3g.j0 k a0 false 3 0 a0))))else(none))

def z22.l0:Nat→ByteArray→Int→Bool→Int→Option (Int)
 |0,_,_,_,_=>none
 |k+1,x0,x1,x2,x7=>if(wrap64 (x1+x7))<(x0.size:Int)then(if 0≤(wrap64 (x1+x7))then((z5f.f (bt x0 (wrap64 (x1+x7)))).bind fun t194=>(if t194=true then(if x2=true then(if(bt x0 (wrap64 (x1+x7)))≥65 then(if((bt x0 (wrap64 (x1+x7)))≤90)then(some x7)else(z22.l0 k x0 x1 x2 (wrap64 (x7+1))))else(z22.l0 k x0 x1 x2 (wrap64 (x7+1))))else(z22.l0 k x0 x1 x2 (wrap64 (x7+1))))else(some x7)))else(none))else(some x7)
def z22.f (k:Nat) (a0:ByteArray) (a1:Int) (a2:Bool):Option (Int):=z22.l0 k a0 a1 a2 0
mutual
def z1o.j0:Nat→ByteArray→Int→ByteArray→Option (Int)
 |0,_,_,_=>none
 |k+1,x0,x1,x5=>if x5.toList=([60,61]:List UInt8)then(z1o.j1 k x0 x1 true)else(if x5.toList=([33,61]:List UInt8)then(z1o.j1 k x0 x1 true)else(if x5.toList=([58,45]:List UInt8)then(z1o.j1 k x0 x1 true)else(z1o.j1 k x0 x1 (x5.toList==([63,45]:List UInt8)))))
def z1o.j1:Nat→ByteArray→Int→Bool→Option (Int)
 |0,_,_,_=>none
 |k+1,x0,x1,x30=>if x30=true then(some 2)else(if 0≤x1 then(if x1<(x0.size:Int)then(if(bt x0 x1)=40 then(some 1)else(if(bt x0 x1)=41 then(some 1)else(if(bt x0 x1)=44 then(some 1)else(if(bt x0 x1)=46 then(some 1)else(if(bt x0 x1)=60 then(some 1)else(if(bt x0 x1)=61 then(some 1)else(if(bt x0 x1)=47 then(some 1)else(if(bt x0 x1)=124 then(some 1)else(if(bt x0 x1)=42 then(some 1)else(if(bt x0 x1)=43 then(some 1)else(if(bt x0 x1)=63 then(some 1)else(if(bt x0 x1)=94 then(some 1)else(some 0)))))))))))))else(none))else(none))
end
def z1o.f (k:Nat) (a0:ByteArray) (a1:Int):Option (Int):=if(wrap64 (a1+2))≤(a0.size:Int)then(if 0≤a1 then(if a1≤(wrap64 (a1+2))then(z1o.j0 k a0 a1 (a0.extract (a1:Int).toNat ((wrap64 (a1+2)):Int).toNat))else(none))else(none))else(z1o.j0 k a0 a1 (⟨#[]⟩:ByteArray))
def IsS95 (w0 W:World) (g:Nat) (f0:List (S53)) (f1:Int) (f2:Int) (f3:Int) (f4:Int):Prop:=∃A0 c0,W.heap[g]?=some (.cells #[.slice A0 f0.length c0,.int .i64 f1,.int .i64 f2,.int .i64 f3,.int .i64 f4] 95 (0,0))∧w0.heap.size≤g∧Kd.C k53 w0 A0 f0.length f0
def z4f.f (s0_0:List (S53)) (s0_1:Int) (s0_2:Int) (s0_3:Int) (s0_4:Int) (a1:Int):Option (Int × ByteArray × Int × Int × Int × Int):=if s0_3=0 then(if(wrap64 (s0_1+a1))≥(s0_0.length:Int)then(some (0,(⟨#[]⟩:ByteArray),s0_1,s0_2,s0_3,s0_4))else(if 0≤(wrap64 (s0_1+a1))then(if(wrap64 (s0_1+a1))<(s0_0.length:Int)then(some ((zbz s0_0 (wrap64 (s0_1+a1))).f0,(zbz s0_0 (wrap64 (s0_1+a1))).f1,s0_1,s0_2,s0_3,s0_4))else(none))else(none)))else(some (0,(⟨#[]⟩:ByteArray),s0_1,s0_2,s0_3,s0_4))

mutual
def z0j.j0:Nat→ByteArray→Int→Int→Bool→Option (Int × ByteArray × Int × Bool)
 |0,_,_,_,_=>none
 |k+1,x0,x1,x6,x21=>if x21=true then((z22.f k x0 x1 true).bind fun t205=>(if 0≤x1 then(if x1≤(wrap64 (x1+t205))then(if(wrap64 (x1+t205))≤(x0.size:Int)then((z5g.f (x0.extract (x1:Int).toNat ((wrap64 (x1+t205)):Int).toNat)).bind fun t206=>(some (1,x0.extract (x1:Int).toNat ((wrap64 (x1+t205)):Int).toNat,x1,t206)))else(none))else(none))else(none)))else(if x6≥65 then(z0j.j1 k x0 x1 x6 (decide (x6≤90)))else(z0j.j1 k x0 x1 x6 false))
def z0j.j1:Nat→ByteArray→Int→Int→Bool→Option (Int × ByteArray × Int × Bool)
 |0,_,_,_,_=>none
 |k+1,x0,x1,x6,x40=>if x40=true then((z22.f k x0 x1 false).bind fun t207=>(if 0≤x1 then(if x1≤(wrap64 (x1+t207))then(if(wrap64 (x1+t207))≤(x0.size:Int)then((z0v.f k (x0.extract (x1:Int).toNat ((wrap64 (x1+t207)):Int).toNat)).bind fun t208=>(some (2,x0.extract (x1:Int).toNat ((wrap64 (x1+t207)):Int).toNat,x1,t208)))else(none))else(none))else(none)))else(if x6=35 then(z0j.j2 k x0 x1 true)else(if x6≥48 then(if x6≤57 then(z0j.j2 k x0 x1 true)else(if x6=45 then(if(wrap64 (x1+1))<(x0.size:Int)then(if 0≤(wrap64 (x1+1))then(if(bt x0 (wrap64 (x1+1)))≥48 then(z0j.j2 k x0 x1 (decide ((bt x0 (wrap64 (x1+1)))≤57)))else(z0j.j2 k x0 x1 false))else(none))else(z0j.j2 k x0 x1 false))else(z0j.j2 k x0 x1 false)))else(if x6=45 then(if(wrap64 (x1+1))<(x0.size:Int)then(if 0≤(wrap64 (x1+1))then(if(bt x0 (wrap64 (x1+1)))≥48 then(z0j.j2 k x0 x1 (decide ((bt x0 (wrap64 (x1+1)))≤57)))else(z0j.j2 k x0 x1 false))else(none))else(z0j.j2 k x0 x1 false))else(z0j.j2 k x0 x1 false))))
def z0j.j2:Nat→ByteArray→Int→Bool→Option (Int × ByteArray × Int × Bool)
 |0,_,_,_=>none
 |k+1,x0,x1,x88=>if x88=true then((z22.f k x0 (wrap64 (x1+1)) false).bind fun t209=>(if 0≤x1 then(if x1≤(wrap64 ((wrap64 (x1+1))+t209))then(if(wrap64 ((wrap64 (x1+1))+t209))≤(x0.size:Int)then((z3g.f k (x0.extract (x1:Int).toNat ((wrap64 ((wrap64 (x1+1))+t209)):Int).toNat)).bind fun bt210=>(some (3,x0.extract (x1:Int).toNat ((wrap64 ((wrap64 (x1+1))+t209)):Int).toNat,x1,(bt210.2.2.2==0))))else(none))else(none))else(none)))else((z1o.f k x0 x1).bind fun t215=>(if 0≤x1 then(if x1≤(wrap64 (x1+t215))then(if(wrap64 (x1+t215))≤(x0.size:Int)then(some (4,x0.extract (x1:Int).toNat ((wrap64 (x1+t215)):Int).toNat,x1,decide (t215>0)))else(none))else(none))else(none)))
end
def z0j.f (k:Nat) (a0:ByteArray) (a1:Int):Option (Int × ByteArray × Int × Bool):=if 0≤a1 then(if a1<(a0.size:Int)then(if(bt a0 a1)≥97 then(z0j.j0 k a0 a1 (bt a0 a1) (decide ((bt a0 a1)≤122)))else(z0j.j0 k a0 a1 (bt a0 a1) false))else(none))else(none)
end Go.Proofs.YthebhbomlllpeaaGreatDoor.X
namespace Go.Proofs.YthebhbomlllpeaaGreatDoor.X
open Go.RowKit Go.Proofs.YthebhbomlllpeaaGreatDoorW.PrintWords Go.Proofs.YthebhbomlllpeaaGreatDoorW.PrintLast Go.Proofs.YthebhbomlllpeaaGreatDoorW.PrintMore
private theorem ze4 (k k':IntKind) (x y:Int):Builtin.max2 (.int k x) (.int k' y)=pure (.int k (mx x y)):=by rw[z4h];rfl
private theorem zeh (k k':IntKind) (x y:Int):Builtin.min2 (.int k x) (.int k' y)=pure (.int k (mn x y)):=by rw[z4i];rfl
attribute [local go_sem] ze4 zeh z5e z5d z3s z3r z4l z4k
mutual
def z2d.l0:Nat→ByteArray→List (S53)→Int→Option ((List (S53)) × Int × Int)
 |0,_,_,_=>none
 |k+1,x0,x5,x6=>if x6<(x0.size:Int)then(if 0≤x6 then(if(bt x0 x6)=32 then(z2d.j1 k x0 x5 x6 true)else(if(bt x0 x6)=9 then(z2d.j1 k x0 x5 x6 true)else(z2d.j1 k x0 x5 x6 ((bt x0 x6)==10))))else(none))else(some (x5,0,0))
def z2d.j1:Nat→ByteArray→List (S53)→Int→Bool→Option ((List (S53)) × Int × Int)
 |0,_,_,_,_=>none
 |k+1,x0,x5,x6,x31=>if x31=true then(z2d.l0 k x0 x5 (wrap64 (x6+1)))else((z0j.f k x0 x6).bind fun bt216=>(if bt216.2.2.2=true then(if x5.length<4398046511104 then(z2d.l0 k x0 (x5++[(⟨bt216.1,bt216.2.1,bt216.2.2.1⟩:S53)]) (wrap64 (x6+(bt216.2.1.size:Int))))else(none))else(some (([]:List (S53)),x6,2))))
end
def z3f.l0:Nat→List (S53)→Int→Int→Int→Int→Option (Int)
 |0,_,_,_,_,_=>none
 |k+1,x3,x6,x7,x16,x17=>if x17<x16 then(if 0≤x17 then(if x17<(x3.length:Int)then(if((zbz x3 x17).f1).toList=([40]:List UInt8)then(if((zbz x3 x17).f1).toList=([41]:List UInt8)then(z3f.l0 k x3 (mx 0 (wrap64 ((wrap64 (x6+1)) - 1))) (mx x7 (mx 0 (wrap64 ((wrap64 (x6+1)) - 1)))) x16 (wrap64 (x17+1)))else(z3f.l0 k x3 (wrap64 (x6+1)) (mx x7 (wrap64 (x6+1))) x16 (wrap64 (x17+1))))else(if((zbz x3 x17).f1).toList=([41]:List UInt8)then(z3f.l0 k x3 (mx 0 (wrap64 (x6 - 1))) (mx x7 (mx 0 (wrap64 (x6 - 1)))) x16 (wrap64 (x17+1)))else(z3f.l0 k x3 x6 (mx x7 x6) x16 (wrap64 (x17+1)))))else(none))else(none))else(some x7)

def stepB (x:StS):Bool:=decide (1≤x.f0∧x.f0≤7)&&(if x.f0≤2 then predN x.f1 else x.f1.data.toList==([]:List UInt8))
theorem predN_ne {s:ByteArray} (h:predN s=true):s.data.toList≠[]:=fun e=>by
 unfold predN nmL at h;rw[e]at h
 revert h
 decide
theorem zky {x:StS} (h1:1≤x.f0) (h2:x.f0≤2):z4t x=[]↔predN x.f1=false:=by
 unfold z4t
 cases hp:predN x.f1 with
 |false=>simp
 |true =>
  have:=predN_ne hp;simp only[if_true]
  by_cases h:x.f0=2
  · rw[if_pos h];simp
  · rw[if_neg h,if_pos (by omega)]
    simp[this]
theorem push1_no {st:List Pc} {x:StS} (h:stepB x=false):push1 st x=none:=by
 unfold push1
 by_cases h1:x.f0<1∨7<x.f0
 · rw[if_pos h1]
 · rw[if_neg h1];unfold stepB at h;rw[decide_eq_true (by omega),Bool.true_and]at h
   by_cases h2:x.f0≤2
   · rw[if_pos h2]at h ⊢;rw[if_pos ((zky (by omega) h2).2 h)]
   · rw[if_neg h2]at h ⊢;rw[if_pos (beq_eq_false_iff_ne.1 h)]
end Go.Proofs.YthebhbomlllpeaaGreatDoor.X
namespace Go.Proofs.YthebhbomlllpeaaGreatDoor.X
def TokP (t:TK):Prop:=t.1=1→nmL t.2.data.toList=true
def Shown (k:Int) (e:Nat) (x:List StS):Prop:=∃p d,(∀st,z2t st x=some (p::st))∧PInv p x d∧upD p k d≤e
def Reads (k:Int) (one:Prs (List StS)):Prop:=∀l x r,(∀t ∈ l,TokP t)→one l=.ok (x,r)→∃u e,l=u++r∧DeepE e (txts u)∧Shown k e x
theorem Shown.le {k:Int} {e f:Nat} {x:List StS} (h:Shown k e x) (hf:e≤f):Shown k f x:=by
 obtain⟨p,d,h1,h2,h3⟩:=h;exact⟨p,d,h1,h2,by omega⟩
theorem upD_le {p:Pc} {k j:Int} (h:j≤k) (d:Nat):upD p j d≤upD p k d:=by
 unfold upD
 split <;> split <;> omega
theorem Shown.lower {k j:Int} {e:Nat} {x:List StS} (h:Shown k e x) (hj:j≤k):Shown j e x:=by
 obtain⟨p,d,h1,h2,h3⟩:=h;have:=upD_le (p:=p) hj d;exact⟨p,d,h1,h2,by omega⟩
theorem zhq {a b:Pc} {k:Int} {x y:List StS} (hx:∀st,z2t st x=some (a::st)) (hy:∀st,z2t st y=some (b::st)) (hk:k=3∨k=4) (st:List Pc) :
 z2t st (x++y++[stepS k])=some ((if k=3 then(z1p a 2++(markL 3++z1p b 3),2)else(a.1++(markL 4++z1p b 2),1))::st):=by
 rw[z5r,z5r,hx,Option.bind_some,hy,Option.bind_some];rcases hk with rfl|rfl <;> rfl
theorem zl0 {a:Pc} {k:Int} {x:List StS} (hx:∀st,z2t st x=some (a::st)) (h5:5≤k) (h7:k≤7) (st:List Pc):z2t st (x++[stepS k])=some ((z1p a 3++markL k,3)::st):=by
 rw[z5r,hx,Option.bind_some];rcases (by omega:k=5∨k=6∨k=7)with rfl|rfl|rfl <;> rfl
theorem Shown.thenS {e f:Nat} {x y:List StS} (hx:Shown 2 e x) (hy:Shown 3 f y):Shown 2 (max e f) (x++y++[stepS 3]):=by
 obtain⟨p,d,h1,h2,h3⟩:=hx;obtain⟨q,c,g1,g2,g3⟩:=hy;have a1:=h2.least 2 (by omega);have a2:=g2.least 3 (by omega);have e3:(if q.2<3 then(3:Int)else q.2)=3:=by have:=g2.hi;split <;> omega
 rw[e3]at a2;have:=PInv.thenP a1 a2 (by split <;> omega);refine⟨_,_,zhq h1 g1 (.inl rfl),this,?_⟩;show upD (_,(2:Int)) 2 _≤_;unfold upD at h3 g3 ⊢;rw[if_neg (by show ¬(2:Int)<2;omega)];omega
theorem Shown.orS {e f:Nat} {x y:List StS} (hx:Shown 1 e x) (hy:Shown 2 f y):Shown 1 (max e f) (x++y++[stepS 4]):=by
 obtain⟨p,d,h1,h2,h3⟩:=hx;obtain⟨q,c,g1,g2,g3⟩:=hy;have a2:=g2.least 2 (by omega);have:=PInv.orP (ba:=p.2) h2 a2 (by split <;> omega);refine⟨_,_,zhq h1 g1 (.inr rfl),this,?_⟩;show upD (_,(1:Int)) 1 _≤_;have hlo:=h2.lo;unfold upD at h3 g3 ⊢;rw[if_neg (by omega)]at h3;rw[if_neg (by show ¬(1:Int)<1;omega)];omega
theorem Shown.markS {e:Nat} {x:List StS} (hx:Shown 3 e x) {k:Int} (h5:5≤k) (h7:k≤7):Shown 3 e (x++[stepS k]):=by
 obtain⟨p,d,h1,h2,h3⟩:=hx;have a2:=h2.least 3 (by omega);have e3:(if p.2<3 then(3:Int)else p.2)=3:=by have:=h2.hi;split <;> omega
 rw[e3]at a2;refine⟨_,_,zl0 h1 h5 h7,a2.markP k h5 h7,?_⟩;show upD (_,(3:Int)) 3 _≤_;unfold upD at h3 ⊢;rw[if_neg (by show ¬(3:Int)<3;omega)];omega
theorem zas:∀(l:List TK) (x:List StS) (e:Nat),Shown 3 e x→∃u,l=u++(z0q l).2∧DeepE 0 (txts u)∧Shown 3 e (x++(z0q l).1)
 |[],x,e,h=>⟨[],rfl,DeepE.nil,by simpa [z0q] using h⟩
 |t::r,x,e,h=>by
  have go:∀(k:Int) (s:List UInt8),5≤k→k≤7→isT t 4 s=true→s≠[40]→s≠[41]→∃u,t::r=u++(z0q r).2∧DeepE 0 (txts u)∧Shown 3 e (x++(stepS k::(z0q r).1)):=fun k s h5 h7 hs h40 h41=>by
   obtain⟨u,e1,hu,hx⟩:=zas r (x++[stepS k]) e (h.markS h5 h7);refine⟨t::u,by rw[List.cons_append,←e1],?_,by rwa [List.append_assoc]at hx⟩;have:txts (t::u)=[s]++txts u:=by simp[txts,(z5l hs).2]
   rw[this];exact(DeepE.one h40 h41).app hu
  simp only[z0q]
  split
  · rename_i hs;exact go 5 _ (by omega) (by omega) hs (by decide) (by decide)
  · split
    · rename_i hs;exact go 6 _ (by omega) (by omega) hs (by decide) (by decide)
    · split
      · rename_i hs;exact go 7 _ (by omega) (by omega) hs (by decide) (by decide)
      · exact⟨[],rfl,DeepE.nil,by simpa using h⟩
theorem zcb {k:Int} {one:Prs (List StS)} {m:UInt8} {j n3:Int} (h1:Reads j one) (hm:m≠40∧m≠41) (hS:∀e f x y,Shown k e x→Shown j f y→Shown k (max e f) (x++y++[stepS n3])) :
 ∀(n:Nat) (acc:List StS) (e0:Nat) (l:List TK) (x:List StS) (r:List TK),Shown k e0 acc→(∀t ∈ l,TokP t)→rowL [m] n3 one n acc l=.ok (x,r)→∃u e,l=u++r∧DeepE e (txts u)∧Shown k (max e0 e) x
 |0,acc,e0,l,x,r,ha,hl,h=>by
  simp only[rowL]at h;injection h with h;injection h with e1 e2
  subst e1;subst e2;exact⟨[],0,rfl,DeepE.nil,ha.le (by omega)⟩
 |n+1,acc,e0,l,x,r,ha,hl,h=>by
  simp only[rowL]at h
  split at h
  · rename_i hk;obtain⟨t,e,ht⟩:=z7g hk;obtain⟨y,r1,ho,h⟩:=z1d h;obtain⟨u,f,e1,hu,hy⟩:=h1 _ _ _ (fun t ht=>hl t (List.mem_of_mem_drop ht)) ho;obtain⟨v,g,e2,hv,hx⟩:=zcb h1 hm hS n _ (max e0 f) r1 x r (hS _ _ _ _ ha hy) (fun t ht=>hl t (by rw[e,e1];simp[ht])) h;refine⟨t::(u++v),max f g,by rw[e,e1,e2];simp,?_,hx.le (by omega)⟩;have:txts (t::(u++v))=[[m]]++(txts u++txts v):=by simp[txts,ht]
    rw[this];have:=(DeepE.one (s:=[m]) (by simpa using hm.1) (by simpa using hm.2)).app (hu.app hv)
    rwa [Nat.zero_max]at this
  · injection h with h;injection h with e1 e2
    subst e1;subst e2;exact⟨[],0,rfl,DeepE.nil,ha.le (by omega)⟩
theorem zef {k:Int} {one:Prs (List StS)} {m:UInt8} {j n3:Int} (h1:Reads j one) (hj:k≤j) (hm:m≠40∧m≠41) (hS:∀e f x y,Shown k e x→Shown j f y→Shown k (max e f) (x++y++[stepS n3])):Reads k (rowP [m] n3 one):=fun l x r hl h=>by
 unfold rowP at h;obtain⟨y,r1,ho,h⟩:=z1d h;obtain⟨u,f,e1,hu,hy⟩:=h1 _ _ _ hl ho;obtain⟨v,g,e2,hv,hx⟩:=zcb h1 hm hS _ _ f r1 x r (hy.lower hj) (fun t ht=>hl t (by rw[e1];simp[ht])) h;exact⟨u++v,max f g,by rw[e1,e2,List.append_assoc],by rw[zif];exact hu.app hv,hx⟩
theorem zb1 {t:TK} (ht:TokP t) (hp:predB t=true) (k:Int) (hk:k=1∨k=2):Shown 3 0 [⟨k,t.2⟩]:=by
 unfold predB at hp;simp only[Bool.and_eq_true,beq_iff_eq]at hp;have hn:=ht hp.1;have hN:predN t.2=true:=by
  unfold predN;simp only[Bool.and_eq_true];exact⟨hn,hp.2⟩
 have hne:=(z6y hn).1;rcases hk with rfl|rfl
 · have hl:z4t ⟨1,t.2⟩=t.2.data.toList:=by
    unfold z4t;simp only[hN,if_true];rw[if_neg (by decide)]
   refine⟨_,0,fun st=>?_,PInv.along hN,Nat.le_refl _⟩;have:push1 st ⟨1,t.2⟩=some ((t.2.data.toList,3)::st):=by
    unfold push1;rw[if_neg (show ¬((1:Int)<1∨7<(1:Int)) by decide),if_pos (show(1:Int)≤2 by decide),hl,if_neg hne]
   simp only[z2t,this,Option.bind_some]
 · have hl:z4t ⟨2,t.2⟩=[94]++t.2.data.toList:=by
    unfold z4t;simp only[hN,if_true]
   refine⟨_,0,fun st=>?_,PInv.back hN,Nat.le_refl _⟩;have:push1 st ⟨2,t.2⟩=some (([94]++t.2.data.toList,3)::st):=by
    unfold push1;rw[if_neg (show ¬((2:Int)<1∨7<(2:Int)) by decide),if_pos (show(2:Int)≤2 by decide),hl,if_neg (by simp)]
   simp only[z2t,this,Option.bind_some]
theorem zi9 {t:TK} (ht:TokP t) (hp:predB t=true):DeepE 0 (txts [t]):=by
 unfold predB at hp;simp only[Bool.and_eq_true,beq_iff_eq]at hp;have:=z6y (ht hp.1);exact DeepE.one this.2.1 this.2.2
theorem zak {inner:Option (Prs (List StS))} (hi:∀p,inner=some p→Reads 1 p):Reads 3 (partW inner):=fun l x r hl h=>by
 unfold partW at h;obtain⟨y,r1,hb,h⟩:=z1d h;injection h with h;injection h with e1 e2
 have base:∃u e,l=u++r1∧DeepE e (txts u)∧Shown 3 e y:=by
  unfold baseP at hb
  split at hb
  · rename_i hk;obtain⟨t,e,ht⟩:=z7g hk
    cases inner with
    |none=>cases hb
    |some q =>
     obtain⟨z,r2,ho,hb⟩:=z1d hb;obtain⟨_,r3,hw,hb⟩:=z1d hb;injection hb with hb;injection hb with e3 e4
     subst e3;subst e4;obtain⟨u,f,e5,hu,hz⟩:=hi q rfl _ _ _ (fun t ht=>hl t (List.mem_of_mem_drop ht)) ho;unfold wantP at hw
     split at hw
     · rename_i hk2;obtain⟨t2,e6,ht2⟩:=z7g hk2;injection hw with hw;injection hw with _ e7
       refine⟨t::u++[t2],f+1,by rw[e,e5,e6,←e7];simp,?_,?_⟩
       · have:txts (t::u++[t2])=[40]::txts u++[[41]]:=by simp[txts,ht,ht2]
         rw[this];exact hu.round
       · obtain⟨p,d,g1,g2,g3⟩:=hz;refine⟨p,d,g1,g2,?_⟩;have hlo:=g2.lo;unfold upD at g3 ⊢;rw[if_neg (by omega)]at g3
         split <;> omega
     · cases hw
  · split at hb
    · rename_i hk;obtain⟨t,e,ht⟩:=z7g hk;obtain⟨p,r2,hp,hb⟩:=z1d hb;injection hb with hb;injection hb with e3 e4
      subst e3;subst e4;obtain⟨t2,e5,rfl,ht2⟩:=z6z hp;have hm:TokP t2:=hl t2 (by rw[e,e5];simp);refine⟨[t,t2],0,by rw[e,e5];rfl,?_,zb1 hm ht2 2 (.inr rfl)⟩;have:txts [t,t2]=[[94]]++txts [t2]:=by simp[txts,ht]
      rw[this];exact(DeepE.one (s:=[94]) (by decide) (by decide)).app (zi9 hm ht2)
    · obtain⟨p,r2,hp,hb⟩:=z1d hb;injection hb with hb;injection hb with e3 e4
      subst e3;subst e4;obtain⟨t2,e5,rfl,ht2⟩:=z6z hp;have hm:TokP t2:=hl t2 (by rw[e5];simp);exact⟨[t2],0,by rw[e5];rfl,zi9 hm ht2,zb1 hm ht2 1 (.inl rfl)⟩
 obtain⟨u,e,e3,hu,hy⟩:=base;obtain⟨v,e4,hv,hx⟩:=zas r1 y e hy;subst e1;subst e2;refine⟨u++v,e,by rw[e3,List.append_assoc,←e4],?_,hx⟩;rw[zif];have:=hu.app hv
 rwa [Nat.max_zero]at this
theorem zaf {part:Prs (List StS)} (h:Reads 3 part):Reads 1 (pathW part) :=
 zef (m:=124) (zef (m:=47) h (by omega) ⟨by decide,by decide⟩ (fun e f x y hx hy=>hx.thenS hy)) (by omega) ⟨by decide,by decide⟩ (fun e f x y hx hy=>hx.orS hy)
theorem zck:∀d,Reads 3 (partP d)
 |0=>zak (fun p h=>by cases h)
 |d+1=>zak (fun p h=>by injection h with h;subst h;exact zaf (zck d))
theorem zji (d:Nat):Reads 1 (pathP d):=zaf (zck d)
theorem zmd {x:StS} (h:stepB x=true):x.f1.size≤40:=by
 unfold stepB at h;simp only[Bool.and_eq_true]at h;have h2:=h.2
 split at h2
 · exact(zdi (z7r h2).2).2
 · rw[beq_iff_eq]at h2;show x.f1.data.size≤40;rw[←Array.length_toList,h2]
   simp
theorem zc5:∀(l:List StS) (st st':List Pc),z2t st l=some st'→∀x ∈ l,x.f1.size≤40
 |[],_,_,_,x,hx=>by cases hx
 |y::l,st,st',h,x,hx=>by
  simp only[z2t]at h
  cases h1:push1 st y with
  |none=>rw[h1]at h;cases h
  |some s =>
   rw[h1,Option.bind_some]at h;rcases List.mem_cons.1 hx with rfl|hx
   · refine zmd ?_
     cases hb:stepB x with
     |true=>rfl
     |false=>rw[push1_no hb]at h1;cases h1
   · exact zc5 l s st' h x hx
theorem zkx {l:List StS} {p:Pc} (h:z2t [] l=some [p]):p.1.length≤50 * l.length:=by
 have:=z7k _ [] [p] h;simp only[wt]at this;omega
theorem zjq {l r:List TK} {x:List StS} (hl:∀t ∈ l,TokP t) (h:z88 l=.ok (x,r)):pathL x≠[]∧(∀y ∈ x,y.f1.size≤40)∧x.length≤100∧∃u e,l=u++r∧DeepE e (txts u)∧deepS (pathL x)≤e:=by
 obtain⟨hp,h100⟩:=zhe h;obtain⟨u,e,e1,hu,p,d,g1,g2,g3⟩:=zji 32 _ _ _ hl hp;obtain⟨v,ev,hv⟩:=zms 32 _ _ _ (fun t ht h1=>(z6y (hl t ht h1)).2) hp;have huv:u=v:=List.append_cancel_right (e1.symm.trans ev);subst huv;have he:e≤32:=by
  obtain⟨m,e2,_,h3⟩:=hv 0 0 (Nat.le_refl _);rw[hu 0 0 (Nat.le_refl _)]at e2;injection e2 with _ e2
  omega
 have hlo:=g2.lo;unfold upD at g3;rw[if_neg (by omega)]at g3;have hd:=g2.deep (by have:=zkx (g1 []);omega);have hP:pathL x=p.1:=by
  unfold pathL;rw[if_neg (by omega),g1 []];simp only;rw[if_neg (by omega)]
 rw[hP,hd];exact⟨g2.ne,zc5 _ _ _ (g1 []),h100,u,e,e1,hu,g3⟩

def rngA (a:AtS):Prop:=∀t ∈ a.f1,rngT t
def rngL (l:LtS):Prop:=rngA l.f1∧rngT l.f3∧rngT l.f4∧rngT l.f5
def rngR (x:RlS):Prop:=rngA x.f0∧∀l ∈ x.f2,rngL l
def rngP (p:PgS):Prop:=rngA p.f1∧∀x ∈ p.f0,rngR x
def BackL (l:LtS) (s:List UInt8) (ts:List TK):Prop :=
 (∀m:UInt8,(m=44∨m=46)→∀rest R,tkO (m::rest)=some R→tkO (s++m::rest)=some (ts++R))∧∀m:UInt8,(m=44∨m=46)→∀r,z19 (ts++mkT m::r)=.ok (l,mkT m::r)
theorem zdx {m:UInt8} (h:m=44∨m=46):sepB m=true:=by rcases h with rfl|rfl <;> decide
theorem zkv {m:UInt8} (h:m=44∨m=46) {s:List UInt8} (hs:s≠[44]∧s≠[46]) (r:List TK):mk0 (mkT m::r) s=false:=by
 show isT (mkT m) 4 s=false;unfold isT;have:(mkT m).2.data.toList≠s:=by rcases h with rfl|rfl;exact fun e=>hs.1 e.symm;exact fun e=>hs.2 e.symm
 rw[beq_eq_false_iff_ne.2 this,Bool.and_false]
theorem zax {l:LtS} {n:Nat} {atom op path:Bool} (h:restB l n atom op path=true):(0<n→termL l.f3≠[])∧(¬0<n→l.f3=noneT)∧(1<n→termL l.f4≠[])∧(¬1<n→l.f4=noneT)∧(2<n→termL l.f5≠[])∧(¬2<n→l.f5=noneT)∧(atom=false→l.f1=noneA)∧(op=false→l.f2=⟨#[]⟩)∧(path=false→l.f6=[]):=by
 unfold restB at h;simp only[Bool.and_eq_true]at h;obtain⟨h3,h4,h5,h1,h2,h6⟩:=h;have ne:∀s:List UInt8,(!s.isEmpty)=true→s≠[]:=fun s hs e=>by rw[e]at hs;cases hs
 refine⟨fun e=>?_,fun e=>?_,fun e=>?_,fun e=>?_,fun e=>?_,fun e=>?_,fun e=>?_,fun e=>?_,fun e=>?_⟩
 · rw[if_pos e]at h3;exact ne _ h3
 · rw[if_neg e]at h3;exact zdm h3
 · rw[if_pos e]at h4;exact ne _ h4
 · rw[if_neg e]at h4;exact zdm h4
 · rw[if_pos e]at h5;exact ne _ h5
 · rw[if_neg e]at h5;exact zdm h5
 · rw[e,Bool.false_or]at h1;exact zgn h1
 · rw[e,Bool.false_or,beq_iff_eq,ByteArray.toList_eq]at h2;exact ba_eq h2
 · rw[e,Bool.false_or,beq_iff_eq]at h6;exact List.eq_nil_of_length_eq_zero h6
theorem zao (l:LtS) {k:Int} {a:AtS} {o:ByteArray} {x y z:TmS} {p:List StS} (h0:l.f0=k) (h1:l.f1=a) (h2:l.f2=o) (h3:l.f3=x) (h4:l.f4=y) (h5:l.f5=z) (h6:l.f6=p):l=⟨k,a,o,x,y,z,p⟩:=by
 cases l;simp only at *;subst h0 h1 h2 h3 h4 h5 h6;rfl
theorem no_comp {t u:TK} (h:∀s,isT u 4 s=false) (r:List TK):(z1t (t::u::r)&&z1h (t::u::r))=false:=by
 have:z1h (t::u::r)=false:=by
  unfold z1h mk1;simp only[List.drop_succ_cons,List.drop_zero,mk0,h];rfl
 rw[this,Bool.and_false]
theorem zjo {t:TK} {m:UInt8} (h:m≠60∧m≠61) (r:List TK):z1h (t::mkT m::r)=false:=by
 unfold z1h mk1;simp only[List.drop_succ_cons,List.drop_zero,mk0];have h2:∀a b,isT (mkT m) 4 [a,b]=false:=fun a b=>by
  unfold isT;rw[show((mkT m).2.data.toList==[a,b])=false from beq_eq_false_iff_ne.2 (by show[m]≠[a,b];simp),Bool.and_false]
 rw[z4r h.1,z4r h.2,h2,h2];rfl
theorem zb3 {a:AtS} (h:atomL a≠[]) (hr:rngA a) {m:UInt8} (hm:m=44∨m=46) (r:List TK) (k:Int):z41 k (z3y a 0++mkT m::r)=.ok (⟨k,a,⟨#[]⟩,noneT,noneT,noneT,[]⟩,mkT m::r):=by
 unfold z41;rw[z7w h (by decide) (by decide) (.inl rfl) hr (zkv hm (by decide) r)];rfl
theorem zc2 {a:AtS} (h:atomL a≠[]) {m:UInt8} (hm:m=44∨m=46) (r:List TK):∃t l,z3y a 0++mkT m::r=t::l∧predB t=true∧∀s,s=[60]∨s=[60,61]∨s=[61]∨s=[33,61]→mk0 l s=false:=by
 obtain⟨hb,_⟩:=z7r (z8p h).1;unfold z3y;refine⟨(1,a.f0),_,rfl,hb,fun s hs=>?_⟩;have hne:s≠[44]∧s≠[46]∧s≠[40]:=by rcases hs with rfl|rfl|rfl|rfl <;> decide
 by_cases hl:a.f1=[]
 · rw[if_pos hl];exact zkv hm ⟨hne.1,hne.2.1⟩ r
 · rw[if_neg hl];show isT (mkT 40) 4 s=false;unfold isT;rw[beq_eq_false_iff_ne.2 (fun e=>hne.2.2 e.symm),Bool.and_false]
theorem zmx {l:LtS} (hk:l.f0=1) (hR:restB l 0 true false false=true) (h:atomL l.f1≠[]) (hr:rngA l.f1):∃ts,BackL l (atomL l.f1) ts:=by
 obtain⟨_,e3,_,e4,_,e5,_,e2,e6⟩:=zax hR;refine⟨z3y l.f1 0,fun m hm rest R hs=>z7e h (by decide) (by decide) hr (zdx hm) hs,fun m hm r=>?_⟩;obtain⟨t,q,he,hb,hc⟩:=zc2 h hm r;rw[he,zfb hb hc,←he,zb3 h hr hm r];rw[←zao l hk rfl (e2 rfl) (e3 (by decide)) (e4 (by decide)) (e5 (by decide)) (e6 rfl)]
theorem zk7 {l:LtS} (hk:l.f0=2) (hR:restB l 0 true false false=true) (h:atomL l.f1≠[]) (hr:rngA l.f1):∃ts,BackL l ([110,111,116,32]++atomL l.f1) ts:=by
 obtain⟨_,e3,_,e4,_,e5,_,e2,e6⟩:=zax hR;refine⟨nT::z3y l.f1 0,fun m hm rest R hs=>?_,fun m hm r=>?_⟩
 · have h1:=z7e h (by decide) (by decide) hr (zdx hm) hs;have h2:=z96 (w:=[110,111,116]) (by decide) (x:=32) (by decide) (z2l (by decide) h1);rw[show[110,111,116,32]++atomL l.f1++m::rest=[110,111,116]++32::(headL l.f1 0++m::rest) by simp[atomL],h2];rfl
 · obtain⟨t,q,he,hb,hc⟩:=zc2 h hm r;show z19 (nT::(z3y l.f1 0++mkT m::r))=_;rw[he,zh1 (by decide) hb,←he,zb3 h hr hm r];rw[←zao l hk rfl (e2 rfl) (e3 (by decide)) (e4 (by decide)) (e5 (by decide)) (e6 rfl)]
theorem zmz {s:List UInt8} (h:compB s=true):nextN nmL vlL s=some (4,s.length)∧∀(t:TK) (r:List TK),z1h (t::(4,baL s)::r)=true:=by
 unfold compB at h;simp only[Bool.or_eq_true,beq_iff_eq]at h;rcases h with rfl|rfl|rfl|rfl
 all_goals
  refine⟨?_,fun t r=>?_⟩
  · simp only[nextN];rw[if_neg (by decide),if_neg (by decide),if_neg (by unfold valB;simp[z11])]
    simp[twoB,oneB]
  · unfold z1h mk1
    simp[mk0,isT]
theorem zmc {l:LtS} (hk:l.f0=3) (hR:restB l 2 false true false=true) (h:compB l.f2.data.toList=true) (hr:rngL l):∃ts,BackL l (termL l.f3++([32]++(l.f2.data.toList++([32]++termL l.f4)))) ts:=by
 obtain⟨e3,_,e4,_,_,e5,e1,_,e6⟩:=zax hR;have h3:=e3 (by decide);have h4:=e4 (by decide);obtain⟨hn,hc⟩:=zmz h;have hb:baL l.f2.data.toList=l.f2:=ba_eq (by simp);refine⟨[tokTm l.f3,(4,l.f2),tokTm l.f4],fun m hm rest R hs=>?_,fun m hm r=>?_⟩
 · have h5:=z8a h4 hr.2.2.1 (zdx hm) hs;have h6:tkO (l.f2.data.toList++32::(termL l.f4++m::rest))=some ([(((4:Nat):Int),baL l.f2.data.toList)]++tokTm l.f4::R):=z52 (x:=32) (by decide) (za6 hn) (z2l (by decide) h5);have h7:=z8a h3 hr.2.1 (x:=32) (by decide) (z2l (by decide) h6);rw[show termL l.f3++([32]++(l.f2.data.toList++([32]++termL l.f4)))++m::rest=termL l.f3++32::(l.f2.data.toList++32::(termL l.f4++m::rest)) by simp,h7,hb];rfl
 · show z19 (tokTm l.f3::(4,l.f2)::tokTm l.f4::mkT m::r)=_;have hc':=hc (tokTm l.f3) (tokTm l.f4::mkT m::r);rw[hb]at hc';unfold z19;rw[zml h3 hr.2.1,hc',if_pos (by decide)];unfold z4j;rw[z7c h3 hr.2.1];simp only[bnd,List.drop_succ_cons,List.drop_zero];rw[z7c h4 hr.2.2.1];simp only[bnd,zjr];rw[←zao l hk (e1 rfl) rfl rfl rfl (e5 (by decide)) (e6 rfl)]
theorem zmy {s:List UInt8} (h:wordL s≠[]):∃w,wordL s=32::(w++[32])∧nmL w=true∧z2x w=s∧s≠[]:=by
 unfold wordL at h ⊢
 by_cases h1:s=[43]
 · subst h1;exact⟨[112,108,117,115],rfl,by decide,by decide,by decide⟩
 · by_cases h2:s=[45]
   · subst h2;exact⟨[109,105,110,117,115],rfl,by decide,by decide,by decide⟩
   · by_cases h3:s=[42]
     · subst h3;exact⟨[116,105,109,101,115],rfl,by decide,by decide,by decide⟩
     · rw[if_neg h1,if_neg h2,if_neg h3]at h;exact absurd rfl h
abbrev isW:TK:=(1,⟨#[105,115]⟩)
theorem zkb {l:LtS} (hk:l.f0=4) (hR:restB l 3 false true false=true) (hv:l.f3.f0.data.toList≠[]) (h:wordL l.f2.data.toList≠[]) (hr:rngL l):∃ts,BackL l (termL l.f3++([32,105,115,32]++(termL l.f4++(wordL l.f2.data.toList++termL l.f5)))) ts:=by
 obtain⟨e3,_,e4,_,e5,_,e1,_,e6⟩:=zax hR;have h3:=e3 (by decide);have h4:=e4 (by decide);have h5:=e5 (by decide);obtain⟨w,hw,hn,hs,hne⟩:=zmy h;refine⟨[tokTm l.f3,isW,tokTm l.f4,(1,baL w),tokTm l.f5],fun m hm rest R hz=>?_,fun m hm r=>?_⟩
 · have g5:=z8a h5 hr.2.2.2 (zdx hm) hz;have g6:=z96 hn (x:=32) (by decide) (z2l (by decide) g5);have g7:=z8a h4 hr.2.2.1 (x:=32) (by decide) (z2l (by decide) g6);have g8:=z96 (w:=[105,115]) (by decide) (x:=32) (by decide) (z2l (by decide) g7);have g9:=z8a h3 hr.2.1 (x:=32) (by decide) (z2l (by decide) g8);rw[hw,show termL l.f3++([32,105,115,32]++(termL l.f4++(32::(w++[32])++termL l.f5)))++m::rest=termL l.f3++32::([105,115]++32::(termL l.f4++32::(w++32::(termL l.f5++m::rest)))) by simp,g9];rfl
 · show z19 (tokTm l.f3::isW::tokTm l.f4::(1,baL w)::tokTm l.f5::mkT m::r)=_;obtain⟨v1,v2⟩:=tm_var h3 hv (isW::tokTm l.f4::(1,baL w)::tokTm l.f5::mkT m::r);unfold z19;rw[no_comp (fun s=>zd8 _ s),if_neg (by decide)];rw[if_pos (by rw[show kindL (tokTm l.f3::isW::tokTm l.f4::(1,baL w)::tokTm l.f5::mkT m::r)=2 from v2];rfl)];unfold letP;rw[v1];simp only[bnd,List.drop_succ_cons,List.drop_zero];rw[z7c h4 hr.2.2.1];simp only[bnd,signP];rw[if_neg (by show z2x w≠[];rw[hs];exact hne)];simp only[bnd];rw[z7c h5 hr.2.2.2];simp only[bnd];rw[←zao l hk (e1 rfl) (show l.f2=⟨(z2x (baL w).data.toList).toArray⟩from ba_eq (by show l.f2.data.toList=(z2x w);rw[hs])) rfl rfl rfl (e6 rfl)]
abbrev wkT:TK:=(1,⟨#[119,97,108,107]⟩)
theorem zm4 {l:LtS} (hk:l.f0=5) (hR:restB l 2 false false true=true) (h:pathL l.f6≠[]) (hr:rngL l):∃ts,BackL l ([119,97,108,107,40]++(termL l.f3++([44,32]++(pathL l.f6++([44,32]++(termL l.f4++[41])))))) ts:=by
 obtain⟨e3,_,e4,_,_,e5,e1,e2,_⟩:=zax hR;have h3:=e3 (by decide);have h4:=e4 (by decide);obtain⟨q,hq1,hq2,_,hq3⟩:=z9f h;obtain⟨ps,hp,h100,hb⟩:=zjz h (by rw[hq3];have:=zkx hq1;omega);refine⟨wkT::mkT 40::tokTm l.f3::mkT 44::(ps++mkT 44::tokTm l.f4::[mkT 41]),fun m hm rest R hz=>?_,fun m hm r=>?_⟩
 · have g1:=z8a h4 hr.2.2.1 (x:=41) (by decide) (z2h (by decide) hz);have g2:tkO (pathL l.f6++44::(32::(termL l.f4++41::m::rest)))=some (ps++mkT 44::(tokTm l.f4::mkT 41::R)):=z52 (x:=44) (by decide) hp (z2h (by decide) (z2l (by decide) g1));have g3:=z8a h3 hr.2.1 (x:=44) (by decide) (z2h (by decide) (z2l (c:=32) (by decide) g2));have g4:=z96 (w:=[119,97,108,107]) (by decide) (x:=40) (by decide) (z2h (by decide) g3);rw[show[119,97,108,107,40]++(termL l.f3++([44,32]++(pathL l.f6++([44,32]++(termL l.f4++[41])))))++m::rest=[119,97,108,107]++40::(termL l.f3++44::(32::(pathL l.f6++44::(32::(termL l.f4++41::m::rest))))) by simp,g4]
   simp
 · rw[show wkT::mkT 40::tokTm l.f3::mkT 44::(ps++mkT 44::tokTm l.f4::[mkT 41])++mkT m::r=wkT::mkT 40::tokTm l.f3::mkT 44::(ps++mkT 44::tokTm l.f4::mkT 41::mkT m::r) by simp];unfold z19;rw[zjo (by decide),Bool.and_false,if_neg (by decide),if_neg (by rw[show kindL (wkT::mkT 40::tokTm l.f3::mkT 44::(ps++mkT 44::tokTm l.f4::mkT 41::mkT m::r))=1 from rfl];rintro e;cases e)];rw[if_neg (by show ¬isT wkT 1 [110,111,116]=true;decide),if_pos (show isL (wkT::mkT 40::tokTm l.f3::mkT 44::(ps++mkT 44::tokTm l.f4::mkT 41::mkT m::r)) 1 [119,97,108,107]=true from(by decide:isT wkT 1 [119,97,108,107]=true))];unfold walkP wantP;simp only[List.drop_succ_cons,List.drop_zero];rw[if_pos (show mk0 (mkT 40::tokTm l.f3::mkT 44::(ps++mkT 44::tokTm l.f4::mkT 41::mkT m::r)) [40]=true from mk_is 40)];simp only[bnd,List.drop_succ_cons,List.drop_zero];rw[z7c h3 hr.2.1];simp only[bnd];rw[if_pos (show mk0 (mkT 44::(ps++mkT 44::tokTm l.f4::mkT 41::mkT m::r)) [44]=true from mk_is 44)];simp only[bnd,List.drop_succ_cons,List.drop_zero];unfold z88;rw[hb _ (z7x (by decide) (by decide) (by decide) _) (z4r (by decide)) (z4r (by decide))];simp only[bnd];rw[if_neg (by omega)];simp only;rw[if_pos (show mk0 (mkT 44::tokTm l.f4::mkT 41::mkT m::r) [44]=true from mk_is 44)];simp only[List.drop_succ_cons,List.drop_zero];rw[z7c h4 hr.2.2.1];simp only;rw[if_pos (show mk0 (mkT 41::mkT m::r) [41]=true from mk_is 41)];simp only[List.drop_succ_cons,List.drop_zero];rw[←zao l hk (e1 rfl) (e2 rfl) rfl rfl (e5 (by decide)) rfl]
theorem zhz {l:LtS} (h:litL l≠[]) (hr:rngL l):∃ts,BackL l (litL l) ts:=by
 unfold litL at h ⊢
 split at h
 · rename_i hc;rw[if_pos hc];exact zmx hc.1 hc.2 h hr.1
 rename_i hc1;rw[if_neg hc1]
 split at h
 · rename_i hc;rw[if_pos hc];exact zk7 hc.1 hc.2.1 hc.2.2 hr.1
 rename_i hc2;rw[if_neg hc2]
 split at h
 · rename_i hc;rw[if_pos hc];exact zmc hc.1 hc.2.1 hc.2.2 hr
 rename_i hc3;rw[if_neg hc3]
 split at h
 · rename_i hc;rw[if_pos hc];exact zkb hc.1 hc.2.1 hc.2.2.1 hc.2.2.2 hr
 rename_i hc4;rw[if_neg hc4]
 split at h
 · rename_i hc;rw[if_pos hc];exact zm4 hc.1 hc.2.1 hc.2.2 hr
 · exact absurd rfl h
theorem zft:∀(ls:List LtS),ls≠[]→(∀l ∈ ls,litL l≠[]∧rngL l)→∃ts,(∀rest R,tkO (46::rest)=some R→tkO (Lib.join (ls.map litL) [44,32]++46::rest)=some (ts++R))∧∀r n acc,ls.length<n→bodyP n acc (ts++mkT 46::r)=.ok (acc++ls,mkT 46::r)
 |[],h,_=>absurd rfl h
 |[l],_,hl=>by
  obtain⟨h1,h2⟩:=hl l (List.mem_singleton.2 rfl);obtain⟨ts,b1,b2⟩:=zhz h1 h2;refine⟨ts,fun rest R hR=>by rw[show Lib.join ([l].map litL) [44,32]=litL l from Lib.join_one _ _];exact b1 46 (.inr rfl) rest R hR,fun r n acc hn=>?_⟩;obtain⟨n,rfl⟩:∃m,n=m+1:=⟨n - 1,by omega⟩
  rw[z9o,beq_eq_false_iff_ne.2 (by simp at hn;omega),Bool.false_and,if_neg (by decide),b2 46 (.inr rfl)];simp only[bnd];rw[if_neg (by rw[show mk0 (mkT 46::r) [44]=false from z4r (by decide)];decide)]
 |l::k::ls,_,hl=>by
  obtain⟨h1,h2⟩:=hl l (List.mem_cons_self ..);obtain⟨ts,b1,b2⟩:=zhz h1 h2;obtain⟨us,c1,c2⟩:=zft (k::ls) (by simp) (fun x hx=>hl x (List.mem_cons_of_mem _ hx));refine⟨ts++mkT 44::us,fun rest R hR=>?_,fun r n acc hn=>?_⟩
  · have h3:=b1 44 (.inl rfl) (32::(Lib.join ((k::ls).map litL) [44,32]++46::rest)) _ (z2h (by decide) (z2l (by decide) (c1 rest R hR)));rw[show Lib.join ((l::k::ls).map litL) [44,32]=litL l++([44,32]++Lib.join ((k::ls).map litL) [44,32])from z99 _ _ _ _];rw[show litL l++([44,32]++Lib.join ((k::ls).map litL) [44,32])++46::rest=litL l++44::32::(Lib.join ((k::ls).map litL) [44,32]++46::rest) by simp,h3]
    simp
  · obtain⟨n,rfl⟩:∃m,n=m+1:=⟨n - 1,by omega⟩
    rw[show ts++mkT 44::us++mkT 46::r=ts++mkT 44::(us++mkT 46::r) by simp];rw[z9o,beq_eq_false_iff_ne.2 (by simp at hn;omega),Bool.false_and,if_neg (by decide),b2 44 (.inl rfl)];simp only[bnd];rw[if_pos (show mk0 (mkT 44::(us++mkT 46::r)) [44]=true from mk_is 44)];simp only[List.drop_succ_cons,List.drop_zero];rw[c2 r n (acc++[l]) (by simp at hn ⊢;omega)]
    simp
theorem zld {x:RlS} (h:ruleL x≠[]) (hr:rngR x):∃t ts,predB t=true∧(∀rest R,tkO rest=some R→tkO (ruleL x++rest)=some (t::ts++R))∧∀r,ruleP (t::ts++r)=.ok (x,r):=by
 unfold ruleL at h ⊢
 split at h
 · exact absurd rfl h
 rename_i hc1;rw[if_neg hc1]
 split at h
 · exact absurd rfl h
 rename_i hc2;rw[if_neg hc2];clear h;have hh:headL x.f0 x.f1≠[]:=fun e=>hc2 (.inl e)
 have h0:0≤x.f1:=by omega
 have h5:x.f1≤5:=by omega
 have hb:(eachL (x.f2.map litL) [44,32]).2=true:=by cases e:(eachL (x.f2.map litL) [44,32]).2 with|true=>rfl|false=>exact absurd (.inr e) hc2
 have hp:=(z7r (z8p hh).1).1
 by_cases hl:x.f2=[]
 · rw[if_pos hl];refine⟨(1,x.f0.f0),(if x.f0.f1=[]then[]else mkT 40::(z4n x.f1 x.f0.f1++[mkT 41]))++[mkT 46],hp,fun rest R hR=>?_,fun r=>?_⟩
   · have:=z7e hh h0 h5 hr.1 (x:=46) (by decide) (z2h (by decide) hR);rw[List.append_assoc];refine this.trans ?_;unfold z3y
     simp
   · rw[show(1,x.f0.f0)::((if x.f0.f1=[]then[]else mkT 40::(z4n x.f1 x.f0.f1++[mkT 41]))++[mkT 46])++r=z3y x.f0 x.f1++mkT 46::r by unfold z3y;simp];unfold ruleP;rw[z7w hh h0 h5 (.inr rfl) hr.1 (show mk0 (mkT 46::r) [40]=false from z4r (by decide))];simp only[bnd,tailP];rw[if_neg (by rw[show mk0 (mkT 46::r) [58,45]=false from(by unfold mk0 isT;simp)];decide)];simp only[wantP];rw[if_pos (show mk0 (mkT 46::r) [46]=true from mk_is 46)];simp only[List.drop_succ_cons,List.drop_zero];rw[←hl]
 · rw[if_neg hl];obtain⟨e1,e2⟩:=zg4 hb;obtain⟨us,c1,c2⟩:=zft x.f2 hl (fun l hm=>⟨e1 _ (List.mem_map.2 ⟨l,hm,rfl⟩),hr.2 l hm⟩);rw[e2];refine⟨(1,x.f0.f0),(if x.f0.f1=[]then[]else mkT 40::(z4n x.f1 x.f0.f1++[mkT 41]))++cT::(us++[mkT 46]),hp,fun rest R hR=>?_,fun r=>?_⟩
   · have g1:=c1 rest _ (z2h (by decide) hR);have g2:=zh2 (a:=58) (b:=45) (.inl ⟨rfl,rfl⟩) (z2l (c:=32) (by decide) g1);have g3:=z7e hh h0 h5 hr.1 (x:=32) (by decide) (z2l (by decide) g2);rw[show headL x.f0 x.f1++([32,58,45,32]++(Lib.join (x.f2.map litL) [44,32]++[46]))++rest=headL x.f0 x.f1++32::(58::45::32::(Lib.join (x.f2.map litL) [44,32]++46::rest)) by simp];refine g3.trans ?_;unfold z3y
     simp
   · rw[show(1,x.f0.f0)::((if x.f0.f1=[]then[]else mkT 40::(z4n x.f1 x.f0.f1++[mkT 41]))++cT::(us++[mkT 46]))++r=z3y x.f0 x.f1++cT::(us++mkT 46::r) by unfold z3y;simp];unfold ruleP;rw[z7w hh h0 h5 (.inr rfl) hr.1 (show mk0 (cT::(us++mkT 46::r)) [40]=false by unfold mk0 isT;simp)];simp only[bnd,tailP];rw[if_pos (show mk0 (cT::(us++mkT 46::r)) [58,45]=true from two_is 58 45)];simp only[List.drop_succ_cons,List.drop_zero];rw[c2 r 13 [] (by omega)];simp only[wantP];rw[if_pos (show mk0 (mkT 46::r) [46]=true from mk_is 46)];simp only[List.drop_succ_cons,List.drop_zero,List.nil_append]
theorem zib:∀(rs:List RlS),(eachL (rs.map ruleL) [10]).2=true→(∀x ∈ rs,ruleL x≠[])∧zln rs=(rs.map fun x=>ruleL x++[10]).flatten:=fun rs h=>by
 obtain⟨h1,h2⟩:=zg4 h;refine⟨fun x hx=>h1 _ (List.mem_map.2 ⟨x,hx,rfl⟩),?_⟩;unfold zln;rw[h2];clear h h1 h2;have go:∀(rs:List RlS),rs≠[]→Lib.join (rs.map ruleL) [10]++[10]=(rs.map fun x=>ruleL x++[10]).flatten:=fun rs=>by
  induction rs with
  |nil=>exact fun h=>absurd rfl h
  |cons x rs ih =>
   intro _
   cases rs with
   |nil=>simp[Lib.join_one]
   |cons y rs =>
    have:=ih (by simp);rw[List.map_cons,List.map_cons,z99,←List.map_cons (f:=ruleL),List.map_cons (f:=fun x=>ruleL x++[10]),List.flatten_cons,←this]
    simp
 by_cases hrs:rs=[]
 · subst hrs;rfl
 · rw[if_neg hrs];exact go rs hrs
theorem zbs {s:List UInt8} {R:List TK} (hs:tkO (63::45::32::s)=some (qT::R)):∀(rs:List RlS),(∀x ∈ rs,ruleL x≠[]∧rngR x)→∃ts,tkO ((rs.map fun x=>ruleL x++[10]).flatten++63::45::32::s)=some (ts++qT::R)∧∀n acc,rs.length<n→z6e n acc (ts++qT::R)=.ok (acc++rs,R)
 |[],_=>⟨[],hs,fun n acc hn=>by
  obtain⟨n,rfl⟩:∃m,n=m+1:=⟨n - 1,by simp at hn;omega⟩
  rw[List.nil_append,z8i,if_pos (show mk0 (qT::R) [63,45]=true from two_is 63 45)]
  simp⟩
 |x::rs,h=>by
  obtain⟨us,c1,c2⟩:=zbs hs rs (fun y hy=>h y (List.mem_cons_of_mem _ hy));obtain⟨t,ts,hp,b1,b2⟩:=zld (h x (List.mem_cons_self ..)).1 (h x (List.mem_cons_self ..)).2;refine⟨t::ts++us,?_,fun n acc hn=>?_⟩
  · have:=b1 _ _ (z2l (c:=10) (by decide) c1);rw[List.map_cons,List.flatten_cons];rw[show ruleL x++[10]++(rs.map fun x=>ruleL x++[10]).flatten++63::45::32::s=ruleL x++10::((rs.map fun x=>ruleL x++[10]).flatten++63::45::32::s) by simp,this]
    simp
  · obtain⟨n,rfl⟩:∃m,n=m+1:=⟨n - 1,by omega⟩
    have hq:mk0 (t::ts++us++qT::R) [63,45]=false:=by
     show isT t 4 [63,45]=false;unfold predB at hp;simp only[Bool.and_eq_true,beq_iff_eq]at hp;unfold isT;rw[hp.1];rfl
    rw[z8i,if_neg (by rw[hq];decide),beq_eq_false_iff_ne.2 (by simp at hn;omega),Bool.false_and,if_neg (by decide),show t::ts++us++qT::R=t::ts++(us++qT::R) by simp,b2];simp only[bnd];rw[c2 n (acc++[x]) (by simp at hn ⊢;omega)]
    simp
theorem zka {p:PgS} (h:progL p≠[]) (hr:rngP p):progO (progL p)=some p∧(progL p).length≤20000∧p.f0.length≤200:=by
 unfold progL at h ⊢
 split at h
 · exact absurd rfl h
 rename_i hc;rw[if_neg hc];have h2:(eachL (p.f0.map ruleL) [10]).2=true:=by cases e:(eachL (p.f0.map ruleL) [10]).2 with|true=>rfl|false=>exact absurd (.inl e) hc
 have hq:atomL p.f1≠[]:=fun e=>hc (.inr (.inl e))
 have h200:p.f0.length≤200:=Nat.le_of_not_lt fun e=>hc (.inr (.inr (.inl e)))
 have hlen:(allT p).length≤20000:=Nat.le_of_not_lt fun e=>hc (.inr (.inr (.inr e)))
 refine⟨?_,hlen,h200⟩;obtain⟨h3,h4⟩:=zib _ h2;have g1:tkO (46::[10])=some [mkT 46]:=z2h (by decide) (z2l (by decide) (z7z _ _));have g2:=z7e hq (by decide) (by decide) hr.1 (by decide) g1;have g3:tkO (63::45::32::(atomL p.f1++[46,10]))=some (qT::(z3y p.f1 0++[mkT 46])):=zh2 (.inr ⟨rfl,rfl⟩) (z2l (by decide) g2);obtain⟨ts,c1,c2⟩:=zbs g3 p.f0 (fun x hx=>⟨h3 x hx,hr.2 x hx⟩);unfold allT progO;rw[h4,show(p.f0.map fun x=>ruleL x++[10]).flatten++([63,45,32]++(atomL p.f1++[46,10]))=(p.f0.map fun x=>ruleL x++[10]).flatten++63::45::32::(atomL p.f1++[46,10]) by simp,c1,Option.bind_some];have:z2c (ts++qT::(z3y p.f1 0++[mkT 46]))=.ok (p,[]):=by
  unfold z2c;rw[c2 201 [] (by omega)];simp only[bnd];rw[z7w hq (by decide) (by decide) (.inl rfl) hr.1 (show mk0 [mkT 46] [40]=false from z4r (by decide))];simp only[bnd,wantP];rw[if_pos (show mk0 [mkT 46] [46]=true from mk_is 46)]
  simp
 rw[this]
end Go.Proofs.YthebhbomlllpeaaGreatDoor.X
namespace Go.Proofs.YthebhbomlllpeaaGreatDoor.X
open Go.RowKit Go.Proofs.YthebhbomlllpeaaGreatDoorW.PrintWords Go.Proofs.YthebhbomlllpeaaGreatDoorW.PrintLast Go.Proofs.YthebhbomlllpeaaGreatDoorW.PrintMore
def TokV (t:TK):Prop:=t.2.size≤20000∧((t.1=1∧nameB t.2=true)∨(t.1=2∧varL t.2.data.toList=true)∨(t.1=3∧(readR t.2).2.2.2=0)∨t.1=4)
def AllV (l:List TK):Prop:=∀t ∈ l,TokV t
theorem AllV.tail {t:TK} {l:List TK} (h:AllV (t::l)):AllV l:=fun x hx=>h x (List.mem_cons_of_mem _ hx)
theorem AllV.drop {l:List TK} (h:AllV l) (n:Nat):AllV (l.drop n):=fun x hx=>h x (List.mem_of_mem_drop hx)
def Wt:List TK→Nat
 |[]=>0
 |t::l=>t.2.size+4+Wt l
def szT (t:TmS):Prop:=rngT t∧t.f0.size≤20000
theorem zd0 (s:ByteArray):(⟨s.data.toList.toArray⟩:ByteArray)=s:=by cases s;rfl
theorem zga:z6c noneV=true:=by
 unfold z6c;simp only[noneV,z1v];rfl
theorem zfk {t:TK} (h:TokV t) (h1:t.1=1):nameB t.2=true:=by
 rcases h.2 with ⟨_,h⟩|⟨e,_⟩|⟨e,_⟩|e
 · exact h
 all_goals omega
theorem zlc {s:ByteArray} (h:nameB s=true):readR s=(3,0,s,0)∧textL 3 0 s=s.data.toList:=by
 have hr:z44 3 0 s=true:=by unfold z44;simp[h]
 have ht:textL 3 0 s=s.data.toList:=by rw[z92 hr];simp
 have:=z9i 3 0 s hr (by omega);unfold txt at this;rw[ht,zd0]at this;exact⟨this,ht⟩
theorem var_ne {s:List UInt8} (h:varL s=true):s≠[]:=by rintro rfl;cases h
theorem tmL_show {t:TK} (hv:TokV t) {x:TmS} {l r:List TK} (h:termP (t::l)=.ok (x,r)):r=l∧termL x=t.2.data.toList∧termL x≠[]∧szT x∧(t.1=2→x.f0.data.toList≠[]):=by
 simp only[termP]at h
 split at h
 · rename_i h2;rw[beq_iff_eq]at h2;injection h with h;injection h with e1 e2
   subst e1;have hvar:varL t.2.data.toList=true:=by
    rcases hv.2 with ⟨e,_⟩|⟨_,h⟩|⟨e,_⟩|e
    · omega
    · exact h
    all_goals omega
   have hne:=var_ne hvar;have ht:termL ⟨t.2,noneV⟩=t.2.data.toList:=by unfold termL;rw[if_neg hne,if_pos hvar,if_pos zga]
   refine⟨e2.symm,ht,by rw[ht];exact hne,⟨⟨by show -9223372036854775808≤(0:Int);omega,by show(0:Int)≤9223372036854775807;omega⟩,hv.1⟩,fun _=>hne⟩
 · rename_i h2;rw[beq_iff_eq]at h2
   split at h
   · rename_i h13;injection h with h;injection h with e1 e2
     subst e1;obtain⟨k,n,s,e,hr,ht,hn⟩:∃k n s,readR t.2=(k,n,s,0)∧z44 k n s=true∧textL k n s=t.2.data.toList∧(-9223372036854775808≤n∧n≤9223372036854775807):=by
      rcases hv.2 with ⟨_,h⟩|⟨e,_⟩|⟨_,h⟩|e
      · obtain⟨g1,g2⟩:=zlc h;exact⟨3,0,t.2,g1,by unfold z44;simp[h],g2,by omega,by omega⟩
      · exact absurd e h2
      · rcases zgs t.2 with e|⟨k,n,s,e,g1,g2,g3⟩
        · rw[e]at h;cases h
        · exact⟨k,n,s,e,g1,g2,g3⟩
      · rw[e]at h13;cases h13
     have hrd:readV t.2=⟨k,n,s⟩:=by unfold readV;rw[e]
     have htl:termL ⟨⟨#[]⟩,readV t.2⟩=t.2.data.toList:=by unfold termL;rw[if_pos (by rfl),hrd];exact ht
     have hne:t.2.data.toList≠[]:=by
      rw[←ht];intro e0;have hnx:=zc6 k n s hr hn;rw[e0]at hnx
      cases hnx
     refine⟨e2.symm,htl,by rw[htl];exact hne,⟨?_,by show(⟨#[]⟩:ByteArray).size≤20000;decide⟩,fun e=>absurd e h2⟩;rw[hrd];exact hn
   · cases h
theorem z6f (s:ByteArray):s.data.toList.length=s.size:=z0f s
theorem z78 {l:List TK} (hl:AllV l) {x:TmS} {r:List TK} (h:termP l=.ok (x,r)):AllV r∧termL x≠[]∧szT x∧(termL x).length+4+Wt r≤Wt l∧∃t,l=t::r∧(t.1=2→x.f0.data.toList≠[]):=by
 cases l with
 |nil=>cases h
 |cons t l =>
  obtain⟨rfl,h1,h2,h3,h4⟩:=tmL_show (hl t (List.mem_cons_self ..)) h;exact⟨hl.tail,h2,h3,by rw[h1,z6f];exact Nat.le_refl _,t,rfl,h4⟩
theorem z95 {l:List TK} {x:TmS} {r:List TK} (h:z2w l=.ok (x,r)):termP l=.ok (x,r)∧∃t,l=t::r∧t.1=2:=by
 cases l with
 |nil=>cases h
 |cons t l =>
  simp only[z2w]at h
  split at h
  · rename_i h2;injection h with h;injection h with e1 e2
    subst e1 e2;exact⟨by simp only[termP];rw[if_pos h2],t,rfl,by simpa using h2⟩
  · cases h
theorem z7f {l:List TK} (hl:AllV l) {x:ByteArray} {r:List TK} (h:z0w l=.ok (x,r)):AllV r∧predN x=true∧x.size≤20000∧x.size+4+Wt r≤Wt l∧∃t,l=t::r∧t.1=1:=by
 cases l with
 |nil=>cases h
 |cons t l =>
  simp only[z0w]at h
  split at h
  · rename_i hp;injection h with h;injection h with e1 e2
    subst e1 e2;unfold predB at hp;simp only[Bool.and_eq_true,beq_iff_eq]at hp;refine⟨hl.tail,?_,(hl t (List.mem_cons_self ..)).1,Nat.le_refl _,t,rfl,hp.1⟩;unfold predN nmL;rw[zd0,zfk (hl t (List.mem_cons_self ..)) hp.1,hp.2];rfl
  · cases h
theorem z91 {l:List TK} (hl:AllV l) {s:List UInt8} (h:mk0 l s=true):AllV (l.drop 1)∧s.length+4+Wt (l.drop 1)≤Wt l:=by
 obtain⟨t,r,rfl,ht⟩:=z7b h;obtain⟨_,h2⟩:=z5l ht;refine⟨hl.tail,?_⟩;rw[←h2,z6f];exact Nat.le_refl _
theorem z6h {l:List TK} (hl:AllV l) {s:List UInt8} {x:Unit} {r:List TK} (h:wantP s l=.ok (x,r)):AllV r∧s.length+4+Wt r≤Wt l:=by
 unfold wantP at h
 split at h
 · rename_i hm;injection h with h;injection h with _ e
   subst e;exact z91 hl hm
 · cases h
theorem z9j (f:Int) (x:TmS):∀l:List TmS,argsL f (l++[x])=l.map (argL f false)++[argL f true x]
 |[]=>rfl
 |[t]=>rfl
 |t::u::l=>by
  show argL f false t::argsL f (u::l++[x])=_;rw[z9j f x (u::l)];rfl
theorem fold_len (s:List UInt8) (h:foldL s≠0):foldW (foldL s)=s∧0<foldL s∧foldL s≤5:=by
 unfold foldL at h ⊢
 by_cases h1:s=[99,111,117,110,116]
 · subst h1;decide
 by_cases h2:s=[115,117,109]
 · subst h2;decide
 by_cases h3:s=[109,105,110]
 · subst h3;decide
 by_cases h4:s=[109,97,120]
 · subst h4;decide
 by_cases h5:s=[109,101,97,110]
 · subst h5;decide
 · rw[if_neg h1,if_neg h2,if_neg h3,if_neg h4,if_neg h5]at h;exact absurd rfl h
def sumT (l:List TmS):Nat:=(l.map fun t=>(termL t).length+2).sum
theorem zk8 (l:List TmS) (x:TmS):sumT (l++[x])=sumT l+((termL x).length+2):=by simp[sumT]
theorem zaj (sep y:List UInt8):∀l:List (List UInt8),(Lib.join (l++[y]) sep).length=(l.map fun w=>w.length+sep.length).sum+y.length
 |[]=>by rw[List.nil_append,Lib.join_one];simp
 |[x]=>by
  show(Lib.join [x,y] sep).length=_;rw[z99,Lib.join_one]
  simp
  omega
 |x::z::l=>by
  have:=zaj sep y (z::l);show(Lib.join (x::z::(l++[y])) sep).length=_;rw[z99];rw[show z::l++[y]=z::(l++[y])from rfl]at this;rw[List.length_append,List.length_append,this];simp only[List.map_cons,List.sum_cons];omega
structure ArgsIn (head:Bool) (n:Nat) (acc:List TmS) (l:List TK) (a:List TmS) (f:Int) (r:List TK):Prop where
 all:AllV r
 sz:∀t ∈ a,szT t
 ne:∀w ∈ argsL f a,w≠[]
 f0:0≤f
 f5:f≤5
 hd:head=false→f=0
 len:a.length+1≤acc.length+n
 some:a≠[]
 wt:(Lib.join (argsL f a) [44,32]).length+Wt r≤sumT acc+Wt l
theorem zll (head:Bool):∀(n:Nat) (acc:List TmS) (l:List TK) (a:List TmS) (f:Int) (r:List TK),AllV l→(∀t ∈ acc,szT t∧termL t≠[])→argsP head n acc l=.ok ((a,f),r)→ArgsIn head n acc l a f r
 |0,acc,l,a,f,r,_,_,h=>by cases h
 |n+1,acc,l,a,f,r,hl,hacc,h=>by
  have hmap:∀g:Int,acc.map (argL g false)=acc.map termL:=fun g=>List.map_congr_left fun t _=>by unfold argL;rw[if_pos (.inr rfl)]
  have hne:∀(g:Int) (x:TmS),argL g true x≠[]→∀w ∈ argsL g (acc++[x]),w≠[]:=fun g x hx w hw=>by
   rw[z9j,hmap]at hw;rcases List.mem_append.1 hw with hw|hw
   · obtain⟨t,ht,rfl⟩:=List.mem_map.1 hw;exact(hacc t ht).2
   · rw[List.mem_singleton.1 hw];exact hx
  have hsum:∀(g:Int) (x:TmS),(Lib.join (argsL g (acc++[x])) [44,32]).length=sumT acc+(argL g true x).length:=fun g x=>by
   rw[z9j,hmap,zaj,List.map_map];rfl
  have hsz:∀x,szT x→∀t ∈ acc++[x],szT t:=fun x hx t ht=>by
   rcases List.mem_append.1 ht with ht|ht
   · exact(hacc t ht).1
   · rw[List.mem_singleton.1 ht];exact hx
  simp only[argsP]at h
  split at h
  · cases h
  rename_i hn0;have hn:z1t l=true→1≤n:=fun hs=>by
   cases n with
   |zero=>rw[hs]at hn0;exact absurd rfl hn0
   |succ n=>omega
  split at h
  · rename_i hf;simp only[Bool.and_eq_true]at hf;obtain⟨x,r1,hx,h⟩:=z1d h;obtain⟨_,r2,hw,h⟩:=z1d h;injection h with h;injection h with h e3;injection h with e1 e2
    subst e1 e3;obtain⟨t,u,q,rfl,hu⟩:=zmh hf.2;obtain⟨hx',t2,et2,h22⟩:=z95 hx;obtain⟨a1,a2,a3,a4,t3,et3,a5⟩:=z78 (hl.drop 2) hx';have hvv:x.f0.data.toList≠[]:=a5 (by rw[et2]at et3;injection et3 with e _;rw[←e];exact h22);obtain⟨b1,b2⟩:=z6h a1 hw;have hfb:=hf.2;unfold foldB at hfb;simp only[Bool.and_eq_true,beq_iff_eq,bne_iff_ne]at hfb;obtain⟨w1,w2,w3⟩:=fold_len _ hfb.1.2;have e2:foldL t.2.data.toList=f:=e2;subst e2;have harg:argL (foldL t.2.data.toList) true x=t.2.data.toList++([40]++(termL x++[41])):=by
     unfold argL;rw[if_neg (by rintro(e|e);exact hfb.1.2 e;cases e),if_neg (by rintro(e|e);exact hvv e;exact a2 e),w1]
    have hn1:=hn (by show(t.1==1||t.1==2||t.1==3)=true;rw[hfb.1.1];rfl);refine⟨b1,hsz x a3,hne _ x (by rw[harg];simp),by omega,w3,fun e=>by rw[e]at hf;exact absurd hf.1 (by decide),?_,by simp,?_⟩
    · rw[List.length_append];simp;omega
    · rw[hsum,harg];obtain⟨_,hu2⟩:=z5l hu;have hu3:u.2.size=1:=by rw[←z6f,hu2];rfl
      simp only[List.drop_succ_cons,List.drop_zero]at a4;simp only[List.length_append,List.length_cons,List.length_nil,z6f,Wt]at a4 b2 ⊢;omega
  · obtain⟨x,r1,hx,h⟩:=z1d h;obtain⟨a1,a2,a3,a4,t3,et3,_⟩:=z78 hl hx;have hn1:=hn (by
     subst et3;simp only[termP]at hx
     split at hx
     · rename_i h2;simp only[z1t];rw[h2];simp
     · split at hx
       · rename_i h13;simp only[z1t];simp only[Bool.or_eq_true]at h13 ⊢;rcases h13 with e|e <;> simp[e]
       · cases hx)
    split at h
    · rename_i hc;obtain⟨c1,c2⟩:=z91 a1 hc;have ih:=zll head n (acc++[x]) (r1.drop 1) a f r c1 (fun t ht=>by
       rcases List.mem_append.1 ht with ht|ht
       · exact hacc t ht
       · rw[List.mem_singleton.1 ht];exact⟨a3,a2⟩) h
      refine⟨ih.all,ih.sz,ih.ne,ih.f0,ih.f5,ih.hd,?_,ih.some,?_⟩
      · have:=ih.len;rw[List.length_append]at this;simp at this;omega
      · have:=ih.wt;rw[zk8]at this;simp only[List.length_cons,List.length_nil]at c2;omega
    · injection h with h;injection h with h e3;injection h with e1 e2
      subst e1 e2 e3;have harg:argL 0 true x=termL x:=by unfold argL;rw[if_pos (.inl rfl)]
      refine⟨a1,hsz x a3,hne _ x (by rw[harg];exact a2),by omega,by omega,fun _=>rfl,?_,by simp,?_⟩
      · rw[List.length_append];simp;omega
      · rw[hsum,harg];omega
theorem zdn (head:Bool) {l:List TK} (hl:AllV l) {a:AtS} {f:Int} {r:List TK} (h:atomP head l=.ok ((a,f),r)):AllV r∧headL a f≠[]∧(∀t ∈ a.f1,szT t)∧0≤f∧f≤5∧(head=false→f=0)∧a.f1.length≤8∧(headL a f).length+4+Wt r≤Wt l∧z1t l=true:=by
 unfold atomP at h;obtain⟨p,r1,hp,h⟩:=z1d h;obtain⟨p1,p2,p3,p4,t,et,ht1⟩:=z7f hl hp;have hst:z1t l=true:=by rw[et];simp only[z1t,ht1];rfl
 have hne:p.data.toList≠[]:=by
  have:=(z7r p2).2;exact(z6y this).1
 split at h
 · rename_i hm;obtain⟨m1,m2⟩:=z91 p1 hm;obtain⟨⟨us,g⟩,r2,ha,h⟩:=z1d h;have hA:=zll head 9 [] _ _ _ _ m1 (fun t ht=>by cases ht) ha;obtain⟨_,r3,hw,h⟩:=z1d h;injection h with h;injection h with h e3;injection h with e1 e2
   have e2:g=f:=e2;subst e1 e2 e3;obtain⟨w1,w2⟩:=z6h hA.all hw;have h8:us.length≤8:=by have:=hA.len;simp at this;omega
   have hE:eachL (argsL g us) [44,32]=(Lib.join (argsL g us) [44,32],true):=by
    unfold eachL;rw[if_neg];intro e;obtain⟨w,hw1,hw2⟩:=List.any_eq_true.1 e;exact hA.ne w hw1 (List.isEmpty_iff.1 hw2)
   have hH:headL ⟨p,us⟩ g=p.data.toList++([40]++(Lib.join (argsL g us) [44,32]++[41])):=by
    unfold headL;rw[if_neg (by
     rintro(e|e|e|e)
     · rw[hE]at e;cases e
     · rw[show predN (⟨p,us⟩:AtS).f0=predN p from rfl,p2]at e;cases e
     · have:8<us.length:=e;omega
     · exact hA.some e.2),if_neg hA.some,hE]
   refine⟨w1,by rw[hH];simp,hA.sz,hA.f0,hA.f5,hA.hd,h8,?_,hst⟩;have h5:=hA.wt;rw[hH];simp only[List.length_append,List.length_cons,List.length_nil,z6f,sumT,List.map_nil,List.sum_nil]at h5 m2 w2 ⊢;omega
 · injection h with h;injection h with h e3;injection h with e1 e2
   subst e1 e2 e3;have hH:headL ⟨p,[]⟩ 0=p.data.toList:=by
    unfold headL;rw[if_neg (by
     rintro(e|e|e|e)
     · cases e
     · rw[show predN (⟨p,[]⟩:AtS).f0=predN p from rfl,p2]at e;cases e
     · have:8<0:=e;omega
     · omega),if_pos rfl]
   refine⟨p1,by rw[hH];exact hne,fun t ht=>(by cases ht),by omega,by omega,fun _=>rfl,Nat.zero_le _,?_,hst⟩;rw[hH,z6f];exact p4
def sw (x:StS):Nat:=if x.f0≤2 then x.f1.size+1 else 5
def sws (l:List StS):Nat:=(l.map sw).sum
theorem zd4 (a b:List StS):sws (a++b)=sws a+sws b:=by simp[sws]
theorem zge (x:StS):sws [x]=sw x:=by simp[sws]
theorem push_sw {st st':List Pc} {x:StS} (h:push1 st x=some st'):wt st'≤wt st+sw x:=by
 have hle:∀(p:Pc) (b:Int),(z1p p b).length≤p.1.length+2:=fun p b=>by unfold z1p;split <;> simp
 have hm:∀k,(markL k).length=1:=fun k=>by unfold markL;(repeat(split;rfl));rfl
 unfold push1 at h
 split at h
 · cases h
 split at h
 · rename_i h2
   split at h
   · cases h
   · injection h with h
     subst h;have:(z4t x).length≤x.f1.size+1:=by
      unfold z4t
      split
      · split
        · simp[z6f]
        · split
          · rw[z6f];omega
          · simp
      · simp
     simp only[wt,sw,if_pos h2];omega
 rename_i h2;have hs:sw x=5:=by unfold sw;rw[if_neg h2]
 split at h
 · cases h
 split at h
 · cases h
 rename_i b r
 split at h
 · split at h
   · cases h
   rename_i a r
   split at h
   · injection h with h
     subst h;have h1:=hle a 2;have h3:=hle b 3;simp only[wt,List.length_append,hm];omega
   · injection h with h
     subst h;have h3:=hle b 2;simp only[wt,List.length_append,hm];omega
 · injection h with h
   subst h;have h3:=hle b 3;simp only[wt,List.length_append,hm];omega
theorem ze0:∀(l:List StS) (st st':List Pc),z2t st l=some st'→wt st'≤wt st+sws l
 |[],st,st',h=>by injection h with h;subst h;simp
 |x::l,st,st',h=>by
  simp only[z2t]at h
  cases h1:push1 st x with
  |none=>rw[h1]at h;cases h
  |some s =>
   rw[h1,Option.bind_some]at h;have:=ze0 l s st' h;have h2:=push_sw h1;rw[show sws (x::l)=sw x+sws l from by simp[sws]];omega
theorem pathL_sw {l:List StS} (h:pathL l≠[]):(pathL l).length≤sws l:=by
 obtain⟨p,h1,_,_,h4⟩:=z9f h;have:=ze0 l [] [p] h1;simp only[wt]at this;rw[h4];omega
def SwP (one:Prs (List StS)):Prop:=∀l x r,AllV l→one l=.ok (x,r)→AllV r∧sws x+Wt r≤Wt l
theorem zdb (k:Int) (h:2<k):sws [stepS k]=5:=by rw[zge];unfold sw;rw[if_neg (by show ¬k≤2;omega)]
theorem zhd:∀(l:List TK),AllV l→AllV (z0q l).2∧sws (z0q l).1+Wt (z0q l).2≤Wt l
 |[],hl=>⟨hl,by simp[z0q,sws]⟩
 |t::l,hl=>by
  obtain⟨ih1,ih2⟩:=zhd l hl.tail;have hb:∀s:List UInt8,isT t 4 s=true→t.2.size=s.length:=fun s hs=>by rw[←z6f,(z5l hs).2]
  have hc:∀k m,sws (stepS k::m)=sws [stepS k]+sws m:=fun k m=>zd4 [stepS k] m
  simp only[z0q]
  split
  · rename_i h;refine⟨ih1,?_⟩;have:=hb _ h;simp only[List.length_cons,List.length_nil]at this;rw[hc,zdb 5 (by omega)];simp only[Wt];omega
  split
  · rename_i h;refine⟨ih1,?_⟩;have:=hb _ h;simp only[List.length_cons,List.length_nil]at this;rw[hc,zdb 6 (by omega)];simp only[Wt];omega
  split
  · rename_i h;refine⟨ih1,?_⟩;have:=hb _ h;simp only[List.length_cons,List.length_nil]at this;rw[hc,zdb 7 (by omega)];simp only[Wt];omega
  · exact⟨hl,by simp[sws]⟩
theorem zm3 {m:UInt8} {k:Int} (hk:2<k) {one:Prs (List StS)} (h1:SwP one):∀(n:Nat) (acc:List StS) (l:List TK) (x:List StS) (r:List TK),AllV l→rowL [m] k one n acc l=.ok (x,r)→AllV r∧sws x+Wt r≤sws acc+Wt l
 |0,acc,l,x,r,hl,h=>by
  simp only[rowL]at h;injection h with h;injection h with e1 e2
  subst e1 e2;exact⟨hl,Nat.le_refl _⟩
 |n+1,acc,l,x,r,hl,h=>by
  simp only[rowL]at h
  split at h
  · rename_i hm;obtain⟨y,r1,hy,h⟩:=z1d h;obtain⟨a1,a2⟩:=z91 hl hm;obtain⟨b1,b2⟩:=h1 _ _ _ a1 hy;obtain⟨c1,c2⟩:=zm3 hk h1 n _ r1 x r b1 h;rw[zd4,zd4,zdb k hk]at c2;simp only[List.length_cons,List.length_nil]at a2;exact⟨c1,by omega⟩
  · injection h with h;injection h with e1 e2
    subst e1 e2;exact⟨hl,Nat.le_refl _⟩
theorem sw_row {m:UInt8} {k:Int} (hk:2<k) {one:Prs (List StS)} (h1:SwP one):SwP (rowP [m] k one):=fun l x r hl h=>by
 unfold rowP at h;obtain⟨y,r1,hy,h⟩:=z1d h;obtain⟨b1,b2⟩:=h1 _ _ _ hl hy;obtain⟨c1,c2⟩:=zm3 hk h1 _ _ _ _ _ b1 h;exact⟨c1,by omega⟩
theorem zie {inner:Option (Prs (List StS))} (hi:∀p,inner=some p→SwP p):SwP (partW inner):=fun l x r hl h=>by
 unfold partW at h;obtain⟨y,r1,hy,h⟩:=z1d h;have hB:AllV r1∧sws y+Wt r1≤Wt l:=by
  unfold baseP at hy
  split at hy
  · rename_i hm;obtain⟨a1,a2⟩:=z91 hl hm
    cases inner with
    |none=>cases hy
    |some p =>
     obtain⟨z,r2,hz,hy⟩:=z1d hy;obtain⟨b1,b2⟩:=hi p rfl _ _ _ a1 hz;obtain⟨_,r3,hw,hy⟩:=z1d hy;obtain⟨c1,c2⟩:=z6h b1 hw;injection hy with hy;injection hy with e1 e2
     subst e1 e2;exact⟨c1,by omega⟩
  · split at hy
    · rename_i hm;obtain⟨a1,a2⟩:=z91 hl hm;obtain⟨z,r2,hz,hy⟩:=z1d hy;obtain⟨b1,_,_,b2,_⟩:=z7f a1 hz;injection hy with hy;injection hy with e1 e2
      subst e1 e2;refine⟨b1,?_⟩;rw[zge];show z.size+1+_≤_;omega
    · obtain⟨z,r2,hz,hy⟩:=z1d hy;obtain⟨b1,_,_,b2,_⟩:=z7f hl hz;injection hy with hy;injection hy with e1 e2
      subst e1 e2;refine⟨b1,?_⟩;rw[zge];show z.size+1+_≤_;omega
 obtain⟨m1,m2⟩:=zhd r1 hB.1;injection h with h;injection h with e1 e2
 subst e1 e2;rw[zd4];exact⟨m1,by omega⟩
theorem zhm {part:Prs (List StS)} (h:SwP part):SwP (pathW part):=sw_row (by omega) (sw_row (by omega) h)
theorem zko:∀d,SwP (partP d)
 |0=>zie (fun p h=>by cases h)
 |d+1=>zie (fun p h=>by injection h with h;subst h;exact zhm (zko d))
theorem whole_in {l:List TK} (hl:AllV l) {x:List StS} {r:List TK} (h:z88 l=.ok (x,r)):AllV r∧pathL x≠[]∧(∀y ∈ x,y.f1.size≤40)∧x.length≤100∧(pathL x).length+Wt r≤Wt l:=by
 obtain⟨hp,_⟩:=zhe h;obtain⟨s1,s2⟩:=zhm (zko 32) _ _ _ hl hp;obtain⟨g1,g2,g3,_⟩:=zjq (fun t ht h1=>by unfold nmL;rw[zd0];exact zfk (hl t ht) h1) h;have:=pathL_sw g1;exact⟨s1,g1,g2,g3,by omega⟩

def szA (a:AtS):Prop:=(∀t ∈ a.f1,szT t)∧a.f1.length≤8
def szL (x:LtS):Prop:=szA x.f1∧szT x.f3∧szT x.f4∧szT x.f5∧(∀y ∈ x.f6,y.f1.size≤40)∧x.f6.length≤100∧x.f2.size≤20000
def szR (x:RlS):Prop:=szA x.f0∧(∀y ∈ x.f2,szL y)∧x.f2.length≤12
def szP (p:PgS):Prop:=szA p.f1∧(∀y ∈ p.f0,szR y)∧p.f0.length≤200
theorem zgv {a:AtS} (h:szA a):rngA a:=fun t ht=>(h.1 t ht).1
theorem szL_rng {x:LtS} (h:szL x):rngL x:=⟨zgv h.1,h.2.1.1,h.2.2.1.1,h.2.2.2.1.1⟩
theorem szR_rng {x:RlS} (h:szR x):rngR x:=⟨zgv h.1,fun l hl=>szL_rng (h.2.1 l hl)⟩
theorem szP_rng {p:PgS} (h:szP p):rngP p:=⟨zgv h.1,fun x hx=>szR_rng (h.2.1 x hx)⟩
theorem z66:szT noneT:=⟨⟨by show -9223372036854775808≤(0:Int);omega,by show(0:Int)≤9223372036854775807;omega⟩,by show(⟨#[]⟩:ByteArray).size≤20000;decide⟩
theorem zdy:szA noneA:=⟨fun t ht=>(by cases ht),Nat.zero_le _⟩
theorem z8c:z59 noneT=true:=by
 unfold z59 z6c;simp only[noneT,noneV,z1v];rfl
theorem z74:z7a noneA=true:=by
 unfold z7a;simp only[noneA,z1v];rfl
theorem z77 {s:List UInt8} (h:s≠[]):(!s.isEmpty)=true:=by cases s with|nil=>exact absurd rfl h|cons c s=>rfl
theorem rest1 (k:Int) (a:AtS):restB ⟨k,a,⟨#[]⟩,noneT,noneT,noneT,[]⟩ 0 true false false=true:=by
 unfold restB;simp only[z8c,z1v];rfl
theorem rest3 (k:Int) (o:ByteArray) {a b:TmS} (ha:termL a≠[]) (hb:termL b≠[]):restB ⟨k,noneA,o,a,b,noneT,[]⟩ 2 false true false=true:=by
 unfold restB;simp only[z8c,z74,z77 ha,z77 hb];rfl
theorem rest4 (k:Int) (o:ByteArray) {a b c:TmS} (ha:termL a≠[]) (hb:termL b≠[]) (hc:termL c≠[]):restB ⟨k,noneA,o,a,b,c,[]⟩ 3 false true false=true:=by
 unfold restB;simp only[z74,z77 ha,z77 hb,z77 hc];rfl
theorem rest5 (k:Int) (p:List StS) {a b:TmS} (ha:termL a≠[]) (hb:termL b≠[]):restB ⟨k,noneA,⟨#[]⟩,a,b,noneT,p⟩ 2 false false true=true:=by
 unfold restB;simp only[z8c,z74,z1v,z77 ha,z77 hb];rfl
theorem zkl {l:List TK} {k:Int} {s:List UInt8} (h:isL l k s=true):∃t,l=t::l.drop 1∧t.1=k∧t.2.data.toList=s:=by
 cases l with
 |nil=>cases h
 |cons t l=>exact⟨t,rfl,z5l h⟩
theorem zex (t:TK) (l:List TK):Wt (t::l)=t.2.data.toList.length+4+Wt l:=by rw[z6f];rfl
theorem k_ne {j:Int} {l:LtS} {q:Prop} (k:Int) (hk:(k==j)=false) (h:l.f0=k):¬(l.f0=j∧q):=fun e=>(beq_eq_false_iff_ne.1 hk) (h.symm.trans e.1)
def LitIn (l:List TK) (x:LtS) (r:List TK):Prop:=AllV r∧litL x≠[]∧szL x∧(litL x).length+Wt r≤Wt l∧z1t l=true
theorem z63 {t:TK} {l:List TK} (h:t.1=1∨t.1=2∨t.1=3):z1t (t::l)=true:=by
 rcases h with e|e|e <;> simp[z1t,e]
theorem lit1_in {l:List TK} (hl:AllV l) {x:LtS} {r:List TK} (h:z41 1 l=.ok (x,r)):LitIn l x r:=by
 unfold z41 at h;obtain⟨⟨a,f⟩,r1,ha,h⟩:=z1d h;obtain⟨a1,a2,a3,a4,a5,a6,a7,a8,a9⟩:=zdn false hl ha;injection h with h;injection h with e1 e2
 subst e1 e2;have hf:=a6 rfl;subst hf;have hL:litL ⟨1,a,⟨#[]⟩,noneT,noneT,noneT,[]⟩=atomL a:=by unfold litL;rw[if_pos ⟨rfl,rest1 1 a⟩]
 refine⟨a1,by rw[hL];exact a2,⟨⟨a3,a7⟩,z66,z66,z66,fun y hy=>(by cases hy),Nat.zero_le _,by show(⟨#[]⟩:ByteArray).size≤20000;decide⟩,?_,a9⟩;rw[hL];unfold atomL;omega
theorem lit2_in {t:TK} {l:List TK} (hl:AllV l) (ht:t.1=1∧t.2.data.toList=[110,111,116]) {x:LtS} {r:List TK} (h:z41 2 l=.ok (x,r)):LitIn (t::l) x r:=by
 unfold z41 at h;obtain⟨⟨a,f⟩,r1,ha,h⟩:=z1d h;obtain⟨a1,a2,a3,a4,a5,a6,a7,a8,a9⟩:=zdn false hl ha;injection h with h;injection h with e1 e2
 subst e1 e2;have hf:=a6 rfl;subst hf;have hL:litL ⟨2,a,⟨#[]⟩,noneT,noneT,noneT,[]⟩=[110,111,116,32]++atomL a:=by
  unfold litL;rw[if_neg (k_ne 2 rfl rfl),if_pos ⟨rfl,rest1 2 a,a2⟩]
 refine⟨a1,by rw[hL];simp,⟨⟨a3,a7⟩,z66,z66,z66,fun y hy=>(by cases hy),Nat.zero_le _,by show(⟨#[]⟩:ByteArray).size≤20000;decide⟩,?_,z63 (.inl ht.1)⟩;rw[hL,zex,ht.2];unfold atomL;simp only[List.length_append,List.length_cons,List.length_nil];omega
theorem comp_in {t:TK} {l:List TK} (h:z1h (t::l)=true):∃u q,l=u::q∧compB u.2.data.toList=true:=by
 unfold z1h mk1 at h;simp only[List.drop_succ_cons,List.drop_zero,Bool.or_eq_true]at h;unfold compB;rcases h with h|h|h|h
 all_goals
  obtain⟨u,q,rfl,hu⟩:=z7b h;refine⟨u,q,rfl,?_⟩;rw[(z5l hu).2];rfl
theorem lit3_in {l:List TK} (hl:AllV l) (hc:z1h l=true) {x:LtS} {r:List TK} (h:z4j l=.ok (x,r)):LitIn l x r:=by
 unfold z4j at h;obtain⟨a,r1,ha,h⟩:=z1d h;obtain⟨b,r2,hb,h⟩:=z1d h;injection h with h;injection h with e1 e2
 subst e1 e2;obtain⟨a1,a2,a3,a4,t,et,_⟩:=z78 hl ha;subst et;obtain⟨u,q,rfl,hu⟩:=comp_in hc;obtain⟨b1,b2,b3,b4,_⟩:=z78 a1.tail hb;have hL:litL ⟨3,noneA,u.2,a,b,noneT,[]⟩=termL a++([32]++(u.2.data.toList++([32]++termL b))):=by
  unfold litL;rw[if_neg (k_ne 3 rfl rfl),if_neg (k_ne 3 rfl rfl),if_pos ⟨rfl,rest3 3 u.2 a2 b2,hu⟩]
 refine⟨b1,by show litL ⟨3,noneA,u.2,a,b,noneT,[]⟩≠[];rw[hL];simp,⟨zdy,a3,b3,z66,fun y hy=>(by cases hy),Nat.zero_le _,(hl u (by simp)).1⟩,?_,?_⟩
 · show(litL ⟨3,noneA,u.2,a,b,noneT,[]⟩).length+_≤_;rw[hL];have b4:(termL b).length+4+Wt r2≤Wt q:=b4;rw[zex u]at a4;simp only[List.length_append,List.length_cons,List.length_nil];omega
 · simp only[termP]at ha
   split at ha
   · rename_i h2;exact z63 (.inr (.inl (by simpa using h2)))
   · split at ha
     · rename_i h13;simp only[Bool.or_eq_true,beq_iff_eq]at h13;exact z63 (h13.elim .inl fun e=>.inr (.inr e))
     · cases ha
theorem zk3 {s:List UInt8} (h:z2x s≠[]):wordL (z2x s)≠[]∧(wordL (z2x s)).length≤s.length+2∧(z2x s).length≤20000:=by
 unfold z2x at h ⊢
 by_cases h1:s=[112,108,117,115]
 · subst h1;decide
 by_cases h2:s=[109,105,110,117,115]
 · subst h2;decide
 by_cases h3:s=[116,105,109,101,115]
 · subst h3;decide
 · rw[if_neg h1,if_neg h2,if_neg h3]at h;exact absurd rfl h
theorem lit4_in {l:List TK} (hl:AllV l) (hi:isL (l.drop 1) 1 [105,115]=true) {x:LtS} {r:List TK} (h:letP l=.ok (x,r)):LitIn l x r:=by
 unfold letP at h;obtain⟨a,r1,ha,h⟩:=z1d h;obtain⟨b,r2,hb,h⟩:=z1d h;obtain⟨o,r3,ho,h⟩:=z1d h;obtain⟨c,r4,hc,h⟩:=z1d h;injection h with h;injection h with e1 e2
 subst e1 e2;obtain⟨ha',t0,et0,ht2⟩:=z95 ha;obtain⟨a1,a2,a3,a4,t,et,a5⟩:=z78 hl ha';subst et;injection et0 with et0 _
 subst et0;obtain⟨u,eu,_,hu⟩:=zkl hi;simp only[List.drop_succ_cons,List.drop_zero]at eu;obtain⟨b1,b2,b3,b4,_⟩:=z78 (a1.drop 1) hb;have hw:Wt r1=u.2.data.toList.length+4+Wt (r1.drop 1):=by rw[eu,zex];rfl
 rw[hu]at hw
 cases r2 with
 |nil=>cases ho
 |cons s q =>
  simp only[signP]at ho
  split at ho
  · cases ho
  rename_i hs;injection ho with ho;injection ho with e1 e2
  subst e1 e2;obtain⟨s1,s2,s3⟩:=zk3 hs;obtain⟨c1,c2,c3,c4,_⟩:=z78 b1.tail hc;have hL:litL ⟨4,noneA,⟨(z2x s.2.data.toList).toArray⟩,a,b,c,[]⟩=termL a++([32,105,115,32]++(termL b++(wordL (z2x s.2.data.toList)++termL c))):=by
   unfold litL;rw[if_neg (k_ne 4 rfl rfl),if_neg (k_ne 4 rfl rfl),if_neg (k_ne 4 rfl rfl),if_pos ⟨rfl,rest4 4 _ a2 b2 c2,a5 ht2,s1⟩]
  refine⟨c1,by rw[hL];simp,⟨zdy,a3,b3,c3,fun y hy=>(by cases hy),Nat.zero_le _,by show(z2x s.2.data.toList).toArray.size≤20000;rw[List.size_toArray];exact s3⟩,?_,z63 (.inr (.inl ht2))⟩;rw[hL];rw[zex]at b4;simp only[List.length_append,List.length_cons,List.length_nil]at hw ⊢;omega
theorem lit5_in {t:TK} {l:List TK} (hl:AllV l) (ht:t.1=1∧t.2.data.toList=[119,97,108,107]) {x:LtS} {r:List TK} (h:walkP l=.ok (x,r)):LitIn (t::l) x r:=by
 unfold walkP at h;obtain⟨_,r1,h1,h⟩:=z1d h;obtain⟨a,r2,ha,h⟩:=z1d h;obtain⟨_,r3,h3,h⟩:=z1d h;obtain⟨p,r4,hp,h⟩:=z1d h;obtain⟨_,r5,h5,h⟩:=z1d h;obtain⟨b,r6,hb,h⟩:=z1d h;obtain⟨_,r7,h7,h⟩:=z1d h;injection h with h;injection h with e1 e2
 subst e1 e2;obtain⟨w1,w2⟩:=z6h hl h1;obtain⟨a1,a2,a3,a4,_⟩:=z78 w1 ha;obtain⟨v1,v2⟩:=z6h a1 h3;obtain⟨p1,p2,p3,p4,p5⟩:=whole_in v1 hp;obtain⟨u1,u2⟩:=z6h p1 h5;obtain⟨b1,b2,b3,b4,_⟩:=z78 u1 hb;obtain⟨z1,z2⟩:=z6h b1 h7;have hL:litL ⟨5,noneA,⟨#[]⟩,a,b,noneT,p⟩=[119,97,108,107,40]++(termL a++([44,32]++(pathL p++([44,32]++(termL b++[41]))))):=by
  unfold litL;rw[if_neg (k_ne 5 rfl rfl),if_neg (k_ne 5 rfl rfl),if_neg (k_ne 5 rfl rfl),if_neg (k_ne 5 rfl rfl),if_pos ⟨rfl,rest5 5 p a2 b2,p2⟩]
 refine⟨z1,by rw[hL];simp,⟨zdy,a3,b3,z66,p3,p4,by show(⟨#[]⟩:ByteArray).size≤20000;decide⟩,?_,z63 (.inl ht.1)⟩;rw[hL,zex,ht.2];simp only[List.length_append,List.length_cons,List.length_nil]at w2 v2 u2 z2 ⊢;omega
theorem lit_in {l:List TK} (hl:AllV l) {x:LtS} {r:List TK} (h:z19 l=.ok (x,r)):LitIn l x r:=by
 unfold z19 at h
 split at h
 · rename_i hc;simp only[Bool.and_eq_true]at hc;exact lit3_in hl hc.2 h
 split at h
 · rename_i hc;simp only[Bool.and_eq_true]at hc;exact lit4_in hl hc.2 h
 split at h
 · rename_i hc;obtain⟨t,e,h1,h2⟩:=zkl hc;rw[e];exact lit2_in (hl.drop 1) ⟨h1,h2⟩ h
 split at h
 · rename_i hc;obtain⟨t,e,h1,h2⟩:=zkl hc;rw[e];exact lit5_in (hl.drop 1) ⟨h1,h2⟩ h
 split at h
 · exact lit1_in hl h
 · obtain⟨x,r1,_,h⟩:=z1d h
   cases h
def sumL (ls:List LtS):Nat:=(ls.map fun x=>(litL x).length+2).sum
theorem zkr (ls:List LtS) (x:LtS):(Lib.join ((ls++[x]).map litL) [44,32]).length=sumL ls+(litL x).length:=by
 rw[List.map_append,List.map_singleton,zaj,List.map_map];rfl
theorem zjs:∀(n:Nat) (acc:List LtS) (l:List TK) (xs:List LtS) (r:List TK),AllV l→(∀y ∈ acc,litL y≠[]∧szL y)→bodyP n acc l=.ok (xs,r)→AllV r∧(∀y ∈ xs,litL y≠[]∧szL y)∧xs.length+1≤acc.length+n∧xs≠[]∧(Lib.join (xs.map litL) [44,32]).length+Wt r≤sumL acc+Wt l
 |0,acc,l,xs,r,_,_,h=>by cases h
 |n+1,acc,l,xs,r,hl,hacc,h=>by
  rw[z9o]at h
  split at h
  · cases h
  rename_i hn0;obtain⟨x,r1,hx,h⟩:=z1d h;obtain⟨a1,a2,a3,a4,a5⟩:=lit_in hl hx;have hn:1≤n:=by
   cases n with
   |zero=>rw[a5]at hn0;exact absurd rfl hn0
   |succ n=>omega
  have hall:∀y ∈ acc++[x],litL y≠[]∧szL y:=fun y hy=>by
   rcases List.mem_append.1 hy with hy|hy
   · exact hacc y hy
   · rw[List.mem_singleton.1 hy];exact⟨a2,a3⟩
  split at h
  · rename_i hc;obtain⟨c1,c2⟩:=z91 a1 hc;obtain⟨i1,i2,i3,i4,i5⟩:=zjs n (acc++[x]) _ xs r c1 hall h;refine⟨i1,i2,by rw[List.length_append]at i3;simp at i3;omega,i4,?_⟩;have:sumL (acc++[x])=sumL acc+((litL x).length+2):=by simp[sumL]
    rw[this]at i5;simp only[List.length_cons,List.length_nil]at c2;omega
  · injection h with h;injection h with e1 e2
    subst e1 e2;refine⟨a1,hall,by rw[List.length_append];simp;omega,by simp,?_⟩;rw[zkr];omega
theorem zej {ws:List (List UInt8)} {sep:List UInt8} (h:∀w ∈ ws,w≠[]):eachL ws sep=(Lib.join ws sep,true):=by
 unfold eachL;rw[if_neg];intro e;obtain⟨w,h1,h2⟩:=List.any_eq_true.1 e;exact h w h1 (List.isEmpty_iff.1 h2)
theorem rule_in {l:List TK} (hl:AllV l) {x:RlS} {r:List TK} (h:ruleP l=.ok (x,r)):AllV r∧ruleL x≠[]∧szR x∧(ruleL x).length+1+Wt r≤Wt l∧predL l=true:=by
 unfold ruleP at h;obtain⟨⟨a,f⟩,r1,ha,h⟩:=z1d h;obtain⟨b,r2,hb,h⟩:=z1d h;obtain⟨_,r3,hw,h⟩:=z1d h;injection h with h;injection h with e1 e2
 subst e1 e2;have hp:predL l=true:=by
  unfold atomP at ha;obtain⟨p,q,hp,_⟩:=z1d ha
  cases l with
  |nil=>cases hp
  |cons t l =>
   simp only[z0w]at hp
   split at hp
   · rename_i e;exact e
   · cases hp
 obtain⟨a1,a2,a3,a4,a5,a6,a7,a8,a9⟩:=zdn true hl ha;unfold tailP at hb
 split at hb
 · rename_i hc;obtain⟨c1,c2⟩:=z91 a1 hc;obtain⟨b1,b2,b3,b4,b5⟩:=zjs 13 [] _ _ _ c1 (fun y hy=>by cases hy) hb;obtain⟨w1,w2⟩:=z6h b1 hw;have hE:eachL (b.map litL) [44,32]=(Lib.join (b.map litL) [44,32],true):=zej (fun w hw=>by
    obtain⟨y,hy,rfl⟩:=List.mem_map.1 hw;exact(b2 y hy).1)
   simp only[List.length_nil]at b3;have hR:ruleL ⟨a,f,b⟩=headL a f++([32,58,45,32]++(Lib.join (b.map litL) [44,32]++[46])):=by
    unfold ruleL;rw[if_neg (by rintro(e|e|e);have e:f<0:=e;omega;have e:5<f:=e;omega;have:12<b.length:=e;omega),if_neg (by rintro(e|e);exact a2 e;rw[hE]at e;cases e),if_neg b4,hE]
   refine⟨w1,by rw[hR];simp,⟨⟨a3,a7⟩,fun y hy=>(b2 y hy).2,by show b.length≤12;omega⟩,?_,hp⟩;rw[hR];simp only[List.length_append,List.length_cons,List.length_nil,sumL,List.map_nil,List.sum_nil]at b5 c2 w2 ⊢;omega
 · injection hb with hb;injection hb with e1 e2
   subst e1 e2;obtain⟨w1,w2⟩:=z6h a1 hw;have hR:ruleL ⟨a,f,[]⟩=headL a f++[46]:=by
    unfold ruleL;rw[if_neg (by rintro(e|e|e);have e:f<0:=e;omega;have e:5<f:=e;omega;have:12<0:=e;omega),if_neg (by rintro(e|e);exact a2 e;cases e),if_pos rfl]
   refine⟨w1,by rw[hR];simp,⟨⟨a3,a7⟩,fun y hy=>(by cases hy),Nat.zero_le _⟩,?_,hp⟩;rw[hR];simp only[List.length_append,List.length_cons,List.length_nil]at w2 ⊢;omega
def sumR (xs:List RlS):Nat:=(xs.map fun x=>(ruleL x).length+1).sum
theorem zi6:∀(n:Nat) (acc:List RlS) (l:List TK) (xs:List RlS) (r:List TK),AllV l→(∀y ∈ acc,ruleL y≠[]∧szR y)→z6e n acc l=.ok (xs,r)→AllV r∧(∀y ∈ xs,ruleL y≠[]∧szR y)∧xs.length+1≤acc.length+n∧sumR xs+6+Wt r≤sumR acc+Wt l
 |0,acc,l,xs,r,_,_,h=>by cases h
 |n+1,acc,l,xs,r,hl,hacc,h=>by
  rw[z8i]at h
  split at h
  · rename_i hm;injection h with h;injection h with e1 e2
    subst e1 e2;obtain⟨c1,c2⟩:=z91 hl hm;simp only[List.length_cons,List.length_nil]at c2;exact⟨c1,hacc,by omega,by omega⟩
  split at h
  · cases h
  rename_i hn0;obtain⟨x,r1,hx,h⟩:=z1d h;obtain⟨a1,a2,a3,a4,a5⟩:=rule_in hl hx;have hn:1≤n:=by
   cases n with
   |zero=>rw[a5]at hn0;exact absurd rfl hn0
   |succ n=>omega
  obtain⟨i1,i2,i3,i4⟩:=zi6 n (acc++[x]) _ xs r a1 (fun y hy=>by
   rcases List.mem_append.1 hy with hy|hy
   · exact hacc y hy
   · rw[List.mem_singleton.1 hy];exact⟨a2,a3⟩) h
  have:sumR (acc++[x])=sumR acc+((ruleL x).length+1):=by simp[sumR]
  rw[this]at i4;exact⟨i1,i2,by rw[List.length_append]at i3;simp at i3;omega,by omega⟩
theorem zei:∀rs:List RlS,((rs.map fun x=>ruleL x++[10]).flatten).length=sumR rs
 |[]=>rfl
 |x::rs=>by
  rw[List.map_cons,List.flatten_cons,List.length_append,zei rs,List.length_append]
  simp[sumR]
theorem prog_in {l:List TK} (hl:AllV l) (hw:Wt l≤20000) {p:PgS} {r:List TK} (h:z2c l=.ok (p,r)):progL p≠[]∧szP p:=by
 unfold z2c at h;obtain⟨rs,r1,hr,h⟩:=z1d h;obtain⟨⟨q,f⟩,r2,hq,h⟩:=z1d h;obtain⟨_,r3,hd,h⟩:=z1d h;injection h with h;injection h with e1 e2
 subst e1 e2;obtain⟨a1,a2,a3,a4⟩:=zi6 201 [] _ _ _ hl (fun y hy=>by cases hy) hr;obtain⟨b1,b2,b3,b4,b5,b6,b7,b8,b9⟩:=zdn false a1 hq;obtain⟨c1,c2⟩:=z6h b1 hd;have hf:=b6 rfl;subst hf;simp only[List.length_nil]at a3;have hE:(eachL (rs.map ruleL) [10]).2=true:=by
  rw[zej (fun w hw=>by
   obtain⟨y,hy,rfl⟩:=List.mem_map.1 hw;exact(a2 y hy).1)]
 have hlen:(allT ⟨rs,q⟩).length≤20000:=by
  unfold allT;rw[(zib rs hE).2];rw[List.length_append,zei];have h0:sumR []=0:=rfl;have h1:([46]:List UInt8).length=1:=rfl;have h2:([63,45,32]++(atomL q++[46,10])).length=(headL q 0).length+5:=by simp[atomL]
  show sumR rs+([63,45,32]++(atomL q++[46,10])).length≤20000;omega
 refine⟨?_,⟨b3,b7⟩,fun y hy=>(a2 y hy).2,by show rs.length≤200;omega⟩;unfold progL;rw[if_neg (by
  rintro(e|e|e|e)
  · have e:(eachL (rs.map ruleL) [10]).2=false:=e;rw[hE]at e;cases e
  · exact b2 e
  · have:200<rs.length:=e;omega
  · exact absurd e (Nat.not_lt.2 hlen))]
 unfold allT
 simp
theorem zh8 {full:List UInt8}:∀(l:List (Nat × Nat × Nat)) (a:Nat),a≤full.length→covT nmL vlL full a l→((l.map (fun x=>x.2.2)).sum≤full.length - a)
 |[],a,_,_=>by simp
 |x::l,a,ha,h=>by
  obtain⟨h1,h2,h3,h4,h5,h6,h7,h8⟩:=h;have:=zh8 l (x.2.1+x.2.2) h3 h8;simp only[List.map_cons,List.sum_cons];omega
theorem kind_v {s:ByteArray} (hs:s.size≤20000) {x:Nat × Nat × Nat} (h:nextN nmL vlL (s.data.toList.drop x.2.1)=some (x.1,x.2.2)) (hle:x.2.1+x.2.2≤s.data.toList.length):TokV (tkOf (tokS s x)):=by
 have ht:=z8m s x;have he:(⟨((s.data.toList.drop x.2.1).take x.2.2).toArray⟩:ByteArray)=(tokS s x).f1:=by rw[←ht,zd0]
 have hsz:(tokS s x).f1.size≤20000:=by
  rw[←z6f,ht,List.length_take,List.length_drop];rw[z6f]at hle ⊢;omega
 refine⟨hsz,?_⟩;show(((x.1:Nat):Int)=1∧nameB (tokS s x).f1=true)∨(((x.1:Nat):Int)=2∧varL (tokS s x).f1.data.toList=true)∨(((x.1:Nat):Int)=3∧(readR (tokS s x).f1).2.2.2=0)∨((x.1:Nat):Int)=4;have hk:=z54 h;have hkk:x.1=1∨x.1=2∨x.1=3∨x.1=4:=by omega
 cases hd:s.data.toList.drop x.2.1 with
 |nil=>rw[hd]at h;cases h
 |cons c r =>
  rw[hd]at h he ht;rcases hkk with e|e|e|e
  · rw[e]at h;have:=(zfs h).2.2;unfold nmL at this;rw[he]at this;exact .inl ⟨by omega,this⟩
  · rw[e]at h;obtain⟨_,h2,h3,h4⟩:=next_var h;refine .inr (.inl ⟨by omega,?_⟩);have hn:=z54 h;obtain⟨m,hm⟩:∃m,x.2.2=m+1:=⟨x.2.2 - 1,by omega⟩
    rw[ht,hm,List.take_succ_cons];simp only[varL,Bool.and_eq_true,decide_eq_true_eq];have hlen:(c::r.take m).length=m+1:=by
     have:m+1≤(c::r).length:=by rw[←hm];exact hn.2.1
     simp only[List.length_cons]at this;simp only[List.length_cons,List.length_take];omega
    refine⟨by omega,h2,?_⟩;rw[hlen,←List.take_succ_cons,←hm,←h3];exact zae signB (c::r)
  · rw[e]at h;obtain⟨_,_,_,_,hv⟩:=next_val h;unfold vlL at hv;rw[he,beq_iff_eq]at hv;exact .inr (.inr (.inl ⟨by omega,hv⟩))
  · exact .inr (.inr (.inr (by omega)))
theorem wt_map (s:ByteArray):∀l:List (Nat × Nat × Nat),Wt ((l.map (tokS s)).map tkOf)=((l.map fun x=>(tokS s x).f1.size).sum+4 * l.length)
 |[]=>rfl
 |x::l=>by
  simp only[List.map_cons,Wt,List.sum_cons,List.length_cons,wt_map s l];show(tokS s x).f1.size+4+_=_;omega
theorem lex_wt {s:ByteArray} (hs:s.size≤20000) (h:(z2s s).2.2=0):AllV ((z2s s).1.map tkOf)∧Wt ((z2s s).1.map tkOf)≤5 * s.size:=by
 unfold z2s at h ⊢;rw[if_neg (by omega)]at h ⊢;unfold z7o at h ⊢
 cases ht:tokN nmL vlL 0 s.data.toList with
 |error i=>rw[ht]at h;cases h
 |ok l =>
  simp only;have hc:=zlp nmL vlL s.data.toList _ 0 l (Nat.le_refl _) (by simpa using ht);have he:=zar l 0 hc;refine⟨fun t hm=>?_,?_⟩
  · rw[List.map_map,List.mem_map]at hm;obtain⟨x,hx,rfl⟩:=hm;exact kind_v hs (he x hx).1 (he x hx).2.1
  · rw[wt_map];have h1:(l.map fun x=>(tokS s x).f1.size)=l.map fun x=>x.2.2:=List.map_congr_left fun x hx=>by
     have:=(he x hx).2.1;rw[←z6f,z8m s x,List.length_take,List.length_drop];omega
    rw[h1];have h2:=zh8 l 0 (Nat.zero_le _) hc;have h3:=zbb nmL vlL _ s.data.toList 0 l (Nat.le_refl _) ht;rw[z6f]at h2 h3;omega
theorem zj0 {s:ByteArray} (hs:s.size≤1500) {p:PgS} (h:progO s.data.toList=some p):progL p≠[]∧szP p:=by
 unfold progO at h;rw[za3 (by omega)]at h
 split at h
 case isFalse=>cases h
 rename_i hz;rw[Option.bind_some]at h
 split at h
 · rename_i y hy;injection h with h
   subst h;obtain⟨h1,h2⟩:=lex_wt (by omega) hz;exact prog_in h1 (by omega) hy
 · cases h
end Go.Proofs.YthebhbomlllpeaaGreatDoor.X
namespace Go.Proofs.YthebhbomlllpeaaGreatDoor.X
open Go.RowKit Go.Proofs.YthebhbomlllpeaaGreatDoorW.PrintWords Go.Proofs.YthebhbomlllpeaaGreatDoorW.PrintLast Go.Proofs.YthebhbomlllpeaaGreatDoorW.PrintMore
attribute [local go_sem] z4h z4i z5e z5d z3s z3r z4l z4k
theorem eqA60 (d:Nat) (w:World) (x0 y0:ByteArray) (x1 y1:Int) (x2 y2:Int) (x3 y3:ByteArray) :
 (Op.equalIn (d+3) 60 (.agg #[.string x0,.int .i64 x1,.int .i64 x2,.string x3]) (.agg #[.string y0,.int .i64 y1,.int .i64 y2,.string y3])).run Tryz.prog w=.ok (x0.toList==y0.toList&&((x1==y1&&(x2==y2&&(x3.toList==y3.toList))))) w:=by
 refine zmw Tryz.underlying60 (by kernel_rfl) ?_;refine za2 (by rfl) (by go_simp;rfl) (by go_simp;rfl) (by go_simp) ?_;exact zd2 (by rfl) (by go_simp) (by go_simp) (eqA58 (d+0) w _ _ _ _ _ _)

theorem eqA69 (d:Nat) (w:World) (x0 y0:Int) (x1 y1:ByteArray) :
 (Op.equalIn (d+2) 69 (.agg #[.int .i64 x0,.string x1]) (.agg #[.int .i64 y0,.string y1])).run Tryz.prog w=.ok (x0==y0&&(x1.toList==y1.toList)) w:=by
 refine zmw Tryz.underlying69 (by kernel_rfl) ?_;refine za2 (by rfl) (by go_simp;rfl) (by go_simp;rfl) (by go_simp) ?_;exact zd2 (by rfl) (by go_simp;rfl) (by go_simp;rfl) (by go_simp)
end Go.Proofs.YthebhbomlllpeaaGreatDoor.X
namespace Go.Proofs.YthebhbomlllpeaaGreatDoor.X
open Go.RowKit Go.Proofs.YthebhbomlllpeaaGreatDoorW.PrintWords Go.Proofs.YthebhbomlllpeaaGreatDoorW.PrintLast Go.Proofs.YthebhbomlllpeaaGreatDoorW.PrintMore
attribute [local go_sem] z4h z4i z5e z5d z3s z3r z4l z4k
attribute [local go_sem high] eqA60 eqA69
mutual
def z47.j0:Nat→Bool→ByteArray→List (S60)→ByteArray→List (S60)→Option (Bool)
 |0,_,_,_,_,_=>none
 |k+1,x19,x675000,x675001,x676000,x676001=>if x19=true then(some false)else(z47.l0 k (x675001.length:Int) 0 x675000 x675001 x676000 x676001)
def z47.l0:Nat→Int→Int→ByteArray→List (S60)→ByteArray→List (S60)→Option (Bool)
 |0,_,_,_,_,_,_=>none
 |k+1,x22,x23,x675000,x675001,x676000,x676001=>if x23<x22 then(if 0≤x23 then(if x23<(x675001.length:Int)then(if x23<(x676001.length:Int)then(if(!((((z1j x675001 x23).f0).toList)==(((z1j x676001 x23).f0).toList))||((!(((z1j x675001 x23).f1.f0)==((z1j x676001 x23).f1.f0))||(!(((z1j x675001 x23).f1.f1)==((z1j x676001 x23).f1.f1))||(!((((z1j x675001 x23).f1.f2).toList)==(((z1j x676001 x23).f1.f2).toList)))))))=true then(some false)else(z47.l0 k x22 (wrap64 (x23+1)) x675000 x675001 x676000 x676001))else(none))else(none))else(none))else(some true)
end
def z7n.l0:Nat→List (S69)→List (S69)→Int→Int→Option (Bool)
 |0,_,_,_,_=>none
 |k+1,x0,x1,x12,x13=>if x13<x12 then(if 0≤x13 then(if x13<(x0.length:Int)then(if x13<(x1.length:Int)then(if(!(((z43 x0 x13).f0)==((z43 x1 x13).f0))||(!((((z43 x0 x13).f1).toList)==(((z43 x1 x13).f1).toList))))=true then(some false)else(z7n.l0 k x0 x1 x12 (wrap64 (x13+1))))else(none))else(none))else(none))else(some true)
def z0h.l0:Nat→List (S69)→List (S69)→Int→Int→Option (Bool)
 |0,_,_,_,_=>none
 |k+1,x0,x1,x12,x13=>if x13<x12 then(if 0≤x13 then(if x13<(x0.length:Int)then(if x13<(x1.length:Int)then(if(!(((z43 x0 x13).f0)==((z43 x1 x13).f0))||(!((((z43 x0 x13).f1).toList)==(((z43 x1 x13).f1).toList))))=true then(some false)else(z0h.l0 k x0 x1 x12 (wrap64 (x13+1))))else(none))else(none))else(none))else(some true)
def z0h.f (k:Nat) (l0:List (S69)) (l1:List (S69)):Option (Bool):=if(l0.length:Int)=(l1.length:Int)then(z0h.l0 k l0 l1 (l0.length:Int) 0)else(some false)
set_option maxHeartbeats 8000000 in
set_option maxRecDepth 100000 in
theorem z0h.calls (k:Nat) (A0:Option Addr) (c0:Nat) (l0:List (S69)) (A1:Option Addr) (c1:Nat) (l1:List (S69)) (r:Bool) (w:World) (hr0:Kd.C k69 w A0 l0.length l0) (hc0:l0.length≤c0) (hr1:Kd.C k69 w A1 l1.length l1) (hc1:l1.length≤c1) (h:z0h.f k l0 l1=some r) :
 Calls Tryz.prog 39 #[.slice A0 l0.length c0,.slice A1 l1.length c1] w fun e w'=>e=.returned (.bool r)∧z0c w w':=by
 have hu69:=Tryz.underlying69;have HR0:=z00.mk hr0;have HC0:=z00.mk hc0;clear hr0 hc0;have HR1:=z00.mk hr1;have HC1:=z00.mk hc1;clear hr1 hc1;have H:(if(l0.length:Int)=(l1.length:Int)then(z0h.l0 k l0 l1 (l0.length:Int) 0)else(some false))=some r:=h;clear h
 by_cases c3:(l0.length:Int)=(l1.length:Int)
 · rw[if_pos c3]at H;have c3b0:((l0.length:Int)==(l1.length:Int))=true:=beq_iff_eq.mpr c3;have c3b1:((l0.length:Int) !=(l1.length:Int))=false:=bne_eq_false_iff_eq.mpr c3;have c3b2:(l0.length==l1.length)=true:=by first|simpa using c3|(simp at c3 ⊢;omega)
   clear c3;have H':=z00.mk H;clear H;go_enter Tryz.func39,Tryz.ntmps39;go_wp2
   repeat(go_quiet (fail);try go_wp2)
   go_loopg [13] k (fun kq v13 w'=>∃(x13_1:Int),v13=.int .i64 x13_1∧z00 (z0h.l0 kq l0 l1 (l0.length:Int) x13_1=some r)∧z00 (kq≤k)∧z0c w w')
   case atStart=>exact⟨(0),zA07,H',⟨Nat.le_refl _⟩,by repeat(first|exact z0c.refl _|apply z0c.step)⟩
   case round =>
    clear H';(try clear c1);(try clear p2);(try clear c3);(try clear c3b0);(try clear c3b1);(try clear c3b2);obtain⟨x13_1,rfl,HA,HK1,⟨m1,rfl⟩⟩:=hrel
    cases gk with
    |zero=>exact absurd HA.out (by simp[z0h.l0])
    |succ k1 =>
     have H:=HA.out;clear HA;simp only[z0h.l0]at H
     by_cases c4:x13_1<(l0.length:Int)
     · rw[if_pos c4]at H;have c4b0:decide (x13_1<(l0.length:Int))=true:=decide_eq_true c4;clear c4
       by_cases c5:0≤x13_1
       · rw[if_pos c5]at H;have c5b0:decide (0≤x13_1)=true:=decide_eq_true c5;clear c5
         by_cases c6:x13_1<(l0.length:Int)
         · rw[if_pos c6]at H;have c6b0:decide (x13_1<(l0.length:Int))=true:=decide_eq_true c6;clear c6
           by_cases c7:x13_1<(l1.length:Int)
           · rw[if_pos c7]at H;have c7b0:decide (x13_1<(l1.length:Int))=true:=decide_eq_true c7;clear c7
             by_cases c8:(!(((z43 l0 x13_1).f0)==((z43 l1 x13_1).f0))||(!((((z43 l0 x13_1).f1).toList)==(((z43 l1 x13_1).f1).toList))))=true
             · rw[if_pos c8]at H;have c8b0:(!(((z43 l0 x13_1).f0)==((z43 l1 x13_1).f0))||(!((((z43 l0 x13_1).f1).toList)==(((z43 l1 x13_1).f1).toList))))=true:=c8;clear c8;obtain rfl:=Option.some.inj H;have p851:0≤(x13_1:Int):=of_decide_eq_true zA03;have q851:x13_1<(l0.length:Int):=of_decide_eq_true zA03;obtain⟨ad851,e851,hx851_0,hx851_1⟩:=zeu HR0.out x13_1 p851 q851
               cases e851
               replace p851:=eq_true p851;replace q851:=eq_true q851;have p852:0≤(x13_1:Int):=of_decide_eq_true zA03;have q852:x13_1<(l1.length:Int):=of_decide_eq_true zA03;obtain⟨ad852,e852,hx852_0,hx852_1⟩:=zeu HR1.out x13_1 p852 q852
               cases e852
               replace p852:=eq_true p852;replace q852:=eq_true q852;go_wp2
               repeat(go_quiet (fail);try go_wp2)
               go_ret
               exact⟨by first|rfl|(simp;done)|(simp[*];done),by repeat(first|exact z0c.refl _|apply z0c.step)⟩
             · rw[if_neg c8]at H;have c8b0:(!(((z43 l0 x13_1).f0)==((z43 l1 x13_1).f0))||(!((((z43 l0 x13_1).f1).toList)==(((z43 l1 x13_1).f1).toList))))=false:=by simpa using c8
               clear c8;have H':=z00.mk H;clear H;have p851:0≤(x13_1:Int):=of_decide_eq_true zA03;have q851:x13_1<(l0.length:Int):=of_decide_eq_true zA03;obtain⟨ad851,e851,hx851_0,hx851_1⟩:=zeu HR0.out x13_1 p851 q851
               cases e851
               replace p851:=eq_true p851;replace q851:=eq_true q851;have p852:0≤(x13_1:Int):=of_decide_eq_true zA03;have q852:x13_1<(l1.length:Int):=of_decide_eq_true zA03;obtain⟨ad852,e852,hx852_0,hx852_1⟩:=zeu HR1.out x13_1 p852 q852
               cases e852
               replace p852:=eq_true p852;replace q852:=eq_true q852;go_wp2
               repeat(go_quiet (fail);try go_wp2)
               go_roundg k1
               case measure=>have:=HK1.out;omega
               case rel=>exact⟨(wrap64 (x13_1+1)),zA07,H',⟨by have:=HK1.out;omega⟩,by repeat(first|exact z0c.refl _|apply z0c.step)⟩
           · rw[if_neg c7]at H;exact absurd H (by simp)
         · rw[if_neg c6]at H;exact absurd H (by simp)
       · rw[if_neg c5]at H;exact absurd H (by simp)
     · rw[if_neg c4]at H;have c4b0:decide (x13_1<(l0.length:Int))=false:=decide_eq_false c4;clear c4;obtain rfl:=Option.some.inj H;go_wp2
       repeat(go_quiet (fail);try go_wp2)
       go_ret
       exact⟨by first|rfl|(simp;done)|(simp[*];done),by repeat(first|exact z0c.refl _|apply z0c.step)⟩
 · rw[if_neg c3]at H;have c3b0:((l0.length:Int)==(l1.length:Int))=false:=beq_eq_false_iff_ne.mpr c3;have c3b1:((l0.length:Int) !=(l1.length:Int))=true:=bne_iff_ne.mpr c3;have c3b2:(l0.length==l1.length)=false:=by first|simpa using c3|(simp at c3 ⊢;omega)
   obtain rfl:=Option.some.inj H;go_enter Tryz.func39,Tryz.ntmps39;go_wp2
   repeat(go_quiet (fail);try go_wp2)
   go_ret
   exact⟨by first|rfl|(simp;done)|(simp[*];done),by repeat(first|exact z0c.refl _|apply z0c.step)⟩
end Go.Proofs.YthebhbomlllpeaaGreatDoor.X
