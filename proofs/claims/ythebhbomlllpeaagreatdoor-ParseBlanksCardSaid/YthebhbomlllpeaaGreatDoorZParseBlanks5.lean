/-
  ParseBlanks: what the proof needs, put together by a program of this session (shake.py), part 5.
-/
import Derived.Test.YthebhbomlllpeaaGreatDoorZParseBlanks4
set_option linter.unusedVariables false
set_option linter.unusedSimpArgs false
namespace Go.Proofs.YthebhbomlllpeaaGreatDoor.X
open Go.RowKit Go.Proofs.YthebhbomlllpeaaGreatDoorW.PrintWords Go.Proofs.YthebhbomlllpeaaGreatDoorW.PrintLast Go.Proofs.YthebhbomlllpeaaGreatDoorW.PrintMore
theorem z3g (s:ByteArray) (a b:Nat):(s.extract a b).data.toList=(s.data.toList.take b).drop a:=by
 rw[ByteArray.data_extract,Array.toList_extract,List.extract_eq_take_drop,List.drop_take]
theorem z7r (s:ByteArray) (n:Nat):s.extract 0 n=⟨(s.data.toList.take n).toArray⟩:=by
 apply ByteArray.ext;apply Array.toList_inj.1;rw[z3g];simp
theorem z3h (s:ByteArray) (n:Nat):(s.extract n s.size).data.toList=s.data.toList.drop n:=by
 rw[z3g,List.take_of_length_le (by rw[z0n];exact Nat.le_refl _)]
def varL (l:List UInt8):Bool:=match l with
 |[]=>false
 |c::r=>decide ((c::r).length≤40)&&(z1d c&&decide (runN signB (c::r)=(c::r).length))
def z3r.f (a0:ByteArray):Option Bool:=if a0.size≤140737488355328 then some (varL a0.data.toList)else none
theorem z8f {s:ByteArray} (h:0<s.size):∃r,s.data.toList=s[0]::r:=by
 cases hl:s.data.toList with
 |nil=>have:=z0n s;rw[hl]at this;simp at this;omega
 |cons c r =>
  refine⟨r,?_⟩;have h2:=z2k s 0 h (by rw[z0n];exact h);have h3:s.data.toList[0]'(by rw[z0n];exact h)=c:=by simp[hl]
  rw[←h2,h3]
set_option maxHeartbeats 1600000 in
set_option maxRecDepth 100000 in
theorem z3r.calls (a0:ByteArray) (r:Bool) (w:World) (h:z3r.f a0=some r) :
 Calls Tryz.prog 107 #[.string a0] w fun e w'=>e=.returned (.bool r)∧z0d w w':=by
 unfold z3r.f at h
 split at h
 · rename_i hs;obtain rfl:=Option.some.inj h;clear h;have HR:=z00.mk (fun W=>z4s a0 hs W)
   by_cases hz:a0.size=0
   · have hl:varL a0.data.toList=false:=by
      have:a0.data.toList=[]:=List.eq_nil_of_length_eq_zero (by rw[z0n];exact hz);rw[this];rfl
     have hemp:a0.toList.isEmpty=true:=by rw[z2d,List.isEmpty_iff];exact List.eq_nil_of_length_eq_zero (by rw[z0n];exact hz)
     rw[hl];clear hz hl hs;go_enter Tryz.func107,Tryz.ntmps107;go_wp2
     go_ret
     exact⟨rfl,z0d.refl _⟩
   · have hp:0<a0.size:=by omega
     obtain⟨r,hr⟩:=z8f hp;have hemp:a0.toList.isEmpty=false:=by rw[z2d,hr];rfl
     have hlen:a0.data.toList.length=a0.size:=z0n a0;have hv:varL a0.data.toList=(decide (a0.size≤40)&&(z1d a0[0]&&decide (runN signB a0.data.toList=a0.size))):=by
      rw[←hlen,hr];rfl
     have HG:=z00.mk (fun W=>z1m.calls (a0[0].toNat:Int) (z1d a0[0]) W (z1e a0[0]));rw[hv];clear hr hlen hv
     by_cases h40:a0.size≤40
     · have e1:decide ((a0.size:Int)≤40)=true:=decide_eq_true (by omega);rw[decide_eq_true h40,Bool.true_and]
       cases hg:z1d a0[0]with
       |false =>
        rw[hg]at HG;rw[Bool.false_and];clear hg hz h40 hs;go_enter Tryz.func107,Tryz.ntmps107
        go_wp2_with (go_at_call 126;refine(HG.out _).mono ?_;rintro e w' ⟨rfl,⟨nd,rfl⟩⟩)
        go_ret
        exact⟨rfl,⟨_,rfl⟩⟩
       |true =>
        rw[hg]at HG;rw[Bool.true_and];clear hg hz hs
        by_cases hrun:runN signB a0.data.toList=a0.size
        · have e2:((runN signB a0.data.toList:Int)==(a0.size:Int))=true:=by rw[hrun];simp
          rw[decide_eq_true hrun];clear hrun h40;go_enter Tryz.func107,Tryz.ntmps107
          go_wp2_with (first|(go_at_call 126;refine(HG.out _).mono ?_;rintro e w' ⟨rfl,⟨nd,rfl⟩⟩)|(go_at_call 124;refine(HR.out _).mono ?_;rintro e w' ⟨rfl,⟨nd2,rfl⟩⟩))
          go_ret
          exact⟨rfl,⟨_,rfl⟩⟩
        · have e2:((runN signB a0.data.toList:Int)==(a0.size:Int))=false:=by rw[beq_eq_false_iff_ne];omega
          rw[decide_eq_false hrun];clear hrun h40;go_enter Tryz.func107,Tryz.ntmps107
          go_wp2_with (first|(go_at_call 126;refine(HG.out _).mono ?_;rintro e w' ⟨rfl,⟨nd,rfl⟩⟩)|(go_at_call 124;refine(HR.out _).mono ?_;rintro e w' ⟨rfl,⟨nd2,rfl⟩⟩))
          go_ret
          exact⟨rfl,⟨_,rfl⟩⟩
     · have e1:decide ((a0.size:Int)≤40)=false:=decide_eq_false (by omega);rw[decide_eq_false h40,Bool.false_and];clear hz h40 hs;go_enter Tryz.func107,Tryz.ntmps107;go_wp2
       go_ret
       exact⟨rfl,z0d.refl _⟩
 · cases h
theorem zgm {W:World} {g:Nat} {x0 x1 x2:Value} (hg:W.heap[g]?=some (.cells #[x0,x1,x2] 108 (0,0))) (k t a:Value) :
 (((W.setCell ⟨g,0,none⟩ k).setCell ⟨g,1,none⟩ t).setCell ⟨g,2,none⟩ a).heap[g]?=some (.cells #[k,t,a] 108 (0,0)) :=
 z0l (cs:=#[k,t,x2]) (z0l (cs:=#[k,x1,x2]) (z0l (cs:=#[x0,x1,x2]) hg 0 _ rfl) 1 _ rfl) 2 _ rfl
theorem z3w {w W:World} {tmps:Array Value} (hg:W.heap[w.heap.size]?=some (.cells #[.int .i64 0,.string ⟨#[]⟩,.int .i64 0] 108 (0,0))) (hb:Below w.heap.size w W) (k:Int) (t:ByteArray) (a:Int) (htmp:tmps.getD 4 undef=.pointer (some ⟨w.heap.size,0,none⟩)) :
 bodyPost Tryz.prog Tryz.f97 (fun e w'=>e=.returned (.agg #[.int .i64 k,.string t,.int .i64 a])∧Below w.heap.size w w') Exit.ret { tmps:=tmps,defers:=[]}
  (((W.setCell ⟨w.heap.size,0,none⟩ (.int .i64 k)).setCell ⟨w.heap.size,1,none⟩ (.string t)).setCell ⟨w.heap.size,2,none⟩ (.int .i64 a)) :=
 bodyPost_ret (z6j rfl (.cell w.heap.size 108 #[.int .i64 k,.string t,.int .i64 a] (0,0) _ htmp (zgm hg _ _ _) Tryz.underlying108 rfl (by kernel_rfl) .nil)) rfl
  ⟨rfl,z08 (z08 (z08 hb (Nat.le_refl _)) (Nat.le_refl _)) (Nat.le_refl _)⟩
theorem z2i (w:World) (m:Nat) (o:Obj):((w.alloc o).drewN m).heap[w.heap.size]?=some o:=z07 (z1h w o) m
theorem z1l (w:World) (m:Nat) (o:Obj):Below w.heap.size w ((w.alloc o).drewN m):=z02 ((Below.refl _ _).alloc (Nat.le_refl _) _) m
theorem zfh (s:ByteArray) (n:Nat):nmL (s.data.toList.take n)=nameB (s.extract 0 n):=by unfold nmL;rw[z7r]
def NextR (s:ByteArray) (a:Int):Option (Nat × Nat)→Ending→Prop
 |some (k,n),e=>e=.returned (.agg #[.int .i64 k,.string (s.extract 0 n),.int .i64 a])
 |none,e=>e=.panicked [{ v:=.iface 134 (.int .i64 a),recovered:=false }]
theorem z95 {w W:World} {tmps:Array Value} (hg:W.heap[w.heap.size]?=some (.cells #[.int .i64 0,.string ⟨#[]⟩,.int .i64 0] 108 (0,0))) (hb:Below w.heap.size w W) (k:Int) (t:ByteArray) (a:Int) (htmp:tmps.getD 4 undef=.pointer (some ⟨w.heap.size,0,none⟩)) (o:Obj) :
 bodyPost Tryz.prog Tryz.f97 (fun e w'=>e=.returned (.agg #[.int .i64 k,.string t,.int .i64 a])∧Below w.heap.size w w') Exit.ret { tmps:=tmps,defers:=[]}
  ((((W.setCell ⟨w.heap.size,0,none⟩ (.int .i64 k)).setCell ⟨w.heap.size,1,none⟩ (.string t)).setCell ⟨w.heap.size,2,none⟩ (.int .i64 a)).alloc o) :=
 bodyPost_ret (z6j rfl (.cell w.heap.size 108 #[.int .i64 k,.string t,.int .i64 a] (0,0) _ htmp (z06 (zgm hg _ _ _) _) Tryz.underlying108 rfl (by kernel_rfl) .nil)) rfl
  ⟨rfl,z04 (z08 (z08 (z08 hb (Nat.le_refl _)) (Nat.le_refl _)) (Nat.le_refl _)) _⟩
theorem z5e {s:ByteArray} {p:List UInt8} (h:s.data.toList.take 2=p) (hp:p.length=2):2≤s.size:=by
 have:=congrArg List.length h;rw[List.length_take,hp,z0n]at this;omega
theorem z0x (s p:ByteArray) (b:Bool) (h:(s.data.toList.take 2==p.data.toList)=b) (hp:p.size=2:=by rfl):z0e.f s p=some b:=by
 unfold z0e.f stringslite_HasPrefix.f;rw[hp]
 by_cases h2:(s.size:Int)≥((2:Nat):Int)
 · rw[if_pos h2,if_pos (by omega),if_pos h2];simp only[Option.bind_some];have e:(s.extract 0 (((2:Nat):Int):Int).toNat).toList=s.data.toList.take 2:=by
    rw[z2d,z3g,List.drop_zero];rfl
   rw[e,z2d,h]
 · rw[if_neg h2];simp only[Option.bind_some]
   congr 1
   rw[←h]
   symm
   rw[beq_eq_false_iff_ne];intro e;have:=congrArg List.length e;rw[List.length_take,z0n,z0n,hp]at this;omega
theorem zb7 (l:List UInt8) (c:UInt8):decide ((0:Int)≤Lib.indexByte l c)=l.contains c∧-1≤Lib.indexByte l c:=by
 induction l with
 |nil=>exact⟨rfl,Int.le_refl _⟩
 |cons b l ih =>
  obtain⟨ih1,ih2⟩:=ih;unfold Lib.indexByte
  by_cases hb:(b==c)=true
  · rw[if_pos hb];have:b=c:=beq_iff_eq.1 hb;subst this;exact⟨by simp,by decide⟩
  · rw[if_neg hb];have hc:(b::l).contains c=l.contains c:=by
     rw[List.contains_cons];have:(c==b)=false:=by rw[beq_eq_false_iff_ne];intro e;exact hb (beq_iff_eq.2 e.symm)
     rw[this,Bool.false_or]
    rw[hc,←ih1]
    by_cases hm:(Lib.indexByte l c==-1)=true
    · rw[if_pos hm];have:Lib.indexByte l c=-1:=beq_iff_eq.1 hm;rw[this];exact⟨rfl,by decide⟩
    · rw[if_neg hm];have:Lib.indexByte l c≠-1:=fun e=>hm (beq_iff_eq.2 e)
      refine⟨?_,by omega⟩;rw[Bool.eq_iff_iff,decide_eq_true_eq,decide_eq_true_eq];omega
theorem z5k (c:UInt8):decide ((0:Int)≤Lib.indexByte (⟨#[40,41,44,46,60,61,47,124,42,43,63,94]⟩:ByteArray).data.toList ((c.toNat:Int)).toNat.toUInt8)=oneB c:=by
 have e:((c.toNat:Int)).toNat.toUInt8=c:=by
  rw[Int.toNat_natCast];apply UInt8.toNat_inj.1;show(UInt8.ofNat c.toNat).toNat=c.toNat;rw[UInt8.toNat_ofNat'];have:=c.toNat_lt;omega
 rw[e,(zb7 _ c).1];rfl
set_option maxHeartbeats 1600000 in
set_option maxRecDepth 100000 in
theorem z8n (s:ByteArray) (hs:s.size≤140737488355328) (a:Int) (w:World) (hp:0<s.size) (n:Nat) (hsm:z1p s[0]=true) (hn:runN lowB s.data.toList=n) (hN:nameB (s.extract 0 n)=true) :
 Calls Tryz.prog 97 #[.string s,.int .i64 a] w fun e w'=>NextR s a (some (1,n)) e∧Below w.heap.size w w':=by
 have HS:=z00.mk (fun W=>z1j.calls (s[0].toNat:Int) (z1p s[0]) W (z1a s[0]));rw[hsm]at HS;have HR:=z00.mk (fun W=>zfk s hs W);have hle:n≤s.size:=by have:=z3c lowB s.data.toList;rwa [z0n,hn]at this
 rw[hn]at HR;have HN:=z00.mk (fun W=>z15.calls 42 (s.extract 0 n) _ W (z5r _ 42 (Nat.le_refl _)));rw[hN]at HN;clear hN hsm hs hn;go_enter Tryz.func97,Tryz.ntmps97
 go_wp2_with (first|(go_at_call 123;refine(HS.out _).mono ?_;rintro e w' ⟨rfl,⟨nd1,rfl⟩⟩)|(go_at_call 124;refine(HR.out _).mono ?_;rintro e w' ⟨rfl,⟨nd4,rfl⟩⟩)|(go_at_call 108;refine(HN.out _).mono ?_;rintro e w' ⟨rfl,⟨nd6,rfl⟩⟩))
 exact z3w (z2i w _ _) (z1l w _ _) 1 _ a (by rfl)
set_option maxHeartbeats 1600000 in
set_option maxRecDepth 100000 in
theorem z7v (s:ByteArray) (hs:s.size≤140737488355328) (a:Int) (w:World) (hp:0<s.size) (n:Nat) (hsm:z1p s[0]=true) (hn:runN lowB s.data.toList=n) (hN:nameB (s.extract 0 n)=false) :
 Calls Tryz.prog 97 #[.string s,.int .i64 a] w fun e w'=>NextR s a (none) e∧Below w.heap.size w w':=by
 have HS:=z00.mk (fun W=>z1j.calls (s[0].toNat:Int) (z1p s[0]) W (z1a s[0]));rw[hsm]at HS;have HR:=z00.mk (fun W=>zfk s hs W);have hle:n≤s.size:=by have:=z3c lowB s.data.toList;rwa [z0n,hn]at this
 rw[hn]at HR;have HN:=z00.mk (fun W=>z15.calls 42 (s.extract 0 n) _ W (z5r _ 42 (Nat.le_refl _)));rw[hN]at HN;clear hN hsm hs hn;go_enter Tryz.func97,Tryz.ntmps97
 go_wp2_with (first|(go_at_call 123;refine(HS.out _).mono ?_;rintro e w' ⟨rfl,⟨nd1,rfl⟩⟩)|(go_at_call 124;refine(HR.out _).mono ?_;rintro e w' ⟨rfl,⟨nd4,rfl⟩⟩)|(go_at_call 108;refine(HN.out _).mono ?_;rintro e w' ⟨rfl,⟨nd6,rfl⟩⟩))
 exact⟨rfl,rfl,z1l w _ _⟩
set_option maxHeartbeats 1600000 in
set_option maxRecDepth 100000 in
theorem z8v (s:ByteArray) (hs:s.size≤140737488355328) (a:Int) (w:World) (hp:0<s.size) (n:Nat) (hsm:z1p s[0]=false) (hgr:z1d s[0]=true) (hn:runN signB s.data.toList=n) (hN:varL (s.data.toList.take n)=true) :
 Calls Tryz.prog 97 #[.string s,.int .i64 a] w fun e w'=>NextR s a (some (2,n)) e∧Below w.heap.size w w':=by
 have HS:=z00.mk (fun W=>z1j.calls (s[0].toNat:Int) (z1p s[0]) W (z1a s[0]));rw[hsm]at HS;have HG:=z00.mk (fun W=>z1m.calls (s[0].toNat:Int) (z1d s[0]) W (z1e s[0]));rw[hgr]at HG;have HR:=z00.mk (fun W=>z4s s hs W);have hle:n≤s.size:=by have:=z3c signB s.data.toList;rwa [z0n,hn]at this
 rw[hn]at HR;have hv2:=fun W=>z3r.calls (s.extract 0 n) _ W (by unfold z3r.f;rw[if_pos zA0l])
 rw[z3g,List.drop_zero,hN]at hv2;have HN:=z00.mk hv2;clear hv2 hN hsm hgr hs hn;go_enter Tryz.func97,Tryz.ntmps97
 go_wp2_with (first|(go_at_call 123;refine(HS.out _).mono ?_;rintro e w' ⟨rfl,⟨nd1,rfl⟩⟩)|(go_at_call 126;refine(HG.out _).mono ?_;rintro e w' ⟨rfl,⟨nd2,rfl⟩⟩)|(go_at_call 124;refine(HR.out _).mono ?_;rintro e w' ⟨rfl,⟨nd4,rfl⟩⟩)|(go_at_call 107;refine(HN.out _).mono ?_;rintro e w' ⟨rfl,⟨nd5,rfl⟩⟩))
 exact z3w (z2i w _ _) (z1l w _ _) 2 _ a (by rfl)
set_option maxHeartbeats 1600000 in
set_option maxRecDepth 100000 in
theorem z7u (s:ByteArray) (hs:s.size≤140737488355328) (a:Int) (w:World) (hp:0<s.size) (n:Nat) (hsm:z1p s[0]=false) (hgr:z1d s[0]=true) (hn:runN signB s.data.toList=n) (hN:varL (s.data.toList.take n)=false) :
 Calls Tryz.prog 97 #[.string s,.int .i64 a] w fun e w'=>NextR s a (none) e∧Below w.heap.size w w':=by
 have HS:=z00.mk (fun W=>z1j.calls (s[0].toNat:Int) (z1p s[0]) W (z1a s[0]));rw[hsm]at HS;have HG:=z00.mk (fun W=>z1m.calls (s[0].toNat:Int) (z1d s[0]) W (z1e s[0]));rw[hgr]at HG;have HR:=z00.mk (fun W=>z4s s hs W);have hle:n≤s.size:=by have:=z3c signB s.data.toList;rwa [z0n,hn]at this
 rw[hn]at HR;have hv2:=fun W=>z3r.calls (s.extract 0 n) _ W (by unfold z3r.f;rw[if_pos zA0l])
 rw[z3g,List.drop_zero,hN]at hv2;have HN:=z00.mk hv2;clear hv2 hN hsm hgr hs hn;go_enter Tryz.func97,Tryz.ntmps97
 go_wp2_with (first|(go_at_call 123;refine(HS.out _).mono ?_;rintro e w' ⟨rfl,⟨nd1,rfl⟩⟩)|(go_at_call 126;refine(HG.out _).mono ?_;rintro e w' ⟨rfl,⟨nd2,rfl⟩⟩)|(go_at_call 124;refine(HR.out _).mono ?_;rintro e w' ⟨rfl,⟨nd4,rfl⟩⟩)|(go_at_call 107;refine(HN.out _).mono ?_;rintro e w' ⟨rfl,⟨nd5,rfl⟩⟩))
 exact⟨rfl,rfl,z1l w _ _⟩
set_option maxHeartbeats 1600000 in
set_option maxRecDepth 100000 in
theorem zbq (s:ByteArray) (hs:s.size≤140737488355328) (a:Int) (w:World) (hp:0<s.size) (n:Nat) (hLW:LaidW w) (hsm:z1p s[0]=false) (hgr:z1d s[0]=false) (h35:s[0]=35) (hn:1+runN signB (s.data.toList.drop 1)=n) (hR:(readR (s.extract 0 n)).2.2.2=0) :
 Calls Tryz.prog 97 #[.string s,.int .i64 a] w fun e w'=>NextR s a (some (3,n)) e∧Below w.heap.size w w':=by
 have HS:=z00.mk (fun W=>z1j.calls (s[0].toNat:Int) (z1p s[0]) W (z1a s[0]));rw[hsm]at HS;have HG:=z00.mk (fun W=>z1m.calls (s[0].toNat:Int) (z1d s[0]) W (z1e s[0]));rw[hgr]at HG;have hr2:=fun W=>z4s (s.extract 1 s.size) zA0l W
 rw[z3h]at hr2;have hle:n≤s.size:=by have:=z3c signB (s.data.toList.drop 1);rw[List.length_drop,z0n]at this;omega
 generalize runN signB (s.data.toList.drop 1)=m at hn hr2
 have hw:wrap64 (1+(m:Int))=(n:Int):=by unfold wrap64;omega
 have HR:=z00.mk hr2;have HLW:=z00.mk hLW;obtain⟨q1,q2,q3,q4,hq⟩:∃q1 q2 q3 q4,readR (s.extract 0 n)=(q1,q2,q3,q4):=⟨_,_,_,_,rfl⟩
 rw[hq]at hR;have HRD:z00 (z1r.f (s.extract 0 n)=some (q1,q2,q3,q4)):=⟨zA14⟩
 have e35:((s[0].toNat:Int)==35)=true:=by rw[h35];rfl
 have eq4:(q4==0)=true:=beq_iff_eq.2 hR;clear hR hq hn hr2 hLW hsm hgr hs h35;go_enter Tryz.func97,Tryz.ntmps97
 go_wp2_with (first|(go_at_call 123;refine(HS.out _).mono ?_;rintro e w' ⟨rfl,⟨nd1,rfl⟩⟩)|(go_at_call 126;refine(HG.out _).mono ?_;rintro e w' ⟨rfl,⟨nd2,rfl⟩⟩)|(go_at_call 124;refine(HR.out _).mono ?_;rintro e w' ⟨rfl,⟨nd4,rfl⟩⟩))
 refine(z1r.calls _ _ _ _ _ _ zA1a HRD.out).mono ?_;rintro e w1 ⟨rfl,hb1⟩;have HB:=z00.mk (z0g (z1l w _ _) hb1);have HK:=z00.mk (z0h (z2i w _ _) hb1);have hz:w.heap.size<w1.heap.size:=z1u HK.out;clear hb1;have hf0:=z03 HK.out 0;have hf1:=z03 HK.out 1;have hf2:=z03 HK.out 2;have hc0:w1.cell? ⟨w.heap.size,0,none⟩=some (.int .i64 0):=(z01 HK.out 0).trans rfl;have hc1:w1.cell? ⟨w.heap.size,1,none⟩=some (.string ⟨#[]⟩):=(z01 HK.out 1).trans rfl;have hc2:w1.cell? ⟨w.heap.size,2,none⟩=some (.int .i64 0):=(z01 HK.out 2).trans rfl;go_wp2;exact z95 HK.out HB.out 3 _ a rfl _
set_option maxHeartbeats 1600000 in
set_option maxRecDepth 100000 in
theorem zbt (s:ByteArray) (hs:s.size≤140737488355328) (a:Int) (w:World) (hp:0<s.size) (n:Nat) (hLW:LaidW w) (hsm:z1p s[0]=false) (hgr:z1d s[0]=false) (h35:s[0]=35) (hn:1+runN signB (s.data.toList.drop 1)=n) (hR:(readR (s.extract 0 n)).2.2.2≠0) :
 Calls Tryz.prog 97 #[.string s,.int .i64 a] w fun e w'=>NextR s a (none) e∧Below w.heap.size w w':=by
 have HS:=z00.mk (fun W=>z1j.calls (s[0].toNat:Int) (z1p s[0]) W (z1a s[0]));rw[hsm]at HS;have HG:=z00.mk (fun W=>z1m.calls (s[0].toNat:Int) (z1d s[0]) W (z1e s[0]));rw[hgr]at HG;have hr2:=fun W=>z4s (s.extract 1 s.size) zA0l W
 rw[z3h]at hr2;have hle:n≤s.size:=by have:=z3c signB (s.data.toList.drop 1);rw[List.length_drop,z0n]at this;omega
 generalize runN signB (s.data.toList.drop 1)=m at hn hr2
 have hw:wrap64 (1+(m:Int))=(n:Int):=by unfold wrap64;omega
 have HR:=z00.mk hr2;have HLW:=z00.mk hLW;obtain⟨q1,q2,q3,q4,hq⟩:∃q1 q2 q3 q4,readR (s.extract 0 n)=(q1,q2,q3,q4):=⟨_,_,_,_,rfl⟩
 rw[hq]at hR;have HRD:z00 (z1r.f (s.extract 0 n)=some (q1,q2,q3,q4)):=⟨zA14⟩
 have e35:((s[0].toNat:Int)==35)=true:=by rw[h35];rfl
 have eq4:(q4==0)=false:=beq_eq_false_iff_ne.2 hR;clear hR hq hn hr2 hLW hsm hgr hs h35;go_enter Tryz.func97,Tryz.ntmps97
 go_wp2_with (first|(go_at_call 123;refine(HS.out _).mono ?_;rintro e w' ⟨rfl,⟨nd1,rfl⟩⟩)|(go_at_call 126;refine(HG.out _).mono ?_;rintro e w' ⟨rfl,⟨nd2,rfl⟩⟩)|(go_at_call 124;refine(HR.out _).mono ?_;rintro e w' ⟨rfl,⟨nd4,rfl⟩⟩))
 refine(z1r.calls _ _ _ _ _ _ zA1a HRD.out).mono ?_;rintro e w1 ⟨rfl,hb1⟩;have HB:=z00.mk (z0g (z1l w _ _) hb1);have HK:=z00.mk (z0h (z2i w _ _) hb1);have hz:w.heap.size<w1.heap.size:=z1u HK.out;clear hb1;have hf0:=z03 HK.out 0;have hf1:=z03 HK.out 1;have hf2:=z03 HK.out 2;have hc0:w1.cell? ⟨w.heap.size,0,none⟩=some (.int .i64 0):=(z01 HK.out 0).trans rfl;have hc1:w1.cell? ⟨w.heap.size,1,none⟩=some (.string ⟨#[]⟩):=(z01 HK.out 1).trans rfl;have hc2:w1.cell? ⟨w.heap.size,2,none⟩=some (.int .i64 0):=(z01 HK.out 2).trans rfl;go_wp2;exact⟨rfl,rfl,z04 HB.out _⟩
set_option maxHeartbeats 1600000 in
set_option maxRecDepth 100000 in
theorem zan (s:ByteArray) (hs:s.size≤140737488355328) (a:Int) (w:World) (hp:0<s.size) (n:Nat) (hLW:LaidW w) (hsm:z1p s[0]=false) (hgr:z1d s[0]=false) (h35:s[0]≠35) (hdg:z1i s[0]=true) (hn:1+runN signB (s.data.toList.drop 1)=n) (hR:(readR (s.extract 0 n)).2.2.2=0) :
 Calls Tryz.prog 97 #[.string s,.int .i64 a] w fun e w'=>NextR s a (some (3,n)) e∧Below w.heap.size w w':=by
 have HS:=z00.mk (fun W=>z1j.calls (s[0].toNat:Int) (z1p s[0]) W (z1a s[0]));rw[hsm]at HS;have HG:=z00.mk (fun W=>z1m.calls (s[0].toNat:Int) (z1d s[0]) W (z1e s[0]));rw[hgr]at HG;have hr2:=fun W=>z4s (s.extract 1 s.size) zA0l W
 rw[z3h]at hr2;have hle:n≤s.size:=by have:=z3c signB (s.data.toList.drop 1);rw[List.length_drop,z0n]at this;omega
 generalize runN signB (s.data.toList.drop 1)=m at hn hr2
 have hw:wrap64 (1+(m:Int))=(n:Int):=by unfold wrap64;omega
 have HR:=z00.mk hr2;have HLW:=z00.mk hLW;obtain⟨q1,q2,q3,q4,hq⟩:∃q1 q2 q3 q4,readR (s.extract 0 n)=(q1,q2,q3,q4):=⟨_,_,_,_,rfl⟩
 rw[hq]at hR;have HRD:z00 (z1r.f (s.extract 0 n)=some (q1,q2,q3,q4)):=⟨zA14⟩
 have HD:=z00.mk (fun W=>z1f.calls (s[0].toNat:Int) (z1i s[0]) W (z18 s[0]));rw[hdg]at HD;have e35:((s[0].toNat:Int)==35)=false:=by rw[show((s[0].toNat:Int)==35)=(s[0]==35)from z1x s[0] 35 (by omega)];exact beq_eq_false_iff_ne.2 h35
 have eq4:(q4==0)=true:=beq_iff_eq.2 hR;clear hR hq hn hr2 hLW hsm hgr hs h35 hdg;go_enter Tryz.func97,Tryz.ntmps97
 go_wp2_with (first|(go_at_call 123;refine(HS.out _).mono ?_;rintro e w' ⟨rfl,⟨nd1,rfl⟩⟩)|(go_at_call 126;refine(HG.out _).mono ?_;rintro e w' ⟨rfl,⟨nd2,rfl⟩⟩)|(go_at_call 128;refine(HD.out _).mono ?_;rintro e w' ⟨rfl,⟨nd3,rfl⟩⟩)|(go_at_call 124;refine(HR.out _).mono ?_;rintro e w' ⟨rfl,⟨nd4,rfl⟩⟩))
 refine(z1r.calls _ _ _ _ _ _ zA1a HRD.out).mono ?_;rintro e w1 ⟨rfl,hb1⟩;have HB:=z00.mk (z0g (z1l w _ _) hb1);have HK:=z00.mk (z0h (z2i w _ _) hb1);have hz:w.heap.size<w1.heap.size:=z1u HK.out;clear hb1;have hf0:=z03 HK.out 0;have hf1:=z03 HK.out 1;have hf2:=z03 HK.out 2;have hc0:w1.cell? ⟨w.heap.size,0,none⟩=some (.int .i64 0):=(z01 HK.out 0).trans rfl;have hc1:w1.cell? ⟨w.heap.size,1,none⟩=some (.string ⟨#[]⟩):=(z01 HK.out 1).trans rfl;have hc2:w1.cell? ⟨w.heap.size,2,none⟩=some (.int .i64 0):=(z01 HK.out 2).trans rfl;go_wp2;exact z95 HK.out HB.out 3 _ a rfl _
set_option maxHeartbeats 1600000 in
set_option maxRecDepth 100000 in
theorem zaf (s:ByteArray) (hs:s.size≤140737488355328) (a:Int) (w:World) (hp:0<s.size) (n:Nat) (hLW:LaidW w) (hsm:z1p s[0]=false) (hgr:z1d s[0]=false) (h35:s[0]≠35) (hdg:z1i s[0]=true) (hn:1+runN signB (s.data.toList.drop 1)=n) (hR:(readR (s.extract 0 n)).2.2.2≠0) :
 Calls Tryz.prog 97 #[.string s,.int .i64 a] w fun e w'=>NextR s a (none) e∧Below w.heap.size w w':=by
 have HS:=z00.mk (fun W=>z1j.calls (s[0].toNat:Int) (z1p s[0]) W (z1a s[0]));rw[hsm]at HS;have HG:=z00.mk (fun W=>z1m.calls (s[0].toNat:Int) (z1d s[0]) W (z1e s[0]));rw[hgr]at HG;have hr2:=fun W=>z4s (s.extract 1 s.size) zA0l W
 rw[z3h]at hr2;have hle:n≤s.size:=by have:=z3c signB (s.data.toList.drop 1);rw[List.length_drop,z0n]at this;omega
 generalize runN signB (s.data.toList.drop 1)=m at hn hr2
 have hw:wrap64 (1+(m:Int))=(n:Int):=by unfold wrap64;omega
 have HR:=z00.mk hr2;have HLW:=z00.mk hLW;obtain⟨q1,q2,q3,q4,hq⟩:∃q1 q2 q3 q4,readR (s.extract 0 n)=(q1,q2,q3,q4):=⟨_,_,_,_,rfl⟩
 rw[hq]at hR;have HRD:z00 (z1r.f (s.extract 0 n)=some (q1,q2,q3,q4)):=⟨zA14⟩
 have HD:=z00.mk (fun W=>z1f.calls (s[0].toNat:Int) (z1i s[0]) W (z18 s[0]));rw[hdg]at HD;have e35:((s[0].toNat:Int)==35)=false:=by rw[show((s[0].toNat:Int)==35)=(s[0]==35)from z1x s[0] 35 (by omega)];exact beq_eq_false_iff_ne.2 h35
 have eq4:(q4==0)=false:=beq_eq_false_iff_ne.2 hR;clear hR hq hn hr2 hLW hsm hgr hs h35 hdg;go_enter Tryz.func97,Tryz.ntmps97
 go_wp2_with (first|(go_at_call 123;refine(HS.out _).mono ?_;rintro e w' ⟨rfl,⟨nd1,rfl⟩⟩)|(go_at_call 126;refine(HG.out _).mono ?_;rintro e w' ⟨rfl,⟨nd2,rfl⟩⟩)|(go_at_call 128;refine(HD.out _).mono ?_;rintro e w' ⟨rfl,⟨nd3,rfl⟩⟩)|(go_at_call 124;refine(HR.out _).mono ?_;rintro e w' ⟨rfl,⟨nd4,rfl⟩⟩))
 refine(z1r.calls _ _ _ _ _ _ zA1a HRD.out).mono ?_;rintro e w1 ⟨rfl,hb1⟩;have HB:=z00.mk (z0g (z1l w _ _) hb1);have HK:=z00.mk (z0h (z2i w _ _) hb1);have hz:w.heap.size<w1.heap.size:=z1u HK.out;clear hb1;have hf0:=z03 HK.out 0;have hf1:=z03 HK.out 1;have hf2:=z03 HK.out 2;have hc0:w1.cell? ⟨w.heap.size,0,none⟩=some (.int .i64 0):=(z01 HK.out 0).trans rfl;have hc1:w1.cell? ⟨w.heap.size,1,none⟩=some (.string ⟨#[]⟩):=(z01 HK.out 1).trans rfl;have hc2:w1.cell? ⟨w.heap.size,2,none⟩=some (.int .i64 0):=(z01 HK.out 2).trans rfl;go_wp2;exact⟨rfl,rfl,z04 HB.out _⟩
set_option maxHeartbeats 1600000 in
set_option maxRecDepth 100000 in
theorem zaa (s:ByteArray) (hs:s.size≤140737488355328) (a:Int) (w:World) (hp:0<s.size) (n:Nat) (hLW:LaidW w) (hsm:z1p s[0]=false) (hgr:z1d s[0]=false) (h45:s[0]=45) (h1:1<s.size) (hd1:z1i s[1]=true) (hn:1+runN signB (s.data.toList.drop 1)=n) (hR:(readR (s.extract 0 n)).2.2.2=0) :
 Calls Tryz.prog 97 #[.string s,.int .i64 a] w fun e w'=>NextR s a (some (3,n)) e∧Below w.heap.size w w':=by
 have HS:=z00.mk (fun W=>z1j.calls (s[0].toNat:Int) (z1p s[0]) W (z1a s[0]));rw[hsm]at HS;have HG:=z00.mk (fun W=>z1m.calls (s[0].toNat:Int) (z1d s[0]) W (z1e s[0]));rw[hgr]at HG;have hr2:=fun W=>z4s (s.extract 1 s.size) zA0l W
 rw[z3h]at hr2;have hle:n≤s.size:=by have:=z3c signB (s.data.toList.drop 1);rw[List.length_drop,z0n]at this;omega
 generalize runN signB (s.data.toList.drop 1)=m at hn hr2
 have hw:wrap64 (1+(m:Int))=(n:Int):=by unfold wrap64;omega
 have HR:=z00.mk hr2;have HLW:=z00.mk hLW;obtain⟨q1,q2,q3,q4,hq⟩:∃q1 q2 q3 q4,readR (s.extract 0 n)=(q1,q2,q3,q4):=⟨_,_,_,_,rfl⟩
 rw[hq]at hR;have HRD:z00 (z1r.f (s.extract 0 n)=some (q1,q2,q3,q4)):=⟨zA14⟩
 have HD:=z00.mk (fun W=>z1f.calls (s[0].toNat:Int) (z1i s[0]) W (z18 s[0]));rw[show z1i s[0]=false by rw[h45];rfl]at HD;have HD1:=z00.mk (fun W=>z1f.calls (s[1].toNat:Int) (z1i s[1]) W (z18 s[1]));rw[hd1]at HD1;have e35:((s[0].toNat:Int)==35)=false:=by rw[h45];rfl
 have e45:((s[0].toNat:Int)==45)=true:=by rw[h45];rfl
 have el:decide ((1:Int)<(s.size:Int))=true:=decide_eq_true (by omega);have eq4:(q4==0)=true:=beq_iff_eq.2 hR;clear hR hq hn hr2 hLW hsm hgr hs h45 hd1;go_enter Tryz.func97,Tryz.ntmps97
 go_wp2_with (first|(go_at_call 123;refine(HS.out _).mono ?_;rintro e w' ⟨rfl,⟨nd1,rfl⟩⟩)|(go_at_call 126;refine(HG.out _).mono ?_;rintro e w' ⟨rfl,⟨nd2,rfl⟩⟩)|(go_at_call 128;(with_reducible refine(HD.out _).mono ?_);rintro e w' ⟨rfl,⟨nd3,rfl⟩⟩)|(go_at_call 128;(with_reducible refine(HD1.out _).mono ?_);rintro e w' ⟨rfl,⟨nd7,rfl⟩⟩)|(go_at_call 124;refine(HR.out _).mono ?_;rintro e w' ⟨rfl,⟨nd4,rfl⟩⟩))
 refine(z1r.calls _ _ _ _ _ _ zA1a HRD.out).mono ?_;rintro e w1 ⟨rfl,hb1⟩;have HB:=z00.mk (z0g (z1l w _ _) hb1);have HK:=z00.mk (z0h (z2i w _ _) hb1);have hz:w.heap.size<w1.heap.size:=z1u HK.out;clear hb1;have hf0:=z03 HK.out 0;have hf1:=z03 HK.out 1;have hf2:=z03 HK.out 2;have hc0:w1.cell? ⟨w.heap.size,0,none⟩=some (.int .i64 0):=(z01 HK.out 0).trans rfl;have hc1:w1.cell? ⟨w.heap.size,1,none⟩=some (.string ⟨#[]⟩):=(z01 HK.out 1).trans rfl;have hc2:w1.cell? ⟨w.heap.size,2,none⟩=some (.int .i64 0):=(z01 HK.out 2).trans rfl;go_wp2;exact z95 HK.out HB.out 3 _ a rfl _
set_option maxHeartbeats 1600000 in
set_option maxRecDepth 100000 in
theorem za7 (s:ByteArray) (hs:s.size≤140737488355328) (a:Int) (w:World) (hp:0<s.size) (n:Nat) (hLW:LaidW w) (hsm:z1p s[0]=false) (hgr:z1d s[0]=false) (h45:s[0]=45) (h1:1<s.size) (hd1:z1i s[1]=true) (hn:1+runN signB (s.data.toList.drop 1)=n) (hR:(readR (s.extract 0 n)).2.2.2≠0) :
 Calls Tryz.prog 97 #[.string s,.int .i64 a] w fun e w'=>NextR s a (none) e∧Below w.heap.size w w':=by
 have HS:=z00.mk (fun W=>z1j.calls (s[0].toNat:Int) (z1p s[0]) W (z1a s[0]));rw[hsm]at HS;have HG:=z00.mk (fun W=>z1m.calls (s[0].toNat:Int) (z1d s[0]) W (z1e s[0]));rw[hgr]at HG;have hr2:=fun W=>z4s (s.extract 1 s.size) zA0l W
 rw[z3h]at hr2;have hle:n≤s.size:=by have:=z3c signB (s.data.toList.drop 1);rw[List.length_drop,z0n]at this;omega
 generalize runN signB (s.data.toList.drop 1)=m at hn hr2
 have hw:wrap64 (1+(m:Int))=(n:Int):=by unfold wrap64;omega
 have HR:=z00.mk hr2;have HLW:=z00.mk hLW;obtain⟨q1,q2,q3,q4,hq⟩:∃q1 q2 q3 q4,readR (s.extract 0 n)=(q1,q2,q3,q4):=⟨_,_,_,_,rfl⟩
 rw[hq]at hR;have HRD:z00 (z1r.f (s.extract 0 n)=some (q1,q2,q3,q4)):=⟨zA14⟩
 have HD:=z00.mk (fun W=>z1f.calls (s[0].toNat:Int) (z1i s[0]) W (z18 s[0]));rw[show z1i s[0]=false by rw[h45];rfl]at HD;have HD1:=z00.mk (fun W=>z1f.calls (s[1].toNat:Int) (z1i s[1]) W (z18 s[1]));rw[hd1]at HD1;have e35:((s[0].toNat:Int)==35)=false:=by rw[h45];rfl
 have e45:((s[0].toNat:Int)==45)=true:=by rw[h45];rfl
 have el:decide ((1:Int)<(s.size:Int))=true:=decide_eq_true (by omega);have eq4:(q4==0)=false:=beq_eq_false_iff_ne.2 hR;clear hR hq hn hr2 hLW hsm hgr hs h45 hd1;go_enter Tryz.func97,Tryz.ntmps97
 go_wp2_with (first|(go_at_call 123;refine(HS.out _).mono ?_;rintro e w' ⟨rfl,⟨nd1,rfl⟩⟩)|(go_at_call 126;refine(HG.out _).mono ?_;rintro e w' ⟨rfl,⟨nd2,rfl⟩⟩)|(go_at_call 128;(with_reducible refine(HD.out _).mono ?_);rintro e w' ⟨rfl,⟨nd3,rfl⟩⟩)|(go_at_call 128;(with_reducible refine(HD1.out _).mono ?_);rintro e w' ⟨rfl,⟨nd7,rfl⟩⟩)|(go_at_call 124;refine(HR.out _).mono ?_;rintro e w' ⟨rfl,⟨nd4,rfl⟩⟩))
 refine(z1r.calls _ _ _ _ _ _ zA1a HRD.out).mono ?_;rintro e w1 ⟨rfl,hb1⟩;have HB:=z00.mk (z0g (z1l w _ _) hb1);have HK:=z00.mk (z0h (z2i w _ _) hb1);have hz:w.heap.size<w1.heap.size:=z1u HK.out;clear hb1;have hf0:=z03 HK.out 0;have hf1:=z03 HK.out 1;have hf2:=z03 HK.out 2;have hc0:w1.cell? ⟨w.heap.size,0,none⟩=some (.int .i64 0):=(z01 HK.out 0).trans rfl;have hc1:w1.cell? ⟨w.heap.size,1,none⟩=some (.string ⟨#[]⟩):=(z01 HK.out 1).trans rfl;have hc2:w1.cell? ⟨w.heap.size,2,none⟩=some (.int .i64 0):=(z01 HK.out 2).trans rfl;go_wp2;exact⟨rfl,rfl,z04 HB.out _⟩
set_option maxHeartbeats 1600000 in
set_option maxRecDepth 100000 in
theorem zc3 (s:ByteArray) (hs:s.size≤140737488355328) (a:Int) (w:World) (hp:0<s.size) (hsm:z1p s[0]=false) (hgr:z1d s[0]=false) (h35:s[0]≠35) (hdg:z1i s[0]=false) (h45:s[0]≠45) (p0:(s.data.toList.take 2==[60,61])=true) :
 Calls Tryz.prog 97 #[.string s,.int .i64 a] w fun e w'=>NextR s a (some (4,2)) e∧Below w.heap.size w w':=by
 have HS:=z00.mk (fun W=>z1j.calls (s[0].toNat:Int) (z1p s[0]) W (z1a s[0]));rw[hsm]at HS;have HG:=z00.mk (fun W=>z1m.calls (s[0].toNat:Int) (z1d s[0]) W (z1e s[0]));rw[hgr]at HG;have HD:=z00.mk (fun W=>z1f.calls (s[0].toNat:Int) (z1i s[0]) W (z18 s[0]));rw[hdg]at HD;have e35:((s[0].toNat:Int)==35)=false:=by rw[show((s[0].toNat:Int)==35)=(s[0]==35)from z1x s[0] 35 (by omega)];exact beq_eq_false_iff_ne.2 h35
 have e45:((s[0].toNat:Int)==45)=false:=by rw[show((s[0].toNat:Int)==45)=(s[0]==45)from z1x s[0] 45 (by omega)];exact beq_eq_false_iff_ne.2 h45
 have HP0:=z00.mk (fun W=>z0e.calls s ⟨#[60,61]⟩ _ W (z0x s _ _ p0));have h2:(2:Nat)≤s.size:=z5e (beq_iff_eq.1 p0) rfl;clear hsm hgr hs h35 hdg h45 p0;go_enter Tryz.func97,Tryz.ntmps97
 go_wp2_with (first|(go_at_call 123;refine(HS.out _).mono ?_;rintro e w' ⟨rfl,⟨nd1,rfl⟩⟩)|(go_at_call 126;refine(HG.out _).mono ?_;rintro e w' ⟨rfl,⟨nd2,rfl⟩⟩)|(go_at_call 128;refine(HD.out _).mono ?_;rintro e w' ⟨rfl,⟨nd3,rfl⟩⟩)|(go_at_call 130;(with_reducible refine(HP0.out _).mono ?_);rintro e w' ⟨rfl,⟨np0,rfl⟩⟩))
 exact z3w (z2i w _ _) (z1l w _ _) 4 _ a (by rfl)
set_option maxHeartbeats 1600000 in
set_option maxRecDepth 100000 in
theorem zbs (s:ByteArray) (hs:s.size≤140737488355328) (a:Int) (w:World) (hp:0<s.size) (hsm:z1p s[0]=false) (hgr:z1d s[0]=false) (h35:s[0]≠35) (hdg:z1i s[0]=false) (h45:s[0]≠45) (p0:(s.data.toList.take 2==[60,61])=false) (p1:(s.data.toList.take 2==[33,61])=true) :
 Calls Tryz.prog 97 #[.string s,.int .i64 a] w fun e w'=>NextR s a (some (4,2)) e∧Below w.heap.size w w':=by
 have HS:=z00.mk (fun W=>z1j.calls (s[0].toNat:Int) (z1p s[0]) W (z1a s[0]));rw[hsm]at HS;have HG:=z00.mk (fun W=>z1m.calls (s[0].toNat:Int) (z1d s[0]) W (z1e s[0]));rw[hgr]at HG;have HD:=z00.mk (fun W=>z1f.calls (s[0].toNat:Int) (z1i s[0]) W (z18 s[0]));rw[hdg]at HD;have e35:((s[0].toNat:Int)==35)=false:=by rw[show((s[0].toNat:Int)==35)=(s[0]==35)from z1x s[0] 35 (by omega)];exact beq_eq_false_iff_ne.2 h35
 have e45:((s[0].toNat:Int)==45)=false:=by rw[show((s[0].toNat:Int)==45)=(s[0]==45)from z1x s[0] 45 (by omega)];exact beq_eq_false_iff_ne.2 h45
 have HP0:=z00.mk (fun W=>z0e.calls s ⟨#[60,61]⟩ _ W (z0x s _ _ p0));have HP1:=z00.mk (fun W=>z0e.calls s ⟨#[33,61]⟩ _ W (z0x s _ _ p1));have h2:(2:Nat)≤s.size:=z5e (beq_iff_eq.1 p1) rfl;clear hsm hgr hs h35 hdg h45 p0 p1;go_enter Tryz.func97,Tryz.ntmps97
 go_wp2_with (first|(go_at_call 123;refine(HS.out _).mono ?_;rintro e w' ⟨rfl,⟨nd1,rfl⟩⟩)|(go_at_call 126;refine(HG.out _).mono ?_;rintro e w' ⟨rfl,⟨nd2,rfl⟩⟩)|(go_at_call 128;refine(HD.out _).mono ?_;rintro e w' ⟨rfl,⟨nd3,rfl⟩⟩)|(go_at_call 130;(with_reducible refine(HP0.out _).mono ?_);rintro e w' ⟨rfl,⟨np0,rfl⟩⟩)|(go_at_call 130;(with_reducible refine(HP1.out _).mono ?_);rintro e w' ⟨rfl,⟨np1,rfl⟩⟩))
 exact z3w (z2i w _ _) (z1l w _ _) 4 _ a (by rfl)
set_option maxHeartbeats 1600000 in
set_option maxRecDepth 100000 in
theorem zcg (s:ByteArray) (hs:s.size≤140737488355328) (a:Int) (w:World) (hp:0<s.size) (hsm:z1p s[0]=false) (hgr:z1d s[0]=false) (h35:s[0]≠35) (hdg:z1i s[0]=false) (h45:s[0]≠45) (p0:(s.data.toList.take 2==[60,61])=false) (p1:(s.data.toList.take 2==[33,61])=false) (p2:(s.data.toList.take 2==[58,45])=true) :
 Calls Tryz.prog 97 #[.string s,.int .i64 a] w fun e w'=>NextR s a (some (4,2)) e∧Below w.heap.size w w':=by
 have HS:=z00.mk (fun W=>z1j.calls (s[0].toNat:Int) (z1p s[0]) W (z1a s[0]));rw[hsm]at HS;have HG:=z00.mk (fun W=>z1m.calls (s[0].toNat:Int) (z1d s[0]) W (z1e s[0]));rw[hgr]at HG;have HD:=z00.mk (fun W=>z1f.calls (s[0].toNat:Int) (z1i s[0]) W (z18 s[0]));rw[hdg]at HD;have e35:((s[0].toNat:Int)==35)=false:=by rw[show((s[0].toNat:Int)==35)=(s[0]==35)from z1x s[0] 35 (by omega)];exact beq_eq_false_iff_ne.2 h35
 have e45:((s[0].toNat:Int)==45)=false:=by rw[show((s[0].toNat:Int)==45)=(s[0]==45)from z1x s[0] 45 (by omega)];exact beq_eq_false_iff_ne.2 h45
 have HP0:=z00.mk (fun W=>z0e.calls s ⟨#[60,61]⟩ _ W (z0x s _ _ p0));have HP1:=z00.mk (fun W=>z0e.calls s ⟨#[33,61]⟩ _ W (z0x s _ _ p1));have HP2:=z00.mk (fun W=>z0e.calls s ⟨#[58,45]⟩ _ W (z0x s _ _ p2));have h2:(2:Nat)≤s.size:=z5e (beq_iff_eq.1 p2) rfl;clear hsm hgr hs h35 hdg h45 p0 p1 p2;go_enter Tryz.func97,Tryz.ntmps97
 go_wp2_with (first|(go_at_call 123;refine(HS.out _).mono ?_;rintro e w' ⟨rfl,⟨nd1,rfl⟩⟩)|(go_at_call 126;refine(HG.out _).mono ?_;rintro e w' ⟨rfl,⟨nd2,rfl⟩⟩)|(go_at_call 128;refine(HD.out _).mono ?_;rintro e w' ⟨rfl,⟨nd3,rfl⟩⟩)|(go_at_call 130;(with_reducible refine(HP0.out _).mono ?_);rintro e w' ⟨rfl,⟨np0,rfl⟩⟩)|(go_at_call 130;(with_reducible refine(HP1.out _).mono ?_);rintro e w' ⟨rfl,⟨np1,rfl⟩⟩)|(go_at_call 130;(with_reducible refine(HP2.out _).mono ?_);rintro e w' ⟨rfl,⟨np2,rfl⟩⟩))
 exact z3w (z2i w _ _) (z1l w _ _) 4 _ a (by rfl)
set_option maxHeartbeats 1600000 in
set_option maxRecDepth 100000 in
theorem zck (s:ByteArray) (hs:s.size≤140737488355328) (a:Int) (w:World) (hp:0<s.size) (hsm:z1p s[0]=false) (hgr:z1d s[0]=false) (h35:s[0]≠35) (hdg:z1i s[0]=false) (h45:s[0]≠45) (p0:(s.data.toList.take 2==[60,61])=false) (p1:(s.data.toList.take 2==[33,61])=false) (p2:(s.data.toList.take 2==[58,45])=false) (p3:(s.data.toList.take 2==[63,45])=true) :
 Calls Tryz.prog 97 #[.string s,.int .i64 a] w fun e w'=>NextR s a (some (4,2)) e∧Below w.heap.size w w':=by
 have HS:=z00.mk (fun W=>z1j.calls (s[0].toNat:Int) (z1p s[0]) W (z1a s[0]));rw[hsm]at HS;have HG:=z00.mk (fun W=>z1m.calls (s[0].toNat:Int) (z1d s[0]) W (z1e s[0]));rw[hgr]at HG;have HD:=z00.mk (fun W=>z1f.calls (s[0].toNat:Int) (z1i s[0]) W (z18 s[0]));rw[hdg]at HD;have e35:((s[0].toNat:Int)==35)=false:=by rw[show((s[0].toNat:Int)==35)=(s[0]==35)from z1x s[0] 35 (by omega)];exact beq_eq_false_iff_ne.2 h35
 have e45:((s[0].toNat:Int)==45)=false:=by rw[show((s[0].toNat:Int)==45)=(s[0]==45)from z1x s[0] 45 (by omega)];exact beq_eq_false_iff_ne.2 h45
 have HP0:=z00.mk (fun W=>z0e.calls s ⟨#[60,61]⟩ _ W (z0x s _ _ p0));have HP1:=z00.mk (fun W=>z0e.calls s ⟨#[33,61]⟩ _ W (z0x s _ _ p1));have HP2:=z00.mk (fun W=>z0e.calls s ⟨#[58,45]⟩ _ W (z0x s _ _ p2));have HP3:=z00.mk (fun W=>z0e.calls s ⟨#[63,45]⟩ _ W (z0x s _ _ p3));have h2:(2:Nat)≤s.size:=z5e (beq_iff_eq.1 p3) rfl;clear hsm hgr hs h35 hdg h45 p0 p1 p2 p3;go_enter Tryz.func97,Tryz.ntmps97
 go_wp2_with (first|(go_at_call 123;refine(HS.out _).mono ?_;rintro e w' ⟨rfl,⟨nd1,rfl⟩⟩)|(go_at_call 126;refine(HG.out _).mono ?_;rintro e w' ⟨rfl,⟨nd2,rfl⟩⟩)|(go_at_call 128;refine(HD.out _).mono ?_;rintro e w' ⟨rfl,⟨nd3,rfl⟩⟩)|(go_at_call 130;(with_reducible refine(HP0.out _).mono ?_);rintro e w' ⟨rfl,⟨np0,rfl⟩⟩)|(go_at_call 130;(with_reducible refine(HP1.out _).mono ?_);rintro e w' ⟨rfl,⟨np1,rfl⟩⟩)|(go_at_call 130;(with_reducible refine(HP2.out _).mono ?_);rintro e w' ⟨rfl,⟨np2,rfl⟩⟩)|(go_at_call 130;(with_reducible refine(HP3.out _).mono ?_);rintro e w' ⟨rfl,⟨np3,rfl⟩⟩))
 exact z3w (z2i w _ _) (z1l w _ _) 4 _ a (by rfl)
set_option maxHeartbeats 1600000 in
set_option maxRecDepth 100000 in
theorem zbl (s:ByteArray) (hs:s.size≤140737488355328) (a:Int) (w:World) (hp:0<s.size) (hsm:z1p s[0]=false) (hgr:z1d s[0]=false) (h35:s[0]≠35) (hdg:z1i s[0]=false) (h45:s[0]≠45) (p0:(s.data.toList.take 2==[60,61])=false) (p1:(s.data.toList.take 2==[33,61])=false) (p2:(s.data.toList.take 2==[58,45])=false) (p3:(s.data.toList.take 2==[63,45])=false) (hone:oneB s[0]=true) :
 Calls Tryz.prog 97 #[.string s,.int .i64 a] w fun e w'=>NextR s a (some (4,1)) e∧Below w.heap.size w w':=by
 have HS:=z00.mk (fun W=>z1j.calls (s[0].toNat:Int) (z1p s[0]) W (z1a s[0]));rw[hsm]at HS;have HG:=z00.mk (fun W=>z1m.calls (s[0].toNat:Int) (z1d s[0]) W (z1e s[0]));rw[hgr]at HG;have HD:=z00.mk (fun W=>z1f.calls (s[0].toNat:Int) (z1i s[0]) W (z18 s[0]));rw[hdg]at HD;have e35:((s[0].toNat:Int)==35)=false:=by rw[show((s[0].toNat:Int)==35)=(s[0]==35)from z1x s[0] 35 (by omega)];exact beq_eq_false_iff_ne.2 h35
 have e45:((s[0].toNat:Int)==45)=false:=by rw[show((s[0].toNat:Int)==45)=(s[0]==45)from z1x s[0] 45 (by omega)];exact beq_eq_false_iff_ne.2 h45
 have HP0:=z00.mk (fun W=>z0e.calls s ⟨#[60,61]⟩ _ W (z0x s _ _ p0));have HP1:=z00.mk (fun W=>z0e.calls s ⟨#[33,61]⟩ _ W (z0x s _ _ p1));have HP2:=z00.mk (fun W=>z0e.calls s ⟨#[58,45]⟩ _ W (z0x s _ _ p2));have HP3:=z00.mk (fun W=>z0e.calls s ⟨#[63,45]⟩ _ W (z0x s _ _ p3));have HI:=z00.mk (fun W=>Tryz.strings_IndexByte ⟨#[40,41,44,46,60,61,47,124,42,43,63,94]⟩ (s[0].toNat:Int) W);have ei:decide ((0:Int)≤Lib.indexByte (⟨#[40,41,44,46,60,61,47,124,42,43,63,94]⟩:ByteArray).data.toList ((s[0].toNat:Int)).toNat.toUInt8)=true:=(z5k s[0]).trans hone
 generalize Lib.indexByte (⟨#[40,41,44,46,60,61,47,124,42,43,63,94]⟩:ByteArray).data.toList ((s[0].toNat:Int)).toNat.toUInt8=ix at HI ei
 clear hsm hgr hs h35 hdg h45 p0 p1 p2 p3 hone;go_enter Tryz.func97,Tryz.ntmps97
 go_wp2_with (first|(go_at_call 123;refine(HS.out _).mono ?_;rintro e w' ⟨rfl,⟨nd1,rfl⟩⟩)|(go_at_call 126;refine(HG.out _).mono ?_;rintro e w' ⟨rfl,⟨nd2,rfl⟩⟩)|(go_at_call 128;refine(HD.out _).mono ?_;rintro e w' ⟨rfl,⟨nd3,rfl⟩⟩)|(go_at_call 130;(with_reducible refine(HP0.out _).mono ?_);rintro e w' ⟨rfl,⟨np0,rfl⟩⟩)|(go_at_call 130;(with_reducible refine(HP1.out _).mono ?_);rintro e w' ⟨rfl,⟨np1,rfl⟩⟩)|(go_at_call 130;(with_reducible refine(HP2.out _).mono ?_);rintro e w' ⟨rfl,⟨np2,rfl⟩⟩)|(go_at_call 130;(with_reducible refine(HP3.out _).mono ?_);rintro e w' ⟨rfl,⟨np3,rfl⟩⟩)|(go_at_call 96;refine(HI.out _).mono ?_;rintro e w' ⟨rfl,rfl⟩))
 exact z3w (z2i w _ _) (z1l w _ _) 4 _ a (by rfl)
set_option maxHeartbeats 1600000 in
set_option maxRecDepth 100000 in
theorem zbm (s:ByteArray) (hs:s.size≤140737488355328) (a:Int) (w:World) (hp:0<s.size) (hsm:z1p s[0]=false) (hgr:z1d s[0]=false) (h35:s[0]≠35) (hdg:z1i s[0]=false) (h45:s[0]≠45) (p0:(s.data.toList.take 2==[60,61])=false) (p1:(s.data.toList.take 2==[33,61])=false) (p2:(s.data.toList.take 2==[58,45])=false) (p3:(s.data.toList.take 2==[63,45])=false) (hone:oneB s[0]=false) :
 Calls Tryz.prog 97 #[.string s,.int .i64 a] w fun e w'=>NextR s a (none) e∧Below w.heap.size w w':=by
 have HS:=z00.mk (fun W=>z1j.calls (s[0].toNat:Int) (z1p s[0]) W (z1a s[0]));rw[hsm]at HS;have HG:=z00.mk (fun W=>z1m.calls (s[0].toNat:Int) (z1d s[0]) W (z1e s[0]));rw[hgr]at HG;have HD:=z00.mk (fun W=>z1f.calls (s[0].toNat:Int) (z1i s[0]) W (z18 s[0]));rw[hdg]at HD;have e35:((s[0].toNat:Int)==35)=false:=by rw[show((s[0].toNat:Int)==35)=(s[0]==35)from z1x s[0] 35 (by omega)];exact beq_eq_false_iff_ne.2 h35
 have e45:((s[0].toNat:Int)==45)=false:=by rw[show((s[0].toNat:Int)==45)=(s[0]==45)from z1x s[0] 45 (by omega)];exact beq_eq_false_iff_ne.2 h45
 have HP0:=z00.mk (fun W=>z0e.calls s ⟨#[60,61]⟩ _ W (z0x s _ _ p0));have HP1:=z00.mk (fun W=>z0e.calls s ⟨#[33,61]⟩ _ W (z0x s _ _ p1));have HP2:=z00.mk (fun W=>z0e.calls s ⟨#[58,45]⟩ _ W (z0x s _ _ p2));have HP3:=z00.mk (fun W=>z0e.calls s ⟨#[63,45]⟩ _ W (z0x s _ _ p3));have HI:=z00.mk (fun W=>Tryz.strings_IndexByte ⟨#[40,41,44,46,60,61,47,124,42,43,63,94]⟩ (s[0].toNat:Int) W);have ei:decide ((0:Int)≤Lib.indexByte (⟨#[40,41,44,46,60,61,47,124,42,43,63,94]⟩:ByteArray).data.toList ((s[0].toNat:Int)).toNat.toUInt8)=false:=(z5k s[0]).trans hone
 generalize Lib.indexByte (⟨#[40,41,44,46,60,61,47,124,42,43,63,94]⟩:ByteArray).data.toList ((s[0].toNat:Int)).toNat.toUInt8=ix at HI ei
 clear hsm hgr hs h35 hdg h45 p0 p1 p2 p3 hone;go_enter Tryz.func97,Tryz.ntmps97
 go_wp2_with (first|(go_at_call 123;refine(HS.out _).mono ?_;rintro e w' ⟨rfl,⟨nd1,rfl⟩⟩)|(go_at_call 126;refine(HG.out _).mono ?_;rintro e w' ⟨rfl,⟨nd2,rfl⟩⟩)|(go_at_call 128;refine(HD.out _).mono ?_;rintro e w' ⟨rfl,⟨nd3,rfl⟩⟩)|(go_at_call 130;(with_reducible refine(HP0.out _).mono ?_);rintro e w' ⟨rfl,⟨np0,rfl⟩⟩)|(go_at_call 130;(with_reducible refine(HP1.out _).mono ?_);rintro e w' ⟨rfl,⟨np1,rfl⟩⟩)|(go_at_call 130;(with_reducible refine(HP2.out _).mono ?_);rintro e w' ⟨rfl,⟨np2,rfl⟩⟩)|(go_at_call 130;(with_reducible refine(HP3.out _).mono ?_);rintro e w' ⟨rfl,⟨np3,rfl⟩⟩)|(go_at_call 96;refine(HI.out _).mono ?_;rintro e w' ⟨rfl,rfl⟩))
 exact⟨rfl,rfl,z1l w _ _⟩
set_option maxHeartbeats 1600000 in
set_option maxRecDepth 100000 in
theorem zc9 (s:ByteArray) (hs:s.size≤140737488355328) (a:Int) (w:World) (hp:0<s.size) (hsm:z1p s[0]=false) (hgr:z1d s[0]=false) (h35:s[0]≠35) (hdg:z1i s[0]=false) (h45:s[0]=45) (h1:s.size≤1) (p0:(s.data.toList.take 2==[60,61])=false) (p1:(s.data.toList.take 2==[33,61])=false) (p2:(s.data.toList.take 2==[58,45])=false) (p3:(s.data.toList.take 2==[63,45])=false) (hone:oneB s[0]=true) :
 Calls Tryz.prog 97 #[.string s,.int .i64 a] w fun e w'=>NextR s a (some (4,1)) e∧Below w.heap.size w w':=by
 have HS:=z00.mk (fun W=>z1j.calls (s[0].toNat:Int) (z1p s[0]) W (z1a s[0]));rw[hsm]at HS;have HG:=z00.mk (fun W=>z1m.calls (s[0].toNat:Int) (z1d s[0]) W (z1e s[0]));rw[hgr]at HG;have HD:=z00.mk (fun W=>z1f.calls (s[0].toNat:Int) (z1i s[0]) W (z18 s[0]));rw[hdg]at HD;have e35:((s[0].toNat:Int)==35)=false:=by rw[show((s[0].toNat:Int)==35)=(s[0]==35)from z1x s[0] 35 (by omega)];exact beq_eq_false_iff_ne.2 h35
 have e45:((s[0].toNat:Int)==45)=true:=by rw[h45];rfl
 have el:decide ((1:Int)<(s.size:Int))=false:=decide_eq_false (by omega);have HP0:=z00.mk (fun W=>z0e.calls s ⟨#[60,61]⟩ _ W (z0x s _ _ p0));have HP1:=z00.mk (fun W=>z0e.calls s ⟨#[33,61]⟩ _ W (z0x s _ _ p1));have HP2:=z00.mk (fun W=>z0e.calls s ⟨#[58,45]⟩ _ W (z0x s _ _ p2));have HP3:=z00.mk (fun W=>z0e.calls s ⟨#[63,45]⟩ _ W (z0x s _ _ p3));have HI:=z00.mk (fun W=>Tryz.strings_IndexByte ⟨#[40,41,44,46,60,61,47,124,42,43,63,94]⟩ (s[0].toNat:Int) W);have ei:decide ((0:Int)≤Lib.indexByte (⟨#[40,41,44,46,60,61,47,124,42,43,63,94]⟩:ByteArray).data.toList ((s[0].toNat:Int)).toNat.toUInt8)=true:=(z5k s[0]).trans hone
 generalize Lib.indexByte (⟨#[40,41,44,46,60,61,47,124,42,43,63,94]⟩:ByteArray).data.toList ((s[0].toNat:Int)).toNat.toUInt8=ix at HI ei
 clear hsm hgr hs h35 hdg h45 p0 p1 p2 p3 hone;go_enter Tryz.func97,Tryz.ntmps97
 go_wp2_with (first|(go_at_call 123;refine(HS.out _).mono ?_;rintro e w' ⟨rfl,⟨nd1,rfl⟩⟩)|(go_at_call 126;refine(HG.out _).mono ?_;rintro e w' ⟨rfl,⟨nd2,rfl⟩⟩)|(go_at_call 128;refine(HD.out _).mono ?_;rintro e w' ⟨rfl,⟨nd3,rfl⟩⟩)|(go_at_call 130;(with_reducible refine(HP0.out _).mono ?_);rintro e w' ⟨rfl,⟨np0,rfl⟩⟩)|(go_at_call 130;(with_reducible refine(HP1.out _).mono ?_);rintro e w' ⟨rfl,⟨np1,rfl⟩⟩)|(go_at_call 130;(with_reducible refine(HP2.out _).mono ?_);rintro e w' ⟨rfl,⟨np2,rfl⟩⟩)|(go_at_call 130;(with_reducible refine(HP3.out _).mono ?_);rintro e w' ⟨rfl,⟨np3,rfl⟩⟩)|(go_at_call 96;refine(HI.out _).mono ?_;rintro e w' ⟨rfl,rfl⟩))
 exact z3w (z2i w _ _) (z1l w _ _) 4 _ a (by rfl)
set_option maxHeartbeats 1600000 in
set_option maxRecDepth 100000 in
theorem zbh (s:ByteArray) (hs:s.size≤140737488355328) (a:Int) (w:World) (hp:0<s.size) (hsm:z1p s[0]=false) (hgr:z1d s[0]=false) (h35:s[0]≠35) (hdg:z1i s[0]=false) (h45:s[0]=45) (h1:s.size≤1) (p0:(s.data.toList.take 2==[60,61])=false) (p1:(s.data.toList.take 2==[33,61])=false) (p2:(s.data.toList.take 2==[58,45])=false) (p3:(s.data.toList.take 2==[63,45])=false) (hone:oneB s[0]=false) :
 Calls Tryz.prog 97 #[.string s,.int .i64 a] w fun e w'=>NextR s a (none) e∧Below w.heap.size w w':=by
 have HS:=z00.mk (fun W=>z1j.calls (s[0].toNat:Int) (z1p s[0]) W (z1a s[0]));rw[hsm]at HS;have HG:=z00.mk (fun W=>z1m.calls (s[0].toNat:Int) (z1d s[0]) W (z1e s[0]));rw[hgr]at HG;have HD:=z00.mk (fun W=>z1f.calls (s[0].toNat:Int) (z1i s[0]) W (z18 s[0]));rw[hdg]at HD;have e35:((s[0].toNat:Int)==35)=false:=by rw[show((s[0].toNat:Int)==35)=(s[0]==35)from z1x s[0] 35 (by omega)];exact beq_eq_false_iff_ne.2 h35
 have e45:((s[0].toNat:Int)==45)=true:=by rw[h45];rfl
 have el:decide ((1:Int)<(s.size:Int))=false:=decide_eq_false (by omega);have HP0:=z00.mk (fun W=>z0e.calls s ⟨#[60,61]⟩ _ W (z0x s _ _ p0));have HP1:=z00.mk (fun W=>z0e.calls s ⟨#[33,61]⟩ _ W (z0x s _ _ p1));have HP2:=z00.mk (fun W=>z0e.calls s ⟨#[58,45]⟩ _ W (z0x s _ _ p2));have HP3:=z00.mk (fun W=>z0e.calls s ⟨#[63,45]⟩ _ W (z0x s _ _ p3));have HI:=z00.mk (fun W=>Tryz.strings_IndexByte ⟨#[40,41,44,46,60,61,47,124,42,43,63,94]⟩ (s[0].toNat:Int) W);have ei:decide ((0:Int)≤Lib.indexByte (⟨#[40,41,44,46,60,61,47,124,42,43,63,94]⟩:ByteArray).data.toList ((s[0].toNat:Int)).toNat.toUInt8)=false:=(z5k s[0]).trans hone
 generalize Lib.indexByte (⟨#[40,41,44,46,60,61,47,124,42,43,63,94]⟩:ByteArray).data.toList ((s[0].toNat:Int)).toNat.toUInt8=ix at HI ei
 clear hsm hgr hs h35 hdg h45 p0 p1 p2 p3 hone;go_enter Tryz.func97,Tryz.ntmps97
 go_wp2_with (first|(go_at_call 123;refine(HS.out _).mono ?_;rintro e w' ⟨rfl,⟨nd1,rfl⟩⟩)|(go_at_call 126;refine(HG.out _).mono ?_;rintro e w' ⟨rfl,⟨nd2,rfl⟩⟩)|(go_at_call 128;refine(HD.out _).mono ?_;rintro e w' ⟨rfl,⟨nd3,rfl⟩⟩)|(go_at_call 130;(with_reducible refine(HP0.out _).mono ?_);rintro e w' ⟨rfl,⟨np0,rfl⟩⟩)|(go_at_call 130;(with_reducible refine(HP1.out _).mono ?_);rintro e w' ⟨rfl,⟨np1,rfl⟩⟩)|(go_at_call 130;(with_reducible refine(HP2.out _).mono ?_);rintro e w' ⟨rfl,⟨np2,rfl⟩⟩)|(go_at_call 130;(with_reducible refine(HP3.out _).mono ?_);rintro e w' ⟨rfl,⟨np3,rfl⟩⟩)|(go_at_call 96;refine(HI.out _).mono ?_;rintro e w' ⟨rfl,rfl⟩))
 exact⟨rfl,rfl,z1l w _ _⟩
set_option maxHeartbeats 1600000 in
set_option maxRecDepth 100000 in
theorem zcz (s:ByteArray) (hs:s.size≤140737488355328) (a:Int) (w:World) (hp:0<s.size) (hsm:z1p s[0]=false) (hgr:z1d s[0]=false) (h35:s[0]≠35) (hdg:z1i s[0]=false) (h45:s[0]=45) (h1:1<s.size) (hd1:z1i s[1]=false) (p0:(s.data.toList.take 2==[60,61])=true) :
 Calls Tryz.prog 97 #[.string s,.int .i64 a] w fun e w'=>NextR s a (some (4,2)) e∧Below w.heap.size w w':=by
 have HS:=z00.mk (fun W=>z1j.calls (s[0].toNat:Int) (z1p s[0]) W (z1a s[0]));rw[hsm]at HS;have HG:=z00.mk (fun W=>z1m.calls (s[0].toNat:Int) (z1d s[0]) W (z1e s[0]));rw[hgr]at HG;have HD:=z00.mk (fun W=>z1f.calls (s[0].toNat:Int) (z1i s[0]) W (z18 s[0]));rw[hdg]at HD;have e35:((s[0].toNat:Int)==35)=false:=by rw[show((s[0].toNat:Int)==35)=(s[0]==35)from z1x s[0] 35 (by omega)];exact beq_eq_false_iff_ne.2 h35
 have e45:((s[0].toNat:Int)==45)=true:=by rw[h45];rfl
 have el:decide ((1:Int)<(s.size:Int))=true:=decide_eq_true (by omega);have HD1:=z00.mk (fun W=>z1f.calls (s[1].toNat:Int) (z1i s[1]) W (z18 s[1]));rw[hd1]at HD1;have HP0:=z00.mk (fun W=>z0e.calls s ⟨#[60,61]⟩ _ W (z0x s _ _ p0));have h2:(2:Nat)≤s.size:=z5e (beq_iff_eq.1 p0) rfl;clear hsm hgr hs h35 hdg h45 hd1 p0;go_enter Tryz.func97,Tryz.ntmps97
 go_wp2_with (first|(go_at_call 123;refine(HS.out _).mono ?_;rintro e w' ⟨rfl,⟨nd1,rfl⟩⟩)|(go_at_call 126;refine(HG.out _).mono ?_;rintro e w' ⟨rfl,⟨nd2,rfl⟩⟩)|(go_at_call 128;(with_reducible refine(HD.out _).mono ?_);rintro e w' ⟨rfl,⟨nd3,rfl⟩⟩)|(go_at_call 128;(with_reducible refine(HD1.out _).mono ?_);rintro e w' ⟨rfl,⟨nd7,rfl⟩⟩)|(go_at_call 130;(with_reducible refine(HP0.out _).mono ?_);rintro e w' ⟨rfl,⟨np0,rfl⟩⟩))
 exact z3w (z2i w _ _) (z1l w _ _) 4 _ a (by rfl)
set_option maxHeartbeats 1600000 in
set_option maxRecDepth 100000 in
theorem zd9 (s:ByteArray) (hs:s.size≤140737488355328) (a:Int) (w:World) (hp:0<s.size) (hsm:z1p s[0]=false) (hgr:z1d s[0]=false) (h35:s[0]≠35) (hdg:z1i s[0]=false) (h45:s[0]=45) (h1:1<s.size) (hd1:z1i s[1]=false) (p0:(s.data.toList.take 2==[60,61])=false) (p1:(s.data.toList.take 2==[33,61])=true) :
 Calls Tryz.prog 97 #[.string s,.int .i64 a] w fun e w'=>NextR s a (some (4,2)) e∧Below w.heap.size w w':=by
 have HS:=z00.mk (fun W=>z1j.calls (s[0].toNat:Int) (z1p s[0]) W (z1a s[0]));rw[hsm]at HS;have HG:=z00.mk (fun W=>z1m.calls (s[0].toNat:Int) (z1d s[0]) W (z1e s[0]));rw[hgr]at HG;have HD:=z00.mk (fun W=>z1f.calls (s[0].toNat:Int) (z1i s[0]) W (z18 s[0]));rw[hdg]at HD;have e35:((s[0].toNat:Int)==35)=false:=by rw[show((s[0].toNat:Int)==35)=(s[0]==35)from z1x s[0] 35 (by omega)];exact beq_eq_false_iff_ne.2 h35
 have e45:((s[0].toNat:Int)==45)=true:=by rw[h45];rfl
 have el:decide ((1:Int)<(s.size:Int))=true:=decide_eq_true (by omega);have HD1:=z00.mk (fun W=>z1f.calls (s[1].toNat:Int) (z1i s[1]) W (z18 s[1]));rw[hd1]at HD1;have HP0:=z00.mk (fun W=>z0e.calls s ⟨#[60,61]⟩ _ W (z0x s _ _ p0));have HP1:=z00.mk (fun W=>z0e.calls s ⟨#[33,61]⟩ _ W (z0x s _ _ p1));have h2:(2:Nat)≤s.size:=z5e (beq_iff_eq.1 p1) rfl;clear hsm hgr hs h35 hdg h45 hd1 p0 p1;go_enter Tryz.func97,Tryz.ntmps97
 go_wp2_with (first|(go_at_call 123;refine(HS.out _).mono ?_;rintro e w' ⟨rfl,⟨nd1,rfl⟩⟩)|(go_at_call 126;refine(HG.out _).mono ?_;rintro e w' ⟨rfl,⟨nd2,rfl⟩⟩)|(go_at_call 128;(with_reducible refine(HD.out _).mono ?_);rintro e w' ⟨rfl,⟨nd3,rfl⟩⟩)|(go_at_call 128;(with_reducible refine(HD1.out _).mono ?_);rintro e w' ⟨rfl,⟨nd7,rfl⟩⟩)|(go_at_call 130;(with_reducible refine(HP0.out _).mono ?_);rintro e w' ⟨rfl,⟨np0,rfl⟩⟩)|(go_at_call 130;(with_reducible refine(HP1.out _).mono ?_);rintro e w' ⟨rfl,⟨np1,rfl⟩⟩))
 exact z3w (z2i w _ _) (z1l w _ _) 4 _ a (by rfl)
set_option maxHeartbeats 1600000 in
set_option maxRecDepth 100000 in
theorem zdj (s:ByteArray) (hs:s.size≤140737488355328) (a:Int) (w:World) (hp:0<s.size) (hsm:z1p s[0]=false) (hgr:z1d s[0]=false) (h35:s[0]≠35) (hdg:z1i s[0]=false) (h45:s[0]=45) (h1:1<s.size) (hd1:z1i s[1]=false) (p0:(s.data.toList.take 2==[60,61])=false) (p1:(s.data.toList.take 2==[33,61])=false) (p2:(s.data.toList.take 2==[58,45])=true) :
 Calls Tryz.prog 97 #[.string s,.int .i64 a] w fun e w'=>NextR s a (some (4,2)) e∧Below w.heap.size w w':=by
 have HS:=z00.mk (fun W=>z1j.calls (s[0].toNat:Int) (z1p s[0]) W (z1a s[0]));rw[hsm]at HS;have HG:=z00.mk (fun W=>z1m.calls (s[0].toNat:Int) (z1d s[0]) W (z1e s[0]));rw[hgr]at HG;have HD:=z00.mk (fun W=>z1f.calls (s[0].toNat:Int) (z1i s[0]) W (z18 s[0]));rw[hdg]at HD;have e35:((s[0].toNat:Int)==35)=false:=by rw[show((s[0].toNat:Int)==35)=(s[0]==35)from z1x s[0] 35 (by omega)];exact beq_eq_false_iff_ne.2 h35
 have e45:((s[0].toNat:Int)==45)=true:=by rw[h45];rfl
 have el:decide ((1:Int)<(s.size:Int))=true:=decide_eq_true (by omega);have HD1:=z00.mk (fun W=>z1f.calls (s[1].toNat:Int) (z1i s[1]) W (z18 s[1]));rw[hd1]at HD1;have HP0:=z00.mk (fun W=>z0e.calls s ⟨#[60,61]⟩ _ W (z0x s _ _ p0));have HP1:=z00.mk (fun W=>z0e.calls s ⟨#[33,61]⟩ _ W (z0x s _ _ p1));have HP2:=z00.mk (fun W=>z0e.calls s ⟨#[58,45]⟩ _ W (z0x s _ _ p2));have h2:(2:Nat)≤s.size:=z5e (beq_iff_eq.1 p2) rfl;clear hsm hgr hs h35 hdg h45 hd1 p0 p1 p2;go_enter Tryz.func97,Tryz.ntmps97
 go_wp2_with (first|(go_at_call 123;refine(HS.out _).mono ?_;rintro e w' ⟨rfl,⟨nd1,rfl⟩⟩)|(go_at_call 126;refine(HG.out _).mono ?_;rintro e w' ⟨rfl,⟨nd2,rfl⟩⟩)|(go_at_call 128;(with_reducible refine(HD.out _).mono ?_);rintro e w' ⟨rfl,⟨nd3,rfl⟩⟩)|(go_at_call 128;(with_reducible refine(HD1.out _).mono ?_);rintro e w' ⟨rfl,⟨nd7,rfl⟩⟩)|(go_at_call 130;(with_reducible refine(HP0.out _).mono ?_);rintro e w' ⟨rfl,⟨np0,rfl⟩⟩)|(go_at_call 130;(with_reducible refine(HP1.out _).mono ?_);rintro e w' ⟨rfl,⟨np1,rfl⟩⟩)|(go_at_call 130;(with_reducible refine(HP2.out _).mono ?_);rintro e w' ⟨rfl,⟨np2,rfl⟩⟩))
 exact z3w (z2i w _ _) (z1l w _ _) 4 _ a (by rfl)
set_option maxHeartbeats 1600000 in
set_option maxRecDepth 100000 in
theorem zcy (s:ByteArray) (hs:s.size≤140737488355328) (a:Int) (w:World) (hp:0<s.size) (hsm:z1p s[0]=false) (hgr:z1d s[0]=false) (h35:s[0]≠35) (hdg:z1i s[0]=false) (h45:s[0]=45) (h1:1<s.size) (hd1:z1i s[1]=false) (p0:(s.data.toList.take 2==[60,61])=false) (p1:(s.data.toList.take 2==[33,61])=false) (p2:(s.data.toList.take 2==[58,45])=false) (p3:(s.data.toList.take 2==[63,45])=true) :
 Calls Tryz.prog 97 #[.string s,.int .i64 a] w fun e w'=>NextR s a (some (4,2)) e∧Below w.heap.size w w':=by
 have HS:=z00.mk (fun W=>z1j.calls (s[0].toNat:Int) (z1p s[0]) W (z1a s[0]));rw[hsm]at HS;have HG:=z00.mk (fun W=>z1m.calls (s[0].toNat:Int) (z1d s[0]) W (z1e s[0]));rw[hgr]at HG;have HD:=z00.mk (fun W=>z1f.calls (s[0].toNat:Int) (z1i s[0]) W (z18 s[0]));rw[hdg]at HD;have e35:((s[0].toNat:Int)==35)=false:=by rw[show((s[0].toNat:Int)==35)=(s[0]==35)from z1x s[0] 35 (by omega)];exact beq_eq_false_iff_ne.2 h35
 have e45:((s[0].toNat:Int)==45)=true:=by rw[h45];rfl
 have el:decide ((1:Int)<(s.size:Int))=true:=decide_eq_true (by omega);have HD1:=z00.mk (fun W=>z1f.calls (s[1].toNat:Int) (z1i s[1]) W (z18 s[1]));rw[hd1]at HD1;have HP0:=z00.mk (fun W=>z0e.calls s ⟨#[60,61]⟩ _ W (z0x s _ _ p0));have HP1:=z00.mk (fun W=>z0e.calls s ⟨#[33,61]⟩ _ W (z0x s _ _ p1));have HP2:=z00.mk (fun W=>z0e.calls s ⟨#[58,45]⟩ _ W (z0x s _ _ p2));have HP3:=z00.mk (fun W=>z0e.calls s ⟨#[63,45]⟩ _ W (z0x s _ _ p3));have h2:(2:Nat)≤s.size:=z5e (beq_iff_eq.1 p3) rfl;clear hsm hgr hs h35 hdg h45 hd1 p0 p1 p2 p3;go_enter Tryz.func97,Tryz.ntmps97
 go_wp2_with (first|(go_at_call 123;refine(HS.out _).mono ?_;rintro e w' ⟨rfl,⟨nd1,rfl⟩⟩)|(go_at_call 126;refine(HG.out _).mono ?_;rintro e w' ⟨rfl,⟨nd2,rfl⟩⟩)|(go_at_call 128;(with_reducible refine(HD.out _).mono ?_);rintro e w' ⟨rfl,⟨nd3,rfl⟩⟩)|(go_at_call 128;(with_reducible refine(HD1.out _).mono ?_);rintro e w' ⟨rfl,⟨nd7,rfl⟩⟩)|(go_at_call 130;(with_reducible refine(HP0.out _).mono ?_);rintro e w' ⟨rfl,⟨np0,rfl⟩⟩)|(go_at_call 130;(with_reducible refine(HP1.out _).mono ?_);rintro e w' ⟨rfl,⟨np1,rfl⟩⟩)|(go_at_call 130;(with_reducible refine(HP2.out _).mono ?_);rintro e w' ⟨rfl,⟨np2,rfl⟩⟩)|(go_at_call 130;(with_reducible refine(HP3.out _).mono ?_);rintro e w' ⟨rfl,⟨np3,rfl⟩⟩))
 exact z3w (z2i w _ _) (z1l w _ _) 4 _ a (by rfl)
set_option maxHeartbeats 1600000 in
set_option maxRecDepth 100000 in
theorem zd0 (s:ByteArray) (hs:s.size≤140737488355328) (a:Int) (w:World) (hp:0<s.size) (hsm:z1p s[0]=false) (hgr:z1d s[0]=false) (h35:s[0]≠35) (hdg:z1i s[0]=false) (h45:s[0]=45) (h1:1<s.size) (hd1:z1i s[1]=false) (p0:(s.data.toList.take 2==[60,61])=false) (p1:(s.data.toList.take 2==[33,61])=false) (p2:(s.data.toList.take 2==[58,45])=false) (p3:(s.data.toList.take 2==[63,45])=false) (hone:oneB s[0]=true) :
 Calls Tryz.prog 97 #[.string s,.int .i64 a] w fun e w'=>NextR s a (some (4,1)) e∧Below w.heap.size w w':=by
 have HS:=z00.mk (fun W=>z1j.calls (s[0].toNat:Int) (z1p s[0]) W (z1a s[0]));rw[hsm]at HS;have HG:=z00.mk (fun W=>z1m.calls (s[0].toNat:Int) (z1d s[0]) W (z1e s[0]));rw[hgr]at HG;have HD:=z00.mk (fun W=>z1f.calls (s[0].toNat:Int) (z1i s[0]) W (z18 s[0]));rw[hdg]at HD;have e35:((s[0].toNat:Int)==35)=false:=by rw[show((s[0].toNat:Int)==35)=(s[0]==35)from z1x s[0] 35 (by omega)];exact beq_eq_false_iff_ne.2 h35
 have e45:((s[0].toNat:Int)==45)=true:=by rw[h45];rfl
 have el:decide ((1:Int)<(s.size:Int))=true:=decide_eq_true (by omega);have HD1:=z00.mk (fun W=>z1f.calls (s[1].toNat:Int) (z1i s[1]) W (z18 s[1]));rw[hd1]at HD1;have HP0:=z00.mk (fun W=>z0e.calls s ⟨#[60,61]⟩ _ W (z0x s _ _ p0));have HP1:=z00.mk (fun W=>z0e.calls s ⟨#[33,61]⟩ _ W (z0x s _ _ p1));have HP2:=z00.mk (fun W=>z0e.calls s ⟨#[58,45]⟩ _ W (z0x s _ _ p2));have HP3:=z00.mk (fun W=>z0e.calls s ⟨#[63,45]⟩ _ W (z0x s _ _ p3));have HI:=z00.mk (fun W=>Tryz.strings_IndexByte ⟨#[40,41,44,46,60,61,47,124,42,43,63,94]⟩ (s[0].toNat:Int) W);have ei:decide ((0:Int)≤Lib.indexByte (⟨#[40,41,44,46,60,61,47,124,42,43,63,94]⟩:ByteArray).data.toList ((s[0].toNat:Int)).toNat.toUInt8)=true:=(z5k s[0]).trans hone
 generalize Lib.indexByte (⟨#[40,41,44,46,60,61,47,124,42,43,63,94]⟩:ByteArray).data.toList ((s[0].toNat:Int)).toNat.toUInt8=ix at HI ei
 clear hsm hgr hs h35 hdg h45 hd1 p0 p1 p2 p3 hone;go_enter Tryz.func97,Tryz.ntmps97
 go_wp2_with (first|(go_at_call 123;refine(HS.out _).mono ?_;rintro e w' ⟨rfl,⟨nd1,rfl⟩⟩)|(go_at_call 126;refine(HG.out _).mono ?_;rintro e w' ⟨rfl,⟨nd2,rfl⟩⟩)|(go_at_call 128;(with_reducible refine(HD.out _).mono ?_);rintro e w' ⟨rfl,⟨nd3,rfl⟩⟩)|(go_at_call 128;(with_reducible refine(HD1.out _).mono ?_);rintro e w' ⟨rfl,⟨nd7,rfl⟩⟩)|(go_at_call 130;(with_reducible refine(HP0.out _).mono ?_);rintro e w' ⟨rfl,⟨np0,rfl⟩⟩)|(go_at_call 130;(with_reducible refine(HP1.out _).mono ?_);rintro e w' ⟨rfl,⟨np1,rfl⟩⟩)|(go_at_call 130;(with_reducible refine(HP2.out _).mono ?_);rintro e w' ⟨rfl,⟨np2,rfl⟩⟩)|(go_at_call 130;(with_reducible refine(HP3.out _).mono ?_);rintro e w' ⟨rfl,⟨np3,rfl⟩⟩)|(go_at_call 96;refine(HI.out _).mono ?_;rintro e w' ⟨rfl,rfl⟩))
 exact z3w (z2i w _ _) (z1l w _ _) 4 _ a (by rfl)
set_option maxHeartbeats 1600000 in
set_option maxRecDepth 100000 in
theorem zdl (s:ByteArray) (hs:s.size≤140737488355328) (a:Int) (w:World) (hp:0<s.size) (hsm:z1p s[0]=false) (hgr:z1d s[0]=false) (h35:s[0]≠35) (hdg:z1i s[0]=false) (h45:s[0]=45) (h1:1<s.size) (hd1:z1i s[1]=false) (p0:(s.data.toList.take 2==[60,61])=false) (p1:(s.data.toList.take 2==[33,61])=false) (p2:(s.data.toList.take 2==[58,45])=false) (p3:(s.data.toList.take 2==[63,45])=false) (hone:oneB s[0]=false) :
 Calls Tryz.prog 97 #[.string s,.int .i64 a] w fun e w'=>NextR s a (none) e∧Below w.heap.size w w':=by
 have HS:=z00.mk (fun W=>z1j.calls (s[0].toNat:Int) (z1p s[0]) W (z1a s[0]));rw[hsm]at HS;have HG:=z00.mk (fun W=>z1m.calls (s[0].toNat:Int) (z1d s[0]) W (z1e s[0]));rw[hgr]at HG;have HD:=z00.mk (fun W=>z1f.calls (s[0].toNat:Int) (z1i s[0]) W (z18 s[0]));rw[hdg]at HD;have e35:((s[0].toNat:Int)==35)=false:=by rw[show((s[0].toNat:Int)==35)=(s[0]==35)from z1x s[0] 35 (by omega)];exact beq_eq_false_iff_ne.2 h35
 have e45:((s[0].toNat:Int)==45)=true:=by rw[h45];rfl
 have el:decide ((1:Int)<(s.size:Int))=true:=decide_eq_true (by omega);have HD1:=z00.mk (fun W=>z1f.calls (s[1].toNat:Int) (z1i s[1]) W (z18 s[1]));rw[hd1]at HD1;have HP0:=z00.mk (fun W=>z0e.calls s ⟨#[60,61]⟩ _ W (z0x s _ _ p0));have HP1:=z00.mk (fun W=>z0e.calls s ⟨#[33,61]⟩ _ W (z0x s _ _ p1));have HP2:=z00.mk (fun W=>z0e.calls s ⟨#[58,45]⟩ _ W (z0x s _ _ p2));have HP3:=z00.mk (fun W=>z0e.calls s ⟨#[63,45]⟩ _ W (z0x s _ _ p3));have HI:=z00.mk (fun W=>Tryz.strings_IndexByte ⟨#[40,41,44,46,60,61,47,124,42,43,63,94]⟩ (s[0].toNat:Int) W);have ei:decide ((0:Int)≤Lib.indexByte (⟨#[40,41,44,46,60,61,47,124,42,43,63,94]⟩:ByteArray).data.toList ((s[0].toNat:Int)).toNat.toUInt8)=false:=(z5k s[0]).trans hone
 generalize Lib.indexByte (⟨#[40,41,44,46,60,61,47,124,42,43,63,94]⟩:ByteArray).data.toList ((s[0].toNat:Int)).toNat.toUInt8=ix at HI ei
 clear hsm hgr hs h35 hdg h45 hd1 p0 p1 p2 p3 hone;go_enter Tryz.func97,Tryz.ntmps97
 go_wp2_with (first|(go_at_call 123;refine(HS.out _).mono ?_;rintro e w' ⟨rfl,⟨nd1,rfl⟩⟩)|(go_at_call 126;refine(HG.out _).mono ?_;rintro e w' ⟨rfl,⟨nd2,rfl⟩⟩)|(go_at_call 128;(with_reducible refine(HD.out _).mono ?_);rintro e w' ⟨rfl,⟨nd3,rfl⟩⟩)|(go_at_call 128;(with_reducible refine(HD1.out _).mono ?_);rintro e w' ⟨rfl,⟨nd7,rfl⟩⟩)|(go_at_call 130;(with_reducible refine(HP0.out _).mono ?_);rintro e w' ⟨rfl,⟨np0,rfl⟩⟩)|(go_at_call 130;(with_reducible refine(HP1.out _).mono ?_);rintro e w' ⟨rfl,⟨np1,rfl⟩⟩)|(go_at_call 130;(with_reducible refine(HP2.out _).mono ?_);rintro e w' ⟨rfl,⟨np2,rfl⟩⟩)|(go_at_call 130;(with_reducible refine(HP3.out _).mono ?_);rintro e w' ⟨rfl,⟨np3,rfl⟩⟩)|(go_at_call 96;refine(HI.out _).mono ?_;rintro e w' ⟨rfl,rfl⟩))
 exact⟨rfl,rfl,z1l w _ _⟩

theorem zc4 {s:ByteArray} (h:1<s.size):∃r,s.data.toList.drop 1=s[1]::r:=by
 refine⟨s.data.toList.drop 2,?_⟩;have h':1<s.data.toList.length:=by rw[z0n];exact h
 rw[List.drop_eq_getElem_cons h',z2k s 1 h]
set_option maxRecDepth 100000 in
theorem next_any (s:ByteArray) (hs:s.size≤140737488355328) (a:Int) (w:World) (hLW:LaidW w) (hp:0<s.size) :
 Calls Tryz.prog 97 #[.string s,.int .i64 a] w fun e w'=>NextR s a (nextN nmL vlL s.data.toList) e∧Below w.heap.size w w':=by
 obtain⟨r,hr⟩:=z8f hp;have hd:s.data.toList.drop 1=r:=by rw[hr];rfl
 have key:nextN nmL vlL s.data.toList=(if z1p s[0]then(if nmL (s.data.toList.take (runN lowB s.data.toList))then some (1,runN lowB s.data.toList)else none)else if z1d s[0]then(if runN signB s.data.toList≤40 then some (2,runN signB s.data.toList)else none)else if valB s[0] (s.data.toList.drop 1)then(if vlL (s.data.toList.take (1+runN signB (s.data.toList.drop 1)))then some (3,1+runN signB (s.data.toList.drop 1))else none)else if twoB s.data.toList then some (4,2)else if oneB s[0]then some (4,1)else none):=by
  rw[hd,hr];rfl
 rw[key]
 cases hsm:z1p s[0]with
 |true =>
  rw[if_pos rfl,zfh]
  cases hN:nameB (s.extract 0 (runN lowB s.data.toList))with
  |true=>rw[if_pos rfl];exact z8n s hs a w hp _ hsm rfl hN
  |false=>rw[if_neg (by simp)];exact z7v s hs a w hp _ hsm rfl hN
 |false =>
  rw[if_neg (by simp)]
  cases hgr:z1d s[0]with
  |true =>
   rw[if_pos rfl];have hvar:varL (s.data.toList.take (runN signB s.data.toList))=decide (runN signB s.data.toList≤40):=by
    have h1:signB s[0]=true:=za1 hgr;have h2:=z5n signB s.data.toList;have h3:runN signB s.data.toList=runN signB r+1:=by rw[hr];simp only[runN,h1,if_true]
    have h4:(s.data.toList.take (runN signB s.data.toList)).length=runN signB s.data.toList:=by rw[List.length_take];have:=z3c signB s.data.toList;omega
    have h5:s.data.toList.take (runN signB s.data.toList)=s[0]::r.take (runN signB r):=by rw[h3,hr,List.take_succ_cons]
    rw[h5]at h2 h4 ⊢;simp only[varL];rw[h4,h2,hgr]
    simp
   by_cases h40:runN signB s.data.toList≤40
   · rw[if_pos h40];exact z8v s hs a w hp _ hsm hgr rfl (by rw[hvar];exact decide_eq_true h40)
   · rw[if_neg h40];exact z7u s hs a w hp _ hsm hgr rfl (by rw[hvar];exact decide_eq_false h40)
  |false =>
   rw[if_neg (by simp)];have hvl:vlL (s.data.toList.take (1+runN signB (s.data.toList.drop 1)))=((readR (s.extract 0 (1+runN signB (s.data.toList.drop 1)))).2.2.2==0):=by unfold vlL;rw[z7r]
   cases hv:valB s[0] (s.data.toList.drop 1)with
   |true =>
    rw[if_pos rfl,hvl];have hway:s[0]=35∨(s[0]≠35∧z1i s[0]=true)∨(s[0]=45∧∃h:1<s.size,z1i s[1]=true):=by
     unfold valB at hv;simp only[Bool.or_eq_true,Bool.and_eq_true,beq_iff_eq]at hv
     by_cases h35:s[0]=35
     · exact .inl h35
     · rcases hv with (h|h)|⟨h,h1⟩
       · exact absurd h h35
       · exact .inr (.inl ⟨h35,h⟩)
       · refine .inr (.inr ⟨h,?_⟩)
         by_cases hz:1<s.size
         · obtain⟨r2,hr2⟩:=zc4 hz;rw[hr2]at h1;exact⟨hz,h1⟩
         · have:s.data.toList.drop 1=[]:=List.drop_eq_nil_of_le (by rw[z0n];omega);rw[this]at h1
           cases h1
    by_cases hR:(readR (s.extract 0 (1+runN signB (s.data.toList.drop 1)))).2.2.2=0
    · rw[if_pos (beq_iff_eq.2 hR)];rcases hway with h|⟨h,h'⟩|⟨h,h',h''⟩
      · exact zbq s hs a w hp _ hLW hsm hgr h rfl hR
      · exact zan s hs a w hp _ hLW hsm hgr h h' rfl hR
      · exact zaa s hs a w hp _ hLW hsm hgr h h' h'' rfl hR
    · rw[if_neg (fun h=>hR (beq_iff_eq.1 h))];rcases hway with h|⟨h,h'⟩|⟨h,h',h''⟩
      · exact zbt s hs a w hp _ hLW hsm hgr h rfl hR
      · exact zaf s hs a w hp _ hLW hsm hgr h h' rfl hR
      · exact za7 s hs a w hp _ hLW hsm hgr h h' h'' rfl hR
   |false =>
    rw[if_neg (by simp)];unfold valB at hv;simp only[Bool.or_eq_false_iff,beq_eq_false_iff_ne]at hv;obtain⟨⟨h35,hdg⟩,hm⟩:=hv;have hway:s[0]≠45∨(s[0]=45∧s.size≤1)∨(s[0]=45∧∃h:1<s.size,z1i s[1]=false):=by
     by_cases h45:s[0]=45
     · by_cases hz:1<s.size
       · obtain⟨r2,hr2⟩:=zc4 hz;rw[hr2,h45]at hm;simp only[beq_self_eq_true,Bool.true_and]at hm;exact .inr (.inr ⟨h45,hz,hm⟩)
       · exact .inr (.inl ⟨h45,by omega⟩)
     · exact .inl h45
    have hshort:s.size≤1→∀p:List UInt8,p.length=2→(s.data.toList.take 2==p)=false:=fun hz p hp2=>by
     rw[beq_eq_false_iff_ne];intro e;have:=congrArg List.length e;rw[List.length_take,z0n,hp2]at this;omega
    have htwo:twoB s.data.toList=(s.data.toList.take 2==[60,61]||s.data.toList.take 2==[33,61]||s.data.toList.take 2==[58,45]||s.data.toList.take 2==[63,45]):=rfl
    cases p0:(s.data.toList.take 2==[60,61])with
    |true =>
     rw[htwo,p0];simp only[Bool.true_or,if_true];rcases hway with h|⟨h,h'⟩|⟨h,h',h''⟩
     · exact zc3 s hs a w hp hsm hgr h35 hdg h p0
     · rw[hshort h' _ rfl]at p0;cases p0
     · exact zcz s hs a w hp hsm hgr h35 hdg h h' h'' p0
    |false =>
     cases p1:(s.data.toList.take 2==[33,61])with
     |true =>
      rw[htwo,p0,p1];simp only[Bool.false_or,Bool.true_or,if_true];rcases hway with h|⟨h,h'⟩|⟨h,h',h''⟩
      · exact zbs s hs a w hp hsm hgr h35 hdg h p0 p1
      · rw[hshort h' _ rfl]at p1;cases p1
      · exact zd9 s hs a w hp hsm hgr h35 hdg h h' h'' p0 p1
     |false =>
      cases p2:(s.data.toList.take 2==[58,45])with
      |true =>
       rw[htwo,p0,p1,p2];simp only[Bool.false_or,Bool.true_or,if_true];rcases hway with h|⟨h,h'⟩|⟨h,h',h''⟩
       · exact zcg s hs a w hp hsm hgr h35 hdg h p0 p1 p2
       · rw[hshort h' _ rfl]at p2;cases p2
       · exact zdj s hs a w hp hsm hgr h35 hdg h h' h'' p0 p1 p2
      |false =>
       cases p3:(s.data.toList.take 2==[63,45])with
       |true =>
        rw[htwo,p0,p1,p2,p3];simp only[Bool.false_or,if_true];rcases hway with h|⟨h,h'⟩|⟨h,h',h''⟩
        · exact zck s hs a w hp hsm hgr h35 hdg h p0 p1 p2 p3
        · rw[hshort h' _ rfl]at p3;cases p3
        · exact zcy s hs a w hp hsm hgr h35 hdg h h' h'' p0 p1 p2 p3
       |false =>
        rw[htwo,p0,p1,p2,p3];simp only[Bool.false_or,Bool.false_eq_true,if_false]
        cases hone:oneB s[0]with
        |true =>
         rw[if_pos rfl];rcases hway with h|⟨h,h'⟩|⟨h,h',h''⟩
         · exact zbl s hs a w hp hsm hgr h35 hdg h p0 p1 p2 p3 hone
         · exact zc9 s hs a w hp hsm hgr h35 hdg h h' p0 p1 p2 p3 hone
         · exact zd0 s hs a w hp hsm hgr h35 hdg h h' h'' p0 p1 p2 p3 hone
        |false =>
         rw[if_neg (by simp)];rcases hway with h|⟨h,h'⟩|⟨h,h',h''⟩
         · exact zbm s hs a w hp hsm hgr h35 hdg h p0 p1 p2 p3 hone
         · exact zbh s hs a w hp hsm hgr h35 hdg h h' p0 p1 p2 p3 hone
         · exact zdl s hs a w hp hsm hgr h35 hdg h h' h'' p0 p1 p2 p3 hone
theorem zdb (c:UInt8):decide ((0:Int)≤Lib.indexByte (⟨#[32,9,10]⟩:ByteArray).data.toList ((c.toNat:Int)).toNat.toUInt8)=z2m c:=by
 have e:((c.toNat:Int)).toNat.toUInt8=c:=by
  rw[Int.toNat_natCast];apply UInt8.toNat_inj.1;show(UInt8.ofNat c.toNat).toNat=c.toNat;rw[UInt8.toNat_ofNat'];have:=c.toNat_lt;omega
 rw[e,(zb7 _ c).1];unfold z2m;simp only[List.contains_cons,List.contains_nil,Bool.or_false,Bool.or_assoc]
set_option maxHeartbeats 1600000 in
set_option maxRecDepth 100000 in
theorem zeh (g0 g1 g2:Nat) (x:Int) (older:List PanicEntry) (w:World) (v0 v1 v2:Value) (h0:w.heap[g0]?=some (.cells #[v0] 105 (0,0))) (h1:w.heap[g1]?=some (.cells #[v1] 3 (0,0))) (h2:w.heap[g2]?=some (.cells #[v2] 40 (0,0))) (hn1:g1≠g0) (hn2:g2≠g0) (hn3:g2≠g1) :
 CallsD Tryz.prog 95 #[.pointer (some ⟨g0,0,none⟩),.pointer (some ⟨g1,0,none⟩),.pointer (some ⟨g2,0,none⟩)] (.panicking ({ v:=.iface 134 (.int .i64 x),recovered:=false }::older)) w fun e u' w' =>
  e=.returned (.tuple #[])∧u'=.panicking ({ v:=.iface 134 (.int .i64 x),recovered:=true }::older)∧w'=((w.setCell ⟨g0,0,none⟩ (.slice none 0 0)).setCell ⟨g1,0,none⟩ (.int .i64 x)).setCell ⟨g2,0,none⟩ (.int .i64 2):=by
 have c0:w.cell? ⟨g0,0,none⟩=some v0:=(z01 h0 0).trans rfl;have c1:w.cell? ⟨g1,0,none⟩=some v1:=(z01 h1 0).trans rfl;have c2:w.cell? ⟨g2,0,none⟩=some v2:=(z01 h2 0).trans rfl;have f0:=z03 h0 0;have f1:=z03 h1 0;have f2:=z03 h2 0;have hta:∀(x:Int) (w:World),(Instr.typeAssert (.iface 134 (.int .i64 x)) 20 134 true).run Tryz.prog w=.ok (.tuple #[.int .i64 x,.bool true]) w:=fun _ _=>by kernel_rfl
 refine callsD_of_wpS Tryz.func95 rfl fun c₀ cs hu=>?_
 apply wpS_seq;apply wpS_region
 simp[wpOpsS,go_sem,recoverD,hu,Tryz.ntmps95,Exit.thenS,hta]
 apply wpS_seq;apply wpS_region
 simp[wpOpsS,go_sem,recoverD,hu,Tryz.ntmps95,Exit.thenS,Array.replicate]
 refine wpS_cond (t:=true) (by simp[Act.eval,Array.replicate]) ?_;simp only[if_true];have k1:∀u,(w.setCell ⟨g0,0,none⟩ u).cell? ⟨g1,0,none⟩=some v1:=fun u=>(zax (p:=⟨g0,0,none⟩) (a:=⟨g1,0,none⟩) hn1 u).trans c1
 have k2:∀u u',((w.setCell ⟨g0,0,none⟩ u).setCell ⟨g1,0,none⟩ u').cell? ⟨g2,0,none⟩=some v2:=fun u u'=>(zax (p:=⟨g1,0,none⟩) (a:=⟨g2,0,none⟩) hn3 u').trans ((zax (p:=⟨g0,0,none⟩) (a:=⟨g2,0,none⟩) hn2 u).trans c2)
 apply wpS_region
 simp[wpOpsS,go_sem,Array.replicate,bodyPostS,results,Tryz.results95,c0,f0,k1,f1,k2,f2]
theorem tok_idle (p0 p1 p2:Value) (w:World) :
 CallsD Tryz.prog 95 #[p0,p1,p2] .returning w fun e u' w'=>e=.returned (.tuple #[])∧u'=.returning∧w'=w:=by
 have hta:∀(w:World),(Instr.typeAssert .nilIface 20 134 true).run Tryz.prog w=.ok (.tuple #[.int .i64 0,.bool false]) w:=fun _=>by kernel_rfl
 refine callsD_of_wpS Tryz.func95 rfl fun c₀ cs hu=>?_
 apply wpS_seq;apply wpS_region
 simp[wpOpsS,go_sem,recoverD,hu,Tryz.ntmps95,Exit.thenS,hta]
 apply wpS_seq;apply wpS_region
 simp[wpOpsS,go_sem,recoverD,hu,Tryz.ntmps95,Exit.thenS,Array.replicate]
 refine wpS_cond (t:=false) (by simp[Act.eval,Array.replicate]) ?_;simp only[Bool.false_eq_true,if_false];refine wpS_of_wp (wp_skip ?_)
 cases c₀
 simp_all [bodyPostS,results,Tryz.results95]
def tokS (s:ByteArray) (x:Nat × Nat × Nat):S108:=⟨x.1,(s.extract x.2.1 s.size).extract 0 x.2.2,x.2.1⟩
def z6m (s:ByteArray):List S108 × Int × Int:=match tokN nmL vlL 0 s.data.toList with
 |.error i=>([],(i:Int),2)
 |.ok l=>(l.map (tokS s),0,0)
def z3v.f (a0:ByteArray):Option (List S108 × Int × Int) :=
 if a0.size≤140737488351232 then(if 20000<a0.size then some ([],0,4)else some (z6m a0))else none
def TokR (s:ByteArray) (w:World) (e:Ending) (w':World):Prop:=∃v l a b,z6m s=(l,a,b)∧e=.returned (.tuple #[v,.int .i64 a,.int .i64 b])∧Kd.R k108 108 w' w.heap.size (fun _=>True) v l∧Below w.heap.size w w'
def z5d (l:List UInt8) (j:Nat) (pre:List (Nat × Nat × Nat)):Prop:=tokN nmL vlL 0 l=match tokN nmL vlL j (l.drop j)with
 |.error i=>.error i
 |.ok r=>.ok (pre++r)
theorem zbg (l:List UInt8):z5d l 0 []:=by
 unfold z5d;rw[List.drop_zero]
 cases tokN nmL vlL 0 l <;> rfl
theorem zbj {l:List UInt8} {j:Nat} {pre:List (Nat × Nat × Nat)} (h:z5d l j pre) (hj:j<l.length) (hb:z2m l[j]=true):z5d l (j+1) pre:=by
 unfold z5d at h ⊢;rw[h,List.drop_eq_getElem_cons hj,z88 nmL vlL j _ _ hb]
theorem zdy {l:List UInt8} {j:Nat} {pre:List (Nat × Nat × Nat)} (h:z5d l j pre) (hj:j<l.length) (hb:z2m l[j]=false) (k n:Nat) (hn:nextN nmL vlL (l.drop j)=some (k,n)):z5d l (j+n) (pre++[(k,j,n)]):=by
 unfold z5d at h ⊢;rw[List.drop_eq_getElem_cons hj]at hn h;rw[zab nmL vlL j _ _ hb k n hn]at h;rw[h,←List.drop_eq_getElem_cons hj,List.drop_drop]
 cases tokN nmL vlL (j+n) (l.drop (j+n))with
 |error i=>rfl
 |ok r=>simp
theorem zbc {l:List UInt8} {j:Nat} {pre:List (Nat × Nat × Nat)} (h:z5d l j pre) (hj:j<l.length) (hb:z2m l[j]=false) (hn:nextN nmL vlL (l.drop j)=none):tokN nmL vlL 0 l=.error j:=by
 unfold z5d at h;rw[List.drop_eq_getElem_cons hj]at hn h;rw[z8l nmL vlL j _ _ hb hn]at h;exact h
theorem zfd {l:List UInt8} {j:Nat} {pre:List (Nat × Nat × Nat)} (h:z5d l j pre) (hj:l.length≤j):tokN nmL vlL 0 l=.ok pre:=by
 unfold z5d at h;rw[List.drop_eq_nil_of_le hj,z96]at h
 simpa using h
theorem infoTok:(Tryz.prog.info? 108).map (fun i=>(i.zero,i.size,i.bytes))=some (some (.agg #[.int .i64 0,.string ⟨#[]⟩,.int .i64 0]),3,32):=by kernel_rfl
theorem z5c (w:World) (o0 o1 o2:Obj):(((w.alloc o0).alloc o1).alloc o2).heap[w.heap.size]?=some o0∧(((w.alloc o0).alloc o1).alloc o2).heap[w.heap.size+1]?=some o1∧(((w.alloc o0).alloc o1).alloc o2).heap[w.heap.size+2]?=some o2:=by
 have z1:(w.alloc o0).heap.size=w.heap.size+1:=by simp
 have z2:((w.alloc o0).alloc o1).heap.size=w.heap.size+2:=by simp
 refine⟨z06 (z06 (z1h w o0) _) _,?_,?_⟩
 · have:=z1h (w.alloc o0) o1;rw[z1]at this;exact z06 this _
 · have:=z1h ((w.alloc o0).alloc o1) o2
   rwa [z2]at this
theorem z8h (w:World) (o0 o1 o2:Obj):Below w.heap.size w (((w.alloc o0).alloc o1).alloc o2):=z04 (z04 (z04 (Below.refl _ _) _) _) _
structure TokW (w wr:World) (s:ByteArray) (j:Nat) (pre:List (Nat × Nat × Nat)) (A:Option Addr) (c:Nat):Prop where
 inv:z5d s.data.toList j pre
 len:pre.length≤j
 b0:wr.heap[w.heap.size]?=some (.cells #[.slice A pre.length c] 105 (0,0))
 b1:wr.heap[w.heap.size+1]?=some (.cells #[.int .i64 0] 3 (0,0))
 b2:wr.heap[w.heap.size+1+1]?=some (.cells #[.int .i64 0] 40 (0,0))
 own:Kd.R k108 108 wr w.heap.size (fun k=>w.heap.size+3≤k) (.slice A pre.length c) (pre.map (tokS s))
 bel:Below w.heap.size w wr
theorem zen (w:World) (s:ByteArray):TokW w (((w.alloc (.cells #[.slice none 0 0] 105)).alloc (.cells #[.int .i64 0] 3)).alloc (.cells #[.int .i64 0] 40)) s 0 [] none 0 :=
 ⟨zbg _,Nat.le_refl _,(z5c w _ _ _).1,(z5c w _ _ _).2.1,(z5c w _ _ _).2.2,Kd.R_nil _ _ _ _ _,z8h w _ _ _⟩
theorem TokW.blank {w wr:World} {s:ByteArray} {j:Nat} {pre:List (Nat × Nat × Nat)} {A:Option Addr} {c:Nat} (h:TokW w wr s j pre A c) (hj:j<s.data.toList.length) (hb:z2m s.data.toList[j]=true):TokW w wr s (j+1) pre A c :=
 ⟨zbj h.inv hj hb,Nat.le_succ_of_le h.len,h.b0,h.b1,h.b2,h.own,h.bel⟩
theorem TokW.more {w wr w1 w2:World} {s:ByteArray} {j:Nat} {pre:List (Nat × Nat × Nat)} {A:Option Addr} {c:Nat} (h:TokW w wr s j pre A c) (hj:j<s.data.toList.length) (hb:z2m s.data.toList[j]=false) (k:Nat) (t:ByteArray) (ht:t=(s.extract j s.size).extract 0 t.size) (ht0:1≤t.size) (hn:nextN nmL vlL (s.data.toList.drop j)=some (k,t.size))
 (hb1:Below wr.heap.size wr w1) {v1:Value} (ho:Kd.R k108 108 w2 w.heap.size (fun k=>w.heap.size+3≤k) v1 (pre.map (tokS s)++[⟨k,t,j⟩])) (hb2:Below w.heap.size w w2) {o:Obj} (hg:(w1.alloc o).grownBy w2 (Value.slice A pre.length c).ownBlock) :
 w2.heap[w.heap.size]?=some (.cells #[.slice A pre.length c] 105 (0,0))∧w2.heap[w1.heap.size]?=some o∧∃A' c',v1=.slice A' (pre.length+1) c'∧TokW w (w2.setCell ⟨w.heap.size,0,none⟩ (.slice A' (pre.length+1) c')) s (j+t.size) (pre++[(k,j,t.size)]) A' c':=by
 obtain⟨A',c',e⟩:=Kd.R_slice ho;have e2:v1=.slice A' (pre.length+1) c':=by rw[e];congr 1;simp
 subst e2;have hne:∀i,i<3→some (w.heap.size+i)≠(Value.slice A pre.length c).ownBlock:=fun i hi he=>by
  have:=h.own.1 _ he.symm;omega
 have keep:∀i o',i<3→wr.heap[w.heap.size+i]?=some o'→w2.heap[w.heap.size+i]?=some o':=fun i o' hi ho'=>z42 (z06 (z0h ho' hb1) _) hg (hne i hi)
 have k0:=keep 0 _ (by omega) h.b0;have k1:=keep 1 _ (by omega) h.b1;have k2:=keep 2 _ (by omega) h.b2;have kb : w2.heap[w1.heap.size]? = some o := z42 (z1h w1 o) hg (fun he=>by
  have h1:=Kd.R_lt h.own _ he.symm;have h2:=hb1.size;omega)
 refine⟨k0,kb,A',c',rfl,zdy h.inv hj hb k t.size hn,by have:=h.len;simp;omega,?_,?_,?_,?_,z08 hb2 (Nat.le_refl _)⟩
 · have:=z0l (cs':=#[.slice A' (pre.length+1) c']) k0 0 (.slice A' (pre.length+1) c') rfl
   simpa using this
 · exact z0w k1 (by show w.heap.size+1≠w.heap.size;omega) _
 · exact z0w k2 (by show w.heap.size+1+1≠w.heap.size;omega) _
 · have e3:(pre++[(k,j,t.size)]).map (tokS s)=pre.map (tokS s)++[⟨k,t,j⟩]:=by
    rw[List.map_append]
    congr 1
    simp only[List.map_cons,List.map_nil,tokS];rw[←ht]
   rw[e3,List.length_append];exact Kd.R_far (p:=⟨w.heap.size,0,none⟩) ho (fun k hk=>by show k≠w.heap.size;omega) _
theorem TokW.ends {w wr:World} {s:ByteArray} {j:Nat} {pre:List (Nat × Nat × Nat)} {A:Option Addr} {c:Nat} (h:TokW w wr s j pre A c) (hj:s.size≤j):TokR s w (.returned (.tuple #[.slice A pre.length c,.int .i64 0,.int .i64 0])) (((wr.setCell ⟨w.heap.size,0,none⟩ (.slice A pre.length c)).setCell ⟨w.heap.size+1,0,none⟩ (.int .i64 0)).setCell ⟨w.heap.size+1+1,0,none⟩ (.int .i64 0)):=by
 refine⟨_,pre.map (tokS s),0,0,?_,rfl,?_,?_⟩
 · unfold z6m;rw[zfd h.inv (by rw[z0n];exact hj)]
 · have h1:=Kd.R_far (p:=⟨w.heap.size,0,none⟩) h.own (fun k hk=>by show k≠w.heap.size;omega) (.slice A pre.length c);have h2:=Kd.R_far (p:=⟨w.heap.size+1,0,none⟩) h1 (fun k hk=>by show k≠w.heap.size+1;omega) (.int .i64 0);exact Kd.R_mono (Kd.R_far (p:=⟨w.heap.size+1+1,0,none⟩) h2 (fun k hk=>by show k≠w.heap.size+1+1;omega) (.int .i64 0)) (fun _ _=>trivial)
 · exact z08 (z08 (z08 h.bel (Nat.le_refl _)) (by omega)) (by omega)
theorem TokW.wrong {w wr w1:World} {s:ByteArray} {j:Nat} {pre:List (Nat × Nat × Nat)} {A:Option Addr} {c:Nat} (h:TokW w wr s j pre A c) (hj:j<s.data.toList.length) (hb:z2m s.data.toList[j]=false) (hn:nextN nmL vlL (s.data.toList.drop j)=none) (hb1:Below wr.heap.size wr w1) :
 TokR s w (.returned (.tuple #[.slice none 0 0,.int .i64 j,.int .i64 2])) (((w1.setCell ⟨w.heap.size,0,none⟩ (.slice none 0 0)).setCell ⟨w.heap.size+1,0,none⟩ (.int .i64 j)).setCell ⟨w.heap.size+1+1,0,none⟩ (.int .i64 2)):=by
 refine⟨_,[],_,_,?_,rfl,Kd.R_nil _ _ _ _ _,?_⟩
 · unfold z6m;rw[zbc h.inv hj hb hn]
 · exact z08 (z08 (z08 (z0g h.bel hb1) (Nat.le_refl _)) (by omega)) (by omega)
set_option maxRecDepth 100000 in
theorem z6q {W:World} {g0 g1 g2:Nat} {tmps:Array Value} (t0:tmps.getD 2 undef=.pointer (some ⟨g0,0,none⟩)) (t1:tmps.getD 3 undef=.pointer (some ⟨g1,0,none⟩)) (t2:tmps.getD 4 undef=.pointer (some ⟨g2,0,none⟩))
 {A:Option Addr} {n c:Nat} {a b:Int} (c0:W.cell? ⟨g0,0,none⟩=some (.slice A n c)) (c1:W.cell? ⟨g1,0,none⟩=some (.int .i64 a)) (c2:W.cell? ⟨g2,0,none⟩=some (.int .i64 b)) :
 (results Tryz.f63 tmps).run Tryz.prog W=.ok (.tuple #[.slice A n c,.int .i64 a,.int .i64 b]) W:=by
 simp only[Array.getD_eq_getD_getElem?]at t0 t1 t2
 simp[results,Tryz.results63,go_sem,t0,t1,t2,c0,c1,c2]
theorem zc0 {W:World} {g:Nat} {x0 x1 x2:Value} (b0:W.heap[g]?=some (.cells #[x0] 105 (0,0))) (b1:W.heap[g+1]?=some (.cells #[x1] 3 (0,0))) (b2:W.heap[g+1+1]?=some (.cells #[x2] 40 (0,0))) (y0 y1 y2:Value) :
 (((W.setCell ⟨g,0,none⟩ y0).setCell ⟨g+1,0,none⟩ y1).setCell ⟨g+1+1,0,none⟩ y2).cell? ⟨g,0,none⟩=some y0∧(((W.setCell ⟨g,0,none⟩ y0).setCell ⟨g+1,0,none⟩ y1).setCell ⟨g+1+1,0,none⟩ y2).cell? ⟨g+1,0,none⟩=some y1∧(((W.setCell ⟨g,0,none⟩ y0).setCell ⟨g+1,0,none⟩ y1).setCell ⟨g+1+1,0,none⟩ y2).cell? ⟨g+1+1,0,none⟩=some y2:=by
 have k0:=z0l (cs':=#[y0]) b0 0 y0 rfl;have k0':=z0w (z0w k0 (p:=⟨g+1,0,none⟩) (by show g≠g+1;omega) y1) (p:=⟨g+1+1,0,none⟩) (by show g≠g+1+1;omega) y2;have k1:=z0l (cs':=#[y1]) (z0w b1 (p:=⟨g,0,none⟩) (by show g+1≠g;omega) y0) 0 y1 rfl;have k1':=z0w k1 (p:=⟨g+1+1,0,none⟩) (by show g+1≠g+1+1;omega) y2;have k2:=z0l (cs':=#[y2]) (z0w (z0w b2 (p:=⟨g,0,none⟩) (by show g+1+1≠g;omega) y0) (p:=⟨g+1,0,none⟩) (by show g+1+1≠g+1;omega) y1) 0 y2 rfl;exact⟨(z01 k0' 0).trans rfl,(z01 k1' 0).trans rfl,(z01 k2 0).trans rfl⟩
set_option maxHeartbeats 3200000 in
set_option maxRecDepth 100000 in
theorem zed (s:ByteArray) (hs:s.size≤20000) (w:World) (hLW:LaidW w) :
 Calls Tryz.prog 63 #[.string s] w (TokR s w):=by
 have hmf:∀(fn:Fn) (first cap:Array Value) (w:World),(Instr.makeFunc fn first cap).run Tryz.prog w=.ok (.func fn first cap) w:=fun _ _ _ _=>rfl
 have e0:decide ((20000:Int)<(s.size:Int))=false:=decide_eq_false (by omega);have HLW:=z00.mk hLW;have H0:=z00.mk (zen w s);clear hLW
 go_enter_defers Tryz.func63,Tryz.ntmps63
 go_wp2
 go_loopw [5] (fun s5 wr=>∃(j:Nat) (pre:List (Nat × Nat × Nat)) (A:Option Addr) (c:Nat),j≤s.size∧s5=.int .i64 j∧z00 (TokW w wr s j pre A c)) (fun s5 _=>s.size - (intOf s5).toNat)
 case atStart=>exact⟨0,[],none,0,Nat.zero_le _,rfl,H0⟩
 case round =>
  clear H0;obtain⟨j,pre,A,c,hj,rfl,HT⟩:=hrel
  by_cases hlt:j<s.size
  · have hltz:decide ((j:Int)<(s.size:Int))=true:=decide_eq_true (by omega);have HX:=z00.mk (fun W=>Tryz.strings_IndexByte ⟨#[32,9,10]⟩ (s[j].toNat:Int) W);have hbi:=zdb s[j];have hjl:j<s.data.toList.length:=by rw[z0n];exact hlt
    have hgl:s.data.toList[j]=s[j]:=z2k s j hlt hjl
    generalize Lib.indexByte (⟨#[32,9,10]⟩:ByteArray).data.toList ((s[j].toNat:Int)).toNat.toUInt8=ix at HX hbi
    cases hb:z2m s[j]with
    |true =>
     rw[hb]at hbi;have HT1:=z00.mk (HT.out.blank hjl (by rw[hgl];exact hb));clear hb hgl hjl
     go_wp2_with (go_at_call 96;refine(HX.out _).mono ?_;rintro e w' ⟨rfl,rfl⟩)
     go_roundw
     case rel=>exact⟨j+1,pre,A,c,by omega,by go_num,HT1⟩
     case measure=>simp[intOf];omega
    |false =>
     rw[hb]at hbi;have hbl:z2m s.data.toList[j]=false:=by rw[hgl];exact hb
     have HN:=z00.mk (fun W (h:LaidW W)=>next_any (s.extract j s.size) zA0l (j:Int) W h zA0l);rw[z3h]at HN;have HL:=z00.mk (HLW.out.below HT.out.bel)
     cases hn:nextN nmL vlL (s.data.toList.drop j)with
     |none =>
      rw[hn]at HN;have HW:=z00.mk (fun(w1:World) hb1=>HT.out.wrong (w1:=w1) hjl hbl hn hb1);have HK:=z00.mk (And.intro HT.out.b0 (And.intro HT.out.b1 HT.out.b2));clear hn hb hbl hgl hjl
      go_wp2_with (go_at_call 96;refine(HX.out _).mono ?_;rintro e w' ⟨rfl,rfl⟩)
      refine(HN.out _ HL.out).mono ?_;rintro e w1 ⟨he,hb1⟩;obtain rfl:=he;have HR:=z00.mk (HW.out w1 hb1);refine leaves_cons (f:=95) (args:=#[.pointer (some ⟨w.heap.size,0,none⟩),.pointer (some ⟨w.heap.size+1,0,none⟩),.pointer (some ⟨w.heap.size+1+1,0,none⟩)]) (by simp) (by simp[go_sem]) ?_;refine(zeh w.heap.size (w.heap.size+1) (w.heap.size+1+1) (j:Int) [] _ _ _ _ (z0h HK.out.1 hb1) (z0h HK.out.2.1 hb1) (z0h HK.out.2.2 hb1) (by omega) (by omega) (by omega)).mono ?_;rintro e u' w'' ⟨rfl,rfl,rfl⟩;have h3:=zc0 (z0h HK.out.1 hb1) (z0h HK.out.2.1 hb1) (z0h HK.out.2.2 hb1) (.slice none 0 0) (.int .i64 j) (.int .i64 2);exact⟨_,z6q rfl rfl rfl h3.1 h3.2.1 h3.2.2,HR.out⟩
     |some y =>
      obtain⟨k,n⟩:=y;have hp:=z4k hn;rw[List.length_drop,z0n]at hp;rw[hn]at HN;have hN2:∀W,LaidW W→Calls Tryz.prog 97 #[.string (s.extract j s.size),.int .i64 j] W fun e w'=>e=.returned (.agg #[.int .i64 k,.string ((s.extract j s.size).extract 0 n),.int .i64 j])∧Below W.heap.size W w':=HN.out
      have hsz:((s.extract j s.size).extract 0 n).size=n:=by rw[ByteArray.size_extract,ByteArray.size_extract];omega
      generalize ht:(s.extract j s.size).extract 0 n=t at hN2 hsz
      subst hsz;have HW:=z00.mk (fun(w1 w2:World) hb1 v1 ho hb2 o hg=>HT.out.more (w1:=w1) (w2:=w2) hjl hbl k t ht.symm hp.1 hn hb1 (v1:=v1) ho hb2 (o:=o) hg);have hjt:j+t.size≤s.size:=by omega
      have ht0:1≤t.size:=hp.1;have HN2:=z00.mk hN2;have HTL:=z00.mk HT.out.len;clear hN2 HN hp ht hn hb hbl hgl hjl
      go_wp2_with (go_at_call 96;refine(HX.out _).mono ?_;rintro e w' ⟨rfl,rfl⟩)
      refine(HN2.out _ HL.out).mono ?_;rintro e w1 ⟨rfl,hb1⟩;have HB1:=z00.mk hb1;have hz1:w.heap.size+1+1<w1.heap.size:=Nat.lt_of_lt_of_le (z1u HT.out.b2) hb1.size;have hz0:w.heap.size<w1.heap.size:=by omega
      have hc0:w1.cell? ⟨w.heap.size,0,none⟩=some (.slice A pre.length c):=(z01 (z0h HT.out.b0 hb1) 0).trans rfl;have hf0:=z03 (z0h HT.out.b0 hb1) 0;have HO1:=z00.mk (Kd.R_alloc (Kd.R_below HT.out.own hb1) (.cells #[.int .i64 k,.string t,.int .i64 j] 108));have HB2:=z00.mk (z04 (z0g HT.out.bel hb1) (.cells #[.int .i64 k,.string t,.int .i64 j] 108));clear hb1
      go_wp2_with ((with_reducible refine z23 (b:=.append) (xs:=#[.tmp 27,.tmp 29]) rfl ?_);at_builtin;refine Kd.R_append k108 (w0:=w) w.heap.size rfl (.tmp 27) (.tmp 29) 105 108 (.agg #[.int .i64 0,.string ⟨#[]⟩,.int .i64 0]) 32 rfl Tryz.underlying105 infoTok rfl (by decide) (by decide) (.slice A pre.length c) (pre.map (tokS s)) ⟨k,t,j⟩ [.int .i64 k,.string t,.int .i64 j] (fun k=>w.heap.size+3≤k) (fun _=>False) rfl zA0t (k108_mkM _ _ _ _) (fun _ hk=>hk.elim) (fun k hk=>by simp at hk;omega) HO1.out HB2.out HB2.out.size (by rw[List.length_map];have:=HTL.out;omega) ?_;intro v1 w2 ho hb hg hat;obtain⟨hk0,hkb,A',c',rfl,hT⟩:=HW.out w1 w2 HB1.out v1 ho hb _ hg;have HT2:=z00.mk hT;have hd0:w2.cell? ⟨w.heap.size,0,none⟩=some (.slice A pre.length c):=(z01 hk0 0).trans rfl;have hdf:=z03 hk0 0;have hd1:w2.cell? ⟨w1.heap.size,1,none⟩=some (.string t):=(z01 hkb 1).trans rfl;have hne:w1.heap.size≠w.heap.size:=(by omega);clear ho hb hg hat hk0 hkb hT)
      go_roundw
      case rel=>exact⟨j+t.size,pre++[(k,j,t.size)],A',c',by omega,by go_num,HT2⟩
      case measure=>simp[intOf];omega
  · have hltz:decide ((j:Int)<(s.size:Int))=false:=decide_eq_false (by omega);have HW:=z00.mk (HT.out.ends (by omega));have hc0:wr.cell? ⟨w.heap.size,0,none⟩=some (.slice A pre.length c):=(z01 HT.out.b0 0).trans rfl;have hf0:=z03 HT.out.b0 0;have hf1:=z03 HT.out.b1 0;have hf2:=z03 HT.out.b2 0;have hc1:wr.cell? ⟨w.heap.size+1,0,none⟩=some (.int .i64 0):=(z01 HT.out.b1 0).trans rfl;have hc2:wr.cell? ⟨w.heap.size+1+1,0,none⟩=some (.int .i64 0):=(z01 HT.out.b2 0).trans rfl;have hz:=z1u HT.out.b2;go_wp2;refine leaves_cons (f:=95) (args:=#[.pointer (some ⟨w.heap.size,0,none⟩),.pointer (some ⟨w.heap.size+1,0,none⟩),.pointer (some ⟨w.heap.size+1+1,0,none⟩)]) (by simp) (by simp[go_sem]) ?_;refine(tok_idle _ _ _ _).mono ?_;rintro e u' w'' ⟨rfl,rfl,rfl⟩;have h3:=zc0 HT.out.b0 HT.out.b1 HT.out.b2 (.slice A pre.length c) (.int .i64 0) (.int .i64 0);exact⟨_,z6q rfl rfl rfl h3.1 h3.2.1 h3.2.2,HW.out⟩
set_option maxHeartbeats 1600000 in
set_option maxRecDepth 100000 in
theorem zdf (s:ByteArray) (hs:20000<s.size) (w:World) :
 Calls Tryz.prog 63 #[.string s] w fun e w'=>e=.returned (.tuple #[.slice none 0 0,.int .i64 0,.int .i64 4])∧Below w.heap.size w w':=by
 have e0:decide ((20000:Int)<(s.size:Int))=true:=decide_eq_true (by omega);have H3:=z00.mk (z5c w (.cells #[.slice none 0 0] 105) (.cells #[.int .i64 0] 3) (.cells #[.int .i64 4] 40));have HB3:=z00.mk (z8h w (.cells #[.slice none 0 0] 105) (.cells #[.int .i64 0] 3) (.cells #[.int .i64 4] 40));clear hs
 go_enter_defers Tryz.func63,Tryz.ntmps63
 go_wp2;exact⟨_,z6q rfl rfl rfl ((z01 H3.out.1 0).trans rfl) ((z01 H3.out.2.1 0).trans rfl) ((z01 H3.out.2.2 0).trans rfl),rfl,HB3.out⟩
theorem z3v.calls (a0:ByteArray) (r1:List S108) (r2:Int) (r3:Int) (w:World) (hLW:LaidW w) (h:z3v.f a0=some (r1,r2,r3)) :
 Calls Tryz.prog 63 #[.string a0] w fun e w'=>∃v0_:Value,e=.returned (.tuple #[v0_,.int .i64 r2,.int .i64 r3])∧Kd.R k108 108 w' w.heap.size (fun _=>True) v0_ r1∧Below w.heap.size w w':=by
 unfold z3v.f at h
 split at h
 · split at h
   · rename_i hl;injection h with h;injection h with e1 h;injection h with e2 e3
     subst e1;subst e2;subst e3;refine(zdf a0 hl w).mono ?_;rintro e w' ⟨rfl,hb⟩;exact⟨_,rfl,Kd.R_nil _ _ _ _ _,hb⟩
   · rename_i hl;injection h with h
     refine(zed a0 (by omega) w hLW).mono ?_;rintro e w' ⟨v,l,a,b,he,rfl,hr,hb⟩;rw[h]at he;injection he with e1 he;injection he with e2 e3
     subst e1;subst e2;subst e3;exact⟨v,rfl,hr,hb⟩
 · cases h

theorem z55 {P:Program} {fn:Func} {t1 t2:Array Value} {R:Ending→World→Prop} (h:results fn t1=results fn t2):∀(ds:List Deferred) (u:FrameMode) (w:World),Leaves P fn t1 R ds u w→Leaves P fn t2 R ds u w
 |[],.returning,w,hl=>by
  obtain⟨v,h1,h2⟩:=hl;exact⟨v,by rw[←h];exact h1,h2⟩
 |[],.panicking chain,w,hl=>hl
 |[],.run,w,hl=>hl
 |d::ds,u,w,hl=>by
  obtain⟨hne,fv,cap,f,args,ht,hi,hc⟩:=hl;refine⟨hne,fv,cap,f,args,ht,hi,hc.mono ?_⟩;intro e u' w' he
  cases e with
  |returned v=>exact z55 h ds _ _ he
  |panicked c=>exact z55 h ds _ _ he
  |outgrown=>exact he
def z41 (s:ByteArray):List S108 × Int × Int:=if 20000<s.size then([],0,4)else z6m s
def outRes {α:Type} (zero:α) (ts:List S108) (en:Int):Except (Nat × Int) α→α × Int × Int
 |.ok x=>(x,0,0)
 |.error q=>(zero,(seeP ts en (ts.length - q.1)).f2,q.2)
def z3b {α:Type} (zero:α) (p:Prs α) (s:ByteArray):α × Int × Int :=
 if(z41 s).2.2=0 then outRes zero (z41 s).1 s.size (allP p ((z41 s).1.map tkOf))else(zero,(z41 s).2.1,(z41 s).2.2)
theorem lex_env {s:ByteArray} (h:(z41 s).2.2=0):(z41 s).1.length≤20000∧∀x ∈ (z41 s).1,x.f1.size≤281474976710656:=by
 unfold z41 at h ⊢
 split at h
 · cases h
 · rename_i hs;rw[if_neg hs];unfold z6m
   cases ht:tokN nmL vlL 0 s.data.toList with
   |error i=>exact⟨Nat.zero_le _,fun x hx=>by cases hx⟩
   |ok l =>
    have hn:=zce nmL vlL _ s.data.toList 0 l (Nat.le_refl _) ht;rw[z0n]at hn;refine⟨by show(l.map (tokS s)).length≤20000;rw[List.length_map];omega,fun x hx=>?_⟩;obtain⟨y,hy,rfl⟩:=List.mem_map.1 hx;simp only[tokS];rw[ByteArray.size_extract,ByteArray.size_extract];omega
theorem lex_f (s:ByteArray) (hs:s.size≤140737488351232):z3v.f s=some ((z41 s).1,(z41 s).2.1,(z41 s).2.2):=by
 unfold z3v.f z41;rw[if_pos hs]
 split <;> rfl
theorem z5q (n:Nat):∀(vs:List Value) (i:Nat) (W:World),(sets W n i vs).heap.size=W.heap.size
 |[],_,_=>rfl
 |v::vs,i,W=>by
  show(sets (W.setCell ⟨n,i,none⟩ v) n (i+1) vs).heap.size=_;rw[z5q n vs]
  simp
theorem z8p (n:Nat):∀(vs:List Value) (i:Nat) (V W:World),Below 0 V W→Below 0 V (sets W n i vs)
 |[],_,_,_,h=>h
 |v::vs,i,V,W,h=>z8p n vs (i+1) V _ (h.setCell (Nat.zero_le _) v)
theorem zew {B m:Nat} {v w:World} {cs:Array Value} {t:TypeId} (h:Below B v w) (hv:v.heap[m]?=some (.cells cs t (0,0))) (hw:w.heap[m]?=some (.cells cs t (0,0))) (vs:List Value):Below B (sets v m 0 vs) (sets w m 0 vs):=by
 have z1:=z8p m vs 0 v v (Below.refl 0 v);have z2:=z8p m vs 0 w w (Below.refl 0 w);refine⟨z2.os.trans (h.os.trans z1.os.symm),z2.tape.trans (h.tape.trans z1.tape.symm),z2.output.trans (h.output.trans z1.output.symm),by rw[z5q,z5q];exact h.size,fun k hk=>?_⟩
 by_cases hm:k=m
 · subst hm;rw[z2z vs 0 w cs hw,z2z vs 0 v cs hv]
 · have f:∀(vs:List Value) (i:Nat) (W:World),(sets W m i vs).heap[k]?=W.heap[k]?:=by
    intro vs
    induction vs with
    |nil=>intro i W;rfl
    |cons a r ih=>intro i W;exact(ih (i+1) _).trans (Below.heap_setCell W ⟨m,i,none⟩ a k hm)
   rw[f,f];exact h.block k hk
theorem zfp (l:List S108):leftL l 0=l.map tkOf:=by unfold leftL;rw[List.drop_zero]
theorem zgl {α:Type} {p:Prs α} {l:List TK} {q:Nat × Int} (h:p l=.error q):allP p l=.error q:=by unfold allP;rw[h]
theorem all_more {α:Type} {p:Prs α} {l:List TK} {x:α} {r:List TK} (h:p l=.ok (x,r)) (hr:r≠[]):allP p l=.error (r.length,2):=by
 unfold allP;rw[h]
 cases r with
 |nil=>exact absurd rfl hr
 |cons t r=>rfl
theorem all_ok {α:Type} {p:Prs α} {l:List TK} {x:α} (h:p l=.ok (x,[])):allP p l=.ok x:=by unfold allP;rw[h]
theorem blocks4 (w:World) (o0 o1 o2 o3:Obj):((((w.alloc o0).alloc o1).alloc o2).alloc o3).heap[w.heap.size]?=some o0∧((((w.alloc o0).alloc o1).alloc o2).alloc o3).heap[w.heap.size+1]?=some o1∧((((w.alloc o0).alloc o1).alloc o2).alloc o3).heap[w.heap.size+2]?=some o2∧((((w.alloc o0).alloc o1).alloc o2).alloc o3).heap[w.heap.size+3]?=some o3:=by
 have h:=zd4 w o0 o1 o2;have z3:(((w.alloc o0).alloc o1).alloc o2).heap.size=w.heap.size+3:=by simp
 have:=z1h (((w.alloc o0).alloc o1).alloc o2) o3;rw[z3]at this;exact⟨z06 h.1 _,z06 h.2.1 _,z06 h.2.2 _,this⟩
def readP4.T:Bool × List (List Nat × List Nat):=(true,[([],[]),([],[]),([],[]),([0,0],[0]),([1,3,0,1,3],[1]),([2,4,0,1,2,3,4],[2])])
def readP4.B:List Nat:=[0,0,0,1,11,31]
theorem readP4.tab:rtab .any (opsOf Tryz.f53 4)=readP4.T:=by kernel_rfl
theorem readP4.bits:z4j readP4.T.2 readP4.B=true:=by kernel_rfl
def readS4.T:Bool × List (List Nat × List Nat):=(true,[([],[]),([],[]),([],[]),([0,0],[0]),([1,3,0,1,3],[1]),([2,4,0,1,2,3,4],[2])])
def readS4.B:List Nat:=[0,0,0,1,11,31]
theorem z7z {W:World} {g4 g5 g6:Nat} {tmps:Array Value} (t0:tmps.getD 4 undef=.pointer (some ⟨g4,0,none⟩)) (t1:tmps.getD 5 undef=.pointer (some ⟨g5,0,none⟩)) (t2:tmps.getD 6 undef=.pointer (some ⟨g6,0,none⟩))
 {y0 y1 y2:Value} {a b:Int} (h4:W.heap[g4]?=some (.cells #[y0,y1,y2] 27 (0,0))) (h5:W.heap[g5]?=some (.cells #[.int .i64 a] 3 (0,0))) (h6:W.heap[g6]?=some (.cells #[.int .i64 b] 40 (0,0))) :
 (results Tryz.f53 tmps).run Tryz.prog W=.ok (.tuple #[(.agg #[y0,y1,y2]),.int .i64 a,.int .i64 b]) W:=by
 simp only[Array.getD_eq_getD_getElem?]at t0 t1 t2;have c0:W.cell? ⟨g4,0,none⟩=some y0:=(z01 h4 0).trans rfl;have c1:W.cell? ⟨g4,1,none⟩=some y1:=(z01 h4 1).trans rfl;have c2:W.cell? ⟨g4,2,none⟩=some y2:=(z01 h4 2).trans rfl;have d5:W.cell? ⟨g5,0,none⟩=some (.int .i64 a):=(z01 h5 0).trans rfl;have d6:W.cell? ⟨g6,0,none⟩=some (.int .i64 b):=(z01 h6 0).trans rfl
 simp[results,Tryz.results53,go_sem,t0,t1,t2,d5,d6,c0,c1,c2]
theorem putP (a:Act) (m:Nat) (v:Value) (h4:m≠4) (h5:m≠5) (h6:m≠6):results Tryz.f53 (a.put (some m) v).tmps=results Tryz.f53 a.tmps:=by
 simp[results,Tryz.results53,Act.put,Array.getD_eq_getD_getElem?,Array.getElem?_setIfInBounds_ne,h4,h5,h6]
set_option maxHeartbeats 4000000 in
set_option maxRecDepth 100000 in
theorem zcl (s:ByteArray) (hs:s.size≤140737488351232) (w:World) (hLW:LaidW w) :
 Calls Tryz.prog 53 #[.string s,.func (.func 54) #[] #[]] w fun e w'=>∃v,e=.returned (.tuple #[v,.int .i64 (z3b (⟨[],noneA⟩:PgS) z2j s).2.1,.int .i64 (z3b (⟨[],noneA⟩:PgS) z2j s).2.2])∧prV w' w.heap.size v (z3b (⟨[],noneA⟩:PgS) z2j s).1∧Below w.heap.size w w':=by
 have hmf:∀(fn:Fn) (first cap:Array Value) (w:World),(Instr.makeFunc fn first cap).run Tryz.prog w=.ok (.func fn first cap) w:=fun _ _ _ _=>rfl
 have HF:=z00.mk (lex_f s hs);have HEN:=z00.mk (fun h=>lex_env (s:=s) h);obtain⟨r,hr⟩:∃r,z3b (⟨[],noneA⟩:PgS) z2j s=r:=⟨_,rfl⟩
 rw[hr];unfold z3b at hr;obtain⟨⟨l,a,b⟩,hl⟩:∃x,z41 s=x:=⟨_,rfl⟩
 rw[hl]at HF HEN hr;have HR:=z00.mk hr;clear hr hl;obtain⟨n4,en4⟩:∃n,w.heap.size=n:=⟨_,rfl⟩
 have hb0:=blocks4 w (.cells #[.slice none 0 0,.string ⟨#[]⟩,.slice none 0 0] 27) (.cells #[.int .i64 0] 3) (.cells #[.int .i64 0] 40) (.cells #[.slice none 0 0,.string ⟨#[]⟩,.slice none 0 0] 27);rw[en4]at hb0;obtain⟨n5,hn5⟩:∃n,n4+1=n:=⟨_,rfl⟩
 obtain⟨n6,hn6⟩:∃n,n5+1=n:=⟨_,rfl⟩
 obtain⟨n7,hn7⟩:∃n,n6+1=n:=⟨_,rfl⟩
 obtain⟨W0,hW0⟩:∃W,(((w.alloc (.cells #[.slice none 0 0,.string ⟨#[]⟩,.slice none 0 0] 27)).alloc (.cells #[.int .i64 0] 3)).alloc (.cells #[.int .i64 0] 40)).alloc (.cells #[.slice none 0 0,.string ⟨#[]⟩,.slice none 0 0] 27)=W:=⟨_,rfl⟩
 have hB0:Below w.heap.size w W0:=hW0 ▸ z04 (z04 (z04 (z04 (Below.refl _ _) _) _) _) _;rw[hW0,hn5,show n4+2=n6 by omega,show n4+3=n7 by omega]at hb0;have hz0:W0.heap.size=n4+4:=by rw[←hW0];simp[en4]
 have HLX:=z00.mk (z3v.calls s l a b W0 (hLW.below hB0) HF.out);have H0:=z00.mk (And.intro hb0 (And.intro hB0 hz0));have HW0:=z00.mk hW0;have HLW:=z00.mk hLW;clear hb0 hB0 hz0 hW0 hLW hs
 go_enter_defers Tryz.func53,Tryz.ntmps53
 go_wp2_with fail
 rw[HW0.out];refine HLX.out.mono ?_;rintro e w1 ⟨v0,rfl,hv,hb⟩;obtain⟨A,c,rfl⟩:=Kd.R_slice hv;have hz0:=H0.out.2.2;have B4:=z0h H0.out.1.1 hb;have B5:=z0h H0.out.1.2.1 hb;have B6:=z0h H0.out.1.2.2.1 hb;have B7:=z0h H0.out.1.2.2.2 hb;have hc5:w1.cell? ⟨n5,0,none⟩=some (.int .i64 0):=(z01 B5 0).trans rfl;have hc6:w1.cell? ⟨n6,0,none⟩=some (.int .i64 0):=(z01 B6 0).trans rfl;have hf5:=z03 B5 0;have hf6:=z03 B6 0;have hB1:=z14 H0.out.2.1 H0.out.2.1.size hb;obtain⟨W2,hW2⟩:∃W,(w1.setCell ⟨n5,0,none⟩ (.int .i64 a)).setCell ⟨n6,0,none⟩ (.int .i64 b)=W:=⟨_,rfl⟩
 have H4:W2.heap[n4]?=some (.cells #[.slice none 0 0,.string ⟨#[]⟩,.slice none 0 0] 27 (0,0)):=hW2 ▸ z0w (z0w B4 (by show n4≠n5;omega) _) zA1c _;have H5:W2.heap[n5]?=some (.cells #[.int .i64 a] 3 (0,0)):=hW2 ▸ z0w (z0l B5 0 (.int .i64 a) rfl) (by show n5≠n6;omega) _;have H6:W2.heap[n6]?=some (.cells #[.int .i64 b] 40 (0,0)):=hW2 ▸ z0l (z0w B6 (by show n6≠n5;omega) _) 0 (.int .i64 b) rfl;have H7:W2.heap[n7]?=some (.cells #[.slice none 0 0,.string ⟨#[]⟩,.slice none 0 0] 27 (0,0)):=hW2 ▸ z0w (z0w B7 (by show n7≠n5;omega) _) (by show n7≠n6;omega) _;have HB:Below w.heap.size w W2:=hW2 ▸ z08 (z08 hB1 (by omega)) (by omega);have hC:=Kd.R_far (p:=⟨n6,0,none⟩) (Kd.R_far (p:=⟨n5,0,none⟩) (ok:=fun k=>W0.heap.size≤k) (Kd.R_mono (Kd.R_bound hv) (fun k hk=>hk.2.1)) (fun k hk=>by show k≠n5;omega) (.int .i64 a)) (fun k hk=>by show k≠n6;omega) (.int .i64 b);rw[hW2]at hC;have HC:=z00.mk hC;have HBW:=z00.mk HB;have HBL:=z00.mk (And.intro H4 (And.intro H5 (And.intro H6 H7)));have hc6b:W2.cell? ⟨n6,0,none⟩=some (.int .i64 b):=(z01 H6 0).trans rfl;have hn:=And.intro hn5 (And.intro hn6 hn7);have HN:=z00.mk hn;have HW2:=z00.mk hW2;clear H0 HLX hv hb B4 B5 B6 B7 hB1 hC HB H4 H5 H6 H7 hz0 HF hW2
 by_cases hb0:b=0
 · subst hb0;replace HR:=z00.mk (show outRes (⟨[],noneA⟩:PgS) l s.size (allP z2j (l.map tkOf))=r by rw[←HR.out];show _=if(0:Int)=0 then _ else _;rw[if_pos rfl]);replace HEN:=z00.mk (HEN.out rfl);obtain⟨g,eg⟩:∃n,w1.heap.size=n:=⟨_,rfl⟩
   have eg2:W2.heap.size=g:=by rw[←HW2.out];simp[eg]
   have hbg:=z1h W2 (.cells #[.slice A l.length c,.int .i64 0,.int .i64 s.size] 128);rw[eg2]at hbg;have h7g:n7<g:=by have:=z1u HBL.out.2.2.2;omega
   have HRD:Rd W2 (W2.alloc (.cells #[.slice A l.length c,.int .i64 0,.int .i64 s.size] 128)) g l 0 s.size:=⟨A,c,hbg,by omega,TokC.of_R HC.out,Nat.zero_le _,HEN.out.1⟩
   have HP:=zav W2 (W2.alloc (.cells #[.slice A l.length c,.int .i64 0,.int .i64 s.size] 128)) g l 0 s.size ⟨HLW.out.below HBW.out,HEN.out.2⟩ HRD (z04 (Below.refl W2.heap.size W2) _);rw[zfp]at HP;obtain⟨rq,hrq⟩:∃rq,z2j (l.map tkOf)=rq:=⟨_,rfl⟩
   rw[hrq]at HP;have HP:=z00.mk HP;have HRQ:=z00.mk hrq;have H7G:=z00.mk (And.intro h7g eg2);clear hbg HRD hrq h7g eg2
   go_wp2_with fail
   rw[HW2.out];refine HP.out.mono ?_;intro e w4 hp;obtain⟨hn5,hn6,hn7⟩:=HN.out;have h7g:=H7G.out.1;have eg2:=H7G.out.2;rcases hp.split with ⟨y,p',v,rfl,rfl,hv,R,B,K⟩|⟨q,i,p',rfl,h1,h2,rfl,R,B,K⟩
   · have B4:=z0h HBL.out.1 B;have B5:=z0h HBL.out.2.1 B;have B6:=z0h HBL.out.2.2.1 B;have B7:=z0h HBL.out.2.2.2 B;have HB4:=z14 HBW.out HBW.out.size B;have hw3:(W2.alloc (.cells #[.slice A l.length c,.int .i64 0,.int .i64 s.size] 128)).heap.size=g+1:=by simp[eg2]
     obtain⟨u1,u2,rfl,ha,hb'⟩:=hv;obtain⟨A1,c1,rfl⟩:=Kd.R_slice ha;obtain⟨A2,c2,rfl⟩:=Kd.R_slice hb';rw[hw3]at ha hb';obtain⟨Ag,cg,hbg,hgl,hCC,hpl,hll⟩:=id R;have a0:w4.cell? ⟨n4,0,none⟩=some (.slice none 0 0):=(z01 B4 0).trans rfl;have a1:w4.cell? ⟨n4,1,none⟩=some (.string ⟨#[]⟩):=(z01 B4 1).trans rfl;have a2:w4.cell? ⟨n4,2,none⟩=some (.slice none 0 0):=(z01 B4 2).trans rfl;have af0:=z03 B4 0;have af1:=z03 B4 1;have af2:=z03 B4 2;have C4:(((w4.setCell ⟨n4,0,none⟩ (.slice A1 y.f0.length c1)).setCell ⟨n4,1,none⟩ (.string y.f1.f0)).setCell ⟨n4,2,none⟩ (.slice A2 y.f1.f1.length c2)).heap[n4]?=some (.cells #[.slice A1 y.f0.length c1,.string y.f1.f0,.slice A2 y.f1.f1.length c2] 27 (0,0)):=z2z [.slice A1 y.f0.length c1,.string y.f1.f0,.slice A2 y.f1.f1.length c2] 0 w4 #[.slice none 0 0,.string ⟨#[]⟩,.slice none 0 0] B4;have C5:(((w4.setCell ⟨n4,0,none⟩ (.slice A1 y.f0.length c1)).setCell ⟨n4,1,none⟩ (.string y.f1.f0)).setCell ⟨n4,2,none⟩ (.slice A2 y.f1.f1.length c2)).heap[n5]?=some (.cells #[.int .i64 a] 3 (0,0)):=z2h (by omega) [.slice A1 y.f0.length c1,.string y.f1.f0,.slice A2 y.f1.f1.length c2] 0 w4 B5;have C6:(((w4.setCell ⟨n4,0,none⟩ (.slice A1 y.f0.length c1)).setCell ⟨n4,1,none⟩ (.string y.f1.f0)).setCell ⟨n4,2,none⟩ (.slice A2 y.f1.f1.length c2)).heap[n6]?=some (.cells #[.int .i64 0] 40 (0,0)):=z2h (by omega) [.slice A1 y.f0.length c1,.string y.f1.f0,.slice A2 y.f1.f1.length c2] 0 w4 B6;have C7:(((w4.setCell ⟨n4,0,none⟩ (.slice A1 y.f0.length c1)).setCell ⟨n4,1,none⟩ (.string y.f1.f0)).setCell ⟨n4,2,none⟩ (.slice A2 y.f1.f1.length c2)).heap[n7]?=some (.cells #[.slice none 0 0,.string ⟨#[]⟩,.slice none 0 0] 27 (0,0)):=z2h (by omega) [.slice A1 y.f0.length c1,.string y.f1.f0,.slice A2 y.f1.f1.length c2] 0 w4 B7
     have Cg:(((w4.setCell ⟨n4,0,none⟩ (.slice A1 y.f0.length c1)).setCell ⟨n4,1,none⟩ (.string y.f1.f0)).setCell ⟨n4,2,none⟩ (.slice A2 y.f1.f1.length c2)).heap[g]?=some (.cells #[.slice Ag l.length cg,.int .i64 p',.int .i64 s.size] 128 (0,0)):=z2h (by omega) [.slice A1 y.f0.length c1,.string y.f1.f0,.slice A2 y.f1.f1.length c2] 0 w4 hbg;have hcg:(((w4.setCell ⟨n4,0,none⟩ (.slice A1 y.f0.length c1)).setCell ⟨n4,1,none⟩ (.string y.f1.f0)).setCell ⟨n4,2,none⟩ (.slice A2 y.f1.f1.length c2)).cell? ⟨g,1,none⟩=some (.int .i64 p'):=(z01 Cg 1).trans rfl;have HBc:Below w.heap.size w (((w4.setCell ⟨n4,0,none⟩ (.slice A1 y.f0.length c1)).setCell ⟨n4,1,none⟩ (.string y.f1.f0)).setCell ⟨n4,2,none⟩ (.slice A2 y.f1.f1.length c2)):=z2r (by omega) [.slice A1 y.f0.length c1,.string y.f1.f0,.slice A2 y.f1.f1.length c2] 0 w4 HB4;have HO0:=z00.mk (show Kd.R k33 33 (((w4.setCell ⟨n4,0,none⟩ (.slice A1 y.f0.length c1)).setCell ⟨n4,1,none⟩ (.string y.f1.f0)).setCell ⟨n4,2,none⟩ (.slice A2 y.f1.f1.length c2)) (g+1) (fun k=>g+1≤k) (.slice A1 y.f0.length c1) y.f0 from z4p (fun k hk=>by omega) [.slice A1 y.f0.length c1,.string y.f1.f0,.slice A2 y.f1.f1.length c2] 0 w4 ha);have HO1:=z00.mk (show Kd.R k60 60 (((w4.setCell ⟨n4,0,none⟩ (.slice A1 y.f0.length c1)).setCell ⟨n4,1,none⟩ (.string y.f1.f0)).setCell ⟨n4,2,none⟩ (.slice A2 y.f1.f1.length c2)) (g+1) (fun k=>g+1≤k) (.slice A2 y.f1.f1.length c2) y.f1.f1 from z4p (fun k hk=>by omega) [.slice A1 y.f0.length c1,.string y.f1.f0,.slice A2 y.f1.f1.length c2] 0 w4 hb');have hKW:z0v W2 (sets W2 n4 0 [.slice A1 y.f0.length c1,.string y.f1.f0,.slice A2 y.f1.f1.length c2]) n4 none:=z0v.set_ (z0v.set_ (z0v.set_ (z0v.refl W2 n4 none) 0 (.slice A1 y.f0.length c1)) 1 (.string y.f1.f0)) 2 (.slice A2 y.f1.f1.length c2);have hLL:(l.length:Int)=(l.length:Int):=rfl
     by_cases hlt:p'<l.length
     · have hltz:decide ((p':Int)<(l.length:Int))=true:=decide_eq_true (by omega);have hltz2:decide (p'<l.length)=true:=decide_eq_true hlt;have hRc : Rd (sets W2 n4 0 [.slice A1 y.f0.length c1, .string y.f1.f0, .slice A2 y.f1.f1.length c2]) (((w4.setCell ⟨n4, 0, none⟩ (.slice A1 y.f0.length c1)).setCell ⟨n4, 1, none⟩ (.string y.f1.f0)).setCell ⟨n4, 2, none⟩ (.slice A2 y.f1.f1.length c2)) g l p' s.size := ⟨Ag, cg, Cg, by rw [z5q]; exact hgl, hCC.far (fun ad he=>by
        obtain⟨cells,hc⟩:=hCC.2 ad he (by intro h0;rw[h0]at hlt;simp at hlt);intro hm;rw[hm,HBL.out.1]at hc
        cases hc) hKW,hpl,hll⟩
       have hBc:Below (sets W2 n4 0 [.slice A1 y.f0.length c1,.string y.f1.f0,.slice A2 y.f1.f1.length c2]).heap.size (sets W2 n4 0 [.slice A1 y.f0.length c1,.string y.f1.f0,.slice A2 y.f1.f1.length c2]) (((w4.setCell ⟨n4,0,none⟩ (.slice A1 y.f0.length c1)).setCell ⟨n4,1,none⟩ (.string y.f1.f0)).setCell ⟨n4,2,none⟩ (.slice A2 y.f1.f1.length c2)):=by rw[z5q];exact zew B HBL.out.1 B4 [.slice A1 y.f0.length c1,.string y.f1.f0,.slice A2 y.f1.f1.length c2]
       have HFL:=z00.mk (z47 (sets W2 n4 0 [.slice A1 y.f0.length c1,.string y.f1.f0,.slice A2 y.f1.f1.length c2]) (((w4.setCell ⟨n4,0,none⟩ (.slice A1 y.f0.length c1)).setCell ⟨n4,1,none⟩ (.string y.f1.f0)).setCell ⟨n4,2,none⟩ (.slice A2 y.f1.f1.length c2)) g l p' s.size 2 hRc hBc);have hne:leftL l p'≠[]:=fun h0=>by
        have:=congrArg List.length h0;rw[z13]at this
        simp at this
        omega
       rw[all_more HRQ.out hne,z13]at HR;replace HR:=z00.mk (show((⟨[],noneA⟩:PgS),(seeP l s.size (l.length - (l.length - p'))).f2,(2:Int))=r from HR.out);rw[show l.length - (l.length - p')=p' by omega]at HR;obtain rfl:=HR.out;clear hRc hBc hKW
       go_wp2_with fail
       refine HFL.out.mono ?_;rintro e w6 ⟨rfl,R6,B6',K6⟩;have D4:=z0h (show(sets W2 n4 0 [.slice A1 y.f0.length c1,.string y.f1.f0,.slice A2 y.f1.f1.length c2]).heap[n4]?=some (.cells #[.slice A1 y.f0.length c1,.string y.f1.f0,.slice A2 y.f1.f1.length c2] 27 (0,0))from z2z [.slice A1 y.f0.length c1,.string y.f1.f0,.slice A2 y.f1.f1.length c2] 0 W2 #[.slice none 0 0,.string ⟨#[]⟩,.slice none 0 0] HBL.out.1) B6';have D5:=z0h (show(sets W2 n4 0 [.slice A1 y.f0.length c1,.string y.f1.f0,.slice A2 y.f1.f1.length c2]).heap[n5]?=some (.cells #[.int .i64 a] 3 (0,0))from z2h (by omega) [.slice A1 y.f0.length c1,.string y.f1.f0,.slice A2 y.f1.f1.length c2] 0 W2 HBL.out.2.1) B6';have D6:=z0h (show(sets W2 n4 0 [.slice A1 y.f0.length c1,.string y.f1.f0,.slice A2 y.f1.f1.length c2]).heap[n6]?=some (.cells #[.int .i64 0] 40 (0,0))from z2h (by omega) [.slice A1 y.f0.length c1,.string y.f1.f0,.slice A2 y.f1.f1.length c2] 0 W2 HBL.out.2.2.1) B6';have D7:=z0h (show(sets W2 n4 0 [.slice A1 y.f0.length c1,.string y.f1.f0,.slice A2 y.f1.f1.length c2]).heap[n7]?=some (.cells #[.slice none 0 0,.string ⟨#[]⟩,.slice none 0 0] 27 (0,0))from z2h (by omega) [.slice A1 y.f0.length c1,.string y.f1.f0,.slice A2 y.f1.f1.length c2] 0 W2 HBL.out.2.2.2) B6';have HB6:=z14 (z2r (show w.heap.size≤n4 by omega) [.slice A1 y.f0.length c1,.string y.f1.f0,.slice A2 y.f1.f1.length c2] 0 W2 HBW.out) (by rw[z5q];exact HBW.out.size) B6';refine leaves_cons (f:=81) (args:=#[.pointer (some ⟨n7,0,none⟩),.pointer (some ⟨n4,0,none⟩),.pointer (some ⟨n5,0,none⟩),.pointer (some ⟨n6,0,none⟩)]) (by simp) (by simp[go_sem]) ?_;refine(zg8 n7 n4 n5 n6 (seeP l s.size p').f2 2 [] w6 (.slice A1 y.f0.length c1) (.string y.f1.f0) (.slice A2 y.f1.f1.length c2) _ _ D7 D4 D5 D6 (by omega) (by omega) (by omega) (by omega) (by omega) (by omega)).mono ?_;rintro e u' w'' ⟨rfl,rfl,F4,F5,F6,HBB⟩
       exact⟨_,z7z rfl rfl rfl F4 F5 F6,_,rfl,⟨_,_,rfl,Kd.R_nil _ _ _ _ _,Kd.R_nil _ _ _ _ _⟩,by have h:=HBB _ _ HB6 (by omega) (by omega) (by omega) HB6.size;first|exact h|(rw[en4]at h;exact h)⟩
     · have hltz:decide ((p':Int)<(l.length:Int))=false:=decide_eq_false (by omega);have hltz2:decide (p'<l.length)=false:=decide_eq_false hlt;have hnil:leftL l p'=[]:=List.length_eq_zero_iff.1 (by rw[z13];omega);rw[hnil]at HRQ;rw[all_ok HRQ.out]at HR;replace HR:=z00.mk (show(y,(0:Int),(0:Int))=r from HR.out);obtain rfl:=HR.out;clear hKW;have b0:(((w4.setCell ⟨n4,0,none⟩ (.slice A1 y.f0.length c1)).setCell ⟨n4,1,none⟩ (.string y.f1.f0)).setCell ⟨n4,2,none⟩ (.slice A2 y.f1.f1.length c2)).cell? ⟨n4,0,none⟩=some (.slice A1 y.f0.length c1):=(z01 C4 0).trans rfl;have b1:(((w4.setCell ⟨n4,0,none⟩ (.slice A1 y.f0.length c1)).setCell ⟨n4,1,none⟩ (.string y.f1.f0)).setCell ⟨n4,2,none⟩ (.slice A2 y.f1.f1.length c2)).cell? ⟨n4,1,none⟩=some (.string y.f1.f0):=(z01 C4 1).trans rfl;have b2:(((w4.setCell ⟨n4,0,none⟩ (.slice A1 y.f0.length c1)).setCell ⟨n4,1,none⟩ (.string y.f1.f0)).setCell ⟨n4,2,none⟩ (.slice A2 y.f1.f1.length c2)).cell? ⟨n4,2,none⟩=some (.slice A2 y.f1.f1.length c2):=(z01 C4 2).trans rfl;have bf0:=z03 C4 0;have bf1:=z03 C4 1;have bf2:=z03 C4 2;have g5:(((w4.setCell ⟨n4,0,none⟩ (.slice A1 y.f0.length c1)).setCell ⟨n4,1,none⟩ (.string y.f1.f0)).setCell ⟨n4,2,none⟩ (.slice A2 y.f1.f1.length c2)).cell? ⟨n5,0,none⟩=some (.int .i64 a):=(z01 C5 0).trans rfl;have g6:(((w4.setCell ⟨n4,0,none⟩ (.slice A1 y.f0.length c1)).setCell ⟨n4,1,none⟩ (.string y.f1.f0)).setCell ⟨n4,2,none⟩ (.slice A2 y.f1.f1.length c2)).cell? ⟨n6,0,none⟩=some (.int .i64 0):=(z01 C6 0).trans rfl;have gf5:=z03 C5 0;have gf6:=z03 C6 0
       have D4:((((((((w4.setCell ⟨n4,0,none⟩ (.slice A1 y.f0.length c1)).setCell ⟨n4,1,none⟩ (.string y.f1.f0)).setCell ⟨n4,2,none⟩ (.slice A2 y.f1.f1.length c2)).setCell ⟨n4,0,none⟩ (.slice A1 y.f0.length c1)).setCell ⟨n4,1,none⟩ (.string y.f1.f0)).setCell ⟨n4,2,none⟩ (.slice A2 y.f1.f1.length c2)).setCell ⟨n5,0,none⟩ (.int .i64 0)).setCell ⟨n6,0,none⟩ (.int .i64 0)).heap[n4]?=some (.cells #[.slice A1 y.f0.length c1,.string y.f1.f0,.slice A2 y.f1.f1.length c2] 27 (0,0)):=z0w (z0w (z2z [.slice A1 y.f0.length c1,.string y.f1.f0,.slice A2 y.f1.f1.length c2] 0 (((w4.setCell ⟨n4,0,none⟩ (.slice A1 y.f0.length c1)).setCell ⟨n4,1,none⟩ (.string y.f1.f0)).setCell ⟨n4,2,none⟩ (.slice A2 y.f1.f1.length c2)) #[.slice A1 y.f0.length c1,.string y.f1.f0,.slice A2 y.f1.f1.length c2] C4) (by show n4≠n5;omega) _) zA1c _;have D5:((((((((w4.setCell ⟨n4,0,none⟩ (.slice A1 y.f0.length c1)).setCell ⟨n4,1,none⟩ (.string y.f1.f0)).setCell ⟨n4,2,none⟩ (.slice A2 y.f1.f1.length c2)).setCell ⟨n4,0,none⟩ (.slice A1 y.f0.length c1)).setCell ⟨n4,1,none⟩ (.string y.f1.f0)).setCell ⟨n4,2,none⟩ (.slice A2 y.f1.f1.length c2)).setCell ⟨n5,0,none⟩ (.int .i64 0)).setCell ⟨n6,0,none⟩ (.int .i64 0)).heap[n5]?=some (.cells #[.int .i64 0] 3 (0,0)):=z0w (z0l (z2h (by omega) [.slice A1 y.f0.length c1,.string y.f1.f0,.slice A2 y.f1.f1.length c2] 0 (((w4.setCell ⟨n4,0,none⟩ (.slice A1 y.f0.length c1)).setCell ⟨n4,1,none⟩ (.string y.f1.f0)).setCell ⟨n4,2,none⟩ (.slice A2 y.f1.f1.length c2)) C5) 0 (.int .i64 0) rfl) (by show n5≠n6;omega) _
       have D6:((((((((w4.setCell ⟨n4,0,none⟩ (.slice A1 y.f0.length c1)).setCell ⟨n4,1,none⟩ (.string y.f1.f0)).setCell ⟨n4,2,none⟩ (.slice A2 y.f1.f1.length c2)).setCell ⟨n4,0,none⟩ (.slice A1 y.f0.length c1)).setCell ⟨n4,1,none⟩ (.string y.f1.f0)).setCell ⟨n4,2,none⟩ (.slice A2 y.f1.f1.length c2)).setCell ⟨n5,0,none⟩ (.int .i64 0)).setCell ⟨n6,0,none⟩ (.int .i64 0)).heap[n6]?=some (.cells #[.int .i64 0] 40 (0,0)):=z0l (z0w (z2h (by omega) [.slice A1 y.f0.length c1,.string y.f1.f0,.slice A2 y.f1.f1.length c2] 0 (((w4.setCell ⟨n4,0,none⟩ (.slice A1 y.f0.length c1)).setCell ⟨n4,1,none⟩ (.string y.f1.f0)).setCell ⟨n4,2,none⟩ (.slice A2 y.f1.f1.length c2)) C6) (by show n6≠n5;omega) _) 0 (.int .i64 0) rfl;have HBD:Below w.heap.size w ((((((((w4.setCell ⟨n4,0,none⟩ (.slice A1 y.f0.length c1)).setCell ⟨n4,1,none⟩ (.string y.f1.f0)).setCell ⟨n4,2,none⟩ (.slice A2 y.f1.f1.length c2)).setCell ⟨n4,0,none⟩ (.slice A1 y.f0.length c1)).setCell ⟨n4,1,none⟩ (.string y.f1.f0)).setCell ⟨n4,2,none⟩ (.slice A2 y.f1.f1.length c2)).setCell ⟨n5,0,none⟩ (.int .i64 0)).setCell ⟨n6,0,none⟩ (.int .i64 0)):=z08 (z08 (z2r (show w.heap.size≤n4 by omega) [.slice A1 y.f0.length c1,.string y.f1.f0,.slice A2 y.f1.f1.length c2] 0 (((w4.setCell ⟨n4,0,none⟩ (.slice A1 y.f0.length c1)).setCell ⟨n4,1,none⟩ (.string y.f1.f0)).setCell ⟨n4,2,none⟩ (.slice A2 y.f1.f1.length c2)) HBc) (by omega)) (by omega)
       have HE0:=z00.mk (show Kd.R k33 33 ((((((((w4.setCell ⟨n4,0,none⟩ (.slice A1 y.f0.length c1)).setCell ⟨n4,1,none⟩ (.string y.f1.f0)).setCell ⟨n4,2,none⟩ (.slice A2 y.f1.f1.length c2)).setCell ⟨n4,0,none⟩ (.slice A1 y.f0.length c1)).setCell ⟨n4,1,none⟩ (.string y.f1.f0)).setCell ⟨n4,2,none⟩ (.slice A2 y.f1.f1.length c2)).setCell ⟨n5,0,none⟩ (.int .i64 0)).setCell ⟨n6,0,none⟩ (.int .i64 0)) (g+1) (fun k=>g+1≤k) (.slice A1 y.f0.length c1) y.f0 from Kd.R_far (Kd.R_far (z4p (fun k hk=>by omega) [.slice A1 y.f0.length c1,.string y.f1.f0,.slice A2 y.f1.f1.length c2] 0 (((w4.setCell ⟨n4,0,none⟩ (.slice A1 y.f0.length c1)).setCell ⟨n4,1,none⟩ (.string y.f1.f0)).setCell ⟨n4,2,none⟩ (.slice A2 y.f1.f1.length c2)) HO0.out) (fun k hk=>by show k≠n5;omega) _) (fun k hk=>by show k≠n6;omega) _);have HE1:=z00.mk (show Kd.R k60 60 ((((((((w4.setCell ⟨n4,0,none⟩ (.slice A1 y.f0.length c1)).setCell ⟨n4,1,none⟩ (.string y.f1.f0)).setCell ⟨n4,2,none⟩ (.slice A2 y.f1.f1.length c2)).setCell ⟨n4,0,none⟩ (.slice A1 y.f0.length c1)).setCell ⟨n4,1,none⟩ (.string y.f1.f0)).setCell ⟨n4,2,none⟩ (.slice A2 y.f1.f1.length c2)).setCell ⟨n5,0,none⟩ (.int .i64 0)).setCell ⟨n6,0,none⟩ (.int .i64 0)) (g+1) (fun k=>g+1≤k) (.slice A2 y.f1.f1.length c2) y.f1.f1 from Kd.R_far (Kd.R_far (z4p (fun k hk=>by omega) [.slice A1 y.f0.length c1,.string y.f1.f0,.slice A2 y.f1.f1.length c2] 0 (((w4.setCell ⟨n4,0,none⟩ (.slice A1 y.f0.length c1)).setCell ⟨n4,1,none⟩ (.string y.f1.f0)).setCell ⟨n4,2,none⟩ (.slice A2 y.f1.f1.length c2)) HO1.out) (fun k hk=>by show k≠n5;omega) _) (fun k hk=>by show k≠n6;omega) _);have HD:=z00.mk (And.intro D4 (And.intro D5 (And.intro D6 HBD)));clear D4 D5 D6 HBD C4 C5 C6 C7 HBc B4 B5 B6 B7 HB4 R B K hp Cg hbg hgl hCC hpl hll;go_wp2;refine leaves_cons (f:=81) (args:=#[.pointer (some ⟨n7,0,none⟩),.pointer (some ⟨n4,0,none⟩),.pointer (some ⟨n5,0,none⟩),.pointer (some ⟨n6,0,none⟩)]) (by simp) (by simp[go_sem]) ?_;refine(idleP _ _ _ _ _).mono ?_;rintro e u' w'' ⟨rfl,rfl,rfl⟩
       exact⟨_,z7z rfl rfl rfl (z06 HD.out.1 _) (z06 HD.out.2.1 _) (z06 HD.out.2.2.1 _),_,rfl,⟨_,_,rfl,Kd.R_mono (Kd.R_lower (Kd.R_alloc HE0.out _) (show n4≤g+1 by omega)) (fun k hk=>by omega),Kd.R_mono (Kd.R_lower (Kd.R_alloc HE1.out _) (show n4≤g+1 by omega)) (fun k hk=>by omega)⟩,by have h:=z04 HD.out.2.2.2 (.cells #[.int .i64 0,.int .i64 0] 125);rw[en4]at h;exact h⟩
   · have B4:=z0h HBL.out.1 B;have B5:=z0h HBL.out.2.1 B;have B6:=z0h HBL.out.2.2.1 B;have B7:=z0h HBL.out.2.2.2 B;have HB4:=z14 HBW.out HBW.out.size B;rw[zgl HRQ.out]at HR;replace HR:=z00.mk (show((⟨[],noneA⟩:PgS),(seeP l s.size (l.length - q.1)).f2,q.2)=r from HR.out);obtain rfl:=HR.out;obtain rfl:i=l.length - q.1:=by omega
     refine leaves_cons (f:=81) (args:=#[.pointer (some ⟨n7,0,none⟩),.pointer (some ⟨n4,0,none⟩),.pointer (some ⟨n5,0,none⟩),.pointer (some ⟨n6,0,none⟩)]) (by simp) (by simp[go_sem]) ?_;refine(zg8 n7 n4 n5 n6 (seeP l s.size (l.length - q.1)).f2 q.2 [] w4 (.slice none 0 0) (.string ⟨#[]⟩) (.slice none 0 0) _ _ B7 B4 B5 B6 (by omega) (by omega) (by omega) (by omega) (by omega) (by omega)).mono ?_;rintro e u' w'' ⟨rfl,rfl,F4,F5,F6,HBB⟩;exact⟨_,z7z rfl rfl rfl F4 F5 F6,_,rfl,⟨_,_,rfl,Kd.R_nil _ _ _ _ _,Kd.R_nil _ _ _ _ _⟩,by have h:=HBB _ _ HB4 (by omega) (by omega) (by omega) HB4.size;first|exact h|(rw[en4]at h;exact h)⟩
 · have hbne:(b !=0)=true:=bne_iff_ne.2 hb0;have hbeq:(b==0)=false:=beq_eq_false_iff_ne.2 hb0;replace HR:=z00.mk (show((⟨[],noneA⟩:PgS),a,b)=r by rw[←HR.out];show _=if b=0 then _ else _;rw[if_neg hb0]);obtain rfl:=HR.out
   go_wp2_with fail
   rw[HW2.out];have B4:=z09 HBL.out.1;have B5:=z09 HBL.out.2.1;have B6:=z09 HBL.out.2.2.1;have B7:=z09 HBL.out.2.2.2;have HB:=z05 HBW.out;refine z78 (n:=6) (S:=fun w'=>w'.cell? ⟨n5,0,none⟩=some (.int .i64 a)∧w'.cell? ⟨n6,0,none⟩=some (.int .i64 b)∧w'.cell? ⟨n7,0,none⟩=some (.slice none 0 0)∧w'.cell? ⟨n7,1,none⟩=some (.string ⟨#[]⟩)∧w'.cell? ⟨n7,2,none⟩=some (.slice none 0 0)) (ds:=[5]) #[false,false,false,false,false,false] (by kernel_rfl) rfl rfl ⟨(z01 B5 0).trans rfl,(z01 B6 0).trans rfl,(z01 B7 0).trans rfl,(z01 B7 1).trans rfl,(z01 B7 2).trans rfl⟩ (fun hHeld=>?_);refine z4a readP4.tab readP4.bits (fun HT_ HW_=>?_)
   generalize W2.drew=W at B4 B5 B6 B7 HB hHeld ⊢
   refine take_ (i:=0) (N:=some 18) (v:=?_) (a':=?_) #[true,false,false,false,false,false] rfl rfl (z2v HT_.out HW_.out (by kernel_rfl)) (fun c a w h=>z55 (putP a _ _ (by decide) (by decide) (by decide)) _ _ _ h) (Or.inl ⟨by rfl,?_⟩) hHeld ?_ ?_
   rotate_left
   · rintro w' ⟨s0,s1,z0,z1,z2⟩
     go_simp
     with_reducible rfl
   rotate_left
   · simp only[Act.put,List.setIfInBounds_toArray,List.set_cons_zero,List.set_cons_succ,i64_w,i32_w];rfl
   refine take_ (i:=1) (N:=some 19) (v:=?_) (a':=?_) #[true,true,false,false,false,false] rfl rfl (z2v HT_.out HW_.out (by kernel_rfl)) (fun c a w h=>z55 (putP a _ _ (by decide) (by decide) (by decide)) _ _ _ h) (Or.inl ⟨by rfl,?_⟩) hHeld ?_ ?_
   rotate_left
   · rintro w' ⟨s0,s1,z0,z1,z2⟩
     go_simp
     with_reducible rfl
   rotate_left
   · simp only[Act.put,List.setIfInBounds_toArray,List.set_cons_zero,List.set_cons_succ,i64_w,i32_w];rfl
   refine take_ (i:=2) (N:=some 20) (v:=?_) (a':=?_) #[true,true,true,false,false,false] rfl rfl (z2v HT_.out HW_.out (by kernel_rfl)) (fun c a w h=>z55 (putP a _ _ (by decide) (by decide) (by decide)) _ _ _ h) (Or.inl ⟨by rfl,?_⟩) hHeld ?_ ?_
   rotate_left
   · rintro w' ⟨s0,s1,z0,z1,z2⟩
     go_simp
     with_reducible rfl
   rotate_left
   · simp only[Act.put,List.setIfInBounds_toArray,List.set_cons_zero,List.set_cons_succ,i64_w,i32_w];rfl
   refine one_ (i:=3) (N:=none) #[true,true,true,true,false,false] rfl rfl (z2w HT_.out (by kernel_rfl)) (by decide) (fun K hK=>?_);have a0:W.cell? ⟨n4,0,none⟩=some (.slice none 0 0):=(z01 B4 0).trans rfl;have a1:W.cell? ⟨n4,1,none⟩=some (.string ⟨#[]⟩):=(z01 B4 1).trans rfl;have a2:W.cell? ⟨n4,2,none⟩=some (.slice none 0 0):=(z01 B4 2).trans rfl;have af0:=z03 B4 0;have af1:=z03 B4 1;have af2:=z03 B4 2;refine skip_ (w1:=?_) (by rfl) rfl ?_ ?_
   rotate_left
   · go_simp
     rfl
   have C4:(((W.setCell ⟨n4,0,none⟩ (.slice none 0 0)).setCell ⟨n4,1,none⟩ (.string ⟨#[]⟩)).setCell ⟨n4,2,none⟩ (.slice none 0 0)).heap[n4]?=some (.cells #[.slice none 0 0,.string ⟨#[]⟩,.slice none 0 0] 27 (0,0)):=z2z [.slice none 0 0,.string ⟨#[]⟩,.slice none 0 0] 0 W #[.slice none 0 0,.string ⟨#[]⟩,.slice none 0 0] B4;have C5:(((W.setCell ⟨n4,0,none⟩ (.slice none 0 0)).setCell ⟨n4,1,none⟩ (.string ⟨#[]⟩)).setCell ⟨n4,2,none⟩ (.slice none 0 0)).heap[n5]?=some (.cells #[.int .i64 a] 3 (0,0)):=z2h (by omega) [.slice none 0 0,.string ⟨#[]⟩,.slice none 0 0] 0 W B5;have C6:(((W.setCell ⟨n4,0,none⟩ (.slice none 0 0)).setCell ⟨n4,1,none⟩ (.string ⟨#[]⟩)).setCell ⟨n4,2,none⟩ (.slice none 0 0)).heap[n6]?=some (.cells #[.int .i64 b] 40 (0,0)):=z2h (by omega) [.slice none 0 0,.string ⟨#[]⟩,.slice none 0 0] 0 W B6;have C7:(((W.setCell ⟨n4,0,none⟩ (.slice none 0 0)).setCell ⟨n4,1,none⟩ (.string ⟨#[]⟩)).setCell ⟨n4,2,none⟩ (.slice none 0 0)).heap[n7]?=some (.cells #[.slice none 0 0,.string ⟨#[]⟩,.slice none 0 0] 27 (0,0)):=z2h (by omega) [.slice none 0 0,.string ⟨#[]⟩,.slice none 0 0] 0 W B7;refine hK.out _ _ ⟨(z01 C5 0).trans rfl,(z01 C6 0).trans rfl,(z01 C7 0).trans rfl,(z01 C7 1).trans rfl,(z01 C7 2).trans rfl⟩ (fun hHeld=>?_);clear hK K;refine one_ (i:=4) (N:=none) #[true,true,true,true,true,false] rfl rfl (z2w HT_.out (by kernel_rfl)) (by decide) (fun K hK=>?_);have b0:(((W.setCell ⟨n4,0,none⟩ (.slice none 0 0)).setCell ⟨n4,1,none⟩ (.string ⟨#[]⟩)).setCell ⟨n4,2,none⟩ (.slice none 0 0)).cell? ⟨n5,0,none⟩=some (.int .i64 a):=(z01 C5 0).trans rfl;have bf0:=z03 C5 0;refine skip_ (w1:=?_) (by rfl) rfl ?_ ?_
   rotate_left
   · go_simp
     rfl
   have E4:((((W.setCell ⟨n4,0,none⟩ (.slice none 0 0)).setCell ⟨n4,1,none⟩ (.string ⟨#[]⟩)).setCell ⟨n4,2,none⟩ (.slice none 0 0)).setCell ⟨n5,0,none⟩ (.int .i64 a)).heap[n4]?=some (.cells #[.slice none 0 0,.string ⟨#[]⟩,.slice none 0 0] 27 (0,0)):=z0w C4 (by show n4≠n5;omega) _;have E5:((((W.setCell ⟨n4,0,none⟩ (.slice none 0 0)).setCell ⟨n4,1,none⟩ (.string ⟨#[]⟩)).setCell ⟨n4,2,none⟩ (.slice none 0 0)).setCell ⟨n5,0,none⟩ (.int .i64 a)).heap[n5]?=some (.cells #[.int .i64 a] 3 (0,0)):=z0l C5 0 (.int .i64 a) rfl;have E6:((((W.setCell ⟨n4,0,none⟩ (.slice none 0 0)).setCell ⟨n4,1,none⟩ (.string ⟨#[]⟩)).setCell ⟨n4,2,none⟩ (.slice none 0 0)).setCell ⟨n5,0,none⟩ (.int .i64 a)).heap[n6]?=some (.cells #[.int .i64 b] 40 (0,0)):=z0w C6 (by show n6≠n5;omega) _;have E7:((((W.setCell ⟨n4,0,none⟩ (.slice none 0 0)).setCell ⟨n4,1,none⟩ (.string ⟨#[]⟩)).setCell ⟨n4,2,none⟩ (.slice none 0 0)).setCell ⟨n5,0,none⟩ (.int .i64 a)).heap[n7]?=some (.cells #[.slice none 0 0,.string ⟨#[]⟩,.slice none 0 0] 27 (0,0)):=z0w C7 (by show n7≠n5;omega) _;refine hK.out _ _ ⟨(z01 E5 0).trans rfl,(z01 E6 0).trans rfl,(z01 E7 0).trans rfl,(z01 E7 1).trans rfl,(z01 E7 2).trans rfl⟩ (fun hHeld=>?_);clear hK K;refine last_ (i:=5) (N:=none) #[true,true,true,true,true,true] rfl rfl (z2w HT_.out (by kernel_rfl)) (by decide) (fun K hK=>?_);have c0:((((W.setCell ⟨n4,0,none⟩ (.slice none 0 0)).setCell ⟨n4,1,none⟩ (.string ⟨#[]⟩)).setCell ⟨n4,2,none⟩ (.slice none 0 0)).setCell ⟨n5,0,none⟩ (.int .i64 a)).cell? ⟨n6,0,none⟩=some (.int .i64 b):=(z01 E6 0).trans rfl;have cf0:=z03 E6 0;refine skip_ (w1:=?_) (by rfl) rfl ?_ ?_
   rotate_left
   · go_simp
     rfl
   refine hK.out _ _ ?_;clear hK K;refine done_ (z5v HT_.out (by kernel_rfl)) ?_;have F4:(((((W.setCell ⟨n4,0,none⟩ (.slice none 0 0)).setCell ⟨n4,1,none⟩ (.string ⟨#[]⟩)).setCell ⟨n4,2,none⟩ (.slice none 0 0)).setCell ⟨n5,0,none⟩ (.int .i64 a)).setCell ⟨n6,0,none⟩ (.int .i64 b)).heap[n4]?=some (.cells #[.slice none 0 0,.string ⟨#[]⟩,.slice none 0 0] 27 (0,0)):=z0w E4 zA1c _;have F5:(((((W.setCell ⟨n4,0,none⟩ (.slice none 0 0)).setCell ⟨n4,1,none⟩ (.string ⟨#[]⟩)).setCell ⟨n4,2,none⟩ (.slice none 0 0)).setCell ⟨n5,0,none⟩ (.int .i64 a)).setCell ⟨n6,0,none⟩ (.int .i64 b)).heap[n5]?=some (.cells #[.int .i64 a] 3 (0,0)):=z0w E5 (by show n5≠n6;omega) _;have F6:(((((W.setCell ⟨n4,0,none⟩ (.slice none 0 0)).setCell ⟨n4,1,none⟩ (.string ⟨#[]⟩)).setCell ⟨n4,2,none⟩ (.slice none 0 0)).setCell ⟨n5,0,none⟩ (.int .i64 a)).setCell ⟨n6,0,none⟩ (.int .i64 b)).heap[n6]?=some (.cells #[.int .i64 b] 40 (0,0)):=z0l E6 0 (.int .i64 b) rfl;have HB3:Below w.heap.size w (((((W.setCell ⟨n4,0,none⟩ (.slice none 0 0)).setCell ⟨n4,1,none⟩ (.string ⟨#[]⟩)).setCell ⟨n4,2,none⟩ (.slice none 0 0)).setCell ⟨n5,0,none⟩ (.int .i64 a)).setCell ⟨n6,0,none⟩ (.int .i64 b)):=(((((HB).setCell (show w.heap.size≤n4 by omega) _).setCell (show w.heap.size≤n4 by omega) _).setCell (show w.heap.size≤n4 by omega) _).setCell (show w.heap.size≤n5 by omega) _).setCell (show w.heap.size≤n6 by omega) _;go_wp2;exact⟨_,z7z rfl rfl rfl F4 F5 F6,_,rfl,⟨_,_,rfl,Kd.R_nil _ _ _ _ _,Kd.R_nil _ _ _ _ _⟩,by have h:=HB3;rw[en4]at h;exact h⟩

def z2t.f (a0:ByteArray):Option (List RlS × ByteArray × List TmS × Int × Int) :=
 if a0.size≤140737488351232 then some ((z3b (⟨[],noneA⟩:PgS) z2j a0).1.f0,(z3b (⟨[],noneA⟩:PgS) z2j a0).1.f1.f0,(z3b (⟨[],noneA⟩:PgS) z2j a0).1.f1.f1,(z3b (⟨[],noneA⟩:PgS) z2j a0).2.1,(z3b (⟨[],noneA⟩:PgS) z2j a0).2.2)else none
set_option maxHeartbeats 1600000 in
set_option maxRecDepth 100000 in
theorem z2t.calls (a0:ByteArray) (r1:List RlS) (r2:ByteArray) (r3:List TmS) (r4:Int) (r5:Int) (w:World) (hLW:LaidW w) (h:z2t.f a0=some (r1,r2,r3,r4,r5)) :
 Calls Tryz.prog 29 #[.string a0] w fun e w'=>∃v0_ v1_:Value,e=.returned (.tuple #[.agg #[v0_,.string r2,v1_],.int .i64 r4,.int .i64 r5])∧Kd.R k33 33 w' w.heap.size (fun _=>True) v0_ r1∧Kd.R k60 60 w' w.heap.size (fun _=>True) v1_ r3∧Below w.heap.size w w':=by
 unfold z2t.f at h
 split at h
 case isFalse=>cases h
 rename_i hs;have hB0:Below w.heap.size w (w.alloc (.cells zProg 27)):=z04 (Below.refl _ _) _;have hP:=zcl a0 hs (w.alloc (.cells zProg 27)) (hLW.below hB0);obtain⟨⟨⟨f0,⟨q0,q1⟩⟩,ra,rb⟩,hr⟩:∃x,z3b (⟨[],noneA⟩:PgS) z2j a0=x:=⟨_,rfl⟩
 rw[hr]at h hP;have h:=Option.some.inj h;injection h with h1 h;injection h with h2 h;injection h with h3 h;injection h with h4 h5
 subst h1 h2 h3 h4 h5;have HP:=z00.mk hP;obtain⟨n,en⟩:∃n,w.heap.size=n:=⟨_,rfl⟩
 have hN:=z1h w (.cells zProg 27);rw[en]at hN;have HN:=z00.mk (And.intro hN hB0);have hz:(w.alloc (.cells zProg 27)).heap.size=n+1:=by simp[en]
 clear hr hs hLW hP hN hB0;go_enter Tryz.func29,Tryz.ntmps29
 go_wp2_with fail
 refine HP.out.mono ?_;rintro e w1 ⟨v,rfl,⟨u1,u2,rfl,hu1,hu2⟩,hb⟩;obtain⟨A1,c1,rfl⟩:=Kd.R_slice hu1;obtain⟨A2,c2,rfl⟩:=Kd.R_slice hu2;rw[hz]at hu1 hu2;have B:=z0h HN.out.1 hb;have hc0:w1.cell? ⟨n,0,none⟩=some (.slice none 0 0):=(z01 B 0).trans rfl;have hc1:w1.cell? ⟨n,1,none⟩=some (.string ⟨#[]⟩):=(z01 B 1).trans rfl;have hc2:w1.cell? ⟨n,2,none⟩=some (.slice none 0 0):=(z01 B 2).trans rfl;have hf0:=z03 B 0;have hf1:=z03 B 1;have hf2:=z03 B 2;have HB:=z14 HN.out.2 HN.out.2.size hb;have P1:(sets w1 n 0 [.slice A1 f0.length c1,.string q0,.slice A2 q1.length c2]).heap[n]?=some (.cells #[.slice A1 f0.length c1,.string q0,.slice A2 q1.length c2] 27 (0,0)):=z2z [.slice A1 f0.length c1,.string q0,.slice A2 q1.length c2] 0 w1 zProg B;have HD:=z00.mk (And.intro P1 (And.intro (Kd.R_mono (ok':=fun _=>True) (Kd.R_lower (base':=w.heap.size) (show Kd.R k33 33 (sets w1 n 0 [.slice A1 f0.length c1,.string q0,.slice A2 q1.length c2]) (n+1) (fun k=>n+1≤k) (.slice A1 f0.length c1) f0 from z4p (fun k hk=>by omega) [.slice A1 f0.length c1,.string q0,.slice A2 q1.length c2] 0 w1 hu1) (by omega)) (fun _ _=>trivial)) (And.intro (Kd.R_mono (ok':=fun _=>True) (Kd.R_lower (base':=w.heap.size) (show Kd.R k60 60 (sets w1 n 0 [.slice A1 f0.length c1,.string q0,.slice A2 q1.length c2]) (n+1) (fun k=>n+1≤k) (.slice A2 q1.length c2) q1 from z4p (fun k hk=>by omega) [.slice A1 f0.length c1,.string q0,.slice A2 q1.length c2] 0 w1 hu2) (by omega)) (fun _ _=>trivial)) (z2r (show w.heap.size≤n by omega) [.slice A1 f0.length c1,.string q0,.slice A2 q1.length c2] 0 w1 HB))));clear hu1 hu2 hb B HP P1 HB;go_wp2;refine bodyPost_ret (zcm rfl _ _ n 27 #[.slice A1 f0.length c1,.string q0,.slice A2 q1.length c2] (0,0) _ rfl HD.out.1 Tryz.underlying27 rfl (by kernel_rfl)) rfl ?_;exact⟨_,_,rfl,HD.out.2.1,HD.out.2.2.1,HD.out.2.2.2⟩

private theorem zc7 (k k':IntKind) (x y:Int):Builtin.max2 (.int k x) (.int k' y)=pure (.int k (mx x y)):=by rw[z4g];rfl
private theorem zbo (k k':IntKind) (x y:Int):Builtin.min2 (.int k x) (.int k' y)=pure (.int k (mn x y)):=by rw[z4f];rfl
attribute [local go_sem] zc7 zbo z50 z4w z3s z3p z48 z4c
def z2b.l0:Nat→Int→Int→List (S108)→Int→Int→Option (Int)
 |0,_,_,_,_,_=>none
 |k+1,x6,x7,x16,x17,x18=>if x18<x17 then(if 0≤x18 then(if x18<(x16.length:Int)then(if((z2f x16 x18).f1).toList=([40]:List UInt8)then(z2b.l0 k (wrap64 (x6+1)) (mx x7 (wrap64 (x6+1))) x16 x17 (wrap64 (x18+1)))else(if((z2f x16 x18).f1).toList=([41]:List UInt8)then(z2b.l0 k (mx 0 (wrap64 (x6 - 1))) (mx x7 (mx 0 (wrap64 (x6 - 1)))) x16 x17 (wrap64 (x18+1)))else(z2b.l0 k x6 (mx x7 x6) x16 x17 (wrap64 (x18+1)))))else(none))else(none))else(some x7)
def z2b.f (k:Nat) (a0:ByteArray):Option (Int):=(z3v.f a0).bind fun bt122=>(z2b.l0 k 0 0 bt122.1 (bt122.1.length:Int) 0)
set_option maxHeartbeats 8000000 in
set_option maxRecDepth 100000 in
theorem z2b.calls (k:Nat) (a0:ByteArray) (r:Int) (w:World) (hLW:LaidW w) (h:z2b.f k a0=some r) :
 Calls Tryz.prog 32 #[.string a0] w fun e w'=>e=.returned (.int .i64 r)∧Below w.heap.size w w':=by
 have hu108:=Tryz.underlying108;have HLW:=z00.mk hLW;clear hLW;have HB:=z00.mk (Below.refl w.heap.size w);have H:((z3v.f a0).bind fun bt122=>(z2b.l0 k 0 0 bt122.1 (bt122.1.length:Int) 0))=some r:=h;clear h;replace H:=Option.bind_eq_some_iff.mp H;obtain⟨⟨t122,t123,t124⟩,A20,H⟩:=H;replace H:(z2b.l0 k 0 0 t122 (t122.length:Int) 0)=some r:=H;have A2:=z00.mk A20;clear A20;have H':=z00.mk H;clear H;go_enter Tryz.func32,Tryz.ntmps32
 go_wp2_with (first|((with_reducible refine z0t (f:=63) rfl ?_);refine z27 (some 12) rfl rfl Tryz.func63 (by kernel_rfl) rfl #[.string a0] rfl zA02 ?_;(with_reducible refine(z3v.calls a0 t122 t123 t124 _ ?side1 A2.out).mono ?_);(case side1=>(first|(refine LaidW.below HLW.out ?_;(repeat(first|(with_reducible first|exact HB.out|apply z04|apply z02|apply z05)|exact HB.out));done)|(repeat(first|exact HLW.out|apply LaidW.drewN|apply LaidW.drew|apply LaidW.alloc))));rintro e w3 ⟨v125,rfl,ho0,hb⟩;refine⟨_,rfl,?_⟩;have n0_:=z00.mk (Kd.R_lower ho0 (z0j zA00));have n1_:=z00.mk (z0g zA00 hb);clear HB;have HO126:=n0_;have HB:=n1_;clear n0_ n1_;(try clear hb);(try clear hb2);(try clear hk);(try clear hi);(try clear ho0);obtain⟨Ao4,co4,eo4⟩:=Kd.R_slice HO126.out;subst eo4))
 go_loopg [6,7,18] k (fun kq v6 v7 v18 w'=>∃(x6_1:Int) (x7_1:Int) (x18_1:Int),v6=.int .i64 x6_1∧v7=.int .i64 x7_1∧v18=.int .i64 x18_1∧z00 (z2b.l0 kq x6_1 x7_1 t122 (t122.length:Int) x18_1=some r)∧z00 (kq≤k)∧z00 (Kd.R k108 108 w' w.heap.size (fun _=>True) (.slice Ao4 t122.length co4) t122)∧z00 (Below w.heap.size w w'))
 case atStart=>exact⟨(0),(0),(0),zA06,zA06,zA06,H',⟨Nat.le_refl _⟩,⟨by(with_reducible repeat(first|apply Kd.R_alloc|apply Kd.R_drewN|apply Kd.R_drew));exact HO126.out⟩,⟨zA00⟩⟩
 case round =>
  clear H';(try clear p2);(try clear c3);obtain⟨x6_1,x7_1,x18_1,rfl,rfl,rfl,HA,HK1,HO_16,HB⟩:=hrel
  cases gk with
  |zero=>exact absurd HA.out (by simp[z2b.l0])
  |succ k1 =>
   have H:=HA.out;clear HA;simp only[z2b.l0]at H
   by_cases c5:x18_1<(t122.length:Int)
   · rw[if_pos c5]at H;have c5b0:decide (x18_1<(t122.length:Int))=true:=decide_eq_true c5;clear c5
     by_cases c6:0≤x18_1
     · rw[if_pos c6]at H;have c6b0:decide (0≤x18_1)=true:=decide_eq_true c6;clear c6
       by_cases c7:x18_1<(t122.length:Int)
       · rw[if_pos c7]at H;have c7b0:decide (x18_1<(t122.length:Int))=true:=decide_eq_true c7;clear c7
         by_cases c8:((z2f t122 x18_1).f1).toList=([40]:List UInt8)
         · rw[if_pos c8]at H;have c8b0:(((z2f t122 x18_1).f1).toList==([40]:List UInt8))=true:=beq_iff_eq.mpr c8;have c8b1:(((z2f t122 x18_1).f1).toList !=([40]:List UInt8))=false:=bne_eq_false_iff_eq.mpr c8;clear c8;obtain⟨ji9,hji9⟩:∃j_:Int,(mx x7_1 (wrap64 (x6_1+1)))=j_:=⟨_,rfl⟩
           replace H:(z2b.l0 k1 (wrap64 (x6_1+1)) ji9 t122 (t122.length:Int) (wrap64 (x18_1+1)))=some r:=by first|(rw[hji9]at H;exact H)|(simp only[hji9]at H ⊢;exact H)
           have hji9_:(if x7_1<(wrap64 (x6_1+1))then(wrap64 (x6_1+1))else x7_1)=ji9:=hji9;have H':=z00.mk H;clear H;have p127:0≤(x18_1:Int):=of_decide_eq_true zA01;have q127:x18_1<(t122.length:Int):=of_decide_eq_true zA01;obtain⟨ad127,e127,hx127_0,hx127_1,hx127_2⟩:=z8w (Kd.R_reads' HO_16.out).2.2 x18_1 p127 q127
           cases e127
           replace p127:=eq_true p127;replace q127:=eq_true q127
           go_wp2_with (first|((with_reducible refine z19 (N:=9) rfl ?_);refine z17 ?hg (N:=9) ?hd (cs:=#[.int .i64 0,.string (⟨#[]⟩:ByteArray),.int .i64 0]) (t:=108) ?hr ?_;(case hd=>rfl);(case hg=>rfl);(case hr=>first|(go_simp;done)|(go_simp;rfl));intro gb128 hg w10 hbox hb;have n0_:=z00.mk (Kd.R_below (Kd.R_elderB zA10 gb128 (Nat.le_of_eq hg.symm)) hb);have n1_:=z00.mk (z0g zA00 hb);have n2_:=z00.mk (hbox);have n3_:=z00.mk ((by rw[hg];exact(z0j zA00):w.heap.size≤gb128));have n4_:=z00.mk ((by rw[hg];exact(z0j zA00):w.heap.size≤gb128));clear HO_16;clear HB;have HO_16:=n0_;have HB:=n1_;have BK128:=n2_;have GW128:=n3_;have GE128:=n4_;clear n0_ n1_ n2_ n3_ n4_;clear hb hbox hg;have hcz11_0:w10.cell? ⟨gb128,0,none⟩=some (.int .i64 0):=(z01 BK128.out 0).trans rfl;have hcz11_1:w10.cell? ⟨gb128,1,none⟩=some (.string (⟨#[]⟩:ByteArray)):=(z01 BK128.out 1).trans rfl;have hcz11_2:w10.cell? ⟨gb128,2,none⟩=some (.int .i64 0):=(z01 BK128.out 2).trans rfl;have hfz11_0:=z03 BK128.out 0;have hfz11_1:=z03 BK128.out 1;have hfz11_2:=z03 BK128.out 2))
           go_roundg k1
           case measure=>have:=HK1.out;omega
           case rel=>exact⟨(wrap64 (x6_1+1)),(ji9),(wrap64 (x18_1+1)),zA06,(by first|rfl|(simp;done)|(simp only[←hji9] <;> (first|rfl|simp))|(simp[*];done)),zA06,H',⟨zA1b⟩,⟨zA0f⟩,⟨zA0u⟩⟩
         · rw[if_neg c8]at H;have c8b0:(((z2f t122 x18_1).f1).toList==([40]:List UInt8))=false:=beq_eq_false_iff_ne.mpr c8;have c8b1:(((z2f t122 x18_1).f1).toList !=([40]:List UInt8))=true:=bne_iff_ne.mpr c8
           by_cases c12:((z2f t122 x18_1).f1).toList=([41]:List UInt8)
           · rw[if_pos c12]at H;have c12b0:(((z2f t122 x18_1).f1).toList==([41]:List UInt8))=true:=beq_iff_eq.mpr c12;have c12b1:(((z2f t122 x18_1).f1).toList !=([41]:List UInt8))=false:=bne_eq_false_iff_eq.mpr c12;clear c12;obtain⟨ji13,hji13⟩:∃j_:Int,(mx 0 (wrap64 (x6_1 - 1)))=j_:=⟨_,rfl⟩
             replace H:(z2b.l0 k1 ji13 (mx x7_1 (ji13)) t122 (t122.length:Int) (wrap64 (x18_1+1)))=some r:=by first|(rw[hji13]at H;exact H)|(simp only[hji13]at H ⊢;exact H)
             have hji13_:(if 0<(wrap64 (x6_1 - 1))then(wrap64 (x6_1 - 1))else 0)=ji13:=hji13;obtain⟨ji14,hji14⟩:∃j_:Int,(mx x7_1 (ji13))=j_:=⟨_,rfl⟩
             replace H:(z2b.l0 k1 ji13 ji14 t122 (t122.length:Int) (wrap64 (x18_1+1)))=some r:=by first|(rw[hji14]at H;exact H)|(simp only[hji14]at H ⊢;exact H)
             have hji14_:(if x7_1<(ji13)then(ji13)else x7_1)=ji14:=hji14;have H':=z00.mk H;clear H;have p127:0≤(x18_1:Int):=of_decide_eq_true zA01;have q127:x18_1<(t122.length:Int):=of_decide_eq_true zA01;obtain⟨ad127,e127,hx127_0,hx127_1,hx127_2⟩:=z8w (Kd.R_reads' HO_16.out).2.2 x18_1 p127 q127
             cases e127
             replace p127:=eq_true p127;replace q127:=eq_true q127
             go_wp2_with (first|((with_reducible refine z19 (N:=9) rfl ?_);refine z17 ?hg (N:=9) ?hd (cs:=#[.int .i64 0,.string (⟨#[]⟩:ByteArray),.int .i64 0]) (t:=108) ?hr ?_;(case hd=>rfl);(case hg=>rfl);(case hr=>first|(go_simp;done)|(go_simp;rfl));intro gb128 hg w15 hbox hb;have n0_:=z00.mk (Kd.R_below (Kd.R_elderB zA10 gb128 (Nat.le_of_eq hg.symm)) hb);have n1_:=z00.mk (z0g zA00 hb);have n2_:=z00.mk (hbox);have n3_:=z00.mk ((by rw[hg];exact(z0j zA00):w.heap.size≤gb128));have n4_:=z00.mk ((by rw[hg];exact(z0j zA00):w.heap.size≤gb128));clear HO_16;clear HB;have HO_16:=n0_;have HB:=n1_;have BK128:=n2_;have GW128:=n3_;have GE128:=n4_;clear n0_ n1_ n2_ n3_ n4_;clear hb hbox hg;have hcz16_0:w15.cell? ⟨gb128,0,none⟩=some (.int .i64 0):=(z01 BK128.out 0).trans rfl;have hcz16_1:w15.cell? ⟨gb128,1,none⟩=some (.string (⟨#[]⟩:ByteArray)):=(z01 BK128.out 1).trans rfl;have hcz16_2:w15.cell? ⟨gb128,2,none⟩=some (.int .i64 0):=(z01 BK128.out 2).trans rfl;have hfz16_0:=z03 BK128.out 0;have hfz16_1:=z03 BK128.out 1;have hfz16_2:=z03 BK128.out 2))
             go_roundg k1
             case measure=>have:=HK1.out;omega
             case rel=>exact⟨(ji13),(ji14),(wrap64 (x18_1+1)),(by first|rfl|(simp;done)|(simp only[←hji13] <;> (first|rfl|simp))|(simp[*];done)),(by first|rfl|(simp;done)|(simp only[←hji14] <;> (first|rfl|simp))|(simp[*];done)),zA06,H',⟨zA1b⟩,⟨zA0f⟩,⟨zA0u⟩⟩
           · rw[if_neg c12]at H;have c12b0:(((z2f t122 x18_1).f1).toList==([41]:List UInt8))=false:=beq_eq_false_iff_ne.mpr c12;have c12b1:(((z2f t122 x18_1).f1).toList !=([41]:List UInt8))=true:=bne_iff_ne.mpr c12;obtain⟨ji17,hji17⟩:∃j_:Int,(mx x7_1 x6_1)=j_:=⟨_,rfl⟩
             replace H:(z2b.l0 k1 x6_1 ji17 t122 (t122.length:Int) (wrap64 (x18_1+1)))=some r:=by first|(rw[hji17]at H;exact H)|(simp only[hji17]at H ⊢;exact H)
             have hji17_:(if x7_1<x6_1 then x6_1 else x7_1)=ji17:=hji17;have H':=z00.mk H;clear H;have p127:0≤(x18_1:Int):=of_decide_eq_true zA01;have q127:x18_1<(t122.length:Int):=of_decide_eq_true zA01;obtain⟨ad127,e127,hx127_0,hx127_1,hx127_2⟩:=z8w (Kd.R_reads' HO_16.out).2.2 x18_1 p127 q127
             cases e127
             replace p127:=eq_true p127;replace q127:=eq_true q127
             go_wp2_with (first|((with_reducible refine z19 (N:=9) rfl ?_);refine z17 ?hg (N:=9) ?hd (cs:=#[.int .i64 0,.string (⟨#[]⟩:ByteArray),.int .i64 0]) (t:=108) ?hr ?_;(case hd=>rfl);(case hg=>rfl);(case hr=>first|(go_simp;done)|(go_simp;rfl));intro gb128 hg w18 hbox hb;have n0_:=z00.mk (Kd.R_below (Kd.R_elderB zA10 gb128 (Nat.le_of_eq hg.symm)) hb);have n1_:=z00.mk (z0g zA00 hb);have n2_:=z00.mk (hbox);have n3_:=z00.mk ((by rw[hg];exact(z0j zA00):w.heap.size≤gb128));have n4_:=z00.mk ((by rw[hg];exact(z0j zA00):w.heap.size≤gb128));clear HO_16;clear HB;have HO_16:=n0_;have HB:=n1_;have BK128:=n2_;have GW128:=n3_;have GE128:=n4_;clear n0_ n1_ n2_ n3_ n4_;clear hb hbox hg;have hcz19_0:w18.cell? ⟨gb128,0,none⟩=some (.int .i64 0):=(z01 BK128.out 0).trans rfl;have hcz19_1:w18.cell? ⟨gb128,1,none⟩=some (.string (⟨#[]⟩:ByteArray)):=(z01 BK128.out 1).trans rfl;have hcz19_2:w18.cell? ⟨gb128,2,none⟩=some (.int .i64 0):=(z01 BK128.out 2).trans rfl;have hfz19_0:=z03 BK128.out 0;have hfz19_1:=z03 BK128.out 1;have hfz19_2:=z03 BK128.out 2))
             go_roundg k1
             case measure=>have:=HK1.out;omega
             case rel=>exact⟨(x6_1),(ji17),(wrap64 (x18_1+1)),zA06,(by first|rfl|(simp;done)|(simp only[←hji17] <;> (first|rfl|simp))|(simp[*];done)),zA06,H',⟨zA1b⟩,⟨zA0f⟩,⟨zA0u⟩⟩
       · rw[if_neg c7]at H;exact absurd H (by simp)
     · rw[if_neg c6]at H;exact absurd H (by simp)
   · rw[if_neg c5]at H;have c5b0:decide (x18_1<(t122.length:Int))=false:=decide_eq_false c5;clear c5;obtain rfl:=Option.some.inj H;go_wp2
     go_ret
     exact⟨by first|rfl|(simp[z0q,z0p] <;> rfl)|(simp[*,z0q,z0p] <;> rfl),by repeat(first|(with_reducible first|exact HB.out|apply z04|apply z02|apply z05)|exact HB.out)⟩

abbrev awT:ByteArray:=⟨#[112,40,88,44,32,99,111,117,110,116,40,89,41,41,32,58,45,32,119,97,108,107,40,88,44,32,97,47,94,98,42,44,32,89,41,46,32,63,45,32,112,40,88,44,32,51,41,46]⟩
def awRule:RlS:=⟨⟨⟨#[112]⟩,[⟨⟨#[88]⟩,noneV⟩,⟨⟨#[89]⟩,noneV⟩]⟩,1,[⟨5,noneA,⟨#[]⟩,⟨⟨#[88]⟩,noneV⟩,⟨⟨#[89]⟩,noneV⟩,noneT,[⟨1,⟨#[97]⟩⟩,⟨2,⟨#[98]⟩⟩,⟨5,⟨#[]⟩⟩,⟨3,⟨#[]⟩⟩]⟩]⟩
theorem aw_parse:z2t.f awT=some ([awRule],⟨#[112]⟩,[⟨⟨#[88]⟩,noneV⟩,⟨⟨#[]⟩,⟨1,3,⟨#[]⟩⟩⟩],0,0):=by kernel_rfl
theorem aw_deep:z2b.f 20 ⟨#[40,40,97,41,41]⟩=some 2:=by kernel_rfl
theorem add0 (a:Addr):a.add 0=a:=by simp[Addr.add]
theorem add2 (a:Addr):a.add 2=⟨a.block,a.off+2,none⟩:=by simp[Addr.add]
theorem add6 (a:Addr):a.add 6=⟨a.block,a.off+6,none⟩:=by simp[Addr.add]
set_option maxHeartbeats 4000000 in
set_option maxRecDepth 100000 in
theorem z68 (w:World) (hLW:LaidW w) :
 Calls Tryz.prog 28 #[] w fun e w'=>e=.returned (.bool true)∧Below w.heap.size w w':=by
 have HP:=z00.mk (z2t.calls awT [awRule] ⟨#[112]⟩ [⟨⟨#[88]⟩,noneV⟩,⟨⟨#[]⟩,⟨1,3,⟨#[]⟩⟩⟩] 0 0 w hLW aw_parse);have HLW:=z00.mk hLW;clear hLW;go_enter Tryz.func28,Tryz.ntmps28
 go_wp2_with fail
 refine HP.out.mono ?_;rintro e w1 ⟨v0,v1,rfl,h0,h1,hb⟩;obtain⟨A,c,rfl⟩:=Kd.R_slice h0;obtain⟨A2,c2,rfl⟩:=Kd.R_slice h1;obtain⟨n,en⟩:∃n,w1.heap.size=n:=⟨_,rfl⟩
 have hW:=z1h w1 (.cells #[.slice A 1 c,.string ⟨#[112]⟩,.slice A2 2 c2] 27);rw[en]at hW;have hC:=Kd.C_below (Kd.R_reads' h0).2.2 (z04 (Below.refl w1.heap.size w1) (.cells #[.slice A 1 c,.string ⟨#[112]⟩,.slice A2 2 c2] 27));have HB:=z00.mk (z04 hb (.cells #[.slice A 1 c,.string ⟨#[112]⟩,.slice A2 2 c2] 27));have HCW:=z00.mk (And.intro hW hC);clear h0 h1 hb hW hC HP
 go_upto_region 2 with (fail)
 generalize w1.alloc (.cells #[.slice A 1 c,.string ⟨#[112]⟩,.slice A2 2 c2] 27)=W at HB HCW ⊢
 have d0:W.cell? ⟨n,0,none⟩=some (.slice A 1 c):=(z01 HCW.out.1 0).trans rfl;have d1:W.cell? ⟨n,1,none⟩=some (.string ⟨#[112]⟩):=(z01 HCW.out.1 1).trans rfl;obtain⟨ad,A1,c1,A3,c3,rfl,_,_,x2,x3,_,_,_,g3⟩:=zfa HCW.out.2 0 (by decide) (by decide);obtain⟨ad3,B2,b2,B16,b16,rfl,_,_,_,_,_,_,_,_,_,_,_,_,_,_,_,_,y16,_,_,_,g16⟩:=at_T62 g3 0 (by decide) (by decide);obtain⟨ad16,rfl,z10,z11⟩:=z9m g16 1 (by decide) (by decide);obtain⟨ad16',e16,z30,z31⟩:=z9m g16 3 (by decide) (by decide)
 cases e16
 replace x2:W.cell? ⟨(ad.add 0).block,(ad.add 0).off+2,none⟩=some (.int .i64 1):=x2;simp only[add0]at x2;replace x3:W.cell? ⟨(ad.add 0).block,(ad.add 0).off+3,none⟩=some (.slice (some ad3) 1 c3):=x3;simp only[add0]at x3;replace y16:W.cell? ⟨(ad3.add 0).block,(ad3.add 0).off+16,none⟩=some (.slice (some ad16) 4 b16):=y16;simp only[add0]at y16;replace z10:W.cell? (ad16.add 2)=some (.int .i64 2):=z10;rw[add2]at z10;replace z11:W.cell? ⟨(ad16.add 2).block,(ad16.add 2).off+1,none⟩=some (.string ⟨#[98]⟩):=z11;rw[add2]at z11;replace z30:W.cell? (ad16.add 6)=some (.int .i64 3):=z30;rw[add6]at z30;clear g3 g16 z31;have HD:=z00.mk (fun V (h:LaidW V)=>z2b.calls 20 ⟨#[40,40,97,41,41]⟩ 2 V h aw_deep)
 go_wp2_with fail
 refine(HD.out W (HLW.out.below HB.out)).mono ?_;rintro e w2 ⟨rfl,hb2⟩;have HB2:=z00.mk (z14 HB.out HB.out.size hb2);clear hb2;go_wp2
 go_ret
 exact⟨rfl,HB2.out⟩

def Err {α:Type} (p:Prs α):Prop:=∀l q,p l=.error q→q.2≠0
theorem zbr {full:List UInt8}:∀(l:List (Nat × Nat × Nat)) (a:Nat),covT nmL vlL full a l→∀x ∈ l,nextN nmL vlL (full.drop x.2.1)=some (x.1,x.2.2)∧x.2.1+x.2.2≤full.length∧1≤x.2.2
 |[],_,_=>fun x hx=>by cases hx
 |y::l,a,⟨h1,h2,h3,h4,h5,h6,h7,h8⟩=>fun x hx=>by
  rcases List.mem_cons.1 hx with rfl|hx
  · exact⟨h6,h3,h2⟩
  · exact zbr l _ h8 x hx
theorem zc1 (s:ByteArray) (x:Nat × Nat × Nat):(tokS s x).f1.data.toList=(s.data.toList.drop x.2.1).take x.2.2:=by
 simp only[tokS];rw[z3g,z3h];simp

abbrev baL (l:List UInt8):ByteArray:=⟨l.toArray⟩
end Go.Proofs.YthebhbomlllpeaaGreatDoor.X
namespace Go.Proofs.YthebhbomlllpeaaGreatDoor.X
abbrev Pc:=List UInt8 × Int

abbrev tkO (s:List UInt8):Option (List TK):=toksO nmL vlL s
def DeepE (d:Nat) (u:List (List UInt8)):Prop:=∀o m,o≤m→deepF (o,m) u=(o,max m (o+d))
def P3 (D:Nat) (ts:List TK) (l:List StS):Prop:=∀r,partP D (ts++r)=.ok (l++(z1k r).1,(z1k r).2)
def P2 (D:Nat) (ts:List TK) (l:List StS):Prop:=∀r,z1k r=([],r)→rowP [47] 3 (partP D) (ts++r)=rowL [47] 3 (partP D) r.length l r
def P1 (D:Nat) (ts:List TK) (l:List StS):Prop:=∀r,z1k r=([],r)→mk0 r [47]=false→pathP D (ts++r)=rowL [124] 4 (rowP [47] 3 (partP D)) r.length l r
def Lv (b:Int) (D:Nat) (ts:List TK) (l:List StS):Prop:=(b=3→P3 D ts l)∧(2≤b→P2 D ts l)∧P1 D ts l
structure PInv (p:Pc) (l:List StS) (d:Nat):Prop where
 mk ::
 ne:p.1≠[]
 lo:1≤p.2
 hi:p.2≤3
 tk:∃ts,tkO p.1=some ts∧DeepE d (txts ts)∧∀D,d≤D→Lv p.2 D ts l
theorem lex_toks {s:ByteArray} (hs:s.size≤20000):tkO s.data.toList=if(z41 s).2.2=0 then some ((z41 s).1.map tkOf)else none:=by
 have hL:z41 s=z6m s:=by unfold z41;rw[if_neg (by omega)]
 rw[hL,z6m,tkO,toksO_of]
 cases tokN nmL vlL 0 s.data.toList with
 |error i=>rfl
 |ok l =>
  simp only;rw[if_pos trivial,List.map_map]
  congr 1
  refine List.map_congr_left fun x _=>?_
  show cutT s.data.toList x=tkOf (tokS s x);have ht:(tokS s x).f1.data.toList=(s.data.toList.drop x.2.1).take x.2.2:=zc1 s x;unfold cutT;rw[←ht];rfl

def Clo {α:Type} (p:Prs α):Prop:=∀l x r,p l=.ok (x,r)→∃u,l=u++r∧u≠[]∧∀r',p (u++r')=.ok (x,r')
def Cons {α:Type} (N:TK→Prop) (p:Prs α):Prop:=∀l x r,p l=.ok (x,r)→∃u,l=u++r∧∀t ∈ u,N t
def NoQ (t:TK):Prop:=isT t 4 [63,45]=false
end Go.Proofs.YthebhbomlllpeaaGreatDoor.X
namespace Go.Proofs.YthebhbomlllpeaaGreatDoor.X
open Go.RowKit Go.Proofs.YthebhbomlllpeaaGreatDoorW.PrintWords Go.Proofs.YthebhbomlllpeaaGreatDoorW.PrintLast Go.Proofs.YthebhbomlllpeaaGreatDoorW.PrintMore
attribute [local go_sem] z4g z4f z50 z4w z3s z3p z48 z4c
theorem eqA58 (d:Nat) (w:World) (x0 y0:Int) (x1 y1:Int) (x2 y2:ByteArray) :
 (Op.equalIn (d+2) 58 (.agg #[.int .i64 x0,.int .i64 x1,.string x2]) (.agg #[.int .i64 y0,.int .i64 y1,.string y2])).run Tryz.prog w=.ok (x0==y0&&(x1==y1&&(x2.toList==y2.toList))) w:=by
 refine zg2 Tryz.underlying58 (by kernel_rfl) ?_;refine z83 (by rfl) (by go_simp;rfl) (by go_simp;rfl) (by go_simp) ?_;refine z83 (by rfl) (by go_simp;rfl) (by go_simp;rfl) (by go_simp) ?_;exact zaq (by rfl) (by go_simp;rfl) (by go_simp;rfl) (by go_simp)

theorem eqA60 (d:Nat) (w:World) (x0 y0:ByteArray) (x1 y1:Int) (x2 y2:Int) (x3 y3:ByteArray) :
 (Op.equalIn (d+3) 60 (.agg #[.string x0,.int .i64 x1,.int .i64 x2,.string x3]) (.agg #[.string y0,.int .i64 y1,.int .i64 y2,.string y3])).run Tryz.prog w=.ok (x0.toList==y0.toList&&((x1==y1&&(x2==y2&&(x3.toList==y3.toList))))) w:=by
 refine zg2 Tryz.underlying60 (by kernel_rfl) ?_;refine z83 (by rfl) (by go_simp;rfl) (by go_simp;rfl) (by go_simp) ?_;exact zaq (by rfl) (by go_simp) (by go_simp) (eqA58 (d+0) w _ _ _ _ _ _)

theorem eqA69 (d:Nat) (w:World) (x0 y0:Int) (x1 y1:ByteArray) :
 (Op.equalIn (d+2) 69 (.agg #[.int .i64 x0,.string x1]) (.agg #[.int .i64 y0,.string y1])).run Tryz.prog w=.ok (x0==y0&&(x1.toList==y1.toList)) w:=by
 refine zg2 Tryz.underlying69 (by kernel_rfl) ?_;refine z83 (by rfl) (by go_simp;rfl) (by go_simp;rfl) (by go_simp) ?_;exact zaq (by rfl) (by go_simp;rfl) (by go_simp;rfl) (by go_simp)
end Go.Proofs.YthebhbomlllpeaaGreatDoor.X
