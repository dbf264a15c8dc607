/-
  ParseBlanks: what the proof needs, put together by a program of this session (shake.py), part 7.
-/
import Derived.Test.YthebhbomlllpeaaGreatDoorZParseBlanks6
set_option linter.unusedVariables false
set_option linter.unusedSimpArgs false
namespace Go.Proofs.YthebhbomlllpeaaGreatDoor.X
open Go.RowKit Go.Proofs.YthebhbomlllpeaaGreatDoorW.PrintWords Go.Proofs.YthebhbomlllpeaaGreatDoorW.PrintLast Go.Proofs.YthebhbomlllpeaaGreatDoorW.PrintMore
theorem str1 (x:Int) (c:UInt8) (h:UInt8.ofNat x.toNat=c):strOfNums [x]=⟨#[c]⟩:=by
 subst h;rfl
theorem z8y (b:Nat) (l:Nat→List UInt8) (hT:z5j b l) (k u:Nat) (acc:ByteArray) (hu:u<18446744073709551616) (ha:acc.size≤1000) :
 z0b.j1 (k+1) (u:Int) (b:Int) acc true=z0b.l0 k ((u / b:Nat):Int) (b:Int) (⟨#[hexc (u % b)]⟩++acc):=by
 have hb:=hT.two;have hb2:=hT.most;have hm:Int.tmod (u:Int) (b:Int)=((u % b:Nat):Int):=by rw[Int.tmod_eq_emod_of_nonneg (by omega)];rfl
 have hd:IntKind.u64.wrap (Int.tdiv (u:Int) (b:Int))=((u / b:Nat):Int):=by
  rw[Int.tdiv_eq_ediv_of_nonneg (by omega),IntKind.wrap_u64];have h1:(u:Int) / (b:Int)=((u / b:Nat):Int):=rfl;have h2:u / b≤u:=Nat.div_le_self _ _;rw[h1]
  generalize u / b=q at h2
  omega
 have hlt:u % b<b:=Nat.mod_lt _ (by omega);simp only[z0b.j1,if_true,hm,hd];rw[if_neg (by omega)]
 generalize hr:u % b=r at hlt ⊢
 split
 · rename_i h;simp only[Option.bind_some];rw [str1 _ (hexc r) (by
    have h1:((97+(r:Int) % 256) % 256 - 10) % 256=((87+r:Nat):Int):=by omega
    rw[h1,Int.toNat_natCast];unfold hexc;rw[if_neg (by omega)])]
   rw[if_pos (by show 1+acc.size≤_;omega)]
 · rename_i h;simp only[Option.bind_some];rw [str1 _ (hexc r) (by
    have h1:((48:Int)+(r:Int) % 256) % 256=((48+r:Nat):Int):=by omega
    rw[h1,Int.toNat_natCast];unfold hexc;rw[if_pos (by omega)])]
   rw[if_pos (by show 1+acc.size≤_;omega)]
theorem z8b (b:Nat) (l:Nat→List UInt8) (hT:z5j b l):∀(d u k:Nat) (acc:ByteArray),u<b ^ (d+1)→d≤70→acc.size+d≤900→u<18446744073709551616→(0<u∨acc.size=0)→2 * d+6≤k →
 z0b.l0 k (u:Int) (b:Int) acc=some (⟨(l u).toArray⟩++acc):=by
 intro d
 induction d with
 |zero =>
  intro u k acc hu hd ha hu2 h0 hk;obtain⟨k,rfl⟩:∃j,k=j+4:=⟨k - 4,by omega⟩
  have hb:=hT.two;have e:z0b.l0 (k+4) (u:Int) (b:Int) acc=z0b.j1 (k+3) (u:Int) (b:Int) acc true:=by
   rw[show k+4=(k+3)+1 from rfl];simp only[z0b.l0];rcases h0 with h0|h0
   · rw[if_pos (by omega)]
   · split
     · rfl
     · rw[show(acc.toList==([]:List UInt8))=true from by rw[beq_iff_eq];exact(z2s acc).2 h0]
  rw[e,show k+3=(k+2)+1 from rfl,z8y b l hT (k+2) u acc hu2 (by omega)];have hu':u<b:=by simpa using hu
  rw[Nat.div_eq_of_lt hu',Nat.mod_eq_of_lt hu',show k+2=(k+1)+1 from rfl];simp only[z0b.l0];rw [if_neg (by omega),show((⟨#[hexc u]⟩++acc:ByteArray).toList==([]:List UInt8))=false from by
   rw[beq_eq_false_iff_ne];intro h;have:=(z2s _).1 h;rw[ByteArray.size_append]at this
   change 1+acc.size=0 at this;omega]
  simp only[z0b.j1,Bool.false_eq_true,if_false];rw[hT.one u hu']
 |succ d ih =>
  intro u k acc hu hd ha hu2 h0 hk;obtain⟨k,rfl⟩:∃j,k=j+2:=⟨k - 2,by omega⟩
  have hb:=hT.two;have e:z0b.l0 (k+2) (u:Int) (b:Int) acc=z0b.j1 (k+1) (u:Int) (b:Int) acc true:=by
   rw[show k+2=(k+1)+1 from rfl];simp only[z0b.l0];rcases h0 with h0|h0
   · rw[if_pos (by omega)]
   · split
     · rfl
     · rw[show(acc.toList==([]:List UInt8))=true from by rw[beq_iff_eq];exact(z2s acc).2 h0]
  rw[e,z8y b l hT k u acc hu2 (by omega)];have hs:(⟨#[hexc (u % b)]⟩++acc:ByteArray).size=1+acc.size:=by rw[ByteArray.size_append];rfl
  by_cases hz:b≤u
  · have hp:0<u / b:=Nat.div_pos hz (by omega);have h2:u / b≤u:=Nat.div_le_self _ _;rw[ih (u / b) k _ (by rw[Nat.pow_succ]at hu;exact Nat.div_lt_of_lt_mul (by rw[Nat.mul_comm];exact hu)) (by omega) (by omega) (by omega) (Or.inl hp) (by omega)];rw[hT.more u hz]
    congr 1
    apply ba_eq
    simp
  · obtain⟨k,rfl⟩:∃j,k=j+2:=⟨k - 2,by omega⟩
    have hu':u<b:=by omega
    rw[Nat.div_eq_of_lt hu',Nat.mod_eq_of_lt hu',show k+2=(k+1)+1 from rfl];simp only[z0b.l0];rw [if_neg (by omega),show((⟨#[hexc u]⟩++acc:ByteArray).toList==([]:List UInt8))=false from by
     rw[beq_eq_false_iff_ne];intro h;have:=(z2s _).1 h;rw[ByteArray.size_append]at this
     change 1+acc.size=0 at this;omega]
    simp only[z0b.j1,Bool.false_eq_true,if_false];rw[hT.one u hu']
theorem ba_nil (a:ByteArray):a++(⟨#[]⟩:ByteArray)=a:=by apply ba_eq;simp
theorem z61 (u k:Nat) (hu:u<18446744073709551616) (hk:46≤k):z0b.f k (u:Int) 10=some ⟨(Lib.decDigits u).toArray⟩:=by
 unfold z0b.f;have:=z8b 10 _ zdd 19 u k ⟨#[]⟩ (Nat.lt_of_lt_of_le hu (by decide)) (by omega) (by show 0+19≤900;omega) hu (Or.inr rfl) (by omega);rw[ba_nil]at this;exact this
theorem z8o (u k:Nat) (hu:u<18446744073709551616) (hk:46≤k):z0b.f k (u:Int) 16=some ⟨(hexL u).toArray⟩:=by
 unfold z0b.f;have:=z8b 16 _ zd3 19 u k ⟨#[]⟩ (Nat.lt_of_lt_of_le hu (by decide)) (by omega) (by show 0+19≤900;omega) hu (Or.inr rfl) (by omega);rw[ba_nil]at this;exact this
theorem pad_loop (l:List UInt8):∀(d k:Nat),16 - l.length=d→l.length≤16→d<k →
 z0i.l0 k ⟨l.toArray⟩=some ⟨(35::(List.replicate (16 - l.length) 48++l)).toArray⟩:=by
 intro d
 induction d generalizing l with
 |zero =>
  intro k h1 h2 hk;obtain⟨k,rfl⟩:∃j,k=j+1:=⟨k - 1,by omega⟩
  have hl:l.length=16:=by omega
  simp only[z0i.l0];have hs:(⟨l.toArray⟩:ByteArray).size=16:=by simp[ByteArray.size,hl]
  rw[hs,if_neg (by omega),if_pos (by omega),hl];rfl
 |succ d ih =>
  intro k h1 h2 hk;obtain⟨k,rfl⟩:∃j,k=j+1:=⟨k - 1,by omega⟩
  simp only[z0i.l0];have hs:(⟨l.toArray⟩:ByteArray).size=l.length:=by simp[ByteArray.size]
  rw[hs,if_pos (by omega),if_pos (by omega)];have e:(⟨#[48]⟩:ByteArray)++⟨l.toArray⟩=⟨(48::l).toArray⟩:=by apply ba_eq;simp
  rw[e,ih (48::l) k (by simp;omega) (by simp;omega) (by omega)];have e2:List.replicate (16 - l.length) (48:UInt8)++l=List.replicate (16 - (48::l).length) 48++48::l:=by
   rw[show 16 - l.length=(16 - (48::l).length)+1 from by simp;omega,List.replicate_succ']
   simp
  rw[e2]
theorem z9a (n:Int):z22.f n=some (floB n):=by
 unfold z22.f floB
 by_cases h:n=9221120237041090561
 · rw[if_pos h];simp[h]
 · rw[if_neg h]
   by_cases h1:n≤9218868437227405312
   · rw[if_pos h1];congr 1;simp[h,h1]
   · rw[if_neg h1];congr 1;symm;simp[h];omega
theorem z9i (a b:Int) (s:ByteArray):z1b.f a b s=some (z57 a b s):=by
 unfold z1b.f z57
 by_cases h1:a=1
 · rw[if_pos h1,if_pos h1]
   congr 1
   rw[Bool.eq_iff_iff,beq_iff_eq,decide_eq_true_iff,z2s]
 · rw[if_neg h1,if_neg h1]
   by_cases h2:a=2
   · rw[if_pos h2,if_pos h2]
     by_cases h3:s.size=0
     · rw[if_pos ((z2s s).2 h3),z9a];simp[h3]
     · rw[if_neg (fun h=>h3 ((z2s s).1 h))];simp[h3]
   · rw[if_neg h2,if_neg h2]
     by_cases h3:a=3
     · rw[if_pos h3,if_pos h3]
       by_cases h4:b=0
       · rw[if_pos h4];unfold z1g.f;simp[h4]
       · rw[if_neg h4];simp[h4]
     · rw[if_neg h3,if_neg h3]
theorem z4r (a b:Int) (s:ByteArray) (k:Nat) (hk:46≤k) (hb:-9223372036854775808≤b∧b≤9223372036854775807) :
 z0i.f k a b s=some ⟨(textL a b s).toArray⟩:=by
 unfold z0i.f textL;rw[z9i];simp only[Option.bind_some]
 by_cases hr:z57 a b s=true
 · rw[if_pos hr,if_pos hr]
   by_cases h1:a=1
   · rw[if_pos h1,if_pos h1];unfold Lib.itoa
     by_cases h2:b<0
     · rw[if_pos h2,if_pos h2];have e:IntKind.u64.wrap (-(IntKind.u64.wrap b))=((b.natAbs:Nat):Int):=by simp only[IntKind.wrap_u64];omega
       rw[e,z61 _ k (by omega) hk];have hl:(Lib.decDigits b.natAbs).length≤9223372036854775806:=by
        rw[Lib.decDigits_length];have:=zet b.natAbs (by omega);omega
       simp only[Option.bind_some];rw[if_pos (by simp only[ByteArray.size,List.size_toArray];omega)];rfl
     · rw[if_neg h2,if_neg h2];have e:IntKind.u64.wrap b=((b.toNat:Nat):Int):=by rw[IntKind.wrap_u64];omega
       rw[e,z61 _ k (by omega) hk];rfl
   · rw[if_neg h1,if_neg h1]
     by_cases h2:a=2
     · rw[if_pos h2,if_pos h2];have hw:=wrap_u64 b;obtain⟨u,hu⟩:∃u:Nat,IntKind.u64.wrap b=(u:Int):=⟨_,(Int.toNat_of_nonneg hw.1).symm⟩
       rw[hu,z8o _ k (by omega) hk];simp only[Option.bind_some];have:=z8j u 16 (by omega) (by omega);rw[pad_loop _ _ k rfl this.2 (by omega)];rfl
     · rw[if_neg h2,if_neg h2,z77]
 · rw[if_neg hr,if_neg hr]

def z91 (c:Int):Int:=if 97≤c then c - 97+10 else(c - 48) % 256
def z4o (b n c:Int):Int:=IntKind.u64.wrap (IntKind.u64.wrap (n * b)+z91 c)
def z4u (s:ByteArray) (b:Int):Nat→Nat→Int→Int
 |0,_,n=>n
 |d+1,pos,n=>if pos<s.size then z4u s b d (pos+(Utf8.decode s pos).2) (z4o b n (bt s (pos:Int)))else n
def z0s.f (a0:ByteArray) (a1:Int):Option Int:=some (z4u a0 a1 a0.size 0 0)
theorem zd2 {s:ByteArray} {b n:Int} {d pos:Nat} (h:¬pos<s.size):z4u s b d pos n=n:=by
 cases d with
 |zero=>rfl
 |succ d=>simp only[z4u];rw[if_neg h]
theorem num_next {s:ByteArray} {b n T:Int} {d pos:Nat} (h:pos<s.size) (hd:s.size - pos≤d) (hT:z4u s b d pos n=T) :
 ∃d',s.size - (pos+(Utf8.decode s pos).2)≤d'∧z4u s b d' (pos+(Utf8.decode s pos).2) (z4o b n (bt s (pos:Int)))=T:=by
 obtain⟨d,rfl⟩:∃e,d=e+1:=⟨d - 1,by omega⟩
 simp only[z4u]at hT;rw[if_pos h]at hT;have:=z92 s pos h;exact⟨d,by omega,hT⟩
set_option maxHeartbeats 2000000 in
set_option maxRecDepth 1000000 in
theorem z0s.calls (a0:ByteArray) (a1:Int) (r:Int) (w:World) (h:z0s.f a0 a1=some r) :
 Calls Tryz.prog 132 #[.string a0,.int .u64 a1] w fun e w'=>e=.returned (.int .u64 r)∧Below w.heap.size w w':=by
 have hT:=Option.some.inj h;clear h;go_enter Tryz.func132,Tryz.ntmps132;go_wp2
 go_loopw [5] (fun v5 wr=>∃(pos d:Nat) (n:Int),v5=.int .u64 n∧wr=w.iter a0 pos∧z00 (a0.size - pos≤d)∧z00 (z4u a0 a1 d pos n=r)) (fun _ wr=>a0.size - wr.iterPos w.heap.size)
 case atStart=>exact⟨0,a0.size,0,rfl,rfl,⟨by omega⟩,⟨hT⟩⟩
 case round =>
  obtain⟨pos,d,n,rfl,rfl,HD,HN⟩:=hrel;clear hT
  by_cases hp:pos<a0.size
  · have hnx:∀ty,(Instr.next (.pointer (some ⟨w.heap.size,0,none⟩)) true ty).run Tryz.prog (w.iter a0 pos)=_:=fun ty=>run_next_any w a0 pos ty hp
    have hwd:=z92 a0 pos hp;have hby:=z5g a0 pos hp;have hstep:=num_next hp HD.out HN.out;rw[hby]at hstep;have HST:=z00.mk hstep;clear hby hstep;obtain⟨c,hc⟩:∃c:Int,c=((a0[pos]'hp).toNat:Int):=⟨_,rfl⟩
    have hc0:0≤c:=by omega
    have hc1:c<256:=by have:=(a0[pos]'hp).toNat_lt;omega
    rw[←hc]at HST
    by_cases hge:97≤c
    · have hdig:z91 c=c - 97+10:=by unfold z91;rw[if_pos hge]
      go_wp2;obtain⟨d',h1,h2⟩:=HST.out;unfold z4o at h2;rw[hdig,hc]at h2;refine⟨⟨pos+(Utf8.decode a0 pos).2,d',_,rfl,rfl,⟨h1⟩,⟨h2⟩⟩,?_⟩;have e1:(w.iter a0 (pos+(Utf8.decode a0 pos).snd)).iterPos w.heap.size=pos+(Utf8.decode a0 pos).snd:=by simp
      have e2:(w.iter a0 pos).iterPos w.heap.size=pos:=by simp
      rw[e1,e2];omega
    · have hdig:z91 c=(c - 48) % 256:=by unfold z91;rw[if_neg hge]
      go_wp2;obtain⟨d',h1,h2⟩:=HST.out;unfold z4o at h2;rw[hdig,hc]at h2;refine⟨⟨pos+(Utf8.decode a0 pos).2,d',_,rfl,rfl,⟨h1⟩,⟨h2⟩⟩,?_⟩;have e1:(w.iter a0 (pos+(Utf8.decode a0 pos).snd)).iterPos w.heap.size=pos+(Utf8.decode a0 pos).snd:=by simp
      have e2:(w.iter a0 pos).iterPos w.heap.size=pos:=by simp
      rw[e1,e2];omega
  · have hnx:∀ty,(Instr.next (.pointer (some ⟨w.heap.size,0,none⟩)) true ty).run Tryz.prog (w.iter a0 pos)=_:=fun ty=>run_next_end w a0 pos ty hp
    have hr:n=r:=by rw[←HN.out,zd2 hp]
    go_wp2
    go_ret
    refine⟨?_,z7l w a0 pos⟩;rw[hr]
    first|done|rfl
end Go.Proofs.YthebhbomlllpeaaGreatDoor.X
namespace Go.Proofs.YthebhbomlllpeaaGreatDoor.X
open Go.RowKit Go.Proofs.YthebhbomlllpeaaGreatDoorW.PrintWords Go.Proofs.YthebhbomlllpeaaGreatDoorW.PrintLast Go.Proofs.YthebhbomlllpeaaGreatDoorW.PrintMore
attribute [local go_sem] z4g z4f z50 z4w z3s z3p z48 z4c
def z0u.j0:Nat→ByteArray→Bool→Int→Int→ByteArray→Option (Int × Int × ByteArray × Int)
 |0,_,_,_,_,_=>none
 |k+1,x0,x34,x197000,x197001,x197002=>if x34=true then((z0s.f x0 10).bind fun t201=>((z0i.f k 1 (wrap64 (t201)) (⟨#[]⟩:ByteArray)).bind fun t202=>(if t202.toList=x0.toList then(some (1,wrap64 (t201),(⟨#[]⟩:ByteArray),0))else(some (0,0,(⟨#[]⟩:ByteArray),2)))))else((z0i.f k x197000 x197001 x197002).bind fun t203=>(if t203.toList=x0.toList then(some (x197000,x197001,x197002,0))else(some (0,0,(⟨#[]⟩:ByteArray),2))))
def z0u.f (k:Nat) (a0:ByteArray):Option (Int × Int × ByteArray × Int):=if a0.toList=([]:List UInt8)then(some (0,0,(⟨#[]⟩:ByteArray),2))else(if 0<(a0.size:Int)then(if(bt a0 0)=35 then(if 1≤(a0.size:Int)then((z0s.f (a0.extract 1 a0.size) 16).bind fun t197=>((z0i.f k 2 (wrap64 (t197)) (⟨#[]⟩:ByteArray)).bind fun t198=>(if t198.toList=a0.toList then(some (2,wrap64 (t197),(⟨#[]⟩:ByteArray),0))else(some (0,0,(⟨#[]⟩:ByteArray),2)))))else(none))else(if(bt a0 0)=45 then(if 1≤(a0.size:Int)then((z0s.f (a0.extract 1 a0.size) 10).bind fun t199=>((z0i.f k 1 (wrap64 (IntKind.u64.wrap (-t199))) (⟨#[]⟩:ByteArray)).bind fun t200=>(if t200.toList=a0.toList then(some (1,wrap64 (IntKind.u64.wrap (-t199)),(⟨#[]⟩:ByteArray),0))else(some (0,0,(⟨#[]⟩:ByteArray),2)))))else(none))else(if(bt a0 0)≥48 then(z0u.j0 k a0 (decide ((bt a0 0)≤57)) 3 0 a0)else(z0u.j0 k a0 false 3 0 a0))))else(none))
set_option maxHeartbeats 8000000 in
set_option maxRecDepth 100000 in
theorem z0u.calls (k:Nat) (a0:ByteArray) (r1:Int) (r2:Int) (r3:ByteArray) (r4:Int) (w:World) (h:z0u.f k a0=some (r1,r2,r3,r4)) :
 Calls Tryz.prog 101 #[.string a0] w fun e w'=>e=.returned (.tuple #[.agg #[.int .i64 r1,.int .i64 r2,.string r3],.int .i64 r4])∧Below w.heap.size w w':=by
 have hu58:=Tryz.underlying58;have HB:=z00.mk (Below.refl w.heap.size w);have H:(if a0.toList=([]:List UInt8)then(some (0,0,(⟨#[]⟩:ByteArray),2))else(if 0<(a0.size:Int)then(if(bt a0 0)=35 then(if 1≤(a0.size:Int)then((z0s.f (a0.extract 1 a0.size) 16).bind fun t197=>((z0i.f k 2 (wrap64 (t197)) (⟨#[]⟩:ByteArray)).bind fun t198=>(if t198.toList=a0.toList then(some (2,wrap64 (t197),(⟨#[]⟩:ByteArray),0))else(some (0,0,(⟨#[]⟩:ByteArray),2)))))else(none))else(if(bt a0 0)=45 then(if 1≤(a0.size:Int)then((z0s.f (a0.extract 1 a0.size) 10).bind fun t199=>((z0i.f k 1 (wrap64 (IntKind.u64.wrap (-t199))) (⟨#[]⟩:ByteArray)).bind fun t200=>(if t200.toList=a0.toList then(some (1,wrap64 (IntKind.u64.wrap (-t199)),(⟨#[]⟩:ByteArray),0))else(some (0,0,(⟨#[]⟩:ByteArray),2)))))else(none))else(if(bt a0 0)≥48 then(z0u.j0 k a0 (decide ((bt a0 0)≤57)) 3 0 a0)else(z0u.j0 k a0 false 3 0 a0))))else(none)))=some (r1,r2,r3,r4):=h;clear h
 by_cases c2:a0.toList=([]:List UInt8)
 · rw[if_pos c2]at H;have c2b0:(a0.toList==([]:List UInt8))=true:=beq_iff_eq.mpr c2;have c2b1:(a0.toList !=([]:List UInt8))=false:=bne_eq_false_iff_eq.mpr c2;clear c2;simp only[Option.some.injEq,Prod.mk.injEq]at H;obtain⟨rfl,rfl,rfl,rfl⟩:=H;go_enter Tryz.func101,Tryz.ntmps101
   go_wp2_with (first|((with_reducible refine z19 (N:=2) rfl ?_);refine z17 ?hg (N:=2) ?hd (cs:=#[.int .i64 0,.int .i64 0,.string (⟨#[]⟩:ByteArray)]) (t:=58) ?hr ?_;(case hd=>rfl);(case hg=>rfl);(case hr=>first|(go_simp;done)|(go_simp;rfl));intro gb195 hg w3 hbox hb;have n0_:=z00.mk (z0g zA00 hb);have n1_:=z00.mk (hbox);have n2_:=z00.mk ((by rw[hg];exact(z0j zA00):w.heap.size≤gb195));have n3_:=z00.mk ((by rw[hg];exact(z0j zA00):w.heap.size≤gb195));clear HB;have HB:=n0_;have BK195:=n1_;have GW195:=n2_;have GE195:=n3_;clear n0_ n1_ n2_ n3_;clear hb hbox hg;have hcz4_0:w3.cell? ⟨gb195,0,none⟩=some (.int .i64 0):=(z01 BK195.out 0).trans rfl;have hcz4_1:w3.cell? ⟨gb195,1,none⟩=some (.int .i64 0):=(z01 BK195.out 1).trans rfl;have hcz4_2:w3.cell? ⟨gb195,2,none⟩=some (.string (⟨#[]⟩:ByteArray)):=(z01 BK195.out 2).trans rfl;have hfz4_0:=z03 BK195.out 0;have hfz4_1:=z03 BK195.out 1;have hfz4_2:=z03 BK195.out 2))
   refine bodyPost_ret (z1w rfl _ _ gb195 58 #[.int .i64 0,.int .i64 0,.string (⟨#[]⟩:ByteArray)] (0,0) _ rfl zA07 Tryz.underlying58 rfl (by kernel_rfl)) rfl ?_;exact⟨by first|rfl|(simp[z0q,z0p] <;> rfl)|(simp[*,z0q,z0p] <;> rfl),by repeat(first|(with_reducible first|exact HB.out|apply z04|apply z02|apply z05|refine z08 ?_ GE195.out)|exact HB.out)⟩
 · rw[if_neg c2]at H;have c2b0:(a0.toList==([]:List UInt8))=false:=beq_eq_false_iff_ne.mpr c2;have c2b1:(a0.toList !=([]:List UInt8))=true:=bne_iff_ne.mpr c2
   by_cases c5:0<(a0.size:Int)
   · rw[if_pos c5]at H;have c5b0:decide (0<(a0.size:Int))=true:=decide_eq_true c5;have c5b1:decide (0<a0.size)=true:=decide_eq_true (by omega);clear c5
     by_cases c7:(bt a0 0)=35
     · rw[if_pos c7]at H;have c7b0:((bt a0 0)==35)=true:=beq_iff_eq.mpr c7;have c7b1:((bt a0 0) !=35)=false:=bne_eq_false_iff_eq.mpr c7;clear c7
       by_cases c8:1≤(a0.size:Int)
       · rw[if_pos c8]at H;have c8b0:=eq_true c8;have c8b1:decide (1≤(a0.size:Int))=true:=decide_eq_true c8;clear c8;replace H:=Option.bind_eq_some_iff.mp H;obtain⟨t197,A90,H⟩:=H;replace H:((z0i.f k 2 (wrap64 (t197)) (⟨#[]⟩:ByteArray)).bind fun t198=>(if t198.toList=a0.toList then(some (2,wrap64 (t197),(⟨#[]⟩:ByteArray),0))else(some (0,0,(⟨#[]⟩:ByteArray),2))))=some (r1,r2,r3,r4):=H;have A9:=z00.mk A90;clear A90;replace H:=Option.bind_eq_some_iff.mp H;obtain⟨t198,A100,H⟩:=H;replace H:(if t198.toList=a0.toList then(some (2,wrap64 (t197),(⟨#[]⟩:ByteArray),0))else(some (0,0,(⟨#[]⟩:ByteArray),2)))=some (r1,r2,r3,r4):=H;have A10:=z00.mk A100;clear A100
         by_cases c11:t198.toList=a0.toList
         · rw[if_pos c11]at H;have c11b0:(t198.toList==a0.toList)=true:=beq_iff_eq.mpr c11;have c11b1:(t198.toList !=a0.toList)=false:=bne_eq_false_iff_eq.mpr c11;clear c11;simp only[Option.some.injEq,Prod.mk.injEq]at H;obtain⟨rfl,rfl,rfl,rfl⟩:=H;go_enter Tryz.func101,Tryz.ntmps101
           go_wp2_with (first|((with_reducible refine z19 (N:=2) rfl ?_);refine z17 ?hg (N:=2) ?hd (cs:=#[.int .i64 0,.int .i64 0,.string (⟨#[]⟩:ByteArray)]) (t:=58) ?hr ?_;(case hd=>rfl);(case hg=>rfl);(case hr=>first|(go_simp;done)|(go_simp;rfl));intro gb195 hg w12 hbox hb;have n0_:=z00.mk (z0g zA00 hb);have n1_:=z00.mk (hbox);have n2_:=z00.mk ((by rw[hg];exact(z0j zA00):w.heap.size≤gb195));have n3_:=z00.mk ((by rw[hg];exact(z0j zA00):w.heap.size≤gb195));clear HB;have HB:=n0_;have BK195:=n1_;have GW195:=n2_;have GE195:=n3_;clear n0_ n1_ n2_ n3_;clear hb hbox hg)|((with_reducible refine z19 (N:=4) rfl ?_);refine z17 ?hg (N:=4) ?hd (cs:=#[.int .i64 0,.int .i64 0,.string (⟨#[]⟩:ByteArray)]) (t:=58) ?hr ?_;(case hd=>rfl);(case hg=>rfl);(case hr=>first|(go_simp;done)|(go_simp;rfl));intro gb196 hg w13 hbox hb;have n0_:=z00.mk (z0h (g:=gb195) (o:=.cells #[.int .i64 0,.int .i64 0,.string (⟨#[]⟩:ByteArray)] 58 (0,0)) zA0b hb);have n1_:=z00.mk (z0g zA0a hb);have n2_:=z00.mk (hbox);have n3_:=z00.mk ((by rw[hg];exact(z0j zA0a):w.heap.size≤gb196));have n4_:=z00.mk ((by rw[hg];exact(z0j zA0a):w.heap.size≤gb196));have n5_:=z00.mk ((by rw[hg];exact Nat.ne_of_lt (z1u (g:=gb195) (o:=.cells #[.int .i64 0,.int .i64 0,.string (⟨#[]⟩:ByteArray)] 58 (0,0)) zA0b):gb195≠gb196));have n6_:=z00.mk ((by rw[hg];exact Nat.ne_of_gt (z1u (g:=gb195) (o:=.cells #[.int .i64 0,.int .i64 0,.string (⟨#[]⟩:ByteArray)] 58 (0,0)) zA0b):gb196≠gb195));clear BK195;clear HB;have BK195:=n0_;have HB:=n1_;have BK196:=n2_;have GW196:=n3_;have GE196:=n4_;have NB195_196:=n5_;have NB196_195:=n6_;clear n0_ n1_ n2_ n3_ n4_ n5_ n6_;clear hb hbox hg;have hnb14:=NB196_195.out;have hnc14:=NB195_196.out;have hcz15_0:w13.cell? ⟨gb196,0,none⟩=some (.int .i64 0):=(z01 BK196.out 0).trans rfl;have hcz15_1:w13.cell? ⟨gb196,1,none⟩=some (.int .i64 0):=(z01 BK196.out 1).trans rfl;have hcz15_2:w13.cell? ⟨gb196,2,none⟩=some (.string (⟨#[]⟩:ByteArray)):=(z01 BK196.out 2).trans rfl;have hfz15_0:=z03 BK196.out 0;have hfz15_1:=z03 BK196.out 1;have hfz15_2:=z03 BK196.out 2;have p6:0≤(0:Int):=(by omega);have q6:0<a0.size:=zA0g;have hx6:∀h:0<a0.size,((a0[0]'h).toNat:Int)=bt a0 0:=bt_at a0 0;clear p6;have qi6:(0<(a0.size:Int))=True:=eq_true (of_decide_eq_true zA01);replace q6:=eq_true q6)|((with_reducible refine z0t (f:=132) rfl ?_);refine z27 (some 15) rfl rfl Tryz.func132 (by kernel_rfl) rfl #[.string (a0.extract 1 a0.size),.int .u64 16] rfl zA02 ?_;(with_reducible refine(z0s.calls (a0.extract 1 a0.size) 16 t197 _ A9.out).mono ?_);rintro e w16 ⟨rfl,hb⟩;refine⟨_,rfl,?_⟩;have n0_:=z00.mk (z0h (g:=gb195) (o:=.cells #[.int .i64 0,.int .i64 0,.string (⟨#[]⟩:ByteArray)] 58 (0,0)) zA03 hb);have n1_:=z00.mk (z0h (g:=gb196) (o:=.cells #[.int .i64 3,.int .i64 0,.string a0] 58 (0,0)) zA04 hb);have n2_:=z00.mk (z0g zA08 hb);clear BK195;clear BK196;clear HB;have BK195:=n0_;have BK196:=n1_;have HB:=n2_;clear n0_ n1_ n2_;(try clear hb);(try clear hb2);(try clear hk);(try clear hi);have hcz17_0:w16.cell? ⟨gb196,0,none⟩=some (.int .i64 3):=(z01 BK196.out 0).trans rfl;have hcz17_1:w16.cell? ⟨gb196,1,none⟩=some (.int .i64 0):=(z01 BK196.out 1).trans rfl;have hcz17_2:w16.cell? ⟨gb196,2,none⟩=some (.string a0):=(z01 BK196.out 2).trans rfl;have hfz17_0:=z03 BK196.out 0;have hfz17_1:=z03 BK196.out 1;have hfz17_2:=z03 BK196.out 2)|((with_reducible refine z0t (f:=113) rfl ?_);refine z27 (some 40) rfl rfl Tryz.func113 (by kernel_rfl) rfl #[.agg #[.int .i64 2,.int .i64 (wrap64 (t197)),.string (⟨#[]⟩:ByteArray)]] rfl zA02 ?_;(with_reducible refine(z0i.calls k 2 (wrap64 (t197)) (⟨#[]⟩:ByteArray) t198 _ A10.out).mono ?_);rintro e w18 ⟨rfl,hb⟩;refine⟨_,rfl,?_⟩;have n0_:=z00.mk (z0h (g:=gb195) (o:=.cells #[.int .i64 0,.int .i64 0,.string (⟨#[]⟩:ByteArray)] 58 (0,0)) zA03 hb);have n1_:=z00.mk (z0h (g:=gb196) (o:=.cells #[.int .i64 2,.int .i64 (wrap64 (t197)),.string (⟨#[]⟩:ByteArray)] 58 (0,0)) (by(with_reducible repeat(first|refine z07 ?_ _|refine z09 ?_|refine z06 ?_ _));refine z0l (cs:=#[.int .i64 2,.int .i64 (wrap64 (t197)),.string a0]) ?_ 2 _ rfl;(with_reducible repeat(first|refine z07 ?_ _|refine z09 ?_|refine z06 ?_ _));refine z0l (cs:=#[.int .i64 2,.int .i64 0,.string a0]) ?_ 1 _ rfl;(with_reducible repeat(first|refine z07 ?_ _|refine z09 ?_|refine z06 ?_ _));refine z0l (cs:=#[.int .i64 3,.int .i64 0,.string a0]) ?_ 0 _ rfl;(with_reducible repeat(first|refine z07 ?_ _|refine z09 ?_|refine z06 ?_ _));exact BK196.out) hb);have n2_:=z00.mk (z0g zA08 hb);clear BK195;clear BK196;clear HB;have BK195:=n0_;have BK196:=n1_;have HB:=n2_;clear n0_ n1_ n2_;(try clear hb);(try clear hb2);(try clear hk);(try clear hi);have hcz19_0:w18.cell? ⟨gb196,0,none⟩=some (.int .i64 2):=(z01 BK196.out 0).trans rfl;have hcz19_1:w18.cell? ⟨gb196,1,none⟩=some (.int .i64 (wrap64 (t197))):=(z01 BK196.out 1).trans rfl;have hcz19_2:w18.cell? ⟨gb196,2,none⟩=some (.string (⟨#[]⟩:ByteArray)):=(z01 BK196.out 2).trans rfl;have hfz19_0:=z03 BK196.out 0;have hfz19_1:=z03 BK196.out 1;have hfz19_2:=z03 BK196.out 2;have hcz20_0:w18.cell? ⟨gb195,0,none⟩=some (.int .i64 0):=(z01 BK195.out 0).trans rfl;have hcz20_1:w18.cell? ⟨gb195,1,none⟩=some (.int .i64 0):=(z01 BK195.out 1).trans rfl;have hcz20_2:w18.cell? ⟨gb195,2,none⟩=some (.string (⟨#[]⟩:ByteArray)):=(z01 BK195.out 2).trans rfl;have hfz20_0:=z03 BK195.out 0;have hfz20_1:=z03 BK195.out 1;have hfz20_2:=z03 BK195.out 2))
           refine bodyPost_ret (z1w rfl _ _ gb195 58 #[.int .i64 2,.int .i64 (wrap64 (t197)),.string (⟨#[]⟩:ByteArray)] (0,0) _ rfl (by(with_reducible repeat(first|refine z07 ?_ _|refine z09 ?_|refine z06 ?_ _));refine z0l (cs:=#[.int .i64 2,.int .i64 (wrap64 (t197)),.string (⟨#[]⟩:ByteArray)]) ?_ 2 _ rfl;(with_reducible repeat(first|refine z07 ?_ _|refine z09 ?_|refine z06 ?_ _));refine z0l (cs:=#[.int .i64 2,.int .i64 0,.string (⟨#[]⟩:ByteArray)]) ?_ 1 _ rfl;(with_reducible repeat(first|refine z07 ?_ _|refine z09 ?_|refine z06 ?_ _));refine z0l (cs:=#[.int .i64 0,.int .i64 0,.string (⟨#[]⟩:ByteArray)]) ?_ 0 _ rfl;(with_reducible repeat(first|refine z07 ?_ _|refine z09 ?_|refine z06 ?_ _));exact BK195.out) Tryz.underlying58 rfl (by kernel_rfl)) rfl ?_;exact⟨by first|rfl|(simp[z0q,z0p] <;> rfl)|(simp[*,z0q,z0p] <;> rfl),by repeat(first|(with_reducible first|exact HB.out|apply z04|apply z02|apply z05|refine z08 ?_ GE195.out|refine z08 ?_ GE196.out)|exact HB.out)⟩
         · rw[if_neg c11]at H;have c11b0:(t198.toList==a0.toList)=false:=beq_eq_false_iff_ne.mpr c11;have c11b1:(t198.toList !=a0.toList)=true:=bne_iff_ne.mpr c11;simp only[Option.some.injEq,Prod.mk.injEq]at H;obtain⟨rfl,rfl,rfl,rfl⟩:=H;go_enter Tryz.func101,Tryz.ntmps101
           go_wp2_with (first|((with_reducible refine z19 (N:=2) rfl ?_);refine z17 ?hg (N:=2) ?hd (cs:=#[.int .i64 0,.int .i64 0,.string (⟨#[]⟩:ByteArray)]) (t:=58) ?hr ?_;(case hd=>rfl);(case hg=>rfl);(case hr=>first|(go_simp;done)|(go_simp;rfl));intro gb195 hg w21 hbox hb;have n0_:=z00.mk (z0g zA00 hb);have n1_:=z00.mk (hbox);have n2_:=z00.mk ((by rw[hg];exact(z0j zA00):w.heap.size≤gb195));have n3_:=z00.mk ((by rw[hg];exact(z0j zA00):w.heap.size≤gb195));clear HB;have HB:=n0_;have BK195:=n1_;have GW195:=n2_;have GE195:=n3_;clear n0_ n1_ n2_ n3_;clear hb hbox hg)|((with_reducible refine z19 (N:=4) rfl ?_);refine z17 ?hg (N:=4) ?hd (cs:=#[.int .i64 0,.int .i64 0,.string (⟨#[]⟩:ByteArray)]) (t:=58) ?hr ?_;(case hd=>rfl);(case hg=>rfl);(case hr=>first|(go_simp;done)|(go_simp;rfl));intro gb196 hg w22 hbox hb;have n0_:=z00.mk (z0h (g:=gb195) (o:=.cells #[.int .i64 0,.int .i64 0,.string (⟨#[]⟩:ByteArray)] 58 (0,0)) zA0b hb);have n1_:=z00.mk (z0g zA0a hb);have n2_:=z00.mk (hbox);have n3_:=z00.mk ((by rw[hg];exact(z0j zA0a):w.heap.size≤gb196));have n4_:=z00.mk ((by rw[hg];exact(z0j zA0a):w.heap.size≤gb196));have n5_:=z00.mk ((by rw[hg];exact Nat.ne_of_lt (z1u (g:=gb195) (o:=.cells #[.int .i64 0,.int .i64 0,.string (⟨#[]⟩:ByteArray)] 58 (0,0)) zA0b):gb195≠gb196));have n6_:=z00.mk ((by rw[hg];exact Nat.ne_of_gt (z1u (g:=gb195) (o:=.cells #[.int .i64 0,.int .i64 0,.string (⟨#[]⟩:ByteArray)] 58 (0,0)) zA0b):gb196≠gb195));clear BK195;clear HB;have BK195:=n0_;have HB:=n1_;have BK196:=n2_;have GW196:=n3_;have GE196:=n4_;have NB195_196:=n5_;have NB196_195:=n6_;clear n0_ n1_ n2_ n3_ n4_ n5_ n6_;clear hb hbox hg;have hnb23:=NB196_195.out;have hnc23:=NB195_196.out;have hcz24_0:w22.cell? ⟨gb196,0,none⟩=some (.int .i64 0):=(z01 BK196.out 0).trans rfl;have hcz24_1:w22.cell? ⟨gb196,1,none⟩=some (.int .i64 0):=(z01 BK196.out 1).trans rfl;have hcz24_2:w22.cell? ⟨gb196,2,none⟩=some (.string (⟨#[]⟩:ByteArray)):=(z01 BK196.out 2).trans rfl;have hfz24_0:=z03 BK196.out 0;have hfz24_1:=z03 BK196.out 1;have hfz24_2:=z03 BK196.out 2;have p6:0≤(0:Int):=(by omega);have q6:0<a0.size:=zA0g;have hx6:∀h:0<a0.size,((a0[0]'h).toNat:Int)=bt a0 0:=bt_at a0 0;clear p6;have qi6:(0<(a0.size:Int))=True:=eq_true (of_decide_eq_true zA01);replace q6:=eq_true q6)|((with_reducible refine z0t (f:=132) rfl ?_);refine z27 (some 15) rfl rfl Tryz.func132 (by kernel_rfl) rfl #[.string (a0.extract 1 a0.size),.int .u64 16] rfl zA02 ?_;(with_reducible refine(z0s.calls (a0.extract 1 a0.size) 16 t197 _ A9.out).mono ?_);rintro e w25 ⟨rfl,hb⟩;refine⟨_,rfl,?_⟩;have n0_:=z00.mk (z0h (g:=gb195) (o:=.cells #[.int .i64 0,.int .i64 0,.string (⟨#[]⟩:ByteArray)] 58 (0,0)) zA03 hb);have n1_:=z00.mk (z0h (g:=gb196) (o:=.cells #[.int .i64 3,.int .i64 0,.string a0] 58 (0,0)) zA04 hb);have n2_:=z00.mk (z0g zA08 hb);clear BK195;clear BK196;clear HB;have BK195:=n0_;have BK196:=n1_;have HB:=n2_;clear n0_ n1_ n2_;(try clear hb);(try clear hb2);(try clear hk);(try clear hi);have hcz26_0:w25.cell? ⟨gb196,0,none⟩=some (.int .i64 3):=(z01 BK196.out 0).trans rfl;have hcz26_1:w25.cell? ⟨gb196,1,none⟩=some (.int .i64 0):=(z01 BK196.out 1).trans rfl;have hcz26_2:w25.cell? ⟨gb196,2,none⟩=some (.string a0):=(z01 BK196.out 2).trans rfl;have hfz26_0:=z03 BK196.out 0;have hfz26_1:=z03 BK196.out 1;have hfz26_2:=z03 BK196.out 2)|((with_reducible refine z0t (f:=113) rfl ?_);refine z27 (some 40) rfl rfl Tryz.func113 (by kernel_rfl) rfl #[.agg #[.int .i64 2,.int .i64 (wrap64 (t197)),.string (⟨#[]⟩:ByteArray)]] rfl zA02 ?_;(with_reducible refine(z0i.calls k 2 (wrap64 (t197)) (⟨#[]⟩:ByteArray) t198 _ A10.out).mono ?_);rintro e w27 ⟨rfl,hb⟩;refine⟨_,rfl,?_⟩;have n0_:=z00.mk (z0h (g:=gb195) (o:=.cells #[.int .i64 0,.int .i64 0,.string (⟨#[]⟩:ByteArray)] 58 (0,0)) zA03 hb);have n1_:=z00.mk (z0h (g:=gb196) (o:=.cells #[.int .i64 2,.int .i64 (wrap64 (t197)),.string (⟨#[]⟩:ByteArray)] 58 (0,0)) (by(with_reducible repeat(first|refine z07 ?_ _|refine z09 ?_|refine z06 ?_ _));refine z0l (cs:=#[.int .i64 2,.int .i64 (wrap64 (t197)),.string a0]) ?_ 2 _ rfl;(with_reducible repeat(first|refine z07 ?_ _|refine z09 ?_|refine z06 ?_ _));refine z0l (cs:=#[.int .i64 2,.int .i64 0,.string a0]) ?_ 1 _ rfl;(with_reducible repeat(first|refine z07 ?_ _|refine z09 ?_|refine z06 ?_ _));refine z0l (cs:=#[.int .i64 3,.int .i64 0,.string a0]) ?_ 0 _ rfl;(with_reducible repeat(first|refine z07 ?_ _|refine z09 ?_|refine z06 ?_ _));exact BK196.out) hb);have n2_:=z00.mk (z0g zA08 hb);clear BK195;clear BK196;clear HB;have BK195:=n0_;have BK196:=n1_;have HB:=n2_;clear n0_ n1_ n2_;(try clear hb);(try clear hb2);(try clear hk);(try clear hi);have hcz28_0:w27.cell? ⟨gb195,0,none⟩=some (.int .i64 0):=(z01 BK195.out 0).trans rfl;have hcz28_1:w27.cell? ⟨gb195,1,none⟩=some (.int .i64 0):=(z01 BK195.out 1).trans rfl;have hcz28_2:w27.cell? ⟨gb195,2,none⟩=some (.string (⟨#[]⟩:ByteArray)):=(z01 BK195.out 2).trans rfl;have hfz28_0:=z03 BK195.out 0;have hfz28_1:=z03 BK195.out 1;have hfz28_2:=z03 BK195.out 2))
           refine bodyPost_ret (z1w rfl _ _ gb195 58 #[.int .i64 0,.int .i64 0,.string (⟨#[]⟩:ByteArray)] (0,0) _ rfl zA07 Tryz.underlying58 rfl (by kernel_rfl)) rfl ?_;exact⟨by first|rfl|(simp[z0q,z0p] <;> rfl)|(simp[*,z0q,z0p] <;> rfl),by repeat(first|(with_reducible first|exact HB.out|apply z04|apply z02|apply z05|refine z08 ?_ GE195.out|refine z08 ?_ GE196.out)|exact HB.out)⟩
       · rw[if_neg c8]at H;exact absurd H (by simp)
     · rw[if_neg c7]at H;have c7b0:((bt a0 0)==35)=false:=beq_eq_false_iff_ne.mpr c7;have c7b1:((bt a0 0) !=35)=true:=bne_iff_ne.mpr c7
       by_cases c30:(bt a0 0)=45
       · rw[if_pos c30]at H;have c30b0:((bt a0 0)==45)=true:=beq_iff_eq.mpr c30;have c30b1:((bt a0 0) !=45)=false:=bne_eq_false_iff_eq.mpr c30;clear c30
         by_cases c31:1≤(a0.size:Int)
         · rw[if_pos c31]at H;have c31b0:=eq_true c31;have c31b1:decide (1≤(a0.size:Int))=true:=decide_eq_true c31;clear c31;replace H:=Option.bind_eq_some_iff.mp H;obtain⟨t199,A320,H⟩:=H;replace H:((z0i.f k 1 (wrap64 (IntKind.u64.wrap (-t199))) (⟨#[]⟩:ByteArray)).bind fun t200=>(if t200.toList=a0.toList then(some (1,wrap64 (IntKind.u64.wrap (-t199)),(⟨#[]⟩:ByteArray),0))else(some (0,0,(⟨#[]⟩:ByteArray),2))))=some (r1,r2,r3,r4):=H;have A32:=z00.mk A320;clear A320;replace H:=Option.bind_eq_some_iff.mp H;obtain⟨t200,A330,H⟩:=H;replace H:(if t200.toList=a0.toList then(some (1,wrap64 (IntKind.u64.wrap (-t199)),(⟨#[]⟩:ByteArray),0))else(some (0,0,(⟨#[]⟩:ByteArray),2)))=some (r1,r2,r3,r4):=H;have A33:=z00.mk A330;clear A330
           by_cases c34:t200.toList=a0.toList
           · rw[if_pos c34]at H;have c34b0:(t200.toList==a0.toList)=true:=beq_iff_eq.mpr c34;have c34b1:(t200.toList !=a0.toList)=false:=bne_eq_false_iff_eq.mpr c34;clear c34;simp only[Option.some.injEq,Prod.mk.injEq]at H;obtain⟨rfl,rfl,rfl,rfl⟩:=H;go_enter Tryz.func101,Tryz.ntmps101
             go_wp2_with (first|((with_reducible refine z19 (N:=2) rfl ?_);refine z17 ?hg (N:=2) ?hd (cs:=#[.int .i64 0,.int .i64 0,.string (⟨#[]⟩:ByteArray)]) (t:=58) ?hr ?_;(case hd=>rfl);(case hg=>rfl);(case hr=>first|(go_simp;done)|(go_simp;rfl));intro gb195 hg w35 hbox hb;have n0_:=z00.mk (z0g zA00 hb);have n1_:=z00.mk (hbox);have n2_:=z00.mk ((by rw[hg];exact(z0j zA00):w.heap.size≤gb195));have n3_:=z00.mk ((by rw[hg];exact(z0j zA00):w.heap.size≤gb195));clear HB;have HB:=n0_;have BK195:=n1_;have GW195:=n2_;have GE195:=n3_;clear n0_ n1_ n2_ n3_;clear hb hbox hg)|((with_reducible refine z19 (N:=4) rfl ?_);refine z17 ?hg (N:=4) ?hd (cs:=#[.int .i64 0,.int .i64 0,.string (⟨#[]⟩:ByteArray)]) (t:=58) ?hr ?_;(case hd=>rfl);(case hg=>rfl);(case hr=>first|(go_simp;done)|(go_simp;rfl));intro gb196 hg w36 hbox hb;have n0_:=z00.mk (z0h (g:=gb195) (o:=.cells #[.int .i64 0,.int .i64 0,.string (⟨#[]⟩:ByteArray)] 58 (0,0)) zA0b hb);have n1_:=z00.mk (z0g zA0a hb);have n2_:=z00.mk (hbox);have n3_:=z00.mk ((by rw[hg];exact(z0j zA0a):w.heap.size≤gb196));have n4_:=z00.mk ((by rw[hg];exact(z0j zA0a):w.heap.size≤gb196));have n5_:=z00.mk ((by rw[hg];exact Nat.ne_of_lt (z1u (g:=gb195) (o:=.cells #[.int .i64 0,.int .i64 0,.string (⟨#[]⟩:ByteArray)] 58 (0,0)) zA0b):gb195≠gb196));have n6_:=z00.mk ((by rw[hg];exact Nat.ne_of_gt (z1u (g:=gb195) (o:=.cells #[.int .i64 0,.int .i64 0,.string (⟨#[]⟩:ByteArray)] 58 (0,0)) zA0b):gb196≠gb195));clear BK195;clear HB;have BK195:=n0_;have HB:=n1_;have BK196:=n2_;have GW196:=n3_;have GE196:=n4_;have NB195_196:=n5_;have NB196_195:=n6_;clear n0_ n1_ n2_ n3_ n4_ n5_ n6_;clear hb hbox hg;have hnb37:=NB196_195.out;have hnc37:=NB195_196.out;have hcz38_0:w36.cell? ⟨gb196,0,none⟩=some (.int .i64 0):=(z01 BK196.out 0).trans rfl;have hcz38_1:w36.cell? ⟨gb196,1,none⟩=some (.int .i64 0):=(z01 BK196.out 1).trans rfl;have hcz38_2:w36.cell? ⟨gb196,2,none⟩=some (.string (⟨#[]⟩:ByteArray)):=(z01 BK196.out 2).trans rfl;have hfz38_0:=z03 BK196.out 0;have hfz38_1:=z03 BK196.out 1;have hfz38_2:=z03 BK196.out 2;have p6:0≤(0:Int):=(by omega);have q6:0<a0.size:=zA0g;have hx6:∀h:0<a0.size,((a0[0]'h).toNat:Int)=bt a0 0:=bt_at a0 0;clear p6;have qi6:(0<(a0.size:Int))=True:=eq_true (of_decide_eq_true zA01);replace q6:=eq_true q6;have p29:0≤(0:Int):=(by omega);have q29:0<a0.size:=zA0g;have hx29:∀h:0<a0.size,((a0[0]'h).toNat:Int)=bt a0 0:=bt_at a0 0;clear p29;have qi29:(0<(a0.size:Int))=True:=eq_true (of_decide_eq_true zA01);replace q29:=eq_true q29)|((with_reducible refine z0t (f:=132) rfl ?_);refine z27 (some 23) rfl rfl Tryz.func132 (by kernel_rfl) rfl #[.string (a0.extract 1 a0.size),.int .u64 10] rfl zA02 ?_;(with_reducible refine(z0s.calls (a0.extract 1 a0.size) 10 t199 _ A32.out).mono ?_);rintro e w39 ⟨rfl,hb⟩;refine⟨_,rfl,?_⟩;have n0_:=z00.mk (z0h (g:=gb195) (o:=.cells #[.int .i64 0,.int .i64 0,.string (⟨#[]⟩:ByteArray)] 58 (0,0)) zA03 hb);have n1_:=z00.mk (z0h (g:=gb196) (o:=.cells #[.int .i64 3,.int .i64 0,.string a0] 58 (0,0)) zA04 hb);have n2_:=z00.mk (z0g zA08 hb);clear BK195;clear BK196;clear HB;have BK195:=n0_;have BK196:=n1_;have HB:=n2_;clear n0_ n1_ n2_;(try clear hb);(try clear hb2);(try clear hk);(try clear hi);have hcz40_0:w39.cell? ⟨gb196,0,none⟩=some (.int .i64 3):=(z01 BK196.out 0).trans rfl;have hcz40_1:w39.cell? ⟨gb196,1,none⟩=some (.int .i64 0):=(z01 BK196.out 1).trans rfl;have hcz40_2:w39.cell? ⟨gb196,2,none⟩=some (.string a0):=(z01 BK196.out 2).trans rfl;have hfz40_0:=z03 BK196.out 0;have hfz40_1:=z03 BK196.out 1;have hfz40_2:=z03 BK196.out 2)|((with_reducible refine z0t (f:=113) rfl ?_);refine z27 (some 40) rfl rfl Tryz.func113 (by kernel_rfl) rfl #[.agg #[.int .i64 1,.int .i64 (wrap64 (IntKind.u64.wrap (-t199))),.string (⟨#[]⟩:ByteArray)]] rfl zA02 ?_;(with_reducible refine(z0i.calls k 1 (wrap64 (IntKind.u64.wrap (-t199))) (⟨#[]⟩:ByteArray) t200 _ A33.out).mono ?_);rintro e w41 ⟨rfl,hb⟩;refine⟨_,rfl,?_⟩;have n0_:=z00.mk (z0h (g:=gb195) (o:=.cells #[.int .i64 0,.int .i64 0,.string (⟨#[]⟩:ByteArray)] 58 (0,0)) zA03 hb);have n1_:=z00.mk (z0h (g:=gb196) (o:=.cells #[.int .i64 1,.int .i64 (wrap64 (IntKind.u64.wrap (-t199))),.string (⟨#[]⟩:ByteArray)] 58 (0,0)) (by(with_reducible repeat(first|refine z07 ?_ _|refine z09 ?_|refine z06 ?_ _));refine z0l (cs:=#[.int .i64 1,.int .i64 (wrap64 (IntKind.u64.wrap (-t199))),.string a0]) ?_ 2 _ rfl;(with_reducible repeat(first|refine z07 ?_ _|refine z09 ?_|refine z06 ?_ _));refine z0l (cs:=#[.int .i64 1,.int .i64 0,.string a0]) ?_ 1 _ rfl;(with_reducible repeat(first|refine z07 ?_ _|refine z09 ?_|refine z06 ?_ _));refine z0l (cs:=#[.int .i64 3,.int .i64 0,.string a0]) ?_ 0 _ rfl;(with_reducible repeat(first|refine z07 ?_ _|refine z09 ?_|refine z06 ?_ _));exact BK196.out) hb);have n2_:=z00.mk (z0g zA08 hb);clear BK195;clear BK196;clear HB;have BK195:=n0_;have BK196:=n1_;have HB:=n2_;clear n0_ n1_ n2_;(try clear hb);(try clear hb2);(try clear hk);(try clear hi);have hcz42_0:w41.cell? ⟨gb196,0,none⟩=some (.int .i64 1):=(z01 BK196.out 0).trans rfl;have hcz42_1:w41.cell? ⟨gb196,1,none⟩=some (.int .i64 (wrap64 (IntKind.u64.wrap (-t199)))):=(z01 BK196.out 1).trans rfl;have hcz42_2:w41.cell? ⟨gb196,2,none⟩=some (.string (⟨#[]⟩:ByteArray)):=(z01 BK196.out 2).trans rfl;have hfz42_0:=z03 BK196.out 0;have hfz42_1:=z03 BK196.out 1;have hfz42_2:=z03 BK196.out 2;have hcz43_0:w41.cell? ⟨gb195,0,none⟩=some (.int .i64 0):=(z01 BK195.out 0).trans rfl;have hcz43_1:w41.cell? ⟨gb195,1,none⟩=some (.int .i64 0):=(z01 BK195.out 1).trans rfl;have hcz43_2:w41.cell? ⟨gb195,2,none⟩=some (.string (⟨#[]⟩:ByteArray)):=(z01 BK195.out 2).trans rfl;have hfz43_0:=z03 BK195.out 0;have hfz43_1:=z03 BK195.out 1;have hfz43_2:=z03 BK195.out 2))
             refine bodyPost_ret (z1w rfl _ _ gb195 58 #[.int .i64 1,.int .i64 (wrap64 (IntKind.u64.wrap (-t199))),.string (⟨#[]⟩:ByteArray)] (0,0) _ rfl (by(with_reducible repeat(first|refine z07 ?_ _|refine z09 ?_|refine z06 ?_ _));refine z0l (cs:=#[.int .i64 1,.int .i64 (wrap64 (IntKind.u64.wrap (-t199))),.string (⟨#[]⟩:ByteArray)]) ?_ 2 _ rfl;(with_reducible repeat(first|refine z07 ?_ _|refine z09 ?_|refine z06 ?_ _));refine z0l (cs:=#[.int .i64 1,.int .i64 0,.string (⟨#[]⟩:ByteArray)]) ?_ 1 _ rfl;(with_reducible repeat(first|refine z07 ?_ _|refine z09 ?_|refine z06 ?_ _));refine z0l (cs:=#[.int .i64 0,.int .i64 0,.string (⟨#[]⟩:ByteArray)]) ?_ 0 _ rfl;(with_reducible repeat(first|refine z07 ?_ _|refine z09 ?_|refine z06 ?_ _));exact BK195.out) Tryz.underlying58 rfl (by kernel_rfl)) rfl ?_;exact⟨by first|rfl|(simp[z0q,z0p] <;> rfl)|(simp[*,z0q,z0p] <;> rfl),by repeat(first|(with_reducible first|exact HB.out|apply z04|apply z02|apply z05|refine z08 ?_ GE195.out|refine z08 ?_ GE196.out)|exact HB.out)⟩
           · rw[if_neg c34]at H;have c34b0:(t200.toList==a0.toList)=false:=beq_eq_false_iff_ne.mpr c34;have c34b1:(t200.toList !=a0.toList)=true:=bne_iff_ne.mpr c34;simp only[Option.some.injEq,Prod.mk.injEq]at H;obtain⟨rfl,rfl,rfl,rfl⟩:=H;go_enter Tryz.func101,Tryz.ntmps101
             go_wp2_with (first|((with_reducible refine z19 (N:=2) rfl ?_);refine z17 ?hg (N:=2) ?hd (cs:=#[.int .i64 0,.int .i64 0,.string (⟨#[]⟩:ByteArray)]) (t:=58) ?hr ?_;(case hd=>rfl);(case hg=>rfl);(case hr=>first|(go_simp;done)|(go_simp;rfl));intro gb195 hg w44 hbox hb;have n0_:=z00.mk (z0g zA00 hb);have n1_:=z00.mk (hbox);have n2_:=z00.mk ((by rw[hg];exact(z0j zA00):w.heap.size≤gb195));have n3_:=z00.mk ((by rw[hg];exact(z0j zA00):w.heap.size≤gb195));clear HB;have HB:=n0_;have BK195:=n1_;have GW195:=n2_;have GE195:=n3_;clear n0_ n1_ n2_ n3_;clear hb hbox hg)|((with_reducible refine z19 (N:=4) rfl ?_);refine z17 ?hg (N:=4) ?hd (cs:=#[.int .i64 0,.int .i64 0,.string (⟨#[]⟩:ByteArray)]) (t:=58) ?hr ?_;(case hd=>rfl);(case hg=>rfl);(case hr=>first|(go_simp;done)|(go_simp;rfl));intro gb196 hg w45 hbox hb;have n0_:=z00.mk (z0h (g:=gb195) (o:=.cells #[.int .i64 0,.int .i64 0,.string (⟨#[]⟩:ByteArray)] 58 (0,0)) zA0b hb);have n1_:=z00.mk (z0g zA0a hb);have n2_:=z00.mk (hbox);have n3_:=z00.mk ((by rw[hg];exact(z0j zA0a):w.heap.size≤gb196));have n4_:=z00.mk ((by rw[hg];exact(z0j zA0a):w.heap.size≤gb196));have n5_:=z00.mk ((by rw[hg];exact Nat.ne_of_lt (z1u (g:=gb195) (o:=.cells #[.int .i64 0,.int .i64 0,.string (⟨#[]⟩:ByteArray)] 58 (0,0)) zA0b):gb195≠gb196));have n6_:=z00.mk ((by rw[hg];exact Nat.ne_of_gt (z1u (g:=gb195) (o:=.cells #[.int .i64 0,.int .i64 0,.string (⟨#[]⟩:ByteArray)] 58 (0,0)) zA0b):gb196≠gb195));clear BK195;clear HB;have BK195:=n0_;have HB:=n1_;have BK196:=n2_;have GW196:=n3_;have GE196:=n4_;have NB195_196:=n5_;have NB196_195:=n6_;clear n0_ n1_ n2_ n3_ n4_ n5_ n6_;clear hb hbox hg;have hnb46:=NB196_195.out;have hnc46:=NB195_196.out;have hcz47_0:w45.cell? ⟨gb196,0,none⟩=some (.int .i64 0):=(z01 BK196.out 0).trans rfl;have hcz47_1:w45.cell? ⟨gb196,1,none⟩=some (.int .i64 0):=(z01 BK196.out 1).trans rfl;have hcz47_2:w45.cell? ⟨gb196,2,none⟩=some (.string (⟨#[]⟩:ByteArray)):=(z01 BK196.out 2).trans rfl;have hfz47_0:=z03 BK196.out 0;have hfz47_1:=z03 BK196.out 1;have hfz47_2:=z03 BK196.out 2;have p6:0≤(0:Int):=(by omega);have q6:0<a0.size:=zA0g;have hx6:∀h:0<a0.size,((a0[0]'h).toNat:Int)=bt a0 0:=bt_at a0 0;clear p6;have qi6:(0<(a0.size:Int))=True:=eq_true (of_decide_eq_true zA01);replace q6:=eq_true q6;have p29:0≤(0:Int):=(by omega);have q29:0<a0.size:=zA0g;have hx29:∀h:0<a0.size,((a0[0]'h).toNat:Int)=bt a0 0:=bt_at a0 0;clear p29;have qi29:(0<(a0.size:Int))=True:=eq_true (of_decide_eq_true zA01);replace q29:=eq_true q29)|((with_reducible refine z0t (f:=132) rfl ?_);refine z27 (some 23) rfl rfl Tryz.func132 (by kernel_rfl) rfl #[.string (a0.extract 1 a0.size),.int .u64 10] rfl zA02 ?_;(with_reducible refine(z0s.calls (a0.extract 1 a0.size) 10 t199 _ A32.out).mono ?_);rintro e w48 ⟨rfl,hb⟩;refine⟨_,rfl,?_⟩;have n0_:=z00.mk (z0h (g:=gb195) (o:=.cells #[.int .i64 0,.int .i64 0,.string (⟨#[]⟩:ByteArray)] 58 (0,0)) zA03 hb);have n1_:=z00.mk (z0h (g:=gb196) (o:=.cells #[.int .i64 3,.int .i64 0,.string a0] 58 (0,0)) zA04 hb);have n2_:=z00.mk (z0g zA08 hb);clear BK195;clear BK196;clear HB;have BK195:=n0_;have BK196:=n1_;have HB:=n2_;clear n0_ n1_ n2_;(try clear hb);(try clear hb2);(try clear hk);(try clear hi);have hcz49_0:w48.cell? ⟨gb196,0,none⟩=some (.int .i64 3):=(z01 BK196.out 0).trans rfl;have hcz49_1:w48.cell? ⟨gb196,1,none⟩=some (.int .i64 0):=(z01 BK196.out 1).trans rfl;have hcz49_2:w48.cell? ⟨gb196,2,none⟩=some (.string a0):=(z01 BK196.out 2).trans rfl;have hfz49_0:=z03 BK196.out 0;have hfz49_1:=z03 BK196.out 1;have hfz49_2:=z03 BK196.out 2)|((with_reducible refine z0t (f:=113) rfl ?_);refine z27 (some 40) rfl rfl Tryz.func113 (by kernel_rfl) rfl #[.agg #[.int .i64 1,.int .i64 (wrap64 (IntKind.u64.wrap (-t199))),.string (⟨#[]⟩:ByteArray)]] rfl zA02 ?_;(with_reducible refine(z0i.calls k 1 (wrap64 (IntKind.u64.wrap (-t199))) (⟨#[]⟩:ByteArray) t200 _ A33.out).mono ?_);rintro e w50 ⟨rfl,hb⟩;refine⟨_,rfl,?_⟩;have n0_:=z00.mk (z0h (g:=gb195) (o:=.cells #[.int .i64 0,.int .i64 0,.string (⟨#[]⟩:ByteArray)] 58 (0,0)) zA03 hb);have n1_:=z00.mk (z0h (g:=gb196) (o:=.cells #[.int .i64 1,.int .i64 (wrap64 (IntKind.u64.wrap (-t199))),.string (⟨#[]⟩:ByteArray)] 58 (0,0)) (by(with_reducible repeat(first|refine z07 ?_ _|refine z09 ?_|refine z06 ?_ _));refine z0l (cs:=#[.int .i64 1,.int .i64 (wrap64 (IntKind.u64.wrap (-t199))),.string a0]) ?_ 2 _ rfl;(with_reducible repeat(first|refine z07 ?_ _|refine z09 ?_|refine z06 ?_ _));refine z0l (cs:=#[.int .i64 1,.int .i64 0,.string a0]) ?_ 1 _ rfl;(with_reducible repeat(first|refine z07 ?_ _|refine z09 ?_|refine z06 ?_ _));refine z0l (cs:=#[.int .i64 3,.int .i64 0,.string a0]) ?_ 0 _ rfl;(with_reducible repeat(first|refine z07 ?_ _|refine z09 ?_|refine z06 ?_ _));exact BK196.out) hb);have n2_:=z00.mk (z0g zA08 hb);clear BK195;clear BK196;clear HB;have BK195:=n0_;have BK196:=n1_;have HB:=n2_;clear n0_ n1_ n2_;(try clear hb);(try clear hb2);(try clear hk);(try clear hi);have hcz51_0:w50.cell? ⟨gb195,0,none⟩=some (.int .i64 0):=(z01 BK195.out 0).trans rfl;have hcz51_1:w50.cell? ⟨gb195,1,none⟩=some (.int .i64 0):=(z01 BK195.out 1).trans rfl;have hcz51_2:w50.cell? ⟨gb195,2,none⟩=some (.string (⟨#[]⟩:ByteArray)):=(z01 BK195.out 2).trans rfl;have hfz51_0:=z03 BK195.out 0;have hfz51_1:=z03 BK195.out 1;have hfz51_2:=z03 BK195.out 2))
             refine bodyPost_ret (z1w rfl _ _ gb195 58 #[.int .i64 0,.int .i64 0,.string (⟨#[]⟩:ByteArray)] (0,0) _ rfl zA07 Tryz.underlying58 rfl (by kernel_rfl)) rfl ?_;exact⟨by first|rfl|(simp[z0q,z0p] <;> rfl)|(simp[*,z0q,z0p] <;> rfl),by repeat(first|(with_reducible first|exact HB.out|apply z04|apply z02|apply z05|refine z08 ?_ GE195.out|refine z08 ?_ GE196.out)|exact HB.out)⟩
         · rw[if_neg c31]at H;exact absurd H (by simp)
       · rw[if_neg c30]at H;have c30b0:((bt a0 0)==45)=false:=beq_eq_false_iff_ne.mpr c30;have c30b1:((bt a0 0) !=45)=true:=bne_iff_ne.mpr c30;have HC52:=z00.mk H;clear H;go_enter Tryz.func101,Tryz.ntmps101
         go_upto_region 8 with (first|((with_reducible refine z19 (N:=2) rfl ?_);refine z17 ?hg (N:=2) ?hd (cs:=#[.int .i64 0,.int .i64 0,.string (⟨#[]⟩:ByteArray)]) (t:=58) ?hr ?_;(case hd=>rfl);(case hg=>rfl);(case hr=>first|(go_simp;done)|(go_simp;rfl));intro gb195 hg w53 hbox hb;have n0_:=z00.mk (z0g zA00 hb);have n1_:=z00.mk (hbox);have n2_:=z00.mk ((by rw[hg];exact(z0j zA00):w.heap.size≤gb195));have n3_:=z00.mk ((by rw[hg];exact(z0j zA00):w.heap.size≤gb195));clear HB;have HB:=n0_;have BK195:=n1_;have GW195:=n2_;have GE195:=n3_;clear n0_ n1_ n2_ n3_;clear hb hbox hg)|((with_reducible refine z19 (N:=4) rfl ?_);refine z17 ?hg (N:=4) ?hd (cs:=#[.int .i64 0,.int .i64 0,.string (⟨#[]⟩:ByteArray)]) (t:=58) ?hr ?_;(case hd=>rfl);(case hg=>rfl);(case hr=>first|(go_simp;done)|(go_simp;rfl));intro gb196 hg w54 hbox hb;have n0_:=z00.mk (z0h (g:=gb195) (o:=.cells #[.int .i64 0,.int .i64 0,.string (⟨#[]⟩:ByteArray)] 58 (0,0)) zA0b hb);have n1_:=z00.mk (z0g zA0a hb);have n2_:=z00.mk (hbox);have n3_:=z00.mk ((by rw[hg];exact(z0j zA0a):w.heap.size≤gb196));have n4_:=z00.mk ((by rw[hg];exact(z0j zA0a):w.heap.size≤gb196));have n5_:=z00.mk ((by rw[hg];exact Nat.ne_of_lt (z1u (g:=gb195) (o:=.cells #[.int .i64 0,.int .i64 0,.string (⟨#[]⟩:ByteArray)] 58 (0,0)) zA0b):gb195≠gb196));have n6_:=z00.mk ((by rw[hg];exact Nat.ne_of_gt (z1u (g:=gb195) (o:=.cells #[.int .i64 0,.int .i64 0,.string (⟨#[]⟩:ByteArray)] 58 (0,0)) zA0b):gb196≠gb195));clear BK195;clear HB;have BK195:=n0_;have HB:=n1_;have BK196:=n2_;have GW196:=n3_;have GE196:=n4_;have NB195_196:=n5_;have NB196_195:=n6_;clear n0_ n1_ n2_ n3_ n4_ n5_ n6_;clear hb hbox hg;have hnb55:=NB196_195.out;have hnc55:=NB195_196.out;have hcz56_0:w54.cell? ⟨gb196,0,none⟩=some (.int .i64 0):=(z01 BK196.out 0).trans rfl;have hcz56_1:w54.cell? ⟨gb196,1,none⟩=some (.int .i64 0):=(z01 BK196.out 1).trans rfl;have hcz56_2:w54.cell? ⟨gb196,2,none⟩=some (.string (⟨#[]⟩:ByteArray)):=(z01 BK196.out 2).trans rfl;have hfz56_0:=z03 BK196.out 0;have hfz56_1:=z03 BK196.out 1;have hfz56_2:=z03 BK196.out 2;have p6:0≤(0:Int):=(by omega);have q6:0<a0.size:=zA0g;have hx6:∀h:0<a0.size,((a0[0]'h).toNat:Int)=bt a0 0:=bt_at a0 0;clear p6;have qi6:(0<(a0.size:Int))=True:=eq_true (of_decide_eq_true zA01);replace q6:=eq_true q6;have p29:0≤(0:Int):=(by omega);have q29:0<a0.size:=zA0g;have hx29:∀h:0<a0.size,((a0[0]'h).toNat:Int)=bt a0 0:=bt_at a0 0;clear p29;have qi29:(0<(a0.size:Int))=True:=eq_true (of_decide_eq_true zA01);replace q29:=eq_true q29))
         (try simp only[Act.put,List.setIfInBounds_toArray,List.set_cons_zero,List.set_cons_succ])
         go_cut [34] (fun v34 wc=>∃(kq:Nat) (x34_51:Bool),v34=.bool x34_51∧z00 (z0u.j0 kq a0 x34_51 3 0 a0=some (r1,r2,r3,r4))∧z00 (kq≤k)∧z00 (wc.heap[gb195]?=some (.cells #[.int .i64 0,.int .i64 0,.string (⟨#[]⟩:ByteArray)] 58 (0,0)))∧z00 (wc.heap[gb196]?=some (.cells #[.int .i64 3,.int .i64 0,.string a0] 58 (0,0)))∧z00 (Below w.heap.size w wc))
         case first =>
          have H:=HC52.out;clear HC52
          by_cases c58:(bt a0 0)≥48
          · rw[if_pos c58]at H;have c58b0:decide (48≤(bt a0 0))=true:=decide_eq_true c58;clear c58
            (first|rw[c58b0]|(simp only[i64_w,i32_w];rw[c58b0])|skip)
            have H':=z00.mk H;clear H;have p57:0≤(0:Int):=(by omega)
            have q57:0<a0.size:=zA0g;have hx57:∀h:0<a0.size,((a0[0]'h).toNat:Int)=bt a0 0:=bt_at a0 0;clear p57;have qi57:(0<(a0.size:Int))=True:=eq_true (of_decide_eq_true zA01);replace q57:=eq_true q57;have p59:0≤(0:Int):=(by omega)
            have q59:0<a0.size:=zA0g;have hx59:∀h:0<a0.size,((a0[0]'h).toNat:Int)=bt a0 0:=bt_at a0 0;clear p59;have qi59:(0<(a0.size:Int))=True:=eq_true (of_decide_eq_true zA01);replace q59:=eq_true q59;go_wp2;go_meet
            case rel=>exact⟨_,(decide ((bt a0 0)≤57)),zA06,H',⟨zA0m⟩,⟨zA03⟩,⟨zA04⟩,⟨zA08⟩⟩
          · rw[if_neg c58]at H;have c58b0:decide (48≤(bt a0 0))=false:=decide_eq_false c58;clear c58
            (first|rw[c58b0]|(simp only[i64_w,i32_w];rw[c58b0])|skip)
            have H':=z00.mk H;clear H;have p57:0≤(0:Int):=(by omega)
            have q57:0<a0.size:=zA0g;have hx57:∀h:0<a0.size,((a0[0]'h).toNat:Int)=bt a0 0:=bt_at a0 0;clear p57;have qi57:(0<(a0.size:Int))=True:=eq_true (of_decide_eq_true zA01);replace q57:=eq_true q57;go_wp2;go_meet
            case rel=>exact⟨_,(false),zA06,H',⟨zA0m⟩,⟨zA03⟩,⟨zA04⟩,⟨zA08⟩⟩
         case rest =>
          clear HC52;(try clear c1);(try clear c2);(try clear c2b0);(try clear c2b1);(try clear p2);(try clear q2);(try clear hx2);(try clear qi2);(try clear c3);(try clear c4);(try clear c5);(try clear c5b0);(try clear c5b1);(try clear p5);(try clear q5);(try clear hx5);(try clear qi5);(try clear p6);(try clear q6);(try clear hx6);(try clear qi6);(try clear c7);(try clear c7b0);(try clear c7b1);(try clear c8);(try clear c8b0);(try clear c8b1);(try clear c10);(try clear c11);(try clear c11b0);(try clear c11b1);(try clear c13);(try clear c14);(try clear c23);(try clear p29);(try clear q29);(try clear hx29);(try clear qi29);(try clear c30);(try clear c30b0);(try clear c30b1);(try clear c31);(try clear c31b0);(try clear c31b1);(try clear c34);(try clear c34b0);(try clear c34b1);(try clear c37);(try clear c46);(try clear c55);(try clear p57);(try clear q57);(try clear hx57);(try clear qi57);(try clear c58);(try clear c58b0);(try clear p59);(try clear q59);(try clear hx59);(try clear qi59);(try clear hcz15_0);(try clear hcz15_1);(try clear hcz15_2);(try clear hcz17_0);(try clear hcz17_1);(try clear hcz17_2);(try clear hcz19_0);(try clear hcz19_1);(try clear hcz19_2);(try clear hcz20_0);(try clear hcz20_1);(try clear hcz20_2);(try clear hcz24_0);(try clear hcz24_1);(try clear hcz24_2);(try clear hcz26_0);(try clear hcz26_1);(try clear hcz26_2);(try clear hcz28_0);(try clear hcz28_1);(try clear hcz28_2);(try clear hcz38_0);(try clear hcz38_1);(try clear hcz38_2);(try clear hcz40_0);(try clear hcz40_1);(try clear hcz40_2);(try clear hcz42_0);(try clear hcz42_1);(try clear hcz42_2);(try clear hcz43_0);(try clear hcz43_1);(try clear hcz43_2);(try clear hcz47_0);(try clear hcz47_1);(try clear hcz47_2);(try clear hcz49_0);(try clear hcz49_1);(try clear hcz49_2);(try clear hcz4_0);(try clear hcz4_1);(try clear hcz4_2);(try clear hcz51_0);(try clear hcz51_1);(try clear hcz51_2);(try clear hcz56_0);(try clear hcz56_1);(try clear hcz56_2);(try clear hfz15_0);(try clear hfz15_1)
          (try clear hfz15_2);(try clear hfz17_0);(try clear hfz17_1);(try clear hfz17_2);(try clear hfz19_0);(try clear hfz19_1);(try clear hfz19_2);(try clear hfz20_0);(try clear hfz20_1);(try clear hfz20_2);(try clear hfz24_0);(try clear hfz24_1);(try clear hfz24_2);(try clear hfz26_0);(try clear hfz26_1);(try clear hfz26_2);(try clear hfz28_0);(try clear hfz28_1);(try clear hfz28_2);(try clear hfz38_0);(try clear hfz38_1);(try clear hfz38_2);(try clear hfz40_0);(try clear hfz40_1);(try clear hfz40_2);(try clear hfz42_0);(try clear hfz42_1);(try clear hfz42_2);(try clear hfz43_0);(try clear hfz43_1);(try clear hfz43_2);(try clear hfz47_0);(try clear hfz47_1);(try clear hfz47_2);(try clear hfz49_0);(try clear hfz49_1);(try clear hfz49_2);(try clear hfz4_0);(try clear hfz4_1);(try clear hfz4_2);(try clear hfz51_0);(try clear hfz51_1);(try clear hfz51_2);(try clear hfz56_0);(try clear hfz56_1);(try clear hfz56_2);(try clear p29);(try clear p57);(try clear p59);(try clear p6);(try clear q29);(try clear q57);(try clear q59);(try clear q6);obtain⟨kq,x34_51,rfl,HA,HJ51,BK195,BK196,HB⟩:=hcut
          cases kq with
          |zero=>exact absurd HA.out (by simp[z0u.j0])
          |succ kj51 =>
           have H:=HA.out;clear HA;simp only[z0u.j0]at H
           by_cases c60:x34_51=true
           · subst c60;have H1:((z0s.f a0 10).bind fun t201=>((z0i.f kj51 1 (wrap64 (t201)) (⟨#[]⟩:ByteArray)).bind fun t202=>(if t202.toList=a0.toList then(some (1,wrap64 (t201),(⟨#[]⟩:ByteArray),0))else(some (0,0,(⟨#[]⟩:ByteArray),2)))))=some (r1,r2,r3,r4):=by rw[if_pos rfl]at H;exact H
             clear H;have H:=H1;clear H1;replace H:=Option.bind_eq_some_iff.mp H;obtain⟨t201,A610,H⟩:=H;replace H:((z0i.f kj51 1 (wrap64 (t201)) (⟨#[]⟩:ByteArray)).bind fun t202=>(if t202.toList=a0.toList then(some (1,wrap64 (t201),(⟨#[]⟩:ByteArray),0))else(some (0,0,(⟨#[]⟩:ByteArray),2))))=some (r1,r2,r3,r4):=H;have A61:=z00.mk A610;clear A610;replace H:=Option.bind_eq_some_iff.mp H;obtain⟨t202,A620,H⟩:=H;replace H:(if t202.toList=a0.toList then(some (1,wrap64 (t201),(⟨#[]⟩:ByteArray),0))else(some (0,0,(⟨#[]⟩:ByteArray),2)))=some (r1,r2,r3,r4):=H;have A62:=z00.mk A620;clear A620
             by_cases c63:t202.toList=a0.toList
             · rw[if_pos c63]at H;have c63b0:(t202.toList==a0.toList)=true:=beq_iff_eq.mpr c63;have c63b1:(t202.toList !=a0.toList)=false:=bne_eq_false_iff_eq.mpr c63;clear c63;simp only[Option.some.injEq,Prod.mk.injEq]at H;obtain⟨rfl,rfl,rfl,rfl⟩:=H
               go_wp2_with (first|((with_reducible refine z0t (f:=132) rfl ?_);refine z27 (some 36) rfl rfl Tryz.func132 (by kernel_rfl) rfl #[.string a0,.int .u64 10] rfl zA02 ?_;(with_reducible refine(z0s.calls a0 10 t201 _ A61.out).mono ?_);rintro e w64 ⟨rfl,hb⟩;refine⟨_,rfl,?_⟩;have n0_:=z00.mk (z0h (g:=gb195) (o:=.cells #[.int .i64 0,.int .i64 0,.string (⟨#[]⟩:ByteArray)] 58 (0,0)) zA0b hb);have n1_:=z00.mk (z0h (g:=gb196) (o:=.cells #[.int .i64 3,.int .i64 0,.string a0] 58 (0,0)) zA0q hb);have n2_:=z00.mk (z0g zA08 hb);clear BK195;clear BK196;clear HB;have BK195:=n0_;have BK196:=n1_;have HB:=n2_;clear n0_ n1_ n2_;(try clear hb);(try clear hb2);(try clear hk);(try clear hi);have hnb65:=NB196_195.out;have hnc65:=NB195_196.out;have hcz66_0:w64.cell? ⟨gb196,0,none⟩=some (.int .i64 3):=(z01 BK196.out 0).trans rfl;have hcz66_1:w64.cell? ⟨gb196,1,none⟩=some (.int .i64 0):=(z01 BK196.out 1).trans rfl;have hcz66_2:w64.cell? ⟨gb196,2,none⟩=some (.string a0):=(z01 BK196.out 2).trans rfl;have hfz66_0:=z03 BK196.out 0;have hfz66_1:=z03 BK196.out 1;have hfz66_2:=z03 BK196.out 2)|((with_reducible refine z0t (f:=113) rfl ?_);refine z27 (some 40) rfl rfl Tryz.func113 (by kernel_rfl) rfl #[.agg #[.int .i64 1,.int .i64 (wrap64 (t201)),.string (⟨#[]⟩:ByteArray)]] rfl zA02 ?_;(with_reducible refine(z0i.calls kj51 1 (wrap64 (t201)) (⟨#[]⟩:ByteArray) t202 _ A62.out).mono ?_);rintro e w67 ⟨rfl,hb⟩;refine⟨_,rfl,?_⟩;have n0_:=z00.mk (z0h (g:=gb195) (o:=.cells #[.int .i64 0,.int .i64 0,.string (⟨#[]⟩:ByteArray)] 58 (0,0)) zA03 hb);have n1_:=z00.mk (z0h (g:=gb196) (o:=.cells #[.int .i64 1,.int .i64 (wrap64 (t201)),.string (⟨#[]⟩:ByteArray)] 58 (0,0)) (by(with_reducible repeat(first|refine z07 ?_ _|refine z09 ?_|refine z06 ?_ _));refine z0l (cs:=#[.int .i64 1,.int .i64 (wrap64 (t201)),.string a0]) ?_ 2 _ rfl;(with_reducible repeat(first|refine z07 ?_ _|refine z09 ?_|refine z06 ?_ _));refine z0l (cs:=#[.int .i64 1,.int .i64 0,.string a0]) ?_ 1 _ rfl;(with_reducible repeat(first|refine z07 ?_ _|refine z09 ?_|refine z06 ?_ _));refine z0l (cs:=#[.int .i64 3,.int .i64 0,.string a0]) ?_ 0 _ rfl;(with_reducible repeat(first|refine z07 ?_ _|refine z09 ?_|refine z06 ?_ _));exact BK196.out) hb);have n2_:=z00.mk (z0g zA08 hb);clear BK195;clear BK196;clear HB;have BK195:=n0_;have BK196:=n1_;have HB:=n2_;clear n0_ n1_ n2_;(try clear hb);(try clear hb2);(try clear hk);(try clear hi);have hcz68_0:w67.cell? ⟨gb196,0,none⟩=some (.int .i64 1):=(z01 BK196.out 0).trans rfl;have hcz68_1:w67.cell? ⟨gb196,1,none⟩=some (.int .i64 (wrap64 (t201))):=(z01 BK196.out 1).trans rfl;have hcz68_2:w67.cell? ⟨gb196,2,none⟩=some (.string (⟨#[]⟩:ByteArray)):=(z01 BK196.out 2).trans rfl;have hfz68_0:=z03 BK196.out 0;have hfz68_1:=z03 BK196.out 1;have hfz68_2:=z03 BK196.out 2;have hcz69_0:w67.cell? ⟨gb195,0,none⟩=some (.int .i64 0):=(z01 BK195.out 0).trans rfl;have hcz69_1:w67.cell? ⟨gb195,1,none⟩=some (.int .i64 0):=(z01 BK195.out 1).trans rfl;have hcz69_2:w67.cell? ⟨gb195,2,none⟩=some (.string (⟨#[]⟩:ByteArray)):=(z01 BK195.out 2).trans rfl;have hfz69_0:=z03 BK195.out 0;have hfz69_1:=z03 BK195.out 1;have hfz69_2:=z03 BK195.out 2))
               refine bodyPost_ret (z1w rfl _ _ gb195 58 #[.int .i64 1,.int .i64 (wrap64 (t201)),.string (⟨#[]⟩:ByteArray)] (0,0) _ rfl (by(with_reducible repeat(first|refine z07 ?_ _|refine z09 ?_|refine z06 ?_ _));refine z0l (cs:=#[.int .i64 1,.int .i64 (wrap64 (t201)),.string (⟨#[]⟩:ByteArray)]) ?_ 2 _ rfl;(with_reducible repeat(first|refine z07 ?_ _|refine z09 ?_|refine z06 ?_ _));refine z0l (cs:=#[.int .i64 1,.int .i64 0,.string (⟨#[]⟩:ByteArray)]) ?_ 1 _ rfl;(with_reducible repeat(first|refine z07 ?_ _|refine z09 ?_|refine z06 ?_ _));refine z0l (cs:=#[.int .i64 0,.int .i64 0,.string (⟨#[]⟩:ByteArray)]) ?_ 0 _ rfl;(with_reducible repeat(first|refine z07 ?_ _|refine z09 ?_|refine z06 ?_ _));exact BK195.out) Tryz.underlying58 rfl (by kernel_rfl)) rfl ?_;exact⟨by first|rfl|(simp[z0q,z0p] <;> rfl)|(simp[*,z0q,z0p] <;> rfl),by repeat(first|(with_reducible first|exact HB.out|apply z04|apply z02|apply z05|refine z08 ?_ GE195.out|refine z08 ?_ GE196.out)|exact HB.out)⟩
             · rw[if_neg c63]at H;have c63b0:(t202.toList==a0.toList)=false:=beq_eq_false_iff_ne.mpr c63;have c63b1:(t202.toList !=a0.toList)=true:=bne_iff_ne.mpr c63;simp only[Option.some.injEq,Prod.mk.injEq]at H;obtain⟨rfl,rfl,rfl,rfl⟩:=H
               go_wp2_with (first|((with_reducible refine z0t (f:=132) rfl ?_);refine z27 (some 36) rfl rfl Tryz.func132 (by kernel_rfl) rfl #[.string a0,.int .u64 10] rfl zA02 ?_;(with_reducible refine(z0s.calls a0 10 t201 _ A61.out).mono ?_);rintro e w70 ⟨rfl,hb⟩;refine⟨_,rfl,?_⟩;have n0_:=z00.mk (z0h (g:=gb195) (o:=.cells #[.int .i64 0,.int .i64 0,.string (⟨#[]⟩:ByteArray)] 58 (0,0)) zA0b hb);have n1_:=z00.mk (z0h (g:=gb196) (o:=.cells #[.int .i64 3,.int .i64 0,.string a0] 58 (0,0)) zA0q hb);have n2_:=z00.mk (z0g zA08 hb);clear BK195;clear BK196;clear HB;have BK195:=n0_;have BK196:=n1_;have HB:=n2_;clear n0_ n1_ n2_;(try clear hb);(try clear hb2);(try clear hk);(try clear hi);have hnb71:=NB196_195.out;have hnc71:=NB195_196.out;have hcz72_0:w70.cell? ⟨gb196,0,none⟩=some (.int .i64 3):=(z01 BK196.out 0).trans rfl;have hcz72_1:w70.cell? ⟨gb196,1,none⟩=some (.int .i64 0):=(z01 BK196.out 1).trans rfl;have hcz72_2:w70.cell? ⟨gb196,2,none⟩=some (.string a0):=(z01 BK196.out 2).trans rfl;have hfz72_0:=z03 BK196.out 0;have hfz72_1:=z03 BK196.out 1;have hfz72_2:=z03 BK196.out 2)|((with_reducible refine z0t (f:=113) rfl ?_);refine z27 (some 40) rfl rfl Tryz.func113 (by kernel_rfl) rfl #[.agg #[.int .i64 1,.int .i64 (wrap64 (t201)),.string (⟨#[]⟩:ByteArray)]] rfl zA02 ?_;(with_reducible refine(z0i.calls kj51 1 (wrap64 (t201)) (⟨#[]⟩:ByteArray) t202 _ A62.out).mono ?_);rintro e w73 ⟨rfl,hb⟩;refine⟨_,rfl,?_⟩;have n0_:=z00.mk (z0h (g:=gb195) (o:=.cells #[.int .i64 0,.int .i64 0,.string (⟨#[]⟩:ByteArray)] 58 (0,0)) zA03 hb);have n1_:=z00.mk (z0h (g:=gb196) (o:=.cells #[.int .i64 1,.int .i64 (wrap64 (t201)),.string (⟨#[]⟩:ByteArray)] 58 (0,0)) (by(with_reducible repeat(first|refine z07 ?_ _|refine z09 ?_|refine z06 ?_ _));refine z0l (cs:=#[.int .i64 1,.int .i64 (wrap64 (t201)),.string a0]) ?_ 2 _ rfl;(with_reducible repeat(first|refine z07 ?_ _|refine z09 ?_|refine z06 ?_ _));refine z0l (cs:=#[.int .i64 1,.int .i64 0,.string a0]) ?_ 1 _ rfl;(with_reducible repeat(first|refine z07 ?_ _|refine z09 ?_|refine z06 ?_ _));refine z0l (cs:=#[.int .i64 3,.int .i64 0,.string a0]) ?_ 0 _ rfl;(with_reducible repeat(first|refine z07 ?_ _|refine z09 ?_|refine z06 ?_ _));exact BK196.out) hb);have n2_:=z00.mk (z0g zA08 hb);clear BK195;clear BK196;clear HB;have BK195:=n0_;have BK196:=n1_;have HB:=n2_;clear n0_ n1_ n2_;(try clear hb);(try clear hb2);(try clear hk);(try clear hi);have hcz74_0:w73.cell? ⟨gb195,0,none⟩=some (.int .i64 0):=(z01 BK195.out 0).trans rfl;have hcz74_1:w73.cell? ⟨gb195,1,none⟩=some (.int .i64 0):=(z01 BK195.out 1).trans rfl;have hcz74_2:w73.cell? ⟨gb195,2,none⟩=some (.string (⟨#[]⟩:ByteArray)):=(z01 BK195.out 2).trans rfl;have hfz74_0:=z03 BK195.out 0;have hfz74_1:=z03 BK195.out 1;have hfz74_2:=z03 BK195.out 2))
               refine bodyPost_ret (z1w rfl _ _ gb195 58 #[.int .i64 0,.int .i64 0,.string (⟨#[]⟩:ByteArray)] (0,0) _ rfl zA07 Tryz.underlying58 rfl (by kernel_rfl)) rfl ?_;exact⟨by first|rfl|(simp[z0q,z0p] <;> rfl)|(simp[*,z0q,z0p] <;> rfl),by repeat(first|(with_reducible first|exact HB.out|apply z04|apply z02|apply z05|refine z08 ?_ GE195.out|refine z08 ?_ GE196.out)|exact HB.out)⟩
           · replace c60:=Bool.eq_false_iff.mpr c60;subst c60;have H1:((z0i.f kj51 3 0 a0).bind fun t203=>(if t203.toList=a0.toList then(some (3,0,a0,0))else(some (0,0,(⟨#[]⟩:ByteArray),2))))=some (r1,r2,r3,r4):=by rw[if_neg (show ¬(false=true) by decide)]at H;exact H
             clear H;have H:=H1;clear H1;replace H:=Option.bind_eq_some_iff.mp H;obtain⟨t203,A750,H⟩:=H;replace H:(if t203.toList=a0.toList then(some (3,0,a0,0))else(some (0,0,(⟨#[]⟩:ByteArray),2)))=some (r1,r2,r3,r4):=H;have A75:=z00.mk A750;clear A750
             by_cases c76:t203.toList=a0.toList
             · rw[if_pos c76]at H;have c76b0:(t203.toList==a0.toList)=true:=beq_iff_eq.mpr c76;have c76b1:(t203.toList !=a0.toList)=false:=bne_eq_false_iff_eq.mpr c76;clear c76;simp only[Option.some.injEq,Prod.mk.injEq]at H;obtain⟨rfl,rfl,rfl,rfl⟩:=H;have hnb77:=NB196_195.out;have hnc77:=NB195_196.out;have hcz78_0:wc.cell? ⟨gb196,0,none⟩=some (.int .i64 3):=(z01 BK196.out 0).trans rfl;have hcz78_1:wc.cell? ⟨gb196,1,none⟩=some (.int .i64 0):=(z01 BK196.out 1).trans rfl;have hcz78_2:wc.cell? ⟨gb196,2,none⟩=some (.string a0):=(z01 BK196.out 2).trans rfl;have hfz78_0:=z03 BK196.out 0;have hfz78_1:=z03 BK196.out 1;have hfz78_2:=z03 BK196.out 2
               go_wp2_with (first|((with_reducible refine z0t (f:=113) rfl ?_);refine z27 (some 40) rfl rfl Tryz.func113 (by kernel_rfl) rfl #[.agg #[.int .i64 3,.int .i64 0,.string a0]] rfl zA02 ?_;(with_reducible refine(z0i.calls kj51 3 0 a0 t203 _ A75.out).mono ?_);rintro e w79 ⟨rfl,hb⟩;refine⟨_,rfl,?_⟩;have n0_:=z00.mk (z0h (g:=gb195) (o:=.cells #[.int .i64 0,.int .i64 0,.string (⟨#[]⟩:ByteArray)] 58 (0,0)) zA0b hb);have n1_:=z00.mk (z0h (g:=gb196) (o:=.cells #[.int .i64 3,.int .i64 0,.string a0] 58 (0,0)) zA0q hb);have n2_:=z00.mk (z0g zA08 hb);clear BK195;clear BK196;clear HB;have BK195:=n0_;have BK196:=n1_;have HB:=n2_;clear n0_ n1_ n2_;(try clear hb);(try clear hb2);(try clear hk);(try clear hi);have hcz80_0:w79.cell? ⟨gb196,0,none⟩=some (.int .i64 3):=(z01 BK196.out 0).trans rfl;have hcz80_1:w79.cell? ⟨gb196,1,none⟩=some (.int .i64 0):=(z01 BK196.out 1).trans rfl;have hcz80_2:w79.cell? ⟨gb196,2,none⟩=some (.string a0):=(z01 BK196.out 2).trans rfl;have hfz80_0:=z03 BK196.out 0;have hfz80_1:=z03 BK196.out 1;have hfz80_2:=z03 BK196.out 2;have hcz81_0:w79.cell? ⟨gb195,0,none⟩=some (.int .i64 0):=(z01 BK195.out 0).trans rfl;have hcz81_1:w79.cell? ⟨gb195,1,none⟩=some (.int .i64 0):=(z01 BK195.out 1).trans rfl;have hcz81_2:w79.cell? ⟨gb195,2,none⟩=some (.string (⟨#[]⟩:ByteArray)):=(z01 BK195.out 2).trans rfl;have hfz81_0:=z03 BK195.out 0;have hfz81_1:=z03 BK195.out 1;have hfz81_2:=z03 BK195.out 2))
               refine bodyPost_ret (z1w rfl _ _ gb195 58 #[.int .i64 3,.int .i64 0,.string a0] (0,0) _ rfl (by(with_reducible repeat(first|refine z07 ?_ _|refine z09 ?_|refine z06 ?_ _));refine z0l (cs:=#[.int .i64 3,.int .i64 0,.string (⟨#[]⟩:ByteArray)]) ?_ 2 _ rfl;(with_reducible repeat(first|refine z07 ?_ _|refine z09 ?_|refine z06 ?_ _));refine z0l (cs:=#[.int .i64 3,.int .i64 0,.string (⟨#[]⟩:ByteArray)]) ?_ 1 _ rfl;(with_reducible repeat(first|refine z07 ?_ _|refine z09 ?_|refine z06 ?_ _));refine z0l (cs:=#[.int .i64 0,.int .i64 0,.string (⟨#[]⟩:ByteArray)]) ?_ 0 _ rfl;(with_reducible repeat(first|refine z07 ?_ _|refine z09 ?_|refine z06 ?_ _));exact BK195.out) Tryz.underlying58 rfl (by kernel_rfl)) rfl ?_;exact⟨by first|rfl|(simp[z0q,z0p] <;> rfl)|(simp[*,z0q,z0p] <;> rfl),by repeat(first|(with_reducible first|exact HB.out|apply z04|apply z02|apply z05|refine z08 ?_ GE195.out|refine z08 ?_ GE196.out)|exact HB.out)⟩
             · rw[if_neg c76]at H;have c76b0:(t203.toList==a0.toList)=false:=beq_eq_false_iff_ne.mpr c76;have c76b1:(t203.toList !=a0.toList)=true:=bne_iff_ne.mpr c76;simp only[Option.some.injEq,Prod.mk.injEq]at H;obtain⟨rfl,rfl,rfl,rfl⟩:=H;have hnb82:=NB196_195.out;have hnc82:=NB195_196.out;have hcz83_0:wc.cell? ⟨gb196,0,none⟩=some (.int .i64 3):=(z01 BK196.out 0).trans rfl;have hcz83_1:wc.cell? ⟨gb196,1,none⟩=some (.int .i64 0):=(z01 BK196.out 1).trans rfl;have hcz83_2:wc.cell? ⟨gb196,2,none⟩=some (.string a0):=(z01 BK196.out 2).trans rfl;have hfz83_0:=z03 BK196.out 0;have hfz83_1:=z03 BK196.out 1;have hfz83_2:=z03 BK196.out 2
               go_wp2_with (first|((with_reducible refine z0t (f:=113) rfl ?_);refine z27 (some 40) rfl rfl Tryz.func113 (by kernel_rfl) rfl #[.agg #[.int .i64 3,.int .i64 0,.string a0]] rfl zA02 ?_;(with_reducible refine(z0i.calls kj51 3 0 a0 t203 _ A75.out).mono ?_);rintro e w84 ⟨rfl,hb⟩;refine⟨_,rfl,?_⟩;have n0_:=z00.mk (z0h (g:=gb195) (o:=.cells #[.int .i64 0,.int .i64 0,.string (⟨#[]⟩:ByteArray)] 58 (0,0)) zA0b hb);have n1_:=z00.mk (z0h (g:=gb196) (o:=.cells #[.int .i64 3,.int .i64 0,.string a0] 58 (0,0)) zA0q hb);have n2_:=z00.mk (z0g zA08 hb);clear BK195;clear BK196;clear HB;have BK195:=n0_;have BK196:=n1_;have HB:=n2_;clear n0_ n1_ n2_;(try clear hb);(try clear hb2);(try clear hk);(try clear hi);have hcz85_0:w84.cell? ⟨gb195,0,none⟩=some (.int .i64 0):=(z01 BK195.out 0).trans rfl;have hcz85_1:w84.cell? ⟨gb195,1,none⟩=some (.int .i64 0):=(z01 BK195.out 1).trans rfl;have hcz85_2:w84.cell? ⟨gb195,2,none⟩=some (.string (⟨#[]⟩:ByteArray)):=(z01 BK195.out 2).trans rfl;have hfz85_0:=z03 BK195.out 0;have hfz85_1:=z03 BK195.out 1;have hfz85_2:=z03 BK195.out 2))
               refine bodyPost_ret (z1w rfl _ _ gb195 58 #[.int .i64 0,.int .i64 0,.string (⟨#[]⟩:ByteArray)] (0,0) _ rfl zA07 Tryz.underlying58 rfl (by kernel_rfl)) rfl ?_;exact⟨by first|rfl|(simp[z0q,z0p] <;> rfl)|(simp[*,z0q,z0p] <;> rfl),by repeat(first|(with_reducible first|exact HB.out|apply z04|apply z02|apply z05|refine z08 ?_ GE195.out|refine z08 ?_ GE196.out)|exact HB.out)⟩
   · rw[if_neg c5]at H;exact absurd H (by simp)
end Go.Proofs.YthebhbomlllpeaaGreatDoor.X
namespace Go.Proofs.YthebhbomlllpeaaGreatDoor.X
open Go.RowKit Go.Proofs.YthebhbomlllpeaaGreatDoorW.PrintWords Go.Proofs.YthebhbomlllpeaaGreatDoorW.PrintLast Go.Proofs.YthebhbomlllpeaaGreatDoorW.PrintMore
theorem zap (s:ByteArray) (b:Int) (hA:∀c ∈ s.data.toList,c.toNat<128):∀(d pos:Nat) (n:Int),s.size - pos≤d →
 z4u s b d pos n=(s.data.toList.drop pos).foldl (fun n (c:UInt8)=>z4o b n (c.toNat:Int)) n:=by
 have hlen:s.data.toList.length=s.size:=rfl;intro d
 induction d with
 |zero =>
  intro pos n h;rw[List.drop_eq_nil_of_le (by omega)];rfl
 |succ d ih =>
  intro pos n h;simp only[z4u]
  by_cases hp:pos<s.size
  · have hc:(s[pos]'hp).toNat<128:=hA _ (Array.mem_toList_iff.2 (Array.getElem_mem hp));rw[if_pos hp,decode_ascii s pos hp hc,ih _ _ (by omega),List.drop_eq_getElem_cons (by omega:pos<s.data.toList.length),List.foldl_cons,z5g s pos hp];rfl
  · rw[if_neg hp,List.drop_eq_nil_of_le (by omega)];rfl
theorem z7s (l:List UInt8) (b:Int) (hA:∀c ∈ l,c.toNat<128):z0s.f ⟨l.toArray⟩ b=some (l.foldl (fun n (c:UInt8)=>z4o b n (c.toNat:Int)) 0):=by
 unfold z0s.f;rw[zap ⟨l.toArray⟩ b (by simpa using hA) _ _ _ (by omega)];rfl
theorem z8z (d:Nat) (h:d<16):z91 ((hexc d).toNat:Int)=(d:Int):=by
 have h1:=z9v d h;unfold z91
 split at h1
 · rw[if_neg (by omega),h1];omega
 · rw[if_pos (by omega),h1];omega
theorem zgi (d:Nat) (h:d<16):(hexc d).toNat<128:=by
 have h1:=z9v d h
 split at h1 <;> omega
theorem z8r {b:Nat} {l:Nat→List UInt8} (hT:z5j b l) (u:Nat):∀c ∈ l u,c.toNat<128:=by
 have hb:=hT.two;have hb2:=hT.most
 induction u using Nat.strongRecOn with
 |_ u ih =>
  intro c hc
  by_cases h:u<b
  · rw[hT.one u h,List.mem_singleton]at hc;subst hc;exact zgi u (by omega)
  · rw[hT.more u (by omega)]at hc;have hm:u % b<b:=Nat.mod_lt _ (by omega);rcases List.mem_append.1 hc with hc|hc
    · exact ih (u / b) (Nat.div_lt_self (by omega) (by omega)) c hc
    · rw[List.mem_singleton]at hc;subst hc;exact zgi _ (by omega)
theorem z9s {b:Nat} {l:Nat→List UInt8} (hT:z5j b l) (u:Nat) (hu:u<18446744073709551616) :
 (l u).foldl (fun n (c:UInt8)=>z4o (b:Int) n (c.toNat:Int)) 0=(u:Int):=by
 have hb:=hT.two;have hb2:=hT.most
 induction u using Nat.strongRecOn with
 |_ u ih =>
  by_cases h:u<b
  · rw[hT.one u h];simp only[List.foldl_cons,List.foldl_nil,z4o,Int.zero_mul,IntKind.wrap_u64];rw[z8z u (by omega)];omega
  · have hm:u % b<b:=Nat.mod_lt _ (by omega);have hd:=Nat.div_add_mod u b;have hle:u / b≤u:=Nat.div_le_self _ _;rw[hT.more u (by omega),List.foldl_append,ih (u / b) (Nat.div_lt_self (by omega) (by omega)) (by omega)];simp only[List.foldl_cons,List.foldl_nil,z4o,IntKind.wrap_u64];rw[z8z _ (by omega)];have e:((u / b:Nat):Int) * (b:Int)=((b * (u / b):Nat):Int):=by rw[Nat.mul_comm];rfl
    rw[e]
    generalize b * (u / b)=q at hd
    generalize u % b=r at hd hm
    omega
theorem z9p:∀(n:Nat) (l:List UInt8),(List.replicate n 48++l).foldl (fun n (c:UInt8)=>z4o 16 n (c.toNat:Int)) 0=l.foldl (fun n (c:UInt8)=>z4o 16 n (c.toNat:Int)) 0
 |0,l=>rfl
 |n+1,l=>by
  rw[List.replicate_succ,List.cons_append,List.foldl_cons];have e:z4o 16 0 ((48:UInt8).toNat:Int)=0:=by decide +kernel
  rw[e];exact z9p n l
theorem zf4 (u:Nat) (hu:u<18446744073709551616):z0s.f ⟨(Lib.decDigits u).toArray⟩ 10=some (u:Int):=by
 rw[z7s _ _ (z8r zdd u)];have:=z9s zdd u hu;rw[show((10:Nat):Int)=10 from rfl]at this;rw[this]
theorem zci (u:Nat) (hu:u<18446744073709551616):z0s.f ⟨(hex16 u).toArray⟩ 16=some (u:Int):=by
 unfold hex16;rw [z7s _ _ (fun c hc=>by
  rcases List.mem_append.1 hc with hc|hc
  · rw[(List.mem_replicate.1 hc).2];decide
  · exact z8r zd3 u c hc),z9p]
 have:=z9s zd3 u hu;rw[show((16:Nat):Int)=16 from rfl]at this;rw[this]
def numOf (s:ByteArray) (b:Int):Int:=z4u s b s.size 0 0
def z2o (t:ByteArray):Int × Int × ByteArray :=
 if bt t 0=35 then(2,wrap64 (numOf (t.extract 1 t.size) 16),⟨#[]⟩)
 else if bt t 0=45 then(1,wrap64 (IntKind.u64.wrap (-numOf (t.extract 1 t.size) 10)),⟨#[]⟩)
 else if 48≤bt t 0∧bt t 0≤57 then(1,wrap64 (numOf t 10),⟨#[]⟩)
 else(3,0,t)
def refR (t:ByteArray):Int × Int × ByteArray × Int :=
 if t.size=0∨textL (z2o t).1 (z2o t).2.1 (z2o t).2.2≠t.data.toList then(0,0,⟨#[]⟩,2)else((z2o t).1,(z2o t).2.1,(z2o t).2.2,0)
theorem z6p (s:ByteArray) (b:Int):z0s.f s b=some (numOf s b):=rfl
theorem zae (t:ByteArray) (h0:t.size≠0) (a b:Int) (s:ByteArray) (hc:z2o t=(a,b,s)) :
 (if(⟨(textL a b s).toArray⟩:ByteArray).toList=t.toList then some (a,b,s,(0:Int))else some (0,0,(⟨#[]⟩:ByteArray),2))=some (refR t):=by
 unfold refR;rw[hc,z2d,z2d]
 by_cases h:textL a b s=t.data.toList
 · rw[if_pos h,if_neg (by rintro(h1|h1);exact h0 h1;exact h1 h)]
 · rw[if_neg h,if_pos (Or.inr h)]
theorem zb3 (t:ByteArray) (k:Nat) (hk:60≤k):z0u.f k t=some (refR t):=by
 obtain⟨k,rfl⟩:∃j,k=j+1:=⟨k - 1,by omega⟩
 unfold z0u.f
 by_cases h0:t.size=0
 · rw[if_pos ((z2s t).2 h0)];unfold refR;rw[if_pos (Or.inl h0)]
 · rw[if_neg (fun h=>h0 ((z2s t).1 h)),if_pos (by omega)]
   by_cases h1:bt t 0=35
   · have hc:z2o t=(2,wrap64 (numOf (t.extract 1 t.size) 16),⟨#[]⟩):=by unfold z2o;rw[if_pos h1]
     rw[if_pos h1,if_pos (by omega),z6p];simp only[Option.bind_some];rw[z4r _ _ _ (k+1) (by omega) (z4i _)];exact zae t h0 _ _ _ hc
   · rw[if_neg h1]
     by_cases h2:bt t 0=45
     · have hc:z2o t=(1,wrap64 (IntKind.u64.wrap (-numOf (t.extract 1 t.size) 10)),⟨#[]⟩):=by unfold z2o;rw[if_neg h1,if_pos h2]
       rw[if_pos h2,if_pos (by omega),z6p];simp only[Option.bind_some];rw[z4r _ _ _ (k+1) (by omega) (z4i _)];exact zae t h0 _ _ _ hc
     · rw[if_neg h2];have hsym:¬(48≤bt t 0∧bt t 0≤57)→z0u.j0 (k+1) t false 3 0 t=some (refR t):=fun h3=>by
        have hc:z2o t=(3,0,t):=by unfold z2o;rw[if_neg h1,if_neg h2,if_neg h3]
        simp only[z0u.j0,Bool.false_eq_true,if_false];rw[z4r _ _ _ k (by omega) (by omega)];exact zae t h0 _ _ _ hc
       by_cases h3:bt t 0≥48
       · rw[if_pos h3]
         by_cases h4:bt t 0≤57
         · have hc:z2o t=(1,wrap64 (numOf t 10),⟨#[]⟩):=by unfold z2o;rw[if_neg h1,if_neg h2,if_pos ⟨h3,h4⟩]
           rw[decide_eq_true h4];simp only[z0u.j0,if_true];rw[z6p];simp only[Option.bind_some];rw[z4r _ _ _ k (by omega) (z4i _)];exact zae t h0 _ _ _ hc
         · rw[decide_eq_false h4];exact hsym (by omega)
       · rw[if_neg h3];exact hsym (by omega)
theorem zb9 (u:Nat) (hu:u<18446744073709551616):numOf ⟨(Lib.decDigits u).toArray⟩ 10=(u:Int):=Option.some.inj (zf4 u hu)
theorem zcr (u:Nat) (hu:u<18446744073709551616):numOf ⟨(hex16 u).toArray⟩ 16=(u:Int):=Option.some.inj (zci u hu)
theorem cand_ref (k n:Int) (s:ByteArray) (hr:z57 k n s=true) (hn:-9223372036854775808≤n∧n≤9223372036854775807) :
 z2o (txt k n s)=(k,n,s):=by
 have ht:textL k n s=if k=1 then Lib.itoa n else if k=2 then 35::hex16 (IntKind.u64.wrap n).toNat else s.data.toList:=by unfold textL;rw[if_pos hr]
 unfold txt;rcases z8m hr with ⟨rfl,rfl⟩|⟨rfl,rfl,hf⟩|⟨rfl,rfl,hN⟩
 · rw[if_pos rfl]at ht;rw[ht];obtain⟨c,l,he,hc⟩:=zbd n;have hp:=z71 n hn;rw[he]at hp ⊢;unfold z2o;rw[za8];rcases hc with ⟨h1,h2,h3⟩|⟨h1,h2,h3,h4⟩
   · rw[if_neg (by omega),if_pos (by omega),z7o,h3,zb9 _ (by omega)];have e:(-((n.natAbs:Nat):Int))=n:=by omega
     rw[e,z94 n hn]
   · rw[if_neg (by omega),if_neg (by omega),if_pos (by omega),h4,zb9 _ (by omega)];have e:((n.toNat:Nat):Int)=n:=by omega
     rw[e];have:wrap64 n=n:=by unfold wrap64;omega
     rw[this]
 · rw[if_neg (by omega),if_pos rfl]at ht;rw[ht];have hw:=wrap_u64 n;obtain⟨u,hu⟩:∃u:Nat,IntKind.u64.wrap n=(u:Int):=⟨_,(Int.toNat_of_nonneg hw.1).symm⟩
   rw[hu,Int.toNat_natCast];have hu2:u<18446744073709551616:=by omega
   have hb:=z94 n hn;rw[hu]at hb;unfold z2o;rw[za8,if_pos (by rfl),z7o,zcr u hu2,hb]
 · rw[if_neg (by omega),if_neg (by omega)]at ht;obtain⟨c,l,he,h1,h2⟩:=zcc hN;rw[ht,z77];have hs:s=⟨(c::l).toArray⟩:=by rw[←he,z77]
   unfold z2o;have hb:bt s 0=(c.toNat:Int):=by rw[hs,za8]
   rw[hb,if_neg (by omega),if_neg (by omega),if_neg (by omega)]
theorem zco (t:ByteArray):-9223372036854775808≤(z2o t).2.1∧(z2o t).2.1≤9223372036854775807:=by
 unfold z2o
 split
 · exact z4i _
 · split
   · exact z4i _
   · split
     · exact z4i _
     · show -9223372036854775808≤(0:Int)∧(0:Int)≤9223372036854775807;omega
theorem refR_eq (t:ByteArray):refR t=readR t:=by
 unfold refR readR
 by_cases h0:t.size=0
 · rw[if_pos (Or.inl h0),if_pos (Or.inl h0)]
 · have hd:=data_ne h0;have key:∀k n s,textL k n s=t.data.toList→-9223372036854775808≤n∧n≤9223372036854775807→candR t=(k,n,s)∧z2o t=(k,n,s):=fun k n s h hr=>by
    have h1:=(zg3 k n s (z9q (by rw[h];exact hd)) hr).1;have h2:=cand_ref k n s (z9q (by rw[h];exact hd)) hr;unfold txt at h1 h2;rw[h,z77]at h1 h2;exact⟨h1,h2⟩
   by_cases h1:textL (candR t).1 (candR t).2.1 (candR t).2.2=t.data.toList
   · obtain⟨e1,e2⟩:=key _ _ _ h1 (zg1 t);rw[e2,if_neg (by rintro(h|h);exact h0 h;exact h h1)]
   · by_cases h2:textL (z2o t).1 (z2o t).2.1 (z2o t).2.2=t.data.toList
     · obtain⟨e1,e2⟩:=key _ _ _ h2 (zco t);rw[e1]at h1;exact absurd h2 h1
     · rw[if_pos (Or.inr h2),if_pos (Or.inr h1)]
end Go.Proofs.YthebhbomlllpeaaGreatDoor.X
namespace Go.Proofs.YthebhbomlllpeaaGreatDoor.X
open Go.RowKit Go.Proofs.YthebhbomlllpeaaGreatDoorW.PrintWords Go.Proofs.YthebhbomlllpeaaGreatDoorW.PrintLast Go.Proofs.YthebhbomlllpeaaGreatDoorW.PrintMore
attribute [local go_sem] z4g z4f z50 z4w z3s z3p z48 z4c
mutual
def z0a.j0:Nat→ByteArray→Int→Int→Bool→Option (Int × ByteArray × Int × Bool)
 |0,_,_,_,_=>none
 |k+1,x0,x1,x6,x21=>if x21=true then((z0k.f k x0 x1 true).bind fun t205=>(if 0≤x1 then(if x1≤(wrap64 (x1+t205))then(if(wrap64 (x1+t205))≤(x0.size:Int)then((z1g.f (x0.extract (x1:Int).toNat ((wrap64 (x1+t205)):Int).toNat)).bind fun t206=>(some (1,x0.extract (x1:Int).toNat ((wrap64 (x1+t205)):Int).toNat,x1,t206)))else(none))else(none))else(none)))else(if x6≥65 then(z0a.j1 k x0 x1 x6 (decide (x6≤90)))else(z0a.j1 k x0 x1 x6 false))
def z0a.j1:Nat→ByteArray→Int→Int→Bool→Option (Int × ByteArray × Int × Bool)
 |0,_,_,_,_=>none
 |k+1,x0,x1,x6,x40=>if x40=true then((z0k.f k x0 x1 false).bind fun t207=>(if 0≤x1 then(if x1≤(wrap64 (x1+t207))then(if(wrap64 (x1+t207))≤(x0.size:Int)then((z0c.f k (x0.extract (x1:Int).toNat ((wrap64 (x1+t207)):Int).toNat)).bind fun t208=>(some (2,x0.extract (x1:Int).toNat ((wrap64 (x1+t207)):Int).toNat,x1,t208)))else(none))else(none))else(none)))else(if x6=35 then(z0a.j2 k x0 x1 true)else(if x6≥48 then(if x6≤57 then(z0a.j2 k x0 x1 true)else(if x6=45 then(if(wrap64 (x1+1))<(x0.size:Int)then(if 0≤(wrap64 (x1+1))then(if(bt x0 (wrap64 (x1+1)))≥48 then(z0a.j2 k x0 x1 (decide ((bt x0 (wrap64 (x1+1)))≤57)))else(z0a.j2 k x0 x1 false))else(none))else(z0a.j2 k x0 x1 false))else(z0a.j2 k x0 x1 false)))else(if x6=45 then(if(wrap64 (x1+1))<(x0.size:Int)then(if 0≤(wrap64 (x1+1))then(if(bt x0 (wrap64 (x1+1)))≥48 then(z0a.j2 k x0 x1 (decide ((bt x0 (wrap64 (x1+1)))≤57)))else(z0a.j2 k x0 x1 false))else(none))else(z0a.j2 k x0 x1 false))else(z0a.j2 k x0 x1 false))))
def z0a.j2:Nat→ByteArray→Int→Bool→Option (Int × ByteArray × Int × Bool)
 |0,_,_,_=>none
 |k+1,x0,x1,x88=>if x88=true then((z0k.f k x0 (wrap64 (x1+1)) false).bind fun t209=>(if 0≤x1 then(if x1≤(wrap64 ((wrap64 (x1+1))+t209))then(if(wrap64 ((wrap64 (x1+1))+t209))≤(x0.size:Int)then((z0u.f k (x0.extract (x1:Int).toNat ((wrap64 ((wrap64 (x1+1))+t209)):Int).toNat)).bind fun bt210=>(some (3,x0.extract (x1:Int).toNat ((wrap64 ((wrap64 (x1+1))+t209)):Int).toNat,x1,(bt210.2.2.2==0))))else(none))else(none))else(none)))else((z0m.f k x0 x1).bind fun t215=>(if 0≤x1 then(if x1≤(wrap64 (x1+t215))then(if(wrap64 (x1+t215))≤(x0.size:Int)then(some (4,x0.extract (x1:Int).toNat ((wrap64 (x1+t215)):Int).toNat,x1,decide (t215>0)))else(none))else(none))else(none)))
end
def z0a.f (k:Nat) (a0:ByteArray) (a1:Int):Option (Int × ByteArray × Int × Bool):=if 0≤a1 then(if a1<(a0.size:Int)then(if(bt a0 a1)≥97 then(z0a.j0 k a0 a1 (bt a0 a1) (decide ((bt a0 a1)≤122)))else(z0a.j0 k a0 a1 (bt a0 a1) false))else(none))else(none)
set_option maxHeartbeats 8000000 in
set_option maxRecDepth 100000 in
theorem z0a.calls (k:Nat) (a0:ByteArray) (a1:Int) (r1:Int) (r2:ByteArray) (r3:Int) (r4:Bool) (w:World) (h:z0a.f k a0 a1=some (r1,r2,r3,r4)) :
 Calls Tryz.prog 64 #[.string a0,.int .i64 a1] w fun e w'=>e=.returned (.tuple #[.agg #[.int .i64 r1,.string r2,.int .i64 r3],.bool r4])∧Below w.heap.size w w':=by
 have hu53:=Tryz.underlying53;have hu58:=Tryz.underlying58;have HB:=z00.mk (Below.refl w.heap.size w);have H:(if 0≤a1 then(if a1<(a0.size:Int)then(if(bt a0 a1)≥97 then(z0a.j0 k a0 a1 (bt a0 a1) (decide ((bt a0 a1)≤122)))else(z0a.j0 k a0 a1 (bt a0 a1) false))else(none))else(none))=some (r1,r2,r3,r4):=h;clear h
 by_cases c3:0≤a1
 · rw[if_pos c3]at H;have c3b0:decide (0≤a1)=true:=decide_eq_true c3;clear c3
   by_cases c4:a1<(a0.size:Int)
   · rw[if_pos c4]at H;have c4b0:decide (a1<(a0.size:Int))=true:=decide_eq_true c4;clear c4;have HC6:=z00.mk H;clear H;go_enter Tryz.func64,Tryz.ntmps64
     go_upto_region 2 with (first|((with_reducible refine z19 (N:=4) rfl ?_);(try(refine z45 (by rfl) ?_;dsimp only));refine z17 ?hg (N:=4) ?hd (cs:=#[.int .i64 0,.string (⟨#[]⟩:ByteArray),.int .i64 0]) (t:=53) ?hr ?_;(case hd=>rfl);(case hg=>rfl);(case hr=>first|(go_simp;done)|(go_simp;rfl));intro gb204 hg w7 hbox hb;have n0_:=z00.mk (z0g zA00 hb);have n1_:=z00.mk (hbox);have n2_:=z00.mk ((by rw[hg];exact(z0j zA00):w.heap.size≤gb204));have n3_:=z00.mk ((by rw[hg];exact(z0j zA00):w.heap.size≤gb204));clear HB;have HB:=n0_;have BK204:=n1_;have GW204:=n2_;have GE204:=n3_;clear n0_ n1_ n2_ n3_;clear hb hbox hg;have p5:0≤(a1:Int):=of_decide_eq_true zA01;have q5:a1<(a0.size:Int):=of_decide_eq_true zA01;have hx5:=bt_at a0 a1;replace p5:=eq_true p5;replace q5:=eq_true q5))
     (try simp only[Act.put,List.setIfInBounds_toArray,List.set_cons_zero,List.set_cons_succ])
     go_cut [21] (fun v21 wc=>∃(kq:Nat) (x21_5:Bool),v21=.bool x21_5∧z00 (z0a.j0 kq a0 a1 (bt a0 a1) x21_5=some (r1,r2,r3,r4))∧z00 (kq≤k)∧z00 (wc.heap[gb204]?=some (.cells #[.int .i64 0,.string (⟨#[]⟩:ByteArray),.int .i64 0] 53 (0,0)))∧z00 (Below w.heap.size w wc))
     case first =>
      have H:=HC6.out;clear HC6
      by_cases c8:(bt a0 a1)≥97
      · rw[if_pos c8]at H;have c8b0:decide (97≤(bt a0 a1))=true:=decide_eq_true c8;clear c8
        (first|rw[c8b0]|(simp only[i64_w,i32_w];rw[c8b0])|skip)
        have H':=z00.mk H;clear H;go_wp2;go_meet
        case rel=>exact⟨_,(decide ((bt a0 a1)≤122)),zA06,H',⟨zA0m⟩,⟨zA09⟩,⟨zA05⟩⟩
      · rw[if_neg c8]at H;have c8b0:decide (97≤(bt a0 a1))=false:=decide_eq_false c8;clear c8
        (first|rw[c8b0]|(simp only[i64_w,i32_w];rw[c8b0])|skip)
        have H':=z00.mk H;clear H;go_wp2;go_meet
        case rel=>exact⟨_,(false),zA06,H',⟨zA0m⟩,⟨zA09⟩,⟨zA05⟩⟩
     case rest =>
      clear HC6;(try clear p2);(try clear c3);(try clear c3b0);(try clear c4);(try clear c4b0);(try clear p5);(try clear q5);(try clear hx5);(try clear c6);(try clear c8);(try clear c8b0);(try clear p5);(try clear q5);obtain⟨kq,x21_5,rfl,HA,HJ5,BK204,HB⟩:=hcut
      cases kq with
      |zero=>exact absurd HA.out (by simp[z0a.j0])
      |succ kj5 =>
       have H:=HA.out;clear HA;simp only[z0a.j0]at H
       by_cases c9:x21_5=true
       · subst c9;have H1:((z0k.f kj5 a0 a1 true).bind fun t205=>(if 0≤a1 then(if a1≤(wrap64 (a1+t205))then(if(wrap64 (a1+t205))≤(a0.size:Int)then((z1g.f (a0.extract (a1:Int).toNat ((wrap64 (a1+t205)):Int).toNat)).bind fun t206=>(some (1,a0.extract (a1:Int).toNat ((wrap64 (a1+t205)):Int).toNat,a1,t206)))else(none))else(none))else(none)))=some (r1,r2,r3,r4):=by rw[if_pos rfl]at H;exact H
         clear H;have H:=H1;clear H1;replace H:=Option.bind_eq_some_iff.mp H;obtain⟨t205,A100,H⟩:=H;replace H:(if 0≤a1 then(if a1≤(wrap64 (a1+t205))then(if(wrap64 (a1+t205))≤(a0.size:Int)then((z1g.f (a0.extract (a1:Int).toNat ((wrap64 (a1+t205)):Int).toNat)).bind fun t206=>(some (1,a0.extract (a1:Int).toNat ((wrap64 (a1+t205)):Int).toNat,a1,t206)))else(none))else(none))else(none))=some (r1,r2,r3,r4):=H;have A10:=z00.mk A100;clear A100
         by_cases c11:0≤a1
         · rw[if_pos c11]at H;have c11b0:=eq_true c11;have c11b1:decide (0≤a1)=true:=decide_eq_true c11;clear c11
           by_cases c12:a1≤(wrap64 (a1+t205))
           · rw[if_pos c12]at H;have c12b0:=eq_true c12;have c12b1:decide (a1≤(wrap64 (a1+t205)))=true:=decide_eq_true c12
             by_cases c13:(wrap64 (a1+t205))≤(a0.size:Int)
             · rw[if_pos c13]at H;have c13b0:=eq_true c13;have c13b1:decide ((wrap64 (a1+t205))≤(a0.size:Int))=true:=decide_eq_true c13;replace H:=Option.bind_eq_some_iff.mp H;obtain⟨t206,A140,H⟩:=H;replace H:(some (1,a0.extract (a1:Int).toNat ((wrap64 (a1+t205)):Int).toNat,a1,t206))=some (r1,r2,r3,r4):=H;have A14:=z00.mk A140;clear A140;simp only[Option.some.injEq,Prod.mk.injEq]at H;obtain⟨rfl,rfl,rfl,rfl⟩:=H
               go_wp2_with (first|((with_reducible refine z0t (f:=98) rfl ?_);refine z27 (some 27) rfl rfl Tryz.func98 (by kernel_rfl) rfl #[.string a0,.int .i64 a1,.bool true] rfl zA02 ?_;(with_reducible refine(z0k.calls kj5 a0 a1 true t205 _ A10.out).mono ?_);rintro e w' ⟨rfl,⟨nd,rfl⟩⟩;refine⟨_,rfl,?_⟩;(try(rw[z5p wc];generalize hq_:World.drewN wc _=wc;have n0_:z00 (wc.heap[gb204]?=some (.cells #[.int .i64 0,.string (⟨#[]⟩:ByteArray),.int .i64 0] 53 (0,0))):=⟨by rw[←hq_];exact zA09⟩;have n1_:z00 (Below w.heap.size w wc):=⟨by rw[←hq_];exact zA05⟩;clear BK204 HB hq_;have BK204:=n0_;have HB:=n1_;clear n0_ n1_)))|((with_reducible refine z0t (f:=99) rfl ?_);refine z27 (some 34) rfl rfl Tryz.func99 (by kernel_rfl) rfl #[.string (a0.extract (a1:Int).toNat ((wrap64 (a1+t205)):Int).toNat)] rfl zA02 ?_;(with_reducible refine(z1g.calls (a0.extract (a1:Int).toNat ((wrap64 (a1+t205)):Int).toNat) t206 _ A14.out).mono ?_);rintro e w15 ⟨rfl,hb⟩;refine⟨_,rfl,?_⟩;have n0_:=z00.mk (z0h (g:=gb204) (o:=.cells #[.int .i64 0,.string (⟨#[]⟩:ByteArray),.int .i64 0] 53 (0,0)) zA09 hb);have n1_:=z00.mk (z0g zA05 hb);clear BK204;clear HB;have BK204:=n0_;have HB:=n1_;clear n0_ n1_;(try clear hb);(try clear hb2);(try clear hk);(try clear hi);have hcz16_0:w15.cell? ⟨gb204,0,none⟩=some (.int .i64 0):=(z01 BK204.out 0).trans rfl;have hcz16_1:w15.cell? ⟨gb204,1,none⟩=some (.string (⟨#[]⟩:ByteArray)):=(z01 BK204.out 1).trans rfl;have hcz16_2:w15.cell? ⟨gb204,2,none⟩=some (.int .i64 0):=(z01 BK204.out 2).trans rfl;have hfz16_0:=z03 BK204.out 0;have hfz16_1:=z03 BK204.out 1;have hfz16_2:=z03 BK204.out 2))
               refine bodyPost_ret (z1w rfl _ _ gb204 53 #[.int .i64 1,.string (a0.extract (a1:Int).toNat ((wrap64 (a1+t205)):Int).toNat),.int .i64 a1] (0,0) _ rfl (by(with_reducible repeat(first|refine z07 ?_ _|refine z09 ?_|refine z06 ?_ _));refine z0l (cs:=#[.int .i64 1,.string (a0.extract (a1:Int).toNat ((wrap64 (a1+t205)):Int).toNat),.int .i64 0]) ?_ 2 _ rfl;(with_reducible repeat(first|refine z07 ?_ _|refine z09 ?_|refine z06 ?_ _));refine z0l (cs:=#[.int .i64 1,.string (⟨#[]⟩:ByteArray),.int .i64 0]) ?_ 1 _ rfl;(with_reducible repeat(first|refine z07 ?_ _|refine z09 ?_|refine z06 ?_ _));refine z0l (cs:=#[.int .i64 0,.string (⟨#[]⟩:ByteArray),.int .i64 0]) ?_ 0 _ rfl;(with_reducible repeat(first|refine z07 ?_ _|refine z09 ?_|refine z06 ?_ _));exact BK204.out) Tryz.underlying53 rfl (by kernel_rfl)) rfl ?_;exact⟨by first|rfl|(simp[z0q,z0p] <;> rfl)|(simp[*,z0q,z0p] <;> rfl),by repeat(first|(with_reducible first|exact HB.out|apply z04|apply z02|apply z05|refine z08 ?_ GE204.out)|exact HB.out)⟩
             · rw[if_neg c13]at H;exact absurd H (by simp)
           · rw[if_neg c12]at H;exact absurd H (by simp)
         · rw[if_neg c11]at H;exact absurd H (by simp)
       · replace c9:=Bool.eq_false_iff.mpr c9;subst c9;have H1:(if(bt a0 a1)≥65 then(z0a.j1 kj5 a0 a1 (bt a0 a1) (decide ((bt a0 a1)≤90)))else(z0a.j1 kj5 a0 a1 (bt a0 a1) false))=some (r1,r2,r3,r4):=by rw[if_neg (show ¬(false=true) by decide)]at H;exact H
         clear H;have H:=H1;clear H1;have HC17:=z00.mk H;clear H
         go_upto_region 5 with (fail)
         go_cut [40] (fun v40 wc=>∃(kq:Nat) (x40_16:Bool),v40=.bool x40_16∧z00 (z0a.j1 kq a0 a1 (bt a0 a1) x40_16=some (r1,r2,r3,r4))∧z00 (kq≤kj5)∧z00 (wc.heap[gb204]?=some (.cells #[.int .i64 0,.string (⟨#[]⟩:ByteArray),.int .i64 0] 53 (0,0)))∧z00 (Below w.heap.size w wc))
         case first =>
          have H:=HC17.out;clear HC17
          by_cases c18:(bt a0 a1)≥65
          · rw[if_pos c18]at H;have c18b0:decide (65≤(bt a0 a1))=true:=decide_eq_true c18;clear c18
            (first|rw[c18b0]|(simp only[i64_w,i32_w];rw[c18b0])|skip)
            have H':=z00.mk H;clear H;go_wp2;go_meet
            case rel=>exact⟨_,(decide ((bt a0 a1)≤90)),zA06,H',⟨by have:=HJ5.out;first|omega|exact Nat.le_refl _⟩,⟨zA09⟩,⟨zA05⟩⟩
          · rw[if_neg c18]at H;have c18b0:decide (65≤(bt a0 a1))=false:=decide_eq_false c18;clear c18
            (first|rw[c18b0]|(simp only[i64_w,i32_w];rw[c18b0])|skip)
            have H':=z00.mk H;clear H;go_wp2;go_meet
            case rel=>exact⟨_,(false),zA06,H',⟨by have:=HJ5.out;first|omega|exact Nat.le_refl _⟩,⟨zA09⟩,⟨zA05⟩⟩
         case rest =>
          clear HC17;(try clear c1);(try clear p2);(try clear c3);(try clear c3b0);(try clear c4);(try clear c4b0);(try clear p5);(try clear q5);(try clear hx5);(try clear c6);(try clear p6);(try clear c8);(try clear c8b0);(try clear c9);(try clear c11);(try clear c11b0);(try clear c11b1);(try clear c12);(try clear c12b0);(try clear c12b1);(try clear c13);(try clear c13b0);(try clear c13b1);(try clear c18);(try clear c18b0);(try clear hcz16_0);(try clear hcz16_1);(try clear hcz16_2);(try clear hfz16_0);(try clear hfz16_1);(try clear hfz16_2);(try clear p2);(try clear p5);(try clear q5);obtain⟨kq,x40_16,rfl,HA,HJ16,BK204,HB⟩:=hcut
          cases kq with
          |zero=>exact absurd HA.out (by simp[z0a.j1])
          |succ kj16 =>
           have H:=HA.out;clear HA;simp only[z0a.j1]at H
           by_cases c19:x40_16=true
           · subst c19;have H1:((z0k.f kj16 a0 a1 false).bind fun t207=>(if 0≤a1 then(if a1≤(wrap64 (a1+t207))then(if(wrap64 (a1+t207))≤(a0.size:Int)then((z0c.f kj16 (a0.extract (a1:Int).toNat ((wrap64 (a1+t207)):Int).toNat)).bind fun t208=>(some (2,a0.extract (a1:Int).toNat ((wrap64 (a1+t207)):Int).toNat,a1,t208)))else(none))else(none))else(none)))=some (r1,r2,r3,r4):=by rw[if_pos rfl]at H;exact H
             clear H;have H:=H1;clear H1;replace H:=Option.bind_eq_some_iff.mp H;obtain⟨t207,A200,H⟩:=H;replace H:(if 0≤a1 then(if a1≤(wrap64 (a1+t207))then(if(wrap64 (a1+t207))≤(a0.size:Int)then((z0c.f kj16 (a0.extract (a1:Int).toNat ((wrap64 (a1+t207)):Int).toNat)).bind fun t208=>(some (2,a0.extract (a1:Int).toNat ((wrap64 (a1+t207)):Int).toNat,a1,t208)))else(none))else(none))else(none))=some (r1,r2,r3,r4):=H;have A20:=z00.mk A200;clear A200
             by_cases c21:0≤a1
             · rw[if_pos c21]at H;have c21b0:=eq_true c21;have c21b1:decide (0≤a1)=true:=decide_eq_true c21;clear c21
               by_cases c22:a1≤(wrap64 (a1+t207))
               · rw[if_pos c22]at H;have c22b0:=eq_true c22;have c22b1:decide (a1≤(wrap64 (a1+t207)))=true:=decide_eq_true c22
                 by_cases c23:(wrap64 (a1+t207))≤(a0.size:Int)
                 · rw[if_pos c23]at H;have c23b0:=eq_true c23;have c23b1:decide ((wrap64 (a1+t207))≤(a0.size:Int))=true:=decide_eq_true c23;replace H:=Option.bind_eq_some_iff.mp H;obtain⟨t208,A240,H⟩:=H;replace H:(some (2,a0.extract (a1:Int).toNat ((wrap64 (a1+t207)):Int).toNat,a1,t208))=some (r1,r2,r3,r4):=H;have A24:=z00.mk A240;clear A240;simp only[Option.some.injEq,Prod.mk.injEq]at H;obtain⟨rfl,rfl,rfl,rfl⟩:=H
                   go_wp2_with (first|((with_reducible refine z0t (f:=98) rfl ?_);refine z27 (some 46) rfl rfl Tryz.func98 (by kernel_rfl) rfl #[.string a0,.int .i64 a1,.bool false] rfl zA02 ?_;(with_reducible refine(z0k.calls kj16 a0 a1 false t207 _ A20.out).mono ?_);rintro e w' ⟨rfl,⟨nd,rfl⟩⟩;refine⟨_,rfl,?_⟩;(try(rw[z5p wc];generalize hq_:World.drewN wc _=wc;have n0_:z00 (wc.heap[gb204]?=some (.cells #[.int .i64 0,.string (⟨#[]⟩:ByteArray),.int .i64 0] 53 (0,0))):=⟨by rw[←hq_];exact zA09⟩;have n1_:z00 (Below w.heap.size w wc):=⟨by rw[←hq_];exact zA05⟩;clear BK204 HB hq_;have BK204:=n0_;have HB:=n1_;clear n0_ n1_)))|((with_reducible refine z0t (f:=100) rfl ?_);refine z27 (some 53) rfl rfl Tryz.func100 (by kernel_rfl) rfl #[.string (a0.extract (a1:Int).toNat ((wrap64 (a1+t207)):Int).toNat)] rfl zA02 ?_;(with_reducible refine(z0c.calls kj16 (a0.extract (a1:Int).toNat ((wrap64 (a1+t207)):Int).toNat) t208 _ A24.out).mono ?_);rintro e w' ⟨rfl,⟨nd,rfl⟩⟩;refine⟨_,rfl,?_⟩;(try(rw[z5p wc];generalize hq_:World.drewN wc _=wc;have n0_:z00 (wc.heap[gb204]?=some (.cells #[.int .i64 0,.string (⟨#[]⟩:ByteArray),.int .i64 0] 53 (0,0))):=⟨by rw[←hq_];exact zA09⟩;have n1_:z00 (Below w.heap.size w wc):=⟨by rw[←hq_];exact zA05⟩;clear BK204 HB hq_;have BK204:=n0_;have HB:=n1_;clear n0_ n1_));have hcz25_0:wc.cell? ⟨gb204,0,none⟩=some (.int .i64 0):=(z01 BK204.out 0).trans rfl;have hcz25_1:wc.cell? ⟨gb204,1,none⟩=some (.string (⟨#[]⟩:ByteArray)):=(z01 BK204.out 1).trans rfl;have hcz25_2:wc.cell? ⟨gb204,2,none⟩=some (.int .i64 0):=(z01 BK204.out 2).trans rfl;have hfz25_0:=z03 BK204.out 0;have hfz25_1:=z03 BK204.out 1;have hfz25_2:=z03 BK204.out 2))
                   refine bodyPost_ret (z1w rfl _ _ gb204 53 #[.int .i64 2,.string (a0.extract (a1:Int).toNat ((wrap64 (a1+t207)):Int).toNat),.int .i64 a1] (0,0) _ rfl (by(with_reducible repeat(first|refine z07 ?_ _|refine z09 ?_|refine z06 ?_ _));refine z0l (cs:=#[.int .i64 2,.string (a0.extract (a1:Int).toNat ((wrap64 (a1+t207)):Int).toNat),.int .i64 0]) ?_ 2 _ rfl;(with_reducible repeat(first|refine z07 ?_ _|refine z09 ?_|refine z06 ?_ _));refine z0l (cs:=#[.int .i64 2,.string (⟨#[]⟩:ByteArray),.int .i64 0]) ?_ 1 _ rfl;(with_reducible repeat(first|refine z07 ?_ _|refine z09 ?_|refine z06 ?_ _));refine z0l (cs:=#[.int .i64 0,.string (⟨#[]⟩:ByteArray),.int .i64 0]) ?_ 0 _ rfl;(with_reducible repeat(first|refine z07 ?_ _|refine z09 ?_|refine z06 ?_ _));exact BK204.out) Tryz.underlying53 rfl (by kernel_rfl)) rfl ?_;exact⟨by first|rfl|(simp[z0q,z0p] <;> rfl)|(simp[*,z0q,z0p] <;> rfl),by repeat(first|(with_reducible first|exact HB.out|apply z04|apply z02|apply z05|refine z08 ?_ GE204.out)|exact HB.out)⟩
                 · rw[if_neg c23]at H;exact absurd H (by simp)
               · rw[if_neg c22]at H;exact absurd H (by simp)
             · rw[if_neg c21]at H;exact absurd H (by simp)
           · replace c19:=Bool.eq_false_iff.mpr c19;subst c19;have H1:(if(bt a0 a1)=35 then(z0a.j2 kj16 a0 a1 true)else(if(bt a0 a1)≥48 then(if(bt a0 a1)≤57 then(z0a.j2 kj16 a0 a1 true)else(if(bt a0 a1)=45 then(if(wrap64 (a1+1))<(a0.size:Int)then(if 0≤(wrap64 (a1+1))then(if(bt a0 (wrap64 (a1+1)))≥48 then(z0a.j2 kj16 a0 a1 (decide ((bt a0 (wrap64 (a1+1)))≤57)))else(z0a.j2 kj16 a0 a1 false))else(none))else(z0a.j2 kj16 a0 a1 false))else(z0a.j2 kj16 a0 a1 false)))else(if(bt a0 a1)=45 then(if(wrap64 (a1+1))<(a0.size:Int)then(if 0≤(wrap64 (a1+1))then(if(bt a0 (wrap64 (a1+1)))≥48 then(z0a.j2 kj16 a0 a1 (decide ((bt a0 (wrap64 (a1+1)))≤57)))else(z0a.j2 kj16 a0 a1 false))else(none))else(z0a.j2 kj16 a0 a1 false))else(z0a.j2 kj16 a0 a1 false))))=some (r1,r2,r3,r4):=by rw[if_neg (show ¬(false=true) by decide)]at H;exact H
             clear H;have H:=H1;clear H1;have HC26:=z00.mk H;clear H
             go_upto_region 8 with (fail)
             go_cut [88] (fun v88 wc=>∃(kq:Nat) (x88_25:Bool),v88=.bool x88_25∧z00 (z0a.j2 kq a0 a1 x88_25=some (r1,r2,r3,r4))∧z00 (kq≤kj16)∧z00 (wc.heap[gb204]?=some (.cells #[.int .i64 0,.string (⟨#[]⟩:ByteArray),.int .i64 0] 53 (0,0)))∧z00 (Below w.heap.size w wc))
             case first =>
              have H:=HC26.out;clear HC26
              by_cases c27:(bt a0 a1)=35
              · rw[if_pos c27]at H;have c27b0:((bt a0 a1)==35)=true:=beq_iff_eq.mpr c27;have c27b1:((bt a0 a1) !=35)=false:=bne_eq_false_iff_eq.mpr c27;clear c27
                (first|rw[c27b0]|(simp only[i64_w,i32_w];rw[c27b0])|skip)
                have H':=z00.mk H;clear H;go_wp2;go_meet
                case rel=>exact⟨_,(true),zA06,H',⟨zA0k⟩,⟨zA09⟩,⟨zA05⟩⟩
              · rw[if_neg c27]at H;have c27b0:((bt a0 a1)==35)=false:=beq_eq_false_iff_ne.mpr c27;have c27b1:((bt a0 a1) !=35)=true:=bne_iff_ne.mpr c27
                (first|rw[c27b0]|(simp only[i64_w,i32_w];rw[c27b0])|skip)
                by_cases c28:(bt a0 a1)≥48
                · rw[if_pos c28]at H;have c28b0:decide (48≤(bt a0 a1))=true:=decide_eq_true c28;clear c28
                  by_cases c29:(bt a0 a1)≤57
                  · rw[if_pos c29]at H;have c29b0:decide ((bt a0 a1)≤57)=true:=decide_eq_true c29;clear c29;have H':=z00.mk H;clear H;go_wp2;go_meet
                    case rel=>exact⟨_,(true),zA06,H',⟨zA0k⟩,⟨zA09⟩,⟨zA05⟩⟩
                  · rw[if_neg c29]at H;have c29b0:decide ((bt a0 a1)≤57)=false:=decide_eq_false c29;clear c29
                    by_cases c30:(bt a0 a1)=45
                    · rw[if_pos c30]at H;have c30b0:((bt a0 a1)==45)=true:=beq_iff_eq.mpr c30;have c30b1:((bt a0 a1) !=45)=false:=bne_eq_false_iff_eq.mpr c30;clear c30
                      by_cases c31:(wrap64 (a1+1))<(a0.size:Int)
                      · rw[if_pos c31]at H;have c31b0:decide ((wrap64 (a1+1))<(a0.size:Int))=true:=decide_eq_true c31;clear c31;obtain⟨ji32,hji32⟩:∃j_:Int,(wrap64 (a1+1))=j_:=⟨_,rfl⟩
                        replace H:(if 0≤(ji32)then(if(bt a0 (ji32))≥48 then(z0a.j2 kj16 a0 a1 (decide ((bt a0 (ji32))≤57)))else(z0a.j2 kj16 a0 a1 false))else(none))=some (r1,r2,r3,r4):=by first|(rw[hji32]at H;exact H)|(simp only[hji32]at H ⊢;exact H)
                        (try rw[hji32]at c31b0)
                        have hji32w:(IntKind.i64.wrap (a1+1))=ji32:=(i64_w _).trans hji32
                        by_cases c33:0≤(ji32)
                        · rw[if_pos c33]at H;have c33b0:decide (0≤(ji32))=true:=decide_eq_true c33;clear c33
                          by_cases c35:(bt a0 (ji32))≥48
                          · rw[if_pos c35]at H;have c35b0:decide (48≤(bt a0 (ji32)))=true:=decide_eq_true c35;clear c35;have H':=z00.mk H;clear H;have p34:0≤((ji32):Int):=of_decide_eq_true zA01;have q34:(ji32)<(a0.size:Int):=of_decide_eq_true zA01;have hx34:=bt_at a0 (ji32);replace p34:=eq_true p34;replace q34:=eq_true q34;have p36:0≤((ji32):Int):=of_decide_eq_true zA01;have q36:(ji32)<(a0.size:Int):=of_decide_eq_true zA01;have hx36:=bt_at a0 (ji32);replace p36:=eq_true p36;replace q36:=eq_true q36;go_wp2;go_meet
                            case rel=>exact⟨_,(decide ((bt a0 (ji32))≤57)),(by first|rfl|(simp;done)|(simp only[←hji32] <;> (first|rfl|simp))|(simp[*];done)),H',⟨zA0k⟩,⟨zA09⟩,⟨zA05⟩⟩
                          · rw[if_neg c35]at H;have c35b0:decide (48≤(bt a0 (ji32)))=false:=decide_eq_false c35;clear c35;have H':=z00.mk H;clear H;have p34:0≤((ji32):Int):=of_decide_eq_true zA01;have q34:(ji32)<(a0.size:Int):=of_decide_eq_true zA01;have hx34:=bt_at a0 (ji32);replace p34:=eq_true p34;replace q34:=eq_true q34;go_wp2;go_meet
                            case rel=>exact⟨_,(false),zA06,H',⟨zA0k⟩,⟨zA09⟩,⟨zA05⟩⟩
                        · rw[if_neg c33]at H;exact absurd H (by simp)
                      · rw[if_neg c31]at H;have c31b0:decide ((wrap64 (a1+1))<(a0.size:Int))=false:=decide_eq_false c31;clear c31;have H':=z00.mk H;clear H;go_wp2;go_meet
                        case rel=>exact⟨_,(false),zA06,H',⟨zA0k⟩,⟨zA09⟩,⟨zA05⟩⟩
                    · rw[if_neg c30]at H;have c30b0:((bt a0 a1)==45)=false:=beq_eq_false_iff_ne.mpr c30;have c30b1:((bt a0 a1) !=45)=true:=bne_iff_ne.mpr c30;have H':=z00.mk H;clear H;go_wp2;go_meet
                      case rel=>exact⟨_,(false),zA06,H',⟨zA0k⟩,⟨zA09⟩,⟨zA05⟩⟩
                · rw[if_neg c28]at H;have c28b0:decide (48≤(bt a0 a1))=false:=decide_eq_false c28;clear c28
                  by_cases c37:(bt a0 a1)=45
                  · rw[if_pos c37]at H;have c37b0:((bt a0 a1)==45)=true:=beq_iff_eq.mpr c37;have c37b1:((bt a0 a1) !=45)=false:=bne_eq_false_iff_eq.mpr c37;clear c37
                    by_cases c38:(wrap64 (a1+1))<(a0.size:Int)
                    · rw[if_pos c38]at H;have c38b0:decide ((wrap64 (a1+1))<(a0.size:Int))=true:=decide_eq_true c38;clear c38;obtain⟨ji39,hji39⟩:∃j_:Int,(wrap64 (a1+1))=j_:=⟨_,rfl⟩
                      replace H:(if 0≤(ji39)then(if(bt a0 (ji39))≥48 then(z0a.j2 kj16 a0 a1 (decide ((bt a0 (ji39))≤57)))else(z0a.j2 kj16 a0 a1 false))else(none))=some (r1,r2,r3,r4):=by first|(rw[hji39]at H;exact H)|(simp only[hji39]at H ⊢;exact H)
                      (try rw[hji39]at c38b0)
                      have hji39w:(IntKind.i64.wrap (a1+1))=ji39:=(i64_w _).trans hji39
                      by_cases c40:0≤(ji39)
                      · rw[if_pos c40]at H;have c40b0:decide (0≤(ji39))=true:=decide_eq_true c40;clear c40
                        by_cases c42:(bt a0 (ji39))≥48
                        · rw[if_pos c42]at H;have c42b0:decide (48≤(bt a0 (ji39)))=true:=decide_eq_true c42;clear c42;have H':=z00.mk H;clear H;have p41:0≤((ji39):Int):=of_decide_eq_true zA01;have q41:(ji39)<(a0.size:Int):=of_decide_eq_true zA01;have hx41:=bt_at a0 (ji39);replace p41:=eq_true p41;replace q41:=eq_true q41;have p43:0≤((ji39):Int):=of_decide_eq_true zA01;have q43:(ji39)<(a0.size:Int):=of_decide_eq_true zA01;have hx43:=bt_at a0 (ji39);replace p43:=eq_true p43;replace q43:=eq_true q43;go_wp2;go_meet
                          case rel=>exact⟨_,(decide ((bt a0 (ji39))≤57)),(by first|rfl|(simp;done)|(simp only[←hji39] <;> (first|rfl|simp))|(simp[*];done)),H',⟨zA0k⟩,⟨zA09⟩,⟨zA05⟩⟩
                        · rw[if_neg c42]at H;have c42b0:decide (48≤(bt a0 (ji39)))=false:=decide_eq_false c42;clear c42;have H':=z00.mk H;clear H;have p41:0≤((ji39):Int):=of_decide_eq_true zA01;have q41:(ji39)<(a0.size:Int):=of_decide_eq_true zA01;have hx41:=bt_at a0 (ji39);replace p41:=eq_true p41;replace q41:=eq_true q41;go_wp2;go_meet
                          case rel=>exact⟨_,(false),zA06,H',⟨zA0k⟩,⟨zA09⟩,⟨zA05⟩⟩
                      · rw[if_neg c40]at H;exact absurd H (by simp)
                    · rw[if_neg c38]at H;have c38b0:decide ((wrap64 (a1+1))<(a0.size:Int))=false:=decide_eq_false c38;clear c38;have H':=z00.mk H;clear H;go_wp2;go_meet
                      case rel=>exact⟨_,(false),zA06,H',⟨zA0k⟩,⟨zA09⟩,⟨zA05⟩⟩
                  · rw[if_neg c37]at H;have c37b0:((bt a0 a1)==45)=false:=beq_eq_false_iff_ne.mpr c37;have c37b1:((bt a0 a1) !=45)=true:=bne_iff_ne.mpr c37;have H':=z00.mk H;clear H;go_wp2;go_meet
                    case rel=>exact⟨_,(false),zA06,H',⟨zA0k⟩,⟨zA09⟩,⟨zA05⟩⟩
             case rest =>
              clear HC26;(try clear c1);(try clear c2);(try clear p2);(try clear c3);(try clear c3b0);(try clear p3);(try clear q3);(try clear hx3);(try clear c4);(try clear c4b0);(try clear p4);(try clear q4);(try clear hx4);(try clear p5);(try clear q5);(try clear hx5);(try clear c6);(try clear p6);(try clear c8);(try clear c8b0);(try clear c9);(try clear c10);(try clear c11);(try clear c11b0);(try clear c11b1);(try clear c12);(try clear c12b0);(try clear c12b1);(try clear c13);(try clear c13b0);(try clear c13b1);(try clear c18);(try clear c18b0);(try clear c19);(try clear c21);(try clear c21b0);(try clear c21b1);(try clear c22);(try clear c22b0);(try clear c22b1);(try clear c23);(try clear c23b0);(try clear c23b1);(try clear c27);(try clear c27b0);(try clear c27b1);(try clear c28);(try clear c28b0);(try clear c29);(try clear c29b0);(try clear c30);(try clear c30b0);(try clear c30b1);(try clear c31);(try clear c31b0);(try clear c33);(try clear c33b0);(try clear p34);(try clear q34);(try clear hx34);(try clear c35);(try clear c35b0);(try clear p36);(try clear q36);(try clear hx36);(try clear c37);(try clear c37b0);(try clear c37b1);(try clear c38);(try clear c38b0);(try clear c40);(try clear c40b0);(try clear p41);(try clear q41);(try clear hx41);(try clear c42);(try clear c42b0);(try clear p43);(try clear q43);(try clear hx43);(try clear hcz16_0);(try clear hcz16_1);(try clear hcz16_2);(try clear hcz25_0);(try clear hcz25_1);(try clear hcz25_2);(try clear hfz16_0);(try clear hfz16_1);(try clear hfz16_2);(try clear hfz25_0);(try clear hfz25_1);(try clear hfz25_2);(try clear p2);(try clear p34);(try clear p36);(try clear p41);(try clear p43);(try clear p5);(try clear p6);(try clear q34);(try clear q36);(try clear q41);(try clear q43);(try clear q5);obtain⟨kq,x88_25,rfl,HA,HJ25,BK204,HB⟩:=hcut
              cases kq with
              |zero=>exact absurd HA.out (by simp[z0a.j2])
              |succ kj25 =>
               have H:=HA.out;clear HA;simp only[z0a.j2]at H
               by_cases c44:x88_25=true
               · subst c44;have H1:((z0k.f kj25 a0 (wrap64 (a1+1)) false).bind fun t209=>(if 0≤a1 then(if a1≤(wrap64 ((wrap64 (a1+1))+t209))then(if(wrap64 ((wrap64 (a1+1))+t209))≤(a0.size:Int)then((z0u.f kj25 (a0.extract (a1:Int).toNat ((wrap64 ((wrap64 (a1+1))+t209)):Int).toNat)).bind fun bt210=>(some (3,a0.extract (a1:Int).toNat ((wrap64 ((wrap64 (a1+1))+t209)):Int).toNat,a1,(bt210.2.2.2==0))))else(none))else(none))else(none)))=some (r1,r2,r3,r4):=by rw[if_pos rfl]at H;exact H
                 clear H;have H:=H1;clear H1;replace H:=Option.bind_eq_some_iff.mp H;obtain⟨t209,A450,H⟩:=H;replace H:(if 0≤a1 then(if a1≤(wrap64 ((wrap64 (a1+1))+t209))then(if(wrap64 ((wrap64 (a1+1))+t209))≤(a0.size:Int)then((z0u.f kj25 (a0.extract (a1:Int).toNat ((wrap64 ((wrap64 (a1+1))+t209)):Int).toNat)).bind fun bt210=>(some (3,a0.extract (a1:Int).toNat ((wrap64 ((wrap64 (a1+1))+t209)):Int).toNat,a1,(bt210.2.2.2==0))))else(none))else(none))else(none))=some (r1,r2,r3,r4):=H;have A45:=z00.mk A450;clear A450
                 by_cases c46:0≤a1
                 · rw[if_pos c46]at H;have c46b0:=eq_true c46;have c46b1:decide (0≤a1)=true:=decide_eq_true c46;clear c46
                   by_cases c47:a1≤(wrap64 ((wrap64 (a1+1))+t209))
                   · rw[if_pos c47]at H;have c47b0:=eq_true c47;have c47b1:decide (a1≤(wrap64 ((wrap64 (a1+1))+t209)))=true:=decide_eq_true c47
                     by_cases c48:(wrap64 ((wrap64 (a1+1))+t209))≤(a0.size:Int)
                     · rw[if_pos c48]at H;have c48b0:=eq_true c48;have c48b1:decide ((wrap64 ((wrap64 (a1+1))+t209))≤(a0.size:Int))=true:=decide_eq_true c48;replace H:=Option.bind_eq_some_iff.mp H;obtain⟨⟨t210,t211,t212,t213⟩,A490,H⟩:=H;replace H:(some (3,a0.extract (a1:Int).toNat ((wrap64 ((wrap64 (a1+1))+t209)):Int).toNat,a1,(t213==0)))=some (r1,r2,r3,r4):=H;have A49:=z00.mk A490;clear A490;simp only[Option.some.injEq,Prod.mk.injEq]at H;obtain⟨rfl,rfl,rfl,rfl⟩:=H
                       go_wp2_with (first|((with_reducible refine z0t (f:=98) rfl ?_);refine z27 (some 96) rfl rfl Tryz.func98 (by kernel_rfl) rfl #[.string a0,.int .i64 (wrap64 (a1+1)),.bool false] rfl zA02 ?_;(with_reducible refine(z0k.calls kj25 a0 (wrap64 (a1+1)) false t209 _ A45.out).mono ?_);rintro e w' ⟨rfl,⟨nd,rfl⟩⟩;refine⟨_,rfl,?_⟩;(try(rw[z5p wc];generalize hq_:World.drewN wc _=wc;have n0_:z00 (wc.heap[gb204]?=some (.cells #[.int .i64 0,.string (⟨#[]⟩:ByteArray),.int .i64 0] 53 (0,0))):=⟨by rw[←hq_];exact zA09⟩;have n1_:z00 (Below w.heap.size w wc):=⟨by rw[←hq_];exact zA05⟩;clear BK204 HB hq_;have BK204:=n0_;have HB:=n1_;clear n0_ n1_)))|((with_reducible refine z0t (f:=101) rfl ?_);refine z27 (some 101) rfl rfl Tryz.func101 (by kernel_rfl) rfl #[.string (a0.extract (a1:Int).toNat ((wrap64 ((wrap64 (a1+1))+t209)):Int).toNat)] rfl zA02 ?_;(with_reducible refine(z0u.calls kj25 (a0.extract (a1:Int).toNat ((wrap64 ((wrap64 (a1+1))+t209)):Int).toNat) t210 t211 t212 t213 _ A49.out).mono ?_);rintro e w50 ⟨rfl,hb⟩;refine⟨_,rfl,?_⟩;have n0_:=z00.mk (z0h (g:=gb204) (o:=.cells #[.int .i64 0,.string (⟨#[]⟩:ByteArray),.int .i64 0] 53 (0,0)) zA09 hb);have n1_:=z00.mk (z0g zA05 hb);clear BK204;clear HB;have BK204:=n0_;have HB:=n1_;clear n0_ n1_;(try clear hb);(try clear hb2);(try clear hk);(try clear hi))|((with_reducible refine z19 (N:=10) rfl ?_);(try(refine z45 (by rfl) ?_;dsimp only));refine z17 ?hg (N:=10) ?hd (cs:=#[.int .i64 0,.int .i64 0,.string (⟨#[]⟩:ByteArray)]) (t:=58) ?hr ?_;(case hd=>rfl);(case hg=>rfl);(case hr=>first|(go_simp;done)|(go_simp;rfl));intro gb214 hg w51 hbox hb;have n0_:=z00.mk (z0h (g:=gb204) (o:=.cells #[.int .i64 0,.string (⟨#[]⟩:ByteArray),.int .i64 0] 53 (0,0)) zA09 hb);have n1_:=z00.mk (z0g zA05 hb);have n2_:=z00.mk (hbox);have n3_:=z00.mk ((by rw[hg];exact(z0j zA05):w.heap.size≤gb214));have n4_:=z00.mk ((by rw[hg];exact(z0j zA05):w.heap.size≤gb214));have n5_:=z00.mk ((by rw[hg];exact Nat.ne_of_lt (z1u (g:=gb204) (o:=.cells #[.int .i64 0,.string (⟨#[]⟩:ByteArray),.int .i64 0] 53 (0,0)) zA09):gb204≠gb214));have n6_:=z00.mk ((by rw[hg];exact Nat.ne_of_gt (z1u (g:=gb204) (o:=.cells #[.int .i64 0,.string (⟨#[]⟩:ByteArray),.int .i64 0] 53 (0,0)) zA09):gb214≠gb204));clear BK204;clear HB;have BK204:=n0_;have HB:=n1_;have BK214:=n2_;have GW214:=n3_;have GE214:=n4_;have NB204_214:=n5_;have NB214_204:=n6_;clear n0_ n1_ n2_ n3_ n4_ n5_ n6_;clear hb hbox hg;have hnb52:=NB214_204.out;have hnc52:=NB204_214.out;have hcz53_0:w51.cell? ⟨gb214,0,none⟩=some (.int .i64 0):=(z01 BK214.out 0).trans rfl;have hcz53_1:w51.cell? ⟨gb214,1,none⟩=some (.int .i64 0):=(z01 BK214.out 1).trans rfl;have hcz53_2:w51.cell? ⟨gb214,2,none⟩=some (.string (⟨#[]⟩:ByteArray)):=(z01 BK214.out 2).trans rfl;have hfz53_0:=z03 BK214.out 0;have hfz53_1:=z03 BK214.out 1;have hfz53_2:=z03 BK214.out 2;have hcz54_0:w51.cell? ⟨gb204,0,none⟩=some (.int .i64 0):=(z01 BK204.out 0).trans rfl;have hcz54_1:w51.cell? ⟨gb204,1,none⟩=some (.string (⟨#[]⟩:ByteArray)):=(z01 BK204.out 1).trans rfl;have hcz54_2:w51.cell? ⟨gb204,2,none⟩=some (.int .i64 0):=(z01 BK204.out 2).trans rfl;have hfz54_0:=z03 BK204.out 0;have hfz54_1:=z03 BK204.out 1;have hfz54_2:=z03 BK204.out 2))
                       refine bodyPost_ret (z1w rfl _ _ gb204 53 #[.int .i64 3,.string (a0.extract (a1:Int).toNat ((wrap64 ((wrap64 (a1+1))+t209)):Int).toNat),.int .i64 a1] (0,0) _ rfl (by(with_reducible repeat(first|refine z07 ?_ _|refine z09 ?_|refine z06 ?_ _));refine z0l (cs:=#[.int .i64 3,.string (a0.extract (a1:Int).toNat ((wrap64 ((wrap64 (a1+1))+t209)):Int).toNat),.int .i64 0]) ?_ 2 _ rfl;(with_reducible repeat(first|refine z07 ?_ _|refine z09 ?_|refine z06 ?_ _));refine z0l (cs:=#[.int .i64 3,.string (⟨#[]⟩:ByteArray),.int .i64 0]) ?_ 1 _ rfl;(with_reducible repeat(first|refine z07 ?_ _|refine z09 ?_|refine z06 ?_ _));refine z0l (cs:=#[.int .i64 0,.string (⟨#[]⟩:ByteArray),.int .i64 0]) ?_ 0 _ rfl;(with_reducible repeat(first|refine z07 ?_ _|refine z09 ?_|refine z06 ?_ _));refine z0w ?_ NB204_214.out _;(with_reducible repeat(first|refine z07 ?_ _|refine z09 ?_|refine z06 ?_ _));refine z0w ?_ NB204_214.out _;(with_reducible repeat(first|refine z07 ?_ _|refine z09 ?_|refine z06 ?_ _));refine z0w ?_ NB204_214.out _;(with_reducible repeat(first|refine z07 ?_ _|refine z09 ?_|refine z06 ?_ _));exact BK204.out) Tryz.underlying53 rfl (by kernel_rfl)) rfl ?_;exact⟨by first|rfl|(simp[z0q,z0p] <;> rfl)|(simp[*,z0q,z0p] <;> rfl),by repeat(first|(with_reducible first|exact HB.out|apply z04|apply z02|apply z05|refine z08 ?_ GE204.out|refine z08 ?_ GE214.out)|exact HB.out)⟩
                     · rw[if_neg c48]at H;exact absurd H (by simp)
                   · rw[if_neg c47]at H;exact absurd H (by simp)
                 · rw[if_neg c46]at H;exact absurd H (by simp)
               · replace c44:=Bool.eq_false_iff.mpr c44;subst c44;have H1:((z0m.f kj25 a0 a1).bind fun t215=>(if 0≤a1 then(if a1≤(wrap64 (a1+t215))then(if(wrap64 (a1+t215))≤(a0.size:Int)then(some (4,a0.extract (a1:Int).toNat ((wrap64 (a1+t215)):Int).toNat,a1,decide (t215>0)))else(none))else(none))else(none)))=some (r1,r2,r3,r4):=by rw[if_neg (show ¬(false=true) by decide)]at H;exact H
                 clear H;have H:=H1;clear H1;replace H:=Option.bind_eq_some_iff.mp H;obtain⟨t215,A550,H⟩:=H;replace H:(if 0≤a1 then(if a1≤(wrap64 (a1+t215))then(if(wrap64 (a1+t215))≤(a0.size:Int)then(some (4,a0.extract (a1:Int).toNat ((wrap64 (a1+t215)):Int).toNat,a1,decide (t215>0)))else(none))else(none))else(none))=some (r1,r2,r3,r4):=H;have A55:=z00.mk A550;clear A550
                 by_cases c56:0≤a1
                 · rw[if_pos c56]at H;have c56b0:=eq_true c56;have c56b1:decide (0≤a1)=true:=decide_eq_true c56;clear c56
                   by_cases c57:a1≤(wrap64 (a1+t215))
                   · rw[if_pos c57]at H;have c57b0:=eq_true c57;have c57b1:decide (a1≤(wrap64 (a1+t215)))=true:=decide_eq_true c57
                     by_cases c58:(wrap64 (a1+t215))≤(a0.size:Int)
                     · rw[if_pos c58]at H;have c58b0:=eq_true c58;have c58b1:decide ((wrap64 (a1+t215))≤(a0.size:Int))=true:=decide_eq_true c58;simp only[Option.some.injEq,Prod.mk.injEq]at H;obtain⟨rfl,rfl,rfl,rfl⟩:=H
                       go_wp2_with (first|((with_reducible refine z0t (f:=102) rfl ?_);refine z27 (some 111) rfl rfl Tryz.func102 (by kernel_rfl) rfl #[.string a0,.int .i64 a1] rfl zA02 ?_;(with_reducible refine(z0m.calls kj25 a0 a1 t215 _ A55.out).mono ?_);rintro e w' ⟨rfl,⟨nd,rfl⟩⟩;refine⟨_,rfl,?_⟩;(try(rw[z5p wc];generalize hq_:World.drewN wc _=wc;have n0_:z00 (wc.heap[gb204]?=some (.cells #[.int .i64 0,.string (⟨#[]⟩:ByteArray),.int .i64 0] 53 (0,0))):=⟨by rw[←hq_];exact zA09⟩;have n1_:z00 (Below w.heap.size w wc):=⟨by rw[←hq_];exact zA05⟩;clear BK204 HB hq_;have BK204:=n0_;have HB:=n1_;clear n0_ n1_));have hcz59_0:wc.cell? ⟨gb204,0,none⟩=some (.int .i64 0):=(z01 BK204.out 0).trans rfl;have hcz59_1:wc.cell? ⟨gb204,1,none⟩=some (.string (⟨#[]⟩:ByteArray)):=(z01 BK204.out 1).trans rfl;have hcz59_2:wc.cell? ⟨gb204,2,none⟩=some (.int .i64 0):=(z01 BK204.out 2).trans rfl;have hfz59_0:=z03 BK204.out 0;have hfz59_1:=z03 BK204.out 1;have hfz59_2:=z03 BK204.out 2))
                       refine bodyPost_ret (z1w rfl _ _ gb204 53 #[.int .i64 4,.string (a0.extract (a1:Int).toNat ((wrap64 (a1+t215)):Int).toNat),.int .i64 a1] (0,0) _ rfl (by(with_reducible repeat(first|refine z07 ?_ _|refine z09 ?_|refine z06 ?_ _));refine z0l (cs:=#[.int .i64 4,.string (a0.extract (a1:Int).toNat ((wrap64 (a1+t215)):Int).toNat),.int .i64 0]) ?_ 2 _ rfl;(with_reducible repeat(first|refine z07 ?_ _|refine z09 ?_|refine z06 ?_ _));refine z0l (cs:=#[.int .i64 4,.string (⟨#[]⟩:ByteArray),.int .i64 0]) ?_ 1 _ rfl;(with_reducible repeat(first|refine z07 ?_ _|refine z09 ?_|refine z06 ?_ _));refine z0l (cs:=#[.int .i64 0,.string (⟨#[]⟩:ByteArray),.int .i64 0]) ?_ 0 _ rfl;(with_reducible repeat(first|refine z07 ?_ _|refine z09 ?_|refine z06 ?_ _));exact BK204.out) Tryz.underlying53 rfl (by kernel_rfl)) rfl ?_;exact⟨by first|rfl|(simp[z0q,z0p] <;> rfl)|(simp[*,z0q,z0p] <;> rfl),by repeat(first|(with_reducible first|exact HB.out|apply z04|apply z02|apply z05|refine z08 ?_ GE204.out)|exact HB.out)⟩
                     · rw[if_neg c58]at H;exact absurd H (by simp)
                   · rw[if_neg c57]at H;exact absurd H (by simp)
                 · rw[if_neg c56]at H;exact absurd H (by simp)
   · rw[if_neg c4]at H;exact absurd H (by simp)
 · rw[if_neg c3]at H;exact absurd H (by simp)
end Go.Proofs.YthebhbomlllpeaaGreatDoor.X
