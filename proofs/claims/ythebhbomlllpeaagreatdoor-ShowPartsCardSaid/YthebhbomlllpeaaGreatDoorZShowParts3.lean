/-
  ShowParts: what the proof needs, put together by a program of this session (shake.py), part 3.
-/
import Derived.Test.YthebhbomlllpeaaGreatDoorZShowParts2
set_option linter.unusedVariables false
set_option linter.unusedSimpArgs false
namespace Go.Proofs.YthebhbomlllpeaaGreatDoor.X
open Go.ChangeShapes Go.WideShapes Go.ChangeAt Go.RowKit Go.Deep Go.Joins Go.Proofs.YthebhbomlllpeaaGreatDoorW.PrintWords Go.Proofs.YthebhbomlllpeaaGreatDoorW.PrintLast Go.Proofs.YthebhbomlllpeaaGreatDoorW.PrintMore
section
variable {H:Type} {enc:TypeId × Value→H} {P:Program} {w:World} {base:Nat} {spare:Nat→Bool} {held:Bool}
theorem z2r {fs:Array Field} {t:TypeId} (ht:P.underlying t=some (.struct fs)) {fuel:Nat} {cs:List Value} {x:DataW H × List MemPlace} (h:DataW.trod enc P w base spare held fuel t cs=some x) (i:Nat) {f:Field} (hf:fs[i]?=some f) {m:Nat} (hm:P.cellsOf f.type=m) :
 ∃(n:Nat) (y:DataW H × List MemPlace),DataW.trod enc P w base spare held n f.type ((cs.drop f.offset).take m)=some y:=by
 obtain⟨xs,n,_,_,_,hl,hx⟩:=DataW.trod_struct ht h;have h1:=hx i f hf;have hi:i<fs.size:=(Array.getElem?_eq_some_iff.1 hf).1;rw[List.getElem?_eq_getElem (by omega),hm]at h1;exact⟨n,_,h1⟩
theorem z57 {fs:Array Field} {t:TypeId} (ht:P.underlying t=some (.struct fs)) {fuel:Nat} {cs:List Value} {x:DataW H × List MemPlace} (h:DataW.trod enc P w base spare held fuel t cs=some x) {m:Nat} (hm:P.cellsOf t=m):cs.length=m:=by
 obtain⟨_,_,_,_,hl,_⟩:=DataW.trod_struct ht h;exact hl.trans hm
theorem z9i {α:Type} (d:Kd α) (z:α) {Q:α→Prop} {t e:TypeId} (ht:P.underlying t=some (.slice e)) (hsz:P.cellsOf e=d.sz)
 (hel:∀n cs y,DataW.trod enc P w base spare held n e cs=some y→∃x:α,d.K w x cs∧Q x) {fuel:Nat} {cs:List Value} {y:DataW H × List MemPlace} (h:DataW.trod enc P w base spare held fuel t cs=some y) :
 ∃(A:Option Addr) (zs:List α) (c:Nat),cs=[.slice A zs.length c]∧zs.length≤c∧Kd.C d w A zs.length zs∧∀x ∈ zs,Q x:=by
 rcases open_slice ht h with ⟨h0,_⟩|⟨a,len,cap,m,n,D,Pl,hcs,hb,hl,hm,hmm,hx,hi⟩
 · exact⟨none,[],0,h0,Nat.le_refl _,Kd.C_nil _ _,fun x hx=>by cases hx⟩
 · have each:∀i,i<len→∃x:α,∃c,c.length=d.sz∧d.K w x c∧Q x∧∀k u,c[k]?=some u→w.cell? (a.add (i * d.sz+k))=some u:=by
    intro i him;obtain⟨cs',hc,ht'⟩:=hi i (by rw[hmm];split <;> omega);rw[hsz]at hc;obtain⟨x,hK,hQ⟩:=hel _ _ _ ht';obtain⟨_,hcl,hat⟩:=World.cells?_some hc;refine⟨x,cs',hcl,hK,hQ,fun k u hu=>?_⟩;have hk:k<d.sz:=by rw[←hcl];exact(List.getElem?_eq_some_iff.1 hu).1
    rw[←Go.Deep.add_add,hat k hk,hu]
   obtain⟨f,hfn⟩:=@choose_lt _ ⟨z⟩ len _ each;refine⟨some a,(List.range len).map f,cap,by simp[hcs],by simpa using hl,⟨rfl,?_,fun hn=>⟨a,rfl,fun j p hj=>?_⟩⟩,fun x hx=>?_⟩
   · simp[maxLen]at hm ⊢;omega
   · have hj':j<len:=by have:=(List.getElem?_eq_some_iff.1 hj).1;simpa using this
     rw[List.getElem?_map,List.getElem?_range hj']at hj;obtain rfl:=Option.some.inj hj;obtain⟨c,h1,h2,_,h3⟩:=hfn j hj';exact⟨c,h1,h2,h3⟩
   · obtain⟨j,hj,rfl⟩:=List.mem_map.1 hx;obtain⟨c,_,_,hQ,_⟩:=hfn j (List.mem_range.1 hj);exact hQ
end
theorem zgk:Tryz.prog.cellsOf 3=1:=by kernel_rfl
theorem cells2:Tryz.prog.cellsOf 2=1:=by kernel_rfl
theorem ze3:Tryz.prog.cellsOf 9=1:=by kernel_rfl
theorem zfv:Tryz.prog.cellsOf 58=3:=by kernel_rfl
theorem zah:Tryz.prog.cellsOf 60=4:=by kernel_rfl
theorem zcp:Tryz.prog.cellsOf 25=2:=by kernel_rfl
theorem zk0:Tryz.prog.cellsOf 62=17:=by kernel_rfl
theorem zku:Tryz.prog.cellsOf 33=4:=by kernel_rfl
theorem zka:Tryz.prog.cellsOf 27=3:=by kernel_rfl
theorem cellsTs:Tryz.prog.cellsOf 23=1:=by kernel_rfl
theorem cellsSs:Tryz.prog.cellsOf 37=1:=by kernel_rfl
theorem cellsLs:Tryz.prog.cellsOf 31=1:=by kernel_rfl
theorem cellsRs:Tryz.prog.cellsOf 22=1:=by kernel_rfl
theorem z5p {a b:Value} (h:[a]=[b]):a=b:=(List.cons.inj h).1
def inT (t:TmS):Prop:=(-9223372036854775808≤t.f1.f1∧t.f1.f1≤9223372036854775807)∧t.f0.size≤9223372036854775807
def inL (l:LtS):Prop:=(∀t ∈ l.f1.f1,inT t)∧inT l.f3∧inT l.f4∧inT l.f5∧(∀y ∈ l.f6,y.f1.size≤9223372036854775807)∧l.f2.size≤9223372036854775807
def inR (x:RlS):Prop:=(∀t ∈ x.f0.f1,inT t)∧∀y ∈ x.f2,inL y
section
variable {H:Type} {enc:TypeId × Value→H} {W:World} {base:Nat} {spare:Nat→Bool} {held:Bool}
theorem zfj {fuel:Nat} {cs:List Value} {y:DataW H × List MemPlace} (h:DataW.trod enc Tryz.prog W base spare held fuel 58 cs=some y) :
 ∃x:VlS,cs=[.int .i64 x.f0,.int .i64 x.f1,.string x.f2]∧(-9223372036854775808≤x.f1∧x.f1≤9223372036854775807):=by
 have hl:=z57 Tryz.underlying58 h zfv
 match cs,hl with
 |[c0,c1,c2],_ =>
  obtain⟨n0,y0,t0⟩:=z2r Tryz.underlying58 h 0 rfl zgk;obtain⟨n1,y1,t1⟩:=z2r Tryz.underlying58 h 1 rfl cells2;obtain⟨n2,y2,t2⟩:=z2r Tryz.underlying58 h 2 rfl ze3;obtain⟨z0,e0,_,w0⟩:=DataW.trod_int Tryz.underlying3 t0;obtain⟨z1,e1,_,w1⟩:=DataW.trod_int Tryz.underlying2 t1;obtain⟨z2,e2,_,w2⟩:=DataW.trod_string Tryz.underlying9 t2;obtain rfl:=z5p (show[c0]=[.int .i64 z0]from e0);obtain rfl:=z5p (show[c1]=[.int .i64 z1]from e1);obtain rfl:=z5p (show[c2]=[.string z2]from e2);exact⟨⟨z0,z1,z2⟩,rfl,wf_i64z w1⟩
theorem z7g {fuel:Nat} {cs:List Value} {y:DataW H × List MemPlace} (h:DataW.trod enc Tryz.prog W base spare held fuel 60 cs=some y) :
 ∃x:TmS,cs=[.string x.f0,.int .i64 x.f1.f0,.int .i64 x.f1.f1,.string x.f1.f2]∧inT x:=by
 have hl:=z57 Tryz.underlying60 h zah
 match cs,hl with
 |[c0,c1,c2,c3],_ =>
  obtain⟨n0,y0,t0⟩:=z2r Tryz.underlying60 h 0 rfl ze3;obtain⟨n1,y1,t1⟩:=z2r Tryz.underlying60 h 1 rfl zfv;obtain⟨z0,e0,_,w0⟩:=DataW.trod_string Tryz.underlying9 t0;obtain⟨v,e1,w1⟩:=zfj t1;obtain rfl:=z5p (show[c0]=[.string z0]from e0);have E1:[c1,c2,c3]=[.int .i64 v.f0,.int .i64 v.f1,.string v.f2]:=e1;rw[E1];exact⟨⟨z0,v⟩,rfl,w1,w0⟩
theorem zh4 {fuel:Nat} {cs:List Value} {y:DataW H × List MemPlace} (h:DataW.trod enc Tryz.prog W base spare held fuel 23 cs=some y) :
 ∃(A:Option Addr) (zs:List TmS) (c:Nat),cs=[.slice A zs.length c]∧zs.length≤c∧Kd.C k60 W A zs.length zs∧∀x ∈ zs,inT x :=
 z9i k60 z60 Tryz.underlying23 zah (fun n cs y hy=>by
  obtain⟨x,rfl,hx⟩:=z7g hy;exact⟨x,zg9 W x,hx⟩) h
theorem z93 {fuel:Nat} {cs:List Value} {y:DataW H × List MemPlace} (h:DataW.trod enc Tryz.prog W base spare held fuel 25 cs=some y) :
 ∃(x:AtS) (A:Option Addr) (c:Nat),cs=[.string x.f0,.slice A x.f1.length c]∧x.f1.length≤c∧Kd.C k60 W A x.f1.length x.f1∧∀t ∈ x.f1,inT t:=by
 have hl:=z57 Tryz.underlying25 h zcp
 match cs,hl with
 |[c0,c1],_ =>
  obtain⟨n0,y0,t0⟩:=z2r Tryz.underlying25 h 0 rfl ze3;obtain⟨n1,y1,t1⟩:=z2r Tryz.underlying25 h 1 rfl cellsTs;obtain⟨z0,e0,_,w0⟩:=DataW.trod_string Tryz.underlying9 t0;obtain⟨A,zs,c,e1,g1,g2,g3⟩:=zh4 t1;obtain rfl:=z5p (show[c0]=[.string z0]from e0);obtain rfl:=z5p (show[c1]=[.slice A zs.length c]from e1);exact⟨⟨z0,zs⟩,A,c,rfl,g1,g2,g3⟩
theorem zfq {fuel:Nat} {cs:List Value} {y:DataW H × List MemPlace} (h:DataW.trod enc Tryz.prog W base spare held fuel 37 cs=some y) :
 ∃(A:Option Addr) (zs:List StS) (c:Nat),cs=[.slice A zs.length c]∧zs.length≤c∧Kd.C k69 W A zs.length zs∧∀x ∈ zs,x.f1.size≤9223372036854775807 :=
 z9i k69 z69 Tryz.underlying37 zd6 (fun n cs y hy=>by
  have hl:=z57 Tryz.underlying69 hy zd6
  match cs,hl with
  |[c0,c1],_ =>
   obtain⟨n0,y0,t0⟩:=z2r Tryz.underlying69 hy 0 rfl zgk;obtain⟨n1,y1,t1⟩:=z2r Tryz.underlying69 hy 1 rfl ze3;obtain⟨z0,e0,_,w0⟩:=DataW.trod_int Tryz.underlying3 t0;obtain⟨z1,e1,_,w1⟩:=DataW.trod_string Tryz.underlying9 t1;obtain rfl:=z5p (show[c0]=[.int .i64 z0]from e0);obtain rfl:=z5p (show[c1]=[.string z1]from e1);exact⟨⟨z0,z1⟩,k69_mk W ⟨z0,z1⟩,w1⟩) h
theorem zkh {fuel:Nat} {cs:List Value} {y:DataW H × List MemPlace} (h:DataW.trod enc Tryz.prog W base spare held fuel 62 cs=some y) :
 ∃x:LtS,Kd.K k62 W x cs∧inL x:=by
 have hl:=z57 Tryz.underlying62 h zk0
 match cs,hl with
 |[c0,c1,c2,c3,c4,c5,c6,c7,c8,c9,c10,c11,c12,c13,c14,c15,c16],_ =>
  obtain⟨n0,y0,t0⟩:=z2r Tryz.underlying62 h 0 rfl zgk;obtain⟨n1,y1,t1⟩:=z2r Tryz.underlying62 h 1 rfl zcp;obtain⟨n2,y2,t2⟩:=z2r Tryz.underlying62 h 2 rfl ze3;obtain⟨n3,y3,t3⟩:=z2r Tryz.underlying62 h 3 rfl zah;obtain⟨n4,y4,t4⟩:=z2r Tryz.underlying62 h 4 rfl zah;obtain⟨n5,y5,t5⟩:=z2r Tryz.underlying62 h 5 rfl zah;obtain⟨n6,y6,t6⟩:=z2r Tryz.underlying62 h 6 rfl cellsSs;obtain⟨z0,e0,_,w0⟩:=DataW.trod_int Tryz.underlying3 t0;obtain⟨a,A1,q1,e1,g1,g2,g3⟩:=z93 t1;obtain⟨z2,e2,_,w2⟩:=DataW.trod_string Tryz.underlying9 t2;obtain⟨z3,e3,w3⟩:=z7g t3;obtain⟨z4,e4,w4⟩:=z7g t4;obtain⟨z5,e5,w5⟩:=z7g t5;obtain⟨A6,z6,q6,e6,g4,g5,g6⟩:=zfq t6;obtain rfl:=z5p (show[c0]=[.int .i64 z0]from e0);have E1:[c1,c2]=[.string a.f0,.slice A1 a.f1.length q1]:=e1;obtain rfl:=z5p (show[c3]=[.string z2]from e2);have E3:[c4,c5,c6,c7]=[.string z3.f0,.int .i64 z3.f1.f0,.int .i64 z3.f1.f1,.string z3.f1.f2]:=e3;have E4:[c8,c9,c10,c11]=[.string z4.f0,.int .i64 z4.f1.f0,.int .i64 z4.f1.f1,.string z4.f1.f2]:=e4;have E5:[c12,c13,c14,c15]=[.string z5.f0,.int .i64 z5.f1.f0,.int .i64 z5.f1.f1,.string z5.f1.f2]:=e5;obtain rfl:=z5p (show[c16]=[.slice A6 z6.length q6]from e6);have e:[Value.int .i64 z0,c1,c2,.string z2,c4,c5,c6,c7,c8,c9,c10,c11,c12,c13,c14,c15,.slice A6 z6.length q6]=[Value.int .i64 z0]++([c1,c2]++([.string z2]++([c4,c5,c6,c7]++([c8,c9,c10,c11]++([c12,c13,c14,c15]++[.slice A6 z6.length q6]))))):=rfl;rw[e,E1,E3,E4,E5];exact⟨⟨z0,a,z2,z3,z4,z5,z6⟩,k62_mk W ⟨z0,a,z2,z3,z4,z5,z6⟩ g1 g2 g4 g5,g3,w3,w4,w5,g6,w2⟩
theorem zie {fuel:Nat} {cs:List Value} {y:DataW H × List MemPlace} (h:DataW.trod enc Tryz.prog W base spare held fuel 31 cs=some y) :
 ∃(A:Option Addr) (zs:List LtS) (c:Nat),cs=[.slice A zs.length c]∧zs.length≤c∧Kd.C k62 W A zs.length zs∧∀x ∈ zs,inL x :=
 z9i k62 z62 Tryz.underlying31 zk0 (fun n cs y hy=>zkh hy) h
theorem zhg {fuel:Nat} {cs:List Value} {y:DataW H × List MemPlace} (h:DataW.trod enc Tryz.prog W base spare held fuel 33 cs=some y) :
 ∃x:RlS,Kd.K k33 W x cs∧inR x:=by
 have hl:=z57 Tryz.underlying33 h zku
 match cs,hl with
 |[c0,c1,c2,c3],_ =>
  obtain⟨n0,y0,t0⟩:=z2r Tryz.underlying33 h 0 rfl zcp;obtain⟨n1,y1,t1⟩:=z2r Tryz.underlying33 h 1 rfl zgk;obtain⟨n2,y2,t2⟩:=z2r Tryz.underlying33 h 2 rfl cellsLs;obtain⟨a,A0,q0,e0,g1,g2,g3⟩:=z93 t0;obtain⟨z1,e1,_,w1⟩:=DataW.trod_int Tryz.underlying3 t1;obtain⟨A2,z2,q2,e2,g4,g5,g6⟩:=zie t2;have E0:[c0,c1]=[.string a.f0,.slice A0 a.f1.length q0]:=e0;obtain rfl:=z5p (show[c2]=[.int .i64 z1]from e1);obtain rfl:=z5p (show[c3]=[.slice A2 z2.length q2]from e2);have e:[c0,c1,Value.int .i64 z1,.slice A2 z2.length q2]=[c0,c1]++([Value.int .i64 z1]++[.slice A2 z2.length q2]):=rfl;rw[e,E0];exact⟨⟨a,z1,z2⟩,k33_mk W ⟨a,z1,z2⟩ g1 g2 g4 g5,g3,g6⟩
set_option maxRecDepth 100000 in
theorem zdy {v:Value} {b0:Nat} {r:Reach} {d:DataW H} {p:List MemPlace} (hv:Value.okWide Tryz.prog W r b0 27 v) (h:DataW.Trod enc Tryz.prog W base spare held 27 v d p) :
 ∃(A:Option Addr) (rs:List RlS) (c:Nat) (q:AtS) (B:Option Addr) (e:Nat),v=.agg #[.slice A rs.length c,.string q.f0,.slice B q.f1.length e]∧rs.length≤c∧Kd.C k33 W A rs.length rs∧q.f1.length≤e∧Kd.C k60 W B q.f1.length q.f1∧(∀x ∈ rs,inR x)∧∀t ∈ q.f1,inT t:=by
 obtain⟨cs,rfl,hsz⟩:=okWide_struct Tryz.underlying27 hv;obtain⟨fuel,h⟩:=h;have h:DataW.trod enc Tryz.prog W base spare held fuel 27 cs.toList=some (d,p):=h;have hl:=z57 Tryz.underlying27 h zka;obtain⟨c0,c1,c2,rfl⟩:=array3 (hsz.trans zka);obtain⟨n0,y0,t0⟩:=z2r Tryz.underlying27 h 0 rfl cellsRs;obtain⟨n1,y1,t1⟩:=z2r Tryz.underlying27 h 1 rfl zcp;obtain⟨A,rs,c,e0,g1,g2,g3⟩:=z9i (P:=Tryz.prog) k33 z33 Tryz.underlying22 zku (fun n cs y hy=>zhg hy) t0;obtain⟨q,B,e,e1,g4,g5,g6⟩:=z93 t1;obtain rfl:=z5p (show[c0]=[.slice A rs.length c]from e0);have e5:[c1,c2]=[.string q.f0,.slice B q.f1.length e]:=e1;obtain⟨rfl,e6⟩:=List.cons.inj e5;obtain rfl:=z5p e6;exact⟨A,rs,c,q,B,e,rfl,g1,g2,g4,g5,g3,g6⟩
end
end Go.Proofs.YthebhbomlllpeaaGreatDoor.X
namespace Go.Proofs.YthebhbomlllpeaaGreatDoor.X
theorem zap (nm vl:List UInt8→Bool) (c:UInt8) (r:List UInt8) (h:z2x c=true):nextN nm vl (c::r)=none:=by
 have h2:twoB (c::r)=false:=by
  cases r with
  |nil=>simp[twoB]
  |cons d r =>
   unfold twoB;simp only[List.take_succ_cons,List.take_zero];rcases zco h with rfl|rfl|rfl <;> simp
 have h3:valB c r=false:=by
  unfold valB;rcases zco h with rfl|rfl|rfl <;> simp[z16]
 have h1:z1a c=false∧z1f c=false∧oneB c=false:=by rcases zco h with rfl|rfl|rfl <;> decide
 simp only[nextN,h1.1,h1.2.1,h1.2.2,h2,h3,Bool.false_eq_true,if_false]
def covT (nm vl:List UInt8→Bool) (full:List UInt8):Nat→List (Nat × Nat × Nat)→Prop
 |a,[]=>∀i (h:i<full.length),a≤i→z2x full[i]=true
 |a,x::l=>a≤x.2.1∧1≤x.2.2∧x.2.1+x.2.2≤full.length∧1≤x.1∧x.1≤4∧nextN nm vl (full.drop x.2.1)=some (x.1,x.2.2)∧(∀i (h:i<full.length),a≤i→i<x.2.1→z2x full[i]=true)∧covT nm vl full (x.2.1+x.2.2) l
theorem cov_back {nm vl:List UInt8→Bool} {full:List UInt8} {a:Nat} {l:List (Nat × Nat × Nat)} (ha:∀h:a<full.length,z2x full[a]=true) (h:covT nm vl full (a+1) l):covT nm vl full a l:=by
 cases l with
 |nil =>
  intro i hi hai
  by_cases e:a=i
  · subst e;exact ha hi
  · exact h i hi (by omega)
 |cons x l =>
  obtain⟨h1,h2,h3,h4,h5,h6,h7,h8⟩:=h;refine⟨by omega,h2,h3,h4,h5,h6,?_,h8⟩;intro i hi hai hix
  by_cases e:a=i
  · subst e;exact ha hi
  · exact h7 i hi (by omega) hix
theorem tok_cov (nm vl:List UInt8→Bool) (full:List UInt8):∀(d a:Nat) (l:List (Nat × Nat × Nat)),(full.drop a).length≤d→tokN nm vl a (full.drop a)=.ok l→covT nm vl full a l:=by
 intro d
 induction d with
 |zero =>
  intro a l h ht;have hn:full.drop a=[]:=List.length_eq_zero_iff.1 (by omega);rw[hn,zaf]at ht;injection ht with ht
  subst ht;intro i hi hai;rw[List.length_drop]at h;omega
 |succ d ih =>
  intro a l h ht
  by_cases hl:a<full.length
  · have hd:full.drop a=full[a]::full.drop (a+1):=List.drop_eq_getElem_cons hl
    cases hb:z2x full[a]with
    |true =>
     rw[hd,z9p nm vl a _ _ hb]at ht;exact cov_back (fun _=>hb) (ih (a+1) l (by rw[List.length_drop]at h ⊢;omega) ht)
    |false =>
     cases hm:nextN nm vl (full[a]::full.drop (a+1))with
     |none=>rw[hd,z9o nm vl a _ _ hb hm]at ht;cases ht
     |some y =>
      obtain⟨k,n⟩:=y;have hp:=z67 hm;rw[hd,zci nm vl a _ _ hb k n hm,←hd,List.drop_drop]at ht
      cases hr:tokN nm vl (a+n) (full.drop (a+n))with
      |error i=>rw[hr]at ht;cases ht
      |ok m =>
       rw[hr]at ht;injection ht with ht
       subst ht;rw[←hd]at hp hm;rw[List.length_drop]at hp h;exact⟨Nat.le_refl _,hp.1,by show a+n≤full.length;omega,hp.2.2.1,hp.2.2.2,hm,fun i hi h1 h2=>absurd h2 (Nat.not_lt.2 h1),ih (a+n) m (by rw[List.length_drop];omega) hr⟩
  · have hn:full.drop a=[]:=List.drop_eq_nil_of_le (by omega);rw[hn,zaf]at ht;injection ht with ht
    subst ht;intro i hi hai;omega
theorem zd5 (nm vl:List UInt8→Bool):∀(d:Nat) (s:List UInt8) (a:Nat) (l:List (Nat × Nat × Nat)),s.length≤d→tokN nm vl a s=.ok l→l.length≤s.length:=by
 intro d
 induction d with
 |zero =>
  intro s a l h ht;obtain rfl:s=[]:=List.length_eq_zero_iff.1 (by omega);rw[zaf]at ht;injection ht with ht
  subst ht;exact Nat.le_refl _
 |succ d ih =>
  intro s a l h ht
  cases s with
  |nil=>rw[zaf]at ht;injection ht with ht;subst ht;exact Nat.le_refl _
  |cons c r =>
   simp only[List.length_cons]at h ⊢
   cases hb:z2x c with
   |true =>
    rw[z9p nm vl a c r hb]at ht;have:=ih r (a+1) l (by omega) ht;omega
   |false =>
    cases hm:nextN nm vl (c::r)with
    |none=>rw[z9o nm vl a c r hb hm]at ht;cases ht
    |some y =>
     obtain⟨k,n⟩:=y;have hp:=z67 hm;rw[zci nm vl a c r hb k n hm]at ht
     cases hr:tokN nm vl (a+n) ((c::r).drop n)with
     |error j=>rw[hr]at ht;cases ht
     |ok m =>
      rw[hr]at ht;injection ht with ht
      subst ht;have:=ih _ _ _ zA0j hr;simp only[List.length_drop,List.length_cons]at this hp ⊢;omega
theorem zj0 {nm vl:List UInt8→Bool} {c:UInt8} {r:List UInt8} {n:Nat} (h:nextN nm vl (c::r)=some (1,n)):z1a c=true∧runN lowB (c::r)=n∧nm ((c::r).take n)=true:=by
 simp only[nextN]at h
 split at h
 · rename_i hs
   split at h
   · rename_i hn;injection h with h;injection h with e1 e2
     rw[e2]at hn;exact⟨hs,e2,hn⟩
   · cases h
 · split at h
   · split at h <;> cases h
   · split at h
     · split at h <;> cases h
     · split at h
       · cases h
       · split at h <;> cases h
theorem low_sign {c:UInt8} (h:lowB c=true):signB c=true:=by unfold signB;rw[h];rfl
theorem zjg {c:UInt8} (h:z16 c=true):lowB c=true:=by unfold lowB;rw[h];simp
theorem zhy {c:UInt8} (h:z1f c=true):signB c=true:=by unfold signB;rw[h];simp
theorem zk5 {nm vl:List UInt8→Bool} {c:UInt8} {r:List UInt8} {x:Nat × Nat} (h:nextN nm vl (c::r)=some x):z2x c=false:=by
 cases hb:z2x c with
 |false=>rfl
 |true=>rw[zap nm vl c r hb]at h;cases h

def toksF (nm vl:List UInt8→Bool):Nat→List UInt8→Option (List (Int × ByteArray))
 |0,_=>some []
 |_+1,[]=>some []
 |d+1,c::r =>
  if z2x c then toksF nm vl d r
  else match nextN nm vl (c::r)with
   |none=>none
   |some (k,n)=>(toksF nm vl d ((c::r).drop n)).map fun l=>((k:Int),(⟨((c::r).take n).toArray⟩:ByteArray))::l
def toksO (nm vl:List UInt8→Bool) (s:List UInt8):Option (List (Int × ByteArray)):=toksF nm vl s.length s
theorem z94 (nm vl:List UInt8→Bool):∀(d d':Nat) (s:List UInt8),s.length≤d→s.length≤d'→toksF nm vl d s=toksF nm vl d' s
 |0,0,_,_,_=>rfl
 |0,d'+1,[],_,_=>rfl
 |d+1,0,[],_,_=>rfl
 |d+1,d'+1,[],_,_=>rfl
 |0,_,_::_,h,_=>by simp at h
 |_,0,_::_,_,h=>by simp at h
 |d+1,d'+1,c::r,h,h'=>by
  simp only[List.length_cons]at h h';simp only[toksF]
  split
  · exact z94 nm vl d d' r (by omega) (by omega)
  · cases hn:nextN nm vl (c::r)with
    |none=>rfl
    |some x =>
     obtain⟨k,n⟩:=x;have hp:=z67 hn;simp only;rw[z94 nm vl d d' ((c::r).drop n) zA0j zA0j]
def cutT (full:List UInt8) (x:Nat × Nat × Nat):Int × ByteArray:=((x.1:Int),⟨((full.drop x.2.1).take x.2.2).toArray⟩)
theorem zcx (nm vl:List UInt8→Bool) (full:List UInt8):∀(d a:Nat),toksF nm vl d (full.drop a)=(match tokF nm vl d a (full.drop a)with
 |.error _=>none
 |.ok l=>some (l.map (cutT full)))
 |0,a=>by cases full.drop a <;> rfl
 |d+1,a=>by
  cases hs:full.drop a with
  |nil=>rfl
  |cons c r =>
   have hr:full.drop (a+1)=r:=by rw[←List.drop_drop,hs];rfl
   simp only[toksF,tokF]
   split
   · rw[←hr];exact zcx nm vl full d (a+1)
   · cases hn:nextN nm vl (c::r)with
     |none=>rfl
     |some x =>
      obtain⟨k,n⟩:=x;simp only;have hd:(c::r).drop n=full.drop (a+n):=by rw[←hs,List.drop_drop]
      rw[hd,zcx nm vl full d (a+n)]
      cases tokF nm vl d (a+n) (full.drop (a+n))with
      |error i=>rfl
      |ok l =>
       simp only[Option.map_some,List.map_cons];rw[cutT];simp only[hs]
theorem toksO_of (nm vl:List UInt8→Bool) (s:List UInt8):toksO nm vl s=(match tokN nm vl 0 s with
 |.error _=>none
 |.ok l=>some (l.map (cutT s))):=zcx nm vl s s.length 0
theorem z7j (nm vl:List UInt8→Bool):toksO nm vl []=some []:=rfl
theorem z97 (nm vl:List UInt8→Bool) {c:UInt8} (r:List UInt8) (h:z2x c=true):toksO nm vl (c::r)=toksO nm vl r:=by
 unfold toksO;rw[List.length_cons];simp only[toksF,h,if_true]
theorem zbo {nm vl:List UInt8→Bool} {c:UInt8} {r:List UInt8} (h:z2x c=false) (hn:nextN nm vl (c::r)=none):toksO nm vl (c::r)=none:=by
 unfold toksO;rw[List.length_cons];simp only[toksF,h,Bool.false_eq_true,if_false,hn]
theorem z6p {nm vl:List UInt8→Bool} {c:UInt8} {r:List UInt8} (h:z2x c=false) {k n:Nat} (hn:nextN nm vl (c::r)=some (k,n)) :
 toksO nm vl (c::r)=(toksO nm vl ((c::r).drop n)).map fun l=>((k:Int),(⟨((c::r).take n).toArray⟩:ByteArray))::l:=by
 have hp:=z67 hn;unfold toksO;rw[List.length_cons];simp only[toksF,h,Bool.false_eq_true,if_false,hn];rw[z94 nm vl r.length ((c::r).drop n).length _ zA0j (Nat.le_refl _)]
def sepB (x:UInt8):Bool:=!signB x&&(x !=61&&x !=45)
theorem sep_is {x:UInt8} (h:sepB x=true):lowB x=false∧signB x=false∧z16 x=false∧x≠61∧x≠45:=by
 unfold sepB at h;simp only[Bool.and_eq_true,Bool.not_eq_true',bne_iff_ne,ne_eq]at h;obtain⟨h1,h2,h3⟩:=h;have h4:lowB x=false:=by
  unfold signB at h1;rw[Bool.or_eq_false_iff]at h1;exact h1.1
 refine⟨h4,h1,?_,h2,h3⟩;unfold lowB at h4;simp only[Bool.or_eq_false_iff]at h4;exact h4.1.2
theorem next_sep (nm vl:List UInt8→Bool) (x:UInt8) (hx:sepB x=true) (b s:List UInt8) (hs:s≠[]):nextN nm vl (s++x::b)=nextN nm vl s:=by
 obtain⟨h1,h2,h3,h61,h45⟩:=sep_is hx
 cases s with
 |nil=>exact absurd rfl hs
 |cons c r =>
  have e1:runN lowB (c::r++x::b)=runN lowB (c::r):=z8j _ x b h1 (c::r);have e2:runN signB (c::r++x::b)=runN signB (c::r):=z8j _ x b h2 (c::r);have e3:runN signB (r++x::b)=runN signB r:=z8j _ x b h2 r;have e4:z8g (r++x::b)=z8g r:=by
   cases r with
   |nil=>exact h3
   |cons d r=>rfl
  have e5:valB c (r++x::b)=valB c r:=by unfold valB;rw[e4]
  have e6:twoB (c::r++x::b)=twoB (c::r):=by
   cases r with
   |nil =>
    unfold twoB;simp only[List.cons_append,List.nil_append,List.take_succ_cons,List.take_zero,List.take_nil]
    simp[h61,h45]
   |cons d r=>rfl
  have t1:(c::r++x::b).take (runN lowB (c::r))=(c::r).take (runN lowB (c::r)):=List.take_append_of_le_length (z48 _ _);have t2:(c::r++x::b).take (1+runN signB r)=(c::r).take (1+runN signB r):=List.take_append_of_le_length (by have:=z48 signB r;simp;omega);simp only[List.cons_append]at e1 e2 e6 t1 t2 ⊢;simp only[nextN,e1,e2,e3,e5,e6,t1,t2]
theorem zc7 (nm vl:List UInt8→Bool) {x:UInt8} (hx:sepB x=true) (b:List UInt8):∀(d:Nat) (s:List UInt8),s.length≤d →
 toksO nm vl (s++x::b)=(toksO nm vl s).bind fun l=>(toksO nm vl (x::b)).map fun m=>l++m
 |d,[],h=>by
  rw[List.nil_append,z7j,Option.bind_some]
  cases toksO nm vl (x::b) <;> rfl
 |0,c::r,h=>by simp at h
 |d+1,c::r,h=>by
  simp only[List.length_cons]at h
  cases hb:z2x c with
  |true=>rw[List.cons_append,z97 nm vl _ hb,z97 nm vl r hb,zc7 nm vl hx b d r (by omega)]
  |false =>
   have hn:=next_sep nm vl x hx b (c::r) (by simp)
   cases hm:nextN nm vl (c::r)with
   |none =>
    rw[zbo hb hm];rw[List.cons_append]at hn ⊢;rw[zbo hb (hn.trans hm)];rfl
   |some y =>
    obtain⟨k,n⟩:=y;have hp:=z67 hm;rw[z6p hb hm];rw[List.cons_append]at hn ⊢;rw[z6p hb (hn.trans hm)];have e:(c::(r++x::b)).drop n=(c::r).drop n++x::b:=by
     rw[←List.cons_append,List.drop_append_of_le_length hp.2.1]
    have e2:(c::(r++x::b)).take n=(c::r).take n:=by
     rw[←List.cons_append,List.take_append_of_le_length hp.2.1]
    rw[e,e2,zc7 nm vl hx b d ((c::r).drop n) zA0j]
    cases toksO nm vl ((c::r).drop n)with
    |none=>rfl
    |some l=>cases toksO nm vl (x::b) <;> rfl
theorem z59 {nm vl:List UInt8→Bool} {x:UInt8} (hx:sepB x=true) {s b:List UInt8} {l m:List (Int × ByteArray)} (hs:toksO nm vl s=some l) (hb:toksO nm vl (x::b)=some m):toksO nm vl (s++x::b)=some (l++m):=by
 rw[zc7 nm vl hx b _ s (Nat.le_refl _),hs,hb];rfl
def markB (m:UInt8):Bool:=[40,41,44,46,47,124,42,43,94].contains m
abbrev mkT (m:UInt8):Int × ByteArray:=(4,⟨#[m]⟩)
theorem zkd {m:UInt8} (h:markB m=true):m=40∨m=41∨m=44∨m=46∨m=47∨m=124∨m=42∨m=43∨m=94:=by
 unfold markB at h
 simpa using h
theorem zi2 (nm vl:List UInt8→Bool) {m:UInt8} (hm:markB m=true) (b:List UInt8):nextN nm vl (m::b)=some (4,1)∧z2x m=false:=by
 have go:∀m:UInt8,z1a m=false→z1f m=false→z16 m=false→m≠35→m≠45→m≠60→m≠33→m≠58→m≠63→oneB m=true→nextN nm vl (m::b)=some (4,1):=fun m h1 h2 h3 h4 h5 h6 h7 h8 h9 h10=>by
  have hv:valB m b=false:=by unfold valB;simp[h3,h4,h5]
  have ht:twoB (m::b)=false:=by unfold twoB;cases b <;> simp[h6,h7,h8,h9]
  simp only[nextN,h1,h2,hv,ht,h10,Bool.false_eq_true,if_false,if_true]
 rcases zkd hm with rfl|rfl|rfl|rfl|rfl|rfl|rfl|rfl|rfl
 all_goals exact⟨go _ (by decide) (by decide) (by decide) (by decide) (by decide) (by decide) (by decide) (by decide) (by decide) (by decide),by decide⟩
theorem z2i {nm vl:List UInt8→Bool} {m:UInt8} (hm:markB m=true) {b:List UInt8} {l:List (Int × ByteArray)} (hb:toksO nm vl b=some l):toksO nm vl (m::b)=some (mkT m::l):=by
 obtain⟨h1,h2⟩:=zi2 nm vl hm b;rw[z6p h2 h1];show(toksO nm vl b).map _=_;rw[hb];rfl
theorem zc3 {m:UInt8} (hm:markB m=true):sepB m=true:=by
 rcases zkd hm with rfl|rfl|rfl|rfl|rfl|rfl|rfl|rfl|rfl <;> decide
theorem zhf (nm vl:List UInt8→Bool):toksO nm vl [63]=some [mkT 63]:=by
 have h:nextN nm vl [63]=some (4,1):=by
  simp only[nextN,show z1a 63=false by decide,show z1f 63=false by decide,show valB 63 []=false by decide,show twoB [63]=false by decide,show oneB 63=true by decide,Bool.false_eq_true,if_false,if_true]
 rw[z6p (by decide) h];rfl
theorem z9e {nm vl:List UInt8→Bool} {s:List UInt8} {k:Nat} (h:nextN nm vl s=some (k,s.length)):toksO nm vl s=some [((k:Int),⟨s.toArray⟩)]:=by
 cases s with
 |nil=>cases h
 |cons c r =>
  rw[z6p (zk5 h) h,List.drop_length,z7j,List.take_length];rfl

def Loc {α:Type} (m:Nat) (p:Prs α):Prop:=∀l x r,p l=.ok (x,r)→∃u,l=u++r∧m≤u.length∧∀r',r'.head?=r.head?→p (u++r')=.ok (x,r')
theorem Loc.le {α:Type} {m n:Nat} {p:Prs α} (h:Loc m p) (hn:n≤m):Loc n p:=fun l x r hp=>by
 obtain⟨u,e,hm,hu⟩:=h l x r hp;exact⟨u,e,Nat.le_trans hn hm,hu⟩
theorem z7i {α:Type} (u:List α) {r r':List α} (h:r'.head?=r.head?):(u++r').head?=(u++r).head?:=by
 cases u with
 |nil=>exact h
 |cons t u=>rfl
theorem zfw {l l':List TK} (h:l'.head?=l.head?) (s:List UInt8):mk0 l' s=mk0 l s:=by
 cases l <;> cases l' <;> simp_all [mk0]
theorem zcm {l:List TK} {s:List UInt8} (h:mk0 l s=true):∃t r,l=t::r∧isT t 4 s=true:=by
 cases l with
 |nil=>cases h
 |cons t r=>exact⟨t,r,rfl,h⟩
theorem z8r:Loc 1 z1m:=fun l x r h=>by
 cases l with
 |nil=>cases h
 |cons t l =>
  simp only[z1m]at h
  split at h
  · rename_i hp;injection h with h;injection h with e1 e2
    subst e1;subst e2;exact⟨[t],rfl,by simp,fun r' _=>by simp only[List.singleton_append,z1m,hp,if_true]⟩
  · cases h
theorem loc_want (s:List UInt8):Loc 1 (wantP s):=fun l x r h=>by
 unfold wantP at h
 split at h
 · rename_i hm;obtain⟨t,l',rfl,ht⟩:=zcm hm;injection h with h;injection h with e1 e2
   refine⟨[t],by rw[←e2];rfl,by simp,fun r' _=>?_⟩;unfold wantP;rw[if_pos (by exact ht)];rfl
 · cases h
theorem z6v {α β:Type} {p:Except (Nat × Int) (α × List TK)} {f:α→List TK→Except (Nat × Int) β} {y:β} (h:bnd p f=.ok y):∃x r,p=.ok (x,r)∧f x r=.ok y:=by
 cases p with
 |error e=>cases h
 |ok q=>exact⟨q.1,q.2,rfl,h⟩
theorem z2z {α β:Type} {p:Except (Nat × Int) (α × List TK)} {f:α→List TK→Except (Nat × Int) β} {x:α} {r:List TK} (h:p=.ok (x,r)):bnd p f=f x r:=by rw[h];rfl
theorem z3m {α β:Type} {p:Except (Nat × Int) (α × List TK)} {f:α→List TK→Except (Nat × Int) β} {e:Nat × Int} (h:p=.error e):bnd p f=.error e:=by rw[h];rfl
theorem Loc.bind {α β:Type} {m n:Nat} {p:Prs α} {f:α→Prs β} (hp:Loc m p) (hf:∀x,Loc n (f x)):Loc (m+n) (fun l=>bnd (p l) f):=fun l y r h=>by
 obtain⟨x,r1,h1,h2⟩:=z6v h;obtain⟨u,e,hm,hu⟩:=hp l x r1 h1;obtain⟨v,e',hn,hv⟩:=hf x r1 y r h2;refine⟨u++v,by rw[e,e',List.append_assoc],by rw[List.length_append];omega,fun r' hr=>?_⟩;have:=hu (v++r') (by rw[e'];exact z7i v hr);simp only;rw[List.append_assoc,z2z this];exact hv r' hr
theorem Loc.bind' {α β:Type} {m:Nat} {p:Prs α} {f:α→Prs β} (hp:Loc m p) (hf:∀x,Loc 0 (f x)):Loc m (fun l=>bnd (p l) f):=Loc.bind hp hf
theorem Loc.pure {α:Type} (x:α):Loc 0 (fun l=>.ok (x,l)):=fun l y r h=>by
 injection h with h;injection h with e1 e2
 subst e1;subst e2;exact⟨[],rfl,Nat.le_refl _,fun r' _=>rfl⟩
theorem Loc.err {α:Type} (m:Nat) (f:List TK→Nat × Int):Loc m (fun l=>(.error (f l):Except (Nat × Int) (α × List TK))):=fun l x r h=>by cases h
theorem Loc.ite {α:Type} {m:Nat} {p q:Prs α} (b:List TK→Bool) (hb:∀l l',l'.head?=l.head?→b l'=b l) (hp:Loc m p) (hq:Loc m q):Loc m (fun l=>if b l then p l else q l):=fun l x r h=>by
 simp only at h
 split at h
 · rename_i hc;obtain⟨u,e,hm,hu⟩:=hp l x r h;refine⟨u,e,hm,fun r' hr=>?_⟩;simp only;rw[hb l (u++r') (by rw[e];exact z7i u hr),if_pos hc];exact hu r' hr
 · rename_i hc;obtain⟨u,e,hm,hu⟩:=hq l x r h;refine⟨u,e,hm,fun r' hr=>?_⟩;simp only;rw[hb l (u++r') (by rw[e];exact z7i u hr),if_neg hc];exact hu r' hr
theorem Loc.skip {α:Type} {m:Nat} {p:Prs α} (b:List TK→Bool) (hb:∀l l',l'.head?=l.head?→b l'=b l) (h0:b []=false) {q:Prs α} (hp:Loc m p) (hq:Loc (m+1) q):Loc (m+1) (fun l=>if b l then p (l.drop 1)else q l):=fun l x r h=>by
 simp only at h
 split at h
 · rename_i hc
   cases l with
   |nil=>rw[h0]at hc;cases hc
   |cons t l =>
    obtain⟨u,e,hm,hu⟩:=hp _ x r h;refine⟨t::u,by rw[List.cons_append,←e];rfl,by simp;omega,fun r' hr=>?_⟩;simp only;rw[hb (t::l) (t::u++r') rfl,if_pos hc];exact hu r' hr
 · rename_i hc;obtain⟨u,e,hm,hu⟩:=hq l x r h;refine⟨u,e,hm,fun r' hr=>?_⟩;simp only;rw[hb l (u++r') (by rw[e];exact z7i u hr),if_neg hc];exact hu r' hr
theorem zk7 (s:List UInt8):∀l l':List TK,l'.head?=l.head?→mk0 l' s=mk0 l s:=fun l l' h=>zfw h s
theorem zd7 {t:TK}:(isT t 4 [42]=false∧isT t 4 [43]=false∧isT t 4 [63]=false)→∀r,z14 (t::r)=([],t::r):=fun h r=>by
 simp only[z14,h.1,h.2.1,h.2.2,Bool.false_eq_true,if_false]
theorem zkp:Loc 0 (fun l=>.ok (z14 l)):=fun l=>by
 induction l with
 |nil =>
  intro x r h;injection h with h
  have e1:x=[]:=(congrArg Prod.fst h).symm;have e2:r=[]:=(congrArg Prod.snd h).symm;subst e1;subst e2;refine⟨[],rfl,Nat.le_refl _,fun r' hr=>?_⟩
  cases r' with
  |nil=>rfl
  |cons t r'=>cases hr
 |cons t l ih =>
  intro x r h;injection h with h
  simp only[z14]at h;have go:∀(k:Int) (s:List UInt8),isT t 4 s=true→(∀l',z14 (t::l')=(stepS k::(z14 l').1,(z14 l').2))→(stepS k::(z14 l).1,(z14 l).2)=(x,r) →
   ∃u,t::l=u++r∧0≤u.length∧∀r',r'.head?=r.head?→(Except.ok (z14 (u++r')):Except (Nat × Int) (List StS × List TK))=.ok (x,r'):=by
   intro k s hs hall he;injection he with e1 e2
   obtain⟨u,e,_,hu⟩:=ih (z14 l).1 (z14 l).2 rfl;subst e1;subst e2;refine⟨t::u,by rw[List.cons_append,←e],Nat.zero_le _,fun r' hr=>?_⟩;have:=hu r' hr;injection this with this
   rw[List.cons_append,hall,this]
  by_cases h1:isT t 4 [42]=true
  · rw[if_pos h1]at h;exact go 5 _ h1 (fun l'=>by simp only[z14,h1,if_true]) h
  · rw[if_neg h1]at h
    by_cases h2:isT t 4 [43]=true
    · rw[if_pos h2]at h;exact go 6 _ h2 (fun l'=>by simp only[z14];rw[if_neg h1,if_pos h2]) h
    · rw[if_neg h2]at h
      by_cases h3:isT t 4 [63]=true
      · rw[if_pos h3]at h;exact go 7 _ h3 (fun l'=>by simp only[z14];rw[if_neg h1,if_neg h2,if_pos h3]) h
      · rw[if_neg h3]at h;injection h with e1 e2
        subst e1;subst e2;refine⟨[],rfl,Nat.le_refl _,fun r' hr=>?_⟩
        cases r' with
        |nil=>cases hr
        |cons t' r' =>
         obtain rfl:t'=t:=by simpa using hr
         simp only[List.nil_append,z14];rw[if_neg h1,if_neg h2,if_neg h3]
theorem zdx {s:List UInt8} {k:Int} {one:Prs (List StS)} (h1:Loc 0 one):∀(n m:Nat) (acc:List StS) (l:List TK),l.length≤n→l.length≤m→rowL s k one n acc l=rowL s k one m acc l
 |0,0,acc,l,_,_=>rfl
 |0,m+1,acc,l,hn,_=>by
  obtain rfl:l=[]:=List.length_eq_zero_iff.1 (by omega)
  simp[rowL,mk0]
 |n+1,0,acc,l,_,hm=>by
  obtain rfl:l=[]:=List.length_eq_zero_iff.1 (by omega)
  simp[rowL,mk0]
 |n+1,m+1,acc,l,hn,hm=>by
  simp only[rowL]
  split
  · rename_i hk;obtain⟨t,l',rfl,_⟩:=zcm hk;have hd:(t::l').drop 1=l':=rfl;rw[hd]
    cases ho:one l' with
    |error e=>rfl
    |ok q =>
     obtain⟨x,r⟩:=q;obtain⟨u,e,_,_⟩:=h1 l' x r ho;have:r.length≤l'.length:=by rw[e,List.length_append];omega
     simp only[List.length_cons]at hn hm;exact zdx h1 n m _ r (by omega) (by omega)
  · rfl
theorem zgx {s:List UInt8} {k:Int} {one:Prs (List StS)} (h1:Loc 0 one):∀(n:Nat) (acc:List StS) (l:List TK) (x:List StS) (r:List TK),l.length≤n→rowL s k one n acc l=.ok (x,r) →
 ∃u,l=u++r∧∀r',r'.head?=r.head?→∀m,(u++r').length≤m→rowL s k one m acc (u++r')=.ok (x,r')
 |0,acc,l,x,r,hn,h=>by
  obtain rfl:l=[]:=List.length_eq_zero_iff.1 (by omega);simp only[rowL]at h;injection h with h;injection h with e1 e2
  subst e1;subst e2;refine⟨[],rfl,fun r' hr m hm=>?_⟩
  cases r' with
  |cons t r'=>cases hr
  |nil=>cases m <;> simp[rowL,mk0]
 |n+1,acc,l,x,r,hn,h=>by
  simp only[rowL]at h
  split at h
  · rename_i hk;obtain⟨t,l',rfl,ht⟩:=zcm hk;have hd:(t::l').drop 1=l':=rfl;rw[hd]at h;obtain⟨y,r1,ho,h⟩:=z6v h;obtain⟨u,e,_,hu⟩:=h1 l' y r1 ho;simp only[List.length_cons]at hn;obtain⟨v,e2,hv⟩:=zgx h1 n _ r1 x r (by
     have:r1.length≤l'.length:=by rw[e,List.length_append];omega
     omega) h
    refine⟨t::(u++v),by rw[e,e2,List.cons_append,List.append_assoc],fun r' hr m hm=>?_⟩;obtain⟨m,rfl⟩:∃j,m=j+1:=⟨m - 1,by simp at hm;omega⟩
    simp only[List.cons_append,rowL];have hk2:mk0 (t::(u++v++r')) s=true:=ht;rw[hk2,if_pos rfl];have hd2:(t::(u++v++r')).drop 1=u++(v++r'):=by rw[←List.append_assoc];rfl
    rw[hd2,z2z (hu (v++r') (by rw[e2];exact z7i v hr))];exact hv r' hr m (by simp only[List.length_append,List.length_cons]at hm ⊢;omega)
  · rename_i hk;injection h with h;injection h with e1 e2
    subst e1;subst e2;refine⟨[],rfl,fun r' hr m hm=>?_⟩;have hk2:¬mk0 r' s=true:=by rw[zfw hr];exact hk
    cases m with
    |zero=>rfl
    |succ m=>simp only[List.nil_append,rowL];rw[if_neg hk2]
theorem zcv {s:List UInt8} {k:Int} {one:Prs (List StS)} {m:Nat} (h1:Loc m one):Loc m (rowP s k one):=fun l x r h=>by
 have h0:=h1.le (Nat.zero_le _);unfold rowP at h;obtain⟨y,r1,ho,h⟩:=z6v h;obtain⟨u,e,hm,hu⟩:=h1 l y r1 ho;obtain⟨v,e2,hv⟩:=zgx h0 _ _ _ _ _ (Nat.le_refl _) h;refine⟨u++v,by rw[e,e2,List.append_assoc],by rw[List.length_append];omega,fun r' hr=>?_⟩;unfold rowP;rw[List.append_assoc,z2z (hu (v++r') (by rw[e2];exact z7i v hr))];exact hv r' hr _ (Nat.le_refl _)
theorem zj7 {part:Prs (List StS)} {m:Nat} (h:Loc m part):Loc m (pathW part):=zcv (zcv h)
theorem loc_base (inner:Option (Prs (List StS))) (h:∀p,inner=some p→Loc 0 p):Loc 1 (baseP inner):=by
 have hB:Loc 1 (fun l=>if mk0 l [94]then bnd (z1m (l.drop 1)) fun p r=>.ok ([⟨2,p⟩],r)else bnd (z1m l) fun p r=>.ok ([⟨1,p⟩],r):Prs (List StS)) :=
  Loc.skip (fun l=>mk0 l [94]) (zk7 [94]) rfl (p:=fun l=>bnd (z1m l) fun p r=>.ok ([(⟨2,p⟩:StS)],r)) ((Loc.bind' z8r (fun p=>Loc.pure _)).le (Nat.zero_le _)) (Loc.bind' z8r (fun p=>Loc.pure _))
 cases inner with
 |none=>exact Loc.ite (fun l=>mk0 l [40]) (zk7 [40]) (Loc.err 1 (fun l=>(l.length,3))) hB
 |some q =>
  exact Loc.skip (fun l=>mk0 l [40]) (zk7 [40]) rfl (p:=fun l=>bnd (q l) fun x r=>bnd (wantP [41] r) fun _ r=>.ok (x,r)) ((Loc.bind (h q rfl) (fun x=>Loc.bind' (loc_want [41]) (fun _=>Loc.pure _))).le (Nat.zero_le _)) hB
theorem ze8 (inner:Option (Prs (List StS))) (h:∀p,inner=some p→Loc 0 p):Loc 1 (partW inner) :=
 Loc.bind' (loc_base inner h) (fun x=>Loc.bind' (p:=fun l=>.ok (z14 l)) (f:=fun y r=>.ok (x++y,r)) zkp (fun y=>Loc.pure _))
theorem z8n:∀d,Loc 1 (partP d)
 |0=>ze8 none (fun p h=>by cases h)
 |d+1=>ze8 _ (fun p h=>by injection h with h;subst h;exact(zj7 (z8n d)).le (Nat.zero_le _))

def Gives {α:Type} (Q:TK→Prop) (P:α→Prop) (p:Prs α):Prop:=∀l x r,(∀t ∈ l,Q t)→p l=.ok (x,r)→P x∧∀t ∈ r,Q t
def deep1 (om:Nat × Nat) (s:List UInt8):Nat × Nat :=
 let o:=if s=[40]then om.1+1 else if s=[41]then om.1 - 1 else om.1
 (o,max om.2 o)
def deepF (om:Nat × Nat) (l:List (List UInt8)):Nat × Nat:=l.foldl deep1 om
def Deep (d:Nat) (u:List (List UInt8)):Prop:=∀o m,o≤m→∃m',deepF (o,m) u=(o,m')∧m≤m'∧m'≤max m (o+d)
theorem zcy (om:Nat × Nat) (a b:List (List UInt8)):deepF om (a++b)=deepF (deepF om a) b:=List.foldl_append
def txts (l:List TK):List (List UInt8):=l.map fun t=>t.2.data.toList
theorem isT_text {t:TK} {k:Int} {s:List UInt8} (h:isT t k s=true):t.1=k∧t.2.data.toList=s:=by
 unfold isT at h;simp only[Bool.and_eq_true,beq_iff_eq]at h;exact h
end Go.Proofs.YthebhbomlllpeaaGreatDoor.X
namespace Go.Proofs.YthebhbomlllpeaaGreatDoor.X
open Go.RowKit Go.Proofs.YthebhbomlllpeaaGreatDoorW.PrintWords Go.Proofs.YthebhbomlllpeaaGreatDoorW.PrintLast Go.Proofs.YthebhbomlllpeaaGreatDoorW.PrintMore
def TokC (w0:World) (A:Option Addr) (ts:List S108):Prop:=Kd.C k108 w0 A ts.length ts∧∀ad,A=some ad→ts≠[]→∃cells,w0.heap[ad.block]?=some (.cells cells 108 (0,0))
theorem TokC.far {w0 w1:World} {A:Option Addr} {ts:List S108} {m:Nat} (h:TokC w0 A ts) (hm:∀ad,A=some ad→ad.block≠m) (hk:z0k w0 w1 m none):TokC w1 A ts:=by
 refine⟨Kd.C_foot_ne (g:=m) (fun {W W' x cs} hx=>by rw[zen hx];exact k108_mk W' x) h.1 (fun ad he _=>hm ad he) w1 hk,fun ad he hn=>?_⟩;obtain⟨cells,hc⟩:=h.2 ad he hn;exact⟨cells,hk.blk hc (hm ad he) (by simp)⟩
theorem TokC.of_R {w0:World} {base:Nat} {ok:Nat→Prop} {A:Option Addr} {c:Nat} {ts:List S108} (h:Kd.R k108 108 w0 base ok (.slice A ts.length c) ts):TokC w0 A ts:=by
 refine⟨(Kd.R_reads' h).2.2,fun ad he hn=>?_⟩;subst he;obtain⟨h0,inner,ho,hr⟩:=h;rcases ho.2 with ⟨hv,hx⟩|⟨g,cap,cur,hv,hg,hh,r⟩
 · injection hv with h1 h2 h3;cases h1
 · injection hv with h1 h2 h3
   injection h1 with h1
   subst h1;exact⟨cur,hh⟩
def Rd (w0 W:World) (g:Nat) (ts:List S108) (p:Nat) (en:Int):Prop:=∃A c,W.heap[g]?=some (.cells #[.slice A ts.length c,.int .i64 p,.int .i64 en] 128 (0,0))∧w0.heap.size≤g∧TokC w0 A ts∧p≤ts.length∧ts.length≤20000
theorem Rd.grown {w0 W:World} {g:Nat} {ts:List S108} {p:Nat} {en:Int} {W1:World} {row:Option Nat} (h:Rd w0 W g ts p en) (hw:W.grownBy W1 row) (hne:some g≠row):Rd w0 W1 g ts p en:=by
 obtain⟨A,c,hb,hg,hr,hp,hl⟩:=h;exact⟨A,c,z3b hb hw hne,hg,hr,hp,hl⟩
theorem Rd.below {w0 W:World} {g:Nat} {ts:List S108} {p:Nat} {en:Int} {W1:World} (h:Rd w0 W g ts p en) (hw:Below W.heap.size W W1):Rd w0 W1 g ts p en:=h.grown (zaq hw none) (by simp)
theorem Rd.alloc {w0 W:World} {g:Nat} {ts:List S108} {p:Nat} {en:Int} (h:Rd w0 W g ts p en) (o:Obj):Rd w0 (W.alloc o) g ts p en:=h.below (z03 (Below.refl _ _) o)
theorem Rd.drewN {w0 W:World} {g:Nat} {ts:List S108} {p:Nat} {en:Int} (h:Rd w0 W g ts p en) (m:Nat):Rd w0 (W.drewN m) g ts p en:=h
theorem Rd.drew {w0 W:World} {g:Nat} {ts:List S108} {p:Nat} {en:Int} (h:Rd w0 W g ts p en):Rd w0 W.drew g ts p en:=h
theorem Rd.lt {w0 W:World} {g:Nat} {ts:List S108} {p:Nat} {en:Int} (h:Rd w0 W g ts p en):g<W.heap.size:=by
 obtain⟨A,c,hb,_⟩:=h;exact z26 hb
theorem Rd.ge {w0 W:World} {g:Nat} {ts:List S108} {p:Nat} {en:Int} (h:Rd w0 W g ts p en):w0.heap.size≤g:=by
 obtain⟨A,c,hb,hg,_⟩:=h;exact hg
theorem Rd.far {w0 W:World} {g:Nat} {ts:List S108} {p:Nat} {en:Int} {q:Addr} (h:Rd w0 W g ts p en) (hne:g≠q.block) (u:Value):Rd w0 (W.setCell q u) g ts p en:=by
 obtain⟨A,c,hb,hg,hr,hp,hl⟩:=h;exact⟨A,c,z11 hb hne u,hg,hr,hp,hl⟩
theorem Rd.move {w0 W:World} {g:Nat} {ts:List S108} {p:Nat} {en:Int} (h:Rd w0 W g ts p en) (q:Nat) (hq:q≤ts.length):Rd w0 (W.setCell ⟨g,1,none⟩ (.int .i64 q)) g ts q en:=by
 obtain⟨A,c,hb,hg,hr,hp,hl⟩:=h;exact⟨A,c,by simpa using z8w hb 1 (.int .i64 (q:Int)),hg,hr,hq,hl⟩
def seeP (ts:List S108) (en:Int) (i:Nat):S108:=ts.getD i ⟨0,⟨#[]⟩,en⟩
theorem zko {w0 w w1:World} {g n:Nat} {ts:List S108} {p:Nat} {en:Int} (x:S108) (hI:Rd w0 w1 g ts p en) (hB:Below w0.heap.size w0 w1) (hK:z0k w w1 g none) (hN:∃k s i,w1.heap[n]?=some (.cells #[.int .i64 k,.string s,.int .i64 i] 108 (0,0)))
 (hg:g≠n) (h0:w0.heap.size≤n) (h1:w.heap.size≤n):z00 ((((w1.setCell ⟨n,0,none⟩ (.int .i64 x.f0)).setCell ⟨n,1,none⟩ (.string x.f1)).setCell ⟨n,2,none⟩ (.int .i64 x.f2)).heap[n]?=some (.cells #[.int .i64 x.f0,.string x.f1,.int .i64 x.f2] 108 (0,0))) ∧
   z00 (Rd w0 (((w1.setCell ⟨n,0,none⟩ (.int .i64 x.f0)).setCell ⟨n,1,none⟩ (.string x.f1)).setCell ⟨n,2,none⟩ (.int .i64 x.f2)) g ts p en) ∧
   z00 (Below w0.heap.size w0 (((w1.setCell ⟨n,0,none⟩ (.int .i64 x.f0)).setCell ⟨n,1,none⟩ (.string x.f1)).setCell ⟨n,2,none⟩ (.int .i64 x.f2))) ∧
   z00 (z0k w (((w1.setCell ⟨n,0,none⟩ (.int .i64 x.f0)).setCell ⟨n,1,none⟩ (.string x.f1)).setCell ⟨n,2,none⟩ (.int .i64 x.f2)) g none):=by
 obtain⟨k,s,i,hN⟩:=hN;refine⟨⟨?_⟩,⟨Rd.far (Rd.far (Rd.far hI hg _) hg _) hg _⟩,⟨z06 (z06 (z06 hB h0) h0) h0⟩,⟨z41 (z41 (z41 hK h1 _) h1 _) h1 _⟩⟩;exact z0x (cs:=#[.int .i64 x.f0,.string x.f1,.int .i64 i]) (z0x (cs:=#[.int .i64 x.f0,.string s,.int .i64 i]) (z0x hN 0 (.int .i64 x.f0) rfl) 1 (.string x.f1) rfl) 2 (.int .i64 x.f2) rfl
set_option maxRecDepth 100000 in
theorem z29 (w0 w:World) (g:Nat) (ts:List S108) (p:Nat) (en:Int) (a:Nat) (ha:a≤1) (hI:Rd w0 w g ts p en) (hB:Below w0.heap.size w0 w) :
 Calls Tryz.prog 84 #[.pointer (some ⟨g,0,none⟩),.int .i64 a] w fun e w'=>e=.returned (.agg #[.int .i64 (seeP ts en (p+a)).f0,.string (seeP ts en (p+a)).f1,.int .i64 (seeP ts en (p+a)).f2])∧Rd w0 w' g ts p en∧Below w0.heap.size w0 w'∧z0k w w' g none:=by
 have hI1:=z00.mk (hI.alloc (.cells #[.int .i64 0,.string ⟨#[]⟩,.int .i64 0] 108));have hB1:=z00.mk (z03 hB (.cells #[.int .i64 0,.string ⟨#[]⟩,.int .i64 0] 108));have hK1:=z00.mk (z1k (z0k.refl w g none) (.cells #[.int .i64 0,.string ⟨#[]⟩,.int .i64 0] 108));have hN:=z0q w (.cells #[.int .i64 0,.string ⟨#[]⟩,.int .i64 0] 108);obtain⟨n,en'⟩:∃n,w.heap.size=n:=⟨_,rfl⟩
 have hgn:z00 (g≠n):=⟨by have:=hI.lt;omega⟩
 have h0n:z00 (w0.heap.size≤n):=⟨by rw[←en'];exact hB.size⟩
 have h1n:z00 (w.heap.size≤n):=⟨by omega⟩
 rw[en']at hN;obtain⟨A,c,hb,hg,hr,hp,hl⟩:=hI;have hG1:=z0c hb (.cells #[.int .i64 0,.string ⟨#[]⟩,.int .i64 0] 108);have hw:wrap64 ((p:Int)+(a:Int))=((p+a:Nat):Int):=by unfold wrap64;omega
 by_cases hc:ts.length≤p+a
 · have hs:seeP ts en (p+a)=⟨0,⟨#[]⟩,en⟩:=by
    unfold seeP;rw[List.getD_eq_getElem?_getD,List.getElem?_eq_none hc];rfl
   rw[hs];clear hB hb;go_enter Tryz.func84,Tryz.ntmps84
   go_wp2_with fail
   generalize w.alloc (.cells #[.int .i64 0,.string ⟨#[]⟩,.int .i64 0] 108)=w1 at hI1 hB1 hK1 hG1 hN ⊢
   have hc0:w1.cell? ⟨g,0,none⟩=some (.slice A ts.length c):=(z01 hG1 0).trans rfl;have hc1:w1.cell? ⟨g,1,none⟩=some (.int .i64 p):=(z01 hG1 1).trans rfl;have hc2:w1.cell? ⟨g,2,none⟩=some (.int .i64 en):=(z01 hG1 2).trans rfl;have hd0:w1.cell? ⟨n,0,none⟩=some (.int .i64 0):=(z01 hN 0).trans rfl;have hd1:w1.cell? ⟨n,1,none⟩=some (.string ⟨#[]⟩):=(z01 hN 1).trans rfl;have hd2:w1.cell? ⟨n,2,none⟩=some (.int .i64 0):=(z01 hN 2).trans rfl;have hf0:=z02 hN 0;have hf1:=z02 hN 1;have hf2:=z02 hN 2;have HN:=z00.mk hN;clear hN hG1
   go_quiet (fail)
   try go_wp2
   obtain⟨P1,P2,P3,P4⟩:=zko (n:=n) ⟨0,⟨#[]⟩,en⟩ (hI1.out.drewN nq) (z04 hB1.out nq) (z8z hK1.out nq) ⟨_,_,_,z0f HN.out nq⟩ hgn.out h0n.out h1n.out;refine bodyPost_ret (results_cell_row rfl _ _ n 108 #[.int .i64 0,.string ⟨#[]⟩,.int .i64 en] (0,0) _ rfl P1.out Tryz.underlying108 rfl (by kernel_rfl)) rfl ?_;exact⟨rfl,P2.out,P3.out,P4.out⟩
 · have hi:p+a<ts.length:=by omega
   have hs:seeP ts en (p+a)=z2g ts ((p:Int)+(a:Int)):=by
    unfold seeP z2g;rw[show((p:Int)+(a:Int)).toNat=p+a by omega,List.getD_eq_getElem?_getD,List.getD_eq_getElem?_getD,List.getElem?_eq_getElem hi];rfl
   rw[hs];obtain⟨ad,rfl,hx0,hx1,hx2⟩:=za8 hr.1 ((p:Int)+(a:Int)) (by omega) (by omega);have hx0:=z07 hB1.out hx0;have hx1:=z07 hB1.out hx1;have hx2:=z07 hB1.out hx2
   generalize z2g ts ((p:Int)+(a:Int))=x at hx0 hx1 hx2 ⊢
   clear hB hb hs;go_enter Tryz.func84,Tryz.ntmps84
   go_wp2_with fail
   generalize w.alloc (.cells #[.int .i64 0,.string ⟨#[]⟩,.int .i64 0] 108)=w1 at hI1 hB1 hK1 hG1 hN hx0 hx1 hx2 ⊢
   have hc0:w1.cell? ⟨g,0,none⟩=some (.slice (some ad) ts.length c):=(z01 hG1 0).trans rfl;have hc1:w1.cell? ⟨g,1,none⟩=some (.int .i64 p):=(z01 hG1 1).trans rfl;have hd0:w1.cell? ⟨n,0,none⟩=some (.int .i64 0):=(z01 hN 0).trans rfl;have hd1:w1.cell? ⟨n,1,none⟩=some (.string ⟨#[]⟩):=(z01 hN 1).trans rfl;have hd2:w1.cell? ⟨n,2,none⟩=some (.int .i64 0):=(z01 hN 2).trans rfl;have hf0:=z02 hN 0;have hf1:=z02 hN 1;have hf2:=z02 hN 2;have HN:=z00.mk hN;clear hN hG1
   go_quiet (fail)
   try go_wp2
   replace hI1:=z00.mk (hI1.out.drewN nq);replace hB1:=z00.mk (z04 hB1.out nq);replace hK1:=z00.mk (z8z hK1.out nq);replace HN:=z00.mk (z0f HN.out nq);replace hx0:(w1.drewN nq).drew.cell? (ad.add (((p:Int)+(a:Int)).toNat * 3))=_:=hx0;replace hx1:(w1.drewN nq).drew.cell? ⟨(ad.add (((p:Int)+(a:Int)).toNat * 3)).block,(ad.add (((p:Int)+(a:Int)).toNat * 3)).off+1,none⟩=_:=hx1;replace hx2:(w1.drewN nq).drew.cell? ⟨(ad.add (((p:Int)+(a:Int)).toNat * 3)).block,(ad.add (((p:Int)+(a:Int)).toNat * 3)).off+2,none⟩=_:=hx2;replace hc0:(w1.drewN nq).drew.cell? ⟨g,0,none⟩=_:=hc0;replace hc1:(w1.drewN nq).drew.cell? ⟨g,1,none⟩=_:=hc1;replace hd0:(w1.drewN nq).drew.cell? ⟨n,0,none⟩=_:=hd0;replace hd1:(w1.drewN nq).drew.cell? ⟨n,1,none⟩=_:=hd1;replace hd2:(w1.drewN nq).drew.cell? ⟨n,2,none⟩=_:=hd2;replace hf0:(w1.drewN nq).drew.frozen? ⟨n,0,none⟩=_:=hf0;replace hf1:(w1.drewN nq).drew.frozen? ⟨n,1,none⟩=_:=hf1;replace hf2:(w1.drewN nq).drew.frozen? ⟨n,2,none⟩=_:=hf2;have hiw:IntKind.i64.wrap ((p:Int)+(a:Int))=(p:Int)+(a:Int):=by rw[i64_w];unfold wrap64;omega
   have q0:(0≤(p:Int)+(a:Int))=True:=eq_true (by omega);have q1:((p:Int)+(a:Int)<(ts.length:Int))=True:=eq_true (by omega);refine wp_region_still_tail 12 (by kernel_rfl) (by kernel_rfl) ?_
   change wpStill _ _ (w1.drewN nq).drew (fun a'=>wpList _ _ _ _ a' (w1.drewN nq).drew) _ _
   have hI2:=z00.mk (Rd.drew hI1.out);have hB2:=z00.mk (z05 hB1.out);have hK2:=z00.mk (zdz hK1.out);have HN2:=z00.mk (z0h HN.out);clear hI1 hB1 hK1 HN
   generalize (w1.drewN nq).drew=w2 at hI2 hB2 hK2 HN2 hx0 hx1 hx2 hc0 hc1 hd0 hd1 hd2 hf0 hf1 hf2 ⊢
   simp only[List.take_succ_cons,List.take_zero,List.drop_succ_cons,List.drop_zero]
   repeat still_step
   refine wpStill_nil ?_;go_wp2;obtain⟨P1,P2,P3,P4⟩:=zko (n:=n) x hI2.out hB2.out hK2.out ⟨_,_,_,HN2.out⟩ hgn.out h0n.out h1n.out;refine bodyPost_ret (results_cell_row rfl _ _ n 108 #[.int .i64 x.f0,.string x.f1,.int .i64 x.f2] (0,0) _ rfl P1.out Tryz.underlying108 rfl (by kernel_rfl)) rfl ?_;exact⟨rfl,P2.out,P3.out,P4.out⟩

def markT (x:S108) (s:ByteArray):Bool:=x.f0==4&&x.f1.toList==s.toList
set_option maxRecDepth 100000 in
theorem z7f (w0 w:World) (g:Nat) (ts:List S108) (p:Nat) (en:Int) (a:Nat) (s:ByteArray) (ha:a≤1) (hI:Rd w0 w g ts p en) (hB:Below w0.heap.size w0 w) :
 Calls Tryz.prog 114 #[.pointer (some ⟨g,0,none⟩),.int .i64 a,.string s] w fun e w'=>e=.returned (.bool (markT (seeP ts en (p+a)) s))∧Rd w0 w' g ts p en∧Below w0.heap.size w0 w'∧z0k w w' g none:=by
 have HS:=z00.mk (z29 w0 w g ts p en a ha hI hB);clear hI hB;unfold markT
 generalize seeP ts en (p+a)=x at HS ⊢
 go_enter Tryz.func114,Tryz.ntmps114
 go_wp2_with fail
 refine HS.out.mono ?_;rintro e w1 ⟨rfl,i1,b1,k1⟩;have hI1:=z00.mk (i1.alloc (.cells #[.int .i64 x.f0,.string x.f1,.int .i64 x.f2] 108));have hB1:=z00.mk (z03 b1 (.cells #[.int .i64 x.f0,.string x.f1,.int .i64 x.f2] 108));have hK1:=z00.mk (z1k k1 (.cells #[.int .i64 x.f0,.string x.f1,.int .i64 x.f2] 108));clear i1 b1 k1
 by_cases h4:x.f0=4
 · have c0:(x.f0==4)=true:=beq_iff_eq.2 h4;go_wp2
   go_ret
   rw[h4]at hI1 hB1 hK1;exact⟨by rw[c0];rfl,hI1.out,hB1.out,hK1.out⟩
 · have c0:(x.f0==4)=false:=beq_eq_false_iff_ne.2 h4;go_wp2
   go_ret
   exact⟨by rw[c0];rfl,hI1.out,hB1.out,hK1.out⟩
set_option maxRecDepth 100000 in
theorem z1e (w0 w:World) (g:Nat) (ts:List S108) (p:Nat) (en:Int) (s:ByteArray) (hI:Rd w0 w g ts p en) (hB:Below w0.heap.size w0 w) :
 Calls Tryz.prog 83 #[.pointer (some ⟨g,0,none⟩),.string s] w fun e w'=>e=.returned (.bool (markT (seeP ts en p) s))∧Rd w0 w' g ts (if markT (seeP ts en p) s=true then p+1 else p) en∧Below w0.heap.size w0 w'∧z0k w w' g none:=by
 have HS:=z00.mk (z7f w0 w g ts p en 0 s (by omega) hI hB);rw[Nat.add_zero]at HS;have hp:p≤ts.length∧ts.length≤20000:=by
  obtain⟨A,c,hb,hg,hr,h1,h2⟩:=hI;exact⟨h1,h2⟩
 have hlt:markT (seeP ts en p) s=true→p<ts.length:=fun h=>by
  cases Nat.lt_or_ge p ts.length with
  |inl h=>exact h
  |inr h' =>
   unfold seeP at h;rw[List.getD_eq_getElem?_getD,List.getElem?_eq_none h']at h
   cases h
 clear hI hB
 cases hm:markT (seeP ts en p) s with
 |false =>
  rw[hm]at HS;go_enter Tryz.func83,Tryz.ntmps83
  go_wp2_with fail
  refine HS.out.mono ?_;rintro e w1 ⟨rfl,i1,b1,k1⟩;have hI1:=z00.mk i1;have hB1:=z00.mk b1;have hK1:=z00.mk k1;clear i1 b1 k1;go_wp2
  go_ret
  exact⟨rfl,hI1.out,hB1.out,hK1.out⟩
 |true =>
  have hlt:=hlt hm;rw[hm]at HS;go_enter Tryz.func83,Tryz.ntmps83
  go_wp2_with fail
  refine HS.out.mono ?_;rintro e w1 ⟨rfl,i1,b1,k1⟩;have hI2:=z00.mk (i1.move (p+1) (by omega));have hB2:=z00.mk (z06 (j:=1) (v:=.int .i64 ((p+1:Nat):Int)) b1 i1.ge);have hK2:=z00.mk (z0k.set_ k1 1 (.int .i64 ((p+1:Nat):Int)));obtain⟨A,c,hb,hg,hr,h1,h2⟩:=i1;have hc1:w1.cell? ⟨g,1,none⟩=some (.int .i64 p):=(z01 hb 1).trans rfl;have hf1:=z02 hb 1;clear hb b1 k1;rw[show((p+1:Nat):Int)=(p:Int)+1 by omega]at hI2 hB2 hK2;go_wp2
  go_ret
  exact⟨rfl,hI2.out,hB2.out,hK2.out⟩
def zel (at_ er:Int):Ending:=.panicked [{ v:=.iface 125 (.agg #[.int .i64 at_,.int .i64 er]),recovered:=false }]
set_option maxRecDepth 100000 in
theorem z4t (w0 w:World) (g:Nat) (ts:List S108) (p:Nat) (en:Int) (er:Int) (hI:Rd w0 w g ts p en) (hB:Below w0.heap.size w0 w) :
 Calls Tryz.prog 82 #[.pointer (some ⟨g,0,none⟩),.int .i64 er] w fun e w'=>e=zel (seeP ts en p).f2 er∧Rd w0 w' g ts p en∧Below w0.heap.size w0 w'∧z0k w w' g none:=by
 have HS:=z00.mk (z29 w0 w g ts p en 0 (by omega) hI hB);rw[Nat.add_zero]at HS;clear hI hB;unfold zel
 generalize seeP ts en p=x at HS ⊢
 go_enter Tryz.func82,Tryz.ntmps82
 go_wp2_with fail
 refine HS.out.mono ?_;rintro e w1 ⟨rfl,i1,b1,k1⟩;have hI1:=z00.mk i1;have hB1:=z00.mk b1;have hK1:=z00.mk k1;clear i1 b1 k1;have hfd:∀w:World,(Instr.field 108 (.agg #[.int .i64 x.f0,.string x.f1,.int .i64 x.f2]) 2).run Tryz.prog w=.ok (.int .i64 x.f2) w:=fun _=>by kernel_rfl
 go_wp2;exact⟨rfl,rfl,hI1.out,hB1.out,hK1.out⟩

def tkOf (x:S108):TK:=(x.f0,x.f1)
def leftL (ts:List S108) (p:Nat):List TK:=(ts.drop p).map tkOf
theorem z3s {ts:List S108} {p:Nat} (en:Int) (h:p<ts.length):leftL ts p=tkOf (seeP ts en p)::leftL ts (p+1):=by
 unfold leftL seeP;rw[List.drop_eq_getElem_cons h,List.map_cons,List.getD_eq_getElem?_getD,List.getElem?_eq_getElem h];rfl
theorem z4x {ts:List S108} {p:Nat} (en:Int) (h:ts.length≤p):leftL ts p=[]∧seeP ts en p=⟨0,⟨#[]⟩,en⟩:=by
 refine⟨?_,?_⟩
 · unfold leftL;rw[List.drop_eq_nil_of_le h,List.map_nil]
 · unfold seeP;rw[List.getD_eq_getElem?_getD,List.getElem?_eq_none h];rfl
theorem z0s (ts:List S108) (p:Nat):(leftL ts p).length=ts.length - p:=by
 unfold leftL;rw[List.length_map,List.length_drop]
theorem z0p (ts:List S108) (p k:Nat):(leftL ts p).drop k=leftL ts (p+k):=by
 unfold leftL;rw[←List.map_drop,List.drop_drop]
theorem z44 (s:ByteArray):s.toList=s.data.toList:=ByteArray.toList_eq s
theorem z1g (ts:List S108) (en:Int) (p:Nat) (s:ByteArray):markT (seeP ts en p) s=mk0 (leftL ts p) s.data.toList:=by
 rcases Nat.lt_or_ge p ts.length with h|h
 · rw[z3s en h];simp only[markT,mk0,isT,tkOf,z44]
 · obtain⟨h1,h2⟩:=z4x en h;rw[h1,h2];rfl
def Post {α:Type} (w0 w:World) (g:Nat) (ts:List S108) (en:Int) (r:Except (Nat × Int) (α × List TK)) (V:Value→World→α→Prop) (e:Ending) (w':World):Prop :=
 Below w0.heap.size w0 w'∧z0k w w' g none∧∃p',Rd w0 w' g ts p' en∧match r with
  |.ok x=>leftL ts p'=x.2∧∃v,e=.returned v∧V v w' x.1
  |.error q=>∃i,i≤ts.length∧ts.length - i=q.1∧e=zel (seeP ts en i).f2 q.2
theorem Post.split {α:Type} {w0 w w':World} {g:Nat} {ts:List S108} {en:Int} {r:Except (Nat × Int) (α × List TK)} {V:Value→World→α→Prop} {e:Ending} (h:Post w0 w g ts en r V e w') :
 (∃x p' v,r=.ok (x,leftL ts p')∧e=.returned v∧V v w' x∧Rd w0 w' g ts p' en∧Below w0.heap.size w0 w'∧z0k w w' g none) ∨
 (∃q i p',r=.error q∧i≤ts.length∧ts.length - i=q.1∧e=zel (seeP ts en i).f2 q.2∧Rd w0 w' g ts p' en∧Below w0.heap.size w0 w'∧z0k w w' g none):=by
 obtain⟨hB,hK,p',hR,h⟩:=h
 cases r with
 |ok x =>
  obtain⟨h1,v,h2,h3⟩:=h;exact .inl ⟨x.1,p',v,by rw[h1],h2,h3,hR,hB,hK⟩
 |error q =>
  obtain⟨i,h1,h2,h3⟩:=h;exact .inr ⟨q,i,p',rfl,h1,h2,h3,hR,hB,hK⟩
theorem Post.thrown_ {α:Type} {w0 w w':World} {g:Nat} {ts:List S108} {en:Int} {V:Value→World→α→Prop} {q:Nat × Int} {i p':Nat} (h1:i≤ts.length) (h2:ts.length - i=q.1) (hR:Rd w0 w' g ts p' en) (hB:Below w0.heap.size w0 w') (hK:z0k w w' g none):Post w0 w g ts en (.error q) V (zel (seeP ts en i).f2 q.2) w' :=
 ⟨hB,hK,p',hR,i,h1,h2,rfl⟩
set_option maxRecDepth 100000 in
theorem z3i (w0 w:World) (g:Nat) (ts:List S108) (p:Nat) (en:Int) (s:ByteArray) (hI:Rd w0 w g ts p en) (hB:Below w0.heap.size w0 w) :
 Calls Tryz.prog 88 #[.pointer (some ⟨g,0,none⟩),.string s] w fun e w'=>Post w0 w g ts en (wantP s.data.toList (leftL ts p)) (fun v _ _=>v=.tuple #[]) e w':=by
 have hp:p≤ts.length:=by
  obtain⟨A,c,hb,hg,hr,h1,h2⟩:=hI;exact h1
 have HS:=z00.mk (z1e w0 w g ts p en s hI hB);clear hI hB;unfold wantP;rw[z1g]at HS
 cases hm:mk0 (leftL ts p) s.data.toList with
 |true =>
  rw[hm]at HS;go_enter Tryz.func88,Tryz.ntmps88
  go_wp2_with fail
  refine HS.out.mono ?_;rintro e w1 ⟨rfl,i1,b1,k1⟩;have hI1:=z00.mk i1;have hB1:=z00.mk b1;have hK1:=z00.mk k1;clear i1 b1 k1;go_wp2;refine⟨rfl,_,results_none rfl _ _ _,hB1.out,hK1.out,p+1,hI1.out,?_,_,rfl,rfl⟩;rw[←z0p ts p 1,List.drop_one]
 |false =>
  rw[hm]at HS;go_enter Tryz.func88,Tryz.ntmps88
  go_wp2_with fail
  refine HS.out.mono ?_;rintro e w1 ⟨rfl,i1,b1,k1⟩;have HF:=z00.mk (z4t w0 w1 g ts p en 2 i1 b1);have hK1:=z00.mk k1;clear i1 b1 k1
  go_wp2_with fail
  refine HF.out.mono ?_;rintro e w2 ⟨rfl,i2,b2,k2⟩;refine⟨rfl,b2,hK1.out.trans k2 (.inl rfl),p,i2,p,hp,?_,rfl⟩;rw[z0s]
def nextP (fine:Bool):Prs ByteArray
 |[]=>.error (0,2)
 |t::r=>if fine then .ok (t.2,r)else .error (r.length+1,2)
set_option maxRecDepth 100000 in
theorem z5o (w0 w:World) (g:Nat) (ts:List S108) (p:Nat) (en:Int) (fine:Bool) (hf:fine=true→p<ts.length) (hI:Rd w0 w g ts p en) (hB:Below w0.heap.size w0 w) :
 Calls Tryz.prog 149 #[.pointer (some ⟨g,0,none⟩),.bool fine] w fun e w'=>Post w0 w g ts en (nextP fine (leftL ts p)) (fun v _ x=>v=.string x) e w':=by
 have hp:p≤ts.length:=by
  obtain⟨A,c,hb,hg,hr,h1,h2⟩:=hI;exact h1
 cases fine with
 |false =>
  have HF:=z00.mk (z4t w0 w g ts p en 2 hI hB);clear hI hB;have he:nextP false (leftL ts p)=.error (ts.length - p,2):=by
   rw[←z0s]
   cases leftL ts p with
   |nil=>rfl
   |cons t r=>rfl
  rw[he];go_enter Tryz.func149,Tryz.ntmps149
  go_wp2_with fail
  refine HF.out.mono ?_;rintro e w2 ⟨rfl,i2,b2,k2⟩;exact⟨rfl,b2,k2,p,i2,p,hp,rfl,rfl⟩
 |true =>
  have hlt:=hf rfl;rw[z3s en hlt];have hs:seeP ts en p=z2g ts (p:Int):=by
   unfold seeP z2g;rw[Int.toNat_natCast,List.getD_eq_getElem?_getD,List.getD_eq_getElem?_getD,List.getElem?_eq_getElem hlt];rfl
  rw[hs];have hI2:=z00.mk (hI.move (p+1) (by omega));have hB2:=z00.mk (z06 (j:=1) (v:=.int .i64 ((p+1:Nat):Int)) hB hI.ge);have hK2:=z00.mk (z0k.set_ (z0k.refl w g none) 1 (.int .i64 ((p+1:Nat):Int)));obtain⟨A,c,hb,hg,hr,h1,h2⟩:=hI;obtain⟨ad,rfl,hx0,hx1,hx2⟩:=za8 hr.1 (p:Int) (by omega) (by omega);have hx1:=z07 hB2.out hx1
  generalize z2g ts (p:Int)=x at hx1 ⊢
  have hc1:w.cell? ⟨g,1,none⟩=some (.int .i64 p):=(z01 hb 1).trans rfl;have hf1:=z02 hb 1;have hb2:=z0x hb 1 (.int .i64 ((p+1:Nat):Int)) rfl;clear hb hB hx0 hx2;rw[show((p+1:Nat):Int)=(p:Int)+1 by omega]at hI2 hB2 hK2 hx1 hb2;go_enter Tryz.func149,Tryz.ntmps149
  go_wp2_with fail
  generalize w.setCell ⟨g,1,none⟩ (.int .i64 ((p:Int)+1))=w1 at hI2 hB2 hK2 hx1 hb2 ⊢
  have hd0:w1.cell? ⟨g,0,none⟩=some (.slice (some ad) ts.length c):=(z01 hb2 0).trans rfl;have hd1:w1.cell? ⟨g,1,none⟩=some (.int .i64 ((p:Int)+1)):=(z01 hb2 1).trans rfl;have hiw:IntKind.i64.wrap ((p:Int)+1 - 1)=(p:Int):=by rw[i64_w];unfold wrap64;omega
  have q0:(0≤(p:Int))=True:=eq_true (by omega);have q1:((p:Int)<(ts.length:Int))=True:=eq_true (by omega);have q2:(p<ts.length)=True:=eq_true hlt;rw[Int.toNat_natCast]at hx1;clear hb2
  go_quiet (fail)
  go_wp2
  go_ret
  exact⟨z04 hB2.out nq,z8z hK2.out nq,p+1,hI2.out.drewN nq,rfl,_,rfl,rfl⟩

theorem zfa (ts:List S108) (en:Int) (p:Nat):z2h (leftL ts p)=((seeP ts en p).f0==1||(seeP ts en p).f0==2||(seeP ts en p).f0==3):=by
 rcases Nat.lt_or_ge p ts.length with h|h
 · rw[z3s en h];rfl
 · obtain⟨h1,h2⟩:=z4x en h;rw[h1,h2];rfl
set_option maxRecDepth 100000 in
theorem z3c (w0 w:World) (g:Nat) (ts:List S108) (p:Nat) (en:Int) (hI:Rd w0 w g ts p en) (hB:Below w0.heap.size w0 w) :
 Calls Tryz.prog 115 #[.pointer (some ⟨g,0,none⟩)] w fun e w'=>e=.returned (.bool (z2h (leftL ts p)))∧Rd w0 w' g ts p en∧Below w0.heap.size w0 w'∧z0k w w' g none:=by
 have HS:=z00.mk (z29 w0 w g ts p en 0 (by omega) hI hB);rw[Nat.add_zero]at HS;clear hI hB;rw[zfa ts en p]
 generalize seeP ts en p=x at HS ⊢
 have hfd:∀w:World,(Instr.field 108 (.agg #[.int .i64 x.f0,.string x.f1,.int .i64 x.f2]) 0).run Tryz.prog w=.ok (.int .i64 x.f0) w:=fun _=>by kernel_rfl
 go_enter Tryz.func115,Tryz.ntmps115
 go_wp2_with fail
 refine HS.out.mono ?_;rintro e w1 ⟨rfl,i1,b1,k1⟩;have hI1:=z00.mk i1;have hB1:=z00.mk b1;have hK1:=z00.mk k1;clear i1 b1 k1
 cases c1:(x.f0==1)with
 |true =>
  go_wp2
  go_ret
  exact⟨by rw[c1];rfl,hI1.out,hB1.out,hK1.out⟩
 |false =>
  cases c2:(x.f0==2)with
  |true =>
   go_wp2
   go_ret
   exact⟨by rw[c1,c2];rfl,hI1.out,hB1.out,hK1.out⟩
  |false =>
   go_wp2
   go_ret
   exact⟨by rw[c1,c2];rfl,hI1.out,hB1.out,hK1.out⟩
theorem z61 (s:ByteArray):z52.f s=some (keyL s.data.toList):=by
 unfold z52.f;rw[z44]
 generalize s.data.toList=l
 by_cases h:l=[110,111,116]
 · subst h;rfl
 rw[if_neg h];have n0:=h;clear h
 by_cases h:l=[105,115]
 · subst h;rfl
 rw[if_neg h];have n1:=h;clear h
 by_cases h:l=[112,108,117,115]
 · subst h;rfl
 rw[if_neg h];have n2:=h;clear h
 by_cases h:l=[109,105,110,117,115]
 · subst h;rfl
 rw[if_neg h];have n3:=h;clear h
 by_cases h:l=[116,105,109,101,115]
 · subst h;rfl
 rw[if_neg h];have n4:=h;clear h
 by_cases h:l=[119,97,108,107]
 · subst h;rfl
 rw[if_neg h];have n5:=h;clear h
 by_cases h:l=[99,111,117,110,116]
 · subst h;rfl
 rw[if_neg h];have n6:=h;clear h
 by_cases h:l=[115,117,109]
 · subst h;rfl
 rw[if_neg h];have n7:=h;clear h
 by_cases h:l=[109,105,110]
 · subst h;rfl
 rw[if_neg h];have n8:=h;clear h
 by_cases h:l=[109,97,120]
 · subst h;rfl
 rw[if_neg h];have n9:=h;clear h;have hlast:(if l=([109,101,97,110]:List UInt8)then(some true)else(some false))=some (l==[109,101,97,110]):=by
  by_cases h:l=[109,101,97,110]
  · rw[if_pos h,beq_iff_eq.2 h]
  · rw[if_neg h,beq_eq_false_iff_ne.2 h]
 rw[hlast];unfold keyL keysL;simp only[List.contains_cons,List.contains_nil,Bool.or_false];rw[beq_eq_false_iff_ne.2 n0,beq_eq_false_iff_ne.2 n1,beq_eq_false_iff_ne.2 n2,beq_eq_false_iff_ne.2 n3,beq_eq_false_iff_ne.2 n4,beq_eq_false_iff_ne.2 n5,beq_eq_false_iff_ne.2 n6,beq_eq_false_iff_ne.2 n7,beq_eq_false_iff_ne.2 n8,beq_eq_false_iff_ne.2 n9];rfl
theorem zar (l:List TK):z1m l=nextP (predL l) l:=by
 cases l with
 |nil=>rfl
 |cons t r=>rfl
theorem z5c (ts:List S108) (en:Int) (p:Nat):predL (leftL ts p)=((seeP ts en p).f0==1&&!keyL (seeP ts en p).f1.data.toList):=by
 rcases Nat.lt_or_ge p ts.length with h|h
 · rw[z3s en h];rfl
 · obtain⟨h1,h2⟩:=z4x en h;rw[h1,h2];rfl
theorem pred_lt {ts:List S108} {p:Nat} (h:predL (leftL ts p)=true):p<ts.length:=by
 rcases Nat.lt_or_ge p ts.length with h'|h'
 · exact h'
 · rw[(z4x 0 h').1]at h;cases h
set_option maxRecDepth 100000 in
theorem z5t (w0 w:World) (g:Nat) (ts:List S108) (p:Nat) (en:Int) (hI:Rd w0 w g ts p en) (hB:Below w0.heap.size w0 w) :
 Calls Tryz.prog 117 #[.pointer (some ⟨g,0,none⟩)] w fun e w'=>Post w0 w g ts en (z1m (leftL ts p)) (fun v _ x=>v=.string x) e w':=by
 have HS:=z00.mk (z29 w0 w g ts p en 0 (by omega) hI hB);rw[Nat.add_zero]at HS;clear hI hB;rw[zar];have HL:=z00.mk (z5c ts en p);have HP:=z00.mk (fun h=>pred_lt (ts:=ts) (p:=p) h)
 generalize predL (leftL ts p)=fine at HL HP ⊢
 obtain⟨r,hr0⟩:∃r,nextP fine (leftL ts p)=r:=⟨_,rfl⟩
 rw[hr0];have HR0:=z00.mk hr0;clear hr0
 generalize seeP ts en p=x at HS HL ⊢
 go_enter Tryz.func117,Tryz.ntmps117
 go_wp2_with fail
 refine HS.out.mono ?_;rintro e w1 ⟨rfl,i1,b1,k1⟩;have hI1:=z00.mk (i1.alloc (.cells #[.int .i64 x.f0,.string x.f1,.int .i64 x.f2] 108));have hB1:=z00.mk (z03 b1 (.cells #[.int .i64 x.f0,.string x.f1,.int .i64 x.f2] 108));have hK1:=z00.mk (z1k k1 (.cells #[.int .i64 x.f0,.string x.f1,.int .i64 x.f2] 108));clear i1 b1 k1
 cases c1:(x.f0==1)with
 |false =>
  rw[c1]at HL;have hL:=HL.out;simp only[Bool.false_and]at hL;subst hL;have HN:=z5o w0 _ g ts p en false (fun h=>by cases h) hI1.out hB1.out;rw[HR0.out]at HN;have HN:=z00.mk HN;clear HR0
  go_wp2_with fail
  refine HN.out.mono ?_;intro e w2 hp;rcases hp.split with ⟨y,p',v,rfl,rfl,rfl,R,B,K⟩|⟨q,i,p',rfl,h1,h2,rfl,R,B,K⟩
  · have hR:=z00.mk R;have hB:=z00.mk B;have hK:=z00.mk (hK1.out.trans K (.inl rfl));clear R B K hp;go_wp2
    go_ret
    exact⟨hB.out,hK.out,p',hR.out,rfl,_,rfl,rfl⟩
  · exact⟨rfl,Post.thrown_ h1 h2 R B (hK1.out.trans K (.inl rfl))⟩
 |true =>
  rw[c1]at HL;have hL:=HL.out;simp only[Bool.true_and]at hL;have HY:=z00.mk (z52.calls x.f1 (keyL x.f1.data.toList) (w1.alloc (.cells #[.int .i64 x.f0,.string x.f1,.int .i64 x.f2] 108)) (z61 x.f1))
  generalize keyL x.f1.data.toList=ky at hL HY
  subst hL
  go_wp2_with fail
  refine HY.out.mono ?_;rintro e w2 ⟨rfl,d⟩;have hI2:=z00.mk (hI1.out.below d.below);have hB2:=z00.mk (z0g hB1.out d.below);have hK2:=z00.mk (hK1.out.trans (z0k.of_below d.below g none) (.inl rfl));clear d;have HN:=z5o w0 w2 g ts p en (!ky) HP.out hI2.out hB2.out;rw[HR0.out]at HN;have HN:=z00.mk HN;clear HR0
  go_wp2_with fail
  refine HN.out.mono ?_;intro e w2 hp;rcases hp.split with ⟨y,p',v,rfl,rfl,rfl,R,B,K⟩|⟨q,i,p',rfl,h1,h2,rfl,R,B,K⟩
  · have hR:=z00.mk R;have hB:=z00.mk B;have hK:=z00.mk (hK2.out.trans K (.inl rfl));clear R B K hp;go_wp2
    go_ret
    exact⟨hB.out,hK.out,p',hR.out,rfl,_,rfl,rfl⟩
  · exact⟨rfl,Post.thrown_ h1 h2 R B (hK2.out.trans K (.inl rfl))⟩

def Env (w0:World) (ts:List S108):Prop:=LaidW w0∧∀x ∈ ts,x.f1.size≤281474976710656
def mapR {α β:Type} (f:α→β):Except (Nat × Int) (α × List TK)→Except (Nat × Int) (β × List TK)
 |.error e=>.error e
 |.ok x=>.ok (f x.1,x.2)
theorem zcs (l:List TK):z45 l=mapR (fun s=>(⟨s,noneV⟩:TmS)) (nextP (kindL l==2) l):=by
 cases l with
 |nil=>rfl
 |cons t r =>
  show(if(t.1==2)=true then Except.ok (⟨t.2,noneV⟩,r)else Except.error (r.length+1,2))=mapR (fun s=>(⟨s,noneV⟩:TmS)) (nextP (t.1==2) (t::r))
  generalize (t.1==2)=b
  cases b <;> rfl
theorem zk2 (l:List TK) (h:(kindL l==2)=false):termP l=mapR (fun s=>(⟨⟨#[]⟩,readV s⟩:TmS)) (nextP (z2h l) l):=by
 cases l with
 |nil=>rfl
 |cons t r =>
  replace h:(t.1==2)=false:=h;show(if(t.1==2)=true then Except.ok (⟨t.2,noneV⟩,r)else if(t.1==1||t.1==3)=true then Except.ok (⟨⟨#[]⟩,readV t.2⟩,r)else Except.error (r.length+1,2))=mapR (fun s=>(⟨⟨#[]⟩,readV s⟩:TmS)) (nextP (t.1==1||t.1==2||t.1==3) (t::r))
  generalize (t.1==2)=b at h ⊢
  subst h
  generalize (t.1==1)=c
  generalize (t.1==3)=d
  cases c <;> cases d <;> rfl
theorem term_var (l:List TK) (h:(kindL l==2)=true):termP l=z45 l:=by
 cases l with
 |nil=>rfl
 |cons t r =>
  replace h:(t.1==2)=true:=h;show(if(t.1==2)=true then Except.ok ((⟨t.2,noneV⟩:TmS),r)else if(t.1==1||t.1==3)=true then Except.ok ((⟨⟨#[]⟩,readV t.2⟩:TmS),r)else Except.error (r.length+1,2))=(if(t.1==2)=true then Except.ok ((⟨t.2,noneV⟩:TmS),r)else Except.error (r.length+1,2));rw[if_pos h,if_pos h]
theorem z32 (ts:List S108) (en:Int) (p:Nat):kindL (leftL ts p)=(seeP ts en p).f0:=by
 rcases Nat.lt_or_ge p ts.length with h|h
 · rw[z3s en h];rfl
 · obtain⟨h1,h2⟩:=z4x en h;rw[h1,h2];rfl
theorem z5x {ts:List S108} {p:Nat} (h:leftL ts p≠[]):p<ts.length:=by
 rcases Nat.lt_or_ge p ts.length with h'|h'
 · exact h'
 · exact absurd (z4x 0 h').1 h
theorem zi6 {ts:List S108} {p:Nat} {fine:Bool} {s:ByteArray} {r:List TK} (h:nextP fine (leftL ts p)=.ok (s,r)):∃x ∈ ts,x.f1=s:=by
 rcases Nat.lt_or_ge p ts.length with h'|h'
 · rw[z3s 0 h']at h
   cases fine with
   |false=>cases h
   |true =>
    simp only[nextP,if_true,Except.ok.injEq,Prod.mk.injEq]at h;refine⟨ts[p],List.getElem_mem h',?_⟩;rw[←h.1];unfold seeP tkOf;rw[List.getD_eq_getElem?_getD,List.getElem?_eq_getElem h'];rfl
 · rw[(z4x 0 h').1]at h
   cases h
def tmV (x:TmS):Value:=.agg #[.string x.f0,.int .i64 x.f1.f0,.int .i64 x.f1.f1,.string x.f1.f2]
theorem zj8 {w0 w w1:World} {g n:Nat} {ts:List S108} {p:Nat} {en:Int} (a:ByteArray) (b c:Int) (d:ByteArray) (hI:Rd w0 w1 g ts p en) (hB:Below w0.heap.size w0 w1) (hK:z0k w w1 g none) (hN:w1.heap[n]?=some (.cells #[.string ⟨#[]⟩,.int .i64 0,.int .i64 0,.string ⟨#[]⟩] 60 (0,0)))
 (hg:g≠n) (h0:w0.heap.size≤n) (h1:w.heap.size≤n):z00 (((((w1.setCell ⟨n,0,none⟩ (.string a)).setCell ⟨n,1,none⟩ (.int .i64 b)).setCell ⟨n,2,none⟩ (.int .i64 c)).setCell ⟨n,3,none⟩ (.string d)).heap[n]?=some (.cells #[.string a,.int .i64 b,.int .i64 c,.string d] 60 (0,0))) ∧
   z00 (Rd w0 ((((w1.setCell ⟨n,0,none⟩ (.string a)).setCell ⟨n,1,none⟩ (.int .i64 b)).setCell ⟨n,2,none⟩ (.int .i64 c)).setCell ⟨n,3,none⟩ (.string d)) g ts p en) ∧
   z00 (Below w0.heap.size w0 ((((w1.setCell ⟨n,0,none⟩ (.string a)).setCell ⟨n,1,none⟩ (.int .i64 b)).setCell ⟨n,2,none⟩ (.int .i64 c)).setCell ⟨n,3,none⟩ (.string d))) ∧
   z00 (z0k w ((((w1.setCell ⟨n,0,none⟩ (.string a)).setCell ⟨n,1,none⟩ (.int .i64 b)).setCell ⟨n,2,none⟩ (.int .i64 c)).setCell ⟨n,3,none⟩ (.string d)) g none):=by
 refine⟨⟨?_⟩,⟨Rd.far (Rd.far (Rd.far (Rd.far hI hg _) hg _) hg _) hg _⟩,⟨z06 (z06 (z06 (z06 hB h0) h0) h0) h0⟩,⟨z41 (z41 (z41 (z41 hK h1 _) h1 _) h1 _) h1 _⟩⟩;exact z0x (cs:=#[.string a,.int .i64 b,.int .i64 c,.string ⟨#[]⟩]) (z0x (cs:=#[.string a,.int .i64 b,.int .i64 0,.string ⟨#[]⟩]) (z0x (cs:=#[.string a,.int .i64 0,.int .i64 0,.string ⟨#[]⟩]) (z0x hN 0 (.string a) rfl) 1 (.int .i64 b) rfl) 2 (.int .i64 c) rfl) 3 (.string d) rfl
set_option maxRecDepth 100000 in
theorem z6c (w0 w:World) (g:Nat) (ts:List S108) (p:Nat) (en:Int) (hI:Rd w0 w g ts p en) (hB:Below w0.heap.size w0 w) :
 Calls Tryz.prog 119 #[.pointer (some ⟨g,0,none⟩)] w fun e w'=>Post w0 w g ts en (z45 (leftL ts p)) (fun v _ x=>v=tmV x) e w':=by
 have hI1:=hI.alloc (.cells #[.string ⟨#[]⟩,.int .i64 0,.int .i64 0,.string ⟨#[]⟩] 60);have hB1:=z03 hB (.cells #[.string ⟨#[]⟩,.int .i64 0,.int .i64 0,.string ⟨#[]⟩] 60);have hK1:=z00.mk (z1k (z0k.refl w g none) (.cells #[.string ⟨#[]⟩,.int .i64 0,.int .i64 0,.string ⟨#[]⟩] 60));have hN:=z00.mk (z0q w (.cells #[.string ⟨#[]⟩,.int .i64 0,.int .i64 0,.string ⟨#[]⟩] 60));obtain⟨n,en'⟩:∃n,w.heap.size=n:=⟨_,rfl⟩
 have hgn:z00 (g≠n):=⟨by have:=hI.lt;omega⟩
 have h0n:z00 (w0.heap.size≤n):=⟨by rw[←en'];exact hB.size⟩
 have h1n:z00 (w.heap.size≤n):=⟨by omega⟩
 rw[en']at hN;have HS:=z00.mk (z29 w0 _ g ts p en 0 (by omega) hI1 hB1);rw[Nat.add_zero]at HS;clear hI hB hI1 hB1;rw[zcs,z32 ts en p];have HP:z00 (((seeP ts en p).f0==2)=true→p<ts.length):=⟨fun h=>z5x fun e=>by
  rw[←z32 ts en p,e]at h
  cases h⟩
 generalize seeP ts en p=x at HS HP ⊢
 obtain⟨fine,hf⟩:∃fine,(x.f0==2)=fine:=⟨_,rfl⟩
 rw[hf]at HP ⊢;obtain⟨r,hr0⟩:∃r,nextP fine (leftL ts p)=r:=⟨_,rfl⟩
 rw[hr0];have HR0:=z00.mk hr0;clear hr0;have hfd:∀w:World,(Instr.field 108 (.agg #[.int .i64 x.f0,.string x.f1,.int .i64 x.f2]) 0).run Tryz.prog w=.ok (.int .i64 x.f0) w:=fun _=>by kernel_rfl
 go_enter Tryz.func119,Tryz.ntmps119
 go_wp2_with fail
 refine HS.out.mono ?_;rintro e w1 ⟨rfl,i1,b1,k1⟩;have HN:=z5o w0 w1 g ts p en fine HP.out i1 b1;rw[HR0.out]at HN;have HN:=z00.mk HN;replace hN:=z00.mk (k1.blk hN.out hgn.out.symm (by simp));replace hK1:=z00.mk (hK1.out.trans k1 (.inl rfl));clear HR0 HP i1 b1 k1
 go_wp2_with fail
 refine HN.out.mono ?_;intro e w2 hp;rcases hp.split with ⟨y,p',v,rfl,rfl,rfl,R,B,K⟩|⟨q,i,p',rfl,h1,h2,rfl,R,B,K⟩
 · replace hN:=K.blk hN.out hgn.out.symm (by simp);have hf0:=z02 hN 0;have hf1:=z02 hN 1;have hf2:=z02 hN 2;have hf3:=z02 hN 3;have hd0:w2.cell? ⟨n,0,none⟩=some (.string ⟨#[]⟩):=(z01 hN 0).trans rfl;have hd1:w2.cell? ⟨n,1,none⟩=some (.int .i64 0):=(z01 hN 1).trans rfl;have hd2:w2.cell? ⟨n,2,none⟩=some (.int .i64 0):=(z01 hN 2).trans rfl;have hd3:w2.cell? ⟨n,3,none⟩=some (.string ⟨#[]⟩):=(z01 hN 3).trans rfl;obtain⟨P1,P2,P3,P4⟩:=zj8 (n:=n) y 0 0 ⟨#[]⟩ R B (hK1.out.trans K (.inl rfl)) hN hgn.out h0n.out h1n.out;clear R B K hp hN;go_wp2;refine bodyPost_ret (results_cell_row rfl _ _ n 60 #[.string y,.int .i64 0,.int .i64 0,.string ⟨#[]⟩] (0,0) _ rfl P1.out Tryz.underlying60 rfl (by kernel_rfl)) rfl ?_;exact⟨P3.out,P4.out,p',P2.out,rfl,_,rfl,rfl⟩
 · exact⟨rfl,Post.thrown_ h1 h2 R B (hK1.out.trans K (.inl rfl))⟩
set_option maxRecDepth 100000 in
theorem z4q (w0 w:World) (g:Nat) (ts:List S108) (p:Nat) (en:Int) (hE:Env w0 ts) (hI:Rd w0 w g ts p en) (hB:Below w0.heap.size w0 w) :
 Calls Tryz.prog 120 #[.pointer (some ⟨g,0,none⟩)] w fun e w'=>Post w0 w g ts en (termP (leftL ts p)) (fun v _ x=>v=tmV x) e w':=by
 have HE:=z00.mk hE;have hI1:=hI.alloc (.cells #[.string ⟨#[]⟩,.int .i64 0,.int .i64 0,.string ⟨#[]⟩] 60);have hB1:=z03 hB (.cells #[.string ⟨#[]⟩,.int .i64 0,.int .i64 0,.string ⟨#[]⟩] 60);have hK1:=z00.mk (z1k (z0k.refl w g none) (.cells #[.string ⟨#[]⟩,.int .i64 0,.int .i64 0,.string ⟨#[]⟩] 60));have hN:=z00.mk (z0q w (.cells #[.string ⟨#[]⟩,.int .i64 0,.int .i64 0,.string ⟨#[]⟩] 60));obtain⟨n,en'⟩:∃n,w.heap.size=n:=⟨_,rfl⟩
 have hgn:z00 (g≠n):=⟨by have:=hI.lt;omega⟩
 have h0n:z00 (w0.heap.size≤n):=⟨by rw[←en'];exact hB.size⟩
 have h1n:z00 (w.heap.size≤n):=⟨by omega⟩
 rw[en']at hN;have HS:=z00.mk (z29 w0 _ g ts p en 0 (by omega) hI1 hB1);rw[Nat.add_zero]at HS;clear hE hI hB hI1 hB1;have HF:=z00.mk (z32 ts en p)
 generalize seeP ts en p=x at HS HF ⊢
 have hfd:∀w:World,(Instr.field 108 (.agg #[.int .i64 x.f0,.string x.f1,.int .i64 x.f2]) 0).run Tryz.prog w=.ok (.int .i64 x.f0) w:=fun _=>by kernel_rfl
 cases c2:(x.f0==2)with
 |true =>
  have hk2:(kindL (leftL ts p)==2)=true:=by rw[HF.out];exact c2
  rw[term_var _ hk2];obtain⟨r,hr0⟩:∃r,z45 (leftL ts p)=r:=⟨_,rfl⟩
  rw[hr0];have HR0:=z00.mk hr0;clear hr0;go_enter Tryz.func120,Tryz.ntmps120
  go_wp2_with fail
  refine HS.out.mono ?_;rintro e w1 ⟨rfl,i1,b1,k1⟩;have HN:=z6c w0 w1 g ts p en i1 b1;rw[HR0.out]at HN;have HN:=z00.mk HN;replace hN:=z00.mk (k1.blk hN.out hgn.out.symm (by simp));replace hK1:=z00.mk (hK1.out.trans k1 (.inl rfl));clear i1 b1 k1 HF HS hk2 HR0
  go_wp2_with fail
  refine HN.out.mono ?_;intro e w2 hp;rcases hp.split with ⟨y,p',v,rfl,rfl,rfl,R,B,K⟩|⟨q,i,p',rfl,h1,h2,rfl,R,B,K⟩
  · replace hN:=K.blk hN.out hgn.out.symm (by simp);have hf0:=z02 hN 0;have hf1:=z02 hN 1;have hf2:=z02 hN 2;have hf3:=z02 hN 3;have hd0:w2.cell? ⟨n,0,none⟩=some (.string ⟨#[]⟩):=(z01 hN 0).trans rfl;have hd1:w2.cell? ⟨n,1,none⟩=some (.int .i64 0):=(z01 hN 1).trans rfl;have hd2:w2.cell? ⟨n,2,none⟩=some (.int .i64 0):=(z01 hN 2).trans rfl;have hd3:w2.cell? ⟨n,3,none⟩=some (.string ⟨#[]⟩):=(z01 hN 3).trans rfl;obtain⟨P1,P2,P3,P4⟩:=zj8 (n:=n) y.f0 y.f1.f0 y.f1.f1 y.f1.f2 R B (hK1.out.trans K (.inl rfl)) hN hgn.out h0n.out h1n.out;clear R B K hp hN;unfold tmV;go_wp2;refine bodyPost_ret (results_cell_row rfl _ _ n 60 #[.string y.f0,.int .i64 y.f1.f0,.int .i64 y.f1.f1,.string y.f1.f2] (0,0) _ rfl P1.out Tryz.underlying60 rfl (by kernel_rfl)) rfl ?_;exact⟨P3.out,P4.out,p',P2.out,rfl,_,rfl,rfl⟩
  · exact⟨rfl,Post.thrown_ h1 h2 R B (hK1.out.trans K (.inl rfl))⟩
 |false =>
  have hk2:(kindL (leftL ts p)==2)=false:=by rw[HF.out];exact c2
  rw[zk2 _ hk2];have HP:z00 (z2h (leftL ts p)=true→p<ts.length):=⟨fun h=>z5x fun e=>by
   rw[e]at h
   cases h⟩
  have HST:=z00.mk (fun w1 i1 b1=>z3c w0 w1 g ts p en i1 b1);obtain⟨fine,hf⟩:∃fine,z2h (leftL ts p)=fine:=⟨_,rfl⟩
  rw[hf]at HP HST ⊢;obtain⟨r,hr0⟩:∃r,nextP fine (leftL ts p)=r:=⟨_,rfl⟩
  rw[hr0];have HR0:=z00.mk hr0;clear hr0;go_enter Tryz.func120,Tryz.ntmps120
  go_wp2_with fail
  refine HS.out.mono ?_;rintro e w1 ⟨rfl,i1,b1,k1⟩;have HN:=z00.mk (HST.out w1 i1 b1);replace hN:=z00.mk (k1.blk hN.out hgn.out.symm (by simp));replace hK1:=z00.mk (hK1.out.trans k1 (.inl rfl));clear i1 b1 k1 HF HS hk2 hf HST
  go_wp2_with fail
  refine HN.out.mono ?_;rintro e w2 ⟨rfl,i2,b2,k2⟩;have HX:=z5o w0 w2 g ts p en fine HP.out i2 b2;rw[HR0.out]at HX;have HX:=z00.mk HX;replace hN:=z00.mk (k2.blk hN.out hgn.out.symm (by simp));replace hK1:=z00.mk (hK1.out.trans k2 (.inl rfl));clear i2 b2 k2 HN
  go_wp2_with fail
  refine HX.out.mono ?_;intro e w3 hp;rcases hp.split with ⟨y,p',v,rfl,rfl,rfl,R,B,K⟩|⟨q,i,p',rfl,h1,h2,rfl,R,B,K⟩
  · replace hN:=z00.mk (K.blk hN.out hgn.out.symm (by simp));replace hK1:=z00.mk (hK1.out.trans K (.inl rfl));have HY:=z00.mk (z1l.calls y (readR y).1 (readR y).2.1 (readR y).2.2.1 (readR y).2.2.2 w3 (HE.out.1.below B) (read_f y (by
     obtain⟨x',hx',rfl⟩:=zi6 HR0.out;exact HE.out.2 x' hx')))
    have hR:=z00.mk R;have hB:=z00.mk B;have hval:readV y=⟨(readR y).1,(readR y).2.1,(readR y).2.2.1⟩:=rfl
    generalize (readR y).1=r1 at HY hval
    generalize (readR y).2.1=r2 at HY hval
    generalize (readR y).2.2.1=r3 at HY hval
    generalize (readR y).2.2.2=r4 at HY
    have HV:=z00.mk hval;clear R B K hp HX hval
    go_wp2_with fail
    refine HY.out.mono ?_;rintro e w4 ⟨rfl,d⟩;have hN4:=z0c (z0b hN.out d) (.cells #[.int .i64 r1,.int .i64 r2,.string r3] 58);have hf0:=z02 hN4 0;have hf1:=z02 hN4 1;have hf2:=z02 hN4 2;have hf3:=z02 hN4 3;have hd0:(w4.alloc (.cells #[.int .i64 r1,.int .i64 r2,.string r3] 58)).cell? ⟨n,0,none⟩=some (.string ⟨#[]⟩):=(z01 hN4 0).trans rfl;have hd1:(w4.alloc (.cells #[.int .i64 r1,.int .i64 r2,.string r3] 58)).cell? ⟨n,1,none⟩=some (.int .i64 0):=(z01 hN4 1).trans rfl;have hd2:(w4.alloc (.cells #[.int .i64 r1,.int .i64 r2,.string r3] 58)).cell? ⟨n,2,none⟩=some (.int .i64 0):=(z01 hN4 2).trans rfl;have hd3:(w4.alloc (.cells #[.int .i64 r1,.int .i64 r2,.string r3] 58)).cell? ⟨n,3,none⟩=some (.string ⟨#[]⟩):=(z01 hN4 3).trans rfl;obtain⟨P1,P2,P3,P4⟩:=zj8 (n:=n) ⟨#[]⟩ r1 r2 r3 ((hR.out.below d).alloc (.cells #[.int .i64 r1,.int .i64 r2,.string r3] 58)) (z03 (z0g hB.out d) _) (z1k (hK1.out.trans (z0k.of_below d g none) (.inl rfl)) _) hN4 hgn.out h0n.out h1n.out;clear d hN4 HY;go_wp2;refine bodyPost_ret (results_cell_row rfl _ _ n 60 #[.string ⟨#[]⟩,.int .i64 r1,.int .i64 r2,.string r3] (0,0) _ rfl P1.out Tryz.underlying60 rfl (by kernel_rfl)) rfl ?_;refine⟨P3.out,P4.out,p',P2.out,rfl,_,rfl,?_⟩;show _=tmV ⟨⟨#[]⟩,readV y⟩;rw[HV.out];rfl
  · exact⟨rfl,Post.thrown_ h1 h2 R B (hK1.out.trans K (.inl rfl))⟩

set_option maxRecDepth 100000 in
theorem zay (s:ByteArray) (w:World) :
 Calls Tryz.prog 118 #[.string s] w fun e w'=>e=.returned (.int .i64 (foldL s.data.toList))∧w'=w:=by
 rw[←z44];have hx0:∀w:World,(Instr.index 171 (.agg #[.string ⟨#[99,111,117,110,116]⟩,.string ⟨#[115,117,109]⟩,.string ⟨#[109,105,110]⟩,.string ⟨#[109,97,120]⟩,.string ⟨#[109,101,97,110]⟩]) (.int .i64 0)).run Tryz.prog w=.ok (.string ⟨#[99,111,117,110,116]⟩) w:=fun _=>by kernel_rfl
 have hx1:∀w:World,(Instr.index 171 (.agg #[.string ⟨#[99,111,117,110,116]⟩,.string ⟨#[115,117,109]⟩,.string ⟨#[109,105,110]⟩,.string ⟨#[109,97,120]⟩,.string ⟨#[109,101,97,110]⟩]) (.int .i64 1)).run Tryz.prog w=.ok (.string ⟨#[115,117,109]⟩) w:=fun _=>by kernel_rfl
 have hx2:∀w:World,(Instr.index 171 (.agg #[.string ⟨#[99,111,117,110,116]⟩,.string ⟨#[115,117,109]⟩,.string ⟨#[109,105,110]⟩,.string ⟨#[109,97,120]⟩,.string ⟨#[109,101,97,110]⟩]) (.int .i64 2)).run Tryz.prog w=.ok (.string ⟨#[109,105,110]⟩) w:=fun _=>by kernel_rfl
 have hx3:∀w:World,(Instr.index 171 (.agg #[.string ⟨#[99,111,117,110,116]⟩,.string ⟨#[115,117,109]⟩,.string ⟨#[109,105,110]⟩,.string ⟨#[109,97,120]⟩,.string ⟨#[109,101,97,110]⟩]) (.int .i64 3)).run Tryz.prog w=.ok (.string ⟨#[109,97,120]⟩) w:=fun _=>by kernel_rfl
 have hx4:∀w:World,(Instr.index 171 (.agg #[.string ⟨#[99,111,117,110,116]⟩,.string ⟨#[115,117,109]⟩,.string ⟨#[109,105,110]⟩,.string ⟨#[109,97,120]⟩,.string ⟨#[109,101,97,110]⟩]) (.int .i64 4)).run Tryz.prog w=.ok (.string ⟨#[109,101,97,110]⟩) w:=fun _=>by kernel_rfl
 by_cases h0:s.toList=[99,111,117,110,116]
 · have hv:foldL s.toList=1:=by rw[h0];rfl
   rw[hv];go_enter Tryz.func118,Tryz.ntmps118;go_wp2;refine wp_loop_rounds 1 ?_;rw[rounds_succ];go_wp2
   go_ret
   exact⟨rfl,rfl⟩
 by_cases h1:s.toList=[115,117,109]
 · have hv:foldL s.toList=2:=by rw[h1];rfl
   rw[hv];go_enter Tryz.func118,Tryz.ntmps118;go_wp2;refine wp_loop_rounds 2 ?_;rw[rounds_succ];go_wp2;rw[rounds_succ];go_wp2
   go_ret
   exact⟨rfl,rfl⟩
 by_cases h2:s.toList=[109,105,110]
 · have hv:foldL s.toList=3:=by rw[h2];rfl
   rw[hv];go_enter Tryz.func118,Tryz.ntmps118;go_wp2;refine wp_loop_rounds 3 ?_;rw[rounds_succ];go_wp2;rw[rounds_succ];go_wp2;rw[rounds_succ];go_wp2
   go_ret
   exact⟨rfl,rfl⟩
 by_cases h3:s.toList=[109,97,120]
 · have hv:foldL s.toList=4:=by rw[h3];rfl
   rw[hv];go_enter Tryz.func118,Tryz.ntmps118;go_wp2;refine wp_loop_rounds 4 ?_;rw[rounds_succ];go_wp2;rw[rounds_succ];go_wp2;rw[rounds_succ];go_wp2;rw[rounds_succ];go_wp2
   go_ret
   exact⟨rfl,rfl⟩
 by_cases h4:s.toList=[109,101,97,110]
 · have hv:foldL s.toList=5:=by rw[h4];rfl
   rw[hv];go_enter Tryz.func118,Tryz.ntmps118;go_wp2;refine wp_loop_rounds 5 ?_;rw[rounds_succ];go_wp2;rw[rounds_succ];go_wp2;rw[rounds_succ];go_wp2;rw[rounds_succ];go_wp2;rw[rounds_succ];go_wp2
   go_ret
   exact⟨rfl,rfl⟩
 have e0:(([99,111,117,110,116]:List UInt8)==s.toList)=false:=beq_eq_false_iff_ne.2 (Ne.symm h0);have e1:(([115,117,109]:List UInt8)==s.toList)=false:=beq_eq_false_iff_ne.2 (Ne.symm h1);have e2:(([109,105,110]:List UInt8)==s.toList)=false:=beq_eq_false_iff_ne.2 (Ne.symm h2);have e3:(([109,97,120]:List UInt8)==s.toList)=false:=beq_eq_false_iff_ne.2 (Ne.symm h3);have e4:(([109,101,97,110]:List UInt8)==s.toList)=false:=beq_eq_false_iff_ne.2 (Ne.symm h4);have hv:foldL s.toList=0:=by unfold foldL;rw[if_neg h0,if_neg h1,if_neg h2,if_neg h3,if_neg h4]
 rw[hv];go_enter Tryz.func118,Tryz.ntmps118;go_wp2;refine wp_loop_rounds 6 ?_;rw[rounds_succ];go_wp2;rw[rounds_succ];go_wp2;rw[rounds_succ];go_wp2;rw[rounds_succ];go_wp2;rw[rounds_succ];go_wp2;rw[rounds_succ];go_wp2
 go_ret
 exact⟨rfl,rfl⟩

theorem zgy {P : Program} {ops : Array Oper} {Q : Exit → Act → World → Prop} {oi : Oper} {N : Option Tmp} {a : Act} {w : World} {K : Act → World → Prop} {f : FuncId} {fn : Func} {xs_ : Array Operand} {ts : Array TypeId} (hf : P.funcs[f]? = some fn) (hname : (fn.name == "runtime.NumGoroutine") = false) (hb : fn.body.isSome = true) (args : Array Value)
 (hw:Region.wanted oi (yielded ops a.tmps)=true) (hN:oi.dst=N) (hop:oi.op=.call { callee:=.value (.func f),args:=xs_,argTypes:=ts }) (hargs:xs_.map a.eval=args)
 (h:Calls P f args w fun e w'=>(∃v,e=.returned v∧K (a.put N v) w')∨(∃c,e=.panicked c∧Q (.panic c) a w')):if Region.wanted oi (yielded ops a.tmps)=true then Oper.wp P oi a w K Q else K (a.put N undef) w:=by
 have he:=zf2 hf hname hb args w;have hrun:(execOp a.eval oi).run P w=.ok (.enter f args) w:=by
  unfold execOp
  simp[hop,resolve,Deferred.ofValue,invoke,Act.eval,hargs,he]
 rw[if_pos hw];subst hN;unfold Oper.wp;rw[hrun,Oper.upon_enter];refine h.mono fun e w'' hh=>?_
 rcases hh with ⟨v,rfl,hk⟩|⟨c,rfl,hk⟩
 · exact hk
 · exact hk
theorem Post.as {α:Type} {w0 w w':World} {g:Nat} {ts:List S108} {en:Int} {r r':Except (Nat × Int) (α × List TK)} {V:Value→World→α→Prop} {e:Ending} (h:r=r') (hp:Post w0 w g ts en r' V e w'):Post w0 w g ts en r V e w':=by
 subst h;exact hp
theorem Rd.le {w0 W:World} {g:Nat} {ts:List S108} {p:Nat} {en:Int} (h:Rd w0 W g ts p en):p≤ts.length:=by
 obtain⟨A,c,hb,hg,hr,h1,h2⟩:=h;exact h1
structure GM {α:Type} (d:Kd α) (e t:Nat) (cs:Value→Array Value) (z4:Array Value) (w0 w wr:World) (g n4 n6:Nat) (ts:List S108) (en:Int) (p:Nat) (acc:List α) (u:Value):Prop where
 R:Rd w0 wr g ts p en
 B:Below w0.heap.size w0 wr
 K:z0k w wr g none
 b4:wr.heap[n4]?=some (.cells z4 t (0,0))
 b6:wr.heap[n6]?=some (.cells (cs u) t (0,0))
 own:d.R e wr w.heap.size (fun k=>w.heap.size≤k∧k≠n4∧k≠n6) u acc
 h0:w0.heap.size≤w.heap.size
 gw:g<w.heap.size
 h4:w.heap.size≤n4
 h46:n4<n6
section
variable {α:Type} {d:Kd α} {e t:Nat} {cs:Value→Array Value} {z4:Array Value} {w0 w wr:World} {g n4 n6:Nat} {ts:List S108} {en:Int} {p:Nat} {acc:List α} {u:Value}
theorem GM.drew (h:GM d e t cs z4 w0 w wr g n4 n6 ts en p acc u):GM d e t cs z4 w0 w wr.drew g n4 n6 ts en p acc u :=
 ⟨h.R.drew,z05 h.B,zdz h.K,z0h h.b4,z0h h.b6,Kd.R_drew h.own,h.h0,h.gw,h.h4,h.h46⟩
theorem GM.alloc (h:GM d e t cs z4 w0 w wr g n4 n6 ts en p acc u) (o:Obj):GM d e t cs z4 w0 w (wr.alloc o) g n4 n6 ts en p acc u :=
 ⟨h.R.alloc o,z03 h.B o,z1k h.K o,z0c h.b4 o,z0c h.b6 o,Kd.R_alloc h.own o,h.h0,h.gw,h.h4,h.h46⟩
theorem GM.call (h:GM d e t cs z4 w0 w wr g n4 n6 ts en p acc u) {w1:World} {p2:Nat} (hR:Rd w0 w1 g ts p2 en) (hB:Below w0.heap.size w0 w1) (hK:z0k wr w1 g none):GM d e t cs z4 w0 w w1 g n4 n6 ts en p2 acc u:=by
 have h1:=h.gw;have h2:=h.h4;have h3:=h.h46;exact⟨hR,hB,h.K.trans hK (.inl rfl),hK.blk h.b4 (by omega) (by simp),hK.blk h.b6 (by omega) (by simp),Kd.R_keep h.own hK (fun k hk=>by have:=hk.1;omega),h.h0,h.gw,h.h4,h.h46⟩
theorem GM.move (h:GM d e t cs z4 w0 w wr g n4 n6 ts en p acc u) (q:Nat) (hq:q≤ts.length):GM d e t cs z4 w0 w (wr.setCell ⟨g,1,none⟩ (.int .i64 q)) g n4 n6 ts en q acc u:=by
 have h1:=h.gw;have h2:=h.h4;have h3:=h.h46;exact⟨h.R.move q hq,z06 h.B h.R.ge,z0k.set_ h.K 1 _,z11 h.b4 (by show n4≠g;omega) _,z11 h.b6 (by show n6≠g;omega) _,Kd.R_far h.own (fun k hk=>by have:=hk.1;show k≠g;omega) _,h.h0,h.gw,h.h4,h.h46⟩
theorem GM.fresh (h:GM d e t cs z4 w0 w wr g n4 n6 ts en p acc u) {k:Nat} (hk:wr.heap.size≤k):w.heap.size≤k∧k≠n4∧k≠n6:=by
 have h1:=z26 h.b4;have h2:=z26 h.b6;have h3:=h.K.1;omega
theorem GM.ne4 (h:GM d e t cs z4 w0 w wr g n4 n6 ts en p acc u):some n4≠u.ownBlock:=fun he=>(h.own.1 _ he.symm).2.1 rfl
theorem GM.ne6 (h:GM d e t cs z4 w0 w wr g n4 n6 ts en p acc u):some n6≠u.ownBlock:=fun he=>(h.own.1 _ he.symm).2.2 rfl
theorem GM.neg (h:GM d e t cs z4 w0 w wr g n4 n6 ts en p acc u):some g≠u.ownBlock:=fun he=>by
 have h1:=(h.own.1 _ he.symm).1;have h2:=h.gw;omega
theorem GM.more (h:GM d e t cs z4 w0 w wr g n4 n6 ts en p acc u) {w2:World} {u':Value} {acc':List α} (j:Nat) (hcs:(cs u).setIfInBounds j u'=cs u') (ho:d.R e w2 w.heap.size (fun k=>w.heap.size≤k∧k≠n4∧k≠n6) u' acc') (hb:Below w0.heap.size w0 w2) (hg:wr.grownBy w2 u.ownBlock) :
 GM d e t cs z4 w0 w (w2.setCell ⟨n6,j,none⟩ u') g n4 n6 ts en p acc' u':=by
 have h1:=h.gw;have h2:=h.h4;have h3:=h.h46;have h5:=h.h0;refine⟨(h.R.grown hg h.neg).far (by show g≠n6;omega) _,z06 hb (by omega),z41 (h.K.trans (z0k.of_grown hg g) ?_) (by show w.heap.size≤n6;omega) _,z11 (z3b h.b4 hg h.ne4) zA10 _,z0x (z3b h.b6 hg h.ne6) j u' hcs,Kd.R_far ho (fun k hk=>hk.2.2) _,h5,h1,h2,h3⟩
 cases hu:u.ownBlock with
 |none=>exact .inl rfl
 |some b=>exact .inr ⟨b,rfl,(h.own.1 b hu).1⟩
end
def atomE (s:ByteArray) (a:List TmS × Int) (l:List TK):Except (Nat × Int) ((AtS × Int) × List TK):=bnd (wantP [41] l) fun _ r=>.ok ((⟨s,a.1⟩,a.2),r)
theorem zja (head:Bool) (acc:List TmS) (l:List TK) (h:acc.length≤8):argsP head (9 - acc.length) acc l=if(acc.length==8&&z2h l)=true then .error (l.length,4)else if(head&&foldB l)=true then bnd (z45 (l.drop 2)) fun x r=>bnd (wantP [41] r) fun _ r=>.ok ((acc++[x],foldN l),r)else bnd (termP l) fun x r=>if mk0 r [44]then argsP head (8 - acc.length) (acc++[x]) (r.drop 1)else .ok ((acc++[x],0),r):=by
 obtain⟨n,hn⟩:∃n,8 - acc.length=n:=⟨_,rfl⟩
 rw[show 9 - acc.length=n+1 by omega,hn];have hb:(acc.length==8)=(n==0):=by
  by_cases h8:acc.length=8
  · rw[beq_iff_eq.2 h8,beq_iff_eq.2 (show n=0 by omega)]
  · rw[beq_eq_false_iff_ne.2 h8,beq_eq_false_iff_ne.2 (show n≠0 by omega)]
 rw[hb];rfl
theorem zfl {l:List TK} {x:TmS} {r:List TK} (h:termP l=.ok (x,r)):z2h l=true:=by
 cases hs:z2h l with
 |true=>rfl
 |false =>
  exfalso
  cases l with
  |nil=>cases h
  |cons t r =>
   simp only[z2h,Bool.or_eq_false_iff]at hs;simp only[termP,hs.1.1,hs.1.2,hs.2]at h
   cases h
theorem zgz (ts:List S108) (en:Int) (p:Nat):foldB (leftL ts p)=((seeP ts en p).f0==1&&foldL (seeP ts en p).f1.data.toList !=0&&mk0 (leftL ts (p+1)) [40]):=by
 rcases Nat.lt_or_ge p ts.length with h|h
 · rw[z3s en h];rfl
 · obtain⟨h1,h2⟩:=z4x en h;rw[h1,h2];rfl
theorem zhw (ts:List S108) (en:Int) (p:Nat) (h:p<ts.length):foldN (leftL ts p)=foldL (seeP ts en p).f1.data.toList:=by
 rw[z3s en h];rfl
theorem z65 {ts:List S108} {p:Nat} {s:List UInt8} (h:mk0 (leftL ts p) s=true):p<ts.length:=z5x fun e=>by
 rw[e]at h
 cases h
def atom11.T:Bool × List (List Nat × List Nat):=(true,[([],[]),([0],[0]),([],[]),([2],[2]),([3],[3]),([1,4,3],[1,4]),([0,1,2,3,4,5],[]),([6,5,5,0,1,2,3,4,5],[5,6])])
def atom11.B:List Nat:=[0,1,0,4,12,31,63,127]
theorem atom11.tab:rtab .any (opsOf Tryz.f87 11)=atom11.T:=by kernel_rfl
theorem atom11.bits:z3y atom11.T.2 atom11.B=true:=by kernel_rfl
def atom13.T:Bool × List (List Nat × List Nat):=(true,[([],[]),([0],[0]),([],[]),([2],[2]),([3],[3]),([1,4,3],[1,4]),([0,1,2,3,4,5],[]),([6,5,5,0,1,2,3,4,5],[5,6])])
def atom13.B:List Nat:=[0,1,0,4,12,31,63,127]
theorem atom13.tab:rtab .any (opsOf Tryz.f87 13)=atom13.T:=by kernel_rfl
theorem atom13.bits:z3y atom13.T.2 atom13.B=true:=by kernel_rfl
def atV (w':World) (base:Nat) (v:Value) (x:AtS × Int):Prop:=∃u,v=.tuple #[.agg #[.string x.1.f0,u],.int .i64 x.2]∧Kd.R k60 60 w' base (fun k=>base≤k) u x.1.f1
abbrev AtM (s:ByteArray):=GM k60 60 25 (fun u=>#[.string s,u]) #[.string ⟨#[]⟩,.slice none 0 0]
theorem AtM.ends {s:ByteArray} {w0 w wr:World} {g n4 n6:Nat} {ts:List S108} {en:Int} {p:Nat} {acc:List TmS} {u:Value} (h:AtM s w0 w wr g n4 n6 ts en p acc u) (f:Int) {r:Except (Nat × Int) ((AtS × Int) × List TK)} (hr:r=.ok ((⟨s,acc⟩,f),leftL ts p)) :
 z00 (((wr.setCell ⟨n4,0,none⟩ (.string s)).setCell ⟨n4,1,none⟩ u).heap[n4]?=some (.cells #[.string s,u] 25 (0,0))) ∧
 z00 (Post w0 w g ts en r (fun v w' x=>atV w' w.heap.size v x) (.returned (.tuple #[.agg #[.string s,u],.int .i64 f])) ((wr.setCell ⟨n4,0,none⟩ (.string s)).setCell ⟨n4,1,none⟩ u)):=by
 have h1:=h.gw;have h2:=h.h4;have h3:=h.h0;refine⟨⟨z0x (cs:=#[.string s,.slice none 0 0]) (z0x h.b4 0 (.string s) rfl) 1 u rfl⟩,⟨z06 (z06 h.B (by omega)) (by omega),z41 (z41 h.K (by show w.heap.size≤n4;omega) _) (by show w.heap.size≤n4;omega) _,p,(h.R.far (by show g≠n4;omega) _).far (by show g≠n4;omega) _,?_⟩⟩;rw[hr];refine⟨rfl,_,rfl,u,rfl,Kd.R_mono (Kd.R_far (Kd.R_far h.own (fun k hk=>hk.2.1) _) (fun k hk=>hk.2.1) _) (fun k hk=>hk.1)⟩
set_option maxHeartbeats 4000000 in
set_option maxRecDepth 100000 in
theorem z7d (w0 w:World) (g:Nat) (ts:List S108) (p:Nat) (en:Int) (head:Bool) (hE:Env w0 ts) (hI:Rd w0 w g ts p en) (hB:Below w0.heap.size w0 w) :
 Calls Tryz.prog 87 #[.pointer (some ⟨g,0,none⟩),.bool head] w fun e w'=>Post w0 w g ts en (atomP head (leftL ts p)) (fun v w' x=>atV w' w.heap.size v x) e w':=by
 have HE:=z00.mk hE;have hI1:=hI.alloc (.cells #[.string ⟨#[]⟩,.slice none 0 0] 25);have hB1:=z03 hB (.cells #[.string ⟨#[]⟩,.slice none 0 0] 25);have hK1:=z00.mk (z1k (z0k.refl w g none) (.cells #[.string ⟨#[]⟩,.slice none 0 0] 25));have hN:=z00.mk (z0q w (.cells #[.string ⟨#[]⟩,.slice none 0 0] 25));obtain⟨n4,en4⟩:∃n,w.heap.size=n:=⟨_,rfl⟩
 have h0w:=z00.mk hB.size;have hgw:=z00.mk hI.lt;rw[en4]at hN;have HP:=z5t w0 _ g ts p en hI1 hB1;clear hE hI hB hI1 hB1;obtain⟨rp,hrp⟩:∃rp,z1m (leftL ts p)=rp:=⟨_,rfl⟩
 rw[hrp]at HP;obtain⟨r,hr⟩:∃r,atomP head (leftL ts p)=r:=⟨_,rfl⟩
 rw[hr];have HA:=z00.mk (show r=bnd rp fun s r=>if mk0 r [40]then bnd (argsP head 9 [] (r.drop 1)) fun a r=>bnd (wantP [41] r) fun _ r=>.ok ((⟨s,a.1⟩,a.2),r)else .ok ((⟨s,[]⟩,0),r) by rw[←hr,←hrp];rfl);have HP:=z00.mk HP;clear hr hrp;go_enter Tryz.func87,Tryz.ntmps87
 go_wp2_with fail
 refine HP.out.mono ?_;intro e w1 hp;rcases hp.split with ⟨s,p1,v,rfl,rfl,rfl,R,B,K⟩|⟨q,i,p1,rfl,h1,h2,rfl,R,B,K⟩
 case inr=>exact⟨rfl,Post.as HA.out (Post.thrown_ h1 h2 R B (hK1.out.trans K (.inl rfl)))⟩
 obtain⟨n6,en6⟩:∃n,w1.heap.size=n:=⟨_,rfl⟩
 have hgn:g≠n4:=by have:=hgw.out;omega
 have hb4:=K.blk hN.out hgn.symm (by simp);have hN6:=z0q w1 (.cells #[.string s,.slice none 0 0] 25);rw[en6]at hN6;have HM:=z00.mk (show AtM s w0 w (w1.alloc (.cells #[.string s,.slice none 0 0] 25)) g n4 n6 ts en p1 [] (.slice none 0 0)from⟨R.alloc _,z03 B _,z1k (hK1.out.trans K (.inl rfl)) _,z0c hb4 _,hN6,Kd.R_nil _ _ _ _ _,h0w.out,hgw.out,by omega,by have:=z26 hb4;omega⟩);clear R B K hp hb4 hN6 hK1 hN HP;have HS:=z00.mk (z1e w0 _ g ts p1 en ⟨#[40]⟩ HM.out.R HM.out.B);rw[z1g]at HS
 cases hm:mk0 (leftL ts p1) [40]with
 |false =>
  have HA2:=z00.mk (show r=.ok ((⟨s,[]⟩,0),leftL ts p1) by rw[HA.out];show(if mk0 (leftL ts p1) [40]=true then _ else _)=_;rw[hm];rfl);rw[show((⟨#[40]⟩:ByteArray).data.toList)=[40]from rfl,hm]at HS;clear HA
  go_wp2_with fail
  refine HS.out.mono ?_;rintro e w2 ⟨rfl,R,B,K⟩;simp only[Bool.false_eq_true,if_false]at R;replace HM:=z00.mk (HM.out.call R B K);clear R B K;have hc60:w2.cell? ⟨n6,0,none⟩=some (.string s):=(z01 HM.out.b6 0).trans rfl;have hc61:w2.cell? ⟨n6,1,none⟩=some (.slice none 0 0):=(z01 HM.out.b6 1).trans rfl;have hc40:w2.cell? ⟨n4,0,none⟩=some (.string ⟨#[]⟩):=(z01 HM.out.b4 0).trans rfl;have hc41:w2.cell? ⟨n4,1,none⟩=some (.slice none 0 0):=(z01 HM.out.b4 1).trans rfl;have hf40:=z02 HM.out.b4 0;have hf41:=z02 HM.out.b4 1;go_wp2;obtain⟨P1,P2⟩:=AtM.ends HM.out 0 HA2.out;refine bodyPost_ret (z3w rfl _ _ n4 25 #[.string s,.slice none 0 0] (0,0) _ rfl P1.out Tryz.underlying25 rfl (by kernel_rfl)) rfl ?_;exact P2.out
 |true =>
  have HQ:=z00.mk (show r=bnd (argsP head (9 - ([]:List TmS).length) [] (leftL ts (p1+1))) (atomE s) by rw[HA.out];show(if mk0 (leftL ts p1) [40]=true then _ else _)=_;rw[hm,z0p];rfl);rw[show((⟨#[40]⟩:ByteArray).data.toList)=[40]from rfl,hm]at HS;have hp1:=z65 hm;clear HA
  go_wp2_with fail
  refine HS.out.mono ?_;rintro e w2 ⟨rfl,R,B,K⟩;simp only[if_true]at R;replace HM:=z00.mk (HM.out.call R B K);clear R B K HS;go_wp2
  go_loopg [7] 9 (fun kq v7 w'=>∃(acc:List TmS) (p':Nat) (u:Value),v7=.int .i64 0∧acc.length+kq=9∧acc.length≤8∧z00 (r=bnd (argsP head (9 - acc.length) acc (leftL ts p')) (atomE s))∧z00 (AtM s w0 w w' g n4 n6 ts en p' acc u))
  case atStart=>exact⟨[],p1+1,_,rfl,rfl,by simp,HQ,HM⟩
  case round =>
   clear HQ HM hm hp1;obtain⟨acc,p',u,rfl,hk9,hl8,HQ,HM⟩:=hrel
   cases gk with
   |zero=>exact absurd hk9 (by omega)
   |succ k1 =>
   have HLEN:=z00.mk hl8;replace HQ:=z00.mk (HQ.out.trans (by rw[zja head acc _ hl8]));obtain⟨A,c,rfl⟩:=Kd.R_slice HM.out.own;have hc60:wr.cell? ⟨n6,0,none⟩=some (.string s):=(z01 HM.out.b6 0).trans rfl;have hc61:wr.cell? ⟨n6,1,none⟩=some (.slice A acc.length c):=(z01 HM.out.b6 1).trans rfl;have HST:=z00.mk (z3c w0 wr g ts p' en HM.out.R HM.out.B);obtain⟨st,hst⟩:∃st,z2h (leftL ts p')=st:=⟨_,rfl⟩
   rw[hst]at HST HQ;have HSC:=HST;replace HST:=z00.mk hst.symm;clear hst
   go_upto_region 5 with (fail)
   go_cut [23] (fun v23 wc=>v23=.bool (acc.length==8&&st)∧z00 (AtM s w0 w wc g n4 n6 ts en p' acc (.slice A acc.length c)))
   case first =>
    by_cases h8:acc.length=8
    · have c0:((acc.length:Int)==8)=true:=beq_iff_eq.2 (by omega);have c1:(acc.length==8)=true:=beq_iff_eq.2 h8
      go_wp2_with fail
      refine HSC.out.mono ?_;rintro e w3 ⟨rfl,R,B,K⟩;have HM2:=z00.mk (HM.out.call R B K);clear R B K;go_wp2;go_meet
      case rel=>exact⟨by rw[c1];rfl,HM2⟩
    · have c0:((acc.length:Int)==8)=false:=beq_eq_false_iff_ne.2 (by omega);have c1:(acc.length==8)=false:=beq_eq_false_iff_ne.2 h8;go_wp2;go_meet
      case rel=>exact⟨by rw[c1];rfl,HM⟩
   case rest =>
    clear HM hc60 hc61;obtain⟨rfl,HM⟩:=hcut;obtain⟨fl,hfl⟩:∃fl,(acc.length==8&&st)=fl:=⟨_,rfl⟩
    rw[hfl]at HQ ⊢;have HFL:=z00.mk hfl;clear hfl HSC
    cases fl with
    |true =>
     have HF:=z00.mk (z4t w0 wc g ts p' en 4 HM.out.R HM.out.B)
     go_wp2_with fail
     refine HF.out.mono ?_;rintro e w3 ⟨rfl,R,B,K⟩;exact⟨rfl,Post.as (by rw[HQ.out];rfl) (Post.thrown_ (q:=((leftL ts p').length,4)) (i:=p') R.le (z0s ts p').symm R B (HM.out.K.trans K (.inl rfl)))⟩
    |false =>
    simp only[Bool.false_eq_true,if_false,z0p]at HQ;obtain⟨x,hx⟩:∃x,seeP ts en p'=x:=⟨_,rfl⟩
    have HS2:=z00.mk (z29 w0 wc g ts p' en 0 (by omega) HM.out.R HM.out.B);have HFB:=z00.mk (zgz ts en p');rw[Nat.add_zero]at HS2;rw[hx]at HS2 HFB;have HXX:=z00.mk hx;clear hx
    go_wp2_with fail
    refine HS2.out.mono ?_;rintro e w3 ⟨rfl,R,B,K⟩;obtain⟨n8,en8⟩:∃n,w3.heap.size=n:=⟨_,rfl⟩
    have HGN:=z00.mk (show g<n8 by have:=R.lt;omega);have hX:=z0q w3 (.cells #[.int .i64 x.f0,.string x.f1,.int .i64 x.f2] 108);rw[en8]at hX;have HX:=z00.mk hX;replace HM:=z00.mk ((HM.out.call R B K).alloc (.cells #[.int .i64 x.f0,.string x.f1,.int .i64 x.f2] 108));clear R B K HS2 hX
    go_upto_region 8 with (fail)
    generalize w3.alloc (.cells #[.int .i64 x.f0,.string x.f1,.int .i64 x.f2] 108)=w4 at HM HX ⊢
    have hx0:w4.cell? ⟨n8,0,none⟩=some (.int .i64 x.f0):=(z01 HX.out 0).trans rfl;have hx1:w4.cell? ⟨n8,1,none⟩=some (.string x.f1):=(z01 HX.out 1).trans rfl
    go_cut [43] (fun v43 wd=>v43=.bool (head&&foldB (leftL ts p'))∧z00 (wd.heap[n8]?=some (.cells #[.int .i64 x.f0,.string x.f1,.int .i64 x.f2] 108 (0,0)))∧z00 (AtM s w0 w wd g n4 n6 ts en p' acc (.slice A acc.length c)))
    case first =>
     have HFC:=z00.mk (fun W=>zay x.f1 W);have HMK:=z00.mk (z7f w0 w4 g ts p' en 1 ⟨#[40]⟩ (by omega) HM.out.R HM.out.B);rw[z1g,show((⟨#[40]⟩:ByteArray).data.toList)=[40]from rfl]at HMK;obtain⟨m1,hm1⟩:∃m,mk0 (leftL ts (p'+1)) [40]=m:=⟨_,rfl⟩
     rw[hm1]at HMK HFB;obtain⟨fd,hfd⟩:∃m,foldL x.f1.data.toList=m:=⟨_,rfl⟩
     rw[hfd]at HFB HFC;have hb:=HFB.out;clear HFB
     cases head with
     |false =>
      go_wp2;go_meet
      case rel=>exact⟨rfl,HX,HM⟩
     |true =>
      cases c1:(x.f0==1)with
      |false =>
       rw[c1,Bool.false_and,Bool.false_and]at hb;go_wp2;go_meet
       case rel=>exact⟨by rw[hb];rfl,HX,HM⟩
      |true =>
       rw[c1,Bool.true_and]at hb
       cases c2:(fd !=0)with
       |false =>
        rw[c2,Bool.false_and]at hb
        go_wp2_with (go_at_call 118;refine(HFC.out _).mono ?_;rintro e w' ⟨rfl,rfl⟩)
        go_meet
        case rel=>exact⟨by rw[hb];rfl,HX,HM⟩
       |true =>
        rw[c2,Bool.true_and]at hb
        go_wp2_with (go_at_call 118;refine(HFC.out _).mono ?_;rintro e w' ⟨rfl,rfl⟩)
        refine HMK.out.mono ?_;rintro e w5 ⟨rfl,R,B,K⟩;have HM5:=z00.mk (HM.out.call R B K);have HX5:=z00.mk (K.blk HX.out (by have h1:=HM.out.gw;have h2:=HM.out.h4;have h3:=HM.out.h46;have h4:=HM.out.R.lt;have h5:=HGN.out;omega) (by simp));clear R B K;go_wp2;go_meet
        case rel=>exact⟨by rw[hb];rfl,HX5,HM5⟩
    case rest =>
     clear HM HX hx0 hx1;obtain⟨rfl,HX,HM⟩:=hcut;obtain⟨hf,hhf⟩:∃b,(head&&foldB (leftL ts p'))=b:=⟨_,rfl⟩
     rw[hhf]at HQ ⊢;have HHF:=z00.mk hhf;clear hhf
     cases hf with
     |true =>
      simp only[if_true]at HQ;have hfb:foldB (leftL ts p')=true:=by
       have h1:=HHF.out;simp only[Bool.and_eq_true]at h1;exact h1.2
      have hm1:mk0 (leftL ts (p'+1)) [40]=true:=by
       have h1:=HFB.out;rw[hfb]at h1;simp only[Bool.true_eq,Bool.and_eq_true]at h1;exact h1.2
      have hp2:=z65 hm1;have hfn:foldN (leftL ts p')=foldL x.f1.data.toList:=by rw[zhw ts en p' (by omega),HXX.out]
      rw[hfn]at HQ;have HFC:=z00.mk (fun W=>zay x.f1 W);obtain⟨fd,hfd⟩:∃m,foldL x.f1.data.toList=m:=⟨_,rfl⟩
      rw[hfd]at HQ HFC;clear hfb hm1 hfn hfd HFB HHF HXX;have hx1:wc.cell? ⟨n8,1,none⟩=some (.string x.f1):=(z01 HX.out 1).trans rfl;obtain⟨Ag,cg,hbg,_⟩:=HM.out.R;have hcg:wc.cell? ⟨g,1,none⟩=some (.int .i64 p'):=(z01 hbg 1).trans rfl;have hfg:=z02 hbg 1;clear hbg HX;replace HM:=z00.mk (HM.out.move (p'+2) (by omega));rw[show((p'+2:Nat):Int)=(p':Int)+2 by omega]at HM
      go_wp2_with (go_at_call 118;refine(HFC.out _).mono ?_;rintro e w' ⟨rfl,he⟩;obtain rfl:=he.symm)
      generalize wc.setCell ⟨g,1,none⟩ (.int .i64 ((p':Int)+2))=we at HM ⊢
      replace HM:=z00.mk HM.out.drew;refine z68 (n:=8) (S:=fun w'=>w'.cell? ⟨n6,1,none⟩=some (.slice A acc.length c)) (ds:=[7]) #[false,false,false,false,false,false,false,false] (by kernel_rfl) rfl rfl ((z01 HM.out.b6 1).trans rfl) (fun hHeld=>?_);refine z39 atom11.tab atom11.bits (fun HT_ HW_=>?_)
      generalize we.drew=w1 at HM hHeld ⊢
      refine pure_ (i:=0) (N:=some 54) (v:=?_) (a':=?_) #[true,false,false,false,false,false,false,false] rfl rfl (z0r HT_.out (by kernel_rfl)) (fun _ _ _ h=>h) (Or.inl ⟨by rfl,?_⟩) ?_ ?_
      rotate_left
      · intro w'
        go_simp
        with_reducible rfl
      rotate_left
      · simp only[Act.put,List.setIfInBounds_toArray,List.set_cons_zero,List.set_cons_succ,i64_w,i32_w];rfl
      refine pure_ (i:=2) (N:=some 56) (v:=?_) (a':=?_) #[true,false,true,false,false,false,false,false] rfl rfl (z0r HT_.out (by kernel_rfl)) (fun _ _ _ h=>h) (Or.inl ⟨by rfl,?_⟩) ?_ ?_
      rotate_left
      · intro w'
        go_simp
        with_reducible rfl
      rotate_left
      · simp only[Act.put,List.setIfInBounds_toArray,List.set_cons_zero,List.set_cons_succ,i64_w,i32_w];rfl
      refine take_ (i:=1) (N:=some 55) (v:=?_) (a':=?_) #[true,true,true,false,false,false,false,false] rfl rfl (z1j HT_.out HW_.out (by kernel_rfl)) (fun _ _ _ h=>h) (Or.inl ⟨by rfl,?_⟩) hHeld ?_ ?_
      rotate_left
      · rintro w' s1
        go_simp
        with_reducible rfl
      rotate_left
      · simp only[Act.put,List.setIfInBounds_toArray,List.set_cons_zero,List.set_cons_succ,i64_w,i32_w];rfl
      refine one_ (i:=3) (N:=some 57) #[true,true,true,true,false,false,false,false] rfl rfl (z2a HT_.out (by kernel_rfl)) (by decide) (fun K hK=>?_);refine zgy Tryz.func119 (by kernel_rfl) rfl #[.pointer (some ⟨g,0,none⟩)] (by rfl) rfl rfl zA03 ?_;refine(z6c w0 w1 g ts (p'+2) en HM.out.R HM.out.B).mono ?_;intro e w2 hp;rcases hp.split with ⟨y,p2,v,er,rfl,hv,R,B,Kk⟩|⟨q,i,p2,er,h1,h2,rfl,R,B,Kk⟩
      case inr=>exact .inr ⟨_,rfl,rfl,Post.as (by rw[HQ.out,er];rfl) (Post.thrown_ h1 h2 R B (HM.out.K.trans Kk (.inl rfl)))⟩
      obtain rfl:=hv;refine .inl ⟨_,rfl,?_⟩;have HER:=z00.mk er;replace HM:=z00.mk (HM.out.call R B Kk);clear R B Kk hp er;refine hK.out _ _ ((z01 HM.out.b6 1).trans rfl) (fun hHeld=>?_);clear hK K;refine norm_ (a':=?_) ?_ ?_
      rotate_left
      · show Act.put _ (some 57) _=_;simp only[Act.put,List.setIfInBounds_toArray,List.set_cons_zero,List.set_cons_succ,i64_w,i32_w];rfl
      simp only[tmV];refine one_ (i:=4) (N:=some 58) #[true,true,true,true,true,false,false,false] rfl rfl (z2a HT_.out (by kernel_rfl)) (by decide) (fun K hK=>?_);refine zbf (w1:=?_) (v:=?_) (by rfl) rfl ?_ ?_
      rotate_left 2
      · go_simp
        constructor
        · rfl
        · rfl
      refine hK.out _ _ ((z01 (z0c HM.out.b6 _) 1).trans rfl) (fun hHeld=>?_);clear hK K;refine norm_ (a':=?_) ?_ ?_
      rotate_left
      · show Act.put _ (some 58) _=_;simp only[Act.put,List.setIfInBounds_toArray,List.set_cons_zero,List.set_cons_succ,i64_w,i32_w];rfl
      refine one_ (i:=5) (N:=some 59) #[true,true,true,true,true,true,false,false] rfl rfl (z2a HT_.out (by kernel_rfl)) (by decide) (fun K hK=>?_);refine Kd.R_append_step k60 w.heap.size (by rfl) (.tmp 55) (.tmp 58) 23 60 (.agg #[(.string ⟨#[]⟩),(.int .i64 0),(.int .i64 0),(.string ⟨#[]⟩)]) 48 rfl Tryz.underlying23 info60 rfl (by decide) (by omega) (.slice A acc.length c) acc y [.string y.f0,.int .i64 y.f1.f0,.int .i64 y.f1.f1,.string y.f1.f2] (fun k=>w.heap.size≤k∧k≠n4∧k≠n6) (fun _=>False) rfl rfl (z95 _ _ _ y) (fun _ hk=>hk.elim) (fun k hk=>HM.out.fresh hk) HM.out.own (Below.refl _ _) HM.out.K.1 (by have:=HLEN.out;omega) ?_;intro u' w3 ho hb hg hat;obtain⟨A',c',eu⟩:=Kd.R_slice ho;rw[List.length_append,List.length_singleton]at eu;subst eu;have HM3:=z00.mk (HM.out.more (u':=.slice A' (acc.length+1) c') 1 rfl ho (z5e HM.out.B HM.out.h0 hb) hg);have HB6:=z3b HM.out.b6 hg HM.out.ne6;refine hK.out _ _ ((z01 HB6 1).trans rfl) (fun hHeld=>?_);clear hK K;refine norm_ (a':=?_) ?_ ?_
      rotate_left
      · show Act.put _ (some 59) _=_;simp only[Act.put,List.setIfInBounds_toArray,List.set_cons_zero,List.set_cons_succ,i64_w,i32_w];rfl
      refine pure_ (i:=6) (N:=some 60) (v:=?_) (a':=?_) #[true,true,true,true,true,true,true,false] rfl rfl (z0r HT_.out (by kernel_rfl)) (fun _ _ _ h=>h) (Or.inl ⟨by rfl,?_⟩) ?_ ?_
      rotate_left
      · intro w'
        go_simp
        with_reducible rfl
      rotate_left
      · simp only[Act.put,List.setIfInBounds_toArray,List.set_cons_zero,List.set_cons_succ,i64_w,i32_w];rfl
      refine last_ (i:=7) (N:=none) #[true,true,true,true,true,true,true,true] rfl rfl (z2a HT_.out (by kernel_rfl)) (by decide) (fun K hK=>?_);have hs6:w3.cell? ⟨n6,1,none⟩=some (.slice A acc.length c):=(z01 HB6 1).trans rfl;have hsf6:=z02 HB6 1;refine skip_ (w1:=?_) (by rfl) rfl ?_ ?_
      rotate_left
      · go_simp
        rfl
      refine hK.out _ _ ?_;clear hK K;refine done_ (z4w HT_.out (by kernel_rfl)) ?_;clear HM hs6 hsf6 HB6 ho hb hg hat hHeld HT_ HW_;have HM:=HM3;clear HM3
      generalize w3.setCell ⟨n6,1,none⟩ (.slice A' (acc.length+1) c')=w4 at HM ⊢
      replace HQ:=z00.mk (HQ.out.trans (by rw[HER.out];rfl:_=bnd (bnd (wantP [41] (leftL ts p2)) fun _ r=>.ok ((acc++[y],fd),r)) (atomE s)));clear HER;have HW3:=z00.mk (show Calls Tryz.prog 88 #[.pointer (some ⟨g,0,none⟩),.string ⟨#[41]⟩] w4 fun e w'=>Post w0 w4 g ts en (wantP [41] (leftL ts p2)) (fun v _ _=>v=.tuple #[]) e w' from z3i w0 w4 g ts p2 en ⟨#[41]⟩ HM.out.R HM.out.B)
      go_wp2_with fail
      refine HW3.out.mono ?_;intro e w5 hp;rcases hp.split with ⟨y2,p3,v2,ew,rfl,rfl,R,B,K⟩|⟨q,i,p3,ew,h1,h2,rfl,R,B,K⟩
      case inr=>exact⟨rfl,Post.as (by rw[HQ.out,ew];rfl) (Post.thrown_ h1 h2 R B (HM.out.K.trans K (.inl rfl)))⟩
      replace HQ:=z00.mk (HQ.out.trans (by rw[ew];rfl:_=bnd (.ok ((acc++[y],fd),leftL ts p3)) (atomE s)));replace HM:=z00.mk (HM.out.call R B K);clear R B K hp HW3 ew;replace HQ:=z00.mk (show r=bnd (wantP [41] (leftL ts p3)) (fun _ r=>.ok ((⟨s,acc++[y]⟩,fd),r))from HQ.out);have HW2:=z00.mk (show Calls Tryz.prog 88 #[.pointer (some ⟨g,0,none⟩),.string ⟨#[41]⟩] w5 fun e w'=>Post w0 w5 g ts en (wantP [41] (leftL ts p3)) (fun v _ _=>v=.tuple #[]) e w' from z3i w0 w5 g ts p3 en ⟨#[41]⟩ HM.out.R HM.out.B)
      go_wp2_with fail
      refine HW2.out.mono ?_;intro e w6 hp;rcases hp.split with ⟨y2,p4,v2,ew2,rfl,rfl,R,B,K⟩|⟨q,i,p4,ew2,h1,h2,rfl,R,B,K⟩
      case inr=>exact⟨rfl,Post.as (by rw[HQ.out,ew2];rfl) (Post.thrown_ h1 h2 R B (HM.out.K.trans K (.inl rfl)))⟩
      replace HQ:=z00.mk (show r=.ok ((⟨s,acc++[y]⟩,fd),leftL ts p4) by rw[HQ.out,ew2];rfl);replace HM:=z00.mk (HM.out.call R B K);clear R B K hp HW2 ew2;have hd60:w6.cell? ⟨n6,0,none⟩=some (.string s):=(z01 HM.out.b6 0).trans rfl;have hd61:w6.cell? ⟨n6,1,none⟩=some (.slice A' (acc.length+1) c'):=(z01 HM.out.b6 1).trans rfl;have hd40:w6.cell? ⟨n4,0,none⟩=some (.string ⟨#[]⟩):=(z01 HM.out.b4 0).trans rfl;have hd41:w6.cell? ⟨n4,1,none⟩=some (.slice none 0 0):=(z01 HM.out.b4 1).trans rfl;have hg40:=z02 HM.out.b4 0;have hg41:=z02 HM.out.b4 1;obtain⟨P1,P2⟩:=AtM.ends HM.out (fd) HQ.out;obtain⟨ln,hln⟩:∃ln,acc.length+1=ln:=⟨_,rfl⟩
      rw[hln]at hd61 P1 P2;go_wp2;refine bodyPost_ret (z3w rfl _ _ n4 25 #[.string s,.slice A' ln c'] (0,0) _ rfl P1.out Tryz.underlying25 rfl (by kernel_rfl)) rfl ?_;exact P2.out
     |false =>
      simp only[Bool.false_eq_true,if_false]at HQ;clear HFB HX HHF;go_wp2;replace HM:=z00.mk HM.out.drew;refine z68 (n:=8) (S:=fun w'=>w'.cell? ⟨n6,1,none⟩=some (.slice A acc.length c)) (ds:=[7]) #[false,false,false,false,false,false,false,false] (by kernel_rfl) rfl rfl ((z01 HM.out.b6 1).trans rfl) (fun hHeld=>?_);refine z39 atom13.tab atom13.bits (fun HT_ HW_=>?_)
      generalize wc.drew=w1 at HM hHeld ⊢
      refine pure_ (i:=0) (N:=some 63) (v:=?_) (a':=?_) #[true,false,false,false,false,false,false,false] rfl rfl (z0r HT_.out (by kernel_rfl)) (fun _ _ _ h=>h) (Or.inl ⟨by rfl,?_⟩) ?_ ?_
      rotate_left
      · intro w'
        go_simp
        with_reducible rfl
      rotate_left
      · simp only[Act.put,List.setIfInBounds_toArray,List.set_cons_zero,List.set_cons_succ,i64_w,i32_w];rfl
      refine pure_ (i:=2) (N:=some 65) (v:=?_) (a':=?_) #[true,false,true,false,false,false,false,false] rfl rfl (z0r HT_.out (by kernel_rfl)) (fun _ _ _ h=>h) (Or.inl ⟨by rfl,?_⟩) ?_ ?_
      rotate_left
      · intro w'
        go_simp
        with_reducible rfl
      rotate_left
      · simp only[Act.put,List.setIfInBounds_toArray,List.set_cons_zero,List.set_cons_succ,i64_w,i32_w];rfl
      refine take_ (i:=1) (N:=some 64) (v:=?_) (a':=?_) #[true,true,true,false,false,false,false,false] rfl rfl (z1j HT_.out HW_.out (by kernel_rfl)) (fun _ _ _ h=>h) (Or.inl ⟨by rfl,?_⟩) hHeld ?_ ?_
      rotate_left
      · rintro w' s1
        go_simp
        with_reducible rfl
      rotate_left
      · simp only[Act.put,List.setIfInBounds_toArray,List.set_cons_zero,List.set_cons_succ,i64_w,i32_w];rfl
      refine one_ (i:=3) (N:=some 66) #[true,true,true,true,false,false,false,false] rfl rfl (z2a HT_.out (by kernel_rfl)) (by decide) (fun K hK=>?_);refine zgy Tryz.func120 (by kernel_rfl) rfl #[.pointer (some ⟨g,0,none⟩)] (by rfl) rfl rfl zA03 ?_;refine(z4q w0 w1 g ts p' en HE.out HM.out.R HM.out.B).mono ?_;intro e w2 hp;rcases hp.split with ⟨y,p2,v,er,rfl,hv,R,B,Kk⟩|⟨q,i,p2,er,h1,h2,rfl,R,B,Kk⟩
      case inr=>exact .inr ⟨_,rfl,rfl,Post.as (by rw[HQ.out,er];rfl) (Post.thrown_ h1 h2 R B (HM.out.K.trans Kk (.inl rfl)))⟩
      obtain rfl:=hv;refine .inl ⟨_,rfl,?_⟩;have HER:=z00.mk er;replace HM:=z00.mk (HM.out.call R B Kk);clear R B Kk hp er;refine hK.out _ _ ((z01 HM.out.b6 1).trans rfl) (fun hHeld=>?_);clear hK K;refine norm_ (a':=?_) ?_ ?_
      rotate_left
      · show Act.put _ (some 66) _=_;simp only[Act.put,List.setIfInBounds_toArray,List.set_cons_zero,List.set_cons_succ,i64_w,i32_w];rfl
      simp only[tmV];refine one_ (i:=4) (N:=some 67) #[true,true,true,true,true,false,false,false] rfl rfl (z2a HT_.out (by kernel_rfl)) (by decide) (fun K hK=>?_);refine zbf (w1:=?_) (v:=?_) (by rfl) rfl ?_ ?_
      rotate_left 2
      · go_simp
        constructor
        · rfl
        · rfl
      refine hK.out _ _ ((z01 (z0c HM.out.b6 _) 1).trans rfl) (fun hHeld=>?_);clear hK K;refine norm_ (a':=?_) ?_ ?_
      rotate_left
      · show Act.put _ (some 67) _=_;simp only[Act.put,List.setIfInBounds_toArray,List.set_cons_zero,List.set_cons_succ,i64_w,i32_w];rfl
      refine one_ (i:=5) (N:=some 68) #[true,true,true,true,true,true,false,false] rfl rfl (z2a HT_.out (by kernel_rfl)) (by decide) (fun K hK=>?_);refine Kd.R_append_step k60 w.heap.size (by rfl) (.tmp 64) (.tmp 67) 23 60 (.agg #[(.string ⟨#[]⟩),(.int .i64 0),(.int .i64 0),(.string ⟨#[]⟩)]) 48 rfl Tryz.underlying23 info60 rfl (by decide) (by omega) (.slice A acc.length c) acc y [.string y.f0,.int .i64 y.f1.f0,.int .i64 y.f1.f1,.string y.f1.f2] (fun k=>w.heap.size≤k∧k≠n4∧k≠n6) (fun _=>False) rfl rfl (z95 _ _ _ y) (fun _ hk=>hk.elim) (fun k hk=>HM.out.fresh hk) HM.out.own (Below.refl _ _) HM.out.K.1 (by have:=HLEN.out;omega) ?_;intro u' w3 ho hb hg hat;obtain⟨A',c',eu⟩:=Kd.R_slice ho;rw[List.length_append,List.length_singleton]at eu;subst eu;have HM3:=z00.mk (HM.out.more (u':=.slice A' (acc.length+1) c') 1 rfl ho (z5e HM.out.B HM.out.h0 hb) hg);have HB6:=z3b HM.out.b6 hg HM.out.ne6;refine hK.out _ _ ((z01 HB6 1).trans rfl) (fun hHeld=>?_);clear hK K;refine norm_ (a':=?_) ?_ ?_
      rotate_left
      · show Act.put _ (some 68) _=_;simp only[Act.put,List.setIfInBounds_toArray,List.set_cons_zero,List.set_cons_succ,i64_w,i32_w];rfl
      refine pure_ (i:=6) (N:=some 69) (v:=?_) (a':=?_) #[true,true,true,true,true,true,true,false] rfl rfl (z0r HT_.out (by kernel_rfl)) (fun _ _ _ h=>h) (Or.inl ⟨by rfl,?_⟩) ?_ ?_
      rotate_left
      · intro w'
        go_simp
        with_reducible rfl
      rotate_left
      · simp only[Act.put,List.setIfInBounds_toArray,List.set_cons_zero,List.set_cons_succ,i64_w,i32_w];rfl
      refine last_ (i:=7) (N:=none) #[true,true,true,true,true,true,true,true] rfl rfl (z2a HT_.out (by kernel_rfl)) (by decide) (fun K hK=>?_);have hs6:w3.cell? ⟨n6,1,none⟩=some (.slice A acc.length c):=(z01 HB6 1).trans rfl;have hsf6:=z02 HB6 1;refine skip_ (w1:=?_) (by rfl) rfl ?_ ?_
      rotate_left
      · go_simp
        rfl
      refine hK.out _ _ ?_;clear hK K;refine done_ (z4w HT_.out (by kernel_rfl)) ?_;clear HM hs6 hsf6 HB6 ho hb hg hat hHeld HT_ HW_;have HM:=HM3;clear HM3
      generalize w3.setCell ⟨n6,1,none⟩ (.slice A' (acc.length+1) c')=w4 at HM ⊢
      replace HQ:=z00.mk (HQ.out.trans (by rw[HER.out];rfl:_=bnd (if mk0 (leftL ts p2) [44]=true then argsP head (8 - acc.length) (acc++[y]) ((leftL ts p2).drop 1)else .ok ((acc++[y],0),leftL ts p2)) (atomE s)));have hst:z2h (leftL ts p')=true:=zfl HER.out;have h8:acc.length≠8:=fun h=>by
       have h1:=HFL.out;rw[HST.out,hst,beq_iff_eq.2 h]at h1
       cases h1
      clear HER hst;have HS4:=z00.mk (z1e w0 w4 g ts p2 en ⟨#[44]⟩ HM.out.R HM.out.B);rw[z1g,show((⟨#[44]⟩:ByteArray).data.toList)=[44]from rfl]at HS4
      cases hm2:mk0 (leftL ts p2) [44]with
      |true =>
       rw[hm2]at HS4;simp only[hm2,if_true,z0p]at HQ
       go_wp2_with fail
       refine HS4.out.mono ?_;rintro e w5 ⟨rfl,R,B,K⟩;simp only[if_true]at R;replace HM:=z00.mk (HM.out.call R B K);clear R B K HS4;have hl1:(acc++[y]).length=acc.length+1:=by simp
       go_wp2
       go_roundg k1
       case rel=>exact⟨acc++[y],p2+1,_,rfl,by omega,by have:=HLEN.out;omega,⟨by rw[HQ.out,show 9 - (acc++[y]).length=8 - acc.length by omega]⟩,HM⟩
       case measure=>omega
      |false =>
       rw[hm2]at HS4;simp only[hm2,Bool.false_eq_true,if_false]at HQ
       go_wp2_with fail
       refine HS4.out.mono ?_;rintro e w5 ⟨rfl,R,B,K⟩;simp only[Bool.false_eq_true,if_false]at R;replace HM:=z00.mk (HM.out.call R B K);clear R B K HS4;replace HQ:=z00.mk (show r=bnd (wantP [41] (leftL ts p2)) (fun _ r=>.ok ((⟨s,acc++[y]⟩,0),r))from HQ.out);have HW2:=z00.mk (show Calls Tryz.prog 88 #[.pointer (some ⟨g,0,none⟩),.string ⟨#[41]⟩] w5 fun e w'=>Post w0 w5 g ts en (wantP [41] (leftL ts p2)) (fun v _ _=>v=.tuple #[]) e w' from z3i w0 w5 g ts p2 en ⟨#[41]⟩ HM.out.R HM.out.B)
       go_wp2_with fail
       refine HW2.out.mono ?_;intro e w6 hp;rcases hp.split with ⟨y2,p4,v2,ew2,rfl,rfl,R,B,K⟩|⟨q,i,p4,ew2,h1,h2,rfl,R,B,K⟩
       case inr=>exact⟨rfl,Post.as (by rw[HQ.out,ew2];rfl) (Post.thrown_ h1 h2 R B (HM.out.K.trans K (.inl rfl)))⟩
       replace HQ:=z00.mk (show r=.ok ((⟨s,acc++[y]⟩,0),leftL ts p4) by rw[HQ.out,ew2];rfl);replace HM:=z00.mk (HM.out.call R B K);clear R B K hp HW2 ew2;have hd60:w6.cell? ⟨n6,0,none⟩=some (.string s):=(z01 HM.out.b6 0).trans rfl;have hd61:w6.cell? ⟨n6,1,none⟩=some (.slice A' (acc.length+1) c'):=(z01 HM.out.b6 1).trans rfl;have hd40:w6.cell? ⟨n4,0,none⟩=some (.string ⟨#[]⟩):=(z01 HM.out.b4 0).trans rfl;have hd41:w6.cell? ⟨n4,1,none⟩=some (.slice none 0 0):=(z01 HM.out.b4 1).trans rfl;have hg40:=z02 HM.out.b4 0;have hg41:=z02 HM.out.b4 1;obtain⟨P1,P2⟩:=AtM.ends HM.out (0) HQ.out;obtain⟨ln,hln⟩:∃ln,acc.length+1=ln:=⟨_,rfl⟩
       rw[hln]at hd61 P1 P2;go_wp2;refine bodyPost_ret (z3w rfl _ _ n4 25 #[.string s,.slice A' ln c'] (0,0) _ rfl P1.out Tryz.underlying25 rfl (by kernel_rfl)) rfl ?_;exact P2.out

set_option maxRecDepth 100000 in
theorem z2t (k:Int) (w:World) :
 Calls Tryz.prog 156 #[.int .i64 k] w fun e w'=>e=.returned (.agg #[.int .i64 k,.string ⟨#[]⟩])∧Below w.heap.size w w':=by
 have hN:=z0q w (.cells #[.int .i64 k,.string ⟨#[]⟩] 69);have hB:=z00.mk (z03 (Below.refl w.heap.size w) (.cells #[.int .i64 k,.string ⟨#[]⟩] 69));have HN:=z00.mk hN;clear hN;go_enter Tryz.func156,Tryz.ntmps156;go_wp2;refine bodyPost_ret (results_cell_row rfl _ _ w.heap.size 69 #[.int .i64 k,.string ⟨#[]⟩] (0,0) _ rfl HN.out Tryz.underlying69 rfl (by kernel_rfl)) rfl ?_;exact⟨rfl,hB.out⟩
theorem z4d:(Tryz.prog.info? 69).map (fun i=>(i.zero,i.size,i.bytes))=some (some (.agg #[(.int .i64 0),(.string ⟨#[]⟩)]),2,24):=by kernel_rfl
theorem zgh (W:World) (base:Nat) (hb:base≤W.heap.size) (k:Int) (s:ByteArray):Kd.R k69 69 (W.alloc (.cells #[.int .i64 k,.string s] 69)) base (fun k=>base≤k) (.slice (some ⟨W.heap.size,0,none⟩) 1 1) [(⟨k,s⟩:StS)]:=by
 refine⟨fun j hj=>?_,[.int .i64 k,.string s],?_,(Reps.none _ _).snoc (z3r _ _ _ (⟨k,s⟩:StS)) rfl⟩
 · have:W.heap.size=j:=by simpa [Value.ownBlock] using hj
   omega
 · have h2:=World.ownsRow_lit (base:=base) (e:=69) (size:=2) W #[.int .i64 k,.string s] 1 hb (by decide) rfl;exact h2
structure PM (w0 w wr:World) (g:Nat) (ts:List S108) (en:Int) (p:Nat) (acc:List StS) (u:Value):Prop where
 R:Rd w0 wr g ts p en
 B:Below w0.heap.size w0 wr
 K:z0k w wr g none
 own:Kd.R k69 69 wr w.heap.size (fun k=>w.heap.size≤k) u acc
 h0:w0.heap.size≤w.heap.size
 gw:g<w.heap.size
section
variable {w0 w wr:World} {g:Nat} {ts:List S108} {en:Int} {p:Nat} {acc:List StS} {u:Value}
theorem PM.call (h:PM w0 w wr g ts en p acc u) {w1:World} {p2:Nat} (hR:Rd w0 w1 g ts p2 en) (hB:Below w0.heap.size w0 w1) (hK:z0k wr w1 g none):PM w0 w w1 g ts en p2 acc u :=
 ⟨hR,hB,h.K.trans hK (.inl rfl),Kd.R_keep h.own hK (fun k hk=>by have:=h.gw;omega),h.h0,h.gw⟩
theorem PM.below (h:PM w0 w wr g ts en p acc u) {w1:World} (d:Below wr.heap.size wr w1):PM w0 w w1 g ts en p acc u:=h.call (h.R.below d) (z0g h.B d) (z0k.of_below d g none)
theorem PM.neg (h:PM w0 w wr g ts en p acc u):some g≠u.ownBlock:=fun he=>by
 have h1:=h.own.1 _ he.symm;have h2:=h.gw;omega
theorem PM.more (h:PM w0 w wr g ts en p acc u) {w2:World} {u':Value} {acc':List StS} (ho:Kd.R k69 69 w2 w.heap.size (fun k=>w.heap.size≤k) u' acc') (hb:Below w.heap.size wr w2) (hg:wr.grownBy w2 u.ownBlock):PM w0 w w2 g ts en p acc' u':=by
 refine⟨h.R.grown hg h.neg,z5e h.B h.h0 hb,h.K.trans (z0k.of_grown hg g) ?_,ho,h.h0,h.gw⟩
 cases hu:u.ownBlock with
 |none=>exact .inl rfl
 |some b=>exact .inr ⟨b,rfl,h.own.1 b hu⟩
end
theorem zbw {l:List TK} (h:mk0 l [42]=true):z14 l=(stepS 5::(z14 (l.drop 1)).1,(z14 (l.drop 1)).2):=by
 cases l with
 |nil=>cases h
 |cons t r =>
  have h':isT t 4 [42]=true:=h;simp only[z14,h',if_true,List.drop_one,List.tail_cons]
theorem zcc {l:List TK} (h0:mk0 l [42]=false) (h:mk0 l [43]=true):z14 l=(stepS 6::(z14 (l.drop 1)).1,(z14 (l.drop 1)).2):=by
 cases l with
 |nil=>cases h
 |cons t r =>
  have h':isT t 4 [43]=true:=h;have h0':isT t 4 [42]=false:=h0;simp only[z14,h',h0',Bool.false_eq_true,if_false,if_true,List.drop_one,List.tail_cons]
theorem zbz {l:List TK} (h0:mk0 l [42]=false) (h1:mk0 l [43]=false) (h:mk0 l [63]=true):z14 l=(stepS 7::(z14 (l.drop 1)).1,(z14 (l.drop 1)).2):=by
 cases l with
 |nil=>cases h
 |cons t r =>
  have h':isT t 4 [63]=true:=h;have h0':isT t 4 [42]=false:=h0;have h1':isT t 4 [43]=false:=h1;simp only[z14,h',h0',h1',Bool.false_eq_true,if_false,if_true,List.drop_one,List.tail_cons]
theorem z96 {l:List TK} (h0:mk0 l [42]=false) (h1:mk0 l [43]=false) (h2:mk0 l [63]=false):z14 l=([],l):=by
 cases l with
 |nil=>rfl
 |cons t r=>exact zd7 ⟨h0,h1,h2⟩ r
def Sz (p:Prs (List StS)):Prop:=∀l x r,p l=.ok (x,r)→x.length+r.length≤l.length
theorem zgd {s:List UInt8} {l r:List TK} {x:Unit} (h:wantP s l=.ok (x,r)):r.length+1=l.length∧r=l.drop 1:=by
 unfold wantP at h
 cases hm:mk0 l s with
 |true =>
  rw[if_pos hm]at h;injection h with h
  have h2:=congrArg Prod.snd h
  cases l with
  |nil=>cases hm
  |cons t r'=>simp at h2;subst h2;exact⟨rfl,rfl⟩
 |false=>rw[if_neg (by rw[hm];simp)]at h;cases h
theorem z9f {l r:List TK} {x:ByteArray} (h:z1m l=.ok (x,r)):r.length+1=l.length:=by
 cases l with
 |nil=>cases h
 |cons t r' =>
  simp only[z1m]at h
  split at h
  · injection h with h
    have h2:=congrArg Prod.snd h
    simp at h2
    subst h2;rfl
  · cases h
theorem zgi:∀l:List TK,(z14 l).1.length+(z14 l).2.length=l.length
 |[]=>rfl
 |t::r=>by
  have ih:=zgi r;simp only[z14]
  split
  · simp;omega
  · split
    · simp;omega
    · split
      · simp;omega
      · simp
theorem sz_base (inner:Option (Prs (List StS))) (h:∀p,inner=some p→Sz p):Sz (baseP inner):=by
 intro l x r hp;unfold baseP at hp
 split at hp
 · rename_i hm
   cases inner with
   |none=>cases hp
   |some p =>
    obtain⟨y,r1,h1,h2⟩:=z6v hp;obtain⟨y2,r2,h3,h4⟩:=z6v h2;injection h4 with h4
    injection h4 with h5 h6
    subst h5 h6;have e1:=h p rfl _ _ _ h1;have e2:=(zgd h3).1;have e3:(l.drop 1).length+1=l.length:=by
     cases l with
     |nil=>cases hm
     |cons t r'=>rfl
    omega
 · split at hp
   · rename_i hm;obtain⟨y,r1,h1,h2⟩:=z6v hp;injection h2 with h2
     injection h2 with h5 h6
     subst h5 h6;have e1:=z9f h1;have e3:(l.drop 1).length+1=l.length:=by
      cases l with
      |nil=>cases hm
      |cons t r'=>rfl
     simp only[List.length_cons,List.length_nil];omega
   · obtain⟨y,r1,h1,h2⟩:=z6v hp;injection h2 with h2
     injection h2 with h5 h6
     subst h5 h6;have e1:=z9f h1;simp only[List.length_cons,List.length_nil];omega
theorem zge (inner:Option (Prs (List StS))) (h:∀p,inner=some p→Sz p):Sz (partW inner):=by
 intro l x r hp;obtain⟨y,r1,h1,h2⟩:=z6v hp;injection h2 with h2
 injection h2 with h5 h6
 subst h5 h6;have e1:=sz_base inner h _ _ _ h1;have e2:=zgi r1;simp only[List.length_append];omega
theorem zix {s:List UInt8} {k:Int} {one:Prs (List StS)} (h:Sz one):∀(n:Nat) (acc:List StS) (l:List TK) (x:List StS) (r:List TK),rowL s k one n acc l=.ok (x,r)→x.length+r.length≤acc.length+l.length
 |0,acc,l,x,r,hp=>by
  injection hp with hp
  injection hp with h5 h6
  subst h5 h6;exact Nat.le_refl _
 |n+1,acc,l,x,r,hp=>by
  simp only[rowL]at hp
  split at hp
  · rename_i hm;obtain⟨y,r1,h1,h2⟩:=z6v hp;have e1:=h _ _ _ h1;have e2:=zix h n _ _ _ _ h2;have e3:(l.drop 1).length+1=l.length:=by
     cases l with
     |nil=>cases hm
     |cons t r'=>rfl
    simp only[List.length_append,List.length_cons,List.length_nil]at e2;omega
  · injection hp with hp
    injection hp with h5 h6
    subst h5 h6;exact Nat.le_refl _
theorem zib {s:List UInt8} {k:Int} {one:Prs (List StS)} (h:Sz one):Sz (rowP s k one):=by
 intro l x r hp;obtain⟨y,r1,h1,h2⟩:=z6v hp;have e1:=h _ _ _ h1;have e2:=zix h _ _ _ _ _ h2;omega
theorem zgr {part:Prs (List StS)} (h:Sz part):Sz (pathW part):=zib (zib h)
theorem zca:∀d,Sz (partP d)
 |0=>zge none (fun p h=>by cases h)
 |d+1=>zge _ (fun p h=>by injection h with h;subst h;exact zgr (zca d))
theorem sz_path (d:Nat):Sz (pathP d):=zgr (zca d)
def stV (w':World) (base:Nat) (v:Value) (x:List StS):Prop:=Kd.R k69 69 w' base (fun k=>base≤k) v x
def PathC (w0:World) (g:Nat) (ts:List S108) (en:Int) (d:Nat):Prop:=∀(w:World) (p:Nat),Rd w0 w g ts p en→Below w0.heap.size w0 w →
 Calls Tryz.prog 104 #[.pointer (some ⟨g,0,none⟩),.int .i64 (32 - (d:Int))] w fun e w'=>Post w0 w g ts en (pathP d (leftL ts p)) (fun v w' x=>stV w' w.heap.size v x) e w'
def zdr:Nat→Option (Prs (List StS))
 |0=>none
 |d+1=>some (pathP d)
theorem zha (d:Nat):partP d=partW (zdr d):=by
 cases d with
 |zero=>rfl
 |succ d=>rfl
set_option maxHeartbeats 4000000 in
set_option maxRecDepth 100000 in
theorem zi1 (w0 w:World) (g:Nat) (ts:List S108) (p:Nat) (en:Int) (d:Nat) (hd:d≤32) (hI:Rd w0 w g ts p en) (hB:Below w0.heap.size w0 w) (hin:∀d',d=d'+1→PathC w0 g ts en d') :
 Calls Tryz.prog 134 #[.pointer (some ⟨g,0,none⟩),.int .i64 (32 - (d:Int))] w fun e w'=>Post w0 w g ts en (partP d (leftL ts p)) (fun v w' x=>stV w' w.heap.size v x) e w':=by
 have hgw:=z00.mk hI.lt;have h0w:=z00.mk hB.size;have hnt:=z00.mk (show ts.length≤20000 by obtain⟨A,c,hb,hg,hr,h1,h2⟩:=hI;exact h2);have HMK:=z00.mk (z7f w0 w g ts p en 0 ⟨#[40]⟩ (by omega) hI hB);rw[Nat.add_zero,z1g,show((⟨#[40]⟩:ByteArray).data.toList)=[40]from rfl]at HMK;rw[zha];obtain⟨r,hr⟩:∃r,partW (zdr d) (leftL ts p)=r:=⟨_,rfl⟩
 rw[hr];have HA:=z00.mk (show r=bnd (baseP (zdr d) (leftL ts p)) fun x r=>.ok (x++(z14 r).1,(z14 r).2) by rw[←hr];rfl);have HIN:=z00.mk hin;clear hr hI hB hin
 cases hm:mk0 (leftL ts p) [40]with
 |true =>
  rw[hm]at HMK;have hlt:=z65 hm
  cases d with
  |zero =>
   replace HA:=z00.mk (show r=.error ((leftL ts p).length,3) by rw[HA.out];unfold baseP zdr;rw[if_pos hm];rfl);go_enter Tryz.func134,Tryz.ntmps134;go_wp2
   go_step3
   go_wp2_with fail
   refine HMK.out.mono ?_;rintro e w1 ⟨rfl,R,B,K⟩;have HF:=z00.mk (z4t w0 w1 g ts p en 3 R B);have hK:=z00.mk K;clear R B K
   go_wp2_with fail
   refine HF.out.mono ?_;rintro e w2 ⟨rfl,R,B,K⟩;exact⟨rfl,Post.as HA.out (Post.thrown_ (q:=((leftL ts p).length,3)) (i:=p) R.le (z0s ts p).symm R B (hK.out.trans K (.inl rfl)))⟩
  |succ d =>
   replace HA:=z00.mk (show r=bnd (bnd (pathP d (leftL ts (p+1))) fun x r=>bnd (wantP [41] r) fun _ r=>.ok (x,r)) fun x r=>.ok (x++(z14 r).1,(z14 r).2) by rw[HA.out,←z0p ts p 1];unfold baseP zdr;rw[if_pos hm]);replace HIN:=z00.mk (HIN.out d rfl);have hd32:((32:Int) - ((d+1:Nat):Int)==32)=false:=beq_eq_false_iff_ne.2 (by omega);have hdw:wrap64 ((32:Int) - ((d+1:Nat):Int)+1)=32 - (d:Int):=by unfold wrap64;omega
   obtain⟨op,hop⟩:∃op,(32:Int) - ((d+1:Nat):Int)=op:=⟨_,rfl⟩
   rw[hop]at hd32 hdw ⊢;go_enter Tryz.func134,Tryz.ntmps134;go_wp2
   go_step3
   go_wp2_with fail
   refine HMK.out.mono ?_;rintro e w1 ⟨rfl,R,B,K⟩;obtain⟨Ag,cg,hbg,_⟩:=id R;have hcg:w1.cell? ⟨g,1,none⟩=some (.int .i64 p):=(z01 hbg 1).trans rfl;have hfg:=z02 hbg 1;have hR1:=z00.mk (R.move (p+1) (by omega));have hB1:=z00.mk (z06 (j:=1) (v:=.int .i64 ((p+1:Nat):Int)) B R.ge);have hK1:=z00.mk (z0k.set_ K 1 (.int .i64 ((p+1:Nat):Int)));rw[show((p+1:Nat):Int)=(p:Int)+1 by omega]at hR1 hB1 hK1;clear R B K hbg;have HC:=z00.mk (HIN.out _ (p+1) hR1.out hB1.out);obtain⟨rq,hrq⟩:∃rq,pathP d (leftL ts (p+1))=rq:=⟨_,rfl⟩
   rw[hrq]at HC HA;have hop1:32 - (d:Int)=op+1:=by omega
   rw[hop1]at HC;have HRQ:=z00.mk hrq;clear hrq hdw
   go_wp2_with fail
   refine HC.out.mono ?_;intro e w2 hp;rcases hp.split with ⟨y,p2,v,rfl,rfl,hv,R,B,K⟩|⟨q,i,p2,rfl,h1,h2,rfl,R,B,K⟩
   case inr=>exact⟨rfl,Post.as HA.out (Post.thrown_ h1 h2 R B (hK1.out.trans K (.inl rfl)))⟩
   have hw1:w.heap.size≤(w1.setCell ⟨g,1,none⟩ (.int .i64 ((p:Int)+1))).heap.size:=hK1.out.1;have HM:=z00.mk (show PM w0 w w2 g ts en p2 y v from⟨R,B,hK1.out.trans K (.inl rfl),Kd.R_mono (Kd.R_lower hv hw1) (fun k hk=>Nat.le_trans hw1 hk),h0w.out,hgw.out⟩);replace HA:=z00.mk (HA.out.trans (by rfl:_=bnd (bnd (wantP [41] (leftL ts p2)) fun _ r=>.ok (y,r)) fun x r=>.ok (x++(z14 r).1,(z14 r).2)));clear R B K hp hv hw1 HC HIN HMK hR1 hB1 hK1 hcg hfg;have HW:=z00.mk (show Calls Tryz.prog 88 #[.pointer (some ⟨g,0,none⟩),.string ⟨#[41]⟩] w2 fun e w'=>Post w0 w2 g ts en (wantP [41] (leftL ts p2)) (fun v _ _=>v=.tuple #[]) e w' from z3i w0 w2 g ts p2 en ⟨#[41]⟩ HM.out.R HM.out.B)
   go_wp2_with fail
   refine HW.out.mono ?_;intro e w3 hp;rcases hp.split with ⟨y2,p3,v2,ew,rfl,rfl,R,B,K⟩|⟨q,i,p3,ew,h1,h2,rfl,R,B,K⟩
   case inr=>exact⟨rfl,Post.as (by rw[HA.out,ew];rfl) (Post.thrown_ h1 h2 R B (HM.out.K.trans K (.inl rfl)))⟩
   have HQ:=z00.mk (show r=.ok (y++(z14 (leftL ts p3)).1,(z14 (leftL ts p3)).2) by rw[HA.out,ew];rfl);have HWL:=z00.mk (zgd ew).1;replace HM:=z00.mk (HM.out.call R B K);clear R B K hp HW ew HA;have hlen0:y.length+(ts.length - p3)≤20000:=by
    have e1:=sz_path d _ _ _ HRQ.out;have e2:=HWL.out;have e3:=hnt.out;rw[z0s,z0s]at e1;rw[z0s,z0s]at e2;omega
   clear HRQ HWL;go_wp2
   go_step3
   go_wp2
   go_loopg [5] (ts.length+1 - p3) (fun kq v5 w'=>∃(acc:List StS) (p':Nat) (u:Value),v5=u∧kq=ts.length+1 - p'∧acc.length+(ts.length - p')≤20000∧z00 (r=.ok (acc++(z14 (leftL ts p')).1,(z14 (leftL ts p')).2))∧z00 (PM w0 w w' g ts en p' acc u))
   case atStart=>exact⟨_,p3,_,rfl,rfl,by exact hlen0,HQ,HM⟩
   case round =>
    clear HQ HM;obtain⟨acc,p',u,rfl,rfl,hlen0,HQ,HM⟩:=hrel;have HLEN:=z00.mk hlen0;clear hlen0;have hple:=HM.out.R.le;obtain⟨A,c,rfl⟩:=Kd.R_slice HM.out.own
    cases hm1:mk0 (leftL ts p') [42]with
    |true =>
     have HS1:=z00.mk (z1e w0 wr g ts p' en ⟨#[42]⟩ HM.out.R HM.out.B);rw[z1g,show((⟨#[42]⟩:ByteArray).data.toList)=[42]from rfl,hm1]at HS1
     go_wp2_with fail
     refine HS1.out.mono ?_;rintro e w21 ⟨rfl,R,B,K⟩;simp only[if_true]at R;replace HM:=z00.mk (HM.out.call R B K);have hlt:=z65 hm1;clear R B K HS1;have HG:=z00.mk (fun W=>z2t 5 W)
     go_wp2_with fail
     refine(HG.out _).mono ?_;rintro e ws ⟨rfl,d⟩;replace HM:=z00.mk (HM.out.below d);clear d;have hlen:acc.length≤20000:=by have:=HLEN.out;omega
     go_wp2_with ((with_reducible refine z1p (b:=.append) (xs:=#[.tmp 40,.tmp 42]) rfl ?_);at_builtin;refine Kd.R_append k69 (w0:=ws) w.heap.size rfl (.tmp 40) (.tmp 42) 37 69 (.agg #[(.int .i64 0),(.string ⟨#[]⟩)]) 24 rfl Tryz.underlying37 z4d rfl (by decide) (by decide) (.slice A acc.length c) acc (stepS 5) [.int .i64 5,.string ⟨#[]⟩] (fun k=>w.heap.size≤k) (fun _=>False) rfl zA0i (z3r _ _ _ (stepS 5)) (fun _ hk=>hk.elim) (fun k hk=>Nat.le_trans HM.out.K.1 hk) HM.out.own (Below.refl _ _) HM.out.K.1 (by have:=hlen;omega) ?_;intro v1 w2 ho hb hg hat;have HM3:=z00.mk (HM.out.more ho hb hg);clear ho hb hg hat)
     clear HM;have HM:=HM3;clear HM3
     go_roundg (ts.length - p')
     case rel=>exact⟨acc++[stepS 5],p'+1,v1,rfl,by omega,by rw[List.length_append,List.length_singleton];have:=HLEN.out;omega,⟨zA11⟩,HM⟩
     case measure=>omega
    |false =>
     have HS1:=z00.mk (z1e w0 wr g ts p' en ⟨#[42]⟩ HM.out.R HM.out.B);rw[z1g,show((⟨#[42]⟩:ByteArray).data.toList)=[42]from rfl,hm1]at HS1
     go_wp2_with fail
     refine HS1.out.mono ?_;rintro e w21 ⟨rfl,R,B,K⟩;simp only[Bool.false_eq_true,if_false]at R;replace HM:=z00.mk (HM.out.call R B K);clear R B K HS1
     cases hm2:mk0 (leftL ts p') [43]with
     |true =>
      have HS2:=z00.mk (z1e w0 w21 g ts p' en ⟨#[43]⟩ HM.out.R HM.out.B);rw[z1g,show((⟨#[43]⟩:ByteArray).data.toList)=[43]from rfl,hm2]at HS2
      go_wp2_with fail
      refine HS2.out.mono ?_;rintro e w22 ⟨rfl,R,B,K⟩;simp only[if_true]at R;replace HM:=z00.mk (HM.out.call R B K);have hlt:=z65 hm2;clear R B K HS2;have HG:=z00.mk (fun W=>z2t 6 W)
      go_wp2_with fail
      refine(HG.out _).mono ?_;rintro e ws ⟨rfl,d⟩;replace HM:=z00.mk (HM.out.below d);clear d;have hlen:acc.length≤20000:=by have:=HLEN.out;omega
      go_wp2_with ((with_reducible refine z1p (b:=.append) (xs:=#[.tmp 47,.tmp 49]) rfl ?_);at_builtin;refine Kd.R_append k69 (w0:=ws) w.heap.size rfl (.tmp 47) (.tmp 49) 37 69 (.agg #[(.int .i64 0),(.string ⟨#[]⟩)]) 24 rfl Tryz.underlying37 z4d rfl (by decide) (by decide) (.slice A acc.length c) acc (stepS 6) [.int .i64 6,.string ⟨#[]⟩] (fun k=>w.heap.size≤k) (fun _=>False) rfl zA0i (z3r _ _ _ (stepS 6)) (fun _ hk=>hk.elim) (fun k hk=>Nat.le_trans HM.out.K.1 hk) HM.out.own (Below.refl _ _) HM.out.K.1 (by have:=hlen;omega) ?_;intro v1 w2 ho hb hg hat;have HM3:=z00.mk (HM.out.more ho hb hg);clear ho hb hg hat)
      clear HM;have HM:=HM3;clear HM3
      go_roundg (ts.length - p')
      case rel=>exact⟨acc++[stepS 6],p'+1,v1,rfl,by omega,by rw[List.length_append,List.length_singleton];have:=HLEN.out;omega,⟨zA0y⟩,HM⟩
      case measure=>omega
     |false =>
      have HS2:=z00.mk (z1e w0 w21 g ts p' en ⟨#[43]⟩ HM.out.R HM.out.B);rw[z1g,show((⟨#[43]⟩:ByteArray).data.toList)=[43]from rfl,hm2]at HS2
      go_wp2_with fail
      refine HS2.out.mono ?_;rintro e w22 ⟨rfl,R,B,K⟩;simp only[Bool.false_eq_true,if_false]at R;replace HM:=z00.mk (HM.out.call R B K);clear R B K HS2
      cases hm3:mk0 (leftL ts p') [63]with
      |true =>
       have HS3:=z00.mk (z1e w0 w22 g ts p' en ⟨#[63]⟩ HM.out.R HM.out.B);rw[z1g,show((⟨#[63]⟩:ByteArray).data.toList)=[63]from rfl,hm3]at HS3
       go_wp2_with fail
       refine HS3.out.mono ?_;rintro e w23 ⟨rfl,R,B,K⟩;simp only[if_true]at R;replace HM:=z00.mk (HM.out.call R B K);have hlt:=z65 hm3;clear R B K HS3;have HG:=z00.mk (fun W=>z2t 7 W)
       go_wp2_with fail
       refine(HG.out _).mono ?_;rintro e ws ⟨rfl,d⟩;replace HM:=z00.mk (HM.out.below d);clear d;have hlen:acc.length≤20000:=by have:=HLEN.out;omega
       go_wp2_with ((with_reducible refine z1p (b:=.append) (xs:=#[.tmp 54,.tmp 56]) rfl ?_);at_builtin;refine Kd.R_append k69 (w0:=ws) w.heap.size rfl (.tmp 54) (.tmp 56) 37 69 (.agg #[(.int .i64 0),(.string ⟨#[]⟩)]) 24 rfl Tryz.underlying37 z4d rfl (by decide) (by decide) (.slice A acc.length c) acc (stepS 7) [.int .i64 7,.string ⟨#[]⟩] (fun k=>w.heap.size≤k) (fun _=>False) rfl zA0i (z3r _ _ _ (stepS 7)) (fun _ hk=>hk.elim) (fun k hk=>Nat.le_trans HM.out.K.1 hk) HM.out.own (Below.refl _ _) HM.out.K.1 (by have:=hlen;omega) ?_;intro v1 w2 ho hb hg hat;have HM3:=z00.mk (HM.out.more ho hb hg);clear ho hb hg hat)
       clear HM;have HM:=HM3;clear HM3
       go_roundg (ts.length - p')
       case rel=>exact⟨acc++[stepS 7],p'+1,v1,rfl,by omega,by rw[List.length_append,List.length_singleton];have:=HLEN.out;omega,⟨zA0t⟩,HM⟩
       case measure=>omega
      |false =>
       have HS3:=z00.mk (z1e w0 w22 g ts p' en ⟨#[63]⟩ HM.out.R HM.out.B);rw[z1g,show((⟨#[63]⟩:ByteArray).data.toList)=[63]from rfl,hm3]at HS3
       go_wp2_with fail
       refine HS3.out.mono ?_;rintro e w23 ⟨rfl,R,B,K⟩;simp only[Bool.false_eq_true,if_false]at R;replace HM:=z00.mk (HM.out.call R B K);clear R B K HS3;replace HQ:=z00.mk (show r=.ok (acc,leftL ts p') by rw[HQ.out,z96 hm1 hm2 hm3,List.append_nil]);go_wp2
       try rw[Exit.noGoto_ret]
       go_ret
       exact⟨HM.out.B,HM.out.K,p',HM.out.R,by rw[HQ.out];exact⟨rfl,_,rfl,HM.out.own⟩⟩
 |false =>
  rw[hm]at HMK;clear HIN;go_enter Tryz.func134,Tryz.ntmps134;go_wp2
  go_step3
  go_wp2_with fail
  refine HMK.out.mono ?_;rintro e w1 ⟨rfl,R,B,K⟩;have HS:=z00.mk (z1e w0 w1 g ts p en ⟨#[94]⟩ R B);rw[z1g,show((⟨#[94]⟩:ByteArray).data.toList)=[94]from rfl]at HS;have hK:=z00.mk K;clear R B K HMK
  cases hm2:mk0 (leftL ts p) [94]with
  |true =>
   rw[hm2]at HS;replace HA:=z00.mk (show r=bnd (bnd (z1m (leftL ts (p+1))) fun p r=>.ok ([⟨2,p⟩],r)) fun x r=>.ok (x++(z14 r).1,(z14 r).2) by rw[HA.out];unfold baseP;rw[if_neg (by rw[hm];simp),if_pos hm2,←z0p ts p 1])
   go_wp2_with fail
   refine HS.out.mono ?_;rintro e w2 ⟨rfl,R,B,K⟩;simp only[if_true]at R;have HP:=z5t w0 w2 g ts (p+1) en R B;replace hK:=z00.mk (hK.out.trans K (.inl rfl));obtain⟨rq,hrq⟩:∃rq,z1m (leftL ts (p+1))=rq:=⟨_,rfl⟩
   rw[hrq]at HP HA;have HRQ:=z00.mk hrq;have HP:=z00.mk HP;clear R B K HS hrq
   go_wp2_with fail
   refine HP.out.mono ?_;intro e w3 hp;rcases hp.split with ⟨s,p3,v,rfl,rfl,rfl,R,B,K⟩|⟨q,i,p3,rfl,h1,h2,rfl,R,B,K⟩
   case inr=>exact⟨rfl,Post.as HA.out (Post.thrown_ h1 h2 R B (hK.out.trans K (.inl rfl)))⟩
   replace hK:=z00.mk (hK.out.trans K (.inl rfl));have HM:=z00.mk (show PM w0 w (w3.alloc (.cells #[.int .i64 2,.string s] 69)) g ts en p3 [⟨2,s⟩] (.slice (some ⟨w3.heap.size,0,none⟩) 1 1)from⟨R.alloc _,z03 B _,z1k hK.out _,zgh w3 w.heap.size hK.out.1 2 s,h0w.out,hgw.out⟩);have HQ:=z00.mk (show r=.ok ([(⟨2,s⟩:StS)]++(z14 (leftL ts p3)).1,(z14 (leftL ts p3)).2)from HA.out);have hlen0:[(⟨2,s⟩:StS)].length+(ts.length - p3)≤20000:=by
    have e1:=z9f HRQ.out;have e3:=hnt.out;rw[z0s,z0s]at e1;simp only[List.length_cons,List.length_nil];omega
   clear HRQ R B K hp HP hK HA;go_wp2
   go_step3
   go_wp2
   go_loopg [5] (ts.length+1 - p3) (fun kq v5 w'=>∃(acc:List StS) (p':Nat) (u:Value),v5=u∧kq=ts.length+1 - p'∧acc.length+(ts.length - p')≤20000∧z00 (r=.ok (acc++(z14 (leftL ts p')).1,(z14 (leftL ts p')).2))∧z00 (PM w0 w w' g ts en p' acc u))
   case atStart=>exact⟨_,p3,_,rfl,rfl,by exact hlen0,HQ,HM⟩
   case round =>
    clear HQ HM;obtain⟨acc,p',u,rfl,rfl,hlen0,HQ,HM⟩:=hrel;have HLEN:=z00.mk hlen0;clear hlen0;have hple:=HM.out.R.le;obtain⟨A,c,rfl⟩:=Kd.R_slice HM.out.own
    cases hm1:mk0 (leftL ts p') [42]with
    |true =>
     have HS1:=z00.mk (z1e w0 wr g ts p' en ⟨#[42]⟩ HM.out.R HM.out.B);rw[z1g,show((⟨#[42]⟩:ByteArray).data.toList)=[42]from rfl,hm1]at HS1
     go_wp2_with fail
     refine HS1.out.mono ?_;rintro e w21 ⟨rfl,R,B,K⟩;simp only[if_true]at R;replace HM:=z00.mk (HM.out.call R B K);have hlt:=z65 hm1;clear R B K HS1;have HG:=z00.mk (fun W=>z2t 5 W)
     go_wp2_with fail
     refine(HG.out _).mono ?_;rintro e ws ⟨rfl,d⟩;replace HM:=z00.mk (HM.out.below d);clear d;have hlen:acc.length≤20000:=by have:=HLEN.out;omega
     go_wp2_with ((with_reducible refine z1p (b:=.append) (xs:=#[.tmp 40,.tmp 42]) rfl ?_);at_builtin;refine Kd.R_append k69 (w0:=ws) w.heap.size rfl (.tmp 40) (.tmp 42) 37 69 (.agg #[(.int .i64 0),(.string ⟨#[]⟩)]) 24 rfl Tryz.underlying37 z4d rfl (by decide) (by decide) (.slice A acc.length c) acc (stepS 5) [.int .i64 5,.string ⟨#[]⟩] (fun k=>w.heap.size≤k) (fun _=>False) rfl zA0i (z3r _ _ _ (stepS 5)) (fun _ hk=>hk.elim) (fun k hk=>Nat.le_trans HM.out.K.1 hk) HM.out.own (Below.refl _ _) HM.out.K.1 (by have:=hlen;omega) ?_;intro v1 w2 ho hb hg hat;have HM3:=z00.mk (HM.out.more ho hb hg);clear ho hb hg hat)
     clear HM;have HM:=HM3;clear HM3
     go_roundg (ts.length - p')
     case rel=>exact⟨acc++[stepS 5],p'+1,v1,rfl,by omega,by rw[List.length_append,List.length_singleton];have:=HLEN.out;omega,⟨zA11⟩,HM⟩
     case measure=>omega
    |false =>
     have HS1:=z00.mk (z1e w0 wr g ts p' en ⟨#[42]⟩ HM.out.R HM.out.B);rw[z1g,show((⟨#[42]⟩:ByteArray).data.toList)=[42]from rfl,hm1]at HS1
     go_wp2_with fail
     refine HS1.out.mono ?_;rintro e w21 ⟨rfl,R,B,K⟩;simp only[Bool.false_eq_true,if_false]at R;replace HM:=z00.mk (HM.out.call R B K);clear R B K HS1
     cases hm2:mk0 (leftL ts p') [43]with
     |true =>
      have HS2:=z00.mk (z1e w0 w21 g ts p' en ⟨#[43]⟩ HM.out.R HM.out.B);rw[z1g,show((⟨#[43]⟩:ByteArray).data.toList)=[43]from rfl,hm2]at HS2
      go_wp2_with fail
      refine HS2.out.mono ?_;rintro e w22 ⟨rfl,R,B,K⟩;simp only[if_true]at R;replace HM:=z00.mk (HM.out.call R B K);have hlt:=z65 hm2;clear R B K HS2;have HG:=z00.mk (fun W=>z2t 6 W)
      go_wp2_with fail
      refine(HG.out _).mono ?_;rintro e ws ⟨rfl,d⟩;replace HM:=z00.mk (HM.out.below d);clear d;have hlen:acc.length≤20000:=by have:=HLEN.out;omega
      go_wp2_with ((with_reducible refine z1p (b:=.append) (xs:=#[.tmp 47,.tmp 49]) rfl ?_);at_builtin;refine Kd.R_append k69 (w0:=ws) w.heap.size rfl (.tmp 47) (.tmp 49) 37 69 (.agg #[(.int .i64 0),(.string ⟨#[]⟩)]) 24 rfl Tryz.underlying37 z4d rfl (by decide) (by decide) (.slice A acc.length c) acc (stepS 6) [.int .i64 6,.string ⟨#[]⟩] (fun k=>w.heap.size≤k) (fun _=>False) rfl zA0i (z3r _ _ _ (stepS 6)) (fun _ hk=>hk.elim) (fun k hk=>Nat.le_trans HM.out.K.1 hk) HM.out.own (Below.refl _ _) HM.out.K.1 (by have:=hlen;omega) ?_;intro v1 w2 ho hb hg hat;have HM3:=z00.mk (HM.out.more ho hb hg);clear ho hb hg hat)
      clear HM;have HM:=HM3;clear HM3
      go_roundg (ts.length - p')
      case rel=>exact⟨acc++[stepS 6],p'+1,v1,rfl,by omega,by rw[List.length_append,List.length_singleton];have:=HLEN.out;omega,⟨zA0y⟩,HM⟩
      case measure=>omega
     |false =>
      have HS2:=z00.mk (z1e w0 w21 g ts p' en ⟨#[43]⟩ HM.out.R HM.out.B);rw[z1g,show((⟨#[43]⟩:ByteArray).data.toList)=[43]from rfl,hm2]at HS2
      go_wp2_with fail
      refine HS2.out.mono ?_;rintro e w22 ⟨rfl,R,B,K⟩;simp only[Bool.false_eq_true,if_false]at R;replace HM:=z00.mk (HM.out.call R B K);clear R B K HS2
      cases hm3:mk0 (leftL ts p') [63]with
      |true =>
       have HS3:=z00.mk (z1e w0 w22 g ts p' en ⟨#[63]⟩ HM.out.R HM.out.B);rw[z1g,show((⟨#[63]⟩:ByteArray).data.toList)=[63]from rfl,hm3]at HS3
       go_wp2_with fail
       refine HS3.out.mono ?_;rintro e w23 ⟨rfl,R,B,K⟩;simp only[if_true]at R;replace HM:=z00.mk (HM.out.call R B K);have hlt:=z65 hm3;clear R B K HS3;have HG:=z00.mk (fun W=>z2t 7 W)
       go_wp2_with fail
       refine(HG.out _).mono ?_;rintro e ws ⟨rfl,d⟩;replace HM:=z00.mk (HM.out.below d);clear d;have hlen:acc.length≤20000:=by have:=HLEN.out;omega
       go_wp2_with ((with_reducible refine z1p (b:=.append) (xs:=#[.tmp 54,.tmp 56]) rfl ?_);at_builtin;refine Kd.R_append k69 (w0:=ws) w.heap.size rfl (.tmp 54) (.tmp 56) 37 69 (.agg #[(.int .i64 0),(.string ⟨#[]⟩)]) 24 rfl Tryz.underlying37 z4d rfl (by decide) (by decide) (.slice A acc.length c) acc (stepS 7) [.int .i64 7,.string ⟨#[]⟩] (fun k=>w.heap.size≤k) (fun _=>False) rfl zA0i (z3r _ _ _ (stepS 7)) (fun _ hk=>hk.elim) (fun k hk=>Nat.le_trans HM.out.K.1 hk) HM.out.own (Below.refl _ _) HM.out.K.1 (by have:=hlen;omega) ?_;intro v1 w2 ho hb hg hat;have HM3:=z00.mk (HM.out.more ho hb hg);clear ho hb hg hat)
       clear HM;have HM:=HM3;clear HM3
       go_roundg (ts.length - p')
       case rel=>exact⟨acc++[stepS 7],p'+1,v1,rfl,by omega,by rw[List.length_append,List.length_singleton];have:=HLEN.out;omega,⟨zA0t⟩,HM⟩
       case measure=>omega
      |false =>
       have HS3:=z00.mk (z1e w0 w22 g ts p' en ⟨#[63]⟩ HM.out.R HM.out.B);rw[z1g,show((⟨#[63]⟩:ByteArray).data.toList)=[63]from rfl,hm3]at HS3
       go_wp2_with fail
       refine HS3.out.mono ?_;rintro e w23 ⟨rfl,R,B,K⟩;simp only[Bool.false_eq_true,if_false]at R;replace HM:=z00.mk (HM.out.call R B K);clear R B K HS3;replace HQ:=z00.mk (show r=.ok (acc,leftL ts p') by rw[HQ.out,z96 hm1 hm2 hm3,List.append_nil]);go_wp2
       try rw[Exit.noGoto_ret]
       go_ret
       exact⟨HM.out.B,HM.out.K,p',HM.out.R,by rw[HQ.out];exact⟨rfl,_,rfl,HM.out.own⟩⟩
  |false =>
   rw[hm2]at HS;replace HA:=z00.mk (show r=bnd (bnd (z1m (leftL ts p)) fun p r=>.ok ([⟨1,p⟩],r)) fun x r=>.ok (x++(z14 r).1,(z14 r).2) by rw[HA.out];unfold baseP;rw[if_neg (by rw[hm];simp),if_neg (by rw[hm2];simp)])
   go_wp2_with fail
   refine HS.out.mono ?_;rintro e w2 ⟨rfl,R,B,K⟩;simp only[Bool.false_eq_true,if_false]at R;have HP:=z5t w0 w2 g ts p en R B;replace hK:=z00.mk (hK.out.trans K (.inl rfl));obtain⟨rq,hrq⟩:∃rq,z1m (leftL ts p)=rq:=⟨_,rfl⟩
   rw[hrq]at HP HA;have HRQ:=z00.mk hrq;have HP:=z00.mk HP;clear R B K HS hrq
   go_wp2_with fail
   refine HP.out.mono ?_;intro e w3 hp;rcases hp.split with ⟨s,p3,v,rfl,rfl,rfl,R,B,K⟩|⟨q,i,p3,rfl,h1,h2,rfl,R,B,K⟩
   case inr=>exact⟨rfl,Post.as HA.out (Post.thrown_ h1 h2 R B (hK.out.trans K (.inl rfl)))⟩
   replace hK:=z00.mk (hK.out.trans K (.inl rfl));have HM:=z00.mk (show PM w0 w (w3.alloc (.cells #[.int .i64 1,.string s] 69)) g ts en p3 [⟨1,s⟩] (.slice (some ⟨w3.heap.size,0,none⟩) 1 1)from⟨R.alloc _,z03 B _,z1k hK.out _,zgh w3 w.heap.size hK.out.1 1 s,h0w.out,hgw.out⟩);have HQ:=z00.mk (show r=.ok ([(⟨1,s⟩:StS)]++(z14 (leftL ts p3)).1,(z14 (leftL ts p3)).2)from HA.out);have hlen0:[(⟨1,s⟩:StS)].length+(ts.length - p3)≤20000:=by
    have e1:=z9f HRQ.out;have e3:=hnt.out;rw[z0s,z0s]at e1;simp only[List.length_cons,List.length_nil];omega
   clear HRQ R B K hp HP hK HA;go_wp2
   go_step3
   go_wp2
   go_loopg [5] (ts.length+1 - p3) (fun kq v5 w'=>∃(acc:List StS) (p':Nat) (u:Value),v5=u∧kq=ts.length+1 - p'∧acc.length+(ts.length - p')≤20000∧z00 (r=.ok (acc++(z14 (leftL ts p')).1,(z14 (leftL ts p')).2))∧z00 (PM w0 w w' g ts en p' acc u))
   case atStart=>exact⟨_,p3,_,rfl,rfl,by exact hlen0,HQ,HM⟩
   case round =>
    clear HQ HM;obtain⟨acc,p',u,rfl,rfl,hlen0,HQ,HM⟩:=hrel;have HLEN:=z00.mk hlen0;clear hlen0;have hple:=HM.out.R.le;obtain⟨A,c,rfl⟩:=Kd.R_slice HM.out.own
    cases hm1:mk0 (leftL ts p') [42]with
    |true =>
     have HS1:=z00.mk (z1e w0 wr g ts p' en ⟨#[42]⟩ HM.out.R HM.out.B);rw[z1g,show((⟨#[42]⟩:ByteArray).data.toList)=[42]from rfl,hm1]at HS1
     go_wp2_with fail
     refine HS1.out.mono ?_;rintro e w21 ⟨rfl,R,B,K⟩;simp only[if_true]at R;replace HM:=z00.mk (HM.out.call R B K);have hlt:=z65 hm1;clear R B K HS1;have HG:=z00.mk (fun W=>z2t 5 W)
     go_wp2_with fail
     refine(HG.out _).mono ?_;rintro e ws ⟨rfl,d⟩;replace HM:=z00.mk (HM.out.below d);clear d;have hlen:acc.length≤20000:=by have:=HLEN.out;omega
     go_wp2_with ((with_reducible refine z1p (b:=.append) (xs:=#[.tmp 40,.tmp 42]) rfl ?_);at_builtin;refine Kd.R_append k69 (w0:=ws) w.heap.size rfl (.tmp 40) (.tmp 42) 37 69 (.agg #[(.int .i64 0),(.string ⟨#[]⟩)]) 24 rfl Tryz.underlying37 z4d rfl (by decide) (by decide) (.slice A acc.length c) acc (stepS 5) [.int .i64 5,.string ⟨#[]⟩] (fun k=>w.heap.size≤k) (fun _=>False) rfl zA0i (z3r _ _ _ (stepS 5)) (fun _ hk=>hk.elim) (fun k hk=>Nat.le_trans HM.out.K.1 hk) HM.out.own (Below.refl _ _) HM.out.K.1 (by have:=hlen;omega) ?_;intro v1 w2 ho hb hg hat;have HM3:=z00.mk (HM.out.more ho hb hg);clear ho hb hg hat)
     clear HM;have HM:=HM3;clear HM3
     go_roundg (ts.length - p')
     case rel=>exact⟨acc++[stepS 5],p'+1,v1,rfl,by omega,by rw[List.length_append,List.length_singleton];have:=HLEN.out;omega,⟨zA11⟩,HM⟩
     case measure=>omega
    |false =>
     have HS1:=z00.mk (z1e w0 wr g ts p' en ⟨#[42]⟩ HM.out.R HM.out.B);rw[z1g,show((⟨#[42]⟩:ByteArray).data.toList)=[42]from rfl,hm1]at HS1
     go_wp2_with fail
     refine HS1.out.mono ?_;rintro e w21 ⟨rfl,R,B,K⟩;simp only[Bool.false_eq_true,if_false]at R;replace HM:=z00.mk (HM.out.call R B K);clear R B K HS1
     cases hm2:mk0 (leftL ts p') [43]with
     |true =>
      have HS2:=z00.mk (z1e w0 w21 g ts p' en ⟨#[43]⟩ HM.out.R HM.out.B);rw[z1g,show((⟨#[43]⟩:ByteArray).data.toList)=[43]from rfl,hm2]at HS2
      go_wp2_with fail
      refine HS2.out.mono ?_;rintro e w22 ⟨rfl,R,B,K⟩;simp only[if_true]at R;replace HM:=z00.mk (HM.out.call R B K);have hlt:=z65 hm2;clear R B K HS2;have HG:=z00.mk (fun W=>z2t 6 W)
      go_wp2_with fail
      refine(HG.out _).mono ?_;rintro e ws ⟨rfl,d⟩;replace HM:=z00.mk (HM.out.below d);clear d;have hlen:acc.length≤20000:=by have:=HLEN.out;omega
      go_wp2_with ((with_reducible refine z1p (b:=.append) (xs:=#[.tmp 47,.tmp 49]) rfl ?_);at_builtin;refine Kd.R_append k69 (w0:=ws) w.heap.size rfl (.tmp 47) (.tmp 49) 37 69 (.agg #[(.int .i64 0),(.string ⟨#[]⟩)]) 24 rfl Tryz.underlying37 z4d rfl (by decide) (by decide) (.slice A acc.length c) acc (stepS 6) [.int .i64 6,.string ⟨#[]⟩] (fun k=>w.heap.size≤k) (fun _=>False) rfl zA0i (z3r _ _ _ (stepS 6)) (fun _ hk=>hk.elim) (fun k hk=>Nat.le_trans HM.out.K.1 hk) HM.out.own (Below.refl _ _) HM.out.K.1 (by have:=hlen;omega) ?_;intro v1 w2 ho hb hg hat;have HM3:=z00.mk (HM.out.more ho hb hg);clear ho hb hg hat)
      clear HM;have HM:=HM3;clear HM3
      go_roundg (ts.length - p')
      case rel=>exact⟨acc++[stepS 6],p'+1,v1,rfl,by omega,by rw[List.length_append,List.length_singleton];have:=HLEN.out;omega,⟨zA0y⟩,HM⟩
      case measure=>omega
     |false =>
      have HS2:=z00.mk (z1e w0 w21 g ts p' en ⟨#[43]⟩ HM.out.R HM.out.B);rw[z1g,show((⟨#[43]⟩:ByteArray).data.toList)=[43]from rfl,hm2]at HS2
      go_wp2_with fail
      refine HS2.out.mono ?_;rintro e w22 ⟨rfl,R,B,K⟩;simp only[Bool.false_eq_true,if_false]at R;replace HM:=z00.mk (HM.out.call R B K);clear R B K HS2
      cases hm3:mk0 (leftL ts p') [63]with
      |true =>
       have HS3:=z00.mk (z1e w0 w22 g ts p' en ⟨#[63]⟩ HM.out.R HM.out.B);rw[z1g,show((⟨#[63]⟩:ByteArray).data.toList)=[63]from rfl,hm3]at HS3
       go_wp2_with fail
       refine HS3.out.mono ?_;rintro e w23 ⟨rfl,R,B,K⟩;simp only[if_true]at R;replace HM:=z00.mk (HM.out.call R B K);have hlt:=z65 hm3;clear R B K HS3;have HG:=z00.mk (fun W=>z2t 7 W)
       go_wp2_with fail
       refine(HG.out _).mono ?_;rintro e ws ⟨rfl,d⟩;replace HM:=z00.mk (HM.out.below d);clear d;have hlen:acc.length≤20000:=by have:=HLEN.out;omega
       go_wp2_with ((with_reducible refine z1p (b:=.append) (xs:=#[.tmp 54,.tmp 56]) rfl ?_);at_builtin;refine Kd.R_append k69 (w0:=ws) w.heap.size rfl (.tmp 54) (.tmp 56) 37 69 (.agg #[(.int .i64 0),(.string ⟨#[]⟩)]) 24 rfl Tryz.underlying37 z4d rfl (by decide) (by decide) (.slice A acc.length c) acc (stepS 7) [.int .i64 7,.string ⟨#[]⟩] (fun k=>w.heap.size≤k) (fun _=>False) rfl zA0i (z3r _ _ _ (stepS 7)) (fun _ hk=>hk.elim) (fun k hk=>Nat.le_trans HM.out.K.1 hk) HM.out.own (Below.refl _ _) HM.out.K.1 (by have:=hlen;omega) ?_;intro v1 w2 ho hb hg hat;have HM3:=z00.mk (HM.out.more ho hb hg);clear ho hb hg hat)
       clear HM;have HM:=HM3;clear HM3
       go_roundg (ts.length - p')
       case rel=>exact⟨acc++[stepS 7],p'+1,v1,rfl,by omega,by rw[List.length_append,List.length_singleton];have:=HLEN.out;omega,⟨zA0t⟩,HM⟩
       case measure=>omega
      |false =>
       have HS3:=z00.mk (z1e w0 w22 g ts p' en ⟨#[63]⟩ HM.out.R HM.out.B);rw[z1g,show((⟨#[63]⟩:ByteArray).data.toList)=[63]from rfl,hm3]at HS3
       go_wp2_with fail
       refine HS3.out.mono ?_;rintro e w23 ⟨rfl,R,B,K⟩;simp only[Bool.false_eq_true,if_false]at R;replace HM:=z00.mk (HM.out.call R B K);clear R B K HS3;replace HQ:=z00.mk (show r=.ok (acc,leftL ts p') by rw[HQ.out,z96 hm1 hm2 hm3,List.append_nil]);go_wp2
       try rw[Exit.noGoto_ret]
       go_ret
       exact⟨HM.out.B,HM.out.K,p',HM.out.R,by rw[HQ.out];exact⟨rfl,_,rfl,HM.out.own⟩⟩
end Go.Proofs.YthebhbomlllpeaaGreatDoor.X
