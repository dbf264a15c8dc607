/-
  ParseJoins: what the proof needs, put together by a program of this session (shake.py), part 8.
-/
import Derived.Test.YthebhbomlllpeaaGreatDoorZParseJoins7
set_option linter.unusedVariables false
set_option linter.unusedSimpArgs false
namespace Go.Proofs.YthebhbomlllpeaaGreatDoor.X
open Go.RowKit Go.Proofs.YthebhbomlllpeaaGreatDoorW.PrintWords Go.Proofs.YthebhbomlllpeaaGreatDoorW.PrintLast Go.Proofs.YthebhbomlllpeaaGreatDoorW.PrintMore
theorem zbs {l:List TK} {y:LtS} {r:List TK} (h:z1x l=.ok (y,r)):y.f1.f1.length≤1000∧y.f6.length≤100:=by
 have holds:∀k l y r,z4e k l=.ok (y,r)→y.f1.f1.length≤1000∧y.f6.length≤100:=fun k l y r h=>by
  unfold z4e at h;obtain⟨a,r1,ha,h⟩:=z1r h;injection h with h;injection h with e1 _
  rw[←e1];have:=z8e ha;exact⟨by show a.1.f1.length≤1000;omega,by show([]:List StS).length≤100;simp⟩
 unfold z1x at h
 split at h
 · unfold z4b at h;obtain⟨a,r1,_,h⟩:=z1r h;obtain⟨b,r2,_,h⟩:=z1r h;injection h with h;injection h with e1 _
   rw[←e1];exact⟨by simp[noneA],by simp⟩
 split at h
 · unfold letP at h;obtain⟨a,r1,_,h⟩:=z1r h;obtain⟨b,r2,_,h⟩:=z1r h;obtain⟨s,r3,_,h⟩:=z1r h;obtain⟨c,r4,_,h⟩:=z1r h;injection h with h;injection h with e1 _
   rw[←e1];exact⟨by simp[noneA],by simp⟩
 split at h
 · exact holds 2 _ _ _ h
 split at h
 · unfold walkP at h;obtain⟨_,r1,_,h⟩:=z1r h;obtain⟨_,r1,_,h⟩:=z1r h;obtain⟨_,r1,_,h⟩:=z1r h;obtain⟨p,r1,hp,h⟩:=z1r h;obtain⟨_,r1,_,h⟩:=z1r h;obtain⟨_,r1,_,h⟩:=z1r h;obtain⟨_,r1,_,h⟩:=z1r h;injection h with h;injection h with e1 _
   rw[←e1];exact⟨by simp[noneA],(whole_of hp).2⟩
 split at h
 · exact holds 1 _ _ _ h
 obtain⟨_,r1,_,h⟩:=z1r h
 cases h
theorem zac:∀(n:Nat) (acc:List LtS) (l:List TK) (x:List LtS) (r:List TK),(∀y ∈ acc,y.f1.f1.length≤1000∧y.f6.length≤100)→bodyP n acc l=.ok (x,r)→x.length≤acc.length+n∧∀y ∈ x,y.f1.f1.length≤1000∧y.f6.length≤100
 |0,acc,l,x,r,ha,h=>by simp only[bodyP]at h;cases h
 |n+1,acc,l,x,r,ha,h=>by
  simp only[bodyP]at h
  split at h
  · cases h
  obtain⟨z,r1,hz,h⟩:=z1r h;have hall:∀y ∈ acc++[z],y.f1.f1.length≤1000∧y.f6.length≤100:=fun y hy=>by
   rcases List.mem_append.1 hy with hy|hy
   · exact ha y hy
   · rw[List.mem_singleton]at hy;rw[hy];exact zbs hz
  split at h
  · obtain⟨h1,h2⟩:=zac n _ _ x r hall h;simp only[List.length_append,List.length_cons,List.length_nil]at h1;exact⟨by omega,h2⟩
  · injection h with h;injection h with e1 _
    rw[←e1];exact⟨by simp,hall⟩
theorem zem {l:List TK} {x:RlS} {r:List TK} (h:ruleP l=.ok (x,r)):z6j x:=by
 unfold ruleP at h;obtain⟨a,r1,ha,h⟩:=z1r h;obtain⟨b,r2,hb,h⟩:=z1r h;obtain⟨_,r3,_,h⟩:=z1r h;injection h with h;injection h with e1 _
 rw[←e1];have h1:=z8e ha;have h2:b.length≤13∧∀y ∈ b,y.f1.f1.length≤1000∧y.f6.length≤100:=by
  unfold tailP at hb
  split at hb
  · have:=zac 13 [] _ _ _ (fun y hy=>by cases hy) hb
    simpa using this
  · injection hb with hb;injection hb with e2 _
    rw[←e2];exact⟨by simp,fun y hy=>by cases hy⟩
 exact⟨by show a.1.f1.length≤1000;omega,by show b.length≤1000;omega,h2.2⟩
theorem z95:∀(n:Nat) (acc:List RlS) (l:List TK) (x:List RlS) (r:List TK),(∀y ∈ acc,z6j y)→z3x n acc l=.ok (x,r)→x.length≤acc.length+n∧∀y ∈ x,z6j y
 |0,acc,l,x,r,ha,h=>by simp only[z3x]at h;cases h
 |n+1,acc,l,x,r,ha,h=>by
  simp only[z3x]at h
  split at h
  · injection h with h;injection h with e1 _
    rw[←e1];exact⟨by omega,ha⟩
  · split at h
    · cases h
    obtain⟨z,r1,hz,h⟩:=z1r h;have hall:∀y ∈ acc++[z],z6j y:=fun y hy=>by
     rcases List.mem_append.1 hy with hy|hy
     · exact ha y hy
     · rw[List.mem_singleton]at hy;rw[hy];exact zem hz
    obtain⟨h1,h2⟩:=z95 n _ _ x r hall h;simp only[List.length_append,List.length_cons,List.length_nil]at h1;exact⟨by omega,h2⟩
theorem zam {l:List TK} {p:PgS} {r:List TK} (h:z1t l=.ok (p,r)):p.f0.length≤201∧(∀y ∈ p.f0,z6j y)∧p.f1.f1.length≤9:=by
 have hq:=ze4 h;unfold z1t at h;obtain⟨rs,r1,hr,h⟩:=z1r h;obtain⟨q,r2,_,h⟩:=z1r h;obtain⟨_,r3,_,h⟩:=z1r h;injection h with h;injection h with e1 _
 rw[←e1]at hq ⊢;have:=z95 201 [] _ _ _ (fun y hy=>by cases hy) hr;simp only[List.length_nil]at this;exact⟨by show rs.length≤201;omega,this.2,hq⟩
theorem z8t {s:List UInt8} {p:PgS} (h:progO s=some p):p.f0.length≤201∧(∀y ∈ p.f0,z6j y)∧p.f1.f1.length≤9:=by
 unfold progO at h
 cases ht:tkO s with
 |none=>rw[ht]at h;cases h
 |some ts =>
  rw[ht,Option.bind_some]at h
  split at h
  · rename_i y hy;injection h with h
    subst h;exact zam hy
  · cases h
def joinT (s:List UInt8):List UInt8:=s++[10,63,45,32,120,46]
theorem tail_j:tkO [10,63,45,32,120,46]=some [qT,xT,mkT 46] :=
 z78 (by decide) (toks_two (.inr ⟨rfl,rfl⟩) (z78 (by decide) (word_app (w:=[120]) (by decide) (by decide) (zfu (by decide) (z9q _ _)))))
theorem z92 {s:List UInt8} {p:PgS} (h:progO (joinT s)=some p):∃S,tkO s=some S∧z1t (S++[qT,xT,mkT 46])=.ok (p,[]):=by
 unfold progO at h
 cases hS:tkO s with
 |none=>rw[show tkO (joinT s)=none from sep_none (by decide) hS]at h;cases h
 |some S =>
  rw[show tkO (joinT s)=some (S++[qT,xT,mkT 46])from z7u (by decide) hS tail_j,Option.bind_some]at h
  split at h
  · rename_i y hy;injection h with h
    subst h;exact⟨S,rfl,hy⟩
  · cases h
theorem zf7 {a b:List UInt8} {p q:PgS} (h:progO (joinT a)=some p) (h':progO (joinT b)=some q) (hn:p.f0.length+q.f0.length≤200):progO (a++10::joinT b)=some ⟨p.f0++q.f0,⟨⟨#[120]⟩,[]⟩⟩:=by
 obtain⟨A,hA,h1⟩:=z92 h;obtain⟨B,hB,h2⟩:=z92 h';have hb:tkO (joinT b)=some (B++[qT,xT,mkT 46]):=z7u (by decide) hB tail_j;have hab:tkO (a++10::joinT b)=some (A++(B++[qT,xT,mkT 46])):=z7u (by decide) hA (z78 (by decide) hb);unfold progO;rw[hab,Option.bind_some,z9f (q:=qT) (x:=xT) (d:=mkT 46) (two_is 63 45) (by decide) (mk_is 46) h1 h2 hn]
theorem z6l {s:ByteArray} (hs:s.size≤20000):(∃p,progO s.data.toList=some p∧z17.f s=some (p.f0,p.f1.f0,p.f1.f1,0,0))∨∃r1 r2 r3 r4 r5,z17.f s=some (r1,r2,r3,r4,r5)∧r5≠0:=by
 unfold z17.f;rw[if_pos (by omega)]
 cases hp:progO s.data.toList with
 |none=>exact .inr ⟨_,_,_,_,_,rfl,ze2 hs hp zc8⟩
 |some p =>
  refine .inl ⟨p,rfl,?_⟩;rw[z8v hs hp]

theorem pj_wrap {m n:Nat} (h1:m≤201) (h2:n≤201):wrap64 ((m:Int)+(n:Int))=((m+n:Nat):Int):=by unfold wrap64;omega
theorem pj_le {m n:Nat} (h:decide (((m+n:Nat):Int)>200)=false):m+n≤200:=by
 have:=of_decide_eq_false h;omega
theorem zd2 {n:Nat} (h:¬(n:Int)>1500):n≤1500:=by omega
theorem pj_fit {n:Nat} (h:n≤1500):n+6≤9223372036854775807:=by omega
theorem pj_fit1 {n:Nat} (h:n≤1500):n+1≤9223372036854775807:=by omega
theorem pj_fit2 {n m:Nat} (h:n≤1500) (h':m≤1500):n+1+m≤9223372036854775807:=by omega
theorem pj_fit3 {n m:Nat} (h:n≤1500) (h':m≤1500):n+1+m+6≤9223372036854775807:=by omega
theorem pj_row {n m:Nat} (h:n+m≤200):n+m<1954687338268:=by omega
theorem pj_row0 {n m:Nat} (h:n+m≤200):0+n<1954687338268:=by omega
theorem zej (a:ByteArray):a.data.toList.length=a.size:=by rw[Array.length_toList];rfl
theorem pj_ea (a:ByteArray):a++(⟨#[10,63,45,32,120,46]⟩:ByteArray)=baL (joinT a.data.toList):=ba_eq (by simp[joinT])
theorem pj_eab (a b:ByteArray):((a++(⟨#[10]⟩:ByteArray))++b)++(⟨#[10,63,45,32,120,46]⟩:ByteArray)=baL (a.data.toList++10::joinT b.data.toList):=ba_eq (by simp[joinT])
theorem pj_sa {a:ByteArray} (h:a.size≤1500):(baL (joinT a.data.toList)).size≤20000:=by
 show(joinT a.data.toList).toArray.size≤_;have:=zej a;simp only[joinT,List.size_toArray,List.length_append,List.length_cons,List.length_nil];omega
theorem zfr {a b:ByteArray} (h:a.size≤1500) (h':b.size≤1500):(baL (a.data.toList++10::joinT b.data.toList)).size≤20000:=by
 show(a.data.toList++10::joinT b.data.toList).toArray.size≤_;have:=zej a;have:=zej b;simp only[joinT,List.size_toArray,List.length_append,List.length_cons,List.length_nil];omega
theorem z9z (k:Nat) (a b:ByteArray) (l0:List RlS) (n0:ByteArray) (a0:List TmS) (l1:List RlS) (n1:ByteArray) (a1:List TmS):z0a.j1 (k+1) a b true l0 n0 a0 l1 n1 a1=some true:=by
 rw[z0a.j1,if_pos rfl]
theorem zes (k:Nat) {a b:ByteArray} (ha:a.size≤1500) (hb:b.size≤1500) {l0:List RlS} {n0:ByteArray} {a0:List TmS} {l1:List RlS} {n1:ByteArray} {a1:List TmS} {rs:List RlS} {rn:ByteArray} {ra:List TmS} {r4:Int} (hl:l0.length+l1.length≤200)
 (hp:z17.f (((a++(⟨#[10]⟩:ByteArray))++b)++(⟨#[10,63,45,32,120,46]⟩:ByteArray))=some (rs,rn,ra,r4,0)) (hs:z0v.f rs rn ra (l0++l1) (⟨#[120]⟩:ByteArray) []=some true) :
 z0a.j1 (k+1) a b false l0 n0 a0 l1 n1 a1=some true:=by
 rw[z0a.j1,if_neg (by decide:¬(false=true)),if_pos (pj_fit1 ha),if_pos (pj_fit2 ha hb),if_pos (pj_fit3 ha hb),hp,Option.bind_some,Option.bind_some,List.nil_append,List.length_nil,if_pos (pj_row0 hl),Option.bind_some,if_pos (pj_row hl),if_pos rfl,hs,Option.bind_some]
theorem zb3 (k:Nat) (a b:ByteArray):z0a.j0 (k+1) a b true=some true:=by
 rw[z0a.j0,if_pos rfl,show z0y.f=some true from rfl,Option.bind_some]
theorem zfv (k:Nat) {a b:ByteArray} (ha:a.size≤1500) (hb:b.size≤1500) {l0 l1:List RlS} {n0 n1:ByteArray} {a0 a1:List TmS} {x0 x1:Int} {e0 e1:Int}
 (h0:z17.f (a++(⟨#[10,63,45,32,120,46]⟩:ByteArray))=some (l0,n0,a0,x0,e0)) (h1:z17.f (b++(⟨#[10,63,45,32,120,46]⟩:ByteArray))=some (l1,n1,a1,x1,e1))
 (h:e0=0→e1=0→z0a.j1 (k+1) a b (decide (wrap64 ((l0.length:Int)+(l1.length:Int))>200)) l0 n0 a0 l1 n1 a1=some true) :
 z0a.j0 (k+2) a b false=some true:=by
 rw[z0a.j0,if_neg (by decide:¬(false=true)),if_pos (pj_fit ha),h0,Option.bind_some,if_pos (pj_fit hb),h1,Option.bind_some];show(if e0=0 then(if e1=0 then _ else _)else _)=_
 by_cases c0:e0=0
 · rw[if_pos c0]
   by_cases c1:e1=0
   · rw[if_pos c1];exact h c0 c1
   · rw[if_neg c1];exact z9z k _ _ _ _ _ _ _ _
 · rw[if_neg c0];exact z9z k _ _ _ _ _ _ _ _
theorem ze5 (k:Nat) {a b:ByteArray} (ha:a.size≤1500) (hb:b.size≤1500):z0a.j0 (k+2) a b false=some true:=by
 obtain⟨l0,n0,a0,x0,e0,h0,g0⟩:∃l0 n0 a0 x0 e0,z17.f (a++(⟨#[10,63,45,32,120,46]⟩:ByteArray))=some (l0,n0,a0,x0,e0)∧(e0=0→∃p,progO (joinT a.data.toList)=some p∧p.f0=l0):=by
  rw[pj_ea];rcases z6l (pj_sa ha)with ⟨p,hp,hpa⟩|⟨r1,r2,r3,r4,r5,hpa,hne⟩
  · exact⟨_,_,_,_,_,hpa,fun _=>⟨p,hp,rfl⟩⟩
  · exact⟨_,_,_,_,_,hpa,fun h=>absurd h hne⟩
 obtain⟨l1,n1,a1,x1,e1,h1,g1⟩:∃l0 n0 a0 x0 e0,z17.f (b++(⟨#[10,63,45,32,120,46]⟩:ByteArray))=some (l0,n0,a0,x0,e0)∧(e0=0→∃p,progO (joinT b.data.toList)=some p∧p.f0=l0):=by
  rw[pj_ea];rcases z6l (pj_sa hb)with ⟨p,hp,hpa⟩|⟨r1,r2,r3,r4,r5,hpa,hne⟩
  · exact⟨_,_,_,_,_,hpa,fun _=>⟨p,hp,rfl⟩⟩
  · exact⟨_,_,_,_,_,hpa,fun h=>absurd h hne⟩
 refine zfv k ha hb h0 h1 fun c0 c1=>?_
 obtain⟨p,hp,rfl⟩:=g0 c0;obtain⟨q,hq,rfl⟩:=g1 c1;clear h0 h1 g0 g1;obtain⟨m1,m2,m3⟩:=z8t hp;obtain⟨m4,m5,m6⟩:=z8t hq;rw[pj_wrap m1 m4]
 cases hn:decide (((p.f0.length+q.f0.length:Nat):Int)>200)with
 |true=>exact z9z k _ _ _ _ _ _ _ _
 |false =>
  have hle:=pj_le hn;have hj:=zf7 hp hq hle;have hs:z0v.f (p.f0++q.f0) (⟨#[120]⟩:ByteArray) [] (p.f0++q.f0) (⟨#[120]⟩:ByteArray) []=some true :=
   same_f (by rw[List.length_append];exact Nat.le_trans hle (by decide)) (fun x hx=>(List.mem_append.1 hx).elim (m2 x) (m5 x)) (by decide)
  refine zes k ha hb (rs:=p.f0++q.f0) (rn:=⟨#[120]⟩) (ra:=[]) (r4:=0) hle ?_ hs;rw[pj_eab];rcases z6l (zfr ha hb)with ⟨r,hr,hpr⟩|⟨r1,r2,r3,r4,r5,hpr,hne⟩
  · have hr:progO (a.data.toList++10::joinT b.data.toList)=some r:=hr;rw[hj]at hr;injection hr with hr
    subst hr;exact hpr
  · exfalso
    have:=z8v (s:=baL (a.data.toList++10::joinT b.data.toList)) (zfr ha hb) hj;unfold z17.f at hpr;rw[if_pos (Nat.le_trans (zfr ha hb) (by decide)),this]at hpr;injection hpr with hpr
    injection hpr with _ hpr;injection hpr with _ hpr;injection hpr with _ hpr;injection hpr with _ hpr
    exact hne hpr.symm
theorem z8k (a:ByteArray) (ha:a.size≤maxLen) (b:ByteArray) (hb:b.size≤maxLen):∃k,z0a.f k a b=some true:=by
 refine⟨5,?_⟩;unfold z0a.f;rw[show z0y.f=some true from rfl,Option.bind_some,if_pos rfl]
 by_cases h1:(a.size:Int)>1500
 · rw[if_pos h1];exact zb3 4 a b
 · rw[if_neg h1]
   cases hd:decide ((b.size:Int)>1500)with
   |true=>exact zb3 4 a b
   |false=>exact ze5 3 (zd2 h1) (zd2 (of_decide_eq_false hd))
end Go.Proofs.YthebhbomlllpeaaGreatDoor.X
