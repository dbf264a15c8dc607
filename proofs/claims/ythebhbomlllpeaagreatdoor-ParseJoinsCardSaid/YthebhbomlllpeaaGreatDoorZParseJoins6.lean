/-
  ParseJoins: what the proof needs, put together by a program of this session (shake.py), part 6.
-/
import Derived.Test.YthebhbomlllpeaaGreatDoorZParseJoins5
set_option linter.unusedVariables false
set_option linter.unusedSimpArgs false
namespace Go.Proofs.YthebhbomlllpeaaGreatDoor.X
def Clo {α:Type} (p:Prs α):Prop:=∀l x r,p l=.ok (x,r)→∃u,l=u++r∧u≠[]∧∀r',p (u++r')=.ok (x,r')
theorem zeu {α:Type} {u:List α} (hu:u≠[]) (r r':List α):(u++r').head?=(u++r).head?:=by
 cases u with
 |nil=>exact absurd rfl hu
 |cons t u=>rfl
theorem clo_want (s:List UInt8):Clo (wantP s):=fun l x r h=>by
 unfold wantP at h
 split at h
 · rename_i hm;obtain⟨t,l',rfl,ht⟩:=z5c hm;injection h with h;injection h with e1 e2
   refine⟨[t],by rw[←e2];rfl,by simp,fun r'=>?_⟩;unfold wantP;rw[if_pos (by exact ht)];rfl
 · cases h
theorem Clo.bind {α β:Type} {m:Nat} {p:Prs α} {f:α→Prs β} (hp:Loc m p) (hf:∀x,Clo (f x)):Clo (fun l=>bnd (p l) f):=fun l y r h=>by
 obtain⟨x,r1,h1,h2⟩:=z1r h;obtain⟨u,e,hm,hu⟩:=hp l x r1 h1;obtain⟨v,e',hn,hv⟩:=hf x r1 y r h2;refine⟨u++v,by rw[e,e',List.append_assoc],by simp[hn],fun r'=>?_⟩;simp only;rw[List.append_assoc,z2n (hu (v++r') (by rw[e'];exact zeu hn _ _))];exact hv r'
theorem Clo.pure {α β:Type} {p:Prs α} {g:α→β} (hp:Clo p):Clo (fun l=>bnd (p l) fun a r=>.ok (g a,r)):=fun l y r h=>by
 obtain⟨x,r1,h1,h2⟩:=z1r h;injection h2 with h2;injection h2 with e1 e2
 subst e1;subst e2;obtain⟨u,e,hn,hu⟩:=hp l x r1 h1;exact⟨u,e,hn,fun r'=>by simp only;rw[z2n (hu r')]⟩
theorem clo_rule:Clo ruleP:=Clo.bind (za8 true) fun h=>Clo.bind loc_tail fun b=>Clo.pure (g:=fun _=>(⟨h.1,h.2,b⟩:RlS)) (clo_want [46])
def Cons {α:Type} (N:TK→Prop) (p:Prs α):Prop:=∀l x r,p l=.ok (x,r)→∃u,l=u++r∧∀t ∈ u,N t
theorem Cons.bind {α β:Type} {N:TK→Prop} {p:Prs α} {f:α→Prs β} (hp:Cons N p) (hf:∀x,Cons N (f x)):Cons N (fun l=>bnd (p l) f):=fun l y r h=>by
 obtain⟨x,r1,h1,h2⟩:=z1r h;obtain⟨u,e,hu⟩:=hp l x r1 h1;obtain⟨v,e',hv⟩:=hf x r1 y r h2;refine⟨u++v,by rw[e,e',List.append_assoc],fun t ht=>?_⟩;rcases List.mem_append.1 ht with h|h
 · exact hu t h
 · exact hv t h
theorem Cons.pure {α:Type} {N:TK→Prop} (x:α):Cons N (fun l=>.ok (x,l)):=fun l y r h=>by
 injection h with h;injection h with e1 e2
 subst e2;exact⟨[],rfl,fun t h=>by cases h⟩
def NoQ (t:TK):Prop:=isT t 4 [63,45]=false
theorem z7t {t:TK} (h:t.1≠4):NoQ t:=by
 unfold NoQ isT;rw[Bool.and_eq_false_iff];exact Or.inl (beq_eq_false_iff_ne.2 h)
theorem za6 {t:TK} {s:List UInt8} (h:isT t 4 s=true) (hs:s≠[63,45]):NoQ t:=by
 obtain⟨h1,h2⟩:=zda h;unfold NoQ isT;rw[Bool.and_eq_false_iff];exact Or.inr (beq_eq_false_iff_ne.2 (by rw[h2];exact hs))
theorem z8h:Cons NoQ z1h:=fun l x r h=>by
 obtain⟨t,rfl,rfl,ht⟩:=z9y h;unfold predB at ht;simp only[Bool.and_eq_true,beq_iff_eq]at ht;refine⟨[t],rfl,fun u hu=>?_⟩;rw[List.mem_singleton.1 hu];exact z7t (by omega)
theorem z9r:Cons NoQ z2i:=fun l x r h=>by
 cases l with
 |nil=>cases h
 |cons t l =>
  simp only[z2i]at h
  split at h
  · rename_i hp;injection h with h;injection h with e1 e2
    subst e2;refine⟨[t],rfl,fun u hu=>?_⟩;rw[List.mem_singleton.1 hu];rw[beq_iff_eq]at hp;exact z7t (by omega)
  · cases h
theorem term_tok {l:List TK} {x:TmS} {r:List TK} (h:termP l=.ok (x,r)):∃t,l=t::r∧(t.1=1∨t.1=2∨t.1=3):=by
 cases l with
 |nil=>cases h
 |cons t l =>
  simp only[termP]at h
  split at h
  · rename_i hp;injection h with h;injection h with e1 e2
    subst e2;exact⟨t,rfl,Or.inr (Or.inl (beq_iff_eq.1 hp))⟩
  · split at h
    · rename_i hp;injection h with h;injection h with e1 e2
      subst e2;simp only[Bool.or_eq_true,beq_iff_eq]at hp;exact⟨t,rfl,by omega⟩
    · cases h
theorem zeo:Cons NoQ termP:=fun l x r h=>by
 obtain⟨t,rfl,ht⟩:=term_tok h;refine⟨[t],rfl,fun u hu=>?_⟩;rw[List.mem_singleton.1 hu];exact z7t (by omega)
theorem zar {s:List UInt8} (hs:s≠[63,45]):Cons NoQ (wantP s):=fun l x r h=>by
 unfold wantP at h
 split at h
 · rename_i hm;obtain⟨t,l',rfl,ht⟩:=z5c hm;injection h with h;injection h with e1 e2
   refine⟨[t],by rw[←e2];rfl,fun u hu=>?_⟩;rw[List.mem_singleton.1 hu];exact za6 ht hs
 · cases h
theorem Cons.skip {α:Type} {p q:Prs α} {s:List UInt8} (hs:s≠[63,45]) (hp:Cons NoQ p) (hq:Cons NoQ q):Cons NoQ (fun l=>if mk0 l s then p (l.drop 1)else q l):=fun l x r h=>by
 simp only at h
 split at h
 · rename_i hm;obtain⟨t,l',rfl,ht⟩:=z5c hm;obtain⟨u,e,hu⟩:=hp _ _ _ h;refine⟨t::u,by rw[List.cons_append,←e];rfl,fun v hv=>?_⟩;rcases List.mem_cons.1 hv with rfl|hv
   · exact za6 ht hs
   · exact hu v hv
 · exact hq l x r h
theorem zak (head:Bool):∀(n:Nat) (acc:List TmS),Cons NoQ (argsP head n acc)
 |0,acc=>fun l x r h=>by cases h
 |n+1,acc=>fun l x r h=>by
  have hT:Cons NoQ (fun l=>bnd (termP l) fun x r=>if mk0 r [44]then argsP head n (acc++[x]) (r.drop 1)else .ok ((acc++[x],0),r)) :=
   Cons.bind zeo fun x=>Cons.skip (by decide) (zak head n (acc++[x])) (Cons.pure _)
  simp only[argsP]at h
  split at h
  · cases h
  · split at h
    · rename_i hf;simp only[Bool.and_eq_true]at hf;obtain⟨t,u,l2,rfl,hu⟩:=zbn hf.2;obtain⟨v,e,hv⟩:=(Cons.bind (p:=z2i) (f:=fun x r=>bnd (wantP [41] r) fun _ r=>.ok ((acc++[x],foldL t.2.data.toList),r)) z9r (fun x=>Cons.bind (zar (by decide)) (fun _=>Cons.pure _))) l2 x r h;refine⟨t::u::v,by rw[e];rfl,fun w hw=>?_⟩;rcases List.mem_cons.1 hw with rfl|hw
      · have:=hf.2;simp only[foldB,Bool.and_eq_true,beq_iff_eq]at this;exact z7t (by omega)
      · rcases List.mem_cons.1 hw with rfl|hw
        · exact za6 hu (by decide)
        · exact hv w hw
    · exact hT l x r h
theorem zfz (head:Bool):Cons NoQ (atomP head) :=
 Cons.bind z8h fun p=>Cons.skip (by decide) (p:=fun r=>bnd (argsP head 9 [] r) fun a r=>bnd (wantP [41] r) fun _ r=>.ok (((⟨p,a.1⟩:AtS),a.2),r))
  (Cons.bind (zak head 9 []) fun y=>Cons.bind (zar (by decide)) fun _=>Cons.pure _) (Cons.pure _)
theorem z96:∀(n:Nat) (acc:List RlS) (l:List TK) (rs:List RlS) (r:List TK),z3x n acc l=.ok (rs,r) →
 ∃u xs q,l=u++q::r∧isT q 4 [63,45]=true∧rs=acc++xs∧xs.length<n∧∀m acc' l',xs.length<m→z3x m acc' (u++l')=z3x (m - xs.length) (acc'++xs) l'
 |0,acc,l,rs,r,h=>by cases h
 |n+1,acc,l,rs,r,h=>by
  simp only[z3x]at h
  split at h
  · rename_i hm;obtain⟨t,l',rfl,ht⟩:=z5c hm;injection h with h;injection h with e1 e2
    subst e1;subst e2;exact⟨[],[],t,rfl,ht,by simp,by simp,fun m acc' l' _=>by simp⟩
  · rename_i hm
    split at h
    · cases h
    · obtain⟨x,r1,h1,h⟩:=z1r h;obtain⟨u,e,hne,hu⟩:=clo_rule l x r1 h1;obtain⟨v,xs,q,e2,hq,e3,hlt,hall⟩:=z96 n _ r1 rs r h;refine⟨u++v,x::xs,q,by rw[e,e2,List.append_assoc],hq,by rw[e3];simp,by simp only[List.length_cons];omega,fun m acc' l' hm'=>?_⟩;simp only[List.length_cons]at hm';obtain⟨m,rfl⟩:∃j,m=j+1:=⟨m - 1,by omega⟩
      rw[List.append_assoc];have hh:(u++(v++l')).head?=l.head?:=by rw[e];exact zeu hne _ _
      simp only[z3x];rw[z6n hh,if_neg hm];have hm0:(m==0)=false:=beq_eq_false_iff_ne.2 (by omega);rw[hm0,Bool.false_and,if_neg (by simp),z2n (hu (v++l')),hall m _ l' (by omega)];simp only[List.length_cons,List.append_assoc,List.singleton_append];rw[show m+1 - (xs.length+1)=m - xs.length by omega]
theorem z73 {A:List TK} {x d q:TK} {p:PgS} (hq:isT q 4 [63,45]=true) (hx:predB x=true) (hd:isT d 4 [46]=true) (h:z1t (A++[q,x,d])=.ok (p,[])) :
 p.f0.length≤200∧∀m acc l,p.f0.length<m→z3x m acc (A++l)=z3x (m - p.f0.length) (acc++p.f0) l:=by
 unfold z1t at h;obtain⟨rs,r,h1,h⟩:=z1r h;obtain⟨a,r2,h2,h⟩:=z1r h;obtain⟨_,r3,h3,h⟩:=z1r h;injection h with h;injection h with e1 e2
 subst e1;subst e2;obtain⟨u,xs,q',e,hq',e3,hlt,hall⟩:=z96 201 [] _ _ _ h1;obtain⟨v,e4,hv⟩:=zfz false _ _ _ h2;obtain⟨v',e4',hne,_⟩:=za8 false _ _ _ h2;obtain⟨t,r4,rfl,ht⟩:∃t r4,r2=t::r4∧isT t 4 [46]=true:=by
  unfold wantP at h3
  split at h3
  · rename_i hm;exact z5c hm
  · cases h3
 have e6:r4=[]:=by
  unfold wantP at h3;rw[if_pos (by exact ht)]at h3;injection h3 with h3;injection h3
 subst e6;subst e4;have hv0:v≠[]:=by
  rintro rfl;obtain⟨e5,_⟩:v'=[]∧True:=⟨by simpa using e4',trivial⟩
  rw[e5]at hne;exact absurd hne (by simp)
 obtain⟨v1,y,rfl⟩:∃v1 y,v=v1++[y]:=⟨v.dropLast,v.getLast hv0,(List.dropLast_concat_getLast hv0).symm⟩
 simp only[List.nil_append]at e3;have hfin:A=u:=by
  by_cases h1:v1=[]
  · subst h1;exact(List.append_inj' (show A++[q,x,d]=u++[q',y,t] by rw[e];rfl) rfl).1
  · exfalso
    obtain⟨v2,z,rfl⟩:∃v2 z,v1=v2++[z]:=⟨v1.dropLast,v1.getLast h1,(List.dropLast_concat_getLast h1).symm⟩
    have:=(List.append_inj' (show A++[q,x,d]=(u++q'::v2)++[z,y,t] by rw[e];simp) rfl).2;injection this with this _
    have hz:=hv z (by simp);unfold NoQ at hz;rw[←this,hq]at hz
    cases hz
 subst hfin;subst e3;exact⟨by show rs.length≤200;omega,hall⟩
theorem z9f {A B:List TK} {x d q:TK} {p p':PgS} (hq:isT q 4 [63,45]=true) (hx:predB x=true) (hd:isT d 4 [46]=true) (h:z1t (A++[q,x,d])=.ok (p,[])) (h':z1t (B++[q,x,d])=.ok (p',[])) (hn:p.f0.length+p'.f0.length≤200) :
 z1t (A++(B++[q,x,d]))=.ok (⟨p.f0++p'.f0,⟨x.2,[]⟩⟩,[]):=by
 obtain⟨_,h1⟩:=z73 hq hx hd h;obtain⟨_,h2⟩:=z73 hq hx hd h';unfold z1t;have e1:z3x 201 [] (A++(B++[q,x,d]))=.ok (p.f0++p'.f0,[x,d]):=by
  rw[h1 201 [] _ (by omega),h2 _ _ _ (by omega)];obtain⟨m,hm⟩:∃m,201 - p.f0.length - p'.f0.length=m+1:=⟨200 - p.f0.length - p'.f0.length,by omega⟩
  rw[hm];simp only[z3x];rw[if_pos (show mk0 [q,x,d] [63,45]=true from hq)];rfl
 have hnot:mk0 [d] [40]=false:=by
  obtain⟨a,b⟩:=zda hd
  simp[mk0,isT,b]
 have e2:atomP false [x,d]=.ok ((⟨x.2,[]⟩,0),[d]):=by
  unfold atomP;rw[z2n (show z1h [x,d]=.ok (x.2,[d]) by simp only[z1h];rw[if_pos hx]),hnot,if_neg (by simp)]
 rw[z2n e1,z2n e2,z2n (show wantP [46] [d]=.ok ((),[]) by unfold wantP;rw[if_pos (by exact hd)];rfl)]

def progO (s:List UInt8):Option PgS:=(tkO s).bind fun ts=>match z1t ts with
 |.ok (p,[])=>some p
 |_=>none
theorem zcw {α:Type} {p:Prs α} {l:List TK}:(∃x,p l=.ok (x,[])∧allP p l=.ok x)∨((∀x,p l≠.ok (x,[]))∧∃q,allP p l=.error q):=by
 unfold allP
 cases h:p l with
 |error e=>exact .inr ⟨fun x h=>(by cases h),e,rfl⟩
 |ok y =>
  obtain⟨x,r⟩:=y
  cases r with
  |nil=>exact .inl ⟨x,rfl,rfl⟩
  |cons t r=>exact .inr ⟨fun x h=>(by injection h with h;injection h with _ h;cases h),_,rfl⟩
theorem z8v {s:ByteArray} (hs:s.size≤20000) {p:PgS} (h:progO s.data.toList=some p):z3f (⟨[],noneA⟩:PgS) z1t s=(p,0,0):=by
 unfold progO at h;rw[zd5 hs]at h
 split at h
 · rename_i hz;rw[Option.bind_some]at h;unfold z3f;rw[if_pos hz];rcases zcw (p:=z1t) (l:=(z48 s).1.map tkOf)with ⟨x,h1,h2⟩|⟨h1,q,h2⟩
   · rw[h1]at h;injection h with h
     rw[h2,←h];rfl
   · split at h
     · rename_i y hy;exact absurd hy (h1 y)
     · cases h
 · cases h
theorem ze2 {s:ByteArray} (hs:s.size≤20000) (h:progO s.data.toList=none) (herr:Err z1t):(z3f (⟨[],noneA⟩:PgS) z1t s).2.2≠0:=by
 unfold progO at h;rw[zd5 hs]at h;unfold z3f
 split at h
 · rename_i hz;rw[Option.bind_some]at h;rw[if_pos hz];rcases zcw (p:=z1t) (l:=(z48 s).1.map tkOf)with ⟨x,h1,h2⟩|⟨h1,q,h2⟩
   · rw[h1]at h;cases h
   · rw[h2];exact all_err herr h2
 · rename_i hz;rw[if_neg hz];exact hz
theorem z7g:Err z2i:=fun l q h=>by
 cases l with
 |nil=>simp only[z2i]at h;injection h with h;subst h;simp
 |cons t r =>
  simp only[z2i]at h
  split at h
  · cases h
  · injection h with h;subst h;simp
theorem z5e:Err termP:=fun l q h=>by
 cases l with
 |nil=>simp only[termP]at h;injection h with h;subst h;simp
 |cons t r =>
  simp only[termP]at h
  split at h
  · cases h
  · split at h
    · cases h
    · injection h with h;subst h;simp
theorem zdg (head:Bool):∀(n:Nat) (acc:List TmS),Err (argsP head n acc)
 |0,acc=>fun l q h=>by simp only[argsP]at h;injection h with h;subst h;simp
 |n+1,acc=>fun l q h=>by
  simp only[argsP]at h
  split at h
  · injection h with h;subst h;simp
  · split at h
    · rcases bnd_e h with h|⟨x,r,_,h⟩
      · exact z7g _ q h
      · rcases bnd_e h with h|⟨y,r',_,h⟩
        · exact z4s _ _ q h
        · cases h
    · rcases bnd_e h with h|⟨x,r,_,h⟩
      · exact z5e _ q h
      · split at h
        · exact zdg head n _ _ q h
        · cases h
theorem z9t (head:Bool):Err (atomP head):=fun l q h=>by
 unfold atomP at h;rcases bnd_e h with h|⟨x,r,_,h⟩
 · exact z5t _ q h
 · split at h
   · rcases bnd_e h with h|⟨y,r',_,h⟩
     · exact zdg head 9 [] _ q h
     · rcases bnd_e h with h|⟨z,r'',_,h⟩
       · exact z4s _ _ q h
       · cases h
   · cases h
theorem err_sign:Err signP:=fun l q h=>by
 cases l with
 |nil=>simp only[signP]at h;injection h with h;subst h;simp
 |cons t r =>
  simp only[signP]at h
  split at h
  · injection h with h;subst h;simp
  · cases h
theorem zbi (k:Int):Err (z4e k):=fun l q h=>by
 unfold z4e at h;rcases bnd_e h with h|⟨x,r,_,h⟩
 · exact z9t false _ q h
 · cases h
theorem zce:Err z4b:=fun l q h=>by
 unfold z4b at h;rcases bnd_e h with h|⟨x,r,_,h⟩
 · exact z5e _ q h
 · rcases bnd_e h with h|⟨y,r',_,h⟩
   · exact z5e _ q h
   · cases h
theorem err_let:Err letP:=fun l q h=>by
 unfold letP at h;rcases bnd_e h with h|⟨x,r,_,h⟩
 · exact z7g _ q h
 · rcases bnd_e h with h|⟨y,r',_,h⟩
   · exact z5e _ q h
   · rcases bnd_e h with h|⟨z,r'',_,h⟩
     · exact err_sign _ q h
     · rcases bnd_e h with h|⟨u,r3,_,h⟩
       · exact z5e _ q h
       · cases h
theorem err_walk:Err walkP:=fun l q h=>by
 unfold walkP at h;rcases bnd_e h with h|⟨_,r,_,h⟩
 · exact z4s _ _ q h
 rcases bnd_e h with h|⟨_,r,_,h⟩
 · exact z5e _ q h
 rcases bnd_e h with h|⟨_,r,_,h⟩
 · exact z4s _ _ q h
 rcases bnd_e h with h|⟨_,r,_,h⟩
 · exact zf9 _ q h
 rcases bnd_e h with h|⟨_,r,_,h⟩
 · exact z4s _ _ q h
 rcases bnd_e h with h|⟨_,r,_,h⟩
 · exact z5e _ q h
 rcases bnd_e h with h|⟨_,r,_,h⟩
 · exact z4s _ _ q h
 cases h
theorem zcg:Err z1x:=fun l q h=>by
 unfold z1x at h
 split at h
 · exact zce _ q h
 split at h
 · exact err_let _ q h
 split at h
 · exact zbi 2 _ q h
 split at h
 · exact err_walk _ q h
 split at h
 · exact zbi 1 _ q h
 rcases bnd_e h with h|⟨_,r,_,h⟩
 · exact z5e _ q h
 · injection h with h;subst h;simp
theorem zdb:∀(n:Nat) (acc:List LtS),Err (bodyP n acc)
 |0,acc=>fun l q h=>by simp only[bodyP]at h;injection h with h;subst h;simp
 |n+1,acc=>fun l q h=>by
  simp only[bodyP]at h
  split at h
  · injection h with h;subst h;simp
  · rcases bnd_e h with h|⟨x,r,_,h⟩
    · exact zcg _ q h
    · split at h
      · exact zdb n _ _ q h
      · cases h
theorem err_rule:Err ruleP:=fun l q h=>by
 unfold ruleP at h;rcases bnd_e h with h|⟨x,r,_,h⟩
 · exact z9t true _ q h
 rcases bnd_e h with h|⟨y,r',_,h⟩
 · unfold tailP at h
   split at h
   · exact zdb 13 [] _ q h
   · cases h
 rcases bnd_e h with h|⟨_,r'',_,h⟩
 · exact z4s _ _ q h
 · cases h
theorem zae:∀(n:Nat) (acc:List RlS),Err (z3x n acc)
 |0,acc=>fun l q h=>by simp only[z3x]at h;injection h with h;subst h;simp
 |n+1,acc=>fun l q h=>by
  simp only[z3x]at h
  split at h
  · cases h
  · split at h
    · injection h with h;subst h;simp
    · rcases bnd_e h with h|⟨x,r,_,h⟩
      · exact err_rule _ q h
      · exact zae n _ _ q h
theorem zc8:Err z1t:=fun l q h=>by
 unfold z1t at h;rcases bnd_e h with h|⟨x,r,_,h⟩
 · exact zae 201 [] _ q h
 rcases bnd_e h with h|⟨y,r',_,h⟩
 · exact z9t false _ q h
 rcases bnd_e h with h|⟨_,r'',_,h⟩
 · exact z4s _ _ q h
 · cases h
theorem toks_two {nm vl:List UInt8→Bool} {a b:UInt8} (h:(a=58∧b=45)∨(a=63∧b=45)) {r:List UInt8} {l:List TK} (hr:toksO nm vl r=some l):toksO nm vl (a::b::r)=some ((4,⟨#[a,b]⟩)::l):=by
 have hb:z35 a=false∧nextN nm vl (a::b::r)=some (4,2):=by
  rcases h with ⟨rfl,rfl⟩|⟨rfl,rfl⟩
  all_goals
   refine⟨by decide,?_⟩;simp only[nextN];rw[if_neg (by decide),if_neg (by decide),if_neg (by unfold valB;simp[z1b]),if_pos (by unfold twoB;simp)]
 rw[z61 hb.1 hb.2];show(toksO nm vl r).map _=_;rw[hr];rfl
theorem word_app {w:List UInt8} (hw:nmL w=true) {x:UInt8} (hx:sepB x=true) {r:List UInt8} {l:List TK} (hr:tkO (x::r)=some l):tkO (w++x::r)=some ((1,⟨w.toArray⟩)::l):=z7u hx (toks_one (zfk hw)) hr
abbrev qT:TK:=(4,⟨#[63,45]⟩)
abbrev xT:TK:=(1,⟨#[120]⟩)
theorem z78 {c:UInt8} (h:z35 c=true) {r:List UInt8} {l:List TK} (hr:tkO r=some l):tkO (c::r)=some l:=by rw[tkO,z7d _ _ r h];exact hr
theorem two_is (a b:UInt8):isT ((4,⟨#[a,b]⟩):TK) 4 [a,b]=true:=by unfold isT;simp
theorem sep_none {x:UInt8} (hx:sepB x=true) {s b:List UInt8} (hs:tkO s=none):tkO (s++x::b)=none:=by
 rw[tkO,z7s nmL vlL hx b _ s (Nat.le_refl _)];rw[tkO]at hs;rw[hs];rfl
end Go.Proofs.YthebhbomlllpeaaGreatDoor.X
namespace Go.Proofs.YthebhbomlllpeaaGreatDoor.X
open Go.RowKit Go.Proofs.YthebhbomlllpeaaGreatDoorW.PrintWords Go.Proofs.YthebhbomlllpeaaGreatDoorW.PrintLast Go.Proofs.YthebhbomlllpeaaGreatDoorW.PrintMore
attribute [local go_sem] z4f z4g z55 z4x z3n z3o z49 z4h
theorem eqA58 (d:Nat) (w:World) (x0 y0:Int) (x1 y1:Int) (x2 y2:ByteArray) :
 (Op.equalIn (d+2) 58 (.agg #[.int .i64 x0,.int .i64 x1,.string x2]) (.agg #[.int .i64 y0,.int .i64 y1,.string y2])).run Tryz.prog w=.ok (x0==y0&&(x1==y1&&(x2.toList==y2.toList))) w:=by
 refine zep Tryz.underlying58 (by kernel_rfl) ?_;refine z7m (by rfl) (by go_simp;rfl) (by go_simp;rfl) (by go_simp) ?_;refine z7m (by rfl) (by go_simp;rfl) (by go_simp;rfl) (by go_simp) ?_;exact za5 (by rfl) (by go_simp;rfl) (by go_simp;rfl) (by go_simp)

theorem eqA60 (d:Nat) (w:World) (x0 y0:ByteArray) (x1 y1:Int) (x2 y2:Int) (x3 y3:ByteArray) :
 (Op.equalIn (d+3) 60 (.agg #[.string x0,.int .i64 x1,.int .i64 x2,.string x3]) (.agg #[.string y0,.int .i64 y1,.int .i64 y2,.string y3])).run Tryz.prog w=.ok (x0.toList==y0.toList&&((x1==y1&&(x2==y2&&(x3.toList==y3.toList))))) w:=by
 refine zep Tryz.underlying60 (by kernel_rfl) ?_;refine z7m (by rfl) (by go_simp;rfl) (by go_simp;rfl) (by go_simp) ?_;exact za5 (by rfl) (by go_simp) (by go_simp) (eqA58 (d+0) w _ _ _ _ _ _)

theorem eqA69 (d:Nat) (w:World) (x0 y0:Int) (x1 y1:ByteArray) :
 (Op.equalIn (d+2) 69 (.agg #[.int .i64 x0,.string x1]) (.agg #[.int .i64 y0,.string y1])).run Tryz.prog w=.ok (x0==y0&&(x1.toList==y1.toList)) w:=by
 refine zep Tryz.underlying69 (by kernel_rfl) ?_;refine z7m (by rfl) (by go_simp;rfl) (by go_simp;rfl) (by go_simp) ?_;exact za5 (by rfl) (by go_simp;rfl) (by go_simp;rfl) (by go_simp)
end Go.Proofs.YthebhbomlllpeaaGreatDoor.X
namespace Go.Proofs.YthebhbomlllpeaaGreatDoor.X
open Go.RowKit Go.Proofs.YthebhbomlllpeaaGreatDoorW.PrintWords Go.Proofs.YthebhbomlllpeaaGreatDoorW.PrintLast Go.Proofs.YthebhbomlllpeaaGreatDoorW.PrintMore
attribute [local go_sem] z4f z4g z55 z4x z3n z3o z49 z4h
attribute [local go_sem high] eqA60 eqA69
mutual
def z0e.j0:Nat→Bool→ByteArray→List (S60)→ByteArray→List (S60)→Option (Bool)
 |0,_,_,_,_,_=>none
 |k+1,x19,x675000,x675001,x676000,x676001=>if x19=true then(some false)else(z0e.l0 k (x675001.length:Int) 0 x675000 x675001 x676000 x676001)
def z0e.l0:Nat→Int→Int→ByteArray→List (S60)→ByteArray→List (S60)→Option (Bool)
 |0,_,_,_,_,_,_=>none
 |k+1,x22,x23,x675000,x675001,x676000,x676001=>if x23<x22 then(if 0≤x23 then(if x23<(x675001.length:Int)then(if x23<(x676001.length:Int)then(if(!((((z2e x675001 x23).f0).toList)==(((z2e x676001 x23).f0).toList))||((!(((z2e x675001 x23).f1.f0)==((z2e x676001 x23).f1.f0))||(!(((z2e x675001 x23).f1.f1)==((z2e x676001 x23).f1.f1))||(!((((z2e x675001 x23).f1.f2).toList)==(((z2e x676001 x23).f1.f2).toList)))))))=true then(some false)else(z0e.l0 k x22 (wrap64 (x23+1)) x675000 x675001 x676000 x676001))else(none))else(none))else(none))else(some true)
end
def z0e.f (k:Nat) (a0_0:ByteArray) (l0_1:List (S60)) (a1_0:ByteArray) (l1_1:List (S60)):Option (Bool):=if a0_0.toList=a1_0.toList then(z0e.j0 k ((l0_1.length:Int) !=(l1_1.length:Int)) a0_0 l0_1 a1_0 l1_1)else(z0e.j0 k true a0_0 l0_1 a1_0 l1_1)
set_option maxHeartbeats 8000000 in
set_option maxRecDepth 100000 in
theorem z0e.calls (k:Nat) (a0_0:ByteArray) (A0_1:Option Addr) (c0_1:Nat) (l0_1:List (S60)) (a1_0:ByteArray) (A1_1:Option Addr) (c1_1:Nat) (l1_1:List (S60)) (r:Bool) (w:World) (hr0_1:Kd.C k60 w A0_1 l0_1.length l0_1) (hc0_1:l0_1.length≤c0_1) (hr1_1:Kd.C k60 w A1_1 l1_1.length l1_1) (hc1_1:l1_1.length≤c1_1) (h:z0e.f k a0_0 l0_1 a1_0 l1_1=some r) :
 Calls Tryz.prog 35 #[.agg #[.string a0_0,.slice A0_1 l0_1.length c0_1],.agg #[.string a1_0,.slice A1_1 l1_1.length c1_1]] w fun e w'=>e=.returned (.bool r)∧Below w.heap.size w w':=by
 have hu25:=Tryz.underlying25;have hu60:=Tryz.underlying60;have HR0_1:=z00.mk hr0_1;have HC0_1:=z00.mk hc0_1;clear hr0_1 hc0_1;have HR1_1:=z00.mk hr1_1;have HC1_1:=z00.mk hc1_1;clear hr1_1 hc1_1;have HB:=z00.mk (Below.refl w.heap.size w);have H:(if a0_0.toList=a1_0.toList then(z0e.j0 k ((l0_1.length:Int) !=(l1_1.length:Int)) a0_0 l0_1 a1_0 l1_1)else(z0e.j0 k true a0_0 l0_1 a1_0 l1_1))=some r:=h;clear h;have HC3:=z00.mk H;clear H;go_enter Tryz.func35,Tryz.ntmps35
 go_upto_region 1 with (first|((with_reducible refine z2k (N:=2) rfl ?_);(try(refine z3h (by rfl) ?_;dsimp only));refine z2h ?hg (N:=2) ?hd (cs:=#[.string a0_0,.slice A0_1 l0_1.length c0_1]) (t:=25) ?hr ?_;(case hd=>rfl);(case hg=>rfl);(case hr=>first|(go_simp;done)|(go_simp;rfl));intro gb674 hg w4 hbox hb;have n0_:=z00.mk (z0f zA08 hb);have n1_:=z00.mk (hbox);have n2_:=z00.mk ((by rw[hg];exact(z0d zA08):w.heap.size≤gb674));have n3_:=z00.mk ((by rw[hg];exact(z0d zA08):w.heap.size≤gb674));clear HB;have HB:=n0_;have BK674:=n1_;have GW674:=n2_;have GE674:=n3_;clear n0_ n1_ n2_ n3_;clear hb hbox hg)|((with_reducible refine z2k (N:=3) rfl ?_);(try(refine z3h (by rfl) ?_;dsimp only));refine z2h ?hg (N:=3) ?hd (cs:=#[.string a1_0,.slice A1_1 l1_1.length c1_1]) (t:=25) ?hr ?_;(case hd=>rfl);(case hg=>rfl);(case hr=>first|(go_simp;done)|(go_simp;rfl));intro gb675 hg w5 hbox hb;have n0_:=z00.mk (z0c (g:=gb674) (o:=.cells #[.string a0_0,.slice A0_1 l0_1.length c0_1] 25 (0,0)) zA0n hb);have n1_:=z00.mk (z0f zA0r hb);have n2_:=z00.mk (hbox);have n3_:=z00.mk ((by rw[hg];exact(z0d zA0r):w.heap.size≤gb675));have n4_:=z00.mk ((by rw[hg];exact(z0d zA0r):w.heap.size≤gb675));have n5_:=z00.mk ((by rw[hg];exact Nat.ne_of_lt (z0o (g:=gb674) (o:=.cells #[.string a0_0,.slice A0_1 l0_1.length c0_1] 25 (0,0)) zA0n):gb674≠gb675));have n6_:=z00.mk ((by rw[hg];exact Nat.ne_of_gt (z0o (g:=gb674) (o:=.cells #[.string a0_0,.slice A0_1 l0_1.length c0_1] 25 (0,0)) zA0n):gb675≠gb674));clear BK674;clear HB;have BK674:=n0_;have HB:=n1_;have BK675:=n2_;have GW675:=n3_;have GE675:=n4_;have NB674_675:=n5_;have NB675_674:=n6_;clear n0_ n1_ n2_ n3_ n4_ n5_ n6_;clear hb hbox hg))
 repeat(go_quiet (first|((with_reducible refine z2k (N:=2) rfl ?_);(try(refine z3h (by rfl) ?_;dsimp only));refine z2h ?hg (N:=2) ?hd (cs:=#[.string a0_0,.slice A0_1 l0_1.length c0_1]) (t:=25) ?hr ?_;(case hd=>rfl);(case hg=>rfl);(case hr=>first|(go_simp;done)|(go_simp;rfl));intro gb674 hg w4 hbox hb;have n0_:=z00.mk (z0f zA08 hb);have n1_:=z00.mk (hbox);have n2_:=z00.mk ((by rw[hg];exact(z0d zA08):w.heap.size≤gb674));have n3_:=z00.mk ((by rw[hg];exact(z0d zA08):w.heap.size≤gb674));clear HB;have HB:=n0_;have BK674:=n1_;have GW674:=n2_;have GE674:=n3_;clear n0_ n1_ n2_ n3_;clear hb hbox hg)|((with_reducible refine z2k (N:=3) rfl ?_);(try(refine z3h (by rfl) ?_;dsimp only));refine z2h ?hg (N:=3) ?hd (cs:=#[.string a1_0,.slice A1_1 l1_1.length c1_1]) (t:=25) ?hr ?_;(case hd=>rfl);(case hg=>rfl);(case hr=>first|(go_simp;done)|(go_simp;rfl));intro gb675 hg w5 hbox hb;have n0_:=z00.mk (z0c (g:=gb674) (o:=.cells #[.string a0_0,.slice A0_1 l0_1.length c0_1] 25 (0,0)) zA0n hb);have n1_:=z00.mk (z0f zA0r hb);have n2_:=z00.mk (hbox);have n3_:=z00.mk ((by rw[hg];exact(z0d zA0r):w.heap.size≤gb675));have n4_:=z00.mk ((by rw[hg];exact(z0d zA0r):w.heap.size≤gb675));have n5_:=z00.mk ((by rw[hg];exact Nat.ne_of_lt (z0o (g:=gb674) (o:=.cells #[.string a0_0,.slice A0_1 l0_1.length c0_1] 25 (0,0)) zA0n):gb674≠gb675));have n6_:=z00.mk ((by rw[hg];exact Nat.ne_of_gt (z0o (g:=gb674) (o:=.cells #[.string a0_0,.slice A0_1 l0_1.length c0_1] 25 (0,0)) zA0n):gb675≠gb674));clear BK674;clear HB;have BK674:=n0_;have HB:=n1_;have BK675:=n2_;have GW675:=n3_;have GE675:=n4_;have NB674_675:=n5_;have NB675_674:=n6_;clear n0_ n1_ n2_ n3_ n4_ n5_ n6_;clear hb hbox hg));go_upto_region 1 with (first|((with_reducible refine z2k (N:=2) rfl ?_);(try(refine z3h (by rfl) ?_;dsimp only));refine z2h ?hg (N:=2) ?hd (cs:=#[.string a0_0,.slice A0_1 l0_1.length c0_1]) (t:=25) ?hr ?_;(case hd=>rfl);(case hg=>rfl);(case hr=>first|(go_simp;done)|(go_simp;rfl));intro gb674 hg w4 hbox hb;have n0_:=z00.mk (z0f zA08 hb);have n1_:=z00.mk (hbox);have n2_:=z00.mk ((by rw[hg];exact(z0d zA08):w.heap.size≤gb674));have n3_:=z00.mk ((by rw[hg];exact(z0d zA08):w.heap.size≤gb674));clear HB;have HB:=n0_;have BK674:=n1_;have GW674:=n2_;have GE674:=n3_;clear n0_ n1_ n2_ n3_;clear hb hbox hg)|((with_reducible refine z2k (N:=3) rfl ?_);(try(refine z3h (by rfl) ?_;dsimp only));refine z2h ?hg (N:=3) ?hd (cs:=#[.string a1_0,.slice A1_1 l1_1.length c1_1]) (t:=25) ?hr ?_;(case hd=>rfl);(case hg=>rfl);(case hr=>first|(go_simp;done)|(go_simp;rfl));intro gb675 hg w5 hbox hb;have n0_:=z00.mk (z0c (g:=gb674) (o:=.cells #[.string a0_0,.slice A0_1 l0_1.length c0_1] 25 (0,0)) zA0n hb);have n1_:=z00.mk (z0f zA0r hb);have n2_:=z00.mk (hbox);have n3_:=z00.mk ((by rw[hg];exact(z0d zA0r):w.heap.size≤gb675));have n4_:=z00.mk ((by rw[hg];exact(z0d zA0r):w.heap.size≤gb675));have n5_:=z00.mk ((by rw[hg];exact Nat.ne_of_lt (z0o (g:=gb674) (o:=.cells #[.string a0_0,.slice A0_1 l0_1.length c0_1] 25 (0,0)) zA0n):gb674≠gb675));have n6_:=z00.mk ((by rw[hg];exact Nat.ne_of_gt (z0o (g:=gb674) (o:=.cells #[.string a0_0,.slice A0_1 l0_1.length c0_1] 25 (0,0)) zA0n):gb675≠gb674));clear BK674;clear HB;have BK674:=n0_;have HB:=n1_;have BK675:=n2_;have GW675:=n3_;have GE675:=n4_;have NB674_675:=n5_;have NB675_674:=n6_;clear n0_ n1_ n2_ n3_ n4_ n5_ n6_;clear hb hbox hg)))
 (try simp only[Act.put,List.setIfInBounds_toArray,List.set_cons_zero,List.set_cons_succ])
 go_cut [19] (fun v19 wc=>∃(kq:Nat) (x19_2:Bool),v19=.bool x19_2∧z00 (z0e.j0 kq x19_2 a0_0 l0_1 a1_0 l1_1=some r)∧z00 (kq≤k)∧z00 (wc.heap[gb674]?=some (.cells #[.string a0_0,(.slice A0_1 l0_1.length c0_1)] 25 (0,0)))∧z00 (wc.heap[gb675]?=some (.cells #[.string a1_0,(.slice A1_1 l1_1.length c1_1)] 25 (0,0)))∧z00 (Below w.heap.size w wc))
 case first =>
  have H:=HC3.out;clear HC3
  by_cases c6:a0_0.toList=a1_0.toList
  · rw[if_pos c6]at H;have c6b0:(a0_0.toList==a1_0.toList)=true:=beq_iff_eq.mpr c6;have c6b1:(a0_0.toList !=a1_0.toList)=false:=bne_eq_false_iff_eq.mpr c6;clear c6
    (first|rw[c6b0]|(simp only[i64_w,i32_w];rw[c6b0])|skip)
    have H':=z00.mk H;clear H;have hnb7:=NB674_675.out;have hnc7:=NB675_674.out;have hcz8_0:w5.cell? ⟨gb674,0,none⟩=some (.string a0_0):=(z01 BK674.out 0).trans rfl;have hcz8_1:w5.cell? ⟨gb674,1,none⟩=some (.slice A0_1 l0_1.length c0_1):=(z01 BK674.out 1).trans rfl;have hfz8_0:=z08 BK674.out 0;have hfz8_1:=z08 BK674.out 1;have hcz9_0:w5.cell? ⟨gb675,0,none⟩=some (.string a1_0):=(z01 BK675.out 0).trans rfl;have hcz9_1:w5.cell? ⟨gb675,1,none⟩=some (.slice A1_1 l1_1.length c1_1):=(z01 BK675.out 1).trans rfl;have hfz9_0:=z08 BK675.out 0;have hfz9_1:=z08 BK675.out 1;go_wp2
    repeat(go_quiet (fail);try go_wp2)
    go_meet
    case rel=>exact⟨_,(((l0_1.length:Int) !=(l1_1.length:Int))),zA0o,H',⟨zA1e⟩,⟨zA0n⟩,⟨zA19⟩,⟨zA17⟩⟩
  · rw[if_neg c6]at H;have c6b0:(a0_0.toList==a1_0.toList)=false:=beq_eq_false_iff_ne.mpr c6;have c6b1:(a0_0.toList !=a1_0.toList)=true:=bne_iff_ne.mpr c6
    (first|rw[c6b0]|(simp only[i64_w,i32_w];rw[c6b0])|skip)
    have H':=z00.mk H;clear H;have hnb10:=NB674_675.out;have hnc10:=NB675_674.out;have hcz11_0:w5.cell? ⟨gb674,0,none⟩=some (.string a0_0):=(z01 BK674.out 0).trans rfl;have hcz11_1:w5.cell? ⟨gb674,1,none⟩=some (.slice A0_1 l0_1.length c0_1):=(z01 BK674.out 1).trans rfl;have hfz11_0:=z08 BK674.out 0;have hfz11_1:=z08 BK674.out 1;have hcz12_0:w5.cell? ⟨gb675,0,none⟩=some (.string a1_0):=(z01 BK675.out 0).trans rfl;have hcz12_1:w5.cell? ⟨gb675,1,none⟩=some (.slice A1_1 l1_1.length c1_1):=(z01 BK675.out 1).trans rfl;have hfz12_0:=z08 BK675.out 0;have hfz12_1:=z08 BK675.out 1;go_wp2
    repeat(go_quiet (fail);try go_wp2)
    go_meet
    case rel=>exact⟨_,(true),zA0o,H',⟨zA1e⟩,⟨zA0n⟩,⟨zA19⟩,⟨zA17⟩⟩
 case rest =>
  clear HC3;(try clear c1);(try clear p2);(try clear c3);(try clear c6);(try clear c6b0);(try clear c6b1);(try clear c7);(try clear c10);(try clear hcz11_0);(try clear hcz11_1);(try clear hcz12_0);(try clear hcz12_1);(try clear hcz8_0);(try clear hcz8_1);(try clear hcz9_0);(try clear hcz9_1);(try clear hfz11_0);(try clear hfz11_1);(try clear hfz12_0);(try clear hfz12_1);(try clear hfz8_0);(try clear hfz8_1);(try clear hfz9_0);(try clear hfz9_1);obtain⟨kq,x19_2,rfl,HA,HJ2,BK674,BK675,HB⟩:=hcut
  cases kq with
  |zero=>exact absurd HA.out (by simp[z0e.j0])
  |succ kj2 =>
   have H:=HA.out;clear HA;simp only[z0e.j0]at H
   by_cases c13:x19_2=true
   · subst c13;have H1:(some false)=some r:=by rw[if_pos rfl]at H;exact H
     clear H;have H:=H1;clear H1;obtain rfl:=Option.some.inj H;go_wp2
     repeat(go_quiet (fail);try go_wp2)
     go_ret
     exact⟨by first|rfl|(simp[z1p,z1o] <;> rfl)|(simp[*,z1p,z1o] <;> rfl),by repeat(first|(with_reducible first|exact HB.out|apply z06|apply z05|apply z09|refine z02 ?_ GE674.out|refine z02 ?_ GE675.out)|exact HB.out)⟩
   · replace c13:=Bool.eq_false_iff.mpr c13;subst c13;have H1:(z0e.l0 kj2 (l0_1.length:Int) 0 a0_0 l0_1 a1_0 l1_1)=some r:=by rw[if_neg (show ¬(false=true) by decide)]at H;exact H
     clear H;have H:=H1;clear H1;have H':=z00.mk H;clear H;have hnb14:=NB674_675.out;have hnc14:=NB675_674.out;have hcz15_0:wc.cell? ⟨gb674,0,none⟩=some (.string a0_0):=(z01 BK674.out 0).trans rfl;have hcz15_1:wc.cell? ⟨gb674,1,none⟩=some (.slice A0_1 l0_1.length c0_1):=(z01 BK674.out 1).trans rfl;have hfz15_0:=z08 BK674.out 0;have hfz15_1:=z08 BK674.out 1;go_wp2
     repeat(go_quiet (fail);try go_wp2)
     go_loopg [23] kj2 (fun kq v23 w'=>∃(x23_2:Int),v23=.int .i64 x23_2∧z00 (z0e.l0 kq (l0_1.length:Int) x23_2 a0_0 l0_1 a1_0 l1_1=some r)∧z00 (kq≤kj2)∧z00 (w'.heap[gb674]?=some (.cells #[.string a0_0,(.slice A0_1 l0_1.length c0_1)] 25 (0,0)))∧z00 (w'.heap[gb675]?=some (.cells #[.string a1_0,(.slice A1_1 l1_1.length c1_1)] 25 (0,0)))∧z00 (Below w.heap.size w w'))
     case atStart=>exact⟨(0),zA0o,H',⟨Nat.le_refl _⟩,⟨zA0n⟩,⟨zA19⟩,⟨zA17⟩⟩
     case round =>
      clear H';(try clear c1);(try clear p2);(try clear c3);(try clear c6);(try clear c6b0);(try clear c6b1);(try clear c7);(try clear c10);(try clear c13);(try clear c14);(try clear hcz11_0);(try clear hcz11_1);(try clear hcz12_0);(try clear hcz12_1);(try clear hcz15_0);(try clear hcz15_1);(try clear hcz8_0);(try clear hcz8_1);(try clear hcz9_0);(try clear hcz9_1);(try clear hfz11_0);(try clear hfz11_1);(try clear hfz12_0);(try clear hfz12_1);(try clear hfz15_0);(try clear hfz15_1);(try clear hfz8_0);(try clear hfz8_1);(try clear hfz9_0);(try clear hfz9_1);(try clear p2);obtain⟨x23_2,rfl,HA,HK2,BK674,BK675,HB⟩:=hrel
      cases gk with
      |zero=>exact absurd HA.out (by simp[z0e.l0])
      |succ k2 =>
       have H:=HA.out;clear HA;simp only[z0e.l0]at H
       by_cases c16:x23_2<(l0_1.length:Int)
       · rw[if_pos c16]at H;have c16b0:decide (x23_2<(l0_1.length:Int))=true:=decide_eq_true c16;clear c16
         by_cases c17:0≤x23_2
         · rw[if_pos c17]at H;have c17b0:decide (0≤x23_2)=true:=decide_eq_true c17;clear c17
           by_cases c18:x23_2<(l0_1.length:Int)
           · rw[if_pos c18]at H;have c18b0:decide (x23_2<(l0_1.length:Int))=true:=decide_eq_true c18;clear c18
             by_cases c19:x23_2<(l1_1.length:Int)
             · rw[if_pos c19]at H;have c19b0:decide (x23_2<(l1_1.length:Int))=true:=decide_eq_true c19;clear c19
               by_cases c20:(!((((z2e l0_1 x23_2).f0).toList)==(((z2e l1_1 x23_2).f0).toList))||((!(((z2e l0_1 x23_2).f1.f0)==((z2e l1_1 x23_2).f1.f0))||(!(((z2e l0_1 x23_2).f1.f1)==((z2e l1_1 x23_2).f1.f1))||(!((((z2e l0_1 x23_2).f1.f2).toList)==(((z2e l1_1 x23_2).f1.f2).toList)))))))=true
               · rw[if_pos c20]at H;have c20b0:(!((((z2e l0_1 x23_2).f0).toList)==(((z2e l1_1 x23_2).f0).toList))||((!(((z2e l0_1 x23_2).f1.f0)==((z2e l1_1 x23_2).f1.f0))||(!(((z2e l0_1 x23_2).f1.f1)==((z2e l1_1 x23_2).f1.f1))||(!((((z2e l0_1 x23_2).f1.f2).toList)==(((z2e l1_1 x23_2).f1.f2).toList)))))))=true:=c20;clear c20;obtain rfl:=Option.some.inj H;have hnb21:=NB674_675.out;have hnc21:=NB675_674.out;have hcz22_0:wr.cell? ⟨gb674,0,none⟩=some (.string a0_0):=(z01 BK674.out 0).trans rfl;have hcz22_1:wr.cell? ⟨gb674,1,none⟩=some (.slice A0_1 l0_1.length c0_1):=(z01 BK674.out 1).trans rfl;have hfz22_0:=z08 BK674.out 0;have hfz22_1:=z08 BK674.out 1;have p676:0≤(x23_2:Int):=of_decide_eq_true zA0m;have q676:x23_2<(l0_1.length:Int):=of_decide_eq_true zA0m;obtain⟨ad676,e676,hx676_0,hx676_1,hx676_2,hx676_3⟩:=zd1 HR0_1.out x23_2 p676 q676
                 cases e676
                 replace hx676_0:=(HB.out.cell (World.block_lt_of_cell? w _ hx676_0)).trans hx676_0;replace hx676_1:=(HB.out.cell (World.block_lt_of_cell? w _ hx676_1)).trans hx676_1;replace hx676_2:=(HB.out.cell (World.block_lt_of_cell? w _ hx676_2)).trans hx676_2;replace hx676_3:=(HB.out.cell (World.block_lt_of_cell? w _ hx676_3)).trans hx676_3;replace p676:=eq_true p676;replace q676:=eq_true q676;have hcz23_0:wr.cell? ⟨gb675,0,none⟩=some (.string a1_0):=(z01 BK675.out 0).trans rfl;have hcz23_1:wr.cell? ⟨gb675,1,none⟩=some (.slice A1_1 l1_1.length c1_1):=(z01 BK675.out 1).trans rfl;have hfz23_0:=z08 BK675.out 0;have hfz23_1:=z08 BK675.out 1;have p677:0≤(x23_2:Int):=of_decide_eq_true zA0m;have q677:x23_2<(l1_1.length:Int):=of_decide_eq_true zA0m;obtain⟨ad677,e677,hx677_0,hx677_1,hx677_2,hx677_3⟩:=zd1 HR1_1.out x23_2 p677 q677
                 cases e677
                 replace hx677_0:=(HB.out.cell (World.block_lt_of_cell? w _ hx677_0)).trans hx677_0;replace hx677_1:=(HB.out.cell (World.block_lt_of_cell? w _ hx677_1)).trans hx677_1;replace hx677_2:=(HB.out.cell (World.block_lt_of_cell? w _ hx677_2)).trans hx677_2;replace hx677_3:=(HB.out.cell (World.block_lt_of_cell? w _ hx677_3)).trans hx677_3;replace p677:=eq_true p677;replace q677:=eq_true q677;go_wp2
                 repeat(go_quiet (fail);try go_wp2)
                 go_ret
                 exact⟨by first|rfl|(simp[z1p,z1o] <;> rfl)|(simp[*,z1p,z1o] <;> rfl),by repeat(first|(with_reducible first|exact HB.out|apply z06|apply z05|apply z09|refine z02 ?_ GE674.out|refine z02 ?_ GE675.out)|exact HB.out)⟩
               · rw[if_neg c20]at H;have c20b0:(!((((z2e l0_1 x23_2).f0).toList)==(((z2e l1_1 x23_2).f0).toList))||((!(((z2e l0_1 x23_2).f1.f0)==((z2e l1_1 x23_2).f1.f0))||(!(((z2e l0_1 x23_2).f1.f1)==((z2e l1_1 x23_2).f1.f1))||(!((((z2e l0_1 x23_2).f1.f2).toList)==(((z2e l1_1 x23_2).f1.f2).toList)))))))=false:=by simpa using c20
                 clear c20;have H':=z00.mk H;clear H;have hnb24:=NB674_675.out;have hnc24:=NB675_674.out;have hcz25_0:wr.cell? ⟨gb674,0,none⟩=some (.string a0_0):=(z01 BK674.out 0).trans rfl;have hcz25_1:wr.cell? ⟨gb674,1,none⟩=some (.slice A0_1 l0_1.length c0_1):=(z01 BK674.out 1).trans rfl;have hfz25_0:=z08 BK674.out 0;have hfz25_1:=z08 BK674.out 1;have p676:0≤(x23_2:Int):=of_decide_eq_true zA0m;have q676:x23_2<(l0_1.length:Int):=of_decide_eq_true zA0m;obtain⟨ad676,e676,hx676_0,hx676_1,hx676_2,hx676_3⟩:=zd1 HR0_1.out x23_2 p676 q676
                 cases e676
                 replace hx676_0:=(HB.out.cell (World.block_lt_of_cell? w _ hx676_0)).trans hx676_0;replace hx676_1:=(HB.out.cell (World.block_lt_of_cell? w _ hx676_1)).trans hx676_1;replace hx676_2:=(HB.out.cell (World.block_lt_of_cell? w _ hx676_2)).trans hx676_2;replace hx676_3:=(HB.out.cell (World.block_lt_of_cell? w _ hx676_3)).trans hx676_3;replace p676:=eq_true p676;replace q676:=eq_true q676;have hcz26_0:wr.cell? ⟨gb675,0,none⟩=some (.string a1_0):=(z01 BK675.out 0).trans rfl;have hcz26_1:wr.cell? ⟨gb675,1,none⟩=some (.slice A1_1 l1_1.length c1_1):=(z01 BK675.out 1).trans rfl;have hfz26_0:=z08 BK675.out 0;have hfz26_1:=z08 BK675.out 1;have p677:0≤(x23_2:Int):=of_decide_eq_true zA0m;have q677:x23_2<(l1_1.length:Int):=of_decide_eq_true zA0m;obtain⟨ad677,e677,hx677_0,hx677_1,hx677_2,hx677_3⟩:=zd1 HR1_1.out x23_2 p677 q677
                 cases e677
                 replace hx677_0:=(HB.out.cell (World.block_lt_of_cell? w _ hx677_0)).trans hx677_0;replace hx677_1:=(HB.out.cell (World.block_lt_of_cell? w _ hx677_1)).trans hx677_1;replace hx677_2:=(HB.out.cell (World.block_lt_of_cell? w _ hx677_2)).trans hx677_2;replace hx677_3:=(HB.out.cell (World.block_lt_of_cell? w _ hx677_3)).trans hx677_3;replace p677:=eq_true p677;replace q677:=eq_true q677;go_wp2
                 repeat(go_quiet (fail);try go_wp2)
                 go_roundg k2
                 case measure=>have:=HJ2.out;have:=HK2.out;omega
                 case rel=>exact⟨(wrap64 (x23_2+1)),zA0o,H',⟨by have:=HJ2.out;have:=HK2.out;omega⟩,⟨zA0n⟩,⟨zA19⟩,⟨zA17⟩⟩
             · rw[if_neg c19]at H;exact absurd H (by simp)
           · rw[if_neg c18]at H;exact absurd H (by simp)
         · rw[if_neg c17]at H;exact absurd H (by simp)
       · rw[if_neg c16]at H;have c16b0:decide (x23_2<(l0_1.length:Int))=false:=decide_eq_false c16;clear c16;obtain rfl:=Option.some.inj H;go_wp2
         repeat(go_quiet (fail);try go_wp2)
         go_ret
         exact⟨by first|rfl|(simp[z1p,z1o] <;> rfl)|(simp[*,z1p,z1o] <;> rfl),by repeat(first|(with_reducible first|exact HB.out|apply z06|apply z05|apply z09|refine z02 ?_ GE674.out|refine z02 ?_ GE675.out)|exact HB.out)⟩
def z0s.l0:Nat→List (S69)→List (S69)→Int→Int→Option (Bool)
 |0,_,_,_,_=>none
 |k+1,x0,x1,x12,x13=>if x13<x12 then(if 0≤x13 then(if x13<(x0.length:Int)then(if x13<(x1.length:Int)then(if(!(((z3z x0 x13).f0)==((z3z x1 x13).f0))||(!((((z3z x0 x13).f1).toList)==(((z3z x1 x13).f1).toList))))=true then(some false)else(z0s.l0 k x0 x1 x12 (wrap64 (x13+1))))else(none))else(none))else(none))else(some true)
def z0s.f (k:Nat) (l0:List (S69)) (l1:List (S69)):Option (Bool):=if(l0.length:Int)=(l1.length:Int)then(z0s.l0 k l0 l1 (l0.length:Int) 0)else(some false)
set_option maxHeartbeats 8000000 in
set_option maxRecDepth 100000 in
theorem z0s.calls (k:Nat) (A0:Option Addr) (c0:Nat) (l0:List (S69)) (A1:Option Addr) (c1:Nat) (l1:List (S69)) (r:Bool) (w:World) (hr0:Kd.C k69 w A0 l0.length l0) (hc0:l0.length≤c0) (hr1:Kd.C k69 w A1 l1.length l1) (hc1:l1.length≤c1) (h:z0s.f k l0 l1=some r) :
 Calls Tryz.prog 38 #[.slice A0 l0.length c0,.slice A1 l1.length c1] w fun e w'=>e=.returned (.bool r)∧z0g w w':=by
 have hu69:=Tryz.underlying69;have HR0:=z00.mk hr0;have HC0:=z00.mk hc0;clear hr0 hc0;have HR1:=z00.mk hr1;have HC1:=z00.mk hc1;clear hr1 hc1;have H:(if(l0.length:Int)=(l1.length:Int)then(z0s.l0 k l0 l1 (l0.length:Int) 0)else(some false))=some r:=h;clear h
 by_cases c3:(l0.length:Int)=(l1.length:Int)
 · rw[if_pos c3]at H;have c3b0:((l0.length:Int)==(l1.length:Int))=true:=beq_iff_eq.mpr c3;have c3b1:((l0.length:Int) !=(l1.length:Int))=false:=bne_eq_false_iff_eq.mpr c3;have c3b2:(l0.length==l1.length)=true:=by first|simpa using c3|(simp at c3 ⊢;omega)
   clear c3;have H':=z00.mk H;clear H;go_enter Tryz.func38,Tryz.ntmps38;go_wp2
   repeat(go_quiet (fail);try go_wp2)
   go_loopg [13] k (fun kq v13 w'=>∃(x13_1:Int),v13=.int .i64 x13_1∧z00 (z0s.l0 kq l0 l1 (l0.length:Int) x13_1=some r)∧z00 (kq≤k)∧z0g w w')
   case atStart=>exact⟨(0),zA0o,H',⟨Nat.le_refl _⟩,by repeat(first|exact z0g.refl _|apply z0g.step)⟩
   case round =>
    clear H';(try clear c1);(try clear p2);(try clear c3);(try clear c3b0);(try clear c3b1);(try clear c3b2);obtain⟨x13_1,rfl,HA,HK1,⟨m1,rfl⟩⟩:=hrel
    cases gk with
    |zero=>exact absurd HA.out (by simp[z0s.l0])
    |succ k1 =>
     have H:=HA.out;clear HA;simp only[z0s.l0]at H
     by_cases c4:x13_1<(l0.length:Int)
     · rw[if_pos c4]at H;have c4b0:decide (x13_1<(l0.length:Int))=true:=decide_eq_true c4;clear c4
       by_cases c5:0≤x13_1
       · rw[if_pos c5]at H;have c5b0:decide (0≤x13_1)=true:=decide_eq_true c5;clear c5
         by_cases c6:x13_1<(l0.length:Int)
         · rw[if_pos c6]at H;have c6b0:decide (x13_1<(l0.length:Int))=true:=decide_eq_true c6;clear c6
           by_cases c7:x13_1<(l1.length:Int)
           · rw[if_pos c7]at H;have c7b0:decide (x13_1<(l1.length:Int))=true:=decide_eq_true c7;clear c7
             by_cases c8:(!(((z3z l0 x13_1).f0)==((z3z l1 x13_1).f0))||(!((((z3z l0 x13_1).f1).toList)==(((z3z l1 x13_1).f1).toList))))=true
             · rw[if_pos c8]at H;have c8b0:(!(((z3z l0 x13_1).f0)==((z3z l1 x13_1).f0))||(!((((z3z l0 x13_1).f1).toList)==(((z3z l1 x13_1).f1).toList))))=true:=c8;clear c8;obtain rfl:=Option.some.inj H;have p678:0≤(x13_1:Int):=of_decide_eq_true zA0m;have q678:x13_1<(l0.length:Int):=of_decide_eq_true zA0m;obtain⟨ad678,e678,hx678_0,hx678_1⟩:=z8u HR0.out x13_1 p678 q678
               cases e678
               replace p678:=eq_true p678;replace q678:=eq_true q678;have p679:0≤(x13_1:Int):=of_decide_eq_true zA0m;have q679:x13_1<(l1.length:Int):=of_decide_eq_true zA0m;obtain⟨ad679,e679,hx679_0,hx679_1⟩:=z8u HR1.out x13_1 p679 q679
               cases e679
               replace p679:=eq_true p679;replace q679:=eq_true q679;go_wp2
               repeat(go_quiet (fail);try go_wp2)
               go_ret
               exact⟨by first|rfl|(simp;done)|(simp[*];done),by repeat(first|exact z0g.refl _|apply z0g.step)⟩
             · rw[if_neg c8]at H;have c8b0:(!(((z3z l0 x13_1).f0)==((z3z l1 x13_1).f0))||(!((((z3z l0 x13_1).f1).toList)==(((z3z l1 x13_1).f1).toList))))=false:=by simpa using c8
               clear c8;have H':=z00.mk H;clear H;have p678:0≤(x13_1:Int):=of_decide_eq_true zA0m;have q678:x13_1<(l0.length:Int):=of_decide_eq_true zA0m;obtain⟨ad678,e678,hx678_0,hx678_1⟩:=z8u HR0.out x13_1 p678 q678
               cases e678
               replace p678:=eq_true p678;replace q678:=eq_true q678;have p679:0≤(x13_1:Int):=of_decide_eq_true zA0m;have q679:x13_1<(l1.length:Int):=of_decide_eq_true zA0m;obtain⟨ad679,e679,hx679_0,hx679_1⟩:=z8u HR1.out x13_1 p679 q679
               cases e679
               replace p679:=eq_true p679;replace q679:=eq_true q679;go_wp2
               repeat(go_quiet (fail);try go_wp2)
               go_roundg k1
               case measure=>have:=HK1.out;omega
               case rel=>exact⟨(wrap64 (x13_1+1)),zA0o,H',⟨by have:=HK1.out;omega⟩,by repeat(first|exact z0g.refl _|apply z0g.step)⟩
           · rw[if_neg c7]at H;exact absurd H (by simp)
         · rw[if_neg c6]at H;exact absurd H (by simp)
       · rw[if_neg c5]at H;exact absurd H (by simp)
     · rw[if_neg c4]at H;have c4b0:decide (x13_1<(l0.length:Int))=false:=decide_eq_false c4;clear c4;obtain rfl:=Option.some.inj H;go_wp2
       repeat(go_quiet (fail);try go_wp2)
       go_ret
       exact⟨by first|rfl|(simp;done)|(simp[*];done),by repeat(first|exact z0g.refl _|apply z0g.step)⟩
 · rw[if_neg c3]at H;have c3b0:((l0.length:Int)==(l1.length:Int))=false:=beq_eq_false_iff_ne.mpr c3;have c3b1:((l0.length:Int) !=(l1.length:Int))=true:=bne_iff_ne.mpr c3;have c3b2:(l0.length==l1.length)=false:=by first|simpa using c3|(simp at c3 ⊢;omega)
   obtain rfl:=Option.some.inj H;go_enter Tryz.func38,Tryz.ntmps38;go_wp2
   repeat(go_quiet (fail);try go_wp2)
   go_ret
   exact⟨by first|rfl|(simp;done)|(simp[*];done),by repeat(first|exact z0g.refl _|apply z0g.step)⟩
def z5o.l0:Nat→List (S69)→List (S69)→Int→Int→Option (Bool)
 |0,_,_,_,_=>none
 |k+1,x0,x1,x12,x13=>if x13<x12 then(if 0≤x13 then(if x13<(x0.length:Int)then(if x13<(x1.length:Int)then(if(!(((z3z x0 x13).f0)==((z3z x1 x13).f0))||(!((((z3z x0 x13).f1).toList)==(((z3z x1 x13).f1).toList))))=true then(some false)else(z5o.l0 k x0 x1 x12 (wrap64 (x13+1))))else(none))else(none))else(none))else(some true)
end Go.Proofs.YthebhbomlllpeaaGreatDoor.X
namespace Go.Proofs.YthebhbomlllpeaaGreatDoor.X
open Go.RowKit Go.Proofs.YthebhbomlllpeaaGreatDoorW.PrintWords Go.Proofs.YthebhbomlllpeaaGreatDoorW.PrintLast Go.Proofs.YthebhbomlllpeaaGreatDoorW.PrintMore
theorem zb2 (head:Bool):∀(n:Nat) (acc:List TmS) (l:List TK) (x:List TmS × Int) (r:List TK),argsP head n acc l=.ok (x,r)→x.1.length≤acc.length+n
 |0,acc,l,x,r,h=>by simp only[argsP]at h;cases h
 |n+1,acc,l,x,r,h=>by
  simp only[argsP]at h
  split at h
  · cases h
  · split at h
    · obtain⟨y,r1,_,h⟩:=z1r h;obtain⟨_,r2,_,h⟩:=z1r h;injection h with h;injection h with e1 _
      rw[←e1];show(acc++[y]).length≤_
      simp
    · obtain⟨y,r1,_,h⟩:=z1r h
      split at h
      · have:=zb2 head n _ _ x r h;simp only[List.length_append,List.length_cons,List.length_nil]at this;omega
      · injection h with h;injection h with e1 _
        rw[←e1];show(acc++[y]).length≤_
        simp
theorem z8e {head:Bool} {l:List TK} {x:AtS × Int} {r:List TK} (h:atomP head l=.ok (x,r)):x.1.f1.length≤9:=by
 unfold atomP at h;obtain⟨p,r1,_,h⟩:=z1r h
 split at h
 · obtain⟨a,r2,ha,h⟩:=z1r h;obtain⟨_,r3,_,h⟩:=z1r h;injection h with h;injection h with e1 _
   rw[←e1];have:=zb2 head 9 [] _ a r2 ha
   simpa using this
 · injection h with h;injection h with e1 _
   rw[←e1]
   simp
theorem ze4 {l:List TK} {p:PgS} {r:List TK} (h:z1t l=.ok (p,r)):p.f1.f1.length≤9:=by
 unfold z1t at h;obtain⟨rs,r1,_,h⟩:=z1r h;obtain⟨q,r2,hq,h⟩:=z1r h;obtain⟨_,r3,_,h⟩:=z1r h;injection h with h;injection h with e1 _
 rw[←e1];exact z8e hq
theorem atoms_l0 (p q:ByteArray) (l:List TmS) (hl:l.length≤1000):∀(d i k:Nat),l.length - i=d→i≤l.length→d<k→z0e.l0 k (l.length:Int) (i:Int) p l q l=some true:=by
 intro d
 induction d with
 |zero =>
  intro i k hd hi hk;obtain⟨k,rfl⟩:∃j,k=j+1:=⟨k - 1,by omega⟩
  simp only[z0e.l0];rw[if_neg (by omega)]
 |succ d ih =>
  intro i k hd hi hk;obtain⟨k,rfl⟩:∃j,k=j+1:=⟨k - 1,by omega⟩
  simp only[z0e.l0];rw[if_pos (by omega),if_pos (by omega),if_pos (by omega),if_pos (by omega),if_neg (by simp),show wrap64 ((i:Int)+1)=((i+1:Nat):Int) by unfold wrap64;omega];exact ih (i+1) k (by omega) (by omega) (by omega)
theorem z7b (p:ByteArray) (l:List TmS) (hl:l.length≤1000):z0e.f 1100 p l p l=some true:=by
 unfold z0e.f;rw[if_pos rfl,show((l.length:Int) !=(l.length:Int))=false from bne_self_eq_false _];simp only[z0e.j0,Bool.false_eq_true,if_false];exact atoms_l0 p p l hl _ 0 _ rfl (Nat.zero_le _) (by omega)
structure FactC (V:World) (pn:ByteArray) (pa:List TmS) (ad ld:Addr) (A10 A30 A11 B0 B1:Option Addr) (c10 c30 c11 c31 b0 b1:Nat):Prop where
 r0:V.cell? ad=some (.string pn)
 r1:V.cell? ⟨ad.block,ad.off+1,none⟩=some (.slice A10 pa.length c10)
 r2:V.cell? ⟨ad.block,ad.off+2,none⟩=some (.int .i64 0)
 r3:V.cell? ⟨ad.block,ad.off+3,none⟩=some (.slice A30 0 c30)
 r4:V.cell? ⟨ad.block,ad.off+4,none⟩=some (.string ⟨#[120]⟩)
 r5:V.cell? ⟨ad.block,ad.off+4+1,none⟩=some (.slice A11 0 c11)
 r6:V.cell? ⟨ad.block,ad.off+4+2,none⟩=some (.int .i64 0)
 r7:V.cell? ⟨ad.block,ad.off+4+3,none⟩=some (.slice (some ld) 2 c31)
 l0:V.cell? ld=some (.int .i64 1)
 l1:V.cell? ⟨ld.block,ld.off+1,none⟩=some (.string pn)
 l2:V.cell? ⟨ld.block,ld.off+2,none⟩=some (.slice B0 pa.length b0)
 m0:V.cell? ⟨ld.block,ld.off+17,none⟩=some (.int .i64 2)
 m1:V.cell? ⟨ld.block,ld.off+17+1,none⟩=some (.string pn)
 m2:V.cell? ⟨ld.block,ld.off+17+2,none⟩=some (.slice B1 pa.length b1)
 h0:pa.length≤c10∧Kd.C k60 V A10 pa.length pa
 h1:pa.length≤b0∧Kd.C k60 V B0 pa.length pa
 h2:pa.length≤b1∧Kd.C k60 V B1 pa.length pa
structure FactS (V:World) (pn:ByteArray) (pa:List TmS) (ad ld:Addr) (A10 A30 A11 B0 B1 A0 A1 A3:Option Addr) (c10 c30 c11 c31 b0 b1 c0 c1 c2 c3 n1 n2 n3:Nat) (qn:ByteArray) (qa:List TmS):Prop where
 f:FactC V pn pa ad ld A10 A30 A11 B0 B1 c10 c30 c11 c31 b0 b1
 b1:V.heap[n1]?=some (.cells #[.slice A0 0 c0,.string pn,.slice A1 pa.length c1] 27 (0,0))
 b2:V.heap[n2]?=some (.cells #[.slice (some ad) 2 c2,.string qn,.slice A3 qa.length c3] 27 (0,0))
 b3:V.heap[n3]?=some (.cells #[.string ⟨#[120]⟩,.slice A11 0 c11,.int .i64 0,.slice (some ld) 2 c31] 33 (0,0))
 kc:Kd.C k60 V A1 pa.length pa
def factr.T:Bool × List (List Nat × List Nat):=(true,[([],[]),([0],[0]),([1],[1]),([2],[2]),([3],[3]),([],[]),([5],[5]),([4,6],[4,6]),([7,7],[7]),([8],[8]),([9,8],[8,9]),([10,8],[8,10]),([11,8],[8,11]),([8,12],[8,12]),([13,8],[13]),([14],[14]),([15,14],[14,15]),([16,14],[14,16]),([17,14],[14,17]),([18,14],[14,18]),([19,14],[14,19]),([14,20],[14,20]),([21,14],[21]),([22],[22]),([23,22],[22,23]),([24,22],[22,24]),([25,22],[22,25]),([26,22],[22,26]),([27,22],[22,27]),([22,28],[22,28]),([29,22],[29]),([30],[30]),([31,30],[30,31]),([32,30],[30,32]),([33,30],[30,33]),([34,30],[30,34]),([30],[30]),([36,30],[30,36]),([35,37,30,30],[30,35,37]),([30,38],[30,38]),([39,38],[39]),([40],[40]),([41,40],[40,41]),([42,40],[40,42]),([43,40],[40,43]),([44,40],[40,44]),([40],[40]),([46,40],[40,46]),([45,47,40,40],[40,45,47]),([40,48],[40,48]),([49,48],[49]),([50],[50]),([51,50],[50,51]),([52,50],[50,52]),([53,50],[50,53]),([54,50],[50,54]),([55,50],[50,55]),([50,56],[50,56]),([57,50,0,1,2,3,4,5,6,7,8,9,10,11,12,13,14,15,16,17,18,19,20,21,22,23,24,25,26,27,28,29,30,31,32,33,34,35,36,37,38,39,40,41,42,43,44,45,46,47,48,49,50,51,52,53,54,55,56,57],[57])])
def factr.B:List Nat:=[0,1,3,7,15,0,32,127,255,511,1023,2047,4095,8191,16383,32767,65535,131071,262143,524287,1048575,2097151,4194303,8388607,16777215,33554431,67108863,134217727,268435455,536870911,1073741823,2147483647,4294967295,8589934591,17179869183,34359738367,2147483647,70866960383,274877906943,549755813887,1099511627775,2199023255551,4398046511103,8796093022207,17592186044415,35184372088831,2199023255551,72567767433215,281474976710655,562949953421311,1125899906842623,2251799813685247,4503599627370495,9007199254740991,18014398509481983,36028797018963967,72057594037927935,144115188075855871,288230376151711743]
end Go.Proofs.YthebhbomlllpeaaGreatDoor.X
namespace Go.Proofs.YthebhbomlllpeaaGreatDoor.X
open Go.RowKit Go.Proofs.YthebhbomlllpeaaGreatDoorW.PrintWords Go.Proofs.YthebhbomlllpeaaGreatDoorW.PrintLast Go.Proofs.YthebhbomlllpeaaGreatDoorW.PrintMore
attribute [local go_sem] z4f z4g z55 z4x z3n z3o z49 z4h
def z3e.l0:Nat→ByteArray→List ByteArray→Int→Int→Option (Bool)
 |0,_,_,_,_=>none
 |k+1,x0,x3,x7,x8=>if x8<x7 then(if 0≤x8 then(if x8<(x3.length:Int)then(if(rdOf ByteArray.empty x3 x8).toList=x0.toList then(some true)else(z3e.l0 k x0 x3 x7 (wrap64 (x8+1))))else(none))else(none))else(some false)
def z3e.f (k:Nat) (a0:ByteArray):Option (Bool):=(some (([(⟨#[110,111,116]⟩:ByteArray),(⟨#[105,115]⟩:ByteArray),(⟨#[112,108,117,115]⟩:ByteArray),(⟨#[109,105,110,117,115]⟩:ByteArray),(⟨#[116,105,109,101,115]⟩:ByteArray),(⟨#[119,97,108,107]⟩:ByteArray),(⟨#[99,111,117,110,116]⟩:ByteArray),(⟨#[115,117,109]⟩:ByteArray),(⟨#[109,105,110]⟩:ByteArray),(⟨#[109,97,120]⟩:ByteArray),(⟨#[109,101,97,110]⟩:ByteArray)]:List ByteArray):List ByteArray)).bind fun y151=>(z3e.l0 k a0 y151 (y151.length:Int) 0)
def z4p.f (a0:Int):Option (Bool):=if a0≥97 then(if a0≤122 then(some true)else(if a0≥65 then(if a0≤90 then(some true)else(if a0≥48 then(if a0≤57 then(some true)else(some (a0==95)))else(some (a0==95))))else(if a0≥48 then(if a0≤57 then(some true)else(some (a0==95)))else(some (a0==95)))))else(if a0≥65 then(if a0≤90 then(some true)else(if a0≥48 then(if a0≤57 then(some true)else(some (a0==95)))else(some (a0==95))))else(if a0≥48 then(if a0≤57 then(some true)else(some (a0==95)))else(some (a0==95))))
mutual
def z0z.j0:Nat→ByteArray→Bool→Option (Bool)
 |0,_,_=>none
 |k+1,x0,x21=>if x21=true then(some false)else(z0z.l0 k x0 0)
def z0z.l0:Nat→ByteArray→Int→Option (Bool)
 |0,_,_=>none
 |k+1,x0,x3=>if x3<(x0.size:Int)then(if 0≤x3 then((z4p.f (bt x0 x3)).bind fun t157=>(if t157=true then(z0z.l0 k x0 (wrap64 (x3+1)))else(some false)))else(none))else(some true)
end
def z0z.f (k:Nat) (a0:ByteArray):Option (Bool):=if(a0.size:Int)<1 then(z0z.j0 k a0 true)else(if(a0.size:Int)>40 then(z0z.j0 k a0 true)else(if 0<(a0.size:Int)then(if(bt a0 0)<65 then(z0z.j0 k a0 true)else(z0z.j0 k a0 (decide ((bt a0 0)>90))))else(none)))
def z63.f (a0:Int):Option (Bool):=if a0=9221120237041090561 then(some true)else(if a0≤9218868437227405312 then(some (decide (a0≥(-9218868437227405313))))else(some false))
mutual
def z16.l0:Nat→Int→Int→ByteArray→Option (ByteArray)
 |0,_,_,_=>none
 |k+1,x0,x1,x5=>if x0>0 then(z16.j1 k x0 x1 x5 true)else(z16.j1 k x0 x1 x5 (x5.toList==([]:List UInt8)))
def z16.j1:Nat→Int→Int→ByteArray→Bool→Option (ByteArray)
 |0,_,_,_,_=>none
 |k+1,x0,x1,x5,x13=>if x13=true then(if x1=0 then(none)else(if((Int.tmod x0 x1) % 256)>9 then((some (([(((97+((Int.tmod x0 x1) % 256)) % 256) - 10) % 256]:List Int):List Int)).bind fun y168=>(if(strOfNums y168).size+x5.size≤9223372036854775807 then(z16.l0 k (IntKind.u64.wrap (Int.tdiv x0 x1)) x1 ((strOfNums y168)++x5))else(none)))else((some (([(48+((Int.tmod x0 x1) % 256)) % 256]:List Int):List Int)).bind fun y171=>(if(strOfNums y171).size+x5.size≤9223372036854775807 then(z16.l0 k (IntKind.u64.wrap (Int.tdiv x0 x1)) x1 ((strOfNums y171)++x5))else(none)))))else(some x5)
end
def z16.f (k:Nat) (a0:Int) (a1:Int):Option (ByteArray):=z16.l0 k a0 a1 (⟨#[]⟩:ByteArray)

def z1y.l0:Nat→ByteArray→Int→Bool→Int→Option (Int)
 |0,_,_,_,_=>none
 |k+1,x0,x1,x2,x7=>if(wrap64 (x1+x7))<(x0.size:Int)then(if 0≤(wrap64 (x1+x7))then((z4p.f (bt x0 (wrap64 (x1+x7)))).bind fun t194=>(if t194=true then(if x2=true then(if(bt x0 (wrap64 (x1+x7)))≥65 then(if((bt x0 (wrap64 (x1+x7)))≤90)then(some x7)else(z1y.l0 k x0 x1 x2 (wrap64 (x7+1))))else(z1y.l0 k x0 x1 x2 (wrap64 (x7+1))))else(z1y.l0 k x0 x1 x2 (wrap64 (x7+1))))else(some x7)))else(none))else(some x7)
def z1y.f (k:Nat) (a0:ByteArray) (a1:Int) (a2:Bool):Option (Int):=z1y.l0 k a0 a1 a2 0
mutual
def z1s.j0:Nat→ByteArray→Int→ByteArray→Option (Int)
 |0,_,_,_=>none
 |k+1,x0,x1,x5=>if x5.toList=([60,61]:List UInt8)then(z1s.j1 k x0 x1 true)else(if x5.toList=([33,61]:List UInt8)then(z1s.j1 k x0 x1 true)else(if x5.toList=([58,45]:List UInt8)then(z1s.j1 k x0 x1 true)else(z1s.j1 k x0 x1 (x5.toList==([63,45]:List UInt8)))))
def z1s.j1:Nat→ByteArray→Int→Bool→Option (Int)
 |0,_,_,_=>none
 |k+1,x0,x1,x30=>if x30=true then(some 2)else(if 0≤x1 then(if x1<(x0.size:Int)then(if(bt x0 x1)=40 then(some 1)else(if(bt x0 x1)=41 then(some 1)else(if(bt x0 x1)=44 then(some 1)else(if(bt x0 x1)=46 then(some 1)else(if(bt x0 x1)=60 then(some 1)else(if(bt x0 x1)=61 then(some 1)else(if(bt x0 x1)=47 then(some 1)else(if(bt x0 x1)=124 then(some 1)else(if(bt x0 x1)=42 then(some 1)else(if(bt x0 x1)=43 then(some 1)else(if(bt x0 x1)=63 then(some 1)else(if(bt x0 x1)=94 then(some 1)else(some 0)))))))))))))else(none))else(none))
end
def z1s.f (k:Nat) (a0:ByteArray) (a1:Int):Option (Int):=if(wrap64 (a1+2))≤(a0.size:Int)then(if 0≤a1 then(if a1≤(wrap64 (a1+2))then(z1s.j0 k a0 a1 (a0.extract (a1:Int).toNat ((wrap64 (a1+2)):Int).toNat))else(none))else(none))else(z1s.j0 k a0 a1 (⟨#[]⟩:ByteArray))
def IsS95 (w0 W:World) (g:Nat) (f0:List (S53)) (f1:Int) (f2:Int) (f3:Int) (f4:Int):Prop:=∃A0 c0,W.heap[g]?=some (.cells #[.slice A0 f0.length c0,.int .i64 f1,.int .i64 f2,.int .i64 f3,.int .i64 f4] 95 (0,0))∧w0.heap.size≤g∧Kd.C k53 w0 A0 f0.length f0
def z3y.f (s0_0:List (S53)) (s0_1:Int) (s0_2:Int) (s0_3:Int) (s0_4:Int) (a1:Int):Option (Int × ByteArray × Int × Int × Int × Int):=if s0_3=0 then(if(wrap64 (s0_1+a1))≥(s0_0.length:Int)then(some (0,(⟨#[]⟩:ByteArray),s0_1,s0_2,s0_3,s0_4))else(if 0≤(wrap64 (s0_1+a1))then(if(wrap64 (s0_1+a1))<(s0_0.length:Int)then(some ((z91 s0_0 (wrap64 (s0_1+a1))).f0,(z91 s0_0 (wrap64 (s0_1+a1))).f1,s0_1,s0_2,s0_3,s0_4))else(none))else(none)))else(some (0,(⟨#[]⟩:ByteArray),s0_1,s0_2,s0_3,s0_4))

def z1f.f (s0_0:List (S53)) (s0_1:Int) (s0_2:Int) (s0_3:Int) (s0_4:Int) (a1:Int) (a2:Int) (a3:ByteArray):Option (Bool × Int × Int × Int × Int):=(z3y.f s0_0 s0_1 s0_2 s0_3 s0_4 a1).bind fun bt267=>(if bt267.1=a2 then(some ((bt267.2.1.toList==a3.toList),bt267.2.2.1,bt267.2.2.2.1,bt267.2.2.2.2.1,bt267.2.2.2.2.2))else(some (false,bt267.2.2.1,bt267.2.2.2.1,bt267.2.2.2.2.1,bt267.2.2.2.2.2)))
def z2t.f (s0_0:List (S53)) (s0_1:Int) (s0_2:Int) (s0_3:Int) (s0_4:Int) (a1:Int) (a2:Int):Option (Int × Int × Int × Int):=if s0_3=0 then(some (s0_1,s0_2,a1,a2))else(some (s0_1,s0_2,s0_3,s0_4))
def z34.f (s0_0:List (S53)) (s0_1:Int) (s0_2:Int) (s0_3:Int) (s0_4:Int):Option (Int × Int × Int × Int × Int):=if s0_1<(s0_0.length:Int)then(if 0≤s0_1 then(some ((z91 s0_0 s0_1).f2,s0_1,s0_2,s0_3,s0_4))else(none))else(some (s0_2,s0_1,s0_2,s0_3,s0_4))
def z4y.f (s0_0:List (S53)) (s0_1:Int) (s0_2:Int) (s0_3:Int) (s0_4:Int) (a1:ByteArray):Option (Int × Int × Int × Int):=(z1f.f s0_0 s0_1 s0_2 s0_3 s0_4 0 4 a1).bind fun bt274=>(if bt274.1=true then(some (wrap64 (bt274.2.1+1),bt274.2.2.1,bt274.2.2.2.1,bt274.2.2.2.2))else((z34.f s0_0 bt274.2.1 bt274.2.2.1 bt274.2.2.2.1 bt274.2.2.2.2).bind fun bt279=>((z2t.f s0_0 bt279.2.1 bt279.2.2.1 bt279.2.2.2.1 bt279.2.2.2.2 2 bt279.1).bind fun bt284=>(some (bt284.1,bt284.2.1,bt284.2.2.1,bt284.2.2.2)))))
def z1n.j0:Nat→ByteArray→Bool→List (S53)→Int→Int→Int→Int→Option (ByteArray × Int × Int × Int × Int)
 |0,_,_,_,_,_,_,_=>none
 |k+1,x4,x15,x1000,x1001,x1002,x1003,x1004=>if x15=true then((z34.f x1000 x1001 x1002 x1003 x1004).bind fun bt301=>((z2t.f x1000 bt301.2.1 bt301.2.2.1 bt301.2.2.2.1 bt301.2.2.2.2 2 bt301.1).bind fun bt306=>(some ((⟨#[]⟩:ByteArray),bt306.1,bt306.2.1,bt306.2.2.1,bt306.2.2.2))))else(some (x4,wrap64 (x1001+1),x1002,x1003,x1004))
def z1n.f (k:Nat) (s0_0:List (S53)) (s0_1:Int) (s0_2:Int) (s0_3:Int) (s0_4:Int):Option (ByteArray × Int × Int × Int × Int):=(z3y.f s0_0 s0_1 s0_2 s0_3 s0_4 0).bind fun bt294=>(if bt294.1=1 then((z3e.f k bt294.2.1).bind fun t300=>(z1n.j0 k bt294.2.1 t300 s0_0 bt294.2.2.1 bt294.2.2.2.1 bt294.2.2.2.2.1 bt294.2.2.2.2.2))else(z1n.j0 k bt294.2.1 true s0_0 bt294.2.2.1 bt294.2.2.2.1 bt294.2.2.2.2.1 bt294.2.2.2.2.2))
def z6g.l0:Nat→ByteArray→List ByteArray→Int→Int→Option (Int)
 |0,_,_,_,_=>none
 |k+1,x0,x3,x7,x8=>if x8<x7 then(if 0≤x8 then(if x8<(x3.length:Int)then(if(rdOf ByteArray.empty x3 x8).toList=x0.toList then(some (wrap64 (x8+1)))else(z6g.l0 k x0 x3 x7 (wrap64 (x8+1))))else(none))else(none))else(some 0)

abbrev PFT:=Nat→List S53→Int→Int→Int→Int→Int→Option (List S69 × Int × Int × Int × Int)
mutual
def z0q.j0 (PF:PFT):Nat→List (S69)→List (S53)→Int→Int→Int→Int→Option ((List (S69)) × Int × Int × Int × Int)
 |0,_,_,_,_,_,_=>none
 |k+1,x5,x1000,x1001,x1002,x1003,x1004=>z0q.l0 PF k x5 x1000 x1001 x1002 x1003 x1004
def z0q.l0 (PF:PFT):Nat→List (S69)→List (S53)→Int→Int→Int→Int→Option ((List (S69)) × Int × Int × Int × Int)
 |0,_,_,_,_,_,_=>none
 |k+1,x5,x1000,x1001,x1002,x1003,x1004=>if x1003=0 then((z1f.f x1000 x1001 x1002 x1003 x1004 0 4 (⟨#[42]⟩:ByteArray)).bind fun bt300=>(if bt300.1=true then(if x5.length<5864062014805 then(z0q.l0 PF k (x5++[(⟨5,(⟨#[]⟩:ByteArray)⟩:S69)]) x1000 (wrap64 (bt300.2.1+1)) bt300.2.2.1 bt300.2.2.2.1 bt300.2.2.2.2)else(none))else((z1f.f x1000 bt300.2.1 bt300.2.2.1 bt300.2.2.2.1 bt300.2.2.2.2 0 4 (⟨#[43]⟩:ByteArray)).bind fun bt308=>(if bt308.1=true then(if x5.length<5864062014805 then(z0q.l0 PF k (x5++[(⟨6,(⟨#[]⟩:ByteArray)⟩:S69)]) x1000 (wrap64 (bt308.2.1+1)) bt308.2.2.1 bt308.2.2.2.1 bt308.2.2.2.2)else(none))else((z1f.f x1000 bt308.2.1 bt308.2.2.1 bt308.2.2.2.1 bt308.2.2.2.2 0 4 (⟨#[63]⟩:ByteArray)).bind fun bt316=>(if bt316.1=true then(if x5.length<5864062014805 then(z0q.l0 PF k (x5++[(⟨7,(⟨#[]⟩:ByteArray)⟩:S69)]) x1000 (wrap64 (bt316.2.1+1)) bt316.2.2.1 bt316.2.2.2.1 bt316.2.2.2.2)else(none))else(some (x5,bt316.2.1,bt316.2.2.1,bt316.2.2.2.1,bt316.2.2.2.2))))))))else(some (x5,x1001,x1002,x1003,x1004))
end
def z0q.f (PF:PFT) (k:Nat) (s0_0:List (S53)) (s0_1:Int) (s0_2:Int) (s0_3:Int) (s0_4:Int) (a1:Int):Option ((List (S69)) × Int × Int × Int × Int):=(z1f.f s0_0 s0_1 s0_2 s0_3 s0_4 0 4 (⟨#[40]⟩:ByteArray)).bind fun bt254=>(if bt254.1=true then(if a1=32 then((z34.f s0_0 bt254.2.1 bt254.2.2.1 bt254.2.2.2.1 bt254.2.2.2.2).bind fun bt259=>((z2t.f s0_0 bt259.2.1 bt259.2.2.1 bt259.2.2.2.1 bt259.2.2.2.2 3 bt259.1).bind fun bt264=>(some (([]:List (S69)),bt264.1,bt264.2.1,bt264.2.2.1,bt264.2.2.2))))else((PF k s0_0 (wrap64 (bt254.2.1+1)) bt254.2.2.1 bt254.2.2.2.1 bt254.2.2.2.2 (wrap64 (a1+1))).bind fun bt268=>((z4y.f s0_0 bt268.2.1 bt268.2.2.1 bt268.2.2.2.1 bt268.2.2.2.2 (⟨#[41]⟩:ByteArray)).bind fun bt275=>(z0q.j0 PF k bt268.1 s0_0 bt275.1 bt275.2.1 bt275.2.2.1 bt275.2.2.2))))else((z1f.f s0_0 bt254.2.1 bt254.2.2.1 bt254.2.2.2.1 bt254.2.2.2.2 0 4 (⟨#[94]⟩:ByteArray)).bind fun bt279=>(if bt279.1=true then((z1n.f k s0_0 (wrap64 (bt279.2.1+1)) bt279.2.2.1 bt279.2.2.2.1 bt279.2.2.2.2).bind fun bt284=>(z0q.j0 PF k (([(⟨2,bt284.1⟩:S69)]:List (S69))) s0_0 bt284.2.1 bt284.2.2.1 bt284.2.2.2.1 bt284.2.2.2.2))else((z1n.f k s0_0 bt279.2.1 bt279.2.2.1 bt279.2.2.2.1 bt279.2.2.2.2).bind fun bt292=>(z0q.j0 PF k (([(⟨1,bt292.1⟩:S69)]:List (S69))) s0_0 bt292.2.1 bt292.2.2.1 bt292.2.2.2.1 bt292.2.2.2.2)))))
def z1w.l0 (PF:PFT):Nat→Int→List (S69)→List (S53)→Int→Int→Int→Int→Option ((List (S69)) × Int × Int × Int × Int)
 |0,_,_,_,_,_,_,_=>none
 |k+1,x1,x5,x1000,x1001,x1002,x1003,x1004=>if x1003=0 then((z1f.f x1000 x1001 x1002 x1003 x1004 0 4 (⟨#[47]⟩:ByteArray)).bind fun bt331=>(if bt331.1=true then((z0q.f PF k x1000 (wrap64 (bt331.2.1+1)) bt331.2.2.1 bt331.2.2.2.1 bt331.2.2.2.2 x1).bind fun bt336=>(if x5.length+bt336.1.length<5864062014805 then((some (x5++bt336.1:List (S69))).bind fun y343=>(if y343.length<5864062014805 then(z1w.l0 PF k x1 (y343++[(⟨3,(⟨#[]⟩:ByteArray)⟩:S69)]) x1000 bt336.2.1 bt336.2.2.1 bt336.2.2.2.1 bt336.2.2.2.2)else(none)))else(none)))else(some (x5,bt331.2.1,bt331.2.2.1,bt331.2.2.2.1,bt331.2.2.2.2))))else(some (x5,x1001,x1002,x1003,x1004))
def z1w.f (PF:PFT) (k:Nat) (s0_0:List (S53)) (s0_1:Int) (s0_2:Int) (s0_3:Int) (s0_4:Int) (a1:Int):Option ((List (S69)) × Int × Int × Int × Int):=(z0q.f PF k s0_0 s0_1 s0_2 s0_3 s0_4 a1).bind fun bt324=>(z1w.l0 PF k a1 bt324.1 s0_0 bt324.2.1 bt324.2.2.1 bt324.2.2.2.1 bt324.2.2.2.2)
def z50.l0 (PF:PFT):Nat→Int→List (S69)→List (S53)→Int→Int→Int→Int→Option ((List (S69)) × Int × Int × Int × Int)
 |0,_,_,_,_,_,_,_=>none
 |k+1,x1,x5,x1000,x1001,x1002,x1003,x1004=>if x1003=0 then((z1f.f x1000 x1001 x1002 x1003 x1004 0 4 (⟨#[124]⟩:ByteArray)).bind fun bt214=>(if bt214.1=true then((z1w.f PF k x1000 (wrap64 (bt214.2.1+1)) bt214.2.2.1 bt214.2.2.2.1 bt214.2.2.2.2 x1).bind fun bt219=>(if x5.length+bt219.1.length<5864062014805 then((some (x5++bt219.1:List (S69))).bind fun y226=>(if y226.length<5864062014805 then(z50.l0 PF k x1 (y226++[(⟨4,(⟨#[]⟩:ByteArray)⟩:S69)]) x1000 bt219.2.1 bt219.2.2.1 bt219.2.2.2.1 bt219.2.2.2.2)else(none)))else(none)))else(some (x5,bt214.2.1,bt214.2.2.1,bt214.2.2.2.1,bt214.2.2.2.2))))else(some (x5,x1001,x1002,x1003,x1004))
end Go.Proofs.YthebhbomlllpeaaGreatDoor.X
namespace Go.Proofs.YthebhbomlllpeaaGreatDoor.X
open Go.RowKit Go.Proofs.YthebhbomlllpeaaGreatDoorW.PrintWords Go.Proofs.YthebhbomlllpeaaGreatDoorW.PrintLast Go.Proofs.YthebhbomlllpeaaGreatDoorW.PrintMore
attribute [local go_sem] z4f z4g z55 z4x z3n z3o z49 z4h
attribute [local go_sem high] eqA58
def z4m.f (a0_0:Int) (a0_1:Int) (a0_2:ByteArray):Option (Bool):=if a0_0=1 then(some (a0_2.toList==([]:List UInt8)))else(if a0_0=2 then(if a0_2.toList=([]:List UInt8)then((z63.f a0_1).bind fun t159=>(some t159))else(some false))else(if a0_0=3 then(if a0_1=0 then((z4q.f a0_2).bind fun t160=>(some t160))else(some false))else(some false)))
def z6f.f (k:Nat) (a0_0:ByteArray) (a0_1:Int) (a0_2:Int) (a0_3:ByteArray):Option (Bool):=if a0_0.toList=([]:List UInt8)then((z4m.f a0_1 a0_2 a0_3).bind fun t162=>(some t162))else((z0z.f k a0_0).bind fun t163=>(if t163=true then(some (a0_1==0&&(a0_2==0&&(a0_3.toList==([]:List UInt8)))))else(some false)))
mutual
def z32.j0:Nat→Bool→ByteArray→List (S60)→Option (Bool)
 |0,_,_,_=>none
 |k+1,x13,x165000,x165001=>if x13=true then(some false)else(z32.l0 k (x165001.length:Int) 0 x165000 x165001)
def z32.l0:Nat→Int→Int→ByteArray→List (S60)→Option (Bool)
 |0,_,_,_,_=>none
 |k+1,x16,x17,x165000,x165001=>if x17<x16 then(if 0≤x17 then(if x17<(x165001.length:Int)then((z6f.f k ((z2e x165001 x17).f0) ((z2e x165001 x17).f1.f0) ((z2e x165001 x17).f1.f1) ((z2e x165001 x17).f1.f2)).bind fun t167=>(if t167=true then(z32.l0 k x16 (wrap64 (x17+1)) x165000 x165001)else(some false)))else(none))else(none))else(some true)
end
def z26.l0:Nat→ByteArray→Option (ByteArray)
 |0,_=>none
 |k+1,x3=>if(x3.size:Int)<16 then(if 1+x3.size≤9223372036854775807 then(z26.l0 k ((⟨#[48]⟩:ByteArray)++x3))else(none))else(if 1+x3.size≤9223372036854775807 then(some ((⟨#[35]⟩:ByteArray)++x3))else(none))
def z26.f (k:Nat) (a0_0:Int) (a0_1:Int) (a0_2:ByteArray):Option (ByteArray):=(z4m.f a0_0 a0_1 a0_2).bind fun t175=>(if t175=true then(if a0_0=1 then(if a0_1<0 then((z16.f k (IntKind.u64.wrap (-(IntKind.u64.wrap (a0_1)))) 10).bind fun t176=>(if 1+t176.size≤9223372036854775807 then(some ((⟨#[45]⟩:ByteArray)++t176))else(none)))else((z16.f k (IntKind.u64.wrap (a0_1)) 10).bind fun t177=>(some t177)))else(if a0_0=2 then((z16.f k (IntKind.u64.wrap (a0_1)) 16).bind fun t178=>(z26.l0 k t178))else(some a0_2)))else(some (⟨#[]⟩:ByteArray)))
end Go.Proofs.YthebhbomlllpeaaGreatDoor.X
namespace Go.Proofs.YthebhbomlllpeaaGreatDoor.X
open Go.RowKit Go.Proofs.YthebhbomlllpeaaGreatDoorW.PrintWords Go.Proofs.YthebhbomlllpeaaGreatDoorW.PrintLast Go.Proofs.YthebhbomlllpeaaGreatDoorW.PrintMore
def numDig (c:Int):Int:=if 97≤c then c - 97+10 else(c - 48) % 256
def numStep (b n c:Int):Int:=IntKind.u64.wrap (IntKind.u64.wrap (n * b)+numDig c)
def zfq (s:ByteArray) (b:Int):Nat→Nat→Int→Int
 |0,_,n=>n
 |d+1,pos,n=>if pos<s.size then zfq s b d (pos+(Utf8.decode s pos).2) (numStep b n (bt s (pos:Int)))else n
def z3k.f (a0:ByteArray) (a1:Int):Option Int:=some (zfq a0 a1 a0.size 0 0)
end Go.Proofs.YthebhbomlllpeaaGreatDoor.X
namespace Go.Proofs.YthebhbomlllpeaaGreatDoor.X
open Go.RowKit Go.Proofs.YthebhbomlllpeaaGreatDoorW.PrintWords Go.Proofs.YthebhbomlllpeaaGreatDoorW.PrintLast Go.Proofs.YthebhbomlllpeaaGreatDoorW.PrintMore
attribute [local go_sem] z4f z4g z55 z4x z3n z3o z49 z4h
def z39.j0:Nat→ByteArray→Bool→Int→Int→ByteArray→Option (Int × Int × ByteArray × Int)
 |0,_,_,_,_,_=>none
 |k+1,x0,x34,x197000,x197001,x197002=>if x34=true then((z3k.f x0 10).bind fun t201=>((z26.f k 1 (wrap64 (t201)) (⟨#[]⟩:ByteArray)).bind fun t202=>(if t202.toList=x0.toList then(some (1,wrap64 (t201),(⟨#[]⟩:ByteArray),0))else(some (0,0,(⟨#[]⟩:ByteArray),2)))))else((z26.f k x197000 x197001 x197002).bind fun t203=>(if t203.toList=x0.toList then(some (x197000,x197001,x197002,0))else(some (0,0,(⟨#[]⟩:ByteArray),2))))
def z39.f (k:Nat) (a0:ByteArray):Option (Int × Int × ByteArray × Int):=if a0.toList=([]:List UInt8)then(some (0,0,(⟨#[]⟩:ByteArray),2))else(if 0<(a0.size:Int)then(if(bt a0 0)=35 then(if 1≤(a0.size:Int)then((z3k.f (a0.extract 1 a0.size) 16).bind fun t197=>((z26.f k 2 (wrap64 (t197)) (⟨#[]⟩:ByteArray)).bind fun t198=>(if t198.toList=a0.toList then(some (2,wrap64 (t197),(⟨#[]⟩:ByteArray),0))else(some (0,0,(⟨#[]⟩:ByteArray),2)))))else(none))else(if(bt a0 0)=45 then(if 1≤(a0.size:Int)then((z3k.f (a0.extract 1 a0.size) 10).bind fun t199=>((z26.f k 1 (wrap64 (IntKind.u64.wrap (-t199))) (⟨#[]⟩:ByteArray)).bind fun t200=>(if t200.toList=a0.toList then(some (1,wrap64 (IntKind.u64.wrap (-t199)),(⟨#[]⟩:ByteArray),0))else(some (0,0,(⟨#[]⟩:ByteArray),2)))))else(none))else(if(bt a0 0)≥48 then(z39.j0 k a0 (decide ((bt a0 0)≤57)) 3 0 a0)else(z39.j0 k a0 false 3 0 a0))))else(none))

mutual
def z0l.j0:Nat→ByteArray→Int→Int→Bool→Option (Int × ByteArray × Int × Bool)
 |0,_,_,_,_=>none
 |k+1,x0,x1,x6,x21=>if x21=true then((z1y.f k x0 x1 true).bind fun t205=>(if 0≤x1 then(if x1≤(wrap64 (x1+t205))then(if(wrap64 (x1+t205))≤(x0.size:Int)then((z4q.f (x0.extract (x1:Int).toNat ((wrap64 (x1+t205)):Int).toNat)).bind fun t206=>(some (1,x0.extract (x1:Int).toNat ((wrap64 (x1+t205)):Int).toNat,x1,t206)))else(none))else(none))else(none)))else(if x6≥65 then(z0l.j1 k x0 x1 x6 (decide (x6≤90)))else(z0l.j1 k x0 x1 x6 false))
def z0l.j1:Nat→ByteArray→Int→Int→Bool→Option (Int × ByteArray × Int × Bool)
 |0,_,_,_,_=>none
 |k+1,x0,x1,x6,x40=>if x40=true then((z1y.f k x0 x1 false).bind fun t207=>(if 0≤x1 then(if x1≤(wrap64 (x1+t207))then(if(wrap64 (x1+t207))≤(x0.size:Int)then((z0z.f k (x0.extract (x1:Int).toNat ((wrap64 (x1+t207)):Int).toNat)).bind fun t208=>(some (2,x0.extract (x1:Int).toNat ((wrap64 (x1+t207)):Int).toNat,x1,t208)))else(none))else(none))else(none)))else(if x6=35 then(z0l.j2 k x0 x1 true)else(if x6≥48 then(if x6≤57 then(z0l.j2 k x0 x1 true)else(if x6=45 then(if(wrap64 (x1+1))<(x0.size:Int)then(if 0≤(wrap64 (x1+1))then(if(bt x0 (wrap64 (x1+1)))≥48 then(z0l.j2 k x0 x1 (decide ((bt x0 (wrap64 (x1+1)))≤57)))else(z0l.j2 k x0 x1 false))else(none))else(z0l.j2 k x0 x1 false))else(z0l.j2 k x0 x1 false)))else(if x6=45 then(if(wrap64 (x1+1))<(x0.size:Int)then(if 0≤(wrap64 (x1+1))then(if(bt x0 (wrap64 (x1+1)))≥48 then(z0l.j2 k x0 x1 (decide ((bt x0 (wrap64 (x1+1)))≤57)))else(z0l.j2 k x0 x1 false))else(none))else(z0l.j2 k x0 x1 false))else(z0l.j2 k x0 x1 false))))
def z0l.j2:Nat→ByteArray→Int→Bool→Option (Int × ByteArray × Int × Bool)
 |0,_,_,_=>none
 |k+1,x0,x1,x88=>if x88=true then((z1y.f k x0 (wrap64 (x1+1)) false).bind fun t209=>(if 0≤x1 then(if x1≤(wrap64 ((wrap64 (x1+1))+t209))then(if(wrap64 ((wrap64 (x1+1))+t209))≤(x0.size:Int)then((z39.f k (x0.extract (x1:Int).toNat ((wrap64 ((wrap64 (x1+1))+t209)):Int).toNat)).bind fun bt210=>(some (3,x0.extract (x1:Int).toNat ((wrap64 ((wrap64 (x1+1))+t209)):Int).toNat,x1,(bt210.2.2.2==0))))else(none))else(none))else(none)))else((z1s.f k x0 x1).bind fun t215=>(if 0≤x1 then(if x1≤(wrap64 (x1+t215))then(if(wrap64 (x1+t215))≤(x0.size:Int)then(some (4,x0.extract (x1:Int).toNat ((wrap64 (x1+t215)):Int).toNat,x1,decide (t215>0)))else(none))else(none))else(none)))
end
def z0l.f (k:Nat) (a0:ByteArray) (a1:Int):Option (Int × ByteArray × Int × Bool):=if 0≤a1 then(if a1<(a0.size:Int)then(if(bt a0 a1)≥97 then(z0l.j0 k a0 a1 (bt a0 a1) (decide ((bt a0 a1)≤122)))else(z0l.j0 k a0 a1 (bt a0 a1) false))else(none))else(none)
end Go.Proofs.YthebhbomlllpeaaGreatDoor.X
namespace Go.Proofs.YthebhbomlllpeaaGreatDoor.X
open Go.RowKit Go.Proofs.YthebhbomlllpeaaGreatDoorW.PrintWords Go.Proofs.YthebhbomlllpeaaGreatDoorW.PrintLast Go.Proofs.YthebhbomlllpeaaGreatDoorW.PrintMore
private theorem zai (k k':IntKind) (x y:Int):Builtin.max2 (.int k x) (.int k' y)=pure (.int k (mx x y)):=by rw[z4f];rfl
private theorem zab (k k':IntKind) (x y:Int):Builtin.min2 (.int k x) (.int k' y)=pure (.int k (mn x y)):=by rw[z4g];rfl
attribute [local go_sem] zai zab z55 z4x z3n z3o z49 z4h
mutual
def z29.l0:Nat→ByteArray→List (S53)→Int→Option ((List (S53)) × Int × Int)
 |0,_,_,_=>none
 |k+1,x0,x5,x6=>if x6<(x0.size:Int)then(if 0≤x6 then(if(bt x0 x6)=32 then(z29.j1 k x0 x5 x6 true)else(if(bt x0 x6)=9 then(z29.j1 k x0 x5 x6 true)else(z29.j1 k x0 x5 x6 ((bt x0 x6)==10))))else(none))else(some (x5,0,0))
def z29.j1:Nat→ByteArray→List (S53)→Int→Bool→Option ((List (S53)) × Int × Int)
 |0,_,_,_,_=>none
 |k+1,x0,x5,x6,x31=>if x31=true then(z29.l0 k x0 x5 (wrap64 (x6+1)))else((z0l.f k x0 x6).bind fun bt216=>(if bt216.2.2.2=true then(if x5.length<4398046511104 then(z29.l0 k x0 (x5++[(⟨bt216.1,bt216.2.1,bt216.2.2.1⟩:S53)]) (wrap64 (x6+(bt216.2.1.size:Int))))else(none))else(some (([]:List (S53)),x6,2))))
end
def z36.l0:Nat→List (S53)→Int→Int→Int→Int→Option (Int)
 |0,_,_,_,_,_=>none
 |k+1,x3,x6,x7,x16,x17=>if x17<x16 then(if 0≤x17 then(if x17<(x3.length:Int)then(if((z91 x3 x17).f1).toList=([40]:List UInt8)then(if((z91 x3 x17).f1).toList=([41]:List UInt8)then(z36.l0 k x3 (mx 0 (wrap64 ((wrap64 (x6+1)) - 1))) (mx x7 (mx 0 (wrap64 ((wrap64 (x6+1)) - 1)))) x16 (wrap64 (x17+1)))else(z36.l0 k x3 (wrap64 (x6+1)) (mx x7 (wrap64 (x6+1))) x16 (wrap64 (x17+1))))else(if((z91 x3 x17).f1).toList=([41]:List UInt8)then(z36.l0 k x3 (mx 0 (wrap64 (x6 - 1))) (mx x7 (mx 0 (wrap64 (x6 - 1)))) x16 (wrap64 (x17+1)))else(z36.l0 k x3 x6 (mx x7 x6) x16 (wrap64 (x17+1)))))else(none))else(none))else(some x7)

theorem paths_l0 (l:List StS) (hl:l.length≤100):∀(d i k:Nat),l.length - i=d→i≤l.length→d<k→z0s.l0 k l l (l.length:Int) (i:Int)=some true:=by
 intro d
 induction d with
 |zero =>
  intro i k hd hi hk;obtain⟨k,rfl⟩:∃j,k=j+1:=⟨k - 1,by omega⟩
  simp only[z0s.l0];rw[if_neg (by omega)]
 |succ d ih =>
  intro i k hd hi hk;obtain⟨k,rfl⟩:∃j,k=j+1:=⟨k - 1,by omega⟩
  simp only[z0s.l0];rw[if_pos (by omega),if_pos (by omega),if_pos (by omega),if_pos (by omega),if_neg (by simp),show wrap64 ((i:Int)+1)=((i+1:Nat):Int) by unfold wrap64;omega];exact ih (i+1) k (by omega) (by omega) (by omega)
theorem zee (l:List StS) (hl:l.length≤100):z0s.f 200 l l=some true:=by
 unfold z0s.f;rw[if_pos rfl];exact paths_l0 l hl _ 0 200 rfl (Nat.zero_le _) (by omega)

theorem row_at {α:Type} {d:Kd α} {W:World} {A:Option Addr} {xs:List α} (h:Kd.C d W A xs.length xs) (z:α) (hs:0<d.sz) (i:Nat) (hi:i<xs.length) :
 ∃bk o cs,A=some ⟨bk,o,none⟩∧cs.length=d.sz∧d.K W (xs.getD i z) cs∧W.rangeAt bk (o+i * d.sz) cs:=by
 obtain⟨⟨bk,o,sub⟩,cs,rfl,hl,hK,hc⟩:=Kd.C_get h z (i:Int) (by omega) (by omega);rw[Int.toNat_natCast]at hK hc;obtain⟨ad,he,hh⟩:=h.2.2 (by omega);injection he with he
 subst he;obtain⟨c0,hl0,_,hc0⟩:=hh 0 xs[0] (List.getElem?_eq_getElem (by omega));have h0:=hc0 0 c0[0] (List.getElem?_eq_getElem (by omega));rw[Nat.zero_mul]at h0;have hsub:sub=none:=by
  cases sub with
  |none=>rfl
  |some s =>
   exfalso
   unfold Addr.add at h0
   revert h0
   unfold World.cell?
   simp
   split <;> simp
 subst hsub;refine⟨bk,o,cs,rfl,hl,hK,fun j v hj=>?_⟩;have:=hc j v hj;rw[Addr.add_mid]at this;rw[←Nat.add_assoc]at this;exact this
theorem z8x:∀(vs:List Value) (cs:Array Value) (i:Nat),i+vs.length=cs.size→(setsA cs i vs).toList=cs.toList.take i++vs
 |[],cs,i,h=>by
  simp only[setsA,List.append_nil];rw[List.take_of_length_le (by rw[List.length_nil]at h;simp;omega)]
 |v::vs,cs,i,h=>by
  simp only[setsA];rw[z8x vs _ (i+1) (by simp at h ⊢;omega)];have hi:i<cs.size:=by simp at h;omega
  have hi2:i<cs.toList.length:=by simpa using hi
  rw[Array.toList_setIfInBounds,List.take_set,List.take_succ_eq_append_getElem hi2];have hl:(cs.toList.take i).length=i:=by rw[List.length_take];omega
  rw[List.set_append_right _ _ (by omega),hl]
  simp
theorem zbh {vs:List Value} {cs:Array Value} (h:vs.length=cs.size):setsA cs 0 vs=vs.toArray:=by
 have:=z8x vs cs 0 (by omega);rw[List.take_zero,List.nil_append]at this;apply Array.toList_inj.1;rw[this]
end Go.Proofs.YthebhbomlllpeaaGreatDoor.X
namespace Go.Proofs.YthebhbomlllpeaaGreatDoor.X
open Go.RowKit Go.Proofs.YthebhbomlllpeaaGreatDoorW.PrintWords Go.Proofs.YthebhbomlllpeaaGreatDoorW.PrintLast Go.Proofs.YthebhbomlllpeaaGreatDoorW.PrintMore
attribute [local go_sem high] eqA60
def z6j (x:RlS):Prop:=x.f0.f1.length≤1000∧x.f2.length≤1000∧∀y ∈ x.f2,y.f1.f1.length≤1000∧y.f6.length≤100
def same6.T:Bool × List (List Nat × List Nat):=(true,[([],[]),([0],[0]),([],[]),([1,2],[1,2]),([3],[3]),([],[]),([5],[5]),([],[]),([6,7],[6,7]),([8],[8]),([],[]),([],[]),([10,4,0,1,2,3,4,10,11],[4,10]),([11,9,12,0,1,2,3,4,5,6,7,8,9,10,11,12],[9,11])])
def same6.B:List Nat:=[0,1,0,7,15,0,32,0,224,480,0,0,3103,8191]
theorem same6.tab:rtab .any (opsOf Tryz.f31 6)=same6.T:=by kernel_rfl
theorem same6.bits:z4j same6.T.2 same6.B=true:=by kernel_rfl
def same12.T:Bool × List (List Nat × List Nat):=(true,[([],[]),([0],[0]),([],[]),([1,2],[1,2]),([3],[3]),([],[]),([5],[5]),([],[]),([6,7],[6,7]),([8],[8]),([],[]),([],[]),([10,4,0,1,2,3,4,10,11],[4,10]),([11,9,12,0,1,2,3,4,5,6,7,8,9,10,11,12],[9,11])])
def same12.B:List Nat:=[0,1,0,7,15,0,32,0,224,480,0,0,3103,8191]
theorem same12.tab:rtab .any (opsOf Tryz.f31 12)=same12.T:=by kernel_rfl
theorem same12.bits:z4j same12.T.2 same12.B=true:=by kernel_rfl
set_option maxHeartbeats 16000000 in
set_option maxRecDepth 100000 in
theorem zdu (rs:List RlS) (pn:ByteArray) (pa:List TmS) (hrs:rs.length≤1000) (hok:∀x ∈ rs,z6j x) (hpa:pa.length≤1000) (A B A1 B1:Option Addr) (c d c1 d1:Nat) (hc1:pa.length≤c1) (hd1:pa.length≤d1) (w:World)
 (hA:Kd.C k33 w A rs.length rs) (hB:Kd.C k33 w B rs.length rs) (hA1:Kd.C k60 w A1 pa.length pa) (hB1:Kd.C k60 w B1 pa.length pa) :
 Calls Tryz.prog 31 #[.agg #[.slice A rs.length c,.string pn,.slice A1 pa.length c1],.agg #[.slice B rs.length d,.string pn,.slice B1 pa.length d1]] w fun e w'=>e=.returned (.bool true)∧Below w.heap.size w w':=by
 obtain⟨n2,en2⟩:∃n,w.heap.size=n:=⟨_,rfl⟩
 obtain⟨W1,hW1⟩:∃W,w.alloc (.cells #[.slice A rs.length c,.string pn,.slice A1 pa.length c1] 27)=W:=⟨_,rfl⟩
 obtain⟨W,hW⟩:∃W,W1.alloc (.cells #[.slice B rs.length d,.string pn,.slice B1 pa.length d1] 27)=W:=⟨_,rfl⟩
 have hsz:W1.heap.size=n2+1:=by rw[←hW1];simp[en2]
 have hBW1:Below w.heap.size w W1:=hW1 ▸ z06 (Below.refl _ _) _;have hBW:Below w.heap.size w W:=hW ▸ z06 hBW1 _;have hN2:=z19 w (.cells #[.slice A rs.length c,.string pn,.slice A1 pa.length c1] 27);rw[en2,hW1]at hN2;have hN2:=z03 hN2 (.cells #[.slice B rs.length d,.string pn,.slice B1 pa.length d1] 27);have hN3:=z19 W1 (.cells #[.slice B rs.length d,.string pn,.slice B1 pa.length d1] 27);rw[hW]at hN2 hN3;rw[hsz]at hN3;have HN:=z00.mk (And.intro hN2 hN3);have HC:=z00.mk (And.intro (Kd.C_below hA hBW) (Kd.C_below hB hBW));have HBW:=z00.mk hBW;have HAT0:=z00.mk (z0e.calls 1100 pn A1 c1 pa pn B1 d1 pa true W (Kd.C_below hA1 hBW) hc1 (Kd.C_below hB1 hBW) hd1 (z7b pn pa hpa));have HOK:=z00.mk (And.intro hrs hok);have u0:W.cell? ⟨n2,0,none⟩=some (.slice A rs.length c):=(z01 hN2 0).trans rfl;have u1:W.cell? ⟨n2,1,none⟩=some (.string pn):=(z01 hN2 1).trans rfl;have u2:W.cell? ⟨n2,2,none⟩=some (.slice A1 pa.length c1):=(z01 hN2 2).trans rfl;have v0:W.cell? ⟨n2+1,0,none⟩=some (.slice B rs.length d):=(z01 hN3 0).trans rfl;have v1:W.cell? ⟨n2+1,1,none⟩=some (.string pn):=(z01 hN3 1).trans rfl;have v2:W.cell? ⟨n2+1,2,none⟩=some (.slice B1 pa.length d1):=(z01 hN3 2).trans rfl;have z0:((rs.length:Int) !=(rs.length:Int))=false:=bne_self_eq_false _;clear hA hB hA1 hB1 hBW hBW1 hN2 hN3 hrs hok;go_enter Tryz.func31,Tryz.ntmps31
 go_wp2_with fail
 refine HAT0.out.mono ?_;rintro e w1 ⟨rfl,hb⟩;have HB1:=z00.mk hb;have u3:=z0j hb u0;clear hb u0 u1 u2 v0 v1 v2 hW hW1 hsz;go_wp2
 go_loopg [29] (rs.length+1) (fun kq v29 w'=>∃i:Nat,v29=.int .i64 i∧kq+i=rs.length+1∧i≤rs.length∧z00 (Below W.heap.size W w'))
 case atStart=>exact⟨0,rfl,by omega,by omega,HB1⟩
 case round =>
  clear HB1 u3;obtain⟨i,rfl,hk,hi,HB⟩:=hrel
  by_cases hlt:i<rs.length
  · have y1:decide ((i:Int)<(rs.length:Int))=true:=decide_eq_true (by omega);have y2:decide (i<rs.length)=true:=decide_eq_true hlt;obtain⟨k1,rfl⟩:∃k1,gk=k1+1:=⟨gk - 1,by omega⟩
    have p0:(0≤(i:Int))=True:=eq_true (by omega);have p1:((i:Int)<(rs.length:Int))=True:=eq_true (by omega);obtain⟨ad,X1,x1,X3,x3,rfl,e0,e1,e2,e3,l1,m1,l3,m3⟩:=zg1 HC.out.1 (i:Int) (by omega) (by omega);obtain⟨bd,X1',x1',X3',x3',rfl,d0,d1,d2,d3,l1',m1',l3',m3'⟩:=zg1 HC.out.2 (i:Int) (by omega) (by omega);have hr:z67 rs (i:Int)=rs[i]:=by
     show rs.getD (Int.toNat (i:Int)) _=_;rw[Int.toNat_natCast,List.getD_eq_getElem?_getD,List.getElem?_eq_getElem hlt];rfl
    have hOK:=HOK.out.2 rs[i] (List.getElem_mem hlt);obtain⟨x,hx⟩:∃x,rs[i]=x:=⟨_,rfl⟩
    simp only[hr,hx,Int.toNat_natCast]at e0 e1 e2 e3 l1 m1 l3 m3 d0 d1 d2 d3 l1' m1' l3' m3';rw[hx]at hOK;have HX:=z00.mk (And.intro hOK (And.intro m3 m3'));have HAT:=z00.mk (fun(V:World) (h:Below W.heap.size W V)=>z0e.calls 1100 x.f0.f0 X1 x1 x.f0.f1 x.f0.f0 X1' x1' x.f0.f1 true V (Kd.C_below m1 h) l1 (Kd.C_below m1' h) l1' (z7b _ _ hOK.1));have hP:W.cell? ⟨n2,0,none⟩=some (.slice (some ad) rs.length c):=(z01 HN.out.1 0).trans rfl;have hQ:W.cell? ⟨n2+1,0,none⟩=some (.slice (some bd) rs.length d):=(z01 HN.out.2 0).trans rfl;have fP:=z0j HB.out hP;have fQ:=z0j HB.out hQ;replace e0:=z0j HB.out e0;replace e1:=z0j HB.out e1;replace e2:=z0j HB.out e2;replace e3:=z0j HB.out e3;replace d0:=z0j HB.out d0;replace d1:=z0j HB.out d1;replace d2:=z0j HB.out d2;replace d3:=z0j HB.out d3;clear hP hQ hr hx l1 m1 l3 m3 l1' m1' l3' m3' hOK
    go_wp2_with fail
    refine z6k (n:=14) (S:=fun w'=>Below wr.heap.size wr w') (ds:=[]) #[false,false,false,false,false,false,false,false,false,false,false,false,false,false] (by kernel_rfl) rfl rfl (z09 (Below.refl _ _)) (fun hHeld=>?_);refine z41 same6.tab same6.bits (fun HT_ HW_=>?_)
    generalize wr.drew=V at hHeld ⊢
    refine pure_ (i:=0) (N:=some 32) (v:=?_) (a':=?_) #[true,false,false,false,false,false,false,false,false,false,false,false,false,false] rfl rfl (z2d HT_.out (by kernel_rfl)) (fun _ _ _ h=>h) (Or.inl ⟨by rfl,?_⟩) ?_ ?_
    rotate_left
    · intro w'
      go_simp
      with_reducible rfl
    rotate_left
    · simp only[Act.put,List.setIfInBounds_toArray,List.set_cons_zero,List.set_cons_succ,i64_w,i32_w];rfl
    refine pure_ (i:=2) (N:=some 34) (v:=?_) (a':=?_) #[true,false,true,false,false,false,false,false,false,false,false,false,false,false] rfl rfl (z2d HT_.out (by kernel_rfl)) (fun _ _ _ h=>h) (Or.inl ⟨by rfl,?_⟩) ?_ ?_
    rotate_left
    · intro w'
      go_simp
      with_reducible rfl
    rotate_left
    · simp only[Act.put,List.setIfInBounds_toArray,List.set_cons_zero,List.set_cons_succ,i64_w,i32_w];rfl
    refine pure_ (i:=5) (N:=some 37) (v:=?_) (a':=?_) #[true,false,true,false,false,true,false,false,false,false,false,false,false,false] rfl rfl (z2d HT_.out (by kernel_rfl)) (fun _ _ _ h=>h) (Or.inl ⟨by rfl,?_⟩) ?_ ?_
    rotate_left
    · intro w'
      go_simp
      with_reducible rfl
    rotate_left
    · simp only[Act.put,List.setIfInBounds_toArray,List.set_cons_zero,List.set_cons_succ,i64_w,i32_w];rfl
    refine pure_ (i:=7) (N:=some 39) (v:=?_) (a':=?_) #[true,false,true,false,false,true,false,true,false,false,false,false,false,false] rfl rfl (z2d HT_.out (by kernel_rfl)) (fun _ _ _ h=>h) (Or.inl ⟨by rfl,?_⟩) ?_ ?_
    rotate_left
    · intro w'
      go_simp
      with_reducible rfl
    rotate_left
    · simp only[Act.put,List.setIfInBounds_toArray,List.set_cons_zero,List.set_cons_succ,i64_w,i32_w];rfl
    refine take_ (i:=1) (N:=some 33) (v:=?_) (a':=?_) #[true,true,true,false,false,true,false,true,false,false,false,false,false,false] rfl rfl (z2l HT_.out HW_.out (by kernel_rfl)) (fun _ _ _ h=>h) (Or.inl ⟨by rfl,?_⟩) hHeld ?_ ?_
    rotate_left
    · intro w' sS;have f0:=z0j sS fP;clear sS
      go_simp
      with_reducible rfl
    rotate_left
    · simp only[Act.put,List.setIfInBounds_toArray,List.set_cons_zero,List.set_cons_succ,i64_w,i32_w];rfl
    refine pure_ (i:=3) (N:=some 35) (v:=?_) (a':=?_) #[true,true,true,true,false,true,false,true,false,false,false,false,false,false] rfl rfl (z2d HT_.out (by kernel_rfl)) (fun _ _ _ h=>h) (Or.inl ⟨by rfl,?_⟩) ?_ ?_
    rotate_left
    · intro w'
      go_simp
      with_reducible rfl
    rotate_left
    · simp only[Act.put,List.setIfInBounds_toArray,List.set_cons_zero,List.set_cons_succ,i64_w,i32_w];rfl
    refine take_ (i:=4) (N:=some 36) (v:=?_) (a':=?_) #[true,true,true,true,true,true,false,true,false,false,false,false,false,false] rfl rfl (z2l HT_.out HW_.out (by kernel_rfl)) (fun _ _ _ h=>h) (Or.inl ⟨by rfl,?_⟩) hHeld ?_ ?_
    rotate_left
    · intro w' sS;have f0:=z0j sS e0;have f1:=z0j sS e1;have f2:=z0j sS e2;have f3:=z0j sS e3;clear sS
      go_simp
      with_reducible rfl
    rotate_left
    · simp only[Act.put,List.setIfInBounds_toArray,List.set_cons_zero,List.set_cons_succ,i64_w,i32_w];rfl
    refine take_ (i:=6) (N:=some 38) (v:=?_) (a':=?_) #[true,true,true,true,true,true,true,true,false,false,false,false,false,false] rfl rfl (z2l HT_.out HW_.out (by kernel_rfl)) (fun _ _ _ h=>h) (Or.inl ⟨by rfl,?_⟩) hHeld ?_ ?_
    rotate_left
    · intro w' sS;have f0:=z0j sS fQ;clear sS
      go_simp
      with_reducible rfl
    rotate_left
    · simp only[Act.put,List.setIfInBounds_toArray,List.set_cons_zero,List.set_cons_succ,i64_w,i32_w];rfl
    refine pure_ (i:=8) (N:=some 40) (v:=?_) (a':=?_) #[true,true,true,true,true,true,true,true,true,false,false,false,false,false] rfl rfl (z2d HT_.out (by kernel_rfl)) (fun _ _ _ h=>h) (Or.inl ⟨by rfl,?_⟩) ?_ ?_
    rotate_left
    · intro w'
      go_simp
      with_reducible rfl
    rotate_left
    · simp only[Act.put,List.setIfInBounds_toArray,List.set_cons_zero,List.set_cons_succ,i64_w,i32_w];rfl
    refine take_ (i:=9) (N:=some 41) (v:=?_) (a':=?_) #[true,true,true,true,true,true,true,true,true,true,false,false,false,false] rfl rfl (z2l HT_.out HW_.out (by kernel_rfl)) (fun _ _ _ h=>h) (Or.inl ⟨by rfl,?_⟩) hHeld ?_ ?_
    rotate_left
    · intro w' sS;have f0:=z0j sS d0;have f1:=z0j sS d1;have f2:=z0j sS d2;have f3:=z0j sS d3;clear sS
      go_simp
      with_reducible rfl
    rotate_left
    · simp only[Act.put,List.setIfInBounds_toArray,List.set_cons_zero,List.set_cons_succ,i64_w,i32_w];rfl
    refine join_ (σ:=Nat × Nat) 2 #[true,true,true,true,true,true,true,true,true,true,true,true,false,false] (fun s_=>[(6,.pointer (some ⟨s_.1,0,none⟩)),(7,.pointer (some ⟨s_.2,0,none⟩))]) (fun s_ w'=>Below wr.heap.size wr w'∧w'.heap[s_.1]?=some (.cells #[.string ⟨#[]⟩,.slice none 0 0,.int .i64 0,.slice none 0 0] 33 (0,0))∧w'.heap[s_.2]?=some (.cells #[.string ⟨#[]⟩,.slice none 0 0,.int .i64 0,.slice none 0 0] 33 (0,0))∧wr.heap.size≤s_.1∧wr.heap.size≤s_.2∧s_.1≠s_.2) ?_ ?_
    rotate_left
    · intro hCont;refine two_ (i:=10) (j:=11) (Ni:=some 6) (Nj:=some 7) #[true,true,true,true,true,true,true,true,true,true,true,false,false,false] #[true,true,true,true,true,true,true,true,true,true,false,true,false,false] rfl rfl rfl rfl (z7f HT_.out (by kernel_rfl)) (by decide) (by decide) (fun K hK=>?_) (fun K hK=>?_)
      · refine z38 ?hg (N:=6) ?hd (cs:=#[.string ⟨#[]⟩,.slice none 0 0,.int .i64 0,.slice none 0 0]) (t:=33) ?hr ?_;(case hd=>rfl);(case hg=>rfl);(case hr=>first|(go_simp;done)|(go_simp;rfl));intro x hx w1 hbx hb1;have hB1:=z0f hHeld hb1;have hgx:wr.heap.size≤x:=by rw[hx];exact hHeld.size
        refine hK.out _ _ hB1 (fun hHeld=>?_);clear hK K;refine norm_ (a':=?_) ?_ ?_
        rotate_left
        · show Act.put _ (some 6) _=_;simp only[Act.put,List.setIfInBounds_toArray,List.set_cons_zero,List.set_cons_succ,i64_w,i32_w];rfl
        refine one_ (i:=11) (N:=some 7) #[true,true,true,true,true,true,true,true,true,true,true,true,false,false] rfl rfl (z22 HT_.out (by kernel_rfl)) (by decide) (fun K hK=>?_);refine z38 ?hg (N:=7) ?hd (cs:=#[.string ⟨#[]⟩,.slice none 0 0,.int .i64 0,.slice none 0 0]) (t:=33) ?hr ?_;(case hd=>rfl);(case hg=>rfl);(case hr=>first|(go_simp;done)|(go_simp;rfl));intro y hy w2 hby hb2;have hB2:=z0f hHeld hb2;have hgy:wr.heap.size≤y:=by rw[hy];exact hHeld.size
        have hne:x≠y:=by rw[hy];exact Nat.ne_of_lt (z0o hbx)
        have hbx2:=z0c hbx hb2;refine hK.out _ _ hB2 (fun hHeld=>?_);clear hK K;refine norm_ (a':=?_) ?_ ?_
        rotate_left
        · show Act.put _ (some 7) _=_;simp only[Act.put,List.setIfInBounds_toArray,List.set_cons_zero,List.set_cons_succ,i64_w,i32_w];rfl
        exact norm_ zA0u (hCont (x,y) _ ⟨hHeld,hbx2,hby,hgx,hgy,hne⟩)
      · refine z38 ?hg (N:=7) ?hd (cs:=#[.string ⟨#[]⟩,.slice none 0 0,.int .i64 0,.slice none 0 0]) (t:=33) ?hr ?_;(case hd=>rfl);(case hg=>rfl);(case hr=>first|(go_simp;done)|(go_simp;rfl));intro x hx w1 hbx hb1;have hB1:=z0f hHeld hb1;have hgx:wr.heap.size≤x:=by rw[hx];exact hHeld.size
        refine hK.out _ _ hB1 (fun hHeld=>?_);clear hK K;refine norm_ (a':=?_) ?_ ?_
        rotate_left
        · show Act.put _ (some 7) _=_;simp only[Act.put,List.setIfInBounds_toArray,List.set_cons_zero,List.set_cons_succ,i64_w,i32_w];rfl
        refine one_ (i:=10) (N:=some 6) #[true,true,true,true,true,true,true,true,true,true,true,true,false,false] rfl rfl (z22 HT_.out (by kernel_rfl)) (by decide) (fun K hK=>?_);refine z38 ?hg (N:=6) ?hd (cs:=#[.string ⟨#[]⟩,.slice none 0 0,.int .i64 0,.slice none 0 0]) (t:=33) ?hr ?_;(case hd=>rfl);(case hg=>rfl);(case hr=>first|(go_simp;done)|(go_simp;rfl));intro y hy w2 hby hb2;have hB2:=z0f hHeld hb2;have hgy:wr.heap.size≤y:=by rw[hy];exact hHeld.size
        have hne:x≠y:=by rw[hy];exact Nat.ne_of_lt (z0o hbx)
        have hbx2:=z0c hbx hb2;refine hK.out _ _ hB2 (fun hHeld=>?_);clear hK K;refine norm_ (a':=?_) ?_ ?_
        rotate_left
        · show Act.put _ (some 6) _=_;simp only[Act.put,List.setIfInBounds_toArray,List.set_cons_zero,List.set_cons_succ,i64_w,i32_w];rfl
        exact norm_ zA0u (hCont (y,x) _ ⟨hHeld,hby,hbx2,hgy,hgx,hne.symm⟩)
    rintro⟨g6,g7⟩ V2 ⟨hHeld,hb6,hb7,hg6,hg7,hne⟩;simp only at hb6 hb7 hg6 hg7 hne;refine norm_ (a':=?_) ?_ ?_
    rotate_left
    · simp only[z4d,Act.put,List.setIfInBounds_toArray,List.set_cons_zero,List.set_cons_succ];rfl
    refine one_ (i:=12) (N:=none) #[true,true,true,true,true,true,true,true,true,true,true,true,true,false] rfl rfl (z22 HT_.out (by kernel_rfl)) (by decide) (fun K hK=>?_);have k0:V2.cell? ⟨g6,0,none⟩=some (.string ⟨#[]⟩):=(z01 hb6 0).trans rfl;have q0:=z08 hb6 0;have k1:V2.cell? ⟨g6,1,none⟩=some (.slice none 0 0):=(z01 hb6 1).trans rfl;have q1:=z08 hb6 1;have k2:V2.cell? ⟨g6,2,none⟩=some (.int .i64 0):=(z01 hb6 2).trans rfl;have q2:=z08 hb6 2;have k3:V2.cell? ⟨g6,3,none⟩=some (.slice none 0 0):=(z01 hb6 3).trans rfl;have q3:=z08 hb6 3;refine skip_ (w1:=sets V2 g6 0 [.string x.f0.f0,.slice X1 x.f0.f1.length x1,.int .i64 x.f1,.slice X3 x.f2.length x3]) (by rfl) rfl ?_ ?_
    · go_simp
      try rfl
    have hS:=z2o (n:=g6) hg6 [.string x.f0.f0,.slice X1 x.f0.f1.length x1,.int .i64 x.f1,.slice X3 x.f2.length x3] 0 _ hHeld;clear k0 q0 k1 q1 k2 q2 k3 q3;have hb6':=z2v [.string x.f0.f0,.slice X1 x.f0.f1.length x1,.int .i64 x.f1,.slice X3 x.f2.length x3] 0 V2 #[.string ⟨#[]⟩,.slice none 0 0,.int .i64 0,.slice none 0 0] hb6;have hb7':=z2j hne.symm [.string x.f0.f0,.slice X1 x.f0.f1.length x1,.int .i64 x.f1,.slice X3 x.f2.length x3] 0 V2 hb7;replace hb6':(sets V2 g6 0 [.string x.f0.f0,.slice X1 x.f0.f1.length x1,.int .i64 x.f1,.slice X3 x.f2.length x3]).heap[g6]?=some (.cells #[.string x.f0.f0,.slice X1 x.f0.f1.length x1,.int .i64 x.f1,.slice X3 x.f2.length x3] 33 (0,0)):=hb6';refine hK.out _ _ hS (fun hHeld=>?_);clear hK K hS
    generalize sets V2 g6 0 [.string x.f0.f0,.slice X1 x.f0.f1.length x1,.int .i64 x.f1,.slice X3 x.f2.length x3]=V3 at hHeld hb6' hb7' ⊢
    clear hb6 hb7;refine one_ (i:=13) (N:=none) #[true,true,true,true,true,true,true,true,true,true,true,true,true,true] rfl rfl (z22 HT_.out (by kernel_rfl)) (by decide) (fun K hK=>?_);have k0:V3.cell? ⟨g7,0,none⟩=some (.string ⟨#[]⟩):=(z01 hb7' 0).trans rfl;have q0:=z08 hb7' 0;have k1:V3.cell? ⟨g7,1,none⟩=some (.slice none 0 0):=(z01 hb7' 1).trans rfl;have q1:=z08 hb7' 1;have k2:V3.cell? ⟨g7,2,none⟩=some (.int .i64 0):=(z01 hb7' 2).trans rfl;have q2:=z08 hb7' 2;have k3:V3.cell? ⟨g7,3,none⟩=some (.slice none 0 0):=(z01 hb7' 3).trans rfl;have q3:=z08 hb7' 3;refine skip_ (w1:=sets V3 g7 0 [.string x.f0.f0,.slice X1' x.f0.f1.length x1',.int .i64 x.f1,.slice X3' x.f2.length x3']) (by rfl) rfl ?_ ?_
    · go_simp
      try rfl
    have hS:=z2o (n:=g7) hg7 [.string x.f0.f0,.slice X1' x.f0.f1.length x1',.int .i64 x.f1,.slice X3' x.f2.length x3'] 0 _ hHeld;clear k0 q0 k1 q1 k2 q2 k3 q3;have hb7'':=z2v [.string x.f0.f0,.slice X1' x.f0.f1.length x1',.int .i64 x.f1,.slice X3' x.f2.length x3'] 0 V3 #[.string ⟨#[]⟩,.slice none 0 0,.int .i64 0,.slice none 0 0] hb7';have hb6'':=z2j hne [.string x.f0.f0,.slice X1' x.f0.f1.length x1',.int .i64 x.f1,.slice X3' x.f2.length x3'] 0 V3 hb6';replace hb7'':(sets V3 g7 0 [.string x.f0.f0,.slice X1' x.f0.f1.length x1',.int .i64 x.f1,.slice X3' x.f2.length x3']).heap[g7]?=some (.cells #[.string x.f0.f0,.slice X1' x.f0.f1.length x1',.int .i64 x.f1,.slice X3' x.f2.length x3'] 33 (0,0)):=hb7'';refine hK.out _ _ hS (fun hHeld=>?_);clear hK K hS
    generalize sets V3 g7 0 [.string x.f0.f0,.slice X1' x.f0.f1.length x1',.int .i64 x.f1,.slice X3' x.f2.length x3']=V5 at hHeld hb6'' hb7'' ⊢
    clear hb6' hb7';refine done_ (z5h HT_.out (by kernel_rfl)) ?_;have HBV:=z00.mk (z15 HB.out HB.out.size hHeld);have HG:=z00.mk (And.intro hb6'' hb7'');have HGE:=z00.mk (And.intro (Nat.le_trans HB.out.size hg6) (Nat.le_trans HB.out.size hg7));clear hHeld hb6'' hb7'' hg6 hg7 hne e0 e1 e2 e3 d0 d1 d2 d3 fP fQ HT_ HW_ HB;have a0:V5.cell? ⟨g6,0,none⟩=some (.string x.f0.f0):=(z01 HG.out.1 0).trans rfl;have a1:V5.cell? ⟨g6,1,none⟩=some (.slice X1 x.f0.f1.length x1):=(z01 HG.out.1 1).trans rfl;have a2:V5.cell? ⟨g6,2,none⟩=some (.int .i64 x.f1):=(z01 HG.out.1 2).trans rfl;have b0:V5.cell? ⟨g7,0,none⟩=some (.string x.f0.f0):=(z01 HG.out.2 0).trans rfl;have b1:V5.cell? ⟨g7,1,none⟩=some (.slice X1' x.f0.f1.length x1'):=(z01 HG.out.2 1).trans rfl;have b2:V5.cell? ⟨g7,2,none⟩=some (.int .i64 x.f1):=(z01 HG.out.2 2).trans rfl;have z1:(x.f1 !=x.f1)=false:=bne_self_eq_false _;have z2:((x.f2.length:Int) !=(x.f2.length:Int))=false:=bne_self_eq_false _
    go_wp2_with fail
    refine(HAT.out _ HBV.out).mono ?_;rintro e w6 ⟨rfl,hb⟩;have a3:w6.cell? ⟨g6,3,none⟩=some (.slice X3 x.f2.length x3):=(z01 (z0c HG.out.1 hb) 3).trans rfl;have b3:w6.cell? ⟨g7,3,none⟩=some (.slice X3' x.f2.length x3'):=(z01 (z0c HG.out.2 hb) 3).trans rfl;have HB6:=z00.mk hb;clear hb a0 a1 a2 b0 b1 b2;go_wp2
    go_loopg [67] (x.f2.length+1) (fun kq v67 w'=>∃j:Nat,v67=.int .i64 j∧kq+j=x.f2.length+1∧j≤x.f2.length∧z00 (Below V5.heap.size V5 w'))
    case atStart=>exact⟨0,rfl,by omega,by omega,HB6⟩
    case round =>
     clear HB6 a3 b3;obtain⟨j,rfl,hkj,hij,HB⟩:=hrel
     by_cases hlj:j<x.f2.length
     · have y3:decide ((j:Int)<(x.f2.length:Int))=true:=decide_eq_true (by omega);have y4:decide (j<x.f2.length)=true:=decide_eq_true hlj;obtain⟨k2,rfl⟩:∃k2,gk=k2+1:=⟨gk - 1,by omega⟩
       have p2:(0≤(j:Int))=True:=eq_true (by omega);have p3:((j:Int)<(x.f2.length:Int))=True:=eq_true (by omega);obtain⟨lb,lo,csA,rfl,hlA,hKA,rA⟩:=row_at HX.out.2.1 z62 (by decide) j hlj;obtain⟨mb,mo,csB,rfl,hlB,hKB,rB⟩:=row_at HX.out.2.2 z62 (by decide) j hlj;obtain⟨Y2,y2,Y16,y16,eA,l2,m2,l16,m16⟩:=z9w hKA;obtain⟨Y2',y2',Y16',y16',eB,l2',m2',l16',m16'⟩:=z9w hKB;have hr:x.f2.getD j z62=x.f2[j]:=by
        rw[List.getD_eq_getElem?_getD,List.getElem?_eq_getElem hlj];rfl
       have hOK:=HX.out.1.2.2 x.f2[j] (List.getElem_mem hlj);obtain⟨y,hy⟩:∃y,x.f2[j]=y:=⟨_,rfl⟩
       simp only[hr,hy]at eA l2 m2 l16 m16 eB l2' m2' l16' m16';rw[hy]at hOK;have h1A:csA.toArray.all (·.oneCell')=true:=by rw[eA];simp[Value.oneCell']
       have h1B:csB.toArray.all (·.oneCell')=true:=by rw[eB];simp[Value.oneCell']
       have HE:=z00.mk (And.intro eA eB);have HAT2:=z00.mk (fun(V:World) (h:Below W.heap.size W V)=>z0e.calls 1100 y.f1.f0 Y2 y2 y.f1.f1 y.f1.f0 Y2' y2' y.f1.f1 true V (Kd.C_below m2 h) l2 (Kd.C_below m2' h) l2' (z7b _ _ hOK.1));have HPA2:=z00.mk (fun(V:World) (h:Below W.heap.size W V)=>z0s.calls 200 Y16 y16 y.f6 Y16' y16' y.f6 true V (Kd.C_below m16 h) l16 (Kd.C_below m16' h) l16' (zee _ hOK.2));have HWr:=z00.mk (z15 HBV.out HBV.out.size HB.out);have fP:=z0j HB.out ((z01 HG.out.1 3).trans rfl:V5.cell? ⟨g6,3,none⟩=some (.slice (some ⟨lb,lo,none⟩) x.f2.length x3));have fQ:=z0j HB.out ((z01 HG.out.2 3).trans rfl:V5.cell? ⟨g7,3,none⟩=some (.slice (some ⟨mb,mo,none⟩) x.f2.length x3'));replace rA:wr.rangeAt lb (lo+j * 17) csA:=fun k v hv=>z0j HWr.out (rA k v hv)
       replace rB:wr.rangeAt mb (mo+j * 17) csB:=fun k v hv=>z0j HWr.out (rB k v hv)
       have hlA:csA.length=17:=hlA;have hlB:csB.length=17:=hlB;clear hr hy eA eB hKA hKB l2 m2 l16 m16 l2' m2' l16' m16' hOK HWr
       go_wp2_with fail
       refine z6k (n:=14) (S:=fun w'=>Below wr.heap.size wr w') (ds:=[]) #[false,false,false,false,false,false,false,false,false,false,false,false,false,false] (by kernel_rfl) rfl rfl (z09 (Below.refl _ _)) (fun hHeld=>?_);refine z41 same12.tab same12.bits (fun HT_ HW_=>?_)
       generalize wr.drew=V at hHeld ⊢
       refine pure_ (i:=0) (N:=some 70) (v:=?_) (a':=?_) #[true,false,false,false,false,false,false,false,false,false,false,false,false,false] rfl rfl (z2d HT_.out (by kernel_rfl)) (fun _ _ _ h=>h) (Or.inl ⟨by rfl,?_⟩) ?_ ?_
       rotate_left
       · intro w'
         go_simp
         with_reducible rfl
       rotate_left
       · simp only[Act.put,List.setIfInBounds_toArray,List.set_cons_zero,List.set_cons_succ,i64_w,i32_w];rfl
       refine pure_ (i:=2) (N:=some 72) (v:=?_) (a':=?_) #[true,false,true,false,false,false,false,false,false,false,false,false,false,false] rfl rfl (z2d HT_.out (by kernel_rfl)) (fun _ _ _ h=>h) (Or.inl ⟨by rfl,?_⟩) ?_ ?_
       rotate_left
       · intro w'
         go_simp
         with_reducible rfl
       rotate_left
       · simp only[Act.put,List.setIfInBounds_toArray,List.set_cons_zero,List.set_cons_succ,i64_w,i32_w];rfl
       refine pure_ (i:=5) (N:=some 75) (v:=?_) (a':=?_) #[true,false,true,false,false,true,false,false,false,false,false,false,false,false] rfl rfl (z2d HT_.out (by kernel_rfl)) (fun _ _ _ h=>h) (Or.inl ⟨by rfl,?_⟩) ?_ ?_
       rotate_left
       · intro w'
         go_simp
         with_reducible rfl
       rotate_left
       · simp only[Act.put,List.setIfInBounds_toArray,List.set_cons_zero,List.set_cons_succ,i64_w,i32_w];rfl
       refine pure_ (i:=7) (N:=some 77) (v:=?_) (a':=?_) #[true,false,true,false,false,true,false,true,false,false,false,false,false,false] rfl rfl (z2d HT_.out (by kernel_rfl)) (fun _ _ _ h=>h) (Or.inl ⟨by rfl,?_⟩) ?_ ?_
       rotate_left
       · intro w'
         go_simp
         with_reducible rfl
       rotate_left
       · simp only[Act.put,List.setIfInBounds_toArray,List.set_cons_zero,List.set_cons_succ,i64_w,i32_w];rfl
       refine take_ (i:=1) (N:=some 71) (v:=?_) (a':=?_) #[true,true,true,false,false,true,false,true,false,false,false,false,false,false] rfl rfl (z2l HT_.out HW_.out (by kernel_rfl)) (fun _ _ _ h=>h) (Or.inl ⟨by rfl,?_⟩) hHeld ?_ ?_
       rotate_left
       · intro w' sS;have f0:=z0j sS fP;clear sS
         go_simp
         with_reducible rfl
       rotate_left
       · simp only[Act.put,List.setIfInBounds_toArray,List.set_cons_zero,List.set_cons_succ,i64_w,i32_w];rfl
       refine pure_ (i:=3) (N:=some 73) (v:=?_) (a':=?_) #[true,true,true,true,false,true,false,true,false,false,false,false,false,false] rfl rfl (z2d HT_.out (by kernel_rfl)) (fun _ _ _ h=>h) (Or.inl ⟨by rfl,?_⟩) ?_ ?_
       rotate_left
       · intro w'
         go_simp
         with_reducible rfl
       rotate_left
       · simp only[Act.put,List.setIfInBounds_toArray,List.set_cons_zero,List.set_cons_succ,i64_w,i32_w];rfl
       refine take_ (i:=4) (N:=some 74) (v:=.agg csA.toArray) (a':=?_) #[true,true,true,true,true,true,false,true,false,false,false,false,false,false] rfl rfl (z2l HT_.out HW_.out (by kernel_rfl)) (fun _ _ _ h=>h) (by exact yieldsIf_load_mid (by rfl) 62 (.tmp 73) rfl _ _ rfl csA _ (fun w' sS k v hv=>z0j sS (rA k v hv)) Tryz.underlying62 rfl (by rw[hlA];kernel_rfl)) hHeld ?_ ?_
       rotate_left
       · simp only[Act.put,List.setIfInBounds_toArray,List.set_cons_zero,List.set_cons_succ,i64_w,i32_w];rfl
       refine take_ (i:=6) (N:=some 76) (v:=?_) (a':=?_) #[true,true,true,true,true,true,true,true,false,false,false,false,false,false] rfl rfl (z2l HT_.out HW_.out (by kernel_rfl)) (fun _ _ _ h=>h) (Or.inl ⟨by rfl,?_⟩) hHeld ?_ ?_
       rotate_left
       · intro w' sS;have f0:=z0j sS fQ;clear sS
         go_simp
         with_reducible rfl
       rotate_left
       · simp only[Act.put,List.setIfInBounds_toArray,List.set_cons_zero,List.set_cons_succ,i64_w,i32_w];rfl
       refine pure_ (i:=8) (N:=some 78) (v:=?_) (a':=?_) #[true,true,true,true,true,true,true,true,true,false,false,false,false,false] rfl rfl (z2d HT_.out (by kernel_rfl)) (fun _ _ _ h=>h) (Or.inl ⟨by rfl,?_⟩) ?_ ?_
       rotate_left
       · intro w'
         go_simp
         with_reducible rfl
       rotate_left
       · simp only[Act.put,List.setIfInBounds_toArray,List.set_cons_zero,List.set_cons_succ,i64_w,i32_w];rfl
       refine take_ (i:=9) (N:=some 79) (v:=.agg csB.toArray) (a':=?_) #[true,true,true,true,true,true,true,true,true,true,false,false,false,false] rfl rfl (z2l HT_.out HW_.out (by kernel_rfl)) (fun _ _ _ h=>h) (by exact yieldsIf_load_mid (by rfl) 62 (.tmp 78) rfl _ _ rfl csB _ (fun w' sS k v hv=>z0j sS (rB k v hv)) Tryz.underlying62 rfl (by rw[hlB];kernel_rfl)) hHeld ?_ ?_
       rotate_left
       · simp only[Act.put,List.setIfInBounds_toArray,List.set_cons_zero,List.set_cons_succ,i64_w,i32_w];rfl
       refine join_ (σ:=Nat × Nat) 2 #[true,true,true,true,true,true,true,true,true,true,true,true,false,false] (fun s_=>[(9,.pointer (some ⟨s_.1,0,none⟩)),(10,.pointer (some ⟨s_.2,0,none⟩))]) (fun s_ w'=>Below wr.heap.size wr w'∧w'.heap[s_.1]?=some (.cells #[.int .i64 0,.string ⟨#[]⟩,.slice none 0 0,.string ⟨#[]⟩,.string ⟨#[]⟩,.int .i64 0,.int .i64 0,.string ⟨#[]⟩,.string ⟨#[]⟩,.int .i64 0,.int .i64 0,.string ⟨#[]⟩,.string ⟨#[]⟩,.int .i64 0,.int .i64 0,.string ⟨#[]⟩,.slice none 0 0] 62 (0,0))∧w'.heap[s_.2]?=some (.cells #[.int .i64 0,.string ⟨#[]⟩,.slice none 0 0,.string ⟨#[]⟩,.string ⟨#[]⟩,.int .i64 0,.int .i64 0,.string ⟨#[]⟩,.string ⟨#[]⟩,.int .i64 0,.int .i64 0,.string ⟨#[]⟩,.string ⟨#[]⟩,.int .i64 0,.int .i64 0,.string ⟨#[]⟩,.slice none 0 0] 62 (0,0))∧wr.heap.size≤s_.1∧wr.heap.size≤s_.2∧s_.1≠s_.2) ?_ ?_
       rotate_left
       · intro hCont;refine two_ (i:=10) (j:=11) (Ni:=some 9) (Nj:=some 10) #[true,true,true,true,true,true,true,true,true,true,true,false,false,false] #[true,true,true,true,true,true,true,true,true,true,false,true,false,false] rfl rfl rfl rfl (z7f HT_.out (by kernel_rfl)) (by decide) (by decide) (fun K hK=>?_) (fun K hK=>?_)
         · refine z38 ?hg (N:=9) ?hd (cs:=#[.int .i64 0,.string ⟨#[]⟩,.slice none 0 0,.string ⟨#[]⟩,.string ⟨#[]⟩,.int .i64 0,.int .i64 0,.string ⟨#[]⟩,.string ⟨#[]⟩,.int .i64 0,.int .i64 0,.string ⟨#[]⟩,.string ⟨#[]⟩,.int .i64 0,.int .i64 0,.string ⟨#[]⟩,.slice none 0 0]) (t:=62) ?hr ?_;(case hd=>rfl);(case hg=>rfl);(case hr=>first|(go_simp;done)|(go_simp;rfl));intro x hx w1 hbx hb1;have hB1:=z0f hHeld hb1;have hgx:wr.heap.size≤x:=by rw[hx];exact hHeld.size
           refine hK.out _ _ hB1 (fun hHeld=>?_);clear hK K;refine norm_ (a':=?_) ?_ ?_
           rotate_left
           · show Act.put _ (some 9) _=_;simp only[Act.put,List.setIfInBounds_toArray,List.set_cons_zero,List.set_cons_succ,i64_w,i32_w];rfl
           refine one_ (i:=11) (N:=some 10) #[true,true,true,true,true,true,true,true,true,true,true,true,false,false] rfl rfl (z22 HT_.out (by kernel_rfl)) (by decide) (fun K hK=>?_);refine z38 ?hg (N:=10) ?hd (cs:=#[.int .i64 0,.string ⟨#[]⟩,.slice none 0 0,.string ⟨#[]⟩,.string ⟨#[]⟩,.int .i64 0,.int .i64 0,.string ⟨#[]⟩,.string ⟨#[]⟩,.int .i64 0,.int .i64 0,.string ⟨#[]⟩,.string ⟨#[]⟩,.int .i64 0,.int .i64 0,.string ⟨#[]⟩,.slice none 0 0]) (t:=62) ?hr ?_;(case hd=>rfl);(case hg=>rfl);(case hr=>first|(go_simp;done)|(go_simp;rfl));intro y hy w2 hby hb2;have hB2:=z0f hHeld hb2;have hgy:wr.heap.size≤y:=by rw[hy];exact hHeld.size
           have hne:x≠y:=by rw[hy];exact Nat.ne_of_lt (z0o hbx)
           have hbx2:=z0c hbx hb2;refine hK.out _ _ hB2 (fun hHeld=>?_);clear hK K;refine norm_ (a':=?_) ?_ ?_
           rotate_left
           · show Act.put _ (some 10) _=_;simp only[Act.put,List.setIfInBounds_toArray,List.set_cons_zero,List.set_cons_succ,i64_w,i32_w];rfl
           exact norm_ zA0u (hCont (x,y) _ ⟨hHeld,hbx2,hby,hgx,hgy,hne⟩)
         · refine z38 ?hg (N:=10) ?hd (cs:=#[.int .i64 0,.string ⟨#[]⟩,.slice none 0 0,.string ⟨#[]⟩,.string ⟨#[]⟩,.int .i64 0,.int .i64 0,.string ⟨#[]⟩,.string ⟨#[]⟩,.int .i64 0,.int .i64 0,.string ⟨#[]⟩,.string ⟨#[]⟩,.int .i64 0,.int .i64 0,.string ⟨#[]⟩,.slice none 0 0]) (t:=62) ?hr ?_;(case hd=>rfl);(case hg=>rfl);(case hr=>first|(go_simp;done)|(go_simp;rfl));intro x hx w1 hbx hb1;have hB1:=z0f hHeld hb1;have hgx:wr.heap.size≤x:=by rw[hx];exact hHeld.size
           refine hK.out _ _ hB1 (fun hHeld=>?_);clear hK K;refine norm_ (a':=?_) ?_ ?_
           rotate_left
           · show Act.put _ (some 10) _=_;simp only[Act.put,List.setIfInBounds_toArray,List.set_cons_zero,List.set_cons_succ,i64_w,i32_w];rfl
           refine one_ (i:=10) (N:=some 9) #[true,true,true,true,true,true,true,true,true,true,true,true,false,false] rfl rfl (z22 HT_.out (by kernel_rfl)) (by decide) (fun K hK=>?_);refine z38 ?hg (N:=9) ?hd (cs:=#[.int .i64 0,.string ⟨#[]⟩,.slice none 0 0,.string ⟨#[]⟩,.string ⟨#[]⟩,.int .i64 0,.int .i64 0,.string ⟨#[]⟩,.string ⟨#[]⟩,.int .i64 0,.int .i64 0,.string ⟨#[]⟩,.string ⟨#[]⟩,.int .i64 0,.int .i64 0,.string ⟨#[]⟩,.slice none 0 0]) (t:=62) ?hr ?_;(case hd=>rfl);(case hg=>rfl);(case hr=>first|(go_simp;done)|(go_simp;rfl));intro y hy w2 hby hb2;have hB2:=z0f hHeld hb2;have hgy:wr.heap.size≤y:=by rw[hy];exact hHeld.size
           have hne:x≠y:=by rw[hy];exact Nat.ne_of_lt (z0o hbx)
           have hbx2:=z0c hbx hb2;refine hK.out _ _ hB2 (fun hHeld=>?_);clear hK K;refine norm_ (a':=?_) ?_ ?_
           rotate_left
           · show Act.put _ (some 9) _=_;simp only[Act.put,List.setIfInBounds_toArray,List.set_cons_zero,List.set_cons_succ,i64_w,i32_w];rfl
           exact norm_ zA0u (hCont (y,x) _ ⟨hHeld,hby,hbx2,hgy,hgx,hne.symm⟩)
       rintro⟨g9,g10⟩ V2 ⟨hHeld,hb6,hb7,hg6,hg7,hne⟩;simp only at hb6 hb7 hg6 hg7 hne;refine norm_ (a':=?_) ?_ ?_
       rotate_left
       · simp only[z4d,Act.put,List.setIfInBounds_toArray,List.set_cons_zero,List.set_cons_succ];rfl
       refine one_ (i:=12) (N:=none) #[true,true,true,true,true,true,true,true,true,true,true,true,true,false] rfl rfl (z22 HT_.out (by kernel_rfl)) (by decide) (fun K hK=>?_);have hth:V2.there g9 0 csA.toArray.size:=z57 hb6 (by rw[List.size_toArray,hlA];decide);rw[if_pos (by rfl)];refine wp_store_mid 62 (.tmp 9) (.tmp 74) rfl g9 0 csA.toArray rfl rfl hth (by rw[List.size_toArray,hlA];kernel_rfl) h1A ?_;rw[show csA.toArray.toList=csA from rfl,z2x];have hS:=z2o (n:=g9) hg6 csA 0 _ hHeld;have hb6':=z2v csA 0 V2 #[.int .i64 0,.string ⟨#[]⟩,.slice none 0 0,.string ⟨#[]⟩,.string ⟨#[]⟩,.int .i64 0,.int .i64 0,.string ⟨#[]⟩,.string ⟨#[]⟩,.int .i64 0,.int .i64 0,.string ⟨#[]⟩,.string ⟨#[]⟩,.int .i64 0,.int .i64 0,.string ⟨#[]⟩,.slice none 0 0] hb6;have hb7':=z2j hne.symm csA 0 V2 hb7;rw[zbh (by rw[hlA];rfl)]at hb6';refine hK.out _ _ hS (fun hHeld=>?_);clear hK K hS hth;refine norm_ (a':=?_) ?_ ?_
       rotate_left
       · show Act.put _ none _=_;rfl
       generalize sets V2 g9 0 csA=V3 at hHeld hb6' hb7' ⊢
       clear hb6 hb7;refine one_ (i:=13) (N:=none) #[true,true,true,true,true,true,true,true,true,true,true,true,true,true] rfl rfl (z22 HT_.out (by kernel_rfl)) (by decide) (fun K hK=>?_);have hth:V3.there g10 0 csB.toArray.size:=z57 hb7' (by rw[List.size_toArray,hlB];decide);rw[if_pos (by rfl)];refine wp_store_mid 62 (.tmp 10) (.tmp 79) rfl g10 0 csB.toArray rfl rfl hth (by rw[List.size_toArray,hlB];kernel_rfl) h1B ?_;rw[show csB.toArray.toList=csB from rfl,z2x];have hS:=z2o (n:=g10) hg7 csB 0 _ hHeld;have hb7'':=z2v csB 0 V3 #[.int .i64 0,.string ⟨#[]⟩,.slice none 0 0,.string ⟨#[]⟩,.string ⟨#[]⟩,.int .i64 0,.int .i64 0,.string ⟨#[]⟩,.string ⟨#[]⟩,.int .i64 0,.int .i64 0,.string ⟨#[]⟩,.string ⟨#[]⟩,.int .i64 0,.int .i64 0,.string ⟨#[]⟩,.slice none 0 0] hb7';have hb6'':=z2j hne csB 0 V3 hb6';rw[zbh (by rw[hlB];rfl)]at hb7'';refine hK.out _ _ hS (fun hHeld=>?_);clear hK K hS hth;refine norm_ (a':=?_) ?_ ?_
       rotate_left
       · show Act.put _ none _=_;rfl
       generalize sets V3 g10 0 csB=V6 at hHeld hb6'' hb7'' ⊢
       clear hb6' hb7';refine done_ (z5h HT_.out (by kernel_rfl)) ?_;have HBV6:=z00.mk (z15 HB.out HB.out.size hHeld);have HG6:=z00.mk (show V6.heap[g9]?=some (.cells #[.int .i64 y.f0,.string y.f1.f0,.slice Y2 y.f1.f1.length y2,.string y.f2,.string y.f3.f0,.int .i64 y.f3.f1.f0,.int .i64 y.f3.f1.f1,.string y.f3.f1.f2,.string y.f4.f0,.int .i64 y.f4.f1.f0,.int .i64 y.f4.f1.f1,.string y.f4.f1.f2,.string y.f5.f0,.int .i64 y.f5.f1.f0,.int .i64 y.f5.f1.f1,.string y.f5.f1.f2,.slice Y16 y.f6.length y16] 62 (0,0))∧V6.heap[g10]?=some (.cells #[.int .i64 y.f0,.string y.f1.f0,.slice Y2' y.f1.f1.length y2',.string y.f2,.string y.f3.f0,.int .i64 y.f3.f1.f0,.int .i64 y.f3.f1.f1,.string y.f3.f1.f2,.string y.f4.f0,.int .i64 y.f4.f1.f0,.int .i64 y.f4.f1.f1,.string y.f4.f1.f2,.string y.f5.f0,.int .i64 y.f5.f1.f0,.int .i64 y.f5.f1.f1,.string y.f5.f1.f2,.slice Y16' y.f6.length y16'] 62 (0,0)) by rw[hb6'',hb7'',HE.out.1,HE.out.2];exact⟨rfl,rfl⟩);clear hHeld hb6'' hb7'' hg6 hg7 hne rA rB hlA hlB h1A h1B HE fP fQ HT_ HW_ HB;have a0:V6.cell? ⟨g9,0,none⟩=some (.int .i64 y.f0):=(z01 HG6.out.1 0).trans rfl;have a1:V6.cell? ⟨g9,1,none⟩=some (.string y.f1.f0):=(z01 HG6.out.1 1).trans rfl;have a2:V6.cell? ⟨g9,2,none⟩=some (.slice Y2 y.f1.f1.length y2):=(z01 HG6.out.1 2).trans rfl;have a3:V6.cell? ⟨g9,3,none⟩=some (.string y.f2):=(z01 HG6.out.1 3).trans rfl;have a4:V6.cell? ⟨g9,4,none⟩=some (.string y.f3.f0):=(z01 HG6.out.1 4).trans rfl;have a5:V6.cell? ⟨g9,5,none⟩=some (.int .i64 y.f3.f1.f0):=(z01 HG6.out.1 5).trans rfl;have a6:V6.cell? ⟨g9,6,none⟩=some (.int .i64 y.f3.f1.f1):=(z01 HG6.out.1 6).trans rfl;have a7:V6.cell? ⟨g9,7,none⟩=some (.string y.f3.f1.f2):=(z01 HG6.out.1 7).trans rfl;have a8:V6.cell? ⟨g9,8,none⟩=some (.string y.f4.f0):=(z01 HG6.out.1 8).trans rfl;have a9:V6.cell? ⟨g9,9,none⟩=some (.int .i64 y.f4.f1.f0):=(z01 HG6.out.1 9).trans rfl;have a10:V6.cell? ⟨g9,10,none⟩=some (.int .i64 y.f4.f1.f1):=(z01 HG6.out.1 10).trans rfl
       have a11:V6.cell? ⟨g9,11,none⟩=some (.string y.f4.f1.f2):=(z01 HG6.out.1 11).trans rfl;have a12:V6.cell? ⟨g9,12,none⟩=some (.string y.f5.f0):=(z01 HG6.out.1 12).trans rfl;have a13:V6.cell? ⟨g9,13,none⟩=some (.int .i64 y.f5.f1.f0):=(z01 HG6.out.1 13).trans rfl;have a14:V6.cell? ⟨g9,14,none⟩=some (.int .i64 y.f5.f1.f1):=(z01 HG6.out.1 14).trans rfl;have a15:V6.cell? ⟨g9,15,none⟩=some (.string y.f5.f1.f2):=(z01 HG6.out.1 15).trans rfl;have a16:V6.cell? ⟨g9,16,none⟩=some (.slice Y16 y.f6.length y16):=(z01 HG6.out.1 16).trans rfl;have b0:V6.cell? ⟨g10,0,none⟩=some (.int .i64 y.f0):=(z01 HG6.out.2 0).trans rfl;have b1:V6.cell? ⟨g10,1,none⟩=some (.string y.f1.f0):=(z01 HG6.out.2 1).trans rfl;have b2:V6.cell? ⟨g10,2,none⟩=some (.slice Y2' y.f1.f1.length y2'):=(z01 HG6.out.2 2).trans rfl;have b3:V6.cell? ⟨g10,3,none⟩=some (.string y.f2):=(z01 HG6.out.2 3).trans rfl;have b4:V6.cell? ⟨g10,4,none⟩=some (.string y.f3.f0):=(z01 HG6.out.2 4).trans rfl;have b5:V6.cell? ⟨g10,5,none⟩=some (.int .i64 y.f3.f1.f0):=(z01 HG6.out.2 5).trans rfl;have b6:V6.cell? ⟨g10,6,none⟩=some (.int .i64 y.f3.f1.f1):=(z01 HG6.out.2 6).trans rfl;have b7:V6.cell? ⟨g10,7,none⟩=some (.string y.f3.f1.f2):=(z01 HG6.out.2 7).trans rfl;have b8:V6.cell? ⟨g10,8,none⟩=some (.string y.f4.f0):=(z01 HG6.out.2 8).trans rfl;have b9:V6.cell? ⟨g10,9,none⟩=some (.int .i64 y.f4.f1.f0):=(z01 HG6.out.2 9).trans rfl;have b10:V6.cell? ⟨g10,10,none⟩=some (.int .i64 y.f4.f1.f1):=(z01 HG6.out.2 10).trans rfl;have b11:V6.cell? ⟨g10,11,none⟩=some (.string y.f4.f1.f2):=(z01 HG6.out.2 11).trans rfl;have b12:V6.cell? ⟨g10,12,none⟩=some (.string y.f5.f0):=(z01 HG6.out.2 12).trans rfl;have b13:V6.cell? ⟨g10,13,none⟩=some (.int .i64 y.f5.f1.f0):=(z01 HG6.out.2 13).trans rfl;have b14:V6.cell? ⟨g10,14,none⟩=some (.int .i64 y.f5.f1.f1):=(z01 HG6.out.2 14).trans rfl;have b15:V6.cell? ⟨g10,15,none⟩=some (.string y.f5.f1.f2):=(z01 HG6.out.2 15).trans rfl
       have b16:V6.cell? ⟨g10,16,none⟩=some (.slice Y16' y.f6.length y16'):=(z01 HG6.out.2 16).trans rfl;have s1:(y.f0 !=y.f0)=false:=bne_self_eq_false _;have s2:(y.f2.toList !=y.f2.toList)=false:=bne_self_eq_false _
       go_wp2_with fail
       refine(HAT2.out _ (z15 HBV.out HBV.out.size HBV6.out)).mono ?_;rintro e w8 ⟨rfl,hb⟩;have c16:w8.cell? ⟨g9,16,none⟩=some (.slice Y16 y.f6.length y16):=(z01 (z0c HG6.out.1 hb) 16).trans rfl;have d16:w8.cell? ⟨g10,16,none⟩=some (.slice Y16' y.f6.length y16'):=(z01 (z0c HG6.out.2 hb) 16).trans rfl;have HB8:=z00.mk (z15 HBV6.out HBV6.out.size hb);clear hb s1 s2 a0 a1 a2 a3 a4 a5 a6 a7 a8 a9 a10 a11 a12 a13 a14 a15 a16 b0 b1 b2 b3 b4 b5 b6 b7 b8 b9 b10 b11 b12 b13 b14 b15 b16
       go_wp2_with fail
       refine(HPA2.out _ (z15 HBV.out HBV.out.size HB8.out)).mono ?_;rintro e w9 ⟨rfl,hd9⟩;have HB9:=z00.mk (z15 HB8.out HB8.out.size hd9.below);have y5:wrap64 ((j:Int)+1)=((j+1:Nat):Int):=by have:=HX.out.1.2.1;unfold wrap64;omega
       clear hd9 c16 d16;go_wp2
       go_roundg k2
       case rel=>exact⟨j+1,by go_num,by omega,by omega,HB9⟩
       case measure=>omega
     · obtain rfl:j=x.f2.length:=by omega
       have y3:decide ((x.f2.length:Int)<(x.f2.length:Int))=false:=decide_eq_false (by omega);have HBo:=z00.mk (z15 HBV.out HBV.out.size HB.out);have y5:wrap64 ((i:Int)+1)=((i+1:Nat):Int):=by have:=HOK.out.1;unfold wrap64;omega
       go_wp2
       go_roundg k1
       case rel=>exact⟨i+1,by go_num,by omega,by omega,HBo⟩
       case measure=>omega
  · obtain rfl:i=rs.length:=by omega
    have y1:decide ((rs.length:Int)<(rs.length:Int))=false:=decide_eq_false (by omega);have HBo:=z00.mk (z15 HBW.out HBW.out.size HB.out);go_wp2
    go_ret
    exact⟨rfl,HBo.out⟩
end Go.Proofs.YthebhbomlllpeaaGreatDoor.X
namespace Go.Proofs.YthebhbomlllpeaaGreatDoor.X
open Go.RowKit Go.Proofs.YthebhbomlllpeaaGreatDoorW.PrintWords Go.Proofs.YthebhbomlllpeaaGreatDoorW.PrintLast Go.Proofs.YthebhbomlllpeaaGreatDoorW.PrintMore
instance:DecidableEq VlS:=fun a b =>
 if h:a.f0=b.f0∧a.f1=b.f1∧a.f2=b.f2 then isTrue (by cases a;cases b;obtain⟨h1,h2,h3⟩:=h;simp only at h1 h2 h3;subst h1 h2 h3;rfl)else isFalse (fun e=>h (by subst e;exact⟨rfl,rfl,rfl⟩))
instance:DecidableEq TmS:=fun a b =>
 if h:a.f0=b.f0∧a.f1=b.f1 then isTrue zA1p else isFalse (fun e=>h (by subst e;exact⟨rfl,rfl⟩))
instance:DecidableEq StS:=fun a b =>
 if h:a.f0=b.f0∧a.f1=b.f1 then isTrue zA1p else isFalse (fun e=>h (by subst e;exact⟨rfl,rfl⟩))
instance:DecidableEq AtS:=fun a b =>
 if h:a.f0=b.f0∧a.f1=b.f1 then isTrue zA1p else isFalse (fun e=>h (by subst e;exact⟨rfl,rfl⟩))
instance:DecidableEq LtS:=fun a b =>
 if h:a.f0=b.f0∧a.f1=b.f1∧a.f2=b.f2∧a.f3=b.f3∧a.f4=b.f4∧a.f5=b.f5∧a.f6=b.f6 then isTrue (by cases a;cases b;obtain⟨h1,h2,h3,h4,h5,h6,h7⟩:=h;simp only at h1 h2 h3 h4 h5 h6 h7;subst h1 h2 h3 h4 h5 h6 h7;rfl)else isFalse (fun e=>h (by subst e;exact⟨rfl,rfl,rfl,rfl,rfl,rfl,rfl⟩))
instance:DecidableEq RlS:=fun a b =>
 if h:a.f0=b.f0∧a.f1=b.f1∧a.f2=b.f2 then isTrue (by cases a;cases b;obtain⟨h1,h2,h3⟩:=h;simp only at h1 h2 h3;subst h1 h2 h3;rfl)else isFalse (fun e=>h (by subst e;exact⟨rfl,rfl,rfl⟩))
def sameB (x:RlS):Bool:=decide (x.f0.f1.length≤1000)&&(decide (x.f2.length≤1000)&&x.f2.all fun y=>decide (y.f1.f1.length≤1000)&&decide (y.f6.length≤100))
theorem zdm {x:RlS}:sameB x=true↔z6j x:=by
 unfold sameB z6j;simp only[Bool.and_eq_true,decide_eq_true_eq,List.all_eq_true]
def z0v.f (l0_0:List S33) (a0_1:ByteArray) (l0_2:List S60) (l1_0:List S33) (a1_1:ByteArray) (l1_2:List S60):Option Bool :=
 if(l0_0=l1_0∧a0_1=a1_1∧l0_2=l1_2)∧(l0_0.length≤1000∧l0_0.all sameB=true∧l0_2.length≤1000)then some true else none
theorem z0v.calls (A0_0:Option Addr) (c0_0:Nat) (l0_0:List S33) (a0_1:ByteArray) (A0_2:Option Addr) (c0_2:Nat) (l0_2:List S60) (A1_0:Option Addr) (c1_0:Nat) (l1_0:List S33) (a1_1:ByteArray) (A1_2:Option Addr) (c1_2:Nat) (l1_2:List S60) (r:Bool) (w:World)
 (hr0_0:Kd.C k33 w A0_0 l0_0.length l0_0) (hc0_0:l0_0.length≤c0_0) (hr0_2:Kd.C k60 w A0_2 l0_2.length l0_2) (hc0_2:l0_2.length≤c0_2) (hr1_0:Kd.C k33 w A1_0 l1_0.length l1_0) (hc1_0:l1_0.length≤c1_0) (hr1_2:Kd.C k60 w A1_2 l1_2.length l1_2) (hc1_2:l1_2.length≤c1_2)
 (h:z0v.f l0_0 a0_1 l0_2 l1_0 a1_1 l1_2=some r) :
 Calls Tryz.prog 31 #[.agg #[.slice A0_0 l0_0.length c0_0,.string a0_1,.slice A0_2 l0_2.length c0_2],.agg #[.slice A1_0 l1_0.length c1_0,.string a1_1,.slice A1_2 l1_2.length c1_2]] w fun e w'=>e=.returned (.bool r)∧Below w.heap.size w w':=by
 unfold z0v.f at h
 split at h
 · rename_i hk;obtain⟨⟨rfl,rfl,rfl⟩,hl,hall,hp⟩:=hk;obtain rfl:=Option.some.inj h;exact zdu l0_0 a0_1 l0_2 hl (fun x hx=>zdm.1 (List.all_eq_true.1 hall x hx)) hp A0_0 A1_0 A0_2 A1_2 c0_0 c1_0 c0_2 c1_2 hc0_2 hc1_2 w hr0_0 hr1_0 hr0_2 hr1_2
 · cases h
theorem same_f {rs:List RlS} {pn:ByteArray} {pa:List TmS} (h1:rs.length≤1000) (h2:∀x ∈ rs,z6j x) (h3:pa.length≤1000):z0v.f rs pn pa rs pn pa=some true:=by
 unfold z0v.f;rw[if_pos ⟨⟨rfl,rfl,rfl⟩,h1,List.all_eq_true.2 (fun x hx=>zdm.2 (h2 x hx)),h3⟩]
end Go.Proofs.YthebhbomlllpeaaGreatDoor.X
