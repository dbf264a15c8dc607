/-
  The statement ShowParts, for every input.
-/
import Derived.Test.YthebhbomlllpeaaGreatDoorZShowParts10
set_option linter.unusedVariables false
set_option linter.unusedSimpArgs false
namespace Go.Proofs.YthebhbomlllpeaaGreatDoor.showParts
open Go.ChangeShapes Go.WideShapes Go.ChangeAt Go.RowKit Go.Proofs.YthebhbomlllpeaaGreatDoor.X
open Go.ChangeMaps (open_string shut_string)
set_option maxRecDepth 100000 in
theorem contract (H:Type) (enc:TypeId × Value→H) (W:World) (base:Nat) (args:Array Value) (ds gs:List (DataW H)) (before:List MemPlace)
 (hval:∀(j:Nat) t v,Tryz.f15.params[j]?=some t→args[j]?=some v→Value.okWide Tryz.prog W .any base t v)
 (hW:DataW.Whole enc Tryz.prog Tryz.f15.params.toList Rows.showPartsSpec.vars false W args.toList ds gs before) (hL:laidMetH Tryz.prog Rows.showPartsRow.laid W) :
 Calls Tryz.prog 15 args W fun e W'=>∃v,e=.returned v∧Rows.showPartsSpec.post enc Tryz.prog Tryz.f15 false true false false W args v W':=by
 have hW':=hW;obtain⟨p,q,hA0,hV,rfl,hfz,hnd⟩:=hW;have hA:DataW.TrodAll enc Tryz.prog W 0 (fun _=>true) true Tryz.f15.params.toList args.toList ds p:=hA0;rw[Tryz.params15]at hA hval;obtain⟨v0,vs0,d0,ds0,p0,q0,hargs,rfl,rfl,h0,r0⟩:=trodAll_cons hA;obtain⟨rfl,rfl,rfl⟩:=trodAll_nil r0;obtain rfl:args=#[v0]:=by cases args;simp_all
 obtain⟨rfl,rfl⟩:=trodVars_none hV;have lt0:∀x ∈ p0,x.block<W.heap.size:=by obtain⟨m,hm⟩:=h0;exact DataW.trod_lt m _ _ _ hm
 obtain⟨aG0,z0,cG0,q0,bG0,eG0,rfl,hc0,hC0,he0,hE0,hr0,hq0⟩:=zdy (hval 0 27 v0 rfl rfl) h0;clear hA0;simp only[List.append_nil]at hW';obtain⟨k,hk⟩:=zbr z0 q0.f0 q0.f1;refine(z2s.calls k _ _ z0 q0.f0 _ _ q0.f1 true W (laidW_of hL) hC0 hc0 hE0 he0 hr0 hq0 hk).mono ?_;rintro e W' ⟨rfl,bel⟩;exact⟨_,rfl,_,_,_,[],_,[],hW',trodAll_mk1 (shut_bool Tryz.underlying4 _),(trodAll_cons_mk (Below.trod laidOut (by kernel_rfl) (of_decide_eq_true (by kernel_rfl)) h0 bel lt0) trodAll_mk0),rfl,bel.frame _,fun h=>by cases h⟩
theorem reads (os:Os) {H:Type} (enc:TypeId × Value→H):∃places,DataW.whole enc Tryz.prog ((z9u os).forCall (fun _ _=>0) ⟨#[],#[.agg #[.slice none 0 0,.string ⟨#[]⟩,.slice none 0 0]],[]⟩).memory Tryz.f15.params.toList Rows.showPartsSpec.vars false (#[.agg #[.slice none 0 0,.string ⟨#[]⟩,.slice none 0 0]]:Array Value).toList 8=some ([.agg [.nil,.agg [.lit (.string []),.nil]]],[],places) :=
 ⟨[],by kernel_rfl⟩
set_option maxRecDepth 100000 in
theorem lifted (os:Os) (started:os.Started) (H:Type) (enc:TypeId × Value→H) (F:Stop.Interp) :
 ReturnsInHanded {} Tryz.checked os 15 .any ((OpenSpec.ofChange Rows.showPartsSpec).preRow enc Tryz.prog Tryz.f15 Rows.showPartsRow.domain false Rows.showPartsRow.laid) (((OpenSpec.ofChange Rows.showPartsSpec).at F).post enc Tryz.prog Tryz.f15 false true false false):=by
 obtain⟨places,hx⟩:=reads os enc;refine returnsInHanded_of_row (C:=Tryz.checked) (s:=OpenSpec.ofChange Rows.showPartsSpec) own started (by kernel_rfl) Tryz.func15
  (witness_row_at (enc:=enc) (C:=Tryz.checked) false (z9u os) #[.agg #[.slice none 0 0,.string ⟨#[]⟩,.slice none 0 0]] rfl (by kernel_rfl) (by kernel_rfl) (by kernel_rfl)
    (OpenSpec.preRow_of_cond 8 hx (by kernel_rfl) (fun k hk=>by cases hk) (by kernel_rfl) (laid_met os _))) ?_
 intro W base args ds gs before hval hW _ _ _ hL _ _;exact contract H enc W base args ds gs before hval hW hL
theorem jf1:(Rows.showPartsRow.inPlace==Tryz.pinned.checked.prog.inPlace 15)=true:=by kernel_rfl
theorem jf2:(Rows.showPartsRow.unfollowed==Tryz.pinned.checked.prog.unfollowed 15)=true:=by kernel_rfl
theorem jf3:(Rows.showPartsRow.recurses==Tryz.pinned.checked.prog.recurses 15)=true:=by kernel_rfl
theorem jf4:(Rows.showPartsRow.named==Tryz.pinned.checked.prog.varsNamed 15)=true:=by kernel_rfl
theorem jf:joinedFacts Tryz.pinned.checked.prog 15 Tryz.f15 (OpenSpec.ofChange Rows.showPartsSpec).bare Rows.showPartsRow=true:=by
 unfold joinedFacts;rw[jf1,jf2,jf3,jf4]
 kernel_rfl
theorem said:Rows.ShowPartsSaid :=
 OpenClaim.holds_of_cond 15 Tryz.f15 rfl rfl rfl rfl rfl rfl rfl ⟨rfl,rfl,rfl,rfl,rfl⟩ rfl rfl rfl rfl rfl (by kernel_rfl) Tryz.func15 jf
  (of_decide_eq_true (by kernel_rfl)) (by unfold Func.isWrapper;first|(rw[if_pos (by decide +kernel)];kernel_rfl)|(rw[if_neg (by decide +kernel)];exact⟨rfl,rfl⟩))
  (fun os started H enc _ F=>by rw[OpenClaim.pre_eq_preRow];exact lifted os started H enc F)
theorem plain (f : FuncId) (fn : Func) (hf : Tryz.pinned.checked.prog.funcNamed "antecedent/antecedentlaw09.ShowParts" = some f) (hfn : Tryz.pinned.checked.prog.funcs[f]? = some fn) :
 true=Tryz.pinned.checked.prog.looks []∧∀(j:Nat) t,fn.params[j]?=some t→Tryz.pinned.checked.prog.wantsStandIn t=false:=by
 obtain rfl : f = 15 := Option.some.inj ((show Tryz.prog.funcNamed "antecedent/antecedentlaw09.ShowParts" = some 15 by kernel_rfl).symm.trans hf) |>.symm
 obtain rfl:fn=Tryz.f15:=(Option.some.inj (Tryz.func15.symm.trans hfn)).symm;refine⟨by kernel_rfl,fun j t ht=>?_⟩;rw[Tryz.params15]at ht;have hm:t ∈ [27]:=by simpa using Array.mem_of_getElem? ht
 have hall:([27].all fun u=>!Tryz.prog.wantsStandIn u)=true:=by kernel_rfl
 exact(show Tryz.prog.wantsStandIn t=false by simpa using List.all_eq_true.1 hall t hm)
theorem card:Rows.ShowPartsCardSaid :=
 Claim7.holds_tied_plain_at .later [] _ _ _ _ said (fun _ h=>by cases h) (by kernel_rfl) (fun _ h=>by cases h) showParts_row_tie rfl ⟨rfl,rfl⟩ (by kernel_rfl) rfl plain (by kernel_rfl)
end Go.Proofs.YthebhbomlllpeaaGreatDoor.showParts
namespace Go.Proofs.YthebhbomlllpeaaGreatDoor
theorem showParts_holds:Rows.ShowPartsCardSaid:=showParts.card
#print axioms showParts_holds
end Go.Proofs.YthebhbomlllpeaaGreatDoor
