/-
  The statement ShowAgain, for every input.
-/
import Derived.Test.YthebhbomlllpeaaGreatDoorZShowAgain9
set_option linter.unusedVariables false
set_option linter.unusedSimpArgs false
namespace Go.Proofs.YthebhbomlllpeaaGreatDoor.showAgain
open Go.ChangeShapes Go.WideShapes Go.ChangeAt Go.RowKit Go.Proofs.YthebhbomlllpeaaGreatDoor.X
open Go.ChangeMaps (open_string shut_string)
set_option maxRecDepth 100000 in
theorem contract (H:Type) (enc:TypeId × Value→H) (W:World) (base:Nat) (args:Array Value) (ds gs:List (DataW H)) (before:List MemPlace)
 (hval:∀(j:Nat) t v,Tryz.f14.params[j]?=some t→args[j]?=some v→Value.okWide Tryz.prog W .any base t v)
 (hW:DataW.Whole enc Tryz.prog Tryz.f14.params.toList Rows.showAgainSpec.vars false W args.toList ds gs before) (hL:laidMetH Tryz.prog Rows.showAgainRow.laid W) :
 Calls Tryz.prog 14 args W fun e W'=>∃v,e=.returned v∧Rows.showAgainSpec.post enc Tryz.prog Tryz.f14 false true false false W args v W':=by
 have hW':=hW;obtain⟨p,q,hA0,hV,rfl,hfz,hnd⟩:=hW;have hA:DataW.TrodAll enc Tryz.prog W 0 (fun _=>true) true Tryz.f14.params.toList args.toList ds p:=hA0;rw[Tryz.params14]at hA hval;obtain⟨v0,vs0,d0,ds0,p0,q0,hargs,rfl,rfl,h0,r0⟩:=trodAll_cons hA;obtain⟨rfl,rfl,rfl⟩:=trodAll_nil r0;obtain rfl:args=#[v0]:=by cases args;simp_all
 obtain⟨rfl,rfl⟩:=trodVars_none hV;have lt0:∀x ∈ p0,x.block<W.heap.size:=by obtain⟨m,hm⟩:=h0;exact DataW.trod_lt m _ _ _ hm
 have g0:=h0;obtain⟨x0,rfl,rfl,rfl,hb0⟩:=open_string Tryz.underlying9 (hval 0 9 v0 rfl rfl) h0;clear hA0;simp only[List.append_nil]at hW';obtain⟨k,hk⟩:=zd3 x0 hb0;refine(z2p.calls k x0 true W (laidW_of hL)  hk).mono ?_;rintro e W' ⟨rfl,bel⟩;exact⟨_,rfl,_,_,_,[],_,[],hW',trodAll_mk1 (shut_bool Tryz.underlying4 _),(trodAll_cons_mk (shut_string Tryz.underlying9 hb0) trodAll_mk0),rfl,bel.frame _,fun h=>by cases h⟩
theorem reads (os:Os) {H:Type} (enc:TypeId × Value→H):∃places,DataW.whole enc Tryz.prog ((zag os).forCall (fun _ _=>0) ⟨#[],#[.string ⟨#[]⟩],[]⟩).memory Tryz.f14.params.toList Rows.showAgainSpec.vars false (#[.string ⟨#[]⟩]:Array Value).toList 8=some ([.lit (.string [])],[],places) :=
 ⟨[],by kernel_rfl⟩
set_option maxRecDepth 100000 in
theorem lifted (os:Os) (started:os.Started) (H:Type) (enc:TypeId × Value→H) (F:Stop.Interp) :
 ReturnsInHanded {} Tryz.checked os 14 .any ((OpenSpec.ofChange Rows.showAgainSpec).preRow enc Tryz.prog Tryz.f14 Rows.showAgainRow.domain false Rows.showAgainRow.laid) (((OpenSpec.ofChange Rows.showAgainSpec).at F).post enc Tryz.prog Tryz.f14 false true false false):=by
 obtain⟨places,hx⟩:=reads os enc;refine returnsInHanded_of_row (C:=Tryz.checked) (s:=OpenSpec.ofChange Rows.showAgainSpec) own started (by kernel_rfl) Tryz.func14
  (witness_row_at (enc:=enc) (C:=Tryz.checked) false (zag os) #[.string ⟨#[]⟩] rfl (by kernel_rfl) (by kernel_rfl) (by kernel_rfl)
    (OpenSpec.preRow_of_cond 8 hx (by kernel_rfl) (fun k hk=>by cases hk) (by kernel_rfl) (laid_met os _))) ?_
 intro W base args ds gs before hval hW _ _ _ hL _ _;exact contract H enc W base args ds gs before hval hW hL
theorem jf1:(Rows.showAgainRow.inPlace==Tryz.pinned.checked.prog.inPlace 14)=true:=by kernel_rfl
theorem jf2:(Rows.showAgainRow.unfollowed==Tryz.pinned.checked.prog.unfollowed 14)=true:=by kernel_rfl
theorem jf3:(Rows.showAgainRow.recurses==Tryz.pinned.checked.prog.recurses 14)=true:=by kernel_rfl
theorem jf4:(Rows.showAgainRow.named==Tryz.pinned.checked.prog.varsNamed 14)=true:=by kernel_rfl
theorem jf:joinedFacts Tryz.pinned.checked.prog 14 Tryz.f14 (OpenSpec.ofChange Rows.showAgainSpec).bare Rows.showAgainRow=true:=by
 unfold joinedFacts;rw[jf1,jf2,jf3,jf4]
 kernel_rfl
theorem said:Rows.ShowAgainSaid :=
 OpenClaim.holds_of_cond 14 Tryz.f14 rfl rfl rfl rfl rfl rfl rfl ⟨rfl,rfl,rfl,rfl,rfl⟩ rfl rfl rfl rfl rfl (by kernel_rfl) Tryz.func14 jf
  (of_decide_eq_true (by kernel_rfl)) (by unfold Func.isWrapper;first|(rw[if_pos (by decide +kernel)];kernel_rfl)|(rw[if_neg (by decide +kernel)];exact⟨rfl,rfl⟩))
  (fun os started H enc _ F=>by rw[OpenClaim.pre_eq_preRow];exact lifted os started H enc F)
theorem plain (f : FuncId) (fn : Func) (hf : Tryz.pinned.checked.prog.funcNamed "antecedent/antecedentlaw09.ShowAgain" = some f) (hfn : Tryz.pinned.checked.prog.funcs[f]? = some fn) :
 true=Tryz.pinned.checked.prog.looks []∧∀(j:Nat) t,fn.params[j]?=some t→Tryz.pinned.checked.prog.wantsStandIn t=false:=by
 obtain rfl : f = 14 := Option.some.inj ((show Tryz.prog.funcNamed "antecedent/antecedentlaw09.ShowAgain" = some 14 by kernel_rfl).symm.trans hf) |>.symm
 obtain rfl:fn=Tryz.f14:=(Option.some.inj (Tryz.func14.symm.trans hfn)).symm;refine⟨by kernel_rfl,fun j t ht=>?_⟩;rw[Tryz.params14]at ht;have hm:t ∈ [9]:=by simpa using Array.mem_of_getElem? ht
 have hall:([9].all fun u=>!Tryz.prog.wantsStandIn u)=true:=by kernel_rfl
 exact(show Tryz.prog.wantsStandIn t=false by simpa using List.all_eq_true.1 hall t hm)
theorem card:Rows.ShowAgainCardSaid :=
 Claim7.holds_tied_plain_at .later [] _ _ _ _ said (fun _ h=>by cases h) (by kernel_rfl) (fun _ h=>by cases h) showAgain_row_tie rfl ⟨rfl,rfl⟩ (by kernel_rfl) rfl plain (by kernel_rfl)
end Go.Proofs.YthebhbomlllpeaaGreatDoor.showAgain
namespace Go.Proofs.YthebhbomlllpeaaGreatDoor
theorem showAgain_holds:Rows.ShowAgainCardSaid:=showAgain.card
#print axioms showAgain_holds
end Go.Proofs.YthebhbomlllpeaaGreatDoor
