/- For every input the law WalkNone returns true, and its arguments read afterwards as they read before. No condition. -/
import Derived.Test.YtefpailelagbkaaGreatDoorKno45
import Derived.Test.YtefpailelagbkaaGreatDoorCards
import Derived.Test.YtefpailelagbkaaGreatDoorTie
import Derived.WalkKit
import Derived.ProofKit
import Derived.OpenShut
import Derived.Deep.DeepHandedRow
import Derived.SizedLaws
set_option linter.unusedVariables false
set_option maxRecDepth 100000
set_option maxHeartbeats 40000000
namespace Go.Proofs.YtefpailelagbkaaGreatDoor.walkNone
open Go.ChangeShapes Go.WideShapes Go.ChangeAt Go.RowKit Pl Go.Wk
theorem own: ownKnob Tryz.prog.godebug=none:=by kernel_rfl
theorem laidOut: laidOutB Tryz.prog=true:=by kernel_rfl
theorem contract(H:Type)(enc:TypeId×Value->H)(W:World)(base:Nat)(args:Array Value)(ds gs:List (DataW H))(before:List MemPlace)(hval0:∀ (j:Nat) t v,Tryz.f10.params[j]?=some t->args[j]?=some v->Value.okWide Tryz.prog W .any base t v)(hW:DataW.Whole enc Tryz.prog Tryz.f10.params.toList Rows.walkNoneSpec.vars false W args.toList ds gs before)(hL:laidMetH Tryz.prog Rows.walkNoneRow.laid W):
  Calls Tryz.prog 10 args W λe W'=>∃ v,e=.returned v/\Rows.walkNoneSpec.post enc Tryz.prog Tryz.f10 false true false false W args v W':=by
 have i:∀ (j:Nat) t v,Tryz.f10.params[j]?=some t->args[j]?=some v->Value.okWide Tryz.prog W .any base t v:=hval0;have D:=hW;obtain ⟨p,q,u,hV,rfl,a2,a1⟩:=hW;have J:DataW.TrodAll enc Tryz.prog W 0 (λ_=>true) true Tryz.f10.params.toList args.toList ds p:=u;rw [Tryz.params10]at J i;obtain ⟨v0,O,d0,a3,p0,q0,C,rfl,rfl,h0,U⟩:=trodAll_cons J;obtain ⟨rfl,rfl,rfl⟩:=trodAll_nil U;obtain rfl:args = #[v0]:=by cases args;simp_all
 obtain ⟨rfl,rfl⟩:=trodVars_none hV;obtain ⟨x0,rfl,rfl,rfl,o⟩:=open_int Tryz.underlying5 (i 0 5 v0 rfl rfl) h0;clear u hval0;refine (walkNone_any (tb_of_laid hL) (bounds_u8 o)).calls.mono λe W' ⟨v,he,Z,G⟩=>?_;subst he;subst Z;exact ⟨_,rfl,_,_,_,[],_,[],D,trodAll_mk1 (shut_bool Tryz.underlying4 _),(trodAll_cons_mk (shut_int Tryz.underlying5 o) trodAll_mk0),rfl,G.frame _,λh=>by cases h⟩
noncomputable def laidWorld(os:Os): World :=
 { World.holding Tryz.prog os ⟨#[],#[],[]⟩ with heap:=(((World.holding Tryz.prog os ⟨#[],#[],[]⟩).heap.modify 1 (layOn Rows.laid_internal_strconv_uint64pow10)).modify 2 (layOn Rows.laid_math_bits_deBruijn32tab)).modify 3 (layOn Rows.laid_math_bits_deBruijn64tab) }
theorem laid_met(os:Os): laidMet Tryz.prog Rows.walkNoneRow.laid ((laidWorld os).forCall (λ_ _=>0) ⟨#[],#[.int .u8 0],[]⟩).memory :=
 laidMet_of_run' 8 (by kernel_rfl) (by kernel_rfl)
theorem reads(os:Os){H:Type}(enc:TypeId×Value->H): ∃ places,DataW.whole enc Tryz.prog ((laidWorld os).forCall (λ_ _=>0) ⟨#[],#[.int .u8 0],[]⟩).memory Tryz.f10.params.toList Rows.walkNoneSpec.vars false (#[.int .u8 0]:Array Value).toList 8=some ([.lit (.int .u8 0)],[],places) :=
 ⟨[],by kernel_rfl⟩
theorem lifted(os:Os)(started:os.Started)(H:Type)(enc:TypeId×Value->H)(F:Stop.Interp):
  ReturnsInHanded {} Tryz.checked os 10 .any ((OpenSpec.ofChange Rows.walkNoneSpec).preRow enc Tryz.prog Tryz.f10 Rows.walkNoneRow.domain false Rows.walkNoneRow.laid) (((OpenSpec.ofChange Rows.walkNoneSpec).at F).post enc Tryz.prog Tryz.f10 false true false false):=by
 obtain ⟨u,G⟩:=reads os enc;refine returnsInHanded_of_row (C:=Tryz.checked) (s:=OpenSpec.ofChange Rows.walkNoneSpec) own started (by kernel_rfl) Tryz.func10
  (witness_row_at (enc:=enc) (C:=Tryz.checked) false (laidWorld os) #[.int .u8 0] rfl (by kernel_rfl) (by kernel_rfl) (by kernel_rfl)
   (OpenSpec.preRow_of_cond 8 G (by kernel_rfl) (λk J=>by cases J) (by kernel_rfl) (laid_met os))) ?_
 intro W base o ds Z i j O _ D _ U _ _;exact contract H enc W base o ds Z i j O U
theorem closed: joinedFacts Tryz.pinned.checked.prog 10 Tryz.f10 (OpenSpec.ofChange Rows.walkNoneSpec).bare Rows.walkNoneRow=true:=by
 unfold joinedFacts;simp only [Bool.and_eq_true];and_intros
 all_goals (as_aux_lemma=>kernel_rfl)
theorem instOk: Tryz.f10.isInstance Tryz.pinned.checked.prog Rows.walkNoneRow.origin Rows.walkNoneRow.targs:=oT (by kernel_rfl)
theorem wrapOk: Tryz.f10.isWrapper Tryz.pinned.checked.prog Rows.walkNoneRow.wrapper Rows.walkNoneRow.mainSum:=by unfold Func.isWrapper;first|(rw [if_pos (by decide +kernel)];kernel_rfl)|(rw [if_neg (by decide +kernel)];exact ⟨rfl,rfl⟩)
theorem said: Rows.WalkNoneSaid :=
 OpenClaim.holds_of_cond 10 Tryz.f10 rfl rfl rfl rfl rfl rfl rfl ⟨rfl,rfl,rfl,rfl,rfl⟩ rfl rfl rfl rfl rfl (by kernel_rfl) Tryz.func10 closed instOk wrapOk
  (λj i H enc _ F=>by rw [OpenClaim.pre_eq_preRow];exact lifted j i H enc F)
theorem plain(f:FuncId)(fn:Func)(hf:Tryz.pinned.checked.prog.funcNamed "ordinal/ordinallaw44.WalkNone" = some f)(hfn:Tryz.pinned.checked.prog.funcs[f]?=some fn):
  false=Tryz.pinned.checked.prog.looks []/\∀ (j:Nat) t,fn.params[j]?=some t->Tryz.pinned.checked.prog.wantsStandIn t=false:=by
 obtain rfl:f=10:=Option.some.inj ((show Tryz.prog.funcNamed "ordinal/ordinallaw44.WalkNone" = some 10 by kernel_rfl).symm.trans hf) |>.symm;obtain rfl:fn=Tryz.f10:=(Option.some.inj (Tryz.func10.symm.trans hfn)).symm;refine ⟨by kernel_rfl,λj t ht=>?_⟩;rw [Tryz.params10]at ht;obtain rfl:t=5:=by simpa using Array.mem_of_getElem? ht
 exact (show Tryz.prog.wantsStandIn 5=false by kernel_rfl)
theorem proved: Rows.WalkNoneCardSaid :=
 Claim7.holds_tied_plain_at .later [] _ _ _ _ said (λ_ h=>by cases h) (by kernel_rfl) (λ_ h=>by cases h) walkNone_row_tie rfl ⟨rfl,rfl⟩ (by kernel_rfl) rfl plain (by kernel_rfl)
#print axioms proved
end Go.Proofs.YtefpailelagbkaaGreatDoor.walkNone
