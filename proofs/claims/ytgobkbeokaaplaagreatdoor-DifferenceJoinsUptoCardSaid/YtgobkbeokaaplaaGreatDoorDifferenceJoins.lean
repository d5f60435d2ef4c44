/- The law DifferenceJoins returns true and leaves its arguments as they were, where they are of bulk at most 1048576. -/
import Derived.Test.YtgobkbeokaaplaaGreatDoorD08
import Derived.Test.YtgobkbeokaaplaaGreatDoorCards
import Derived.Test.YtgobkbeokaaplaaGreatDoorTie
import Derived.WalkKit
import Derived.ProofKit
import Derived.OpenShut
import Derived.Deep.DeepHandedRow
import Derived.SizedLaws
set_option linter.unusedVariables false
set_option maxRecDepth 100000
set_option maxHeartbeats 40000000
namespace Go.Proofs.YtgobkbeokaaplaaGreatDoor.differenceJoins
open Go.ChangeShapes Go.WideShapes Go.ChangeAt Go.RowKit Pl Go.Wk
theorem own: ownKnob Tryz.prog.godebug=none:=kr
theorem Qxp: laidOutB Tryz.prog=true:=kr
theorem Xqx(H:Type)(enc:TypeId×Value->H)(W:World)(base:Nat)(args:Array Value)(ds gs:List (DataW H))(before:List MemPlace)(hval0:∀(j:Nat) t v,Tryz.f8.params[j]?=some t->args[j]?=some v->Value.okWide Tryz.prog W .any base t v)(hW:DataW.Whole enc Tryz.prog Tryz.f8.params.toList Rows.differenceJoinsSpec.vars false W args.toList ds gs before)(hL:laidMetH Tryz.prog Rows.differenceJoinsUptoRow.laid W)(hk:Rows.uptoSmall H (ds++gs)=true):
  Calls Tryz.prog 8 args W λe W'=>∃ v,e=.returned v/\Rows.differenceJoinsSpec.post enc Tryz.prog Tryz.f8 false true false false W args v W':=by
 have i:∀(j:Nat) t v,Tryz.f8.params[j]?=some t->args[j]?=some v->Value.okWide Tryz.prog W .any base t v:=hval0;have a2:=hW;obtain⟨p,q,D,hV,rfl,a8,a7⟩:=hW;have hA:DataW.TrodAll enc Tryz.prog W 0 (λ_=>true) true Tryz.f8.params.toList args.toList ds p:=D;rw[Tryz.params8]at hA i;obtain⟨v0,a6,d0,aa,p0,q0,a1,rfl,rfl,h0,r0⟩:=trodAll_cons hA;obtain⟨v1,a5,d1,a9,p1,q1,rfl,rfl,rfl,h1,r1⟩:=trodAll_cons r0;obtain⟨rfl,rfl,rfl⟩:=trodAll_nil r1;obtain rfl:args = #[v0,v1]:=by cases args;simp_all
 obtain⟨rfl,rfl⟩:=trodVars_none hV;have Z:=oT hk;simp only[List.append_nil,Rows.uptoBulkAll]at Z;have k0:=h0;have J:∀ x∈p0,x.block<W.heap.size:=by obtain⟨m,O⟩:=k0;exact DataW.trod_lt m _ _ _ O
 have a4:=Qnq (i 0 30 v0 rfl rfl) h0 om;have k1:=h1;have G:∀ x∈p1,x.block<W.heap.size:=by obtain⟨m,O⟩:=k1;exact DataW.trod_lt m _ _ _ O
 have a3:=Qnj (i 1 113 v1 rfl rfl) h1;clear D hval0;refine(Xqk (Qfc hL) a4 a3).calls.mono λe W' ⟨v,he,hv,u⟩=>?_;subst he;subst hv;exact⟨_,rfl,_,_,_,[],_,[],a2,trodAll_mk1 (shut_bool Tryz.underlying4 _),(trodAll_cons_mk (Below.trod Qxp kr (oT kr) k0 u J) (trodAll_cons_mk (Below.trod Qxp kr (oT kr) k1 u G) trodAll_mk0)),rfl,u.frame _,λh=>by cases h⟩
noncomputable def Jhv(os:Os): World :=
 { World.holding Tryz.prog os ⟨#[],#[],[]⟩ with heap:=(((World.holding Tryz.prog os ⟨#[],#[],[]⟩).heap.modify 1 (Jhs Rows.laid_internal_strconv_uint64pow10)).modify 2 (Jhs Rows.laid_math_bits_deBruijn32tab)).modify 3 (Jhs Rows.laid_math_bits_deBruijn64tab) }
theorem Qsf(os:Os): laidMet Tryz.prog Rows.differenceJoinsUptoRow.laid ((Jhv os).forCall (λ_ _=>0) ⟨#[],#[.agg #[.int .i64 0,.int .i64 0,.slice none 0 0,.slice none 0 0,.slice none 0 0,.slice none 0 0],.slice none 0 0],[]⟩).memory :=
 laidMet_of_run' 8 kr kr
theorem reads(os:Os){H:Type}(enc:TypeId×Value->H): ∃ places,DataW.whole enc Tryz.prog ((Jhv os).forCall (λ_ _=>0) ⟨#[],#[.agg #[.int .i64 0,.int .i64 0,.slice none 0 0,.slice none 0 0,.slice none 0 0,.slice none 0 0],.slice none 0 0],[]⟩).memory Tryz.f8.params.toList Rows.differenceJoinsSpec.vars false (#[.agg #[.int .i64 0,.int .i64 0,.slice none 0 0,.slice none 0 0,.slice none 0 0,.slice none 0 0],.slice none 0 0]:Array Value).toList 8=some ([.agg [.lit (.int .i64 0),.lit (.int .i64 0),.nil,.nil,.nil,.nil],.nil],[],places) :=
 ⟨[],kr⟩
theorem Qrw(os:Os)(started:os.Started)(H:Type)(enc:TypeId×Value->H)(F:Stop.Interp):
  ReturnsInHanded {} Tryz.checked os 8 .any ((Rows.OpenSpec.upto Rows.differenceJoinsSpec).preRow enc Tryz.prog Tryz.f8 Rows.differenceJoinsUptoRow.domain false Rows.differenceJoinsUptoRow.laid) (((Rows.OpenSpec.upto Rows.differenceJoinsSpec).at F).post enc Tryz.prog Tryz.f8 false true false false):=by
 obtain⟨D,G⟩:=reads os enc;refine returnsInHanded_of_row (C:=Tryz.checked) (s:=Rows.OpenSpec.upto Rows.differenceJoinsSpec) own started kr Tryz.func8
  (witness_row_at (enc:=enc) (C:=Tryz.checked) false (Jhv os) #[.agg #[.int .i64 0,.int .i64 0,.slice none 0 0,.slice none 0 0,.slice none 0 0,.slice none 0 0],.slice none 0 0] rfl kr kr kr
   (OpenSpec.preRow_of_cond 8 G kr (λk J=>by cases J;kernel_rfl) kr (Qsf os))) ?_
 intro W base u ds gs before j O _ i _ Z _ _;exact Xqx H enc W base u ds gs before j O Z (i _ rfl)
theorem Xzc: joinedFacts Tryz.pinned.checked.prog 8 Tryz.f8 (Rows.OpenSpec.upto Rows.differenceJoinsSpec).bare Rows.differenceJoinsUptoRow=true:=by
 unfold joinedFacts;simp only[Bool.and_eq_true];and_intros
 all_goals (as_aux_lemma=>kernel_rfl)
theorem Qtc: Tryz.f8.isInstance Tryz.pinned.checked.prog Rows.differenceJoinsUptoRow.origin Rows.differenceJoinsUptoRow.targs:=oT kr
theorem Qbv: Tryz.f8.isWrapper Tryz.pinned.checked.prog Rows.differenceJoinsUptoRow.wrapper Rows.differenceJoinsUptoRow.mainSum:=by unfold Func.isWrapper;first|(rw[if_pos (by decide +kernel)];kernel_rfl)|(rw[if_neg (by decide +kernel)];exact⟨rfl,rfl⟩)
theorem said: Rows.DifferenceJoinsUptoSaid :=
 OpenClaim.holds_of_cond 8 Tryz.f8 rfl rfl rfl rfl rfl rfl rfl ⟨rfl,rfl,rfl,rfl,rfl⟩ rfl rfl rfl rfl rfl kr Tryz.func8 Xzc Qtc Qbv
  (λj i H enc _ F=>by rw[OpenClaim.pre_eq_preRow];exact Qrw j i H enc F)
theorem plain(f:FuncId)(fn:Func)(hf:Tryz.pinned.checked.prog.funcNamed "ordinal/ordinallaw47.DifferenceJoins" = some f)(hfn:Tryz.pinned.checked.prog.funcs[f]?=some fn):
  false=Tryz.pinned.checked.prog.looks []/\∀(j:Nat) t,fn.params[j]?=some t->Tryz.pinned.checked.prog.wantsStandIn t=false:=by
 obtain rfl:f=8:=Option.some.inj ((show Tryz.prog.funcNamed "ordinal/ordinallaw47.DifferenceJoins" = some 8 by kernel_rfl).symm.trans hf) |>.symm;obtain rfl:fn=Tryz.f8:=(Option.some.inj (Tryz.func8.symm.trans hfn)).symm;refine⟨kr,λj t ht=>?_⟩;rw[Tryz.params8]at ht;have i:=Array.mem_of_getElem? ht;simp only[List.mem_toArray,List.mem_cons,List.not_mem_nil,or_false]at i;rcases i with rfl|rfl
 .exact(show Tryz.prog.wantsStandIn 30=false by kernel_rfl)
 exact(show Tryz.prog.wantsStandIn 113=false by kernel_rfl)
theorem proved: Rows.DifferenceJoinsUptoCardSaid :=
 Claim7.holds_tied_plain_at .later [] _ _ _ _ said (λ_ h=>by cases h) kr (λ_ h=>by cases h) differenceJoinsUpto_row_tie rfl ⟨rfl,rfl⟩ kr rfl plain kr
#print axioms proved
end Go.Proofs.YtgobkbeokaaplaaGreatDoor.differenceJoins
