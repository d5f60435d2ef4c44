/- The law UnionSteps returns true and leaves its arguments as they were, where they are of bulk at most 1048576. -/
import Derived.Test.YtgobkbeokaaplaaGreatDoorS09
import Derived.Test.YtgobkbeokaaplaaGreatDoorCards
import Derived.Test.YtgobkbeokaaplaaGreatDoorTie
import Derived.WalkKit
import Derived.ProofKit
import Derived.OpenShut
import Derived.Deep.DeepHandedRow
import Derived.SizedLaws
set_option linter.unusedVariables false
set_option maxRecDepth 100000
set_option maxHeartbeats 40000000
namespace Go.Proofs.YtgobkbeokaaplaaGreatDoor.unionSteps
open Go.ChangeShapes Go.WideShapes Go.ChangeAt Go.RowKit Pl Go.Wk
theorem own: ownKnob Tryz.prog.godebug=none:=kr
theorem Qzm: laidOutB Tryz.prog=true:=kr
theorem Xkr(H:Type)(enc:TypeId×Value->H)(W:World)(base:Nat)(args:Array Value)(ds gs:List (DataW H))(before:List MemPlace)(hval0:∀(j:Nat) t v,Tryz.f4.params[j]?=some t->args[j]?=some v->Value.okWide Tryz.prog W .any base t v)(hW:DataW.Whole enc Tryz.prog Tryz.f4.params.toList Rows.unionStepsSpec.vars false W args.toList ds gs before)(hL:laidMetH Tryz.prog Rows.unionStepsUptoRow.laid W)(hk:Rows.uptoSmall H (ds++gs)=true):
  Calls Tryz.prog 4 args W λe W'=>∃ v,e=.returned v/\Rows.unionStepsSpec.post enc Tryz.prog Tryz.f4 false true false false W args v W':=by
 have i:∀(j:Nat) t v,Tryz.f4.params[j]?=some t->args[j]?=some v->Value.okWide Tryz.prog W .any base t v:=hval0;have Z:=hW;obtain⟨p,q,u,hV,rfl,a6,a5⟩:=hW;have hA:DataW.TrodAll enc Tryz.prog W 0 (λ_=>true) true Tryz.f4.params.toList args.toList ds p:=u;rw[Tryz.params4]at hA i;obtain⟨v0,a4,d0,a8,p0,q0,O,rfl,rfl,h0,r0⟩:=trodAll_cons hA;obtain⟨v1,a3,d1,a7,p1,q1,rfl,rfl,rfl,h1,r1⟩:=trodAll_cons r0;obtain⟨rfl,rfl,rfl⟩:=trodAll_nil r1;obtain rfl:args = #[v0,v1]:=by cases args;simp_all
 obtain⟨rfl,rfl⟩:=trodVars_none hV;have J:=oT hk;simp only[List.append_nil,Rows.uptoBulkAll]at J;have k0:=h0;have D:∀ x∈p0,x.block<W.heap.size:=by obtain⟨m,G⟩:=k0;exact DataW.trod_lt m _ _ _ G
 have a2:=Qsk (i 0 22 v0 rfl rfl) h0 om;have k1:=h1;have C:∀ x∈p1,x.block<W.heap.size:=by obtain⟨m,G⟩:=k1;exact DataW.trod_lt m _ _ _ G
 have a1:=Qsh (i 1 59 v1 rfl rfl) h1 om;clear u hval0;refine(Qgf (Qht hL) a2 a1).calls.mono λe W' ⟨v,he,hv,o⟩=>?_;subst he;subst hv;exact⟨_,rfl,_,_,_,[],_,[],Z,trodAll_mk1 (shut_bool Tryz.underlying4 _),(trodAll_cons_mk (Below.trod Qzm kr (oT kr) k0 o D) (trodAll_cons_mk (Below.trod Qzm kr (oT kr) k1 o C) trodAll_mk0)),rfl,o.frame _,λh=>by cases h⟩
noncomputable def Jlp(os:Os): World :=
 { World.holding Tryz.prog os ⟨#[],#[],[]⟩ with heap:=(((World.holding Tryz.prog os ⟨#[],#[],[]⟩).heap.modify 1 (Jlm Rows.laid_internal_strconv_uint64pow10)).modify 2 (Jlm Rows.laid_math_bits_deBruijn32tab)).modify 3 (Jlm Rows.laid_math_bits_deBruijn64tab) }
theorem Xqc(os:Os): laidMet Tryz.prog Rows.unionStepsUptoRow.laid ((Jlp os).forCall (λ_ _=>0) ⟨#[],#[.slice none 0 0,.slice none 0 0],[]⟩).memory :=
 laidMet_of_run' 8 kr kr
theorem reads(os:Os){H:Type}(enc:TypeId×Value->H): ∃ places,DataW.whole enc Tryz.prog ((Jlp os).forCall (λ_ _=>0) ⟨#[],#[.slice none 0 0,.slice none 0 0],[]⟩).memory Tryz.f4.params.toList Rows.unionStepsSpec.vars false (#[.slice none 0 0,.slice none 0 0]:Array Value).toList 8=some ([.nil,.nil],[],places) :=
 ⟨[],kr⟩
theorem Xjw(os:Os)(started:os.Started)(H:Type)(enc:TypeId×Value->H)(F:Stop.Interp):
  ReturnsInHanded {} Tryz.checked os 4 .any ((Rows.OpenSpec.upto Rows.unionStepsSpec).preRow enc Tryz.prog Tryz.f4 Rows.unionStepsUptoRow.domain false Rows.unionStepsUptoRow.laid) (((Rows.OpenSpec.upto Rows.unionStepsSpec).at F).post enc Tryz.prog Tryz.f4 false true false false):=by
 obtain⟨u,D⟩:=reads os enc;refine returnsInHanded_of_row (C:=Tryz.checked) (s:=Rows.OpenSpec.upto Rows.unionStepsSpec) own started kr Tryz.func4
  (witness_row_at (enc:=enc) (C:=Tryz.checked) false (Jlp os) #[.slice none 0 0,.slice none 0 0] rfl kr kr kr
   (OpenSpec.preRow_of_cond 8 D kr (λk G=>by cases G;kernel_rfl) kr (Xqc os))) ?_
 intro W base o ds gs before j J _ i _ O _ _;exact Xkr H enc W base o ds gs before j J O (i _ rfl)
theorem Xwx: joinedFacts Tryz.pinned.checked.prog 4 Tryz.f4 (Rows.OpenSpec.upto Rows.unionStepsSpec).bare Rows.unionStepsUptoRow=true:=by
 unfold joinedFacts;simp only[Bool.and_eq_true];and_intros
 all_goals (as_aux_lemma=>kernel_rfl)
theorem Xxj: Tryz.f4.isInstance Tryz.pinned.checked.prog Rows.unionStepsUptoRow.origin Rows.unionStepsUptoRow.targs:=oT kr
theorem Qdv: Tryz.f4.isWrapper Tryz.pinned.checked.prog Rows.unionStepsUptoRow.wrapper Rows.unionStepsUptoRow.mainSum:=by unfold Func.isWrapper;first|(rw[if_pos (by decide +kernel)];kernel_rfl)|(rw[if_neg (by decide +kernel)];exact⟨rfl,rfl⟩)
theorem said: Rows.UnionStepsUptoSaid :=
 OpenClaim.holds_of_cond 4 Tryz.f4 rfl rfl rfl rfl rfl rfl rfl ⟨rfl,rfl,rfl,rfl,rfl⟩ rfl rfl rfl rfl rfl kr Tryz.func4 Xwx Xxj Qdv
  (λj i H enc _ F=>by rw[OpenClaim.pre_eq_preRow];exact Xjw j i H enc F)
theorem plain(f:FuncId)(fn:Func)(hf:Tryz.pinned.checked.prog.funcNamed "ordinal/ordinallaw48.UnionSteps" = some f)(hfn:Tryz.pinned.checked.prog.funcs[f]?=some fn):
  false=Tryz.pinned.checked.prog.looks []/\∀(j:Nat) t,fn.params[j]?=some t->Tryz.pinned.checked.prog.wantsStandIn t=false:=by
 obtain rfl:f=4:=Option.some.inj ((show Tryz.prog.funcNamed "ordinal/ordinallaw48.UnionSteps" = some 4 by kernel_rfl).symm.trans hf) |>.symm;obtain rfl:fn=Tryz.f4:=(Option.some.inj (Tryz.func4.symm.trans hfn)).symm;refine⟨kr,λj t ht=>?_⟩;rw[Tryz.params4]at ht;have i:=Array.mem_of_getElem? ht;simp only[List.mem_toArray,List.mem_cons,List.not_mem_nil,or_false]at i;rcases i with rfl|rfl
 .exact(show Tryz.prog.wantsStandIn 22=false by kernel_rfl)
 exact(show Tryz.prog.wantsStandIn 59=false by kernel_rfl)
theorem proved: Rows.UnionStepsUptoCardSaid :=
 Claim7.holds_tied_plain_at .later [] _ _ _ _ said (λ_ h=>by cases h) kr (λ_ h=>by cases h) unionStepsUpto_row_tie rfl ⟨rfl,rfl⟩ kr rfl plain kr
#print axioms proved
end Go.Proofs.YtgobkbeokaaplaaGreatDoor.unionSteps
