/- The law UnionRefuses returns true and leaves its arguments as they were, where they are of bulk at most 1048576. -/
import Derived.Test.YtgobkbeokaaplaaGreatDoorR09
import Derived.Test.YtgobkbeokaaplaaGreatDoorCards
import Derived.Test.YtgobkbeokaaplaaGreatDoorTie
import Derived.WalkKit
import Derived.ProofKit
import Derived.OpenShut
import Derived.Deep.DeepHandedRow
import Derived.SizedLaws
set_option linter.unusedVariables false
set_option maxRecDepth 100000
set_option maxHeartbeats 40000000
namespace Go.Proofs.YtgobkbeokaaplaaGreatDoor.unionRefuses
open Go.ChangeShapes Go.WideShapes Go.ChangeAt Go.RowKit Pl Go.Wk
theorem own: ownKnob Tryz.prog.godebug=none:=kr
theorem Xqn: laidOutB Tryz.prog=true:=kr
theorem Xwg(H:Type)(enc:TypeId×Value->H)(W:World)(base:Nat)(args:Array Value)(ds gs:List (DataW H))(before:List MemPlace)(hval0:∀(j:Nat) t v,Tryz.f3.params[j]?=some t->args[j]?=some v->Value.okWide Tryz.prog W .any base t v)(hW:DataW.Whole enc Tryz.prog Tryz.f3.params.toList Rows.unionRefusesSpec.vars false W args.toList ds gs before)(hL:laidMetH Tryz.prog Rows.unionRefusesUptoRow.laid W)(hk:Rows.uptoSmall H (ds++gs)=true):
  Calls Tryz.prog 3 args W λe W'=>∃ v,e=.returned v/\Rows.unionRefusesSpec.post enc Tryz.prog Tryz.f3 false true false false W args v W':=by
 have i:∀(j:Nat) t v,Tryz.f3.params[j]?=some t->args[j]?=some v->Value.okWide Tryz.prog W .any base t v:=hval0;have O:=hW;obtain⟨p,q,u,hV,rfl,a4,a3⟩:=hW;have hA:DataW.TrodAll enc Tryz.prog W 0 (λ_=>true) true Tryz.f3.params.toList args.toList ds p:=u;rw[Tryz.params3]at hA i;obtain⟨v0,a2,d0,a6,p0,q0,J,rfl,rfl,h0,r0⟩:=trodAll_cons hA;obtain⟨v1,a1,d1,a5,p1,q1,rfl,rfl,rfl,h1,r1⟩:=trodAll_cons r0;obtain⟨rfl,rfl,rfl⟩:=trodAll_nil r1;obtain rfl:args = #[v0,v1]:=by cases args;simp_all
 obtain⟨rfl,rfl⟩:=trodVars_none hV;have G:=oT hk;simp only[List.append_nil,Rows.uptoBulkAll]at G;have k0:=h0;have D:∀ x∈p0,x.block<W.heap.size:=by obtain⟨m,hm⟩:=k0;exact DataW.trod_lt m _ _ _ hm
 have Z:=Qsw (i 0 22 v0 rfl rfl) h0 om;obtain⟨x1,rfl,rfl,rfl,o⟩:=open_int Tryz.underlying23 (i 1 23 v1 rfl rfl) h1;clear u hval0;refine(Qgv (Qlq hL) Z (bounds_i8 o)).calls.mono λe W' ⟨v,he,hv,C⟩=>?_;subst he;subst hv;exact⟨_,rfl,_,_,_,[],_,[],O,trodAll_mk1 (shut_bool Tryz.underlying4 _),(trodAll_cons_mk (Below.trod Xqn kr (oT kr) k0 C D) (trodAll_cons_mk (shut_int Tryz.underlying23 o) trodAll_mk0)),rfl,C.frame _,λh=>by cases h⟩
noncomputable def Jlq(os:Os): World :=
 { World.holding Tryz.prog os ⟨#[],#[],[]⟩ with heap:=(((World.holding Tryz.prog os ⟨#[],#[],[]⟩).heap.modify 1 (Jln Rows.laid_internal_strconv_uint64pow10)).modify 2 (Jln Rows.laid_math_bits_deBruijn32tab)).modify 3 (Jln Rows.laid_math_bits_deBruijn64tab) }
theorem Xqm(os:Os): laidMet Tryz.prog Rows.unionRefusesUptoRow.laid ((Jlq os).forCall (λ_ _=>0) ⟨#[],#[.slice none 0 0,.int .i8 0],[]⟩).memory :=
 laidMet_of_run' 8 kr kr
theorem reads(os:Os){H:Type}(enc:TypeId×Value->H): ∃ places,DataW.whole enc Tryz.prog ((Jlq os).forCall (λ_ _=>0) ⟨#[],#[.slice none 0 0,.int .i8 0],[]⟩).memory Tryz.f3.params.toList Rows.unionRefusesSpec.vars false (#[.slice none 0 0,.int .i8 0]:Array Value).toList 8=some ([.nil,.lit (.int .i8 0)],[],places) :=
 ⟨[],kr⟩
theorem Xqj(os:Os)(started:os.Started)(H:Type)(enc:TypeId×Value->H)(F:Stop.Interp):
  ReturnsInHanded {} Tryz.checked os 3 .any ((Rows.OpenSpec.upto Rows.unionRefusesSpec).preRow enc Tryz.prog Tryz.f3 Rows.unionRefusesUptoRow.domain false Rows.unionRefusesUptoRow.laid) (((Rows.OpenSpec.upto Rows.unionRefusesSpec).at F).post enc Tryz.prog Tryz.f3 false true false false):=by
 obtain⟨u,D⟩:=reads os enc;refine returnsInHanded_of_row (C:=Tryz.checked) (s:=Rows.OpenSpec.upto Rows.unionRefusesSpec) own started kr Tryz.func3
  (witness_row_at (enc:=enc) (C:=Tryz.checked) false (Jlq os) #[.slice none 0 0,.int .i8 0] rfl kr kr kr
   (OpenSpec.preRow_of_cond 8 D kr (λk G=>by cases G;kernel_rfl) kr (Xqm os))) ?_
 intro W base o ds gs before j J _ i _ O _ _;exact Xwg H enc W base o ds gs before j J O (i _ rfl)
theorem Xvm: joinedFacts Tryz.pinned.checked.prog 3 Tryz.f3 (Rows.OpenSpec.upto Rows.unionRefusesSpec).bare Rows.unionRefusesUptoRow=true:=by
 unfold joinedFacts;simp only[Bool.and_eq_true];and_intros
 all_goals (as_aux_lemma=>kernel_rfl)
theorem Xxs: Tryz.f3.isInstance Tryz.pinned.checked.prog Rows.unionRefusesUptoRow.origin Rows.unionRefusesUptoRow.targs:=oT kr
theorem Qfn: Tryz.f3.isWrapper Tryz.pinned.checked.prog Rows.unionRefusesUptoRow.wrapper Rows.unionRefusesUptoRow.mainSum:=by unfold Func.isWrapper;first|(rw[if_pos (by decide +kernel)];kernel_rfl)|(rw[if_neg (by decide +kernel)];exact⟨rfl,rfl⟩)
theorem said: Rows.UnionRefusesUptoSaid :=
 OpenClaim.holds_of_cond 3 Tryz.f3 rfl rfl rfl rfl rfl rfl rfl ⟨rfl,rfl,rfl,rfl,rfl⟩ rfl rfl rfl rfl rfl kr Tryz.func3 Xvm Xxs Qfn
  (λj i H enc _ F=>by rw[OpenClaim.pre_eq_preRow];exact Xqj j i H enc F)
theorem plain(f:FuncId)(fn:Func)(hf:Tryz.pinned.checked.prog.funcNamed "ordinal/ordinallaw48.UnionRefuses" = some f)(hfn:Tryz.pinned.checked.prog.funcs[f]?=some fn):
  false=Tryz.pinned.checked.prog.looks []/\∀(j:Nat) t,fn.params[j]?=some t->Tryz.pinned.checked.prog.wantsStandIn t=false:=by
 obtain rfl:f=3:=Option.some.inj ((show Tryz.prog.funcNamed "ordinal/ordinallaw48.UnionRefuses" = some 3 by kernel_rfl).symm.trans hf) |>.symm;obtain rfl:fn=Tryz.f3:=(Option.some.inj (Tryz.func3.symm.trans hfn)).symm;refine⟨kr,λj t ht=>?_⟩;rw[Tryz.params3]at ht;have i:=Array.mem_of_getElem? ht;simp only[List.mem_toArray,List.mem_cons,List.not_mem_nil,or_false]at i;rcases i with rfl|rfl
 .exact(show Tryz.prog.wantsStandIn 22=false by kernel_rfl)
 exact(show Tryz.prog.wantsStandIn 23=false by kernel_rfl)
theorem proved: Rows.UnionRefusesUptoCardSaid :=
 Claim7.holds_tied_plain_at .later [] _ _ _ _ said (λ_ h=>by cases h) kr (λ_ h=>by cases h) unionRefusesUpto_row_tie rfl ⟨rfl,rfl⟩ kr rfl plain kr
#print axioms proved
end Go.Proofs.YtgobkbeokaaplaaGreatDoor.unionRefuses
