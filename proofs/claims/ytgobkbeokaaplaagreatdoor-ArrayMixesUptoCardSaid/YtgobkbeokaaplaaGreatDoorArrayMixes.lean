/- The law ArrayMixes returns true and leaves its arguments as they were, where they are of bulk at most 1048576. -/
import Derived.Test.YtgobkbeokaaplaaGreatDoorA08
import Derived.Test.YtgobkbeokaaplaaGreatDoorCards
import Derived.Test.YtgobkbeokaaplaaGreatDoorTie
import Derived.WalkKit
import Derived.ProofKit
import Derived.OpenShut
import Derived.Deep.DeepHandedRow
import Derived.SizedLaws
set_option linter.unusedVariables false
set_option maxRecDepth 100000
set_option maxHeartbeats 40000000
namespace Go.Proofs.YtgobkbeokaaplaaGreatDoor.arrayMixes
open Go.ChangeShapes Go.WideShapes Go.ChangeAt Go.RowKit Pl Go.Wk
theorem own: ownKnob Tryz.prog.godebug=none:=kr
theorem Qqs: laidOutB Tryz.prog=true:=kr
theorem Xqn(H:Type)(enc:TypeId×Value->H)(W:World)(base:Nat)(args:Array Value)(ds gs:List (DataW H))(before:List MemPlace)(hval0:∀(j:Nat) t v,Tryz.f7.params[j]?=some t->args[j]?=some v->Value.okWide Tryz.prog W .any base t v)(hW:DataW.Whole enc Tryz.prog Tryz.f7.params.toList Rows.arrayMixesSpec.vars false W args.toList ds gs before)(hL:laidMetH Tryz.prog Rows.arrayMixesUptoRow.laid W)(hk:Rows.uptoSmall H (ds++gs)=true):
  Calls Tryz.prog 7 args W λe W'=>∃ v,e=.returned v/\Rows.arrayMixesSpec.post enc Tryz.prog Tryz.f7 false true false false W args v W':=by
 have i:∀(j:Nat) t v,Tryz.f7.params[j]?=some t->args[j]?=some v->Value.okWide Tryz.prog W .any base t v:=hval0;have U:=hW;obtain⟨p,q,u,hV,rfl,a5,a4⟩:=hW;have hA:DataW.TrodAll enc Tryz.prog W 0 (λ_=>true) true Tryz.f7.params.toList args.toList ds p:=u;rw[Tryz.params7]at hA i;obtain⟨v0,a3,d0,a7,p0,q0,O,rfl,rfl,h0,r0⟩:=trodAll_cons hA;obtain⟨v1,a2,d1,a6,p1,q1,rfl,rfl,rfl,h1,r1⟩:=trodAll_cons r0;obtain⟨rfl,rfl,rfl⟩:=trodAll_nil r1;obtain rfl:args = #[v0,v1]:=by cases args;simp_all
 obtain⟨rfl,rfl⟩:=trodVars_none hV;have J:=oT hk;simp only[List.append_nil,Rows.uptoBulkAll]at J;have k0:=h0;have D:∀ x∈p0,x.block<W.heap.size:=by obtain⟨m,G⟩:=k0;exact DataW.trod_lt m _ _ _ G
 have a1:=Qnf (i 0 30 v0 rfl rfl) h0 om;have k1:=h1;have C:∀ x∈p1,x.block<W.heap.size:=by obtain⟨m,G⟩:=k1;exact DataW.trod_lt m _ _ _ G
 have Z:=Qmw (i 1 105 v1 rfl rfl) h1;clear u hval0;refine(Xwr (Qdg hL) a1 Z).calls.mono λe W' ⟨v,he,hv,o⟩=>?_;subst he;subst hv;exact⟨_,rfl,_,_,_,[],_,[],U,trodAll_mk1 (shut_bool Tryz.underlying4 _),(trodAll_cons_mk (Below.trod Qqs kr (oT kr) k0 o D) (trodAll_cons_mk (Below.trod Qqs kr (oT kr) k1 o C) trodAll_mk0)),rfl,o.frame _,λh=>by cases h⟩
noncomputable def Jhj(os:Os): World :=
 { World.holding Tryz.prog os ⟨#[],#[],[]⟩ with heap:=(((World.holding Tryz.prog os ⟨#[],#[],[]⟩).heap.modify 1 (Jhg Rows.laid_internal_strconv_uint64pow10)).modify 2 (Jhg Rows.laid_math_bits_deBruijn32tab)).modify 3 (Jhg Rows.laid_math_bits_deBruijn64tab) }
theorem Qsc(os:Os): laidMet Tryz.prog Rows.arrayMixesUptoRow.laid ((Jhj os).forCall (λ_ _=>0) ⟨#[],#[.agg #[.int .i64 0,.int .i64 0,.slice none 0 0,.slice none 0 0,.slice none 0 0,.slice none 0 0],.slice none 0 0],[]⟩).memory :=
 laidMet_of_run' 8 kr kr
theorem reads(os:Os){H:Type}(enc:TypeId×Value->H): ∃ places,DataW.whole enc Tryz.prog ((Jhj os).forCall (λ_ _=>0) ⟨#[],#[.agg #[.int .i64 0,.int .i64 0,.slice none 0 0,.slice none 0 0,.slice none 0 0,.slice none 0 0],.slice none 0 0],[]⟩).memory Tryz.f7.params.toList Rows.arrayMixesSpec.vars false (#[.agg #[.int .i64 0,.int .i64 0,.slice none 0 0,.slice none 0 0,.slice none 0 0,.slice none 0 0],.slice none 0 0]:Array Value).toList 8=some ([.agg [.lit (.int .i64 0),.lit (.int .i64 0),.nil,.nil,.nil,.nil],.nil],[],places) :=
 ⟨[],kr⟩
theorem Qrw(os:Os)(started:os.Started)(H:Type)(enc:TypeId×Value->H)(F:Stop.Interp):
  ReturnsInHanded {} Tryz.checked os 7 .any ((Rows.OpenSpec.upto Rows.arrayMixesSpec).preRow enc Tryz.prog Tryz.f7 Rows.arrayMixesUptoRow.domain false Rows.arrayMixesUptoRow.laid) (((Rows.OpenSpec.upto Rows.arrayMixesSpec).at F).post enc Tryz.prog Tryz.f7 false true false false):=by
 obtain⟨D,G⟩:=reads os enc;refine returnsInHanded_of_row (C:=Tryz.checked) (s:=Rows.OpenSpec.upto Rows.arrayMixesSpec) own started kr Tryz.func7
  (witness_row_at (enc:=enc) (C:=Tryz.checked) false (Jhj os) #[.agg #[.int .i64 0,.int .i64 0,.slice none 0 0,.slice none 0 0,.slice none 0 0,.slice none 0 0],.slice none 0 0] rfl kr kr kr
   (OpenSpec.preRow_of_cond 8 G kr (λk J=>by cases J;kernel_rfl) kr (Qsc os))) ?_
 intro W base u ds Z i o O _ j _ U _ _;exact Xqn H enc W base u ds Z i o O U (j _ rfl)
theorem Xxt: joinedFacts Tryz.pinned.checked.prog 7 Tryz.f7 (Rows.OpenSpec.upto Rows.arrayMixesSpec).bare Rows.arrayMixesUptoRow=true:=by
 unfold joinedFacts;simp only[Bool.and_eq_true];and_intros
 all_goals (as_aux_lemma=>kernel_rfl)
theorem Qtb: Tryz.f7.isInstance Tryz.pinned.checked.prog Rows.arrayMixesUptoRow.origin Rows.arrayMixesUptoRow.targs:=oT kr
theorem Qyx: Tryz.f7.isWrapper Tryz.pinned.checked.prog Rows.arrayMixesUptoRow.wrapper Rows.arrayMixesUptoRow.mainSum:=by unfold Func.isWrapper;first|(rw[if_pos (by decide +kernel)];kernel_rfl)|(rw[if_neg (by decide +kernel)];exact⟨rfl,rfl⟩)
theorem said: Rows.ArrayMixesUptoSaid :=
 OpenClaim.holds_of_cond 7 Tryz.f7 rfl rfl rfl rfl rfl rfl rfl ⟨rfl,rfl,rfl,rfl,rfl⟩ rfl rfl rfl rfl rfl kr Tryz.func7 Xxt Qtb Qyx
  (λj i H enc _ F=>by rw[OpenClaim.pre_eq_preRow];exact Qrw j i H enc F)
theorem plain(f:FuncId)(fn:Func)(hf:Tryz.pinned.checked.prog.funcNamed "ordinal/ordinallaw43.ArrayMixes" = some f)(hfn:Tryz.pinned.checked.prog.funcs[f]?=some fn):
  false=Tryz.pinned.checked.prog.looks []/\∀(j:Nat) t,fn.params[j]?=some t->Tryz.pinned.checked.prog.wantsStandIn t=false:=by
 obtain rfl:f=7:=Option.some.inj ((show Tryz.prog.funcNamed "ordinal/ordinallaw43.ArrayMixes" = some 7 by kernel_rfl).symm.trans hf) |>.symm;obtain rfl:fn=Tryz.f7:=(Option.some.inj (Tryz.func7.symm.trans hfn)).symm;refine⟨kr,λj t ht=>?_⟩;rw[Tryz.params7]at ht;have i:=Array.mem_of_getElem? ht;simp only[List.mem_toArray,List.mem_cons,List.not_mem_nil,or_false]at i;rcases i with rfl|rfl
 .exact(show Tryz.prog.wantsStandIn 30=false by kernel_rfl)
 exact(show Tryz.prog.wantsStandIn 105=false by kernel_rfl)
theorem proved: Rows.ArrayMixesUptoCardSaid :=
 Claim7.holds_tied_plain_at .later [] _ _ _ _ said (λ_ h=>by cases h) kr (λ_ h=>by cases h) arrayMixesUpto_row_tie rfl ⟨rfl,rfl⟩ kr rfl plain kr
#print axioms proved
end Go.Proofs.YtgobkbeokaaplaaGreatDoor.arrayMixes
