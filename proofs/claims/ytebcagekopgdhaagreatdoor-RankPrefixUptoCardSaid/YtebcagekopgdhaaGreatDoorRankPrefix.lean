/- RankPrefix returns true and leaves its arguments as they were, where they are of bulk at most 1048576. -/
import Derived.Test.YtebcagekopgdhaaGreatDoorKc21
import Derived.Test.YtebcagekopgdhaaGreatDoorCards
import Derived.Test.YtebcagekopgdhaaGreatDoorTie
import Derived.WalkKit
import Derived.ProofKit
import Derived.OpenShut
import Derived.Deep.DeepHandedRow
import Derived.SizedLaws
set_option linter.unusedVariables false
set_option maxRecDepth 100000
set_option maxHeartbeats 40000000
namespace Go.Proofs.YtebcagekopgdhaaGreatDoor.rankPrefix
open Go.ChangeShapes Go.WideShapes Go.ChangeAt Go.RowKit Pl Go.Wk
theorem own: ownKnob Tryz.prog.godebug=none:=kr
theorem laidOut: laidOutB Tryz.prog=true:=kr
theorem contract(H:Type)(enc:TypeId×Value->H)(W:World)(base:Nat)(args:Array Value)(ds gs:List (DataW H))(before:List MemPlace)(hval0:∀ (j:Nat) t v,Tryz.f9.params[j]?=some t->args[j]?=some v->Value.okWide Tryz.prog W .any base t v)(hW:DataW.Whole enc Tryz.prog Tryz.f9.params.toList Rows.rankPrefixSpec.vars false W args.toList ds gs before)(hL:laidMetH Tryz.prog Rows.rankPrefixUptoRow.laid W)(hk:Rows.uptoSmall H (ds++gs)=true):
  Calls Tryz.prog 9 args W λe W'=>∃ v,e=.returned v/\Rows.rankPrefixSpec.post enc Tryz.prog Tryz.f9 false true false false W args v W':=by
 have o:∀ (j:Nat) t v,Tryz.f9.params[j]?=some t->args[j]?=some v->Value.okWide Tryz.prog W .any base t v:=hval0;have a1:=hW;obtain ⟨p,q,C,hV,rfl,a7,a6⟩:=hW;have hA:DataW.TrodAll enc Tryz.prog W 0 (λ_=>true) true Tryz.f9.params.toList args.toList ds p:=C;rw [Tryz.params9]at hA o;obtain ⟨v0,a5,d0,a9,p0,q0,Z,rfl,rfl,h0,r0⟩:=trodAll_cons hA;obtain ⟨v1,a4,d1,a8,p1,q1,rfl,rfl,rfl,h1,r1⟩:=trodAll_cons r0;obtain ⟨rfl,rfl,rfl⟩:=trodAll_nil r1;obtain rfl:args = #[v0,v1]:=by cases args;simp_all
 obtain ⟨rfl,rfl⟩:=trodVars_none hV;have U:=oT hk;simp only [List.append_nil,Rows.uptoBulkAll]at U;have k0:=h0;have J:∀ x∈p0,x.block<W.heap.size:=by obtain ⟨m,O⟩:=k0;exact DataW.trod_lt m _ _ _ O
 have a3:=open_case (o 0 53 v0 rfl rfl) h0 om;have k1:=h1;have G:∀ x∈p1,x.block<W.heap.size:=by obtain ⟨m,O⟩:=k1;exact DataW.trod_lt m _ _ _ O
 have a2:=open_rowA (o 1 37 v1 rfl rfl) h1 om;clear C hval0;refine (rankPrefix_walk (tb_of_laid hL) a3 a2).calls.mono λe W' ⟨v,he,hv,u⟩=>?_;subst he;subst hv;exact ⟨_,rfl,_,_,_,[],_,[],a1,trodAll_mk1 (shut_bool Tryz.underlying4 _),(trodAll_cons_mk (Below.trod laidOut kr (oT kr) k0 u J) (trodAll_cons_mk (Below.trod laidOut kr (oT kr) k1 u G) trodAll_mk0)),rfl,u.frame _,λh=>by cases h⟩
noncomputable def laidWorld(os:Os): World :=
 { World.holding Tryz.prog os ⟨#[],#[],[]⟩ with heap:=(((World.holding Tryz.prog os ⟨#[],#[],[]⟩).heap.modify 1 (layOn Rows.laid_internal_strconv_uint64pow10)).modify 2 (layOn Rows.laid_math_bits_deBruijn32tab)).modify 3 (layOn Rows.laid_math_bits_deBruijn64tab) }
theorem laid_met(os:Os): laidMet Tryz.prog Rows.rankPrefixUptoRow.laid ((laidWorld os).forCall (λ_ _=>0) ⟨#[],#[.agg #[.int .i64 0,.int .i64 0,.slice none 0 0,.slice none 0 0,.slice none 0 0,.slice none 0 0],.slice none 0 0],[]⟩).memory :=
 laidMet_of_run' 8 kr kr
theorem reads(os:Os){H:Type}(enc:TypeId×Value->H): ∃ places,DataW.whole enc Tryz.prog ((laidWorld os).forCall (λ_ _=>0) ⟨#[],#[.agg #[.int .i64 0,.int .i64 0,.slice none 0 0,.slice none 0 0,.slice none 0 0,.slice none 0 0],.slice none 0 0],[]⟩).memory Tryz.f9.params.toList Rows.rankPrefixSpec.vars false (#[.agg #[.int .i64 0,.int .i64 0,.slice none 0 0,.slice none 0 0,.slice none 0 0,.slice none 0 0],.slice none 0 0]:Array Value).toList 8=some ([.agg [.lit (.int .i64 0),.lit (.int .i64 0),.nil,.nil,.nil,.nil],.nil],[],places) :=
 ⟨[],kr⟩
theorem lifted(os:Os)(started:os.Started)(H:Type)(enc:TypeId×Value->H)(F:Stop.Interp):
  ReturnsInHanded {} Tryz.checked os 9 .any ((Rows.OpenSpec.upto Rows.rankPrefixSpec).preRow enc Tryz.prog Tryz.f9 Rows.rankPrefixUptoRow.domain false Rows.rankPrefixUptoRow.laid) (((Rows.OpenSpec.upto Rows.rankPrefixSpec).at F).post enc Tryz.prog Tryz.f9 false true false false):=by
 obtain ⟨O,U⟩:=reads os enc;refine returnsInHanded_of_row (C:=Tryz.checked) (s:=Rows.OpenSpec.upto Rows.rankPrefixSpec) own started kr Tryz.func9
  (witness_row_at (enc:=enc) (C:=Tryz.checked) false (laidWorld os) #[.agg #[.int .i64 0,.int .i64 0,.slice none 0 0,.slice none 0 0,.slice none 0 0,.slice none 0 0],.slice none 0 0] rfl kr kr kr
   (OpenSpec.preRow_of_cond 8 U kr (λk Z=>by cases Z;kernel_rfl) kr (laid_met os))) ?_
 intro W base J ds gs o G hW _ u _ hL _ _;exact contract H enc W base J ds gs o G hW hL (u _ rfl)
theorem closed: joinedFacts Tryz.pinned.checked.prog 9 Tryz.f9 (Rows.OpenSpec.upto Rows.rankPrefixSpec).bare Rows.rankPrefixUptoRow=true:=by
 unfold joinedFacts;simp only [Bool.and_eq_true];and_intros
 all_goals (as_aux_lemma=>kernel_rfl)
theorem instOk: Tryz.f9.isInstance Tryz.pinned.checked.prog Rows.rankPrefixUptoRow.origin Rows.rankPrefixUptoRow.targs:=oT kr
theorem wrapOk: Tryz.f9.isWrapper Tryz.pinned.checked.prog Rows.rankPrefixUptoRow.wrapper Rows.rankPrefixUptoRow.mainSum:=by unfold Func.isWrapper;first|(rw [if_pos (by decide +kernel)];kernel_rfl)|(rw [if_neg (by decide +kernel)];exact ⟨rfl,rfl⟩)
theorem said: Rows.RankPrefixUptoSaid :=
 OpenClaim.holds_of_cond 9 Tryz.f9 rfl rfl rfl rfl rfl rfl rfl ⟨rfl,rfl,rfl,rfl,rfl⟩ rfl rfl rfl rfl rfl kr Tryz.func9 closed instOk wrapOk
  (λu o H enc _ F=>by rw [OpenClaim.pre_eq_preRow];exact lifted u o H enc F)
theorem plain(f:FuncId)(fn:Func)(hf:Tryz.pinned.checked.prog.funcNamed "ordinal/ordinallaw42.RankPrefix" = some f)(hfn:Tryz.pinned.checked.prog.funcs[f]?=some fn):
  false=Tryz.pinned.checked.prog.looks []/\∀ (j:Nat) t,fn.params[j]?=some t->Tryz.pinned.checked.prog.wantsStandIn t=false:=by
 obtain rfl:f=9:=Option.some.inj ((show Tryz.prog.funcNamed "ordinal/ordinallaw42.RankPrefix" = some 9 by kernel_rfl).symm.trans hf) |>.symm;obtain rfl:fn=Tryz.f9:=(Option.some.inj (Tryz.func9.symm.trans hfn)).symm;refine ⟨kr,λj t ht=>?_⟩;rw [Tryz.params9]at ht;have o:=Array.mem_of_getElem? ht;simp only [List.mem_toArray,List.mem_cons,List.not_mem_nil,or_false]at o;rcases o with rfl|rfl
 .exact (show Tryz.prog.wantsStandIn 53=false by kernel_rfl)
 .exact (show Tryz.prog.wantsStandIn 37=false by kernel_rfl)
theorem proved: Rows.RankPrefixUptoCardSaid :=
 Claim7.holds_tied_plain_at .later [] _ _ _ _ said (λ_ h=>by cases h) kr (λ_ h=>by cases h) rankPrefixUpto_row_tie rfl ⟨rfl,rfl⟩ kr rfl plain kr
#print axioms proved
end Go.Proofs.YtebcagekopgdhaaGreatDoor.rankPrefix
