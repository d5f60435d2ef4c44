/- The law AccessFilters returns true, and its arguments read afterwards as they read before, where they are of bulk at most 1048576. -/
import Derived.Test.YtefpailelagbkaaGreatDoorKaf48
import Derived.Test.YtefpailelagbkaaGreatDoorCards
import Derived.Test.YtefpailelagbkaaGreatDoorTie
import Derived.WalkKit
import Derived.ProofKit
import Derived.OpenShut
import Derived.Deep.DeepHandedRow
import Derived.SizedLaws
set_option linter.unusedVariables false
set_option maxRecDepth 100000
set_option maxHeartbeats 40000000
namespace Go.Proofs.YtefpailelagbkaaGreatDoor.accessFilters
open Go.ChangeShapes Go.WideShapes Go.ChangeAt Go.RowKit Pl Go.Wk
theorem own: ownKnob Tryz.prog.godebug=none:=by kernel_rfl
theorem laidOut: laidOutB Tryz.prog=true:=by kernel_rfl
theorem contract(H:Type)(enc:TypeId×Value->H)(W:World)(base:Nat)(args:Array Value)(ds gs:List (DataW H))(before:List MemPlace)(hval0:∀ (j:Nat) t v,Tryz.f8.params[j]?=some t->args[j]?=some v->Value.okWide Tryz.prog W .any base t v)(hW:DataW.Whole enc Tryz.prog Tryz.f8.params.toList Rows.accessFiltersSpec.vars false W args.toList ds gs before)(hL:laidMetH Tryz.prog Rows.accessFiltersUptoRow.laid W)(hk:Rows.uptoSmall H (ds++gs)=true):
  Calls Tryz.prog 8 args W λe W'=>∃ v,e=.returned v/\Rows.accessFiltersSpec.post enc Tryz.prog Tryz.f8 false true false false W args v W':=by
 have i:∀ (j:Nat) t v,Tryz.f8.params[j]?=some t->args[j]?=some v->Value.okWide Tryz.prog W .any base t v:=hval0;have U:=hW;obtain ⟨p,q,u,hV,rfl,a4,a3⟩:=hW;have hA:DataW.TrodAll enc Tryz.prog W 0 (λ_=>true) true Tryz.f8.params.toList args.toList ds p:=u;rw [Tryz.params8]at hA i;obtain ⟨v0,a2,d0,a6,p0,q0,O,rfl,rfl,h0,r0⟩:=trodAll_cons hA;obtain ⟨v1,a1,d1,a5,p1,q1,rfl,rfl,rfl,h1,r1⟩:=trodAll_cons r0;obtain ⟨rfl,rfl,rfl⟩:=trodAll_nil r1;obtain rfl:args = #[v0,v1]:=by cases args;simp_all
 obtain ⟨rfl,rfl⟩:=trodVars_none hV;have J:=oT hk;simp only [List.append_nil,Rows.uptoBulkAll]at J;have k0:=h0;have G:∀ x∈p0,x.block<W.heap.size:=by obtain ⟨m,hm⟩:=k0;exact DataW.trod_lt m _ _ _ hm
 have Z:=open_case (i 0 27 v0 rfl rfl) h0 (by omega);obtain ⟨x1,rfl,rfl,rfl,o⟩:=open_int Tryz.underlying5 (i 1 5 v1 rfl rfl) h1;clear u hval0;refine (accessFilters_walk (tb_of_laid hL) Z (bounds_u8 o)).calls.mono λe W' ⟨v,he,hv,C⟩=>?_;subst he;subst hv;exact ⟨_,rfl,_,_,_,[],_,[],U,trodAll_mk1 (shut_bool Tryz.underlying4 _),(trodAll_cons_mk (Below.trod laidOut (by kernel_rfl) (oT (by kernel_rfl)) k0 C G) (trodAll_cons_mk (shut_int Tryz.underlying5 o) trodAll_mk0)),rfl,C.frame _,λh=>by cases h⟩
noncomputable def laidWorld(os:Os): World :=
 { World.holding Tryz.prog os ⟨#[],#[],[]⟩ with heap:=(((World.holding Tryz.prog os ⟨#[],#[],[]⟩).heap.modify 1 (layOn Rows.laid_internal_strconv_uint64pow10)).modify 2 (layOn Rows.laid_math_bits_deBruijn32tab)).modify 3 (layOn Rows.laid_math_bits_deBruijn64tab) }
theorem laid_met(os:Os): laidMet Tryz.prog Rows.accessFiltersUptoRow.laid ((laidWorld os).forCall (λ_ _=>0) ⟨#[],#[.agg #[.int .i64 0,.int .i64 0,.slice none 0 0,.slice none 0 0,.slice none 0 0,.slice none 0 0],.int .u8 0],[]⟩).memory :=
 laidMet_of_run' 8 (by kernel_rfl) (by kernel_rfl)
theorem reads(os:Os){H:Type}(enc:TypeId×Value->H): ∃ places,DataW.whole enc Tryz.prog ((laidWorld os).forCall (λ_ _=>0) ⟨#[],#[.agg #[.int .i64 0,.int .i64 0,.slice none 0 0,.slice none 0 0,.slice none 0 0,.slice none 0 0],.int .u8 0],[]⟩).memory Tryz.f8.params.toList Rows.accessFiltersSpec.vars false (#[.agg #[.int .i64 0,.int .i64 0,.slice none 0 0,.slice none 0 0,.slice none 0 0,.slice none 0 0],.int .u8 0]:Array Value).toList 8=some ([.agg [.lit (.int .i64 0),.lit (.int .i64 0),.nil,.nil,.nil,.nil],.lit (.int .u8 0)],[],places) :=
 ⟨[],by kernel_rfl⟩
theorem lifted(os:Os)(started:os.Started)(H:Type)(enc:TypeId×Value->H)(F:Stop.Interp):
  ReturnsInHanded {} Tryz.checked os 8 .any ((Rows.OpenSpec.upto Rows.accessFiltersSpec).preRow enc Tryz.prog Tryz.f8 Rows.accessFiltersUptoRow.domain false Rows.accessFiltersUptoRow.laid) (((Rows.OpenSpec.upto Rows.accessFiltersSpec).at F).post enc Tryz.prog Tryz.f8 false true false false):=by
 obtain ⟨G,J⟩:=reads os enc;refine returnsInHanded_of_row (C:=Tryz.checked) (s:=Rows.OpenSpec.upto Rows.accessFiltersSpec) own started (by kernel_rfl) Tryz.func8
  (witness_row_at (enc:=enc) (C:=Tryz.checked) false (laidWorld os) #[.agg #[.int .i64 0,.int .i64 0,.slice none 0 0,.slice none 0 0,.slice none 0 0,.slice none 0 0],.int .u8 0] rfl (by kernel_rfl) (by kernel_rfl) (by kernel_rfl)
   (OpenSpec.preRow_of_cond 8 J (by kernel_rfl) (λk O=>by cases O;kernel_rfl) (by kernel_rfl) (laid_met os))) ?_
 intro W base u ds gs i o U _ j _ Z _ _;exact contract H enc W base u ds gs i o U Z (j _ rfl)
theorem closed: joinedFacts Tryz.pinned.checked.prog 8 Tryz.f8 (Rows.OpenSpec.upto Rows.accessFiltersSpec).bare Rows.accessFiltersUptoRow=true:=by
 unfold joinedFacts;simp only [Bool.and_eq_true];and_intros
 all_goals (as_aux_lemma=>kernel_rfl)
theorem instOk: Tryz.f8.isInstance Tryz.pinned.checked.prog Rows.accessFiltersUptoRow.origin Rows.accessFiltersUptoRow.targs:=oT (by kernel_rfl)
theorem wrapOk: Tryz.f8.isWrapper Tryz.pinned.checked.prog Rows.accessFiltersUptoRow.wrapper Rows.accessFiltersUptoRow.mainSum:=by unfold Func.isWrapper;first|(rw [if_pos (by decide +kernel)];kernel_rfl)|(rw [if_neg (by decide +kernel)];exact ⟨rfl,rfl⟩)
theorem said: Rows.AccessFiltersUptoSaid :=
 OpenClaim.holds_of_cond 8 Tryz.f8 rfl rfl rfl rfl rfl rfl rfl ⟨rfl,rfl,rfl,rfl,rfl⟩ rfl rfl rfl rfl rfl (by kernel_rfl) Tryz.func8 closed instOk wrapOk
  (λj i H enc _ F=>by rw [OpenClaim.pre_eq_preRow];exact lifted j i H enc F)
theorem plain(f:FuncId)(fn:Func)(hf:Tryz.pinned.checked.prog.funcNamed "ordinal/ordinallaw41.AccessFilters" = some f)(hfn:Tryz.pinned.checked.prog.funcs[f]?=some fn):
  false=Tryz.pinned.checked.prog.looks []/\∀ (j:Nat) t,fn.params[j]?=some t->Tryz.pinned.checked.prog.wantsStandIn t=false:=by
 obtain rfl:f=8:=Option.some.inj ((show Tryz.prog.funcNamed "ordinal/ordinallaw41.AccessFilters" = some 8 by kernel_rfl).symm.trans hf) |>.symm;obtain rfl:fn=Tryz.f8:=(Option.some.inj (Tryz.func8.symm.trans hfn)).symm;refine ⟨by kernel_rfl,λj t ht=>?_⟩;rw [Tryz.params8]at ht;have i:=Array.mem_of_getElem? ht;simp only [List.mem_toArray,List.mem_cons,List.not_mem_nil,or_false]at i;rcases i with rfl|rfl
 ·exact (show Tryz.prog.wantsStandIn 27=false by kernel_rfl)
 ·exact (show Tryz.prog.wantsStandIn 5=false by kernel_rfl)
theorem proved: Rows.AccessFiltersUptoCardSaid :=
 Claim7.holds_tied_plain_at .later [] _ _ _ _ said (λ_ h=>by cases h) (by kernel_rfl) (λ_ h=>by cases h) accessFiltersUpto_row_tie rfl ⟨rfl,rfl⟩ (by kernel_rfl) rfl plain (by kernel_rfl)
#print axioms proved
end Go.Proofs.YtefpailelagbkaaGreatDoor.accessFilters
