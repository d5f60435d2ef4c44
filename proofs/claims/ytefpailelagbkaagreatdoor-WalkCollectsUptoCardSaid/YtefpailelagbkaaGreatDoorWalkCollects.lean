/- The law WalkCollects returns true, and its arguments read afterwards as they read before, where they are of bulk at most 1048576. -/
import Derived.Test.YtefpailelagbkaaGreatDoorKwc49
import Derived.Test.YtefpailelagbkaaGreatDoorCards
import Derived.Test.YtefpailelagbkaaGreatDoorTie
import Derived.WalkKit
import Derived.ProofKit
import Derived.OpenShut
import Derived.Deep.DeepHandedRow
import Derived.SizedLaws
set_option linter.unusedVariables false
set_option maxRecDepth 100000
set_option maxHeartbeats 40000000
namespace Go.Proofs.YtefpailelagbkaaGreatDoor.walkCollects
open Go.ChangeShapes Go.WideShapes Go.ChangeAt Go.RowKit Pl Go.Wk
theorem own: ownKnob Tryz.prog.godebug=none:=kr
theorem laidOut: laidOutB Tryz.prog=true:=kr
theorem contract(H:Type)(enc:TypeId×Value->H)(W:World)(base:Nat)(args:Array Value)(ds gs:List (DataW H))(before:List MemPlace)(hval0:∀ (j:Nat) t v,Tryz.f14.params[j]?=some t->args[j]?=some v->Value.okWide Tryz.prog W .any base t v)(hW:DataW.Whole enc Tryz.prog Tryz.f14.params.toList Rows.walkCollectsSpec.vars false W args.toList ds gs before)(hL:laidMetH Tryz.prog Rows.walkCollectsUptoRow.laid W)(hk:Rows.uptoSmall H (ds++gs)=true):
  Calls Tryz.prog 14 args W λe W'=>∃ v,e=.returned v/\Rows.walkCollectsSpec.post enc Tryz.prog Tryz.f14 false true false false W args v W':=by
 have i:∀ (j:Nat) t v,Tryz.f14.params[j]?=some t->args[j]?=some v->Value.okWide Tryz.prog W .any base t v:=hval0;have Z:=hW;obtain ⟨p,q,C,hV,rfl,a6,a5⟩:=hW;have hA:DataW.TrodAll enc Tryz.prog W 0 (λ_=>true) true Tryz.f14.params.toList args.toList ds p:=C;rw [Tryz.params14]at hA i;obtain ⟨v0,a4,d0,a9,p0,q0,U,rfl,rfl,h0,r0⟩:=trodAll_cons hA;obtain ⟨v1,a3,d1,a8,p1,q1,rfl,rfl,rfl,h1,r1⟩:=trodAll_cons r0;obtain ⟨v2,a2,d2,a7,p2,q2,rfl,rfl,rfl,h2,r2⟩:=trodAll_cons r1;obtain ⟨rfl,rfl,rfl⟩:=trodAll_nil r2;obtain rfl:args = #[v0,v1,v2]:=by cases args;simp_all
 obtain ⟨rfl,rfl⟩:=trodVars_none hV;have O:=oT hk;simp only [List.append_nil,Rows.uptoBulkAll]at O;have k0:=h0;have J:∀ x∈p0,x.block<W.heap.size:=by obtain ⟨m,hm⟩:=k0;exact DataW.trod_lt m _ _ _ hm
 have a1:=open_case (i 0 27 v0 rfl rfl) h0 om;obtain ⟨x1,rfl,rfl,rfl,u⟩:=open_int Tryz.underlying5 (i 1 5 v1 rfl rfl) h1;obtain ⟨x2,rfl,rfl,rfl,o⟩:=open_int Tryz.underlying3 (i 2 3 v2 rfl rfl) h2;clear C hval0;refine (walkCollects_walk (tb_of_laid hL) a1 (bounds_u8 u) (bounds_i64 o)).calls.mono λe W' ⟨v,he,hv,G⟩=>?_;subst he;subst hv;exact ⟨_,rfl,_,_,_,[],_,[],Z,trodAll_mk1 (shut_bool Tryz.underlying4 _),(trodAll_cons_mk (Below.trod laidOut kr (oT kr) k0 G J) (trodAll_cons_mk (shut_int Tryz.underlying5 u) (trodAll_cons_mk (shut_int Tryz.underlying3 o) trodAll_mk0))),rfl,G.frame _,λh=>by cases h⟩
noncomputable def laidWorld(os:Os): World :=
 { World.holding Tryz.prog os ⟨#[],#[],[]⟩ with heap:=(((World.holding Tryz.prog os ⟨#[],#[],[]⟩).heap.modify 1 (layOn Rows.laid_internal_strconv_uint64pow10)).modify 2 (layOn Rows.laid_math_bits_deBruijn32tab)).modify 3 (layOn Rows.laid_math_bits_deBruijn64tab) }
theorem laid_met(os:Os): laidMet Tryz.prog Rows.walkCollectsUptoRow.laid ((laidWorld os).forCall (λ_ _=>0) ⟨#[],#[.agg #[.int .i64 0,.int .i64 0,.slice none 0 0,.slice none 0 0,.slice none 0 0,.slice none 0 0],.int .u8 0,.int .i64 0],[]⟩).memory :=
 laidMet_of_run' 8 kr kr
theorem reads(os:Os){H:Type}(enc:TypeId×Value->H): ∃ places,DataW.whole enc Tryz.prog ((laidWorld os).forCall (λ_ _=>0) ⟨#[],#[.agg #[.int .i64 0,.int .i64 0,.slice none 0 0,.slice none 0 0,.slice none 0 0,.slice none 0 0],.int .u8 0,.int .i64 0],[]⟩).memory Tryz.f14.params.toList Rows.walkCollectsSpec.vars false (#[.agg #[.int .i64 0,.int .i64 0,.slice none 0 0,.slice none 0 0,.slice none 0 0,.slice none 0 0],.int .u8 0,.int .i64 0]:Array Value).toList 8=some ([.agg [.lit (.int .i64 0),.lit (.int .i64 0),.nil,.nil,.nil,.nil],.lit (.int .u8 0),.lit (.int .i64 0)],[],places) :=
 ⟨[],kr⟩
theorem lifted(os:Os)(started:os.Started)(H:Type)(enc:TypeId×Value->H)(F:Stop.Interp):
  ReturnsInHanded {} Tryz.checked os 14 .any ((Rows.OpenSpec.upto Rows.walkCollectsSpec).preRow enc Tryz.prog Tryz.f14 Rows.walkCollectsUptoRow.domain false Rows.walkCollectsUptoRow.laid) (((Rows.OpenSpec.upto Rows.walkCollectsSpec).at F).post enc Tryz.prog Tryz.f14 false true false false):=by
 obtain ⟨G,J⟩:=reads os enc;refine returnsInHanded_of_row (C:=Tryz.checked) (s:=Rows.OpenSpec.upto Rows.walkCollectsSpec) own started kr Tryz.func14
  (witness_row_at (enc:=enc) (C:=Tryz.checked) false (laidWorld os) #[.agg #[.int .i64 0,.int .i64 0,.slice none 0 0,.slice none 0 0,.slice none 0 0,.slice none 0 0],.int .u8 0,.int .i64 0] rfl kr kr kr
   (OpenSpec.preRow_of_cond 8 J kr (λk O=>by cases O;kernel_rfl) kr (laid_met os))) ?_
 intro W base u ds gs i o U _ j _ Z _ _;exact contract H enc W base u ds gs i o U Z (j _ rfl)
theorem closed: joinedFacts Tryz.pinned.checked.prog 14 Tryz.f14 (Rows.OpenSpec.upto Rows.walkCollectsSpec).bare Rows.walkCollectsUptoRow=true:=by
 unfold joinedFacts;simp only [Bool.and_eq_true];and_intros
 all_goals (as_aux_lemma=>kernel_rfl)
theorem instOk: Tryz.f14.isInstance Tryz.pinned.checked.prog Rows.walkCollectsUptoRow.origin Rows.walkCollectsUptoRow.targs:=oT kr
theorem wrapOk: Tryz.f14.isWrapper Tryz.pinned.checked.prog Rows.walkCollectsUptoRow.wrapper Rows.walkCollectsUptoRow.mainSum:=by unfold Func.isWrapper;first|(rw [if_pos (by decide +kernel)];kernel_rfl)|(rw [if_neg (by decide +kernel)];exact ⟨rfl,rfl⟩)
theorem said: Rows.WalkCollectsUptoSaid :=
 OpenClaim.holds_of_cond 14 Tryz.f14 rfl rfl rfl rfl rfl rfl rfl ⟨rfl,rfl,rfl,rfl,rfl⟩ rfl rfl rfl rfl rfl kr Tryz.func14 closed instOk wrapOk
  (λj i H enc _ F=>by rw [OpenClaim.pre_eq_preRow];exact lifted j i H enc F)
theorem plain(f:FuncId)(fn:Func)(hf:Tryz.pinned.checked.prog.funcNamed "ordinal/ordinallaw44.WalkCollects" = some f)(hfn:Tryz.pinned.checked.prog.funcs[f]?=some fn):
  false=Tryz.pinned.checked.prog.looks []/\∀ (j:Nat) t,fn.params[j]?=some t->Tryz.pinned.checked.prog.wantsStandIn t=false:=by
 obtain rfl:f=14:=Option.some.inj ((show Tryz.prog.funcNamed "ordinal/ordinallaw44.WalkCollects" = some 14 by kernel_rfl).symm.trans hf) |>.symm;obtain rfl:fn=Tryz.f14:=(Option.some.inj (Tryz.func14.symm.trans hfn)).symm;refine ⟨kr,λj t ht=>?_⟩;rw [Tryz.params14]at ht;have i:=Array.mem_of_getElem? ht;simp only [List.mem_toArray,List.mem_cons,List.not_mem_nil,or_false]at i;rcases i with rfl|rfl|rfl
 .exact (show Tryz.prog.wantsStandIn 27=false by kernel_rfl)
 .exact (show Tryz.prog.wantsStandIn 5=false by kernel_rfl)
 .exact (show Tryz.prog.wantsStandIn 3=false by kernel_rfl)
theorem proved: Rows.WalkCollectsUptoCardSaid :=
 Claim7.holds_tied_plain_at .later [] _ _ _ _ said (λ_ h=>by cases h) kr (λ_ h=>by cases h) walkCollectsUpto_row_tie rfl ⟨rfl,rfl⟩ kr rfl plain kr
#print axioms proved
end Go.Proofs.YtefpailelagbkaaGreatDoor.walkCollects
