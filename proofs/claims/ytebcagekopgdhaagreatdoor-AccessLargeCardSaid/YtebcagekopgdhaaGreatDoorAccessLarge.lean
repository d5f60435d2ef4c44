/- For every input the law AccessLarge returns true and leaves its arguments as they were. No condition. -/
import Derived.Test.YtebcagekopgdhaaGreatDoorY09
import Derived.Test.YtebcagekopgdhaaGreatDoorCards
import Derived.Test.YtebcagekopgdhaaGreatDoorTie
import Derived.WalkKit
import Derived.ProofKit
import Derived.OpenShut
import Derived.Deep.DeepHandedRow
import Derived.SizedLaws
set_option linter.unusedVariables false
set_option maxRecDepth 100000
set_option maxHeartbeats 40000000
namespace Go.Proofs.YtebcagekopgdhaaGreatDoor.accessLarge
open Go.ChangeShapes Go.WideShapes Go.ChangeAt Go.RowKit Pl Go.Wk
theorem own: ownKnob Tryz.prog.godebug=none:=kr
theorem laidOut: laidOutB Tryz.prog=true:=kr
theorem Qpr(H:Type)(enc:TypeId×Value->H)(W:World)(base:Nat)(args:Array Value)(ds gs:List (DataW H))(before:List MemPlace)(hval0:∀ (j:Nat) t v,Tryz.f3.params[j]?=some t->args[j]?=some v->Value.okWide Tryz.prog W .any base t v)(hW:DataW.Whole enc Tryz.prog Tryz.f3.params.toList Rows.accessLargeSpec.vars false W args.toList ds gs before)(hL:laidMetH Tryz.prog Rows.accessLargeRow.laid W):
  Calls Tryz.prog 3 args W λe W'=>∃ v,e=.returned v/\Rows.accessLargeSpec.post enc Tryz.prog Tryz.f3 false true false false W args v W':=by
 have o:∀ (j:Nat) t v,Tryz.f3.params[j]?=some t->args[j]?=some v->Value.okWide Tryz.prog W .any base t v:=hval0;have U:=hW;obtain ⟨p,q,J,hV,rfl,a5,a4⟩:=hW;have hA:DataW.TrodAll enc Tryz.prog W 0 (λ_=>true) true Tryz.f3.params.toList args.toList ds p:=J;rw [Tryz.params3]at hA o;obtain ⟨v0,a3,d0,a8,p0,q0,O,rfl,rfl,h0,r0⟩:=trodAll_cons hA;obtain ⟨v1,a2,d1,a7,p1,q1,rfl,rfl,rfl,h1,r1⟩:=trodAll_cons r0;obtain ⟨v2,a1,d2,a6,p2,q2,rfl,rfl,rfl,h2,r2⟩:=trodAll_cons r1;obtain ⟨rfl,rfl,rfl⟩:=trodAll_nil r2;obtain rfl:args = #[v0,v1,v2]:=by cases args;simp_all
 obtain ⟨rfl,rfl⟩:=trodVars_none hV;obtain ⟨x0,rfl,rfl,rfl,G⟩:=open_int Tryz.underlying5 (o 0 5 v0 rfl rfl) h0;obtain ⟨x1,rfl,rfl,rfl,C⟩:=open_int Tryz.underlying22 (o 1 22 v1 rfl rfl) h1;obtain ⟨x2,rfl,rfl,rfl,u⟩:=open_int Tryz.underlying23 (o 2 23 v2 rfl rfl) h2;clear J hval0;refine (Xqf (Qyr hL) (bounds_u8 G) (bounds_u64 C) (bounds_u16 u)).calls.mono λe W' ⟨v,he,hv,Z⟩=>?_;subst he;subst hv;exact ⟨_,rfl,_,_,_,[],_,[],U,trodAll_mk1 (shut_bool Tryz.underlying4 _),(trodAll_cons_mk (shut_int Tryz.underlying5 G) (trodAll_cons_mk (shut_int Tryz.underlying22 C) (trodAll_cons_mk (shut_int Tryz.underlying23 u) trodAll_mk0))),rfl,Z.frame _,λh=>by cases h⟩
noncomputable def Jfl(os:Os): World :=
 { World.holding Tryz.prog os ⟨#[],#[],[]⟩ with heap:=(((World.holding Tryz.prog os ⟨#[],#[],[]⟩).heap.modify 1 (Jfj Rows.laid_internal_strconv_uint64pow10)).modify 2 (Jfj Rows.laid_math_bits_deBruijn32tab)).modify 3 (Jfj Rows.laid_math_bits_deBruijn64tab) }
theorem Qlk(os:Os): laidMet Tryz.prog Rows.accessLargeRow.laid ((Jfl os).forCall (λ_ _=>0) ⟨#[],#[.int .u8 0,.int .u64 0,.int .u16 0],[]⟩).memory :=
 laidMet_of_run' 8 kr kr
theorem reads(os:Os){H:Type}(enc:TypeId×Value->H): ∃ places,DataW.whole enc Tryz.prog ((Jfl os).forCall (λ_ _=>0) ⟨#[],#[.int .u8 0,.int .u64 0,.int .u16 0],[]⟩).memory Tryz.f3.params.toList Rows.accessLargeSpec.vars false (#[.int .u8 0,.int .u64 0,.int .u16 0]:Array Value).toList 8=some ([.lit (.int .u8 0),.lit (.int .u64 0),.lit (.int .u16 0)],[],places) :=
 ⟨[],kr⟩
theorem Qlf(os:Os)(started:os.Started)(H:Type)(enc:TypeId×Value->H)(F:Stop.Interp):
  ReturnsInHanded {} Tryz.checked os 3 .any ((OpenSpec.ofChange Rows.accessLargeSpec).preRow enc Tryz.prog Tryz.f3 Rows.accessLargeRow.domain false Rows.accessLargeRow.laid) (((OpenSpec.ofChange Rows.accessLargeSpec).at F).post enc Tryz.prog Tryz.f3 false true false false):=by
 obtain ⟨J,U⟩:=reads os enc;refine returnsInHanded_of_row (C:=Tryz.checked) (s:=OpenSpec.ofChange Rows.accessLargeSpec) own started kr Tryz.func3
  (witness_row_at (enc:=enc) (C:=Tryz.checked) false (Jfl os) #[.int .u8 0,.int .u64 0,.int .u16 0] rfl kr kr kr
   (OpenSpec.preRow_of_cond 8 U kr (λk Z=>by cases Z) kr (Qlk os))) ?_
 intro W base G ds gs o u hW _ O _ hL _ _;exact Qpr H enc W base G ds gs o u hW hL
theorem Qrr: joinedFacts Tryz.pinned.checked.prog 3 Tryz.f3 (OpenSpec.ofChange Rows.accessLargeSpec).bare Rows.accessLargeRow=true:=by
 unfold joinedFacts;simp only [Bool.and_eq_true];and_intros
 all_goals (as_aux_lemma=>kernel_rfl)
theorem Qmh: Tryz.f3.isInstance Tryz.pinned.checked.prog Rows.accessLargeRow.origin Rows.accessLargeRow.targs:=oT kr
theorem Qwp: Tryz.f3.isWrapper Tryz.pinned.checked.prog Rows.accessLargeRow.wrapper Rows.accessLargeRow.mainSum:=by unfold Func.isWrapper;first|(rw [if_pos (by decide +kernel)];kernel_rfl)|(rw [if_neg (by decide +kernel)];exact ⟨rfl,rfl⟩)
theorem said: Rows.AccessLargeSaid :=
 OpenClaim.holds_of_cond 3 Tryz.f3 rfl rfl rfl rfl rfl rfl rfl ⟨rfl,rfl,rfl,rfl,rfl⟩ rfl rfl rfl rfl rfl kr Tryz.func3 Qrr Qmh Qwp
  (λu o H enc _ F=>by rw [OpenClaim.pre_eq_preRow];exact Qlf u o H enc F)
theorem plain(f:FuncId)(fn:Func)(hf:Tryz.pinned.checked.prog.funcNamed "ordinal/ordinallaw41.AccessLarge" = some f)(hfn:Tryz.pinned.checked.prog.funcs[f]?=some fn):
  false=Tryz.pinned.checked.prog.looks []/\∀ (j:Nat) t,fn.params[j]?=some t->Tryz.pinned.checked.prog.wantsStandIn t=false:=by
 obtain rfl:f=3:=Option.some.inj ((show Tryz.prog.funcNamed "ordinal/ordinallaw41.AccessLarge" = some 3 by kernel_rfl).symm.trans hf) |>.symm;obtain rfl:fn=Tryz.f3:=(Option.some.inj (Tryz.func3.symm.trans hfn)).symm;refine ⟨kr,λj t ht=>?_⟩;rw [Tryz.params3]at ht;have o:=Array.mem_of_getElem? ht;simp only [List.mem_toArray,List.mem_cons,List.not_mem_nil,or_false]at o;rcases o with rfl|rfl|rfl
 .exact (show Tryz.prog.wantsStandIn 5=false by kernel_rfl)
 .exact (show Tryz.prog.wantsStandIn 22=false by kernel_rfl)
 .exact (show Tryz.prog.wantsStandIn 23=false by kernel_rfl)
theorem proved: Rows.AccessLargeCardSaid :=
 Claim7.holds_tied_plain_at .later [] _ _ _ _ said (λ_ h=>by cases h) kr (λ_ h=>by cases h) accessLarge_row_tie rfl ⟨rfl,rfl⟩ kr rfl plain kr
#print axioms proved
end Go.Proofs.YtebcagekopgdhaaGreatDoor.accessLarge
