/- The law ArrayIndexed returns true and leaves its arguments as they were, where they are of bulk at most 1048576. -/
import Derived.Test.YtgobkbeokaaplaaGreatDoorI08
import Derived.Test.YtgobkbeokaaplaaGreatDoorCards
import Derived.Test.YtgobkbeokaaplaaGreatDoorTie
import Derived.WalkKit
import Derived.ProofKit
import Derived.OpenShut
import Derived.Deep.DeepHandedRow
import Derived.SizedLaws
set_option linter.unusedVariables false
set_option maxRecDepth 100000
set_option maxHeartbeats 40000000
namespace Go.Proofs.YtgobkbeokaaplaaGreatDoor.arrayIndexed
open Go.ChangeShapes Go.WideShapes Go.ChangeAt Go.RowKit Pl Go.Wk
theorem own: ownKnob Tryz.prog.godebug=none:=kr
theorem Qqr: laidOutB Tryz.prog=true:=kr
theorem Xqb(H:Type)(enc:TypeId×Value->H)(W:World)(base:Nat)(args:Array Value)(ds gs:List (DataW H))(before:List MemPlace)(hval0:∀(j:Nat) t v,Tryz.f6.params[j]?=some t->args[j]?=some v->Value.okWide Tryz.prog W .any base t v)(hW:DataW.Whole enc Tryz.prog Tryz.f6.params.toList Rows.arrayIndexedSpec.vars false W args.toList ds gs before)(hL:laidMetH Tryz.prog Rows.arrayIndexedUptoRow.laid W)(hk:Rows.uptoSmall H (ds++gs)=true):
  Calls Tryz.prog 6 args W λe W'=>∃ v,e=.returned v/\Rows.arrayIndexedSpec.post enc Tryz.prog Tryz.f6 false true false false W args v W':=by
 have i:∀(j:Nat) t v,Tryz.f6.params[j]?=some t->args[j]?=some v->Value.okWide Tryz.prog W .any base t v:=hval0;have Z:=hW;obtain⟨p,q,C,hV,rfl,a7,a6⟩:=hW;have hA:DataW.TrodAll enc Tryz.prog W 0 (λ_=>true) true Tryz.f6.params.toList args.toList ds p:=C;rw[Tryz.params6]at hA i;obtain⟨v0,a5,d0,aa,p0,q0,U,rfl,rfl,h0,r0⟩:=trodAll_cons hA;obtain⟨v1,a4,d1,a9,p1,q1,rfl,rfl,rfl,h1,r1⟩:=trodAll_cons r0;obtain⟨v2,a3,d2,a8,p2,q2,rfl,rfl,rfl,h2,r2⟩:=trodAll_cons r1;obtain⟨rfl,rfl,rfl⟩:=trodAll_nil r2;obtain rfl:args = #[v0,v1,v2]:=by cases args;simp_all
 obtain⟨rfl,rfl⟩:=trodVars_none hV;have O:=oT hk;simp only[List.append_nil,Rows.uptoBulkAll]at O;have k0:=h0;have G:∀ x∈p0,x.block<W.heap.size:=by obtain⟨m,J⟩:=k0;exact DataW.trod_lt m _ _ _ J
 have a2:=Qmp (i 0 30 v0 rfl rfl) h0 om;have k1:=h1;have D:∀ x∈p1,x.block<W.heap.size:=by obtain⟨m,J⟩:=k1;exact DataW.trod_lt m _ _ _ J
 have a1:=Qml (i 1 59 v1 rfl rfl) h1 om;obtain⟨x2,rfl,rfl,rfl,u⟩:=open_int Tryz.underlying94 (i 2 94 v2 rfl rfl) h2;clear C hval0;refine(Xwd (Qcx hL) a2 a1 (bounds_u16 u)).calls.mono λe W' ⟨v,he,hv,o⟩=>?_;subst he;subst hv;exact⟨_,rfl,_,_,_,[],_,[],Z,trodAll_mk1 (shut_bool Tryz.underlying4 _),(trodAll_cons_mk (Below.trod Qqr kr (oT kr) k0 o G) (trodAll_cons_mk (Below.trod Qqr kr (oT kr) k1 o D) (trodAll_cons_mk (shut_int Tryz.underlying94 u) trodAll_mk0))),rfl,o.frame _,λh=>by cases h⟩
noncomputable def Jgz(os:Os): World :=
 { World.holding Tryz.prog os ⟨#[],#[],[]⟩ with heap:=(((World.holding Tryz.prog os ⟨#[],#[],[]⟩).heap.modify 1 (Jgw Rows.laid_internal_strconv_uint64pow10)).modify 2 (Jgw Rows.laid_math_bits_deBruijn32tab)).modify 3 (Jgw Rows.laid_math_bits_deBruijn64tab) }
theorem Qrj(os:Os): laidMet Tryz.prog Rows.arrayIndexedUptoRow.laid ((Jgz os).forCall (λ_ _=>0) ⟨#[],#[.agg #[.int .i64 0,.int .i64 0,.slice none 0 0,.slice none 0 0,.slice none 0 0,.slice none 0 0],.slice none 0 0,.int .u16 0],[]⟩).memory :=
 laidMet_of_run' 8 kr kr
theorem reads(os:Os){H:Type}(enc:TypeId×Value->H): ∃ places,DataW.whole enc Tryz.prog ((Jgz os).forCall (λ_ _=>0) ⟨#[],#[.agg #[.int .i64 0,.int .i64 0,.slice none 0 0,.slice none 0 0,.slice none 0 0,.slice none 0 0],.slice none 0 0,.int .u16 0],[]⟩).memory Tryz.f6.params.toList Rows.arrayIndexedSpec.vars false (#[.agg #[.int .i64 0,.int .i64 0,.slice none 0 0,.slice none 0 0,.slice none 0 0,.slice none 0 0],.slice none 0 0,.int .u16 0]:Array Value).toList 8=some ([.agg [.lit (.int .i64 0),.lit (.int .i64 0),.nil,.nil,.nil,.nil],.nil,.lit (.int .u16 0)],[],places) :=
 ⟨[],kr⟩
theorem Qrf(os:Os)(started:os.Started)(H:Type)(enc:TypeId×Value->H)(F:Stop.Interp):
  ReturnsInHanded {} Tryz.checked os 6 .any ((Rows.OpenSpec.upto Rows.arrayIndexedSpec).preRow enc Tryz.prog Tryz.f6 Rows.arrayIndexedUptoRow.domain false Rows.arrayIndexedUptoRow.laid) (((Rows.OpenSpec.upto Rows.arrayIndexedSpec).at F).post enc Tryz.prog Tryz.f6 false true false false):=by
 obtain⟨D,G⟩:=reads os enc;refine returnsInHanded_of_row (C:=Tryz.checked) (s:=Rows.OpenSpec.upto Rows.arrayIndexedSpec) own started kr Tryz.func6
  (witness_row_at (enc:=enc) (C:=Tryz.checked) false (Jgz os) #[.agg #[.int .i64 0,.int .i64 0,.slice none 0 0,.slice none 0 0,.slice none 0 0,.slice none 0 0],.slice none 0 0,.int .u16 0] rfl kr kr kr
   (OpenSpec.preRow_of_cond 8 G kr (λk J=>by cases J;kernel_rfl) kr (Qrj os))) ?_
 intro W base u ds Z i o O _ j _ U _ _;exact Xqb H enc W base u ds Z i o O U (j _ rfl)
theorem Xxh: joinedFacts Tryz.pinned.checked.prog 6 Tryz.f6 (Rows.OpenSpec.upto Rows.arrayIndexedSpec).bare Rows.arrayIndexedUptoRow=true:=by
 unfold joinedFacts;simp only[Bool.and_eq_true];and_intros
 all_goals (as_aux_lemma=>kernel_rfl)
theorem Qsh: Tryz.f6.isInstance Tryz.pinned.checked.prog Rows.arrayIndexedUptoRow.origin Rows.arrayIndexedUptoRow.targs:=oT kr
theorem Qyv: Tryz.f6.isWrapper Tryz.pinned.checked.prog Rows.arrayIndexedUptoRow.wrapper Rows.arrayIndexedUptoRow.mainSum:=by unfold Func.isWrapper;first|(rw[if_pos (by decide +kernel)];kernel_rfl)|(rw[if_neg (by decide +kernel)];exact⟨rfl,rfl⟩)
theorem said: Rows.ArrayIndexedUptoSaid :=
 OpenClaim.holds_of_cond 6 Tryz.f6 rfl rfl rfl rfl rfl rfl rfl ⟨rfl,rfl,rfl,rfl,rfl⟩ rfl rfl rfl rfl rfl kr Tryz.func6 Xxh Qsh Qyv
  (λj i H enc _ F=>by rw[OpenClaim.pre_eq_preRow];exact Qrf j i H enc F)
theorem plain(f:FuncId)(fn:Func)(hf:Tryz.pinned.checked.prog.funcNamed "ordinal/ordinallaw43.ArrayIndexed" = some f)(hfn:Tryz.pinned.checked.prog.funcs[f]?=some fn):
  false=Tryz.pinned.checked.prog.looks []/\∀(j:Nat) t,fn.params[j]?=some t->Tryz.pinned.checked.prog.wantsStandIn t=false:=by
 obtain rfl:f=6:=Option.some.inj ((show Tryz.prog.funcNamed "ordinal/ordinallaw43.ArrayIndexed" = some 6 by kernel_rfl).symm.trans hf) |>.symm;obtain rfl:fn=Tryz.f6:=(Option.some.inj (Tryz.func6.symm.trans hfn)).symm;refine⟨kr,λj t ht=>?_⟩;rw[Tryz.params6]at ht;have i:=Array.mem_of_getElem? ht;simp only[List.mem_toArray,List.mem_cons,List.not_mem_nil,or_false]at i;rcases i with rfl|rfl|rfl
 .exact(show Tryz.prog.wantsStandIn 30=false by kernel_rfl)
 .exact(show Tryz.prog.wantsStandIn 59=false by kernel_rfl)
 exact(show Tryz.prog.wantsStandIn 94=false by kernel_rfl)
theorem proved: Rows.ArrayIndexedUptoCardSaid :=
 Claim7.holds_tied_plain_at .later [] _ _ _ _ said (λ_ h=>by cases h) kr (λ_ h=>by cases h) arrayIndexedUpto_row_tie rfl ⟨rfl,rfl⟩ kr rfl plain kr
#print axioms proved
end Go.Proofs.YtgobkbeokaaplaaGreatDoor.arrayIndexed
