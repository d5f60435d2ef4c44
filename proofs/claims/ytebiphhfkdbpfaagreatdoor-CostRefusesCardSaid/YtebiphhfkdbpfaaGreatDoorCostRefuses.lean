/- For every input the law CostRefuses returns true and leaves its arguments as they were. No condition. -/
import Derived.Test.YtebiphhfkdbpfaaGreatDoorR07
import Derived.Test.YtebiphhfkdbpfaaGreatDoorCostRefusesF
import Derived.Test.YtebiphhfkdbpfaaGreatDoorCards
import Derived.Test.YtebiphhfkdbpfaaGreatDoorTie
import Derived.WalkKit
import Derived.ProofKit
import Derived.OpenShut
import Derived.Deep.DeepHandedRow
import Derived.SizedLaws
set_option linter.unusedVariables false
set_option maxRecDepth 100000
set_option maxHeartbeats 40000000
namespace Go.Proofs.YtebiphhfkdbpfaaGreatDoor.costRefuses
open Go.ChangeShapes Go.WideShapes Go.ChangeAt Go.RowKit Pl Go.Wk
theorem Jnp: laidOutB Tryz.prog=true:=kr
theorem Qhv(H:Type)(enc:TypeId×Value->H)(W:World)(base:Nat)(args:Array Value)(ds gs:List (DataW H))(before:List MemPlace)(hval0:∀(j:Nat) t v,Tryz.f6.params[j]?=some t->args[j]?=some v->Value.okWide Tryz.prog W .any base t v)(hW:DataW.Whole enc Tryz.prog Tryz.f6.params.toList Rows.costRefusesSpec.vars false W args.toList ds gs before)(hL:laidMetH Tryz.prog Rows.costRefusesRow.laid W):
  Calls Tryz.prog 6 args W λe W'=>∃ v,e=.returned v/\Rows.costRefusesSpec.post enc Tryz.prog Tryz.f6 false true false false W args v W':=by
 have i:∀(j:Nat) t v,Tryz.f6.params[j]?=some t->args[j]?=some v->Value.okWide Tryz.prog W .any base t v:=hval0;have O:=hW;obtain⟨p,q,y,hV,rfl,a4,a3⟩:=hW;have hA:DataW.TrodAll enc Tryz.prog W 0 (λ_=>true) true Tryz.f6.params.toList args.toList ds p:=y;rw[Tryz.params6]at hA i;obtain⟨v0,a2,d0,a6,p0,q0,J,rfl,rfl,h0,r0⟩:=trodAll_cons hA;obtain⟨v1,a1,d1,a5,p1,q1,rfl,rfl,rfl,h1,r1⟩:=trodAll_cons r0;obtain⟨rfl,rfl,rfl⟩:=trodAll_nil r1;obtain rfl:args = #[v0,v1]:=by cases args;simp_all
 obtain⟨rfl,rfl⟩:=trodVars_none hV;have k0:=h0;have D:∀ x∈p0,x.block<W.heap.size:=by obtain⟨m,G⟩:=k0;exact DataW.trod_lt m _ _ _ G
 have Z:=Qyk (i 0 31 v0 rfl rfl) h0;have k1:=h1;have B:∀ x∈p1,x.block<W.heap.size:=by obtain⟨m,G⟩:=k1;exact DataW.trod_lt m _ _ _ G
 have U:=Qyg (i 1 22 v1 rfl rfl) h1;clear y hval0;refine(Qhq (fb_of hL) Z U).calls.mono λe W' ⟨v,he,hv,u⟩=>?_;subst he;subst hv;exact⟨_,rfl,_,_,_,[],_,[],O,trodAll_mk1 (shut_bool Tryz.underlying4 _),(trodAll_cons_mk (Below.trod Jnp kr (oT kr) k0 u D) (trodAll_cons_mk (Below.trod Jnp kr (oT kr) k1 u B) trodAll_mk0)),rfl,u.frame _,λh=>by cases h⟩
noncomputable def Jch(os:Os): World :=
 { World.holding Tryz.prog os ⟨#[],#[],[]⟩ with heap:=(World.holding Tryz.prog os ⟨#[],#[],[]⟩).heap.modify 0 (layOn Rows.laid_ordinal_cost_fibonacci) }
theorem Qdf(os:Os): laidMet Tryz.prog Rows.costRefusesRow.laid ((Jch os).forCall (λ_ _=>0) ⟨#[],#[.agg #[.int .i64 0,.int .i64 0,.slice none 0 0,.slice none 0 0,.slice none 0 0,.slice none 0 0],.slice none 0 0],[]⟩).memory :=
 laidMet_of_run' 8 kr kr
theorem reads(os:Os){H:Type}(enc:TypeId×Value->H): ∃ places,DataW.whole enc Tryz.prog ((Jch os).forCall (λ_ _=>0) ⟨#[],#[.agg #[.int .i64 0,.int .i64 0,.slice none 0 0,.slice none 0 0,.slice none 0 0,.slice none 0 0],.slice none 0 0],[]⟩).memory Tryz.f6.params.toList Rows.costRefusesSpec.vars false (#[.agg #[.int .i64 0,.int .i64 0,.slice none 0 0,.slice none 0 0,.slice none 0 0,.slice none 0 0],.slice none 0 0]:Array Value).toList 8=some ([.agg [.lit (.int .i64 0),.lit (.int .i64 0),.nil,.nil,.nil,.nil],.nil],[],places) :=
 ⟨[],kr⟩
theorem Qct(os:Os)(started:os.Started)(H:Type)(enc:TypeId×Value->H)(F:Stop.Interp):
  ReturnsInHanded {} Tryz.checked os 6 .any ((OpenSpec.ofChange Rows.costRefusesSpec).preRow enc Tryz.prog Tryz.f6 Rows.costRefusesRow.domain false Rows.costRefusesRow.laid) (((OpenSpec.ofChange Rows.costRefusesSpec).at F).post enc Tryz.prog Tryz.f6 false true false false):=by
 obtain⟨y,D⟩:=reads os enc;refine returnsInHanded_of_row (C:=Tryz.checked) (s:=OpenSpec.ofChange Rows.costRefusesSpec) own started kr Tryz.func6
  (witness_row_at (enc:=enc) (C:=Tryz.checked) false (Jch os) #[.agg #[.int .i64 0,.int .i64 0,.slice none 0 0,.slice none 0 0,.slice none 0 0,.slice none 0 0],.slice none 0 0] rfl kr kr kr
   (OpenSpec.preRow_of_cond 8 D kr (λk G=>by cases G) kr (Qdf os))) ?_
 intro W base u Z U i j J _ B _ O _ _;exact Qhv H enc W base u Z U i j J O
theorem said: Rows.CostRefusesSaid :=
 OpenClaim.holds_of_cond 6 Tryz.f6 rfl rfl rfl rfl rfl rfl rfl ⟨rfl,rfl,rfl,rfl,rfl⟩ rfl rfl rfl rfl rfl kr Tryz.func6 closed instOk wrapOk
  (λj i H enc _ F=>by rw[OpenClaim.pre_eq_preRow];exact Qct j i H enc F)
theorem proved: Rows.CostRefusesCardSaid :=
 Claim7.holds_tied_plain_at .later [] _ _ _ _ said (λ_ h=>by cases h) kr (λ_ h=>by cases h) costRefuses_row_tie rfl ⟨rfl,rfl⟩ kr rfl plain kr
#print axioms proved
end Go.Proofs.YtebiphhfkdbpfaaGreatDoor.costRefuses
