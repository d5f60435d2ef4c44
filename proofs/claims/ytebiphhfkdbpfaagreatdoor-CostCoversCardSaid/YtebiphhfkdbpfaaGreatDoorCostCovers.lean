/- For every input the law CostCovers returns true and leaves its arguments as they were. No condition. -/
import Derived.Test.YtebiphhfkdbpfaaGreatDoorC09
import Derived.Test.YtebiphhfkdbpfaaGreatDoorCostCoversF
import Derived.Test.YtebiphhfkdbpfaaGreatDoorCards
import Derived.Test.YtebiphhfkdbpfaaGreatDoorTie
import Derived.WalkKit
import Derived.ProofKit
import Derived.OpenShut
import Derived.Deep.DeepHandedRow
import Derived.SizedLaws
set_option linter.unusedVariables false
set_option maxRecDepth 100000
set_option maxHeartbeats 40000000
namespace Go.Proofs.YtebiphhfkdbpfaaGreatDoor.costCovers
open Go.ChangeShapes Go.WideShapes Go.ChangeAt Go.RowKit Pl Go.Wk
theorem Qrx: laidOutB Tryz.prog=true:=kr
theorem Xxh(H:Type)(enc:TypeId×Value->H)(W:World)(base:Nat)(args:Array Value)(ds gs:List (DataW H))(before:List MemPlace)(hval0:∀(j:Nat) t v,Tryz.f8.params[j]?=some t->args[j]?=some v->Value.okWide Tryz.prog W .any base t v)(hW:DataW.Whole enc Tryz.prog Tryz.f8.params.toList Rows.costCoversSpec.vars false W args.toList ds gs before)(hL:laidMetH Tryz.prog Rows.costCoversRow.laid W):
  Calls Tryz.prog 8 args W λe W'=>∃ v,e=.returned v/\Rows.costCoversSpec.post enc Tryz.prog Tryz.f8 false true false false W args v W':=by
 have i:∀(j:Nat) t v,Tryz.f8.params[j]?=some t->args[j]?=some v->Value.okWide Tryz.prog W .any base t v:=hval0;have G:=hW;obtain⟨p,q,u,hV,rfl,a2,a1⟩:=hW;have U:DataW.TrodAll enc Tryz.prog W 0 (λ_=>true) true Tryz.f8.params.toList args.toList ds p:=u;rw[Tryz.params8]at U i;obtain⟨v0,Z,d0,a3,p0,q0,D,rfl,rfl,h0,r0⟩:=trodAll_cons U;obtain⟨rfl,rfl,rfl⟩:=trodAll_nil r0;obtain rfl:args = #[v0]:=by cases args;simp_all
 obtain⟨rfl,rfl⟩:=trodVars_none hV;have O:=h0;have B:∀ x∈p0,x.block<W.heap.size:=by obtain⟨m,hm⟩:=O;exact DataW.trod_lt m _ _ _ hm
 have J:=Qmq (i 0 31 v0 rfl rfl) h0;clear u hval0;refine(Xxd (fb_of hL) J).calls.mono λe W' ⟨v,he,hv,y⟩=>?_;subst he;subst hv;exact⟨_,rfl,_,_,_,[],_,[],G,trodAll_mk1 (shut_bool Tryz.underlying4 _),(trodAll_cons_mk (Below.trod Qrx kr (oT kr) O y B) trodAll_mk0),rfl,y.frame _,λh=>by cases h⟩
noncomputable def Jhb(os:Os): World :=
 { World.holding Tryz.prog os ⟨#[],#[],[]⟩ with heap:=(World.holding Tryz.prog os ⟨#[],#[],[]⟩).heap.modify 0 (layOn Rows.laid_ordinal_cost_fibonacci) }
theorem Qrw(os:Os): laidMet Tryz.prog Rows.costCoversRow.laid ((Jhb os).forCall (λ_ _=>0) ⟨#[],#[.agg #[.int .i64 0,.int .i64 0,.slice none 0 0,.slice none 0 0,.slice none 0 0,.slice none 0 0]],[]⟩).memory :=
 laidMet_of_run' 8 kr kr
theorem reads(os:Os){H:Type}(enc:TypeId×Value->H): ∃ places,DataW.whole enc Tryz.prog ((Jhb os).forCall (λ_ _=>0) ⟨#[],#[.agg #[.int .i64 0,.int .i64 0,.slice none 0 0,.slice none 0 0,.slice none 0 0,.slice none 0 0]],[]⟩).memory Tryz.f8.params.toList Rows.costCoversSpec.vars false (#[.agg #[.int .i64 0,.int .i64 0,.slice none 0 0,.slice none 0 0,.slice none 0 0,.slice none 0 0]]:Array Value).toList 8=some ([.agg [.lit (.int .i64 0),.lit (.int .i64 0),.nil,.nil,.nil,.nil]],[],places) :=
 ⟨[],kr⟩
theorem Qrp(os:Os)(started:os.Started)(H:Type)(enc:TypeId×Value->H)(F:Stop.Interp):
  ReturnsInHanded {} Tryz.checked os 8 .any ((OpenSpec.ofChange Rows.costCoversSpec).preRow enc Tryz.prog Tryz.f8 Rows.costCoversRow.domain false Rows.costCoversRow.laid) (((OpenSpec.ofChange Rows.costCoversSpec).at F).post enc Tryz.prog Tryz.f8 false true false false):=by
 obtain⟨y,D⟩:=reads os enc;refine returnsInHanded_of_row (C:=Tryz.checked) (s:=OpenSpec.ofChange Rows.costCoversSpec) own started kr Tryz.func8
  (witness_row_at (enc:=enc) (C:=Tryz.checked) false (Jhb os) #[.agg #[.int .i64 0,.int .i64 0,.slice none 0 0,.slice none 0 0,.slice none 0 0,.slice none 0 0]] rfl kr kr kr
   (OpenSpec.preRow_of_cond 8 D kr (λk G=>by cases G) kr (Qrw os))) ?_
 intro W base u Z U i j J _ B _ O _ _;exact Xxh H enc W base u Z U i j J O
theorem said: Rows.CostCoversSaid :=
 OpenClaim.holds_of_cond 8 Tryz.f8 rfl rfl rfl rfl rfl rfl rfl ⟨rfl,rfl,rfl,rfl,rfl⟩ rfl rfl rfl rfl rfl kr Tryz.func8 closed instOk wrapOk
  (λj i H enc _ F=>by rw[OpenClaim.pre_eq_preRow];exact Qrp j i H enc F)
theorem proved: Rows.CostCoversCardSaid :=
 Claim7.holds_tied_plain_at .later [] _ _ _ _ said (λ_ h=>by cases h) kr (λ_ h=>by cases h) costCovers_row_tie rfl ⟨rfl,rfl⟩ kr rfl plain kr
#print axioms proved
end Go.Proofs.YtebiphhfkdbpfaaGreatDoor.costCovers
