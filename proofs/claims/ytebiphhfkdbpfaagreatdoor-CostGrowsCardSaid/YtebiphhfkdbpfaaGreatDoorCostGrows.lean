/- For every input the law CostGrows returns true and leaves its arguments as they were. No condition. -/
import Derived.Test.YtebiphhfkdbpfaaGreatDoorG07
import Derived.Test.YtebiphhfkdbpfaaGreatDoorCostGrowsF
import Derived.Test.YtebiphhfkdbpfaaGreatDoorCards
import Derived.Test.YtebiphhfkdbpfaaGreatDoorTie
import Derived.WalkKit
import Derived.ProofKit
import Derived.OpenShut
import Derived.Deep.DeepHandedRow
import Derived.SizedLaws
set_option linter.unusedVariables false
set_option maxRecDepth 100000
set_option maxHeartbeats 40000000
namespace Go.Proofs.YtebiphhfkdbpfaaGreatDoor.costGrows
open Go.ChangeShapes Go.WideShapes Go.ChangeAt Go.RowKit Pl Go.Wk
theorem Qdl: laidOutB Tryz.prog=true:=kr
theorem Qhz(H:Type)(enc:TypeId×Value->H)(W:World)(base:Nat)(args:Array Value)(ds gs:List (DataW H))(before:List MemPlace)(hval0:∀(j:Nat) t v,Tryz.f5.params[j]?=some t->args[j]?=some v->Value.okWide Tryz.prog W .any base t v)(hW:DataW.Whole enc Tryz.prog Tryz.f5.params.toList Rows.costGrowsSpec.vars false W args.toList ds gs before)(hL:laidMetH Tryz.prog Rows.costGrowsRow.laid W):
  Calls Tryz.prog 5 args W λe W'=>∃ v,e=.returned v/\Rows.costGrowsSpec.post enc Tryz.prog Tryz.f5 false true false false W args v W':=by
 have i:∀(j:Nat) t v,Tryz.f5.params[j]?=some t->args[j]?=some v->Value.okWide Tryz.prog W .any base t v:=hval0;have O:=hW;obtain⟨p,q,B,hV,rfl,a5,a4⟩:=hW;have hA:DataW.TrodAll enc Tryz.prog W 0 (λ_=>true) true Tryz.f5.params.toList args.toList ds p:=B;rw[Tryz.params5]at hA i;obtain⟨v0,a3,d0,a8,p0,q0,J,rfl,rfl,h0,r0⟩:=trodAll_cons hA;obtain⟨v1,a2,d1,a7,p1,q1,rfl,rfl,rfl,h1,r1⟩:=trodAll_cons r0;obtain⟨Z,a1,d2,a6,p2,q2,rfl,rfl,rfl,h2,r2⟩:=trodAll_cons r1;obtain⟨rfl,rfl,rfl⟩:=trodAll_nil r2;obtain rfl:args = #[v0,v1,Z]:=by cases args;simp_all
 obtain⟨rfl,rfl⟩:=trodVars_none hV;have k0:=h0;have G:∀ x∈p0,x.block<W.heap.size:=by obtain⟨m,hm⟩:=k0;exact DataW.trod_lt m _ _ _ hm
 have U:=Qym (i 0 31 v0 rfl rfl) h0;obtain⟨x1,rfl,rfl,rfl,y⟩:=open_int Tryz.underlying5 (i 1 5 v1 rfl rfl) h1;obtain⟨x2,rfl,rfl,rfl,u⟩:=open_int Tryz.underlying5 (i 2 5 Z rfl rfl) h2;clear B hval0;refine(Qhw (fb_of hL) U (bounds_u8 y) (bounds_u8 u)).calls.mono λe W' ⟨v,he,hv,D⟩=>?_;subst he;subst hv;exact⟨_,rfl,_,_,_,[],_,[],O,trodAll_mk1 (shut_bool Tryz.underlying4 _),(trodAll_cons_mk (Below.trod Qdl kr (oT kr) k0 D G) (trodAll_cons_mk (shut_int Tryz.underlying5 y) (trodAll_cons_mk (shut_int Tryz.underlying5 u) trodAll_mk0))),rfl,D.frame _,λh=>by cases h⟩
noncomputable def Jch(os:Os): World :=
 { World.holding Tryz.prog os ⟨#[],#[],[]⟩ with heap:=(World.holding Tryz.prog os ⟨#[],#[],[]⟩).heap.modify 0 (layOn Rows.laid_ordinal_cost_fibonacci) }
theorem Qdk(os:Os): laidMet Tryz.prog Rows.costGrowsRow.laid ((Jch os).forCall (λ_ _=>0) ⟨#[],#[.agg #[.int .i64 0,.int .i64 0,.slice none 0 0,.slice none 0 0,.slice none 0 0,.slice none 0 0],.int .u8 0,.int .u8 0],[]⟩).memory :=
 laidMet_of_run' 8 kr kr
theorem reads(os:Os){H:Type}(enc:TypeId×Value->H): ∃ places,DataW.whole enc Tryz.prog ((Jch os).forCall (λ_ _=>0) ⟨#[],#[.agg #[.int .i64 0,.int .i64 0,.slice none 0 0,.slice none 0 0,.slice none 0 0,.slice none 0 0],.int .u8 0,.int .u8 0],[]⟩).memory Tryz.f5.params.toList Rows.costGrowsSpec.vars false (#[.agg #[.int .i64 0,.int .i64 0,.slice none 0 0,.slice none 0 0,.slice none 0 0,.slice none 0 0],.int .u8 0,.int .u8 0]:Array Value).toList 8=some ([.agg [.lit (.int .i64 0),.lit (.int .i64 0),.nil,.nil,.nil,.nil],.lit (.int .u8 0),.lit (.int .u8 0)],[],places) :=
 ⟨[],kr⟩
theorem Qcz(os:Os)(started:os.Started)(H:Type)(enc:TypeId×Value->H)(F:Stop.Interp):
  ReturnsInHanded {} Tryz.checked os 5 .any ((OpenSpec.ofChange Rows.costGrowsSpec).preRow enc Tryz.prog Tryz.f5 Rows.costGrowsRow.domain false Rows.costGrowsRow.laid) (((OpenSpec.ofChange Rows.costGrowsSpec).at F).post enc Tryz.prog Tryz.f5 false true false false):=by
 obtain⟨y,D⟩:=reads os enc;refine returnsInHanded_of_row (C:=Tryz.checked) (s:=OpenSpec.ofChange Rows.costGrowsSpec) own started kr Tryz.func5
  (witness_row_at (enc:=enc) (C:=Tryz.checked) false (Jch os) #[.agg #[.int .i64 0,.int .i64 0,.slice none 0 0,.slice none 0 0,.slice none 0 0,.slice none 0 0],.int .u8 0,.int .u8 0] rfl kr kr kr
   (OpenSpec.preRow_of_cond 8 D kr (λk G=>by cases G) kr (Qdk os))) ?_
 intro W base u Z U i j J _ B _ O _ _;exact Qhz H enc W base u Z U i j J O
theorem said: Rows.CostGrowsSaid :=
 OpenClaim.holds_of_cond 5 Tryz.f5 rfl rfl rfl rfl rfl rfl rfl ⟨rfl,rfl,rfl,rfl,rfl⟩ rfl rfl rfl rfl rfl kr Tryz.func5 closed instOk wrapOk
  (λj i H enc _ F=>by rw[OpenClaim.pre_eq_preRow];exact Qcz j i H enc F)
theorem proved: Rows.CostGrowsCardSaid :=
 Claim7.holds_tied_plain_at .later [] _ _ _ _ said (λ_ h=>by cases h) kr (λ_ h=>by cases h) costGrows_row_tie rfl ⟨rfl,rfl⟩ kr rfl plain kr
#print axioms proved
end Go.Proofs.YtebiphhfkdbpfaaGreatDoor.costGrows
