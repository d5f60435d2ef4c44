/- For every input the law CostInside returns true and leaves its arguments as they were. No condition. -/
import Derived.Test.YtebiphhfkdbpfaaGreatDoorI07
import Derived.Test.YtebiphhfkdbpfaaGreatDoorCostInsideF
import Derived.Test.YtebiphhfkdbpfaaGreatDoorCards
import Derived.Test.YtebiphhfkdbpfaaGreatDoorTie
import Derived.WalkKit
import Derived.ProofKit
import Derived.OpenShut
import Derived.Deep.DeepHandedRow
import Derived.SizedLaws
set_option linter.unusedVariables false
set_option maxRecDepth 100000
set_option maxHeartbeats 40000000
namespace Go.Proofs.YtebiphhfkdbpfaaGreatDoor.costInside
open Go.ChangeShapes Go.WideShapes Go.ChangeAt Go.RowKit Pl Go.Wk
theorem Jnz: laidOutB Tryz.prog=true:=kr
theorem Qld(H:Type)(enc:TypeId×Value->H)(W:World)(base:Nat)(args:Array Value)(ds gs:List (DataW H))(before:List MemPlace)(hval0:∀(j:Nat) t v,Tryz.f7.params[j]?=some t->args[j]?=some v->Value.okWide Tryz.prog W .any base t v)(hW:DataW.Whole enc Tryz.prog Tryz.f7.params.toList Rows.costInsideSpec.vars false W args.toList ds gs before)(hL:laidMetH Tryz.prog Rows.costInsideRow.laid W):
  Calls Tryz.prog 7 args W λe W'=>∃ v,e=.returned v/\Rows.costInsideSpec.post enc Tryz.prog Tryz.f7 false true false false W args v W':=by
 have i:∀(j:Nat) t v,Tryz.f7.params[j]?=some t->args[j]?=some v->Value.okWide Tryz.prog W .any base t v:=hval0;have O:=hW;obtain⟨p,q,y,hV,rfl,a4,a3⟩:=hW;have hA:DataW.TrodAll enc Tryz.prog W 0 (λ_=>true) true Tryz.f7.params.toList args.toList ds p:=y;rw[Tryz.params7]at hA i;obtain⟨v0,a2,d0,a6,p0,q0,J,rfl,rfl,h0,r0⟩:=trodAll_cons hA;obtain⟨v1,a1,d1,a5,p1,q1,rfl,rfl,rfl,h1,r1⟩:=trodAll_cons r0;obtain⟨rfl,rfl,rfl⟩:=trodAll_nil r1;obtain rfl:args = #[v0,v1]:=by cases args;simp_all
 obtain⟨rfl,rfl⟩:=trodVars_none hV;have k0:=h0;have D:∀ x∈p0,x.block<W.heap.size:=by obtain⟨m,G⟩:=k0;exact DataW.trod_lt m _ _ _ G
 have Z:=Qyr (i 0 31 v0 rfl rfl) h0;have k1:=h1;have B:∀ x∈p1,x.block<W.heap.size:=by obtain⟨m,G⟩:=k1;exact DataW.trod_lt m _ _ _ G
 have U:=Qyj (i 1 74 v1 rfl rfl) h1;clear y hval0;refine(Qlb (fb_of hL) Z U).calls.mono λe W' ⟨v,he,hv,u⟩=>?_;subst he;subst hv;exact⟨_,rfl,_,_,_,[],_,[],O,trodAll_mk1 (shut_bool Tryz.underlying4 _),(trodAll_cons_mk (Below.trod Jnz kr (oT kr) k0 u D) (trodAll_cons_mk (Below.trod Jnz kr (oT kr) k1 u B) trodAll_mk0)),rfl,u.frame _,λh=>by cases h⟩
noncomputable def Jcj(os:Os): World :=
 { World.holding Tryz.prog os ⟨#[],#[],[]⟩ with heap:=(World.holding Tryz.prog os ⟨#[],#[],[]⟩).heap.modify 0 (layOn Rows.laid_ordinal_cost_fibonacci) }
theorem Qdq(os:Os): laidMet Tryz.prog Rows.costInsideRow.laid ((Jcj os).forCall (λ_ _=>0) ⟨#[],#[.agg #[.int .i64 0,.int .i64 0,.slice none 0 0,.slice none 0 0,.slice none 0 0,.slice none 0 0],.slice none 0 0],[]⟩).memory :=
 laidMet_of_run' 8 kr kr
theorem reads(os:Os){H:Type}(enc:TypeId×Value->H): ∃ places,DataW.whole enc Tryz.prog ((Jcj os).forCall (λ_ _=>0) ⟨#[],#[.agg #[.int .i64 0,.int .i64 0,.slice none 0 0,.slice none 0 0,.slice none 0 0,.slice none 0 0],.slice none 0 0],[]⟩).memory Tryz.f7.params.toList Rows.costInsideSpec.vars false (#[.agg #[.int .i64 0,.int .i64 0,.slice none 0 0,.slice none 0 0,.slice none 0 0,.slice none 0 0],.slice none 0 0]:Array Value).toList 8=some ([.agg [.lit (.int .i64 0),.lit (.int .i64 0),.nil,.nil,.nil,.nil],.nil],[],places) :=
 ⟨[],kr⟩
theorem Qdg(os:Os)(started:os.Started)(H:Type)(enc:TypeId×Value->H)(F:Stop.Interp):
  ReturnsInHanded {} Tryz.checked os 7 .any ((OpenSpec.ofChange Rows.costInsideSpec).preRow enc Tryz.prog Tryz.f7 Rows.costInsideRow.domain false Rows.costInsideRow.laid) (((OpenSpec.ofChange Rows.costInsideSpec).at F).post enc Tryz.prog Tryz.f7 false true false false):=by
 obtain⟨y,D⟩:=reads os enc;refine returnsInHanded_of_row (C:=Tryz.checked) (s:=OpenSpec.ofChange Rows.costInsideSpec) own started kr Tryz.func7
  (witness_row_at (enc:=enc) (C:=Tryz.checked) false (Jcj os) #[.agg #[.int .i64 0,.int .i64 0,.slice none 0 0,.slice none 0 0,.slice none 0 0,.slice none 0 0],.slice none 0 0] rfl kr kr kr
   (OpenSpec.preRow_of_cond 8 D kr (λk G=>by cases G) kr (Qdq os))) ?_
 intro W base u Z U i j J _ B _ O _ _;exact Qld H enc W base u Z U i j J O
theorem said: Rows.CostInsideSaid :=
 OpenClaim.holds_of_cond 7 Tryz.f7 rfl rfl rfl rfl rfl rfl rfl ⟨rfl,rfl,rfl,rfl,rfl⟩ rfl rfl rfl rfl rfl kr Tryz.func7 closed instOk wrapOk
  (λj i H enc _ F=>by rw[OpenClaim.pre_eq_preRow];exact Qdg j i H enc F)
theorem proved: Rows.CostInsideCardSaid :=
 Claim7.holds_tied_plain_at .later [] _ _ _ _ said (λ_ h=>by cases h) kr (λ_ h=>by cases h) costInside_row_tie rfl ⟨rfl,rfl⟩ kr rfl plain kr
#print axioms proved
end Go.Proofs.YtebiphhfkdbpfaaGreatDoor.costInside
