/- The law CostHeights returns true and leaves its arguments as they were, where they are of bulk at most 1048576. -/
import Derived.Test.YtebiphhfkdbpfaaGreatDoorH06
import Derived.Test.YtebiphhfkdbpfaaGreatDoorHz
import Derived.Test.YtebiphhfkdbpfaaGreatDoorCards
import Derived.Test.YtebiphhfkdbpfaaGreatDoorTie
import Derived.WalkKit
import Derived.ProofKit
import Derived.OpenShut
import Derived.Deep.DeepHandedRow
import Derived.SizedLaws
set_option linter.unusedVariables false
set_option maxRecDepth 100000
set_option maxHeartbeats 40000000
namespace Go.Proofs.YtebiphhfkdbpfaaGreatDoor.costHeights
open Go.ChangeShapes Go.WideShapes Go.ChangeAt Go.RowKit Pl Go.Wk
theorem Qww: laidOutB Tryz.prog=true:=kr
theorem Qcg(H:Type)(enc:TypeId×Value->H)(W:World)(base:Nat)(args:Array Value)(ds gs:List (DataW H))(before:List MemPlace)(hval0:∀(j:Nat) t v,Tryz.f3.params[j]?=some t->args[j]?=some v->Value.okWide Tryz.prog W .any base t v)(hW:DataW.Whole enc Tryz.prog Tryz.f3.params.toList Rows.costHeightsSpec.vars false W args.toList ds gs before)(hL:laidMetH Tryz.prog Rows.costHeightsUptoRow.laid W)(hk:Rows.uptoSmall H (ds++gs)=true):
  Calls Tryz.prog 3 args W λe W'=>∃ v,e=.returned v/\Rows.costHeightsSpec.post enc Tryz.prog Tryz.f3 false true false false W args v W':=by
 have i:∀(j:Nat) t v,Tryz.f3.params[j]?=some t->args[j]?=some v->Value.okWide Tryz.prog W .any base t v:=hval0;have J:=hW;obtain⟨p,q,u,hV,rfl,a3,a2⟩:=hW;have Z:DataW.TrodAll enc Tryz.prog W 0 (λ_=>true) true Tryz.f3.params.toList args.toList ds p:=u;rw[Tryz.params3]at Z i;obtain⟨v0,a1,d0,a4,p0,q0,G,rfl,rfl,h0,r0⟩:=trodAll_cons Z;obtain⟨rfl,rfl,rfl⟩:=trodAll_nil r0;obtain rfl:args = #[v0]:=by cases args;simp_all
 obtain⟨rfl,rfl⟩:=trodVars_none hV;have F:=oT hk;simp only[List.append_nil,Rows.uptoBulkAll]at F;have U:=h0;have D:∀ x∈p0,x.block<W.heap.size:=by obtain⟨m,hm⟩:=U;exact DataW.trod_lt m _ _ _ hm
 have O:=Qzd (i 0 22 v0 rfl rfl) h0 om;clear u hval0;refine(Qcc (Jsx hL) O).calls.mono λe W' ⟨v,he,hv,y⟩=>?_;subst he;subst hv;exact⟨_,rfl,_,_,_,[],_,[],J,trodAll_mk1 (shut_bool Tryz.underlying4 _),(trodAll_cons_mk (Below.trod Qww kr (oT kr) U y D) trodAll_mk0),rfl,y.frame _,λh=>by cases h⟩
noncomputable def Jyc(os:Os): World :=
 { World.holding Tryz.prog os ⟨#[],#[],[]⟩ with heap:=(World.holding Tryz.prog os ⟨#[],#[],[]⟩).heap.modify 0 (layOn Rows.laid_ordinal_cost_fibonacci) }
theorem Qwv(os:Os): laidMet Tryz.prog Rows.costHeightsUptoRow.laid ((Jyc os).forCall (λ_ _=>0) ⟨#[],#[.slice none 0 0],[]⟩).memory :=
 laidMet_of_run' 8 kr kr
theorem reads(os:Os){H:Type}(enc:TypeId×Value->H): ∃ places,DataW.whole enc Tryz.prog ((Jyc os).forCall (λ_ _=>0) ⟨#[],#[.slice none 0 0],[]⟩).memory Tryz.f3.params.toList Rows.costHeightsSpec.vars false (#[.slice none 0 0]:Array Value).toList 8=some ([.nil],[],places) :=
 ⟨[],kr⟩
theorem Qwl(os:Os)(started:os.Started)(H:Type)(enc:TypeId×Value->H)(F:Stop.Interp):
  ReturnsInHanded {} Tryz.checked os 3 .any ((Rows.OpenSpec.upto Rows.costHeightsSpec).preRow enc Tryz.prog Tryz.f3 Rows.costHeightsUptoRow.domain false Rows.costHeightsUptoRow.laid) (((Rows.OpenSpec.upto Rows.costHeightsSpec).at F).post enc Tryz.prog Tryz.f3 false true false false):=by
 obtain⟨D,G⟩:=reads os enc;refine returnsInHanded_of_row (C:=Tryz.checked) (s:=Rows.OpenSpec.upto Rows.costHeightsSpec) own started kr Tryz.func3
  (witness_row_at (enc:=enc) (C:=Tryz.checked) false (Jyc os) #[.slice none 0 0] rfl kr kr kr
   (OpenSpec.preRow_of_cond 8 G kr (λk J=>by cases J;kernel_rfl) kr (Qwv os))) ?_
 intro W base y ds Z i u O _ j _ U _ _;exact Qcg H enc W base y ds Z i u O U (j _ rfl)
theorem said: Rows.CostHeightsUptoSaid :=
 OpenClaim.holds_of_cond 3 Tryz.f3 rfl rfl rfl rfl rfl rfl rfl ⟨rfl,rfl,rfl,rfl,rfl⟩ rfl rfl rfl rfl rfl kr Tryz.func3 closed instOk wrapOk
  (λj i H enc _ F=>by rw[OpenClaim.pre_eq_preRow];exact Qwl j i H enc F)
theorem proved: Rows.CostHeightsUptoCardSaid :=
 Claim7.holds_tied_plain_at .later [] _ _ _ _ said (λ_ h=>by cases h) kr (λ_ h=>by cases h) costHeightsUpto_row_tie rfl ⟨rfl,rfl⟩ kr rfl plain kr
#print axioms proved
end Go.Proofs.YtebiphhfkdbpfaaGreatDoor.costHeights
