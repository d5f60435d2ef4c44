/- The law BagsContain returns true and leaves its arguments as they were, where they are of bulk at most 1048576. -/
import Derived.Test.YtebiphhfkdbpfaaGreatC08
import Derived.WalkKit
import Derived.ProofKit
import Derived.OpenShut
import Derived.JoinedCond
set_option linter.unusedVariables false
set_option maxRecDepth 100000
set_option maxHeartbeats 40000000
namespace Go.Proofs.YtebiphhfkdbpfaaGreat.bagsContain
open Go.ChangeShapes Go.WideShapes Go.ChangeAt Go.RowKit Pl Go.Wk
theorem own: ownKnob Tryz.prog.godebug=none:=kr
theorem Qhd: laidOutB Tryz.prog=true:=kr
theorem Qnj(H:Type)(enc:TypeId×Value->H)(W:World)(base:Nat)(args:Array Value)(ds gs:List (DataW H))(before:List MemPlace)(hval0:∀(j:Nat) t v,Tryz.f4.params[j]?=some t->args[j]?=some v->Value.okWide Tryz.prog W .any base t v)(hW:DataW.Whole enc Tryz.prog Tryz.f4.params.toList Rows.bagsContainSpec.vars false W args.toList ds gs before)(hk:Rows.uptoSmall H (ds++gs)=true):
  Calls Tryz.prog 4 args W λe W'=>∃ v,e=.returned v/\Rows.bagsContainSpec.post enc Tryz.prog Tryz.f4 false true false false W args v W':=by
 have i:∀(j:Nat) t v,Tryz.f4.params[j]?=some t->args[j]?=some v->Value.okWide Tryz.prog W .any base t v:=hval0;have U:=hW;obtain⟨p,q,D,hV,rfl,a5,a4⟩:=hW;have hA:DataW.TrodAll enc Tryz.prog W 0 (λ_=>true) true Tryz.f4.params.toList args.toList ds p:=D;rw[Tryz.params4]at hA i;obtain⟨v0,a3,d0,a8,p0,q0,O,rfl,rfl,h0,r0⟩:=trodAll_cons hA;obtain⟨v1,a2,d1,a7,p1,q1,rfl,rfl,rfl,h1,r1⟩:=trodAll_cons r0;obtain⟨v2,a1,d2,a6,p2,q2,rfl,rfl,rfl,h2,r2⟩:=trodAll_cons r1;obtain⟨rfl,rfl,rfl⟩:=trodAll_nil r2;obtain rfl:args = #[v0,v1,v2]:=by cases args;simp_all
 obtain⟨rfl,rfl⟩:=trodVars_none hV;have J:=oT hk;simp only[List.append_nil,Rows.uptoBulkAll]at J;obtain⟨x0,rfl,rfl,rfl,y⟩:=open_int Tryz.underlying5 (i 0 5 v0 rfl rfl) h0;have k1:=h1;have G:∀ x∈p1,x.block<W.heap.size:=by obtain⟨m,hm⟩:=k1;exact DataW.trod_lt m _ _ _ hm
 have Z:=Qdh (i 1 31 v1 rfl rfl) h1 om;obtain⟨x2,rfl,rfl,rfl,u⟩:=open_int Tryz.underlying25 (i 2 25 v2 rfl rfl) h2;clear D hval0;refine(Qsf (bounds_u8 y) Z (bounds_u32 u)).calls.mono λe W' ⟨v,he,hv,F⟩=>?_;subst he;subst hv;exact⟨_,rfl,_,_,_,[],_,[],U,trodAll_mk1 (shut_bool Tryz.underlying4 _),(trodAll_cons_mk (shut_int Tryz.underlying5 y) (trodAll_cons_mk (Below.trod Qhd kr (oT kr) k1 F G) (trodAll_cons_mk (shut_int Tryz.underlying25 u) trodAll_mk0))),rfl,F.frame _,λh=>by cases h⟩
theorem Qgs(os:Os)(started:os.Started)(H:Type)(enc:TypeId×Value->H)(F:Stop.Interp):
  ReturnsInHanded {} Tryz.checked os 4 .any ((Rows.OpenSpec.upto Rows.bagsContainSpec).pre6 enc Tryz.prog Tryz.f4 Rows.bagsContainUptoRow.domain false) (((Rows.OpenSpec.upto Rows.bagsContainSpec).at F).post enc Tryz.prog Tryz.f4 false true false false):=by
 refine returnsInHanded_of_cond (C:=Tryz.checked) (s:=Rows.OpenSpec.upto Rows.bagsContainSpec) (k:=Rows.uptoSmall) rfl own started kr Tryz.func4
  (OpenSpec.witness (enc:=enc) (C:=Tryz.checked) (s:=Rows.OpenSpec.upto Rows.bagsContainSpec) (k:=Rows.uptoSmall) rfl false ⟨#[],#[.int .u8 0,.slice none 0 0,.int .u32 0],[]⟩ 8 kr kr kr
   (x:=([.lit (.int .u8 0),.nil,.lit (.int .u32 0)],[],[])) kr rfl kr) ?_
 intro W base u J G i j D _ y _;exact Qnj H enc W base u J G i j D y
theorem Qpr: joinedFacts Tryz.pinned.checked.prog 4 Tryz.f4 (Rows.OpenSpec.upto Rows.bagsContainSpec).bare Rows.bagsContainUptoRow=true:=by
 unfold joinedFacts;simp only[Bool.and_eq_true];and_intros
 all_goals (as_aux_lemma=>kernel_rfl)
theorem proved: Rows.BagsContainUptoSaid :=
 OpenClaim.holds_of_cond 4 Tryz.f4 rfl rfl rfl rfl rfl rfl rfl ⟨rfl,rfl,rfl,rfl,rfl⟩ rfl rfl rfl rfl rfl kr Tryz.func4 Qpr
  (oT kr) (by unfold Func.isWrapper;first|(rw[if_pos (by decide +kernel)];kernel_rfl)|(rw[if_neg (by decide +kernel)];exact⟨rfl,rfl⟩))
  (λj i H enc _ F=>Qgs j i H enc F)
#print axioms proved
end Go.Proofs.YtebiphhfkdbpfaaGreat.bagsContain
