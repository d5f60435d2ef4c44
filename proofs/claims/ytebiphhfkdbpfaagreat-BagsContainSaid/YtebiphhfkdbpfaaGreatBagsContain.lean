/- The law BagsContain returns true and leaves its arguments as they were. No condition. -/
import Derived.Test.YtebiphhfkdbpfaaGreatD08
import Derived.WalkKit
import Derived.ProofKit
import Derived.OpenShut
import Derived.SizedLaws
import Derived.JoinedOf
set_option linter.unusedVariables false
set_option maxRecDepth 100000
set_option maxHeartbeats 40000000
namespace Go.Proofs.YtebiphhfkdbpfaaGreat.bagsContain
open Go.ChangeShapes Go.WideShapes Go.ChangeAt Go.RowKit Pl Go.Wk
theorem own: ownKnob Tryz.prog.godebug=none:=kr
theorem Qhw: laidOutB Tryz.prog=true:=kr
theorem Qpf(H:Type)(enc:TypeId×Value->H)(W:World)(base:Nat)(args:Array Value)(ds gs:List (DataW H))(before:List MemPlace)(hval0:∀(j:Nat) t v,Tryz.f4.params[j]?=some t->args[j]?=some v->Value.okWide Tryz.prog W .any base t v)(hW:DataW.Whole enc Tryz.prog Tryz.f4.params.toList Rows.bagsContainSpec.vars false W args.toList ds gs before)(hwt:(DataW.weightsEach Tryz.prog (Tryz.f4.params.toList++Rows.bagsContainSpec.plain.varTypes Tryz.prog) (ds++gs)).all (·<=reachBytes)=true):
  Calls Tryz.prog 4 args W λe W'=>∃ v,e=.returned v/\Rows.bagsContainSpec.post enc Tryz.prog Tryz.f4 false true false false W args v W':=by
 have u:∀(j:Nat) t v,Tryz.f4.params[j]?=some t->args[j]?=some v->Value.okWide Tryz.prog W .any base t v:=hval0;have U:=hW;obtain⟨p,q,F,hV,rfl,a5,a4⟩:=hW;have hA:DataW.TrodAll enc Tryz.prog W 0 (λ_=>true) true Tryz.f4.params.toList args.toList ds p:=F;rw[Tryz.params4]at hA u;obtain⟨v0,a3,d0,a8,p0,q0,O,rfl,rfl,h0,r0⟩:=trodAll_cons hA;obtain⟨v1,a2,d1,a7,p1,q1,rfl,rfl,rfl,h1,r1⟩:=trodAll_cons r0;obtain⟨v2,a1,d2,a6,p2,q2,rfl,rfl,rfl,h2,r2⟩:=trodAll_cons r1;obtain⟨rfl,rfl,rfl⟩:=trodAll_nil r2;obtain rfl:args = #[v0,v1,v2]:=by cases args;simp_all
 obtain⟨rfl,rfl⟩:=trodVars_none hV;obtain⟨x0,rfl,rfl,rfl,D⟩:=open_int Tryz.underlying5 (u 0 5 v0 rfl rfl) h0;have k1:=h1;have J:∀ x∈p1,x.block<W.heap.size:=by obtain⟨m,hm⟩:=k1;exact DataW.trod_lt m _ _ _ hm
 have Z:=Qfb (u 1 31 v1 rfl rfl) h1 (λn hn=>by have:=List.all_eq_true.1 hwt n (DataW.weights_mem_each (j:=1) rfl rfl n hn);simpa using this);obtain⟨x2,rfl,rfl,rfl,y⟩:=open_int Tryz.underlying25 (u 2 25 v2 rfl rfl) h2;clear F hval0;refine(Qsx (bounds_u8 D) Z (bounds_u32 y)).calls.mono λe W' ⟨v,he,hv,G⟩=>?_;subst he;subst hv;exact⟨_,rfl,_,_,_,[],_,[],U,trodAll_mk1 (shut_bool Tryz.underlying4 _),(trodAll_cons_mk (shut_int Tryz.underlying5 D) (trodAll_cons_mk (Below.trod Qhw kr (oT kr) k1 G J) (trodAll_cons_mk (shut_int Tryz.underlying25 y) trodAll_mk0))),rfl,G.frame _,λh=>by cases h⟩
theorem Qhl(os:Os)(started:os.Started)(H:Type)(enc:TypeId×Value->H):
  ReturnsInHanded {} Tryz.checked os 4 .any (Rows.bagsContainSpec.pre6 enc Tryz.prog Tryz.f4 Rows.bagsContainRow.domain false) (Rows.bagsContainSpec.post enc Tryz.prog Tryz.f4 false true false false):=by
 refine returnsInHanded_of_change_sized (C:=Tryz.checked) own started kr Tryz.func4
  (ChangeSpec.witness6 (enc:=enc) (C:=Tryz.checked) false ⟨#[],#[.int .u8 0,.slice none 0 0,.int .u32 0],[]⟩ 8 kr kr kr kr) ?_
 intro W base D ds O u y J G F _;exact Qpf H enc W base D ds O u y J F
theorem Qrn: joinedFacts Tryz.pinned.checked.prog 4 Tryz.f4 (Rows.bagsContainSpec) Rows.bagsContainRow=true:=by
 unfold joinedFacts;simp only[Bool.and_eq_true];and_intros
 all_goals (as_aux_lemma=>kernel_rfl)
theorem proved: Rows.BagsContainSaid :=
 OpenClaim.holds_of_wide 4 Tryz.f4 rfl rfl rfl rfl rfl rfl rfl ⟨rfl,rfl,rfl,rfl,rfl⟩ rfl rfl rfl rfl rfl kr Tryz.func4 Qrn
  (oT kr) (by unfold Func.isWrapper;first|(rw[if_pos (by decide +kernel)];kernel_rfl)|(rw[if_neg (by decide +kernel)];exact⟨rfl,rfl⟩))
  (λy u H enc _=>Qhl y u H enc)
#print axioms proved
end Go.Proofs.YtebiphhfkdbpfaaGreat.bagsContain
