/- The law BagsProject returns true and leaves its arguments as they were. No condition. -/
import Derived.Test.YtebiphhfkdbpfaaGreatP07
import Derived.WalkKit
import Derived.ProofKit
import Derived.OpenShut
import Derived.SizedLaws
import Derived.JoinedOf
set_option linter.unusedVariables false
set_option maxRecDepth 100000
set_option maxHeartbeats 40000000
namespace Go.Proofs.YtebiphhfkdbpfaaGreat.bagsProject
open Go.ChangeShapes Go.WideShapes Go.ChangeAt Go.RowKit Pl Go.Wk
theorem own: ownKnob Tryz.prog.godebug=none:=kr
theorem Qff: laidOutB Tryz.prog=true:=kr
theorem Qld(H:Type)(enc:TypeId×Value->H)(W:World)(base:Nat)(args:Array Value)(ds gs:List (DataW H))(before:List MemPlace)(hval0:∀(j:Nat) t v,Tryz.f3.params[j]?=some t->args[j]?=some v->Value.okWide Tryz.prog W .any base t v)(hW:DataW.Whole enc Tryz.prog Tryz.f3.params.toList Rows.bagsProjectSpec.vars false W args.toList ds gs before):
  Calls Tryz.prog 3 args W λe W'=>∃ v,e=.returned v/\Rows.bagsProjectSpec.post enc Tryz.prog Tryz.f3 false true false false W args v W':=by
 have u:∀(j:Nat) t v,Tryz.f3.params[j]?=some t->args[j]?=some v->Value.okWide Tryz.prog W .any base t v:=hval0;have O:=hW;obtain⟨p,q,D,hV,rfl,a4,a3⟩:=hW;have hA:DataW.TrodAll enc Tryz.prog W 0 (λ_=>true) true Tryz.f3.params.toList args.toList ds p:=D;rw[Tryz.params3]at hA u;obtain⟨v0,a2,d0,a6,p0,q0,J,rfl,rfl,h0,r0⟩:=trodAll_cons hA;obtain⟨Z,a1,d1,a5,p1,q1,rfl,rfl,rfl,h1,r1⟩:=trodAll_cons r0;obtain⟨rfl,rfl,rfl⟩:=trodAll_nil r1;obtain rfl:args = #[v0,Z]:=by cases args;simp_all
 obtain⟨rfl,rfl⟩:=trodVars_none hV;have k0:=h0;have G:∀ x∈p0,x.block<W.heap.size:=by obtain⟨m,hm⟩:=k0;exact DataW.trod_lt m _ _ _ hm
 have U:=Qbg (u 0 24 v0 rfl rfl) h0;obtain⟨x1,rfl,rfl,rfl,y⟩:=open_int Tryz.underlying25 (u 1 25 Z rfl rfl) h1;clear D hval0;refine(Qns U (bounds_u32 y)).calls.mono λe W' ⟨v,he,hv,F⟩=>?_;subst he;subst hv;exact⟨_,rfl,_,_,_,[],_,[],O,trodAll_mk1 (shut_bool Tryz.underlying4 _),(trodAll_cons_mk (Below.trod Qff kr (oT kr) k0 F G) (trodAll_cons_mk (shut_int Tryz.underlying25 y) trodAll_mk0)),rfl,F.frame _,λh=>by cases h⟩
theorem Qdr(os:Os)(started:os.Started)(H:Type)(enc:TypeId×Value->H):
  ReturnsInHanded {} Tryz.checked os 3 .any (Rows.bagsProjectSpec.pre6 enc Tryz.prog Tryz.f3 Rows.bagsProjectRow.domain false) (Rows.bagsProjectSpec.post enc Tryz.prog Tryz.f3 false true false false):=by
 refine returnsInHanded_of_change_sized (C:=Tryz.checked) own started kr Tryz.func3
  (ChangeSpec.witness6 (enc:=enc) (C:=Tryz.checked) false ⟨#[],#[.agg #[.int .u8 0,.slice none 0 0,.int .u8 0],.int .u32 0],[]⟩ 8 kr kr kr kr) ?_
 intro W base D ds O u y J F G _;exact Qld H enc W base D ds O u y J
theorem Qmk: joinedFacts Tryz.pinned.checked.prog 3 Tryz.f3 (Rows.bagsProjectSpec) Rows.bagsProjectRow=true:=by
 unfold joinedFacts;simp only[Bool.and_eq_true];and_intros
 all_goals (as_aux_lemma=>kernel_rfl)
theorem proved: Rows.BagsProjectSaid :=
 OpenClaim.holds_of_wide 3 Tryz.f3 rfl rfl rfl rfl rfl rfl rfl ⟨rfl,rfl,rfl,rfl,rfl⟩ rfl rfl rfl rfl rfl kr Tryz.func3 Qmk
  (oT kr) (by unfold Func.isWrapper;first|(rw[if_pos (by decide +kernel)];kernel_rfl)|(rw[if_neg (by decide +kernel)];exact⟨rfl,rfl⟩))
  (λy u H enc _=>Qdr y u H enc)
#print axioms proved
end Go.Proofs.YtebiphhfkdbpfaaGreat.bagsProject
