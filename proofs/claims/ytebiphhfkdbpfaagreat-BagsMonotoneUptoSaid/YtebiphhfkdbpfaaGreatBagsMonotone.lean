/- The law BagsMonotone returns true and leaves its arguments as they were, where they are of bulk at most 1048576. -/
import Derived.Test.YtebiphhfkdbpfaaGreatM08
import Derived.WalkKit
import Derived.ProofKit
import Derived.OpenShut
import Derived.JoinedCond
set_option linter.unusedVariables false
set_option maxRecDepth 100000
set_option maxHeartbeats 40000000
namespace Go.Proofs.YtebiphhfkdbpfaaGreat.bagsMonotone
open Go.ChangeShapes Go.WideShapes Go.ChangeAt Go.RowKit Pl Go.Wk
theorem own: ownKnob Tryz.prog.godebug=none:=kr
theorem Jpp: laidOutB Tryz.prog=true:=kr
theorem Qnp(H:Type)(enc:TypeId×Value->H)(W:World)(base:Nat)(args:Array Value)(ds gs:List (DataW H))(before:List MemPlace)(hval0:∀(j:Nat) t v,Tryz.f5.params[j]?=some t->args[j]?=some v->Value.okWide Tryz.prog W .any base t v)(hW:DataW.Whole enc Tryz.prog Tryz.f5.params.toList Rows.bagsMonotoneSpec.vars false W args.toList ds gs before)(hk:Rows.uptoSmall H (ds++gs)=true):
  Calls Tryz.prog 5 args W λe W'=>∃ v,e=.returned v/\Rows.bagsMonotoneSpec.post enc Tryz.prog Tryz.f5 false true false false W args v W':=by
 have u:∀(j:Nat) t v,Tryz.f5.params[j]?=some t->args[j]?=some v->Value.okWide Tryz.prog W .any base t v:=hval0;have a1:=hW;obtain⟨p,q,F,hV,rfl,a8,a7⟩:=hW;have hA:DataW.TrodAll enc Tryz.prog W 0 (λ_=>true) true Tryz.f5.params.toList args.toList ds p:=F;rw[Tryz.params5]at hA u;obtain⟨v0,a6,d0,ac,p0,q0,Z,rfl,rfl,h0,r0⟩:=trodAll_cons hA;obtain⟨v1,a5,d1,aa,p1,q1,rfl,rfl,rfl,h1,r1⟩:=trodAll_cons r0;obtain⟨v2,a4,d2,a9,p2,q2,rfl,rfl,rfl,h2,r2⟩:=trodAll_cons r1;obtain⟨rfl,rfl,rfl⟩:=trodAll_nil r2;obtain rfl:args = #[v0,v1,v2]:=by cases args;simp_all
 obtain⟨rfl,rfl⟩:=trodVars_none hV;have U:=oT hk;simp only[List.append_nil,Rows.uptoBulkAll]at U;obtain⟨x0,rfl,rfl,rfl,D⟩:=open_int Tryz.underlying5 (u 0 5 v0 rfl rfl) h0;have k1:=h1;have J:∀ x∈p1,x.block<W.heap.size:=by obtain⟨m,O⟩:=k1;exact DataW.trod_lt m _ _ _ O
 have a3:=Qdf (u 1 31 v1 rfl rfl) h1 om;have k2:=h2;have G:∀ x∈p2,x.block<W.heap.size:=by obtain⟨m,O⟩:=k2;exact DataW.trod_lt m _ _ _ O
 have a2:=Qdc (u 2 59 v2 rfl rfl) h2;clear F hval0;refine(Qsf (bounds_u8 D) a3 a2).calls.mono λe W' ⟨v,he,hv,y⟩=>?_;subst he;subst hv;exact⟨_,rfl,_,_,_,[],_,[],a1,trodAll_mk1 (shut_bool Tryz.underlying4 _),(trodAll_cons_mk (shut_int Tryz.underlying5 D) (trodAll_cons_mk (Below.trod Jpp kr (oT kr) k1 y J) (trodAll_cons_mk (Below.trod Jpp kr (oT kr) k2 y G) trodAll_mk0))),rfl,y.frame _,λh=>by cases h⟩
theorem Qgr(os:Os)(started:os.Started)(H:Type)(enc:TypeId×Value->H)(F:Stop.Interp):
  ReturnsInHanded {} Tryz.checked os 5 .any ((Rows.OpenSpec.upto Rows.bagsMonotoneSpec).pre6 enc Tryz.prog Tryz.f5 Rows.bagsMonotoneUptoRow.domain false) (((Rows.OpenSpec.upto Rows.bagsMonotoneSpec).at F).post enc Tryz.prog Tryz.f5 false true false false):=by
 refine returnsInHanded_of_cond (C:=Tryz.checked) (s:=Rows.OpenSpec.upto Rows.bagsMonotoneSpec) (k:=Rows.uptoSmall) rfl own started kr Tryz.func5
  (OpenSpec.witness (enc:=enc) (C:=Tryz.checked) (s:=Rows.OpenSpec.upto Rows.bagsMonotoneSpec) (k:=Rows.uptoSmall) rfl false ⟨#[],#[.int .u8 0,.slice none 0 0,.agg #[.int .u32 0,.int .u32 0]],[]⟩ 8 kr kr kr
   (x:=([.lit (.int .u8 0),.nil,.agg [.lit (.int .u32 0),.lit (.int .u32 0)]],[],[])) kr rfl kr) ?_
 intro W base D ds O u y J _ G _;exact Qnp H enc W base D ds O u y J G
theorem Qpv: joinedFacts Tryz.pinned.checked.prog 5 Tryz.f5 (Rows.OpenSpec.upto Rows.bagsMonotoneSpec).bare Rows.bagsMonotoneUptoRow=true:=by
 unfold joinedFacts;simp only[Bool.and_eq_true];and_intros
 all_goals (as_aux_lemma=>kernel_rfl)
theorem proved: Rows.BagsMonotoneUptoSaid :=
 OpenClaim.holds_of_cond 5 Tryz.f5 rfl rfl rfl rfl rfl rfl rfl ⟨rfl,rfl,rfl,rfl,rfl⟩ rfl rfl rfl rfl rfl kr Tryz.func5 Qpv
  (oT kr) (by unfold Func.isWrapper;first|(rw[if_pos (by decide +kernel)];kernel_rfl)|(rw[if_neg (by decide +kernel)];exact⟨rfl,rfl⟩))
  (λy u H enc _ F=>Qgr y u H enc F)
#print axioms proved
end Go.Proofs.YtebiphhfkdbpfaaGreat.bagsMonotone
