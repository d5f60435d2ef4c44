/- The law BagsProject returns true and leaves its arguments as they were, where they are of bulk at most 1048576. -/
import Derived.Test.YtebiphhfkdbpfaaGreatP07
import Derived.WalkKit
import Derived.ProofKit
import Derived.OpenShut
import Derived.JoinedCond
set_option linter.unusedVariables false
set_option maxRecDepth 100000
set_option maxHeartbeats 40000000
namespace Go.Proofs.YtebiphhfkdbpfaaGreat.bagsProject
open Go.ChangeShapes Go.WideShapes Go.ChangeAt Go.RowKit Pl Go.Wk
theorem own: ownKnob Tryz.prog.godebug=none:=kr
theorem Qdp: laidOutB Tryz.prog=true:=kr
theorem Qhl(H:Type)(enc:TypeId×Value->H)(W:World)(base:Nat)(args:Array Value)(ds gs:List (DataW H))(before:List MemPlace)(hval0:∀(j:Nat) t v,Tryz.f3.params[j]?=some t->args[j]?=some v->Value.okWide Tryz.prog W .any base t v)(hW:DataW.Whole enc Tryz.prog Tryz.f3.params.toList Rows.bagsProjectSpec.vars false W args.toList ds gs before)(hk:Rows.uptoSmall H (ds++gs)=true):
  Calls Tryz.prog 3 args W λe W'=>∃ v,e=.returned v/\Rows.bagsProjectSpec.post enc Tryz.prog Tryz.f3 false true false false W args v W':=by
 have i:∀(j:Nat) t v,Tryz.f3.params[j]?=some t->args[j]?=some v->Value.okWide Tryz.prog W .any base t v:=hval0;have O:=hW;obtain⟨p,q,y,hV,rfl,a4,a3⟩:=hW;have hA:DataW.TrodAll enc Tryz.prog W 0 (λ_=>true) true Tryz.f3.params.toList args.toList ds p:=y;rw[Tryz.params3]at hA i;obtain⟨v0,a2,d0,a6,p0,q0,J,rfl,rfl,h0,r0⟩:=trodAll_cons hA;obtain⟨Z,a1,d1,a5,p1,q1,rfl,rfl,rfl,h1,r1⟩:=trodAll_cons r0;obtain⟨rfl,rfl,rfl⟩:=trodAll_nil r1;obtain rfl:args = #[v0,Z]:=by cases args;simp_all
 obtain⟨rfl,rfl⟩:=trodVars_none hV;have G:=oT hk;simp only[List.append_nil,Rows.uptoBulkAll]at G;have k0:=h0;have F:∀ x∈p0,x.block<W.heap.size:=by obtain⟨m,hm⟩:=k0;exact DataW.trod_lt m _ _ _ hm
 have U:=Qyr (i 0 24 v0 rfl rfl) h0 om;obtain⟨x1,rfl,rfl,rfl,u⟩:=open_int Tryz.underlying25 (i 1 25 Z rfl rfl) h1;clear y hval0;refine(Qnd U (bounds_u32 u)).calls.mono λe W' ⟨v,he,hv,D⟩=>?_;subst he;subst hv;exact⟨_,rfl,_,_,_,[],_,[],O,trodAll_mk1 (shut_bool Tryz.underlying4 _),(trodAll_cons_mk (Below.trod Qdp kr (oT kr) k0 D F) (trodAll_cons_mk (shut_int Tryz.underlying25 u) trodAll_mk0)),rfl,D.frame _,λh=>by cases h⟩
theorem Qdd(os:Os)(started:os.Started)(H:Type)(enc:TypeId×Value->H)(F:Stop.Interp):
  ReturnsInHanded {} Tryz.checked os 3 .any ((Rows.OpenSpec.upto Rows.bagsProjectSpec).pre6 enc Tryz.prog Tryz.f3 Rows.bagsProjectUptoRow.domain false) (((Rows.OpenSpec.upto Rows.bagsProjectSpec).at F).post enc Tryz.prog Tryz.f3 false true false false):=by
 refine returnsInHanded_of_cond (C:=Tryz.checked) (s:=Rows.OpenSpec.upto Rows.bagsProjectSpec) (k:=Rows.uptoSmall) rfl own started kr Tryz.func3
  (OpenSpec.witness (enc:=enc) (C:=Tryz.checked) (s:=Rows.OpenSpec.upto Rows.bagsProjectSpec) (k:=Rows.uptoSmall) rfl false ⟨#[],#[.agg #[.int .u8 0,.slice none 0 0,.int .u8 0],.int .u32 0],[]⟩ 8 kr kr kr
   (x:=([.agg [.lit (.int .u8 0),.nil,.lit (.int .u8 0)],.lit (.int .u32 0)],[],[])) kr rfl kr) ?_
 intro W base u J G i j D _ y _;exact Qhl H enc W base u J G i j D y
theorem Qlr: joinedFacts Tryz.pinned.checked.prog 3 Tryz.f3 (Rows.OpenSpec.upto Rows.bagsProjectSpec).bare Rows.bagsProjectUptoRow=true:=by
 unfold joinedFacts;simp only[Bool.and_eq_true];and_intros
 all_goals (as_aux_lemma=>kernel_rfl)
theorem proved: Rows.BagsProjectUptoSaid :=
 OpenClaim.holds_of_cond 3 Tryz.f3 rfl rfl rfl rfl rfl rfl rfl ⟨rfl,rfl,rfl,rfl,rfl⟩ rfl rfl rfl rfl rfl kr Tryz.func3 Qlr
  (oT kr) (by unfold Func.isWrapper;first|(rw[if_pos (by decide +kernel)];kernel_rfl)|(rw[if_neg (by decide +kernel)];exact⟨rfl,rfl⟩))
  (λj i H enc _ F=>Qdd j i H enc F)
#print axioms proved
end Go.Proofs.YtebiphhfkdbpfaaGreat.bagsProject
