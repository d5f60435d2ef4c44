/- The law UnionMembers returns true and leaves its arguments as they were, where they are of bulk at most 1048576. -/
import Derived.Test.YtcdccafgdnblaaaGreatDoorM09
import Derived.Test.YtcdccafgdnblaaaGreatDoorCards
import Derived.Test.YtcdccafgdnblaaaGreatDoorTie
import Derived.WalkKit
import Derived.ProofKit
import Derived.OpenShut
import Derived.Deep.DeepHandedRow
import Derived.SizedLaws
set_option linter.unusedVariables false
set_option maxRecDepth 100000
set_option maxHeartbeats 40000000
namespace Go.Proofs.YtcdccafgdnblaaaGreatDoor.unionMembers
open Go.ChangeShapes Go.WideShapes Go.ChangeAt Go.RowKit Pl Go.Wk
theorem own: ownKnob Tryz.prog.godebug=none:=kr
theorem Qtm: laidOutB Tryz.prog=true:=kr
theorem Xzg(H:Type)(enc:TypeId×Value->H)(W:World)(base:Nat)(args:Array Value)(ds gs:List (DataW H))(before:List MemPlace)(hval0:∀(j:Nat) t v,Tryz.f3.params[j]?=some t->args[j]?=some v->Value.okWide Tryz.prog W .any base t v)(hW:DataW.Whole enc Tryz.prog Tryz.f3.params.toList Rows.unionMembersSpec.vars false W args.toList ds gs before)(hL:laidMetH Tryz.prog Rows.unionMembersUptoRow.laid W)(hk:Rows.uptoSmall H (ds++gs)=true):
  Calls Tryz.prog 3 args W λe W'=>∃ v,e=.returned v/\Rows.unionMembersSpec.post enc Tryz.prog Tryz.f3 false true false false W args v W':=by
 have i:∀(j:Nat) t v,Tryz.f3.params[j]?=some t->args[j]?=some v->Value.okWide Tryz.prog W .any base t v:=hval0;have J:=hW;obtain⟨p,q,o,hV,rfl,a3,a2⟩:=hW;have hA:DataW.TrodAll enc Tryz.prog W 0 (λ_=>true) true Tryz.f3.params.toList args.toList ds p:=o;rw[Tryz.params3]at hA i;obtain⟨v0,a1,d0,a4,p0,q0,G,rfl,rfl,h0,r0⟩:=trodAll_cons hA;obtain⟨rfl,rfl,rfl⟩:=trodAll_nil r0;obtain rfl:args = #[v0]:=by cases args;simp_all
 obtain⟨rfl,rfl⟩:=trodVars_none hV;have D:=oT hk;simp only[List.append_nil,Rows.uptoBulkAll]at D;have Z:=h0;have C:∀ x∈p0,x.block<W.heap.size:=by obtain⟨m,hm⟩:=Z;exact DataW.trod_lt m _ _ _ hm
 have O:=Qpv (i 0 22 v0 rfl rfl) h0 om;clear o hval0;refine(Qfr (Qhd hL) O).calls.mono λe W' ⟨v,he,hv,u⟩=>?_;subst he;subst hv;exact⟨_,rfl,_,_,_,[],_,[],J,trodAll_mk1 (shut_bool Tryz.underlying4 _),(trodAll_cons_mk (Below.trod Qtm kr (oT kr) Z u C) trodAll_mk0),rfl,u.frame _,λh=>by cases h⟩
noncomputable def Jlw(os:Os): World :=
 { World.holding Tryz.prog os ⟨#[],#[],[]⟩ with heap:=(((World.holding Tryz.prog os ⟨#[],#[],[]⟩).heap.modify 1 (Jlt Rows.laid_internal_strconv_uint64pow10)).modify 2 (Jlt Rows.laid_math_bits_deBruijn32tab)).modify 3 (Jlt Rows.laid_math_bits_deBruijn64tab) }
theorem Qtl(os:Os): laidMet Tryz.prog Rows.unionMembersUptoRow.laid ((Jlw os).forCall (λ_ _=>0) ⟨#[],#[.slice none 0 0],[]⟩).memory :=
 laidMet_of_run' 8 kr kr
theorem reads(os:Os){H:Type}(enc:TypeId×Value->H): ∃ places,DataW.whole enc Tryz.prog ((Jlw os).forCall (λ_ _=>0) ⟨#[],#[.slice none 0 0],[]⟩).memory Tryz.f3.params.toList Rows.unionMembersSpec.vars false (#[.slice none 0 0]:Array Value).toList 8=some ([.nil],[],places) :=
 ⟨[],kr⟩
theorem Qth(os:Os)(started:os.Started)(H:Type)(enc:TypeId×Value->H)(F:Stop.Interp):
  ReturnsInHanded {} Tryz.checked os 3 .any ((Rows.OpenSpec.upto Rows.unionMembersSpec).preRow enc Tryz.prog Tryz.f3 Rows.unionMembersUptoRow.domain false Rows.unionMembersUptoRow.laid) (((Rows.OpenSpec.upto Rows.unionMembersSpec).at F).post enc Tryz.prog Tryz.f3 false true false false):=by
 obtain⟨u,D⟩:=reads os enc;refine returnsInHanded_of_row (C:=Tryz.checked) (s:=Rows.OpenSpec.upto Rows.unionMembersSpec) own started kr Tryz.func3
  (witness_row_at (enc:=enc) (C:=Tryz.checked) false (Jlw os) #[.slice none 0 0] rfl kr kr kr
   (OpenSpec.preRow_of_cond 8 D kr (λk G=>by cases G;kernel_rfl) kr (Qtl os))) ?_
 intro W base o ds gs before j J _ i _ O _ _;exact Xzg H enc W base o ds gs before j J O (i _ rfl)
theorem Xkp: joinedFacts Tryz.pinned.checked.prog 3 Tryz.f3 (Rows.OpenSpec.upto Rows.unionMembersSpec).bare Rows.unionMembersUptoRow=true:=by
 unfold joinedFacts;simp only[Bool.and_eq_true];and_intros
 all_goals (as_aux_lemma=>kernel_rfl)
theorem Xjp: Tryz.f3.isInstance Tryz.pinned.checked.prog Rows.unionMembersUptoRow.origin Rows.unionMembersUptoRow.targs:=oT kr
theorem Qdl: Tryz.f3.isWrapper Tryz.pinned.checked.prog Rows.unionMembersUptoRow.wrapper Rows.unionMembersUptoRow.mainSum:=by unfold Func.isWrapper;first|(rw[if_pos (by decide +kernel)];kernel_rfl)|(rw[if_neg (by decide +kernel)];exact⟨rfl,rfl⟩)
theorem said: Rows.UnionMembersUptoSaid :=
 OpenClaim.holds_of_cond 3 Tryz.f3 rfl rfl rfl rfl rfl rfl rfl ⟨rfl,rfl,rfl,rfl,rfl⟩ rfl rfl rfl rfl rfl kr Tryz.func3 Xkp Xjp Qdl
  (λj i H enc _ F=>by rw[OpenClaim.pre_eq_preRow];exact Qth j i H enc F)
theorem plain(f:FuncId)(fn:Func)(hf:Tryz.pinned.checked.prog.funcNamed "ordinal/ordinallaw48.UnionMembers" = some f)(hfn:Tryz.pinned.checked.prog.funcs[f]?=some fn):
  false=Tryz.pinned.checked.prog.looks []/\∀(j:Nat) t,fn.params[j]?=some t->Tryz.pinned.checked.prog.wantsStandIn t=false:=by
 obtain rfl:f=3:=Option.some.inj ((show Tryz.prog.funcNamed "ordinal/ordinallaw48.UnionMembers" = some 3 by kernel_rfl).symm.trans hf) |>.symm;obtain rfl:fn=Tryz.f3:=(Option.some.inj (Tryz.func3.symm.trans hfn)).symm;refine⟨kr,λj t ht=>?_⟩;rw[Tryz.params3]at ht;obtain rfl:t=22:=by simpa using Array.mem_of_getElem? ht
 exact(show Tryz.prog.wantsStandIn 22=false by kernel_rfl)
theorem proved: Rows.UnionMembersUptoCardSaid :=
 Claim7.holds_tied_plain_at .later [] _ _ _ _ said (λ_ h=>by cases h) kr (λ_ h=>by cases h) unionMembersUpto_row_tie rfl ⟨rfl,rfl⟩ kr rfl plain kr
#print axioms proved
end Go.Proofs.YtcdccafgdnblaaaGreatDoor.unionMembers
