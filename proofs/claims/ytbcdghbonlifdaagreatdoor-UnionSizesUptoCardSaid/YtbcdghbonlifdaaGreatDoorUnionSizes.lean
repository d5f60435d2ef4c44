/- The law UnionSizes returns true and leaves its arguments as they were, where they are of bulk at most 1048576. -/
import Derived.Test.YtbcdghbonlifdaaGreatDoorZ09
import Derived.Test.YtbcdghbonlifdaaGreatDoorCards
import Derived.Test.YtbcdghbonlifdaaGreatDoorTie
import Derived.WalkKit
import Derived.ProofKit
import Derived.OpenShut
import Derived.Deep.DeepHandedRow
import Derived.SizedLaws
set_option linter.unusedVariables false
set_option maxRecDepth 100000
set_option maxHeartbeats 40000000
namespace Go.Proofs.YtbcdghbonlifdaaGreatDoor.unionSizes
open Go.ChangeShapes Go.WideShapes Go.ChangeAt Go.RowKit Pl Go.Wk
theorem own: ownKnob Tryz.prog.godebug=none:=kr
theorem Qtx: laidOutB Tryz.prog=true:=kr
theorem Xzn(H:Type)(enc:TypeId×Value->H)(W:World)(base:Nat)(args:Array Value)(ds gs:List (DataW H))(before:List MemPlace)(hval0:∀(j:Nat) t v,Tryz.f6.params[j]?=some t->args[j]?=some v->Value.okWide Tryz.prog W .any base t v)(hW:DataW.Whole enc Tryz.prog Tryz.f6.params.toList Rows.unionSizesSpec.vars false W args.toList ds gs before)(hL:laidMetH Tryz.prog Rows.unionSizesUptoRow.laid W)(hk:Rows.uptoSmall H (ds++gs)=true):
  Calls Tryz.prog 6 args W λe W'=>∃ v,e=.returned v/\Rows.unionSizesSpec.post enc Tryz.prog Tryz.f6 false true false false W args v W':=by
 have o:∀(j:Nat) t v,Tryz.f6.params[j]?=some t->args[j]?=some v->Value.okWide Tryz.prog W .any base t v:=hval0;have O:=hW;obtain⟨p,q,u,hV,rfl,a3,a2⟩:=hW;have hA:DataW.TrodAll enc Tryz.prog W 0 (λ_=>true) true Tryz.f6.params.toList args.toList ds p:=u;rw[Tryz.params6]at hA o;obtain⟨v0,a1,d0,a4,p0,q0,J,rfl,rfl,h0,r0⟩:=trodAll_cons hA;obtain⟨rfl,rfl,rfl⟩:=trodAll_nil r0;obtain rfl:args = #[v0]:=by cases args;simp_all
 obtain⟨rfl,rfl⟩:=trodVars_none hV;have G:=oT hk;simp only[List.append_nil,Rows.uptoBulkAll]at G;have k0:=h0;have D:∀ x∈p0,x.block<W.heap.size:=by obtain⟨m,hm⟩:=k0;exact DataW.trod_lt m _ _ _ hm
 have Z:=Qrg (o 0 22 v0 rfl rfl) h0 om;clear u hval0;refine(Qff (Qgr hL) Z).calls.mono λe W' ⟨v,he,hv,C⟩=>?_;subst he;subst hv;exact⟨_,rfl,_,_,_,[],_,[],O,trodAll_mk1 (shut_bool Tryz.underlying4 _),(trodAll_cons_mk (Below.trod Qtx kr (oT kr) k0 C D) trodAll_mk0),rfl,C.frame _,λh=>by cases h⟩
noncomputable def Jlc(os:Os): World :=
 { World.holding Tryz.prog os ⟨#[],#[],[]⟩ with heap:=(((World.holding Tryz.prog os ⟨#[],#[],[]⟩).heap.modify 1 (Jhz Rows.laid_internal_strconv_uint64pow10)).modify 2 (Jhz Rows.laid_math_bits_deBruijn32tab)).modify 3 (Jhz Rows.laid_math_bits_deBruijn64tab) }
theorem Qtw(os:Os): laidMet Tryz.prog Rows.unionSizesUptoRow.laid ((Jlc os).forCall (λ_ _=>0) ⟨#[],#[.slice none 0 0],[]⟩).memory :=
 laidMet_of_run' 8 kr kr
theorem reads(os:Os){H:Type}(enc:TypeId×Value->H): ∃ places,DataW.whole enc Tryz.prog ((Jlc os).forCall (λ_ _=>0) ⟨#[],#[.slice none 0 0],[]⟩).memory Tryz.f6.params.toList Rows.unionSizesSpec.vars false (#[.slice none 0 0]:Array Value).toList 8=some ([.nil],[],places) :=
 ⟨[],kr⟩
theorem Qtr(os:Os)(started:os.Started)(H:Type)(enc:TypeId×Value->H)(F:Stop.Interp):
  ReturnsInHanded {} Tryz.checked os 6 .any ((Rows.OpenSpec.upto Rows.unionSizesSpec).preRow enc Tryz.prog Tryz.f6 Rows.unionSizesUptoRow.domain false Rows.unionSizesUptoRow.laid) (((Rows.OpenSpec.upto Rows.unionSizesSpec).at F).post enc Tryz.prog Tryz.f6 false true false false):=by
 obtain⟨G,J⟩:=reads os enc;refine returnsInHanded_of_row (C:=Tryz.checked) (s:=Rows.OpenSpec.upto Rows.unionSizesSpec) own started kr Tryz.func6
  (witness_row_at (enc:=enc) (C:=Tryz.checked) false (Jlc os) #[.slice none 0 0] rfl kr kr kr
   (OpenSpec.preRow_of_cond 8 J kr (λk O=>by cases O;kernel_rfl) kr (Qtw os))) ?_
 intro W base D ds gs before u Z _ o _ hL _ _;exact Xzn H enc W base D ds gs before u Z hL (o _ rfl)
theorem Xks: joinedFacts Tryz.pinned.checked.prog 6 Tryz.f6 (Rows.OpenSpec.upto Rows.unionSizesSpec).bare Rows.unionSizesUptoRow=true:=by
 unfold joinedFacts;simp only[Bool.and_eq_true];and_intros
 all_goals (as_aux_lemma=>kernel_rfl)
theorem Xqc: Tryz.f6.isInstance Tryz.pinned.checked.prog Rows.unionSizesUptoRow.origin Rows.unionSizesUptoRow.targs:=oT kr
theorem Qdb: Tryz.f6.isWrapper Tryz.pinned.checked.prog Rows.unionSizesUptoRow.wrapper Rows.unionSizesUptoRow.mainSum:=by unfold Func.isWrapper;first|(rw[if_pos (by decide +kernel)];kernel_rfl)|(rw[if_neg (by decide +kernel)];exact⟨rfl,rfl⟩)
theorem said: Rows.UnionSizesUptoSaid :=
 OpenClaim.holds_of_cond 6 Tryz.f6 rfl rfl rfl rfl rfl rfl rfl ⟨rfl,rfl,rfl,rfl,rfl⟩ rfl rfl rfl rfl rfl kr Tryz.func6 Xks Xqc Qdb
  (λu o H enc _ F=>by rw[OpenClaim.pre_eq_preRow];exact Qtr u o H enc F)
theorem plain(f:FuncId)(fn:Func)(hf:Tryz.pinned.checked.prog.funcNamed "ordinal/ordinallaw48.UnionSizes" = some f)(hfn:Tryz.pinned.checked.prog.funcs[f]?=some fn):
  false=Tryz.pinned.checked.prog.looks []/\∀(j:Nat) t,fn.params[j]?=some t->Tryz.pinned.checked.prog.wantsStandIn t=false:=by
 obtain rfl:f=6:=Option.some.inj ((show Tryz.prog.funcNamed "ordinal/ordinallaw48.UnionSizes" = some 6 by kernel_rfl).symm.trans hf) |>.symm;obtain rfl:fn=Tryz.f6:=(Option.some.inj (Tryz.func6.symm.trans hfn)).symm;refine⟨kr,λj t ht=>?_⟩;rw[Tryz.params6]at ht;obtain rfl:t=22:=by simpa using Array.mem_of_getElem? ht
 exact(show Tryz.prog.wantsStandIn 22=false by kernel_rfl)
theorem proved: Rows.UnionSizesUptoCardSaid :=
 Claim7.holds_tied_plain_at .later [] _ _ _ _ said (λ_ h=>by cases h) kr (λ_ h=>by cases h) unionSizesUpto_row_tie rfl ⟨rfl,rfl⟩ kr rfl plain kr
#print axioms proved
end Go.Proofs.YtbcdghbonlifdaaGreatDoor.unionSizes
