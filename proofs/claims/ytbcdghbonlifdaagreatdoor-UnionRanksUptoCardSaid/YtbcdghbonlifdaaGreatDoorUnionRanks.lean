/- The law UnionRanks returns true and leaves its arguments as they were, where they are of bulk at most 1048576. -/
import Derived.Test.YtbcdghbonlifdaaGreatDoorR09
import Derived.Test.YtbcdghbonlifdaaGreatDoorCards
import Derived.Test.YtbcdghbonlifdaaGreatDoorTie
import Derived.WalkKit
import Derived.ProofKit
import Derived.OpenShut
import Derived.Deep.DeepHandedRow
import Derived.SizedLaws
set_option linter.unusedVariables false
set_option maxRecDepth 100000
set_option maxHeartbeats 40000000
namespace Go.Proofs.YtbcdghbonlifdaaGreatDoor.unionRanks
open Go.ChangeShapes Go.WideShapes Go.ChangeAt Go.RowKit Pl Go.Wk
theorem own: ownKnob Tryz.prog.godebug=none:=kr
theorem Qzd: laidOutB Tryz.prog=true:=kr
theorem Xzl(H:Type)(enc:TypeId×Value->H)(W:World)(base:Nat)(args:Array Value)(ds gs:List (DataW H))(before:List MemPlace)(hval0:∀(j:Nat) t v,Tryz.f4.params[j]?=some t->args[j]?=some v->Value.okWide Tryz.prog W .any base t v)(hW:DataW.Whole enc Tryz.prog Tryz.f4.params.toList Rows.unionRanksSpec.vars false W args.toList ds gs before)(hL:laidMetH Tryz.prog Rows.unionRanksUptoRow.laid W)(hk:Rows.uptoSmall H (ds++gs)=true):
  Calls Tryz.prog 4 args W λe W'=>∃ v,e=.returned v/\Rows.unionRanksSpec.post enc Tryz.prog Tryz.f4 false true false false W args v W':=by
 have o:∀(j:Nat) t v,Tryz.f4.params[j]?=some t->args[j]?=some v->Value.okWide Tryz.prog W .any base t v:=hval0;have a1:=hW;obtain⟨p,q,C,hV,rfl,a7,a6⟩:=hW;have hA:DataW.TrodAll enc Tryz.prog W 0 (λ_=>true) true Tryz.f4.params.toList args.toList ds p:=C;rw[Tryz.params4]at hA o;obtain⟨v0,a5,d0,a9,p0,q0,Z,rfl,rfl,h0,r0⟩:=trodAll_cons hA;obtain⟨v1,a4,d1,a8,p1,q1,rfl,rfl,rfl,h1,r1⟩:=trodAll_cons r0;obtain⟨rfl,rfl,rfl⟩:=trodAll_nil r1;obtain rfl:args = #[v0,v1]:=by cases args;simp_all
 obtain⟨rfl,rfl⟩:=trodVars_none hV;have O:=oT hk;simp only[List.append_nil,Rows.uptoBulkAll]at O;have k0:=h0;have G:∀ x∈p0,x.block<W.heap.size:=by obtain⟨m,J⟩:=k0;exact DataW.trod_lt m _ _ _ J
 have a3:=Qrf (o 0 22 v0 rfl rfl) h0 om;have k1:=h1;have D:∀ x∈p1,x.block<W.heap.size:=by obtain⟨m,J⟩:=k1;exact DataW.trod_lt m _ _ _ J
 have a2:=Qrc (o 1 46 v1 rfl rfl) h1 om;clear C hval0;refine(Qfg (Qgs hL) a3 a2).calls.mono λe W' ⟨v,he,hv,u⟩=>?_;subst he;subst hv;exact⟨_,rfl,_,_,_,[],_,[],a1,trodAll_mk1 (shut_bool Tryz.underlying4 _),(trodAll_cons_mk (Below.trod Qzd kr (oT kr) k0 u G) (trodAll_cons_mk (Below.trod Qzd kr (oT kr) k1 u D) trodAll_mk0)),rfl,u.frame _,λh=>by cases h⟩
noncomputable def Jlf(os:Os): World :=
 { World.holding Tryz.prog os ⟨#[],#[],[]⟩ with heap:=(((World.holding Tryz.prog os ⟨#[],#[],[]⟩).heap.modify 1 (Jlc Rows.laid_internal_strconv_uint64pow10)).modify 2 (Jlc Rows.laid_math_bits_deBruijn32tab)).modify 3 (Jlc Rows.laid_math_bits_deBruijn64tab) }
theorem Qtt(os:Os): laidMet Tryz.prog Rows.unionRanksUptoRow.laid ((Jlf os).forCall (λ_ _=>0) ⟨#[],#[.slice none 0 0,.slice none 0 0],[]⟩).memory :=
 laidMet_of_run' 8 kr kr
theorem reads(os:Os){H:Type}(enc:TypeId×Value->H): ∃ places,DataW.whole enc Tryz.prog ((Jlf os).forCall (λ_ _=>0) ⟨#[],#[.slice none 0 0,.slice none 0 0],[]⟩).memory Tryz.f4.params.toList Rows.unionRanksSpec.vars false (#[.slice none 0 0,.slice none 0 0]:Array Value).toList 8=some ([.nil,.nil],[],places) :=
 ⟨[],kr⟩
theorem Qtp(os:Os)(started:os.Started)(H:Type)(enc:TypeId×Value->H)(F:Stop.Interp):
  ReturnsInHanded {} Tryz.checked os 4 .any ((Rows.OpenSpec.upto Rows.unionRanksSpec).preRow enc Tryz.prog Tryz.f4 Rows.unionRanksUptoRow.domain false Rows.unionRanksUptoRow.laid) (((Rows.OpenSpec.upto Rows.unionRanksSpec).at F).post enc Tryz.prog Tryz.f4 false true false false):=by
 obtain⟨G,J⟩:=reads os enc;refine returnsInHanded_of_row (C:=Tryz.checked) (s:=Rows.OpenSpec.upto Rows.unionRanksSpec) own started kr Tryz.func4
  (witness_row_at (enc:=enc) (C:=Tryz.checked) false (Jlf os) #[.slice none 0 0,.slice none 0 0] rfl kr kr kr
   (OpenSpec.preRow_of_cond 8 J kr (λk O=>by cases O;kernel_rfl) kr (Qtt os))) ?_
 intro W base D ds gs before u Z _ o _ hL _ _;exact Xzl H enc W base D ds gs before u Z hL (o _ rfl)
theorem Xks: joinedFacts Tryz.pinned.checked.prog 4 Tryz.f4 (Rows.OpenSpec.upto Rows.unionRanksSpec).bare Rows.unionRanksUptoRow=true:=by
 unfold joinedFacts;simp only[Bool.and_eq_true];and_intros
 all_goals (as_aux_lemma=>kernel_rfl)
theorem Xjz: Tryz.f4.isInstance Tryz.pinned.checked.prog Rows.unionRanksUptoRow.origin Rows.unionRanksUptoRow.targs:=oT kr
theorem Qdc: Tryz.f4.isWrapper Tryz.pinned.checked.prog Rows.unionRanksUptoRow.wrapper Rows.unionRanksUptoRow.mainSum:=by unfold Func.isWrapper;first|(rw[if_pos (by decide +kernel)];kernel_rfl)|(rw[if_neg (by decide +kernel)];exact⟨rfl,rfl⟩)
theorem said: Rows.UnionRanksUptoSaid :=
 OpenClaim.holds_of_cond 4 Tryz.f4 rfl rfl rfl rfl rfl rfl rfl ⟨rfl,rfl,rfl,rfl,rfl⟩ rfl rfl rfl rfl rfl kr Tryz.func4 Xks Xjz Qdc
  (λu o H enc _ F=>by rw[OpenClaim.pre_eq_preRow];exact Qtp u o H enc F)
theorem plain(f:FuncId)(fn:Func)(hf:Tryz.pinned.checked.prog.funcNamed "ordinal/ordinallaw48.UnionRanks" = some f)(hfn:Tryz.pinned.checked.prog.funcs[f]?=some fn):
  false=Tryz.pinned.checked.prog.looks []/\∀(j:Nat) t,fn.params[j]?=some t->Tryz.pinned.checked.prog.wantsStandIn t=false:=by
 obtain rfl:f=4:=Option.some.inj ((show Tryz.prog.funcNamed "ordinal/ordinallaw48.UnionRanks" = some 4 by kernel_rfl).symm.trans hf) |>.symm;obtain rfl:fn=Tryz.f4:=(Option.some.inj (Tryz.func4.symm.trans hfn)).symm;refine⟨kr,λj t ht=>?_⟩;rw[Tryz.params4]at ht;have o:=Array.mem_of_getElem? ht;simp only[List.mem_toArray,List.mem_cons,List.not_mem_nil,or_false]at o;rcases o with rfl|rfl
 .exact(show Tryz.prog.wantsStandIn 22=false by kernel_rfl)
 exact(show Tryz.prog.wantsStandIn 46=false by kernel_rfl)
theorem proved: Rows.UnionRanksUptoCardSaid :=
 Claim7.holds_tied_plain_at .later [] _ _ _ _ said (λ_ h=>by cases h) kr (λ_ h=>by cases h) unionRanksUpto_row_tie rfl ⟨rfl,rfl⟩ kr rfl plain kr
#print axioms proved
end Go.Proofs.YtbcdghbonlifdaaGreatDoor.unionRanks
