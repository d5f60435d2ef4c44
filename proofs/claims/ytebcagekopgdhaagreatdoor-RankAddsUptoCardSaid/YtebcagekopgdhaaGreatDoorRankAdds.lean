/- The law RankAdds returns true, and its arguments read afterwards as they read before, where they are of bulk at most 1048576. -/
import Derived.Test.YtebcagekopgdhaaGreatDoorZ09
import Derived.Test.YtebcagekopgdhaaGreatDoorCards
import Derived.Test.YtebcagekopgdhaaGreatDoorTie
import Derived.WalkKit
import Derived.ProofKit
import Derived.OpenShut
import Derived.Deep.DeepHandedRow
import Derived.SizedLaws
set_option linter.unusedVariables false
set_option maxRecDepth 100000
set_option maxHeartbeats 40000000
namespace Go.Proofs.YtebcagekopgdhaaGreatDoor.rankAdds
open Go.ChangeShapes Go.WideShapes Go.ChangeAt Go.RowKit Pl Go.Wk
theorem own: ownKnob Tryz.prog.godebug=none:=kr
theorem Qqq: laidOutB Tryz.prog=true:=kr
theorem Qtk(H:Type)(enc:TypeId×Value->H)(W:World)(base:Nat)(args:Array Value)(ds gs:List (DataW H))(before:List MemPlace)(hval0:∀ (j:Nat) t v,Tryz.f12.params[j]?=some t->args[j]?=some v->Value.okWide Tryz.prog W .any base t v)(hW:DataW.Whole enc Tryz.prog Tryz.f12.params.toList Rows.rankAddsSpec.vars false W args.toList ds gs before)(hL:laidMetH Tryz.prog Rows.rankAddsUptoRow.laid W)(hk:Rows.uptoSmall H (ds++gs)=true):
  Calls Tryz.prog 12 args W λe W'=>∃ v,e=.returned v/\Rows.rankAddsSpec.post enc Tryz.prog Tryz.f12 false true false false W args v W':=by
 have o:∀ (j:Nat) t v,Tryz.f12.params[j]?=some t->args[j]?=some v->Value.okWide Tryz.prog W .any base t v:=hval0;have a1:=hW;obtain ⟨p,q,C,hV,rfl,a7,a6⟩:=hW;have hA:DataW.TrodAll enc Tryz.prog W 0 (λ_=>true) true Tryz.f12.params.toList args.toList ds p:=C;rw [Tryz.params12]at hA o;obtain ⟨v0,a5,d0,a9,p0,q0,Z,rfl,rfl,h0,r0⟩:=trodAll_cons hA;obtain ⟨v1,a4,d1,a8,p1,q1,rfl,rfl,rfl,h1,r1⟩:=trodAll_cons r0;obtain ⟨rfl,rfl,rfl⟩:=trodAll_nil r1;obtain rfl:args = #[v0,v1]:=by cases args;simp_all
 obtain ⟨rfl,rfl⟩:=trodVars_none hV;have U:=oT hk;simp only [List.append_nil,Rows.uptoBulkAll]at U;have k0:=h0;have J:∀ x∈p0,x.block<W.heap.size:=by obtain ⟨m,O⟩:=k0;exact DataW.trod_lt m _ _ _ O
 have a3:=Qmd (o 0 53 v0 rfl rfl) h0 om;have k1:=h1;have G:∀ x∈p1,x.block<W.heap.size:=by obtain ⟨m,O⟩:=k1;exact DataW.trod_lt m _ _ _ O
 have a2:=Qmb (o 1 106 v1 rfl rfl) h1 om;clear C hval0;refine (Qgw (Qdf hL) a3 a2).calls.mono λe W' ⟨v,he,hv,u⟩=>?_;subst he;subst hv;exact ⟨_,rfl,_,_,_,[],_,[],a1,trodAll_mk1 (shut_bool Tryz.underlying4 _),(trodAll_cons_mk (Below.trod Qqq kr (oT kr) k0 u J) (trodAll_cons_mk (Below.trod Qqq kr (oT kr) k1 u G) trodAll_mk0)),rfl,u.frame _,λh=>by cases h⟩
noncomputable def Jhg(os:Os): World :=
 { World.holding Tryz.prog os ⟨#[],#[],[]⟩ with heap:=(((World.holding Tryz.prog os ⟨#[],#[],[]⟩).heap.modify 1 (Jhd Rows.laid_internal_strconv_uint64pow10)).modify 2 (Jhd Rows.laid_math_bits_deBruijn32tab)).modify 3 (Jhd Rows.laid_math_bits_deBruijn64tab) }
theorem Qpk(os:Os): laidMet Tryz.prog Rows.rankAddsUptoRow.laid ((Jhg os).forCall (λ_ _=>0) ⟨#[],#[.agg #[.int .i64 0,.int .i64 0,.slice none 0 0,.slice none 0 0,.slice none 0 0,.slice none 0 0],.agg #[.slice none 0 0,.slice none 0 0,.slice none 0 0]],[]⟩).memory :=
 laidMet_of_run' 8 kr kr
theorem reads(os:Os){H:Type}(enc:TypeId×Value->H): ∃ places,DataW.whole enc Tryz.prog ((Jhg os).forCall (λ_ _=>0) ⟨#[],#[.agg #[.int .i64 0,.int .i64 0,.slice none 0 0,.slice none 0 0,.slice none 0 0,.slice none 0 0],.agg #[.slice none 0 0,.slice none 0 0,.slice none 0 0]],[]⟩).memory Tryz.f12.params.toList Rows.rankAddsSpec.vars false (#[.agg #[.int .i64 0,.int .i64 0,.slice none 0 0,.slice none 0 0,.slice none 0 0,.slice none 0 0],.agg #[.slice none 0 0,.slice none 0 0,.slice none 0 0]]:Array Value).toList 8=some ([.agg [.lit (.int .i64 0),.lit (.int .i64 0),.nil,.nil,.nil,.nil],.agg [.nil,.nil,.nil]],[],places) :=
 ⟨[],kr⟩
theorem Qpf(os:Os)(started:os.Started)(H:Type)(enc:TypeId×Value->H)(F:Stop.Interp):
  ReturnsInHanded {} Tryz.checked os 12 .any ((Rows.OpenSpec.upto Rows.rankAddsSpec).preRow enc Tryz.prog Tryz.f12 Rows.rankAddsUptoRow.domain false Rows.rankAddsUptoRow.laid) (((Rows.OpenSpec.upto Rows.rankAddsSpec).at F).post enc Tryz.prog Tryz.f12 false true false false):=by
 obtain ⟨O,U⟩:=reads os enc;refine returnsInHanded_of_row (C:=Tryz.checked) (s:=Rows.OpenSpec.upto Rows.rankAddsSpec) own started kr Tryz.func12
  (witness_row_at (enc:=enc) (C:=Tryz.checked) false (Jhg os) #[.agg #[.int .i64 0,.int .i64 0,.slice none 0 0,.slice none 0 0,.slice none 0 0,.slice none 0 0],.agg #[.slice none 0 0,.slice none 0 0,.slice none 0 0]] rfl kr kr kr
   (OpenSpec.preRow_of_cond 8 U kr (λk Z=>by cases Z;kernel_rfl) kr (Qpk os))) ?_
 intro W base J ds gs o G hW _ u _ hL _ _;exact Qtk H enc W base J ds gs o G hW hL (u _ rfl)
theorem Xjl: joinedFacts Tryz.pinned.checked.prog 12 Tryz.f12 (Rows.OpenSpec.upto Rows.rankAddsSpec).bare Rows.rankAddsUptoRow=true:=by
 unfold joinedFacts;simp only [Bool.and_eq_true];and_intros
 all_goals (as_aux_lemma=>kernel_rfl)
theorem Qrg: Tryz.f12.isInstance Tryz.pinned.checked.prog Rows.rankAddsUptoRow.origin Rows.rankAddsUptoRow.targs:=oT kr
theorem Qbb: Tryz.f12.isWrapper Tryz.pinned.checked.prog Rows.rankAddsUptoRow.wrapper Rows.rankAddsUptoRow.mainSum:=by unfold Func.isWrapper;first|(rw [if_pos (by decide +kernel)];kernel_rfl)|(rw [if_neg (by decide +kernel)];exact ⟨rfl,rfl⟩)
theorem said: Rows.RankAddsUptoSaid :=
 OpenClaim.holds_of_cond 12 Tryz.f12 rfl rfl rfl rfl rfl rfl rfl ⟨rfl,rfl,rfl,rfl,rfl⟩ rfl rfl rfl rfl rfl kr Tryz.func12 Xjl Qrg Qbb
  (λu o H enc _ F=>by rw [OpenClaim.pre_eq_preRow];exact Qpf u o H enc F)
theorem plain(f:FuncId)(fn:Func)(hf:Tryz.pinned.checked.prog.funcNamed "ordinal/ordinallaw42.RankAdds" = some f)(hfn:Tryz.pinned.checked.prog.funcs[f]?=some fn):
  false=Tryz.pinned.checked.prog.looks []/\∀ (j:Nat) t,fn.params[j]?=some t->Tryz.pinned.checked.prog.wantsStandIn t=false:=by
 obtain rfl:f=12:=Option.some.inj ((show Tryz.prog.funcNamed "ordinal/ordinallaw42.RankAdds" = some 12 by kernel_rfl).symm.trans hf) |>.symm;obtain rfl:fn=Tryz.f12:=(Option.some.inj (Tryz.func12.symm.trans hfn)).symm;refine ⟨kr,λj t ht=>?_⟩;rw [Tryz.params12]at ht;have o:=Array.mem_of_getElem? ht;simp only [List.mem_toArray,List.mem_cons,List.not_mem_nil,or_false]at o;rcases o with rfl|rfl
 .exact (show Tryz.prog.wantsStandIn 53=false by kernel_rfl)
 .exact (show Tryz.prog.wantsStandIn 106=false by kernel_rfl)
theorem proved: Rows.RankAddsUptoCardSaid :=
 Claim7.holds_tied_plain_at .later [] _ _ _ _ said (λ_ h=>by cases h) kr (λ_ h=>by cases h) rankAddsUpto_row_tie rfl ⟨rfl,rfl⟩ kr rfl plain kr
#print axioms proved
end Go.Proofs.YtebcagekopgdhaaGreatDoor.rankAdds
