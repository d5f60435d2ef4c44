/- The law RankBetween returns true, and its arguments read afterwards as they read before, where they are of bulk at most 1048576. -/
import Derived.Test.YtebcagekopgdhaaGreatDoorKe21
import Derived.Test.YtebcagekopgdhaaGreatDoorCards
import Derived.Test.YtebcagekopgdhaaGreatDoorTie
import Derived.WalkKit
import Derived.ProofKit
import Derived.OpenShut
import Derived.Deep.DeepHandedRow
import Derived.SizedLaws
set_option linter.unusedVariables false
set_option maxRecDepth 100000
set_option maxHeartbeats 40000000
namespace Go.Proofs.YtebcagekopgdhaaGreatDoor.rankBetween
open Go.ChangeShapes Go.WideShapes Go.ChangeAt Go.RowKit Pl Go.Wk
theorem own: ownKnob Tryz.prog.godebug=none:=kr
theorem laidOut: laidOutB Tryz.prog=true:=kr
theorem contract(H:Type)(enc:TypeId×Value->H)(W:World)(base:Nat)(args:Array Value)(ds gs:List (DataW H))(before:List MemPlace)(hval0:∀ (j:Nat) t v,Tryz.f10.params[j]?=some t->args[j]?=some v->Value.okWide Tryz.prog W .any base t v)(hW:DataW.Whole enc Tryz.prog Tryz.f10.params.toList Rows.rankBetweenSpec.vars false W args.toList ds gs before)(hL:laidMetH Tryz.prog Rows.rankBetweenUptoRow.laid W)(hk:Rows.uptoSmall H (ds++gs)=true):
  Calls Tryz.prog 10 args W λe W'=>∃ v,e=.returned v/\Rows.rankBetweenSpec.post enc Tryz.prog Tryz.f10 false true false false W args v W':=by
 have o:∀ (j:Nat) t v,Tryz.f10.params[j]?=some t->args[j]?=some v->Value.okWide Tryz.prog W .any base t v:=hval0;have a2:=hW;obtain ⟨p,q,G,hV,rfl,aa,a9⟩:=hW;have hA:DataW.TrodAll enc Tryz.prog W 0 (λ_=>true) true Tryz.f10.params.toList args.toList ds p:=G;rw [Tryz.params10]at hA o;obtain ⟨v0,a8,d0,ad,p0,q0,a1,rfl,rfl,h0,r0⟩:=trodAll_cons hA;obtain ⟨v1,a7,d1,ac,p1,q1,rfl,rfl,rfl,h1,r1⟩:=trodAll_cons r0;obtain ⟨v2,a6,d2,ab,p2,q2,rfl,rfl,rfl,h2,r2⟩:=trodAll_cons r1;obtain ⟨rfl,rfl,rfl⟩:=trodAll_nil r2;obtain rfl:args = #[v0,v1,v2]:=by cases args;simp_all
 obtain ⟨rfl,rfl⟩:=trodVars_none hV;have Z:=oT hk;simp only [List.append_nil,Rows.uptoBulkAll]at Z;have k0:=h0;have U:∀ x∈p0,x.block<W.heap.size:=by obtain ⟨m,C⟩:=k0;exact DataW.trod_lt m _ _ _ C
 have a5:=open_case (o 0 53 v0 rfl rfl) h0 om;have k1:=h1;have O:∀ x∈p1,x.block<W.heap.size:=by obtain ⟨m,C⟩:=k1;exact DataW.trod_lt m _ _ _ C
 have a4:=open_rowA (o 1 37 v1 rfl rfl) h1 om;have k2:=h2;have J:∀ x∈p2,x.block<W.heap.size:=by obtain ⟨m,C⟩:=k2;exact DataW.trod_lt m _ _ _ C
 have a3:=open_rowA (o 2 37 v2 rfl rfl) h2 om;clear G hval0;refine (rankBetween_walk (tb_of_laid hL) a5 a4 a3).calls.mono λe W' ⟨v,he,hv,u⟩=>?_;subst he;subst hv;exact ⟨_,rfl,_,_,_,[],_,[],a2,trodAll_mk1 (shut_bool Tryz.underlying4 _),(trodAll_cons_mk (Below.trod laidOut kr (oT kr) k0 u U) (trodAll_cons_mk (Below.trod laidOut kr (oT kr) k1 u O) (trodAll_cons_mk (Below.trod laidOut kr (oT kr) k2 u J) trodAll_mk0))),rfl,u.frame _,λh=>by cases h⟩
noncomputable def laidWorld(os:Os): World :=
 { World.holding Tryz.prog os ⟨#[],#[],[]⟩ with heap:=(((World.holding Tryz.prog os ⟨#[],#[],[]⟩).heap.modify 1 (layOn Rows.laid_internal_strconv_uint64pow10)).modify 2 (layOn Rows.laid_math_bits_deBruijn32tab)).modify 3 (layOn Rows.laid_math_bits_deBruijn64tab) }
theorem laid_met(os:Os): laidMet Tryz.prog Rows.rankBetweenUptoRow.laid ((laidWorld os).forCall (λ_ _=>0) ⟨#[],#[.agg #[.int .i64 0,.int .i64 0,.slice none 0 0,.slice none 0 0,.slice none 0 0,.slice none 0 0],.slice none 0 0,.slice none 0 0],[]⟩).memory :=
 laidMet_of_run' 8 kr kr
theorem reads(os:Os){H:Type}(enc:TypeId×Value->H): ∃ places,DataW.whole enc Tryz.prog ((laidWorld os).forCall (λ_ _=>0) ⟨#[],#[.agg #[.int .i64 0,.int .i64 0,.slice none 0 0,.slice none 0 0,.slice none 0 0,.slice none 0 0],.slice none 0 0,.slice none 0 0],[]⟩).memory Tryz.f10.params.toList Rows.rankBetweenSpec.vars false (#[.agg #[.int .i64 0,.int .i64 0,.slice none 0 0,.slice none 0 0,.slice none 0 0,.slice none 0 0],.slice none 0 0,.slice none 0 0]:Array Value).toList 8=some ([.agg [.lit (.int .i64 0),.lit (.int .i64 0),.nil,.nil,.nil,.nil],.nil,.nil],[],places) :=
 ⟨[],kr⟩
theorem lifted(os:Os)(started:os.Started)(H:Type)(enc:TypeId×Value->H)(F:Stop.Interp):
  ReturnsInHanded {} Tryz.checked os 10 .any ((Rows.OpenSpec.upto Rows.rankBetweenSpec).preRow enc Tryz.prog Tryz.f10 Rows.rankBetweenUptoRow.domain false Rows.rankBetweenUptoRow.laid) (((Rows.OpenSpec.upto Rows.rankBetweenSpec).at F).post enc Tryz.prog Tryz.f10 false true false false):=by
 obtain ⟨O,U⟩:=reads os enc;refine returnsInHanded_of_row (C:=Tryz.checked) (s:=Rows.OpenSpec.upto Rows.rankBetweenSpec) own started kr Tryz.func10
  (witness_row_at (enc:=enc) (C:=Tryz.checked) false (laidWorld os) #[.agg #[.int .i64 0,.int .i64 0,.slice none 0 0,.slice none 0 0,.slice none 0 0,.slice none 0 0],.slice none 0 0,.slice none 0 0] rfl kr kr kr
   (OpenSpec.preRow_of_cond 8 U kr (λk Z=>by cases Z;kernel_rfl) kr (laid_met os))) ?_
 intro W base J ds gs o G hW _ u _ hL _ _;exact contract H enc W base J ds gs o G hW hL (u _ rfl)
theorem closed: joinedFacts Tryz.pinned.checked.prog 10 Tryz.f10 (Rows.OpenSpec.upto Rows.rankBetweenSpec).bare Rows.rankBetweenUptoRow=true:=by
 unfold joinedFacts;simp only [Bool.and_eq_true];and_intros
 all_goals (as_aux_lemma=>kernel_rfl)
theorem instOk: Tryz.f10.isInstance Tryz.pinned.checked.prog Rows.rankBetweenUptoRow.origin Rows.rankBetweenUptoRow.targs:=oT kr
theorem wrapOk: Tryz.f10.isWrapper Tryz.pinned.checked.prog Rows.rankBetweenUptoRow.wrapper Rows.rankBetweenUptoRow.mainSum:=by unfold Func.isWrapper;first|(rw [if_pos (by decide +kernel)];kernel_rfl)|(rw [if_neg (by decide +kernel)];exact ⟨rfl,rfl⟩)
theorem said: Rows.RankBetweenUptoSaid :=
 OpenClaim.holds_of_cond 10 Tryz.f10 rfl rfl rfl rfl rfl rfl rfl ⟨rfl,rfl,rfl,rfl,rfl⟩ rfl rfl rfl rfl rfl kr Tryz.func10 closed instOk wrapOk
  (λu o H enc _ F=>by rw [OpenClaim.pre_eq_preRow];exact lifted u o H enc F)
theorem plain(f:FuncId)(fn:Func)(hf:Tryz.pinned.checked.prog.funcNamed "ordinal/ordinallaw42.RankBetween" = some f)(hfn:Tryz.pinned.checked.prog.funcs[f]?=some fn):
  false=Tryz.pinned.checked.prog.looks []/\∀ (j:Nat) t,fn.params[j]?=some t->Tryz.pinned.checked.prog.wantsStandIn t=false:=by
 obtain rfl:f=10:=Option.some.inj ((show Tryz.prog.funcNamed "ordinal/ordinallaw42.RankBetween" = some 10 by kernel_rfl).symm.trans hf) |>.symm;obtain rfl:fn=Tryz.f10:=(Option.some.inj (Tryz.func10.symm.trans hfn)).symm;refine ⟨kr,λj t ht=>?_⟩;rw [Tryz.params10]at ht;have o:=Array.mem_of_getElem? ht;simp only [List.mem_toArray,List.mem_cons,List.not_mem_nil,or_false]at o;rcases o with rfl|rfl|rfl
 .exact (show Tryz.prog.wantsStandIn 53=false by kernel_rfl)
 .exact (show Tryz.prog.wantsStandIn 37=false by kernel_rfl)
 .exact (show Tryz.prog.wantsStandIn 37=false by kernel_rfl)
theorem proved: Rows.RankBetweenUptoCardSaid :=
 Claim7.holds_tied_plain_at .later [] _ _ _ _ said (λ_ h=>by cases h) kr (λ_ h=>by cases h) rankBetweenUpto_row_tie rfl ⟨rfl,rfl⟩ kr rfl plain kr
#print axioms proved
end Go.Proofs.YtebcagekopgdhaaGreatDoor.rankBetween
