/- For every input the law RankLarge returns true and leaves its arguments as they were. No condition. -/
import Derived.Test.YtebcagekopgdhaaGreatDoorX09
import Derived.Test.YtebcagekopgdhaaGreatDoorCards
import Derived.Test.YtebcagekopgdhaaGreatDoorTie
import Derived.WalkKit
import Derived.ProofKit
import Derived.OpenShut
import Derived.Deep.DeepHandedRow
import Derived.SizedLaws
set_option linter.unusedVariables false
set_option maxRecDepth 100000
set_option maxHeartbeats 40000000
namespace Go.Proofs.YtebcagekopgdhaaGreatDoor.rankLarge
open Go.ChangeShapes Go.WideShapes Go.ChangeAt Go.RowKit Pl Go.Wk
theorem own: ownKnob Tryz.prog.godebug=none:=kr
theorem Qjg: laidOutB Tryz.prog=true:=kr
theorem Qrq(H:Type)(enc:TypeId×Value->H)(W:World)(base:Nat)(args:Array Value)(ds gs:List (DataW H))(before:List MemPlace)(hval0:∀ (j:Nat) t v,Tryz.f11.params[j]?=some t->args[j]?=some v->Value.okWide Tryz.prog W .any base t v)(hW:DataW.Whole enc Tryz.prog Tryz.f11.params.toList Rows.rankLargeSpec.vars false W args.toList ds gs before)(hL:laidMetH Tryz.prog Rows.rankLargeRow.laid W):
  Calls Tryz.prog 11 args W λe W'=>∃ v,e=.returned v/\Rows.rankLargeSpec.post enc Tryz.prog Tryz.f11 false true false false W args v W':=by
 have o:∀ (j:Nat) t v,Tryz.f11.params[j]?=some t->args[j]?=some v->Value.okWide Tryz.prog W .any base t v:=hval0;have a1:=hW;obtain ⟨p,q,G,hV,rfl,a8,a7⟩:=hW;have hA:DataW.TrodAll enc Tryz.prog W 0 (λ_=>true) true Tryz.f11.params.toList args.toList ds p:=G;rw [Tryz.params11]at hA o;obtain ⟨v0,a6,d0,ab,p0,q0,Z,rfl,rfl,h0,r0⟩:=trodAll_cons hA;obtain ⟨v1,a5,d1,aa,p1,q1,rfl,rfl,rfl,h1,r1⟩:=trodAll_cons r0;obtain ⟨v2,a4,d2,a9,p2,q2,rfl,rfl,rfl,h2,r2⟩:=trodAll_cons r1;obtain ⟨rfl,rfl,rfl⟩:=trodAll_nil r2;obtain rfl:args = #[v0,v1,v2]:=by cases args;simp_all
 obtain ⟨rfl,rfl⟩:=trodVars_none hV;obtain ⟨x0,rfl,rfl,rfl,C⟩:=open_int Tryz.underlying5 (o 0 5 v0 rfl rfl) h0;have k1:=h1;have O:∀ x∈p1,x.block<W.heap.size:=by obtain ⟨m,U⟩:=k1;exact DataW.trod_lt m _ _ _ U
 have a3:=Qhd (o 1 24 v1 rfl rfl) h1;have k2:=h2;have J:∀ x∈p2,x.block<W.heap.size:=by obtain ⟨m,U⟩:=k2;exact DataW.trod_lt m _ _ _ U
 have a2:=Qhc (o 2 29 v2 rfl rfl) h2;clear G hval0;refine (Qfm (Qbt hL) (bounds_u8 C) a3 a2).calls.mono λe W' ⟨v,he,hv,u⟩=>?_;subst he;subst hv;exact ⟨_,rfl,_,_,_,[],_,[],a1,trodAll_mk1 (shut_bool Tryz.underlying4 _),(trodAll_cons_mk (shut_int Tryz.underlying5 C) (trodAll_cons_mk (Below.trod Qjg kr (oT kr) k1 u O) (trodAll_cons_mk (Below.trod Qjg kr (oT kr) k2 u J) trodAll_mk0))),rfl,u.frame _,λh=>by cases h⟩
noncomputable def Jgc(os:Os): World :=
 { World.holding Tryz.prog os ⟨#[],#[],[]⟩ with heap:=(((World.holding Tryz.prog os ⟨#[],#[],[]⟩).heap.modify 1 (Jfz Rows.laid_internal_strconv_uint64pow10)).modify 2 (Jfz Rows.laid_math_bits_deBruijn32tab)).modify 3 (Jfz Rows.laid_math_bits_deBruijn64tab) }
theorem Qmh(os:Os): laidMet Tryz.prog Rows.rankLargeRow.laid ((Jgc os).forCall (λ_ _=>0) ⟨#[],#[.int .u8 0,.slice none 0 0,.slice none 0 0],[]⟩).memory :=
 laidMet_of_run' 8 kr kr
theorem reads(os:Os){H:Type}(enc:TypeId×Value->H): ∃ places,DataW.whole enc Tryz.prog ((Jgc os).forCall (λ_ _=>0) ⟨#[],#[.int .u8 0,.slice none 0 0,.slice none 0 0],[]⟩).memory Tryz.f11.params.toList Rows.rankLargeSpec.vars false (#[.int .u8 0,.slice none 0 0,.slice none 0 0]:Array Value).toList 8=some ([.lit (.int .u8 0),.nil,.nil],[],places) :=
 ⟨[],kr⟩
theorem Qmc(os:Os)(started:os.Started)(H:Type)(enc:TypeId×Value->H)(F:Stop.Interp):
  ReturnsInHanded {} Tryz.checked os 11 .any ((OpenSpec.ofChange Rows.rankLargeSpec).preRow enc Tryz.prog Tryz.f11 Rows.rankLargeRow.domain false Rows.rankLargeRow.laid) (((OpenSpec.ofChange Rows.rankLargeSpec).at F).post enc Tryz.prog Tryz.f11 false true false false):=by
 obtain ⟨J,U⟩:=reads os enc;refine returnsInHanded_of_row (C:=Tryz.checked) (s:=OpenSpec.ofChange Rows.rankLargeSpec) own started kr Tryz.func11
  (witness_row_at (enc:=enc) (C:=Tryz.checked) false (Jgc os) #[.int .u8 0,.slice none 0 0,.slice none 0 0] rfl kr kr kr
   (OpenSpec.preRow_of_cond 8 U kr (λk Z=>by cases Z) kr (Qmh os))) ?_
 intro W base G ds gs o u hW _ O _ hL _ _;exact Qrq H enc W base G ds gs o u hW hL
theorem Qst: joinedFacts Tryz.pinned.checked.prog 11 Tryz.f11 (OpenSpec.ofChange Rows.rankLargeSpec).bare Rows.rankLargeRow=true:=by
 unfold joinedFacts;simp only [Bool.and_eq_true];and_intros
 all_goals (as_aux_lemma=>kernel_rfl)
theorem Qnf: Tryz.f11.isInstance Tryz.pinned.checked.prog Rows.rankLargeRow.origin Rows.rankLargeRow.targs:=oT kr
theorem Qvs: Tryz.f11.isWrapper Tryz.pinned.checked.prog Rows.rankLargeRow.wrapper Rows.rankLargeRow.mainSum:=by unfold Func.isWrapper;first|(rw [if_pos (by decide +kernel)];kernel_rfl)|(rw [if_neg (by decide +kernel)];exact ⟨rfl,rfl⟩)
theorem said: Rows.RankLargeSaid :=
 OpenClaim.holds_of_cond 11 Tryz.f11 rfl rfl rfl rfl rfl rfl rfl ⟨rfl,rfl,rfl,rfl,rfl⟩ rfl rfl rfl rfl rfl kr Tryz.func11 Qst Qnf Qvs
  (λu o H enc _ F=>by rw [OpenClaim.pre_eq_preRow];exact Qmc u o H enc F)
theorem plain(f:FuncId)(fn:Func)(hf:Tryz.pinned.checked.prog.funcNamed "ordinal/ordinallaw42.RankLarge" = some f)(hfn:Tryz.pinned.checked.prog.funcs[f]?=some fn):
  false=Tryz.pinned.checked.prog.looks []/\∀ (j:Nat) t,fn.params[j]?=some t->Tryz.pinned.checked.prog.wantsStandIn t=false:=by
 obtain rfl:f=11:=Option.some.inj ((show Tryz.prog.funcNamed "ordinal/ordinallaw42.RankLarge" = some 11 by kernel_rfl).symm.trans hf) |>.symm;obtain rfl:fn=Tryz.f11:=(Option.some.inj (Tryz.func11.symm.trans hfn)).symm;refine ⟨kr,λj t ht=>?_⟩;rw [Tryz.params11]at ht;have o:=Array.mem_of_getElem? ht;simp only [List.mem_toArray,List.mem_cons,List.not_mem_nil,or_false]at o;rcases o with rfl|rfl|rfl
 .exact (show Tryz.prog.wantsStandIn 5=false by kernel_rfl)
 .exact (show Tryz.prog.wantsStandIn 24=false by kernel_rfl)
 .exact (show Tryz.prog.wantsStandIn 29=false by kernel_rfl)
theorem proved: Rows.RankLargeCardSaid :=
 Claim7.holds_tied_plain_at .later [] _ _ _ _ said (λ_ h=>by cases h) kr (λ_ h=>by cases h) rankLarge_row_tie rfl ⟨rfl,rfl⟩ kr rfl plain kr
#print axioms proved
end Go.Proofs.YtebcagekopgdhaaGreatDoor.rankLarge
