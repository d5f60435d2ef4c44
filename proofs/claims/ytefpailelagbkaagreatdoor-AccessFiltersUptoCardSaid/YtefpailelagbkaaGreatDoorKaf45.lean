/- Part 0 of the proof: Nat4, Ac3, Ac4, Rf6, Lw4. -/
import Derived.Test.YtefpailelagbkaaGreatDoorB00
import Derived.Test.YtefpailelagbkaaGreatDoorB01
import Derived.Test.YtefpailelagbkaaGreatDoorB02
import Derived.Test.YtefpailelagbkaaGreatDoorB03
import Derived.Test.YtefpailelagbkaaGreatDoorB04
import Derived.Test.YtefpailelagbkaaGreatDoorB05
import Derived.Test.YtefpailelagbkaaGreatDoorB06
import Derived.Test.YtefpailelagbkaaGreatDoorB07
import Derived.Test.YtefpailelagbkaaGreatDoorB08
import Derived.Test.YtefpailelagbkaaGreatDoorB09
import Derived.Test.YtefpailelagbkaaGreatDoorB10
import Derived.Test.YtefpailelagbkaaGreatDoorB11
import Derived.Test.YtefpailelagbkaaGreatDoorB12
import Derived.Test.YtefpailelagbkaaGreatDoorB13
import Derived.Test.YtefpailelagbkaaGreatDoorB14
import Derived.Test.YtefpailelagbkaaGreatDoorB15
import Derived.Test.YtefpailelagbkaaGreatDoorB16
import Derived.Test.YtefpailelagbkaaGreatDoorB17
import Derived.Test.YtefpailelagbkaaGreatDoorB18
import Derived.Test.YtefpailelagbkaaGreatDoorB19
import Derived.Test.YtefpailelagbkaaGreatDoorB20
import Derived.Test.YtefpailelagbkaaGreatDoorB21
import Derived.Test.YtefpailelagbkaaGreatDoorB22
import Derived.Test.YtefpailelagbkaaGreatDoorB23
import Derived.Test.YtefpailelagbkaaGreatDoorB24
import Derived.Test.YtefpailelagbkaaGreatDoorB25
import Derived.Test.YtefpailelagbkaaGreatDoorB26
import Derived.Test.YtefpailelagbkaaGreatDoorB27
import Derived.Test.YtefpailelagbkaaGreatDoorB28
import Derived.Test.YtefpailelagbkaaGreatDoorB29
import Derived.Test.YtefpailelagbkaaGreatDoorB30
import Derived.Test.YtefpailelagbkaaGreatDoorB31
import Derived.Test.YtefpailelagbkaaGreatDoorB32
import Derived.Test.YtefpailelagbkaaGreatDoorB33
import Derived.Test.YtefpailelagbkaaGreatDoorB34
import Derived.Test.YtefpailelagbkaaGreatDoorB35
import Derived.Test.YtefpailelagbkaaGreatDoorB36
import Derived.Test.YtefpailelagbkaaGreatDoorB37
import Derived.Test.YtefpailelagbkaaGreatDoorB38
import Derived.Test.YtefpailelagbkaaGreatDoorB39
import Derived.Test.YtefpailelagbkaaGreatDoorB40
import Derived.Test.YtefpailelagbkaaGreatDoorB41
import Derived.Test.YtefpailelagbkaaGreatDoorB42
import Derived.Test.YtefpailelagbkaaGreatDoorB43
import Derived.Test.YtefpailelagbkaaGreatDoorB44
import Derived.Laws.Cover3
import Derived.Lib.Bytealg
set_option linter.unusedVariables false
set_option maxRecDepth 100000
set_option maxHeartbeats 40000000
namespace Go.Wk
open Go.RowKit
section
variable {P:Program} {n:Nat} {al:AL} {w:World} {Q:Exit->Act->World->Prop} {ops:Array Oper} {rest:List Oper}
variable {d ty:Nat} {op:Op} {pos:String} {aft:Array Edge} {tt:TT}
end
end Go.Wk
namespace Go.Proofs.YtefpailelagbkaaGreatDoor
open Go.RowKit Pl Go.Wk
attribute [local irreducible] WC WL QX WD WDB
open Go.RowKit Pl Go.Wk
theorem small_len{n:Nat}(h:n<18446744073709551616): (Jjf n).length<=2:=by
 rcases Nat.lt_or_ge 2 (Jjf n).length with h1|h1
 ·have hn:n≠0:=λe=>by subst e;rw [limbs_0]at h1;simp at h1
  have j:=Jgg hn;have i:4294967296^2<=4294967296^((Jjf n).length-1):=Nat.pow_le_pow_right (by omega) (by omega);omega
 ·exact h1
theorem or_limb{a:Nat}(k:Nat)(hk:k<2)(h:a<4294967296^k)(c:UInt32): bits .or .u64 (a:Int) (IntKind.u64.wrap (IntKind.u64.wrap (c.toNat:Int)*2^min (32*(k:Int)).toNat IntKind.u64.bits))=((a+4294967296^k*c.toNat:Nat):Int):=by
 have G:c.toNat<4294967296:=c.toNat_lt;have j:IntKind.u64.wrap (c.toNat:Int)=(c.toNat:Int):=by rw [IntKind.wrap_u64];omega
 rw [j];match k,hk with
 | 0,_=>
  have o:a=0:=by simpa using h
  subst o;have i:(2:Int)^min (32*((0:Nat):Int)).toNat IntKind.u64.bits=1:=by decide
  rw [i,Int.mul_one,j];have:=u64_or_nat 0 c.toNat (by omega) (by omega);rw [Nat.zero_or]at this;simpa using this
 | 1,_=>
  have i:(2:Int)^min (32*((1:Nat):Int)).toNat IntKind.u64.bits=4294967296:=by decide
  have C:IntKind.u64.wrap ((c.toNat:Int)*4294967296)=((c.toNat*4294967296:Nat):Int):=by rw [IntKind.wrap_u64];omega
  have u:a<4294967296:=by simpa using h
  rw [i,C,u64_or_nat _ _ (by omega) (by omega)];have:=nat_join 32 (c.toNat*4294967296) a (by simp) u;rw [Nat.or_comm,this];omega
theorem natUint64_any{v:Value}{n:Nat}{w:World}(hv:NatV w v n)(h:n<18446744073709551616): Ret Tryz.prog 26 [v] w λr w'=>r=.tuple #[.int .u64 (n:Int),.bool true]/\w'=w:=by
 have U:=small_len h;refine Jjc Tryz.func26 Tryz.ntmps26 rfl (by kernel_rfl) rfl ?_;refine ρ ?_;refine cl (Jhr hv) ?_;rintro O w' ⟨⟨A,rfl,J⟩,rfl⟩;refine ρ ?_;refine Xkw rfl (dF (by omega)) ?_;refine ρ ?_;refine Jqq (λk=>[(4,.int .u64 ((val ((Jjf n).take k):Nat):Int)),(0,.slice A (Jjf n).length (Jjf n).length),(12,.int .i64 ((Jjf n).length:Int)),(13,.int .i64 ((k:Nat):Int))]) (λk G=>G=w'/\k<=(Jjf n).length) (λk=>(Jjf n).length-k) 0 sB ⟨rfl,Nat.zero_le _⟩ ?_;rintro k G ⟨rfl,Z⟩;refine ρ ?_;refine ci (λh=>?_) (λh=>?_)
 ·have i:k<(Jjf n).length:=by have:=oT h;omega
  refine ρ ?_;refine ix k J i ?_;refine ρ ?_;refine ld (J.cell (Jzm i)) ?_;refine ρ ?_;refine wshl rfl rfl (by omega) rfl ?_;refine ρ ?_;have j:=Qfs ((Jjf n).take k);have o:((Jjf n).take k).length=k:=by rw [List.length_take];omega
  rw [o]at j;have u:(Jjf n).take (k+1)=(Jjf n).take k++[(Jjf n).getD k 0]:=by
   rw [List.take_succ_eq_append_getElem i];simp [List.getD,List.getElem?_eq_getElem i]
  refine Jjv (k+1) (Sub.cons (congrArg (λz=>some (Value.int .u64 z)) ?_) sB) ⟨rfl,by omega⟩ (by omega);rw [or_limb k (by omega) j,u,Jcj,o];simp [val]
 ·have C:k=(Jjf n).length:=by have:=oF h;omega
  subst C;refine ρ ?_;refine Qyg ⟨?_,rfl⟩;rw [List.take_length,Jql]
open Go.RowKit Pl Go.Wk
open Go.RowKit Pl Go.Wk
end Go.Proofs.YtefpailelagbkaaGreatDoor
namespace Go.Proofs.YtefpailelagbkaaGreatDoor
namespace Pl
end Pl
open Go.RowKit Pl Go.Wk
attribute [local irreducible] WC WL QX WD WDB
open Go.RowKit Pl Go.Wk
attribute [local irreducible] WP WN WG WH
section
variable {f:Nat} {ds:List Bool} {kf:Nat->Nat} {pf:Nat->Int} {BB:Nat->List BkT} {tot:Nat} {L:List Row}
end
section
variable {K:SeK} {w:World} {y:Row} {S:Nat->Bool} {st M B:Nat}
end
theorem AcRF.weak{w0:World}{f:Nat}{BB:Nat->List BkT}{L:List Row}{y:Row}{k:Nat}{u:Value}{w:World}(h:AcRF w0 f BB L y k u w): AcR f BB L y k u w:=by
 unfold AcRF at h;unfold AcR;cases hr:(wiL L y)[k]? with
 | none=>rw [hr]at h;exact h
 | some r=>rw [hr]at h;obtain ⟨A,c,st,G,C,o,j,i,_⟩:=h;exact ⟨A,c,st,G,C,o,j,i⟩
section
variable {f:Nat} {ds:List Bool} {kf:Nat->Nat} {pf:Nat->Int} {BB:Nat->List BkT} {tot:Nat} {L:List Row}
theorem acWithin_any{B0:Nat}{w:World}{x kv:Value}{PA:Option Addr}{pc k:Nat}{y:Row}(tb:TB B0 w)(ix:IxV w x f ds kf pf BB tot)(ip:IxP f ds kf pf BB tot L)(hO:tot≠0->∀ z,(Jhj f kf pf BB).Gp z->z.length<f->0<(Jhj f kf pf BB).pend z.length z->(Jhj f kf pf BB).others z.length z<4294967296)(hy:RdR w PA y)(hk:NatV w kv k):
  Ret Tryz.prog 22 [x,.slice PA y.length pc,kv] w λu w'=>Ext w w'/\(f<y.length->u=.tuple #[.slice none 0 0,.int .i64 0,.int .i64 6])/\(y.length<=f->AcR f BB L y k u w') :=
 (Jtn tb ix ip hO hy hk).mono λu w' ⟨o,j,i⟩=>⟨o,j,λh=>(i h).weak⟩
end
open Go.RowKit Pl Go.Wk
section
variable {w:World} {x:Value} {f:Nat} {ds:List Bool} {kf:Nat->Nat} {pf:Nat->Int} {BB:Nat->List BkT} {tot:Nat} {L:List Row}
theorem within_any(h:IxA w x f ds kf pf BB tot L){y:Row}{PA:Option Addr}{pc k:Nat}{kv:Value}(hy:RdR w PA y)(hk:NatV w kv k):
  Ret Tryz.prog 22 [x,.slice PA y.length pc,kv] w λu w'=>Ext w w'/\(f<y.length->u=.tuple #[.slice none 0 0,.int .i64 0,.int .i64 6])/\(y.length<=f->AcR f BB L y k u w'):=by
 obtain ⟨i,ht⟩:=h.tb;exact acWithin_any ht h.ix h.ip h.ho hy hk
end
open Go.RowKit Pl Go.Wk
attribute [local irreducible] WM
section
variable {pA VA RA:Option Addr} {pn pc vc rc N m:Nat} {f:Int} {vars:Nat->List Nat} {rs:Nat->List Row} {w:World}
theorem rAnswers_any{F:Nat}{ds:List Bool}{dv:Value}(hP:RefP N m vars rs)(hM:RInM w VA RA m vars rs)(hN:N<=31)(hF:F<=N)(hd:BoolsV w dv ds):
  Ret Tryz.prog 55 [.agg (Qzk (N:Int) (F:Int) pA pn pc VA vc RA rc m).toArray,dv] w λu w'=>RowsV w' u (ansF m vars rs N F ds)/\Ext w w':=(Qpj hP hM hN hF hd).mono λu w' h=>⟨h.1,h.2.1⟩
end
open Go.RowKit Pl Go.Wk
theorem blk_same{w w':World}{b t:Nat}{cs:List Value}(h:Blk w b t cs)(h':Blk w' b t cs)(hg:GrN (λk=>k=b) w w'): Ext w w':=⟨hg.os,hg.tape,hg.output,hg.size,λk i=>if e:k=b then by subst e;exact h'.trans h.symm else hg.block k i e⟩
theorem built_any{B0:Nat}{w:World}{cs:List Value}{c:Cse}(hTB:TB B0 w)(h:CseV w cs c)(hfit:∀ i,i<c.rss.length->∀ r∈c.rss.getD i [],∀ u∈r,Qyf u):
  Ret Tryz.prog 15 [.agg cs.toArray] w λu w'=>Ext w w'/\((u=.tuple #[.agg #[.slice none 0 0,.slice none 0 0,.slice none 0 0,.slice none 0 0,.slice none 0 0],.slice none 0 0,.bool true,.bool true]/\¬ Xbz c) ∨
   ∃ (ats:List Atm) (x av:Value) (kf:Nat->Nat) (pf:Nat->Int) (BB:Nat->List BkT) (tot:Nat),CseOk c ats/\u=.tuple #[x,av,.bool false,.bool true]/\IxA w' x c.F c.ds kf pf BB tot c.ans/\RowsV w' av c.ans):=by
 obtain ⟨dA,dc,pA,pc,vA,vc,rA,rc,rfl,hD,hP,hV,hR,hn,hf⟩:=id h;refine Jjc Tryz.func15 Tryz.ntmps15 rfl (by kernel_rfl) rfl ?_;refine ρ ?_;refine bx ?_;intro w1 b a7 hb hB;refine ρ ?_;refine alc Qfg ?_;intro w2 b2 aj b3 c0;have b9:=hB.ext aj;refine ρ ?_;refine ldW b9 ?_;refine ρ ?_;refine cl (Xwg (h.ext (a7.trans aj))) ?_;rintro u w3 ⟨ai,cc,c6,aA,cb,c5,ac,an,ok,rfl,bs,br,bi,au⟩;refine ρ ?_;refine alc zInp ?_;intro w4 b4 be bn bz;refine ρ ?_;refine stW bz ?_;intro w5 bw ca bd;have U:Ext w3 w5:=bd w3 be bn;have b7:=(c0.ext ai).ext U;have af:=(b9.ext ai).ext U;have aa:=((a7.trans aj).trans ai).trans U;refine ρ ?_;refine ldW af ?_;refine ρ ?_;refine cl (few_any (h.ext aa)) ?_;rintro u w6 ⟨a3,fw,rfl,ay,bl⟩;have O:=U.trans a3;have Z:=aa.trans a3;have a4:=b7.ext a3;refine ρ ?_;refine Jzn (fun (t:Bool)=>[(21,.bool t),(1,.pointer (some ⟨b,0,none⟩)),(2,.pointer (some ⟨b2,0,none⟩)),(3,.slice none 0 0),(4,.bool false),(5,.bool false),(6,.pointer (some ⟨b4,0,none⟩)),(7,.bool ok)]) (λt w7=>w7=w6/\t = !(fw && ok)) ?_ ?_
 ·cases fw with
  | false=>
   refine ρ ?_;exact Jjn true sB ⟨rfl,rfl⟩
  | true=>
   refine ρ ?_;exact Jjn (!ok) sB ⟨rfl,by simp⟩
 rintro t w7 ⟨rfl,ht⟩;refine ρ ?_;refine ci (λh=>?_) (λh=>?_)
 ·subst h;refine ρ ?_;refine bld (Xbg _) ?_;refine ρ ?_;refine stW a4 ?_;intro w8 bv c9 a2;have bb:Ext w w8:=a2 w Z (nL a7.size b3);refine ρ ?_;refine finC4 bv ⟨bb,.inl ⟨rfl,λhG=>?_⟩⟩;have h1:=bl hG.1;have h2:=au hG.2.1 hG.2.2;rw [h1,h2]at ht;cases ht
 ·subst h;obtain ⟨c2,c1⟩:fw=true/\ok=true:=by
   cases fw<;>cases ok<;>simp at ht ⊢
  subst c2;subst c1;obtain ⟨aw,ats,bp,hG,hmk,b1⟩:=bi rfl;have G:CseOk c ats:=⟨ay rfl,aw,bp,hmk,b1 trivial,hfit⟩;have b5:=bw.ext a3;refine ρ ?_;refine ldW b5 ?_;obtain ⟨ts,a8,bt⟩:=bldV_of G (bs.ext O) (br.ext O) (hG.ext O λcs a ⟨t,e,h⟩=>⟨t,e,h.ext O⟩);have bg:ts.length=c.m:=by have:=G.al;rw [a8,List.length_map]at this;exact this
  refine ρ ?_;refine cl (Xxw (hTB.ext Z) (G.bldI a8) bt) ?_;rintro u w8 ⟨a2,x,st,kf,pf,R,rfl,hE,ab⟩;obtain ⟨XA,xd,YA,yd,ZA,zd,UA,ud,tv,c7,c4,rfl,_,_,_,_,_,_,bf,_⟩:=id ab.here.ex;obtain ⟨TA,tc,rfl,_⟩:=id bf;have b6:=a4.ext a2;refine ρ ?_;refine stW b6 ?_;intro w9 bu bj bc;have ar:Ext w w9:=bc w (Z.trans a2) (nL a7.size b3);have ad:GrN (λk=>k=b2) w8 w9:=GrN.by bj λk hk=>by injection hk with hk;exact hk.symm
  have bm:=a4.lt;have ak:=ab.gr (ad.mono λk _ hk=>by rw [hk];exact bm);have ba:¬ b=b2:=λe=>by have:=hB.lt;omega
  have b8:=Jqb ((af.ext a3).ext a2) ad ba;have a6:Ext w9 w9.drew:=(Ext.refl w9).drew;have a5:=ar.trans a6;have ao:=bu.ext a6;have ae:=b8.ext a6;have bq:=CseV.rin (hV.ext a5) (hR.ext a5) G;have c8:c.vs.length=c.m:=rfl;have bh:c.rss.length=c.m:=by rw [<-G.len];rfl
  refine ρ ?_;refine drN (λ_=>False) 13 [(0,0),(0,1),(0,3),(0,4),(0,6),(0,7),(1,2),(1,5),(1,8),(0,9),(0,10),(0,11)] (by kernel_rfl) ?_;refine ρn ?_;refine Jgr (cs:=[.slice XA c.F xd,.slice YA c.F yd,.slice ZA c.F zd,.slice UA c.F ud,.slice TA _ tc]) (λw' hg j u hu=>(ao.ext hg.toExt).at hu) ?_;refine ρn ?_;refine Jgr (cs:=[.int .i64 c.n,.int .i64 c.f,.slice dA c.ds.length dc,.slice pA c.pm.length pc,.slice vA c.vs.length vc,.slice rA c.rss.length rc]) (λw' hg j u hu=>(ae.ext hg.toExt).at hu) ?_;refine ρn ?_;refine nld (Jjg (ae.at (i:=2) rfl) (λe=>e)) ?_;refine ρn ?_;refine nop ?_;refine cl ref_any ?_;rintro u aq ⟨rfl,o⟩;refine ρ ?_;refine Jqv (GrN.ext o) ?_;refine ρn ?_;refine nop ?_;have hA:Ret Tryz.prog 55 [.agg #[.int .i64 c.n,.int .i64 c.f,.slice pA c.pm.length pc,.slice vA c.vs.length vc,.slice rA c.rss.length rc],.slice dA c.ds.length dc] aq λu w'=>RowsV w' u c.ans/\Ext aq w':=by
   rw [G.nN.1,G.fF.1,bh];exact rAnswers_any (pA:=pA) (pn:=c.pm.length) (pc:=pc) (vc:=vc) (rc:=rc) G.refP (bq.ext o) (by have:=G.nN.2;omega) G.fF.2 (hD.ext (a5.trans o))
  refine cl hA ?_;rintro av ap ⟨bo,C⟩;refine ρ ?_;refine Jqv (GrN.ext C) ?_;refine ρn ?_;refine nop ?_;refine stW ((ao.ext o).ext C) ?_;intro ah ag ax c3;have am:GrN (λk=>k=b2) ap ah:=GrN.by ax λk hk=>by injection hk with hk;exact hk.symm
  have J:Ext ap ah:=blk_same ((ao.ext o).ext C) ag am;have a1:Ext w ah:=((a5.trans o).trans C).trans J;refine Jzd (Jqv (GrN.ext J) ?_);refine ρn ?_;refine ρ ?_;have a9:=(ak.here.ext (((a6.trans o).trans C).trans J));refine finC4 ag ⟨a1,.inr ⟨ats,_,av,kf,pf,_,_,G,rfl,ixA_of ⟨B0,hTB.ext a1⟩ (G.bldI a8) (rsA_ts a8) hE a9 G.ans.1 (λy=>by rw [bg];exact G.ans.2 y) (by have:=G.anl;omega),bo.ext J⟩⟩
end Go.Proofs.YtefpailelagbkaaGreatDoor
