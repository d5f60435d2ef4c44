/- Part 10. -/
import Derived.Test.YtebcagekopgdhaaGreatDoorG09
import Derived.Laws.BitsAllLaws
import Derived.Laws.CopyRow
set_option linter.unusedVariables false
set_option maxRecDepth 100000
set_option maxHeartbeats 40000000
namespace Go.Wk
open Go.RowKit
variable {e:Act}{parts:Array (Nat×Operand)}{pw:Array (Nat×Value)}{a b:Int}{k1 k2:IntKind}{vs:List Value}{i s t v:Nat}{x y:Operand}{yt:TypeId}
section
variable {N:Nat->Prop} {P:Program} {n:Nat} {al:AL} {w:World} {Q:Exit->Act->World->Prop} {ops:Array Oper} {rest:List Oper} {drest:List (Nat×Oper)}
variable {d ty:Nat} {pos:String} {aft:Array Edge}
theorem Jpt{t:TypeId}(hx:ev al x=some (.int k1 a))(hy:ev al y=some (.int k2 b))(h0:0<=b)(he:Fr n al e)(dst:Option Nat)(w:World):
  (execOp e.eval ⟨dst,.binOp .shr t x y yt,ty,pos,aft,none⟩).run P w=.ok (.value (.int k1 (a.fdiv (2^(min b.toNat k1.bits))))) w:=by
 have o:¬ b<0:=om
 simp [execOp,he.ev hx,he.ev hy,eqGuard,binOp,Op.shift,o]
theorem Jzz{t:TypeId}(hx:ev al x=some (.int k1 a))(hy:ev al y=some (.int k2 b))(h0:0<=b)(he:Fr n al e)(dst:Option Nat)(w:World):
  (execOp e.eval ⟨dst,.binOp .shl t x y yt,ty,pos,aft,none⟩).run P w=.ok (.value (.int k1 (k1.wrap (a*2^(min b.toNat k1.bits))))) w:=by
 have o:¬ b<0:=om
 simp [execOp,he.ev hx,he.ev hy,eqGuard,binOp,Op.shift,o]
theorem Jpn(s v:Nat)(hv:v<=32): ((s:Int)).fdiv (2^(min ((v:Nat):Int).toNat 32))=((s / 2^v:Nat):Int):=by
 rw [Int.toNat_natCast,Nat.min_eq_left hv,Int.fdiv_eq_ediv_of_nonneg _ (by exact Int.pow_nonneg (by decide))];have:((2:Int)^v)=((2^v:Nat):Int):=by simp
 rw [this];rfl
theorem Gl(hv:v<32): 2^v<4294967296:=nM (Nat.pow_lt_pow_right (by decide:1<2) hv) (by decide)
theorem Jvl(hv:v<32): IntKind.u32.wrap (1*2^(min ((v:Nat):Int).toNat 32))=((2^v:Nat):Int):=by
 have h:=Gl hv;rw [Int.toNat_natCast,Nat.min_eq_left om,Int.one_mul];have:((2:Int)^v)=((2^v:Nat):Int):=by simp
 rw [this,IntKind.wrap_u32];generalize 2^v=p at *
 omega
theorem Kh{t:TypeId}(hv:v<=32)(kk:WL P n ops Q rest ((d,.int .u32 ((s / 2^v:Nat):Int))::al) w)(hx:ev al x=some (.int .u32 (s:Int)):=by rfl)(hy:ev al y=some (.int .i64 (v:Int)):=by rfl)(hd:Nat.blt d n=true:=by rfl):
  WL P n ops Q (⟨some d,.binOp .shr t x y yt,ty,pos,aft,none⟩::rest) al w:=by
 rw [<-Jpn s v hv]at kk;exact wop hd (λa o=>Jpt hx hy om o (some d) w) kk
theorem sl32{t:TypeId}(hv:v<32)(kk:WL P n ops Q rest ((d,.int .u32 ((2^v:Nat):Int))::al) w)(hy:ev al y=some (.int .i64 (v:Int)):=by rfl)(hd:Nat.blt d n=true:=by rfl):
  WL P n ops Q (⟨some d,.binOp .shl t (.const (.int .u32 1)) y yt,ty,pos,aft,none⟩::rest) al w:=by
 rw [<-Jvl hv]at kk;exact wop hd (λa o=>Jzz (x:=.const (.int .u32 1)) rfl hy om o (some d) w) kk
theorem dsl32{t:TypeId}(hv:v<32)(kk:WD P n ops Q drest ((d,.int .u32 ((2^v:Nat):Int))::al) w)(hy:ev al y=some (.int .i64 (v:Int)):=by rfl)(hd:Nat.blt d n=true:=by rfl):
  WD P n ops Q ((0,⟨some d,.binOp .shl t (.const (.int .u32 1)) y yt,ty,pos,aft,none⟩)::drest) al w:=by
 rw [<-Jvl hv]at kk;exact dy (λw' _ a o=>Jzz (x:=.const (.int .u32 1)) rfl hy om o (some d) w') hd kk
theorem Jfl{t:TypeId}(hv:v<32)(kk:WN N P n ops Q drest ((d,.int .u32 ((2^v:Nat):Int))::al) w)(hy:ev al y=some (.int .i64 (v:Int)):=by rfl)(hd:Nat.blt d n=true:=by rfl):
  WN N P n ops Q ((0,⟨some d,.binOp .shl t (.const (.int .u32 1)) y yt,ty,pos,aft,none⟩)::drest) al w:=by
 rw [<-Jvl hv]at kk;exact ny_ (λw' _ a o=>Jzz (x:=.const (.int .u32 1)) rfl hy om o (some d) w') hd kk
end
section
variable {N:Nat->Prop} {P:Program} {n:Nat} {al:AL} {w:World} {Q:Exit->Act->World->Prop} {ops:Array Oper} {drest:List (Nat×Oper)}
variable {d ty:Nat} {pos:String} {aft:Array Edge}
theorem Jrb{v:Value}(hb:∀ w,(Instr.build t pw).run P w=.ok v w)(hx:evs al (parts.toList.map (·.2))=some vs)(hp:((parts.toList.map (·.1)).zip vs).toArray=pw){a:Act}(ha:Fr n al a)(dst:Option Nat)(w:World):
  (execOp a.eval ⟨dst,.build t parts,ty,pos,aft,none⟩).run P w=.ok (.value v) w:=by
 subst hp;have u:=ha.evs hx;have o:(parts.map fun (i,x)=>(i,a.eval x))=((parts.toList.map (·.1)).zip vs).toArray:=by
  rw [<-u];apply Array.ext'
  simp only [Array.toList_map];induction parts.toList with
  | nil=>rfl
  | cons x r ih=>simpa using ih
 simp only [execOp,o,Sem.run_bind,hb w];rfl
theorem Jjg{v:Value}(hb:∀ w,(Instr.build t pw).run P w=.ok v w)(kk:WN N P n ops Q drest ((d,v)::al) w)(hx:evs al (parts.toList.map (·.2))=some vs:=by rfl)(hp:((parts.toList.map (·.1)).zip vs).toArray=pw:=by rfl)(hd:Nat.blt d n=true:=by rfl): WN N P n ops Q ((0,⟨some d,.build t parts,ty,pos,aft,none⟩)::drest) al w :=
 ny_ (λw' _ a o=>Jrb hb hx hp o (some d) w') hd kk
theorem dbld{v:Value}(hb:∀ w,(Instr.build t pw).run P w=.ok v w)(kk:WD P n ops Q drest ((d,v)::al) w)(hx:evs al (parts.toList.map (·.2))=some vs:=by rfl)(hp:((parts.toList.map (·.1)).zip vs).toArray=pw:=by rfl)(hd:Nat.blt d n=true:=by rfl): WD P n ops Q ((0,⟨some d,.build t parts,ty,pos,aft,none⟩)::drest) al w :=
 dy (λw' _ a o=>Jrb hb hx hp o (some d) w') hd kk
end
theorem Un(hs:s<4294967296): (bits .and .u32 ((s / 2^v:Nat):Int) 1 == 1)=s.testBit v:=by
 have C:s / 2^v<4294967296:=Nat.lt_of_le_of_lt (Nat.div_le_self _ _) hs;have o:=u32_and_nat (s / 2^v) 1 C om;have u:((1:Nat):Int)=1:=rfl;rw [u]at o;rw [o,Nat.and_one_is_mod,Nat.testBit_eq_decide_div_mod_eq];by_cases h:s / 2^v % 2=1
 .rw [h,decide_eq_true rfl];rfl
 .rw [decide_eq_false h,Jzl om]
theorem Qkg(hs:s<4294967296): (bits .and .u32 ((s / 2^v:Nat):Int) 1 == 0) = !s.testBit v:=by
 have C:s / 2^v<4294967296:=Nat.lt_of_le_of_lt (Nat.div_le_self _ _) hs;have o:=u32_and_nat (s / 2^v) 1 C om;have u:((1:Nat):Int)=1:=rfl;rw [u]at o;rw [o,Nat.and_one_is_mod,Nat.testBit_eq_decide_div_mod_eq];by_cases h:s / 2^v % 2=1
 .rw [h,decide_eq_true rfl];rfl
 .rw [decide_eq_false h,Qkh om];rfl
def Gv(s t:Nat): Nat:=s &&& (4294967295-t)
theorem Qwc(hs:s<4294967296): Gv s t<4294967296:=by
 unfold Gv;exact Nat.lt_of_le_of_lt Nat.and_le_left hs
theorem Jlh(hs:s<4294967296)(ht:t<4294967296): (Gv s t).testBit i=(s.testBit i && !t.testBit i):=by
 unfold Gv;have e:4294967295-t=2^32-(t+1):=om
 rw [Nat.testBit_and,e,Nat.testBit_two_pow_sub_succ om];by_cases hi:i<32
 .rw [decide_eq_true hi];simp
 .have:s.testBit i=false:=Nat.testBit_lt_two_pow (nM hs (Nat.pow_le_pow_right (n:=2) (by decide) (show 32<=i by omega)));rw [this];rfl
theorem Jhv(hs:s<4294967296)(ht:t<4294967296): bits .andNot .u32 (s:Int) (t:Int)=((Gv s t:Nat):Int):=u32_andNot_nat s t hs ht
theorem Jjv(hs:s<4294967296)(ht:t<4294967296): bits .or .u32 (s:Int) (t:Int)=((s ||| t:Nat):Int):=u32_or_nat s t hs ht
theorem Jyb(hs:s<4294967296)(ht:t<4294967296): s ||| t<4294967296:=Nat.or_lt_two_pow (n:=32) hs ht
end Go.Wk
namespace Go.Proofs.YtebcagekopgdhaaGreatDoor
open Go.RowKit Pl Go.Wk
attribute [local irreducible] WC WL QX WD WDB WP WN WG
variable {cs vars:List Nat}{b base c d k n s ty z:Nat}{w:World}
def Qn(vars:List Nat)(s:Nat): List Nat:=(List.range vars.length).filter λi=>s.testBit (vars.getD i 0)
def inS(vars:List Nat)(s:Nat): List Nat:=vars.filter λv=>s.testBit v
theorem Jzc(h:c∈Qn vars s): c<vars.length:=List.mem_range.1 (List.mem_filter.1 h).1
theorem Qds(h:k<=n): (List.range n).take k=List.range k:=by
 apply List.ext_getElem?
 intro i;rw [List.getElem?_take];by_cases hi:i<k
 .rw [if_pos hi,List.getElem?_range om,List.getElem?_range hi]
 .rw [if_neg hi,List.getElem?_eq_none (by simp;omega)]
def Xp(vars:List Nat)(s k:Nat): List Nat:=(List.range k).filter λi=>s.testBit (vars.getD i 0)
theorem Kx(vars:List Nat)(s k:Nat): Xp vars s (k+1)=Xp vars s k++if s.testBit (vars.getD k 0) then [k] else []:=by
 unfold Xp;rw [List.range_succ,List.filter_append];congr 1
 by_cases h:s.testBit (vars.getD k 0)=true
 .rw [if_pos h];simp only [List.filter_cons,List.filter_nil,h,if_true]
 .rw [if_neg h];simp only [List.filter_cons,List.filter_nil,h];rfl
theorem Jkr(h:k<vars.length): inS (vars.take (k+1)) s=inS (vars.take k) s++if s.testBit (vars.getD k 0) then [vars.getD k 0] else []:=by
 unfold inS;rw [Qb 0 h,List.filter_append];congr 1
 by_cases h:s.testBit (vars.getD k 0)=true
 .rw [if_pos h,List.filter_cons_of_pos h];rfl
 .rw [if_neg h,List.filter_cons_of_neg h];rfl
theorem Jwh(vars:List Nat)(s:Nat): ∀ k,k<=vars.length->(Xp vars s k).length=(inS (vars.take k) s).length
 | 0,_=>by simp [Xp,inS]
 | k+1,h=>by
  rw [Kx,Jkr om,List.length_append,List.length_append,Jwh vars s k om];split<;>rfl
theorem Jsm(vars:List Nat)(s:Nat)(z:Row): ∀ k,k<=vars.length->pmR (Xp vars s k) (pmR vars z)=pmR (inS (vars.take k) s) z
 | 0,_=>by simp [Xp,inS,pmR]
 | k+1,h=>by
  have ih:=Jsm vars s z k om;rw [Kx,Jkr om];unfold pmR at *;rw [List.map_append,List.map_append,ih];congr 1
  split
  .simp only [List.map_cons,List.map_nil];congr 1
   exact Jvx om
  .rfl
theorem bs1Int''(z:Int)(w:World): (Instr.buildSlice 44 1 #[(0,.int .i64 z)]).run Tryz.prog w=.ok (.slice (some ⟨w.heap.size,0,none⟩) 1 1) (w.alloc (.cells [.int .i64 z].toArray 3)):=kr
theorem Qgv(a b:List Nat): nz (a++b)=nz a++nz b:=by simp [nz]
theorem Qmk(a b:List Int): Jt (a++b)=Jt a++Jt b:=by simp [Jt]
abbrev Xo(w:World)(base:Nat)(v:Value)(cs:List Nat): Prop:=w.ownsRow base 3 1 v cs.length (Jt (nz cs))
theorem apI{al:AL}{Q:Exit->Act->World->Prop}{ops:Array Oper}{rest:List Oper}{pos:String}{aft:Array Edge}{x y:Operand}{v:Value}(ho:Xo w base v cs)(hb:Blk w b 3 [.int .i64 (z:Int)])(hm:cs.length<=1100000)(hbase:base<=w.heap.size)(kk:∀ v' w',Xo w' base v' (cs++[z])->w.grownBy w' v.ownBlock->(∀ g,v'.ownBlock=some g->v.ownBlock=some g∨w.heap.size<=g)->WL Tryz.prog n ops Q rest ((d,v')::al) w')(hx:ev al x=some v:=by rfl)(hy:ev al y=some (.slice (some ⟨b,0,none⟩) 1 1):=by rfl)(hd:Nat.blt d n=true:=by rfl):
  WL Tryz.prog n ops Q (⟨some d,.call { callee:=.builtin .append,args:=#[x,y],argTypes:=#[44,44] },ty,pos,aft,none⟩::rest) al w:=by
 refine apb (base:=base) EI ho (hb.rd (n:=1) rfl) (λu C=>by rw [List.mem_singleton.1 C];rfl) (by unfold maxLen;omega) om hbase ?_ hx hy hd;intro v' w' o G hn;refine kk v' w' ?_ G hn;rw [Xo,List.length_append,Qgv,Qmk];exact o
set_option maxRecDepth 100000 in
set_option maxHeartbeats 1000000 in
theorem Qtq{t : V3}{rs : List Row}(hA : AtV w t ⟨nz vars, vars.length, rs⟩)(hs : s < 4294967296)(hasc : Xx vars)(hlt : ∀ v ∈ vars, v < 32)(hlen : ∀ r ∈ rs, r.length = vars.length)(hbig : rs.length ≤ 65536):
    Ret Tryz.prog 164 [.agg t.cells.toArray, .int .u32 (s : Int)] w fun u w' => Ext w w' ∧ ∃ t' : V3, u = .tuple #[.agg t'.cells.toArray, .int .i64 0] ∧ ∃ m, Off (fun k => k < w.heap.size) w' (fun x => AtV x t' ⟨nz (inS vars s), (inS vars s).length, m⟩) ∧ m.length ≤ 65536 ∧ (∀ x ∈ m, x ∈ rs.map (pmR (Qn vars s))) ∧
      ((rs.length ≤ 1000 ∨ Srt [] (rs.map (pmR (Qn vars s)))) → IsSet [] (rs.map (pmR (Qn vars s))) m) := by
  obtain ⟨t1, t2, t3⟩ := t
  obtain ⟨⟨D, d, e1, hd, hdm, hdr⟩, e2, hrows⟩ := id hA
  simp only at e1 e2
  subst e1; subst e2
  obtain ⟨ps, G, gc, _, hv3, _⟩ := id hrows
  simp only at hv3
  subst hv3
  have hnl := Qq vars
  have hl32 := Jwq hasc hlt
  refine Jz Tryz.func164 Tryz.ntmps164 rfl kr rfl ?_
  refine ρ ?_
  refine bx ?_
  intro w1 b hx1 hb hB
  refine ρ ?_
  refine alc Vu ?_
  intro w2 br hx2 hbr hBr
  have hB2 := hB.ext hx2
  have hxw2 := hx1.trans hx2
  have hdr' : Rd w 1 D (nz vars).length (Jt (nz vars)) := hdr
  clear hdr hd hdm
  have mono : ∀ i, 1 ≤ i → i < vars.length → vars.getD (i - 1) 0 < vars.getD i 0 := fun i h1 h2 => by
    have := List.pairwise_iff_getElem.1 hasc (i - 1) i om h2 om
    simpa [List.getD, List.getElem?_eq_getElem h2, List.getElem?_eq_getElem (show i - 1 < vars.length by omega)] using this
  have hv32 : ∀ i, i < vars.length → vars.getD i 0 < 32 := fun i hi => hlt _ (getD_mem' 0 _ hi)
  refine ρ ?_
  refine Qh (fun (i : Nat) => [(1, .int .u32 (s : Int)), (2, .pointer (some ⟨b, 0, none⟩)), (4, .pointer (some ⟨br, 0, none⟩)), (6, .int .i64 (i : Int))])
    (fun i w' => 1 ≤ i ∧ i ≤ 1000 ∧ Ext w2 w') (fun i => 1000 - i) 1 sB ⟨Nat.le_refl _, by omega, Ext.refl _⟩ ?_
  rintro i w3 ⟨hi1, hi2, hx3⟩
  have hB3 := hB2.ext hx3
  refine ρ ?_
  refine ld (hB3.at (i := 0) rfl) ?_
  refine ρ ?_
  refine ci (fun h => ?_) (fun h => ?_)
  . have li : i < vars.length := by have := oT h; omega
    clear h
    have hxd : Ext w3 w3.drew := (Ext.refl w3).drew
    have hBd := hB3.ext hxd
    have hDd := hdr'.ext ((hxw2.trans hx3).trans hxd)
    refine ρ ?_
    refine dr [(0, 0), (0, 1), (0, 2), (0, 3), (0, 4), (0, 5), (0, 6), (0, 7), (0, 8), (0, 9), (0, 10), (0, 11)] kr ?_
    refine ρd ?_
    refine dld (hBd.at (i := 0) rfl) ?_
    refine ρd ?_
    refine dix (i - 1) hDd om ?_
    refine ρd ?_
    refine dld (hDd.cell (Xn (show i - 1 < vars.length by omega))) ?_
    refine ρd ?_
    refine dld (hBd.at (i := 0) rfl) ?_
    refine ρd ?_
    refine dix i hDd om ?_
    refine ρd ?_
    refine dld (hDd.cell (Xn li)) ?_
    refine ρd ?_
    refine ρ ?_
    refine cf ?_ ?_
    . exact dF (by have := mono i hi1 li; omega)
    refine ρ ?_
    exact Qv (i + 1) sO ⟨om, by omega, hx3.trans hxd⟩ om
  clear h
  refine ρ ?_
  refine ld (hB3.at (i := 0) rfl) ?_
  refine ρ ?_
  refine Qh (fun (i : Nat) => [(1, .int .u32 (s : Int)), (2, .pointer (some ⟨b, 0, none⟩)), (4, .pointer (some ⟨br, 0, none⟩)), (36, .slice D (nz vars).length d), (37, .int .i64 ((nz vars).length : Int)), (38, .int .i64 (i : Int))])
    (fun i w' => i ≤ vars.length ∧ Ext w3 w') (fun i => vars.length - i) 0 sB ⟨Nat.zero_le _, Ext.refl _⟩ ?_
  rintro i w4 ⟨hi, hx4⟩
  have hxw4 := (hxw2.trans hx3).trans hx4
  have hB4 := hB3.ext hx4
  refine ρ ?_
  refine ci (fun h => ?_) (fun h => ?_)
  . have li : i < vars.length := by have := oT h; omega
    clear h
    have hD4 := hdr'.ext hxw4
    refine ρ ?_
    refine ix i hD4 om ?_
    refine ρ ?_
    refine ld (hD4.cell (Xn li)) ?_
    refine ρ ?_
    refine cf ?_ ?_
    . exact dF (by have := hv32 i li; omega)
    refine ρ ?_
    exact Qv (i + 1) sO ⟨om, hx4⟩ om
  have hi' : i = vars.length := by have := oF h; omega
  clear h hi hi'
  have hxd4 : Ext w4 w4.drew := (Ext.refl w4).drew
  have hB4d := hB4.ext hxd4
  refine ρ ?_
  refine dr [(0, 0), (0, 1), (0, 2), (0, 3), (0, 4), (1, 5), (0, 6)] kr ?_
  refine ρd ?_
  refine dld (hB4d.at (i := 0) rfl) ?_
  refine ρd ?_
  refine Qw (cs := [.int .i64 (vars.length : Int), .slice G ps.length gc]) (hB4d.sub2 (i := 1) rfl rfl) ?_
  refine ρd ?_
  refine dcl (Jdz ((hA.ext (hxw4.trans hxd4)).rel)) ?_
  rintro u w5 ⟨rfl, hx5⟩
  refine ⟨hx5, ?_⟩
  refine ρd ?_
  refine ρ ?_
  refine cf ?_ ?_
  . exact Qzw (by rw [hnl])
  have hxw5 := (hxw4.trans hxd4).trans hx5
  have hx25 : Ext w2 w5 := ((hx3.trans hx4).trans hxd4).trans hx5
  refine ρ ?_
  refine alc Vu ?_
  intro w6 bq hx6 hbq hBq
  have hB6 := (hB2.ext hx25).ext hx6
  have hxw6 := hxw5.trans hx6
  have hBr6 := (hBr.ext hx25).ext hx6
  refine ρ ?_
  refine ld (hB6.at (i := 0) rfl) ?_
  refine ρ ?_
  refine Xm (fun (k : Nat) (vv vc : Value) => [(1, .int .u32 (s : Int)), (2, .pointer (some ⟨b, 0, none⟩)), (4, .pointer (some ⟨br, 0, none⟩)), (9, .pointer (some ⟨bq, 0, none⟩)), (10, vc), (59, .slice D (nz vars).length d), (60, .int .i64 ((nz vars).length : Int)), (61, .int .i64 (k : Int))])
    (fun k vv vc w' => k ≤ vars.length ∧ Ext w w' ∧ Blk w' b 99 [.slice D (nz vars).length d, .int .i64 (vars.length : Int), .slice G ps.length gc] ∧ Blk w' br 99 [.slice none 0 0, .int .i64 0, .slice none 0 0] ∧ Blk w' bq 99 [vv, .int .i64 0, .slice none 0 0] ∧
      Xo w' w.heap.size vv (inS (vars.take k) s) ∧ Xo w' w.heap.size vc (Xp vars s k) ∧ ∀ g, vv.ownBlock = some g → vc.ownBlock ≠ some g) (fun k _ _ => vars.length - k) 0 (.slice none 0 0) (.slice none 0 0) sB
    ⟨Nat.zero_le _, hxw6, hB6, hBr6, hBq, Xa _ _ _ _, Xa _ _ _ _, fun g e => (by cases e)⟩ ?_
  clear hB6 hBr6 hBq
  rintro k vv vc w7 ⟨hk, hx7, hB7, hBr7, hBq7, hv7, hc7, hne7⟩
  refine ρ ?_
  refine ci (fun h => ?_) (fun h => ?_)
  . have lk : k < vars.length := by have := oT h; omega
    clear h
    have hD7 := hdr'.ext hx7
    have hcl := Jwh vars s k om
    have hil : (inS (vars.take k) s).length ≤ 32 := by
      have := List.length_filter_le (fun v => s.testBit v) (vars.take k)
      rw [List.length_take] at this; unfold inS; omega
    refine ρ ?_
    refine ix k hD7 om ?_
    refine ρ ?_
    refine ld (hD7.cell (Xn lk)) ?_
    refine ρ ?_
    refine Kh (s := s) (v := vars.getD k 0) (by have := hv32 k lk; omega) ?_
    refine ρ ?_
    refine ci (fun h => ?_) (fun h => ?_)
    . rw [Un hs] at h
      refine ρ ?_
      refine ld (hBq7.at (i := 0) rfl) ?_
      refine ρ ?_
      refine bsl (bs1Int'' _) ?_
      intro w8 b8 hx8 hb8 hB8
      refine ρ ?_
      refine apI (Jk hv7 hx8) hB8 om (hx7.trans hx8).size ?_
      intro vv9 w9 hv9 hg9 hn9
      have own_ge : ∀ {w' : World} {cs : List Nat} {v : Value}, Xo w' w.heap.size v cs → ∀ g, v.ownBlock = some g → w.heap.size ≤ g ∧ g < w'.heap.size := fun ho g eg => by
        obtain ⟨_, _, _, _, hf⟩ := Jy ho; exact hf g eg
      have hx9 : Ext w w9 := Qf (hx7.trans hx8) hg9 (fun g eg => (own_ge hv7 g eg).1)
      have hBq9 := (hBq7.ext hx8).grown hg9 ((hBq7.ext hx8).ne_own (Jk hv7 hx8) rfl)
      have hB9 := (hB7.ext hx8).grown hg9 ((hB7.ext hx8).ne_own (Jk hv7 hx8) rfl)
      have hBr9 := (hBr7.ext hx8).grown hg9 ((hBr7.ext hx8).ne_own (Jk hv7 hx8) rfl)
      have hc9 : Xo w9 w.heap.size vc (Xp vars s k) := Js (Jk hc7 hx8) (GrN.by hg9 fun g eg => eg) (fun g eg e => hne7 g e eg)
      have hne9 : ∀ g, vv9.ownBlock = some g → vc.ownBlock ≠ some g := fun g eg e => by
        rcases hn9 g eg with h' | h'
        . exact hne7 g h' e
        . have := (own_ge hc7 g e).2; have := hx8.size; omega
      have h19 : vv9.oneCell' = true := by obtain ⟨_, _, e, _⟩ := Jy hv9; rw [e]; rfl
      refine ρ ?_
      refine sto (p := ⟨bq, 0, none⟩) (hBq9.cell 0) (hBq9.frozen _) ?_ (hv := h19)
      have hgs : w9.grownBy (w9.setCell ⟨bq, 0, none⟩ vv9) (some bq) := Qck _
      have hBqs := hBq9.set 0 vv9
      have hxs : Ext w (w9.setCell ⟨bq, 0, none⟩ vv9) := hx9.setCell (by simp only; have := hxw5.size; omega) _
      have hvs : Xo (w9.setCell ⟨bq, 0, none⟩ vv9) w.heap.size vv9 (inS (vars.take k) s ++ [vars.getD k 0]) := Js hv9 (GrN.by hgs fun g eg => eg) (fun g eg e => by injection e with e; subst e; exact hBq9.ne_own hv9 rfl eg.symm)
      have hcs : Xo (w9.setCell ⟨bq, 0, none⟩ vv9) w.heap.size vc (Xp vars s k) := Js hc9 (GrN.by hgs fun g eg => eg) (fun g eg e => by injection e with e; subst e; exact hBq9.ne_own hc9 rfl eg.symm)
      have bqne : ∀ {x : Nat}, x < w5.heap.size → x ≠ bq := fun h e => by omega
      have hBs : Blk (w9.setCell ⟨bq, 0, none⟩ vv9) b 99 _ := hB9.far (bqne (by have := hB2.lt; have := hx25.size; omega)) _
      have hBrs : Blk (w9.setCell ⟨bq, 0, none⟩ vv9) br 99 _ := hBr9.far (bqne (by have := hBr.lt; have := hx25.size; omega)) _
      generalize w9.setCell ⟨bq, 0, none⟩ vv9 = w10 at *
      clear hBq9 hB9 hBr9 hc9 hx9 hg9 hgs hv9 hn9
      refine ρ ?_
      refine bsl (bs1Int'' _) ?_
      intro w11 b11 hx11 hb11 hB11
      refine ρ ?_
      refine apI (Jk hcs hx11) hB11 om (hxs.trans hx11).size ?_
      intro vc12 w12 hc12 hg12 hn12
      have hx12 : Ext w w12 := Qf (hxs.trans hx11) hg12 (fun g eg => (own_ge hcs g eg).1)
      have nb : ∀ {g : Nat} {cs : List Value}, Blk w10 g 99 cs → Blk w12 g 99 cs := fun h => (h.ext hx11).grown hg12 ((h.ext hx11).ne_own (Jk hcs hx11) rfl)
      refine ρ ?_
      refine Qt (k + 1) vv9 vc12 sO ⟨om, hx12, nb hBs, nb hBrs, nb hBqs, ?_, ?_, fun g eg e => ?_⟩ om
      . rw [Jkr lk, if_pos h]
        exact Js (Jk hvs hx11) (GrN.by hg12 fun g eg => eg) (fun g eg e => hne9 g eg e)
      . rw [Kx, if_pos h]; exact hc12
      . rcases hn12 g e with h' | h'
        . exact hne9 g eg h'
        . have := (own_ge hvs g eg).2; have := hx11.size; omega
    . rw [Un hs] at h
      have hf : ¬ s.testBit (vars.getD k 0) = true := by rw [h]; simp
      refine ρ ?_
      refine Qt (k + 1) vv vc sO ⟨om, hx7, hB7, hBr7, hBq7, ?_, ?_, hne7⟩ om
      . rw [Jkr lk, if_neg hf, List.append_nil]; exact hv7
      . rw [Kx, if_neg hf, List.append_nil]; exact hc7
  have hk' : k = vars.length := by have := oF h; omega
  subst hk'
  clear h
  rw [List.take_length] at hv7
  have hcc : Xp vars s vars.length = Qn vars s := rfl
  rw [hcc] at hc7
  obtain ⟨VA, vac, eva, hva, _⟩ := Jy hv7
  obtain ⟨CA, cac, eca, hca, _⟩ := Jy hc7
  have hcl32 : (Qn vars s).length ≤ 32 := by
    have := List.length_filter_le (fun i => s.testBit (vars.getD i 0)) (List.range vars.length)
    rw [List.length_range] at this; unfold Qn; omega
  have hil32 : (inS vars s).length ≤ 32 := by
    have := List.length_filter_le (fun v => s.testBit v) vars
    unfold inS; omega
  refine ρ ?_
  refine lds (cs := [.int .i64 (vars.length : Int), .slice G ps.length gc]) (hB7.sub2 (i := 1) rfl rfl) ?_
  refine ρ ?_
  have hcolsV : IntsV w7 vc (nz (Qn vars s)) := by
    refine ⟨CA, cac, by rw [Qq]; exact eca, by rw [Qq]; exact hca, by rw [Qq]; omega, ?_⟩
    rw [Qq]
    have := hc7
    rw [eca] at this; exact Rd.own this
  refine cl (Jrq (cs := Qn vars s) ((hA.ext hx7).rel) hcolsV hlen (fun c hc => Jzc hc) hcl32 hbig) ?_
  rintro u w8 ⟨hx8, rv, rfl, ⟨z, RB, rm, rd, rfl⟩, m, hoff, hml, hms, hset⟩
  refine ρ ?_
  refine alc Yo ?_
  intro w9 b9 hx9 hb9 hB9
  refine ρ ?_
  refine stb (cs' := [.int .i64 z, .slice RB rm rd]) hB9 ?_ Vn
  intro w10 hB10 hg10 hx10
  have hx810 : Ext w8 w10 := hx10 w8 hx9 hb9
  refine ρ ?_
  refine ldW hB10 ?_
  have hBq10 := (hBq7.ext hx8).ext hx810
  refine ρ ?_
  refine stB (o := 1) (us := [.int .i64 z, .slice RB rm rd]) hBq10 (by simp) Vn ?_
  intro w11 hBq11 hg11
  refine ρ ?_
  refine ldW hBq11 ?_
  have hbqw : w.heap.size ≤ bq := by have := hxw5.size; omega
  have hx711 : Ext w w11 := Jyx ((hx7.trans hx8).trans hx810) hg11 hbqw
  have hbrq : br ≠ bq := by have := hBr.lt; have := hx25.size; omega
  have hBr11 : Blk w11 br 99 _ := ((hBr7.ext hx8).ext hx810).grown hg11 (fun e => by injection e with e; exact hbrq e)
  refine ρ ?_
  refine stb (cs' := [vv, .int .i64 z, .slice RB rm rd]) hBr11 ?_ (fun u hu => by
    simp only [List.mem_cons, List.not_mem_nil, or_false] at hu
    rcases hu with rfl | rfl | rfl
    . rw [eva]; rfl
    . rfl
    . rfl)
  intro w12 hBr12 hg12 _
  refine ρ ?_
  have hbrw : w.heap.size ≤ br := by have := hx1.size; omega
  have hx12 : Ext w w12 := Jyx hx711 hg12 hbrw
  refine Zp hBr12 ⟨hx12, (vv, .int .i64 z, .slice RB rm rd), rfl, m, ?_, hml, hms, hset⟩
  have hgN : GrN (fun k => k = bq ∨ k = br) w10 w12 := (GrN.by hg11 fun k e => .inl (by injection e with e; exact e.symm)).trans (GrN.by hg12 fun k e => .inr (by injection e with e; exact e.symm))
  have hb7 : bq < w7.heap.size ∧ br < w7.heap.size := ⟨hBq7.lt, hBr7.lt⟩
  intro w' hg'
  have hg812 : GrN (fun k => k < w7.heap.size) w8 w' := ((GrN.ext hx810).trans (hgN.mono fun k _ hk => by rcases hk with rfl | rfl; · exact hb7.1
                                                                                                          exact hb7.2)).trans (hg'.mono fun k _ hk => nM hk hx7.size)
  obtain ⟨rv, erv, hrv⟩ := hoff w' hg812
  have hrv2 : (Value.int .i64 z) = .int .i64 ((Qn vars s).length : Int) ∧ Value.slice RB rm rd = rv := by
    simp only [Value.agg.injEq, Array.mk.injEq, List.cons.injEq, and_true] at erv
    exact erv
  have hvw : Xo w' w.heap.size vv (inS vars s) := by
    have h1 := Jk (Jk hv7 hx8) hx810
    have h2 : Xo w12 w.heap.size vv (inS vars s) := Js h1 hgN fun g eg hk => by
      rcases hk with rfl | rfl
      . exact hBq10.ne_own h1 rfl eg.symm
      . exact ((hBr7.ext hx8).ext hx810).ne_own h1 rfl eg.symm
    refine Js h2 hg' fun g eg hk => ?_
    obtain ⟨_, _, _, _, hf⟩ := Jy h2
    have := (hf g eg).1; omega
  have hcl : (Qn vars s).length = (inS vars s).length := by
    have := Jwh vars s vars.length (Nat.le_refl _)
    rw [List.take_length] at this; exact this
  refine ⟨⟨VA, vac, by rw [Qq]; exact eva, by rw [Qq]; exact hva, by rw [Qq]; omega, ?_⟩, ?_, ?_⟩
  . rw [Qq]
    rw [eva] at hvw; exact Rd.own hvw
  . simp only; rw [← hcl]; exact hrv2.1
  . simp only; rw [hrv2.2]; exact hrv
open Go.RowKit Pl Go.Wk
variable {nums vars:List Nat}{ls rs:List Row}{ar b s:Nat}{w:World}
def RowG(w:World)(cs:List Value)(z:Row): Prop:=∃ v,cs=[v]/\RowV w v z
theorem Jrf: ∀ (ps:List (List Value×Row)) (w:World),(∀ p∈ps,RowG w p.1 p.2)->∃ qs:List Pr,qs.map (·.2)=ps.map (·.2)/\qs.map (·.1)=Qj ps/\qs.length=ps.length/\∀ q∈qs,RowV w q.1 q.2
 | [],w,_=>⟨[],rfl,rfl,rfl,λq hq=>by cases hq⟩
 | p::ps,w,h=>by
  obtain ⟨qs,h1,h2,h3,h4⟩:=Jrf ps w λq hq=>h q (List.mem_cons_of_mem _ hq);obtain ⟨v,e,hr⟩:=h p (mC ..);refine ⟨(v,p.2)::qs,by simp [h1],?_,by simp [h3],λq hq=>?_⟩
  .simp only [Qj,List.flatMap_cons,List.map_cons,e]at h2 ⊢;rw [h2];rfl
  .rcases List.mem_cons.1 hq with rfl|hq
   .exact hr
   .exact h4 q hq
theorem Qcw{v:Value}(h:GV 1 RowG w v ls): RowsV w v ls:=by
 obtain ⟨ps,A,c,e,G,C,u,o,O⟩:=h;obtain ⟨J,h1,h2,h3,Z⟩:=Jrf ps w λp U=>(O p U).2;rw [<-h3]at G C u o;exact ⟨J,A,c,by rw [e,h1],G,C,u,by rw [h2];exact o,Z⟩
def YM(b:Nat)(base:Nat)(l:List Row)(w:World): Prop:=b<base/\∃ v,Blk w b 54 [v]/\OwnG 37 1 RowG w base v l
theorem Qhx(hb:b<s): YZ s (.func (.func 166) #[] #[.pointer (some ⟨b,0,none⟩)]) (λk=>k=b) (YM b):=by
 refine ⟨λbase l w w' h hg=>?_,_,_,_,rfl,λbase l w w1 vr z G h hx hr hl=>?_⟩
 .obtain ⟨C,v,hB,hO⟩:=h;exact ⟨C,v,Jv hB hg (λe=>om),hO.gr hg λk hk=>hk.2⟩
 obtain ⟨C,v,hB,hO⟩:=h;have U:=hB.ext hx;have J:=hO.ext hx;obtain ⟨RA,rn,rc,a6,_,_,_⟩:∃ A n c,vr=.slice A n c/\True/\True/\True:=by obtain ⟨A,c,e,_⟩:=hr;exact ⟨A,_,c,e,trivial,trivial,trivial⟩
 refine Jz Tryz.func166 Tryz.ntmps166 rfl kr rfl ?_;refine ρ ?_;refine ld (U.at (i:=0) rfl) ?_;refine ρ ?_;refine bsl (cs:=[vr]) (λw=>Jbp vr w RA rn rc a6) ?_;intro w2 b2 o af ab;obtain ⟨_,_,_,_,hf⟩:=J.form;have hΦ:Off (Qa base v) w2 (λu=>RowG u [vr] z):=((hr.off.mono λk hk h=>by
  rcases h with h|h
  .omega
  .obtain ⟨_,_,_,_,a9⟩:=hO.form;exact (a9 k h).2).imp λu h=>⟨vr,rfl,h⟩).ext o
 refine ρ ?_;refine apG ER (Φ:=RowG) (J.ext o) ab rfl (λu hu=>by rw [List.mem_singleton.1 hu,a6];rfl) hΦ om om (nL G (hx.trans o).size) ?_;intro v3 Z a4 a3 ac;obtain ⟨A3,c3,e3,ae,ad⟩:=a4.form;have a1:GrN (λk=>k=b∨base<=k) w1 Z:=(GrN.ext o).trans (GrN.by a3 λk ek=>.inr (hf k ek).1);have a7:some b≠v.ownBlock:=by
  obtain ⟨ps,_,ho,_⟩:=J;exact U.ne_own ho rfl
 have O:Blk Z b 54 [v]:=(U.ext o).grown a3 a7;refine ρ ?_;refine sto (p:=⟨b,0,none⟩) (O.cell 0) (O.frozen _) ?_ (hv:=by rw [e3];rfl);have a5:=O.set 0 v3;have a2:GrN (λk=>k=b) Z (Z.setCell ⟨b,0,none⟩ v3):=GrN.set _ rfl;refine ρ ?_;have a8:(l++[z]).length=l.length+1:=by simp
 rw [a8]at e3;refine ld (v:=.slice A3 (l.length+1) c3) ((a5.at (i:=0) rfl).trans (by simp [e3])) ?_;refine ρ ?_;have aa:OwnG 37 1 RowG (Z.setCell ⟨b,0,none⟩ v3) base v3 (l++[z]):=a4.gr a2 λk hk=>by omega
 refine Jq ⟨?_,⟨C,v3,a5,aa⟩,a1.trans (a2.mono λk _ hk=>.inl hk)⟩;rw [decide_eq_true (show ((l.length+1:Nat):Int)<=65536 by omega)]
theorem Qtg(z:Int)(A:Option Addr)(n c:Nat)(w:World): (Instr.build 99 #[(1,.agg #[.int .i64 z,.slice A n c])]).run Tryz.prog w=.ok (.agg #[.slice none 0 0,.int .i64 z,.slice A n c]) w:=kr
theorem Qhz{Na:Option Addr}{t:V3}(hA:AtV w t ⟨nz vars,ar,rs⟩)(hB:Blk w b 44 [.slice Na nums.length nums.length])(hN:Rd w 1 Na nums.length (Jt (nz nums)))(hlt:∀ v∈vars,v<nums.length)(hl:vars.length<=1000):
  Ret Tryz.prog 163 [.agg t.cells.toArray,.pointer (some ⟨b,0,none⟩)] w λu w'=>Ext w w'/\∃ v1,u=.agg #[v1,t.2.1,t.2.2]/\Off (λk=>k<w.heap.size) w' (λx=>IntsV x v1 (nz (vars.map λv=>nums.getD v 0))):=by
 obtain ⟨t1,t2,t3⟩:=t;obtain ⟨⟨D,d,e1,hd,bf,an⟩,e2,ae⟩:=id hA;simp only at e1 e2;subst e1;subst e2;obtain ⟨ps,G,gc,_,ai,_⟩:=id ae;simp only at ai;subst ai;have bp:=Qq vars;have am:Rd w 1 D (nz vars).length (Jt (nz vars)):=an;clear an hd bf;refine Jz Tryz.func163 Tryz.ntmps163 rfl kr rfl ?_;refine ρ ?_;refine bx ?_;intro w1 b1 ab bv b4;refine ρ ?_;refine alc Vu ?_;intro w2 b2 a5 bu ax;refine ρ ?_;refine lds (cs:=[.int .i64 (ar:Int),.slice G ps.length gc]) ((b4.ext a5).sub2 (i:=1) rfl rfl) ?_;refine ρ ?_;refine bld (Qtg _ _ _ _ _) ?_;refine ρ ?_;refine alc Vu ?_;intro w3 b3 b9 bh bn;refine ρ ?_;refine stb (cs':=[.slice none 0 0,.int .i64 (ar:Int),.slice G ps.length gc]) bn ?_ (λu hu=>by
  simp only [List.mem_cons,List.not_mem_nil,or_false]at hu;rcases hu with rfl|rfl|rfl<;>rfl)
 intro w4 bm bs b8;have a3:Ext w2 w4:=b8 w2 b9 bh;have af:Ext w w4:=(ab.trans a5).trans a3;have ay:=(b4.ext a5).ext a3;have aw:=ax.ext a3;refine ρ ?_;refine ld (ay.at (i:=0) rfl) ?_;refine ρ ?_;refine Je (fun (k:Nat) (vv:Value)=>[(1,.pointer (some ⟨b,0,none⟩)),(3,.pointer (some ⟨b2,0,none⟩)),(4,.pointer (some ⟨b3,0,none⟩)),(11,.slice D (nz vars).length d),(12,.int .i64 ((nz vars).length:Int)),(13,.int .i64 (k:Int))])
  (λk vv w'=>k<=vars.length/\Ext w w'/\Blk w' b2 99 [.slice none 0 0,.int .i64 0,.slice none 0 0]/\Blk w' b3 99 [vv,.int .i64 (ar:Int),.slice G ps.length gc]/\Xo w' w.heap.size vv ((vars.take k).map λv=>nums.getD v 0)) (λk _=>vars.length-k) 0 (.slice none 0 0) sB
  ⟨Nat.zero_le _,af,aw,bm,Xa _ _ _ _⟩ ?_
 rintro k vv w5 ⟨hk,a1,Z,aa,a2⟩;refine ρ ?_;refine ci (λh=>?_) (λh=>?_)
 .have lk:k<vars.length:=by have:=oT h;omega
  clear h;have aq:=am.ext a1;have ag:=hlt _ (getD_mem' 0 _ lk);obtain ⟨own,J⟩:∃ own,own=vv.ownBlock:=⟨_,rfl⟩;have ak:∀ j,own=some j->w.heap.size<=j:=λj ej=>by
   obtain ⟨_,_,_,_,hf⟩:=Jy a2;exact (hf j (by rw [<-J];exact ej)).1
  have br:((vars.take k).map λv=>nums.getD v 0).length<=1000:=by simp;omega
  refine ρ ?_;refine ix k aq om ?_;refine ρ ?_;refine ld (aq.cell (Xn lk)) ?_;refine ρ ?_;refine drN (one own) 8 [(0,0),(0,1),(0,2),(0,3),(0,4),(0,5),(1,6),(1,7),(0,8),(2,9)] kr ?_;have C:Ext w5 w5.drew:=(Ext.refl w5).drew;have O:=aa.ext C;have bi:=hB.ext (a1.trans C);have ap:=hN.ext (a1.trans C);have a6:=Jk a2 C;have n3:¬ one own b3:=λe=>O.ne_own a6 rfl (by rw [<-J];exact e.symm);have a9:∀ {g:Nat},g<w.heap.size->¬ one own g:=λhg e=>by have:=ak _ e;omega
  refine ρn ?_;refine nld (Jp (O.at (i:=0) rfl) n3) ?_;refine ρn ?_;refine nld (Jp (bi.at (i:=0) rfl) (a9 hB.lt)) ?_;refine ρn ?_;refine nix (vars.getD k 0) ap ag ?_;refine ρn ?_;refine nld (λw' hg=>(Vj ap hg (λh0 ad e=>a9 (by
   obtain ⟨bw,e',aj,_⟩:=hN.2 h0;rw [e]at e';injection e' with e';subst e';exact aj))).cell (Xn ag)) ?_
  refine ρn ?_;refine nop ?_;refine bsl (bs1Int'' _) ?_;intro w6 b6 o bt bj;refine ρ ?_;refine Jb (GrN.ext o) ?_;refine nop ?_;refine apI (Jk a6 o) bj om (((a1.trans C).trans o).size) ?_;intro a4 w7 ac a7 bq;refine ρ ?_;refine Jb (GrN.by a7 λj ej=>by rw [<-J]at ej;exact ej) ?_;refine ρn ?_;refine Xy ?_;have U:=(O.ext o).grown a7 ((O.ext o).ne_own (Jk a6 o) rfl);have au:=((Z.ext C).ext o).grown a7 (((Z.ext C).ext o).ne_own (Jk a6 o) rfl);have b7:Ext w w7:=Qf ((a1.trans C).trans o) a7 (λj ej=>ak j (by rw [J];exact ej));have bo:a4.oneCell'=true:=by obtain ⟨_,_,e,_⟩:=Jy ac;rw [e];rfl
  refine sto (p:=⟨b3,0,none⟩) (U.cell 0) (U.frozen _) ?_ (hv:=bo);have bd:GrN (λk=>k=b3) w7 (w7.setCell ⟨b3,0,none⟩ a4):=GrN.set _ rfl;have bg:w.heap.size<=b3:=by have:=(ab.trans a5).size;omega
  refine ω5 ?_;refine Uv ?_;refine ρn ?_;refine ρ ?_;refine Jl (k+1) a4 sO ⟨om,b7.setCell bg _,au.far (by simp only;have:=ax.lt;omega) _,U.set 0 a4,?_⟩ om;rw [Qb 0 lk,List.map_append];exact Js ac bd (λg eg e=>by subst e;exact U.ne_own ac rfl eg.symm)
 have bc:k=vars.length:=by have:=oF h;omega
 subst bc;clear h;rw [List.take_length]at a2;obtain ⟨VA,b5,a8,ah,ba⟩:=Jy a2;rw [List.length_map]at a8 ah;refine ρ ?_;refine ldW aa ?_;refine ρ ?_;refine stb (cs':=[vv,.int .i64 (ar:Int),.slice G ps.length gc]) Z ?_ (λu hu=>by
  simp only [List.mem_cons,List.not_mem_nil,or_false]at hu;rcases hu with rfl|rfl|rfl
  .rw [a8];rfl
  .rfl
  .rfl)
 intro w6 av be o;refine ρ ?_;have ao:w.heap.size<=b2:=by have:=ab.size;omega
 refine Iq av ⟨o w a1 ao,vv,rfl,?_⟩;have bb:Xo w6 w.heap.size vv (vars.map λv=>nums.getD v 0):=Js a2 (GrN.by be λg eg=>eg) (λg eg e=>by injection e with e;subst e;exact Z.ne_own a2 rfl eg.symm);refine (Jqx bb (λg eg hk=>by have:=(ba g eg).1;omega)).imp λx h=>⟨VA,b5,by rw [Qq,List.length_map];exact a8,by rw [Qq,List.length_map];exact ah,by rw [Qq,List.length_map];omega,?_⟩;rw [a8]at h;rw [Qq,List.length_map];simp only [List.length_map]at h;exact Rd.own h
end Go.Proofs.YtebcagekopgdhaaGreatDoor
namespace Go.Proofs.YtebcagekopgdhaaGreatDoor
open Pl Go.Wk
variable {vars vs:List Nat}{k m n s u v:Nat}
def bk(s v:Nat): List Nat:=(List.range v).filter λu=>s.testBit u
theorem bk_mem: u∈bk s v↔u<v/\s.testBit u=true:=by simp [bk]
theorem Um(s v:Nat): bk s (v+1)=bk s v++if s.testBit v then [v] else []:=by
 unfold bk;rw [List.range_succ,List.filter_append];congr 1
 by_cases h:s.testBit v=true
 .rw [if_pos h];simp only [List.filter_cons,List.filter_nil,h,if_true]
 .rw [if_neg h];simp only [List.filter_cons,List.filter_nil,h];rfl
theorem Jjt(s v:Nat): Xx (bk s v):=List.Pairwise.sublist List.filter_sublist List.pairwise_lt_range
theorem Yv(s v:Nat): (bk s v).length<=v:=by
 have:=List.length_filter_le (λu=>s.testBit u) (List.range v);rw [List.length_range]at this;exact this
theorem Jtv(s n:Nat): ∀ u,u<=n->lv (bk s n) u=(bk s u).length
 | 0,_=>by rw [Jkk];rfl
 | u+1,h=>by
  have ih:=Jtv s n u om;rw [Um,List.length_append,<-ih];by_cases hb:s.testBit u=true
  .rw [if_pos hb,(Vs (Jjt s n) (bk_mem.2 ⟨om,hb⟩)).1];rfl
  .rw [if_neg hb,Jjl (λh'=>hb (bk_mem.1 h').2)];rfl
theorem Jft(ha:Xx vs)(hk:k<vs.length): lv vs (vs.getD k 0)=k:=by
 obtain ⟨_,o,u⟩:=Vs ha (getD_mem' 0 vs hk);exact Jtb (Qkz ha) o hk ((Jr 0 vs o).symm.trans (u.trans (Jr 0 vs hk)))
theorem Jzk(hs:s<2^n)(h:s.testBit u=true): u<n:=by
 rcases Nat.lt_or_ge u n with h'|h'
 .exact h'
 .rw [Nat.testBit_lt_two_pow (nM hs (Nat.pow_le_pow_right (n:=2) (by decide) h'))]at h;cases h
def Zj(s v:Nat): List Nat:=(List.range 32).map λu=>if u<v/\s.testBit u=true then (bk s u).length else 0
theorem Jxf(s v:Nat): (Zj s v).length=32:=by simp [Zj]
theorem Qgw(hu:u<32)(h:s.testBit u=true): (Zj s 32).getD u 0=lv (bk s 32) u:=by
 rw [Jtv s 32 u om];simp [Zj,List.getD,hu,h]
theorem Jsx(hv:v<32): Zj s (v+1)=if s.testBit v then (Zj s v).set v (bk s v).length else Zj s v:=by
 apply List.ext_getElem?
 intro i;by_cases h:s.testBit v=true
 .rw [if_pos h,List.getElem?_set];by_cases e:v=i
  .subst e;rw [if_pos rfl,if_pos (by rw [Jxf];exact hv)];simp [Zj,hv,h]
  .rw [if_neg e];by_cases hi:i<32
   .simp only [Zj,List.getElem?_map,List.getElem?_range hi,Option.map_some];congr 1
    have:(i<v+1/\s.testBit i=true)↔(i<v/\s.testBit i=true):=by constructor<;>(rintro ⟨a,b⟩;exact ⟨om,b⟩)
    simp only [this]
   .simp [Zj,hi]
 .rw [if_neg h];by_cases hi:i<32
  .simp only [Zj,List.getElem?_map,List.getElem?_range hi,Option.map_some];congr 1
   have:(i<v+1/\s.testBit i=true)↔(i<v/\s.testBit i=true):=by
    constructor
    .rintro ⟨a,b⟩;refine ⟨?_,b⟩;rcases Nat.lt_or_ge i v with h'|h'
     .exact h'
     .have:i=v:=om
      subst this;exact absurd b h
    .rintro ⟨a,b⟩;exact ⟨om,b⟩
   simp only [this]
  .simp [Zj,hi]
def rnm(vars:List Nat)(s:Nat): List Nat:=(inS vars s).map λv=>lv (bk s 32) v
theorem inS_mem: v∈inS vars s↔v∈vars/\s.testBit v=true:=by simp [inS]
theorem Qmr(h:Xx vars): Xx (inS vars s):=List.Pairwise.sublist List.filter_sublist h
theorem Qlg(ha:Xx vs)(hu:u∈vs)(h:u<v): lv vs u<lv vs v:=by
 have o:=(Vs ha hu).1;have mono:∀ k,lv vs (u+1)<=lv vs (u+1+k):=by
  intro k;induction k with
  | zero=>exact Nat.le_refl _
  | succ k ih=>
   by_cases h:u+1+k∈vs
   .have:=(Vs ha h).1;rw [<-Nat.add_assoc,this];omega
   .rw [<-Nat.add_assoc,Jjl h];exact ih
 have:=mono (v-(u+1));rw [show u+1+(v-(u+1))=v by omega]at this;omega
theorem Qdg(h:Xx vars)(hl:∀ v∈vars,v<32): Xx (rnm vars s):=by
 unfold rnm Xx;rw [List.pairwise_map];refine List.Pairwise.imp_of_mem (fun {u v} hu hv huv=>?_) (Qmr (s:=s) h);exact Qlg (Jjt s 32) (bk_mem.2 ⟨hl u (inS_mem.1 hu).1,(inS_mem.1 hu).2⟩) huv
theorem Qdf(hl:∀ v∈vars,v<32)(hk:k∈rnm vars s): k<(bk s 32).length:=by
 obtain ⟨v,o,rfl⟩:=List.mem_map.1 hk;obtain ⟨C,u⟩:=inS_mem.1 o;exact (Vs (Jjt s 32) (bk_mem.2 ⟨hl v C,u⟩)).2.1
theorem Jrk(vars:List Nat)(s:Nat): (rnm vars s).length=(inS vars s).length:=by simp [rnm]
def Kk(m:Nat)(vars:Nat->List Nat)(rs:Nat->List Row)(s:Nat)(z:Row): Prop:=∀ i,i<m->∃ r∈rs i,∀ j,j<(vars i).length->s.testBit ((vars i).getD j 0)=true->r.getD j V0=z.getD ((vars i).getD j 0) V0
theorem Jhj{vars:List Nat}{s:Nat}{r z:Row}(hr:r.length=vars.length): ∀ k,k<=vars.length->(pmR (Xp vars s k) r=pmR (inS (vars.take k) s) z↔∀ j,j<k->s.testBit (vars.getD j 0)=true->r.getD j V0=z.getD (vars.getD j 0) V0)
 | 0,_=>by simp [Xp,inS,pmR]
 | k+1,h=>by
  have ih:=Jhj (s:=s) (z:=z) hr k om;have hcl:=Jwh vars s k om;rw [Kx,Jkr om];by_cases hb:s.testBit (vars.getD k 0)=true
  .rw [if_pos hb,if_pos hb];have e1:pmR (Xp vars s k++[k]) r=pmR (Xp vars s k) r++[r.getD k V0]:=by simp [pmR]
   have e2:pmR (inS (vars.take k) s++[vars.getD k 0]) z=pmR (inS (vars.take k) s) z++[z.getD (vars.getD k 0) V0]:=by simp [pmR]
   rw [e1,e2];constructor
   .intro he j hj hbj;obtain ⟨h1,h2⟩:=List.append_inj he (by rw [Qr,Qr,hcl]);by_cases e:j=k
    .subst e;injection h2
    .exact ih.1 h1 j om hbj
   .intro hall;rw [ih.2 λj hj=>hall j om,hall k om hb]
  .rw [if_neg hb,if_neg hb,List.append_nil,List.append_nil,ih];constructor
   .intro hall j hj hbj;by_cases e:j=k
    .subst e;exact absurd hbj hb
    .exact hall j om hbj
   .exact λhall j hj=>hall j om
theorem Qhw{vars:Nat->List Nat}{rs ms:Nat->List Row}(hs:s<2^n)(hn:n<=32)(hlt:∀ i,i<m->∀ v∈vars i,v<n)(hlen:∀ i,i<m->∀ r∈rs i,r.length=(vars i).length)(hms:∀ i,i<m->∀ x,x∈ms i↔x∈(rs i).map (pmR (Qn (vars i) s)))(x:Row):
  Ze (bk s 32).length m (λi=>rnm (vars i) s) ms x↔∃ z:Row,z.length=n/\x=pmR (bk s 32) z/\Kk m vars rs s z:=by
 have key:∀ z:Row,∀ i,i<m->(pmR (rnm (vars i) s) (pmR (bk s 32) z)∈ms i↔∃ r∈rs i,∀ j,j<(vars i).length->s.testBit ((vars i).getD j 0)=true->r.getD j V0=z.getD ((vars i).getD j 0) V0):=λz i hi=>by
  have e:pmR (rnm (vars i) s) (pmR (bk s 32) z)=pmR (inS (vars i) s) z:=by
   unfold rnm pmR;rw [List.map_map];refine List.map_congr_left λv hv=>?_;obtain ⟨h1,C⟩:=inS_mem.1 hv;have U:v∈bk s 32:=bk_mem.2 ⟨by have:=hlt i hi v h1;omega,C⟩;obtain ⟨_,Z,h5⟩:=Vs (Jjt s 32) U;have:=Jvx (r:=z) Z;unfold pmR at this;simp only [Function.comp];rw [this,h5]
  rw [e,hms i hi,List.mem_map];have hk:∀ r∈rs i,(pmR (Qn (vars i) s) r=pmR (inS (vars i) s) z↔∀ j,j<(vars i).length->s.testBit ((vars i).getD j 0)=true->r.getD j V0=z.getD ((vars i).getD j 0) V0):=λr o=>by
   have:=Jhj (s:=s) (z:=z) (hlen i hi r o) (vars i).length (Nat.le_refl _);rw [List.take_length]at this;exact this
  constructor
  .rintro ⟨r,o,e⟩;exact ⟨r,o,(hk r o).1 e⟩
  .rintro ⟨r,o,h⟩;exact ⟨r,o,(hk r o).2 h⟩
 constructor
 .rintro ⟨hl,hx⟩;let z:Row:=(List.range n).map λu=>x.getD (lv (bk s 32) u) V0
  have G:z.length=n:=by simp [z]
  have J:x=pmR (bk s 32) z:=by
   apply List.ext_getElem
   .rw [Qr];exact hl
   .intro k h1 C;rw [Qr]at C;have hu:=bk_mem.1 (getD_mem' 0 _ C);have O:=Jzk hs hu.2;have h3:=Jsn (z:=z) C;rw [Jr V0 _ (by rw [Qr];exact C)]at h3;rw [h3];have Z:z.getD ((bk s 32).getD k 0) V0=x.getD (lv (bk s 32) ((bk s 32).getD k 0)) V0:=by
     simp only [z,List.getD];rw [List.getElem?_map,List.getElem?_range (by simpa [List.getD] using O)];rfl
    rw [Z,Jft (Jjt s 32) C,Jr V0 _ h1]
  refine ⟨z,G,J,λi hi=>?_⟩;have:=hx i hi;rw [J]at this;exact (key z i hi).1 this
 .rintro ⟨z,G,rfl,U⟩;exact ⟨Qr _ _,λi hi=>(key z i hi).2 (U i hi)⟩
end Go.Proofs.YtebcagekopgdhaaGreatDoor
namespace Go.Wk
open Go.RowKit
variable {b n t ty:Nat}
theorem Gd{P:Program}{al:AL}{w:World}{Q:Exit->Act->World->Prop}{ops:Array Oper}{rest:List Oper}{pos:String}{aft:Array Edge}{tt:TT}[h:Tab P tt]{x y:Operand}{k:TK}{u v:Value}(hb:Blk w b t [u])(kk:∀ w1,Blk w1 b t [v]->w.grownBy w1 (some b)->(∀ a,Ext a w->a.heap.size<=b->Ext a w1)->WL P n ops Q rest al w1)(hv:v.oneCell'=true)(ht:tk tt t=some k:=by rfl)(hk:k.size=1:=by rfl)(hp:Vm k.desc=true:=by rfl)(hx:ev al x=some (.pointer (some ⟨b,0,none⟩)):=by rfl)(hy:ev al y=some v:=by rfl):
  WL P n ops Q (⟨none,.store t x y,ty,pos,aft,none⟩::rest) al w :=
 Jlt h.ok ht hk hp hx hy hv (hb.cell 0) (hb.frozen 0) (kk _ (hb.set 0 v) ⟨rfl,rfl,rfl,by simp [World.setCell],λk hk hn=>Below.heap_setCell w ⟨b,0,none⟩ v k (λe=>hn (by rw [e]))⟩ λa C o=>C.setCell o v)
end Go.Wk
namespace Go.Proofs.YtebcagekopgdhaaGreatDoor
open Go.RowKit Pl Go.Wk
attribute [local irreducible] WC WL QX WD WDB WP WN WG
variable {cs vs:List Nat}{ts ts':List TA}{base c ca n s:Nat}{vars:Nat->List Nat}{ms rs:Nat->List Row}{A Aa:Option Addr}{v:Value}{w:World}
structure MOk(n:Nat)(ts:List TA)(vars:Nat->List Nat)(rs:Nat->List Row)(s:Nat): Prop where
 run:RunOk n ts vars rs
 sb:s<2^n
 valid:∀ i,i<ts.length->∀ r∈rs i,r.all Xj=true
 srtP:∀ i,i<ts.length->(rs i).length<=1000∨Srt [] ((rs i).map (pmR (Qn (vars i) s)))
theorem Xjd(h:Xx vs): ascB (nz vs):=λj u o=>by
 rw [Qq]at o;rw [Jyg o,Jyg (show j-1<vs.length by omega)];have:=List.pairwise_iff_getElem.1 h (j-1) j om o om;simp only [List.getD,List.getElem?_eq_getElem o,List.getElem?_eq_getElem (show j-1<vs.length by omega),Option.getD_some];omega
theorem Jdq(h:RunOk n ts vars rs): Jwl n (ts.map (·.2)):=by
 have U:=h.n32;refine ⟨om,om,by rw [List.length_map];exact h.m32,λa O=>?_,λv o=>?_⟩
 .obtain ⟨t,ht,rfl⟩:=List.mem_map.1 O;obtain ⟨i,hi,e⟩:=List.getElem_of_mem ht;have C:=h.at_ i hi;rw [Jr ta0 ts hi,e]at C;rw [C];refine ⟨Xjd (h.asc i hi),λv o=>?_,by simp only;rw [Qq]⟩;obtain ⟨u,G,rfl⟩:=List.mem_map.1 o;have:=h.lt i hi u G;omega
 .obtain ⟨i,hi,J⟩:=h.cov v om;refine ⟨(ts.getD i ta0).2,List.mem_map_of_mem (getD_mem' ta0 ts hi),?_⟩;rw [h.at_ i hi];exact List.mem_map.2 ⟨v,J,rfl⟩
def AtG(w:World)(cs:List Value)(a:Atm): Prop:=∃ t:V3,cs=t.cells/\AtV w t a
theorem Qkw: ∀ (ps:List (List Value×Atm)) (w:World),(∀ p∈ps,AtG w p.1 p.2)->∃ ts:List TA,ts.map (·.2)=ps.map (·.2)/\atC ts=Qj ps/\ts.length=ps.length/\∀ q∈ts,AtV w q.1 q.2
 | [],w,_=>⟨[],rfl,rfl,rfl,λq hq=>by cases hq⟩
 | p::ps,w,h=>by
  obtain ⟨qs,h1,h2,h3,h4⟩:=Qkw ps w λq hq=>h q (List.mem_cons_of_mem _ hq);obtain ⟨t,e,hr⟩:=h p (mC ..);refine ⟨(t,p.2)::qs,by simp [h1],?_,by simp [h3],λq hq=>?_⟩
  .simp only [Qj,atC,List.flatMap_cons,e]at h2 ⊢;rw [h2]
  .rcases List.mem_cons.1 hq with rfl|hq
   .exact hr
   .exact h4 q hq
theorem Jlc{ats:List Atm}(h:GV 3 AtG w v ats): ∃ (ts:List TA) (A:Option Addr) (c:Nat),ats=ts.map (·.2)/\v=.slice A ts.length c/\ts.length<=c/\ts.length<=1100000/\Rd w 3 A ts.length (atC ts)/\∀ p∈ts,AtV w p.1 p.2:=by
 obtain ⟨ps,A,c,e,G,C,u,o,J⟩:=h;obtain ⟨ts,h1,h2,Z,U⟩:=Qkw ps w λp O=>(J p O).2;rw [<-Z]at G C u o;exact ⟨ts,A,c,by rw [e,h1],G,C,u,by rw [h2];exact o,U⟩
theorem EA: ElT Tryz.prog 90 99 3 56 (.agg #[.slice none 0 0,.int .i64 0,.slice none 0 0]):=⟨Tryz.underlying90,info_parts kr,rfl,by decide⟩
theorem zInts: Qp Tryz.prog 44=some (.slice none 0 0):=kr
theorem zRows: Qp Tryz.prog 54=some (.slice none 0 0):=kr
theorem Jbq(v1 v2 v3:Value)(A B:Option Addr)(n c m d:Nat)(z:Int)(h1:v1=.slice A n c)(h2:v2=.int .i64 z)(h3:v3=.slice B m d)(w:World): (Instr.buildSlice 90 1 #[(0,.agg #[v1,v2,v3])]).run Tryz.prog w=.ok (.slice (some ⟨w.heap.size,0,none⟩) 1 1) (w.alloc (.cells [v1,v2,v3].toArray 99)):=by
 subst h1;subst h2;subst h3;kernel_rfl
theorem Jht(A B:Option Addr)(n c m d:Nat)(z:Int)(w:World): (Instr.build 99 #[(0,.slice A n c),(1,.agg #[.int .i64 z,.slice B m d])]).run Tryz.prog w=.ok (.agg #[.slice A n c,.int .i64 z,.slice B m d]) w:=kr
theorem Kl{z:Int}(h:v.oneCell'=true): ∀ u∈[v,.int .i64 z,.slice A n c],u.oneCell'=true:=λu o=>by
 simp only [List.mem_cons,List.not_mem_nil,or_false]at o;rcases o with rfl|rfl|rfl
 .exact h
 .rfl
 .rfl
theorem Qfz(hok:MOk n ts vars rs s)(hl:ts'.length=ts.length)(he:(List.range ts.length).map (λj=>(⟨nz (rnm (vars j) s),(rnm (vars j) s).length,ms j⟩:Atm))=ts'.map (·.2))(hms:∀ j,j<ts.length->IsSet [] ((rs j).map (pmR (Qn (vars j) s))) (ms j)/\(ms j).length<=65536): RunOk (bk s 32).length ts' (λj=>rnm (vars j) s) ms:=by
 have G:=hok.run.n32;have o:∀ i,i<ts.length->∀ v∈vars i,v<32:=λi hi v U=>by have:=hok.run.lt i hi v U;omega
 refine ⟨Yv s 32,by rw [hl];exact hok.run.m32,λi hi=>?_,λi hi=>Qdg (hok.run.asc i (hl ▸ hi)) (o i (hl ▸ hi)),λi hi u Z=>Qdf (o i (hl ▸ hi)) Z,λk J=>?_,λi hi=>(hms i (hl ▸ hi)).1.1,λi hi r hr=>?_,λi hi=>(hms i (hl ▸ hi)).2⟩
 .have C:(ts'.map (·.2))[i]?=some (ts'.getD i ta0).2:=by rw [List.getElem?_map,List.getElem?_eq_getElem hi,Option.map_some,Jr ta0 ts' hi]
  rw [<-he,List.getElem?_map,List.getElem?_range (hl ▸ hi),Option.map_some]at C;injection C with C;exact C.symm
 .obtain ⟨C,O⟩:=bk_mem.1 (getD_mem' 0 _ J);obtain ⟨i,hi,hm⟩:=hok.run.cov _ (Jzk hok.sb O);exact ⟨i,hl.symm ▸ hi,List.mem_map.2 ⟨_,inS_mem.2 ⟨hm,O⟩,Jft (Jjt s 32) J⟩⟩
 .obtain ⟨x,hx,rfl⟩:=List.mem_map.1 (((hms i (hl ▸ hi)).1.2 r).1 hr);have:=Jwh (vars i) s (vars i).length (Nat.le_refl _);rw [List.take_length]at this;rw [Qr,Jrk];exact this
theorem Qlv(hok:MOk n ts vars rs s)(hms:∀ j,j<ts.length->IsSet [] ((rs j).map (pmR (Qn (vars j) s))) (ms j)/\(ms j).length<=65536){x:Row}(hx:Ze (bk s 32).length ts.length (λi=>rnm (vars i) s) ms x): x.all Xj=true:=by
 rw [List.all_eq_true];intro y U;obtain ⟨k,C,rfl⟩:=List.getElem_of_mem U;have o:k<(bk s 32).length:=by rw [<-hx.1];exact C
 obtain ⟨h1,O⟩:=bk_mem.1 (getD_mem' 0 _ o);obtain ⟨i,hi,Z⟩:=hok.run.cov _ (Jzk hok.sb O);have h3:=hx.2 i hi;obtain ⟨r,u,e⟩:=List.mem_map.1 (((hms i hi).1.2 _).1 h3);have J:x.getD k V0∈pmR (rnm (vars i) s) x:=List.mem_map.2 ⟨k,List.mem_map.2 ⟨_,inS_mem.2 ⟨Z,O⟩,Jft (Jjt s 32) o⟩,rfl⟩;rw [<-e]at J;obtain ⟨c,hc,e2⟩:=List.mem_map.1 J;have G:=List.all_eq_true.1 (hok.valid i hi r u) (r.getD c V0) (getD_mem' V0 r (by rw [hok.run.len i hi r u];exact Jzc hc));rw [e2,Jr V0 x C]at G;exact G
theorem Qgx(s:Nat): (madeCells (Value.int .i64 0).cells (32*1)).toList=Jt (nz (Zj s 0)):=by
 have e:(madeCells (Value.int .i64 0).cells (32*1)).toList=List.replicate 32 (Value.int .i64 0):=Yp _ _;have o:Zj s 0=List.replicate 32 0:=by simp [Zj,List.map_const']
 rw [e,o];rfl
theorem Qgt(cs:List Nat)(i x:Nat): Jt (nz (cs.set i x))=(Jt (nz cs)).set i (.int .i64 (x:Int)):=by simp [Jt,nz,List.map_set]
theorem Qqf(h:Xo w base v cs): ∃ A c,v=.slice A cs.length c/\cs.length<=c/\∀ g,v.ownBlock=some g->base<=g/\g<w.heap.size:=Jy h
theorem Qhv(hok:MOk n ts vars rs s)(hR:Rd w 3 Aa ts.length (atC ts))(hle:ts.length<=ca)(hat:∀ p∈ts,AtV w p.1 p.2)(hcap:∀ l:List Row,Lt [] l->(∀ x∈l,∃ z:Row,z.length=n/\x=pmR (bk s 32) z/\Kk ts.length vars rs s z)->l.length<=65536):
  Ret Tryz.prog 128 [.int .i64 (n:Int),.int .u32 (s:Int),.slice Aa ts.length ca] w λu w'=>Ext w w'/\∃ (t':V3) (st:Int) (l:List Row),u=.tuple #[.agg t'.cells.toArray,.int .i64 st,.int .i64 0] /\
   Off (λk=>k<w.heap.size) w' (λx=>AtV x t' ⟨nz (bk s 32),(bk s 32).length,l⟩)/\Lt [] l/\(∀ x,x∈l↔∃ z:Row,z.length=n/\x=pmR (bk s 32) z/\Kk ts.length vars rs s z)/\l.length<=65536:=by
 have b5:=hok.run.n32;have er:=hok.run.m32;have b4:s<4294967296:=nM hok.sb (Nat.pow_le_pow_right (n:=2) (by decide) b5);have a4:∀ i,i<ts.length->∀ v∈vars i,v<32:=λi hi v hv=>by have:=hok.run.lt i hi v hv;omega
 refine Jz Tryz.func128 Tryz.ntmps128 rfl kr rfl ?_;refine ρ ?_;refine alc Vu ?_;intro w1 b6 c2 ei af;refine ρ ?_;refine cl (Jgb (n:=(n:Int)) (ats:=ts.map (·.2)) ⟨ts,Aa,ca,rfl,rfl,hle,om,hR.ext c2,λp hp=>(hat p hp).ext c2⟩) ?_
 rintro u w2 ⟨cw,e,rfl,he⟩;have e0:=he.2 (Jdq hok.run);subst e0;clear he;refine ρ ?_;refine Kh (s:=s) (v:=n) b5 ?_;rw [Nat.div_eq_of_lt hok.sb];refine ρ ?_;refine mkn EI 32 om (by unfold maxLen;omega) ?_;intro w3 Na cv c8 _;rw [Qgx s]at c8;refine ρ ?_;refine alc zInts ?_;intro w4 br e6 dj O;refine ρ ?_;refine Gd O ?_ rfl;intro w5 O f6 e5;have au:Ext w3 w5:=e5 w3 e6 dj;have bs:=c2.trans cw;have cq:Ext w w5:=(bs.trans cv).trans au;have d7:w5.ownsRow w.heap.size 3 1 (.slice Na 32 32) 32 (Jt (nz (Zj s 0))):=Jvz (Jk c8 au) bs.size;have c0:Blk w5 b6 99 [.slice none 0 0,.int .i64 0,.slice none 0 0]:=(af.ext cw).ext (cv.trans au);refine ρ ?_;refine Je (fun (v:Nat) (vv:Value)=>[(0,.int .i64 (n:Int)),(1,.int .u32 (s:Int)),(2,.slice Aa ts.length ca),(6,.pointer (some ⟨b6,0,none⟩)),(10,vv),(11,.pointer (some ⟨br,0,none⟩)),(37,.int .i64 (v:Int))])
  (λv vv w'=>v<=32/\Ext w w'/\Blk w' b6 99 [.slice none 0 0,.int .i64 0,.slice none 0 0]/\Blk w' br 44 [.slice Na 32 32]/\w'.ownsRow w.heap.size 3 1 (.slice Na 32 32) 32 (Jt (nz (Zj s v)))/\Xo w' w.heap.size vv (bk s v)/\∀ g,vv.ownBlock=some g->(Value.slice Na 32 32).ownBlock≠some g) (λv _=>32-v) 0 (.slice none 0 0) sB
  ⟨om,cq,c0,O,d7,Xa _ _ _ _,λg e=>(by cases e)⟩ ?_
 clear c8 d7 c0 O;rintro v vv w6 ⟨hv,bj,af,O,ae,b2,a8⟩;refine ρ ?_;refine ci (λh=>?_) (λh=>?_)
 .have lv:v<32:=by have:=oT h;omega
  clear h;have de:=Yv s v;have et:∀ {w':World},(Zj s v).length=32:=fun {_}=>Jxf s v
  obtain ⟨VA,vc,ck,d0,c3⟩:=Qqf b2;refine ρ ?_;refine Kh (s:=s) (v:=v) om ?_;refine ρ ?_;refine ci (λh=>?_) (λh=>?_)
  .rw [Un b4]at h;subst ck;refine ρ ?_;refine ld (O.at (i:=0) rfl) ?_;refine ρ ?_;refine ix v (Rd.own ae) lv ?_;obtain ⟨s1,s2,s3,s4,s5⟩:=Zl ae (q:=v) om (.int .i64 ((bk s v).length:Int));refine ρ ?_;refine sto (s1.trans (Xn (by rw [Jxf];exact lv))) s2 ?_;rw [<-Qgt]at s3;have d5:∀ g,(Value.slice Na 32 32).ownBlock=some g->w.heap.size<=g:=λg eg=>by
    obtain ⟨_,_,_,_,hf⟩:=Jy ae;exact (hf g eg).1
   have a2:Ext w (w6.setCell (adr Na v) (.int .i64 ((bk s v).length:Int))):=Qf bj s5 d5;have a3:=af.grown s5 (af.ne_own ae rfl);have a1:=O.grown s5 (O.ne_own ae rfl);have ad:Xo (w6.setCell (adr Na v) (.int .i64 ((bk s v).length:Int))) w.heap.size (.slice VA (bk s v).length vc) (bk s v):=Js b2 (GrN.by s5 λg eg=>eg) (λg eg e=>a8 g eg e);generalize w6.setCell (adr Na v) (.int .i64 ((bk s v).length:Int))=w7 at *
   clear s1 s2 s4 s5;refine ρ ?_;refine bsl (bs1Int'' _) ?_;intro w8 b8 o f9 ek;refine ρ ?_;refine apI (Jk ad o) ek om (a2.trans o).size ?_;intro e3 w9 c4 a5 ee;have an:Ext w w9:=Qf (a2.trans o) a5 (λg eg=>(c3 g eg).1);refine ρ ?_;refine Jl (v+1) e3 sO ⟨om,an,(a3.ext o).grown a5 ((a3.ext o).ne_own (Jk ad o) rfl),(a1.ext o).grown a5 ((a1.ext o).ne_own (Jk ad o) rfl),?_,?_,λg eg e=>?_⟩ om
   .rw [Jsx lv,if_pos h];exact Js (Jk s3 o) (GrN.by a5 λg eg=>eg) (λg eg e=>a8 g e eg)
   .rw [Um,if_pos h];exact c4
   .rcases ee g eg with h'|h'
    .exact a8 g h' e
    .obtain ⟨_,_,_,_,hf⟩:=Jy s3;have:=(hf g e).2;have:=o.size;omega
  .rw [Un b4]at h;have hf:¬ s.testBit v=true:=by rw [h];simp
   refine ρ ?_;refine Jl (v+1) vv sO ⟨om,bj,af,O,?_,?_,a8⟩ om
   .rw [Jsx lv,if_neg hf];exact ae
   .rw [Um,if_neg hf,List.append_nil];exact b2
 have e8:v=32:=by have:=oF h;omega
 subst e8;clear h a8;obtain ⟨VA,vc,ck,d0,c3⟩:=Qqf b2;subst ck;have de:=Yv s 32;refine ρ ?_;refine Jqf (fun (i:Nat) (st:Int) (vp:Value) (ms:Nat->List Row)=>[(0,.int .i64 (n:Int)),(1,.int .u32 (s:Int)),(6,.pointer (some ⟨b6,0,none⟩)),(10,.slice VA (bk s 32).length vc),(13,.func (.func 163) #[] #[.pointer (some ⟨br,0,none⟩)]),(14,.int .i64 st),(15,vp),(56,.slice Aa ts.length ca),(57,.int .i64 (ts.length:Int)),(58,.int .i64 (i:Int))])
  (λi st vp ms w'=>i<=ts.length/\Ext w w'/\w6.heap.size<=w'.heap.size/\Blk w' b6 99 [.slice none 0 0,.int .i64 0,.slice none 0 0]/\Blk w' br 44 [.slice Na 32 32]/\w'.ownsRow w.heap.size 3 1 (.slice Na 32 32) 32 (Jt (nz (Zj s 32)))/\Xo w' w.heap.size (.slice VA (bk s 32).length vc) (bk s 32) /\
   OwnG 99 3 AtG w' w6.heap.size vp ((List.range i).map λj=>⟨nz (rnm (vars j) s),(rnm (vars j) s).length,ms j⟩)/\∀ j,j<i->IsSet [] ((rs j).map (pmR (Qn (vars j) s))) (ms j)/\(ms j).length<=65536) (λi _ _ _=>ts.length-i) 0 0 (.slice none 0 0) (λ_=>[]) sB
  ⟨Nat.zero_le _,bj,Nat.le_refl _,af,O,ae,b2,OwnG.nil _ _,λj hj=>om⟩ ?_
 rintro i st vp ms w7 ⟨hi,a2,b3,a3,a1,d6,ad,cb,ai⟩;refine ρ ?_;refine ci (λh=>?_) (λh=>?_)
 .have li:i<ts.length:=by have:=oT h;omega
  have dk:=hR.ext a2;obtain ⟨t1,t2,t3,a,hp⟩:∃ t1 t2 t3 a,ts.getD i ta0=((t1,t2,t3),a):=⟨_,_,_,_,rfl⟩;have dn:AtV w (t1,t2,t3) a:=by have:=hat _ (Im rfl li);rw [hp]at this;exact this
  have ea:a=⟨nz (vars i),(vars i).length,rs i⟩:=by have:=hok.run.at_ i li;rw [hp]at this;exact this
  subst ea;clear h;have h3:∀ u∈[t1,t2,t3],u.oneCell'=true:=dn.one;refine ρ ?_;refine ixq 3 i dk li ?_;refine ρ ?_;refine lds (cs:=[t1,t2,t3]) (λj u hu=>Jwn dk rfl li (by rw [hp];exact hu)) ?_;refine ρ ?_;refine alc Vu ?_;intro w8 fb o di be;refine ρ ?_;refine stb (cs':=[t1,t2,t3]) be ?_ h3;intro w9 be a5 an;have ag:Ext w7 w9:=an w7 o di;refine ρ ?_;refine ldW be ?_;refine ρ ?_;refine cl (Qtq (t:=(t1,t2,t3)) (dn.ext (a2.trans ag)) b4 (hok.run.asc i li) (a4 i li) (hok.run.len i li) (hok.run.big i li)) ?_;rintro u ap ⟨a6,⟨p1,p2,p3⟩,rfl,m,a7,d9,d8,ah⟩;have Z:=ah (hok.srtP i li);have cj:=a7.here;obtain ⟨⟨PA,pc,dz,d4,e9,f3⟩,dx,bo⟩:=id cj;simp only at dz dx;obtain ⟨bi,PG,aq,_,dw,_⟩:=id bo;simp only at dw;have cr:=a2.trans ag;have e7:=cr.trans a6;refine ρ ?_;refine alc Vu ?_;intro e1 fa b1 dh aj;refine ρ ?_;refine stb (cs':=[p1,p2,p3]) aj ?_ cj.one;intro ak aj dc ay;have C:Ext ap ak:=ay ap b1 dh
  refine ρ ?_;subst dz;subst dx;subst dw;refine lds (cs:=[.int .i64 ((inS (vars i) s).length:Int),.slice PG bi.length aq]) (aj.sub2 (i:=1) rfl rfl) ?_;refine ρ ?_;have bf:=cj.ext C;refine cl (Jkc bf.rel) ?_;rintro u bh ⟨rfl,J⟩;obtain ⟨st',d3⟩:∃ st':Int,st'=IntKind.i64.wrap (st+(m.length:Int)):=⟨_,rfl⟩;have ch:=aj.ext J;repeat first|refine ω4 ?_|refine ω5 ?_|refine χ1 ?_|refine κ1 ?_|refine κ2 ?_|refine χ2 ?_|refine κ3 ?_|refine ω6 ?_|refine ω7 ?_|refine ω9 ?_|refine κ4 ?_|refine κ7 ?_|refine κ8 ?_|refine χ3 ?_|refine χ4 ?_|refine κ5 ?_|refine κ6 ?_|refine χ5 ?_|refine χ6 ?_|refine χ7 ?_|refine ω8 ?_
  rw [<-d3];refine ρ ?_;refine ldW ch ?_;refine ρ ?_;have U:Ext w7 bh:=((ag.trans a6).trans C).trans J;have ax:=a2.trans U;refine clv (Qhz (Na:=Na) (nums:=Zj s 32) (bf.ext J) ?_ ?_ (λv hv=>?_) ?_) ?_
  .rw [Jxf];exact a1.ext U
  .rw [Jxf];exact Rd.own (Jk d6 U)
  .rw [Jxf];exact a4 i li v (inS_mem.1 hv).1
  .have:=List.length_filter_le (λv=>s.testBit v) (vars i);have h5:=Jwq (hok.run.asc i li) (a4 i li);unfold inS;omega
  rintro u ao ⟨aw,v1,rfl,c5⟩;have d1:=c5.here;obtain ⟨QA,qc,du,f2,f0,ez⟩:=d1;refine ρ ?_;refine bsl (Jbq v1 _ _ QA PG _ qc _ aq _ du rfl rfl) ?_;intro c1 fc av ew dm;have em:(inS (vars i) s).map (λv=>(Zj s 32).getD v 0)=rnm (vars i) s:=by
   unfold rnm;refine List.map_congr_left λv hv=>?_;obtain ⟨h5,h6⟩:=inS_mem.1 hv;exact Qgw (a4 i li v h5) h6
  rw [em]at c5;have G:=(U.trans aw).trans av;have ba:=cb.ext G;obtain ⟨_,_,_,_,c9⟩:=cb.form;have c7:∀ k,Qa w6.heap.size vp k->k<w7.heap.size:=λk hk=>by
   rcases hk with hk|hk
   .exact nM hk b3
   .exact (c9 k hk).2
  have hΦ:Off (Qa w6.heap.size vp) c1 (λu=>AtG u [v1,.int .i64 ((inS (vars i) s).length:Int),.slice PG bi.length aq] ⟨nz (rnm (vars i) s),(rnm (vars i) s).length,m⟩):=by
   have h5:Off (λk=>k<w7.heap.size) c1 (λu=>IntsV u v1 (nz (rnm (vars i) s))):=(c5.mono λk _ hk=>nM hk U.size).ext av;have h6:Off (λk=>k<w7.heap.size) c1 (λu=>AtV u (.slice PA (nz (inS (vars i) s)).length pc,.int .i64 ((inS (vars i) s).length:Int),.slice PG bi.length aq) ⟨nz (inS (vars i) s),(inS (vars i) s).length,m⟩) :=
    (a7.mono λk _ hk=>nM hk ag.size).ext (((C.trans J).trans aw).trans av)
   refine ((h5.and h6).imp λu h=>⟨(v1,.int .i64 ((inS (vars i) s).length:Int),.slice PG bi.length aq),rfl,h.1,?_,h.2.2.2⟩).mono λk _ hk=>c7 k hk;simp only;rw [Jrk]
  refine ρ ?_;refine apG EA (Φ:=AtG) ba dm rfl (Kl (by rw [du];rfl)) hΦ (by simp;omega) om (nL b3 G.size) ?_;intro cn bg dl aa ep;have cx:Ext w bg:=Qf (a2.trans G) aa (λg eg=>nL bj.size (c9 g eg).1);have bp:∀ {g t:Nat} {cs:List Value},Blk w7 g t cs->Nat.beq 99 t=false->Blk bg g t cs:=λhB e=>by
   obtain ⟨ps,_,ho,_⟩:=ba;exact (hB.ext G).grown aa ((hB.ext G).ne_own ho e)
  have cc:Blk bg b6 99 [.slice none 0 0,.int .i64 0,.slice none 0 0]:=by
   exact (a3.ext G).grown aa λe=>by have:=(c9 b6 e.symm).1;have:=af.lt;omega
  have bu:∀ {m':Nat} {v:Value} {xs:List Value},w7.ownsRow w.heap.size 3 1 v m' xs->bg.ownsRow w.heap.size 3 1 v m' xs:=λho=>by
   obtain ⟨ps,_,ed,_⟩:=ba;exact Xu (Jk ho G) ed aa rfl
  refine ρ ?_;refine Gg (i+1) st' cn (upd ms i m) sO ⟨om,cx,Nat.le_trans b3 (nL G.size aa.size),cc,bp a1 rfl,bu d6,bu ad,?_,λj hj=>?_⟩ om
  .rw [List.range_succ,List.map_append,List.map_singleton,Jh];have e:(List.range i).map (λj=>(⟨nz (rnm (vars j) s),(rnm (vars j) s).length,upd ms i m j⟩:Atm))=(List.range i).map (λj=>⟨nz (rnm (vars j) s),(rnm (vars j) s).length,ms j⟩):=by
    refine List.map_congr_left λj hj=>?_;have:=List.mem_range.1 hj;rw [Jc _ _ om]
   rw [e];exact dl
  .by_cases e:j=i
   .subst e;rw [Jh];exact ⟨Z,d9⟩
   .rw [Jc _ _ e];exact ai j om
 .have eh:i=ts.length:=by have:=oF h;omega
  subst eh;clear h;refine ρ ?_;refine alc zRows ?_;intro w8 cm o dg ab;have ej:=cb.ext o;obtain ⟨e4,PA,pc,dv,el,d4,e9,eb,ec⟩:=Jlc (ej.gv (by simp;omega));have c6:e4.length=ts.length:=by
   have:=congrArg List.length dv;simpa using this.symm
  have bw:=Qfz hok c6 dv ai;subst el;have co:=a2.trans o;have b9:=Qhw (m:=ts.length) (ms:=ms) hok.sb b5 hok.run.lt hok.run.len (λi hi x=>(ai i hi).1.2 x);refine ρ ?_;refine cl (Qpd (bx':=λk=>k=cm) (Y:=YM cm) bw eb d4 ec (Jdq bw) (λk hk=>by subst hk;exact ab.lt) (Qhx ab.lt) (λw' cy=>⟨nM ab.lt cy.size,.slice none 0 0,ab.ext cy,OwnG.nil _ _⟩) ?_) ?_
  .intro l h1 h2;refine hcap l h1 λx hx=>(b9 x).1 ?_;have:=h2 x hx;rw [c6]at this;exact this
  rintro u w9 ⟨a5,ey,base,l,rfl,f7,eu,⟨f8,ex,cg,hO⟩,bq,a9⟩;rw [c6]at a9;have cz:w.heap.size<=cm:=nL a2.size dg;have an:Ext w w9:=a5.old co λk hk=>by subst hk;exact cz
  have bb:=Jv (a3.ext o) a5 (λe=>by have:=a3.lt;omega);have c4:Xo w9 w.heap.size (.slice VA (bk s 32).length vc) (bk s 32):=Js (Jk ad o) a5 (λg eg e=>by subst e;exact ab.ne_own (Jk ad o) rfl eg.symm);have da:l.length<=65536:=by
   refine hcap l bq λx hx=>(b9 x).1 ((a9 x).1 hx)
  obtain ⟨LA,lc,dq,f5,f4⟩:=hO.form;subst dq;have bm:=Qcw (hO.gv om);refine ρ ?_;refine ld (cg.at (i:=0) rfl) ?_;refine ρ ?_;refine cl (Jvs (ar:=(bk s 32).length) bm) ?_;rintro u ap ⟨a6,rv,e,rfl,⟨z,RB,rm,rd,rfl⟩,dd,bv⟩;have ef:∀ r∈l,r.length=(bk s 32).length/\r.all Xj=true:=λr hr=>⟨((a9 r).1 hr).1,Qlv hok ai ((a9 r).1 hr)⟩;have e0:=dd de ef da;subst e0;obtain ⟨_,_,m,a7,d9,d8,ah⟩:=bv rfl;have Z:=ah (.inr (Uu bq));have en:m=l:=Jqq Z.1 bq Z.2;subst en;clear ah Z dd bv d8;refine ρ ?_;refine alc Yo ?_;intro e1 eo b1 df bd;refine ρ ?_;refine stb (cs':=[.int .i64 z,.slice RB rm rd]) bd ?_ Vn;intro ak bd dc ay;have C:Ext ap ak:=ay ap b1 df;refine ρ ?_;have ac:=a6.trans C;have ce:=bb.ext ac;have bn:=(a7.here).ext C;refine drN (λk=>k=b6) 12 [(0,0),(0,1),(0,2),(0,3),(0,4),(0,5),(0,6),(1,7),(0,8),(1,9),(0,10),(0,11)] kr ?_;have am:Ext ak ak.drew:=(Ext.refl ak).drew
  have bc:=bd.ext am;have bz:=ce.ext am;have bp:¬ (λk=>k=b6) eo:=λe=>by
   have h1:=bb.lt;have h2:=a6.size;simp only at e;omega
  refine ρn ?_;refine Qe (cs:=[.int .i64 z,.slice RB rm rd]) (λw' hg j u hu=>(Jv bc hg bp).at hu) ?_;refine ρn ?_;refine Jjg (Jht _ _ _ _ _ _ _) ?_;refine ρn ?_;refine Qe (cs:=[.int .i64 z,.slice RB rm rd]) (λw' hg j u hu=>(Jv bc hg bp).at hu) ?_;refine ρn ?_;refine nop ?_;refine cl (Jkc (bn.ext am)) ?_;rintro u bh ⟨rfl,J⟩;refine ρ ?_;refine Jb (GrN.ext J) ?_;refine ρn ?_;refine nop ?_;refine stb (cs':=[.slice VA (bk s 32).length vc,.int .i64 z,.slice RB rm rd]) (bz.ext J) ?_ (Kl rfl);intro ao cd b7 aw;refine ω5 ?_;refine Jb (GrN.by b7 λk e=>by injection e with e;exact e.symm) ?_;refine ρn ?_;refine ρ ?_;have ax:Ext w bh:=((an.trans ac).trans am).trans J;refine Jbd cd ⟨Jyx ax b7 ei,(.slice VA (bk s 32).length vc,.int .i64 z,.slice RB rm rd),_,m,rfl,?_,bq,λx=>(a9 x).trans (b9 x),da⟩;have db:GrN (λk=>k=b6) bh ao:=GrN.by b7 λk e=>by injection e with e;exact e.symm
  have bt:=Jk c4 ((ac.trans am).trans J);have d2:Xo ao w.heap.size (.slice VA (bk s 32).length vc) (bk s 32):=Js bt db λg eg e=>by subst e;exact (bz.ext J).ne_own bt rfl eg.symm
  have h5:Off (λk=>k<w.heap.size) ao (λu=>IntsV u (.slice VA (bk s 32).length vc) (nz (bk s 32))):=by
   refine (Jqx d2 λg eg hk=>by have:=(c3 g eg).1;omega).imp λu h=>⟨VA,vc,by rw [Qq],by rw [Qq];exact d0,by rw [Qq];omega,by rw [Qq];exact Rd.own h⟩
  have h6:Off (λk=>k<w.heap.size) ao (λu=>RelV u (.agg #[.int .i64 z,.slice RB rm rd]) (bk s 32).length m):=by
   have h7:=a7.ext ((C.trans am).trans J);have h8:=h7.gr (db.mono λk _ hk=>by subst hk;exact bb.lt);exact h8.mono λk _ hk=>nM hk an.size
  refine (h5.and h6).imp λu h=>?_;obtain ⟨h7,rv,dt,h8⟩:=h;have e2:(Value.int .i64 z)=.int .i64 ((bk s 32).length:Int)/\Value.slice RB rm rd=rv:=by
   simp only [Value.agg.injEq,Array.mk.injEq,List.cons.injEq,and_true]at dt;exact dt
  exact ⟨h7,e2.1,by simp only;rw [e2.2];exact h8⟩
end Go.Proofs.YtebcagekopgdhaaGreatDoor
namespace Go.Wk
open Go.RowKit
variable {p:Addr}{z:Int}{kd:IntKind}{cs cs' xs:List Value}{b e g m t:Nat}{i x y:Operand}{k k2:TK}{v:Value}
section
variable {N:Nat->Prop} {P:Program} {n:Nat} {al:AL} {w:World} {Q:Exit->Act->World->Prop} {ops:Array Oper} {rest:List Oper} {drest:List (Nat×Oper)}
variable {d ty:Nat} {pos:String} {aft:Array Edge} {tt:TT}
theorem Jzt(hT:TOk P tt)(ht:tk tt t=some k)(hk:k.desc=.array m e)(w:World): (isAgg t).run P w=.ok true w/\Zh P t=some k.size/\P.underlying t=some (.array m e)/\Zh P e=some k.esz:=by
 have:=hT.at ht;unfold Yh at this;rw [hk]at this;exact ⟨by simp [isAgg,run_underlying this.1],this.2.2,this.1,this.2.1⟩
theorem Jpx(hT:TOk P tt)(ht:tk tt t=some k)(hk:k.desc=.array m e)(hl:k.size=cs.length)(hc:∀ j u,cs[j]?=some u->w.cell? (p.add j)=some u): (loadVar t p).run P w=.ok (.agg cs.toArray) w:=by
 have o:=run_loadCells_list (P:=P) w p cs hc;rw [<-hl]at o;simp [loadVar,(Jzt hT ht hk w).1,Vw w (Jzt hT ht hk w).2.1,o]
theorem lda[h:Tab P tt](hc:∀ j u,cs[j]?=some u->w.cell? (p.add j)=some u)(hl:k.size=cs.length)(kk:WL P n ops Q rest ((d,.agg cs.toArray)::al) w)(ht:tk tt t=some k:=by rfl)(hk:k.desc=.array m e:=by rfl)(hx:ev al x=some (.pointer (some p)):=by rfl)(hd:Nat.blt d n=true:=by rfl): WL P n ops Q (⟨some d,.load t x,ty,pos,aft,none⟩::rest) al w :=
 wop hd (λa o=>by simp [execOp,o.ev hx,Instr.loadAt,Instr.sureAddr,Jpx (w:=w) h.ok ht hk hl hc]) kk
theorem sta[h:Tab P tt](hb:Blk w b t cs)(kk:∀ w1,Blk w1 b t cs'->w.grownBy w1 (some b)->(∀ a,Ext a w->a.heap.size<=b->Ext a w1)->WL P n ops Q rest al w1)(h1:∀ u∈cs',u.oneCell'=true)(hl:cs.length=cs'.length)(hs:k.size=cs'.length)(ht:tk tt t=some k:=by rfl)(hk:k.desc=.array m e:=by rfl)(hx:ev al x=some (.pointer (some ⟨b,0,none⟩)):=by rfl)(hy:ev al y=some (.agg cs'.toArray):=by rfl):
  WL P n ops Q (⟨none,.store t x y,ty,pos,aft,none⟩::rest) al w:=by
 have J:=Jjp w b cs'.toArray;refine Iy (λa G=>?_) (kk (w.setRow b cs'.toArray) (setRow_heap w b _ _ _ _ hb) J (λa hx G=>Qf hx J (λk hk=>by injection hk with hk;omega)));have C:=Vw w (Jzt h.ok ht hk w).2.1;have o:=run_storeCells_from (P:=P) b t cs' 0 cs.toArray w hb (by simpa using hl.symm) h1;simp only [List.take_zero,List.nil_append]at o;simp [execOp,G.ev hx,G.ev hy,Instr.storeAt,Instr.sureAddr,storeVar,Value.cells,C,hs,o]
theorem Qqr[h:Tab P tt]{fn:Func}{Φ:Value->World->Prop}{c:Nat}(hb:Blk w b t cs)(hs:k.size=cs.length)(hp:Φ (.agg cs.toArray) w)(hr:fn.results = #[.cell c t]:=by rfl)(ht:tk tt t=some k:=by rfl)(hk:k.desc=.array m e:=by rfl)(hc:lk al c=some (.pointer (some ⟨b,0,none⟩)):=by rfl):
  QX n (Vz P fn Φ) .ret al w :=
 Jzb (rs:=[.cell c t]) (vs:=[.agg cs.toArray]) hr ⟨⟨_,hc,Jpx h.ok ht hk hs (λj u o=>hb.at o)⟩,trivial⟩ rfl hp
theorem idx[h:Tab P tt](j:Nat)(hlt:j<m)(hv:cs[j]?=some v)(kk:WL P n ops Q rest ((d,v)::al) w)(ht:tk tt t=some k:=by rfl)(hk:k.desc=.array m e:=by rfl)(h1:k.esz=1:=by rfl)(he:tk tt e=some k2:=by rfl)(hp:Vm k2.desc=true:=by rfl)(hx:ev al x=some (.agg cs.toArray):=by rfl)(hi:ev al i=some (.int kd z):=by rfl)(hj:z=(j:Int):=by first|rfl|omega)(hd:Nat.blt d n=true:=by rfl):
  WL P n ops Q (⟨some d,.index t x i,ty,pos,aft,none⟩::rest) al w :=
 wop hd (λa u=>by
  subst hj;have o:=Jzt h.ok ht hk w;have C:=Vw w (h1 ▸ o.2.2.2);have G:=(Jvj h.ok he hp w).1;simp [execOp,u.ev hx,u.ev hi,Instr.index,asIntOf,run_underlying o.2.2.1,hlt,C,part,G,hv]) kk
theorem ixs[h:Tab P tt](j:Nat)(hlt:j<m)(kk:WL P n ops Q rest ((d,.pointer (some (p.add (j*k.esz))))::al) w)(ht:tk tt t=some k:=by rfl)(hk:k.desc=.array m e:=by rfl)(hx:ev al x=some (.pointer (some p)):=by rfl)(hi:ev al i=some (.int kd z):=by rfl)(hj:z=(j:Int):=by first|rfl|omega)(hd:Nat.blt d n=true:=by rfl): WL P n ops Q (⟨some d,.indexAddr t x i,ty,pos,aft,none⟩::rest) al w :=
 wop hd (λa o=>Jdp h.ok j ht hk hlt o hx hi hj (some d) w) kk
theorem dixs[h:Tab P tt](j:Nat)(hlt:j<m)(kk:WD P n ops Q drest ((d,.pointer (some (p.add (j*k.esz))))::al) w)(ht:tk tt t=some k:=by rfl)(hk:k.desc=.array m e:=by rfl)(hx:ev al x=some (.pointer (some p)):=by rfl)(hi:ev al i=some (.int kd z):=by rfl)(hj:z=(j:Int):=by first|rfl|omega)(hd:Nat.blt d n=true:=by rfl): WD P n ops Q ((0,⟨some d,.indexAddr t x i,ty,pos,aft,none⟩)::drest) al w :=
 dy (λw' _ a o=>Jdp h.ok j ht hk hlt o hx hi hj (some d) w') hd kk
theorem adr1(b v:Nat): (⟨b,0,none⟩:Addr).add (v*1)=⟨b,v,none⟩:=by rw [Vo,Nat.mul_one,Nat.zero_add]
theorem ixb[h:Tab P tt](j:Nat)(hlt:j<m)(kk:WL P n ops Q rest ((d,.pointer (some ⟨b,j,none⟩))::al) w)(ht:tk tt t=some k:=by rfl)(hk:k.desc=.array m e:=by rfl)(h1:k.esz=1:=by rfl)(hx:ev al x=some (.pointer (some ⟨b,0,none⟩)):=by rfl)(hi:ev al i=some (.int kd z):=by rfl)(hj:z=(j:Int):=by first|rfl|omega)(hd:Nat.blt d n=true:=by rfl): WL P n ops Q (⟨some d,.indexAddr t x i,ty,pos,aft,none⟩::rest) al w:=by
 rw [<-adr1 b j,<-h1]at kk;exact ixs j hlt kk ht hk hx hi hj hd
theorem dixb[h:Tab P tt](j:Nat)(hlt:j<m)(kk:WD P n ops Q drest ((d,.pointer (some ⟨b,j,none⟩))::al) w)(ht:tk tt t=some k:=by rfl)(hk:k.desc=.array m e:=by rfl)(h1:k.esz=1:=by rfl)(hx:ev al x=some (.pointer (some ⟨b,0,none⟩)):=by rfl)(hi:ev al i=some (.int kd z):=by rfl)(hj:z=(j:Int):=by first|rfl|omega)(hd:Nat.blt d n=true:=by rfl): WD P n ops Q ((0,⟨some d,.indexAddr t x i,ty,pos,aft,none⟩)::drest) al w:=by
 rw [<-adr1 b j,<-h1]at kk;exact dixs j hlt kk ht hk hx hi hj hd
theorem nixb[h:Tab P tt](j:Nat)(hlt:j<m)(kk:WN N P n ops Q drest ((d,.pointer (some ⟨b,j,none⟩))::al) w)(ht:tk tt t=some k:=by rfl)(hk:k.desc=.array m e:=by rfl)(h1:k.esz=1:=by rfl)(hx:ev al x=some (.pointer (some ⟨b,0,none⟩)):=by rfl)(hi:ev al i=some (.int kd z):=by rfl)(hj:z=(j:Int):=by first|rfl|omega)(hd:Nat.blt d n=true:=by rfl): WN N P n ops Q ((0,⟨some d,.indexAddr t x i,ty,pos,aft,none⟩)::drest) al w:=by
 rw [<-adr1 b j,<-h1]at kk;exact nixa j hlt kk ht hk hx hi hj hd
theorem Blk.atc{w:World}{t:TypeId}(h:Blk w g t cs){i:Nat}(hv:cs[i]?=some v): w.cell? ⟨g,i,none⟩=some v:=by rw [h.cell];exact hv
theorem sla[h:Tab P tt](kk:WL P n ops Q rest ((d,.slice (some p) m m)::al) w)(ht:tk tt t=some k:=by rfl)(hk:k.desc=.array m e:=by rfl)(hx:ev al x=some (.pointer (some p)):=by rfl)(hd:Nat.blt d n=true:=by rfl): WL P n ops Q (⟨some d,.slice t x none none none,ty,pos,aft,none⟩::rest) al w :=
 wop hd (λa C=>by
  have o:=Jzt h.ok ht hk w;have u:=Vw w o.2.2.2;simp [execOp,C.ev hx,Instr.sliceAt,run_underlying o.2.2.1,Instr.sureAddr,Instr.sliceBounds,u];exact λ_=>add_zero p) kk
theorem cpb{dT sT dl dc sn sc:Nat}{A:Option Addr}[h:Tab P tt](hb:Blk w b t cs)(hr:Rd w 1 A sn xs)(hsn:sn<=dl)(hdl:dl<=cs.length)(h1:∀ u∈xs,u.oneCell'=true)(kk:∀ w1,Blk w1 b t (xs++cs.drop sn)->w.grownBy w1 (some b)->WL P n ops Q rest ((d,.int .i64 (sn:Int))::al) w1)(ht:tk tt dT=some k:=by rfl)(hk:k.desc=.slice e:=by rfl)(hz:k.esz=1:=by rfl)(hx:ev al x=some (.slice (some ⟨b,0,none⟩) dl dc):=by rfl)(hy:ev al y=some (.slice A sn sc):=by rfl)(hd:Nat.blt d n=true:=by rfl):
  WL P n ops Q (⟨some d,.call { callee:=.builtin .copy,args:=#[x,y],argTypes:=#[dT,sT] },ty,pos,aft,none⟩::rest) al w:=by
 have C:xs.length=sn:=by rw [hr.len,Nat.mul_one]
 have O:=Kg h.ok ht hk hz;have G:(P.info? e).map (·.size)=some 1:=O.2
 have U:=Jjp w b (xs++cs.drop sn).toArray;have hB:Blk (w.setRow b (xs++cs.drop sn).toArray) b t (xs++cs.drop sn):=setRow_heap w b _ _ _ _ hb;refine wop (w':=w.setRow b (xs++cs.drop sn).toArray) hd (λa J=>?_) (kk _ hB U);by_cases h0:sn=0
 .subst h0;have:xs=[]:=List.eq_nil_of_length_eq_zero C;subst this;have e0:w.setRow b ([]++cs.drop 0).toArray=w:=by
   have:=setRow_self w b cs.toArray t (0,0) hb;simpa using this
  rw [e0];cases hq:P.info? e with
  | none=>rw [hq]at G;cases G
  | some i=>
   cases A with
   | none=>simp [execOp,resolve,invoke,builtin,J.ev hx,J.ev hy,Builtin.copy_,run_underlying O.1,Builtin.lenOf,Builtin.firstCells,sizeOf,typeInfo,hq,storeCells,goInt]
   | some Z=>simp [execOp,resolve,invoke,builtin,J.ev hx,J.ev hy,Builtin.copy_,run_underlying O.1,Builtin.lenOf,Builtin.firstCells,sizeOf,typeInfo,hq,storeCells,goInt,loadCells,loadCellsFrom]
 .obtain ⟨Z,hA,_⟩:=hr.isome om om;subst hA;have o:=run_copy_row P w dT sT ty e b 0 dl dc Z sn sc cs.toArray t xs O.1 G hb (by rw [C];exact (Nat.min_eq_left hsn).symm) (λj v hv=>hr.cell hv) (by simp;omega) h1;rw [C]at o;have e1:(cs.toArray.toList.take 0++xs++cs.toArray.toList.drop (0+sn)).toArray=(xs++cs.drop sn).toArray:=by simp
  rw [e1]at o;simp [execOp,resolve,invoke,builtin,J.ev hx,J.ev hy,o,goInt]
end
end Go.Wk
