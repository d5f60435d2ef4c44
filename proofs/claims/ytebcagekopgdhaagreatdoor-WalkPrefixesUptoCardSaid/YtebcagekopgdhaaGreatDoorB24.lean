/- Part 24. -/
import Derived.Test.YtebcagekopgdhaaGreatDoorB23
import Derived.Laws.BitsAllLaws
set_option linter.unusedVariables false
set_option maxRecDepth 100000
set_option maxHeartbeats 40000000
namespace Go.Wk
open Go.RowKit
theorem fnl{P:Program}{n:Nat}{al:AL}{w:World}{Q:Exit->Act->World->Prop}{ops:Array Oper}{rest:List Oper}{d ty:Nat}{pos:String}{aft:Array Edge}{tt:TT}[h:Tab P tt]{x:Operand}{t t2:Nat}{k:TK}{ps rs:Array TypeId}{va:Bool}{f:Fn}{first cap:Array Value}(kk:WL P n ops Q rest ((d,.bool false)::al) w)(ht:tk tt t=some k:=by rfl)(hk:k.desc=.func ps rs va:=by rfl)(hx:ev al x=some (.func f first cap):=by rfl)(hd:Nat.blt d n=true:=by rfl):
  WL P n ops Q (⟨some d,.binOp .eql t x (.const .nilFunc) t2,ty,pos,aft,none⟩::rest) al w :=
 wop hd (λa u=>by
  have o:=Vw h.ok ht hk rfl;have G:a.eval (.const .nilFunc)=.nilFunc:=rfl;have C:∀ d:Nat,(Op.equalIn (d+1) t (.func f first cap) .nilFunc).run P w=.ok false w:=λd=>by simp [Op.equalIn,run_underlying o]
  simp [execOp,u.ev hx,G,eqGuard,binOp,Op.equal,Op.maxDepth,C 9999]) kk
end Go.Wk
namespace Go.Proofs.YtebcagekopgdhaaGreatDoor
open Go.RowKit Pl Go.Wk
attribute [local irreducible] WC WL QX WD WDB WP WN WG
structure YZ(s:Nat)(yv:Value)(bx:Nat->Prop)(Y:Nat->List Row->World->Prop): Prop where
 keep:∀ base l w w',Y base l w->GrN (λk=>s<=k/\k<base) w w'->Y base l w'
 call:∃ fid first cap,yv=.func (.func fid) first cap/\∀ base l w w1 vr z,base<=w.heap.size->Y base l w->Ext w w1->RowX w1 (λk=>k<w.heap.size) vr z->l.length<65536->Ret Tryz.prog fid (first.toList++[vr]++cap.toList) w1 λr w'=>r=.bool true/\Y base (l++[z]) w'/\GrN (λk=>bx k∨base<=k) w1 w'
theorem Qlb{s:Nat}{yv:Value}{bx:Nat->Prop}{Y:Nat->List Row->World->Prop}(hY:YZ s yv bx Y){b:Nat}(hb:s<=b)(hbx:∀ k,bx k->k<s):
  YS (b+1) (.func (.func 188) #[] #[.pointer (some ⟨b,0,none⟩)]) bx (λbase l w=>(Y base l w/\Blk w b 193 [yv])/\b<base):=by
 obtain ⟨a6,first,a7,a1,G⟩:=hY.call;subst a1;refine ⟨λbase l w w' h U=>⟨⟨hY.keep _ _ _ _ h.1.1 (U.mono λk _ hk=>⟨om,hk.2⟩),Jd h.1.2 U (λhk=>om)⟩,h.2⟩,_,_,_,rfl,λbase l w vr z J h hr hl=>?_⟩;obtain ⟨⟨hy,hB⟩,a4⟩:=h;have Z:¬ (bx b∨base<=b):=by
  rintro (e|e)
  .have:=hbx b e;omega
  .omega
 refine Jz Tryz.func188 Tryz.ntmps188 rfl kr rfl ?_;refine ρ ?_;refine drN (λk=>bx k∨base<=k) 8 [(0,0),(0,1),(1,2),(1,3),(0,4)] kr ?_;have o:Ext w w.drew:=(Ext.refl w).drew;have a5:=hB.ext o;have a2:=hY.keep _ _ _ _ hy (GrN.ext o);refine ρn ?_;refine nld (Jm (a5.at (i:=0) rfl) Z) ?_;refine ρn ?_;refine nop ?_;refine cl (Jxd (hr.ext o) (λk=>k<w.drew.heap.size) (λk hk=>hk)) ?_;rintro u w1 ⟨hu,C⟩;refine ρ ?_;refine Je (GrN.ext C) ?_;refine nop ?_;refine clv (G base l w.drew w1 u z J a2 C hu hl) ?_;rintro r w2 ⟨rfl,a3,O⟩;refine ρ ?_;refine Je O ?_;refine ρn ?_;refine ρ ?_;have U:GrN (λk=>bx k∨base<=k) w w2:=(GrN.ext (o.trans C)).trans O;exact Jj ⟨rfl,⟨⟨a3,Jd hB U Z⟩,a4⟩,U⟩
theorem Qhz{w:World}{n:Nat}{ts:List TA}{Aa:Option Addr}{ca:Nat}{vars:Nat->List Nat}{rs:Nat->List Row}{yv:Value}{bx':Nat->Prop}{Y:Nat->List Row->World->Prop}(hok:RunOk n ts vars rs)(hR:Rd w 3 Aa ts.length (atC ts))(hle:ts.length<=ca)(hat:∀ p∈ts,AtV w p.1 p.2)(hchk:Jkd n (ts.map (·.2)))(hbx:∀ k,bx' k->k<w.heap.size)(hY:YZ w.heap.size yv bx' Y)(hY0:∀ w',Ext w w'->Y w'.heap.size [] w')(hcap:∀ l:List Row,Lt [] l->(∀ x∈l,Zr n ts.length vars rs x)->l.length<=65536):
  Ret Tryz.prog 165 [.int .i64 (n:Int),yv,.slice Aa ts.length ca] w λu w'=>GrN bx' w w'/\∃ st base l,u=.tuple #[.int .i64 st,.int .i64 0]/\w.heap.size<=base/\base<=w'.heap.size/\Y base l w'/\Lt [] l/\∀ x,x∈l↔Zr n ts.length vars rs x:=by
 have a5:=hok.m32;obtain ⟨a3,first,a4,a1,_⟩:=hY.call;subst a1;refine Jz Tryz.func165 Tryz.ntmps165 rfl kr rfl ?_;refine ρ ?_;refine bx ?_;intro w1 b C hb hB;refine ρ ?_;refine cl (Jdd (n:=(n:Int)) (ats:=ts.map (·.2)) ⟨ts,Aa,ca,rfl,rfl,hle,om,hR.ext C,λp hp=>(hat p hp).ext C⟩) ?_
 rintro u w2 ⟨O,e,rfl,he⟩;have e0:=he.2 hchk;subst e0;have J:=hB.ext O;refine ρ ?_;refine ld (J.at (i:=0) rfl) ?_;refine ρ ?_;refine fnl ?_;have o:=C.trans O;have a6:b+1<=w2.heap.size:=J.lt;refine ρ ?_;refine cl (Qvz (bx':=bx') (Y:=λbase l w=>(Y base l w/\Blk w b 193 [.func (.func a3) first a4])/\b<base) hok (hR.ext o) (λp hp=>(hat p hp).ext o) (λk U=>nM (hbx k U) o.size) ?_ (λw' G=>⟨⟨hY0 w' (o.trans G),J.ext G⟩,by have:=G.size;omega⟩) hcap) ?_
 .have Z:=Qlb hY hb hbx;exact ⟨λbase l u u' h hg=>Z.keep base l u u' h (hg.mono λk _ U=>⟨om,U.2⟩),Z.call⟩
 rintro u w3 ⟨a2,st,base,l,rfl,Z,⟨⟨h2,_⟩,h3⟩,h4,h5⟩;refine ρ ?_;exact Ve ⟨GrN.cut o a2 λk _ U=>U,st,base,l,rfl,om,Z,h2,h4,h5⟩
end Go.Proofs.YtebcagekopgdhaaGreatDoor
namespace Go.Wk
open Go.RowKit
section
variable {N:Nat->Prop} {P:Program} {n:Nat} {al:AL} {w:World} {Q:Exit->Act->World->Prop} {ops:Array Oper} {rest:List Oper} {drest:List (Nat×Oper)}
variable {d ty:Nat} {pos:String} {aft:Array Edge}
theorem Jmp{x y:Operand}{t yt:TypeId}{k1 k2:IntKind}{a b:Int}(hx:ev al x=some (.int k1 a))(hy:ev al y=some (.int k2 b))(h0:0<=b){e:Act}(he:Fr n al e)(dst:Option Nat)(w:World):
  (execOp e.eval ⟨dst,.binOp .shr t x y yt,ty,pos,aft,none⟩).run P w=.ok (.value (.int k1 (a.fdiv (2^(min b.toNat k1.bits))))) w:=by
 have o:¬ b<0:=om
 simp [execOp,he.ev hx,he.ev hy,eqGuard,binOp,Op.shift,o]
theorem Jxw{x y:Operand}{t yt:TypeId}{k1 k2:IntKind}{a b:Int}(hx:ev al x=some (.int k1 a))(hy:ev al y=some (.int k2 b))(h0:0<=b){e:Act}(he:Fr n al e)(dst:Option Nat)(w:World):
  (execOp e.eval ⟨dst,.binOp .shl t x y yt,ty,pos,aft,none⟩).run P w=.ok (.value (.int k1 (k1.wrap (a*2^(min b.toNat k1.bits))))) w:=by
 have o:¬ b<0:=om
 simp [execOp,he.ev hx,he.ev hy,eqGuard,binOp,Op.shift,o]
theorem Jmh(s v:Nat)(hv:v<=32): ((s:Int)).fdiv (2^(min ((v:Nat):Int).toNat 32))=((s / 2^v:Nat):Int):=by
 rw [Int.toNat_natCast,Nat.min_eq_left hv,Int.fdiv_eq_ediv_of_nonneg _ (by exact Int.pow_nonneg (by decide))];have:((2:Int)^v)=((2^v:Nat):Int):=by simp
 rw [this];rfl
theorem Gc{v:Nat}(hv:v<32): 2^v<4294967296:=nM (Nat.pow_lt_pow_right (by decide:1<2) hv) (by decide)
theorem Jwc{v:Nat}(hv:v<32): IntKind.u32.wrap (1*2^(min ((v:Nat):Int).toNat 32))=((2^v:Nat):Int):=by
 have h:=Gc hv;rw [Int.toNat_natCast,Nat.min_eq_left om,Int.one_mul];have:((2:Int)^v)=((2^v:Nat):Int):=by simp
 rw [this,IntKind.wrap_u32];generalize 2^v=p at *
 omega
theorem Kz{x y:Operand}{t yt:TypeId}{s v:Nat}(hv:v<=32)(kk:WL P n ops Q rest ((d,.int .u32 ((s / 2^v:Nat):Int))::al) w)(hx:ev al x=some (.int .u32 (s:Int)):=by rfl)(hy:ev al y=some (.int .i64 (v:Int)):=by rfl)(hd:Nat.blt d n=true:=by rfl):
  WL P n ops Q (⟨some d,.binOp .shr t x y yt,ty,pos,aft,none⟩::rest) al w:=by
 rw [<-Jmh s v hv]at kk;exact wop hd (λa o=>Jmp hx hy om o (some d) w) kk
theorem sl32{y:Operand}{t yt:TypeId}{v:Nat}(hv:v<32)(kk:WL P n ops Q rest ((d,.int .u32 ((2^v:Nat):Int))::al) w)(hy:ev al y=some (.int .i64 (v:Int)):=by rfl)(hd:Nat.blt d n=true:=by rfl):
  WL P n ops Q (⟨some d,.binOp .shl t (.const (.int .u32 1)) y yt,ty,pos,aft,none⟩::rest) al w:=by
 rw [<-Jwc hv]at kk;exact wop hd (λa o=>Jxw (x:=.const (.int .u32 1)) rfl hy om o (some d) w) kk
theorem dsl32{y:Operand}{t yt:TypeId}{v:Nat}(hv:v<32)(kk:WD P n ops Q drest ((d,.int .u32 ((2^v:Nat):Int))::al) w)(hy:ev al y=some (.int .i64 (v:Int)):=by rfl)(hd:Nat.blt d n=true:=by rfl):
  WD P n ops Q ((0,⟨some d,.binOp .shl t (.const (.int .u32 1)) y yt,ty,pos,aft,none⟩)::drest) al w:=by
 rw [<-Jwc hv]at kk;exact dy (λw' _ a o=>Jxw (x:=.const (.int .u32 1)) rfl hy om o (some d) w') hd kk
theorem Jcm{y:Operand}{t yt:TypeId}{v:Nat}(hv:v<32)(kk:WN N P n ops Q drest ((d,.int .u32 ((2^v:Nat):Int))::al) w)(hy:ev al y=some (.int .i64 (v:Int)):=by rfl)(hd:Nat.blt d n=true:=by rfl):
  WN N P n ops Q ((0,⟨some d,.binOp .shl t (.const (.int .u32 1)) y yt,ty,pos,aft,none⟩)::drest) al w:=by
 rw [<-Jwc hv]at kk;exact ny_ (λw' _ a o=>Jxw (x:=.const (.int .u32 1)) rfl hy om o (some d) w') hd kk
end
section
variable {N:Nat->Prop} {P:Program} {n:Nat} {al:AL} {w:World} {Q:Exit->Act->World->Prop} {ops:Array Oper} {drest:List (Nat×Oper)}
variable {d ty:Nat} {pos:String} {aft:Array Edge}
theorem Jmv{t:Nat}{parts:Array (Nat×Operand)}{vs:List Value}{v:Value}{pw:Array (Nat×Value)}(hb:∀ w,(Instr.build t pw).run P w=.ok v w)(hx:evs al (parts.toList.map (·.2))=some vs)(hp:((parts.toList.map (·.1)).zip vs).toArray=pw){a:Act}(ha:Fr n al a)(dst:Option Nat)(w:World):
  (execOp a.eval ⟨dst,.build t parts,ty,pos,aft,none⟩).run P w=.ok (.value v) w:=by
 subst hp;have u:=ha.evs hx;have o:(parts.map fun (i,x)=>(i,a.eval x))=((parts.toList.map (·.1)).zip vs).toArray:=by
  rw [<-u];apply Array.ext'
  simp only [Array.toList_map];induction parts.toList with
  | nil=>rfl
  | cons x r ih=>simpa using ih
 simp only [execOp,o,Sem.run_bind,hb w];rfl
theorem Idq{t:Nat}{parts:Array (Nat×Operand)}{vs:List Value}{v:Value}{pw:Array (Nat×Value)}(hb:∀ w,(Instr.build t pw).run P w=.ok v w)(kk:WN N P n ops Q drest ((d,v)::al) w)(hx:evs al (parts.toList.map (·.2))=some vs:=by rfl)(hp:((parts.toList.map (·.1)).zip vs).toArray=pw:=by rfl)(hd:Nat.blt d n=true:=by rfl): WN N P n ops Q ((0,⟨some d,.build t parts,ty,pos,aft,none⟩)::drest) al w :=
 ny_ (λw' _ a o=>Jmv hb hx hp o (some d) w') hd kk
theorem dbld{t:Nat}{parts:Array (Nat×Operand)}{vs:List Value}{v:Value}{pw:Array (Nat×Value)}(hb:∀ w,(Instr.build t pw).run P w=.ok v w)(kk:WD P n ops Q drest ((d,v)::al) w)(hx:evs al (parts.toList.map (·.2))=some vs:=by rfl)(hp:((parts.toList.map (·.1)).zip vs).toArray=pw:=by rfl)(hd:Nat.blt d n=true:=by rfl): WD P n ops Q ((0,⟨some d,.build t parts,ty,pos,aft,none⟩)::drest) al w :=
 dy (λw' _ a o=>Jmv hb hx hp o (some d) w') hd kk
end
theorem Ub{s v:Nat}(hs:s<4294967296): (bits .and .u32 ((s / 2^v:Nat):Int) 1 == 1)=s.testBit v:=by
 have C:s / 2^v<4294967296:=Nat.lt_of_le_of_lt (Nat.div_le_self _ _) hs;have o:=u32_and_nat (s / 2^v) 1 C om;have u:((1:Nat):Int)=1:=rfl;rw [u]at o;rw [o,Nat.and_one_is_mod,Nat.testBit_eq_decide_div_mod_eq];by_cases h:s / 2^v % 2=1
 .rw [h,decide_eq_true rfl];rfl
 .rw [decide_eq_false h,Jxk om]
theorem Qqp{s v:Nat}(hs:s<4294967296): (bits .and .u32 ((s / 2^v:Nat):Int) 1 == 0) = !s.testBit v:=by
 have C:s / 2^v<4294967296:=Nat.lt_of_le_of_lt (Nat.div_le_self _ _) hs;have o:=u32_and_nat (s / 2^v) 1 C om;have u:((1:Nat):Int)=1:=rfl;rw [u]at o;rw [o,Nat.and_one_is_mod,Nat.testBit_eq_decide_div_mod_eq];by_cases h:s / 2^v % 2=1
 .rw [h,decide_eq_true rfl];rfl
 .rw [decide_eq_false h,Qqq om];rfl
def Gj(s t:Nat): Nat:=s &&& (4294967295-t)
theorem Qxj{s t:Nat}(hs:s<4294967296): Gj s t<4294967296:=by
 unfold Gj;exact Nat.lt_of_le_of_lt Nat.and_le_left hs
theorem Jgd{s t i:Nat}(hs:s<4294967296)(ht:t<4294967296): (Gj s t).testBit i=(s.testBit i && !t.testBit i):=by
 unfold Gj;have e:4294967295-t=2^32-(t+1):=om
 rw [Nat.testBit_and,e,Nat.testBit_two_pow_sub_succ om];by_cases hi:i<32
 .rw [decide_eq_true hi];simp
 .have:s.testBit i=false:=Nat.testBit_lt_two_pow (nM hs (Nat.pow_le_pow_right (n:=2) (by decide) (show 32<=i by omega)));rw [this];rfl
theorem Jfr{s t:Nat}(hs:s<4294967296)(ht:t<4294967296): bits .andNot .u32 (s:Int) (t:Int)=((Gj s t:Nat):Int):=u32_andNot_nat s t hs ht
theorem Ie{s t:Nat}(hs:s<4294967296)(ht:t<4294967296): bits .or .u32 (s:Int) (t:Int)=((s ||| t:Nat):Int):=u32_or_nat s t hs ht
theorem Jwq{s t:Nat}(hs:s<4294967296)(ht:t<4294967296): s ||| t<4294967296:=Nat.or_lt_two_pow (n:=32) hs ht
end Go.Wk
namespace Go.Proofs.YtebcagekopgdhaaGreatDoor
open Go.RowKit Pl Go.Wk
attribute [local irreducible] WC WL QX WD WDB WP WN WG
def Qg(vars:List Nat)(s:Nat): List Nat:=(List.range vars.length).filter λi=>s.testBit (vars.getD i 0)
def inS(vars:List Nat)(s:Nat): List Nat:=vars.filter λv=>s.testBit v
theorem Jxb{vars:List Nat}{s c:Nat}(h:c∈Qg vars s): c<vars.length:=List.mem_range.1 (List.mem_filter.1 h).1
theorem Qyr{n k:Nat}(h:k<=n): (List.range n).take k=List.range k:=by
 apply List.ext_getElem?
 intro i;rw [List.getElem?_take];by_cases hi:i<k
 .rw [if_pos hi,List.getElem?_range om,List.getElem?_range hi]
 .rw [if_neg hi,List.getElem?_eq_none (by simp;omega)]
def Xl(vars:List Nat)(s k:Nat): List Nat:=(List.range k).filter λi=>s.testBit (vars.getD i 0)
theorem Gt(vars:List Nat)(s k:Nat): Xl vars s (k+1)=Xl vars s k++if s.testBit (vars.getD k 0) then [k] else []:=by
 unfold Xl;rw [List.range_succ,List.filter_append];congr 1
 by_cases h:s.testBit (vars.getD k 0)=true
 .rw [if_pos h];simp only [List.filter_cons,List.filter_nil,h,if_true]
 .rw [if_neg h];simp only [List.filter_cons,List.filter_nil,h];rfl
theorem Jzl{vars:List Nat}{s k:Nat}(h:k<vars.length): inS (vars.take (k+1)) s=inS (vars.take k) s++if s.testBit (vars.getD k 0) then [vars.getD k 0] else []:=by
 unfold inS;rw [Qy 0 h,List.filter_append];congr 1
 by_cases h:s.testBit (vars.getD k 0)=true
 .rw [if_pos h,List.filter_cons_of_pos h];rfl
 .rw [if_neg h,List.filter_cons_of_neg h];rfl
theorem Jzz(vars:List Nat)(s:Nat): ∀ k,k<=vars.length->(Xl vars s k).length=(inS (vars.take k) s).length
 | 0,_=>by simp [Xl,inS]
 | k+1,h=>by
  rw [Gt,Jzl om,List.length_append,List.length_append,Jzz vars s k om];split<;>rfl
theorem Jpc(vars:List Nat)(s:Nat)(z:Row): ∀ k,k<=vars.length->pmR (Xl vars s k) (pmR vars z)=pmR (inS (vars.take k) s) z
 | 0,_=>by simp [Xl,inS,pmR]
 | k+1,h=>by
  have ih:=Jpc vars s z k om;rw [Gt,Jzl om];unfold pmR at *;rw [List.map_append,List.map_append,ih];congr 1
  split
  .simp only [List.map_cons,List.map_nil];congr 1
   exact Jwn om
  .rfl
theorem bs1Int''(z:Int)(w:World): (Instr.buildSlice 44 1 #[(0,.int .i64 z)]).run Tryz.prog w=.ok (.slice (some ⟨w.heap.size,0,none⟩) 1 1) (w.alloc (.cells [.int .i64 z].toArray 3)):=kr
theorem Qcv(a b:List Nat): nz (a++b)=nz a++nz b:=by simp [nz]
theorem Qgk(a b:List Int): Js (a++b)=Js a++Js b:=by simp [Js]
abbrev Xt(w:World)(base:Nat)(v:Value)(cs:List Nat): Prop:=w.ownsRow base 3 1 v cs.length (Js (nz cs))
theorem apI{n:Nat}{al:AL}{w:World}{Q:Exit->Act->World->Prop}{ops:Array Oper}{rest:List Oper}{d ty:Nat}{pos:String}{aft:Array Edge}{base:Nat}{x y:Operand}{v:Value}{cs:List Nat}{b z:Nat}(ho:Xt w base v cs)(hb:Blk w b 3 [.int .i64 (z:Int)])(hm:cs.length<=1100000)(hbase:base<=w.heap.size)(kk:∀ v' w',Xt w' base v' (cs++[z])->w.grownBy w' v.ownBlock->(∀ g,v'.ownBlock=some g->v.ownBlock=some g∨w.heap.size<=g)->WL Tryz.prog n ops Q rest ((d,v')::al) w')(hx:ev al x=some v:=by rfl)(hy:ev al y=some (.slice (some ⟨b,0,none⟩) 1 1):=by rfl)(hd:Nat.blt d n=true:=by rfl):
  WL Tryz.prog n ops Q (⟨some d,.call { callee:=.builtin .append,args:=#[x,y],argTypes:=#[44,44] },ty,pos,aft,none⟩::rest) al w:=by
 refine apb (base:=base) EI ho (hb.rd (n:=1) rfl) (λu C=>by rw [List.mem_singleton.1 C];rfl) (by unfold maxLen;omega) om hbase ?_ hx hy hd;intro v' w' o G hn;refine kk v' w' ?_ G hn;rw [Xt,List.length_append,Qcv,Qgk];exact o
set_option maxRecDepth 100000 in
set_option maxHeartbeats 1000000 in
theorem Qph{w : World}{t : V3}{vars : List Nat}{rs : List Row}{s : Nat}(hA : AtV w t ⟨nz vars, vars.length, rs⟩)(hs : s < 4294967296)(hasc : Qo vars)(hlt : ∀ v ∈ vars, v < 32)(hlen : ∀ r ∈ rs, r.length = vars.length)(hbig : rs.length ≤ 65536):
    Ret Tryz.prog 164 [.agg t.cells.toArray, .int .u32 (s : Int)] w fun u w' => Ext w w' ∧ ∃ t' : V3, u = .tuple #[.agg t'.cells.toArray, .int .i64 0] ∧ ∃ m, Off (fun k => k < w.heap.size) w' (fun x => AtV x t' ⟨nz (inS vars s), (inS vars s).length, m⟩) ∧ m.length ≤ 65536 ∧ (∀ x ∈ m, x ∈ rs.map (pmR (Qg vars s))) ∧
      ((rs.length ≤ 1000 ∨ Srt [] (rs.map (pmR (Qg vars s)))) → IsSet [] (rs.map (pmR (Qg vars s))) m) := by
  obtain ⟨t1, t2, t3⟩ := t
  obtain ⟨⟨D, d, e1, hd, hdm, hdr⟩, e2, hrows⟩ := id hA
  simp only at e1 e2
  subst e1; subst e2
  obtain ⟨ps, G, gc, _, hv3, _⟩ := id hrows
  simp only at hv3
  subst hv3
  have hnl := Qq vars
  have hl32 := Jkj hasc hlt
  refine Jz Tryz.func164 Tryz.ntmps164 rfl kr rfl ?_
  refine ρ ?_
  refine bx ?_
  intro w1 b hx1 hb hB
  refine ρ ?_
  refine alc Vl ?_
  intro w2 br hx2 hbr hBr
  have hB2 := hB.ext hx2
  have hxw2 := hx1.trans hx2
  have hdr' : Rd w 1 D (nz vars).length (Js (nz vars)) := hdr
  clear hdr hd hdm
  have mono : ∀ i, 1 ≤ i → i < vars.length → vars.getD (i - 1) 0 < vars.getD i 0 := fun i h1 h2 => by
    have := List.pairwise_iff_getElem.1 hasc (i - 1) i om h2 om
    simpa [List.getD, List.getElem?_eq_getElem h2, List.getElem?_eq_getElem (show i - 1 < vars.length by omega)] using this
  have hv32 : ∀ i, i < vars.length → vars.getD i 0 < 32 := fun i hi => hlt _ (getD_mem' 0 _ hi)
  refine ρ ?_
  refine Qd (fun (i : Nat) => [(1, .int .u32 (s : Int)), (2, .pointer (some ⟨b, 0, none⟩)), (4, .pointer (some ⟨br, 0, none⟩)), (6, .int .i64 (i : Int))])
    (fun i w' => 1 ≤ i ∧ i ≤ 1000 ∧ Ext w2 w') (fun i => 1000 - i) 1 sB ⟨Nat.le_refl _, by omega, Ext.refl _⟩ ?_
  rintro i w3 ⟨hi1, hi2, hx3⟩
  have hB3 := hB2.ext hx3
  refine ρ ?_
  refine ld (hB3.at (i := 0) rfl) ?_
  refine ρ ?_
  refine ci (fun h => ?_) (fun h => ?_)
  . have li : i < vars.length := by have := oT h; omega
    clear h
    have hxd : Ext w3 w3.drew := (Ext.refl w3).drew
    have hBd := hB3.ext hxd
    have hDd := hdr'.ext ((hxw2.trans hx3).trans hxd)
    refine ρ ?_
    refine dr [(0, 0), (0, 1), (0, 2), (0, 3), (0, 4), (0, 5), (0, 6), (0, 7), (0, 8), (0, 9), (0, 10), (0, 11)] kr ?_
    refine ρd ?_
    refine dld (hBd.at (i := 0) rfl) ?_
    refine ρd ?_
    refine dix (i - 1) hDd om ?_
    refine ρd ?_
    refine dld (hDd.cell (Xh (show i - 1 < vars.length by omega))) ?_
    refine ρd ?_
    refine dld (hBd.at (i := 0) rfl) ?_
    refine ρd ?_
    refine dix i hDd om ?_
    refine ρd ?_
    refine dld (hDd.cell (Xh li)) ?_
    refine ρd ?_
    refine ρ ?_
    refine cf ?_ ?_
    . exact dF (by have := mono i hi1 li; omega)
    refine ρ ?_
    exact Qw (i + 1) sO ⟨om, by omega, hx3.trans hxd⟩ om
  clear h
  refine ρ ?_
  refine ld (hB3.at (i := 0) rfl) ?_
  refine ρ ?_
  refine Qd (fun (i : Nat) => [(1, .int .u32 (s : Int)), (2, .pointer (some ⟨b, 0, none⟩)), (4, .pointer (some ⟨br, 0, none⟩)), (36, .slice D (nz vars).length d), (37, .int .i64 ((nz vars).length : Int)), (38, .int .i64 (i : Int))])
    (fun i w' => i ≤ vars.length ∧ Ext w3 w') (fun i => vars.length - i) 0 sB ⟨Nat.zero_le _, Ext.refl _⟩ ?_
  rintro i w4 ⟨hi, hx4⟩
  have hxw4 := (hxw2.trans hx3).trans hx4
  have hB4 := hB3.ext hx4
  refine ρ ?_
  refine ci (fun h => ?_) (fun h => ?_)
  . have li : i < vars.length := by have := oT h; omega
    clear h
    have hD4 := hdr'.ext hxw4
    refine ρ ?_
    refine ix i hD4 om ?_
    refine ρ ?_
    refine ld (hD4.cell (Xh li)) ?_
    refine ρ ?_
    refine cf ?_ ?_
    . exact dF (by have := hv32 i li; omega)
    refine ρ ?_
    exact Qw (i + 1) sO ⟨om, hx4⟩ om
  have hi' : i = vars.length := by have := oF h; omega
  clear h hi hi'
  have hxd4 : Ext w4 w4.drew := (Ext.refl w4).drew
  have hB4d := hB4.ext hxd4
  refine ρ ?_
  refine dr [(0, 0), (0, 1), (0, 2), (0, 3), (0, 4), (1, 5), (0, 6)] kr ?_
  refine ρd ?_
  refine dld (hB4d.at (i := 0) rfl) ?_
  refine ρd ?_
  refine Qk (cs := [.int .i64 (vars.length : Int), .slice G ps.length gc]) (hB4d.sub2 (i := 1) rfl rfl) ?_
  refine ρd ?_
  refine dcl (Jcd ((hA.ext (hxw4.trans hxd4)).rel)) ?_
  rintro u w5 ⟨rfl, hx5⟩
  refine ⟨hx5, ?_⟩
  refine ρd ?_
  refine ρ ?_
  refine cf ?_ ?_
  . exact Qqg (by rw [hnl])
  have hxw5 := (hxw4.trans hxd4).trans hx5
  have hx25 : Ext w2 w5 := ((hx3.trans hx4).trans hxd4).trans hx5
  refine ρ ?_
  refine alc Vl ?_
  intro w6 bq hx6 hbq hBq
  have hB6 := (hB2.ext hx25).ext hx6
  have hxw6 := hxw5.trans hx6
  have hBr6 := (hBr.ext hx25).ext hx6
  refine ρ ?_
  refine ld (hB6.at (i := 0) rfl) ?_
  refine ρ ?_
  refine Xr (fun (k : Nat) (vv vc : Value) => [(1, .int .u32 (s : Int)), (2, .pointer (some ⟨b, 0, none⟩)), (4, .pointer (some ⟨br, 0, none⟩)), (9, .pointer (some ⟨bq, 0, none⟩)), (10, vc), (59, .slice D (nz vars).length d), (60, .int .i64 ((nz vars).length : Int)), (61, .int .i64 (k : Int))])
    (fun k vv vc w' => k ≤ vars.length ∧ Ext w w' ∧ Blk w' b 99 [.slice D (nz vars).length d, .int .i64 (vars.length : Int), .slice G ps.length gc] ∧ Blk w' br 99 [.slice none 0 0, .int .i64 0, .slice none 0 0] ∧ Blk w' bq 99 [vv, .int .i64 0, .slice none 0 0] ∧
      Xt w' w.heap.size vv (inS (vars.take k) s) ∧ Xt w' w.heap.size vc (Xl vars s k) ∧ ∀ g, vv.ownBlock = some g → vc.ownBlock ≠ some g) (fun k _ _ => vars.length - k) 0 (.slice none 0 0) (.slice none 0 0) sB
    ⟨Nat.zero_le _, hxw6, hB6, hBr6, hBq, Xs _ _ _ _, Xs _ _ _ _, fun g e => (by cases e)⟩ ?_
  clear hB6 hBr6 hBq
  rintro k vv vc w7 ⟨hk, hx7, hB7, hBr7, hBq7, hv7, hc7, hne7⟩
  refine ρ ?_
  refine ci (fun h => ?_) (fun h => ?_)
  . have lk : k < vars.length := by have := oT h; omega
    clear h
    have hD7 := hdr'.ext hx7
    have hcl := Jzz vars s k om
    have hil : (inS (vars.take k) s).length ≤ 32 := by
      have := List.length_filter_le (fun v => s.testBit v) (vars.take k)
      rw [List.length_take] at this; unfold inS; omega
    refine ρ ?_
    refine ix k hD7 om ?_
    refine ρ ?_
    refine ld (hD7.cell (Xh lk)) ?_
    refine ρ ?_
    refine Kz (s := s) (v := vars.getD k 0) (by have := hv32 k lk; omega) ?_
    refine ρ ?_
    refine ci (fun h => ?_) (fun h => ?_)
    . rw [Ub hs] at h
      refine ρ ?_
      refine ld (hBq7.at (i := 0) rfl) ?_
      refine ρ ?_
      refine bsl (bs1Int'' _) ?_
      intro w8 b8 hx8 hb8 hB8
      refine ρ ?_
      refine apI (Jk hv7 hx8) hB8 om (hx7.trans hx8).size ?_
      intro vv9 w9 hv9 hg9 hn9
      have own_ge : ∀ {w' : World} {cs : List Nat} {v : Value}, Xt w' w.heap.size v cs → ∀ g, v.ownBlock = some g → w.heap.size ≤ g ∧ g < w'.heap.size := fun ho g eg => by
        obtain ⟨_, _, _, _, hf⟩ := Jv ho; exact hf g eg
      have hx9 : Ext w w9 := Qv (hx7.trans hx8) hg9 (fun g eg => (own_ge hv7 g eg).1)
      have hBq9 := (hBq7.ext hx8).grown hg9 ((hBq7.ext hx8).ne_own (Jk hv7 hx8) rfl)
      have hB9 := (hB7.ext hx8).grown hg9 ((hB7.ext hx8).ne_own (Jk hv7 hx8) rfl)
      have hBr9 := (hBr7.ext hx8).grown hg9 ((hBr7.ext hx8).ne_own (Jk hv7 hx8) rfl)
      have hc9 : Xt w9 w.heap.size vc (Xl vars s k) := Jr (Jk hc7 hx8) (GrN.by hg9 fun g eg => eg) (fun g eg e => hne7 g e eg)
      have hne9 : ∀ g, vv9.ownBlock = some g → vc.ownBlock ≠ some g := fun g eg e => by
        rcases hn9 g eg with h' | h'
        . exact hne7 g h' e
        . have := (own_ge hc7 g e).2; have := hx8.size; omega
      have h19 : vv9.oneCell' = true := by obtain ⟨_, _, e, _⟩ := Jv hv9; rw [e]; rfl
      refine ρ ?_
      refine sto (p := ⟨bq, 0, none⟩) (hBq9.cell 0) (hBq9.frozen _) ?_ (hv := h19)
      have hgs : w9.grownBy (w9.setCell ⟨bq, 0, none⟩ vv9) (some bq) := Qvn _
      have hBqs := hBq9.set 0 vv9
      have hxs : Ext w (w9.setCell ⟨bq, 0, none⟩ vv9) := hx9.setCell (by simp only; have := hxw5.size; omega) _
      have hvs : Xt (w9.setCell ⟨bq, 0, none⟩ vv9) w.heap.size vv9 (inS (vars.take k) s ++ [vars.getD k 0]) := Jr hv9 (GrN.by hgs fun g eg => eg) (fun g eg e => by injection e with e; subst e; exact hBq9.ne_own hv9 rfl eg.symm)
      have hcs : Xt (w9.setCell ⟨bq, 0, none⟩ vv9) w.heap.size vc (Xl vars s k) := Jr hc9 (GrN.by hgs fun g eg => eg) (fun g eg e => by injection e with e; subst e; exact hBq9.ne_own hc9 rfl eg.symm)
      have bqne : ∀ {x : Nat}, x < w5.heap.size → x ≠ bq := fun h e => by omega
      have hBs : Blk (w9.setCell ⟨bq, 0, none⟩ vv9) b 99 _ := hB9.far (bqne (by have := hB2.lt; have := hx25.size; omega)) _
      have hBrs : Blk (w9.setCell ⟨bq, 0, none⟩ vv9) br 99 _ := hBr9.far (bqne (by have := hBr.lt; have := hx25.size; omega)) _
      generalize w9.setCell ⟨bq, 0, none⟩ vv9 = w10 at *
      clear hBq9 hB9 hBr9 hc9 hx9 hg9 hgs hv9 hn9
      refine ρ ?_
      refine bsl (bs1Int'' _) ?_
      intro w11 b11 hx11 hb11 hB11
      refine ρ ?_
      refine apI (Jk hcs hx11) hB11 om (hxs.trans hx11).size ?_
      intro vc12 w12 hc12 hg12 hn12
      have hx12 : Ext w w12 := Qv (hxs.trans hx11) hg12 (fun g eg => (own_ge hcs g eg).1)
      have nb : ∀ {g : Nat} {cs : List Value}, Blk w10 g 99 cs → Blk w12 g 99 cs := fun h => (h.ext hx11).grown hg12 ((h.ext hx11).ne_own (Jk hcs hx11) rfl)
      refine ρ ?_
      refine Qa (k + 1) vv9 vc12 sO ⟨om, hx12, nb hBs, nb hBrs, nb hBqs, ?_, ?_, fun g eg e => ?_⟩ om
      . rw [Jzl lk, if_pos h]
        exact Jr (Jk hvs hx11) (GrN.by hg12 fun g eg => eg) (fun g eg e => hne9 g eg e)
      . rw [Gt, if_pos h]; exact hc12
      . rcases hn12 g e with h' | h'
        . exact hne9 g eg h'
        . have := (own_ge hvs g eg).2; have := hx11.size; omega
    . rw [Ub hs] at h
      have hf : ¬ s.testBit (vars.getD k 0) = true := by rw [h]; simp
      refine ρ ?_
      refine Qa (k + 1) vv vc sO ⟨om, hx7, hB7, hBr7, hBq7, ?_, ?_, hne7⟩ om
      . rw [Jzl lk, if_neg hf, List.append_nil]; exact hv7
      . rw [Gt, if_neg hf, List.append_nil]; exact hc7
  have hk' : k = vars.length := by have := oF h; omega
  subst hk'
  clear h
  rw [List.take_length] at hv7
  have hcc : Xl vars s vars.length = Qg vars s := rfl
  rw [hcc] at hc7
  obtain ⟨VA, vac, eva, hva, _⟩ := Jv hv7
  obtain ⟨CA, cac, eca, hca, _⟩ := Jv hc7
  have hcl32 : (Qg vars s).length ≤ 32 := by
    have := List.length_filter_le (fun i => s.testBit (vars.getD i 0)) (List.range vars.length)
    rw [List.length_range] at this; unfold Qg; omega
  have hil32 : (inS vars s).length ≤ 32 := by
    have := List.length_filter_le (fun v => s.testBit v) vars
    unfold inS; omega
  refine ρ ?_
  refine lds (cs := [.int .i64 (vars.length : Int), .slice G ps.length gc]) (hB7.sub2 (i := 1) rfl rfl) ?_
  refine ρ ?_
  have hcolsV : IntsV w7 vc (nz (Qg vars s)) := by
    refine ⟨CA, cac, by rw [Qq]; exact eca, by rw [Qq]; exact hca, by rw [Qq]; omega, ?_⟩
    rw [Qq]
    have := hc7
    rw [eca] at this; exact Rd.own this
  refine cl (Jng (cs := Qg vars s) ((hA.ext hx7).rel) hcolsV hlen (fun c hc => Jxb hc) hcl32 hbig) ?_
  rintro u w8 ⟨hx8, rv, rfl, ⟨z, RB, rm, rd, rfl⟩, m, hoff, hml, hms, hset⟩
  refine ρ ?_
  refine alc Ug ?_
  intro w9 b9 hx9 hb9 hB9
  refine ρ ?_
  refine stb (cs' := [.int .i64 z, .slice RB rm rd]) hB9 ?_ Vs
  intro w10 hB10 hg10 hx10
  have hx810 : Ext w8 w10 := hx10 w8 hx9 hb9
  refine ρ ?_
  refine ldW hB10 ?_
  have hBq10 := (hBq7.ext hx8).ext hx810
  refine ρ ?_
  refine stB (o := 1) (us := [.int .i64 z, .slice RB rm rd]) hBq10 (by simp) Vs ?_
  intro w11 hBq11 hg11
  refine ρ ?_
  refine ldW hBq11 ?_
  have hbqw : w.heap.size ≤ bq := by have := hxw5.size; omega
  have hx711 : Ext w w11 := Jvj ((hx7.trans hx8).trans hx810) hg11 hbqw
  have hbrq : br ≠ bq := by have := hBr.lt; have := hx25.size; omega
  have hBr11 : Blk w11 br 99 _ := ((hBr7.ext hx8).ext hx810).grown hg11 (fun e => by injection e with e; exact hbrq e)
  refine ρ ?_
  refine stb (cs' := [vv, .int .i64 z, .slice RB rm rd]) hBr11 ?_ (fun u hu => by
    simp only [List.mem_cons, List.not_mem_nil, or_false] at hu
    rcases hu with rfl | rfl | rfl
    . rw [eva]; rfl
    . rfl
    . rfl)
  intro w12 hBr12 hg12 _
  refine ρ ?_
  have hbrw : w.heap.size ≤ br := by have := hx1.size; omega
  have hx12 : Ext w w12 := Jvj hx711 hg12 hbrw
  refine Zh hBr12 ⟨hx12, (vv, .int .i64 z, .slice RB rm rd), rfl, m, ?_, hml, hms, hset⟩
  have hgN : GrN (fun k => k = bq ∨ k = br) w10 w12 := (GrN.by hg11 fun k e => .inl (by injection e with e; exact e.symm)).trans (GrN.by hg12 fun k e => .inr (by injection e with e; exact e.symm))
  have hb7 : bq < w7.heap.size ∧ br < w7.heap.size := ⟨hBq7.lt, hBr7.lt⟩
  intro w' hg'
  have hg812 : GrN (fun k => k < w7.heap.size) w8 w' := ((GrN.ext hx810).trans (hgN.mono fun k _ hk => by rcases hk with rfl | rfl; · exact hb7.1
                                                                                                          exact hb7.2)).trans (hg'.mono fun k _ hk => nM hk hx7.size)
  obtain ⟨rv, erv, hrv⟩ := hoff w' hg812
  have hrv2 : (Value.int .i64 z) = .int .i64 ((Qg vars s).length : Int) ∧ Value.slice RB rm rd = rv := by
    simp only [Value.agg.injEq, Array.mk.injEq, List.cons.injEq, and_true] at erv
    exact erv
  have hvw : Xt w' w.heap.size vv (inS vars s) := by
    have h1 := Jk (Jk hv7 hx8) hx810
    have h2 : Xt w12 w.heap.size vv (inS vars s) := Jr h1 hgN fun g eg hk => by
      rcases hk with rfl | rfl
      . exact hBq10.ne_own h1 rfl eg.symm
      . exact ((hBr7.ext hx8).ext hx810).ne_own h1 rfl eg.symm
    refine Jr h2 hg' fun g eg hk => ?_
    obtain ⟨_, _, _, _, hf⟩ := Jv h2
    have := (hf g eg).1; omega
  have hcl : (Qg vars s).length = (inS vars s).length := by
    have := Jzz vars s vars.length (Nat.le_refl _)
    rw [List.take_length] at this; exact this
  refine ⟨⟨VA, vac, by rw [Qq]; exact eva, by rw [Qq]; exact hva, by rw [Qq]; omega, ?_⟩, ?_, ?_⟩
  . rw [Qq]
    rw [eva] at hvw; exact Rd.own hvw
  . simp only; rw [← hcl]; exact hrv2.1
  . simp only; rw [hrv2.2]; exact hrv
end Go.Proofs.YtebcagekopgdhaaGreatDoor
