/- Part 39 of the proof: Rf1, Rp, Rf3, Rf5, Lw1. -/
import Derived.Test.YtefpailelagbkaaGreatDoorJ38
import Derived.ChangeKeysEq
set_option linter.unusedVariables false
set_option maxRecDepth 100000
set_option maxHeartbeats 40000000
namespace Go.Proofs.YtefpailelagbkaaGreatDoor
open Go.RowKit Pl Go.Wk
attribute [local irreducible] WC WL QX WD WDB WP
theorem Qlc: ∀ (x y:List UInt8),(Lib.compareBytes x y<0)↔Op.bytesLess x y=true
 | [],[]=>by simp [Lib.compareBytes,Op.bytesLess]
 | [],_::_=>by simp [Lib.compareBytes,Op.bytesLess]
 | _::_,[]=>by simp [Lib.compareBytes,Op.bytesLess]
 | a::x,b::y=>by
  have ih:=Qlc x y;simp only [Lib.compareBytes,Op.bytesLess];by_cases h:a<b
  ·rw [if_pos h];simp [h]
  ·rw [if_neg h];by_cases h2:b<a
   ·rw [if_pos h2];have:a≠b:=by intro e;subst e;exact h h2
    simp [h,this]
   ·rw [if_neg h2,ih];have:a=b:=by
     apply UInt8.toNat_inj.1
     have h3:¬ a.toNat<b.toNat:=λh'=>h (UInt8.lt_iff_toNat_lt.2 h');have h4:¬ b.toNat<a.toNat:=λh'=>h2 (UInt8.lt_iff_toNat_lt.2 h');omega
    simp [this]
def eqv(a b:V): Bool:=(a.kind == b.kind) && (a.num == b.num) && (a.str.toList == b.str.toList)
theorem V.bytes_eq(a:V): a.str.toList=a.bytes:=by rw [V.bytes,ByteArray.toList_eq]
theorem Qhm(a b:V): eqv a b=true↔a=b:=by
 unfold eqv;simp only [Bool.and_eq_true,beq_iff_eq];constructor
 ·rintro ⟨⟨o,j⟩,i⟩;exact V.ext o j (by rw [<-V.bytes_eq,<-V.bytes_eq,i])
 ·rintro rfl;exact ⟨⟨rfl,rfl⟩,rfl⟩
theorem eqV(a b:V)(w:World): (binOp .eql 71 a.val b.val).run Tryz.prog w=.ok (.bool (eqv a b)) w:=by
 rw [V.val,V.val,run_eql_struct,run_equalIn_agg w 9999 71 _ _ (by kernel_rfl) (by kernel_rfl)];have e:∃ f1 j i:Field,(Tryz.prog.fieldsOf 71).toList=[f1,j,i]/\(f1.name≠"_"/\f1.type=3/\f1.offset=0)/\(j.name≠"_"/\j.type=2/\j.offset=1)/\(i.name≠"_"/\i.type=9/\i.offset=2) :=
  ⟨_,_,_,rfl,⟨by decide,rfl,rfl⟩,⟨by decide,rfl,rfl⟩,⟨by decide,rfl,rfl⟩⟩
 obtain ⟨f1,j,i,h0,⟨n1,J,Z⟩,⟨n2,G,U⟩,⟨n3,D,O⟩⟩:=e;rw [h0];simp only [Op.eqFields,if_pos n1,if_pos n2,if_pos n3,J,G,D,Z,U,O,Sem.run_bind];have C:∀ v:V,(part 3 #[.int .i64 v.kind,.int .i64 v.num,.string v.str] 0).run Tryz.prog w=.ok (.int .i64 v.kind) w:=λv=>run_part_plain w (by kernel_rfl) rfl;have u:∀ v:V,(part 2 #[.int .i64 v.kind,.int .i64 v.num,.string v.str] 1).run Tryz.prog w=.ok (.int .i64 v.num) w:=λv=>run_part_plain w (by kernel_rfl) rfl;have o:∀ v:V,(part 9 #[.int .i64 v.kind,.int .i64 v.num,.string v.str] 2).run Tryz.prog w=.ok (.string v.str) w:=λv=>run_part_plain w (by kernel_rfl) rfl;rw [C a];simp only [Result.andThen_ok];rw [C b];simp only [Result.andThen_ok];rw [run_equalIn_int w 9998 3 .i64 .i64 _ _ (by kernel_rfl)];simp only [Result.andThen_ok];unfold eqv;cases h1:(a.kind == b.kind) with
 | false=>simp
 | true=>
  simp only [Bool.not_true,Bool.false_eq_true,if_false,Bool.true_and,Sem.run_bind];rw [u a];simp only [Result.andThen_ok];rw [u b];simp only [Result.andThen_ok];rw [run_equalIn_int w 9998 2 .i64 .i64 _ _ (by kernel_rfl)];simp only [Result.andThen_ok];cases h2:(a.num == b.num) with
  | false=>simp
  | true=>
   simp only [Bool.not_true,Bool.false_eq_true,if_false,Bool.true_and,Sem.run_bind];rw [o a];simp only [Result.andThen_ok];rw [o b];simp only [Result.andThen_ok];rw [run_equalIn_string w 9998 9 _ _ (by kernel_rfl)];simp only [Result.andThen_ok];cases h3:(a.str.toList == b.str.toList)<;>simp
theorem Qrz(a b:Int): sgn a b<0↔a<b:=by
 unfold sgn;by_cases h:a<b
 ·rw [if_pos h];omega
 ·rw [if_neg h];by_cases h2:b<a
  ·rw [if_pos h2];omega
  ·rw [if_neg h2];omega
def Jtv(a b:V): Bool:=decide (a.kind<b.kind) || ((a.kind == b.kind) && (decide (a.num<b.num) || ((a.num == b.num) && Op.bytesLess a.str.toList b.str.toList)))
theorem Jtt(a b:V): Jtv a b=true↔cmpV a b<0:=by
 unfold Jtv cmpV;by_cases h:a.kind=b.kind
 ·rw [if_neg (not_not_intro h)];by_cases h2:a.num=b.num
  ·rw [if_neg (not_not_intro h2),Qlc,<-V.bytes_eq,<-V.bytes_eq];simp [h,h2]
  ·rw [if_pos h2,Qrz];simp only [h,beq_self_eq_true,Bool.true_and,Int.lt_irrefl,decide_false,Bool.false_or];have:(a.num == b.num)=false:=Qcm h2;rw [this,Bool.false_and,Bool.or_false,decide_eq_true_iff]
 ·rw [if_pos h,Qrz];have:(a.kind == b.kind)=false:=Qcm h;rw [this,Bool.false_and,Bool.or_false,decide_eq_true_iff]
theorem Qym(a b:V)(w:World): Ret Tryz.prog 94 [a.val,b.val] w λr w'=>r=.int .i64 (cmpV a b)/\Ext w w':=by
 refine Jjc Tryz.func94 Tryz.ntmps94 rfl (by kernel_rfl) rfl ?_;refine ρ ?_;refine bx ?_;intro w1 b1 U a3 o;refine ρ ?_;refine bx ?_;intro w2 b2 G a2 C;have o:=o.ext G;have Z:=U.trans G;refine ρ ?_;refine lds (cs:=a.cells) (λj u hu=>o.at hu) ?_;refine ρ ?_;refine lds (cs:=b.cells) (λj u hu=>C.at hu) ?_;refine ρ ?_;refine weqs (by kernel_rfl) (eqV a b w2) ?_;refine ρ ?_;refine ci (λh=>?_) (λh=>?_)
 ·refine ρ ?_;have:=(Qhm a b).1 h;subst this;exact Jjr ⟨by rw [Jqg],Z⟩
 have a1:cmpV a b≠0:=λe=>by
  have:=(Qhm a b).2 (cmp_V.zero _ _ e);rw [h]at this;cases this
 refine ρ ?_;refine Jwr (fun (t:Bool)=>[(40,.bool t)]) (λt w3=>t=Jtv a b/\w3=w2) ?_ ?_
 ·refine ld (o.at (i:=0) rfl) ?_;refine ρ ?_;refine ld (C.at (i:=0) rfl) ?_;refine ρ ?_;refine ki 13 (λD=>?_) (λD=>?_)
  ·refine ρ ?_;exact Jjn true sB ⟨by unfold Jtv;rw [D];rfl,rfl⟩
  refine ρ ?_;refine ld (o.at (i:=0) rfl) ?_;refine ρ ?_;refine ld (C.at (i:=0) rfl) ?_;refine ρ ?_;refine ki 19 (λO=>?_) (λO=>?_)
  ·refine ρ ?_;refine ld (o.at (i:=1) rfl) ?_;refine ρ ?_;refine ld (C.at (i:=1) rfl) ?_;refine ρ ?_;refine ki 25 (λJ=>?_) (λJ=>?_)
   ·refine ρ ?_;exact Jjn true sB ⟨by unfold Jtv;rw [D,O,J];rfl,rfl⟩
   refine ρ ?_;refine ld (o.at (i:=1) rfl) ?_;refine ρ ?_;refine ld (C.at (i:=1) rfl) ?_;refine ρ ?_;refine ki 31 (λh4=>?_) (λh4=>?_)
   ·refine ρ ?_;refine ld (o.at (i:=2) rfl) ?_;refine ρ ?_;refine ld (C.at (i:=2) rfl) ?_;refine ρ ?_;exact Jjn _ sB ⟨by unfold Jtv;rw [D,O,J,h4];rfl,rfl⟩
   ·refine ρ ?_;exact Jjn false sB ⟨by unfold Jtv;rw [D,O,J,h4];rfl,rfl⟩
  ·refine ρ ?_;exact Jjn false sB ⟨by unfold Jtv;rw [D,O];rfl,rfl⟩
 rintro t w3 ⟨rfl,rfl⟩;refine ρ ?_;have J:=Qss a b;refine ci (λh=>?_) (λh=>?_)
 ·have:=(Jtt a b).1 h;refine ρ ?_;refine Jjr ⟨?_,Z⟩;rw [show cmpV a b = -1 by omega]
 ·have:¬ cmpV a b<0:=λh'=>by rw [(Jtt a b).2 h']at h;cases h
  refine ρ ?_;refine Jjr ⟨?_,Z⟩;rw [show cmpV a b=1 by omega]
theorem Qyn{va vb vd:Value}{a b:Row}{ds:List Bool}{w:World}(ha:RowV w va a)(hb:RowV w vb b)(hd:BoolsV w vd ds):
  Ret Tryz.prog 58 [va,vb,vd] w λr w'=>(∃ c:Int,r=.int .i64 c/\(c<0↔Jxg a b ds<0)/\(c=0↔a=b))/\Ext w w':=by
 obtain ⟨A,ac,rfl,ah,ag,ha⟩:=ha;obtain ⟨B,bc,rfl,af,ae,hb⟩:=hb;obtain ⟨D,dc,rfl,ad,ab,hd⟩:=hd;refine Jjc Tryz.func58 Tryz.ntmps58 rfl (by kernel_rfl) rfl ?_;refine ρ ?_;refine Jqw (λk=>[(0,.slice A a.length ac),(1,.slice B b.length bc),(2,.slice D ds.length dc),(7,.int .i64 ((k:Nat):Int))])
  (λk w'=>Ext w w'/\k<=a.length/\k<=b.length/\Jxg a b ds=Jxg (a.drop k) (b.drop k) (ds.drop k)) (λk=>a.length-k) 0 sB ⟨Ext.refl w,Nat.zero_le _,Nat.zero_le _,rfl⟩ ?_
 rintro k w1 ⟨hx,a8,a7,he⟩;have aa:=ha.ext hx;have a9:=hb.ext hx;have U:∀ c:Int,c=Jxg a b ds->(c<0↔Jxg a b ds<0)/\(c=0↔a=b):=λc hc=>by
  subst hc;exact ⟨Iff.rfl,λh=>Jvf _ _ _ h,λh=>by rw [h];exact Jxl _ _⟩
 have Z:(a.length<=k∨b.length<=k)->(((a.length:Int)-(b.length:Int)<0↔Jxg a b ds<0)/\((a.length:Int)-(b.length:Int)=0↔a=b)):=λh=>by
  have e:=Qvh (ds:=ds) h a8 a7;rw [<-he]at e;have hz:Jxg a b ds=0↔a=b:=⟨Jvf _ _ _,λh=>by rw [h];exact Jxl _ _⟩;rw [<-hz,e];rcases Nat.lt_trichotomy a.length b.length with o|o|o
  ·rw [if_pos o];omega
  ·rw [if_neg (by omega),if_neg (by omega)];omega
  ·rw [if_neg (by omega),if_pos o];omega
 refine ρ ?_;refine ki 13 (λh=>?_) (λh=>?_)
 ·have J:k<a.length:=by have:=oT h;omega
  refine ρ ?_;refine ci (λh=>?_) (λh=>?_)
  ·have G:k<b.length:=by have:=oT h;omega
   refine ρ ?_;refine dr [(0,0),(0,1),(0,2),(0,3),(0,4),(0,5),(0,6),(0,7),(1,8),(0,9)] (by kernel_rfl) ?_;have C:Ext w1 w1.drew:=(Ext.refl w1).drew;have a6:=aa.ext C;have a5:=a9.ext C;refine ρd ?_;refine Qpd 3 k a6 J ?_;refine ρd ?_;refine Jws (λj u hu=>RdR.cell a6 J hu) ?_;refine ρd ?_;refine Qpd 3 k a5 G ?_;refine ρd ?_;refine Jws (λj u hu=>RdR.cell a5 G hu) ?_;refine ρd ?_;refine dcl (Qym (a.getD k V0) (b.getD k V0) _) ?_;rintro x w2 ⟨rfl,a2⟩;refine ⟨a2,?_⟩;have i:Ext w w2:=(hx.trans C).trans a2;have a4:=hd.ext i;refine ρd ?_;refine ρ ?_;have step:=Qhz (ds:=ds) J G;have a1:∀ d,neg d (cmpV (a.getD k V0) (b.getD k V0))=0↔cmpV (a.getD k V0) (b.getD k V0)=0:=λd=>by cases d<;>simp [neg]
   refine Jwr (fun (t:Bool)=>[(0,.slice A a.length ac),(1,.slice B b.length bc),(2,.slice D ds.length dc),(7,.int .i64 ((k:Nat):Int)),(8,.int .i64 (cmpV (a.getD k V0) (b.getD k V0))),(39,.bool t)]) (λt w3=>t=ds.getD k false/\w3=w2) ?_ ?_
   ·refine ki 34 (λh=>?_) (λh=>?_)
    ·have a3:k<ds.length:=by have:=oT h;omega
     refine ρ ?_;refine ix k a4 a3 ?_;refine ρ ?_;refine ld (RdB.cell a4 a3) ?_;refine ρ ?_;exact Jjn _ sB ⟨rfl,rfl⟩
    ·have o:ds.getD k false=false:=by
      have:=oF h;simp [List.getD,List.getElem?_eq_none (show ds.length<=k by omega)]
     refine ρ ?_;exact Jjn false sB ⟨o.symm,rfl⟩
   rintro t w3 ⟨rfl,rfl⟩;refine ρ ?_;have more:∀ c:Int,c=neg (ds.getD k false) (cmpV (a.getD k V0) (b.getD k V0))->c≠0->c=Jxg a b ds:=λc hc h0=>by
    rw [he,step,if_neg (λe=>h0 (by rw [hc,e,Xwh]))];exact hc
   refine ci (λo=>?_) (λo=>?_)
   ·refine ρ ?_;rw [Qkc];rw [o]at more;refine ci (λh=>?_) (λh=>?_)
    ·refine ρ ?_;exact Jjr ⟨⟨_,rfl,U _ (more _ rfl (Jwp h))⟩,i⟩
    ·refine ρ ?_;refine Jjx (k+1) sB ⟨i,by omega,by omega,?_⟩ (by omega);rw [he,step,if_pos ((a1 true).1 (Jwq h))]
   ·refine ρ ?_;rw [o]at more;refine ci (λh=>?_) (λh=>?_)
    ·refine ρ ?_;exact Jjr ⟨⟨_,rfl,U _ (more _ rfl (Jwp h))⟩,i⟩
    ·refine ρ ?_;refine Jjx (k+1) sB ⟨i,by omega,by omega,?_⟩ (by omega);rw [he,step,if_pos (Jwq h)]
  ·have O:=Z (by have:=oF h;omega);refine ρ ?_;exact Jjr ⟨⟨_,rfl,O⟩,hx⟩
 ·have O:=Z (by have:=oF h;omega);refine ρ ?_;exact Jjr ⟨⟨_,rfl,O⟩,hx⟩
theorem Xxt{va vb:Value}{a b:Row}{w:World}(ha:RowV w va a)(hb:RowV w vb b):
  Ret Tryz.prog 19 [va,vb] w λr w'=>r=.bool (decide (a=b))/\Ext w w':=by
 obtain ⟨A,O,rfl,D,C,_⟩:=id ha;obtain ⟨B,J,rfl,u,o,_⟩:=id hb;refine Jjc Tryz.func19 Tryz.ntmps19 rfl (by kernel_rfl) rfl ?_;refine ρ ?_;refine ki 10 (λh=>?_) (λh=>?_)
 ·refine ρ ?_;refine cl (Qyn ha hb (BoolsV.nil w none 0)) ?_;rintro x G ⟨⟨c,rfl,_,i⟩,j⟩;refine ρ ?_;refine Jjr ⟨?_,j⟩;rw [show (c == 0)=decide (a=b) by rw [Bool.eq_iff_iff,beq_iff_eq,decide_eq_true_iff,i]]
 ·refine ρ ?_;refine Jjr ⟨?_,Ext.refl w⟩;rw [decide_eq_false (λe=>by subst e;exact (Jqk h) rfl)]
open Go.RowKit Pl Go.Wk
end Go.Proofs.YtefpailelagbkaaGreatDoor
namespace Go.Proofs.YtefpailelagbkaaGreatDoor
open Pl Go.Wk
theorem Jrj{α:Type}: ∀ {l m:List α},l.Nodup->(∀ x∈l,x∈m)->l.length<=m.length
 | [],_,_,_=>Nat.zero_le _
 | x::l,m,hn,hs=>by
  obtain ⟨a,b,rfl⟩:=List.append_of_mem (hs x mC);have hn':=List.nodup_cons.1 hn;have:=Jrj (l:=l) (m:=a++b) hn'.2 λy hy=>by
   have h1:=hs y (List.mem_cons_of_mem _ hy);rcases List.mem_append.1 h1 with h2|h2
   ·exact List.mem_append_left _ h2
   ·rcases List.mem_cons.1 h2 with rfl|h2
    ·exact absurd hy hn'.1
    ·exact List.mem_append_right _ h2
  simp only [List.length_append,List.length_cons]at this ⊢;omega
def Qjv(rs:Nat->List Row): Nat->List (List Row)
 | 0=>[[]]
 | m+1=>(Qjv rs m).flatMap λc=>(rs m).map λr=>c++[r]
theorem Qjt(rs:Nat->List Row): ∀ m,(Qjv rs m).length=Jjz m λi=>(rs i).length
 | 0=>rfl
 | m+1=>by
  rw [Qjv,Jjz,<-Qjt rs m];generalize Qjv rs m=l
  induction l with
  | nil=>simp
  | cons c l ih=>rw [List.flatMap_cons,List.length_append,ih,List.length_map,List.length_cons,Nat.succ_mul,Nat.add_comm]
theorem Qjs{rs:Nat->List Row}(g:Nat->Row): ∀ m,(∀ i,i<m->g i∈rs i)->(List.range m).map g∈Qjv rs m
 | 0,_=>by simp [Qjv]
 | m+1,h=>by
  rw [List.range_succ,List.map_append,Qjv,List.mem_flatMap];refine ⟨_,Qjs g m λi hi=>h i (by omega),?_⟩;exact List.mem_map.2 ⟨g m,h m (by omega),rfl⟩
theorem Qvd{rs:Nat->List Row}{m:Nat}{l:List Row}(F:(Nat->Row)->Row)(hF:∀ g g',(∀ i,i<m->g i=g' i)->F g=F g')(hn:l.Nodup)(h:∀ x∈l,∃ g:Nat->Row,(∀ i,i<m->g i∈rs i)/\x=F g):
  l.length<=Jjz m λi=>(rs i).length:=by
 rw [<-Qjt];have:=Jrj (m:=(Qjv rs m).map λc=>F λi=>c.getD i []) hn λx j=>by
  obtain ⟨g,o,rfl⟩:=h x j;refine List.mem_map.2 ⟨_,Qjs g m o,hF _ _ λi hi=>?_⟩;simp [List.getD,hi]
 rw [List.length_map]at this;exact this
theorem Qgm{ds:List Bool}{l:List Row}(h:Lt ds l): l.Nodup:=h.imp fun {a b} hab e=>by rw [e,Jxl]at hab;omega
def Qxg(m:Nat)(vars:Nat->List Nat)(g:Nat->Row)(v:Nat): V:=match (List.range m).find? λi=>decide (v∈vars i) with
 | some i=>(g i).getD (lv (vars i) v) V0
 | none=>V0
theorem Jlc{m:Nat}{vars:Nat->List Nat}{g g':Nat->Row}(h:∀ i,i<m->g i=g' i)(v:Nat): Qxg m vars g v=Qxg m vars g' v:=by
 unfold Qxg;cases hf:(List.range m).find? λi=>decide (v∈vars i) with
 | none=>rfl
 | some i=>simp only;rw [h i (List.mem_range.1 (List.mem_of_find?_eq_some hf))]
theorem Qkw{m:Nat}{vars:Nat->List Nat}{g:Nat->Row}{v:Nat}{z:Row}(hasc:∀ i,i<m->Jcb (vars i))(hc:∃ i,i<m/\v∈vars i)(h:∀ i,i<m->∀ j,j<(vars i).length->(vars i).getD j 0=v->(g i).getD j V0=z.getD v V0): Qxg m vars g v=z.getD v V0:=by
 unfold Qxg;cases hf:(List.range m).find? λi=>decide (v∈vars i) with
 | none=>
  obtain ⟨i,hi,o⟩:=hc;have:=List.find?_eq_none.1 hf i (List.mem_range.2 hi);simp [o]at this
 | some i=>
  have hi:=List.mem_range.1 (List.mem_of_find?_eq_some hf);have o:v∈vars i:=by simpa using List.find?_some hf
  have:=Jwc (hasc i hi) o;exact h i hi _ this.2.1 this.2.2
theorem Qlq{n m:Nat}{vars:Nat->List Nat}{rs:Nat->List Row}{s:Nat}{l:List Row}(hasc:∀ i,i<m->Jcb (vars i))(hc:∀ v,v<n->∃ i,i<m/\v∈vars i)(hs:s<2^n)(hl:Lt [] l)(h:∀ x∈l,∃ z:Row,z.length=n/\x=pmR (bk s 32) z/\Qrj m vars rs s z): l.length<=Jjz m λi=>(rs i).length:=by
 refine Qvd (F:=λg=>(bk s 32).map (Qxg m vars g)) (λg Z u=>List.map_congr_left λv _=>Jlc u v) (Qgm hl) λx D=>?_;obtain ⟨z,U,rfl,C⟩:=h x D;obtain ⟨g,u⟩:∃ g:Nat->Row,∀ i,i<m->g i∈rs i/\∀ j,j<(vars i).length->s.testBit ((vars i).getD j 0)=true->(g i).getD j V0=z.getD ((vars i).getD j 0) V0:=by
  refine ⟨λi=>if hi:i<m then Classical.choose (C i hi) else [],λi hi=>?_⟩;simp only [hi,dite_true];exact Classical.choose_spec (C i hi)
 refine ⟨g,λi hi=>(u i hi).1,?_⟩;unfold pmR;refine List.map_congr_left λv J=>?_;obtain ⟨G,o⟩:=bk_mem.1 J;refine (Qkw hasc (hc v (Jbj hs o)) λi hi j O e=>?_).symm;have:=(u i hi).2 j O (by rw [e];exact o);rw [e]at this;exact this
section
variable (m:Nat) (vars:Nat->List Nat) (rs:Nat->List Row)
def fitB(vl:List Nat)(r:Row): Bool:=(List.range m).all λi=>(rs i).any λx=>decide (pmR (Jqx (vars i) (Jxq vl &&& Jxq (vars i))) x=pmR (Jqx vl (Jxq vl &&& Jxq (vars i))) r)
def Qhn(v:Nat): List Row:=(List.range m).flatMap λi=>(List.range (vars i).length).flatMap λk=>if (vars i).getD k 0=v then (rs i).map λr=>[r.getD k V0] else []
def valR(v:Nat): List Row:=(Qhn m vars rs v).foldl (Xkv []) []
def Xzz(v:Nat): List V:=(valR m vars rs v).map λr=>r.getD 0 V0
def Qmt(vl:List Nat)(k:Nat)(out:List Row): List Row:=out.flatMap λr=>((Xzz m vars rs (vl.getD k 0)).map λx=>r++[x]).filter (fitB m vars rs (vl.take (k+1)))
def Qrc(vl:List Nat): Nat->List Row
 | 0=>[[]]
 | k+1=>Qmt m vars rs vl k (Qrc vl k)
def Qxs(n:Nat): List Row:=if n=0 then (if fitB m vars rs [] [] then [[]] else []) else Qrc m vars rs (List.range n) n
end
section
variable {n m:Nat} {vars:Nat->List Nat} {rs:Nat->List Row}
theorem Jlv{ds:List Bool}: ∀ (ls:List Row) {done l:List Row},Jvg ds done l->Jvg ds (done++ls) (ls.foldl (Xkv ds) l)
 | [],done,l,h=>by simpa using h
 | r::ls,done,l,h=>by
  rw [List.foldl_cons];have:=Jlv ls (Xjn (r:=r) h);rwa [List.append_assoc]at this
theorem Jgn(v:Nat): Jvg [] (Qhn m vars rs v) (valR m vars rs v):=by
 have:=Jlv (ds:=[]) (Qhn m vars rs v) (done:=[]) (l:=[]) ⟨List.Pairwise.nil,λx=>Iff.rfl⟩;rwa [List.nil_append]at this
theorem enumV_mem{v:Nat}{y:Row}: y∈Qhn m vars rs v↔∃ i,i<m/\∃ k,k<(vars i).length/\(vars i).getD k 0=v/\∃ r∈rs i,y=[r.getD k V0]:=by
 unfold Qhn;simp only [List.mem_flatMap,List.mem_range];constructor
 ·rintro ⟨i,hi,k,o,h⟩;split at h
  ·rename_i e;obtain ⟨r,j,rfl⟩:=List.mem_map.1 h;exact ⟨i,hi,k,o,e,r,j,rfl⟩
  ·cases h
 ·rintro ⟨i,hi,k,o,e,r,j,rfl⟩;exact ⟨i,hi,k,o,by rw [if_pos e];exact List.mem_map.2 ⟨r,j,rfl⟩⟩
theorem valL_mem{v:Nat}{x:V}: x∈Xzz m vars rs v↔∃ i,i<m/\∃ k,k<(vars i).length/\(vars i).getD k 0=v/\∃ r∈rs i,x=r.getD k V0:=by
 unfold Xzz;rw [List.mem_map];constructor
 ·rintro ⟨y,u,rfl⟩;obtain ⟨i,hi,k,o,e,r,j,rfl⟩:=enumV_mem.1 (((Jgn v).2 y).1 u);exact ⟨i,hi,k,o,e,r,j,rfl⟩
 ·rintro ⟨i,hi,k,o,e,r,j,rfl⟩;exact ⟨_,((Jgn v).2 _).2 (enumV_mem.2 ⟨i,hi,k,o,e,r,j,rfl⟩),rfl⟩
theorem Qkh{v:Nat}{y:Row}(hy:y∈valR m vars rs v): ∃ x,y=[x]:=by
 obtain ⟨i,hi,k,o,e,r,j,rfl⟩:=enumV_mem.1 (((Jgn v).2 y).1 hy);exact ⟨_,rfl⟩
theorem Qvx(v:Nat): (Xzz m vars rs v).Nodup:=by
 unfold Xzz List.Nodup;rw [List.pairwise_map];refine List.Pairwise.imp_of_mem (fun {a b} ha hb hab e=>?_) (Jgn (m:=m) (vars:=vars) (rs:=rs) v).1;obtain ⟨x,rfl⟩:=Qkh ha;obtain ⟨y,rfl⟩:=Qkh hb;simp only [List.getD_cons_zero]at e;subst e;rw [Jxl]at hab;omega
theorem Qbr{α β:Type}{f:α->List β}{l:List α}(h1:l.Nodup)(h2:∀ a∈l,(f a).Nodup)(h3:∀ a∈l,∀ b∈l,∀ x,x∈f a->x∈f b->a=b): (l.flatMap f).Nodup:=by
 induction l with
 | nil=>exact List.Pairwise.nil
 | cons a l ih=>
  obtain ⟨G,D⟩:=List.nodup_cons.1 h1;rw [List.flatMap_cons,List.nodup_append];refine ⟨h2 a mC,ih D (λb i=>h2 b (List.mem_cons_of_mem _ i)) (λb i c C=>h3 b (List.mem_cons_of_mem _ i) c (List.mem_cons_of_mem _ C)),λx u y o e=>?_⟩;subst e;obtain ⟨b,i,j⟩:=List.mem_flatMap.1 o;have:=h3 a mC b (List.mem_cons_of_mem _ i) x u j;subst this;exact G i
theorem Qqx{vl:List Nat}{k:Nat}{out:List Row}(h:out.Nodup): (Qmt m vars rs vl k out).Nodup:=by
 unfold Qmt;refine Qbr h (λr _=>?_) λa _ b _ x j i=>?_
 ·refine List.Pairwise.sublist List.filter_sublist ?_;show (List.map _ _).Nodup;unfold List.Nodup;rw [List.pairwise_map];refine (Qvx (m:=m) (vars:=vars) (rs:=rs) (vl.getD k 0)).imp fun {x y} hxy e=>hxy ?_
  have:=List.append_cancel_left e;simpa using this
 ·obtain ⟨u,D,rfl⟩:=List.mem_map.1 (List.mem_filter.1 j).1;obtain ⟨o,C,e⟩:=List.mem_map.1 (List.mem_filter.1 i).1;have:=congrArg List.dropLast e;simpa using this.symm
theorem Jpj(vl:List Nat): ∀ k,(Qrc m vars rs vl k).Nodup
 | 0=>by simp [Qrc]
 | k+1=>Qqx (Jpj vl k)
def Qrh(m:Nat)(vars:Nat->List Nat)(rs:Nat->List Row)(k:Nat)(z:Row): Prop:=∀ i,i<m->∃ x∈rs i,∀ j,j<(vars i).length->(vars i).getD j 0<k->x.getD j V0=z.getD ((vars i).getD j 0) V0
theorem Jnp{n i:Nat}(h:i<n): (List.range n).getD i 0=i:=by simp [List.getD,h]
theorem Qcf(k s:Nat): Jqx (List.range k) s=(List.range k).filter λu=>s.testBit u:=by
 unfold Jqx;rw [List.length_range];exact List.filter_congr λu i=>by rw [Jnp (List.mem_range.1 i)]
theorem Qcq{l:List Nat}{k:Nat}{p:Nat->Bool}(ha:Jcb l)(hp:∀ u,p u=true↔u∈l): (List.range k).filter p=l.filter λu=>decide (u<k):=by
 have key:∀ {a b:List Nat},Jcb a->Jcb b->(∀ u,u∈a↔u∈b)->a=b:=by
  intro a;induction a with
  | nil=>
   intro b _ _ h;cases b with
   | nil=>rfl
   | cons y b=>have:=(h y).2 mC;cases this
  | cons x a ih=>
   intro b ha D h;cases b with
   | nil=>have:=(h x).1 mC;cases this
   | cons y b=>
    obtain ⟨C,U⟩:=List.pairwise_cons.1 ha;obtain ⟨o,O⟩:=List.pairwise_cons.1 D;have j:x=y:=by
     have J:=(h x).1 mC;have G:=(h y).2 mC;rcases List.mem_cons.1 J with h3|h3
     ·exact h3
     ·rcases List.mem_cons.1 G with h4|h4
      ·exact h4.symm
      ·have:=C y h4;have:=o x h3;omega
    subst j;rw [ih U O λu=>?_];constructor
    ·intro i;rcases List.mem_cons.1 ((h u).1 (List.mem_cons_of_mem _ i)) with h3|h3
     ·subst h3;have:=C u i;omega
     ·exact h3
    ·intro i;rcases List.mem_cons.1 ((h u).2 (List.mem_cons_of_mem _ i)) with h3|h3
     ·subst h3;have:=o u i;omega
     ·exact h3
 refine key (List.Pairwise.sublist List.filter_sublist List.pairwise_lt_range) (List.Pairwise.sublist List.filter_sublist ha) λu=>?_;simp only [List.mem_filter,List.mem_range,decide_eq_true_eq,hp];exact ⟨λh=>⟨h.2,h.1⟩,λh=>⟨h.2,h.1⟩⟩
theorem Jrw(hasc:∀ i,i<m->Jcb (vars i))(hlen:∀ i,i<m->∀ r∈rs i,r.length=(vars i).length)(k:Nat)(z:Row): fitB m vars rs (List.range k) z=true↔Qrh m vars rs k z:=by
 unfold fitB Qrh;simp only [List.all_eq_true,List.mem_range,List.any_eq_true,decide_eq_true_eq];refine ⟨λh i hi=>?_,λh i hi=>?_⟩;all_goals
  have o:∀ u,(Jxq (List.range k) &&& Jxq (vars i)).testBit u=true↔u<k/\u∈vars i:=λu=>by
   rw [Nat.testBit_and,Bool.and_eq_true,edgeOf_bit,edgeOf_bit,List.mem_range]
  obtain ⟨x,J,e⟩:=h i hi;refine ⟨x,J,?_⟩;have O:Jqx (List.range k) (Jxq (List.range k) &&& Jxq (vars i))=inS (vars i) (Jxq (List.range k) &&& Jxq (vars i)):=by
   rw [Qcf];have:(List.range k).filter (λu=>(Jxq (List.range k) &&& Jxq (vars i)).testBit u)=(List.range k).filter λu=>decide (u∈vars i):=List.filter_congr λu G=>by
    rw [Bool.eq_iff_iff,o u,decide_eq_true_eq];exact ⟨λh=>h.2,λh=>⟨List.mem_range.1 G,h⟩⟩
   rw [this,Qcq (hasc i hi) λu=>by simp];unfold inS;refine List.filter_congr λu G=>?_;rw [Bool.eq_iff_iff,o u,decide_eq_true_eq];exact ⟨λh=>⟨h,G⟩,λh=>h.1⟩
  have D:=Qzj (vars:=vars i) (s:=Jxq (List.range k) &&& Jxq (vars i)) (r:=x) (z:=z) (hlen i hi x J) (vars i).length (Nat.le_refl _);rw [List.take_length]at D;have e3:Jyb (vars i) (Jxq (List.range k) &&& Jxq (vars i)) (vars i).length=Jqx (vars i) (Jxq (List.range k) &&& Jxq (vars i)):=rfl;rw [e3]at D
 ·rw [O]at e;intro j C U;exact D.1 e j C ((o _).2 ⟨U,getD_mem' 0 _ C⟩)
 ·rw [O];exact D.2 λj C Z=>e j C ((o _).1 Z).1
theorem Qhf{k l:Nat}{z:Row}(hkl:k<=l): Qrh m vars rs k (z.take l)↔Qrh m vars rs k z:=by
 unfold Qrh;refine forall_congr' λi=>forall_congr' λhi=>exists_congr λx=>and_congr_right λu=>forall_congr' λj=>forall_congr' λC=>?_;refine ⟨λh o=>?_,λh o=>?_⟩
 ·have:=h o;rwa [Pl.getD_take V0 (by omega)]at this
 ·rw [Pl.getD_take V0 (by omega)];exact h o
theorem Jsk(hasc:∀ i,i<m->Jcb (vars i))(hlen:∀ i,i<m->∀ r∈rs i,r.length=(vars i).length)(hn:∀ v,v<n->∃ i,i<m/\v∈vars i): ∀ k,k<=n->∀ z:Row,z∈Qrc m vars rs (List.range n) k↔z.length=k/\(k=0∨Qrh m vars rs k z)
 | 0,_,z=>by
  rw [Qrc,List.mem_singleton];exact ⟨λh=>by subst h;exact ⟨rfl,.inl rfl⟩,λh=>List.eq_nil_of_length_eq_zero h.1⟩
 | k+1,hk,z=>by
  have ih:=Jsk hasc hlen hn k (by omega);rw [Qrc];unfold Qmt;rw [Jnp (by omega),Qyr (by omega)];simp only [List.mem_flatMap,List.mem_filter,List.mem_map];constructor
  ·rintro ⟨r,hr,⟨x,hx,rfl⟩,hf⟩;have h1:=(ih r).1 hr;exact ⟨by simp [h1.1],.inr ((Jrw hasc hlen (k+1) _).1 hf)⟩
  ·rintro ⟨hl,h⟩;have hf:Qrh m vars rs (k+1) z:=h.resolve_left (by omega);have hz:z=z.take k++[z.getD k V0]:=Qfd V0 hl;refine ⟨z.take k,(ih _).2 ⟨by rw [List.length_take];omega,?_⟩,⟨z.getD k V0,?_,hz.symm⟩,(Jrw hasc hlen (k+1) _).2 hf⟩
   ·refine .inr ((Qhf (Nat.le_refl _)).2 λi hi=>?_);obtain ⟨x,hx,h1⟩:=hf i hi;exact ⟨x,hx,λj hj hjk=>h1 j hj (by omega)⟩
   ·obtain ⟨i,hi,hv⟩:=hn k (by omega);obtain ⟨x,hx,h1⟩:=hf i hi;have h2:=Jwc (hasc i hi) hv;refine valL_mem.2 ⟨i,hi,_,h2.2.1,h2.2.2,x,hx,?_⟩;have:=h1 _ h2.2.1 (by rw [h2.2.2];omega);rw [h2.2.2]at this;exact this.symm
theorem Qcp(hasc:∀ i,i<m->Jcb (vars i))(hlen:∀ i,i<m->∀ r∈rs i,r.length=(vars i).length)(hn:∀ v,v<n->∃ i,i<m/\v∈vars i){k:Nat}(hk:k<=n): (Qrc m vars rs (List.range n) k).length<=max 1 (Jjz m λi=>(rs i).length):=by
 by_cases h0:k=0
 ·subst h0;simp only [Qrc,List.length_singleton];omega
 ·refine nL (Qvd (F:=λg=>(List.range k).map (Qxg m vars g)) (λg g' o=>List.map_congr_left λv _=>Jlc o v) (Jpj _ k) λx D=>?_) (Nat.le_max_right _ _);obtain ⟨Z,U⟩:=(Jsk hasc hlen hn k hk x).1 D;have C:Qrh m vars rs k x:=U.resolve_left h0;obtain ⟨g,o⟩:∃ g:Nat->Row,∀ i,i<m->g i∈rs i/\∀ j,j<(vars i).length->(vars i).getD j 0<k->(g i).getD j V0=x.getD ((vars i).getD j 0) V0:=by
   refine ⟨λi=>if hi:i<m then Classical.choose (C i hi) else [],λi hi=>?_⟩;simp only [hi,dite_true];exact Classical.choose_spec (C i hi)
  refine ⟨g,λi hi=>(o i hi).1,?_⟩;apply List.ext_getElem
  ·simp [Z]
  ·intro v u G;have J:=Qkw (g:=g) (z:=x) hasc (hn v (by omega)) λi hi j O e=>by
    have:=(o i hi).2 j O (by omega);rw [e]at this;exact this
   rw [List.getElem_map,List.getElem_range,J];simp [List.getD,u]
theorem Jtx(hasc:∀ i,i<m->Jcb (vars i))(hlen:∀ i,i<m->∀ r∈rs i,r.length=(vars i).length)(hlt:∀ i,i<m->∀ v∈vars i,v<n)(hn:∀ v,v<n->∃ i,i<m/\v∈vars i)(z:Row): z∈Qxs m vars rs n↔Jst n m vars rs z:=by
 have key:z.length=n->(Qrh m vars rs n z↔∀ i,i<m->pmR (vars i) z∈rs i):=λu=>by
  constructor
  ·intro h i hi;obtain ⟨x,G,D⟩:=h i hi;have:pmR (vars i) z=x:=by
    apply List.ext_getElem
    ·rw [Jxb,hlen i hi x G]
    ·intro j o Z;rw [Jxb]at o;have U:(vars i).getD j 0<n:=hlt i hi _ (getD_mem' 0 _ o);have J:=D j o U;have e1:(vars i).getD j 0=(vars i)[j]:=by simp [List.getD,o]
     have e2:x.getD j V0=x[j]:=by simp [List.getD,Z]
     rw [e1,e2]at J;simp only [pmR,List.getElem_map];exact J.symm
   rw [this];exact G
  ·intro h i hi;refine ⟨_,h i hi,λj O _=>?_⟩;unfold pmR;simp [List.getD,O]
 unfold Qxs Jst;split
 ·rename_i h0;subst h0;have C:=Jrw (vars:=vars) (rs:=rs) hasc hlen 0 [];rw [List.range_zero]at C;constructor
  ·intro h;split at h
   ·rename_i hb;rw [List.mem_singleton.1 h];exact ⟨rfl,(by have:=key;rw [List.mem_singleton.1 h]at this;exact (this rfl).1 (C.1 hb))⟩
   ·cases h
  ·rintro ⟨D,o⟩;have u:z=[]:=List.eq_nil_of_length_eq_zero D;subst u;rw [if_pos (C.2 ((key rfl).2 o))];exact List.mem_singleton.2 rfl
 ·rename_i h0;rw [Jsk hasc hlen hn n (Nat.le_refl _) z];exact and_congr_right λu=>⟨λh=>(key u).1 (h.resolve_left h0),λh=>.inr ((key u).2 h)⟩
theorem Qgr(hasc:∀ i,i<m->Jcb (vars i))(hlen:∀ i,i<m->∀ r∈rs i,r.length=(vars i).length)(hn:∀ v,v<n->∃ i,i<m/\v∈vars i): (Qxs m vars rs n).length<=max 1 (Jjz m λi=>(rs i).length):=by
 unfold Qxs;split
 ·split<;>simp<;>omega
 ·exact Qcp hasc hlen hn (Nat.le_refl _)
end
open Go.RowKit Pl Go.Wk
attribute [local irreducible] WC WL QX WD WDB WP WN WG WH
structure RInM(w:World)(VA RA:Option Addr)(m:Nat)(vars:Nat->List Nat)(rs:Nat->List Row): Prop where
 v:∃ cs,Rd w 1 VA m cs/\∀ i,i<m->∃ u,cs[i]?=some u/\IntsV w u (nz (vars i))
 r:∃ cs,Rd w 1 RA m cs/\∀ i,i<m->∃ u,cs[i]?=some u/\RowsV w u (rs i)
structure RefP(n m:Nat)(vars:Nat->List Nat)(rs:Nat->List Row): Prop where
 n32:n<=32
 m32:m<=32
 asc:∀ i,i<m->Jcb (vars i)
 lt:∀ i,i<m->∀ v∈vars i,v<n
 len:∀ i,i<m->∀ r∈rs i,r.length=(vars i).length
 cov:∀ v,v<n->∃ i,i<m/\v∈vars i
 cnt:max 1 (Jjz m λi=>(rs i).length)<=5000
 row:∀ i,i<m->(rs i).length<=10
section
variable {n f:Int} {pA VA RA:Option Addr} {pn pc vc rc N m:Nat} {vars:Nat->List Nat} {rs:Nat->List Row} {w:World}
end
open Go.RowKit Pl Go.Wk
attribute [local irreducible] WM
def ansF(m:Nat)(vars:Nat->List Nat)(rs:Nat->List Row)(n f:Nat)(ds:List Bool): List Row:=((Qxs m vars rs n).map (List.take f)).foldl (Xkv ds) []
theorem Qvr(m:Nat)(vars:Nat->List Nat)(rs:Nat->List Row)(n f:Nat)(ds:List Bool): Jvg ds ((Qxs m vars rs n).map (List.take f)) (ansF m vars rs n f ds):=by
 have:=Jlv (ds:=ds) ((Qxs m vars rs n).map (List.take f)) (done:=[]) (l:=[]) ⟨List.Pairwise.nil,λx=>Iff.rfl⟩;rwa [List.nil_append]at this
section
variable {n f:Int} {pA VA RA:Option Addr} {pn pc vc rc N m:Nat} {vars:Nat->List Nat} {rs:Nat->List Row} {w:World}
end
open Go.RowKit Pl Go.Wk
def Xys(w:World)(v:Value)(zss:List (List Int)): Prop:=∃ A c cs,v=.slice A zss.length c/\zss.length<=c/\zss.length<=1100000/\Rd w 1 A zss.length cs/\∀ i,i<zss.length->∃ u,cs[i]?=some u/\IntsV w u (zss.getD i [])
def Xym(w:World)(v:Value)(rss:List (List Row)): Prop:=∃ A c cs,v=.slice A rss.length c/\rss.length<=c/\rss.length<=1100000/\Rd w 1 A rss.length cs/\∀ i,i<rss.length->∃ u,cs[i]?=some u/\RowsV w u (rss.getD i [])
structure Cse where
 n: Int
 f:Int
 ds:List Bool
 pm:List Int
 vs:List (List Int)
 rss:List (List Row)
def CseV(w:World)(cs:List Value)(c:Cse): Prop:=∃ dA dc pA pc vA vc rA rc,cs=[.int .i64 c.n,.int .i64 c.f,.slice dA c.ds.length dc,.slice pA c.pm.length pc,.slice vA c.vs.length vc,.slice rA c.rss.length rc] /\
 BoolsV w (.slice dA c.ds.length dc) c.ds/\IntsV w (.slice pA c.pm.length pc) c.pm/\Xys w (.slice vA c.vs.length vc) c.vs/\Xym w (.slice rA c.rss.length rc) c.rss/\(-9223372036854775808<=c.n/\c.n<=9223372036854775807)/\(-9223372036854775808<=c.f/\c.f<=9223372036854775807)
structure FewP(c:Cse): Prop where
 row:∀ i,i<c.rss.length->(c.rss.getD i []).length<=10
 cnt:(Jjz c.rss.length λi=>max 1 (c.rss.getD i []).length)<=5000
 n6:c.n<=6∨32<c.n
 v5:c.vs.length<=5
 r5:c.rss.length<=5
structure FewS(c:Cse): Prop where
 row:∀ i,i<c.rss.length->(c.rss.getD i []).length<=10
 cnt:(Jjz c.rss.length λi=>max 1 (c.rss.getD i []).length)<=5000
 n6:c.n<=6
 v5:c.vs.length<=5
 r5:c.rss.length<=5
 v8:∀ i,i<c.vs.length->(c.vs.getD i []).length<=8
 d10:c.ds.length<=10
 p10:c.pm.length<=10
end Go.Proofs.YtefpailelagbkaaGreatDoor
