/- Part 40. -/
import Derived.Test.YtebcagekopgdhaaGreatDoorB37
import Derived.ChangeKeysEq
set_option linter.unusedVariables false
set_option maxRecDepth 100000
set_option maxHeartbeats 40000000
namespace Go.Proofs.YtebcagekopgdhaaGreatDoor
open Go.RowKit Pl Go.Wk
attribute [local irreducible] WC WL QX WD WDB WP
theorem Qjv: ∀ (x y:List UInt8),(Lib.compareBytes x y<0)↔Op.bytesLess x y=true
 | [],[]=>by simp [Lib.compareBytes,Op.bytesLess]
 | [],_::_=>by simp [Lib.compareBytes,Op.bytesLess]
 | _::_,[]=>by simp [Lib.compareBytes,Op.bytesLess]
 | a::x,b::y=>by
  have ih:=Qjv x y;simp only [Lib.compareBytes,Op.bytesLess];by_cases h:a<b
  .rw [if_pos h];simp [h]
  .rw [if_neg h];by_cases h2:b<a
   .rw [if_pos h2];have:a≠b:=by intro e;subst e;exact h h2
    simp [h,this]
   .rw [if_neg h2,ih];have:a=b:=by
     apply UInt8.toNat_inj.1
     have h3:¬ a.toNat<b.toNat:=λh'=>h (UInt8.lt_iff_toNat_lt.2 h');have h4:¬ b.toNat<a.toNat:=λh'=>h2 (UInt8.lt_iff_toNat_lt.2 h');omega
    simp [this]
def eqv(a b:V): Bool:=(a.kind == b.kind) && (a.num == b.num) && (a.str.toList == b.str.toList)
theorem V.bytes_eq(a:V): a.str.toList=a.bytes:=by rw [V.bytes,ByteArray.toList_eq]
theorem Jtg(a b:V): eqv a b=true↔a=b:=by
 unfold eqv;simp only [Bool.and_eq_true,beq_iff_eq];constructor
 .rintro ⟨⟨C,u⟩,o⟩;exact V.ext C u (by rw [<-V.bytes_eq,<-V.bytes_eq,o])
 .rintro rfl;exact ⟨⟨rfl,rfl⟩,rfl⟩
theorem eqV(a b:V)(w:World): (binOp .eql 47 a.val b.val).run Tryz.prog w=.ok (.bool (eqv a b)) w:=by
 rw [V.val,V.val,run_eql_struct,run_equalIn_agg w 9999 47 _ _ kr kr];have e:∃ f1 u o:Field,(Tryz.prog.fieldsOf 47).toList=[f1,u,o]/\(f1.name≠"_"/\f1.type=3/\f1.offset=0)/\(u.name≠"_"/\u.type=2/\u.offset=1)/\(o.name≠"_"/\o.type=9/\o.offset=2) :=
  ⟨_,_,_,rfl,⟨by decide,rfl,rfl⟩,⟨by decide,rfl,rfl⟩,⟨by decide,rfl,rfl⟩⟩
 obtain ⟨f1,u,o,h0,⟨n1,Z,o1⟩,⟨n2,U,o2⟩,⟨n3,O,o3⟩⟩:=e;rw [h0];simp only [Op.eqFields,if_pos n1,if_pos n2,if_pos n3,Z,U,O,o1,o2,o3,Sem.run_bind];have J:∀ v:V,(part 3 #[.int .i64 v.kind,.int .i64 v.num,.string v.str] 0).run Tryz.prog w=.ok (.int .i64 v.kind) w:=λv=>run_part_plain w kr rfl;have G:∀ v:V,(part 2 #[.int .i64 v.kind,.int .i64 v.num,.string v.str] 1).run Tryz.prog w=.ok (.int .i64 v.num) w:=λv=>run_part_plain w kr rfl;have C:∀ v:V,(part 9 #[.int .i64 v.kind,.int .i64 v.num,.string v.str] 2).run Tryz.prog w=.ok (.string v.str) w:=λv=>run_part_plain w kr rfl;rw [J a];simp only [Result.andThen_ok];rw [J b];simp only [Result.andThen_ok];rw [run_equalIn_int w 9998 3 .i64 .i64 _ _ kr];simp only [Result.andThen_ok];unfold eqv;cases h1:(a.kind == b.kind) with
 | false=>simp
 | true=>
  simp only [Bool.not_true,Bool.false_eq_true,if_false,Bool.true_and,Sem.run_bind];rw [G a];simp only [Result.andThen_ok];rw [G b];simp only [Result.andThen_ok];rw [run_equalIn_int w 9998 2 .i64 .i64 _ _ kr];simp only [Result.andThen_ok];cases h2:(a.num == b.num) with
  | false=>simp
  | true=>
   simp only [Bool.not_true,Bool.false_eq_true,if_false,Bool.true_and,Sem.run_bind];rw [C a];simp only [Result.andThen_ok];rw [C b];simp only [Result.andThen_ok];rw [run_equalIn_string w 9998 9 _ _ kr];simp only [Result.andThen_ok];cases h3:(a.str.toList == b.str.toList)<;>simp
theorem Jmk(a b:Int): sgn a b<0↔a<b:=by
 unfold sgn;by_cases h:a<b
 .rw [if_pos h];omega
 .rw [if_neg h];by_cases h2:b<a
  .rw [if_pos h2];omega
  .rw [if_neg h2];omega
def Kw(a b:V): Bool:=decide (a.kind<b.kind) || ((a.kind == b.kind) && (decide (a.num<b.num) || ((a.num == b.num) && Op.bytesLess a.str.toList b.str.toList)))
theorem Jrq(a b:V): Kw a b=true↔cmpV a b<0:=by
 unfold Kw cmpV;by_cases h:a.kind=b.kind
 .rw [if_neg (not_not_intro h)];by_cases h2:a.num=b.num
  .rw [if_neg (not_not_intro h2),Qjv,<-V.bytes_eq,<-V.bytes_eq];simp [h,h2]
  .rw [if_pos h2,Jmk];simp only [h,beq_self_eq_true,Bool.true_and,Int.lt_irrefl,decide_false,Bool.false_or];have:(a.num == b.num)=false:=Jxk h2;rw [this,Bool.false_and,Bool.or_false,decide_eq_true_iff]
 .rw [if_pos h,Jmk];have:(a.kind == b.kind)=false:=Jxk h;rw [this,Bool.false_and,Bool.or_false,decide_eq_true_iff]
theorem Qyn(a b:V)(w:World): Ret Tryz.prog 68 [a.val,b.val] w λr w'=>r=.int .i64 (cmpV a b)/\Ext w w':=by
 refine Jz Tryz.func68 Tryz.ntmps68 rfl kr rfl ?_;refine ρ ?_;refine bx ?_;intro w1 b1 Z a3 o;refine ρ ?_;refine bx ?_;intro w2 b2 J a2 C;have o:=o.ext J;have hx:=Z.trans J;refine ρ ?_;refine lds (cs:=a.cells) (λj u hu=>o.at hu) ?_;refine ρ ?_;refine lds (cs:=b.cells) (λj u hu=>C.at hu) ?_;refine ρ ?_;refine weqs kr (eqV a b w2) ?_;refine ρ ?_;refine ci (λh=>?_) (λh=>?_)
 .refine ρ ?_;have:=(Jtg a b).1 h;subst this;exact Jj ⟨by rw [Zv],hx⟩
 have a1:cmpV a b≠0:=λe=>by
  have:=(Jtg a b).2 (cmp_V.zero _ _ e);rw [h]at this;cases this
 refine ρ ?_;refine Vm (fun (t:Bool)=>[(40,.bool t)]) (λt w3=>t=Kw a b/\w3=w2) ?_ ?_
 .refine ld (o.at (i:=0) rfl) ?_;refine ρ ?_;refine ld (C.at (i:=0) rfl) ?_;refine ρ ?_;refine ki 13 (λG=>?_) (λG=>?_)
  .refine ρ ?_;exact Jb true sB ⟨by unfold Kw;rw [G];rfl,rfl⟩
  refine ρ ?_;refine ld (o.at (i:=0) rfl) ?_;refine ρ ?_;refine ld (C.at (i:=0) rfl) ?_;refine ρ ?_;refine ki 19 (λU=>?_) (λU=>?_)
  .refine ρ ?_;refine ld (o.at (i:=1) rfl) ?_;refine ρ ?_;refine ld (C.at (i:=1) rfl) ?_;refine ρ ?_;refine ki 25 (λO=>?_) (λO=>?_)
   .refine ρ ?_;exact Jb true sB ⟨by unfold Kw;rw [G,U,O];rfl,rfl⟩
   refine ρ ?_;refine ld (o.at (i:=1) rfl) ?_;refine ρ ?_;refine ld (C.at (i:=1) rfl) ?_;refine ρ ?_;refine ki 31 (λh4=>?_) (λh4=>?_)
   .refine ρ ?_;refine ld (o.at (i:=2) rfl) ?_;refine ρ ?_;refine ld (C.at (i:=2) rfl) ?_;refine ρ ?_;exact Jb _ sB ⟨by unfold Kw;rw [G,U,O,h4];rfl,rfl⟩
   .refine ρ ?_;exact Jb false sB ⟨by unfold Kw;rw [G,U,O,h4];rfl,rfl⟩
  .refine ρ ?_;exact Jb false sB ⟨by unfold Kw;rw [G,U];rfl,rfl⟩
 rintro t w3 ⟨rfl,rfl⟩;refine ρ ?_;have O:=Qjc a b;refine ci (λh=>?_) (λh=>?_)
 .have:=(Jrq a b).1 h;refine ρ ?_;refine Jj ⟨?_,hx⟩;rw [show cmpV a b = -1 by omega]
 .have:¬ cmpV a b<0:=λh'=>by rw [(Jrq a b).2 h']at h;cases h
  refine ρ ?_;refine Jj ⟨?_,hx⟩;rw [show cmpV a b=1 by omega]
theorem Jnj{va vb vd:Value}{a b:Row}{ds:List Bool}{w:World}(ha:RowV w va a)(hb:RowV w vb b)(hd:BoolsV w vd ds):
  Ret Tryz.prog 30 [va,vb,vd] w λr w'=>(∃ c:Int,r=.int .i64 c/\(c<0↔Jw a b ds<0)/\(c=0↔a=b))/\Ext w w':=by
 obtain ⟨A,ac,rfl,ai,ah,ha⟩:=ha;obtain ⟨B,bc,rfl,ag,af,hb⟩:=hb;obtain ⟨D,dc,rfl,ae,ad,hd⟩:=hd;refine Jz Tryz.func30 Tryz.ntmps30 rfl kr rfl ?_;refine ρ ?_;refine Qd (λk=>[(0,.slice A a.length ac),(1,.slice B b.length bc),(2,.slice D ds.length dc),(7,.int .i64 ((k:Nat):Int))])
  (λk w'=>Ext w w'/\k<=a.length/\k<=b.length/\Jw a b ds=Jw (a.drop k) (b.drop k) (ds.drop k)) (λk=>a.length-k) 0 sB ⟨Ext.refl w,Nat.zero_le _,Nat.zero_le _,rfl⟩ ?_
 rintro k w1 ⟨hx,a9,a8,he⟩;have ab:=ha.ext hx;have aa:=hb.ext hx;have Z:∀ c:Int,c=Jw a b ds->(c<0↔Jw a b ds<0)/\(c=0↔a=b):=λc hc=>by
  subst hc;exact ⟨Iff.rfl,λh=>Jxc _ _ _ h,λh=>by rw [h];exact Vo _ _⟩
 have a1:(a.length<=k∨b.length<=k)->(((a.length:Int)-(b.length:Int)<0↔Jw a b ds<0)/\((a.length:Int)-(b.length:Int)=0↔a=b)):=λh=>by
  have e:=Qjh (ds:=ds) h a9 a8;rw [<-he]at e;have hz:Jw a b ds=0↔a=b:=⟨Jxc _ _ _,λh=>by rw [h];exact Vo _ _⟩;rw [<-hz,e];rcases Nat.lt_trichotomy a.length b.length with C|C|C
  .rw [if_pos C];omega
  .rw [if_neg om,if_neg om];omega
  .rw [if_neg om,if_pos C];omega
 refine ρ ?_;refine ki 13 (λh=>?_) (λh=>?_)
 .have O:k<a.length:=by have:=oT h;omega
  refine ρ ?_;refine ci (λh=>?_) (λh=>?_)
  .have J:k<b.length:=by have:=oT h;omega
   refine ρ ?_;refine dr [(0,0),(0,1),(0,2),(0,3),(0,4),(0,5),(0,6),(0,7),(1,8),(0,9)] kr ?_;have G:Ext w1 w1.drew:=(Ext.refl w1).drew;have a7:=ab.ext G;have a6:=aa.ext G;refine ρd ?_;refine Gs 3 k a7 O ?_;refine ρd ?_;refine Qk (λj u hu=>RdR.cell a7 O hu) ?_;refine ρd ?_;refine Gs 3 k a6 J ?_;refine ρd ?_;refine Qk (λj u hu=>RdR.cell a6 J hu) ?_;refine ρd ?_;refine dcl (Qyn (a.getD k V0) (b.getD k V0) _) ?_;rintro x w2 ⟨rfl,a3⟩;refine ⟨a3,?_⟩;have o:Ext w w2:=(hx.trans G).trans a3;have a5:=hd.ext o;refine ρd ?_;refine ρ ?_;have step:=Qjl (ds:=ds) O J;have a2:∀ d,neg d (cmpV (a.getD k V0) (b.getD k V0))=0↔cmpV (a.getD k V0) (b.getD k V0)=0:=λd=>by cases d<;>simp [neg]
   refine Vm (fun (t:Bool)=>[(0,.slice A a.length ac),(1,.slice B b.length bc),(2,.slice D ds.length dc),(7,.int .i64 ((k:Nat):Int)),(8,.int .i64 (cmpV (a.getD k V0) (b.getD k V0))),(39,.bool t)]) (λt w3=>t=ds.getD k false/\w3=w2) ?_ ?_
   .refine ki 34 (λh=>?_) (λh=>?_)
    .have a4:k<ds.length:=by have:=oT h;omega
     refine ρ ?_;refine ix k a5 a4 ?_;refine ρ ?_;refine ld (RdB.cell a5 a4) ?_;refine ρ ?_;exact Jb _ sB ⟨rfl,rfl⟩
    .have C:ds.getD k false=false:=by
      have:=oF h;simp [List.getD,List.getElem?_eq_none (show ds.length<=k by omega)]
     refine ρ ?_;exact Jb false sB ⟨C.symm,rfl⟩
   rintro t w3 ⟨rfl,rfl⟩;refine ρ ?_;have more:∀ c:Int,c=neg (ds.getD k false) (cmpV (a.getD k V0) (b.getD k V0))->c≠0->c=Jw a b ds:=λc hc h0=>by
    rw [he,step,if_neg (λe=>h0 (by rw [hc,e,Jpt]))];exact hc
   refine ci (λC=>?_) (λC=>?_)
   .refine ρ ?_;rw [Jgs];rw [C]at more;refine ci (λh=>?_) (λh=>?_)
    .refine ρ ?_;exact Jj ⟨⟨_,rfl,Z _ (more _ rfl (Gf h))⟩,o⟩
    .refine ρ ?_;refine Qw (k+1) sB ⟨o,om,om,?_⟩ om;rw [he,step,if_pos ((a2 true).1 (Gg h))]
   .refine ρ ?_;rw [C]at more;refine ci (λh=>?_) (λh=>?_)
    .refine ρ ?_;exact Jj ⟨⟨_,rfl,Z _ (more _ rfl (Gf h))⟩,o⟩
    .refine ρ ?_;refine Qw (k+1) sB ⟨o,om,om,?_⟩ om;rw [he,step,if_pos (Gg h)]
  .have U:=a1 (by have:=oF h;omega);refine ρ ?_;exact Jj ⟨⟨_,rfl,U⟩,hx⟩
 .have U:=a1 (by have:=oF h;omega);refine ρ ?_;exact Jj ⟨⟨_,rfl,U⟩,hx⟩
theorem Jmm{va vb:Value}{a b:Row}{w:World}(ha:RowV w va a)(hb:RowV w vb b):
  Ret Tryz.prog 29 [va,vb] w λr w'=>r=.bool (decide (a=b))/\Ext w w':=by
 obtain ⟨A,ac,rfl,O,J,_⟩:=id ha;obtain ⟨B,Z,rfl,G,C,_⟩:=id hb;refine Jz Tryz.func29 Tryz.ntmps29 rfl kr rfl ?_;refine ρ ?_;refine ki 10 (λh=>?_) (λh=>?_)
 .refine ρ ?_;refine cl (Jnj ha hb (BoolsV.nil w none 0)) ?_;rintro x U ⟨⟨c,rfl,_,o⟩,u⟩;refine ρ ?_;refine Jj ⟨?_,u⟩;rw [show (c == 0)=decide (a=b) by rw [Bool.eq_iff_iff,beq_iff_eq,decide_eq_true_iff,o]]
 .refine ρ ?_;refine Jj ⟨?_,Ext.refl w⟩;rw [decide_eq_false (λe=>by subst e;exact (Xg h) rfl)]
open Go.RowKit Pl Go.Wk
theorem RowV.ones{w:World}{ps:List Pr}(h:∀ p∈ps,RowV w p.1 p.2): ∀ u∈ps.map (·.1),u.oneCell'=true:=by
 intro u o;obtain ⟨p,C,rfl⟩:=List.mem_map.1 o;exact (h p C).one
theorem Qcl{w w0:World}{e sz m:Nat}{v:Value}{xs:List Value}(h:w.ownsRow w0.heap.size e sz v m xs): Fresh w0 v:=λu n c e=>by
 rcases h.2 with ⟨o,_⟩|⟨g,cap,cur,o,hb,_⟩
 .rw [o]at e;cases e
 .rw [o]at e;injection e with e _ _;injection e with e;subst e;exact hb
theorem Jnh{v vr vd:Value}{l:List Row}{r:Row}{ds:List Bool}{w:World}(hl:RowsV w v l)(hr:RowV w vr r)(hd:BoolsV w vd ds)(hlt:Lt ds l)(hlen:l.length<=1000000):
  Ret Tryz.prog 107 [v,vr,vd] w λx w'=>RowsV w' x (Zj ds l r)/\Ext w w'/\(x=v∨Fresh w x):=by
 obtain ⟨ps,A,c,rfl,rfl,h3,h4,h5,h6⟩:=id hl;have hn:ps.length<=1000000:=by simpa using hlen
 obtain ⟨B,bc,ad,an,am,ak⟩:=id hr;refine Jz Tryz.func107 Tryz.ntmps107 rfl kr rfl ?_;refine ρ ?_;refine Qd (λk=>[(0,.slice A ps.length c),(1,vr),(2,vd),(7,.int .i64 ((k:Nat):Int))])
  (λk w'=>Ext w w'/\k<=ps.length/\∀ i,i<k->Jw ((ps.map (·.2)).getD i []) r ds<0) (λk=>ps.length-k) 0 sB ⟨Ext.refl w,Nat.zero_le _,λi hi=>om⟩ ?_
 rintro k w1 ⟨G,hk,J⟩;refine ρ ?_;refine Vm (fun (t:Bool)=>[(0,.slice A ps.length c),(1,vr),(2,vd),(7,.int .i64 ((k:Nat):Int)),(22,.bool t)])
  (λt w2=>Ext w1 w2/\t=decide (k<ps.length/\Jw ((ps.map (·.2)).getD k []) r ds<0)) ?_ ?_
 .refine ki 13 (λh=>?_) (λh=>?_)
  .have hlt:k<ps.length:=by have:=oT h;omega
   refine ρ ?_;refine ix k (h5.ext G) hlt ?_;refine ρ ?_;refine ld ((h5.ext G).cell (Iw hlt)) ?_;refine ρ ?_;refine cl (Jnj ((h6 _ (getD_mem' z0 ps hlt)).ext G) (hr.ext G) (hd.ext G)) ?_;rintro x w2 ⟨⟨cc,rfl,ai,aj⟩,a4⟩;refine ρ ?_;refine Jb _ sB ⟨a4,?_⟩;rw [Bool.eq_iff_iff,decide_eq_true_iff,decide_eq_true_iff,ai,Jqn];exact ⟨λh=>⟨hlt,h⟩,λh=>h.2⟩
  .have hlt:¬ k<ps.length:=by have:=oF h;omega
   refine ρ ?_;exact Jb false sB ⟨Ext.refl _,(dF (λh=>hlt h.1)).symm⟩
 rintro t w2 ⟨a4,rfl⟩;have o:=G.trans a4;refine ρ ?_;refine ci (λh=>?_) (λh=>?_)
 .obtain ⟨hlt,hc⟩:=oT h;refine ρ ?_;refine Qw (k+1) sB ⟨o,om,λi hi=>?_⟩ om;by_cases e:i=k
  .rw [e];exact hc
  .exact J i om
 have a5:=oF h;obtain ⟨aa,a2⟩:=Qyq hlt (r:=r) (k:=k) (by simpa using hk) (by
  by_cases h0:k=0
  .exact .inl h0
  .exact .inr (J (k-1) om)) (by
  by_cases h0:k<ps.length
  .exact .inr (λh'=>a5 ⟨h0,h'⟩)
  .exact .inl (by simp;omega))
 refine ρ ?_;refine Vm (fun (t:Bool)=>[(0,.slice A ps.length c),(1,vr),(7,.int .i64 ((k:Nat):Int)),(36,.bool t)])
  (λt w3=>Ext w2 w3/\t=decide (r∈ps.map (·.2))) ?_ ?_
 .refine ki 29 (λh=>?_) (λh=>?_)
  .have hlt:k<ps.length:=by have:=oT h;omega
   refine ρ ?_;refine ix k (h5.ext o) hlt ?_;refine ρ ?_;refine ld ((h5.ext o).cell (Iw hlt)) ?_;refine ρ ?_;refine cl (Jmm ((h6 _ (getD_mem' z0 ps hlt)).ext o) (hr.ext o)) ?_;rintro x w3 ⟨rfl,a3⟩;refine ρ ?_;refine Jb _ sB ⟨a3,?_⟩;rw [Bool.eq_iff_iff,decide_eq_true_iff,decide_eq_true_iff,a2,Jqn];exact ⟨λh=>⟨by simpa using hlt,h⟩,λh=>h.2⟩
  .have hlt:¬ k<ps.length:=by have:=oF h;omega
   refine ρ ?_;refine Jb false sB ⟨Ext.refl _,(dF (λh=>?_)).symm⟩;have:=(a2.1 h).1;simp at this;omega
 rintro t w3 ⟨a3,rfl⟩;have C:=o.trans a3;refine ρ ?_;refine ci (λh=>?_) (λh=>?_)
 .have a6:=oT h;refine ρ ?_;refine Jj ⟨?_,C,.inl rfl⟩;unfold Zj;rw [if_pos a6];exact hl.ext C
 have a6:=oF h;have a1:=RowV.ones h6;refine ρ ?_;refine bsl Qqc ?_;intro w4 b ac ap ag;have Z:=C.trans ac;refine ρ ?_;refine slh k ?_;refine ρ ?_;refine apo (a:=w) Z ER (ag.own (n:=0) (by have:=C.size;omega) rfl (Nat.zero_le _)) ((h5.ext Z).take (m:=k) hk) (λu hu=>a1 u (List.mem_of_mem_take hu)) (by unfold maxLen;omega) om ?_;intro v5 w5 a9 ab _ _;rw [Nat.mul_one]at a9;refine ρ ?_;refine bsl (λw=>Jvx vr w B _ bc ad) ?_;intro w6 b6 a8 ao af;refine ρ ?_;refine apo (a:=w) (ab.trans a8) ER (Jk a9 a8) af.one (λu hu=>by rw [List.mem_singleton.1 hu];exact hr.one) (by unfold maxLen;omega) om ?_;intro v7 w7 ae a7 _ _;refine ρ ?_;refine sll k ?_;refine ρ ?_;refine apo (a:=w) a7 ER ae ((h5.ext a7).drop (k:=k) (c:=c) hk h3) (λu hu=>a1 u (List.mem_of_mem_drop hu)) (by unfold maxLen;omega) om ?_;intro v8 w8 U O _ _;rw [Nat.mul_one]at U;refine ρ ?_;refine Jj ⟨?_,O,.inr (Qcl U)⟩
 have e0:Zj ds (ps.map (·.2)) r=(ps.take k++[(vr,r)]++ps.drop k).map (·.2):=by
  unfold Zj;rw [if_neg a6,aa];simp
 have el:(ps.take k++[(vr,r)]++ps.drop k).length=0+k+1+(ps.length-k):=by simp;omega
 have ec:(ps.take k++[(vr,r)]++ps.drop k).map (·.1)=[]++(ps.map (·.1)).take k++[vr]++(ps.map (·.1)).drop k:=by simp
 rw [e0];obtain ⟨A8,c8,rfl,ah,_⟩:=Jv U;refine ⟨_,A8,c8,rfl,by rw [el],by rw [el];exact ah,by rw [el];omega,by rw [el,ec];exact Rd.own U,λp J=>?_⟩;simp only [List.mem_append,List.mem_singleton]at J;rcases J with (J|J)|J
 .exact (h6 p (List.mem_of_mem_take J)).ext O
 .rw [J];exact hr.ext O
 .exact (h6 p (List.mem_of_mem_drop J)).ext O
end Go.Proofs.YtebcagekopgdhaaGreatDoor
namespace Go.Proofs.YtebcagekopgdhaaGreatDoor
open Pl Go.Wk
theorem Jcn{α:Type}: ∀ {l m:List α},l.Nodup->(∀ x∈l,x∈m)->l.length<=m.length
 | [],_,_,_=>Nat.zero_le _
 | x::l,m,hn,hs=>by
  obtain ⟨a,b,rfl⟩:=List.append_of_mem (hs x mC);have hn':=List.nodup_cons.1 hn;have:=Jcn (l:=l) (m:=a++b) hn'.2 λy hy=>by
   have h1:=hs y (List.mem_cons_of_mem _ hy);rcases List.mem_append.1 h1 with h2|h2
   .exact List.mem_append_left _ h2
   .rcases List.mem_cons.1 h2 with rfl|h2
    .exact absurd hy hn'.1
    .exact List.mem_append_right _ h2
  simp only [List.length_append,List.length_cons]at this ⊢;omega
def Kl(rs:Nat->List Row): Nat->List (List Row)
 | 0=>[[]]
 | m+1=>(Kl rs m).flatMap λc=>(rs m).map λr=>c++[r]
theorem Jtx(rs:Nat->List Row): ∀ m,(Kl rs m).length=Jc m λi=>(rs i).length
 | 0=>rfl
 | m+1=>by
  rw [Kl,Jc,<-Jtx rs m];generalize Kl rs m=l
  induction l with
  | nil=>simp
  | cons c l ih=>rw [List.flatMap_cons,List.length_append,ih,List.length_map,List.length_cons,Nat.succ_mul,Nat.add_comm]
theorem Jtw{rs:Nat->List Row}(g:Nat->Row): ∀ m,(∀ i,i<m->g i∈rs i)->(List.range m).map g∈Kl rs m
 | 0,_=>by simp [Kl]
 | m+1,h=>by
  rw [List.range_succ,List.map_append,Kl,List.mem_flatMap];refine ⟨_,Jtw g m λi hi=>h i om,?_⟩;exact List.mem_map.2 ⟨g m,h m om,rfl⟩
theorem Jtt{rs:Nat->List Row}{m:Nat}{l:List Row}(F:(Nat->Row)->Row)(hF:∀ g g',(∀ i,i<m->g i=g' i)->F g=F g')(hn:l.Nodup)(h:∀ x∈l,∃ g:Nat->Row,(∀ i,i<m->g i∈rs i)/\x=F g):
  l.length<=Jc m λi=>(rs i).length:=by
 rw [<-Jtx];have:=Jcn (m:=(Kl rs m).map λc=>F λi=>c.getD i []) hn λx o=>by
  obtain ⟨g,u,rfl⟩:=h x o;refine List.mem_map.2 ⟨_,Jtw g m u,hF _ _ λi hi=>?_⟩;simp [List.getD,hi]
 rw [List.length_map]at this;exact this
theorem Jrl{ds:List Bool}{l:List Row}(h:Lt ds l): l.Nodup:=h.imp fun {a b} hab e=>by rw [e,Vo]at hab;omega
def Ib(m:Nat)(vars:Nat->List Nat)(g:Nat->Row)(v:Nat): V:=match (List.range m).find? λi=>decide (v∈vars i) with
 | some i=>(g i).getD (lv (vars i) v) V0
 | none=>V0
theorem Jph{m:Nat}{vars:Nat->List Nat}{g g':Nat->Row}(h:∀ i,i<m->g i=g' i)(v:Nat): Ib m vars g v=Ib m vars g' v:=by
 unfold Ib;cases hf:(List.range m).find? λi=>decide (v∈vars i) with
 | none=>rfl
 | some i=>simp only;rw [h i (List.mem_range.1 (List.mem_of_find?_eq_some hf))]
theorem Jpg{m:Nat}{vars:Nat->List Nat}{g:Nat->Row}{v:Nat}{z:Row}(hasc:∀ i,i<m->Qo (vars i))(hc:∃ i,i<m/\v∈vars i)(h:∀ i,i<m->∀ j,j<(vars i).length->(vars i).getD j 0=v->(g i).getD j V0=z.getD v V0): Ib m vars g v=z.getD v V0:=by
 unfold Ib;cases hf:(List.range m).find? λi=>decide (v∈vars i) with
 | none=>
  obtain ⟨i,hi,o⟩:=hc;have:=List.find?_eq_none.1 hf i (List.mem_range.2 hi);simp [o]at this
 | some i=>
  have hi:=List.mem_range.1 (List.mem_of_find?_eq_some hf);have o:v∈vars i:=by simpa using List.find?_some hf
  have:=Vd (hasc i hi) o;exact h i hi _ this.2.1 this.2.2
theorem Qpk{n m:Nat}{vars:Nat->List Nat}{rs:Nat->List Row}{s:Nat}{l:List Row}(hasc:∀ i,i<m->Qo (vars i))(hc:∀ v,v<n->∃ i,i<m/\v∈vars i)(hs:s<2^n)(hl:Lt [] l)(h:∀ x∈l,∃ z:Row,z.length=n/\x=pmR (bk s 32) z/\Ge m vars rs s z): l.length<=Jc m λi=>(rs i).length:=by
 refine Jtt (F:=λg=>(bk s 32).map (Ib m vars g)) (λg g' u=>List.map_congr_left λv _=>Jph u v) (Jrl hl) λx G=>?_;obtain ⟨z,Z,rfl,C⟩:=h x G;obtain ⟨g,u⟩:∃ g:Nat->Row,∀ i,i<m->g i∈rs i/\∀ j,j<(vars i).length->s.testBit ((vars i).getD j 0)=true->(g i).getD j V0=z.getD ((vars i).getD j 0) V0:=by
  refine ⟨λi=>if hi:i<m then Classical.choose (C i hi) else [],λi hi=>?_⟩;simp only [hi,dite_true];exact Classical.choose_spec (C i hi)
 refine ⟨g,λi hi=>(u i hi).1,?_⟩;unfold pmR;refine List.map_congr_left λv O=>?_;obtain ⟨J,o⟩:=bk_mem.1 O;refine (Jpg hasc (hc v (Jxj hs o)) λi hi j U e=>?_).symm;have:=(u i hi).2 j U (by rw [e];exact o);rw [e]at this;exact this
section
variable (m:Nat) (vars:Nat->List Nat) (rs:Nat->List Row)
def Yg(vl:List Nat)(r:Row): Bool:=(List.range m).all λi=>(rs i).any λx=>decide (pmR (Qg (vars i) (Qz vl &&& Qz (vars i))) x=pmR (Qg vl (Qz vl &&& Qz (vars i))) r)
def Jzv(v:Nat): List Row:=(List.range m).flatMap λi=>(List.range (vars i).length).flatMap λk=>if (vars i).getD k 0=v then (rs i).map λr=>[r.getD k V0] else []
def Ys(v:Nat): List Row:=(Jzv m vars rs v).foldl (Zj []) []
def Qu(v:Nat): List V:=(Ys m vars rs v).map λr=>r.getD 0 V0
def Ku(vl:List Nat)(k:Nat)(out:List Row): List Row:=out.flatMap λr=>((Qu m vars rs (vl.getD k 0)).map λx=>r++[x]).filter (Yg m vars rs (vl.take (k+1)))
def Qe(vl:List Nat): Nat->List Row
 | 0=>[[]]
 | k+1=>Ku m vars rs vl k (Qe vl k)
def Xc(n:Nat): List Row:=if n=0 then (if Yg m vars rs [] [] then [[]] else []) else Qe m vars rs (List.range n) n
end
section
variable {n m:Nat} {vars:Nat->List Nat} {rs:Nat->List Row}
theorem Jzq{ds:List Bool}: ∀ (ls:List Row) {done l:List Row},IsSet ds done l->IsSet ds (done++ls) (ls.foldl (Zj ds) l)
 | [],done,l,h=>by simpa using h
 | r::ls,done,l,h=>by
  rw [List.foldl_cons];have:=Jzq ls (Qbc (r:=r) h);rwa [List.append_assoc]at this
theorem Jkw(v:Nat): IsSet [] (Jzv m vars rs v) (Ys m vars rs v):=by
 have:=Jzq (ds:=[]) (Jzv m vars rs v) (done:=[]) (l:=[]) ⟨List.Pairwise.nil,λx=>Iff.rfl⟩;rwa [List.nil_append]at this
theorem enumV_mem{v:Nat}{y:Row}: y∈Jzv m vars rs v↔∃ i,i<m/\∃ k,k<(vars i).length/\(vars i).getD k 0=v/\∃ r∈rs i,y=[r.getD k V0]:=by
 unfold Jzv;simp only [List.mem_flatMap,List.mem_range];constructor
 .rintro ⟨i,hi,k,u,h⟩;split at h
  .rename_i e;obtain ⟨r,o,rfl⟩:=List.mem_map.1 h;exact ⟨i,hi,k,u,e,r,o,rfl⟩
  .cases h
 .rintro ⟨i,hi,k,u,e,r,o,rfl⟩;exact ⟨i,hi,k,u,by rw [if_pos e];exact List.mem_map.2 ⟨r,o,rfl⟩⟩
theorem valL_mem{v:Nat}{x:V}: x∈Qu m vars rs v↔∃ i,i<m/\∃ k,k<(vars i).length/\(vars i).getD k 0=v/\∃ r∈rs i,x=r.getD k V0:=by
 unfold Qu;rw [List.mem_map];constructor
 .rintro ⟨y,C,rfl⟩;obtain ⟨i,hi,k,u,e,r,o,rfl⟩:=enumV_mem.1 (((Jkw v).2 y).1 C);exact ⟨i,hi,k,u,e,r,o,rfl⟩
 .rintro ⟨i,hi,k,u,e,r,o,rfl⟩;exact ⟨_,((Jkw v).2 _).2 (enumV_mem.2 ⟨i,hi,k,u,e,r,o,rfl⟩),rfl⟩
theorem Jyv{v:Nat}{y:Row}(hy:y∈Ys m vars rs v): ∃ x,y=[x]:=by
 obtain ⟨i,hi,k,u,e,r,o,rfl⟩:=enumV_mem.1 (((Jkw v).2 y).1 hy);exact ⟨_,rfl⟩
theorem Qkn(v:Nat): (Qu m vars rs v).Nodup:=by
 unfold Qu List.Nodup;rw [List.pairwise_map];refine List.Pairwise.imp_of_mem (fun {a b} ha hb hab e=>?_) (Jkw (m:=m) (vars:=vars) (rs:=rs) v).1;obtain ⟨x,rfl⟩:=Jyv ha;obtain ⟨y,rfl⟩:=Jyv hb;simp only [List.getD_cons_zero]at e;subst e;rw [Vo]at hab;omega
theorem Qhf{α β:Type}{f:α->List β}{l:List α}(h1:l.Nodup)(h2:∀ a∈l,(f a).Nodup)(h3:∀ a∈l,∀ b∈l,∀ x,x∈f a->x∈f b->a=b): (l.flatMap f).Nodup:=by
 induction l with
 | nil=>exact List.Pairwise.nil
 | cons a l ih=>
  obtain ⟨U,O⟩:=List.nodup_cons.1 h1;rw [List.flatMap_cons,List.nodup_append];refine ⟨h2 a mC,ih O (λb o=>h2 b (List.mem_cons_of_mem _ o)) (λb o c J=>h3 b (List.mem_cons_of_mem _ o) c (List.mem_cons_of_mem _ J)),λx G y C e=>?_⟩;subst e;obtain ⟨b,o,u⟩:=List.mem_flatMap.1 C;have:=h3 a mC b (List.mem_cons_of_mem _ o) x G u;subst this;exact U o
theorem Qvg{vl:List Nat}{k:Nat}{out:List Row}(h:out.Nodup): (Ku m vars rs vl k out).Nodup:=by
 unfold Ku;refine Qhf h (λr _=>?_) λa _ b _ x u o=>?_
 .refine List.Pairwise.sublist List.filter_sublist ?_;show (List.map _ _).Nodup;unfold List.Nodup;rw [List.pairwise_map];refine (Qkn (m:=m) (vars:=vars) (rs:=rs) (vl.getD k 0)).imp fun {x y} hxy e=>hxy ?_
  have:=List.append_cancel_left e;simpa using this
 .obtain ⟨G,O,rfl⟩:=List.mem_map.1 (List.mem_filter.1 u).1;obtain ⟨C,J,e⟩:=List.mem_map.1 (List.mem_filter.1 o).1;have:=congrArg List.dropLast e;simpa using this.symm
theorem Qqw(vl:List Nat): ∀ k,(Qe m vars rs vl k).Nodup
 | 0=>by simp [Qe]
 | k+1=>Qvg (Qqw vl k)
def Ga(m:Nat)(vars:Nat->List Nat)(rs:Nat->List Row)(k:Nat)(z:Row): Prop:=∀ i,i<m->∃ x∈rs i,∀ j,j<(vars i).length->(vars i).getD j 0<k->x.getD j V0=z.getD ((vars i).getD j 0) V0
theorem Ik{n i:Nat}(h:i<n): (List.range n).getD i 0=i:=by simp [List.getD,h]
theorem Qlv(k s:Nat): Qg (List.range k) s=(List.range k).filter λu=>s.testBit u:=by
 unfold Qg;rw [List.length_range];exact List.filter_congr λu o=>by rw [Ik (List.mem_range.1 o)]
theorem Qps{l:List Nat}{k:Nat}{p:Nat->Bool}(ha:Qo l)(hp:∀ u,p u=true↔u∈l): (List.range k).filter p=l.filter λu=>decide (u<k):=by
 have key:∀ {a b:List Nat},Qo a->Qo b->(∀ u,u∈a↔u∈b)->a=b:=by
  intro a;induction a with
  | nil=>
   intro b _ _ h;cases b with
   | nil=>rfl
   | cons y b=>have:=(h y).2 mC;cases this
  | cons x a ih=>
   intro b ha O h;cases b with
   | nil=>have:=(h x).1 mC;cases this
   | cons y b=>
    obtain ⟨J,a2⟩:=List.pairwise_cons.1 ha;obtain ⟨G,b2⟩:=List.pairwise_cons.1 O;have C:x=y:=by
     have Z:=(h x).1 mC;have U:=(h y).2 mC;rcases List.mem_cons.1 Z with h3|h3
     .exact h3
     .rcases List.mem_cons.1 U with h4|h4
      .exact h4.symm
      .have:=J y h4;have:=G x h3;omega
    subst C;rw [ih a2 b2 λu=>?_];constructor
    .intro o;rcases List.mem_cons.1 ((h u).1 (List.mem_cons_of_mem _ o)) with h3|h3
     .subst h3;have:=J u o;omega
     .exact h3
    .intro o;rcases List.mem_cons.1 ((h u).2 (List.mem_cons_of_mem _ o)) with h3|h3
     .subst h3;have:=G u o;omega
     .exact h3
 refine key (List.Pairwise.sublist List.filter_sublist List.pairwise_lt_range) (List.Pairwise.sublist List.filter_sublist ha) λu=>?_;simp only [List.mem_filter,List.mem_range,decide_eq_true_eq,hp];exact ⟨λh=>⟨h.2,h.1⟩,λh=>⟨h.2,h.1⟩⟩
theorem Jdx(hasc:∀ i,i<m->Qo (vars i))(hlen:∀ i,i<m->∀ r∈rs i,r.length=(vars i).length)(k:Nat)(z:Row): Yg m vars rs (List.range k) z=true↔Ga m vars rs k z:=by
 unfold Yg Ga;simp only [List.all_eq_true,List.mem_range,List.any_eq_true,decide_eq_true_eq];refine ⟨λh i hi=>?_,λh i hi=>?_⟩;all_goals
  have o:∀ u,(Qz (List.range k) &&& Qz (vars i)).testBit u=true↔u<k/\u∈vars i:=λu=>by
   rw [Nat.testBit_and,Bool.and_eq_true,edgeOf_bit,edgeOf_bit,List.mem_range]
  obtain ⟨x,O,e⟩:=h i hi;refine ⟨x,O,?_⟩;have U:Qg (List.range k) (Qz (List.range k) &&& Qz (vars i))=inS (vars i) (Qz (List.range k) &&& Qz (vars i)):=by
   rw [Qlv];have:(List.range k).filter (λu=>(Qz (List.range k) &&& Qz (vars i)).testBit u)=(List.range k).filter λu=>decide (u∈vars i):=List.filter_congr λu J=>by
    rw [Bool.eq_iff_iff,o u,decide_eq_true_eq];exact ⟨λh=>h.2,λh=>⟨List.mem_range.1 J,h⟩⟩
   rw [this,Qps (hasc i hi) λu=>by simp];unfold inS;refine List.filter_congr λu J=>?_;rw [Bool.eq_iff_iff,o u,decide_eq_true_eq];exact ⟨λh=>⟨h,J⟩,λh=>h.1⟩
  have G:=Jfh (vars:=vars i) (s:=Qz (List.range k) &&& Qz (vars i)) (r:=x) (z:=z) (hlen i hi x O) (vars i).length (Nat.le_refl _);rw [List.take_length]at G;have e3:Xl (vars i) (Qz (List.range k) &&& Qz (vars i)) (vars i).length=Qg (vars i) (Qz (List.range k) &&& Qz (vars i)):=rfl;rw [e3]at G
 .rw [U]at e;intro j C Z;exact G.1 e j C ((o _).2 ⟨Z,getD_mem' 0 _ C⟩)
 .rw [U];exact G.2 λj C hb=>e j C ((o _).1 hb).1
theorem Qhl{k l:Nat}{z:Row}(hkl:k<=l): Ga m vars rs k (z.take l)↔Ga m vars rs k z:=by
 unfold Ga;refine forall_congr' λi=>forall_congr' λhi=>exists_congr λx=>and_congr_right λu=>forall_congr' λj=>forall_congr' λC=>?_;refine ⟨λh o=>?_,λh o=>?_⟩
 .have:=h o;rwa [Pl.getD_take V0 om]at this
 .rw [Pl.getD_take V0 om];exact h o
theorem Jyb(hasc:∀ i,i<m->Qo (vars i))(hlen:∀ i,i<m->∀ r∈rs i,r.length=(vars i).length)(hn:∀ v,v<n->∃ i,i<m/\v∈vars i): ∀ k,k<=n->∀ z:Row,z∈Qe m vars rs (List.range n) k↔z.length=k/\(k=0∨Ga m vars rs k z)
 | 0,_,z=>by
  rw [Qe,List.mem_singleton];exact ⟨λh=>by subst h;exact ⟨rfl,.inl rfl⟩,λh=>List.eq_nil_of_length_eq_zero h.1⟩
 | k+1,hk,z=>by
  have ih:=Jyb hasc hlen hn k om;rw [Qe];unfold Ku;rw [Ik om,Qyr om];simp only [List.mem_flatMap,List.mem_filter,List.mem_map];constructor
  .rintro ⟨r,hr,⟨x,hx,rfl⟩,hf⟩;have h1:=(ih r).1 hr;exact ⟨by simp [h1.1],.inr ((Jdx hasc hlen (k+1) _).1 hf)⟩
  .rintro ⟨hl,h⟩;have hf:Ga m vars rs (k+1) z:=h.resolve_left om;have hz:z=z.take k++[z.getD k V0]:=Jlz V0 hl;refine ⟨z.take k,(ih _).2 ⟨by rw [List.length_take];omega,?_⟩,⟨z.getD k V0,?_,hz.symm⟩,(Jdx hasc hlen (k+1) _).2 hf⟩
   .refine .inr ((Qhl (Nat.le_refl _)).2 λi hi=>?_);obtain ⟨x,hx,h1⟩:=hf i hi;exact ⟨x,hx,λj hj hjk=>h1 j hj om⟩
   .obtain ⟨i,hi,hv⟩:=hn k om;obtain ⟨x,hx,h1⟩:=hf i hi;have h2:=Vd (hasc i hi) hv;refine valL_mem.2 ⟨i,hi,_,h2.2.1,h2.2.2,x,hx,?_⟩;have:=h1 _ h2.2.1 (by rw [h2.2.2];omega);rw [h2.2.2]at this;exact this.symm
theorem Qqx(hasc:∀ i,i<m->Qo (vars i))(hlen:∀ i,i<m->∀ r∈rs i,r.length=(vars i).length)(hn:∀ v,v<n->∃ i,i<m/\v∈vars i){k:Nat}(hk:k<=n): (Qe m vars rs (List.range n) k).length<=max 1 (Jc m λi=>(rs i).length):=by
 by_cases h0:k=0
 .subst h0;simp only [Qe,List.length_singleton];omega
 .refine nL (Jtt (F:=λg=>(List.range k).map (Ib m vars g)) (λg g' o=>List.map_congr_left λv _=>Jph o v) (Qqw _ k) λx G=>?_) (Nat.le_max_right _ _);obtain ⟨h1,Z⟩:=(Jyb hasc hlen hn k hk x).1 G;have C:Ga m vars rs k x:=Z.resolve_left h0;obtain ⟨g,o⟩:∃ g:Nat->Row,∀ i,i<m->g i∈rs i/\∀ j,j<(vars i).length->(vars i).getD j 0<k->(g i).getD j V0=x.getD ((vars i).getD j 0) V0:=by
   refine ⟨λi=>if hi:i<m then Classical.choose (C i hi) else [],λi hi=>?_⟩;simp only [hi,dite_true];exact Classical.choose_spec (C i hi)
  refine ⟨g,λi hi=>(o i hi).1,?_⟩;apply List.ext_getElem
  .simp [h1]
  .intro v u J;have O:=Jpg (g:=g) (z:=x) hasc (hn v om) λi hi j U e=>by
    have:=(o i hi).2 j U om;rw [e]at this;exact this
   rw [List.getElem_map,List.getElem_range,O];simp [List.getD,u]
theorem Jdl(hasc:∀ i,i<m->Qo (vars i))(hlen:∀ i,i<m->∀ r∈rs i,r.length=(vars i).length)(hlt:∀ i,i<m->∀ v∈vars i,v<n)(hn:∀ v,v<n->∃ i,i<m/\v∈vars i)(z:Row): z∈Xc m vars rs n↔Zr n m vars rs z:=by
 have key:z.length=n->(Ga m vars rs n z↔∀ i,i<m->pmR (vars i) z∈rs i):=λu=>by
  constructor
  .intro h i hi;obtain ⟨x,J,G⟩:=h i hi;have:pmR (vars i) z=x:=by
    apply List.ext_getElem
    .rw [Qh,hlen i hi x J]
    .intro j o h3;rw [Qh]at o;have Z:(vars i).getD j 0<n:=hlt i hi _ (getD_mem' 0 _ o);have O:=G j o Z;have e1:(vars i).getD j 0=(vars i)[j]:=by simp [List.getD,o]
     have e2:x.getD j V0=x[j]:=by simp [List.getD,h3]
     rw [e1,e2]at O;simp only [pmR,List.getElem_map];exact O.symm
   rw [this];exact J
  .intro h i hi;refine ⟨_,h i hi,λj U _=>?_⟩;unfold pmR;simp [List.getD,U]
 unfold Xc Zr;split
 .rename_i h0;subst h0;have C:=Jdx (vars:=vars) (rs:=rs) hasc hlen 0 [];rw [List.range_zero]at C;constructor
  .intro h;split at h
   .rename_i hb;rw [List.mem_singleton.1 h];exact ⟨rfl,(by have:=key;rw [List.mem_singleton.1 h]at this;exact (this rfl).1 (C.1 hb))⟩
   .cases h
  .rintro ⟨G,o⟩;have u:z=[]:=List.eq_nil_of_length_eq_zero G;subst u;rw [if_pos (C.2 ((key rfl).2 o))];exact List.mem_singleton.2 rfl
 .rename_i h0;rw [Jyb hasc hlen hn n (Nat.le_refl _) z];exact and_congr_right λu=>⟨λh=>(key u).1 (h.resolve_left h0),λh=>.inr ((key u).2 h)⟩
theorem Jrt(hasc:∀ i,i<m->Qo (vars i))(hlen:∀ i,i<m->∀ r∈rs i,r.length=(vars i).length)(hn:∀ v,v<n->∃ i,i<m/\v∈vars i): (Xc m vars rs n).length<=max 1 (Jc m λi=>(rs i).length):=by
 unfold Xc;split
 .split<;>simp<;>omega
 .exact Qqx hasc hlen hn (Nat.le_refl _)
end
end Go.Proofs.YtebcagekopgdhaaGreatDoor
