/- Part 40 of the proof: Rf1, Rp. -/
import Derived.Test.YtefpailelagbkaaGreatDoorC37
import Derived.ChangeKeysEq
set_option linter.unusedVariables false
set_option maxRecDepth 100000
set_option maxHeartbeats 40000000
namespace Go.Proofs.YtefpailelagbkaaGreatDoor
open Go.RowKit Pl Go.Wk
attribute [local irreducible] WC WL QX WD WDB WP
theorem Qmn: ∀ (x y:List UInt8),(Lib.compareBytes x y<0)↔Op.bytesLess x y=true
 | [],[]=>by simp [Lib.compareBytes,Op.bytesLess]
 | [],_::_=>by simp [Lib.compareBytes,Op.bytesLess]
 | _::_,[]=>by simp [Lib.compareBytes,Op.bytesLess]
 | a::x,b::y=>by
  have ih:=Qmn x y;simp only [Lib.compareBytes,Op.bytesLess];by_cases h:a<b
  .rw [if_pos h];simp [h]
  .rw [if_neg h];by_cases h2:b<a
   .rw [if_pos h2];have:a≠b:=by intro e;subst e;exact h h2
    simp [h,this]
   .rw [if_neg h2,ih];have:a=b:=by
     apply UInt8.toNat_inj.1
     have h3:¬ a.toNat<b.toNat:=λh'=>h (UInt8.lt_iff_toNat_lt.2 h');have h4:¬ b.toNat<a.toNat:=λh'=>h2 (UInt8.lt_iff_toNat_lt.2 h');omega
    simp [this]
def eqv(a b:V): Bool:=(a.kind == b.kind) && (a.num == b.num) && (a.str.toList == b.str.toList)
theorem V.bytes_eq(a:V): a.str.toList=a.bytes:=by rw [V.bytes,ByteArray.toList_eq]
theorem Qlw(a b:V): eqv a b=true↔a=b:=by
 unfold eqv;simp only [Bool.and_eq_true,beq_iff_eq];constructor
 .rintro ⟨⟨o,j⟩,i⟩;exact V.ext o j (by rw [<-V.bytes_eq,<-V.bytes_eq,i])
 .rintro rfl;exact ⟨⟨rfl,rfl⟩,rfl⟩
theorem eqV(a b:V)(w:World): (binOp .eql 71 a.val b.val).run Tryz.prog w=.ok (.bool (eqv a b)) w:=by
 rw [V.val,V.val,run_eql_struct,run_equalIn_agg w 9999 71 _ _ kr kr];have e:∃ f1 j i:Field,(Tryz.prog.fieldsOf 71).toList=[f1,j,i]/\(f1.name≠"_"/\f1.type=3/\f1.offset=0)/\(j.name≠"_"/\j.type=2/\j.offset=1)/\(i.name≠"_"/\i.type=9/\i.offset=2) :=
  ⟨_,_,_,rfl,⟨by decide,rfl,rfl⟩,⟨by decide,rfl,rfl⟩,⟨by decide,rfl,rfl⟩⟩
 obtain ⟨f1,j,i,h0,⟨n1,O,o1⟩,⟨n2,J,Z⟩,⟨n3,G,U⟩⟩:=e;rw [h0];simp only [Op.eqFields,if_pos n1,if_pos n2,if_pos n3,O,J,G,o1,Z,U,Sem.run_bind];have C:∀ v:V,(part 3 #[.int .i64 v.kind,.int .i64 v.num,.string v.str] 0).run Tryz.prog w=.ok (.int .i64 v.kind) w:=λv=>run_part_plain w kr rfl;have u:∀ v:V,(part 2 #[.int .i64 v.kind,.int .i64 v.num,.string v.str] 1).run Tryz.prog w=.ok (.int .i64 v.num) w:=λv=>run_part_plain w kr rfl;have o:∀ v:V,(part 9 #[.int .i64 v.kind,.int .i64 v.num,.string v.str] 2).run Tryz.prog w=.ok (.string v.str) w:=λv=>run_part_plain w kr rfl;rw [C a];simp only [Result.andThen_ok];rw [C b];simp only [Result.andThen_ok];rw [run_equalIn_int w 9998 3 .i64 .i64 _ _ kr];simp only [Result.andThen_ok];unfold eqv;cases h1:(a.kind == b.kind) with
 | false=>simp
 | true=>
  simp only [Bool.not_true,Bool.false_eq_true,if_false,Bool.true_and,Sem.run_bind];rw [u a];simp only [Result.andThen_ok];rw [u b];simp only [Result.andThen_ok];rw [run_equalIn_int w 9998 2 .i64 .i64 _ _ kr];simp only [Result.andThen_ok];cases h2:(a.num == b.num) with
  | false=>simp
  | true=>
   simp only [Bool.not_true,Bool.false_eq_true,if_false,Bool.true_and,Sem.run_bind];rw [o a];simp only [Result.andThen_ok];rw [o b];simp only [Result.andThen_ok];rw [run_equalIn_string w 9998 9 _ _ kr];simp only [Result.andThen_ok];cases h3:(a.str.toList == b.str.toList)<;>simp
theorem Qtk(a b:Int): sgn a b<0↔a<b:=by
 unfold sgn;by_cases h:a<b
 .rw [if_pos h];omega
 .rw [if_neg h];by_cases h2:b<a
  .rw [if_pos h2];omega
  .rw [if_neg h2];omega
def Qqb(a b:V): Bool:=decide (a.kind<b.kind) || ((a.kind == b.kind) && (decide (a.num<b.num) || ((a.num == b.num) && Op.bytesLess a.str.toList b.str.toList)))
theorem Qjz(a b:V): Qqb a b=true↔cmpV a b<0:=by
 unfold Qqb cmpV;by_cases h:a.kind=b.kind
 .rw [if_neg (not_not_intro h)];by_cases h2:a.num=b.num
  .rw [if_neg (not_not_intro h2),Qmn,<-V.bytes_eq,<-V.bytes_eq];simp [h,h2]
  .rw [if_pos h2,Qtk];simp only [h,beq_self_eq_true,Bool.true_and,Int.lt_irrefl,decide_false,Bool.false_or];have:(a.num == b.num)=false:=Qds h2;rw [this,Bool.false_and,Bool.or_false,decide_eq_true_iff]
 .rw [if_pos h,Qtk];have:(a.kind == b.kind)=false:=Qds h;rw [this,Bool.false_and,Bool.or_false,decide_eq_true_iff]
theorem Qbw(a b:V)(w:World): Ret Tryz.prog 94 [a.val,b.val] w λr w'=>r=.int .i64 (cmpV a b)/\Ext w w':=by
 refine Jjc Tryz.func94 Tryz.ntmps94 rfl kr rfl ?_;refine ρ ?_;refine bx ?_;intro w1 b1 Z a3 o;refine ρ ?_;refine bx ?_;intro w2 b2 J a2 C;have o:=o.ext J;have hx:=Z.trans J;refine ρ ?_;refine lds (cs:=a.cells) (λj u hu=>o.at hu) ?_;refine ρ ?_;refine lds (cs:=b.cells) (λj u hu=>C.at hu) ?_;refine ρ ?_;refine weqs kr (eqV a b w2) ?_;refine ρ ?_;refine ci (λh=>?_) (λh=>?_)
 .refine ρ ?_;have:=(Qlw a b).1 h;subst this;exact Jjq ⟨by rw [Jqj],hx⟩
 have a1:cmpV a b≠0:=λe=>by
  have:=(Qlw a b).2 (cmp_V.zero _ _ e);rw [h]at this;cases this
 refine ρ ?_;refine Jzn (fun (t:Bool)=>[(40,.bool t)]) (λt w3=>t=Qqb a b/\w3=w2) ?_ ?_
 .refine ld (o.at (i:=0) rfl) ?_;refine ρ ?_;refine ld (C.at (i:=0) rfl) ?_;refine ρ ?_;refine ki 13 (λG=>?_) (λG=>?_)
  .refine ρ ?_;exact Jjn true sB ⟨by unfold Qqb;rw [G];rfl,rfl⟩
  refine ρ ?_;refine ld (o.at (i:=0) rfl) ?_;refine ρ ?_;refine ld (C.at (i:=0) rfl) ?_;refine ρ ?_;refine ki 19 (λU=>?_) (λU=>?_)
  .refine ρ ?_;refine ld (o.at (i:=1) rfl) ?_;refine ρ ?_;refine ld (C.at (i:=1) rfl) ?_;refine ρ ?_;refine ki 25 (λO=>?_) (λO=>?_)
   .refine ρ ?_;exact Jjn true sB ⟨by unfold Qqb;rw [G,U,O];rfl,rfl⟩
   refine ρ ?_;refine ld (o.at (i:=1) rfl) ?_;refine ρ ?_;refine ld (C.at (i:=1) rfl) ?_;refine ρ ?_;refine ki 31 (λh4=>?_) (λh4=>?_)
   .refine ρ ?_;refine ld (o.at (i:=2) rfl) ?_;refine ρ ?_;refine ld (C.at (i:=2) rfl) ?_;refine ρ ?_;exact Jjn _ sB ⟨by unfold Qqb;rw [G,U,O,h4];rfl,rfl⟩
   .refine ρ ?_;exact Jjn false sB ⟨by unfold Qqb;rw [G,U,O,h4];rfl,rfl⟩
  .refine ρ ?_;exact Jjn false sB ⟨by unfold Qqb;rw [G,U];rfl,rfl⟩
 rintro t w3 ⟨rfl,rfl⟩;refine ρ ?_;have O:=Xjc a b;refine ci (λh=>?_) (λh=>?_)
 .have:=(Qjz a b).1 h;refine ρ ?_;refine Jjq ⟨?_,hx⟩;rw [show cmpV a b = -1 by omega]
 .have:¬ cmpV a b<0:=λh'=>by rw [(Qjz a b).2 h']at h;cases h
  refine ρ ?_;refine Jjq ⟨?_,hx⟩;rw [show cmpV a b=1 by omega]
theorem Jpj{va vb vd:Value}{a b:Row}{ds:List Bool}{w:World}(ha:RowV w va a)(hb:RowV w vb b)(hd:BoolsV w vd ds):
  Ret Tryz.prog 58 [va,vb,vd] w λr w'=>(∃ c:Int,r=.int .i64 c/\(c<0↔Jxg a b ds<0)/\(c=0↔a=b))/\Ext w w':=by
 obtain ⟨A,ac,rfl,ah,ag,ha⟩:=ha;obtain ⟨B,bc,rfl,af,ae,hb⟩:=hb;obtain ⟨D,dc,rfl,ad,ab,hd⟩:=hd;refine Jjc Tryz.func58 Tryz.ntmps58 rfl kr rfl ?_;refine ρ ?_;refine Jqq (λk=>[(0,.slice A a.length ac),(1,.slice B b.length bc),(2,.slice D ds.length dc),(7,.int .i64 ((k:Nat):Int))])
  (λk w'=>Ext w w'/\k<=a.length/\k<=b.length/\Jxg a b ds=Jxg (a.drop k) (b.drop k) (ds.drop k)) (λk=>a.length-k) 0 sB ⟨Ext.refl w,Nat.zero_le _,Nat.zero_le _,rfl⟩ ?_
 rintro k w1 ⟨hx,a8,a7,he⟩;have aa:=ha.ext hx;have a9:=hb.ext hx;have U:∀ c:Int,c=Jxg a b ds->(c<0↔Jxg a b ds<0)/\(c=0↔a=b):=λc hc=>by
  subst hc;exact ⟨Iff.rfl,λh=>Jvp _ _ _ h,λh=>by rw [h];exact Jxp _ _⟩
 have Z:(a.length<=k∨b.length<=k)->(((a.length:Int)-(b.length:Int)<0↔Jxg a b ds<0)/\((a.length:Int)-(b.length:Int)=0↔a=b)):=λh=>by
  have e:=Qyr (ds:=ds) h a8 a7;rw [<-he]at e;have hz:Jxg a b ds=0↔a=b:=⟨Jvp _ _ _,λh=>by rw [h];exact Jxp _ _⟩;rw [<-hz,e];rcases Nat.lt_trichotomy a.length b.length with o|o|o
  .rw [if_pos o];omega
  .rw [if_neg om,if_neg om];omega
  .rw [if_neg om,if_pos o];omega
 refine ρ ?_;refine ki 13 (λh=>?_) (λh=>?_)
 .have J:k<a.length:=by have:=oT h;omega
  refine ρ ?_;refine ci (λh=>?_) (λh=>?_)
  .have G:k<b.length:=by have:=oT h;omega
   refine ρ ?_;refine dr [(0,0),(0,1),(0,2),(0,3),(0,4),(0,5),(0,6),(0,7),(1,8),(0,9)] kr ?_;have C:Ext w1 w1.drew:=(Ext.refl w1).drew;have a6:=aa.ext C;have a5:=a9.ext C;refine ρd ?_;refine Qrr 3 k a6 J ?_;refine ρd ?_;refine Jvb (λj u hu=>RdR.cell a6 J hu) ?_;refine ρd ?_;refine Qrr 3 k a5 G ?_;refine ρd ?_;refine Jvb (λj u hu=>RdR.cell a5 G hu) ?_;refine ρd ?_;refine dcl (Qbw (a.getD k V0) (b.getD k V0) _) ?_;rintro x w2 ⟨rfl,a2⟩;refine ⟨a2,?_⟩;have i:Ext w w2:=(hx.trans C).trans a2;have a4:=hd.ext i;refine ρd ?_;refine ρ ?_;have step:=Qml (ds:=ds) J G;have a1:∀ d,neg d (cmpV (a.getD k V0) (b.getD k V0))=0↔cmpV (a.getD k V0) (b.getD k V0)=0:=λd=>by cases d<;>simp [neg]
   refine Jzn (fun (t:Bool)=>[(0,.slice A a.length ac),(1,.slice B b.length bc),(2,.slice D ds.length dc),(7,.int .i64 ((k:Nat):Int)),(8,.int .i64 (cmpV (a.getD k V0) (b.getD k V0))),(39,.bool t)]) (λt w3=>t=ds.getD k false/\w3=w2) ?_ ?_
   .refine ki 34 (λh=>?_) (λh=>?_)
    .have a3:k<ds.length:=by have:=oT h;omega
     refine ρ ?_;refine ix k a4 a3 ?_;refine ρ ?_;refine ld (RdB.cell a4 a3) ?_;refine ρ ?_;exact Jjn _ sB ⟨rfl,rfl⟩
    .have o:ds.getD k false=false:=by
      have:=oF h;simp [List.getD,List.getElem?_eq_none (show ds.length<=k by omega)]
     refine ρ ?_;exact Jjn false sB ⟨o.symm,rfl⟩
   rintro t w3 ⟨rfl,rfl⟩;refine ρ ?_;have more:∀ c:Int,c=neg (ds.getD k false) (cmpV (a.getD k V0) (b.getD k V0))->c≠0->c=Jxg a b ds:=λc hc h0=>by
    rw [he,step,if_neg (λe=>h0 (by rw [hc,e,Xvn]))];exact hc
   refine ci (λo=>?_) (λo=>?_)
   .refine ρ ?_;rw [Qwk];rw [o]at more;refine ci (λh=>?_) (λh=>?_)
    .refine ρ ?_;exact Jjq ⟨⟨_,rfl,U _ (more _ rfl (Jkx h))⟩,i⟩
    .refine ρ ?_;refine Jjv (k+1) sB ⟨i,om,om,?_⟩ om;rw [he,step,if_pos ((a1 true).1 (Jkz h))]
   .refine ρ ?_;rw [o]at more;refine ci (λh=>?_) (λh=>?_)
    .refine ρ ?_;exact Jjq ⟨⟨_,rfl,U _ (more _ rfl (Jkx h))⟩,i⟩
    .refine ρ ?_;refine Jjv (k+1) sB ⟨i,om,om,?_⟩ om;rw [he,step,if_pos (Jkz h)]
  .have O:=Z (by have:=oF h;omega);refine ρ ?_;exact Jjq ⟨⟨_,rfl,O⟩,hx⟩
 .have O:=Z (by have:=oF h;omega);refine ρ ?_;exact Jjq ⟨⟨_,rfl,O⟩,hx⟩
theorem Jpf{va vb:Value}{a b:Row}{w:World}(ha:RowV w va a)(hb:RowV w vb b):
  Ret Tryz.prog 19 [va,vb] w λr w'=>r=.bool (decide (a=b))/\Ext w w':=by
 obtain ⟨A,U,rfl,G,C,_⟩:=id ha;obtain ⟨B,O,rfl,u,o,_⟩:=id hb;refine Jjc Tryz.func19 Tryz.ntmps19 rfl kr rfl ?_;refine ρ ?_;refine ki 10 (λh=>?_) (λh=>?_)
 .refine ρ ?_;refine cl (Jpj ha hb (BoolsV.nil w none 0)) ?_;rintro x J ⟨⟨c,rfl,_,i⟩,j⟩;refine ρ ?_;refine Jjq ⟨?_,j⟩;rw [show (c == 0)=decide (a=b) by rw [Bool.eq_iff_iff,beq_iff_eq,decide_eq_true_iff,i]]
 .refine ρ ?_;refine Jjq ⟨?_,Ext.refl w⟩;rw [decide_eq_false (λe=>by subst e;exact (Jqk h) rfl)]
open Go.RowKit Pl Go.Wk
theorem RowV.ones{w:World}{ps:List Pr}(h:∀ p∈ps,RowV w p.1 p.2): ∀ u∈ps.map (·.1),u.oneCell'=true:=by
 intro u i;obtain ⟨p,j,rfl⟩:=List.mem_map.1 i;exact (h p j).one
theorem Qhm{w w0:World}{e sz m:Nat}{v:Value}{xs:List Value}(h:w.ownsRow w0.heap.size e sz v m xs): Fresh w0 v:=λj n c e=>by
 rcases h.2 with ⟨i,_⟩|⟨g,cap,cur,i,hb,_⟩
 .rw [i]at e;cases e
 .rw [i]at e;injection e with e _ _;injection e with e;subst e;exact hb
theorem Jph{v vr vd:Value}{l:List Row}{r:Row}{ds:List Bool}{w:World}(hl:RowsV w v l)(hr:RowV w vr r)(hd:BoolsV w vd ds)(hlt:Lt ds l)(hlen:l.length<=1000000):
  Ret Tryz.prog 93 [v,vr,vd] w λx w'=>RowsV w' x (Jpk ds l r)/\Ext w w'/\(x=v∨Fresh w x):=by
 obtain ⟨ps,A,c,rfl,rfl,h3,h4,h5,h6⟩:=id hl;have hn:ps.length<=1000000:=by simpa using hlen
 obtain ⟨B,bc,ac,am,ak,aj⟩:=id hr;refine Jjc Tryz.func93 Tryz.ntmps93 rfl kr rfl ?_;refine ρ ?_;refine Jqq (λk=>[(0,.slice A ps.length c),(1,vr),(2,vd),(7,.int .i64 ((k:Nat):Int))])
  (λk w'=>Ext w w'/\k<=ps.length/\∀ i,i<k->Jxg ((ps.map (·.2)).getD i []) r ds<0) (λk=>ps.length-k) 0 sB ⟨Ext.refl w,Nat.zero_le _,λi hi=>om⟩ ?_
 rintro k w1 ⟨C,hk,G⟩;refine ρ ?_;refine Jzn (fun (t:Bool)=>[(0,.slice A ps.length c),(1,vr),(2,vd),(7,.int .i64 ((k:Nat):Int)),(22,.bool t)])
  (λt w2=>Ext w1 w2/\t=decide (k<ps.length/\Jxg ((ps.map (·.2)).getD k []) r ds<0)) ?_ ?_
 .refine ki 13 (λh=>?_) (λh=>?_)
  .have hlt:k<ps.length:=by have:=oT h;omega
   refine ρ ?_;refine ix k (h5.ext C) hlt ?_;refine ρ ?_;refine ld ((h5.ext C).cell (Jll hlt)) ?_;refine ρ ?_;refine cl (Jpj ((h6 _ (getD_mem' z0 ps hlt)).ext C) (hr.ext C) (hd.ext C)) ?_;rintro x w2 ⟨⟨cc,rfl,ah,ai⟩,a3⟩;refine ρ ?_;refine Jjn _ sB ⟨a3,?_⟩;rw [Bool.eq_iff_iff,decide_eq_true_iff,decide_eq_true_iff,ah,Jpq];exact ⟨λh=>⟨hlt,h⟩,λh=>h.2⟩
  .have hlt:¬ k<ps.length:=by have:=oF h;omega
   refine ρ ?_;exact Jjn false sB ⟨Ext.refl _,(dF (λh=>hlt h.1)).symm⟩
 rintro t w2 ⟨a3,rfl⟩;have j:=C.trans a3;refine ρ ?_;refine ci (λh=>?_) (λh=>?_)
 .obtain ⟨hlt,hc⟩:=oT h;refine ρ ?_;refine Jjv (k+1) sB ⟨j,om,λi hi=>?_⟩ om;by_cases e:i=k
  .rw [e];exact hc
  .exact G i om
 have a4:=oF h;obtain ⟨a9,a1⟩:=Xqw hlt (r:=r) (k:=k) (by simpa using hk) (by
  by_cases h0:k=0
  .exact .inl h0
  .exact .inr (G (k-1) om)) (by
  by_cases h0:k<ps.length
  .exact .inr (λh'=>a4 ⟨h0,h'⟩)
  .exact .inl (by simp;omega))
 refine ρ ?_;refine Jzn (fun (t:Bool)=>[(0,.slice A ps.length c),(1,vr),(7,.int .i64 ((k:Nat):Int)),(36,.bool t)])
  (λt w3=>Ext w2 w3/\t=decide (r∈ps.map (·.2))) ?_ ?_
 .refine ki 29 (λh=>?_) (λh=>?_)
  .have hlt:k<ps.length:=by have:=oT h;omega
   refine ρ ?_;refine ix k (h5.ext j) hlt ?_;refine ρ ?_;refine ld ((h5.ext j).cell (Jll hlt)) ?_;refine ρ ?_;refine cl (Jpf ((h6 _ (getD_mem' z0 ps hlt)).ext j) (hr.ext j)) ?_;rintro x w3 ⟨rfl,a2⟩;refine ρ ?_;refine Jjn _ sB ⟨a2,?_⟩;rw [Bool.eq_iff_iff,decide_eq_true_iff,decide_eq_true_iff,a1,Jpq];exact ⟨λh=>⟨by simpa using hlt,h⟩,λh=>h.2⟩
  .have hlt:¬ k<ps.length:=by have:=oF h;omega
   refine ρ ?_;refine Jjn false sB ⟨Ext.refl _,(dF (λh=>?_)).symm⟩;have:=(a1.1 h).1;simp at this;omega
 rintro t w3 ⟨a2,rfl⟩;have o:=j.trans a2;refine ρ ?_;refine ci (λh=>?_) (λh=>?_)
 .have a5:=oT h;refine ρ ?_;refine Jjq ⟨?_,o,.inl rfl⟩;unfold Jpk;rw [if_pos a5];exact hl.ext o
 have a5:=oF h;have Z:=RowV.ones h6;refine ρ ?_;refine bsl Qmr ?_;intro w4 b ab ao af;have U:=o.trans ab;refine ρ ?_;refine slh k ?_;refine ρ ?_;refine apo (a:=w) U ER (af.own (n:=0) (by have:=o.size;omega) rfl (Nat.zero_le _)) ((h5.ext U).take (m:=k) hk) (λu hu=>Z u (List.mem_of_mem_take hu)) (by unfold maxLen;omega) om ?_;intro v5 w5 a8 aa _ _;rw [Nat.mul_one]at a8;refine ρ ?_;refine bsl (λw=>Qyx vr w B _ bc ac) ?_;intro w6 b6 a7 an ae;refine ρ ?_;refine apo (a:=w) (aa.trans a7) ER (Jjb a8 a7) ae.one (λu hu=>by rw [List.mem_singleton.1 hu];exact hr.one) (by unfold maxLen;omega) om ?_;intro v7 w7 ad a6 _ _;refine ρ ?_;refine sll k ?_;refine ρ ?_;refine apo (a:=w) a6 ER ad ((h5.ext a6).drop (k:=k) (c:=c) hk h3) (λu hu=>Z u (List.mem_of_mem_drop hu)) (by unfold maxLen;omega) om ?_;intro v8 w8 O J _ _;rw [Nat.mul_one]at O;refine ρ ?_;refine Jjq ⟨?_,J,.inr (Qhm O)⟩
 have e0:Jpk ds (ps.map (·.2)) r=(ps.take k++[(vr,r)]++ps.drop k).map (·.2):=by
  unfold Jpk;rw [if_neg a5,a9];simp
 have el:(ps.take k++[(vr,r)]++ps.drop k).length=0+k+1+(ps.length-k):=by simp;omega
 have ec:(ps.take k++[(vr,r)]++ps.drop k).map (·.1)=[]++(ps.map (·.1)).take k++[vr]++(ps.map (·.1)).drop k:=by simp
 rw [e0];obtain ⟨A8,c8,rfl,ag,_⟩:=Jjd O;refine ⟨_,A8,c8,rfl,by rw [el],by rw [el];exact ag,by rw [el];omega,by rw [el,ec];exact Rd.own O,λp G=>?_⟩;simp only [List.mem_append,List.mem_singleton]at G;rcases G with (G|G)|G
 .exact (h6 p (List.mem_of_mem_take G)).ext J
 .rw [G];exact hr.ext J
 .exact (h6 p (List.mem_of_mem_drop G)).ext J
end Go.Proofs.YtefpailelagbkaaGreatDoor
namespace Go.Proofs.YtefpailelagbkaaGreatDoor
open Pl Go.Wk
theorem Jsh{α:Type}: ∀ {l m:List α},l.Nodup->(∀ x∈l,x∈m)->l.length<=m.length
 | [],_,_,_=>Nat.zero_le _
 | x::l,m,hn,hs=>by
  obtain ⟨a,b,rfl⟩:=List.append_of_mem (hs x mC);have hn':=List.nodup_cons.1 hn;have:=Jsh (l:=l) (m:=a++b) hn'.2 λy hy=>by
   have h1:=hs y (List.mem_cons_of_mem _ hy);rcases List.mem_append.1 h1 with h2|h2
   .exact List.mem_append_left _ h2
   .rcases List.mem_cons.1 h2 with rfl|h2
    .exact absurd hy hn'.1
    .exact List.mem_append_right _ h2
  simp only [List.length_append,List.length_cons]at this ⊢;omega
def Qqz(rs:Nat->List Row): Nat->List (List Row)
 | 0=>[[]]
 | m+1=>(Qqz rs m).flatMap λc=>(rs m).map λr=>c++[r]
theorem Qqx(rs:Nat->List Row): ∀ m,(Qqz rs m).length=Jjz m λi=>(rs i).length
 | 0=>rfl
 | m+1=>by
  rw [Qqz,Jjz,<-Qqx rs m];generalize Qqz rs m=l
  induction l with
  | nil=>simp
  | cons c l ih=>rw [List.flatMap_cons,List.length_append,ih,List.length_map,List.length_cons,Nat.succ_mul,Nat.add_comm]
theorem Qqw{rs:Nat->List Row}(g:Nat->Row): ∀ m,(∀ i,i<m->g i∈rs i)->(List.range m).map g∈Qqz rs m
 | 0,_=>by simp [Qqz]
 | m+1,h=>by
  rw [List.range_succ,List.map_append,Qqz,List.mem_flatMap];refine ⟨_,Qqw g m λi hi=>h i om,?_⟩;exact List.mem_map.2 ⟨g m,h m om,rfl⟩
theorem Qyn{rs:Nat->List Row}{m:Nat}{l:List Row}(F:(Nat->Row)->Row)(hF:∀ g g',(∀ i,i<m->g i=g' i)->F g=F g')(hn:l.Nodup)(h:∀ x∈l,∃ g:Nat->Row,(∀ i,i<m->g i∈rs i)/\x=F g):
  l.length<=Jjz m λi=>(rs i).length:=by
 rw [<-Qqx];have:=Jsh (m:=(Qqz rs m).map λc=>F λi=>c.getD i []) hn λx j=>by
  obtain ⟨g,o,rfl⟩:=h x j;refine List.mem_map.2 ⟨_,Qqw g m o,hF _ _ λi hi=>?_⟩;simp [List.getD,hi]
 rw [List.length_map]at this;exact this
theorem Qhx{ds:List Bool}{l:List Row}(h:Lt ds l): l.Nodup:=h.imp fun {a b} hab e=>by rw [e,Jxp]at hab;omega
def Qzn(m:Nat)(vars:Nat->List Nat)(g:Nat->Row)(v:Nat): V:=match (List.range m).find? λi=>decide (v∈vars i) with
 | some i=>(g i).getD (lv (vars i) v) V0
 | none=>V0
theorem Jlq{m:Nat}{vars:Nat->List Nat}{g g':Nat->Row}(h:∀ i,i<m->g i=g' i)(v:Nat): Qzn m vars g v=Qzn m vars g' v:=by
 unfold Qzn;cases hf:(List.range m).find? λi=>decide (v∈vars i) with
 | none=>rfl
 | some i=>simp only;rw [h i (List.mem_range.1 (List.mem_of_find?_eq_some hf))]
theorem Qvh{m:Nat}{vars:Nat->List Nat}{g:Nat->Row}{v:Nat}{z:Row}(hasc:∀ i,i<m->Jch (vars i))(hc:∃ i,i<m/\v∈vars i)(h:∀ i,i<m->∀ j,j<(vars i).length->(vars i).getD j 0=v->(g i).getD j V0=z.getD v V0): Qzn m vars g v=z.getD v V0:=by
 unfold Qzn;cases hf:(List.range m).find? λi=>decide (v∈vars i) with
 | none=>
  obtain ⟨i,hi,o⟩:=hc;have:=List.find?_eq_none.1 hf i (List.mem_range.2 hi);simp [o]at this
 | some i=>
  have hi:=List.mem_range.1 (List.mem_of_find?_eq_some hf);have o:v∈vars i:=by simpa using List.find?_some hf
  have:=Jwm (hasc i hi) o;exact h i hi _ this.2.1 this.2.2
theorem Qnb{n m:Nat}{vars:Nat->List Nat}{rs:Nat->List Row}{s:Nat}{l:List Row}(hasc:∀ i,i<m->Jch (vars i))(hc:∀ v,v<n->∃ i,i<m/\v∈vars i)(hs:s<2^n)(hl:Lt [] l)(h:∀ x∈l,∃ z:Row,z.length=n/\x=pmR (bk s 32) z/\Qst m vars rs s z): l.length<=Jjz m λi=>(rs i).length:=by
 refine Qyn (F:=λg=>(bk s 32).map (Qzn m vars g)) (λg g' u=>List.map_congr_left λv _=>Jlq u v) (Qhx hl) λx G=>?_;obtain ⟨z,Z,rfl,C⟩:=h x G;obtain ⟨g,u⟩:∃ g:Nat->Row,∀ i,i<m->g i∈rs i/\∀ j,j<(vars i).length->s.testBit ((vars i).getD j 0)=true->(g i).getD j V0=z.getD ((vars i).getD j 0) V0:=by
  refine ⟨λi=>if hi:i<m then Classical.choose (C i hi) else [],λi hi=>?_⟩;simp only [hi,dite_true];exact Classical.choose_spec (C i hi)
 refine ⟨g,λi hi=>(u i hi).1,?_⟩;unfold pmR;refine List.map_congr_left λv O=>?_;obtain ⟨J,o⟩:=bk_mem.1 O;refine (Qvh hasc (hc v (Jbm hs o)) λi hi j U e=>?_).symm;have:=(u i hi).2 j U (by rw [e];exact o);rw [e]at this;exact this
section
variable (m:Nat) (vars:Nat->List Nat) (rs:Nat->List Row)
def Qfb(vl:List Nat)(r:Row): Bool:=(List.range m).all λi=>(rs i).any λx=>decide (pmR (Jqs (vars i) (Jqd vl &&& Jqd (vars i))) x=pmR (Jqs vl (Jqd vl &&& Jqd (vars i))) r)
def Qlx(v:Nat): List Row:=(List.range m).flatMap λi=>(List.range (vars i).length).flatMap λk=>if (vars i).getD k 0=v then (rs i).map λr=>[r.getD k V0] else []
def Qft(v:Nat): List Row:=(Qlx m vars rs v).foldl (Jpk []) []
def Jcv(v:Nat): List V:=(Qft m vars rs v).map λr=>r.getD 0 V0
def Qzd(vl:List Nat)(k:Nat)(out:List Row): List Row:=out.flatMap λr=>((Jcv m vars rs (vl.getD k 0)).map λx=>r++[x]).filter (Qfb m vars rs (vl.take (k+1)))
def Jcg(vl:List Nat): Nat->List Row
 | 0=>[[]]
 | k+1=>Qzd m vars rs vl k (Jcg vl k)
def Jkm(n:Nat): List Row:=if n=0 then (if Qfb m vars rs [] [] then [[]] else []) else Jcg m vars rs (List.range n) n
end
section
variable {n m:Nat} {vars:Nat->List Nat} {rs:Nat->List Row}
theorem Jys{ds:List Bool}: ∀ (ls:List Row) {done l:List Row},IsSet ds done l->IsSet ds (done++ls) (ls.foldl (Jpk ds) l)
 | [],done,l,h=>by simpa using h
 | r::ls,done,l,h=>by
  rw [List.foldl_cons];have:=Jys ls (Xqx (r:=r) h);rwa [List.append_assoc]at this
theorem Jgx(v:Nat): IsSet [] (Qlx m vars rs v) (Qft m vars rs v):=by
 have:=Jys (ds:=[]) (Qlx m vars rs v) (done:=[]) (l:=[]) ⟨List.Pairwise.nil,λx=>Iff.rfl⟩;rwa [List.nil_append]at this
theorem enumV_mem{v:Nat}{y:Row}: y∈Qlx m vars rs v↔∃ i,i<m/\∃ k,k<(vars i).length/\(vars i).getD k 0=v/\∃ r∈rs i,y=[r.getD k V0]:=by
 unfold Qlx;simp only [List.mem_flatMap,List.mem_range];constructor
 .rintro ⟨i,hi,k,o,h⟩;split at h
  .rename_i e;obtain ⟨r,j,rfl⟩:=List.mem_map.1 h;exact ⟨i,hi,k,o,e,r,j,rfl⟩
  .cases h
 .rintro ⟨i,hi,k,o,e,r,j,rfl⟩;exact ⟨i,hi,k,o,by rw [if_pos e];exact List.mem_map.2 ⟨r,j,rfl⟩⟩
theorem valL_mem{v:Nat}{x:V}: x∈Jcv m vars rs v↔∃ i,i<m/\∃ k,k<(vars i).length/\(vars i).getD k 0=v/\∃ r∈rs i,x=r.getD k V0:=by
 unfold Jcv;rw [List.mem_map];constructor
 .rintro ⟨y,u,rfl⟩;obtain ⟨i,hi,k,o,e,r,j,rfl⟩:=enumV_mem.1 (((Jgx v).2 y).1 u);exact ⟨i,hi,k,o,e,r,j,rfl⟩
 .rintro ⟨i,hi,k,o,e,r,j,rfl⟩;exact ⟨_,((Jgx v).2 _).2 (enumV_mem.2 ⟨i,hi,k,o,e,r,j,rfl⟩),rfl⟩
theorem Jrm{v:Nat}{y:Row}(hy:y∈Qft m vars rs v): ∃ x,y=[x]:=by
 obtain ⟨i,hi,k,o,e,r,j,rfl⟩:=enumV_mem.1 (((Jgx v).2 y).1 hy);exact ⟨_,rfl⟩
theorem Qbj(v:Nat): (Jcv m vars rs v).Nodup:=by
 unfold Jcv List.Nodup;rw [List.pairwise_map];refine List.Pairwise.imp_of_mem (fun {a b} ha hb hab e=>?_) (Jgx (m:=m) (vars:=vars) (rs:=rs) v).1;obtain ⟨x,rfl⟩:=Jrm ha;obtain ⟨y,rfl⟩:=Jrm hb;simp only [List.getD_cons_zero]at e;subst e;rw [Jxp]at hab;omega
theorem Qcx{α β:Type}{f:α->List β}{l:List α}(h1:l.Nodup)(h2:∀ a∈l,(f a).Nodup)(h3:∀ a∈l,∀ b∈l,∀ x,x∈f a->x∈f b->a=b): (l.flatMap f).Nodup:=by
 induction l with
 | nil=>exact List.Pairwise.nil
 | cons a l ih=>
  obtain ⟨J,G⟩:=List.nodup_cons.1 h1;rw [List.flatMap_cons,List.nodup_append];refine ⟨h2 a mC,ih G (λb i=>h2 b (List.mem_cons_of_mem _ i)) (λb i c C=>h3 b (List.mem_cons_of_mem _ i) c (List.mem_cons_of_mem _ C)),λx u y o e=>?_⟩;subst e;obtain ⟨b,i,j⟩:=List.mem_flatMap.1 o;have:=h3 a mC b (List.mem_cons_of_mem _ i) x u j;subst this;exact J i
theorem Qzc{vl:List Nat}{k:Nat}{out:List Row}(h:out.Nodup): (Qzd m vars rs vl k out).Nodup:=by
 unfold Qzd;refine Qcx h (λr _=>?_) λa _ b _ x j i=>?_
 .refine List.Pairwise.sublist List.filter_sublist ?_;show (List.map _ _).Nodup;unfold List.Nodup;rw [List.pairwise_map];refine (Qbj (m:=m) (vars:=vars) (rs:=rs) (vl.getD k 0)).imp fun {x y} hxy e=>hxy ?_
  have:=List.append_cancel_left e;simpa using this
 .obtain ⟨u,G,rfl⟩:=List.mem_map.1 (List.mem_filter.1 j).1;obtain ⟨o,C,e⟩:=List.mem_map.1 (List.mem_filter.1 i).1;have:=congrArg List.dropLast e;simpa using this.symm
theorem Jrg(vl:List Nat): ∀ k,(Jcg m vars rs vl k).Nodup
 | 0=>by simp [Jcg]
 | k+1=>Qzc (Jrg vl k)
def Qss(m:Nat)(vars:Nat->List Nat)(rs:Nat->List Row)(k:Nat)(z:Row): Prop:=∀ i,i<m->∃ x∈rs i,∀ j,j<(vars i).length->(vars i).getD j 0<k->x.getD j V0=z.getD ((vars i).getD j 0) V0
theorem Jkc{n i:Nat}(h:i<n): (List.range n).getD i 0=i:=by simp [List.getD,h]
theorem Qdl(k s:Nat): Jqs (List.range k) s=(List.range k).filter λu=>s.testBit u:=by
 unfold Jqs;rw [List.length_range];exact List.filter_congr λu i=>by rw [Jkc (List.mem_range.1 i)]
theorem Qdv{l:List Nat}{k:Nat}{p:Nat->Bool}(ha:Jch l)(hp:∀ u,p u=true↔u∈l): (List.range k).filter p=l.filter λu=>decide (u<k):=by
 have key:∀ {a b:List Nat},Jch a->Jch b->(∀ u,u∈a↔u∈b)->a=b:=by
  intro a;induction a with
  | nil=>
   intro b _ _ h;cases b with
   | nil=>rfl
   | cons y b=>have:=(h y).2 mC;cases this
  | cons x a ih=>
   intro b ha G h;cases b with
   | nil=>have:=(h x).1 mC;cases this
   | cons y b=>
    obtain ⟨C,Z⟩:=List.pairwise_cons.1 ha;obtain ⟨o,U⟩:=List.pairwise_cons.1 G;have j:x=y:=by
     have O:=(h x).1 mC;have J:=(h y).2 mC;rcases List.mem_cons.1 O with h3|h3
     .exact h3
     .rcases List.mem_cons.1 J with h4|h4
      .exact h4.symm
      .have:=C y h4;have:=o x h3;omega
    subst j;rw [ih Z U λu=>?_];constructor
    .intro i;rcases List.mem_cons.1 ((h u).1 (List.mem_cons_of_mem _ i)) with h3|h3
     .subst h3;have:=C u i;omega
     .exact h3
    .intro i;rcases List.mem_cons.1 ((h u).2 (List.mem_cons_of_mem _ i)) with h3|h3
     .subst h3;have:=o u i;omega
     .exact h3
 refine key (List.Pairwise.sublist List.filter_sublist List.pairwise_lt_range) (List.Pairwise.sublist List.filter_sublist ha) λu=>?_;simp only [List.mem_filter,List.mem_range,decide_eq_true_eq,hp];exact ⟨λh=>⟨h.2,h.1⟩,λh=>⟨h.2,h.1⟩⟩
theorem Jsw(hasc:∀ i,i<m->Jch (vars i))(hlen:∀ i,i<m->∀ r∈rs i,r.length=(vars i).length)(k:Nat)(z:Row): Qfb m vars rs (List.range k) z=true↔Qss m vars rs k z:=by
 unfold Qfb Qss;simp only [List.all_eq_true,List.mem_range,List.any_eq_true,decide_eq_true_eq];refine ⟨λh i hi=>?_,λh i hi=>?_⟩;all_goals
  have o:∀ u,(Jqd (List.range k) &&& Jqd (vars i)).testBit u=true↔u<k/\u∈vars i:=λu=>by
   rw [Nat.testBit_and,Bool.and_eq_true,edgeOf_bit,edgeOf_bit,List.mem_range]
  obtain ⟨x,O,e⟩:=h i hi;refine ⟨x,O,?_⟩;have U:Jqs (List.range k) (Jqd (List.range k) &&& Jqd (vars i))=inS (vars i) (Jqd (List.range k) &&& Jqd (vars i)):=by
   rw [Qdl];have:(List.range k).filter (λu=>(Jqd (List.range k) &&& Jqd (vars i)).testBit u)=(List.range k).filter λu=>decide (u∈vars i):=List.filter_congr λu J=>by
    rw [Bool.eq_iff_iff,o u,decide_eq_true_eq];exact ⟨λh=>h.2,λh=>⟨List.mem_range.1 J,h⟩⟩
   rw [this,Qdv (hasc i hi) λu=>by simp];unfold inS;refine List.filter_congr λu J=>?_;rw [Bool.eq_iff_iff,o u,decide_eq_true_eq];exact ⟨λh=>⟨h,J⟩,λh=>h.1⟩
  have G:=Qkq (vars:=vars i) (s:=Jqd (List.range k) &&& Jqd (vars i)) (r:=x) (z:=z) (hlen i hi x O) (vars i).length (Nat.le_refl _);rw [List.take_length]at G;have e3:Jwd (vars i) (Jqd (List.range k) &&& Jqd (vars i)) (vars i).length=Jqs (vars i) (Jqd (List.range k) &&& Jqd (vars i)):=rfl;rw [e3]at G
 .rw [U]at e;intro j C Z;exact G.1 e j C ((o _).2 ⟨Z,getD_mem' 0 _ C⟩)
 .rw [U];exact G.2 λj C hb=>e j C ((o _).1 hb).1
theorem Qlq{k l:Nat}{z:Row}(hkl:k<=l): Qss m vars rs k (z.take l)↔Qss m vars rs k z:=by
 unfold Qss;refine forall_congr' λi=>forall_congr' λhi=>exists_congr λx=>and_congr_right λu=>forall_congr' λj=>forall_congr' λC=>?_;refine ⟨λh o=>?_,λh o=>?_⟩
 .have:=h o;rwa [Pl.getD_take V0 om]at this
 .rw [Pl.getD_take V0 om];exact h o
theorem Jhh(hasc:∀ i,i<m->Jch (vars i))(hlen:∀ i,i<m->∀ r∈rs i,r.length=(vars i).length)(hn:∀ v,v<n->∃ i,i<m/\v∈vars i): ∀ k,k<=n->∀ z:Row,z∈Jcg m vars rs (List.range n) k↔z.length=k/\(k=0∨Qss m vars rs k z)
 | 0,_,z=>by
  rw [Jcg,List.mem_singleton];exact ⟨λh=>by subst h;exact ⟨rfl,.inl rfl⟩,λh=>List.eq_nil_of_length_eq_zero h.1⟩
 | k+1,hk,z=>by
  have ih:=Jhh hasc hlen hn k om;rw [Jcg];unfold Qzd;rw [Jkc om,Qcb om];simp only [List.mem_flatMap,List.mem_filter,List.mem_map];constructor
  .rintro ⟨r,hr,⟨x,hx,rfl⟩,hf⟩;have h1:=(ih r).1 hr;exact ⟨by simp [h1.1],.inr ((Jsw hasc hlen (k+1) _).1 hf)⟩
  .rintro ⟨hl,h⟩;have hf:Qss m vars rs (k+1) z:=h.resolve_left om;have hz:z=z.take k++[z.getD k V0]:=Qgl V0 hl;refine ⟨z.take k,(ih _).2 ⟨by rw [List.length_take];omega,?_⟩,⟨z.getD k V0,?_,hz.symm⟩,(Jsw hasc hlen (k+1) _).2 hf⟩
   .refine .inr ((Qlq (Nat.le_refl _)).2 λi hi=>?_);obtain ⟨x,hx,h1⟩:=hf i hi;exact ⟨x,hx,λj hj hjk=>h1 j hj om⟩
   .obtain ⟨i,hi,hv⟩:=hn k om;obtain ⟨x,hx,h1⟩:=hf i hi;have h2:=Jwm (hasc i hi) hv;refine valL_mem.2 ⟨i,hi,_,h2.2.1,h2.2.2,x,hx,?_⟩;have:=h1 _ h2.2.1 (by rw [h2.2.2];omega);rw [h2.2.2]at this;exact this.symm
theorem Jrh(hasc:∀ i,i<m->Jch (vars i))(hlen:∀ i,i<m->∀ r∈rs i,r.length=(vars i).length)(hn:∀ v,v<n->∃ i,i<m/\v∈vars i){k:Nat}(hk:k<=n): (Jcg m vars rs (List.range n) k).length<=max 1 (Jjz m λi=>(rs i).length):=by
 by_cases h0:k=0
 .subst h0;simp only [Jcg,List.length_singleton];omega
 .refine nL (Qyn (F:=λg=>(List.range k).map (Qzn m vars g)) (λg g' o=>List.map_congr_left λv _=>Jlq o v) (Jrg _ k) λx G=>?_) (Nat.le_max_right _ _);obtain ⟨h1,Z⟩:=(Jhh hasc hlen hn k hk x).1 G;have C:Qss m vars rs k x:=Z.resolve_left h0;obtain ⟨g,o⟩:∃ g:Nat->Row,∀ i,i<m->g i∈rs i/\∀ j,j<(vars i).length->(vars i).getD j 0<k->(g i).getD j V0=x.getD ((vars i).getD j 0) V0:=by
   refine ⟨λi=>if hi:i<m then Classical.choose (C i hi) else [],λi hi=>?_⟩;simp only [hi,dite_true];exact Classical.choose_spec (C i hi)
  refine ⟨g,λi hi=>(o i hi).1,?_⟩;apply List.ext_getElem
  .simp [h1]
  .intro v u J;have O:=Qvh (g:=g) (z:=x) hasc (hn v om) λi hi j U e=>by
    have:=(o i hi).2 j U om;rw [e]at this;exact this
   rw [List.getElem_map,List.getElem_range,O];simp [List.getD,u]
theorem Jmf(hasc:∀ i,i<m->Jch (vars i))(hlen:∀ i,i<m->∀ r∈rs i,r.length=(vars i).length)(hlt:∀ i,i<m->∀ v∈vars i,v<n)(hn:∀ v,v<n->∃ i,i<m/\v∈vars i)(z:Row): z∈Jkm m vars rs n↔Jtv n m vars rs z:=by
 have key:z.length=n->(Qss m vars rs n z↔∀ i,i<m->pmR (vars i) z∈rs i):=λu=>by
  constructor
  .intro h i hi;obtain ⟨x,J,G⟩:=h i hi;have:pmR (vars i) z=x:=by
    apply List.ext_getElem
    .rw [Jqx,hlen i hi x J]
    .intro j o h3;rw [Jqx]at o;have Z:(vars i).getD j 0<n:=hlt i hi _ (getD_mem' 0 _ o);have O:=G j o Z;have e1:(vars i).getD j 0=(vars i)[j]:=by simp [List.getD,o]
     have e2:x.getD j V0=x[j]:=by simp [List.getD,h3]
     rw [e1,e2]at O;simp only [pmR,List.getElem_map];exact O.symm
   rw [this];exact J
  .intro h i hi;refine ⟨_,h i hi,λj U _=>?_⟩;unfold pmR;simp [List.getD,U]
 unfold Jkm Jtv;split
 .rename_i h0;subst h0;have C:=Jsw (vars:=vars) (rs:=rs) hasc hlen 0 [];rw [List.range_zero]at C;constructor
  .intro h;split at h
   .rename_i hb;rw [List.mem_singleton.1 h];exact ⟨rfl,(by have:=key;rw [List.mem_singleton.1 h]at this;exact (this rfl).1 (C.1 hb))⟩
   .cases h
  .rintro ⟨G,o⟩;have u:z=[]:=List.eq_nil_of_length_eq_zero G;subst u;rw [if_pos (C.2 ((key rfl).2 o))];exact List.mem_singleton.2 rfl
 .rename_i h0;rw [Jhh hasc hlen hn n (Nat.le_refl _) z];exact and_congr_right λu=>⟨λh=>(key u).1 (h.resolve_left h0),λh=>.inr ((key u).2 h)⟩
theorem Qqd(hasc:∀ i,i<m->Jch (vars i))(hlen:∀ i,i<m->∀ r∈rs i,r.length=(vars i).length)(hn:∀ v,v<n->∃ i,i<m/\v∈vars i): (Jkm m vars rs n).length<=max 1 (Jjz m λi=>(rs i).length):=by
 unfold Jkm;split
 .split<;>simp<;>omega
 .exact Jrh hasc hlen hn (Nat.le_refl _)
end
end Go.Proofs.YtefpailelagbkaaGreatDoor
