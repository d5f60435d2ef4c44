/- Part 41 of the proof: Rf1, Rp. -/
import Derived.Test.YtefpailelagbkaaGreatDoorJ40
import Derived.ChangeKeysEq
set_option linter.unusedVariables false
set_option maxRecDepth 100000
set_option maxHeartbeats 40000000
namespace Go.Proofs.YtefpailelagbkaaGreatDoor
open Go.RowKit Pl Go.Wk
attribute [local irreducible] WC WL QX WD WDB WP
theorem Qnd: ∀ (x y:List UInt8),(Lib.compareBytes x y<0)↔Op.bytesLess x y=true
 | [],[]=>by simp [Lib.compareBytes,Op.bytesLess]
 | [],_::_=>by simp [Lib.compareBytes,Op.bytesLess]
 | _::_,[]=>by simp [Lib.compareBytes,Op.bytesLess]
 | a::x,b::y=>by
  have ih:=Qnd x y;simp only [Lib.compareBytes,Op.bytesLess];by_cases h:a<b
  ·rw [if_pos h];simp [h]
  ·rw [if_neg h];by_cases h2:b<a
   ·rw [if_pos h2];have:a≠b:=by intro e;subst e;exact h h2
    simp [h,this]
   ·rw [if_neg h2,ih];have:a=b:=by
     apply UInt8.toNat_inj.1
     have h3:¬ a.toNat<b.toNat:=λh'=>h (UInt8.lt_iff_toNat_lt.2 h');have h4:¬ b.toNat<a.toNat:=λh'=>h2 (UInt8.lt_iff_toNat_lt.2 h');omega
    simp [this]
def eqv(a b:V): Bool:=(a.kind == b.kind) && (a.num == b.num) && (a.str.toList == b.str.toList)
theorem V.bytes_eq(a:V): a.str.toList=a.bytes:=by rw [V.bytes,ByteArray.toList_eq]
theorem Qmn(a b:V): eqv a b=true↔a=b:=by
 unfold eqv;simp only [Bool.and_eq_true,beq_iff_eq];constructor
 ·rintro ⟨⟨h1,h2⟩,h3⟩;exact V.ext h1 h2 (by rw [<-V.bytes_eq,<-V.bytes_eq,h3])
 ·rintro rfl;exact ⟨⟨rfl,rfl⟩,rfl⟩
theorem eqV(a b:V)(w:World): (binOp .eql 71 a.val b.val).run Tryz.prog w=.ok (.bool (eqv a b)) w:=by
 rw [V.val,V.val,run_eql_struct,run_equalIn_agg w 9999 71 _ _ (by kernel_rfl) (by kernel_rfl)];have e:∃ f1 f2 f3:Field,(Tryz.prog.fieldsOf 71).toList=[f1,f2,f3]/\(f1.name≠"_"/\f1.type=3/\f1.offset=0)/\(f2.name≠"_"/\f2.type=2/\f2.offset=1)/\(f3.name≠"_"/\f3.type=9/\f3.offset=2) :=
  ⟨_,_,_,rfl,⟨by decide,rfl,rfl⟩,⟨by decide,rfl,rfl⟩,⟨by decide,rfl,rfl⟩⟩
 obtain ⟨f1,f2,f3,h0,⟨n1,t1,o1⟩,⟨n2,t2,o2⟩,⟨n3,t3,o3⟩⟩:=e;rw [h0];simp only [Op.eqFields,if_pos n1,if_pos n2,if_pos n3,t1,t2,t3,o1,o2,o3,Sem.run_bind];have p1:∀ v:V,(part 3 #[.int .i64 v.kind,.int .i64 v.num,.string v.str] 0).run Tryz.prog w=.ok (.int .i64 v.kind) w:=λv=>run_part_plain w (by kernel_rfl) rfl;have p2:∀ v:V,(part 2 #[.int .i64 v.kind,.int .i64 v.num,.string v.str] 1).run Tryz.prog w=.ok (.int .i64 v.num) w:=λv=>run_part_plain w (by kernel_rfl) rfl;have p3:∀ v:V,(part 9 #[.int .i64 v.kind,.int .i64 v.num,.string v.str] 2).run Tryz.prog w=.ok (.string v.str) w:=λv=>run_part_plain w (by kernel_rfl) rfl;rw [p1 a];simp only [Result.andThen_ok];rw [p1 b];simp only [Result.andThen_ok];rw [run_equalIn_int w 9998 3 .i64 .i64 _ _ (by kernel_rfl)];simp only [Result.andThen_ok];unfold eqv;cases h1:(a.kind == b.kind) with
 | false=>simp
 | true=>
  simp only [Bool.not_true,Bool.false_eq_true,if_false,Bool.true_and,Sem.run_bind];rw [p2 a];simp only [Result.andThen_ok];rw [p2 b];simp only [Result.andThen_ok];rw [run_equalIn_int w 9998 2 .i64 .i64 _ _ (by kernel_rfl)];simp only [Result.andThen_ok];cases h2:(a.num == b.num) with
  | false=>simp
  | true=>
   simp only [Bool.not_true,Bool.false_eq_true,if_false,Bool.true_and,Sem.run_bind];rw [p3 a];simp only [Result.andThen_ok];rw [p3 b];simp only [Result.andThen_ok];rw [run_equalIn_string w 9998 9 _ _ (by kernel_rfl)];simp only [Result.andThen_ok];cases h3:(a.str.toList == b.str.toList)<;>simp
theorem Xjh(a b:Int): sgn a b<0↔a<b:=by
 unfold sgn;by_cases h:a<b
 ·rw [if_pos h];omega
 ·rw [if_neg h];by_cases h2:b<a
  ·rw [if_pos h2];omega
  ·rw [if_neg h2];omega
def Qqv(a b:V): Bool:=decide (a.kind<b.kind) || ((a.kind == b.kind) && (decide (a.num<b.num) || ((a.num == b.num) && Op.bytesLess a.str.toList b.str.toList)))
theorem Qqt(a b:V): Qqv a b=true↔cmpV a b<0:=by
 unfold Qqv cmpV;by_cases h:a.kind=b.kind
 ·rw [if_neg (not_not_intro h)];by_cases h2:a.num=b.num
  ·rw [if_neg (not_not_intro h2),Qnd,<-V.bytes_eq,<-V.bytes_eq];simp [h,h2]
  ·rw [if_pos h2,Xjh];simp only [h,beq_self_eq_true,Bool.true_and,Int.lt_irrefl,decide_false,Bool.false_or];have:(a.num == b.num)=false:=Qfl h2;rw [this,Bool.false_and,Bool.or_false,decide_eq_true_iff]
 ·rw [if_pos h,Xjh];have:(a.kind == b.kind)=false:=Qfl h;rw [this,Bool.false_and,Bool.or_false,decide_eq_true_iff]
theorem Qcq(a b:V)(w:World): Ret Tryz.prog 94 [a.val,b.val] w λr w'=>r=.int .i64 (cmpV a b)/\Ext w w':=by
 refine Jjb Tryz.func94 Tryz.ntmps94 rfl (by kernel_rfl) rfl ?_;refine ρ ?_;refine bx ?_;intro w1 b1 hx1 hb1 hk1;refine ρ ?_;refine bx ?_;intro w2 b2 hx2 hb2 hk2;have hk1:=hk1.ext hx2;have hx:=hx1.trans hx2;refine ρ ?_;refine lds (cs:=a.cells) (λj u hu=>hk1.at hu) ?_;refine ρ ?_;refine lds (cs:=b.cells) (λj u hu=>hk2.at hu) ?_;refine ρ ?_;refine weqs (by kernel_rfl) (eqV a b w2) ?_;refine ρ ?_;refine ci (λh=>?_) (λh=>?_)
 ·refine ρ ?_;have:=(Qmn a b).1 h;subst this;exact Jjq ⟨by rw [Jqk],hx⟩
 have hne:cmpV a b≠0:=λe=>by
  have:=(Qmn a b).2 (cmp_V.zero _ _ e);rw [h]at this;cases this
 refine ρ ?_;refine Jzm (fun (t:Bool)=>[(40,.bool t)]) (λt w3=>t=Qqv a b/\w3=w2) ?_ ?_
 ·refine ld (hk1.at (i:=0) rfl) ?_;refine ρ ?_;refine ld (hk2.at (i:=0) rfl) ?_;refine ρ ?_;refine ki 13 (λh1=>?_) (λh1=>?_)
  ·refine ρ ?_;exact Jjn true sB ⟨by unfold Qqv;rw [h1];rfl,rfl⟩
  refine ρ ?_;refine ld (hk1.at (i:=0) rfl) ?_;refine ρ ?_;refine ld (hk2.at (i:=0) rfl) ?_;refine ρ ?_;refine ki 19 (λh2=>?_) (λh2=>?_)
  ·refine ρ ?_;refine ld (hk1.at (i:=1) rfl) ?_;refine ρ ?_;refine ld (hk2.at (i:=1) rfl) ?_;refine ρ ?_;refine ki 25 (λh3=>?_) (λh3=>?_)
   ·refine ρ ?_;exact Jjn true sB ⟨by unfold Qqv;rw [h1,h2,h3];rfl,rfl⟩
   refine ρ ?_;refine ld (hk1.at (i:=1) rfl) ?_;refine ρ ?_;refine ld (hk2.at (i:=1) rfl) ?_;refine ρ ?_;refine ki 31 (λh4=>?_) (λh4=>?_)
   ·refine ρ ?_;refine ld (hk1.at (i:=2) rfl) ?_;refine ρ ?_;refine ld (hk2.at (i:=2) rfl) ?_;refine ρ ?_;exact Jjn _ sB ⟨by unfold Qqv;rw [h1,h2,h3,h4];rfl,rfl⟩
   ·refine ρ ?_;exact Jjn false sB ⟨by unfold Qqv;rw [h1,h2,h3,h4];rfl,rfl⟩
  ·refine ρ ?_;exact Jjn false sB ⟨by unfold Qqv;rw [h1,h2];rfl,rfl⟩
 rintro t w3 ⟨rfl,rfl⟩;refine ρ ?_;have h3:=Xjx a b;refine ci (λh=>?_) (λh=>?_)
 ·have:=(Qqt a b).1 h;refine ρ ?_;refine Jjq ⟨?_,hx⟩;rw [show cmpV a b = -1 by omega]
 ·have:¬ cmpV a b<0:=λh'=>by rw [(Qqt a b).2 h']at h;cases h
  refine ρ ?_;refine Jjq ⟨?_,hx⟩;rw [show cmpV a b=1 by omega]
theorem Jpt{va vb vd:Value}{a b:Row}{ds:List Bool}{w:World}(ha:RowV w va a)(hb:RowV w vb b)(hd:BoolsV w vd ds):
  Ret Tryz.prog 58 [va,vb,vd] w λr w'=>(∃ c:Int,r=.int .i64 c/\(c<0↔Jxg a b ds<0)/\(c=0↔a=b))/\Ext w w':=by
 obtain ⟨A,ac,rfl,hac,ham,ha⟩:=ha;obtain ⟨B,bc,rfl,hbc,hbm,hb⟩:=hb;obtain ⟨D,dc,rfl,hdc,hdm,hd⟩:=hd;refine Jjb Tryz.func58 Tryz.ntmps58 rfl (by kernel_rfl) rfl ?_;refine ρ ?_;refine Jqn (λk=>[(0,.slice A a.length ac),(1,.slice B b.length bc),(2,.slice D ds.length dc),(7,.int .i64 ((k:Nat):Int))])
  (λk w'=>Ext w w'/\k<=a.length/\k<=b.length/\Jxg a b ds=Jxg (a.drop k) (b.drop k) (ds.drop k)) (λk=>a.length-k) 0 sB ⟨Ext.refl w,Nat.zero_le _,Nat.zero_le _,rfl⟩ ?_
 rintro k w1 ⟨hx,hka,hkb,he⟩;have ha1:=ha.ext hx;have hb1:=hb.ext hx;have sgl:∀ c:Int,c=Jxg a b ds->(c<0↔Jxg a b ds<0)/\(c=0↔a=b):=λc hc=>by
  subst hc;exact ⟨Iff.rfl,λh=>Jvt _ _ _ h,λh=>by rw [h];exact Jxq _ _⟩
 have out:(a.length<=k∨b.length<=k)->(((a.length:Int)-(b.length:Int)<0↔Jxg a b ds<0)/\((a.length:Int)-(b.length:Int)=0↔a=b)):=λh=>by
  have e:=Qbl (ds:=ds) h hka hkb;rw [<-he]at e;have hz:Jxg a b ds=0↔a=b:=⟨Jvt _ _ _,λh=>by rw [h];exact Jxq _ _⟩;rw [<-hz,e];rcases Nat.lt_trichotomy a.length b.length with h1|h1|h1
  ·rw [if_pos h1];omega
  ·rw [if_neg (by omega),if_neg (by omega)];omega
  ·rw [if_neg (by omega),if_pos h1];omega
 refine ρ ?_;refine ki 13 (λh=>?_) (λh=>?_)
 ·have hla:k<a.length:=by have:=of_decide_eq_true h;omega
  refine ρ ?_;refine ci (λh=>?_) (λh=>?_)
  ·have hlb:k<b.length:=by have:=of_decide_eq_true h;omega
   refine ρ ?_;refine dr [(0,0),(0,1),(0,2),(0,3),(0,4),(0,5),(0,6),(0,7),(1,8),(0,9)] (by kernel_rfl) ?_;have hxd:Ext w1 w1.drew:=(Ext.refl w1).drew;have ha2:=ha1.ext hxd;have hb2:=hb1.ext hxd;refine ρd ?_;refine Qsl 3 k ha2 hla ?_;refine ρd ?_;refine Jwv (λj u hu=>RdR.cell ha2 hla hu) ?_;refine ρd ?_;refine Qsl 3 k hb2 hlb ?_;refine ρd ?_;refine Jwv (λj u hu=>RdR.cell hb2 hlb hu) ?_;refine ρd ?_;refine dcl (Qcq (a.getD k V0) (b.getD k V0) _) ?_;rintro x w2 ⟨rfl,hx2⟩;refine ⟨hx2,?_⟩;have hx3:Ext w w2:=(hx.trans hxd).trans hx2;have hd3:=hd.ext hx3;refine ρd ?_;refine ρ ?_;have step:=Qnb (ds:=ds) hla hlb;have neg0:∀ d,neg d (cmpV (a.getD k V0) (b.getD k V0))=0↔cmpV (a.getD k V0) (b.getD k V0)=0:=λd=>by cases d<;>simp [neg]
   refine Jzm (fun (t:Bool)=>[(0,.slice A a.length ac),(1,.slice B b.length bc),(2,.slice D ds.length dc),(7,.int .i64 ((k:Nat):Int)),(8,.int .i64 (cmpV (a.getD k V0) (b.getD k V0))),(39,.bool t)]) (λt w3=>t=ds.getD k false/\w3=w2) ?_ ?_
   ·refine ki 34 (λh=>?_) (λh=>?_)
    ·have hld:k<ds.length:=by have:=of_decide_eq_true h;omega
     refine ρ ?_;refine ix k hd3 hld ?_;refine ρ ?_;refine ld (RdB.cell hd3 hld) ?_;refine ρ ?_;exact Jjn _ sB ⟨rfl,rfl⟩
    ·have h1:ds.getD k false=false:=by
      have:=of_decide_eq_false h;simp [List.getD,List.getElem?_eq_none (show ds.length<=k by omega)]
     refine ρ ?_;exact Jjn false sB ⟨h1.symm,rfl⟩
   rintro t w3 ⟨rfl,rfl⟩;refine ρ ?_;have more:∀ c:Int,c=neg (ds.getD k false) (cmpV (a.getD k V0) (b.getD k V0))->c≠0->c=Jxg a b ds:=λc hc h0=>by
    rw [he,step,if_neg (λe=>h0 (by rw [hc,e,Xbb]))];exact hc
   refine ci (λh1=>?_) (λh1=>?_)
   ·refine ρ ?_;rw [Qvh];rw [h1]at more;refine ci (λh=>?_) (λh=>?_)
    ·refine ρ ?_;exact Jjq ⟨⟨_,rfl,sgl _ (more _ rfl (Jkp h))⟩,hx3⟩
    ·refine ρ ?_;refine Jjt (k+1) sB ⟨hx3,by omega,by omega,?_⟩ (by omega);rw [he,step,if_pos ((neg0 true).1 (Jkq h))]
   ·refine ρ ?_;rw [h1]at more;refine ci (λh=>?_) (λh=>?_)
    ·refine ρ ?_;exact Jjq ⟨⟨_,rfl,sgl _ (more _ rfl (Jkp h))⟩,hx3⟩
    ·refine ρ ?_;refine Jjt (k+1) sB ⟨hx3,by omega,by omega,?_⟩ (by omega);rw [he,step,if_pos (Jkq h)]
  ·have hge:=out (by have:=of_decide_eq_false h;omega);refine ρ ?_;exact Jjq ⟨⟨_,rfl,hge⟩,hx⟩
 ·have hge:=out (by have:=of_decide_eq_false h;omega);refine ρ ?_;exact Jjq ⟨⟨_,rfl,hge⟩,hx⟩
theorem Jbh{va vb:Value}{a b:Row}{w:World}(ha:RowV w va a)(hb:RowV w vb b):
  Ret Tryz.prog 19 [va,vb] w λr w'=>r=.bool (decide (a=b))/\Ext w w':=by
 obtain ⟨A,ac,rfl,hac,ham,_⟩:=id ha;obtain ⟨B,bc,rfl,hbc,hbm,_⟩:=id hb;refine Jjb Tryz.func19 Tryz.ntmps19 rfl (by kernel_rfl) rfl ?_;refine ρ ?_;refine ki 10 (λh=>?_) (λh=>?_)
 ·refine ρ ?_;refine cl (Jpt ha hb (BoolsV.nil w none 0)) ?_;rintro x w1 ⟨⟨c,rfl,_,hz⟩,hx⟩;refine ρ ?_;refine Jjq ⟨?_,hx⟩;rw [show (c == 0)=decide (a=b) by rw [Bool.eq_iff_iff,beq_iff_eq,decide_eq_true_iff,hz]]
 ·refine ρ ?_;refine Jjq ⟨?_,Ext.refl w⟩;rw [decide_eq_false (λe=>by subst e;exact (Jqh h) rfl)]
open Go.RowKit Pl Go.Wk
theorem RowV.ones{w:World}{ps:List Pr}(h:∀ p∈ps,RowV w p.1 p.2): ∀ u∈ps.map (·.1),u.oneCell'=true:=by
 intro u hu;obtain ⟨p,hp,rfl⟩:=List.mem_map.1 hu;exact (h p hp).one
theorem Qlf{w w0:World}{e sz m:Nat}{v:Value}{xs:List Value}(h:w.ownsRow w0.heap.size e sz v m xs): Fresh w0 v:=λad n c e=>by
 rcases h.2 with ⟨h1,_⟩|⟨g,cap,cur,h1,hb,_⟩
 ·rw [h1]at e;cases e
 ·rw [h1]at e;injection e with e _ _;injection e with e;subst e;exact hb
theorem Jps{v vr vd:Value}{l:List Row}{r:Row}{ds:List Bool}{w:World}(hl:RowsV w v l)(hr:RowV w vr r)(hd:BoolsV w vd ds)(hlt:Lt ds l)(hlen:l.length<=1000000):
  Ret Tryz.prog 93 [v,vr,vd] w λx w'=>RowsV w' x (Jpv ds l r)/\Ext w w'/\(x=v∨Fresh w x):=by
 obtain ⟨ps,A,c,rfl,rfl,h3,h4,h5,h6⟩:=id hl;have hn:ps.length<=1000000:=by simpa using hlen
 obtain ⟨B,bc,hvr,hbc,hbm,hbr⟩:=id hr;refine Jjb Tryz.func93 Tryz.ntmps93 rfl (by kernel_rfl) rfl ?_;refine ρ ?_;refine Jqn (λk=>[(0,.slice A ps.length c),(1,vr),(2,vd),(7,.int .i64 ((k:Nat):Int))])
  (λk w'=>Ext w w'/\k<=ps.length/\∀ i,i<k->Jxg ((ps.map (·.2)).getD i []) r ds<0) (λk=>ps.length-k) 0 sB ⟨Ext.refl w,Nat.zero_le _,λi hi=>by omega⟩ ?_
 rintro k w1 ⟨hx1,hk,hp⟩;refine ρ ?_;refine Jzm (fun (t:Bool)=>[(0,.slice A ps.length c),(1,vr),(2,vd),(7,.int .i64 ((k:Nat):Int)),(22,.bool t)])
  (λt w2=>Ext w1 w2/\t=decide (k<ps.length/\Jxg ((ps.map (·.2)).getD k []) r ds<0)) ?_ ?_
 ·refine ki 13 (λh=>?_) (λh=>?_)
  ·have hlt:k<ps.length:=by have:=of_decide_eq_true h;omega
   refine ρ ?_;refine ix k (h5.ext hx1) hlt ?_;refine ρ ?_;refine ld ((h5.ext hx1).cell (Jlz hlt)) ?_;refine ρ ?_;refine cl (Jpt ((h6 _ (getD_mem' z0 ps hlt)).ext hx1) (hr.ext hx1) (hd.ext hx1)) ?_;rintro x w2 ⟨⟨cc,rfl,hc1,hc2⟩,hx2⟩;refine ρ ?_;refine Jjn _ sB ⟨hx2,?_⟩;rw [Bool.eq_iff_iff,decide_eq_true_iff,decide_eq_true_iff,hc1,Jrc];exact ⟨λh=>⟨hlt,h⟩,λh=>h.2⟩
  ·have hlt:¬ k<ps.length:=by have:=of_decide_eq_false h;omega
   refine ρ ?_;exact Jjn false sB ⟨Ext.refl _,(decide_eq_false (λh=>hlt h.1)).symm⟩
 rintro t w2 ⟨hx2,rfl⟩;have hx12:=hx1.trans hx2;refine ρ ?_;refine ci (λh=>?_) (λh=>?_)
 ·obtain ⟨hlt,hc⟩:=of_decide_eq_true h;refine ρ ?_;refine Jjt (k+1) sB ⟨hx12,by omega,λi hi=>?_⟩ (by omega);by_cases e:i=k
  ·rw [e];exact hc
  ·exact hp i (by omega)
 have hstop:=of_decide_eq_false h;obtain ⟨hcnt,hmem⟩:=Xxs hlt (r:=r) (k:=k) (by simpa using hk) (by
  by_cases h0:k=0
  ·exact .inl h0
  ·exact .inr (hp (k-1) (by omega))) (by
  by_cases h0:k<ps.length
  ·exact .inr (λh'=>hstop ⟨h0,h'⟩)
  ·exact .inl (by simp;omega))
 refine ρ ?_;refine Jzm (fun (t:Bool)=>[(0,.slice A ps.length c),(1,vr),(7,.int .i64 ((k:Nat):Int)),(36,.bool t)])
  (λt w3=>Ext w2 w3/\t=decide (r∈ps.map (·.2))) ?_ ?_
 ·refine ki 29 (λh=>?_) (λh=>?_)
  ·have hlt:k<ps.length:=by have:=of_decide_eq_true h;omega
   refine ρ ?_;refine ix k (h5.ext hx12) hlt ?_;refine ρ ?_;refine ld ((h5.ext hx12).cell (Jlz hlt)) ?_;refine ρ ?_;refine cl (Jbh ((h6 _ (getD_mem' z0 ps hlt)).ext hx12) (hr.ext hx12)) ?_;rintro x w3 ⟨rfl,hx3⟩;refine ρ ?_;refine Jjn _ sB ⟨hx3,?_⟩;rw [Bool.eq_iff_iff,decide_eq_true_iff,decide_eq_true_iff,hmem,Jrc];exact ⟨λh=>⟨by simpa using hlt,h⟩,λh=>h.2⟩
  ·have hlt:¬ k<ps.length:=by have:=of_decide_eq_false h;omega
   refine ρ ?_;refine Jjn false sB ⟨Ext.refl _,(decide_eq_false (λh=>?_)).symm⟩;have:=(hmem.1 h).1;simp at this;omega
 rintro t w3 ⟨hx3,rfl⟩;have hx13:=hx12.trans hx3;refine ρ ?_;refine ci (λh=>?_) (λh=>?_)
 ·have hin:=of_decide_eq_true h;refine ρ ?_;refine Jjq ⟨?_,hx13,.inl rfl⟩;unfold Jpv;rw [if_pos hin];exact hl.ext hx13
 have hin:=of_decide_eq_false h;have hone:=RowV.ones h6;refine ρ ?_;refine bsl Qnj ?_;intro w4 b hx4 hb4 hk4;have hx14:=hx13.trans hx4;refine ρ ?_;refine slh k ?_;refine ρ ?_;refine apo (a:=w) hx14 ER (hk4.own (n:=0) (by have:=hx13.size;omega) rfl (Nat.zero_le _)) ((h5.ext hx14).take (m:=k) hk) (λu hu=>hone u (List.mem_of_mem_take hu)) (by unfold maxLen;omega) (by omega) ?_;intro v5 w5 ho5 hx5 _ _;rw [Nat.mul_one]at ho5;refine ρ ?_;refine bsl (λw=>Qbr vr w B _ bc hvr) ?_;intro w6 b6 hx6 hb6 hk6;refine ρ ?_;refine apo (a:=w) (hx5.trans hx6) ER (Jjc ho5 hx6) hk6.one (λu hu=>by rw [List.mem_singleton.1 hu];exact hr.one) (by unfold maxLen;omega) (by omega) ?_;intro v7 w7 ho7 hx7 _ _;refine ρ ?_;refine sll k ?_;refine ρ ?_;refine apo (a:=w) hx7 ER ho7 ((h5.ext hx7).drop (k:=k) (c:=c) hk h3) (λu hu=>hone u (List.mem_of_mem_drop hu)) (by unfold maxLen;omega) (by omega) ?_;intro v8 w8 ho8 hx8 _ _
 rw [Nat.mul_one]at ho8;refine ρ ?_;refine Jjq ⟨?_,hx8,.inr (Qlf ho8)⟩;have e0:Jpv ds (ps.map (·.2)) r=(ps.take k++[(vr,r)]++ps.drop k).map (·.2):=by
  unfold Jpv;rw [if_neg hin,hcnt];simp
 have el:(ps.take k++[(vr,r)]++ps.drop k).length=0+k+1+(ps.length-k):=by simp;omega
 have ec:(ps.take k++[(vr,r)]++ps.drop k).map (·.1)=[]++(ps.map (·.1)).take k++[vr]++(ps.map (·.1)).drop k:=by simp
 rw [e0];obtain ⟨A8,c8,rfl,hc8,_⟩:=Jjd ho8;refine ⟨_,A8,c8,rfl,by rw [el],by rw [el];exact hc8,by rw [el];omega,by rw [el,ec];exact Rd.own ho8,λp hp=>?_⟩;simp only [List.mem_append,List.mem_singleton]at hp;rcases hp with (hp|hp)|hp
 ·exact (h6 p (List.mem_of_mem_take hp)).ext hx8
 ·rw [hp];exact hr.ext hx8
 ·exact (h6 p (List.mem_of_mem_drop hp)).ext hx8
end Go.Proofs.YtefpailelagbkaaGreatDoor
namespace Go.Proofs.YtefpailelagbkaaGreatDoor
open Pl Go.Wk
theorem Jsv{α:Type}: ∀ {l m:List α},l.Nodup->(∀ x∈l,x∈m)->l.length<=m.length
 | [],_,_,_=>Nat.zero_le _
 | x::l,m,hn,hs=>by
  obtain ⟨a,b,rfl⟩:=List.append_of_mem (hs x List.mem_cons_self);have hn':=List.nodup_cons.1 hn;have:=Jsv (l:=l) (m:=a++b) hn'.2 λy hy=>by
   have h1:=hs y (List.mem_cons_of_mem _ hy);rcases List.mem_append.1 h1 with h2|h2
   ·exact List.mem_append_left _ h2
   ·rcases List.mem_cons.1 h2 with rfl|h2
    ·exact absurd hy hn'.1
    ·exact List.mem_append_right _ h2
  simp only [List.length_append,List.length_cons]at this ⊢;omega
def Qxv(rs:Nat->List Row): Nat->List (List Row)
 | 0=>[[]]
 | m+1=>(Qxv rs m).flatMap λc=>(rs m).map λr=>c++[r]
theorem Qxt(rs:Nat->List Row): ∀ m,(Qxv rs m).length=Jjz m λi=>(rs i).length
 | 0=>rfl
 | m+1=>by
  rw [Qxv,Jjz,<-Qxt rs m];generalize Qxv rs m=l
  induction l with
  | nil=>simp
  | cons c l ih=>rw [List.flatMap_cons,List.length_append,ih,List.length_map,List.length_cons,Nat.succ_mul,Nat.add_comm]
theorem Qxs{rs:Nat->List Row}(g:Nat->Row): ∀ m,(∀ i,i<m->g i∈rs i)->(List.range m).map g∈Qxv rs m
 | 0,_=>by simp [Qxv]
 | m+1,h=>by
  rw [List.range_succ,List.map_append,Qxv,List.mem_flatMap];refine ⟨_,Qxs g m λi hi=>h i (by omega),?_⟩;exact List.mem_map.2 ⟨g m,h m (by omega),rfl⟩
theorem Qbh{rs:Nat->List Row}{m:Nat}{l:List Row}(F:(Nat->Row)->Row)(hF:∀ g g',(∀ i,i<m->g i=g' i)->F g=F g')(hn:l.Nodup)(h:∀ x∈l,∃ g:Nat->Row,(∀ i,i<m->g i∈rs i)/\x=F g):
  l.length<=Jjz m λi=>(rs i).length:=by
 rw [<-Qxt];have:=Jsv (m:=(Qxv rs m).map λc=>F λi=>c.getD i []) hn λx hx=>by
  obtain ⟨g,h1,rfl⟩:=h x hx;refine List.mem_map.2 ⟨_,Qxs g m h1,hF _ _ λi hi=>?_⟩;simp [List.getD,hi]
 rw [List.length_map]at this;exact this
theorem Qlp{ds:List Bool}{l:List Row}(h:Lt ds l): l.Nodup:=h.imp fun {a b} hab e=>by rw [e,Jxq]at hab;omega
def Qkk(m:Nat)(vars:Nat->List Nat)(g:Nat->Row)(v:Nat): V:=match (List.range m).find? λi=>decide (v∈vars i) with
 | some i=>(g i).getD (lv (vars i) v) V0
 | none=>V0
theorem Jmf{m:Nat}{vars:Nat->List Nat}{g g':Nat->Row}(h:∀ i,i<m->g i=g' i)(v:Nat): Qkk m vars g v=Qkk m vars g' v:=by
 unfold Qkk;cases hf:(List.range m).find? λi=>decide (v∈vars i) with
 | none=>rfl
 | some i=>simp only;rw [h i (List.mem_range.1 (List.mem_of_find?_eq_some hf))]
theorem Qyd{m:Nat}{vars:Nat->List Nat}{g:Nat->Row}{v:Nat}{z:Row}(hasc:∀ i,i<m->Jcn (vars i))(hc:∃ i,i<m/\v∈vars i)(h:∀ i,i<m->∀ j,j<(vars i).length->(vars i).getD j 0=v->(g i).getD j V0=z.getD v V0): Qkk m vars g v=z.getD v V0:=by
 unfold Qkk;cases hf:(List.range m).find? λi=>decide (v∈vars i) with
 | none=>
  obtain ⟨i,hi,hv⟩:=hc;have:=List.find?_eq_none.1 hf i (List.mem_range.2 hi);simp [hv]at this
 | some i=>
  have hi:=List.mem_range.1 (List.mem_of_find?_eq_some hf);have hv:v∈vars i:=by simpa using List.find?_some hf
  have:=Jwq (hasc i hi) hv;exact h i hi _ this.2.1 this.2.2
theorem Qns{n m:Nat}{vars:Nat->List Nat}{rs:Nat->List Row}{s:Nat}{l:List Row}(hasc:∀ i,i<m->Jcn (vars i))(hc:∀ v,v<n->∃ i,i<m/\v∈vars i)(hs:s<2^n)(hl:Lt [] l)(h:∀ x∈l,∃ z:Row,z.length=n/\x=pmR (bk s 32) z/\Qtq m vars rs s z): l.length<=Jjz m λi=>(rs i).length:=by
 refine Qbh (F:=λg=>(bk s 32).map (Qkk m vars g)) (λg g' hg=>List.map_congr_left λv _=>Jmf hg v) (Qlp hl) λx hx=>?_;obtain ⟨z,hz,rfl,hb⟩:=h x hx;obtain ⟨g,hg⟩:∃ g:Nat->Row,∀ i,i<m->g i∈rs i/\∀ j,j<(vars i).length->s.testBit ((vars i).getD j 0)=true->(g i).getD j V0=z.getD ((vars i).getD j 0) V0:=by
  refine ⟨λi=>if hi:i<m then Classical.choose (hb i hi) else [],λi hi=>?_⟩;simp only [hi,dite_true];exact Classical.choose_spec (hb i hi)
 refine ⟨g,λi hi=>(hg i hi).1,?_⟩;unfold pmR;refine List.map_congr_left λv hv=>?_;obtain ⟨hv1,hv2⟩:=bk_mem.1 hv;refine (Qyd hasc (hc v (Jbt hs hv2)) λi hi j hj e=>?_).symm;have:=(hg i hi).2 j hj (by rw [e];exact hv2);rw [e]at this;exact this
section
variable (m:Nat) (vars:Nat->List Nat) (rs:Nat->List Row)
def Qfs(vl:List Nat)(r:Row): Bool:=(List.range m).all λi=>(rs i).any λx=>decide (pmR (Jqt (vars i) (Jqd vl &&& Jqd (vars i))) x=pmR (Jqt vl (Jqd vl &&& Jqd (vars i))) r)
def Qmp(v:Nat): List Row:=(List.range m).flatMap λi=>(List.range (vars i).length).flatMap λk=>if (vars i).getD k 0=v then (rs i).map λr=>[r.getD k V0] else []
def Qgm(v:Nat): List Row:=(Qmp m vars rs v).foldl (Jpv []) []
def Jdf(v:Nat): List V:=(Qgm m vars rs v).map λr=>r.getD 0 V0
def Qkb(vl:List Nat)(k:Nat)(out:List Row): List Row:=out.flatMap λr=>((Jdf m vars rs (vl.getD k 0)).map λx=>r++[x]).filter (Qfs m vars rs (vl.take (k+1)))
def Jcm(vl:List Nat): Nat->List Row
 | 0=>[[]]
 | k+1=>Qkb m vars rs vl k (Jcm vl k)
def Jks(n:Nat): List Row:=if n=0 then (if Qfs m vars rs [] [] then [[]] else []) else Jcm m vars rs (List.range n) n
end
section
variable {n m:Nat} {vars:Nat->List Nat} {rs:Nat->List Row}
theorem Jyx{ds:List Bool}: ∀ (ls:List Row) {done l:List Row},Jvh ds done l->Jvh ds (done++ls) (ls.foldl (Jpv ds) l)
 | [],done,l,h=>by simpa using h
 | r::ls,done,l,h=>by
  rw [List.foldl_cons];have:=Jyx ls (Xxt (r:=r) h);rwa [List.append_assoc]at this
theorem Jhn(v:Nat): Jvh [] (Qmp m vars rs v) (Qgm m vars rs v):=by
 have:=Jyx (ds:=[]) (Qmp m vars rs v) (done:=[]) (l:=[]) ⟨List.Pairwise.nil,λx=>Iff.rfl⟩;rwa [List.nil_append]at this
theorem enumV_mem{v:Nat}{y:Row}: y∈Qmp m vars rs v↔∃ i,i<m/\∃ k,k<(vars i).length/\(vars i).getD k 0=v/\∃ r∈rs i,y=[r.getD k V0]:=by
 unfold Qmp;simp only [List.mem_flatMap,List.mem_range];constructor
 ·rintro ⟨i,hi,k,hk,h⟩;split at h
  ·rename_i e;obtain ⟨r,hr,rfl⟩:=List.mem_map.1 h;exact ⟨i,hi,k,hk,e,r,hr,rfl⟩
  ·cases h
 ·rintro ⟨i,hi,k,hk,e,r,hr,rfl⟩;exact ⟨i,hi,k,hk,by rw [if_pos e];exact List.mem_map.2 ⟨r,hr,rfl⟩⟩
theorem valL_mem{v:Nat}{x:V}: x∈Jdf m vars rs v↔∃ i,i<m/\∃ k,k<(vars i).length/\(vars i).getD k 0=v/\∃ r∈rs i,x=r.getD k V0:=by
 unfold Jdf;rw [List.mem_map];constructor
 ·rintro ⟨y,hy,rfl⟩;obtain ⟨i,hi,k,hk,e,r,hr,rfl⟩:=enumV_mem.1 (((Jhn v).2 y).1 hy);exact ⟨i,hi,k,hk,e,r,hr,rfl⟩
 ·rintro ⟨i,hi,k,hk,e,r,hr,rfl⟩;exact ⟨_,((Jhn v).2 _).2 (enumV_mem.2 ⟨i,hi,k,hk,e,r,hr,rfl⟩),rfl⟩
theorem Jrx{v:Nat}{y:Row}(hy:y∈Qgm m vars rs v): ∃ x,y=[x]:=by
 obtain ⟨i,hi,k,hk,e,r,hr,rfl⟩:=enumV_mem.1 (((Jhn v).2 y).1 hy);exact ⟨_,rfl⟩
theorem Qcc(v:Nat): (Jdf m vars rs v).Nodup:=by
 unfold Jdf List.Nodup;rw [List.pairwise_map];refine List.Pairwise.imp_of_mem (fun {a b} ha hb hab e=>?_) (Jhn (m:=m) (vars:=vars) (rs:=rs) v).1;obtain ⟨x,rfl⟩:=Jrx ha;obtain ⟨y,rfl⟩:=Jrx hb;simp only [List.getD_cons_zero]at e;subst e;rw [Jxq]at hab;omega
theorem Qdr{α β:Type}{f:α->List β}{l:List α}(h1:l.Nodup)(h2:∀ a∈l,(f a).Nodup)(h3:∀ a∈l,∀ b∈l,∀ x,x∈f a->x∈f b->a=b): (l.flatMap f).Nodup:=by
 induction l with
 | nil=>exact List.Pairwise.nil
 | cons a l ih=>
  obtain ⟨h4,h5⟩:=List.nodup_cons.1 h1;rw [List.flatMap_cons,List.nodup_append];refine ⟨h2 a List.mem_cons_self,ih h5 (λb hb=>h2 b (List.mem_cons_of_mem _ hb)) (λb hb c hc=>h3 b (List.mem_cons_of_mem _ hb) c (List.mem_cons_of_mem _ hc)),λx hx y hy e=>?_⟩;subst e;obtain ⟨b,hb,hxb⟩:=List.mem_flatMap.1 hy;have:=h3 a List.mem_cons_self b (List.mem_cons_of_mem _ hb) x hx hxb;subst this;exact h4 hb
theorem Qzz{vl:List Nat}{k:Nat}{out:List Row}(h:out.Nodup): (Qkb m vars rs vl k out).Nodup:=by
 unfold Qkb;refine Qdr h (λr _=>?_) λa _ b _ x hx hy=>?_
 ·refine List.Pairwise.sublist List.filter_sublist ?_;show (List.map _ _).Nodup;unfold List.Nodup;rw [List.pairwise_map];refine (Qcc (m:=m) (vars:=vars) (rs:=rs) (vl.getD k 0)).imp fun {x y} hxy e=>hxy ?_
  have:=List.append_cancel_left e;simpa using this
 ·obtain ⟨x1,h1,rfl⟩:=List.mem_map.1 (List.mem_filter.1 hx).1;obtain ⟨x2,h2,e⟩:=List.mem_map.1 (List.mem_filter.1 hy).1;have:=congrArg List.dropLast e;simpa using this.symm
theorem Jrr(vl:List Nat): ∀ k,(Jcm m vars rs vl k).Nodup
 | 0=>by simp [Jcm]
 | k+1=>Qzz (Jrr vl k)
def Qtp(m:Nat)(vars:Nat->List Nat)(rs:Nat->List Row)(k:Nat)(z:Row): Prop:=∀ i,i<m->∃ x∈rs i,∀ j,j<(vars i).length->(vars i).getD j 0<k->x.getD j V0=z.getD ((vars i).getD j 0) V0
theorem Jkg{n i:Nat}(h:i<n): (List.range n).getD i 0=i:=by simp [List.getD,h]
theorem Qfd(k s:Nat): Jqt (List.range k) s=(List.range k).filter λu=>s.testBit u:=by
 unfold Jqt;rw [List.length_range];exact List.filter_congr λu hu=>by rw [Jkg (List.mem_range.1 hu)]
theorem Qfn{l:List Nat}{k:Nat}{p:Nat->Bool}(ha:Jcn l)(hp:∀ u,p u=true↔u∈l): (List.range k).filter p=l.filter λu=>decide (u<k):=by
 have key:∀ {a b:List Nat},Jcn a->Jcn b->(∀ u,u∈a↔u∈b)->a=b:=by
  intro a;induction a with
  | nil=>
   intro b _ _ h;cases b with
   | nil=>rfl
   | cons y b=>have:=(h y).2 List.mem_cons_self;cases this
  | cons x a ih=>
   intro b ha hb h;cases b with
   | nil=>have:=(h x).1 List.mem_cons_self;cases this
   | cons y b=>
    obtain ⟨a1,a2⟩:=List.pairwise_cons.1 ha;obtain ⟨b1,b2⟩:=List.pairwise_cons.1 hb;have hxy:x=y:=by
     have h1:=(h x).1 List.mem_cons_self;have h2:=(h y).2 List.mem_cons_self;rcases List.mem_cons.1 h1 with h3|h3
     ·exact h3
     ·rcases List.mem_cons.1 h2 with h4|h4
      ·exact h4.symm
      ·have:=a1 y h4;have:=b1 x h3;omega
    subst hxy;rw [ih a2 b2 λu=>?_];constructor
    ·intro hu;rcases List.mem_cons.1 ((h u).1 (List.mem_cons_of_mem _ hu)) with h3|h3
     ·subst h3;have:=a1 u hu;omega
     ·exact h3
    ·intro hu;rcases List.mem_cons.1 ((h u).2 (List.mem_cons_of_mem _ hu)) with h3|h3
     ·subst h3;have:=b1 u hu;omega
     ·exact h3
 refine key (List.Pairwise.sublist List.filter_sublist List.pairwise_lt_range) (List.Pairwise.sublist List.filter_sublist ha) λu=>?_;simp only [List.mem_filter,List.mem_range,decide_eq_true_eq,hp];exact ⟨λh=>⟨h.2,h.1⟩,λh=>⟨h.2,h.1⟩⟩
theorem Jtl(hasc:∀ i,i<m->Jcn (vars i))(hlen:∀ i,i<m->∀ r∈rs i,r.length=(vars i).length)(k:Nat)(z:Row): Qfs m vars rs (List.range k) z=true↔Qtp m vars rs k z:=by
 unfold Qfs Qtp;simp only [List.all_eq_true,List.mem_range,List.any_eq_true,decide_eq_true_eq];refine ⟨λh i hi=>?_,λh i hi=>?_⟩;all_goals
  have hs:∀ u,(Jqd (List.range k) &&& Jqd (vars i)).testBit u=true↔u<k/\u∈vars i:=λu=>by
   rw [Nat.testBit_and,Bool.and_eq_true,edgeOf_bit,edgeOf_bit,List.mem_range]
  obtain ⟨x,hx,e⟩:=h i hi;refine ⟨x,hx,?_⟩;have e1:Jqt (List.range k) (Jqd (List.range k) &&& Jqd (vars i))=inS (vars i) (Jqd (List.range k) &&& Jqd (vars i)):=by
   rw [Qfd];have:(List.range k).filter (λu=>(Jqd (List.range k) &&& Jqd (vars i)).testBit u)=(List.range k).filter λu=>decide (u∈vars i):=List.filter_congr λu hu=>by
    rw [Bool.eq_iff_iff,hs u,decide_eq_true_eq];exact ⟨λh=>h.2,λh=>⟨List.mem_range.1 hu,h⟩⟩
   rw [this,Qfn (hasc i hi) λu=>by simp];unfold inS;refine List.filter_congr λu hu=>?_;rw [Bool.eq_iff_iff,hs u,decide_eq_true_eq];exact ⟨λh=>⟨h,hu⟩,λh=>h.1⟩
  have e2:=Qwn (vars:=vars i) (s:=Jqd (List.range k) &&& Jqd (vars i)) (r:=x) (z:=z) (hlen i hi x hx) (vars i).length (Nat.le_refl _);rw [List.take_length]at e2;have e3:Jwh (vars i) (Jqd (List.range k) &&& Jqd (vars i)) (vars i).length=Jqt (vars i) (Jqd (List.range k) &&& Jqd (vars i)):=rfl;rw [e3]at e2
 ·rw [e1]at e;intro j hj hk;exact e2.1 e j hj ((hs _).2 ⟨hk,getD_mem' 0 _ hj⟩)
 ·rw [e1];exact e2.2 λj hj hb=>e j hj ((hs _).1 hb).1
theorem Qmh{k l:Nat}{z:Row}(hkl:k<=l): Qtp m vars rs k (z.take l)↔Qtp m vars rs k z:=by
 unfold Qtp;refine forall_congr' λi=>forall_congr' λhi=>exists_congr λx=>and_congr_right λhx=>forall_congr' λj=>forall_congr' λhj=>?_;refine ⟨λh hk=>?_,λh hk=>?_⟩
 ·have:=h hk;rwa [Pl.getD_take V0 (by omega)]at this
 ·rw [Pl.getD_take V0 (by omega)];exact h hk
theorem Jhv(hasc:∀ i,i<m->Jcn (vars i))(hlen:∀ i,i<m->∀ r∈rs i,r.length=(vars i).length)(hn:∀ v,v<n->∃ i,i<m/\v∈vars i): ∀ k,k<=n->∀ z:Row,z∈Jcm m vars rs (List.range n) k↔z.length=k/\(k=0∨Qtp m vars rs k z)
 | 0,_,z=>by
  rw [Jcm,List.mem_singleton];exact ⟨λh=>by subst h;exact ⟨rfl,.inl rfl⟩,λh=>List.eq_nil_of_length_eq_zero h.1⟩
 | k+1,hk,z=>by
  have ih:=Jhv hasc hlen hn k (by omega);rw [Jcm];unfold Qkb;rw [Jkg (by omega),Qct (by omega)];simp only [List.mem_flatMap,List.mem_filter,List.mem_map];constructor
  ·rintro ⟨r,hr,⟨x,hx,rfl⟩,hf⟩;have h1:=(ih r).1 hr;exact ⟨by simp [h1.1],.inr ((Jtl hasc hlen (k+1) _).1 hf)⟩
  ·rintro ⟨hl,h⟩;have hf:Qtp m vars rs (k+1) z:=h.resolve_left (by omega);have hz:z=z.take k++[z.getD k V0]:=Qhd V0 hl;refine ⟨z.take k,(ih _).2 ⟨by rw [List.length_take];omega,?_⟩,⟨z.getD k V0,?_,hz.symm⟩,(Jtl hasc hlen (k+1) _).2 hf⟩
   ·refine .inr ((Qmh (Nat.le_refl _)).2 λi hi=>?_);obtain ⟨x,hx,h1⟩:=hf i hi;exact ⟨x,hx,λj hj hjk=>h1 j hj (by omega)⟩
   ·obtain ⟨i,hi,hv⟩:=hn k (by omega);obtain ⟨x,hx,h1⟩:=hf i hi;have h2:=Jwq (hasc i hi) hv;refine valL_mem.2 ⟨i,hi,_,h2.2.1,h2.2.2,x,hx,?_⟩;have:=h1 _ h2.2.1 (by rw [h2.2.2];omega);rw [h2.2.2]at this;exact this.symm
theorem Jrs(hasc:∀ i,i<m->Jcn (vars i))(hlen:∀ i,i<m->∀ r∈rs i,r.length=(vars i).length)(hn:∀ v,v<n->∃ i,i<m/\v∈vars i){k:Nat}(hk:k<=n): (Jcm m vars rs (List.range n) k).length<=max 1 (Jjz m λi=>(rs i).length):=by
 by_cases h0:k=0
 ·subst h0;simp only [Jcm,List.length_singleton];omega
 ·refine Nat.le_trans (Qbh (F:=λg=>(List.range k).map (Qkk m vars g)) (λg g' hg=>List.map_congr_left λv _=>Jmf hg v) (Jrr _ k) λx hx=>?_) (Nat.le_max_right _ _);obtain ⟨h1,h2⟩:=(Jhv hasc hlen hn k hk x).1 hx;have hb:Qtp m vars rs k x:=h2.resolve_left h0;obtain ⟨g,hg⟩:∃ g:Nat->Row,∀ i,i<m->g i∈rs i/\∀ j,j<(vars i).length->(vars i).getD j 0<k->(g i).getD j V0=x.getD ((vars i).getD j 0) V0:=by
   refine ⟨λi=>if hi:i<m then Classical.choose (hb i hi) else [],λi hi=>?_⟩;simp only [hi,dite_true];exact Classical.choose_spec (hb i hi)
  refine ⟨g,λi hi=>(hg i hi).1,?_⟩;apply List.ext_getElem
  ·simp [h1]
  ·intro v hv1 hv2;have hp:=Qyd (g:=g) (z:=x) hasc (hn v (by omega)) λi hi j hj e=>by
    have:=(hg i hi).2 j hj (by omega);rw [e]at this;exact this
   rw [List.getElem_map,List.getElem_range,hp];simp [List.getD,hv1]
theorem Jms(hasc:∀ i,i<m->Jcn (vars i))(hlen:∀ i,i<m->∀ r∈rs i,r.length=(vars i).length)(hlt:∀ i,i<m->∀ v∈vars i,v<n)(hn:∀ v,v<n->∃ i,i<m/\v∈vars i)(z:Row): z∈Jks m vars rs n↔Qjl n m vars rs z:=by
 have key:z.length=n->(Qtp m vars rs n z↔∀ i,i<m->pmR (vars i) z∈rs i):=λhz=>by
  constructor
  ·intro h i hi;obtain ⟨x,hx,h1⟩:=h i hi;have:pmR (vars i) z=x:=by
    apply List.ext_getElem
    ·rw [Jqx,hlen i hi x hx]
    ·intro j h2 h3;rw [Jqx]at h2;have h4:(vars i).getD j 0<n:=hlt i hi _ (getD_mem' 0 _ h2);have h5:=h1 j h2 h4;have e1:(vars i).getD j 0=(vars i)[j]:=by simp [List.getD,h2]
     have e2:x.getD j V0=x[j]:=by simp [List.getD,h3]
     rw [e1,e2]at h5;simp only [pmR,List.getElem_map];exact h5.symm
   rw [this];exact hx
  ·intro h i hi;refine ⟨_,h i hi,λj hj _=>?_⟩;unfold pmR;simp [List.getD,hj]
 unfold Jks Qjl;split
 ·rename_i h0;subst h0;have hf:=Jtl (vars:=vars) (rs:=rs) hasc hlen 0 [];rw [List.range_zero]at hf;constructor
  ·intro h;split at h
   ·rename_i hb;rw [List.mem_singleton.1 h];exact ⟨rfl,(by have:=key;rw [List.mem_singleton.1 h]at this;exact (this rfl).1 (hf.1 hb))⟩
   ·cases h
  ·rintro ⟨h1,h2⟩;have hz:z=[]:=List.eq_nil_of_length_eq_zero h1;subst hz;rw [if_pos (hf.2 ((key rfl).2 h2))];exact List.mem_singleton.2 rfl
 ·rename_i h0;rw [Jhv hasc hlen hn n (Nat.le_refl _) z];exact and_congr_right λhz=>⟨λh=>(key hz).1 (h.resolve_left h0),λh=>.inr ((key hz).2 h)⟩
theorem Qqx(hasc:∀ i,i<m->Jcn (vars i))(hlen:∀ i,i<m->∀ r∈rs i,r.length=(vars i).length)(hn:∀ v,v<n->∃ i,i<m/\v∈vars i): (Jks m vars rs n).length<=max 1 (Jjz m λi=>(rs i).length):=by
 unfold Jks;split
 ·split<;>simp<;>omega
 ·exact Jrs hasc hlen hn (Nat.le_refl _)
end
end Go.Proofs.YtefpailelagbkaaGreatDoor
