/- Part 7. -/
import Derived.Test.YtgobkbeokaaplaaGreatDoorD06
import Derived.ChangeKeysEq
import Derived.ProofKit
import Derived.OpenShut
import Derived.ShutString
import Derived.ChangeOld
import Derived.Deep.Slices
import Derived.Deep.Fields
import Derived.Test.YtgobkbeokaaplaaGreatDoorRows
import Derived.LaidSub
import Derived.Lib.LaidTab
set_option linter.unusedVariables false
set_option maxRecDepth 100000
set_option maxHeartbeats 40000000
namespace Go.Proofs.YtgobkbeokaaplaaGreatDoor
open Go.RowKit Pl Go.Wk _root_.Go.Proofs.Tryz
attribute [local irreducible] WC WL QX WD WDB WP
variable {a b:Row}{va vb vd:Value}{w:World}
theorem Qwx: ∀(x y:List UInt8),(Lib.compareBytes x y<0)↔Op.bytesLess x y=true
 | [],[]=>by simp[Lib.compareBytes,Op.bytesLess]
 | [],_::_=>by simp[Lib.compareBytes,Op.bytesLess]
 | _::_,[]=>by simp[Lib.compareBytes,Op.bytesLess]
 | a::x,b::y=>by
  have ih:=Qwx x y;simp only[Lib.compareBytes,Op.bytesLess];grind
def eqv(a b:V): Bool:=(a.kind == b.kind) && (a.num == b.num) && (a.str.toList == b.str.toList)
theorem V.bytes_eq(a:V): a.str.toList=a.bytes:=by rw[V.bytes,ByteArray.toList_eq]
theorem Jcn(a b:V): eqv a b=true↔a=b:=by
 unfold eqv;simp only[Bool.and_eq_true,beq_iff_eq];grind [V.ext,V.bytes_eq]
theorem eqV(a b:V)(w:World): (binOp .eql 147 a.val b.val).run prog w=.ok (.bool (eqv a b)) w:=by
 rw[V.val,V.val,run_eql_struct,run_equalIn_agg w 9999 147 _ _ kr kr];have e:∃ f1 j i:Field,(prog.fieldsOf 147).toList=[f1,j,i]/\(f1.name≠"_"/\f1.type=3/\f1.offset=0)/\(j.name≠"_"/\j.type=2/\j.offset=1)/\(i.name≠"_"/\i.type=9/\i.offset=2) :=
  ⟨_,_,_,rfl,⟨by decide,rfl,rfl⟩,⟨by decide,rfl,rfl⟩,⟨by decide,rfl,rfl⟩⟩
 obtain⟨f1,j,i,h0,⟨n1,Z,o1⟩,⟨n2,O,o2⟩,⟨n3,J,o3⟩⟩:=e;rw[h0];simp only[Op.eqFields,if_pos n1,if_pos n2,if_pos n3,Z,O,J,o1,o2,o3,Sem.run_bind];have G:∀ v:V,(part 3 #[.int .i64 v.kind,.int .i64 v.num,.string v.str] 0).run prog w=.ok (.int .i64 v.kind) w:=λv=>run_part_plain w kr rfl;have D:∀ v:V,(part 2 #[.int .i64 v.kind,.int .i64 v.num,.string v.str] 1).run prog w=.ok (.int .i64 v.num) w:=λv=>run_part_plain w kr rfl;have u:∀ v:V,(part 9 #[.int .i64 v.kind,.int .i64 v.num,.string v.str] 2).run prog w=.ok (.string v.str) w:=λv=>run_part_plain w kr rfl;rw[G a];simp only[Result.andThen_ok];rw[G b];simp only[Result.andThen_ok];rw[run_equalIn_int w 9998 3 .i64 .i64 _ _ kr];simp only[Result.andThen_ok];unfold eqv;cases h1:(a.kind == b.kind) with
 | false=>simp
 | true=>
  simp only[Bool.not_true,Bool.false_eq_true,if_false,Bool.true_and,Sem.run_bind];rw[D a];simp only[Result.andThen_ok];rw[D b];simp only[Result.andThen_ok];rw[run_equalIn_int w 9998 2 .i64 .i64 _ _ kr];simp only[Result.andThen_ok];cases h2:(a.num == b.num) with
  | false=>simp
  | true=>
   simp only[Bool.not_true,Bool.false_eq_true,if_false,Bool.true_and,Sem.run_bind];rw[u a];simp only[Result.andThen_ok];rw[u b];simp only[Result.andThen_ok];rw[run_equalIn_string w 9998 9 _ _ kr];simp only[Result.andThen_ok];cases h3:(a.str.toList == b.str.toList)<;>simp
theorem Jsv(a b:Int): sgn a b<0↔a<b:=by grind [sgn]
def Ih(a b:V): Bool:=decide (a.kind<b.kind) || ((a.kind == b.kind) && (decide (a.num<b.num) || ((a.num == b.num) && Op.bytesLess a.str.toList b.str.toList)))
theorem Qxl(a b:V): Ih a b=true↔cmpV a b<0:=by
 unfold Ih cmpV;by_cases h:a.kind=b.kind
 .rw[if_neg (not_not_intro h)];by_cases h2:a.num=b.num
  .rw[if_neg (not_not_intro h2),Qwx,<-V.bytes_eq,<-V.bytes_eq];simp[h,h2]
  rw[if_pos h2,Jsv];grind
 rw[if_pos h,Jsv];grind
theorem Qld(a b:V)(w:World): Ret prog 150 [a.val,b.val] w λr w'=>r=.int .i64 (cmpV a b)/\Ext w w':=by
 refine enE func150 ntmps150 ?_;refine bxR ?_;intro w1 b1 O a3 D;refine bxR ?_;intro w2 b2 J a2 G;have D:=D.ext J;have Z:=O.trans J;refine Jt (cs:=a.cells) (λj u hu=>D.at hu) ?_;refine Jt (cs:=b.cells) (λj u hu=>G.at hu) ?_;refine ρ ?_;refine weqs kr (eqV a b w2) ?_;refine ciR (λh=>?_) (λh=>?_)
 .refine ρ ?_;have:=(Jcn a b).1 h;subst this;exact Jj ⟨by rw[Vg],Z⟩
 have a1:cmpV a b≠0:=λe=>by
  have:=(Jcn a b).2 (cmp_V.zero _ _ e);rw[h]at this;cases this
 refine ρ ?_;refine Yg (fun (t:Bool)=>[(40,.bool t)]) (λt w3=>t=Ih a b/\w3=w2) ?_ ?_
 .refine ld (D.at (i:=0) rfl) ?_;refine ldR (G.at (i:=0) rfl) ?_;refine ρ ?_;refine ki 13 (λh1=>?_) (λh1=>?_)
  .refine ρ ?_;exact Jf true sB ⟨by unfold Ih;rw[h1];rfl,rfl⟩
  refine ldR (D.at (i:=0) rfl) ?_;refine ldR (G.at (i:=0) rfl) ?_;refine ρ ?_;refine ki 19 (λh2=>?_) (λh2=>?_)
  .refine ldR (D.at (i:=1) rfl) ?_;refine ldR (G.at (i:=1) rfl) ?_;refine ρ ?_;refine ki 25 (λh3=>?_) (λh3=>?_)
   .refine ρ ?_;exact Jf true sB ⟨by grind [Ih],rfl⟩
   refine ldR (D.at (i:=1) rfl) ?_;refine ldR (G.at (i:=1) rfl) ?_;refine ρ ?_;refine ki 31 (λh4=>?_) (λh4=>?_)
   .refine ldR (D.at (i:=2) rfl) ?_;refine ldR (G.at (i:=2) rfl) ?_;refine ρ ?_;exact Jf _ sB ⟨by grind [Ih],rfl⟩
   refine ρ ?_;exact Jf false sB ⟨by grind [Ih],rfl⟩
  refine ρ ?_;exact Jf false sB ⟨by grind [Ih],rfl⟩
 rintro t w3 ⟨rfl,rfl⟩;refine ρ ?_;have h3:=Qwd a b;refine ci (λh=>?_) (λh=>?_)
 .have:=(Qxl a b).1 h;refine ρ ?_;refine Jj ⟨?_,Z⟩;grind
 have:¬ cmpV a b<0:=by grind [Qxl]
 refine ρ ?_;refine Jj ⟨?_,Z⟩;grind
theorem Jtw{ds:List Bool}(ha:RowV w va a)(hb:RowV w vb b)(hd:BoolsV w vd ds):
  Ret prog 93 [va,vb,vd] w λr w'=>(∃ c:Int,r=.int .i64 c/\(c<0↔Jw a b ds<0)/\(c=0↔a=b))/\Ext w w':=by
 obtain⟨A,ac,rfl,ai,ah,ha⟩:=ha;obtain⟨B,bc,rfl,ag,af,hb⟩:=hb;obtain⟨D,dc,rfl,ae,ad,hd⟩:=hd;refine enE func93 ntmps93 ?_;refine ρ ?_;refine Qf (λk=>[(0,.slice A a.length ac),(1,.slice B b.length bc),(2,.slice D ds.length dc),(7,.int .i64 ((k:Nat):Int))])
  (λk w'=>Ext w w'/\k<=a.length/\k<=b.length/\Jw a b ds=Jw (a.drop k) (b.drop k) (ds.drop k)) (λk=>a.length-k) 0 sB ⟨Ext.refl w,Nat.zero_le _,Nat.zero_le _,rfl⟩ ?_
 rintro k w1 ⟨hx,ab,aa,he⟩;have a8:=ha.ext hx;have a7:=hb.ext hx;have sgl:∀ c:Int,c=Jw a b ds->(c<0↔Jw a b ds<0)/\(c=0↔a=b):=λc hc=>by grind [Jkd,Ya]
 have a1:(a.length<=k∨b.length<=k)->(((a.length:Int)-(b.length:Int)<0↔Jw a b ds<0)/\((a.length:Int)-(b.length:Int)=0↔a=b)):=λh=>by grind [Qwk,Jw,Jkd,Ya,Nat.lt_trichotomy]
 refine ρ ?_;refine ki 13 (λh=>?_) (λh=>?_)
 .have O:k<a.length:=by have:=oT h;omega
  refine ciR (λh=>?_) (λh=>?_)
  .have J:k<b.length:=by have:=oT h;omega
   refine drR (scq 10 [8]) ?_;have G:Ext w1 w1.drew:=(Ext.refl w1).drew;have a6:=a8.ext G;have a5:=a7.ext G;refine Uf 3 k a6 O ?_;refine Qz (λj u hu=>RdR.cell a6 O hu) ?_;refine Uf 3 k a5 J ?_;refine Qz (λj u hu=>RdR.cell a5 J hu) ?_;refine Jh (Qld (a.getD k V0) (b.getD k V0) _) ?_;rintro x w2 ⟨rfl,a2⟩;refine⟨a2,?_⟩;have i:Ext w w2:=(hx.trans G).trans a2;have a4:=hd.ext i;refine ρd ?_;refine ρ ?_;have step:=Qwm (ds:=ds) O J;have a9:∀ d,neg d (cmpV (a.getD k V0) (b.getD k V0))=0↔cmpV (a.getD k V0) (b.getD k V0)=0:=λd=>by cases d<;>simp[neg]
   refine Yg (fun (t:Bool)=>[(0,.slice A a.length ac),(1,.slice B b.length bc),(2,.slice D ds.length dc),(7,.int .i64 ((k:Nat):Int)),(8,.int .i64 (cmpV (a.getD k V0) (b.getD k V0))),(39,.bool t)]) (λt w3=>t=ds.getD k false/\w3=w2) ?_ ?_
   .refine ki 34 (λh=>?_) (λh=>?_)
    .have a3:k<ds.length:=by have:=oT h;omega
     refine ixR k a4 a3 ?_;refine ldR (RdB.cell a4 a3) ?_;refine ρ ?_;exact Jf _ sB ⟨rfl,rfl⟩
    have h1:ds.getD k false=false:=by grind
    refine ρ ?_;exact Jf false sB ⟨h1.symm,rfl⟩
   rintro t w3 ⟨rfl,rfl⟩;refine ρ ?_;have more:∀ c:Int,c=neg (ds.getD k false) (cmpV (a.getD k V0) (b.getD k V0))->c≠0->c=Jw a b ds:=λc hc h0=>by grind
   refine ci (λh1=>?_) (λh1=>?_)
   .refine ρ ?_;rw[Jpb];rw[h1]at more;refine ci (λh=>?_) (λh=>?_)
    .refine ρ ?_;exact Jj ⟨⟨_,rfl,sgl _ (more _ rfl (Km h))⟩,i⟩
    refine ρ ?_;refine Qy (k+1) sB ⟨i,om,om,?_⟩ om;grind
   refine ρ ?_;rw[h1]at more;refine ci (λh=>?_) (λh=>?_)
   .refine ρ ?_;exact Jj ⟨⟨_,rfl,sgl _ (more _ rfl (Km h))⟩,i⟩
   refine ρ ?_;refine Qy (k+1) sB ⟨i,om,om,?_⟩ om;grind
  have Z:=a1 (by grind);refine ρ ?_;exact Jj ⟨⟨_,rfl,Z⟩,hx⟩
 have Z:=a1 (by grind);refine ρ ?_;exact Jj ⟨⟨_,rfl,Z⟩,hx⟩
theorem Jsx(ha:RowV w va a)(hb:RowV w vb b):
  Ret prog 43 [va,vb] w λr w'=>r=.bool (decide (a=b))/\Ext w w':=by
 obtain⟨A,ac,rfl,G,D,_⟩:=id ha;obtain⟨B,Z,rfl,u,j,_⟩:=id hb;refine enE func43 ntmps43 ?_;refine ρ ?_;refine ki 10 (λh=>?_) (λh=>?_)
 .refine clR (Jtw ha hb (BoolsV.nil w none 0)) ?_;rintro x J ⟨⟨c,rfl,_,O⟩,i⟩;refine ρ ?_;refine Jj ⟨?_,i⟩;grind
 refine ρ ?_;refine Jj ⟨?_,Ext.refl w⟩;rw[decide_eq_false (λe=>by grind)]
open Go.RowKit Pl Go.Wk
variable {v vd vr:Value}{w w0:World}
theorem RowV.ones{ps:List Pr}(h:∀ p∈ps,RowV w p.1 p.2): ∀ u∈ps.map (·.1),u.oneCell'=true:=by
 intro u i;obtain⟨p,hp,rfl⟩:=List.mem_map.1 i;exact(h p hp).one
theorem Qmx{e sz m:Nat}{xs:List Value}(h:w.ownsRow w0.heap.size e sz v m xs): Fresh w0 v:=λj n c e=>by
 rcases h.2 with⟨i,_⟩|⟨g,cap,cur,i,hb,_⟩
 repeat grind
theorem Jtv{l:List Row}{r:Row}{ds:List Bool}(hl:RowsV w v l)(hr:RowV w vr r)(hd:BoolsV w vd ds)(hlt:Lt ds l)(hlen:l.length<=1000000):
  Ret Tryz.prog 103 [v,vr,vd] w λx w'=>RowsV w' x (Zs ds l r)/\Ext w w'/\(x=v∨Fresh w x):=by
 obtain⟨ps,A,c,rfl,rfl,h3,h4,h5,h6⟩:=id hl;have hn:ps.length<=1000000:=by simpa using hlen
 obtain⟨B,bc,ab,an,am,ak⟩:=id hr;refine enE Tryz.func103 Tryz.ntmps103 ?_;refine ρ ?_;refine Qf (λk=>[(0,.slice A ps.length c),(1,vr),(2,vd),(7,.int .i64 ((k:Nat):Int))])
  (λk w'=>Ext w w'/\k<=ps.length/\∀ i,i<k->Jw ((ps.map (·.2)).getD i []) r ds<0) (λk=>ps.length-k) 0 sB ⟨Ext.refl w,Nat.zero_le _,λi hi=>om⟩ ?_
 rintro k w1 ⟨G,hk,hp⟩;refine ρ ?_;refine Yg (fun (t:Bool)=>[(0,.slice A ps.length c),(1,vr),(2,vd),(7,.int .i64 ((k:Nat):Int)),(22,.bool t)])
  (λt w2=>Ext w1 w2/\t=decide (k<ps.length/\Jw ((ps.map (·.2)).getD k []) r ds<0)) ?_ ?_
 .refine ki 13 (λh=>?_) (λh=>?_)
  .have hlt:k<ps.length:=by have:=oT h;omega
   refine ixR k (h5.ext G) hlt ?_;refine ldR ((h5.ext G).cell (Uk hlt)) ?_;refine clR (Jtw ((h6 _ (getD_mem' z0 ps hlt)).ext G) (hr.ext G) (hd.ext G)) ?_;rintro x w2 ⟨⟨cc,rfl,aj,ai⟩,a3⟩;refine ρ ?_;refine Jf _ sB ⟨a3,?_⟩;grind
  have hlt:¬ k<ps.length:=by have:=oF h;omega
  refine ρ ?_;exact Jf false sB ⟨Ext.refl _,(decide_eq_false (λh=>hlt h.1)).symm⟩
 rintro t w2 ⟨a3,rfl⟩;have j:=G.trans a3;refine ciR (λh=>?_) (λh=>?_)
 .obtain⟨hlt,hc⟩:=oT h;refine ρ ?_;refine Qy (k+1) sB ⟨j,om,λi hi=>?_⟩ om;grind
 have ac:=oF h;obtain⟨a8,ah⟩:=Jgj hlt (r:=r) (k:=k) (by simpa using hk) (by grind) (by grind);refine ρ ?_;refine Yg (fun (t:Bool)=>[(0,.slice A ps.length c),(1,vr),(7,.int .i64 ((k:Nat):Int)),(36,.bool t)])
  (λt w3=>Ext w2 w3/\t=decide (r∈ps.map (·.2))) ?_ ?_
 .refine ki 29 (λh=>?_) (λh=>?_)
  .have hlt:k<ps.length:=by have:=oT h;omega
   refine ixR k (h5.ext j) hlt ?_;refine ldR ((h5.ext j).cell (Uk hlt)) ?_;refine clR (Jsx ((h6 _ (getD_mem' z0 ps hlt)).ext j) (hr.ext j)) ?_;rintro x w3 ⟨rfl,a2⟩;refine ρ ?_;refine Jf _ sB ⟨a2,?_⟩;grind
  have hlt:¬ k<ps.length:=by have:=oF h;omega
  refine ρ ?_;refine Jf false sB ⟨Ext.refl _,(decide_eq_false (λh=>?_)).symm⟩;grind
 rintro t w3 ⟨a2,rfl⟩;have D:=j.trans a2;refine ciR (λh=>?_) (λh=>?_)
 .have a4:=oT h;refine ρ ?_;refine Jj ⟨?_,D,.inl rfl⟩;unfold Zs;rw[if_pos a4];exact hl.ext D
 have a4:=oF h;have a1:=RowV.ones h6;refine Qv Qvg ?_;intro w4 b aa ap af;have Z:=D.trans aa;refine ρ ?_;refine slh k ?_;refine ρ ?_;refine apo (a:=w) Z ER (af.own (n:=0) (by have:=D.size;omega) rfl (Nat.zero_le _)) ((h5.ext Z).take (m:=k) hk) (λu hu=>a1 u (List.mem_of_mem_take hu)) (by unfold maxLen;omega) om ?_;intro v5 w5 a7 a9 _ _;rw[Nat.mul_one]at a7;refine Qv (λw=>Jjj vr w B _ bc ab) ?_;intro w6 b6 a6 ao ae;refine ρ ?_;refine apo (a:=w) (a9.trans a6) ER (Jk a7 a6) ae.one (λu hu=>by rw[List.mem_singleton.1 hu];exact hr.one) (by unfold maxLen;omega) om ?_;intro v7 w7 ad a5 _ _;refine ρ ?_;refine sll k ?_;refine ρ ?_;refine apo (a:=w) a5 ER ad ((h5.ext a5).drop (k:=k) (c:=c) hk h3) (λu hu=>a1 u (List.mem_of_mem_drop hu)) (by unfold maxLen;omega) om ?_;intro v8 w8 O J _ _;rw[Nat.mul_one]at O;refine ρ ?_;refine Jj ⟨?_,J,.inr (Qmx O)⟩
 have e0:Zs ds (ps.map (·.2)) r=(ps.take k++[(vr,r)]++ps.drop k).map (·.2):=by
  unfold Zs;rw[if_neg a4,a8];simp
 have el:(ps.take k++[(vr,r)]++ps.drop k).length=0+k+1+(ps.length-k):=by simp;omega
 have ec:(ps.take k++[(vr,r)]++ps.drop k).map (·.1)=[]++(ps.map (·.1)).take k++[vr]++(ps.map (·.1)).drop k:=by simp
 rw[e0];obtain⟨A8,c8,rfl,ag,_⟩:=Jy O;refine⟨_,A8,c8,rfl,by rw[el],by rw[el];exact ag,by rw[el];omega,by rw[el,ec];exact Rd.own O,λp hp=>?_⟩;simp only[List.mem_append,List.mem_singleton]at hp;rcases hp with(hp|hp)|hp
 .exact(h6 p (List.mem_of_mem_take hp)).ext J
 .rw[hp];exact hr.ext J
 exact(h6 p (List.mem_of_mem_drop hp)).ext J
end Go.Proofs.YtgobkbeokaaplaaGreatDoor
namespace Go.Proofs.YtgobkbeokaaplaaGreatDoor
open Pl Go.Wk
variable {l out:List Row}{i k m n s v:Nat}{vars:Nat->List Nat}{rs:Nat->List Row}{g g':Nat->Row}{y z:Row}
theorem Jgx{α:Type}: ∀ {l m:List α},l.Nodup->(∀ x∈l,x∈m)->l.length<=m.length
 | [],_,_,_=>Nat.zero_le _
 | x::l,m,hn,hs=>by
  obtain⟨a,b,rfl⟩:=List.append_of_mem (hs x List.mem_cons_self);have hn':=List.nodup_cons.1 hn;have:=Jgx (l:=l) (m:=a++b) hn'.2 λy hy=>by grind
  grind
def Jjf(rs:Nat->List Row): Nat->List (List Row)
 | 0=>[[]]
 | m+1=>(Jjf rs m).flatMap λc=>(rs m).map λr=>c++[r]
theorem Qkx(rs:Nat->List Row): ∀ m,(Jjf rs m).length=Jg m λi=>(rs i).length
 | 0=>rfl
 | m+1=>by
  rw[Jjf,Jg,<-Qkx rs m];generalize Jjf rs m=l
  induction l with
  | nil=>simp
  | cons c l ih=>rw[List.flatMap_cons,List.length_append,ih,List.length_map,List.length_cons,Nat.succ_mul,Nat.add_comm]
theorem Qkw{rs:Nat->List Row}(g:Nat->Row): ∀ m,(∀ i,i<m->g i∈rs i)->(List.range m).map g∈Jjf rs m
 | 0,_=>by simp[Jjf]
 | m+1,h=>by
  rw[List.range_succ,List.map_append,Jjf,List.mem_flatMap];refine⟨_,Qkw g m λi hi=>h i om,?_⟩;grind
theorem Qkt(F:(Nat->Row)->Row)(hF:∀ g g',(∀ i,i<m->g i=g' i)->F g=F g')(hn:l.Nodup)(h:∀ x∈l,∃ g:Nat->Row,(∀ i,i<m->g i∈rs i)/\x=F g):
  l.length<=Jg m λi=>(rs i).length:=by
 rw[<-Qkx];have:=Jgx (m:=(Jjf rs m).map λc=>F λi=>c.getD i []) hn λx j=>by
  obtain⟨g,u,rfl⟩:=h x j;refine List.mem_map.2 ⟨_,Qkw g m u,hF _ _ λi hi=>?_⟩;simp[List.getD,hi]
 grind
theorem Qxg{ds:List Bool}(h:Lt ds l): l.Nodup:=h.imp fun {a b} hab e=>by grind [Ya]
def Jqc(m:Nat)(vars:Nat->List Nat)(g:Nat->Row)(v:Nat): V:=match(List.range m).find? λi=>decide (v∈vars i) with
 | some i=>(g i).getD (lv (vars i) v) V0
 | none=>V0
theorem Qjz(h:∀ i,i<m->g i=g' i)(v:Nat): Jqc m vars g v=Jqc m vars g' v:=by grind [Jqc,List.range,List.mem_range.1,List.mem_of_find?_eq_some]
theorem Qjx(hasc:∀ i,i<m->Xy (vars i))(hc:∃ i,i<m/\v∈vars i)(h:∀ i,i<m->∀ j,j<(vars i).length->(vars i).getD j 0=v->(g i).getD j V0=z.getD v V0): Jqc m vars g v=z.getD v V0:=by
 unfold Jqc;cases hf:(List.range m).find? λi=>decide (v∈vars i) with
 | none=>
  grind
 | some i=>
  have hi:=List.mem_range.1 (List.mem_of_find?_eq_some hf);have u:v∈vars i:=by grind
  have:=Yy (hasc i hi) u;grind
theorem Xwl(hasc:∀ i,i<m->Xy (vars i))(hc:∀ v,v<n->∃ i,i<m/\v∈vars i)(hs:s<2^n)(hl:Lt [] l)(h:∀ x∈l,∃ z:Row,z.length=n/\x=pmR (bk s 32) z/\Ko m vars rs s z): l.length<=Jg m λi=>(rs i).length:=by
 refine Qkt (F:=λg=>(bk s 32).map (Jqc m vars g)) (λg g' u=>List.map_congr_left λv _=>Qjz u v) (Qxg hl) λx D=>?_;obtain⟨z,hz,rfl,Z⟩:=h x D;obtain⟨g,u⟩:∃ g:Nat->Row,∀ i,i<m->g i∈rs i/\∀ j,j<(vars i).length->s.testBit ((vars i).getD j 0)=true->(g i).getD j V0=z.getD ((vars i).getD j 0) V0:=by
  refine⟨λi=>if hi:i<m then Classical.choose (Z i hi) else[],λi hi=>?_⟩;grind
 refine⟨g,λi hi=>(u i hi).1,?_⟩;unfold pmR;refine List.map_congr_left λv O=>?_;obtain⟨J,G⟩:=bk_mem.1 O;grind [Qjx,Jkj]
section
variable (m:Nat) (vars:Nat->List Nat) (rs:Nat->List Row)
def Ut(vl:List Nat)(r:Row): Bool:=(List.range m).all λi=>(rs i).any λx=>decide (pmR (Xj (vars i) (Qn vl &&& Qn (vars i))) x=pmR (Xj vl (Qn vl &&& Qn (vars i))) r)
def Jvl(v:Nat): List Row:=(List.range m).flatMap λi=>(List.range (vars i).length).flatMap λk=>if(vars i).getD k 0=v then(rs i).map λr=>[r.getD k V0] else[]
def Gz(v:Nat): List Row:=(Jvl m vars rs v).foldl (Zs []) []
def Xd(v:Nat): List V:=(Gz m vars rs v).map λr=>r.getD 0 V0
def Jjt(vl:List Nat)(k:Nat)(out:List Row): List Row:=out.flatMap λr=>((Xd m vars rs (vl.getD k 0)).map λx=>r++[x]).filter (Ut m vars rs (vl.take (k+1)))
def Xv(vl:List Nat): Nat->List Row
 | 0=>[[]]
 | k+1=>Jjt m vars rs vl k (Xv vl k)
def Xa(n:Nat): List Row:=if n=0 then(if Ut m vars rs [] [] then[[]] else[]) else Xv m vars rs (List.range n) n
end
section
variable {n m:Nat} {vars:Nat->List Nat} {rs:Nat->List Row}
theorem Jvf{ds:List Bool}: ∀(ls:List Row) {done l:List Row},IsSet ds done l->IsSet ds (done++ls) (ls.foldl (Zs ds) l)
 | [],done,l,h=>by simpa using h
 | r::ls,done,l,h=>by
  rw[List.foldl_cons];have:=Jvf ls (Qlv (r:=r) h);grind
theorem Jyr(v:Nat): IsSet [] (Jvl m vars rs v) (Gz m vars rs v):=by
 have:=Jvf (ds:=[]) (Jvl m vars rs v) (done:=[]) (l:=[]) ⟨List.Pairwise.nil,λx=>Iff.rfl⟩;rwa [List.nil_append]at this
theorem enumV_mem: y∈Jvl m vars rs v↔∃ i,i<m/\∃ k,k<(vars i).length/\(vars i).getD k 0=v/\∃ r∈rs i,y=[r.getD k V0]:=by
 unfold Jvl;grind
theorem valL_mem{x:V}: x∈Xd m vars rs v↔∃ i,i<m/\∃ k,k<(vars i).length/\(vars i).getD k 0=v/\∃ r∈rs i,x=r.getD k V0:=by
 unfold Xd;rw[List.mem_map];constructor
 .rintro⟨y,D,rfl⟩;obtain⟨i,hi,k,u,e,r,j,rfl⟩:=enumV_mem.1 (((Jyr v).2 y).1 D);grind
 rintro⟨i,hi,k,u,e,r,j,rfl⟩;exact⟨_,((Jyr v).2 _).2 (enumV_mem.2 ⟨i,hi,k,u,e,r,j,rfl⟩),rfl⟩
theorem Jrf(hy:y∈Gz m vars rs v): ∃ x,y=[x]:=by
 obtain⟨i,hi,k,u,e,r,j,rfl⟩:=enumV_mem.1 (((Jyr v).2 y).1 hy);exact⟨_,rfl⟩
theorem Qdc(v:Nat): (Xd m vars rs v).Nodup:=by
 unfold Xd List.Nodup;rw[List.pairwise_map];refine List.Pairwise.imp_of_mem (fun {a b} ha hb hab e=>?_) (Jyr (m:=m) (vars:=vars) (rs:=rs) v).1;grind [Jrf,List.getD_cons_zero,Ya]
theorem Xjb{α β:Type}{f:α->List β}{l:List α}(h1:l.Nodup)(h2:∀ a∈l,(f a).Nodup)(h3:∀ a∈l,∀ b∈l,∀ x,x∈f a->x∈f b->a=b): (l.flatMap f).Nodup:=by
 induction l with
 | nil=>exact List.Pairwise.nil
 | cons a l ih=>
  grind
theorem Qfx{vl:List Nat}(h:out.Nodup): (Jjt m vars rs vl k out).Nodup:=by
 unfold Jjt;refine Xjb h (λr _=>?_) λa _ b _ x j i=>?_
 .grind [List.Pairwise.sublist,List.filter_sublist,List.map,List.Nodup,Qdc,List.append_cancel_left]
 obtain⟨D,J,rfl⟩:=List.mem_map.1 (List.mem_filter.1 j).1;obtain⟨u,G,e⟩:=List.mem_map.1 (List.mem_filter.1 i).1;have:=congrArg List.dropLast e;simpa using this.symm
theorem Qvz(vl:List Nat): ∀ k,(Xv m vars rs vl k).Nodup
 | 0=>by simp[Xv]
 | k+1=>Qfx (Qvz vl k)
def Ke(m:Nat)(vars:Nat->List Nat)(rs:Nat->List Row)(k:Nat)(z:Row): Prop:=∀ i,i<m->∃ x∈rs i,∀ j,j<(vars i).length->(vars i).getD j 0<k->x.getD j V0=z.getD ((vars i).getD j 0) V0
theorem Jjx{n:Nat}(h:i<n): (List.range n).getD i 0=i:=by simp[List.getD,h]
theorem Xxh(k s:Nat): Xj (List.range k) s=(List.range k).filter λu=>s.testBit u:=by grind [Xj,List.length_range,List.filter_congr,Jjx,List.mem_range.1]
theorem Xwt{l:List Nat}{p:Nat->Bool}(ha:Xy l)(hp:∀ u,p u=true↔u∈l): (List.range k).filter p=l.filter λu=>decide (u<k):=by
 have key:∀ {a b:List Nat},Xy a->Xy b->(∀ u,u∈a↔u∈b)->a=b:=by
  intro a;induction a with
  | nil=>
   intro b _ _ h;cases b with
   | nil=>rfl
   | cons y b=>have:=(h y).2 List.mem_cons_self;cases this
  | cons x a ih=>
   intro b ha j h;cases b with
   | nil=>have:=(h x).1 List.mem_cons_self;cases this
   | cons y b=>
    obtain⟨O,G⟩:=List.pairwise_cons.1 ha;obtain⟨J,D⟩:=List.pairwise_cons.1 j;have i:x=y:=by grind [List.mem_cons_self,List.mem_cons.1]
    subst i;rw[ih G D λu=>?_];grind
 refine key (List.Pairwise.sublist List.filter_sublist List.pairwise_lt_range) (List.Pairwise.sublist List.filter_sublist ha) λu=>?_;grind
theorem Jlr(hasc:∀ i,i<m->Xy (vars i))(hlen:∀ i,i<m->∀ r∈rs i,r.length=(vars i).length)(k:Nat)(z:Row): Ut m vars rs (List.range k) z=true↔Ke m vars rs k z:=by
 unfold Ut Ke;simp only[List.all_eq_true,List.mem_range,List.any_eq_true,decide_eq_true_eq];refine⟨λh i hi=>?_,λh i hi=>?_⟩;all_goals
  have hs:∀ u,(Qn (List.range k) &&& Qn (vars i)).testBit u=true↔u<k/\u∈vars i:=λu=>by
   rw[Nat.testBit_and,Bool.and_eq_true,edgeOf_bit,edgeOf_bit,List.mem_range]
  obtain⟨x,j,e⟩:=h i hi;refine⟨x,j,?_⟩;have O:Xj (List.range k) (Qn (List.range k) &&& Qn (vars i))=inS (vars i) (Qn (List.range k) &&& Qn (vars i)):=by
   rw[Xxh];have:(List.range k).filter (λu=>(Qn (List.range k) &&& Qn (vars i)).testBit u)=(List.range k).filter λu=>decide (u∈vars i):=List.filter_congr λu G=>by grind
   rw[this,Xwt (hasc i hi) λu=>by simp];unfold inS;refine List.filter_congr λu G=>?_;grind
  have D:=Jmh (vars:=vars i) (s:=Qn (List.range k) &&& Qn (vars i)) (r:=x) (z:=z) (hlen i hi x j) (vars i).length (nR _);rw[List.take_length]at D;have J:Zd (vars i) (Qn (List.range k) &&& Qn (vars i)) (vars i).length=Xj (vars i) (Qn (List.range k) &&& Qn (vars i)):=rfl;rw[J]at D
 repeat grind
theorem Xjh{l:Nat}(hkl:k<=l): Ke m vars rs k (z.take l)↔Ke m vars rs k z:=by grind [Ke,V0]
theorem Jcx(hasc:∀ i,i<m->Xy (vars i))(hlen:∀ i,i<m->∀ r∈rs i,r.length=(vars i).length)(hn:∀ v,v<n->∃ i,i<m/\v∈vars i): ∀ k,k<=n->∀ z:Row,z∈Xv m vars rs (List.range n) k↔z.length=k/\(k=0∨Ke m vars rs k z)
 | 0,_,z=>by grind [Xv,List.mem_singleton,List.eq_nil_of_length_eq_zero]
 | k+1,hk,z=>by
  have ih:=Jcx hasc hlen hn k om;rw[Xv];unfold Jjt;rw[Jjx om,Qlh om];simp only[List.mem_flatMap,List.mem_filter,List.mem_map];constructor
  .grind [Jlr]
  rintro⟨hl,h⟩;have hf:Ke m vars rs (k+1) z:=h.resolve_left om;have hz:z=z.take k++[z.getD k V0]:=Jsk V0 hl;refine⟨z.take k,(ih _).2 ⟨by grind,?_⟩,⟨z.getD k V0,?_,hz.symm⟩,(Jlr hasc hlen (k+1) _).2 hf⟩
  .refine .inr ((Xjh (nR _)).2 λi hi=>?_);obtain⟨x,hx,h1⟩:=hf i hi;grind
  obtain⟨i,hi,hv⟩:=hn k om;obtain⟨x,hx,h1⟩:=hf i hi;have h2:=Yy (hasc i hi) hv;refine valL_mem.2 ⟨i,hi,_,h2.2.1,h2.2.2,x,hx,?_⟩;grind
theorem Qyb(hasc:∀ i,i<m->Xy (vars i))(hlen:∀ i,i<m->∀ r∈rs i,r.length=(vars i).length)(hn:∀ v,v<n->∃ i,i<m/\v∈vars i)(hk:k<=n): (Xv m vars rs (List.range n) k).length<=max 1 (Jg m λi=>(rs i).length):=by
 by_cases h0:k=0
 .subst h0;simp only[Xv,List.length_singleton];omega
 refine nL (Qkt (F:=λg=>(List.range k).map (Jqc m vars g)) (λg g' u=>List.map_congr_left λv _=>Qjz u v) (Qvz _ k) λx J=>?_) (Nat.le_max_right _ _);obtain⟨h1,h2⟩:=(Jcx hasc hlen hn k hk x).1 J;have G:Ke m vars rs k x:=h2.resolve_left h0;obtain⟨g,u⟩:∃ g:Nat->Row,∀ i,i<m->g i∈rs i/\∀ j,j<(vars i).length->(vars i).getD j 0<k->(g i).getD j V0=x.getD ((vars i).getD j 0) V0:=by
  refine⟨λi=>if hi:i<m then Classical.choose (G i hi) else[],λi hi=>?_⟩;simp only[hi,dite_true];exact Classical.choose_spec (G i hi)
 refine⟨g,λi hi=>(u i hi).1,?_⟩;apply List.ext_getElem
 .simp[h1]
 intro v D O;have hp:=Qjx (g:=g) (z:=x) hasc (hn v om) λi hi j Z e=>by
  have:=(u i hi).2 j Z om;rw[e]at this;exact this
 rw[List.getElem_map,List.getElem_range,hp];simp[List.getD,D]
theorem Jhx(hasc:∀ i,i<m->Xy (vars i))(hlen:∀ i,i<m->∀ r∈rs i,r.length=(vars i).length)(hlt:∀ i,i<m->∀ v∈vars i,v<n)(hn:∀ v,v<n->∃ i,i<m/\v∈vars i)(z:Row): z∈Xa m vars rs n↔Vm n m vars rs z:=by
 have key:z.length=n->(Ke m vars rs n z↔∀ i,i<m->pmR (vars i) z∈rs i):=λj=>by
  constructor
  .intro h i hi;obtain⟨x,u,G⟩:=h i hi;grind [pmR,List.ext_getElem,Xw,getD_mem',List.getD,V0]
  intro h i hi;grind [pmR,List.getD]
 unfold Xa Vm;split
 .rename_i h0;subst h0;have D:=Jlr (vars:=vars) (rs:=rs) hasc hlen 0 [];grind
 rename_i h0;rw[Jcx hasc hlen hn n (nR _) z];grind
theorem Qxr(hasc:∀ i,i<m->Xy (vars i))(hlen:∀ i,i<m->∀ r∈rs i,r.length=(vars i).length)(hn:∀ v,v<n->∃ i,i<m/\v∈vars i): (Xa m vars rs n).length<=max 1 (Jg m λi=>(rs i).length):=by
 unfold Xa;split
 .grind
 exact Qyb hasc hlen hn (nR _)
end
end Go.Proofs.YtgobkbeokaaplaaGreatDoor
namespace Go.Wk
open Go.RowKit
variable {k2:IntKind}{s v:Nat}{x y:Operand}{t yt:TypeId}
section
variable {P:Program} {n:Nat} {al:AL} {w:World} {Q:Exit->Act->World->Prop} {ops:Array Oper} {rest:List Oper} {d ty:Nat} {pos:String} {aft:Array Edge}
theorem sr32g(hv:v<=32)(kk:WL P n ops Q rest ((d,.int .u32 ((s / 2^v:Nat):Int))::al) w)(hx:ev al x=some (.int .u32 (s:Int)):=by rfl)(hy:ev al y=some (.int k2 (v:Int)):=by rfl)(hd:Nat.blt d n=true:=by rfl):
  WL P n ops Q (⟨some d,.binOp .shr t x y yt,ty,pos,aft,none⟩::rest) al w:=by
 rw[<-Jss s v hv]at kk;exact wop hd (λa i=>Jtb hx hy om i (some d) w) kk
theorem Jsl(hv:v<32)(kk:WL P n ops Q rest ((d,.int .u32 ((2^v:Nat):Int))::al) w)(hy:ev al y=some (.int k2 (v:Int)):=by rfl)(hd:Nat.blt d n=true:=by rfl):
  WL P n ops Q (⟨some d,.binOp .shl t (.const (.int .u32 1)) y yt,ty,pos,aft,none⟩::rest) al w:=by
 rw[<-Jyx hv]at kk;exact wop hd (λa i=>Jwb (x:=.const (.int .u32 1)) rfl hy om i (some d) w) kk
end
end Go.Wk
namespace Go.Proofs.YtgobkbeokaaplaaGreatDoor
open Go.RowKit Pl Go.Wk _root_.Go.Proofs.Tryz
attribute [local irreducible] WC WL QX WD WDB WP WN WG WH
variable {l vars:List Nat}{s:Nat}{rv v vv:Value}{w:World}
theorem IntsV.n(h:IntsV w v (nz l)): ∃ A c,v=.slice A l.length c/\l.length<=c/\l.length<=1100000/\Rd w 1 A l.length (Je (nz l)):=by
 obtain⟨A,c,D,u,j,i⟩:=h;grind [Qg]
theorem Qjf{v:Nat}(hs:s<4294967296)(hv:v<=32)(w:World): Ret prog 209 [.int .u32 (s:Int),.int .i64 (v:Int)] w λu w'=>u=.bool (s.testBit v)/\w'=w:=by
 refine enE func209 ntmps209 ?_;refine ρ ?_;refine Go.Wk.kv 7 (congrArg (λz=>Value.int .u64 z) (Uq (z:=(v:Int)) om)) ?_;refine sr32g (s:=s) (v:=v) hv ?_;refine ρ ?_;rw[Gh hs];exact Jj ⟨rfl,rfl⟩
theorem Qjc(h:IntsV w v (nz l))(hl:∀ u∈l,u<32): Ret prog 210 [v] w λu w'=>u=.int .u32 (Qn l:Int)/\w'=w:=by
 obtain⟨A,c,rfl,hc,hm,J⟩:=h.n;refine enE func210 ntmps210 ?_;refine ρ ?_;refine Qf (fun (i:Nat)=>[(0,.slice A l.length c),(3,.int .u32 (Qn (l.take i):Int)),(4,.int .i64 (i:Int))])
  (λi w'=>i<=l.length/\w'=w) (λi=>l.length-i) 0 sB ⟨Nat.zero_le _,rfl⟩ ?_
 rintro i w1 ⟨hi,rfl⟩;refine ciR (λh=>?_) (λh=>?_)
 .have D:i<l.length:=by have:=oT h;omega
  clear h;have j:=hl _ (getD_mem' 0 l D);refine ixR i J D ?_;refine ldR (J.cell (Zy D)) ?_;refine ρ ?_;refine Go.Wk.kv 16 (congrArg (λz=>Value.int .u64 z) (Uq (z:=(l.getD i 0:Int)) om)) ?_;refine Jsl (v:=l.getD i 0) j ?_;refine ρ ?_;have e:Qn (l.take (i+1))=Qn (l.take i) ||| 2^l.getD i 0:=by rw[Qs 0 D];exact Qkf _ _ _
  have hb:Qn (l.take i)<4294967296:=Jzz (n:=32) λv O=>hl v (List.mem_of_mem_take O);have Z:=Jxb hb (Kh j);rw[Z,<-e];exact Qy (i+1) sO ⟨D,rfl⟩ om
 have G:i=l.length:=by have:=oF h;omega
 subst G;clear h;refine ρ ?_;rw[List.take_length];exact Jj ⟨rfl,rfl⟩
theorem Qjd{r:Row}(hr:RowV w rv r)(hv:IntsV w vv (nz vars))(hs:s<4294967296)(hl:∀ u∈vars,u<32)(hrl:r.length=vars.length):
  Ret prog 211 [rv,vv,.int .u32 (s:Int)] w λu w'=>RowV w' u (pmR (Xj vars s) r)/\Ext w w':=by
 obtain⟨A,c,rfl,hc,hm,hR⟩:=id hr;obtain⟨B,d,rfl,hd,ac,hV⟩:=hv.n;refine enE func211 ntmps211 ?_;refine Qv Jqx ?_;intro w0 b0 a3 a9 aa;refine ρ ?_;refine Jo (fun (k:Nat) (J:Value)=>[(0,.slice A r.length c),(1,.slice B vars.length d),(2,.int .u32 (s:Int)),(7,J),(8,.int .i64 (k:Int))])
  (λk J w'=>k<=vars.length/\Ext w w'/\Vh w' w.heap.size J (pmR (Zd vars s k) r)) (λk _=>vars.length-k) 0 (.slice (some ⟨b0,0,none⟩) 0 0) sB
  ⟨Nat.zero_le _,a3,aa.own (n:=0) a9 rfl (Nat.zero_le _)⟩ ?_
 rintro k J w1 ⟨hk,D,Z⟩;refine ciR (λh=>?_) (λh=>?_)
 .have lk:k<vars.length:=by have:=oT h;omega
  clear h;have a1:RdR w1 A r:=Rd.ext hR D;have O:=hl _ (getD_mem' 0 vars lk);have a7:(Zd vars s k).length<=k:=by
   have:=List.length_filter_le (λi=>s.testBit (vars.getD i 0)) (List.range k);rw[List.length_range]at this;exact this
  refine ixR k (hV.ext D) lk ?_;refine ldR ((hV.ext D).cell (Zy lk)) ?_;refine clR (Qjf hs (Nat.le_of_lt O) w1) ?_;rintro _ a2 ⟨rfl,e1⟩;rw[e1];clear e1 a2;refine ciR (λh=>?_) (λh=>?_)
  .refine Qu 3 k a1 om ?_;refine Jt (cs:=(r.getD k V0).cells) (λj u hu=>RdR.cell a1 om hu) ?_;refine Qv (Jmr _) ?_;intro w2 b G hb hB;refine ρ ?_;refine apb (m':=1) (news:=(r.getD k V0).cells) EV (Jk Z G) (hB.rd (n:=1) rfl) (V.one _) (by rw[Xw];unfold maxLen;omega) (by rw[Xw];omega) (D.trans G).size ?_;intro v3 w3 a4 a6 ab;refine ρ ?_;refine Jl (k+1) v3 sO ⟨lk,Ql (D.trans G) a6 (Kl (Jk Z G)),?_⟩ om;have e:pmR (Zd vars s (k+1)) r=pmR (Zd vars s k) r++[r.getD k V0]:=by grind [Kt,pmR]
   rw[Vh,e,List.length_append,rowC_app',rowC_one''];exact a4
  refine ρ ?_;refine Jl (k+1) J sO ⟨lk,D,?_⟩ om;grind [Kt]
 have a5:k=vars.length:=by have:=oF h;omega
 rw[a5]at Z;have a7:(Zd vars s vars.length).length<=vars.length:=by
  have:=List.length_filter_le (λi=>s.testBit (vars.getD i 0)) (List.range vars.length);rw[List.length_range]at this;exact this
 obtain⟨A3,c3,rfl,a8,_⟩:=Jy Z;refine ρ ?_;refine Jj ⟨⟨A3,c3,rfl,a8,?_,Rd.own Z⟩,D⟩;show(pmR (Zd vars s vars.length) r).length<=_;rw[Xw];omega
theorem Qlk(hs:s<4294967296)(w:World): Ret prog 185 [.int .u32 (s:Int)] w λu w'=>IntsV w' u (nz (bk s 32))/\Ext w w':=by
 refine enE func185 ntmps185 ?_;refine ρ ?_;refine Jo (fun (k:Nat) (D:Value)=>[(0,.int .u32 (s:Int)),(3,D),(4,.int .i64 (k:Int))])
  (λk D w'=>k<=32/\Ext w w'/\Zh w' w.heap.size D (bk s k)) (λk _=>32-k) 0 (.slice none 0 0) sB
  ⟨Nat.zero_le _,Ext.refl _,Zw _ _ _ _⟩ ?_
 rintro k D w1 ⟨hk,j,G⟩;refine ciR (λh=>?_) (λh=>?_)
 .have lk:k<32:=by have:=oT h;omega
  clear h;have a1:=Yo s k;refine clR (Qjf hs hk w1) ?_;rintro _ J ⟨rfl,e1⟩;rw[e1];clear e1 J;refine ciR (λh=>?_) (λh=>?_)
  .refine Qv (bs1Int'' _) ?_;intro w2 b i hb hB;refine ρ ?_;refine apI (Jk G i) hB om (j.trans i).size ?_;intro v3 w3 a3 Z a4;refine ρ ?_;refine Jl (k+1) v3 sO ⟨lk,Ql (j.trans i) Z (Kl (Jk G i)),?_⟩ om;grind [Gg]
  refine ρ ?_;refine Jl (k+1) D sO ⟨lk,j,?_⟩ om;grind [Gg]
 have O:k=32:=by have:=oF h;omega
 rw[O]at G;have a1:=Yo s 32;obtain⟨A3,c3,rfl,a2,_⟩:=Jy G;refine ρ ?_;exact Jj ⟨⟨A3,c3,by rw[Qg],by rw[Qg];exact a2,by rw[Qg];omega,by rw[Qg];exact Rd.own G⟩,j⟩
open Go.RowKit Pl Go.Wk
structure RInM(w:World)(VA RA:Option Addr)(m:Nat)(vars:Nat->List Nat)(rs:Nat->List Row): Prop where
 v:∃ cs,Rd w 1 VA m cs/\∀ i,i<m->∃ u,cs[i]?=some u/\IntsV w u (nz (vars i))
 r:∃ cs,Rd w 1 RA m cs/\∀ i,i<m->∃ u,cs[i]?=some u/\RowsV w u (rs i)
theorem RInM.ext{w w':World}{VA RA:Option Addr}{m:Nat}{vars:Nat->List Nat}{rs:Nat->List Row}(h:RInM w VA RA m vars rs)(hx:Ext w w'): RInM w' VA RA m vars rs:=by
 obtain⟨cs,O,J⟩:=h.v;obtain⟨ds,G,D⟩:=h.r;exact⟨⟨cs,O.ext hx,λi hi=>by obtain⟨u,e,j⟩:=J i hi;exact⟨u,e,j.ext hx⟩⟩,⟨ds,G.ext hx,λi hi=>by obtain⟨u,e,j⟩:=D i hi;exact⟨u,e,j.ext hx⟩⟩⟩
structure RefP(n m:Nat)(vars:Nat->List Nat)(rs:Nat->List Row): Prop where
 n32:n<=32
 m32:m<=32
 asc:∀ i,i<m->Xy (vars i)
 lt:∀ i,i<m->∀ v∈vars i,v<n
 len:∀ i,i<m->∀ r∈rs i,r.length=(vars i).length
 cov:∀ v,v<n->∃ i,i<m/\v∈vars i
 cnt:max 1 (Jg m λi=>(rs i).length)<=5000
 row:∀ i,i<m->(rs i).length<=10
def Yq(n f:Int)(pA:Option Addr)(pn pc:Nat)(VA:Option Addr)(vc:Nat)(RA:Option Addr)(rc m:Nat): List Value:=[.int .i64 n,.int .i64 f,.slice pA pn pc,.slice VA m vc,.slice RA m rc]
def Jvj(vars:Nat->List Nat)(rs:Nat->List Row)(vl:List Nat)(r:Row)(i:Nat)(x:Row): Bool:=decide (pmR (Xj (vars i) (Qn vl &&& Qn (vars i))) x=pmR (Xj vl (Qn vl &&& Qn (vars i))) r)
section
variable {n f:Int} {pA VA RA:Option Addr} {pn pc vc rc N m:Nat} {vars:Nat->List Nat} {rs:Nat->List Row} {w:World}
theorem Qjg(hP:RefP N m vars rs)(hM:RInM w VA RA m vars rs){vl:List Nat}{r:Row}{vv rv:Value}(hv:IntsV w vv (nz vl))(hr:RowV w rv r)(hvl:∀ u∈vl,u<32)(hrl:r.length=vl.length):
  Ret Tryz.prog 187 [.agg (Yq n f pA pn pc VA vc RA rc m).toArray,rv,vv] w λu w'=>u=.bool (Ut m vars rs vl r)/\Ext w w':=by
 have b6:=hP.m32;refine enE Tryz.func187 Tryz.ntmps187 ?_;refine bxR (cs:=Yq n f pA pn pc VA vc RA rc m) ?_;intro w1 b J hb hB;refine clR (Qjc (hv.ext J) hvl) ?_;rintro _ am ⟨rfl,e1⟩;rw[e1];clear e1 am;refine ρ ?_;refine Qf (fun (i:Nat)=>[(1,rv),(2,vv),(3,.pointer (some ⟨b,0,none⟩)),(7,.int .u32 (Qn vl:Int)),(8,.int .i64 (i:Int))])
  (λi w'=>i<=m/\Ext w1 w'/\(List.range i).all (λi=>(rs i).any (Jvj vars rs vl r i))=true) (λi=>m-i) 0 sB ⟨Nat.zero_le _,Ext.refl _,rfl⟩ ?_
 rintro i w2 ⟨hi,D,ag⟩;have aa:=hB.ext D;refine ldR (aa.at (i:=3) rfl) ?_;refine ciR (λh=>?_) (λh=>?_)
 .have li:i<m:=by have:=oT h;omega
  clear h;obtain⟨b3,a1,au⟩:=(hM.ext (J.trans D)).v;obtain⟨b5,a6,av⟩:=(hM.ext (J.trans D)).r;obtain⟨vi,ac,ah⟩:=au i li;obtain⟨ri,ad,b2⟩:=av i li;have O:∀ u∈vars i,u<32:=λu hu=>by have:=hP.lt i li u hu;have:=hP.n32;omega
  refine ldR (aa.at (i:=3) rfl) ?_;refine ixR i a1 li ?_;refine ldR (a1.cell ac) ?_;refine clR (Qjc ah O) ?_;rintro _ ak ⟨rfl,e2⟩;rw[e2];clear e2 ak;have af:Qn vl<4294967296:=Jzz (n:=32) hvl;have az:Qn (vars i)<4294967296:=Jzz (n:=32) O;refine ρ ?_;have a3:bits .and .u32 (Qn vl:Int) (Qn (vars i):Int)=((Qn vl &&& Qn (vars i):Nat):Int):=u32_and_nat _ _ af az;have ae:Qn vl &&& Qn (vars i)<4294967296:=Nat.lt_of_le_of_lt Nat.and_le_left af;rw[a3];clear a3;refine cl (Qjd (hr.ext (J.trans D)) (hv.ext (J.trans D)) ae hvl hrl) ?_;rintro wv w3 ⟨ar,aq⟩;refine ρ ?_;refine Jo (fun (k:Nat) (bb:Bool)=>[(1,rv),(2,vv),(3,.pointer (some ⟨b,0,none⟩)),(7,.int .u32 (Qn vl:Int)),(8,.int .i64 (i:Int)),(9,.int .u32 ((Qn vl &&& Qn (vars i):Nat):Int)),(10,wv),(11,.bool bb),(12,.int .i64 (k:Int))])
   (λk bb w'=>k<=(rs i).length/\Ext w3 w'/\bb=((rs i).take k).any (Jvj vars rs vl r i)) (λk _=>(rs i).length-k) 0 false sB ⟨Nat.zero_le _,Ext.refl _,rfl⟩ ?_
  rintro k bb w4 ⟨hk,a5,a2⟩;have j:=aq.trans a5;have a9:=aa.ext j;obtain⟨TA,tc,rfl,b8,b7,b4,ai,b1⟩:=(b2.ext j).parts;refine ldR (a9.at (i:=4) rfl) ?_;refine ixR i (a6.ext j) li ?_;refine ldR ((a6.ext j).cell ad) ?_;refine ρ ?_;have next:(rs i).any (Jvj vars rs vl r i)=true->(List.range (i+1)).all (λi=>(rs i).any (Jvj vars rs vl r i))=true:=λh=>by grind
  refine ki 42 (λh=>?_) (λh=>?_)
  .have lk:k<(rs i).length:=by have:=oT h;omega
   clear h;refine ciR (λh=>?_) (λh=>?_)
   .have a8:bb=false:=by cases bb<;>first|rfl|cases h
    subst a8;obtain⟨xv,ao,ap⟩:=b1 k lk;have an:=hP.len i li _ (getD_mem' [] (rs i) lk);have G:Ext w4 w4.drew:=(Ext.refl w4).drew;have Z:=j.trans G;refine drR [(0,0),(0,1),(0,2),(0,3),(0,4),(0,5),(0,6),(0,7),(0,8),(0,9),(0,10),(0,11),(0,12),(0,13),(0,15),(1,14),(1,16),(0,17)] ?_;have aj:=(a6.ext Z);refine Jz ((a9.ext G).at (i:=4) rfl) ?_;refine Jb i aj li ?_;refine Jz (aj.cell ad) ?_;refine Jb k (ai.ext G) lk ?_;refine Jz ((ai.ext G).cell ao) ?_;refine Jz ((a9.ext G).at (i:=3) rfl) ?_;refine Jb i (a1.ext Z) li ?_;refine Jz ((a1.ext Z).cell ac) ?_;refine Jh (Qjd (ap.ext G) (ah.ext Z) ae O an) ?_;rintro pv w5 ⟨ax,a4⟩;refine⟨a4,?_⟩;refine Jh (Jsx ax (ar.ext ((a5.trans G).trans a4))) ?_;rintro _ w6 ⟨rfl,ab⟩;refine⟨ab,?_⟩;refine ρd ?_;refine ρ ?_;refine Jl (k+1) (Jvj vars rs vl r i ((rs i).getD k [])) sO ⟨lk,((a5.trans G).trans a4).trans ab,?_⟩ om
    grind [Qs,lk]
   have a7:bb=true:=by cases bb<;>first|rfl|cases h
   subst a7;refine ρ ?_;refine Qy (i+1) sO ⟨li,D.trans j,next ?_⟩ om;grind
  have lk:k=(rs i).length:=by have:=oF h;omega
  clear h;rw[lk,List.take_length]at a2;refine ciR (λh=>?_) (λh=>?_)
  .have a8:bb=false:=by cases bb<;>first|rfl|cases h
   refine ρ ?_;refine Jj ⟨?_,(J.trans D).trans j⟩;congr 1
   symm
   refine Bool.eq_false_iff.2 λhc=>?_;have:=List.all_eq_true.1 hc i (List.mem_range.2 li);rw[a8]at a2;exact Bool.false_ne_true (a2.trans this)
  have a7:bb=true:=by cases bb<;>first|rfl|cases h
  refine ρ ?_;exact Qy (i+1) sO ⟨li,D.trans j,next (by rw[<-a2];exact a7)⟩ om
 have ay:i=m:=by have:=oF h;omega
 subst ay;refine ρ ?_;exact Jj ⟨congrArg Value.bool ag.symm,J.trans D⟩
end
open Go.RowKit Pl Go.Wk
theorem EVv: ElT Tryz.prog 58 147 3 32 (.agg #[.int .i64 0,.int .i64 0,.string ⟨#[]⟩]):=⟨Tryz.underlying58,info_parts kr,rfl,by decide⟩
theorem Xzm(v:V)(w:World): (Instr.buildSlice 58 1 #[(0,v.val)]).run Tryz.prog w=.ok (.slice (some ⟨w.heap.size,0,none⟩) 1 1) (w.alloc (.cells v.cells.toArray 147)):=kr
theorem Blk.rowV{w:World}{b t:Nat}{v:V}(h:Blk w b t v.cells): RowV w (.slice (some ⟨b,0,none⟩) 1 1) [v]:=⟨some ⟨b,0,none⟩,1,rfl,Nat.le_refl _,by simp,by
 have:=h.rd (n:=1) (sz:=3) rfl;unfold RdR;grind [rowC_one'']⟩
def enI(vars:Nat->List Nat)(rs:Nat->List Row)(v i:Nat): List Row:=(List.range (vars i).length).flatMap λk=>if(vars i).getD k 0=v then(rs i).map λr=>[r.getD k V0] else[]
def enD(vars:Nat->List Nat)(rs:Nat->List Row)(v i k:Nat): List Row:=(List.range i).flatMap (enI vars rs v)++(List.range k).flatMap λk=>if(vars i).getD k 0=v then(rs i).map λr=>[r.getD k V0] else[]
def Uz(D:List Row): List Row:=D.foldl (Zs []) []
theorem Qlx(D:List Row): IsSet [] D (Uz D):=by
 have:=Jvf (ds:=[]) D (done:=[]) (l:=[]) ⟨List.Pairwise.nil,λx=>Iff.rfl⟩;rwa [List.nil_append]at this
theorem Qjk(D:List Row)(r:Row): Uz (D++[r])=Zs [] (Uz D) r:=by simp[Uz]
theorem Qlz(D:List Row)(r:Row): (Uz (D++[r])).length<=(Uz D).length+1:=by
 rw[Qjk];unfold Zs;grind
section
variable {n f:Int} {pA VA RA:Option Addr} {pn pc vc rc N m:Nat} {vars:Nat->List Nat} {rs:Nat->List Row} {w:World}
theorem Qlj(hP:RefP N m vars rs)(hM:RInM w VA RA m vars rs)(v:Nat):
  Ret Tryz.prog 186 [.agg (Yq n f pA pn pc VA vc RA rc m).toArray,.int .i64 (v:Int)] w λu w'=>(RowV w' u (Xd m vars rs v)/\(Xd m vars rs v).length<=10240)/\Ext w w':=by
 have bh:=hP.m32;refine enE Tryz.func186 Tryz.ntmps186 ?_;refine bxR (cs:=Yq n f pA pn pc VA vc RA rc m) ?_;intro w1 b ab hb hB;refine ρ ?_;refine Jo (fun (i:Nat) (lv:Value)=>[(1,.int .i64 (v:Int)),(2,.pointer (some ⟨b,0,none⟩)),(5,lv),(6,.int .i64 (i:Int))])
  (λi lv w'=>i<=m/\Ext w1 w'/\RowsV w' lv (Uz ((List.range i).flatMap (enI vars rs v)))/\(Uz ((List.range i).flatMap (enI vars rs v))).length<=320*i) (λi _=>m-i) 0 (.slice none 0 0) sB
  ⟨Nat.zero_le _,Ext.refl _,⟨[],none,0,rfl,rfl,Nat.le_refl _,Nat.zero_le _,Rd.nil,λp hp=>by cases hp⟩,Nat.le_refl _⟩ ?_
 rintro i lv w2 ⟨hi,aa,G,Z⟩;have ap:=hB.ext aa;refine ldR (ap.at (i:=3) rfl) ?_;refine ciR (λh=>?_) (λh=>?_)
 .have li:i<m:=by have:=oT h;omega
  clear h;have ac:∀ u∈vars i,u<32:=λu hu=>by have:=hP.lt i li u hu;have:=hP.n32;omega
  have ak:=Jvx (hP.asc i li) ac;have bd:=hP.row i li;refine ρ ?_;refine Jo (fun (k:Nat) (lv:Value)=>[(1,.int .i64 (v:Int)),(2,.pointer (some ⟨b,0,none⟩)),(5,lv),(6,.int .i64 (i:Int)),(7,.int .i64 (k:Int))])
   (λk lv w'=>k<=(vars i).length/\Ext w2 w'/\RowsV w' lv (Uz (enD vars rs v i k))/\(Uz (enD vars rs v i k)).length<=320*i+10*k) (λk _=>(vars i).length-k) 0 lv sB
   ⟨Nat.zero_le _,Ext.refl _,by unfold enD;simpa using G,by unfold enD;simpa using Z⟩ ?_
  clear G Z lv;rintro k lv w3 ⟨hk,J,G,Z⟩;have a2:=aa.trans J;have af:=ap.ext J;obtain⟨be,a6,av⟩:=(hM.ext (ab.trans a2)).v;obtain⟨vi,am,ba⟩:=av i li;obtain⟨PA,bg,rfl,bm,bj,ao⟩:=ba.n;refine ldR (af.at (i:=3) rfl) ?_;refine ixR i a6 li ?_;refine ldR (a6.cell am) ?_;refine ciR (λh=>?_) (λh=>?_)
  .have lk:k<(vars i).length:=by have:=oT h;omega
   clear h;refine ldR (af.at (i:=3) rfl) ?_;refine ixR i a6 li ?_;refine ldR (a6.cell am) ?_;refine ixR k ao lk ?_;refine ldR (ao.cell (Zy lk)) ?_;refine ρ ?_;have a1:∀ D,enD vars rs v i (k+1)=D->D=enD vars rs v i k++(if(vars i).getD k 0=v then(rs i).map λr=>[r.getD k V0] else[]):=λD hD=>by grind [enD,List.range_succ,List.append_assoc]
   have a1:=a1 _ rfl;refine ci (λh=>?_) (λh=>?_)
   .have b2:(vars i).getD k 0≠v:=λe=>by have:=Km h;omega
    rw[if_neg b2,List.append_nil]at a1;refine ρ ?_;refine Jl (k+1) lv sO ⟨lk,J,by rw[a1];exact G,by rw[a1];omega⟩ om
   have he:(vars i).getD k 0=v:=by have:=Jqf h;omega
   rw[if_pos he]at a1;clear h;refine ρ ?_;refine Jo (fun (j:Nat) (lv:Value)=>[(1,.int .i64 (v:Int)),(2,.pointer (some ⟨b,0,none⟩)),(5,lv),(6,.int .i64 (i:Int)),(7,.int .i64 (k:Int)),(8,.int .i64 (j:Int))])
    (λj lv w'=>j<=(rs i).length/\Ext w3 w'/\RowsV w' lv (Uz (enD vars rs v i k++((rs i).take j).map λr=>[r.getD k V0]))/\(Uz (enD vars rs v i k++((rs i).take j).map λr=>[r.getD k V0])).length<=320*i+10*k+j) (λj _=>(rs i).length-j) 0 lv sB
    ⟨Nat.zero_le _,Ext.refl _,by simpa using G,by simpa using Z⟩ ?_
   clear G Z lv;rintro j lv w4 ⟨hj,O,G,Z⟩;have aj:=a2.trans O;have a8:=af.ext O;obtain⟨bf,a7,az⟩:=(hM.ext (ab.trans aj)).r;obtain⟨ri,an,bb⟩:=az i li;obtain⟨TA,tc,rfl,ay,ax,aq,a4,ae⟩:=bb.parts;refine ldR (a8.at (i:=4) rfl) ?_;refine ixR i a7 li ?_;refine ldR (a7.cell an) ?_;refine ciR (λh=>?_) (λh=>?_)
   .have lj:j<(rs i).length:=by have:=oT h;omega
    clear h;obtain⟨xv,a9,a5⟩:=ae j lj;have bi:=hP.len i li _ (getD_mem' [] (rs i) lj);obtain⟨XA,xc,rfl,ah,ag,a3⟩:=id a5;refine ldR (a8.at (i:=4) rfl) ?_;refine ixR i a7 li ?_;refine ldR (a7.cell an) ?_;refine ixR j a4 lj ?_;refine ldR (a4.cell a9) ?_;refine Qu 3 k a3 om ?_;refine Jt (cs:=(((rs i).getD j []).getD k V0).cells) (λq u hu=>RdR.cell a3 om hu) ?_;refine Qv (Jmr _) ?_;intro w5 b5 ai bp bc;refine clR (Jtv (G.ext ai) (Blk.rowV bc) (BoolsV.nil _ none 0) (Qlx _).1 om) ?_;rintro ar w6 ⟨b3,au,_⟩;have e:enD vars rs v i k++((rs i).take (j+1)).map (λr=>[r.getD k V0])=(enD vars rs v i k++((rs i).take j).map λr=>[r.getD k V0])++[[((rs i).getD j []).getD k V0]]:=by grind [Qs,List.append_assoc]
    have bl:=Qlz (enD vars rs v i k++((rs i).take j).map λr=>[r.getD k V0]) [((rs i).getD j []).getD k V0];refine ρ ?_;refine Jl (j+1) ar sO ⟨lj,(O.trans ai).trans au,by rw[e,Qjk];exact b3,by rw[e];omega⟩ om
   have b6:j=(rs i).length:=by have:=oF h;omega
   subst b6;clear h;rw[List.take_length,<-a1]at G Z;refine ρ ?_;exact Jl (k+1) lv sO ⟨lk,J.trans O,G,om⟩ om
  have ad:k=(vars i).length:=by have:=oF h;omega
  subst ad;clear h;have e:(List.range (i+1)).flatMap (enI vars rs v)=enD vars rs v i (vars i).length:=by grind [enD,List.range_succ,enI]
  refine ρ ?_;refine Jl (i+1) lv sO ⟨li,a2,by rw[e];exact G,by rw[e];omega⟩ om
 have b7:i=m:=by have:=oF h;omega
 subst b7;clear h;have eR:Uz ((List.range i).flatMap (enI vars rs v))=Gz i vars rs v:=rfl;rw[eR]at G Z;obtain⟨TA,tc,rfl,ay,ax,aq,a4,ae⟩:=G.parts;refine ρ ?_;refine Jo (fun (k:Nat) (vo:Value)=>[(5,.slice TA (Gz i vars rs v).length tc),(9,vo),(10,.int .i64 (k:Int))])
  (λk vo w'=>k<=(Gz i vars rs v).length/\Ext w2 w'/\Vh w' w2.heap.size vo ((Xd i vars rs v).take k)) (λk _=>(Gz i vars rs v).length-k) 0 (.slice none 0 0) sB
  ⟨Nat.zero_le _,Ext.refl _,Zw _ _ _ _⟩ ?_
 have ak:(Xd i vars rs v).length=(Gz i vars rs v).length:=by simp[Xd]
 rintro k vo w3 ⟨hk,J,ho⟩;refine ciR (λh=>?_) (λh=>?_)
 .have lk:k<(Gz i vars rs v).length:=by have:=oT h;omega
  clear h;obtain⟨xv,a9,a5⟩:=ae k lk;obtain⟨x,hx⟩:=Jrf (getD_mem' [] _ lk);rw[hx]at a5;obtain⟨XA,xc,rfl,ah,ag,a3⟩:=id (a5.ext J);refine ixR k (a4.ext J) lk ?_;refine ldR ((a4.ext J).cell a9) ?_;refine Qu 3 0 a3 (by simp) ?_;refine Jt (cs:=x.cells) (λq u hu=>RdR.cell (r:=[x]) a3 (i:=0) (by simp) hu) ?_;refine Qv (Xzm x) ?_;intro w4 b4 O bq a8;have bo:((Xd i vars rs v).take k).length=k:=by rw[List.length_take];omega
  refine ρ ?_;refine apb (m':=1) (news:=x.cells) EVv (Jk ho O) (a8.rd (n:=1) rfl) (V.one _) (by unfold maxLen;omega) om (J.trans O).size ?_;intro v5 w5 b1 b8 bn;have e:(Xd i vars rs v).take (k+1)=(Xd i vars rs v).take k++[x]:=by
   rw[Qs V0 om];grind [Xd,V0,Gz,List.getD,List.getElem?_eq_getElem,lk]
  refine ρ ?_;refine Jl (k+1) v5 sO ⟨lk,Ql (J.trans O) b8 (Kl (Jk ho O)),?_⟩ om;rw[Vh,e,List.length_append,rowC_app',rowC_one''];exact b1
 have ad:k=(Gz i vars rs v).length:=by have:=oF h;omega
 rw[ad,<-ak,List.take_length]at ho;obtain⟨A3,c3,rfl,b9,_⟩:=Jy ho;refine ρ ?_;exact Jj ⟨⟨⟨A3,c3,rfl,b9,om,Rd.own ho⟩,om⟩,(ab.trans aa).trans J⟩
end
open Go.RowKit Pl Go.Wk
attribute [local irreducible] WM
variable {k s:Nat}
def Jvz(m:Nat)(vars:Nat->List Nat)(rs:Nat->List Row)(n f:Nat)(ds:List Bool): List Row:=((Xa m vars rs n).map (List.take f)).foldl (Zs ds) []
theorem Qyk(m:Nat)(vars:Nat->List Nat)(rs:Nat->List Row)(n f:Nat)(ds:List Bool): IsSet ds ((Xa m vars rs n).map (List.take f)) (Jvz m vars rs n f ds):=by
 have:=Jvf (ds:=ds) ((Xa m vars rs n).map (List.take f)) (done:=[]) (l:=[]) ⟨List.Pairwise.nil,λx=>Iff.rfl⟩;rwa [List.nil_append]at this
theorem Qmb(ds:List Bool)(l:List Row)(r:Row): (Zs ds l r).length<=l.length+1:=by
 unfold Zs;grind
section
variable {n f:Int} {pA VA RA:Option Addr} {pn pc vc rc N m:Nat} {vars:Nat->List Nat} {rs:Nat->List Row} {w:World}
theorem Jnd(hP:RefP N m vars rs)(hk:k<=N): (Xv m vars rs (List.range N) k).length<=5000:=nL (Qyb hP.asc hP.len hP.cov hk) hP.cnt
def Yn(m:Nat)(vars:Nat->List Nat)(rs:Nat->List Row)(vl:List Nat)(k:Nat)(r:Row)(j:Nat): List Row:=(((Xd m vars rs (vl.getD k 0)).take j).map λx=>r++[x]).filter (Ut m vars rs (vl.take (k+1)))
theorem Qlm(hP:RefP N m vars rs)(hM:RInM w VA RA m vars rs)(hs:s<4294967296)(hbk:bk s 32=List.range N):
  Ret Tryz.prog 154 [.agg (Yq n f pA pn pc VA vc RA rc m).toArray,.int .u32 (s:Int)] w λu w'=>RowsV w' u (Xa m vars rs N)/\Ext w w':=by
 have d3:=hP.m32;have d2:=hP.n32;refine enE Tryz.func154 Tryz.ntmps154 ?_;refine bxR (cs:=Yq n f pA pn pc VA vc RA rc m) ?_;intro w1 b aa hb hB;refine clR (Qlk hs w1) ?_;rintro lv w2 ⟨br,cc⟩;rw[hbk]at br;obtain⟨LA,lc,rfl,cj,ch,bd⟩:=id br.n;rw[List.length_range]at cj ch bd ⊢;refine Qv Jqx ?_;intro w3 b3 bl dc de;refine Qv (λw=>Jjj (.slice (some ⟨b3,0,none⟩) 0 0) w _ _ _ rfl) ?_;intro w4 b4 bj db cv;have bo:=(cc.trans bl).trans bj;have bn:=bl.trans bj;have h0:RowsV w4 (.slice (some ⟨b4,0,none⟩) 1 1) (Xv m vars rs (List.range N) 0):=⟨[(.slice (some ⟨b3,0,none⟩) 0 0,[])],_,_,rfl,rfl,by simp,by simp,cv.rd (n:=1) rfl,λp hp=>by
  rw[List.mem_singleton.1 hp];exact⟨_,_,rfl,by simp,by simp,Rd.nil⟩⟩
 refine ρ ?_;refine Jo (fun (i:Nat) (ov:Value)=>[(2,.pointer (some ⟨b,0,none⟩)),(5,.slice LA N lc),(6,ov),(7,.int .i64 (i:Int))])
  (λi ov w'=>i<=N/\Ext w4 w'/\RowsV w' ov (Xv m vars rs (List.range N) i)) (λi _=>N-i) 0 (.slice (some ⟨b4,0,none⟩) 1 1) sB ⟨Nat.zero_le _,Ext.refl _,h0⟩ ?_
 clear h0;rintro i ov w5 ⟨hi,b5,b9⟩;have O:=bo.trans b5;have aq:=bn.trans b5;have c5:=hB.ext O;refine ciR (λh=>?_) (λh=>?_)
 .have li:i<N:=by have:=oT h;omega
  clear h;have bs:=Jnd hP hi;have ai:=Jnd hP (show i+1<=N by omega);have an:Ext w5 w5.drew:=(Ext.refl w5).drew;have c3:=bd.ext (aq.trans an);have bc:(Je (nz (List.range N)))[i]?=some (.int .i64 (i:Int)):=by
   have:=Zy (cs:=List.range N) (show i<(List.range N).length by simpa using li);rwa [Jjx li]at this
  refine drR (scq 7 [5]) ?_;refine Qz (cs:=Yq n f pA pn pc VA vc RA rc m) (λj u hu=>(c5.ext an).at hu) ?_;refine Jb i c3 li ?_;refine Jz (c3.cell bc) ?_;refine Jh (Qlj hP (hM.ext (aa.trans (O.trans an))) i) ?_;rintro xv w6 ⟨⟨cb,d5⟩,a6⟩;refine⟨a6,?_⟩;have a8:=an.trans a6;obtain⟨OA,oc,rfl,d9,d8,d1,cr,cq⟩:=id (b9.ext a8).parts;obtain⟨XA,xc,rfl,d6,d4,cp⟩:=id cb;refine ρd ?_;refine ρ ?_;refine Jo (fun (k:Nat) (nv:Value)=>[(2,.pointer (some ⟨b,0,none⟩)),(5,.slice LA N lc),(6,.slice OA (Xv m vars rs (List.range N) i).length oc),(7,.int .i64 (i:Int)),(8,nv),(9,.slice XA (Xd m vars rs i).length xc),(10,.int .i64 (k:Int))])
   (λk nv w'=>k<=(Xv m vars rs (List.range N) i).length/\Ext w6 w'/\OwnR w' w6.heap.size nv (((Xv m vars rs (List.range N) i).take k).flatMap λr=>Yn m vars rs (List.range N) i r (Xd m vars rs i).length)) (λk _=>(Xv m vars rs (List.range N) i).length-k) 0 (.slice none 0 0) sB
   ⟨Nat.zero_le _,Ext.refl _,OwnR.nil _ _⟩ ?_
  rintro k nv w7 ⟨Z,G,a3⟩;refine ciR (λh=>?_) (λh=>?_)
  .have lk:k<(Xv m vars rs (List.range N) i).length:=by have:=oT h;omega
   clear h;obtain⟨r,hr⟩:∃ r,r=(Xv m vars rs (List.range N) i).getD k []:=⟨_,rfl⟩;have d7:r.length=i:=((Jcx hP.asc hP.len hP.cov i hi r).1 (by rw[hr];exact getD_mem' [] _ lk)).1;obtain⟨yv,ca,bg⟩:=cq k lk;rw[<-hr]at bg;obtain⟨YA,yc,rfl,cy,cx,co⟩:=id bg;have b8:Jjt m vars rs (List.range N) i (Xv m vars rs (List.range N) i)=(Xv m vars rs (List.range N) i).flatMap λr=>Yn m vars rs (List.range N) i r (Xd m vars rs i).length:=by
    unfold Jjt Yn;rw[Jjx li,List.take_length]
   have Zo:∀ j,j<=(Xd m vars rs i).length->(((Xv m vars rs (List.range N) i).take k).flatMap (λr=>Yn m vars rs (List.range N) i r (Xd m vars rs i).length)++Yn m vars rs (List.range N) i r j).length<=5000:=λj hj=>by
    refine nL ?_ ai;rw[Xv,b8];conv=>rhs;rw[<-List.take_append_drop k (Xv m vars rs (List.range N) i),List.flatMap_append,List.length_append]
    rw[List.length_append];refine Nat.add_le_add_left ?_ _;have hd:(Xv m vars rs (List.range N) i).drop k=r::(Xv m vars rs (List.range N) i).drop (k+1):=by
     rw[hr];simp[List.getD,List.getElem?_eq_getElem lk]
    rw[hd,List.flatMap_cons,List.length_append];refine nL ?_ (Nat.le_add_right _ _);unfold Yn;refine List.Sublist.length_le (List.Sublist.filter _ (List.Sublist.map _ ?_));rw[Jjx li,List.take_length];exact List.take_sublist _ _
   refine ρ ?_;refine Jo (fun (j:Nat) (nv:Value)=>[(2,.pointer (some ⟨b,0,none⟩)),(5,.slice LA N lc),(6,.slice OA (Xv m vars rs (List.range N) i).length oc),(7,.int .i64 (i:Int)),(8,nv),(9,.slice XA (Xd m vars rs i).length xc),(10,.int .i64 (k:Int)),(11,.int .i64 (j:Int))])
    (λj nv w'=>j<=(Xd m vars rs i).length/\Ext w6 w'/\OwnR w' w6.heap.size nv (((Xv m vars rs (List.range N) i).take k).flatMap (λr=>Yn m vars rs (List.range N) i r (Xd m vars rs i).length)++Yn m vars rs (List.range N) i r j)) (λj _=>(Xd m vars rs i).length-j) 0 nv sB
    ⟨Nat.zero_le _,G,by simpa [Yn] using a3⟩ ?_
   clear a3 nv G w7;rintro j nv w7 ⟨hj,G,a3⟩;refine ciR (λh=>?_) (λh=>?_)
   .have lj:j<(Xd m vars rs i).length:=by have:=oT h;omega
    clear h;obtain⟨x,hx⟩:∃ x,x=(Xd m vars rs i).getD j V0:=⟨_,rfl⟩;have bp:Yn m vars rs (List.range N) i r (j+1)=Yn m vars rs (List.range N) i r j++if Ut m vars rs ((List.range N).take (i+1)) (r++[x])=true then[r++[x]] else[]:=by
     unfold Yn;rw[Jjx li,Qs V0 lj,List.map_append,List.filter_append,<-hx];congr 1
     by_cases hf:Ut m vars rs ((List.range N).take (i+1)) (r++[x])=true
     .rw[if_pos hf];exact List.filter_cons_of_pos hf
     rw[if_neg hf];exact List.filter_cons_of_neg hf
    have b2:Ext w7 w7.drew:=(Ext.refl w7).drew;have a7:=G.trans b2;have ak:=Rd.ext co a7;have ax:=Rd.ext cp a7;have ay:=cr.ext a7;have xt:∀ {W:World},GrN (λk=>w7.drew.heap.size<=k) w7.drew W->Ext w7.drew W:=λh=>h.old (Ext.refl _) λk Z=>Z;refine ρ ?_;refine drM (λk=>w7.drew.heap.size<=k) ?_;refine Xu (fuel':=5) [(0,1),(0,2),(0,3),(0,4),(0,6),(0,7),(0,8),(0,9)] #[false,true,true,true,true,false,true,true,true,true,false,false,false] kr kr rfl ?_;refine ρn ?_;refine nix k ay lk ?_;refine ρn ?_;refine nld (λw' hg=>(ay.ext (xt hg)).cell ca) ?_;refine ρn ?_;refine Yr 3 j ax om ?_;refine ρn ?_;refine Xs (cs:=x.cells) (λw' hg q u hu=>RdR.cell (Rd.ext ax (xt hg)) lj (by rw[<-hx];exact hu)) ?_;refine ρn ?_;refine Zq ?_;refine Jwp 2 (lst 13 11) (fun (q:Value×Nat)=>[(46,q.1),(51,.slice (some ⟨q.2,0,none⟩) 1 1),(2,.pointer (some ⟨b,0,none⟩)),(5,.slice LA N lc),(6,.slice OA (Xv m vars rs (List.range N) i).length oc),(7,.int .i64 (i:Int)),(8,nv),(9,.slice XA (Xd m vars rs i).length xc),(10,.int .i64 (k:Int)),(11,.int .i64 (j:Int))])
     (λq W=>Ext w7.drew W/\W.ownsRow w7.drew.heap.size 147 3 q.1 r.length (Js r)/\Blk W q.2 147 x.cells) ?_ ?_
    .rintro⟨a9,ac⟩ W ⟨bh,ba,c4⟩;simp only at ba c4;refine Zj 11 kr rfl rfl ?_;refine apb (m':=1) (news:=x.cells) EV ba (c4.rd (n:=1) rfl) (V.one _) (by unfold maxLen;omega) om bh.size ?_;intro d0 W2 ab bb cg;obtain⟨_,_,rfl,_,bz⟩:=Jy ba;have a1:GrN (λk=>w7.drew.heap.size<=k) W W2:=GrN.by bb λk Z=>(bz k Z).1
     have bm:=a1.old bh λk Z=>Z;refine Jd (Qh a1 ?_);refine Xu (fuel':=0) [(0,12)] (lst 13 13) kr kr rfl ?_;refine ρn ?_;refine Zq ?_;refine Jzn kr ?_;have cw:Js r++x.cells=Js (r++[x]):=by rw[rowC_app',rowC_one'']
     have c9:r.length+1=(r++[x]).length:=by simp
     rw[cw,c9]at ab;obtain⟨bf,be,rfl,c1,bw⟩:=Jy ab;have c7:RowX W2 (own w6.heap.size nv) (.slice bf (r++[x]).length be) (r++[x]):=by
      refine⟨bf,be,rfl,c1,by simp;omega,Rd.own ab,λ_ ad e Z=>?_⟩;have h1:=(bw ad.block (by rw[e];simp[Value.ownBlock])).1;have h2:=a7.size;rcases Z with Z|Z
      .omega
      have:=(a3.lt _ Z).2;have:=b2.size;omega
     have b1:Ext W2 W2.drew:=(Ext.refl W2).drew;have ao:=(b2.trans bm).trans b1;have ap:=G.trans ao;have ar:=O.trans (a8.trans ap);have b7:=aq.trans (a8.trans ap);have cd:IntsV W2.drew (.slice LA (i+1) lc) (nz ((List.range N).take (i+1))):=by
      have hl:((List.range N).take (i+1)).length=i+1:=by rw[List.length_take,List.length_range];omega
      refine⟨LA,lc,by rw[Qg,hl],by rw[Qg,hl];omega,by rw[Qg,hl];omega,?_⟩;have:=(bd.ext b7).take (m:=i+1) om;rw[Qg,hl];have e:(Je (nz (List.range N))).take ((i+1)*1)=Je (nz ((List.range N).take (i+1))):=by rw[Nat.mul_one];simp only[Je,nz,List.map_take]
      rw[e]at this;exact this
     refine ρ ?_;refine drN (λ_=>False) 10 (scq 7 [6]) kr ?_;refine ρn ?_;refine Xs (cs:=Yq n f pA pn pc VA vc RA rc m) (λw' hg j u hu=>((hB.ext ar).ext hg.toExt).at hu) ?_;refine ρn ?_;refine nslh (A:=LA) (m:=N) (c:=lc) (i+1) ?_ om;refine ρn ?_;refine nop ?_;refine cl (Qjg hP (hM.ext (aa.trans ar)) cd (c7.v.ext b1) (λu hu=>by have:=List.mem_range.1 (List.mem_of_mem_take hu);omega) (by simp;omega)) ?_;rintro _ W3 ⟨rfl,ag⟩;refine ρ ?_;refine Qj (GrN.ext ag) ?_;refine ρn ?_;have a5:=ao.trans ag;have au:=a3.ext a5;refine ciR (λhf=>?_) (λhf=>?_)
     .refine Qv (λw=>Jjj (.slice bf (r++[x]).length be) w _ _ _ rfl) ?_;intro W4 df af cz c6;refine ρ ?_;refine appR (a:=w6) (G.trans (a5.trans af)) ER (au.ext af) c6 ((((c7.ext b1).ext ag)).ext af) (by have:=Zo j om;omega) ?_;intro c8 W5 bq bi _;refine ρ ?_;refine Jl (j+1) c8 sO ⟨lj,bi,?_⟩ om;rw[bp,if_pos hf,<-List.append_assoc];exact bq
     refine ρ ?_;refine Jl (j+1) nv sO ⟨lj,G.trans a5,?_⟩ om;rw[bp,if_neg (by rw[hf];simp),List.append_nil];exact au
    intro rest;have ae:∀ {W:World} {g:Nat},Blk W g 147 ([]:List Value)->w7.drew.heap.size<=g->W.ownsRow w7.drew.heap.size 147 3 (.slice (some ⟨g,0,none⟩) 0 0) 0 []:=λhB hb=>hB.own (n:=0) hb rfl (Nat.zero_le _);refine Ga 0 10 kr rfl rfl rfl ?_ ?_
    .refine Qv Jqx ?_;intro W1 b0 D a4 am;refine Jd (Qh (GrN.ext D) ?_);refine Ga 5 10 kr rfl rfl rfl ?_ ?_
     .refine apb (m':=r.length) (news:=Js r) EV (ae am a4) (ak.ext D) (Jbf r) (by unfold maxLen;omega) om D.size ?_;intro a9 W2 ab bb cg;rw[Nat.zero_add,List.nil_append]at ab;have a1:GrN (λk=>w7.drew.heap.size<=k) W1 W2:=GrN.by bb λk Z=>by simp[Value.ownBlock]at Z;omega
      refine Jd (Qh a1 ?_);refine Zj 10 kr rfl rfl ?_;refine bsl (Jvt x) ?_;intro W3 ac az av a2;refine Jd (Qh (GrN.ext az) ?_);refine Gy (listed':=lst 13 11) kr ?_;exact rest (a9,ac) _ _ ⟨(a1.old D λk Z=>Z).trans az,Jk ab az,a2⟩ sB
     refine Qv (Jvt x) ?_;intro W2 ac J av a2;refine Jd (Qh (GrN.ext J) ?_);refine Zj 5 kr rfl rfl ?_;refine apb (m':=r.length) (news:=Js r) EV (ae (am.ext J) a4) (ak.ext (D.trans J)) (Jbf r) (by unfold maxLen;omega) om (D.trans J).size ?_;intro a9 W3 ah aj ce;rw[Nat.zero_add,List.nil_append]at ah;have a1:GrN (λk=>w7.drew.heap.size<=k) W2 W3:=GrN.by aj λk Z=>by simp[Value.ownBlock]at Z;omega
     refine Jd (Qh a1 ?_);refine Gy (listed':=lst 13 11) kr ?_;refine rest (a9,ac) _ _ ⟨a1.old (D.trans J) λk Z=>Z,ah,a2.grown aj ?_⟩ sB;have:=am.lt;simp[Value.ownBlock];omega
    refine Qv (Jvt x) ?_;intro W1 ac D av a2;refine Jd (Qh (GrN.ext D) ?_);refine Zj 0 kr rfl rfl ?_;refine bsl Jqx ?_;intro W2 b0 J a4 am;refine Jd (Qh (GrN.ext J) ?_);refine Zj 5 kr rfl rfl ?_;have c2:=nL D.size a4;refine apb (m':=r.length) (news:=Js r) EV (ae am c2) (ak.ext (D.trans J)) (Jbf r) (by unfold maxLen;omega) om (D.trans J).size ?_;intro a9 W3 ah aj ce;rw[Nat.zero_add,List.nil_append]at ah;have a1:GrN (λk=>w7.drew.heap.size<=k) W2 W3:=GrN.by aj λk Z=>by simp[Value.ownBlock]at Z;omega
    refine Jd (Qh a1 ?_);refine Gy (listed':=lst 13 11) kr ?_;refine rest (a9,ac) _ _ ⟨a1.old (D.trans J) λk Z=>Z,ah,(a2.ext J).grown aj ?_⟩ sB;have:=a2.lt;simp[Value.ownBlock];omega
   have cm:j=(Xd m vars rs i).length:=by have:=oF h;omega
   subst cm;clear h;refine ρ ?_;refine Jl (k+1) nv sO ⟨lk,G,?_⟩ om;rw[Qs [] lk,List.flatMap_append,<-hr];simpa using a3
  have ck:k=(Xv m vars rs (List.range N) i).length:=by have:=oF h;omega
  subst ck;clear h;rw[List.take_length]at a3;refine ρ ?_;refine Jl (i+1) nv sO ⟨li,(b5.trans a8).trans G,?_⟩ om;have e:Xv m vars rs (List.range N) (i+1)=(Xv m vars rs (List.range N) i).flatMap λr=>Yn m vars rs (List.range N) i r (Xd m vars rs i).length:=by
   rw[Xv];unfold Jjt Yn;rw[Jjx li,List.take_length]
  rw[e]at ai ⊢;exact a3.rows om
 have cn:i=N:=by have:=oF h;omega
 subst cn;clear h;have bs:=Jnd hP (nR i);refine ρ ?_;refine ki 68 (λh=>?_) (λh=>?_)
 .have h0:i=0:=by have:=Zv h;omega
  clear h;refine Jt (cs:=Yq n f pA pn pc VA vc RA rc m) (λj u hu=>c5.at hu) ?_;refine Qv Jqx ?_;intro w6 b6 a6 da dd;refine clR (Qjg (vl:=[]) (r:=[]) hP (hM.ext (aa.trans (O.trans a6))) ⟨none,0,rfl,Nat.le_refl _,Nat.zero_le _,Rd.nil⟩ ⟨some ⟨b6,0,none⟩,0,rfl,Nat.le_refl _,Nat.zero_le _,Rd.nil⟩ (λu hu=>by cases hu) rfl) ?_;rintro _ w7 ⟨rfl,G⟩;refine ρ ?_;subst h0;refine ci (λhf=>?_) (λhf=>?_)
  .have a4:Ut m vars rs [] []=false:=by cases hh:Ut m vars rs [] []<;>first|rfl|(rw[hh]at hf;cases hf)
   refine ρ ?_;refine Jj ⟨?_,(aa.trans O).trans (a6.trans G)⟩;unfold Xa;rw[if_pos rfl,a4];exact⟨[],none,0,rfl,rfl,Nat.le_refl _,Nat.zero_le _,Rd.nil,λp hp=>by cases hp⟩
  have a4:Ut m vars rs [] []=true:=by cases hh:Ut m vars rs [] []<;>first|rfl|(rw[hh]at hf;cases hf)
  refine ρ ?_;refine Jj ⟨?_,(aa.trans O).trans (a6.trans G)⟩;unfold Xa;rw[if_pos rfl,if_pos a4];exact b9.ext (a6.trans G)
 have h0:i≠0:=λe=>by have:=Xo h;omega
 clear h;refine ρ ?_;refine Jj ⟨?_,aa.trans O⟩;unfold Xa;rw[if_neg h0];exact b9
end
open Go.RowKit Pl Go.Wk
variable {ds:List Bool}{F N m:Nat}{dv:Value}
theorem Xwd(hN:N<=32): bk (2^N-1) 32=List.range N:=by
 have key:∀ k,bk (2^N-1) k=List.range (min k N):=by
  intro k;induction k with
  | zero=>rfl
  | succ k ih=>
   grind [Gg,Nat.testBit_two_pow_sub_one,Nat.min_eq_left,List.range_succ,Nat.min_eq_right]
 grind
theorem Qsk{vars:Nat->List Nat}{rs:Nat->List Row}(hP:RefP N m vars rs){z:Row}(hz:z∈Xa m vars rs N): z.length=N:=((Jhx hP.asc hP.len hP.lt hP.cov z).1 hz).1
section
variable {pA VA RA:Option Addr} {pn pc vc rc N m:Nat} {f:Int} {vars:Nat->List Nat} {rs:Nat->List Row} {w:World}
theorem Qll(hP:RefP N m vars rs)(hM:RInM w VA RA m vars rs)(hN:N<=31):
  Ret Tryz.prog 102 [.agg (Yq (N:Int) f pA pn pc VA vc RA rc m).toArray] w λu w'=>RowsV w' u (Xa m vars rs N)/\Ext w w':=by
 refine enE Tryz.func102 Tryz.ntmps102 ?_;refine bxR (cs:=Yq (N:Int) f pA pn pc VA vc RA rc m) ?_;intro w1 b D hb O;refine Jt (cs:=Yq (N:Int) f pA pn pc VA vc RA rc m) (λj u J=>O.at J) ?_;refine ldR (O.at (i:=0) rfl) ?_;refine ρ ?_;refine Go.Wk.kv 6 (congrArg (λz=>Value.int .u64 z) (Uq (z:=(N:Int)) om)) ?_;refine Jsl (v:=N) om ?_;refine ρ ?_;have h1:1<=2^N:=Nat.pow_pos (by decide);have h2:=Kh (show N<32 by omega);have e:IntKind.u32.wrap (((2^N:Nat):Int)-1)=((2^N-1:Nat):Int):=by rw[IntKind.wrap_u32];omega
 refine Go.Wk.kv 8 (congrArg (λz=>Value.int .u32 z) e) ?_;refine cl (Qlm hP (hM.ext D) om (Xwd om)) ?_;rintro u Z ⟨J,G⟩;refine ρ ?_;exact Jj ⟨J,D.trans G⟩
theorem Qlp(hP:RefP N m vars rs)(hM:RInM w VA RA m vars rs)(hN:N<=31)(hF:F<=N)(hd:BoolsV w dv ds):
  Ret Tryz.prog 50 [.agg (Yq (N:Int) (F:Int) pA pn pc VA vc RA rc m).toArray,dv] w λu w'=>RowsV w' u (Jvz m vars rs N F ds)/\Ext w w'/\Fresh w u:=by
 have ao:(Xa m vars rs N).length<=5000:=nL (Qxr hP.asc hP.len hP.cov) hP.cnt;refine enE Tryz.func50 Tryz.ntmps50 ?_;refine bxR (cs:=Yq (N:Int) (F:Int) pA pn pc VA vc RA rc m) ?_;intro w1 b O hb hB;refine Jt (cs:=Yq (N:Int) (F:Int) pA pn pc VA vc RA rc m) (λj u hu=>hB.at hu) ?_;refine clR (Qll hP (hM.ext O) hN) ?_;rintro jv w2 ⟨hj,a4⟩;obtain⟨JA,jc,rfl,ap,an,aj,ae,ac⟩:=hj.parts;refine ρ ?_;refine Jo (fun (i:Nat) (ov:Value)=>[(1,dv),(2,.pointer (some ⟨b,0,none⟩)),(5,ov),(6,.slice JA (Xa m vars rs N).length jc),(7,.int .i64 (i:Int))])
  (λi ov w'=>i<=(Xa m vars rs N).length/\Ext w2 w'/\Fresh w2 ov/\RowsV w' ov ((((Xa m vars rs N).take i).map (List.take F)).foldl (Zs ds) [])/\((((Xa m vars rs N).take i).map (List.take F)).foldl (Zs ds) []).length<=i) (λi _=>(Xa m vars rs N).length-i) 0 (.slice none 0 0) sB
  ⟨Nat.zero_le _,Ext.refl _,(λad n c e=>by cases e),⟨[],none,0,rfl,rfl,Nat.le_refl _,Nat.zero_le _,Rd.nil,λp hp=>by cases hp⟩,Nat.le_refl _⟩ ?_
 rintro i ov w3 ⟨hi,G,Z,a1,am⟩;have J:=a4.trans G;refine ciR (λh=>?_) (λh=>?_)
 .have li:i<(Xa m vars rs N).length:=by have:=oT h;omega
  clear h;obtain⟨xv,a8,a2⟩:=ac i li;obtain⟨z,hz⟩:∃ z,z=(Xa m vars rs N).getD i []:=⟨_,rfl⟩;have ak:z.length=N:=by grind [Qsk,getD_mem']
  rw[<-hz]at a2;obtain⟨XA,xc,rfl,ai,ah,ab⟩:=id a2;have D:Ext w3 w3.drew:=(Ext.refl w3).drew;have a5:=Jvf (ds:=ds) (((Xa m vars rs N).take i).map (List.take F)) (done:=[]) (l:=[]) ⟨List.Pairwise.nil,λx=>Iff.rfl⟩;refine ρ ?_;refine drN (λ_=>False) 10 (scq 11 [9]) kr ?_;have a6:=ae.ext (G.trans D);have af:=(hB.ext J).ext D;refine ρn ?_;refine nix i a6 li ?_;refine ρn ?_;refine nld (λw' hg=>(a6.ext hg.toExt).cell a8) ?_;refine ρn ?_;refine nld (Jr (af.at (i:=1) rfl) (λe=>e)) ?_;refine ρn ?_;refine nslh (A:=XA) (m:=z.length) (c:=xc) F ?_ om;refine ρn ?_;refine nop ?_;have a9:RowV w3.drew (.slice XA F xc) (z.take F):=by
   have hl:(z.take F).length=F:=by rw[List.length_take];omega
   refine⟨XA,xc,by rw[hl],by rw[hl];omega,by rw[hl];omega,?_⟩;have:=(Rd.ext ab (G.trans D)).take (m:=F) om;rw[Jfz z om]at this;grind
  refine cl (Jtv (a1.ext D) a9 (hd.ext ((O.trans J).trans D)) a5.1 om) ?_;rintro a7 w4 ⟨h4,a3,ag⟩;refine ρ ?_;refine Qj (GrN.ext a3) ?_;refine ρn ?_;have e:(((Xa m vars rs N).take (i+1)).map (List.take F)).foldl (Zs ds) []=Zs ds ((((Xa m vars rs N).take i).map (List.take F)).foldl (Zs ds) []) (z.take F):=by grind [Qs]
  refine ρ ?_;refine Jl (i+1) a7 sO ⟨li,(G.trans D).trans a3,?_,by rw[e];exact h4,?_⟩ om
  .rcases ag with h'|h'
   .rw[h'];exact Z
   exactλad n c e=>nL (G.trans D).size (h' ad n c e)
  grind [Qmb,Xa,List.take,Zs]
 have aa:i=(Xa m vars rs N).length:=by have:=oF h;omega
 rw[aa,List.take_length]at a1;refine ρ ?_;exact Jj ⟨a1,O.trans J,λad n c e=>nL (O.trans a4).size (Z ad n c e)⟩
theorem Qln(hP:RefP N m vars rs)(hM:RInM w VA RA m vars rs)(hN:N<=31)(hF:F<=N)(hd:BoolsV w dv ds):
  Ret Tryz.prog 50 [.agg (Yq (N:Int) (F:Int) pA pn pc VA vc RA rc m).toArray,dv] w λu w'=>RowsV w' u (Jvz m vars rs N F ds)/\Ext w w':=(Qlp hP hM hN hF hd).mono λu w' h=>⟨h.1,h.2.1⟩
end
open Go.RowKit Pl Go.Wk
def IntssV(w:World)(v:Value)(zss:List (List Int)): Prop:=∃ A c cs,v=.slice A zss.length c/\zss.length<=c/\zss.length<=1100000/\Rd w 1 A zss.length cs/\∀ i,i<zss.length->∃ u,cs[i]?=some u/\IntsV w u (zss.getD i [])
def RowssV(w:World)(v:Value)(rss:List (List Row)): Prop:=∃ A c cs,v=.slice A rss.length c/\rss.length<=c/\rss.length<=1100000/\Rd w 1 A rss.length cs/\∀ i,i<rss.length->∃ u,cs[i]?=some u/\RowsV w u (rss.getD i [])
theorem IntssV.ext{w w':World}{v:Value}{zss:List (List Int)}(h:IntssV w v zss)(hx:Ext w w'): IntssV w' v zss:=by
 obtain⟨A,c,cs,Z,O,J,G,D⟩:=h;exact⟨A,c,cs,Z,O,J,G.ext hx,λi hi=>by obtain⟨u,e,j⟩:=D i hi;exact⟨u,e,j.ext hx⟩⟩
theorem RowssV.ext{w w':World}{v:Value}{zss:List (List Row)}(h:RowssV w v zss)(hx:Ext w w'): RowssV w' v zss:=by
 obtain⟨A,c,cs,Z,O,J,G,D⟩:=h;exact⟨A,c,cs,Z,O,J,G.ext hx,λi hi=>by obtain⟨u,e,j⟩:=D i hi;exact⟨u,e,j.ext hx⟩⟩
structure Cse where
 n: Int
 f:Int
 ds:List Bool
 pm:List Int
 vs:List (List Int)
 rss:List (List Row)
def CseV(w:World)(cs:List Value)(c:Cse): Prop:=∃ dA dc pA pc vA vc rA rc,cs=[.int .i64 c.n,.int .i64 c.f,.slice dA c.ds.length dc,.slice pA c.pm.length pc,.slice vA c.vs.length vc,.slice rA c.rss.length rc] /\
 BoolsV w (.slice dA c.ds.length dc) c.ds/\IntsV w (.slice pA c.pm.length pc) c.pm/\IntssV w (.slice vA c.vs.length vc) c.vs/\RowssV w (.slice rA c.rss.length rc) c.rss/\(-9223372036854775808<=c.n/\c.n<=9223372036854775807)/\(-9223372036854775808<=c.f/\c.f<=9223372036854775807)
theorem CseV.ext{w w':World}{cs:List Value}{c:Cse}(h:CseV w cs c)(hx:Ext w w'): CseV w' cs c:=by
 obtain⟨dA,dc,pA,pc,i,vc,j,rc,Z,O,J,G,D,u⟩:=h;exact⟨dA,dc,pA,pc,i,vc,j,rc,Z,O.ext hx,J.ext hx,G.ext hx,D.ext hx,u⟩
structure FewP(c:Cse): Prop where
 row:∀ i,i<c.rss.length->(c.rss.getD i []).length<=10
 cnt:(Jg c.rss.length λi=>max 1 (c.rss.getD i []).length)<=5000
 n6:c.n<=6∨32<c.n
 v5:c.vs.length<=5
 r5:c.rss.length<=5
structure FewS(c:Cse): Prop where
 row:∀ i,i<c.rss.length->(c.rss.getD i []).length<=10
 cnt:(Jg c.rss.length λi=>max 1 (c.rss.getD i []).length)<=5000
 n6:c.n<=6
 v5:c.vs.length<=5
 r5:c.rss.length<=5
 v8:∀ i,i<c.vs.length->(c.vs.getD i []).length<=8
 d10:c.ds.length<=10
 p10:c.pm.length<=10
theorem Xjn{w:World}{cs:List Value}{c:Cse}(h:CseV w cs c): Ret Tryz.prog 10 [.agg cs.toArray] w λu w'=>Ext w w'/\∃ b:Bool,u=.bool b/\(b=true->FewP c)/\(FewS c->b=true):=by
 obtain⟨dA,dc,pA,pc,vA,vc,rA,rc,rfl,hD,hP,hV,hR,hn,hf⟩:=h;obtain⟨_,_,af,e1,_,_,a3,ad⟩:=id hR;injection e1 with e1 e2 e3
 subst e1;subst e3;obtain⟨_,_,ae,e1,_,_,a8,ac⟩:=id hV;injection e1 with e1 e2 e3
 subst e1;subst e3;refine enE Tryz.func10 Tryz.ntmps10 ?_;refine bxR ?_;intro w1 b G hb O;refine ρ ?_;refine Jo (fun (i:Nat) (D:Nat)=>[(1,.pointer (some ⟨b,0,none⟩)),(2,.bool false),(3,.int .i64 (D:Int)),(4,.int .i64 (i:Int))])
  (λi D w'=>i<=6/\i<=c.rss.length/\w'=w1/\D=(Jg i λi=>max 1 (c.rss.getD i []).length)/\D<=10^i/\∀ j,j<i->(c.rss.getD j []).length<=10) (λi _=>6-i) 0 1 sB ⟨om,Nat.zero_le _,rfl,rfl,by simp,λj hj=>om⟩ ?_
 rintro i D w2 ⟨h6,hi,rfl,a1,a7,a4⟩;refine ldR (O.at (i:=5) rfl) ?_;refine ρ ?_;refine Yg (fun (t:Bool)=>[(14,.bool t),(1,.pointer (some ⟨b,0,none⟩)),(2,.bool false),(3,.int .i64 (D:Int)),(4,.int .i64 (i:Int))]) (λt w3=>w3=w2/\(t=true↔i<c.rss.length/\i<6)) ?_ ?_
 .refine ki 11 (λh=>?_) (λh=>?_)
  .have:=oT h;refine ρ ?_;refine Jf (decide ((i:Int)<6)) sB ⟨rfl,?_⟩;rw[decide_eq_true_eq];omega
  have:=oF h;refine ρ ?_;refine Jf false sB ⟨rfl,?_⟩;grind
 rintro t w3 ⟨rfl,ht⟩;refine ciR (λh=>?_) (λh=>?_)
 .obtain⟨li,l6⟩:=ht.1 h;clear h;obtain⟨ru,a6,ab⟩:=ad i li;obtain⟨TA,tc,rfl,_,_,_⟩:=id (ab.ext G).parts;refine ldR (O.at (i:=5) rfl) ?_;refine ixR i (a3.ext G) li ?_;refine ldR ((a3.ext G).cell a6) ?_;refine ciR (λh=>?_) (λh=>?_)
  .refine ρ ?_;exact Jj ⟨G,false,rfl,λh=>(by cases h),λJ=>by have h1:=J.row i li;grind⟩
  have ag:(c.rss.getD i []).length<=10:=by have:=oF h;omega
  clear h;refine ldR (O.at (i:=5) rfl) ?_;refine ixR i (a3.ext G) li ?_;refine ldR ((a3.ext G).cell a6) ?_;refine ρ ?_;have ah:(if(1:Int)<((c.rss.getD i []).length:Int) then((c.rss.getD i []).length:Int) else 1)=((max 1 (c.rss.getD i []).length:Nat):Int):=by
   split<;>omega
  have a5:D<=100000:=nL a7 (Nat.pow_le_pow_right (by decide) (show i<=5 by omega));have ai:D*max 1 (c.rss.getD i []).length<=D*10:=Nat.mul_le_mul_left _ om;have e:IntKind.i64.wrap ((D:Int)*(if(1:Int)<((c.rss.getD i []).length:Int) then((c.rss.getD i []).length:Int) else 1))=((D*max 1 (c.rss.getD i []).length:Nat):Int):=by grind [Int.natCast_mul,Ir]
  rw[e];refine Jl (i+1) (D*max 1 (c.rss.getD i []).length) sO ⟨om,om,rfl,?_,?_,λj hj=>?_⟩ om;repeat grind [Jg,Nat.pow_succ,Nat.mul_le_mul]
 have aj:¬ (i<c.rss.length/\i<6):=by grind
 clear h ht;refine ciR (λh=>?_) (λh=>?_)
 .refine ρ ?_;exact Jj ⟨G,false,rfl,λh=>(by cases h),λJ=>by
   have h1:=J.cnt;have h2:=J.r5;grind⟩
 have a5:D<=5000:=by grind
 clear h;refine ρ ?_;refine Qf (fun (k:Nat)=>[(1,.pointer (some ⟨b,0,none⟩)),(2,.bool false),(5,.int .i64 (k:Int))])
  (λk w'=>k<=6/\k<=c.vs.length/\w'=w3) (λk=>6-k) 0 sB ⟨om,Nat.zero_le _,rfl⟩ ?_
 rintro k w4 ⟨k6,hk,rfl⟩;refine ldR (O.at (i:=4) rfl) ?_;refine ρ ?_;refine Yg (fun (t:Bool)=>[(43,.bool t),(1,.pointer (some ⟨b,0,none⟩)),(2,.bool false),(5,.int .i64 (k:Int))]) (λt w5=>w5=w4/\(t=true->k<c.vs.length/\k<6)) ?_ ?_
 .refine ki 40 (λh=>?_) (λh=>?_)
  .have:=oT h;refine ρ ?_;refine Jf (decide ((k:Int)<6)) sB ⟨rfl,?_⟩;rw[decide_eq_true_eq];omega
  refine ρ ?_;exact Jf false sB ⟨rfl,λh=>by cases h⟩
 rintro t w5 ⟨rfl,ht⟩;refine ciR (λh=>?_) (λh=>?_)
 .obtain⟨lk,l6⟩:=ht h;clear h;obtain⟨vu,a9,aa⟩:=ac k lk;obtain⟨QA,qc,rfl,_⟩:=id aa;refine ldR (O.at (i:=4) rfl) ?_;refine ixR k (a8.ext G) lk ?_;refine ldR ((a8.ext G).cell a9) ?_;refine ciR (λh=>?_) (λh=>?_)
  .refine ρ ?_;exact Jj ⟨G,false,rfl,λh=>(by cases h),λJ=>by have h1:=J.v8 k lk;grind⟩
  refine ρ ?_;exact Qy (k+1) sO ⟨om,om,rfl⟩ om
 clear h ht;refine ldR (O.at (i:=0) rfl) ?_;refine ρ ?_;refine ki 56 (λh=>?_) (λh=>?_)
 .have hN:c.n<=6:=oT h;clear h;refine ldR (O.at (i:=4) rfl) ?_;refine ρ ?_;refine ki 67 (λh4=>?_) (λh4=>?_)
  .refine ldR (O.at (i:=5) rfl) ?_;refine ρ ?_;refine ki 73 (λh5=>?_) (λh5=>?_)
   .have r5:c.rss.length<=5:=by have:=oT h5;omega
    have v5:c.vs.length<=5:=by grind
    have ir:i=c.rss.length:=om
    have a2:FewP c:=⟨λj hj=>a4 j om,by rw[<-ir,<-a1];exact a5,.inl hN,v5,r5⟩;refine ldR (O.at (i:=2) rfl) ?_;refine ρ ?_;refine ki 79 (λh6=>?_) (λh6=>?_)
    .refine ldR (O.at (i:=3) rfl) ?_;refine ρ ?_;exact Jj ⟨G,decide ((c.pm.length:Int)<=10),rfl,λ_=>a2,λJ=>by have:=J.p10;grind⟩
    refine ρ ?_;exact Jj ⟨G,false,rfl,λh=>(by cases h),λJ=>by have h1:=J.d10;grind⟩
   refine ρ ?_;exact Jj ⟨G,false,rfl,λh=>(by cases h),λJ=>by have h1:=J.r5;grind⟩
  refine ρ ?_;exact Jj ⟨G,false,rfl,λh=>(by cases h),λJ=>by have h1:=J.v5;grind⟩
 have Z:¬ c.n<=6:=oF h;clear h;refine ldR (O.at (i:=0) rfl) ?_;refine ρ ?_;refine ki 61 (λh=>?_) (λh=>?_)
 .have hN:32<c.n:=oT h;clear h;refine ldR (O.at (i:=4) rfl) ?_;refine ρ ?_;refine ki 67 (λh4=>?_) (λh4=>?_)
  .refine ldR (O.at (i:=5) rfl) ?_;refine ρ ?_;refine ki 73 (λh5=>?_) (λh5=>?_)
   .have r5:c.rss.length<=5:=by have:=oT h5;omega
    have v5:c.vs.length<=5:=by grind
    have ir:i=c.rss.length:=om
    have a2:FewP c:=⟨λj hj=>a4 j om,by rw[<-ir,<-a1];exact a5,.inr hN,v5,r5⟩;refine ldR (O.at (i:=2) rfl) ?_;refine ρ ?_;refine ki 79 (λh6=>?_) (λh6=>?_)
    .refine ldR (O.at (i:=3) rfl) ?_;refine ρ ?_;exact Jj ⟨G,decide ((c.pm.length:Int)<=10),rfl,λ_=>a2,λJ=>absurd J.n6 Z⟩
    refine ρ ?_;exact Jj ⟨G,false,rfl,λh=>(by cases h),λJ=>absurd J.n6 Z⟩
   refine ρ ?_;exact Jj ⟨G,false,rfl,λh=>(by cases h),λJ=>absurd J.n6 Z⟩
  refine ρ ?_;exact Jj ⟨G,false,rfl,λh=>(by cases h),λJ=>absurd J.n6 Z⟩
 refine ρ ?_;exact Jj ⟨G,false,rfl,λh=>(by cases h),λJ=>absurd J.n6 Z⟩
end Go.Proofs.YtgobkbeokaaplaaGreatDoor
namespace Go.Wk
open Go.RowKit
variable {b bytes d n t ty:Nat}
section
variable {α:Type} {E:TypeId} {sz base:Nat} {Φ:World->List Value->α->Prop} {N0:Nat->Prop} {w w':World} {v:Value} {ls:List α}
def OwnM(E:TypeId)(sz:Nat)(Φ:World->List Value->α->Prop)(N0:Nat->Prop)(w:World)(base:Nat)(v:Value)(ls:List α): Prop :=
 ∃ ps:List (List Value×α),ls=ps.map (·.2)/\w.ownsRow base E sz v ps.length (Qm ps)/\∀ p∈ps,p.1.length=sz/\Off (λk=>N0 k∨v.ownBlock=some k) w (λu=>Φ u p.1 p.2)
theorem OwnM.nil(w:World)(base:Nat): OwnM E sz Φ N0 w base (.slice none 0 0) []:=⟨[],rfl,Zw _ _ _ _,λp hp=>by cases hp⟩
theorem OwnM.gr(h:OwnM E sz Φ N0 w base v ls)(hg:GrN N0 w w')(hN:∀ g,v.ownBlock=some g->¬ N0 g): OwnM E sz Φ N0 w' base v ls:=by
 obtain⟨ps,D,u,i⟩:=h;exact⟨ps,D,Ja u hg hN,λp hp=>⟨(i p hp).1,(i p hp).2.gr (hg.mono λk _ j=>.inl j)⟩⟩
theorem OwnM.ext(h:OwnM E sz Φ N0 w base v ls)(hx:Ext w w'): OwnM E sz Φ N0 w' base v ls:=by
 obtain⟨ps,u,j,i⟩:=h;exact⟨ps,u,Jk j hx,λp hp=>⟨(i p hp).1,(i p hp).2.ext hx⟩⟩
theorem OwnM.form(h:OwnM E sz Φ N0 w base v ls): ∃ A c,v=.slice A ls.length c/\ls.length<=c/\∀ g,v.ownBlock=some g->base<=g/\g<w.heap.size:=by
 obtain⟨ps,rfl,j,i⟩:=h;grind [Jy]
theorem OwnM.gv(h:OwnM E sz Φ N0 w base v ls)(hm:ls.length<=1100000): GV sz Φ w v ls:=by
 obtain⟨ps,rfl,j,i⟩:=h;obtain⟨A,c,rfl,u,D⟩:=Jy j;exact⟨ps,A,c,rfl,rfl,u,by simpa using hm,Rd.own j,λp hp=>⟨(i p hp).1,(i p hp).2.here⟩⟩
theorem apM{P:Program}{al:AL}{Q:Exit->Act->World->Prop}{ops:Array Oper}{rest:List Oper}{pos:String}{aft:Array Edge}{z:Value}(hE:ElT P t E sz bytes z){x y:Operand}{cs:List Value}{a:α}(ho:OwnM E sz Φ N0 w base v ls)(hb:Blk w b E cs)(hl:cs.length=sz)(h1:∀ u∈cs,u.oneCell'=true)(hΦ:Off (λk=>N0 k∨v.ownBlock=some k) w (λu=>Φ u cs a))(hm:ls.length<=1100000)(hby:bytes<=128)(hbase:base<=w.heap.size)(kk:∀ v' w',OwnM E sz Φ N0 w' base v' (ls++[a])->w.grownBy w' v.ownBlock->(∀ g,v'.ownBlock=some g->v.ownBlock=some g∨w.heap.size<=g)->WL P n ops Q rest ((d,v')::al) w')(hx:ev al x=some v:=by rfl)(hy:ev al y=some (.slice (some ⟨b,0,none⟩) 1 1):=by rfl)(hd:Nat.blt d n=true:=by rfl):
  WL P n ops Q (⟨some d,.call { callee:=.builtin .append,args:=#[x,y],argTypes:=#[t,t] },ty,pos,aft,none⟩::rest) al w:=by
 obtain⟨ps,e,hr,hp⟩:=ho;have a1:ps.length<=1100000:=by rw[e,List.length_map]at hm;exact hm
 have a2:(ps.length+1)*bytes<=1100001*128:=Nat.mul_le_mul om hby;refine apb hE hr (hb.rd (n:=1) om) h1 (by unfold maxLen;omega) om hbase ?_ hx hy hd;intro v' w' Z J G;have j:∀ {Ψ:World->Prop},Off (λk=>N0 k∨v.ownBlock=some k) w Ψ->Off (λk=>N0 k∨v'.ownBlock=some k) w' Ψ:=fun {Ψ} h W hW=>by
  refine h W ?_;have h1:GrN (λk=>(N0 k∨v.ownBlock=some k)∨w.heap.size<=k) w W:=(GrN.by J λk D=>.inl (.inr D)).trans (hW.mono λk _ D=>by
   rcases D with D|D
   .exact .inl (.inl D)
   rcases G k D with i|i
   .exact .inl (.inr i)
   exact .inr i)
  exact h1.mono λk D h=>h.elim id λi=>by omega
 refine kk v' w' ⟨ps++[(cs,a)],by rw[e];simp,?_,λp O=>?_⟩ J G
 .have e2:Qm (ps++[(cs,a)])=Qm ps++cs:=by simp[Qm]
  rw[List.length_append,e2];exact Z
 rcases List.mem_append.1 O with i|i
 .exact⟨(hp p i).1,j (hp p i).2⟩
 rw[List.mem_singleton.1 i];exact⟨hl,j hΦ⟩
end
end Go.Wk
namespace Go.Proofs.YtgobkbeokaaplaaGreatDoor
open Go.RowKit Pl Go.Wk _root_.Go.Proofs.Tryz
attribute [local irreducible] WC WL QX WD WDB WP WN WG WH WM
variable {w w0:World}
theorem zRin: Qr prog 116=some (.agg #[.int .i64 0,.int .i64 0,.slice none 0 0,.slice none 0 0,.slice none 0 0]):=kr
theorem Xkg(n f:Int)(A B C:Option Addr)(a a' b b' c c':Nat)(w:World): (Instr.build 116 #[(0,.int .i64 n),(1,.int .i64 f),(2,.slice A a a'),(3,.slice B b b'),(4,.slice C c c')]).run prog w=.ok (.agg #[.int .i64 n,.int .i64 f,.slice A a a',.slice B b b',.slice C c c']) w:=kr
theorem Jkn: Qr prog 33=some (.agg #[.int .i64 0,.int .i64 0,.slice none 0 0,.slice none 0 0,.slice none 0 0]):=kr
theorem Xkm(n f:Int)(A B:Option Addr)(a a' b b':Nat)(w:World): (Instr.build 33 #[(0,.int .i64 n),(1,.int .i64 f),(2,.slice A a a'),(3,.slice B b b')]).run prog w=.ok (.agg #[.int .i64 n,.int .i64 f,.slice A a a',.slice B b b',.slice none 0 0]) w:=kr
theorem Qlc{n f:Int}{dA pA vA rA:Option Addr}{d dc p pc v vc r rc:Nat}:
  Ret prog 51 [.agg #[.int .i64 n,.int .i64 f,.slice dA d dc,.slice pA p pc,.slice vA v vc,.slice rA r rc]] w λu w'=>u=.agg #[.int .i64 n,.int .i64 f,.slice pA p pc,.slice vA v vc,.slice rA r rc]/\Ext w w':=by
 refine enE func51 ntmps51 ?_;refine bxR ?_;intro w1 b G hb hB;refine Jv zRin ?_;intro w2 b2 D O a1;have j:=hB.ext D;refine ldR (j.at (i:=0) rfl) ?_;refine ldR (j.at (i:=1) rfl) ?_;refine ldR (j.at (i:=3) rfl) ?_;refine ldR (j.at (i:=4) rfl) ?_;refine ldR (j.at (i:=5) rfl) ?_;refine Zz (Xkg _ _ _ _ _ _ _ _ _ _ _ _) ?_;refine Zk a1 ?_;intro w3 Z a2 J;refine ρ ?_;exact Kq Z ⟨rfl,J w (G.trans D) (nL G.size O)⟩
structure MkA(a:Atm)(zs:List Int)(rows:List Row): Prop where
 vars:a.vars=zs
 ar:a.ar=zs.length
 l32:zs.length<=32
 ok:∀ r∈rows,r.length=zs.length/\r.all Xl=true
 len:a.rows.length<=65536
 sub:∀ x∈a.rows,x∈rows
 set:rows.length<=12->IsSet [] rows a.rows
structure MkS(c:Cse): Prop where
 len:c.vs.length=c.rss.length
 l32:∀ i,i<c.vs.length->(c.vs.getD i []).length<=32
 ok:∀ i,i<c.vs.length->∀ r∈c.rss.getD i [],r.length=(c.vs.getD i []).length/\r.all Xl=true
 row:∀ i,i<c.vs.length->(c.rss.getD i []).length<=65536
theorem Qrf{cs:List Value}{c:Cse}(h:CseV w0 cs c)(h00:Ext w0 w): Ret prog 9 [.agg cs.toArray] w λu w'=>Ext w w'/\∃(dA pA aA:Option Addr) (dc pc ac an:Nat) (ok:Bool),u=.tuple #[.agg #[.int .i64 c.n,.int .i64 c.f,.slice dA c.ds.length dc,.slice pA c.pm.length pc,.slice aA an ac],.bool ok] /\
  BoolsV w0 (.slice dA c.ds.length dc) c.ds/\IntsV w0 (.slice pA c.pm.length pc) c.pm/\(ok=true->c.vs.length=c.rss.length/\∃ ats:List Atm,ats.length=c.vs.length/\Off (λk=>w0.heap.size<=k/\k<w.heap.size) w' (λu=>GV 3 AtG u (.slice aA an ac) ats)/\∀ i,i<c.vs.length->MkA (ats.getD i a0) (c.vs.getD i []) (c.rss.getD i []))/\(MkS c->ok=true):=by
 obtain⟨dA,dc,pA,pc,vA,vc,rA,rc,rfl,hD,hP,d7,hR,hn,hf⟩:=h;have hV:=d7;obtain⟨_,_,cy,e1,_,dl,ck,ch⟩:=id hR;injection e1 with e1 e2 e3
 subst e1;subst e3;obtain⟨_,_,dh,e1,_,dk,cg,d6⟩:=id hV;injection e1 with e1 e2 e3
 subst e1;subst e3;have d9:=ck.ext h00;have bn:=cg.ext h00;have d8:∀ i,i<c.rss.length->∃ u,cy[i]?=some u/\RowsV w u (c.rss.getD i []):=λi hi=>by obtain⟨u,e,hu⟩:=ch i hi;exact⟨u,e,hu.ext h00⟩
 refine enE func9 ntmps9 ?_;refine bxR ?_;intro w1 b ad hb hB;refine Jv Jkn ?_;intro w2 b2 az bm cw;have ae:=hB.ext az;refine ldR (ae.at (i:=0) rfl) ?_;refine ldR (ae.at (i:=1) rfl) ?_;refine ldR (ae.at (i:=2) rfl) ?_;refine ldR (ae.at (i:=3) rfl) ?_;refine Zz (Xkm _ _ _ _ _ _ _ _ _) ?_;refine Jv Jkn ?_;intro w3 O d1 c8 df;refine Zk df ?_;intro w4 aa dx d0;have ag:Ext w2 w4:=d0 w2 d1 c8;have a4:=(ad.trans az).trans ag;have ca:¬ b=O:=λe=>by have:=ae.lt;omega
 have b5:¬ b2=O:=λe=>by have:=cw.lt;omega
 have bc:=ae.ext ag;have au:=cw.ext ag;refine ρ ?_;refine Jo (fun (i:Nat) (av:Value)=>[(1,.pointer (some ⟨b,0,none⟩)),(2,.pointer (some ⟨b2,0,none⟩)),(3,.bool false),(4,.pointer (some ⟨O,0,none⟩)),(5,.int .i64 (i:Int))])
  (λi av w'=>i<=c.vs.length/\i<=c.rss.length/\GrN (λk=>k=O) w4 w'/\Blk w' O 33 [.int .i64 c.n,.int .i64 c.f,.slice dA c.ds.length dc,.slice pA c.pm.length pc,av]/\∃ ats:List Atm,ats.length=i/\OwnM 134 3 AtG (λk=>(k=b2∨k=O)∨(w0.heap.size<=k/\k<w.heap.size)) w' w4.heap.size av ats/\∀ j,j<i->MkA (ats.getD j a0) (c.vs.getD j []) (c.rss.getD j [])) (λi _=>c.vs.length-i) 0 (.slice none 0 0) sB
  ⟨Nat.zero_le _,Nat.zero_le _,GrN.refl _ _,aa,[],rfl,OwnM.nil _ _,λj hj=>om⟩ ?_
 rintro i av w5 ⟨du,dv,aj,ap,ats,cc,am,hmk⟩;have a3:=Jc bc aj ca;have aq:=Jc au aj b5;have ay:Ext w w5:=aj.old a4 λk D=>by rw[D];have:=(ad.trans az).size;omega
 refine ldR (a3.at (i:=4) rfl) ?_;refine ρ ?_;refine Yg (fun (t:Bool)=>[(28,.bool t),(1,.pointer (some ⟨b,0,none⟩)),(2,.pointer (some ⟨b2,0,none⟩)),(3,.bool false),(4,.pointer (some ⟨O,0,none⟩)),(5,.int .i64 (i:Int))]) (λt w6=>w6=w5/\(t=true↔i<c.vs.length/\i<c.rss.length)) ?_ ?_
 .refine ki 22 (λh=>?_) (λh=>?_)
  .have:=oT h;refine ldR (a3.at (i:=5) rfl) ?_;refine ρ ?_;refine Jf (decide ((i:Int)<(c.rss.length:Int))) sB ⟨rfl,?_⟩;rw[decide_eq_true_eq];omega
  have:=oF h;refine ρ ?_;refine Jf false sB ⟨rfl,?_⟩;constructor
  .intro h;cases h
  omega
 rintro t w6 ⟨rfl,ht⟩;refine ciR (λh=>?_) (λh=>?_)
 .obtain⟨lv,lr⟩:=ht.1 h;clear h;obtain⟨vu,br,bs⟩:=d6 i lv;obtain⟨ru,d2,be⟩:=d8 i lr;obtain⟨QA,qc,rfl,dn,dm,dq⟩:=id bs;have J:Ext w6 w6.drew:=(Ext.refl w6).drew;have Z:=ay.trans J;have cp:=a3.ext J;have ce:=bn.ext Z;have cj:=d9.ext Z;obtain⟨TA,tc,rfl,_,_,_⟩:=id (be.ext Z).parts;refine ρ ?_;refine drH (λi=>Nat.ble 16 i) ?_;refine Zo (fuel':=7) 8 [(0,0),(0,1),(0,2),(0,3),(0,4),(0,5),(0,6),(0,7),(0,8),(0,9),(0,10)] (lst 18 11) kr kr rfl ?_;refine Jz (cp.at (i:=4) rfl) ?_;refine Jb i ce lv ?_;refine Jz (ce.cell br) ?_;refine Jz (cp.at (i:=5) rfl) ?_;refine Jb i cj lr ?_;refine Jz (cj.cell d2) ?_;refine ρd ?_;refine Xb ?_;refine Jvb 2 (lst 18 16) (fun (q:Value×Int×Nat)=>[(44,q.1),(45,.int .i64 q.2.1),(6,.pointer (some ⟨q.2.2,0,none⟩)),(1,.pointer (some ⟨b,0,none⟩)),(2,.pointer (some ⟨b2,0,none⟩)),(3,.bool false),(4,.pointer (some ⟨O,0,none⟩)),(5,.int .i64 (i:Int))])
   (λq W=>Ext w6.drew W/\Blk W q.2.2 130 [.int .i64 0,.slice none 0 0]/\w6.drew.heap.size<=q.2.2/\(∃ z B m d,q.1=.agg #[.int .i64 z,.slice B m d])/\((c.vs.getD i []).length<=32->(∀ r∈c.rss.getD i [],r.length=(c.vs.getD i []).length/\r.all Xl=true)->(c.rss.getD i []).length<=65536->q.2.1=0) /\
    (q.2.1=0->(c.vs.getD i []).length<=32/\(∀ r∈c.rss.getD i [],r.length=(c.vs.getD i []).length/\r.all Xl=true)/\∃ m,Off (λk=>k<w6.drew.heap.size∨k=q.2.2) W (λu=>RelV u q.1 (c.vs.getD i []).length m)/\m.length<=65536/\(∀ x∈m,x∈c.rss.getD i [])/\(((c.rss.getD i []).length<=12∨Srt [] (c.rss.getD i []))->IsSet [] (c.rss.getD i []) m))) ?_ ?_
  .rintro⟨rv,e,b6⟩ W ⟨cz,cr,c7,⟨z,B,mm,dd,cx⟩,a1,a2⟩;simp only at cr c7 a1 a2 cx;subst cx;refine Zo (fuel':=0) 8 [(2,16),(2,17)] (lst 18 18) kr kr rfl ?_;refine Qq ?_;refine stb (cs':=[.int .i64 z,.slice B mm dd]) cr ?_ Yp;intro W2 cq c3 bq;refine Jd (Qa ?_);refine Qq ?_;refine ρ ?_;refine Qa ?_;refine Ue (Xb ?_);refine Ud kr ?_;have G:Ext w6 W2:=bq w6 (J.trans cz) (nL J.size c7);have bj:GrN (λk=>k=b6) W W2:=GrN.by c3 λk D=>by injection D with D;exact D.symm
   have bb:=ap.ext G;refine ciR (λh=>?_) (λh=>?_)
   .refine Qk bb ?_;obtain⟨AA,ac,ax,_,_⟩:=am.form;subst ax;refine Zk (aq.ext G) ?_;intro W3 bo c5 af;have bd:Ext w W3:=af w (ay.trans G) (nL ad.size bm);refine ρ ?_;exact Zn bo ⟨bd,dA,pA,AA,dc,pc,ac,ats.length,false,rfl,hD,hP,λh=>(by cases h),λhS=>absurd (a1 (hS.l32 i lv) (hS.ok i lv) (hS.row i lv)) (Km h)⟩
   have he:e=0:=Jqf h;clear h;obtain⟨bw,bz,m,c1,d4,bh,bi⟩:=a2 he;have bg:=c1.gr (bj.mono λk _ D=>(.inr D:k<w6.drew.heap.size∨k=b6));obtain⟨AA,ac,ax,cd,a6⟩:=am.form;subst ax;have ai:∀ g,(Value.slice AA ats.length ac).ownBlock=some g->w4.heap.size<=g:=λg e=>(a6 g e).1;have a5:Ext W2 W2.drew:=(Ext.refl W2).drew;have ba:=bb.ext a5;have cn:=(am.ext G).ext a5;have ah:Ext w W2.drew:=(ay.trans G).trans a5;have db:=(a3.ext G).ext a5;have cv:=cq.ext a5;obtain⟨dj,_,d3,_⟩:=id cn;have n4:¬ (Value.slice AA ats.length ac).ownBlock=some O:=λe=>by have:=ai O e;have:=aa.lt;omega
   have n1:¬ (Value.slice AA ats.length ac).ownBlock=some b:=λe=>by have:=ai b e;have:=bc.lt;omega
   have n6:¬ (Value.slice AA ats.length ac).ownBlock=some b6:=λe=>by have:=(a6 b6 e).2;have:=J.size;omega
   have da:∀ {W'},GrN (λk=>(Value.slice AA ats.length ac).ownBlock=some k) W2.drew W'->Ext w W':=λhg=>hg.old ah λk D=>by have:=ai k D;have:=a4.size;omega
   refine ρ ?_;refine drN (λk=>(Value.slice AA ats.length ac).ownBlock=some k) 10 (scq 13 [9,10,112]) kr ?_;refine ρn ?_;refine nld (Jr (ba.at (i:=4) rfl) n4) ?_;refine ρn ?_;refine nld (Jr (db.at (i:=4) rfl) n1) ?_;refine ρn ?_;refine nix i (bn.ext ah) lv ?_;refine ρn ?_;refine nld (λw' hg=>(bn.ext (da hg)).cell br) ?_;refine ρn ?_;refine Xs (cs:=[.int .i64 z,.slice B mm dd]) (λw' hg j u hu=>(Jc cv hg n6).at hu) ?_;refine ρn ?_;refine Kp (λw=>Qvm _ _ _ _ _ _ _ w) ?_;refine ρn ?_;refine nop ?_;refine bsl (λw=>Jmt _ _ _ QA B _ qc _ dd _ rfl rfl rfl w) ?_;intro W3 b8 a7 e4 de;refine ρ ?_;refine Qj (GrN.ext a7) ?_;refine nop ?_;have bf:=(bg.ext a5).ext a7;have hΦ:Off (λk=>((k=b2∨k=O)∨(w0.heap.size<=k/\k<w.heap.size))∨(Value.slice AA ats.length ac).ownBlock=some k) W3 (λu=>AtG u [.slice QA (c.vs.getD i []).length qc,.int .i64 z,.slice B mm dd] ⟨c.vs.getD i [],(c.vs.getD i []).length,m⟩):=by
    intro W' c6;have h1:IntsV W' (.slice QA (c.vs.getD i []).length qc) (c.vs.getD i []):=bs.ext (c6.old (h00.trans (ah.trans a7)) λk D=>by
     rcases D with((D|D)|D)|D
     .rw[D];exact nL (h00.trans ad).size bm
     .rw[D];exact nL (h00.trans (ad.trans az)).size c8
     .exact D.1
     have:=ai k D;have:=(h00.trans a4).size;omega)
    obtain⟨di,er,h2⟩:=bf W' (c6.mono λk _ D=>.inl (by
     rcases D with((D|D)|D)|D
     .have:=aq.lt;have:=J.size;omega
     .have:=ap.lt;have:=J.size;omega
     .have:=Z.size;omega
     have:=(a6 k D).2;have:=J.size;omega))
    have bp:=congrArg (λv:Value=>match v with | .agg xs=>xs.toList|_=>[]) er;simp only[List.cons.injEq,Value.int.injEq,true_and,and_true]at bp;refine⟨(.slice QA (c.vs.getD i []).length qc,.int .i64 z,.slice B mm dd),rfl,h1,?_,?_⟩
    .simp only;rw[bp.1]
    simp only;rw[bp.2];exact h2
   refine apM EA (Φ:=AtG) (cn.ext a7) de rfl (Ic rfl) hΦ om om (nL aj.size (nL (G.trans a5).size a7.size)) ?_;intro a9 W4 co c4 dt;refine ρ ?_;refine Qj (GrN.by c4 λk D=>D) ?_;have b3:GrN (λk=>(Value.slice AA ats.length ac).ownBlock=some k) W3 W4:=GrN.by c4 λk D=>D
   have ao:=Jc (ba.ext a7) b3 n4;obtain⟨A9,c9,dg,e0,cb⟩:=co.form;refine ρn ?_;refine Xm ?_;refine sto (ao.at (i:=4) rfl) (ao.frozen 4) ?_ (hv:=by rw[dg];rfl);have ak:GrN (λk=>k=O) W4 (W4.setCell ((⟨O,0,none⟩:Addr).add 4) a9):=GrN.set _ rfl;have b9:Blk (W4.setCell ((⟨O,0,none⟩:Addr).add 4) a9) O 33 [.int .i64 c.n,.int .i64 c.f,.slice dA c.ds.length dc,.slice pA c.pm.length pc,a9]:=ao.set 4 _;have b7:OwnM 134 3 AtG (λk=>(k=b2∨k=O)∨(w0.heap.size<=k/\k<w.heap.size)) (W4.setCell ((⟨O,0,none⟩:Addr).add 4) a9) w4.heap.size a9 (ats++[⟨c.vs.getD i [],(c.vs.getD i []).length,m⟩]):=co.gr (ak.mono λk _ h=>.inl (.inr h)) λg eg e=>by have:=(cb g eg).1;have:=aa.lt;have:=au.lt;have:=a4.size;rcases e with(e|e)|e<;>omega
   generalize (W4.setCell ((⟨O,0,none⟩:Addr).add 4) a9)=W5 at ak b9 b7
   have d5:GrN (λk=>k=O) w4 W5:=by
    have h1:GrN (λk=>k=O∨w4.heap.size<=k) w4 W5:=(((aj.mono λk _ h=>(.inl h:k=O∨w4.heap.size<=k)).trans (GrN.ext ((G.trans a5).trans a7))).trans (b3.mono λk _ h=>.inr (ai k h))).trans (ak.mono λk _ h=>.inl h);exact h1.mono λk D h=>h.elim id λh'=>by omega
   refine Jd (Gv ?_);refine ρn ?_;refine ρ ?_;refine Jl (i+1) a9 sO ⟨om,om,d5,b9,_,by rw[List.length_append,cc];rfl,b7,λj hj=>?_⟩ om;by_cases ej:j=i
   .subst ej;have:(ats++[(⟨c.vs.getD j [],(c.vs.getD j []).length,m⟩:Atm)]).getD j a0=⟨c.vs.getD j [],(c.vs.getD j []).length,m⟩:=by simp[List.getD,<-cc]
    rw[this];exact⟨rfl,rfl,bw,bz,d4,bh,λh=>bi (.inl h)⟩
   have:(ats++[(⟨c.vs.getD i [],(c.vs.getD i []).length,m⟩:Atm)]).getD j a0=ats.getD j a0:=by simp[List.getD,List.getElem?_append_left (show j<ats.length by omega)]
   rw[this];exact hmk j om
  intro rest;refine htwo 11 15 kr rfl rfl rfl ?_ ?_
  .refine clR (Jgg (ar:=(c.vs.getD i []).length) (be.ext Z)) ?_;rintro u W ⟨hy,rv,e,rfl,a8,a1,a2⟩;refine Jd (Il hy ?_);refine Zo (fuel':=4) 8 [(0,12),(0,13)] (lst 18 14) kr kr rfl ?_;refine ρd ?_;refine Xb ?_;refine Ub (fuel':=3) 14 kr kr rfl rfl ?_;refine ρp ?_;refine ρd ?_;refine Xb ?_;refine Zo (fuel':=2) 8 [(1,15)] (lst 18 16) kr kr rfl ?_;refine dalc' (cs:=[.int .i64 0,.slice none 0 0]) Gm ?_;intro W2 b6 ab bl b1;refine Ue (Xb ?_);refine rest (rv,e,b6) _ _ ⟨hy.trans ab,b1,Nat.le_trans hy.size bl,a8,a1,λhe=>?_⟩ sB;obtain⟨q1,q2,m,q3,q4,q5,q6⟩:=a2 he;exact⟨q1,q2,m,(q3.mono λk D h=>h.elim id fun (h:k=b6)=>om).ext ab,q4,q5,q6⟩
  refine Jv Gm ?_;intro W b6 hy bl b1;refine Jd (Il hy ?_);refine Zo (fuel':=3) 8 [(1,11),(0,12),(0,13)] ((lst 18 14).setIfInBounds 15 true) kr kr rfl ?_;refine Jh (Jgg (ar:=(c.vs.getD i []).length) (be.ext (Z.trans hy))) ?_;rintro u W2 ⟨ab,rv,e,rfl,a8,a1,a2⟩;refine⟨ab,?_⟩;refine ρd ?_;refine Xb ?_;refine Ub (fuel':=2) 14 kr kr rfl rfl ?_;refine ρp ?_;refine ρd ?_;refine Xb ?_;refine hlist (listed':=lst 18 16) kr ?_;refine rest (rv,e,b6) _ _ ⟨hy.trans ab,b1.ext ab,bl,a8,a1,λhe=>?_⟩ sB;obtain⟨q1,q2,m,q3,q4,q5,q6⟩:=a2 he;refine⟨q1,q2,m,q3.mono λk D h=>?_,q4,q5,q6⟩;have:=b1.lt;have:=hy.size;rcases h with h|(h:k=b6)<;>omega
 have dz:¬ (i<c.vs.length/\i<c.rss.length):=λh'=>by have:=ht.2 h';rw[h]at this;cases this
 clear h ht;obtain⟨AA,ac,ax,cd,a6⟩:=am.form;subst ax;have J:Ext w6 w6.drew:=(Ext.refl w6).drew;refine ρ ?_;have n2:¬ b=b2:=λe=>by have:=hB.lt;omega
 refine drN (λk=>k=b2) 10 (scq 10 [8]) kr ?_;refine ρn ?_;refine Xs (cs:=[.int .i64 c.n,.int .i64 c.f,.slice dA c.ds.length dc,.slice pA c.pm.length pc,.slice AA ats.length ac]) (λw' hg j u hu=>(Jc (ap.ext J) hg (λe=>b5 e.symm)).at hu) ?_;refine ρn ?_;refine nld (Jr ((a3.ext J).at (i:=4) rfl) n2) ?_;refine ρn ?_;refine nld (Jr ((a3.ext J).at (i:=5) rfl) n2) ?_;refine ρn ?_;refine nop ?_;refine stW (aq.ext J) ?_;intro W3 bo c5 af;have bd:Ext w W3:=af w (ay.trans J) (nL ad.size bm);have c2:GrN (λk=>k=b2) w6.drew W3:=GrN.by c5 λk D=>by injection D with D;exact D.symm
 refine Jd (Qj c2 ?_);refine ρn ?_;refine ρ ?_;refine Zn bo ⟨bd,dA,pA,AA,dc,pc,ac,ats.length,((c.vs.length:Int) == (c.rss.length:Int)),rfl,hD,hP,λh=>?_,λhS=>by rw[hS.len];exact beq_self_eq_true _⟩;have he:c.vs.length=c.rss.length:=by have:=Zv h;omega
 have dw:i=c.vs.length:=om
 refine⟨he,ats,om,?_,λj hj=>hmk j om⟩;have cm:∀ g,(Value.slice AA ats.length ac).ownBlock=some g->¬ ((g=b2∨g=O)∨(w0.heap.size<=g/\g<w.heap.size)):=λg eg e=>by have:=(a6 g eg).1;have:=aa.lt;have:=au.lt;have:=a4.size;rcases e with(e|e)|e<;>omega
 intro W hW;exact(((am.ext J).gr (c2.mono λk _ h=>.inl (.inl h)) cm).gr (hW.mono λk _ h=>.inr h) cm).gv om
open Go.RowKit Pl Go.Wk
variable {c:Cse}{cs:List Value}{w w0:World}
def MkR(w:World)(c:Cse)(u:Value)(P:Prop): Prop:=∃(dA pA aA:Option Addr) (dc pc ac an:Nat) (ok:Bool),u=.tuple #[.agg #[.int .i64 c.n,.int .i64 c.f,.slice dA c.ds.length dc,.slice pA c.pm.length pc,.slice aA an ac],.bool ok] /\
 BoolsV w (.slice dA c.ds.length dc) c.ds/\IntsV w (.slice pA c.pm.length pc) c.pm/\(ok=true->c.vs.length=c.rss.length/\∃ ats:List Atm,ats.length=c.vs.length/\GV 3 AtG w (.slice aA an ac) ats/\(∀ i,i<c.vs.length->MkA (ats.getD i a0) (c.vs.getD i []) (c.rss.getD i []))/\(P->Jqv ⟨c.n,c.f,c.ds,c.pm,ats⟩))/\(MkS c->(∀ ats:List Atm,ats.length=c.vs.length->(∀ i,i<c.vs.length->MkA (ats.getD i a0) (c.vs.getD i []) (c.rss.getD i []))->Jqv ⟨c.n,c.f,c.ds,c.pm,ats⟩)->ok=true)
def MkO(w0:World)(N:Nat->Prop)(w:World)(c:Cse)(u:Value)(P:Prop): Prop:=∃(dA pA aA:Option Addr) (dc pc ac an:Nat) (ok:Bool),u=.tuple #[.agg #[.int .i64 c.n,.int .i64 c.f,.slice dA c.ds.length dc,.slice pA c.pm.length pc,.slice aA an ac],.bool ok] /\
 BoolsV w0 (.slice dA c.ds.length dc) c.ds/\IntsV w0 (.slice pA c.pm.length pc) c.pm/\(ok=true->c.vs.length=c.rss.length/\∃ ats:List Atm,ats.length=c.vs.length/\Off N w (λu=>GV 3 AtG u (.slice aA an ac) ats)/\(∀ i,i<c.vs.length->MkA (ats.getD i a0) (c.vs.getD i []) (c.rss.getD i []))/\(P->Jqv ⟨c.n,c.f,c.ds,c.pm,ats⟩))/\(MkS c->(∀ ats:List Atm,ats.length=c.vs.length->(∀ i,i<c.vs.length->MkA (ats.getD i a0) (c.vs.getD i []) (c.rss.getD i []))->Jqv ⟨c.n,c.f,c.ds,c.pm,ats⟩)->ok=true)
theorem Qcv(h:CseV w0 cs c)(h00:Ext w0 w): Ret Tryz.prog 49 [.agg cs.toArray] w λu w'=>Ext w w'/\MkO w0 (λk=>w0.heap.size<=k/\k<w.heap.size) w' c u True:=by
 obtain⟨bb,ba,b8,b7,vA,vc,rA,rc,b6,_,_,_,_,hn,hf⟩:=id h;subst b6;refine enE Tryz.func49 Tryz.ntmps49 ?_;refine bxR ?_;intro w1 b O hb hB;refine Jv Jkn ?_;intro w2 b2 a3 ai ad;have b3:=hB.ext a3;refine Qk b3 ?_;refine clR (Qrf h (h00.trans (O.trans a3))) ?_;rintro u w3 ⟨a7,dA,pA,aA,dc,pc,ac,an,ok,rfl,hD,hP,av,af⟩;refine Jv Jkn ?_;intro w4 b4 ap az b1;refine Zk b1 ?_;intro w5 ab b9 ao;have J:Ext w3 w5:=ao w3 ap az;have a4:=(ad.ext a7).ext J;have ae:=((O.trans a3).trans a7).trans J;refine ρ ?_;have D:Ext w5 w5.drew:=(Ext.refl w5).drew;have a5:¬ b4=b2:=λe=>by have:=ad.lt;have:=a7.size;omega
 have a6:=ae.trans D;have ak:∀ {W:World},GrN (λk=>k=b2) w5.drew W->Ext w W:=λhg=>hg.old a6 λk G=>by rw[G];exact nL O.size ai
 have ay:=ad.lt;cases ok with
 | true=>
  obtain⟨ah,ats,aj,ag,hmk⟩:=av rfl;have a1:=(ag.ext J).ext D;have hG:=a1.here;obtain⟨ts,A,cc,b5,eA,ax,aq,au,ar⟩:=Jng hG;refine drN (λk=>k=b2) 10 (scq 9 [4,7]) kr ?_;refine ρn ?_;refine Xs (cs:=[.int .i64 c.n,.int .i64 c.f,.slice dA c.ds.length dc,.slice pA c.pm.length pc,.slice aA an ac]) (λw' hg j u hu=>(Jc (ab.ext D) hg a5).at hu) ?_;refine ρn ?_;refine Xs (cs:=[.int .i64 c.n,.int .i64 c.f,.slice dA c.ds.length dc,.slice pA c.pm.length pc,.slice aA an ac]) (λw' hg j u hu=>(Jc (ab.ext D) hg a5).at hu) ?_;refine ρn ?_;refine nop ?_;refine cl (Qzd (inp:=⟨c.n,c.f,c.ds,c.pm,ats⟩) ⟨_,rfl,_,_,_,rfl,hD.ext (h00.trans a6),hP.ext (h00.trans a6),⟨ts,A,cc,b5,eA,ax,aq,au,ar⟩⟩ hn hf) ?_;rintro u w6 ⟨a2,e,rfl,he⟩;refine ρ ?_;refine Qj (GrN.ext a2) ?_;refine ρn ?_;refine nop ?_;refine stW ((a4.ext D).ext a2) ?_;intro w7 aa a9 am;have i:GrN (λk=>k=b2) w6 w7:=GrN.by a9 λk G=>by injection G with G;exact G.symm
  refine Jd (Qj i ?_);have Z:=ak ((GrN.ext a2).trans i);refine ρn ?_;refine ρ ?_;refine Zn aa ⟨Z,dA,pA,aA,dc,pc,ac,an,_,rfl,hD,hP,λh=>⟨ah,ats,aj,?_,hmk,λ_=>he.1 (Zv h)⟩,λ_ hC=>?_⟩;rotate_left
  .have:=he.2 (hC ats aj hmk);rw[this];rfl
  have a8:=(a1.ext a2).gr (i.mono λk _ G=>by rw[G];exact⟨nL (h00.trans O).size ai,ay⟩);exactλW hW=>a8 W (hW.mono λk _ G=>⟨G.1,Nat.lt_of_lt_of_le G.2 (O.trans a3).size⟩)
 | false=>
  refine drN (λk=>k=b2) 10 (scq 9 [4,7]) kr ?_;refine ρn ?_;refine Xs (cs:=[.int .i64 c.n,.int .i64 c.f,.slice dA c.ds.length dc,.slice pA c.pm.length pc,.slice aA an ac]) (λw' hg j u hu=>(Jc (ab.ext D) hg a5).at hu) ?_;refine ρn ?_;refine nop ?_;refine stW (a4.ext D) ?_;intro w7 aa a9 am;have i:GrN (λk=>k=b2) w5.drew w7:=GrN.by a9 λk G=>by injection G with G;exact G.symm
  refine Jd (Qj i ?_);have Z:=ak i;refine ρn ?_;refine ρ ?_;exact Zn aa ⟨Z,dA,pA,aA,dc,pc,ac,an,false,rfl,hD,hP,λh=>(by cases h),λhS _=>af hS⟩
theorem Qcw(h:CseV w cs c): Ret Tryz.prog 49 [.agg cs.toArray] w λu w'=>Ext w w'/\MkR w' c u True:=(Qcv h (Ext.refl w)).mono λu w' ⟨i,dA,pA,aA,dc,pc,ac,an,ok,e,h1,h2,Z,O⟩=>⟨i,dA,pA,aA,dc,pc,ac,an,ok,e,h1.ext i,h2.ext i,λh=>by
 obtain⟨J,ats,G,D,j⟩:=Z h;exact⟨J,ats,G,D.here,j⟩,O⟩
end Go.Proofs.YtgobkbeokaaplaaGreatDoor
namespace Go.Proofs.YtgobkbeokaaplaaGreatDoor
open Pl Go.Wk
noncomputable def BBx(tot n f:Nat)(kf:Nat->Nat)(pf:Nat->Int)(R:Nat->List Row)(ds:List Bool)(pl:Nat->Nat)(u:Nat): List BkT:=if u<f then(if tot=0 then[] else BBo n f kf pf R ds pl u) else[]
section
variable {n f m:Nat} {es perm:List Nat} {vars:Nat->List Nat} {rs:Nat->List Row} {kf:Nat->Nat} {pf:Nat->Int} {R:Nat->List Row} {ds:List Bool} {ats:List Atm} {tot:Nat} {L:List Row} {BB:Nat->List BkT}
theorem Qdw(hat:ats.length=m)(hae:∀ i,i<m->(ats.getD i a0).rows=rs i){T:Nat->Row->Nat}: Zr n pf T ats≠0↔(∀ i,i<m->rs i≠[])/\∀ v,v<n->pf v = -1->0<T v []:=by
 unfold Zr;have j:ats.any (λa=>a.rows.isEmpty)=true↔∃ i,i<m/\rs i=[]:=by grind [List.any_eq_true,List.getElem_of_mem,a0,List.getD,List.isEmpty_iff.1,getD_mem']
 split
 .grind
 rename_i h;have u:∀ i,i<m->rs i≠[]:=by grind
 rw[<-Nat.pos_iff_ne_zero,prodR_pos];grind
theorem ElR.ixP(h:ElR n f m es perm vars rs kf pf R)(hfit:∀ v,v<f->∀ x∈R v,∀ u∈x,Vj u/\u.bytes.length<=24)(hat:ats.length=m)(hae:∀ i,i<m->(ats.getD i a0).rows=rs i)(htot:tot=Zr n pf (TV n f kf pf R ds (plO perm f)) ats)(hL:Lt ds L)(hLm:∀ y,y∈L↔∃ z,Vm n m vars rs z/\z.take f=y):
  IxP f ds kf pf (BBx tot n f kf pf R ds (plO perm f)) tot L:=by
 have ad:=h.pm.fn;have hn:=h.n32;have D:=h.ok (ds:=ds);have a1:tot≠0↔(Jkh n f m perm vars rs kf pf R ds).Roots:=by
  rw[htot,Qdw hat hae];constructor
  .rintro⟨J,h2⟩;refine⟨λv j hp=>h2 v j hp,λa ha=>?_⟩;obtain⟨i,hi,rfl⟩:=List.mem_map.1 ha;grind
  rintro⟨J,h2⟩;exact⟨λi hi=>h2 (vars i,rs i) (List.mem_map.2 ⟨i,List.mem_range.2 hi,rfl⟩),λv j hp=>J v j hp⟩
 have a3:∀ z,(Jkh n f m perm vars rs kf pf R ds).Join z↔Vm n m vars rs z:=λz=>by
  constructor
  .rintro⟨J,h2⟩;exact⟨J,λi hi=>h2 (vars i,rs i) (List.mem_map.2 ⟨i,List.mem_range.2 hi,rfl⟩)⟩
  rintro⟨J,h2⟩;refine⟨J,λa ha=>?_⟩;obtain⟨i,hi,rfl⟩:=List.mem_map.1 ha;exact h2 i (List.mem_range.1 hi)
 have hE:tot≠0->∀ v,v<f->∀ k,entK (BBx tot n f kf pf R ds (plO perm f) v) k=(Jkh n f m perm vars rs kf pf R ds).E v k:=λh0 v j k=>by
  unfold BBx;rw[if_pos j,if_neg h0];rfl
 obtain⟨X,hX⟩:∃ X:BX V,X=⟨V0,n,f,λv=>bk (kf v) 32,pf,plO perm f,(List.range m).map λi=>(vars i,rs i),TV n f kf pf R ds (plO perm f),λv k=>entK (BBx tot n f kf pf R ds (plO perm f) v) k⟩:=⟨_,rfl⟩;have G:tot≠0->X.Ok:=λh0=>by
  subst hX;exact⟨D.FN,D.plN,D.inj,D.k1,D.k2,D.k3,D.k4,D.k5,D.k6,D.al,D.t1,λv j k=>by
   have:=D.t2 v j k;rw[<-hE h0 v j k]at this;exact this⟩
 have ak:tot≠0↔X.Roots:=by subst hX;exact a1
 have am:∀ z,X.Join z↔Vm n m vars rs z:=λz=>by subst hX;exact a3 z
 have a4:Xk f kf pf (BBx tot n f kf pf R ds (plO perm f))=X.ix:=by subst hX;rfl
 have Z:X.F=f:=by subst hX;rfl
 have an:X.N=n:=by subst hX;rfl
 have ap:X.d0=V0:=by subst hX;rfl
 have ah:∀ v,v<f->kf v<2^v:=λv j=>by
  refine Nat.lt_pow_two_of_testBit _ λi hi=>?_;cases hb:(kf v).testBit i with
  | false=>rfl
  | true=>
   exfalso
   have J:=h.kbit om hb;rcases Nat.lt_or_ge i f with h2|h2
   .rcases Nat.eq_or_lt_of_le hi with h3|h3
    .subst h3;omega
    have:plO perm f i<plO perm f v:=D.k5 i v h2 h3;omega
   have:plO perm f i<plO perm f v:=D.k6 v i j h2 J.1;omega
 have a6:tot≠0->X.ix.Srt ds:=λh0=>by
  have hs:=h.srt (ds:=ds);subst hX;refine⟨rfl,λv j k=>?_⟩;have:=hs.srt v j k;show Jjk _ (entK _ k);rw[hE h0 v j k];exact this
 have a5:tot=0->L=[]:=λh0=>by
  refine List.eq_nil_iff_forall_not_mem.2 λy hy=>?_;obtain⟨z,hz,e⟩:=(hLm y).1 hy;have ae:=(a3 z).2 hz;have a2:y.length=f:=by rw[<-e,List.length_take,hz.1];omega
  have:=(D.answers (y:=y) a2).2 ⟨z,ae,e⟩;grind
 have a8:tot≠0->L=X.ix.ext f []:=λh0=>by
  refine Jjv hL ((a6 h0).ext f [] (by show 0+f=X.F;omega)) λy=>?_;rw[hLm y];have O:=(G h0).ixOk;constructor
  .rintro⟨z,hz,e⟩;have a2:y.length=X.F:=by rw[<-e,List.length_take,hz.1];omega
   have:=((G h0).answers a2).2 ⟨z,(am z).2 hz,by rw[Z];exact e⟩;refine(AX.ext_mem f [] y).2 ⟨by rw[a2,Z];simp,rfl,λv _ j=>?_⟩;have a9:v<X.F:=by grind
   have J:=this.1 v a9;have hk:X.ix.key v (y.take v)=X.ix.key v y:=by
    have:=O.key_pre (c:=v) (y:=y.take v) (z:=y.drop v) a9 (by rw[List.length_take,Nat.min_eq_left om];exact(O.pl v a9).2);grind [List.take_append_drop]
   show y.getD v X.d0∈(X.E v (X.ix.key v (y.take v))).map (·.1)
   rw[hk];exact J
  intro hy;obtain⟨J,_,h3⟩:=(AX.ext_mem f [] y).1 hy;have a2:y.length=X.F:=by rw[J,Z];simp
  have af:∀ v,v<X.F->y.getD v X.d0∈(X.E v (prj X.d0 (X.K v) y)).map (·.1):=λv j=>by
   have h4:=h3 v (Nat.zero_le _) (by simpa [Z] using j);have hk:X.ix.key v (y.take v)=X.ix.key v y:=by
    have:=O.key_pre (c:=v) (y:=y.take v) (z:=y.drop v) j (by rw[List.length_take,Nat.min_eq_left om];exact(O.pl v j).2);grind [List.take_append_drop]
   rw[hk]at h4;exact h4
  obtain⟨z,hz,e⟩:=((G h0).answers a2).1 ⟨af,ak.1 h0⟩;grind
 have aa:∀ v,v<f->GInv (ds.getD v false) (λx=>wtL (TV n f kf pf R ds (plO perm f)) x (chK kf pf v n)) (Go.Proofs.YtgobkbeokaaplaaGreatDoor.lastC kf v) (R v) (BBo n f kf pf R ds (plO perm f) v):=λv j=>Jdf h j;have ab:∀ v k,(trK (BBx tot n f kf pf R ds (plO perm f) v) k).toL=[]∨(v<f/\(trK (BBx tot n f kf pf R ds (plO perm f) v) k).toL=Yk (ds.getD v false) (Xz (λx=>wtL (TV n f kf pf R ds (plO perm f)) x (chK kf pf v n)) (Go.Proofs.YtgobkbeokaaplaaGreatDoor.lastC kf v) (R v) k)):=λv k=>by
  rw[Jdx];unfold BBx;by_cases j:v<f
  .rw[if_pos j];by_cases h0:tot=0
   .rw[if_pos h0];exact .inl rfl
   rw[if_neg h0];exact .inr ⟨j,(aa v j).entK k⟩
  rw[if_neg j];exact .inl rfl
 refine⟨?_,λh0 v=>?_,λh0=>a4 ▸ (G h0).ixOk,λh0=>a4 ▸ a6 h0,λh0=>a4 ▸ a8 h0,λv k=>?_,λv k=>?_,λv b hb p hp=>?_,om,ah⟩
 .by_cases h0:tot=0
  .rw[a5 h0,h0];rfl
  have O:=(G h0).ixOk;rw[a8 h0,O.ext_len f [] (by show 0+f=X.F;omega)];have e1:tot=Jg n λv=>if pf v = -1 then TV n f kf pf R ds (plO perm f) v [] else 1:=by
   have ac:=h0;rw[htot]at ac ⊢;unfold Zr at ac ⊢;grind
  rw[e1,Qjp ad λc J h2=>?_]
  .show Jg f _=Jg X.F _;rw[Z];refine Gw λc hc=>?_;have ag:=O.pl c (by rw[show X.ix.F=X.F from rfl,Z];exact hc);have a7:X.ix.par c=pf c:=by subst hX;rfl
   rw[a7]at ag;by_cases hp:pf c = -1
   .rw[if_pos hp,if_pos ⟨Nat.zero_le _,by rw[a7];simp;omega⟩];have ai:X.ix.key c []=[]:=by
     have aj:X.K c=[]:=(G h0).kroot (by rw[an];omega) (by subst hX;exact hp);show prj X.d0 (X.K c) []=[];rw[aj];rfl
    have:=((G h0).t2 c (by rw[Z];exact hc) []).1;have hT:X.T c []=TV n f kf pf R ds (plO perm f) c []:=by subst hX;rfl
    rw[hT]at this;rw[this];show _=Pl.tot (X.E c (X.ix.key c []));rw[ai]
   repeat grind
  by_cases hp:pf c = -1
  .rw[if_pos hp];have h3:=(a1.1 h0).1 c h2 hp;have h4:=Jnn (n:=n) (R:=R) (ds:=ds) (kf:=kf) h.chf c J [];have h5:0<TV n f kf pf R ds (plO perm f) c []:=h3;omega
  rw[if_neg hp]
 .unfold BBx;rw[if_pos h0];split<;>rfl
 .rw[Tr.sum_eq];rcases ab v k with e|⟨j,e⟩
  .rw[e];exact Nat.zero_le _
  rw[e,Jcp];have:=h.big (ds:=ds) v k;rw[Jdb h.chf ad j,Jdz]at this;have e2:=(aa v j).entK k;grind [BBo,Jcp]
 .rw[Tr.sz_eq];rcases ab v k with e|⟨j,e⟩
  .grind
  rw[e];have J:(Yk (ds.getD v false) (Xz (λx=>wtL (TV n f kf pf R ds (plO perm f)) x (chK kf pf v n)) (Go.Proofs.YtgobkbeokaaplaaGreatDoor.lastC kf v) (R v) k)).length<=(R v).length:=by
   have:(Xz (λx=>wtL (TV n f kf pf R ds (plO perm f)) x (chK kf pf v n)) (Go.Proofs.YtgobkbeokaaplaaGreatDoor.lastC kf v) (R v) k).length<=(R v).length:=by grind [Xz,List.length_map,List.length_filter_le]
   unfold Yk;split<;>simpa using this
  exact nL J (h.rows v om).2.2
 unfold BBx at hb;by_cases j:v<f
 .rw[if_pos j]at hb;by_cases h0:tot=0
  .grind
  rw[if_neg h0]at hb;rw[((aa v j).con b hb).1,Qkh,entL_mem]at hp;obtain⟨x,hx,_,h2,_⟩:=hp;rw[<-h2];have ao:=h.rl j x hx;grind [kf,V0,getD_mem']
 repeat grind
theorem IxP.few(h:IxP f ds kf pf BB tot L)(hl:L.length<4294967296): tot≠0->∀ z,(Xk f kf pf BB).Gp z->z.length<f->0<(Xk f kf pf BB).pend z.length z->(Xk f kf pf BB).others z.length z<4294967296:=λh0 z j i hp=>by
 have D:=((h.ok h0).others_le i hp).2;have u:=(h.ok h0).pend_le z.length z rfl (Nat.le_of_lt i) j;rw[h.pend0 h0,h.len]at u;omega
end
open Pl Go.Wk
variable {l:List Int}{i n u v:Nat}
def toN(l:List Int): List Nat:=l.map Int.toNat
theorem Jbq(h:∀ v∈l,0<=v): nz (toN l)=l:=by
 unfold nz toN;rw[List.map_map];conv=>rhs;rw[<-List.map_id l]
 grind [List.map_congr_left]
theorem Jfb(h:∀ v∈l,0<=v): u∈toN l↔(u:Int)∈l:=by grind [Jbq,nz]
theorem Xws{l:List Nat}(h:ascB (nz l)): Xy l:=by
 unfold Xy;rw[List.pairwise_iff_getElem];intro i j hi D G;have step:∀ k,0<k->k<l.length->l.getD (k-1) 0<l.getD k 0:=λk h0 u=>by
  have:=h k h0 (by rw[Qg];exact u);grind [Jgv]
 have key:∀ d,i+1+d<l.length->l.getD i 0<l.getD (i+1+d) 0:=by
  intro d;induction d with
  | zero=>intro hd;have:=step (i+1) om hd;simpa using this
  | succ d ih=>
   grind
 have:=key (j-(i+1)) om;rw[show i+1+(j-(i+1))=j by omega,Qd 0 _ hi,Qd 0 _ D]at this;exact this
structure CseOk(c:Cse)(ats:List Atm): Prop where
 few:FewP c
 len:c.vs.length=c.rss.length
 al:ats.length=c.vs.length
 mka:∀ i,i<c.vs.length->MkA (ats.getD i a0) (c.vs.getD i []) (c.rss.getD i [])
 chk:Jqv ⟨c.n,c.f,c.ds,c.pm,ats⟩
 fit:∀ i,i<c.rss.length->∀ r∈c.rss.getD i [],∀ u∈r,Vj u
def Cse.N(c:Cse): Nat:=c.n.toNat
def Cse.F(c:Cse): Nat:=c.f.toNat
def Cse.m(c:Cse): Nat:=c.vs.length
def Cse.vars(c:Cse)(i:Nat): List Nat:=toN (c.vs.getD i [])
def Cse.crs(c:Cse)(i:Nat): List Row:=c.rss.getD i []
def rsA(ats:List Atm)(i:Nat): List Row:=(ats.getD i a0).rows
def Cse.ans(c:Cse): List Row:=Jvz c.m c.vars c.crs c.N c.F c.ds
section
variable {c:Cse} {ats:List Atm}
theorem CseOk.nN(h:CseOk c ats): c.n=(c.N:Int)/\c.N<=6:=by
 have u:=h.chk.1;have j:=h.chk.2.1;have i:=h.few.n6;grind [Cse.N]
theorem CseOk.fF(h:CseOk c ats): c.f=(c.F:Int)/\c.F<=c.N:=by
 obtain⟨u,_,j,i,_⟩:=h.chk;grind [Cse.F,Cse.N]
theorem CseOk.at_(h:CseOk c ats)(hi:i<c.m): Jvw c.n (ats.getD i a0):=by
 obtain⟨_,_,_,_,_,_,_,_,_,_,_,j,_⟩:=h.chk;exact j _ (getD_mem' a0 _ (by rw[h.al];exact hi))
theorem CseOk.vars(h:CseOk c ats){i:Nat}(hi:i<c.m): nz (c.vars i)=c.vs.getD i []/\Xy (c.vars i)/\(∀ v∈c.vars i,v<c.N)/\(c.vars i).length=(c.vs.getD i []).length:=by
 obtain⟨G,u,J⟩:=h.at_ hi;have D:=(h.mka i hi).vars;rw[D]at G u;have h0:∀ v∈c.vs.getD i [],0<=v:=λv j=>(u v j).1;refine⟨Jbq h0,Xws (by grind [Cse.vars,Jbq]),λv j=>?_,by simp[Cse.vars,toN]⟩;have:=(u v ((Jfb h0).1 j)).2;have:=h.nN.1;omega
theorem CseOk.cov(h:CseOk c ats)(hv:v<c.N): ∃ i,i<c.m/\v∈c.vars i:=by
 obtain⟨_,_,_,_,_,_,_,_,_,_,_,_,h1⟩:=h.chk;obtain⟨a,Z,D⟩:=h1 v (by have:=h.nN.1;simp only;omega);obtain⟨i,hi,e⟩:=List.getElem_of_mem Z;have j:i<c.m:=by have:=h.al;grind [Cse.m]
 have J:ats.getD i a0=a:=by grind
 have G:=(h.mka i j).vars;rw[J]at G;refine⟨i,j,(Jfb λu O=>?_).2 (G ▸ D)⟩;have:=(h.at_ j).2.1 u (by rw[J,G];exact O);exact this.1
theorem CseOk.set(h:CseOk c ats){i:Nat}(hi:i<c.m): IsSet [] (c.crs i) (rsA ats i):=(h.mka i hi).set (by have:=h.few.row i (by rw[<-h.len];exact hi);grind)
theorem CseOk.clen(h:CseOk c ats)(hi:i<c.m): ∀ r∈c.crs i,r.length=(c.vars i).length:=λr j=>by rw[(h.vars hi).2.2.2];exact((h.mka i hi).ok r j).1
theorem CseOk.slen(h:CseOk c ats)(hi:i<c.m): ∀ r∈rsA ats i,r.length=(c.vars i).length:=λr j=>h.clen hi r (((h.set hi).2 r).1 j)
theorem Qjn{g g':Nat->Nat}(h:∀ c,c<n->g c<=g' c): Jg n g<=Jg n g':=by
 induction n with
 | zero=>exact nR _
 | succ n ih=>rw[Jg,Jg];exact Nat.mul_le_mul (ih λc i=>h c om) (h n om)
theorem CseOk.cnt(h:CseOk c ats): max 1 (Jg c.m λi=>(c.crs i).length)<=5000:=by
 have j:=h.few.cnt;rw[<-h.len]at j;have u:Jg c.m (λi=>(c.crs i).length)<=Jg c.vs.length λi=>max 1 (c.rss.getD i []).length:=Qjn λi _=>Nat.le_max_right _ _;omega
theorem CseOk.refP(h:CseOk c ats): RefP c.N c.m c.vars c.crs:=by
 have u:=h.nN.2;refine⟨om,by have:=h.few.v5;unfold Cse.m;omega,λi hi=>(h.vars hi).2.1,λi hi=>(h.vars hi).2.2.1,λi hi=>h.clen hi,λv j=>h.cov j,h.cnt,λi hi=>h.few.row i (by rw[<-h.len];exact hi)⟩
theorem Jfl{ds:List Bool}{ls m:List Row}(h:IsSet ds ls m): m.length<=ls.length:=Jgx (Qxg h.1) λx i=>(h.2 x).1 i
theorem CseOk.pm(h:CseOk c ats): PermOk c.N c.F (toN c.pm)/\nz (toN c.pm)=c.pm:=by
 obtain⟨_,_,_,_,_,u,j,i,_⟩:=h.chk;simp only at u j i;have hn:=h.nN.1;have G:=h.fF.1;have h0:∀ v∈c.pm,0<=v:=by grind
 refine⟨⟨h.fF.2,by simp[toN];omega,λv D=>?_,?_⟩,Jbq h0⟩;repeat grind [Jfb,toN,List.Nodup,List.Pairwise.imp_of_mem]
theorem CseOk.bldI(h:CseOk c ats){ts:List TA}(hts:ats=ts.map (·.2)): BldI c.N c.F c.ds (toN c.pm) ts c.vars (rsA ats):=by
 have hN:=h.nN.2;have j:ts.length=c.m:=by have:=h.al;rw[hts,List.length_map]at this;exact this
 have D:RunOk c.N ts c.vars (rsA ats):=by
  refine⟨om,by have:=h.few.v5;grind [Cse.m],λi hi=>?_,λi hi=>(h.vars (j ▸ hi)).2.1,λi hi=>(h.vars (j ▸ hi)).2.2.1,λv J=>by rw[j];exact h.cov J,λi hi=>(h.set (j ▸ hi)).1,λi hi=>h.slen (j ▸ hi),λi hi=>(h.mka i (show i<c.m from j ▸ hi)).len⟩;have G:i<c.m:=j ▸ hi;have e:(ts.getD i ta0).2=ats.getD i a0:=by grind
  have hm:=h.mka i G;obtain⟨v1,_,_,v4⟩:=h.vars G;rw[e];have e2:ats.getD i a0=⟨(ats.getD i a0).vars,(ats.getD i a0).ar,(ats.getD i a0).rows⟩:=rfl;rw[e2,hm.vars,hm.ar,v1,v4];rfl
 refine⟨D,h.pm.1,?_,λi hi r hr u hu=>?_,λkf pf hb v J=>⟨λl hl hx=>?_,λi hi=>.inl ?_⟩⟩
 .obtain⟨_,_,_,_,h1,_⟩:=h.chk;grind [Cse.F]
 .have G:i<c.m:=j ▸ hi;have O:=((h.set G).2 r).1 hr;have h1:=((h.mka i G).ok r O).2;exact⟨List.all_eq_true.1 h1 u hu,h.fit i (by rw[<-h.len];exact G) r O u hu⟩
 .have hs:kf v ||| 2^v<2^c.N:=by
   refine Nat.lt_pow_two_of_testBit _ λi hi=>?_;cases hbt:(kf v ||| 2^v).testBit i with
   | false=>rfl
   | true=>
    rw[Nat.testBit_or,Nat.testBit_two_pow,Bool.or_eq_true,decide_eq_true_eq]at hbt;rcases hbt with hbt|hbt
    .rw[(hb v J).2.1]at hbt;have Z:∀ e∈Vv ts.length c.vars,e<2^c.N:=λe he=>by
      obtain⟨i,hi,rfl⟩:=List.mem_map.1 he;exact Jzz (D.lt i (List.mem_range.1 hi))
     have:=Jbw (nb:=nb0 c.N (Vv ts.length c.vars)) (ord:=Xf (toN c.pm) c.F) (N:=c.N) (λa b a1=>(Jzl Z a1).2.1) hbt;omega
    omega
  have h1:=Xwl (m:=ts.length) (vars:=c.vars) (rs:=rsA ats) (l:=l) (λi hi=>D.asc i hi) (λv J=>D.cov v J) hs hl hx;have h2:Jg ts.length (λi=>(rsA ats i).length)<=Jg ts.length λi=>(c.crs i).length:=Qjn λi hi=>Jfl (h.set (j ▸ hi));have h3:=h.cnt;grind
 have:=Jfl (h.set (j ▸ hi));have h2:=h.few.row i (by rw[<-h.len];exact(show i<c.m from j ▸ hi));grind [Cse.crs]
theorem CseOk.ansJ(h:CseOk c ats)(z:Row): Vm c.N c.m c.vars (rsA ats) z↔Vm c.N c.m c.vars c.crs z:=by
 unfold Vm;refine and_congr_right λ_=>forall_congr' λi=>forall_congr' λhi=>?_;exact(h.set hi).2 _
theorem CseOk.ans(h:CseOk c ats): Lt c.ds c.ans/\∀ y,y∈c.ans↔∃ z,Vm c.N c.m c.vars (rsA ats) z/\z.take c.F=y:=by
 have hs:=Qyk c.m c.vars c.crs c.N c.F c.ds;have i:=h.refP;refine⟨hs.1,λy=>?_⟩;rw[show c.ans=Jvz c.m c.vars c.crs c.N c.F c.ds from rfl,hs.2 y,List.mem_map];constructor
 .rintro⟨z,j,e⟩;exact⟨z,(h.ansJ z).2 ((Jhx i.asc i.len i.lt i.cov z).1 j),e⟩
 rintro⟨z,j,e⟩;exact⟨z,(Jhx i.asc i.len i.lt i.cov z).2 ((h.ansJ z).1 j),e⟩
theorem CseOk.anl(h:CseOk c ats): c.ans.length<=5000:=by
 have i:=h.refP;have j:=Jfl (Qyk c.m c.vars c.crs c.N c.F c.ds);have u:=Qxr i.asc i.len i.cov;rw[List.length_map]at j;exact nL j (nL u i.cnt)
theorem CseOk.arow(h:CseOk c ats){y:Row}(hy:y∈c.ans): y.length=c.F:=by
 obtain⟨z,i,e⟩:=(h.ans.2 y).1 hy;rw[<-e,List.length_take,i.1];have:=h.fF.2;omega
end
open Go.RowKit Pl Go.Wk
attribute [local irreducible] WC WL QX WD WDB WP WN WG WH WM
variable {c:Cse}{ats:List Atm}{ds:List Bool}{es perm:List Nat}{ts:List TA}{f m n rc v vc:Nat}{pf:Nat->Int}{vars:Nat->List Nat}{R rs:Nat->List Row}{aA dA pA rA vA:Option Addr}{x:Value}{w:World}
theorem IxV.congr{kf:Nat->Nat}{BB BB':Nat->List BkT}{tot:Nat}(h:IxV w x f ds kf pf BB tot)(he:∀ v,v<f->BB v=BB' v): IxV w x f ds kf pf BB' tot:=by
 obtain⟨DA,dc,BA,cb,KA,ck,PA,cp,D,j,i,h1,h2,h3,h4,h5,Z,O,J,G⟩:=h.ex;exact⟨⟨DA,dc,BA,cb,KA,ck,PA,cp,D,j,i,h1,h2,h3,h4,h5,Z,O,J,λv u=>he v u ▸ G v u⟩,h.dl,h.f32⟩
theorem ElR.fits{kf:Nat->Nat}(h:ElR n f ts.length es perm vars rs kf pf R)(hI:BldI n f ds perm ts vars rs):
  ∀ v,v<f->∀ x∈R v,∀ u∈x,Vj u/\u.bytes.length<=24:=λv D x j u G=>by
 have i:v<n:=nM D h.pm.fn;obtain⟨z,_,e,J⟩:=((h.rows v i).2.1 x).1 j;subst e;exact(hI.fit (h.sb i) J).1.2 u G
theorem ElR.htb{kf:Nat->Nat}{tot:Nat}(h:ElR n f m es perm vars rs kf pf R){b:BkT}(hb:b∈BBx tot n f kf pf R ds (plO perm f) v): b.2.ht<=65536:=by
 unfold BBx at hb;by_cases hv:v<f
 .rw[if_pos hv]at hb;by_cases h0:tot=0
  .grind
  rw[if_neg h0]at hb;have e:=((Jdf (ds:=ds) h hv).con b hb).1;have u:b.2.toL.length<=(R v).length:=by
   rw[e];have:(Xz (λx=>wtL (TV n f kf pf R ds (plO perm f)) x (chK kf pf v n)) (Go.Proofs.YtgobkbeokaaplaaGreatDoor.lastC kf v) (R v) b.1).length<=(R v).length:=by grind [Xz,List.length_map,List.length_filter_le]
   unfold Yk;split<;>simpa using this
  have i:=Tr.ht_le b.2;rw[Tr.sz_eq]at i;have j:=(h.rows v (nM hv h.pm.fn)).2.2;omega
 repeat grind
theorem Qsm{kf:Nat->Nat}{L:List Row}(hTB:∃ B0,TB B0 w)(hI:BldI n f ds perm ts vars rs)(hats:∀ i,i<ts.length->((ts.map (·.2)).getD i a0).rows=rs i)(hE:ElR n f ts.length es perm vars rs kf pf R)(hV:IxV w x f ds kf pf (λu=>if Zr n pf (TV n f kf pf R ds (plO perm f)) (ts.map (·.2))=0 then[] else BBo n f kf pf R ds (plO perm f) u) (Zr n pf (TV n f kf pf R ds (plO perm f)) (ts.map (·.2))))(hL:Lt ds L)(hLm:∀ y,y∈L↔∃ z,Vm n ts.length vars rs z/\z.take f=y)(hl:L.length<4294967296):
  IxA w x f ds kf pf (BBx (Zr n pf (TV n f kf pf R ds (plO perm f)) (ts.map (·.2))) n f kf pf R ds (plO perm f)) (Zr n pf (TV n f kf pf R ds (plO perm f)) (ts.map (·.2))) L:=by
 have j:=hE.ixP (ds:=ds) (tot:=Zr n pf (TV n f kf pf R ds (plO perm f)) (ts.map (·.2))) (hE.fits hI) (ats:=ts.map (·.2)) (by rw[List.length_map]) hats rfl hL hLm
 exact⟨hTB,hV.congr λv G=>by grind [BBx],j,j.few hl,λv b D=>hE.htb D⟩
theorem Qhd(h:ats=ts.map (·.2)): ∀ i,i<ts.length->((ts.map (·.2)).getD i a0).rows=rsA ats i:=λi hi=>by rw[rsA,h]
theorem CseV.rin(hV:IntssV w (.slice vA c.vs.length vc) c.vs)(hR:RowssV w (.slice rA c.rss.length rc) c.rss)(h:CseOk c ats): RInM w vA rA c.m c.vars c.crs:=by
 obtain⟨_,_,u,j,_,_,J,G⟩:=hV;injection j with j e2 e3
 subst j;subst e3;obtain⟨_,_,D,j,_,_,Z,O⟩:=hR;injection j with j e2 e3
 subst j;subst e3;refine⟨⟨u,J,λi hi=>?_⟩,⟨D,?_,λi hi=>O i (by rw[<-h.len];exact hi)⟩⟩
 .rw[(h.vars hi).1];exact G i hi
 have:=h.len;grind [Cse.m]
theorem Xzx{dc pc ac an:Nat}(h:CseOk c ats)(hD:BoolsV w (.slice dA c.ds.length dc) c.ds)(hP:IntsV w (.slice pA c.pm.length pc) c.pm)(hG:GV 3 AtG w (.slice aA an ac) ats):
  ∃ ts:List TA,ats=ts.map (·.2)/\BldV w (.agg #[.int .i64 c.n,.int .i64 c.f,.slice dA c.ds.length dc,.slice pA c.pm.length pc,.slice aA an ac]) c.N c.F c.ds (toN c.pm) ts:=by
 obtain⟨ts,A,cc,G,eA,Z,a1,O,J⟩:=Jng hG;injection eA with i e2 e3
 subst i;subst e2;subst e3;obtain⟨D,d',i,h1,h2,h3⟩:=hD;injection i with i e2 e3
 subst i;subst e3;obtain⟨Q,q',i,h4,h5,h6⟩:=hP;injection i with i e2 e3
 subst i;subst e3;have u:=(h.bldI G).dl;have j:(toN c.pm).length=c.pm.length:=by simp[toN]
 refine⟨ts,G,dA,dc,pA,pc,aA,ac,?_,by rw[<-u];exact h1,h3,?_,by rw[j];exact h4,O,Z,J⟩
 .rw[h.nN.1.symm,h.fF.1.symm,j,<-u]
 rw[h.pm.2,j];exact h6
open Go.RowKit Pl Go.Wk
theorem Jqw(a:V)(w:World): (Instr.buildSlice 59 1 #[(0,a.val)]).run Tryz.prog w=.ok (.slice (some ⟨w.heap.size,0,none⟩) 1 1) (w.alloc (.cells (Js [a]).toArray 147)):=kr
open Go.RowKit Pl Go.Wk
variable {L:List Row}{c i n:Nat}
theorem RowsV.one{w:World}{A:Option Addr}(h:RowsV w (.slice A n c) L)(hi:i<L.length): ∃(v:Value) (cs:List Value),Rd w 1 A n cs/\n=L.length/\cs[i]?=some v/\RowV w v (L.getD i []):=by
 obtain⟨G,j,e,_,_,cs,u,D⟩:=h.parts;grind
theorem getD_some(h:i<L.length): L[i]?=some (L.getD i []):=by grind
end Go.Proofs.YtgobkbeokaaplaaGreatDoor
namespace Go.Wk
open Go.RowKit Go.ChangeShapes Go.WideShapes
variable {cap e fuel len t:Nat}{A:Option Addr}{α:Type}
section
variable {H:Type} {enc:TypeId×Value->H} {P:Program} {w:World} {base:Nat} {spare:Nat->Bool} {held:Bool}
theorem Qjb{sz:Nat}{cs:List Value}{ad:Addr}(hA:A=some ad)(hl:cs.length=len*sz)(hc:∀ j u,cs[j]?=some u->w.cell? (ad.add j)=some u): Rd w sz A len cs :=
 ⟨hl,λh0=>⟨ad,hA,by
  have i:=hc 0 cs[0] (gE h0);rw[add_zero]at i;exact World.block_lt_of_cell? w ad i,hc⟩⟩
theorem Qnn{sz:Nat}{x:DataW H×List MemPlace}(X:α->List Value)(R:α->Prop)(ht:P.underlying t=some (.slice e))(hc:P.cellsOf e=sz)(hX:∀(n:Nat) (cs':List Value) (y:DataW H×List MemPlace),DataW.trod enc P w base spare held n e cs'=some y->∃ z:α,cs'=X z/\R z)(h:DataW.trod enc P w base spare held fuel t [.slice A len cap]=some x): ∃ l:List α,l.length=len/\Rd w sz A len (l.flatMap X)/\(∀ z∈l,R z)/\len<=cap/\cap<=maxLen:=by
 rcases Go.Deep.open_slice ht h with⟨i,_⟩|⟨a,len',cap',m,n,D,Pl,i,_,hl,hm,hmm,_,hel⟩
 .simp only[List.cons.injEq,Value.slice.injEq,and_true]at i;obtain⟨rfl,rfl,rfl⟩:=i;exact⟨[],rfl,Rd.nil,(λz O=>by cases O),Nat.le_refl _,Nat.zero_le _⟩
 simp only[List.cons.injEq,Value.slice.injEq,and_true]at i;obtain⟨rfl,rfl,rfl⟩:=i;have a3:len<=m:=by grind
 have key:∀ k,k<=len->∃ l:List α,l.length=k/\(l.flatMap X).length=k*sz/\(∀ j u,(l.flatMap X)[j]?=some u->w.cell? (a.add j)=some u)/\∀ z∈l,R z:=by
  intro k;induction k with
  | zero=>intro _;exact⟨[],rfl,by simp,(λj u J=>by simp at J),(λz O=>by cases O)⟩
  | succ k ih=>
   intro hk;obtain⟨l,h1,h2,h3,h4⟩:=ih om;obtain⟨cs',G,Z⟩:=hel k om;obtain⟨z,rfl,O⟩:=hX n cs' _ Z;rw[hc]at G;obtain⟨_,a2,a1⟩:=World.cells?_some G;refine⟨l++[z],by simp[h1],?_,?_,?_⟩
   .grind
   .intro j u J;rw[List.flatMap_append]at J;simp only[List.flatMap_cons,List.flatMap_nil,List.append_nil]at J;rcases Nat.lt_or_ge j (k*sz) with hj|hj
    .grind
    rw[List.getElem?_append_right om,h2]at J;have hb:j-k*sz<sz:=by grind
    have:=a1 (j-k*sz) hb;rw[Jcz]at this;grind
   repeat grind
 obtain⟨l,h1,h2,h3,h4⟩:=key len (nR _);grind [Qjb]
theorem Jvh(f:α->Value)(l:List α): l.flatMap (λz=>[f z])=l.map f:=by induction l<;>simp_all
end
end Go.Wk
namespace Go.Proofs.YtgobkbeokaaplaaGreatDoor
open Go.RowKit Pl Go.Wk Go.ChangeShapes Go.WideShapes
variable {cs:List Value}{e fuel n t:Nat}{H α:Type}
theorem Xzh(d:DataW H): 1<=Rows.uptoBulk d:=by
 cases d with
 | lit l=>cases l<;>simp[Rows.uptoBulk]
 | nil=>simp[Rows.uptoBulk]
 | ptr d=>simp[Rows.uptoBulk]
 | slice elems spare=>simp[Rows.uptoBulk]
 | agg parts=>simp[Rows.uptoBulk]
 | iface t d=>simp[Rows.uptoBulk]
 | map entries=>simp[Rows.uptoBulk]
 | held h=>simp[Rows.uptoBulk]
theorem Qvb{d:DataW H}{l:List (DataW H)}(h:d∈l): Rows.uptoBulk d<=Rows.uptoBulkAll l:=by
 induction l with
 | nil=>cases h
 | cons x r ih=>
  simp only[Rows.uptoBulkAll];grind
theorem Xzj(l:List (DataW H)): l.length<=Rows.uptoBulkAll l:=by
 induction l with
 | nil=>simp[Rows.uptoBulkAll]
 | cons x r ih=>have:=Xzh x;simp only[Rows.uptoBulkAll,List.length_cons];omega
section
variable {H:Type} {enc:TypeId×Value->H} {P:Program} {w:World} {base:Nat} {spare:Nat->Bool} {held:Bool} {B:Nat}
theorem Jzc{sz:Nat}{x:DataW H×List MemPlace}(X:α->List Value)(R:α->Prop)(ht:P.underlying t=some (.slice e))(hc:P.cellsOf e=sz)(hb:Rows.uptoBulk x.1<=B)(hX:∀(n:Nat) (cs':List Value) (y:DataW H×List MemPlace),DataW.trod enc P w base spare held n e cs'=some y->Rows.uptoBulk y.1<=B->∃ z:α,cs'=X z/\R z)(h:DataW.trod enc P w base spare held fuel t cs=some x): ∃(l:List α) (A:Option Addr) (cap:Nat),cs=[.slice A l.length cap]/\Rd w sz A l.length (l.flatMap X)/\(∀ z∈l,R z)/\l.length<=cap/\l.length<=B:=by
 rcases Go.Deep.open_slice ht h with⟨G,_⟩|⟨a,len,cap,m,n,D,Pl,G,_,hl,hm,hmm,hx,hel⟩
 .exact⟨[],none,0,G,Rd.nil,(λz O=>by cases O),Nat.le_refl _,Nat.zero_le _⟩
 subst G;subst hx;have a5:len<=m:=by grind
 have a1:Rows.uptoBulkAll ((List.range len).map D)<=B:=by
  simp only[Rows.uptoBulk]at hb;omega
 have a6:len<=B:=by
  have:=Xzj ((List.range len).map D);simp at this;omega
 have key:∀ k,k<=len->∃ l:List α,l.length=k/\(l.flatMap X).length=k*sz/\(∀ j u,(l.flatMap X)[j]?=some u->w.cell? (a.add j)=some u)/\∀ z∈l,R z:=by
  intro k;induction k with
  | zero=>intro _;exact⟨[],rfl,by simp,(λj u J=>by simp at J),(λz O=>by cases O)⟩
  | succ k ih=>
   intro hk;obtain⟨l,h1,h2,h3,h4⟩:=ih om;obtain⟨cs',i,Z⟩:=hel k om;have a3:D k∈(List.range len).map D:=by grind
   obtain⟨z,rfl,O⟩:=hX n cs' _ Z (nL (Qvb a3) a1);rw[hc]at i;obtain⟨_,a4,a2⟩:=World.cells?_some i;refine⟨l++[z],by simp[h1],?_,?_,?_⟩
   .grind
   .intro j u J;rw[List.flatMap_append]at J;simp only[List.flatMap_cons,List.flatMap_nil,List.append_nil]at J;rcases Nat.lt_or_ge j (k*sz) with hj|hj
    .grind
    rw[List.getElem?_append_right om,h2]at J;have hb:j-k*sz<sz:=by grind
    have:=a2 (j-k*sz) hb;rw[Jcz]at this;grind
   repeat grind
 obtain⟨l,h1,h2,h3,h4⟩:=key len (nR _);grind [Qjb]
end
section
variable {H:Type} {enc:TypeId×Value->H} {w:World} {base b0:Nat} {spare:Nat->Bool} {held:Bool}
theorem Qnd{y:DataW H×List MemPlace}(h:DataW.trod enc Tryz.prog w base spare held n 147 cs=some y): ∃ v:V,cs=v.cells/\Vj v:=by
 obtain⟨u,m,_,_,j,D,J⟩:=DataW.trod_struct Tryz.underlying147 h;have G:cs.length=3:=by rw[j];kernel_rfl
 have a1:u.length=3:=D;match cs,G with
 | [c0,c1,c2],_=>
  have Z:DataW.trod enc Tryz.prog w base spare held m 3 (([c0,c1,c2].drop 0).take (Tryz.prog.cellsOf 3))=u[0]?:=J 0 _ rfl;have f1:DataW.trod enc Tryz.prog w base spare held m 2 (([c0,c1,c2].drop 1).take (Tryz.prog.cellsOf 2))=u[1]?:=J 1 _ rfl;have O:DataW.trod enc Tryz.prog w base spare held m 9 (([c0,c1,c2].drop 2).take (Tryz.prog.cellsOf 9))=u[2]?:=J 2 _ rfl;rw[show Tryz.prog.cellsOf 3=1 by kernel_rfl,List.getElem?_eq_getElem om]at Z;rw[show Tryz.prog.cellsOf 2=1 by kernel_rfl,List.getElem?_eq_getElem om]at f1;rw[show Tryz.prog.cellsOf 9=1 by kernel_rfl,List.getElem?_eq_getElem om]at O;obtain⟨k,e0,_,wk⟩:=DataW.trod_int Tryz.underlying3 Z;obtain⟨i,e1,_,wi⟩:=DataW.trod_int Tryz.underlying2 f1;obtain⟨s,e2,_,_⟩:=DataW.trod_string Tryz.underlying9 O;simp at e0 e1 e2;subst e0;subst e1;subst e2;exact⟨⟨k,i,s⟩,rfl,bounds_i64 wk,bounds_i64 wi⟩
def RowE(w:World)(v:Value)(r:Row): Prop:=RowV w v r/\∀ u∈r,Vj u
theorem Qnh{y:DataW H×List MemPlace}(h:DataW.trod enc Tryz.prog w base spare held n 59 cs=some y)(hb:Rows.uptoBulk y.1<=1048576): ∃ p:Pr,cs=[p.1]/\RowE w p.1 p.2:=by
 obtain⟨l,A,i,e,J,G,D,Z⟩:=Jzc (sz:=3) V.cells Vj Tryz.underlying59 kr hb (λn O y j _=>Qnd j) h;have u:l.length<=1100000:=om
 exact⟨(.slice A l.length i,l),e,⟨A,i,rfl,D,u,J⟩,G⟩
def Qyz(w:World)(v:Value)(ls:List Row): Prop:=RowsV w v ls/\∀ r∈ls,∀ u∈r,Vj u
theorem Qng{y:DataW H×List MemPlace}(h:DataW.trod enc Tryz.prog w base spare held n 95 cs=some y)(hb:Rows.uptoBulk y.1<=1048576): ∃ p:Value×List Row,cs=[p.1]/\Qyz w p.1 p.2:=by
 obtain⟨ps,A,i,e,D,j,Z,h4⟩:=Jzc (sz:=1) (λp:Pr=>[p.1]) (λp=>RowE w p.1 p.2) Tryz.underlying95 kr hb (λn a1 y G hb=>Qnh G hb) h;rw[Jvh]at D;exact⟨(.slice A ps.length i,ps.map (·.2)),e,⟨ps,A,i,rfl,rfl,Z,om,D,λp hp=>(j p hp).1⟩,λr O u J=>by
  obtain⟨p,hp,rfl⟩:=List.mem_map.1 O;exact(j p hp).2 u J⟩
theorem Qnf{y:DataW H×List MemPlace}(h:DataW.trod enc Tryz.prog w base spare held n 28 cs=some y)(hb:Rows.uptoBulk y.1<=1048576):
  ∃(A:Option Addr) (c:Nat) (rss:List (List Row)),cs=[.slice A rss.length c]/\RowssV w (.slice A rss.length c) rss/\∀ i,i<rss.length->∀ r∈rss.getD i [],∀ u∈r,Vj u:=by
 obtain⟨ps,A,D,e,Z,O,h3,h4⟩:=Jzc (sz:=1) (λp:Value×List Row=>[p.1]) (λp=>Qyz w p.1 p.2) Tryz.underlying28 kr hb (λn a1 y hy hb=>Qng hy hb) h;rw[Jvh]at Z;have G:(ps.map (·.2)).length=ps.length:=List.length_map _
 have J:∀ i,i<ps.length->(ps.map (·.2)).getD i []=(ps.getD i (.bool false,[])).2:=by grind
 refine⟨A,D,ps.map (·.2),by rw[G];exact e,⟨A,D,ps.map (·.1),rfl,om,om,by rw[G];exact Z,λi hi=>?_⟩,λi hi=>?_⟩
 .have j:i<ps.length:=om
  rw[J i j];exact⟨(ps.getD i (.bool false,[])).1,by grind,(O _ (getD_mem' _ _ j)).1⟩
 have j:i<ps.length:=om
 rw[J i j];exact(O _ (getD_mem' _ _ j)).2
theorem Qqf{y:DataW H×List MemPlace}(h:DataW.trod enc Tryz.prog w base spare held n 26 cs=some y)(hb:Rows.uptoBulk y.1<=1048576): ∃ p:Value×List Int,cs=[p.1]/\IntsV w p.1 p.2/\∃ A c,p.1=.slice A p.2.length c:=by
 obtain⟨l,A,i,e,j,Z,G,O⟩:=Jzc (sz:=1) (λz:Int=>[Value.int .i64 z]) (λ_=>True) Tryz.underlying26 kr hb (λn J y u _=>by obtain⟨z,e,_,_⟩:=DataW.trod_int Tryz.underlying3 u;exact⟨z,e,trivial⟩) h;rw[Jvh]at j;have D:l.length<=1100000:=om
 exact⟨(.slice A l.length i,l),e,⟨A,i,rfl,G,D,j⟩,A,i,rfl⟩
theorem Qnm{y:DataW H×List MemPlace}(h:DataW.trod enc Tryz.prog w base spare held n 27 cs=some y)(hb:Rows.uptoBulk y.1<=1048576):
  ∃(A:Option Addr) (c:Nat) (zss:List (List Int)),cs=[.slice A zss.length c]/\IntssV w (.slice A zss.length c) zss:=by
 obtain⟨ps,A,j,e,D,h2,Z,O⟩:=Jzc (sz:=1) (λp:Value×List Int=>[p.1]) (λp=>IntsV w p.1 p.2) Tryz.underlying27 kr hb (λn J y G hb=>by obtain⟨p,e,hp,_⟩:=Qqf G hb;exact⟨p,e,hp⟩) h;rw[Jvh]at D;have u:(ps.map (·.2)).length=ps.length:=List.length_map _
 refine⟨A,j,ps.map (·.2),by rw[u];exact e,⟨A,j,ps.map (·.1),rfl,om,om,by rw[u];exact D,λi hi=>?_⟩⟩
 grind
theorem Qnr{y:DataW H×List MemPlace}(h:DataW.trod enc Tryz.prog w base spare held n 25 cs=some y)(hb:Rows.uptoBulk y.1<=1048576): ∃(A:Option Addr) (c:Nat) (l:List Bool),cs=[.slice A l.length c]/\BoolsV w (.slice A l.length c) l:=by
 obtain⟨l,A,i,e,j,O,D,J⟩:=Jzc (sz:=1) (λz:Bool=>[Value.bool z]) (λ_=>True) Tryz.underlying25 kr hb (λn G y u _=>by obtain⟨z,e,_⟩:=DataW.trod_bool Tryz.underlying4 u;exact⟨z,e,trivial⟩) h;rw[Jvh]at j;exact⟨A,i,l,e,⟨A,i,rfl,D,om,j⟩⟩
def Qbh(w:World)(v:Value): Prop:=∃(cs:List Value) (c:Cse),v=.agg cs.toArray/\CseV w cs c/\∀ i,i<c.rss.length->∀ r∈c.rss.getD i [],∀ u∈r,Vj u
set_option linter.constructorNameAsVariable false in
theorem Qnp{y:DataW H×List MemPlace}(h:DataW.trod enc Tryz.prog w base spare held n 30 cs=some y)(hb:Rows.uptoBulk y.1<=1048576): ∃ c:Cse,CseV w cs c/\∀ i,i<c.rss.length->∀ r∈c.rss.getD i [],∀ u∈r,Vj u:=by
 obtain⟨j,m,_,hx,G,a1,D⟩:=DataW.trod_struct Tryz.underlying30 h;have a2:cs.length=6:=by rw[G];kernel_rfl
 match cs,a2 with
 | [c0,c1,c2,c3,c4,c5],_=>
  have a3:j.length=6:=a1;subst hx;have Z:∀ i (hi:i<j.length),Rows.uptoBulk j[i].1<=1048576:=λi hi=>by
   have h1:j[i].1∈j.map (·.1):=by grind
   have h2:=Qvb h1;simp only[Rows.uptoBulk]at hb;omega
  have f0:DataW.trod enc Tryz.prog w base spare held m 3 (([c0,c1,c2,c3,c4,c5].drop 0).take (Tryz.prog.cellsOf 3))=j[0]?:=D 0 _ rfl;have f1:DataW.trod enc Tryz.prog w base spare held m 3 (([c0,c1,c2,c3,c4,c5].drop 1).take (Tryz.prog.cellsOf 3))=j[1]?:=D 1 _ rfl;have f2:DataW.trod enc Tryz.prog w base spare held m 25 (([c0,c1,c2,c3,c4,c5].drop 2).take (Tryz.prog.cellsOf 25))=j[2]?:=D 2 _ rfl;have f3:DataW.trod enc Tryz.prog w base spare held m 26 (([c0,c1,c2,c3,c4,c5].drop 3).take (Tryz.prog.cellsOf 26))=j[3]?:=D 3 _ rfl;have f4:DataW.trod enc Tryz.prog w base spare held m 27 (([c0,c1,c2,c3,c4,c5].drop 4).take (Tryz.prog.cellsOf 27))=j[4]?:=D 4 _ rfl;have f5:DataW.trod enc Tryz.prog w base spare held m 28 (([c0,c1,c2,c3,c4,c5].drop 5).take (Tryz.prog.cellsOf 28))=j[5]?:=D 5 _ rfl;rw[show Tryz.prog.cellsOf 3=1 by kernel_rfl,List.getElem?_eq_getElem om]at f0 f1;rw[show Tryz.prog.cellsOf 25=1 by kernel_rfl,List.getElem?_eq_getElem om]at f2
  rw[show Tryz.prog.cellsOf 26=1 by kernel_rfl,List.getElem?_eq_getElem om]at f3;rw[show Tryz.prog.cellsOf 27=1 by kernel_rfl,List.getElem?_eq_getElem om]at f4;rw[show Tryz.prog.cellsOf 28=1 by kernel_rfl,List.getElem?_eq_getElem om]at f5;obtain⟨n,e0,_,w0⟩:=DataW.trod_int Tryz.underlying3 f0;obtain⟨f,e1,_,w1⟩:=DataW.trod_int Tryz.underlying3 f1;obtain⟨A2,k2,ds,e2,g2⟩:=Qnr f2 (Z 2 om);obtain⟨⟨p3,pm⟩,e3,g3,A3,k3,O⟩:=Qqf f3 (Z 3 om);simp only at O g3 e3;subst O;obtain⟨A4,k4,vs,e4,g4⟩:=Qnm f4 (Z 4 om);obtain⟨A5,k5,rss,e5,g5,J⟩:=Qnf f5 (Z 5 om);simp at e0 e1 e2 e3 e4 e5;subst e0;subst e1;subst e2;subst e3;subst e4;subst e5;exact⟨⟨n,f,ds,pm,vs,rss⟩,⟨A2,k2,A3,k3,A4,k4,A5,k5,rfl,g2,g3,g4,g5,bounds_i64 w0,bounds_i64 w1⟩,J⟩
theorem Qnq{v:Value}{d:DataW H}{p:List MemPlace}(hv:Value.okWide Tryz.prog w .any b0 30 v)(h:DataW.Trod enc Tryz.prog w base spare held 30 v d p)(hb:Rows.uptoBulk d<=1048576): Qbh w v:=by
 simp only[Value.okWide,Tryz.underlying30]at hv;obtain⟨⟨l⟩,rfl,_,_⟩:=hv;obtain⟨i,h⟩:=h;obtain⟨c,u,j⟩:=Qnp h hb;exact⟨l,c,rfl,u,j⟩
end
theorem gPow: Tryz.prog.globalNamed "internal/strconv.uint64pow10" = some 1:=kr
theorem gPowT: (Tryz.prog.globals[1]?).map (·.type)=some 355:=kr
theorem Qfc{W:World}(h:laidMetH Tryz.prog Rows.unionStepsUptoRow.laid W): TB W.heap.size W:=by
 refine⟨nR _,Lib.tabBelow_of_tabIs ?_⟩;have i:=h.filter (λx=>x.1 == "internal/strconv.uint64pow10");exact Lib.tabIs_of_head (rest:=[]) gPow gPowT Tryz.underlying355 Tryz.underlying80 kr kr i
def Jhs(d:DataW Unit): Obj->Obj
 | .cells _ t z=>.cells (match d with
  | .agg ps=>(ps.map fun
   | .lit (.int k z)=>Value.int k z
   | _=>Value.bool false).toArray
  | _=>#[]) t z
 | o=>o
open Go.RowKit Pl Go.Wk
attribute [local irreducible] WC WL QX WD WDB WP WN WG WH WM
def CuV(w:World)(x cu:Value)(p st:Nat): Prop:=∃(A1 A2 A3 A4 A5:Option Addr) (n1 n2 n3 n4 n5 c1 c2 c3 c4 c5:Nat) (pv:Value),x=.agg #[.slice A1 n1 c1,.slice A2 n2 c2,.slice A3 n3 c3,.slice A4 n4 c4,.slice A5 n5 c5]/\cu=.agg #[.slice A1 n1 c1,.slice A2 n2 c2,.slice A3 n3 c3,.slice A4 n4 c4,.slice A5 n5 c5,pv,.int .i64 (st:Int)]/\NatV w pv p
theorem CuV.ext{w w':World}{x cu:Value}{p st:Nat}(h:CuV w x cu p st)(hx:Ext w w'): CuV w' x cu p st:=by
 obtain⟨A1,A2,A3,A4,A5,G,D,u,j,i,c1,c2,c3,c4,c5,pv,Z,O,J⟩:=h;exact⟨A1,A2,A3,A4,A5,G,D,u,j,i,c1,c2,c3,c4,c5,pv,Z,O,J.ext hx⟩
theorem Jtm{w:World}{A:Option Addr}{r:Row}{b t:Nat}{cs:List Value}(hR:RdR w A r)(hB:Blk w b t cs)(hs:∀ u∈cs,∀ s,u≠.string s): Off (λk=>k=b) w λu=>RdR u A r:=Jwf hR λh0 j e (e2:j.block=b)=>by
 obtain⟨Z,D,J,i⟩:=hR.2 h0;rw[e]at D;injection D with D
 subst D;cases r with
 | nil=>simp[Js]at h0
 | cons v r=>
  have G:w.cell? (j.add 2)=some (.string v.str):=i 2 _ rfl;have h3:=World.cell?_spot G;have h4:(j.add 2).block=b:=by grind [Ug]
  have O:j.add 2=⟨b,(j.add 2).off,none⟩:=by
   generalize hq:j.add 2=q at *
   obtain⟨qb,qo,qs⟩:=q;grind
  rw[O,hB.cell]at G;grind
section
variable {w:World} {x cu:Value} {f:Nat} {ds:List Bool} {kf:Nat->Nat} {pf:Nat->Int} {BB:Nat->List BkT} {tot:Nat} {L:List Row} {p st:Nat}
end
end Go.Proofs.YtgobkbeokaaplaaGreatDoor
namespace Go.Wk
open Go.RowKit
variable {ds:List Nat}{l:List Oper}{b d i k t:Nat}{T:Nat->Bool}{v:Value}{w w' w0:World}
structure SF where
 p: Value->World->Prop
 st:∀ {v:Value} {w w':World},p v w->Ext w w'->p v w'
def SF.bk{cs:List Value}(h:Blk w b t cs): SF:=⟨λv _=>v=.agg cs.toArray,λh _=>h⟩
def SF.eq(c:Value): SF:=⟨λv _=>v=c,λh _=>h⟩
def Jvn(o:Oper)(k:Nat): Bool:=o.after.any λe=>Region.binds .any e && e.on == k
def accB(l:List Oper): Bool:=(List.range l.length).all λi=>match nth l i with
 | some o=>o.after.all λe=>!Region.binds .any e || Nat.blt e.on i
 | none=>true
def slM(vs:Nat->Value)(al:AL): List Nat->Nat->AL
 | [],_=>al
 | d::r,i=>(d,vs i)::slM vs al r (i+1)
theorem Jwr{vs:Nat->Value}{al:AL}{t:Nat}: ∀ {ds:List Nat} {i:Nat},t ∉ ds->lk (slM vs al ds i) t=lk al t
 | [],_,_=>rfl
 | d::r,i,h=>by
  unfold slM;rw[Kr _ _ (λe=>h (by grind))];exact Jwr λh'=>h (List.mem_cons_of_mem _ h')
theorem Jql{vs:Nat->Value}{al:AL}: ∀ {ds:List Nat} {i j:Nat},ds.Nodup->j<ds.length->lk (slM vs al ds i) (ds.getD j 0)=some (vs (i+j))
 | [],_,_,_,h=>by simp at h
 | d::r,i,0,_,_=>by unfold slM;simp[Jzq]
 | d::r,i,j+1,hn,hj=>by
  have hn':=List.nodup_cons.1 hn;have hj':j<r.length:=by simpa using hj
  unfold slM;have e:(d::r).getD (j+1) 0=r.getD j 0:=by simp
  rw[e];have hm:r.getD j 0∈r:=by grind
  rw[Kr _ _ (λe=>hn'.1 (by rw[e];exact hm)),Jql hn'.2 hj'];congr 2;omega
theorem Jhj(h:t∈ds): ∃ j,j<ds.length/\ds.getD j 0=t:=by
 obtain⟨j,i,e⟩:=List.getElem_of_mem h;exact⟨j,i,by grind⟩
section
variable {P:Program} {n:Nat} {al:AL} {w:World} {Q:Exit->Act->World->Prop} {ops:Array Oper}
def toM(G:Act->World->Prop): Exit->Act->World->Prop
 | .normal,a,w=>G a w
 | _,_,_=>False
theorem Jpd{o:Oper}{G:Act->World->Prop}(ho:ops[i]?=some o)(h:WL P n ops (toM G) [o] al w): ∀ a,Fr n al a->wpOp P ops (QF Q) i G a w:=λa D=>by
 have j:=h a D;unfold wpList at j;unfold wpOp;simp only[ho];have u:¬ LetsOut (toM G):=by rintro⟨a,w,h⟩;exact h
 split
 .rename_i hw;simp only[hw,if_true]at j;rcases j with j|⟨_,j⟩
  .left
   refine Oper.wp_mono (K:=wpList P ops (toM G) []) (λO w' J=>J) ?_;unfold Oper.wp at j ⊢;grind [Yh,toM]
  exact absurd j u
 rename_i hw;simp only[hw]at j;exact j
def PM(n:Nat)(al:AL)(w:World)(d:Nat)(F:SF)(a:Act)(w':World): Prop:=∃ v,Fr n ((d,v)::al) a/\Ext w w'/\F.p v w'
theorem Ys{F:SF}(hx:Ext w w')(h:F.p v w'): QX n (toM (PM n al w d F)) .normal ((d,v)::al) w':=λa i=>⟨v,i,hx,h⟩
def fiM(Fs:List SF)(k:Nat)(v:Value)(w:World): Prop:=(Fs.getD k ⟨λ_ _=>True,λ_ _=>trivial⟩).p v w
theorem fiM.ext{Fs:List SF}{w:World}(h:fiM Fs k v w)(hx:Ext w w'): fiM Fs k v w':=SF.st _ h hx
def OpM(P:Program)(n:Nat)(ops:Array Oper)(al:AL)(w0:World)(ds:List Nat)(Fs:List SF)(i:Nat)(o:Oper): Prop :=
 ∀ vs w1,Ext w0 w1->(∀ k,Jvn o k=true->fiM Fs k (vs k) w1)->WL P n ops (toM (PM n (slM vs al ds 0) w1 (ds.getD i 0) (Fs.getD i ⟨λ_ _=>True,λ_ _=>trivial⟩))) [o] (slM vs al ds 0) w1
def GoM(P:Program)(n:Nat)(ops:Array Oper)(al:AL)(w0:World)(ds:List Nat)(Fs:List SF): Nat->Nat->List Oper->Prop
 | 0,_,_=>True
 | _+1,_,[]=>True
 | m+1,i,o::r=>OpM P n ops al w0 ds Fs i o/\GoM P n ops al w0 ds Fs m (i+1) r
theorem GoM.get{w0:World}{ds:List Nat}{Fs:List SF}: ∀ {l:List Oper} {m s i:Nat} {o:Oper},GoM P n ops al w0 ds Fs m s l->i<m->l[i]?=some o->OpM P n ops al w0 ds Fs (s+i) o
 | [],_,_,_,_,_,_,h=>by simp at h
 | x::r,0,_,_,_,_,h0,_=>by omega
 | x::r,m+1,s,0,o,h,_,e=>by
  simp only[List.getElem?_cons_zero,Option.some.injEq]at e;subst e;exact h.1
 | x::r,m+1,s,i+1,o,h,h0,e=>by
  have:=GoM.get h.2 (by omega:i<m) (by simpa using e);grind
def ndB: List Nat->Bool
 | []=>true
 | d::r=>!(r.any λx=>Nat.beq d x) && ndB r
theorem Jbr: ∀ {ds:List Nat},ndB ds=true->ds.Nodup
 | [],_=>List.nodup_nil
 | d::r,h=>by
  simp only[ndB,Bool.and_eq_true,Bool.not_eq_true']at h;refine List.nodup_cons.2 ⟨λhm=>?_,Jbr h.2⟩;have:=List.any_eq_false.1 h.1 d hm;simp at this
def behB(ops:Array Oper)(F m q:Nat): Bool:=(List.range ops.size).all λi=>Nat.blt i m || (List.range m).all λj=>Nat.beq j q || Up ops F i j
theorem Qxh(m k i:Nat): (lst m k)[i]?=if i<m then some (Nat.blt i k) else none:=by grind [lst]
theorem Qbx{m q F fuel':Nat}{Fs:List SF}(hml:m<=l.length)(hacc:accB l=true)(hbeh:behB l.toArray F m q=true)(hnd:ndB ds=true)(hlen:ds.length=m)(hfree:∀ d∈ds,lk al d=none)(hop:GoM P n l.toArray al w0 ds Fs m 0 l)(Ud:∀ vs w1,Ext w0 w1->(∀ k,k<m->fiM Fs k (vs k) w1)->WH P n l.toArray Q T fuel' (lst l.length m) (slM vs al ds 0) w1)(hend2:q<m->∀ vs w1,Ext w0 w1->(∀ k,k<m->k≠q->fiM Fs k (vs k) w1)->WH P n l.toArray Q T (fuel'+1) ((lst l.length m).setIfInBounds q false) (slM vs al ds 0) w1):
  ∀(us:List Nat) (listed:Array Bool) (a:Act) (w:World),us.Nodup->(∀ k,k<m->(listed.getD k true=false↔k∈us))->(∀ k,m<=k->k<l.length->listed.getD k true=false)->(∀ k∈us,k<m)->listed.size=l.length->Closed l.toArray listed->Fr n al a->Ext w0 w ->
   (∀ k,k<m->k ∉ us->fiM Fs k (a.tmps.getD (ds.getD k 0) undef) w)->Vp P l.toArray Q T (us.length+fuel') listed a w:=by
 have hN:=Jbr hnd;have J:∀ a:Act,Fr n al a->Fr n (slM (λj=>a.tmps.getD (ds.getD j 0) undef) al ds 0) a:=λa ha=>⟨ha.size,ha.defers,λt v h=>by
  by_cases hm:t∈ds
  .obtain⟨j,hj,e⟩:=Jhj hm;rw[<-e,Jql hN hj]at h;grind
  rw[Jwr hm]at h;exact ha.has t v h⟩
 intro us;generalize hL:us.length=L
 induction L generalizing us with
 | zero=>
  intro listed a w hu Z a5 a2 ab a1 ha hx hf;have ae:us=[]:=List.length_eq_zero_iff.1 hL;subst ae;have e:listed=lst l.length m:=by
   refine Array.ext_getElem? λi=>?_;rw[Qxh];by_cases hi:i<l.length
   .rw[if_pos hi];have G:i<listed.size:=om
    by_cases a4:i<m
    .have O:=Z i a4;have D:listed.getD i true=true:=by grind
     simp[G]at D;simp[G,D,Nat.blt];omega
    have D:=a5 i om hi;simp[G]at D;have h3:Nat.blt i m=false:=by
     cases hh:Nat.blt i m with
     | false=>rfl
     | true=>exact absurd (show i+1<=m by simpa [Nat.blt] using hh) om
    simp[G,D,h3]
   repeat grind
  rw[Nat.zero_add,e];rw[e]at a1;exact Ud _ w hx (λk hk=>hf k hk (by simp)) a1 a (J a ha)
 | succ L ih=>
  intro listed a w hu Z a5 a2 ab a1 ha hx hf;rw[show L+1+fuel'=(L+fuel')+1 by omega];have a8:us≠[]:=by grind
  by_cases hq:us=[q]
  .have ac:q<m:=a2 q (by rw[hq];simp);have am:L=0:=by grind
   have e:listed=(lst l.length m).setIfInBounds q false:=by
    refine Array.ext_getElem? λi=>?_;by_cases hqi:q=i
    .subst hqi;have O:=(Z q ac).2 (by rw[hq];simp);have D:q<listed.size:=om
     simp[D]at O;grind [lst]
    rw[Array.getElem?_setIfInBounds_ne hqi,Qxh];by_cases hi:i<l.length
    .rw[if_pos hi];have G:i<listed.size:=om
     by_cases a4:i<m
     .have O:=Z i a4;have D:listed.getD i true=true:=by grind
      simp[G]at D;simp[G,D,Nat.blt];omega
     have D:=a5 i om hi;simp[G]at D;have h3:Nat.blt i m=false:=by
      cases hh:Nat.blt i m with
      | false=>rfl
      | true=>exact absurd (show i+1<=m by simpa [Nat.blt] using hh) om
     simp[G,D,h3]
    repeat grind
   rw[am,e,show 0+fuel'+1=fuel'+1 by omega];rw[e]at a1;exact hend2 ac _ w hx (λk hk ax=>hf k hk (by grind)) a1 a (J a ha)
  obtain⟨k0,ai,ap⟩:∃ k,k∈us/\k≠q:=by
   refine Classical.byContradiction λav=>?_;have J:∀ k∈us,k=q:=by grind
   apply hq
   match us,hu,a8,J with
   | [x],_,_,h=>rw[h x (by simp)]
   | x::y::r,hu,_,h=>
    have O:=h x (by simp);have D:=h y (by simp);grind
  refine⟨λhr=>?_,λi hi=>?_⟩
  .exfalso
   obtain⟨k,hk,ao⟩:∃ k,k∈us/\∀ j,j<k->j ∉ us:=by
    have:∀ s k,k∈us->k<s->∃ k,k∈us/\∀ j,j<k->j ∉ us:=by
     intro s;induction s with
     | zero=>intro k _ h;omega
     | succ s ihs=>
      grind
    grind
   have a9:=a2 k hk;have ah:=(Z k a9).2 hk;have aa:k<l.length:=om
   have au:k∈Region.ready .any l.toArray listed:=by
    refine mem_ready.2 ⟨ah,l[k],by simp[aa],λe he hb=>?_⟩;have O:=List.all_eq_true.1 hacc k (List.mem_range.2 aa);have hn:nth l k=some l[k]:=by rw[Xc];simp[aa]
    rw[hn]at O;simp only[Array.all_eq_true_iff_forall_mem,Bool.or_eq_true,Bool.not_eq_true']at O;have D:=(O e he).resolve_left (by rw[hb];simp);have h3:e.on<k:=by(have:e.on+1<=k:=by simpa [Nat.blt] using D);(omega)
    grind
   grind
  obtain⟨af,o,ho,aq⟩:=mem_ready.1 hi;have ad:l[i]?=some o:=by simpa using ho
  have aj:i<l.length:=by grind
  have a6:i<m:=by
   rcases Nat.lt_or_ge i m with h|h
   .exact h
   exfalso
   have O:=List.all_eq_true.1 hbeh i (List.mem_range.2 (by simpa using aj));simp only[Bool.or_eq_true]at O;have D:=O.resolve_left (by
    intro hh;have:i+1<=m:=by simpa [Nat.blt] using hh
    omega)
   have an:=List.all_eq_true.1 D k0 (List.mem_range.2 (a2 k0 ai));simp only[Bool.or_eq_true]at an;grind [Nat.eq_of_beq_eq_true,Jxq,Jxp]
  have a4:=(Z i a6).1 af;have hO:=GoM.get hop a6 ad;rw[Nat.zero_add]at hO;have hW:=hO (λj=>a.tmps.getD (ds.getD j 0) undef) w hx λk hk=>by
   unfold Jvn at hk;grind
  have O:=Jpd (Q:=Q) (ops:=l.toArray) (by simpa using ad) hW a (J a ha);refine wpOp_mono (λa' w' h=>?_) O;obtain⟨v,a3,a7,hF⟩:=h;have ak:lk ((ds.getD i 0,v)::slM (λj=>a.tmps.getD (ds.getD j 0) undef) al ds 0) (ds.getD i 0)=some v:=Jzq _ _ _;have az:ds.getD i 0∈ds:=by grind
  refine⟨λ_=>a7,ih (us.erase i) (by grind) _ a' w' (hu.erase i) (λk a9=>?_) (λk O D=>?_) (λk hk=>a2 k (hu.mem_erase_iff.1 hk).2) (by simp[ab]) (a1.step hi) ?_ (hx.trans a7) λk hk ay=>?_⟩
  .by_cases e:i=k
   .subst e;have:i<listed.size:=om
    simp only[hu.mem_erase_iff];simp[this]
   rw[getD_set_ne true e,Z k a9,hu.mem_erase_iff];grind
  .rw[getD_set_ne true om];exact a5 k O D
  .refine⟨a3.size,a3.defers,λt u ar=>?_⟩;have hm:t ∉ ds:=by grind
   exact a3.has t u (by grind [Kr,Jwr])
  by_cases e:k=i
  .subst e;rw[a3.has _ _ ak];exact hF
  have ag:k ∉ us:=by grind
  have a8:ds.getD i 0≠ds.getD k 0:=λh=>by
   have O:=Jql (vs:=λj=>Value.int .i64 (j:Int)) (al:=[]) (i:=0) hN (j:=i) om;have D:=Jql (vs:=λj=>Value.int .i64 (j:Int)) (al:=[]) (i:=0) hN (j:=k) om;grind
  have h3:=a3.has (ds.getD k 0) _ (by rw[Kr _ _ a8];exact Jql hN om);simp only[Nat.zero_add]at h3;rw[h3];exact(hf k hk ag).ext a7
theorem hmkq(m q F fuel':Nat)(ds:List Nat)(Fs:List SF)(hc:(accB l && behB l.toArray F m q && ndB ds && Nat.beq ds.length m && Nat.beq (m+fuel') l.length)=true)(hfree:(ds.all λd=>(lk al d).isNone)=true)(hop:GoM P n l.toArray al w ds Fs m 0 l)(Ud:∀ vs w1,Ext w w1->(∀ k,(hk:k<m:=by decide)->fiM Fs k (vs k) w1)->WH P n l.toArray Q T fuel' (lst l.length m) (slM vs al ds 0) w1)(hend2:q<m->∀ vs w1,Ext w w1->(∀ k,(hk:k<m:=by decide)->(hq:k≠q:=by decide)->fiM Fs k (vs k) w1)->WH P n l.toArray Q T (fuel'+1) ((lst l.length m).setIfInBounds q false) (slM vs al ds 0) w1): WH P n l.toArray Q T l.toArray.size (Array.replicate l.toArray.size false) al w:=λj a G=>by
 simp only[Bool.and_eq_true]at hc;obtain⟨⟨⟨⟨h2,h3⟩,Z⟩,O⟩,J⟩:=hc;have D:ds.length=m:=Nat.eq_of_beq_eq_true O;have u:m+fuel'=l.length:=Nat.eq_of_beq_eq_true J;have:=Qbx (Q:=Q) (T:=T) (F:=F) (q:=q) (fuel':=fuel') om h2 h3 Z D (λd hd=>by simpa using List.all_eq_true.1 hfree d hd) hop Ud hend2 (List.range m) (Array.replicate l.length false) a w List.nodup_range (λk hk=>?_) (λk _ h=>by simp[h]) (λk hk=>List.mem_range.1 hk) (by simp) (by simpa using j) G (Ext.refl w) λk hk i=>absurd (List.mem_range.2 hk) i
 .grind
 have:k<l.length:=om
 simp[this,hk]
theorem hmk(m F fuel':Nat)(ds:List Nat)(Fs:List SF)(hc:(accB l && behB l.toArray F m m && ndB ds && Nat.beq ds.length m && Nat.beq (m+fuel') l.length)=true)(hfree:(ds.all λd=>(lk al d).isNone)=true)(hop:GoM P n l.toArray al w ds Fs m 0 l)(Ud:∀ vs w1,Ext w w1->(∀ k,(hk:k<m:=by decide)->fiM Fs k (vs k) w1)->WH P n l.toArray Q T fuel' (lst l.length m) (slM vs al ds 0) w1): WH P n l.toArray Q T l.toArray.size (Array.replicate l.toArray.size false) al w :=
 hmkq m m F fuel' ds Fs hc hfree hop Ud λh=>absurd h (Nat.lt_irrefl m)
end
end Go.Wk
namespace Go.Wk
open Go.RowKit
variable {ds r us:List Nat}{l:List Oper}{Fs:List SF}{i j k:Nat}{w0:World}
section
variable {P:Program} {n:Nat} {al:AL} {w:World} {Q:Exit->Act->World->Prop} {ops:Array Oper}
def OpS(P:Program)(n:Nat)(ops:Array Oper)(al:AL)(w0:World)(us ds:List Nat)(Fs:List SF)(i:Nat)(o:Oper): Prop :=
 ∀ vs w1,Ext w0 w1->(∀ j,j<us.length->Jvn o (us.getD j 0)=true->fiM Fs j (vs j) w1)->WL P n ops (toM (PM n (slM vs al ds 0) w1 (ds.getD i 0) (Fs.getD i ⟨λ_ _=>True,λ_ _=>trivial⟩))) [o] (slM vs al ds 0) w1
def GoS(P:Program)(n:Nat)(l:List Oper)(al:AL)(w0:World)(us ds:List Nat)(Fs:List SF): Nat->List Nat->Prop
 | _,[]=>True
 | i,k::r=>(∀ o,nth l k=some o->OpS P n l.toArray al w0 us ds Fs i o)/\GoS P n l al w0 us ds Fs (i+1) r
theorem GoS.get{w0:World}{l:List Oper}{us ds:List Nat}{Fs:List SF}: ∀ {r:List Nat} {s i:Nat} {o:Oper},GoS P n l al w0 us ds Fs s r->i<r.length->nth l (r.getD i 0)=some o->OpS P n l.toArray al w0 us ds Fs (s+i) o
 | [],_,_,_,_,h,_=>by simp at h
 | x::r,s,0,o,h,_,e=>h.1 o e
 | x::r,s,i+1,o,h,h0,e=>by
  have:=GoS.get h.2 (by simpa using h0:i<r.length) (by simpa using e);rwa [show s+(i+1)=s+1+i by omega]
theorem gsc{o:Oper}(h:∀ vs w1,Ext w0 w1->(∀ j,(hj:j<us.length:=by decide)->(hk:Jvn o (us.getD j 0)=true:=by kernel_rfl)->fiM Fs j (vs j) w1)->WL P n l.toArray (toM (PM n (slM vs al ds 0) w1 (ds.getD i 0) (Fs.getD i ⟨λ_ _=>True,λ_ _=>trivial⟩))) [o] (slM vs al ds 0) w1)(h2:GoS P n l al w0 us ds Fs (i+1) r)(ho:nth l k=some o:=by rfl): GoS P n l al w0 us ds Fs i (k::r):=⟨λD u=>by rw[ho]at u;injection u with u;subst u;exact h,h2⟩
theorem gse: GoS P n l al w0 us ds Fs i []:=trivial
theorem Jhb(h:us.Nodup)(hi:i<us.length)(hj:j<us.length)(e:us.getD i 0=us.getD j 0): i=j:=by grind [List.getElem?_eq_getElem,List.pairwise_iff_getElem.1,Nat.lt_trichotomy]
end
end Go.Wk
namespace Go.Wk
open Go.RowKit
section
variable {P:Program} {n:Nat} {al:AL} {w:World} {Q:Exit->Act->World->Prop} {ops:Array Oper}
def stgQ(l:List Oper)(F q:Nat)(st st':Array Bool)(us:List Nat): Bool :=
 Nat.beq st.size l.length && Nat.beq st'.size l.length && ndB us && (us.all λk=>Nat.blt k l.length && !(st.getD k true)) &&
 (us.all λi=>match nth l i with
  | some o=>o.after.all λe=>!Region.binds .any e || (Nat.blt e.on l.length && st.getD e.on true) || (us.any (λj=>Nat.beq j e.on) && Nat.blt e.on i)
  | none=>false) &&
 ((List.range l.length).all λi=>st.getD i true || us.any (λj=>Nat.beq j i) || us.all λj=>Nat.beq j q || Up l.toArray F i j) &&
 ((List.range l.length).all λi=>st'.getD i true == (st.getD i true || us.any λj=>Nat.beq j i))
theorem hmkSq{T:Nat->Bool}{l:List Oper}(F q fuel':Nat)(st st':Array Bool)(us ds:List Nat)(Fs:List SF){fuel:Nat}(hc:(stgQ l F q st st' us && ndB ds && Nat.beq ds.length us.length && Nat.beq (us.length+fuel') fuel)=true)(hfree:(ds.all λd=>(lk al d).isNone)=true)(hop:GoS P n l al w us ds Fs 0 us)(Ud:∀ vs w1,Ext w w1->(∀ j,(hj:j<us.length:=by decide)->fiM Fs j (vs j) w1)->WH P n l.toArray Q T fuel' st' (slM vs al ds 0) w1)(hend2:q<l.length->∀ vs w1,Ext w w1->(∀ j,(hj:j<us.length:=by decide)->(hq:us.getD j 0≠q:=by decide)->fiM Fs j (vs j) w1)->WH P n l.toArray Q T (fuel'+1) (st'.setIfInBounds q false) (slM vs al ds 0) w1): WH P n l.toArray Q T fuel st al w:=λa3 a ha=>by
 simp only[Bool.and_eq_true]at hc;obtain⟨⟨⟨h0,h4⟩,h5⟩,h6⟩:=hc;unfold stgQ at h0;simp only[Bool.and_eq_true]at h0;obtain⟨⟨⟨⟨⟨⟨c1,c2⟩,c3⟩,c4⟩,c5⟩,c6⟩,c7⟩:=h0;have av:st.size=l.length:=Nat.eq_of_beq_eq_true c1;have b9:st'.size=l.length:=Nat.eq_of_beq_eq_true c2;have hU:=Jbr c3;have hN:=Jbr h4;have hl:ds.length=us.length:=Nat.eq_of_beq_eq_true h5;have b5:us.length+fuel'=fuel:=Nat.eq_of_beq_eq_true h6;have b6:∀ d∈ds,lk al d=none:=λd hd=>by simpa using List.all_eq_true.1 hfree d hd
 have a1:∀ j,j<us.length->us.getD j 0<l.length/\st.getD (us.getD j 0) true=false:=λj hj=>by
  have Z:us.getD j 0∈us:=by rw[List.getD_eq_getElem?_getD,List.getElem?_eq_getElem hj];exact List.getElem_mem _
  have:=List.all_eq_true.1 c4 _ Z;simp only[Bool.and_eq_true,Bool.not_eq_true']at this;exact⟨by(have h:us.getD j 0+1<=l.length:=by simpa [Nat.blt] using this.1);omega,this.2⟩
 have a7:∀ k,(us.any λj=>Nat.beq j k)=true->∃ j,j<us.length/\us.getD j 0=k:=λk hk=>by
  rw[List.any_eq_true]at hk;obtain⟨u,hu,e⟩:=hk;have e:=Nat.eq_of_beq_eq_true e;subst e;exact Jhj hu
 have aa:∀ a:Act,Fr n al a->Fr n (slM (λj=>a.tmps.getD (ds.getD j 0) undef) al ds 0) a:=λa ha=>⟨ha.size,ha.defers,λt v h=>by
  by_cases Z:t∈ds
  .obtain⟨j,hj,e⟩:=Jhj Z;rw[<-e,Jql hN hj]at h;simp only[Nat.zero_add,Option.some.injEq]at h;rw[<-e];exact h
  rw[Jwr Z]at h;exact ha.has t v h⟩
 suffices key:∀(L:Nat) (ps:List Nat) (D:Array Bool) (a:Act) (w1:World),ps.length=L->ps.Nodup->(∀ j∈ps,j<us.length)->(∀ j,j<us.length->(D.getD (us.getD j 0) true=false↔j∈ps))->(∀ k,k<l.length->(∀ j,j<us.length->us.getD j 0≠k)->D.getD k true=st.getD k true)->D.size=l.length->Closed l.toArray D->Fr n al a->Ext w w1 ->
   (∀ j,j<us.length->j ∉ ps->fiM Fs j (a.tmps.getD (ds.getD j 0) undef) w1)->Vp P l.toArray Q T (L+fuel') D a w1 by
  have:=key us.length (List.range us.length) st a w List.length_range List.nodup_range (λj hj=>List.mem_range.1 hj) (λj hj=>⟨λ_=>List.mem_range.2 hj,λ_=>(a1 j hj).2⟩) (λk _ _=>rfl) av a3 ha (Ext.refl w) λj hj h=>absurd (List.mem_range.2 hj) h;rwa [b5]at this
 intro L;induction L with
 | zero=>
  intro ps D a w1 hL hu a2 O a8 ag a3 ha hx hf;have ao:ps=[]:=List.length_eq_zero_iff.1 hL;subst ao;have e:D=st':=by
   refine Array.ext_getElem? λi=>?_;by_cases hi:i<l.length
   .have h7:=List.all_eq_true.1 c7 i (List.mem_range.2 hi);rw[beq_iff_eq]at h7;have h8:D.getD i true=st'.getD i true:=by
     rw[h7];by_cases Z:∃ j,j<us.length/\us.getD j 0=i
     .obtain⟨j,hj,e⟩:=Z;have G:=O j hj;rw[e]at G;have J:D.getD i true=true:=by
       cases hh:D.getD i true with
       | true=>rfl
       | false=>exact absurd (G.1 hh) (by simp)
      rw[J];symm
      rw[Bool.or_eq_true];right
      rw[List.any_eq_true];refine⟨us.getD j 0,?_,by rw[e];simp⟩;rw[List.getD_eq_getElem?_getD,List.getElem?_eq_getElem hj];exact List.getElem_mem _
     have G:∀ j,j<us.length->us.getD j 0≠i:=λj hj e=>Z ⟨j,hj,e⟩;rw[a8 i hi G];have J:(us.any λj=>Nat.beq j i)=false:=by
      cases hh:us.any λj=>Nat.beq j i with
      | false=>rfl
      | true=>exact absurd (a7 i hh) Z
     rw[J,Bool.or_false]
    have h9:i<D.size:=om
    have a6:i<st'.size:=om
    simp[h9,a6]at h8;simp[h9,a6,h8]
   rw[Array.getElem?_eq_none om,Array.getElem?_eq_none om]
  rw[Nat.zero_add,e];rw[e]at a3;exact Ud _ w1 hx (λj hj=>hf j hj (by simp)) a3 a (aa a ha)
 | succ L ih=>
  intro ps D a w1 hL hu a2 O a8 ag a3 ha hx hf;by_cases hq0:∀ p∈ps,us.getD p 0=q
  .have b8:L=0:=by
    rcases Nat.eq_zero_or_pos L with h|h
    .exact h
    exfalso
    obtain⟨x,y,r,rfl⟩:∃ x y r,ps=x::y::r:=by
     match ps,hL with
     | [],h'=>simp at h'
     | [x],h'=>simp at h';omega
     | x::y::r,_=>exact⟨x,y,r,rfl⟩
    have G:=hq0 x (by simp);have J:=hq0 y (by simp);have h3:=Jhb hU (a2 x (by simp)) (a2 y (by simp)) (by rw[G,J]);have:=(List.nodup_cons.1 hu).1;rw[h3]at this;exact this (by simp)
   subst b8;obtain⟨p,rfl⟩:∃ p,ps=[p]:=List.length_eq_one_iff.1 om;have ab:=hq0 p (by simp);have am:=a2 p (by simp);have ai:=(a1 p am).1;rw[ab]at ai;have e:D=st'.setIfInBounds q false:=by
    refine Array.ext_getElem? λi=>?_;by_cases hi:i<l.length
    .have h7:=List.all_eq_true.1 c7 i (List.mem_range.2 hi);rw[beq_iff_eq]at h7;have h8:D.getD i true=(st'.setIfInBounds q false).getD i true:=by
      by_cases hiq:i=q
      .have G:=(O p am).2 (by simp);rw[ab]at G;rw[hiq,G];have:q<st'.size:=om
       simp[this]
      have a6:(st'.setIfInBounds q false).getD i true=st'.getD i true:=by
       have h9:i<st'.size:=om
       simp[h9,Ne.symm hiq]
      rw[a6,h7];by_cases Z:∃ j,j<us.length/\us.getD j 0=i
      .obtain⟨j,hj,e⟩:=Z;have G:=O j hj;rw[e]at G;have J:D.getD i true=true:=by
        cases hh:D.getD i true with
        | true=>rfl
        | false=>
         have:=List.mem_singleton.1 (G.1 hh);rw[this,ab]at e;exact absurd e.symm hiq
       rw[J];symm
       rw[Bool.or_eq_true];right
       rw[List.any_eq_true];refine⟨us.getD j 0,?_,by rw[e];simp⟩;rw[List.getD_eq_getElem?_getD,List.getElem?_eq_getElem hj];exact List.getElem_mem _
      have G:∀ j,j<us.length->us.getD j 0≠i:=λj hj e=>Z ⟨j,hj,e⟩;rw[a8 i hi G];have J:(us.any λj=>Nat.beq j i)=false:=by
       cases hh:us.any λj=>Nat.beq j i with
       | false=>rfl
       | true=>exact absurd (a7 i hh) Z
      rw[J,Bool.or_false]
     have h9:i<D.size:=om
     have a6:i<(st'.setIfInBounds q false).size:=by rw[Array.size_setIfInBounds];omega
     rw[Array.getElem?_eq_getElem h9,Array.getElem?_eq_getElem a6];rw[Array.getD,Array.getD,dif_pos h9,dif_pos a6]at h8;exact congrArg some h8
    rw[Array.getElem?_eq_none om,Array.getElem?_eq_none (by rw[Array.size_setIfInBounds];omega)]
   rw[show 0+1+fuel'=fuel'+1 by omega,e];rw[e]at a3;exact hend2 ai _ w1 hx (λj hj hq=>hf j hj (λh=>hq (by rw[List.mem_singleton.1 h];exact ab))) a3 a (aa a ha)
  obtain⟨p0,a9,ak⟩:∃ p,p∈ps/\us.getD p 0≠q:=by
   refine Classical.byContradiction λh=>hq0 λp hp=>Classical.byContradiction λJ=>h ⟨p,hp,J⟩
  rw[show L+1+fuel'=(L+fuel')+1 by omega];refine⟨λhr=>?_,λi hi=>?_⟩
  .exfalso
   obtain⟨p,hp,ap⟩:∃ p,p∈ps/\∀ q∈ps,us.getD p 0<=us.getD q 0:=by
    have:∀ s p,p∈ps->us.getD p 0<s->∃ p,p∈ps/\∀ q∈ps,us.getD p 0<=us.getD q 0:=by
     intro s;induction s with
     | zero=>intro p _ h;omega
     | succ s ihs=>
      intro p hp aj;by_cases h:∃ q,q∈ps/\us.getD q 0<us.getD p 0
      .obtain⟨q,hq,ba⟩:=h;exact ihs q hq om
      exact⟨p,hp,λq hq=>by
       rcases Nat.lt_or_ge (us.getD q 0) (us.getD p 0) with h'|h'
       .exact absurd ⟨q,hq,h'⟩ h
       exact h'⟩
    exact this (us.getD p0 0+1) p0 a9 om
   have a4:=a2 p hp;obtain⟨bb,_⟩:=a1 p a4;have b1:=(O p a4).2 hp;have ah:us.getD p 0∈Region.ready .any l.toArray D:=by
    refine mem_ready.2 ⟨b1,l[us.getD p 0],by simp,λe he hb=>?_⟩;have Z:us.getD p 0∈us:=by rw[List.getD_eq_getElem?_getD,List.getElem?_eq_getElem a4];exact List.getElem_mem _
    have G:=List.all_eq_true.1 c5 _ Z;have hn:nth l (us.getD p 0)=some l[us.getD p 0]:=by rw[Xc];simp
    rw[hn]at G;simp only[Array.all_eq_true_iff_forall_mem,Bool.or_eq_true,Bool.not_eq_true',Bool.and_eq_true]at G;have J:=G e he;rw[hb]at J;have h5:D.getD e.on true=true/\e.on<D.size:=by
     rcases J with(J|⟨h3,J⟩)|⟨J,h3⟩
     .cases J
     .have au:e.on<l.length:=by(have:e.on+1<=l.length:=by simpa [Nat.blt] using h3);omega
      refine⟨?_,om⟩;by_cases hm2:∃ j,j<us.length/\us.getD j 0=e.on
      .obtain⟨j,hj,e2⟩:=hm2;have:=(a1 j hj).2;rw[e2,J]at this;cases this
      rw[a8 _ au λj hj e2=>hm2 ⟨j,hj,e2⟩];exact J
     obtain⟨j,hj,e2⟩:=a7 _ J;have au:e.on<us.getD p 0:=by(have:e.on+1<=us.getD p 0:=by simpa [Nat.blt] using h3);(omega)
     refine⟨?_,om⟩;cases hh:D.getD e.on true with
     | true=>rfl
     | false=>
      rw[<-e2]at hh;have h6:=(O j hj).1 hh;have:=ap j h6;omega
    have h6:=h5.2;have h7:=h5.1;simp[h6]at h7 ⊢;exact h7
   rw[hr]at ah;cases ah
  obtain⟨ad,o,ho,ar⟩:=mem_ready.1 hi;have af:l[i]?=some o:=by simpa using ho
  have aq:i<l.length:=(List.getElem?_eq_some_iff.1 af).1;obtain⟨p,a4,ax⟩:∃ j,j<us.length/\us.getD j 0=i:=by
   refine Classical.byContradiction λan=>?_;have G:=List.all_eq_true.1 c6 i (List.mem_range.2 aq);simp only[Bool.or_eq_true]at G;have J:=a8 i aq λj hj e=>an ⟨j,hj,e⟩;rcases G with(G|G)|G
   .rw[G]at J;rw[J]at ad;cases ad
   .exact an (a7 i G)
   have Z:us.getD p0 0∈us:=by rw[List.getD_eq_getElem?_getD,List.getElem?_eq_getElem (a2 p0 a9)];exact List.getElem_mem _
   have h3:=List.all_eq_true.1 G _ Z;rw[Bool.or_eq_true]at h3;have h3:=h3.resolve_left λh=>ak (Nat.eq_of_beq_eq_true h);have h4:=Jxq a3 F i (us.getD p0 0) o ho (Jxp ho hi) h3;have h5:=(O p0 (a2 p0 a9)).2 a9;have h6:us.getD p0 0<D.size:=by have:=(a1 p0 (a2 p0 a9)).1;omega
   generalize us.getD p0 0=k0 at h4 h5 h6
   simp[h6]at h4 h5;rw[h4]at h5;cases h5
  subst ax;have aj:=(O p a4).1 ad;have hO:=GoS.get hop a4 (by rw[Xc];exact af);rw[Nat.zero_add]at hO;have hW:=hO (λj=>a.tmps.getD (ds.getD j 0) undef) w1 hx λj hj hk=>by
   unfold Jvn at hk;rw[Array.any_eq_true']at hk;obtain⟨e,he,G⟩:=hk;simp only[Bool.and_eq_true,beq_iff_eq]at G;have J:=ar e he G.1;rw[G.2]at J;have h3:us.getD j 0<D.size:=by have:=(a1 j hj).1;omega
   refine hf j hj λb2=>?_;have h4:=(O j hj).2 b2;generalize us.getD j 0=k0 at J h3 h4
   simp[h3]at J h4;rw[J]at h4;cases h4
  have G:=Jpd (Q:=Q) (ops:=l.toArray) (by simpa using af) hW a (aa a ha);refine wpOp_mono (λa' w' h=>?_) G;obtain⟨v,a5,ac,hF⟩:=h;have b7:lk ((ds.getD p 0,v)::slM (λj=>a.tmps.getD (ds.getD j 0) undef) al ds 0) (ds.getD p 0)=some v:=Jzq _ _ _;have b4:ds.getD p 0∈ds:=by rw[List.getD_eq_getElem?_getD,List.getElem?_eq_getElem om];exact List.getElem_mem _
  refine⟨λ_=>ac,ih (ps.erase p) _ a' w' (by rw[List.length_erase_of_mem aj,hL];omega) (hu.erase p) (λj hj=>a2 j (hu.mem_erase_iff.1 hj).2) (λj hj=>?_) (λk G J=>?_) (by simp[ag]) (a3.step hi) ?_ (hx.trans ac) λj hj b3=>?_⟩
  .by_cases e:p=j
   .subst e;have:us.getD p 0<D.size:=om
    simp only[hu.mem_erase_iff];simp
   rw[getD_set_ne true (λe2=>e (Jhb hU a4 hj e2)),O j hj,hu.mem_erase_iff];exact⟨λh=>⟨λh'=>e h'.symm,h⟩,λh=>h.2⟩
  .rw[getD_set_ne true (J p a4)];exact a8 k G J
  .refine⟨a5.size,a5.defers,λt u ae=>?_⟩;have Z:t ∉ ds:=λZ=>by rw[b6 t Z]at ae;cases ae
   exact a5.has t u (by rw[Kr _ _ (λe=>Z (by rw[<-e];exact b4)),Jwr Z];exact ae)
  by_cases e:j=p
  .subst e;rw[a5.has _ _ b7];exact hF
  have az:j ∉ ps:=λh=>b3 (hu.mem_erase_iff.2 ⟨e,h⟩);have ay:ds.getD p 0≠ds.getD j 0:=λh=>e (Jhb hN om om h.symm);have h3:=a5.has (ds.getD j 0) _ (by rw[Kr _ _ ay];exact Jql hN om);simp only[Nat.zero_add]at h3;rw[h3];exact(hf j hj az).ext ac
end
end Go.Wk
