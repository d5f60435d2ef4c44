/- Part 7. -/
import Derived.Test.YtgobkbeokaaplaaGreatDoorI06
import Derived.ChangeKeysEq
import Derived.ProofKit
import Derived.OpenShut
import Derived.ShutString
import Derived.ChangeOld
import Derived.Deep.Slices
import Derived.Deep.Fields
import Derived.Test.YtgobkbeokaaplaaGreatDoorRows
import Derived.LaidSub
import Derived.Lib.LaidTab
set_option linter.unusedVariables false
set_option maxRecDepth 100000
set_option maxHeartbeats 40000000
namespace Go.Proofs.YtgobkbeokaaplaaGreatDoor
open Go.RowKit Pl Go.Wk _root_.Go.Proofs.Tryz
attribute [local irreducible] WC WL QX WD WDB WP
variable {a b:Row}{va vb vd:Value}{w:World}
theorem Qkz: ∀(x y:List UInt8),(Lib.compareBytes x y<0)↔Op.bytesLess x y=true
 | [],[]=>by simp[Lib.compareBytes,Op.bytesLess]
 | [],_::_=>by simp[Lib.compareBytes,Op.bytesLess]
 | _::_,[]=>by simp[Lib.compareBytes,Op.bytesLess]
 | a::x,b::y=>by
  have ih:=Qkz x y;simp only[Lib.compareBytes,Op.bytesLess];grind
def eqv(a b:V): Bool:=(a.kind == b.kind) && (a.num == b.num) && (a.str.toList == b.str.toList)
theorem V.bytes_eq(a:V): a.str.toList=a.bytes:=by rw[V.bytes,ByteArray.toList_eq]
theorem Qzf(a b:V): eqv a b=true↔a=b:=by
 unfold eqv;simp only[Bool.and_eq_true,beq_iff_eq];grind [V.ext,V.bytes_eq]
theorem eqV(a b:V)(w:World): (binOp .eql 147 a.val b.val).run prog w=.ok (.bool (eqv a b)) w:=by
 rw[V.val,V.val,run_eql_struct,run_equalIn_agg w 9999 147 _ _ kr kr];have e:∃ f1 j i:Field,(prog.fieldsOf 147).toList=[f1,j,i]/\(f1.name≠"_"/\f1.type=3/\f1.offset=0)/\(j.name≠"_"/\j.type=2/\j.offset=1)/\(i.name≠"_"/\i.type=9/\i.offset=2) :=
  ⟨_,_,_,rfl,⟨by decide,rfl,rfl⟩,⟨by decide,rfl,rfl⟩,⟨by decide,rfl,rfl⟩⟩
 obtain⟨f1,j,i,h0,⟨n1,J,Z⟩,⟨n2,G,U⟩,⟨n3,D,O⟩⟩:=e;rw[h0];simp only[Op.eqFields,if_pos n1,if_pos n2,if_pos n3,J,G,D,Z,U,O,Sem.run_bind];have C:∀ v:V,(part 3 #[.int .i64 v.kind,.int .i64 v.num,.string v.str] 0).run prog w=.ok (.int .i64 v.kind) w:=λv=>run_part_plain w kr rfl;have u:∀ v:V,(part 2 #[.int .i64 v.kind,.int .i64 v.num,.string v.str] 1).run prog w=.ok (.int .i64 v.num) w:=λv=>run_part_plain w kr rfl;have o:∀ v:V,(part 9 #[.int .i64 v.kind,.int .i64 v.num,.string v.str] 2).run prog w=.ok (.string v.str) w:=λv=>run_part_plain w kr rfl;rw[C a];simp only[Result.andThen_ok];rw[C b];simp only[Result.andThen_ok];rw[run_equalIn_int w 9998 3 .i64 .i64 _ _ kr];simp only[Result.andThen_ok];unfold eqv;cases h1:(a.kind == b.kind) with
 | false=>simp
 | true=>
  simp only[Bool.not_true,Bool.false_eq_true,if_false,Bool.true_and,Sem.run_bind];rw[u a];simp only[Result.andThen_ok];rw[u b];simp only[Result.andThen_ok];rw[run_equalIn_int w 9998 2 .i64 .i64 _ _ kr];simp only[Result.andThen_ok];cases h2:(a.num == b.num) with
  | false=>simp
  | true=>
   simp only[Bool.not_true,Bool.false_eq_true,if_false,Bool.true_and,Sem.run_bind];rw[o a];simp only[Result.andThen_ok];rw[o b];simp only[Result.andThen_ok];rw[run_equalIn_string w 9998 9 _ _ kr];simp only[Result.andThen_ok];cases h3:(a.str.toList == b.str.toList)<;>simp
theorem Jrz(a b:Int): sgn a b<0↔a<b:=by grind [sgn]
def Im(a b:V): Bool:=decide (a.kind<b.kind) || ((a.kind == b.kind) && (decide (a.num<b.num) || ((a.num == b.num) && Op.bytesLess a.str.toList b.str.toList)))
theorem Qqn(a b:V): Im a b=true↔cmpV a b<0:=by
 unfold Im cmpV;by_cases h:a.kind=b.kind
 .rw[if_neg (not_not_intro h)];by_cases h2:a.num=b.num
  .rw[if_neg (not_not_intro h2),Qkz,<-V.bytes_eq,<-V.bytes_eq];simp[h,h2]
  rw[if_pos h2,Jrz];grind
 rw[if_pos h,Jrz];grind
theorem Qhd(a b:V)(w:World): Ret prog 150 [a.val,b.val] w λr w'=>r=.int .i64 (cmpV a b)/\Ext w w':=by
 refine enE func150 ntmps150 ?_;refine bxR ?_;intro w1 b1 G a3 o;refine bxR ?_;intro Z b2 D a2 C;have o:=o.ext D;have J:=G.trans D;refine Js (cs:=a.cells) (λj u O=>o.at O) ?_;refine Js (cs:=b.cells) (λj u O=>C.at O) ?_;refine ρ ?_;refine weqs kr (eqV a b Z) ?_;refine ciR (λh=>?_) (λh=>?_)
 .refine ρ ?_;have:=(Qzf a b).1 h;subst this;exact Jj ⟨by rw[Vd],J⟩
 have a1:cmpV a b≠0:=λe=>by
  have:=(Qzf a b).2 (cmp_V.zero _ _ e);rw[h]at this;cases this
 refine ρ ?_;refine Yw (fun (t:Bool)=>[(40,.bool t)]) (λt U=>t=Im a b/\U=Z) ?_ ?_
 .refine ld (o.at (i:=0) rfl) ?_;refine ldR (C.at (i:=0) rfl) ?_;refine ρ ?_;refine ki 13 (λh1=>?_) (λh1=>?_)
  .refine ρ ?_;exact Jf true sB ⟨by unfold Im;rw[h1];rfl,rfl⟩
  refine ldR (o.at (i:=0) rfl) ?_;refine ldR (C.at (i:=0) rfl) ?_;refine ρ ?_;refine ki 19 (λh2=>?_) (λh2=>?_)
  .refine ldR (o.at (i:=1) rfl) ?_;refine ldR (C.at (i:=1) rfl) ?_;refine ρ ?_;refine ki 25 (λh3=>?_) (λh3=>?_)
   .refine ρ ?_;exact Jf true sB ⟨by grind [Im],rfl⟩
   refine ldR (o.at (i:=1) rfl) ?_;refine ldR (C.at (i:=1) rfl) ?_;refine ρ ?_;refine ki 31 (λh4=>?_) (λh4=>?_)
   .refine ldR (o.at (i:=2) rfl) ?_;refine ldR (C.at (i:=2) rfl) ?_;refine ρ ?_;exact Jf _ sB ⟨by grind [Im],rfl⟩
   refine ρ ?_;exact Jf false sB ⟨by grind [Im],rfl⟩
  refine ρ ?_;exact Jf false sB ⟨by grind [Im],rfl⟩
 rintro t U ⟨rfl,rfl⟩;refine ρ ?_;have h3:=Qkd a b;refine ci (λh=>?_) (λh=>?_)
 .have:=(Qqn a b).1 h;refine ρ ?_;refine Jj ⟨?_,J⟩;grind
 have:¬ cmpV a b<0:=by grind [Qqn]
 refine ρ ?_;refine Jj ⟨?_,J⟩;grind
theorem Jsx{ds:List Bool}(ha:RowV w va a)(hb:RowV w vb b)(hd:BoolsV w vd ds):
  Ret prog 93 [va,vb,vd] w λr w'=>(∃ c:Int,r=.int .i64 c/\(c<0↔Jw a b ds<0)/\(c=0↔a=b))/\Ext w w':=by
 obtain⟨A,ac,rfl,ag,af,ha⟩:=ha;obtain⟨B,bc,rfl,ae,ad,hb⟩:=hb;obtain⟨D,dc,rfl,ab,aa,hd⟩:=hd;refine enE func93 ntmps93 ?_;refine ρ ?_;refine Qy (λk=>[(0,.slice A a.length ac),(1,.slice B b.length bc),(2,.slice D ds.length dc),(7,.int .i64 ((k:Nat):Int))])
  (λk w'=>Ext w w'/\k<=a.length/\k<=b.length/\Jw a b ds=Jw (a.drop k) (b.drop k) (ds.drop k)) (λk=>a.length-k) 0 sB ⟨Ext.refl w,Nat.zero_le _,Nat.zero_le _,rfl⟩ ?_
 rintro k w1 ⟨hx,a9,a8,he⟩;have a6:=ha.ext hx;have a5:=hb.ext hx;have O:∀ c:Int,c=Jw a b ds->(c<0↔Jw a b ds<0)/\(c=0↔a=b):=λc hc=>by grind [Jzx,Yt]
 have U:(a.length<=k∨b.length<=k)->(((a.length:Int)-(b.length:Int)<0↔Jw a b ds<0)/\((a.length:Int)-(b.length:Int)=0↔a=b)):=λh=>by grind [Qkk,Jw,Jzx,Yt,Nat.lt_trichotomy]
 refine ρ ?_;refine ki 13 (λh=>?_) (λh=>?_)
 .have G:k<a.length:=by have:=oT h;omega
  refine ciR (λh=>?_) (λh=>?_)
  .have C:k<b.length:=by have:=oT h;omega
   refine drR (scq 10 [8]) ?_;have o:Ext w1 w1.drew:=(Ext.refl w1).drew;have a4:=a6.ext o;have a3:=a5.ext o;refine Kt 3 k a4 G ?_;refine Qh (λj u hu=>RdR.cell a4 G hu) ?_;refine Kt 3 k a3 C ?_;refine Qh (λj u hu=>RdR.cell a3 C hu) ?_;refine Jh (Qhd (a.getD k V0) (b.getD k V0) _) ?_;rintro x w2 ⟨rfl,Z⟩;refine⟨Z,?_⟩;have i:Ext w w2:=(hx.trans o).trans Z;have a2:=hd.ext i;refine ρd ?_;refine ρ ?_;have step:=Qkm (ds:=ds) G C;have a7:∀ d,neg d (cmpV (a.getD k V0) (b.getD k V0))=0↔cmpV (a.getD k V0) (b.getD k V0)=0:=λd=>by cases d<;>simp[neg]
   refine Yw (fun (t:Bool)=>[(0,.slice A a.length ac),(1,.slice B b.length bc),(2,.slice D ds.length dc),(7,.int .i64 ((k:Nat):Int)),(8,.int .i64 (cmpV (a.getD k V0) (b.getD k V0))),(39,.bool t)]) (λt w3=>t=ds.getD k false/\w3=w2) ?_ ?_
   .refine ki 34 (λh=>?_) (λh=>?_)
    .have a1:k<ds.length:=by have:=oT h;omega
     refine ixR k a2 a1 ?_;refine ldR (RdB.cell a2 a1) ?_;refine ρ ?_;exact Jf _ sB ⟨rfl,rfl⟩
    have h1:ds.getD k false=false:=by grind
    refine ρ ?_;exact Jf false sB ⟨h1.symm,rfl⟩
   rintro t w3 ⟨rfl,rfl⟩;refine ρ ?_;have more:∀ c:Int,c=neg (ds.getD k false) (cmpV (a.getD k V0) (b.getD k V0))->c≠0->c=Jw a b ds:=λc hc h0=>by grind
   refine ci (λh1=>?_) (λh1=>?_)
   .refine ρ ?_;rw[Jnh];rw[h1]at more;refine ci (λh=>?_) (λh=>?_)
    .refine ρ ?_;exact Jj ⟨⟨_,rfl,O _ (more _ rfl (Kl h))⟩,i⟩
    refine ρ ?_;refine Qw (k+1) sB ⟨i,om,om,?_⟩ om;grind
   refine ρ ?_;rw[h1]at more;refine ci (λh=>?_) (λh=>?_)
   .refine ρ ?_;exact Jj ⟨⟨_,rfl,O _ (more _ rfl (Kl h))⟩,i⟩
   refine ρ ?_;refine Qw (k+1) sB ⟨i,om,om,?_⟩ om;grind
  have J:=U (by grind);refine ρ ?_;exact Jj ⟨⟨_,rfl,J⟩,hx⟩
 have J:=U (by grind);refine ρ ?_;exact Jj ⟨⟨_,rfl,J⟩,hx⟩
theorem Jyp(ha:RowV w va a)(hb:RowV w vb b):
  Ret prog 43 [va,vb] w λr w'=>r=.bool (decide (a=b))/\Ext w w':=by
 obtain⟨A,O,rfl,C,u,_⟩:=id ha;obtain⟨B,J,rfl,o,j,_⟩:=id hb;refine enE func43 ntmps43 ?_;refine ρ ?_;refine ki 10 (λh=>?_) (λh=>?_)
 .refine clR (Jsx ha hb (BoolsV.nil w none 0)) ?_;rintro x D ⟨⟨c,rfl,_,G⟩,i⟩;refine ρ ?_;refine Jj ⟨?_,i⟩;grind
 refine ρ ?_;refine Jj ⟨?_,Ext.refl w⟩;rw[decide_eq_false (λe=>by grind)]
open Go.RowKit Pl Go.Wk
variable {v vd vr:Value}{w w0:World}
theorem RowV.ones{ps:List Pr}(h:∀ p∈ps,RowV w p.1 p.2): ∀ u∈ps.map (·.1),u.oneCell'=true:=by
 intro u i;obtain⟨p,j,rfl⟩:=List.mem_map.1 i;exact(h p j).one
theorem Qmc{e sz m:Nat}{xs:List Value}(h:w.ownsRow w0.heap.size e sz v m xs): Fresh w0 v:=λj n c e=>by
 rcases h.2 with⟨i,_⟩|⟨g,cap,cur,i,hb,_⟩
 repeat grind
theorem Jsw{l:List Row}{r:Row}{ds:List Bool}(hl:RowsV w v l)(hr:RowV w vr r)(hd:BoolsV w vd ds)(hlt:Lt ds l)(hlen:l.length<=1000000):
  Ret Tryz.prog 103 [v,vr,vd] w λx w'=>RowsV w' x (Zm ds l r)/\Ext w w'/\(x=v∨Fresh w x):=by
 obtain⟨ps,A,c,rfl,rfl,h3,h4,h5,h6⟩:=id hl;have hn:ps.length<=1000000:=by simpa using hlen
 obtain⟨B,bc,a9,ak,aj,ai⟩:=id hr;refine enE Tryz.func103 Tryz.ntmps103 ?_;refine ρ ?_;refine Qy (λk=>[(0,.slice A ps.length c),(1,vr),(2,vd),(7,.int .i64 ((k:Nat):Int))])
  (λk w'=>Ext w w'/\k<=ps.length/\∀ i,i<k->Jw ((ps.map (·.2)).getD i []) r ds<0) (λk=>ps.length-k) 0 sB ⟨Ext.refl w,Nat.zero_le _,λi hi=>om⟩ ?_
 rintro k w1 ⟨C,hk,G⟩;refine ρ ?_;refine Yw (fun (t:Bool)=>[(0,.slice A ps.length c),(1,vr),(2,vd),(7,.int .i64 ((k:Nat):Int)),(22,.bool t)])
  (λt w2=>Ext w1 w2/\t=decide (k<ps.length/\Jw ((ps.map (·.2)).getD k []) r ds<0)) ?_ ?_
 .refine ki 13 (λh=>?_) (λh=>?_)
  .have hlt:k<ps.length:=by have:=oT h;omega
   refine ixR k (h5.ext C) hlt ?_;refine ldR ((h5.ext C).cell (Gs hlt)) ?_;refine clR (Jsx ((h6 _ (getD_mem' z0 ps hlt)).ext C) (hr.ext C) (hd.ext C)) ?_;rintro x w2 ⟨⟨cc,rfl,ah,ag⟩,a1⟩;refine ρ ?_;refine Jf _ sB ⟨a1,?_⟩;grind
  have hlt:¬ k<ps.length:=by have:=oF h;omega
  refine ρ ?_;exact Jf false sB ⟨Ext.refl _,(dF (λh=>hlt h.1)).symm⟩
 rintro t w2 ⟨a1,rfl⟩;have j:=C.trans a1;refine ciR (λh=>?_) (λh=>?_)
 .obtain⟨hlt,hc⟩:=oT h;refine ρ ?_;refine Qw (k+1) sB ⟨j,om,λi hi=>?_⟩ om;grind
 have aa:=oF h;obtain⟨a6,af⟩:=Jfr hlt (r:=r) (k:=k) (by simpa using hk) (by grind) (by grind);refine ρ ?_;refine Yw (fun (t:Bool)=>[(0,.slice A ps.length c),(1,vr),(7,.int .i64 ((k:Nat):Int)),(36,.bool t)])
  (λt w3=>Ext w2 w3/\t=decide (r∈ps.map (·.2))) ?_ ?_
 .refine ki 29 (λh=>?_) (λh=>?_)
  .have hlt:k<ps.length:=by have:=oT h;omega
   refine ixR k (h5.ext j) hlt ?_;refine ldR ((h5.ext j).cell (Gs hlt)) ?_;refine clR (Jyp ((h6 _ (getD_mem' z0 ps hlt)).ext j) (hr.ext j)) ?_;rintro x w3 ⟨rfl,Z⟩;refine ρ ?_;refine Jf _ sB ⟨Z,?_⟩;grind
  have hlt:¬ k<ps.length:=by have:=oF h;omega
  refine ρ ?_;refine Jf false sB ⟨Ext.refl _,(dF (λh=>?_)).symm⟩;grind
 rintro t w3 ⟨Z,rfl⟩;have o:=j.trans Z;refine ciR (λh=>?_) (λh=>?_)
 .have a2:=oT h;refine ρ ?_;refine Jj ⟨?_,o,.inl rfl⟩;unfold Zm;rw[if_pos a2];exact hl.ext o
 have a2:=oF h;have U:=RowV.ones h6;refine Qk Qwh ?_;intro w4 b a8 an ad;have O:=o.trans a8;refine ρ ?_;refine slh k ?_;refine ρ ?_;refine apo (a:=w) O ER (ad.own (n:=0) (by have:=o.size;omega) rfl (Nat.zero_le _)) ((h5.ext O).take (m:=k) hk) (λu hu=>U u (List.mem_of_mem_take hu)) (by unfold maxLen;omega) om ?_;intro v5 w5 a5 a7 _ _;rw[Nat.mul_one]at a5;refine Qk (λw=>Jkd vr w B _ bc a9) ?_;intro w6 b6 a4 am ac;refine ρ ?_;refine apo (a:=w) (a7.trans a4) ER (Jk a5 a4) ac.one (λu hu=>by rw[List.mem_singleton.1 hu];exact hr.one) (by unfold maxLen;omega) om ?_;intro v7 w7 ab a3 _ _;refine ρ ?_;refine sll k ?_;refine ρ ?_;refine apo (a:=w) a3 ER ab ((h5.ext a3).drop (k:=k) (c:=c) hk h3) (λu hu=>U u (List.mem_of_mem_drop hu)) (by unfold maxLen;omega) om ?_;intro v8 w8 J D _ _;rw[Nat.mul_one]at J;refine ρ ?_;refine Jj ⟨?_,D,.inr (Qmc J)⟩
 have e0:Zm ds (ps.map (·.2)) r=(ps.take k++[(vr,r)]++ps.drop k).map (·.2):=by
  unfold Zm;rw[if_neg a2,a6];simp
 have el:(ps.take k++[(vr,r)]++ps.drop k).length=0+k+1+(ps.length-k):=by simp;omega
 have ec:(ps.take k++[(vr,r)]++ps.drop k).map (·.1)=[]++(ps.map (·.1)).take k++[vr]++(ps.map (·.1)).drop k:=by simp
 rw[e0];obtain⟨A8,c8,rfl,ae,_⟩:=Jy J;refine⟨_,A8,c8,rfl,by rw[el],by rw[el];exact ae,by rw[el];omega,by rw[el,ec];exact Rd.own J,λp G=>?_⟩;simp only[List.mem_append,List.mem_singleton]at G;rcases G with(G|G)|G
 .exact(h6 p (List.mem_of_mem_take G)).ext D
 .rw[G];exact hr.ext D
 exact(h6 p (List.mem_of_mem_drop G)).ext D
end Go.Proofs.YtgobkbeokaaplaaGreatDoor
namespace Go.Proofs.YtgobkbeokaaplaaGreatDoor
open Pl Go.Wk
variable {l out:List Row}{i k m n s v:Nat}{vars:Nat->List Nat}{rs:Nat->List Row}{g g':Nat->Row}{y z:Row}
theorem Jgh{α:Type}: ∀ {l m:List α},l.Nodup->(∀ x∈l,x∈m)->l.length<=m.length
 | [],_,_,_=>Nat.zero_le _
 | x::l,m,hn,hs=>by
  obtain⟨a,b,rfl⟩:=List.append_of_mem (hs x mC);have hn':=List.nodup_cons.1 hn;have:=Jgh (l:=l) (m:=a++b) hn'.2 λy hy=>by grind
  grind
def Jjc(rs:Nat->List Row): Nat->List (List Row)
 | 0=>[[]]
 | m+1=>(Jjc rs m).flatMap λc=>(rs m).map λr=>c++[r]
theorem Qzv(rs:Nat->List Row): ∀ m,(Jjc rs m).length=Jg m λi=>(rs i).length
 | 0=>rfl
 | m+1=>by
  rw[Jjc,Jg,<-Qzv rs m];generalize Jjc rs m=l
  induction l with
  | nil=>simp
  | cons c l ih=>rw[List.flatMap_cons,List.length_append,ih,List.length_map,List.length_cons,Nat.succ_mul,Nat.add_comm]
theorem Qzt{rs:Nat->List Row}(g:Nat->Row): ∀ m,(∀ i,i<m->g i∈rs i)->(List.range m).map g∈Jjc rs m
 | 0,_=>by simp[Jjc]
 | m+1,h=>by
  rw[List.range_succ,List.map_append,Jjc,List.mem_flatMap];refine⟨_,Qzt g m λi hi=>h i om,?_⟩;grind
theorem Qzr(F:(Nat->Row)->Row)(hF:∀ g g',(∀ i,i<m->g i=g' i)->F g=F g')(hn:l.Nodup)(h:∀ x∈l,∃ g:Nat->Row,(∀ i,i<m->g i∈rs i)/\x=F g):
  l.length<=Jg m λi=>(rs i).length:=by
 rw[<-Qzv];have:=Jgh (m:=(Jjc rs m).map λc=>F λi=>c.getD i []) hn λx j=>by
  obtain⟨g,o,rfl⟩:=h x j;refine List.mem_map.2 ⟨_,Qzt g m o,hF _ _ λi hi=>?_⟩;simp[List.getD,hi]
 grind
theorem Qqf{ds:List Bool}(h:Lt ds l): l.Nodup:=h.imp fun {a b} hab e=>by grind [Yt]
def Jjz(m:Nat)(vars:Nat->List Nat)(g:Nat->Row)(v:Nat): V:=match(List.range m).find? λi=>decide (v∈vars i) with
 | some i=>(g i).getD (lv (vars i) v) V0
 | none=>V0
theorem Jtv(h:∀ i,i<m->g i=g' i)(v:Nat): Jjz m vars g v=Jjz m vars g' v:=by grind [Jjz,List.range,List.mem_range.1,List.mem_of_find?_eq_some]
theorem Jtt(hasc:∀ i,i<m->Xw (vars i))(hc:∃ i,i<m/\v∈vars i)(h:∀ i,i<m->∀ j,j<(vars i).length->(vars i).getD j 0=v->(g i).getD j V0=z.getD v V0): Jjz m vars g v=z.getD v V0:=by
 unfold Jjz;cases hf:(List.range m).find? λi=>decide (v∈vars i) with
 | none=>
  grind
 | some i=>
  have hi:=List.mem_range.1 (List.mem_of_find?_eq_some hf);have o:v∈vars i:=by grind
  have:=Yc (hasc i hi) o;grind
theorem Xks(hasc:∀ i,i<m->Xw (vars i))(hc:∀ v,v<n->∃ i,i<m/\v∈vars i)(hs:s<2^n)(hl:Lt [] l)(h:∀ x∈l,∃ z:Row,z.length=n/\x=pmR (bk s 32) z/\Ij m vars rs s z): l.length<=Jg m λi=>(rs i).length:=by
 refine Qzr (F:=λg=>(bk s 32).map (Jjz m vars g)) (λg U o=>List.map_congr_left λv _=>Jtv o v) (Qqf hl) λx u=>?_;obtain⟨z,O,rfl,J⟩:=h x u;obtain⟨g,o⟩:∃ g:Nat->Row,∀ i,i<m->g i∈rs i/\∀ j,j<(vars i).length->s.testBit ((vars i).getD j 0)=true->(g i).getD j V0=z.getD ((vars i).getD j 0) V0:=by
  refine⟨λi=>if hi:i<m then Classical.choose (J i hi) else[],λi hi=>?_⟩;grind
 refine⟨g,λi hi=>(o i hi).1,?_⟩;unfold pmR;refine List.map_congr_left λv G=>?_;obtain⟨D,C⟩:=bk_mem.1 G;grind [Jtt,Jkf]
section
variable (m:Nat) (vars:Nat->List Nat) (rs:Nat->List Row)
def Ul(vl:List Nat)(r:Row): Bool:=(List.range m).all λi=>(rs i).any λx=>decide (pmR (Xj (vars i) (Qm vl &&& Qm (vars i))) x=pmR (Xj vl (Qm vl &&& Qm (vars i))) r)
def Jvd(v:Nat): List Row:=(List.range m).flatMap λi=>(List.range (vars i).length).flatMap λk=>if(vars i).getD k 0=v then(rs i).map λr=>[r.getD k V0] else[]
def Uo(v:Nat): List Row:=(Jvd m vars rs v).foldl (Zm []) []
def Xc(v:Nat): List V:=(Uo m vars rs v).map λr=>r.getD 0 V0
def Jjq(vl:List Nat)(k:Nat)(out:List Row): List Row:=out.flatMap λr=>((Xc m vars rs (vl.getD k 0)).map λx=>r++[x]).filter (Ul m vars rs (vl.take (k+1)))
def Xk(vl:List Nat): Nat->List Row
 | 0=>[[]]
 | k+1=>Jjq m vars rs vl k (Xk vl k)
def Xo(n:Nat): List Row:=if n=0 then(if Ul m vars rs [] [] then[[]] else[]) else Xk m vars rs (List.range n) n
end
section
variable {n m:Nat} {vars:Nat->List Nat} {rs:Nat->List Row}
theorem Jwx{ds:List Bool}: ∀(ls:List Row) {done l:List Row},IsSet ds done l->IsSet ds (done++ls) (ls.foldl (Zm ds) l)
 | [],done,l,h=>by simpa using h
 | r::ls,done,l,h=>by
  rw[List.foldl_cons];have:=Jwx ls (Qhv (r:=r) h);grind
theorem Jyf(v:Nat): IsSet [] (Jvd m vars rs v) (Uo m vars rs v):=by
 have:=Jwx (ds:=[]) (Jvd m vars rs v) (done:=[]) (l:=[]) ⟨List.Pairwise.nil,λx=>Iff.rfl⟩;rwa [List.nil_append]at this
theorem enumV_mem: y∈Jvd m vars rs v↔∃ i,i<m/\∃ k,k<(vars i).length/\(vars i).getD k 0=v/\∃ r∈rs i,y=[r.getD k V0]:=by
 unfold Jvd;grind
theorem valL_mem{x:V}: x∈Xc m vars rs v↔∃ i,i<m/\∃ k,k<(vars i).length/\(vars i).getD k 0=v/\∃ r∈rs i,x=r.getD k V0:=by
 unfold Xc;rw[List.mem_map];constructor
 .rintro⟨y,u,rfl⟩;obtain⟨i,hi,k,o,e,r,j,rfl⟩:=enumV_mem.1 (((Jyf v).2 y).1 u);grind
 rintro⟨i,hi,k,o,e,r,j,rfl⟩;exact⟨_,((Jyf v).2 _).2 (enumV_mem.2 ⟨i,hi,k,o,e,r,j,rfl⟩),rfl⟩
theorem Jpm(hy:y∈Uo m vars rs v): ∃ x,y=[x]:=by
 obtain⟨i,hi,k,o,e,r,j,rfl⟩:=enumV_mem.1 (((Jyf v).2 y).1 hy);exact⟨_,rfl⟩
theorem Qbz(v:Nat): (Xc m vars rs v).Nodup:=by
 unfold Xc List.Nodup;rw[List.pairwise_map];refine List.Pairwise.imp_of_mem (fun {a b} ha hb hab e=>?_) (Jyf (m:=m) (vars:=vars) (rs:=rs) v).1;grind [Jpm,List.getD_cons_zero,Yt]
theorem Qtn{α β:Type}{f:α->List β}{l:List α}(h1:l.Nodup)(h2:∀ a∈l,(f a).Nodup)(h3:∀ a∈l,∀ b∈l,∀ x,x∈f a->x∈f b->a=b): (l.flatMap f).Nodup:=by
 induction l with
 | nil=>exact List.Pairwise.nil
 | cons a l ih=>
  grind
theorem Qdt{vl:List Nat}(h:out.Nodup): (Jjq m vars rs vl k out).Nodup:=by
 unfold Jjq;refine Qtn h (λr _=>?_) λa _ b _ x j i=>?_
 .grind [List.Pairwise.sublist,List.filter_sublist,List.map,List.Nodup,Qbz,List.append_cancel_left]
 obtain⟨u,D,rfl⟩:=List.mem_map.1 (List.mem_filter.1 j).1;obtain⟨o,C,e⟩:=List.mem_map.1 (List.mem_filter.1 i).1;have:=congrArg List.dropLast e;simpa using this.symm
theorem Qwz(vl:List Nat): ∀ k,(Xk m vars rs vl k).Nodup
 | 0=>by simp[Xk]
 | k+1=>Qdt (Qwz vl k)
def Ku(m:Nat)(vars:Nat->List Nat)(rs:Nat->List Row)(k:Nat)(z:Row): Prop:=∀ i,i<m->∃ x∈rs i,∀ j,j<(vars i).length->(vars i).getD j 0<k->x.getD j V0=z.getD ((vars i).getD j 0) V0
theorem Jjv{n:Nat}(h:i<n): (List.range n).getD i 0=i:=by simp[List.getD,h]
theorem Xql(k s:Nat): Xj (List.range k) s=(List.range k).filter λu=>s.testBit u:=by grind [Xj,List.length_range,List.filter_congr,Jjv,List.mem_range.1]
theorem Xwb{l:List Nat}{p:Nat->Bool}(ha:Xw l)(hp:∀ u,p u=true↔u∈l): (List.range k).filter p=l.filter λu=>decide (u<k):=by
 have key:∀ {a b:List Nat},Xw a->Xw b->(∀ u,u∈a↔u∈b)->a=b:=by
  intro a;induction a with
  | nil=>
   intro b _ _ h;cases b with
   | nil=>rfl
   | cons y b=>have:=(h y).2 mC;cases this
  | cons x a ih=>
   intro b ha j h;cases b with
   | nil=>have:=(h x).1 mC;cases this
   | cons y b=>
    obtain⟨G,C⟩:=List.pairwise_cons.1 ha;obtain⟨D,o⟩:=List.pairwise_cons.1 j;have i:x=y:=by grind [List.mem_cons_self,List.mem_cons.1]
    subst i;rw[ih C o λu=>?_];grind
 refine key (List.Pairwise.sublist List.filter_sublist List.pairwise_lt_range) (List.Pairwise.sublist List.filter_sublist ha) λu=>?_;grind
theorem Jhw(hasc:∀ i,i<m->Xw (vars i))(hlen:∀ i,i<m->∀ r∈rs i,r.length=(vars i).length)(k:Nat)(z:Row): Ul m vars rs (List.range k) z=true↔Ku m vars rs k z:=by
 unfold Ul Ku;simp only[List.all_eq_true,List.mem_range,List.any_eq_true,decide_eq_true_eq];refine⟨λh i hi=>?_,λh i hi=>?_⟩;all_goals
  have G:∀ u,(Qm (List.range k) &&& Qm (vars i)).testBit u=true↔u<k/\u∈vars i:=λu=>by
   rw[Nat.testBit_and,Bool.and_eq_true,edgeOf_bit,edgeOf_bit,List.mem_range]
  obtain⟨x,j,e⟩:=h i hi;refine⟨x,j,?_⟩;have J:Xj (List.range k) (Qm (List.range k) &&& Qm (vars i))=inS (vars i) (Qm (List.range k) &&& Qm (vars i)):=by
   rw[Xql];have:(List.range k).filter (λu=>(Qm (List.range k) &&& Qm (vars i)).testBit u)=(List.range k).filter λu=>decide (u∈vars i):=List.filter_congr λu C=>by grind
   rw[this,Xwb (hasc i hi) λu=>by simp];unfold inS;refine List.filter_congr λu C=>?_;grind
  have o:=Jll (vars:=vars i) (s:=Qm (List.range k) &&& Qm (vars i)) (r:=x) (z:=z) (hlen i hi x j) (vars i).length (nR _);rw[List.take_length]at o;have D:Zk (vars i) (Qm (List.range k) &&& Qm (vars i)) (vars i).length=Xj (vars i) (Qm (List.range k) &&& Qm (vars i)):=rfl;rw[D]at o
 repeat grind
theorem Qtt{l:Nat}(hkl:k<=l): Ku m vars rs k (z.take l)↔Ku m vars rs k z:=by grind [Ku,V0]
theorem Jcj(hasc:∀ i,i<m->Xw (vars i))(hlen:∀ i,i<m->∀ r∈rs i,r.length=(vars i).length)(hn:∀ v,v<n->∃ i,i<m/\v∈vars i): ∀ k,k<=n->∀ z:Row,z∈Xk m vars rs (List.range n) k↔z.length=k/\(k=0∨Ku m vars rs k z)
 | 0,_,z=>by grind [Xk,List.mem_singleton,List.eq_nil_of_length_eq_zero]
 | k+1,hk,z=>by
  have ih:=Jcj hasc hlen hn k om;rw[Xk];unfold Jjq;rw[Jjv om,Qhh om];simp only[List.mem_flatMap,List.mem_filter,List.mem_map];constructor
  .grind [Jhw]
  rintro⟨hl,h⟩;have hf:Ku m vars rs (k+1) z:=h.resolve_left om;have hz:z=z.take k++[z.getD k V0]:=Jrm V0 hl;refine⟨z.take k,(ih _).2 ⟨by grind,?_⟩,⟨z.getD k V0,?_,hz.symm⟩,(Jhw hasc hlen (k+1) _).2 hf⟩
  .refine .inr ((Qtt (nR _)).2 λi hi=>?_);obtain⟨x,hx,h1⟩:=hf i hi;grind
  obtain⟨i,hi,hv⟩:=hn k om;obtain⟨x,hx,h1⟩:=hf i hi;have h2:=Yc (hasc i hi) hv;refine valL_mem.2 ⟨i,hi,_,h2.2.1,h2.2.2,x,hx,?_⟩;grind
theorem Qvb(hasc:∀ i,i<m->Xw (vars i))(hlen:∀ i,i<m->∀ r∈rs i,r.length=(vars i).length)(hn:∀ v,v<n->∃ i,i<m/\v∈vars i)(hk:k<=n): (Xk m vars rs (List.range n) k).length<=max 1 (Jg m λi=>(rs i).length):=by
 by_cases h0:k=0
 .subst h0;simp only[Xk,List.length_singleton];omega
 refine nL (Qzr (F:=λg=>(List.range k).map (Jjz m vars g)) (λg g' o=>List.map_congr_left λv _=>Jtv o v) (Qwz _ k) λx D=>?_) (Nat.le_max_right _ _);obtain⟨Z,U⟩:=(Jcj hasc hlen hn k hk x).1 D;have C:Ku m vars rs k x:=U.resolve_left h0;obtain⟨g,o⟩:∃ g:Nat->Row,∀ i,i<m->g i∈rs i/\∀ j,j<(vars i).length->(vars i).getD j 0<k->(g i).getD j V0=x.getD ((vars i).getD j 0) V0:=by
  refine⟨λi=>if hi:i<m then Classical.choose (C i hi) else[],λi hi=>?_⟩;simp only[hi,dite_true];exact Classical.choose_spec (C i hi)
 refine⟨g,λi hi=>(o i hi).1,?_⟩;apply List.ext_getElem
 .simp[Z]
 intro v u G;have J:=Jtt (g:=g) (z:=x) hasc (hn v om) λi hi j O e=>by
  have:=(o i hi).2 j O om;rw[e]at this;exact this
 rw[List.getElem_map,List.getElem_range,J];simp[List.getD,u]
theorem Jhc(hasc:∀ i,i<m->Xw (vars i))(hlen:∀ i,i<m->∀ r∈rs i,r.length=(vars i).length)(hlt:∀ i,i<m->∀ v∈vars i,v<n)(hn:∀ v,v<n->∃ i,i<m/\v∈vars i)(z:Row): z∈Xo m vars rs n↔Vh n m vars rs z:=by
 have key:z.length=n->(Ku m vars rs n z↔∀ i,i<m->pmR (vars i) z∈rs i):=λj=>by
  constructor
  .intro h i hi;obtain⟨x,o,C⟩:=h i hi;grind [pmR,List.ext_getElem,Qn,getD_mem',List.getD,V0]
  intro h i hi;grind [pmR,List.getD]
 unfold Xo Vh;split
 .rename_i h0;subst h0;have u:=Jhw (vars:=vars) (rs:=rs) hasc hlen 0 [];grind
 rename_i h0;rw[Jcj hasc hlen hn n (nR _) z];grind
theorem Qqt(hasc:∀ i,i<m->Xw (vars i))(hlen:∀ i,i<m->∀ r∈rs i,r.length=(vars i).length)(hn:∀ v,v<n->∃ i,i<m/\v∈vars i): (Xo m vars rs n).length<=max 1 (Jg m λi=>(rs i).length):=by
 unfold Xo;split
 .grind
 exact Qvb hasc hlen hn (nR _)
end
end Go.Proofs.YtgobkbeokaaplaaGreatDoor
namespace Go.Wk
open Go.RowKit
variable {k2:IntKind}{s v:Nat}{x y:Operand}{t yt:TypeId}
section
variable {P:Program} {n:Nat} {al:AL} {w:World} {Q:Exit->Act->World->Prop} {ops:Array Oper} {rest:List Oper} {d ty:Nat} {pos:String} {aft:Array Edge}
theorem sr32g(hv:v<=32)(kk:WL P n ops Q rest ((d,.int .u32 ((s / 2^v:Nat):Int))::al) w)(hx:ev al x=some (.int .u32 (s:Int)):=by rfl)(hy:ev al y=some (.int k2 (v:Int)):=by rfl)(hd:Nat.blt d n=true:=by rfl):
  WL P n ops Q (⟨some d,.binOp .shr t x y yt,ty,pos,aft,none⟩::rest) al w:=by
 rw[<-Jrw s v hv]at kk;exact wop hd (λa i=>Jsd hx hy om i (some d) w) kk
theorem Jrp(hv:v<32)(kk:WL P n ops Q rest ((d,.int .u32 ((2^v:Nat):Int))::al) w)(hy:ev al y=some (.int k2 (v:Int)):=by rfl)(hd:Nat.blt d n=true:=by rfl):
  WL P n ops Q (⟨some d,.binOp .shl t (.const (.int .u32 1)) y yt,ty,pos,aft,none⟩::rest) al w:=by
 rw[<-Jyl hv]at kk;exact wop hd (λa i=>Jkv (x:=.const (.int .u32 1)) rfl hy om i (some d) w) kk
end
end Go.Wk
namespace Go.Proofs.YtgobkbeokaaplaaGreatDoor
open Go.RowKit Pl Go.Wk _root_.Go.Proofs.Tryz
attribute [local irreducible] WC WL QX WD WDB WP WN WG WH
variable {l vars:List Nat}{s:Nat}{rv v vv:Value}{w:World}
theorem IntsV.n(h:IntsV w v (nz l)): ∃ A c,v=.slice A l.length c/\l.length<=c/\l.length<=1100000/\Rd w 1 A l.length (Je (nz l)):=by
 obtain⟨A,c,u,o,j,i⟩:=h;grind [Qf]
theorem Jtd{v:Nat}(hs:s<4294967296)(hv:v<=32)(w:World): Ret prog 209 [.int .u32 (s:Int),.int .i64 (v:Int)] w λu w'=>u=.bool (s.testBit v)/\w'=w:=by
 refine enE func209 ntmps209 ?_;refine ρ ?_;refine Go.Wk.kv 7 (congrArg (λz=>Value.int .u64 z) (Uu (z:=(v:Int)) om)) ?_;refine sr32g (s:=s) (v:=v) hv ?_;refine ρ ?_;rw[Gh hs];exact Jj ⟨rfl,rfl⟩
theorem Jtb(h:IntsV w v (nz l))(hl:∀ u∈l,u<32): Ret prog 210 [v] w λu w'=>u=.int .u32 (Qm l:Int)/\w'=w:=by
 obtain⟨A,c,rfl,hc,Z,D⟩:=h.n;refine enE func210 ntmps210 ?_;refine ρ ?_;refine Qy (fun (i:Nat)=>[(0,.slice A l.length c),(3,.int .u32 (Qm (l.take i):Int)),(4,.int .i64 (i:Int))])
  (λi w'=>i<=l.length/\w'=w) (λi=>l.length-i) 0 sB ⟨Nat.zero_le _,rfl⟩ ?_
 rintro i U ⟨hi,rfl⟩;refine ciR (λh=>?_) (λh=>?_)
 .have o:i<l.length:=by have:=oT h;omega
  clear h;have j:=hl _ (getD_mem' 0 l o);refine ixR i D o ?_;refine ldR (D.cell (Xg o)) ?_;refine ρ ?_;refine Go.Wk.kv 16 (congrArg (λz=>Value.int .u64 z) (Uu (z:=(l.getD i 0:Int)) om)) ?_;refine Jrp (v:=l.getD i 0) j ?_;refine ρ ?_;have e:Qm (l.take (i+1))=Qm (l.take i) ||| 2^l.getD i 0:=by rw[Qt 0 o];exact Qzg _ _ _
  have O:Qm (l.take i)<4294967296:=Jzs (n:=32) λv G=>hl v (List.mem_of_mem_take G);have J:=Jqw O (Kg j);rw[J,<-e];exact Qw (i+1) sO ⟨o,rfl⟩ om
 have C:i=l.length:=by have:=oF h;omega
 subst C;clear h;refine ρ ?_;rw[List.take_length];exact Jj ⟨rfl,rfl⟩
theorem Jtc{r:Row}(hr:RowV w rv r)(hv:IntsV w vv (nz vars))(hs:s<4294967296)(hl:∀ u∈vars,u<32)(hrl:r.length=vars.length):
  Ret prog 211 [rv,vv,.int .u32 (s:Int)] w λu w'=>RowV w' u (pmR (Xj vars s) r)/\Ext w w':=by
 obtain⟨A,c,rfl,hc,hm,hR⟩:=id hr;obtain⟨B,d,rfl,hd,a9,hV⟩:=hv.n;refine enE func211 ntmps211 ?_;refine Qk Jqt ?_;intro w0 b0 Z a6 a7;refine ρ ?_;refine Jo (fun (k:Nat) (D:Value)=>[(0,.slice A r.length c),(1,.slice B vars.length d),(2,.int .u32 (s:Int)),(7,D),(8,.int .i64 (k:Int))])
  (λk D w'=>k<=vars.length/\Ext w w'/\Xl w' w.heap.size D (pmR (Zk vars s k) r)) (λk _=>vars.length-k) 0 (.slice (some ⟨b0,0,none⟩) 0 0) sB
  ⟨Nat.zero_le _,Z,a7.own (n:=0) a6 rfl (Nat.zero_le _)⟩ ?_
 rintro k D w1 ⟨hk,o,J⟩;refine ciR (λh=>?_) (λh=>?_)
 .have lk:k<vars.length:=by have:=oT h;omega
  clear h;have O:RdR w1 A r:=Rd.ext hR o;have G:=hl _ (getD_mem' 0 vars lk);have a4:(Zk vars s k).length<=k:=by
   have:=List.length_filter_le (λi=>s.testBit (vars.getD i 0)) (List.range k);rw[List.length_range]at this;exact this
  refine ixR k (hV.ext o) lk ?_;refine ldR ((hV.ext o).cell (Xg lk)) ?_;refine clR (Jtd hs (Nat.le_of_lt G) w1) ?_;rintro _ U ⟨rfl,e1⟩;rw[e1];clear e1 U;refine ciR (λh=>?_) (λh=>?_)
  .refine Qp 3 k O om ?_;refine Js (cs:=(r.getD k V0).cells) (λj u hu=>RdR.cell O om hu) ?_;refine Qk (Jls _) ?_;intro w2 b C hb hB;refine ρ ?_;refine apb (m':=1) (news:=(r.getD k V0).cells) EV (Jk J C) (hB.rd (n:=1) rfl) (V.one _) (by rw[Qn];unfold maxLen;omega) (by rw[Qn];omega) (o.trans C).size ?_;intro v3 w3 a1 a3 a8;refine ρ ?_;refine Jl (k+1) v3 sO ⟨lk,Qg (o.trans C) a3 (Kh (Jk J C)),?_⟩ om;have e:pmR (Zk vars s (k+1)) r=pmR (Zk vars s k) r++[r.getD k V0]:=by grind [Ka,pmR]
   rw[Xl,e,List.length_append,rowC_app',rowC_one''];exact a1
  refine ρ ?_;refine Jl (k+1) D sO ⟨lk,o,?_⟩ om;grind [Ka]
 have a2:k=vars.length:=by have:=oF h;omega
 rw[a2]at J;have a4:(Zk vars s vars.length).length<=vars.length:=by
  have:=List.length_filter_le (λi=>s.testBit (vars.getD i 0)) (List.range vars.length);rw[List.length_range]at this;exact this
 obtain⟨A3,c3,rfl,a5,_⟩:=Jy J;refine ρ ?_;refine Jj ⟨⟨A3,c3,rfl,a5,?_,Rd.own J⟩,o⟩;show(pmR (Zk vars s vars.length) r).length<=_;rw[Qn];omega
theorem Qhk(hs:s<4294967296)(w:World): Ret prog 185 [.int .u32 (s:Int)] w λu w'=>IntsV w' u (nz (bk s 32))/\Ext w w':=by
 refine enE func185 ntmps185 ?_;refine ρ ?_;refine Jo (fun (k:Nat) (o:Value)=>[(0,.int .u32 (s:Int)),(3,o),(4,.int .i64 (k:Int))])
  (λk o w'=>k<=32/\Ext w w'/\Zd w' w.heap.size o (bk s k)) (λk _=>32-k) 0 (.slice none 0 0) sB
  ⟨Nat.zero_le _,Ext.refl _,Zy _ _ _ _⟩ ?_
 rintro k o w1 ⟨hk,j,C⟩;refine ciR (λh=>?_) (λh=>?_)
 .have lk:k<32:=by have:=oT h;omega
  clear h;have O:=Ya s k;refine clR (Jtd hs hk w1) ?_;rintro _ D ⟨rfl,Z⟩;rw[Z];clear Z D;refine ciR (λh=>?_) (λh=>?_)
  .refine Qk (bs1Int'' _) ?_;intro w2 b i hb hB;refine ρ ?_;refine apI (Jk C i) hB om (j.trans i).size ?_;intro v3 w3 a1 J a2;refine ρ ?_;refine Jl (k+1) v3 sO ⟨lk,Qg (j.trans i) J (Kh (Jk C i)),?_⟩ om;grind [Gg]
  refine ρ ?_;refine Jl (k+1) o sO ⟨lk,j,?_⟩ om;grind [Gg]
 have G:k=32:=by have:=oF h;omega
 rw[G]at C;have O:=Ya s 32;obtain⟨A3,c3,rfl,U,_⟩:=Jy C;refine ρ ?_;exact Jj ⟨⟨A3,c3,by rw[Qf],by rw[Qf];exact U,by rw[Qf];omega,by rw[Qf];exact Rd.own C⟩,j⟩
open Go.RowKit Pl Go.Wk
structure RInM(w:World)(VA RA:Option Addr)(m:Nat)(vars:Nat->List Nat)(rs:Nat->List Row): Prop where
 v:∃ cs,Rd w 1 VA m cs/\∀ i,i<m->∃ u,cs[i]?=some u/\IntsV w u (nz (vars i))
 r:∃ cs,Rd w 1 RA m cs/\∀ i,i<m->∃ u,cs[i]?=some u/\RowsV w u (rs i)
theorem RInM.ext{w w':World}{VA RA:Option Addr}{m:Nat}{vars:Nat->List Nat}{rs:Nat->List Row}(h:RInM w VA RA m vars rs)(hx:Ext w w'): RInM w' VA RA m vars rs:=by
 obtain⟨cs,G,D⟩:=h.v;obtain⟨ds,C,o⟩:=h.r;exact⟨⟨cs,G.ext hx,λi hi=>by obtain⟨u,e,j⟩:=D i hi;exact⟨u,e,j.ext hx⟩⟩,⟨ds,C.ext hx,λi hi=>by obtain⟨u,e,j⟩:=o i hi;exact⟨u,e,j.ext hx⟩⟩⟩
structure RefP(n m:Nat)(vars:Nat->List Nat)(rs:Nat->List Row): Prop where
 n32:n<=32
 m32:m<=32
 asc:∀ i,i<m->Xw (vars i)
 lt:∀ i,i<m->∀ v∈vars i,v<n
 len:∀ i,i<m->∀ r∈rs i,r.length=(vars i).length
 cov:∀ v,v<n->∃ i,i<m/\v∈vars i
 cnt:max 1 (Jg m λi=>(rs i).length)<=5000
 row:∀ i,i<m->(rs i).length<=10
def Vu(n f:Int)(pA:Option Addr)(pn pc:Nat)(VA:Option Addr)(vc:Nat)(RA:Option Addr)(rc m:Nat): List Value:=[.int .i64 n,.int .i64 f,.slice pA pn pc,.slice VA m vc,.slice RA m rc]
def Jvc(vars:Nat->List Nat)(rs:Nat->List Row)(vl:List Nat)(r:Row)(i:Nat)(x:Row): Bool:=decide (pmR (Xj (vars i) (Qm vl &&& Qm (vars i))) x=pmR (Xj vl (Qm vl &&& Qm (vars i))) r)
section
variable {n f:Int} {pA VA RA:Option Addr} {pn pc vc rc N m:Nat} {vars:Nat->List Nat} {rs:Nat->List Row} {w:World}
theorem Jtf(hP:RefP N m vars rs)(hM:RInM w VA RA m vars rs){vl:List Nat}{r:Row}{vv rv:Value}(hv:IntsV w vv (nz vl))(hr:RowV w rv r)(hvl:∀ u∈vl,u<32)(hrl:r.length=vl.length):
  Ret Tryz.prog 187 [.agg (Vu n f pA pn pc VA vc RA rc m).toArray,rv,vv] w λu w'=>u=.bool (Ul m vars rs vl r)/\Ext w w':=by
 have b5:=hP.m32;refine enE Tryz.func187 Tryz.ntmps187 ?_;refine bxR (cs:=Vu n f pA pn pc VA vc RA rc m) ?_;intro w1 b D hb hB;refine clR (Jtb (hv.ext D) hvl) ?_;rintro _ ak ⟨rfl,e1⟩;rw[e1];clear e1 ak;refine ρ ?_;refine Qy (fun (i:Nat)=>[(1,rv),(2,vv),(3,.pointer (some ⟨b,0,none⟩)),(7,.int .u32 (Qm vl:Int)),(8,.int .i64 (i:Int))])
  (λi w'=>i<=m/\Ext w1 w'/\(List.range i).all (λi=>(rs i).any (Jvc vars rs vl r i))=true) (λi=>m-i) 0 sB ⟨Nat.zero_le _,Ext.refl _,rfl⟩ ?_
 rintro i w2 ⟨hi,o,af⟩;have a9:=hB.ext o;refine ldR (a9.at (i:=3) rfl) ?_;refine ciR (λh=>?_) (λh=>?_)
 .have U:i<m:=by have:=oT h;omega
  clear h;obtain⟨b2,Z,ar⟩:=(hM.ext (D.trans o)).v;obtain⟨b4,a5,au⟩:=(hM.ext (D.trans o)).r;obtain⟨vi,ab,ag⟩:=ar i U;obtain⟨ri,ac,b1⟩:=au i U;have G:∀ u∈vars i,u<32:=λu hu=>by have:=hP.lt i U u hu;have:=hP.n32;omega
  refine ldR (a9.at (i:=3) rfl) ?_;refine ixR i Z U ?_;refine ldR (Z.cell ab) ?_;refine clR (Jtb ag G) ?_;rintro _ aj ⟨rfl,e2⟩;rw[e2];clear e2 aj;have ae:Qm vl<4294967296:=Jzs (n:=32) hvl;have ay:Qm (vars i)<4294967296:=Jzs (n:=32) G;refine ρ ?_;have a2:bits .and .u32 (Qm vl:Int) (Qm (vars i):Int)=((Qm vl &&& Qm (vars i):Nat):Int):=u32_and_nat _ _ ae ay;have ad:Qm vl &&& Qm (vars i)<4294967296:=Nat.lt_of_le_of_lt Nat.and_le_left ae;rw[a2];clear a2;refine cl (Jtc (hr.ext (D.trans o)) (hv.ext (D.trans o)) ad hvl hrl) ?_;rintro wv w3 ⟨aq,ap⟩;refine ρ ?_;refine Jo (fun (k:Nat) (O:Bool)=>[(1,rv),(2,vv),(3,.pointer (some ⟨b,0,none⟩)),(7,.int .u32 (Qm vl:Int)),(8,.int .i64 (i:Int)),(9,.int .u32 ((Qm vl &&& Qm (vars i):Nat):Int)),(10,wv),(11,.bool O),(12,.int .i64 (k:Int))])
   (λk O w'=>k<=(rs i).length/\Ext w3 w'/\O=((rs i).take k).any (Jvc vars rs vl r i)) (λk _=>(rs i).length-k) 0 false sB ⟨Nat.zero_le _,Ext.refl _,rfl⟩ ?_
  rintro k O w4 ⟨hk,a4,a1⟩;have j:=ap.trans a4;have a8:=a9.ext j;obtain⟨TA,tc,rfl,b7,b6,b3,ah,az⟩:=(b1.ext j).parts;refine ldR (a8.at (i:=4) rfl) ?_;refine ixR i (a5.ext j) U ?_;refine ldR ((a5.ext j).cell ac) ?_;refine ρ ?_;have next:(rs i).any (Jvc vars rs vl r i)=true->(List.range (i+1)).all (λi=>(rs i).any (Jvc vars rs vl r i))=true:=λh=>by grind
  refine ki 42 (λh=>?_) (λh=>?_)
  .have lk:k<(rs i).length:=by have:=oT h;omega
   clear h;refine ciR (λh=>?_) (λh=>?_)
   .have a7:O=false:=by cases O<;>first|rfl|cases h
    subst a7;obtain⟨xv,an,ao⟩:=az k lk;have am:=hP.len i U _ (getD_mem' [] (rs i) lk);have C:Ext w4 w4.drew:=(Ext.refl w4).drew;have J:=j.trans C;refine drR [(0,0),(0,1),(0,2),(0,3),(0,4),(0,5),(0,6),(0,7),(0,8),(0,9),(0,10),(0,11),(0,12),(0,13),(0,15),(1,14),(1,16),(0,17)] ?_;have ai:=(a5.ext J);refine Jz ((a8.ext C).at (i:=4) rfl) ?_;refine Jc i ai U ?_;refine Jz (ai.cell ac) ?_;refine Jc k (ah.ext C) lk ?_;refine Jz ((ah.ext C).cell an) ?_;refine Jz ((a8.ext C).at (i:=3) rfl) ?_;refine Jc i (Z.ext J) U ?_;refine Jz ((Z.ext J).cell ab) ?_;refine Jh (Jtc (ao.ext C) (ag.ext J) ad G am) ?_;rintro pv w5 ⟨av,a3⟩;refine⟨a3,?_⟩;refine Jh (Jyp av (aq.ext ((a4.trans C).trans a3))) ?_;rintro _ w6 ⟨rfl,aa⟩;refine⟨aa,?_⟩;refine ρd ?_;refine ρ ?_;refine Jl (k+1) (Jvc vars rs vl r i ((rs i).getD k [])) sO ⟨lk,((a4.trans C).trans a3).trans aa,?_⟩ om;grind [Qt,lk]
   have a6:O=true:=by cases O<;>first|rfl|cases h
   subst a6;refine ρ ?_;refine Qw (i+1) sO ⟨U,o.trans j,next ?_⟩ om;grind
  have lk:k=(rs i).length:=by have:=oF h;omega
  clear h;rw[lk,List.take_length]at a1;refine ciR (λh=>?_) (λh=>?_)
  .have a7:O=false:=by cases O<;>first|rfl|cases h
   refine ρ ?_;refine Jj ⟨?_,(D.trans o).trans j⟩;congr 1
   symm
   refine Bool.eq_false_iff.2 λhc=>?_;have:=List.all_eq_true.1 hc i (List.mem_range.2 U);rw[a7]at a1;exact Bool.false_ne_true (a1.trans this)
  have a6:O=true:=by cases O<;>first|rfl|cases h
  refine ρ ?_;exact Qw (i+1) sO ⟨U,o.trans j,next (by rw[<-a1];exact a6)⟩ om
 have ax:i=m:=by have:=oF h;omega
 subst ax;refine ρ ?_;exact Jj ⟨congrArg Value.bool af.symm,D.trans o⟩
end
open Go.RowKit Pl Go.Wk
theorem EVv: ElT Tryz.prog 58 147 3 32 (.agg #[.int .i64 0,.int .i64 0,.string ⟨#[]⟩]):=⟨Tryz.underlying58,info_parts kr,rfl,by decide⟩
theorem Xxs(v:V)(w:World): (Instr.buildSlice 58 1 #[(0,v.val)]).run Tryz.prog w=.ok (.slice (some ⟨w.heap.size,0,none⟩) 1 1) (w.alloc (.cells v.cells.toArray 147)):=kr
theorem Blk.rowV{w:World}{b t:Nat}{v:V}(h:Blk w b t v.cells): RowV w (.slice (some ⟨b,0,none⟩) 1 1) [v]:=⟨some ⟨b,0,none⟩,1,rfl,Nat.le_refl _,by simp,by
 have:=h.rd (n:=1) (sz:=3) rfl;unfold RdR;grind [rowC_one'']⟩
def enI(vars:Nat->List Nat)(rs:Nat->List Row)(v i:Nat): List Row:=(List.range (vars i).length).flatMap λk=>if(vars i).getD k 0=v then(rs i).map λr=>[r.getD k V0] else[]
def enD(vars:Nat->List Nat)(rs:Nat->List Row)(v i k:Nat): List Row:=(List.range i).flatMap (enI vars rs v)++(List.range k).flatMap λk=>if(vars i).getD k 0=v then(rs i).map λr=>[r.getD k V0] else[]
def Uj(D:List Row): List Row:=D.foldl (Zm []) []
theorem Qhx(D:List Row): IsSet [] D (Uj D):=by
 have:=Jwx (ds:=[]) D (done:=[]) (l:=[]) ⟨List.Pairwise.nil,λx=>Iff.rfl⟩;rwa [List.nil_append]at this
theorem Jth(D:List Row)(r:Row): Uj (D++[r])=Zm [] (Uj D) r:=by simp[Uj]
theorem Qhz(D:List Row)(r:Row): (Uj (D++[r])).length<=(Uj D).length+1:=by
 rw[Jth];unfold Zm;grind
section
variable {n f:Int} {pA VA RA:Option Addr} {pn pc vc rc N m:Nat} {vars:Nat->List Nat} {rs:Nat->List Row} {w:World}
theorem Qhj(hP:RefP N m vars rs)(hM:RInM w VA RA m vars rs)(v:Nat):
  Ret Tryz.prog 186 [.agg (Vu n f pA pn pc VA vc RA rc m).toArray,.int .i64 (v:Int)] w λu w'=>(RowV w' u (Xc m vars rs v)/\(Xc m vars rs v).length<=10240)/\Ext w w':=by
 have bf:=hP.m32;refine enE Tryz.func186 Tryz.ntmps186 ?_;refine bxR (cs:=Vu n f pA pn pc VA vc RA rc m) ?_;intro w1 b a9 hb hB;refine ρ ?_;refine Jo (fun (i:Nat) (lv:Value)=>[(1,.int .i64 (v:Int)),(2,.pointer (some ⟨b,0,none⟩)),(5,lv),(6,.int .i64 (i:Int))])
  (λi lv w'=>i<=m/\Ext w1 w'/\RowsV w' lv (Uj ((List.range i).flatMap (enI vars rs v)))/\(Uj ((List.range i).flatMap (enI vars rs v))).length<=320*i) (λi _=>m-i) 0 (.slice none 0 0) sB
  ⟨Nat.zero_le _,Ext.refl _,⟨[],none,0,rfl,rfl,Nat.le_refl _,Nat.zero_le _,Rd.nil,λp hp=>by cases hp⟩,Nat.le_refl _⟩ ?_
 rintro i lv w2 ⟨hi,a8,o,J⟩;have an:=hB.ext a8;refine ldR (an.at (i:=3) rfl) ?_;refine ciR (λh=>?_) (λh=>?_)
 .have U:i<m:=by have:=oT h;omega
  clear h;have aa:∀ u∈vars i,u<32:=λu hu=>by have:=hP.lt i U u hu;have:=hP.n32;omega
  have ai:=Jvl (hP.asc i U) aa;have bb:=hP.row i U;refine ρ ?_;refine Jo (fun (k:Nat) (lv:Value)=>[(1,.int .i64 (v:Int)),(2,.pointer (some ⟨b,0,none⟩)),(5,lv),(6,.int .i64 (i:Int)),(7,.int .i64 (k:Int))])
   (λk lv w'=>k<=(vars i).length/\Ext w2 w'/\RowsV w' lv (Uj (enD vars rs v i k))/\(Uj (enD vars rs v i k)).length<=320*i+10*k) (λk _=>(vars i).length-k) 0 lv sB
   ⟨Nat.zero_le _,Ext.refl _,by unfold enD;simpa using o,by unfold enD;simpa using J⟩ ?_
  clear o J lv;rintro k lv w3 ⟨hk,C,o,J⟩;have Z:=a8.trans C;have ad:=an.ext C;obtain⟨bc,a4,ar⟩:=(hM.ext (a9.trans Z)).v;obtain⟨vi,aj,b8⟩:=ar i U;obtain⟨PA,be,rfl,bj,bh,am⟩:=b8.n;refine ldR (ad.at (i:=3) rfl) ?_;refine ixR i a4 U ?_;refine ldR (a4.cell aj) ?_;refine ciR (λh=>?_) (λh=>?_)
  .have lk:k<(vars i).length:=by have:=oT h;omega
   clear h;refine ldR (ad.at (i:=3) rfl) ?_;refine ixR i a4 U ?_;refine ldR (a4.cell aj) ?_;refine ixR k am lk ?_;refine ldR (am.cell (Xg lk)) ?_;refine ρ ?_;have O:∀ D,enD vars rs v i (k+1)=D->D=enD vars rs v i k++(if(vars i).getD k 0=v then(rs i).map λr=>[r.getD k V0] else[]):=λD hD=>by grind [enD,List.range_succ,List.append_assoc]
   have O:=O _ rfl;refine ci (λh=>?_) (λh=>?_)
   .have az:(vars i).getD k 0≠v:=λe=>by have:=Kl h;omega
    rw[if_neg az,List.append_nil]at O;refine ρ ?_;refine Jl (k+1) lv sO ⟨lk,C,by rw[O];exact o,by rw[O];omega⟩ om
   have he:(vars i).getD k 0=v:=by have:=Jqc h;omega
   rw[if_pos he]at O;clear h;refine ρ ?_;refine Jo (fun (j:Nat) (lv:Value)=>[(1,.int .i64 (v:Int)),(2,.pointer (some ⟨b,0,none⟩)),(5,lv),(6,.int .i64 (i:Int)),(7,.int .i64 (k:Int)),(8,.int .i64 (j:Int))])
    (λj lv w'=>j<=(rs i).length/\Ext w3 w'/\RowsV w' lv (Uj (enD vars rs v i k++((rs i).take j).map λr=>[r.getD k V0]))/\(Uj (enD vars rs v i k++((rs i).take j).map λr=>[r.getD k V0])).length<=320*i+10*k+j) (λj _=>(rs i).length-j) 0 lv sB
    ⟨Nat.zero_le _,Ext.refl _,by simpa using o,by simpa using J⟩ ?_
   clear o J lv;rintro j lv w4 ⟨hj,G,o,J⟩;have ah:=Z.trans G;have a6:=ad.ext G;obtain⟨bd,a5,ax⟩:=(hM.ext (a9.trans ah)).r;obtain⟨ri,ak,b9⟩:=ax i U;obtain⟨TA,tc,rfl,av,au,ao,a2,ac⟩:=b9.parts;refine ldR (a6.at (i:=4) rfl) ?_;refine ixR i a5 U ?_;refine ldR (a5.cell ak) ?_;refine ciR (λh=>?_) (λh=>?_)
   .have lj:j<(rs i).length:=by have:=oT h;omega
    clear h;obtain⟨xv,a7,a3⟩:=ac j lj;have bg:=hP.len i U _ (getD_mem' [] (rs i) lj);obtain⟨XA,xc,rfl,af,ae,a1⟩:=id a3;refine ldR (a6.at (i:=4) rfl) ?_;refine ixR i a5 U ?_;refine ldR (a5.cell ak) ?_;refine ixR j a2 lj ?_;refine ldR (a2.cell a7) ?_;refine Qp 3 k a1 om ?_;refine Js (cs:=(((rs i).getD j []).getD k V0).cells) (λq u hu=>RdR.cell a1 om hu) ?_;refine Qk (Jls _) ?_;intro w5 b5 ag bn ba;refine clR (Jsw (o.ext ag) (Blk.rowV ba) (BoolsV.nil _ none 0) (Qhx _).1 om) ?_;rintro ap w6 ⟨b1,aq,_⟩;have e:enD vars rs v i k++((rs i).take (j+1)).map (λr=>[r.getD k V0])=(enD vars rs v i k++((rs i).take j).map λr=>[r.getD k V0])++[[((rs i).getD j []).getD k V0]]:=by grind [Qt,List.append_assoc]
    have bi:=Qhz (enD vars rs v i k++((rs i).take j).map λr=>[r.getD k V0]) [((rs i).getD j []).getD k V0];refine ρ ?_;refine Jl (j+1) ap sO ⟨lj,(G.trans ag).trans aq,by rw[e,Jth];exact b1,by rw[e];omega⟩ om
   have b2:j=(rs i).length:=by have:=oF h;omega
   subst b2;clear h;rw[List.take_length,<-O]at o J;refine ρ ?_;exact Jl (k+1) lv sO ⟨lk,C.trans G,o,om⟩ om
  have ab:k=(vars i).length:=by have:=oF h;omega
  subst ab;clear h;have e:(List.range (i+1)).flatMap (enI vars rs v)=enD vars rs v i (vars i).length:=by grind [enD,List.range_succ,enI]
  refine ρ ?_;refine Jl (i+1) lv sO ⟨U,Z,by rw[e];exact o,by rw[e];omega⟩ om
 have b3:i=m:=by have:=oF h;omega
 subst b3;clear h;have eR:Uj ((List.range i).flatMap (enI vars rs v))=Uo i vars rs v:=rfl;rw[eR]at o J;obtain⟨TA,tc,rfl,av,au,ao,a2,ac⟩:=o.parts;refine ρ ?_;refine Jo (fun (k:Nat) (vo:Value)=>[(5,.slice TA (Uo i vars rs v).length tc),(9,vo),(10,.int .i64 (k:Int))])
  (λk vo w'=>k<=(Uo i vars rs v).length/\Ext w2 w'/\Xl w' w2.heap.size vo ((Xc i vars rs v).take k)) (λk _=>(Uo i vars rs v).length-k) 0 (.slice none 0 0) sB
  ⟨Nat.zero_le _,Ext.refl _,Zy _ _ _ _⟩ ?_
 have ai:(Xc i vars rs v).length=(Uo i vars rs v).length:=by simp[Xc]
 rintro k vo w3 ⟨hk,C,ho⟩;refine ciR (λh=>?_) (λh=>?_)
 .have lk:k<(Uo i vars rs v).length:=by have:=oT h;omega
  clear h;obtain⟨xv,a7,a3⟩:=ac k lk;obtain⟨x,hx⟩:=Jpm (getD_mem' [] _ lk);rw[hx]at a3;obtain⟨XA,xc,rfl,af,ae,a1⟩:=id (a3.ext C);refine ixR k (a2.ext C) lk ?_;refine ldR ((a2.ext C).cell a7) ?_;refine Qp 3 0 a1 (by simp) ?_;refine Js (cs:=x.cells) (λq u hu=>RdR.cell (r:=[x]) a1 (i:=0) (by simp) hu) ?_;refine Qk (Xxs x) ?_;intro w4 b4 G bo a6;have bm:((Xc i vars rs v).take k).length=k:=by rw[List.length_take];omega
  refine ρ ?_;refine apb (m':=1) (news:=x.cells) EVv (Jk ho G) (a6.rd (n:=1) rfl) (V.one _) (by unfold maxLen;omega) om (C.trans G).size ?_;intro v5 w5 ay b6 bl;have e:(Xc i vars rs v).take (k+1)=(Xc i vars rs v).take k++[x]:=by
   rw[Qt V0 om];grind [Xc,V0,Uo,List.getD,List.getElem?_eq_getElem,lk]
  refine ρ ?_;refine Jl (k+1) v5 sO ⟨lk,Qg (C.trans G) b6 (Kh (Jk ho G)),?_⟩ om;rw[Xl,e,List.length_append,rowC_app',rowC_one''];exact ay
 have ab:k=(Uo i vars rs v).length:=by have:=oF h;omega
 rw[ab,<-ai,List.take_length]at ho;obtain⟨A3,c3,rfl,b7,_⟩:=Jy ho;refine ρ ?_;exact Jj ⟨⟨⟨A3,c3,rfl,b7,om,Rd.own ho⟩,om⟩,(a9.trans a8).trans C⟩
end
open Go.RowKit Pl Go.Wk
attribute [local irreducible] WM
variable {k s:Nat}
def Jvn(m:Nat)(vars:Nat->List Nat)(rs:Nat->List Row)(n f:Nat)(ds:List Bool): List Row:=((Xo m vars rs n).map (List.take f)).foldl (Zm ds) []
theorem Qvl(m:Nat)(vars:Nat->List Nat)(rs:Nat->List Row)(n f:Nat)(ds:List Bool): IsSet ds ((Xo m vars rs n).map (List.take f)) (Jvn m vars rs n f ds):=by
 have:=Jwx (ds:=ds) ((Xo m vars rs n).map (List.take f)) (done:=[]) (l:=[]) ⟨List.Pairwise.nil,λx=>Iff.rfl⟩;rwa [List.nil_append]at this
theorem Qlb(ds:List Bool)(l:List Row)(r:Row): (Zm ds l r).length<=l.length+1:=by
 unfold Zm;grind
section
variable {n f:Int} {pA VA RA:Option Addr} {pn pc vc rc N m:Nat} {vars:Nat->List Nat} {rs:Nat->List Row} {w:World}
theorem Jmd(hP:RefP N m vars rs)(hk:k<=N): (Xk m vars rs (List.range N) k).length<=5000:=nL (Qvb hP.asc hP.len hP.cov hk) hP.cnt
def Ym(m:Nat)(vars:Nat->List Nat)(rs:Nat->List Row)(vl:List Nat)(k:Nat)(r:Row)(j:Nat): List Row:=(((Xc m vars rs (vl.getD k 0)).take j).map λx=>r++[x]).filter (Ul m vars rs (vl.take (k+1)))
theorem Qhm(hP:RefP N m vars rs)(hM:RInM w VA RA m vars rs)(hs:s<4294967296)(hbk:bk s 32=List.range N):
  Ret Tryz.prog 154 [.agg (Vu n f pA pn pc VA vc RA rc m).toArray,.int .u32 (s:Int)] w λu w'=>RowsV w' u (Xo m vars rs N)/\Ext w w':=by
 have cx:=hP.m32;have cw:=hP.n32;refine enE Tryz.func154 Tryz.ntmps154 ?_;refine bxR (cs:=Vu n f pA pn pc VA vc RA rc m) ?_;intro w1 b a8 hb hB;refine clR (Qhk hs w1) ?_;rintro lv w2 ⟨bp,c6⟩;rw[hbk]at bp;obtain⟨LA,lc,rfl,cb,ca,bb⟩:=id bp.n;rw[List.length_range]at cb ca bb ⊢;refine Qk Jqt ?_;intro w3 b3 bi d6 d8;refine Qk (λw=>Jkd (.slice (some ⟨b3,0,none⟩) 0 0) w _ _ _ rfl) ?_;intro w4 b4 bh d5 cm;have bm:=(c6.trans bi).trans bh;have bl:=bi.trans bh;have h0:RowsV w4 (.slice (some ⟨b4,0,none⟩) 1 1) (Xk m vars rs (List.range N) 0):=⟨[(.slice (some ⟨b3,0,none⟩) 0 0,[])],_,_,rfl,rfl,by simp,by simp,cm.rd (n:=1) rfl,λp hp=>by
  rw[List.mem_singleton.1 hp];exact⟨_,_,rfl,by simp,by simp,Rd.nil⟩⟩
 refine ρ ?_;refine Jo (fun (i:Nat) (ov:Value)=>[(2,.pointer (some ⟨b,0,none⟩)),(5,.slice LA N lc),(6,ov),(7,.int .i64 (i:Int))])
  (λi ov w'=>i<=N/\Ext w4 w'/\RowsV w' ov (Xk m vars rs (List.range N) i)) (λi _=>N-i) 0 (.slice (some ⟨b4,0,none⟩) 1 1) sB ⟨Nat.zero_le _,Ext.refl _,h0⟩ ?_
 clear h0;rintro i ov w5 ⟨hi,b1,b7⟩;have G:=bm.trans b1;have ao:=bl.trans b1;have bz:=hB.ext G;refine ciR (λh=>?_) (λh=>?_)
 .have li:i<N:=by have:=oT h;omega
  clear h;have bq:=Jmd hP hi;have ag:=Jmd hP (show i+1<=N by omega);have ak:Ext w5 w5.drew:=(Ext.refl w5).drew;have bv:=bb.ext (ao.trans ak);have ba:(Je (nz (List.range N)))[i]?=some (.int .i64 (i:Int)):=by
   have:=Xg (cs:=List.range N) (show i<(List.range N).length by simpa using li);rwa [Jjv li]at this
  refine drR (scq 7 [5]) ?_;refine Qh (cs:=Vu n f pA pn pc VA vc RA rc m) (λj u hu=>(bz.ext ak).at hu) ?_;refine Jc i bv li ?_;refine Jz (bv.cell ba) ?_;refine Jh (Qhj hP (hM.ext (a8.trans (G.trans ak))) i) ?_;rintro xv w6 ⟨⟨c5,cz⟩,a4⟩;refine⟨a4,?_⟩;have a6:=ak.trans a4;obtain⟨OA,oc,rfl,d3,d2,cv,ck,cj⟩:=id (b7.ext a6).parts;obtain⟨XA,xc,rfl,d0,cy,ch⟩:=id c5;refine ρd ?_;refine ρ ?_;refine Jo (fun (k:Nat) (nv:Value)=>[(2,.pointer (some ⟨b,0,none⟩)),(5,.slice LA N lc),(6,.slice OA (Xk m vars rs (List.range N) i).length oc),(7,.int .i64 (i:Int)),(8,nv),(9,.slice XA (Xc m vars rs i).length xc),(10,.int .i64 (k:Int))])
   (λk nv w'=>k<=(Xk m vars rs (List.range N) i).length/\Ext w6 w'/\OwnR w' w6.heap.size nv (((Xk m vars rs (List.range N) i).take k).flatMap λr=>Ym m vars rs (List.range N) i r (Xc m vars rs i).length)) (λk _=>(Xk m vars rs (List.range N) i).length-k) 0 (.slice none 0 0) sB
   ⟨Nat.zero_le _,Ext.refl _,OwnR.nil _ _⟩ ?_
  rintro k nv Z ⟨J,C,a1⟩;refine ciR (λh=>?_) (λh=>?_)
  .have lk:k<(Xk m vars rs (List.range N) i).length:=by have:=oT h;omega
   clear h;obtain⟨r,hr⟩:∃ r,r=(Xk m vars rs (List.range N) i).getD k []:=⟨_,rfl⟩;have d1:r.length=i:=((Jcj hP.asc hP.len hP.cov i hi r).1 (by rw[hr];exact getD_mem' [] _ lk)).1;obtain⟨yv,c4,be⟩:=cj k lk;rw[<-hr]at be;obtain⟨YA,yc,rfl,cp,co,cg⟩:=id be;have b5:Jjq m vars rs (List.range N) i (Xk m vars rs (List.range N) i)=(Xk m vars rs (List.range N) i).flatMap λr=>Ym m vars rs (List.range N) i r (Xc m vars rs i).length:=by
    unfold Jjq Ym;rw[Jjv li,List.take_length]
   have Zs:∀ j,j<=(Xc m vars rs i).length->(((Xk m vars rs (List.range N) i).take k).flatMap (λr=>Ym m vars rs (List.range N) i r (Xc m vars rs i).length)++Ym m vars rs (List.range N) i r j).length<=5000:=λj hj=>by
    refine nL ?_ ag;rw[Xk,b5];conv=>rhs;rw[<-List.take_append_drop k (Xk m vars rs (List.range N) i),List.flatMap_append,List.length_append]
    rw[List.length_append];refine Nat.add_le_add_left ?_ _;have hd:(Xk m vars rs (List.range N) i).drop k=r::(Xk m vars rs (List.range N) i).drop (k+1):=by
     rw[hr];simp[List.getD,List.getElem?_eq_getElem lk]
    rw[hd,List.flatMap_cons,List.length_append];refine nL ?_ (Nat.le_add_right _ _);unfold Ym;refine List.Sublist.length_le (List.Sublist.filter _ (List.Sublist.map _ ?_));rw[Jjv li,List.take_length];exact List.take_sublist _ _
   refine ρ ?_;refine Jo (fun (j:Nat) (nv:Value)=>[(2,.pointer (some ⟨b,0,none⟩)),(5,.slice LA N lc),(6,.slice OA (Xk m vars rs (List.range N) i).length oc),(7,.int .i64 (i:Int)),(8,nv),(9,.slice XA (Xc m vars rs i).length xc),(10,.int .i64 (k:Int)),(11,.int .i64 (j:Int))])
    (λj nv w'=>j<=(Xc m vars rs i).length/\Ext w6 w'/\OwnR w' w6.heap.size nv (((Xk m vars rs (List.range N) i).take k).flatMap (λr=>Ym m vars rs (List.range N) i r (Xc m vars rs i).length)++Ym m vars rs (List.range N) i r j)) (λj _=>(Xc m vars rs i).length-j) 0 nv sB
    ⟨Nat.zero_le _,C,by simpa [Ym] using a1⟩ ?_
   clear a1 nv C Z;rintro j nv Z ⟨hj,C,a1⟩;refine ciR (λh=>?_) (λh=>?_)
   .have lj:j<(Xc m vars rs i).length:=by have:=oT h;omega
    clear h;obtain⟨x,hx⟩:∃ x,x=(Xc m vars rs i).getD j V0:=⟨_,rfl⟩;have bn:Ym m vars rs (List.range N) i r (j+1)=Ym m vars rs (List.range N) i r j++if Ul m vars rs ((List.range N).take (i+1)) (r++[x])=true then[r++[x]] else[]:=by
     unfold Ym;rw[Jjv li,Qt V0 lj,List.map_append,List.filter_append,<-hx];congr 1
     by_cases hf:Ul m vars rs ((List.range N).take (i+1)) (r++[x])=true
     .rw[if_pos hf];exact List.filter_cons_of_pos hf
     rw[if_neg hf];exact List.filter_cons_of_neg hf
    have az:Ext Z Z.drew:=(Ext.refl Z).drew;have a5:=C.trans az;have ai:=Rd.ext cg a5;have au:=Rd.ext ch a5;have av:=ck.ext a5;have xt:∀ {W:World},GrN (λk=>Z.drew.heap.size<=k) Z.drew W->Ext Z.drew W:=λh=>h.old (Ext.refl _) λk J=>J;refine ρ ?_;refine drM (λk=>Z.drew.heap.size<=k) ?_;refine Gw (fuel':=5) [(0,1),(0,2),(0,3),(0,4),(0,6),(0,7),(0,8),(0,9)] #[false,true,true,true,true,false,true,true,true,true,false,false,false] kr kr rfl ?_;refine ρn ?_;refine nix k av lk ?_;refine ρn ?_;refine nld (λw' hg=>(av.ext (xt hg)).cell c4) ?_;refine ρn ?_;refine Yp 3 j au om ?_;refine ρn ?_;refine Xr (cs:=x.cells) (λw' hg q u hu=>RdR.cell (Rd.ext au (xt hg)) lj (by rw[<-hx];exact hu)) ?_;refine ρn ?_;refine Gv ?_;refine mcut 2 (lst 13 11) (fun (q:Value×Nat)=>[(46,q.1),(51,.slice (some ⟨q.2,0,none⟩) 1 1),(2,.pointer (some ⟨b,0,none⟩)),(5,.slice LA N lc),(6,.slice OA (Xk m vars rs (List.range N) i).length oc),(7,.int .i64 (i:Int)),(8,nv),(9,.slice XA (Xc m vars rs i).length xc),(10,.int .i64 (k:Int)),(11,.int .i64 (j:Int))])
     (λq W=>Ext Z.drew W/\W.ownsRow Z.drew.heap.size 147 3 q.1 r.length (Jp r)/\Blk W q.2 147 x.cells) ?_ ?_
    .rintro⟨a7,aa⟩ W ⟨bf,b8,bw⟩;simp only at b8 bw;refine Yb 11 kr rfl rfl ?_;refine apb (m':=1) (news:=x.cells) EV b8 (bw.rd (n:=1) rfl) (V.one _) (by unfold maxLen;omega) om bf.size ?_;intro cr W2 a9 b9 c9;obtain⟨_,_,rfl,_,bs⟩:=Jy b8;have O:GrN (λk=>Z.drew.heap.size<=k) W W2:=GrN.by b9 λk J=>(bs k J).1
     have bj:=O.old bf λk J=>J;refine Jd (Xs O ?_);refine Gw (fuel':=0) [(0,12)] (lst 13 13) kr kr rfl ?_;refine ρn ?_;refine Gv ?_;refine mend kr ?_;have cn:Jp r++x.cells=Jp (r++[x]):=by rw[rowC_app',rowC_one'']
     have c3:r.length+1=(r++[x]).length:=by simp
     rw[cn,c3]at a9;obtain⟨bd,bc,rfl,bt,br⟩:=Jy a9;have c1:RowX W2 (own w6.heap.size nv) (.slice bd (r++[x]).length bc) (r++[x]):=by
      refine⟨bd,bc,rfl,bt,by simp;omega,Rd.own a9,λ_ ad e J=>?_⟩;have h1:=(br ad.block (by rw[e];simp[Value.ownBlock])).1;have h2:=a5.size;rcases J with J|J
      .omega
      have:=(a1.lt _ J).2;have:=az.size;omega
     have ay:Ext W2 W2.drew:=(Ext.refl W2).drew;have am:=(az.trans bj).trans ay;have an:=C.trans am;have ap:=G.trans (a6.trans an);have b2:=ao.trans (a6.trans an);have c7:IntsV W2.drew (.slice LA (i+1) lc) (nz ((List.range N).take (i+1))):=by
      have hl:((List.range N).take (i+1)).length=i+1:=by rw[List.length_take,List.length_range];omega
      refine⟨LA,lc,by rw[Qf,hl],by rw[Qf,hl];omega,by rw[Qf,hl];omega,?_⟩;have:=(bb.ext b2).take (m:=i+1) om;rw[Qf,hl];have e:(Je (nz (List.range N))).take ((i+1)*1)=Je (nz ((List.range N).take (i+1))):=by rw[Nat.mul_one];simp only[Je,nz,List.map_take]
      rw[e]at this;exact this
     refine ρ ?_;refine drN (λ_=>False) 10 (scq 7 [6]) kr ?_;refine ρn ?_;refine Xr (cs:=Vu n f pA pn pc VA vc RA rc m) (λw' hg j u hu=>((hB.ext ap).ext hg.toExt).at hu) ?_;refine ρn ?_;refine nslh (A:=LA) (m:=N) (c:=lc) (i+1) ?_ om;refine ρn ?_;refine nop ?_;refine cl (Jtf hP (hM.ext (a8.trans ap)) c7 (c1.v.ext ay) (λu hu=>by have:=List.mem_range.1 (List.mem_of_mem_take hu);omega) (by simp;omega)) ?_;rintro _ W3 ⟨rfl,ae⟩;refine ρ ?_;refine Ja (GrN.ext ae) ?_;refine ρn ?_;have a3:=am.trans ae;have aq:=a1.ext a3;refine ciR (λhf=>?_) (λhf=>?_)
     .refine Qk (λw=>Jkd (.slice bd (r++[x]).length bc) w _ _ _ rfl) ?_;intro W4 d9 ac cq c0;refine ρ ?_;refine appR (a:=w6) (C.trans (a3.trans ac)) ER (aq.ext ac) c0 ((((c1.ext ay).ext ae)).ext ac) (by have:=Zs j om;omega) ?_;intro c2 W5 bo bg _;refine ρ ?_;refine Jl (j+1) c2 sO ⟨lj,bg,?_⟩ om;rw[bn,if_pos hf,<-List.append_assoc];exact bo
     refine ρ ?_;refine Jl (j+1) nv sO ⟨lj,C.trans a3,?_⟩ om;rw[bn,if_neg (by rw[hf];simp),List.append_nil];exact aq
    intro rest;have ab:∀ {W:World} {g:Nat},Blk W g 147 ([]:List Value)->Z.drew.heap.size<=g->W.ownsRow Z.drew.heap.size 147 3 (.slice (some ⟨g,0,none⟩) 0 0) 0 []:=λhB hb=>hB.own (n:=0) hb rfl (Nat.zero_le _);refine Jzj 0 10 kr rfl rfl rfl ?_ ?_
    .refine Qk Jqt ?_;intro W1 b0 o a2 aj;refine Jd (Xs (GrN.ext o) ?_);refine Jzj 5 10 kr rfl rfl rfl ?_ ?_
     .refine apb (m':=r.length) (news:=Jp r) EV (ab aj a2) (ai.ext o) (Jyr r) (by unfold maxLen;omega) om o.size ?_;intro a7 W2 a9 b9 c9;rw[Nat.zero_add,List.nil_append]at a9;have O:GrN (λk=>Z.drew.heap.size<=k) W1 W2:=GrN.by b9 λk J=>by simp[Value.ownBlock]at J;omega
      refine Jd (Xs O ?_);refine Yb 10 kr rfl rfl ?_;refine bsl (Jvj x) ?_;intro W3 aa ax ar U;refine Jd (Xs (GrN.ext ax) ?_);refine Km (listed':=lst 13 11) kr ?_;exact rest (a7,aa) _ _ ⟨(O.old o λk J=>J).trans ax,Jk a9 ax,U⟩ sB
     refine Qk (Jvj x) ?_;intro W2 aa D ar U;refine Jd (Xs (GrN.ext D) ?_);refine Yb 5 kr rfl rfl ?_;refine apb (m':=r.length) (news:=Jp r) EV (ab (aj.ext D) a2) (ai.ext (o.trans D)) (Jyr r) (by unfold maxLen;omega) om (o.trans D).size ?_;intro a7 W3 af ah c8;rw[Nat.zero_add,List.nil_append]at af;have O:GrN (λk=>Z.drew.heap.size<=k) W2 W3:=GrN.by ah λk J=>by simp[Value.ownBlock]at J;omega
     refine Jd (Xs O ?_);refine Km (listed':=lst 13 11) kr ?_;refine rest (a7,aa) _ _ ⟨O.old (o.trans D) λk J=>J,af,U.grown ah ?_⟩ sB;have:=aj.lt;simp[Value.ownBlock];omega
    refine Qk (Jvj x) ?_;intro W1 aa o ar U;refine Jd (Xs (GrN.ext o) ?_);refine Yb 0 kr rfl rfl ?_;refine bsl Jqt ?_;intro W2 b0 D a2 aj;refine Jd (Xs (GrN.ext D) ?_);refine Yb 5 kr rfl rfl ?_;have bu:=nL o.size a2;refine apb (m':=r.length) (news:=Jp r) EV (ab aj bu) (ai.ext (o.trans D)) (Jyr r) (by unfold maxLen;omega) om (o.trans D).size ?_;intro a7 W3 af ah c8;rw[Nat.zero_add,List.nil_append]at af;have O:GrN (λk=>Z.drew.heap.size<=k) W2 W3:=GrN.by ah λk J=>by simp[Value.ownBlock]at J;omega
    refine Jd (Xs O ?_);refine Km (listed':=lst 13 11) kr ?_;refine rest (a7,aa) _ _ ⟨O.old (o.trans D) λk J=>J,af,(U.ext D).grown ah ?_⟩ sB;have:=U.lt;simp[Value.ownBlock];omega
   have cd:j=(Xc m vars rs i).length:=by have:=oF h;omega
   subst cd;clear h;refine ρ ?_;refine Jl (k+1) nv sO ⟨lk,C,?_⟩ om;rw[Qt [] lk,List.flatMap_append,<-hr];simpa using a1
  have cc:k=(Xk m vars rs (List.range N) i).length:=by have:=oF h;omega
  subst cc;clear h;rw[List.take_length]at a1;refine ρ ?_;refine Jl (i+1) nv sO ⟨li,(b1.trans a6).trans C,?_⟩ om;have e:Xk m vars rs (List.range N) (i+1)=(Xk m vars rs (List.range N) i).flatMap λr=>Ym m vars rs (List.range N) i r (Xc m vars rs i).length:=by
   rw[Xk];unfold Jjq Ym;rw[Jjv li,List.take_length]
  rw[e]at ag ⊢;exact a1.rows om
 have ce:i=N:=by have:=oF h;omega
 subst ce;clear h;have bq:=Jmd hP (nR i);refine ρ ?_;refine ki 68 (λh=>?_) (λh=>?_)
 .have h0:i=0:=by have:=Zx h;omega
  clear h;refine Js (cs:=Vu n f pA pn pc VA vc RA rc m) (λj u hu=>bz.at hu) ?_;refine Qk Jqt ?_;intro w6 b6 a4 d4 d7;refine clR (Jtf (vl:=[]) (r:=[]) hP (hM.ext (a8.trans (G.trans a4))) ⟨none,0,rfl,Nat.le_refl _,Nat.zero_le _,Rd.nil⟩ ⟨some ⟨b6,0,none⟩,0,rfl,Nat.le_refl _,Nat.zero_le _,Rd.nil⟩ (λu hu=>by cases hu) rfl) ?_;rintro _ Z ⟨rfl,C⟩;refine ρ ?_;subst h0;refine ci (λhf=>?_) (λhf=>?_)
  .have a2:Ul m vars rs [] []=false:=by cases hh:Ul m vars rs [] []<;>first|rfl|(rw[hh]at hf;cases hf)
   refine ρ ?_;refine Jj ⟨?_,(a8.trans G).trans (a4.trans C)⟩;unfold Xo;rw[if_pos rfl,a2];exact⟨[],none,0,rfl,rfl,Nat.le_refl _,Nat.zero_le _,Rd.nil,λp hp=>by cases hp⟩
  have a2:Ul m vars rs [] []=true:=by cases hh:Ul m vars rs [] []<;>first|rfl|(rw[hh]at hf;cases hf)
  refine ρ ?_;refine Jj ⟨?_,(a8.trans G).trans (a4.trans C)⟩;unfold Xo;rw[if_pos rfl,if_pos a2];exact b7.ext (a4.trans C)
 have h0:i≠0:=λe=>by have:=Xu h;omega
 clear h;refine ρ ?_;refine Jj ⟨?_,a8.trans G⟩;unfold Xo;rw[if_neg h0];exact b7
end
open Go.RowKit Pl Go.Wk
variable {ds:List Bool}{F N m:Nat}{dv:Value}
theorem Xkl(hN:N<=32): bk (2^N-1) 32=List.range N:=by
 have key:∀ k,bk (2^N-1) k=List.range (min k N):=by
  intro k;induction k with
  | zero=>rfl
  | succ k ih=>
   grind [Gg,Nat.testBit_two_pow_sub_one,Nat.min_eq_left,List.range_succ,Nat.min_eq_right]
 grind
theorem Qrn{vars:Nat->List Nat}{rs:Nat->List Row}(hP:RefP N m vars rs){z:Row}(hz:z∈Xo m vars rs N): z.length=N:=((Jhc hP.asc hP.len hP.lt hP.cov z).1 hz).1
section
variable {pA VA RA:Option Addr} {pn pc vc rc N m:Nat} {f:Int} {vars:Nat->List Nat} {rs:Nat->List Row} {w:World}
theorem Qhl(hP:RefP N m vars rs)(hM:RInM w VA RA m vars rs)(hN:N<=31):
  Ret Tryz.prog 102 [.agg (Vu (N:Int) f pA pn pc VA vc RA rc m).toArray] w λu w'=>RowsV w' u (Xo m vars rs N)/\Ext w w':=by
 refine enE Tryz.func102 Tryz.ntmps102 ?_;refine bxR (cs:=Vu (N:Int) f pA pn pc VA vc RA rc m) ?_;intro O b o U G;refine Js (cs:=Vu (N:Int) f pA pn pc VA vc RA rc m) (λj u D=>G.at D) ?_;refine ldR (G.at (i:=0) rfl) ?_;refine ρ ?_;refine Go.Wk.kv 6 (congrArg (λz=>Value.int .u64 z) (Uu (z:=(N:Int)) om)) ?_;refine Jrp (v:=N) om ?_;refine ρ ?_;have h1:1<=2^N:=Nat.pow_pos (by decide);have Z:=Kg (show N<32 by omega);have e:IntKind.u32.wrap (((2^N:Nat):Int)-1)=((2^N-1:Nat):Int):=by rw[IntKind.wrap_u32];omega
 refine Go.Wk.kv 8 (congrArg (λz=>Value.int .u32 z) e) ?_;refine cl (Qhm hP (hM.ext o) om (Xkl om)) ?_;rintro u J ⟨D,C⟩;refine ρ ?_;exact Jj ⟨D,o.trans C⟩
theorem Qhp(hP:RefP N m vars rs)(hM:RInM w VA RA m vars rs)(hN:N<=31)(hF:F<=N)(hd:BoolsV w dv ds):
  Ret Tryz.prog 50 [.agg (Vu (N:Int) (F:Int) pA pn pc VA vc RA rc m).toArray,dv] w λu w'=>RowsV w' u (Jvn m vars rs N F ds)/\Ext w w'/\Fresh w u:=by
 have am:(Xo m vars rs N).length<=5000:=nL (Qqt hP.asc hP.len hP.cov) hP.cnt;refine enE Tryz.func50 Tryz.ntmps50 ?_;refine bxR (cs:=Vu (N:Int) (F:Int) pA pn pc VA vc RA rc m) ?_;intro w1 b G hb hB;refine Js (cs:=Vu (N:Int) (F:Int) pA pn pc VA vc RA rc m) (λj u hu=>hB.at hu) ?_;refine clR (Qhl hP (hM.ext G) hN) ?_;rintro jv w2 ⟨hj,a2⟩;obtain⟨JA,jc,rfl,an,ak,ah,ab,aa⟩:=hj.parts;refine ρ ?_;refine Jo (fun (i:Nat) (U:Value)=>[(1,dv),(2,.pointer (some ⟨b,0,none⟩)),(5,U),(6,.slice JA (Xo m vars rs N).length jc),(7,.int .i64 (i:Int))])
  (λi U w'=>i<=(Xo m vars rs N).length/\Ext w2 w'/\Fresh w2 U/\RowsV w' U ((((Xo m vars rs N).take i).map (List.take F)).foldl (Zm ds) [])/\((((Xo m vars rs N).take i).map (List.take F)).foldl (Zm ds) []).length<=i) (λi _=>(Xo m vars rs N).length-i) 0 (.slice none 0 0) sB
  ⟨Nat.zero_le _,Ext.refl _,(λad n c e=>by cases e),⟨[],none,0,rfl,rfl,Nat.le_refl _,Nat.zero_le _,Rd.nil,λp hp=>by cases hp⟩,Nat.le_refl _⟩ ?_
 rintro i U w3 ⟨hi,C,J,O,aj⟩;have D:=a2.trans C;refine ciR (λh=>?_) (λh=>?_)
 .have li:i<(Xo m vars rs N).length:=by have:=oT h;omega
  clear h;obtain⟨xv,a6,Z⟩:=aa i li;obtain⟨z,hz⟩:∃ z,z=(Xo m vars rs N).getD i []:=⟨_,rfl⟩;have ai:z.length=N:=by grind [Qrn,getD_mem']
  rw[<-hz]at Z;obtain⟨XA,xc,rfl,ag,af,a9⟩:=id Z;have o:Ext w3 w3.drew:=(Ext.refl w3).drew;have a3:=Jwx (ds:=ds) (((Xo m vars rs N).take i).map (List.take F)) (done:=[]) (l:=[]) ⟨List.Pairwise.nil,λx=>Iff.rfl⟩;refine ρ ?_;refine drN (λ_=>False) 10 (scq 11 [9]) kr ?_;have a4:=ab.ext (C.trans o);have ac:=(hB.ext D).ext o;refine ρn ?_;refine nix i a4 li ?_;refine ρn ?_;refine nld (λw' hg=>(a4.ext hg.toExt).cell a6) ?_;refine ρn ?_;refine nld (Jr (ac.at (i:=1) rfl) (λe=>e)) ?_;refine ρn ?_;refine nslh (A:=XA) (m:=z.length) (c:=xc) F ?_ om;refine ρn ?_;refine nop ?_;have a7:RowV w3.drew (.slice XA F xc) (z.take F):=by
   have hl:(z.take F).length=F:=by rw[List.length_take];omega
   refine⟨XA,xc,by rw[hl],by rw[hl];omega,by rw[hl];omega,?_⟩;have:=(Rd.ext a9 (C.trans o)).take (m:=F) om;rw[Jfh z om]at this;grind
  refine cl (Jsw (O.ext o) a7 (hd.ext ((G.trans D).trans o)) a3.1 om) ?_;rintro a5 w4 ⟨h4,a1,ae⟩;refine ρ ?_;refine Ja (GrN.ext a1) ?_;refine ρn ?_;have e:(((Xo m vars rs N).take (i+1)).map (List.take F)).foldl (Zm ds) []=Zm ds ((((Xo m vars rs N).take i).map (List.take F)).foldl (Zm ds) []) (z.take F):=by grind [Qt]
  refine ρ ?_;refine Jl (i+1) a5 sO ⟨li,(C.trans o).trans a1,?_,by rw[e];exact h4,?_⟩ om
  .rcases ae with h'|h'
   .rw[h'];exact J
   exactλad n c e=>nL (C.trans o).size (h' ad n c e)
  grind [Qlb,Xo,List.take,Zm]
 have a8:i=(Xo m vars rs N).length:=by have:=oF h;omega
 rw[a8,List.take_length]at O;refine ρ ?_;exact Jj ⟨O,G.trans D,λad n c e=>nL (G.trans a2).size (J ad n c e)⟩
theorem Qhn(hP:RefP N m vars rs)(hM:RInM w VA RA m vars rs)(hN:N<=31)(hF:F<=N)(hd:BoolsV w dv ds):
  Ret Tryz.prog 50 [.agg (Vu (N:Int) (F:Int) pA pn pc VA vc RA rc m).toArray,dv] w λu w'=>RowsV w' u (Jvn m vars rs N F ds)/\Ext w w':=(Qhp hP hM hN hF hd).mono λu w' h=>⟨h.1,h.2.1⟩
end
open Go.RowKit Pl Go.Wk
def IntssV(w:World)(v:Value)(zss:List (List Int)): Prop:=∃ A c cs,v=.slice A zss.length c/\zss.length<=c/\zss.length<=1100000/\Rd w 1 A zss.length cs/\∀ i,i<zss.length->∃ u,cs[i]?=some u/\IntsV w u (zss.getD i [])
def RowssV(w:World)(v:Value)(rss:List (List Row)): Prop:=∃ A c cs,v=.slice A rss.length c/\rss.length<=c/\rss.length<=1100000/\Rd w 1 A rss.length cs/\∀ i,i<rss.length->∃ u,cs[i]?=some u/\RowsV w u (rss.getD i [])
theorem IntssV.ext{w w':World}{v:Value}{zss:List (List Int)}(h:IntssV w v zss)(hx:Ext w w'): IntssV w' v zss:=by
 obtain⟨A,c,cs,J,G,D,C,o⟩:=h;exact⟨A,c,cs,J,G,D,C.ext hx,λi hi=>by obtain⟨u,e,j⟩:=o i hi;exact⟨u,e,j.ext hx⟩⟩
theorem RowssV.ext{w w':World}{v:Value}{zss:List (List Row)}(h:RowssV w v zss)(hx:Ext w w'): RowssV w' v zss:=by
 obtain⟨A,c,cs,J,G,D,C,o⟩:=h;exact⟨A,c,cs,J,G,D,C.ext hx,λi hi=>by obtain⟨u,e,j⟩:=o i hi;exact⟨u,e,j.ext hx⟩⟩
structure Cse where
 n: Int
 f:Int
 ds:List Bool
 pm:List Int
 vs:List (List Int)
 rss:List (List Row)
def CseV(w:World)(cs:List Value)(c:Cse): Prop:=∃ dA dc pA pc vA vc rA rc,cs=[.int .i64 c.n,.int .i64 c.f,.slice dA c.ds.length dc,.slice pA c.pm.length pc,.slice vA c.vs.length vc,.slice rA c.rss.length rc] /\
 BoolsV w (.slice dA c.ds.length dc) c.ds/\IntsV w (.slice pA c.pm.length pc) c.pm/\IntssV w (.slice vA c.vs.length vc) c.vs/\RowssV w (.slice rA c.rss.length rc) c.rss/\(-9223372036854775808<=c.n/\c.n<=9223372036854775807)/\(-9223372036854775808<=c.f/\c.f<=9223372036854775807)
theorem CseV.ext{w w':World}{cs:List Value}{c:Cse}(h:CseV w cs c)(hx:Ext w w'): CseV w' cs c:=by
 obtain⟨U,O,pA,pc,i,vc,j,rc,J,G,D,C,u,o⟩:=h;exact⟨U,O,pA,pc,i,vc,j,rc,J,G.ext hx,D.ext hx,C.ext hx,u.ext hx,o⟩
structure FewP(c:Cse): Prop where
 row:∀ i,i<c.rss.length->(c.rss.getD i []).length<=10
 cnt:(Jg c.rss.length λi=>max 1 (c.rss.getD i []).length)<=5000
 n6:c.n<=6∨32<c.n
 v5:c.vs.length<=5
 r5:c.rss.length<=5
structure FewS(c:Cse): Prop where
 row:∀ i,i<c.rss.length->(c.rss.getD i []).length<=10
 cnt:(Jg c.rss.length λi=>max 1 (c.rss.getD i []).length)<=5000
 n6:c.n<=6
 v5:c.vs.length<=5
 r5:c.rss.length<=5
 v8:∀ i,i<c.vs.length->(c.vs.getD i []).length<=8
 d10:c.ds.length<=10
 p10:c.pm.length<=10
theorem Qtx{w:World}{cs:List Value}{c:Cse}(h:CseV w cs c): Ret Tryz.prog 10 [.agg cs.toArray] w λu w'=>Ext w w'/\∃ b:Bool,u=.bool b/\(b=true->FewP c)/\(FewS c->b=true):=by
 obtain⟨dA,dc,pA,pc,vA,vc,rA,rc,rfl,hD,hP,hV,hR,hn,hf⟩:=h;obtain⟨_,_,ac,e1,_,_,Z,aa⟩:=id hR;injection e1 with e1 e2 e3
 subst e1;subst e3;obtain⟨_,_,ab,e1,_,_,a5,a9⟩:=id hV;injection e1 with e1 e2 e3
 subst e1;subst e3;refine enE Tryz.func10 Tryz.ntmps10 ?_;refine bxR ?_;intro w1 b C hb G;refine ρ ?_;refine Jo (fun (i:Nat) (o:Nat)=>[(1,.pointer (some ⟨b,0,none⟩)),(2,.bool false),(3,.int .i64 (o:Int)),(4,.int .i64 (i:Int))])
  (λi o w'=>i<=6/\i<=c.rss.length/\w'=w1/\o=(Jg i λi=>max 1 (c.rss.getD i []).length)/\o<=10^i/\∀ j,j<i->(c.rss.getD j []).length<=10) (λi _=>6-i) 0 1 sB ⟨om,Nat.zero_le _,rfl,rfl,by simp,λj hj=>om⟩ ?_
 rintro i o w2 ⟨h6,hi,rfl,O,a4,a1⟩;refine ldR (G.at (i:=5) rfl) ?_;refine ρ ?_;refine Yw (fun (t:Bool)=>[(14,.bool t),(1,.pointer (some ⟨b,0,none⟩)),(2,.bool false),(3,.int .i64 (o:Int)),(4,.int .i64 (i:Int))]) (λt w3=>w3=w2/\(t=true↔i<c.rss.length/\i<6)) ?_ ?_
 .refine ki 11 (λh=>?_) (λh=>?_)
  .have:=oT h;refine ρ ?_;refine Jf (decide ((i:Int)<6)) sB ⟨rfl,?_⟩;rw[decide_eq_true_eq];omega
  have:=oF h;refine ρ ?_;refine Jf false sB ⟨rfl,?_⟩;grind
 rintro t w3 ⟨rfl,ht⟩;refine ciR (λh=>?_) (λh=>?_)
 .obtain⟨li,l6⟩:=ht.1 h;clear h;obtain⟨ru,a3,a8⟩:=aa i li;obtain⟨TA,tc,rfl,_,_,_⟩:=id (a8.ext C).parts;refine ldR (G.at (i:=5) rfl) ?_;refine ixR i (Z.ext C) li ?_;refine ldR ((Z.ext C).cell a3) ?_;refine ciR (λh=>?_) (λh=>?_)
  .refine ρ ?_;exact Jj ⟨C,false,rfl,λh=>(by cases h),λD=>by have h1:=D.row i li;grind⟩
  have ad:(c.rss.getD i []).length<=10:=by have:=oF h;omega
  clear h;refine ldR (G.at (i:=5) rfl) ?_;refine ixR i (Z.ext C) li ?_;refine ldR ((Z.ext C).cell a3) ?_;refine ρ ?_;have ae:(if(1:Int)<((c.rss.getD i []).length:Int) then((c.rss.getD i []).length:Int) else 1)=((max 1 (c.rss.getD i []).length:Nat):Int):=by
   split<;>omega
  have a2:o<=100000:=nL a4 (Nat.pow_le_pow_right (by decide) (show i<=5 by omega));have af:o*max 1 (c.rss.getD i []).length<=o*10:=Nat.mul_le_mul_left _ om;have e:IntKind.i64.wrap ((o:Int)*(if(1:Int)<((c.rss.getD i []).length:Int) then((c.rss.getD i []).length:Int) else 1))=((o*max 1 (c.rss.getD i []).length:Nat):Int):=by grind [Int.natCast_mul,Kr]
  rw[e];refine Jl (i+1) (o*max 1 (c.rss.getD i []).length) sO ⟨om,om,rfl,?_,?_,λj hj=>?_⟩ om;repeat grind [Jg,Nat.pow_succ,Nat.mul_le_mul]
 have ag:¬ (i<c.rss.length/\i<6):=by grind
 clear h ht;refine ciR (λh=>?_) (λh=>?_)
 .refine ρ ?_;exact Jj ⟨C,false,rfl,λh=>(by cases h),λD=>by
   have h1:=D.cnt;have h2:=D.r5;grind⟩
 have a2:o<=5000:=by grind
 clear h;refine ρ ?_;refine Qy (fun (k:Nat)=>[(1,.pointer (some ⟨b,0,none⟩)),(2,.bool false),(5,.int .i64 (k:Int))])
  (λk w'=>k<=6/\k<=c.vs.length/\w'=w3) (λk=>6-k) 0 sB ⟨om,Nat.zero_le _,rfl⟩ ?_
 rintro k w4 ⟨k6,hk,rfl⟩;refine ldR (G.at (i:=4) rfl) ?_;refine ρ ?_;refine Yw (fun (t:Bool)=>[(43,.bool t),(1,.pointer (some ⟨b,0,none⟩)),(2,.bool false),(5,.int .i64 (k:Int))]) (λt w5=>w5=w4/\(t=true->k<c.vs.length/\k<6)) ?_ ?_
 .refine ki 40 (λh=>?_) (λh=>?_)
  .have:=oT h;refine ρ ?_;refine Jf (decide ((k:Int)<6)) sB ⟨rfl,?_⟩;rw[decide_eq_true_eq];omega
  refine ρ ?_;exact Jf false sB ⟨rfl,λh=>by cases h⟩
 rintro t w5 ⟨rfl,ht⟩;refine ciR (λh=>?_) (λh=>?_)
 .obtain⟨lk,l6⟩:=ht h;clear h;obtain⟨vu,a6,a7⟩:=a9 k lk;obtain⟨QA,qc,rfl,_⟩:=id a7;refine ldR (G.at (i:=4) rfl) ?_;refine ixR k (a5.ext C) lk ?_;refine ldR ((a5.ext C).cell a6) ?_;refine ciR (λh=>?_) (λh=>?_)
  .refine ρ ?_;exact Jj ⟨C,false,rfl,λh=>(by cases h),λD=>by have h1:=D.v8 k lk;grind⟩
  refine ρ ?_;exact Qw (k+1) sO ⟨om,om,rfl⟩ om
 clear h ht;refine ldR (G.at (i:=0) rfl) ?_;refine ρ ?_;refine ki 56 (λh=>?_) (λh=>?_)
 .have hN:c.n<=6:=oT h;clear h;refine ldR (G.at (i:=4) rfl) ?_;refine ρ ?_;refine ki 67 (λh4=>?_) (λh4=>?_)
  .refine ldR (G.at (i:=5) rfl) ?_;refine ρ ?_;refine ki 73 (λh5=>?_) (λh5=>?_)
   .have r5:c.rss.length<=5:=by have:=oT h5;omega
    have v5:c.vs.length<=5:=by grind
    have ir:i=c.rss.length:=om
    have U:FewP c:=⟨λj hj=>a1 j om,by rw[<-ir,<-O];exact a2,.inl hN,v5,r5⟩;refine ldR (G.at (i:=2) rfl) ?_;refine ρ ?_;refine ki 79 (λh6=>?_) (λh6=>?_)
    .refine ldR (G.at (i:=3) rfl) ?_;refine ρ ?_;exact Jj ⟨C,decide ((c.pm.length:Int)<=10),rfl,λ_=>U,λD=>by have:=D.p10;grind⟩
    refine ρ ?_;exact Jj ⟨C,false,rfl,λh=>(by cases h),λD=>by have h1:=D.d10;grind⟩
   refine ρ ?_;exact Jj ⟨C,false,rfl,λh=>(by cases h),λD=>by have h1:=D.r5;grind⟩
  refine ρ ?_;exact Jj ⟨C,false,rfl,λh=>(by cases h),λD=>by have h1:=D.v5;grind⟩
 have J:¬ c.n<=6:=oF h;clear h;refine ldR (G.at (i:=0) rfl) ?_;refine ρ ?_;refine ki 61 (λh=>?_) (λh=>?_)
 .have hN:32<c.n:=oT h;clear h;refine ldR (G.at (i:=4) rfl) ?_;refine ρ ?_;refine ki 67 (λh4=>?_) (λh4=>?_)
  .refine ldR (G.at (i:=5) rfl) ?_;refine ρ ?_;refine ki 73 (λh5=>?_) (λh5=>?_)
   .have r5:c.rss.length<=5:=by have:=oT h5;omega
    have v5:c.vs.length<=5:=by grind
    have ir:i=c.rss.length:=om
    have U:FewP c:=⟨λj hj=>a1 j om,by rw[<-ir,<-O];exact a2,.inr hN,v5,r5⟩;refine ldR (G.at (i:=2) rfl) ?_;refine ρ ?_;refine ki 79 (λh6=>?_) (λh6=>?_)
    .refine ldR (G.at (i:=3) rfl) ?_;refine ρ ?_;exact Jj ⟨C,decide ((c.pm.length:Int)<=10),rfl,λ_=>U,λD=>absurd D.n6 J⟩
    refine ρ ?_;exact Jj ⟨C,false,rfl,λh=>(by cases h),λD=>absurd D.n6 J⟩
   refine ρ ?_;exact Jj ⟨C,false,rfl,λh=>(by cases h),λD=>absurd D.n6 J⟩
  refine ρ ?_;exact Jj ⟨C,false,rfl,λh=>(by cases h),λD=>absurd D.n6 J⟩
 refine ρ ?_;exact Jj ⟨C,false,rfl,λh=>(by cases h),λD=>absurd D.n6 J⟩
end Go.Proofs.YtgobkbeokaaplaaGreatDoor
namespace Go.Wk
open Go.RowKit
variable {b bytes d n t ty:Nat}
section
variable {α:Type} {E:TypeId} {sz base:Nat} {Φ:World->List Value->α->Prop} {N0:Nat->Prop} {w w':World} {v:Value} {ls:List α}
def OwnM(E:TypeId)(sz:Nat)(Φ:World->List Value->α->Prop)(N0:Nat->Prop)(w:World)(base:Nat)(v:Value)(ls:List α): Prop :=
 ∃ ps:List (List Value×α),ls=ps.map (·.2)/\w.ownsRow base E sz v ps.length (Ql ps)/\∀ p∈ps,p.1.length=sz/\Off (λk=>N0 k∨v.ownBlock=some k) w (λu=>Φ u p.1 p.2)
theorem OwnM.nil(w:World)(base:Nat): OwnM E sz Φ N0 w base (.slice none 0 0) []:=⟨[],rfl,Zy _ _ _ _,λp i=>by cases i⟩
theorem OwnM.gr(h:OwnM E sz Φ N0 w base v ls)(hg:GrN N0 w w')(hN:∀ g,v.ownBlock=some g->¬ N0 g): OwnM E sz Φ N0 w' base v ls:=by
 obtain⟨ps,C,u,j⟩:=h;exact⟨ps,C,Jt u hg hN,λp i=>⟨(j p i).1,(j p i).2.gr (hg.mono λk _ o=>.inl o)⟩⟩
theorem OwnM.ext(h:OwnM E sz Φ N0 w base v ls)(hx:Ext w w'): OwnM E sz Φ N0 w' base v ls:=by
 obtain⟨ps,u,o,j⟩:=h;exact⟨ps,u,Jk o hx,λp i=>⟨(j p i).1,(j p i).2.ext hx⟩⟩
theorem OwnM.form(h:OwnM E sz Φ N0 w base v ls): ∃ A c,v=.slice A ls.length c/\ls.length<=c/\∀ g,v.ownBlock=some g->base<=g/\g<w.heap.size:=by
 obtain⟨ps,rfl,j,i⟩:=h;grind [Jy]
theorem OwnM.gv(h:OwnM E sz Φ N0 w base v ls)(hm:ls.length<=1100000): GV sz Φ w v ls:=by
 obtain⟨ps,rfl,o,j⟩:=h;obtain⟨A,c,rfl,u,C⟩:=Jy o;exact⟨ps,A,c,rfl,rfl,u,by simpa using hm,Rd.own o,λp i=>⟨(j p i).1,(j p i).2.here⟩⟩
theorem apM{P:Program}{al:AL}{Q:Exit->Act->World->Prop}{ops:Array Oper}{rest:List Oper}{pos:String}{aft:Array Edge}{z:Value}(hE:ElT P t E sz bytes z){x y:Operand}{cs:List Value}{a:α}(ho:OwnM E sz Φ N0 w base v ls)(hb:Blk w b E cs)(hl:cs.length=sz)(h1:∀ u∈cs,u.oneCell'=true)(hΦ:Off (λk=>N0 k∨v.ownBlock=some k) w (λu=>Φ u cs a))(hm:ls.length<=1100000)(hby:bytes<=128)(hbase:base<=w.heap.size)(kk:∀ v' w',OwnM E sz Φ N0 w' base v' (ls++[a])->w.grownBy w' v.ownBlock->(∀ g,v'.ownBlock=some g->v.ownBlock=some g∨w.heap.size<=g)->WL P n ops Q rest ((d,v')::al) w')(hx:ev al x=some v:=by rfl)(hy:ev al y=some (.slice (some ⟨b,0,none⟩) 1 1):=by rfl)(hd:Nat.blt d n=true:=by rfl):
  WL P n ops Q (⟨some d,.call { callee:=.builtin .append,args:=#[x,y],argTypes:=#[t,t] },ty,pos,aft,none⟩::rest) al w:=by
 obtain⟨ps,e,Z,O⟩:=ho;have U:ps.length<=1100000:=by rw[e,List.length_map]at hm;exact hm
 have a1:(ps.length+1)*bytes<=1100001*128:=Nat.mul_le_mul om hby;refine apb hE Z (hb.rd (n:=1) om) h1 (by unfold maxLen;omega) om hbase ?_ hx hy hd;intro v' w' J D C;have j:∀ {Ψ:World->Prop},Off (λk=>N0 k∨v.ownBlock=some k) w Ψ->Off (λk=>N0 k∨v'.ownBlock=some k) w' Ψ:=fun {Ψ} h W hW=>by
  refine h W ?_;have h1:GrN (λk=>(N0 k∨v.ownBlock=some k)∨w.heap.size<=k) w W:=(GrN.by D λk o=>.inl (.inr o)).trans (hW.mono λk _ o=>by
   rcases o with o|o
   .exact .inl (.inl o)
   rcases C k o with i|i
   .exact .inl (.inr i)
   exact .inr i)
  exact h1.mono λk o h=>h.elim id λi=>by omega
 refine kk v' w' ⟨ps++[(cs,a)],by rw[e];simp,?_,λp G=>?_⟩ D C
 .have e2:Ql (ps++[(cs,a)])=Ql ps++cs:=by simp[Ql]
  rw[List.length_append,e2];exact J
 rcases List.mem_append.1 G with i|i
 .exact⟨(O p i).1,j (O p i).2⟩
 rw[List.mem_singleton.1 i];exact⟨hl,j hΦ⟩
end
end Go.Wk
namespace Go.Proofs.YtgobkbeokaaplaaGreatDoor
open Go.RowKit Pl Go.Wk _root_.Go.Proofs.Tryz
attribute [local irreducible] WC WL QX WD WDB WP WN WG WH WM
variable {w w0:World}
theorem zRin: Qa prog 116=some (.agg #[.int .i64 0,.int .i64 0,.slice none 0 0,.slice none 0 0,.slice none 0 0]):=kr
theorem Xzn(n f:Int)(A B C:Option Addr)(a a' b b' c c':Nat)(w:World): (Instr.build 116 #[(0,.int .i64 n),(1,.int .i64 f),(2,.slice A a a'),(3,.slice B b b'),(4,.slice C c c')]).run prog w=.ok (.agg #[.int .i64 n,.int .i64 f,.slice A a a',.slice B b b',.slice C c c']) w:=kr
theorem Jkj: Qa prog 33=some (.agg #[.int .i64 0,.int .i64 0,.slice none 0 0,.slice none 0 0,.slice none 0 0]):=kr
theorem Xzv(n f:Int)(A B:Option Addr)(a a' b b':Nat)(w:World): (Instr.build 33 #[(0,.int .i64 n),(1,.int .i64 f),(2,.slice A a a'),(3,.slice B b b')]).run prog w=.ok (.agg #[.int .i64 n,.int .i64 f,.slice A a a',.slice B b b',.slice none 0 0]) w:=kr
theorem Qhc{n f:Int}{dA pA vA rA:Option Addr}{d dc p pc v vc r rc:Nat}:
  Ret prog 51 [.agg #[.int .i64 n,.int .i64 f,.slice dA d dc,.slice pA p pc,.slice vA v vc,.slice rA r rc]] w λu w'=>u=.agg #[.int .i64 n,.int .i64 f,.slice pA p pc,.slice vA v vc,.slice rA r rc]/\Ext w w':=by
 refine enE func51 ntmps51 ?_;refine bxR ?_;intro w1 b C hb Z;refine Jv zRin ?_;intro w2 b2 o G O;have j:=Z.ext o;refine ldR (j.at (i:=0) rfl) ?_;refine ldR (j.at (i:=1) rfl) ?_;refine ldR (j.at (i:=3) rfl) ?_;refine ldR (j.at (i:=4) rfl) ?_;refine ldR (j.at (i:=5) rfl) ?_;refine Zj (Xzn _ _ _ _ _ _ _ _ _ _ _ _) ?_;refine Xn O ?_;intro w3 J U D;refine ρ ?_;exact Gu J ⟨rfl,D w (C.trans o) (nL C.size G)⟩
structure MkA(a:Atm)(zs:List Int)(rows:List Row): Prop where
 vars:a.vars=zs
 ar:a.ar=zs.length
 l32:zs.length<=32
 ok:∀ r∈rows,r.length=zs.length/\r.all Xf=true
 len:a.rows.length<=65536
 sub:∀ x∈a.rows,x∈rows
 set:rows.length<=12->IsSet [] rows a.rows
structure MkS(c:Cse): Prop where
 len:c.vs.length=c.rss.length
 l32:∀ i,i<c.vs.length->(c.vs.getD i []).length<=32
 ok:∀ i,i<c.vs.length->∀ r∈c.rss.getD i [],r.length=(c.vs.getD i []).length/\r.all Xf=true
 row:∀ i,i<c.vs.length->(c.rss.getD i []).length<=65536
theorem Qpc{cs:List Value}{c:Cse}(h:CseV w0 cs c)(h00:Ext w0 w): Ret prog 9 [.agg cs.toArray] w λu w'=>Ext w w'/\∃(dA pA aA:Option Addr) (dc pc ac an:Nat) (ok:Bool),u=.tuple #[.agg #[.int .i64 c.n,.int .i64 c.f,.slice dA c.ds.length dc,.slice pA c.pm.length pc,.slice aA an ac],.bool ok] /\
  BoolsV w0 (.slice dA c.ds.length dc) c.ds/\IntsV w0 (.slice pA c.pm.length pc) c.pm/\(ok=true->c.vs.length=c.rss.length/\∃ ats:List Atm,ats.length=c.vs.length/\Off (λk=>w0.heap.size<=k/\k<w.heap.size) w' (λu=>GV 3 AtG u (.slice aA an ac) ats)/\∀ i,i<c.vs.length->MkA (ats.getD i a0) (c.vs.getD i []) (c.rss.getD i []))/\(MkS c->ok=true):=by
 obtain⟨dA,dc,pA,pc,vA,vc,rA,rc,rfl,hD,hP,d0,hR,hn,hf⟩:=h;have hV:=d0;obtain⟨_,_,co,e1,_,de,cb,c8⟩:=id hR;injection e1 with e1 e2 e3
 subst e1;subst e3;obtain⟨_,_,d8,e1,_,db,c7,cz⟩:=id hV;injection e1 with e1 e2 e3
 subst e1;subst e3;have d2:=cb.ext h00;have bj:=c7.ext h00;have d1:∀ i,i<c.rss.length->∃ u,co[i]?=some u/\RowsV w u (c.rss.getD i []):=λi hi=>by obtain⟨u,e,hu⟩:=c8 i hi;exact⟨u,e,hu.ext h00⟩
 refine enE func9 ntmps9 ?_;refine bxR ?_;intro w1 b a9 hb hB;refine Jv Jkj ?_;intro w2 b2 au bi cm;have aa:=hB.ext au;refine ldR (aa.at (i:=0) rfl) ?_;refine ldR (aa.at (i:=1) rfl) ?_;refine ldR (aa.at (i:=2) rfl) ?_;refine ldR (aa.at (i:=3) rfl) ?_;refine Zj (Xzv _ _ _ _ _ _ _ _ _) ?_;refine Jv Jkj ?_;intro w3 G cr c1 d6;refine Xn d6 ?_;intro w4 a7 dm cq;have ad:Ext w2 w4:=cq w2 cr c1;have a1:=(a9.trans au).trans ad;have c2:¬ b=G:=λe=>by have:=aa.lt;omega
 have az:¬ b2=G:=λe=>by have:=cm.lt;omega
 have b9:=aa.ext ad;have ao:=cm.ext ad;refine ρ ?_;refine Jo (fun (i:Nat) (av:Value)=>[(1,.pointer (some ⟨b,0,none⟩)),(2,.pointer (some ⟨b2,0,none⟩)),(3,.bool false),(4,.pointer (some ⟨G,0,none⟩)),(5,.int .i64 (i:Int))])
  (λi av w'=>i<=c.vs.length/\i<=c.rss.length/\GrN (λk=>k=G) w4 w'/\Blk w' G 33 [.int .i64 c.n,.int .i64 c.f,.slice dA c.ds.length dc,.slice pA c.pm.length pc,av]/\∃ ats:List Atm,ats.length=i/\OwnM 134 3 AtG (λk=>(k=b2∨k=G)∨(w0.heap.size<=k/\k<w.heap.size)) w' w4.heap.size av ats/\∀ j,j<i->MkA (ats.getD j a0) (c.vs.getD j []) (c.rss.getD j [])) (λi _=>c.vs.length-i) 0 (.slice none 0 0) sB
  ⟨Nat.zero_le _,Nat.zero_le _,GrN.refl _ _,a7,[],rfl,OwnM.nil _ _,λj hj=>om⟩ ?_
 rintro i av w5 ⟨dj,dk,ag,ak,ats,c4,ai,hmk⟩;have Z:=Jb b9 ag c2;have am:=Jb ao ag az;have aq:Ext w w5:=ag.old a1 λk o=>by rw[o];have:=(a9.trans au).size;omega
 refine ldR (Z.at (i:=4) rfl) ?_;refine ρ ?_;refine Yw (fun (t:Bool)=>[(28,.bool t),(1,.pointer (some ⟨b,0,none⟩)),(2,.pointer (some ⟨b2,0,none⟩)),(3,.bool false),(4,.pointer (some ⟨G,0,none⟩)),(5,.int .i64 (i:Int))]) (λt w6=>w6=w5/\(t=true↔i<c.vs.length/\i<c.rss.length)) ?_ ?_
 .refine ki 22 (λh=>?_) (λh=>?_)
  .have:=oT h;refine ldR (Z.at (i:=5) rfl) ?_;refine ρ ?_;refine Jf (decide ((i:Int)<(c.rss.length:Int))) sB ⟨rfl,?_⟩;rw[decide_eq_true_eq];omega
  have:=oF h;refine ρ ?_;refine Jf false sB ⟨rfl,?_⟩;constructor
  .intro h;cases h
  omega
 rintro t w6 ⟨rfl,ht⟩;refine ciR (λh=>?_) (λh=>?_)
 .obtain⟨lv,lr⟩:=ht.1 h;clear h;obtain⟨vu,bo,bp⟩:=cz i lv;obtain⟨ru,cv,bb⟩:=d1 i lr;obtain⟨QA,qc,rfl,dg,df,dh⟩:=id bp;have D:Ext w6 w6.drew:=(Ext.refl w6).drew;have J:=aq.trans D;have cg:=Z.ext D;have c6:=bj.ext J;have ca:=d2.ext J;obtain⟨TA,tc,rfl,_,_,_⟩:=id (bb.ext J).parts;refine ρ ?_;refine drH (λi=>Nat.ble 16 i) ?_;refine Zs (fuel':=7) 8 [(0,0),(0,1),(0,2),(0,3),(0,4),(0,5),(0,6),(0,7),(0,8),(0,9),(0,10)] (lst 18 11) kr kr rfl ?_;refine Jz (cg.at (i:=4) rfl) ?_;refine Jc i c6 lv ?_;refine Jz (c6.cell bo) ?_;refine Jz (cg.at (i:=5) rfl) ?_;refine Jc i ca lr ?_;refine Jz (ca.cell cv) ?_;refine ρd ?_;refine Xy ?_;refine Jwt 2 (lst 18 16) (fun (q:Value×Int×Nat)=>[(44,q.1),(45,.int .i64 q.2.1),(6,.pointer (some ⟨q.2.2,0,none⟩)),(1,.pointer (some ⟨b,0,none⟩)),(2,.pointer (some ⟨b2,0,none⟩)),(3,.bool false),(4,.pointer (some ⟨G,0,none⟩)),(5,.int .i64 (i:Int))])
   (λq W=>Ext w6.drew W/\Blk W q.2.2 130 [.int .i64 0,.slice none 0 0]/\w6.drew.heap.size<=q.2.2/\(∃ z B m d,q.1=.agg #[.int .i64 z,.slice B m d])/\((c.vs.getD i []).length<=32->(∀ r∈c.rss.getD i [],r.length=(c.vs.getD i []).length/\r.all Xf=true)->(c.rss.getD i []).length<=65536->q.2.1=0) /\
    (q.2.1=0->(c.vs.getD i []).length<=32/\(∀ r∈c.rss.getD i [],r.length=(c.vs.getD i []).length/\r.all Xf=true)/\∃ m,Off (λk=>k<w6.drew.heap.size∨k=q.2.2) W (λu=>RelV u q.1 (c.vs.getD i []).length m)/\m.length<=65536/\(∀ x∈m,x∈c.rss.getD i [])/\(((c.rss.getD i []).length<=12∨Srt [] (c.rss.getD i []))->IsSet [] (c.rss.getD i []) m))) ?_ ?_
  .rintro⟨rv,e,b6⟩ W ⟨cp,cj,c0,⟨z,B,mm,dd,cn⟩,O,U⟩;simp only at cj c0 O U cn;subst cn;refine Zs (fuel':=0) 8 [(2,16),(2,17)] (lst 18 18) kr kr rfl ?_;refine Qj ?_;refine stb (cs':=[.int .i64 z,.slice B mm dd]) cj ?_ Yn;intro W2 ch bu bn;refine Jd (Qu ?_);refine Qj ?_;refine ρ ?_;refine Qu ?_;refine Zc (Xy ?_);refine Uw kr ?_;have C:Ext w6 W2:=bn w6 (D.trans cp) (nL D.size c0);have bg:GrN (λk=>k=b6) W W2:=GrN.by bu λk o=>by injection o with o;exact o.symm
   have b7:=ak.ext C;refine ciR (λh=>?_) (λh=>?_)
   .refine Qq b7 ?_;obtain⟨AA,ac,ap,_,_⟩:=ai.form;subst ap;refine Xn (am.ext C) ?_;intro W3 bl bw ab;have ba:Ext w W3:=ab w (aq.trans C) (nL a9.size bi);refine ρ ?_;exact Vz bl ⟨ba,dA,pA,AA,dc,pc,ac,ats.length,false,rfl,hD,hP,λh=>(by cases h),λhS=>absurd (O (hS.l32 i lv) (hS.ok i lv) (hS.row i lv)) (Kl h)⟩
   have he:e=0:=Jqc h;clear h;obtain⟨bq,br,m,bs,cx,be,bf⟩:=U he;have bd:=bs.gr (bg.mono λk _ o=>(.inr o:k<w6.drew.heap.size∨k=b6));obtain⟨AA,ac,ap,c5,a3⟩:=ai.form;subst ap;have af:∀ g,(Value.slice AA ats.length ac).ownBlock=some g->w4.heap.size<=g:=λg e=>(a3 g e).1;have a2:Ext W2 W2.drew:=(Ext.refl W2).drew;have b5:=b7.ext a2;have cd:=(ai.ext C).ext a2;have ae:Ext w W2.drew:=(aq.trans C).trans a2;have d4:=(Z.ext C).ext a2;have ck:=ch.ext a2;obtain⟨da,_,cw,_⟩:=id cd;have n4:¬ (Value.slice AA ats.length ac).ownBlock=some G:=λe=>by have:=af G e;have:=a7.lt;omega
   have n1:¬ (Value.slice AA ats.length ac).ownBlock=some b:=λe=>by have:=af b e;have:=b9.lt;omega
   have n6:¬ (Value.slice AA ats.length ac).ownBlock=some b6:=λe=>by have:=(a3 b6 e).2;have:=D.size;omega
   have d3:∀ {W'},GrN (λk=>(Value.slice AA ats.length ac).ownBlock=some k) W2.drew W'->Ext w W':=λhg=>hg.old ae λk o=>by have:=af k o;have:=a1.size;omega
   refine ρ ?_;refine drN (λk=>(Value.slice AA ats.length ac).ownBlock=some k) 10 (scq 13 [9,10,112]) kr ?_;refine ρn ?_;refine nld (Jr (b5.at (i:=4) rfl) n4) ?_;refine ρn ?_;refine nld (Jr (d4.at (i:=4) rfl) n1) ?_;refine ρn ?_;refine nix i (bj.ext ae) lv ?_;refine ρn ?_;refine nld (λw' hg=>(bj.ext (d3 hg)).cell bo) ?_;refine ρn ?_;refine Xr (cs:=[.int .i64 z,.slice B mm dd]) (λw' hg j u hu=>(Jb ck hg n6).at hu) ?_;refine ρn ?_;refine Jqf (λw=>Qwm _ _ _ _ _ _ _ w) ?_;refine ρn ?_;refine nop ?_;refine bsl (λw=>Jlv _ _ _ QA B _ qc _ dd _ rfl rfl rfl w) ?_;intro W3 b8 a4 dt d5;refine ρ ?_;refine Ja (GrN.ext a4) ?_;refine nop ?_;have bc:=(bd.ext a2).ext a4;have hΦ:Off (λk=>((k=b2∨k=G)∨(w0.heap.size<=k/\k<w.heap.size))∨(Value.slice AA ats.length ac).ownBlock=some k) W3 (λu=>AtG u [.slice QA (c.vs.getD i []).length qc,.int .i64 z,.slice B mm dd] ⟨c.vs.getD i [],(c.vs.getD i []).length,m⟩):=by
    intro W' bz;have h1:IntsV W' (.slice QA (c.vs.getD i []).length qc) (c.vs.getD i []):=bp.ext (bz.old (h00.trans (ae.trans a4)) λk o=>by
     rcases o with((o|o)|o)|o
     .rw[o];exact nL (h00.trans a9).size bi
     .rw[o];exact nL (h00.trans (a9.trans au)).size c1
     .exact o.1
     have:=af k o;have:=(h00.trans a1).size;omega)
    obtain⟨d9,er,h2⟩:=bc W' (bz.mono λk _ o=>.inl (by
     rcases o with((o|o)|o)|o
     .have:=am.lt;have:=D.size;omega
     .have:=ak.lt;have:=D.size;omega
     .have:=J.size;omega
     have:=(a3 k o).2;have:=D.size;omega))
    have bm:=congrArg (λv:Value=>match v with | .agg xs=>xs.toList|_=>[]) er;simp only[List.cons.injEq,Value.int.injEq,true_and,and_true]at bm;refine⟨(.slice QA (c.vs.getD i []).length qc,.int .i64 z,.slice B mm dd),rfl,h1,?_,?_⟩
    .simp only;rw[bm.1]
    simp only;rw[bm.2];exact h2
   refine apM EA (Φ:=AtG) (cd.ext a4) d5 rfl (Ig rfl) hΦ om om (nL ag.size (nL (C.trans a2).size a4.size)) ?_;intro a6 W4 ce bv di;refine ρ ?_;refine Ja (GrN.by bv λk o=>o) ?_;have ay:GrN (λk=>(Value.slice AA ats.length ac).ownBlock=some k) W3 W4:=GrN.by bv λk o=>o
   have aj:=Jb (b5.ext a4) ay n4;obtain⟨A9,c9,d7,dq,c3⟩:=ce.form;refine ρn ?_;refine Xh ?_;refine sto (aj.at (i:=4) rfl) (aj.frozen 4) ?_ (hv:=by rw[d7];rfl);have ah:GrN (λk=>k=G) W4 (W4.setCell ((⟨G,0,none⟩:Addr).add 4) a6):=GrN.set _ rfl;have b3:Blk (W4.setCell ((⟨G,0,none⟩:Addr).add 4) a6) G 33 [.int .i64 c.n,.int .i64 c.f,.slice dA c.ds.length dc,.slice pA c.pm.length pc,a6]:=aj.set 4 _;have b1:OwnM 134 3 AtG (λk=>(k=b2∨k=G)∨(w0.heap.size<=k/\k<w.heap.size)) (W4.setCell ((⟨G,0,none⟩:Addr).add 4) a6) w4.heap.size a6 (ats++[⟨c.vs.getD i [],(c.vs.getD i []).length,m⟩]):=ce.gr (ah.mono λk _ h=>.inl (.inr h)) λg eg e=>by have:=(c3 g eg).1;have:=a7.lt;have:=ao.lt;have:=a1.size;rcases e with(e|e)|e<;>omega
   generalize (W4.setCell ((⟨G,0,none⟩:Addr).add 4) a6)=W5 at ah b3 b1
   have cy:GrN (λk=>k=G) w4 W5:=by
    have h1:GrN (λk=>k=G∨w4.heap.size<=k) w4 W5:=(((ag.mono λk _ h=>(.inl h:k=G∨w4.heap.size<=k)).trans (GrN.ext ((C.trans a2).trans a4))).trans (ay.mono λk _ h=>.inr (af k h))).trans (ah.mono λk _ h=>.inl h);exact h1.mono λk o h=>h.elim id λh'=>by omega
   refine Jd (Gz ?_);refine ρn ?_;refine ρ ?_;refine Jl (i+1) a6 sO ⟨om,om,cy,b3,_,by rw[List.length_append,c4];rfl,b1,λj hj=>?_⟩ om;by_cases ej:j=i
   .subst ej;have:(ats++[(⟨c.vs.getD j [],(c.vs.getD j []).length,m⟩:Atm)]).getD j a0=⟨c.vs.getD j [],(c.vs.getD j []).length,m⟩:=by simp[List.getD,<-c4]
    rw[this];exact⟨rfl,rfl,bq,br,cx,be,λh=>bf (.inl h)⟩
   have:(ats++[(⟨c.vs.getD i [],(c.vs.getD i []).length,m⟩:Atm)]).getD j a0=ats.getD j a0:=by simp[List.getD,List.getElem?_append_left (show j<ats.length by omega)]
   rw[this];exact hmk j om
  intro rest;refine htwo 11 15 kr rfl rfl rfl ?_ ?_
  .refine clR (Jfp (ar:=(c.vs.getD i []).length) (bb.ext J)) ?_;rintro u W ⟨hy,rv,e,rfl,a5,O,U⟩;refine Jd (Ip hy ?_);refine Zs (fuel':=4) 8 [(0,12),(0,13)] (lst 18 14) kr kr rfl ?_;refine ρd ?_;refine Xy ?_;refine Uk (fuel':=3) 14 kr kr rfl rfl ?_;refine ρp ?_;refine ρd ?_;refine Xy ?_;refine Zs (fuel':=2) 8 [(1,15)] (lst 18 16) kr kr rfl ?_;refine dalc' (cs:=[.int .i64 0,.slice none 0 0]) Gm ?_;intro W2 b6 a8 bh ax;refine Zc (Xy ?_);refine rest (rv,e,b6) _ _ ⟨hy.trans a8,ax,Nat.le_trans hy.size bh,a5,O,λhe=>?_⟩ sB;obtain⟨q1,q2,m,q3,q4,q5,q6⟩:=U he;exact⟨q1,q2,m,(q3.mono λk o h=>h.elim id fun (h:k=b6)=>om).ext a8,q4,q5,q6⟩
  refine Jv Gm ?_;intro W b6 hy bh ax;refine Jd (Ip hy ?_);refine Zs (fuel':=3) 8 [(1,11),(0,12),(0,13)] ((lst 18 14).setIfInBounds 15 true) kr kr rfl ?_;refine Jh (Jfp (ar:=(c.vs.getD i []).length) (bb.ext (J.trans hy))) ?_;rintro u W2 ⟨a8,rv,e,rfl,a5,O,U⟩;refine⟨a8,?_⟩;refine ρd ?_;refine Xy ?_;refine Uk (fuel':=2) 14 kr kr rfl rfl ?_;refine ρp ?_;refine ρd ?_;refine Xy ?_;refine hlist (listed':=lst 18 16) kr ?_;refine rest (rv,e,b6) _ _ ⟨hy.trans a8,ax.ext a8,bh,a5,O,λhe=>?_⟩ sB;obtain⟨q1,q2,m,q3,q4,q5,q6⟩:=U he;refine⟨q1,q2,m,q3.mono λk o h=>?_,q4,q5,q6⟩;have:=ax.lt;have:=hy.size;rcases h with h|(h:k=b6)<;>omega
 have dn:¬ (i<c.vs.length/\i<c.rss.length):=λh'=>by have:=ht.2 h';rw[h]at this;cases this
 clear h ht;obtain⟨AA,ac,ap,c5,a3⟩:=ai.form;subst ap;have D:Ext w6 w6.drew:=(Ext.refl w6).drew;refine ρ ?_;have n2:¬ b=b2:=λe=>by have:=hB.lt;omega
 refine drN (λk=>k=b2) 10 (scq 10 [8]) kr ?_;refine ρn ?_;refine Xr (cs:=[.int .i64 c.n,.int .i64 c.f,.slice dA c.ds.length dc,.slice pA c.pm.length pc,.slice AA ats.length ac]) (λw' hg j u hu=>(Jb (ak.ext D) hg (λe=>az e.symm)).at hu) ?_;refine ρn ?_;refine nld (Jr ((Z.ext D).at (i:=4) rfl) n2) ?_;refine ρn ?_;refine nld (Jr ((Z.ext D).at (i:=5) rfl) n2) ?_;refine ρn ?_;refine nop ?_;refine stW (am.ext D) ?_;intro W3 bl bw ab;have ba:Ext w W3:=ab w (aq.trans D) (nL a9.size bi);have bt:GrN (λk=>k=b2) w6.drew W3:=GrN.by bw λk o=>by injection o with o;exact o.symm
 refine Jd (Ja bt ?_);refine ρn ?_;refine ρ ?_;refine Vz bl ⟨ba,dA,pA,AA,dc,pc,ac,ats.length,((c.vs.length:Int) == (c.rss.length:Int)),rfl,hD,hP,λh=>?_,λhS=>by rw[hS.len];exact beq_self_eq_true _⟩;have he:c.vs.length=c.rss.length:=by have:=Zx h;omega
 have dl:i=c.vs.length:=om
 refine⟨he,ats,om,?_,λj hj=>hmk j om⟩;have cc:∀ g,(Value.slice AA ats.length ac).ownBlock=some g->¬ ((g=b2∨g=G)∨(w0.heap.size<=g/\g<w.heap.size)):=λg eg e=>by have:=(a3 g eg).1;have:=a7.lt;have:=ao.lt;have:=a1.size;rcases e with(e|e)|e<;>omega
 intro W hW;exact(((ai.ext D).gr (bt.mono λk _ h=>.inl (.inl h)) cc).gr (hW.mono λk _ h=>.inr h) cc).gv om
open Go.RowKit Pl Go.Wk
variable {c:Cse}{cs:List Value}{w w0:World}
def MkR(w:World)(c:Cse)(u:Value)(P:Prop): Prop:=∃(dA pA aA:Option Addr) (dc pc ac an:Nat) (ok:Bool),u=.tuple #[.agg #[.int .i64 c.n,.int .i64 c.f,.slice dA c.ds.length dc,.slice pA c.pm.length pc,.slice aA an ac],.bool ok] /\
 BoolsV w (.slice dA c.ds.length dc) c.ds/\IntsV w (.slice pA c.pm.length pc) c.pm/\(ok=true->c.vs.length=c.rss.length/\∃ ats:List Atm,ats.length=c.vs.length/\GV 3 AtG w (.slice aA an ac) ats/\(∀ i,i<c.vs.length->MkA (ats.getD i a0) (c.vs.getD i []) (c.rss.getD i []))/\(P->Kj ⟨c.n,c.f,c.ds,c.pm,ats⟩))/\(MkS c->(∀ ats:List Atm,ats.length=c.vs.length->(∀ i,i<c.vs.length->MkA (ats.getD i a0) (c.vs.getD i []) (c.rss.getD i []))->Kj ⟨c.n,c.f,c.ds,c.pm,ats⟩)->ok=true)
def MkO(w0:World)(N:Nat->Prop)(w:World)(c:Cse)(u:Value)(P:Prop): Prop:=∃(dA pA aA:Option Addr) (dc pc ac an:Nat) (ok:Bool),u=.tuple #[.agg #[.int .i64 c.n,.int .i64 c.f,.slice dA c.ds.length dc,.slice pA c.pm.length pc,.slice aA an ac],.bool ok] /\
 BoolsV w0 (.slice dA c.ds.length dc) c.ds/\IntsV w0 (.slice pA c.pm.length pc) c.pm/\(ok=true->c.vs.length=c.rss.length/\∃ ats:List Atm,ats.length=c.vs.length/\Off N w (λu=>GV 3 AtG u (.slice aA an ac) ats)/\(∀ i,i<c.vs.length->MkA (ats.getD i a0) (c.vs.getD i []) (c.rss.getD i []))/\(P->Kj ⟨c.n,c.f,c.ds,c.pm,ats⟩))/\(MkS c->(∀ ats:List Atm,ats.length=c.vs.length->(∀ i,i<c.vs.length->MkA (ats.getD i a0) (c.vs.getD i []) (c.rss.getD i []))->Kj ⟨c.n,c.f,c.ds,c.pm,ats⟩)->ok=true)
theorem Qbs(h:CseV w0 cs c)(h00:Ext w0 w): Ret Tryz.prog 49 [.agg cs.toArray] w λu w'=>Ext w w'/\MkO w0 (λk=>w0.heap.size<=k/\k<w.heap.size) w' c u True:=by
 obtain⟨b8,b7,b5,b3,vA,vc,rA,rc,b1,_,_,_,_,hn,hf⟩:=id h;subst b1;refine enE Tryz.func49 Tryz.ntmps49 ?_;refine bxR ?_;intro w1 b G hb hB;refine Jv Jkj ?_;intro w2 b2 Z af a9;have ay:=hB.ext Z;refine Qq ay ?_;refine clR (Qpc h (h00.trans (G.trans Z))) ?_;rintro u w3 ⟨a4,dA,pA,aA,dc,pc,ac,an,ok,rfl,hD,hP,aq,ab⟩;refine Jv Jkj ?_;intro w4 b4 ak av ax;refine Xn ax ?_;intro w5 a8 b6 aj;have D:Ext w3 w5:=aj w3 ak av;have a1:=(a9.ext a4).ext D;have aa:=((G.trans Z).trans a4).trans D;refine ρ ?_;have o:Ext w5 w5.drew:=(Ext.refl w5).drew;have a2:¬ b4=b2:=λe=>by have:=a9.lt;have:=a4.size;omega
 have a3:=aa.trans o;have ah:∀ {W:World},GrN (λk=>k=b2) w5.drew W->Ext w W:=λhg=>hg.old a3 λk C=>by rw[C];exact nL G.size af
 have au:=a9.lt;cases ok with
 | true=>
  obtain⟨ae,ats,ag,ad,hmk⟩:=aq rfl;have O:=(ad.ext D).ext o;have hG:=O.here;obtain⟨ts,A,cc,az,eA,ar,am,ap,ao⟩:=Jmh hG;refine drN (λk=>k=b2) 10 (scq 9 [4,7]) kr ?_;refine ρn ?_;refine Xr (cs:=[.int .i64 c.n,.int .i64 c.f,.slice dA c.ds.length dc,.slice pA c.pm.length pc,.slice aA an ac]) (λw' hg j u hu=>(Jb (a8.ext o) hg a2).at hu) ?_;refine ρn ?_;refine Xr (cs:=[.int .i64 c.n,.int .i64 c.f,.slice dA c.ds.length dc,.slice pA c.pm.length pc,.slice aA an ac]) (λw' hg j u hu=>(Jb (a8.ext o) hg a2).at hu) ?_;refine ρn ?_;refine nop ?_;refine cl (Qxg (inp:=⟨c.n,c.f,c.ds,c.pm,ats⟩) ⟨_,rfl,_,_,_,rfl,hD.ext (h00.trans a3),hP.ext (h00.trans a3),⟨ts,A,cc,az,eA,ar,am,ap,ao⟩⟩ hn hf) ?_;rintro u w6 ⟨U,e,rfl,he⟩;refine ρ ?_;refine Ja (GrN.ext U) ?_;refine ρn ?_;refine nop ?_;refine stW ((a1.ext o).ext U) ?_;intro w7 a7 a6 ai;have i:GrN (λk=>k=b2) w6 w7:=GrN.by a6 λk C=>by injection C with C;exact C.symm
  refine Jd (Ja i ?_);have J:=ah ((GrN.ext U).trans i);refine ρn ?_;refine ρ ?_;refine Vz a7 ⟨J,dA,pA,aA,dc,pc,ac,an,_,rfl,hD,hP,λh=>⟨ae,ats,ag,?_,hmk,λ_=>he.1 (Zx h)⟩,λ_ hC=>?_⟩;rotate_left
  .have:=he.2 (hC ats ag hmk);rw[this];rfl
  have a5:=(O.ext U).gr (i.mono λk _ C=>by rw[C];exact⟨nL (h00.trans G).size af,au⟩);exactλW hW=>a5 W (hW.mono λk _ C=>⟨C.1,Nat.lt_of_lt_of_le C.2 (G.trans Z).size⟩)
 | false=>
  refine drN (λk=>k=b2) 10 (scq 9 [4,7]) kr ?_;refine ρn ?_;refine Xr (cs:=[.int .i64 c.n,.int .i64 c.f,.slice dA c.ds.length dc,.slice pA c.pm.length pc,.slice aA an ac]) (λw' hg j u hu=>(Jb (a8.ext o) hg a2).at hu) ?_;refine ρn ?_;refine nop ?_;refine stW (a1.ext o) ?_;intro w7 a7 a6 ai;have i:GrN (λk=>k=b2) w5.drew w7:=GrN.by a6 λk C=>by injection C with C;exact C.symm
  refine Jd (Ja i ?_);have J:=ah i;refine ρn ?_;refine ρ ?_;exact Vz a7 ⟨J,dA,pA,aA,dc,pc,ac,an,false,rfl,hD,hP,λh=>(by cases h),λhS _=>ab hS⟩
theorem Qbt(h:CseV w cs c): Ret Tryz.prog 49 [.agg cs.toArray] w λu w'=>Ext w w'/\MkR w' c u True:=(Qbs h (Ext.refl w)).mono λu w' ⟨i,dA,pA,aA,Z,pc,ac,an,ok,e,U,O,J,G⟩=>⟨i,dA,pA,aA,Z,pc,ac,an,ok,e,U.ext i,O.ext i,λh=>by
 obtain⟨D,ats,C,o,j⟩:=J h;exact⟨D,ats,C,o.here,j⟩,G⟩
end Go.Proofs.YtgobkbeokaaplaaGreatDoor
namespace Go.Proofs.YtgobkbeokaaplaaGreatDoor
open Pl Go.Wk
noncomputable def BBx(tot n f:Nat)(kf:Nat->Nat)(pf:Nat->Int)(R:Nat->List Row)(ds:List Bool)(pl:Nat->Nat)(u:Nat): List BkT:=if u<f then(if tot=0 then[] else BBo n f kf pf R ds pl u) else[]
section
variable {n f m:Nat} {es perm:List Nat} {vars:Nat->List Nat} {rs:Nat->List Row} {kf:Nat->Nat} {pf:Nat->Int} {R:Nat->List Row} {ds:List Bool} {ats:List Atm} {tot:Nat} {L:List Row} {BB:Nat->List BkT}
theorem Qcs(hat:ats.length=m)(hae:∀ i,i<m->(ats.getD i a0).rows=rs i){T:Nat->Row->Nat}: Ve n pf T ats≠0↔(∀ i,i<m->rs i≠[])/\∀ v,v<n->pf v = -1->0<T v []:=by
 unfold Ve;have j:ats.any (λa=>a.rows.isEmpty)=true↔∃ i,i<m/\rs i=[]:=by grind [List.any_eq_true,List.getElem_of_mem,a0,List.getD,List.isEmpty_iff.1,getD_mem']
 split
 .grind
 rename_i h;have o:∀ i,i<m->rs i≠[]:=by grind
 rw[<-Nat.pos_iff_ne_zero,prodR_pos];grind
theorem ElR.ixP(h:ElR n f m es perm vars rs kf pf R)(hfit:∀ v,v<f->∀ x∈R v,∀ u∈x,Zl u/\u.bytes.length<=24)(hat:ats.length=m)(hae:∀ i,i<m->(ats.getD i a0).rows=rs i)(htot:tot=Ve n pf (TV n f kf pf R ds (plO perm f)) ats)(hL:Lt ds L)(hLm:∀ y,y∈L↔∃ z,Vh n m vars rs z/\z.take f=y):
  IxP f ds kf pf (BBx tot n f kf pf R ds (plO perm f)) tot L:=by
 have ab:=h.pm.fn;have hn:=h.n32;have o:=h.ok (ds:=ds);have U:tot≠0↔(Jkc n f m perm vars rs kf pf R ds).Roots:=by
  rw[htot,Qcs hat hae];constructor
  .rintro⟨D,O⟩;refine⟨λv j hp=>O v j hp,λa ha=>?_⟩;obtain⟨i,hi,rfl⟩:=List.mem_map.1 ha;grind
  rintro⟨D,O⟩;exact⟨λi hi=>O (vars i,rs i) (List.mem_map.2 ⟨i,List.mem_range.2 hi,rfl⟩),λv j hp=>D v j hp⟩
 have a1:∀ z,(Jkc n f m perm vars rs kf pf R ds).Join z↔Vh n m vars rs z:=λz=>by
  constructor
  .rintro⟨D,O⟩;exact⟨D,λi hi=>O (vars i,rs i) (List.mem_map.2 ⟨i,List.mem_range.2 hi,rfl⟩)⟩
  rintro⟨D,O⟩;refine⟨D,λa ha=>?_⟩;obtain⟨i,hi,rfl⟩:=List.mem_map.1 ha;exact O i (List.mem_range.1 hi)
 have hE:tot≠0->∀ v,v<f->∀ k,entK (BBx tot n f kf pf R ds (plO perm f) v) k=(Jkc n f m perm vars rs kf pf R ds).E v k:=λh0 v j k=>by
  unfold BBx;rw[if_pos j,if_neg h0];rfl
 obtain⟨X,hX⟩:∃ X:BX V,X=⟨V0,n,f,λv=>bk (kf v) 32,pf,plO perm f,(List.range m).map λi=>(vars i,rs i),TV n f kf pf R ds (plO perm f),λv k=>entK (BBx tot n f kf pf R ds (plO perm f) v) k⟩:=⟨_,rfl⟩;have C:tot≠0->X.Ok:=λh0=>by
  subst hX;exact⟨o.FN,o.plN,o.inj,o.k1,o.k2,o.k3,o.k4,o.k5,o.k6,o.al,o.t1,λv j k=>by
   have:=o.t2 v j k;rw[<-hE h0 v j k]at this;exact this⟩
 have ai:tot≠0↔X.Roots:=by subst hX;exact U
 have aj:∀ z,X.Join z↔Vh n m vars rs z:=λz=>by subst hX;exact a1 z
 have a2:Qs f kf pf (BBx tot n f kf pf R ds (plO perm f))=X.ix:=by subst hX;rfl
 have J:X.F=f:=by subst hX;rfl
 have ak:X.N=n:=by subst hX;rfl
 have an:X.d0=V0:=by subst hX;rfl
 have af:∀ v,v<f->kf v<2^v:=λv j=>by
  refine Nat.lt_pow_two_of_testBit _ λi hi=>?_;cases hb:(kf v).testBit i with
  | false=>rfl
  | true=>
   exfalso
   have D:=h.kbit om hb;rcases Nat.lt_or_ge i f with O|O
   .rcases Nat.eq_or_lt_of_le hi with h3|h3
    .subst h3;omega
    have:plO perm f i<plO perm f v:=o.k5 i v O h3;omega
   have:plO perm f i<plO perm f v:=o.k6 v i j O D.1;omega
 have a4:tot≠0->X.ix.Srt ds:=λh0=>by
  have hs:=h.srt (ds:=ds);subst hX;refine⟨rfl,λv j k=>?_⟩;have:=hs.srt v j k;show Jjg _ (entK _ k);rw[hE h0 v j k];exact this
 have a3:tot=0->L=[]:=λh0=>by
  refine List.eq_nil_iff_forall_not_mem.2 λy hy=>?_;obtain⟨z,hz,e⟩:=(hLm y).1 hy;have ac:=(a1 z).2 hz;have Z:y.length=f:=by rw[<-e,List.length_take,hz.1];omega
  have:=(o.answers (y:=y) Z).2 ⟨z,ac,e⟩;grind
 have a6:tot≠0->L=X.ix.ext f []:=λh0=>by
  refine Jjs hL ((a4 h0).ext f [] (by show 0+f=X.F;omega)) λy=>?_;rw[hLm y];have G:=(C h0).ixOk;constructor
  .rintro⟨z,hz,e⟩;have Z:y.length=X.F:=by rw[<-e,List.length_take,hz.1];omega
   have:=((C h0).answers Z).2 ⟨z,(aj z).2 hz,by rw[J];exact e⟩;refine(AX.ext_mem f [] y).2 ⟨by rw[Z,J];simp,rfl,λv _ j=>?_⟩;have a7:v<X.F:=by grind
   have D:=this.1 v a7;have hk:X.ix.key v (y.take v)=X.ix.key v y:=by
    have:=G.key_pre (c:=v) (y:=y.take v) (z:=y.drop v) a7 (by rw[List.length_take,Nat.min_eq_left om];exact(G.pl v a7).2);grind [List.take_append_drop]
   show y.getD v X.d0∈(X.E v (X.ix.key v (y.take v))).map (·.1)
   rw[hk];exact D
  intro hy;obtain⟨D,_,h3⟩:=(AX.ext_mem f [] y).1 hy;have Z:y.length=X.F:=by rw[D,J];simp
  have ad:∀ v,v<X.F->y.getD v X.d0∈(X.E v (prj X.d0 (X.K v) y)).map (·.1):=λv j=>by
   have h4:=h3 v (Nat.zero_le _) (by simpa [J] using j);have hk:X.ix.key v (y.take v)=X.ix.key v y:=by
    have:=G.key_pre (c:=v) (y:=y.take v) (z:=y.drop v) j (by rw[List.length_take,Nat.min_eq_left om];exact(G.pl v j).2);grind [List.take_append_drop]
   rw[hk]at h4;exact h4
  obtain⟨z,hz,e⟩:=((C h0).answers Z).1 ⟨ad,ai.1 h0⟩;grind
 have a8:∀ v,v<f->GInv (ds.getD v false) (λx=>wtL (TV n f kf pf R ds (plO perm f)) x (chK kf pf v n)) (Go.Proofs.YtgobkbeokaaplaaGreatDoor.lastC kf v) (R v) (BBo n f kf pf R ds (plO perm f) v):=λv j=>Jcp h j;have a9:∀ v k,(trK (BBx tot n f kf pf R ds (plO perm f) v) k).toL=[]∨(v<f/\(trK (BBx tot n f kf pf R ds (plO perm f) v) k).toL=Yz (ds.getD v false) (Xz (λx=>wtL (TV n f kf pf R ds (plO perm f)) x (chK kf pf v n)) (Go.Proofs.YtgobkbeokaaplaaGreatDoor.lastC kf v) (R v) k)):=λv k=>by
  rw[Jdh];unfold BBx;by_cases j:v<f
  .rw[if_pos j];by_cases h0:tot=0
   .rw[if_pos h0];exact .inl rfl
   rw[if_neg h0];exact .inr ⟨j,(a8 v j).entK k⟩
  rw[if_neg j];exact .inl rfl
 refine⟨?_,λh0 v=>?_,λh0=>a2 ▸ (C h0).ixOk,λh0=>a2 ▸ a4 h0,λh0=>a2 ▸ a6 h0,λv k=>?_,λv k=>?_,λv b hb p hp=>?_,om,af⟩
 .by_cases h0:tot=0
  .rw[a3 h0,h0];rfl
  have G:=(C h0).ixOk;rw[a6 h0,G.ext_len f [] (by show 0+f=X.F;omega)];have e1:tot=Jg n λv=>if pf v = -1 then TV n f kf pf R ds (plO perm f) v [] else 1:=by
   have aa:=h0;rw[htot]at aa ⊢;unfold Ve at aa ⊢;grind
  rw[e1,Jtm ab λc D O=>?_]
  .show Jg f _=Jg X.F _;rw[J];refine Gx λc hc=>?_;have ae:=G.pl c (by rw[show X.ix.F=X.F from rfl,J];exact hc);have a5:X.ix.par c=pf c:=by subst hX;rfl
   rw[a5]at ae;by_cases hp:pf c = -1
   .rw[if_pos hp,if_pos ⟨Nat.zero_le _,by rw[a5];simp;omega⟩];have ag:X.ix.key c []=[]:=by
     have ah:X.K c=[]:=(C h0).kroot (by rw[ak];omega) (by subst hX;exact hp);show prj X.d0 (X.K c) []=[];rw[ah];rfl
    have:=((C h0).t2 c (by rw[J];exact hc) []).1;have hT:X.T c []=TV n f kf pf R ds (plO perm f) c []:=by subst hX;rfl
    rw[hT]at this;rw[this];show _=Pl.tot (X.E c (X.ix.key c []));rw[ag]
   repeat grind
  by_cases hp:pf c = -1
  .rw[if_pos hp];have h3:=(U.1 h0).1 c O hp;have h4:=Jmr (n:=n) (R:=R) (ds:=ds) (kf:=kf) h.chf c D [];have h5:0<TV n f kf pf R ds (plO perm f) c []:=h3;omega
  rw[if_neg hp]
 .unfold BBx;rw[if_pos h0];split<;>rfl
 .rw[Tr.sum_eq];rcases a9 v k with e|⟨j,e⟩
  .rw[e];exact Nat.zero_le _
  rw[e,Jcb];have:=h.big (ds:=ds) v k;rw[Jck h.chf ab j,Jdj]at this;have e2:=(a8 v j).entK k;grind [BBo,Jcb]
 .rw[Tr.sz_eq];rcases a9 v k with e|⟨j,e⟩
  .grind
  rw[e];have D:(Yz (ds.getD v false) (Xz (λx=>wtL (TV n f kf pf R ds (plO perm f)) x (chK kf pf v n)) (Go.Proofs.YtgobkbeokaaplaaGreatDoor.lastC kf v) (R v) k)).length<=(R v).length:=by
   have:(Xz (λx=>wtL (TV n f kf pf R ds (plO perm f)) x (chK kf pf v n)) (Go.Proofs.YtgobkbeokaaplaaGreatDoor.lastC kf v) (R v) k).length<=(R v).length:=by grind [Xz,List.length_map,List.length_filter_le]
   unfold Yz;split<;>simpa using this
  exact nL D (h.rows v om).2.2
 unfold BBx at hb;by_cases j:v<f
 .rw[if_pos j]at hb;by_cases h0:tot=0
  .grind
  rw[if_neg h0]at hb;rw[((a8 v j).con b hb).1,Qzj,entL_mem]at hp;obtain⟨x,hx,_,O,_⟩:=hp;rw[<-O];have am:=h.rl j x hx;grind [kf,V0,getD_mem']
 repeat grind
theorem IxP.few(h:IxP f ds kf pf BB tot L)(hl:L.length<4294967296): tot≠0->∀ z,(Qs f kf pf BB).Gp z->z.length<f->0<(Qs f kf pf BB).pend z.length z->(Qs f kf pf BB).others z.length z<4294967296:=λh0 z o i j=>by
 have C:=((h.ok h0).others_le i j).2;have u:=(h.ok h0).pend_le z.length z rfl (Nat.le_of_lt i) o;rw[h.pend0 h0,h.len]at u;omega
end
open Pl Go.Wk
variable {l:List Int}{i n u v:Nat}
def toN(l:List Int): List Nat:=l.map Int.toNat
theorem Jbc(h:∀ v∈l,0<=v): nz (toN l)=l:=by
 unfold nz toN;rw[List.map_map];conv=>rhs;rw[<-List.map_id l]
 grind [List.map_congr_left]
theorem Jdk(h:∀ v∈l,0<=v): u∈toN l↔(u:Int)∈l:=by grind [Jbc,nz]
theorem Xkz{l:List Nat}(h:Jvm (nz l)): Xw l:=by
 unfold Xw;rw[List.pairwise_iff_getElem];intro i j hi u C;have step:∀ k,0<k->k<l.length->l.getD (k-1) 0<l.getD k 0:=λk h0 o=>by
  have:=h k h0 (by rw[Qf];exact o);grind [Jgf]
 have key:∀ d,i+1+d<l.length->l.getD i 0<l.getD (i+1+d) 0:=by
  intro d;induction d with
  | zero=>intro D;have:=step (i+1) om D;simpa using this
  | succ d ih=>
   grind
 have:=key (j-(i+1)) om;rw[show i+1+(j-(i+1))=j by omega,Qv 0 _ hi,Qv 0 _ u]at this;exact this
structure CseOk(c:Cse)(ats:List Atm): Prop where
 few:FewP c
 len:c.vs.length=c.rss.length
 al:ats.length=c.vs.length
 mka:∀ i,i<c.vs.length->MkA (ats.getD i a0) (c.vs.getD i []) (c.rss.getD i [])
 chk:Kj ⟨c.n,c.f,c.ds,c.pm,ats⟩
 fit:∀ i,i<c.rss.length->∀ r∈c.rss.getD i [],∀ u∈r,Zl u
def Cse.N(c:Cse): Nat:=c.n.toNat
def Cse.F(c:Cse): Nat:=c.f.toNat
def Cse.m(c:Cse): Nat:=c.vs.length
def Cse.vars(c:Cse)(i:Nat): List Nat:=toN (c.vs.getD i [])
def Cse.crs(c:Cse)(i:Nat): List Row:=c.rss.getD i []
def rsA(ats:List Atm)(i:Nat): List Row:=(ats.getD i a0).rows
def Cse.ans(c:Cse): List Row:=Jvn c.m c.vars c.crs c.N c.F c.ds
section
variable {c:Cse} {ats:List Atm}
theorem CseOk.nN(h:CseOk c ats): c.n=(c.N:Int)/\c.N<=6:=by
 have o:=h.chk.1;have j:=h.chk.2.1;have i:=h.few.n6;grind [Cse.N]
theorem CseOk.fF(h:CseOk c ats): c.f=(c.F:Int)/\c.F<=c.N:=by
 obtain⟨o,_,j,i,_⟩:=h.chk;grind [Cse.F,Cse.N]
theorem CseOk.at_(h:CseOk c ats)(hi:i<c.m): Ko c.n (ats.getD i a0):=by
 obtain⟨_,_,_,_,_,_,_,_,_,_,_,j,_⟩:=h.chk;exact j _ (getD_mem' a0 _ (by rw[h.al];exact hi))
theorem CseOk.vars(h:CseOk c ats){i:Nat}(hi:i<c.m): nz (c.vars i)=c.vs.getD i []/\Xw (c.vars i)/\(∀ v∈c.vars i,v<c.N)/\(c.vars i).length=(c.vs.getD i []).length:=by
 obtain⟨C,o,D⟩:=h.at_ hi;have u:=(h.mka i hi).vars;rw[u]at C o;have h0:∀ v∈c.vs.getD i [],0<=v:=λv j=>(o v j).1;refine⟨Jbc h0,Xkz (by grind [Cse.vars,Jbc]),λv j=>?_,by simp[Cse.vars,toN]⟩;have:=(o v ((Jdk h0).1 j)).2;have:=h.nN.1;omega
theorem CseOk.cov(h:CseOk c ats)(hv:v<c.N): ∃ i,i<c.m/\v∈c.vars i:=by
 obtain⟨_,_,_,_,_,_,_,_,_,_,_,_,O⟩:=h.chk;obtain⟨a,J,o⟩:=O v (by have:=h.nN.1;simp only;omega);obtain⟨i,hi,e⟩:=List.getElem_of_mem J;have j:i<c.m:=by have:=h.al;grind [Cse.m]
 have D:ats.getD i a0=a:=by grind
 have C:=(h.mka i j).vars;rw[D]at C;refine⟨i,j,(Jdk λu G=>?_).2 (C ▸ o)⟩;have:=(h.at_ j).2.1 u (by rw[D,C];exact G);exact this.1
theorem CseOk.set(h:CseOk c ats){i:Nat}(hi:i<c.m): IsSet [] (c.crs i) (rsA ats i):=(h.mka i hi).set (by have:=h.few.row i (by rw[<-h.len];exact hi);grind)
theorem CseOk.clen(h:CseOk c ats)(hi:i<c.m): ∀ r∈c.crs i,r.length=(c.vars i).length:=λr j=>by rw[(h.vars hi).2.2.2];exact((h.mka i hi).ok r j).1
theorem CseOk.slen(h:CseOk c ats)(hi:i<c.m): ∀ r∈rsA ats i,r.length=(c.vars i).length:=λr j=>h.clen hi r (((h.set hi).2 r).1 j)
theorem Jtl{g g':Nat->Nat}(h:∀ c,c<n->g c<=g' c): Jg n g<=Jg n g':=by
 induction n with
 | zero=>exact nR _
 | succ n ih=>rw[Jg,Jg];exact Nat.mul_le_mul (ih λc i=>h c om) (h n om)
theorem CseOk.cnt(h:CseOk c ats): max 1 (Jg c.m λi=>(c.crs i).length)<=5000:=by
 have j:=h.few.cnt;rw[<-h.len]at j;have o:Jg c.m (λi=>(c.crs i).length)<=Jg c.vs.length λi=>max 1 (c.rss.getD i []).length:=Jtl λi _=>Nat.le_max_right _ _;omega
theorem CseOk.refP(h:CseOk c ats): RefP c.N c.m c.vars c.crs:=by
 have o:=h.nN.2;refine⟨om,by have:=h.few.v5;unfold Cse.m;omega,λi hi=>(h.vars hi).2.1,λi hi=>(h.vars hi).2.2.1,λi hi=>h.clen hi,λv j=>h.cov j,h.cnt,λi hi=>h.few.row i (by rw[<-h.len];exact hi)⟩
theorem Jdt{ds:List Bool}{ls m:List Row}(h:IsSet ds ls m): m.length<=ls.length:=Jgh (Qqf h.1) λx i=>(h.2 x).1 i
theorem CseOk.pm(h:CseOk c ats): PermOk c.N c.F (toN c.pm)/\nz (toN c.pm)=c.pm:=by
 obtain⟨_,_,_,_,_,o,j,i,_⟩:=h.chk;simp only at o j i;have hn:=h.nN.1;have C:=h.fF.1;have h0:∀ v∈c.pm,0<=v:=by grind
 refine⟨⟨h.fF.2,by simp[toN];omega,λv u=>?_,?_⟩,Jbc h0⟩;repeat grind [Jdk,toN,List.Nodup,List.Pairwise.imp_of_mem]
theorem CseOk.bldI(h:CseOk c ats){ts:List TA}(hts:ats=ts.map (·.2)): BldI c.N c.F c.ds (toN c.pm) ts c.vars (rsA ats):=by
 have hN:=h.nN.2;have j:ts.length=c.m:=by have:=h.al;rw[hts,List.length_map]at this;exact this
 have o:RunOk c.N ts c.vars (rsA ats):=by
  refine⟨om,by have:=h.few.v5;grind [Cse.m],λi hi=>?_,λi hi=>(h.vars (j ▸ hi)).2.1,λi hi=>(h.vars (j ▸ hi)).2.2.1,λv D=>by rw[j];exact h.cov D,λi hi=>(h.set (j ▸ hi)).1,λi hi=>h.slen (j ▸ hi),λi hi=>(h.mka i (show i<c.m from j ▸ hi)).len⟩;have C:i<c.m:=j ▸ hi;have e:(ts.getD i ta0).2=ats.getD i a0:=by grind
  have hm:=h.mka i C;obtain⟨v1,_,_,v4⟩:=h.vars C;rw[e];have e2:ats.getD i a0=⟨(ats.getD i a0).vars,(ats.getD i a0).ar,(ats.getD i a0).rows⟩:=rfl;rw[e2,hm.vars,hm.ar,v1,v4];rfl
 refine⟨o,h.pm.1,?_,λi hi r hr u Z=>?_,λkf pf hb v D=>⟨λl hl hx=>?_,λi hi=>.inl ?_⟩⟩
 .obtain⟨_,_,_,_,U,_⟩:=h.chk;grind [Cse.F]
 .have C:i<c.m:=j ▸ hi;have G:=((h.set C).2 r).1 hr;have U:=((h.mka i C).ok r G).2;exact⟨List.all_eq_true.1 U u Z,h.fit i (by rw[<-h.len];exact C) r G u Z⟩
 .have hs:kf v ||| 2^v<2^c.N:=by
   refine Nat.lt_pow_two_of_testBit _ λi hi=>?_;cases hbt:(kf v ||| 2^v).testBit i with
   | false=>rfl
   | true=>
    rw[Nat.testBit_or,Nat.testBit_two_pow,Bool.or_eq_true,decide_eq_true_eq]at hbt;rcases hbt with hbt|hbt
    .rw[(hb v D).2.1]at hbt;have J:∀ e∈Vk ts.length c.vars,e<2^c.N:=λe he=>by
      obtain⟨i,hi,rfl⟩:=List.mem_map.1 he;exact Jzs (o.lt i (List.mem_range.1 hi))
     have:=Jbm (nb:=nb0 c.N (Vk ts.length c.vars)) (ord:=Xd (toN c.pm) c.F) (N:=c.N) (λa b O=>(Jzf J O).2.1) hbt;omega
    omega
  have U:=Xks (m:=ts.length) (vars:=c.vars) (rs:=rsA ats) (l:=l) (λi hi=>o.asc i hi) (λv D=>o.cov v D) hs hl hx;have h2:Jg ts.length (λi=>(rsA ats i).length)<=Jg ts.length λi=>(c.crs i).length:=Jtl λi hi=>Jdt (h.set (j ▸ hi));have h3:=h.cnt;grind
 have:=Jdt (h.set (j ▸ hi));have h2:=h.few.row i (by rw[<-h.len];exact(show i<c.m from j ▸ hi));grind [Cse.crs]
theorem CseOk.ansJ(h:CseOk c ats)(z:Row): Vh c.N c.m c.vars (rsA ats) z↔Vh c.N c.m c.vars c.crs z:=by
 unfold Vh;refine and_congr_right λ_=>forall_congr' λi=>forall_congr' λhi=>?_;exact(h.set hi).2 _
theorem CseOk.ans(h:CseOk c ats): Lt c.ds c.ans/\∀ y,y∈c.ans↔∃ z,Vh c.N c.m c.vars (rsA ats) z/\z.take c.F=y:=by
 have o:=Qvl c.m c.vars c.crs c.N c.F c.ds;have i:=h.refP;refine⟨o.1,λy=>?_⟩;rw[show c.ans=Jvn c.m c.vars c.crs c.N c.F c.ds from rfl,o.2 y,List.mem_map];constructor
 .rintro⟨z,j,e⟩;exact⟨z,(h.ansJ z).2 ((Jhc i.asc i.len i.lt i.cov z).1 j),e⟩
 rintro⟨z,j,e⟩;exact⟨z,(Jhc i.asc i.len i.lt i.cov z).2 ((h.ansJ z).1 j),e⟩
theorem CseOk.anl(h:CseOk c ats): c.ans.length<=5000:=by
 have i:=h.refP;have j:=Jdt (Qvl c.m c.vars c.crs c.N c.F c.ds);have o:=Qqt i.asc i.len i.cov;rw[List.length_map]at j;exact nL j (nL o i.cnt)
theorem CseOk.arow(h:CseOk c ats){y:Row}(hy:y∈c.ans): y.length=c.F:=by
 obtain⟨z,i,e⟩:=(h.ans.2 y).1 hy;rw[<-e,List.length_take,i.1];have:=h.fF.2;omega
end
open Go.RowKit Pl Go.Wk
attribute [local irreducible] WC WL QX WD WDB WP WN WG WH WM
variable {c:Cse}{ats:List Atm}{ds:List Bool}{es perm:List Nat}{ts:List TA}{cs:List Value}{B0 f m n rc t v vc:Nat}{pf:Nat->Int}{vars:Nat->List Nat}{R rs:Nat->List Row}{aA dA pA rA vA:Option Addr}{x:Value}{w w':World}
theorem IxV.congr{kf:Nat->Nat}{BB BB':Nat->List BkT}{tot:Nat}(h:IxV w x f ds kf pf BB tot)(he:∀ v,v<f->BB v=BB' v): IxV w x f ds kf pf BB' tot:=by
 obtain⟨DA,dc,BA,cb,KA,ck,PA,cp,u,j,i,h1,h2,Z,U,O,J,G,D,C⟩:=h.ex;exact⟨⟨DA,dc,BA,cb,KA,ck,PA,cp,u,j,i,h1,h2,Z,U,O,J,G,D,λv o=>he v o ▸ C v o⟩,h.dl,h.f32⟩
theorem Xzf{b:Nat}(h:Blk w b t cs)(h':Blk w' b t cs)(hg:GrN (λk=>k=b) w w'): Ext w w':=⟨hg.os,hg.tape,hg.output,hg.size,λk i=>if e:k=b then by subst e;exact h'.trans h.symm else hg.block k i e⟩
theorem Xzx(w:World): (Instr.build 55 #[]).run Tryz.prog w=.ok (.agg #[.slice none 0 0,.slice none 0 0,.slice none 0 0,.slice none 0 0,.slice none 0 0]) w:=kr
theorem ElR.fits{kf:Nat->Nat}(h:ElR n f ts.length es perm vars rs kf pf R)(hI:BldI n f ds perm ts vars rs):
  ∀ v,v<f->∀ x∈R v,∀ u∈x,Zl u/\u.bytes.length<=24:=λv o x j u C=>by
 have i:v<n:=nM o h.pm.fn;obtain⟨z,_,e,D⟩:=((h.rows v i).2.1 x).1 j;subst e;exact(hI.fit (h.sb i) D).1.2 u C
theorem ElR.htb{kf:Nat->Nat}{tot:Nat}(h:ElR n f m es perm vars rs kf pf R){b:BkT}(hb:b∈BBx tot n f kf pf R ds (plO perm f) v): b.2.ht<=65536:=by
 unfold BBx at hb;by_cases hv:v<f
 .rw[if_pos hv]at hb;by_cases h0:tot=0
  .grind
  rw[if_neg h0]at hb;have e:=((Jcp (ds:=ds) h hv).con b hb).1;have o:b.2.toL.length<=(R v).length:=by
   rw[e];have:(Xz (λx=>wtL (TV n f kf pf R ds (plO perm f)) x (chK kf pf v n)) (Go.Proofs.YtgobkbeokaaplaaGreatDoor.lastC kf v) (R v) b.1).length<=(R v).length:=by grind [Xz,List.length_map,List.length_filter_le]
   unfold Yz;split<;>simpa using this
  have i:=Tr.ht_le b.2;rw[Tr.sz_eq]at i;have j:=(h.rows v (nM hv h.pm.fn)).2.2;omega
 repeat grind
theorem Qrq{kf:Nat->Nat}{L:List Row}(hTB:∃ B0,TB B0 w)(hI:BldI n f ds perm ts vars rs)(hats:∀ i,i<ts.length->((ts.map (·.2)).getD i a0).rows=rs i)(hE:ElR n f ts.length es perm vars rs kf pf R)(hV:IxV w x f ds kf pf (λu=>if Ve n pf (TV n f kf pf R ds (plO perm f)) (ts.map (·.2))=0 then[] else BBo n f kf pf R ds (plO perm f) u) (Ve n pf (TV n f kf pf R ds (plO perm f)) (ts.map (·.2))))(hL:Lt ds L)(hLm:∀ y,y∈L↔∃ z,Vh n ts.length vars rs z/\z.take f=y)(hl:L.length<4294967296):
  IxA w x f ds kf pf (BBx (Ve n pf (TV n f kf pf R ds (plO perm f)) (ts.map (·.2))) n f kf pf R ds (plO perm f)) (Ve n pf (TV n f kf pf R ds (plO perm f)) (ts.map (·.2))) L:=by
 have j:=hE.ixP (ds:=ds) (tot:=Ve n pf (TV n f kf pf R ds (plO perm f)) (ts.map (·.2))) (hE.fits hI) (ats:=ts.map (·.2)) (by rw[List.length_map]) hats rfl hL hLm
 exact⟨hTB,hV.congr λv C=>by grind [BBx],j,j.few hl,λv b o=>hE.htb o⟩
def GoodC(c:Cse): Prop:=FewS c/\MkS c/\∀ ats:List Atm,ats.length=c.vs.length->(∀ i,i<c.vs.length->MkA (ats.getD i a0) (c.vs.getD i []) (c.rss.getD i []))->Kj ⟨c.n,c.f,c.ds,c.pm,ats⟩
theorem Qgb(h:ats=ts.map (·.2)): ∀ i,i<ts.length->((ts.map (·.2)).getD i a0).rows=rsA ats i:=λi hi=>by rw[rsA,h]
theorem CseV.rin(hV:IntssV w (.slice vA c.vs.length vc) c.vs)(hR:RowssV w (.slice rA c.rss.length rc) c.rss)(h:CseOk c ats): RInM w vA rA c.m c.vars c.crs:=by
 obtain⟨_,_,o,j,_,_,D,C⟩:=hV;injection j with j e2 e3
 subst j;subst e3;obtain⟨_,_,u,j,_,_,J,G⟩:=hR;injection j with j e2 e3
 subst j;subst e3;refine⟨⟨o,D,λi hi=>?_⟩,⟨u,?_,λi hi=>G i (by rw[<-h.len];exact hi)⟩⟩
 .rw[(h.vars hi).1];exact C i hi
 have:=h.len;grind [Cse.m]
theorem Xzg{dc pc ac an:Nat}(h:CseOk c ats)(hD:BoolsV w (.slice dA c.ds.length dc) c.ds)(hP:IntsV w (.slice pA c.pm.length pc) c.pm)(hG:GV 3 AtG w (.slice aA an ac) ats):
  ∃ ts:List TA,ats=ts.map (·.2)/\BldV w (.agg #[.int .i64 c.n,.int .i64 c.f,.slice dA c.ds.length dc,.slice pA c.pm.length pc,.slice aA an ac]) c.N c.F c.ds (toN c.pm) ts:=by
 obtain⟨ts,A,cc,u,eA,J,O,G,C⟩:=Jmh hG;injection eA with i e2 e3
 subst i;subst e2;subst e3;obtain⟨D,d',i,h1,h2,h3⟩:=hD;injection i with i e2 e3
 subst i;subst e3;obtain⟨Q,q',i,Z,h5,U⟩:=hP;injection i with i e2 e3
 subst i;subst e3;have o:=(h.bldI u).dl;have j:(toN c.pm).length=c.pm.length:=by simp[toN]
 refine⟨ts,u,dA,dc,pA,pc,aA,ac,?_,by rw[<-o];exact h1,h3,?_,by rw[j];exact Z,G,J,C⟩
 .rw[h.nN.1.symm,h.fF.1.symm,j,<-o]
 rw[h.pm.2,j];exact U
theorem Xxp(hTB:TB B0 w)(h:CseV w cs c)(hfit:∀ i,i<c.rss.length->∀ r∈c.rss.getD i [],∀ u∈r,Zl u):
  Ret Tryz.prog 36 [.agg cs.toArray] w λu w'=>Ext w w'/\((u=.tuple #[.agg #[.slice none 0 0,.slice none 0 0,.slice none 0 0,.slice none 0 0,.slice none 0 0],.slice none 0 0,.bool true,.bool true]/\¬ GoodC c) ∨
   ∃(ats:List Atm) (x av:Value) (kf:Nat->Nat) (pf:Nat->Int) (BB:Nat->List BkT) (tot:Nat),CseOk c ats/\u=.tuple #[x,av,.bool false,.bool true]/\IxA w' x c.F c.ds kf pf BB tot c.ans/\RowsV w' av c.ans):=by
 obtain⟨dA,dc,pA,pc,vA,vc,rA,rc,rfl,hD,hP,hV,hR,hn,hf⟩:=id h;refine enE Tryz.func36 Tryz.ntmps36 ?_;refine bxR ?_;intro w1 b a6 hb hB;refine Jv Jqz ?_;intro w2 b2 ai b1 bz;have b8:=hB.ext ai;refine Qq b8 ?_;refine clR (Qbt (h.ext (a6.trans ai))) ?_;rintro u w3 ⟨ah,cb,c5,aA,ca,c4,ac,an,ok,rfl,br,bq,bh,ar⟩;refine Jv Jkj ?_;intro w4 b4 bd bm bw;refine Xn bw ?_;intro w5 bv c9 bc;have O:Ext w3 w5:=bc w3 bd bm;have b6:=(bz.ext ah).ext O;have ae:=(b8.ext ah).ext O;have a9:=((a6.trans ai).trans ah).trans O;refine Qq ae ?_;refine clR (Qtx (h.ext a9)) ?_;rintro u w6 ⟨a2,fw,rfl,ay,bj⟩;have J:=O.trans a2;have U:=a9.trans a2;have a3:=b6.ext a2;refine ρ ?_;refine Yw (fun (t:Bool)=>[(21,.bool t),(1,.pointer (some ⟨b,0,none⟩)),(2,.pointer (some ⟨b2,0,none⟩)),(3,.slice none 0 0),(4,.bool false),(5,.bool false),(6,.pointer (some ⟨b4,0,none⟩)),(7,.bool ok)]) (λt w7=>w7=w6/\t = !(fw && ok)) ?_ ?_
 .cases fw with
  | false=>
   refine ρ ?_;exact Jf true sB ⟨rfl,rfl⟩
  | true=>
   refine ρ ?_;exact Jf (!ok) sB ⟨rfl,by simp⟩
 rintro t w7 ⟨rfl,ht⟩;refine ciR (λh=>?_) (λh=>?_)
 .subst h;refine Zj (Xzx _) ?_;refine Xn a3 ?_;intro w8 bu c8 a1;have ba:Ext w w8:=a1 w U (nL a6.size b1);refine ρ ?_;refine Jhx bu ⟨ba,.inl ⟨rfl,λhG=>?_⟩⟩;have h1:=bj hG.1;have h2:=ar hG.2.1 hG.2.2;rw[h1,h2]at ht;cases ht
 subst h;obtain⟨c1,c0⟩:fw=true/\ok=true:=by
  cases fw<;>cases ok<;>simp at ht ⊢
 subst c1;subst c0;obtain⟨au,ats,bo,hG,hmk,az⟩:=bh rfl;have D:CseOk c ats:=⟨ay rfl,au,bo,hmk,az trivial,hfit⟩;have b3:=bv.ext a2;refine Qq b3 ?_;obtain⟨ts,a7,bs⟩:=Xzg D (br.ext J) (bq.ext J) (hG.ext J λcs a ⟨t,e,h⟩=>⟨t,e,h.ext J⟩);have bf:ts.length=c.m:=by have:=D.al;rw[a7,List.length_map]at this;exact this
 refine clR (Qrp (hTB.ext U) (D.bldI a7) bs) ?_;rintro u w8 ⟨a1,x,st,kf,pf,R,rfl,hE,aa⟩;obtain⟨XA,xd,YA,yd,ZA,zd,UA,ud,tv,c6,c3,rfl,_,_,_,_,_,_,be,_⟩:=id aa.here.ex;obtain⟨TA,tc,rfl,_⟩:=id be;have b5:=a3.ext a1;refine Xn b5 ?_;intro w9 bt bi bb;have aq:Ext w w9:=bb w (U.trans a1) (nL a6.size b1);have ab:GrN (λk=>k=b2) w8 w9:=GrN.by bi λk hk=>by injection hk with hk;exact hk.symm
 have bl:=a3.lt;have aj:=aa.gr (ab.mono λk _ hk=>by rw[hk];exact bl);have b9:¬ b=b2:=λe=>by have:=hB.lt;omega
 have b7:=Jb ((ae.ext a2).ext a1) ab b9;have a5:Ext w9 w9.drew:=(Ext.refl w9).drew;have a4:=aq.trans a5;have am:=bt.ext a5;have ad:=b7.ext a5;have bp:=CseV.rin (hV.ext a4) (hR.ext a4) D;have c7:c.vs.length=c.m:=rfl;have bg:c.rss.length=c.m:=by rw[<-D.len];rfl
 refine ρ ?_;refine drN (λ_=>False) 13 [(0,0),(0,1),(0,3),(0,4),(0,6),(0,7),(1,2),(1,5),(1,8),(0,9),(0,10),(0,11)] kr ?_;refine ρn ?_;refine Xr (cs:=[.slice XA c.F xd,.slice YA c.F yd,.slice ZA c.F zd,.slice UA c.F ud,.slice TA _ tc]) (λw' hg j u hu=>(am.ext hg.toExt).at hu) ?_;refine ρn ?_;refine Xr (cs:=[.int .i64 c.n,.int .i64 c.f,.slice dA c.ds.length dc,.slice pA c.pm.length pc,.slice vA c.vs.length vc,.slice rA c.rss.length rc]) (λw' hg j u hu=>(ad.ext hg.toExt).at hu) ?_;refine ρn ?_;refine nld (Jr (ad.at (i:=2) rfl) (λe=>e)) ?_;refine ρn ?_;refine nop ?_;refine cl Qhc ?_;rintro u ap ⟨rfl,o⟩;refine ρ ?_;refine Ja (GrN.ext o) ?_;refine ρn ?_;refine nop ?_;have hA:Ret Tryz.prog 50 [.agg #[.int .i64 c.n,.int .i64 c.f,.slice pA c.pm.length pc,.slice vA c.vs.length vc,.slice rA c.rss.length rc],.slice dA c.ds.length dc] ap λu w'=>RowsV w' u c.ans/\Ext ap w':=by
  rw[D.nN.1,D.fF.1,bg];exact Qhn (pA:=pA) (pn:=c.pm.length) (pc:=pc) (vc:=vc) (rc:=rc) D.refP (bp.ext o) (by have:=D.nN.2;omega) D.fF.2 (hD.ext (a4.trans o))
 refine cl hA ?_;rintro av ao ⟨bn,C⟩;refine ρ ?_;refine Ja (GrN.ext C) ?_;refine ρn ?_;refine nop ?_;refine stW ((am.ext o).ext C) ?_;intro ag af ax c2;have ak:GrN (λk=>k=b2) ao ag:=GrN.by ax λk hk=>by injection hk with hk;exact hk.symm
 have G:Ext ao ag:=Xzf ((am.ext o).ext C) af ak;have Z:Ext w ag:=((a4.trans o).trans C).trans G;refine Jd (Ja (GrN.ext G) ?_);refine ρn ?_;refine ρ ?_;have a8:=(aj.here.ext (((a5.trans o).trans C).trans G));refine Jhx af ⟨Z,.inr ⟨ats,_,av,kf,pf,_,_,D,rfl,Qrq ⟨B0,hTB.ext Z⟩ (D.bldI a7) (Qgb a7) hE a8 D.ans.1 (λy=>by rw[bf];exact D.ans.2 y) (by have:=D.anl;omega),bn.ext G⟩⟩
open Go.RowKit Pl Go.Wk
variable {b:Nat}{w:World}
theorem Il{r:Row}(h:Blk w b 147 (Jp r))(hl:r.length<=1100000): RowV w (.slice (some ⟨b,0,none⟩) r.length r.length) r:=⟨some ⟨b,0,none⟩,r.length,rfl,Nat.le_refl _,hl,h.rd (Jfj r)⟩
theorem Jgr(ps:List Pr)(h:Blk w b 59 (ps.map (·.1)))(hr:∀ p∈ps,RowV w p.1 p.2)(hl:ps.length<=1100000): RowsV w (.slice (some ⟨b,0,none⟩) ps.length ps.length) (ps.map (·.2)):=⟨ps,some ⟨b,0,none⟩,ps.length,rfl,rfl,Nat.le_refl _,hl,h.rd (by simp),hr⟩
open Go.RowKit Pl Go.Wk
variable {L:List Row}{c i n:Nat}
theorem RowsV.one{w:World}{A:Option Addr}(h:RowsV w (.slice A n c) L)(hi:i<L.length): ∃(v:Value) (cs:List Value),Rd w 1 A n cs/\n=L.length/\cs[i]?=some v/\RowV w v (L.getD i []):=by
 obtain⟨C,j,e,_,_,cs,o,u⟩:=h.parts;grind
theorem getD_some(h:i<L.length): L[i]?=some (L.getD i []):=by grind
end Go.Proofs.YtgobkbeokaaplaaGreatDoor
namespace Go.Wk
open Go.RowKit Go.ChangeShapes Go.WideShapes
section
variable {H:Type} {enc:TypeId×Value->H} {P:Program} {w:World} {base:Nat} {spare:Nat->Bool} {held:Bool}
theorem rd_of{A:Option Addr}{sz len:Nat}{cs:List Value}{ad:Addr}(hA:A=some ad)(hl:cs.length=len*sz)(hc:∀ j u,cs[j]?=some u->w.cell? (ad.add j)=some u): Rd w sz A len cs :=
 ⟨hl,λh0=>⟨ad,hA,by
  have i:=hc 0 cs[0] (gE h0);rw[add_zero]at i;exact World.block_lt_of_cell? w ad i,hc⟩⟩
theorem Jvb{α:Type}(f:α->Value)(l:List α): l.flatMap (λz=>[f z])=l.map f:=by induction l<;>simp_all
end
end Go.Wk
namespace Go.Proofs.YtgobkbeokaaplaaGreatDoor
open Go.RowKit Pl Go.Wk Go.ChangeShapes Go.WideShapes
variable {cs:List Value}{e fuel n t:Nat}{H α:Type}
theorem Xxm(d:DataW H): 1<=Rows.uptoBulk d:=by
 cases d with
 | lit l=>cases l<;>simp[Rows.uptoBulk]
 | nil=>simp[Rows.uptoBulk]
 | ptr d=>simp[Rows.uptoBulk]
 | slice elems spare=>simp[Rows.uptoBulk]
 | agg parts=>simp[Rows.uptoBulk]
 | iface t d=>simp[Rows.uptoBulk]
 | map entries=>simp[Rows.uptoBulk]
 | held h=>simp[Rows.uptoBulk]
theorem Qwc{d:DataW H}{l:List (DataW H)}(h:d∈l): Rows.uptoBulk d<=Rows.uptoBulkAll l:=by
 induction l with
 | nil=>cases h
 | cons x r ih=>
  simp only[Rows.uptoBulkAll];grind
theorem Xxn(l:List (DataW H)): l.length<=Rows.uptoBulkAll l:=by
 induction l with
 | nil=>simp[Rows.uptoBulkAll]
 | cons x r ih=>have:=Xxm x;simp only[Rows.uptoBulkAll,List.length_cons];omega
section
variable {H:Type} {enc:TypeId×Value->H} {P:Program} {w:World} {base:Nat} {spare:Nat->Bool} {held:Bool} {B:Nat}
theorem Jxx{sz:Nat}{x:DataW H×List MemPlace}(X:α->List Value)(R:α->Prop)(ht:P.underlying t=some (.slice e))(hc:P.cellsOf e=sz)(hb:Rows.uptoBulk x.1<=B)(hX:∀(n:Nat) (cs':List Value) (y:DataW H×List MemPlace),DataW.trod enc P w base spare held n e cs'=some y->Rows.uptoBulk y.1<=B->∃ z:α,cs'=X z/\R z)(h:DataW.trod enc P w base spare held fuel t cs=some x): ∃(l:List α) (A:Option Addr) (cap:Nat),cs=[.slice A l.length cap]/\Rd w sz A l.length (l.flatMap X)/\(∀ z∈l,R z)/\l.length<=cap/\l.length<=B:=by
 rcases Go.Deep.open_slice ht h with⟨o,_⟩|⟨a,len,cap,m,n,D,Pl,o,_,hl,hm,hmm,hx,hel⟩
 .exact⟨[],none,0,o,Rd.nil,(λz G=>by cases G),Nat.le_refl _,Nat.zero_le _⟩
 subst o;subst hx;have a2:len<=m:=by grind
 have O:Rows.uptoBulkAll ((List.range len).map D)<=B:=by
  simp only[Rows.uptoBulk]at hb;omega
 have a3:len<=B:=by
  have:=Xxn ((List.range len).map D);simp at this;omega
 have key:∀ k,k<=len->∃ l:List α,l.length=k/\(l.flatMap X).length=k*sz/\(∀ j u,(l.flatMap X)[j]?=some u->w.cell? (a.add j)=some u)/\∀ z∈l,R z:=by
  intro k;induction k with
  | zero=>intro _;exact⟨[],rfl,by simp,(λj u C=>by simp at C),(λz G=>by cases G)⟩
  | succ k ih=>
   intro hk;obtain⟨l,h1,h2,h3,h4⟩:=ih om;obtain⟨cs',i,J⟩:=hel k om;have Z:D k∈(List.range len).map D:=by grind
   obtain⟨z,rfl,G⟩:=hX n cs' _ J (nL (Qwc Z) O);rw[hc]at i;obtain⟨_,a1,U⟩:=World.cells?_some i;refine⟨l++[z],by simp[h1],?_,?_,?_⟩
   .grind
   .intro j u C;rw[List.flatMap_append]at C;simp only[List.flatMap_cons,List.flatMap_nil,List.append_nil]at C;rcases Nat.lt_or_ge j (k*sz) with hj|hj
    .grind
    rw[List.getElem?_append_right om,h2]at C;have hb:j-k*sz<sz:=by grind
    have:=U (j-k*sz) hb;rw[Jmp]at this;grind
   repeat grind
 obtain⟨l,h1,h2,h3,h4⟩:=key len (nR _);grind [rd_of]
end
section
variable {H:Type} {enc:TypeId×Value->H} {w:World} {base b0:Nat} {spare:Nat->Bool} {held:Bool}
theorem Qmh{y:DataW H×List MemPlace}(h:DataW.trod enc Tryz.prog w base spare held n 147 cs=some y): ∃ v:V,cs=v.cells/\Zl v:=by
 obtain⟨o,m,_,_,j,u,D⟩:=DataW.trod_struct Tryz.underlying147 h;have C:cs.length=3:=by rw[j];kernel_rfl
 have a1:o.length=3:=u;match cs,C with
 | [c0,c1,c2],_=>
  have J:DataW.trod enc Tryz.prog w base spare held m 3 (([c0,c1,c2].drop 0).take (Tryz.prog.cellsOf 3))=o[0]?:=D 0 _ rfl;have f1:DataW.trod enc Tryz.prog w base spare held m 2 (([c0,c1,c2].drop 1).take (Tryz.prog.cellsOf 2))=o[1]?:=D 1 _ rfl;have G:DataW.trod enc Tryz.prog w base spare held m 9 (([c0,c1,c2].drop 2).take (Tryz.prog.cellsOf 9))=o[2]?:=D 2 _ rfl;rw[show Tryz.prog.cellsOf 3=1 by kernel_rfl,List.getElem?_eq_getElem om]at J;rw[show Tryz.prog.cellsOf 2=1 by kernel_rfl,List.getElem?_eq_getElem om]at f1;rw[show Tryz.prog.cellsOf 9=1 by kernel_rfl,List.getElem?_eq_getElem om]at G;obtain⟨k,Z,_,wk⟩:=DataW.trod_int Tryz.underlying3 J;obtain⟨i,U,_,wi⟩:=DataW.trod_int Tryz.underlying2 f1;obtain⟨s,O,_,_⟩:=DataW.trod_string Tryz.underlying9 G;simp at Z U O;subst Z;subst U;subst O;exact⟨⟨k,i,s⟩,rfl,bounds_i64 wk,bounds_i64 wi⟩
def RowE(w:World)(v:Value)(r:Row): Prop:=RowV w v r/\∀ u∈r,Zl u
theorem Qjb{y:DataW H×List MemPlace}(h:DataW.trod enc Tryz.prog w base spare held n 59 cs=some y)(hb:Rows.uptoBulk y.1<=1048576): ∃ p:Pr,cs=[p.1]/\RowE w p.1 p.2:=by
 obtain⟨l,A,i,e,D,C,u,J⟩:=Jxx (sz:=3) V.cells Zl Tryz.underlying59 kr hb (λn G y j _=>Qmh j) h;have o:l.length<=1100000:=om
 exact⟨(.slice A l.length i,l),e,⟨A,i,rfl,u,o,D⟩,C⟩
def Qyc(w:World)(v:Value)(ls:List Row): Prop:=RowsV w v ls/\∀ r∈ls,∀ u∈r,Zl u
theorem Qmk{y:DataW H×List MemPlace}(h:DataW.trod enc Tryz.prog w base spare held n 95 cs=some y)(hb:Rows.uptoBulk y.1<=1048576): ∃ p:Value×List Row,cs=[p.1]/\Qyc w p.1 p.2:=by
 obtain⟨ps,A,i,e,C,o,O,Z⟩:=Jxx (sz:=1) (λp:Pr=>[p.1]) (λp=>RowE w p.1 p.2) Tryz.underlying95 kr hb (λn U y D hb=>Qjb D hb) h;rw[Jvb]at C;exact⟨(.slice A ps.length i,ps.map (·.2)),e,⟨ps,A,i,rfl,rfl,O,om,C,λp j=>(o p j).1⟩,λr J u G=>by
  obtain⟨p,j,rfl⟩:=List.mem_map.1 J;exact(o p j).2 u G⟩
theorem Qmj{y:DataW H×List MemPlace}(h:DataW.trod enc Tryz.prog w base spare held n 28 cs=some y)(hb:Rows.uptoBulk y.1<=1048576):
  ∃(A:Option Addr) (c:Nat) (rss:List (List Row)),cs=[.slice A rss.length c]/\RowssV w (.slice A rss.length c) rss/\∀ i,i<rss.length->∀ r∈rss.getD i [],∀ u∈r,Zl u:=by
 obtain⟨ps,A,o,e,J,G,h3,Z⟩:=Jxx (sz:=1) (λp:Value×List Row=>[p.1]) (λp=>Qyc w p.1 p.2) Tryz.underlying28 kr hb (λn U y O hb=>Qmk O hb) h;rw[Jvb]at J;have C:(ps.map (·.2)).length=ps.length:=List.length_map _
 have D:∀ i,i<ps.length->(ps.map (·.2)).getD i []=(ps.getD i (.bool false,[])).2:=by grind
 refine⟨A,o,ps.map (·.2),by rw[C];exact e,⟨A,o,ps.map (·.1),rfl,om,om,by rw[C];exact J,λi hi=>?_⟩,λi hi=>?_⟩
 .have j:i<ps.length:=om
  rw[D i j];exact⟨(ps.getD i (.bool false,[])).1,by grind,(G _ (getD_mem' _ _ j)).1⟩
 have j:i<ps.length:=om
 rw[D i j];exact(G _ (getD_mem' _ _ j)).2
theorem Qjc{y:DataW H×List MemPlace}(h:DataW.trod enc Tryz.prog w base spare held n 26 cs=some y)(hb:Rows.uptoBulk y.1<=1048576): ∃ p:Value×List Int,cs=[p.1]/\IntsV w p.1 p.2/\∃ A c,p.1=.slice A p.2.length c:=by
 obtain⟨l,A,i,e,j,J,C,G⟩:=Jxx (sz:=1) (λz:Int=>[Value.int .i64 z]) (λ_=>True) Tryz.underlying26 kr hb (λn D y o _=>by obtain⟨z,e,_,_⟩:=DataW.trod_int Tryz.underlying3 o;exact⟨z,e,trivial⟩) h;rw[Jvb]at j;have u:l.length<=1100000:=om
 exact⟨(.slice A l.length i,l),e,⟨A,i,rfl,C,u,j⟩,A,i,rfl⟩
theorem Qmm{y:DataW H×List MemPlace}(h:DataW.trod enc Tryz.prog w base spare held n 27 cs=some y)(hb:Rows.uptoBulk y.1<=1048576):
  ∃(A:Option Addr) (c:Nat) (zss:List (List Int)),cs=[.slice A zss.length c]/\IntssV w (.slice A zss.length c) zss:=by
 obtain⟨ps,A,j,e,u,U,O,J⟩:=Jxx (sz:=1) (λp:Value×List Int=>[p.1]) (λp=>IntsV w p.1 p.2) Tryz.underlying27 kr hb (λn G y C hb=>by obtain⟨p,e,D,_⟩:=Qjc C hb;exact⟨p,e,D⟩) h;rw[Jvb]at u;have o:(ps.map (·.2)).length=ps.length:=List.length_map _
 refine⟨A,j,ps.map (·.2),by rw[o];exact e,⟨A,j,ps.map (·.1),rfl,om,om,by rw[o];exact u,λi hi=>?_⟩⟩
 grind
theorem Qmq{y:DataW H×List MemPlace}(h:DataW.trod enc Tryz.prog w base spare held n 25 cs=some y)(hb:Rows.uptoBulk y.1<=1048576): ∃(A:Option Addr) (c:Nat) (l:List Bool),cs=[.slice A l.length c]/\BoolsV w (.slice A l.length c) l:=by
 obtain⟨l,A,i,e,j,G,u,D⟩:=Jxx (sz:=1) (λz:Bool=>[Value.bool z]) (λ_=>True) Tryz.underlying25 kr hb (λn C y o _=>by obtain⟨z,e,_⟩:=DataW.trod_bool Tryz.underlying4 o;exact⟨z,e,trivial⟩) h;rw[Jvb]at j;exact⟨A,i,l,e,⟨A,i,rfl,u,om,j⟩⟩
def Qyj(w:World)(v:Value): Prop:=∃(cs:List Value) (c:Cse),v=.agg cs.toArray/\CseV w cs c/\∀ i,i<c.rss.length->∀ r∈c.rss.getD i [],∀ u∈r,Zl u
set_option linter.constructorNameAsVariable false in
theorem Qmn{y:DataW H×List MemPlace}(h:DataW.trod enc Tryz.prog w base spare held n 30 cs=some y)(hb:Rows.uptoBulk y.1<=1048576): ∃ c:Cse,CseV w cs c/\∀ i,i<c.rss.length->∀ r∈c.rss.getD i [],∀ u∈r,Zl u:=by
 obtain⟨j,m,_,hx,C,O,o⟩:=DataW.trod_struct Tryz.underlying30 h;have U:cs.length=6:=by rw[C];kernel_rfl
 match cs,U with
 | [c0,c1,c2,c3,c4,c5],_=>
  have a1:j.length=6:=O;subst hx;have J:∀ i (hi:i<j.length),Rows.uptoBulk j[i].1<=1048576:=λi hi=>by
   have h1:j[i].1∈j.map (·.1):=by grind
   have h2:=Qwc h1;simp only[Rows.uptoBulk]at hb;omega
  have f0:DataW.trod enc Tryz.prog w base spare held m 3 (([c0,c1,c2,c3,c4,c5].drop 0).take (Tryz.prog.cellsOf 3))=j[0]?:=o 0 _ rfl;have f1:DataW.trod enc Tryz.prog w base spare held m 3 (([c0,c1,c2,c3,c4,c5].drop 1).take (Tryz.prog.cellsOf 3))=j[1]?:=o 1 _ rfl;have f2:DataW.trod enc Tryz.prog w base spare held m 25 (([c0,c1,c2,c3,c4,c5].drop 2).take (Tryz.prog.cellsOf 25))=j[2]?:=o 2 _ rfl;have f3:DataW.trod enc Tryz.prog w base spare held m 26 (([c0,c1,c2,c3,c4,c5].drop 3).take (Tryz.prog.cellsOf 26))=j[3]?:=o 3 _ rfl;have f4:DataW.trod enc Tryz.prog w base spare held m 27 (([c0,c1,c2,c3,c4,c5].drop 4).take (Tryz.prog.cellsOf 27))=j[4]?:=o 4 _ rfl;have f5:DataW.trod enc Tryz.prog w base spare held m 28 (([c0,c1,c2,c3,c4,c5].drop 5).take (Tryz.prog.cellsOf 28))=j[5]?:=o 5 _ rfl;rw[show Tryz.prog.cellsOf 3=1 by kernel_rfl,List.getElem?_eq_getElem om]at f0 f1;rw[show Tryz.prog.cellsOf 25=1 by kernel_rfl,List.getElem?_eq_getElem om]at f2
  rw[show Tryz.prog.cellsOf 26=1 by kernel_rfl,List.getElem?_eq_getElem om]at f3;rw[show Tryz.prog.cellsOf 27=1 by kernel_rfl,List.getElem?_eq_getElem om]at f4;rw[show Tryz.prog.cellsOf 28=1 by kernel_rfl,List.getElem?_eq_getElem om]at f5;obtain⟨n,e0,_,w0⟩:=DataW.trod_int Tryz.underlying3 f0;obtain⟨f,e1,_,w1⟩:=DataW.trod_int Tryz.underlying3 f1;obtain⟨A2,k2,ds,e2,g2⟩:=Qmq f2 (J 2 om);obtain⟨⟨p3,pm⟩,Z,g3,A3,k3,G⟩:=Qjc f3 (J 3 om);simp only at G g3 Z;subst G;obtain⟨A4,k4,vs,e4,g4⟩:=Qmm f4 (J 4 om);obtain⟨A5,k5,rss,e5,g5,D⟩:=Qmj f5 (J 5 om);simp at e0 e1 e2 Z e4 e5;subst e0;subst e1;subst e2;subst Z;subst e4;subst e5;exact⟨⟨n,f,ds,pm,vs,rss⟩,⟨A2,k2,A3,k3,A4,k4,A5,k5,rfl,g2,g3,g4,g5,bounds_i64 w0,bounds_i64 w1⟩,D⟩
theorem Qmp{v:Value}{d:DataW H}{p:List MemPlace}(hv:Value.okWide Tryz.prog w .any b0 30 v)(h:DataW.Trod enc Tryz.prog w base spare held 30 v d p)(hb:Rows.uptoBulk d<=1048576): Qyj w v:=by
 simp only[Value.okWide,Tryz.underlying30]at hv;obtain⟨⟨l⟩,rfl,_,_⟩:=hv;obtain⟨i,h⟩:=h;obtain⟨c,o,j⟩:=Qmn h hb;exact⟨l,c,rfl,o,j⟩
end
theorem gPow: Tryz.prog.globalNamed "internal/strconv.uint64pow10" = some 1:=kr
theorem gPowT: (Tryz.prog.globals[1]?).map (·.type)=some 355:=kr
theorem Qcx{W:World}(h:laidMetH Tryz.prog Rows.unionStepsUptoRow.laid W): TB W.heap.size W:=by
 refine⟨nR _,Lib.tabBelow_of_tabIs ?_⟩;have i:=h.filter (λx=>x.1 == "internal/strconv.uint64pow10");exact Lib.tabIs_of_head (rest:=[]) gPow gPowT Tryz.underlying355 Tryz.underlying80 kr kr i
def Jgw(d:DataW Unit): Obj->Obj
 | .cells _ t z=>.cells (match d with
  | .agg ps=>(ps.map fun
   | .lit (.int k z)=>Value.int k z
   | _=>Value.bool false).toArray
  | _=>#[]) t z
 | o=>o
open Go.RowKit Pl Go.Wk Go.ChangeShapes Go.WideShapes
section
variable {H:Type} {enc:TypeId×Value->H} {w:World} {base b0:Nat} {spare:Nat->Bool} {held:Bool}
theorem Qml{v:Value}{d:DataW H}{p:List MemPlace}(hv:Value.okWide Tryz.prog w .any b0 59 v)(h:DataW.Trod enc Tryz.prog w base spare held 59 v d p)(hb:Rows.uptoBulk d<=1048576): ∃ r,RowE w v r:=by
 obtain⟨a,len,i,rfl⟩:=okWide_slice Tryz.underlying59 hv;obtain⟨j,u⟩:=h;obtain⟨q,e,o⟩:=Qjb u hb;have C:Value.slice a len i=q.1:=by
  injection e
 exact⟨q.2,C ▸ o⟩
end
open Go.RowKit Pl Go.Wk
attribute [local irreducible] WC WL QX WD WDB WP WN WG WH WM
def CuV(w:World)(x cu:Value)(p st:Nat): Prop:=∃(A1 A2 A3 A4 A5:Option Addr) (n1 n2 n3 n4 n5 c1 c2 c3 c4 c5:Nat) (pv:Value),x=.agg #[.slice A1 n1 c1,.slice A2 n2 c2,.slice A3 n3 c3,.slice A4 n4 c4,.slice A5 n5 c5]/\cu=.agg #[.slice A1 n1 c1,.slice A2 n2 c2,.slice A3 n3 c3,.slice A4 n4 c4,.slice A5 n5 c5,pv,.int .i64 (st:Int)]/\NatV w pv p
theorem CuV.ext{w w':World}{x cu:Value}{p st:Nat}(h:CuV w x cu p st)(hx:Ext w w'): CuV w' x cu p st:=by
 obtain⟨A1,A2,A3,A4,A5,C,u,o,j,i,c1,c2,Z,U,O,pv,J,G,D⟩:=h;exact⟨A1,A2,A3,A4,A5,C,u,o,j,i,c1,c2,Z,U,O,pv,J,G,D.ext hx⟩
theorem Qgn{w:World}{A:Option Addr}{r:Row}{b t:Nat}{cs:List Value}(hR:RdR w A r)(hB:Blk w b t cs)(hs:∀ u∈cs,∀ s,u≠.string s): Off (λk=>k=b) w λu=>RdR u A r:=Jwc hR λh0 j e (e2:j.block=b)=>by
 obtain⟨J,o,D,i⟩:=hR.2 h0;rw[e]at o;injection o with o
 subst o;cases r with
 | nil=>simp[Jp]at h0
 | cons v r=>
  have C:w.cell? (j.add 2)=some (.string v.str):=i 2 _ rfl;have h3:=World.cell?_spot C;have h4:(j.add 2).block=b:=by grind [Ur]
  have G:j.add 2=⟨b,(j.add 2).off,none⟩:=by
   generalize hq:j.add 2=q at *
   obtain⟨Z,U,O⟩:=q;grind
  rw[G,hB.cell]at C;grind
section
variable {w:World} {x cu:Value} {f:Nat} {ds:List Bool} {kf:Nat->Nat} {pf:Nat->Int} {BB:Nat->List BkT} {tot:Nat} {L:List Row} {p st:Nat}
end
end Go.Proofs.YtgobkbeokaaplaaGreatDoor
namespace Go.Wk
open Go.RowKit
variable {ds:List Nat}{l:List Oper}{b d i k t:Nat}{T:Nat->Bool}{v:Value}{w w' w0:World}
structure SF where
 p: Value->World->Prop
 st:∀ {v:Value} {w w':World},p v w->Ext w w'->p v w'
def SF.bk{cs:List Value}(h:Blk w b t cs): SF:=⟨λv _=>v=.agg cs.toArray,λh _=>h⟩
def SF.eq(c:Value): SF:=⟨λv _=>v=c,λh _=>h⟩
def Jvf(o:Oper)(k:Nat): Bool:=o.after.any λe=>Region.binds .any e && e.on == k
def accB(l:List Oper): Bool:=(List.range l.length).all λi=>match nth l i with
 | some o=>o.after.all λe=>!Region.binds .any e || Nat.blt e.on i
 | none=>true
def slM(vs:Nat->Value)(al:AL): List Nat->Nat->AL
 | [],_=>al
 | d::r,i=>(d,vs i)::slM vs al r (i+1)
theorem Jwm{vs:Nat->Value}{al:AL}{t:Nat}: ∀ {ds:List Nat} {i:Nat},t ∉ ds->lk (slM vs al ds i) t=lk al t
 | [],_,_=>rfl
 | d::r,i,h=>by
  unfold slM;rw[Kn _ _ (λe=>h (by grind))];exact Jwm λh'=>h (List.mem_cons_of_mem _ h')
theorem Jqk{vs:Nat->Value}{al:AL}: ∀ {ds:List Nat} {i j:Nat},ds.Nodup->j<ds.length->lk (slM vs al ds i) (ds.getD j 0)=some (vs (i+j))
 | [],_,_,_,h=>by simp at h
 | d::r,i,0,_,_=>by unfold slM;simp[Jzl]
 | d::r,i,j+1,hn,hj=>by
  have hn':=List.nodup_cons.1 hn;have hj':j<r.length:=by simpa using hj
  unfold slM;have e:(d::r).getD (j+1) 0=r.getD j 0:=by simp
  rw[e];have hm:r.getD j 0∈r:=by grind
  rw[Kn _ _ (λe=>hn'.1 (by rw[e];exact hm)),Jqk hn'.2 hj'];congr 2;omega
theorem Jgn(h:t∈ds): ∃ j,j<ds.length/\ds.getD j 0=t:=by
 obtain⟨j,i,e⟩:=List.getElem_of_mem h;exact⟨j,i,by grind⟩
section
variable {P:Program} {n:Nat} {al:AL} {w:World} {Q:Exit->Act->World->Prop} {ops:Array Oper}
def toM(G:Act->World->Prop): Exit->Act->World->Prop
 | .normal,a,w=>G a w
 | _,_,_=>False
theorem Jnk{o:Oper}{G:Act->World->Prop}(ho:ops[i]?=some o)(h:WL P n ops (toM G) [o] al w): ∀ a,Fr n al a->wpOp P ops (QF Q) i G a w:=λa C=>by
 have j:=h a C;unfold wpList at j;unfold wpOp;simp only[ho];have u:¬ LetsOut (toM G):=by rintro⟨a,w,h⟩;exact h
 split
 .rename_i hw;simp only[hw,if_true]at j;rcases j with j|⟨_,j⟩
  .left
   refine Oper.wp_mono (K:=wpList P ops (toM G) []) (λJ w' D=>D) ?_;unfold Oper.wp at j ⊢;grind [Yh,toM]
  exact absurd j u
 rename_i hw;simp only[hw]at j;exact j
def PM(n:Nat)(al:AL)(w:World)(d:Nat)(F:SF)(a:Act)(w':World): Prop:=∃ v,Fr n ((d,v)::al) a/\Ext w w'/\F.p v w'
theorem Yr{F:SF}(hx:Ext w w')(h:F.p v w'): QX n (toM (PM n al w d F)) .normal ((d,v)::al) w':=λa i=>⟨v,i,hx,h⟩
def fiM(Fs:List SF)(k:Nat)(v:Value)(w:World): Prop:=(Fs.getD k ⟨λ_ _=>True,λ_ _=>trivial⟩).p v w
theorem fiM.ext{Fs:List SF}{w:World}(h:fiM Fs k v w)(hx:Ext w w'): fiM Fs k v w':=SF.st _ h hx
def OpM(P:Program)(n:Nat)(ops:Array Oper)(al:AL)(w0:World)(ds:List Nat)(Fs:List SF)(i:Nat)(o:Oper): Prop :=
 ∀ vs w1,Ext w0 w1->(∀ k,Jvf o k=true->fiM Fs k (vs k) w1)->WL P n ops (toM (PM n (slM vs al ds 0) w1 (ds.getD i 0) (Fs.getD i ⟨λ_ _=>True,λ_ _=>trivial⟩))) [o] (slM vs al ds 0) w1
def GoM(P:Program)(n:Nat)(ops:Array Oper)(al:AL)(w0:World)(ds:List Nat)(Fs:List SF): Nat->Nat->List Oper->Prop
 | 0,_,_=>True
 | _+1,_,[]=>True
 | m+1,i,o::r=>OpM P n ops al w0 ds Fs i o/\GoM P n ops al w0 ds Fs m (i+1) r
theorem GoM.get{w0:World}{ds:List Nat}{Fs:List SF}: ∀ {l:List Oper} {m s i:Nat} {o:Oper},GoM P n ops al w0 ds Fs m s l->i<m->l[i]?=some o->OpM P n ops al w0 ds Fs (s+i) o
 | [],_,_,_,_,_,_,h=>by simp at h
 | x::r,0,_,_,_,_,h0,_=>by omega
 | x::r,m+1,s,0,o,h,_,e=>by
  simp only[List.getElem?_cons_zero,Option.some.injEq]at e;subst e;exact h.1
 | x::r,m+1,s,i+1,o,h,h0,e=>by
  have:=GoM.get h.2 (by omega:i<m) (by simpa using e);grind
def ndB: List Nat->Bool
 | []=>true
 | d::r=>!(r.any λx=>Nat.beq d x) && ndB r
theorem Jbd: ∀ {ds:List Nat},ndB ds=true->ds.Nodup
 | [],_=>List.nodup_nil
 | d::r,h=>by
  simp only[ndB,Bool.and_eq_true,Bool.not_eq_true']at h;refine List.nodup_cons.2 ⟨λhm=>?_,Jbd h.2⟩;have:=List.any_eq_false.1 h.1 d hm;simp at this
def behB(ops:Array Oper)(F m q:Nat): Bool:=(List.range ops.size).all λi=>Nat.blt i m || (List.range m).all λj=>Nat.beq j q || Ug ops F i j
theorem Qqg(m k i:Nat): (lst m k)[i]?=if i<m then some (Nat.blt i k) else none:=by grind [lst]
theorem Qyx{m q F fuel':Nat}{Fs:List SF}(hml:m<=l.length)(hacc:accB l=true)(hbeh:behB l.toArray F m q=true)(hnd:ndB ds=true)(hlen:ds.length=m)(hfree:∀ d∈ds,lk al d=none)(hop:GoM P n l.toArray al w0 ds Fs m 0 l)(Uw:∀ vs w1,Ext w0 w1->(∀ k,k<m->fiM Fs k (vs k) w1)->WH P n l.toArray Q T fuel' (lst l.length m) (slM vs al ds 0) w1)(hend2:q<m->∀ vs w1,Ext w0 w1->(∀ k,k<m->k≠q->fiM Fs k (vs k) w1)->WH P n l.toArray Q T (fuel'+1) ((lst l.length m).setIfInBounds q false) (slM vs al ds 0) w1):
  ∀(us:List Nat) (listed:Array Bool) (a:Act) (w:World),us.Nodup->(∀ k,k<m->(listed.getD k true=false↔k∈us))->(∀ k,m<=k->k<l.length->listed.getD k true=false)->(∀ k∈us,k<m)->listed.size=l.length->Closed l.toArray listed->Fr n al a->Ext w0 w ->
   (∀ k,k<m->k ∉ us->fiM Fs k (a.tmps.getD (ds.getD k 0) undef) w)->Vm P l.toArray Q T (us.length+fuel') listed a w:=by
 have hN:=Jbd hnd;have G:∀ a:Act,Fr n al a->Fr n (slM (λj=>a.tmps.getD (ds.getD j 0) undef) al ds 0) a:=λa ha=>⟨ha.size,ha.defers,λt v h=>by
  by_cases hm:t∈ds
  .obtain⟨j,hj,e⟩:=Jgn hm;rw[<-e,Jqk hN hj]at h;grind
  rw[Jwm hm]at h;exact ha.has t v h⟩
 intro us;generalize hL:us.length=L
 induction L generalizing us with
 | zero=>
  intro listed a w hu O a4 a1 aa U ha hx hf;have ad:us=[]:=List.length_eq_zero_iff.1 hL;subst ad;have e:listed=lst l.length m:=by
   refine Array.ext_getElem? λi=>?_;rw[Qqg];by_cases hi:i<l.length
   .rw[if_pos hi];have D:i<listed.size:=om
    by_cases a3:i<m
    .have J:=O i a3;have C:listed.getD i true=true:=by grind
     simp[D]at C;simp[D,C,Nat.blt];omega
    have C:=a4 i om hi;simp[D]at C;have h3:Nat.blt i m=false:=by
     cases hh:Nat.blt i m with
     | false=>rfl
     | true=>exact absurd (show i+1<=m by simpa [Nat.blt] using hh) om
    simp[D,C,h3]
   repeat grind
  rw[Nat.zero_add,e];rw[e]at U;exact Uw _ w hx (λk Z=>hf k Z (by simp)) U a (G a ha)
 | succ L ih=>
  intro listed a w hu O a4 a1 aa U ha hx hf;rw[show L+1+fuel'=(L+fuel')+1 by omega];have a7:us≠[]:=by grind
  by_cases hq:us=[q]
  .have ab:q<m:=a1 q (by rw[hq];simp);have ak:L=0:=by grind
   have e:listed=(lst l.length m).setIfInBounds q false:=by
    refine Array.ext_getElem? λi=>?_;by_cases hqi:q=i
    .subst hqi;have J:=(O q ab).2 (by rw[hq];simp);have C:q<listed.size:=om
     simp[C]at J;grind [lst]
    rw[Array.getElem?_setIfInBounds_ne hqi,Qqg];by_cases hi:i<l.length
    .rw[if_pos hi];have D:i<listed.size:=om
     by_cases a3:i<m
     .have J:=O i a3;have C:listed.getD i true=true:=by grind
      simp[D]at C;simp[D,C,Nat.blt];omega
     have C:=a4 i om hi;simp[D]at C;have h3:Nat.blt i m=false:=by
      cases hh:Nat.blt i m with
      | false=>rfl
      | true=>exact absurd (show i+1<=m by simpa [Nat.blt] using hh) om
     simp[D,C,h3]
    repeat grind
   rw[ak,e,show 0+fuel'+1=fuel'+1 by omega];rw[e]at U;exact hend2 ab _ w hx (λk Z av=>hf k Z (by grind)) U a (G a ha)
  obtain⟨k0,ah,ao⟩:∃ k,k∈us/\k≠q:=by
   refine Classical.byContradiction λau=>?_;have G:∀ k∈us,k=q:=by grind
   apply hq
   match us,hu,a7,G with
   | [x],_,_,h=>rw[h x (by simp)]
   | x::y::r,hu,_,h=>
    have J:=h x (by simp);have C:=h y (by simp);grind
  refine⟨λhr=>?_,λi hi=>?_⟩
  .exfalso
   obtain⟨k,Z,an⟩:∃ k,k∈us/\∀ j,j<k->j ∉ us:=by
    have:∀ s k,k∈us->k<s->∃ k,k∈us/\∀ j,j<k->j ∉ us:=by
     intro s;induction s with
     | zero=>intro k _ h;omega
     | succ s ihs=>
      grind
    grind
   have a8:=a1 k Z;have ag:=(O k a8).2 Z;have a9:k<l.length:=om
   have ar:k∈Region.ready .any l.toArray listed:=by
    refine mem_ready.2 ⟨ag,l[k],by simp[a9],λe he hb=>?_⟩;have J:=List.all_eq_true.1 hacc k (List.mem_range.2 a9);have hn:nth l k=some l[k]:=by rw[Xb];simp[a9]
    rw[hn]at J;simp only[Array.all_eq_true_iff_forall_mem,Bool.or_eq_true,Bool.not_eq_true']at J;have C:=(J e he).resolve_left (by rw[hb];simp);have h3:e.on<k:=by(have:e.on+1<=k:=by simpa [Nat.blt] using C);(omega)
    grind
   grind
  obtain⟨ae,o,ho,ap⟩:=mem_ready.1 hi;have ac:l[i]?=some o:=by simpa using ho
  have ai:i<l.length:=by grind
  have a5:i<m:=by
   rcases Nat.lt_or_ge i m with h|h
   .exact h
   exfalso
   have J:=List.all_eq_true.1 hbeh i (List.mem_range.2 (by simpa using ai));simp only[Bool.or_eq_true]at J;have C:=J.resolve_left (by
    intro hh;have:i+1<=m:=by simpa [Nat.blt] using hh
    omega)
   have am:=List.all_eq_true.1 C k0 (List.mem_range.2 (a1 k0 ah));simp only[Bool.or_eq_true]at am;grind [Nat.eq_of_beq_eq_true,Jxn,Jxm]
  have a3:=(O i a5).1 ae;have hO:=GoM.get hop a5 ac;rw[Nat.zero_add]at hO;have hW:=hO (λj=>a.tmps.getD (ds.getD j 0) undef) w hx λk Z=>by
   unfold Jvf at Z;grind
  have J:=Jnk (Q:=Q) (ops:=l.toArray) (by simpa using ac) hW a (G a ha);refine wpOp_mono (λa' w' h=>?_) J;obtain⟨v,a2,a6,hF⟩:=h;have aj:lk ((ds.getD i 0,v)::slM (λj=>a.tmps.getD (ds.getD j 0) undef) al ds 0) (ds.getD i 0)=some v:=Jzl _ _ _;have ay:ds.getD i 0∈ds:=by grind
  refine⟨λ_=>a6,ih (us.erase i) (by grind) _ a' w' (hu.erase i) (λk a8=>?_) (λk J C=>?_) (λk Z=>a1 k (hu.mem_erase_iff.1 Z).2) (by simp[aa]) (U.step hi) ?_ (hx.trans a6) λk Z ax=>?_⟩
  .by_cases e:i=k
   .subst e;have:i<listed.size:=om
    simp only[hu.mem_erase_iff];simp[this]
   rw[getD_set_ne true e,O k a8,hu.mem_erase_iff];grind
  .rw[getD_set_ne true om];exact a4 k J C
  .refine⟨a2.size,a2.defers,λt u aq=>?_⟩;have hm:t ∉ ds:=by grind
   exact a2.has t u (by grind [Kn,Jwm])
  by_cases e:k=i
  .subst e;rw[a2.has _ _ aj];exact hF
  have af:k ∉ us:=by grind
  have a7:ds.getD i 0≠ds.getD k 0:=λh=>by
   have J:=Jqk (vs:=λj=>Value.int .i64 (j:Int)) (al:=[]) (i:=0) hN (j:=i) om;have C:=Jqk (vs:=λj=>Value.int .i64 (j:Int)) (al:=[]) (i:=0) hN (j:=k) om;grind
  have h3:=a2.has (ds.getD k 0) _ (by rw[Kn _ _ a7];exact Jqk hN om);simp only[Nat.zero_add]at h3;rw[h3];exact(hf k Z af).ext a6
theorem hmkq(m q F fuel':Nat)(ds:List Nat)(Fs:List SF)(hc:(accB l && behB l.toArray F m q && ndB ds && Nat.beq ds.length m && Nat.beq (m+fuel') l.length)=true)(hfree:(ds.all λd=>(lk al d).isNone)=true)(hop:GoM P n l.toArray al w ds Fs m 0 l)(Uw:∀ vs w1,Ext w w1->(∀ k,(hk:k<m:=by decide)->fiM Fs k (vs k) w1)->WH P n l.toArray Q T fuel' (lst l.length m) (slM vs al ds 0) w1)(hend2:q<m->∀ vs w1,Ext w w1->(∀ k,(hk:k<m:=by decide)->(hq:k≠q:=by decide)->fiM Fs k (vs k) w1)->WH P n l.toArray Q T (fuel'+1) ((lst l.length m).setIfInBounds q false) (slM vs al ds 0) w1): WH P n l.toArray Q T l.toArray.size (Array.replicate l.toArray.size false) al w:=λj a D=>by
 simp only[Bool.and_eq_true]at hc;obtain⟨⟨⟨⟨Z,U⟩,O⟩,J⟩,G⟩:=hc;have u:ds.length=m:=Nat.eq_of_beq_eq_true J;have o:m+fuel'=l.length:=Nat.eq_of_beq_eq_true G;have:=Qyx (Q:=Q) (T:=T) (F:=F) (q:=q) (fuel':=fuel') om Z U O u (λd C=>by simpa using List.all_eq_true.1 hfree d C) hop Uw hend2 (List.range m) (Array.replicate l.length false) a w List.nodup_range (λk hk=>?_) (λk _ h=>by simp[h]) (λk hk=>List.mem_range.1 hk) (by simp) (by simpa using j) D (Ext.refl w) λk hk i=>absurd (List.mem_range.2 hk) i
 .grind
 have:k<l.length:=om
 simp[this,hk]
theorem hmk(m F fuel':Nat)(ds:List Nat)(Fs:List SF)(hc:(accB l && behB l.toArray F m m && ndB ds && Nat.beq ds.length m && Nat.beq (m+fuel') l.length)=true)(hfree:(ds.all λd=>(lk al d).isNone)=true)(hop:GoM P n l.toArray al w ds Fs m 0 l)(Uw:∀ vs w1,Ext w w1->(∀ k,(hk:k<m:=by decide)->fiM Fs k (vs k) w1)->WH P n l.toArray Q T fuel' (lst l.length m) (slM vs al ds 0) w1): WH P n l.toArray Q T l.toArray.size (Array.replicate l.toArray.size false) al w :=
 hmkq m m F fuel' ds Fs hc hfree hop Uw λh=>absurd h (Nat.lt_irrefl m)
end
end Go.Wk
namespace Go.Wk
open Go.RowKit
variable {ds r us:List Nat}{l:List Oper}{Fs:List SF}{i j k:Nat}{w0:World}
section
variable {P:Program} {n:Nat} {al:AL} {w:World} {Q:Exit->Act->World->Prop} {ops:Array Oper}
def OpS(P:Program)(n:Nat)(ops:Array Oper)(al:AL)(w0:World)(us ds:List Nat)(Fs:List SF)(i:Nat)(o:Oper): Prop :=
 ∀ vs w1,Ext w0 w1->(∀ j,j<us.length->Jvf o (us.getD j 0)=true->fiM Fs j (vs j) w1)->WL P n ops (toM (PM n (slM vs al ds 0) w1 (ds.getD i 0) (Fs.getD i ⟨λ_ _=>True,λ_ _=>trivial⟩))) [o] (slM vs al ds 0) w1
def GoS(P:Program)(n:Nat)(l:List Oper)(al:AL)(w0:World)(us ds:List Nat)(Fs:List SF): Nat->List Nat->Prop
 | _,[]=>True
 | i,k::r=>(∀ o,nth l k=some o->OpS P n l.toArray al w0 us ds Fs i o)/\GoS P n l al w0 us ds Fs (i+1) r
theorem GoS.get{w0:World}{l:List Oper}{us ds:List Nat}{Fs:List SF}: ∀ {r:List Nat} {s i:Nat} {o:Oper},GoS P n l al w0 us ds Fs s r->i<r.length->nth l (r.getD i 0)=some o->OpS P n l.toArray al w0 us ds Fs (s+i) o
 | [],_,_,_,_,h,_=>by simp at h
 | x::r,s,0,o,h,_,e=>h.1 o e
 | x::r,s,i+1,o,h,h0,e=>by
  have:=GoS.get h.2 (by simpa using h0:i<r.length) (by simpa using e);rwa [show s+(i+1)=s+1+i by omega]
theorem gsc{o:Oper}(h:∀ vs w1,Ext w0 w1->(∀ j,(hj:j<us.length:=by decide)->(hk:Jvf o (us.getD j 0)=true:=by kernel_rfl)->fiM Fs j (vs j) w1)->WL P n l.toArray (toM (PM n (slM vs al ds 0) w1 (ds.getD i 0) (Fs.getD i ⟨λ_ _=>True,λ_ _=>trivial⟩))) [o] (slM vs al ds 0) w1)(h2:GoS P n l al w0 us ds Fs (i+1) r)(ho:nth l k=some o:=by rfl): GoS P n l al w0 us ds Fs i (k::r):=⟨λC u=>by rw[ho]at u;injection u with u;subst u;exact h,h2⟩
theorem gse: GoS P n l al w0 us ds Fs i []:=trivial
theorem Jgk(h:us.Nodup)(hi:i<us.length)(hj:j<us.length)(e:us.getD i 0=us.getD j 0): i=j:=by grind [List.getElem?_eq_getElem,List.pairwise_iff_getElem.1,Nat.lt_trichotomy]
end
end Go.Wk
