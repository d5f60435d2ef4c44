/- Part 11 of the proof: Rel, Rel2, Rel3, Rel4. -/
import Derived.Test.YtefpailelagbkaaGreatDoorJ10
set_option linter.unusedVariables false
set_option maxRecDepth 100000
set_option maxHeartbeats 40000000
namespace Go.Proofs.YtefpailelagbkaaGreatDoor
open Go.RowKit Pl Go.Wk
attribute [local irreducible] WC WL QX WD WDB WP
def Jxf(v:V): Bool:=if v.kind=1 then (v.bytes == []) else if v.kind=2 then decide (v.num=0) && decide (v.bytes.length<=24) else false
theorem str_size(v:V): v.str.size=v.bytes.length:=(Array.length_toList (xs:=v.str.data)).symm
theorem str_emp(v:V): (v.str.toList == (⟨#[]⟩:ByteArray).toList)=(v.bytes == []):=by rw [ByteArray.toList_eq,ByteArray.toList_eq];rfl
theorem Qqc(v:V)(w:World): Ret Tryz.prog 149 [v.val] w λr w'=>r=.bool (Jxf v)/\Ext w w':=by
 refine Jjb Tryz.func149 Tryz.ntmps149 rfl (by kernel_rfl) rfl ?_;refine ρ ?_;refine bx (cs:=v.cells) ?_;intro w1 b hx1 hb hB;refine ρ ?_;refine ld (hB.at (i:=0) rfl) ?_;refine ρ ?_;refine ci (λh=>?_) (λh=>?_)
 ·refine ρ ?_;refine ld (hB.at (i:=2) rfl) ?_;refine ρ ?_;refine Jjq ⟨?_,hx1⟩;rw [Jxf,if_pos (Jqj h),str_emp]
 refine ρ ?_;refine ci (λh2=>?_) (λh2=>?_)
 ·refine ρ ?_;refine ld (hB.at (i:=1) rfl) ?_;refine ρ ?_;refine ki 15 (λh3=>?_) (λh3=>?_)
  ·refine ρ ?_;refine ld (hB.at (i:=2) rfl) ?_;refine ρ ?_;refine Jjq ⟨?_,hx1⟩;rw [Jxf,if_neg (Jqk h),if_pos (Jqj h2),decide_eq_true (Jqj h3),str_size,Bool.true_and];congr 1
   exact decide_eq_decide.2 (by omega)
  ·refine ρ ?_;refine Jjq ⟨?_,hx1⟩;rw [Jxf,if_neg (Jqk h),if_pos (Jqj h2),decide_eq_false (Jqk h3)];rfl
 ·refine ρ ?_;refine Jjq ⟨?_,hx1⟩;rw [Jxf,if_neg (Jqk h),if_neg (Jqk h2)]
theorem rowValid_any{v:Value}{r:Row}{w:World}(h:RowV w v r): Ret Tryz.prog 115 [v] w λu w'=>u=.bool (r.all Jxf)/\Ext w w':=by
 obtain ⟨A,c,rfl,h2,h3,hr⟩:=h;refine Jjb Tryz.func115 Tryz.ntmps115 rfl (by kernel_rfl) rfl ?_;refine ρ ?_;refine Jqp (fun (k:Nat)=>[(0,.slice A r.length c),(5,.int .i64 (r.length:Int)),(6,.int .i64 (k:Int))]) (λk w'=>Ext w w'/\k<=r.length/\(r.take k).all Jxf=true) (λk=>r.length-k) 0 sB ⟨Ext.refl w,Nat.zero_le _,rfl⟩ ?_;rintro k w1 ⟨hx,hk,hI⟩;refine ρ ?_;refine ci (λh=>?_) (λh=>?_)
 ·have lk:k<r.length:=by have:=of_decide_eq_true h;omega
  have hr1:=hr.ext hx;refine ρ ?_;refine ixq 3 k hr1 lk ?_;refine ρ ?_;refine lds (λj u hu=>RdR.cell hr1 lk hu) ?_;refine ρ ?_;refine cl (Qqc (r.getD k V0) _) ?_;rintro u w2 ⟨rfl,hx2⟩;refine ρ ?_;refine ci (λh=>?_) (λh=>?_)
  ·refine ρ ?_;refine Jjq ⟨?_,hx.trans hx2⟩;have h':Jxf (r.getD k V0)=false:=by simpa using h
   congr 1
   symm
   rw [List.all_eq_false];exact ⟨_,getD_mem lk,by rw [h'];decide⟩
  ·refine ρ ?_;have h':Jxf (r.getD k V0)=true:=by simpa using h
   refine Jjs (k+1) sO ⟨hx.trans hx2,by omega,?_⟩ (by omega);rw [Jjm V0 lk,List.all_append,hI,List.all_cons,h'];rfl
 ·refine ρ ?_;refine Jjq ⟨?_,hx⟩;rw [List.take_of_length_le (by have:=of_decide_eq_false h;omega)]at hI;rw [hI]
def RelV(w:World)(v:Value)(ar:Nat)(ls:List Row): Prop:=∃ rv,v=.agg #[.int .i64 (ar:Int),rv]/\RowsV w rv ls
theorem RelV.ext{w w':World}{v:Value}{ar:Nat}{ls:List Row}(h:RelV w v ar ls)(hx:Ext w w'): RelV w' v ar ls:=by
 obtain ⟨rv,e,h⟩:=h;exact ⟨rv,e,h.ext hx⟩
theorem zRel: Jxd Tryz.prog 67=some (.agg #[.int .i64 0,.slice none 0 0]):=by kernel_rfl
theorem bld0Rel(w:World): (Instr.build 67 #[]).run Tryz.prog w=.ok (.agg #[.int .i64 0,.slice none 0 0]) w:=by kernel_rfl
theorem bld1Rel(z:Int)(w:World): (Instr.build 67 #[(0,.int .i64 z)]).run Tryz.prog w=.ok (.agg #[.int .i64 z,.slice none 0 0]) w:=by kernel_rfl
theorem bld2Rel(z:Int)(A:Option Addr)(n c:Nat)(w:World): (Instr.build 67 #[(0,.int .i64 z),(1,.slice A n c)]).run Tryz.prog w=.ok (.agg #[.int .i64 z,.slice A n c]) w:=by kernel_rfl
theorem one2{z:Int}{A:Option Addr}{n c:Nat}: ∀ u∈[Value.int .i64 z,.slice A n c],u.oneCell'=true:=by
 intro u hu;simp at hu;rcases hu with rfl|rfl<;>rfl
theorem relNew_any(z:Int)(w:World): Ret Tryz.prog 76 [.int .i64 z] w λv w'=>Ext w w'/\∃ z' e,v=.tuple #[.agg #[.int .i64 z',.slice none 0 0],.int .i64 e]/\(e=0->z'=z)/\(e=0↔0<=z/\z<=32):=by
 refine Jjb Tryz.func76 Tryz.ntmps76 rfl (by kernel_rfl) rfl ?_;refine ρ ?_;refine alc (cs:=[.int .i64 0,.slice none 0 0]) zRel ?_;intro w1 b hx1 hb hB;refine ρ ?_;refine Jzm (fun (t:Bool)=>[(0,.int .i64 z),(2,.pointer (some ⟨b,0,none⟩)),(9,.bool t)]) (λt w'=>w'=w1/\(t=true↔¬ (0<=z/\z<=32))) ?_ ?_
 ·refine ki 6 (λh=>?_) (λh=>?_)
  ·refine ρ ?_;exact Jjn true sB ⟨rfl,by have:=of_decide_eq_true h;simp;omega⟩
  ·refine ρ ?_;refine Jjn _ sB ⟨rfl,?_⟩;have:=of_decide_eq_false h;rw [decide_eq_true_iff];omega
 rintro t w' ⟨rfl,ht⟩;refine ci (λh=>?_) (λh=>?_)
 ·refine ρ ?_;refine bld (bld0Rel _) ?_;refine ρ ?_;refine stb hB ?_ one2;intro w2 hB2 _ hx2;refine ρ ?_;exact Jyk hB2 ⟨hx2 w hx1 hb,0,3,rfl,λe=>(by cases e),⟨λe=>(by cases e),λe=>absurd e (ht.1 h)⟩⟩
 ·refine ρ ?_;refine bld (bld1Rel z _) ?_;refine ρ ?_;refine stb hB ?_ (one2 (z:=z) (A:=none) (n:=0) (c:=0));intro w2 hB2 _ hx2;refine ρ ?_;refine Jyk hB2 ⟨hx2 w hx1 hb,z,0,rfl,λ_=>rfl,⟨λ_=>?_,λ_=>rfl⟩⟩;by_cases hz:0<=z/\z<=32
  ·exact hz
  ·rw [ht.2 hz]at h;cases h
theorem accepts_any{ar:Int}{sv v:Value}{r:Row}{A:Option Addr}{n c:Nat}{w:World}(hs:sv=.slice A n c)(h:RowV w v r): Ret Tryz.prog 77 [.agg #[.int .i64 ar,sv],v] w λu w'=>Ext w w'/\∃ e,u=.int .i64 e/\(e=0↔(r.length:Int)=ar/\r.all Jxf=true):=by
 subst hs;obtain ⟨B,c',rfl,h2,h3,hr⟩:=id h;refine Jjb Tryz.func77 Tryz.ntmps77 rfl (by kernel_rfl) rfl ?_;refine ρ ?_;refine bx (cs:=[.int .i64 ar,.slice A n c]) ?_;intro w1 b hx1 hb hB;refine ρ ?_;refine ld (hB.at (i:=0) rfl) ?_;refine ρ ?_;refine ci (λh=>?_) (λh1=>?_)
 ·refine ρ ?_;exact Jjq ⟨hx1,6,rfl,⟨λe=>(by cases e),λe=>absurd e.1 (Jks h)⟩⟩
 have e1:=Jkt h1;refine ρ ?_;refine cl (rowValid_any (h.ext hx1)) ?_;rintro u w2 ⟨rfl,hx2⟩;refine ρ ?_;refine ci (λh=>?_) (λh2=>?_)
 ·refine ρ ?_;refine Jjq ⟨hx1.trans hx2,4,rfl,⟨λe=>(by cases e),λe=>?_⟩⟩;rw [e.2]at h;cases h
 ·refine ρ ?_;refine Jjq ⟨hx1.trans hx2,0,rfl,⟨λ_=>⟨e1,by simpa using h2⟩,λ_=>rfl⟩⟩
open Go.RowKit Pl Go.Wk
theorem RowX.off{w:World}{N:Nat->Prop}{v:Value}{r:Row}(h:RowX w N v r): Off N w (λu=>RowV u v r):=by
 obtain ⟨A,c,e1,e2,e3,e4,e5⟩:=h;intro w' hg;refine ⟨A,c,e1,e2,e3,rdGr e4 hg λh0 ad e=>e5 (λe'=>?_) ad e⟩;subst e';simp [Jxt]at h0
theorem cfRow{w:World}{row:Option Nat}{ps:List Pr}(h:∀ p∈ps,Off (one row) w (λu=>RowV u p.1 p.2)): CF w row 117 #[] #[] ps []:=λw' hg p q hp hq=>
 Qqh (h p hp w' (GrN.by hg λk e=>e)) (h q hq w' (GrN.by hg λk e=>e))
theorem eqRow{w:World}{row:Option Nat}{ps:List Pr}(h:∀ p∈ps,Off (one row) w (λu=>RowV u p.1 p.2)): EqF w row 114 #[] #[] ps:=λw' hg p q hp hq=>
 rowEqual_any (h p hp w' (GrN.by hg λk e=>e)) (h q hq w' (GrN.by hg λk e=>e))
theorem ownB(A:Option Addr)(n c m d:Nat): (Value.slice A n c).ownBlock=(Value.slice A m d).ownBlock:=by cases A<;>rfl
theorem rowsOff{w:World}{N:Nat->Prop}{base:Nat}{A:Option Addr}{n c:Nat}{ps:List Pr}(hD:Dat w base (.slice A n c) ps)(hn:ps.length=n)(hmx:n<=1100000)(hnc:n<=c)(hN:∀ k,(Value.slice A n c).ownBlock=some k->¬ N k)(hr:∀ p∈ps,Off N w (λu=>RowV u p.1 p.2)): Off N w (λu=>RowsV u (.slice A n c) (ps.map (·.2))):=by
 intro w' hg;refine ⟨ps,A,c,rfl,by rw [hn],by omega,by omega,?_,λp hp=>hr p hp w' hg⟩;rw [hn];refine rdGr (hD.rd hn) hg λ_ ad e=>?_;subst e;exact hN _ rfl
def RowsP(N:Nat->Prop)(w:World)(v:Value)(ls:List Row): Prop:=∃ (ps:List Pr) (A:Option Addr) (c:Nat),ls=ps.map (·.2)/\v=.slice A ps.length c/\ps.length<=c/\ps.length<=1100000/\Off N w (λu=>Rd u 1 A ps.length (ps.map (·.1)))/\∀ p∈ps,Off N w (λu=>RowV u p.1 p.2)
theorem rowsP{w:World}{N:Nat->Prop}{base:Nat}{A:Option Addr}{n c:Nat}{ps:List Pr}(hD:Dat w base (.slice A n c) ps)(hn:ps.length=n)(hmx:n<=1100000)(hnc:n<=c)(hN:∀ k,(Value.slice A n c).ownBlock=some k->¬ N k)(hr:∀ p∈ps,Off N w (λu=>RowV u p.1 p.2)): RowsP N w (.slice A n c) (ps.map (·.2)):=by
 refine ⟨ps,A,c,rfl,by rw [hn],by omega,by omega,λw' hg=>?_,hr⟩;rw [hn];refine rdGr (hD.rd hn) hg λ_ ad e=>?_;subst e;exact hN _ rfl
theorem build_any{w:World}{base:Nat}{A:Option Addr}{n c ar:Nat}{ps:List Pr}(hD:Dat w base (.slice A n c) ps)(hn:ps.length=n)(hmx:n<=1100000)(hnc:n<=c)(hr:∀ p∈ps,Off (one (Value.slice A n c).ownBlock) w (λu=>RowV u p.1 p.2)):
  Ret Tryz.prog 78 [.int .i64 (ar:Int),.slice A n c] w λv w'=>w.grownBy w' (Value.slice A n c).ownBlock/\∃ rv e,v=.tuple #[rv,.int .i64 e]/\(∃ z B m d,rv=.agg #[.int .i64 z,.slice B m d])/\(n<=65536->e=0) /\
   (e=0->∃ m,Off (λk=>k<w.heap.size/\(Value.slice A n c).ownBlock≠some k) w' (λu=>RelV u rv ar m)/\m.length<=65536/\(∀ x∈m,x∈ps.map (·.2))/\((n<=12∨Srt [] (ps.map (·.2)))->Jvm [] (ps.map (·.2)) m)):=by
 refine Jjb Tryz.func78 Tryz.ntmps78 rfl (by kernel_rfl) rfl ?_;refine ρ ?_;refine alc (cs:=[.int .i64 0,.slice none 0 0]) zRel ?_;intro w1 b hx1 hb hB;have hD1:=hD.ext hx1;have hr1:∀ p∈ps,Off (one (Value.slice A n c).ownBlock) w1 (λu=>RowV u p.1 p.2):=λp hp=>(hr p hp).ext hx1;obtain ⟨own,hown⟩:∃ own,own=(Value.slice A n c).ownBlock:=⟨_,rfl⟩;have hownlt:∀ k,own=some k->k<w.heap.size:=λk e=>by
  obtain ⟨_,_,_,_,hf⟩:=Jjd hD.1;exact (hf k (by rw [<-e,hown])).2
 refine ρ ?_;refine cl (isSorted_any (hD1.rd hn) hn hmx (cfRow hr1)) ?_;rintro v w2 ⟨hx2,t,rfl,ht⟩;refine ρ ?_;refine Jzl (fun (q:List Pr)=>[(0,.int .i64 (ar:Int)),(1,.slice A n c),(4,.pointer (some ⟨b,0,none⟩))]) (λq w'=>DP w1 w' base A n c ps q/\Blk w' b 67 [.int .i64 0,.slice none 0 0]/\((n<=12∨Srt [] (ps.map (·.2)))->Srt [] (q.map (·.2)))) ?_ ?_
 ·have H2:=(DP.start hD1 hn).ext hx2;refine ci (λh=>?_) (λh=>?_)
  ·have hts:¬ SOn z0 (fP []) ps 0 n:=λe=>by have:=ht.2 e;rw [this]at h;cases h
   refine ρ ?_;refine cl (sortFunc_any H2.d H2.l hmx ((cfRow hr1).step H2)) ?_;rintro v w3 ⟨q,H3,hs⟩;refine ρ ?_;refine Jjn q sB ⟨H2.after H3,(hB.ext hx2).grown H3.g ((hB.ext hx2).ne_own H2.d.1 rfl),λe=>?_⟩;rcases e with e|e
   ·exact srt_of (by rw [H3.l];exact hs e)
   ·exfalso
    apply hts
    intro i j _ hij hj;have e':=(List.pairwise_map.1 e);rw [List.pairwise_iff_getElem]at e';have:=e' i j (by omega) (by omega) hij;unfold fP;rw [Jjh z0 ps (by omega),Jjh z0 ps (by omega)];exact this
  ·have ht':t=true:=by simpa using h
   refine ρ ?_;exact Jjn ps sB ⟨H2,hB.ext hx2,λ_=>srt_of (by rw [hn];exact ht.1 ht')⟩
 rintro q w3 ⟨H3,hB3,hs3⟩;have hr3:∀ p∈q,Off (one (Value.slice A n c).ownBlock) w3 (λu=>RowV u p.1 p.2):=λp hp=>(hr1 p (H3.p.mem_iff.1 hp)).grown H3.g λk e=>e;refine ρ ?_;refine cl (compact_any H3.d H3.l hmx hnc (eqRow hr3)) ?_;rintro v w4 ⟨ps',rfl,hD4,hdd,hsub,hg4⟩;have hle:ps'.length<=n:=by
  have:=ddF_len (q.map (·.2))
  rw [<-hdd,List.length_map,List.length_map,H3.l]at this;exact this
 have hB4:=hB3.grown hg4 (hB3.ne_own H3.d.1 rfl);have hr4:∀ p∈ps',Off (one own) w4 (λu=>RowV u p.1 p.2):=λp hp=>by rw [hown];exact (hr3 p (hsub p hp)).grown hg4 λk e=>e
 have hg14:w1.grownBy w4 own:=by rw [hown];exact Jjw H3.g hg4
 have hset:((n<=12∨Srt [] (ps.map (·.2)))->Jvm [] (ps.map (·.2)) (ps'.map (·.2))):=λe=>by
  have h1:=ddF_set (hs3 e);rw [<-hdd]at h1;exact ⟨h1.1,λx=>(h1.2 x).trans ((H3.p.map (·.2)).mem_iff)⟩
 generalize hm:ps'.length=m at *
 refine ρ ?_;refine ci (λh=>?_) (λh=>?_)
 ·have hbig:65536<m:=by have:=of_decide_eq_true h;omega
  refine ρ ?_;refine bld (bld0Rel _) ?_;refine ρ ?_;refine stb hB4 ?_ one2;intro w5 hB5 hg5 hx5;refine ρ ?_;refine Jyk hB5 ⟨?_,_,11,rfl,⟨0,none,0,0,rfl⟩,λe=>(by omega),λe=>(by cases e)⟩;have g1:=Jjw (Jqm hx1 own) hg14;rw [<-hown];exact ⟨hg5.os.trans g1.os,hg5.tape.trans g1.tape,hg5.output.trans g1.output,Nat.le_trans g1.size hg5.size,λk hk hn=>(hg5.block k (Nat.lt_of_lt_of_le hk g1.size) (λe=>by injection e with e;omega)).trans (g1.block k hk hn)⟩
 have hsm:m<=65536:=by have:=of_decide_eq_false h;omega
 clear h;obtain ⟨N',hN'⟩:∃ N':Nat->Prop,N'=λk=>k<w1.heap.size∨own=some k:=⟨_,rfl⟩;have hoB:(Value.slice A m c).ownBlock=own:=by rw [hown];exact ownB _ _ _ _ _
 refine ρ ?_;refine Jjv (fun (k:Nat) (qs:List Pr)=>[(0,.int .i64 (ar:Int)),(1,.slice A m c),(4,.pointer (some ⟨b,0,none⟩)),(19,.int .i64 (m:Int)),(20,.int .i64 (k:Int))])
  (λk qs w'=>k<=m/\qs.length=k/\qs.map (·.2)=(ps'.take k).map (·.2)/\Dat w' base (.slice A m c) (qs++ps'.drop k)/\(∀ p∈qs,Off N' w' (λu=>RowV u p.1 p.2))/\(∀ p∈ps',Off (one own) w' (λu=>RowV u p.1 p.2))/\Blk w' b 67 [.int .i64 0,.slice none 0 0]/\w1.grownBy w' own) (λk _=>m-k) 0 [] sB
  ⟨Nat.zero_le _,rfl,rfl,by simpa using hD4,λp hp=>(by cases hp),hr4,hB4,hg14⟩ ?_
 clear hD4 hr4 hB4 hg14;rintro k qs w5 ⟨hk,hq1,hq2,hD5,hqs5,hr5,hB5,hg5⟩;refine ρ ?_;have hl5:(qs++ps'.drop k).length=m:=by simp;omega
 refine ci (λh=>?_) (λh=>?_)
 ·have lk:k<m:=by have:=of_decide_eq_true h;omega
  have hget:(qs++ps'.drop k).getD k z0=ps'.getD k z0:=by
   simp only [List.getD];rw [List.getElem?_append_right (by omega),hq1,Nat.sub_self,List.getElem?_drop,Nat.add_zero]
  have hmem:ps'.getD k z0∈ps':=Jwc hm lk;refine ρ ?_;refine ix k (hD5.rd hl5) lk ?_;refine ρ ?_;refine ld (hD5.cell hl5 lk) ?_;rw [hget];refine ρ ?_;refine cl (Qjg (hr5 _ hmem).here N' (λj hj=>?_)) ?_
  ·subst hN';rcases hj with h'|h'
   ·exact Nat.lt_of_lt_of_le h' hg5.size
   ·exact Nat.lt_of_lt_of_le (hownlt j h') (Nat.le_trans hx1.size hg5.size)
  rintro v6 w6 ⟨hr6,hx6⟩;have hD6:=hD5.ext hx6;obtain ⟨s1,s2,s3⟩:=hD6.store hl5 lk (p:=(v6,(ps'.getD k z0).2)) hr6.v.one;refine ρ ?_;refine ix k (hD6.rd hl5) lk ?_;refine ρ ?_;refine sto (hD6.cell hl5 lk) s1 ?_ (hv:=hr6.v.one);refine ρ ?_;have e:(qs++ps'.drop k).set k (v6,(ps'.getD k z0).2)=(qs++[(v6,(ps'.getD k z0).2)])++ps'.drop (k+1):=by
   rw [List.set_append_right _ _ (by omega),hq1,Nat.sub_self,List.drop_eq_getElem_cons (by omega),List.set_cons_zero,List.append_assoc];rfl
  rw [e]at s2;rw [hoB]at s3;refine Jjj (k+1) (qs++[(v6,(ps'.getD k z0).2)]) sO ⟨by omega,by simp [hq1],?_,s2,λp hp=>?_,λp hp=>?_,?_,?_⟩ (by omega)
  ·rw [List.map_append,hq2,Jjm z0 (by omega),List.map_append];rfl
  ·rcases List.mem_append.1 hp with h'|h'
   ·exact ((hqs5 p h').ext hx6).grown s3 (λk e=>by rw [hN'];exact .inr e)
   ·rw [List.mem_singleton.1 h'];exact hr6.off.grown s3 (λk e=>by rw [hN'];exact .inr e)
  ·exact ((hr5 p hp).ext hx6).grown s3 (λk e=>e)
  ·have h7:=hB5.ext hx6;refine h7.grown s3 ?_;have:=h7.ne_own hD6.1 rfl;rwa [hoB]at this
  ·exact Jjw hg5 (Jjw (Jqm hx6 _) s3)
 ·have e:k=m:=by have:=of_decide_eq_false h;omega
  subst e;rw [List.drop_of_length_le (by omega),List.append_nil]at hD5 hl5;rw [List.take_of_length_le (by omega)]at hq2;refine ρ ?_;refine bld (bld2Rel (ar:Int) A k c _) ?_;refine ρ ?_;refine stb hB5 ?_ (one2 (z:=(ar:Int)) (A:=A) (n:=k) (c:=c));intro w7 hB7 hg7 hx7;refine ρ ?_;have hbN:N' b:=by rw [hN'];exact .inl hB.lt
  have hD7:Dat w7 base (.slice A k c) qs:=⟨hD5.1.kept hg7 (.inr (λe=>hB5.ne_own hD5.1 rfl e.symm)),hD5.2⟩;have hoff:=rowsOff (N:=λj=>j<w.heap.size/\own≠some j) hD7 hl5 (by omega) (by omega) (λj ej hj=>hj.2 (by rw [<-ej,hoB])) (λp hp=>((hqs5 p hp).grown hg7 (λj ej=>by injection ej with ej;rw [<-ej];exact hbN)).mono λj _ hj=>by rw [hN'];exact .inl (Nat.lt_of_lt_of_le hj.1 hx1.size));refine Jyk hB7 ⟨?_,_,0,rfl,⟨_,_,_,_,rfl⟩,λ_=>rfl,λ_=>⟨qs.map (·.2),?_,by rw [List.length_map];omega,?_,?_⟩⟩
  ·have g1:=Jjw (Jqm hx1 own) hg5;rw [<-hown];exact ⟨hg7.os.trans g1.os,hg7.tape.trans g1.tape,hg7.output.trans g1.output,Nat.le_trans g1.size hg7.size,λj hj hn=>(hg7.block j (Nat.lt_of_lt_of_le hj g1.size) (λe=>by injection e with e;omega)).trans (g1.block j hj hn)⟩
  ·rw [<-hown];exact hoff.imp λu hu=>⟨_,rfl,hu⟩
  ·intro x hx;rw [hq2,hdd]at hx;have:x∈q.map (·.2):=by
    obtain ⟨p,hp,rfl⟩:=List.mem_map.1 (hdd ▸ hx);exact List.mem_map.2 ⟨p,hsub p hp,rfl⟩
   exact (H3.p.map (·.2)).mem_iff.1 this
  ·intro e;rw [hq2];exact hset e
open Go.RowKit Pl Go.Wk
theorem bs0Rows(w:World): (Instr.buildSlice 35 0 #[]).run Tryz.prog w=.ok (.slice (some ⟨w.heap.size,0,none⟩) 0 0) (w.alloc (.cells [].toArray 40)):=by kernel_rfl
theorem cloneRows_any{A:Option Addr}{n c:Nat}{ps:List Pr}{w:World}(hR:Rd w 1 A n (ps.map (·.1)))(hn:ps.length=n)(hmx:n<=1100000)(h1:∀ p∈ps,p.1.oneCell'=true):
  Ret Tryz.prog 79 [.slice A n c] w λv' w'=>Ext w w'/\∃ B d,v'=.slice B n d/\n<=d/\Dat w' w.heap.size (.slice B n d) ps:=by
 refine Jjb Tryz.func79 Tryz.ntmps79 rfl (by kernel_rfl) rfl ?_;refine ρ ?_;refine snil ?_;refine ρ ?_;refine ci (λh=>?_) (λh=>?_)
 ·have hA:A=none:=by simpa using h
  subst hA;have hn0:n=0:=by
   rcases Nat.eq_zero_or_pos n with h0|h0
   ·exact h0
   ·obtain ⟨ad,h2,_⟩:=hR.isome h0 (by omega);cases h2
  subst hn0;obtain rfl:=List.eq_nil_of_length_eq_zero hn;refine ρ ?_;exact Jjq ⟨Ext.refl w,none,0,rfl,Nat.le_refl _,⟨Jxk _ _ _ _,λp hp=>by cases hp⟩⟩
 ·refine ρ ?_;refine bsl bs0Rows ?_;intro w1 b hx1 hb1 hk1;refine ρ ?_;refine apo hx1 ER (hk1.own (n:=0) hb1 rfl (Nat.zero_le _)) (hR.ext hx1) (λu hu=>by obtain ⟨p,hp,rfl⟩:=List.mem_map.1 hu;exact h1 p hp) (by unfold maxLen;omega) (by omega) ?_;intro v2 w2 ho2 hx2 _ _;obtain ⟨A2,c2,rfl,hc2,hf⟩:=Jjd ho2;refine ρ ?_;rw [Nat.zero_add]at ho2 hc2 ⊢;refine Jjq ⟨hx2,A2,c2,rfl,hc2,⟨?_,h1⟩⟩;rw [hn];exact ho2
theorem grown_new{a w w':World}{b:Nat}(hx:Ext a w)(hg:w.grownBy w' (some b))(hb:a.heap.size<=b): Ext a w':=Jjk hx hg λk e=>by injection e with e;omega
theorem relOf_any{w:World}{v:Value}{ls:List Row}{ar:Nat}(h:RowsV w v ls):
  Ret Tryz.prog 32 [.int .i64 (ar:Int),v] w λu w'=>Ext w w'/\∃ rv e,u=.tuple #[rv,.int .i64 e]/\(∃ z B m d,rv=.agg #[.int .i64 z,.slice B m d])/\(ar<=32->(∀ r∈ls,r.length=ar/\r.all Jxf=true)->ls.length<=65536->e=0) /\
   (e=0->ar<=32/\(∀ r∈ls,r.length=ar/\r.all Jxf=true)/\∃ m,Off (λk=>k<w.heap.size) w' (λu=>RelV u rv ar m)/\m.length<=65536/\(∀ x∈m,x∈ls)/\((ls.length<=12∨Srt [] ls)->Jvm [] ls m)):=by
 obtain ⟨ps,A,c,rfl,rfl,hle,hmx,hR,hrow⟩:=h;generalize hn:ps.length=n at *
 have hget:∀ i,(ps.map (·.2)).getD i []=(ps.getD i z0).2:=λi=>ls_get
 have hone:∀ p∈ps,p.1.oneCell'=true:=λp hp=>(hrow p hp).one;refine Jjb Tryz.func32 Tryz.ntmps32 rfl (by kernel_rfl) rfl ?_;refine ρ ?_;refine alc (cs:=[.int .i64 0,.slice none 0 0]) zRel ?_;intro w1 b hx1 hb hB;refine ρ ?_;refine cl (relNew_any (ar:Int) w1) ?_;rintro v2 w2 ⟨hx2,z',e2,rfl,he2,hiff⟩;refine ρ ?_;refine alc (cs:=[.int .i64 0,.slice none 0 0]) zRel ?_;intro w3 b3 hx3 hb3 hB3;refine ρ ?_;refine stb hB3 ?_ (one2 (z:=z') (A:=none) (n:=0) (c:=0));intro w4 hB4 hg4 hx4;have hx14:Ext w1 w4:=hx4 w1 (hx2.trans hx3) (Nat.le_trans hx2.size hb3);have hxw4:=hx1.trans hx14;have hB1:=hB.ext hx14;refine ρ ?_;refine ci (λh=>?_) (λh=>?_)
 ·have hne:=Jks h;refine ρ ?_;refine bld (bld0Rel _) ?_;refine ρ ?_;refine stb hB1 ?_ one2;intro w5 hB5 hg5 hx5;refine ρ ?_;refine Jyk hB5 ⟨hx5 w hxw4 hb,_,e2,rfl,⟨0,none,0,0,rfl⟩,λh1 _ _=>hiff.2 (by omega),λe=>absurd e hne⟩
 have hz:=Jkt h;subst hz;have har:ar<=32:=by have:=hiff.1 rfl;omega
 have hz2:=he2 rfl;subst hz2;clear h he2 hiff;refine ρ ?_;refine Jqp (fun (k:Nat)=>[(0,.int .i64 (ar:Int)),(1,.slice A n c),(4,.pointer (some ⟨b,0,none⟩)),(6,.pointer (some ⟨b3,0,none⟩)),(20,.int .i64 (n:Int)),(21,.int .i64 (k:Int))])
  (λk w'=>Ext w4 w'/\k<=n/\∀ i,i<k->(ps.getD i z0).2.length=ar/\(ps.getD i z0).2.all Jxf=true) (λk=>n-k) 0 sB ⟨Ext.refl _,Nat.zero_le _,λi hi=>by omega⟩ ?_
 rintro k w5 ⟨hx5,hk,hI⟩;have hxw5:=hxw4.trans hx5;refine ρ ?_;refine ci (λh=>?_) (λh=>?_)
 ·have lk:k<n:=by have:=of_decide_eq_true h;omega
  clear h;refine ρ ?_;refine dr [(0,0),(0,1),(0,2),(0,3),(0,4),(1,5),(0,6)] (by kernel_rfl) ?_;have hx5d:=hx5.drew;have hB5:=hB4.ext hx5d;have hR5:=hR.ext hxw5.drew;refine ρd ?_;refine Jvb (cs:=[.int .i64 (ar:Int),.slice none 0 0]) (λj u hu=>hB5.at hu) ?_;refine ρd ?_;refine dix k hR5 lk ?_;refine ρd ?_;refine dld (rd_at hR5 hn lk) ?_;refine ρd ?_;refine dcl (accepts_any (A:=none) (n:=0) (c:=0) rfl ((hrow _ (Jwc hn lk)).ext hxw5.drew)) ?_;rintro u w6 ⟨hx6,e,rfl,hiff⟩;refine ⟨hx6,?_⟩;refine ρd ?_;refine ρ ?_;have hx46:=hx5d.trans hx6;refine ci (λh=>?_) (λh=>?_)
  ·have hne:=Jks h;refine ρ ?_;refine bld (bld0Rel _) ?_;refine ρ ?_;refine stb (hB1.ext hx46) ?_ one2;intro w7 hB7 hg7 hx7;refine ρ ?_;refine Jyk hB7 ⟨hx7 w (hxw4.trans hx46) hb,_,e,rfl,⟨0,none,0,0,rfl⟩,λ_ h2 _=>?_,λe=>absurd e hne⟩;obtain ⟨k1,k2⟩:=h2 (ps.getD k z0).2 (List.mem_map.2 ⟨_,Jwc hn lk,rfl⟩);exact hiff.2 ⟨by omega,k2⟩
  ·have hz:=Jkt h;have hz':=hiff.1 hz;refine ρ ?_;refine Jjs (k+1) sO ⟨hx46,by omega,λi hi=>?_⟩ (by omega);by_cases e:i=k
   ·subst e;exact ⟨by omega,hz'.2⟩
   ·exact hI i (by omega)
 ·have e:k=n:=by have:=of_decide_eq_false h;omega
  subst e;refine ρ ?_;refine cl (cloneRows_any (hR.ext hxw5) hn hmx hone) ?_;rintro u w6 ⟨hx6,D,d,rfl,hd,hD6⟩;have hxw6:=hxw5.trans hx6;have hown:∀ j,(Value.slice D k d).ownBlock=some j->w5.heap.size<=j/\j<w6.heap.size:=by
   obtain ⟨_,_,_,_,hf⟩:=Jjd hD6.1;exact λj ej=>⟨(hf j ej).1,(hf j ej).2⟩
  have hoff:∀ p∈ps,Off (one (Value.slice D k d).ownBlock) w6 (λu=>RowV u p.1 p.2):=λp hp=>Off.old (a:=w) (λu hu=>(hrow p hp).ext hu) hxw6 (λj ej=>Nat.le_trans hxw5.size (hown j ej).1);refine ρ ?_;refine cl (build_any (ar:=ar) hD6 hn hmx hd hoff) ?_;rintro u w7 ⟨hg7,rv,e,rfl,⟨z,B,m,d',hrv⟩,hfit,hok⟩;have hxw7:Ext w w7:=Jjk hxw6 hg7 (λj ej=>Nat.le_trans hxw5.size (hown j ej).1);have hB6:=(hB1.ext hx5).ext hx6;have hB7:=hB6.grown hg7 (hB6.ne_own hD6.1 rfl);subst hrv;refine ρ ?_;refine stb hB7 ?_ (one2 (z:=z) (A:=B) (n:=m) (c:=d'));intro w8 hB8 hg8 hx8;refine ρ ?_;refine Jyk hB8 ⟨hx8 w hxw7 hb,_,e,rfl,⟨z,B,m,d',rfl⟩,λ_ _ h3=>hfit (by rw [List.length_map,hn]at h3;exact h3),λe0=>⟨har,λr hr=>?_,?_⟩⟩
  ·obtain ⟨p,hp,rfl⟩:=List.mem_map.1 hr;obtain ⟨i,hi,rfl⟩:=List.getElem_of_mem hp;have:=hI i (by omega);rw [Jjh z0 ps hi]at this;exact this
  ·obtain ⟨ms,m1,m2,m3,m4⟩:=hok e0;refine ⟨ms,?_,m2,m3,λhc=>m4 (by rw [List.length_map,hn]at hc;exact hc)⟩;have hbn:b<w6.heap.size/\(Value.slice D k d).ownBlock≠some b:=⟨hB6.lt,λe=>hB6.ne_own hD6.1 rfl e.symm⟩;refine (m1.grown hg8 (λj ej=>by injection ej with ej;rw [<-ej];exact hbn)).mono λj _ hj=>⟨Nat.lt_of_lt_of_le hj hxw6.size,λe=>?_⟩;have:=(hown j e).1;have:=hxw5.size;omega
open Go.RowKit Pl Go.Wk
theorem rowC_set: ∀ (q:Row) (i:Nat) (x:V),i<q.length->Jxt (q.set i x)=(Jxt q).take (i*3)++x.cells++(Jxt q).drop (i*3+3)
 | [],i,x,h=>by simp at h
 | v::q,0,x,_=>by
  have e:Jxt (v::q)=v.cells++Jxt q:=by simp [Jxt]
  have e2:Jxt (x::q)=x.cells++Jxt q:=by simp [Jxt]
  rw [List.set_cons_zero,e,e2,Nat.zero_mul,List.take_zero,List.nil_append,Nat.zero_add];congr 1
 | v::q,i+1,x,h=>by
  have ih:=rowC_set q i x (by simpa using h);have e:Jxt (v::q)=v.cells++Jxt q:=by simp [Jxt]
  have e2:Jxt (v::q.set i x)=v.cells++Jxt (q.set i x):=by simp [Jxt]
  have hl:v.cells.length=3:=rfl;rw [List.set_cons_succ,e,e2,ih];have e3:(v.cells++Jxt q).take ((i+1)*3)=v.cells++(Jxt q).take (i*3):=by
   rw [List.take_append,hl,List.take_of_length_le (by omega)];congr 2;omega
  have e4:(v.cells++Jxt q).drop ((i+1)*3+3)=(Jxt q).drop (i*3+3):=by
   rw [List.drop_append,hl,List.drop_of_length_le (by omega),List.nil_append];congr 1;omega
  rw [e3,e4];simp [List.append_assoc]
theorem rowC_zero(n:Nat): (madeCells (Value.agg #[.int .i64 0,.int .i64 0,.string ⟨#[]⟩]).cells (n*3)).toList=Jxt (List.replicate n V0):=by
 apply List.ext_getElem?
 intro k;have hz:(Value.agg #[.int .i64 0,.int .i64 0,.string ⟨#[]⟩]).cells = #[.int .i64 0,.int .i64 0,.string ⟨#[]⟩]:=rfl;rw [hz];by_cases hk:k<n*3
 ·have h1:=rowC_get (List.replicate n V0) (k / 3) (k % 3) (by simp;omega) (by omega);rw [show k / 3*3+k % 3=k by omega]at h1;rw [h1];have e:(List.replicate n V0).getD (k / 3) V0=V0:=by
   rw [Jjh V0 _ (by simp;omega)];simp
  rw [e];have hm:k % 3<3:=by omega
  simp only [madeCells,Array.getElem?_toList,Array.getElem?_map,Array.getElem?_range,hk,if_true,Option.map_some];generalize k % 3=r at *
  have:r=0∨r=1∨r=2:=by omega
  rcases this with rfl|rfl|rfl<;>rfl
 ·rw [List.getElem?_eq_none (by simp [madeCells];omega),List.getElem?_eq_none (by rw [rowC_len];simp;omega)]
def Jzx(zs:List Int): List Value:=zs.map (Value.int .i64)
def IntsV(w:World)(v:Value)(zs:List Int): Prop:=∃ A c,v=.slice A zs.length c/\zs.length<=c/\zs.length<=1100000/\Rd w 1 A zs.length (Jzx zs)
theorem IntsV.ext{w w':World}{v:Value}{zs:List Int}(h:IntsV w v zs)(hx:Ext w w'): IntsV w' v zs:=by obtain ⟨A,c,e1,e2,e3,e4⟩:=h;exact ⟨A,c,e1,e2,e3,e4.ext hx⟩
theorem intZ_get{zs:List Int}{i:Nat}(h:i<zs.length): (Jzx zs)[i]?=some (.int .i64 (zs.getD i 0)):=by simp [Jzx,List.getD,List.getElem?_eq_getElem h]
def nz(cs:List Nat): List Int:=cs.map fun (c:Nat)=>(c:Int)
theorem Jxz{cs:List Nat}{i:Nat}(h:i<cs.length): (Jzx (nz cs))[i]?=some (.int .i64 (cs.getD i 0:Int)):=by simp [Jzx,nz,List.getD,List.getElem?_eq_getElem h]
theorem Jqc(cs:List Nat): (nz cs).length=cs.length:=by simp [nz]
def pmR(cs:List Nat)(r:Row): Row:=cs.map λc=>r.getD c V0
abbrev OwnV(w:World)(base:Nat)(v:Value)(q:Row): Prop:=w.ownsRow base 71 3 v q.length (Jxt q)
theorem Jqz(cs:List Nat)(r:Row): (pmR cs r).length=cs.length:=by simp [pmR]
theorem pm_take{cs:List Nat}{r:Row}{k:Nat}(hk:k<cs.length): (pmR cs r).getD k V0=r.getD (cs.getD k 0) V0:=by
 rw [Jjh V0 _ (by simpa [pmR] using hk),Jjh 0 cs hk];simp [pmR]
theorem Jvq{w:World}{v:Value}{ar:Nat}{ls:List Row}(h:RelV w v ar ls): Ret Tryz.prog 82 [v] w λu w'=>u=.int .i64 (ls.length:Int)/\Ext w w':=by
 obtain ⟨rv,rfl,ps,A,c,rfl,rfl,hle,hmx,hR,hrow⟩:=h;refine Jjb Tryz.func82 Tryz.ntmps82 rfl (by kernel_rfl) rfl ?_;refine ρ ?_;refine bx (cs:=[.int .i64 (ar:Int),.slice A ps.length c]) ?_;intro w1 b hx1 hb hB;refine ρ ?_;refine ld (hB.at (i:=1) rfl) ?_;refine ρ ?_;exact Jjq ⟨by rw [List.length_map],hx1⟩
theorem Jyx{w:World}{v:Value}{ar:Nat}{ls:List Row}(h:RelV w v ar ls): Ret Tryz.prog 145 [v] w λu w'=>u=.int .i64 (ar:Int)/\Ext w w':=by
 obtain ⟨rv,rfl,ps,A,c,rfl,rfl,hle,hmx,hR,hrow⟩:=h;refine Jjb Tryz.func145 Tryz.ntmps145 rfl (by kernel_rfl) rfl ?_;refine ρ ?_;refine bx (cs:=[.int .i64 (ar:Int),.slice A ps.length c]) ?_;intro w1 b hx1 hb hB;refine ρ ?_;refine ld (hB.at (i:=0) rfl) ?_;refine ρ ?_;exact Jjq ⟨rfl,hx1⟩
theorem relRows_any{w:World}{v:Value}{ar:Nat}{ls:List Row}(h:RelV w v ar ls): Ret Tryz.prog 126 [v] w λu w'=>Ext w w'/\RowsP (λk=>k<w.heap.size) w' u ls:=by
 obtain ⟨rv,rfl,ps,A,c,rfl,rfl,hle,hmx,hR,hrow⟩:=h;generalize hn:ps.length=n at *
 refine Jjb Tryz.func126 Tryz.ntmps126 rfl (by kernel_rfl) rfl ?_;refine ρ ?_;refine bx (cs:=[.int .i64 (ar:Int),.slice A n c]) ?_;intro w0 b hx0 hb hB;refine ρ ?_;refine ld (hB.at (i:=1) rfl) ?_;refine ρ ?_;refine mkn ER n (by omega) (by unfold maxLen;omega) ?_;intro w1 O hx1 ho1 hO;have hg0:∀ k,(Value.slice O n n).ownBlock=some k->w0.heap.size<=k/\k<w1.heap.size:=by
  obtain ⟨_,_,e,_,hf⟩:=Jjd ho1;exact hf
 have hD1:Dat w1 w0.heap.size (.slice O n n) ([]++List.replicate n (.slice none 0 0,[])):=by
  refine ⟨?_,λp hp=>?_⟩
  ·rw [List.nil_append,List.length_replicate,Pr.rep];have e:(madeCells (Value.slice none 0 0).cells (n*1)).toList=List.replicate n (.slice none 0 0):=by rw [Nat.mul_one];exact made1 _ _
   rw [e]at ho1;exact ho1
  ·rw [List.nil_append]at hp;rw [(List.mem_replicate.1 hp).2];rfl
 obtain ⟨N,hN⟩:∃ N:Nat->Prop,N=λk=>k<w0.heap.size∨(Value.slice O n n).ownBlock=some k:=⟨_,rfl⟩;refine ρ ?_;refine Jjv (fun (k:Nat) (qs:List Pr)=>[(1,.pointer (some ⟨b,0,none⟩)),(3,.slice O n n),(10,.int .i64 (n:Int)),(11,.int .i64 (k:Int))])
  (λk qs w2=>k<=n/\qs.length=k/\qs.map (·.2)=(ps.take k).map (·.2)/\Ext w0 w2/\w1.heap.size<=w2.heap.size/\Dat w2 w0.heap.size (.slice O n n) (qs++List.replicate (n-k) (.slice none 0 0,[]))/\(∀ p∈qs,Off N w2 (λu=>RowV u p.1 p.2))) (λk _=>n-k) 0 [] sB
  ⟨Nat.zero_le _,rfl,rfl,hx1,Nat.le_refl _,hD1,λp hp=>(by cases hp)⟩ ?_
 rintro k qs w2 ⟨hk,hq1,hq2,hx2,hsz2,hD2,hR2⟩;have hxw2:=hx0.trans hx2;refine ρ ?_;refine ci (λh=>?_) (λh=>?_)
 ·have lk:k<n:=by have:=of_decide_eq_true h;omega
  refine ρ ?_;refine ld ((hB.ext hx2).at (i:=1) rfl) ?_;refine ρ ?_;refine ix k (hR.ext hxw2) lk ?_;refine ρ ?_;refine ld (rd_at (hR.ext hxw2) hn lk) ?_;refine ρ ?_;refine cl (Qjg ((hrow _ (Jwc hn lk)).ext hxw2) N (λj hj=>?_)) ?_
  ·subst hN;rcases hj with h'|h'
   ·exact Nat.lt_of_lt_of_le h' hx2.size
   ·exact Nat.lt_of_lt_of_le (hg0 j h').2 hsz2
  rintro v3 w3 ⟨hr3,hx3⟩;have hD3:=hD2.ext hx3;have hl3:(qs++List.replicate (n-k) ((.slice none 0 0,[]):Pr)).length=n:=by simp;omega
  obtain ⟨s1,s2,s3⟩:=hD3.store hl3 lk (p:=(v3,(ps.getD k z0).2)) hr3.v.one;refine ρ ?_;refine ix k (hD3.rd hl3) lk ?_;refine ρ ?_;refine sto (hD3.cell hl3 lk) s1 ?_ (hv:=hr3.v.one);refine ρ ?_;have e:(qs++List.replicate (n-k) ((.slice none 0 0,[]):Pr)).set k (v3,(ps.getD k z0).2)=(qs++[(v3,(ps.getD k z0).2)])++List.replicate (n-(k+1)) (.slice none 0 0,[]):=by
   rw [show n-k=(n-(k+1))+1 by omega,List.replicate_succ,List.set_append_right _ _ (by omega),hq1,Nat.sub_self,List.set_cons_zero,List.append_assoc];rfl
  rw [e]at s2;have hNo:∀ j,(Value.slice O n n).ownBlock=some j->N j:=λj ej=>by rw [hN];exact .inr ej
  refine Jjj (k+1) (qs++[(v3,(ps.getD k z0).2)]) sO ⟨by omega,by simp [hq1],?_,Jjk (hx2.trans hx3) s3 (λj hj=>(hg0 j hj).1),Nat.le_trans hsz2 (Nat.le_trans hx3.size s3.size),s2,λp hp=>?_⟩ (by omega)
  ·rw [List.map_append,hq2,Jjm z0 (by omega),List.map_append];rfl
  ·rcases List.mem_append.1 hp with h'|h'
   ·exact ((hR2 p h').ext hx3).grown s3 hNo
   ·rw [List.mem_singleton.1 h'];exact hr3.off.grown s3 hNo
 ·have e:k=n:=by have:=of_decide_eq_false h;omega
  subst e;rw [Nat.sub_self,List.replicate_zero,List.append_nil]at hD2;rw [List.take_of_length_le (by omega)]at hq2;refine ρ ?_;refine Jjq ⟨hxw2,?_⟩;rw [<-hq2];refine rowsP hD2 hq1 hmx (Nat.le_refl _) (λj ej hj=>?_) λp hp=>(hR2 p hp).mono λj _ hj=>by rw [hN];exact .inl (Nat.lt_of_lt_of_le hj hx0.size)
  have:=(hg0 j ej).1;have:=hx0.size;omega
end Go.Proofs.YtefpailelagbkaaGreatDoor
