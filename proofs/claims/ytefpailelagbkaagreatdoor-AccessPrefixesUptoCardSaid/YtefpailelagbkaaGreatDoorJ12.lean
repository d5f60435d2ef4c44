/- Part 12 of the proof: Rel4, Rel5, Chk. -/
import Derived.Test.YtefpailelagbkaaGreatDoorJ11
set_option linter.unusedVariables false
set_option maxRecDepth 100000
set_option maxHeartbeats 40000000
namespace Go.Proofs.YtefpailelagbkaaGreatDoor
open Go.RowKit Pl Go.Wk
attribute [local irreducible] WC WL QX WD WDB WP
theorem Jsk: ∀ (q:Row) (i:Nat) (x:V),i<q.length->Jxs (q.set i x)=(Jxs q).take (i*3)++x.cells++(Jxs q).drop (i*3+3)
 | [],i,x,h=>by simp at h
 | v::q,0,x,_=>by
  have e:Jxs (v::q)=v.cells++Jxs q:=by simp [Jxs]
  have e2:Jxs (x::q)=x.cells++Jxs q:=by simp [Jxs]
  rw [List.set_cons_zero,e,e2,Nat.zero_mul,List.take_zero,List.nil_append,Nat.zero_add];congr 1
 | v::q,i+1,x,h=>by
  have ih:=Jsk q i x (by simpa using h);have e:Jxs (v::q)=v.cells++Jxs q:=by simp [Jxs]
  have e2:Jxs (v::q.set i x)=v.cells++Jxs (q.set i x):=by simp [Jxs]
  have hl:v.cells.length=3:=rfl;rw [List.set_cons_succ,e,e2,ih];have e3:(v.cells++Jxs q).take ((i+1)*3)=v.cells++(Jxs q).take (i*3):=by
   rw [List.take_append,hl,List.take_of_length_le (by omega)];congr 2;omega
  have e4:(v.cells++Jxs q).drop ((i+1)*3+3)=(Jxs q).drop (i*3+3):=by
   rw [List.drop_append,hl,List.drop_of_length_le (by omega),List.nil_append];congr 1;omega
  rw [e3,e4];simp [List.append_assoc]
theorem Jlv(n:Nat): (madeCells (Value.agg #[.int .i64 0,.int .i64 0,.string ⟨#[]⟩]).cells (n*3)).toList=Jxs (List.replicate n V0):=by
 apply List.ext_getElem?
 intro k;have hz:(Value.agg #[.int .i64 0,.int .i64 0,.string ⟨#[]⟩]).cells = #[.int .i64 0,.int .i64 0,.string ⟨#[]⟩]:=rfl;rw [hz];by_cases hk:k<n*3
 ·have h1:=Jsm (List.replicate n V0) (k / 3) (k % 3) (by simp;omega) (by omega);rw [show k / 3*3+k % 3=k by omega]at h1;rw [h1];have e:(List.replicate n V0).getD (k / 3) V0=V0:=by
   rw [Jjh V0 _ (by simp;omega)];simp
  rw [e];have hm:k % 3<3:=by omega
  simp only [madeCells,Array.getElem?_toList,Array.getElem?_map,Array.getElem?_range,hk,if_true,Option.map_some];generalize k % 3=r at *
  have:r=0∨r=1∨r=2:=by omega
  rcases this with rfl|rfl|rfl<;>rfl
 ·rw [List.getElem?_eq_none (by simp [madeCells];omega),List.getElem?_eq_none (by rw [Jsl];simp;omega)]
def Jzw(zs:List Int): List Value:=zs.map (Value.int .i64)
def IntsV(w:World)(v:Value)(zs:List Int): Prop:=∃ A c,v=.slice A zs.length c/\zs.length<=c/\zs.length<=1100000/\Rd w 1 A zs.length (Jzw zs)
theorem IntsV.ext{w w':World}{v:Value}{zs:List Int}(h:IntsV w v zs)(hx:Ext w w'): IntsV w' v zs:=by obtain ⟨A,c,e1,e2,e3,e4⟩:=h;exact ⟨A,c,e1,e2,e3,e4.ext hx⟩
theorem Jdr{zs:List Int}{i:Nat}(h:i<zs.length): (Jzw zs)[i]?=some (.int .i64 (zs.getD i 0)):=by simp [Jzw,List.getD,List.getElem?_eq_getElem h]
def nz(cs:List Nat): List Int:=cs.map fun (c:Nat)=>(c:Int)
theorem Jxw{cs:List Nat}{i:Nat}(h:i<cs.length): (Jzw (nz cs))[i]?=some (.int .i64 (cs.getD i 0:Int)):=by simp [Jzw,nz,List.getD,List.getElem?_eq_getElem h]
theorem Jqc(cs:List Nat): (nz cs).length=cs.length:=by simp [nz]
def pmR(cs:List Nat)(r:Row): Row:=cs.map λc=>r.getD c V0
abbrev Qjd(w:World)(base:Nat)(v:Value)(q:Row): Prop:=w.ownsRow base 71 3 v q.length (Jxs q)
theorem Jqx(cs:List Nat)(r:Row): (pmR cs r).length=cs.length:=by simp [pmR]
theorem Jsq{cs:List Nat}{r:Row}{k:Nat}(hk:k<cs.length): (pmR cs r).getD k V0=r.getD (cs.getD k 0) V0:=by
 rw [Jjh V0 _ (by simpa [pmR] using hk),Jjh 0 cs hk];simp [pmR]
theorem Jvl{w:World}{v:Value}{ar:Nat}{ls:List Row}(h:RelV w v ar ls): Ret Tryz.prog 82 [v] w λu w'=>u=.int .i64 (ls.length:Int)/\Ext w w':=by
 obtain ⟨rv,rfl,ps,A,c,rfl,rfl,hle,hmx,hR,hrow⟩:=h;refine Jjb Tryz.func82 Tryz.ntmps82 rfl (by kernel_rfl) rfl ?_;refine ρ ?_;refine bx (cs:=[.int .i64 (ar:Int),.slice A ps.length c]) ?_;intro w1 b hx1 hb hB;refine ρ ?_;refine ld (hB.at (i:=1) rfl) ?_;refine ρ ?_;exact Jjq ⟨by rw [List.length_map],hx1⟩
theorem Jys{w:World}{v:Value}{ar:Nat}{ls:List Row}(h:RelV w v ar ls): Ret Tryz.prog 145 [v] w λu w'=>u=.int .i64 (ar:Int)/\Ext w w':=by
 obtain ⟨rv,rfl,ps,A,c,rfl,rfl,hle,hmx,hR,hrow⟩:=h;refine Jjb Tryz.func145 Tryz.ntmps145 rfl (by kernel_rfl) rfl ?_;refine ρ ?_;refine bx (cs:=[.int .i64 (ar:Int),.slice A ps.length c]) ?_;intro w1 b hx1 hb hB;refine ρ ?_;refine ld (hB.at (i:=0) rfl) ?_;refine ρ ?_;exact Jjq ⟨rfl,hx1⟩
theorem Jcv{w:World}{v:Value}{ar:Nat}{ls:List Row}(h:RelV w v ar ls): Ret Tryz.prog 126 [v] w λu w'=>Ext w w'/\Xdn (λk=>k<w.heap.size) w' u ls:=by
 obtain ⟨rv,rfl,ps,A,c,rfl,rfl,hle,hmx,hR,hrow⟩:=h;generalize hn:ps.length=n at *
 refine Jjb Tryz.func126 Tryz.ntmps126 rfl (by kernel_rfl) rfl ?_;refine ρ ?_;refine bx (cs:=[.int .i64 (ar:Int),.slice A n c]) ?_;intro w0 b hx0 hb hB;refine ρ ?_;refine ld (hB.at (i:=1) rfl) ?_;refine ρ ?_;refine mkn ER n (by omega) (by unfold maxLen;omega) ?_;intro w1 O hx1 ho1 hO;have hg0:∀ k,(Value.slice O n n).ownBlock=some k->w0.heap.size<=k/\k<w1.heap.size:=by
  obtain ⟨_,_,e,_,hf⟩:=Jjd ho1;exact hf
 have hD1:Dat w1 w0.heap.size (.slice O n n) ([]++List.replicate n (.slice none 0 0,[])):=by
  refine ⟨?_,λp hp=>?_⟩
  ·rw [List.nil_append,List.length_replicate,Pr.rep];have e:(madeCells (Value.slice none 0 0).cells (n*1)).toList=List.replicate n (.slice none 0 0):=by rw [Nat.mul_one];exact Jmm _ _
   rw [e]at ho1;exact ho1
  ·rw [List.nil_append]at hp;rw [(List.mem_replicate.1 hp).2];rfl
 obtain ⟨N,hN⟩:∃ N:Nat->Prop,N=λk=>k<w0.heap.size∨(Value.slice O n n).ownBlock=some k:=⟨_,rfl⟩;refine ρ ?_;refine Jjv (fun (k:Nat) (qs:List Pr)=>[(1,.pointer (some ⟨b,0,none⟩)),(3,.slice O n n),(10,.int .i64 (n:Int)),(11,.int .i64 (k:Int))])
  (λk qs w2=>k<=n/\qs.length=k/\qs.map (·.2)=(ps.take k).map (·.2)/\Ext w0 w2/\w1.heap.size<=w2.heap.size/\Dat w2 w0.heap.size (.slice O n n) (qs++List.replicate (n-k) (.slice none 0 0,[]))/\(∀ p∈qs,Off N w2 (λu=>RowV u p.1 p.2))) (λk _=>n-k) 0 [] sB
  ⟨Nat.zero_le _,rfl,rfl,hx1,Nat.le_refl _,hD1,λp hp=>(by cases hp)⟩ ?_
 rintro k qs w2 ⟨hk,hq1,hq2,hx2,hsz2,hD2,hR2⟩;have hxw2:=hx0.trans hx2;refine ρ ?_;refine ci (λh=>?_) (λh=>?_)
 ·have lk:k<n:=by have:=of_decide_eq_true h;omega
  refine ρ ?_;refine ld ((hB.ext hx2).at (i:=1) rfl) ?_;refine ρ ?_;refine ix k (hR.ext hxw2) lk ?_;refine ρ ?_;refine ld (Qcs (hR.ext hxw2) hn lk) ?_;refine ρ ?_;refine cl (Jbb ((hrow _ (Jkx hn lk)).ext hxw2) N (λj hj=>?_)) ?_
  ·subst hN;rcases hj with h'|h'
   ·exact Nat.lt_of_lt_of_le h' hx2.size
   ·exact Nat.lt_of_lt_of_le (hg0 j h').2 hsz2
  rintro v3 w3 ⟨hr3,hx3⟩;have hD3:=hD2.ext hx3;have hl3:(qs++List.replicate (n-k) ((.slice none 0 0,[]):Pr)).length=n:=by simp;omega
  obtain ⟨s1,s2,s3⟩:=hD3.store hl3 lk (p:=(v3,(ps.getD k z0).2)) hr3.v.one;refine ρ ?_;refine ix k (hD3.rd hl3) lk ?_;refine ρ ?_;refine sto (hD3.cell hl3 lk) s1 ?_ (hv:=hr3.v.one);refine ρ ?_;have e:(qs++List.replicate (n-k) ((.slice none 0 0,[]):Pr)).set k (v3,(ps.getD k z0).2)=(qs++[(v3,(ps.getD k z0).2)])++List.replicate (n-(k+1)) (.slice none 0 0,[]):=by
   rw [show n-k=(n-(k+1))+1 by omega,List.replicate_succ,List.set_append_right _ _ (by omega),hq1,Nat.sub_self,List.set_cons_zero,List.append_assoc];rfl
  rw [e]at s2;have hNo:∀ j,(Value.slice O n n).ownBlock=some j->N j:=λj ej=>by rw [hN];exact .inr ej
  refine Jjj (k+1) (qs++[(v3,(ps.getD k z0).2)]) sO ⟨by omega,by simp [hq1],?_,Jjk (hx2.trans hx3) s3 (λj hj=>(hg0 j hj).1),Nat.le_trans hsz2 (Nat.le_trans hx3.size s3.size),s2,λp hp=>?_⟩ (by omega)
  ·rw [List.map_append,hq2,Jjm z0 (by omega),List.map_append];rfl
  ·rcases List.mem_append.1 hp with h'|h'
   ·exact ((hR2 p h').ext hx3).grown s3 hNo
   ·rw [List.mem_singleton.1 h'];exact hr3.off.grown s3 hNo
 ·have e:k=n:=by have:=of_decide_eq_false h;omega
  subst e;rw [Nat.sub_self,List.replicate_zero,List.append_nil]at hD2;rw [List.take_of_length_le (by omega)]at hq2;refine ρ ?_;refine Jjq ⟨hxw2,?_⟩;rw [<-hq2];refine rowsP hD2 hq1 hmx (Nat.le_refl _) (λj ej hj=>?_) λp hp=>(hR2 p hp).mono λj _ hj=>by rw [hN];exact .inl (Nat.lt_of_lt_of_le hj hx0.size)
  have:=(hg0 j ej).1;have:=hx0.size;omega
open Go.RowKit Pl Go.Wk
theorem Jpj{w:World}{v vc:Value}{r:Row}{cs:List Nat}(h:RowV w v r)(hc:IntsV w vc (nz cs))(hlt:∀ c∈cs,c<r.length): Ret Tryz.prog 191 [v,vc] w λu w'=>Ext w w'/\∃ x,u=.tuple #[x,.int .i64 0]/\Off (λk=>k<w.heap.size) w' (λy=>RowV y x (pmR cs r)):=by
 obtain ⟨A,ac,rfl,hac,ham,har⟩:=h;obtain ⟨C,cc,rfl,hcc,hcm,hcr⟩:=hc;rw [Jqc]at *;refine Jjb Tryz.func191 Tryz.ntmps191 rfl (by kernel_rfl) rfl ?_;refine ρ ?_;refine Jqn (fun (k:Nat)=>[(0,.slice A r.length ac),(1,.slice C cs.length cc),(10,.int .i64 (cs.length:Int)),(11,.int .i64 (k:Int))]) (λk w'=>w'=w/\k<=cs.length) (λk=>cs.length-k) 0 sB ⟨rfl,Nat.zero_le _⟩ ?_;rintro k w' ⟨rfl,hk⟩;refine ρ ?_;refine ci (λh=>?_) (λh=>?_)
 ·have lk:k<cs.length:=by have:=of_decide_eq_true h;omega
  have hc0:=hlt _ (getD_mem' 0 cs lk);refine ρ ?_;refine ix k hcr lk ?_;refine ρ ?_;refine ld (hcr.cell (Jxw lk)) ?_;refine ρ ?_;refine kf 19 ?_ ?_
  ·exact decide_eq_false (by omega)
  refine ρ ?_;refine ix k hcr lk ?_;refine ρ ?_;refine ld (hcr.cell (Jxw lk)) ?_;refine ρ ?_;refine cf ?_ ?_
  ·exact decide_eq_false (by omega)
  refine ρ ?_;exact Jjt (k+1) sO ⟨rfl,by omega⟩ (by omega)
 refine ρ ?_;refine mkn EV cs.length (by omega) (by unfold maxLen;omega) ?_;intro w4 O hx4 ho4 hO;rw [Jlv]at ho4;have ho4':Qjd w4 w'.heap.size (.slice O cs.length cs.length) ([]++List.replicate cs.length V0):=by
  rw [Qjd,List.nil_append,List.length_replicate];exact ho4
 refine ρ ?_;refine Jqn (fun (i:Nat)=>[(0,.slice A r.length ac),(1,.slice C cs.length cc),(7,.slice O cs.length cs.length),(33,.int .i64 (cs.length:Int)),(34,.int .i64 (i:Int))])
  (λi w5=>i<=cs.length/\Ext w' w5/\Qjd w5 w'.heap.size (.slice O cs.length cs.length) ((pmR cs r).take i++List.replicate (cs.length-i) V0)) (λi=>cs.length-i) 0 sB
  ⟨Nat.zero_le _,hx4,ho4'⟩ ?_
 rintro i w5 ⟨hi,hx5,ho5⟩;have hlen5:((pmR cs r).take i++List.replicate (cs.length-i) V0).length=cs.length:=by simp [Jqx];omega
 rw [Qjd,hlen5]at ho5;refine ρ ?_;refine ci (λh0=>?_) (λh0=>?_)
 ·have li:i<cs.length:=by have:=of_decide_eq_true h0;omega
  have hcr5:=hcr.ext hx5;have har5:RdR w5 A r:=Rd.ext har hx5;have lc:=hlt _ (getD_mem' 0 cs li);refine ρ ?_;refine ix i hcr5 li ?_;refine ρ ?_;refine ld (hcr5.cell (Jxw li)) ?_;refine ρ ?_;refine ixq 3 (cs.getD i 0) har5 lc ?_;refine ρ ?_;refine lds (λj u hu=>RdR.cell har5 lc hu) ?_;refine ρ ?_;refine ixq 3 i (Rd.own ho5) li ?_;refine ρ ?_;refine stoE (cs:=(r.getD (cs.getD i 0) V0).cells) ho5 li ?_ (V.one _);intro w6 ho6 hg6;have hx6:Ext w' w6:=Jjk hx5 hg6 (λk hk=>by
   obtain ⟨_,_,e,_,hf⟩:=Jjd ho5;exact (hf k hk).1)
  refine ρ ?_;refine Jjt (i+1) sO ⟨by omega,hx6,?_⟩ (by omega);have e:((pmR cs r).take i++List.replicate (cs.length-i) V0).set i (r.getD (cs.getD i 0) V0)=(pmR cs r).take (i+1)++List.replicate (cs.length-(i+1)) V0:=by
   have hl:((pmR cs r).take i).length=i:=by simp [Jqx];omega
   rw [List.set_append_right _ _ (by omega),hl,Nat.sub_self,show cs.length-i=(cs.length-(i+1))+1 by omega,List.replicate_succ,List.set_cons_zero,List.take_succ_eq_append_getElem (by rw [Jqx];omega),List.append_assoc];rw [<-Jsq li,Jjh V0 _ (by rw [Jqx];omega)];rfl
  have hlen6:((pmR cs r).take (i+1)++List.replicate (cs.length-(i+1)) V0).length=cs.length:=by rw [<-e];simp [Jqx];omega
  rw [Qjd,hlen6,<-e,Jsk _ _ _ (by rw [hlen5];omega)];exact ho6
 ·have hie:i=cs.length:=by have:=of_decide_eq_false h0;omega
  subst hie;rw [Nat.sub_self,List.replicate_zero,List.append_nil,List.take_of_length_le (by rw [Jqx];omega)]at ho5;refine ρ ?_;refine Qjk ⟨hx5,_,rfl,?_⟩;obtain ⟨_,_,_,_,hf⟩:=Jjd ho5;intro y hg;refine ⟨O,cs.length,by rw [Jqx],by rw [Jqx];omega,by rw [Jqx];omega,?_⟩;rw [RdR,Jqx];refine Qzl (Rd.own ho5) hg λ_ ad e=>?_;subst e;have:=(hf ad.block rfl).1;omega
theorem Jcf{w:World}{v vc:Value}{ar:Nat}{ls:List Row}{cs:List Nat}(h:RelV w v ar ls)(hc:IntsV w vc (nz cs))(hlen:∀ r∈ls,r.length=ar)(hlt:∀ c∈cs,c<ar)(h32:cs.length<=32)(hbig:ls.length<=65536):
  Ret Tryz.prog 177 [v,vc] w λu w'=>Ext w w'/\∃ rv,u=.tuple #[rv,.int .i64 0]/\(∃ z B m d,rv=.agg #[.int .i64 z,.slice B m d])/\∃ m,Off (λk=>k<w.heap.size) w' (λx=>RelV x rv cs.length m)/\m.length<=65536/\(∀ x∈m,x∈ls.map (pmR cs))/\((ls.length<=12∨Srt [] (ls.map (pmR cs)))->Jvh [] (ls.map (pmR cs)) m):=by
 obtain ⟨rv,rfl,ps,A,c,rfl,rfl,hle,hmx,hR,hrow⟩:=h;obtain ⟨C,cc,rfl,hcc,hcm,hcr⟩:=id hc;generalize hn:ps.length=n at *
 rw [List.length_map,hn]at hbig;have hlen':∀ p∈ps,p.2.length=ar:=λp hp=>hlen _ (List.mem_map.2 ⟨p,hp,rfl⟩);rw [Jqc]at *;refine Jjb Tryz.func177 Tryz.ntmps177 rfl (by kernel_rfl) rfl ?_;refine ρ ?_;refine bx (cs:=[.int .i64 (ar:Int),.slice A n c]) ?_;intro w1 b1 hx1 hb1 hB1;refine ρ ?_;refine alc (cs:=[.int .i64 0,.slice none 0 0]) Qpm ?_;intro w2 b2 hx2 hb2 hB2;have hxw2:=hx1.trans hx2;have hB12:=hB1.ext hx2;refine ρ ?_;refine cf ?_ ?_
 ·exact decide_eq_false (by omega)
 refine ρ ?_;refine Jqn (fun (k:Nat)=>[(1,.slice C cs.length cc),(2,.pointer (some ⟨b1,0,none⟩)),(4,.pointer (some ⟨b2,0,none⟩)),(14,.int .i64 (cs.length:Int)),(15,.int .i64 (k:Int))]) (λk w'=>Ext w2 w'/\k<=cs.length) (λk=>cs.length-k) 0 sB ⟨Ext.refl _,Nat.zero_le _⟩ ?_;rintro k w3 ⟨hx3,hk⟩;refine ρ ?_;refine ci (λh=>?_) (λh=>?_)
 ·have lk:k<cs.length:=by have:=of_decide_eq_true h;omega
  have hc0:=hlt _ (getD_mem' 0 cs lk);clear h;refine ρ ?_;refine dr [(0,0),(0,1),(0,2),(0,3),(0,4),(0,5),(0,6),(0,7),(0,8),(0,9),(0,10),(0,11),(0,12),(0,13)] (by kernel_rfl) ?_;have hxd:=hx3.drew;have hcr3:=hcr.ext (hxw2.trans hxd);refine ρd ?_;refine dix k hcr3 lk ?_;refine ρd ?_;refine dld (hcr3.cell (Jxw lk)) ?_;refine ρd ?_;refine dkf 23 ?_ ?_
  ·exact decide_eq_false (by omega)
  refine ρd ?_;refine dix k hcr3 lk ?_;refine ρd ?_;refine dld (hcr3.cell (Jxw lk)) ?_;refine ρd ?_;refine dld ((hB12.ext hxd).at (i:=0) rfl) ?_;refine ρd ?_;refine ρ ?_;refine cf ?_ ?_
  ·exact decide_eq_false (by omega)
  refine ρ ?_;exact Jjt (k+1) sO ⟨hxd,by omega⟩ (by omega)
 clear h hk;have hxw3:=hxw2.trans hx3;have hB13:=hB12.ext hx3;refine ρ ?_;refine ld (hB13.at (i:=1) rfl) ?_;refine ρ ?_;refine mkn ER n (by omega) (by unfold maxLen;omega) ?_;intro w4 O hx4 ho4 hO;have hg0:∀ k,(Value.slice O n n).ownBlock=some k->w3.heap.size<=k/\k<w4.heap.size:=by
  obtain ⟨_,_,e,_,hf⟩:=Jjd ho4;exact hf
 have hD4:Dat w4 w3.heap.size (.slice O n n) ([]++List.replicate n (.slice none 0 0,[])):=by
  refine ⟨?_,λp hp=>?_⟩
  ·rw [List.nil_append,List.length_replicate,Pr.rep];have e:(madeCells (Value.slice none 0 0).cells (n*1)).toList=List.replicate n (.slice none 0 0):=by rw [Nat.mul_one];exact Jmm _ _
   rw [e]at ho4;exact ho4
  ·rw [List.nil_append]at hp;rw [(List.mem_replicate.1 hp).2];rfl
 obtain ⟨N,hN⟩:∃ N:Nat->Prop,N=λk=>k<w3.heap.size∨(Value.slice O n n).ownBlock=some k:=⟨_,rfl⟩;refine ρ ?_;refine Jjv (fun (k:Nat) (qs:List Pr)=>[(1,.slice C cs.length cc),(2,.pointer (some ⟨b1,0,none⟩)),(4,.pointer (some ⟨b2,0,none⟩)),(7,.slice O n n),(39,.int .i64 (n:Int)),(40,.int .i64 (k:Int))])
  (λk qs w5=>k<=n/\qs.length=k/\qs.map (·.2)=(ps.take k).map (λp=>pmR cs p.2)/\Ext w3 w5/\w4.heap.size<=w5.heap.size/\Dat w5 w3.heap.size (.slice O n n) (qs++List.replicate (n-k) (.slice none 0 0,[]))/\(∀ p∈qs,Off N w5 (λu=>RowV u p.1 p.2))) (λk _=>n-k) 0 [] sB
  ⟨Nat.zero_le _,rfl,rfl,hx4,Nat.le_refl _,hD4,λp hp=>(by cases hp)⟩ ?_
 rintro k qs w5 ⟨hk,hq1,hq2,hx5,hsz5,hD5,hR5⟩;have hxw5:=hxw3.trans hx5;refine ρ ?_;refine ci (λh=>?_) (λh=>?_)
 ·have lk:k<n:=by have:=of_decide_eq_true h;omega
  have hrl:(ps.getD k z0).2.length=ar:=hlen' _ (Jkx hn lk);refine ρ ?_;refine ld ((hB13.ext hx5).at (i:=1) rfl) ?_;refine ρ ?_;refine ix k (hR.ext hxw5) lk ?_;refine ρ ?_;refine ld (Qcs (hR.ext hxw5) hn lk) ?_;refine ρ ?_;refine cl (Jpj ((hrow _ (Jkx hn lk)).ext hxw5) (hc.ext hxw5) (λc hc0=>by rw [hrl];exact hlt c hc0)) ?_;rintro u w6 ⟨hx6,x,rfl,hr6⟩;have hD6:=hD5.ext hx6;have hl6:(qs++List.replicate (n-k) ((.slice none 0 0,[]):Pr)).length=n:=by simp;omega
  have hx1:x.oneCell'=true:=hr6.here.one;obtain ⟨s1,s2,s3⟩:=hD6.store hl6 lk (p:=(x,pmR cs (ps.getD k z0).2)) hx1;refine ρ ?_;refine ix k (hD6.rd hl6) lk ?_;refine ρ ?_;refine sto (hD6.cell hl6 lk) s1 ?_ (hv:=hx1);refine ρ ?_;have e:(qs++List.replicate (n-k) ((.slice none 0 0,[]):Pr)).set k (x,pmR cs (ps.getD k z0).2)=(qs++[(x,pmR cs (ps.getD k z0).2)])++List.replicate (n-(k+1)) (.slice none 0 0,[]):=by
   rw [show n-k=(n-(k+1))+1 by omega,List.replicate_succ,List.set_append_right _ _ (by omega),hq1,Nat.sub_self,List.set_cons_zero,List.append_assoc];rfl
  rw [e]at s2;have hNo:∀ j,(Value.slice O n n).ownBlock=some j->N j:=λj ej=>by rw [hN];exact .inr ej
  refine Jjj (k+1) (qs++[(x,pmR cs (ps.getD k z0).2)]) sO ⟨by omega,by simp [hq1],?_,Jjk (hx5.trans hx6) s3 (λj hj=>(hg0 j hj).1),Nat.le_trans hsz5 (Nat.le_trans hx6.size s3.size),s2,λp hp=>?_⟩ (by omega)
  ·rw [List.map_append,hq2,Jjm z0 (by omega),List.map_append];rfl
  ·rcases List.mem_append.1 hp with h'|h'
   ·exact ((hR5 p h').ext hx6).grown s3 hNo
   ·rw [List.mem_singleton.1 h'];refine (hr6.mono λj _ hj=>?_).grown s3 hNo;rw [hN]at hj;rcases hj with h'|h'
    ·exact Nat.lt_of_lt_of_le h' hx5.size
    ·exact Nat.lt_of_lt_of_le (hg0 j h').2 hsz5
 ·have e:k=n:=by have:=of_decide_eq_false h;omega
  subst e;rw [Nat.sub_self,List.replicate_zero,List.append_nil]at hD5;rw [List.take_of_length_le (by omega)]at hq2;have hls:qs.map (·.2)=(ps.map (·.2)).map (pmR cs):=by rw [hq2,List.map_map];rfl
  refine ρ ?_;refine cl (Qxz (ar:=cs.length) hD5 hq1 hmx (Nat.le_refl _) (λp hp=>(hR5 p hp).mono λj _ hj=>by rw [hN];exact .inr hj)) ?_;rintro u w7 ⟨hg7,rv,e,rfl,⟨z,B,m,d',hrv⟩,hfit,hok⟩;have he:=hfit hbig;subst he;have hxw7:Ext w w7:=Jjk hxw5 hg7 (λj ej=>Nat.le_trans hxw3.size (hg0 j ej).1);have hB5:=(hB2.ext hx3).ext hx5;have hB7:=hB5.grown hg7 (hB5.ne_own hD5.1 rfl);subst hrv;refine ρ ?_;refine stb hB7 ?_ (Qyk (z:=z) (A:=B) (n:=m) (c:=d'));intro w8 hB8 hg8 hx8;refine ρ ?_;obtain ⟨ms,m1,m2,m3,m4⟩:=hok rfl;rw [hls]at m3 m4;refine Jyf hB8 ⟨hx8 w hxw7 (Nat.le_trans hx1.size hb2),_,rfl,⟨z,B,m,d',rfl⟩,ms,?_,m2,m3,λhc=>m4 (by rw [List.length_map,hn]at hc;exact hc)⟩;have hbn:b2<w5.heap.size/\(Value.slice O k k).ownBlock≠some b2:=⟨hB5.lt,λe=>hB5.ne_own hD5.1 rfl e.symm⟩;refine (m1.grown hg8 (λj ej=>by injection ej with ej;rw [<-ej];exact hbn)).mono λj _ hj=>⟨Nat.lt_of_lt_of_le hj hxw5.size,λe=>?_⟩
  have:=(hg0 j e).1;have:=hxw3.size;omega
open Go.RowKit Pl Go.Wk
structure Atm where
 vars: List Int
 ar:Nat
 rows:List Row
abbrev V3:= Value×Value×Value
def V3.cells(t:V3): List Value:=[t.1,t.2.1,t.2.2]
def AtV(w:World)(t:V3)(a:Atm): Prop:=IntsV w t.1 a.vars/\t.2.1=.int .i64 (a.ar:Int)/\RowsV w t.2.2 a.rows
theorem AtV.ext{w w':World}{t:V3}{a:Atm}(h:AtV w t a)(hx:Ext w w'): AtV w' t a:=⟨h.1.ext hx,h.2.1,h.2.2.ext hx⟩
theorem AtV.rel{w:World}{t:V3}{a:Atm}(h:AtV w t a): RelV w (.agg #[t.2.1,t.2.2]) a.ar a.rows:=⟨t.2.2,by rw [h.2.1],h.2.2⟩
theorem AtV.one{w:World}{t:V3}{a:Atm}(h:AtV w t a): ∀ u∈t.cells,u.oneCell'=true:=by
 obtain ⟨⟨A,c,h1,_⟩,h2,⟨ps,B,d,_,h3,_⟩⟩:=h;intro u hu;simp only [V3.cells,List.mem_cons,List.not_mem_nil,or_false]at hu;rcases hu with rfl|rfl|rfl
 ·rw [h1];rfl
 ·rw [h2];rfl
 ·rw [h3];rfl
def v30: V3:=(undef,undef,undef)
def a0: Atm:=⟨[],0,[]⟩
abbrev TA:= V3×Atm
def ta0: TA:=(v30,a0)
def atC(ts:List TA): List Value:=ts.flatMap λp=>p.1.cells
theorem Qnv: ∀ (r:List TA) (i j:Nat),i<r.length->j<3->(atC r)[i*3+j]?=(r.getD i ta0).1.cells[j]?
 | [],i,j,h,_=>by simp at h
 | v::r,0,j,_,hj=>by
  simp only [atC,List.flatMap_cons,Nat.zero_mul,Nat.zero_add,List.getD_cons_zero];rw [List.getElem?_append_left (by simp [V3.cells];omega)]
 | v::r,i+1,j,h,hj=>by
  have ih:=Qnv r i j (by simpa using h) hj;simp only [atC,List.flatMap_cons,List.getD_cons_succ]at ih ⊢;rw [List.getElem?_append_right (by simp [V3.cells];omega),<-ih];congr 1
  simp [V3.cells];omega
def AtsV(w:World)(v:Value)(ats:List Atm): Prop:=∃ (ts:List TA) (A:Option Addr) (c:Nat),ats=ts.map (·.2)/\v=.slice A ts.length c/\ts.length<=c/\ts.length<=1100000/\Rd w 3 A ts.length (atC ts)/\∀ p∈ts,AtV w p.1 p.2
theorem AtsV.ext{w w':World}{v:Value}{ats:List Atm}(h:AtsV w v ats)(hx:Ext w w'): AtsV w' v ats:=by
 obtain ⟨ts,A,c,h1,h2,h3,h4,h5,h6⟩:=h;exact ⟨ts,A,c,h1,h2,h3,h4,h5.ext hx,λp hp=>(h6 p hp).ext hx⟩
theorem Jpb{w:World}{A:Option Addr}{n:Nat}{ts:List TA}(hR:Rd w 3 A n (atC ts))(hn:ts.length=n){i j:Nat}{u:Value}(hi:i<n)(hu:(ts.getD i ta0).1.cells[j]?=some u): w.cell? ((adr A (i*3)).add j)=some u:=by
 have hj:j<3:=by have:=(List.getElem?_eq_some_iff.1 hu).1;simpa [V3.cells] using this
 rw [Jqw];exact hR.cell (by rw [Qnv ts i j (by omega) hj];exact hu)
theorem Jll{ts:List TA}{n:Nat}(hn:ts.length=n){i:Nat}(hi:i<n): ts.getD i ta0∈ts:=getD_mem' ta0 ts (hn.symm ▸ hi)
def ascB(zs:List Int): Prop:=∀ j,0<j->j<zs.length->zs.getD (j-1) 0<zs.getD j 0
def Xdg(n:Int)(a:Atm): Prop:=ascB a.vars/\(∀ v∈a.vars,0<=v/\v<n)/\a.vars.length=a.ar
def Xch(n:Int)(ats:List Atm): Prop:=0<=n/\n<=32/\ats.length<=32/\(∀ a∈ats,Xdg n a)/\∀ v:Nat,(v:Int)<n->∃ a∈ats,(v:Int)∈a.vars
theorem Jtg{w:World}{A:Option Addr}{c:Nat}{bs:List Bool}{t:Bool}(hR:RdB w A bs)(hm:bs.length<=1100000): Ret Tryz.prog 164 [.slice A bs.length c,.bool t] w λu w'=>w'=w/\∃ z,u=.int .i64 z/\(0<=z↔t∈bs):=by
 refine Jjb Tryz.func164 Tryz.ntmps164 rfl (by kernel_rfl) rfl ?_;refine ρ ?_;refine Jqn (fun (k:Nat)=>[(0,.slice A bs.length c),(1,.bool t),(7,.int .i64 (bs.length:Int)),(8,.int .i64 (k:Int))]) (λk w'=>w'=w/\k<=bs.length/\t ∉ bs.take k) (λk=>bs.length-k) 0 sB ⟨rfl,Nat.zero_le _,by simp⟩ ?_;rintro k w' ⟨rfl,hk,hI⟩;refine ρ ?_;refine ci (λh=>?_) (λh=>?_)
 ·have lk:k<bs.length:=by have:=of_decide_eq_true h;omega
  refine ρ ?_;refine ix k hR lk ?_;refine ρ ?_;refine ld (RdB.cell hR lk) ?_;refine eqb ?_;refine ρ ?_;refine ci (λh=>?_) (λh=>?_)
  ·refine ρ ?_;refine Jjq ⟨rfl,(k:Int),rfl,⟨λ_=>?_,λ_=>by omega⟩⟩;rw [beq_iff_eq.1 h];exact getD_mem' false bs lk
  ·refine ρ ?_;refine Jjt (k+1) sO ⟨rfl,by omega,?_⟩ (by omega);rw [Jjm false lk,List.mem_append,List.mem_singleton];rintro (h'|h')
   ·exact hI h'
   ·rw [<-h']at h;simp at h
 ·refine ρ ?_;refine Jjq ⟨rfl,-1,rfl,⟨λe=>by omega,λe=>?_⟩⟩;rw [List.take_of_length_le (by have:=of_decide_eq_false h;omega)]at hI;exact absurd e hI
theorem Jhl{w:World}{A:Option Addr}{c:Nat}{bs:List Bool}{t:Bool}(hR:RdB w A bs)(hm:bs.length<=1100000): Ret Tryz.prog 146 [.slice A bs.length c,.bool t] w λu w'=>w'=w/\∃ b:Bool,u=.bool b/\(b=true↔t∈bs):=by
 refine Jjb Tryz.func146 Tryz.ntmps146 rfl (by kernel_rfl) rfl ?_;refine ρ ?_;refine cl (Jtg hR hm) ?_;rintro u w' ⟨rfl,z,rfl,hz⟩;refine ρ ?_;exact Jjq ⟨rfl,decide (0<=z),rfl,by rw [decide_eq_true_iff];exact hz⟩
theorem Blk.at2{w:World}{g:Nat}{t:TypeId}{cs:List Value}(h:Blk w g t cs){i j:Nat}{v:Value}(hv:cs[i+j]?=some v): w.cell? ((⟨g,i,none⟩:Addr).add j)=some v:=by rw [Jzn,h.cell];exact hv
theorem Jdg: Jxc Tryz.prog 69=some (.agg #[.slice none 0 0,.int .i64 0,.slice none 0 0]):=by kernel_rfl
abbrev Jhm(w:World)(base:Nat)(v:Value)(bs:List Bool): Prop:=w.ownsRow base 4 1 v bs.length (bs.map Value.bool)
theorem Qnh{bs:List Bool}{i:Nat}(h:i<bs.length): (bs.map Value.bool)[i]?=some (.bool (bs.getD i false)):=by simp [List.getD,List.getElem?_eq_getElem h]
theorem Qxn(bs:List Bool)(i k:Nat)(x:Bool)(hi:i<bs.length): (bs.set i x).getD k false=if k=i then x else bs.getD k false:=Jbq false bs i k x hi
theorem Jcz{w:World}{v:Value}{n:Int}{ats:List Atm}(h:AtsV w v ats): Ret Tryz.prog 109 [.int .i64 n,v] w λu w'=>Ext w w'/\∃ e,u=.int .i64 e/\(e=0↔Xch n ats):=by
 obtain ⟨ts,A,c,rfl,rfl,hle,hmx,hR,hat⟩:=h;generalize hm:ts.length=m at *
 refine Jjb Tryz.func109 Tryz.ntmps109 rfl (by kernel_rfl) rfl ?_;refine ρ ?_;refine Jzm (fun (t:Bool)=>[(0,.int .i64 n),(1,.slice A m c),(16,.bool t)]) (λt w'=>w'=w/\(t=true↔¬ (0<=n/\n<=32))) ?_ ?_
 ·refine ki 13 (λh=>?_) (λh=>?_)
  ·refine ρ ?_;exact Jjn true sB ⟨rfl,by have:=of_decide_eq_true h;simp;omega⟩
  ·refine ρ ?_;refine Jjn _ sB ⟨rfl,?_⟩;have:=of_decide_eq_false h;rw [decide_eq_true_iff];omega
 rintro t w' ⟨rfl,ht⟩;refine ci (λh=>?_) (λh=>?_)
 ·refine ρ ?_;exact Jjq ⟨Ext.refl _,3,rfl,⟨λe=>(by cases e),λe=>absurd ⟨e.1,e.2.1⟩ (ht.1 h)⟩⟩
 have hn:0<=n/\n<=32:=by
  by_cases hz:0<=n/\n<=32
  ·exact hz
  ·rw [ht.2 hz]at h;cases h
 obtain ⟨hn0,hn1⟩:=hn;obtain ⟨N,rfl⟩:=Int.eq_ofNat_of_zero_le hn0;clear h ht;refine ρ ?_;refine ci (λh=>?_) (λh=>?_)
 ·refine ρ ?_;refine Jjq ⟨Ext.refl _,12,rfl,⟨λe=>(by cases e),λe=>?_⟩⟩;have h1:=e.2.2.1;rw [List.length_map,hm]at h1;have:=of_decide_eq_true h;omega
 have hm32:m<=32:=by have:=of_decide_eq_false h;omega
 clear h;refine ρ ?_;refine mkn EB N (by omega) (by unfold maxLen;omega) ?_;intro w1 O hx1 ho1 hO;have ho1':Jhm w1 w'.heap.size (.slice O N N) (List.replicate N false):=by
  rw [Jhm,List.length_replicate,List.map_replicate];have e:(madeCells (Value.bool false).cells (N*1)).toList=List.replicate N (Value.bool false):=by rw [Nat.mul_one];exact Jmm _ _
  rw [e]at ho1;exact ho1
 refine ρ ?_;refine Jjv (fun (i:Nat) (us:List Bool)=>[(0,.int .i64 (N:Int)),(5,.slice O N N),(22,.slice A m c),(23,.int .i64 (m:Int)),(24,.int .i64 (i:Int))])
  (λi us w2=>i<=m/\Ext w' w2/\us.length=N/\Jhm w2 w'.heap.size (.slice O N N) us/\(∀ j,j<i->Xdg N (ts.getD j ta0).2)/\∀ v:Nat,v<N->(us.getD v false=true↔∃ j,j<i/\(v:Int)∈(ts.getD j ta0).2.vars)) (λi _=>m-i) 0 (List.replicate N false) sB
  ⟨Nat.zero_le _,hx1,by simp,ho1',λj hj=>by omega,λv hv=>⟨λe=>by simp [List.getD,hv]at e,λ⟨j,hj,_⟩=>by omega⟩⟩ ?_
 rintro i us w2 ⟨hi,hx2,hus,ho2,hok,huse⟩;refine ρ ?_;refine ci (λh=>?_) (λh=>?_)
 ·have li:i<m:=by have:=of_decide_eq_true h;omega
  have hR2:=hR.ext hx2;obtain ⟨t1,t2,t3,a,hp⟩:∃ t1 t2 t3 a,ts.getD i ta0=((t1,t2,t3),a):=⟨_,_,_,_,rfl⟩;have hA0:AtV w' (t1,t2,t3) a:=by have:=hat _ (Jll hm li);rw [hp]at this;exact this
  have hmem:a∈ts.map (·.2):=List.mem_map.2 ⟨_,Jll hm li,by rw [hp]⟩
  clear h;obtain ⟨⟨D,d,e1,hd,hdm,hdr⟩,e2,hrows⟩:=id hA0;simp only at e1 e2;subst e1;subst e2;obtain ⟨ps,G,gc,_,hv3,_⟩:=id hrows;simp only at hv3;subst hv3;refine ρ ?_;refine ixq 3 i hR2 li ?_;refine ρ ?_;refine lds (cs:=[.slice D a.vars.length d,.int .i64 (a.ar:Int),.slice G ps.length gc]) (λj u hu=>Jpb hR2 hm li (by rw [hp];exact hu)) ?_;refine ρ ?_;refine alc (cs:=[.slice none 0 0,.int .i64 0,.slice none 0 0]) Jdg ?_;intro w3 b hx3 hb hB;refine ρ ?_;refine stb hB ?_ hA0.one;intro w4 hB4 hg4 hx4;have hx24:Ext w2 w4:=hx4 w2 hx3 hb;have hxw4:=hx2.trans hx24;have ho4:=Jjc ho2 hx24;have notOk:¬ Xdg N a->¬ Xch N (ts.map (·.2)):=λh1 h2=>h1 (h2.2.2.2.1 a hmem)
  refine ρ ?_;refine Jqn (fun (k:Nat)=>[(0,.int .i64 (N:Int)),(5,.slice O N N),(22,.slice A m c),(23,.int .i64 (m:Int)),(24,.int .i64 (i:Int)),(7,.pointer (some ⟨b,0,none⟩)),(8,.int .i64 (k:Int))])
   (λk w5=>Ext w4 w5/\1<=k/\(k<=a.vars.length∨k=1)/\∀ j,0<j->j<k->a.vars.getD (j-1) 0<a.vars.getD j 0) (λk=>a.vars.length-k) 1 sB ⟨Ext.refl _,Nat.le_refl _,.inr rfl,λj h1 h2=>by omega⟩ ?_
  rintro k w5 ⟨hx5,hk1,hk2,hasc⟩;have hB5:=hB4.ext hx5;refine ρ ?_;refine ld (hB5.at (i:=0) rfl) ?_;refine ρ ?_;refine ci (λh=>?_) (λh=>?_)
  ·have lk:k<a.vars.length:=by have:=of_decide_eq_true h;omega
   have lk1:k-1<a.vars.length:=by omega
   clear h;refine ρ ?_;refine dr [(0,0),(0,1),(0,2),(0,3),(0,4),(0,5),(0,6),(0,7),(0,8),(0,9),(0,10),(0,11)] (by kernel_rfl) ?_;have hx5d:=hx5.drew;have hB6:=hB4.ext hx5d;have hdr6:=hdr.ext (hxw4.trans hx5d);refine ρd ?_;refine dld (hB6.at (i:=0) rfl) ?_;refine ρd ?_;refine dix (k-1) hdr6 lk1 ?_;refine ρd ?_;refine dld (hdr6.cell (Jdr lk1)) ?_;refine ρd ?_;refine dld (hB6.at (i:=0) rfl) ?_;refine ρd ?_;refine dix k hdr6 lk ?_;refine ρd ?_;refine dld (hdr6.cell (Jdr lk)) ?_;refine ρd ?_;refine ρ ?_;refine ci (λh=>?_) (λh=>?_)
   ·refine ρ ?_;refine Jjq ⟨hxw4.trans hx5d,16,rfl,⟨λe=>(by cases e),λe=>absurd e (notOk λh1=>?_)⟩⟩;have:=h1.1 k (by omega) lk;have:=of_decide_eq_true h;omega
   ·refine ρ ?_;refine Jjt (k+1) sO ⟨hx5d,by omega,by omega,λj h1 h2=>?_⟩ (by omega);by_cases ej:j=k
    ·subst ej;have:=of_decide_eq_false h;omega
    ·exact hasc j h1 (by omega)
  have hasc':ascB a.vars:=λj h1 h2=>hasc j h1 (by have:=of_decide_eq_false h;omega);clear h hasc hk1 hk2;have hxw5:=hxw4.trans hx5;have ho5:=Jjc ho4 hx5;refine ρ ?_;refine ld (hB5.at (i:=0) rfl) ?_;refine ρ ?_;refine Jjv (fun (q:Nat) (us:List Bool)=>[(0,.int .i64 (N:Int)),(5,.slice O N N),(22,.slice A m c),(23,.int .i64 (m:Int)),(24,.int .i64 (i:Int)),(7,.pointer (some ⟨b,0,none⟩)),(48,.slice D a.vars.length d),(49,.int .i64 (a.vars.length:Int)),(50,.int .i64 (q:Int))])
   (λq us w6=>q<=a.vars.length/\Ext w' w6/\us.length=N/\Jhm w6 w'.heap.size (.slice O N N) us/\Blk w6 b 69 [.slice D a.vars.length d,.int .i64 (a.ar:Int),.slice G ps.length gc]/\(∀ j,j<q->0<=a.vars.getD j 0/\a.vars.getD j 0<N)/\∀ v:Nat,v<N->(us.getD v false=true↔(∃ j,j<i/\(v:Int)∈(ts.getD j ta0).2.vars)∨∃ j,j<q/\a.vars.getD j 0=(v:Int))) (λq _=>a.vars.length-q) 0 us sB
   ⟨Nat.zero_le _,hxw5,hus,ho5,hB5,λj hj=>by omega,λv hv=>⟨λe=>.inl ((huse v hv).1 e),λe=>(huse v hv).2 (e.elim id λ⟨j,hj,_⟩=>by omega)⟩⟩ ?_
  clear ho2 ho4 ho5 hB5 hB4 huse hus;rintro q us w6 ⟨hq,hx6,hus,ho6,hB6,hin,huse⟩;refine ρ ?_;refine ci (λh=>?_) (λh=>?_)
  ·have lq:q<a.vars.length:=by have:=of_decide_eq_true h;omega
   have hdr6:=hdr.ext hx6;have hvm:a.vars.getD q 0∈a.vars:=getD_mem' 0 _ lq;clear h;refine ρ ?_;refine ix q hdr6 lq ?_;refine ρ ?_;refine ld (hdr6.cell (Jdr lq)) ?_;refine ρ ?_;generalize hz:a.vars.getD q 0=z at *
   refine Jzm (fun (t:Bool)=>[(0,.int .i64 (N:Int)),(5,.slice O N N),(22,.slice A m c),(23,.int .i64 (m:Int)),(24,.int .i64 (i:Int)),(7,.pointer (some ⟨b,0,none⟩)),(48,.slice D a.vars.length d),(49,.int .i64 (a.vars.length:Int)),(50,.int .i64 (q:Int)),(10,.int .i64 z),(60,.bool t)]) (λt w7=>w7=w6/\(t=true↔¬ (0<=z/\z<N))) ?_ ?_
   ·refine ki 56 (λh=>?_) (λh=>?_)
    ·refine ρ ?_;exact Jjn true sB ⟨rfl,by have:=of_decide_eq_true h;simp;omega⟩
    ·refine ρ ?_;refine Jjn _ sB ⟨rfl,?_⟩;have:=of_decide_eq_false h;rw [decide_eq_true_iff];omega
   rintro t w7 ⟨rfl,ht⟩;refine ci (λh=>?_) (λh=>?_)
   ·refine ρ ?_;exact Jjq ⟨hx6,3,rfl,⟨λe=>(by cases e),λe=>absurd e (notOk λh1=>ht.1 h (h1.2.1 z hvm))⟩⟩
   have hzr:0<=z/\z<N:=by
    by_cases hz:0<=z/\z<N
    ·exact hz
    ·rw [ht.2 hz]at h;cases h
   obtain ⟨x,rfl⟩:=Int.eq_ofNat_of_zero_le hzr.1;have lx:x<N:=by omega
   rw [Jhm,hus]at ho6;obtain ⟨s1,s2,s3,s4,s5⟩:=Jqq ho6 (q:=x) (by omega) (.bool true);refine ρ ?_;refine ix x (Rd.own ho6) lx ?_;refine ρ ?_;refine sto (s1.trans (Qnh (by omega))) s2 ?_;refine ρ ?_;refine Jjj (q+1) (us.set x true) sO ⟨by omega,Jjk hx6 s5 (λk hk=>by
    obtain ⟨_,_,_,_,hf⟩:=Jjd ho6;exact (hf k hk).1),by simpa using hus,?_,hB6.grown s5 (hB6.ne_own ho6 rfl),λj hj=>?_,λv hv=>?_⟩ (by omega)
   ·rw [Jhm,List.length_set,hus,List.map_set];exact s3
   ·by_cases ej:j=q
    ·subst ej;rw [hz];exact hzr
    ·exact hin j (by omega)
   ·rw [Qxn _ _ _ _ (by omega)];by_cases ev:v=x
    ·subst ev;rw [if_pos rfl];exact ⟨λ_=>.inr ⟨q,by omega,hz⟩,λ_=>rfl⟩
    ·rw [if_neg ev,huse v hv];constructor
     ·rintro (h'|⟨j,hj,ej⟩)
      ·exact .inl h'
      ·exact .inr ⟨j,by omega,ej⟩
     ·rintro (h'|⟨j,hj,ej⟩)
      ·exact .inl h'
      ·by_cases e2:j=q
       ·subst e2;rw [hz]at ej;omega
       ·exact .inr ⟨j,by omega,ej⟩
  ·have eq:q=a.vars.length:=by have:=of_decide_eq_false h;omega
   clear h;have hin':∀ v∈a.vars,0<=v/\v<N:=λv hv=>by
    obtain ⟨j,hj,rfl⟩:=List.getElem_of_mem hv;have:=hin j (by omega);rw [Jjh 0 _ hj]at this;exact this
   refine ρ ?_;refine dr [(0,0),(0,1),(0,2),(0,3),(0,4),(1,5),(0,6)] (by kernel_rfl) ?_;have hx6d:=hx6.drew;have hB7:=hB6.ext (Ext.refl w6).drew;have hA7:=hA0.ext hx6d;refine ρd ?_;refine dld (hB7.at (i:=0) rfl) ?_;refine ρd ?_;refine Jwv (cs:=[.int .i64 (a.ar:Int),.slice G ps.length gc]) (λj u hu=>Blk.at2 hB7 (i:=0+1) (by rw [Nat.add_comm];simpa using hu)) ?_;refine ρd ?_;refine dcl (Jys hA7.rel) ?_;rintro u w8 ⟨rfl,hx8⟩;refine ⟨hx8,?_⟩;refine ρd ?_;refine ρ ?_;refine ci (λh=>?_) (λh=>?_)
   ·refine ρ ?_;refine Jjq ⟨hx6d.trans hx8,6,rfl,⟨λe=>(by cases e),λe=>absurd e (notOk λh1=>?_)⟩⟩;have:=Jkp h;have:=h1.2.2;omega
   ·refine ρ ?_;have har:a.vars.length=a.ar:=by have:=Jkq h;omega
    refine Jjj (i+1) us sO ⟨by omega,hx6d.trans hx8,hus,Jjc (Jjc ho6 (Ext.refl w6).drew) hx8,λj hj=>?_,λv hv=>?_⟩ (by omega)
    ·by_cases ej:j=i
     ·subst ej;rw [hp];exact ⟨hasc',hin',har⟩
     ·exact hok j (by omega)
    ·rw [huse v hv];constructor
     ·rintro (⟨j,hj,ej⟩|⟨j,hj,ej⟩)
      ·exact ⟨j,by omega,ej⟩
      ·refine ⟨i,by omega,?_⟩;rw [hp,<-ej];exact getD_mem' 0 a.vars (by omega)
     ·rintro ⟨j,hj,ej⟩;by_cases e2:j=i
      ·subst e2;have ej':(v:Int)∈a.vars:=by rw [hp]at ej;exact ej
       obtain ⟨y,hy,ey⟩:=List.getElem_of_mem ej';exact .inr ⟨y,by omega,by rw [Jjh 0 _ hy];exact ey⟩
      ·exact .inl ⟨j,by omega,ej⟩
 ·have ei:i=m:=by have:=of_decide_eq_false h;omega
  clear h;subst hus;have hRB:RdB w2 O us:=Rd.own ho2;have hall:∀ a∈ts.map (·.2),Xdg us.length a:=λa ha=>by
   obtain ⟨p,hp,rfl⟩:=List.mem_map.1 ha;obtain ⟨j,hj,rfl⟩:=List.getElem_of_mem hp;have:=hok j (by omega);rw [Jjh ta0 _ hj]at this;exact this
  refine ρ ?_;refine cl (Jhl hRB (by omega)) ?_;rintro u w3 ⟨rfl,t,rfl,ht⟩;refine ρ ?_;refine ci (λh=>?_) (λh=>?_)
  ·refine ρ ?_;refine Jjq ⟨hx2,22,rfl,⟨λe=>(by cases e),λe=>?_⟩⟩;obtain ⟨x,hx,ex⟩:=List.getElem_of_mem (ht.1 h);obtain ⟨a,ha,hxa⟩:=e.2.2.2.2 x (by omega);obtain ⟨p,hp,rfl⟩:=List.mem_map.1 ha;obtain ⟨j,hj,rfl⟩:=List.getElem_of_mem hp;have:=(huse x (by omega)).2 ⟨j,by omega,by rw [Jjh ta0 _ hj];exact hxa⟩;rw [Jjh false us hx,ex]at this;cases this
  ·refine ρ ?_;refine Jjq ⟨hx2,0,rfl,⟨λ_=>⟨by omega,by omega,by rw [List.length_map];omega,hall,λv hv=>?_⟩,λ_=>rfl⟩⟩;have hv':v<us.length:=by omega
   have htrue:us.getD v false=true:=by
    cases hc:us.getD v false with
    | true=>rfl
    | false=>
     rw [Jjh false us (by omega)]at hc;have:false∈us:=by rw [<-hc];exact List.getElem_mem _
     rw [ht.2 this]at h;cases h
   obtain ⟨j,hj,hm'⟩:=(huse v hv').1 htrue;exact ⟨_,List.mem_map.2 ⟨_,Jll hm (by omega),rfl⟩,hm'⟩
end Go.Proofs.YtefpailelagbkaaGreatDoor
