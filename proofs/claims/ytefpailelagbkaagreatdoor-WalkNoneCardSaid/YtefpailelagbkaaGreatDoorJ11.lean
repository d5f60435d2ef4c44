/- Part 11 of the proof: Rel2, Rel3, Rel4, Rel5. -/
import Derived.Test.YtefpailelagbkaaGreatDoorJ10
set_option linter.unusedVariables false
set_option maxRecDepth 100000
set_option maxHeartbeats 40000000
namespace Go.Proofs.YtefpailelagbkaaGreatDoor
open Go.RowKit Pl Go.Wk
attribute [local irreducible] WC WL QX WD WDB WP
theorem RowX.off{w:World}{N:Nat->Prop}{v:Value}{r:Row}(h:RowX w N v r): Off N w (λu=>RowV u v r):=by
 obtain ⟨A,c,G,D,C,o,j⟩:=h;intro w' i;refine ⟨A,c,G,D,C,Qqk o i λh0 O e=>j (λJ=>?_) O e⟩;subst J;simp [Jzj]at h0
theorem Xvl{w:World}{row:Option Nat}{ps:List Pr}(h:∀ p∈ps,Off (one row) w (λu=>RowV u p.1 p.2)): CF w row 117 #[] #[] ps []:=λw' i p q o j=>
 Jbr (h p o w' (GrN.by i λk e=>e)) (h q j w' (GrN.by i λk e=>e))
theorem eqRow{w:World}{row:Option Nat}{ps:List Pr}(h:∀ p∈ps,Off (one row) w (λu=>RowV u p.1 p.2)): EqF w row 114 #[] #[] ps:=λw' i p q o j=>
 Jfv (h p o w' (GrN.by i λk e=>e)) (h q j w' (GrN.by i λk e=>e))
theorem ownB(A:Option Addr)(n c m d:Nat): (Value.slice A n c).ownBlock=(Value.slice A m d).ownBlock:=by cases A<;>rfl
theorem Xjl{w:World}{N:Nat->Prop}{base:Nat}{A:Option Addr}{n c:Nat}{ps:List Pr}(hD:Dat w base (.slice A n c) ps)(hn:ps.length=n)(hmx:n<=1100000)(hnc:n<=c)(hN:∀ k,(Value.slice A n c).ownBlock=some k->¬ N k)(hr:∀ p∈ps,Off N w (λu=>RowV u p.1 p.2)): Off N w (λu=>RowsV u (.slice A n c) (ps.map (·.2))):=by
 intro w' i;refine ⟨ps,A,c,rfl,by rw [hn],by omega,by omega,?_,λp j=>hr p j w' i⟩;rw [hn];refine Qqk (hD.rd hn) i λ_ o e=>?_;subst e;exact hN _ rfl
def Xyn(N:Nat->Prop)(w:World)(v:Value)(ls:List Row): Prop:=∃ (ps:List Pr) (A:Option Addr) (c:Nat),ls=ps.map (·.2)/\v=.slice A ps.length c/\ps.length<=c/\ps.length<=1100000/\Off N w (λu=>Rd u 1 A ps.length (ps.map (·.1)))/\∀ p∈ps,Off N w (λu=>RowV u p.1 p.2)
theorem rowsP{w:World}{N:Nat->Prop}{base:Nat}{A:Option Addr}{n c:Nat}{ps:List Pr}(hD:Dat w base (.slice A n c) ps)(hn:ps.length=n)(hmx:n<=1100000)(hnc:n<=c)(hN:∀ k,(Value.slice A n c).ownBlock=some k->¬ N k)(hr:∀ p∈ps,Off N w (λu=>RowV u p.1 p.2)): Xyn N w (.slice A n c) (ps.map (·.2)):=by
 refine ⟨ps,A,c,rfl,by rw [hn],by omega,by omega,λw' i=>?_,hr⟩;rw [hn];refine Qqk (hD.rd hn) i λ_ j e=>?_;subst e;exact hN _ rfl
theorem Qjz{w:World}{base:Nat}{A:Option Addr}{n c ar:Nat}{ps:List Pr}(hD:Dat w base (.slice A n c) ps)(hn:ps.length=n)(hmx:n<=1100000)(hnc:n<=c)(hr:∀ p∈ps,Off (one (Value.slice A n c).ownBlock) w (λu=>RowV u p.1 p.2)):
  Ret Tryz.prog 78 [.int .i64 (ar:Int),.slice A n c] w λv w'=>w.grownBy w' (Value.slice A n c).ownBlock/\∃ rv e,v=.tuple #[rv,.int .i64 e]/\(∃ z B m d,rv=.agg #[.int .i64 z,.slice B m d])/\(n<=65536->e=0) /\
   (e=0->∃ m,Off (λk=>k<w.heap.size/\(Value.slice A n c).ownBlock≠some k) w' (λu=>RelV u rv ar m)/\m.length<=65536/\(∀ x∈m,x∈ps.map (·.2))/\((n<=12∨Srt [] (ps.map (·.2)))->Jvg [] (ps.map (·.2)) m)):=by
 refine Jjc Tryz.func78 Tryz.ntmps78 rfl (by kernel_rfl) rfl ?_;refine ρ ?_;refine alc Qmh ?_;intro w1 b a1 hb hB;have av:=hD.ext a1;have ae:∀ p∈ps,Off (one (Value.slice A n c).ownBlock) w1 (λu=>RowV u p.1 p.2):=λp G=>(hr p G).ext a1;obtain ⟨own,C⟩:∃ own,own=(Value.slice A n c).ownBlock:=⟨_,rfl⟩;have a8:∀ k,own=some k->k<w.heap.size:=λk e=>by
  obtain ⟨_,_,_,_,hf⟩:=Jjd hD.1;exact (hf k (by rw [<-e,C])).2
 refine ρ ?_;refine cl (Qjb (av.rd hn) hn hmx (Xvl ae)) ?_;rintro v w2 ⟨a6,t,rfl,ht⟩;refine ρ ?_;refine Jxz (fun (q:List Pr)=>[(0,.int .i64 (ar:Int)),(1,.slice A n c),(4,.pointer (some ⟨b,0,none⟩))]) (λq w'=>DP w1 w' base A n c ps q/\Blk w' b 67 [.int .i64 0,.slice none 0 0]/\((n<=12∨Srt [] (ps.map (·.2)))->Srt [] (q.map (·.2)))) ?_ ?_
 ·have H2:=(DP.start av hn).ext a6;refine ci (λh=>?_) (λh=>?_)
  ·have ax:¬ SOn z0 (fP []) ps 0 n:=λe=>by have:=ht.2 e;rw [this]at h;cases h
   refine ρ ?_;refine cl (Jtd H2.d H2.l hmx ((Xvl ae).step H2)) ?_;rintro v w3 ⟨q,H3,hs⟩;refine ρ ?_;refine Jjn q sB ⟨H2.after H3,(hB.ext a6).grown H3.g ((hB.ext a6).ne_own H2.d.1 rfl),λe=>?_⟩;rcases e with e|e
   ·exact Qrt (by rw [H3.l];exact hs e)
   ·exfalso
    apply ax
    intro i j _ b1 hj;have e':=(List.pairwise_map.1 e);rw [List.pairwise_iff_getElem]at e';have:=e' i j (by omega) (by omega) b1;unfold fP;rw [Jjh z0 ps (by omega),Jjh z0 ps (by omega)];exact this
  ·have ay:t=true:=by simpa using h
   refine ρ ?_;exact Jjn ps sB ⟨H2,hB.ext a6,λ_=>Qrt (by rw [hn];exact ht.1 ay)⟩
 rintro q w3 ⟨H3,aw,az⟩;have an:∀ p∈q,Off (one (Value.slice A n c).ownBlock) w3 (λu=>RowV u p.1 p.2):=λp G=>(ae p (H3.p.mem_iff.1 G)).grown H3.g λk e=>e;refine ρ ?_;refine cl (Qzh H3.d H3.l hmx hnc (eqRow an)) ?_;rintro v w4 ⟨o,rfl,au,a9,ab,ah⟩;have b9:o.length<=n:=by
  have:=Jmh (q.map (·.2))
  rw [<-a9,List.length_map,List.length_map,H3.l]at this;exact this
 have ai:=aw.grown ah (aw.ne_own H3.d.1 rfl);have am:∀ p∈o,Off (one own) w4 (λu=>RowV u p.1 p.2):=λp G=>by rw [C];exact (an p (ab p G)).grown ah λk e=>e
 have a3:w1.grownBy w4 own:=by rw [C];exact Jjt H3.g ah
 have aj:((n<=12∨Srt [] (ps.map (·.2)))->Jvg [] (ps.map (·.2)) (o.map (·.2))):=λe=>by
  have h1:=Qhv (az e);rw [<-a9]at h1;exact ⟨h1.1,λx=>(h1.2 x).trans ((H3.p.map (·.2)).mem_iff)⟩
 generalize hm:o.length=m at *
 refine ρ ?_;refine ci (λh=>?_) (λh=>?_)
 ·have b5:65536<m:=by have:=oT h;omega
  refine ρ ?_;refine bld (Jsh _) ?_;refine ρ ?_;refine stb ai ?_ Qwd;intro w5 a5 D b7;refine ρ ?_;refine Jvr a5 ⟨?_,_,11,rfl,⟨0,none,0,0,rfl⟩,λe=>(by omega),λe=>(by cases e)⟩;have g1:=Jjt (Jqf a1 own) a3;rw [<-C];exact ⟨D.os.trans g1.os,D.tape.trans g1.tape,D.output.trans g1.output,Nat.le_trans g1.size D.size,λk hk hn=>(D.block k (nM hk g1.size) (λe=>by injection e with e;omega)).trans (g1.block k hk hn)⟩
 have b8:m<=65536:=by have:=oF h;omega
 clear h;obtain ⟨N',a4⟩:∃ N':Nat->Prop,N'=λk=>k<w1.heap.size∨own=some k:=⟨_,rfl⟩;have ag:(Value.slice A m c).ownBlock=own:=by rw [C];exact ownB _ _ _ _ _
 refine ρ ?_;refine Jqb (fun (k:Nat) (Z:List Pr)=>[(0,.int .i64 (ar:Int)),(1,.slice A m c),(4,.pointer (some ⟨b,0,none⟩)),(19,.int .i64 (m:Int)),(20,.int .i64 (k:Int))])
  (λk Z w'=>k<=m/\Z.length=k/\Z.map (·.2)=(o.take k).map (·.2)/\Dat w' base (.slice A m c) (Z++o.drop k)/\(∀ p∈Z,Off N' w' (λu=>RowV u p.1 p.2))/\(∀ p∈o,Off (one own) w' (λu=>RowV u p.1 p.2))/\Blk w' b 67 [.int .i64 0,.slice none 0 0]/\w1.grownBy w' own) (λk _=>m-k) 0 [] sB
  ⟨Nat.zero_le _,rfl,rfl,by simpa using au,λp G=>(by cases G),am,ai,a3⟩ ?_
 clear au am ai a3;rintro k Z w5 ⟨hk,af,a7,U,ac,ak,a5,D⟩;refine ρ ?_;have J:(Z++o.drop k).length=m:=by simp;omega
 refine ci (λh=>?_) (λh=>?_)
 ·have lk:k<m:=by have:=oT h;omega
  have aq:(Z++o.drop k).getD k z0=o.getD k z0:=by
   simp only [List.getD];rw [List.getElem?_append_right (by omega),af,Nat.sub_self,List.getElem?_drop,Nat.add_zero]
  have ap:o.getD k z0∈o:=Jkn hm lk;refine ρ ?_;refine ix k (U.rd J) lk ?_;refine ρ ?_;refine ld (U.cell J lk) ?_;rw [aq];refine ρ ?_;refine cl (Jyn (ak _ ap).here N' (λj hj=>?_)) ?_
  ·subst a4;rcases hj with h'|h'
   ·exact nM h' D.size
   ·exact nM (a8 j h') (nL a1.size D.size)
  rintro v6 w6 ⟨ad,a2⟩;have aa:=U.ext a2;obtain ⟨s1,s2,s3⟩:=aa.store J lk (p:=(v6,(o.getD k z0).2)) ad.v.one;refine ρ ?_;refine ix k (aa.rd J) lk ?_;refine ρ ?_;refine sto (aa.cell J lk) s1 ?_ (hv:=ad.v.one);refine ρ ?_;have e:(Z++o.drop k).set k (v6,(o.getD k z0).2)=(Z++[(v6,(o.getD k z0).2)])++o.drop (k+1):=by
   rw [List.set_append_right _ _ (by omega),af,Nat.sub_self,List.drop_eq_getElem_cons (by omega),List.set_cons_zero,List.append_assoc];rfl
  rw [e]at s2;rw [ag]at s3;refine Jjm (k+1) (Z++[(v6,(o.getD k z0).2)]) sO ⟨by omega,by simp [af],?_,s2,λp G=>?_,λp G=>?_,?_,?_⟩ (by omega)
  ·rw [List.map_append,a7,Jjp z0 (by omega),List.map_append];rfl
  ·rcases List.mem_append.1 G with h'|h'
   ·exact ((ac p h').ext a2).grown s3 (λk e=>by rw [a4];exact .inr e)
   ·rw [List.mem_singleton.1 h'];exact ad.off.grown s3 (λk e=>by rw [a4];exact .inr e)
  ·exact ((ak p G).ext a2).grown s3 (λk e=>e)
  ·have h7:=a5.ext a2;refine h7.grown s3 ?_;have:=h7.ne_own aa.1 rfl;rwa [ag]at this
  ·exact Jjt D (Jjt (Jqf a2 _) s3)
 ·have e:k=m:=by have:=oF h;omega
  subst e;rw [List.drop_of_length_le (by omega),List.append_nil]at U J;rw [List.take_of_length_le (by omega)]at a7;refine ρ ?_;refine bld (Xxd (ar:Int) A k c _) ?_;refine ρ ?_;refine stb a5 ?_ (Qwd (z:=(ar:Int)) (A:=A) (n:=k) (c:=c));intro w7 b4 O b6;refine ρ ?_;have b2:N' b:=by rw [a4];exact .inl hB.lt
  have b3:Dat w7 base (.slice A k c) Z:=⟨U.1.kept O (.inr (λe=>a5.ne_own U.1 rfl e.symm)),U.2⟩;have ao:=Xjl (N:=λj=>j<w.heap.size/\own≠some j) b3 J (by omega) (by omega) (λj ej hj=>hj.2 (by rw [<-ej,ag])) (λp G=>((ac p G).grown O (λj ej=>by injection ej with ej;rw [<-ej];exact b2)).mono λj _ hj=>by rw [a4];exact .inl (nM hj.1 a1.size));refine Jvr b4 ⟨?_,_,0,rfl,⟨_,_,_,_,rfl⟩,λ_=>rfl,λ_=>⟨Z.map (·.2),?_,by rw [List.length_map];omega,?_,?_⟩⟩
  ·have g1:=Jjt (Jqf a1 own) D;rw [<-C];exact ⟨O.os.trans g1.os,O.tape.trans g1.tape,O.output.trans g1.output,Nat.le_trans g1.size O.size,λj hj hn=>(O.block j (nM hj g1.size) (λe=>by injection e with e;omega)).trans (g1.block j hj hn)⟩
  ·rw [<-C];exact ao.imp λu hu=>⟨_,rfl,hu⟩
  ·intro x hx;rw [a7,a9]at hx;have:x∈q.map (·.2):=by
    obtain ⟨p,G,rfl⟩:=List.mem_map.1 (a9 ▸ hx);exact List.mem_map.2 ⟨p,ab p G,rfl⟩
   exact (H3.p.map (·.2)).mem_iff.1 this
  ·intro e;rw [a7];exact aj e
open Go.RowKit Pl Go.Wk
theorem Xqt(w:World): (Instr.buildSlice 35 0 #[]).run Tryz.prog w=.ok (.slice (some ⟨w.heap.size,0,none⟩) 0 0) (w.alloc (.cells [].toArray 40)):=by kernel_rfl
theorem Jsg{A:Option Addr}{n c:Nat}{ps:List Pr}{w:World}(hR:Rd w 1 A n (ps.map (·.1)))(hn:ps.length=n)(hmx:n<=1100000)(h1:∀ p∈ps,p.1.oneCell'=true):
  Ret Tryz.prog 79 [.slice A n c] w λv' w'=>Ext w w'/\∃ B d,v'=.slice B n d/\n<=d/\Dat w' w.heap.size (.slice B n d) ps:=by
 refine Jjc Tryz.func79 Tryz.ntmps79 rfl (by kernel_rfl) rfl ?_;refine ρ ?_;refine Qrw ?_;refine ρ ?_;refine ci (λh=>?_) (λh=>?_)
 ·have Z:A=none:=by simpa using h
  subst Z;have G:n=0:=by
   rcases Nat.eq_zero_or_pos n with h0|h0
   ·exact h0
   ·obtain ⟨ad,h2,_⟩:=hR.isome h0 (by omega);cases h2
  subst G;obtain rfl:=List.eq_nil_of_length_eq_zero hn;refine ρ ?_;exact Jjr ⟨Ext.refl w,none,0,rfl,Nat.le_refl _,⟨Jxm _ _ _ _,λp D=>by cases D⟩⟩
 ·refine ρ ?_;refine bsl Xqt ?_;intro w1 b j O J;refine ρ ?_;refine apo j ER (J.own (n:=0) O rfl (Nat.zero_le _)) (hR.ext j) (λu U=>by obtain ⟨p,D,rfl⟩:=List.mem_map.1 U;exact h1 p D) (by unfold maxLen;omega) (by omega) ?_;intro v2 w2 i C _ _;obtain ⟨A2,c2,rfl,o,hf⟩:=Jjd i;refine ρ ?_;rw [Nat.zero_add]at i o ⊢;refine Jjr ⟨C,A2,c2,rfl,o,⟨?_,h1⟩⟩;rw [hn];exact i
theorem Jdh{a w w':World}{b:Nat}(hx:Ext a w)(hg:w.grownBy w' (some b))(hb:a.heap.size<=b): Ext a w':=Jjk hx hg λk e=>by injection e with e;omega
theorem Jhv{w:World}{v:Value}{ls:List Row}{ar:Nat}(h:RowsV w v ls):
  Ret Tryz.prog 32 [.int .i64 (ar:Int),v] w λu w'=>Ext w w'/\∃ rv e,u=.tuple #[rv,.int .i64 e]/\(∃ z B m d,rv=.agg #[.int .i64 z,.slice B m d])/\(ar<=32->(∀ r∈ls,r.length=ar/\r.all Jqz=true)->ls.length<=65536->e=0) /\
   (e=0->ar<=32/\(∀ r∈ls,r.length=ar/\r.all Jqz=true)/\∃ m,Off (λk=>k<w.heap.size) w' (λu=>RelV u rv ar m)/\m.length<=65536/\(∀ x∈m,x∈ls)/\((ls.length<=12∨Srt [] ls)->Jvg [] ls m)):=by
 obtain ⟨ps,A,c,rfl,rfl,b7,ag,hR,a1⟩:=h;generalize hn:ps.length=n at *
 have b6:∀ i,(ps.map (·.2)).getD i []=(ps.getD i z0).2:=λi=>Qwm
 have ae:∀ p∈ps,p.1.oneCell'=true:=λp hp=>(a1 p hp).one;refine Jjc Tryz.func32 Tryz.ntmps32 rfl (by kernel_rfl) rfl ?_;refine ρ ?_;refine alc Qmh ?_;intro w1 b au hb hB;refine ρ ?_;refine cl (Qyl (ar:Int) w1) ?_;rintro v2 w2 ⟨ad,z',e2,rfl,ai,C⟩;refine ρ ?_;refine alc Qmh ?_;intro w3 b3 aq az b5;refine ρ ?_;refine stb b5 ?_ (Qwd (z:=z') (A:=none) (n:=0) (c:=0));intro w4 b4 b9 ap;have a6:Ext w1 w4:=ap w1 (ad.trans aq) (nL ad.size az);have J:=au.trans a6;have ab:=hB.ext a6;refine ρ ?_;refine ci (λh=>?_) (λh=>?_)
 ·have a7:=Jwp h;refine ρ ?_;refine bld (Jsh _) ?_;refine ρ ?_;refine stb ab ?_ Qwd;intro w5 aa b8 U;refine ρ ?_;refine Jvr aa ⟨U w J hb,_,e2,rfl,⟨0,none,0,0,rfl⟩,λh1 _ _=>C.2 (by omega),λe=>absurd e a7⟩
 have hz:=Jwq h;subst hz;have b1:ar<=32:=by have:=C.1 rfl;omega
 have ak:=ai rfl;subst ak;clear h ai C;refine ρ ?_;refine Jqw (fun (k:Nat)=>[(0,.int .i64 (ar:Int)),(1,.slice A n c),(4,.pointer (some ⟨b,0,none⟩)),(6,.pointer (some ⟨b3,0,none⟩)),(20,.int .i64 (n:Int)),(21,.int .i64 (k:Int))])
  (λk w'=>Ext w4 w'/\k<=n/\∀ i,i<k->(ps.getD i z0).2.length=ar/\(ps.getD i z0).2.all Jqz=true) (λk=>n-k) 0 sB ⟨Ext.refl _,Nat.zero_le _,λi hi=>by omega⟩ ?_
 rintro k w5 ⟨U,hk,hI⟩;have o:=J.trans U;refine ρ ?_;refine ci (λh=>?_) (λh=>?_)
 ·have lk:k<n:=by have:=oT h;omega
  clear h;refine ρ ?_;refine dr [(0,0),(0,1),(0,2),(0,3),(0,4),(1,5),(0,6)] (by kernel_rfl) ?_;have a5:=U.drew;have aa:=b4.ext a5;have aj:=hR.ext o.drew;refine ρd ?_;refine Jws (cs:=[.int .i64 (ar:Int),.slice none 0 0]) (λj u hu=>aa.at hu) ?_;refine ρd ?_;refine dix k aj lk ?_;refine ρd ?_;refine dld (Qyq aj hn lk) ?_;refine ρd ?_;refine dcl (Qzs (A:=none) (n:=0) (c:=0) rfl ((a1 _ (Jkn hn lk)).ext o.drew)) ?_;rintro u w6 ⟨O,e,rfl,C⟩;refine ⟨O,?_⟩;refine ρd ?_;refine ρ ?_;have Z:=a5.trans O;refine ci (λh=>?_) (λh=>?_)
  ·have a7:=Jwp h;refine ρ ?_;refine bld (Jsh _) ?_;refine ρ ?_;refine stb (ab.ext Z) ?_ Qwd;intro w7 a9 a8 ao;refine ρ ?_;refine Jvr a9 ⟨ao w (J.trans Z) hb,_,e,rfl,⟨0,none,0,0,rfl⟩,λ_ h2 _=>?_,λe=>absurd e a7⟩;obtain ⟨k1,k2⟩:=h2 (ps.getD k z0).2 (List.mem_map.2 ⟨_,Jkn hn lk,rfl⟩);exact C.2 ⟨by omega,k2⟩
  ·have hz:=Jwq h;have am:=C.1 hz;refine ρ ?_;refine Jjx (k+1) sO ⟨Z,by omega,λi hi=>?_⟩ (by omega);by_cases e:i=k
   ·subst e;exact ⟨by omega,am.2⟩
   ·exact hI i (by omega)
 ·have e:k=n:=by have:=oF h;omega
  subst e;refine ρ ?_;refine cl (Jsg (hR.ext o) hn ag ae) ?_;rintro u w6 ⟨O,D,d,rfl,hd,a3⟩;have G:=o.trans O;have a2:∀ j,(Value.slice D k d).ownBlock=some j->w5.heap.size<=j/\j<w6.heap.size:=by
   obtain ⟨_,_,_,_,hf⟩:=Jjd a3.1;exact λj ej=>⟨(hf j ej).1,(hf j ej).2⟩
  have af:∀ p∈ps,Off (one (Value.slice D k d).ownBlock) w6 (λu=>RowV u p.1 p.2):=λp hp=>Off.old (a:=w) (λu hu=>(a1 p hp).ext hu) G (λj ej=>nL o.size (a2 j ej).1);refine ρ ?_;refine cl (Qjz (ar:=ar) a3 hn ag hd af) ?_;rintro u w7 ⟨a8,rv,e,rfl,⟨z,B,m,d',av⟩,ah,aw⟩;have ac:Ext w w7:=Jjk G a8 (λj ej=>nL o.size (a2 j ej).1);have a4:=(ab.ext U).ext O;have a9:=a4.grown a8 (a4.ne_own a3.1 rfl);subst av;refine ρ ?_;refine stb a9 ?_ (Qwd (z:=z) (A:=B) (n:=m) (c:=d'));intro w8 b2 ax an;refine ρ ?_;refine Jvr b2 ⟨an w ac hb,_,e,rfl,⟨z,B,m,d',rfl⟩,λ_ _ h3=>ah (by rw [List.length_map,hn]at h3;exact h3),λe0=>⟨b1,λr hr=>?_,?_⟩⟩
  ·obtain ⟨p,hp,rfl⟩:=List.mem_map.1 hr;obtain ⟨i,hi,rfl⟩:=List.getElem_of_mem hp;have:=hI i (by omega);rw [Jjh z0 ps hi]at this;exact this
  ·obtain ⟨ms,m1,m2,m3,m4⟩:=aw e0;refine ⟨ms,?_,m2,m3,λhc=>m4 (by rw [List.length_map,hn]at hc;exact hc)⟩;have ay:b<w6.heap.size/\(Value.slice D k d).ownBlock≠some b:=⟨a4.lt,λe=>a4.ne_own a3.1 rfl e.symm⟩;refine (m1.grown ax (λj ej=>by injection ej with ej;rw [<-ej];exact ay)).mono λj _ hj=>⟨nM hj G.size,λe=>?_⟩;have:=(a2 j e).1;have:=o.size;omega
open Go.RowKit Pl Go.Wk
theorem Jpz: ∀ (q:Row) (i:Nat) (x:V),i<q.length->Jzj (q.set i x)=(Jzj q).take (i*3)++x.cells++(Jzj q).drop (i*3+3)
 | [],i,x,h=>by simp at h
 | v::q,0,x,_=>by
  have e:Jzj (v::q)=v.cells++Jzj q:=by simp [Jzj]
  have e2:Jzj (x::q)=x.cells++Jzj q:=by simp [Jzj]
  rw [List.set_cons_zero,e,e2,Nat.zero_mul,List.take_zero,List.nil_append,Nat.zero_add];congr 1
 | v::q,i+1,x,h=>by
  have ih:=Jpz q i x (by simpa using h);have e:Jzj (v::q)=v.cells++Jzj q:=by simp [Jzj]
  have e2:Jzj (v::q.set i x)=v.cells++Jzj (q.set i x):=by simp [Jzj]
  have hl:v.cells.length=3:=rfl;rw [List.set_cons_succ,e,e2,ih];have e3:(v.cells++Jzj q).take ((i+1)*3)=v.cells++(Jzj q).take (i*3):=by
   rw [List.take_append,hl,List.take_of_length_le (by omega)];congr 2;omega
  have e4:(v.cells++Jzj q).drop ((i+1)*3+3)=(Jzj q).drop (i*3+3):=by
   rw [List.drop_append,hl,List.drop_of_length_le (by omega),List.nil_append];congr 1;omega
  rw [e3,e4];simp [List.append_assoc]
theorem Jht(n:Nat): (madeCells (Value.agg #[.int .i64 0,.int .i64 0,.string ⟨#[]⟩]).cells (n*3)).toList=Jzj (List.replicate n V0):=by
 apply List.ext_getElem?
 intro k;have j:(Value.agg #[.int .i64 0,.int .i64 0,.string ⟨#[]⟩]).cells = #[.int .i64 0,.int .i64 0,.string ⟨#[]⟩]:=rfl;rw [j];by_cases hk:k<n*3
 ·have i:=Jrb (List.replicate n V0) (k / 3) (k % 3) (by simp;omega) (by omega);rw [show k / 3*3+k % 3=k by omega]at i;rw [i];have e:(List.replicate n V0).getD (k / 3) V0=V0:=by
   rw [Jjh V0 _ (by simp;omega)];simp
  rw [e];have o:k % 3<3:=by omega
  simp only [madeCells,Array.getElem?_toList,Array.getElem?_map,Array.getElem?_range,hk,if_true,Option.map_some];generalize k % 3=r at *
  have:r=0∨r=1∨r=2:=by omega
  rcases this with rfl|rfl|rfl<;>rfl
 ·rw [List.getElem?_eq_none (by simp [madeCells];omega),List.getElem?_eq_none (by rw [Qkq];simp;omega)]
def Jkg(zs:List Int): List Value:=zs.map (Value.int .i64)
def IntsV(w:World)(v:Value)(zs:List Int): Prop:=∃ A c,v=.slice A zs.length c/\zs.length<=c/\zs.length<=1100000/\Rd w 1 A zs.length (Jkg zs)
theorem IntsV.ext{w w':World}{v:Value}{zs:List Int}(h:IntsV w v zs)(hx:Ext w w'): IntsV w' v zs:=by obtain ⟨A,c,u,o,j,i⟩:=h;exact ⟨A,c,u,o,j,i.ext hx⟩
theorem Jcx{zs:List Int}{i:Nat}(h:i<zs.length): (Jkg zs)[i]?=some (.int .i64 (zs.getD i 0)):=by simp [Jkg,List.getD,List.getElem?_eq_getElem h]
def nz(cs:List Nat): List Int:=cs.map fun (c:Nat)=>(c:Int)
theorem Jzc{cs:List Nat}{i:Nat}(h:i<cs.length): (Jkg (nz cs))[i]?=some (.int .i64 (cs.getD i 0:Int)):=by simp [Jkg,nz,List.getD,List.getElem?_eq_getElem h]
theorem Jqp(cs:List Nat): (nz cs).length=cs.length:=by simp [nz]
def pmR(cs:List Nat)(r:Row): Row:=cs.map λc=>r.getD c V0
abbrev Qzv(w:World)(base:Nat)(v:Value)(q:Row): Prop:=w.ownsRow base 71 3 v q.length (Jzj q)
theorem Jxb(cs:List Nat)(r:Row): (pmR cs r).length=cs.length:=by simp [pmR]
theorem Jrd{cs:List Nat}{r:Row}{k:Nat}(hk:k<cs.length): (pmR cs r).getD k V0=r.getD (cs.getD k 0) V0:=by
 rw [Jjh V0 _ (by simpa [pmR] using hk),Jjh 0 cs hk];simp [pmR]
theorem Jww{w:World}{v:Value}{ar:Nat}{ls:List Row}(h:RelV w v ar ls): Ret Tryz.prog 82 [v] w λu w'=>u=.int .i64 (ls.length:Int)/\Ext w w':=by
 obtain ⟨O,rfl,ps,A,c,rfl,rfl,D,C,Z,o⟩:=h;refine Jjc Tryz.func82 Tryz.ntmps82 rfl (by kernel_rfl) rfl ?_;refine ρ ?_;refine bx ?_;intro J b j U G;refine ρ ?_;refine ld (G.at (i:=1) rfl) ?_;refine ρ ?_;exact Jjr ⟨by rw [List.length_map],j⟩
theorem Jyh{w:World}{v:Value}{ar:Nat}{ls:List Row}(h:RelV w v ar ls): Ret Tryz.prog 145 [v] w λu w'=>u=.int .i64 (ar:Int)/\Ext w w':=by
 obtain ⟨O,rfl,ps,A,c,rfl,rfl,D,C,Z,o⟩:=h;refine Jjc Tryz.func145 Tryz.ntmps145 rfl (by kernel_rfl) rfl ?_;refine ρ ?_;refine bx ?_;intro J b j U G;refine ρ ?_;refine ld (G.at (i:=0) rfl) ?_;refine ρ ?_;exact Jjr ⟨rfl,j⟩
theorem Jcj{w:World}{v:Value}{ar:Nat}{ls:List Row}(h:RelV w v ar ls): Ret Tryz.prog 126 [v] w λu w'=>Ext w w'/\Xyn (λk=>k<w.heap.size) w' u ls:=by
 obtain ⟨rv,rfl,ps,A,c,rfl,rfl,af,ad,hR,a9⟩:=h;generalize hn:ps.length=n at *
 refine Jjc Tryz.func126 Tryz.ntmps126 rfl (by kernel_rfl) rfl ?_;refine ρ ?_;refine bx ?_;intro w0 b Z hb hB;refine ρ ?_;refine ld (hB.at (i:=1) rfl) ?_;refine ρ ?_;refine mkn ER n (by omega) (by unfold maxLen;omega) ?_;intro w1 O ac a4 hO;have a6:∀ k,(Value.slice O n n).ownBlock=some k->w0.heap.size<=k/\k<w1.heap.size:=by
  obtain ⟨_,_,e,_,hf⟩:=Jjd a4;exact hf
 have ae:Dat w1 w0.heap.size (.slice O n n) ([]++List.replicate n (.slice none 0 0,[])):=by
  refine ⟨?_,λp U=>?_⟩
  ·rw [List.nil_append,List.length_replicate,Pr.rep];have e:(madeCells (Value.slice none 0 0).cells (n*1)).toList=List.replicate n (.slice none 0 0):=by rw [Nat.mul_one];exact Jlk _ _
   rw [e]at a4;exact a4
  ·rw [List.nil_append]at U;rw [(List.mem_replicate.1 U).2];rfl
 obtain ⟨N,hN⟩:∃ N:Nat->Prop,N=λk=>k<w0.heap.size∨(Value.slice O n n).ownBlock=some k:=⟨_,rfl⟩;refine ρ ?_;refine Jqb (fun (k:Nat) (C:List Pr)=>[(1,.pointer (some ⟨b,0,none⟩)),(3,.slice O n n),(10,.int .i64 (n:Int)),(11,.int .i64 (k:Int))])
  (λk C w2=>k<=n/\C.length=k/\C.map (·.2)=(ps.take k).map (·.2)/\Ext w0 w2/\w1.heap.size<=w2.heap.size/\Dat w2 w0.heap.size (.slice O n n) (C++List.replicate (n-k) (.slice none 0 0,[]))/\(∀ p∈C,Off N w2 (λu=>RowV u p.1 p.2))) (λk _=>n-k) 0 [] sB
  ⟨Nat.zero_le _,rfl,rfl,ac,Nat.le_refl _,ae,λp U=>(by cases U)⟩ ?_
 rintro k C w2 ⟨hk,a3,a2,G,J,a8,aa⟩;have o:=Z.trans G;refine ρ ?_;refine ci (λh=>?_) (λh=>?_)
 ·have lk:k<n:=by have:=oT h;omega
  refine ρ ?_;refine ld ((hB.ext G).at (i:=1) rfl) ?_;refine ρ ?_;refine ix k (hR.ext o) lk ?_;refine ρ ?_;refine ld (Qyq (hR.ext o) hn lk) ?_;refine ρ ?_;refine cl (Jyn ((a9 _ (Jkn hn lk)).ext o) N (λj hj=>?_)) ?_
  ·subst hN;rcases hj with h'|h'
   ·exact nM h' G.size
   ·exact nM (a6 j h').2 J
  rintro v3 w3 ⟨a1,D⟩;have a7:=a8.ext D;have a5:(C++List.replicate (n-k) ((.slice none 0 0,[]):Pr)).length=n:=by simp;omega
  obtain ⟨s1,s2,s3⟩:=a7.store a5 lk (p:=(v3,(ps.getD k z0).2)) a1.v.one;refine ρ ?_;refine ix k (a7.rd a5) lk ?_;refine ρ ?_;refine sto (a7.cell a5 lk) s1 ?_ (hv:=a1.v.one);refine ρ ?_;have e:(C++List.replicate (n-k) ((.slice none 0 0,[]):Pr)).set k (v3,(ps.getD k z0).2)=(C++[(v3,(ps.getD k z0).2)])++List.replicate (n-(k+1)) (.slice none 0 0,[]):=by
   rw [show n-k=(n-(k+1))+1 by omega,List.replicate_succ,List.set_append_right _ _ (by omega),a3,Nat.sub_self,List.set_cons_zero,List.append_assoc];rfl
  rw [e]at s2;have ab:∀ j,(Value.slice O n n).ownBlock=some j->N j:=λj ej=>by rw [hN];exact .inr ej
  refine Jjm (k+1) (C++[(v3,(ps.getD k z0).2)]) sO ⟨by omega,by simp [a3],?_,Jjk (G.trans D) s3 (λj hj=>(a6 j hj).1),Nat.le_trans J (nL D.size s3.size),s2,λp U=>?_⟩ (by omega)
  ·rw [List.map_append,a2,Jjp z0 (by omega),List.map_append];rfl
  ·rcases List.mem_append.1 U with h'|h'
   ·exact ((aa p h').ext D).grown s3 ab
   ·rw [List.mem_singleton.1 h'];exact a1.off.grown s3 ab
 ·have e:k=n:=by have:=oF h;omega
  subst e;rw [Nat.sub_self,List.replicate_zero,List.append_nil]at a8;rw [List.take_of_length_le (by omega)]at a2;refine ρ ?_;refine Jjr ⟨o,?_⟩;rw [<-a2];refine rowsP a8 a3 ad (Nat.le_refl _) (λj ej hj=>?_) λp U=>(aa p U).mono λj _ hj=>by rw [hN];exact .inl (nM hj Z.size)
  have:=(a6 j ej).1;have:=Z.size;omega
open Go.RowKit Pl Go.Wk
theorem Jnd{w:World}{v vc:Value}{r:Row}{cs:List Nat}(h:RowV w v r)(hc:IntsV w vc (nz cs))(hlt:∀ c∈cs,c<r.length): Ret Tryz.prog 191 [v,vc] w λu w'=>Ext w w'/\∃ x,u=.tuple #[x,.int .i64 0]/\Off (λk=>k<w.heap.size) w' (λy=>RowV y x (pmR cs r)):=by
 obtain ⟨A,ac,rfl,ag,af,a9⟩:=h;obtain ⟨C,cc,rfl,ab,aa,G⟩:=hc;rw [Jqp]at *;refine Jjc Tryz.func191 Tryz.ntmps191 rfl (by kernel_rfl) rfl ?_;refine ρ ?_;refine Jqw (fun (k:Nat)=>[(0,.slice A r.length ac),(1,.slice C cs.length cc),(10,.int .i64 (cs.length:Int)),(11,.int .i64 (k:Int))]) (λk w'=>w'=w/\k<=cs.length) (λk=>cs.length-k) 0 sB ⟨rfl,Nat.zero_le _⟩ ?_;rintro k w' ⟨rfl,hk⟩;refine ρ ?_;refine ci (λh=>?_) (λh=>?_)
 ·have lk:k<cs.length:=by have:=oT h;omega
  have ae:=hlt _ (getD_mem' 0 cs lk);refine ρ ?_;refine ix k G lk ?_;refine ρ ?_;refine ld (G.cell (Jzc lk)) ?_;refine ρ ?_;refine kf 19 ?_ ?_
  ·exact dF (by omega)
  refine ρ ?_;refine ix k G lk ?_;refine ρ ?_;refine ld (G.cell (Jzc lk)) ?_;refine ρ ?_;refine cf ?_ ?_
  ·exact dF (by omega)
  refine ρ ?_;exact Jjx (k+1) sO ⟨rfl,by omega⟩ (by omega)
 refine ρ ?_;refine mkn EV cs.length (by omega) (by unfold maxLen;omega) ?_;intro w4 O a5 a3 hO;rw [Jht]at a3;have a2:Qzv w4 w'.heap.size (.slice O cs.length cs.length) ([]++List.replicate cs.length V0):=by
  rw [Qzv,List.nil_append,List.length_replicate];exact a3
 refine ρ ?_;refine Jqw (fun (i:Nat)=>[(0,.slice A r.length ac),(1,.slice C cs.length cc),(7,.slice O cs.length cs.length),(33,.int .i64 (cs.length:Int)),(34,.int .i64 (i:Int))])
  (λi w5=>i<=cs.length/\Ext w' w5/\Qzv w5 w'.heap.size (.slice O cs.length cs.length) ((pmR cs r).take i++List.replicate (cs.length-i) V0)) (λi=>cs.length-i) 0 sB
  ⟨Nat.zero_le _,a5,a2⟩ ?_
 rintro i w5 ⟨hi,J,o⟩;have D:((pmR cs r).take i++List.replicate (cs.length-i) V0).length=cs.length:=by simp [Jxb];omega
 rw [Qzv,D]at o;refine ρ ?_;refine ci (λh0=>?_) (λh0=>?_)
 ·have li:i<cs.length:=by have:=oT h0;omega
  have U:=G.ext J;have Z:RdR w5 A r:=Rd.ext a9 J;have lc:=hlt _ (getD_mem' 0 cs li);refine ρ ?_;refine ix i U li ?_;refine ρ ?_;refine ld (U.cell (Jzc li)) ?_;refine ρ ?_;refine ixq 3 (cs.getD i 0) Z lc ?_;refine ρ ?_;refine lds (λj u hu=>RdR.cell Z lc hu) ?_;refine ρ ?_;refine ixq 3 i (Rd.own o) li ?_;refine ρ ?_;refine stoE (cs:=(r.getD (cs.getD i 0) V0).cells) o li ?_ (V.one _);intro w6 a6 a8;have a4:Ext w' w6:=Jjk J a8 (λk hk=>by
   obtain ⟨_,_,e,_,hf⟩:=Jjd o;exact (hf k hk).1)
  refine ρ ?_;refine Jjx (i+1) sO ⟨by omega,a4,?_⟩ (by omega);have e:((pmR cs r).take i++List.replicate (cs.length-i) V0).set i (r.getD (cs.getD i 0) V0)=(pmR cs r).take (i+1)++List.replicate (cs.length-(i+1)) V0:=by
   have hl:((pmR cs r).take i).length=i:=by simp [Jxb];omega
   rw [List.set_append_right _ _ (by omega),hl,Nat.sub_self,show cs.length-i=(cs.length-(i+1))+1 by omega,List.replicate_succ,List.set_cons_zero,List.take_succ_eq_append_getElem (by rw [Jxb];omega),List.append_assoc];rw [<-Jrd li,Jjh V0 _ (by rw [Jxb];omega)];rfl
  have a1:((pmR cs r).take (i+1)++List.replicate (cs.length-(i+1)) V0).length=cs.length:=by rw [<-e];simp [Jxb];omega
  rw [Qzv,a1,<-e,Jpz _ _ _ (by rw [D];omega)];exact a6
 ·have a7:i=cs.length:=by have:=oF h0;omega
  subst a7;rw [Nat.sub_self,List.replicate_zero,List.append_nil,List.take_of_length_le (by rw [Jxb];omega)]at o;refine ρ ?_;refine Qwv ⟨J,_,rfl,?_⟩;obtain ⟨_,_,_,_,hf⟩:=Jjd o;intro y hg;refine ⟨O,cs.length,by rw [Jxb],by rw [Jxb];omega,by rw [Jxb];omega,?_⟩;rw [RdR,Jxb];refine Qqk (Rd.own o) hg λ_ ad e=>?_;subst e;have:=(hf ad.block rfl).1;omega
theorem Jbs{w:World}{v vc:Value}{ar:Nat}{ls:List Row}{cs:List Nat}(h:RelV w v ar ls)(hc:IntsV w vc (nz cs))(hlen:∀ r∈ls,r.length=ar)(hlt:∀ c∈cs,c<ar)(h32:cs.length<=32)(hbig:ls.length<=65536):
  Ret Tryz.prog 177 [v,vc] w λu w'=>Ext w w'/\∃ rv,u=.tuple #[rv,.int .i64 0]/\(∃ z B m d,rv=.agg #[.int .i64 z,.slice B m d])/\∃ m,Off (λk=>k<w.heap.size) w' (λx=>RelV x rv cs.length m)/\m.length<=65536/\(∀ x∈m,x∈ls.map (pmR cs))/\((ls.length<=12∨Srt [] (ls.map (pmR cs)))->Jvg [] (ls.map (pmR cs)) m):=by
 obtain ⟨rv,rfl,ps,A,c,rfl,rfl,bd,az,hR,aj⟩:=h;obtain ⟨C,cc,rfl,bf,be,b5⟩:=id hc;generalize hn:ps.length=n at *
 rw [List.length_map,hn]at hbig;have ae:∀ p∈ps,p.2.length=ar:=λp hp=>hlen _ (List.mem_map.2 ⟨p,hp,rfl⟩);rw [Jqp]at *;refine Jjc Tryz.func177 Tryz.ntmps177 rfl (by kernel_rfl) rfl ?_;refine ρ ?_;refine bx ?_;intro w1 b1 Z bg bc;refine ρ ?_;refine alc Qmh ?_;intro w2 b2 ai b7 bb;have a6:=Z.trans ai;have a9:=bc.ext ai;refine ρ ?_;refine cf ?_ ?_
 ·exact dF (by omega)
 refine ρ ?_;refine Jqw (fun (k:Nat)=>[(1,.slice C cs.length cc),(2,.pointer (some ⟨b1,0,none⟩)),(4,.pointer (some ⟨b2,0,none⟩)),(14,.int .i64 (cs.length:Int)),(15,.int .i64 (k:Int))]) (λk w'=>Ext w2 w'/\k<=cs.length) (λk=>cs.length-k) 0 sB ⟨Ext.refl _,Nat.zero_le _⟩ ?_;rintro k w3 ⟨a3,hk⟩;refine ρ ?_;refine ci (λh=>?_) (λh=>?_)
 ·have lk:k<cs.length:=by have:=oT h;omega
  have ao:=hlt _ (getD_mem' 0 cs lk);clear h;refine ρ ?_;refine dr [(0,0),(0,1),(0,2),(0,3),(0,4),(0,5),(0,6),(0,7),(0,8),(0,9),(0,10),(0,11),(0,12),(0,13)] (by kernel_rfl) ?_;have aa:=a3.drew;have D:=b5.ext (a6.trans aa);refine ρd ?_;refine dix k D lk ?_;refine ρd ?_;refine dld (D.cell (Jzc lk)) ?_;refine ρd ?_;refine dkf 23 ?_ ?_
  ·exact dF (by omega)
  refine ρd ?_;refine dix k D lk ?_;refine ρd ?_;refine dld (D.cell (Jzc lk)) ?_;refine ρd ?_;refine dld ((a9.ext aa).at (i:=0) rfl) ?_;refine ρd ?_;refine ρ ?_;refine cf ?_ ?_
  ·exact dF (by omega)
  refine ρ ?_;exact Jjx (k+1) sO ⟨aa,by omega⟩ (by omega)
 clear h hk;have J:=a6.trans a3;have a8:=a9.ext a3;refine ρ ?_;refine ld (a8.at (i:=1) rfl) ?_;refine ρ ?_;refine mkn ER n (by omega) (by unfold maxLen;omega) ?_;intro w4 O av ad hO;have a4:∀ k,(Value.slice O n n).ownBlock=some k->w3.heap.size<=k/\k<w4.heap.size:=by
  obtain ⟨_,_,e,_,hf⟩:=Jjd ad;exact hf
 have b8:Dat w4 w3.heap.size (.slice O n n) ([]++List.replicate n (.slice none 0 0,[])):=by
  refine ⟨?_,λp hp=>?_⟩
  ·rw [List.nil_append,List.length_replicate,Pr.rep];have e:(madeCells (Value.slice none 0 0).cells (n*1)).toList=List.replicate n (.slice none 0 0):=by rw [Nat.mul_one];exact Jlk _ _
   rw [e]at ad;exact ad
  ·rw [List.nil_append]at hp;rw [(List.mem_replicate.1 hp).2];rfl
 obtain ⟨N,hN⟩:∃ N:Nat->Prop,N=λk=>k<w3.heap.size∨(Value.slice O n n).ownBlock=some k:=⟨_,rfl⟩;refine ρ ?_;refine Jqb (fun (k:Nat) (G:List Pr)=>[(1,.slice C cs.length cc),(2,.pointer (some ⟨b1,0,none⟩)),(4,.pointer (some ⟨b2,0,none⟩)),(7,.slice O n n),(39,.int .i64 (n:Int)),(40,.int .i64 (k:Int))])
  (λk G w5=>k<=n/\G.length=k/\G.map (·.2)=(ps.take k).map (λp=>pmR cs p.2)/\Ext w3 w5/\w4.heap.size<=w5.heap.size/\Dat w5 w3.heap.size (.slice O n n) (G++List.replicate (n-k) (.slice none 0 0,[]))/\(∀ p∈G,Off N w5 (λu=>RowV u p.1 p.2))) (λk _=>n-k) 0 [] sB
  ⟨Nat.zero_le _,rfl,rfl,av,Nat.le_refl _,b8,λp hp=>(by cases hp)⟩ ?_
 rintro k G w5 ⟨hk,ac,ab,U,a7,a1,ap⟩;have o:=J.trans U;refine ρ ?_;refine ci (λh=>?_) (λh=>?_)
 ·have lk:k<n:=by have:=oT h;omega
  have ax:(ps.getD k z0).2.length=ar:=ae _ (Jkn hn lk);refine ρ ?_;refine ld ((a8.ext U).at (i:=1) rfl) ?_;refine ρ ?_;refine ix k (hR.ext o) lk ?_;refine ρ ?_;refine ld (Qyq (hR.ext o) hn lk) ?_;refine ρ ?_;refine cl (Jnd ((aj _ (Jkn hn lk)).ext o) (hc.ext o) (λc ao=>by rw [ax];exact hlt c ao)) ?_;rintro u w6 ⟨a2,x,rfl,ak⟩;have ag:=a1.ext a2;have af:(G++List.replicate (n-k) ((.slice none 0 0,[]):Pr)).length=n:=by simp;omega
  have Z:x.oneCell'=true:=ak.here.one;obtain ⟨s1,s2,s3⟩:=ag.store af lk (p:=(x,pmR cs (ps.getD k z0).2)) Z;refine ρ ?_;refine ix k (ag.rd af) lk ?_;refine ρ ?_;refine sto (ag.cell af lk) s1 ?_ (hv:=Z);refine ρ ?_;have e:(G++List.replicate (n-k) ((.slice none 0 0,[]):Pr)).set k (x,pmR cs (ps.getD k z0).2)=(G++[(x,pmR cs (ps.getD k z0).2)])++List.replicate (n-(k+1)) (.slice none 0 0,[]):=by
   rw [show n-k=(n-(k+1))+1 by omega,List.replicate_succ,List.set_append_right _ _ (by omega),ac,Nat.sub_self,List.set_cons_zero,List.append_assoc];rfl
  rw [e]at s2;have aq:∀ j,(Value.slice O n n).ownBlock=some j->N j:=λj ej=>by rw [hN];exact .inr ej
  refine Jjm (k+1) (G++[(x,pmR cs (ps.getD k z0).2)]) sO ⟨by omega,by simp [ac],?_,Jjk (U.trans a2) s3 (λj hj=>(a4 j hj).1),Nat.le_trans a7 (nL a2.size s3.size),s2,λp hp=>?_⟩ (by omega)
  ·rw [List.map_append,ab,Jjp z0 (by omega),List.map_append];rfl
  ·rcases List.mem_append.1 hp with h'|h'
   ·exact ((ap p h').ext a2).grown s3 aq
   ·rw [List.mem_singleton.1 h'];refine (ak.mono λj _ hj=>?_).grown s3 aq;rw [hN]at hj;rcases hj with h'|h'
    ·exact nM h' U.size
    ·exact nM (a4 j h').2 a7
 ·have e:k=n:=by have:=oF h;omega
  subst e;rw [Nat.sub_self,List.replicate_zero,List.append_nil]at a1;rw [List.take_of_length_le (by omega)]at ab;have b3:G.map (·.2)=(ps.map (·.2)).map (pmR cs):=by rw [ab,List.map_map];rfl
  refine ρ ?_;refine cl (Qjz (ar:=cs.length) a1 ac az (Nat.le_refl _) (λp hp=>(ap p hp).mono λj _ hj=>by rw [hN];exact .inr hj)) ?_;rintro u w7 ⟨am,rv,e,rfl,⟨z,B,m,d',aw⟩,an,ay⟩;have he:=an hbig;subst he;have ah:Ext w w7:=Jjk o am (λj ej=>nL J.size (a4 j ej).1);have a5:=(bb.ext a3).ext U;have ba:=a5.grown am (a5.ne_own a1.1 rfl);subst aw;refine ρ ?_;refine stb ba ?_ (Qwd (z:=z) (A:=B) (n:=m) (c:=d'));intro w8 b9 b4 au;refine ρ ?_;obtain ⟨ms,m1,m2,m3,m4⟩:=ay rfl;rw [b3]at m3 m4;refine Jvr b9 ⟨au w ah (nL Z.size b7),_,rfl,⟨z,B,m,d',rfl⟩,ms,?_,m2,m3,λhc=>m4 (by rw [List.length_map,hn]at hc;exact hc)⟩;have b6:b2<w5.heap.size/\(Value.slice O k k).ownBlock≠some b2:=⟨a5.lt,λe=>a5.ne_own a1.1 rfl e.symm⟩;refine (m1.grown b4 (λj ej=>by injection ej with ej;rw [<-ej];exact b6)).mono λj _ hj=>⟨nM hj o.size,λe=>?_⟩;have:=(a4 j e).1;have:=J.size;omega
end Go.Proofs.YtefpailelagbkaaGreatDoor
