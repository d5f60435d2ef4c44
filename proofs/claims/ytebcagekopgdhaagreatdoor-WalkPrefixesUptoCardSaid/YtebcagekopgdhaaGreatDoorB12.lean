/- Part 12. -/
import Derived.Test.YtebcagekopgdhaaGreatDoorB11
set_option linter.unusedVariables false
set_option maxRecDepth 100000
set_option maxHeartbeats 40000000
namespace Go.Proofs.YtebcagekopgdhaaGreatDoor
open Go.RowKit Pl Go.Wk
attribute [local irreducible] WC WL QX WD WDB WP
theorem RowX.off{w:World}{N:Nat->Prop}{v:Value}{r:Row}(h:RowX w N v r): Off N w (λu=>RowV u v r):=by
 obtain ⟨A,c,U,O,J,G,C⟩:=h;intro w' o;refine ⟨A,c,U,O,J,Zo G o λh0 ad e=>C (λZ=>?_) ad e⟩;subst Z;simp [Jl]at h0
theorem Qjr{w:World}{row:Option Nat}{ps:List Pr}(h:∀ p∈ps,Off (one row) w (λu=>RowV u p.1 p.2)): CF w row 121 #[] #[] ps []:=λw' o p q G C=>
 Jnb (h p G w' (GrN.by o λk e=>e)) (h q C w' (GrN.by o λk e=>e))
theorem eqRow{w:World}{row:Option Nat}{ps:List Pr}(h:∀ p∈ps,Off (one row) w (λu=>RowV u p.1 p.2)): EqF w row 124 #[] #[] ps:=λw' o p q G C=>
 Jmz (h p G w' (GrN.by o λk e=>e)) (h q C w' (GrN.by o λk e=>e))
theorem ownB(A:Option Addr)(n c m d:Nat): (Value.slice A n c).ownBlock=(Value.slice A m d).ownBlock:=by cases A<;>rfl
theorem Qyc{w:World}{N:Nat->Prop}{base:Nat}{A:Option Addr}{n c:Nat}{ps:List Pr}(hD:Dat w base (.slice A n c) ps)(hn:ps.length=n)(hmx:n<=1100000)(hnc:n<=c)(hN:∀ k,(Value.slice A n c).ownBlock=some k->¬ N k)(hr:∀ p∈ps,Off N w (λu=>RowV u p.1 p.2)): Off N w (λu=>RowsV u (.slice A n c) (ps.map (·.2))):=by
 intro w' o;refine ⟨ps,A,c,rfl,by rw [hn],om,om,?_,λp C=>hr p C w' o⟩;rw [hn];refine Zo (hD.rd hn) o λ_ G e=>?_;subst e;exact hN _ rfl
def RowsP(N:Nat->Prop)(w:World)(v:Value)(ls:List Row): Prop:=∃ (ps:List Pr) (A:Option Addr) (c:Nat),ls=ps.map (·.2)/\v=.slice A ps.length c/\ps.length<=c/\ps.length<=1100000/\Off N w (λu=>Rd u 1 A ps.length (ps.map (·.1)))/\∀ p∈ps,Off N w (λu=>RowV u p.1 p.2)
theorem rowsP{w:World}{N:Nat->Prop}{base:Nat}{A:Option Addr}{n c:Nat}{ps:List Pr}(hD:Dat w base (.slice A n c) ps)(hn:ps.length=n)(hmx:n<=1100000)(hnc:n<=c)(hN:∀ k,(Value.slice A n c).ownBlock=some k->¬ N k)(hr:∀ p∈ps,Off N w (λu=>RowV u p.1 p.2)): RowsP N w (.slice A n c) (ps.map (·.2)):=by
 refine ⟨ps,A,c,rfl,by rw [hn],om,om,λw' o=>?_,hr⟩;rw [hn];refine Zo (hD.rd hn) o λ_ C e=>?_;subst e;exact hN _ rfl
theorem Qjx{w:World}{base:Nat}{A:Option Addr}{n c ar:Nat}{ps:List Pr}(hD:Dat w base (.slice A n c) ps)(hn:ps.length=n)(hmx:n<=1100000)(hnc:n<=c)(hr:∀ p∈ps,Off (one (Value.slice A n c).ownBlock) w (λu=>RowV u p.1 p.2)):
  Ret Tryz.prog 77 [.int .i64 (ar:Int),.slice A n c] w λv w'=>w.grownBy w' (Value.slice A n c).ownBlock/\∃ rv e,v=.tuple #[rv,.int .i64 e]/\(∃ z B m d,rv=.agg #[.int .i64 z,.slice B m d])/\(n<=65536->e=0) /\
   (e=0->∃ m,Off (λk=>k<w.heap.size/\(Value.slice A n c).ownBlock≠some k) w' (λu=>RelV u rv ar m)/\m.length<=65536/\(∀ x∈m,x∈ps.map (·.2))/\((n<=1000∨Srt [] (ps.map (·.2)))->IsSet [] (ps.map (·.2)) m)):=by
 refine Jz Tryz.func77 Tryz.ntmps77 rfl kr rfl ?_;refine ρ ?_;refine alc Ug ?_;intro w1 b a1 hb hB;have av:=hD.ext a1;have ae:∀ p∈ps,Off (one (Value.slice A n c).ownBlock) w1 (λu=>RowV u p.1 p.2):=λp J=>(hr p J).ext a1;obtain ⟨own,C⟩:∃ own,own=(Value.slice A n c).ownBlock:=⟨_,rfl⟩;have a8:∀ k,own=some k->k<w.heap.size:=λk e=>by
  obtain ⟨_,_,_,_,hf⟩:=Jv hD.1;exact (hf k (by rw [<-e,C])).2
 refine ρ ?_;refine cl (Qgj (av.rd hn) hn hmx (Qjr ae)) ?_;rintro v w2 ⟨a6,t,rfl,ht⟩;refine ρ ?_;refine Xa (fun (q:List Pr)=>[(0,.int .i64 (ar:Int)),(1,.slice A n c),(4,.pointer (some ⟨b,0,none⟩))]) (λq w'=>DP w1 w' base A n c ps q/\Blk w' b 95 [.int .i64 0,.slice none 0 0]/\((n<=1000∨Srt [] (ps.map (·.2)))->Srt [] (q.map (·.2)))) ?_ ?_
 .have H2:=(DP.start av hn).ext a6;refine ci (λh=>?_) (λh=>?_)
  .have ax:¬ SOn z0 (fP []) ps 0 n:=λe=>by have:=ht.2 e;rw [this]at h;cases h
   refine ρ ?_;refine cl (Qvk H2.d H2.l hmx ((Qjr ae).step H2)) ?_;rintro v w3 ⟨q,H3,hs⟩;refine ρ ?_;refine Jb q sB ⟨H2.after H3,(hB.ext a6).grown H3.g ((hB.ext a6).ne_own H2.d.1 rfl),λe=>?_⟩;rcases e with e|e
   .exact Jlv (by rw [H3.l];exact hs e)
   .exfalso
    apply ax
    intro i j _ b2 hj;have e':=(List.pairwise_map.1 e);rw [List.pairwise_iff_getElem]at e';have:=e' i j om om b2;unfold fP;rw [Jp z0 ps om,Jp z0 ps om];exact this
  .have ay:t=true:=by simpa using h
   refine ρ ?_;exact Jb ps sB ⟨H2,hB.ext a6,λ_=>Jlv (by rw [hn];exact ht.1 ay)⟩
 rintro q w3 ⟨H3,aw,b1⟩;have an:∀ p∈q,Off (one (Value.slice A n c).ownBlock) w3 (λu=>RowV u p.1 p.2):=λp J=>(ae p (H3.p.mem_iff.1 J)).grown H3.g λk e=>e;refine ρ ?_;refine cl (Qlt H3.d H3.l hmx hnc (eqRow an)) ?_;rintro v w4 ⟨o,rfl,au,a9,ab,ah⟩;have ba:o.length<=n:=by
  have:=Jzx (q.map (·.2))
  rw [<-a9,List.length_map,List.length_map,H3.l]at this;exact this
 have ai:=aw.grown ah (aw.ne_own H3.d.1 rfl);have am:∀ p∈o,Off (one own) w4 (λu=>RowV u p.1 p.2):=λp J=>by rw [C];exact (an p (ab p J)).grown ah λk e=>e
 have a3:w1.grownBy w4 own:=by rw [C];exact Zx H3.g ah
 have aj:((n<=1000∨Srt [] (ps.map (·.2)))->IsSet [] (ps.map (·.2)) (o.map (·.2))):=λe=>by
  have h1:=Jtr (b1 e);rw [<-a9]at h1;exact ⟨h1.1,λx=>(h1.2 x).trans ((H3.p.map (·.2)).mem_iff)⟩
 generalize hm:o.length=m at *
 refine ρ ?_;refine ci (λh=>?_) (λh=>?_)
 .have b6:65536<m:=by have:=oT h;omega
  refine ρ ?_;refine bld (Jvz _) ?_;refine ρ ?_;refine stb ai ?_ Vs;intro w5 a5 G b8;refine ρ ?_;refine Zh a5 ⟨?_,_,11,rfl,⟨0,none,0,0,rfl⟩,λe=>(by omega),λe=>(by cases e)⟩;have g1:=Zx (Zk a1 own) a3;rw [<-C];exact ⟨G.os.trans g1.os,G.tape.trans g1.tape,G.output.trans g1.output,Nat.le_trans g1.size G.size,λk hk hn=>(G.block k (nM hk g1.size) (λe=>by injection e with e;omega)).trans (g1.block k hk hn)⟩
 have b9:m<=65536:=by have:=oF h;omega
 clear h;obtain ⟨N',a4⟩:∃ N':Nat->Prop,N'=λk=>k<w1.heap.size∨own=some k:=⟨_,rfl⟩;have ag:(Value.slice A m c).ownBlock=own:=by rw [C];exact ownB _ _ _ _ _
 refine ρ ?_;refine Jt (fun (k:Nat) (qs:List Pr)=>[(0,.int .i64 (ar:Int)),(1,.slice A m c),(4,.pointer (some ⟨b,0,none⟩)),(19,.int .i64 (m:Int)),(20,.int .i64 (k:Int))])
  (λk qs w'=>k<=m/\qs.length=k/\qs.map (·.2)=(o.take k).map (·.2)/\Dat w' base (.slice A m c) (qs++o.drop k)/\(∀ p∈qs,Off N' w' (λu=>RowV u p.1 p.2))/\(∀ p∈o,Off (one own) w' (λu=>RowV u p.1 p.2))/\Blk w' b 95 [.int .i64 0,.slice none 0 0]/\w1.grownBy w' own) (λk _=>m-k) 0 [] sB
  ⟨Nat.zero_le _,rfl,rfl,by simpa using au,λp J=>(by cases J),am,ai,a3⟩ ?_
 clear au am ai a3;rintro k qs w5 ⟨hk,af,a7,Z,ac,ak,a5,G⟩;refine ρ ?_;have O:(qs++o.drop k).length=m:=by simp;omega
 refine ci (λh=>?_) (λh=>?_)
 .have lk:k<m:=by have:=oT h;omega
  have aq:(qs++o.drop k).getD k z0=o.getD k z0:=by
   simp only [List.getD];rw [List.getElem?_append_right om,af,Nat.sub_self,List.getElem?_drop,Nat.add_zero]
  have ap:o.getD k z0∈o:=Vz hm lk;refine ρ ?_;refine ix k (Z.rd O) lk ?_;refine ρ ?_;refine ld (Z.cell O lk) ?_;rw [aq];refine ρ ?_;refine cl (Jxd (ak _ ap).here N' (λj hj=>?_)) ?_
  .subst a4;rcases hj with h'|h'
   .exact nM h' G.size
   .exact nM (a8 j h') (nL a1.size G.size)
  rintro v6 w6 ⟨ad,a2⟩;have aa:=Z.ext a2;obtain ⟨s1,s2,s3⟩:=aa.store O lk (p:=(v6,(o.getD k z0).2)) ad.v.one;refine ρ ?_;refine ix k (aa.rd O) lk ?_;refine ρ ?_;refine sto (aa.cell O lk) s1 ?_ (hv:=ad.v.one);refine ρ ?_;have e:(qs++o.drop k).set k (v6,(o.getD k z0).2)=(qs++[(v6,(o.getD k z0).2)])++o.drop (k+1):=by
   rw [List.set_append_right _ _ om,af,Nat.sub_self,List.drop_eq_getElem_cons om,List.set_cons_zero,List.append_assoc];rfl
  rw [e]at s2;rw [ag]at s3;refine Jg (k+1) (qs++[(v6,(o.getD k z0).2)]) sO ⟨om,by simp [af],?_,s2,λp J=>?_,λp J=>?_,?_,?_⟩ om
  .rw [List.map_append,a7,Qy z0 om,List.map_append];rfl
  .rcases List.mem_append.1 J with h'|h'
   .exact ((ac p h').ext a2).grown s3 (λk e=>by rw [a4];exact .inr e)
   .rw [List.mem_singleton.1 h'];exact ad.off.grown s3 (λk e=>by rw [a4];exact .inr e)
  .exact ((ak p J).ext a2).grown s3 (λk e=>e)
  .have h7:=a5.ext a2;refine h7.grown s3 ?_;have:=h7.ne_own aa.1 rfl;rwa [ag]at this
  .exact Zx G (Zx (Zk a2 _) s3)
 .have e:k=m:=by have:=oF h;omega
  subst e;rw [List.drop_of_length_le om,List.append_nil]at Z O;rw [List.take_of_length_le om]at a7;refine ρ ?_;refine bld (Qnw (ar:Int) A k c _) ?_;refine ρ ?_;refine stb a5 ?_ (Vs (z:=(ar:Int)) (A:=A) (n:=k) (c:=c));intro w7 b5 U b7;refine ρ ?_;have b3:N' b:=by rw [a4];exact .inl hB.lt
  have b4:Dat w7 base (.slice A k c) qs:=⟨Z.1.kept U (.inr (λe=>a5.ne_own Z.1 rfl e.symm)),Z.2⟩;have ao:=Qyc (N:=λj=>j<w.heap.size/\own≠some j) b4 O om om (λj ej hj=>hj.2 (by rw [<-ej,ag])) (λp J=>((ac p J).grown U (λj ej=>by injection ej with ej;rw [<-ej];exact b3)).mono λj _ hj=>by rw [a4];exact .inl (nM hj.1 a1.size));refine Zh b5 ⟨?_,_,0,rfl,⟨_,_,_,_,rfl⟩,λ_=>rfl,λ_=>⟨qs.map (·.2),?_,by rw [List.length_map];omega,?_,?_⟩⟩
  .have g1:=Zx (Zk a1 own) G;rw [<-C];exact ⟨U.os.trans g1.os,U.tape.trans g1.tape,U.output.trans g1.output,Nat.le_trans g1.size U.size,λj hj hn=>(U.block j (nM hj g1.size) (λe=>by injection e with e;omega)).trans (g1.block j hj hn)⟩
  .rw [<-C];exact ao.imp λu hu=>⟨_,rfl,hu⟩
  .intro x hx;rw [a7,a9]at hx;have:x∈q.map (·.2):=by
    obtain ⟨p,J,rfl⟩:=List.mem_map.1 (a9 ▸ hx);exact List.mem_map.2 ⟨p,ab p J,rfl⟩
   exact (H3.p.map (·.2)).mem_iff.1 this
  .intro e;rw [a7];exact aj e
open Go.RowKit Pl Go.Wk
theorem Qqc(w:World): (Instr.buildSlice 54 0 #[]).run Tryz.prog w=.ok (.slice (some ⟨w.heap.size,0,none⟩) 0 0) (w.alloc (.cells [].toArray 37)):=kr
theorem Qml{A:Option Addr}{n c:Nat}{ps:List Pr}{w:World}(hR:Rd w 1 A n (ps.map (·.1)))(hn:ps.length=n)(hmx:n<=1100000)(h1:∀ p∈ps,p.1.oneCell'=true):
  Ret Tryz.prog 78 [.slice A n c] w λv' w'=>Ext w w'/\∃ B d,v'=.slice B n d/\n<=d/\Dat w' w.heap.size (.slice B n d) ps:=by
 refine Jz Tryz.func78 Tryz.ntmps78 rfl kr rfl ?_;refine ρ ?_;refine Iq ?_;refine ρ ?_;refine ci (λh=>?_) (λh=>?_)
 .have hA:A=none:=by simpa using h
  subst hA;have U:n=0:=by
   rcases Nat.eq_zero_or_pos n with h0|h0
   .exact h0
   .obtain ⟨ad,h2,_⟩:=hR.isome h0 om;cases h2
  subst U;obtain rfl:=List.eq_nil_of_length_eq_zero hn;refine ρ ?_;exact Jj ⟨Ext.refl w,none,0,rfl,Nat.le_refl _,⟨Xs _ _ _ _,λp O=>by cases O⟩⟩
 .refine ρ ?_;refine bsl Qqc ?_;intro w1 b C a1 Z;refine ρ ?_;refine apo C ER (Z.own (n:=0) a1 rfl (Nat.zero_le _)) (hR.ext C) (λu hu=>by obtain ⟨p,O,rfl⟩:=List.mem_map.1 hu;exact h1 p O) (by unfold maxLen;omega) om ?_;intro v2 w2 o J _ _;obtain ⟨A2,c2,rfl,G,hf⟩:=Jv o;refine ρ ?_;rw [Nat.zero_add]at o G ⊢;refine Jj ⟨J,A2,c2,rfl,G,⟨?_,h1⟩⟩;rw [hn];exact o
theorem Jvj{a w w':World}{b:Nat}(hx:Ext a w)(hg:w.grownBy w' (some b))(hb:a.heap.size<=b): Ext a w':=Qv hx hg λk e=>by injection e with e;omega
theorem Jcc{w:World}{v:Value}{ls:List Row}{ar:Nat}(h:RowsV w v ls):
  Ret Tryz.prog 46 [.int .i64 (ar:Int),v] w λu w'=>Ext w w'/\∃ rv e,u=.tuple #[rv,.int .i64 e]/\(∃ z B m d,rv=.agg #[.int .i64 z,.slice B m d])/\(ar<=32->(∀ r∈ls,r.length=ar/\r.all Qr=true)->ls.length<=65536->e=0) /\
   (e=0->ar<=32/\(∀ r∈ls,r.length=ar/\r.all Qr=true)/\∃ m,Off (λk=>k<w.heap.size) w' (λu=>RelV u rv ar m)/\m.length<=65536/\(∀ x∈m,x∈ls)/\((ls.length<=1000∨Srt [] ls)->IsSet [] ls m)):=by
 obtain ⟨ps,A,c,rfl,rfl,b8,ag,hR,a1⟩:=h;generalize hn:ps.length=n at *
 have b7:∀ i,(ps.map (·.2)).getD i []=(ps.getD i z0).2:=λi=>Jqn
 have ae:∀ p∈ps,p.1.oneCell'=true:=λp hp=>(a1 p hp).one;refine Jz Tryz.func46 Tryz.ntmps46 rfl kr rfl ?_;refine ρ ?_;refine alc Ug ?_;intro w1 b au hb hB;refine ρ ?_;refine cl (Qym (ar:Int) w1) ?_;rintro v2 w2 ⟨ad,z',e2,rfl,ai,C⟩;refine ρ ?_;refine alc Ug ?_;intro w3 b3 aq b1 b6;refine ρ ?_;refine stb b6 ?_ (Vs (z:=z') (A:=none) (n:=0) (c:=0));intro w4 b5 ba ap;have a6:Ext w1 w4:=ap w1 (ad.trans aq) (nL ad.size b1);have J:=au.trans a6;have ab:=hB.ext a6;refine ρ ?_;refine ci (λh=>?_) (λh=>?_)
 .have a7:=Gf h;refine ρ ?_;refine bld (Jvz _) ?_;refine ρ ?_;refine stb ab ?_ Vs;intro w5 aa b9 U;refine ρ ?_;refine Zh aa ⟨U w J hb,_,e2,rfl,⟨0,none,0,0,rfl⟩,λh1 _ _=>C.2 om,λe=>absurd e a7⟩
 have hz:=Gg h;subst hz;have b2:ar<=32:=by have:=C.1 rfl;omega
 have ak:=ai rfl;subst ak;clear h ai C;refine ρ ?_;refine Qd (fun (k:Nat)=>[(0,.int .i64 (ar:Int)),(1,.slice A n c),(4,.pointer (some ⟨b,0,none⟩)),(6,.pointer (some ⟨b3,0,none⟩)),(20,.int .i64 (n:Int)),(21,.int .i64 (k:Int))])
  (λk w'=>Ext w4 w'/\k<=n/\∀ i,i<k->(ps.getD i z0).2.length=ar/\(ps.getD i z0).2.all Qr=true) (λk=>n-k) 0 sB ⟨Ext.refl _,Nat.zero_le _,λi hi=>om⟩ ?_
 rintro k w5 ⟨U,hk,hI⟩;have o:=J.trans U;refine ρ ?_;refine ci (λh=>?_) (λh=>?_)
 .have lk:k<n:=by have:=oT h;omega
  clear h;refine ρ ?_;refine dr [(0,0),(0,1),(0,2),(0,3),(0,4),(1,5),(0,6)] kr ?_;have a5:=U.drew;have aa:=b5.ext a5;have aj:=hR.ext o.drew;refine ρd ?_;refine Qk (cs:=[.int .i64 (ar:Int),.slice none 0 0]) (λj u hu=>aa.at hu) ?_;refine ρd ?_;refine dix k aj lk ?_;refine ρd ?_;refine dld (Jjr aj hn lk) ?_;refine ρd ?_;refine dcl (Qrc (A:=none) (n:=0) (c:=0) rfl ((a1 _ (Vz hn lk)).ext o.drew)) ?_;rintro u w6 ⟨O,e,rfl,C⟩;refine ⟨O,?_⟩;refine ρd ?_;refine ρ ?_;have Z:=a5.trans O;refine ci (λh=>?_) (λh=>?_)
  .have a7:=Gf h;refine ρ ?_;refine bld (Jvz _) ?_;refine ρ ?_;refine stb (ab.ext Z) ?_ Vs;intro w7 a9 a8 ao;refine ρ ?_;refine Zh a9 ⟨ao w (J.trans Z) hb,_,e,rfl,⟨0,none,0,0,rfl⟩,λ_ h2 _=>?_,λe=>absurd e a7⟩;obtain ⟨k1,k2⟩:=h2 (ps.getD k z0).2 (List.mem_map.2 ⟨_,Vz hn lk,rfl⟩);exact C.2 ⟨om,k2⟩
  .have hz:=Gg h;have am:=C.1 hz;refine ρ ?_;refine Qw (k+1) sO ⟨Z,om,λi hi=>?_⟩ om;by_cases e:i=k
   .subst e;exact ⟨om,am.2⟩
   .exact hI i om
 .have e:k=n:=by have:=oF h;omega
  subst e;refine ρ ?_;refine cl (Qml (hR.ext o) hn ag ae) ?_;rintro u w6 ⟨O,D,d,rfl,hd,a3⟩;have G:=o.trans O;have a2:∀ j,(Value.slice D k d).ownBlock=some j->w5.heap.size<=j/\j<w6.heap.size:=by
   obtain ⟨_,_,_,_,hf⟩:=Jv a3.1;exact λj ej=>⟨(hf j ej).1,(hf j ej).2⟩
  have af:∀ p∈ps,Off (one (Value.slice D k d).ownBlock) w6 (λu=>RowV u p.1 p.2):=λp hp=>Off.old (a:=w) (λu hu=>(a1 p hp).ext hu) G (λj ej=>nL o.size (a2 j ej).1);refine ρ ?_;refine cl (Qjx (ar:=ar) a3 hn ag hd af) ?_;rintro u w7 ⟨a8,rv,e,rfl,⟨z,B,m,d',av⟩,ah,aw⟩;have ac:Ext w w7:=Qv G a8 (λj ej=>nL o.size (a2 j ej).1);have a4:=(ab.ext U).ext O;have a9:=a4.grown a8 (a4.ne_own a3.1 rfl);subst av;refine ρ ?_;refine stb a9 ?_ (Vs (z:=z) (A:=B) (n:=m) (c:=d'));intro w8 b4 ax an;refine ρ ?_;refine Zh b4 ⟨an w ac hb,_,e,rfl,⟨z,B,m,d',rfl⟩,λ_ _ h3=>ah (by rw [List.length_map,hn]at h3;exact h3),λe0=>⟨b2,λr hr=>?_,?_⟩⟩
  .obtain ⟨p,hp,rfl⟩:=List.mem_map.1 hr;obtain ⟨i,hi,rfl⟩:=List.getElem_of_mem hp;have:=hI i om;rw [Jp z0 ps hi]at this;exact this
  .obtain ⟨ms,m1,m2,m3,m4⟩:=aw e0;refine ⟨ms,?_,m2,m3,λhc=>m4 (by rw [List.length_map,hn]at hc;exact hc)⟩;have ay:b<w6.heap.size/\(Value.slice D k d).ownBlock≠some b:=⟨a4.lt,λe=>a4.ne_own a3.1 rfl e.symm⟩;refine (m1.grown ax (λj ej=>by injection ej with ej;rw [<-ej];exact ay)).mono λj _ hj=>⟨nM hj G.size,λe=>?_⟩;have:=(a2 j e).1;have:=o.size;omega
open Go.RowKit Pl Go.Wk
theorem Jbx: ∀ (q:Row) (i:Nat) (x:V),i<q.length->Jl (q.set i x)=(Jl q).take (i*3)++x.cells++(Jl q).drop (i*3+3)
 | [],i,x,h=>by simp at h
 | v::q,0,x,_=>by
  have e:Jl (v::q)=v.cells++Jl q:=by simp [Jl]
  have e2:Jl (x::q)=x.cells++Jl q:=by simp [Jl]
  rw [List.set_cons_zero,e,e2,Nat.zero_mul,List.take_zero,List.nil_append,Nat.zero_add];congr 1
 | v::q,i+1,x,h=>by
  have ih:=Jbx q i x (by simpa using h);have e:Jl (v::q)=v.cells++Jl q:=by simp [Jl]
  have e2:Jl (v::q.set i x)=v.cells++Jl (q.set i x):=by simp [Jl]
  have hl:v.cells.length=3:=rfl;rw [List.set_cons_succ,e,e2,ih];have e3:(v.cells++Jl q).take ((i+1)*3)=v.cells++(Jl q).take (i*3):=by
   rw [List.take_append,hl,List.take_of_length_le om];congr 2;omega
  have e4:(v.cells++Jl q).drop ((i+1)*3+3)=(Jl q).drop (i*3+3):=by
   rw [List.drop_append,hl,List.drop_of_length_le om,List.nil_append];congr 1;omega
  rw [e3,e4];simp [List.append_assoc]
theorem Jbw(n:Nat): (madeCells (Value.agg #[.int .i64 0,.int .i64 0,.string ⟨#[]⟩]).cells (n*3)).toList=Jl (List.replicate n V0):=by
 apply List.ext_getElem?
 intro k;have u:(Value.agg #[.int .i64 0,.int .i64 0,.string ⟨#[]⟩]).cells = #[.int .i64 0,.int .i64 0,.string ⟨#[]⟩]:=rfl;rw [u];by_cases hk:k<n*3
 .have o:=Jbz (List.replicate n V0) (k / 3) (k % 3) (by simp;omega) om;rw [show k / 3*3+k % 3=k by omega]at o;rw [o];have e:(List.replicate n V0).getD (k / 3) V0=V0:=by
   rw [Jp V0 _ (by simp;omega)];simp
  rw [e];have C:k % 3<3:=om
  simp only [madeCells,Array.getElem?_toList,Array.getElem?_map,Array.getElem?_range,hk,if_true,Option.map_some];generalize k % 3=r at *
  have:r=0∨r=1∨r=2:=om
  rcases this with rfl|rfl|rfl<;>rfl
 .rw [List.getElem?_eq_none (by simp [madeCells];omega),List.getElem?_eq_none (by rw [Jnd];simp;omega)]
def Js(zs:List Int): List Value:=zs.map (Value.int .i64)
def IntsV(w:World)(v:Value)(zs:List Int): Prop:=∃ A c,v=.slice A zs.length c/\zs.length<=c/\zs.length<=1100000/\Rd w 1 A zs.length (Js zs)
theorem IntsV.ext{w w':World}{v:Value}{zs:List Int}(h:IntsV w v zs)(hx:Ext w w'): IntsV w' v zs:=by obtain ⟨A,c,G,C,u,o⟩:=h;exact ⟨A,c,G,C,u,o.ext hx⟩
theorem Jzk{zs:List Int}{i:Nat}(h:i<zs.length): (Js zs)[i]?=some (.int .i64 (zs.getD i 0)):=by simp [Js,List.getD,List.getElem?_eq_getElem h]
def nz(cs:List Nat): List Int:=cs.map fun (c:Nat)=>(c:Int)
theorem Xh{cs:List Nat}{i:Nat}(h:i<cs.length): (Js (nz cs))[i]?=some (.int .i64 (cs.getD i 0:Int)):=by simp [Js,nz,List.getD,List.getElem?_eq_getElem h]
theorem Qq(cs:List Nat): (nz cs).length=cs.length:=by simp [nz]
def pmR(cs:List Nat)(r:Row): Row:=cs.map λc=>r.getD c V0
abbrev Zm(w:World)(base:Nat)(v:Value)(q:Row): Prop:=w.ownsRow base 47 3 v q.length (Jl q)
theorem Qh(cs:List Nat)(r:Row): (pmR cs r).length=cs.length:=by simp [pmR]
theorem Jwn{cs:List Nat}{r:Row}{k:Nat}(hk:k<cs.length): (pmR cs r).getD k V0=r.getD (cs.getD k 0) V0:=by
 rw [Jp V0 _ (by simpa [pmR] using hk),Jp 0 cs hk];simp [pmR]
theorem Jxx{w:World}{v:Value}{ar:Nat}{ls:List Row}(h:RelV w v ar ls): Ret Tryz.prog 82 [v] w λu w'=>u=.int .i64 (ls.length:Int)/\Ext w w':=by
 obtain ⟨Z,rfl,ps,A,c,rfl,rfl,J,G,hR,C⟩:=h;refine Jz Tryz.func82 Tryz.ntmps82 rfl kr rfl ?_;refine ρ ?_;refine bx ?_;intro U b o hb O;refine ρ ?_;refine ld (O.at (i:=1) rfl) ?_;refine ρ ?_;exact Jj ⟨by rw [List.length_map],o⟩
theorem Jcd{w:World}{v:Value}{ar:Nat}{ls:List Row}(h:RelV w v ar ls): Ret Tryz.prog 159 [v] w λu w'=>u=.int .i64 (ar:Int)/\Ext w w':=by
 obtain ⟨Z,rfl,ps,A,c,rfl,rfl,J,G,hR,C⟩:=h;refine Jz Tryz.func159 Tryz.ntmps159 rfl kr rfl ?_;refine ρ ?_;refine bx ?_;intro U b o hb O;refine ρ ?_;refine ld (O.at (i:=0) rfl) ?_;refine ρ ?_;exact Jj ⟨rfl,o⟩
theorem Jcb{w:World}{v:Value}{ar:Nat}{ls:List Row}(h:RelV w v ar ls): Ret Tryz.prog 132 [v] w λu w'=>Ext w w'/\RowsP (λk=>k<w.heap.size) w' u ls:=by
 obtain ⟨rv,rfl,ps,A,c,rfl,rfl,ag,ae,hR,aa⟩:=h;generalize hn:ps.length=n at *
 refine Jz Tryz.func132 Tryz.ntmps132 rfl kr rfl ?_;refine ρ ?_;refine bx ?_;intro w0 b a1 hb hB;refine ρ ?_;refine ld (hB.at (i:=1) rfl) ?_;refine ρ ?_;refine mkn ER n om (by unfold maxLen;omega) ?_;intro w1 O ad a5 hO;have a7:∀ k,(Value.slice O n n).ownBlock=some k->w0.heap.size<=k/\k<w1.heap.size:=by
  obtain ⟨_,_,e,_,hf⟩:=Jv a5;exact hf
 have af:Dat w1 w0.heap.size (.slice O n n) ([]++List.replicate n (.slice none 0 0,[])):=by
  refine ⟨?_,λp Z=>?_⟩
  .rw [List.nil_append,List.length_replicate,Pr.rep];have e:(madeCells (Value.slice none 0 0).cells (n*1)).toList=List.replicate n (.slice none 0 0):=by rw [Nat.mul_one];exact Uj _ _
   rw [e]at a5;exact a5
  .rw [List.nil_append]at Z;rw [(List.mem_replicate.1 Z).2];rfl
 obtain ⟨N,hN⟩:∃ N:Nat->Prop,N=λk=>k<w0.heap.size∨(Value.slice O n n).ownBlock=some k:=⟨_,rfl⟩;refine ρ ?_;refine Jt (fun (k:Nat) (C:List Pr)=>[(1,.pointer (some ⟨b,0,none⟩)),(3,.slice O n n),(10,.int .i64 (n:Int)),(11,.int .i64 (k:Int))])
  (λk C w2=>k<=n/\C.length=k/\C.map (·.2)=(ps.take k).map (·.2)/\Ext w0 w2/\w1.heap.size<=w2.heap.size/\Dat w2 w0.heap.size (.slice O n n) (C++List.replicate (n-k) (.slice none 0 0,[]))/\(∀ p∈C,Off N w2 (λu=>RowV u p.1 p.2))) (λk _=>n-k) 0 [] sB
  ⟨Nat.zero_le _,rfl,rfl,ad,Nat.le_refl _,af,λp Z=>(by cases Z)⟩ ?_
 rintro k C w2 ⟨hk,a4,a3,J,U,a9,ab⟩;have o:=a1.trans J;refine ρ ?_;refine ci (λh=>?_) (λh=>?_)
 .have lk:k<n:=by have:=oT h;omega
  refine ρ ?_;refine ld ((hB.ext J).at (i:=1) rfl) ?_;refine ρ ?_;refine ix k (hR.ext o) lk ?_;refine ρ ?_;refine ld (Jjr (hR.ext o) hn lk) ?_;refine ρ ?_;refine cl (Jxd ((aa _ (Vz hn lk)).ext o) N (λj hj=>?_)) ?_
  .subst hN;rcases hj with h'|h'
   .exact nM h' J.size
   .exact nM (a7 j h').2 U
  rintro v3 w3 ⟨a2,G⟩;have a8:=a9.ext G;have a6:(C++List.replicate (n-k) ((.slice none 0 0,[]):Pr)).length=n:=by simp;omega
  obtain ⟨s1,s2,s3⟩:=a8.store a6 lk (p:=(v3,(ps.getD k z0).2)) a2.v.one;refine ρ ?_;refine ix k (a8.rd a6) lk ?_;refine ρ ?_;refine sto (a8.cell a6 lk) s1 ?_ (hv:=a2.v.one);refine ρ ?_;have e:(C++List.replicate (n-k) ((.slice none 0 0,[]):Pr)).set k (v3,(ps.getD k z0).2)=(C++[(v3,(ps.getD k z0).2)])++List.replicate (n-(k+1)) (.slice none 0 0,[]):=by
   rw [show n-k=(n-(k+1))+1 by omega,List.replicate_succ,List.set_append_right _ _ om,a4,Nat.sub_self,List.set_cons_zero,List.append_assoc];rfl
  rw [e]at s2;have ac:∀ j,(Value.slice O n n).ownBlock=some j->N j:=λj ej=>by rw [hN];exact .inr ej
  refine Jg (k+1) (C++[(v3,(ps.getD k z0).2)]) sO ⟨om,by simp [a4],?_,Qv (J.trans G) s3 (λj hj=>(a7 j hj).1),Nat.le_trans U (nL G.size s3.size),s2,λp Z=>?_⟩ om
  .rw [List.map_append,a3,Qy z0 om,List.map_append];rfl
  .rcases List.mem_append.1 Z with h'|h'
   .exact ((ab p h').ext G).grown s3 ac
   .rw [List.mem_singleton.1 h'];exact a2.off.grown s3 ac
 .have e:k=n:=by have:=oF h;omega
  subst e;rw [Nat.sub_self,List.replicate_zero,List.append_nil]at a9;rw [List.take_of_length_le om]at a3;refine ρ ?_;refine Jj ⟨o,?_⟩;rw [<-a3];refine rowsP a9 a4 ae (Nat.le_refl _) (λj ej hj=>?_) λp Z=>(ab p Z).mono λj _ hj=>by rw [hN];exact .inl (nM hj a1.size)
  have:=(a7 j ej).1;have:=a1.size;omega
open Go.RowKit Pl Go.Wk
theorem Qyf{w:World}{v vc:Value}{r:Row}{cs:List Nat}(h:RowV w v r)(hc:IntsV w vc (nz cs))(hlt:∀ c∈cs,c<r.length): Ret Tryz.prog 202 [v,vc] w λu w'=>Ext w w'/\∃ x,u=.tuple #[x,.int .i64 0]/\Off (λk=>k<w.heap.size) w' (λy=>RowV y x (pmR cs r)):=by
 obtain ⟨A,ac,rfl,ah,ag,aa⟩:=h;obtain ⟨C,cc,rfl,ae,ab,J⟩:=hc;rw [Qq]at *;refine Jz Tryz.func202 Tryz.ntmps202 rfl kr rfl ?_;refine ρ ?_;refine Qd (fun (k:Nat)=>[(0,.slice A r.length ac),(1,.slice C cs.length cc),(10,.int .i64 (cs.length:Int)),(11,.int .i64 (k:Int))]) (λk w'=>w'=w/\k<=cs.length) (λk=>cs.length-k) 0 sB ⟨rfl,Nat.zero_le _⟩ ?_;rintro k w' ⟨rfl,hk⟩;refine ρ ?_;refine ci (λh=>?_) (λh=>?_)
 .have lk:k<cs.length:=by have:=oT h;omega
  have af:=hlt _ (getD_mem' 0 cs lk);refine ρ ?_;refine ix k J lk ?_;refine ρ ?_;refine ld (J.cell (Xh lk)) ?_;refine ρ ?_;refine kf 19 ?_ ?_
  .exact dF om
  refine ρ ?_;refine ix k J lk ?_;refine ρ ?_;refine ld (J.cell (Xh lk)) ?_;refine ρ ?_;refine cf ?_ ?_
  .exact dF om
  refine ρ ?_;exact Qw (k+1) sO ⟨rfl,om⟩ om
 refine ρ ?_;refine mkn EV cs.length om (by unfold maxLen;omega) ?_;intro w4 O a6 a4 hO;rw [Jbw]at a4;have a3:Zm w4 w'.heap.size (.slice O cs.length cs.length) ([]++List.replicate cs.length V0):=by
  rw [Zm,List.nil_append,List.length_replicate];exact a4
 refine ρ ?_;refine Qd (fun (i:Nat)=>[(0,.slice A r.length ac),(1,.slice C cs.length cc),(7,.slice O cs.length cs.length),(33,.int .i64 (cs.length:Int)),(34,.int .i64 (i:Int))])
  (λi w5=>i<=cs.length/\Ext w' w5/\Zm w5 w'.heap.size (.slice O cs.length cs.length) ((pmR cs r).take i++List.replicate (cs.length-i) V0)) (λi=>cs.length-i) 0 sB
  ⟨Nat.zero_le _,a6,a3⟩ ?_
 rintro i w5 ⟨hi,U,o⟩;have G:((pmR cs r).take i++List.replicate (cs.length-i) V0).length=cs.length:=by simp [Qh];omega
 rw [Zm,G]at o;refine ρ ?_;refine ci (λh0=>?_) (λh0=>?_)
 .have li:i<cs.length:=by have:=oT h0;omega
  have Z:=J.ext U;have a1:RdR w5 A r:=Rd.ext aa U;have lc:=hlt _ (getD_mem' 0 cs li);refine ρ ?_;refine ix i Z li ?_;refine ρ ?_;refine ld (Z.cell (Xh li)) ?_;refine ρ ?_;refine ixq 3 (cs.getD i 0) a1 lc ?_;refine ρ ?_;refine lds (λj u hu=>RdR.cell a1 lc hu) ?_;refine ρ ?_;refine ixq 3 i (Rd.own o) li ?_;refine ρ ?_;refine stoE (cs:=(r.getD (cs.getD i 0) V0).cells) o li ?_ (V.one _);intro w6 a7 a9;have a5:Ext w' w6:=Qv U a9 (λk hk=>by
   obtain ⟨_,_,e,_,hf⟩:=Jv o;exact (hf k hk).1)
  refine ρ ?_;refine Qw (i+1) sO ⟨om,a5,?_⟩ om;have e:((pmR cs r).take i++List.replicate (cs.length-i) V0).set i (r.getD (cs.getD i 0) V0)=(pmR cs r).take (i+1)++List.replicate (cs.length-(i+1)) V0:=by
   have hl:((pmR cs r).take i).length=i:=by simp [Qh];omega
   rw [List.set_append_right _ _ om,hl,Nat.sub_self,show cs.length-i=(cs.length-(i+1))+1 by omega,List.replicate_succ,List.set_cons_zero,List.take_succ_eq_append_getElem (by rw [Qh];omega),List.append_assoc];rw [<-Jwn li,Jp V0 _ (by rw [Qh];omega)];rfl
  have a2:((pmR cs r).take (i+1)++List.replicate (cs.length-(i+1)) V0).length=cs.length:=by rw [<-e];simp [Qh];omega
  rw [Zm,a2,<-e,Jbx _ _ _ (by rw [G];omega)];exact a7
 .have a8:i=cs.length:=by have:=oF h0;omega
  subst a8;rw [Nat.sub_self,List.replicate_zero,List.append_nil,List.take_of_length_le (by rw [Qh];omega)]at o;refine ρ ?_;refine Ve ⟨U,_,rfl,?_⟩;obtain ⟨_,_,_,_,hf⟩:=Jv o;intro y hg;refine ⟨O,cs.length,by rw [Qh],by rw [Qh];omega,by rw [Qh];omega,?_⟩;rw [RdR,Qh];refine Zo (Rd.own o) hg λ_ ad e=>?_;subst e;have:=(hf ad.block rfl).1;omega
theorem Jng{w:World}{v vc:Value}{ar:Nat}{ls:List Row}{cs:List Nat}(h:RelV w v ar ls)(hc:IntsV w vc (nz cs))(hlen:∀ r∈ls,r.length=ar)(hlt:∀ c∈cs,c<ar)(h32:cs.length<=32)(hbig:ls.length<=65536):
  Ret Tryz.prog 186 [v,vc] w λu w'=>Ext w w'/\∃ rv,u=.tuple #[rv,.int .i64 0]/\(∃ z B m d,rv=.agg #[.int .i64 z,.slice B m d])/\∃ m,Off (λk=>k<w.heap.size) w' (λx=>RelV x rv cs.length m)/\m.length<=65536/\(∀ x∈m,x∈ls.map (pmR cs))/\((ls.length<=1000∨Srt [] (ls.map (pmR cs)))->IsSet [] (ls.map (pmR cs)) m):=by
 obtain ⟨rv,rfl,ps,A,c,rfl,rfl,bf,b4,hR,ak⟩:=h;obtain ⟨C,cc,rfl,bh,bg,b7⟩:=id hc;generalize hn:ps.length=n at *
 rw [List.length_map,hn]at hbig;have af:∀ p∈ps,p.2.length=ar:=λp hp=>hlen _ (List.mem_map.2 ⟨p,hp,rfl⟩);rw [Qq]at *;refine Jz Tryz.func186 Tryz.ntmps186 rfl kr rfl ?_;refine ρ ?_;refine bx ?_;intro w1 b1 a1 bi be;refine ρ ?_;refine alc Ug ?_;intro w2 b2 aj b9 bd;have a7:=a1.trans aj;have aa:=be.ext aj;refine ρ ?_;refine cf ?_ ?_
 .exact dF om
 refine ρ ?_;refine Qd (fun (k:Nat)=>[(1,.slice C cs.length cc),(2,.pointer (some ⟨b1,0,none⟩)),(4,.pointer (some ⟨b2,0,none⟩)),(14,.int .i64 (cs.length:Int)),(15,.int .i64 (k:Int))]) (λk w'=>Ext w2 w'/\k<=cs.length) (λk=>cs.length-k) 0 sB ⟨Ext.refl _,Nat.zero_le _⟩ ?_;rintro k w3 ⟨a4,hk⟩;refine ρ ?_;refine ci (λh=>?_) (λh=>?_)
 .have lk:k<cs.length:=by have:=oT h;omega
  have ap:=hlt _ (getD_mem' 0 cs lk);clear h;refine ρ ?_;refine dr [(0,0),(0,1),(0,2),(0,3),(0,4),(0,5),(0,6),(0,7),(0,8),(0,9),(0,10),(0,11),(0,12),(0,13)] kr ?_;have ab:=a4.drew;have G:=b7.ext (a7.trans ab);refine ρd ?_;refine dix k G lk ?_;refine ρd ?_;refine dld (G.cell (Xh lk)) ?_;refine ρd ?_;refine dkf 23 ?_ ?_
  .exact dF om
  refine ρd ?_;refine dix k G lk ?_;refine ρd ?_;refine dld (G.cell (Xh lk)) ?_;refine ρd ?_;refine dld ((aa.ext ab).at (i:=0) rfl) ?_;refine ρd ?_;refine ρ ?_;refine cf ?_ ?_
  .exact dF om
  refine ρ ?_;exact Qw (k+1) sO ⟨ab,om⟩ om
 clear h hk;have U:=a7.trans a4;have a9:=aa.ext a4;refine ρ ?_;refine ld (a9.at (i:=1) rfl) ?_;refine ρ ?_;refine mkn ER n om (by unfold maxLen;omega) ?_;intro w4 O aw ae hO;have a5:∀ k,(Value.slice O n n).ownBlock=some k->w3.heap.size<=k/\k<w4.heap.size:=by
  obtain ⟨_,_,e,_,hf⟩:=Jv ae;exact hf
 have ba:Dat w4 w3.heap.size (.slice O n n) ([]++List.replicate n (.slice none 0 0,[])):=by
  refine ⟨?_,λp hp=>?_⟩
  .rw [List.nil_append,List.length_replicate,Pr.rep];have e:(madeCells (Value.slice none 0 0).cells (n*1)).toList=List.replicate n (.slice none 0 0):=by rw [Nat.mul_one];exact Uj _ _
   rw [e]at ae;exact ae
  .rw [List.nil_append]at hp;rw [(List.mem_replicate.1 hp).2];rfl
 obtain ⟨N,hN⟩:∃ N:Nat->Prop,N=λk=>k<w3.heap.size∨(Value.slice O n n).ownBlock=some k:=⟨_,rfl⟩;refine ρ ?_;refine Jt (fun (k:Nat) (J:List Pr)=>[(1,.slice C cs.length cc),(2,.pointer (some ⟨b1,0,none⟩)),(4,.pointer (some ⟨b2,0,none⟩)),(7,.slice O n n),(39,.int .i64 (n:Int)),(40,.int .i64 (k:Int))])
  (λk J w5=>k<=n/\J.length=k/\J.map (·.2)=(ps.take k).map (λp=>pmR cs p.2)/\Ext w3 w5/\w4.heap.size<=w5.heap.size/\Dat w5 w3.heap.size (.slice O n n) (J++List.replicate (n-k) (.slice none 0 0,[]))/\(∀ p∈J,Off N w5 (λu=>RowV u p.1 p.2))) (λk _=>n-k) 0 [] sB
  ⟨Nat.zero_le _,rfl,rfl,aw,Nat.le_refl _,ba,λp hp=>(by cases hp)⟩ ?_
 rintro k J w5 ⟨hk,ad,ac,Z,a8,a2,aq⟩;have o:=U.trans Z;refine ρ ?_;refine ci (λh=>?_) (λh=>?_)
 .have lk:k<n:=by have:=oT h;omega
  have ay:(ps.getD k z0).2.length=ar:=af _ (Vz hn lk);refine ρ ?_;refine ld ((a9.ext Z).at (i:=1) rfl) ?_;refine ρ ?_;refine ix k (hR.ext o) lk ?_;refine ρ ?_;refine ld (Jjr (hR.ext o) hn lk) ?_;refine ρ ?_;refine cl (Qyf ((ak _ (Vz hn lk)).ext o) (hc.ext o) (λc ap=>by rw [ay];exact hlt c ap)) ?_;rintro u w6 ⟨a3,x,rfl,am⟩;have ah:=a2.ext a3;have ag:(J++List.replicate (n-k) ((.slice none 0 0,[]):Pr)).length=n:=by simp;omega
  have a1:x.oneCell'=true:=am.here.one;obtain ⟨s1,s2,s3⟩:=ah.store ag lk (p:=(x,pmR cs (ps.getD k z0).2)) a1;refine ρ ?_;refine ix k (ah.rd ag) lk ?_;refine ρ ?_;refine sto (ah.cell ag lk) s1 ?_ (hv:=a1);refine ρ ?_;have e:(J++List.replicate (n-k) ((.slice none 0 0,[]):Pr)).set k (x,pmR cs (ps.getD k z0).2)=(J++[(x,pmR cs (ps.getD k z0).2)])++List.replicate (n-(k+1)) (.slice none 0 0,[]):=by
   rw [show n-k=(n-(k+1))+1 by omega,List.replicate_succ,List.set_append_right _ _ om,ad,Nat.sub_self,List.set_cons_zero,List.append_assoc];rfl
  rw [e]at s2;have au:∀ j,(Value.slice O n n).ownBlock=some j->N j:=λj ej=>by rw [hN];exact .inr ej
  refine Jg (k+1) (J++[(x,pmR cs (ps.getD k z0).2)]) sO ⟨om,by simp [ad],?_,Qv (Z.trans a3) s3 (λj hj=>(a5 j hj).1),Nat.le_trans a8 (nL a3.size s3.size),s2,λp hp=>?_⟩ om
  .rw [List.map_append,ac,Qy z0 om,List.map_append];rfl
  .rcases List.mem_append.1 hp with h'|h'
   .exact ((aq p h').ext a3).grown s3 au
   .rw [List.mem_singleton.1 h'];refine (am.mono λj _ hj=>?_).grown s3 au;rw [hN]at hj;rcases hj with h'|h'
    .exact nM h' Z.size
    .exact nM (a5 j h').2 a8
 .have e:k=n:=by have:=oF h;omega
  subst e;rw [Nat.sub_self,List.replicate_zero,List.append_nil]at a2;rw [List.take_of_length_le om]at ac;have b5:J.map (·.2)=(ps.map (·.2)).map (pmR cs):=by rw [ac,List.map_map];rfl
  refine ρ ?_;refine cl (Qjx (ar:=cs.length) a2 ad b4 (Nat.le_refl _) (λp hp=>(aq p hp).mono λj _ hj=>by rw [hN];exact .inr hj)) ?_;rintro u w7 ⟨an,rv,e,rfl,⟨z,B,m,d',ax⟩,ao,b3⟩;have he:=ao hbig;subst he;have ai:Ext w w7:=Qv o an (λj ej=>nL U.size (a5 j ej).1);have a6:=(bd.ext a4).ext Z;have bc:=a6.grown an (a6.ne_own a2.1 rfl);subst ax;refine ρ ?_;refine stb bc ?_ (Vs (z:=z) (A:=B) (n:=m) (c:=d'));intro w8 bb b6 av;refine ρ ?_;obtain ⟨ms,m1,m2,m3,m4⟩:=b3 rfl;rw [b5]at m3 m4;refine Zh bb ⟨av w ai (nL a1.size b9),_,rfl,⟨z,B,m,d',rfl⟩,ms,?_,m2,m3,λhc=>m4 (by rw [List.length_map,hn]at hc;exact hc)⟩;have b8:b2<w5.heap.size/\(Value.slice O k k).ownBlock≠some b2:=⟨a6.lt,λe=>a6.ne_own a2.1 rfl e.symm⟩;refine (m1.grown b6 (λj ej=>by injection ej with ej;rw [<-ej];exact b8)).mono λj _ hj=>⟨nM hj o.size,λe=>?_⟩;have:=(a5 j e).1;have:=U.size;omega
end Go.Proofs.YtebcagekopgdhaaGreatDoor
