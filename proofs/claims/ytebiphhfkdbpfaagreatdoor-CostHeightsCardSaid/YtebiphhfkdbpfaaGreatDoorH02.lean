/- Part 2. -/
import Derived.Test.YtebiphhfkdbpfaaGreatDoorH01
import Derived.Lib.LaidTab
import Derived.Lib.AppendIntMem
import Derived.Laws.CopyRow
import Derived.Maps.RangeWalk
import Derived.Laws.BitsAllLaws
set_option linter.unusedVariables false
set_option maxRecDepth 100000
set_option maxHeartbeats 40000000
namespace Go.Proofs.YtebiphhfkdbpfaaGreatDoor
open Go.RowKit Pl Go.Wk
attribute [local irreducible] WC WL QX WD WDB WP
def Xm(v:V): Bool:=if v.kind=1 then(v.bytes == []) else if v.kind=2 then decide (v.num=0) && decide (v.bytes.length<=24) else false
theorem Jtl(v:V): v.str.size=v.bytes.length:=(Array.length_toList (xs:=v.str.data)).symm
theorem Jtm(v:V): (v.str.toList == (⟨#[]⟩:ByteArray).toList)=(v.bytes == []):=by rw[ByteArray.toList_eq,ByteArray.toList_eq];rfl
theorem Jsc(v:V)(w:World): Ret Tryz.prog 173 [v.val] w λr w'=>r=.bool (Xm v)/\Ext w w':=by
 refine Jz Tryz.func173 Tryz.ntmps173 rfl kr rfl ?_;refine ρ ?_;refine bx (cs:=v.cells) ?_;intro w1 b j D u;refine ρ ?_;refine ld (u.at (i:=0) rfl) ?_;refine ρ ?_;refine ci (λh=>?_) (λh=>?_)
 .refine ρ ?_;refine ld (u.at (i:=2) rfl) ?_;refine ρ ?_;refine Jq ⟨?_,j⟩;rw[Xm,if_pos (Ur h),Jtm]
 refine ρ ?_;refine ci (λy=>?_) (λy=>?_)
 .refine ρ ?_;refine ld (u.at (i:=1) rfl) ?_;refine ρ ?_;refine ki 15 (λB=>?_) (λB=>?_)
  .refine ρ ?_;refine ld (u.at (i:=2) rfl) ?_;refine ρ ?_;refine Jq ⟨?_,j⟩;rw[Xm,if_neg (Yr h),if_pos (Ur y),decide_eq_true (Ur B),Jtl,Bool.true_and];congr 1
   grind
  refine ρ ?_;refine Jq ⟨?_,j⟩;rw[Xm,if_neg (Yr h),if_pos (Ur y),decide_eq_false (Yr B)];rfl
 refine ρ ?_;refine Jq ⟨?_,j⟩;rw[Xm,if_neg (Yr h),if_neg (Yr y)]
theorem Qjn{v:Value}{r:Row}{w:World}(h:RowV w v r): Ret Tryz.prog 150 [v] w λu w'=>u=.bool (r.all Xm)/\Ext w w':=by
 obtain⟨A,c,rfl,Z,U,G⟩:=h;refine Jz Tryz.func150 Tryz.ntmps150 rfl kr rfl ?_;refine ρ ?_;refine Jp (fun (k:Nat)=>[(0,.slice A r.length c),(5,.int .i64 (r.length:Int)),(6,.int .i64 (k:Int))]) (λk w'=>Ext w w'/\k<=r.length/\(r.take k).all Xm=true) (λk=>r.length-k) 0 sB ⟨Ext.refl w,Nat.zero_le _,rfl⟩ ?_;rintro k w1 ⟨B,J,O⟩;refine ρ ?_;refine ci (λh=>?_) (λh=>?_)
 .have lk:k<r.length:=by have:=oT h;omega
  have y:=G.ext B;refine ρ ?_;refine ixq 3 k y lk ?_;refine ρ ?_;refine lds (λj u D=>RdR.cell y lk D) ?_;refine ρ ?_;refine cl (Jsc (r.getD k V0) _) ?_;rintro u w2 ⟨rfl,i⟩;refine ρ ?_;refine ci (λh=>?_) (λh=>?_)
  .refine ρ ?_;refine Jq ⟨?_,B.trans i⟩;grind
  refine ρ ?_;have h':Xm (r.getD k V0)=true:=by simpa using h
  refine Jh (k+1) sO ⟨B.trans i,om,?_⟩ om;grind [Xj,V0,lk]
 refine ρ ?_;refine Jq ⟨?_,B⟩;grind
def RelV(w:World)(v:Value)(ar:Nat)(ls:List Row): Prop:=∃ rv,v=.agg #[.int .i64 (ar:Int),rv]/\RowsV w rv ls
theorem RelV.ext{w w':World}{v:Value}{ar:Nat}{ls:List Row}(h:RelV w v ar ls)(hx:Ext w w'): RelV w' v ar ls:=by
 obtain⟨i,e,h⟩:=h;exact⟨i,e,h.ext hx⟩
theorem Ux: Qm Tryz.prog 80=some (.agg #[.int .i64 0,.slice none 0 0]):=kr
theorem Jkd(w:World): (Instr.build 80 #[]).run Tryz.prog w=.ok (.agg #[.int .i64 0,.slice none 0 0]) w:=kr
theorem Qfh(z:Int)(w:World): (Instr.build 80 #[(0,.int .i64 z)]).run Tryz.prog w=.ok (.agg #[.int .i64 z,.slice none 0 0]) w:=kr
theorem Qfg(z:Int)(A:Option Addr)(n c:Nat)(w:World): (Instr.build 80 #[(0,.int .i64 z),(1,.slice A n c)]).run Tryz.prog w=.ok (.agg #[.int .i64 z,.slice A n c]) w:=kr
theorem Yk{z:Int}{A:Option Addr}{n c:Nat}: ∀ u∈[Value.int .i64 z,.slice A n c],u.oneCell'=true:=by
 intro u i;simp at i;rcases i with rfl|rfl<;>rfl
theorem Qjz(z:Int)(w:World): Ret Tryz.prog 76 [.int .i64 z] w λv w'=>Ext w w'/\∃ z' e,v=.tuple #[.agg #[.int .i64 z',.slice none 0 0],.int .i64 e]/\(e=0->z'=z)/\(e=0↔0<=z/\z<=32):=by
 refine Jz Tryz.func76 Tryz.ntmps76 rfl kr rfl ?_;refine ρ ?_;refine alc Ux ?_;intro w1 b u y B;refine ρ ?_;refine Uk (fun (t:Bool)=>[(0,.int .i64 z),(2,.pointer (some ⟨b,0,none⟩)),(9,.bool t)]) (λt w'=>w'=w1/\(t=true↔¬ (0<=z/\z<=32))) ?_ ?_
 .refine ki 6 (λh=>?_) (λh=>?_)
  .refine ρ ?_;exact Jg true sB ⟨rfl,by grind⟩
  refine ρ ?_;refine Jg _ sB ⟨rfl,?_⟩;grind
 rintro t w' ⟨rfl,ht⟩;refine ci (λh=>?_) (λh=>?_)
 .refine ρ ?_;refine bld (Jkd _) ?_;refine ρ ?_;refine stb B ?_ Yk;intro w2 j _ i;refine ρ ?_;exact Xr j ⟨i w u y,0,3,rfl,λe=>(by cases e),⟨λe=>(by cases e),λe=>absurd e (ht.1 h)⟩⟩
 refine ρ ?_;refine bld (Qfh z _) ?_;refine ρ ?_;refine stb B ?_ (Yk (z:=z) (A:=none) (n:=0) (c:=0));intro w2 j _ i;refine ρ ?_;refine Xr j ⟨i w u y,z,0,rfl,λ_=>rfl,⟨λ_=>?_,λ_=>rfl⟩⟩;grind
open Go.RowKit Pl Go.Wk
variable {ps:List Pr}{ar base c n:Nat}{N:Nat->Prop}{A:Option Addr}{row:Option Nat}{v:Value}{w:World}
theorem RowX.off{r:Row}(h:RowX w N v r): Off N w (λu=>RowV u v r):=by
 obtain⟨A,c,G,D,B,y,j⟩:=h;intro w' i;refine⟨A,c,G,D,B,Ug y i λh0 J e=>j (λO=>?_) J e⟩;grind [Qz]
theorem Jnv(h:∀ p∈ps,Off (one row) w (λu=>RowV u p.1 p.2)): CF w row 152 #[] #[] ps []:=λw' i p q y j=>
 Jfh (h p y w' (GrN.by i λk e=>e)) (h q j w' (GrN.by i λk e=>e))
theorem eqRow(h:∀ p∈ps,Off (one row) w (λu=>RowV u p.1 p.2)): EqF w row 126 #[] #[] ps:=λw' i p q y j=>
 Qjq (h p y w' (GrN.by i λk e=>e)) (h q j w' (GrN.by i λk e=>e))
theorem ownB(A:Option Addr)(n c m d:Nat): (Value.slice A n c).ownBlock=(Value.slice A m d).ownBlock:=by cases A<;>rfl
theorem Qjm(hD:Dat w base (.slice A n c) ps)(hn:ps.length=n)(hmx:n<=1100000)(hnc:n<=c)(hN:∀ k,(Value.slice A n c).ownBlock=some k->¬ N k)(hr:∀ p∈ps,Off N w (λu=>RowV u p.1 p.2)): Off N w (λu=>RowsV u (.slice A n c) (ps.map (·.2))):=by
 intro w' i;refine⟨ps,A,c,rfl,by rw[hn],om,om,?_,λp j=>hr p j w' i⟩;rw[hn];refine Ug (hD.rd hn) i λ_ y e=>?_;subst e;exact hN _ rfl
def RowsP(N:Nat->Prop)(w:World)(v:Value)(ls:List Row): Prop:=∃(ps:List Pr) (A:Option Addr) (c:Nat),ls=ps.map (·.2)/\v=.slice A ps.length c/\ps.length<=c/\ps.length<=1100000/\Off N w (λu=>Rd u 1 A ps.length (ps.map (·.1)))/\∀ p∈ps,Off N w (λu=>RowV u p.1 p.2)
theorem RowsP.off{ls:List Row}(h:RowsP N w v ls): Off N w (λu=>RowsV u v ls):=by
 obtain⟨ps,A,c,O,J,G,D,B,y⟩:=h;exactλu i=>⟨ps,A,c,O,J,G,D,B u i,λp j=>y p j u i⟩
theorem Jpc(hD:Dat w base (.slice A n c) ps)(hn:ps.length=n)(hmx:n<=1100000)(hnc:n<=c)(hr:∀ p∈ps,Off (one (Value.slice A n c).ownBlock) w (λu=>RowV u p.1 p.2)):
  Ret Tryz.prog 78 [.int .i64 (ar:Int),.slice A n c] w λv w'=>w.grownBy w' (Value.slice A n c).ownBlock/\∃ rv e,v=.tuple #[rv,.int .i64 e]/\(∃ z B m d,rv=.agg #[.int .i64 z,.slice B m d])/\(n<=65536->e=0) /\
   (e=0->∃ m,Off (λk=>k<w.heap.size/\(Value.slice A n c).ownBlock≠some k) w' (λu=>RelV u rv ar m)/\m.length<=65536/\(∀ x∈m,x∈ps.map (·.2))/\((n<=12∨Srt [] (ps.map (·.2)))->Va [] (ps.map (·.2)) m)):=by
 refine Jz Tryz.func78 Tryz.ntmps78 rfl kr rfl ?_;refine ρ ?_;refine alc Ux ?_;intro w1 b a2 hb hB;have au:=hD.ext a2;have aa:∀ p∈ps,Off (one (Value.slice A n c).ownBlock) w1 (λu=>RowV u p.1 p.2):=λp Z=>(hr p Z).ext a2;obtain⟨own,G⟩:∃ own,own=(Value.slice A n c).ownBlock:=⟨_,rfl⟩;have a6:∀ k,own=some k->k<w.heap.size:=λk e=>by
  obtain⟨_,_,_,_,hf⟩:=Jf hD.1;grind
 refine ρ ?_;refine cl (Qwx (au.rd hn) hn hmx (Jnv aa)) ?_;rintro v w2 ⟨a5,t,rfl,ht⟩;refine ρ ?_;refine Xv (fun (q:List Pr)=>[(0,.int .i64 (ar:Int)),(1,.slice A n c),(4,.pointer (some ⟨b,0,none⟩))]) (λq w'=>DP w1 w' base A n c ps q/\Blk w' b 80 [.int .i64 0,.slice none 0 0]/\((n<=12∨Srt [] (ps.map (·.2)))->Srt [] (q.map (·.2)))) ?_ ?_
 .have H2:=(DP.start au hn).ext a5;refine ci (λh=>?_) (λh=>?_)
  .have aw:¬ SOn z0 (fP []) ps 0 n:=by grind
   refine ρ ?_;refine cl (Jts H2.d H2.l hmx ((Jnv aa).step H2)) ?_;rintro v w3 ⟨q,H3,hs⟩;refine ρ ?_;refine Jg q sB ⟨H2.after H3,(hB.ext a5).grown H3.g ((hB.ext a5).ne_own H2.d.1 rfl),λe=>?_⟩;rcases e with e|e
   .exact Jdl (by rw[H3.l];exact hs e)
   exfalso
   apply aw
   intro i j _ b8 hj;have e':=(List.pairwise_map.1 e);grind [List.pairwise_iff_getElem,fP,Xf,z0]
  have ax:t=true:=by simpa using h
  refine ρ ?_;exact Jg ps sB ⟨H2,hB.ext a5,λ_=>Jdl (by rw[hn];exact ht.1 ax)⟩
 rintro q w3 ⟨H3,av,ay⟩;have ai:∀ p∈q,Off (one (Value.slice A n c).ownBlock) w3 (λu=>RowV u p.1 p.2):=λp Z=>(aa p (H3.p.mem_iff.1 Z)).grown H3.g λk e=>e;refine ρ ?_;refine cl (Qcm H3.d H3.l hmx hnc (eqRow ai)) ?_;rintro v w4 ⟨y,rfl,aq,ac,af,ab⟩;have b7:y.length<=n:=by
  have:=Qbr (q.map (·.2))
  rw[<-ac,List.length_map,List.length_map,H3.l]at this;exact this
 have ae:=av.grown ab (av.ne_own H3.d.1 rfl);have ah:∀ p∈y,Off (one own) w4 (λu=>RowV u p.1 p.2):=λp Z=>by rw[G];exact(ai p (af p Z)).grown ab λk e=>e
 have a3:w1.grownBy w4 own:=by rw[G];exact Qo H3.g ab
 have b2:((n<=12∨Srt [] (ps.map (·.2)))->Va [] (ps.map (·.2)) (y.map (·.2))):=λe=>by
  have h1:=Jnf (ay e);rw[<-ac]at h1;exact⟨h1.1,λx=>(h1.2 x).trans ((H3.p.map (·.2)).mem_iff)⟩
 generalize hm:y.length=m at *
 refine ρ ?_;refine ci (λh=>?_) (λh=>?_)
 .have b3:65536<m:=by have:=oT h;omega
  refine ρ ?_;refine bld (Jkd _) ?_;refine ρ ?_;refine stb ae ?_ Yk;intro w5 a4 D b5;refine ρ ?_;refine Xr a4 ⟨?_,_,11,rfl,⟨0,none,0,0,rfl⟩,λe=>(by omega),λe=>(by cases e)⟩;have g1:=Qo (Xx a2 own) a3;rw[<-G];exact⟨D.os.trans g1.os,D.tape.trans g1.tape,D.output.trans g1.output,Nat.le_trans g1.size D.size,λk hk hn=>(D.block k (nM hk g1.size) (λe=>by injection e with e;omega)).trans (g1.block k hk hn)⟩
 have b6:m<=65536:=by grind
 clear h;obtain⟨N',a7⟩:∃ N':Nat->Prop,N'=λk=>k<w1.heap.size∨own=some k:=⟨_,rfl⟩;have an:(Value.slice A m c).ownBlock=own:=by grind [ownB]
 refine ρ ?_;refine Qq (fun (k:Nat) (U:List Pr)=>[(0,.int .i64 (ar:Int)),(1,.slice A m c),(4,.pointer (some ⟨b,0,none⟩)),(19,.int .i64 (m:Int)),(20,.int .i64 (k:Int))])
  (λk U w'=>k<=m/\U.length=k/\U.map (·.2)=(y.take k).map (·.2)/\Dat w' base (.slice A m c) (U++y.drop k)/\(∀ p∈U,Off N' w' (λu=>RowV u p.1 p.2))/\(∀ p∈y,Off (one own) w' (λu=>RowV u p.1 p.2))/\Blk w' b 80 [.int .i64 0,.slice none 0 0]/\w1.grownBy w' own) (λk _=>m-k) 0 [] sB
  ⟨Nat.zero_le _,rfl,rfl,by simpa using aq,λp Z=>(by cases Z),ah,ae,a3⟩ ?_
 clear aq ah ae a3;rintro k U w5 ⟨hk,ak,aj,O,a8,ag,a4,D⟩;refine ρ ?_;have J:(U++y.drop k).length=m:=by simp;omega
 refine ci (λh=>?_) (λh=>?_)
 .have lk:k<m:=by have:=oT h;omega
  have ap:(U++y.drop k).getD k z0=y.getD k z0:=by grind
  have ao:y.getD k z0∈y:=Yc hm lk;refine ρ ?_;refine ix k (O.rd J) lk ?_;refine ρ ?_;refine ld (O.cell J lk) ?_;rw[ap];refine ρ ?_;refine cl (Qdc (ag _ ao).here N' (λj hj=>?_)) ?_
  .subst a7;rcases hj with h'|h'
   .exact nM h' D.size
   exact nM (a6 j h') (nL a2.size D.size)
  rintro v6 w6 ⟨a9,a1⟩;have ad:=O.ext a1;obtain⟨s1,s2,s3⟩:=ad.store J lk (p:=(v6,(y.getD k z0).2)) a9.v.one;refine ρ ?_;refine ix k (ad.rd J) lk ?_;refine ρ ?_;refine sto (ad.cell J lk) s1 ?_ (hv:=a9.v.one);refine ρ ?_;have e:(U++y.drop k).set k (v6,(y.getD k z0).2)=(U++[(v6,(y.getD k z0).2)])++y.drop (k+1):=by
   rw[List.set_append_right _ _ om,ak,Nat.sub_self,List.drop_eq_getElem_cons om,List.set_cons_zero,List.append_assoc];rfl
  rw[e]at s2;rw[an]at s3;refine Ja (k+1) (U++[(v6,(y.getD k z0).2)]) sO ⟨om,by simp[ak],?_,s2,λp Z=>?_,λp Z=>?_,?_,?_⟩ om
  .grind [Xj,z0]
  .rcases List.mem_append.1 Z with h'|h'
   .exact((a8 p h').ext a1).grown s3 (λk e=>by rw[a7];exact .inr e)
   rw[List.mem_singleton.1 h'];exact a9.off.grown s3 (λk e=>by rw[a7];exact .inr e)
  .exact((ag p Z).ext a1).grown s3 (λk e=>e)
  .have h7:=a4.ext a1;refine h7.grown s3 ?_;grind
  exact Qo D (Qo (Xx a1 _) s3)
 have e:k=m:=by have:=oF h;omega
 subst e;rw[List.drop_of_length_le om,List.append_nil]at O J;rw[List.take_of_length_le om]at aj;refine ρ ?_;refine bld (Qfg (ar:Int) A k c _) ?_;refine ρ ?_;refine stb a4 ?_ (Yk (z:=(ar:Int)) (A:=A) (n:=k) (c:=c));intro w7 b1 hg7 b4;refine ρ ?_;have b9:N' b:=by rw[a7];exact .inl hB.lt
 have az:Dat w7 base (.slice A k c) U:=⟨O.1.kept hg7 (.inr (λe=>a4.ne_own O.1 rfl e.symm)),O.2⟩;have am:=Qjm (N:=λj=>j<w.heap.size/\own≠some j) az J om om (λj ej hj=>hj.2 (by rw[<-ej,an])) (λp Z=>((a8 p Z).grown hg7 (λj ej=>by grind)).mono λj _ hj=>by grind);refine Xr b1 ⟨?_,_,0,rfl,⟨_,_,_,_,rfl⟩,λ_=>rfl,λ_=>⟨U.map (·.2),?_,by rw[List.length_map];omega,?_,?_⟩⟩
 .have g1:=Qo (Xx a2 own) D;rw[<-G];exact⟨hg7.os.trans g1.os,hg7.tape.trans g1.tape,hg7.output.trans g1.output,Nat.le_trans g1.size hg7.size,λj hj hn=>(hg7.block j (nM hj g1.size) (λe=>by injection e with e;omega)).trans (g1.block j hj hn)⟩
 .rw[<-G];exact am.imp λu hu=>⟨_,rfl,hu⟩
 .intro x hx;rw[aj,ac]at hx;have:x∈q.map (·.2):=by grind
  exact(H3.p.map (·.2)).mem_iff.1 this
 repeat grind
open Go.RowKit Pl Go.Wk
variable {b c n:Nat}{a w w':World}
theorem Qdm(w:World): (Instr.buildSlice 78 0 #[]).run Tryz.prog w=.ok (.slice (some ⟨w.heap.size,0,none⟩) 0 0) (w.alloc (.cells [].toArray 85)):=kr
theorem Qdb{A:Option Addr}{ps:List Pr}(hR:Rd w 1 A n (ps.map (·.1)))(hn:ps.length=n)(hmx:n<=1100000)(h1:∀ p∈ps,p.1.oneCell'=true):
  Ret Tryz.prog 79 [.slice A n c] w λv' w'=>Ext w w'/\∃ B d,v'=.slice B n d/\n<=d/\Dat w' w.heap.size (.slice B n d) ps:=by
 refine Jz Tryz.func79 Tryz.ntmps79 rfl kr rfl ?_;refine ρ ?_;refine snil ?_;refine ρ ?_;refine ci (λh=>?_) (λh=>?_)
 .have Z:A=none:=by simpa using h
  subst Z;have G:n=0:=by
   rcases Nat.eq_zero_or_pos n with h0|h0
   .exact h0
   obtain⟨ad,h2,_⟩:=hR.isome h0 om;cases h2
  subst G;obtain rfl:=List.eq_nil_of_length_eq_zero hn;refine ρ ?_;exact Jq ⟨Ext.refl w,none,0,rfl,Nat.le_refl _,⟨Zg _ _ _ _,λp U=>by cases U⟩⟩
 refine ρ ?_;refine bsl Qdm ?_;intro w1 b j O J;refine ρ ?_;refine apo j ER (J.own (n:=0) O rfl (Nat.zero_le _)) (hR.ext j) (λu hu=>by grind) (by unfold maxLen;omega) om ?_;intro v2 w2 i D _ _;obtain⟨A2,c2,rfl,y,hf⟩:=Jf i;refine ρ ?_;rw[Nat.zero_add]at i y ⊢;refine Jq ⟨D,A2,c2,rfl,y,⟨?_,h1⟩⟩;rw[hn];exact i
theorem Qvr(hx:Ext a w)(hg:w.grownBy w' (some b))(hb:a.heap.size<=b): Ext a w':=by grind [Jt]
open Go.RowKit Pl Go.Wk
variable {cs:List Nat}{ls:List Row}{ar i k:Nat}{v:Value}{w:World}
theorem Jfj: ∀(q:Row) (i:Nat) (x:V),i<q.length->Qz (q.set i x)=(Qz q).take (i*3)++x.cells++(Qz q).drop (i*3+3)
 | [],i,x,h=>by simp at h
 | v::q,0,x,_=>by
  have e:Qz (v::q)=v.cells++Qz q:=by simp[Qz]
  have e2:Qz (x::q)=x.cells++Qz q:=by simp[Qz]
  rw[List.set_cons_zero,e,e2,Nat.zero_mul,List.take_zero,List.nil_append,Nat.zero_add];congr 1
 | v::q,i+1,x,h=>by
  have ih:=Jfj q i x (by simpa using h);have e:Qz (v::q)=v.cells++Qz q:=by simp[Qz]
  have e2:Qz (v::q.set i x)=v.cells++Qz (q.set i x):=by simp[Qz]
  have hl:v.cells.length=3:=rfl;rw[List.set_cons_succ,e,e2,ih];have e3:(v.cells++Qz q).take ((i+1)*3)=v.cells++(Qz q).take (i*3):=by grind [List.take_append,List.take_of_length_le]
  grind [Qz,List.drop_append,List.drop_of_length_le,List.append_assoc]
theorem Qjr(n:Nat): (madeCells (Value.agg #[.int .i64 0,.int .i64 0,.string ⟨#[]⟩]).cells (n*3)).toList=Qz (List.replicate n V0):=by
 apply List.ext_getElem?
 intro k;have j:(Value.agg #[.int .i64 0,.int .i64 0,.string ⟨#[]⟩]).cells = #[.int .i64 0,.int .i64 0,.string ⟨#[]⟩]:=rfl;rw[j];by_cases hk:k<n*3
 .have i:=Jwv (List.replicate n V0) (k / 3) (k % 3) (by simp;omega) om;rw[show k / 3*3+k % 3=k by omega]at i;rw[i];have e:(List.replicate n V0).getD (k / 3) V0=V0:=by grind
  rw[e];have u:k % 3<3:=om
  simp only[madeCells,Array.getElem?_toList,Array.getElem?_map,Array.getElem?_range,hk,if_true,Option.map_some];generalize k % 3=r at *
  have:r=0∨r=1∨r=2:=om
  rcases this with rfl|rfl|rfl<;>rfl
 rw[List.getElem?_eq_none (by simp[madeCells];omega),List.getElem?_eq_none (by grind [Jfk])]
def Jl(zs:List Int): List Value:=zs.map (Value.int .i64)
def IntsV(w:World)(v:Value)(zs:List Int): Prop:=∃ A c,v=.slice A zs.length c/\zs.length<=c/\zs.length<=1100000/\Rd w 1 A zs.length (Jl zs)
theorem IntsV.ext{w w':World}{v:Value}{zs:List Int}(h:IntsV w v zs)(hx:Ext w w'): IntsV w' v zs:=by obtain⟨A,c,y,u,j,i⟩:=h;exact⟨A,c,y,u,j,i.ext hx⟩
theorem Ze{zs:List Int}(h:i<zs.length): (Jl zs)[i]?=some (.int .i64 (zs.getD i 0)):=by simp[Jl,List.getD,List.getElem?_eq_getElem h]
def nz(cs:List Nat): List Int:=cs.map fun (c:Nat)=>(c:Int)
theorem Xq(h:i<cs.length): (Jl (nz cs))[i]?=some (.int .i64 (cs.getD i 0:Int)):=by simp[Jl,nz,List.getD,List.getElem?_eq_getElem h]
theorem Jgt(cs:List Nat): (nz cs).length=cs.length:=by simp[nz]
def pmR(cs:List Nat)(r:Row): Row:=cs.map λc=>r.getD c V0
abbrev Iy(w:World)(base:Nat)(v:Value)(q:Row): Prop:=w.ownsRow base 102 3 v q.length (Qz q)
theorem Yz(cs:List Nat)(r:Row): (pmR cs r).length=cs.length:=by simp[pmR]
theorem Jgc{r:Row}(hk:k<cs.length): (pmR cs r).getD k V0=r.getD (cs.getD k 0) V0:=by grind [Xf,V0,pmR]
theorem Jxg(h:RelV w v ar ls): Ret Tryz.prog 30 [v] w λu w'=>u=.int .i64 (ls.length:Int)/\Ext w w':=by
 obtain⟨J,rfl,ps,A,c,rfl,rfl,D,B,U,y⟩:=h;refine Jz Tryz.func30 Tryz.ntmps30 rfl kr rfl ?_;refine ρ ?_;refine bx ?_;intro w1 b j O G;refine ρ ?_;refine ld (G.at (i:=1) rfl) ?_;refine ρ ?_;exact Jq ⟨by rw[List.length_map],j⟩
theorem Qqb(h:RelV w v ar ls): Ret Tryz.prog 84 [v] w λu w'=>u=.int .i64 (ar:Int)/\Ext w w':=by
 obtain⟨J,rfl,ps,A,c,rfl,rfl,D,B,U,y⟩:=h;refine Jz Tryz.func84 Tryz.ntmps84 rfl kr rfl ?_;refine ρ ?_;refine bx ?_;intro w1 b j O G;refine ρ ?_;refine ld (G.at (i:=0) rfl) ?_;refine ρ ?_;exact Jq ⟨rfl,j⟩
open Go.RowKit Pl Go.Wk
variable {m n:Int}{B B0:Nat}{w w':World}
def fibT: List Int:=[1,2,3,5,8,13,21,34,55,89,144,233,377,610,987,1597,2584,4181,6765,10946,17711,28657,46368,75025,121393,196418,317811,514229,832040,1346269,2178309,3524578,5702887,9227465,14930352,24157817,39088169,63245986,102334155,165580141,267914296,433494437,701408733,1134903170,1836311903,2971215073,4807526976,7778742049,12586269025,20365011074,32951280099,53316291173,86267571272,139583862445,225851433717,365435296162,591286729879,956722026041,1548008755920,2504730781961,4052739537881,6557470319842,10610209857723,17167680177565,27777890035288,44945570212853,72723460248141,117669030460994,190392490709135,308061521170129,498454011879264,806515533049393,1304969544928657,2111485077978050,3416454622906707,5527939700884757,8944394323791464,14472334024676221,23416728348467685,37889062373143906,61305790721611591,99194853094755497,160500643816367088,259695496911122585,420196140727489673,679891637638612258,1100087778366101931,1779979416004714189,2880067194370816120,4660046610375530309,7540113804746346429]
def fbS(p:Int×Int): Int×Int:=(p.2,IntKind.i64.wrap (p.1+p.2))
def fbN: Nat->Int×Int
 | 0=>(0,1)
 | n+1=>fbS (fbN n)
theorem Qyf: ∀ h<91,fibT.getD h 0=(fbN (h+2)).1:=by decide +kernel
theorem Jmg: ∀ h<91,0<fibT.getD h 0/\fibT.getD h 0<=9223372036854775807:=by decide +kernel
def Zm(n:Int): Nat->Nat->Nat
 | 0,h=>h
 | f+1,h=>if fibT.getD (h+1) 0-1<=n then Zm n f (h+1) else h
def hgt(n:Int): Nat:=Zm n 90 0
theorem Jyj(n:Int): ∀ f h,h<=Zm n f h/\Zm n f h<=h+f
 | 0,h=>⟨Nat.le_refl _,Nat.le_refl _⟩
 | f+1,h=>by
  have:=Jyj n f (h+1);unfold Zm;split<;>omega
theorem Jll{n m:Int}(h:n<=m): ∀ f k,Zm n f k<=Zm m f k
 | 0,k=>Nat.le_refl _
 | f+1,k=>by
  have h1:=Jll h f (k+1);have h2:=(Jyj m f (k+1)).1;unfold Zm;split
  .rw[if_pos om];exact h1
  split<;>omega
theorem Jlk(n:Int): hgt n<=90:=by have:=(Jyj n 90 0).2;simpa [hgt] using this
theorem Jlj(h:n<=m): hgt n<=hgt m:=Jll h 90 0
theorem Qvk(h:n<=0): hgt n=0:=by
 have:=Jlj (n:=n) (m:=0) h;have e:hgt 0=0:=by decide +kernel
 omega
structure FB(B0:Nat)(w:World): Prop where
 le:B0<=w.heap.size
 tab:Lib.TabBelow Tryz.prog B0 w "ordinal/cost.fibonacci" .i64 fibT
theorem FB.below(h:FB B0 w)(hb:Below B w w')(hle:B0<=B): FB B0 w':=⟨nL h.le hb.size,h.tab.on (hb.mono hle)⟩
theorem FB.ext(h:FB B0 w)(hx:Ext w w'): FB B0 w':=h.below hx h.le
theorem gFib: Tryz.prog.globalNamed "ordinal/cost.fibonacci" = some 0:=kr
theorem FB.cell{B0:Nat}{w:World}(h:FB B0 w){i:Nat}(hi:i<91): w.cell? ((⟨0,0,none⟩:Addr).add i)=some (.int .i64 (fibT.getD i 0)):=by
 have j:=h.tab.here.cell gFib i (by show i<91;exact hi);have e:(⟨0,0,none⟩:Addr).add i=⟨0,i,none⟩:=by simp[Addr.add];omega
 rw[e];exact j
theorem Jqb(hT:FB B0 w)(n:Int): Ret Tryz.prog 11 [.int .i64 n] w λu w'=>u=.int .i64 (hgt n:Int)/\Ext w w':=by
 refine Jz Tryz.func11 Tryz.ntmps11 rfl kr rfl ?_;refine ρ ?_;refine Jp (fun (k:Nat)=>[(0,.int .i64 n),(3,.int .i64 (k:Int))]) (λk w'=>k<=90/\w'=w/\hgt n=Zm n (90-k) k) (λk=>90-k) 0 sB ⟨Nat.zero_le _,rfl,rfl⟩ ?_;rintro k w2 ⟨y,rfl,j⟩;refine ρ ?_;have G:IntKind.i64.wrap ((k:Int)+1)=((k+1:Nat):Int):=Zl ⟨om,om⟩;by_cases lk:k<90
 case neg=>
  obtain rfl:k=90:=om
  refine kf 7 ?_ ?_
  .exact dF om
  refine ρ ?_;exact Jq ⟨by rw[j],Ext.refl _⟩
 refine kt 7 ?_ ?_
 .exact decide_eq_true om
 have B:=Jmg (k+1) om;have D:IntKind.i64.wrap (fibT.getD (k+1) 0-1)=fibT.getD (k+1) 0-1:=Zl ⟨om,om⟩;have i:90-k=(90-(k+1))+1:=om
 rw[i]at j;refine ρ ?_;refine ixa (k+1) (hlt:=Nat.ble_eq_true_of_le (show k+1+1<=91 by omega)) ?_;refine ρ ?_;refine ld (show w2.cell? ((⟨0,0,none⟩:Addr).add ((k+1)*1))=some (.int .i64 (fibT.getD (k+1) 0)) by rw[Nat.mul_one];exact hT.cell om) ?_;refine ρ ?_;refine ci (λh=>?_) (λh=>?_)
 .have h:=oT h;refine ρ ?_;refine Jh (k+1) sB ⟨lk,rfl,?_⟩ om;rw[j,Zm,if_pos om]
 have h:=oF h;refine ρ ?_;exact Jq ⟨by rw[j,Zm,if_neg om],Ext.refl _⟩
theorem Qqk(n:Nat)(hn:n<=1000)(w:World): Ret Tryz.prog 38 [.int .i64 (n:Int)] w λu w'=>u=.int .i64 (fbN n).1/\Ext w w':=by
 refine Jz Tryz.func38 Tryz.ntmps38 rfl kr rfl ?_;refine ρ ?_;refine Jp (fun (k:Nat)=>[(0,.int .i64 ((n-k:Nat):Int)),(3,.int .i64 (fbN k).1),(4,.int .i64 (fbN k).2)]) (λk w'=>k<=n/\w'=w) (λk=>n-k) 0 sB ⟨Nat.zero_le _,rfl⟩ ?_;rintro k w2 ⟨i,rfl⟩;refine ρ ?_;refine ci (λh=>?_) (λh=>?_)
 .have h:=oT h;refine ρ ?_;refine Jh (k+1) sO ⟨om,rfl⟩ om
 have h:=oF h;obtain rfl:k=n:=om
 refine ρ ?_;exact Jq ⟨rfl,Ext.refl _⟩
open Go.RowKit Pl Go.Wk
variable {zs:List Int}{cs ls:List Nat}{B0 k m:Nat}{v:Value}{w:World}
theorem Jfr(n:Int)(w:World): Ret Tryz.prog 12 [.int .i64 n] w λu w'=>u=.int .i64 (hgt n:Int)/\Ext w w':=by
 refine Jz Tryz.func12 Tryz.ntmps12 rfl kr rfl ?_;refine ρ ?_;refine ci (λh=>?_) (λh=>?_)
 .have h:=oT h;refine ρ ?_;exact Jq ⟨by rw[Qvk h],Ext.refl _⟩
 refine ρ ?_;refine Jp (fun (k:Nat)=>[(0,.int .i64 n),(3,.int .i64 (k:Int))]) (λk w'=>k<=90/\Ext w w'/\hgt n=Zm n (90-k) k) (λk=>90-k) 0 sB ⟨Nat.zero_le _,Ext.refl _,rfl⟩ ?_;rintro k w2 ⟨G,B,y⟩;refine ρ ?_;by_cases lk:k<90
 case neg=>
  obtain rfl:k=90:=om
  refine kf 8 ?_ ?_
  .exact dF om
  refine ρ ?_;exact Jq ⟨by rw[y],B⟩
 refine kt 8 ?_ ?_
 .exact decide_eq_true om
 have i:90-k=(90-(k+1))+1:=om
 rw[i]at y;refine ρ ?_;refine kv 10 (congrArg (Value.int .i64) (show(k:Int)+3=((k+3:Nat):Int) by omega)) ?_;refine cl (Qqk (k+3) om w2) ?_;rintro u D ⟨rfl,j⟩;rw[show k+3=(k+1)+2 by omega,<-Qyf (k+1) om];have J:=Jmg (k+1) om;refine ρ ?_;refine ci (λh=>?_) (λh=>?_)
 .have h:=oT h;refine ρ ?_;refine Jh (k+1) sO ⟨lk,B.trans j,?_⟩ om;rw[y,Zm,if_pos om]
 have h:=oF h;refine ρ ?_;exact Jq ⟨by rw[y,Zm,if_neg om],B.trans j⟩
theorem Jdj(h:k<ls.length): (ls.take (k+1)).sum=(ls.take k).sum+ls.getD k 0:=by
 rw[Xj 0 h];simp
theorem Jqw(h:∀ c∈ls,c<=m)(k:Nat): (ls.take k).sum<=ls.length*m:=by
 induction ls generalizing k with
 | nil=>simp
 | cons a r ih=>
  cases k with
  | zero=>simp
  | succ k=>
   have u:=ih (λc i=>h c (List.mem_cons_of_mem _ i)) k;have j:=h a (mC ..);simp only[List.take_succ_cons,List.sum_cons,List.length_cons,Nat.add_mul,Nat.one_mul];omega
def hgS(zs:List Int): Nat:=(zs.map hgt).sum
theorem Qbt(hv:IntsV w v (nz cs))(hb:∀ c∈cs,c<=1000): Ret Tryz.prog 39 [v] w λu w'=>u=.int .i64 (cs.sum:Int)/\Ext w w':=by
 obtain⟨D,d,O,Z,y,B⟩:=id hv;subst O;have i:(nz cs).length=cs.length:=by simp[nz]
 rw[i]at B y;refine Jz Tryz.func39 Tryz.ntmps39 rfl kr rfl ?_;rw[i];refine ρ ?_;refine Jp (fun (k:Nat)=>[(3,.int .i64 ((cs.take k).sum:Int)),(6,.slice D cs.length d),(7,.int .i64 (cs.length:Int)),(8,.int .i64 (k:Int))]) (λk w'=>k<=cs.length/\w'=w) (λk=>cs.length-k) 0 sB ⟨Nat.zero_le _,rfl⟩ ?_;rintro k w2 ⟨U,rfl⟩;have J:=Jqw hb k;have G:=Jqw hb (k+1);refine ρ ?_;refine ci (λh=>?_) (λh=>?_)
 .have lk:k<cs.length:=by have:=oT h;omega
  clear h;have e:=Jdj lk;refine ρ ?_;refine ix k B lk ?_;refine ρ ?_;refine ld (B.cell (Xq lk)) ?_;refine ρ ?_;refine Jh (k+1) ?_ ⟨lk,rfl⟩ om;rw[e];exact sO
 have j:k=cs.length:=by have:=oF h;omega
 subst j;rw[List.take_length]at *;refine ρ ?_;exact Jq ⟨rfl,Ext.refl _⟩
theorem Jpb(hT:FB B0 w)(hv:IntsV w v zs): Ret Tryz.prog 13 [v] w λu w'=>u=.int .i64 (hgS zs:Int)/\Ext w w':=by
 obtain⟨D,d,e1,hd,a5,hD⟩:=id hv;subst e1;refine Jz Tryz.func13 Tryz.ntmps13 rfl kr rfl ?_;refine ρ ?_;refine mkn EI zs.length om (by unfold maxLen;omega) ?_;intro w1 B a1 O a4;have e0:(madeCells (Value.int .i64 0).cells (zs.length*1)).toList=Jl (nz (List.replicate zs.length 0)):=by
  rw[Nat.mul_one];refine(Yv _ _).trans ?_;simp[Jl,nz]
 rw[e0]at O;refine ρ ?_;refine Qq (fun (k:Nat) (_:List Nat)=>[(0,.slice D zs.length d),(3,.slice B zs.length zs.length),(9,.slice D zs.length d),(10,.int .i64 (zs.length:Int)),(11,.int .i64 (k:Int))])
  (λk ls w'=>k<=zs.length/\ls.length=zs.length/\(∀ j,j<k->ls[j]?=some (hgt (zs.getD j 0)))/\w'.ownsRow w.heap.size 3 1 (.slice B zs.length zs.length) zs.length (Jl (nz ls))/\Ext w w') (λk _=>zs.length-k) 0 (List.replicate zs.length 0) sB
  ⟨Nat.zero_le _,by simp,λj hj=>absurd hj (Nat.not_lt_zero j),O,a1⟩ ?_
 rintro k ls w2 ⟨hk,Z,U,J,i⟩;refine ρ ?_;refine ci (λh=>?_) (λh=>?_)
 .have lk:k<zs.length:=by have:=oT h;omega
  clear h;refine ρ ?_;refine ix k (hD.ext i) lk ?_;refine ρ ?_;refine ld ((hD.ext i).cell (Ze lk)) ?_;refine ρ ?_;refine cl (Jqb (hT.ext i) _) ?_;rintro u w3 ⟨rfl,y⟩;have G:=Ju J y;obtain⟨s1,s2,s3,s4,s5⟩:=Zk G (q:=k) om (.int .i64 ((hgt (zs.getD k 0):Nat):Int));have a2:(Jl (nz ls))[k]?=some (.int .i64 (ls.getD k 0:Int)):=Xq om;have es:(Jl (nz ls)).set k (.int .i64 ((hgt (zs.getD k 0):Nat):Int))=Jl (nz (ls.set k (hgt (zs.getD k 0)))):=by simp[Jl,nz,List.map_set]
  rw[es]at s3;refine ρ ?_;refine ix k (Rd.own G) lk ?_;refine ρ ?_;refine sto (s1.trans a2) s2 ?_;refine ρ ?_;refine Ja (k+1) (ls.set k (hgt (zs.getD k 0))) sO ⟨lk,by simp[Z],λj hj=>?_,s3,Jt (i.trans y) s5 λg hg=>?_⟩ om;repeat grind [List.getElem?_set_self,List.getElem?_set_ne,Jf]
 have a3:k=zs.length:=by grind
 have e:ls=zs.map hgt:=by
  refine List.ext_getElem? λj=>?_;by_cases lj:j<zs.length
  .rw[U j om,List.getElem?_map,List.getElem?_eq_getElem lj,List.getD,List.getElem?_eq_getElem lj];rfl
  rw[List.getElem?_eq_none om,List.getElem?_eq_none (by simp;omega)]
 subst e;refine ρ ?_;refine cl (Qbt (v:=.slice B zs.length zs.length) (cs:=zs.map hgt) ⟨B,zs.length,by simp[nz],by simp[nz],by simp[nz];omega,by simpa [nz] using Rd.own J⟩ λc hc=>?_) ?_
 .obtain⟨z,_,rfl⟩:=List.mem_map.1 hc;have:=Jlk z;omega
 rintro u w3 ⟨rfl,y⟩;refine ρ ?_;exact Jq ⟨rfl,i.trans y⟩
theorem Qql(hv:IntsV w v zs): Ret Tryz.prog 14 [v] w λu w'=>u=.int .i64 (hgS zs:Int)/\Ext w w':=by
 obtain⟨D,d,e1,hd,Z,U⟩:=id hv;subst e1;refine Jz Tryz.func14 Tryz.ntmps14 rfl kr rfl ?_;refine ρ ?_;have j:(zs.map hgt).length=zs.length:=List.length_map ..;have O:∀ c∈zs.map hgt,c<=1000:=λc hc=>by
  obtain⟨z,_,rfl⟩:=List.mem_map.1 hc;have:=Jlk z;omega
 refine Jp (fun (k:Nat)=>[(0,.slice D zs.length d),(3,.int .i64 (((zs.map hgt).take k).sum:Int)),(4,.int .i64 (k:Int))]) (λk w'=>k<=zs.length/\Ext w w') (λk=>zs.length-k) 0 sB ⟨Nat.zero_le _,Ext.refl _⟩ ?_;rintro k w2 ⟨hk,i⟩;have J:=Jqw O k;have G:=Jqw O (k+1);rw[j]at J G;refine ρ ?_;refine ci (λh=>?_) (λh=>?_)
 .have lk:k<zs.length:=by have:=oT h;omega
  clear h;have e:=Jdj (ls:=zs.map hgt) (k:=k) om;have eg:(zs.map hgt).getD k 0=hgt (zs.getD k 0):=by simp[List.getD,List.getElem?_eq_getElem lk]
  rw[eg]at e;refine ρ ?_;refine ix k (U.ext i) lk ?_;refine ρ ?_;refine ld ((U.ext i).cell (Ze lk)) ?_;refine ρ ?_;refine cl (Jfr _ w2) ?_;rintro u w3 ⟨rfl,y⟩;refine ρ ?_;refine Jh (k+1) ?_ ⟨lk,i.trans y⟩ om;rw[e];exact sO
 have B:k=zs.length:=by have:=oF h;omega
 subst B;have et:(zs.map hgt).take zs.length=zs.map hgt:=by rw[<-j,List.take_length]
 rw[et];refine ρ ?_;exact Jq ⟨rfl,i⟩
open Go.RowKit Pl Go.Wk
theorem Qcb{B0:Nat}{w:World}(hT:FB B0 w){v:Value}{zs:List Int}(hv:∃ D d,v=.slice D zs.length d/\zs.length<=d/\Rd w 1 D zs.length (Jl zs))(hz:∀ z∈zs,-9223372036854775808<=z)(aw:∀ {w'},Ext w w'->Ret Tryz.prog 10 [] w' λu w'=>u=.bool true/\Ext w w'):
  Ret Tryz.prog 3 [v] w λu w'=>u=.bool true/\Ext w w':=by
 obtain⟨D,d,e1,hd,G⟩:=hv;subst e1;refine Jz Tryz.func3 Tryz.ntmps3 rfl kr rfl ?_;refine ρ ?_;refine ci (λh=>?_) (λh=>?_)
 .refine ρ ?_;refine cl (aw (Ext.refl w)) ?_;rintro u w2 ⟨rfl,j⟩;refine ρ ?_;exact Jq ⟨rfl,j⟩
 have hl:zs.length<=40:=by have:=oF h;omega
 have hv:IntsV w (.slice D zs.length d) zs:=⟨D,d,rfl,hd,om,G⟩;clear h;refine ρ ?_;refine Jp (fun (k:Nat)=>[(0,.slice D zs.length d),(3,.int .i64 (k:Int))]) (λk w'=>k<=zs.length/\Ext w w') (λk=>zs.length-k) 0 sB ⟨Nat.zero_le _,Ext.refl _⟩ ?_;rintro k w2 ⟨hk,j⟩;refine ρ ?_;refine ci (λh=>?_) (λh=>?_)
 .have lk:k<zs.length:=by have:=oT h;omega
  clear h;have a1:=hz _ (getD_mem' 0 zs lk);refine ρ ?_;refine ix k (G.ext j) lk ?_;refine ρ ?_;refine ld ((G.ext j).cell (Ze lk)) ?_;refine ρ ?_;refine cl (Jqb (hT.ext j) _) ?_;rintro u U ⟨rfl,B⟩;have y:=j.trans B;refine ρ ?_;refine ix k (G.ext y) lk ?_;refine ρ ?_;refine ld ((G.ext y).cell (Ze lk)) ?_;refine ρ ?_;refine cl (Jfr _ U) ?_;rintro u w4 ⟨rfl,O⟩;have i:=y.trans O;refine ρ ?_;refine kf 27 ?_ ?_
  .simp
  refine ρ ?_;refine ix k (G.ext i) lk ?_;refine ρ ?_;refine ld ((G.ext i).cell (Ze lk)) ?_;refine ρ ?_;refine ki 33 (λh=>?_) (λh=>?_)
  .have h:=oT h;refine ρ ?_;refine ix k (G.ext i) lk ?_;refine ρ ?_;refine ld ((G.ext i).cell (Ze lk)) ?_;refine ρ ?_;refine cl (Jqb (hT.ext i) _) ?_;rintro u Z ⟨rfl,J⟩;have hm:=Jlj (n:=zs.getD k 0) (m:=zs.getD k 0+1) om;refine ρ ?_;refine cf ?_ ?_
   .exact dF om
   refine ρ ?_;exact Jh (k+1) sO ⟨lk,i.trans J⟩ om
  refine ρ ?_;exact Jh (k+1) sO ⟨lk,i⟩ om
 refine ρ ?_;refine cl (Jpb (hT.ext j) (hv.ext j)) ?_;rintro u U ⟨rfl,B⟩;refine ρ ?_;refine cl (Qql (hv.ext (j.trans B))) ?_;rintro u w4 ⟨rfl,O⟩;refine ρ ?_;refine kt 49 ?_ ?_
 .simp
 refine ρ ?_;refine cl (aw (j.trans (B.trans O))) ?_;rintro u Z ⟨rfl,J⟩;refine ρ ?_;exact Jq ⟨rfl,J⟩
open Go.RowKit Pl Go.Wk
variable {cs:List Nat}{v vc:Value}{w:World}
theorem Qjp{r:Row}(h:RowV w v r)(hc:IntsV w vc (nz cs))(hlt:∀ c∈cs,c<r.length): Ret Tryz.prog 156 [v,vc] w λu w'=>Ext w w'/\∃ x,u=.tuple #[x,.int .i64 0]/\Off (λk=>k<w.heap.size) w' (λy=>RowV y x (pmR cs r)):=by
 obtain⟨A,ac,rfl,af,ae,a8⟩:=h;obtain⟨C,cc,rfl,aa,a9,G⟩:=hc;rw[Jgt]at *;refine Jz Tryz.func156 Tryz.ntmps156 rfl kr rfl ?_;refine ρ ?_;refine Jp (fun (k:Nat)=>[(0,.slice A r.length ac),(1,.slice C cs.length cc),(10,.int .i64 (cs.length:Int)),(11,.int .i64 (k:Int))]) (λk w'=>w'=w/\k<=cs.length) (λk=>cs.length-k) 0 sB ⟨rfl,Nat.zero_le _⟩ ?_;rintro k w' ⟨rfl,hk⟩;refine ρ ?_;refine ci (λh=>?_) (λh=>?_)
 .have lk:k<cs.length:=by have:=oT h;omega
  have ab:=hlt _ (getD_mem' 0 cs lk);refine ρ ?_;refine ix k G lk ?_;refine ρ ?_;refine ld (G.cell (Xq lk)) ?_;refine ρ ?_;refine kf 19 ?_ ?_
  .grind
  refine ρ ?_;refine ix k G lk ?_;refine ρ ?_;refine ld (G.cell (Xq lk)) ?_;refine ρ ?_;refine cf ?_ ?_
  .grind
  refine ρ ?_;exact Jh (k+1) sO ⟨rfl,om⟩ om
 refine ρ ?_;refine mkn EV cs.length om (by unfold maxLen;omega) ?_;intro w4 O a4 a6 hO;rw[Qjr]at a6;have a2:Iy w4 w'.heap.size (.slice O cs.length cs.length) ([]++List.replicate cs.length V0):=by grind
 refine ρ ?_;refine Jp (fun (i:Nat)=>[(0,.slice A r.length ac),(1,.slice C cs.length cc),(7,.slice O cs.length cs.length),(33,.int .i64 (cs.length:Int)),(34,.int .i64 (i:Int))])
  (λi w5=>i<=cs.length/\Ext w' w5/\Iy w5 w'.heap.size (.slice O cs.length cs.length) ((pmR cs r).take i++List.replicate (cs.length-i) V0)) (λi=>cs.length-i) 0 sB
  ⟨Nat.zero_le _,a4,a2⟩ ?_
 rintro i w5 ⟨hi,J,B⟩;have D:((pmR cs r).take i++List.replicate (cs.length-i) V0).length=cs.length:=by simp[Yz];omega
 rw[Iy,D]at B;refine ρ ?_;refine ci (λh0=>?_) (λh0=>?_)
 .have li:i<cs.length:=by have:=oT h0;omega
  have U:=G.ext J;have Z:RdR w5 A r:=Rd.ext a8 J;have lc:=hlt _ (getD_mem' 0 cs li);refine ρ ?_;refine ix i U li ?_;refine ρ ?_;refine ld (U.cell (Xq li)) ?_;refine ρ ?_;refine ixq 3 (cs.getD i 0) Z lc ?_;refine ρ ?_;refine lds (λj u hu=>RdR.cell Z lc hu) ?_;refine ρ ?_;refine ixq 3 i (Rd.own B) li ?_;refine ρ ?_;refine stoE (cs:=(r.getD (cs.getD i 0) V0).cells) B li ?_ (V.one _);intro w6 a5 hg6;have a3:Ext w' w6:=Jt J hg6 (λk hk=>by grind [Jf]);refine ρ ?_;refine Jh (i+1) sO ⟨om,a3,?_⟩ om;have e:((pmR cs r).take i++List.replicate (cs.length-i) V0).set i (r.getD (cs.getD i 0) V0)=(pmR cs r).take (i+1)++List.replicate (cs.length-(i+1)) V0:=by
   have hl:((pmR cs r).take i).length=i:=by simp[Yz];omega
   rw[List.set_append_right _ _ om,hl,Nat.sub_self,show cs.length-i=(cs.length-(i+1))+1 by omega,List.replicate_succ,List.set_cons_zero,List.take_succ_eq_append_getElem (by rw[Yz];omega),List.append_assoc];rw[<-Jgc li,Xf V0 _ (by rw[Yz];omega)];rfl
  have a1:((pmR cs r).take (i+1)++List.replicate (cs.length-(i+1)) V0).length=cs.length:=by grind
  rw[Iy,a1,<-e,Jfj _ _ _ (by rw[D];omega)];exact a5
 have a7:i=cs.length:=by have:=oF h0;omega
 subst a7;rw[Nat.sub_self,List.replicate_zero,List.append_nil,List.take_of_length_le (by rw[Yz];omega)]at B;refine ρ ?_;refine Qs ⟨J,_,rfl,?_⟩;obtain⟨_,_,_,_,hf⟩:=Jf B;intro y hg;refine⟨O,cs.length,by rw[Yz],by rw[Yz];omega,by rw[Yz];omega,?_⟩;rw[RdR,Yz];refine Ug (Rd.own B) hg λ_ ad e=>?_;grind
theorem Qjx{ar:Nat}{ls:List Row}(h:RelV w v ar ls)(hc:IntsV w vc (nz cs))(hlen:∀ r∈ls,r.length=ar)(hlt:∀ c∈cs,c<ar)(h32:cs.length<=32)(hbig:ls.length<=65536):
  Ret Tryz.prog 83 [v,vc] w λu w'=>Ext w w'/\∃ rv,u=.tuple #[rv,.int .i64 0]/\(∃ z B m d,rv=.agg #[.int .i64 z,.slice B m d])/\∃ m,Off (λk=>k<w.heap.size) w' (λx=>RelV x rv cs.length m)/\m.length<=65536/\(∀ x∈m,x∈ls.map (pmR cs))/\((ls.length<=12∨Srt [] (ls.map (pmR cs)))->Va [] (ls.map (pmR cs)) m):=by
 obtain⟨rv,rfl,ps,A,c,rfl,rfl,bb,ay,hR,ah⟩:=h;obtain⟨C,cc,rfl,bd,bc,b4⟩:=id hc;generalize hn:ps.length=n at *
 rw[List.length_map,hn]at hbig;have aa:∀ p∈ps,p.2.length=ar:=by grind
 rw[Jgt]at *;refine Jz Tryz.func83 Tryz.ntmps83 rfl kr rfl ?_;refine ρ ?_;refine bx ?_;intro w1 b1 Z bf ba;refine ρ ?_;refine alc Ux ?_;intro w2 b2 af b5 b9;have a5:=Z.trans af;have a7:=ba.ext af;refine ρ ?_;refine cf ?_ ?_
 .grind
 refine ρ ?_;refine Jp (fun (k:Nat)=>[(1,.slice C cs.length cc),(2,.pointer (some ⟨b1,0,none⟩)),(4,.pointer (some ⟨b2,0,none⟩)),(14,.int .i64 (cs.length:Int)),(15,.int .i64 (k:Int))]) (λk w'=>Ext w2 w'/\k<=cs.length) (λk=>cs.length-k) 0 sB ⟨Ext.refl _,Nat.zero_le _⟩ ?_;rintro k w3 ⟨a3,hk⟩;refine ρ ?_;refine ci (λh=>?_) (λh=>?_)
 .have lk:k<cs.length:=by have:=oT h;omega
  have an:=hlt _ (getD_mem' 0 cs lk);clear h;refine ρ ?_;refine dr [(0,0),(0,1),(0,2),(0,3),(0,4),(0,5),(0,6),(0,7),(0,8),(0,9),(0,10),(0,11),(0,12),(0,13)] kr ?_;have a8:=a3.drew;have D:=b4.ext (a5.trans a8);refine ρd ?_;refine dix k D lk ?_;refine ρd ?_;refine dld (D.cell (Xq lk)) ?_;refine ρd ?_;refine dkf 23 ?_ ?_
  .grind
  refine ρd ?_;refine dix k D lk ?_;refine ρd ?_;refine dld (D.cell (Xq lk)) ?_;refine ρd ?_;refine dld ((a7.ext a8).at (i:=0) rfl) ?_;refine ρd ?_;refine ρ ?_;refine cf ?_ ?_
  .grind
  refine ρ ?_;exact Jh (k+1) sO ⟨a8,om⟩ om
 clear h hk;have J:=a5.trans a3;have a6:=a7.ext a3;refine ρ ?_;refine ld (a6.at (i:=1) rfl) ?_;refine ρ ?_;refine mkn ER n om (by unfold maxLen;omega) ?_;intro w4 O au ak hO;have ac:∀ k,(Value.slice O n n).ownBlock=some k->w3.heap.size<=k/\k<w4.heap.size:=by grind [Jf]
 have b6:Dat w4 w3.heap.size (.slice O n n) ([]++List.replicate n (.slice none 0 0,[])):=by
  refine⟨?_,λp hp=>?_⟩
  .rw[List.nil_append,List.length_replicate,Pr.rep];have e:(madeCells (Value.slice none 0 0).cells (n*1)).toList=List.replicate n (.slice none 0 0):=by rw[Nat.mul_one];exact Yv _ _
   rw[e]at ak;exact ak
  rw[List.nil_append]at hp;rw[(List.mem_replicate.1 hp).2];rfl
 obtain⟨N,hN⟩:∃ N:Nat->Prop,N=λk=>k<w3.heap.size∨(Value.slice O n n).ownBlock=some k:=⟨_,rfl⟩;refine ρ ?_;refine Qq (fun (k:Nat) (G:List Pr)=>[(1,.slice C cs.length cc),(2,.pointer (some ⟨b1,0,none⟩)),(4,.pointer (some ⟨b2,0,none⟩)),(7,.slice O n n),(39,.int .i64 (n:Int)),(40,.int .i64 (k:Int))])
  (λk G w5=>k<=n/\G.length=k/\G.map (·.2)=(ps.take k).map (λp=>pmR cs p.2)/\Ext w3 w5/\w4.heap.size<=w5.heap.size/\Dat w5 w3.heap.size (.slice O n n) (G++List.replicate (n-k) (.slice none 0 0,[]))/\(∀ p∈G,Off N w5 (λu=>RowV u p.1 p.2))) (λk _=>n-k) 0 [] sB
  ⟨Nat.zero_le _,rfl,rfl,au,Nat.le_refl _,b6,λp hp=>(by cases hp)⟩ ?_
 rintro k G w5 ⟨hk,a9,aj,U,ag,a1,ao⟩;have y:=J.trans U;refine ρ ?_;refine ci (λh=>?_) (λh=>?_)
 .have lk:k<n:=by have:=oT h;omega
  have aw:(ps.getD k z0).2.length=ar:=aa _ (Yc hn lk);refine ρ ?_;refine ld ((a6.ext U).at (i:=1) rfl) ?_;refine ρ ?_;refine ix k (hR.ext y) lk ?_;refine ρ ?_;refine ld (Jxh (hR.ext y) hn lk) ?_;refine ρ ?_;refine cl (Qjp ((ah _ (Yc hn lk)).ext y) (hc.ext y) (λc an=>by rw[aw];exact hlt c an)) ?_;rintro u w6 ⟨a2,x,rfl,ai⟩;have ad:=a1.ext a2;have ab:(G++List.replicate (n-k) ((.slice none 0 0,[]):Pr)).length=n:=by simp;omega
  have Z:x.oneCell'=true:=ai.here.one;obtain⟨s1,s2,s3⟩:=ad.store ab lk (p:=(x,pmR cs (ps.getD k z0).2)) Z;refine ρ ?_;refine ix k (ad.rd ab) lk ?_;refine ρ ?_;refine sto (ad.cell ab lk) s1 ?_ (hv:=Z);refine ρ ?_;have e:(G++List.replicate (n-k) ((.slice none 0 0,[]):Pr)).set k (x,pmR cs (ps.getD k z0).2)=(G++[(x,pmR cs (ps.getD k z0).2)])++List.replicate (n-(k+1)) (.slice none 0 0,[]):=by
   rw[show n-k=(n-(k+1))+1 by omega,List.replicate_succ,List.set_append_right _ _ om,a9,Nat.sub_self,List.set_cons_zero,List.append_assoc];rfl
  rw[e]at s2;have ap:∀ j,(Value.slice O n n).ownBlock=some j->N j:=λj ej=>by rw[hN];exact .inr ej
  refine Ja (k+1) (G++[(x,pmR cs (ps.getD k z0).2)]) sO ⟨om,by simp[a9],?_,Jt (U.trans a2) s3 (λj hj=>(ac j hj).1),Nat.le_trans ag (nL a2.size s3.size),s2,λp hp=>?_⟩ om
  .grind [Xj,z0]
  rcases List.mem_append.1 hp with h'|h'
  .exact((ao p h').ext a2).grown s3 ap
  rw[List.mem_singleton.1 h'];refine(ai.mono λj _ hj=>?_).grown s3 ap;rw[hN]at hj;rcases hj with h'|h'
  .exact nM h' U.size
  repeat grind
 have e:k=n:=by have:=oF h;omega
 subst e;rw[Nat.sub_self,List.replicate_zero,List.append_nil]at a1;rw[List.take_of_length_le om]at aj;have az:G.map (·.2)=(ps.map (·.2)).map (pmR cs):=by rw[aj,List.map_map];rfl
 refine ρ ?_;refine cl (Jpc (ar:=cs.length) a1 a9 ay (Nat.le_refl _) (λp hp=>(ao p hp).mono λj _ hj=>by rw[hN];exact .inr hj)) ?_;rintro u w7 ⟨hg7,rv,e,rfl,⟨z,B,m,d',av⟩,am,ax⟩;have he:=am hbig;subst he;have ae:Ext w w7:=Jt y hg7 (λj ej=>nL J.size (ac j ej).1);have a4:=(b9.ext a3).ext U;have b8:=a4.grown hg7 (a4.ne_own a1.1 rfl);subst av;refine ρ ?_;refine stb b8 ?_ (Yk (z:=z) (A:=B) (n:=m) (c:=d'));intro w8 b7 b3 aq;refine ρ ?_;obtain⟨ms,m1,m2,m3,m4⟩:=ax rfl;rw[az]at m3 m4;refine Xr b7 ⟨aq w ae (nL Z.size b5),_,rfl,⟨z,B,m,d',rfl⟩,ms,?_,m2,m3,λhc=>m4 (by grind)⟩;have be:b2<w5.heap.size/\(Value.slice O k k).ownBlock≠some b2:=⟨a4.lt,λe=>a4.ne_own a1.1 rfl e.symm⟩;refine(m1.grown b3 (λj ej=>by grind)).mono λj _ hj=>⟨nM hj y.size,λe=>?_⟩;have:=(ac j e).1;have:=J.size;omega
open Go.RowKit Pl Go.Wk
variable {t:Bool}{n:Int}{bs:List Bool}{c g i j:Nat}{A:Option Addr}{u v:Value}{w:World}
structure Atm where
 vars: List Int
 ar:Nat
 rows:List Row
abbrev V3:= Value×Value×Value
def V3.cells(t:V3): List Value:=[t.1,t.2.1,t.2.2]
def AtV(w:World)(t:V3)(a:Atm): Prop:=IntsV w t.1 a.vars/\t.2.1=.int .i64 (a.ar:Int)/\RowsV w t.2.2 a.rows
theorem AtV.ext{w w':World}{t:V3}{a:Atm}(h:AtV w t a)(hx:Ext w w'): AtV w' t a:=⟨h.1.ext hx,h.2.1,h.2.2.ext hx⟩
theorem AtV.rel{t:V3}{a:Atm}(h:AtV w t a): RelV w (.agg #[t.2.1,t.2.2]) a.ar a.rows:=⟨t.2.2,by rw[h.2.1],h.2.2⟩
theorem AtV.one{t:V3}{a:Atm}(h:AtV w t a): ∀ u∈t.cells,u.oneCell'=true:=by
 obtain⟨⟨A,c,D,_⟩,y,⟨ps,B,d,_,j,_⟩⟩:=h;intro u i;simp only[V3.cells,List.mem_cons,List.not_mem_nil,or_false]at i;rcases i with rfl|rfl|rfl
 .rw[D];rfl
 .rw[y];rfl
 rw[j];rfl
def v30: V3:=(undef,undef,undef)
def a0: Atm:=⟨[],0,[]⟩
abbrev TA:= V3×Atm
def ta0: TA:=(v30,a0)
def atC(ts:List TA): List Value:=ts.flatMap λp=>p.1.cells
theorem Jpq: ∀(r:List TA) (i j:Nat),i<r.length->j<3->(atC r)[i*3+j]?=(r.getD i ta0).1.cells[j]?
 | [],i,j,h,_=>by simp at h
 | v::r,0,j,_,hj=>by
  simp only[atC,List.flatMap_cons,Nat.zero_mul,Nat.zero_add,List.getD_cons_zero];grind [List.getElem?_append_left,V3.cells]
 | v::r,i+1,j,h,hj=>by
  have ih:=Jpq r i j (by simpa using h) hj;grind [atC,List.getD_cons_succ,List.getElem?_append_right,V3.cells]
def AtsV(w:World)(v:Value)(ats:List Atm): Prop:=∃(ts:List TA) (A:Option Addr) (c:Nat),ats=ts.map (·.2)/\v=.slice A ts.length c/\ts.length<=c/\ts.length<=1100000/\Rd w 3 A ts.length (atC ts)/\∀ p∈ts,AtV w p.1 p.2
theorem AtsV.ext{w w':World}{v:Value}{ats:List Atm}(h:AtsV w v ats)(hx:Ext w w'): AtsV w' v ats:=by
 obtain⟨i,A,c,J,G,D,B,y,u⟩:=h;exact⟨i,A,c,J,G,D,B,y.ext hx,λp j=>(u p j).ext hx⟩
theorem Jbr{n:Nat}{ts:List TA}(hR:Rd w 3 A n (atC ts))(hn:ts.length=n)(hi:i<n)(hu:(ts.getD i ta0).1.cells[j]?=some u): w.cell? ((adr A (i*3)).add j)=some u:=by
 have y:j<3:=by grind [List.getElem?_eq_some_iff.1,V3.cells]
 rw[Gu];exact hR.cell (by grind [Jpq])
theorem Jkw{ts:List TA}{n:Nat}(hn:ts.length=n)(hi:i<n): ts.getD i ta0∈ts:=getD_mem' ta0 ts (hn.symm ▸ hi)
def Iv(zs:List Int): Prop:=∀ j,0<j->j<zs.length->zs.getD (j-1) 0<zs.getD j 0
def Uj(n:Int)(a:Atm): Prop:=Iv a.vars/\(∀ v∈a.vars,0<=v/\v<n)/\a.vars.length=a.ar
def chkL(n:Int)(ats:List Atm): Prop:=0<=n/\n<=32/\ats.length<=32/\(∀ a∈ats,Uj n a)/\∀ v:Nat,(v:Int)<n->∃ a∈ats,(v:Int)∈a.vars
theorem Qvd(hR:RdB w A bs)(hm:bs.length<=1100000): Ret Tryz.prog 157 [.slice A bs.length c,.bool t] w λu w'=>w'=w/\∃ z,u=.int .i64 z/\(0<=z↔t∈bs):=by
 refine Jz Tryz.func157 Tryz.ntmps157 rfl kr rfl ?_;refine ρ ?_;refine Jp (fun (k:Nat)=>[(0,.slice A bs.length c),(1,.bool t),(7,.int .i64 (bs.length:Int)),(8,.int .i64 (k:Int))]) (λk w'=>w'=w/\k<=bs.length/\t ∉ bs.take k) (λk=>bs.length-k) 0 sB ⟨rfl,Nat.zero_le _,by simp⟩ ?_;rintro k w' ⟨rfl,i,j⟩;refine ρ ?_;refine ci (λh=>?_) (λh=>?_)
 .have lk:k<bs.length:=by have:=oT h;omega
  refine ρ ?_;refine ix k hR lk ?_;refine ρ ?_;refine ld (RdB.cell hR lk) ?_;refine eqb ?_;refine ρ ?_;refine ci (λh=>?_) (λh=>?_)
  .refine ρ ?_;refine Jq ⟨rfl,(k:Int),rfl,⟨λ_=>?_,λ_=>om⟩⟩;grind
  refine ρ ?_;refine Jh (k+1) sO ⟨rfl,om,?_⟩ om;grind [Xj,lk,List.mem_singleton]
 refine ρ ?_;refine Jq ⟨rfl,-1,rfl,⟨λe=>om,λe=>?_⟩⟩;grind
theorem Qcg(hR:RdB w A bs)(hm:bs.length<=1100000): Ret Tryz.prog 85 [.slice A bs.length c,.bool t] w λu w'=>w'=w/\∃ b:Bool,u=.bool b/\(b=true↔t∈bs):=by
 refine Jz Tryz.func85 Tryz.ntmps85 rfl kr rfl ?_;refine ρ ?_;refine cl (Qvd hR hm) ?_;rintro u w' ⟨rfl,z,rfl,i⟩;refine ρ ?_;exact Jq ⟨rfl,decide (0<=z),rfl,by grind⟩
theorem Blk.at2{t:TypeId}{cs:List Value}(h:Blk w g t cs)(hv:cs[i+j]?=some v): w.cell? ((⟨g,i,none⟩:Addr).add j)=some v:=by rw[Uq,h.cell];exact hv
theorem Jkn: Qm Tryz.prog 82=some (.agg #[.slice none 0 0,.int .i64 0,.slice none 0 0]):=kr
abbrev Vg(w:World)(base:Nat)(v:Value)(bs:List Bool): Prop:=w.ownsRow base 4 1 v bs.length (bs.map Value.bool)
theorem Jbm(h:i<bs.length): (bs.map Value.bool)[i]?=some (.bool (bs.getD i false)):=by grind
theorem Qvt(bs:List Bool)(i k:Nat)(x:Bool)(hi:i<bs.length): (bs.set i x).getD k false=if k=i then x else bs.getD k false:=Jyk false bs i k x hi
open Classical in
noncomputable def atE (n:Int) (a:Atm):Int:=if¬ Iv a.vars then 16 else if¬ (∀ v∈a.vars,0<=v/\v<n) then 3 else if a.vars.length≠a.ar then 6 else 0
theorem atE_ok{a:Atm}: atE n a=0↔Uj n a:=by unfold atE Uj;grind
noncomputable def frE(n:Int): List Atm->Int
 | []=>0
 | a::r=>if atE n a=0 then frE n r else atE n a
open Classical in
noncomputable def lfE (n:Int) (ats:List Atm):Int:=if¬ (0<=n/\n<=32) then 3 else if 32<ats.length then 12 else if frE n ats=0 then(if ∀ v:Nat,(v:Int)<n->∃ a∈ats,(v:Int)∈a.vars then 0 else 22) else frE n ats
theorem Jzq{n:Int}: ∀ {l:List Atm},(∀ a∈l,Uj n a)->frE n l=0
 | [],_=>rfl
 | a::r,h=>by rw[frE,if_pos (atE_ok.2 (h a mC))];exact Jzq λb hb=>h b (List.mem_cons_of_mem _ hb)
theorem Jls{n:Int}: ∀ {l:List Atm},frE n l=0->∀ a∈l,Uj n a
 | [],_,a,ha=>by cases ha
 | b::r,h,a,ha=>by
  rw[frE]at h;by_cases e:atE n b=0
  .rw[if_pos e]at h;rcases List.mem_cons.1 ha with rfl|ha
   .exact atE_ok.1 e
   exact Jls h a ha
  rw[if_neg e]at h;exact absurd h e
theorem Jlt{n:Int}: ∀ {l:List Atm} {i:Nat},(∀ j,j<i->Uj n (l.getD j a0))->i<l.length->atE n (l.getD i a0)≠0->frE n l=atE n (l.getD i a0)
 | [],i,_,h,_=>by simp at h
 | a::r,0,_,_,h=>by rw[frE,if_neg (by simpa using h)];simp
 | a::r,i+1,h,hi,he=>by
  rw[frE,if_pos (atE_ok.2 (by simpa using h 0 om)),List.getD_cons_succ];exact Jlt (λj hj=>by have:=h (j+1) om;rwa [List.getD_cons_succ]at this) (by simpa using hi) (by rwa [List.getD_cons_succ]at he)
theorem Jkx(ts:List TA)(j:Nat): (ts.map (·.2)).getD j a0=(ts.getD j ta0).2:=by
 simp only[List.getD,List.getElem?_map];cases ts[j]?<;>rfl
theorem Qwl{ats:List Atm}: lfE n ats=0↔chkL n ats:=by
 unfold lfE chkL;refine⟨λh=>?_,λ⟨y,u,B,j,i⟩=>?_⟩
 .by_cases c1:0<=n/\n<=32
  .rw[if_neg (λh=>h c1)]at h;by_cases c2:32<ats.length
   .rw[if_pos c2]at h;cases h
   rw[if_neg c2]at h;by_cases c3:frE n ats=0
   .rw[if_pos c3]at h;by_cases c4:∀ v:Nat,(v:Int)<n->∃ a∈ats,(v:Int)∈a.vars
    .exact⟨c1.1,c1.2,om,Jls c3,c4⟩
    rw[if_neg c4]at h;cases h
   rw[if_neg c3]at h;exact absurd h c3
  rw[if_pos c1]at h;cases h
 rw[if_neg (λh=>h ⟨y,u⟩),if_neg om,if_pos (Jzq j),if_pos i]
theorem Qwm{ats:List Atm}(h:AtsV w v ats): Ret Tryz.prog 45 [.int .i64 n,v] w λu w'=>Ext w w'/\u=.int .i64 (lfE n ats):=by
 obtain⟨ts,A,c,rfl,rfl,bj,bi,hR,bo⟩:=h;generalize hm:ts.length=m at *
 refine Jz Tryz.func45 Tryz.ntmps45 rfl kr rfl ?_;refine ρ ?_;refine Uk (fun (t:Bool)=>[(0,.int .i64 n),(1,.slice A m c),(16,.bool t)]) (λt w'=>w'=w/\(t=true↔¬ (0<=n/\n<=32))) ?_ ?_
 .refine ki 13 (λh=>?_) (λh=>?_)
  .refine ρ ?_;exact Jg true sB ⟨rfl,by grind⟩
  refine ρ ?_;refine Jg _ sB ⟨rfl,?_⟩;grind
 rintro t w' ⟨rfl,ht⟩;refine ci (λh=>?_) (λh=>?_)
 .refine ρ ?_;exact Jq ⟨Ext.refl _,congrArg _ (by rw[lfE,if_pos (ht.1 h)])⟩
 have hn:0<=n/\n<=32:=by grind
 obtain⟨ah,ax⟩:=hn;obtain⟨N,rfl⟩:=Int.eq_ofNat_of_zero_le ah;clear h ht;refine ρ ?_;refine ci (λh=>?_) (λh=>?_)
 .refine ρ ?_;have bd:32<(ts.map (·.2)).length:=by rw[List.length_map];have:=oT h;omega
  exact Jq ⟨Ext.refl _,congrArg _ (by rw[lfE,if_neg (λh=>h ⟨ah,ax⟩),if_pos bd])⟩
 have bf:m<=32:=by grind
 clear h;refine ρ ?_;refine mkn EB N om (by unfold maxLen;omega) ?_;intro w1 O b6 aw hO;have av:Vg w1 w'.heap.size (.slice O N N) (List.replicate N false):=by
  rw[Vg,List.length_replicate,List.map_replicate];have e:(madeCells (Value.bool false).cells (N*1)).toList=List.replicate N (Value.bool false):=by rw[Nat.mul_one];exact Yv _ _
  rw[e]at aw;exact aw
 refine ρ ?_;refine Qq (fun (i:Nat) (B:List Bool)=>[(0,.int .i64 (N:Int)),(5,.slice O N N),(22,.slice A m c),(23,.int .i64 (m:Int)),(24,.int .i64 (i:Int))])
  (λi B w2=>i<=m/\Ext w' w2/\B.length=N/\Vg w2 w'.heap.size (.slice O N N) B/\(∀ j,j<i->Uj N (ts.getD j ta0).2)/\∀ v:Nat,v<N->(B.getD v false=true↔∃ j,j<i/\(v:Int)∈(ts.getD j ta0).2.vars)) (λi _=>m-i) 0 (List.replicate N false) sB
  ⟨Nat.zero_le _,b6,by simp,av,λj hj=>om,λv hv=>⟨λe=>by simp[List.getD,hv]at e,λ⟨j,hj,_⟩=>om⟩⟩ ?_
 rintro i B w2 ⟨hi,a9,J,ag,ap,a1⟩;refine ρ ?_;refine ci (λh=>?_) (λh=>?_)
 .have li:i<m:=by have:=oT h;omega
  have b1:=hR.ext a9;obtain⟨t1,t2,t3,a,hp⟩:∃ t1 t2 t3 a,ts.getD i ta0=((t1,t2,t3),a):=⟨_,_,_,_,rfl⟩;have ak:AtV w' (t1,t2,t3) a:=by grind
  have be:a∈ts.map (·.2):=by grind
  clear h;obtain⟨⟨D,d,e1,hd,bn,ay⟩,e2,af⟩:=id ak;simp only at e1 e2;subst e1;subst e2;obtain⟨ps,G,gc,_,ao,_⟩:=id af;simp only at ao;subst ao;refine ρ ?_;refine ixq 3 i b1 li ?_;refine ρ ?_;refine lds (cs:=[.slice D a.vars.length d,.int .i64 (a.ar:Int),.slice G ps.length gc]) (λj u hu=>Jbr b1 hm li (by rw[hp];exact hu)) ?_;refine ρ ?_;refine alc Jkn ?_;intro w3 b b5 hb hB;refine ρ ?_;refine stb hB ?_ ak.one;intro w4 aj bm b4;have ab:Ext w2 w4:=b4 w2 b5 hb;have a3:=a9.trans ab;have au:=Ju ag ab;have ai:∀ z:Int,z≠0->atE N a=z->Value.int .i64 z=.int .i64 (lfE N (ts.map (·.2))):=λz hz e=>by
   have h1:frE N (ts.map (·.2))=z:=by
    have:=Jlt (n:=(N:Int)) (l:=ts.map (·.2)) (i:=i) (λj hj=>by rw[Jkx];exact ap j hj) (by rw[List.length_map];omega) (by rw[Jkx,hp,e];exact hz)
    rw[this,Jkx,hp,e]
   rw[lfE,if_neg (λh=>h ⟨ah,ax⟩),if_neg (by rw[List.length_map];omega),if_neg (by rw[h1];exact hz),h1]
  refine ρ ?_;refine Jp (fun (k:Nat)=>[(0,.int .i64 (N:Int)),(5,.slice O N N),(22,.slice A m c),(23,.int .i64 (m:Int)),(24,.int .i64 (i:Int)),(7,.pointer (some ⟨b,0,none⟩)),(8,.int .i64 (k:Int))])
   (λk w5=>Ext w4 w5/\1<=k/\(k<=a.vars.length∨k=1)/\∀ j,0<j->j<k->a.vars.getD (j-1) 0<a.vars.getD j 0) (λk=>a.vars.length-k) 1 sB ⟨Ext.refl _,Nat.le_refl _,.inr rfl,λj h1 h2=>om⟩ ?_
  rintro k w5 ⟨a8,b9,b8,ad⟩;have aa:=aj.ext a8;refine ρ ?_;refine ld (aa.at (i:=0) rfl) ?_;refine ρ ?_;refine ci (λh=>?_) (λh=>?_)
  .have lk:k<a.vars.length:=by have:=oT h;omega
   have am:k-1<a.vars.length:=om
   clear h;refine ρ ?_;refine dr [(0,0),(0,1),(0,2),(0,3),(0,4),(0,5),(0,6),(0,7),(0,8),(0,9),(0,10),(0,11)] kr ?_;have Z:=a8.drew;have a2:=aj.ext Z;have y:=ay.ext (a3.trans Z);refine ρd ?_;refine dld (a2.at (i:=0) rfl) ?_;refine ρd ?_;refine dix (k-1) y am ?_;refine ρd ?_;refine dld (y.cell (Ze am)) ?_;refine ρd ?_;refine dld (a2.at (i:=0) rfl) ?_;refine ρd ?_;refine dix k y lk ?_;refine ρd ?_;refine dld (y.cell (Ze lk)) ?_;refine ρd ?_;refine ρ ?_;refine ci (λh=>?_) (λh=>?_)
   .refine ρ ?_;refine Jq ⟨a3.trans Z,ai 16 (by decide) ?_⟩;rw[atE,if_pos];intro h1;have:=h1 k om lk;grind
   refine ρ ?_;refine Jh (k+1) sO ⟨Z,om,om,λj h1 h2=>?_⟩ om;grind
  have U:Iv a.vars:=λj h1 h2=>ad j h1 (by grind);clear h ad b9 b8;have an:=a3.trans a8;have aq:=Ju au a8;refine ρ ?_;refine ld (aa.at (i:=0) rfl) ?_;refine ρ ?_;refine Qq (fun (q:Nat) (B:List Bool)=>[(0,.int .i64 (N:Int)),(5,.slice O N N),(22,.slice A m c),(23,.int .i64 (m:Int)),(24,.int .i64 (i:Int)),(7,.pointer (some ⟨b,0,none⟩)),(48,.slice D a.vars.length d),(49,.int .i64 (a.vars.length:Int)),(50,.int .i64 (q:Int))])
   (λq B w6=>q<=a.vars.length/\Ext w' w6/\B.length=N/\Vg w6 w'.heap.size (.slice O N N) B/\Blk w6 b 82 [.slice D a.vars.length d,.int .i64 (a.ar:Int),.slice G ps.length gc]/\(∀ j,j<q->0<=a.vars.getD j 0/\a.vars.getD j 0<N)/\∀ v:Nat,v<N->(B.getD v false=true↔(∃ j,j<i/\(v:Int)∈(ts.getD j ta0).2.vars)∨∃ j,j<q/\a.vars.getD j 0=(v:Int))) (λq _=>a.vars.length-q) 0 B sB
   ⟨Nat.zero_le _,an,J,aq,aa,λj hj=>om,λv hv=>⟨λe=>.inl ((a1 v hv).1 e),λe=>(a1 v hv).2 (e.elim id λ⟨j,hj,_⟩=>om)⟩⟩ ?_
  clear ag au aq aa aj a1 J;rintro q B w6 ⟨hq,a7,J,a5,a2,bl,a1⟩;refine ρ ?_;refine ci (λh=>?_) (λh=>?_)
  .have lq:q<a.vars.length:=by have:=oT h;omega
   have y:=ay.ext a7;have b7:a.vars.getD q 0∈a.vars:=getD_mem' 0 _ lq;clear h;refine ρ ?_;refine ix q y lq ?_;refine ρ ?_;refine ld (y.cell (Ze lq)) ?_;refine ρ ?_;generalize hz:a.vars.getD q 0=z at *
   refine Uk (fun (t:Bool)=>[(0,.int .i64 (N:Int)),(5,.slice O N N),(22,.slice A m c),(23,.int .i64 (m:Int)),(24,.int .i64 (i:Int)),(7,.pointer (some ⟨b,0,none⟩)),(48,.slice D a.vars.length d),(49,.int .i64 (a.vars.length:Int)),(50,.int .i64 (q:Int)),(10,.int .i64 z),(60,.bool t)]) (λt w7=>w7=w6/\(t=true↔¬ (0<=z/\z<N))) ?_ ?_
   .refine ki 56 (λh=>?_) (λh=>?_)
    .refine ρ ?_;exact Jg true sB ⟨rfl,by grind⟩
    refine ρ ?_;refine Jg _ sB ⟨rfl,?_⟩;grind
   rintro t w7 ⟨rfl,ht⟩;refine ci (λh=>?_) (λh=>?_)
   .refine ρ ?_;exact Jq ⟨a7,ai 3 (by decide) (by rw[atE,if_neg (λh=>h U),if_pos (λh1=>ht.1 h (h1 z b7))])⟩
   have b3:0<=z/\z<N:=by grind
   obtain⟨x,rfl⟩:=Int.eq_ofNat_of_zero_le b3.1;have lx:x<N:=om
   rw[Vg,J]at a5;obtain⟨s1,s2,s3,s4,s5⟩:=Zk a5 (q:=x) om (.bool true);refine ρ ?_;refine ix x (Rd.own a5) lx ?_;refine ρ ?_;refine sto (s1.trans (Jbm om)) s2 ?_;refine ρ ?_;refine Ja (q+1) (B.set x true) sO ⟨om,Jt a7 s5 (λk hk=>by grind [Jf]),by simpa using J,?_,a2.grown s5 (a2.ne_own a5 rfl),λj hj=>?_,λv hv=>?_⟩ om
   .rw[Vg,List.length_set,J,List.map_set];exact s3
   repeat grind
  have eq:q=a.vars.length:=by have:=oF h;omega
  clear h;have ac:∀ v∈a.vars,0<=v/\v<N:=λv hv=>by grind [List.getElem_of_mem,Xf]
  refine ρ ?_;refine dr [(0,0),(0,1),(0,2),(0,3),(0,4),(1,5),(0,6)] kr ?_;have a4:=a7.drew;have b2:=a2.ext (Ext.refl w6).drew;have bc:=ak.ext a4;refine ρd ?_;refine dld (b2.at (i:=0) rfl) ?_;refine ρd ?_;refine Qw (cs:=[.int .i64 (a.ar:Int),.slice G ps.length gc]) (λj u hu=>Blk.at2 b2 (i:=0+1) (by grind)) ?_;refine ρd ?_;refine dcl (Qqb bc.rel) ?_;rintro u w8 ⟨rfl,a6⟩;refine⟨a6,?_⟩;refine ρd ?_;refine ρ ?_;refine ci (λh=>?_) (λh=>?_)
  .refine ρ ?_;refine Jq ⟨a4.trans a6,ai 6 (by decide) ?_⟩;rw[atE,if_neg (λh=>h U),if_neg (λh=>h ac),if_pos];have:=Kg h;omega
  refine ρ ?_;have ba:a.vars.length=a.ar:=by have:=Kh h;omega
  refine Ja (i+1) B sO ⟨om,a4.trans a6,J,Ju (Ju a5 (Ext.refl w6).drew) a6,λj hj=>?_,λv hv=>?_⟩ om
  .by_cases ej:j=i
   .subst ej;rw[hp];exact⟨U,ac,ba⟩
   exact ap j om
  repeat grind [getD_mem',List.getElem_of_mem,Xf]
 have ei:i=m:=by have:=oF h;omega
 clear h;subst J;have bb:RdB w2 O B:=Rd.own ag;have ae:∀ a∈ts.map (·.2),Uj B.length a:=λa ha=>by grind [List.mem_map.1,List.getElem_of_mem,Xf,ta0]
 refine ρ ?_;refine cl (Qcg bb om) ?_;rintro u w3 ⟨rfl,t,rfl,ht⟩;refine ρ ?_;refine ci (λh=>?_) (λh=>?_)
 .refine ρ ?_;refine Jq ⟨a9,congrArg _ ?_⟩;rw[lfE,if_neg (λh=>h ⟨om,om⟩),if_neg (by rw[List.length_map];omega),if_pos (Jzq ae),if_neg];intro az;obtain⟨x,hx,ex⟩:=List.getElem_of_mem (ht.1 h);obtain⟨a,ha,bg⟩:=az x om;grind [List.mem_map.1,List.getElem_of_mem,Xf,ta0]
 refine ρ ?_;refine Jq ⟨a9,congrArg _ ?_⟩;rw[lfE,if_neg (λh=>h ⟨om,om⟩),if_neg (by rw[List.length_map];omega),if_pos (Jzq ae),if_pos];intro v hv;have bh:v<B.length:=om
 grind
open Go.RowKit Pl Go.Wk
variable {v:Value}{w:World}
structure Inp where
 n: Int
 free:Int
 desc:List Bool
 perm:List Int
 ats:List Atm
def InC(w:World)(i:Inp)(cs:List Value): Prop:=∃ vd vp va,cs=[.int .i64 i.n,.int .i64 i.free,vd,vp,va]/\BoolsV w vd i.desc/\IntsV w vp i.perm/\AtsV w va i.ats
theorem InC.ext{w w':World}{i:Inp}{cs:List Value}(h:InC w i cs)(hx:Ext w w'): InC w' i cs:=by
 obtain⟨u,j,y,e,G,D,B⟩:=h;exact⟨u,j,y,e,G.ext hx,D.ext hx,B.ext hx⟩
def InV(w:World)(v:Value)(i:Inp): Prop:=∃ cs,v=.agg cs.toArray/\InC w i cs
theorem InV.ext{w w':World}{v:Value}{i:Inp}(h:InV w v i)(hx:Ext w w'): InV w' v i:=by
 obtain⟨cs,e,h⟩:=h;exact⟨cs,e,h.ext hx⟩
def Yu(i:Inp): Prop:=0<=i.n/\i.n<=32/\0<=i.free/\i.free<=i.n/\(i.desc.length:Int)=i.free/\(i.perm.length:Int)=i.n-i.free/\(∀ v∈i.perm,i.free<=v/\v<i.n)/\i.perm.Nodup/\chkL i.n i.ats
open Classical in
noncomputable def Gr (i:Inp):Int:=if¬ (0<=i.n/\i.n<=32/\0<=i.free/\i.free<=i.n) then 3 else if¬ ((i.desc.length:Int)=i.free/\(i.perm.length:Int)=i.n-i.free) then 1 else if¬ ((∀ v∈i.perm,i.free<=v/\v<i.n)/\i.perm.Nodup) then 1 else lfE i.n i.ats
theorem Qvg{i:Inp}: Gr i=0↔Yu i:=by
 unfold Gr Yu;by_cases c1:0<=i.n/\i.n<=32/\0<=i.free/\i.free<=i.n
 .rw[if_neg (λh=>h c1)];by_cases c2:(i.desc.length:Int)=i.free/\(i.perm.length:Int)=i.n-i.free
  .rw[if_neg (λh=>h c2)];by_cases c3:(∀ v∈i.perm,i.free<=v/\v<i.n)/\i.perm.Nodup
   .rw[if_neg (λh=>h c3),Qwl];exact⟨λh=>⟨c1.1,c1.2.1,c1.2.2.1,c1.2.2.2,c2.1,c2.2,c3.1,c3.2,h⟩,λh=>h.2.2.2.2.2.2.2.2⟩
   rw[if_pos c3];exact⟨λh=>(by cases h),λh=>absurd ⟨h.2.2.2.2.2.2.1,h.2.2.2.2.2.2.2.1⟩ c3⟩
  rw[if_pos c2];exact⟨λh=>(by cases h),λh=>absurd ⟨h.2.2.2.2.1,h.2.2.2.2.2.1⟩ c2⟩
 rw[if_pos c1];exact⟨λh=>(by cases h),λh=>absurd ⟨h.1,h.2.1,h.2.2.1,h.2.2.2.1⟩ c1⟩
theorem Qvh{inp:Inp}(h:InV w v inp)(hn64:-9223372036854775808<=inp.n/\inp.n<=9223372036854775807)(hf64:-9223372036854775808<=inp.free/\inp.free<=9223372036854775807): Ret Tryz.prog 18 [v] w λu w'=>Ext w w'/\u=.int .i64 (Gr inp):=by
 obtain⟨_,rfl,vd,vp,va,rfl,af,ae,a8⟩:=h;obtain⟨n,free,a5,j,ats⟩:=inp;simp only at af ae a8 hn64 hf64 ⊢;obtain⟨D,dc,rfl,b1,az,ay⟩:=id af;obtain⟨G,gc,rfl,ax,aw,ap⟩:=id ae;obtain⟨ts,A,c,_,rfl,_⟩:=id a8;refine Jz Tryz.func18 Tryz.ntmps18 rfl kr rfl ?_;refine ρ ?_;refine bx ?_;intro w1 b a7 hb B;refine ρ ?_;refine Uk (fun (t:Bool)=>[(1,.pointer (some ⟨b,0,none⟩)),(25,.bool t)]) (λt w'=>w'=w1/\(t=true↔¬ (0<=n/\n<=32/\0<=free/\free<=n))) ?_ ?_
 .refine ld (B.at (i:=0) rfl) ?_;refine ρ ?_;refine ki 9 (λh=>?_) (λh=>?_)
  .have:=oT h;refine ρ ?_;exact Jg true sB ⟨rfl,by simp;omega⟩
  have h1:=oF h;refine ρ ?_;refine ld (B.at (i:=0) rfl) ?_;refine ρ ?_;refine ki 14 (λh=>?_) (λh=>?_)
  .have:=oT h;refine ρ ?_;exact Jg true sB ⟨rfl,by simp;omega⟩
  have h2:=oF h;refine ρ ?_;refine ld (B.at (i:=1) rfl) ?_;refine ρ ?_;refine ki 19 (λh=>?_) (λh=>?_)
  .have:=oT h;refine ρ ?_;exact Jg true sB ⟨rfl,by simp;omega⟩
  have h3:=oF h;refine ρ ?_;refine ld (B.at (i:=1) rfl) ?_;refine ρ ?_;refine ld (B.at (i:=0) rfl) ?_;refine ρ ?_;refine Jg _ sB ⟨rfl,?_⟩;grind
 rintro t w' ⟨rfl,ht⟩;refine ci (λh=>?_) (λh=>?_)
 .refine ρ ?_;exact Jq ⟨a7,congrArg _ (by rw[Gr,if_pos (ht.1 h)])⟩
 have hn:0<=n/\n<=32/\0<=free/\free<=n:=by grind
 obtain⟨a1,aa,a2,ab⟩:=hn;obtain⟨N,rfl⟩:=Int.eq_ofNat_of_zero_le a1;obtain⟨F,rfl⟩:=Int.eq_ofNat_of_zero_le a2;clear h ht;refine ρ ?_;refine ld (B.at (i:=2) rfl) ?_;refine ρ ?_;refine ld (B.at (i:=1) rfl) ?_;refine ρ ?_;refine Uk (fun (t:Bool)=>[(1,.pointer (some ⟨b,0,none⟩)),(42,.bool t)]) (λt w2=>w2=w'/\(t=true↔¬ (a5.length=F/\j.length+F=N))) ?_ ?_
 .refine ki 32 (λh=>?_) (λh=>?_)
  .have:=Kg h;refine ρ ?_;exact Jg true sB ⟨rfl,by simp;omega⟩
  have h1:=Kh h;refine ρ ?_;refine ld (B.at (i:=3) rfl) ?_;refine ρ ?_;refine ld (B.at (i:=0) rfl) ?_;refine ρ ?_;refine ld (B.at (i:=1) rfl) ?_;refine ρ ?_;refine Jg _ sB ⟨rfl,?_⟩;rw[bne_iff_ne];omega
 rintro t2 w2 ⟨rfl,ht⟩;refine ci (λh=>?_) (λh=>?_)
 .refine ρ ?_;refine Jq ⟨a7,congrArg _ ?_⟩;rw[Gr,if_neg (λh=>h ⟨a1,aa,a2,ab⟩),if_pos];intro e;have h5:=e.1;have h6:=e.2;simp only at h5 h6;exact ht.1 h om
 have aq:a5.length=F/\j.length+F=N:=by grind
 obtain⟨b2,av⟩:=aq;clear h ht;refine ρ ?_;refine ld (B.at (i:=0) rfl) ?_;refine ρ ?_;refine mkn EB N om (by unfold maxLen;omega) ?_;intro w3 O ad ah hO;have ag:Vg w3 w2.heap.size (.slice O N N) (List.replicate N false):=by
  rw[Vg,List.length_replicate,List.map_replicate];have e:(madeCells (Value.bool false).cells (N*1)).toList=List.replicate N (Value.bool false):=by rw[Nat.mul_one];exact Yv _ _
  rw[e]at ah;exact ah
 refine ρ ?_;refine ld ((B.ext ad).at (i:=3) rfl) ?_;refine ρ ?_;refine Qq (fun (i:Nat) (us:List Bool)=>[(1,.pointer (some ⟨b,0,none⟩)),(3,.slice O N N),(47,.slice G j.length gc),(48,.int .i64 (j.length:Int)),(49,.int .i64 (i:Int))])
  (λi us w4=>i<=j.length/\Ext w2 w4/\us.length=N/\Vg w4 w2.heap.size (.slice O N N) us/\(∀ v∈j.take i,(F:Int)<=v/\v<N)/\(j.take i).Nodup/\∀ v:Nat,v<N->(us.getD v false=true↔(v:Int)∈j.take i)) (λi _=>j.length-i) 0 (List.replicate N false) sB
  ⟨Nat.zero_le _,ad,by simp,ag,λv hv=>by simp at hv,by simp,λv hv=>⟨λe=>by simp[List.getD,hv]at e,λe=>by simp at e⟩⟩ ?_
 rintro i us w4 ⟨hi,a6,U,J,ai,a9,ar⟩;have a3:=B.ext a6;have y:=a7.trans a6;refine ρ ?_;refine ci (λh=>?_) (λh=>?_)
 .have li:i<j.length:=by have:=oT h;omega
  have a4:=ap.ext y;clear h;have ac:j.getD i 0∈j:=getD_mem' 0 j li;have ao:j.take (i+1)=j.take i++[j.getD i 0]:=Xj 0 li;have Z:j.Nodup->j.getD i 0 ∉ j.take i:=λa9 hm=>by grind [List.take_sublist,List.nodup_append,List.mem_singleton.2]
  refine ρ ?_;refine ix i a4 li ?_;refine ρ ?_;refine ld (a4.cell (Ze li)) ?_;refine ρ ?_;refine ld (a3.at (i:=1) rfl) ?_;refine ρ ?_;generalize hz:j.getD i 0=z at *
  refine Uk (fun (t:Bool)=>[(1,.pointer (some ⟨b,0,none⟩)),(3,.slice O N N),(47,.slice G j.length gc),(48,.int .i64 (j.length:Int)),(49,.int .i64 (i:Int)),(5,.int .i64 z),(68,.bool t)]) (λt w5=>w5=w4/\(t=true↔¬ ((F:Int)<=z/\z<N/\z ∉ j.take i))) ?_ ?_
  .refine ki 57 (λh=>?_) (λh=>?_)
   .have:=oT h;refine ρ ?_;exact Jg true sB ⟨rfl,by simp;omega⟩
   have h1:=oF h;refine ρ ?_;refine ld (a3.at (i:=0) rfl) ?_;refine ρ ?_;refine ki 63 (λh=>?_) (λh=>?_)
   .have:=oT h;refine ρ ?_;exact Jg true sB ⟨rfl,by simp;omega⟩
   have h2:=oF h;have ak:0<=z:=om
   obtain⟨x,rfl⟩:=Int.eq_ofNat_of_zero_le ak;have lx:x<N:=om
   have aj:Rd w4 1 O N (us.map Value.bool):=by rw[Vg,U]at J;exact Rd.own J
   refine ρ ?_;refine ix x aj lx ?_;refine ρ ?_;have am:x<us.length:=om
   refine ld (aj.cell (Jbm am)) ?_;refine ρ ?_;refine Jg _ sB ⟨rfl,?_⟩;grind
  rintro t5 w5 ⟨rfl,ht⟩;refine ci (λh=>?_) (λh=>?_)
  .refine ρ ?_;refine Jq ⟨y,congrArg _ ?_⟩;rw[Gr,if_neg (λh=>h ⟨a1,aa,a2,ab⟩),if_neg (λh=>h ⟨by simp only;omega,by simp only;omega⟩),if_pos];intro e;exact ht.1 h ⟨(e.1 z ac).1,(e.1 z ac).2,Z e.2⟩
  have au:(F:Int)<=z/\z<N/\z ∉ j.take i:=by grind
  obtain⟨x,rfl⟩:=Int.eq_ofNat_of_zero_le (show 0<=z by omega);have lx:x<N:=om
  rw[Vg,U]at J;obtain⟨s1,s2,s3,s4,s5⟩:=Zk J (q:=x) om (.bool true);refine ρ ?_;refine ix x (Rd.own J) lx ?_;refine ρ ?_;refine sto (s1.trans (Jbm om)) s2 ?_;refine ρ ?_;refine Ja (i+1) (us.set x true) sO ⟨om,Jt a6 s5 (λk hk=>by grind [Jf]),by simpa using U,?_,λv hv=>?_,?_,λv hv=>?_⟩ om
  .rw[Vg,List.length_set,U,List.map_set];exact s3
  .grind
  .grind [List.nodup_append,List.mem_singleton]
  rw[Qvt _ _ _ _ om,ao,List.mem_append,List.mem_singleton];grind
 have ei:i=j.length:=by have:=oF h;omega
 clear h;rw[ei,List.take_of_length_le (Nat.le_refl _)]at ai a9;refine ρ ?_;refine ld (a3.at (i:=0) rfl) ?_;refine ρ ?_;refine ld (a3.at (i:=4) rfl) ?_;refine ρ ?_;refine cl (Qwm (a8.ext y)) ?_;rintro u w5 ⟨an,rfl⟩;refine ρ ?_;refine Jq ⟨y.trans an,congrArg _ ?_⟩;rw[Gr,if_neg (λh=>h ⟨a1,aa,a2,ab⟩),if_neg (λh=>h ⟨by simp only;omega,by simp only;omega⟩),if_neg (λh=>h ⟨ai,a9⟩)]
theorem Jlg{inp:Inp}(h:InV w v inp)(hn64:-9223372036854775808<=inp.n/\inp.n<=9223372036854775807)(hf64:-9223372036854775808<=inp.free/\inp.free<=9223372036854775807): Ret Tryz.prog 18 [v] w λu w'=>Ext w w'/\∃ e,u=.int .i64 e/\(e=0↔Yu inp):=(Qvh h hn64 hf64).mono λu w' h=>⟨h.1,_,h.2,Qvg⟩
end Go.Proofs.YtebiphhfkdbpfaaGreatDoor
namespace Go.Proofs.YtebiphhfkdbpfaaGreatDoor
open Pl
variable {rs:List Row}{d i j l:Nat}{q x:Row}
def pfx(rs:List Row)(l:Nat): List Row:=ddF (rs.map (List.take l))
theorem Jgf(rs:List Row)(x:Row)(l:Nat): pfx (rs++[x]) l=ddS (pfx rs l) (x.take l):=by
 unfold pfx;rw[List.map_append,List.map_cons,List.map_nil,Jbg]
theorem Jnq: ∀(a b:Row) (l:Nat),Jb a b []<=0->Jb (a.take l) (b.take l) []<=0
 | _,_,0,_=>by simp[Jb]
 | [],[],_+1,_=>by simp[Jb]
 | [],_::_,_+1,_=>by simp[Jb]
 | _::_,[],_+1,h=>by simp[Jb]at h
 | x::a,y::b,l+1,h=>by
  simp only[List.take_succ_cons,Jb,List.drop_nil]at h ⊢;by_cases e:cmpV x y=0
  .rw[if_pos e]at h ⊢;exact Jnq a b l h
  repeat grind
theorem Jtq(h:Srt [] rs)(l:Nat): Srt [] (rs.map (List.take l)):=by grind [Srt,Jnq]
theorem Jvw(h:Lt [] rs): Srt [] rs:=h.imp λi=>by omega
theorem Jvf(h:Srt [] rs)(l:Nat): Va [] (rs.map (List.take l)) (pfx rs l):=Jnf (Jtq h l)
theorem Qxj(h:Srt [] rs): q∈pfx rs l↔∃ r∈rs,r.take l=q:=by
 rw[(Jvf h l).2,List.mem_map]
theorem Jgg: (pfx (rs++[x]) l).getLast?=some (x.take l):=by grind [Jgf,Jnc]
def shr: Row->Row->Nat
 | a::x,b::y=>if a=b then shr x y+1 else 0
 | _,_=>0
theorem Jdr: ∀(x y:Row) (l:Nat),x.length=y.length->(x.take l=y.take l↔l<=shr x y∨x=y)
 | [],[],l,_=>by simp
 | [],_::_,_,h=>by simp at h
 | _::_,[],_,h=>by simp at h
 | a::x,b::y,0,_=>by simp
 | a::x,b::y,l+1,h=>by
  have ih:=Jdr x y l (by simpa using h);grind [List.cons.injEq,shr]
def lvl(rs:List Row)(l:Nat): Row:=(pfx rs (l+1)).map λq=>q.getD l V0
theorem Qkw(rs:List Row)(l:Nat): (lvl rs l).length=(pfx rs (l+1)).length:=by simp[lvl]
theorem Qkx(h:i<(pfx rs (l+1)).length): (lvl rs l).getD i V0=((pfx rs (l+1)).getD i []).getD l V0:=by grind [Xf,V0,Qkw,lvl]
def Fst(rs:List Row)(l:Nat)(f:List Nat): Prop:=f.length=(pfx rs (l+1)).length/\(∀ j,j<f.length->f.getD j 0<=(pfx rs (l+2)).length) /\
 ∀ j i,j<f.length->i<(pfx rs (l+2)).length->(((pfx rs (l+2)).getD i []).take (l+1)=(pfx rs (l+1)).getD j []↔f.getD j 0<=i/\(j+1<f.length->i<f.getD (j+1) 0))
def stp(rs:List Row)(x:Row): Nat:=match rs.getLast? with
 | some y=>shr y x
 | none=>0
theorem Jvd(h:Lt [] (rs++[x]))(hl:∀ r∈rs++[x],r.length=d)(h0:0<l): pfx (rs++[x]) l=if l<=stp rs x then pfx rs l else pfx rs l++[x.take l]:=by
 rw[Jgf];rcases List.eq_nil_or_concat rs with rfl|⟨r,y,rfl⟩
 .rw[if_neg (by simp[stp];omega)];rfl
 rw[List.concat_eq_append]at *;have j:(r++[y]).getLast?=some y:=by simp
 have i:Jb y x []<0:=(List.pairwise_append.1 h).2.2 y (by simp) x (by simp);grind [Ik,stp,shr,ddS,Jgg,Jdr]
theorem Qwd{l:List Row}(h:Lt [] l)(hi:i<l.length)(hj:j<l.length)(e:l.getD i []=l.getD j []): i=j:=by
 rcases Nat.lt_trichotomy i j with h'|h'|h'
 .have:=h.at h' hj;rw[e,Ik]at this;omega
 .exact h'
 have:=h.at h' hi;rw[e,Ik]at this;omega
theorem Qvw{α:Type}(z:α)(l:List α)(x:α)(k:Nat): (l++[x]).getD k z=if k<l.length then l.getD k z else if k=l.length then x else z:=by grind
theorem take_take'(q:Row)(l:Nat): (q.take (l+2)).take (l+1)=q.take (l+1):=by grind
theorem Fst.keep{f:List Nat}(hF:Fst rs l f)(h:Lt [] (rs++[x]))(hl:∀ r∈rs++[x],r.length=d)(hs:l+1<=stp rs x): Fst (rs++[x]) l f:=by
 obtain⟨J,Z,U⟩:=hF;have O:pfx (rs++[x]) (l+1)=pfx rs (l+1):=by rw[Jvd h hl om,if_pos hs]
 have u:Lt [] rs:=(List.pairwise_append.1 h).1;have y:0<(pfx rs (l+1)).length/\(pfx rs (l+1)).getD ((pfx rs (l+1)).length-1) []=x.take (l+1):=by grind [Jgg,List.getElem?_eq_some_iff.1,Xf]
 have D:Lt [] (pfx rs (l+1)):=(Jvf (Jvw u) _).1;by_cases hs2:l+2<=stp rs x
 .have B:pfx (rs++[x]) (l+2)=pfx rs (l+2):=by rw[Jvd h hl om,if_pos hs2]
  grind [Fst]
 have B:pfx (rs++[x]) (l+2)=pfx rs (l+2)++[x.take (l+2)]:=by rw[Jvd h hl om,if_neg hs2]
 unfold Fst;rw[O,B];refine⟨J,λj G=>?_,λj i G hi=>?_⟩;repeat grind [List.length_append,List.length_singleton,Qvw,pfx,take_take',Qwd]
def Chl(rs:List Row)(l:Nat)(f:List Nat): Prop:=f.length=(pfx rs (l+1)).length+1/\(∀ j,j<f.length->f.getD j 0<=(pfx rs (l+2)).length) /\
 ∀ j i,j+1<f.length->i<(pfx rs (l+2)).length->(((pfx rs (l+2)).getD i []).take (l+1)=(pfx rs (l+1)).getD j []↔f.getD j 0<=i/\i<f.getD (j+1) 0)
theorem Fst.nil(l:Nat): Fst [] l []:=⟨rfl,λj u=>by simp at u,λj i u=>by simp at u⟩
end Go.Proofs.YtebiphhfkdbpfaaGreatDoor
namespace Go.Wk
open Go.RowKit
variable {c' cs news xs:List Value}{d g i k l m m' n t ty:Nat}{α:Type}{v v' z:Value}
def upd(f:Nat->α)(i:Nat)(x:α): Nat->α:=λk=>if k=i then x else f k
theorem Xa(f:Nat->α)(i:Nat)(x:α): upd f i x i=x:=by simp[upd]
theorem Qa(f:Nat->α)(x:α)(h:k≠i): upd f i x k=f k:=by simp[upd,h]
structure Fam(w:World)(base e sz n:Nat)(v:Nat->Value)(m:Nat->Nat)(c:Nat->List Value): Prop where
 own:∀ i,i<n->w.ownsRow base e sz (v i) (m i) (c i)
 dis:∀ i j g,i<n->j<n->i≠j->(v i).ownBlock=some g->(v j).ownBlock≠some g
section
variable {w w':World} {base e sz n:Nat} {v:Nat->Value} {m:Nat->Nat} {c:Nat->List Value}
theorem Fam.ext(h:Fam w base e sz n v m c)(hx:Ext w w'): Fam w' base e sz n v m c:=⟨λi hi=>Ju (h.own i hi) hx,h.dis⟩
theorem Fam.gr{N:Nat->Prop}(h:Fam w base e sz n v m c)(hg:GrN N w w')(hN:∀ i g,i<n->(v i).ownBlock=some g->¬ N g): Fam w' base e sz n v m c:=⟨λi hi=>Qn (h.own i hi) hg (hN i · hi),h.dis⟩
theorem Fam.other{base' e' sz':Nat}(h:Fam w base e sz n v m c)(h':w.ownsRow base' e' sz' v' m' xs)(hg:w.grownBy w' v'.ownBlock)(hne:Nat.beq e e'=false): Fam w' base e sz n v m c :=
 ⟨λi hi=>Jxq (h.own i hi) h' hg hne,h.dis⟩
theorem Fam.box(h:Fam w base e sz n v m c)(hB:Blk w g t cs)(hg:w.grownBy w' (some g))(hne:Nat.beq e t=false): Fam w' base e sz n v m c :=
 ⟨λi hi=>(h.own i hi).kept hg (.inr (λj=>hB.ne_own (h.own i hi) hne j.symm)),h.dis⟩
theorem Fam.lt(h:Fam w base e sz n v m c)(hi:i<n)(hg:(v i).ownBlock=some g): base<=g/\g<w.heap.size:=by
 obtain⟨_,_,_,_,j⟩:=Jf (h.own i hi);exact j g hg
theorem Fam.upd(h:Fam w base e sz n v m c)(hi:i<n)(ho:w'.ownsRow base e sz v' m' c')(hg:w.grownBy w' (v i).ownBlock)(hb:∀ g,v'.ownBlock=some g->(v i).ownBlock=some g∨w.heap.size<=g):
  Fam w' base e sz n (upd v i v') (upd m i m') (upd c i c'):=by
 refine⟨λk y=>?_,λk j g y G u D B=>?_⟩
 .by_cases e:k=i
  .grind [Xa]
  rw[Qa _ _ e,Qa _ _ e,Qa _ _ e];refine(h.own k y).kept hg ?_;cases hb2:(v k).ownBlock with
  | none=>exact .inl rfl
  | some g=>exact .inr (λJ=>h.dis k i g y hi e hb2 J.symm)
 by_cases ek:k=i<;>by_cases ej:j=i
 .omega
 .subst ek;rw[Xa]at D;rw[Qa _ _ ej]at B;rcases hb g D with h'|h'
  .exact h.dis k j g y G u h' B
  have:=(h.lt G B).2;omega
 .subst ej;rw[Xa]at B;rw[Qa _ _ ek]at D;rcases hb g B with h'|h'
  .exact h.dis k j g y G u D h'
  have:=(h.lt y D).2;omega
 rw[Qa _ _ ek]at D;rw[Qa _ _ ej]at B;exact h.dis k j g y G u D B
theorem Fam.grown(h:Fam w base e sz n v m c)(hi:i<n): ∀ g,(v i).ownBlock=some g->base<=g:=λg j=>(h.lt hi j).1
end
def Vb(d:Nat)(f g:Nat->Value): List Value:=(List.range d).flatMap λl=>[f l,g l]
theorem Jmc(d:Nat)(f g:Nat->Value): Vb (d+1) f g=Vb d f g++[f d,g d]:=by simp[Vb,List.range_succ,List.flatMap_append]
theorem Jyq(d:Nat)(f g:Nat->Value): (Vb d f g).length=d*2:=by
 induction d with
 | zero=>rfl
 | succ d ih=>rw[Jmc,List.length_append,ih];simp;omega
theorem Jyr(d:Nat)(f g:Nat->Value)(h:l<d): (Vb d f g)[l*2]?=some (f l)/\(Vb d f g)[l*2+1]?=some (g l):=by
 induction d with
 | zero=>omega
 | succ d ih=>
  rw[Jmc];by_cases e:l=d
  .subst e;rw[List.getElem?_append_right (by rw[Jyq];omega),List.getElem?_append_right (by rw[Jyq];omega),Jyq];grind
  repeat grind
theorem apb{P:Program}{al:AL}{w:World}{Q:Exit->Act->World->Prop}{ops:Array Oper}{rest:List Oper}{pos:String}{aft:Array Edge}{e sz bytes base:Nat}(hE:ElT P t e sz bytes z){x y:Operand}{A':Option Addr}{c':Nat}(ha:w.ownsRow base e sz v m xs)(hr:Rd w sz A' m' news)(h1:∀ u∈news,u.oneCell'=true)(h63:m+m'<=maxLen)(hby:(m+m')*bytes<=140737488355328)(hbase:base<=w.heap.size)(kk:∀ v' w',w'.ownsRow base e sz v' (m+m') (xs++news)->w.grownBy w' v.ownBlock->(∀ g,v'.ownBlock=some g->v.ownBlock=some g∨w.heap.size<=g)->WL P n ops Q rest ((d,v')::al) w')(hx:ev al x=some v:=by rfl)(hy:ev al y=some (.slice A' m' c'):=by rfl)(hd:Nat.blt d n=true:=by rfl):
  WL P n ops Q (⟨some d,.call { callee:=.builtin .append,args:=#[x,y],argTypes:=#[t,t] },ty,pos,aft,none⟩::rest) al w:=by
 obtain⟨v',w',i,O,J,G,D,B⟩:=Jfg hE base ty (.inl ha) (c':=c') hr h1 h63 hby hbase;refine wop hd (λa j=>?_) (kk v' w' (G ha) (D.elim (·.2) (λh=>Xx h _)) B)
 simp[execOp,resolve,invoke,builtin,j.ev hx,j.ev hy,i]
end Go.Wk
namespace Go.Wk
open Go.RowKit
variable {p:Addr}{b c:Bool}{a z:Int}{l:List (Nat×Oper)}{cs:List Value}{e id j kd m s t:Nat}{o oi:Oper}{i x y:Operand}{A:Option Addr}{dst:Option Nat}{k:TK}{yt:TypeId}{u v:Value}
section
variable {N:Nat->Prop} {P:Program} {ops:Array Oper} {Q:Exit->Act->World->Prop} {T:Nat->Bool}
def Yd(N:Nat->Prop)(P:Program)(ops:Array Oper)(Q:Exit->Act->World->Prop)(k:Nat)(o:Oper)(K:Act->World->Prop)(a:Act)(w:World): Prop :=
 match k with
 | 0=>∃ v,YieldsIf P ops (GrN N w) o v a/\K (a.put o.dst v) w
 | 1=>if Region.wanted o (yielded ops a.tmps) then o.wp P a w (λa' w'=>GrN N w w'/\K a' w') (QF Q) else K (a.put o.dst undef) w
 | _=>if Region.wanted o (yielded ops a.tmps) then o.wp P a w K (QF Q) else K (a.put o.dst undef) w
def Xw(N:Nat->Prop)(P:Program)(ops:Array Oper)(Q:Exit->Act->World->Prop): List (Nat×Oper)->Act->World->Prop
 | [],a,w=>Q .normal a w
 | p::r,a,w=>Yd N P ops Q p.1 p.2 (Xw N P ops Q r) a w
def Uz(N:Nat->Prop)(P:Program)(ops:Array Oper)(Q:Exit->Act->World->Prop)(T:Nat->Bool): Nat->Array Bool->Act->World->Prop
 | 0,listed,a,w=>Region.ready .any ops listed=[]/\Q .normal a w
 | fuel+1,listed,a,w=>
  (Region.ready .any ops listed=[]->Q .normal a w) /\
   ∀ i∈Region.ready .any ops listed,wpOp P ops (QF Q) i (λa' w'=>(T i=false->GrN N w w')/\Uz N P ops Q T fuel (listed.setIfInBounds i true) a' w') a w
theorem Jcg: ∀(fuel:Nat) (listed:Array Bool) (a:Act) (w:World),Uz N P ops Q T fuel listed a w->wpAny P .any ops Q fuel listed a w
 | 0,_,_,_,h=>h
 | fuel+1,_,_,_,h=>⟨h.1,λi hi=>wpOp_mono (λa' w' h'=>Jcg fuel _ a' w' h'.2) (Jqn (h.2 i hi))⟩
theorem Jrg(S:World->World->Prop)(hS0:∀ w,S w w)(hSt:∀ {a b c},S a b->S b c->S a c){i:Nat}(hi:ops[i]?=some oi)(hsel:∀(j:Nat) (o:Oper) cs b,ops[j]?=some o->o.op≠.select cs b)(hSx:∀ listed j,Closed ops listed->i∈Region.ready .any ops listed->j∈Region.ready .any ops listed->∀ w w',(T j=false->GrN N w w')->S w w'):
  ∀(fuel:Nat) (listed:Array Bool) (a:Act) (w:World),Closed ops listed ->
   (∀ j oj,ops[j]?=some oj->j≠i->listed.getD j true=false->(∀ e∈oj.after,Region.binds .any e=true->e.on≠i)->oi.apart ops oj=true) ->
   i∈Region.ready .any ops listed->YieldsIf P ops (S w) oi v a ->
   Uz N P ops Q T fuel (listed.setIfInBounds i true) (a.put oi.dst v) w->Uz N P ops Q T (fuel+1) listed a w:=by
 intro fuel;induction fuel with
 | zero=>
  intro listed a w J _ B hy H;refine⟨λh=>(by rw[h]at B;cases B),λj O=>?_⟩;by_cases hji:j=i
  .subst hji;exact hy.wpOp hi (hS0 w) ⟨λ_=>GrN.refl N w,H⟩
  have:=ready_mono O hji;rw[H.1]at this;cases this
 | succ fuel ih=>
  intro listed a w J u B hy H;refine⟨λh=>(by rw[h]at B;cases B),λj O=>?_⟩;by_cases hji:j=i
  .subst hji;exact hy.wpOp hi (hS0 w) ⟨λ_=>GrN.refl N w,H⟩
  obtain⟨D,oj,G,a2⟩:=mem_ready.1 O;have h1:=H.2 j (ready_mono O hji);have a1:∀ e∈oj.after,Region.binds .any e=true->e.on≠i:=λe he hb a6=>by
   have h1:=a2 e he hb;have h0:=(mem_ready.1 B).1;grind
  have h2:=wpOp_putIf G (u j oj G hji D a1) (λcs b=>hsel i oi cs b hi) (λcs b=>hsel j oj cs b G) (λc a w h=>h) hy h1;have y:∀ k U,ops[k]?=some U->k≠i->(listed.setIfInBounds j true).getD k true=false ->
    (∀ e∈U.after,Region.binds .any e=true->e.on≠i)->oi.apart ops U=true:=λk U hk a5 Z a4=>by
   refine u k U hk a5 ?_ a4;by_cases hjk:j=k
   .subst hjk;exact D
   rw[getD_set_ne true hjk]at Z;exact Z
  refine wpOp_mono (λa' w' h3=>⟨h3.2.1,ih (listed.setIfInBounds j true) a' w' (J.step O) y (ready_mono B (Ne.symm hji)) ?_ ?_⟩) h2
  .exact h3.1.imp (λ⟨h4,h5⟩=>⟨h4,λa3 hx=>h5 a3 (hSt (hSx listed j J B O w w' h3.2.1) hx)⟩) id
  rw[Array.setIfInBounds_comm _ _ hji];exact h3.2.2
theorem Jcj(hsel:Region.noSelect ops=true)(F:Nat): ∀(s:List (Nat×Nat)) (listed:Array Bool) (a:Act) (w:World),Closed ops listed->(∀ p∈s,Nat.ble p.1 2=true)->(∀ p∈s,p.2<ops.size)->(∀ p∈s,(p.1 == 2)=T p.2) ->
  (∀ t,T t=true->t<ops.size->∀ p∈s,p.1=0->Zs ops F t p.2=true)->Qd ops s listed=true->Xw N P ops Q (Je ops.toList s) a w->Uz N P ops Q T s.length listed a w
 | [],listed,a,w,_,_,_,_,_,hB,h=>⟨by simpa [Qd] using hB,h⟩
 | (k,i)::r,listed,a,w,hcl,hk,hlt,hKT,hR,hB,h=>by
  have hi:i<ops.size:=hlt _ (mC ..);have ho:ops[i]?=some ops[i]:=Array.getElem?_eq_getElem hi;have hn:nth ops.toList i=some ops[i]:=by rw[Qp];simp[hi]
  have hTi:=hKT _ (mC ..);have hk0:=hk _ (mC ..);simp only at hTi hk0;have hrec:Closed ops (listed.setIfInBounds i true)->Qd ops r (listed.setIfInBounds i true)=true->∀ a w,Xw N P ops Q (Je ops.toList r) a w->Uz N P ops Q T r.length (listed.setIfInBounds i true) a w:=λhc' hB' a w h'=>
   Jcj hsel F r _ a w hc' (λp hp=>hk p (List.mem_cons_of_mem _ hp)) (λp hp=>hlt p (List.mem_cons_of_mem _ hp)) (λp hp=>hKT p (List.mem_cons_of_mem _ hp)) (λt ht htl p hp=>hR t ht htl p (List.mem_cons_of_mem _ hp)) hB' h'
  have one:Qd ops r (listed.setIfInBounds i true)=true->Region.ready .any ops listed=[i]->(T i=false->if Region.wanted ops[i] (yielded ops a.tmps) then ops[i].wp P a w (λa' w'=>GrN N w w'/\Xw N P ops Q (Je ops.toList r) a' w') (QF Q) else Xw N P ops Q (Je ops.toList r) (a.put ops[i].dst undef) w) ->
    (T i=true->if Region.wanted ops[i] (yielded ops a.tmps) then ops[i].wp P a w (Xw N P ops Q (Je ops.toList r)) (QF Q) else Xw N P ops Q (Je ops.toList r) (a.put ops[i].dst undef) w)->Uz N P ops Q T (r.length+1) listed a w:=λhB' hr hf ht=>by
   have hcl':Closed ops (listed.setIfInBounds i true):=hcl.step (by grind);refine⟨λh0=>(by rw[hr]at h0;cases h0),λj hj=>?_⟩;rw[hr]at hj;obtain rfl:j=i:=by simpa using hj
   unfold wpOp;simp only[ho];cases hT:T j with
   | false=>
    have h:=hf hT;split
    .rename_i hw;simp only[hw,if_true]at h;exact .inl (Oper.wp_mono (λa' w' h'=>⟨λ_=>h'.1,hrec hcl' hB' _ _ h'.2⟩) h)
    repeat grind [GrN.refl]
   | true=>
    have h:=ht hT;split
    .rename_i hw;simp only[hw,if_true]at h;exact .inl (Oper.wp_mono (λa' w' h'=>⟨λh0=>(by cases h0),hrec hcl' hB' _ _ h'⟩) h)
    repeat grind
  match k,hTi,hk0,hR,hB,h with
  | 0,hTi,_,hR,hB,h=>
   simp only[Qd,Bool.and_eq_true]at hB;obtain⟨⟨hr,hf⟩,hB'⟩:=hB;have hr':i∈Region.ready .any ops listed:=by simpa using hr
   simp only[Je,hn,Xw,Yd]at h;obtain⟨v,hy,h⟩:=h;refine Jrg (GrN N) (GrN.refl N) (λh k=>GrN.trans h k) ho (Region.noSelect_spec hsel) ?_ r.length listed a w hcl (Region.free_spec ho hf) hr' hy (hrec (hcl.step hr') hB' _ _ h);intro listed' j hcl' hri hrj w w' hx;cases hT:T j with
   | false=>exact hx hT
   | true=>
    obtain⟨_,oj,hoj,_⟩:=mem_ready.1 hrj;have h1:=Gc hcl' F j i oj hoj (Gb hoj hrj) (hR j hT (Array.getElem?_eq_some_iff.1 hoj).1 _ (mC ..) rfl);have h0:=(mem_ready.1 hri).1;grind
  | 1,hTi,_,hR,hB,h=>
   simp only[Qd,Bool.and_eq_true,beq_iff_eq]at hB;simp only[Je,hn,Xw,Yd]at h;grind
  | 2,hTi,_,hR,hB,h=>
   simp only[Qd,Bool.and_eq_true,beq_iff_eq]at hB;simp only[Je,hn,Xw,Yd]at h;grind
  | k+3,_,hk0,_,_,_=>simp at hk0
def Jwp(ops:Array Oper)(F:Nat)(s:List (Nat×Nat)): Bool :=
 Region.noSelect ops && (s.length == ops.size) && (s.all λp=>Nat.ble p.1 2) && (s.all λp=>Nat.blt p.2 ops.size) && (s.all λp=>(p.1 == 2) == Yh s p.2) &&
 ((List.range ops.size).all λt=>!Yh s t || s.all λp=>p.1 != 0 || Zs ops F t p.2) && Qd ops s (Array.replicate ops.size false)
end
section
variable {N:Nat->Prop} {P:Program} {n:Nat} {al al':AL} {w:World} {Q:Exit->Act->World->Prop} {ops:Array Oper} {rest:List (Nat×Oper)} {drest:List (Nat×Oper)}
variable {d ty:Nat} {op:Op} {pos:String} {aft:Array Edge} {tt:TT}
def WN(N:Nat->Prop)(P:Program)(n:Nat)(ops:Array Oper)(Q:Exit->Act->World->Prop)(l:List (Nat×Oper))(al:AL)(w:World): Prop:=∀ a,Fr n al a->Xw N P ops Q l a w
theorem WN.sub{l:List (Nat×Oper)}(hs:Sub al' al)(h:WN N P n ops Q l al' w): WN N P n ops Q l al w:=λa i=>h a (i.sub hs)
theorem Jrn{l:List Oper}(N:Nat->Prop)(F:Nat)(s:List (Nat×Nat))(hm:P.follows .mixedOrders=true)(hB:Jwp l.toArray F s=true)(h:WN N P n l.toArray Q (Je l s) al w.drew): WC P n (.region id l.toArray true) Q al w:=by
 intro a B;simp only[Jwp,Bool.and_eq_true,beq_iff_eq,List.all_eq_true,List.mem_range,Bool.or_eq_true,Bool.not_eq_true',bne_iff_ne]at hB;obtain⟨⟨⟨⟨⟨⟨U,j⟩,O⟩,J⟩,G⟩,h6⟩,D⟩:=hB;refine wp_region_any hm ?_;rw[<-j];refine Jcg (T:=Yh s) _ _ _ _ (Jcj (N:=N) U F s _ a _ ?_ (λp i=>O p i) (λp i=>?_) (λp i=>?_) (λt ht u p i h0=>?_) (by rw[j];exact D) ?_)
 .intro k o Z y e he hb;exfalso
  simp only[Array.getD_eq_getD_getElem?,Array.getElem?_replicate]at y;grind
 .have:=J p i;have h':p.2+1<=l.toArray.size:=by simpa [Nat.blt] using this
  omega
 .simpa using G p i
 .grind
 have:=h a B;simpa using this
theorem drN[h:Tab P tt]{l:List Oper}(N:Nat->Prop)(F:Nat)(s:List (Nat×Nat))(hB:Jwp l.toArray F s=true)(k:WN N P n l.toArray Q (Je l s) al w.drew): WC P n (.region id l.toArray true) Q al w:=Jrn N F s h.mixed hB k
def YldN(N:Nat->Prop)(P:Program)(n:Nat)(al:AL)(w:World)(o:Oper)(v:Value): Prop:=∀ w',GrN N w w'->∀ a,Fr n al a->(execOp a.eval o).run P w'=.ok (.value v) w'
theorem nnil_(h:QX n Q .normal al w): WN N P n ops Q [] al w:=λa i=>h a i
theorem ny_(hy:YldN N P n al w ⟨some d,op,ty,pos,aft,none⟩ v)(hd:Nat.blt d n=true)(k:WN N P n ops Q rest ((d,v)::al) w): WN N P n ops Q ((0,⟨some d,op,ty,pos,aft,none⟩)::rest) al w:=λa j=>by
 have i:d<n:=by(have:d+1<=n:=by simpa [Nat.blt] using hd);(omega)
 exact⟨v,.inl ⟨rfl,λw' u=>hy w' u a j⟩,k _ (j.put i v)⟩
theorem np_{tt:TT}(hT:TOk P tt)(hv:pv tt (ev al) op=some v)(hd:Nat.blt d n=true)(k:WN N P n ops Q rest ((d,v)::al) w): WN N P n ops Q ((0,⟨some d,op,ty,pos,aft,none⟩)::rest) al w :=
 ny_ (λw' _ a j=>Yn w' hT (λx u i=>j.ev i) hv) hd k
theorem npn_{tt:TT}(hT:TOk P tt)(hv:pv tt (ev al) op=some v)(k:WN N P n ops Q rest al w): WN N P n ops Q ((0,⟨none,op,ty,pos,aft,none⟩)::rest) al w:=λa j=>
 ⟨v,.inl ⟨rfl,λw' i=>Yn w' hT (λx u i=>j.ev i) hv⟩,k _ j⟩
theorem Qzw(hj:Xd ops j=some s)(hs:lk al s=some (.bool b))(k:WN N P n ops Q ((kd,⟨dst,op,ty,pos,aft,none⟩)::rest) al w):
  WN N P n ops Q ((kd,⟨dst,op,ty,pos,aft,some (j,b)⟩)::rest) al w:=λa y=>by
 have h:=k a y;have D:=Kz (ops:=ops) y hj hs;have B:Region.wanted (⟨dst,op,ty,pos,aft,none⟩:Oper) (yielded ops a.tmps)=true:=rfl;have u:Region.wanted (⟨dst,op,ty,pos,aft,some (j,b)⟩:Oper) (yielded ops a.tmps)=true:=by simp[Region.wanted,D]
 unfold Xw Yd at h ⊢;match kd,h with
 | 0,h=>
  obtain⟨v,i,G⟩:=h;refine⟨v,?_,G⟩;rcases i with i|i
  .exact .inl ⟨u,i.2⟩
  repeat grind
 | 1,h=>simp only[B,if_true]at h;simp only[u,if_true];exact h
 | k+2,h=>simp only[B,if_true]at h;simp only[u,if_true];exact h
theorem Qzp(hj:Xd ops j=some s)(hs:lk al s=some (.bool b))(hne:(b == c)=false)(hd:Nat.blt d n=true)(k:WN N P n ops Q rest ((d,undef)::al) w):
  WN N P n ops Q ((kd,⟨some d,op,ty,pos,aft,some (j,c)⟩)::rest) al w:=λa B=>by
 have i:d<n:=by(have:d+1<=n:=by simpa [Nat.blt] using hd);(omega)
 have D:=Kz (ops:=ops) B hj hs;have y:Region.wanted (⟨some d,op,ty,pos,aft,some (j,c)⟩:Oper) (yielded ops a.tmps)=false:=by
  simp[Region.wanted,D];simpa using hne
 have u:=k _ (B.put i undef);unfold Xw Yd;match kd with
 | 0=>exact⟨undef,.inr ⟨y,rfl⟩,u⟩
 | 1=>simp only[y];exact u
 | m+2=>simp only[y];exact u
theorem Qzs(s:Nat)(u:Value)(hs:lk al s=some v)(hv:v=u)(k:WN N P n ops Q l ((s,u)::al) w): WN N P n ops Q l al w:=by
 subst hv;exact k.sub (Sub.cons hs Sub.refl)
theorem ν9(k:WN N P n ops Q drest ((d,undef)::al) w)(hj:Xd ops j=some s:=by rfl)(hs:lk al s=some undef:=by rfl)(hd:Nat.blt d n=true:=by rfl):
  WN N P n ops Q ((kd,⟨some d,op,ty,pos,aft,some (j,c)⟩)::drest) al w:=λa B=>by
 have i:d<n:=by(have:d+1<=n:=by simpa [Nat.blt] using hd);(omega)
 have D:=Jkp (ops:=ops) B hj hs;have y:Region.wanted (⟨some d,op,ty,pos,aft,some (j,c)⟩:Oper) (yielded ops a.tmps)=false:=by simp[Region.wanted,D]
 have u:=k _ (B.put i undef);unfold Xw Yd;match kd with
 | 0=>exact⟨undef,.inr ⟨y,rfl⟩,u⟩
 | 1=>simp only[y];exact u
 | m+2=>simp only[y];exact u
theorem ν4[h:Tab P tt](k:WN N P n ops Q drest ((d,v)::al) w)(hv:pv tt (ev al) op=some v:=by rfl)(hd:Nat.blt d n=true:=by rfl): WN N P n ops Q ((0,⟨some d,op,ty,pos,aft,none⟩)::drest) al w:=np_ h.ok hv hd k
theorem ν5(h:QX n Q .normal al w): WN N P n ops Q [] al w:=nnil_ h
theorem ν6(k:WN N P n ops Q ((kd,⟨dst,op,ty,pos,aft,none⟩)::drest) al w)(hj:Xd ops j=some s:=by rfl)(hs:lk al s=some (.bool b):=by rfl): WN N P n ops Q ((kd,⟨dst,op,ty,pos,aft,some (j,b)⟩)::drest) al w:=Qzw hj hs k
theorem ν7(k:WN N P n ops Q drest ((d,undef)::al) w)(hj:Xd ops j=some s:=by rfl)(hs:lk al s=some (.bool b):=by rfl)(hne:(b == c)=false:=by rfl)(hd:Nat.blt d n=true:=by rfl):
  WN N P n ops Q ((kd,⟨some d,op,ty,pos,aft,some (j,c)⟩)::drest) al w:=Qzp hj hs hne hd k
theorem ν8[h:Tab P tt](k:WN N P n ops Q drest al w)(hv:pv tt (ev al) op=some v:=by rfl): WN N P n ops Q ((0,⟨none,op,ty,pos,aft,none⟩)::drest) al w:=npn_ h.ok hv k
theorem nadd_{t:TypeId}{b:Int}(hx:ev al x=some (.int .i64 a))(hy:ev al y=some (.int .i64 b))(hc:-9223372036854775808<=a+b/\a+b<=9223372036854775807)(hd:Nat.blt d n=true)(k:WN N P n ops Q rest ((d,.int .i64 (a+b))::al) w): WN N P n ops Q ((0,⟨some d,.binOp .add t x y yt,ty,pos,aft,none⟩)::rest) al w:=by
 have e:IntKind.i64.wrap (a+b)=a+b:=by rw[IntKind.wrap_i64];omega
 exact np_ (tt:=[]) trivial (v:=.int .i64 (a+b)) (by grind [pv,bop]) hd k
theorem nsub_{t:TypeId}{b:Int}(hx:ev al x=some (.int .i64 a))(hy:ev al y=some (.int .i64 b))(hc:-9223372036854775808<=a-b/\a-b<=9223372036854775807)(hd:Nat.blt d n=true)(k:WN N P n ops Q rest ((d,.int .i64 (a-b))::al) w): WN N P n ops Q ((0,⟨some d,.binOp .sub t x y yt,ty,pos,aft,none⟩)::rest) al w:=by
 have e:IntKind.i64.wrap (a-b)=a-b:=by rw[IntKind.wrap_i64];omega
 exact np_ (tt:=[]) trivial (v:=.int .i64 (a-b)) (by grind [pv,bop]) hd k
theorem ν1{t:TypeId}{b:Int}(k:WN N P n ops Q drest ((d,.int .i64 (a+b))::al) w)(hx:ev al x=some (.int .i64 a):=by rfl)(hy:ev al y=some (.int .i64 b):=by rfl)(hd:Nat.blt d n=true:=by rfl)(hc:-9223372036854775808<=a+b/\a+b<=9223372036854775807:=by omega):
  WN N P n ops Q ((0,⟨some d,.binOp .add t x y yt,ty,pos,aft,none⟩)::drest) al w:=nadd_ hx hy hc hd k
theorem ν2{t:TypeId}{b:Int}(k:WN N P n ops Q drest ((d,.int .i64 (a-b))::al) w)(hx:ev al x=some (.int .i64 a):=by rfl)(hy:ev al y=some (.int .i64 b):=by rfl)(hd:Nat.blt d n=true:=by rfl)(hc:-9223372036854775808<=a-b/\a-b<=9223372036854775807:=by omega):
  WN N P n ops Q ((0,⟨some d,.binOp .sub t x y yt,ty,pos,aft,none⟩)::drest) al w:=nsub_ hx hy hc hd k
theorem nkv(s:Nat)(hv:v=u)(k:WN N P n ops Q l ((s,u)::al) w)(hs:lk al s=some v:=by rfl): WN N P n ops Q l al w:=Qzs s u hs hv k
theorem nload(hT:TOk P tt)(ht:tk tt t=some k)(hk:Xp k.desc=true)(hx:ev al x=some (.pointer (some p)))(hc:∀ w',GrN N w w'->w'.cell? p=some v)(hd:Nat.blt d n=true)(kk:WN N P n ops Q rest ((d,v)::al) w): WN N P n ops Q ((0,⟨some d,.load t x,ty,pos,aft,none⟩)::rest) al w :=
 ny_ (λw' i a j=>by simp[execOp,j.ev hx,Instr.loadAt,Instr.sureAddr,Jfd (w:=w') hT ht hk (hc w' i)]) hd kk
theorem Qzr(hT:TOk P tt)(ht:tk tt t=some k)(hk:k.desc=.invalid)(hl:k.size=cs.length)(hx:ev al x=some (.pointer (some p)))(hc:∀ w',GrN N w w'->∀ j u,cs[j]?=some u->w'.cell? (p.add j)=some u)(hd:Nat.blt d n=true)(kk:WN N P n ops Q rest ((d,.agg cs.toArray)::al) w): WN N P n ops Q ((0,⟨some d,.load t x,ty,pos,aft,none⟩)::rest) al w :=
 ny_ (λw' i a y=>by simp[execOp,y.ev hx,Instr.loadAt,Instr.sureAddr,Kc (w:=w') hT ht hk hl (hc w' i)]) hd kk
theorem Qzt(hT:TOk P tt){sz:Nat}{c:Nat}{kd:IntKind}(q:Nat)(j:Nat)(ht:tk tt t=some k)(hk:k.desc=.slice e)(hz:k.esz=sz)(hx:ev al x=some (.slice A m c))(hi:ev al i=some (.int kd z))(hr:Rd w sz A m cs)(hj:z=(j:Int))(hlt:j<m)(h0:0<sz)(hq:j*sz=q)(hd:Nat.blt d n=true)(kk:WN N P n ops Q rest ((d,.pointer (some (adr A q)))::al) w): WN N P n ops Q ((0,⟨some d,.indexAddr t x i,ty,pos,aft,none⟩)::rest) al w:=by
 obtain⟨y,B⟩:=Yg hT ht hk hz;obtain⟨J,rfl,G⟩:=hr.isome om h0;subst hj;subst hq;refine ny_ (λw' D a u=>?_) hd kk;simp[execOp,u.ev hx,u.ev hi,Instr.indexAt,asIntOf,run_underlying y,Zd w' B,adr];intro h;omega
theorem Qzv(hT:TOk P tt){c:Nat}{kd:IntKind}(j:Nat)(ht:tk tt t=some k)(hk:k.desc=.slice e)(hz:k.esz=1)(hx:ev al x=some (.slice A m c))(hi:ev al i=some (.int kd z))(hr:Rd w 1 A m cs)(hj:z=(j:Int))(hlt:j<m)(hd:Nat.blt d n=true)(kk:WN N P n ops Q rest ((d,.pointer (some (adr A j)))::al) w): WN N P n ops Q ((0,⟨some d,.indexAddr t x i,ty,pos,aft,none⟩)::rest) al w :=
 Qzt hT j j ht hk hz hx hi hr hj hlt om om hd kk
theorem nld[h:Tab P tt](hc:∀ w',GrN N w w'->w'.cell? p=some v)(kk:WN N P n ops Q drest ((d,v)::al) w)(ht:tk tt t=some k:=by rfl)(hk:Xp k.desc=true:=by rfl)(hx:ev al x=some (.pointer (some p)):=by rfl)(hd:Nat.blt d n=true:=by rfl): WN N P n ops Q ((0,⟨some d,.load t x,ty,pos,aft,none⟩)::drest) al w:=nload h.ok ht hk hx hc hd kk
theorem Jjl[h:Tab P tt](hc:∀ w',GrN N w w'->∀ j u,cs[j]?=some u->w'.cell? (p.add j)=some u)(kk:WN N P n ops Q drest ((d,.agg cs.toArray)::al) w)(ht:tk tt t=some k:=by rfl)(hk:k.desc=.invalid:=by rfl)(hl:k.size=cs.length:=by rfl)(hx:ev al x=some (.pointer (some p)):=by rfl)(hd:Nat.blt d n=true:=by rfl): WN N P n ops Q ((0,⟨some d,.load t x,ty,pos,aft,none⟩)::drest) al w:=Qzr h.ok ht hk hl hx hc hd kk
theorem nix[h:Tab P tt]{c:Nat}{kd:IntKind}(j:Nat)(hr:Rd w 1 A m cs)(hlt:j<m)(kk:WN N P n ops Q drest ((d,.pointer (some (adr A j)))::al) w)(ht:tk tt t=some k:=by rfl)(hk:k.desc=.slice e:=by rfl)(hz:k.esz=1:=by rfl)(hx:ev al x=some (.slice A m c):=by rfl)(hi:ev al i=some (.int kd z):=by rfl)(hj:z=(j:Int):=by first|rfl|omega)(hd:Nat.blt d n=true:=by rfl):
  WN N P n ops Q ((0,⟨some d,.indexAddr t x i,ty,pos,aft,none⟩)::drest) al w:=Qzv h.ok j ht hk hz hx hi hr hj hlt hd kk
def toN(N:Nat->Prop)(P:Program)(ops:Array Oper)(Q:Exit->Act->World->Prop)(w0:World)(rest:List (Nat×Oper)): Exit->Act->World->Prop
 | .normal,a,w=>GrN N w0 w/\Xw N P ops Q rest a w
 | _,_,_=>False
theorem Zh{w0:World}(hx:GrN N w0 w)(h:WN N P n ops Q drest al w): QX n (toN N P ops Q w0 drest) .normal al w:=λa i=>⟨hx,h a i⟩
theorem nop(h:WL P n ops (toN N P ops Q w drest) [o] al w): WN N P n ops Q ((1,o)::drest) al w:=λa u=>by
 have i:=h a u;unfold wpList at i;unfold Xw Yd;simp only;have j:¬ LetsOut (toN N P ops Q w drest):=by rintro⟨a,w,h⟩;exact h
 split
 .rename_i hw;simp only[hw,if_true]at i;rcases i with i|⟨_,i⟩
  .refine Oper.wp_mono (K:=wpList P ops (toN N P ops Q w drest) []) (λB w' y=>y) ?_;unfold Oper.wp at i ⊢;grind [Ve,toN]
  exact absurd i j
 rename_i hw;simp only[hw]at i;exact i.2
def toT(N:Nat->Prop)(P:Program)(ops:Array Oper)(Q:Exit->Act->World->Prop)(rest:List (Nat×Oper)): Exit->Act->World->Prop
 | .normal,a,w=>Xw N P ops Q rest a w
 | _,_,_=>False
theorem Km(h:WN N P n ops Q drest al w): QX n (toT N P ops Q drest) .normal al w:=h
theorem Kn(h:WL P n ops (toT N P ops Q drest) [o] al w): WN N P n ops Q ((2,o)::drest) al w:=λa y=>by
 have i:=h a y;unfold wpList at i;unfold Xw Yd;simp only;have j:¬ LetsOut (toT N P ops Q drest):=by rintro⟨a,w,h⟩;exact h
 split
 .rename_i hw;simp only[hw,if_true]at i;rcases i with i|⟨_,i⟩
  .refine Oper.wp_mono (K:=Xw N P ops Q drest) (λD w' B=>B) ?_;unfold Oper.wp at i ⊢;exact Ve (Q:=toT N P ops Q drest) (λc a w u=>u.elim) (λu=>absurd u j) i
  exact absurd i j
 rename_i hw;simp only[hw]at i;exact i
theorem Gl(hc:w.cell? p=some v)(hn:¬ N p.block): ∀ w',GrN N w w'->w'.cell? p=some v:=λw' i=>by
 rw[<-hc];exact World.cell?_of_block (i.block _ (World.block_lt_of_cell? w p hc) hn)
end
end Go.Wk
namespace Go.Wk
theorem ρn{p q:Prop}(h:p)(t:Hold p->q:=by intro h;(repeat first|refine ν1 ?_|refine ν2 ?_|refine ν4 ?_|refine ν5 ?_|refine ν6 ?_|refine ν7 ?_|refine ν9 ?_|refine ν8 ?_|refine χ1 ?_|refine χ2 ?_|refine χ3 ?_|refine χ4 ?_|refine χ5 ?_|refine χ6 ?_|refine χ7 ?_);exact h.of): q:=t ⟨h⟩
end Go.Wk
namespace Go.Proofs.YtebiphhfkdbpfaaGreatDoor
open Go.RowKit Pl Go.Wk
attribute [local irreducible] WC WL QX WD WDB WP
variable {b base d l t:Nat}{fs fs':Nat->List Nat}{vs vs':Nat->Row}{fv vv:Nat->Value}{A:Option Addr}{w:World}
structure TriB(w:World)(base:Nat)(A:Option Addr)(d:Nat)(vv fv:Nat->Value)(vs:Nat->Row)(fs:Nat->List Nat): Prop where
 lev:w.ownsRow base 314 2 (.slice A d d) d (Vb d vv fv)
 vals:Fam w base 102 3 d vv (λl=>(vs l).length) (λl=>Qz (vs l))
 fst:Fam w base 3 1 d fv (λl=>(fs l).length) (λl=>Jl (nz (fs l)))
section
variable {w w':World} {base:Nat} {A:Option Addr} {d:Nat} {vv fv:Nat->Value} {vs:Nat->Row} {fs:Nat->List Nat}
theorem TriB.ext(h:TriB w base A d vv fv vs fs)(hx:Ext w w'): TriB w' base A d vv fv vs fs:=⟨Ju h.lev hx,h.vals.ext hx,h.fst.ext hx⟩
theorem TriB.vform(h:TriB w base A d vv fv vs fs)(hl:l<d): ∃ B c,vv l=.slice B (vs l).length c/\(vs l).length<=c/\Rd w 3 B (vs l).length (Qz (vs l)):=by
 obtain⟨B,c,e,i,_⟩:=Jf (h.vals.own l hl);refine⟨B,c,e,i,?_⟩;have:=h.vals.own l hl;rw[e]at this;exact Rd.own this
theorem TriB.fform(h:TriB w base A d vv fv vs fs)(hl:l<d): ∃ B c,fv l=.slice B (fs l).length c/\(fs l).length<=c/\Rd w 1 B (fs l).length (Jl (nz (fs l))):=by
 obtain⟨B,c,e,i,_⟩:=Jf (h.fst.own l hl);refine⟨B,c,e,i,?_⟩;have:=h.fst.own l hl;rw[e]at this;exact Rd.own this
theorem TriB.rd(h:TriB w base A d vv fv vs fs): Rd w 2 A d (Vb d vv fv):=Rd.own h.lev
theorem TriB.v(h:TriB w base A d vv fv vs fs)(hl:l<d): w.cell? (adr A (l*2))=some (vv l):=h.rd.cell (Jyr d vv fv hl).1
theorem TriB.v0(h:TriB w base A d vv fv vs fs)(hl:l<d): w.cell? ((adr A (l*2)).add 0)=some (vv l):=by rw[add_zero];exact h.v hl
theorem TriB.f1(h:TriB w base A d vv fv vs fs)(hl:l<d): w.cell? ((adr A (l*2)).add 1)=some (fv l):=by rw[Gu];exact h.rd.cell (Jyr d vv fv hl).2
theorem TriB.f(h:TriB w base A d vv fv vs fs)(hl:l<d): w.cell? (adr A (l*2+1))=some (fv l):=h.rd.cell (Jyr d vv fv hl).2
end
def ownT(A:Option Addr)(d:Nat)(vv fv:Nat->Value)(k:Nat): Prop:=(Value.slice A d d).ownBlock=some k∨∃ l,l<d/\((vv l).ownBlock=some k∨(fv l).ownBlock=some k)
theorem TriB.box(h:TriB w base A d vv fv vs fs){cs:List Value}(hB:Blk w b t cs)(h1:Nat.beq 314 t=false)(h2:Nat.beq 102 t=false)(h3:Nat.beq 3 t=false): ¬ ownT A d vv fv b:=by
 rintro(e|⟨l,i,e|e⟩)
 .exact hB.ne_own h.lev h1 e.symm
 .exact hB.ne_own (h.vals.own l i) h2 e.symm
 exact hB.ne_own (h.fst.own l i) h3 e.symm
theorem TriB.congr(h:TriB w base A d vv fv vs fs)(h1:∀ l,l<d->vs' l=vs l)(h2:∀ l,l<d->fs' l=fs l): TriB w base A d vv fv vs' fs' :=
 ⟨h.lev,⟨λi hi=>by rw[h1 i hi];exact h.vals.own i hi,h.vals.dis⟩,⟨λi hi=>by rw[h2 i hi];exact h.fst.own i hi,h.fst.dis⟩⟩
open Go.RowKit Pl Go.Wk
attribute [local irreducible] WN
variable {base d:Nat}
def TriV(w:World)(v:Value)(d:Nat)(rs:List Row): Prop:=∃(A:Option Addr) (vv fv:Nat->Value) (fs:Nat->List Nat),v=.agg #[.slice A d d]/\Rd w 2 A d (Vb d vv fv)/\(∀ l,l<d->∃ B c,vv l=.slice B (lvl rs l).length c/\RdR w B (lvl rs l)) /\
 (∀ l,l<d->∃ B c,fv l=.slice B (fs l).length c/\Rd w 1 B (fs l).length (Jl (nz (fs l))))/\∀ l,l+1<d->Chl rs l (fs l)
theorem TriV.ext{w w':World}{v:Value}{d:Nat}{rs:List Row}(h:TriV w v d rs)(hx:Ext w w'): TriV w' v d rs:=by
 obtain⟨A,vv,fv,fs,y,u,D,B,j⟩:=h;refine⟨A,vv,fv,fs,y,u.ext hx,λl i=>?_,λl i=>?_,j⟩;repeat grind [Rd.ext]
theorem TriB.off{w:World}{A:Option Addr}{vv fv:Nat->Value}{rs:List Row}{fs:Nat->List Nat}{N:Nat->Prop}(h:TriB w base A d vv fv (lvl rs) fs)(hc:∀ l,l+1<d->Chl rs l (fs l))(hN:∀ j,ownT A d vv fv j->¬ N j): Off N w (λu=>TriV u (.agg #[.slice A d d]) d rs):=by
 intro u D;refine⟨A,vv,fv,fs,rfl,Ug h.rd D (λ_ J e=>?_),λl i=>?_,λl i=>?_,hc⟩
 .subst e;exact hN _ (.inl rfl)
 .obtain⟨B,c,e,_,y⟩:=h.vform i;refine⟨B,c,e,Ug y D λ_ J G=>hN _ (.inr ⟨l,i,.inl ?_⟩)⟩;rw[e,G];rfl
 obtain⟨B,c,e,_,y⟩:=h.fform i;refine⟨B,c,e,Ug y D λ_ J G=>hN _ (.inr ⟨l,i,.inr ?_⟩)⟩;rw[e,G];rfl
open Go.RowKit Pl Go.Wk
theorem TriB.nil(w:World)(base:Nat){A:Option Addr}{d:Nat}(hl:w.ownsRow base 314 2 (.slice A d d) d (Vb d (λ_=>.slice none 0 0) (λ_=>.slice none 0 0))): TriB w base A d (λ_=>.slice none 0 0) (λ_=>.slice none 0 0) (λ_=>[]) (λ_=>[]) :=
 ⟨hl,⟨λi hi=>Zg _ _ _ _,λi j g _ _ _ e=>by cases e⟩,⟨λi hi=>Zg _ _ _ _,λi j g _ _ _ e=>by cases e⟩⟩
end Go.Proofs.YtebiphhfkdbpfaaGreatDoor
namespace Go.Wk
open Go.RowKit
variable {e g j m:Nat}
section
variable {N:Nat->Prop} {P:Program} {n:Nat} {al:AL} {w:World} {Q:Exit->Act->World->Prop} {ops:Array Oper} {rest:List Oper} {drest:List (Nat×Oper)}
variable {d ty:Nat} {op:Op} {pos:String} {aft:Array Edge} {tt:TT}
theorem nixa[h:Tab P tt]{x i:Operand}{t:Nat}{k:TK}{p:Addr}{kd:IntKind}{z:Int}(j:Nat)(hlt:j<m)(kk:WN N P n ops Q drest ((d,.pointer (some (p.add (j*k.esz))))::al) w)(ht:tk tt t=some k:=by rfl)(hk:k.desc=.array m e:=by rfl)(hx:ev al x=some (.pointer (some p)):=by rfl)(hi:ev al i=some (.int kd z):=by rfl)(hj:z=(j:Int):=by first|rfl|omega)(hd:Nat.blt d n=true:=by rfl): WN N P n ops Q ((0,⟨some d,.indexAddr t x i,ty,pos,aft,none⟩)::drest) al w :=
 ny_ (λw' _ a u=>Jxc h.ok j ht hk hlt u hx hi hj (some d) w') hd kk
end
theorem Blk.sub{w:World}{t:TypeId}{cs:List Value}(h:Blk w g t cs){i:Nat}{v:Value}(hv:cs[i+j]?=some v): w.cell? ((⟨g,i,none⟩:Addr).add j)=some v:=by rw[Uq,h.cell];exact hv
end Go.Wk
namespace Go.Proofs.YtebiphhfkdbpfaaGreatDoor
open Go.RowKit Pl Go.Wk
attribute [local irreducible] WC WL QX WD WDB WP WN
def itC(A:Option Addr)(d L p e:Nat)(f h:Nat->Nat)(st:Int): List Value:=[.slice A d d,.int .i64 (L:Int),.int .i64 (p:Int),.int .i64 (e:Int)]++Vb 32 (λk=>.int .i64 (f k:Int)) (λk=>.int .i64 (h k:Int))++[.int .i64 st]
abbrev ItB(w:World)(g:Nat)(A:Option Addr)(d L p e:Nat)(f h:Nat->Nat)(st:Int): Prop:=Blk w g 319 (itC A d L p e f h st)
def TriA(w:World)(A:Option Addr)(d:Nat)(rs:List Row): Prop:=∃(vv fv:Nat->Value) (fs:Nat->List Nat),Rd w 2 A d (Vb d vv fv)/\(∀ l,l<d->∃ B c,vv l=.slice B (lvl rs l).length c/\RdR w B (lvl rs l)) /\
 (∀ l,l<d->∃ B c,fv l=.slice B (fs l).length c/\Rd w 1 B (fs l).length (Jl (nz (fs l))))/\∀ l,l+1<d->Chl rs l (fs l)
theorem TriV.a{w:World}{A:Option Addr}{d:Nat}{rs:List Row}(h:TriV w (.agg #[.slice A d d]) d rs): TriA w A d rs:=by
 obtain⟨u,vv,fv,fs,i,j⟩:=h;injection i with i
 have:Value.slice A d d=.slice u d d:=by simpa using i
 injection this with i
 subst i;exact⟨vv,fv,fs,j⟩
theorem TriA.ext{w w':World}{A:Option Addr}{d:Nat}{rs:List Row}(h:TriA w A d rs)(hx:Ext w w'): TriA w' A d rs:=by
 obtain⟨vv,fv,fs,u,B,y,j⟩:=h;refine⟨vv,fv,fs,u.ext hx,λl i=>?_,λl i=>?_,j⟩;repeat grind [Rd.ext]
section
variable {w:World} {g:Nat} {A:Option Addr} {d L p e:Nat} {f h:Nat->Nat} {st:Int}
end
open Go.RowKit Pl Go.Wk
theorem zVal: Qm Tryz.prog 102=some V0.val:=kr
section
variable {w:World} {g:Nat} {A:Option Addr} {d L p e:Nat} {f h:Nat->Nat} {st:Int} {rs:List Row}
end
open Go.RowKit Pl Go.Wk
section
variable {w:World} {g:Nat} {A:Option Addr} {d L p e:Nat} {f h:Nat->Nat} {st:Int} {rs:List Row}
def Jgm(rs:List Row)(L p:Nat): Row:=if L=0 then[] else(pfx rs L).getD p []
end
open Go.RowKit Pl Go.Wk
structure Fix where
 G: Nat->Nat
 A:Nat->Option Addr
 d:Nat->Nat
 rs:Nat->List Row
structure Lev where
 L: Nat->Nat
 lo:Nat->Nat
 e:Nat->Nat
 f:Nat->Nat->Nat
 h:Nat->Nat->Nat
def Fix.val(F:Fix)(V':Lev)(i a:Nat): V:=(lvl (F.rs i) (V'.L i-1)).getD a V0
def ptrs(F:Fix)(I:List Nat): List Value:=I.map λi=>.pointer (some ⟨F.G i,0,none⟩)
structure OnS(F:Fix)(V':Lev)(I:List Nat): Prop where
 lev:∀ i∈I,0<V'.L i/\V'.L i<=F.d i/\F.d i<=32
 rng:∀ i∈I,V'.e i<=(lvl (F.rs i) (V'.L i-1)).length/\V'.e i<=1000000
 srt:∀ i∈I,∀ a b,V'.lo i<=a->a<b->b<V'.e i->cmpV (F.val V' i a) (F.val V' i b)<0
 inj:∀ i∈I,∀ j∈I,F.G i=F.G j->i=j
 len:I.length<=32
def JB(w:World)(J:Nat)(jr ja yv:Value): Prop:=∃ st:Int,Blk w J 290 [jr,ja,.int .i64 st,yv]
end Go.Proofs.YtebiphhfkdbpfaaGreatDoor
namespace Go.Proofs.YtebiphhfkdbpfaaGreatDoor
open Pl
variable {vs:List Nat}{d k l u v:Nat}{q y z z':Row}
def Ic(vs:List Nat): Prop:=vs.Pairwise (· < ·)
def lv(vs:List Nat)(v:Nat): Nat:=(vs.filter λu=>decide (u<v)).length
theorem Jzf(u:Nat)(vs:List Nat)(v:Nat): lv (u::vs) v=(if u<v then 1 else 0)+lv vs v:=by grind [lv,List.filter_cons_of_pos,List.length_cons,List.filter_cons_of_neg]
theorem Jhk(h:∀ u∈vs,v<=u): lv vs v=0:=by grind [lv,List.filter_eq_nil_iff.2]
theorem Jhj(h:v ∉ vs): lv vs (v+1)=lv vs v:=by
 induction vs with
 | nil=>rfl
 | cons u vs ih=>
  grind [Jzf,List.mem_cons_of_mem,List.mem_cons_self]
theorem Jzd(ha:Ic vs)(h:v∈vs): lv vs (v+1)=lv vs v+1/\lv vs v<vs.length/\vs.getD (lv vs v) 0=v:=by
 induction vs with
 | nil=>cases h
 | cons u vs ih=>
  obtain⟨j,i⟩:=List.pairwise_cons.1 ha;rw[Jzf,Jzf];rcases List.mem_cons.1 h with rfl|h'
  .grind [lv,Jhk,Nat.le_of_lt,List.length_cons]
  have G:=j v h';obtain⟨D,B,y⟩:=ih i h';grind
theorem Qwb(ha:Ic vs): vs.take (lv vs v)=vs.filter λu=>decide (u<v):=by
 induction vs with
 | nil=>rfl
 | cons u vs ih=>
  obtain⟨j,i⟩:=List.pairwise_cons.1 ha;by_cases h:u<v
  .rw[Jzf,if_pos h,Nat.add_comm 1,List.take_succ_cons,ih i,List.filter_cons_of_pos (by simpa using h)]
  repeat grind [lv,Jhk,List.mem_cons.1,List.filter_eq_nil_iff.2]
theorem Jsx(h:z.take v=z'.take v)(hu:u<v): z.getD u V0=z'.getD u V0:=by
 have:=congrArg (λl=>l.getD u V0) h;grind
theorem Jgd(ha:Ic vs)(h:z.take v=z'.take v): (pmR vs z).take (lv vs v)=(pmR vs z').take (lv vs v):=by
 unfold pmR;rw[<-List.map_take,<-List.map_take,Qwb ha];grind [List.map_congr_left,Jsx,List.mem_filter.1]
theorem pm_at(h:k<vs.length): (pmR vs z).getD k V0=z.getD (vs.getD k 0) V0:=Jgc h
theorem Qxg(ha:Ic vs)(h:v∈vs): (pmR vs z).take (lv vs v+1)=(pmR vs z).take (lv vs v)++[z.getD v V0]:=by
 obtain⟨_,i,j⟩:=Jzd ha h;rw[Xj V0 (by rw[Yz];exact i),pm_at i,j]
theorem Jsw(h1:q.length=l+1)(h2:q.take l=y): q=y++[q.getD l V0]:=by
 have:=Xj V0 (l:=q) (k:=l) om;grind
theorem Qxk{rs:List Row}(h:Srt [] rs)(hl:∀ r∈rs,r.length=d)(hld:l<=d)(hq:q∈pfx rs l): q.length=l:=by grind [Qxj,List.length_take]
open Go.RowKit Pl Go.Wk
attribute [local irreducible] WC WL QX WD WDB WP WN
structure JC where
 F: Fix
 n:Nat
 m:Nat
 vars:Nat->List Nat
 J:Nat
 Ra:Option Addr
 base:Nat
 ja:Value
 yv:Value
 vat:Nat->Value
 N:Nat->Prop
def JC.I(c:JC)(v:Nat): List Nat:=(List.range c.m).filter λi=>decide (v∈c.vars i)
theorem JC.mem_I{c:JC}{v i:Nat}: i∈c.I v↔i<c.m/\v∈c.vars i:=by simp[JC.I]
def JC.rowv(c:JC): Value:=.slice c.Ra c.n c.n
def JC.NI(c:JC)(k:Nat): Prop:=k=c.J∨(∃ i,i<c.m/\k=c.F.G i)∨c.rowv.ownBlock=some k
structure JOk(c:JC): Prop where
 n32:c.n<=32
 m32:c.m<=32
 asc:∀ i,i<c.m->Ic (c.vars i)
 lt:∀ i,i<c.m->∀ u∈c.vars i,u<c.n
 d:∀ i,i<c.m->c.F.d i=(c.vars i).length
 d32:∀ i,i<c.m->c.F.d i<=32
 ne:∀ i,i<c.m->c.F.rs i≠[]
 srt:∀ i,i<c.m->Lt [] (c.F.rs i)
 len:∀ i,i<c.m->∀ r∈c.F.rs i,r.length=c.F.d i
 big:∀ i,i<c.m->(c.F.rs i).length<=65536
 inj:∀ i j,i<c.m->j<c.m->c.F.G i=c.F.G j->i=j
 gj:∀ i,i<c.m->c.F.G i≠c.J
 cov:∀ v,v<c.n->∃ i,i<c.m/\v∈c.vars i
 sub:∀ k,c.NI k->c.N k
structure JEnv(c:JC)(w:World): Prop where
 tri:∀ i,i<c.m->Off c.N w (λu=>TriA u (c.F.A i) (c.F.d i) (c.F.rs i))
 at_:∃ B cc,c.ja=.slice B c.n cc/\Off c.N w (λu=>Rd u 1 B c.n ((List.range c.n).map c.vat))
 lists:∀ v,v<c.n->∃ B cc,c.vat v=.slice B (c.I v).length cc/\Off c.N w (λu=>Rd u 1 B (c.I v).length (ptrs c.F (c.I v)))
theorem JEnv.gr{c:JC}{w w':World}(h:JEnv c w)(hg:GrN c.N w w'): JEnv c w':=by
 refine⟨λi hi=>(h.tri i hi).gr hg,?_,λv y=>?_⟩
 .obtain⟨B,u,e,j⟩:=h.at_;exact⟨B,u,e,j.gr hg⟩
 obtain⟨B,u,e,j⟩:=h.lists v y;exact⟨B,u,e,j.gr hg⟩
def AllIt(c:JC)(w:World)(L p e:Nat->Nat)(f h:Nat->Nat->Nat): Prop:=∀ i,i<c.m->∃ st,ItB w (c.F.G i) (c.F.A i) (c.F.d i) (L i) (p i) (e i) (f i) (h i) st
structure YC(c:JC)(Y:List Row->World->Prop)(NY:Nat->Prop): Prop where
 sub:∀ k,NY k->c.N k
 off:∀ k,NY k->¬ c.NI k
 keep:∀ l w w',Y l w->GrN c.NI w w'->Y l w'
 call:∃ fid first cap,c.yv=.func (.func fid) first cap/\∀ l w vr z,Y l w->RowV w vr z->l.length<65536->Ret Tryz.prog fid (first.toList++[vr]++cap.toList) w λr w'=>r=.bool true/\Y (l++[z]) w'/\GrN NY w w'
structure Cfg(c:JC)(Y:List Row->World->Prop)(w:World)(z:Row)(L p e:Nat->Nat)(f h:Nat->Nat->Nat)(l:List Row): Prop where
 env:JEnv c w
 its:AllIt c w L p e f h
 row:Iy w c.base c.rowv z
 zl:z.length=c.n
 jb:JB w c.J c.rowv c.ja c.yv
 y:Y l w
section
variable {c:JC} {Y:List Row->World->Prop} {NY:Nat->Prop} {w w':World} {z:Row} {L p e:Nat->Nat} {f h:Nat->Nat->Nat} {l:List Row}
theorem Cfg.ext(H:Cfg c Y w z L p e f h l)(hY:YC c Y NY)(hx:Ext w w'): Cfg c Y w' z L p e f h l :=
 ⟨H.env.gr (GrN.ext hx),λi hi=>by obtain⟨st,j⟩:=H.its i hi;exact⟨st,j.ext hx⟩,Ju H.row hx,H.zl,by obtain⟨st,j⟩:=H.jb;exact⟨st,j.ext hx⟩,hY.keep _ _ _ H.y (GrN.ext hx)⟩
end
end Go.Proofs.YtebiphhfkdbpfaaGreatDoor
namespace Go.Wk
open Go.RowKit
open Go.Maps (Keyed)
variable {kl:Lit}{f:Lit->Option Value}{b k m:Nat}{x y:Operand}{kd:TK}{e t:TypeId}{key u v z:Value}
abbrev DV:= DataW Value
def RT(v:Value): Option (DV×List MemPlace):=some (.held v,[])
theorem Jpt{ps:List MemPlace}(h:RT v=some (.held u,ps)): v=u:=by grind [RT,Option.some.injEq]
def MapS(P:Program)(k:TypeId)(w:World)(b n:Nat)(f:Lit->Option Value): Prop :=
 ∃ D:DV,w.ownsMap P k RT b n D/\(∀ kl,Maps.has D kl=(f kl).isSome)/\∀ kl zd,D.atKey kl zd=(match f kl with|some v=>.held v|none=>zd)
def upL(f:Lit->Option Value)(kl:Lit)(x:Option Value): Lit->Option Value:=λz=>if z.sameKey kl=true then x else f z
section
variable {P:Program} {k:TypeId} {w w':World} {b n:Nat} {f:Lit->Option Value}
theorem MapS.lt(h:MapS P k w b n f): b<w.heap.size:=by obtain⟨D,i,_⟩:=h;exact i.lt
theorem MapS.kept{row:Option Nat}(h:MapS P k w b n f)(hg:w.grownBy w' row)(hne:some b≠row): MapS P k w' b n f:=by
 obtain⟨D,j,i⟩:=h;exact⟨D,j.kept hg hne,i⟩
theorem MapS.gr{N:Nat->Prop}(h:MapS P k w b n f)(hg:GrN N w w')(hn:¬ N b): MapS P k w' b n f:=by
 obtain⟨D,⟨es,i,u,B⟩,y⟩:=h;have j:b<w.heap.size:=by grind
 exact⟨D,⟨es,i,(hg.block b j hn).trans u,B⟩,y⟩
theorem MapS.ext(h:MapS P k w b n f)(hx:Ext w w'): MapS P k w' b n f:=h.gr (N:=λ_=>False) (GrN.ext hx) (λe=>e)
theorem MapS.mono(h:MapS P k w b n f){m:Nat}(hm:n<=m): MapS P k w b m f:=by obtain⟨D,j,i⟩:=h;exact⟨D,j.mono hm,i⟩
theorem MapS.made(w:World)(P:Program)(k:TypeId): MapS P k (w.alloc (.map #[] 0)) w.heap.size 0 (λ_=>none) :=
 ⟨.map [],World.ownsMap_made w P k RT,λi=>rfl,λi j=>rfl⟩
theorem Ia(hk:WideAt.IsKeyLit kl)(x:Option Value): upL f kl x kl=x:=by unfold upL;rw[if_pos (WideAt.sameKey_self hk)]
theorem Ir{z:Lit}(h:z≠kl)(x:Option Value): upL f kl x z=f z:=by
 unfold upL;rw[if_neg (by rw[Maps.sameKey_ne h];simp)]
theorem MapS.look(h:MapS P k w b n f)(K:Keyed P k)(ht:P.underlying t=some (.map k e))(hz:(zeroValue e).run P w=.ok z w)(hkey:keyOf P k key=some kl):
  (Instr.lookup t (.map (some b)) key true).run P w=.ok (.tuple #[(f kl).getD z,.bool (f kl).isSome]) w/\(Instr.lookup t (.map (some b)) key false).run P w=.ok ((f kl).getD z) w:=by
 obtain⟨D,i,B,y⟩:=h;have G:D.atKey kl (.held z)=.held ((f kl).getD z):=by grind
 constructor
 .obtain⟨v,ps,u,j⟩:=i.look_ok K ht hz (zd:=.held z) (zp:=[]) rfl hkey;grind [Jpt]
 obtain⟨v,ps,u,j⟩:=i.lookup K ht hz (zd:=.held z) (zp:=[]) rfl hkey;grind [Jpt]
theorem MapS.put(h:MapS P k w b n f)(K:Keyed P k)(ht:P.underlying t=some (.map k e))(hn:n<maxLen)(hkey:keyOf P k key=some kl)(v:Value):
  ∃ w',(Instr.mapUpdate t (.map (some b)) key v).run P w=.ok () w'/\MapS P k w' b (n+1) (upL f kl (some v))/\w.grownBy w' (some b):=by
 obtain⟨D,j,J,G⟩:=h;obtain⟨w',u,y,B⟩:=j.update K ht hn hkey (val:=v) (d:=.held v) (ps:=[]) rfl;have i:=K.key hkey;refine⟨w',u,⟨_,y,λx=>?_,λx O=>?_⟩,B⟩
 .by_cases e:x=kl
  .subst e;rw[Ia i,Maps.has_put_same j.isMap i];rfl
  rw[Ir e,Maps.has_put_other e,J]
 by_cases e:x=kl
 .subst e;rw[Ia i,Maps.atKey_put_same j.isMap i]
 rw[Ir e,Maps.atKey_put_other e,G]
theorem MapS.drop(h:MapS P k w b n f)(K:Keyed P k){t e:TypeId}(ht:P.underlying t=some (.map k e)){key:Value}{kl:Lit}(hkey:keyOf P k key=some kl)(ty:TypeId):
  ∃ w',(Builtin.delete_ #[t,k] ty #[.map (some b),key]).run P w=.ok (.tuple #[]) w'/\MapS P k w' b n (upL f kl none)/\w.grownBy w' (some b):=by
 obtain⟨D,J,G,B⟩:=h;obtain⟨w',j,u,y⟩:=J.drop K ht hkey ty;have i:=K.key hkey;refine⟨w',j,⟨_,u,λx=>?_,λx O=>?_⟩,y.grown⟩
 .by_cases e:x=kl
  .subst e;rw[Ia i,Maps.has_del_same];rfl
  rw[Ir e,Maps.has_del_other e,G]
 by_cases e:x=kl
 .subst e;rw[Ia i,Maps.atKey_del_same]
 rw[Ir e,Maps.atKey_del_other e,B]
theorem MapS.len0(h:MapS P k w b n f)(ht:P.underlying t=some (.map k e))(K:Keyed P k)(ty:TypeId): ∃ m:Nat,(Builtin.len_ #[t] ty #[.map (some b)]).run P w=.ok (.int .i64 (m:Int)) w/\(m=0↔∀ kl,f kl=none):=by
 obtain⟨D,u,j,y⟩:=h;refine⟨Maps.size D,u.len ht ty,?_⟩;obtain⟨es,rfl,_,i⟩:=u.entries K;constructor
 .intro h0 kl;have:es=[]:=List.eq_nil_of_length_eq_zero h0;subst this;have:=j kl;cases hf:f kl with
  | none=>rfl
  | some v=>rw[hf]at this;cases this
 intro hn;cases es with
 | nil=>rfl
 | cons p es=>
  have:=j p.1;rw[hn p.1,Maps.has_eq,List.any_cons,WideAt.sameKey_self (i p (mC ..))]at this;cases this
theorem Qjb(hz:Qm P t=some z)(w:World): (zeroValue t).run P w=.ok z w:=by
 unfold Qm at hz;obtain⟨i,u,j⟩:=Option.bind_eq_some_iff.1 hz;simp[zeroValue,typeInfo,u,j]
end
section
variable {N:Nat->Prop} {P:Program} {n:Nat} {al:AL} {w:World} {Q:Exit->Act->World->Prop} {ops:Array Oper} {rest:List Oper} {drest:List (Nat×Oper)}
variable {d ty:Nat} {pos:String} {aft:Array Edge} {tt:TT}
theorem mkm{t:Nat}(k:TypeId)(kk:∀ w1 b,Ext w w1->w.heap.size<=b->MapS P k w1 b 0 (λ_=>none)->WL P n ops Q rest ((d,.map (some b))::al) w1)(hd:Nat.blt d n=true:=by rfl):
  WL P n ops Q (⟨some d,.makeMap t none,ty,pos,aft,none⟩::rest) al w :=
 wop hd (λa i=>by
  show _=Result.ok (Next.value (.map (some w.heap.size))) (w.alloc (.map #[] 0));simp[execOp,run_makeMap]) (kk _ _ ((Ext.refl w).alloc _) (Nat.le_refl _) (MapS.made w P k))
theorem mlk[hT:Tab P tt]{t e:Nat}(K:Keyed P k)(hM:MapS P k w b m f)(hz:Qm P e=some z)(hkey:keyOf P k key=some kl)(kk:WL P n ops Q rest ((d,(f kl).getD z)::al) w)(ht:tk tt t=some kd:=by rfl)(hk:kd.desc=.map k e:=by rfl)(hx:ev al x=some (.map (some b)):=by rfl)(hy:ev al y=some key:=by rfl)(hd:Nat.blt d n=true:=by rfl):
  WL P n ops Q (⟨some d,.lookup t x y false,ty,pos,aft,none⟩::rest) al w :=
 wop hd (λa i=>by
  have:=(hM.look K (Gw hT.ok ht hk rfl) (Qjb hz w) hkey).2;simp[execOp,i.ev hx,i.ev hy,this]) kk
theorem mup[hT:Tab P tt]{t e:Nat}{z:Operand}(K:Keyed P k)(hM:MapS P k w b m f)(hm:m<maxLen)(hkey:keyOf P k key=some kl)(kk:∀ w1,MapS P k w1 b (m+1) (upL f kl (some v))->w.grownBy w1 (some b)->WL P n ops Q rest al w1)(ht:tk tt t=some kd:=by rfl)(hk:kd.desc=.map k e:=by rfl)(hx:ev al x=some (.map (some b)):=by rfl)(hy:ev al y=some key:=by rfl)(hv:ev al z=some v:=by rfl):
  WL P n ops Q (⟨none,.mapUpdate t x y z,ty,pos,aft,none⟩::rest) al w:=by
 obtain⟨w',j,B,u⟩:=hM.put K (Gw hT.ok ht hk rfl) hm hkey v;exact Il (λa i=>by simp[execOp,i.ev hx,i.ev hy,i.ev hv,j]) (kk w' B u)
end
end Go.Wk
namespace Go.Wk
open Go.RowKit
variable {α β:Type}
def Un(base:Nat)(v:Value)(k:Nat): Prop:=k<base∨v.ownBlock=some k
def Jc(ps:List (List Value×α)): List Value:=ps.flatMap (·.1)
theorem Jlz{α:Type}{sz:Nat}: ∀ {ps:List (List Value×α)},(∀ p∈ps,p.1.length=sz)->(Jc ps).length=ps.length*sz
 | [],_=>by simp[Jc]
 | p::ps,h=>by
  have:=Jlz (ps:=ps) λq hq=>h q (List.mem_cons_of_mem _ hq);grind [Jc,List.length_append,List.length_cons,List.mem_cons_self,Nat.succ_mul]
theorem Jyp{α:Type}{sz:Nat}: ∀ {ps:List (List Value×α)} {i j:Nat} {p:List Value×α},(∀ p∈ps,p.1.length=sz)->ps[i]?=some p->j<sz->(Jc ps)[i*sz+j]?=p.1[j]?
 | [],_,_,_,_,h,_=>by cases h
 | q::ps,0,j,p,hl,h,hj=>by
  simp only[List.getElem?_cons_zero,Option.some.injEq]at h;subst h;simp only[Jc,List.flatMap_cons,Nat.zero_mul,Nat.zero_add];grind
 | q::ps,i+1,j,p,hl,h,hj=>by
  simp only[List.getElem?_cons_succ]at h;have ih:=Jyp (i:=i) (j:=j) (λp hp=>hl p (List.mem_cons_of_mem _ hp)) h hj;grind [Jc,List.getElem?_append_right,List.mem_cons_self,Nat.succ_mul]
section
variable {α:Type} {E:TypeId} {sz:Nat} {Φ:World->List Value->α->Prop} {w w':World} {base:Nat} {v:Value} {ls:List α}
def OwnG(E:TypeId)(sz:Nat)(Φ:World->List Value->α->Prop)(w:World)(base:Nat)(v:Value)(ls:List α): Prop :=
 ∃ ps:List (List Value×α),ls=ps.map (·.2)/\w.ownsRow base E sz v ps.length (Jc ps)/\∀ p∈ps,p.1.length=sz/\Off (Un base v) w (λu=>Φ u p.1 p.2)
def GV(sz:Nat)(Φ:World->List Value->α->Prop)(w:World)(v:Value)(ls:List α): Prop :=
 ∃(ps:List (List Value×α)) (A:Option Addr) (c:Nat),ls=ps.map (·.2)/\v=.slice A ps.length c/\ps.length<=c/\ps.length<=1100000/\Rd w sz A ps.length (Jc ps)/\∀ p∈ps,p.1.length=sz/\Φ w p.1 p.2
theorem OwnG.nil(w:World)(base:Nat): OwnG E sz Φ w base (.slice none 0 0) []:=⟨[],rfl,Zg _ _ _ _,λp i=>by cases i⟩
theorem OwnG.gr{N:Nat->Prop}(h:OwnG E sz Φ w base v ls)(hg:GrN N w w')(hN:∀ k,N k->k<base): OwnG E sz Φ w' base v ls:=by
 obtain⟨ps,e,u,i⟩:=h;refine⟨ps,e,Qn u hg (λg B hn=>?_),λp j=>⟨(i p j).1,(i p j).2.gr (hg.mono λk _ y=>.inl (hN k y))⟩⟩;grind [Jf]
theorem OwnG.ext(h:OwnG E sz Φ w base v ls)(hx:Ext w w'): OwnG E sz Φ w' base v ls:=h.gr (N:=λ_=>False) (GrN.ext hx) (λk e=>e.elim)
theorem OwnG.form(h:OwnG E sz Φ w base v ls): ∃ A c,v=.slice A ls.length c/\ls.length<=c/\∀ g,v.ownBlock=some g->base<=g/\g<w.heap.size:=by
 obtain⟨ps,e,j,i⟩:=h;grind [Jf,List.length_map]
theorem OwnG.gv(h:OwnG E sz Φ w base v ls)(hm:ls.length<=1100000): GV sz Φ w v ls:=by
 obtain⟨ps,e,j,i⟩:=h;obtain⟨A,c,y,u,B⟩:=Jf j;subst y;exact⟨ps,A,c,e,rfl,u,by grind,Rd.own j,λp hm=>⟨(i p hm).1,(i p hm).2.here⟩⟩
theorem OwnG.off(h:OwnG E sz Φ w base v ls)(hm:ls.length<=1100000): Off (λk=>k<base) w (λu=>GV sz Φ u v ls):=λw' j=>(h.gr j λk i=>i).gv hm
theorem GV.ext(h:GV sz Φ w v ls)(hx:Ext w w')(hΦ:∀ cs a,Φ w cs a->Φ w' cs a): GV sz Φ w' v ls:=by
 obtain⟨ps,A,c,e,D,B,y,u,i⟩:=h;exact⟨ps,A,c,e,D,B,y,u.ext hx,λp j=>⟨(i p j).1,hΦ _ _ (i p j).2⟩⟩
theorem GV.imp{Ψ:World->List Value->β->Prop}{f:α->β}(h:GV sz Φ w v ls)(hΦ:∀ cs a,a∈ls->Φ w cs a->Ψ w cs (f a)): GV sz Ψ w v (ls.map f):=by
 obtain⟨ps,A,c,e,G,D,B,i,j⟩:=h;have y:Jc (ps.map λp=>(p.1,f p.2))=Jc ps:=by simp[Jc,List.flatMap_map]
 refine⟨ps.map λp=>(p.1,f p.2),A,c,by rw[e];simp,by grind,by grind,by grind,by grind,λp u=>?_⟩;grind
theorem GV.len(h:GV sz Φ w v ls): ∃ A c,v=.slice A ls.length c/\ls.length<=c/\ls.length<=1100000:=by
 obtain⟨ps,A,c,e,B,y,u,i,j⟩:=h;grind
theorem GV.parts(h:GV sz Φ w v ls): ∃ A c cs,v=.slice A ls.length c/\ls.length<=c/\ls.length<=1100000/\Rd w sz A ls.length cs/\∀ i (hi:i<ls.length),∃ ce,ce.length=sz/\Φ w ce ls[i]/\∀ j u,ce[j]?=some u->w.cell? ((adr A (i*sz)).add j)=some u:=by
 obtain⟨ps,A,c,e,e1,Z,U,G,B⟩:=h;subst e;refine⟨A,c,Jc ps,by grind,by grind,by grind,by grind,λi hi=>?_⟩;rw[List.length_map]at hi;have J:=B ps[i] (List.getElem_mem hi);refine⟨ps[i].1,J.1,by grind,λj u D=>?_⟩;have O:j<sz:=by grind
 rw[Gu];exact G.cell ((Jyp (λp y=>(B p y).1) (gE hi) O).trans D)
theorem OwnG.after{ps:List (List Value×α)}(e:ls=ps.map (·.2))(hp:∀ p∈ps,p.1.length=sz/\Off (Un base v) w (λu=>Φ u p.1 p.2)){v':Value}{w':World}{cs:List Value}{x:α}(hl:cs.length=sz)(hx:Off (Un base v) w (λu=>Φ u cs x))(ho:w'.ownsRow base E sz v' (ps.length+1) (Jc ps++cs))(hg:w.grownBy w' v.ownBlock)(hn:∀ g,v'.ownBlock=some g->v.ownBlock=some g∨w.heap.size<=g): OwnG E sz Φ w' base v' (ls++[x]):=by
 have i:∀(cs:List Value) (x:α),Off (Un base v) w (λu=>Φ u cs x)->Off (Un base v') w' (λu=>Φ u cs x):=λcs x y=>by
  have J:Off (Un base v) w' (λu=>Φ u cs x):=y.gr (GrN.by hg λk j=>.inr j);have D:Off (λk=>Un base v k∨Un base v' k) w (λu=>Φ u cs x):=y.mono λk j h=>by
   rcases h with h|h|h
   .exact h
   .exact .inl h
   rcases hn k h with h4|h4
   .exact .inr h4
   omega
  exact(D.gr (GrN.by hg λk j=>.inl (.inr j))).mono λk _ h=>.inr h
 refine⟨ps++[(cs,x)],by rw[e];simp,?_,λp B=>?_⟩
 .have G:Jc (ps++[(cs,x)])=Jc ps++cs:=by simp[Jc]
  rw[List.length_append,G];exact ho
 rcases List.mem_append.1 B with h'|h'
 .exact⟨(hp p h').1,i _ _ (hp p h').2⟩
 rw[List.mem_singleton.1 h'];exact⟨hl,i _ _ hx⟩
end
end Go.Wk
namespace Go.Proofs.YtebiphhfkdbpfaaGreatDoor
namespace Pl
variable {cs l ord r:List Nat}{N c j n u v:Nat}{g h:Nat->Nat}
def Vh: Nat->(Nat->Nat)->Nat
 | 0,_=>1
 | n+1,g=>Vh n g*g n
theorem Qqt(e:∀ c,c<n->g c=h c): Vh n g=Vh n h:=by
 induction n with
 | zero=>rfl
 | succ n ih=>rw[Vh,Vh,ih (λc i=>e c om),e n om]
theorem prodR_pos: 0<Vh n g↔∀ c,c<n->0<g c:=by
 induction n with
 | zero=>exact⟨λ_ c i=>om,λ_=>Nat.one_pos⟩
 | succ n ih=>
  grind [Vh,Nat.pos_of_mul_pos_right,Nat.pos_of_mul_pos_left,Nat.mul_pos]
section
variable {α:Type}
def tot: List (α×Nat)->Nat
 | []=>0
 | p::l=>p.2+tot l
def prj(d0:α)(cs:List Nat)(y:List α): List α:=cs.map λc=>y.getD c d0
theorem Qqw{d0:α}{y z:List α}(h:∀ c∈cs,y.getD c d0=z.getD c d0): prj d0 cs y=prj d0 cs z:=List.map_congr_left h
theorem Jlr{d0:α}{y z:List α}(h:c<y.length): (y++z).getD c d0=y.getD c d0:=by grind
structure AX(α:Type) where
 d0: α
 F:Nat
 ks:Nat->List Nat
 par:Nat->Int
 E:Nat->List α->List (α×Nat)
def AX.key(X:AX α)(c:Nat)(y:List α): List α:=prj X.d0 (X.ks c) y
def AX.T(X:AX α)(c:Nat)(y:List α): Nat:=tot (X.E c (X.key c y))
structure AX.Ok(X:AX α): Prop where
 kl:∀ v,v<X.F->∀ u∈X.ks v,(u:Int)<=X.par v
 pl:∀ v,v<X.F->-1<=X.par v/\X.par v<v
 wt:∀ v,v<X.F->∀ y,y.length=v->∀ p∈X.E v (X.key v y),0<p.2/\p.2=Vh X.F (λc=>if X.par c=v then X.T c (y++[p.1]) else 1)
def AX.ext(X:AX α): Nat->List α->List (List α)
 | 0,y=>[y]
 | n+1,y=>(X.E y.length (X.key y.length y)).flatMap λp=>X.ext n (y++[p.1])
variable {X:AX α}
theorem AX.ext_mem: ∀(n:Nat) (y x:List α),x∈X.ext n y↔x.length=y.length+n/\x.take y.length=y/\∀ v,y.length<=v->v<y.length+n->x.getD v X.d0∈(X.E v (X.key v (x.take v))).map (·.1)
 | 0,y,x=>by grind [AX.ext,List.mem_singleton,List.take_length,List.take_of_length_le]
 | n+1,y,x=>by
  rw[AX.ext,List.mem_flatMap];constructor
  .rintro⟨p,hp,hx⟩;obtain⟨h1,h2,h3⟩:=(AX.ext_mem n _ x).1 hx;rw[List.length_append,List.length_singleton]at h1 h2 h3;have hy:x.take y.length=y:=by
    have:=congrArg (List.take y.length) h2;grind
   refine⟨om,hy,λv h4 h5=>?_⟩;by_cases e:v=y.length
   .subst e;rw[hy];have:x.getD y.length X.d0=p.1:=by
     have:=congrArg (λl=>l.getD y.length X.d0) h2;grind
    grind
   repeat grind
  rintro⟨h1,h2,h3⟩;obtain⟨p,hp,e⟩:=List.mem_map.1 (h3 y.length (Nat.le_refl _) om);rw[h2]at hp;refine⟨p,hp,(AX.ext_mem n _ x).2 ⟨?_,?_,λv h4 h5=>h3 v ?_ ?_⟩⟩
  .simp;omega
  .rw[List.length_append,List.length_singleton,e];have hl:y.length<x.length:=om
   grind [List.take_add_one,List.getD,List.getElem?_eq_getElem]
  repeat grind
end
structure BX(α:Type) where
 d0: α
 N:Nat
 F:Nat
 K:Nat->List Nat
 par:Nat->Int
 pl:Nat->Nat
 ats:List (List Nat×List (List α))
 T:Nat->List α->Nat
 E:Nat->List α->List (α×Nat)
section
variable {α:Type}
def BX.bag(X:BX α)(v:Nat)(z:List α): Prop:=∀ a∈X.ats,∃ r∈a.2,∀ j,j<a.1.length->(a.1.getD j 0=v∨a.1.getD j 0∈X.K v)->r.getD j X.d0=z.getD (a.1.getD j 0) X.d0
def BX.W(X:BX α)(v:Nat)(z:List α): Nat:=Vh X.N (λc=>if X.par c=v then X.T c (prj X.d0 (X.K c) z) else 1)
structure BX.Ok(X:BX α): Prop where
 FN:X.F<=X.N
 plN:∀ v,v<X.N->X.pl v<X.N
 inj:∀ u v,u<X.N->v<X.N->X.pl u=X.pl v->u=v
 k1:∀ v,v<X.N->∀ u∈X.K v,u<X.N/\X.pl v<X.pl u
 k2:∀ v,v<X.N->(X.K v=[]/\X.par v = -1)∨∃ p:Nat,X.par v=p/\p∈X.K v/\∀ u∈X.K v,X.pl p<=X.pl u
 k3:∀ v,v<X.N->∀ p:Nat,X.par v=p->∀ x∈X.K v,x=p∨x∈X.K p
 k4:∀ a∈X.ats,∀ v∈a.1,(∀ u∈a.1,X.pl v<=X.pl u)->∀ u∈a.1,u=v∨u∈X.K v
 k5:∀ u v,u<X.F->v<u->X.pl u<X.pl v
 k6:∀ u v,u<X.F->X.F<=v->v<X.N->X.pl v<X.pl u
 al:∀ a∈X.ats,(∀ u∈a.1,u<X.N)/\∀ r∈a.2,r.length=a.1.length
 t1:∀ v,X.F<=v->v<X.N->∀ k,X.T v k<=1/\(0<X.T v k↔∃ z,z.length=X.N/\X.bag v z/\prj X.d0 (X.K v) z=k/\0<X.W v z)
 t2:∀ v,v<X.F->∀ k,X.T v k=tot (X.E v k)/\∀ p,p∈X.E v k↔∃ z,z.length=X.N/\X.bag v z/\prj X.d0 (X.K v) z=k/\z.getD v X.d0=p.1/\p.2=X.W v z/\0<p.2
def BX.Roots(X:BX α): Prop:=(∀ v,v<X.N->X.par v = -1->0<X.T v [])/\∀ a∈X.ats,a.2≠[]
variable {X:BX α}
theorem Jfz(d0:α){y:List α}(h:j<cs.length): (prj d0 cs y).getD j d0=y.getD (cs.getD j 0) d0:=by
 simp[prj,List.getD,List.getElem?_eq_getElem h]
theorem BX.Ok.kpar(h:X.Ok)(hc:c<X.N)(hp:X.par c=v): v∈X.K c/\v<X.N/\X.pl c<X.pl v/\∀ u∈X.K c,u=v∨u∈X.K v:=by
 rcases h.k2 c hc with⟨_,i⟩|⟨p,i,h3,_⟩
 .rw[i]at hp;omega
 have:p=v:=om
 subst this;exact⟨h3,(h.k1 c hc p h3).1,(h.k1 c hc p h3).2,h.k3 c hc p hp⟩
theorem BX.bag_congr{z z':List α}(e:∀ u,u=v∨u∈X.K v->z.getD u X.d0=z'.getD u X.d0)(hb:X.bag v z): X.bag v z':=λa i=>by
 obtain⟨r,j,y⟩:=hb a i;grind
theorem BX.Ok.W_congr(h:X.Ok){z z':List α}(e:∀ u,u=v∨u∈X.K v->z.getD u X.d0=z'.getD u X.d0): X.W v z=X.W v z':=by
 refine Qqt λc j=>?_;split
 .rename_i hp;rw[Qqw λu i=>e u ((h.kpar j hp).2.2.2 u i)]
 rfl
theorem BX.Ok.choose(h:X.Ok){y:List α}(hy:y.length=X.F)(hE:∀ v,v<X.F->y.getD v X.d0∈(X.E v (prj X.d0 (X.K v) y)).map (·.1))(hR:X.Roots):
  ∀ n,n<=X.N->∃ z,z.length=X.N/\(∀ u,u<X.F->z.getD u X.d0=y.getD u X.d0)/\∀ v,v<X.N->(v<X.F∨X.N<=X.pl v+n)->X.bag v z/\0<X.W v z:=by
 intro n;induction n with
 | zero=>
  intro _;refine⟨y++List.replicate (X.N-X.F) X.d0,by have:=h.FN;simp[hy];omega,λu D=>Jlr om,λv hv G=>?_⟩;have hF:v<X.F:=G.resolve_right (by have:=h.plN v hv;omega);obtain⟨p,hp,e⟩:=List.mem_map.1 (hE v hF);obtain⟨z,hz,hb,hk,a3,hw,h0⟩:=((h.t2 v hF _).2 p).1 hp;have i:∀ u,u=v∨u∈X.K v->z.getD u X.d0=(y++List.replicate (X.N-X.F) X.d0).getD u X.d0:=by
   intro u D;have ab:u<X.F:=by
    rcases D with rfl|D
    .exact hF
    have:=h.k1 v hv u D;rcases Nat.lt_or_ge u X.F with h'|h'
    .exact h'
    have:=h.k6 v u hF h' this.1;omega
   rw[Jlr om];rcases D with rfl|D
   .rw[a3,e]
   obtain⟨j,hj,ej⟩:=List.getElem_of_mem D;have:=congrArg (λl=>l.getD j X.d0) hk;grind [Jfz,List.getD,List.getElem?_eq_getElem]
  exact⟨BX.bag_congr i hb,by rw[<-h.W_congr i,<-hw];exact h0⟩
 | succ n ih=>
  intro hn;obtain⟨z,hz,a7,hg⟩:=ih om;by_cases hv:∃ v,v<X.N/\X.F<=v/\X.pl v+(n+1)=X.N
  .obtain⟨v,B,U,aa⟩:=hv;have hT:0<X.T v (prj X.d0 (X.K v) z):=by
    rcases h.k2 v B with⟨h1,h2⟩|⟨p,h2,h3,_⟩
    .rw[h1];exact hR.1 v B h2
    have hp:=h.kpar B h2;have:=(hg p hp.2.1 (.inr om)).2;have h5:=prodR_pos.1 this v B;grind
   obtain⟨J,a8,a6,a5,a2⟩:=(h.t1 v U B _).2.1 hT;have a9:v<z.length:=om
   have far:∀ u,u≠v->(z.set v (J.getD v X.d0)).getD u X.d0=z.getD u X.d0:=by grind
   refine⟨z.set v (J.getD v X.d0),by simp[hz],λu D=>by grind,λu D G=>?_⟩;by_cases e:u=v
   .subst e;have i:∀ x,x=u∨x∈X.K u->J.getD x X.d0=(z.set u (J.getD u X.d0)).getD x X.d0:=by
     intro x O;by_cases ex:x=u
     .grind
     rw[far x ex];have a1:=O.resolve_left ex;obtain⟨j,hj,ej⟩:=List.getElem_of_mem a1;have:=congrArg (λl=>l.getD j X.d0) a5;grind [Jfz,List.getD,List.getElem?_eq_getElem]
    exact⟨BX.bag_congr i a6,by rw[<-h.W_congr i];exact a2⟩
   have a4:X.pl v<X.pl u:=by
    rcases G with G|G
    .exact h.k6 u v G U B
    have:X.pl u≠X.pl v:=λe'=>e (h.inj u v D B e');omega
   have i:∀ x,x=u∨x∈X.K u->z.getD x X.d0=(z.set v (J.getD v X.d0)).getD x X.d0:=by
    intro x O;refine(far x ?_).symm;rintro rfl;rcases O with rfl|O
    .exact e rfl
    have:=(h.k1 u D x O).2;omega
   have Z:=hg u D (by grind);exact⟨BX.bag_congr i Z.1,by rw[<-h.W_congr i];exact Z.2⟩
  repeat grind
def BX.ix(X:BX α): AX α:=⟨X.d0,X.F,X.K,X.par,X.E⟩
end
def Ud(v:Nat)(nb:Nat->Nat->Bool): Nat->Nat->Bool:=λu x=>if nb v u then(nb u x || nb v x) && (x != u) && (x != v) else nb u x
def Yw(nb:Nat->Nat->Bool): List Nat->Nat->Nat->Bool
 | []=>nb
 | v::l=>Yw (Ud v nb) l
theorem Qkg(nb:Nat->Nat->Bool)(l m:List Nat): Yw nb (l++m)=Yw (Yw nb l) m:=by
 induction l generalizing nb with
 | nil=>rfl
 | cons v l ih=>exact ih _
structure NbInv(l:List Nat)(nb:Nat->Nat->Bool): Prop where
 sym:∀ u x,u ∉ l->x ∉ l->nb u x=nb x u
 gone:∀ u x,u ∉ l->nb u x=true->x ∉ l/\x≠u
theorem NbInv.step{nb:Nat->Nat->Bool}(h:NbInv l nb)(hv:v ∉ l): NbInv (l++[v]) (Ud v nb):=by
 have B:∀ {u},u ∉ l++[v]->u ∉ l/\u≠v:=by grind
 constructor
 .intro u x D i;obtain⟨j,O⟩:=B D;obtain⟨J,Z⟩:=B i;have U:=h.sym u x j J;unfold Ud;by_cases e1:nb v u=true<;>by_cases e2:nb v x=true
  .grind
  .rw[if_pos e1,if_neg e2];have G:(x != v)=true:=bne_iff_ne.2 Z;rw[Bool.not_eq_true]at e2;rw[e2,G,Bool.or_false,Bool.and_true,<-U];cases e3:nb u x with
   | false=>rfl
   | true=>rw[bne_iff_ne.2 (h.gone u x j e3).2];rfl
  .rw[if_neg e1,if_pos e2];have G:(u != v)=true:=bne_iff_ne.2 O;rw[Bool.not_eq_true]at e1;rw[e1,G,Bool.or_false,Bool.and_true,U];cases e3:nb x u with
   | false=>rfl
   | true=>rw[bne_iff_ne.2 (h.gone x u J e3).2];rfl
  repeat grind
 intro u x D i;obtain⟨j,O⟩:=B D;unfold Ud at i;rw[List.mem_append,List.mem_singleton,not_or];by_cases e1:nb v u=true
 .rw[if_pos e1]at i;simp only[Bool.and_eq_true,Bool.or_eq_true,bne_iff_ne]at i;refine⟨⟨?_,i.2⟩,i.1.2⟩;rcases i.1.1 with y|y
  .exact(h.gone u x j y).1
  exact(h.gone v x hv y).1
 rw[if_neg e1]at i;obtain⟨y,h2⟩:=h.gone u x j i;refine⟨⟨y,λe=>?_⟩,h2⟩;subst e;exact e1 ((h.sym x u y j).trans i)
theorem NbInv.at{nb:Nat->Nat->Bool}(h:NbInv [] nb): ∀ {l:List Nat},l.Nodup->NbInv l (Yw nb l):=by
 intro l;have key:∀(l m:List Nat) (i:Nat->Nat->Bool),NbInv m i->(m++l).Nodup->NbInv (m++l) (Yw i l):=by
  intro l;induction l with
  | nil=>intro m i h _;rw[List.append_nil];exact h
  | cons v l ih=>
   intro m i h hn;have j:v ∉ m:=by grind
   have e:m++v::l=(m++[v])++l:=by simp
   rw[e]at hn ⊢;exact ih (m++[v]) _ (h.step j) hn
 intro hn;exact key l [] nb h hn
def pre(ord:List Nat)(v:Nat): List Nat:=ord.takeWhile (· != v)
def Vv(nb:Nat->Nat->Bool)(ord:List Nat)(v u:Nat): Bool:=Yw nb (pre ord v) v u
theorem Qqx(h:v ∉ l): pre (l++v::r) v=l:=by
 induction l with
 | nil=>simp[pre]
 | cons x l ih=>
  grind [List.mem_cons_self,pre,List.takeWhile_cons,List.mem_cons_of_mem]
theorem Jtr(h:v∈ord): ∃ r,ord=pre ord v++v::r/\v ∉ pre ord v:=by
 obtain⟨l,r,e,hn⟩:=List.append_of_mem h |>.elim λl i=>i.elim λr e=>(⟨l,r,e,trivial⟩:∃ l r,ord=l++v::r/\True);clear hn;have:∀ l:List Nat,∃ r',l++v::r=pre (l++v::r) v++v::r'/\v ∉ pre (l++v::r) v:=by
  intro l;induction l with
  | nil=>exact⟨r,by simp[pre],by simp[pre]⟩
  | cons x l ih=>
   grind [pre,List.takeWhile_cons]
 rw[e];exact this l
section
variable {nb:Nat->Nat->Bool} {ord:List Nat} (h0:NbInv [] nb) (hn:ord.Nodup)
theorem Qww(hN:∀ u x,nb u x=true->x<N)(hk:Vv nb ord v u=true): u<N:=by
 have:∀(l:List Nat) (nb:Nat->Nat->Bool),(∀ u x,nb u x=true->x<N)->∀ u x,Yw nb l u x=true->x<N:=by
  intro l;induction l with
  | nil=>intro nb h;exact h
  | cons w l ih=>
   intro nb h;refine ih _ λu x i=>?_;unfold Ud at i;grind
 exact this _ _ hN _ _ hk
end
end Pl
namespace Pl
variable {m n:Nat}{x y z:Row}{a b:V}
theorem Jns{ds:List Bool}: ∀ {m:Nat} {x z:Row},x.take m=z.take m->m<x.length->m<z.length->cmpV (x.getD m V0) (z.getD m V0)≠0->Jb x z ds=neg (ds.getD m false) (cmpV (x.getD m V0) (z.getD m V0))
 | 0,a::x,b::z,_,_,_,h=>by grind [List.getD_cons_zero,Jb]
 | m+1,a::x,b::z,h,h1,h2,h3=>by
  simp only[List.take_succ_cons,List.cons.injEq]at h;simp only[List.getD_cons_succ]at h3 ⊢;simp only[Jb];rw[if_pos (by grind [Iz]),Jns h.2 (by simpa using h1) (by simpa using h2) h3];simp[List.getD]
 | _,[],_,_,h,_,_=>by simp at h
 | _,_::_,[],_,_,h,_=>by simp at h
theorem Qkc{d:Bool}(h:neg d (cmpV a b)<0): cmpV a b≠0:=by
 intro e;rw[e]at h;unfold neg at h;split at h<;>omega
theorem Qcs{ds:List Bool}(h:x.take m=z.take m)(h1:m<x.length)(h2:m<z.length)(h3:neg (ds.getD m false) (cmpV (x.getD m V0) (z.getD m V0))<0): Jb x z ds<0:=by grind [Jns,Qkc]
def SrtE(d:Bool)(l:List (V×Nat)): Prop:=l.Pairwise λp q=>neg d (cmpV p.1 q.1)<0
abbrev IX:= AX V
structure AX.Srt(X:IX)(ds:List Bool): Prop where
 d0:X.d0=V0
 srt:∀ v,v<X.F->∀ k,SrtE (ds.getD v false) (X.E v k)
theorem AX.ext_at_col{X:IX}(hx:x∈X.ext n (y++[a])): x.length=y.length+1+n/\x.take y.length=y/\x.getD y.length V0=a:=by
 obtain⟨j,i,_⟩:=(AX.ext_mem n _ x).1 hx;rw[List.length_append,List.length_singleton]at j i;refine⟨j,?_,?_⟩
 .have:=congrArg (List.take y.length) i;grind
 have:=congrArg (λl=>l.getD y.length V0) i;grind
theorem AX.Srt.ext{X:IX}{ds:List Bool}(h:X.Srt ds): ∀(n:Nat) (y:Row),y.length+n=X.F->Lt ds (X.ext n y)
 | 0,y,_=>List.pairwise_singleton _ _
 | n+1,y,e=>by
  rw[AX.ext];refine List.pairwise_flatMap.2 ⟨λp _=>h.ext n _ (by simp;omega),(h.srt y.length om _).imp fun {p q} hpq x hx z hz=>?_⟩;obtain⟨h1,h2,h3⟩:=AX.ext_at_col hx;obtain⟨h4,h5,h6⟩:=AX.ext_at_col hz;exact Qcs (m:=y.length) (by rw[h2,h5]) om om (by rw[h3,h6];exact hpq)
end Pl
namespace Pl
inductive Tr where
 | nil
 | node (l:Tr) (v:V) (x:Nat) (r:Tr)
namespace Tr
def ht: Tr->Nat
 | .nil=>0
 | .node l _ _ r=>max l.ht r.ht+1
def sz: Tr->Nat
 | .nil=>0
 | .node l _ _ r=>l.sz+1+r.sz
def sum: Tr->Nat
 | .nil=>0
 | .node l _ x r=>l.sum+x+r.sum
def toL: Tr->List (V×Nat)
 | .nil=>[]
 | .node l v x r=>l.toL++(v,x)::r.toL
def left: Tr->Tr
 | .nil=>.nil
 | .node l _ _ _=>l
def right: Tr->Tr
 | .nil=>.nil
 | .node _ _ _ r=>r
def bal(l:Tr)(v:V)(x:Nat)(r:Tr): Tr :=
 if r.ht+1<l.ht then
  match l with
  | .nil=>.node .nil v x r
  | .node ll lv lx lr=>
   if lr.ht<=ll.ht then .node ll lv lx (.node lr v x r)
   else match lr with
    | .nil=>.node (.node ll lv lx .nil) v x r
    | .node ml mv mx mr=>.node (.node ll lv lx ml) mv mx (.node mr v x r)
 else if l.ht+1<r.ht then
  match r with
  | .nil=>.node l v x .nil
  | .node rl rv rx rr=>
   if rl.ht<=rr.ht then .node (.node l v x rl) rv rx rr
   else match rl with
    | .nil=>.node l v x (.node .nil rv rx rr)
    | .node ml mv mx mr=>.node (.node l v x ml) mv mx (.node mr rv rx rr)
 else .node l v x r
theorem Jdg(l:Tr)(v:V)(x:Nat)(r:Tr): (bal l v x r).toL=l.toL++(v,x)::r.toL:=by
 unfold bal;split
 .cases l with
  | nil=>rfl
  | node ll lv lx lr=>
   simp only;split
   repeat grind [toL]
 split
 .cases r with
  | nil=>rfl
  | node rl rv rx rr=>
   simp only;split
   repeat grind [toL]
 rfl
def put(d:Bool)(v:V)(x:Nat): Tr->Tr
 | .nil=>.node .nil v x .nil
 | .node l a y r=>if neg d (cmpV v a)<0 then bal (put d v x l) a y r else if 0<neg d (cmpV v a) then bal l a y (put d v x r) else .node l v x r
theorem put_last{d:Bool}{v:V}{x:Nat}: ∀ {t:Tr},(∀ p∈t.toL,0<neg d (cmpV v p.1))->(put d v x t).toL=t.toL++[(v,x)]
 | .nil,_=>rfl
 | .node l a y r,h=>by
  have h1:=h (a,y) (by simp[toL]);have h2:=put_last (d:=d) (v:=v) (x:=x) (t:=r) (λp hp=>h p (by simp[toL,hp]));grind [put,Jdg,toL]
theorem put_first{d:Bool}{v:V}{x:Nat}: ∀ {t:Tr},(∀ p∈t.toL,neg d (cmpV v p.1)<0)->(put d v x t).toL=(v,x)::t.toL
 | .nil,_=>rfl
 | .node l a y r,h=>by
  have h1:=h (a,y) (by simp[toL]);have h2:=put_first (d:=d) (v:=v) (x:=x) (t:=l) (λp hp=>h p (by simp[toL,hp]));grind [put,Jdg,toL]
end Tr
end Pl
namespace Pl
variable {rs:List Row}{m:Nat}{k x:Row}{wt:Row->Nat}
def Xg(wt:Row->Nat)(m:Nat)(rs:List Row)(k:Row): List (V×Nat):=(rs.filter λx=>decide (x.take m=k) && decide (0<wt x)).map λx=>(x.getD m V0,wt x)
def Jwf(d:Bool)(wt:Row->Nat)(m:Nat)(bs:List (Row×Tr))(x:Row): List (Row×Tr) :=
 if wt x=0 then bs
 else if(bs.getLast?.map (·.1))=some (x.take m) then bs.dropLast++[(x.take m,Tr.put d (x.getD m V0) (wt x) ((bs.getLast?.map (·.2)).getD .nil))]
 else bs++[(x.take m,Tr.put d (x.getD m V0) (wt x) .nil)]
def Jjw(d:Bool)(l:List (V×Nat)): List (V×Nat):=if d then l.reverse else l
structure GInv(d:Bool)(wt:Row->Nat)(m:Nat)(rs:List Row)(bs:List (Row×Tr)): Prop where
 lt:Lt [] (bs.map (·.1))
 con:∀ b∈bs,b.2.toL=Jjw d (Xg wt m rs b.1)/\Xg wt m rs b.1≠[]
 all:∀ k,Xg wt m rs k≠[]->k∈bs.map (·.1)
theorem Jyw(wt:Row->Nat)(m:Nat)(rs:List Row)(x k:Row): Xg wt m (rs++[x]) k=Xg wt m rs k++if x.take m=k/\0<wt x then[(x.getD m V0,wt x)] else[]:=by grind [Xg,List.filter_cons_of_pos,List.filter_cons_of_neg]
theorem entL_mem{p:V×Nat}: p∈Xg wt m rs k↔∃ x∈rs,x.take m=k/\x.getD m V0=p.1/\wt x=p.2/\0<p.2:=by
 unfold Xg;grind
theorem entL_ne: Xg wt m rs k≠[]↔∃ x∈rs,x.take m=k/\0<wt x:=by
 constructor
 .intro h;obtain⟨p,y⟩:=List.exists_mem_of_ne_nil _ h;obtain⟨x,u,j,i,D,B⟩:=entL_mem.1 y;grind
 rintro⟨x,u,j,i⟩ e;have:=(entL_mem (p:=(x.getD m V0,wt x))).2 ⟨x,u,j,rfl,rfl,i⟩;grind
theorem Jnp: ∀(m:Nat) {x y:Row},Jb x y []<0->Jb (x.take m) (y.take m) []<=0
 | 0,x,y,_=>by simp[Jb]
 | m+1,[],[],h=>by simp[Jb]
 | m+1,[],b::y,h=>by simp[Jb]
 | m+1,a::x,[],h=>by simp[Jb]at h
 | m+1,a::x,b::y,h=>by
  simp only[Jb,List.take_succ_cons,List.drop_nil]at h ⊢;by_cases e:cmpV a b=0
  .rw[if_pos e]at h ⊢;exact Jnp m h
  repeat grind
theorem Jnr: ∀(m:Nat) {x y:Row},Jb x y []<0->x.take m=y.take m->x.length=m+1->y.length=m+1->cmpV (x.getD m V0) (y.getD m V0)<0
 | 0,[a],[b],h,_,_,_=>by
  simp only[Jb]at h;by_cases e:cmpV a b=0
  .grind
  rw[if_neg e]at h;exact h
 | m+1,a::x,b::y,h,ht,h1,h2=>by
  simp only[List.take_succ_cons,List.cons.injEq]at ht;simp only[Jb,List.drop_nil]at h;rw[if_pos (by grind [Iz])]at h;simp only[List.getD_cons_succ];exact Jnr m h ht.2 (by simpa using h1) (by simpa using h2)
theorem Jlm{α:Type}{l:List α}(h:l≠[]): ∃ i z,l=i++[z]/\l.getLast?=some z/\l.dropLast=i:=by grind [List.dropLast_concat_getLast,List.getLast?_eq_some_getLast]
theorem GInv.step{d:Bool}{bs:List (Row×Tr)}(h:GInv d wt m rs bs)(hs:Lt [] (rs++[x]))(hl:∀ y∈rs++[x],y.length=m+1): GInv d wt m (rs++[x]) (Jwf d wt m bs x):=by
 have a2:=hl x (by simp);have a4:∀ y∈rs,Jb y x []<0:=λy hy=>(List.pairwise_append.1 hs).2.2 y hy x (by simp);by_cases h0:wt x=0
 .have e:∀ k,Xg wt m (rs++[x]) k=Xg wt m rs k:=by grind [Jyw]
  rw[Jwf,if_pos h0];exact⟨h.lt,λb j=>by rw[e];exact h.con b j,λk u=>h.all k (by rw[<-e k];exact u)⟩
 have h1:0<wt x:=om
 have eo:∀ k,k≠x.take m->Xg wt m (rs++[x]) k=Xg wt m rs k:=by grind [Jyw]
 have ex:Xg wt m (rs++[x]) (x.take m)=Xg wt m rs (x.take m)++[(x.getD m V0,wt x)]:=by grind [Jyw]
 have G:∀ k∈bs.map (·.1),Jb k (x.take m) []<=0:=λk u=>by
  obtain⟨b,j,rfl⟩:=List.mem_map.1 u;obtain⟨y,hy,e,_⟩:=entL_ne.1 (h.con b j).2;grind [Jnp]
 have J:∀ p∈Xg wt m rs (x.take m),cmpV p.1 (x.getD m V0)<0:=λp O=>by
  obtain⟨y,hy,B,e2,_⟩:=entL_mem.1 O;rw[<-e2];exact Jnr m (a4 y hy) B (hl y (by simp[hy])) a2
 have D:∀ t:Tr,t.toL=Jjw d (Xg wt m rs (x.take m))->(Tr.put d (x.getD m V0) (wt x) t).toL=Jjw d (Xg wt m (rs++[x]) (x.take m)):=λt ht=>by
  rw[ex];cases d with
  | false=>
   rw[Tr.put_last,ht];· rfl
   intro p O;rw[ht]at O;have:=J p O;have:=cmp_V.anti p.1 (x.getD m V0);grind [neg]
  | true=>
   rw[Tr.put_first,ht];· simp[Jjw]
   intro p O;rw[ht]at O;have:=J p (by simpa [Jjw] using O);have:=cmp_V.anti p.1 (x.getD m V0);grind [neg]
 rw[Jwf,if_neg h0];by_cases hl2:(bs.getLast?.map (·.1))=some (x.take m)
 .rw[if_pos hl2];have Z:bs≠[]:=by grind
  obtain⟨i,z,B,e2,e3⟩:=Jlm Z;rw[e2]at hl2 ⊢;have hz:z.1=x.take m:=by simpa using hl2
  rw[e3];have a6:=h.con z (by rw[B];simp);have a3:∀ b∈i,b.1≠x.take m:=λb j e=>by
   have:=h.lt;rw[B,List.map_append]at this;have:=(List.pairwise_append.1 this).2.2 b.1 (List.mem_map_of_mem j) z.1 (by simp);grind [Ik]
  refine⟨?_,λb j=>?_,λk u=>?_⟩
  .have:=h.lt;grind
  .rcases List.mem_append.1 j with j|j
   .rw[eo _ (a3 b j)];exact h.con b (by rw[B];simp[j])
   rw[List.mem_singleton.1 j];refine⟨D _ (by grind),?_⟩;simp only;rw[ex];simp
  by_cases e:k=x.take m
  .rw[e];simp
  rw[eo k e]at u;have:=h.all k u;grind
 rw[if_neg hl2];have U:x.take m ∉ bs.map (·.1):=λu=>by
  have Z:bs≠[]:=by grind
  obtain⟨i,z,B,e2,e3⟩:=Jlm Z;rw[e2]at hl2;have hz:z.1≠x.take m:=λe=>hl2 (by simp[e]);rw[B,List.map_append,List.mem_append]at u;have h5:=h.lt;rw[B,List.map_append]at h5;rcases u with u|u
  .have h6:=(List.pairwise_append.1 h5).2.2 _ u z.1 (by simp);have h7:=G z.1 (by rw[B];simp);have:=Jjz [] |>.anti (x.take m) z.1;omega
  repeat grind
 have he:Xg wt m rs (x.take m)=[]:=Classical.byContradiction λh'=>U (h.all _ h');refine⟨?_,λb j=>?_,λk u=>?_⟩
 .rw[List.map_append];refine List.pairwise_append.2 ⟨h.lt,by simp,λk u k' a1=>?_⟩;rw[List.map_singleton,List.mem_singleton]at a1;rw[a1];have h7:=G k u;have h8:Jb k (x.take m) []≠0:=λe=>U (by rw[<-(Jjz []).zero _ _ e];exact u);simp only;omega
 .rcases List.mem_append.1 j with j|j
  .have a5:b.1∈bs.map (·.1):=List.mem_map_of_mem j
   rw[eo _ (λe=>U (by rw[<-e];exact a5))];exact h.con b j
  rw[List.mem_singleton.1 j];refine⟨D _ (by rw[he];cases d<;>rfl),?_⟩;grind
 by_cases e:k=x.take m
 .rw[e];simp
 rw[eo k e]at u;rw[List.map_append,List.mem_append];exact .inl (h.all k u)
theorem GInv.nil(d:Bool)(wt:Row->Nat)(m:Nat): GInv d wt m [] []:=⟨List.Pairwise.nil,λb j=>(by cases j),λk i=>absurd rfl i⟩
end Pl
open Go.RowKit Pl Go.Wk
attribute [local irreducible] WC WL QX WD WDB WP WN
structure Pth(c:JC)(v:Nat)(z:Row)(p e:Nat->Nat): Prop where
 path:∀ i,i<c.m->Jgm (c.F.rs i) (lv (c.vars i) v) (p i)=(pmR (c.vars i) z).take (lv (c.vars i) v)
 rng:∀ i,i<c.m->0<lv (c.vars i) v->p i<e i/\e i<=(pfx (c.F.rs i) (lv (c.vars i) v)).length
open Go.RowKit Pl Go.Wk
variable {a i:Nat}{e e1 p p1:Nat->Nat}{z z2:Row}
structure LS where
 L: Nat->Nat
 p:Nat->Nat
 e:Nat->Nat
 f:Nat->Nat->Nat
 h:Nat->Nat->Nat
def LS.upd(S:LS)(i L p e:Nat)(f h:Nat->Nat): LS:=⟨Wk.upd S.L i L,Wk.upd S.p i p,Wk.upd S.e i e,Wk.upd S.f i f,Wk.upd S.h i h⟩
theorem Cfg.congr{c:JC}{Y:List Row->World->Prop}{w:World}{L L' p' e':Nat->Nat}{f h f' h':Nat->Nat->Nat}{l:List Row}(H:Cfg c Y w z L p e f h l)(h1:∀ i,i<c.m->L' i=L i/\p' i=p i/\e' i=e i/\f' i=f i/\h' i=h i): Cfg c Y w z L' p' e' f' h' l :=
 ⟨H.env,λi hi=>by obtain⟨G,D,B,u,j⟩:=h1 i hi;rw[G,D,B,u,j];exact H.its i hi,H.row,H.zl,H.jb,H.y⟩
def JC.vl(c:JC)(v i a:Nat): V:=(lvl (c.F.rs i) (lv (c.vars i) v)).getD a V0
structure Sib(c:JC)(v:Nat)(z:Row)(lo hi:Nat->Nat): Prop where
 lt:∀ i∈c.I v,lo i<hi i/\hi i<=(pfx (c.F.rs i) (lv (c.vars i) v+1)).length
 ch:∀ i∈c.I v,∀ a,a<(pfx (c.F.rs i) (lv (c.vars i) v+1)).length->(((pfx (c.F.rs i) (lv (c.vars i) v+1)).getD a []).take (lv (c.vars i) v)=(pmR (c.vars i) z).take (lv (c.vars i) v)↔lo i<=a/\a<hi i)
section
variable {c:JC} {v:Nat} {z:Row} {lo hi:Nat->Nat}
theorem JOk.lvd(hok:JOk c)(hi:i∈c.I v): lv (c.vars i) v+1<=c.F.d i:=by
 obtain⟨j,u⟩:=JC.mem_I.1 hi;rw[hok.d i j];exact(Jzd (hok.asc i j) u).2.1
theorem Sib.node(hok:JOk c)(hS:Sib c v z lo hi)(him:i∈c.I v)(h1:lo i<=a)(h2:a<hi i): (pfx (c.F.rs i) (lv (c.vars i) v+1)).getD a []=(pmR (c.vars i) z).take (lv (c.vars i) v)++[c.vl v i a]:=by
 obtain⟨j,B⟩:=JC.mem_I.1 him;have y:=hS.lt i him;have u:a<(pfx (c.F.rs i) (lv (c.vars i) v+1)).length:=om
 have G:=(hS.ch i him a u).2 ⟨h1,h2⟩;have D:=Qxk (Jvw (hok.srt i j)) (hok.len i j) (hok.lvd him) (getD_mem' [] _ u);rw[Jsw D G,JC.vl,Qkx u]
theorem Sib.srt(hok:JOk c)(hS:Sib c v z lo hi){i a b:Nat}(him:i∈c.I v)(h1:lo i<=a)(h2:a<b)(h3:b<hi i): cmpV (c.vl v i a) (c.vl v i b)<0:=by
 obtain⟨j,D⟩:=JC.mem_I.1 him;have B:=hS.lt i him;have u:=(Jvf (Jvw (hok.srt i j)) (lv (c.vars i) v+1)).1.at h2 om;rw[hS.node hok him h1 om,hS.node hok him om h3]at u;have key:∀(y:Row) (a b:V),Jb (y++[a]) (y++[b]) []<0->cmpV a b<0:=λy a b=>by
  induction y with
  | nil=>
   intro h;simp only[List.nil_append,Jb]at h;by_cases e:cmpV a b=0
   .grind
   rw[if_neg e]at h;exact h
  | cons x y ih=>
   grind [Jb,Iz]
 exact key _ _ _ u
theorem Pth.step(hok:JOk c)(hP:Pth c v z p e)(hS:Sib c v z lo hi)(hv:v<z.length){x:V}(h1:∀ i∈c.I v,lo i<=p1 i/\p1 i<hi i/\c.vl v i (p1 i)=x)(hz2:z2.take v=z.take v)(hz3:z2.getD v V0=x)(h2:∀ i,i<c.m->i ∉ c.I v->p1 i=p i/\e1 i=e i)(h3:∀ i∈c.I v,e1 i=hi i): Pth c (v+1) z2 p1 e1:=by
 refine⟨λi j=>?_,λi j h0=>?_⟩
 .by_cases him:i∈c.I v
  .obtain⟨u,y⟩:=JC.mem_I.1 him;have D:=h1 i him;rw[(Jzd (hok.asc i u) y).1,Qxg (hok.asc i u) y,Jgd (hok.asc i u) hz2,hz3,Jgm,if_neg om,hS.node hok him D.1 D.2.1,D.2.2]
  have B:v ∉ c.vars i:=λG=>him (JC.mem_I.2 ⟨j,G⟩);rw[Jhj B,(h2 i j him).1,hP.path i j,Jgd (hok.asc i j) hz2]
 by_cases him:i∈c.I v
 .obtain⟨u,y⟩:=JC.mem_I.1 him;have D:=h1 i him;rw[(Jzd (hok.asc i u) y).1,h3 i him];exact⟨D.2.1,(hS.lt i him).2⟩
 have B:v ∉ c.vars i:=λG=>him (JC.mem_I.2 ⟨j,G⟩);rw[Jhj B]at h0 ⊢;rw[(h2 i j him).1,(h2 i j him).2];exact hP.rng i j h0
end
open Go.RowKit Pl Go.Wk
structure ES where
 t: Bool
 z:Row
 p:Nat->Nat
 f:Nat->Nat->Nat
 h:Nat->Nat->Nat
 l:List Row
open Go.RowKit Pl Go.Wk
structure RK where
 n: Nat
 vars:Nat->List Nat
 rs:Nat->List Row
 base:Nat
 J:Nat
 Ra:Option Addr
 Ba:Option Addr
 yv:Value
structure RS where
 G: Nat->Nat
 A:Nat->Option Addr
 lo:Nat->Nat
 hi:Nat->Nat
 va:Value
 vat:Nat->Value
def OB(K:RK)(S:RS)(k:Nat): Prop:=k=K.J∨(Value.slice K.Ra K.n K.n).ownBlock=some k∨(Value.slice K.Ba K.n K.n).ownBlock=some k∨S.va.ownBlock=some k∨∃ v,v<K.n/\(S.vat v).ownBlock=some k
structure RB(K:RK)(q:Nat)(S:RS)(cont:Nat->List Value)(alls:List Value)(w:World): Prop where
 jb:Blk w K.J 290 [.slice K.Ra K.n K.n,.slice K.Ba K.n K.n,.int .i64 0,K.yv]
 row:Iy w K.base (.slice K.Ra K.n K.n) (List.replicate K.n V0)
 at_:w.ownsRow K.base 291 1 (.slice K.Ba K.n K.n) K.n ((List.range K.n).map S.vat)
 lists:Fam w K.base 297 1 K.n S.vat (λv=>(cont v).length) cont
 all:w.ownsRow K.base 297 1 S.va alls.length alls
 alld:∀ v g,v<K.n->(S.vat v).ownBlock=some g->S.va.ownBlock≠some g
 its:∀ j,j<q->ItB w (S.G j) (S.A j) (K.vars j).length 0 0 0 (λ_=>0) (λ_=>0) 0
 tri:∀ j,j<q->Off (λk=>k<S.lo j∨S.hi j<=k) w (λu=>TriA u (S.A j) (K.vars j).length (K.rs j))
 iv:∀ j k,j<q->OB K S k->k<S.lo j∨S.hi j<=k
 gi:∀ i j,i<q->j<q->S.G i<S.lo j∨S.hi j<=S.G i
 ginj:∀ i j,i<j->j<q->S.G i<S.G j
 jlo:∀ j,j<q->K.J<S.lo j/\S.hi j<=w.heap.size
 jg:∀ j,j<q->K.J<S.G j
 bj:K.base<=K.J
section
variable {K:RK} {q:Nat} {S:RS} {cont:Nat->List Value} {alls:List Value} {w w':World}
theorem RB.ext(H:RB K q S cont alls w)(hx:Ext w w'): RB K q S cont alls w' :=
 ⟨H.jb.ext hx,Ju H.row hx,Ju H.at_ hx,H.lists.ext hx,Ju H.all hx,H.alld,λj i=>(H.its j i).ext hx,λj i=>(H.tri j i).ext hx,H.iv,H.gi,H.ginj,λj i=>⟨(H.jlo j i).1,Nat.le_trans (H.jlo j i).2 hx.size⟩,H.jg,H.bj⟩
end
open Go.RowKit Pl Go.Wk
attribute [local irreducible] WG
variable {cs xs:List Value}{g i m:Nat}{v x y:Value}{w w1 w2:World}
structure YS(s:Nat)(yv:Value)(bx:Nat->Prop)(Y:Nat->List Row->World->Prop): Prop where
 keep:∀ base l w w',Y base l w->GrN (λk=>s<=k/\k<base) w w'->Y base l w'
 call:∃ fid first cap,yv=.func (.func fid) first cap/\∀ base l w vr z,base<=w.heap.size->Y base l w->RowV w vr z->l.length<65536->Ret Tryz.prog fid (first.toList++[vr]++cap.toList) w λr w'=>r=.bool true/\Y base (l++[z]) w'/\GrN (λk=>bx k∨base<=k) w w'
structure RunOk(n:Nat)(ts:List TA)(vars:Nat->List Nat)(rs:Nat->List Row): Prop where
 n32:n<=32
 m32:ts.length<=32
 at_:∀ i,i<ts.length->(ts.getD i ta0).2=⟨nz (vars i),(vars i).length,rs i⟩
 asc:∀ i,i<ts.length->Ic (vars i)
 lt:∀ i,i<ts.length->∀ u∈vars i,u<n
 cov:∀ v,v<n->∃ i,i<ts.length/\v∈vars i
 srt:∀ i,i<ts.length->Lt [] (rs i)
 len:∀ i,i<ts.length->∀ r∈rs i,r.length=(vars i).length
 big:∀ i,i<ts.length->(rs i).length<=65536
theorem Jvj{base base' e sz:Nat}(h:w.ownsRow base e sz v m xs)(hb:base'<=base): w.ownsRow base' e sz v m xs:=by
 rcases h with⟨y,⟨rfl,rfl⟩|⟨g,u,j,rfl,i,B⟩⟩
 .exact⟨y,.inl ⟨rfl,rfl⟩⟩
 exact⟨y,.inr ⟨g,u,j,rfl,Nat.le_trans hb i,B⟩⟩
theorem _root_.Go.Wk.Blk.sub2{t:TypeId}(h:Blk w g t cs)(h0:cs[i]?=some x)(h1:cs[i+1]?=some y): ∀ j u,[x,y][j]?=some u->w.cell? ((⟨g,i,none⟩:Addr).add j)=some u:=λj u B=>by
 match j,B with
 | 0,B=>simp only[List.getElem?_cons_zero,Option.some.injEq]at B;subst B;exact h.sub h0
 | 1,B=>simp only[List.getElem?_cons_succ,List.getElem?_cons_zero,Option.some.injEq]at B;subst B;exact h.sub h1
 | j+2,B=>simp at B
theorem _root_.Go.Wk.GrN.cut{N N':Nat->Prop}(hx:Ext w w1)(hg:GrN N w1 w2)(hN:∀ k,k<w.heap.size->N k->N' k): GrN N' w w2 :=
 ⟨hg.os.trans hx.os,hg.tape.trans hx.tape,hg.output.trans hx.output,Nat.le_trans hx.size hg.size,λk i hn=>(hg.block k (nM i hx.size) (λe=>hn (hN k i e))).trans (hx.block k i)⟩
end Go.Proofs.YtebiphhfkdbpfaaGreatDoor
namespace Go.Wk
open Go.RowKit
end Go.Wk
namespace Go.Proofs.YtebiphhfkdbpfaaGreatDoor
open Go.RowKit Pl Go.Wk
attribute [local irreducible] WC WL QX WD WDB WP WN WG
structure YZ(s:Nat)(yv:Value)(bx:Nat->Prop)(Y:Nat->List Row->World->Prop): Prop where
 keep:∀ base l w w',Y base l w->GrN (λk=>s<=k/\k<base) w w'->Y base l w'
 call:∃ fid first cap,yv=.func (.func fid) first cap/\∀ base l w w1 vr z,base<=w.heap.size->Y base l w->Ext w w1->RowX w1 (λk=>k<w.heap.size) vr z->l.length<65536->Ret Tryz.prog fid (first.toList++[vr]++cap.toList) w1 λr w'=>r=.bool true/\Y base (l++[z]) w'/\GrN (λk=>bx k∨base<=k) w1 w'
end Go.Proofs.YtebiphhfkdbpfaaGreatDoor
namespace Go.Wk
open Go.RowKit
variable {e:Act}{parts:Array (Nat×Operand)}{pw:Array (Nat×Value)}{a b:Int}{k1 k2:IntKind}{vs:List Value}{i s t v:Nat}{x y:Operand}{yt:TypeId}
section
variable {N:Nat->Prop} {P:Program} {n:Nat} {al:AL} {w:World} {Q:Exit->Act->World->Prop} {ops:Array Oper} {rest:List Oper} {drest:List (Nat×Oper)}
variable {d ty:Nat} {pos:String} {aft:Array Edge}
theorem Jdz{t:TypeId}(hx:ev al x=some (.int k1 a))(hy:ev al y=some (.int k2 b))(h0:0<=b)(he:Fr n al e)(dst:Option Nat)(w:World):
  (execOp e.eval ⟨dst,.binOp .shr t x y yt,ty,pos,aft,none⟩).run P w=.ok (.value (.int k1 (a.fdiv (2^(min b.toNat k1.bits))))) w:=by
 have i:¬ b<0:=om
 simp[execOp,he.ev hx,he.ev hy,eqGuard,binOp,Op.shift,i]
theorem Jjf{t:TypeId}(hx:ev al x=some (.int k1 a))(hy:ev al y=some (.int k2 b))(h0:0<=b)(he:Fr n al e)(dst:Option Nat)(w:World):
  (execOp e.eval ⟨dst,.binOp .shl t x y yt,ty,pos,aft,none⟩).run P w=.ok (.value (.int k1 (k1.wrap (a*2^(min b.toNat k1.bits))))) w:=by
 have i:¬ b<0:=om
 simp[execOp,he.ev hx,he.ev hy,eqGuard,binOp,Op.shift,i]
theorem Jdt(s v:Nat)(hv:v<=32): ((s:Int)).fdiv (2^(min ((v:Nat):Int).toNat 32))=((s / 2^v:Nat):Int):=by grind
theorem Gg(hv:v<32): 2^v<4294967296:=nM (Nat.pow_lt_pow_right (by decide:1<2) hv) (by decide)
theorem Jqx(hv:v<32): IntKind.u32.wrap (1*2^(min ((v:Nat):Int).toNat 32))=((2^v:Nat):Int):=by
 have h:=Gg hv;rw[Int.toNat_natCast,Nat.min_eq_left om,Int.one_mul];have:((2:Int)^v)=((2^v:Nat):Int):=by simp
 rw[this,IntKind.wrap_u32];grind
theorem sr32{t:TypeId}(hv:v<=32)(kk:WL P n ops Q rest ((d,.int .u32 ((s / 2^v:Nat):Int))::al) w)(hx:ev al x=some (.int .u32 (s:Int)):=by rfl)(hy:ev al y=some (.int .i64 (v:Int)):=by rfl)(hd:Nat.blt d n=true:=by rfl):
  WL P n ops Q (⟨some d,.binOp .shr t x y yt,ty,pos,aft,none⟩::rest) al w:=by
 rw[<-Jdt s v hv]at kk;exact wop hd (λa i=>Jdz hx hy om i (some d) w) kk
theorem sl32{t:TypeId}(hv:v<32)(kk:WL P n ops Q rest ((d,.int .u32 ((2^v:Nat):Int))::al) w)(hy:ev al y=some (.int .i64 (v:Int)):=by rfl)(hd:Nat.blt d n=true:=by rfl):
  WL P n ops Q (⟨some d,.binOp .shl t (.const (.int .u32 1)) y yt,ty,pos,aft,none⟩::rest) al w:=by
 rw[<-Jqx hv]at kk;exact wop hd (λa i=>Jjf (x:=.const (.int .u32 1)) rfl hy om i (some d) w) kk
theorem dsl32{t:TypeId}(hv:v<32)(kk:WD P n ops Q drest ((d,.int .u32 ((2^v:Nat):Int))::al) w)(hy:ev al y=some (.int .i64 (v:Int)):=by rfl)(hd:Nat.blt d n=true:=by rfl):
  WD P n ops Q ((0,⟨some d,.binOp .shl t (.const (.int .u32 1)) y yt,ty,pos,aft,none⟩)::drest) al w:=by
 rw[<-Jqx hv]at kk;exact dy (λw' _ a i=>Jjf (x:=.const (.int .u32 1)) rfl hy om i (some d) w') hd kk
theorem Jvl{t:TypeId}(hv:v<32)(kk:WN N P n ops Q drest ((d,.int .u32 ((2^v:Nat):Int))::al) w)(hy:ev al y=some (.int .i64 (v:Int)):=by rfl)(hd:Nat.blt d n=true:=by rfl):
  WN N P n ops Q ((0,⟨some d,.binOp .shl t (.const (.int .u32 1)) y yt,ty,pos,aft,none⟩)::drest) al w:=by
 rw[<-Jqx hv]at kk;exact ny_ (λw' _ a i=>Jjf (x:=.const (.int .u32 1)) rfl hy om i (some d) w') hd kk
end
section
variable {N:Nat->Prop} {P:Program} {n:Nat} {al:AL} {w:World} {Q:Exit->Act->World->Prop} {ops:Array Oper} {drest:List (Nat×Oper)}
variable {d ty:Nat} {pos:String} {aft:Array Edge}
theorem Jff{v:Value}(hb:∀ w,(Instr.build t pw).run P w=.ok v w)(hx:evs al (parts.toList.map (·.2))=some vs)(hp:((parts.toList.map (·.1)).zip vs).toArray=pw){a:Act}(ha:Fr n al a)(dst:Option Nat)(w:World):
  (execOp a.eval ⟨dst,.build t parts,ty,pos,aft,none⟩).run P w=.ok (.value v) w:=by
 subst hp;have u:=ha.evs hx;have j:(parts.map fun (i,x)=>(i,a.eval x))=((parts.toList.map (·.1)).zip vs).toArray:=by grind
 simp only[execOp,j,Sem.run_bind,hb w];rfl
theorem nbld{v:Value}(hb:∀ w,(Instr.build t pw).run P w=.ok v w)(kk:WN N P n ops Q drest ((d,v)::al) w)(hx:evs al (parts.toList.map (·.2))=some vs:=by rfl)(hp:((parts.toList.map (·.1)).zip vs).toArray=pw:=by rfl)(hd:Nat.blt d n=true:=by rfl): WN N P n ops Q ((0,⟨some d,.build t parts,ty,pos,aft,none⟩)::drest) al w :=
 ny_ (λw' _ a i=>Jff hb hx hp i (some d) w') hd kk
theorem dbld{v:Value}(hb:∀ w,(Instr.build t pw).run P w=.ok v w)(kk:WD P n ops Q drest ((d,v)::al) w)(hx:evs al (parts.toList.map (·.2))=some vs:=by rfl)(hp:((parts.toList.map (·.1)).zip vs).toArray=pw:=by rfl)(hd:Nat.blt d n=true:=by rfl): WD P n ops Q ((0,⟨some d,.build t parts,ty,pos,aft,none⟩)::drest) al w :=
 dy (λw' _ a i=>Jff hb hx hp i (some d) w') hd kk
end
theorem Jkf(hs:s<4294967296): (bits .and .u32 ((s / 2^v:Nat):Int) 1 == 1)=s.testBit v:=by
 have i:s / 2^v<4294967296:=nN (Nat.div_le_self _ _) hs;have j:=u32_and_nat (s / 2^v) 1 i om;grind
theorem Jph(hs:s<4294967296): (bits .and .u32 ((s / 2^v:Nat):Int) 1 == 0) = !s.testBit v:=by
 have i:s / 2^v<4294967296:=nN (Nat.div_le_self _ _) hs;have j:=u32_and_nat (s / 2^v) 1 i om;grind
def Vt(s t:Nat): Nat:=s &&& (4294967295-t)
theorem Jps(hs:s<4294967296): Vt s t<4294967296:=by grind [Vt,Nat.lt_of_le_of_lt,Nat.and_le_left]
theorem Jkh(hs:s<4294967296)(ht:t<4294967296): (Vt s t).testBit i=(s.testBit i && !t.testBit i):=by
 unfold Vt;have e:4294967295-t=2^32-(t+1):=om
 rw[Nat.testBit_and,e,Nat.testBit_two_pow_sub_succ om];by_cases hi:i<32
 .grind
 have:s.testBit i=false:=Nat.testBit_lt_two_pow (nM hs (Nat.pow_le_pow_right (n:=2) (by decide) (show 32<=i by omega)));rw[this];rfl
theorem Jqd(hs:s<4294967296)(ht:t<4294967296): bits .andNot .u32 (s:Int) (t:Int)=((Vt s t:Nat):Int):=u32_andNot_nat s t hs ht
theorem Ge(hs:s<4294967296)(ht:t<4294967296): bits .or .u32 (s:Int) (t:Int)=((s ||| t:Nat):Int):=u32_or_nat s t hs ht
theorem Jjh(hs:s<4294967296)(ht:t<4294967296): s ||| t<4294967296:=Nat.or_lt_two_pow (n:=32) hs ht
end Go.Wk
namespace Go.Proofs.YtebiphhfkdbpfaaGreatDoor
open Go.RowKit Pl Go.Wk
attribute [local irreducible] WC WL QX WD WDB WP WN WG
variable {b base d n ty z:Nat}
def Qcp(vars:List Nat)(s:Nat): List Nat:=(List.range vars.length).filter λi=>s.testBit (vars.getD i 0)
theorem Qzn(a b:List Nat): nz (a++b)=nz a++nz b:=by simp[nz]
theorem Qwz(a b:List Int): Jl (a++b)=Jl a++Jl b:=by simp[Jl]
abbrev Zx(w:World)(base:Nat)(v:Value)(cs:List Nat): Prop:=w.ownsRow base 3 1 v cs.length (Jl (nz cs))
theorem apI{al:AL}{w:World}{Q:Exit->Act->World->Prop}{ops:Array Oper}{rest:List Oper}{pos:String}{aft:Array Edge}{x y:Operand}{v:Value}{cs:List Nat}(ho:Zx w base v cs)(hb:Blk w b 3 [.int .i64 (z:Int)])(hm:cs.length<=1100000)(hbase:base<=w.heap.size)(kk:∀ v' w',Zx w' base v' (cs++[z])->w.grownBy w' v.ownBlock->(∀ g,v'.ownBlock=some g->v.ownBlock=some g∨w.heap.size<=g)->WL Tryz.prog n ops Q rest ((d,v')::al) w')(hx:ev al x=some v:=by rfl)(hy:ev al y=some (.slice (some ⟨b,0,none⟩) 1 1):=by rfl)(hd:Nat.blt d n=true:=by rfl):
  WL Tryz.prog n ops Q (⟨some d,.call { callee:=.builtin .append,args:=#[x,y],argTypes:=#[22,22] },ty,pos,aft,none⟩::rest) al w:=by
 refine apb (base:=base) EI ho (hb.rd (n:=1) rfl) (λu j=>by rw[List.mem_singleton.1 j];rfl) (by unfold maxLen;omega) om hbase ?_ hx hy hd;intro v' w' i B hn;refine kk v' w' ?_ B hn;rw[Zx,List.length_append,Qzn,Qwz];exact i
open Go.RowKit Pl Go.Wk
def RowG(w:World)(cs:List Value)(z:Row): Prop:=∃ v,cs=[v]/\RowV w v z
theorem RowG.ext{w w':World}{cs:List Value}{z:Row}(h:RowG w cs z)(hx:Ext w w'): RowG w' cs z:=by
 obtain⟨v,e,i⟩:=h;exact⟨v,e,i.ext hx⟩
end Go.Proofs.YtebiphhfkdbpfaaGreatDoor
namespace Go.Proofs.YtebiphhfkdbpfaaGreatDoor
open Pl Go.Wk
variable {n s u:Nat}
theorem Qfj(hs:s<2^n)(h:s.testBit u=true): u<n:=by grind [Nat.lt_or_ge,Nat.testBit_lt_two_pow,Nat.lt_of_lt_of_le,Nat.pow_le_pow_right]
end Go.Proofs.YtebiphhfkdbpfaaGreatDoor
