/- Part 2. -/
import Derived.Test.YtebiphhfkdbpfaaGreatDoorC01
import Derived.Lib.LaidTab
import Derived.Lib.AppendIntMem
import Derived.Laws.CopyRow
set_option linter.unusedVariables false
set_option maxRecDepth 100000
set_option maxHeartbeats 40000000
namespace Go.Proofs.YtebiphhfkdbpfaaGreatDoor
open Go.RowKit Pl Go.Wk
attribute [local irreducible] WC WL QX WD WDB WP
variable {ar z:Int}{c n:Nat}{A:Option Addr}{r:Row}{sv v:Value}{w:World}
def Xg(v:V): Bool:=if v.kind=1 then(v.bytes == []) else if v.kind=2 then decide (v.num=0) && decide (v.bytes.length<=24) else false
theorem Qdl(v:V): v.str.size=v.bytes.length:=(Array.length_toList (xs:=v.str.data)).symm
theorem Qdm(v:V): (v.str.toList == (⟨#[]⟩:ByteArray).toList)=(v.bytes == []):=by rw[ByteArray.toList_eq,ByteArray.toList_eq];rfl
theorem Qbp(v:V)(w:World): Ret Tryz.prog 173 [v.val] w λr w'=>r=.bool (Xg v)/\Ext w w':=by
 refine Jz Tryz.func173 Tryz.ntmps173 rfl kr rfl ?_;refine ρ ?_;refine bx (cs:=v.cells) ?_;intro w1 b j D u;refine ρ ?_;refine ld (u.at (i:=0) rfl) ?_;refine ρ ?_;refine ci (λh=>?_) (λh=>?_)
 .refine ρ ?_;refine ld (u.at (i:=2) rfl) ?_;refine ρ ?_;refine Jq ⟨?_,j⟩;rw[Xg,if_pos (Ug h),Qdm]
 refine ρ ?_;refine ci (λy=>?_) (λy=>?_)
 .refine ρ ?_;refine ld (u.at (i:=1) rfl) ?_;refine ρ ?_;refine ki 15 (λB=>?_) (λB=>?_)
  .refine ρ ?_;refine ld (u.at (i:=2) rfl) ?_;refine ρ ?_;refine Jq ⟨?_,j⟩;rw[Xg,if_neg (Uj h),if_pos (Ug y),decide_eq_true (Ug B),Qdl,Bool.true_and];congr 1
   grind
  refine ρ ?_;refine Jq ⟨?_,j⟩;rw[Xg,if_neg (Uj h),if_pos (Ug y),decide_eq_false (Uj B)];rfl
 refine ρ ?_;refine Jq ⟨?_,j⟩;rw[Xg,if_neg (Uj h),if_neg (Uj y)]
theorem Jrx(h:RowV w v r): Ret Tryz.prog 150 [v] w λu w'=>u=.bool (r.all Xg)/\Ext w w':=by
 obtain⟨A,c,rfl,Z,U,G⟩:=h;refine Jz Tryz.func150 Tryz.ntmps150 rfl kr rfl ?_;refine ρ ?_;refine Js (fun (k:Nat)=>[(0,.slice A r.length c),(5,.int .i64 (r.length:Int)),(6,.int .i64 (k:Int))]) (λk w'=>Ext w w'/\k<=r.length/\(r.take k).all Xg=true) (λk=>r.length-k) 0 sB ⟨Ext.refl w,Nat.zero_le _,rfl⟩ ?_;rintro k w1 ⟨B,J,O⟩;refine ρ ?_;refine ci (λh=>?_) (λh=>?_)
 .have lk:k<r.length:=by have:=oT h;omega
  have y:=G.ext B;refine ρ ?_;refine ixq 3 k y lk ?_;refine ρ ?_;refine lds (λj u D=>RdR.cell y lk D) ?_;refine ρ ?_;refine cl (Qbp (r.getD k V0) _) ?_;rintro u w2 ⟨rfl,i⟩;refine ρ ?_;refine ci (λh=>?_) (λh=>?_)
  .refine ρ ?_;refine Jq ⟨?_,B.trans i⟩;grind
  refine ρ ?_;have h':Xg (r.getD k V0)=true:=by simpa using h
  refine Jp (k+1) sO ⟨B.trans i,om,?_⟩ om;grind [Qr,V0,lk]
 refine ρ ?_;refine Jq ⟨?_,B⟩;grind
def RelV(w:World)(v:Value)(ar:Nat)(ls:List Row): Prop:=∃ rv,v=.agg #[.int .i64 (ar:Int),rv]/\RowsV w rv ls
theorem RelV.ext{w w':World}{v:Value}{ar:Nat}{ls:List Row}(h:RelV w v ar ls)(hx:Ext w w'): RelV w' v ar ls:=by
 obtain⟨i,e,h⟩:=h;exact⟨i,e,h.ext hx⟩
theorem Yf: Qe Tryz.prog 80=some (.agg #[.int .i64 0,.slice none 0 0]):=kr
theorem Jzm(w:World): (Instr.build 80 #[]).run Tryz.prog w=.ok (.agg #[.int .i64 0,.slice none 0 0]) w:=kr
theorem Xwf(z:Int)(w:World): (Instr.build 80 #[(0,.int .i64 z)]).run Tryz.prog w=.ok (.agg #[.int .i64 z,.slice none 0 0]) w:=kr
theorem Xwc(z:Int)(A:Option Addr)(n c:Nat)(w:World): (Instr.build 80 #[(0,.int .i64 z),(1,.slice A n c)]).run Tryz.prog w=.ok (.agg #[.int .i64 z,.slice A n c]) w:=kr
theorem Vq: ∀ u∈[Value.int .i64 z,.slice A n c],u.oneCell'=true:=by
 intro u i;simp at i;rcases i with rfl|rfl<;>rfl
theorem Jsf(z:Int)(w:World): Ret Tryz.prog 76 [.int .i64 z] w λv w'=>Ext w w'/\∃ z' e,v=.tuple #[.agg #[.int .i64 z',.slice none 0 0],.int .i64 e]/\(e=0->z'=z)/\(e=0↔0<=z/\z<=32):=by
 refine Jz Tryz.func76 Tryz.ntmps76 rfl kr rfl ?_;refine ρ ?_;refine alc Yf ?_;intro w1 b u y B;refine ρ ?_;refine Gj (fun (t:Bool)=>[(0,.int .i64 z),(2,.pointer (some ⟨b,0,none⟩)),(9,.bool t)]) (λt w'=>w'=w1/\(t=true↔¬ (0<=z/\z<=32))) ?_ ?_
 .refine ki 6 (λh=>?_) (λh=>?_)
  .refine ρ ?_;exact Jg true sB ⟨rfl,by grind⟩
  refine ρ ?_;refine Jg _ sB ⟨rfl,?_⟩;grind
 rintro t w' ⟨rfl,ht⟩;refine ci (λh=>?_) (λh=>?_)
 .refine ρ ?_;refine bld (Jzm _) ?_;refine ρ ?_;refine stb B ?_ Vq;intro w2 j _ i;refine ρ ?_;exact Xh j ⟨i w u y,0,3,rfl,λe=>(by cases e),⟨λe=>(by cases e),λe=>absurd e (ht.1 h)⟩⟩
 refine ρ ?_;refine bld (Xwf z _) ?_;refine ρ ?_;refine stb B ?_ (Vq (z:=z) (A:=none) (n:=0) (c:=0));intro w2 j _ i;refine ρ ?_;refine Xh j ⟨i w u y,z,0,rfl,λ_=>rfl,⟨λ_=>?_,λ_=>rfl⟩⟩;grind
theorem Xvk(hs:sv=.slice A n c)(h:RowV w v r): Ret Tryz.prog 77 [.agg #[.int .i64 ar,sv],v] w λu w'=>Ext w w'/\∃ e,u=.int .i64 e/\(e=0↔(r.length:Int)=ar/\r.all Xg=true):=by
 subst hs;obtain⟨B,c',rfl,D,h3,U⟩:=id h;refine Jz Tryz.func77 Tryz.ntmps77 rfl kr rfl ?_;refine ρ ?_;refine bx ?_;intro w1 b j Z G;refine ρ ?_;refine ld (G.at (i:=0) rfl) ?_;refine ρ ?_;refine ci (λh=>?_) (λJ=>?_)
 .refine ρ ?_;exact Jq ⟨j,6,rfl,⟨λe=>(by cases e),λe=>absurd e.1 (Kx h)⟩⟩
 have O:=Kz J;refine ρ ?_;refine cl (Jrx (h.ext j)) ?_;rintro u w2 ⟨rfl,y⟩;refine ρ ?_;refine ci (λh=>?_) (λD=>?_)
 .refine ρ ?_;refine Jq ⟨j.trans y,4,rfl,⟨λe=>(by cases e),λe=>?_⟩⟩;rw[e.2]at h;cases h
 refine ρ ?_;refine Jq ⟨j.trans y,0,rfl,⟨λ_=>⟨O,by simpa using D⟩,λ_=>rfl⟩⟩
open Go.RowKit Pl Go.Wk
variable {ps:List Pr}{ar base c n:Nat}{N:Nat->Prop}{A:Option Addr}{row:Option Nat}{v:Value}{w:World}
theorem RowX.off{r:Row}(h:RowX w N v r): Off N w (λu=>RowV u v r):=by
 obtain⟨A,c,G,D,B,y,j⟩:=h;intro w' i;refine⟨A,c,G,D,B,Ud y i λh0 J e=>j (λO=>?_) J e⟩;grind [Qw]
theorem Qwt(h:∀ p∈ps,Off (one row) w (λu=>RowV u p.1 p.2)): CF w row 152 #[] #[] ps []:=λw' i p q y j=>
 Jrz (h p y w' (GrN.by i λk e=>e)) (h q j w' (GrN.by i λk e=>e))
theorem eqRow(h:∀ p∈ps,Off (one row) w (λu=>RowV u p.1 p.2)): EqF w row 126 #[] #[] ps:=λw' i p q y j=>
 Qgf (h p y w' (GrN.by i λk e=>e)) (h q j w' (GrN.by i λk e=>e))
theorem ownB(A:Option Addr)(n c m d:Nat): (Value.slice A n c).ownBlock=(Value.slice A m d).ownBlock:=by cases A<;>rfl
theorem Qgc(hD:Dat w base (.slice A n c) ps)(hn:ps.length=n)(hmx:n<=1100000)(hnc:n<=c)(hN:∀ k,(Value.slice A n c).ownBlock=some k->¬ N k)(hr:∀ p∈ps,Off N w (λu=>RowV u p.1 p.2)): Off N w (λu=>RowsV u (.slice A n c) (ps.map (·.2))):=by
 intro w' i;refine⟨ps,A,c,rfl,by rw[hn],om,om,?_,λp j=>hr p j w' i⟩;rw[hn];refine Ud (hD.rd hn) i λ_ y e=>?_;subst e;exact hN _ rfl
def RowsP(N:Nat->Prop)(w:World)(v:Value)(ls:List Row): Prop:=∃(ps:List Pr) (A:Option Addr) (c:Nat),ls=ps.map (·.2)/\v=.slice A ps.length c/\ps.length<=c/\ps.length<=1100000/\Off N w (λu=>Rd u 1 A ps.length (ps.map (·.1)))/\∀ p∈ps,Off N w (λu=>RowV u p.1 p.2)
theorem RowsP.off{ls:List Row}(h:RowsP N w v ls): Off N w (λu=>RowsV u v ls):=by
 obtain⟨ps,A,c,O,J,G,D,B,y⟩:=h;exactλu i=>⟨ps,A,c,O,J,G,D,B u i,λp j=>y p j u i⟩
theorem rowsP(hD:Dat w base (.slice A n c) ps)(hn:ps.length=n)(hmx:n<=1100000)(hnc:n<=c)(hN:∀ k,(Value.slice A n c).ownBlock=some k->¬ N k)(hr:∀ p∈ps,Off N w (λu=>RowV u p.1 p.2)): RowsP N w (.slice A n c) (ps.map (·.2)):=by
 refine⟨ps,A,c,rfl,by rw[hn],om,om,λw' i=>?_,hr⟩;rw[hn];refine Ud (hD.rd hn) i λ_ j e=>?_;subst e;exact hN _ rfl
theorem Jlt(hD:Dat w base (.slice A n c) ps)(hn:ps.length=n)(hmx:n<=1100000)(hnc:n<=c)(hr:∀ p∈ps,Off (one (Value.slice A n c).ownBlock) w (λu=>RowV u p.1 p.2)):
  Ret Tryz.prog 78 [.int .i64 (ar:Int),.slice A n c] w λv w'=>w.grownBy w' (Value.slice A n c).ownBlock/\∃ rv e,v=.tuple #[rv,.int .i64 e]/\(∃ z B m d,rv=.agg #[.int .i64 z,.slice B m d])/\(n<=65536->e=0) /\
   (e=0->∃ m,Off (λk=>k<w.heap.size/\(Value.slice A n c).ownBlock≠some k) w' (λu=>RelV u rv ar m)/\m.length<=65536/\(∀ x∈m,x∈ps.map (·.2))/\((n<=12∨Srt [] (ps.map (·.2)))->Zn [] (ps.map (·.2)) m)):=by
 refine Jz Tryz.func78 Tryz.ntmps78 rfl kr rfl ?_;refine ρ ?_;refine alc Yf ?_;intro w1 b a2 hb hB;have au:=hD.ext a2;have aa:∀ p∈ps,Off (one (Value.slice A n c).ownBlock) w1 (λu=>RowV u p.1 p.2):=λp Z=>(hr p Z).ext a2;obtain⟨own,G⟩:∃ own,own=(Value.slice A n c).ownBlock:=⟨_,rfl⟩;have a6:∀ k,own=some k->k<w.heap.size:=λk e=>by
  obtain⟨_,_,_,_,hf⟩:=Jv hD.1;grind
 refine ρ ?_;refine cl (Qsl (au.rd hn) hn hmx (Qwt aa)) ?_;rintro v w2 ⟨a5,t,rfl,ht⟩;refine ρ ?_;refine Xn (fun (q:List Pr)=>[(0,.int .i64 (ar:Int)),(1,.slice A n c),(4,.pointer (some ⟨b,0,none⟩))]) (λq w'=>DP w1 w' base A n c ps q/\Blk w' b 80 [.int .i64 0,.slice none 0 0]/\((n<=12∨Srt [] (ps.map (·.2)))->Srt [] (q.map (·.2)))) ?_ ?_
 .have H2:=(DP.start au hn).ext a5;refine ci (λh=>?_) (λh=>?_)
  .have aw:¬ SOn z0 (fP []) ps 0 n:=by grind
   refine ρ ?_;refine cl (Qdt H2.d H2.l hmx ((Qwt aa).step H2)) ?_;rintro v w3 ⟨q,H3,hs⟩;refine ρ ?_;refine Jg q sB ⟨H2.after H3,(hB.ext a5).grown H3.g ((hB.ext a5).ne_own H2.d.1 rfl),λe=>?_⟩;rcases e with e|e
   .exact Jpt (by rw[H3.l];exact hs e)
   exfalso
   apply aw
   intro i j _ b8 hj;have e':=(List.pairwise_map.1 e);grind [List.pairwise_iff_getElem,fP,Ql,z0]
  have ax:t=true:=by simpa using h
  refine ρ ?_;exact Jg ps sB ⟨H2,hB.ext a5,λ_=>Jpt (by rw[hn];exact ht.1 ax)⟩
 rintro q w3 ⟨H3,av,ay⟩;have ai:∀ p∈q,Off (one (Value.slice A n c).ownBlock) w3 (λu=>RowV u p.1 p.2):=λp Z=>(aa p (H3.p.mem_iff.1 Z)).grown H3.g λk e=>e;refine ρ ?_;refine cl (Xxr H3.d H3.l hmx hnc (eqRow ai)) ?_;rintro v w4 ⟨y,rfl,aq,ac,af,ab⟩;have b7:y.length<=n:=by
  have:=Jwv (q.map (·.2))
  rw[<-ac,List.length_map,List.length_map,H3.l]at this;exact this
 have ae:=av.grown ab (av.ne_own H3.d.1 rfl);have ah:∀ p∈y,Off (one own) w4 (λu=>RowV u p.1 p.2):=λp Z=>by rw[G];exact(ai p (af p Z)).grown ab λk e=>e
 have a3:w1.grownBy w4 own:=by rw[G];exact Xy H3.g ab
 have b2:((n<=12∨Srt [] (ps.map (·.2)))->Zn [] (ps.map (·.2)) (y.map (·.2))):=λe=>by
  have h1:=Qkq (ay e);rw[<-ac]at h1;exact⟨h1.1,λx=>(h1.2 x).trans ((H3.p.map (·.2)).mem_iff)⟩
 generalize hm:y.length=m at *
 refine ρ ?_;refine ci (λh=>?_) (λh=>?_)
 .have b3:65536<m:=by have:=oT h;omega
  refine ρ ?_;refine bld (Jzm _) ?_;refine ρ ?_;refine stb ae ?_ Vq;intro w5 a4 D b5;refine ρ ?_;refine Xh a4 ⟨?_,_,11,rfl,⟨0,none,0,0,rfl⟩,λe=>(by omega),λe=>(by cases e)⟩;have g1:=Xy (Xl a2 own) a3;rw[<-G];exact⟨D.os.trans g1.os,D.tape.trans g1.tape,D.output.trans g1.output,Nat.le_trans g1.size D.size,λk hk hn=>(D.block k (nM hk g1.size) (λe=>by injection e with e;omega)).trans (g1.block k hk hn)⟩
 have b6:m<=65536:=by grind
 clear h;obtain⟨N',a7⟩:∃ N':Nat->Prop,N'=λk=>k<w1.heap.size∨own=some k:=⟨_,rfl⟩;have an:(Value.slice A m c).ownBlock=own:=by grind [ownB]
 refine ρ ?_;refine Qq (fun (k:Nat) (U:List Pr)=>[(0,.int .i64 (ar:Int)),(1,.slice A m c),(4,.pointer (some ⟨b,0,none⟩)),(19,.int .i64 (m:Int)),(20,.int .i64 (k:Int))])
  (λk U w'=>k<=m/\U.length=k/\U.map (·.2)=(y.take k).map (·.2)/\Dat w' base (.slice A m c) (U++y.drop k)/\(∀ p∈U,Off N' w' (λu=>RowV u p.1 p.2))/\(∀ p∈y,Off (one own) w' (λu=>RowV u p.1 p.2))/\Blk w' b 80 [.int .i64 0,.slice none 0 0]/\w1.grownBy w' own) (λk _=>m-k) 0 [] sB
  ⟨Nat.zero_le _,rfl,rfl,by simpa using aq,λp Z=>(by cases Z),ah,ae,a3⟩ ?_
 clear aq ah ae a3;rintro k U w5 ⟨hk,ak,aj,O,a8,ag,a4,D⟩;refine ρ ?_;have J:(U++y.drop k).length=m:=by simp;omega
 refine ci (λh=>?_) (λh=>?_)
 .have lk:k<m:=by have:=oT h;omega
  have ap:(U++y.drop k).getD k z0=y.getD k z0:=by grind
  have ao:y.getD k z0∈y:=Yz hm lk;refine ρ ?_;refine ix k (O.rd J) lk ?_;refine ρ ?_;refine ld (O.cell J lk) ?_;rw[ap];refine ρ ?_;refine cl (Jlr (ag _ ao).here N' (λj hj=>?_)) ?_
  .subst a7;rcases hj with h'|h'
   .exact nM h' D.size
   exact nM (a6 j h') (nL a2.size D.size)
  rintro v6 w6 ⟨a9,a1⟩;have ad:=O.ext a1;obtain⟨s1,s2,s3⟩:=ad.store J lk (p:=(v6,(y.getD k z0).2)) a9.v.one;refine ρ ?_;refine ix k (ad.rd J) lk ?_;refine ρ ?_;refine sto (ad.cell J lk) s1 ?_ (hv:=a9.v.one);refine ρ ?_;have e:(U++y.drop k).set k (v6,(y.getD k z0).2)=(U++[(v6,(y.getD k z0).2)])++y.drop (k+1):=by
   rw[List.set_append_right _ _ om,ak,Nat.sub_self,List.drop_eq_getElem_cons om,List.set_cons_zero,List.append_assoc];rfl
  rw[e]at s2;rw[an]at s3;refine Ju (k+1) (U++[(v6,(y.getD k z0).2)]) sO ⟨om,by simp[ak],?_,s2,λp Z=>?_,λp Z=>?_,?_,?_⟩ om
  .grind [Qr,z0]
  .rcases List.mem_append.1 Z with h'|h'
   .exact((a8 p h').ext a1).grown s3 (λk e=>by rw[a7];exact .inr e)
   rw[List.mem_singleton.1 h'];exact a9.off.grown s3 (λk e=>by rw[a7];exact .inr e)
  .exact((ag p Z).ext a1).grown s3 (λk e=>e)
  .have h7:=a4.ext a1;refine h7.grown s3 ?_;grind
  exact Xy D (Xy (Xl a1 _) s3)
 have e:k=m:=by have:=oF h;omega
 subst e;rw[List.drop_of_length_le om,List.append_nil]at O J;rw[List.take_of_length_le om]at aj;refine ρ ?_;refine bld (Xwc (ar:Int) A k c _) ?_;refine ρ ?_;refine stb a4 ?_ (Vq (z:=(ar:Int)) (A:=A) (n:=k) (c:=c));intro w7 b1 hg7 b4;refine ρ ?_;have b9:N' b:=by rw[a7];exact .inl hB.lt
 have az:Dat w7 base (.slice A k c) U:=⟨O.1.kept hg7 (.inr (λe=>a4.ne_own O.1 rfl e.symm)),O.2⟩;have am:=Qgc (N:=λj=>j<w.heap.size/\own≠some j) az J om om (λj ej hj=>hj.2 (by rw[<-ej,an])) (λp Z=>((a8 p Z).grown hg7 (λj ej=>by grind)).mono λj _ hj=>by grind);refine Xh b1 ⟨?_,_,0,rfl,⟨_,_,_,_,rfl⟩,λ_=>rfl,λ_=>⟨U.map (·.2),?_,by rw[List.length_map];omega,?_,?_⟩⟩
 .have g1:=Xy (Xl a2 own) D;rw[<-G];exact⟨hg7.os.trans g1.os,hg7.tape.trans g1.tape,hg7.output.trans g1.output,Nat.le_trans g1.size hg7.size,λj hj hn=>(hg7.block j (nM hj g1.size) (λe=>by injection e with e;omega)).trans (g1.block j hj hn)⟩
 .rw[<-G];exact am.imp λu hu=>⟨_,rfl,hu⟩
 .intro x hx;rw[aj,ac]at hx;have:x∈q.map (·.2):=by grind
  exact(H3.p.map (·.2)).mem_iff.1 this
 repeat grind
open Go.RowKit Pl Go.Wk
variable {ar b c n:Nat}{a w w':World}
theorem Xkd(w:World): (Instr.buildSlice 78 0 #[]).run Tryz.prog w=.ok (.slice (some ⟨w.heap.size,0,none⟩) 0 0) (w.alloc (.cells [].toArray 85)):=kr
theorem Qws{A:Option Addr}{ps:List Pr}(hR:Rd w 1 A n (ps.map (·.1)))(hn:ps.length=n)(hmx:n<=1100000)(h1:∀ p∈ps,p.1.oneCell'=true):
  Ret Tryz.prog 79 [.slice A n c] w λv' w'=>Ext w w'/\∃ B d,v'=.slice B n d/\n<=d/\Dat w' w.heap.size (.slice B n d) ps:=by
 refine Jz Tryz.func79 Tryz.ntmps79 rfl kr rfl ?_;refine ρ ?_;refine snil ?_;refine ρ ?_;refine ci (λh=>?_) (λh=>?_)
 .have Z:A=none:=by simpa using h
  subst Z;have G:n=0:=by
   rcases Nat.eq_zero_or_pos n with h0|h0
   .exact h0
   obtain⟨ad,h2,_⟩:=hR.isome h0 om;cases h2
  subst G;obtain rfl:=List.eq_nil_of_length_eq_zero hn;refine ρ ?_;exact Jq ⟨Ext.refl w,none,0,rfl,Nat.le_refl _,⟨Xr _ _ _ _,λp U=>by cases U⟩⟩
 refine ρ ?_;refine bsl Xkd ?_;intro w1 b j O J;refine ρ ?_;refine apo j ER (J.own (n:=0) O rfl (Nat.zero_le _)) (hR.ext j) (λu hu=>by grind) (by unfold maxLen;omega) om ?_;intro v2 w2 i D _ _;obtain⟨A2,c2,rfl,y,hf⟩:=Jv i;refine ρ ?_;rw[Nat.zero_add]at i y ⊢;refine Jq ⟨D,A2,c2,rfl,y,⟨?_,h1⟩⟩;rw[hn];exact i
theorem Jbs(hx:Ext a w)(hg:w.grownBy w' (some b))(hb:a.heap.size<=b): Ext a w':=by grind [Ja]
theorem Qgr{v:Value}{ls:List Row}(h:RowsV w v ls):
  Ret Tryz.prog 40 [.int .i64 (ar:Int),v] w λu w'=>Ext w w'/\∃ rv e,u=.tuple #[rv,.int .i64 e]/\(∃ z B m d,rv=.agg #[.int .i64 z,.slice B m d])/\(ar<=32->(∀ r∈ls,r.length=ar/\r.all Xg=true)->ls.length<=65536->e=0) /\
   (e=0->ar<=32/\(∀ r∈ls,r.length=ar/\r.all Xg=true)/\∃ m,Off (λk=>k<w.heap.size) w' (λu=>RelV u rv ar m)/\m.length<=65536/\(∀ x∈m,x∈ls)/\((ls.length<=12∨Srt [] ls)->Zn [] ls m)):=by
 obtain⟨ps,A,c,rfl,rfl,b6,ag,hR,a2⟩:=h;generalize hn:ps.length=n at *
 have b4:∀ i,(ps.map (·.2)).getD i []=(ps.getD i z0).2:=λi=>Jwd
 have ae:∀ p∈ps,p.1.oneCell'=true:=λp hp=>(a2 p hp).one;refine Jz Tryz.func40 Tryz.ntmps40 rfl kr rfl ?_;refine ρ ?_;refine alc Yf ?_;intro w1 b aq hb hB;refine ρ ?_;refine cl (Jsf (ar:Int) w1) ?_;rintro v2 w2 ⟨ad,z',e2,rfl,ai,G⟩;refine ρ ?_;refine alc Yf ?_;intro w3 b3 ap ax b2;refine ρ ?_;refine stb b2 ?_ (Vq (z:=z') (A:=none) (n:=0) (c:=0));intro w4 b1 b8 ao;have a7:Ext w1 w4:=ao w1 (ad.trans ap) (nL ad.size ax);have O:=aq.trans a7;have ab:=hB.ext a7;refine ρ ?_;refine ci (λh=>?_) (λh=>?_)
 .have a8:=Kx h;refine ρ ?_;refine bld (Jzm _) ?_;refine ρ ?_;refine stb ab ?_ Vq;intro w5 aa b7 Z;refine ρ ?_;refine Xh aa ⟨Z w O hb,_,e2,rfl,⟨0,none,0,0,rfl⟩,λh1 _ _=>G.2 om,λe=>absurd e a8⟩
 have hz:=Kz h;subst hz;have ay:ar<=32:=by have:=G.1 rfl;omega
 have ak:=ai rfl;subst ak;clear h ai G;refine ρ ?_;refine Js (fun (k:Nat)=>[(0,.int .i64 (ar:Int)),(1,.slice A n c),(4,.pointer (some ⟨b,0,none⟩)),(6,.pointer (some ⟨b3,0,none⟩)),(20,.int .i64 (n:Int)),(21,.int .i64 (k:Int))])
  (λk w'=>Ext w4 w'/\k<=n/\∀ i,i<k->(ps.getD i z0).2.length=ar/\(ps.getD i z0).2.all Xg=true) (λk=>n-k) 0 sB ⟨Ext.refl _,Nat.zero_le _,λi hi=>om⟩ ?_
 rintro k w5 ⟨Z,hk,hI⟩;have y:=O.trans Z;refine ρ ?_;refine ci (λh=>?_) (λh=>?_)
 .have lk:k<n:=by have:=oT h;omega
  clear h;refine ρ ?_;refine dr [(0,0),(0,1),(0,2),(0,3),(0,4),(1,5),(0,6)] kr ?_;have a6:=Z.drew;have aa:=b1.ext a6;have aj:=hR.ext y.drew;refine ρd ?_;refine Qb (cs:=[.int .i64 (ar:Int),.slice none 0 0]) (λj u hu=>aa.at hu) ?_;refine ρd ?_;refine dix k aj lk ?_;refine ρd ?_;refine dld (Jjj aj hn lk) ?_;refine ρd ?_;refine dcl (Xvk (A:=none) (n:=0) (c:=0) rfl ((a2 _ (Yz hn lk)).ext y.drew)) ?_;rintro u w6 ⟨U,e,rfl,G⟩;refine⟨U,?_⟩;refine ρd ?_;refine ρ ?_;have a1:=a6.trans U;refine ci (λh=>?_) (λh=>?_)
  .have a8:=Kx h;refine ρ ?_;refine bld (Jzm _) ?_;refine ρ ?_;refine stb (ab.ext a1) ?_ Vq;intro w7 a9 hg7 an;refine ρ ?_;refine Xh a9 ⟨an w (O.trans a1) hb,_,e,rfl,⟨0,none,0,0,rfl⟩,λ_ h2 _=>?_,λe=>absurd e a8⟩;grind
  have hz:=Kz h;have b5:=G.1 hz;refine ρ ?_;refine Jp (k+1) sO ⟨a1,om,λi hi=>?_⟩ om;grind
 have e:k=n:=by have:=oF h;omega
 subst e;refine ρ ?_;refine cl (Qws (hR.ext y) hn ag ae) ?_;rintro u w6 ⟨U,D,d,rfl,hd,a4⟩;have J:=y.trans U;have a3:∀ j,(Value.slice D k d).ownBlock=some j->w5.heap.size<=j/\j<w6.heap.size:=by
  obtain⟨_,_,_,_,hf⟩:=Jv a4.1;grind
 have af:∀ p∈ps,Off (one (Value.slice D k d).ownBlock) w6 (λu=>RowV u p.1 p.2):=λp hp=>Off.old (a:=w) (λu hu=>(a2 p hp).ext hu) J (λj ej=>nL y.size (a3 j ej).1);refine ρ ?_;refine cl (Jlt (ar:=ar) a4 hn ag hd af) ?_;rintro u w7 ⟨hg7,rv,e,rfl,⟨z,B,m,d',au⟩,ah,av⟩;have ac:Ext w w7:=Ja J hg7 (λj ej=>nL y.size (a3 j ej).1);have a5:=(ab.ext Z).ext U;have a9:=a5.grown hg7 (a5.ne_own a4.1 rfl);subst au;refine ρ ?_;refine stb a9 ?_ (Vq (z:=z) (A:=B) (n:=m) (c:=d'));intro w8 az aw am;refine ρ ?_;refine Xh az ⟨am w ac hb,_,e,rfl,⟨z,B,m,d',rfl⟩,λ_ _ h3=>ah (by grind),λe0=>⟨ay,λr hr=>?_,?_⟩⟩
 .grind [List.mem_map.1,List.getElem_of_mem,Ql,z0]
 obtain⟨ms,m1,m2,m3,m4⟩:=av e0;refine⟨ms,?_,m2,m3,λhc=>m4 (by grind)⟩;have b9:b<w6.heap.size/\(Value.slice D k d).ownBlock≠some b:=⟨a5.lt,λe=>a5.ne_own a4.1 rfl e.symm⟩;refine(m1.grown aw (λj ej=>by grind)).mono λj _ hj=>⟨nM hj J.size,λe=>?_⟩;have:=(a3 j e).1;have:=y.size;omega
open Go.RowKit Pl Go.Wk
variable {cs:List Nat}{ls:List Row}{ar i k:Nat}{v:Value}{w:World}
theorem Jfh: ∀(q:Row) (i:Nat) (x:V),i<q.length->Qw (q.set i x)=(Qw q).take (i*3)++x.cells++(Qw q).drop (i*3+3)
 | [],i,x,h=>by simp at h
 | v::q,0,x,_=>by
  have e:Qw (v::q)=v.cells++Qw q:=by simp[Qw]
  have e2:Qw (x::q)=x.cells++Qw q:=by simp[Qw]
  rw[List.set_cons_zero,e,e2,Nat.zero_mul,List.take_zero,List.nil_append,Nat.zero_add];congr 1
 | v::q,i+1,x,h=>by
  have ih:=Jfh q i x (by simpa using h);have e:Qw (v::q)=v.cells++Qw q:=by simp[Qw]
  have e2:Qw (v::q.set i x)=v.cells++Qw (q.set i x):=by simp[Qw]
  have hl:v.cells.length=3:=rfl;rw[List.set_cons_succ,e,e2,ih];have e3:(v.cells++Qw q).take ((i+1)*3)=v.cells++(Qw q).take (i*3):=by grind [List.take_append,List.take_of_length_le]
  grind [Qw,List.drop_append,List.drop_of_length_le,List.append_assoc]
theorem Jfg(n:Nat): (madeCells (Value.agg #[.int .i64 0,.int .i64 0,.string ⟨#[]⟩]).cells (n*3)).toList=Qw (List.replicate n V0):=by
 apply List.ext_getElem?
 intro k;have j:(Value.agg #[.int .i64 0,.int .i64 0,.string ⟨#[]⟩]).cells = #[.int .i64 0,.int .i64 0,.string ⟨#[]⟩]:=rfl;rw[j];by_cases hk:k<n*3
 .have i:=Jfj (List.replicate n V0) (k / 3) (k % 3) (by simp;omega) om;rw[show k / 3*3+k % 3=k by omega]at i;rw[i];have e:(List.replicate n V0).getD (k / 3) V0=V0:=by grind
  rw[e];have u:k % 3<3:=om
  simp only[madeCells,Array.getElem?_toList,Array.getElem?_map,Array.getElem?_range,hk,if_true,Option.map_some];generalize k % 3=r at *
  have:r=0∨r=1∨r=2:=om
  rcases this with rfl|rfl|rfl<;>rfl
 rw[List.getElem?_eq_none (by simp[madeCells];omega),List.getElem?_eq_none (by grind [Jsb])]
def Jb(zs:List Int): List Value:=zs.map (Value.int .i64)
def IntsV(w:World)(v:Value)(zs:List Int): Prop:=∃ A c,v=.slice A zs.length c/\zs.length<=c/\zs.length<=1100000/\Rd w 1 A zs.length (Jb zs)
theorem IntsV.ext{w w':World}{v:Value}{zs:List Int}(h:IntsV w v zs)(hx:Ext w w'): IntsV w' v zs:=by obtain⟨A,c,y,u,j,i⟩:=h;exact⟨A,c,y,u,j,i.ext hx⟩
theorem Kb{zs:List Int}(h:i<zs.length): (Jb zs)[i]?=some (.int .i64 (zs.getD i 0)):=by simp[Jb,List.getD,List.getElem?_eq_getElem h]
def nz(cs:List Nat): List Int:=cs.map fun (c:Nat)=>(c:Int)
theorem Qs(h:i<cs.length): (Jb (nz cs))[i]?=some (.int .i64 (cs.getD i 0:Int)):=by simp[Jb,nz,List.getD,List.getElem?_eq_getElem h]
theorem Xw(cs:List Nat): (nz cs).length=cs.length:=by simp[nz]
def pmR(cs:List Nat)(r:Row): Row:=cs.map λc=>r.getD c V0
abbrev Uv(w:World)(base:Nat)(v:Value)(q:Row): Prop:=w.ownsRow base 102 3 v q.length (Qw q)
theorem Zu(cs:List Nat)(r:Row): (pmR cs r).length=cs.length:=by simp[pmR]
theorem Jtg{r:Row}(hk:k<cs.length): (pmR cs r).getD k V0=r.getD (cs.getD k 0) V0:=by grind [Ql,V0,pmR]
theorem Gt(h:RelV w v ar ls): Ret Tryz.prog 30 [v] w λu w'=>u=.int .i64 (ls.length:Int)/\Ext w w':=by
 obtain⟨J,rfl,ps,A,c,rfl,rfl,D,B,U,y⟩:=h;refine Jz Tryz.func30 Tryz.ntmps30 rfl kr rfl ?_;refine ρ ?_;refine bx ?_;intro w1 b j O G;refine ρ ?_;refine ld (G.at (i:=1) rfl) ?_;refine ρ ?_;exact Jq ⟨by rw[List.length_map],j⟩
theorem Jfm(h:RelV w v ar ls): Ret Tryz.prog 84 [v] w λu w'=>u=.int .i64 (ar:Int)/\Ext w w':=by
 obtain⟨J,rfl,ps,A,c,rfl,rfl,D,B,U,y⟩:=h;refine Jz Tryz.func84 Tryz.ntmps84 rfl kr rfl ?_;refine ρ ?_;refine bx ?_;intro w1 b j O G;refine ρ ?_;refine ld (G.at (i:=0) rfl) ?_;refine ρ ?_;exact Jq ⟨rfl,j⟩
theorem Qgq(h:RelV w v ar ls): Ret Tryz.prog 122 [v] w λu w'=>Ext w w'/\RowsP (λk=>k<w.heap.size) w' u ls:=by
 obtain⟨rv,rfl,ps,A,c,rfl,rfl,af,ad,hR,a6⟩:=h;generalize hn:ps.length=n at *
 refine Jz Tryz.func122 Tryz.ntmps122 rfl kr rfl ?_;refine ρ ?_;refine bx ?_;intro w0 b U hb hB;refine ρ ?_;refine ld (hB.at (i:=1) rfl) ?_;refine ρ ?_;refine mkn ER n om (by unfold maxLen;omega) ?_;intro w1 O ac a8 hO;have a9:∀ k,(Value.slice O n n).ownBlock=some k->w0.heap.size<=k/\k<w1.heap.size:=by grind [Jv]
 have ae:Dat w1 w0.heap.size (.slice O n n) ([]++List.replicate n (.slice none 0 0,[])):=by
  refine⟨?_,λp J=>?_⟩
  .rw[List.nil_append,List.length_replicate,Pr.rep];have e:(madeCells (Value.slice none 0 0).cells (n*1)).toList=List.replicate n (.slice none 0 0):=by rw[Nat.mul_one];exact Vw _ _
   rw[e]at a8;exact a8
  rw[List.nil_append]at J;rw[(List.mem_replicate.1 J).2];rfl
 obtain⟨N,hN⟩:∃ N:Nat->Prop,N=λk=>k<w0.heap.size∨(Value.slice O n n).ownBlock=some k:=⟨_,rfl⟩;refine ρ ?_;refine Qq (fun (k:Nat) (B:List Pr)=>[(1,.pointer (some ⟨b,0,none⟩)),(3,.slice O n n),(10,.int .i64 (n:Int)),(11,.int .i64 (k:Int))])
  (λk B w2=>k<=n/\B.length=k/\B.map (·.2)=(ps.take k).map (·.2)/\Ext w0 w2/\w1.heap.size<=w2.heap.size/\Dat w2 w0.heap.size (.slice O n n) (B++List.replicate (n-k) (.slice none 0 0,[]))/\(∀ p∈B,Off N w2 (λu=>RowV u p.1 p.2))) (λk _=>n-k) 0 [] sB
  ⟨Nat.zero_le _,rfl,rfl,ac,Nat.le_refl _,ae,λp J=>(by cases J)⟩ ?_
 rintro k B w2 ⟨hk,a1,a7,G,a5,a4,aa⟩;have y:=U.trans G;refine ρ ?_;refine ci (λh=>?_) (λh=>?_)
 .have lk:k<n:=by have:=oT h;omega
  refine ρ ?_;refine ld ((hB.ext G).at (i:=1) rfl) ?_;refine ρ ?_;refine ix k (hR.ext y) lk ?_;refine ρ ?_;refine ld (Jjj (hR.ext y) hn lk) ?_;refine ρ ?_;refine cl (Jlr ((a6 _ (Yz hn lk)).ext y) N (λj hj=>?_)) ?_
  .subst hN;rcases hj with h'|h'
   .exact nM h' G.size
   repeat grind
  rintro v3 w3 ⟨Z,D⟩;have a3:=a4.ext D;have a2:(B++List.replicate (n-k) ((.slice none 0 0,[]):Pr)).length=n:=by simp;omega
  obtain⟨s1,s2,s3⟩:=a3.store a2 lk (p:=(v3,(ps.getD k z0).2)) Z.v.one;refine ρ ?_;refine ix k (a3.rd a2) lk ?_;refine ρ ?_;refine sto (a3.cell a2 lk) s1 ?_ (hv:=Z.v.one);refine ρ ?_;have e:(B++List.replicate (n-k) ((.slice none 0 0,[]):Pr)).set k (v3,(ps.getD k z0).2)=(B++[(v3,(ps.getD k z0).2)])++List.replicate (n-(k+1)) (.slice none 0 0,[]):=by
   rw[show n-k=(n-(k+1))+1 by omega,List.replicate_succ,List.set_append_right _ _ om,a1,Nat.sub_self,List.set_cons_zero,List.append_assoc];rfl
  rw[e]at s2;have ab:∀ j,(Value.slice O n n).ownBlock=some j->N j:=λj ej=>by rw[hN];exact .inr ej
  refine Ju (k+1) (B++[(v3,(ps.getD k z0).2)]) sO ⟨om,by simp[a1],?_,Ja (G.trans D) s3 (λj hj=>(a9 j hj).1),Nat.le_trans a5 (nL D.size s3.size),s2,λp J=>?_⟩ om
  .grind [Qr,z0]
  rcases List.mem_append.1 J with h'|h'
  .exact((aa p h').ext D).grown s3 ab
  rw[List.mem_singleton.1 h'];exact Z.off.grown s3 ab
 have e:k=n:=by have:=oF h;omega
 subst e;rw[Nat.sub_self,List.replicate_zero,List.append_nil]at a4;rw[List.take_of_length_le om]at a7;refine ρ ?_;refine Jq ⟨y,?_⟩;rw[<-a7];refine rowsP a4 a1 ad (Nat.le_refl _) (λj ej hj=>?_) λp J=>(aa p J).mono λj _ hj=>by rw[hN];exact .inl (nM hj U.size)
 have:=(a9 j ej).1;have:=U.size;omega
open Go.RowKit Pl Go.Wk
variable {B B0:Nat}{w w':World}
def fibT: List Int:=[1,2,3,5,8,13,21,34,55,89,144,233,377,610,987,1597,2584,4181,6765,10946,17711,28657,46368,75025,121393,196418,317811,514229,832040,1346269,2178309,3524578,5702887,9227465,14930352,24157817,39088169,63245986,102334155,165580141,267914296,433494437,701408733,1134903170,1836311903,2971215073,4807526976,7778742049,12586269025,20365011074,32951280099,53316291173,86267571272,139583862445,225851433717,365435296162,591286729879,956722026041,1548008755920,2504730781961,4052739537881,6557470319842,10610209857723,17167680177565,27777890035288,44945570212853,72723460248141,117669030460994,190392490709135,308061521170129,498454011879264,806515533049393,1304969544928657,2111485077978050,3416454622906707,5527939700884757,8944394323791464,14472334024676221,23416728348467685,37889062373143906,61305790721611591,99194853094755497,160500643816367088,259695496911122585,420196140727489673,679891637638612258,1100087778366101931,1779979416004714189,2880067194370816120,4660046610375530309,7540113804746346429]
theorem Qtw: ∀ h<91,0<fibT.getD h 0/\fibT.getD h 0<=9223372036854775807:=by decide +kernel
def Iw(n:Int): Nat->Nat->Nat
 | 0,h=>h
 | f+1,h=>if fibT.getD (h+1) 0-1<=n then Iw n f (h+1) else h
def hgt(n:Int): Nat:=Iw n 90 0
theorem Qxk(n:Int): ∀ f h,h<=Iw n f h/\Iw n f h<=h+f
 | 0,h=>⟨Nat.le_refl _,Nat.le_refl _⟩
 | f+1,h=>by
  have:=Qxk n f (h+1);unfold Iw;split<;>omega
theorem Qtc(n:Int): hgt n<=90:=by have:=(Qxk n 90 0).2;simpa [hgt] using this
structure FB(B0:Nat)(w:World): Prop where
 le:B0<=w.heap.size
 tab:Lib.TabBelow Tryz.prog B0 w "ordinal/cost.fibonacci" .i64 fibT
theorem FB.below(h:FB B0 w)(hb:Below B w w')(hle:B0<=B): FB B0 w':=⟨nL h.le hb.size,h.tab.on (hb.mono hle)⟩
theorem FB.ext(h:FB B0 w)(hx:Ext w w'): FB B0 w':=h.below hx h.le
theorem gFib: Tryz.prog.globalNamed "ordinal/cost.fibonacci" = some 0:=kr
theorem FB.cell{B0:Nat}{w:World}(h:FB B0 w){i:Nat}(hi:i<91): w.cell? ((⟨0,0,none⟩:Addr).add i)=some (.int .i64 (fibT.getD i 0)):=by
 have j:=h.tab.here.cell gFib i (by show i<91;exact hi);have e:(⟨0,0,none⟩:Addr).add i=⟨0,i,none⟩:=by simp[Addr.add];omega
 rw[e];exact j
theorem Jls(hT:FB B0 w)(n:Int): Ret Tryz.prog 11 [.int .i64 n] w λu w'=>u=.int .i64 (hgt n:Int)/\Ext w w':=by
 refine Jz Tryz.func11 Tryz.ntmps11 rfl kr rfl ?_;refine ρ ?_;refine Js (fun (k:Nat)=>[(0,.int .i64 n),(3,.int .i64 (k:Int))]) (λk w'=>k<=90/\w'=w/\hgt n=Iw n (90-k) k) (λk=>90-k) 0 sB ⟨Nat.zero_le _,rfl,rfl⟩ ?_;rintro k w2 ⟨y,rfl,j⟩;refine ρ ?_;have G:IntKind.i64.wrap ((k:Int)+1)=((k+1:Nat):Int):=Vn ⟨om,om⟩;by_cases lk:k<90
 case neg=>
  obtain rfl:k=90:=om
  refine kf 7 ?_ ?_
  .exact dF om
  refine ρ ?_;exact Jq ⟨by rw[j],Ext.refl _⟩
 refine kt 7 ?_ ?_
 .exact decide_eq_true om
 have B:=Qtw (k+1) om;have D:IntKind.i64.wrap (fibT.getD (k+1) 0-1)=fibT.getD (k+1) 0-1:=Vn ⟨om,om⟩;have i:90-k=(90-(k+1))+1:=om
 rw[i]at j;refine ρ ?_;refine ixa (k+1) (hlt:=Nat.ble_eq_true_of_le (show k+1+1<=91 by omega)) ?_;refine ρ ?_;refine ld (show w2.cell? ((⟨0,0,none⟩:Addr).add ((k+1)*1))=some (.int .i64 (fibT.getD (k+1) 0)) by rw[Nat.mul_one];exact hT.cell om) ?_;refine ρ ?_;refine ci (λh=>?_) (λh=>?_)
 .have h:=oT h;refine ρ ?_;refine Jp (k+1) sB ⟨lk,rfl,?_⟩ om;rw[j,Iw,if_pos om]
 have h:=oF h;refine ρ ?_;exact Jq ⟨by rw[j,Iw,if_neg om],Ext.refl _⟩
open Go.RowKit Pl Go.Wk
variable {cs ls:List Nat}{B0 k m:Nat}{v:Value}{w:World}
theorem Qcx(h:k<ls.length): (ls.take (k+1)).sum=(ls.take k).sum+ls.getD k 0:=by
 rw[Qr 0 h];simp
theorem Jpl(h:∀ c∈ls,c<=m)(k:Nat): (ls.take k).sum<=ls.length*m:=by
 induction ls generalizing k with
 | nil=>simp
 | cons a r ih=>
  cases k with
  | zero=>simp
  | succ k=>
   have u:=ih (λc i=>h c (List.mem_cons_of_mem _ i)) k;have j:=h a (mC ..);simp only[List.take_succ_cons,List.sum_cons,List.length_cons,Nat.add_mul,Nat.one_mul];omega
def hgS(zs:List Int): Nat:=(zs.map hgt).sum
theorem Xqw(hv:IntsV w v (nz cs))(hb:∀ c∈cs,c<=1000): Ret Tryz.prog 39 [v] w λu w'=>u=.int .i64 (cs.sum:Int)/\Ext w w':=by
 obtain⟨D,d,O,Z,y,B⟩:=id hv;subst O;have i:(nz cs).length=cs.length:=by simp[nz]
 rw[i]at B y;refine Jz Tryz.func39 Tryz.ntmps39 rfl kr rfl ?_;rw[i];refine ρ ?_;refine Js (fun (k:Nat)=>[(3,.int .i64 ((cs.take k).sum:Int)),(6,.slice D cs.length d),(7,.int .i64 (cs.length:Int)),(8,.int .i64 (k:Int))]) (λk w'=>k<=cs.length/\w'=w) (λk=>cs.length-k) 0 sB ⟨Nat.zero_le _,rfl⟩ ?_;rintro k w2 ⟨U,rfl⟩;have J:=Jpl hb k;have G:=Jpl hb (k+1);refine ρ ?_;refine ci (λh=>?_) (λh=>?_)
 .have lk:k<cs.length:=by have:=oT h;omega
  clear h;have e:=Qcx lk;refine ρ ?_;refine ix k B lk ?_;refine ρ ?_;refine ld (B.cell (Qs lk)) ?_;refine ρ ?_;refine Jp (k+1) ?_ ⟨lk,rfl⟩ om;rw[e];exact sO
 have j:k=cs.length:=by have:=oF h;omega
 subst j;rw[List.take_length]at *;refine ρ ?_;exact Jq ⟨rfl,Ext.refl _⟩
theorem Xzw(hT:FB B0 w){zs:List Int}(hv:IntsV w v zs): Ret Tryz.prog 13 [v] w λu w'=>u=.int .i64 (hgS zs:Int)/\Ext w w':=by
 obtain⟨D,d,e1,hd,a5,hD⟩:=id hv;subst e1;refine Jz Tryz.func13 Tryz.ntmps13 rfl kr rfl ?_;refine ρ ?_;refine mkn EI zs.length om (by unfold maxLen;omega) ?_;intro w1 B a1 O a4;have e0:(madeCells (Value.int .i64 0).cells (zs.length*1)).toList=Jb (nz (List.replicate zs.length 0)):=by
  rw[Nat.mul_one];refine(Vw _ _).trans ?_;simp[Jb,nz]
 rw[e0]at O;refine ρ ?_;refine Qq (fun (k:Nat) (_:List Nat)=>[(0,.slice D zs.length d),(3,.slice B zs.length zs.length),(9,.slice D zs.length d),(10,.int .i64 (zs.length:Int)),(11,.int .i64 (k:Int))])
  (λk ls w'=>k<=zs.length/\ls.length=zs.length/\(∀ j,j<k->ls[j]?=some (hgt (zs.getD j 0)))/\w'.ownsRow w.heap.size 3 1 (.slice B zs.length zs.length) zs.length (Jb (nz ls))/\Ext w w') (λk _=>zs.length-k) 0 (List.replicate zs.length 0) sB
  ⟨Nat.zero_le _,by simp,λj hj=>absurd hj (Nat.not_lt_zero j),O,a1⟩ ?_
 rintro k ls w2 ⟨hk,Z,U,J,i⟩;refine ρ ?_;refine ci (λh=>?_) (λh=>?_)
 .have lk:k<zs.length:=by have:=oT h;omega
  clear h;refine ρ ?_;refine ix k (hD.ext i) lk ?_;refine ρ ?_;refine ld ((hD.ext i).cell (Kb lk)) ?_;refine ρ ?_;refine cl (Jls (hT.ext i) _) ?_;rintro u w3 ⟨rfl,y⟩;have G:=Jh J y;obtain⟨s1,s2,s3,s4,s5⟩:=Xp G (q:=k) om (.int .i64 ((hgt (zs.getD k 0):Nat):Int));have a2:(Jb (nz ls))[k]?=some (.int .i64 (ls.getD k 0:Int)):=Qs om;have es:(Jb (nz ls)).set k (.int .i64 ((hgt (zs.getD k 0):Nat):Int))=Jb (nz (ls.set k (hgt (zs.getD k 0)))):=by simp[Jb,nz,List.map_set]
  rw[es]at s3;refine ρ ?_;refine ix k (Rd.own G) lk ?_;refine ρ ?_;refine sto (s1.trans a2) s2 ?_;refine ρ ?_;refine Ju (k+1) (ls.set k (hgt (zs.getD k 0))) sO ⟨lk,by simp[Z],λj hj=>?_,s3,Ja (i.trans y) s5 λg hg=>?_⟩ om;repeat grind [List.getElem?_set_self,List.getElem?_set_ne,Jv]
 have a3:k=zs.length:=by grind
 have e:ls=zs.map hgt:=by
  refine List.ext_getElem? λj=>?_;by_cases lj:j<zs.length
  .rw[U j om,List.getElem?_map,List.getElem?_eq_getElem lj,List.getD,List.getElem?_eq_getElem lj];rfl
  rw[List.getElem?_eq_none om,List.getElem?_eq_none (by simp;omega)]
 subst e;refine ρ ?_;refine cl (Xqw (v:=.slice B zs.length zs.length) (cs:=zs.map hgt) ⟨B,zs.length,by simp[nz],by simp[nz],by simp[nz];omega,by simpa [nz] using Rd.own J⟩ λc hc=>?_) ?_
 .obtain⟨z,_,rfl⟩:=List.mem_map.1 hc;have:=Qtc z;omega
 rintro u w3 ⟨rfl,y⟩;refine ρ ?_;exact Jq ⟨rfl,i.trans y⟩
open Go.RowKit Pl Go.Wk
variable {cs:List Nat}{v vc:Value}{w:World}
theorem Qgd{r:Row}(h:RowV w v r)(hc:IntsV w vc (nz cs))(hlt:∀ c∈cs,c<r.length): Ret Tryz.prog 156 [v,vc] w λu w'=>Ext w w'/\∃ x,u=.tuple #[x,.int .i64 0]/\Off (λk=>k<w.heap.size) w' (λy=>RowV y x (pmR cs r)):=by
 obtain⟨A,ac,rfl,af,ae,a8⟩:=h;obtain⟨C,cc,rfl,aa,a9,G⟩:=hc;rw[Xw]at *;refine Jz Tryz.func156 Tryz.ntmps156 rfl kr rfl ?_;refine ρ ?_;refine Js (fun (k:Nat)=>[(0,.slice A r.length ac),(1,.slice C cs.length cc),(10,.int .i64 (cs.length:Int)),(11,.int .i64 (k:Int))]) (λk w'=>w'=w/\k<=cs.length) (λk=>cs.length-k) 0 sB ⟨rfl,Nat.zero_le _⟩ ?_;rintro k w' ⟨rfl,hk⟩;refine ρ ?_;refine ci (λh=>?_) (λh=>?_)
 .have lk:k<cs.length:=by have:=oT h;omega
  have ab:=hlt _ (getD_mem' 0 cs lk);refine ρ ?_;refine ix k G lk ?_;refine ρ ?_;refine ld (G.cell (Qs lk)) ?_;refine ρ ?_;refine kf 19 ?_ ?_
  .grind
  refine ρ ?_;refine ix k G lk ?_;refine ρ ?_;refine ld (G.cell (Qs lk)) ?_;refine ρ ?_;refine cf ?_ ?_
  .grind
  refine ρ ?_;exact Jp (k+1) sO ⟨rfl,om⟩ om
 refine ρ ?_;refine mkn EV cs.length om (by unfold maxLen;omega) ?_;intro w4 O a4 a6 hO;rw[Jfg]at a6;have a2:Uv w4 w'.heap.size (.slice O cs.length cs.length) ([]++List.replicate cs.length V0):=by grind
 refine ρ ?_;refine Js (fun (i:Nat)=>[(0,.slice A r.length ac),(1,.slice C cs.length cc),(7,.slice O cs.length cs.length),(33,.int .i64 (cs.length:Int)),(34,.int .i64 (i:Int))])
  (λi w5=>i<=cs.length/\Ext w' w5/\Uv w5 w'.heap.size (.slice O cs.length cs.length) ((pmR cs r).take i++List.replicate (cs.length-i) V0)) (λi=>cs.length-i) 0 sB
  ⟨Nat.zero_le _,a4,a2⟩ ?_
 rintro i w5 ⟨hi,J,B⟩;have D:((pmR cs r).take i++List.replicate (cs.length-i) V0).length=cs.length:=by simp[Zu];omega
 rw[Uv,D]at B;refine ρ ?_;refine ci (λh0=>?_) (λh0=>?_)
 .have li:i<cs.length:=by have:=oT h0;omega
  have U:=G.ext J;have Z:RdR w5 A r:=Rd.ext a8 J;have lc:=hlt _ (getD_mem' 0 cs li);refine ρ ?_;refine ix i U li ?_;refine ρ ?_;refine ld (U.cell (Qs li)) ?_;refine ρ ?_;refine ixq 3 (cs.getD i 0) Z lc ?_;refine ρ ?_;refine lds (λj u hu=>RdR.cell Z lc hu) ?_;refine ρ ?_;refine ixq 3 i (Rd.own B) li ?_;refine ρ ?_;refine stoE (cs:=(r.getD (cs.getD i 0) V0).cells) B li ?_ (V.one _);intro w6 a5 hg6;have a3:Ext w' w6:=Ja J hg6 (λk hk=>by grind [Jv]);refine ρ ?_;refine Jp (i+1) sO ⟨om,a3,?_⟩ om;have e:((pmR cs r).take i++List.replicate (cs.length-i) V0).set i (r.getD (cs.getD i 0) V0)=(pmR cs r).take (i+1)++List.replicate (cs.length-(i+1)) V0:=by
   have hl:((pmR cs r).take i).length=i:=by simp[Zu];omega
   rw[List.set_append_right _ _ om,hl,Nat.sub_self,show cs.length-i=(cs.length-(i+1))+1 by omega,List.replicate_succ,List.set_cons_zero,List.take_succ_eq_append_getElem (by rw[Zu];omega),List.append_assoc];rw[<-Jtg li,Ql V0 _ (by rw[Zu];omega)];rfl
  have a1:((pmR cs r).take (i+1)++List.replicate (cs.length-(i+1)) V0).length=cs.length:=by grind
  rw[Uv,a1,<-e,Jfh _ _ _ (by rw[D];omega)];exact a5
 have a7:i=cs.length:=by have:=oF h0;omega
 subst a7;rw[Nat.sub_self,List.replicate_zero,List.append_nil,List.take_of_length_le (by rw[Zu];omega)]at B;refine ρ ?_;refine Xb ⟨J,_,rfl,?_⟩;obtain⟨_,_,_,_,hf⟩:=Jv B;intro y hg;refine⟨O,cs.length,by rw[Zu],by rw[Zu];omega,by rw[Zu];omega,?_⟩;rw[RdR,Zu];refine Ud (Rd.own B) hg λ_ ad e=>?_;grind
theorem Jfl{ar:Nat}{ls:List Row}(h:RelV w v ar ls)(hc:IntsV w vc (nz cs))(hlen:∀ r∈ls,r.length=ar)(hlt:∀ c∈cs,c<ar)(h32:cs.length<=32)(hbig:ls.length<=65536):
  Ret Tryz.prog 83 [v,vc] w λu w'=>Ext w w'/\∃ rv,u=.tuple #[rv,.int .i64 0]/\(∃ z B m d,rv=.agg #[.int .i64 z,.slice B m d])/\∃ m,Off (λk=>k<w.heap.size) w' (λx=>RelV x rv cs.length m)/\m.length<=65536/\(∀ x∈m,x∈ls.map (pmR cs))/\((ls.length<=12∨Srt [] (ls.map (pmR cs)))->Zn [] (ls.map (pmR cs)) m):=by
 obtain⟨rv,rfl,ps,A,c,rfl,rfl,bb,ay,hR,ah⟩:=h;obtain⟨C,cc,rfl,bd,bc,b4⟩:=id hc;generalize hn:ps.length=n at *
 rw[List.length_map,hn]at hbig;have aa:∀ p∈ps,p.2.length=ar:=by grind
 rw[Xw]at *;refine Jz Tryz.func83 Tryz.ntmps83 rfl kr rfl ?_;refine ρ ?_;refine bx ?_;intro w1 b1 Z bf ba;refine ρ ?_;refine alc Yf ?_;intro w2 b2 af b5 b9;have a5:=Z.trans af;have a7:=ba.ext af;refine ρ ?_;refine cf ?_ ?_
 .grind
 refine ρ ?_;refine Js (fun (k:Nat)=>[(1,.slice C cs.length cc),(2,.pointer (some ⟨b1,0,none⟩)),(4,.pointer (some ⟨b2,0,none⟩)),(14,.int .i64 (cs.length:Int)),(15,.int .i64 (k:Int))]) (λk w'=>Ext w2 w'/\k<=cs.length) (λk=>cs.length-k) 0 sB ⟨Ext.refl _,Nat.zero_le _⟩ ?_;rintro k w3 ⟨a3,hk⟩;refine ρ ?_;refine ci (λh=>?_) (λh=>?_)
 .have lk:k<cs.length:=by have:=oT h;omega
  have an:=hlt _ (getD_mem' 0 cs lk);clear h;refine ρ ?_;refine dr [(0,0),(0,1),(0,2),(0,3),(0,4),(0,5),(0,6),(0,7),(0,8),(0,9),(0,10),(0,11),(0,12),(0,13)] kr ?_;have a8:=a3.drew;have D:=b4.ext (a5.trans a8);refine ρd ?_;refine dix k D lk ?_;refine ρd ?_;refine dld (D.cell (Qs lk)) ?_;refine ρd ?_;refine dkf 23 ?_ ?_
  .grind
  refine ρd ?_;refine dix k D lk ?_;refine ρd ?_;refine dld (D.cell (Qs lk)) ?_;refine ρd ?_;refine dld ((a7.ext a8).at (i:=0) rfl) ?_;refine ρd ?_;refine ρ ?_;refine cf ?_ ?_
  .grind
  refine ρ ?_;exact Jp (k+1) sO ⟨a8,om⟩ om
 clear h hk;have J:=a5.trans a3;have a6:=a7.ext a3;refine ρ ?_;refine ld (a6.at (i:=1) rfl) ?_;refine ρ ?_;refine mkn ER n om (by unfold maxLen;omega) ?_;intro w4 O au ak hO;have ac:∀ k,(Value.slice O n n).ownBlock=some k->w3.heap.size<=k/\k<w4.heap.size:=by grind [Jv]
 have b6:Dat w4 w3.heap.size (.slice O n n) ([]++List.replicate n (.slice none 0 0,[])):=by
  refine⟨?_,λp hp=>?_⟩
  .rw[List.nil_append,List.length_replicate,Pr.rep];have e:(madeCells (Value.slice none 0 0).cells (n*1)).toList=List.replicate n (.slice none 0 0):=by rw[Nat.mul_one];exact Vw _ _
   rw[e]at ak;exact ak
  rw[List.nil_append]at hp;rw[(List.mem_replicate.1 hp).2];rfl
 obtain⟨N,hN⟩:∃ N:Nat->Prop,N=λk=>k<w3.heap.size∨(Value.slice O n n).ownBlock=some k:=⟨_,rfl⟩;refine ρ ?_;refine Qq (fun (k:Nat) (G:List Pr)=>[(1,.slice C cs.length cc),(2,.pointer (some ⟨b1,0,none⟩)),(4,.pointer (some ⟨b2,0,none⟩)),(7,.slice O n n),(39,.int .i64 (n:Int)),(40,.int .i64 (k:Int))])
  (λk G w5=>k<=n/\G.length=k/\G.map (·.2)=(ps.take k).map (λp=>pmR cs p.2)/\Ext w3 w5/\w4.heap.size<=w5.heap.size/\Dat w5 w3.heap.size (.slice O n n) (G++List.replicate (n-k) (.slice none 0 0,[]))/\(∀ p∈G,Off N w5 (λu=>RowV u p.1 p.2))) (λk _=>n-k) 0 [] sB
  ⟨Nat.zero_le _,rfl,rfl,au,Nat.le_refl _,b6,λp hp=>(by cases hp)⟩ ?_
 rintro k G w5 ⟨hk,a9,aj,U,ag,a1,ao⟩;have y:=J.trans U;refine ρ ?_;refine ci (λh=>?_) (λh=>?_)
 .have lk:k<n:=by have:=oT h;omega
  have aw:(ps.getD k z0).2.length=ar:=aa _ (Yz hn lk);refine ρ ?_;refine ld ((a6.ext U).at (i:=1) rfl) ?_;refine ρ ?_;refine ix k (hR.ext y) lk ?_;refine ρ ?_;refine ld (Jjj (hR.ext y) hn lk) ?_;refine ρ ?_;refine cl (Qgd ((ah _ (Yz hn lk)).ext y) (hc.ext y) (λc an=>by rw[aw];exact hlt c an)) ?_;rintro u w6 ⟨a2,x,rfl,ai⟩;have ad:=a1.ext a2;have ab:(G++List.replicate (n-k) ((.slice none 0 0,[]):Pr)).length=n:=by simp;omega
  have Z:x.oneCell'=true:=ai.here.one;obtain⟨s1,s2,s3⟩:=ad.store ab lk (p:=(x,pmR cs (ps.getD k z0).2)) Z;refine ρ ?_;refine ix k (ad.rd ab) lk ?_;refine ρ ?_;refine sto (ad.cell ab lk) s1 ?_ (hv:=Z);refine ρ ?_;have e:(G++List.replicate (n-k) ((.slice none 0 0,[]):Pr)).set k (x,pmR cs (ps.getD k z0).2)=(G++[(x,pmR cs (ps.getD k z0).2)])++List.replicate (n-(k+1)) (.slice none 0 0,[]):=by
   rw[show n-k=(n-(k+1))+1 by omega,List.replicate_succ,List.set_append_right _ _ om,a9,Nat.sub_self,List.set_cons_zero,List.append_assoc];rfl
  rw[e]at s2;have ap:∀ j,(Value.slice O n n).ownBlock=some j->N j:=λj ej=>by rw[hN];exact .inr ej
  refine Ju (k+1) (G++[(x,pmR cs (ps.getD k z0).2)]) sO ⟨om,by simp[a9],?_,Ja (U.trans a2) s3 (λj hj=>(ac j hj).1),Nat.le_trans ag (nL a2.size s3.size),s2,λp hp=>?_⟩ om
  .grind [Qr,z0]
  rcases List.mem_append.1 hp with h'|h'
  .exact((ao p h').ext a2).grown s3 ap
  rw[List.mem_singleton.1 h'];refine(ai.mono λj _ hj=>?_).grown s3 ap;rw[hN]at hj;rcases hj with h'|h'
  .exact nM h' U.size
  repeat grind
 have e:k=n:=by have:=oF h;omega
 subst e;rw[Nat.sub_self,List.replicate_zero,List.append_nil]at a1;rw[List.take_of_length_le om]at aj;have az:G.map (·.2)=(ps.map (·.2)).map (pmR cs):=by rw[aj,List.map_map];rfl
 refine ρ ?_;refine cl (Jlt (ar:=cs.length) a1 a9 ay (Nat.le_refl _) (λp hp=>(ao p hp).mono λj _ hj=>by rw[hN];exact .inr hj)) ?_;rintro u w7 ⟨hg7,rv,e,rfl,⟨z,B,m,d',av⟩,am,ax⟩;have he:=am hbig;subst he;have ae:Ext w w7:=Ja y hg7 (λj ej=>nL J.size (ac j ej).1);have a4:=(b9.ext a3).ext U;have b8:=a4.grown hg7 (a4.ne_own a1.1 rfl);subst av;refine ρ ?_;refine stb b8 ?_ (Vq (z:=z) (A:=B) (n:=m) (c:=d'));intro w8 b7 b3 aq;refine ρ ?_;obtain⟨ms,m1,m2,m3,m4⟩:=ax rfl;rw[az]at m3 m4;refine Xh b7 ⟨aq w ae (nL Z.size b5),_,rfl,⟨z,B,m,d',rfl⟩,ms,?_,m2,m3,λhc=>m4 (by grind)⟩;have be:b2<w5.heap.size/\(Value.slice O k k).ownBlock≠some b2:=⟨a4.lt,λe=>a4.ne_own a1.1 rfl e.symm⟩;refine(m1.grown b3 (λj ej=>by grind)).mono λj _ hj=>⟨nM hj y.size,λe=>?_⟩;have:=(ac j e).1;have:=J.size;omega
open Go.RowKit Pl Go.Wk
variable {t:Bool}{n:Int}{bs:List Bool}{c g i j:Nat}{A:Option Addr}{u v:Value}{w:World}
structure Atm where
 vars: List Int
 ar:Nat
 rows:List Row
abbrev V3:= Value×Value×Value
def V3.cells(t:V3): List Value:=[t.1,t.2.1,t.2.2]
def AtV(w:World)(t:V3)(a:Atm): Prop:=IntsV w t.1 a.vars/\t.2.1=.int .i64 (a.ar:Int)/\RowsV w t.2.2 a.rows
theorem AtV.ext{w w':World}{t:V3}{a:Atm}(h:AtV w t a)(hx:Ext w w'): AtV w' t a:=⟨h.1.ext hx,h.2.1,h.2.2.ext hx⟩
theorem AtV.rel{t:V3}{a:Atm}(h:AtV w t a): RelV w (.agg #[t.2.1,t.2.2]) a.ar a.rows:=⟨t.2.2,by rw[h.2.1],h.2.2⟩
theorem AtV.one{t:V3}{a:Atm}(h:AtV w t a): ∀ u∈t.cells,u.oneCell'=true:=by
 obtain⟨⟨A,c,D,_⟩,y,⟨ps,B,d,_,j,_⟩⟩:=h;intro u i;simp only[V3.cells,List.mem_cons,List.not_mem_nil,or_false]at i;rcases i with rfl|rfl|rfl
 .rw[D];rfl
 .rw[y];rfl
 rw[j];rfl
def v30: V3:=(undef,undef,undef)
def a0: Atm:=⟨[],0,[]⟩
abbrev TA:= V3×Atm
def ta0: TA:=(v30,a0)
def atC(ts:List TA): List Value:=ts.flatMap λp=>p.1.cells
theorem Qvr: ∀(r:List TA) (i j:Nat),i<r.length->j<3->(atC r)[i*3+j]?=(r.getD i ta0).1.cells[j]?
 | [],i,j,h,_=>by simp at h
 | v::r,0,j,_,hj=>by
  simp only[atC,List.flatMap_cons,Nat.zero_mul,Nat.zero_add,List.getD_cons_zero];grind [List.getElem?_append_left,V3.cells]
 | v::r,i+1,j,h,hj=>by
  have ih:=Qvr r i j (by simpa using h) hj;grind [atC,List.getD_cons_succ,List.getElem?_append_right,V3.cells]
def AtsV(w:World)(v:Value)(ats:List Atm): Prop:=∃(ts:List TA) (A:Option Addr) (c:Nat),ats=ts.map (·.2)/\v=.slice A ts.length c/\ts.length<=c/\ts.length<=1100000/\Rd w 3 A ts.length (atC ts)/\∀ p∈ts,AtV w p.1 p.2
theorem AtsV.ext{w w':World}{v:Value}{ats:List Atm}(h:AtsV w v ats)(hx:Ext w w'): AtsV w' v ats:=by
 obtain⟨i,A,c,J,G,D,B,y,u⟩:=h;exact⟨i,A,c,J,G,D,B,y.ext hx,λp j=>(u p j).ext hx⟩
theorem Kc{n:Nat}{ts:List TA}(hR:Rd w 3 A n (atC ts))(hn:ts.length=n)(hi:i<n)(hu:(ts.getD i ta0).1.cells[j]?=some u): w.cell? ((adr A (i*3)).add j)=some u:=by
 have y:j<3:=by grind [List.getElem?_eq_some_iff.1,V3.cells]
 rw[Gh];exact hR.cell (by grind [Qvr])
theorem Kr{ts:List TA}{n:Nat}(hn:ts.length=n)(hi:i<n): ts.getD i ta0∈ts:=getD_mem' ta0 ts (hn.symm ▸ hi)
def Ir(zs:List Int): Prop:=∀ j,0<j->j<zs.length->zs.getD (j-1) 0<zs.getD j 0
def Gg(n:Int)(a:Atm): Prop:=Ir a.vars/\(∀ v∈a.vars,0<=v/\v<n)/\a.vars.length=a.ar
def Jzk(n:Int)(ats:List Atm): Prop:=0<=n/\n<=32/\ats.length<=32/\(∀ a∈ats,Gg n a)/\∀ v:Nat,(v:Int)<n->∃ a∈ats,(v:Int)∈a.vars
theorem Qss(hR:RdB w A bs)(hm:bs.length<=1100000): Ret Tryz.prog 157 [.slice A bs.length c,.bool t] w λu w'=>w'=w/\∃ z,u=.int .i64 z/\(0<=z↔t∈bs):=by
 refine Jz Tryz.func157 Tryz.ntmps157 rfl kr rfl ?_;refine ρ ?_;refine Js (fun (k:Nat)=>[(0,.slice A bs.length c),(1,.bool t),(7,.int .i64 (bs.length:Int)),(8,.int .i64 (k:Int))]) (λk w'=>w'=w/\k<=bs.length/\t ∉ bs.take k) (λk=>bs.length-k) 0 sB ⟨rfl,Nat.zero_le _,by simp⟩ ?_;rintro k w' ⟨rfl,i,j⟩;refine ρ ?_;refine ci (λh=>?_) (λh=>?_)
 .have lk:k<bs.length:=by have:=oT h;omega
  refine ρ ?_;refine ix k hR lk ?_;refine ρ ?_;refine ld (RdB.cell hR lk) ?_;refine eqb ?_;refine ρ ?_;refine ci (λh=>?_) (λh=>?_)
  .refine ρ ?_;refine Jq ⟨rfl,(k:Int),rfl,⟨λ_=>?_,λ_=>om⟩⟩;grind
  refine ρ ?_;refine Jp (k+1) sO ⟨rfl,om,?_⟩ om;grind [Qr,lk,List.mem_singleton]
 refine ρ ?_;refine Jq ⟨rfl,-1,rfl,⟨λe=>om,λe=>?_⟩⟩;grind
theorem Xxl(hR:RdB w A bs)(hm:bs.length<=1100000): Ret Tryz.prog 85 [.slice A bs.length c,.bool t] w λu w'=>w'=w/\∃ b:Bool,u=.bool b/\(b=true↔t∈bs):=by
 refine Jz Tryz.func85 Tryz.ntmps85 rfl kr rfl ?_;refine ρ ?_;refine cl (Qss hR hm) ?_;rintro u w' ⟨rfl,z,rfl,i⟩;refine ρ ?_;exact Jq ⟨rfl,decide (0<=z),rfl,by grind⟩
theorem Blk.at2{t:TypeId}{cs:List Value}(h:Blk w g t cs)(hv:cs[i+j]?=some v): w.cell? ((⟨g,i,none⟩:Addr).add j)=some v:=by rw[Zm,h.cell];exact hv
theorem Yg: Qe Tryz.prog 82=some (.agg #[.slice none 0 0,.int .i64 0,.slice none 0 0]):=kr
abbrev Uy(w:World)(base:Nat)(v:Value)(bs:List Bool): Prop:=w.ownsRow base 4 1 v bs.length (bs.map Value.bool)
theorem Jlv(h:i<bs.length): (bs.map Value.bool)[i]?=some (.bool (bs.getD i false)):=by grind
theorem Qtp(bs:List Bool)(i k:Nat)(x:Bool)(hi:i<bs.length): (bs.set i x).getD k false=if k=i then x else bs.getD k false:=Jhl false bs i k x hi
open Classical in
noncomputable def atE (n:Int) (a:Atm):Int:=if¬ Ir a.vars then 16 else if¬ (∀ v∈a.vars,0<=v/\v<n) then 3 else if a.vars.length≠a.ar then 6 else 0
theorem atE_ok{a:Atm}: atE n a=0↔Gg n a:=by unfold atE Gg;grind
noncomputable def frE(n:Int): List Atm->Int
 | []=>0
 | a::r=>if atE n a=0 then frE n r else atE n a
open Classical in
noncomputable def lfE (n:Int) (ats:List Atm):Int:=if¬ (0<=n/\n<=32) then 3 else if 32<ats.length then 12 else if frE n ats=0 then(if ∀ v:Nat,(v:Int)<n->∃ a∈ats,(v:Int)∈a.vars then 0 else 22) else frE n ats
theorem Jbx{n:Int}: ∀ {l:List Atm},(∀ a∈l,Gg n a)->frE n l=0
 | [],_=>rfl
 | a::r,h=>by rw[frE,if_pos (atE_ok.2 (h a mC))];exact Jbx λb hb=>h b (List.mem_cons_of_mem _ hb)
theorem Qxx{n:Int}: ∀ {l:List Atm},frE n l=0->∀ a∈l,Gg n a
 | [],_,a,ha=>by cases ha
 | b::r,h,a,ha=>by
  rw[frE]at h;by_cases e:atE n b=0
  .rw[if_pos e]at h;rcases List.mem_cons.1 ha with rfl|ha
   .exact atE_ok.1 e
   exact Qxx h a ha
  rw[if_neg e]at h;exact absurd h e
theorem Qxz{n:Int}: ∀ {l:List Atm} {i:Nat},(∀ j,j<i->Gg n (l.getD j a0))->i<l.length->atE n (l.getD i a0)≠0->frE n l=atE n (l.getD i a0)
 | [],i,_,h,_=>by simp at h
 | a::r,0,_,_,h=>by rw[frE,if_neg (by simpa using h)];simp
 | a::r,i+1,h,hi,he=>by
  rw[frE,if_pos (atE_ok.2 (by simpa using h 0 om)),List.getD_cons_succ];exact Qxz (λj hj=>by have:=h (j+1) om;rwa [List.getD_cons_succ]at this) (by simpa using hi) (by rwa [List.getD_cons_succ]at he)
theorem Jdm(ts:List TA)(j:Nat): (ts.map (·.2)).getD j a0=(ts.getD j ta0).2:=by
 simp only[List.getD,List.getElem?_map];cases ts[j]?<;>rfl
theorem Qqp{ats:List Atm}: lfE n ats=0↔Jzk n ats:=by
 unfold lfE Jzk;refine⟨λh=>?_,λ⟨y,u,B,j,i⟩=>?_⟩
 .by_cases c1:0<=n/\n<=32
  .rw[if_neg (λh=>h c1)]at h;by_cases c2:32<ats.length
   .rw[if_pos c2]at h;cases h
   rw[if_neg c2]at h;by_cases c3:frE n ats=0
   .rw[if_pos c3]at h;by_cases c4:∀ v:Nat,(v:Int)<n->∃ a∈ats,(v:Int)∈a.vars
    .exact⟨c1.1,c1.2,om,Qxx c3,c4⟩
    rw[if_neg c4]at h;cases h
   rw[if_neg c3]at h;exact absurd h c3
  rw[if_pos c1]at h;cases h
 rw[if_neg (λh=>h ⟨y,u⟩),if_neg om,if_pos (Jbx j),if_pos i]
theorem Qqr{ats:List Atm}(h:AtsV w v ats): Ret Tryz.prog 45 [.int .i64 n,v] w λu w'=>Ext w w'/\u=.int .i64 (lfE n ats):=by
 obtain⟨ts,A,c,rfl,rfl,bj,bi,hR,bo⟩:=h;generalize hm:ts.length=m at *
 refine Jz Tryz.func45 Tryz.ntmps45 rfl kr rfl ?_;refine ρ ?_;refine Gj (fun (t:Bool)=>[(0,.int .i64 n),(1,.slice A m c),(16,.bool t)]) (λt w'=>w'=w/\(t=true↔¬ (0<=n/\n<=32))) ?_ ?_
 .refine ki 13 (λh=>?_) (λh=>?_)
  .refine ρ ?_;exact Jg true sB ⟨rfl,by grind⟩
  refine ρ ?_;refine Jg _ sB ⟨rfl,?_⟩;grind
 rintro t w' ⟨rfl,ht⟩;refine ci (λh=>?_) (λh=>?_)
 .refine ρ ?_;exact Jq ⟨Ext.refl _,congrArg _ (by rw[lfE,if_pos (ht.1 h)])⟩
 have hn:0<=n/\n<=32:=by grind
 obtain⟨ah,ax⟩:=hn;obtain⟨N,rfl⟩:=Int.eq_ofNat_of_zero_le ah;clear h ht;refine ρ ?_;refine ci (λh=>?_) (λh=>?_)
 .refine ρ ?_;have bd:32<(ts.map (·.2)).length:=by rw[List.length_map];have:=oT h;omega
  exact Jq ⟨Ext.refl _,congrArg _ (by rw[lfE,if_neg (λh=>h ⟨ah,ax⟩),if_pos bd])⟩
 have bf:m<=32:=by grind
 clear h;refine ρ ?_;refine mkn EB N om (by unfold maxLen;omega) ?_;intro w1 O b6 aw hO;have av:Uy w1 w'.heap.size (.slice O N N) (List.replicate N false):=by
  rw[Uy,List.length_replicate,List.map_replicate];have e:(madeCells (Value.bool false).cells (N*1)).toList=List.replicate N (Value.bool false):=by rw[Nat.mul_one];exact Vw _ _
  rw[e]at aw;exact aw
 refine ρ ?_;refine Qq (fun (i:Nat) (B:List Bool)=>[(0,.int .i64 (N:Int)),(5,.slice O N N),(22,.slice A m c),(23,.int .i64 (m:Int)),(24,.int .i64 (i:Int))])
  (λi B w2=>i<=m/\Ext w' w2/\B.length=N/\Uy w2 w'.heap.size (.slice O N N) B/\(∀ j,j<i->Gg N (ts.getD j ta0).2)/\∀ v:Nat,v<N->(B.getD v false=true↔∃ j,j<i/\(v:Int)∈(ts.getD j ta0).2.vars)) (λi _=>m-i) 0 (List.replicate N false) sB
  ⟨Nat.zero_le _,b6,by simp,av,λj hj=>om,λv hv=>⟨λe=>by simp[List.getD,hv]at e,λ⟨j,hj,_⟩=>om⟩⟩ ?_
 rintro i B w2 ⟨hi,a9,J,ag,ap,a1⟩;refine ρ ?_;refine ci (λh=>?_) (λh=>?_)
 .have li:i<m:=by have:=oT h;omega
  have b1:=hR.ext a9;obtain⟨t1,t2,t3,a,hp⟩:∃ t1 t2 t3 a,ts.getD i ta0=((t1,t2,t3),a):=⟨_,_,_,_,rfl⟩;have ak:AtV w' (t1,t2,t3) a:=by grind
  have be:a∈ts.map (·.2):=by grind
  clear h;obtain⟨⟨D,d,e1,hd,bn,ay⟩,e2,af⟩:=id ak;simp only at e1 e2;subst e1;subst e2;obtain⟨ps,G,gc,_,ao,_⟩:=id af;simp only at ao;subst ao;refine ρ ?_;refine ixq 3 i b1 li ?_;refine ρ ?_;refine lds (cs:=[.slice D a.vars.length d,.int .i64 (a.ar:Int),.slice G ps.length gc]) (λj u hu=>Kc b1 hm li (by rw[hp];exact hu)) ?_;refine ρ ?_;refine alc Yg ?_;intro w3 b b5 hb hB;refine ρ ?_;refine stb hB ?_ ak.one;intro w4 aj bm b4;have ab:Ext w2 w4:=b4 w2 b5 hb;have a3:=a9.trans ab;have au:=Jh ag ab;have ai:∀ z:Int,z≠0->atE N a=z->Value.int .i64 z=.int .i64 (lfE N (ts.map (·.2))):=λz hz e=>by
   have h1:frE N (ts.map (·.2))=z:=by
    have:=Qxz (n:=(N:Int)) (l:=ts.map (·.2)) (i:=i) (λj hj=>by rw[Jdm];exact ap j hj) (by rw[List.length_map];omega) (by rw[Jdm,hp,e];exact hz)
    rw[this,Jdm,hp,e]
   rw[lfE,if_neg (λh=>h ⟨ah,ax⟩),if_neg (by rw[List.length_map];omega),if_neg (by rw[h1];exact hz),h1]
  refine ρ ?_;refine Js (fun (k:Nat)=>[(0,.int .i64 (N:Int)),(5,.slice O N N),(22,.slice A m c),(23,.int .i64 (m:Int)),(24,.int .i64 (i:Int)),(7,.pointer (some ⟨b,0,none⟩)),(8,.int .i64 (k:Int))])
   (λk w5=>Ext w4 w5/\1<=k/\(k<=a.vars.length∨k=1)/\∀ j,0<j->j<k->a.vars.getD (j-1) 0<a.vars.getD j 0) (λk=>a.vars.length-k) 1 sB ⟨Ext.refl _,Nat.le_refl _,.inr rfl,λj h1 h2=>om⟩ ?_
  rintro k w5 ⟨a8,b9,b8,ad⟩;have aa:=aj.ext a8;refine ρ ?_;refine ld (aa.at (i:=0) rfl) ?_;refine ρ ?_;refine ci (λh=>?_) (λh=>?_)
  .have lk:k<a.vars.length:=by have:=oT h;omega
   have am:k-1<a.vars.length:=om
   clear h;refine ρ ?_;refine dr [(0,0),(0,1),(0,2),(0,3),(0,4),(0,5),(0,6),(0,7),(0,8),(0,9),(0,10),(0,11)] kr ?_;have Z:=a8.drew;have a2:=aj.ext Z;have y:=ay.ext (a3.trans Z);refine ρd ?_;refine dld (a2.at (i:=0) rfl) ?_;refine ρd ?_;refine dix (k-1) y am ?_;refine ρd ?_;refine dld (y.cell (Kb am)) ?_;refine ρd ?_;refine dld (a2.at (i:=0) rfl) ?_;refine ρd ?_;refine dix k y lk ?_;refine ρd ?_;refine dld (y.cell (Kb lk)) ?_;refine ρd ?_;refine ρ ?_;refine ci (λh=>?_) (λh=>?_)
   .refine ρ ?_;refine Jq ⟨a3.trans Z,ai 16 (by decide) ?_⟩;rw[atE,if_pos];intro h1;have:=h1 k om lk;grind
   refine ρ ?_;refine Jp (k+1) sO ⟨Z,om,om,λj h1 h2=>?_⟩ om;grind
  have U:Ir a.vars:=λj h1 h2=>ad j h1 (by grind);clear h ad b9 b8;have an:=a3.trans a8;have aq:=Jh au a8;refine ρ ?_;refine ld (aa.at (i:=0) rfl) ?_;refine ρ ?_;refine Qq (fun (q:Nat) (B:List Bool)=>[(0,.int .i64 (N:Int)),(5,.slice O N N),(22,.slice A m c),(23,.int .i64 (m:Int)),(24,.int .i64 (i:Int)),(7,.pointer (some ⟨b,0,none⟩)),(48,.slice D a.vars.length d),(49,.int .i64 (a.vars.length:Int)),(50,.int .i64 (q:Int))])
   (λq B w6=>q<=a.vars.length/\Ext w' w6/\B.length=N/\Uy w6 w'.heap.size (.slice O N N) B/\Blk w6 b 82 [.slice D a.vars.length d,.int .i64 (a.ar:Int),.slice G ps.length gc]/\(∀ j,j<q->0<=a.vars.getD j 0/\a.vars.getD j 0<N)/\∀ v:Nat,v<N->(B.getD v false=true↔(∃ j,j<i/\(v:Int)∈(ts.getD j ta0).2.vars)∨∃ j,j<q/\a.vars.getD j 0=(v:Int))) (λq _=>a.vars.length-q) 0 B sB
   ⟨Nat.zero_le _,an,J,aq,aa,λj hj=>om,λv hv=>⟨λe=>.inl ((a1 v hv).1 e),λe=>(a1 v hv).2 (e.elim id λ⟨j,hj,_⟩=>om)⟩⟩ ?_
  clear ag au aq aa aj a1 J;rintro q B w6 ⟨hq,a7,J,a5,a2,bl,a1⟩;refine ρ ?_;refine ci (λh=>?_) (λh=>?_)
  .have lq:q<a.vars.length:=by have:=oT h;omega
   have y:=ay.ext a7;have b7:a.vars.getD q 0∈a.vars:=getD_mem' 0 _ lq;clear h;refine ρ ?_;refine ix q y lq ?_;refine ρ ?_;refine ld (y.cell (Kb lq)) ?_;refine ρ ?_;generalize hz:a.vars.getD q 0=z at *
   refine Gj (fun (t:Bool)=>[(0,.int .i64 (N:Int)),(5,.slice O N N),(22,.slice A m c),(23,.int .i64 (m:Int)),(24,.int .i64 (i:Int)),(7,.pointer (some ⟨b,0,none⟩)),(48,.slice D a.vars.length d),(49,.int .i64 (a.vars.length:Int)),(50,.int .i64 (q:Int)),(10,.int .i64 z),(60,.bool t)]) (λt w7=>w7=w6/\(t=true↔¬ (0<=z/\z<N))) ?_ ?_
   .refine ki 56 (λh=>?_) (λh=>?_)
    .refine ρ ?_;exact Jg true sB ⟨rfl,by grind⟩
    refine ρ ?_;refine Jg _ sB ⟨rfl,?_⟩;grind
   rintro t w7 ⟨rfl,ht⟩;refine ci (λh=>?_) (λh=>?_)
   .refine ρ ?_;exact Jq ⟨a7,ai 3 (by decide) (by rw[atE,if_neg (λh=>h U),if_pos (λh1=>ht.1 h (h1 z b7))])⟩
   have b3:0<=z/\z<N:=by grind
   obtain⟨x,rfl⟩:=Int.eq_ofNat_of_zero_le b3.1;have lx:x<N:=om
   rw[Uy,J]at a5;obtain⟨s1,s2,s3,s4,s5⟩:=Xp a5 (q:=x) om (.bool true);refine ρ ?_;refine ix x (Rd.own a5) lx ?_;refine ρ ?_;refine sto (s1.trans (Jlv om)) s2 ?_;refine ρ ?_;refine Ju (q+1) (B.set x true) sO ⟨om,Ja a7 s5 (λk hk=>by grind [Jv]),by simpa using J,?_,a2.grown s5 (a2.ne_own a5 rfl),λj hj=>?_,λv hv=>?_⟩ om
   .rw[Uy,List.length_set,J,List.map_set];exact s3
   repeat grind
  have eq:q=a.vars.length:=by have:=oF h;omega
  clear h;have ac:∀ v∈a.vars,0<=v/\v<N:=λv hv=>by grind [List.getElem_of_mem,Ql]
  refine ρ ?_;refine dr [(0,0),(0,1),(0,2),(0,3),(0,4),(1,5),(0,6)] kr ?_;have a4:=a7.drew;have b2:=a2.ext (Ext.refl w6).drew;have bc:=ak.ext a4;refine ρd ?_;refine dld (b2.at (i:=0) rfl) ?_;refine ρd ?_;refine Qb (cs:=[.int .i64 (a.ar:Int),.slice G ps.length gc]) (λj u hu=>Blk.at2 b2 (i:=0+1) (by grind)) ?_;refine ρd ?_;refine dcl (Jfm bc.rel) ?_;rintro u w8 ⟨rfl,a6⟩;refine⟨a6,?_⟩;refine ρd ?_;refine ρ ?_;refine ci (λh=>?_) (λh=>?_)
  .refine ρ ?_;refine Jq ⟨a4.trans a6,ai 6 (by decide) ?_⟩;rw[atE,if_neg (λh=>h U),if_neg (λh=>h ac),if_pos];have:=Kx h;omega
  refine ρ ?_;have ba:a.vars.length=a.ar:=by have:=Kz h;omega
  refine Ju (i+1) B sO ⟨om,a4.trans a6,J,Jh (Jh a5 (Ext.refl w6).drew) a6,λj hj=>?_,λv hv=>?_⟩ om
  .by_cases ej:j=i
   .subst ej;rw[hp];exact⟨U,ac,ba⟩
   exact ap j om
  repeat grind [getD_mem',List.getElem_of_mem,Ql]
 have ei:i=m:=by have:=oF h;omega
 clear h;subst J;have bb:RdB w2 O B:=Rd.own ag;have ae:∀ a∈ts.map (·.2),Gg B.length a:=λa ha=>by grind [List.mem_map.1,List.getElem_of_mem,Ql,ta0]
 refine ρ ?_;refine cl (Xxl bb om) ?_;rintro u w3 ⟨rfl,t,rfl,ht⟩;refine ρ ?_;refine ci (λh=>?_) (λh=>?_)
 .refine ρ ?_;refine Jq ⟨a9,congrArg _ ?_⟩;rw[lfE,if_neg (λh=>h ⟨om,om⟩),if_neg (by rw[List.length_map];omega),if_pos (Jbx ae),if_neg];intro az;obtain⟨x,hx,ex⟩:=List.getElem_of_mem (ht.1 h);obtain⟨a,ha,bg⟩:=az x om;grind [List.mem_map.1,List.getElem_of_mem,Ql,ta0]
 refine ρ ?_;refine Jq ⟨a9,congrArg _ ?_⟩;rw[lfE,if_neg (λh=>h ⟨om,om⟩),if_neg (by rw[List.length_map];omega),if_pos (Jbx ae),if_pos];intro v hv;have bh:v<B.length:=om
 grind
theorem Qqq{ats:List Atm}(h:AtsV w v ats): Ret Tryz.prog 45 [.int .i64 n,v] w λu w'=>Ext w w'/\∃ e,u=.int .i64 e/\(e=0↔Jzk n ats):=(Qqr h).mono λu w' h=>⟨h.1,_,h.2,Qqp⟩
open Go.RowKit Pl Go.Wk
variable {v:Value}{w:World}
structure Inp where
 n: Int
 free:Int
 desc:List Bool
 perm:List Int
 ats:List Atm
def InC(w:World)(i:Inp)(cs:List Value): Prop:=∃ vd vp va,cs=[.int .i64 i.n,.int .i64 i.free,vd,vp,va]/\BoolsV w vd i.desc/\IntsV w vp i.perm/\AtsV w va i.ats
theorem InC.ext{w w':World}{i:Inp}{cs:List Value}(h:InC w i cs)(hx:Ext w w'): InC w' i cs:=by
 obtain⟨u,j,y,e,G,D,B⟩:=h;exact⟨u,j,y,e,G.ext hx,D.ext hx,B.ext hx⟩
def InV(w:World)(v:Value)(i:Inp): Prop:=∃ cs,v=.agg cs.toArray/\InC w i cs
theorem InV.ext{w w':World}{v:Value}{i:Inp}(h:InV w v i)(hx:Ext w w'): InV w' v i:=by
 obtain⟨cs,e,h⟩:=h;exact⟨cs,e,h.ext hx⟩
def Gd(i:Inp): Prop:=0<=i.n/\i.n<=32/\0<=i.free/\i.free<=i.n/\(i.desc.length:Int)=i.free/\(i.perm.length:Int)=i.n-i.free/\(∀ v∈i.perm,i.free<=v/\v<i.n)/\i.perm.Nodup/\Jzk i.n i.ats
open Classical in
noncomputable def Jjx (i:Inp):Int:=if¬ (0<=i.n/\i.n<=32/\0<=i.free/\i.free<=i.n) then 3 else if¬ ((i.desc.length:Int)=i.free/\(i.perm.length:Int)=i.n-i.free) then 1 else if¬ ((∀ v∈i.perm,i.free<=v/\v<i.n)/\i.perm.Nodup) then 1 else lfE i.n i.ats
theorem Qsw{i:Inp}: Jjx i=0↔Gd i:=by
 unfold Jjx Gd;by_cases c1:0<=i.n/\i.n<=32/\0<=i.free/\i.free<=i.n
 .rw[if_neg (λh=>h c1)];by_cases c2:(i.desc.length:Int)=i.free/\(i.perm.length:Int)=i.n-i.free
  .rw[if_neg (λh=>h c2)];by_cases c3:(∀ v∈i.perm,i.free<=v/\v<i.n)/\i.perm.Nodup
   .rw[if_neg (λh=>h c3),Qqp];exact⟨λh=>⟨c1.1,c1.2.1,c1.2.2.1,c1.2.2.2,c2.1,c2.2,c3.1,c3.2,h⟩,λh=>h.2.2.2.2.2.2.2.2⟩
   rw[if_pos c3];exact⟨λh=>(by cases h),λh=>absurd ⟨h.2.2.2.2.2.2.1,h.2.2.2.2.2.2.2.1⟩ c3⟩
  rw[if_pos c2];exact⟨λh=>(by cases h),λh=>absurd ⟨h.2.2.2.2.1,h.2.2.2.2.2.1⟩ c2⟩
 rw[if_pos c1];exact⟨λh=>(by cases h),λh=>absurd ⟨h.1,h.2.1,h.2.2.1,h.2.2.2.1⟩ c1⟩
theorem Qsx{inp:Inp}(h:InV w v inp)(hn64:-9223372036854775808<=inp.n/\inp.n<=9223372036854775807)(hf64:-9223372036854775808<=inp.free/\inp.free<=9223372036854775807): Ret Tryz.prog 18 [v] w λu w'=>Ext w w'/\u=.int .i64 (Jjx inp):=by
 obtain⟨_,rfl,vd,vp,va,rfl,af,ae,a8⟩:=h;obtain⟨n,free,a5,j,ats⟩:=inp;simp only at af ae a8 hn64 hf64 ⊢;obtain⟨D,dc,rfl,b1,az,ay⟩:=id af;obtain⟨G,gc,rfl,ax,aw,ap⟩:=id ae;obtain⟨ts,A,c,_,rfl,_⟩:=id a8;refine Jz Tryz.func18 Tryz.ntmps18 rfl kr rfl ?_;refine ρ ?_;refine bx ?_;intro w1 b a7 hb B;refine ρ ?_;refine Gj (fun (t:Bool)=>[(1,.pointer (some ⟨b,0,none⟩)),(25,.bool t)]) (λt w'=>w'=w1/\(t=true↔¬ (0<=n/\n<=32/\0<=free/\free<=n))) ?_ ?_
 .refine ld (B.at (i:=0) rfl) ?_;refine ρ ?_;refine ki 9 (λh=>?_) (λh=>?_)
  .have:=oT h;refine ρ ?_;exact Jg true sB ⟨rfl,by simp;omega⟩
  have h1:=oF h;refine ρ ?_;refine ld (B.at (i:=0) rfl) ?_;refine ρ ?_;refine ki 14 (λh=>?_) (λh=>?_)
  .have:=oT h;refine ρ ?_;exact Jg true sB ⟨rfl,by simp;omega⟩
  have h2:=oF h;refine ρ ?_;refine ld (B.at (i:=1) rfl) ?_;refine ρ ?_;refine ki 19 (λh=>?_) (λh=>?_)
  .have:=oT h;refine ρ ?_;exact Jg true sB ⟨rfl,by simp;omega⟩
  have h3:=oF h;refine ρ ?_;refine ld (B.at (i:=1) rfl) ?_;refine ρ ?_;refine ld (B.at (i:=0) rfl) ?_;refine ρ ?_;refine Jg _ sB ⟨rfl,?_⟩;grind
 rintro t w' ⟨rfl,ht⟩;refine ci (λh=>?_) (λh=>?_)
 .refine ρ ?_;exact Jq ⟨a7,congrArg _ (by rw[Jjx,if_pos (ht.1 h)])⟩
 have hn:0<=n/\n<=32/\0<=free/\free<=n:=by grind
 obtain⟨a1,aa,a2,ab⟩:=hn;obtain⟨N,rfl⟩:=Int.eq_ofNat_of_zero_le a1;obtain⟨F,rfl⟩:=Int.eq_ofNat_of_zero_le a2;clear h ht;refine ρ ?_;refine ld (B.at (i:=2) rfl) ?_;refine ρ ?_;refine ld (B.at (i:=1) rfl) ?_;refine ρ ?_;refine Gj (fun (t:Bool)=>[(1,.pointer (some ⟨b,0,none⟩)),(42,.bool t)]) (λt w2=>w2=w'/\(t=true↔¬ (a5.length=F/\j.length+F=N))) ?_ ?_
 .refine ki 32 (λh=>?_) (λh=>?_)
  .have:=Kx h;refine ρ ?_;exact Jg true sB ⟨rfl,by simp;omega⟩
  have h1:=Kz h;refine ρ ?_;refine ld (B.at (i:=3) rfl) ?_;refine ρ ?_;refine ld (B.at (i:=0) rfl) ?_;refine ρ ?_;refine ld (B.at (i:=1) rfl) ?_;refine ρ ?_;refine Jg _ sB ⟨rfl,?_⟩;rw[bne_iff_ne];omega
 rintro t2 w2 ⟨rfl,ht⟩;refine ci (λh=>?_) (λh=>?_)
 .refine ρ ?_;refine Jq ⟨a7,congrArg _ ?_⟩;rw[Jjx,if_neg (λh=>h ⟨a1,aa,a2,ab⟩),if_pos];intro e;have h5:=e.1;have h6:=e.2;simp only at h5 h6;exact ht.1 h om
 have aq:a5.length=F/\j.length+F=N:=by grind
 obtain⟨b2,av⟩:=aq;clear h ht;refine ρ ?_;refine ld (B.at (i:=0) rfl) ?_;refine ρ ?_;refine mkn EB N om (by unfold maxLen;omega) ?_;intro w3 O ad ah hO;have ag:Uy w3 w2.heap.size (.slice O N N) (List.replicate N false):=by
  rw[Uy,List.length_replicate,List.map_replicate];have e:(madeCells (Value.bool false).cells (N*1)).toList=List.replicate N (Value.bool false):=by rw[Nat.mul_one];exact Vw _ _
  rw[e]at ah;exact ah
 refine ρ ?_;refine ld ((B.ext ad).at (i:=3) rfl) ?_;refine ρ ?_;refine Qq (fun (i:Nat) (us:List Bool)=>[(1,.pointer (some ⟨b,0,none⟩)),(3,.slice O N N),(47,.slice G j.length gc),(48,.int .i64 (j.length:Int)),(49,.int .i64 (i:Int))])
  (λi us w4=>i<=j.length/\Ext w2 w4/\us.length=N/\Uy w4 w2.heap.size (.slice O N N) us/\(∀ v∈j.take i,(F:Int)<=v/\v<N)/\(j.take i).Nodup/\∀ v:Nat,v<N->(us.getD v false=true↔(v:Int)∈j.take i)) (λi _=>j.length-i) 0 (List.replicate N false) sB
  ⟨Nat.zero_le _,ad,by simp,ag,λv hv=>by simp at hv,by simp,λv hv=>⟨λe=>by simp[List.getD,hv]at e,λe=>by simp at e⟩⟩ ?_
 rintro i us w4 ⟨hi,a6,U,J,ai,a9,ar⟩;have a3:=B.ext a6;have y:=a7.trans a6;refine ρ ?_;refine ci (λh=>?_) (λh=>?_)
 .have li:i<j.length:=by have:=oT h;omega
  have a4:=ap.ext y;clear h;have ac:j.getD i 0∈j:=getD_mem' 0 j li;have ao:j.take (i+1)=j.take i++[j.getD i 0]:=Qr 0 li;have Z:j.Nodup->j.getD i 0 ∉ j.take i:=λa9 hm=>by grind [List.take_sublist,List.nodup_append,List.mem_singleton.2]
  refine ρ ?_;refine ix i a4 li ?_;refine ρ ?_;refine ld (a4.cell (Kb li)) ?_;refine ρ ?_;refine ld (a3.at (i:=1) rfl) ?_;refine ρ ?_;generalize hz:j.getD i 0=z at *
  refine Gj (fun (t:Bool)=>[(1,.pointer (some ⟨b,0,none⟩)),(3,.slice O N N),(47,.slice G j.length gc),(48,.int .i64 (j.length:Int)),(49,.int .i64 (i:Int)),(5,.int .i64 z),(68,.bool t)]) (λt w5=>w5=w4/\(t=true↔¬ ((F:Int)<=z/\z<N/\z ∉ j.take i))) ?_ ?_
  .refine ki 57 (λh=>?_) (λh=>?_)
   .have:=oT h;refine ρ ?_;exact Jg true sB ⟨rfl,by simp;omega⟩
   have h1:=oF h;refine ρ ?_;refine ld (a3.at (i:=0) rfl) ?_;refine ρ ?_;refine ki 63 (λh=>?_) (λh=>?_)
   .have:=oT h;refine ρ ?_;exact Jg true sB ⟨rfl,by simp;omega⟩
   have h2:=oF h;have ak:0<=z:=om
   obtain⟨x,rfl⟩:=Int.eq_ofNat_of_zero_le ak;have lx:x<N:=om
   have aj:Rd w4 1 O N (us.map Value.bool):=by rw[Uy,U]at J;exact Rd.own J
   refine ρ ?_;refine ix x aj lx ?_;refine ρ ?_;have am:x<us.length:=om
   refine ld (aj.cell (Jlv am)) ?_;refine ρ ?_;refine Jg _ sB ⟨rfl,?_⟩;grind
  rintro t5 w5 ⟨rfl,ht⟩;refine ci (λh=>?_) (λh=>?_)
  .refine ρ ?_;refine Jq ⟨y,congrArg _ ?_⟩;rw[Jjx,if_neg (λh=>h ⟨a1,aa,a2,ab⟩),if_neg (λh=>h ⟨by simp only;omega,by simp only;omega⟩),if_pos];intro e;exact ht.1 h ⟨(e.1 z ac).1,(e.1 z ac).2,Z e.2⟩
  have au:(F:Int)<=z/\z<N/\z ∉ j.take i:=by grind
  obtain⟨x,rfl⟩:=Int.eq_ofNat_of_zero_le (show 0<=z by omega);have lx:x<N:=om
  rw[Uy,U]at J;obtain⟨s1,s2,s3,s4,s5⟩:=Xp J (q:=x) om (.bool true);refine ρ ?_;refine ix x (Rd.own J) lx ?_;refine ρ ?_;refine sto (s1.trans (Jlv om)) s2 ?_;refine ρ ?_;refine Ju (i+1) (us.set x true) sO ⟨om,Ja a6 s5 (λk hk=>by grind [Jv]),by simpa using U,?_,λv hv=>?_,?_,λv hv=>?_⟩ om
  .rw[Uy,List.length_set,U,List.map_set];exact s3
  .grind
  .grind [List.nodup_append,List.mem_singleton]
  rw[Qtp _ _ _ _ om,ao,List.mem_append,List.mem_singleton];grind
 have ei:i=j.length:=by have:=oF h;omega
 clear h;rw[ei,List.take_of_length_le (Nat.le_refl _)]at ai a9;refine ρ ?_;refine ld (a3.at (i:=0) rfl) ?_;refine ρ ?_;refine ld (a3.at (i:=4) rfl) ?_;refine ρ ?_;refine cl (Qqr (a8.ext y)) ?_;rintro u w5 ⟨an,rfl⟩;refine ρ ?_;refine Jq ⟨y.trans an,congrArg _ ?_⟩;rw[Jjx,if_neg (λh=>h ⟨a1,aa,a2,ab⟩),if_neg (λh=>h ⟨by simp only;omega,by simp only;omega⟩),if_neg (λh=>h ⟨ai,a9⟩)]
theorem Qxg{inp:Inp}(h:InV w v inp)(hn64:-9223372036854775808<=inp.n/\inp.n<=9223372036854775807)(hf64:-9223372036854775808<=inp.free/\inp.free<=9223372036854775807): Ret Tryz.prog 18 [v] w λu w'=>Ext w w'/\∃ e,u=.int .i64 e/\(e=0↔Gd inp):=(Qsx h hn64 hf64).mono λu w' h=>⟨h.1,_,h.2,Qsw⟩
end Go.Proofs.YtebiphhfkdbpfaaGreatDoor
namespace Go.Proofs.YtebiphhfkdbpfaaGreatDoor
open Pl
variable {f:List Nat}{rs:List Row}{d i j l:Nat}{q x:Row}
def pfx(rs:List Row)(l:Nat): List Row:=ddF (rs.map (List.take l))
theorem Jtk(rs:List Row)(x:Row)(l:Nat): pfx (rs++[x]) l=ddS (pfx rs l) (x.take l):=by
 unfold pfx;rw[List.map_append,List.map_cons,List.map_nil,Jlk]
theorem Qwm: ∀(a b:Row) (l:Nat),Jf a b []<=0->Jf (a.take l) (b.take l) []<=0
 | _,_,0,_=>by simp[Jf]
 | [],[],_+1,_=>by simp[Jf]
 | [],_::_,_+1,_=>by simp[Jf]
 | _::_,[],_+1,h=>by simp[Jf]at h
 | x::a,y::b,l+1,h=>by
  simp only[List.take_succ_cons,Jf,List.drop_nil]at h ⊢;by_cases e:cmpV x y=0
  .rw[if_pos e]at h ⊢;exact Qwm a b l h
  repeat grind
theorem Qdr(h:Srt [] rs)(l:Nat): Srt [] (rs.map (List.take l)):=by grind [Srt,Qwm]
theorem Gy(h:Lt [] rs): Srt [] rs:=h.imp λi=>by omega
theorem Jkm(h:Srt [] rs)(l:Nat): Zn [] (rs.map (List.take l)) (pfx rs l):=Qkq (Qdr h l)
theorem Jkn(h:Srt [] rs): q∈pfx rs l↔∃ r∈rs,r.take l=q:=by
 rw[(Jkm h l).2,List.mem_map]
theorem Qlk(h:Lt [] rs)(hl:∀ r∈rs,r.length=d): pfx rs d=rs:=by
 have e:rs.map (List.take d)=rs:=by
  conv=>rhs;rw[<-List.map_id rs]
  exact List.map_congr_left λr j=>by grind
 have i:=Jkm (Gy h) d;rw[e]at i;exact Jqx i.1 h i.2
theorem Jtl: (pfx (rs++[x]) l).getLast?=some (x.take l):=by grind [Jtk,Qkn]
def shr: Row->Row->Nat
 | a::x,b::y=>if a=b then shr x y+1 else 0
 | _,_=>0
theorem Jdr(y:Row): shr [] y=0:=by cases y<;>rfl
theorem Jrc: ∀ x y:Row,shr x y<=x.length/\shr x y<=y.length
 | [],y=>by rw[Jdr];simp
 | _::_,[]=>by simp[shr]
 | a::x,b::y=>by
  have:=Jrc x y;simp only[shr,List.length_cons];split<;>omega
theorem Jrb: ∀(x y:Row) (l:Nat),x.length=y.length->(x.take l=y.take l↔l<=shr x y∨x=y)
 | [],[],l,_=>by simp
 | [],_::_,_,h=>by simp at h
 | _::_,[],_,h=>by simp at h
 | a::x,b::y,0,_=>by simp
 | a::x,b::y,l+1,h=>by
  have ih:=Jrb x y l (by simpa using h);grind [List.cons.injEq,shr]
def lvl(rs:List Row)(l:Nat): Row:=(pfx rs (l+1)).map λq=>q.getD l V0
theorem Jxv(rs:List Row)(l:Nat): (lvl rs l).length=(pfx rs (l+1)).length:=by simp[lvl]
theorem Qrf(h:i<(pfx rs (l+1)).length): (lvl rs l).getD i V0=((pfx rs (l+1)).getD i []).getD l V0:=by grind [Ql,V0,Jxv,lvl]
def Fst(rs:List Row)(l:Nat)(f:List Nat): Prop:=f.length=(pfx rs (l+1)).length/\(∀ j,j<f.length->f.getD j 0<=(pfx rs (l+2)).length) /\
 ∀ j i,j<f.length->i<(pfx rs (l+2)).length->(((pfx rs (l+2)).getD i []).take (l+1)=(pfx rs (l+1)).getD j []↔f.getD j 0<=i/\(j+1<f.length->i<f.getD (j+1) 0))
def stp(rs:List Row)(x:Row): Nat:=match rs.getLast? with
 | some y=>shr y x
 | none=>0
theorem Jjn(h:Lt [] (rs++[x]))(hl:∀ r∈rs++[x],r.length=d)(h0:0<l): pfx (rs++[x]) l=if l<=stp rs x then pfx rs l else pfx rs l++[x.take l]:=by
 rw[Jtk];rcases List.eq_nil_or_concat rs with rfl|⟨r,y,rfl⟩
 .rw[if_neg (by simp[stp];omega)];rfl
 rw[List.concat_eq_append]at *;have j:(r++[y]).getLast?=some y:=by simp
 have i:Jf y x []<0:=(List.pairwise_append.1 h).2.2 y (by simp) x (by simp);grind [Il,stp,shr,ddS,Jtl,Jrb]
theorem Qlh(h:Lt [] (rs++[x]))(hl:∀ r∈rs++[x],r.length=d)(h0:0<l)(hs:stp rs x<l): x.take l ∉ pfx rs l:=by
 have e:=Jjn h hl h0;rw[if_neg om]at e;have i:=(Jkm (Gy h) l).1;rw[e]at i;intro j;have:=(List.pairwise_append.1 i).2.2 _ j (x.take l) (by simp);grind [Il]
theorem Qrk{l:List Row}(h:Lt [] l)(hi:i<l.length)(hj:j<l.length)(e:l.getD i []=l.getD j []): i=j:=by
 rcases Nat.lt_trichotomy i j with h'|h'|h'
 .have:=h.at h' hj;rw[e,Il]at this;omega
 .exact h'
 have:=h.at h' hi;rw[e,Il]at this;omega
theorem Qxw{α:Type}(z:α)(l:List α)(x:α)(k:Nat): (l++[x]).getD k z=if k<l.length then l.getD k z else if k=l.length then x else z:=by grind
theorem take_take'(q:Row)(l:Nat): (q.take (l+2)).take (l+1)=q.take (l+1):=by grind
theorem Qlg(h:Srt [] rs)(hi:i<(pfx rs (l+2)).length): ((pfx rs (l+2)).getD i []).take (l+1)∈pfx rs (l+1):=by grind [Jkn,getD_mem',take_take']
theorem Fst.keep(hF:Fst rs l f)(h:Lt [] (rs++[x]))(hl:∀ r∈rs++[x],r.length=d)(hs:l+1<=stp rs x): Fst (rs++[x]) l f:=by
 obtain⟨J,Z,U⟩:=hF;have O:pfx (rs++[x]) (l+1)=pfx rs (l+1):=by rw[Jjn h hl om,if_pos hs]
 have u:Lt [] rs:=(List.pairwise_append.1 h).1;have y:0<(pfx rs (l+1)).length/\(pfx rs (l+1)).getD ((pfx rs (l+1)).length-1) []=x.take (l+1):=by grind [Jtl,List.getElem?_eq_some_iff.1,Ql]
 have D:Lt [] (pfx rs (l+1)):=(Jkm (Gy u) _).1;by_cases hs2:l+2<=stp rs x
 .have B:pfx (rs++[x]) (l+2)=pfx rs (l+2):=by rw[Jjn h hl om,if_pos hs2]
  grind [Fst]
 have B:pfx (rs++[x]) (l+2)=pfx rs (l+2)++[x.take (l+2)]:=by rw[Jjn h hl om,if_neg hs2]
 unfold Fst;rw[O,B];refine⟨J,λj G=>?_,λj i G hi=>?_⟩;repeat grind [List.length_append,List.length_singleton,Qxw,pfx,take_take',Qrk]
theorem Fst.more(hF:Fst rs l f)(h:Lt [] (rs++[x]))(hl:∀ r∈rs++[x],r.length=d)(hs:stp rs x<=l): Fst (rs++[x]) l (f++[(pfx rs (l+2)).length]):=by
 obtain⟨B,O,J⟩:=hF;have u:Lt [] rs:=(List.pairwise_append.1 h).1;have G:pfx (rs++[x]) (l+1)=pfx rs (l+1)++[x.take (l+1)]:=by rw[Jjn h hl om,if_neg om]
 have D:pfx (rs++[x]) (l+2)=pfx rs (l+2)++[x.take (l+2)]:=by rw[Jjn h hl om,if_neg om]
 have hn:=Qlh h hl (l:=l+1) om om;unfold Fst;rw[G,D];refine⟨by simp[B],λj y=>?_,λj i y hi=>?_⟩
 .grind
 repeat grind [List.length_append,List.length_singleton,Qxw,pfx,take_take',getD_mem',Qlg,Gy]
def Chl(rs:List Row)(l:Nat)(f:List Nat): Prop:=f.length=(pfx rs (l+1)).length+1/\(∀ j,j<f.length->f.getD j 0<=(pfx rs (l+2)).length) /\
 ∀ j i,j+1<f.length->i<(pfx rs (l+2)).length->(((pfx rs (l+2)).getD i []).take (l+1)=(pfx rs (l+1)).getD j []↔f.getD j 0<=i/\i<f.getD (j+1) 0)
theorem Fst.close(hF:Fst rs l f): Chl rs l (f++[(pfx rs (l+2)).length]):=by
 obtain⟨y,D,B⟩:=hF;refine⟨by simp[y],λj u=>?_,λj i u hi=>?_⟩;repeat grind
theorem Fst.nil(l:Nat): Fst [] l []:=⟨rfl,λj u=>by simp at u,λj i u=>by simp at u⟩
theorem Qjv(h:Lt [] (rs++[x]))(hl:∀ r∈rs++[x],r.length=d)(hd:l<d): lvl (rs++[x]) l=if l+1<=stp rs x then lvl rs l else lvl rs l++[x.getD l V0]:=by
 unfold lvl;rw[Jjn h hl om];grind
end Go.Proofs.YtebiphhfkdbpfaaGreatDoor
namespace Go.Wk
open Go.RowKit
variable {c' cs news xs:List Value}{d g i k l m m' n t ty:Nat}{α:Type}{v v' z:Value}
def upd(f:Nat->α)(i:Nat)(x:α): Nat->α:=λk=>if k=i then x else f k
theorem Jt(f:Nat->α)(i:Nat)(x:α): upd f i x i=x:=by simp[upd]
theorem Jc(f:Nat->α)(x:α)(h:k≠i): upd f i x k=f k:=by simp[upd,h]
structure Fam(w:World)(base e sz n:Nat)(v:Nat->Value)(m:Nat->Nat)(c:Nat->List Value): Prop where
 own:∀ i,i<n->w.ownsRow base e sz (v i) (m i) (c i)
 dis:∀ i j g,i<n->j<n->i≠j->(v i).ownBlock=some g->(v j).ownBlock≠some g
section
variable {w w':World} {base e sz n:Nat} {v:Nat->Value} {m:Nat->Nat} {c:Nat->List Value}
theorem Fam.ext(h:Fam w base e sz n v m c)(hx:Ext w w'): Fam w' base e sz n v m c:=⟨λi hi=>Jh (h.own i hi) hx,h.dis⟩
theorem Fam.gr{N:Nat->Prop}(h:Fam w base e sz n v m c)(hg:GrN N w w')(hN:∀ i g,i<n->(v i).ownBlock=some g->¬ N g): Fam w' base e sz n v m c:=⟨λi hi=>Qj (h.own i hi) hg (hN i · hi),h.dis⟩
theorem Fam.other{base' e' sz':Nat}(h:Fam w base e sz n v m c)(h':w.ownsRow base' e' sz' v' m' xs)(hg:w.grownBy w' v'.ownBlock)(hne:Nat.beq e e'=false): Fam w' base e sz n v m c :=
 ⟨λi hi=>Vg (h.own i hi) h' hg hne,h.dis⟩
theorem Fam.box(h:Fam w base e sz n v m c)(hB:Blk w g t cs)(hg:w.grownBy w' (some g))(hne:Nat.beq e t=false): Fam w' base e sz n v m c :=
 ⟨λi hi=>(h.own i hi).kept hg (.inr (λj=>hB.ne_own (h.own i hi) hne j.symm)),h.dis⟩
theorem Fam.lt(h:Fam w base e sz n v m c)(hi:i<n)(hg:(v i).ownBlock=some g): base<=g/\g<w.heap.size:=by
 obtain⟨_,_,_,_,j⟩:=Jv (h.own i hi);exact j g hg
theorem Fam.upd(h:Fam w base e sz n v m c)(hi:i<n)(ho:w'.ownsRow base e sz v' m' c')(hg:w.grownBy w' (v i).ownBlock)(hb:∀ g,v'.ownBlock=some g->(v i).ownBlock=some g∨w.heap.size<=g):
  Fam w' base e sz n (upd v i v') (upd m i m') (upd c i c'):=by
 refine⟨λk y=>?_,λk j g y G u D B=>?_⟩
 .by_cases e:k=i
  .grind [Jt]
  rw[Jc _ _ e,Jc _ _ e,Jc _ _ e];refine(h.own k y).kept hg ?_;cases hb2:(v k).ownBlock with
  | none=>exact .inl rfl
  | some g=>exact .inr (λJ=>h.dis k i g y hi e hb2 J.symm)
 by_cases ek:k=i<;>by_cases ej:j=i
 .omega
 .subst ek;rw[Jt]at D;rw[Jc _ _ ej]at B;rcases hb g D with h'|h'
  .exact h.dis k j g y G u h' B
  have:=(h.lt G B).2;omega
 .subst ej;rw[Jt]at B;rw[Jc _ _ ek]at D;rcases hb g B with h'|h'
  .exact h.dis k j g y G u D h'
  have:=(h.lt y D).2;omega
 rw[Jc _ _ ek]at D;rw[Jc _ _ ej]at B;exact h.dis k j g y G u D B
theorem Fam.grown(h:Fam w base e sz n v m c)(hi:i<n): ∀ g,(v i).ownBlock=some g->base<=g:=λg j=>(h.lt hi j).1
end
def Zx(d:Nat)(f g:Nat->Value): List Value:=(List.range d).flatMap λl=>[f l,g l]
theorem Iv(d:Nat)(f g:Nat->Value): Zx (d+1) f g=Zx d f g++[f d,g d]:=by simp[Zx,List.range_succ,List.flatMap_append]
theorem Vv(d:Nat)(f g:Nat->Value): (Zx d f g).length=d*2:=by
 induction d with
 | zero=>rfl
 | succ d ih=>rw[Iv,List.length_append,ih];simp;omega
theorem Gb(d:Nat)(f g:Nat->Value)(h:l<d): (Zx d f g)[l*2]?=some (f l)/\(Zx d f g)[l*2+1]?=some (g l):=by
 induction d with
 | zero=>omega
 | succ d ih=>
  rw[Iv];by_cases e:l=d
  .subst e;rw[List.getElem?_append_right (by rw[Vv];omega),List.getElem?_append_right (by rw[Vv];omega),Vv];grind
  repeat grind
theorem Qzj{f g f' g':Nat->Value}(h1:∀ l,l<d->f l=f' l)(h2:∀ l,l<d->g l=g' l): Zx d f g=Zx d f' g':=by
 induction d with
 | zero=>rfl
 | succ d ih=>rw[Iv,Iv,ih (λl i=>h1 l om) (λl i=>h2 l om),h1 d om,h2 d om]
theorem Qzh(d:Nat)(f g:Nat->Value)(h:l<d)(u:Value): (Zx d f g).set (l*2) u=Zx d (upd f l u) g:=by
 induction d with
 | zero=>omega
 | succ d ih=>
  rw[Iv,Iv];by_cases e:l=d
  .subst e;rw[List.set_append_right _ _ (by rw[Vv];omega),Vv,Nat.sub_self,List.set_cons_zero,Jt];congr 1
   grind [Qzj,Jc]
  repeat grind [List.set_append_left,Vv,Jc]
theorem Qzg(d:Nat)(f g:Nat->Value)(h:l<d)(u:Value): (Zx d f g).set (l*2+1) u=Zx d f (upd g l u):=by
 induction d with
 | zero=>omega
 | succ d ih=>
  rw[Iv,Iv];by_cases e:l=d
  .subst e;rw[List.set_append_right _ _ (by rw[Vv];omega),Vv,Nat.add_sub_cancel_left,List.set_cons_succ,List.set_cons_zero,Jt];congr 1
   exact Qzj (λk i=>rfl) (λk i=>(Jc _ _ om).symm)
  repeat grind [List.set_append_left,Vv,Jc]
theorem apb{P:Program}{al:AL}{w:World}{Q:Exit->Act->World->Prop}{ops:Array Oper}{rest:List Oper}{pos:String}{aft:Array Edge}{e sz bytes base:Nat}(hE:ElT P t e sz bytes z){x y:Operand}{A':Option Addr}{c':Nat}(ha:w.ownsRow base e sz v m xs)(hr:Rd w sz A' m' news)(h1:∀ u∈news,u.oneCell'=true)(h63:m+m'<=maxLen)(hby:(m+m')*bytes<=140737488355328)(hbase:base<=w.heap.size)(kk:∀ v' w',w'.ownsRow base e sz v' (m+m') (xs++news)->w.grownBy w' v.ownBlock->(∀ g,v'.ownBlock=some g->v.ownBlock=some g∨w.heap.size<=g)->WL P n ops Q rest ((d,v')::al) w')(hx:ev al x=some v:=by rfl)(hy:ev al y=some (.slice A' m' c'):=by rfl)(hd:Nat.blt d n=true:=by rfl):
  WL P n ops Q (⟨some d,.call { callee:=.builtin .append,args:=#[x,y],argTypes:=#[t,t] },ty,pos,aft,none⟩::rest) al w:=by
 obtain⟨v',w',i,O,J,G,D,B⟩:=Jrs hE base ty (.inl ha) (c':=c') hr h1 h63 hby hbase;refine wop hd (λa j=>?_) (kk v' w' (G ha) (D.elim (·.2) (λh=>Xl h _)) B)
 simp[execOp,resolve,invoke,builtin,j.ev hx,j.ev hy,i]
end Go.Wk
namespace Go.Wk
open Go.RowKit
variable {p:Addr}{b c:Bool}{a z:Int}{kd:IntKind}{l:List (Nat×Oper)}{cs:List Value}{e id j m s t:Nat}{o oi:Oper}{i x y:Operand}{A:Option Addr}{dst:Option Nat}{k:TK}{yt:TypeId}{u v:Value}
section
variable {N:Nat->Prop} {P:Program} {ops:Array Oper} {Q:Exit->Act->World->Prop} {T:Nat->Bool}
def Gm(N:Nat->Prop)(P:Program)(ops:Array Oper)(Q:Exit->Act->World->Prop)(k:Nat)(o:Oper)(K:Act->World->Prop)(a:Act)(w:World): Prop :=
 match k with
 | 0=>∃ v,YieldsIf P ops (GrN N w) o v a/\K (a.put o.dst v) w
 | 1=>if Region.wanted o (yielded ops a.tmps) then o.wp P a w (λa' w'=>GrN N w w'/\K a' w') (QF Q) else K (a.put o.dst undef) w
 | _=>if Region.wanted o (yielded ops a.tmps) then o.wp P a w K (QF Q) else K (a.put o.dst undef) w
def Zw(N:Nat->Prop)(P:Program)(ops:Array Oper)(Q:Exit->Act->World->Prop): List (Nat×Oper)->Act->World->Prop
 | [],a,w=>Q .normal a w
 | p::r,a,w=>Gm N P ops Q p.1 p.2 (Zw N P ops Q r) a w
def Kg(N:Nat->Prop)(P:Program)(ops:Array Oper)(Q:Exit->Act->World->Prop)(T:Nat->Bool): Nat->Array Bool->Act->World->Prop
 | 0,listed,a,w=>Region.ready .any ops listed=[]/\Q .normal a w
 | fuel+1,listed,a,w=>
  (Region.ready .any ops listed=[]->Q .normal a w) /\
   ∀ i∈Region.ready .any ops listed,wpOp P ops (QF Q) i (λa' w'=>(T i=false->GrN N w w')/\Kg N P ops Q T fuel (listed.setIfInBounds i true) a' w') a w
theorem Jmx: ∀(fuel:Nat) (listed:Array Bool) (a:Act) (w:World),Kg N P ops Q T fuel listed a w->wpAny P .any ops Q fuel listed a w
 | 0,_,_,_,h=>h
 | fuel+1,_,_,_,h=>⟨h.1,λi hi=>wpOp_mono (λa' w' h'=>Jmx fuel _ a' w' h'.2) (Jvj (h.2 i hi))⟩
theorem Qyr(S:World->World->Prop)(hS0:∀ w,S w w)(hSt:∀ {a b c},S a b->S b c->S a c){i:Nat}(hi:ops[i]?=some oi)(hsel:∀(j:Nat) (o:Oper) cs b,ops[j]?=some o->o.op≠.select cs b)(hSx:∀ listed j,Closed ops listed->i∈Region.ready .any ops listed->j∈Region.ready .any ops listed->∀ w w',(T j=false->GrN N w w')->S w w'):
  ∀(fuel:Nat) (listed:Array Bool) (a:Act) (w:World),Closed ops listed ->
   (∀ j oj,ops[j]?=some oj->j≠i->listed.getD j true=false->(∀ e∈oj.after,Region.binds .any e=true->e.on≠i)->oi.apart ops oj=true) ->
   i∈Region.ready .any ops listed->YieldsIf P ops (S w) oi v a ->
   Kg N P ops Q T fuel (listed.setIfInBounds i true) (a.put oi.dst v) w->Kg N P ops Q T (fuel+1) listed a w:=by
 intro fuel;induction fuel with
 | zero=>
  intro listed a w J _ B hy H;refine⟨λh=>(by rw[h]at B;cases B),λj O=>?_⟩;by_cases hji:j=i
  .subst hji;exact hy.wpOp hi (hS0 w) ⟨λ_=>GrN.refl N w,H⟩
  have:=ready_mono O hji;rw[H.1]at this;cases this
 | succ fuel ih=>
  intro listed a w J u B hy H;refine⟨λh=>(by rw[h]at B;cases B),λj O=>?_⟩;by_cases hji:j=i
  .subst hji;exact hy.wpOp hi (hS0 w) ⟨λ_=>GrN.refl N w,H⟩
  obtain⟨D,oj,G,a2⟩:=mem_ready.1 O;have h1:=H.2 j (ready_mono O hji);have a1:∀ e∈oj.after,Region.binds .any e=true->e.on≠i:=λe he hb a6=>by
   have h1:=a2 e he hb;have h0:=(mem_ready.1 B).1;grind
  have h2:=wpOp_putIf G (u j oj G hji D a1) (λcs b=>hsel i oi cs b hi) (λcs b=>hsel j oj cs b G) (λc a w h=>h) hy h1;have y:∀ k U,ops[k]?=some U->k≠i->(listed.setIfInBounds j true).getD k true=false ->
    (∀ e∈U.after,Region.binds .any e=true->e.on≠i)->oi.apart ops U=true:=λk U hk a5 Z a4=>by
   refine u k U hk a5 ?_ a4;by_cases hjk:j=k
   .subst hjk;exact D
   rw[getD_set_ne true hjk]at Z;exact Z
  refine wpOp_mono (λa' w' h3=>⟨h3.2.1,ih (listed.setIfInBounds j true) a' w' (J.step O) y (ready_mono B (Ne.symm hji)) ?_ ?_⟩) h2
  .exact h3.1.imp (λ⟨h4,h5⟩=>⟨h4,λa3 hx=>h5 a3 (hSt (hSx listed j J B O w w' h3.2.1) hx)⟩) id
  rw[Array.setIfInBounds_comm _ _ hji];exact h3.2.2
theorem Jmz(hsel:Region.noSelect ops=true)(F:Nat): ∀(s:List (Nat×Nat)) (listed:Array Bool) (a:Act) (w:World),Closed ops listed->(∀ p∈s,Nat.ble p.1 2=true)->(∀ p∈s,p.2<ops.size)->(∀ p∈s,(p.1 == 2)=T p.2) ->
  (∀ t,T t=true->t<ops.size->∀ p∈s,p.1=0->Yl ops F t p.2=true)->Xz ops s listed=true->Zw N P ops Q (Qk ops.toList s) a w->Kg N P ops Q T s.length listed a w
 | [],listed,a,w,_,_,_,_,_,hB,h=>⟨by simpa [Xz] using hB,h⟩
 | (k,i)::r,listed,a,w,hcl,hk,hlt,hKT,hR,hB,h=>by
  have hi:i<ops.size:=hlt _ (mC ..);have ho:ops[i]?=some ops[i]:=Array.getElem?_eq_getElem hi;have hn:nth ops.toList i=some ops[i]:=by rw[Xq];simp[hi]
  have hTi:=hKT _ (mC ..);have hk0:=hk _ (mC ..);simp only at hTi hk0;have hrec:Closed ops (listed.setIfInBounds i true)->Xz ops r (listed.setIfInBounds i true)=true->∀ a w,Zw N P ops Q (Qk ops.toList r) a w->Kg N P ops Q T r.length (listed.setIfInBounds i true) a w:=λhc' hB' a w h'=>
   Jmz hsel F r _ a w hc' (λp hp=>hk p (List.mem_cons_of_mem _ hp)) (λp hp=>hlt p (List.mem_cons_of_mem _ hp)) (λp hp=>hKT p (List.mem_cons_of_mem _ hp)) (λt ht htl p hp=>hR t ht htl p (List.mem_cons_of_mem _ hp)) hB' h'
  have one:Xz ops r (listed.setIfInBounds i true)=true->Region.ready .any ops listed=[i]->(T i=false->if Region.wanted ops[i] (yielded ops a.tmps) then ops[i].wp P a w (λa' w'=>GrN N w w'/\Zw N P ops Q (Qk ops.toList r) a' w') (QF Q) else Zw N P ops Q (Qk ops.toList r) (a.put ops[i].dst undef) w) ->
    (T i=true->if Region.wanted ops[i] (yielded ops a.tmps) then ops[i].wp P a w (Zw N P ops Q (Qk ops.toList r)) (QF Q) else Zw N P ops Q (Qk ops.toList r) (a.put ops[i].dst undef) w)->Kg N P ops Q T (r.length+1) listed a w:=λhB' hr hf ht=>by
   have hcl':Closed ops (listed.setIfInBounds i true):=hcl.step (by grind);refine⟨λh0=>(by rw[hr]at h0;cases h0),λj hj=>?_⟩;rw[hr]at hj;obtain rfl:j=i:=by simpa using hj
   unfold wpOp;simp only[ho];cases hT:T j with
   | false=>
    have h:=hf hT;split
    .rename_i hw;simp only[hw,if_true]at h;exact .inl (Oper.wp_mono (λa' w' h'=>⟨λ_=>h'.1,hrec hcl' hB' _ _ h'.2⟩) h)
    repeat grind [GrN.refl]
   | true=>
    have h:=ht hT;split
    .rename_i hw;simp only[hw,if_true]at h;exact .inl (Oper.wp_mono (λa' w' h'=>⟨λh0=>(by cases h0),hrec hcl' hB' _ _ h'⟩) h)
    repeat grind
  match k,hTi,hk0,hR,hB,h with
  | 0,hTi,_,hR,hB,h=>
   simp only[Xz,Bool.and_eq_true]at hB;obtain⟨⟨hr,hf⟩,hB'⟩:=hB;have hr':i∈Region.ready .any ops listed:=by simpa using hr
   simp only[Qk,hn,Zw,Gm]at h;obtain⟨v,hy,h⟩:=h;refine Qyr (GrN N) (GrN.refl N) (λh k=>GrN.trans h k) ho (Region.noSelect_spec hsel) ?_ r.length listed a w hcl (Region.free_spec ho hf) hr' hy (hrec (hcl.step hr') hB' _ _ h);intro listed' j hcl' hri hrj w w' hx;cases hT:T j with
   | false=>exact hx hT
   | true=>
    obtain⟨_,oj,hoj,_⟩:=mem_ready.1 hrj;have h1:=Jjh hcl' F j i oj hoj (Jjg hoj hrj) (hR j hT (Array.getElem?_eq_some_iff.1 hoj).1 _ (mC ..) rfl);have h0:=(mem_ready.1 hri).1;grind
  | 1,hTi,_,hR,hB,h=>
   simp only[Xz,Bool.and_eq_true,beq_iff_eq]at hB;simp only[Qk,hn,Zw,Gm]at h;grind
  | 2,hTi,_,hR,hB,h=>
   simp only[Xz,Bool.and_eq_true,beq_iff_eq]at hB;simp only[Qk,hn,Zw,Gm]at h;grind
  | k+3,_,hk0,_,_,_=>simp at hk0
def Jdx(ops:Array Oper)(F:Nat)(s:List (Nat×Nat)): Bool :=
 Region.noSelect ops && (s.length == ops.size) && (s.all λp=>Nat.ble p.1 2) && (s.all λp=>Nat.blt p.2 ops.size) && (s.all λp=>(p.1 == 2) == Gr s p.2) &&
 ((List.range ops.size).all λt=>!Gr s t || s.all λp=>p.1 != 0 || Yl ops F t p.2) && Xz ops s (Array.replicate ops.size false)
end
section
variable {N:Nat->Prop} {P:Program} {n:Nat} {al al':AL} {w:World} {Q:Exit->Act->World->Prop} {ops:Array Oper} {rest:List (Nat×Oper)} {drest:List (Nat×Oper)}
variable {d ty:Nat} {op:Op} {pos:String} {aft:Array Edge} {tt:TT}
def WN(N:Nat->Prop)(P:Program)(n:Nat)(ops:Array Oper)(Q:Exit->Act->World->Prop)(l:List (Nat×Oper))(al:AL)(w:World): Prop:=∀ a,Fr n al a->Zw N P ops Q l a w
theorem WN.sub{l:List (Nat×Oper)}(hs:Sub al' al)(h:WN N P n ops Q l al' w): WN N P n ops Q l al w:=λa i=>h a (i.sub hs)
theorem Qbb{l:List Oper}(N:Nat->Prop)(F:Nat)(s:List (Nat×Nat))(hm:P.follows .mixedOrders=true)(hB:Jdx l.toArray F s=true)(h:WN N P n l.toArray Q (Qk l s) al w.drew): WC P n (.region id l.toArray true) Q al w:=by
 intro a B;simp only[Jdx,Bool.and_eq_true,beq_iff_eq,List.all_eq_true,List.mem_range,Bool.or_eq_true,Bool.not_eq_true',bne_iff_ne]at hB;obtain⟨⟨⟨⟨⟨⟨U,j⟩,O⟩,J⟩,G⟩,h6⟩,D⟩:=hB;refine wp_region_any hm ?_;rw[<-j];refine Jmx (T:=Gr s) _ _ _ _ (Jmz (N:=N) U F s _ a _ ?_ (λp i=>O p i) (λp i=>?_) (λp i=>?_) (λt ht u p i h0=>?_) (by rw[j];exact D) ?_)
 .intro k o Z y e he hb;exfalso
  simp only[Array.getD_eq_getD_getElem?,Array.getElem?_replicate]at y;grind
 .have:=J p i;have h':p.2+1<=l.toArray.size:=by simpa [Nat.blt] using this
  omega
 .simpa using G p i
 .grind
 have:=h a B;simpa using this
theorem drN[h:Tab P tt]{l:List Oper}(N:Nat->Prop)(F:Nat)(s:List (Nat×Nat))(hB:Jdx l.toArray F s=true)(k:WN N P n l.toArray Q (Qk l s) al w.drew): WC P n (.region id l.toArray true) Q al w:=Qbb N F s h.mixed hB k
def YldN(N:Nat->Prop)(P:Program)(n:Nat)(al:AL)(w:World)(o:Oper)(v:Value): Prop:=∀ w',GrN N w w'->∀ a,Fr n al a->(execOp a.eval o).run P w'=.ok (.value v) w'
theorem nnil_(h:QX n Q .normal al w): WN N P n ops Q [] al w:=λa i=>h a i
theorem ny_(hy:YldN N P n al w ⟨some d,op,ty,pos,aft,none⟩ v)(hd:Nat.blt d n=true)(k:WN N P n ops Q rest ((d,v)::al) w): WN N P n ops Q ((0,⟨some d,op,ty,pos,aft,none⟩)::rest) al w:=λa j=>by
 have i:d<n:=by(have:d+1<=n:=by simpa [Nat.blt] using hd);(omega)
 exact⟨v,.inl ⟨rfl,λw' u=>hy w' u a j⟩,k _ (j.put i v)⟩
theorem np_{tt:TT}(hT:TOk P tt)(hv:pv tt (ev al) op=some v)(hd:Nat.blt d n=true)(k:WN N P n ops Q rest ((d,v)::al) w): WN N P n ops Q ((0,⟨some d,op,ty,pos,aft,none⟩)::rest) al w :=
 ny_ (λw' _ a j=>Ge w' hT (λx u i=>j.ev i) hv) hd k
theorem npn_{tt:TT}(hT:TOk P tt)(hv:pv tt (ev al) op=some v)(k:WN N P n ops Q rest al w): WN N P n ops Q ((0,⟨none,op,ty,pos,aft,none⟩)::rest) al w:=λa j=>
 ⟨v,.inl ⟨rfl,λw' i=>Ge w' hT (λx u i=>j.ev i) hv⟩,k _ j⟩
theorem Qnq{kd:Nat}(hj:Zf ops j=some s)(hs:lk al s=some (.bool b))(k:WN N P n ops Q ((kd,⟨dst,op,ty,pos,aft,none⟩)::rest) al w):
  WN N P n ops Q ((kd,⟨dst,op,ty,pos,aft,some (j,b)⟩)::rest) al w:=λa y=>by
 have h:=k a y;have D:=Jqn (ops:=ops) y hj hs;have B:Region.wanted (⟨dst,op,ty,pos,aft,none⟩:Oper) (yielded ops a.tmps)=true:=rfl;have u:Region.wanted (⟨dst,op,ty,pos,aft,some (j,b)⟩:Oper) (yielded ops a.tmps)=true:=by simp[Region.wanted,D]
 unfold Zw Gm at h ⊢;match kd,h with
 | 0,h=>
  obtain⟨v,i,G⟩:=h;refine⟨v,?_,G⟩;rcases i with i|i
  .exact .inl ⟨u,i.2⟩
  repeat grind
 | 1,h=>simp only[B,if_true]at h;simp only[u,if_true];exact h
 | k+2,h=>simp only[B,if_true]at h;simp only[u,if_true];exact h
theorem Qnj{kd:Nat}(hj:Zf ops j=some s)(hs:lk al s=some (.bool b))(hne:(b == c)=false)(hd:Nat.blt d n=true)(k:WN N P n ops Q rest ((d,undef)::al) w):
  WN N P n ops Q ((kd,⟨some d,op,ty,pos,aft,some (j,c)⟩)::rest) al w:=λa B=>by
 have i:d<n:=by(have:d+1<=n:=by simpa [Nat.blt] using hd);(omega)
 have D:=Jqn (ops:=ops) B hj hs;have y:Region.wanted (⟨some d,op,ty,pos,aft,some (j,c)⟩:Oper) (yielded ops a.tmps)=false:=by
  simp[Region.wanted,D];simpa using hne
 have u:=k _ (B.put i undef);unfold Zw Gm;match kd with
 | 0=>exact⟨undef,.inr ⟨y,rfl⟩,u⟩
 | 1=>simp only[y];exact u
 | m+2=>simp only[y];exact u
theorem Qnn(s:Nat)(u:Value)(hs:lk al s=some v)(hv:v=u)(k:WN N P n ops Q l ((s,u)::al) w): WN N P n ops Q l al w:=by
 subst hv;exact k.sub (Sub.cons hs Sub.refl)
theorem ν9{kd:Nat}(k:WN N P n ops Q drest ((d,undef)::al) w)(hj:Zf ops j=some s:=by rfl)(hs:lk al s=some undef:=by rfl)(hd:Nat.blt d n=true:=by rfl):
  WN N P n ops Q ((kd,⟨some d,op,ty,pos,aft,some (j,c)⟩)::drest) al w:=λa B=>by
 have i:d<n:=by(have:d+1<=n:=by simpa [Nat.blt] using hd);(omega)
 have D:=Jdb (ops:=ops) B hj hs;have y:Region.wanted (⟨some d,op,ty,pos,aft,some (j,c)⟩:Oper) (yielded ops a.tmps)=false:=by simp[Region.wanted,D]
 have u:=k _ (B.put i undef);unfold Zw Gm;match kd with
 | 0=>exact⟨undef,.inr ⟨y,rfl⟩,u⟩
 | 1=>simp only[y];exact u
 | m+2=>simp only[y];exact u
theorem ν4[h:Tab P tt](k:WN N P n ops Q drest ((d,v)::al) w)(hv:pv tt (ev al) op=some v:=by rfl)(hd:Nat.blt d n=true:=by rfl): WN N P n ops Q ((0,⟨some d,op,ty,pos,aft,none⟩)::drest) al w:=np_ h.ok hv hd k
theorem ν5(h:QX n Q .normal al w): WN N P n ops Q [] al w:=nnil_ h
theorem ν6{kd:Nat}(k:WN N P n ops Q ((kd,⟨dst,op,ty,pos,aft,none⟩)::drest) al w)(hj:Zf ops j=some s:=by rfl)(hs:lk al s=some (.bool b):=by rfl): WN N P n ops Q ((kd,⟨dst,op,ty,pos,aft,some (j,b)⟩)::drest) al w:=Qnq hj hs k
theorem ν7{kd:Nat}(k:WN N P n ops Q drest ((d,undef)::al) w)(hj:Zf ops j=some s:=by rfl)(hs:lk al s=some (.bool b):=by rfl)(hne:(b == c)=false:=by rfl)(hd:Nat.blt d n=true:=by rfl):
  WN N P n ops Q ((kd,⟨some d,op,ty,pos,aft,some (j,c)⟩)::drest) al w:=Qnj hj hs hne hd k
theorem ν8[h:Tab P tt](k:WN N P n ops Q drest al w)(hv:pv tt (ev al) op=some v:=by rfl): WN N P n ops Q ((0,⟨none,op,ty,pos,aft,none⟩)::drest) al w:=npn_ h.ok hv k
theorem nadd_{t:TypeId}{b:Int}(hx:ev al x=some (.int .i64 a))(hy:ev al y=some (.int .i64 b))(hc:-9223372036854775808<=a+b/\a+b<=9223372036854775807)(hd:Nat.blt d n=true)(k:WN N P n ops Q rest ((d,.int .i64 (a+b))::al) w): WN N P n ops Q ((0,⟨some d,.binOp .add t x y yt,ty,pos,aft,none⟩)::rest) al w:=by
 have e:IntKind.i64.wrap (a+b)=a+b:=by rw[IntKind.wrap_i64];omega
 exact np_ (tt:=[]) trivial (v:=.int .i64 (a+b)) (by grind [pv,bop]) hd k
theorem nsub_{t:TypeId}{b:Int}(hx:ev al x=some (.int .i64 a))(hy:ev al y=some (.int .i64 b))(hc:-9223372036854775808<=a-b/\a-b<=9223372036854775807)(hd:Nat.blt d n=true)(k:WN N P n ops Q rest ((d,.int .i64 (a-b))::al) w): WN N P n ops Q ((0,⟨some d,.binOp .sub t x y yt,ty,pos,aft,none⟩)::rest) al w:=by
 have e:IntKind.i64.wrap (a-b)=a-b:=by rw[IntKind.wrap_i64];omega
 exact np_ (tt:=[]) trivial (v:=.int .i64 (a-b)) (by grind [pv,bop]) hd k
theorem ν1{t:TypeId}{b:Int}(k:WN N P n ops Q drest ((d,.int .i64 (a+b))::al) w)(hx:ev al x=some (.int .i64 a):=by rfl)(hy:ev al y=some (.int .i64 b):=by rfl)(hd:Nat.blt d n=true:=by rfl)(hc:-9223372036854775808<=a+b/\a+b<=9223372036854775807:=by omega):
  WN N P n ops Q ((0,⟨some d,.binOp .add t x y yt,ty,pos,aft,none⟩)::drest) al w:=nadd_ hx hy hc hd k
theorem ν2{t:TypeId}{b:Int}(k:WN N P n ops Q drest ((d,.int .i64 (a-b))::al) w)(hx:ev al x=some (.int .i64 a):=by rfl)(hy:ev al y=some (.int .i64 b):=by rfl)(hd:Nat.blt d n=true:=by rfl)(hc:-9223372036854775808<=a-b/\a-b<=9223372036854775807:=by omega):
  WN N P n ops Q ((0,⟨some d,.binOp .sub t x y yt,ty,pos,aft,none⟩)::drest) al w:=nsub_ hx hy hc hd k
theorem nkv(s:Nat)(hv:v=u)(k:WN N P n ops Q l ((s,u)::al) w)(hs:lk al s=some v:=by rfl): WN N P n ops Q l al w:=Qnn s u hs hv k
theorem nload(hT:TOk P tt)(ht:tk tt t=some k)(hk:Vj k.desc=true)(hx:ev al x=some (.pointer (some p)))(hc:∀ w',GrN N w w'->w'.cell? p=some v)(hd:Nat.blt d n=true)(kk:WN N P n ops Q rest ((d,v)::al) w): WN N P n ops Q ((0,⟨some d,.load t x,ty,pos,aft,none⟩)::rest) al w :=
 ny_ (λw' i a j=>by simp[execOp,j.ev hx,Instr.loadAt,Instr.sureAddr,Jrq (w:=w') hT ht hk (hc w' i)]) hd kk
theorem Qnm(hT:TOk P tt)(ht:tk tt t=some k)(hk:k.desc=.invalid)(hl:k.size=cs.length)(hx:ev al x=some (.pointer (some p)))(hc:∀ w',GrN N w w'->∀ j u,cs[j]?=some u->w'.cell? (p.add j)=some u)(hd:Nat.blt d n=true)(kk:WN N P n ops Q rest ((d,.agg cs.toArray)::al) w): WN N P n ops Q ((0,⟨some d,.load t x,ty,pos,aft,none⟩)::rest) al w :=
 ny_ (λw' i a y=>by simp[execOp,y.ev hx,Instr.loadAt,Instr.sureAddr,Jjd (w:=w') hT ht hk hl (hc w' i)]) hd kk
theorem Qjd(hT:TOk P tt){sz:Nat}{c:Nat}(q:Nat)(j:Nat)(ht:tk tt t=some k)(hk:k.desc=.slice e)(hz:k.esz=sz)(hx:ev al x=some (.slice A m c))(hi:ev al i=some (.int kd z))(hr:Rd w sz A m cs)(hj:z=(j:Int))(hlt:j<m)(h0:0<sz)(hq:j*sz=q)(hd:Nat.blt d n=true)(kk:WN N P n ops Q rest ((d,.pointer (some (adr A q)))::al) w): WN N P n ops Q ((0,⟨some d,.indexAddr t x i,ty,pos,aft,none⟩)::rest) al w:=by
 obtain⟨y,B⟩:=Gp hT ht hk hz;obtain⟨J,rfl,G⟩:=hr.isome om h0;subst hj;subst hq;refine ny_ (λw' D a u=>?_) hd kk;simp[execOp,u.ev hx,u.ev hi,Instr.indexAt,asIntOf,run_underlying y,Ve w' B,adr];intro h;omega
theorem Qnp(hT:TOk P tt){c:Nat}(j:Nat)(ht:tk tt t=some k)(hk:k.desc=.slice e)(hz:k.esz=1)(hx:ev al x=some (.slice A m c))(hi:ev al i=some (.int kd z))(hr:Rd w 1 A m cs)(hj:z=(j:Int))(hlt:j<m)(hd:Nat.blt d n=true)(kk:WN N P n ops Q rest ((d,.pointer (some (adr A j)))::al) w): WN N P n ops Q ((0,⟨some d,.indexAddr t x i,ty,pos,aft,none⟩)::rest) al w :=
 Qjd hT j j ht hk hz hx hi hr hj hlt om om hd kk
theorem nld[h:Tab P tt](hc:∀ w',GrN N w w'->w'.cell? p=some v)(kk:WN N P n ops Q drest ((d,v)::al) w)(ht:tk tt t=some k:=by rfl)(hk:Vj k.desc=true:=by rfl)(hx:ev al x=some (.pointer (some p)):=by rfl)(hd:Nat.blt d n=true:=by rfl): WN N P n ops Q ((0,⟨some d,.load t x,ty,pos,aft,none⟩)::drest) al w:=nload h.ok ht hk hx hc hd kk
theorem Vu[h:Tab P tt](hc:∀ w',GrN N w w'->∀ j u,cs[j]?=some u->w'.cell? (p.add j)=some u)(kk:WN N P n ops Q drest ((d,.agg cs.toArray)::al) w)(ht:tk tt t=some k:=by rfl)(hk:k.desc=.invalid:=by rfl)(hl:k.size=cs.length:=by rfl)(hx:ev al x=some (.pointer (some p)):=by rfl)(hd:Nat.blt d n=true:=by rfl): WN N P n ops Q ((0,⟨some d,.load t x,ty,pos,aft,none⟩)::drest) al w:=Qnm h.ok ht hk hl hx hc hd kk
theorem nix[h:Tab P tt]{c:Nat}(j:Nat)(hr:Rd w 1 A m cs)(hlt:j<m)(kk:WN N P n ops Q drest ((d,.pointer (some (adr A j)))::al) w)(ht:tk tt t=some k:=by rfl)(hk:k.desc=.slice e:=by rfl)(hz:k.esz=1:=by rfl)(hx:ev al x=some (.slice A m c):=by rfl)(hi:ev al i=some (.int kd z):=by rfl)(hj:z=(j:Int):=by first|rfl|omega)(hd:Nat.blt d n=true:=by rfl):
  WN N P n ops Q ((0,⟨some d,.indexAddr t x i,ty,pos,aft,none⟩)::drest) al w:=Qnp h.ok j ht hk hz hx hi hr hj hlt hd kk
theorem Ul[h:Tab P tt]{c:Nat}(sz j:Nat)(hr:Rd w sz A m cs)(hlt:j<m)(kk:WN N P n ops Q drest ((d,.pointer (some (adr A (j*sz))))::al) w)(ht:tk tt t=some k:=by rfl)(hk:k.desc=.slice e:=by rfl)(hz:k.esz=sz:=by rfl)(hx:ev al x=some (.slice A m c):=by rfl)(hi:ev al i=some (.int kd z):=by rfl)(hj:z=(j:Int):=by first|rfl|omega)(h0:0<sz:=by omega)(hd:Nat.blt d n=true:=by rfl):
  WN N P n ops Q ((0,⟨some d,.indexAddr t x i,ty,pos,aft,none⟩)::drest) al w:=Qjd h.ok (j*sz) j ht hk hz hx hi hr hj hlt h0 rfl hd kk
def toN(N:Nat->Prop)(P:Program)(ops:Array Oper)(Q:Exit->Act->World->Prop)(w0:World)(rest:List (Nat×Oper)): Exit->Act->World->Prop
 | .normal,a,w=>GrN N w0 w/\Zw N P ops Q rest a w
 | _,_,_=>False
theorem Qg{w0:World}(hx:GrN N w0 w)(h:WN N P n ops Q drest al w): QX n (toN N P ops Q w0 drest) .normal al w:=λa i=>⟨hx,h a i⟩
theorem nop(h:WL P n ops (toN N P ops Q w drest) [o] al w): WN N P n ops Q ((1,o)::drest) al w:=λa u=>by
 have i:=h a u;unfold wpList at i;unfold Zw Gm;simp only;have j:¬ LetsOut (toN N P ops Q w drest):=by rintro⟨a,w,h⟩;exact h
 split
 .rename_i hw;simp only[hw,if_true]at i;rcases i with i|⟨_,i⟩
  .refine Oper.wp_mono (K:=wpList P ops (toN N P ops Q w drest) []) (λB w' y=>y) ?_;unfold Oper.wp at i ⊢;grind [Yo,toN]
  exact absurd i j
 rename_i hw;simp only[hw]at i;exact i.2
def toT(N:Nat->Prop)(P:Program)(ops:Array Oper)(Q:Exit->Act->World->Prop)(rest:List (Nat×Oper)): Exit->Act->World->Prop
 | .normal,a,w=>Zw N P ops Q rest a w
 | _,_,_=>False
theorem Uh(h:WN N P n ops Q drest al w): QX n (toT N P ops Q drest) .normal al w:=h
theorem Xu(h:WL P n ops (toT N P ops Q drest) [o] al w): WN N P n ops Q ((2,o)::drest) al w:=λa y=>by
 have i:=h a y;unfold wpList at i;unfold Zw Gm;simp only;have j:¬ LetsOut (toT N P ops Q drest):=by rintro⟨a,w,h⟩;exact h
 split
 .rename_i hw;simp only[hw,if_true]at i;rcases i with i|⟨_,i⟩
  .refine Oper.wp_mono (K:=Zw N P ops Q drest) (λD w' B=>B) ?_;unfold Oper.wp at i ⊢;exact Yo (Q:=toT N P ops Q drest) (λc a w u=>u.elim) (λu=>absurd u j) i
  exact absurd i j
 rename_i hw;simp only[hw]at i;exact i
theorem Qy(hc:w.cell? p=some v)(hn:¬ N p.block): ∀ w',GrN N w w'->w'.cell? p=some v:=λw' i=>by
 rw[<-hc];exact World.cell?_of_block (i.block _ (World.block_lt_of_cell? w p hc) hn)
end
end Go.Wk
namespace Go.Wk
theorem ρn{p q:Prop}(h:p)(t:Hold p->q:=by intro h;(repeat first|refine ν1 ?_|refine ν2 ?_|refine ν4 ?_|refine ν5 ?_|refine ν6 ?_|refine ν7 ?_|refine ν9 ?_|refine ν8 ?_|refine χ1 ?_|refine χ2 ?_|refine χ3 ?_|refine χ4 ?_|refine χ5 ?_|refine χ6 ?_|refine χ7 ?_);exact h.of): q:=t ⟨h⟩
end Go.Wk
namespace Go.Proofs.YtebiphhfkdbpfaaGreatDoor
open Go.RowKit Pl Go.Wk
attribute [local irreducible] WC WL QX WD WDB WP
variable {cs xs xs':List Value}{base c d g k l s t:Nat}{fs fs':Nat->List Nat}{M:Nat->Prop}{vs vs':Nat->Row}{fv vv:Nat->Value}{A:Option Addr}{a b x:Row}{v' v4 va vb vx:Value}{w w4:World}
structure TriB(w:World)(base:Nat)(A:Option Addr)(d:Nat)(vv fv:Nat->Value)(vs:Nat->Row)(fs:Nat->List Nat): Prop where
 lev:w.ownsRow base 314 2 (.slice A d d) d (Zx d vv fv)
 vals:Fam w base 102 3 d vv (λl=>(vs l).length) (λl=>Qw (vs l))
 fst:Fam w base 3 1 d fv (λl=>(fs l).length) (λl=>Jb (nz (fs l)))
section
variable {w w':World} {base:Nat} {A:Option Addr} {d:Nat} {vv fv:Nat->Value} {vs:Nat->Row} {fs:Nat->List Nat}
theorem TriB.ext(h:TriB w base A d vv fv vs fs)(hx:Ext w w'): TriB w' base A d vv fv vs fs:=⟨Jh h.lev hx,h.vals.ext hx,h.fst.ext hx⟩
theorem TriB.vform(h:TriB w base A d vv fv vs fs)(hl:l<d): ∃ B c,vv l=.slice B (vs l).length c/\(vs l).length<=c/\Rd w 3 B (vs l).length (Qw (vs l)):=by
 obtain⟨B,c,e,i,_⟩:=Jv (h.vals.own l hl);refine⟨B,c,e,i,?_⟩;have:=h.vals.own l hl;rw[e]at this;exact Rd.own this
theorem TriB.fform(h:TriB w base A d vv fv vs fs)(hl:l<d): ∃ B c,fv l=.slice B (fs l).length c/\(fs l).length<=c/\Rd w 1 B (fs l).length (Jb (nz (fs l))):=by
 obtain⟨B,c,e,i,_⟩:=Jv (h.fst.own l hl);refine⟨B,c,e,i,?_⟩;have:=h.fst.own l hl;rw[e]at this;exact Rd.own this
theorem TriB.rd(h:TriB w base A d vv fv vs fs): Rd w 2 A d (Zx d vv fv):=Rd.own h.lev
theorem TriB.v(h:TriB w base A d vv fv vs fs)(hl:l<d): w.cell? (adr A (l*2))=some (vv l):=h.rd.cell (Gb d vv fv hl).1
theorem TriB.v0(h:TriB w base A d vv fv vs fs)(hl:l<d): w.cell? ((adr A (l*2)).add 0)=some (vv l):=by rw[add_zero];exact h.v hl
theorem TriB.f1(h:TriB w base A d vv fv vs fs)(hl:l<d): w.cell? ((adr A (l*2)).add 1)=some (fv l):=by rw[Gh];exact h.rd.cell (Gb d vv fv hl).2
theorem TriB.f(h:TriB w base A d vv fv vs fs)(hl:l<d): w.cell? (adr A (l*2+1))=some (fv l):=h.rd.cell (Gb d vv fv hl).2
end
theorem Jdk{li:Int}(hR:Rd w 2 A d (Zx d vv fv))(hv:∀ l,l<d->∃ B c,vv l=.slice B (vs l).length c)(hli:li=(l:Int))(hd:d<=32):
  Ret Tryz.prog 224 [.agg #[.slice A d c],.int .i64 li] w λu w'=>u=.int .i64 (if l<d then(vs l).length else 0:Nat)/\Ext w w':=by
 subst hli;refine Jz Tryz.func224 Tryz.ntmps224 rfl kr rfl ?_;refine ρ ?_;refine bx ?_;intro w1 b j O G;refine ρ ?_;refine ld (G.at (i:=0) rfl) ?_;refine ρ ?_;refine ci (λh=>?_) (λh=>?_)
 .refine ρ ?_;refine Jq ⟨?_,j⟩;grind
 have D:l<d:=by grind
 have y:=hR.ext j;obtain⟨B,U,e⟩:=hv l D;refine ρ ?_;refine ld (G.at (i:=0) rfl) ?_;refine ρ ?_;refine ixq 2 l y D ?_;have J:w1.cell? ((adr A (l*2)).add 0)=some (vv l):=by rw[add_zero];exact y.cell (Gb d vv fv D).1
 refine ρ ?_;refine ld J ?_;rw[e];refine ρ ?_;refine Jq ⟨?_,j⟩;rw[if_pos D]
theorem Qcg(ha:RowV w va a)(hb:RowV w vb b)(hlen:a=[]∨a.length=b.length): Ret Tryz.prog 223 [va,vb] w λu w'=>u=.int .i64 (shr a b:Int)/\Ext w w':=by
 obtain⟨A,ac,rfl,a7,a6,a1⟩:=ha;obtain⟨B,bc,rfl,a5,a4,Z⟩:=hb;refine Jz Tryz.func223 Tryz.ntmps223 rfl kr rfl ?_;refine ρ ?_;refine Js (fun (k:Nat)=>[(0,.slice A a.length ac),(1,.slice B b.length bc),(5,.int .i64 (k:Int))]) (λk w'=>Ext w w'/\k<=a.length/\k<=b.length/\shr a b=k+shr (a.drop k) (b.drop k)) (λk=>a.length-k) 0 sB ⟨Ext.refl w,Nat.zero_le _,Nat.zero_le _,by simp⟩ ?_;rintro k w1 ⟨hx,a3,a2,he⟩;refine ρ ?_;refine Xn (fun (t:Bool)=>[(0,.slice A a.length ac),(1,.slice B b.length bc),(5,.int .i64 (k:Int)),(21,.bool t)]) (λt w'=>Ext w w'/\(t=true->k<a.length/\k<b.length/\a.getD k V0=b.getD k V0)/\(t=false->shr (a.drop k) (b.drop k)=0)) ?_ ?_
 .refine dr [(0,0),(0,1),(0,2),(0,3),(0,4),(0,5),(0,6),(0,7),(0,8),(0,9),(0,10),(0,11),(0,12),(1,13),(0,14),(0,15)] kr ?_;have y:=hx.drew;have O:RdR _ A a:=Rd.ext a1 y;have J:RdR _ B b:=Rd.ext Z y;refine ρd ?_;refine dki 10 (λh=>?_) (λh=>?_)
  .have G:k<a.length:=by have:=oT h;omega
   have D:k<b.length:=by grind
   refine ρd ?_;refine Xc 3 k O G ?_;refine ρd ?_;refine Qb (λj u U=>RdR.cell O G U) ?_;refine ρd ?_;refine Xc 3 k J D ?_;refine ρd ?_;refine Qb (λj u U=>RdR.cell J D U) ?_;refine ρd ?_;refine dcl (Jvp (a.getD k V0) (b.getD k V0) _) ?_;rintro x w2 ⟨rfl,i⟩;refine⟨i,?_⟩;refine ρd ?_;refine ρ ?_;refine Jg _ sB ⟨y.trans i,λh=>⟨G,D,cmp_V.zero _ _ (Ug h)⟩,λh=>?_⟩;rw[List.drop_eq_getElem_cons G,List.drop_eq_getElem_cons D,shr,if_neg];intro e;have:=Uj h;grind [Ql,V0,Vs]
  refine ρd ?_;refine ρ ?_;refine Jg false sB ⟨y,λe=>(by cases e),λ_=>?_⟩;grind [List.drop_of_length_le,Jdr]
 rintro t w2 ⟨i,h1,h2⟩;refine ci (λh=>?_) (λh=>?_)
 .obtain⟨G,D,e⟩:=h1 h;refine ρ ?_;refine Jp (k+1) sO ⟨i,om,om,?_⟩ om;grind [List.drop_eq_getElem_cons,shr,Ql,V0]
 refine ρ ?_;refine Jq ⟨?_,i⟩;rw[he,h2 h];rfl
def Vh(A:Option Addr)(d:Nat)(vv fv:Nat->Value)(k:Nat): Prop:=(Value.slice A d d).ownBlock=some k∨∃ l,l<d/\((vv l).ownBlock=some k∨(fv l).ownBlock=some k)
theorem Jxh{e sz m base' e' sz' m':Nat}{v:Value}(h:w.ownsRow base e sz v m xs)(h':w.ownsRow base' e' sz' v' m' xs')(hne:Nat.beq e e'=false)(hg:v.ownBlock=some g): v'.ownBlock≠some g:=by
 have u:e≠e':=by intro j;subst j;simp at hne
 intro i;rcases h.2 with⟨rfl,_⟩|⟨g1,cap,cur,rfl,_,hh,_⟩
 .simp[Value.ownBlock]at hg
 rcases h'.2 with⟨rfl,_⟩|⟨g2,cap',cur',rfl,_,hh',_⟩
 .simp[Value.ownBlock]at i
 have B:g1=g:=by simpa [Value.ownBlock] using hg
 have y:g2=g:=by simpa [Value.ownBlock] using i
 grind
theorem TriB.box(h:TriB w base A d vv fv vs fs){b:Nat}(hB:Blk w b t cs)(h1:Nat.beq 314 t=false)(h2:Nat.beq 102 t=false)(h3:Nat.beq 3 t=false): ¬ Vh A d vv fv b:=by
 rintro(e|⟨l,i,e|e⟩)
 .exact hB.ne_own h.lev h1 e.symm
 .exact hB.ne_own (h.vals.own l i) h2 e.symm
 exact hB.ne_own (h.fst.own l i) h3 e.symm
theorem TriB.congr(h:TriB w base A d vv fv vs fs)(h1:∀ l,l<d->vs' l=vs l)(h2:∀ l,l<d->fs' l=fs l): TriB w base A d vv fv vs' fs' :=
 ⟨h.lev,⟨λi hi=>by rw[h1 i hi];exact h.vals.own i hi,h.vals.dis⟩,⟨λi hi=>by rw[h2 i hi];exact h.fst.own i hi,h.fst.dis⟩⟩
theorem Qfh{p:Addr}(u:Value): w.grownBy (w.setCell p u) (some p.block):=⟨rfl,rfl,rfl,by simp[World.setCell],λk i hn=>Below.heap_setCell w p u k (λe=>hn (by rw[e]))⟩
theorem TriB.setV{vv fv : Nat → Value}{vs : Nat → Row}{fs : Nat → List Nat}{r : Row}(H : TriB w base A d vv fv vs fs)(lk : k < d)(ho : w4.ownsRow base 102 3 v4 r.length (Qw r))(hg : w.grownBy w4 (vv k).ownBlock)(hn : ∀ g, v4.ownBlock = some g → (vv k).ownBlock = some g ∨ w.heap.size ≤ g): w4.cell? ((adr A (k * 2)).add 0) = some (vv k) ∧ w4.frozen? ((adr A (k * 2)).add 0) = false ∧ v4.oneCell' = true ∧ TriB (w4.setCell ((adr A (k * 2)).add 0) v4) base A d (upd vv k v4) fv (upd vs k r) fs ∧
      w4.grownBy (w4.setCell ((adr A (k * 2)).add 0) v4) (Value.slice A d d).ownBlock := by
  have F4 := H.vals.upd lk ho hg hn
  have L4 := Vg H.lev (H.vals.own k lk) hg rfl
  have f4 := H.fst.other (H.vals.own k lk) hg rfl
  obtain ⟨s1, s2, s3, s4, s5⟩ := Xp L4 (q := k * 2) om v4
  rw [add_zero]
  have h1 : v4.oneCell' = true := by obtain ⟨B, c, e, _⟩ := Jv ho; rw [e]; rfl
  refine ⟨s1.trans (Gb d vv fv lk).1, s2, h1, ⟨?_, ?_, ?_⟩, s5⟩
  . grind [Qzh,lk]
  . have F5 := F4.other L4 s5 rfl
    refine ⟨fun i hi => ?_, F5.dis⟩
    have := F5.own i hi
    grind [Jt,Jc]
  . exact f4.other L4 s5 rfl
theorem TriB.setF{vv fv : Nat → Value}{vs : Nat → Row}{fs : Nat → List Nat}{r : List Nat}(H : TriB w base A d vv fv vs fs)(lk : k < d)(ho : w4.ownsRow base 3 1 v4 r.length (Jb (nz r)))(hg : w.grownBy w4 (fv k).ownBlock)(hn : ∀ g, v4.ownBlock = some g → (fv k).ownBlock = some g ∨ w.heap.size ≤ g): w4.cell? ((adr A (k * 2)).add 1) = some (fv k) ∧ w4.frozen? ((adr A (k * 2)).add 1) = false ∧ v4.oneCell' = true ∧ TriB (w4.setCell ((adr A (k * 2)).add 1) v4) base A d vv (upd fv k v4) vs (upd fs k r) ∧
      w4.grownBy (w4.setCell ((adr A (k * 2)).add 1) v4) (Value.slice A d d).ownBlock := by
  have F4 := H.fst.upd lk ho hg hn
  have L4 := Vg H.lev (H.fst.own k lk) hg rfl
  have f4 := H.vals.other (H.fst.own k lk) hg rfl
  obtain ⟨s1, s2, s3, s4, s5⟩ := Xp L4 (q := k * 2 + 1) om v4
  rw [Gh]
  have h1 : v4.oneCell' = true := by obtain ⟨B, c, e, _⟩ := Jv ho; rw [e]; rfl
  refine ⟨s1.trans (Gb d vv fv lk).2, s2, h1, ⟨?_, ?_, ?_⟩, s5⟩
  . grind [Qzg,lk]
  . exact f4.other L4 s5 rfl
  . have F5 := F4.other L4 s5 rfl
    refine ⟨fun i hi => ?_, F5.dis⟩
    have := F5.own i hi
    grind [Jt,Jc]
theorem Qmb(h:∀ j,Vh A d vv fv j->M j)(lk:k<d)(hn:∀ g,v4.ownBlock=some g->M g): ∀ j,Vh A d (upd vv k v4) fv j->M j:=by
 rintro j (e|⟨l,i,e|e⟩)
 .exact h j (.inl e)
 .by_cases el:l=k
  .grind [Jt]
  rw[Jc _ _ el]at e;exact h j (.inr ⟨l,i,.inl e⟩)
 exact h j (.inr ⟨l,i,.inr e⟩)
theorem Jtq(h:∀ j,Vh A d vv fv j->M j)(lk:k<d)(hn:∀ g,v4.ownBlock=some g->M g): ∀ j,Vh A d vv (upd fv k v4) j->M j:=by
 rintro j (e|⟨l,i,e|e⟩)
 .exact h j (.inl e)
 .exact h j (.inr ⟨l,i,.inl e⟩)
 by_cases el:l=k
 .grind [Jt]
 rw[Jc _ _ el]at e;exact h j (.inr ⟨l,i,.inr e⟩)
theorem Xzz(v:V)(w:World): (Instr.buildSlice 84 1 #[(0,v.val)]).run Tryz.prog w=.ok (.slice (some ⟨w.heap.size,0,none⟩) 1 1) (w.alloc (.cells v.cells.toArray 102)):=kr
theorem EVs: ElT Tryz.prog 84 102 3 32 (.agg #[.int .i64 0,.int .i64 0,.string ⟨#[]⟩]):=⟨Tryz.underlying84,info_parts kr,rfl,by decide⟩
theorem bs1Int'(z:Int)(w:World): (Instr.buildSlice 22 1 #[(0,.int .i64 z)]).run Tryz.prog w=.ok (.slice (some ⟨w.heap.size,0,none⟩) 1 1) (w.alloc (.cells [.int .i64 z].toArray 3)):=kr
theorem rowC_one'(v:V): Qw [v]=v.cells:=by simp[Qw]
theorem Qck(H:TriB w base A d vv fv vs fs)(hx:Off (Vh A d vv fv) w (λu=>RowV u vx x))(hlen:x.length=d)(hd:d<=32)(hs:s<=d)(hbase:base<=w.heap.size)(hsm:∀ l,l<d->(vs l).length<=1000000/\(fs l).length<=1000000):
  Ret Tryz.prog 222 [.agg #[.slice A d d],vx,.int .i64 (s:Int)] w λu w'=>∃ vv' fv',TriB w' base A d vv' fv' (λl=>if s<=l then vs l++[x.getD l V0] else vs l) (λl=>if s<=l then fs l++[if l+1<d then(vs (l+1)).length else 0] else fs l) /\
   GrN (Vh A d vv fv) w w'/\∀ j,Vh A d vv' fv' j->Vh A d vv fv j∨w.heap.size<=j:=by
 obtain⟨X,xc,ay,bb,ba,b9⟩:=hx.here;subst ay;refine Jz Tryz.func222 Tryz.ntmps222 rfl kr rfl ?_;refine ρ ?_;refine bx ?_;intro w1 b D hb hB;obtain⟨M,hM⟩:∃ M:Nat->Prop,M=λj=>Vh A d vv fv j∨w.heap.size<=j/\j≠b:=⟨_,rfl⟩;have aa:¬ M b:=by
  rw[hM];rintro(G|G)
  .exact(H.ext D).box hB rfl rfl rfl G
  exact G.2 rfl
 have ai:Off M w1 (λu=>RowV u (.slice X x.length xc) x):=λu hg=>hx u ⟨hg.os.trans D.os,hg.tape.trans D.tape,hg.output.trans D.output,Nat.le_trans D.size hg.size,λk hk hn=>(hg.block k (nM hk D.size) (λe=>by rw[hM]at e;rcases e with e|e;exact hn e;omega)).trans (D.block k hk)⟩;refine ρ ?_;refine Xf (fun (k:Nat) (vv' fv':Nat->Value)=>[(1,.slice X x.length xc),(3,.pointer (some ⟨b,0,none⟩)),(6,.int .i64 (k:Int))])
  (λk vv' fv' w'=>s<=k/\k<=d/\TriB w' base A d vv' fv' (λl=>if s<=l/\l<k then vs l++[x.getD l V0] else vs l) (λl=>if s<=l/\l<k then fs l++[if l+1<d then(vs (l+1)).length else 0] else fs l)/\GrN M w1 w'/\∀ j,Vh A d vv' fv' j->M j) (λk _ _=>d-k) s vv fv sB
  ⟨Nat.le_refl _,hs,?_,GrN.refl _ _,λj hj=>by rw[hM];exact .inl hj⟩ ?_
 .have e1:(λl=>if s<=l/\l<s then vs l++[x.getD l V0] else vs l)=vs:=by funext l;rw[if_neg om]
  have e2:(λl=>if s<=l/\l<s then fs l++[if l+1<d then(vs (l+1)).length else 0] else fs l)=fs:=by funext l;rw[if_neg om]
  rw[e1,e2];exact H.ext D
 rintro k vv' fv' w2 ⟨bf,be,H2,hg2,a7⟩;refine ρ ?_;refine ci (λh=>?_) (λh=>?_)
 .have lk:k<d:=by have:=oT h;omega
  have lx:k<x.length:=om
  have bc:=hsm k lk;clear h;obtain⟨B,c,az,b6,b1⟩:=H2.vform lk;obtain⟨own,y⟩:∃ own,own=(vv' k).ownBlock:=⟨_,rfl⟩;have O:∀ j,own=some j->M j:=λj U=>a7 j (.inr ⟨k,lk,.inl (by rw[<-y];exact U)⟩);refine ρ ?_;refine Xn (fun (a5:Nat->Value)=>[(1,.slice X x.length xc),(3,.pointer (some ⟨b,0,none⟩)),(6,.int .i64 (k:Int))])
   (λa5 w5=>TriB w5 base A d a5 fv' (upd (λl=>if s<=l/\l<k then vs l++[x.getD l V0] else vs l) k (vs k++[x.getD k V0])) (λl=>if s<=l/\l<k then fs l++[if l+1<d then(vs (l+1)).length else 0] else fs l)/\GrN M w1 w5/\∀ j,Vh A d a5 fv' j->M j) ?_ ?_
  .refine drN (one own) 4 [(0,0),(0,1),(0,2),(0,3),(0,4),(0,5),(0,6),(0,7),(0,8),(0,9),(0,10),(0,11),(0,12),(1,13),(1,14),(0,15),(0,16),(2,17)] kr ?_;have a6:Ext w2 w2.drew:=(Ext.refl w2).drew;have a4:=H2.ext a6;have J:=hg2.trans (GrN.ext a6);have ah:=Jr hB J aa;have aw:RdR w2.drew X x:=by
    obtain⟨X',av,e1,_,_,e4⟩:=ai _ J;injection e1 with e1 _ _;subst e1;exact e4
   have nb:¬ one own b:=λe=>aa (O b e);have nA:∀ ad,A=some ad->¬ one own ad.block:=λad e G=>by
    subst e;exact Jxh a4.lev (a4.vals.own k lk) rfl rfl (by rw[<-y];exact G)
   have ac:¬ one own (adr A (k*2)).block:=by
    obtain⟨ad,e,_⟩:=a4.rd.isome om om;subst e;simp only[adr,Option.getD_some,Uo];exact nA ad rfl
   have ax:∀ w',GrN (one own) w2.drew w'->RdR w' X x:=λw' hg=>by
    obtain⟨X',av,e1,_,_,e4⟩:=ai _ (J.trans (hg.mono λj _ U=>O j U));injection e1 with e1 _ _;subst e1;exact e4
   refine ρn ?_;refine nld (Qy (ah.at (i:=0) rfl) nb) ?_;refine ρn ?_;refine nld (Qy (ah.at (i:=0) rfl) nb) ?_;refine ρn ?_;refine Ul 2 k a4.rd lk ?_;refine ρn ?_;refine nld (Qy (a4.v0 lk) (by rw[Uo];exact ac)) ?_;refine ρn ?_;refine Ul 3 k aw lx ?_;refine ρn ?_;refine Vu (cs:=(x.getD k V0).cells) (λw' hg j u hu=>RdR.cell (ax w' hg) lx hu) ?_;refine ρn ?_;refine nop ?_;refine bsl (Xzz (x.getD k V0)) ?_;intro w3 b3 a3 bh b4;refine ρ ?_;refine Qg (GrN.ext a3) ?_;have H3:=a4.ext a3;have ap:=H3.vals.own k lk;rw[if_neg (show¬ (s<=k/\k<k) by omega)]at ap;have bd:(vs k).length+1<=1000001:=om
   refine nop ?_;refine apb (base:=base) EVs ap (b4.rd (n:=1) rfl) (V.one _) (by unfold maxLen;omega) om (nL hbase (nL D.size (nL J.size a3.size))) ?_;intro v4 w4 ao a9 au;refine ρ ?_;refine Qg (GrN.by a9 λj U=>by rw[<-y]at U;exact U) ?_;have er:Qw (vs k)++(x.getD k V0).cells=Qw (vs k++[x.getD k V0]):=by rw[Qgh,rowC_one']
   have el:(vs k).length+1=(vs k++[x.getD k V0]).length:=by simp
   rw[er,el]at ao;obtain⟨c1,c2,c3,H5,ae⟩:=H3.setV lk ao a9 au;have bi:b<w2.drew.heap.size:=ah.lt;have L4:=Vg H3.lev (H3.vals.own k lk) a9 rfl;refine ρn ?_;refine Ul 2 k (Rd.own L4) lk ?_;refine ρn ?_;refine Xu ?_;refine sto c1 c2 ?_ (hv:=c3);refine ρ ?_;have af:∀ g,v4.ownBlock=some g->M g:=λg eg=>by
    rcases au g eg with G|G
    .exact O g (by rw[y];exact G)
    rw[hM];exact .inr ⟨nL D.size (nL J.size (nL a3.size G)),λe=>by have:=a3.size;omega⟩
   refine Jg (upd vv' k v4) sB ⟨H5,?_,Qmb (M:=M) a7 lk af⟩;exact((J.trans (GrN.ext a3)).trans (GrN.by a9 λj U=>O j (by rw[y];exact U))).trans (GrN.by ae λj U=>a7 j (.inl U))
  clear O y az b6 b1 H2 hg2 a7;rintro a5 w5 ⟨H5,ae,ag⟩;obtain⟨own,y⟩:∃ own,own=(fv' k).ownBlock:=⟨_,rfl⟩;have O:∀ j,own=some j->M j:=λj U=>ag j (.inr ⟨k,lk,.inr (by rw[<-y];exact U)⟩);refine drN (one own) 4 [(0,0),(0,1),(0,2),(0,3),(0,4),(0,5),(0,6),(0,7),(0,8),(0,9),(0,10),(0,11),(1,12),(1,13),(1,14),(0,15),(0,16),(2,17)] kr ?_;have a6:Ext w5 w5.drew:=(Ext.refl w5).drew;have a1:=H5.ext a6;have a2:=ae.trans (GrN.ext a6);have ab:=Jr hB a2 aa;have nb:¬ one own b:=λe=>aa (O b e);have ac:¬ one own (adr A (k*2)).block:=by
   obtain⟨ad,e,_⟩:=a1.rd.isome om om;subst e;simp only[adr,Option.getD_some,Uo];intro G;exact Jxh a1.lev (a1.fst.own k lk) rfl rfl (by rw[<-y];exact G)
  refine ρn ?_;refine nld (Qy (ab.at (i:=0) rfl) nb) ?_;refine ρn ?_;refine nld (Qy (ab.at (i:=0) rfl) nb) ?_;refine ρn ?_;refine Ul 2 k a1.rd lk ?_;refine ρn ?_;refine nld (Qy (a1.f1 lk) (by rw[Uo];exact ac)) ?_;refine ρn ?_;refine Vu (cs:=[.slice A d d]) (λw' hg j u hu=>(Jr ab hg nb).at hu) ?_;refine ρn ?_;refine nop ?_;refine cl (Jdk (l:=k+1) (li:=(k:Int)+1) a1.rd (λl hl=>by obtain⟨B,c,e,_⟩:=a1.vform hl;exact⟨B,c,e⟩) om hd) ?_;rintro u w6 ⟨rfl,ak⟩;refine ρ ?_;refine Qg (GrN.ext ak) ?_;obtain⟨nn,aq⟩:∃ nn:Nat,nn=if k+1<d then(vs (k+1)).length else 0:=⟨_,rfl⟩
  have b8:(if k+1<d then List.length (upd (λl=>if s<=l/\l<k then vs l++[x.getD l V0] else vs l) k (vs k++[x.getD k V0]) (k+1)) else 0)=nn:=by
   rw[aq,Jc _ _ om,if_neg (show¬ (s<=k+1/\k+1<k) by omega)]
  rw[b8];refine nop ?_;refine bsl (bs1Int' (nn:Int)) ?_;intro w7 b7 aj bg b2;refine ρ ?_;refine Qg (GrN.ext aj) ?_;have Z:=ak.trans aj;have H7:=a1.ext Z;have an:=H7.fst.own k lk;rw[if_neg (show¬ (s<=k/\k<k) by omega)]at an;refine nop ?_;refine apb (base:=base) EI an (b2.rd (n:=1) rfl) (λu hu=>by rw[List.mem_singleton.1 hu];rfl) (by unfold maxLen;omega) om (nL hbase (nL D.size (nL a2.size Z.size))) ?_;intro v8 w8 am a8 ar;refine ρ ?_;refine Qg (GrN.by a8 λj U=>by rw[<-y]at U;exact U) ?_;have er:Jb (nz (fs k))++[.int .i64 (nn:Int)]=Jb (nz (fs k++[nn])):=by simp[Jb,nz]
  have el:(fs k).length+1=(fs k++[nn]).length:=by simp
  rw[er,el]at am;obtain⟨c1,c2,c3,H9,b5⟩:=H7.setF lk am a8 ar;have L8:=Vg H7.lev (H7.fst.own k lk) a8 rfl;refine ρn ?_;refine Ul 2 k (Rd.own L8) lk ?_;refine ρn ?_;refine Xu ?_;refine sto c1 c2 ?_ (hv:=c3);refine ρ ?_;have af:∀ g,v8.ownBlock=some g->M g:=λg eg=>by
   rcases ar g eg with G|G
   .exact O g (by rw[y];exact G)
   rw[hM];exact .inr ⟨nL D.size (nL a2.size (nL Z.size G)),λe=>by have:=Z.size;have:=ab.lt;omega⟩
  refine Qn (k+1) a5 (upd fv' k v8) sO ⟨om,om,H9.congr (λl hl=>?_) (λl hl=>?_),?_,Jtq (M:=M) ag lk af⟩ om
  .by_cases e:l=k
   .subst e;rw[Jt,if_pos om]
   rw[Jc _ _ e];by_cases e2:s<=l/\l<k
   .rw[if_pos e2,if_pos om]
   rw[if_neg e2,if_neg om]
  .by_cases e:l=k
   .subst e;rw[Jt,if_pos om,aq]
   rw[Jc _ _ e];by_cases e2:s<=l/\l<k
   .rw[if_pos e2,if_pos om]
   rw[if_neg e2,if_neg om]
  exact((a2.trans (GrN.ext Z)).trans (GrN.by a8 λj U=>O j (by rw[y];exact U))).trans (GrN.by b5 λj U=>ag j (.inl U))
 have ek:k=d:=by have:=oF h;omega
 subst ek;refine ρ ?_;refine Yx ⟨vv',fv',H2.congr (λl hl=>?_) (λl hl=>?_),?_,λj hj=>?_⟩
 .by_cases e:s<=l
  .rw[if_pos e,if_pos ⟨e,hl⟩]
  rw[if_neg e,if_neg (λG=>e G.1)]
 .by_cases e:s<=l
  .rw[if_pos e,if_pos (show s<=l/\l<k from⟨e,hl⟩)]
  rw[if_neg e,if_neg (λG=>e G.1)]
 .exact⟨hg2.os.trans D.os,hg2.tape.trans D.tape,hg2.output.trans D.output,Nat.le_trans D.size hg2.size,λj hj hn=>(hg2.block j (nM hj D.size) (λe=>by rw[hM]at e;rcases e with e|e;exact hn e;omega)).trans (D.block j hj)⟩
 have:=a7 j hj;rw[hM]at this;exact this.imp id λG=>G.1
open Go.RowKit Pl Go.Wk
attribute [local irreducible] WN
variable {t:Int}{zs:List Int}{base c d n:Nat}{A:Option Addr}{w:World}
theorem Qsq(hR:Rd w 1 A n (Jb zs))(hn:zs.length=n)(hm:n<=1100000): Ret Tryz.prog 82 [.slice A n c,.int .i64 t] w λu w'=>w'=w/\∃ z,u=.int .i64 z/\(0<=z↔t∈zs):=by
 refine Jz Tryz.func82 Tryz.ntmps82 rfl kr rfl ?_;refine ρ ?_;refine Js (fun (k:Nat)=>[(0,.slice A n c),(1,.int .i64 t),(7,.int .i64 (n:Int)),(8,.int .i64 (k:Int))]) (λk w'=>w'=w/\k<=n/\t ∉ zs.take k) (λk=>n-k) 0 sB ⟨rfl,Nat.zero_le _,by simp⟩ ?_;rintro k w' ⟨rfl,j,y⟩;refine ρ ?_;refine ci (λh=>?_) (λh=>?_)
 .have lk:k<n:=by have:=oT h;omega
  have i:k<zs.length:=om
  refine ρ ?_;refine ix k hR lk ?_;refine ρ ?_;refine ld (hR.cell (Kb i)) ?_;refine ρ ?_;refine ci (λh=>?_) (λh=>?_)
  .refine ρ ?_;refine Jq ⟨rfl,(k:Int),rfl,⟨λ_=>?_,λ_=>om⟩⟩;grind
  refine ρ ?_;refine Jp (k+1) sO ⟨rfl,om,?_⟩ om;rw[Qr 0 i,List.mem_append,List.mem_singleton];grind
 refine ρ ?_;refine Jq ⟨rfl,-1,rfl,⟨λe=>om,λe=>?_⟩⟩;grind
theorem Xxj(hR:Rd w 1 A n (Jb zs))(hn:zs.length=n)(hm:n<=1100000): Ret Tryz.prog 221 [.slice A n c,.int .i64 t] w λu w'=>w'=w/\∃ b:Bool,u=.bool b/\(b=true↔t∈zs):=by
 refine Jz Tryz.func221 Tryz.ntmps221 rfl kr rfl ?_;refine ρ ?_;refine cl (Qsq hR hn hm) ?_;rintro u w' ⟨rfl,z,rfl,i⟩;refine ρ ?_;exact Jq ⟨rfl,decide (0<=z),rfl,by grind⟩
def TriV(w:World)(v:Value)(d:Nat)(rs:List Row): Prop:=∃(A:Option Addr) (vv fv:Nat->Value) (fs:Nat->List Nat),v=.agg #[.slice A d d]/\Rd w 2 A d (Zx d vv fv)/\(∀ l,l<d->∃ B c,vv l=.slice B (lvl rs l).length c/\RdR w B (lvl rs l)) /\
 (∀ l,l<d->∃ B c,fv l=.slice B (fs l).length c/\Rd w 1 B (fs l).length (Jb (nz (fs l))))/\∀ l,l+1<d->Chl rs l (fs l)
theorem TriV.ext{w w':World}{v:Value}{d:Nat}{rs:List Row}(h:TriV w v d rs)(hx:Ext w w'): TriV w' v d rs:=by
 obtain⟨A,vv,fv,fs,y,u,D,B,j⟩:=h;refine⟨A,vv,fv,fs,y,u.ext hx,λl i=>?_,λl i=>?_,j⟩;repeat grind [Rd.ext]
theorem TriB.off{vv fv:Nat->Value}{rs:List Row}{fs:Nat->List Nat}{N:Nat->Prop}(h:TriB w base A d vv fv (lvl rs) fs)(hc:∀ l,l+1<d->Chl rs l (fs l))(hN:∀ j,Vh A d vv fv j->¬ N j): Off N w (λu=>TriV u (.agg #[.slice A d d]) d rs):=by
 intro u D;refine⟨A,vv,fv,fs,rfl,Ud h.rd D (λ_ J e=>?_),λl i=>?_,λl i=>?_,hc⟩
 .subst e;exact hN _ (.inl rfl)
 .obtain⟨B,c,e,_,y⟩:=h.vform i;refine⟨B,c,e,Ud y D λ_ J G=>hN _ (.inr ⟨l,i,.inl ?_⟩)⟩;rw[e,G];rfl
 obtain⟨B,c,e,_,y⟩:=h.fform i;refine⟨B,c,e,Ud y D λ_ J G=>hN _ (.inr ⟨l,i,.inr ?_⟩)⟩;rw[e,G];rfl
theorem Jcz: Qe Tryz.prog 294=some (.agg #[.slice none 0 0]):=kr
theorem Xwd(A:Option Addr)(n c:Nat)(w:World): (Instr.build 294 #[(0,.slice A n c)]).run Tryz.prog w=.ok (.agg #[.slice A n c]) w:=kr
theorem EL: ElT Tryz.prog 292 314 2 48 (.agg #[.slice none 0 0,.slice none 0 0]):=⟨Tryz.underlying292,info_parts kr,rfl,by decide⟩
theorem one1: ∀ u∈[Value.slice A n c],u.oneCell'=true:=by intro u i;rw[List.mem_singleton.1 i];rfl
theorem made2(d:Nat): (madeCells (Value.agg #[.slice none 0 0,.slice none 0 0]).cells (d*2)).toList=Zx d (λ_=>.slice none 0 0) (λ_=>.slice none 0 0):=by
 apply List.ext_getElem?
 intro k;have u:(Value.agg #[.slice none 0 0,.slice none 0 0]).cells = #[.slice none 0 0,.slice none 0 0]:=rfl;rw[u];by_cases hk:k<d*2
 .have i:=Gb d (λ_=>Value.slice none 0 0) (λ_=>Value.slice none 0 0) (l:=k / 2) om;have j:k % 2=0∨k % 2=1:=om
  rcases j with j|j
  .have e:k / 2*2=k:=om
   rw[e]at i;rw[i.1];simp only[madeCells,Array.getElem?_toList,Array.getElem?_map,Array.getElem?_range,hk,if_true,Option.map_some];grind
  have e:k / 2*2+1=k:=om
  rw[e]at i;rw[i.2];simp only[madeCells,Array.getElem?_toList,Array.getElem?_map,Array.getElem?_range,hk,if_true,Option.map_some];grind
 rw[List.getElem?_eq_none (by simp[madeCells];omega),List.getElem?_eq_none (by rw[Vv];omega)]
open Go.RowKit Pl Go.Wk
variable {ls rs:List Row}{d:Nat}{r x:Row}
theorem Qlb(h:r.length=d): pmR (List.range d) r=r:=by
 apply List.ext_getElem
 repeat grind [pmR,List.getD,List.getElem?_eq_getElem]
theorem TriB.nil(w:World)(base:Nat){A:Option Addr}(hl:w.ownsRow base 314 2 (.slice A d d) d (Zx d (λ_=>.slice none 0 0) (λ_=>.slice none 0 0))): TriB w base A d (λ_=>.slice none 0 0) (λ_=>.slice none 0 0) (λ_=>[]) (λ_=>[]) :=
 ⟨hl,⟨λi hi=>Xr _ _ _ _,λi j g _ _ _ e=>by cases e⟩,⟨λi hi=>Xr _ _ _ _,λi j g _ _ _ e=>by cases e⟩⟩
theorem Qjw(l:Nat): (lvl rs l).length<=rs.length:=by
 rw[Jxv];have:=Jwv (rs.map (List.take (l+1)));rw[List.length_map]at this;exact this
theorem Qdn: stp rs x<=x.length:=by
 unfold stp;split
 .exact(Jrc _ _).2
 exact Nat.zero_le _
theorem Qch{w:World}{v vc:Value}(hrel:RelV w v d ls)(hlt:Lt [] ls)(hlen:∀ r∈ls,r.length=d)(hc:IntsV w vc (nz (List.range d)))(hd:d<=32)(hbig:ls.length<=65536):
  Ret Tryz.prog 200 [v,vc] w λu w'=>Ext w w'/\∃ t,u=.tuple #[t,.int .i64 0]/\(∃ A,t=.agg #[.slice A d d])/\Off (λk=>k<w.heap.size) w' (λx=>TriV x t d ls):=by
 obtain⟨C,cc,rfl,dh,dg,co⟩:=id hc;obtain⟨rv,rfl,bn⟩:=id hrel;obtain⟨ec,A0,c0,_,rfl,_⟩:=id bn;have b9:(nz (List.range d)).length=d:=by rw[Xw,List.length_range]
 rw[b9]at hc dh dg co ⊢;have d0:∀ {k:Nat},k<d->(List.range d).getD k 0=k:=fun {k} hk=>by simp[List.getD,hk]
 have br:∀ {k:Nat},k<d->(Jb (nz (List.range d)))[k]?=some (.int .i64 (k:Int)):=fun {k} hk=>by
  have:=Qs (cs:=List.range d) (i:=k) (by rw[List.length_range];exact hk);rw[d0 hk]at this;exact this
 refine Jz Tryz.func200 Tryz.ntmps200 rfl kr rfl ?_;refine ρ ?_;refine bx ?_;intro w1 b1 cb em e1;refine ρ ?_;refine alc Jcz ?_;intro w2 b2 ca dk cz;have c8:=cb.trans ca;refine ρ ?_;refine Js (fun (k:Nat)=>[(1,.slice C d cc),(2,.pointer (some ⟨b1,0,none⟩)),(4,.pointer (some ⟨b2,0,none⟩)),(15,.slice C d cc),(16,.int .i64 (d:Int)),(17,.int .i64 (k:Int))]) (λk w'=>Ext w2 w'/\k<=d) (λk=>d-k) 0 sB ⟨Ext.refl _,Nat.zero_le _⟩ ?_;rintro k w3 ⟨ar,hk⟩;have a7:=c8.trans ar;have bi:=(e1.ext ca).ext ar;refine ρ ?_;refine ci (λh=>?_) (λh=>?_)
 .have lk:k<d:=by have:=oT h;omega
  have az:=co.ext a7;refine ρ ?_;refine ix k az lk ?_;refine ρ ?_;refine ld (az.cell (br lk)) ?_;refine ρ ?_;refine kf 24 ?_ ?_
  .exact dF om
  refine ρ ?_;refine ldW bi ?_;refine ρ ?_;refine cl (Jfm (hrel.ext a7)) ?_;rintro u w4 ⟨rfl,ao⟩;refine ρ ?_;refine cf ?_ ?_
  .exact dF om
  refine ρ ?_;refine slh k ?_;refine ρ ?_;have dm:Rd w4 1 C k (Jb ((nz (List.range d)).take k)):=by
   have:=(az.ext ao).take (m:=k) om;rw[Nat.mul_one]at this;have e:Jb ((nz (List.range d)).take k)=(Jb (nz (List.range d))).take k:=by simp[Jb]
   rw[e];exact this
  refine cl (Xxj (t:=(k:Int)) dm (by rw[List.length_take,b9];omega) om) ?_;rintro u w5 ⟨rfl,t,rfl,ht⟩;have dc:t=false:=by
   cases t with
   | false=>rfl
   | true=>
    exfalso
    have hm:=ht.1 rfl;obtain⟨i,hi,e⟩:=List.getElem_of_mem hm;rw[List.length_take,b9]at hi;have:((nz (List.range d)).take k)[i]'(by rw[List.length_take,b9];exact hi)=(i:Int):=by simp[nz]
    rw[this]at e;omega
  refine ρ ?_;refine cf dc ?_;refine ρ ?_;exact Jp (k+1) sO ⟨ar.trans ao,om⟩ om
 clear h;have ch:ls.map (pmR (List.range d))=ls:=by
  conv=>rhs;rw[<-List.map_id ls]
  exact List.map_congr_left λr hr=>by rw[Qlb (hlen r hr)];rfl
 refine ρ ?_;refine ldW bi ?_;refine ρ ?_;refine cl (Jfl (cs:=List.range d) (hrel.ext a7) (hc.ext a7) hlen (λc hc=>List.mem_range.1 hc) (by rw[List.length_range];exact hd) hbig) ?_;rintro u w4 ⟨ao,pv,rfl,⟨pz,pB,pm,pd,rfl⟩,m,cg,ef,ee,df⟩;have de:m=ls:=by
  have:=df (.inr (by rw[ch];exact Gy hlt));rw[ch]at this;exact Jqx this.1 hlt this.2
 subst de;rw[List.length_range]at cg;have c7:=a7.trans ao;refine ρ ?_;refine alc Yf ?_;intro w5 b5 db dj e0;refine ρ ?_;refine stb e0 ?_ (Vq (z:=pz) (A:=pB) (n:=pm) (c:=pd));intro w6 dz hg6 da;have ac:Ext w4 w6:=da w4 db dj;have ap:=c7.trans ac;have dt:RelV w6 (.agg #[.int .i64 pz,.slice pB pm pd]) d m:=cg.here.ext ac;refine ρ ?_;refine mkn EL d om (by unfold maxLen;omega) ?_;intro w7 A d9 bp hO;rw[made2]at bp;refine ρ ?_;refine bld (Xwd A d d _) ?_;refine ρ ?_;refine alc Jcz ?_;intro w8 b8 d8 di dx;refine ρ ?_;refine stb dx ?_ (one1 (A:=A) (n:=d) (c:=d));intro w9 dw eh d7;have aq:Ext w7 w9:=d7 w7 d8 di;have G:=d9.trans aq;have c6:=ap.trans G;have dl:=TriB.nil w9 w6.heap.size (Jh bp aq);have ck:∀ j,(Value.slice A d d).ownBlock=some j->w6.heap.size<=j/\j<w7.heap.size:=by
  obtain⟨_,_,_,_,hf⟩:=Jv bp;exact hf
 refine ρ ?_;refine ldW (dz.ext G) ?_;refine ρ ?_;refine cl (Qgq (dt.ext G)) ?_;rintro u an ⟨J,b7⟩;obtain⟨ps,R,rc,cj,rfl,e7,e6,dq,dn⟩:=b7;have ed:ps.length=m.length:=by rw[cj,List.length_map]
 generalize hn:ps.length=n at *
 have aw:∀ i,m.getD i []=(ps.getD i z0).2:=λi=>by rw[cj];exact Jwd
 have bl:=c6.trans J;obtain⟨Ar,b6⟩:∃ Ar:Nat->Prop,Ar=λj=>j<w9.heap.size∨an.heap.size<=j:=⟨_,rfl⟩;have ds:Off Ar an (λu=>Rd u 1 R n (ps.map (·.1))):=dq.mono λj hj av=>by rw[b6]at av;omega
 have bs:∀ p∈ps,Off Ar an (λu=>RowV u p.1 p.2):=λp hp=>(dn p hp).mono λj hj av=>by rw[b6]at av;omega
 have a2:=dw.ext J;have cy:=(((((cz.ext ar).ext ao).ext ac).ext G).ext J);obtain⟨M,hM⟩:∃ M:Nat->Prop,M=λj=>w6.heap.size<=j/\Ar j/\j≠b8:=⟨_,rfl⟩;have bt:∀ j,M j->Ar j:=λj hj=>by rw[hM]at hj;exact hj.2.1
 have b3:¬ M b8:=λe=>by rw[hM]at e;exact e.2.2 rfl
 have cq:¬ M b2:=λe=>by
  rw[hM]at e;have h1:=cz.lt;have h2:=ar.size;have h3:=ao.size;have h4:=ac.size;omega
 refine ρ ?_;refine Xf (fun (k:Nat) (vv fv:Nat->Value)=>[(4,.pointer (some ⟨b2,0,none⟩)),(10,.pointer (some ⟨b8,0,none⟩)),(11,if k=0 then .slice none 0 0 else(ps.getD (k-1) z0).1),(53,.slice R n rc),(54,.int .i64 (n:Int)),(55,.int .i64 (k:Int))])
  (λk vv fv w'=>k<=n/\(∃ fs,TriB w' w6.heap.size A d vv fv (lvl (m.take k)) fs/\(∀ l,l<d->(fs l).length=(lvl (m.take k) l).length)/\∀ l,l+1<d->Fst (m.take k) l (fs l))/\GrN M an w'/\∀ j,Vh A d vv fv j->M j) (λk _ _=>n-k) 0 (λ_=>.slice none 0 0) (λ_=>.slice none 0 0) sB
  ⟨Nat.zero_le _,⟨λ_=>[],(dl.ext J).congr (λl U=>rfl) (λl U=>rfl),λl U=>rfl,λl U=>Fst.nil l⟩,GrN.refl _ _,λj hj=>?_⟩ ?_
 .rcases hj with e|⟨l,_,e|e⟩
  .have:=ck j e;rw[hM];refine⟨this.1,by rw[b6];exact .inl (nM this.2 aq.size),λe2=>?_⟩;subst e2;omega
  .cases e
  cases e
 rintro k vv fv a3 ⟨hk,⟨fs,bw,ay,aj⟩,a1,a9⟩;have a6:GrN Ar an a3:=a1.mono λj _ hj=>bt j hj;refine ρ ?_;refine ci (λh=>?_) (λh=>?_)
 .have lk:k<n:=by have:=oT h;omega
  have c5:k<m.length:=om
  clear h;have bh:=ds a3 a6;have cp:RowV a3 (ps.getD k z0).1 (m.getD k []):=by rw[aw];exact bs _ (Yz hn lk) a3 a6
  have c9:(m.getD k []).length=d:=hlen _ (getD_mem' [] m c5);have cu:∃ y,RowV a3 (if k=0 then .slice none 0 0 else(ps.getD (k-1) z0).1) y/\(y=[]∨y.length=(m.getD k []).length)/\shr y (m.getD k [])=stp (m.take k) (m.getD k []):=by
   by_cases e:k=0
   .subst e;rw[if_pos rfl];exact⟨[],RowV.nil _ _ _,.inl rfl,by rw[Jdr];rfl⟩
   rw[if_neg e];have d3:k-1<n:=om
   refine⟨m.getD (k-1) [],by rw[aw];exact bs _ (Yz hn d3) a3 a6,.inr (by rw[c9];exact hlen _ (getD_mem' [] m om)),?_⟩;have e2:(m.take k).getLast?=some (m.getD (k-1) []):=by
    rw[List.getLast?_eq_getElem?,List.length_take,Nat.min_eq_left om,List.getElem?_take,if_pos om,Ql [] m om,List.getElem?_eq_getElem om]
   unfold stp;rw[e2]
  obtain⟨y,d6,d5,d4⟩:=cu;have au:m.take (k+1)=m.take k++[m.getD k []]:=Qr [] c5;have ag:Lt [] (m.take k++[m.getD k []]):=by rw[<-au];exact List.Pairwise.sublist (List.take_sublist _ _) hlt
  have a4:∀ r∈m.take k++[m.getD k []],r.length=d:=by rw[<-au];exactλr hr=>hlen r (List.mem_of_mem_take hr)
  refine ρ ?_;refine ix k bh lk ?_;refine ρ ?_;refine ld (Jjj bh hn lk) ?_;refine ρ ?_;refine drN (λ_=>False) 4 [(0,0),(0,1),(0,2),(0,3),(1,4),(2,5)] kr ?_;have aa:Ext a3 a3.drew:=(Ext.refl a3).drew;have bq:=a1.trans (GrN.ext aa);have ak:=Jr a2 bq b3;refine ρn ?_;refine Vu (cs:=[.slice A d d]) (λw' hg j u hu=>(Jr ak hg (λe=>e)).at hu) ?_;refine ρn ?_;refine nop ?_;refine cl (Qcg (d6.ext aa) (cp.ext aa) d5) ?_;rintro u am ⟨rfl,bd⟩;refine ρ ?_;refine Qg (GrN.ext bd) ?_;rw[d4];have af:=aa.trans bd;have bb:=bw.ext af;have D:=a1.trans (GrN.ext af);have bm:Off (Vh A d vv fv) am (λu=>RowV u (ps.getD k z0).1 (m.getD k [])):=λu hu=>by
   rw[aw];exact bs _ (Yz hn lk) u ((D.mono λj _ hj=>bt j hj).trans (hu.mono λj _ hj=>bt j (a9 j hj)))
  refine Xu ?_;refine cl (Qck (s:=stp (m.take k) (m.getD k [])) bb bm c9 hd (by have:=Qdn (rs:=m.take k) (x:=m.getD k []);omega) ?_ ?_) ?_
  .have h1:=G.size;have h2:=J.size;have h3:=D.size;omega
  .intro l U;have h1:=Qjw (rs:=m.take k) l;rw[List.length_take]at h1;have h2:=ay l U;omega
  rintro u bz ⟨d1,ab,e5,ax,cr⟩;refine ρ ?_;refine Qn (k+1) d1 ab (by repeat' (first|exact Sub.nil|refine Sub.cons (by first|rfl|(refine congrArg (λz=>some (Value.int .i64 z)) ?_;omega)|(rw[if_neg (Nat.succ_ne_zero k)];rfl)) ?_)) ⟨om,⟨_,e5.congr (vs':=lvl (m.take (k+1))) (λl U=>?_) (λl U=>rfl),λl U=>?_,λl U=>?_⟩,D.trans (ax.mono λj _ hj=>a9 j hj),λj hj=>?_⟩ om
  .rw[au,Qjv ag a4 U];by_cases e:stp (m.take k) (m.getD k [])<=l
   .rw[if_pos e,if_neg om]
   rw[if_neg e,if_pos om]
  .rw[au,Qjv ag a4 U];by_cases e:stp (m.take k) (m.getD k [])<=l
   .rw[if_pos e,if_neg (show¬ l+1<=stp (m.take k) (m.getD k []) by omega),List.length_append,List.length_append,ay l U];rfl
   rw[if_neg e,if_pos om];exact ay l U
  .rw[au];by_cases e:stp (m.take k) (m.getD k [])<=l
   .rw[if_pos e,if_pos U,Jxv];exact(aj l U).more ag a4 e
   rw[if_neg e];exact(aj l U).keep ag a4 om
  rcases cr j hj with h'|h'
  .exact a9 j h'
  rw[hM];have h1:=G.size;have h2:=J.size;have h3:=D.size;have h4:=a2.lt;exact⟨om,by rw[b6];exact .inr om,om⟩
 have ek:k=n:=by have:=oF h;omega
 subst ek;rw[List.take_of_length_le om]at bw ay aj;have ak:=Jr a2 a1 b3;refine ρ ?_;refine ld (ak.at (i:=0) rfl) ?_;refine ρ ?_;refine Qq (fun (k:Nat) (fv:Nat->Value)=>[(4,.pointer (some ⟨b2,0,none⟩)),(10,.pointer (some ⟨b8,0,none⟩)),(69,.int .i64 (d:Int)),(70,.int .i64 (k:Int))])
  (λq ab w'=>q<=d/\TriB w' w6.heap.size A d vv ab (lvl m) (λl=>if l<q then fs l++[if l+1<d then(lvl m (l+1)).length else 0] else fs l)/\GrN M an w'/\∀ j,Vh A d vv ab j->M j) (λq _=>d-q) 0 fv sB
  ⟨Nat.zero_le _,bw.congr (λl U=>rfl) (λl U=>by rw[if_neg om]),a1,a9⟩ ?_
 clear ak a9 a6 a1;rintro q ab am ⟨hq,bb,D,ai⟩;refine ρ ?_;refine ci (λh=>?_) (λh=>?_)
 .have lq:q<d:=by have:=oT h;omega
  clear h;have e8:=ay q lq;have ei:=Qjw (rs:=m) q;obtain⟨own,a8⟩:∃ own,own=(ab q).ownBlock:=⟨_,rfl⟩;have bo:∀ j,own=some j->M j:=λj ej=>ai j (.inr ⟨q,lq,.inr (by rw[<-a8];exact ej)⟩);refine ρ ?_;refine drN (one own) 4 [(0,0),(0,1),(0,2),(0,3),(0,4),(0,5),(0,6),(0,7),(0,8),(0,9),(0,10),(0,11),(1,12),(1,13),(1,14),(0,15),(0,16),(2,17)] kr ?_;have aa:Ext am am.drew:=(Ext.refl am).drew;have O:=bb.ext aa;have a5:=D.trans (GrN.ext aa);have b4:=Jr a2 a5 b3;have nb:¬ one own b8:=λe=>b3 (bo b8 e);have d2:¬ one own (adr A (q*2)).block:=by
   obtain⟨ad,e,_⟩:=O.rd.isome om om;subst e;simp only[adr,Option.getD_some,Uo];intro h';exact Jxh O.lev (O.fst.own q lq) rfl rfl (by rw[<-a8];exact h')
  refine ρn ?_;refine nld (Qy (b4.at (i:=0) rfl) nb) ?_;refine ρn ?_;refine nld (Qy (b4.at (i:=0) rfl) nb) ?_;refine ρn ?_;refine Ul 2 q O.rd lq ?_;refine ρn ?_;refine nld (Qy (O.f1 lq) (by rw[Uo];exact d2)) ?_;refine ρn ?_;refine Vu (cs:=[.slice A d d]) (λw' hg j u hu=>(Jr b4 hg nb).at hu) ?_;refine ρn ?_;refine nop ?_;refine cl (Jdk (l:=q+1) (li:=(q:Int)+1) O.rd (λl U=>by obtain⟨B,c,e,_⟩:=O.vform U;exact⟨B,c,e⟩) om hd) ?_;rintro u bz ⟨rfl,ae⟩;refine ρ ?_;refine Qg (GrN.ext ae) ?_;obtain⟨nn,ce⟩:∃ nn:Nat,nn=if q+1<d then(lvl m (q+1)).length else 0:=⟨_,rfl⟩
  rw[<-ce];refine nop ?_;refine bsl (bs1Int' (nn:Int)) ?_;intro eb en bc e9 cm;refine ρ ?_;refine Qg (GrN.ext bc) ?_;have Z:=ae.trans bc;have ba:=O.ext Z;have bf:=ba.fst.own q lq;rw[if_neg (show¬ q<q by omega)]at bf;refine nop ?_;refine apb (base:=w6.heap.size) EI bf (cm.rd (n:=1) rfl) (λu hu=>by rw[List.mem_singleton.1 hu];rfl) (by unfold maxLen;omega) om ?_ ?_
  .have h1:=G.size;have h2:=J.size;have h3:=a5.size;have h4:=Z.size;omega
  intro c4 ea be ah bg;refine ρ ?_;refine Qg (GrN.by ah λj ej=>by rw[<-a8]at ej;exact ej) ?_;have er:Jb (nz (fs q))++[.int .i64 (nn:Int)]=Jb (nz (fs q++[nn])):=by simp[Jb,nz]
  have el:(fs q).length+1=(fs q++[nn]).length:=by simp
  rw[er,el]at be;obtain⟨c1,c2,c3,e4,cn⟩:=ba.setF lq be ah bg;have e3:=Vg ba.lev (ba.fst.own q lq) ah rfl;refine ρn ?_;refine Ul 2 q (Rd.own e3) lq ?_;refine ρn ?_;refine Xu ?_;refine sto c1 c2 ?_ (hv:=c3);refine ρ ?_;have du:∀ g,c4.ownBlock=some g->M g:=λg eg=>by
   rcases bg g eg with h'|h'
   .exact bo g (by rw[a8];exact h')
   rw[hM];have h1:=G.size;have h2:=J.size;have h3:=a5.size;have h4:=Z.size;have h5:=a2.lt;exact⟨om,by rw[b6];exact .inr om,om⟩
  refine Ju (q+1) (upd ab q c4) sO ⟨om,e4.congr (λl U=>rfl) (λl U=>?_),?_,Jtq (M:=M) ai lq du⟩ om
  .by_cases e:l=q
   .subst e;rw[Jt,if_pos (show l<l+1 by omega),ce]
   rw[Jc _ _ e];by_cases e2:l<q
   .rw[if_pos e2,if_pos (show l<q+1 by omega)]
   rw[if_neg e2,if_neg (show¬ l<q+1 by omega)]
  exact((a5.trans (GrN.ext Z)).trans (GrN.by ah λj ej=>bo j (by rw[a8];exact ej))).trans (GrN.by cn λj ej=>ai j (.inl ej))
 have eq:q=d:=by have:=oF h;omega
 subst eq;have cw:=Jr a2 D b3;have cx:=Jr cy D cq;refine ρ ?_;refine ldW cw ?_;refine ρ ?_;refine stb cx ?_ (one1 (A:=A) (n:=q) (c:=q));intro bz bu ax ae;refine ρ ?_;have bj:Ext w am:=D.old bl λj hj=>by rw[hM]at hj;exact nL ap.size hj.1
 refine Xh bu ⟨ae w bj (nL cb.size dk),_,rfl,⟨A,rfl⟩,?_⟩;have cd:=bb.off (N:=λj=>j<w.heap.size∨j=b2) (λl U=>?_) (λj hj av=>?_)
 .refine(cd.grown ax (λj ej=>.inr (by injection ej with ej;exact ej.symm))).mono λj _ hj=>.inl hj
 .rw[if_pos (show l<q by omega),if_pos U,Jxv];exact(aj l U).close
 have h1:=ai j hj;rcases av with h'|h'
 .rw[hM]at h1;have:=ap.size;omega
 subst h';exact cq h1
end Go.Proofs.YtebiphhfkdbpfaaGreatDoor
namespace Go.Wk
open Go.RowKit
variable {a:Act}{cs us:List Value}{g j m n o:Nat}{i x y:Operand}{p:Option Addr}{k:TK}{e t t2:TypeId}{u v:Value}{w:World}
section
variable {N:Nat->Prop} {P:Program} {n:Nat} {al:AL} {w:World} {Q:Exit->Act->World->Prop} {ops:Array Oper} {rest:List Oper} {drest:List (Nat×Oper)}
variable {d ty:Nat} {op:Op} {pos:String} {aft:Array Edge} {tt:TT}
theorem Jrn(hT:TOk P tt)(ht:tk tt t=some k)(hk:k.desc=.pointer e)(ha:Fr n al a)(hx:ev al x=some (.pointer p))(dst:Option Nat)(w:World):
  (execOp a.eval ⟨dst,.binOp .eql t x (.const (.pointer none)) t2,ty,pos,aft,none⟩).run P w=.ok (.value (.bool p.isNone)) w:=by
 have i:=Gz hT ht hk rfl;have h:∀ d:Nat,(Op.equalIn (d+1) t (.pointer p) (.pointer none)).run P w=.ok p.isNone w:=λd=>by cases p<;>simp[Op.equalIn,run_underlying i]
 have j:a.eval (.const (.pointer none))=.pointer none:=rfl;simp[execOp,ha.ev hx,j,eqGuard,binOp,Op.equal,Op.maxDepth,h 9999]
theorem Qfp(hT:TOk P tt)(ht:tk tt t=some k)(hk:k.desc=.pointer e)(ha:Fr n al a)(hx:ev al x=some (.pointer p))(dst:Option Nat)(w:World):
  (execOp a.eval ⟨dst,.binOp .neq t x (.const (.pointer none)) t2,ty,pos,aft,none⟩).run P w=.ok (.value (.bool (!p.isNone))) w:=by
 have i:=Gz hT ht hk rfl;have h:∀ d:Nat,(Op.equalIn (d+1) t (.pointer p) (.pointer none)).run P w=.ok p.isNone w:=λd=>by cases p<;>simp[Op.equalIn,run_underlying i]
 have j:a.eval (.const (.pointer none))=.pointer none:=rfl;simp[execOp,ha.ev hx,j,eqGuard,binOp,Op.equal,Op.maxDepth,h 9999]
theorem pnl[h:Tab P tt](kk:WL P n ops Q rest ((d,.bool p.isNone)::al) w)(ht:tk tt t=some k:=by rfl)(hk:k.desc=.pointer e:=by rfl)(hx:ev al x=some (.pointer p):=by rfl)(hd:Nat.blt d n=true:=by rfl):
  WL P n ops Q (⟨some d,.binOp .eql t x (.const (.pointer none)) t2,ty,pos,aft,none⟩::rest) al w:=wop hd (λa i=>Jrn h.ok ht hk i hx (some d) w) kk
theorem dpnl[h:Tab P tt](kk:WD P n ops Q drest ((d,.bool p.isNone)::al) w)(ht:tk tt t=some k:=by rfl)(hk:k.desc=.pointer e:=by rfl)(hx:ev al x=some (.pointer p):=by rfl)(hd:Nat.blt d n=true:=by rfl):
  WD P n ops Q ((0,⟨some d,.binOp .eql t x (.const (.pointer none)) t2,ty,pos,aft,none⟩)::drest) al w:=dy (λw' _ a i=>Jrn h.ok ht hk i hx (some d) w') hd kk
theorem dpnn[h:Tab P tt](kk:WD P n ops Q drest ((d,.bool (!p.isNone))::al) w)(ht:tk tt t=some k:=by rfl)(hk:k.desc=.pointer e:=by rfl)(hx:ev al x=some (.pointer p):=by rfl)(hd:Nat.blt d n=true:=by rfl):
  WD P n ops Q ((0,⟨some d,.binOp .neq t x (.const (.pointer none)) t2,ty,pos,aft,none⟩)::drest) al w:=dy (λw' _ a i=>Qfp h.ok ht hk i hx (some d) w') hd kk
theorem nixa[h:Tab P tt]{t e:Nat}{p:Addr}{kd:IntKind}{z:Int}(j:Nat)(hlt:j<m)(kk:WN N P n ops Q drest ((d,.pointer (some (p.add (j*k.esz))))::al) w)(ht:tk tt t=some k:=by rfl)(hk:k.desc=.array m e:=by rfl)(hx:ev al x=some (.pointer (some p)):=by rfl)(hi:ev al i=some (.int kd z):=by rfl)(hj:z=(j:Int):=by first|rfl|omega)(hd:Nat.blt d n=true:=by rfl): WN N P n ops Q ((0,⟨some d,.indexAddr t x i,ty,pos,aft,none⟩)::drest) al w :=
 ny_ (λw' _ a u=>Jyg h.ok j ht hk hlt u hx hi hj (some d) w') hd kk
theorem stB[h:Tab P tt]{t bt:Nat}{p:Addr}(hb:Blk w g bt cs)(ho:o+us.length<=cs.length)(h1:∀ u∈us,u.oneCell'=true)(kk:∀ w1,Blk w1 g bt (cs.take o++us++cs.drop (o+us.length))->w.grownBy w1 (some g)->WL P n ops Q rest al w1)(ht:tk tt t=some k:=by rfl)(hk:k.desc=.invalid:=by rfl)(hs:k.size=us.length:=by rfl)(hx:ev al x=some (.pointer (some p)):=by rfl)(hp:p=⟨g,o,none⟩:=by rfl)(hy:ev al y=some (.agg us.toArray):=by rfl):
  WL P n ops Q (⟨none,.store t x y,ty,pos,aft,none⟩::rest) al w:=by
 subst hp;have D:=Jjz w g (cs.take o++us++cs.drop (o+us.length)).toArray;have i:=run_storeCells_at (P:=P) g o bt us 0 cs.toArray w hb (by simpa using ho) h1;simp only[Nat.add_zero]at i;refine Jqq (λa B=>?_) (kk (w.setRow g (cs.take o++us++cs.drop (o+us.length)).toArray) (setRow_heap w g _ _ _ _ hb) D);have j:=Ve w (Jkc h.ok ht hk w).2;simp[execOp,B.ev hx,B.ev hy,Instr.storeAt,Instr.sureAddr,storeVar,Value.cells,j,hs,i]
end
theorem Qyv{P:Program}{al:AL}{Q Q':Exit->Act->World->Prop}{ops:Array Oper}{α β:Type}{d:Code}{l:List Oper}(fr:α->β->AL)(I:α->β->World->Prop)(h1:WL P n ops (Exit.then (λa w=>∃ x y,Fr n (fr x y) a/\I x y w) Q) l al w)(h2:∀ x y w,I x y w->WC P n d Q' (fr x y) w): WL P n ops (Exit.then (d.wp P Q') Q) l al w:=by
 intro a j;refine Jvk ?_ l a w (h1 a j);intro e D w' i;cases e with
 | normal=>obtain⟨x,y,B,u⟩:=i;exact h2 x y w' u D B
 | exit id=>exact i
 | goto l=>exact i
 | ret=>exact i
 | panic c=>exact i
 | outgrown=>exact i
theorem seg2(h:o+2<=cs.length): cs.take o++[u,v]++cs.drop (o+2)=(cs.set o u).set (o+1) v:=by
 apply List.ext_getElem?
 intro i;rw[List.getElem?_set,List.getElem?_set,List.append_assoc];grind
theorem Blk.sub(h:Blk w g t cs){i:Nat}(hv:cs[i+j]?=some v): w.cell? ((⟨g,i,none⟩:Addr).add j)=some v:=by rw[Zm,h.cell];exact hv
end Go.Wk
namespace Go.Proofs.YtebiphhfkdbpfaaGreatDoor
open Go.RowKit Pl Go.Wk
attribute [local irreducible] WC WL QX WD WDB WP WN
variable {d k:Nat}
def itC(A:Option Addr)(d L p e:Nat)(f h:Nat->Nat)(st:Int): List Value:=[.slice A d d,.int .i64 (L:Int),.int .i64 (p:Int),.int .i64 (e:Int)]++Zx 32 (λk=>.int .i64 (f k:Int)) (λk=>.int .i64 (h k:Int))++[.int .i64 st]
theorem Jbm(A:Option Addr)(d L p e:Nat)(f h:Nat->Nat)(st:Int): (itC A d L p e f h st).length=69:=by grind [itC,List.length_append,Vv]
theorem Jhj(A:Option Addr)(d L p e:Nat)(f h:Nat->Nat)(st:Int): (itC A d L p e f h st)[68]?=some (.int .i64 st):=by grind [itC,List.getElem?_append_right,List.length_append,Vv]
theorem Qsh(A:Option Addr)(d L p e:Nat)(f h:Nat->Nat)(st st':Int): (itC A d L p e f h st).set 68 (.int .i64 st')=itC A d L p e f h st':=by
 unfold itC;rw[List.set_append_right _ _ (by rw[List.length_append,Vv];simp),List.length_append,Vv];rfl
theorem Qsk(A:Option Addr)(d L p e:Nat)(f h:Nat->Nat)(st:Int)(hk:k<32): (itC A d L p e f h st)[4+k*2]?=some (.int .i64 (f k:Int))/\(itC A d L p e f h st)[4+k*2+1]?=some (.int .i64 (h k:Int)):=by grind [Gb,itC,List.getElem?_append_left,List.length_append,Vv,List.getElem?_append_right]
theorem Jnv(f:Nat->Nat)(k x:Nat): (λj=>Value.int .i64 ((upd f k x j:Nat):Int))=upd (λj=>Value.int .i64 (f j:Int)) k (.int .i64 (x:Int)):=by
 funext j;unfold upd;split<;>rfl
theorem Qsj(A:Option Addr)(d L p e:Nat)(f h:Nat->Nat)(st:Int)(hk:k<32)(x y:Nat): ((itC A d L p e f h st).set (4+k*2) (.int .i64 (x:Int))).set (4+k*2+1) (.int .i64 (y:Int))=itC A d L p e (upd f k x) (upd h k y) st:=by
 unfold itC;have j:∀(X:List Value),([Value.slice A d d,.int .i64 (L:Int),.int .i64 (p:Int),.int .i64 (e:Int)]++X).set (4+k*2) (.int .i64 (x:Int))=[Value.slice A d d,.int .i64 (L:Int),.int .i64 (p:Int),.int .i64 (e:Int)]++X.set (k*2) (.int .i64 (x:Int)):=λX=>by grind
 have i:∀(X:List Value),([Value.slice A d d,.int .i64 (L:Int),.int .i64 (p:Int),.int .i64 (e:Int)]++X).set (4+k*2+1) (.int .i64 (y:Int))=[Value.slice A d d,.int .i64 (L:Int),.int .i64 (p:Int),.int .i64 (e:Int)]++X.set (k*2+1) (.int .i64 (y:Int)):=λX=>by grind
 rw[List.set_append_left _ _ (by grind [List.length_append,Vv]),j,Qzh _ _ _ hk,List.set_append_left _ _ (by grind [List.length_append,Vv]),i,Qzg _ _ _ hk,Jnv,Jnv]
abbrev ItB(w:World)(g:Nat)(A:Option Addr)(d L p e:Nat)(f h:Nat->Nat)(st:Int): Prop:=Blk w g 319 (itC A d L p e f h st)
def TriA(w:World)(A:Option Addr)(d:Nat)(rs:List Row): Prop:=∃(vv fv:Nat->Value) (fs:Nat->List Nat),Rd w 2 A d (Zx d vv fv)/\(∀ l,l<d->∃ B c,vv l=.slice B (lvl rs l).length c/\RdR w B (lvl rs l)) /\
 (∀ l,l<d->∃ B c,fv l=.slice B (fs l).length c/\Rd w 1 B (fs l).length (Jb (nz (fs l))))/\∀ l,l+1<d->Chl rs l (fs l)
theorem TriV.a{w:World}{A:Option Addr}{rs:List Row}(h:TriV w (.agg #[.slice A d d]) d rs): TriA w A d rs:=by
 obtain⟨u,vv,fv,fs,i,j⟩:=h;injection i with i
 have:Value.slice A d d=.slice u d d:=by simpa using i
 injection this with i
 subst i;exact⟨vv,fv,fs,j⟩
theorem TriA.ext{w w':World}{A:Option Addr}{d:Nat}{rs:List Row}(h:TriA w A d rs)(hx:Ext w w'): TriA w' A d rs:=by
 obtain⟨vv,fv,fs,u,B,y,j⟩:=h;refine⟨vv,fv,fs,u.ext hx,λl i=>?_,λl i=>?_,j⟩;repeat grind [Rd.ext]
section
variable {w:World} {g:Nat} {A:Option Addr} {d L p e:Nat} {f h:Nat->Nat} {st:Int}
theorem Jxl(hB:ItB w g A d L p e f h st): Ret Tryz.prog 240 [.pointer (some ⟨g,0,none⟩)] w λu w'=>u=.bool (decide (0<L/\p<e))/\Ext w w':=by
 refine Jz Tryz.func240 Tryz.ntmps240 rfl kr rfl ?_;refine ρ ?_;refine dr [(0,0),(0,1),(0,2),(0,3),(0,4),(0,5),(0,6),(0,7),(0,8),(0,9),(0,10),(0,11),(0,12),(0,13),(0,14),(0,15),(0,16),(0,17),(0,18),(0,19),(0,20),(0,21),(0,22)] kr ?_;have y:Ext w w.drew:=(Ext.refl w).drew;have j:=hB.ext y;refine ρd ?_;refine dpnn ?_;refine ρd ?_;refine dld (j.at (i:=1) rfl) ?_;refine ρd ?_;refine dki 12 (λB=>?_) (λB=>?_)
 .have D:0<L:=by have:=oT B;omega
  refine ρd ?_;refine dld (j.at (i:=2) rfl) ?_;refine ρd ?_;refine dld (j.at (i:=3) rfl) ?_;refine ρd ?_;refine ρ ?_;refine Jq ⟨?_,y⟩;congr 1
  grind
 have D:¬ 0<L:=by have:=oF B;omega
 refine ρd ?_;refine ρ ?_;refine Jq ⟨?_,y⟩;grind
end
open Go.RowKit Pl Go.Wk
variable {qi:Int}{j k q:Nat}
theorem Jzs: Qe Tryz.prog 102=some V0.val:=kr
section
variable {w:World} {g:Nat} {A:Option Addr} {d L p e:Nat} {f h:Nat->Nat} {st:Int} {rs:List Row}
theorem Qqw(hB:ItB w g A d L p e f h st)(hT:TriA w A d rs)(hL:0<L)(hLd:L<=d)(hd:d<=32)(hq:q<(lvl rs (L-1)).length)(hqi:qi=(q:Int)): Ret Tryz.prog 243 [.pointer (some ⟨g,0,none⟩),.int .i64 qi] w λu w'=>u=((lvl rs (L-1)).getD q V0).val/\Ext w w':=by
 subst hqi;obtain⟨vv,fv,fs,hR,hv,hf,hc⟩:=hT;have O:L-1<d:=om
 obtain⟨B,c,a1,a3⟩:=hv (L-1) O;refine Jz Tryz.func243 Tryz.ntmps243 rfl kr rfl ?_;refine ρ ?_;refine alc (cs:=V0.cells) Jzs ?_;intro w1 b Z hb a4;refine ρ ?_;refine drN (λ_=>False) 4 [(0,0),(0,1),(0,2),(0,3),(0,4),(0,5),(0,6),(0,7),(0,8),(0,9),(0,10),(0,11),(0,12),(0,13),(0,14),(0,15),(2,16)] kr ?_;have y:=Z.drew;have J:=hB.ext y;have G:=hR.ext y;have D:RdR _ B (lvl rs (L-1)):=Rd.ext a3 y;have a2:w1.drew.cell? ((adr A ((L-1)*2)).add 0)=some (vv (L-1)):=by rw[add_zero];exact G.cell (Gb d vv fv O).1
 refine ρn ?_;refine nld (Qy (J.at (i:=0) rfl) (λe=>e)) ?_;refine ρn ?_;refine nld (Qy (J.at (i:=1) rfl) (λe=>e)) ?_;refine ρn ?_;refine Ul 2 (L-1) G O ?_;refine ρn ?_;refine nld (Qy a2 (λe=>e)) ?_;rw[a1];refine ρn ?_;refine Ul 3 q D hq ?_;refine ρn ?_;refine Vu (cs:=((lvl rs (L-1)).getD q V0).cells) (λw' hg j u hu=>RdR.cell (Rd.ext D hg.toExt) hq hu) ?_;refine ρn ?_;refine Xu ?_;refine stb (cs':=((lvl rs (L-1)).getD q V0).cells) (a4.ext (Ext.refl w1).drew) ?_ (V.one _);intro w2 a5 hg2 U;refine ρ ?_;exact Vp a5 ⟨rfl,U w y hb⟩
theorem Jhg{v:V}(hB:ItB w g A d L p e f h st)(hT:Off (λk=>k=g) w (λu=>TriA u A d rs))(hL:0<L)(hLd:L<=d)(hd:d<=32)(hq:q<(lvl rs (L-1)).length)(hqi:qi=(q:Int)): Ret Tryz.prog 251 [.pointer (some ⟨g,0,none⟩),.int .i64 qi,v.val] w λu w'=>u=.bool (decide (cmpV ((lvl rs (L-1)).getD q V0) v<0))/\GrN (λk=>k=g) w w'/\∃ st',ItB w' g A d L p e f h st':=by
 refine Jz Tryz.func251 Tryz.ntmps251 rfl kr rfl ?_;refine ρ ?_;refine bx (cs:=v.cells) ?_;intro w1 b U hb a2;have B:=hB.ext U;refine ρ ?_;refine ld (B.at (i:=68) (Jhj _ _ _ _ _ _ _ _)) ?_;refine ρ ?_;have a3:w1.cell? ⟨g,0+68,none⟩=some (.int .i64 st):=by rw[B.cell];exact Jhj _ _ _ _ _ _ _ _
 refine sto a3 (B.frozen _) ?_;obtain⟨st',Z⟩:∃ st':Int,st'=IntKind.i64.wrap (st+1):=⟨_,rfl⟩;rw[<-Z];have G:=B.set (0+68) (.int .i64 st');rw[show(0:Nat)+68=68 from rfl,Qsh]at G;have hg2:GrN (λk=>k=g) w (w1.setCell ⟨g,68,none⟩ (.int .i64 st')):=(GrN.ext U).trans (GrN.set _ rfl);have a1:Blk (w1.setCell ⟨g,68,none⟩ (.int .i64 st')) b 102 v.cells:=a2.far (by simp only;have:=hB.lt;omega) _;refine ρ ?_;generalize hw2:w1.setCell ⟨g,68,none⟩ (.int .i64 st')=w2 at *
 refine dr [(0,0),(0,1),(0,3),(1,2),(1,4),(0,5),(0,6)] kr ?_;have y:Ext w2 w2.drew:=(Ext.refl w2).drew;refine ρd ?_;refine Qb (cs:=v.cells) (λj u hu=>(a1.ext y).at hu) ?_;refine ρd ?_;refine dcl (Qqw (G.ext y) (hT _ (hg2.trans (GrN.ext y))) hL hLd hd hq hqi) ?_;rintro u w3 ⟨rfl,O⟩;refine⟨O,?_⟩;refine ρd ?_;refine dcl (Jvp _ v _) ?_;rintro u w4 ⟨rfl,J⟩;refine⟨J,?_⟩;refine ρd ?_;refine ρ ?_;have D:=(y.trans O).trans J;exact Jq ⟨rfl,hg2.trans (GrN.ext D),st',G.ext D⟩
theorem Jhh(hB:ItB w g A d L p e f h st)(hT:TriA w A d rs)(hLd:L<=d)(hd:d<=32)(he:0<L->e<=(lvl rs (L-1)).length): Ret Tryz.prog 228 [.pointer (some ⟨g,0,none⟩)] w λu w'=>Ext w w'/\∃ v:V,u=.tuple #[v.val,.bool (decide (0<L/\p<e))]/\(0<L/\p<e->v=(lvl rs (L-1)).getD p V0):=by
 refine Jz Tryz.func228 Tryz.ntmps228 rfl kr rfl ?_;refine ρ ?_;refine alc (cs:=V0.cells) Jzs ?_;intro w1 b G hb O;refine ρ ?_;refine cl (Jxl (hB.ext G)) ?_;rintro u w2 ⟨rfl,D⟩;have j:=G.trans D;refine ρ ?_;refine ci (λh1=>?_) (λh1=>?_)
 .have J:¬ (0<L/\p<e):=by grind
  refine ρ ?_;refine bld (v:=V0.val) kr ?_;refine ρ ?_;refine stb (cs':=V0.cells) (O.ext D) ?_ (V.one _);intro w3 a2 a4 B;refine ρ ?_;refine Xh a2 ⟨B w j hb,V0,?_,λh'=>absurd h' J⟩;rw[decide_eq_false J];rfl
 have y:0<L/\p<e:=by grind
 have U:=hB.ext j;refine ρ ?_;refine ld (U.at (i:=2) rfl) ?_;refine ρ ?_;refine cl (Qqw (q:=p) (qi:=(p:Int)) U (hT.ext j) y.1 hLd hd (by have:=he y.1;omega) rfl) ?_;rintro u w3 ⟨rfl,B⟩;refine ρ ?_;refine stb (cs':=((lvl rs (L-1)).getD p V0).cells) ((O.ext D).ext B) ?_ (V.one _);intro w4 a1 a3 Z;refine ρ ?_;refine Xh a1 ⟨Z w (j.trans B) hb,_,?_,λ_=>rfl⟩;rw[decide_eq_true y];rfl
theorem Qsg(hB:ItB w g A d L p e f h st)(hL:0<L)(hp:p<e)(hpe:e<=1000000): Ret Tryz.prog 227 [.pointer (some ⟨g,0,none⟩)] w λu w'=>u=.bool (decide (p+1<e))/\GrN (λk=>k=g) w w'/\ItB w' g A d L (p+1) e f h st:=by
 refine Jz Tryz.func227 Tryz.ntmps227 rfl kr rfl ?_;refine ρ ?_;refine cl (Jxl hB) ?_;rintro u w1 ⟨rfl,B⟩;refine ρ ?_;refine cf ?_ ?_
 .simp[hL,hp]
 have j:=hB.ext B;refine ρ ?_;refine ld (j.at (i:=2) rfl) ?_;refine ρ ?_;refine sto (p:=⟨g,2,none⟩) (j.cell 2) (j.frozen _) ?_;have D:ItB (w1.setCell ⟨g,2,none⟩ (.int .i64 ((p:Int)+1))) g A d L (p+1) e f h st:=by
  have:=j.set 2 (.int .i64 ((p:Int)+1));exact this
 have hg2:GrN (λk=>k=g) w (w1.setCell ⟨g,2,none⟩ (.int .i64 ((p:Int)+1))):=(GrN.ext B).trans (GrN.set _ rfl);refine ρ ?_;refine cl (Jxl D) ?_;rintro u G ⟨rfl,y⟩;refine ρ ?_;refine Jq ⟨?_,hg2.trans (GrN.ext y),D.ext y⟩;grind
theorem Xvm(hB:ItB w g A d L p e f h st)(hk:k<32){u:Value}(hu:[Value.int .i64 (f k:Int),.int .i64 (h k:Int)][j]?=some u): w.cell? (((⟨g,0+4,none⟩:Addr).add (k*2)).add j)=some u:=by
 have i:=Qsk A d L p e f h st hk;rw[Zm,Zm,hB.cell];grind
theorem Qsb(hB:ItB w g A d (L+1) p e f h st)(hL:L<32): Ret Tryz.prog 229 [.pointer (some ⟨g,0,none⟩)] w λu w'=>GrN (λk=>k=g) w w'/\ItB w' g A d L (f L) (h L) f h st:=by
 refine Jz Tryz.func229 Tryz.ntmps229 rfl kr rfl ?_;refine ρ ?_;refine pnl ?_;refine ρ ?_;refine ld (hB.at (i:=1) rfl) ?_;refine ρ ?_;refine ld (hB.at (i:=1) rfl) ?_;refine ρ ?_;refine sto (p:=⟨g,1,none⟩) (hB.cell 1) (hB.frozen _) ?_;have Z:((L+1:Nat):Int)-1=(L:Int):=om
 rw[Z];have O:ItB (w.setCell ⟨g,1,none⟩ (.int .i64 (L:Int))) g A d L p e f h st:=hB.set 1 (.int .i64 (L:Int));have hg2:GrN (λk=>k=g) w (w.setCell ⟨g,1,none⟩ (.int .i64 (L:Int))):=GrN.set _ rfl;refine ρ ?_;generalize w.setCell ⟨g,1,none⟩ (.int .i64 (L:Int))=w2 at *
 refine drN (λ_=>False) 4 [(0,0),(0,1),(0,2),(0,3),(0,4),(0,5),(0,6),(0,7),(0,8),(0,9),(0,10),(0,11),(2,12)] kr ?_;have B:Ext w2 w2.drew:=(Ext.refl w2).drew;have y:=O.ext B;refine ρn ?_;refine nld (Qy (y.at (i:=1) rfl) (λe=>e)) ?_;refine ρn ?_;refine nixa L hL ?_;refine ρn ?_;refine Vu (cs:=[.int .i64 (f L:Int),.int .i64 (h L:Int)]) (λw' U j u D=>Xvm (Jr y U (λe=>e)) hL D) ?_;refine ρn ?_;refine Xu ?_;refine stB (o:=2) (us:=[.int .i64 (f L:Int),.int .i64 (h L:Int)]) y (by rw[Jbm];simp) (λu D=>by simp at D;rcases D with rfl|rfl<;>rfl) ?_;intro w4 J G;refine ρ ?_;exact Jq ⟨hg2.trans ((GrN.ext B).trans (GrN.by G λk e=>by injection e with e;exact e.symm)),J⟩
theorem Qsc(hB:ItB w g A d L p e f h st): Ret Tryz.prog 203 [.pointer (some ⟨g,0,none⟩)] w λu w'=>u=.int .i64 st/\w'=w:=by
 refine Jz Tryz.func203 Tryz.ntmps203 rfl kr rfl ?_;refine ρ ?_;refine pnl ?_;refine ρ ?_;refine ld (hB.at (i:=68) (Jhj _ _ _ _ _ _ _ _)) ?_;refine ρ ?_;exact Jq ⟨rfl,rfl⟩
theorem Xks(A:Option Addr)(d:Nat)(w:World): (Instr.build 319 #[(0,.agg #[.slice A d d])]).run Tryz.prog w=.ok (.agg (itC A d 0 0 0 (λ_=>0) (λ_=>0) 0).toArray) w:=kr
theorem Qcj(w:World): Ret Tryz.prog 201 [.agg #[.slice A d d]] w λu w'=>Ext w w'/\∃ g,u=.pointer (some ⟨g,0,none⟩)/\w.heap.size<=g/\ItB w' g A d 0 0 0 (λ_=>0) (λ_=>0) 0:=by
 refine Jz Tryz.func201 Tryz.ntmps201 rfl kr rfl ?_;refine ρ ?_;refine bx ?_;intro w1 b i J D;refine ρ ?_;refine ldW D ?_;refine ρ ?_;refine bld (Xks A d _) ?_;refine ρ ?_;refine bx (cs:=itC A d 0 0 0 (λ_=>0) (λ_=>0) 0) ?_;intro w2 G j y B;refine ρ ?_;exact Jq ⟨i.trans j,G,rfl,Nat.le_trans i.size y,B⟩
end
end Go.Proofs.YtebiphhfkdbpfaaGreatDoor
