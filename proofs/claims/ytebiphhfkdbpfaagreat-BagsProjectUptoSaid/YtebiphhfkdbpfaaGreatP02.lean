/- Part 2. -/
import Derived.Test.YtebiphhfkdbpfaaGreatP01
import Derived.Laws.CopyRow
set_option linter.unusedVariables false
set_option maxRecDepth 100000
set_option maxHeartbeats 40000000
namespace Go.Proofs.YtebiphhfkdbpfaaGreat
open Go.RowKit Pl Go.Wk
attribute [local irreducible] WC WL QX WD WDB WP
variable {ar z:Int}{c n:Nat}{A:Option Addr}{r:Row}{sv v:Value}{w:World}
def Xo(v:V): Bool:=if v.kind=1 then(v.bytes == []) else if v.kind=2 then decide (v.num=0) && decide (v.bytes.length<=24) else false
theorem Qxw(v:V): v.str.size=v.bytes.length:=(Array.length_toList (xs:=v.str.data)).symm
theorem Qxx(v:V): (v.str.toList == (⟨#[]⟩:ByteArray).toList)=(v.bytes == []):=by rw[ByteArray.toList_eq,ByteArray.toList_eq];rfl
theorem Qqd(v:V)(w:World): Ret Tryz.prog 118 [v.val] w λr w'=>r=.bool (Xo v)/\Ext w w':=by
 refine Jz Tryz.func118 Tryz.ntmps118 rfl kr rfl ?_;refine ρ ?_;refine bx (cs:=v.cells) ?_;intro w1 b j F u;refine ρ ?_;refine ld (u.at (i:=0) rfl) ?_;refine ρ ?_;refine ci (λh=>?_) (λh=>?_)
 .refine ρ ?_;refine ld (u.at (i:=2) rfl) ?_;refine ρ ?_;refine Jq ⟨?_,j⟩;rw[Xo,if_pos (Ud h),Qxx]
 refine ρ ?_;refine ci (λy=>?_) (λy=>?_)
 .refine ρ ?_;refine ld (u.at (i:=1) rfl) ?_;refine ρ ?_;refine ki 15 (λD=>?_) (λD=>?_)
  .refine ρ ?_;refine ld (u.at (i:=2) rfl) ?_;refine ρ ?_;refine Jq ⟨?_,j⟩;rw[Xo,if_neg (Vs h),if_pos (Ud y),decide_eq_true (Ud D),Qxw,Bool.true_and];congr 1
   grind
  refine ρ ?_;refine Jq ⟨?_,j⟩;rw[Xo,if_neg (Vs h),if_pos (Ud y),decide_eq_false (Vs D)];rfl
 refine ρ ?_;refine Jq ⟨?_,j⟩;rw[Xo,if_neg (Vs h),if_neg (Vs y)]
theorem Qkh(h:RowV w v r): Ret Tryz.prog 73 [v] w λu w'=>u=.bool (r.all Xo)/\Ext w w':=by
 obtain⟨A,c,rfl,Z,U,G⟩:=h;refine Jz Tryz.func73 Tryz.ntmps73 rfl kr rfl ?_;refine ρ ?_;refine Jh (fun (k:Nat)=>[(0,.slice A r.length c),(5,.int .i64 (r.length:Int)),(6,.int .i64 (k:Int))]) (λk w'=>Ext w w'/\k<=r.length/\(r.take k).all Xo=true) (λk=>r.length-k) 0 sB ⟨Ext.refl w,Nat.zero_le _,rfl⟩ ?_;rintro k w1 ⟨D,J,O⟩;refine ρ ?_;refine ci (λh=>?_) (λh=>?_)
 .have lk:k<r.length:=by have:=oT h;omega
  have y:=G.ext D;refine ρ ?_;refine ixq 3 k y lk ?_;refine ρ ?_;refine lds (λj u F=>RdR.cell y lk F) ?_;refine ρ ?_;refine cl (Qqd (r.getD k V0) _) ?_;rintro u w2 ⟨rfl,i⟩;refine ρ ?_;refine ci (λh=>?_) (λh=>?_)
  .refine ρ ?_;refine Jq ⟨?_,D.trans i⟩;grind
  refine ρ ?_;have h':Xo (r.getD k V0)=true:=by simpa using h
  refine Jg (k+1) sO ⟨D.trans i,om,?_⟩ om;grind [Xu,V0,lk]
 refine ρ ?_;refine Jq ⟨?_,D⟩;grind
def RelV(w:World)(v:Value)(ar:Nat)(ls:List Row): Prop:=∃ rv,v=.agg #[.int .i64 (ar:Int),rv]/\RowsV w rv ls
theorem RelV.ext{w w':World}{v:Value}{ar:Nat}{ls:List Row}(h:RelV w v ar ls)(hx:Ext w w'): RelV w' v ar ls:=by
 obtain⟨i,e,h⟩:=h;exact⟨i,e,h.ext hx⟩
theorem Yo: Qu Tryz.prog 35=some (.agg #[.int .i64 0,.slice none 0 0]):=kr
theorem Jwb(w:World): (Instr.build 35 #[]).run Tryz.prog w=.ok (.agg #[.int .i64 0,.slice none 0 0]) w:=kr
theorem Qmt(z:Int)(w:World): (Instr.build 35 #[(0,.int .i64 z)]).run Tryz.prog w=.ok (.agg #[.int .i64 z,.slice none 0 0]) w:=kr
theorem Qmr(z:Int)(A:Option Addr)(n c:Nat)(w:World): (Instr.build 35 #[(0,.int .i64 z),(1,.slice A n c)]).run Tryz.prog w=.ok (.agg #[.int .i64 z,.slice A n c]) w:=kr
theorem Vy: ∀ u∈[Value.int .i64 z,.slice A n c],u.oneCell'=true:=by
 intro u i;simp at i;rcases i with rfl|rfl<;>rfl
theorem Qkx(z:Int)(w:World): Ret Tryz.prog 44 [.int .i64 z] w λv w'=>Ext w w'/\∃ z' e,v=.tuple #[.agg #[.int .i64 z',.slice none 0 0],.int .i64 e]/\(e=0->z'=z)/\(e=0↔0<=z/\z<=32):=by
 refine Jz Tryz.func44 Tryz.ntmps44 rfl kr rfl ?_;refine ρ ?_;refine alc Yo ?_;intro w1 b u y D;refine ρ ?_;refine Km (fun (t:Bool)=>[(0,.int .i64 z),(2,.pointer (some ⟨b,0,none⟩)),(9,.bool t)]) (λt w'=>w'=w1/\(t=true↔¬ (0<=z/\z<=32))) ?_ ?_
 .refine ki 6 (λh=>?_) (λh=>?_)
  .refine ρ ?_;exact Jr true sB ⟨rfl,by grind⟩
  refine ρ ?_;refine Jr _ sB ⟨rfl,?_⟩;grind
 rintro t w' ⟨rfl,ht⟩;refine ci (λh=>?_) (λh=>?_)
 .refine ρ ?_;refine bld (Jwb _) ?_;refine ρ ?_;refine stb D ?_ Vy;intro w2 j _ i;refine ρ ?_;exact Zz j ⟨i w u y,0,3,rfl,λe=>(by cases e),⟨λe=>(by cases e),λe=>absurd e (ht.1 h)⟩⟩
 refine ρ ?_;refine bld (Qmt z _) ?_;refine ρ ?_;refine stb D ?_ (Vy (z:=z) (A:=none) (n:=0) (c:=0));intro w2 j _ i;refine ρ ?_;refine Zz j ⟨i w u y,z,0,rfl,λ_=>rfl,⟨λ_=>?_,λ_=>rfl⟩⟩;grind
theorem Qnt(hs:sv=.slice A n c)(h:RowV w v r): Ret Tryz.prog 45 [.agg #[.int .i64 ar,sv],v] w λu w'=>Ext w w'/\∃ e,u=.int .i64 e/\(e=0↔(r.length:Int)=ar/\r.all Xo=true):=by
 subst hs;obtain⟨B,c',rfl,D,Z,O⟩:=id h;refine Jz Tryz.func45 Tryz.ntmps45 rfl kr rfl ?_;refine ρ ?_;refine bx ?_;intro w1 b j U F;refine ρ ?_;refine ld (F.at (i:=0) rfl) ?_;refine ρ ?_;refine ci (λh=>?_) (λG=>?_)
 .refine ρ ?_;exact Jq ⟨j,6,rfl,⟨λe=>(by cases e),λe=>absurd e.1 (Jzl h)⟩⟩
 have J:=Jzm G;refine ρ ?_;refine cl (Qkh (h.ext j)) ?_;rintro u w2 ⟨rfl,y⟩;refine ρ ?_;refine ci (λh=>?_) (λD=>?_)
 .refine ρ ?_;refine Jq ⟨j.trans y,4,rfl,⟨λe=>(by cases e),λe=>?_⟩⟩;rw[e.2]at h;cases h
 refine ρ ?_;refine Jq ⟨j.trans y,0,rfl,⟨λ_=>⟨J,by simpa using D⟩,λ_=>rfl⟩⟩
open Go.RowKit Pl Go.Wk
variable {ps:List Pr}{ar base c n:Nat}{N:Nat->Prop}{A:Option Addr}{row:Option Nat}{v:Value}{w:World}
theorem RowX.off{r:Row}(h:RowX w N v r): Off N w (λu=>RowV u v r):=by
 obtain⟨A,c,G,F,D,y,j⟩:=h;intro w' i;refine⟨A,c,G,F,D,Zg y i λh0 J e=>j (λO=>?_) J e⟩;grind [Je]
theorem Jrw(h:∀ p∈ps,Off (one row) w (λu=>RowV u p.1 p.2)): CF w row 75 #[] #[] ps []:=λw' i p q y j=>
 Jgx (h p y w' (GrN.by i λk e=>e)) (h q j w' (GrN.by i λk e=>e))
theorem eqRow(h:∀ p∈ps,Off (one row) w (λu=>RowV u p.1 p.2)): EqF w row 78 #[] #[] ps:=λw' i p q y j=>
 Qkk (h p y w' (GrN.by i λk e=>e)) (h q j w' (GrN.by i λk e=>e))
theorem ownB(A:Option Addr)(n c m d:Nat): (Value.slice A n c).ownBlock=(Value.slice A m d).ownBlock:=by cases A<;>rfl
theorem Qkg(hD:Dat w base (.slice A n c) ps)(hn:ps.length=n)(hmx:n<=1100000)(hnc:n<=c)(hN:∀ k,(Value.slice A n c).ownBlock=some k->¬ N k)(hr:∀ p∈ps,Off N w (λu=>RowV u p.1 p.2)): Off N w (λu=>RowsV u (.slice A n c) (ps.map (·.2))):=by
 intro w' i;refine⟨ps,A,c,rfl,by rw[hn],om,om,?_,λp j=>hr p j w' i⟩;rw[hn];refine Zg (hD.rd hn) i λ_ y e=>?_;subst e;exact hN _ rfl
def RowsP(N:Nat->Prop)(w:World)(v:Value)(ls:List Row): Prop:=∃(ps:List Pr) (A:Option Addr) (c:Nat),ls=ps.map (·.2)/\v=.slice A ps.length c/\ps.length<=c/\ps.length<=1100000/\Off N w (λu=>Rd u 1 A ps.length (ps.map (·.1)))/\∀ p∈ps,Off N w (λu=>RowV u p.1 p.2)
theorem RowsP.off{ls:List Row}(h:RowsP N w v ls): Off N w (λu=>RowsV u v ls):=by
 obtain⟨ps,A,c,O,J,G,F,D,y⟩:=h;exactλu i=>⟨ps,A,c,O,J,G,F,D u i,λp j=>y p j u i⟩
theorem rowsP(hD:Dat w base (.slice A n c) ps)(hn:ps.length=n)(hmx:n<=1100000)(hnc:n<=c)(hN:∀ k,(Value.slice A n c).ownBlock=some k->¬ N k)(hr:∀ p∈ps,Off N w (λu=>RowV u p.1 p.2)): RowsP N w (.slice A n c) (ps.map (·.2)):=by
 refine⟨ps,A,c,rfl,by rw[hn],om,om,λw' i=>?_,hr⟩;rw[hn];refine Zg (hD.rd hn) i λ_ j e=>?_;subst e;exact hN _ rfl
theorem Jsf(hD:Dat w base (.slice A n c) ps)(hn:ps.length=n)(hmx:n<=1100000)(hnc:n<=c)(hr:∀ p∈ps,Off (one (Value.slice A n c).ownBlock) w (λu=>RowV u p.1 p.2)):
  Ret Tryz.prog 46 [.int .i64 (ar:Int),.slice A n c] w λv w'=>w.grownBy w' (Value.slice A n c).ownBlock/\∃ rv e,v=.tuple #[rv,.int .i64 e]/\(∃ z B m d,rv=.agg #[.int .i64 z,.slice B m d])/\(n<=65536->e=0) /\
   (e=0->∃ m,Off (λk=>k<w.heap.size/\(Value.slice A n c).ownBlock≠some k) w' (λu=>RelV u rv ar m)/\m.length<=65536/\(∀ x∈m,x∈ps.map (·.2))/\((n<=12∨Srt [] (ps.map (·.2)))->IsSet [] (ps.map (·.2)) m)):=by
 refine Jz Tryz.func46 Tryz.ntmps46 rfl kr rfl ?_;refine ρ ?_;refine alc Yo ?_;intro w1 b a2 hb hB;have au:=hD.ext a2;have aa:∀ p∈ps,Off (one (Value.slice A n c).ownBlock) w1 (λu=>RowV u p.1 p.2):=λp Z=>(hr p Z).ext a2;obtain⟨own,F⟩:∃ own,own=(Value.slice A n c).ownBlock:=⟨_,rfl⟩;have a6:∀ k,own=some k->k<w.heap.size:=λk e=>by
  obtain⟨_,_,_,_,hf⟩:=Jy hD.1;grind
 refine ρ ?_;refine cl (Qfc (au.rd hn) hn hmx (Jrw aa)) ?_;rintro v w2 ⟨a5,t,rfl,ht⟩;refine ρ ?_;refine Xg (fun (q:List Pr)=>[(0,.int .i64 (ar:Int)),(1,.slice A n c),(4,.pointer (some ⟨b,0,none⟩))]) (λq w'=>DP w1 w' base A n c ps q/\Blk w' b 35 [.int .i64 0,.slice none 0 0]/\((n<=12∨Srt [] (ps.map (·.2)))->Srt [] (q.map (·.2)))) ?_ ?_
 .have H2:=(DP.start au hn).ext a5;refine ci (λh=>?_) (λh=>?_)
  .have aw:¬ SOn z0 (fP []) ps 0 n:=by grind
   refine ρ ?_;refine cl (Qzf H2.d H2.l hmx ((Jrw aa).step H2)) ?_;rintro v w3 ⟨q,H3,hs⟩;refine ρ ?_;refine Jr q sB ⟨H2.after H3,(hB.ext a5).grown H3.g ((hB.ext a5).ne_own H2.d.1 rfl),λe=>?_⟩;rcases e with e|e
   .exact Jfq (by rw[H3.l];exact hs e)
   exfalso
   apply aw
   intro i j _ b8 hj;have e':=(List.pairwise_map.1 e);grind [List.pairwise_iff_getElem,fP,Ql,z0]
  have ax:t=true:=by simpa using h
  refine ρ ?_;exact Jr ps sB ⟨H2,hB.ext a5,λ_=>Jfq (by rw[hn];exact ht.1 ax)⟩
 rintro q w3 ⟨H3,av,ay⟩;have ai:∀ p∈q,Off (one (Value.slice A n c).ownBlock) w3 (λu=>RowV u p.1 p.2):=λp Z=>(aa p (H3.p.mem_iff.1 Z)).grown H3.g λk e=>e;refine ρ ?_;refine cl (Qht H3.d H3.l hmx hnc (eqRow ai)) ?_;rintro v w4 ⟨y,rfl,aq,ac,af,ab⟩;have b7:y.length<=n:=by
  have:=Jxb (q.map (·.2))
  rw[<-ac,List.length_map,List.length_map,H3.l]at this;exact this
 have ae:=av.grown ab (av.ne_own H3.d.1 rfl);have ah:∀ p∈y,Off (one own) w4 (λu=>RowV u p.1 p.2):=λp Z=>by rw[F];exact(ai p (af p Z)).grown ab λk e=>e
 have a3:w1.grownBy w4 own:=by rw[F];exact Xv H3.g ab
 have b2:((n<=12∨Srt [] (ps.map (·.2)))->IsSet [] (ps.map (·.2)) (y.map (·.2))):=λe=>by
  have h1:=Jrb (ay e);rw[<-ac]at h1;exact⟨h1.1,λx=>(h1.2 x).trans ((H3.p.map (·.2)).mem_iff)⟩
 generalize hm:y.length=m at *
 refine ρ ?_;refine ci (λh=>?_) (λh=>?_)
 .have b3:65536<m:=by have:=oT h;omega
  refine ρ ?_;refine bld (Jwb _) ?_;refine ρ ?_;refine stb ae ?_ Vy;intro w5 a4 D b5;refine ρ ?_;refine Zz a4 ⟨?_,_,11,rfl,⟨0,none,0,0,rfl⟩,λe=>(by omega),λe=>(by cases e)⟩;have g1:=Xv (Xc a2 own) a3;rw[<-F];exact⟨D.os.trans g1.os,D.tape.trans g1.tape,D.output.trans g1.output,Nat.le_trans g1.size D.size,λk hk hn=>(D.block k (nM hk g1.size) (λe=>by injection e with e;omega)).trans (g1.block k hk hn)⟩
 have b6:m<=65536:=by grind
 clear h;obtain⟨N',a7⟩:∃ N':Nat->Prop,N'=λk=>k<w1.heap.size∨own=some k:=⟨_,rfl⟩;have an:(Value.slice A m c).ownBlock=own:=by grind [ownB]
 refine ρ ?_;refine Qd (fun (k:Nat) (U:List Pr)=>[(0,.int .i64 (ar:Int)),(1,.slice A m c),(4,.pointer (some ⟨b,0,none⟩)),(19,.int .i64 (m:Int)),(20,.int .i64 (k:Int))])
  (λk U w'=>k<=m/\U.length=k/\U.map (·.2)=(y.take k).map (·.2)/\Dat w' base (.slice A m c) (U++y.drop k)/\(∀ p∈U,Off N' w' (λu=>RowV u p.1 p.2))/\(∀ p∈y,Off (one own) w' (λu=>RowV u p.1 p.2))/\Blk w' b 35 [.int .i64 0,.slice none 0 0]/\w1.grownBy w' own) (λk _=>m-k) 0 [] sB
  ⟨Nat.zero_le _,rfl,rfl,by simpa using aq,λp Z=>(by cases Z),ah,ae,a3⟩ ?_
 clear aq ah ae a3;rintro k U w5 ⟨hk,ak,aj,O,a8,ag,a4,D⟩;refine ρ ?_;have G:(U++y.drop k).length=m:=by simp;omega
 refine ci (λh=>?_) (λh=>?_)
 .have lk:k<m:=by have:=oT h;omega
  have ap:(U++y.drop k).getD k z0=y.getD k z0:=by grind
  have ao:y.getD k z0∈y:=Vz hm lk;refine ρ ?_;refine ix k (O.rd G) lk ?_;refine ρ ?_;refine ld (O.cell G lk) ?_;rw[ap];refine ρ ?_;refine cl (Jcd (ag _ ao).here N' (λj hj=>?_)) ?_
  .subst a7;rcases hj with h'|h'
   .exact nM h' D.size
   exact nM (a6 j h') (nL a2.size D.size)
  rintro v6 w6 ⟨a9,a1⟩;have ad:=O.ext a1;obtain⟨s1,s2,s3⟩:=ad.store G lk (p:=(v6,(y.getD k z0).2)) a9.v.one;refine ρ ?_;refine ix k (ad.rd G) lk ?_;refine ρ ?_;refine sto (ad.cell G lk) s1 ?_ (hv:=a9.v.one);refine ρ ?_;have e:(U++y.drop k).set k (v6,(y.getD k z0).2)=(U++[(v6,(y.getD k z0).2)])++y.drop (k+1):=by
   rw[List.set_append_right _ _ om,ak,Nat.sub_self,List.drop_eq_getElem_cons om,List.set_cons_zero,List.append_assoc];rfl
  rw[e]at s2;rw[an]at s3;refine Qy (k+1) (U++[(v6,(y.getD k z0).2)]) sO ⟨om,by simp[ak],?_,s2,λp Z=>?_,λp Z=>?_,?_,?_⟩ om
  .grind [Xu,z0]
  .rcases List.mem_append.1 Z with h'|h'
   .exact((a8 p h').ext a1).grown s3 (λk e=>by rw[a7];exact .inr e)
   rw[List.mem_singleton.1 h'];exact a9.off.grown s3 (λk e=>by rw[a7];exact .inr e)
  .exact((ag p Z).ext a1).grown s3 (λk e=>e)
  .have h7:=a4.ext a1;refine h7.grown s3 ?_;grind
  exact Xv D (Xv (Xc a1 _) s3)
 have e:k=m:=by have:=oF h;omega
 subst e;rw[List.drop_of_length_le om,List.append_nil]at O G;rw[List.take_of_length_le om]at aj;refine ρ ?_;refine bld (Qmr (ar:Int) A k c _) ?_;refine ρ ?_;refine stb a4 ?_ (Vy (z:=(ar:Int)) (A:=A) (n:=k) (c:=c));intro w7 b1 J b4;refine ρ ?_;have b9:N' b:=by rw[a7];exact .inl hB.lt
 have az:Dat w7 base (.slice A k c) U:=⟨O.1.kept J (.inr (λe=>a4.ne_own O.1 rfl e.symm)),O.2⟩;have am:=Qkg (N:=λj=>j<w.heap.size/\own≠some j) az G om om (λj ej hj=>hj.2 (by rw[<-ej,an])) (λp Z=>((a8 p Z).grown J (λj ej=>by grind)).mono λj _ hj=>by grind);refine Zz b1 ⟨?_,_,0,rfl,⟨_,_,_,_,rfl⟩,λ_=>rfl,λ_=>⟨U.map (·.2),?_,by rw[List.length_map];omega,?_,?_⟩⟩
 .have g1:=Xv (Xc a2 own) D;rw[<-F];exact⟨J.os.trans g1.os,J.tape.trans g1.tape,J.output.trans g1.output,Nat.le_trans g1.size J.size,λj hj hn=>(J.block j (nM hj g1.size) (λe=>by injection e with e;omega)).trans (g1.block j hj hn)⟩
 .rw[<-F];exact am.imp λu hu=>⟨_,rfl,hu⟩
 .intro x hx;rw[aj,ac]at hx;have:x∈q.map (·.2):=by grind
  exact(H3.p.map (·.2)).mem_iff.1 this
 repeat grind
open Go.RowKit Pl Go.Wk
variable {ar b c n:Nat}{a w w':World}
theorem Qmd(w:World): (Instr.buildSlice 33 0 #[]).run Tryz.prog w=.ok (.slice (some ⟨w.heap.size,0,none⟩) 0 0) (w.alloc (.cells [].toArray 73)):=kr
theorem Qls{A:Option Addr}{ps:List Pr}(hR:Rd w 1 A n (ps.map (·.1)))(hn:ps.length=n)(hmx:n<=1100000)(h1:∀ p∈ps,p.1.oneCell'=true):
  Ret Tryz.prog 47 [.slice A n c] w λv' w'=>Ext w w'/\∃ B d,v'=.slice B n d/\n<=d/\Dat w' w.heap.size (.slice B n d) ps:=by
 refine Jz Tryz.func47 Tryz.ntmps47 rfl kr rfl ?_;refine ρ ?_;refine snil ?_;refine ρ ?_;refine ci (λh=>?_) (λh=>?_)
 .have U:A=none:=by simpa using h
  subst U;have F:n=0:=by
   rcases Nat.eq_zero_or_pos n with h0|h0
   .exact h0
   obtain⟨ad,Z,_⟩:=hR.isome h0 om;cases Z
  subst F;obtain rfl:=List.eq_nil_of_length_eq_zero hn;refine ρ ?_;exact Jq ⟨Ext.refl w,none,0,rfl,Nat.le_refl _,⟨Xk _ _ _ _,λp O=>by cases O⟩⟩
 refine ρ ?_;refine bsl Qmd ?_;intro w1 b j J G;refine ρ ?_;refine apo j ER (G.own (n:=0) J rfl (Nat.zero_le _)) (hR.ext j) (λu hu=>by grind) (by unfold maxLen;omega) om ?_;intro v2 w2 i D _ _;obtain⟨A2,c2,rfl,y,hf⟩:=Jy i;refine ρ ?_;rw[Nat.zero_add]at i y ⊢;refine Jq ⟨D,A2,c2,rfl,y,⟨?_,h1⟩⟩;rw[hn];exact i
theorem Jbb(hx:Ext a w)(hg:w.grownBy w' (some b))(hb:a.heap.size<=b): Ext a w':=by grind [Js]
theorem Jhd{v:Value}{ls:List Row}(h:RowsV w v ls):
  Ret Tryz.prog 24 [.int .i64 (ar:Int),v] w λu w'=>Ext w w'/\∃ rv e,u=.tuple #[rv,.int .i64 e]/\(∃ z B m d,rv=.agg #[.int .i64 z,.slice B m d])/\(ar<=32->(∀ r∈ls,r.length=ar/\r.all Xo=true)->ls.length<=65536->e=0) /\
   (e=0->ar<=32/\(∀ r∈ls,r.length=ar/\r.all Xo=true)/\∃ m,Off (λk=>k<w.heap.size) w' (λu=>RelV u rv ar m)/\m.length<=65536/\(∀ x∈m,x∈ls)/\((ls.length<=12∨Srt [] ls)->IsSet [] ls m)):=by
 obtain⟨ps,A,c,rfl,rfl,b6,ag,hR,a1⟩:=h;generalize hn:ps.length=n at *
 have b4:∀ i,(ps.map (·.2)).getD i []=(ps.getD i z0).2:=λi=>Jzz
 have ae:∀ p∈ps,p.1.oneCell'=true:=λp hp=>(a1 p hp).one;refine Jz Tryz.func24 Tryz.ntmps24 rfl kr rfl ?_;refine ρ ?_;refine alc Yo ?_;intro w1 b aq hb hB;refine ρ ?_;refine cl (Qkx (ar:Int) w1) ?_;rintro v2 w2 ⟨ad,z',e2,rfl,ai,F⟩;refine ρ ?_;refine alc Yo ?_;intro w3 b3 ap ax b2;refine ρ ?_;refine stb b2 ?_ (Vy (z:=z') (A:=none) (n:=0) (c:=0));intro w4 b1 b8 ao;have a6:Ext w1 w4:=ao w1 (ad.trans ap) (nL ad.size ax);have J:=aq.trans a6;have ab:=hB.ext a6;refine ρ ?_;refine ci (λh=>?_) (λh=>?_)
 .have a7:=Jzl h;refine ρ ?_;refine bld (Jwb _) ?_;refine ρ ?_;refine stb ab ?_ Vy;intro w5 aa b7 U;refine ρ ?_;refine Zz aa ⟨U w J hb,_,e2,rfl,⟨0,none,0,0,rfl⟩,λh1 _ _=>F.2 om,λe=>absurd e a7⟩
 have hz:=Jzm h;subst hz;have ay:ar<=32:=by have:=F.1 rfl;omega
 have ak:=ai rfl;subst ak;clear h ai F;refine ρ ?_;refine Jh (fun (k:Nat)=>[(0,.int .i64 (ar:Int)),(1,.slice A n c),(4,.pointer (some ⟨b,0,none⟩)),(6,.pointer (some ⟨b3,0,none⟩)),(20,.int .i64 (n:Int)),(21,.int .i64 (k:Int))])
  (λk w'=>Ext w4 w'/\k<=n/\∀ i,i<k->(ps.getD i z0).2.length=ar/\(ps.getD i z0).2.all Xo=true) (λk=>n-k) 0 sB ⟨Ext.refl _,Nat.zero_le _,λi hi=>om⟩ ?_
 rintro k w5 ⟨U,hk,hI⟩;have y:=J.trans U;refine ρ ?_;refine ci (λh=>?_) (λh=>?_)
 .have lk:k<n:=by have:=oT h;omega
  clear h;refine ρ ?_;refine dr [(0,0),(0,1),(0,2),(0,3),(0,4),(1,5),(0,6)] kr ?_;have a5:=U.drew;have aa:=b1.ext a5;have aj:=hR.ext y.drew;refine ρd ?_;refine Qj (cs:=[.int .i64 (ar:Int),.slice none 0 0]) (λj u hu=>aa.at hu) ?_;refine ρd ?_;refine dix k aj lk ?_;refine ρd ?_;refine dld (Ko aj hn lk) ?_;refine ρd ?_;refine dcl (Qnt (A:=none) (n:=0) (c:=0) rfl ((a1 _ (Vz hn lk)).ext y.drew)) ?_;rintro u w6 ⟨O,e,rfl,F⟩;refine⟨O,?_⟩;refine ρd ?_;refine ρ ?_;have Z:=a5.trans O;refine ci (λh=>?_) (λh=>?_)
  .have a7:=Jzl h;refine ρ ?_;refine bld (Jwb _) ?_;refine ρ ?_;refine stb (ab.ext Z) ?_ Vy;intro w7 a9 a8 an;refine ρ ?_;refine Zz a9 ⟨an w (J.trans Z) hb,_,e,rfl,⟨0,none,0,0,rfl⟩,λ_ h2 _=>?_,λe=>absurd e a7⟩;grind
  have hz:=Jzm h;have b5:=F.1 hz;refine ρ ?_;refine Jg (k+1) sO ⟨Z,om,λi hi=>?_⟩ om;grind
 have e:k=n:=by have:=oF h;omega
 subst e;refine ρ ?_;refine cl (Qls (hR.ext y) hn ag ae) ?_;rintro u w6 ⟨O,D,d,rfl,hd,a3⟩;have G:=y.trans O;have a2:∀ j,(Value.slice D k d).ownBlock=some j->w5.heap.size<=j/\j<w6.heap.size:=by
  obtain⟨_,_,_,_,hf⟩:=Jy a3.1;grind
 have af:∀ p∈ps,Off (one (Value.slice D k d).ownBlock) w6 (λu=>RowV u p.1 p.2):=λp hp=>Off.old (a:=w) (λu hu=>(a1 p hp).ext hu) G (λj ej=>nL y.size (a2 j ej).1);refine ρ ?_;refine cl (Jsf (ar:=ar) a3 hn ag hd af) ?_;rintro u w7 ⟨a8,rv,e,rfl,⟨z,B,m,d',au⟩,ah,av⟩;have ac:Ext w w7:=Js G a8 (λj ej=>nL y.size (a2 j ej).1);have a4:=(ab.ext U).ext O;have a9:=a4.grown a8 (a4.ne_own a3.1 rfl);subst au;refine ρ ?_;refine stb a9 ?_ (Vy (z:=z) (A:=B) (n:=m) (c:=d'));intro w8 az aw am;refine ρ ?_;refine Zz az ⟨am w ac hb,_,e,rfl,⟨z,B,m,d',rfl⟩,λ_ _ h3=>ah (by grind),λe0=>⟨ay,λr hr=>?_,?_⟩⟩
 .grind [List.mem_map.1,List.getElem_of_mem,Ql,z0]
 obtain⟨ms,m1,m2,m3,m4⟩:=av e0;refine⟨ms,?_,m2,m3,λhc=>m4 (by grind)⟩;have b9:b<w6.heap.size/\(Value.slice D k d).ownBlock≠some b:=⟨a4.lt,λe=>a4.ne_own a3.1 rfl e.symm⟩;refine(m1.grown aw (λj ej=>by grind)).mono λj _ hj=>⟨nM hj G.size,λe=>?_⟩;have:=(a2 j e).1;have:=y.size;omega
open Go.RowKit Pl Go.Wk
variable {cs:List Nat}{ls:List Row}{ar i k:Nat}{v:Value}{w:World}
theorem Jvp: ∀(q:Row) (i:Nat) (x:V),i<q.length->Je (q.set i x)=(Je q).take (i*3)++x.cells++(Je q).drop (i*3+3)
 | [],i,x,h=>by simp at h
 | v::q,0,x,_=>by
  have e:Je (v::q)=v.cells++Je q:=by simp[Je]
  have e2:Je (x::q)=x.cells++Je q:=by simp[Je]
  rw[List.set_cons_zero,e,e2,Nat.zero_mul,List.take_zero,List.nil_append,Nat.zero_add];congr 1
 | v::q,i+1,x,h=>by
  have ih:=Jvp q i x (by simpa using h);have e:Je (v::q)=v.cells++Je q:=by simp[Je]
  have e2:Je (v::q.set i x)=v.cells++Je (q.set i x):=by simp[Je]
  have hl:v.cells.length=3:=rfl;rw[List.set_cons_succ,e,e2,ih];have e3:(v.cells++Je q).take ((i+1)*3)=v.cells++(Je q).take (i*3):=by grind [List.take_append,List.take_of_length_le]
  grind [Je,List.drop_append,List.drop_of_length_le,List.append_assoc]
theorem Jvn(n:Nat): (madeCells (Value.agg #[.int .i64 0,.int .i64 0,.string ⟨#[]⟩]).cells (n*3)).toList=Je (List.replicate n V0):=by
 apply List.ext_getElem?
 intro k;have j:(Value.agg #[.int .i64 0,.int .i64 0,.string ⟨#[]⟩]).cells = #[.int .i64 0,.int .i64 0,.string ⟨#[]⟩]:=rfl;rw[j];by_cases hk:k<n*3
 .have i:=Jvr (List.replicate n V0) (k / 3) (k % 3) (by simp;omega) om;rw[show k / 3*3+k % 3=k by omega]at i;rw[i];have e:(List.replicate n V0).getD (k / 3) V0=V0:=by grind
  rw[e];have u:k % 3<3:=om
  simp only[madeCells,Array.getElem?_toList,Array.getElem?_map,Array.getElem?_range,hk,if_true,Option.map_some];generalize k % 3=r at *
  have:r=0∨r=1∨r=2:=om
  rcases this with rfl|rfl|rfl<;>rfl
 rw[List.getElem?_eq_none (by simp[madeCells];omega),List.getElem?_eq_none (by grind [Qkm])]
def Jp(zs:List Int): List Value:=zs.map (Value.int .i64)
def IntsV(w:World)(v:Value)(zs:List Int): Prop:=∃ A c,v=.slice A zs.length c/\zs.length<=c/\zs.length<=1100000/\Rd w 1 A zs.length (Jp zs)
theorem IntsV.ext{w w':World}{v:Value}{zs:List Int}(h:IntsV w v zs)(hx:Ext w w'): IntsV w' v zs:=by obtain⟨A,c,y,u,j,i⟩:=h;exact⟨A,c,y,u,j,i.ext hx⟩
theorem Vd{zs:List Int}(h:i<zs.length): (Jp zs)[i]?=some (.int .i64 (zs.getD i 0)):=by simp[Jp,List.getD,List.getElem?_eq_getElem h]
def nz(cs:List Nat): List Int:=cs.map fun (c:Nat)=>(c:Int)
theorem Qn(h:i<cs.length): (Jp (nz cs))[i]?=some (.int .i64 (cs.getD i 0:Int)):=by simp[Jp,nz,List.getD,List.getElem?_eq_getElem h]
theorem Ju(cs:List Nat): (nz cs).length=cs.length:=by simp[nz]
def pmR(cs:List Nat)(r:Row): Row:=cs.map λc=>r.getD c V0
abbrev Vu(w:World)(base:Nat)(v:Value)(q:Row): Prop:=w.ownsRow base 75 3 v q.length (Je q)
theorem Zj(cs:List Nat)(r:Row): (pmR cs r).length=cs.length:=by simp[pmR]
theorem Jht{r:Row}(hk:k<cs.length): (pmR cs r).getD k V0=r.getD (cs.getD k 0) V0:=by grind [Ql,V0,pmR]
theorem Jqb(h:RelV w v ar ls): Ret Tryz.prog 11 [v] w λu w'=>u=.int .i64 (ls.length:Int)/\Ext w w':=by
 obtain⟨J,rfl,ps,A,c,rfl,rfl,F,D,U,y⟩:=h;refine Jz Tryz.func11 Tryz.ntmps11 rfl kr rfl ?_;refine ρ ?_;refine bx ?_;intro w1 b j O G;refine ρ ?_;refine ld (G.at (i:=1) rfl) ?_;refine ρ ?_;exact Jq ⟨by rw[List.length_map],j⟩
theorem Jqc(h:RelV w v ar ls): Ret Tryz.prog 31 [v] w λu w'=>u=.int .i64 (ar:Int)/\Ext w w':=by
 obtain⟨J,rfl,ps,A,c,rfl,rfl,F,D,U,y⟩:=h;refine Jz Tryz.func31 Tryz.ntmps31 rfl kr rfl ?_;refine ρ ?_;refine bx ?_;intro w1 b j O G;refine ρ ?_;refine ld (G.at (i:=0) rfl) ?_;refine ρ ?_;exact Jq ⟨rfl,j⟩
theorem Jvt(h:RelV w v ar ls): Ret Tryz.prog 26 [v] w λu w'=>Ext w w'/\RowsP (λk=>k<w.heap.size) w' u ls:=by
 obtain⟨rv,rfl,ps,A,c,rfl,rfl,af,ad,hR,a6⟩:=h;generalize hn:ps.length=n at *
 refine Jz Tryz.func26 Tryz.ntmps26 rfl kr rfl ?_;refine ρ ?_;refine bx ?_;intro w0 b U hb hB;refine ρ ?_;refine ld (hB.at (i:=1) rfl) ?_;refine ρ ?_;refine mkn ER n om (by unfold maxLen;omega) ?_;intro w1 O ac a8 hO;have a9:∀ k,(Value.slice O n n).ownBlock=some k->w0.heap.size<=k/\k<w1.heap.size:=by grind [Jy]
 have ae:Dat w1 w0.heap.size (.slice O n n) ([]++List.replicate n (.slice none 0 0,[])):=by
  refine⟨?_,λp J=>?_⟩
  .rw[List.nil_append,List.length_replicate,Pr.rep];have e:(madeCells (Value.slice none 0 0).cells (n*1)).toList=List.replicate n (.slice none 0 0):=by rw[Nat.mul_one];exact Yp _ _
   rw[e]at a8;exact a8
  rw[List.nil_append]at J;rw[(List.mem_replicate.1 J).2];rfl
 obtain⟨N,hN⟩:∃ N:Nat->Prop,N=λk=>k<w0.heap.size∨(Value.slice O n n).ownBlock=some k:=⟨_,rfl⟩;refine ρ ?_;refine Qd (fun (k:Nat) (D:List Pr)=>[(1,.pointer (some ⟨b,0,none⟩)),(3,.slice O n n),(10,.int .i64 (n:Int)),(11,.int .i64 (k:Int))])
  (λk D w2=>k<=n/\D.length=k/\D.map (·.2)=(ps.take k).map (·.2)/\Ext w0 w2/\w1.heap.size<=w2.heap.size/\Dat w2 w0.heap.size (.slice O n n) (D++List.replicate (n-k) (.slice none 0 0,[]))/\(∀ p∈D,Off N w2 (λu=>RowV u p.1 p.2))) (λk _=>n-k) 0 [] sB
  ⟨Nat.zero_le _,rfl,rfl,ac,Nat.le_refl _,ae,λp J=>(by cases J)⟩ ?_
 rintro k D w2 ⟨hk,a1,a7,G,a5,a4,aa⟩;have y:=U.trans G;refine ρ ?_;refine ci (λh=>?_) (λh=>?_)
 .have lk:k<n:=by have:=oT h;omega
  refine ρ ?_;refine ld ((hB.ext G).at (i:=1) rfl) ?_;refine ρ ?_;refine ix k (hR.ext y) lk ?_;refine ρ ?_;refine ld (Ko (hR.ext y) hn lk) ?_;refine ρ ?_;refine cl (Jcd ((a6 _ (Vz hn lk)).ext y) N (λj hj=>?_)) ?_
  .subst hN;rcases hj with h'|h'
   .exact nM h' G.size
   repeat grind
  rintro v3 w3 ⟨Z,F⟩;have a3:=a4.ext F;have a2:(D++List.replicate (n-k) ((.slice none 0 0,[]):Pr)).length=n:=by simp;omega
  obtain⟨s1,s2,s3⟩:=a3.store a2 lk (p:=(v3,(ps.getD k z0).2)) Z.v.one;refine ρ ?_;refine ix k (a3.rd a2) lk ?_;refine ρ ?_;refine sto (a3.cell a2 lk) s1 ?_ (hv:=Z.v.one);refine ρ ?_;have e:(D++List.replicate (n-k) ((.slice none 0 0,[]):Pr)).set k (v3,(ps.getD k z0).2)=(D++[(v3,(ps.getD k z0).2)])++List.replicate (n-(k+1)) (.slice none 0 0,[]):=by
   rw[show n-k=(n-(k+1))+1 by omega,List.replicate_succ,List.set_append_right _ _ om,a1,Nat.sub_self,List.set_cons_zero,List.append_assoc];rfl
  rw[e]at s2;have ab:∀ j,(Value.slice O n n).ownBlock=some j->N j:=λj ej=>by rw[hN];exact .inr ej
  refine Qy (k+1) (D++[(v3,(ps.getD k z0).2)]) sO ⟨om,by simp[a1],?_,Js (G.trans F) s3 (λj hj=>(a9 j hj).1),Nat.le_trans a5 (nL F.size s3.size),s2,λp J=>?_⟩ om
  .grind [Xu,z0]
  rcases List.mem_append.1 J with h'|h'
  .exact((aa p h').ext F).grown s3 ab
  rw[List.mem_singleton.1 h'];exact Z.off.grown s3 ab
 have e:k=n:=by have:=oF h;omega
 subst e;rw[Nat.sub_self,List.replicate_zero,List.append_nil]at a4;rw[List.take_of_length_le om]at a7;refine ρ ?_;refine Jq ⟨y,?_⟩;rw[<-a7];refine rowsP a4 a1 ad (nR _) (λj ej hj=>?_) λp J=>(aa p J).mono λj _ hj=>by rw[hN];exact .inl (nM hj U.size)
 have:=(a9 j ej).1;have:=U.size;omega
open Go.RowKit Pl Go.Wk
variable {cs:List Nat}{v vc:Value}{w:World}
theorem Qkj{r:Row}(h:RowV w v r)(hc:IntsV w vc (nz cs))(hlt:∀ c∈cs,c<r.length): Ret Tryz.prog 63 [v,vc] w λu w'=>Ext w w'/\∃ x,u=.tuple #[x,.int .i64 0]/\Off (λk=>k<w.heap.size) w' (λy=>RowV y x (pmR cs r)):=by
 obtain⟨A,ac,rfl,ag,af,a9⟩:=h;obtain⟨C,cc,rfl,ab,aa,G⟩:=hc;rw[Ju]at *;refine Jz Tryz.func63 Tryz.ntmps63 rfl kr rfl ?_;refine ρ ?_;refine Jh (fun (k:Nat)=>[(0,.slice A r.length ac),(1,.slice C cs.length cc),(10,.int .i64 (cs.length:Int)),(11,.int .i64 (k:Int))]) (λk w'=>w'=w/\k<=cs.length) (λk=>cs.length-k) 0 sB ⟨rfl,Nat.zero_le _⟩ ?_;rintro k w' ⟨rfl,hk⟩;refine ρ ?_;refine ci (λh=>?_) (λh=>?_)
 .have lk:k<cs.length:=by have:=oT h;omega
  have ae:=hlt _ (getD_mem' 0 cs lk);refine ρ ?_;refine ix k G lk ?_;refine ρ ?_;refine ld (G.cell (Qn lk)) ?_;refine ρ ?_;refine kf 19 ?_ ?_
  .grind
  refine ρ ?_;refine ix k G lk ?_;refine ρ ?_;refine ld (G.cell (Qn lk)) ?_;refine ρ ?_;refine cf ?_ ?_
  .grind
  refine ρ ?_;exact Jg (k+1) sO ⟨rfl,om⟩ om
 refine ρ ?_;refine mkn EV cs.length om (by unfold maxLen;omega) ?_;intro w4 O a4 a6 hO;rw[Jvn]at a6;have a2:Vu w4 w'.heap.size (.slice O cs.length cs.length) ([]++List.replicate cs.length V0):=by grind
 refine ρ ?_;refine Jh (fun (i:Nat)=>[(0,.slice A r.length ac),(1,.slice C cs.length cc),(7,.slice O cs.length cs.length),(33,.int .i64 (cs.length:Int)),(34,.int .i64 (i:Int))])
  (λi w5=>i<=cs.length/\Ext w' w5/\Vu w5 w'.heap.size (.slice O cs.length cs.length) ((pmR cs r).take i++List.replicate (cs.length-i) V0)) (λi=>cs.length-i) 0 sB
  ⟨Nat.zero_le _,a4,a2⟩ ?_
 rintro i w5 ⟨hi,J,D⟩;have F:((pmR cs r).take i++List.replicate (cs.length-i) V0).length=cs.length:=by simp[Zj];omega
 rw[Vu,F]at D;refine ρ ?_;refine ci (λh0=>?_) (λh0=>?_)
 .have li:i<cs.length:=by have:=oT h0;omega
  have U:=G.ext J;have Z:RdR w5 A r:=Rd.ext a9 J;have lc:=hlt _ (getD_mem' 0 cs li);refine ρ ?_;refine ix i U li ?_;refine ρ ?_;refine ld (U.cell (Qn li)) ?_;refine ρ ?_;refine ixq 3 (cs.getD i 0) Z lc ?_;refine ρ ?_;refine lds (λj u hu=>RdR.cell Z lc hu) ?_;refine ρ ?_;refine ixq 3 i (Rd.own D) li ?_;refine ρ ?_;refine stoE (cs:=(r.getD (cs.getD i 0) V0).cells) D li ?_ (V.one _);intro w6 a5 a8;have a3:Ext w' w6:=Js J a8 (λk hk=>by grind [Jy]);refine ρ ?_;refine Jg (i+1) sO ⟨om,a3,?_⟩ om;have e:((pmR cs r).take i++List.replicate (cs.length-i) V0).set i (r.getD (cs.getD i 0) V0)=(pmR cs r).take (i+1)++List.replicate (cs.length-(i+1)) V0:=by
   have hl:((pmR cs r).take i).length=i:=by simp[Zj];omega
   rw[List.set_append_right _ _ om,hl,Nat.sub_self,show cs.length-i=(cs.length-(i+1))+1 by omega,List.replicate_succ,List.set_cons_zero,List.take_succ_eq_append_getElem (by rw[Zj];omega),List.append_assoc];rw[<-Jht li,Ql V0 _ (by rw[Zj];omega)];rfl
  have a1:((pmR cs r).take (i+1)++List.replicate (cs.length-(i+1)) V0).length=cs.length:=by grind
  rw[Vu,a1,<-e,Jvp _ _ _ (by rw[F];omega)];exact a5
 have a7:i=cs.length:=by have:=oF h0;omega
 subst a7;rw[Nat.sub_self,List.replicate_zero,List.append_nil,List.take_of_length_le (by rw[Zj];omega)]at D;refine ρ ?_;refine Xq ⟨J,_,rfl,?_⟩;obtain⟨_,_,_,_,hf⟩:=Jy D;intro y hg;refine⟨O,cs.length,by rw[Zj],by rw[Zj];omega,by rw[Zj];omega,?_⟩;rw[RdR,Zj];refine Zg (Rd.own D) hg λ_ ad e=>?_;grind
theorem Jhc{ar:Nat}{ls:List Row}(h:RelV w v ar ls)(hc:IntsV w vc (nz cs))(hlen:∀ r∈ls,r.length=ar)(hlt:∀ c∈cs,c<ar)(h32:cs.length<=32)(hbig:ls.length<=65536):
  Ret Tryz.prog 32 [v,vc] w λu w'=>Ext w w'/\∃ rv,u=.tuple #[rv,.int .i64 0]/\(∃ z B m d,rv=.agg #[.int .i64 z,.slice B m d])/\∃ m,Off (λk=>k<w.heap.size) w' (λx=>RelV x rv cs.length m)/\m.length<=65536/\(∀ x∈m,x∈ls.map (pmR cs))/\((ls.length<=12∨Srt [] (ls.map (pmR cs)))->IsSet [] (ls.map (pmR cs)) m):=by
 obtain⟨rv,rfl,ps,A,c,rfl,rfl,bb,ay,hR,ag⟩:=h;obtain⟨C,cc,rfl,bd,bc,b4⟩:=id hc;generalize hn:ps.length=n at *
 rw[List.length_map,hn]at hbig;have a9:∀ p∈ps,p.2.length=ar:=by grind
 rw[Ju]at *;refine Jz Tryz.func32 Tryz.ntmps32 rfl kr rfl ?_;refine ρ ?_;refine bx ?_;intro w1 b1 U bf ba;refine ρ ?_;refine alc Yo ?_;intro w2 b2 ae b5 b9;have a4:=U.trans ae;have a6:=ba.ext ae;refine ρ ?_;refine cf ?_ ?_
 .grind
 refine ρ ?_;refine Jh (fun (k:Nat)=>[(1,.slice C cs.length cc),(2,.pointer (some ⟨b1,0,none⟩)),(4,.pointer (some ⟨b2,0,none⟩)),(14,.int .i64 (cs.length:Int)),(15,.int .i64 (k:Int))]) (λk w'=>Ext w2 w'/\k<=cs.length) (λk=>cs.length-k) 0 sB ⟨Ext.refl _,Nat.zero_le _⟩ ?_;rintro k w3 ⟨a2,hk⟩;refine ρ ?_;refine ci (λh=>?_) (λh=>?_)
 .have lk:k<cs.length:=by have:=oT h;omega
  have an:=hlt _ (getD_mem' 0 cs lk);clear h;refine ρ ?_;refine dr [(0,0),(0,1),(0,2),(0,3),(0,4),(0,5),(0,6),(0,7),(0,8),(0,9),(0,10),(0,11),(0,12),(0,13)] kr ?_;have a7:=a2.drew;have D:=b4.ext (a4.trans a7);refine ρd ?_;refine dix k D lk ?_;refine ρd ?_;refine dld (D.cell (Qn lk)) ?_;refine ρd ?_;refine dkf 23 ?_ ?_
  .grind
  refine ρd ?_;refine dix k D lk ?_;refine ρd ?_;refine dld (D.cell (Qn lk)) ?_;refine ρd ?_;refine dld ((a6.ext a7).at (i:=0) rfl) ?_;refine ρd ?_;refine ρ ?_;refine cf ?_ ?_
  .grind
  refine ρ ?_;exact Jg (k+1) sO ⟨a7,om⟩ om
 clear h hk;have G:=a4.trans a2;have a5:=a6.ext a2;refine ρ ?_;refine ld (a5.at (i:=1) rfl) ?_;refine ρ ?_;refine mkn ER n om (by unfold maxLen;omega) ?_;intro w4 O au aj hO;have ab:∀ k,(Value.slice O n n).ownBlock=some k->w3.heap.size<=k/\k<w4.heap.size:=by grind [Jy]
 have b6:Dat w4 w3.heap.size (.slice O n n) ([]++List.replicate n (.slice none 0 0,[])):=by
  refine⟨?_,λp hp=>?_⟩
  .rw[List.nil_append,List.length_replicate,Pr.rep];have e:(madeCells (Value.slice none 0 0).cells (n*1)).toList=List.replicate n (.slice none 0 0):=by rw[Nat.mul_one];exact Yp _ _
   rw[e]at aj;exact aj
  rw[List.nil_append]at hp;rw[(List.mem_replicate.1 hp).2];rfl
 obtain⟨N,hN⟩:∃ N:Nat->Prop,N=λk=>k<w3.heap.size∨(Value.slice O n n).ownBlock=some k:=⟨_,rfl⟩;refine ρ ?_;refine Qd (fun (k:Nat) (F:List Pr)=>[(1,.slice C cs.length cc),(2,.pointer (some ⟨b1,0,none⟩)),(4,.pointer (some ⟨b2,0,none⟩)),(7,.slice O n n),(39,.int .i64 (n:Int)),(40,.int .i64 (k:Int))])
  (λk F w5=>k<=n/\F.length=k/\F.map (·.2)=(ps.take k).map (λp=>pmR cs p.2)/\Ext w3 w5/\w4.heap.size<=w5.heap.size/\Dat w5 w3.heap.size (.slice O n n) (F++List.replicate (n-k) (.slice none 0 0,[]))/\(∀ p∈F,Off N w5 (λu=>RowV u p.1 p.2))) (λk _=>n-k) 0 [] sB
  ⟨Nat.zero_le _,rfl,rfl,au,Nat.le_refl _,b6,λp hp=>(by cases hp)⟩ ?_
 rintro k F w5 ⟨hk,a8,ai,J,af,Z,ao⟩;have y:=G.trans J;refine ρ ?_;refine ci (λh=>?_) (λh=>?_)
 .have lk:k<n:=by have:=oT h;omega
  have aw:(ps.getD k z0).2.length=ar:=a9 _ (Vz hn lk);refine ρ ?_;refine ld ((a5.ext J).at (i:=1) rfl) ?_;refine ρ ?_;refine ix k (hR.ext y) lk ?_;refine ρ ?_;refine ld (Ko (hR.ext y) hn lk) ?_;refine ρ ?_;refine cl (Qkj ((ag _ (Vz hn lk)).ext y) (hc.ext y) (λc an=>by rw[aw];exact hlt c an)) ?_;rintro u w6 ⟨a1,x,rfl,ah⟩;have ac:=Z.ext a1;have aa:(F++List.replicate (n-k) ((.slice none 0 0,[]):Pr)).length=n:=by simp;omega
  have U:x.oneCell'=true:=ah.here.one;obtain⟨s1,s2,s3⟩:=ac.store aa lk (p:=(x,pmR cs (ps.getD k z0).2)) U;refine ρ ?_;refine ix k (ac.rd aa) lk ?_;refine ρ ?_;refine sto (ac.cell aa lk) s1 ?_ (hv:=U);refine ρ ?_;have e:(F++List.replicate (n-k) ((.slice none 0 0,[]):Pr)).set k (x,pmR cs (ps.getD k z0).2)=(F++[(x,pmR cs (ps.getD k z0).2)])++List.replicate (n-(k+1)) (.slice none 0 0,[]):=by
   rw[show n-k=(n-(k+1))+1 by omega,List.replicate_succ,List.set_append_right _ _ om,a8,Nat.sub_self,List.set_cons_zero,List.append_assoc];rfl
  rw[e]at s2;have ap:∀ j,(Value.slice O n n).ownBlock=some j->N j:=λj ej=>by rw[hN];exact .inr ej
  refine Qy (k+1) (F++[(x,pmR cs (ps.getD k z0).2)]) sO ⟨om,by simp[a8],?_,Js (J.trans a1) s3 (λj hj=>(ab j hj).1),Nat.le_trans af (nL a1.size s3.size),s2,λp hp=>?_⟩ om
  .grind [Xu,z0]
  rcases List.mem_append.1 hp with h'|h'
  .exact((ao p h').ext a1).grown s3 ap
  rw[List.mem_singleton.1 h'];refine(ah.mono λj _ hj=>?_).grown s3 ap;rw[hN]at hj;rcases hj with h'|h'
  .exact nM h' J.size
  repeat grind
 have e:k=n:=by have:=oF h;omega
 subst e;rw[Nat.sub_self,List.replicate_zero,List.append_nil]at Z;rw[List.take_of_length_le om]at ai;have az:F.map (·.2)=(ps.map (·.2)).map (pmR cs):=by rw[ai,List.map_map];rfl
 refine ρ ?_;refine cl (Jsf (ar:=cs.length) Z a8 ay (nR _) (λp hp=>(ao p hp).mono λj _ hj=>by rw[hN];exact .inr hj)) ?_;rintro u w7 ⟨ak,rv,e,rfl,⟨z,B,m,d',av⟩,am,ax⟩;have he:=am hbig;subst he;have ad:Ext w w7:=Js y ak (λj ej=>nL G.size (ab j ej).1);have a3:=(b9.ext a2).ext J;have b8:=a3.grown ak (a3.ne_own Z.1 rfl);subst av;refine ρ ?_;refine stb b8 ?_ (Vy (z:=z) (A:=B) (n:=m) (c:=d'));intro w8 b7 b3 aq;refine ρ ?_;obtain⟨ms,m1,m2,m3,m4⟩:=ax rfl;rw[az]at m3 m4;refine Zz b7 ⟨aq w ad (nL U.size b5),_,rfl,⟨z,B,m,d',rfl⟩,ms,?_,m2,m3,λhc=>m4 (by grind)⟩;have be:b2<w5.heap.size/\(Value.slice O k k).ownBlock≠some b2:=⟨a3.lt,λe=>a3.ne_own Z.1 rfl e.symm⟩;refine(m1.grown b3 (λj ej=>by grind)).mono λj _ hj=>⟨nM hj y.size,λe=>?_⟩;have:=(ab j e).1;have:=G.size;omega
open Go.RowKit Pl Go.Wk
variable {t:Bool}{n:Int}{bs:List Bool}{c g i j:Nat}{A:Option Addr}{u v:Value}{w:World}
structure Atm where
 vars: List Int
 ar:Nat
 rows:List Row
abbrev V3:= Value×Value×Value
def V3.cells(t:V3): List Value:=[t.1,t.2.1,t.2.2]
def AtV(w:World)(t:V3)(a:Atm): Prop:=IntsV w t.1 a.vars/\t.2.1=.int .i64 (a.ar:Int)/\RowsV w t.2.2 a.rows
theorem AtV.ext{w w':World}{t:V3}{a:Atm}(h:AtV w t a)(hx:Ext w w'): AtV w' t a:=⟨h.1.ext hx,h.2.1,h.2.2.ext hx⟩
theorem AtV.rel{t:V3}{a:Atm}(h:AtV w t a): RelV w (.agg #[t.2.1,t.2.2]) a.ar a.rows:=⟨t.2.2,by rw[h.2.1],h.2.2⟩
theorem AtV.one{t:V3}{a:Atm}(h:AtV w t a): ∀ u∈t.cells,u.oneCell'=true:=by
 obtain⟨⟨A,c,D,_⟩,y,⟨ps,B,d,_,j,_⟩⟩:=h;intro u i;simp only[V3.cells,List.mem_cons,List.not_mem_nil,or_false]at i;rcases i with rfl|rfl|rfl
 .rw[D];rfl
 .rw[y];rfl
 rw[j];rfl
def v30: V3:=(undef,undef,undef)
def a0: Atm:=⟨[],0,[]⟩
abbrev TA:= V3×Atm
def ta0: TA:=(v30,a0)
def atC(ts:List TA): List Value:=ts.flatMap λp=>p.1.cells
theorem Jth: ∀(r:List TA) (i j:Nat),i<r.length->j<3->(atC r)[i*3+j]?=(r.getD i ta0).1.cells[j]?
 | [],i,j,h,_=>by simp at h
 | v::r,0,j,_,hj=>by
  simp only[atC,List.flatMap_cons,Nat.zero_mul,Nat.zero_add,List.getD_cons_zero];grind [List.getElem?_append_left,V3.cells]
 | v::r,i+1,j,h,hj=>by
  have ih:=Jth r i j (by simpa using h) hj;grind [atC,List.getD_cons_succ,List.getElem?_append_right,V3.cells]
def AtsV(w:World)(v:Value)(ats:List Atm): Prop:=∃(ts:List TA) (A:Option Addr) (c:Nat),ats=ts.map (·.2)/\v=.slice A ts.length c/\ts.length<=c/\ts.length<=1100000/\Rd w 3 A ts.length (atC ts)/\∀ p∈ts,AtV w p.1 p.2
theorem AtsV.ext{w w':World}{v:Value}{ats:List Atm}(h:AtsV w v ats)(hx:Ext w w'): AtsV w' v ats:=by
 obtain⟨i,A,c,J,G,F,D,y,u⟩:=h;exact⟨i,A,c,J,G,F,D,y.ext hx,λp j=>(u p j).ext hx⟩
theorem Jwd{n:Nat}{ts:List TA}(hR:Rd w 3 A n (atC ts))(hn:ts.length=n)(hi:i<n)(hu:(ts.getD i ta0).1.cells[j]?=some u): w.cell? ((adr A (i*3)).add j)=some u:=by
 have y:j<3:=by grind [List.getElem?_eq_some_iff.1,V3.cells]
 rw[Ky];exact hR.cell (by grind [Jth])
theorem Jwt{ts:List TA}{n:Nat}(hn:ts.length=n)(hi:i<n): ts.getD i ta0∈ts:=getD_mem' ta0 ts (hn.symm ▸ hi)
def Um(zs:List Int): Prop:=∀ j,0<j->j<zs.length->zs.getD (j-1) 0<zs.getD j 0
def Yf(n:Int)(a:Atm): Prop:=Um a.vars/\(∀ v∈a.vars,0<=v/\v<n)/\a.vars.length=a.ar
def Jxc(n:Int)(ats:List Atm): Prop:=0<=n/\n<=32/\ats.length<=32/\(∀ a∈ats,Yf n a)/\∀ v:Nat,(v:Int)<n->∃ a∈ats,(v:Int)∈a.vars
theorem Qfh(hR:RdB w A bs)(hm:bs.length<=1100000): Ret Tryz.prog 111 [.slice A bs.length c,.bool t] w λu w'=>w'=w/\∃ z,u=.int .i64 z/\(0<=z↔t∈bs):=by
 refine Jz Tryz.func111 Tryz.ntmps111 rfl kr rfl ?_;refine ρ ?_;refine Jh (fun (k:Nat)=>[(0,.slice A bs.length c),(1,.bool t),(7,.int .i64 (bs.length:Int)),(8,.int .i64 (k:Int))]) (λk w'=>w'=w/\k<=bs.length/\t ∉ bs.take k) (λk=>bs.length-k) 0 sB ⟨rfl,Nat.zero_le _,by simp⟩ ?_;rintro k w' ⟨rfl,i,j⟩;refine ρ ?_;refine ci (λh=>?_) (λh=>?_)
 .have lk:k<bs.length:=by have:=oT h;omega
  refine ρ ?_;refine ix k hR lk ?_;refine ρ ?_;refine ld (RdB.cell hR lk) ?_;refine eqb ?_;refine ρ ?_;refine ci (λh=>?_) (λh=>?_)
  .refine ρ ?_;refine Jq ⟨rfl,(k:Int),rfl,⟨λ_=>?_,λ_=>om⟩⟩;grind
  refine ρ ?_;refine Jg (k+1) sO ⟨rfl,om,?_⟩ om;grind [Xu,lk,List.mem_singleton]
 refine ρ ?_;refine Jq ⟨rfl,-1,rfl,⟨λe=>om,λe=>?_⟩⟩;grind
theorem Qhn(hR:RdB w A bs)(hm:bs.length<=1100000): Ret Tryz.prog 65 [.slice A bs.length c,.bool t] w λu w'=>w'=w/\∃ b:Bool,u=.bool b/\(b=true↔t∈bs):=by
 refine Jz Tryz.func65 Tryz.ntmps65 rfl kr rfl ?_;refine ρ ?_;refine cl (Qfh hR hm) ?_;rintro u w' ⟨rfl,z,rfl,i⟩;refine ρ ?_;exact Jq ⟨rfl,decide (0<=z),rfl,by grind⟩
theorem Blk.at2{t:TypeId}{cs:List Value}(h:Blk w g t cs)(hv:cs[i+j]?=some v): w.cell? ((⟨g,i,none⟩:Addr).add j)=some v:=by rw[Zt,h.cell];exact hv
theorem Zo: Qu Tryz.prog 37=some (.agg #[.slice none 0 0,.int .i64 0,.slice none 0 0]):=kr
abbrev Jjk(w:World)(base:Nat)(v:Value)(bs:List Bool): Prop:=w.ownsRow base 4 1 v bs.length (bs.map Value.bool)
theorem Qmb(h:i<bs.length): (bs.map Value.bool)[i]?=some (.bool (bs.getD i false)):=by grind
open Classical in
noncomputable def atE (n:Int) (a:Atm):Int:=if¬ Um a.vars then 16 else if¬ (∀ v∈a.vars,0<=v/\v<n) then 3 else if a.vars.length≠a.ar then 6 else 0
theorem atE_ok{a:Atm}: atE n a=0↔Yf n a:=by unfold atE Yf;grind
noncomputable def frE(n:Int): List Atm->Int
 | []=>0
 | a::r=>if atE n a=0 then frE n r else atE n a
open Classical in
noncomputable def lfE (n:Int) (ats:List Atm):Int:=if¬ (0<=n/\n<=32) then 3 else if 32<ats.length then 12 else if frE n ats=0 then(if ∀ v:Nat,(v:Int)<n->∃ a∈ats,(v:Int)∈a.vars then 0 else 22) else frE n ats
theorem Iu{n:Int}: ∀ {l:List Atm},(∀ a∈l,Yf n a)->frE n l=0
 | [],_=>rfl
 | a::r,h=>by rw[frE,if_pos (atE_ok.2 (h a mC))];exact Iu λb hb=>h b (List.mem_cons_of_mem _ hb)
theorem Jnv{n:Int}: ∀ {l:List Atm},frE n l=0->∀ a∈l,Yf n a
 | [],_,a,ha=>by cases ha
 | b::r,h,a,ha=>by
  rw[frE]at h;by_cases e:atE n b=0
  .rw[if_pos e]at h;rcases List.mem_cons.1 ha with rfl|ha
   .exact atE_ok.1 e
   exact Jnv h a ha
  rw[if_neg e]at h;exact absurd h e
theorem Jkm{n:Int}: ∀ {l:List Atm} {i:Nat},(∀ j,j<i->Yf n (l.getD j a0))->i<l.length->atE n (l.getD i a0)≠0->frE n l=atE n (l.getD i a0)
 | [],i,_,h,_=>by simp at h
 | a::r,0,_,_,h=>by rw[frE,if_neg (by simpa using h)];simp
 | a::r,i+1,h,hi,he=>by
  rw[frE,if_pos (atE_ok.2 (by simpa using h 0 om)),List.getD_cons_succ];exact Jkm (λj hj=>by have:=h (j+1) om;rwa [List.getD_cons_succ]at this) (by simpa using hi) (by rwa [List.getD_cons_succ]at he)
theorem Jxt(ts:List TA)(j:Nat): (ts.map (·.2)).getD j a0=(ts.getD j ta0).2:=by
 simp only[List.getD,List.getElem?_map];cases ts[j]?<;>rfl
theorem Qdf{ats:List Atm}: lfE n ats=0↔Jxc n ats:=by
 unfold lfE Jxc;refine⟨λh=>?_,λ⟨y,u,D,j,i⟩=>?_⟩
 .by_cases c1:0<=n/\n<=32
  .rw[if_neg (λh=>h c1)]at h;by_cases c2:32<ats.length
   .rw[if_pos c2]at h;cases h
   rw[if_neg c2]at h;by_cases c3:frE n ats=0
   .rw[if_pos c3]at h;by_cases c4:∀ v:Nat,(v:Int)<n->∃ a∈ats,(v:Int)∈a.vars
    .exact⟨c1.1,c1.2,om,Jnv c3,c4⟩
    rw[if_neg c4]at h;cases h
   rw[if_neg c3]at h;exact absurd h c3
  rw[if_pos c1]at h;cases h
 rw[if_neg (λh=>h ⟨y,u⟩),if_neg om,if_pos (Iu j),if_pos i]
theorem Qdg{ats:List Atm}(h:AtsV w v ats): Ret Tryz.prog 34 [.int .i64 n,v] w λu w'=>Ext w w'/\u=.int .i64 (lfE n ats):=by
 obtain⟨ts,A,c,rfl,rfl,bj,bi,hR,bo⟩:=h;generalize hm:ts.length=m at *
 refine Jz Tryz.func34 Tryz.ntmps34 rfl kr rfl ?_;refine ρ ?_;refine Km (fun (t:Bool)=>[(0,.int .i64 n),(1,.slice A m c),(16,.bool t)]) (λt w'=>w'=w/\(t=true↔¬ (0<=n/\n<=32))) ?_ ?_
 .refine ki 13 (λh=>?_) (λh=>?_)
  .refine ρ ?_;exact Jr true sB ⟨rfl,by grind⟩
  refine ρ ?_;refine Jr _ sB ⟨rfl,?_⟩;grind
 rintro t w' ⟨rfl,ht⟩;refine ci (λh=>?_) (λh=>?_)
 .refine ρ ?_;exact Jq ⟨Ext.refl _,congrArg _ (by rw[lfE,if_pos (ht.1 h)])⟩
 have hn:0<=n/\n<=32:=by grind
 obtain⟨ah,ax⟩:=hn;obtain⟨N,rfl⟩:=Int.eq_ofNat_of_zero_le ah;clear h ht;refine ρ ?_;refine ci (λh=>?_) (λh=>?_)
 .refine ρ ?_;have bd:32<(ts.map (·.2)).length:=by rw[List.length_map];have:=oT h;omega
  exact Jq ⟨Ext.refl _,congrArg _ (by rw[lfE,if_neg (λh=>h ⟨ah,ax⟩),if_pos bd])⟩
 have bf:m<=32:=by grind
 clear h;refine ρ ?_;refine mkn EB N om (by unfold maxLen;omega) ?_;intro w1 O b6 aw hO;have av:Jjk w1 w'.heap.size (.slice O N N) (List.replicate N false):=by
  rw[Jjk,List.length_replicate,List.map_replicate];have e:(madeCells (Value.bool false).cells (N*1)).toList=List.replicate N (Value.bool false):=by rw[Nat.mul_one];exact Yp _ _
  rw[e]at aw;exact aw
 refine ρ ?_;refine Qd (fun (i:Nat) (F:List Bool)=>[(0,.int .i64 (N:Int)),(5,.slice O N N),(22,.slice A m c),(23,.int .i64 (m:Int)),(24,.int .i64 (i:Int))])
  (λi F w2=>i<=m/\Ext w' w2/\F.length=N/\Jjk w2 w'.heap.size (.slice O N N) F/\(∀ j,j<i->Yf N (ts.getD j ta0).2)/\∀ v:Nat,v<N->(F.getD v false=true↔∃ j,j<i/\(v:Int)∈(ts.getD j ta0).2.vars)) (λi _=>m-i) 0 (List.replicate N false) sB
  ⟨Nat.zero_le _,b6,by simp,av,λj hj=>om,λv hv=>⟨λe=>by simp[List.getD,hv]at e,λ⟨j,hj,_⟩=>om⟩⟩ ?_
 rintro i F w2 ⟨hi,a9,J,ag,ap,a1⟩;refine ρ ?_;refine ci (λh=>?_) (λh=>?_)
 .have li:i<m:=by have:=oT h;omega
  have b1:=hR.ext a9;obtain⟨t1,t2,t3,a,hp⟩:∃ t1 t2 t3 a,ts.getD i ta0=((t1,t2,t3),a):=⟨_,_,_,_,rfl⟩;have ak:AtV w' (t1,t2,t3) a:=by grind
  have be:a∈ts.map (·.2):=by grind
  clear h;obtain⟨⟨D,d,e1,hd,bn,ay⟩,e2,af⟩:=id ak;simp only at e1 e2;subst e1;subst e2;obtain⟨ps,G,gc,_,ao,_⟩:=id af;simp only at ao;subst ao;refine ρ ?_;refine ixq 3 i b1 li ?_;refine ρ ?_;refine lds (cs:=[.slice D a.vars.length d,.int .i64 (a.ar:Int),.slice G ps.length gc]) (λj u hu=>Jwd b1 hm li (by rw[hp];exact hu)) ?_;refine ρ ?_;refine alc Zo ?_;intro w3 b b5 hb hB;refine ρ ?_;refine stb hB ?_ ak.one;intro w4 aj bm b4;have ab:Ext w2 w4:=b4 w2 b5 hb;have a3:=a9.trans ab;have au:=Jc ag ab;have ai:∀ z:Int,z≠0->atE N a=z->Value.int .i64 z=.int .i64 (lfE N (ts.map (·.2))):=λz hz e=>by
   have h1:frE N (ts.map (·.2))=z:=by
    have:=Jkm (n:=(N:Int)) (l:=ts.map (·.2)) (i:=i) (λj hj=>by rw[Jxt];exact ap j hj) (by rw[List.length_map];omega) (by rw[Jxt,hp,e];exact hz)
    rw[this,Jxt,hp,e]
   rw[lfE,if_neg (λh=>h ⟨ah,ax⟩),if_neg (by rw[List.length_map];omega),if_neg (by rw[h1];exact hz),h1]
  refine ρ ?_;refine Jh (fun (k:Nat)=>[(0,.int .i64 (N:Int)),(5,.slice O N N),(22,.slice A m c),(23,.int .i64 (m:Int)),(24,.int .i64 (i:Int)),(7,.pointer (some ⟨b,0,none⟩)),(8,.int .i64 (k:Int))])
   (λk w5=>Ext w4 w5/\1<=k/\(k<=a.vars.length∨k=1)/\∀ j,0<j->j<k->a.vars.getD (j-1) 0<a.vars.getD j 0) (λk=>a.vars.length-k) 1 sB ⟨Ext.refl _,Nat.le_refl _,.inr rfl,λj h1 h2=>om⟩ ?_
  rintro k w5 ⟨a8,b9,b8,ad⟩;have aa:=aj.ext a8;refine ρ ?_;refine ld (aa.at (i:=0) rfl) ?_;refine ρ ?_;refine ci (λh=>?_) (λh=>?_)
  .have lk:k<a.vars.length:=by have:=oT h;omega
   have am:k-1<a.vars.length:=om
   clear h;refine ρ ?_;refine dr [(0,0),(0,1),(0,2),(0,3),(0,4),(0,5),(0,6),(0,7),(0,8),(0,9),(0,10),(0,11)] kr ?_;have Z:=a8.drew;have a2:=aj.ext Z;have y:=ay.ext (a3.trans Z);refine ρd ?_;refine dld (a2.at (i:=0) rfl) ?_;refine ρd ?_;refine dix (k-1) y am ?_;refine ρd ?_;refine dld (y.cell (Vd am)) ?_;refine ρd ?_;refine dld (a2.at (i:=0) rfl) ?_;refine ρd ?_;refine dix k y lk ?_;refine ρd ?_;refine dld (y.cell (Vd lk)) ?_;refine ρd ?_;refine ρ ?_;refine ci (λh=>?_) (λh=>?_)
   .refine ρ ?_;refine Jq ⟨a3.trans Z,ai 16 (by decide) ?_⟩;rw[atE,if_pos];intro h1;have:=h1 k om lk;grind
   refine ρ ?_;refine Jg (k+1) sO ⟨Z,om,om,λj h1 h2=>?_⟩ om;grind
  have U:Um a.vars:=λj h1 h2=>ad j h1 (by grind);clear h ad b9 b8;have an:=a3.trans a8;have aq:=Jc au a8;refine ρ ?_;refine ld (aa.at (i:=0) rfl) ?_;refine ρ ?_;refine Qd (fun (q:Nat) (F:List Bool)=>[(0,.int .i64 (N:Int)),(5,.slice O N N),(22,.slice A m c),(23,.int .i64 (m:Int)),(24,.int .i64 (i:Int)),(7,.pointer (some ⟨b,0,none⟩)),(48,.slice D a.vars.length d),(49,.int .i64 (a.vars.length:Int)),(50,.int .i64 (q:Int))])
   (λq F w6=>q<=a.vars.length/\Ext w' w6/\F.length=N/\Jjk w6 w'.heap.size (.slice O N N) F/\Blk w6 b 37 [.slice D a.vars.length d,.int .i64 (a.ar:Int),.slice G ps.length gc]/\(∀ j,j<q->0<=a.vars.getD j 0/\a.vars.getD j 0<N)/\∀ v:Nat,v<N->(F.getD v false=true↔(∃ j,j<i/\(v:Int)∈(ts.getD j ta0).2.vars)∨∃ j,j<q/\a.vars.getD j 0=(v:Int))) (λq _=>a.vars.length-q) 0 F sB
   ⟨Nat.zero_le _,an,J,aq,aa,λj hj=>om,λv hv=>⟨λe=>.inl ((a1 v hv).1 e),λe=>(a1 v hv).2 (e.elim id λ⟨j,hj,_⟩=>om)⟩⟩ ?_
  clear ag au aq aa aj a1 J;rintro q F w6 ⟨hq,a7,J,a5,a2,bl,a1⟩;refine ρ ?_;refine ci (λh=>?_) (λh=>?_)
  .have lq:q<a.vars.length:=by have:=oT h;omega
   have y:=ay.ext a7;have b7:a.vars.getD q 0∈a.vars:=getD_mem' 0 _ lq;clear h;refine ρ ?_;refine ix q y lq ?_;refine ρ ?_;refine ld (y.cell (Vd lq)) ?_;refine ρ ?_;generalize hz:a.vars.getD q 0=z at *
   refine Km (fun (t:Bool)=>[(0,.int .i64 (N:Int)),(5,.slice O N N),(22,.slice A m c),(23,.int .i64 (m:Int)),(24,.int .i64 (i:Int)),(7,.pointer (some ⟨b,0,none⟩)),(48,.slice D a.vars.length d),(49,.int .i64 (a.vars.length:Int)),(50,.int .i64 (q:Int)),(10,.int .i64 z),(60,.bool t)]) (λt w7=>w7=w6/\(t=true↔¬ (0<=z/\z<N))) ?_ ?_
   .refine ki 56 (λh=>?_) (λh=>?_)
    .refine ρ ?_;exact Jr true sB ⟨rfl,by grind⟩
    refine ρ ?_;refine Jr _ sB ⟨rfl,?_⟩;grind
   rintro t w7 ⟨rfl,ht⟩;refine ci (λh=>?_) (λh=>?_)
   .refine ρ ?_;exact Jq ⟨a7,ai 3 (by decide) (by rw[atE,if_neg (λh=>h U),if_pos (λh1=>ht.1 h (h1 z b7))])⟩
   have b3:0<=z/\z<N:=by grind
   obtain⟨x,rfl⟩:=Int.eq_ofNat_of_zero_le b3.1;have lx:x<N:=om
   rw[Jjk,J]at a5;obtain⟨s1,s2,s3,s4,s5⟩:=Zl a5 (q:=x) om (.bool true);refine ρ ?_;refine ix x (Rd.own a5) lx ?_;refine ρ ?_;refine sto (s1.trans (Qmb om)) s2 ?_;refine ρ ?_;refine Qy (q+1) (F.set x true) sO ⟨om,Js a7 s5 (λk hk=>by grind [Jy]),by simpa using J,?_,a2.grown s5 (a2.ne_own a5 rfl),λj hj=>?_,λv hv=>?_⟩ om
   .rw[Jjk,List.length_set,J,List.map_set];exact s3
   repeat grind
  have eq:q=a.vars.length:=by have:=oF h;omega
  clear h;have ac:∀ v∈a.vars,0<=v/\v<N:=λv hv=>by grind [List.getElem_of_mem,Ql]
  refine ρ ?_;refine dr [(0,0),(0,1),(0,2),(0,3),(0,4),(1,5),(0,6)] kr ?_;have a4:=a7.drew;have b2:=a2.ext (Ext.refl w6).drew;have bc:=ak.ext a4;refine ρd ?_;refine dld (b2.at (i:=0) rfl) ?_;refine ρd ?_;refine Qj (cs:=[.int .i64 (a.ar:Int),.slice G ps.length gc]) (λj u hu=>Blk.at2 b2 (i:=0+1) (by grind)) ?_;refine ρd ?_;refine dcl (Jqc bc.rel) ?_;rintro u w8 ⟨rfl,a6⟩;refine⟨a6,?_⟩;refine ρd ?_;refine ρ ?_;refine ci (λh=>?_) (λh=>?_)
  .refine ρ ?_;refine Jq ⟨a4.trans a6,ai 6 (by decide) ?_⟩;rw[atE,if_neg (λh=>h U),if_neg (λh=>h ac),if_pos];have:=Jzl h;omega
  refine ρ ?_;have ba:a.vars.length=a.ar:=by have:=Jzm h;omega
  refine Qy (i+1) F sO ⟨om,a4.trans a6,J,Jc (Jc a5 (Ext.refl w6).drew) a6,λj hj=>?_,λv hv=>?_⟩ om
  .by_cases ej:j=i
   .subst ej;rw[hp];exact⟨U,ac,ba⟩
   exact ap j om
  repeat grind [getD_mem',List.getElem_of_mem,Ql]
 have ei:i=m:=by have:=oF h;omega
 clear h;subst J;have bb:RdB w2 O F:=Rd.own ag;have ae:∀ a∈ts.map (·.2),Yf F.length a:=λa ha=>by grind [List.mem_map.1,List.getElem_of_mem,Ql,ta0]
 refine ρ ?_;refine cl (Qhn bb om) ?_;rintro u w3 ⟨rfl,t,rfl,ht⟩;refine ρ ?_;refine ci (λh=>?_) (λh=>?_)
 .refine ρ ?_;refine Jq ⟨a9,congrArg _ ?_⟩;rw[lfE,if_neg (λh=>h ⟨om,om⟩),if_neg (by rw[List.length_map];omega),if_pos (Iu ae),if_neg];intro az;obtain⟨x,hx,ex⟩:=List.getElem_of_mem (ht.1 h);obtain⟨a,ha,bg⟩:=az x om;grind [List.mem_map.1,List.getElem_of_mem,Ql,ta0]
 refine ρ ?_;refine Jq ⟨a9,congrArg _ ?_⟩;rw[lfE,if_neg (λh=>h ⟨om,om⟩),if_neg (by rw[List.length_map];omega),if_pos (Iu ae),if_pos];intro v hv;have bh:v<F.length:=om
 grind
theorem Jmx{ats:List Atm}(h:AtsV w v ats): Ret Tryz.prog 34 [.int .i64 n,v] w λu w'=>Ext w w'/\∃ e,u=.int .i64 e/\(e=0↔Jxc n ats):=(Qdg h).mono λu w' h=>⟨h.1,_,h.2,Qdf⟩
open Go.RowKit Pl Go.Wk
structure Inp where
 n: Int
 free:Int
 desc:List Bool
 perm:List Int
 ats:List Atm
def InC(w:World)(i:Inp)(cs:List Value): Prop:=∃ vd vp va,cs=[.int .i64 i.n,.int .i64 i.free,vd,vp,va]/\BoolsV w vd i.desc/\IntsV w vp i.perm/\AtsV w va i.ats
theorem InC.ext{w w':World}{i:Inp}{cs:List Value}(h:InC w i cs)(hx:Ext w w'): InC w' i cs:=by
 obtain⟨u,j,y,e,G,F,D⟩:=h;exact⟨u,j,y,e,G.ext hx,F.ext hx,D.ext hx⟩
def InV(w:World)(v:Value)(i:Inp): Prop:=∃ cs,v=.agg cs.toArray/\InC w i cs
theorem InV.ext{w w':World}{v:Value}{i:Inp}(h:InV w v i)(hx:Ext w w'): InV w' v i:=by
 obtain⟨cs,e,h⟩:=h;exact⟨cs,e,h.ext hx⟩
end Go.Proofs.YtebiphhfkdbpfaaGreat
namespace Go.Proofs.YtebiphhfkdbpfaaGreat
open Pl
variable {f:List Nat}{rs:List Row}{d i j l:Nat}{q x:Row}
def pfx(rs:List Row)(l:Nat): List Row:=ddF (rs.map (List.take l))
theorem Jhx(rs:List Row)(x:Row)(l:Nat): pfx (rs++[x]) l=ddS (pfx rs l) (x.take l):=by
 unfold pfx;rw[List.map_append,List.map_cons,List.map_nil,Jbv]
theorem Jrn: ∀(a b:Row) (l:Nat),Jw a b []<=0->Jw (a.take l) (b.take l) []<=0
 | _,_,0,_=>by simp[Jw]
 | [],[],_+1,_=>by simp[Jw]
 | [],_::_,_+1,_=>by simp[Jw]
 | _::_,[],_+1,h=>by simp[Jw]at h
 | x::a,y::b,l+1,h=>by
  simp only[List.take_succ_cons,Jw,List.drop_nil]at h ⊢;by_cases e:cmpV x y=0
  .rw[if_pos e]at h ⊢;exact Jrn a b l h
  repeat grind
theorem Qzd(h:Srt [] rs)(l:Nat): Srt [] (rs.map (List.take l)):=by grind [Srt,Jrn]
theorem Yr(h:Lt [] rs): Srt [] rs:=h.imp λi=>by omega
theorem Jqf(h:Srt [] rs)(l:Nat): IsSet [] (rs.map (List.take l)) (pfx rs l):=Jrb (Qzd h l)
theorem Jqg(h:Srt [] rs): q∈pfx rs l↔∃ r∈rs,r.take l=q:=by
 rw[(Jqf h l).2,List.mem_map]
theorem Qvt(h:Lt [] rs)(hl:∀ r∈rs,r.length=d): pfx rs d=rs:=by
 have e:rs.map (List.take d)=rs:=by
  conv=>rhs;rw[<-List.map_id rs]
  exact List.map_congr_left λr j=>by grind
 have i:=Jqf (Yr h) d;rw[e]at i;exact Ux i.1 h i.2
theorem Jhz: (pfx (rs++[x]) l).getLast?=some (x.take l):=by grind [Jhx,Jpx]
def shr: Row->Row->Nat
 | a::x,b::y=>if a=b then shr x y+1 else 0
 | _,_=>0
theorem Jvb(y:Row): shr [] y=0:=by cases y<;>rfl
theorem Jfx: ∀ x y:Row,shr x y<=x.length/\shr x y<=y.length
 | [],y=>by rw[Jvb];simp
 | _::_,[]=>by simp[shr]
 | a::x,b::y=>by
  have:=Jfx x y;simp only[shr,List.length_cons];split<;>omega
theorem Jfw: ∀(x y:Row) (l:Nat),x.length=y.length->(x.take l=y.take l↔l<=shr x y∨x=y)
 | [],[],l,_=>by simp
 | [],_::_,_,h=>by simp at h
 | _::_,[],_,h=>by simp at h
 | a::x,b::y,0,_=>by simp
 | a::x,b::y,l+1,h=>by
  have ih:=Jfw x y l (by simpa using h);grind [List.cons.injEq,shr]
def lvl(rs:List Row)(l:Nat): Row:=(pfx rs (l+1)).map λq=>q.getD l V0
theorem Im(rs:List Row)(l:Nat): (lvl rs l).length=(pfx rs (l+1)).length:=by simp[lvl]
theorem Qcn(h:i<(pfx rs (l+1)).length): (lvl rs l).getD i V0=((pfx rs (l+1)).getD i []).getD l V0:=by grind [Ql,V0,Im,lvl]
def Fst(rs:List Row)(l:Nat)(f:List Nat): Prop:=f.length=(pfx rs (l+1)).length/\(∀ j,j<f.length->f.getD j 0<=(pfx rs (l+2)).length) /\
 ∀ j i,j<f.length->i<(pfx rs (l+2)).length->(((pfx rs (l+2)).getD i []).take (l+1)=(pfx rs (l+1)).getD j []↔f.getD j 0<=i/\(j+1<f.length->i<f.getD (j+1) 0))
def stp(rs:List Row)(x:Row): Nat:=match rs.getLast? with
 | some y=>shr y x
 | none=>0
theorem Gs(h:Lt [] (rs++[x]))(hl:∀ r∈rs++[x],r.length=d)(h0:0<l): pfx (rs++[x]) l=if l<=stp rs x then pfx rs l else pfx rs l++[x.take l]:=by
 rw[Jhx];rcases List.eq_nil_or_concat rs with rfl|⟨r,y,rfl⟩
 .rw[if_neg (by simp[stp];omega)];rfl
 rw[List.concat_eq_append]at *;have j:(r++[y]).getLast?=some y:=by simp
 have i:Jw y x []<0:=(List.pairwise_append.1 h).2.2 y (by simp) x (by simp);grind [Yc,stp,shr,ddS,Jhz,Jfw]
theorem Qvr(h:Lt [] (rs++[x]))(hl:∀ r∈rs++[x],r.length=d)(h0:0<l)(hs:stp rs x<l): x.take l ∉ pfx rs l:=by
 have e:=Gs h hl h0;rw[if_neg om]at e;have i:=(Jqf (Yr h) l).1;rw[e]at i;intro j;have:=(List.pairwise_append.1 i).2.2 _ j (x.take l) (by simp);grind [Yc]
theorem Qcs{l:List Row}(h:Lt [] l)(hi:i<l.length)(hj:j<l.length)(e:l.getD i []=l.getD j []): i=j:=by
 rcases Nat.lt_trichotomy i j with h'|h'|h'
 .have:=h.at h' hj;rw[e,Yc]at this;omega
 .exact h'
 have:=h.at h' hi;rw[e,Yc]at this;omega
theorem Jnt{α:Type}(z:α)(l:List α)(x:α)(k:Nat): (l++[x]).getD k z=if k<l.length then l.getD k z else if k=l.length then x else z:=by grind
theorem take_take'(q:Row)(l:Nat): (q.take (l+2)).take (l+1)=q.take (l+1):=by grind
theorem Qvq(h:Srt [] rs)(hi:i<(pfx rs (l+2)).length): ((pfx rs (l+2)).getD i []).take (l+1)∈pfx rs (l+1):=by grind [Jqg,getD_mem',take_take']
theorem Fst.keep(hF:Fst rs l f)(h:Lt [] (rs++[x]))(hl:∀ r∈rs++[x],r.length=d)(hs:l+1<=stp rs x): Fst (rs++[x]) l f:=by
 obtain⟨J,Z,U⟩:=hF;have O:pfx (rs++[x]) (l+1)=pfx rs (l+1):=by rw[Gs h hl om,if_pos hs]
 have u:Lt [] rs:=(List.pairwise_append.1 h).1;have y:0<(pfx rs (l+1)).length/\(pfx rs (l+1)).getD ((pfx rs (l+1)).length-1) []=x.take (l+1):=by grind [Jhz,List.getElem?_eq_some_iff.1,Ql]
 have F:Lt [] (pfx rs (l+1)):=(Jqf (Yr u) _).1;by_cases hs2:l+2<=stp rs x
 .have D:pfx (rs++[x]) (l+2)=pfx rs (l+2):=by rw[Gs h hl om,if_pos hs2]
  grind [Fst]
 have D:pfx (rs++[x]) (l+2)=pfx rs (l+2)++[x.take (l+2)]:=by rw[Gs h hl om,if_neg hs2]
 unfold Fst;rw[O,D];refine⟨J,λj G=>?_,λj i G hi=>?_⟩;repeat grind [List.length_append,List.length_singleton,Jnt,pfx,take_take',Qcs]
theorem Fst.more(hF:Fst rs l f)(h:Lt [] (rs++[x]))(hl:∀ r∈rs++[x],r.length=d)(hs:stp rs x<=l): Fst (rs++[x]) l (f++[(pfx rs (l+2)).length]):=by
 obtain⟨D,O,J⟩:=hF;have u:Lt [] rs:=(List.pairwise_append.1 h).1;have G:pfx (rs++[x]) (l+1)=pfx rs (l+1)++[x.take (l+1)]:=by rw[Gs h hl om,if_neg om]
 have F:pfx (rs++[x]) (l+2)=pfx rs (l+2)++[x.take (l+2)]:=by rw[Gs h hl om,if_neg om]
 have hn:=Qvr h hl (l:=l+1) om om;unfold Fst;rw[G,F];refine⟨by simp[D],λj y=>?_,λj i y hi=>?_⟩
 .grind
 repeat grind [List.length_append,List.length_singleton,Jnt,pfx,take_take',getD_mem',Qvq,Yr]
def Chl(rs:List Row)(l:Nat)(f:List Nat): Prop:=f.length=(pfx rs (l+1)).length+1/\(∀ j,j<f.length->f.getD j 0<=(pfx rs (l+2)).length) /\
 ∀ j i,j+1<f.length->i<(pfx rs (l+2)).length->(((pfx rs (l+2)).getD i []).take (l+1)=(pfx rs (l+1)).getD j []↔f.getD j 0<=i/\i<f.getD (j+1) 0)
theorem Fst.close(hF:Fst rs l f): Chl rs l (f++[(pfx rs (l+2)).length]):=by
 obtain⟨y,F,D⟩:=hF;refine⟨by simp[y],λj u=>?_,λj i u hi=>?_⟩;repeat grind
theorem Fst.nil(l:Nat): Fst [] l []:=⟨rfl,λj u=>by simp at u,λj i u=>by simp at u⟩
theorem Jmf(h:Lt [] (rs++[x]))(hl:∀ r∈rs++[x],r.length=d)(hd:l<d): lvl (rs++[x]) l=if l+1<=stp rs x then lvl rs l else lvl rs l++[x.getD l V0]:=by
 unfold lvl;rw[Gs h hl om];grind
end Go.Proofs.YtebiphhfkdbpfaaGreat
namespace Go.Wk
open Go.RowKit
variable {c' cs news xs:List Value}{d g i k l m m' n t ty:Nat}{α:Type}{v v' z:Value}
def upd(f:Nat->α)(i:Nat)(x:α): Nat->α:=λk=>if k=i then x else f k
theorem Qw(f:Nat->α)(i:Nat)(x:α): upd f i x i=x:=by simp[upd]
theorem Jm(f:Nat->α)(x:α)(h:k≠i): upd f i x k=f k:=by simp[upd,h]
structure Fam(w:World)(base e sz n:Nat)(v:Nat->Value)(m:Nat->Nat)(c:Nat->List Value): Prop where
 own:∀ i,i<n->w.ownsRow base e sz (v i) (m i) (c i)
 dis:∀ i j g,i<n->j<n->i≠j->(v i).ownBlock=some g->(v j).ownBlock≠some g
section
variable {w w':World} {base e sz n:Nat} {v:Nat->Value} {m:Nat->Nat} {c:Nat->List Value}
theorem Fam.ext(h:Fam w base e sz n v m c)(hx:Ext w w'): Fam w' base e sz n v m c:=⟨λi hi=>Jc (h.own i hi) hx,h.dis⟩
theorem Fam.gr{N:Nat->Prop}(h:Fam w base e sz n v m c)(hg:GrN N w w')(hN:∀ i g,i<n->(v i).ownBlock=some g->¬ N g): Fam w' base e sz n v m c:=⟨λi hi=>Jo (h.own i hi) hg (hN i · hi),h.dis⟩
theorem Fam.other{base' e' sz':Nat}(h:Fam w base e sz n v m c)(h':w.ownsRow base' e' sz' v' m' xs)(hg:w.grownBy w' v'.ownBlock)(hne:Nat.beq e e'=false): Fam w' base e sz n v m c :=
 ⟨λi hi=>Zq (h.own i hi) h' hg hne,h.dis⟩
theorem Fam.box(h:Fam w base e sz n v m c)(hB:Blk w g t cs)(hg:w.grownBy w' (some g))(hne:Nat.beq e t=false): Fam w' base e sz n v m c :=
 ⟨λi hi=>(h.own i hi).kept hg (.inr (λj=>hB.ne_own (h.own i hi) hne j.symm)),h.dis⟩
theorem Fam.lt(h:Fam w base e sz n v m c)(hi:i<n)(hg:(v i).ownBlock=some g): base<=g/\g<w.heap.size:=by
 obtain⟨_,_,_,_,j⟩:=Jy (h.own i hi);exact j g hg
theorem Fam.upd(h:Fam w base e sz n v m c)(hi:i<n)(ho:w'.ownsRow base e sz v' m' c')(hg:w.grownBy w' (v i).ownBlock)(hb:∀ g,v'.ownBlock=some g->(v i).ownBlock=some g∨w.heap.size<=g):
  Fam w' base e sz n (upd v i v') (upd m i m') (upd c i c'):=by
 refine⟨λk y=>?_,λk j g y G u F D=>?_⟩
 .by_cases e:k=i
  .grind [Qw]
  rw[Jm _ _ e,Jm _ _ e,Jm _ _ e];refine(h.own k y).kept hg ?_;cases hb2:(v k).ownBlock with
  | none=>exact .inl rfl
  | some g=>exact .inr (λJ=>h.dis k i g y hi e hb2 J.symm)
 by_cases ek:k=i<;>by_cases ej:j=i
 .omega
 .subst ek;rw[Qw]at F;rw[Jm _ _ ej]at D;rcases hb g F with h'|h'
  .exact h.dis k j g y G u h' D
  have:=(h.lt G D).2;omega
 .subst ej;rw[Qw]at D;rw[Jm _ _ ek]at F;rcases hb g D with h'|h'
  .exact h.dis k j g y G u F h'
  have:=(h.lt y F).2;omega
 rw[Jm _ _ ek]at F;rw[Jm _ _ ej]at D;exact h.dis k j g y G u F D
theorem Fam.grown(h:Fam w base e sz n v m c)(hi:i<n): ∀ g,(v i).ownBlock=some g->base<=g:=λg j=>(h.lt hi j).1
end
def Xb(d:Nat)(f g:Nat->Value): List Value:=(List.range d).flatMap λl=>[f l,g l]
theorem Gq(d:Nat)(f g:Nat->Value): Xb (d+1) f g=Xb d f g++[f d,g d]:=by simp[Xb,List.range_succ,List.flatMap_append]
theorem Zy(d:Nat)(f g:Nat->Value): (Xb d f g).length=d*2:=by
 induction d with
 | zero=>rfl
 | succ d ih=>rw[Gq,List.length_append,ih];simp;omega
theorem Ya(d:Nat)(f g:Nat->Value)(h:l<d): (Xb d f g)[l*2]?=some (f l)/\(Xb d f g)[l*2+1]?=some (g l):=by
 induction d with
 | zero=>omega
 | succ d ih=>
  rw[Gq];by_cases e:l=d
  .subst e;rw[List.getElem?_append_right (by rw[Zy];omega),List.getElem?_append_right (by rw[Zy];omega),Zy];grind
  repeat grind
theorem Jph{f g f' g':Nat->Value}(h1:∀ l,l<d->f l=f' l)(h2:∀ l,l<d->g l=g' l): Xb d f g=Xb d f' g':=by
 induction d with
 | zero=>rfl
 | succ d ih=>rw[Gq,Gq,ih (λl i=>h1 l om) (λl i=>h2 l om),h1 d om,h2 d om]
theorem Jpg(d:Nat)(f g:Nat->Value)(h:l<d)(u:Value): (Xb d f g).set (l*2) u=Xb d (upd f l u) g:=by
 induction d with
 | zero=>omega
 | succ d ih=>
  rw[Gq,Gq];by_cases e:l=d
  .subst e;rw[List.set_append_right _ _ (by rw[Zy];omega),Zy,Nat.sub_self,List.set_cons_zero,Qw];congr 1
   grind [Jph,Jm]
  repeat grind [List.set_append_left,Zy,Jm]
theorem Jpf(d:Nat)(f g:Nat->Value)(h:l<d)(u:Value): (Xb d f g).set (l*2+1) u=Xb d f (upd g l u):=by
 induction d with
 | zero=>omega
 | succ d ih=>
  rw[Gq,Gq];by_cases e:l=d
  .subst e;rw[List.set_append_right _ _ (by rw[Zy];omega),Zy,Nat.add_sub_cancel_left,List.set_cons_succ,List.set_cons_zero,Qw];congr 1
   exact Jph (λk i=>rfl) (λk i=>(Jm _ _ om).symm)
  repeat grind [List.set_append_left,Zy,Jm]
theorem apb{P:Program}{al:AL}{w:World}{Q:Exit->Act->World->Prop}{ops:Array Oper}{rest:List Oper}{pos:String}{aft:Array Edge}{e sz bytes base:Nat}(hE:ElT P t e sz bytes z){x y:Operand}{A':Option Addr}{c':Nat}(ha:w.ownsRow base e sz v m xs)(hr:Rd w sz A' m' news)(h1:∀ u∈news,u.oneCell'=true)(h63:m+m'<=maxLen)(hby:(m+m')*bytes<=140737488355328)(hbase:base<=w.heap.size)(kk:∀ v' w',w'.ownsRow base e sz v' (m+m') (xs++news)->w.grownBy w' v.ownBlock->(∀ g,v'.ownBlock=some g->v.ownBlock=some g∨w.heap.size<=g)->WL P n ops Q rest ((d,v')::al) w')(hx:ev al x=some v:=by rfl)(hy:ev al y=some (.slice A' m' c'):=by rfl)(hd:Nat.blt d n=true:=by rfl):
  WL P n ops Q (⟨some d,.call { callee:=.builtin .append,args:=#[x,y],argTypes:=#[t,t] },ty,pos,aft,none⟩::rest) al w:=by
 obtain⟨v',w',i,O,J,G,F,D⟩:=Jgr hE base ty (.inl ha) (c':=c') hr h1 h63 hby hbase;refine wop hd (λa j=>?_) (kk v' w' (G ha) (F.elim (·.2) (λh=>Xc h _)) D)
 simp[execOp,resolve,invoke,builtin,j.ev hx,j.ev hy,i]
end Go.Wk
namespace Go.Wk
open Go.RowKit
variable {p:Addr}{b c:Bool}{a z:Int}{kd:IntKind}{l:List (Nat×Oper)}{cs:List Value}{e id j m s t:Nat}{o oi:Oper}{i x y:Operand}{A:Option Addr}{dst:Option Nat}{k:TK}{yt:TypeId}{u v:Value}
section
variable {N:Nat->Prop} {P:Program} {ops:Array Oper} {Q:Exit->Act->World->Prop} {T:Nat->Bool}
def Yu(N:Nat->Prop)(P:Program)(ops:Array Oper)(Q:Exit->Act->World->Prop)(k:Nat)(o:Oper)(K:Act->World->Prop)(a:Act)(w:World): Prop :=
 match k with
 | 0=>∃ v,YieldsIf P ops (GrN N w) o v a/\K (a.put o.dst v) w
 | 1=>if Region.wanted o (yielded ops a.tmps) then o.wp P a w (λa' w'=>GrN N w w'/\K a' w') (QF Q) else K (a.put o.dst undef) w
 | _=>if Region.wanted o (yielded ops a.tmps) then o.wp P a w K (QF Q) else K (a.put o.dst undef) w
def Xf(N:Nat->Prop)(P:Program)(ops:Array Oper)(Q:Exit->Act->World->Prop): List (Nat×Oper)->Act->World->Prop
 | [],a,w=>Q .normal a w
 | p::r,a,w=>Yu N P ops Q p.1 p.2 (Xf N P ops Q r) a w
def Un(N:Nat->Prop)(P:Program)(ops:Array Oper)(Q:Exit->Act->World->Prop)(T:Nat->Bool): Nat->Array Bool->Act->World->Prop
 | 0,listed,a,w=>Region.ready .any ops listed=[]/\Q .normal a w
 | fuel+1,listed,a,w=>
  (Region.ready .any ops listed=[]->Q .normal a w) /\
   ∀ i∈Region.ready .any ops listed,wpOp P ops (QF Q) i (λa' w'=>(T i=false->GrN N w w')/\Un N P ops Q T fuel (listed.setIfInBounds i true) a' w') a w
theorem Jdg: ∀(fuel:Nat) (listed:Array Bool) (a:Act) (w:World),Un N P ops Q T fuel listed a w->wpAny P .any ops Q fuel listed a w
 | 0,_,_,_,h=>h
 | fuel+1,_,_,_,h=>⟨h.1,λi hi=>wpOp_mono (λa' w' h'=>Jdg fuel _ a' w' h'.2) (Jxl (h.2 i hi))⟩
theorem Qjd(S:World->World->Prop)(hS0:∀ w,S w w)(hSt:∀ {a b c},S a b->S b c->S a c){i:Nat}(hi:ops[i]?=some oi)(hsel:∀(j:Nat) (o:Oper) cs b,ops[j]?=some o->o.op≠.select cs b)(hSx:∀ listed j,Closed ops listed->i∈Region.ready .any ops listed->j∈Region.ready .any ops listed->∀ w w',(T j=false->GrN N w w')->S w w'):
  ∀(fuel:Nat) (listed:Array Bool) (a:Act) (w:World),Closed ops listed ->
   (∀ j oj,ops[j]?=some oj->j≠i->listed.getD j true=false->(∀ e∈oj.after,Region.binds .any e=true->e.on≠i)->oi.apart ops oj=true) ->
   i∈Region.ready .any ops listed->YieldsIf P ops (S w) oi v a ->
   Un N P ops Q T fuel (listed.setIfInBounds i true) (a.put oi.dst v) w->Un N P ops Q T (fuel+1) listed a w:=by
 intro fuel;induction fuel with
 | zero=>
  intro listed a w J _ D hy H;refine⟨λh=>(by rw[h]at D;cases D),λj O=>?_⟩;by_cases hji:j=i
  .subst hji;exact hy.wpOp hi (hS0 w) ⟨λ_=>GrN.refl N w,H⟩
  have:=ready_mono O hji;rw[H.1]at this;cases this
 | succ fuel ih=>
  intro listed a w J u D hy H;refine⟨λh=>(by rw[h]at D;cases D),λj O=>?_⟩;by_cases hji:j=i
  .subst hji;exact hy.wpOp hi (hS0 w) ⟨λ_=>GrN.refl N w,H⟩
  obtain⟨F,oj,G,a2⟩:=mem_ready.1 O;have h1:=H.2 j (ready_mono O hji);have a1:∀ e∈oj.after,Region.binds .any e=true->e.on≠i:=λe he hb a6=>by
   have h1:=a2 e he hb;have h0:=(mem_ready.1 D).1;grind
  have h2:=wpOp_putIf G (u j oj G hji F a1) (λcs b=>hsel i oi cs b hi) (λcs b=>hsel j oj cs b G) (λc a w h=>h) hy h1;have y:∀ k U,ops[k]?=some U->k≠i->(listed.setIfInBounds j true).getD k true=false ->
    (∀ e∈U.after,Region.binds .any e=true->e.on≠i)->oi.apart ops U=true:=λk U hk a5 Z a4=>by
   refine u k U hk a5 ?_ a4;by_cases hjk:j=k
   .subst hjk;exact F
   rw[getD_set_ne true hjk]at Z;exact Z
  refine wpOp_mono (λa' w' h3=>⟨h3.2.1,ih (listed.setIfInBounds j true) a' w' (J.step O) y (ready_mono D (Ne.symm hji)) ?_ ?_⟩) h2
  .exact h3.1.imp (λ⟨h4,h5⟩=>⟨h4,λa3 hx=>h5 a3 (hSt (hSx listed j J D O w w' h3.2.1) hx)⟩) id
  rw[Array.setIfInBounds_comm _ _ hji];exact h3.2.2
theorem Jdh(hsel:Region.noSelect ops=true)(F:Nat): ∀(s:List (Nat×Nat)) (listed:Array Bool) (a:Act) (w:World),Closed ops listed->(∀ p∈s,Nat.ble p.1 2=true)->(∀ p∈s,p.2<ops.size)->(∀ p∈s,(p.1 == 2)=T p.2) ->
  (∀ t,T t=true->t<ops.size->∀ p∈s,p.1=0->Vk ops F t p.2=true)->Qt ops s listed=true->Xf N P ops Q (Qv ops.toList s) a w->Un N P ops Q T s.length listed a w
 | [],listed,a,w,_,_,_,_,_,hB,h=>⟨by simpa [Qt] using hB,h⟩
 | (k,i)::r,listed,a,w,hcl,hk,hlt,hKT,hR,hB,h=>by
  have hi:i<ops.size:=hlt _ (mC ..);have ho:ops[i]?=some ops[i]:=Array.getElem?_eq_getElem hi;have hn:nth ops.toList i=some ops[i]:=by rw[Xj];simp[hi]
  have hTi:=hKT _ (mC ..);have hk0:=hk _ (mC ..);simp only at hTi hk0;have hrec:Closed ops (listed.setIfInBounds i true)->Qt ops r (listed.setIfInBounds i true)=true->∀ a w,Xf N P ops Q (Qv ops.toList r) a w->Un N P ops Q T r.length (listed.setIfInBounds i true) a w:=λhc' hB' a w h'=>
   Jdh hsel F r _ a w hc' (λp hp=>hk p (List.mem_cons_of_mem _ hp)) (λp hp=>hlt p (List.mem_cons_of_mem _ hp)) (λp hp=>hKT p (List.mem_cons_of_mem _ hp)) (λt ht htl p hp=>hR t ht htl p (List.mem_cons_of_mem _ hp)) hB' h'
  have one:Qt ops r (listed.setIfInBounds i true)=true->Region.ready .any ops listed=[i]->(T i=false->if Region.wanted ops[i] (yielded ops a.tmps) then ops[i].wp P a w (λa' w'=>GrN N w w'/\Xf N P ops Q (Qv ops.toList r) a' w') (QF Q) else Xf N P ops Q (Qv ops.toList r) (a.put ops[i].dst undef) w) ->
    (T i=true->if Region.wanted ops[i] (yielded ops a.tmps) then ops[i].wp P a w (Xf N P ops Q (Qv ops.toList r)) (QF Q) else Xf N P ops Q (Qv ops.toList r) (a.put ops[i].dst undef) w)->Un N P ops Q T (r.length+1) listed a w:=λhB' hr hf ht=>by
   have hcl':Closed ops (listed.setIfInBounds i true):=hcl.step (by grind);refine⟨λh0=>(by rw[hr]at h0;cases h0),λj hj=>?_⟩;rw[hr]at hj;obtain rfl:j=i:=by simpa using hj
   unfold wpOp;simp only[ho];cases hT:T j with
   | false=>
    have h:=hf hT;split
    .rename_i hw;simp only[hw,if_true]at h;exact .inl (Oper.wp_mono (λa' w' h'=>⟨λ_=>h'.1,hrec hcl' hB' _ _ h'.2⟩) h)
    repeat grind [GrN.refl]
   | true=>
    have h:=ht hT;split
    .rename_i hw;simp only[hw,if_true]at h;exact .inl (Oper.wp_mono (λa' w' h'=>⟨λh0=>(by cases h0),hrec hcl' hB' _ _ h'⟩) h)
    repeat grind
  match k,hTi,hk0,hR,hB,h with
  | 0,hTi,_,hR,hB,h=>
   simp only[Qt,Bool.and_eq_true]at hB;obtain⟨⟨hr,hf⟩,hB'⟩:=hB;have hr':i∈Region.ready .any ops listed:=by simpa using hr
   simp only[Qv,hn,Xf,Yu]at h;obtain⟨v,hy,h⟩:=h;refine Qjd (GrN N) (GrN.refl N) (λh k=>GrN.trans h k) ho (Region.noSelect_spec hsel) ?_ r.length listed a w hcl (Region.free_spec ho hf) hr' hy (hrec (hcl.step hr') hB' _ _ h);intro listed' j hcl' hri hrj w w' hx;cases hT:T j with
   | false=>exact hx hT
   | true=>
    obtain⟨_,oj,hoj,_⟩:=mem_ready.1 hrj;have h1:=Gh hcl' F j i oj hoj (Gg hoj hrj) (hR j hT (Array.getElem?_eq_some_iff.1 hoj).1 _ (mC ..) rfl);have h0:=(mem_ready.1 hri).1;grind
  | 1,hTi,_,hR,hB,h=>
   simp only[Qt,Bool.and_eq_true,beq_iff_eq]at hB;simp only[Qv,hn,Xf,Yu]at h;grind
  | 2,hTi,_,hR,hB,h=>
   simp only[Qt,Bool.and_eq_true,beq_iff_eq]at hB;simp only[Qv,hn,Xf,Yu]at h;grind
  | k+3,_,hk0,_,_,_=>simp at hk0
def Jvh(ops:Array Oper)(F:Nat)(s:List (Nat×Nat)): Bool :=
 Region.noSelect ops && (s.length == ops.size) && (s.all λp=>Nat.ble p.1 2) && (s.all λp=>Nat.blt p.2 ops.size) && (s.all λp=>(p.1 == 2) == Uq s p.2) &&
 ((List.range ops.size).all λt=>!Uq s t || s.all λp=>p.1 != 0 || Vk ops F t p.2) && Qt ops s (Array.replicate ops.size false)
end
section
variable {N:Nat->Prop} {P:Program} {n:Nat} {al al':AL} {w:World} {Q:Exit->Act->World->Prop} {ops:Array Oper} {rest:List (Nat×Oper)} {drest:List (Nat×Oper)}
variable {d ty:Nat} {op:Op} {pos:String} {aft:Array Edge} {tt:TT}
def WN(N:Nat->Prop)(P:Program)(n:Nat)(ops:Array Oper)(Q:Exit->Act->World->Prop)(l:List (Nat×Oper))(al:AL)(w:World): Prop:=∀ a,Fr n al a->Xf N P ops Q l a w
theorem WN.sub{l:List (Nat×Oper)}(hs:Sub al' al)(h:WN N P n ops Q l al' w): WN N P n ops Q l al w:=λa i=>h a (i.sub hs)
theorem Qjn{l:List Oper}(N:Nat->Prop)(F:Nat)(s:List (Nat×Nat))(hm:P.follows .mixedOrders=true)(hB:Jvh l.toArray F s=true)(h:WN N P n l.toArray Q (Qv l s) al w.drew): WC P n (.region id l.toArray true) Q al w:=by
 intro a D;simp only[Jvh,Bool.and_eq_true,beq_iff_eq,List.all_eq_true,List.mem_range,Bool.or_eq_true,Bool.not_eq_true',bne_iff_ne]at hB;obtain⟨⟨⟨⟨⟨⟨Z,j⟩,U⟩,O⟩,J⟩,h6⟩,G⟩:=hB;refine wp_region_any hm ?_;rw[<-j];refine Jdg (T:=Uq s) _ _ _ _ (Jdh (N:=N) Z F s _ a _ ?_ (λp i=>U p i) (λp i=>?_) (λp i=>?_) (λt ht u p i h0=>?_) (by rw[j];exact G) ?_)
 .intro k o ho y e he hb;exfalso
  simp only[Array.getD_eq_getD_getElem?,Array.getElem?_replicate]at y;grind
 .have:=O p i;have h':p.2+1<=l.toArray.size:=by simpa [Nat.blt] using this
  omega
 .simpa using J p i
 .grind
 have:=h a D;simpa using this
theorem drN[h:Tab P tt]{l:List Oper}(N:Nat->Prop)(F:Nat)(s:List (Nat×Nat))(hB:Jvh l.toArray F s=true)(k:WN N P n l.toArray Q (Qv l s) al w.drew): WC P n (.region id l.toArray true) Q al w:=Qjn N F s h.mixed hB k
def YldN(N:Nat->Prop)(P:Program)(n:Nat)(al:AL)(w:World)(o:Oper)(v:Value): Prop:=∀ w',GrN N w w'->∀ a,Fr n al a->(execOp a.eval o).run P w'=.ok (.value v) w'
theorem nnil_(h:QX n Q .normal al w): WN N P n ops Q [] al w:=λa i=>h a i
theorem ny_(hy:YldN N P n al w ⟨some d,op,ty,pos,aft,none⟩ v)(hd:Nat.blt d n=true)(k:WN N P n ops Q rest ((d,v)::al) w): WN N P n ops Q ((0,⟨some d,op,ty,pos,aft,none⟩)::rest) al w:=λa j=>by
 have i:d<n:=by(have:d+1<=n:=by simpa [Nat.blt] using hd);(omega)
 exact⟨v,.inl ⟨rfl,λw' u=>hy w' u a j⟩,k _ (j.put i v)⟩
theorem np_{tt:TT}(hT:TOk P tt)(hv:pv tt (ev al) op=some v)(hd:Nat.blt d n=true)(k:WN N P n ops Q rest ((d,v)::al) w): WN N P n ops Q ((0,⟨some d,op,ty,pos,aft,none⟩)::rest) al w :=
 ny_ (λw' _ a j=>Uw w' hT (λx u i=>j.ev i) hv) hd k
theorem npn_{tt:TT}(hT:TOk P tt)(hv:pv tt (ev al) op=some v)(k:WN N P n ops Q rest al w): WN N P n ops Q ((0,⟨none,op,ty,pos,aft,none⟩)::rest) al w:=λa j=>
 ⟨v,.inl ⟨rfl,λw' i=>Uw w' hT (λx u i=>j.ev i) hv⟩,k _ j⟩
theorem Qbn{kd:Nat}(hj:Xs ops j=some s)(hs:lk al s=some (.bool b))(k:WN N P n ops Q ((kd,⟨dst,op,ty,pos,aft,none⟩)::rest) al w):
  WN N P n ops Q ((kd,⟨dst,op,ty,pos,aft,some (j,b)⟩)::rest) al w:=λa y=>by
 have h:=k a y;have F:=Kf (ops:=ops) y hj hs;have D:Region.wanted (⟨dst,op,ty,pos,aft,none⟩:Oper) (yielded ops a.tmps)=true:=rfl;have u:Region.wanted (⟨dst,op,ty,pos,aft,some (j,b)⟩:Oper) (yielded ops a.tmps)=true:=by simp[Region.wanted,F]
 unfold Xf Yu at h ⊢;match kd,h with
 | 0,h=>
  obtain⟨v,i,G⟩:=h;refine⟨v,?_,G⟩;rcases i with i|i
  .exact .inl ⟨u,i.2⟩
  repeat grind
 | 1,h=>simp only[D,if_true]at h;simp only[u,if_true];exact h
 | k+2,h=>simp only[D,if_true]at h;simp only[u,if_true];exact h
theorem Qbj{kd:Nat}(hj:Xs ops j=some s)(hs:lk al s=some (.bool b))(hne:(b == c)=false)(hd:Nat.blt d n=true)(k:WN N P n ops Q rest ((d,undef)::al) w):
  WN N P n ops Q ((kd,⟨some d,op,ty,pos,aft,some (j,c)⟩)::rest) al w:=λa D=>by
 have i:d<n:=by(have:d+1<=n:=by simpa [Nat.blt] using hd);(omega)
 have F:=Kf (ops:=ops) D hj hs;have y:Region.wanted (⟨some d,op,ty,pos,aft,some (j,c)⟩:Oper) (yielded ops a.tmps)=false:=by
  simp[Region.wanted,F];simpa using hne
 have u:=k _ (D.put i undef);unfold Xf Yu;match kd with
 | 0=>exact⟨undef,.inr ⟨y,rfl⟩,u⟩
 | 1=>simp only[y];exact u
 | m+2=>simp only[y];exact u
theorem Qbl(s:Nat)(u:Value)(hs:lk al s=some v)(hv:v=u)(k:WN N P n ops Q l ((s,u)::al) w): WN N P n ops Q l al w:=by
 subst hv;exact k.sub (Sub.cons hs Sub.refl)
theorem ν9{kd:Nat}(k:WN N P n ops Q drest ((d,undef)::al) w)(hj:Xs ops j=some s:=by rfl)(hs:lk al s=some undef:=by rfl)(hd:Nat.blt d n=true:=by rfl):
  WN N P n ops Q ((kd,⟨some d,op,ty,pos,aft,some (j,c)⟩)::drest) al w:=λa D=>by
 have i:d<n:=by(have:d+1<=n:=by simpa [Nat.blt] using hd);(omega)
 have F:=Jwk (ops:=ops) D hj hs;have y:Region.wanted (⟨some d,op,ty,pos,aft,some (j,c)⟩:Oper) (yielded ops a.tmps)=false:=by simp[Region.wanted,F]
 have u:=k _ (D.put i undef);unfold Xf Yu;match kd with
 | 0=>exact⟨undef,.inr ⟨y,rfl⟩,u⟩
 | 1=>simp only[y];exact u
 | m+2=>simp only[y];exact u
theorem ν4[h:Tab P tt](k:WN N P n ops Q drest ((d,v)::al) w)(hv:pv tt (ev al) op=some v:=by rfl)(hd:Nat.blt d n=true:=by rfl): WN N P n ops Q ((0,⟨some d,op,ty,pos,aft,none⟩)::drest) al w:=np_ h.ok hv hd k
theorem ν5(h:QX n Q .normal al w): WN N P n ops Q [] al w:=nnil_ h
theorem ν6{kd:Nat}(k:WN N P n ops Q ((kd,⟨dst,op,ty,pos,aft,none⟩)::drest) al w)(hj:Xs ops j=some s:=by rfl)(hs:lk al s=some (.bool b):=by rfl): WN N P n ops Q ((kd,⟨dst,op,ty,pos,aft,some (j,b)⟩)::drest) al w:=Qbn hj hs k
theorem ν7{kd:Nat}(k:WN N P n ops Q drest ((d,undef)::al) w)(hj:Xs ops j=some s:=by rfl)(hs:lk al s=some (.bool b):=by rfl)(hne:(b == c)=false:=by rfl)(hd:Nat.blt d n=true:=by rfl):
  WN N P n ops Q ((kd,⟨some d,op,ty,pos,aft,some (j,c)⟩)::drest) al w:=Qbj hj hs hne hd k
theorem ν8[h:Tab P tt](k:WN N P n ops Q drest al w)(hv:pv tt (ev al) op=some v:=by rfl): WN N P n ops Q ((0,⟨none,op,ty,pos,aft,none⟩)::drest) al w:=npn_ h.ok hv k
theorem nadd_{t:TypeId}{b:Int}(hx:ev al x=some (.int .i64 a))(hy:ev al y=some (.int .i64 b))(hc:-9223372036854775808<=a+b/\a+b<=9223372036854775807)(hd:Nat.blt d n=true)(k:WN N P n ops Q rest ((d,.int .i64 (a+b))::al) w): WN N P n ops Q ((0,⟨some d,.binOp .add t x y yt,ty,pos,aft,none⟩)::rest) al w:=by
 have e:IntKind.i64.wrap (a+b)=a+b:=by rw[IntKind.wrap_i64];omega
 exact np_ (tt:=[]) trivial (v:=.int .i64 (a+b)) (by grind [pv,bop]) hd k
theorem nsub_{t:TypeId}{b:Int}(hx:ev al x=some (.int .i64 a))(hy:ev al y=some (.int .i64 b))(hc:-9223372036854775808<=a-b/\a-b<=9223372036854775807)(hd:Nat.blt d n=true)(k:WN N P n ops Q rest ((d,.int .i64 (a-b))::al) w): WN N P n ops Q ((0,⟨some d,.binOp .sub t x y yt,ty,pos,aft,none⟩)::rest) al w:=by
 have e:IntKind.i64.wrap (a-b)=a-b:=by rw[IntKind.wrap_i64];omega
 exact np_ (tt:=[]) trivial (v:=.int .i64 (a-b)) (by grind [pv,bop]) hd k
theorem ν1{t:TypeId}{b:Int}(k:WN N P n ops Q drest ((d,.int .i64 (a+b))::al) w)(hx:ev al x=some (.int .i64 a):=by rfl)(hy:ev al y=some (.int .i64 b):=by rfl)(hd:Nat.blt d n=true:=by rfl)(hc:-9223372036854775808<=a+b/\a+b<=9223372036854775807:=by omega):
  WN N P n ops Q ((0,⟨some d,.binOp .add t x y yt,ty,pos,aft,none⟩)::drest) al w:=nadd_ hx hy hc hd k
theorem ν2{t:TypeId}{b:Int}(k:WN N P n ops Q drest ((d,.int .i64 (a-b))::al) w)(hx:ev al x=some (.int .i64 a):=by rfl)(hy:ev al y=some (.int .i64 b):=by rfl)(hd:Nat.blt d n=true:=by rfl)(hc:-9223372036854775808<=a-b/\a-b<=9223372036854775807:=by omega):
  WN N P n ops Q ((0,⟨some d,.binOp .sub t x y yt,ty,pos,aft,none⟩)::drest) al w:=nsub_ hx hy hc hd k
theorem nkv(s:Nat)(hv:v=u)(k:WN N P n ops Q l ((s,u)::al) w)(hs:lk al s=some v:=by rfl): WN N P n ops Q l al w:=Qbl s u hs hv k
theorem nload(hT:TOk P tt)(ht:tk tt t=some k)(hk:Zw k.desc=true)(hx:ev al x=some (.pointer (some p)))(hc:∀ w',GrN N w w'->w'.cell? p=some v)(hd:Nat.blt d n=true)(kk:WN N P n ops Q rest ((d,v)::al) w): WN N P n ops Q ((0,⟨some d,.load t x,ty,pos,aft,none⟩)::rest) al w :=
 ny_ (λw' i a j=>by simp[execOp,j.ev hx,Instr.loadAt,Instr.sureAddr,Jgn (w:=w') hT ht hk (hc w' i)]) hd kk
theorem Qbk(hT:TOk P tt)(ht:tk tt t=some k)(hk:k.desc=.invalid)(hl:k.size=cs.length)(hx:ev al x=some (.pointer (some p)))(hc:∀ w',GrN N w w'->∀ j u,cs[j]?=some u->w'.cell? (p.add j)=some u)(hd:Nat.blt d n=true)(kk:WN N P n ops Q rest ((d,.agg cs.toArray)::al) w): WN N P n ops Q ((0,⟨some d,.load t x,ty,pos,aft,none⟩)::rest) al w :=
 ny_ (λw' i a y=>by simp[execOp,y.ev hx,Instr.loadAt,Instr.sureAddr,Ke (w:=w') hT ht hk hl (hc w' i)]) hd kk
theorem Jlr(hT:TOk P tt){sz:Nat}{c:Nat}(q:Nat)(j:Nat)(ht:tk tt t=some k)(hk:k.desc=.slice e)(hz:k.esz=sz)(hx:ev al x=some (.slice A m c))(hi:ev al i=some (.int kd z))(hr:Rd w sz A m cs)(hj:z=(j:Int))(hlt:j<m)(h0:0<sz)(hq:j*sz=q)(hd:Nat.blt d n=true)(kk:WN N P n ops Q rest ((d,.pointer (some (adr A q)))::al) w): WN N P n ops Q ((0,⟨some d,.indexAddr t x i,ty,pos,aft,none⟩)::rest) al w:=by
 obtain⟨y,D⟩:=Ut hT ht hk hz;obtain⟨J,rfl,G⟩:=hr.isome om h0;subst hj;subst hq;refine ny_ (λw' F a u=>?_) hd kk;simp[execOp,u.ev hx,u.ev hi,Instr.indexAt,asIntOf,run_underlying y,Vj w' D,adr];intro h;omega
theorem Qbm(hT:TOk P tt){c:Nat}(j:Nat)(ht:tk tt t=some k)(hk:k.desc=.slice e)(hz:k.esz=1)(hx:ev al x=some (.slice A m c))(hi:ev al i=some (.int kd z))(hr:Rd w 1 A m cs)(hj:z=(j:Int))(hlt:j<m)(hd:Nat.blt d n=true)(kk:WN N P n ops Q rest ((d,.pointer (some (adr A j)))::al) w): WN N P n ops Q ((0,⟨some d,.indexAddr t x i,ty,pos,aft,none⟩)::rest) al w :=
 Jlr hT j j ht hk hz hx hi hr hj hlt om om hd kk
theorem nld[h:Tab P tt](hc:∀ w',GrN N w w'->w'.cell? p=some v)(kk:WN N P n ops Q drest ((d,v)::al) w)(ht:tk tt t=some k:=by rfl)(hk:Zw k.desc=true:=by rfl)(hx:ev al x=some (.pointer (some p)):=by rfl)(hd:Nat.blt d n=true:=by rfl): WN N P n ops Q ((0,⟨some d,.load t x,ty,pos,aft,none⟩)::drest) al w:=nload h.ok ht hk hx hc hd kk
theorem Yk[h:Tab P tt](hc:∀ w',GrN N w w'->∀ j u,cs[j]?=some u->w'.cell? (p.add j)=some u)(kk:WN N P n ops Q drest ((d,.agg cs.toArray)::al) w)(ht:tk tt t=some k:=by rfl)(hk:k.desc=.invalid:=by rfl)(hl:k.size=cs.length:=by rfl)(hx:ev al x=some (.pointer (some p)):=by rfl)(hd:Nat.blt d n=true:=by rfl): WN N P n ops Q ((0,⟨some d,.load t x,ty,pos,aft,none⟩)::drest) al w:=Qbk h.ok ht hk hl hx hc hd kk
theorem nix[h:Tab P tt]{c:Nat}(j:Nat)(hr:Rd w 1 A m cs)(hlt:j<m)(kk:WN N P n ops Q drest ((d,.pointer (some (adr A j)))::al) w)(ht:tk tt t=some k:=by rfl)(hk:k.desc=.slice e:=by rfl)(hz:k.esz=1:=by rfl)(hx:ev al x=some (.slice A m c):=by rfl)(hi:ev al i=some (.int kd z):=by rfl)(hj:z=(j:Int):=by first|rfl|omega)(hd:Nat.blt d n=true:=by rfl):
  WN N P n ops Q ((0,⟨some d,.indexAddr t x i,ty,pos,aft,none⟩)::drest) al w:=Qbm h.ok j ht hk hz hx hi hr hj hlt hd kk
theorem Va[h:Tab P tt]{c:Nat}(sz j:Nat)(hr:Rd w sz A m cs)(hlt:j<m)(kk:WN N P n ops Q drest ((d,.pointer (some (adr A (j*sz))))::al) w)(ht:tk tt t=some k:=by rfl)(hk:k.desc=.slice e:=by rfl)(hz:k.esz=sz:=by rfl)(hx:ev al x=some (.slice A m c):=by rfl)(hi:ev al i=some (.int kd z):=by rfl)(hj:z=(j:Int):=by first|rfl|omega)(h0:0<sz:=by omega)(hd:Nat.blt d n=true:=by rfl):
  WN N P n ops Q ((0,⟨some d,.indexAddr t x i,ty,pos,aft,none⟩)::drest) al w:=Jlr h.ok (j*sz) j ht hk hz hx hi hr hj hlt h0 rfl hd kk
def toN(N:Nat->Prop)(P:Program)(ops:Array Oper)(Q:Exit->Act->World->Prop)(w0:World)(rest:List (Nat×Oper)): Exit->Act->World->Prop
 | .normal,a,w=>GrN N w0 w/\Xf N P ops Q rest a w
 | _,_,_=>False
theorem Qg{w0:World}(hx:GrN N w0 w)(h:WN N P n ops Q drest al w): QX n (toN N P ops Q w0 drest) .normal al w:=λa i=>⟨hx,h a i⟩
theorem nop(h:WL P n ops (toN N P ops Q w drest) [o] al w): WN N P n ops Q ((1,o)::drest) al w:=λa u=>by
 have i:=h a u;unfold wpList at i;unfold Xf Yu;simp only;have j:¬ LetsOut (toN N P ops Q w drest):=by rintro⟨a,w,h⟩;exact h
 split
 .rename_i hw;simp only[hw,if_true]at i;rcases i with i|⟨_,i⟩
  .refine Oper.wp_mono (K:=wpList P ops (toN N P ops Q w drest) []) (λD w' y=>y) ?_;unfold Oper.wp at i ⊢;grind [Yq,toN]
  exact absurd i j
 rename_i hw;simp only[hw]at i;exact i.2
def toT(N:Nat->Prop)(P:Program)(ops:Array Oper)(Q:Exit->Act->World->Prop)(rest:List (Nat×Oper)): Exit->Act->World->Prop
 | .normal,a,w=>Xf N P ops Q rest a w
 | _,_,_=>False
theorem Uf(h:WN N P n ops Q drest al w): QX n (toT N P ops Q drest) .normal al w:=h
theorem Xm(h:WL P n ops (toT N P ops Q drest) [o] al w): WN N P n ops Q ((2,o)::drest) al w:=λa y=>by
 have i:=h a y;unfold wpList at i;unfold Xf Yu;simp only;have j:¬ LetsOut (toT N P ops Q drest):=by rintro⟨a,w,h⟩;exact h
 split
 .rename_i hw;simp only[hw,if_true]at i;rcases i with i|⟨_,i⟩
  .refine Oper.wp_mono (K:=Xf N P ops Q drest) (λF w' D=>D) ?_;unfold Oper.wp at i ⊢;exact Yq (Q:=toT N P ops Q drest) (λc a w u=>u.elim) (λu=>absurd u j) i
  exact absurd i j
 rename_i hw;simp only[hw]at i;exact i
theorem Qf(hc:w.cell? p=some v)(hn:¬ N p.block): ∀ w',GrN N w w'->w'.cell? p=some v:=λw' i=>by
 rw[<-hc];exact World.cell?_of_block (i.block _ (World.block_lt_of_cell? w p hc) hn)
end
end Go.Wk
namespace Go.Wk
theorem ρn{p q:Prop}(h:p)(t:Hold p->q:=by intro h;(repeat first|refine ν1 ?_|refine ν2 ?_|refine ν4 ?_|refine ν5 ?_|refine ν6 ?_|refine ν7 ?_|refine ν9 ?_|refine ν8 ?_|refine χ1 ?_|refine χ2 ?_|refine χ3 ?_|refine χ4 ?_|refine χ5 ?_|refine χ6 ?_|refine χ7 ?_);exact h.of): q:=t ⟨h⟩
end Go.Wk
namespace Go.Proofs.YtebiphhfkdbpfaaGreat
open Go.RowKit Pl Go.Wk
attribute [local irreducible] WC WL QX WD WDB WP
variable {cs xs xs':List Value}{base c d g k l s t:Nat}{fs fs':Nat->List Nat}{M:Nat->Prop}{vs vs':Nat->Row}{fv vv:Nat->Value}{A:Option Addr}{a b x:Row}{v' v4 va vb vx:Value}{w w4:World}
structure TriB(w:World)(base:Nat)(A:Option Addr)(d:Nat)(vv fv:Nat->Value)(vs:Nat->Row)(fs:Nat->List Nat): Prop where
 lev:w.ownsRow base 219 2 (.slice A d d) d (Xb d vv fv)
 vals:Fam w base 75 3 d vv (λl=>(vs l).length) (λl=>Je (vs l))
 fst:Fam w base 3 1 d fv (λl=>(fs l).length) (λl=>Jp (nz (fs l)))
section
variable {w w':World} {base:Nat} {A:Option Addr} {d:Nat} {vv fv:Nat->Value} {vs:Nat->Row} {fs:Nat->List Nat}
theorem TriB.ext(h:TriB w base A d vv fv vs fs)(hx:Ext w w'): TriB w' base A d vv fv vs fs:=⟨Jc h.lev hx,h.vals.ext hx,h.fst.ext hx⟩
theorem TriB.vform(h:TriB w base A d vv fv vs fs)(hl:l<d): ∃ B c,vv l=.slice B (vs l).length c/\(vs l).length<=c/\Rd w 3 B (vs l).length (Je (vs l)):=by
 obtain⟨B,c,e,i,_⟩:=Jy (h.vals.own l hl);refine⟨B,c,e,i,?_⟩;have:=h.vals.own l hl;rw[e]at this;exact Rd.own this
theorem TriB.fform(h:TriB w base A d vv fv vs fs)(hl:l<d): ∃ B c,fv l=.slice B (fs l).length c/\(fs l).length<=c/\Rd w 1 B (fs l).length (Jp (nz (fs l))):=by
 obtain⟨B,c,e,i,_⟩:=Jy (h.fst.own l hl);refine⟨B,c,e,i,?_⟩;have:=h.fst.own l hl;rw[e]at this;exact Rd.own this
theorem TriB.rd(h:TriB w base A d vv fv vs fs): Rd w 2 A d (Xb d vv fv):=Rd.own h.lev
theorem TriB.v(h:TriB w base A d vv fv vs fs)(hl:l<d): w.cell? (adr A (l*2))=some (vv l):=h.rd.cell (Ya d vv fv hl).1
theorem TriB.v0(h:TriB w base A d vv fv vs fs)(hl:l<d): w.cell? ((adr A (l*2)).add 0)=some (vv l):=by rw[add_zero];exact h.v hl
theorem TriB.f1(h:TriB w base A d vv fv vs fs)(hl:l<d): w.cell? ((adr A (l*2)).add 1)=some (fv l):=by rw[Ky];exact h.rd.cell (Ya d vv fv hl).2
theorem TriB.f(h:TriB w base A d vv fv vs fs)(hl:l<d): w.cell? (adr A (l*2+1))=some (fv l):=h.rd.cell (Ya d vv fv hl).2
end
theorem Jws{li:Int}(hR:Rd w 2 A d (Xb d vv fv))(hv:∀ l,l<d->∃ B c,vv l=.slice B (vs l).length c)(hli:li=(l:Int))(hd:d<=32):
  Ret Tryz.prog 139 [.agg #[.slice A d c],.int .i64 li] w λu w'=>u=.int .i64 (if l<d then(vs l).length else 0:Nat)/\Ext w w':=by
 subst hli;refine Jz Tryz.func139 Tryz.ntmps139 rfl kr rfl ?_;refine ρ ?_;refine bx ?_;intro w1 b j J F;refine ρ ?_;refine ld (F.at (i:=0) rfl) ?_;refine ρ ?_;refine ci (λh=>?_) (λh=>?_)
 .refine ρ ?_;refine Jq ⟨?_,j⟩;grind
 have D:l<d:=by grind
 have y:=hR.ext j;obtain⟨B,O,e⟩:=hv l D;refine ρ ?_;refine ld (F.at (i:=0) rfl) ?_;refine ρ ?_;refine ixq 2 l y D ?_;have G:w1.cell? ((adr A (l*2)).add 0)=some (vv l):=by rw[add_zero];exact y.cell (Ya d vv fv D).1
 refine ρ ?_;refine ld G ?_;rw[e];refine ρ ?_;refine Jq ⟨?_,j⟩;rw[if_pos D]
theorem Qqv(ha:RowV w va a)(hb:RowV w vb b)(hlen:a=[]∨a.length=b.length): Ret Tryz.prog 138 [va,vb] w λu w'=>u=.int .i64 (shr a b:Int)/\Ext w w':=by
 obtain⟨A,ac,rfl,a6,a5,Z⟩:=ha;obtain⟨B,bc,rfl,a4,a3,U⟩:=hb;refine Jz Tryz.func138 Tryz.ntmps138 rfl kr rfl ?_;refine ρ ?_;refine Jh (fun (k:Nat)=>[(0,.slice A a.length ac),(1,.slice B b.length bc),(5,.int .i64 (k:Int))]) (λk w'=>Ext w w'/\k<=a.length/\k<=b.length/\shr a b=k+shr (a.drop k) (b.drop k)) (λk=>a.length-k) 0 sB ⟨Ext.refl w,Nat.zero_le _,Nat.zero_le _,by simp⟩ ?_;rintro k w1 ⟨hx,a2,a1,he⟩;refine ρ ?_;refine Xg (fun (t:Bool)=>[(0,.slice A a.length ac),(1,.slice B b.length bc),(5,.int .i64 (k:Int)),(21,.bool t)]) (λt w'=>Ext w w'/\(t=true->k<a.length/\k<b.length/\a.getD k V0=b.getD k V0)/\(t=false->shr (a.drop k) (b.drop k)=0)) ?_ ?_
 .refine dr [(0,0),(0,1),(0,2),(0,3),(0,4),(0,5),(0,6),(0,7),(0,8),(0,9),(0,10),(0,11),(0,12),(1,13),(0,14),(0,15)] kr ?_;have y:=hx.drew;have J:RdR _ A a:=Rd.ext Z y;have G:RdR _ B b:=Rd.ext U y;refine ρd ?_;refine dki 10 (λh=>?_) (λh=>?_)
  .have F:k<a.length:=by have:=oT h;omega
   have D:k<b.length:=by grind
   refine ρd ?_;refine Qp 3 k J F ?_;refine ρd ?_;refine Qj (λj u O=>RdR.cell J F O) ?_;refine ρd ?_;refine Qp 3 k G D ?_;refine ρd ?_;refine Qj (λj u O=>RdR.cell G D O) ?_;refine ρd ?_;refine dcl (Jxq (a.getD k V0) (b.getD k V0) _) ?_;rintro x w2 ⟨rfl,i⟩;refine⟨i,?_⟩;refine ρd ?_;refine ρ ?_;refine Jr _ sB ⟨y.trans i,λh=>⟨F,D,cmp_V.zero _ _ (Ud h)⟩,λh=>?_⟩;rw[List.drop_eq_getElem_cons F,List.drop_eq_getElem_cons D,shr,if_neg];intro e;have:=Vs h;grind [Ql,V0,Zr]
  refine ρd ?_;refine ρ ?_;refine Jr false sB ⟨y,λe=>(by cases e),λ_=>?_⟩;grind [List.drop_of_length_le,Jvb]
 rintro t w2 ⟨i,h1,h2⟩;refine ci (λh=>?_) (λh=>?_)
 .obtain⟨F,D,e⟩:=h1 h;refine ρ ?_;refine Jg (k+1) sO ⟨i,om,om,?_⟩ om;grind [List.drop_eq_getElem_cons,shr,Ql,V0]
 refine ρ ?_;refine Jq ⟨?_,i⟩;rw[he,h2 h];rfl
def Zm(A:Option Addr)(d:Nat)(vv fv:Nat->Value)(k:Nat): Prop:=(Value.slice A d d).ownBlock=some k∨∃ l,l<d/\((vv l).ownBlock=some k∨(fv l).ownBlock=some k)
theorem Ik{e sz m base' e' sz' m':Nat}{v:Value}(h:w.ownsRow base e sz v m xs)(h':w.ownsRow base' e' sz' v' m' xs')(hne:Nat.beq e e'=false)(hg:v.ownBlock=some g): v'.ownBlock≠some g:=by
 have u:e≠e':=by intro j;subst j;simp at hne
 intro i;rcases h.2 with⟨rfl,_⟩|⟨g1,cap,cur,rfl,_,hh,_⟩
 .simp[Value.ownBlock]at hg
 rcases h'.2 with⟨rfl,_⟩|⟨g2,cap',cur',rfl,_,hh',_⟩
 .simp[Value.ownBlock]at i
 have D:g1=g:=by simpa [Value.ownBlock] using hg
 have y:g2=g:=by simpa [Value.ownBlock] using i
 grind
theorem TriB.box(h:TriB w base A d vv fv vs fs){b:Nat}(hB:Blk w b t cs)(h1:Nat.beq 219 t=false)(h2:Nat.beq 75 t=false)(h3:Nat.beq 3 t=false): ¬ Zm A d vv fv b:=by
 rintro(e|⟨l,i,e|e⟩)
 .exact hB.ne_own h.lev h1 e.symm
 .exact hB.ne_own (h.vals.own l i) h2 e.symm
 exact hB.ne_own (h.fst.own l i) h3 e.symm
theorem TriB.congr(h:TriB w base A d vv fv vs fs)(h1:∀ l,l<d->vs' l=vs l)(h2:∀ l,l<d->fs' l=fs l): TriB w base A d vv fv vs' fs' :=
 ⟨h.lev,⟨λi hi=>by rw[h1 i hi];exact h.vals.own i hi,h.vals.dis⟩,⟨λi hi=>by rw[h2 i hi];exact h.fst.own i hi,h.fst.dis⟩⟩
theorem Jgg{p:Addr}(u:Value): w.grownBy (w.setCell p u) (some p.block):=⟨rfl,rfl,rfl,by simp[World.setCell],λk i hn=>Below.heap_setCell w p u k (λe=>hn (by rw[e]))⟩
theorem TriB.setV{vv fv : Nat → Value}{vs : Nat → Row}{fs : Nat → List Nat}{r : Row}(H : TriB w base A d vv fv vs fs)(lk : k < d)(ho : w4.ownsRow base 75 3 v4 r.length (Je r))(hg : w.grownBy w4 (vv k).ownBlock)(hn : ∀ g, v4.ownBlock = some g → (vv k).ownBlock = some g ∨ w.heap.size ≤ g): w4.cell? ((adr A (k * 2)).add 0) = some (vv k) ∧ w4.frozen? ((adr A (k * 2)).add 0) = false ∧ v4.oneCell' = true ∧ TriB (w4.setCell ((adr A (k * 2)).add 0) v4) base A d (upd vv k v4) fv (upd vs k r) fs ∧
      w4.grownBy (w4.setCell ((adr A (k * 2)).add 0) v4) (Value.slice A d d).ownBlock := by
  have F4 := H.vals.upd lk ho hg hn
  have L4 := Zq H.lev (H.vals.own k lk) hg rfl
  have f4 := H.fst.other (H.vals.own k lk) hg rfl
  obtain ⟨s1, s2, s3, s4, s5⟩ := Zl L4 (q := k * 2) om v4
  rw [add_zero]
  have h1 : v4.oneCell' = true := by obtain ⟨B, c, e, _⟩ := Jy ho; rw [e]; rfl
  refine ⟨s1.trans (Ya d vv fv lk).1, s2, h1, ⟨?_, ?_, ?_⟩, s5⟩
  . grind [Jpg,lk]
  . have F5 := F4.other L4 s5 rfl
    refine ⟨fun i hi => ?_, F5.dis⟩
    have := F5.own i hi
    grind [Qw,Jm]
  . exact f4.other L4 s5 rfl
theorem TriB.setF{vv fv : Nat → Value}{vs : Nat → Row}{fs : Nat → List Nat}{r : List Nat}(H : TriB w base A d vv fv vs fs)(lk : k < d)(ho : w4.ownsRow base 3 1 v4 r.length (Jp (nz r)))(hg : w.grownBy w4 (fv k).ownBlock)(hn : ∀ g, v4.ownBlock = some g → (fv k).ownBlock = some g ∨ w.heap.size ≤ g): w4.cell? ((adr A (k * 2)).add 1) = some (fv k) ∧ w4.frozen? ((adr A (k * 2)).add 1) = false ∧ v4.oneCell' = true ∧ TriB (w4.setCell ((adr A (k * 2)).add 1) v4) base A d vv (upd fv k v4) vs (upd fs k r) ∧
      w4.grownBy (w4.setCell ((adr A (k * 2)).add 1) v4) (Value.slice A d d).ownBlock := by
  have F4 := H.fst.upd lk ho hg hn
  have L4 := Zq H.lev (H.fst.own k lk) hg rfl
  have f4 := H.vals.other (H.fst.own k lk) hg rfl
  obtain ⟨s1, s2, s3, s4, s5⟩ := Zl L4 (q := k * 2 + 1) om v4
  rw [Ky]
  have h1 : v4.oneCell' = true := by obtain ⟨B, c, e, _⟩ := Jy ho; rw [e]; rfl
  refine ⟨s1.trans (Ya d vv fv lk).2, s2, h1, ⟨?_, ?_, ?_⟩, s5⟩
  . grind [Jpf,lk]
  . exact f4.other L4 s5 rfl
  . have F5 := F4.other L4 s5 rfl
    refine ⟨fun i hi => ?_, F5.dis⟩
    have := F5.own i hi
    grind [Qw,Jm]
theorem Qyk(h:∀ j,Zm A d vv fv j->M j)(lk:k<d)(hn:∀ g,v4.ownBlock=some g->M g): ∀ j,Zm A d (upd vv k v4) fv j->M j:=by
 rintro j (e|⟨l,i,e|e⟩)
 .exact h j (.inl e)
 .by_cases el:l=k
  .grind [Qw]
  rw[Jm _ _ el]at e;exact h j (.inr ⟨l,i,.inl e⟩)
 exact h j (.inr ⟨l,i,.inr e⟩)
theorem Jlh(h:∀ j,Zm A d vv fv j->M j)(lk:k<d)(hn:∀ g,v4.ownBlock=some g->M g): ∀ j,Zm A d vv (upd fv k v4) j->M j:=by
 rintro j (e|⟨l,i,e|e⟩)
 .exact h j (.inl e)
 .exact h j (.inr ⟨l,i,.inl e⟩)
 by_cases el:l=k
 .grind [Qw]
 rw[Jm _ _ el]at e;exact h j (.inr ⟨l,i,.inr e⟩)
theorem Qmc(v:V)(w:World): (Instr.buildSlice 72 1 #[(0,v.val)]).run Tryz.prog w=.ok (.slice (some ⟨w.heap.size,0,none⟩) 1 1) (w.alloc (.cells v.cells.toArray 75)):=kr
theorem EVs: ElT Tryz.prog 72 75 3 32 (.agg #[.int .i64 0,.int .i64 0,.string ⟨#[]⟩]):=⟨Tryz.underlying72,info_parts kr,rfl,by decide⟩
theorem bs1Int'(z:Int)(w:World): (Instr.buildSlice 28 1 #[(0,.int .i64 z)]).run Tryz.prog w=.ok (.slice (some ⟨w.heap.size,0,none⟩) 1 1) (w.alloc (.cells [.int .i64 z].toArray 3)):=kr
theorem rowC_one'(v:V): Je [v]=v.cells:=by simp[Je]
theorem Qxc(H:TriB w base A d vv fv vs fs)(hx:Off (Zm A d vv fv) w (λu=>RowV u vx x))(hlen:x.length=d)(hd:d<=32)(hs:s<=d)(hbase:base<=w.heap.size)(hsm:∀ l,l<d->(vs l).length<=1000000/\(fs l).length<=1000000):
  Ret Tryz.prog 137 [.agg #[.slice A d d],vx,.int .i64 (s:Int)] w λu w'=>∃ vv' fv',TriB w' base A d vv' fv' (λl=>if s<=l then vs l++[x.getD l V0] else vs l) (λl=>if s<=l then fs l++[if l+1<d then(vs (l+1)).length else 0] else fs l) /\
   GrN (Zm A d vv fv) w w'/\∀ j,Zm A d vv' fv' j->Zm A d vv fv j∨w.heap.size<=j:=by
 obtain⟨X,xc,ay,bb,ba,b9⟩:=hx.here;subst ay;refine Jz Tryz.func137 Tryz.ntmps137 rfl kr rfl ?_;refine ρ ?_;refine bx ?_;intro w1 b D hb hB;obtain⟨M,hM⟩:∃ M:Nat->Prop,M=λj=>Zm A d vv fv j∨w.heap.size<=j/\j≠b:=⟨_,rfl⟩;have aa:¬ M b:=by
  rw[hM];rintro(F|F)
  .exact(H.ext D).box hB rfl rfl rfl F
  exact F.2 rfl
 have ai:Off M w1 (λu=>RowV u (.slice X x.length xc) x):=λu hg=>hx u ⟨hg.os.trans D.os,hg.tape.trans D.tape,hg.output.trans D.output,Nat.le_trans D.size hg.size,λk hk hn=>(hg.block k (nM hk D.size) (λe=>by rw[hM]at e;rcases e with e|e;exact hn e;omega)).trans (D.block k hk)⟩;refine ρ ?_;refine Zk (fun (k:Nat) (vv' fv':Nat->Value)=>[(1,.slice X x.length xc),(3,.pointer (some ⟨b,0,none⟩)),(6,.int .i64 (k:Int))])
  (λk vv' fv' w'=>s<=k/\k<=d/\TriB w' base A d vv' fv' (λl=>if s<=l/\l<k then vs l++[x.getD l V0] else vs l) (λl=>if s<=l/\l<k then fs l++[if l+1<d then(vs (l+1)).length else 0] else fs l)/\GrN M w1 w'/\∀ j,Zm A d vv' fv' j->M j) (λk _ _=>d-k) s vv fv sB
  ⟨nR _,hs,?_,GrN.refl _ _,λj hj=>by rw[hM];exact .inl hj⟩ ?_
 .have e1:(λl=>if s<=l/\l<s then vs l++[x.getD l V0] else vs l)=vs:=by funext l;rw[if_neg om]
  have e2:(λl=>if s<=l/\l<s then fs l++[if l+1<d then(vs (l+1)).length else 0] else fs l)=fs:=by funext l;rw[if_neg om]
  rw[e1,e2];exact H.ext D
 rintro k vv' fv' w2 ⟨bf,be,H2,a1,a7⟩;refine ρ ?_;refine ci (λh=>?_) (λh=>?_)
 .have lk:k<d:=by have:=oT h;omega
  have lx:k<x.length:=om
  have bc:=hsm k lk;clear h;obtain⟨B,c,az,b6,b1⟩:=H2.vform lk;obtain⟨own,y⟩:∃ own,own=(vv' k).ownBlock:=⟨_,rfl⟩;have J:∀ j,own=some j->M j:=λj O=>a7 j (.inr ⟨k,lk,.inl (by rw[<-y];exact O)⟩);refine ρ ?_;refine Xg (fun (a5:Nat->Value)=>[(1,.slice X x.length xc),(3,.pointer (some ⟨b,0,none⟩)),(6,.int .i64 (k:Int))])
   (λa5 w5=>TriB w5 base A d a5 fv' (upd (λl=>if s<=l/\l<k then vs l++[x.getD l V0] else vs l) k (vs k++[x.getD k V0])) (λl=>if s<=l/\l<k then fs l++[if l+1<d then(vs (l+1)).length else 0] else fs l)/\GrN M w1 w5/\∀ j,Zm A d a5 fv' j->M j) ?_ ?_
  .refine drN (one own) 4 [(0,0),(0,1),(0,2),(0,3),(0,4),(0,5),(0,6),(0,7),(0,8),(0,9),(0,10),(0,11),(0,12),(1,13),(1,14),(0,15),(0,16),(2,17)] kr ?_;have a6:Ext w2 w2.drew:=(Ext.refl w2).drew;have a4:=H2.ext a6;have G:=a1.trans (GrN.ext a6);have ah:=Ja hB G aa;have aw:RdR w2.drew X x:=by
    obtain⟨X',av,e1,_,_,e4⟩:=ai _ G;injection e1 with e1 _ _;subst e1;exact e4
   have nb:¬ one own b:=λe=>aa (J b e);have nA:∀ ad,A=some ad->¬ one own ad.block:=λad e F=>by
    subst e;exact Ik a4.lev (a4.vals.own k lk) rfl rfl (by rw[<-y];exact F)
   have ac:¬ one own (adr A (k*2)).block:=by
    obtain⟨ad,e,_⟩:=a4.rd.isome om om;subst e;simp only[adr,Option.getD_some,Yg];exact nA ad rfl
   have ax:∀ w',GrN (one own) w2.drew w'->RdR w' X x:=λw' hg=>by
    obtain⟨X',av,e1,_,_,e4⟩:=ai _ (G.trans (hg.mono λj _ O=>J j O));injection e1 with e1 _ _;subst e1;exact e4
   refine ρn ?_;refine nld (Qf (ah.at (i:=0) rfl) nb) ?_;refine ρn ?_;refine nld (Qf (ah.at (i:=0) rfl) nb) ?_;refine ρn ?_;refine Va 2 k a4.rd lk ?_;refine ρn ?_;refine nld (Qf (a4.v0 lk) (by rw[Yg];exact ac)) ?_;refine ρn ?_;refine Va 3 k aw lx ?_;refine ρn ?_;refine Yk (cs:=(x.getD k V0).cells) (λw' hg j u hu=>RdR.cell (ax w' hg) lx hu) ?_;refine ρn ?_;refine nop ?_;refine bsl (Qmc (x.getD k V0)) ?_;intro w3 b3 a3 bh b4;refine ρ ?_;refine Qg (GrN.ext a3) ?_;have H3:=a4.ext a3;have ap:=H3.vals.own k lk;rw[if_neg (show¬ (s<=k/\k<k) by omega)]at ap;have bd:(vs k).length+1<=1000001:=om
   refine nop ?_;refine apb (base:=base) EVs ap (b4.rd (n:=1) rfl) (V.one _) (by unfold maxLen;omega) om (nL hbase (nL D.size (nL G.size a3.size))) ?_;intro v4 w4 ao a9 au;refine ρ ?_;refine Qg (GrN.by a9 λj O=>by rw[<-y]at O;exact O) ?_;have er:Je (vs k)++(x.getD k V0).cells=Je (vs k++[x.getD k V0]):=by rw[Qkn,rowC_one']
   have el:(vs k).length+1=(vs k++[x.getD k V0]).length:=by simp
   rw[er,el]at ao;obtain⟨c1,c2,c3,H5,ae⟩:=H3.setV lk ao a9 au;have bi:b<w2.drew.heap.size:=ah.lt;have L4:=Zq H3.lev (H3.vals.own k lk) a9 rfl;refine ρn ?_;refine Va 2 k (Rd.own L4) lk ?_;refine ρn ?_;refine Xm ?_;refine sto c1 c2 ?_ (hv:=c3);refine ρ ?_;have af:∀ g,v4.ownBlock=some g->M g:=λg eg=>by
    rcases au g eg with F|F
    .exact J g (by rw[y];exact F)
    rw[hM];exact .inr ⟨nL D.size (nL G.size (nL a3.size F)),λe=>by have:=a3.size;omega⟩
   refine Jr (upd vv' k v4) sB ⟨H5,?_,Qyk (M:=M) a7 lk af⟩;exact((G.trans (GrN.ext a3)).trans (GrN.by a9 λj O=>J j (by rw[y];exact O))).trans (GrN.by ae λj O=>a7 j (.inl O))
  clear J y az b6 b1 H2 a1 a7;rintro a5 w5 ⟨H5,ae,ag⟩;obtain⟨own,y⟩:∃ own,own=(fv' k).ownBlock:=⟨_,rfl⟩;have J:∀ j,own=some j->M j:=λj O=>ag j (.inr ⟨k,lk,.inr (by rw[<-y];exact O)⟩);refine drN (one own) 4 [(0,0),(0,1),(0,2),(0,3),(0,4),(0,5),(0,6),(0,7),(0,8),(0,9),(0,10),(0,11),(1,12),(1,13),(1,14),(0,15),(0,16),(2,17)] kr ?_;have a6:Ext w5 w5.drew:=(Ext.refl w5).drew;have Z:=H5.ext a6;have a2:=ae.trans (GrN.ext a6);have ab:=Ja hB a2 aa;have nb:¬ one own b:=λe=>aa (J b e);have ac:¬ one own (adr A (k*2)).block:=by
   obtain⟨ad,e,_⟩:=Z.rd.isome om om;subst e;simp only[adr,Option.getD_some,Yg];intro F;exact Ik Z.lev (Z.fst.own k lk) rfl rfl (by rw[<-y];exact F)
  refine ρn ?_;refine nld (Qf (ab.at (i:=0) rfl) nb) ?_;refine ρn ?_;refine nld (Qf (ab.at (i:=0) rfl) nb) ?_;refine ρn ?_;refine Va 2 k Z.rd lk ?_;refine ρn ?_;refine nld (Qf (Z.f1 lk) (by rw[Yg];exact ac)) ?_;refine ρn ?_;refine Yk (cs:=[.slice A d d]) (λw' hg j u hu=>(Ja ab hg nb).at hu) ?_;refine ρn ?_;refine nop ?_;refine cl (Jws (l:=k+1) (li:=(k:Int)+1) Z.rd (λl hl=>by obtain⟨B,c,e,_⟩:=Z.vform hl;exact⟨B,c,e⟩) om hd) ?_;rintro u w6 ⟨rfl,ak⟩;refine ρ ?_;refine Qg (GrN.ext ak) ?_;obtain⟨nn,aq⟩:∃ nn:Nat,nn=if k+1<d then(vs (k+1)).length else 0:=⟨_,rfl⟩
  have b8:(if k+1<d then List.length (upd (λl=>if s<=l/\l<k then vs l++[x.getD l V0] else vs l) k (vs k++[x.getD k V0]) (k+1)) else 0)=nn:=by
   rw[aq,Jm _ _ om,if_neg (show¬ (s<=k+1/\k+1<k) by omega)]
  rw[b8];refine nop ?_;refine bsl (bs1Int' (nn:Int)) ?_;intro w7 b7 aj bg b2;refine ρ ?_;refine Qg (GrN.ext aj) ?_;have U:=ak.trans aj;have H7:=Z.ext U;have an:=H7.fst.own k lk;rw[if_neg (show¬ (s<=k/\k<k) by omega)]at an;refine nop ?_;refine apb (base:=base) EI an (b2.rd (n:=1) rfl) (λu hu=>by rw[List.mem_singleton.1 hu];rfl) (by unfold maxLen;omega) om (nL hbase (nL D.size (nL a2.size U.size))) ?_;intro v8 w8 am a8 ar;refine ρ ?_;refine Qg (GrN.by a8 λj O=>by rw[<-y]at O;exact O) ?_;have er:Jp (nz (fs k))++[.int .i64 (nn:Int)]=Jp (nz (fs k++[nn])):=by simp[Jp,nz]
  have el:(fs k).length+1=(fs k++[nn]).length:=by simp
  rw[er,el]at am;obtain⟨c1,c2,c3,H9,b5⟩:=H7.setF lk am a8 ar;have L8:=Zq H7.lev (H7.fst.own k lk) a8 rfl;refine ρn ?_;refine Va 2 k (Rd.own L8) lk ?_;refine ρn ?_;refine Xm ?_;refine sto c1 c2 ?_ (hv:=c3);refine ρ ?_;have af:∀ g,v8.ownBlock=some g->M g:=λg eg=>by
   rcases ar g eg with F|F
   .exact J g (by rw[y];exact F)
   rw[hM];exact .inr ⟨nL D.size (nL a2.size (nL U.size F)),λe=>by have:=U.size;have:=ab.lt;omega⟩
  refine Qa (k+1) a5 (upd fv' k v8) sO ⟨om,om,H9.congr (λl hl=>?_) (λl hl=>?_),?_,Jlh (M:=M) ag lk af⟩ om
  .by_cases e:l=k
   .subst e;rw[Qw,if_pos om]
   rw[Jm _ _ e];by_cases e2:s<=l/\l<k
   .rw[if_pos e2,if_pos om]
   rw[if_neg e2,if_neg om]
  .by_cases e:l=k
   .subst e;rw[Qw,if_pos om,aq]
   rw[Jm _ _ e];by_cases e2:s<=l/\l<k
   .rw[if_pos e2,if_pos om]
   rw[if_neg e2,if_neg om]
  exact((a2.trans (GrN.ext U)).trans (GrN.by a8 λj O=>J j (by rw[y];exact O))).trans (GrN.by b5 λj O=>ag j (.inl O))
 have ek:k=d:=by have:=oF h;omega
 subst ek;refine ρ ?_;refine Vg ⟨vv',fv',H2.congr (λl hl=>?_) (λl hl=>?_),?_,λj hj=>?_⟩
 .by_cases e:s<=l
  .rw[if_pos e,if_pos ⟨e,hl⟩]
  rw[if_neg e,if_neg (λF=>e F.1)]
 .by_cases e:s<=l
  .rw[if_pos e,if_pos (show s<=l/\l<k from⟨e,hl⟩)]
  rw[if_neg e,if_neg (λF=>e F.1)]
 .exact⟨a1.os.trans D.os,a1.tape.trans D.tape,a1.output.trans D.output,Nat.le_trans D.size a1.size,λj hj hn=>(a1.block j (nM hj D.size) (λe=>by rw[hM]at e;rcases e with e|e;exact hn e;omega)).trans (D.block j hj)⟩
 have:=a7 j hj;rw[hM]at this;exact this.imp id λF=>F.1
open Go.RowKit Pl Go.Wk
attribute [local irreducible] WN
variable {t:Int}{zs:List Int}{base c d n:Nat}{A:Option Addr}{w:World}
theorem Qfg(hR:Rd w 1 A n (Jp zs))(hn:zs.length=n)(hm:n<=1100000): Ret Tryz.prog 167 [.slice A n c,.int .i64 t] w λu w'=>w'=w/\∃ z,u=.int .i64 z/\(0<=z↔t∈zs):=by
 refine Jz Tryz.func167 Tryz.ntmps167 rfl kr rfl ?_;refine ρ ?_;refine Jh (fun (k:Nat)=>[(0,.slice A n c),(1,.int .i64 t),(7,.int .i64 (n:Int)),(8,.int .i64 (k:Int))]) (λk w'=>w'=w/\k<=n/\t ∉ zs.take k) (λk=>n-k) 0 sB ⟨rfl,Nat.zero_le _,by simp⟩ ?_;rintro k w' ⟨rfl,j,y⟩;refine ρ ?_;refine ci (λh=>?_) (λh=>?_)
 .have lk:k<n:=by have:=oT h;omega
  have i:k<zs.length:=om
  refine ρ ?_;refine ix k hR lk ?_;refine ρ ?_;refine ld (hR.cell (Vd i)) ?_;refine ρ ?_;refine ci (λh=>?_) (λh=>?_)
  .refine ρ ?_;refine Jq ⟨rfl,(k:Int),rfl,⟨λ_=>?_,λ_=>om⟩⟩;grind
  refine ρ ?_;refine Jg (k+1) sO ⟨rfl,om,?_⟩ om;rw[Xu 0 i,List.mem_append,List.mem_singleton];grind
 refine ρ ?_;refine Jq ⟨rfl,-1,rfl,⟨λe=>om,λe=>?_⟩⟩;grind
theorem Qhm(hR:Rd w 1 A n (Jp zs))(hn:zs.length=n)(hm:n<=1100000): Ret Tryz.prog 136 [.slice A n c,.int .i64 t] w λu w'=>w'=w/\∃ b:Bool,u=.bool b/\(b=true↔t∈zs):=by
 refine Jz Tryz.func136 Tryz.ntmps136 rfl kr rfl ?_;refine ρ ?_;refine cl (Qfg hR hn hm) ?_;rintro u w' ⟨rfl,z,rfl,i⟩;refine ρ ?_;exact Jq ⟨rfl,decide (0<=z),rfl,by grind⟩
def TriV(w:World)(v:Value)(d:Nat)(rs:List Row): Prop:=∃(A:Option Addr) (vv fv:Nat->Value) (fs:Nat->List Nat),v=.agg #[.slice A d d]/\Rd w 2 A d (Xb d vv fv)/\(∀ l,l<d->∃ B c,vv l=.slice B (lvl rs l).length c/\RdR w B (lvl rs l)) /\
 (∀ l,l<d->∃ B c,fv l=.slice B (fs l).length c/\Rd w 1 B (fs l).length (Jp (nz (fs l))))/\∀ l,l+1<d->Chl rs l (fs l)
theorem TriV.ext{w w':World}{v:Value}{d:Nat}{rs:List Row}(h:TriV w v d rs)(hx:Ext w w'): TriV w' v d rs:=by
 obtain⟨A,vv,fv,fs,y,u,F,D,j⟩:=h;refine⟨A,vv,fv,fs,y,u.ext hx,λl i=>?_,λl i=>?_,j⟩;repeat grind [Rd.ext]
theorem TriB.off{vv fv:Nat->Value}{rs:List Row}{fs:Nat->List Nat}{N:Nat->Prop}(h:TriB w base A d vv fv (lvl rs) fs)(hc:∀ l,l+1<d->Chl rs l (fs l))(hN:∀ j,Zm A d vv fv j->¬ N j): Off N w (λu=>TriV u (.agg #[.slice A d d]) d rs):=by
 intro u D;refine⟨A,vv,fv,fs,rfl,Zg h.rd D (λ_ G e=>?_),λl i=>?_,λl i=>?_,hc⟩
 .subst e;exact hN _ (.inl rfl)
 .obtain⟨B,c,e,_,y⟩:=h.vform i;refine⟨B,c,e,Zg y D λ_ G F=>hN _ (.inr ⟨l,i,.inl ?_⟩)⟩;rw[e,F];rfl
 obtain⟨B,c,e,_,y⟩:=h.fform i;refine⟨B,c,e,Zg y D λ_ G F=>hN _ (.inr ⟨l,i,.inr ?_⟩)⟩;rw[e,F];rfl
theorem Jwj: Qu Tryz.prog 195=some (.agg #[.slice none 0 0]):=kr
theorem Qms(A:Option Addr)(n c:Nat)(w:World): (Instr.build 195 #[(0,.slice A n c)]).run Tryz.prog w=.ok (.agg #[.slice A n c]) w:=kr
theorem EL: ElT Tryz.prog 193 219 2 48 (.agg #[.slice none 0 0,.slice none 0 0]):=⟨Tryz.underlying193,info_parts kr,rfl,by decide⟩
theorem one1: ∀ u∈[Value.slice A n c],u.oneCell'=true:=by intro u i;rw[List.mem_singleton.1 i];rfl
theorem made2(d:Nat): (madeCells (Value.agg #[.slice none 0 0,.slice none 0 0]).cells (d*2)).toList=Xb d (λ_=>.slice none 0 0) (λ_=>.slice none 0 0):=by
 apply List.ext_getElem?
 intro k;have u:(Value.agg #[.slice none 0 0,.slice none 0 0]).cells = #[.slice none 0 0,.slice none 0 0]:=rfl;rw[u];by_cases hk:k<d*2
 .have i:=Ya d (λ_=>Value.slice none 0 0) (λ_=>Value.slice none 0 0) (l:=k / 2) om;have j:k % 2=0∨k % 2=1:=om
  rcases j with j|j
  .have e:k / 2*2=k:=om
   rw[e]at i;rw[i.1];simp only[madeCells,Array.getElem?_toList,Array.getElem?_map,Array.getElem?_range,hk,if_true,Option.map_some];grind
  have e:k / 2*2+1=k:=om
  rw[e]at i;rw[i.2];simp only[madeCells,Array.getElem?_toList,Array.getElem?_map,Array.getElem?_range,hk,if_true,Option.map_some];grind
 rw[List.getElem?_eq_none (by simp[madeCells];omega),List.getElem?_eq_none (by rw[Zy];omega)]
open Go.RowKit Pl Go.Wk
variable {ls rs:List Row}{d:Nat}{r x:Row}
theorem Qvn(h:r.length=d): pmR (List.range d) r=r:=by
 apply List.ext_getElem
 repeat grind [pmR,List.getD,List.getElem?_eq_getElem]
theorem TriB.nil(w:World)(base:Nat){A:Option Addr}(hl:w.ownsRow base 219 2 (.slice A d d) d (Xb d (λ_=>.slice none 0 0) (λ_=>.slice none 0 0))): TriB w base A d (λ_=>.slice none 0 0) (λ_=>.slice none 0 0) (λ_=>[]) (λ_=>[]) :=
 ⟨hl,⟨λi hi=>Xk _ _ _ _,λi j g _ _ _ e=>by cases e⟩,⟨λi hi=>Xk _ _ _ _,λi j g _ _ _ e=>by cases e⟩⟩
theorem Jmg(l:Nat): (lvl rs l).length<=rs.length:=by
 rw[Im];have:=Jxb (rs.map (List.take (l+1)));rw[List.length_map]at this;exact this
theorem Qxz: stp rs x<=x.length:=by
 unfold stp;split
 .exact(Jfx _ _).2
 exact Nat.zero_le _
theorem Qqx{w:World}{v vc:Value}(hrel:RelV w v d ls)(hlt:Lt [] ls)(hlen:∀ r∈ls,r.length=d)(hc:IntsV w vc (nz (List.range d)))(hd:d<=32)(hbig:ls.length<=65536):
  Ret Tryz.prog 112 [v,vc] w λu w'=>Ext w w'/\∃ t,u=.tuple #[t,.int .i64 0]/\(∃ A,t=.agg #[.slice A d d])/\Off (λk=>k<w.heap.size) w' (λx=>TriV x t d ls):=by
 obtain⟨C,cc,rfl,de,dd,cn⟩:=id hc;obtain⟨rv,rfl,bn⟩:=id hrel;obtain⟨e9,A0,c0,_,rfl,_⟩:=id bn;have b9:(nz (List.range d)).length=d:=by rw[Ju,List.length_range]
 rw[b9]at hc de dd cn ⊢;have cy:∀ {k:Nat},k<d->(List.range d).getD k 0=k:=fun {k} hk=>by simp[List.getD,hk]
 have br:∀ {k:Nat},k<d->(Jp (nz (List.range d)))[k]?=some (.int .i64 (k:Int)):=fun {k} hk=>by
  have:=Qn (cs:=List.range d) (i:=k) (by rw[List.length_range];exact hk);rw[cy hk]at this;exact this
 refine Jz Tryz.func112 Tryz.ntmps112 rfl kr rfl ?_;refine ρ ?_;refine bx ?_;intro w1 b1 ca eh dx;refine ρ ?_;refine alc Jwj ?_;intro w2 b2 c9 dh cx;have c7:=ca.trans c9;refine ρ ?_;refine Jh (fun (k:Nat)=>[(1,.slice C d cc),(2,.pointer (some ⟨b1,0,none⟩)),(4,.pointer (some ⟨b2,0,none⟩)),(15,.slice C d cc),(16,.int .i64 (d:Int)),(17,.int .i64 (k:Int))]) (λk w'=>Ext w2 w'/\k<=d) (λk=>d-k) 0 sB ⟨Ext.refl _,Nat.zero_le _⟩ ?_;rintro k w3 ⟨ar,hk⟩;have a7:=c7.trans ar;have bi:=(dx.ext c9).ext ar;refine ρ ?_;refine ci (λh=>?_) (λh=>?_)
 .have lk:k<d:=by have:=oT h;omega
  have az:=cn.ext a7;refine ρ ?_;refine ix k az lk ?_;refine ρ ?_;refine ld (az.cell (br lk)) ?_;refine ρ ?_;refine kf 24 ?_ ?_
  .exact dF om
  refine ρ ?_;refine ldW bi ?_;refine ρ ?_;refine cl (Jqc (hrel.ext a7)) ?_;rintro u w4 ⟨rfl,ao⟩;refine ρ ?_;refine cf ?_ ?_
  .exact dF om
  refine ρ ?_;refine slh k ?_;refine ρ ?_;have dj:Rd w4 1 C k (Jp ((nz (List.range d)).take k)):=by
   have:=(az.ext ao).take (m:=k) om;rw[Nat.mul_one]at this;have e:Jp ((nz (List.range d)).take k)=(Jp (nz (List.range d))).take k:=by simp[Jp]
   rw[e];exact this
  refine cl (Qhm (t:=(k:Int)) dj (by rw[List.length_take,b9];omega) om) ?_;rintro u w5 ⟨rfl,t,rfl,ht⟩;have da:t=false:=by
   cases t with
   | false=>rfl
   | true=>
    exfalso
    have hm:=ht.1 rfl;obtain⟨i,hi,e⟩:=List.getElem_of_mem hm;rw[List.length_take,b9]at hi;have:((nz (List.range d)).take k)[i]'(by rw[List.length_take,b9];exact hi)=(i:Int):=by simp[nz]
    rw[this]at e;omega
  refine ρ ?_;refine cf da ?_;refine ρ ?_;exact Jg (k+1) sO ⟨ar.trans ao,om⟩ om
 clear h;have cg:ls.map (pmR (List.range d))=ls:=by
  conv=>rhs;rw[<-List.map_id ls]
  exact List.map_congr_left λr hr=>by rw[Qvn (hlen r hr)];rfl
 refine ρ ?_;refine ldW bi ?_;refine ρ ?_;refine cl (Jhc (cs:=List.range d) (hrel.ext a7) (hc.ext a7) hlen (λc hc=>List.mem_range.1 hc) (by rw[List.length_range];exact hd) hbig) ?_;rintro u w4 ⟨ao,pv,rfl,⟨pz,pB,pm,pd,rfl⟩,m,ce,ec,eb,dc⟩;have db:m=ls:=by
  have:=dc (.inr (by rw[cg];exact Yr hlt));rw[cg]at this;exact Ux this.1 hlt this.2
 subst db;rw[List.length_range]at ce;have c6:=a7.trans ao;refine ρ ?_;refine alc Yo ?_;intro w5 b5 d9 dg dw;refine ρ ?_;refine stb dw ?_ (Vy (z:=pz) (A:=pB) (n:=pm) (c:=pd));intro w6 du ee d8;have ac:Ext w4 w6:=d8 w4 d9 dg;have ap:=c6.trans ac;have dn:RelV w6 (.agg #[.int .i64 pz,.slice pB pm pd]) d m:=ce.here.ext ac;refine ρ ?_;refine mkn EL d om (by unfold maxLen;omega) ?_;intro w7 A d7 bp hO;rw[made2]at bp;refine ρ ?_;refine bld (Qms A d d _) ?_;refine ρ ?_;refine alc Jwj ?_;intro w8 b8 d6 df dt;refine ρ ?_;refine stb dt ?_ (one1 (A:=A) (n:=d) (c:=d));intro w9 ds ed d5;have aq:Ext w7 w9:=d5 w7 d6 df;have F:=d7.trans aq;have c5:=ap.trans F;have di:=TriB.nil w9 w6.heap.size (Jc bp aq);have cj:∀ j,(Value.slice A d d).ownBlock=some j->w6.heap.size<=j/\j<w7.heap.size:=by
  obtain⟨_,_,_,_,hf⟩:=Jy bp;exact hf
 refine ρ ?_;refine ldW (du.ext F) ?_;refine ρ ?_;refine cl (Jvt (dn.ext F)) ?_;rintro u an ⟨G,b7⟩;obtain⟨ps,R,rc,ch,rfl,e4,e3,dl,dk⟩:=b7;have ea:ps.length=m.length:=by rw[ch,List.length_map]
 generalize hn:ps.length=n at *
 have aw:∀ i,m.getD i []=(ps.getD i z0).2:=λi=>by rw[ch];exact Jzz
 have bl:=c5.trans G;obtain⟨Ar,b6⟩:∃ Ar:Nat->Prop,Ar=λj=>j<w9.heap.size∨an.heap.size<=j:=⟨_,rfl⟩;have dm:Off Ar an (λu=>Rd u 1 R n (ps.map (·.1))):=dl.mono λj Z av=>by rw[b6]at av;omega
 have bs:∀ p∈ps,Off Ar an (λu=>RowV u p.1 p.2):=λp hp=>(dk p hp).mono λj Z av=>by rw[b6]at av;omega
 have a2:=ds.ext G;have cw:=(((((cx.ext ar).ext ao).ext ac).ext F).ext G);obtain⟨M,hM⟩:∃ M:Nat->Prop,M=λj=>w6.heap.size<=j/\Ar j/\j≠b8:=⟨_,rfl⟩;have bt:∀ j,M j->Ar j:=λj Z=>by rw[hM]at Z;exact Z.2.1
 have b3:¬ M b8:=λe=>by rw[hM]at e;exact e.2.2 rfl
 have cp:¬ M b2:=λe=>by
  rw[hM]at e;have h1:=cx.lt;have h2:=ar.size;have h3:=ao.size;have h4:=ac.size;omega
 refine ρ ?_;refine Zk (fun (k:Nat) (vv fv:Nat->Value)=>[(4,.pointer (some ⟨b2,0,none⟩)),(10,.pointer (some ⟨b8,0,none⟩)),(11,if k=0 then .slice none 0 0 else(ps.getD (k-1) z0).1),(53,.slice R n rc),(54,.int .i64 (n:Int)),(55,.int .i64 (k:Int))])
  (λk vv fv w'=>k<=n/\(∃ fs,TriB w' w6.heap.size A d vv fv (lvl (m.take k)) fs/\(∀ l,l<d->(fs l).length=(lvl (m.take k) l).length)/\∀ l,l+1<d->Fst (m.take k) l (fs l))/\GrN M an w'/\∀ j,Zm A d vv fv j->M j) (λk _ _=>n-k) 0 (λ_=>.slice none 0 0) (λ_=>.slice none 0 0) sB
  ⟨Nat.zero_le _,⟨λ_=>[],(di.ext G).congr (λl O=>rfl) (λl O=>rfl),λl O=>rfl,λl O=>Fst.nil l⟩,GrN.refl _ _,λj Z=>?_⟩ ?_
 .rcases Z with e|⟨l,_,e|e⟩
  .have:=cj j e;rw[hM];refine⟨this.1,by rw[b6];exact .inl (nM this.2 aq.size),λe2=>?_⟩;subst e2;omega
  .cases e
  cases e
 rintro k vv fv a3 ⟨hk,⟨fs,bv,ay,aj⟩,a1,a9⟩;have a6:GrN Ar an a3:=a1.mono λj _ Z=>bt j Z;refine ρ ?_;refine ci (λh=>?_) (λh=>?_)
 .have lk:k<n:=by have:=oT h;omega
  have c4:k<m.length:=om
  clear h;have bh:=dm a3 a6;have co:RowV a3 (ps.getD k z0).1 (m.getD k []):=by rw[aw];exact bs _ (Vz hn lk) a3 a6
  have c8:(m.getD k []).length=d:=hlen _ (getD_mem' [] m c4);have cr:∃ y,RowV a3 (if k=0 then .slice none 0 0 else(ps.getD (k-1) z0).1) y/\(y=[]∨y.length=(m.getD k []).length)/\shr y (m.getD k [])=stp (m.take k) (m.getD k []):=by
   by_cases e:k=0
   .subst e;rw[if_pos rfl];exact⟨[],RowV.nil _ _ _,.inl rfl,by rw[Jvb];rfl⟩
   rw[if_neg e];have d1:k-1<n:=om
   refine⟨m.getD (k-1) [],by rw[aw];exact bs _ (Vz hn d1) a3 a6,.inr (by rw[c8];exact hlen _ (getD_mem' [] m om)),?_⟩;have e2:(m.take k).getLast?=some (m.getD (k-1) []):=by
    rw[List.getLast?_eq_getElem?,List.length_take,Nat.min_eq_left om,List.getElem?_take,if_pos om,Ql [] m om,List.getElem?_eq_getElem om]
   unfold stp;rw[e2]
  obtain⟨y,d4,d3,d2⟩:=cr;have au:m.take (k+1)=m.take k++[m.getD k []]:=Xu [] c4;have ag:Lt [] (m.take k++[m.getD k []]):=by rw[<-au];exact List.Pairwise.sublist (List.take_sublist _ _) hlt
  have a4:∀ r∈m.take k++[m.getD k []],r.length=d:=by rw[<-au];exactλr hr=>hlen r (List.mem_of_mem_take hr)
  refine ρ ?_;refine ix k bh lk ?_;refine ρ ?_;refine ld (Ko bh hn lk) ?_;refine ρ ?_;refine drN (λ_=>False) 4 [(0,0),(0,1),(0,2),(0,3),(1,4),(2,5)] kr ?_;have aa:Ext a3 a3.drew:=(Ext.refl a3).drew;have bq:=a1.trans (GrN.ext aa);have ak:=Ja a2 bq b3;refine ρn ?_;refine Yk (cs:=[.slice A d d]) (λw' hg j u hu=>(Ja ak hg (λe=>e)).at hu) ?_;refine ρn ?_;refine nop ?_;refine cl (Qqv (d4.ext aa) (co.ext aa) d3) ?_;rintro u am ⟨rfl,bd⟩;refine ρ ?_;refine Qg (GrN.ext bd) ?_;rw[d2];have af:=aa.trans bd;have bb:=bv.ext af;have D:=a1.trans (GrN.ext af);have bm:Off (Zm A d vv fv) am (λu=>RowV u (ps.getD k z0).1 (m.getD k [])):=λu hu=>by
   rw[aw];exact bs _ (Vz hn lk) u ((D.mono λj _ Z=>bt j Z).trans (hu.mono λj _ Z=>bt j (a9 j Z)))
  refine Xm ?_;refine cl (Qxc (s:=stp (m.take k) (m.getD k [])) bb bm c8 hd (by have:=Qxz (rs:=m.take k) (x:=m.getD k []);omega) ?_ ?_) ?_
  .have h1:=F.size;have h2:=G.size;have h3:=D.size;omega
  .intro l O;have h1:=Jmg (rs:=m.take k) l;rw[List.length_take]at h1;have h2:=ay l O;omega
  rintro u bw ⟨cz,ab,e1,ax,cq⟩;refine ρ ?_;refine Qa (k+1) cz ab (by repeat' (first|exact Sub.nil|refine Sub.cons (by first|rfl|(refine congrArg (λz=>some (Value.int .i64 z)) ?_;omega)|(rw[if_neg (Nat.succ_ne_zero k)];rfl)) ?_)) ⟨om,⟨_,e1.congr (vs':=lvl (m.take (k+1))) (λl O=>?_) (λl O=>rfl),λl O=>?_,λl O=>?_⟩,D.trans (ax.mono λj _ Z=>a9 j Z),λj Z=>?_⟩ om
  .rw[au,Jmf ag a4 O];by_cases e:stp (m.take k) (m.getD k [])<=l
   .rw[if_pos e,if_neg om]
   rw[if_neg e,if_pos om]
  .rw[au,Jmf ag a4 O];by_cases e:stp (m.take k) (m.getD k [])<=l
   .rw[if_pos e,if_neg (show¬ l+1<=stp (m.take k) (m.getD k []) by omega),List.length_append,List.length_append,ay l O];rfl
   rw[if_neg e,if_pos om];exact ay l O
  .rw[au];by_cases e:stp (m.take k) (m.getD k [])<=l
   .rw[if_pos e,if_pos O,Im];exact(aj l O).more ag a4 e
   rw[if_neg e];exact(aj l O).keep ag a4 om
  rcases cq j Z with h'|h'
  .exact a9 j h'
  rw[hM];have h1:=F.size;have h2:=G.size;have h3:=D.size;have h4:=a2.lt;exact⟨om,by rw[b6];exact .inr om,om⟩
 have ek:k=n:=by have:=oF h;omega
 subst ek;rw[List.take_of_length_le om]at bv ay aj;have ak:=Ja a2 a1 b3;refine ρ ?_;refine ld (ak.at (i:=0) rfl) ?_;refine ρ ?_;refine Qd (fun (k:Nat) (fv:Nat->Value)=>[(4,.pointer (some ⟨b2,0,none⟩)),(10,.pointer (some ⟨b8,0,none⟩)),(69,.int .i64 (d:Int)),(70,.int .i64 (k:Int))])
  (λq ab w'=>q<=d/\TriB w' w6.heap.size A d vv ab (lvl m) (λl=>if l<q then fs l++[if l+1<d then(lvl m (l+1)).length else 0] else fs l)/\GrN M an w'/\∀ j,Zm A d vv ab j->M j) (λq _=>d-q) 0 fv sB
  ⟨Nat.zero_le _,bv.congr (λl O=>rfl) (λl O=>by rw[if_neg om]),a1,a9⟩ ?_
 clear ak a9 a6 a1;rintro q ab am ⟨hq,bb,D,ai⟩;refine ρ ?_;refine ci (λh=>?_) (λh=>?_)
 .have lq:q<d:=by have:=oT h;omega
  clear h;have e5:=ay q lq;have ef:=Jmg (rs:=m) q;obtain⟨own,a8⟩:∃ own,own=(ab q).ownBlock:=⟨_,rfl⟩;have bo:∀ j,own=some j->M j:=λj ej=>ai j (.inr ⟨q,lq,.inr (by rw[<-a8];exact ej)⟩);refine ρ ?_;refine drN (one own) 4 [(0,0),(0,1),(0,2),(0,3),(0,4),(0,5),(0,6),(0,7),(0,8),(0,9),(0,10),(0,11),(1,12),(1,13),(1,14),(0,15),(0,16),(2,17)] kr ?_;have aa:Ext am am.drew:=(Ext.refl am).drew;have J:=bb.ext aa;have a5:=D.trans (GrN.ext aa);have b4:=Ja a2 a5 b3;have nb:¬ one own b8:=λe=>b3 (bo b8 e);have d0:¬ one own (adr A (q*2)).block:=by
   obtain⟨ad,e,_⟩:=J.rd.isome om om;subst e;simp only[adr,Option.getD_some,Yg];intro h';exact Ik J.lev (J.fst.own q lq) rfl rfl (by rw[<-a8];exact h')
  refine ρn ?_;refine nld (Qf (b4.at (i:=0) rfl) nb) ?_;refine ρn ?_;refine nld (Qf (b4.at (i:=0) rfl) nb) ?_;refine ρn ?_;refine Va 2 q J.rd lq ?_;refine ρn ?_;refine nld (Qf (J.f1 lq) (by rw[Yg];exact d0)) ?_;refine ρn ?_;refine Yk (cs:=[.slice A d d]) (λw' hg j u hu=>(Ja b4 hg nb).at hu) ?_;refine ρn ?_;refine nop ?_;refine cl (Jws (l:=q+1) (li:=(q:Int)+1) J.rd (λl O=>by obtain⟨B,c,e,_⟩:=J.vform O;exact⟨B,c,e⟩) om hd) ?_;rintro u bw ⟨rfl,ae⟩;refine ρ ?_;refine Qg (GrN.ext ae) ?_;obtain⟨nn,cd⟩:∃ nn:Nat,nn=if q+1<d then(lvl m (q+1)).length else 0:=⟨_,rfl⟩
  rw[<-cd];refine nop ?_;refine bsl (bs1Int' (nn:Int)) ?_;intro e8 ei bc e6 ck;refine ρ ?_;refine Qg (GrN.ext bc) ?_;have U:=ae.trans bc;have ba:=J.ext U;have bf:=ba.fst.own q lq;rw[if_neg (show¬ q<q by omega)]at bf;refine nop ?_;refine apb (base:=w6.heap.size) EI bf (ck.rd (n:=1) rfl) (λu hu=>by rw[List.mem_singleton.1 hu];rfl) (by unfold maxLen;omega) om ?_ ?_
  .have h1:=F.size;have h2:=G.size;have h3:=a5.size;have h4:=U.size;omega
  intro bz e7 be ah bg;refine ρ ?_;refine Qg (GrN.by ah λj ej=>by rw[<-a8]at ej;exact ej) ?_;have er:Jp (nz (fs q))++[.int .i64 (nn:Int)]=Jp (nz (fs q++[nn])):=by simp[Jp,nz]
  have el:(fs q).length+1=(fs q++[nn]).length:=by simp
  rw[er,el]at be;obtain⟨c1,c2,c3,e0,cm⟩:=ba.setF lq be ah bg;have dz:=Zq ba.lev (ba.fst.own q lq) ah rfl;refine ρn ?_;refine Va 2 q (Rd.own dz) lq ?_;refine ρn ?_;refine Xm ?_;refine sto c1 c2 ?_ (hv:=c3);refine ρ ?_;have dq:∀ g,bz.ownBlock=some g->M g:=λg eg=>by
   rcases bg g eg with h'|h'
   .exact bo g (by rw[a8];exact h')
   rw[hM];have h1:=F.size;have h2:=G.size;have h3:=a5.size;have h4:=U.size;have h5:=a2.lt;exact⟨om,by rw[b6];exact .inr om,om⟩
  refine Qy (q+1) (upd ab q bz) sO ⟨om,e0.congr (λl O=>rfl) (λl O=>?_),?_,Jlh (M:=M) ai lq dq⟩ om
  .by_cases e:l=q
   .subst e;rw[Qw,if_pos (show l<l+1 by omega),cd]
   rw[Jm _ _ e];by_cases e2:l<q
   .rw[if_pos e2,if_pos (show l<q+1 by omega)]
   rw[if_neg e2,if_neg (show¬ l<q+1 by omega)]
  exact((a5.trans (GrN.ext U)).trans (GrN.by ah λj ej=>bo j (by rw[a8];exact ej))).trans (GrN.by cm λj ej=>ai j (.inl ej))
 have eq:q=d:=by have:=oF h;omega
 subst eq;have cu:=Ja a2 D b3;have cv:=Ja cw D cp;refine ρ ?_;refine ldW cu ?_;refine ρ ?_;refine stb cv ?_ (one1 (A:=A) (n:=q) (c:=q));intro bw bu ax ae;refine ρ ?_;have bj:Ext w am:=D.old bl λj Z=>by rw[hM]at Z;exact nL ap.size Z.1
 refine Zz bu ⟨ae w bj (nL ca.size dh),_,rfl,⟨A,rfl⟩,?_⟩;have cb:=bb.off (N:=λj=>j<w.heap.size∨j=b2) (λl O=>?_) (λj Z av=>?_)
 .refine(cb.grown ax (λj ej=>.inr (by injection ej with ej;exact ej.symm))).mono λj _ Z=>.inl Z
 .rw[if_pos (show l<q by omega),if_pos O,Im];exact(aj l O).close
 have h1:=ai j Z;rcases av with h'|h'
 .rw[hM]at h1;have:=ap.size;omega
 subst h';exact cp h1
end Go.Proofs.YtebiphhfkdbpfaaGreat
namespace Go.Wk
open Go.RowKit
variable {a:Act}{cs us:List Value}{g j m n o:Nat}{i x y:Operand}{p:Option Addr}{k:TK}{e t t2:TypeId}{u v:Value}{w:World}
section
variable {N:Nat->Prop} {P:Program} {n:Nat} {al:AL} {w:World} {Q:Exit->Act->World->Prop} {ops:Array Oper} {rest:List Oper} {drest:List (Nat×Oper)}
variable {d ty:Nat} {op:Op} {pos:String} {aft:Array Edge} {tt:TT}
theorem Jgm(hT:TOk P tt)(ht:tk tt t=some k)(hk:k.desc=.pointer e)(ha:Fr n al a)(hx:ev al x=some (.pointer p))(dst:Option Nat)(w:World):
  (execOp a.eval ⟨dst,.binOp .eql t x (.const (.pointer none)) t2,ty,pos,aft,none⟩).run P w=.ok (.value (.bool p.isNone)) w:=by
 have i:=Yl hT ht hk rfl;have h:∀ d:Nat,(Op.equalIn (d+1) t (.pointer p) (.pointer none)).run P w=.ok p.isNone w:=λd=>by cases p<;>simp[Op.equalIn,run_underlying i]
 have j:a.eval (.const (.pointer none))=.pointer none:=rfl;simp[execOp,ha.ev hx,j,eqGuard,binOp,Op.equal,Op.maxDepth,h 9999]
theorem Qzr(hT:TOk P tt)(ht:tk tt t=some k)(hk:k.desc=.pointer e)(ha:Fr n al a)(hx:ev al x=some (.pointer p))(dst:Option Nat)(w:World):
  (execOp a.eval ⟨dst,.binOp .neq t x (.const (.pointer none)) t2,ty,pos,aft,none⟩).run P w=.ok (.value (.bool (!p.isNone))) w:=by
 have i:=Yl hT ht hk rfl;have h:∀ d:Nat,(Op.equalIn (d+1) t (.pointer p) (.pointer none)).run P w=.ok p.isNone w:=λd=>by cases p<;>simp[Op.equalIn,run_underlying i]
 have j:a.eval (.const (.pointer none))=.pointer none:=rfl;simp[execOp,ha.ev hx,j,eqGuard,binOp,Op.equal,Op.maxDepth,h 9999]
theorem pnl[h:Tab P tt](kk:WL P n ops Q rest ((d,.bool p.isNone)::al) w)(ht:tk tt t=some k:=by rfl)(hk:k.desc=.pointer e:=by rfl)(hx:ev al x=some (.pointer p):=by rfl)(hd:Nat.blt d n=true:=by rfl):
  WL P n ops Q (⟨some d,.binOp .eql t x (.const (.pointer none)) t2,ty,pos,aft,none⟩::rest) al w:=wop hd (λa i=>Jgm h.ok ht hk i hx (some d) w) kk
theorem dpnl[h:Tab P tt](kk:WD P n ops Q drest ((d,.bool p.isNone)::al) w)(ht:tk tt t=some k:=by rfl)(hk:k.desc=.pointer e:=by rfl)(hx:ev al x=some (.pointer p):=by rfl)(hd:Nat.blt d n=true:=by rfl):
  WD P n ops Q ((0,⟨some d,.binOp .eql t x (.const (.pointer none)) t2,ty,pos,aft,none⟩)::drest) al w:=dy (λw' _ a i=>Jgm h.ok ht hk i hx (some d) w') hd kk
theorem dpnn[h:Tab P tt](kk:WD P n ops Q drest ((d,.bool (!p.isNone))::al) w)(ht:tk tt t=some k:=by rfl)(hk:k.desc=.pointer e:=by rfl)(hx:ev al x=some (.pointer p):=by rfl)(hd:Nat.blt d n=true:=by rfl):
  WD P n ops Q ((0,⟨some d,.binOp .neq t x (.const (.pointer none)) t2,ty,pos,aft,none⟩)::drest) al w:=dy (λw' _ a i=>Qzr h.ok ht hk i hx (some d) w') hd kk
theorem nixa[h:Tab P tt]{t e:Nat}{p:Addr}{kd:IntKind}{z:Int}(j:Nat)(hlt:j<m)(kk:WN N P n ops Q drest ((d,.pointer (some (p.add (j*k.esz))))::al) w)(ht:tk tt t=some k:=by rfl)(hk:k.desc=.array m e:=by rfl)(hx:ev al x=some (.pointer (some p)):=by rfl)(hi:ev al i=some (.int kd z):=by rfl)(hj:z=(j:Int):=by first|rfl|omega)(hd:Nat.blt d n=true:=by rfl): WN N P n ops Q ((0,⟨some d,.indexAddr t x i,ty,pos,aft,none⟩)::drest) al w :=
 ny_ (λw' _ a u=>Jgp h.ok j ht hk hlt u hx hi hj (some d) w') hd kk
theorem stB[h:Tab P tt]{t bt:Nat}{p:Addr}(hb:Blk w g bt cs)(ho:o+us.length<=cs.length)(h1:∀ u∈us,u.oneCell'=true)(kk:∀ w1,Blk w1 g bt (cs.take o++us++cs.drop (o+us.length))->w.grownBy w1 (some g)->WL P n ops Q rest al w1)(ht:tk tt t=some k:=by rfl)(hk:k.desc=.invalid:=by rfl)(hs:k.size=us.length:=by rfl)(hx:ev al x=some (.pointer (some p)):=by rfl)(hp:p=⟨g,o,none⟩:=by rfl)(hy:ev al y=some (.agg us.toArray):=by rfl):
  WL P n ops Q (⟨none,.store t x y,ty,pos,aft,none⟩::rest) al w:=by
 subst hp;have F:=Io w g (cs.take o++us++cs.drop (o+us.length)).toArray;have i:=run_storeCells_at (P:=P) g o bt us 0 cs.toArray w hb (by simpa using ho) h1;simp only[Nat.add_zero]at i;refine Kh (λa D=>?_) (kk (w.setRow g (cs.take o++us++cs.drop (o+us.length)).toArray) (setRow_heap w g _ _ _ _ hb) F);have j:=Vj w (Jjw h.ok ht hk w).2;simp[execOp,D.ev hx,D.ev hy,Instr.storeAt,Instr.sureAddr,storeVar,Value.cells,j,hs,i]
end
theorem Qjh{P:Program}{al:AL}{Q Q':Exit->Act->World->Prop}{ops:Array Oper}{α β:Type}{d:Code}{l:List Oper}(fr:α->β->AL)(I:α->β->World->Prop)(h1:WL P n ops (Exit.then (λa w=>∃ x y,Fr n (fr x y) a/\I x y w) Q) l al w)(h2:∀ x y w,I x y w->WC P n d Q' (fr x y) w): WL P n ops (Exit.then (d.wp P Q') Q) l al w:=by
 intro a j;refine Jxm ?_ l a w (h1 a j);intro e F w' i;cases e with
 | normal=>obtain⟨x,y,D,u⟩:=i;exact h2 x y w' u F D
 | exit id=>exact i
 | goto l=>exact i
 | ret=>exact i
 | panic c=>exact i
 | outgrown=>exact i
theorem seg2(h:o+2<=cs.length): cs.take o++[u,v]++cs.drop (o+2)=(cs.set o u).set (o+1) v:=by
 apply List.ext_getElem?
 intro i;rw[List.getElem?_set,List.getElem?_set,List.append_assoc];grind
theorem Blk.sub(h:Blk w g t cs){i:Nat}(hv:cs[i+j]?=some v): w.cell? ((⟨g,i,none⟩:Addr).add j)=some v:=by rw[Zt,h.cell];exact hv
end Go.Wk
namespace Go.Proofs.YtebiphhfkdbpfaaGreat
open Go.RowKit Pl Go.Wk
attribute [local irreducible] WC WL QX WD WDB WP WN
variable {d k:Nat}
def itC(A:Option Addr)(d L p e:Nat)(f h:Nat->Nat)(st:Int): List Value:=[.slice A d d,.int .i64 (L:Int),.int .i64 (p:Int),.int .i64 (e:Int)]++Xb 32 (λk=>.int .i64 (f k:Int)) (λk=>.int .i64 (h k:Int))++[.int .i64 st]
theorem Jkf(A:Option Addr)(d L p e:Nat)(f h:Nat->Nat)(st:Int): (itC A d L p e f h st).length=69:=by grind [itC,List.length_append,Zy]
theorem Jyv(A:Option Addr)(d L p e:Nat)(f h:Nat->Nat)(st:Int): (itC A d L p e f h st)[68]?=some (.int .i64 st):=by grind [itC,List.getElem?_append_right,List.length_append,Zy]
theorem Qdx(A:Option Addr)(d L p e:Nat)(f h:Nat->Nat)(st st':Int): (itC A d L p e f h st).set 68 (.int .i64 st')=itC A d L p e f h st':=by
 unfold itC;rw[List.set_append_right _ _ (by rw[List.length_append,Zy];simp),List.length_append,Zy];rfl
theorem Qfb(A:Option Addr)(d L p e:Nat)(f h:Nat->Nat)(st:Int)(hk:k<32): (itC A d L p e f h st)[4+k*2]?=some (.int .i64 (f k:Int))/\(itC A d L p e f h st)[4+k*2+1]?=some (.int .i64 (h k:Int)):=by grind [Ya,itC,List.getElem?_append_left,List.length_append,Zy,List.getElem?_append_right]
theorem Jfc(f:Nat->Nat)(k x:Nat): (λj=>Value.int .i64 ((upd f k x j:Nat):Int))=upd (λj=>Value.int .i64 (f j:Int)) k (.int .i64 (x:Int)):=by
 funext j;unfold upd;split<;>rfl
theorem Qdz(A:Option Addr)(d L p e:Nat)(f h:Nat->Nat)(st:Int)(hk:k<32)(x y:Nat): ((itC A d L p e f h st).set (4+k*2) (.int .i64 (x:Int))).set (4+k*2+1) (.int .i64 (y:Int))=itC A d L p e (upd f k x) (upd h k y) st:=by
 unfold itC;have j:∀(X:List Value),([Value.slice A d d,.int .i64 (L:Int),.int .i64 (p:Int),.int .i64 (e:Int)]++X).set (4+k*2) (.int .i64 (x:Int))=[Value.slice A d d,.int .i64 (L:Int),.int .i64 (p:Int),.int .i64 (e:Int)]++X.set (k*2) (.int .i64 (x:Int)):=λX=>by grind
 have i:∀(X:List Value),([Value.slice A d d,.int .i64 (L:Int),.int .i64 (p:Int),.int .i64 (e:Int)]++X).set (4+k*2+1) (.int .i64 (y:Int))=[Value.slice A d d,.int .i64 (L:Int),.int .i64 (p:Int),.int .i64 (e:Int)]++X.set (k*2+1) (.int .i64 (y:Int)):=λX=>by grind
 rw[List.set_append_left _ _ (by grind [List.length_append,Zy]),j,Jpg _ _ _ hk,List.set_append_left _ _ (by grind [List.length_append,Zy]),i,Jpf _ _ _ hk,Jfc,Jfc]
abbrev ItB(w:World)(g:Nat)(A:Option Addr)(d L p e:Nat)(f h:Nat->Nat)(st:Int): Prop:=Blk w g 224 (itC A d L p e f h st)
def TriA(w:World)(A:Option Addr)(d:Nat)(rs:List Row): Prop:=∃(vv fv:Nat->Value) (fs:Nat->List Nat),Rd w 2 A d (Xb d vv fv)/\(∀ l,l<d->∃ B c,vv l=.slice B (lvl rs l).length c/\RdR w B (lvl rs l)) /\
 (∀ l,l<d->∃ B c,fv l=.slice B (fs l).length c/\Rd w 1 B (fs l).length (Jp (nz (fs l))))/\∀ l,l+1<d->Chl rs l (fs l)
theorem TriV.a{w:World}{A:Option Addr}{rs:List Row}(h:TriV w (.agg #[.slice A d d]) d rs): TriA w A d rs:=by
 obtain⟨u,vv,fv,fs,i,j⟩:=h;injection i with i
 have:Value.slice A d d=.slice u d d:=by simpa using i
 injection this with i
 subst i;exact⟨vv,fv,fs,j⟩
theorem TriA.ext{w w':World}{A:Option Addr}{d:Nat}{rs:List Row}(h:TriA w A d rs)(hx:Ext w w'): TriA w' A d rs:=by
 obtain⟨vv,fv,fs,u,D,y,j⟩:=h;refine⟨vv,fv,fs,u.ext hx,λl i=>?_,λl i=>?_,j⟩;repeat grind [Rd.ext]
section
variable {w:World} {g:Nat} {A:Option Addr} {d L p e:Nat} {f h:Nat->Nat} {st:Int}
theorem Iy(hB:ItB w g A d L p e f h st): Ret Tryz.prog 168 [.pointer (some ⟨g,0,none⟩)] w λu w'=>u=.bool (decide (0<L/\p<e))/\Ext w w':=by
 refine Jz Tryz.func168 Tryz.ntmps168 rfl kr rfl ?_;refine ρ ?_;refine dr [(0,0),(0,1),(0,2),(0,3),(0,4),(0,5),(0,6),(0,7),(0,8),(0,9),(0,10),(0,11),(0,12),(0,13),(0,14),(0,15),(0,16),(0,17),(0,18),(0,19),(0,20),(0,21),(0,22)] kr ?_;have y:Ext w w.drew:=(Ext.refl w).drew;have j:=hB.ext y;refine ρd ?_;refine dpnn ?_;refine ρd ?_;refine dld (j.at (i:=1) rfl) ?_;refine ρd ?_;refine dki 12 (λD=>?_) (λD=>?_)
 .have F:0<L:=by have:=oT D;omega
  refine ρd ?_;refine dld (j.at (i:=2) rfl) ?_;refine ρd ?_;refine dld (j.at (i:=3) rfl) ?_;refine ρd ?_;refine ρ ?_;refine Jq ⟨?_,y⟩;congr 1
  grind
 have F:¬ 0<L:=by have:=oF D;omega
 refine ρd ?_;refine ρ ?_;refine Jq ⟨?_,y⟩;grind
end
open Go.RowKit Pl Go.Wk
variable {qi:Int}{j k q:Nat}
theorem Jjm: Qu Tryz.prog 75=some V0.val:=kr
section
variable {w:World} {g:Nat} {A:Option Addr} {d L p e:Nat} {f h:Nat->Nat} {st:Int} {rs:List Row}
theorem Jnc(hB:ItB w g A d L p e f h st)(hT:TriA w A d rs)(hL:0<L)(hLd:L<=d)(hd:d<=32)(hq:q<(lvl rs (L-1)).length)(hqi:qi=(q:Int)): Ret Tryz.prog 171 [.pointer (some ⟨g,0,none⟩),.int .i64 qi] w λu w'=>u=((lvl rs (L-1)).getD q V0).val/\Ext w w':=by
 subst hqi;obtain⟨vv,fv,fs,hR,hv,hf,hc⟩:=hT;have J:L-1<d:=om
 obtain⟨B,c,Z,a2⟩:=hv (L-1) J;refine Jz Tryz.func171 Tryz.ntmps171 rfl kr rfl ?_;refine ρ ?_;refine alc (cs:=V0.cells) Jjm ?_;intro w1 b U hb a3;refine ρ ?_;refine drN (λ_=>False) 4 [(0,0),(0,1),(0,2),(0,3),(0,4),(0,5),(0,6),(0,7),(0,8),(0,9),(0,10),(0,11),(0,12),(0,13),(0,14),(0,15),(2,16)] kr ?_;have y:=U.drew;have G:=hB.ext y;have F:=hR.ext y;have D:RdR _ B (lvl rs (L-1)):=Rd.ext a2 y;have a1:w1.drew.cell? ((adr A ((L-1)*2)).add 0)=some (vv (L-1)):=by rw[add_zero];exact F.cell (Ya d vv fv J).1
 refine ρn ?_;refine nld (Qf (G.at (i:=0) rfl) (λe=>e)) ?_;refine ρn ?_;refine nld (Qf (G.at (i:=1) rfl) (λe=>e)) ?_;refine ρn ?_;refine Va 2 (L-1) F J ?_;refine ρn ?_;refine nld (Qf a1 (λe=>e)) ?_;rw[Z];refine ρn ?_;refine Va 3 q D hq ?_;refine ρn ?_;refine Yk (cs:=((lvl rs (L-1)).getD q V0).cells) (λw' hg j u hu=>RdR.cell (Rd.ext D hg.toExt) hq hu) ?_;refine ρn ?_;refine Xm ?_;refine stb (cs':=((lvl rs (L-1)).getD q V0).cells) (a3.ext (Ext.refl w1).drew) ?_ (V.one _);intro w2 a4 a5 O;refine ρ ?_;exact Zb a4 ⟨rfl,O w y hb⟩
theorem Jys{v:V}(hB:ItB w g A d L p e f h st)(hT:Off (λk=>k=g) w (λu=>TriA u A d rs))(hL:0<L)(hLd:L<=d)(hd:d<=32)(hq:q<(lvl rs (L-1)).length)(hqi:qi=(q:Int)): Ret Tryz.prog 180 [.pointer (some ⟨g,0,none⟩),.int .i64 qi,v.val] w λu w'=>u=.bool (decide (cmpV ((lvl rs (L-1)).getD q V0) v<0))/\GrN (λk=>k=g) w w'/\∃ st',ItB w' g A d L p e f h st':=by
 refine Jz Tryz.func180 Tryz.ntmps180 rfl kr rfl ?_;refine ρ ?_;refine bx (cs:=v.cells) ?_;intro w1 b U hb a3;have D:=hB.ext U;refine ρ ?_;refine ld (D.at (i:=68) (Jyv _ _ _ _ _ _ _ _)) ?_;refine ρ ?_;have a4:w1.cell? ⟨g,0+68,none⟩=some (.int .i64 st):=by rw[D.cell];exact Jyv _ _ _ _ _ _ _ _
 refine sto a4 (D.frozen _) ?_;obtain⟨st',Z⟩:∃ st':Int,st'=IntKind.i64.wrap (st+1):=⟨_,rfl⟩;rw[<-Z];have G:=D.set (0+68) (.int .i64 st');rw[show(0:Nat)+68=68 from rfl,Qdx]at G;have a1:GrN (λk=>k=g) w (w1.setCell ⟨g,68,none⟩ (.int .i64 st')):=(GrN.ext U).trans (GrN.set _ rfl);have a2:Blk (w1.setCell ⟨g,68,none⟩ (.int .i64 st')) b 75 v.cells:=a3.far (by simp only;have:=hB.lt;omega) _;refine ρ ?_;generalize hw2:w1.setCell ⟨g,68,none⟩ (.int .i64 st')=w2 at *
 refine dr [(0,0),(0,1),(0,3),(1,2),(1,4),(0,5),(0,6)] kr ?_;have y:Ext w2 w2.drew:=(Ext.refl w2).drew;refine ρd ?_;refine Qj (cs:=v.cells) (λj u hu=>(a2.ext y).at hu) ?_;refine ρd ?_;refine dcl (Jnc (G.ext y) (hT _ (a1.trans (GrN.ext y))) hL hLd hd hq hqi) ?_;rintro u w3 ⟨rfl,O⟩;refine⟨O,?_⟩;refine ρd ?_;refine dcl (Jxq _ v _) ?_;rintro u w4 ⟨rfl,J⟩;refine⟨J,?_⟩;refine ρd ?_;refine ρ ?_;have F:=(y.trans O).trans J;exact Jq ⟨rfl,a1.trans (GrN.ext F),st',G.ext F⟩
theorem Jyt(hB:ItB w g A d L p e f h st)(hT:TriA w A d rs)(hLd:L<=d)(hd:d<=32)(he:0<L->e<=(lvl rs (L-1)).length): Ret Tryz.prog 143 [.pointer (some ⟨g,0,none⟩)] w λu w'=>Ext w w'/\∃ v:V,u=.tuple #[v.val,.bool (decide (0<L/\p<e))]/\(0<L/\p<e->v=(lvl rs (L-1)).getD p V0):=by
 refine Jz Tryz.func143 Tryz.ntmps143 rfl kr rfl ?_;refine ρ ?_;refine alc (cs:=V0.cells) Jjm ?_;intro w1 b G hb O;refine ρ ?_;refine cl (Iy (hB.ext G)) ?_;rintro u w2 ⟨rfl,F⟩;have j:=G.trans F;refine ρ ?_;refine ci (λh1=>?_) (λh1=>?_)
 .have J:¬ (0<L/\p<e):=by grind
  refine ρ ?_;refine bld (v:=V0.val) kr ?_;refine ρ ?_;refine stb (cs':=V0.cells) (O.ext F) ?_ (V.one _);intro w3 a2 a4 D;refine ρ ?_;refine Zz a2 ⟨D w j hb,V0,?_,λh'=>absurd h' J⟩;rw[decide_eq_false J];rfl
 have y:0<L/\p<e:=by grind
 have U:=hB.ext j;refine ρ ?_;refine ld (U.at (i:=2) rfl) ?_;refine ρ ?_;refine cl (Jnc (q:=p) (qi:=(p:Int)) U (hT.ext j) y.1 hLd hd (by have:=he y.1;omega) rfl) ?_;rintro u w3 ⟨rfl,D⟩;refine ρ ?_;refine stb (cs':=((lvl rs (L-1)).getD p V0).cells) ((O.ext F).ext D) ?_ (V.one _);intro w4 a1 a3 Z;refine ρ ?_;refine Zz a1 ⟨Z w (j.trans D) hb,_,?_,λ_=>rfl⟩;rw[decide_eq_true y];rfl
theorem Qdw(hB:ItB w g A d L p e f h st)(hL:0<L)(hp:p<e)(hpe:e<=1000000): Ret Tryz.prog 142 [.pointer (some ⟨g,0,none⟩)] w λu w'=>u=.bool (decide (p+1<e))/\GrN (λk=>k=g) w w'/\ItB w' g A d L (p+1) e f h st:=by
 refine Jz Tryz.func142 Tryz.ntmps142 rfl kr rfl ?_;refine ρ ?_;refine cl (Iy hB) ?_;rintro u w1 ⟨rfl,D⟩;refine ρ ?_;refine cf ?_ ?_
 .simp[hL,hp]
 have j:=hB.ext D;refine ρ ?_;refine ld (j.at (i:=2) rfl) ?_;refine ρ ?_;refine sto (p:=⟨g,2,none⟩) (j.cell 2) (j.frozen _) ?_;have F:ItB (w1.setCell ⟨g,2,none⟩ (.int .i64 ((p:Int)+1))) g A d L (p+1) e f h st:=by
  have:=j.set 2 (.int .i64 ((p:Int)+1));exact this
 have G:GrN (λk=>k=g) w (w1.setCell ⟨g,2,none⟩ (.int .i64 ((p:Int)+1))):=(GrN.ext D).trans (GrN.set _ rfl);refine ρ ?_;refine cl (Iy F) ?_;rintro u J ⟨rfl,y⟩;refine ρ ?_;refine Jq ⟨?_,G.trans (GrN.ext y),F.ext y⟩;grind
theorem Qnv(hB:ItB w g A d L p e f h st)(hk:k<32){u:Value}(hu:[Value.int .i64 (f k:Int),.int .i64 (h k:Int)][j]?=some u): w.cell? (((⟨g,0+4,none⟩:Addr).add (k*2)).add j)=some u:=by
 have i:=Qfb A d L p e f h st hk;rw[Zt,Zt,hB.cell];grind
theorem Qdr(hB:ItB w g A d (L+1) p e f h st)(hL:L<32): Ret Tryz.prog 144 [.pointer (some ⟨g,0,none⟩)] w λu w'=>GrN (λk=>k=g) w w'/\ItB w' g A d L (f L) (h L) f h st:=by
 refine Jz Tryz.func144 Tryz.ntmps144 rfl kr rfl ?_;refine ρ ?_;refine pnl ?_;refine ρ ?_;refine ld (hB.at (i:=1) rfl) ?_;refine ρ ?_;refine ld (hB.at (i:=1) rfl) ?_;refine ρ ?_;refine sto (p:=⟨g,1,none⟩) (hB.cell 1) (hB.frozen _) ?_;have eL:((L+1:Nat):Int)-1=(L:Int):=om
 rw[eL];have U:ItB (w.setCell ⟨g,1,none⟩ (.int .i64 (L:Int))) g A d L p e f h st:=hB.set 1 (.int .i64 (L:Int));have J:GrN (λk=>k=g) w (w.setCell ⟨g,1,none⟩ (.int .i64 (L:Int))):=GrN.set _ rfl;refine ρ ?_;generalize w.setCell ⟨g,1,none⟩ (.int .i64 (L:Int))=w2 at *
 refine drN (λ_=>False) 4 [(0,0),(0,1),(0,2),(0,3),(0,4),(0,5),(0,6),(0,7),(0,8),(0,9),(0,10),(0,11),(2,12)] kr ?_;have D:Ext w2 w2.drew:=(Ext.refl w2).drew;have y:=U.ext D;refine ρn ?_;refine nld (Qf (y.at (i:=1) rfl) (λe=>e)) ?_;refine ρn ?_;refine nixa L hL ?_;refine ρn ?_;refine Yk (cs:=[.int .i64 (f L:Int),.int .i64 (h L:Int)]) (λw' Z j u F=>Qnv (Ja y Z (λe=>e)) hL F) ?_;refine ρn ?_;refine Xm ?_;refine stB (o:=2) (us:=[.int .i64 (f L:Int),.int .i64 (h L:Int)]) y (by rw[Jkf];simp) (λu F=>by simp at F;rcases F with rfl|rfl<;>rfl) ?_;intro w4 O G;refine ρ ?_;exact Jq ⟨J.trans ((GrN.ext D).trans (GrN.by G λk e=>by injection e with e;exact e.symm)),O⟩
theorem Qds(hB:ItB w g A d L p e f h st): Ret Tryz.prog 115 [.pointer (some ⟨g,0,none⟩)] w λu w'=>u=.int .i64 st/\w'=w:=by
 refine Jz Tryz.func115 Tryz.ntmps115 rfl kr rfl ?_;refine ρ ?_;refine pnl ?_;refine ρ ?_;refine ld (hB.at (i:=68) (Jyv _ _ _ _ _ _ _ _)) ?_;refine ρ ?_;exact Jq ⟨rfl,rfl⟩
theorem Qmp(A:Option Addr)(d:Nat)(w:World): (Instr.build 224 #[(0,.agg #[.slice A d d])]).run Tryz.prog w=.ok (.agg (itC A d 0 0 0 (λ_=>0) (λ_=>0) 0).toArray) w:=kr
theorem Qqz(w:World): Ret Tryz.prog 113 [.agg #[.slice A d d]] w λu w'=>Ext w w'/\∃ g,u=.pointer (some ⟨g,0,none⟩)/\w.heap.size<=g/\ItB w' g A d 0 0 0 (λ_=>0) (λ_=>0) 0:=by
 refine Jz Tryz.func113 Tryz.ntmps113 rfl kr rfl ?_;refine ρ ?_;refine bx ?_;intro w1 b i J F;refine ρ ?_;refine ldW F ?_;refine ρ ?_;refine bld (Qmp A d _) ?_;refine ρ ?_;refine bx (cs:=itC A d 0 0 0 (λ_=>0) (λ_=>0) 0) ?_;intro w2 G j y D;refine ρ ?_;exact Jq ⟨i.trans j,G,rfl,Nat.le_trans i.size y,D⟩
end
open Go.RowKit Pl Go.Wk
section
variable {w:World} {g:Nat} {A:Option Addr} {d L p e:Nat} {f h:Nat->Nat} {st:Int} {rs:List Row}
theorem Qdt{v:V}(hB:ItB w g A d L p e f h st)(hT:Off (λk=>k=g) w (λu=>TriA u A d rs))(hL:0<L)(hLd:L<=d)(hd:d<=32)(hpe:p<e)(he:e<=(lvl rs (L-1)).length)(hm:e<=1000000)(hs:∀ i j,p<=i->i<j->j<e->cmpV ((lvl rs (L-1)).getD i V0) ((lvl rs (L-1)).getD j V0)<0):
  Ret Tryz.prog 170 [.pointer (some ⟨g,0,none⟩),v.val] w λu w'=>GrN (λk=>k=g) w w'/\∃ q st',u=.bool (decide (q<e))/\p<=q/\q<=e/\(∀ i,p<=i->i<q->cmpV ((lvl rs (L-1)).getD i V0) v<0)/\(q<e->¬ cmpV ((lvl rs (L-1)).getD q V0) v<0)/\ItB w' g A d L q e f h st':=by
 obtain⟨val,b1⟩:∃ val:Nat->V,val=λi=>(lvl rs (L-1)).getD i V0:=⟨_,rfl⟩;have aa:∀ i,(lvl rs (L-1)).getD i V0=val i:=λi=>by rw[b1]
 simp only[aa]at hs ⊢;have ar:∀ {y i:Nat},p<=i->i<=y->y<e->cmpV (val y) v<0->cmpV (val i) v<0:=fun {y i} G h2 h3 h4=>by
  by_cases e':i=y
  .subst e';exact h4
  exact cmp_V.lt_trans (hs i y G om h3) h4
 refine Jz Tryz.func170 Tryz.ntmps170 rfl kr rfl ?_;refine ρ ?_;refine bx (cs:=v.cells) ?_;intro w1 b az hb bb;have b9:b≠g:=by have:=hB.lt;omega
 have ab:¬ (λk=>k=g) b:=b9;refine ρ ?_;refine cl (Iy (hB.ext az)) ?_;rintro u w2 ⟨rfl,ay⟩;have ai:=az.trans ay;have bc:=hB.ext ai;have ba:GrN (λk=>k=g) w w2:=GrN.ext ai;refine ρ ?_;refine cf ?_ ?_
 .simp[hL,hpe]
 refine ρ ?_;refine drN (λ_=>False) 10 [(0,0),(0,1),(0,2),(0,3),(0,4),(0,5),(0,6),(2,7),(2,8)] kr ?_;have ak:Ext w2 w2.drew:=(Ext.refl w2).drew;have ap:=bc.ext ak;have a7:=(bb.ext ay).ext ak;have ao:=ba.trans (GrN.ext ak);refine ρn ?_;refine nld (Qf (ap.at (i:=2) rfl) (λe=>e)) ?_;refine ρn ?_;refine Yk (cs:=v.cells) (λw' hg j u hu=>(Ja a7 hg (λe=>e)).at hu) ?_;refine ρn ?_;refine Xm ?_;refine cl (Jys (q:=p) (qi:=(p:Int)) ap (hT.gr ao) hL hLd hd om rfl) ?_;rintro u w4 ⟨rfl,an,aw,ah⟩;have aj:=Ja a7 an ab;have a4:=ao.trans an;refine ρ ?_;refine Uf ?_;refine Xm ?_;refine ρ ?_;rw[aa];refine ci (λG=>?_) (λG=>?_)
 .have h2:¬ cmpV (val p) v<0:=by simpa using G
  refine ρ ?_;refine Jq ⟨a4,p,aw,by rw[decide_eq_true hpe],Nat.le_refl _,om,λi G h2=>om,λ_=>h2,ah⟩
 have h2:cmpV (val p) v<0:=by simpa using G
 clear G;refine ρ ?_;refine ld (ah.at (i:=2) rfl) ?_;refine ρ ?_;refine Zk (fun (y step:Nat) (st:Int)=>[(0,.pointer (some ⟨g,0,none⟩)),(3,.pointer (some ⟨b,0,none⟩)),(5,.int .i64 (y:Int)),(6,.int .i64 (step:Int))])
  (λy step st w'=>GrN (λk=>k=g) w w'/\ItB w' g A d L p e f h st/\Blk w' b 75 v.cells/\p<=y/\y<e/\cmpV (val y) v<0/\1<=step/\step<=2000000) (λy _ _=>e-y) p 1 aw sB
  ⟨a4,ah,aj,Nat.le_refl _,hpe,h2,Nat.le_refl _,om⟩ ?_
 clear ah aj a4 an ap a7 ao;rintro y step b4 w5 ⟨ae,ag,J,ac,b7,a1,b6,b5⟩;refine ρ ?_;refine ld (ag.at (i:=3) rfl) ?_;refine ρ ?_;refine Qjh (fun (t:Bool) (st:Int)=>[(0,.pointer (some ⟨g,0,none⟩)),(3,.pointer (some ⟨b,0,none⟩)),(5,.int .i64 (y:Int)),(6,.int .i64 (step:Int)),(42,.bool t)])
  (λt st w'=>GrN (λk=>k=g) w w'/\ItB w' g A d L p e f h st/\Blk w' b 75 v.cells/\(t=true->y+step<e/\cmpV (val (y+step)) v<0)/\(t=false->e<=y+step∨¬ cmpV (val (y+step)) v<0)) ?_ ?_
 .refine ki 35 (λG=>?_) (λG=>?_)
  .have h3:y+step<e:=by have:=oT G;omega
   refine ρ ?_;refine lds (cs:=v.cells) (λj u hu=>J.at hu) ?_;refine ρ ?_;refine cl (Jys (q:=y+step) (qi:=(y:Int)+(step:Int)) ag (hT.gr ae) hL hLd hd om om) ?_;rintro u w6 ⟨rfl,U,a9,Z⟩;refine ρ ?_;rw[aa];refine Xl _ a9 sB ⟨ae.trans U,Z,Ja J U ab,λh'=>⟨h3,of_decide_eq_true h'⟩,λh'=>.inr (oF h')⟩
  refine ρ ?_;exact Xl false b4 sB ⟨ae,ag,J,λh'=>(by cases h'),λ_=>.inl (by grind)⟩
 clear ae ag J;rintro t a9 w6 ⟨U,Z,a6,b3,b2⟩;refine ci (λG=>?_) (λG=>?_)
 .obtain⟨h3,h4⟩:=b3 G;refine ρ ?_;exact Qa (y+step) (step*2) a9 sO ⟨U,Z,a6,om,om,h4,om,om⟩ om
 have h3:=b2 G;clear b3 b2 G;refine ρ ?_;refine ld (Z.at (i:=3) rfl) ?_;refine ρ ?_;have b8:∃ hi:Nat,(if(e:Int)<(y:Int)+(step:Int) then(e:Int) else(y:Int)+(step:Int))=(hi:Int)/\y<hi/\hi<=e/\(hi<e->¬ cmpV (val hi) v<0):=by
  by_cases h4:e<y+step
  repeat grind
 obtain⟨hi,aq,am,a3,a2⟩:=b8;rw[aq];refine Zk (fun (y hi:Nat) (st:Int)=>[(0,.pointer (some ⟨g,0,none⟩)),(3,.pointer (some ⟨b,0,none⟩)),(5,.int .i64 (y:Int)),(7,.int .i64 (hi:Int))])
  (λy hi st w'=>GrN (λk=>k=g) w w'/\ItB w' g A d L p e f h st/\Blk w' b 75 v.cells/\p<=y/\cmpV (val y) v<0/\y<hi/\hi<=e/\(hi<e->¬ cmpV (val hi) v<0)) (λy hi _=>hi-y) y hi a9 sB
  ⟨U,Z,a6,ac,a1,am,a3,a2⟩ ?_
 clear U Z a6 ac b7 a1 b6 b5 h3 am a3 a2 aq;rintro D F av w7 ⟨ad,af,a5,ac,a1,am,a3,a2⟩;refine ρ ?_;refine ci (λG=>?_) (λG=>?_)
 .have be:D+1<F:=by have:=oT G;omega
  refine ρ ?_;refine qn (F-D) 2 ?_;refine ρ ?_;have bd:D<D+(F-D) / 2/\D+(F-D) / 2<F:=om
  generalize hmm:(F-D) / 2=m at *
  refine lds (cs:=v.cells) (λj u hu=>a5.at hu) ?_;refine ρ ?_;refine cl (Jys (q:=D+m) (qi:=(D:Int)+(m:Int)) af (hT.gr ad) hL hLd hd om om) ?_;rintro u w8 ⟨rfl,O,au,a8⟩;refine ρ ?_;rw[aa];refine ci (λh2=>?_) (λh2=>?_)
  .refine ρ ?_;exact Qa (D+m) F au sO ⟨ad.trans O,a8,Ja a5 O ab,om,of_decide_eq_true h2,om,a3,a2⟩ om
  refine ρ ?_;exact Qa D (D+m) au sO ⟨ad.trans O,a8,Ja a5 O ab,ac,a1,om,om,λ_=>oF h2⟩ om
 have aq:F=D+1:=by have:=oF G;omega
 refine ρ ?_;refine sto (p:=⟨g,2,none⟩) (af.cell 2) (af.frozen _) ?_;have a8:ItB (w7.setCell ⟨g,2,none⟩ (.int .i64 (F:Int))) g A d L F e f h av:=af.set 2 (.int .i64 (F:Int));have O:GrN (λk=>k=g) w (w7.setCell ⟨g,2,none⟩ (.int .i64 (F:Int))):=ad.trans (GrN.set _ rfl);refine ρ ?_;refine cl (Iy a8) ?_;rintro u w9 ⟨rfl,ax⟩;refine ρ ?_;refine Jq ⟨O.trans (GrN.ext ax),F,av,?_,om,a3,λi G h2=>ar G (show i<=D by omega) om a1,a2,a8.ext ax⟩;grind
end
open Go.RowKit Pl Go.Wk
variable {j:Nat}{u:Value}
theorem Jtv: Qu Tryz.prog 221=some (.agg #[.int .i64 0,.int .i64 0]):=kr
theorem Jsr(x y:Int)(w:World): (Instr.build 221 #[(0,.int .i64 x),(1,.int .i64 y)]).run Tryz.prog w=.ok (.agg #[.int .i64 x,.int .i64 y]) w:=kr
theorem Jzk{x y:Int}: ∀ u∈[Value.int .i64 x,.int .i64 y],u.oneCell'=true:=by intro u i;simp at i;rcases i with rfl|rfl<;>rfl
section
variable {w:World} {g:Nat} {A:Option Addr} {d L p e:Nat} {f h:Nat->Nat} {st:Int} {rs:List Row}
theorem Jfj(w:World): Ret Tryz.prog 169 [.agg #[.slice A d d]] w λu w'=>u=.int .i64 (d:Int)/\Ext w w':=by
 refine Jz Tryz.func169 Tryz.ntmps169 rfl kr rfl ?_;refine ρ ?_;refine bx ?_;intro w1 b j D y;refine ρ ?_;refine ld (y.at (i:=0) rfl) ?_;refine ρ ?_;exact Jq ⟨rfl,j⟩
def Vv(rs:List Row)(L p:Nat): Row:=if L=0 then[] else(pfx rs L).getD p []
theorem Jyr(hB:ItB w g A d L p e f h st)(hu:[Value.slice A d d][j]?=some u): w.cell? (((⟨g,0,none⟩:Addr).add 0).add j)=some u:=by
 match j,hu with
 | 0,hu=>rw[add_zero,add_zero,hB.cell];exact hu
 | j+1,hu=>simp at hu
theorem it_at(hB:ItB w g A d L p e f h st)(hu:[Value.int .i64 (p:Int),.int .i64 (e:Int)][j]?=some u): w.cell? (((⟨g,0,none⟩:Addr).add 2).add j)=some u:=by
 match j,hu with
 | 0,hu=>rw[add_zero,Zt,hB.cell];exact hu
 | 1,hu=>rw[Zt,Zt,hB.cell];exact hu
 | j+2,hu=>simp at hu
theorem Qdv(hB:ItB w g A d L p e f h st)(hT:Off (λk=>k=g) w (λu=>TriA u A d rs))(hLd:L<d)(hd:d<=32)(hpe:0<L->p<e/\e<=(pfx rs L).length)(hrs:rs≠[])(hsrt:Srt [] rs)(hm:rs.length<=1000000)(hlen:∀ r∈rs,r.length=d):
  Ret Tryz.prog 140 [.pointer (some ⟨g,0,none⟩)] w λu w'=>u=.bool true/\GrN (λk=>k=g) w w'/\∃ lo hi,lo<hi/\hi<=(pfx rs (L+1)).length/\(∀ i,i<(pfx rs (L+1)).length->(((pfx rs (L+1)).getD i []).take L=Vv rs L p↔lo<=i/\i<hi))/\ItB w' g A d (L+1) lo hi (upd f L p) (upd h L e) st:=by
 refine Jz Tryz.func140 Tryz.ntmps140 rfl kr rfl ?_;refine ρ ?_;refine Qjk [(0,.pointer (some ⟨g,0,none⟩)),(30,.bool false)] (λw'=>Ext w w') ?_ ?_
 .refine dr [(0,0),(0,1),(0,2),(0,3),(0,4),(0,5),(0,6),(0,7),(0,8),(0,9),(1,10),(0,11),(0,12),(0,13),(0,14),(0,15),(0,16),(0,17),(0,18),(0,19),(0,20),(0,21),(0,22),(1,23),(0,24),(0,25)] kr ?_;have O:Ext w w.drew:=(Ext.refl w).drew;have G:=hB.ext O;refine ρd ?_;refine dpnl ?_;refine ρd ?_;refine dld (G.at (i:=1) rfl) ?_;refine ρd ?_;have rest:∀(al:AL) (w2:World),True:=λ_ _=>trivial;refine dki 13 (λh1=>?_) (λh1=>?_)
  .have D:0<L:=by have:=oT h1;omega
   refine ρd ?_;refine dcl (Iy G) ?_;rintro u w2 ⟨rfl,Z⟩;refine⟨Z,?_⟩;have av:=G.ext Z;refine ρd ?_;refine dkf 19 ?_ ?_
   .have:=hpe D;simp[D,this.1]
   refine ρd ?_;refine dld (av.at (i:=1) rfl) ?_;refine ρd ?_;refine Qj (cs:=[.slice A d d]) (λj u hu=>Jyr av hu) ?_;refine ρd ?_;refine dcl (Jfj _) ?_;rintro u w3 ⟨rfl,U⟩;refine⟨U,?_⟩;refine ρd ?_;refine ρ ?_;refine Jhl (Sub.cons rfl (Sub.cons ?_ Sub.nil)) ((O.trans Z).trans U);exact congrArg (λz=>some (Value.bool z)) (dF om)
  have D:L=0:=by have:=oF h1;omega
  refine ρd ?_;refine dld (G.at (i:=1) rfl) ?_;refine ρd ?_;refine Qj (cs:=[.slice A d d]) (λj u hu=>Jyr G hu) ?_;refine ρd ?_;refine dcl (Jfj _) ?_;rintro u w3 ⟨rfl,U⟩;refine⟨U,?_⟩;refine ρd ?_;refine ρ ?_;refine Jhl (Sub.cons rfl (Sub.cons ?_ Sub.nil)) (O.trans U);exact congrArg (λz=>some (Value.bool z)) (dF om)
 intro w1 ab;have a3:=hB.ext ab;obtain⟨vv,fv,fs,hR,hv,hf,hc⟩:=(hT.ext ab).here;have bd:(pfx rs (L+1)).length<=1000000:=by
  have:=Jxb (rs.map (List.take (L+1)));rw[List.length_map]at this;exact nL this hm
 refine ρ ?_;refine lds (cs:=[.slice A d d]) (λj u hu=>Jyr a3 hu) ?_;refine ρ ?_;refine cl (Jws (l:=0) (vs:=lvl rs) hR (λl hl=>by obtain⟨B,c,e,_⟩:=hv l hl;exact⟨B,c,e⟩) rfl hd) ?_;rintro u w2 ⟨rfl,Z⟩;rw[if_pos (show 0<d by omega),Im];refine ρ ?_;refine bld (Jsr _ _ _) ?_;refine ρ ?_;refine alc Jtv ?_;intro w3 b U hb b6;refine ρ ?_;refine stb b6 ?_ (Jzk (x:=0) (y:=((pfx rs (0+1)).length:Int)));intro w4 a6 b1 ae;have a1:Ext w1 w4:=(Z.trans (ae w2 U hb));have au:=a3.ext a1;have ay:b≠g:=by have:=a3.lt;have:=Z.size;omega
 refine ρ ?_;refine ld (au.at (i:=1) rfl) ?_;refine ρ ?_;refine Up (fun (lo hi:Nat)=>[(0,.pointer (some ⟨g,0,none⟩)),(3,.pointer (some ⟨b,0,none⟩))])
  (λlo hi w'=>Ext w1 w'/\Blk w' b 221 [.int .i64 (lo:Int),.int .i64 (hi:Int)]/\hi<=(pfx rs (L+1)).length/\∀ i,i<(pfx rs (L+1)).length->(((pfx rs (L+1)).getD i []).take L=Vv rs L p↔lo<=i/\i<hi)) ?_ ?_
 .refine ci (λh1=>?_) (λh1=>?_)
  .have D:0<L:=by have:=oT h1;omega
   obtain⟨k,rfl⟩:∃ k,L=k+1:=⟨L-1,om⟩;have lk:k<d:=om
   obtain⟨bb,ba⟩:=hpe D;obtain⟨F,fc,b2,b5⟩:=hf k lk;have a8:=hc k om;obtain⟨c1,c2,c3⟩:=a8;have bc:p<=1000000:=by
    have:=Jxb (rs.map (List.take (k+1)));rw[List.length_map]at this;have h4:(pfx rs (k+1)).length<=rs.length:=this;omega
   have lp:p<(fs k).length:=om
   have a7:p+1<(fs k).length:=om
   refine ρ ?_;refine drN (λ_=>False) 10 [(0,0),(0,1),(0,2),(0,3),(0,4),(0,5),(0,6),(0,7),(0,8),(0,9),(0,10),(0,11),(0,12),(0,13)] kr ?_;have a5:=a1.drew;have G:=a3.ext a5;have ak:=hR.ext a5;have b4:w4.drew.cell? ((adr A (k*2)).add 1)=some (fv k):=by rw[Ky];exact ak.cell (Ya d vv fv lk).2
   refine ρn ?_;refine nld (Qf (G.at (i:=0) rfl) (λe=>e)) ?_;refine ρn ?_;refine nld (Qf (G.at (i:=1) rfl) (λe=>e)) ?_;refine ρn ?_;refine Va 2 k ak lk ?_;refine ρn ?_;refine nld (Qf b4 (λe=>e)) ?_;rw[b2];refine ρn ?_;refine ρ ?_;refine drN (λ_=>False) 10 [(0,0),(0,1),(0,2),(0,3),(0,4),(0,5),(0,6),(0,7),(0,8),(0,9),(0,10),(0,11),(0,12),(0,13),(0,14),(0,15),(0,16),(1,17),(2,18)] kr ?_;have a4:=a5.drew;have am:=a3.ext a4;have a9:=b5.ext a4;have an:=(a6.ext (Ext.refl w4).drew).ext (Ext.refl w4.drew).drew;refine ρn ?_;refine nld (Qf (am.at (i:=2) rfl) (λe=>e)) ?_;refine ρn ?_;refine nix p a9 lp ?_;refine ρn ?_;refine nld (Qf (a9.cell (Qn lp)) (λe=>e)) ?_;refine ρn ?_;refine nld (Qf (am.at (i:=2) rfl) (λe=>e)) ?_;refine ρn ?_;refine nix (p+1) a9 a7 ?_;refine ρn ?_;refine nld (Qf (a9.cell (Qn a7)) (λe=>e)) ?_;refine ρn ?_;refine nop ?_
   refine bld (Jsr _ _ _) ?_;refine ρ ?_;refine Qg (GrN.refl _ _) ?_;refine ρn ?_;refine Xm ?_;refine stb an ?_ (Jzk (x:=(((fs k).getD p 0:Nat):Int)) (y:=(((fs k).getD (p+1) 0:Nat):Int)));intro w5 J be aw;refine ρ ?_;refine Xl ((fs k).getD p 0) ((fs k).getD (p+1) 0) sB ⟨aw w1 a4 (nL Z.size hb),J,c2 _ a7,λi hi=>?_⟩;rw[c3 p i a7 hi |>.symm,Vv,if_neg om]
  have D:L=0:=by have:=oF h1;omega
  subst D;refine ρ ?_;refine Xl 0 (pfx rs (0+1)).length sB ⟨a1,a6,Nat.le_refl _,λi hi=>?_⟩;rw[Vv,if_pos rfl,List.take_zero];exact⟨λ_=>⟨Nat.zero_le _,hi⟩,λ_=>rfl⟩
 clear b1 ae au a1 a6;rintro lo hi w5 ⟨aa,J,ax,a8⟩;have ac:lo<hi:=by
  have b3:∃ i,i<(pfx rs (L+1)).length/\((pfx rs (L+1)).getD i []).take L=Vv rs L p:=by
   have hr:∃ r∈rs,r.take L=Vv rs L p:=by
    by_cases D:L=0
    .subst D;obtain⟨r,hr⟩:=List.exists_mem_of_ne_nil rs hrs;exact⟨r,hr,by rw[Vv,if_pos rfl,List.take_zero]⟩
    have:=hpe om;rw[Vv,if_neg D];exact(Jqg hsrt).1 (getD_mem' [] _ om)
   obtain⟨r,hr,er⟩:=hr;obtain⟨i,hi,ei⟩:=List.getElem_of_mem ((Jqg hsrt (l:=L+1)).2 ⟨r,hr,rfl⟩);refine⟨i,hi,?_⟩;rw[Ql [] _ hi,ei,List.take_take,Nat.min_eq_left om,er]
  obtain⟨i,hi,ei⟩:=b3;have:=(a8 i hi).1 ei;omega
 have b9:=a3.ext aa;refine ρ ?_;refine ld (J.at (i:=0) rfl) ?_;refine ρ ?_;refine ld (J.at (i:=1) rfl) ?_;refine ρ ?_;refine cf ?_ ?_
 .exact Jsv om
 refine ρ ?_;refine drN (λ_=>False) 10 [(0,0),(0,1),(0,2),(0,3),(0,4),(0,5),(0,6),(0,7),(0,8),(0,9),(0,10),(0,11),(2,12)] kr ?_;have O:Ext w5 w5.drew:=(Ext.refl w5).drew;have ad:=b9.ext O;have ap:=J.ext O;refine ρn ?_;refine nld (Qf (ad.at (i:=1) rfl) (λe=>e)) ?_;refine ρn ?_;refine Yk (cs:=[.int .i64 (p:Int),.int .i64 (e:Int)]) (λw' hg j u hu=>it_at (Ja ad hg (λe=>e)) hu) ?_;refine ρn ?_;refine nixa L (show L<32 by omega) ?_;refine ρn ?_;refine Xm ?_;have af:=seg2 (cs:=itC A d L p e f h st) (o:=4+L*2) (u:=.int .i64 (p:Int)) (v:=.int .i64 (e:Int)) (by rw[Jkf];omega);refine stB (o:=4+L*2) (us:=[.int .i64 (p:Int),.int .i64 (e:Int)]) ad (by rw[Jkf];simp only[List.length_cons,List.length_nil];omega) Jzk ?_ (hp:=(Zt g (0+4) (L*2)).trans (by rw[Nat.zero_add]));intro w7 ar aj;have aq:ItB w7 g A d L p e (upd f L p) (upd h L e) st:=by
  have e1:(itC A d L p e f h st).take (4+L*2)++[Value.int .i64 (p:Int),.int .i64 (e:Int)]++(itC A d L p e f h st).drop (4+L*2+[Value.int .i64 (p:Int),.int .i64 (e:Int)].length)=itC A d L p e (upd f L p) (upd h L e) st:=by
   rw[<-Qdz A d L p e f h st (show L<32 by omega) p e];exact af
  rw[e1]at ar;exact ar
 have ao:=ap.grown aj (λe=>ay (by injection e));have ai:GrN (λk=>k=g) w w7:=(GrN.ext ((ab.trans aa).trans O)).trans (GrN.by aj λk e=>by injection e with e;exact e.symm);refine ρ ?_;refine ldW ao ?_;refine ρ ?_;refine stB (o:=2) (us:=[.int .i64 (lo:Int),.int .i64 (hi:Int)]) aq (by rw[Jkf];simp) Jzk ?_;intro w8 b8 az;have a2:ItB w8 g A d L lo hi (upd f L p) (upd h L e) st:=b8;have ah:=ai.trans (GrN.by az λk e=>by injection e with e;exact e.symm);refine ρ ?_;refine ld (a2.at (i:=1) rfl) ?_;refine ρ ?_;refine sto (p:=⟨g,1,none⟩) (a2.cell 1) (a2.frozen _) ?_;have b7:ItB (w8.setCell ⟨g,1,none⟩ (.int .i64 ((L:Int)+1))) g A d (L+1) lo hi (upd f L p) (upd h L e) st:=a2.set 1 (.int .i64 ((L:Int)+1));have ag:GrN (λk=>k=g) w (w8.setCell ⟨g,1,none⟩ (.int .i64 ((L:Int)+1))):=ah.trans (GrN.set _ rfl);refine ρ ?_;exact Jq ⟨rfl,ag,lo,hi,ac,ax,a8,b7⟩
end
open Go.RowKit Pl Go.Wk
variable {I:List Nat}{a i k:Nat}
def gtN(U:List V)(key:V): Nat:=(U.filter λy=>decide (cmpV key y<0)).length
theorem Qfq(U:List V)(key:V): gtN U key<=U.length:=List.length_filter_le _ _
theorem Jnl: ∀ {U:List V} {key key':V},key'∈U->cmpV key key'<0->gtN U key'<gtN U key
 | [],_,_,h,_=>by cases h
 | x::U,key,key',h,hlt=>by
  have mono:∀ U:List V,gtN U key'<=gtN U key:=λU=>by
   induction U with
   | nil=>exact nR _
   | cons y U ih=>
    unfold gtN at *;by_cases e:cmpV key' y<0
    .have:=cmp_V.lt_trans hlt e;grind
    repeat grind
  rcases List.mem_cons.1 h with rfl|h'
  .have:=mono U;grind [gtN,List.filter_cons_of_neg,Zr,List.filter_cons_of_pos,List.length_cons]
  have ih:=Jnl h' hlt;unfold gtN at *;by_cases e:cmpV key' x<0
  .have:=cmp_V.lt_trans hlt e;grind
  repeat grind
structure Fix where
 G: Nat->Nat
 A:Nat->Option Addr
 d:Nat->Nat
 rs:Nat->List Row
structure Lev where
 L: Nat->Nat
 lo:Nat->Nat
 e:Nat->Nat
 f:Nat->Nat->Nat
 h:Nat->Nat->Nat
def Fix.val(F:Fix)(V':Lev)(i a:Nat): V:=(lvl (F.rs i) (V'.L i-1)).getD a V0
def Iq(F:Fix)(I:List Nat): List Value:=I.map λi=>.pointer (some ⟨F.G i,0,none⟩)
theorem Ij{F:Fix}(h:k<I.length): (Iq F I)[k]?=some (.pointer (some ⟨F.G (I.getD k 0),0,none⟩)):=by simp[Iq,List.getD,List.getElem?_eq_getElem h]
structure OnS(F:Fix)(V':Lev)(I:List Nat): Prop where
 lev:∀ i∈I,0<V'.L i/\V'.L i<=F.d i/\F.d i<=32
 rng:∀ i∈I,V'.e i<=(lvl (F.rs i) (V'.L i-1)).length/\V'.e i<=1000000
 srt:∀ i∈I,∀ a b,V'.lo i<=a->a<b->b<V'.e i->cmpV (F.val V' i a) (F.val V' i b)<0
 inj:∀ i∈I,∀ j∈I,F.G i=F.G j->i=j
 len:I.length<=32
def NG(F:Fix)(I:List Nat)(J:Nat)(k:Nat): Prop:=k=J∨∃ i∈I,k=F.G i
def Its(F:Fix)(V':Lev)(I:List Nat)(w:World)(p:Nat->Nat): Prop:=∀ i∈I,∃ st,ItB w (F.G i) (F.A i) (F.d i) (V'.L i) (p i) (V'.e i) (V'.f i) (V'.h i) st
def Cmn(F:Fix)(V':Lev)(I:List Nat)(y:V): Prop:=∀ i∈I,∃ a,V'.lo i<=a/\a<V'.e i/\F.val V' i a=y
def JB(w:World)(J:Nat)(jr ja yv:Value): Prop:=∃ st:Int,Blk w J 191 [jr,ja,.int .i64 st,yv]
def Kv(F:Fix)(V':Lev)(I:List Nat): List V:=I.flatMap λi=>(List.range (V'.e i-V'.lo i)).map λa=>F.val V' i (V'.lo i+a)
theorem Qnn{F:Fix}{V':Lev}(hi:i∈I)(h1:V'.lo i<=a)(h2:a<V'.e i): F.val V' i a∈Kv F V' I:=by
 refine List.mem_flatMap.2 ⟨i,hi,List.mem_map.2 ⟨a-V'.lo i,List.mem_range.2 om,?_⟩⟩;congr 1;omega
theorem Jtm{F:Fix}{V':Lev}: ∀ {I:List Nat},(∀ i∈I,V'.e i<=1000000)->(Kv F V' I).length<=I.length*1000000
 | [],_=>nR _
 | i::I,h=>by
  have ih:=Jtm (F:=F) (V':=V') (I:=I) (λj hj=>h j (List.mem_cons_of_mem _ hj));grind [List.mem_cons_self,Kv,List.length_append,List.length_map,List.length_range,List.length_cons]
theorem Qlk{a b c:V}(h1:cmpV a b<=0)(h2:cmpV b c<=0): cmpV a c<=0:=cmp_V.trans a b c h1 h2
theorem Qxd(k n:Nat): (k:Int).tmod (n:Int)=((k % n:Nat):Int):=by grind
end Go.Proofs.YtebiphhfkdbpfaaGreat
