/- Part 2. -/
import Derived.Test.YtebiphhfkdbpfaaGreatC01
import Derived.Laws.CopyRow
set_option linter.unusedVariables false
set_option maxRecDepth 100000
set_option maxHeartbeats 40000000
namespace Go.Proofs.YtebiphhfkdbpfaaGreat
open Go.RowKit Pl Go.Wk
attribute [local irreducible] WC WL QX WD WDB WP
variable {ar z:Int}{c n:Nat}{A:Option Addr}{r:Row}{sv v:Value}{w:World}
def Zz(v:V): Bool:=if v.kind=1 then(v.bytes == []) else if v.kind=2 then decide (v.num=0) && decide (v.bytes.length<=24) else false
theorem Qwb(v:V): v.str.size=v.bytes.length:=(Array.length_toList (xs:=v.str.data)).symm
theorem Qwc(v:V): (v.str.toList == (⟨#[]⟩:ByteArray).toList)=(v.bytes == []):=by rw[ByteArray.toList_eq,ByteArray.toList_eq];rfl
theorem Qzb(v:V)(w:World): Ret Tryz.prog 118 [v.val] w λr w'=>r=.bool (Zz v)/\Ext w w':=by
 refine Jz Tryz.func118 Tryz.ntmps118 rfl kr rfl ?_;refine ρ ?_;refine bx (cs:=v.cells) ?_;intro w1 b j F u;refine ρ ?_;refine ld (u.at (i:=0) rfl) ?_;refine ρ ?_;refine ci (λh=>?_) (λh=>?_)
 .refine ρ ?_;refine ld (u.at (i:=2) rfl) ?_;refine ρ ?_;refine Jq ⟨?_,j⟩;rw[Zz,if_pos (Un h),Qwc]
 refine ρ ?_;refine ci (λy=>?_) (λy=>?_)
 .refine ρ ?_;refine ld (u.at (i:=1) rfl) ?_;refine ρ ?_;refine ki 15 (λD=>?_) (λD=>?_)
  .refine ρ ?_;refine ld (u.at (i:=2) rfl) ?_;refine ρ ?_;refine Jq ⟨?_,j⟩;rw[Zz,if_neg (Ve h),if_pos (Un y),decide_eq_true (Un D),Qwb,Bool.true_and];congr 1
   grind
  refine ρ ?_;refine Jq ⟨?_,j⟩;rw[Zz,if_neg (Ve h),if_pos (Un y),decide_eq_false (Ve D)];rfl
 refine ρ ?_;refine Jq ⟨?_,j⟩;rw[Zz,if_neg (Ve h),if_neg (Ve y)]
theorem Qvp(h:RowV w v r): Ret Tryz.prog 73 [v] w λu w'=>u=.bool (r.all Zz)/\Ext w w':=by
 obtain⟨A,c,rfl,Z,U,G⟩:=h;refine Jz Tryz.func73 Tryz.ntmps73 rfl kr rfl ?_;refine ρ ?_;refine Jl (fun (k:Nat)=>[(0,.slice A r.length c),(5,.int .i64 (r.length:Int)),(6,.int .i64 (k:Int))]) (λk w'=>Ext w w'/\k<=r.length/\(r.take k).all Zz=true) (λk=>r.length-k) 0 sB ⟨Ext.refl w,Nat.zero_le _,rfl⟩ ?_;rintro k w1 ⟨D,J,O⟩;refine ρ ?_;refine ci (λh=>?_) (λh=>?_)
 .have lk:k<r.length:=by have:=oT h;omega
  have y:=G.ext D;refine ρ ?_;refine ixq 3 k y lk ?_;refine ρ ?_;refine lds (λj u F=>RdR.cell y lk F) ?_;refine ρ ?_;refine cl (Qzb (r.getD k V0) _) ?_;rintro u w2 ⟨rfl,i⟩;refine ρ ?_;refine ci (λh=>?_) (λh=>?_)
  .refine ρ ?_;refine Jq ⟨?_,D.trans i⟩;grind
  refine ρ ?_;have h':Zz (r.getD k V0)=true:=by simpa using h
  refine Jf (k+1) sO ⟨D.trans i,om,?_⟩ om;grind [Xy,V0,lk]
 refine ρ ?_;refine Jq ⟨?_,D⟩;grind
def RelV(w:World)(v:Value)(ar:Nat)(ls:List Row): Prop:=∃ rv,v=.agg #[.int .i64 (ar:Int),rv]/\RowsV w rv ls
theorem RelV.ext{w w':World}{v:Value}{ar:Nat}{ls:List Row}(h:RelV w v ar ls)(hx:Ext w w'): RelV w' v ar ls:=by
 obtain⟨i,e,h⟩:=h;exact⟨i,e,h.ext hx⟩
theorem Uw: Xz Tryz.prog 35=some (.agg #[.int .i64 0,.slice none 0 0]):=kr
theorem Jvc(w:World): (Instr.build 35 #[]).run Tryz.prog w=.ok (.agg #[.int .i64 0,.slice none 0 0]) w:=kr
theorem Qrv(z:Int)(w:World): (Instr.build 35 #[(0,.int .i64 z)]).run Tryz.prog w=.ok (.agg #[.int .i64 z,.slice none 0 0]) w:=kr
theorem Qrs(z:Int)(A:Option Addr)(n c:Nat)(w:World): (Instr.build 35 #[(0,.int .i64 z),(1,.slice A n c)]).run Tryz.prog w=.ok (.agg #[.int .i64 z,.slice A n c]) w:=kr
theorem Vf: ∀ u∈[Value.int .i64 z,.slice A n c],u.oneCell'=true:=by
 intro u i;simp at i;rcases i with rfl|rfl<;>rfl
theorem Qyg(z:Int)(w:World): Ret Tryz.prog 44 [.int .i64 z] w λv w'=>Ext w w'/\∃ z' e,v=.tuple #[.agg #[.int .i64 z',.slice none 0 0],.int .i64 e]/\(e=0->z'=z)/\(e=0↔0<=z/\z<=32):=by
 refine Jz Tryz.func44 Tryz.ntmps44 rfl kr rfl ?_;refine ρ ?_;refine alc Uw ?_;intro w1 b u y D;refine ρ ?_;refine Jqb (fun (t:Bool)=>[(0,.int .i64 z),(2,.pointer (some ⟨b,0,none⟩)),(9,.bool t)]) (λt w'=>w'=w1/\(t=true↔¬ (0<=z/\z<=32))) ?_ ?_
 .refine ki 6 (λh=>?_) (λh=>?_)
  .refine ρ ?_;exact Je true sB ⟨rfl,by grind⟩
  refine ρ ?_;refine Je _ sB ⟨rfl,?_⟩;grind
 rintro t w' ⟨rfl,ht⟩;refine ci (λh=>?_) (λh=>?_)
 .refine ρ ?_;refine bld (Jvc _) ?_;refine ρ ?_;refine stb D ?_ Vf;intro w2 j _ i;refine ρ ?_;exact Zo j ⟨i w u y,0,3,rfl,λe=>(by cases e),⟨λe=>(by cases e),λe=>absurd e (ht.1 h)⟩⟩
 refine ρ ?_;refine bld (Qrv z _) ?_;refine ρ ?_;refine stb D ?_ (Vf (z:=z) (A:=none) (n:=0) (c:=0));intro w2 j _ i;refine ρ ?_;refine Zo j ⟨i w u y,z,0,rfl,λ_=>rfl,⟨λ_=>?_,λ_=>rfl⟩⟩;grind
theorem Qst(hs:sv=.slice A n c)(h:RowV w v r): Ret Tryz.prog 45 [.agg #[.int .i64 ar,sv],v] w λu w'=>Ext w w'/\∃ e,u=.int .i64 e/\(e=0↔(r.length:Int)=ar/\r.all Zz=true):=by
 subst hs;obtain⟨B,c',rfl,D,Z,O⟩:=id h;refine Jz Tryz.func45 Tryz.ntmps45 rfl kr rfl ?_;refine ρ ?_;refine bx ?_;intro w1 b j U F;refine ρ ?_;refine ld (F.at (i:=0) rfl) ?_;refine ρ ?_;refine ci (λh=>?_) (λG=>?_)
 .refine ρ ?_;exact Jq ⟨j,6,rfl,⟨λe=>(by cases e),λe=>absurd e.1 (Jkm h)⟩⟩
 have J:=Jkn G;refine ρ ?_;refine cl (Qvp (h.ext j)) ?_;rintro u w2 ⟨rfl,y⟩;refine ρ ?_;refine ci (λh=>?_) (λD=>?_)
 .refine ρ ?_;refine Jq ⟨j.trans y,4,rfl,⟨λe=>(by cases e),λe=>?_⟩⟩;rw[e.2]at h;cases h
 refine ρ ?_;refine Jq ⟨j.trans y,0,rfl,⟨λ_=>⟨J,by simpa using D⟩,λ_=>rfl⟩⟩
open Go.RowKit Pl Go.Wk
variable {ps:List Pr}{ar base c n:Nat}{N:Nat->Prop}{A:Option Addr}{row:Option Nat}{v:Value}{w:World}
theorem RowX.off{r:Row}(h:RowX w N v r): Off N w (λu=>RowV u v r):=by
 obtain⟨A,c,G,F,D,y,j⟩:=h;intro w' i;refine⟨A,c,G,F,D,Zm y i λh0 J e=>j (λO=>?_) J e⟩;grind [Jr]
theorem Jtv(h:∀ p∈ps,Off (one row) w (λu=>RowV u p.1 p.2)): CF w row 75 #[] #[] ps []:=λw' i p q y j=>
 Jll (h p y w' (GrN.by i λk e=>e)) (h q j w' (GrN.by i λk e=>e))
theorem eqRow(h:∀ p∈ps,Off (one row) w (λu=>RowV u p.1 p.2)): EqF w row 78 #[] #[] ps:=λw' i p q y j=>
 Qvr (h p y w' (GrN.by i λk e=>e)) (h q j w' (GrN.by i λk e=>e))
theorem ownB(A:Option Addr)(n c m d:Nat): (Value.slice A n c).ownBlock=(Value.slice A m d).ownBlock:=by cases A<;>rfl
theorem Qvn(hD:Dat w base (.slice A n c) ps)(hn:ps.length=n)(hmx:n<=1100000)(hnc:n<=c)(hN:∀ k,(Value.slice A n c).ownBlock=some k->¬ N k)(hr:∀ p∈ps,Off N w (λu=>RowV u p.1 p.2)): Off N w (λu=>RowsV u (.slice A n c) (ps.map (·.2))):=by
 intro w' i;refine⟨ps,A,c,rfl,by rw[hn],om,om,?_,λp j=>hr p j w' i⟩;rw[hn];refine Zm (hD.rd hn) i λ_ y e=>?_;subst e;exact hN _ rfl
def RowsP(N:Nat->Prop)(w:World)(v:Value)(ls:List Row): Prop:=∃(ps:List Pr) (A:Option Addr) (c:Nat),ls=ps.map (·.2)/\v=.slice A ps.length c/\ps.length<=c/\ps.length<=1100000/\Off N w (λu=>Rd u 1 A ps.length (ps.map (·.1)))/\∀ p∈ps,Off N w (λu=>RowV u p.1 p.2)
theorem RowsP.off{ls:List Row}(h:RowsP N w v ls): Off N w (λu=>RowsV u v ls):=by
 obtain⟨ps,A,c,O,J,G,F,D,y⟩:=h;exactλu i=>⟨ps,A,c,O,J,G,F,D u i,λp j=>y p j u i⟩
theorem rowsP(hD:Dat w base (.slice A n c) ps)(hn:ps.length=n)(hmx:n<=1100000)(hnc:n<=c)(hN:∀ k,(Value.slice A n c).ownBlock=some k->¬ N k)(hr:∀ p∈ps,Off N w (λu=>RowV u p.1 p.2)): RowsP N w (.slice A n c) (ps.map (·.2)):=by
 refine⟨ps,A,c,rfl,by rw[hn],om,om,λw' i=>?_,hr⟩;rw[hn];refine Zm (hD.rd hn) i λ_ j e=>?_;subst e;exact hN _ rfl
theorem Qjd(hD:Dat w base (.slice A n c) ps)(hn:ps.length=n)(hmx:n<=1100000)(hnc:n<=c)(hr:∀ p∈ps,Off (one (Value.slice A n c).ownBlock) w (λu=>RowV u p.1 p.2)):
  Ret Tryz.prog 46 [.int .i64 (ar:Int),.slice A n c] w λv w'=>w.grownBy w' (Value.slice A n c).ownBlock/\∃ rv e,v=.tuple #[rv,.int .i64 e]/\(∃ z B m d,rv=.agg #[.int .i64 z,.slice B m d])/\(n<=65536->e=0) /\
   (e=0->∃ m,Off (λk=>k<w.heap.size/\(Value.slice A n c).ownBlock≠some k) w' (λu=>RelV u rv ar m)/\m.length<=65536/\(∀ x∈m,x∈ps.map (·.2))/\((n<=12∨Srt [] (ps.map (·.2)))->Xd [] (ps.map (·.2)) m)):=by
 refine Jz Tryz.func46 Tryz.ntmps46 rfl kr rfl ?_;refine ρ ?_;refine alc Uw ?_;intro w1 b a2 hb hB;have aw:=hD.ext a2;have aa:∀ p∈ps,Off (one (Value.slice A n c).ownBlock) w1 (λu=>RowV u p.1 p.2):=λp Z=>(hr p Z).ext a2;obtain⟨own,F⟩:∃ own,own=(Value.slice A n c).ownBlock:=⟨_,rfl⟩;have a6:∀ k,own=some k->k<w.heap.size:=λk e=>by
  obtain⟨_,_,_,_,hf⟩:=Jy hD.1;grind
 refine ρ ?_;refine cl (Qlb (aw.rd hn) hn hmx (Jtv aa)) ?_;rintro v w2 ⟨a5,t,rfl,ht⟩;refine ρ ?_;refine Xp (fun (q:List Pr)=>[(0,.int .i64 (ar:Int)),(1,.slice A n c),(4,.pointer (some ⟨b,0,none⟩))]) (λq w'=>DP w1 w' base A n c ps q/\Blk w' b 35 [.int .i64 0,.slice none 0 0]/\((n<=12∨Srt [] (ps.map (·.2)))->Srt [] (q.map (·.2)))) ?_ ?_
 .have H2:=(DP.start aw hn).ext a5;refine ci (λh=>?_) (λh=>?_)
  .have ay:¬ SOn z0 (fP []) ps 0 n:=by grind
   refine ρ ?_;refine cl (Qwj H2.d H2.l hmx ((Jtv aa).step H2)) ?_;rintro v w3 ⟨q,H3,hs⟩;refine ρ ?_;refine Je q sB ⟨H2.after H3,(hB.ext a5).grown H3.g ((hB.ext a5).ne_own H2.d.1 rfl),λe=>?_⟩;rcases e with e|e
   .exact Jhh (by rw[H3.l];exact hs e)
   exfalso
   apply ay
   intro i j _ bb hj;have e':=(List.pairwise_map.1 e);grind [List.pairwise_iff_getElem,fP,Qn,z0]
  have az:t=true:=by simpa using h
  refine ρ ?_;exact Je ps sB ⟨H2,hB.ext a5,λ_=>Jhh (by rw[hn];exact ht.1 az)⟩
 rintro q w3 ⟨H3,ax,b2⟩;have ak:∀ p∈q,Off (one (Value.slice A n c).ownBlock) w3 (λu=>RowV u p.1 p.2):=λp Z=>(aa p (H3.p.mem_iff.1 Z)).grown H3.g λk e=>e;refine ρ ?_;refine cl (Qnt H3.d H3.l hmx hnc (eqRow ak)) ?_;rintro v w4 ⟨y,rfl,av,ad,ah,ac⟩;have ba:y.length<=n:=by
  have:=Jxv (q.map (·.2))
  rw[<-ad,List.length_map,List.length_map,H3.l]at this;exact this
 have af:=ax.grown ac (ax.ne_own H3.d.1 rfl);have aj:∀ p∈y,Off (one own) w4 (λu=>RowV u p.1 p.2):=λp Z=>by rw[F];exact(ak p (ah p Z)).grown ac λk e=>e
 have a3:w1.grownBy w4 own:=by rw[F];exact Xb H3.g ac
 have b5:((n<=12∨Srt [] (ps.map (·.2)))->Xd [] (ps.map (·.2)) (y.map (·.2))):=λe=>by
  have h1:=Jsx (b2 e);rw[<-ad]at h1;exact⟨h1.1,λx=>(h1.2 x).trans ((H3.p.map (·.2)).mem_iff)⟩
 generalize hm:y.length=m at *
 refine ρ ?_;refine ci (λh=>?_) (λh=>?_)
 .have b6:65536<m:=by have:=oT h;omega
  refine ρ ?_;refine bld (Jvc _) ?_;refine ρ ?_;refine stb af ?_ Vf;intro w5 a4 D b8;refine ρ ?_;refine Zo a4 ⟨?_,_,11,rfl,⟨0,none,0,0,rfl⟩,λe=>(by omega),λe=>(by cases e)⟩;have g1:=Xb (Xl a2 own) a3;rw[<-F];exact⟨D.os.trans g1.os,D.tape.trans g1.tape,D.output.trans g1.output,Nat.le_trans g1.size D.size,λk hk hn=>(D.block k (nM hk g1.size) (λe=>by injection e with e;omega)).trans (g1.block k hk hn)⟩
 have b9:m<=65536:=by grind
 clear h;obtain⟨N',a7⟩:∃ N':Nat->Prop,N'=λk=>k<w1.heap.size∨own=some k:=⟨_,rfl⟩;have ap:(Value.slice A m c).ownBlock=own:=by grind [ownB]
 refine ρ ?_;refine Qw (fun (k:Nat) (U:List Pr)=>[(0,.int .i64 (ar:Int)),(1,.slice A m c),(4,.pointer (some ⟨b,0,none⟩)),(19,.int .i64 (m:Int)),(20,.int .i64 (k:Int))])
  (λk U w'=>k<=m/\U.length=k/\U.map (·.2)=(y.take k).map (·.2)/\Dat w' base (.slice A m c) (U++y.drop k)/\(∀ p∈U,Off N' w' (λu=>RowV u p.1 p.2))/\(∀ p∈y,Off (one own) w' (λu=>RowV u p.1 p.2))/\Blk w' b 35 [.int .i64 0,.slice none 0 0]/\w1.grownBy w' own) (λk _=>m-k) 0 [] sB
  ⟨Nat.zero_le _,rfl,rfl,by simpa using av,λp Z=>(by cases Z),aj,af,a3⟩ ?_
 clear av aj af a3;rintro k U w5 ⟨hk,an,am,O,a8,ai,a4,D⟩;refine ρ ?_;have G:(U++y.drop k).length=m:=by simp;omega
 refine ci (λh=>?_) (λh=>?_)
 .have lk:k<m:=by have:=oT h;omega
  have au:(U++y.drop k).getD k z0=y.getD k z0:=by grind
  have aq:y.getD k z0∈y:=Vv hm lk;refine ρ ?_;refine ix k (O.rd G) lk ?_;refine ρ ?_;refine ld (O.cell G lk) ?_;rw[au];refine ρ ?_;refine cl (Jdq (ai _ aq).here N' (λj hj=>?_)) ?_
  .subst a7;rcases hj with h'|h'
   .exact nM h' D.size
   exact nM (a6 j h') (nL a2.size D.size)
  rintro v6 w6 ⟨a9,a1⟩;have ae:=O.ext a1;obtain⟨s1,s2,s3⟩:=ae.store G lk (p:=(v6,(y.getD k z0).2)) a9.v.one;refine ρ ?_;refine ix k (ae.rd G) lk ?_;refine ρ ?_;refine sto (ae.cell G lk) s1 ?_ (hv:=a9.v.one);refine ρ ?_;have e:(U++y.drop k).set k (v6,(y.getD k z0).2)=(U++[(v6,(y.getD k z0).2)])++y.drop (k+1):=by
   rw[List.set_append_right _ _ om,an,Nat.sub_self,List.drop_eq_getElem_cons om,List.set_cons_zero,List.append_assoc];rfl
  rw[e]at s2;rw[ap]at s3;refine Ja (k+1) (U++[(v6,(y.getD k z0).2)]) sO ⟨om,by simp[an],?_,s2,λp Z=>?_,λp Z=>?_,?_,?_⟩ om
  .grind [Xy,z0]
  .rcases List.mem_append.1 Z with h'|h'
   .exact((a8 p h').ext a1).grown s3 (λk e=>by rw[a7];exact .inr e)
   rw[List.mem_singleton.1 h'];exact a9.off.grown s3 (λk e=>by rw[a7];exact .inr e)
  .exact((ai p Z).ext a1).grown s3 (λk e=>e)
  .have h7:=a4.ext a1;refine h7.grown s3 ?_;grind
  exact Xb D (Xb (Xl a1 _) s3)
 have e:k=m:=by have:=oF h;omega
 subst e;rw[List.drop_of_length_le om,List.append_nil]at O G;rw[List.take_of_length_le om]at am;refine ρ ?_;refine bld (Qrs (ar:Int) A k c _) ?_;refine ρ ?_;refine stb a4 ?_ (Vf (z:=(ar:Int)) (A:=A) (n:=k) (c:=c));intro w7 b4 J b7;refine ρ ?_;have bc:N' b:=by rw[a7];exact .inl hB.lt
 have b3:Dat w7 base (.slice A k c) U:=⟨O.1.kept J (.inr (λe=>a4.ne_own O.1 rfl e.symm)),O.2⟩;have ao:=Qvn (N:=λj=>j<w.heap.size/\own≠some j) b3 G om om (λj ej hj=>hj.2 (by rw[<-ej,ap])) (λp Z=>((a8 p Z).grown J (λj ej=>by grind)).mono λj _ hj=>by grind);refine Zo b4 ⟨?_,_,0,rfl,⟨_,_,_,_,rfl⟩,λ_=>rfl,λ_=>⟨U.map (·.2),?_,by rw[List.length_map];omega,?_,?_⟩⟩
 .have g1:=Xb (Xl a2 own) D;rw[<-F];exact⟨J.os.trans g1.os,J.tape.trans g1.tape,J.output.trans g1.output,Nat.le_trans g1.size J.size,λj hj hn=>(J.block j (nM hj g1.size) (λe=>by injection e with e;omega)).trans (g1.block j hj hn)⟩
 .rw[<-F];exact ao.imp λu hu=>⟨_,rfl,hu⟩
 .intro x hx;rw[am,ad]at hx;have:x∈q.map (·.2):=by grind
  exact(H3.p.map (·.2)).mem_iff.1 this
 repeat grind
open Go.RowKit Pl Go.Wk
variable {ar b c n:Nat}{a w w':World}
theorem Qrd(w:World): (Instr.buildSlice 33 0 #[]).run Tryz.prog w=.ok (.slice (some ⟨w.heap.size,0,none⟩) 0 0) (w.alloc (.cells [].toArray 73)):=kr
theorem Qps{A:Option Addr}{ps:List Pr}(hR:Rd w 1 A n (ps.map (·.1)))(hn:ps.length=n)(hmx:n<=1100000)(h1:∀ p∈ps,p.1.oneCell'=true):
  Ret Tryz.prog 47 [.slice A n c] w λv' w'=>Ext w w'/\∃ B d,v'=.slice B n d/\n<=d/\Dat w' w.heap.size (.slice B n d) ps:=by
 refine Jz Tryz.func47 Tryz.ntmps47 rfl kr rfl ?_;refine ρ ?_;refine snil ?_;refine ρ ?_;refine ci (λh=>?_) (λh=>?_)
 .have U:A=none:=by simpa using h
  subst U;have F:n=0:=by
   rcases Nat.eq_zero_or_pos n with h0|h0
   .exact h0
   obtain⟨ad,Z,_⟩:=hR.isome h0 om;cases Z
  subst F;obtain rfl:=List.eq_nil_of_length_eq_zero hn;refine ρ ?_;exact Jq ⟨Ext.refl w,none,0,rfl,Nat.le_refl _,⟨Qo _ _ _ _,λp O=>by cases O⟩⟩
 refine ρ ?_;refine bsl Qrd ?_;intro w1 b j J G;refine ρ ?_;refine apo j ER (G.own (n:=0) J rfl (Nat.zero_le _)) (hR.ext j) (λu hu=>by grind) (by unfold maxLen;omega) om ?_;intro v2 w2 i D _ _;obtain⟨A2,c2,rfl,y,hf⟩:=Jy i;refine ρ ?_;rw[Nat.zero_add]at i y ⊢;refine Jq ⟨D,A2,c2,rfl,y,⟨?_,h1⟩⟩;rw[hn];exact i
theorem Jcm(hx:Ext a w)(hg:w.grownBy w' (some b))(hb:a.heap.size<=b): Ext a w':=by grind [Jh]
theorem Jlr{v:Value}{ls:List Row}(h:RowsV w v ls):
  Ret Tryz.prog 24 [.int .i64 (ar:Int),v] w λu w'=>Ext w w'/\∃ rv e,u=.tuple #[rv,.int .i64 e]/\(∃ z B m d,rv=.agg #[.int .i64 z,.slice B m d])/\(ar<=32->(∀ r∈ls,r.length=ar/\r.all Zz=true)->ls.length<=65536->e=0) /\
   (e=0->ar<=32/\(∀ r∈ls,r.length=ar/\r.all Zz=true)/\∃ m,Off (λk=>k<w.heap.size) w' (λu=>RelV u rv ar m)/\m.length<=65536/\(∀ x∈m,x∈ls)/\((ls.length<=12∨Srt [] ls)->Xd [] ls m)):=by
 obtain⟨ps,A,c,rfl,rfl,b9,ai,hR,a1⟩:=h;generalize hn:ps.length=n at *
 have b7:∀ i,(ps.map (·.2)).getD i []=(ps.getD i z0).2:=λi=>Jwb
 have af:∀ p∈ps,p.1.oneCell'=true:=λp hp=>(a1 p hp).one;refine Jz Tryz.func24 Tryz.ntmps24 rfl kr rfl ?_;refine ρ ?_;refine alc Uw ?_;intro w1 b av hb hB;refine ρ ?_;refine cl (Qyg (ar:Int) w1) ?_;rintro v2 w2 ⟨ae,z',e2,rfl,ak,F⟩;refine ρ ?_;refine alc Uw ?_;intro w3 b3 au az b6;refine ρ ?_;refine stb b6 ?_ (Vf (z:=z') (A:=none) (n:=0) (c:=0));intro w4 b5 bb aq;have a6:Ext w1 w4:=aq w1 (ae.trans au) (nL ae.size az);have J:=av.trans a6;have ac:=hB.ext a6;refine ρ ?_;refine ci (λh=>?_) (λh=>?_)
 .have a7:=Jkm h;refine ρ ?_;refine bld (Jvc _) ?_;refine ρ ?_;refine stb ac ?_ Vf;intro w5 aa ba U;refine ρ ?_;refine Zo aa ⟨U w J hb,_,e2,rfl,⟨0,none,0,0,rfl⟩,λh1 _ _=>F.2 om,λe=>absurd e a7⟩
 have hz:=Jkn h;subst hz;have b2:ar<=32:=by have:=F.1 rfl;omega
 have an:=ak rfl;subst an;clear h ak F;refine ρ ?_;refine Jl (fun (k:Nat)=>[(0,.int .i64 (ar:Int)),(1,.slice A n c),(4,.pointer (some ⟨b,0,none⟩)),(6,.pointer (some ⟨b3,0,none⟩)),(20,.int .i64 (n:Int)),(21,.int .i64 (k:Int))])
  (λk w'=>Ext w4 w'/\k<=n/\∀ i,i<k->(ps.getD i z0).2.length=ar/\(ps.getD i z0).2.all Zz=true) (λk=>n-k) 0 sB ⟨Ext.refl _,Nat.zero_le _,λi hi=>om⟩ ?_
 rintro k w5 ⟨U,hk,hI⟩;have y:=J.trans U;refine ρ ?_;refine ci (λh=>?_) (λh=>?_)
 .have lk:k<n:=by have:=oT h;omega
  clear h;refine ρ ?_;refine dr [(0,0),(0,1),(0,2),(0,3),(0,4),(1,5),(0,6)] kr ?_;have a5:=U.drew;have aa:=b5.ext a5;have am:=hR.ext y.drew;refine ρd ?_;refine Qq (cs:=[.int .i64 (ar:Int),.slice none 0 0]) (λj u hu=>aa.at hu) ?_;refine ρd ?_;refine dix k am lk ?_;refine ρd ?_;refine dld (Ib am hn lk) ?_;refine ρd ?_;refine dcl (Qst (A:=none) (n:=0) (c:=0) rfl ((a1 _ (Vv hn lk)).ext y.drew)) ?_;rintro u w6 ⟨O,e,rfl,F⟩;refine⟨O,?_⟩;refine ρd ?_;refine ρ ?_;have Z:=a5.trans O;refine ci (λh=>?_) (λh=>?_)
  .have a7:=Jkm h;refine ρ ?_;refine bld (Jvc _) ?_;refine ρ ?_;refine stb (ac.ext Z) ?_ Vf;intro w7 a9 a8 ap;refine ρ ?_;refine Zo a9 ⟨ap w (J.trans Z) hb,_,e,rfl,⟨0,none,0,0,rfl⟩,λ_ h2 _=>?_,λe=>absurd e a7⟩;grind
  have hz:=Jkn h;have b8:=F.1 hz;refine ρ ?_;refine Jf (k+1) sO ⟨Z,om,λi hi=>?_⟩ om;grind
 have e:k=n:=by have:=oF h;omega
 subst e;refine ρ ?_;refine cl (Qps (hR.ext y) hn ai af) ?_;rintro u w6 ⟨O,D,d,rfl,hd,a3⟩;have G:=y.trans O;have a2:∀ j,(Value.slice D k d).ownBlock=some j->w5.heap.size<=j/\j<w6.heap.size:=by
  obtain⟨_,_,_,_,hf⟩:=Jy a3.1;grind
 have ah:∀ p∈ps,Off (one (Value.slice D k d).ownBlock) w6 (λu=>RowV u p.1 p.2):=λp hp=>Off.old (a:=w) (λu hu=>(a1 p hp).ext hu) G (λj ej=>nL y.size (a2 j ej).1);refine ρ ?_;refine cl (Qjd (ar:=ar) a3 hn ai hd ah) ?_;rintro u w7 ⟨a8,rv,e,rfl,⟨z,B,m,d',aw⟩,aj,ax⟩;have ad:Ext w w7:=Jh G a8 (λj ej=>nL y.size (a2 j ej).1);have a4:=(ac.ext U).ext O;have a9:=a4.grown a8 (a4.ne_own a3.1 rfl);subst aw;refine ρ ?_;refine stb a9 ?_ (Vf (z:=z) (A:=B) (n:=m) (c:=d'));intro w8 b4 ay ao;refine ρ ?_;refine Zo b4 ⟨ao w ad hb,_,e,rfl,⟨z,B,m,d',rfl⟩,λ_ _ h3=>aj (by grind),λe0=>⟨b2,λr hr=>?_,?_⟩⟩
 .grind [List.mem_map.1,List.getElem_of_mem,Qn,z0]
 obtain⟨ms,m1,m2,m3,m4⟩:=ax e0;refine⟨ms,?_,m2,m3,λhc=>m4 (by grind)⟩;have bc:b<w6.heap.size/\(Value.slice D k d).ownBlock≠some b:=⟨a4.lt,λe=>a4.ne_own a3.1 rfl e.symm⟩;refine(m1.grown ay (λj ej=>by grind)).mono λj _ hj=>⟨nM hj G.size,λe=>?_⟩;have:=(a2 j e).1;have:=y.size;omega
open Go.RowKit Pl Go.Wk
variable {cs:List Nat}{ls:List Row}{ar i k:Nat}{v:Value}{w:World}
theorem Jyx: ∀(q:Row) (i:Nat) (x:V),i<q.length->Jr (q.set i x)=(Jr q).take (i*3)++x.cells++(Jr q).drop (i*3+3)
 | [],i,x,h=>by simp at h
 | v::q,0,x,_=>by
  have e:Jr (v::q)=v.cells++Jr q:=by simp[Jr]
  have e2:Jr (x::q)=x.cells++Jr q:=by simp[Jr]
  rw[List.set_cons_zero,e,e2,Nat.zero_mul,List.take_zero,List.nil_append,Nat.zero_add];congr 1
 | v::q,i+1,x,h=>by
  have ih:=Jyx q i x (by simpa using h);have e:Jr (v::q)=v.cells++Jr q:=by simp[Jr]
  have e2:Jr (v::q.set i x)=v.cells++Jr (q.set i x):=by simp[Jr]
  have hl:v.cells.length=3:=rfl;rw[List.set_cons_succ,e,e2,ih];have e3:(v.cells++Jr q).take ((i+1)*3)=v.cells++(Jr q).take (i*3):=by grind [List.take_append,List.take_of_length_le]
  grind [Jr,List.drop_append,List.drop_of_length_le,List.append_assoc]
theorem Jyw(n:Nat): (madeCells (Value.agg #[.int .i64 0,.int .i64 0,.string ⟨#[]⟩]).cells (n*3)).toList=Jr (List.replicate n V0):=by
 apply List.ext_getElem?
 intro k;have j:(Value.agg #[.int .i64 0,.int .i64 0,.string ⟨#[]⟩]).cells = #[.int .i64 0,.int .i64 0,.string ⟨#[]⟩]:=rfl;rw[j];by_cases hk:k<n*3
 .have i:=Jyz (List.replicate n V0) (k / 3) (k % 3) (by simp;omega) om;rw[show k / 3*3+k % 3=k by omega]at i;rw[i];have e:(List.replicate n V0).getD (k / 3) V0=V0:=by grind
  rw[e];have u:k % 3<3:=om
  simp only[madeCells,Array.getElem?_toList,Array.getElem?_map,Array.getElem?_range,hk,if_true,Option.map_some];generalize k % 3=r at *
  have:r=0∨r=1∨r=2:=om
  rcases this with rfl|rfl|rfl<;>rfl
 rw[List.getElem?_eq_none (by simp[madeCells];omega),List.getElem?_eq_none (by grind [Qvs])]
def Jt(zs:List Int): List Value:=zs.map (Value.int .i64)
def IntsV(w:World)(v:Value)(zs:List Int): Prop:=∃ A c,v=.slice A zs.length c/\zs.length<=c/\zs.length<=1100000/\Rd w 1 A zs.length (Jt zs)
theorem IntsV.ext{w w':World}{v:Value}{zs:List Int}(h:IntsV w v zs)(hx:Ext w w'): IntsV w' v zs:=by obtain⟨A,c,y,u,j,i⟩:=h;exact⟨A,c,y,u,j,i.ext hx⟩
theorem Yq{zs:List Int}(h:i<zs.length): (Jt zs)[i]?=some (.int .i64 (zs.getD i 0)):=by simp[Jt,List.getD,List.getElem?_eq_getElem h]
def nz(cs:List Nat): List Int:=cs.map fun (c:Nat)=>(c:Int)
theorem Qg(h:i<cs.length): (Jt (nz cs))[i]?=some (.int .i64 (cs.getD i 0:Int)):=by simp[Jt,nz,List.getD,List.getElem?_eq_getElem h]
theorem Js(cs:List Nat): (nz cs).length=cs.length:=by simp[nz]
def pmR(cs:List Nat)(r:Row): Row:=cs.map λc=>r.getD c V0
abbrev Yw(w:World)(base:Nat)(v:Value)(q:Row): Prop:=w.ownsRow base 75 3 v q.length (Jr q)
theorem Zk(cs:List Nat)(r:Row): (pmR cs r).length=cs.length:=by simp[pmR]
theorem Jml{r:Row}(hk:k<cs.length): (pmR cs r).getD k V0=r.getD (cs.getD k 0) V0:=by grind [Qn,V0,pmR]
theorem Jkb(h:RelV w v ar ls): Ret Tryz.prog 11 [v] w λu w'=>u=.int .i64 (ls.length:Int)/\Ext w w':=by
 obtain⟨J,rfl,ps,A,c,rfl,rfl,F,D,U,y⟩:=h;refine Jz Tryz.func11 Tryz.ntmps11 rfl kr rfl ?_;refine ρ ?_;refine bx ?_;intro w1 b j O G;refine ρ ?_;refine ld (G.at (i:=1) rfl) ?_;refine ρ ?_;exact Jq ⟨by rw[List.length_map],j⟩
theorem Jbc(h:RelV w v ar ls): Ret Tryz.prog 31 [v] w λu w'=>u=.int .i64 (ar:Int)/\Ext w w':=by
 obtain⟨J,rfl,ps,A,c,rfl,rfl,F,D,U,y⟩:=h;refine Jz Tryz.func31 Tryz.ntmps31 rfl kr rfl ?_;refine ρ ?_;refine bx ?_;intro w1 b j O G;refine ρ ?_;refine ld (G.at (i:=0) rfl) ?_;refine ρ ?_;exact Jq ⟨rfl,j⟩
theorem Jbb(h:RelV w v ar ls): Ret Tryz.prog 26 [v] w λu w'=>Ext w w'/\RowsP (λk=>k<w.heap.size) w' u ls:=by
 obtain⟨rv,rfl,ps,A,c,rfl,rfl,ah,ae,hR,a6⟩:=h;generalize hn:ps.length=n at *
 refine Jz Tryz.func26 Tryz.ntmps26 rfl kr rfl ?_;refine ρ ?_;refine bx ?_;intro w0 b U hb hB;refine ρ ?_;refine ld (hB.at (i:=1) rfl) ?_;refine ρ ?_;refine mkn ER n om (by unfold maxLen;omega) ?_;intro w1 O ad a8 hO;have a9:∀ k,(Value.slice O n n).ownBlock=some k->w0.heap.size<=k/\k<w1.heap.size:=by grind [Jy]
 have af:Dat w1 w0.heap.size (.slice O n n) ([]++List.replicate n (.slice none 0 0,[])):=by
  refine⟨?_,λp J=>?_⟩
  .rw[List.nil_append,List.length_replicate,Pr.rep];have e:(madeCells (Value.slice none 0 0).cells (n*1)).toList=List.replicate n (.slice none 0 0):=by rw[Nat.mul_one];exact Ye _ _
   rw[e]at a8;exact a8
  rw[List.nil_append]at J;rw[(List.mem_replicate.1 J).2];rfl
 obtain⟨N,hN⟩:∃ N:Nat->Prop,N=λk=>k<w0.heap.size∨(Value.slice O n n).ownBlock=some k:=⟨_,rfl⟩;refine ρ ?_;refine Qw (fun (k:Nat) (D:List Pr)=>[(1,.pointer (some ⟨b,0,none⟩)),(3,.slice O n n),(10,.int .i64 (n:Int)),(11,.int .i64 (k:Int))])
  (λk D w2=>k<=n/\D.length=k/\D.map (·.2)=(ps.take k).map (·.2)/\Ext w0 w2/\w1.heap.size<=w2.heap.size/\Dat w2 w0.heap.size (.slice O n n) (D++List.replicate (n-k) (.slice none 0 0,[]))/\(∀ p∈D,Off N w2 (λu=>RowV u p.1 p.2))) (λk _=>n-k) 0 [] sB
  ⟨Nat.zero_le _,rfl,rfl,ad,Nat.le_refl _,af,λp J=>(by cases J)⟩ ?_
 rintro k D w2 ⟨hk,a1,a7,G,a5,a4,aa⟩;have y:=U.trans G;refine ρ ?_;refine ci (λh=>?_) (λh=>?_)
 .have lk:k<n:=by have:=oT h;omega
  refine ρ ?_;refine ld ((hB.ext G).at (i:=1) rfl) ?_;refine ρ ?_;refine ix k (hR.ext y) lk ?_;refine ρ ?_;refine ld (Ib (hR.ext y) hn lk) ?_;refine ρ ?_;refine cl (Jdq ((a6 _ (Vv hn lk)).ext y) N (λj hj=>?_)) ?_
  .subst hN;rcases hj with h'|h'
   .exact nM h' G.size
   repeat grind
  rintro v3 w3 ⟨Z,F⟩;have a3:=a4.ext F;have a2:(D++List.replicate (n-k) ((.slice none 0 0,[]):Pr)).length=n:=by simp;omega
  obtain⟨s1,s2,s3⟩:=a3.store a2 lk (p:=(v3,(ps.getD k z0).2)) Z.v.one;refine ρ ?_;refine ix k (a3.rd a2) lk ?_;refine ρ ?_;refine sto (a3.cell a2 lk) s1 ?_ (hv:=Z.v.one);refine ρ ?_;have e:(D++List.replicate (n-k) ((.slice none 0 0,[]):Pr)).set k (v3,(ps.getD k z0).2)=(D++[(v3,(ps.getD k z0).2)])++List.replicate (n-(k+1)) (.slice none 0 0,[]):=by
   rw[show n-k=(n-(k+1))+1 by omega,List.replicate_succ,List.set_append_right _ _ om,a1,Nat.sub_self,List.set_cons_zero,List.append_assoc];rfl
  rw[e]at s2;have ac:∀ j,(Value.slice O n n).ownBlock=some j->N j:=λj ej=>by rw[hN];exact .inr ej
  refine Ja (k+1) (D++[(v3,(ps.getD k z0).2)]) sO ⟨om,by simp[a1],?_,Jh (G.trans F) s3 (λj hj=>(a9 j hj).1),Nat.le_trans a5 (nL F.size s3.size),s2,λp J=>?_⟩ om
  .grind [Xy,z0]
  rcases List.mem_append.1 J with h'|h'
  .exact((aa p h').ext F).grown s3 ac
  rw[List.mem_singleton.1 h'];exact Z.off.grown s3 ac
 have e:k=n:=by have:=oF h;omega
 subst e;rw[Nat.sub_self,List.replicate_zero,List.append_nil]at a4;rw[List.take_of_length_le om]at a7;refine ρ ?_;refine Jq ⟨y,?_⟩;rw[<-a7];refine rowsP a4 a1 ae (nR _) (λj ej hj=>?_) λp J=>(aa p J).mono λj _ hj=>by rw[hN];exact .inl (nM hj U.size)
 have:=(a9 j ej).1;have:=U.size;omega
open Go.RowKit Pl Go.Wk
variable {cs:List Nat}{v vc:Value}{w:World}
theorem Qvq{r:Row}(h:RowV w v r)(hc:IntsV w vc (nz cs))(hlt:∀ c∈cs,c<r.length): Ret Tryz.prog 63 [v,vc] w λu w'=>Ext w w'/\∃ x,u=.tuple #[x,.int .i64 0]/\Off (λk=>k<w.heap.size) w' (λy=>RowV y x (pmR cs r)):=by
 obtain⟨A,ac,rfl,ai,ah,a9⟩:=h;obtain⟨C,cc,rfl,ae,aa,G⟩:=hc;rw[Js]at *;refine Jz Tryz.func63 Tryz.ntmps63 rfl kr rfl ?_;refine ρ ?_;refine Jl (fun (k:Nat)=>[(0,.slice A r.length ac),(1,.slice C cs.length cc),(10,.int .i64 (cs.length:Int)),(11,.int .i64 (k:Int))]) (λk w'=>w'=w/\k<=cs.length) (λk=>cs.length-k) 0 sB ⟨rfl,Nat.zero_le _⟩ ?_;rintro k w' ⟨rfl,hk⟩;refine ρ ?_;refine ci (λh=>?_) (λh=>?_)
 .have lk:k<cs.length:=by have:=oT h;omega
  have af:=hlt _ (getD_mem' 0 cs lk);refine ρ ?_;refine ix k G lk ?_;refine ρ ?_;refine ld (G.cell (Qg lk)) ?_;refine ρ ?_;refine kf 19 ?_ ?_
  .grind
  refine ρ ?_;refine ix k G lk ?_;refine ρ ?_;refine ld (G.cell (Qg lk)) ?_;refine ρ ?_;refine cf ?_ ?_
  .grind
  refine ρ ?_;exact Jf (k+1) sO ⟨rfl,om⟩ om
 refine ρ ?_;refine mkn EV cs.length om (by unfold maxLen;omega) ?_;intro w4 O a4 a6 hO;rw[Jyw]at a6;have a2:Yw w4 w'.heap.size (.slice O cs.length cs.length) ([]++List.replicate cs.length V0):=by grind
 refine ρ ?_;refine Jl (fun (i:Nat)=>[(0,.slice A r.length ac),(1,.slice C cs.length cc),(7,.slice O cs.length cs.length),(33,.int .i64 (cs.length:Int)),(34,.int .i64 (i:Int))])
  (λi w5=>i<=cs.length/\Ext w' w5/\Yw w5 w'.heap.size (.slice O cs.length cs.length) ((pmR cs r).take i++List.replicate (cs.length-i) V0)) (λi=>cs.length-i) 0 sB
  ⟨Nat.zero_le _,a4,a2⟩ ?_
 rintro i w5 ⟨hi,J,D⟩;have F:((pmR cs r).take i++List.replicate (cs.length-i) V0).length=cs.length:=by simp[Zk];omega
 rw[Yw,F]at D;refine ρ ?_;refine ci (λh0=>?_) (λh0=>?_)
 .have li:i<cs.length:=by have:=oT h0;omega
  have U:=G.ext J;have Z:RdR w5 A r:=Rd.ext a9 J;have lc:=hlt _ (getD_mem' 0 cs li);refine ρ ?_;refine ix i U li ?_;refine ρ ?_;refine ld (U.cell (Qg li)) ?_;refine ρ ?_;refine ixq 3 (cs.getD i 0) Z lc ?_;refine ρ ?_;refine lds (λj u hu=>RdR.cell Z lc hu) ?_;refine ρ ?_;refine ixq 3 i (Rd.own D) li ?_;refine ρ ?_;refine stoE (cs:=(r.getD (cs.getD i 0) V0).cells) D li ?_ (V.one _);intro w6 a5 a8;have a3:Ext w' w6:=Jh J a8 (λk hk=>by grind [Jy]);refine ρ ?_;refine Jf (i+1) sO ⟨om,a3,?_⟩ om;have e:((pmR cs r).take i++List.replicate (cs.length-i) V0).set i (r.getD (cs.getD i 0) V0)=(pmR cs r).take (i+1)++List.replicate (cs.length-(i+1)) V0:=by
   have hl:((pmR cs r).take i).length=i:=by simp[Zk];omega
   rw[List.set_append_right _ _ om,hl,Nat.sub_self,show cs.length-i=(cs.length-(i+1))+1 by omega,List.replicate_succ,List.set_cons_zero,List.take_succ_eq_append_getElem (by rw[Zk];omega),List.append_assoc];rw[<-Jml li,Qn V0 _ (by rw[Zk];omega)];rfl
  have a1:((pmR cs r).take (i+1)++List.replicate (cs.length-(i+1)) V0).length=cs.length:=by grind
  rw[Yw,a1,<-e,Jyx _ _ _ (by rw[F];omega)];exact a5
 have a7:i=cs.length:=by have:=oF h0;omega
 subst a7;rw[Nat.sub_self,List.replicate_zero,List.append_nil,List.take_of_length_le (by rw[Zk];omega)]at D;refine ρ ?_;refine Xx ⟨J,_,rfl,?_⟩;obtain⟨_,_,_,_,hf⟩:=Jy D;intro y hg;refine⟨O,cs.length,by rw[Zk],by rw[Zk];omega,by rw[Zk];omega,?_⟩;rw[RdR,Zk];refine Zm (Rd.own D) hg λ_ ad e=>?_;grind
theorem Jlq{ar:Nat}{ls:List Row}(h:RelV w v ar ls)(hc:IntsV w vc (nz cs))(hlen:∀ r∈ls,r.length=ar)(hlt:∀ c∈cs,c<ar)(h32:cs.length<=32)(hbig:ls.length<=65536):
  Ret Tryz.prog 32 [v,vc] w λu w'=>Ext w w'/\∃ rv,u=.tuple #[rv,.int .i64 0]/\(∃ z B m d,rv=.agg #[.int .i64 z,.slice B m d])/\∃ m,Off (λk=>k<w.heap.size) w' (λx=>RelV x rv cs.length m)/\m.length<=65536/\(∀ x∈m,x∈ls.map (pmR cs))/\((ls.length<=12∨Srt [] (ls.map (pmR cs)))->Xd [] (ls.map (pmR cs)) m):=by
 obtain⟨rv,rfl,ps,A,c,rfl,rfl,bd,b3,hR,ai⟩:=h;obtain⟨C,cc,rfl,bf,be,b6⟩:=id hc;generalize hn:ps.length=n at *
 rw[List.length_map,hn]at hbig;have a9:∀ p∈ps,p.2.length=ar:=by grind
 rw[Js]at *;refine Jz Tryz.func32 Tryz.ntmps32 rfl kr rfl ?_;refine ρ ?_;refine bx ?_;intro w1 b1 U bh bc;refine ρ ?_;refine alc Uw ?_;intro w2 b2 af b7 bb;have a4:=U.trans af;have a6:=bc.ext af;refine ρ ?_;refine cf ?_ ?_
 .grind
 refine ρ ?_;refine Jl (fun (k:Nat)=>[(1,.slice C cs.length cc),(2,.pointer (some ⟨b1,0,none⟩)),(4,.pointer (some ⟨b2,0,none⟩)),(14,.int .i64 (cs.length:Int)),(15,.int .i64 (k:Int))]) (λk w'=>Ext w2 w'/\k<=cs.length) (λk=>cs.length-k) 0 sB ⟨Ext.refl _,Nat.zero_le _⟩ ?_;rintro k w3 ⟨a2,hk⟩;refine ρ ?_;refine ci (λh=>?_) (λh=>?_)
 .have lk:k<cs.length:=by have:=oT h;omega
  have ap:=hlt _ (getD_mem' 0 cs lk);clear h;refine ρ ?_;refine dr [(0,0),(0,1),(0,2),(0,3),(0,4),(0,5),(0,6),(0,7),(0,8),(0,9),(0,10),(0,11),(0,12),(0,13)] kr ?_;have a7:=a2.drew;have D:=b6.ext (a4.trans a7);refine ρd ?_;refine dix k D lk ?_;refine ρd ?_;refine dld (D.cell (Qg lk)) ?_;refine ρd ?_;refine dkf 23 ?_ ?_
  .grind
  refine ρd ?_;refine dix k D lk ?_;refine ρd ?_;refine dld (D.cell (Qg lk)) ?_;refine ρd ?_;refine dld ((a6.ext a7).at (i:=0) rfl) ?_;refine ρd ?_;refine ρ ?_;refine cf ?_ ?_
  .grind
  refine ρ ?_;exact Jf (k+1) sO ⟨a7,om⟩ om
 clear h hk;have G:=a4.trans a2;have a5:=a6.ext a2;refine ρ ?_;refine ld (a5.at (i:=1) rfl) ?_;refine ρ ?_;refine mkn ER n om (by unfold maxLen;omega) ?_;intro w4 O aw am hO;have ac:∀ k,(Value.slice O n n).ownBlock=some k->w3.heap.size<=k/\k<w4.heap.size:=by grind [Jy]
 have b8:Dat w4 w3.heap.size (.slice O n n) ([]++List.replicate n (.slice none 0 0,[])):=by
  refine⟨?_,λp hp=>?_⟩
  .rw[List.nil_append,List.length_replicate,Pr.rep];have e:(madeCells (Value.slice none 0 0).cells (n*1)).toList=List.replicate n (.slice none 0 0):=by rw[Nat.mul_one];exact Ye _ _
   rw[e]at am;exact am
  rw[List.nil_append]at hp;rw[(List.mem_replicate.1 hp).2];rfl
 obtain⟨N,hN⟩:∃ N:Nat->Prop,N=λk=>k<w3.heap.size∨(Value.slice O n n).ownBlock=some k:=⟨_,rfl⟩;refine ρ ?_;refine Qw (fun (k:Nat) (F:List Pr)=>[(1,.slice C cs.length cc),(2,.pointer (some ⟨b1,0,none⟩)),(4,.pointer (some ⟨b2,0,none⟩)),(7,.slice O n n),(39,.int .i64 (n:Int)),(40,.int .i64 (k:Int))])
  (λk F w5=>k<=n/\F.length=k/\F.map (·.2)=(ps.take k).map (λp=>pmR cs p.2)/\Ext w3 w5/\w4.heap.size<=w5.heap.size/\Dat w5 w3.heap.size (.slice O n n) (F++List.replicate (n-k) (.slice none 0 0,[]))/\(∀ p∈F,Off N w5 (λu=>RowV u p.1 p.2))) (λk _=>n-k) 0 [] sB
  ⟨Nat.zero_le _,rfl,rfl,aw,Nat.le_refl _,b8,λp hp=>(by cases hp)⟩ ?_
 rintro k F w5 ⟨hk,a8,ak,J,ah,Z,aq⟩;have y:=G.trans J;refine ρ ?_;refine ci (λh=>?_) (λh=>?_)
 .have lk:k<n:=by have:=oT h;omega
  have ay:(ps.getD k z0).2.length=ar:=a9 _ (Vv hn lk);refine ρ ?_;refine ld ((a5.ext J).at (i:=1) rfl) ?_;refine ρ ?_;refine ix k (hR.ext y) lk ?_;refine ρ ?_;refine ld (Ib (hR.ext y) hn lk) ?_;refine ρ ?_;refine cl (Qvq ((ai _ (Vv hn lk)).ext y) (hc.ext y) (λc ap=>by rw[ay];exact hlt c ap)) ?_;rintro u w6 ⟨a1,x,rfl,aj⟩;have ad:=Z.ext a1;have aa:(F++List.replicate (n-k) ((.slice none 0 0,[]):Pr)).length=n:=by simp;omega
  have U:x.oneCell'=true:=aj.here.one;obtain⟨s1,s2,s3⟩:=ad.store aa lk (p:=(x,pmR cs (ps.getD k z0).2)) U;refine ρ ?_;refine ix k (ad.rd aa) lk ?_;refine ρ ?_;refine sto (ad.cell aa lk) s1 ?_ (hv:=U);refine ρ ?_;have e:(F++List.replicate (n-k) ((.slice none 0 0,[]):Pr)).set k (x,pmR cs (ps.getD k z0).2)=(F++[(x,pmR cs (ps.getD k z0).2)])++List.replicate (n-(k+1)) (.slice none 0 0,[]):=by
   rw[show n-k=(n-(k+1))+1 by omega,List.replicate_succ,List.set_append_right _ _ om,a8,Nat.sub_self,List.set_cons_zero,List.append_assoc];rfl
  rw[e]at s2;have au:∀ j,(Value.slice O n n).ownBlock=some j->N j:=λj ej=>by rw[hN];exact .inr ej
  refine Ja (k+1) (F++[(x,pmR cs (ps.getD k z0).2)]) sO ⟨om,by simp[a8],?_,Jh (J.trans a1) s3 (λj hj=>(ac j hj).1),Nat.le_trans ah (nL a1.size s3.size),s2,λp hp=>?_⟩ om
  .grind [Xy,z0]
  rcases List.mem_append.1 hp with h'|h'
  .exact((aq p h').ext a1).grown s3 au
  rw[List.mem_singleton.1 h'];refine(aj.mono λj _ hj=>?_).grown s3 au;rw[hN]at hj;rcases hj with h'|h'
  .exact nM h' J.size
  repeat grind
 have e:k=n:=by have:=oF h;omega
 subst e;rw[Nat.sub_self,List.replicate_zero,List.append_nil]at Z;rw[List.take_of_length_le om]at ak;have b4:F.map (·.2)=(ps.map (·.2)).map (pmR cs):=by rw[ak,List.map_map];rfl
 refine ρ ?_;refine cl (Qjd (ar:=cs.length) Z a8 b3 (nR _) (λp hp=>(aq p hp).mono λj _ hj=>by rw[hN];exact .inr hj)) ?_;rintro u w7 ⟨an,rv,e,rfl,⟨z,B,m,d',ax⟩,ao,az⟩;have he:=ao hbig;subst he;have ae:Ext w w7:=Jh y an (λj ej=>nL G.size (ac j ej).1);have a3:=(bb.ext a2).ext J;have ba:=a3.grown an (a3.ne_own Z.1 rfl);subst ax;refine ρ ?_;refine stb ba ?_ (Vf (z:=z) (A:=B) (n:=m) (c:=d'));intro w8 b9 b5 av;refine ρ ?_;obtain⟨ms,m1,m2,m3,m4⟩:=az rfl;rw[b4]at m3 m4;refine Zo b9 ⟨av w ae (nL U.size b7),_,rfl,⟨z,B,m,d',rfl⟩,ms,?_,m2,m3,λhc=>m4 (by grind)⟩;have bg:b2<w5.heap.size/\(Value.slice O k k).ownBlock≠some b2:=⟨a3.lt,λe=>a3.ne_own Z.1 rfl e.symm⟩;refine(m1.grown b5 (λj ej=>by grind)).mono λj _ hj=>⟨nM hj y.size,λe=>?_⟩;have:=(ac j e).1;have:=G.size;omega
open Go.RowKit Pl Go.Wk
variable {t:Bool}{n:Int}{bs:List Bool}{c g i j:Nat}{A:Option Addr}{u v:Value}{w:World}
structure Atm where
 vars: List Int
 ar:Nat
 rows:List Row
abbrev V3:= Value×Value×Value
def V3.cells(t:V3): List Value:=[t.1,t.2.1,t.2.2]
def AtV(w:World)(t:V3)(a:Atm): Prop:=IntsV w t.1 a.vars/\t.2.1=.int .i64 (a.ar:Int)/\RowsV w t.2.2 a.rows
theorem AtV.ext{w w':World}{t:V3}{a:Atm}(h:AtV w t a)(hx:Ext w w'): AtV w' t a:=⟨h.1.ext hx,h.2.1,h.2.2.ext hx⟩
theorem AtV.rel{t:V3}{a:Atm}(h:AtV w t a): RelV w (.agg #[t.2.1,t.2.2]) a.ar a.rows:=⟨t.2.2,by rw[h.2.1],h.2.2⟩
theorem AtV.one{t:V3}{a:Atm}(h:AtV w t a): ∀ u∈t.cells,u.oneCell'=true:=by
 obtain⟨⟨A,c,D,_⟩,y,⟨ps,B,d,_,j,_⟩⟩:=h;intro u i;simp only[V3.cells,List.mem_cons,List.not_mem_nil,or_false]at i;rcases i with rfl|rfl|rfl
 .rw[D];rfl
 .rw[y];rfl
 rw[j];rfl
def v30: V3:=(undef,undef,undef)
def a0: Atm:=⟨[],0,[]⟩
abbrev TA:= V3×Atm
def ta0: TA:=(v30,a0)
def atC(ts:List TA): List Value:=ts.flatMap λp=>p.1.cells
theorem Qqc: ∀(r:List TA) (i j:Nat),i<r.length->j<3->(atC r)[i*3+j]?=(r.getD i ta0).1.cells[j]?
 | [],i,j,h,_=>by simp at h
 | v::r,0,j,_,hj=>by
  simp only[atC,List.flatMap_cons,Nat.zero_mul,Nat.zero_add,List.getD_cons_zero];grind [List.getElem?_append_left,V3.cells]
 | v::r,i+1,j,h,hj=>by
  have ih:=Qqc r i j (by simpa using h) hj;grind [atC,List.getD_cons_succ,List.getElem?_append_right,V3.cells]
def AtsV(w:World)(v:Value)(ats:List Atm): Prop:=∃(ts:List TA) (A:Option Addr) (c:Nat),ats=ts.map (·.2)/\v=.slice A ts.length c/\ts.length<=c/\ts.length<=1100000/\Rd w 3 A ts.length (atC ts)/\∀ p∈ts,AtV w p.1 p.2
theorem AtsV.ext{w w':World}{v:Value}{ats:List Atm}(h:AtsV w v ats)(hx:Ext w w'): AtsV w' v ats:=by
 obtain⟨i,A,c,J,G,F,D,y,u⟩:=h;exact⟨i,A,c,J,G,F,D,y.ext hx,λp j=>(u p j).ext hx⟩
theorem Jvf{n:Nat}{ts:List TA}(hR:Rd w 3 A n (atC ts))(hn:ts.length=n)(hi:i<n)(hu:(ts.getD i ta0).1.cells[j]?=some u): w.cell? ((adr A (i*3)).add j)=some u:=by
 have y:j<3:=by grind [List.getElem?_eq_some_iff.1,V3.cells]
 rw[Kn];exact hR.cell (by grind [Qqc])
theorem Jvx{ts:List TA}{n:Nat}(hn:ts.length=n)(hi:i<n): ts.getD i ta0∈ts:=getD_mem' ta0 ts (hn.symm ▸ hi)
def Jzc(zs:List Int): Prop:=∀ j,0<j->j<zs.length->zs.getD (j-1) 0<zs.getD j 0
def Za(n:Int)(a:Atm): Prop:=Jzc a.vars/\(∀ v∈a.vars,0<=v/\v<n)/\a.vars.length=a.ar
def Gf(n:Int)(ats:List Atm): Prop:=0<=n/\n<=32/\ats.length<=32/\(∀ a∈ats,Za n a)/\∀ v:Nat,(v:Int)<n->∃ a∈ats,(v:Int)∈a.vars
theorem Qlf(hR:RdB w A bs)(hm:bs.length<=1100000): Ret Tryz.prog 111 [.slice A bs.length c,.bool t] w λu w'=>w'=w/\∃ z,u=.int .i64 z/\(0<=z↔t∈bs):=by
 refine Jz Tryz.func111 Tryz.ntmps111 rfl kr rfl ?_;refine ρ ?_;refine Jl (fun (k:Nat)=>[(0,.slice A bs.length c),(1,.bool t),(7,.int .i64 (bs.length:Int)),(8,.int .i64 (k:Int))]) (λk w'=>w'=w/\k<=bs.length/\t ∉ bs.take k) (λk=>bs.length-k) 0 sB ⟨rfl,Nat.zero_le _,by simp⟩ ?_;rintro k w' ⟨rfl,i,j⟩;refine ρ ?_;refine ci (λh=>?_) (λh=>?_)
 .have lk:k<bs.length:=by have:=oT h;omega
  refine ρ ?_;refine ix k hR lk ?_;refine ρ ?_;refine ld (RdB.cell hR lk) ?_;refine eqb ?_;refine ρ ?_;refine ci (λh=>?_) (λh=>?_)
  .refine ρ ?_;refine Jq ⟨rfl,(k:Int),rfl,⟨λ_=>?_,λ_=>om⟩⟩;grind
  refine ρ ?_;refine Jf (k+1) sO ⟨rfl,om,?_⟩ om;grind [Xy,lk,List.mem_singleton]
 refine ρ ?_;refine Jq ⟨rfl,-1,rfl,⟨λe=>om,λe=>?_⟩⟩;grind
theorem Qnl(hR:RdB w A bs)(hm:bs.length<=1100000): Ret Tryz.prog 65 [.slice A bs.length c,.bool t] w λu w'=>w'=w/\∃ b:Bool,u=.bool b/\(b=true↔t∈bs):=by
 refine Jz Tryz.func65 Tryz.ntmps65 rfl kr rfl ?_;refine ρ ?_;refine cl (Qlf hR hm) ?_;rintro u w' ⟨rfl,z,rfl,i⟩;refine ρ ?_;exact Jq ⟨rfl,decide (0<=z),rfl,by grind⟩
theorem Blk.at2{t:TypeId}{cs:List Value}(h:Blk w g t cs)(hv:cs[i+j]?=some v): w.cell? ((⟨g,i,none⟩:Addr).add j)=some v:=by rw[Zu,h.cell];exact hv
theorem Vy: Xz Tryz.prog 37=some (.agg #[.slice none 0 0,.int .i64 0,.slice none 0 0]):=kr
abbrev Jjr(w:World)(base:Nat)(v:Value)(bs:List Bool): Prop:=w.ownsRow base 4 1 v bs.length (bs.map Value.bool)
theorem Qrb(h:i<bs.length): (bs.map Value.bool)[i]?=some (.bool (bs.getD i false)):=by grind
theorem Qln(bs:List Bool)(i k:Nat)(x:Bool)(hi:i<bs.length): (bs.set i x).getD k false=if k=i then x else bs.getD k false:=Jcn false bs i k x hi
open Classical in
noncomputable def atE (n:Int) (a:Atm):Int:=if¬ Jzc a.vars then 16 else if¬ (∀ v∈a.vars,0<=v/\v<n) then 3 else if a.vars.length≠a.ar then 6 else 0
theorem atE_ok{a:Atm}: atE n a=0↔Za n a:=by unfold atE Za;grind
noncomputable def frE(n:Int): List Atm->Int
 | []=>0
 | a::r=>if atE n a=0 then frE n r else atE n a
open Classical in
noncomputable def lfE (n:Int) (ats:List Atm):Int:=if¬ (0<=n/\n<=32) then 3 else if 32<ats.length then 12 else if frE n ats=0 then(if ∀ v:Nat,(v:Int)<n->∃ a∈ats,(v:Int)∈a.vars then 0 else 22) else frE n ats
theorem Jwp{n:Int}: ∀ {l:List Atm},(∀ a∈l,Za n a)->frE n l=0
 | [],_=>rfl
 | a::r,h=>by rw[frE,if_pos (atE_ok.2 (h a mC))];exact Jwp λb hb=>h b (List.mem_cons_of_mem _ hb)
theorem Jrq{n:Int}: ∀ {l:List Atm},frE n l=0->∀ a∈l,Za n a
 | [],_,a,ha=>by cases ha
 | b::r,h,a,ha=>by
  rw[frE]at h;by_cases e:atE n b=0
  .rw[if_pos e]at h;rcases List.mem_cons.1 ha with rfl|ha
   .exact atE_ok.1 e
   exact Jrq h a ha
  rw[if_neg e]at h;exact absurd h e
theorem Jrr{n:Int}: ∀ {l:List Atm} {i:Nat},(∀ j,j<i->Za n (l.getD j a0))->i<l.length->atE n (l.getD i a0)≠0->frE n l=atE n (l.getD i a0)
 | [],i,_,h,_=>by simp at h
 | a::r,0,_,_,h=>by rw[frE,if_neg (by simpa using h)];simp
 | a::r,i+1,h,hi,he=>by
  rw[frE,if_pos (atE_ok.2 (by simpa using h 0 om)),List.getD_cons_succ];exact Jrr (λj hj=>by have:=h (j+1) om;rwa [List.getD_cons_succ]at this) (by simpa using hi) (by rwa [List.getD_cons_succ]at he)
theorem Jqk(ts:List TA)(j:Nat): (ts.map (·.2)).getD j a0=(ts.getD j ta0).2:=by
 simp only[List.getD,List.getElem?_map];cases ts[j]?<;>rfl
theorem Qgt{ats:List Atm}: lfE n ats=0↔Gf n ats:=by
 unfold lfE Gf;refine⟨λh=>?_,λ⟨y,u,D,j,i⟩=>?_⟩
 .by_cases c1:0<=n/\n<=32
  .rw[if_neg (λh=>h c1)]at h;by_cases c2:32<ats.length
   .rw[if_pos c2]at h;cases h
   rw[if_neg c2]at h;by_cases c3:frE n ats=0
   .rw[if_pos c3]at h;by_cases c4:∀ v:Nat,(v:Int)<n->∃ a∈ats,(v:Int)∈a.vars
    .exact⟨c1.1,c1.2,om,Jrq c3,c4⟩
    rw[if_neg c4]at h;cases h
   rw[if_neg c3]at h;exact absurd h c3
  rw[if_pos c1]at h;cases h
 rw[if_neg (λh=>h ⟨y,u⟩),if_neg om,if_pos (Jwp j),if_pos i]
theorem Qgv{ats:List Atm}(h:AtsV w v ats): Ret Tryz.prog 34 [.int .i64 n,v] w λu w'=>Ext w w'/\u=.int .i64 (lfE n ats):=by
 obtain⟨ts,A,c,rfl,rfl,bn,bm,hR,br⟩:=h;generalize hm:ts.length=m at *
 refine Jz Tryz.func34 Tryz.ntmps34 rfl kr rfl ?_;refine ρ ?_;refine Jqb (fun (t:Bool)=>[(0,.int .i64 n),(1,.slice A m c),(16,.bool t)]) (λt w'=>w'=w/\(t=true↔¬ (0<=n/\n<=32))) ?_ ?_
 .refine ki 13 (λh=>?_) (λh=>?_)
  .refine ρ ?_;exact Je true sB ⟨rfl,by grind⟩
  refine ρ ?_;refine Je _ sB ⟨rfl,?_⟩;grind
 rintro t w' ⟨rfl,ht⟩;refine ci (λh=>?_) (λh=>?_)
 .refine ρ ?_;exact Jq ⟨Ext.refl _,congrArg _ (by rw[lfE,if_pos (ht.1 h)])⟩
 have hn:0<=n/\n<=32:=by grind
 obtain⟨aj,az⟩:=hn;obtain⟨N,rfl⟩:=Int.eq_ofNat_of_zero_le aj;clear h ht;refine ρ ?_;refine ci (λh=>?_) (λh=>?_)
 .refine ρ ?_;have bg:32<(ts.map (·.2)).length:=by rw[List.length_map];have:=oT h;omega
  exact Jq ⟨Ext.refl _,congrArg _ (by rw[lfE,if_neg (λh=>h ⟨aj,az⟩),if_pos bg])⟩
 have bi:m<=32:=by grind
 clear h;refine ρ ?_;refine mkn EB N om (by unfold maxLen;omega) ?_;intro w1 O b9 ay hO;have ax:Jjr w1 w'.heap.size (.slice O N N) (List.replicate N false):=by
  rw[Jjr,List.length_replicate,List.map_replicate];have e:(madeCells (Value.bool false).cells (N*1)).toList=List.replicate N (Value.bool false):=by rw[Nat.mul_one];exact Ye _ _
  rw[e]at ay;exact ay
 refine ρ ?_;refine Qw (fun (i:Nat) (F:List Bool)=>[(0,.int .i64 (N:Int)),(5,.slice O N N),(22,.slice A m c),(23,.int .i64 (m:Int)),(24,.int .i64 (i:Int))])
  (λi F w2=>i<=m/\Ext w' w2/\F.length=N/\Jjr w2 w'.heap.size (.slice O N N) F/\(∀ j,j<i->Za N (ts.getD j ta0).2)/\∀ v:Nat,v<N->(F.getD v false=true↔∃ j,j<i/\(v:Int)∈(ts.getD j ta0).2.vars)) (λi _=>m-i) 0 (List.replicate N false) sB
  ⟨Nat.zero_le _,b9,by simp,ax,λj hj=>om,λv hv=>⟨λe=>by simp[List.getD,hv]at e,λ⟨j,hj,_⟩=>om⟩⟩ ?_
 rintro i F w2 ⟨hi,a9,J,ai,au,a1⟩;refine ρ ?_;refine ci (λh=>?_) (λh=>?_)
 .have li:i<m:=by have:=oT h;omega
  have b4:=hR.ext a9;obtain⟨t1,t2,t3,a,hp⟩:∃ t1 t2 t3 a,ts.getD i ta0=((t1,t2,t3),a):=⟨_,_,_,_,rfl⟩;have an:AtV w' (t1,t2,t3) a:=by grind
  have bh:a∈ts.map (·.2):=by grind
  clear h;obtain⟨⟨D,d,e1,hd,bq,b2⟩,e2,ah⟩:=id an;simp only at e1 e2;subst e1;subst e2;obtain⟨ps,G,gc,_,aq,_⟩:=id ah;simp only at aq;subst aq;refine ρ ?_;refine ixq 3 i b4 li ?_;refine ρ ?_;refine lds (cs:=[.slice D a.vars.length d,.int .i64 (a.ar:Int),.slice G ps.length gc]) (λj u hu=>Jvf b4 hm li (by rw[hp];exact hu)) ?_;refine ρ ?_;refine alc Vy ?_;intro w3 b b8 hb hB;refine ρ ?_;refine stb hB ?_ an.one;intro w4 am bp b7;have ac:Ext w2 w4:=b7 w2 b8 hb;have a3:=a9.trans ac;have aw:=Jv ai ac;have ak:∀ z:Int,z≠0->atE N a=z->Value.int .i64 z=.int .i64 (lfE N (ts.map (·.2))):=λz hz e=>by
   have h1:frE N (ts.map (·.2))=z:=by
    have:=Jrr (n:=(N:Int)) (l:=ts.map (·.2)) (i:=i) (λj hj=>by rw[Jqk];exact au j hj) (by rw[List.length_map];omega) (by rw[Jqk,hp,e];exact hz)
    rw[this,Jqk,hp,e]
   rw[lfE,if_neg (λh=>h ⟨aj,az⟩),if_neg (by rw[List.length_map];omega),if_neg (by rw[h1];exact hz),h1]
  refine ρ ?_;refine Jl (fun (k:Nat)=>[(0,.int .i64 (N:Int)),(5,.slice O N N),(22,.slice A m c),(23,.int .i64 (m:Int)),(24,.int .i64 (i:Int)),(7,.pointer (some ⟨b,0,none⟩)),(8,.int .i64 (k:Int))])
   (λk w5=>Ext w4 w5/\1<=k/\(k<=a.vars.length∨k=1)/\∀ j,0<j->j<k->a.vars.getD (j-1) 0<a.vars.getD j 0) (λk=>a.vars.length-k) 1 sB ⟨Ext.refl _,Nat.le_refl _,.inr rfl,λj h1 h2=>om⟩ ?_
  rintro k w5 ⟨a8,bc,bb,ae⟩;have aa:=am.ext a8;refine ρ ?_;refine ld (aa.at (i:=0) rfl) ?_;refine ρ ?_;refine ci (λh=>?_) (λh=>?_)
  .have lk:k<a.vars.length:=by have:=oT h;omega
   have ao:k-1<a.vars.length:=om
   clear h;refine ρ ?_;refine dr [(0,0),(0,1),(0,2),(0,3),(0,4),(0,5),(0,6),(0,7),(0,8),(0,9),(0,10),(0,11)] kr ?_;have Z:=a8.drew;have a2:=am.ext Z;have y:=b2.ext (a3.trans Z);refine ρd ?_;refine dld (a2.at (i:=0) rfl) ?_;refine ρd ?_;refine dix (k-1) y ao ?_;refine ρd ?_;refine dld (y.cell (Yq ao)) ?_;refine ρd ?_;refine dld (a2.at (i:=0) rfl) ?_;refine ρd ?_;refine dix k y lk ?_;refine ρd ?_;refine dld (y.cell (Yq lk)) ?_;refine ρd ?_;refine ρ ?_;refine ci (λh=>?_) (λh=>?_)
   .refine ρ ?_;refine Jq ⟨a3.trans Z,ak 16 (by decide) ?_⟩;rw[atE,if_pos];intro h1;have:=h1 k om lk;grind
   refine ρ ?_;refine Jf (k+1) sO ⟨Z,om,om,λj h1 h2=>?_⟩ om;grind
  have U:Jzc a.vars:=λj h1 h2=>ae j h1 (by grind);clear h ae bc bb;have ap:=a3.trans a8;have av:=Jv aw a8;refine ρ ?_;refine ld (aa.at (i:=0) rfl) ?_;refine ρ ?_;refine Qw (fun (q:Nat) (F:List Bool)=>[(0,.int .i64 (N:Int)),(5,.slice O N N),(22,.slice A m c),(23,.int .i64 (m:Int)),(24,.int .i64 (i:Int)),(7,.pointer (some ⟨b,0,none⟩)),(48,.slice D a.vars.length d),(49,.int .i64 (a.vars.length:Int)),(50,.int .i64 (q:Int))])
   (λq F w6=>q<=a.vars.length/\Ext w' w6/\F.length=N/\Jjr w6 w'.heap.size (.slice O N N) F/\Blk w6 b 37 [.slice D a.vars.length d,.int .i64 (a.ar:Int),.slice G ps.length gc]/\(∀ j,j<q->0<=a.vars.getD j 0/\a.vars.getD j 0<N)/\∀ v:Nat,v<N->(F.getD v false=true↔(∃ j,j<i/\(v:Int)∈(ts.getD j ta0).2.vars)∨∃ j,j<q/\a.vars.getD j 0=(v:Int))) (λq _=>a.vars.length-q) 0 F sB
   ⟨Nat.zero_le _,ap,J,av,aa,λj hj=>om,λv hv=>⟨λe=>.inl ((a1 v hv).1 e),λe=>(a1 v hv).2 (e.elim id λ⟨j,hj,_⟩=>om)⟩⟩ ?_
  clear ai aw av aa am a1 J;rintro q F w6 ⟨hq,a7,J,a5,a2,bo,a1⟩;refine ρ ?_;refine ci (λh=>?_) (λh=>?_)
  .have lq:q<a.vars.length:=by have:=oT h;omega
   have y:=b2.ext a7;have ba:a.vars.getD q 0∈a.vars:=getD_mem' 0 _ lq;clear h;refine ρ ?_;refine ix q y lq ?_;refine ρ ?_;refine ld (y.cell (Yq lq)) ?_;refine ρ ?_;generalize hz:a.vars.getD q 0=z at *
   refine Jqb (fun (t:Bool)=>[(0,.int .i64 (N:Int)),(5,.slice O N N),(22,.slice A m c),(23,.int .i64 (m:Int)),(24,.int .i64 (i:Int)),(7,.pointer (some ⟨b,0,none⟩)),(48,.slice D a.vars.length d),(49,.int .i64 (a.vars.length:Int)),(50,.int .i64 (q:Int)),(10,.int .i64 z),(60,.bool t)]) (λt w7=>w7=w6/\(t=true↔¬ (0<=z/\z<N))) ?_ ?_
   .refine ki 56 (λh=>?_) (λh=>?_)
    .refine ρ ?_;exact Je true sB ⟨rfl,by grind⟩
    refine ρ ?_;refine Je _ sB ⟨rfl,?_⟩;grind
   rintro t w7 ⟨rfl,ht⟩;refine ci (λh=>?_) (λh=>?_)
   .refine ρ ?_;exact Jq ⟨a7,ak 3 (by decide) (by rw[atE,if_neg (λh=>h U),if_pos (λh1=>ht.1 h (h1 z ba))])⟩
   have b6:0<=z/\z<N:=by grind
   obtain⟨x,rfl⟩:=Int.eq_ofNat_of_zero_le b6.1;have lx:x<N:=om
   rw[Jjr,J]at a5;obtain⟨s1,s2,s3,s4,s5⟩:=Zp a5 (q:=x) om (.bool true);refine ρ ?_;refine ix x (Rd.own a5) lx ?_;refine ρ ?_;refine sto (s1.trans (Qrb om)) s2 ?_;refine ρ ?_;refine Ja (q+1) (F.set x true) sO ⟨om,Jh a7 s5 (λk hk=>by grind [Jy]),by simpa using J,?_,a2.grown s5 (a2.ne_own a5 rfl),λj hj=>?_,λv hv=>?_⟩ om
   .rw[Jjr,List.length_set,J,List.map_set];exact s3
   repeat grind
  have eq:q=a.vars.length:=by have:=oF h;omega
  clear h;have ad:∀ v∈a.vars,0<=v/\v<N:=λv hv=>by grind [List.getElem_of_mem,Qn]
  refine ρ ?_;refine dr [(0,0),(0,1),(0,2),(0,3),(0,4),(1,5),(0,6)] kr ?_;have a4:=a7.drew;have b5:=a2.ext (Ext.refl w6).drew;have bf:=an.ext a4;refine ρd ?_;refine dld (b5.at (i:=0) rfl) ?_;refine ρd ?_;refine Qq (cs:=[.int .i64 (a.ar:Int),.slice G ps.length gc]) (λj u hu=>Blk.at2 b5 (i:=0+1) (by grind)) ?_;refine ρd ?_;refine dcl (Jbc bf.rel) ?_;rintro u w8 ⟨rfl,a6⟩;refine⟨a6,?_⟩;refine ρd ?_;refine ρ ?_;refine ci (λh=>?_) (λh=>?_)
  .refine ρ ?_;refine Jq ⟨a4.trans a6,ak 6 (by decide) ?_⟩;rw[atE,if_neg (λh=>h U),if_neg (λh=>h ad),if_pos];have:=Jkm h;omega
  refine ρ ?_;have bd:a.vars.length=a.ar:=by have:=Jkn h;omega
  refine Ja (i+1) F sO ⟨om,a4.trans a6,J,Jv (Jv a5 (Ext.refl w6).drew) a6,λj hj=>?_,λv hv=>?_⟩ om
  .by_cases ej:j=i
   .subst ej;rw[hp];exact⟨U,ad,bd⟩
   exact au j om
  repeat grind [getD_mem',List.getElem_of_mem,Qn]
 have ei:i=m:=by have:=oF h;omega
 clear h;subst J;have be:RdB w2 O F:=Rd.own ai;have af:∀ a∈ts.map (·.2),Za F.length a:=λa ha=>by grind [List.mem_map.1,List.getElem_of_mem,Qn,ta0]
 refine ρ ?_;refine cl (Qnl be om) ?_;rintro u w3 ⟨rfl,t,rfl,ht⟩;refine ρ ?_;refine ci (λh=>?_) (λh=>?_)
 .refine ρ ?_;refine Jq ⟨a9,congrArg _ ?_⟩;rw[lfE,if_neg (λh=>h ⟨om,om⟩),if_neg (by rw[List.length_map];omega),if_pos (Jwp af),if_neg];intro b3;obtain⟨x,hx,ex⟩:=List.getElem_of_mem (ht.1 h);obtain⟨a,ha,bj⟩:=b3 x om;grind [List.mem_map.1,List.getElem_of_mem,Qn,ta0]
 refine ρ ?_;refine Jq ⟨a9,congrArg _ ?_⟩;rw[lfE,if_neg (λh=>h ⟨om,om⟩),if_neg (by rw[List.length_map];omega),if_pos (Jwp af),if_pos];intro v hv;have bl:v<F.length:=om
 grind
theorem Jpr{ats:List Atm}(h:AtsV w v ats): Ret Tryz.prog 34 [.int .i64 n,v] w λu w'=>Ext w w'/\∃ e,u=.int .i64 e/\(e=0↔Gf n ats):=(Qgv h).mono λu w' h=>⟨h.1,_,h.2,Qgt⟩
open Go.RowKit Pl Go.Wk
structure Inp where
 n: Int
 free:Int
 desc:List Bool
 perm:List Int
 ats:List Atm
def InC(w:World)(i:Inp)(cs:List Value): Prop:=∃ vd vp va,cs=[.int .i64 i.n,.int .i64 i.free,vd,vp,va]/\BoolsV w vd i.desc/\IntsV w vp i.perm/\AtsV w va i.ats
theorem InC.ext{w w':World}{i:Inp}{cs:List Value}(h:InC w i cs)(hx:Ext w w'): InC w' i cs:=by
 obtain⟨u,j,y,e,G,F,D⟩:=h;exact⟨u,j,y,e,G.ext hx,F.ext hx,D.ext hx⟩
def InV(w:World)(v:Value)(i:Inp): Prop:=∃ cs,v=.agg cs.toArray/\InC w i cs
theorem InV.ext{w w':World}{v:Value}{i:Inp}(h:InV w v i)(hx:Ext w w'): InV w' v i:=by
 obtain⟨cs,e,h⟩:=h;exact⟨cs,e,h.ext hx⟩
end Go.Proofs.YtebiphhfkdbpfaaGreat
namespace Go.Proofs.YtebiphhfkdbpfaaGreat
open Pl
variable {f:List Nat}{rs:List Row}{d i j l:Nat}{q x:Row}
def pfx(rs:List Row)(l:Nat): List Row:=ddF (rs.map (List.take l))
theorem Jmq(rs:List Row)(x:Row)(l:Nat): pfx (rs++[x]) l=ddS (pfx rs l) (x.take l):=by
 unfold pfx;rw[List.map_append,List.map_cons,List.map_nil,Jdk]
theorem Jtl: ∀(a b:Row) (l:Nat),Jk a b []<=0->Jk (a.take l) (b.take l) []<=0
 | _,_,0,_=>by simp[Jk]
 | [],[],_+1,_=>by simp[Jk]
 | [],_::_,_+1,_=>by simp[Jk]
 | _::_,[],_+1,h=>by simp[Jk]at h
 | x::a,y::b,l+1,h=>by
  simp only[List.take_succ_cons,Jk,List.drop_nil]at h ⊢;by_cases e:cmpV x y=0
  .rw[if_pos e]at h ⊢;exact Jtl a b l h
  repeat grind
theorem Qwh(h:Srt [] rs)(l:Nat): Srt [] (rs.map (List.take l)):=by grind [Srt,Jtl]
theorem Yo(h:Lt [] rs): Srt [] rs:=h.imp λi=>by omega
theorem Jqs(h:Srt [] rs)(l:Nat): Xd [] (rs.map (List.take l)) (pfx rs l):=Jsx (Qwh h l)
theorem Jqt(h:Srt [] rs): q∈pfx rs l↔∃ r∈rs,r.take l=q:=by
 rw[(Jqs h l).2,List.mem_map]
theorem Qcl(h:Lt [] rs)(hl:∀ r∈rs,r.length=d): pfx rs d=rs:=by
 have e:rs.map (List.take d)=rs:=by
  conv=>rhs;rw[<-List.map_id rs]
  exact List.map_congr_left λr j=>by grind
 have i:=Jqs (Yo h) d;rw[e]at i;exact Gk i.1 h i.2
theorem Jmr: (pfx (rs++[x]) l).getLast?=some (x.take l):=by grind [Jmq,Jsv]
def shr: Row->Row->Nat
 | a::x,b::y=>if a=b then shr x y+1 else 0
 | _,_=>0
theorem Jyf(y:Row): shr [] y=0:=by cases y<;>rfl
theorem Jhp: ∀ x y:Row,shr x y<=x.length/\shr x y<=y.length
 | [],y=>by rw[Jyf];simp
 | _::_,[]=>by simp[shr]
 | a::x,b::y=>by
  have:=Jhp x y;simp only[shr,List.length_cons];split<;>omega
theorem Jhn: ∀(x y:Row) (l:Nat),x.length=y.length->(x.take l=y.take l↔l<=shr x y∨x=y)
 | [],[],l,_=>by simp
 | [],_::_,_,h=>by simp at h
 | _::_,[],_,h=>by simp at h
 | a::x,b::y,0,_=>by simp
 | a::x,b::y,l+1,h=>by
  have ih:=Jhn x y l (by simpa using h);grind [List.cons.injEq,shr]
def lvl(rs:List Row)(l:Nat): Row:=(pfx rs (l+1)).map λq=>q.getD l V0
theorem Jjd(rs:List Row)(l:Nat): (lvl rs l).length=(pfx rs (l+1)).length:=by simp[lvl]
theorem Qgf(h:i<(pfx rs (l+1)).length): (lvl rs l).getD i V0=((pfx rs (l+1)).getD i []).getD l V0:=by grind [Qn,V0,Jjd,lvl]
def Fst(rs:List Row)(l:Nat)(f:List Nat): Prop:=f.length=(pfx rs (l+1)).length/\(∀ j,j<f.length->f.getD j 0<=(pfx rs (l+2)).length) /\
 ∀ j i,j<f.length->i<(pfx rs (l+2)).length->(((pfx rs (l+2)).getD i []).take (l+1)=(pfx rs (l+1)).getD j []↔f.getD j 0<=i/\(j+1<f.length->i<f.getD (j+1) 0))
def stp(rs:List Row)(x:Row): Nat:=match rs.getLast? with
 | some y=>shr y x
 | none=>0
theorem Kz(h:Lt [] (rs++[x]))(hl:∀ r∈rs++[x],r.length=d)(h0:0<l): pfx (rs++[x]) l=if l<=stp rs x then pfx rs l else pfx rs l++[x.take l]:=by
 rw[Jmq];rcases List.eq_nil_or_concat rs with rfl|⟨r,y,rfl⟩
 .rw[if_neg (by simp[stp];omega)];rfl
 rw[List.concat_eq_append]at *;have j:(r++[y]).getLast?=some y:=by simp
 have i:Jk y x []<0:=(List.pairwise_append.1 h).2.2 y (by simp) x (by simp);grind [Yl,stp,shr,ddS,Jmr,Jhn]
theorem Qcj(h:Lt [] (rs++[x]))(hl:∀ r∈rs++[x],r.length=d)(h0:0<l)(hs:stp rs x<l): x.take l ∉ pfx rs l:=by
 have e:=Kz h hl h0;rw[if_neg om]at e;have i:=(Jqs (Yo h) l).1;rw[e]at i;intro j;have:=(List.pairwise_append.1 i).2.2 _ j (x.take l) (by simp);grind [Yl]
theorem Qgk{l:List Row}(h:Lt [] l)(hi:i<l.length)(hj:j<l.length)(e:l.getD i []=l.getD j []): i=j:=by
 rcases Nat.lt_trichotomy i j with h'|h'|h'
 .have:=h.at h' hj;rw[e,Yl]at this;omega
 .exact h'
 have:=h.at h' hi;rw[e,Yl]at this;omega
theorem Jrp{α:Type}(z:α)(l:List α)(x:α)(k:Nat): (l++[x]).getD k z=if k<l.length then l.getD k z else if k=l.length then x else z:=by grind
theorem take_take'(q:Row)(l:Nat): (q.take (l+2)).take (l+1)=q.take (l+1):=by grind
theorem Qch(h:Srt [] rs)(hi:i<(pfx rs (l+2)).length): ((pfx rs (l+2)).getD i []).take (l+1)∈pfx rs (l+1):=by grind [Jqt,getD_mem',take_take']
theorem Fst.keep(hF:Fst rs l f)(h:Lt [] (rs++[x]))(hl:∀ r∈rs++[x],r.length=d)(hs:l+1<=stp rs x): Fst (rs++[x]) l f:=by
 obtain⟨J,Z,U⟩:=hF;have O:pfx (rs++[x]) (l+1)=pfx rs (l+1):=by rw[Kz h hl om,if_pos hs]
 have u:Lt [] rs:=(List.pairwise_append.1 h).1;have y:0<(pfx rs (l+1)).length/\(pfx rs (l+1)).getD ((pfx rs (l+1)).length-1) []=x.take (l+1):=by grind [Jmr,List.getElem?_eq_some_iff.1,Qn]
 have F:Lt [] (pfx rs (l+1)):=(Jqs (Yo u) _).1;by_cases hs2:l+2<=stp rs x
 .have D:pfx (rs++[x]) (l+2)=pfx rs (l+2):=by rw[Kz h hl om,if_pos hs2]
  grind [Fst]
 have D:pfx (rs++[x]) (l+2)=pfx rs (l+2)++[x.take (l+2)]:=by rw[Kz h hl om,if_neg hs2]
 unfold Fst;rw[O,D];refine⟨J,λj G=>?_,λj i G hi=>?_⟩;repeat grind [List.length_append,List.length_singleton,Jrp,pfx,take_take',Qgk]
theorem Fst.more(hF:Fst rs l f)(h:Lt [] (rs++[x]))(hl:∀ r∈rs++[x],r.length=d)(hs:stp rs x<=l): Fst (rs++[x]) l (f++[(pfx rs (l+2)).length]):=by
 obtain⟨D,O,J⟩:=hF;have u:Lt [] rs:=(List.pairwise_append.1 h).1;have G:pfx (rs++[x]) (l+1)=pfx rs (l+1)++[x.take (l+1)]:=by rw[Kz h hl om,if_neg om]
 have F:pfx (rs++[x]) (l+2)=pfx rs (l+2)++[x.take (l+2)]:=by rw[Kz h hl om,if_neg om]
 have hn:=Qcj h hl (l:=l+1) om om;unfold Fst;rw[G,F];refine⟨by simp[D],λj y=>?_,λj i y hi=>?_⟩
 .grind
 repeat grind [List.length_append,List.length_singleton,Jrp,pfx,take_take',getD_mem',Qch,Yo]
def Chl(rs:List Row)(l:Nat)(f:List Nat): Prop:=f.length=(pfx rs (l+1)).length+1/\(∀ j,j<f.length->f.getD j 0<=(pfx rs (l+2)).length) /\
 ∀ j i,j+1<f.length->i<(pfx rs (l+2)).length->(((pfx rs (l+2)).getD i []).take (l+1)=(pfx rs (l+1)).getD j []↔f.getD j 0<=i/\i<f.getD (j+1) 0)
theorem Fst.close(hF:Fst rs l f): Chl rs l (f++[(pfx rs (l+2)).length]):=by
 obtain⟨y,F,D⟩:=hF;refine⟨by simp[y],λj u=>?_,λj i u hi=>?_⟩;repeat grind
theorem Fst.nil(l:Nat): Fst [] l []:=⟨rfl,λj u=>by simp at u,λj i u=>by simp at u⟩
theorem Jnx(h:Lt [] (rs++[x]))(hl:∀ r∈rs++[x],r.length=d)(hd:l<d): lvl (rs++[x]) l=if l+1<=stp rs x then lvl rs l else lvl rs l++[x.getD l V0]:=by
 unfold lvl;rw[Kz h hl om];grind
end Go.Proofs.YtebiphhfkdbpfaaGreat
namespace Go.Wk
open Go.RowKit
variable {c' cs news xs:List Value}{d g i k l m m' n t ty:Nat}{α:Type}{v v' z:Value}
def upd(f:Nat->α)(i:Nat)(x:α): Nat->α:=λk=>if k=i then x else f k
theorem Qy(f:Nat->α)(i:Nat)(x:α): upd f i x i=x:=by simp[upd]
theorem Jp(f:Nat->α)(x:α)(h:k≠i): upd f i x k=f k:=by simp[upd,h]
structure Fam(w:World)(base e sz n:Nat)(v:Nat->Value)(m:Nat->Nat)(c:Nat->List Value): Prop where
 own:∀ i,i<n->w.ownsRow base e sz (v i) (m i) (c i)
 dis:∀ i j g,i<n->j<n->i≠j->(v i).ownBlock=some g->(v j).ownBlock≠some g
section
variable {w w':World} {base e sz n:Nat} {v:Nat->Value} {m:Nat->Nat} {c:Nat->List Value}
theorem Fam.ext(h:Fam w base e sz n v m c)(hx:Ext w w'): Fam w' base e sz n v m c:=⟨λi hi=>Jv (h.own i hi) hx,h.dis⟩
theorem Fam.gr{N:Nat->Prop}(h:Fam w base e sz n v m c)(hg:GrN N w w')(hN:∀ i g,i<n->(v i).ownBlock=some g->¬ N g): Fam w' base e sz n v m c:=⟨λi hi=>Qj (h.own i hi) hg (hN i · hi),h.dis⟩
theorem Fam.other{base' e' sz':Nat}(h:Fam w base e sz n v m c)(h':w.ownsRow base' e' sz' v' m' xs)(hg:w.grownBy w' v'.ownBlock)(hne:Nat.beq e e'=false): Fam w' base e sz n v m c :=
 ⟨λi hi=>Zw (h.own i hi) h' hg hne,h.dis⟩
theorem Fam.box(h:Fam w base e sz n v m c)(hB:Blk w g t cs)(hg:w.grownBy w' (some g))(hne:Nat.beq e t=false): Fam w' base e sz n v m c :=
 ⟨λi hi=>(h.own i hi).kept hg (.inr (λj=>hB.ne_own (h.own i hi) hne j.symm)),h.dis⟩
theorem Fam.lt(h:Fam w base e sz n v m c)(hi:i<n)(hg:(v i).ownBlock=some g): base<=g/\g<w.heap.size:=by
 obtain⟨_,_,_,_,j⟩:=Jy (h.own i hi);exact j g hg
theorem Fam.upd(h:Fam w base e sz n v m c)(hi:i<n)(ho:w'.ownsRow base e sz v' m' c')(hg:w.grownBy w' (v i).ownBlock)(hb:∀ g,v'.ownBlock=some g->(v i).ownBlock=some g∨w.heap.size<=g):
  Fam w' base e sz n (upd v i v') (upd m i m') (upd c i c'):=by
 refine⟨λk y=>?_,λk j g y G u F D=>?_⟩
 .by_cases e:k=i
  .grind [Qy]
  rw[Jp _ _ e,Jp _ _ e,Jp _ _ e];refine(h.own k y).kept hg ?_;cases hb2:(v k).ownBlock with
  | none=>exact .inl rfl
  | some g=>exact .inr (λJ=>h.dis k i g y hi e hb2 J.symm)
 by_cases ek:k=i<;>by_cases ej:j=i
 .omega
 .subst ek;rw[Qy]at F;rw[Jp _ _ ej]at D;rcases hb g F with h'|h'
  .exact h.dis k j g y G u h' D
  have:=(h.lt G D).2;omega
 .subst ej;rw[Qy]at D;rw[Jp _ _ ek]at F;rcases hb g D with h'|h'
  .exact h.dis k j g y G u F h'
  have:=(h.lt y F).2;omega
 rw[Jp _ _ ek]at F;rw[Jp _ _ ej]at D;exact h.dis k j g y G u F D
theorem Fam.grown(h:Fam w base e sz n v m c)(hi:i<n): ∀ g,(v i).ownBlock=some g->base<=g:=λg j=>(h.lt hi j).1
end
def Xh(d:Nat)(f g:Nat->Value): List Value:=(List.range d).flatMap λl=>[f l,g l]
theorem Gc(d:Nat)(f g:Nat->Value): Xh (d+1) f g=Xh d f g++[f d,g d]:=by simp[Xh,List.range_succ,List.flatMap_append]
theorem Zd(d:Nat)(f g:Nat->Value): (Xh d f g).length=d*2:=by
 induction d with
 | zero=>rfl
 | succ d ih=>rw[Gc,List.length_append,ih];simp;omega
theorem Uz(d:Nat)(f g:Nat->Value)(h:l<d): (Xh d f g)[l*2]?=some (f l)/\(Xh d f g)[l*2+1]?=some (g l):=by
 induction d with
 | zero=>omega
 | succ d ih=>
  rw[Gc];by_cases e:l=d
  .subst e;rw[List.getElem?_append_right (by rw[Zd];omega),List.getElem?_append_right (by rw[Zd];omega),Zd];grind
  repeat grind
theorem Jsf{f g f' g':Nat->Value}(h1:∀ l,l<d->f l=f' l)(h2:∀ l,l<d->g l=g' l): Xh d f g=Xh d f' g':=by
 induction d with
 | zero=>rfl
 | succ d ih=>rw[Gc,Gc,ih (λl i=>h1 l om) (λl i=>h2 l om),h1 d om,h2 d om]
theorem Jsd(d:Nat)(f g:Nat->Value)(h:l<d)(u:Value): (Xh d f g).set (l*2) u=Xh d (upd f l u) g:=by
 induction d with
 | zero=>omega
 | succ d ih=>
  rw[Gc,Gc];by_cases e:l=d
  .subst e;rw[List.set_append_right _ _ (by rw[Zd];omega),Zd,Nat.sub_self,List.set_cons_zero,Qy];congr 1
   grind [Jsf,Jp]
  repeat grind [List.set_append_left,Zd,Jp]
theorem Jsc(d:Nat)(f g:Nat->Value)(h:l<d)(u:Value): (Xh d f g).set (l*2+1) u=Xh d f (upd g l u):=by
 induction d with
 | zero=>omega
 | succ d ih=>
  rw[Gc,Gc];by_cases e:l=d
  .subst e;rw[List.set_append_right _ _ (by rw[Zd];omega),Zd,Nat.add_sub_cancel_left,List.set_cons_succ,List.set_cons_zero,Qy];congr 1
   exact Jsf (λk i=>rfl) (λk i=>(Jp _ _ om).symm)
  repeat grind [List.set_append_left,Zd,Jp]
theorem apb{P:Program}{al:AL}{w:World}{Q:Exit->Act->World->Prop}{ops:Array Oper}{rest:List Oper}{pos:String}{aft:Array Edge}{e sz bytes base:Nat}(hE:ElT P t e sz bytes z){x y:Operand}{A':Option Addr}{c':Nat}(ha:w.ownsRow base e sz v m xs)(hr:Rd w sz A' m' news)(h1:∀ u∈news,u.oneCell'=true)(h63:m+m'<=maxLen)(hby:(m+m')*bytes<=140737488355328)(hbase:base<=w.heap.size)(kk:∀ v' w',w'.ownsRow base e sz v' (m+m') (xs++news)->w.grownBy w' v.ownBlock->(∀ g,v'.ownBlock=some g->v.ownBlock=some g∨w.heap.size<=g)->WL P n ops Q rest ((d,v')::al) w')(hx:ev al x=some v:=by rfl)(hy:ev al y=some (.slice A' m' c'):=by rfl)(hd:Nat.blt d n=true:=by rfl):
  WL P n ops Q (⟨some d,.call { callee:=.builtin .append,args:=#[x,y],argTypes:=#[t,t] },ty,pos,aft,none⟩::rest) al w:=by
 obtain⟨v',w',i,O,J,G,F,D⟩:=Jyt hE base ty (.inl ha) (c':=c') hr h1 h63 hby hbase;refine wop hd (λa j=>?_) (kk v' w' (G ha) (F.elim (·.2) (λh=>Xl h _)) D)
 simp[execOp,resolve,invoke,builtin,j.ev hx,j.ev hy,i]
end Go.Wk
namespace Go.Wk
open Go.RowKit
variable {p:Addr}{b c:Bool}{a z:Int}{kd:IntKind}{l:List (Nat×Oper)}{cs:List Value}{e id j m s t:Nat}{o oi:Oper}{i x y:Operand}{A:Option Addr}{dst:Option Nat}{k:TK}{yt:TypeId}{u v:Value}
section
variable {N:Nat->Prop} {P:Program} {ops:Array Oper} {Q:Exit->Act->World->Prop} {T:Nat->Bool}
def Uv(N:Nat->Prop)(P:Program)(ops:Array Oper)(Q:Exit->Act->World->Prop)(k:Nat)(o:Oper)(K:Act->World->Prop)(a:Act)(w:World): Prop :=
 match k with
 | 0=>∃ v,YieldsIf P ops (GrN N w) o v a/\K (a.put o.dst v) w
 | 1=>if Region.wanted o (yielded ops a.tmps) then o.wp P a w (λa' w'=>GrN N w w'/\K a' w') (QF Q) else K (a.put o.dst undef) w
 | _=>if Region.wanted o (yielded ops a.tmps) then o.wp P a w K (QF Q) else K (a.put o.dst undef) w
def Xn(N:Nat->Prop)(P:Program)(ops:Array Oper)(Q:Exit->Act->World->Prop): List (Nat×Oper)->Act->World->Prop
 | [],a,w=>Q .normal a w
 | p::r,a,w=>Uv N P ops Q p.1 p.2 (Xn N P ops Q r) a w
def Ue(N:Nat->Prop)(P:Program)(ops:Array Oper)(Q:Exit->Act->World->Prop)(T:Nat->Bool): Nat->Array Bool->Act->World->Prop
 | 0,listed,a,w=>Region.ready .any ops listed=[]/\Q .normal a w
 | fuel+1,listed,a,w=>
  (Region.ready .any ops listed=[]->Q .normal a w) /\
   ∀ i∈Region.ready .any ops listed,wpOp P ops (QF Q) i (λa' w'=>(T i=false->GrN N w w')/\Ue N P ops Q T fuel (listed.setIfInBounds i true) a' w') a w
theorem Jfv: ∀(fuel:Nat) (listed:Array Bool) (a:Act) (w:World),Ue N P ops Q T fuel listed a w->wpAny P .any ops Q fuel listed a w
 | 0,_,_,_,h=>h
 | fuel+1,_,_,_,h=>⟨h.1,λi hi=>wpOp_mono (λa' w' h'=>Jfv fuel _ a' w' h'.2) (Jzl (h.2 i hi))⟩
theorem Qxb(S:World->World->Prop)(hS0:∀ w,S w w)(hSt:∀ {a b c},S a b->S b c->S a c){i:Nat}(hi:ops[i]?=some oi)(hsel:∀(j:Nat) (o:Oper) cs b,ops[j]?=some o->o.op≠.select cs b)(hSx:∀ listed j,Closed ops listed->i∈Region.ready .any ops listed->j∈Region.ready .any ops listed->∀ w w',(T j=false->GrN N w w')->S w w'):
  ∀(fuel:Nat) (listed:Array Bool) (a:Act) (w:World),Closed ops listed ->
   (∀ j oj,ops[j]?=some oj->j≠i->listed.getD j true=false->(∀ e∈oj.after,Region.binds .any e=true->e.on≠i)->oi.apart ops oj=true) ->
   i∈Region.ready .any ops listed->YieldsIf P ops (S w) oi v a ->
   Ue N P ops Q T fuel (listed.setIfInBounds i true) (a.put oi.dst v) w->Ue N P ops Q T (fuel+1) listed a w:=by
 intro fuel;induction fuel with
 | zero=>
  intro listed a w J _ D hy H;refine⟨λh=>(by rw[h]at D;cases D),λj O=>?_⟩;by_cases hji:j=i
  .subst hji;exact hy.wpOp hi (hS0 w) ⟨λ_=>GrN.refl N w,H⟩
  have:=ready_mono O hji;rw[H.1]at this;cases this
 | succ fuel ih=>
  intro listed a w J u D hy H;refine⟨λh=>(by rw[h]at D;cases D),λj O=>?_⟩;by_cases hji:j=i
  .subst hji;exact hy.wpOp hi (hS0 w) ⟨λ_=>GrN.refl N w,H⟩
  obtain⟨F,oj,G,a2⟩:=mem_ready.1 O;have h1:=H.2 j (ready_mono O hji);have a1:∀ e∈oj.after,Region.binds .any e=true->e.on≠i:=λe he hb a6=>by
   have h1:=a2 e he hb;have h0:=(mem_ready.1 D).1;grind
  have h2:=wpOp_putIf G (u j oj G hji F a1) (λcs b=>hsel i oi cs b hi) (λcs b=>hsel j oj cs b G) (λc a w h=>h) hy h1;have y:∀ k U,ops[k]?=some U->k≠i->(listed.setIfInBounds j true).getD k true=false ->
    (∀ e∈U.after,Region.binds .any e=true->e.on≠i)->oi.apart ops U=true:=λk U hk a5 Z a4=>by
   refine u k U hk a5 ?_ a4;by_cases hjk:j=k
   .subst hjk;exact F
   rw[getD_set_ne true hjk]at Z;exact Z
  refine wpOp_mono (λa' w' h3=>⟨h3.2.1,ih (listed.setIfInBounds j true) a' w' (J.step O) y (ready_mono D (Ne.symm hji)) ?_ ?_⟩) h2
  .exact h3.1.imp (λ⟨h4,h5⟩=>⟨h4,λa3 hx=>h5 a3 (hSt (hSx listed j J D O w w' h3.2.1) hx)⟩) id
  rw[Array.setIfInBounds_comm _ _ hji];exact h3.2.2
theorem Jfw(hsel:Region.noSelect ops=true)(F:Nat): ∀(s:List (Nat×Nat)) (listed:Array Bool) (a:Act) (w:World),Closed ops listed->(∀ p∈s,Nat.ble p.1 2=true)->(∀ p∈s,p.2<ops.size)->(∀ p∈s,(p.1 == 2)=T p.2) ->
  (∀ t,T t=true->t<ops.size->∀ p∈s,p.1=0->Vb ops F t p.2=true)->Qu ops s listed=true->Xn N P ops Q (Qb ops.toList s) a w->Ue N P ops Q T s.length listed a w
 | [],listed,a,w,_,_,_,_,_,hB,h=>⟨by simpa [Qu] using hB,h⟩
 | (k,i)::r,listed,a,w,hcl,hk,hlt,hKT,hR,hB,h=>by
  have hi:i<ops.size:=hlt _ (mC ..);have ho:ops[i]?=some ops[i]:=Array.getElem?_eq_getElem hi;have hn:nth ops.toList i=some ops[i]:=by rw[Xw];simp[hi]
  have hTi:=hKT _ (mC ..);have hk0:=hk _ (mC ..);simp only at hTi hk0;have hrec:Closed ops (listed.setIfInBounds i true)->Qu ops r (listed.setIfInBounds i true)=true->∀ a w,Xn N P ops Q (Qb ops.toList r) a w->Ue N P ops Q T r.length (listed.setIfInBounds i true) a w:=λhc' hB' a w h'=>
   Jfw hsel F r _ a w hc' (λp hp=>hk p (List.mem_cons_of_mem _ hp)) (λp hp=>hlt p (List.mem_cons_of_mem _ hp)) (λp hp=>hKT p (List.mem_cons_of_mem _ hp)) (λt ht htl p hp=>hR t ht htl p (List.mem_cons_of_mem _ hp)) hB' h'
  have one:Qu ops r (listed.setIfInBounds i true)=true->Region.ready .any ops listed=[i]->(T i=false->if Region.wanted ops[i] (yielded ops a.tmps) then ops[i].wp P a w (λa' w'=>GrN N w w'/\Xn N P ops Q (Qb ops.toList r) a' w') (QF Q) else Xn N P ops Q (Qb ops.toList r) (a.put ops[i].dst undef) w) ->
    (T i=true->if Region.wanted ops[i] (yielded ops a.tmps) then ops[i].wp P a w (Xn N P ops Q (Qb ops.toList r)) (QF Q) else Xn N P ops Q (Qb ops.toList r) (a.put ops[i].dst undef) w)->Ue N P ops Q T (r.length+1) listed a w:=λhB' hr hf ht=>by
   have hcl':Closed ops (listed.setIfInBounds i true):=hcl.step (by grind);refine⟨λh0=>(by rw[hr]at h0;cases h0),λj hj=>?_⟩;rw[hr]at hj;obtain rfl:j=i:=by simpa using hj
   unfold wpOp;simp only[ho];cases hT:T j with
   | false=>
    have h:=hf hT;split
    .rename_i hw;simp only[hw,if_true]at h;exact .inl (Oper.wp_mono (λa' w' h'=>⟨λ_=>h'.1,hrec hcl' hB' _ _ h'.2⟩) h)
    repeat grind [GrN.refl]
   | true=>
    have h:=ht hT;split
    .rename_i hw;simp only[hw,if_true]at h;exact .inl (Oper.wp_mono (λa' w' h'=>⟨λh0=>(by cases h0),hrec hcl' hB' _ _ h'⟩) h)
    repeat grind
  match k,hTi,hk0,hR,hB,h with
  | 0,hTi,_,hR,hB,h=>
   simp only[Qu,Bool.and_eq_true]at hB;obtain⟨⟨hr,hf⟩,hB'⟩:=hB;have hr':i∈Region.ready .any ops listed:=by simpa using hr
   simp only[Qb,hn,Xn,Uv]at h;obtain⟨v,hy,h⟩:=h;refine Qxb (GrN N) (GrN.refl N) (λh k=>GrN.trans h k) ho (Region.noSelect_spec hsel) ?_ r.length listed a w hcl (Region.free_spec ho hf) hr' hy (hrec (hcl.step hr') hB' _ _ h);intro listed' j hcl' hri hrj w w' hx;cases hT:T j with
   | false=>exact hx hT
   | true=>
    obtain⟨_,oj,hoj,_⟩:=mem_ready.1 hrj;have h1:=Ge hcl' F j i oj hoj (Ga hoj hrj) (hR j hT (Array.getElem?_eq_some_iff.1 hoj).1 _ (mC ..) rfl);have h0:=(mem_ready.1 hri).1;grind
  | 1,hTi,_,hR,hB,h=>
   simp only[Qu,Bool.and_eq_true,beq_iff_eq]at hB;simp only[Qb,hn,Xn,Uv]at h;grind
  | 2,hTi,_,hR,hB,h=>
   simp only[Qu,Bool.and_eq_true,beq_iff_eq]at hB;simp only[Qb,hn,Xn,Uv]at h;grind
  | k+3,_,hk0,_,_,_=>simp at hk0
def Jyp(ops:Array Oper)(F:Nat)(s:List (Nat×Nat)): Bool :=
 Region.noSelect ops && (s.length == ops.size) && (s.all λp=>Nat.ble p.1 2) && (s.all λp=>Nat.blt p.2 ops.size) && (s.all λp=>(p.1 == 2) == Ub s p.2) &&
 ((List.range ops.size).all λt=>!Ub s t || s.all λp=>p.1 != 0 || Vb ops F t p.2) && Qu ops s (Array.replicate ops.size false)
end
section
variable {N:Nat->Prop} {P:Program} {n:Nat} {al al':AL} {w:World} {Q:Exit->Act->World->Prop} {ops:Array Oper} {rest:List (Nat×Oper)} {drest:List (Nat×Oper)}
variable {d ty:Nat} {op:Op} {pos:String} {aft:Array Edge} {tt:TT}
def WN(N:Nat->Prop)(P:Program)(n:Nat)(ops:Array Oper)(Q:Exit->Act->World->Prop)(l:List (Nat×Oper))(al:AL)(w:World): Prop:=∀ a,Fr n al a->Xn N P ops Q l a w
theorem WN.sub{l:List (Nat×Oper)}(hs:Sub al' al)(h:WN N P n ops Q l al' w): WN N P n ops Q l al w:=λa i=>h a (i.sub hs)
theorem Qxl{l:List Oper}(N:Nat->Prop)(F:Nat)(s:List (Nat×Nat))(hm:P.follows .mixedOrders=true)(hB:Jyp l.toArray F s=true)(h:WN N P n l.toArray Q (Qb l s) al w.drew): WC P n (.region id l.toArray true) Q al w:=by
 intro a D;simp only[Jyp,Bool.and_eq_true,beq_iff_eq,List.all_eq_true,List.mem_range,Bool.or_eq_true,Bool.not_eq_true',bne_iff_ne]at hB;obtain⟨⟨⟨⟨⟨⟨Z,j⟩,U⟩,O⟩,J⟩,h6⟩,G⟩:=hB;refine wp_region_any hm ?_;rw[<-j];refine Jfv (T:=Ub s) _ _ _ _ (Jfw (N:=N) Z F s _ a _ ?_ (λp i=>U p i) (λp i=>?_) (λp i=>?_) (λt ht u p i h0=>?_) (by rw[j];exact G) ?_)
 .intro k o ho y e he hb;exfalso
  simp only[Array.getD_eq_getD_getElem?,Array.getElem?_replicate]at y;grind
 .have:=O p i;have h':p.2+1<=l.toArray.size:=by simpa [Nat.blt] using this
  omega
 .simpa using J p i
 .grind
 have:=h a D;simpa using this
theorem drN[h:Tab P tt]{l:List Oper}(N:Nat->Prop)(F:Nat)(s:List (Nat×Nat))(hB:Jyp l.toArray F s=true)(k:WN N P n l.toArray Q (Qb l s) al w.drew): WC P n (.region id l.toArray true) Q al w:=Qxl N F s h.mixed hB k
def YldN(N:Nat->Prop)(P:Program)(n:Nat)(al:AL)(w:World)(o:Oper)(v:Value): Prop:=∀ w',GrN N w w'->∀ a,Fr n al a->(execOp a.eval o).run P w'=.ok (.value v) w'
theorem nnil_(h:QX n Q .normal al w): WN N P n ops Q [] al w:=λa i=>h a i
theorem ny_(hy:YldN N P n al w ⟨some d,op,ty,pos,aft,none⟩ v)(hd:Nat.blt d n=true)(k:WN N P n ops Q rest ((d,v)::al) w): WN N P n ops Q ((0,⟨some d,op,ty,pos,aft,none⟩)::rest) al w:=λa j=>by
 have i:d<n:=by(have:d+1<=n:=by simpa [Nat.blt] using hd);(omega)
 exact⟨v,.inl ⟨rfl,λw' u=>hy w' u a j⟩,k _ (j.put i v)⟩
theorem np_{tt:TT}(hT:TOk P tt)(hv:pv tt (ev al) op=some v)(hd:Nat.blt d n=true)(k:WN N P n ops Q rest ((d,v)::al) w): WN N P n ops Q ((0,⟨some d,op,ty,pos,aft,none⟩)::rest) al w :=
 ny_ (λw' _ a j=>Ug w' hT (λx u i=>j.ev i) hv) hd k
theorem npn_{tt:TT}(hT:TOk P tt)(hv:pv tt (ev al) op=some v)(k:WN N P n ops Q rest al w): WN N P n ops Q ((0,⟨none,op,ty,pos,aft,none⟩)::rest) al w:=λa j=>
 ⟨v,.inl ⟨rfl,λw' i=>Ug w' hT (λx u i=>j.ev i) hv⟩,k _ j⟩
theorem Qfd{kd:Nat}(hj:Xu ops j=some s)(hs:lk al s=some (.bool b))(k:WN N P n ops Q ((kd,⟨dst,op,ty,pos,aft,none⟩)::rest) al w):
  WN N P n ops Q ((kd,⟨dst,op,ty,pos,aft,some (j,b)⟩)::rest) al w:=λa y=>by
 have h:=k a y;have F:=Ka (ops:=ops) y hj hs;have D:Region.wanted (⟨dst,op,ty,pos,aft,none⟩:Oper) (yielded ops a.tmps)=true:=rfl;have u:Region.wanted (⟨dst,op,ty,pos,aft,some (j,b)⟩:Oper) (yielded ops a.tmps)=true:=by simp[Region.wanted,F]
 unfold Xn Uv at h ⊢;match kd,h with
 | 0,h=>
  obtain⟨v,i,G⟩:=h;refine⟨v,?_,G⟩;rcases i with i|i
  .exact .inl ⟨u,i.2⟩
  repeat grind
 | 1,h=>simp only[D,if_true]at h;simp only[u,if_true];exact h
 | k+2,h=>simp only[D,if_true]at h;simp only[u,if_true];exact h
theorem Qdx{kd:Nat}(hj:Xu ops j=some s)(hs:lk al s=some (.bool b))(hne:(b == c)=false)(hd:Nat.blt d n=true)(k:WN N P n ops Q rest ((d,undef)::al) w):
  WN N P n ops Q ((kd,⟨some d,op,ty,pos,aft,some (j,c)⟩)::rest) al w:=λa D=>by
 have i:d<n:=by(have:d+1<=n:=by simpa [Nat.blt] using hd);(omega)
 have F:=Ka (ops:=ops) D hj hs;have y:Region.wanted (⟨some d,op,ty,pos,aft,some (j,c)⟩:Oper) (yielded ops a.tmps)=false:=by
  simp[Region.wanted,F];simpa using hne
 have u:=k _ (D.put i undef);unfold Xn Uv;match kd with
 | 0=>exact⟨undef,.inr ⟨y,rfl⟩,u⟩
 | 1=>simp only[y];exact u
 | m+2=>simp only[y];exact u
theorem Qfb(s:Nat)(u:Value)(hs:lk al s=some v)(hv:v=u)(k:WN N P n ops Q l ((s,u)::al) w): WN N P n ops Q l al w:=by
 subst hv;exact k.sub (Sub.cons hs Sub.refl)
theorem ν9{kd:Nat}(k:WN N P n ops Q drest ((d,undef)::al) w)(hj:Xu ops j=some s:=by rfl)(hs:lk al s=some undef:=by rfl)(hd:Nat.blt d n=true:=by rfl):
  WN N P n ops Q ((kd,⟨some d,op,ty,pos,aft,some (j,c)⟩)::drest) al w:=λa D=>by
 have i:d<n:=by(have:d+1<=n:=by simpa [Nat.blt] using hd);(omega)
 have F:=Jvm (ops:=ops) D hj hs;have y:Region.wanted (⟨some d,op,ty,pos,aft,some (j,c)⟩:Oper) (yielded ops a.tmps)=false:=by simp[Region.wanted,F]
 have u:=k _ (D.put i undef);unfold Xn Uv;match kd with
 | 0=>exact⟨undef,.inr ⟨y,rfl⟩,u⟩
 | 1=>simp only[y];exact u
 | m+2=>simp only[y];exact u
theorem ν4[h:Tab P tt](k:WN N P n ops Q drest ((d,v)::al) w)(hv:pv tt (ev al) op=some v:=by rfl)(hd:Nat.blt d n=true:=by rfl): WN N P n ops Q ((0,⟨some d,op,ty,pos,aft,none⟩)::drest) al w:=np_ h.ok hv hd k
theorem ν5(h:QX n Q .normal al w): WN N P n ops Q [] al w:=nnil_ h
theorem ν6{kd:Nat}(k:WN N P n ops Q ((kd,⟨dst,op,ty,pos,aft,none⟩)::drest) al w)(hj:Xu ops j=some s:=by rfl)(hs:lk al s=some (.bool b):=by rfl): WN N P n ops Q ((kd,⟨dst,op,ty,pos,aft,some (j,b)⟩)::drest) al w:=Qfd hj hs k
theorem ν7{kd:Nat}(k:WN N P n ops Q drest ((d,undef)::al) w)(hj:Xu ops j=some s:=by rfl)(hs:lk al s=some (.bool b):=by rfl)(hne:(b == c)=false:=by rfl)(hd:Nat.blt d n=true:=by rfl):
  WN N P n ops Q ((kd,⟨some d,op,ty,pos,aft,some (j,c)⟩)::drest) al w:=Qdx hj hs hne hd k
theorem ν8[h:Tab P tt](k:WN N P n ops Q drest al w)(hv:pv tt (ev al) op=some v:=by rfl): WN N P n ops Q ((0,⟨none,op,ty,pos,aft,none⟩)::drest) al w:=npn_ h.ok hv k
theorem nadd_{t:TypeId}{b:Int}(hx:ev al x=some (.int .i64 a))(hy:ev al y=some (.int .i64 b))(hc:-9223372036854775808<=a+b/\a+b<=9223372036854775807)(hd:Nat.blt d n=true)(k:WN N P n ops Q rest ((d,.int .i64 (a+b))::al) w): WN N P n ops Q ((0,⟨some d,.binOp .add t x y yt,ty,pos,aft,none⟩)::rest) al w:=by
 have e:IntKind.i64.wrap (a+b)=a+b:=by rw[IntKind.wrap_i64];omega
 exact np_ (tt:=[]) trivial (v:=.int .i64 (a+b)) (by grind [pv,bop]) hd k
theorem nsub_{t:TypeId}{b:Int}(hx:ev al x=some (.int .i64 a))(hy:ev al y=some (.int .i64 b))(hc:-9223372036854775808<=a-b/\a-b<=9223372036854775807)(hd:Nat.blt d n=true)(k:WN N P n ops Q rest ((d,.int .i64 (a-b))::al) w): WN N P n ops Q ((0,⟨some d,.binOp .sub t x y yt,ty,pos,aft,none⟩)::rest) al w:=by
 have e:IntKind.i64.wrap (a-b)=a-b:=by rw[IntKind.wrap_i64];omega
 exact np_ (tt:=[]) trivial (v:=.int .i64 (a-b)) (by grind [pv,bop]) hd k
theorem ν1{t:TypeId}{b:Int}(k:WN N P n ops Q drest ((d,.int .i64 (a+b))::al) w)(hx:ev al x=some (.int .i64 a):=by rfl)(hy:ev al y=some (.int .i64 b):=by rfl)(hd:Nat.blt d n=true:=by rfl)(hc:-9223372036854775808<=a+b/\a+b<=9223372036854775807:=by omega):
  WN N P n ops Q ((0,⟨some d,.binOp .add t x y yt,ty,pos,aft,none⟩)::drest) al w:=nadd_ hx hy hc hd k
theorem ν2{t:TypeId}{b:Int}(k:WN N P n ops Q drest ((d,.int .i64 (a-b))::al) w)(hx:ev al x=some (.int .i64 a):=by rfl)(hy:ev al y=some (.int .i64 b):=by rfl)(hd:Nat.blt d n=true:=by rfl)(hc:-9223372036854775808<=a-b/\a-b<=9223372036854775807:=by omega):
  WN N P n ops Q ((0,⟨some d,.binOp .sub t x y yt,ty,pos,aft,none⟩)::drest) al w:=nsub_ hx hy hc hd k
theorem nkv(s:Nat)(hv:v=u)(k:WN N P n ops Q l ((s,u)::al) w)(hs:lk al s=some v:=by rfl): WN N P n ops Q l al w:=Qfb s u hs hv k
theorem nload(hT:TOk P tt)(ht:tk tt t=some k)(hk:Zb k.desc=true)(hx:ev al x=some (.pointer (some p)))(hc:∀ w',GrN N w w'->w'.cell? p=some v)(hd:Nat.blt d n=true)(kk:WN N P n ops Q rest ((d,v)::al) w): WN N P n ops Q ((0,⟨some d,.load t x,ty,pos,aft,none⟩)::rest) al w :=
 ny_ (λw' i a j=>by simp[execOp,j.ev hx,Instr.loadAt,Instr.sureAddr,Jlc (w:=w') hT ht hk (hc w' i)]) hd kk
theorem Qdz(hT:TOk P tt)(ht:tk tt t=some k)(hk:k.desc=.invalid)(hl:k.size=cs.length)(hx:ev al x=some (.pointer (some p)))(hc:∀ w',GrN N w w'->∀ j u,cs[j]?=some u->w'.cell? (p.add j)=some u)(hd:Nat.blt d n=true)(kk:WN N P n ops Q rest ((d,.agg cs.toArray)::al) w): WN N P n ops Q ((0,⟨some d,.load t x,ty,pos,aft,none⟩)::rest) al w :=
 ny_ (λw' i a y=>by simp[execOp,y.ev hx,Instr.loadAt,Instr.sureAddr,Iy (w:=w') hT ht hk hl (hc w' i)]) hd kk
theorem Jnk(hT:TOk P tt){sz:Nat}{c:Nat}(q:Nat)(j:Nat)(ht:tk tt t=some k)(hk:k.desc=.slice e)(hz:k.esz=sz)(hx:ev al x=some (.slice A m c))(hi:ev al i=some (.int kd z))(hr:Rd w sz A m cs)(hj:z=(j:Int))(hlt:j<m)(h0:0<sz)(hq:j*sz=q)(hd:Nat.blt d n=true)(kk:WN N P n ops Q rest ((d,.pointer (some (adr A q)))::al) w): WN N P n ops Q ((0,⟨some d,.indexAddr t x i,ty,pos,aft,none⟩)::rest) al w:=by
 obtain⟨y,D⟩:=Gq hT ht hk hz;obtain⟨J,rfl,G⟩:=hr.isome om h0;subst hj;subst hq;refine ny_ (λw' F a u=>?_) hd kk;simp[execOp,u.ev hx,u.ev hi,Instr.indexAt,asIntOf,run_underlying y,Vz w' D,adr];intro h;omega
theorem Qfc(hT:TOk P tt){c:Nat}(j:Nat)(ht:tk tt t=some k)(hk:k.desc=.slice e)(hz:k.esz=1)(hx:ev al x=some (.slice A m c))(hi:ev al i=some (.int kd z))(hr:Rd w 1 A m cs)(hj:z=(j:Int))(hlt:j<m)(hd:Nat.blt d n=true)(kk:WN N P n ops Q rest ((d,.pointer (some (adr A j)))::al) w): WN N P n ops Q ((0,⟨some d,.indexAddr t x i,ty,pos,aft,none⟩)::rest) al w :=
 Jnk hT j j ht hk hz hx hi hr hj hlt om om hd kk
theorem nld[h:Tab P tt](hc:∀ w',GrN N w w'->w'.cell? p=some v)(kk:WN N P n ops Q drest ((d,v)::al) w)(ht:tk tt t=some k:=by rfl)(hk:Zb k.desc=true:=by rfl)(hx:ev al x=some (.pointer (some p)):=by rfl)(hd:Nat.blt d n=true:=by rfl): WN N P n ops Q ((0,⟨some d,.load t x,ty,pos,aft,none⟩)::drest) al w:=nload h.ok ht hk hx hc hd kk
theorem Yc[h:Tab P tt](hc:∀ w',GrN N w w'->∀ j u,cs[j]?=some u->w'.cell? (p.add j)=some u)(kk:WN N P n ops Q drest ((d,.agg cs.toArray)::al) w)(ht:tk tt t=some k:=by rfl)(hk:k.desc=.invalid:=by rfl)(hl:k.size=cs.length:=by rfl)(hx:ev al x=some (.pointer (some p)):=by rfl)(hd:Nat.blt d n=true:=by rfl): WN N P n ops Q ((0,⟨some d,.load t x,ty,pos,aft,none⟩)::drest) al w:=Qdz h.ok ht hk hl hx hc hd kk
theorem nix[h:Tab P tt]{c:Nat}(j:Nat)(hr:Rd w 1 A m cs)(hlt:j<m)(kk:WN N P n ops Q drest ((d,.pointer (some (adr A j)))::al) w)(ht:tk tt t=some k:=by rfl)(hk:k.desc=.slice e:=by rfl)(hz:k.esz=1:=by rfl)(hx:ev al x=some (.slice A m c):=by rfl)(hi:ev al i=some (.int kd z):=by rfl)(hj:z=(j:Int):=by first|rfl|omega)(hd:Nat.blt d n=true:=by rfl):
  WN N P n ops Q ((0,⟨some d,.indexAddr t x i,ty,pos,aft,none⟩)::drest) al w:=Qfc h.ok j ht hk hz hx hi hr hj hlt hd kk
theorem Vu[h:Tab P tt]{c:Nat}(sz j:Nat)(hr:Rd w sz A m cs)(hlt:j<m)(kk:WN N P n ops Q drest ((d,.pointer (some (adr A (j*sz))))::al) w)(ht:tk tt t=some k:=by rfl)(hk:k.desc=.slice e:=by rfl)(hz:k.esz=sz:=by rfl)(hx:ev al x=some (.slice A m c):=by rfl)(hi:ev al i=some (.int kd z):=by rfl)(hj:z=(j:Int):=by first|rfl|omega)(h0:0<sz:=by omega)(hd:Nat.blt d n=true:=by rfl):
  WN N P n ops Q ((0,⟨some d,.indexAddr t x i,ty,pos,aft,none⟩)::drest) al w:=Jnk h.ok (j*sz) j ht hk hz hx hi hr hj hlt h0 rfl hd kk
def toN(N:Nat->Prop)(P:Program)(ops:Array Oper)(Q:Exit->Act->World->Prop)(w0:World)(rest:List (Nat×Oper)): Exit->Act->World->Prop
 | .normal,a,w=>GrN N w0 w/\Xn N P ops Q rest a w
 | _,_,_=>False
theorem Ql{w0:World}(hx:GrN N w0 w)(h:WN N P n ops Q drest al w): QX n (toN N P ops Q w0 drest) .normal al w:=λa i=>⟨hx,h a i⟩
theorem nop(h:WL P n ops (toN N P ops Q w drest) [o] al w): WN N P n ops Q ((1,o)::drest) al w:=λa u=>by
 have i:=h a u;unfold wpList at i;unfold Xn Uv;simp only;have j:¬ LetsOut (toN N P ops Q w drest):=by rintro⟨a,w,h⟩;exact h
 split
 .rename_i hw;simp only[hw,if_true]at i;rcases i with i|⟨_,i⟩
  .refine Oper.wp_mono (K:=wpList P ops (toN N P ops Q w drest) []) (λD w' y=>y) ?_;unfold Oper.wp at i ⊢;grind [Yy,toN]
  exact absurd i j
 rename_i hw;simp only[hw]at i;exact i.2
def toT(N:Nat->Prop)(P:Program)(ops:Array Oper)(Q:Exit->Act->World->Prop)(rest:List (Nat×Oper)): Exit->Act->World->Prop
 | .normal,a,w=>Xn N P ops Q rest a w
 | _,_,_=>False
theorem Up(h:WN N P n ops Q drest al w): QX n (toT N P ops Q drest) .normal al w:=h
theorem Xt(h:WL P n ops (toT N P ops Q drest) [o] al w): WN N P n ops Q ((2,o)::drest) al w:=λa y=>by
 have i:=h a y;unfold wpList at i;unfold Xn Uv;simp only;have j:¬ LetsOut (toT N P ops Q drest):=by rintro⟨a,w,h⟩;exact h
 split
 .rename_i hw;simp only[hw,if_true]at i;rcases i with i|⟨_,i⟩
  .refine Oper.wp_mono (K:=Xn N P ops Q drest) (λF w' D=>D) ?_;unfold Oper.wp at i ⊢;exact Yy (Q:=toT N P ops Q drest) (λc a w u=>u.elim) (λu=>absurd u j) i
  exact absurd i j
 rename_i hw;simp only[hw]at i;exact i
theorem Qh(hc:w.cell? p=some v)(hn:¬ N p.block): ∀ w',GrN N w w'->w'.cell? p=some v:=λw' i=>by
 rw[<-hc];exact World.cell?_of_block (i.block _ (World.block_lt_of_cell? w p hc) hn)
end
end Go.Wk
namespace Go.Wk
theorem ρn{p q:Prop}(h:p)(t:Hold p->q:=by intro h;(repeat first|refine ν1 ?_|refine ν2 ?_|refine ν4 ?_|refine ν5 ?_|refine ν6 ?_|refine ν7 ?_|refine ν9 ?_|refine ν8 ?_|refine χ1 ?_|refine χ2 ?_|refine χ3 ?_|refine χ4 ?_|refine χ5 ?_|refine χ6 ?_|refine χ7 ?_);exact h.of): q:=t ⟨h⟩
end Go.Wk
namespace Go.Proofs.YtebiphhfkdbpfaaGreat
open Go.RowKit Pl Go.Wk
attribute [local irreducible] WC WL QX WD WDB WP
variable {cs xs xs':List Value}{base c d g k l s t:Nat}{fs fs':Nat->List Nat}{M:Nat->Prop}{vs vs':Nat->Row}{fv vv:Nat->Value}{A:Option Addr}{a b x:Row}{v' v4 va vb vx:Value}{w w4:World}
structure TriB(w:World)(base:Nat)(A:Option Addr)(d:Nat)(vv fv:Nat->Value)(vs:Nat->Row)(fs:Nat->List Nat): Prop where
 lev:w.ownsRow base 219 2 (.slice A d d) d (Xh d vv fv)
 vals:Fam w base 75 3 d vv (λl=>(vs l).length) (λl=>Jr (vs l))
 fst:Fam w base 3 1 d fv (λl=>(fs l).length) (λl=>Jt (nz (fs l)))
section
variable {w w':World} {base:Nat} {A:Option Addr} {d:Nat} {vv fv:Nat->Value} {vs:Nat->Row} {fs:Nat->List Nat}
theorem TriB.ext(h:TriB w base A d vv fv vs fs)(hx:Ext w w'): TriB w' base A d vv fv vs fs:=⟨Jv h.lev hx,h.vals.ext hx,h.fst.ext hx⟩
theorem TriB.vform(h:TriB w base A d vv fv vs fs)(hl:l<d): ∃ B c,vv l=.slice B (vs l).length c/\(vs l).length<=c/\Rd w 3 B (vs l).length (Jr (vs l)):=by
 obtain⟨B,c,e,i,_⟩:=Jy (h.vals.own l hl);refine⟨B,c,e,i,?_⟩;have:=h.vals.own l hl;rw[e]at this;exact Rd.own this
theorem TriB.fform(h:TriB w base A d vv fv vs fs)(hl:l<d): ∃ B c,fv l=.slice B (fs l).length c/\(fs l).length<=c/\Rd w 1 B (fs l).length (Jt (nz (fs l))):=by
 obtain⟨B,c,e,i,_⟩:=Jy (h.fst.own l hl);refine⟨B,c,e,i,?_⟩;have:=h.fst.own l hl;rw[e]at this;exact Rd.own this
theorem TriB.rd(h:TriB w base A d vv fv vs fs): Rd w 2 A d (Xh d vv fv):=Rd.own h.lev
theorem TriB.v(h:TriB w base A d vv fv vs fs)(hl:l<d): w.cell? (adr A (l*2))=some (vv l):=h.rd.cell (Uz d vv fv hl).1
theorem TriB.v0(h:TriB w base A d vv fv vs fs)(hl:l<d): w.cell? ((adr A (l*2)).add 0)=some (vv l):=by rw[add_zero];exact h.v hl
theorem TriB.f1(h:TriB w base A d vv fv vs fs)(hl:l<d): w.cell? ((adr A (l*2)).add 1)=some (fv l):=by rw[Kn];exact h.rd.cell (Uz d vv fv hl).2
theorem TriB.f(h:TriB w base A d vv fv vs fs)(hl:l<d): w.cell? (adr A (l*2+1))=some (fv l):=h.rd.cell (Uz d vv fv hl).2
end
theorem Jvw{li:Int}(hR:Rd w 2 A d (Xh d vv fv))(hv:∀ l,l<d->∃ B c,vv l=.slice B (vs l).length c)(hli:li=(l:Int))(hd:d<=32):
  Ret Tryz.prog 139 [.agg #[.slice A d c],.int .i64 li] w λu w'=>u=.int .i64 (if l<d then(vs l).length else 0:Nat)/\Ext w w':=by
 subst hli;refine Jz Tryz.func139 Tryz.ntmps139 rfl kr rfl ?_;refine ρ ?_;refine bx ?_;intro w1 b j J F;refine ρ ?_;refine ld (F.at (i:=0) rfl) ?_;refine ρ ?_;refine ci (λh=>?_) (λh=>?_)
 .refine ρ ?_;refine Jq ⟨?_,j⟩;grind
 have D:l<d:=by grind
 have y:=hR.ext j;obtain⟨B,O,e⟩:=hv l D;refine ρ ?_;refine ld (F.at (i:=0) rfl) ?_;refine ρ ?_;refine ixq 2 l y D ?_;have G:w1.cell? ((adr A (l*2)).add 0)=some (vv l):=by rw[add_zero];exact y.cell (Uz d vv fv D).1
 refine ρ ?_;refine ld G ?_;rw[e];refine ρ ?_;refine Jq ⟨?_,j⟩;rw[if_pos D]
theorem Qzz(ha:RowV w va a)(hb:RowV w vb b)(hlen:a=[]∨a.length=b.length): Ret Tryz.prog 138 [va,vb] w λu w'=>u=.int .i64 (shr a b:Int)/\Ext w w':=by
 obtain⟨A,ac,rfl,a6,a5,Z⟩:=ha;obtain⟨B,bc,rfl,a4,a3,U⟩:=hb;refine Jz Tryz.func138 Tryz.ntmps138 rfl kr rfl ?_;refine ρ ?_;refine Jl (fun (k:Nat)=>[(0,.slice A a.length ac),(1,.slice B b.length bc),(5,.int .i64 (k:Int))]) (λk w'=>Ext w w'/\k<=a.length/\k<=b.length/\shr a b=k+shr (a.drop k) (b.drop k)) (λk=>a.length-k) 0 sB ⟨Ext.refl w,Nat.zero_le _,Nat.zero_le _,by simp⟩ ?_;rintro k w1 ⟨hx,a2,a1,he⟩;refine ρ ?_;refine Xp (fun (t:Bool)=>[(0,.slice A a.length ac),(1,.slice B b.length bc),(5,.int .i64 (k:Int)),(21,.bool t)]) (λt w'=>Ext w w'/\(t=true->k<a.length/\k<b.length/\a.getD k V0=b.getD k V0)/\(t=false->shr (a.drop k) (b.drop k)=0)) ?_ ?_
 .refine dr [(0,0),(0,1),(0,2),(0,3),(0,4),(0,5),(0,6),(0,7),(0,8),(0,9),(0,10),(0,11),(0,12),(1,13),(0,14),(0,15)] kr ?_;have y:=hx.drew;have J:RdR _ A a:=Rd.ext Z y;have G:RdR _ B b:=Rd.ext U y;refine ρd ?_;refine dki 10 (λh=>?_) (λh=>?_)
  .have F:k<a.length:=by have:=oT h;omega
   have D:k<b.length:=by grind
   refine ρd ?_;refine Qr 3 k J F ?_;refine ρd ?_;refine Qq (λj u O=>RdR.cell J F O) ?_;refine ρd ?_;refine Qr 3 k G D ?_;refine ρd ?_;refine Qq (λj u O=>RdR.cell G D O) ?_;refine ρd ?_;refine dcl (Jzq (a.getD k V0) (b.getD k V0) _) ?_;rintro x w2 ⟨rfl,i⟩;refine⟨i,?_⟩;refine ρd ?_;refine ρ ?_;refine Je _ sB ⟨y.trans i,λh=>⟨F,D,cmp_V.zero _ _ (Un h)⟩,λh=>?_⟩;rw[List.drop_eq_getElem_cons F,List.drop_eq_getElem_cons D,shr,if_neg];intro e;have:=Ve h;grind [Qn,V0,Zg]
  refine ρd ?_;refine ρ ?_;refine Je false sB ⟨y,λe=>(by cases e),λ_=>?_⟩;grind [List.drop_of_length_le,Jyf]
 rintro t w2 ⟨i,h1,h2⟩;refine ci (λh=>?_) (λh=>?_)
 .obtain⟨F,D,e⟩:=h1 h;refine ρ ?_;refine Jf (k+1) sO ⟨i,om,om,?_⟩ om;grind [List.drop_eq_getElem_cons,shr,Qn,V0]
 refine ρ ?_;refine Jq ⟨?_,i⟩;rw[he,h2 h];rfl
def Zr(A:Option Addr)(d:Nat)(vv fv:Nat->Value)(k:Nat): Prop:=(Value.slice A d d).ownBlock=some k∨∃ l,l<d/\((vv l).ownBlock=some k∨(fv l).ownBlock=some k)
theorem Im{e sz m base' e' sz' m':Nat}{v:Value}(h:w.ownsRow base e sz v m xs)(h':w.ownsRow base' e' sz' v' m' xs')(hne:Nat.beq e e'=false)(hg:v.ownBlock=some g): v'.ownBlock≠some g:=by
 have u:e≠e':=by intro j;subst j;simp at hne
 intro i;rcases h.2 with⟨rfl,_⟩|⟨g1,cap,cur,rfl,_,hh,_⟩
 .simp[Value.ownBlock]at hg
 rcases h'.2 with⟨rfl,_⟩|⟨g2,cap',cur',rfl,_,hh',_⟩
 .simp[Value.ownBlock]at i
 have D:g1=g:=by simpa [Value.ownBlock] using hg
 have y:g2=g:=by simpa [Value.ownBlock] using i
 grind
theorem TriB.box(h:TriB w base A d vv fv vs fs){b:Nat}(hB:Blk w b t cs)(h1:Nat.beq 219 t=false)(h2:Nat.beq 75 t=false)(h3:Nat.beq 3 t=false): ¬ Zr A d vv fv b:=by
 rintro(e|⟨l,i,e|e⟩)
 .exact hB.ne_own h.lev h1 e.symm
 .exact hB.ne_own (h.vals.own l i) h2 e.symm
 exact hB.ne_own (h.fst.own l i) h3 e.symm
theorem TriB.congr(h:TriB w base A d vv fv vs fs)(h1:∀ l,l<d->vs' l=vs l)(h2:∀ l,l<d->fs' l=fs l): TriB w base A d vv fv vs' fs' :=
 ⟨h.lev,⟨λi hi=>by rw[h1 i hi];exact h.vals.own i hi,h.vals.dis⟩,⟨λi hi=>by rw[h2 i hi];exact h.fst.own i hi,h.fst.dis⟩⟩
theorem Jhv{p:Addr}(u:Value): w.grownBy (w.setCell p u) (some p.block):=⟨rfl,rfl,rfl,by simp[World.setCell],λk i hn=>Below.heap_setCell w p u k (λe=>hn (by rw[e]))⟩
theorem TriB.setV{vv fv : Nat → Value}{vs : Nat → Row}{fs : Nat → List Nat}{r : Row}(H : TriB w base A d vv fv vs fs)(lk : k < d)(ho : w4.ownsRow base 75 3 v4 r.length (Jr r))(hg : w.grownBy w4 (vv k).ownBlock)(hn : ∀ g, v4.ownBlock = some g → (vv k).ownBlock = some g ∨ w.heap.size ≤ g): w4.cell? ((adr A (k * 2)).add 0) = some (vv k) ∧ w4.frozen? ((adr A (k * 2)).add 0) = false ∧ v4.oneCell' = true ∧ TriB (w4.setCell ((adr A (k * 2)).add 0) v4) base A d (upd vv k v4) fv (upd vs k r) fs ∧
      w4.grownBy (w4.setCell ((adr A (k * 2)).add 0) v4) (Value.slice A d d).ownBlock := by
  have F4 := H.vals.upd lk ho hg hn
  have L4 := Zw H.lev (H.vals.own k lk) hg rfl
  have f4 := H.fst.other (H.vals.own k lk) hg rfl
  obtain ⟨s1, s2, s3, s4, s5⟩ := Zp L4 (q := k * 2) om v4
  rw [add_zero]
  have h1 : v4.oneCell' = true := by obtain ⟨B, c, e, _⟩ := Jy ho; rw [e]; rfl
  refine ⟨s1.trans (Uz d vv fv lk).1, s2, h1, ⟨?_, ?_, ?_⟩, s5⟩
  . grind [Jsd,lk]
  . have F5 := F4.other L4 s5 rfl
    refine ⟨fun i hi => ?_, F5.dis⟩
    have := F5.own i hi
    grind [Qy,Jp]
  . exact f4.other L4 s5 rfl
theorem TriB.setF{vv fv : Nat → Value}{vs : Nat → Row}{fs : Nat → List Nat}{r : List Nat}(H : TriB w base A d vv fv vs fs)(lk : k < d)(ho : w4.ownsRow base 3 1 v4 r.length (Jt (nz r)))(hg : w.grownBy w4 (fv k).ownBlock)(hn : ∀ g, v4.ownBlock = some g → (fv k).ownBlock = some g ∨ w.heap.size ≤ g): w4.cell? ((adr A (k * 2)).add 1) = some (fv k) ∧ w4.frozen? ((adr A (k * 2)).add 1) = false ∧ v4.oneCell' = true ∧ TriB (w4.setCell ((adr A (k * 2)).add 1) v4) base A d vv (upd fv k v4) vs (upd fs k r) ∧
      w4.grownBy (w4.setCell ((adr A (k * 2)).add 1) v4) (Value.slice A d d).ownBlock := by
  have F4 := H.fst.upd lk ho hg hn
  have L4 := Zw H.lev (H.fst.own k lk) hg rfl
  have f4 := H.vals.other (H.fst.own k lk) hg rfl
  obtain ⟨s1, s2, s3, s4, s5⟩ := Zp L4 (q := k * 2 + 1) om v4
  rw [Kn]
  have h1 : v4.oneCell' = true := by obtain ⟨B, c, e, _⟩ := Jy ho; rw [e]; rfl
  refine ⟨s1.trans (Uz d vv fv lk).2, s2, h1, ⟨?_, ?_, ?_⟩, s5⟩
  . grind [Jsc,lk]
  . exact f4.other L4 s5 rfl
  . have F5 := F4.other L4 s5 rfl
    refine ⟨fun i hi => ?_, F5.dis⟩
    have := F5.own i hi
    grind [Qy,Jp]
theorem Qdc(h:∀ j,Zr A d vv fv j->M j)(lk:k<d)(hn:∀ g,v4.ownBlock=some g->M g): ∀ j,Zr A d (upd vv k v4) fv j->M j:=by
 rintro j (e|⟨l,i,e|e⟩)
 .exact h j (.inl e)
 .by_cases el:l=k
  .grind [Qy]
  rw[Jp _ _ el]at e;exact h j (.inr ⟨l,i,.inl e⟩)
 exact h j (.inr ⟨l,i,.inr e⟩)
theorem Jmz(h:∀ j,Zr A d vv fv j->M j)(lk:k<d)(hn:∀ g,v4.ownBlock=some g->M g): ∀ j,Zr A d vv (upd fv k v4) j->M j:=by
 rintro j (e|⟨l,i,e|e⟩)
 .exact h j (.inl e)
 .exact h j (.inr ⟨l,i,.inl e⟩)
 by_cases el:l=k
 .grind [Qy]
 rw[Jp _ _ el]at e;exact h j (.inr ⟨l,i,.inr e⟩)
theorem Qrc(v:V)(w:World): (Instr.buildSlice 72 1 #[(0,v.val)]).run Tryz.prog w=.ok (.slice (some ⟨w.heap.size,0,none⟩) 1 1) (w.alloc (.cells v.cells.toArray 75)):=kr
theorem EVs: ElT Tryz.prog 72 75 3 32 (.agg #[.int .i64 0,.int .i64 0,.string ⟨#[]⟩]):=⟨Tryz.underlying72,info_parts kr,rfl,by decide⟩
theorem bs1Int'(z:Int)(w:World): (Instr.buildSlice 28 1 #[(0,.int .i64 z)]).run Tryz.prog w=.ok (.slice (some ⟨w.heap.size,0,none⟩) 1 1) (w.alloc (.cells [.int .i64 z].toArray 3)):=kr
theorem rowC_one'(v:V): Jr [v]=v.cells:=by simp[Jr]
theorem Qkg(H:TriB w base A d vv fv vs fs)(hx:Off (Zr A d vv fv) w (λu=>RowV u vx x))(hlen:x.length=d)(hd:d<=32)(hs:s<=d)(hbase:base<=w.heap.size)(hsm:∀ l,l<d->(vs l).length<=1000000/\(fs l).length<=1000000):
  Ret Tryz.prog 137 [.agg #[.slice A d d],vx,.int .i64 (s:Int)] w λu w'=>∃ vv' fv',TriB w' base A d vv' fv' (λl=>if s<=l then vs l++[x.getD l V0] else vs l) (λl=>if s<=l then fs l++[if l+1<d then(vs (l+1)).length else 0] else fs l) /\
   GrN (Zr A d vv fv) w w'/\∀ j,Zr A d vv' fv' j->Zr A d vv fv j∨w.heap.size<=j:=by
 obtain⟨X,xc,b2,be,bd,bc⟩:=hx.here;subst b2;refine Jz Tryz.func137 Tryz.ntmps137 rfl kr rfl ?_;refine ρ ?_;refine bx ?_;intro w1 b D hb hB;obtain⟨M,hM⟩:∃ M:Nat->Prop,M=λj=>Zr A d vv fv j∨w.heap.size<=j/\j≠b:=⟨_,rfl⟩;have aa:¬ M b:=by
  rw[hM];rintro(F|F)
  .exact(H.ext D).box hB rfl rfl rfl F
  exact F.2 rfl
 have ak:Off M w1 (λu=>RowV u (.slice X x.length xc) x):=λu hg=>hx u ⟨hg.os.trans D.os,hg.tape.trans D.tape,hg.output.trans D.output,Nat.le_trans D.size hg.size,λk hk hn=>(hg.block k (nM hk D.size) (λe=>by rw[hM]at e;rcases e with e|e;exact hn e;omega)).trans (D.block k hk)⟩;refine ρ ?_;refine Zy (fun (k:Nat) (vv' fv':Nat->Value)=>[(1,.slice X x.length xc),(3,.pointer (some ⟨b,0,none⟩)),(6,.int .i64 (k:Int))])
  (λk vv' fv' w'=>s<=k/\k<=d/\TriB w' base A d vv' fv' (λl=>if s<=l/\l<k then vs l++[x.getD l V0] else vs l) (λl=>if s<=l/\l<k then fs l++[if l+1<d then(vs (l+1)).length else 0] else fs l)/\GrN M w1 w'/\∀ j,Zr A d vv' fv' j->M j) (λk _ _=>d-k) s vv fv sB
  ⟨nR _,hs,?_,GrN.refl _ _,λj hj=>by rw[hM];exact .inl hj⟩ ?_
 .have e1:(λl=>if s<=l/\l<s then vs l++[x.getD l V0] else vs l)=vs:=by funext l;rw[if_neg om]
  have e2:(λl=>if s<=l/\l<s then fs l++[if l+1<d then(vs (l+1)).length else 0] else fs l)=fs:=by funext l;rw[if_neg om]
  rw[e1,e2];exact H.ext D
 rintro k vv' fv' w2 ⟨bi,bh,H2,a1,a7⟩;refine ρ ?_;refine ci (λh=>?_) (λh=>?_)
 .have lk:k<d:=by have:=oT h;omega
  have lx:k<x.length:=om
  have bf:=hsm k lk;clear h;obtain⟨B,c,b4,ba,b5⟩:=H2.vform lk;obtain⟨own,y⟩:∃ own,own=(vv' k).ownBlock:=⟨_,rfl⟩;have J:∀ j,own=some j->M j:=λj O=>a7 j (.inr ⟨k,lk,.inl (by rw[<-y];exact O)⟩);refine ρ ?_;refine Xp (fun (a5:Nat->Value)=>[(1,.slice X x.length xc),(3,.pointer (some ⟨b,0,none⟩)),(6,.int .i64 (k:Int))])
   (λa5 w5=>TriB w5 base A d a5 fv' (upd (λl=>if s<=l/\l<k then vs l++[x.getD l V0] else vs l) k (vs k++[x.getD k V0])) (λl=>if s<=l/\l<k then fs l++[if l+1<d then(vs (l+1)).length else 0] else fs l)/\GrN M w1 w5/\∀ j,Zr A d a5 fv' j->M j) ?_ ?_
  .refine drN (one own) 4 [(0,0),(0,1),(0,2),(0,3),(0,4),(0,5),(0,6),(0,7),(0,8),(0,9),(0,10),(0,11),(0,12),(1,13),(1,14),(0,15),(0,16),(2,17)] kr ?_;have a6:Ext w2 w2.drew:=(Ext.refl w2).drew;have a4:=H2.ext a6;have G:=a1.trans (GrN.ext a6);have aj:=Ju hB G aa;have ay:RdR w2.drew X x:=by
    obtain⟨X',ax,e1,_,_,e4⟩:=ak _ G;injection e1 with e1 _ _;subst e1;exact e4
   have nb:¬ one own b:=λe=>aa (J b e);have nA:∀ ad,A=some ad->¬ one own ad.block:=λad e F=>by
    subst e;exact Im a4.lev (a4.vals.own k lk) rfl rfl (by rw[<-y];exact F)
   have ae:¬ one own (adr A (k*2)).block:=by
    obtain⟨ad,e,_⟩:=a4.rd.isome om om;subst e;simp only[adr,Option.getD_some,Yn];exact nA ad rfl
   have az:∀ w',GrN (one own) w2.drew w'->RdR w' X x:=λw' hg=>by
    obtain⟨X',ax,e1,_,_,e4⟩:=ak _ (G.trans (hg.mono λj _ O=>J j O));injection e1 with e1 _ _;subst e1;exact e4
   refine ρn ?_;refine nld (Qh (aj.at (i:=0) rfl) nb) ?_;refine ρn ?_;refine nld (Qh (aj.at (i:=0) rfl) nb) ?_;refine ρn ?_;refine Vu 2 k a4.rd lk ?_;refine ρn ?_;refine nld (Qh (a4.v0 lk) (by rw[Yn];exact ae)) ?_;refine ρn ?_;refine Vu 3 k ay lx ?_;refine ρn ?_;refine Yc (cs:=(x.getD k V0).cells) (λw' hg j u hu=>RdR.cell (az w' hg) lx hu) ?_;refine ρn ?_;refine nop ?_;refine bsl (Qrc (x.getD k V0)) ?_;intro w3 b3 a3 bl b8;refine ρ ?_;refine Ql (GrN.ext a3) ?_;have H3:=a4.ext a3;have ar:=H3.vals.own k lk;rw[if_neg (show¬ (s<=k/\k<k) by omega)]at ar;have bg:(vs k).length+1<=1000001:=om
   refine nop ?_;refine apb (base:=base) EVs ar (b8.rd (n:=1) rfl) (V.one _) (by unfold maxLen;omega) om (nL hbase (nL D.size (nL G.size a3.size))) ?_;intro v4 w4 aq a9 aw;refine ρ ?_;refine Ql (GrN.by a9 λj O=>by rw[<-y]at O;exact O) ?_;have er:Jr (vs k)++(x.getD k V0).cells=Jr (vs k++[x.getD k V0]):=by rw[Qvt,rowC_one']
   have el:(vs k).length+1=(vs k++[x.getD k V0]).length:=by simp
   rw[er,el]at aq;obtain⟨c1,c2,c3,H5,af⟩:=H3.setV lk aq a9 aw;have bm:b<w2.drew.heap.size:=aj.lt;have L4:=Zw H3.lev (H3.vals.own k lk) a9 rfl;refine ρn ?_;refine Vu 2 k (Rd.own L4) lk ?_;refine ρn ?_;refine Xt ?_;refine sto c1 c2 ?_ (hv:=c3);refine ρ ?_;have ah:∀ g,v4.ownBlock=some g->M g:=λg eg=>by
    rcases aw g eg with F|F
    .exact J g (by rw[y];exact F)
    rw[hM];exact .inr ⟨nL D.size (nL G.size (nL a3.size F)),λe=>by have:=a3.size;omega⟩
   refine Je (upd vv' k v4) sB ⟨H5,?_,Qdc (M:=M) a7 lk ah⟩;exact((G.trans (GrN.ext a3)).trans (GrN.by a9 λj O=>J j (by rw[y];exact O))).trans (GrN.by af λj O=>a7 j (.inl O))
  clear J y b4 ba b5 H2 a1 a7;rintro a5 w5 ⟨H5,af,ai⟩;obtain⟨own,y⟩:∃ own,own=(fv' k).ownBlock:=⟨_,rfl⟩;have J:∀ j,own=some j->M j:=λj O=>ai j (.inr ⟨k,lk,.inr (by rw[<-y];exact O)⟩);refine drN (one own) 4 [(0,0),(0,1),(0,2),(0,3),(0,4),(0,5),(0,6),(0,7),(0,8),(0,9),(0,10),(0,11),(1,12),(1,13),(1,14),(0,15),(0,16),(2,17)] kr ?_;have a6:Ext w5 w5.drew:=(Ext.refl w5).drew;have Z:=H5.ext a6;have a2:=af.trans (GrN.ext a6);have ac:=Ju hB a2 aa;have nb:¬ one own b:=λe=>aa (J b e);have ae:¬ one own (adr A (k*2)).block:=by
   obtain⟨ad,e,_⟩:=Z.rd.isome om om;subst e;simp only[adr,Option.getD_some,Yn];intro F;exact Im Z.lev (Z.fst.own k lk) rfl rfl (by rw[<-y];exact F)
  refine ρn ?_;refine nld (Qh (ac.at (i:=0) rfl) nb) ?_;refine ρn ?_;refine nld (Qh (ac.at (i:=0) rfl) nb) ?_;refine ρn ?_;refine Vu 2 k Z.rd lk ?_;refine ρn ?_;refine nld (Qh (Z.f1 lk) (by rw[Yn];exact ae)) ?_;refine ρn ?_;refine Yc (cs:=[.slice A d d]) (λw' hg j u hu=>(Ju ac hg nb).at hu) ?_;refine ρn ?_;refine nop ?_;refine cl (Jvw (l:=k+1) (li:=(k:Int)+1) Z.rd (λl hl=>by obtain⟨B,c,e,_⟩:=Z.vform hl;exact⟨B,c,e⟩) om hd) ?_;rintro u w6 ⟨rfl,an⟩;refine ρ ?_;refine Ql (GrN.ext an) ?_;obtain⟨nn,au⟩:∃ nn:Nat,nn=if k+1<d then(vs (k+1)).length else 0:=⟨_,rfl⟩
  have bb:(if k+1<d then List.length (upd (λl=>if s<=l/\l<k then vs l++[x.getD l V0] else vs l) k (vs k++[x.getD k V0]) (k+1)) else 0)=nn:=by
   rw[au,Jp _ _ om,if_neg (show¬ (s<=k+1/\k+1<k) by omega)]
  rw[bb];refine nop ?_;refine bsl (bs1Int' (nn:Int)) ?_;intro w7 b7 am bj b6;refine ρ ?_;refine Ql (GrN.ext am) ?_;have U:=an.trans am;have H7:=Z.ext U;have ap:=H7.fst.own k lk;rw[if_neg (show¬ (s<=k/\k<k) by omega)]at ap;refine nop ?_;refine apb (base:=base) EI ap (b6.rd (n:=1) rfl) (λu hu=>by rw[List.mem_singleton.1 hu];rfl) (by unfold maxLen;omega) om (nL hbase (nL D.size (nL a2.size U.size))) ?_;intro v8 w8 ao a8 av;refine ρ ?_;refine Ql (GrN.by a8 λj O=>by rw[<-y]at O;exact O) ?_;have er:Jt (nz (fs k))++[.int .i64 (nn:Int)]=Jt (nz (fs k++[nn])):=by simp[Jt,nz]
  have el:(fs k).length+1=(fs k++[nn]).length:=by simp
  rw[er,el]at ao;obtain⟨c1,c2,c3,H9,b9⟩:=H7.setF lk ao a8 av;have L8:=Zw H7.lev (H7.fst.own k lk) a8 rfl;refine ρn ?_;refine Vu 2 k (Rd.own L8) lk ?_;refine ρn ?_;refine Xt ?_;refine sto c1 c2 ?_ (hv:=c3);refine ρ ?_;have ah:∀ g,v8.ownBlock=some g->M g:=λg eg=>by
   rcases av g eg with F|F
   .exact J g (by rw[y];exact F)
   rw[hM];exact .inr ⟨nL D.size (nL a2.size (nL U.size F)),λe=>by have:=U.size;have:=ac.lt;omega⟩
  refine Xj (k+1) a5 (upd fv' k v8) sO ⟨om,om,H9.congr (λl hl=>?_) (λl hl=>?_),?_,Jmz (M:=M) ai lk ah⟩ om
  .by_cases e:l=k
   .subst e;rw[Qy,if_pos om]
   rw[Jp _ _ e];by_cases e2:s<=l/\l<k
   .rw[if_pos e2,if_pos om]
   rw[if_neg e2,if_neg om]
  .by_cases e:l=k
   .subst e;rw[Qy,if_pos om,au]
   rw[Jp _ _ e];by_cases e2:s<=l/\l<k
   .rw[if_pos e2,if_pos om]
   rw[if_neg e2,if_neg om]
  exact((a2.trans (GrN.ext U)).trans (GrN.by a8 λj O=>J j (by rw[y];exact O))).trans (GrN.by b9 λj O=>ai j (.inl O))
 have ek:k=d:=by have:=oF h;omega
 subst ek;refine ρ ?_;refine Vl ⟨vv',fv',H2.congr (λl hl=>?_) (λl hl=>?_),?_,λj hj=>?_⟩
 .by_cases e:s<=l
  .rw[if_pos e,if_pos ⟨e,hl⟩]
  rw[if_neg e,if_neg (λF=>e F.1)]
 .by_cases e:s<=l
  .rw[if_pos e,if_pos (show s<=l/\l<k from⟨e,hl⟩)]
  rw[if_neg e,if_neg (λF=>e F.1)]
 .exact⟨a1.os.trans D.os,a1.tape.trans D.tape,a1.output.trans D.output,Nat.le_trans D.size a1.size,λj hj hn=>(a1.block j (nM hj D.size) (λe=>by rw[hM]at e;rcases e with e|e;exact hn e;omega)).trans (D.block j hj)⟩
 have:=a7 j hj;rw[hM]at this;exact this.imp id λF=>F.1
open Go.RowKit Pl Go.Wk
attribute [local irreducible] WN
variable {t:Int}{zs:List Int}{base c d n:Nat}{A:Option Addr}{w:World}
theorem Qld(hR:Rd w 1 A n (Jt zs))(hn:zs.length=n)(hm:n<=1100000): Ret Tryz.prog 167 [.slice A n c,.int .i64 t] w λu w'=>w'=w/\∃ z,u=.int .i64 z/\(0<=z↔t∈zs):=by
 refine Jz Tryz.func167 Tryz.ntmps167 rfl kr rfl ?_;refine ρ ?_;refine Jl (fun (k:Nat)=>[(0,.slice A n c),(1,.int .i64 t),(7,.int .i64 (n:Int)),(8,.int .i64 (k:Int))]) (λk w'=>w'=w/\k<=n/\t ∉ zs.take k) (λk=>n-k) 0 sB ⟨rfl,Nat.zero_le _,by simp⟩ ?_;rintro k w' ⟨rfl,j,y⟩;refine ρ ?_;refine ci (λh=>?_) (λh=>?_)
 .have lk:k<n:=by have:=oT h;omega
  have i:k<zs.length:=om
  refine ρ ?_;refine ix k hR lk ?_;refine ρ ?_;refine ld (hR.cell (Yq i)) ?_;refine ρ ?_;refine ci (λh=>?_) (λh=>?_)
  .refine ρ ?_;refine Jq ⟨rfl,(k:Int),rfl,⟨λ_=>?_,λ_=>om⟩⟩;grind
  refine ρ ?_;refine Jf (k+1) sO ⟨rfl,om,?_⟩ om;rw[Xy 0 i,List.mem_append,List.mem_singleton];grind
 refine ρ ?_;refine Jq ⟨rfl,-1,rfl,⟨λe=>om,λe=>?_⟩⟩;grind
theorem Qnk(hR:Rd w 1 A n (Jt zs))(hn:zs.length=n)(hm:n<=1100000): Ret Tryz.prog 136 [.slice A n c,.int .i64 t] w λu w'=>w'=w/\∃ b:Bool,u=.bool b/\(b=true↔t∈zs):=by
 refine Jz Tryz.func136 Tryz.ntmps136 rfl kr rfl ?_;refine ρ ?_;refine cl (Qld hR hn hm) ?_;rintro u w' ⟨rfl,z,rfl,i⟩;refine ρ ?_;exact Jq ⟨rfl,decide (0<=z),rfl,by grind⟩
def TriV(w:World)(v:Value)(d:Nat)(rs:List Row): Prop:=∃(A:Option Addr) (vv fv:Nat->Value) (fs:Nat->List Nat),v=.agg #[.slice A d d]/\Rd w 2 A d (Xh d vv fv)/\(∀ l,l<d->∃ B c,vv l=.slice B (lvl rs l).length c/\RdR w B (lvl rs l)) /\
 (∀ l,l<d->∃ B c,fv l=.slice B (fs l).length c/\Rd w 1 B (fs l).length (Jt (nz (fs l))))/\∀ l,l+1<d->Chl rs l (fs l)
theorem TriV.ext{w w':World}{v:Value}{d:Nat}{rs:List Row}(h:TriV w v d rs)(hx:Ext w w'): TriV w' v d rs:=by
 obtain⟨A,vv,fv,fs,y,u,F,D,j⟩:=h;refine⟨A,vv,fv,fs,y,u.ext hx,λl i=>?_,λl i=>?_,j⟩;repeat grind [Rd.ext]
theorem TriB.off{vv fv:Nat->Value}{rs:List Row}{fs:Nat->List Nat}{N:Nat->Prop}(h:TriB w base A d vv fv (lvl rs) fs)(hc:∀ l,l+1<d->Chl rs l (fs l))(hN:∀ j,Zr A d vv fv j->¬ N j): Off N w (λu=>TriV u (.agg #[.slice A d d]) d rs):=by
 intro u D;refine⟨A,vv,fv,fs,rfl,Zm h.rd D (λ_ G e=>?_),λl i=>?_,λl i=>?_,hc⟩
 .subst e;exact hN _ (.inl rfl)
 .obtain⟨B,c,e,_,y⟩:=h.vform i;refine⟨B,c,e,Zm y D λ_ G F=>hN _ (.inr ⟨l,i,.inl ?_⟩)⟩;rw[e,F];rfl
 obtain⟨B,c,e,_,y⟩:=h.fform i;refine⟨B,c,e,Zm y D λ_ G F=>hN _ (.inr ⟨l,i,.inr ?_⟩)⟩;rw[e,F];rfl
theorem Jvl: Xz Tryz.prog 195=some (.agg #[.slice none 0 0]):=kr
theorem Qrt(A:Option Addr)(n c:Nat)(w:World): (Instr.build 195 #[(0,.slice A n c)]).run Tryz.prog w=.ok (.agg #[.slice A n c]) w:=kr
theorem EL: ElT Tryz.prog 193 219 2 48 (.agg #[.slice none 0 0,.slice none 0 0]):=⟨Tryz.underlying193,info_parts kr,rfl,by decide⟩
theorem one1: ∀ u∈[Value.slice A n c],u.oneCell'=true:=by intro u i;rw[List.mem_singleton.1 i];rfl
theorem made2(d:Nat): (madeCells (Value.agg #[.slice none 0 0,.slice none 0 0]).cells (d*2)).toList=Xh d (λ_=>.slice none 0 0) (λ_=>.slice none 0 0):=by
 apply List.ext_getElem?
 intro k;have u:(Value.agg #[.slice none 0 0,.slice none 0 0]).cells = #[.slice none 0 0,.slice none 0 0]:=rfl;rw[u];by_cases hk:k<d*2
 .have i:=Uz d (λ_=>Value.slice none 0 0) (λ_=>Value.slice none 0 0) (l:=k / 2) om;have j:k % 2=0∨k % 2=1:=om
  rcases j with j|j
  .have e:k / 2*2=k:=om
   rw[e]at i;rw[i.1];simp only[madeCells,Array.getElem?_toList,Array.getElem?_map,Array.getElem?_range,hk,if_true,Option.map_some];grind
  have e:k / 2*2+1=k:=om
  rw[e]at i;rw[i.2];simp only[madeCells,Array.getElem?_toList,Array.getElem?_map,Array.getElem?_range,hk,if_true,Option.map_some];grind
 rw[List.getElem?_eq_none (by simp[madeCells];omega),List.getElem?_eq_none (by rw[Zd];omega)]
open Go.RowKit Pl Go.Wk
variable {ls rs:List Row}{d:Nat}{r x:Row}
theorem Qcd(h:r.length=d): pmR (List.range d) r=r:=by
 apply List.ext_getElem
 repeat grind [pmR,List.getD,List.getElem?_eq_getElem]
theorem TriB.nil(w:World)(base:Nat){A:Option Addr}(hl:w.ownsRow base 219 2 (.slice A d d) d (Xh d (λ_=>.slice none 0 0) (λ_=>.slice none 0 0))): TriB w base A d (λ_=>.slice none 0 0) (λ_=>.slice none 0 0) (λ_=>[]) (λ_=>[]) :=
 ⟨hl,⟨λi hi=>Qo _ _ _ _,λi j g _ _ _ e=>by cases e⟩,⟨λi hi=>Qo _ _ _ _,λi j g _ _ _ e=>by cases e⟩⟩
theorem Jnz(l:Nat): (lvl rs l).length<=rs.length:=by
 rw[Jjd];have:=Jxv (rs.map (List.take (l+1)));rw[List.length_map]at this;exact this
theorem Qwd: stp rs x<=x.length:=by
 unfold stp;split
 .exact(Jhp _ _).2
 exact Nat.zero_le _
theorem Qkc{w:World}{v vc:Value}(hrel:RelV w v d ls)(hlt:Lt [] ls)(hlen:∀ r∈ls,r.length=d)(hc:IntsV w vc (nz (List.range d)))(hd:d<=32)(hbig:ls.length<=65536):
  Ret Tryz.prog 112 [v,vc] w λu w'=>Ext w w'/\∃ t,u=.tuple #[t,.int .i64 0]/\(∃ A,t=.agg #[.slice A d d])/\Off (λk=>k<w.heap.size) w' (λx=>TriV x t d ls):=by
 obtain⟨C,cc,rfl,dh,dg,cp⟩:=id hc;obtain⟨rv,rfl,bp⟩:=id hrel;obtain⟨ec,A0,c0,_,rfl,_⟩:=id bp;have bb:(nz (List.range d)).length=d:=by rw[Js,List.length_range]
 rw[bb]at hc dh dg cp ⊢;have d0:∀ {k:Nat},k<d->(List.range d).getD k 0=k:=fun {k} hk=>by simp[List.getD,hk]
 have bt:∀ {k:Nat},k<d->(Jt (nz (List.range d)))[k]?=some (.int .i64 (k:Int)):=fun {k} hk=>by
  have:=Qg (cs:=List.range d) (i:=k) (by rw[List.length_range];exact hk);rw[d0 hk]at this;exact this
 refine Jz Tryz.func112 Tryz.ntmps112 rfl kr rfl ?_;refine ρ ?_;refine bx ?_;intro w1 b1 cd en e1;refine ρ ?_;refine alc Jvl ?_;intro w2 b2 cb dk cz;have c9:=cd.trans cb;refine ρ ?_;refine Jl (fun (k:Nat)=>[(1,.slice C d cc),(2,.pointer (some ⟨b1,0,none⟩)),(4,.pointer (some ⟨b2,0,none⟩)),(15,.slice C d cc),(16,.int .i64 (d:Int)),(17,.int .i64 (k:Int))]) (λk w'=>Ext w2 w'/\k<=d) (λk=>d-k) 0 sB ⟨Ext.refl _,Nat.zero_le _⟩ ?_;rintro k w3 ⟨av,hk⟩;have a7:=c9.trans av;have bl:=(e1.ext cb).ext av;refine ρ ?_;refine ci (λh=>?_) (λh=>?_)
 .have lk:k<d:=by have:=oT h;omega
  have b4:=cp.ext a7;refine ρ ?_;refine ix k b4 lk ?_;refine ρ ?_;refine ld (b4.cell (bt lk)) ?_;refine ρ ?_;refine kf 24 ?_ ?_
  .exact dF om
  refine ρ ?_;refine ldW bl ?_;refine ρ ?_;refine cl (Jbc (hrel.ext a7)) ?_;rintro u w4 ⟨rfl,aq⟩;refine ρ ?_;refine cf ?_ ?_
  .exact dF om
  refine ρ ?_;refine slh k ?_;refine ρ ?_;have dm:Rd w4 1 C k (Jt ((nz (List.range d)).take k)):=by
   have:=(b4.ext aq).take (m:=k) om;rw[Nat.mul_one]at this;have e:Jt ((nz (List.range d)).take k)=(Jt (nz (List.range d))).take k:=by simp[Jt]
   rw[e];exact this
  refine cl (Qnk (t:=(k:Int)) dm (by rw[List.length_take,bb];omega) om) ?_;rintro u w5 ⟨rfl,t,rfl,ht⟩;have dd:t=false:=by
   cases t with
   | false=>rfl
   | true=>
    exfalso
    have hm:=ht.1 rfl;obtain⟨i,hi,e⟩:=List.getElem_of_mem hm;rw[List.length_take,bb]at hi;have:((nz (List.range d)).take k)[i]'(by rw[List.length_take,bb];exact hi)=(i:Int):=by simp[nz]
    rw[this]at e;omega
  refine ρ ?_;refine cf dd ?_;refine ρ ?_;exact Jf (k+1) sO ⟨av.trans aq,om⟩ om
 clear h;have cj:ls.map (pmR (List.range d))=ls:=by
  conv=>rhs;rw[<-List.map_id ls]
  exact List.map_congr_left λr hr=>by rw[Qcd (hlen r hr)];rfl
 refine ρ ?_;refine ldW bl ?_;refine ρ ?_;refine cl (Jlq (cs:=List.range d) (hrel.ext a7) (hc.ext a7) hlen (λc hc=>List.mem_range.1 hc) (by rw[List.length_range];exact hd) hbig) ?_;rintro u w4 ⟨aq,pv,rfl,⟨pz,pB,pm,pd,rfl⟩,m,ch,ef,ee,df⟩;have de:m=ls:=by
  have:=df (.inr (by rw[cj];exact Yo hlt));rw[cj]at this;exact Gk this.1 hlt this.2
 subst de;rw[List.length_range]at ch;have c8:=a7.trans aq;refine ρ ?_;refine alc Uw ?_;intro w5 b5 dc dj e0;refine ρ ?_;refine stb e0 ?_ (Vf (z:=pz) (A:=pB) (n:=pm) (c:=pd));intro w6 dz ei db;have ae:Ext w4 w6:=db w4 dc dj;have ar:=c8.trans ae;have dt:RelV w6 (.agg #[.int .i64 pz,.slice pB pm pd]) d m:=ch.here.ext ae;refine ρ ?_;refine mkn EL d om (by unfold maxLen;omega) ?_;intro w7 A da br hO;rw[made2]at br;refine ρ ?_;refine bld (Qrt A d d _) ?_;refine ρ ?_;refine alc Jvl ?_;intro w8 b8 d9 di dx;refine ρ ?_;refine stb dx ?_ (one1 (A:=A) (n:=d) (c:=d));intro w9 dw eh d8;have au:Ext w7 w9:=d8 w7 d9 di;have F:=da.trans au;have c7:=ar.trans F;have dl:=TriB.nil w9 w6.heap.size (Jv br au);have cm:∀ j,(Value.slice A d d).ownBlock=some j->w6.heap.size<=j/\j<w7.heap.size:=by
  obtain⟨_,_,_,_,hf⟩:=Jy br;exact hf
 refine ρ ?_;refine ldW (dz.ext F) ?_;refine ρ ?_;refine cl (Jbb (dt.ext F)) ?_;rintro u ap ⟨G,ba⟩;obtain⟨ps,R,rc,ck,rfl,e7,e6,dq,dn⟩:=ba;have ed:ps.length=m.length:=by rw[ck,List.length_map]
 generalize hn:ps.length=n at *
 have ay:∀ i,m.getD i []=(ps.getD i z0).2:=λi=>by rw[ck];exact Jwb
 have bn:=c7.trans G;obtain⟨Ar,b9⟩:∃ Ar:Nat->Prop,Ar=λj=>j<w9.heap.size∨ap.heap.size<=j:=⟨_,rfl⟩;have ds:Off Ar ap (λu=>Rd u 1 R n (ps.map (·.1))):=dq.mono λj Z ax=>by rw[b9]at ax;omega
 have bu:∀ p∈ps,Off Ar ap (λu=>RowV u p.1 p.2):=λp hp=>(dn p hp).mono λj Z ax=>by rw[b9]at ax;omega
 have a2:=dw.ext G;have cy:=(((((cz.ext av).ext aq).ext ae).ext F).ext G);obtain⟨M,hM⟩:∃ M:Nat->Prop,M=λj=>w6.heap.size<=j/\Ar j/\j≠b8:=⟨_,rfl⟩;have bv:∀ j,M j->Ar j:=λj Z=>by rw[hM]at Z;exact Z.2.1
 have b6:¬ M b8:=λe=>by rw[hM]at e;exact e.2.2 rfl
 have cr:¬ M b2:=λe=>by
  rw[hM]at e;have h1:=cz.lt;have h2:=av.size;have h3:=aq.size;have h4:=ae.size;omega
 refine ρ ?_;refine Zy (fun (k:Nat) (vv fv:Nat->Value)=>[(4,.pointer (some ⟨b2,0,none⟩)),(10,.pointer (some ⟨b8,0,none⟩)),(11,if k=0 then .slice none 0 0 else(ps.getD (k-1) z0).1),(53,.slice R n rc),(54,.int .i64 (n:Int)),(55,.int .i64 (k:Int))])
  (λk vv fv w'=>k<=n/\(∃ fs,TriB w' w6.heap.size A d vv fv (lvl (m.take k)) fs/\(∀ l,l<d->(fs l).length=(lvl (m.take k) l).length)/\∀ l,l+1<d->Fst (m.take k) l (fs l))/\GrN M ap w'/\∀ j,Zr A d vv fv j->M j) (λk _ _=>n-k) 0 (λ_=>.slice none 0 0) (λ_=>.slice none 0 0) sB
  ⟨Nat.zero_le _,⟨λ_=>[],(dl.ext G).congr (λl O=>rfl) (λl O=>rfl),λl O=>rfl,λl O=>Fst.nil l⟩,GrN.refl _ _,λj Z=>?_⟩ ?_
 .rcases Z with e|⟨l,_,e|e⟩
  .have:=cm j e;rw[hM];refine⟨this.1,by rw[b9];exact .inl (nM this.2 au.size),λe2=>?_⟩;subst e2;omega
  .cases e
  cases e
 rintro k vv fv a3 ⟨hk,⟨fs,bz,b3,am⟩,a1,a9⟩;have a6:GrN Ar ap a3:=a1.mono λj _ Z=>bv j Z;refine ρ ?_;refine ci (λh=>?_) (λh=>?_)
 .have lk:k<n:=by have:=oT h;omega
  have c6:k<m.length:=om
  clear h;have bj:=ds a3 a6;have cq:RowV a3 (ps.getD k z0).1 (m.getD k []):=by rw[ay];exact bu _ (Vv hn lk) a3 a6
  have ca:(m.getD k []).length=d:=hlen _ (getD_mem' [] m c6);have cv:∃ y,RowV a3 (if k=0 then .slice none 0 0 else(ps.getD (k-1) z0).1) y/\(y=[]∨y.length=(m.getD k []).length)/\shr y (m.getD k [])=stp (m.take k) (m.getD k []):=by
   by_cases e:k=0
   .subst e;rw[if_pos rfl];exact⟨[],RowV.nil _ _ _,.inl rfl,by rw[Jyf];rfl⟩
   rw[if_neg e];have d3:k-1<n:=om
   refine⟨m.getD (k-1) [],by rw[ay];exact bu _ (Vv hn d3) a3 a6,.inr (by rw[ca];exact hlen _ (getD_mem' [] m om)),?_⟩;have e2:(m.take k).getLast?=some (m.getD (k-1) []):=by
    rw[List.getLast?_eq_getElem?,List.length_take,Nat.min_eq_left om,List.getElem?_take,if_pos om,Qn [] m om,List.getElem?_eq_getElem om]
   unfold stp;rw[e2]
  obtain⟨y,d7,d6,d5⟩:=cv;have aw:m.take (k+1)=m.take k++[m.getD k []]:=Xy [] c6;have ai:Lt [] (m.take k++[m.getD k []]):=by rw[<-aw];exact List.Pairwise.sublist (List.take_sublist _ _) hlt
  have a4:∀ r∈m.take k++[m.getD k []],r.length=d:=by rw[<-aw];exactλr hr=>hlen r (List.mem_of_mem_take hr)
  refine ρ ?_;refine ix k bj lk ?_;refine ρ ?_;refine ld (Ib bj hn lk) ?_;refine ρ ?_;refine drN (λ_=>False) 4 [(0,0),(0,1),(0,2),(0,3),(1,4),(2,5)] kr ?_;have aa:Ext a3 a3.drew:=(Ext.refl a3).drew;have bs:=a1.trans (GrN.ext aa);have an:=Ju a2 bs b6;refine ρn ?_;refine Yc (cs:=[.slice A d d]) (λw' hg j u hu=>(Ju an hg (λe=>e)).at hu) ?_;refine ρn ?_;refine nop ?_;refine cl (Qzz (d7.ext aa) (cq.ext aa) d6) ?_;rintro u ao ⟨rfl,bf⟩;refine ρ ?_;refine Ql (GrN.ext bf) ?_;rw[d5];have ah:=aa.trans bf;have bd:=bz.ext ah;have D:=a1.trans (GrN.ext ah);have bo:Off (Zr A d vv fv) ao (λu=>RowV u (ps.getD k z0).1 (m.getD k [])):=λu hu=>by
   rw[ay];exact bu _ (Vv hn lk) u ((D.mono λj _ Z=>bv j Z).trans (hu.mono λj _ Z=>bv j (a9 j Z)))
  refine Xt ?_;refine cl (Qkg (s:=stp (m.take k) (m.getD k [])) bd bo ca hd (by have:=Qwd (rs:=m.take k) (x:=m.getD k []);omega) ?_ ?_) ?_
  .have h1:=F.size;have h2:=G.size;have h3:=D.size;omega
  .intro l O;have h1:=Jnz (rs:=m.take k) l;rw[List.length_take]at h1;have h2:=b3 l O;omega
  rintro u c4 ⟨d1,ac,e5,az,cu⟩;refine ρ ?_;refine Xj (k+1) d1 ac (by repeat' (first|exact Sub.nil|refine Sub.cons (by first|rfl|(refine congrArg (λz=>some (Value.int .i64 z)) ?_;omega)|(rw[if_neg (Nat.succ_ne_zero k)];rfl)) ?_)) ⟨om,⟨_,e5.congr (vs':=lvl (m.take (k+1))) (λl O=>?_) (λl O=>rfl),λl O=>?_,λl O=>?_⟩,D.trans (az.mono λj _ Z=>a9 j Z),λj Z=>?_⟩ om
  .rw[aw,Jnx ai a4 O];by_cases e:stp (m.take k) (m.getD k [])<=l
   .rw[if_pos e,if_neg om]
   rw[if_neg e,if_pos om]
  .rw[aw,Jnx ai a4 O];by_cases e:stp (m.take k) (m.getD k [])<=l
   .rw[if_pos e,if_neg (show¬ l+1<=stp (m.take k) (m.getD k []) by omega),List.length_append,List.length_append,b3 l O];rfl
   rw[if_neg e,if_pos om];exact b3 l O
  .rw[aw];by_cases e:stp (m.take k) (m.getD k [])<=l
   .rw[if_pos e,if_pos O,Jjd];exact(am l O).more ai a4 e
   rw[if_neg e];exact(am l O).keep ai a4 om
  rcases cu j Z with h'|h'
  .exact a9 j h'
  rw[hM];have h1:=F.size;have h2:=G.size;have h3:=D.size;have h4:=a2.lt;exact⟨om,by rw[b9];exact .inr om,om⟩
 have ek:k=n:=by have:=oF h;omega
 subst ek;rw[List.take_of_length_le om]at bz b3 am;have an:=Ju a2 a1 b6;refine ρ ?_;refine ld (an.at (i:=0) rfl) ?_;refine ρ ?_;refine Qw (fun (k:Nat) (fv:Nat->Value)=>[(4,.pointer (some ⟨b2,0,none⟩)),(10,.pointer (some ⟨b8,0,none⟩)),(69,.int .i64 (d:Int)),(70,.int .i64 (k:Int))])
  (λq ac w'=>q<=d/\TriB w' w6.heap.size A d vv ac (lvl m) (λl=>if l<q then fs l++[if l+1<d then(lvl m (l+1)).length else 0] else fs l)/\GrN M ap w'/\∀ j,Zr A d vv ac j->M j) (λq _=>d-q) 0 fv sB
  ⟨Nat.zero_le _,bz.congr (λl O=>rfl) (λl O=>by rw[if_neg om]),a1,a9⟩ ?_
 clear an a9 a6 a1;rintro q ac ao ⟨hq,bd,D,ak⟩;refine ρ ?_;refine ci (λh=>?_) (λh=>?_)
 .have lq:q<d:=by have:=oT h;omega
  clear h;have e8:=b3 q lq;have em:=Jnz (rs:=m) q;obtain⟨own,a8⟩:∃ own,own=(ac q).ownBlock:=⟨_,rfl⟩;have bq:∀ j,own=some j->M j:=λj ej=>ak j (.inr ⟨q,lq,.inr (by rw[<-a8];exact ej)⟩);refine ρ ?_;refine drN (one own) 4 [(0,0),(0,1),(0,2),(0,3),(0,4),(0,5),(0,6),(0,7),(0,8),(0,9),(0,10),(0,11),(1,12),(1,13),(1,14),(0,15),(0,16),(2,17)] kr ?_;have aa:Ext ao ao.drew:=(Ext.refl ao).drew;have J:=bd.ext aa;have a5:=D.trans (GrN.ext aa);have b7:=Ju a2 a5 b6;have nb:¬ one own b8:=λe=>b6 (bq b8 e);have d2:¬ one own (adr A (q*2)).block:=by
   obtain⟨ad,e,_⟩:=J.rd.isome om om;subst e;simp only[adr,Option.getD_some,Yn];intro h';exact Im J.lev (J.fst.own q lq) rfl rfl (by rw[<-a8];exact h')
  refine ρn ?_;refine nld (Qh (b7.at (i:=0) rfl) nb) ?_;refine ρn ?_;refine nld (Qh (b7.at (i:=0) rfl) nb) ?_;refine ρn ?_;refine Vu 2 q J.rd lq ?_;refine ρn ?_;refine nld (Qh (J.f1 lq) (by rw[Yn];exact d2)) ?_;refine ρn ?_;refine Yc (cs:=[.slice A d d]) (λw' hg j u hu=>(Ju b7 hg nb).at hu) ?_;refine ρn ?_;refine nop ?_;refine cl (Jvw (l:=q+1) (li:=(q:Int)+1) J.rd (λl O=>by obtain⟨B,c,e,_⟩:=J.vform O;exact⟨B,c,e⟩) om hd) ?_;rintro u c4 ⟨rfl,af⟩;refine ρ ?_;refine Ql (GrN.ext af) ?_;obtain⟨nn,cg⟩:∃ nn:Nat,nn=if q+1<d then(lvl m (q+1)).length else 0:=⟨_,rfl⟩
  rw[<-cg];refine nop ?_;refine bsl (bs1Int' (nn:Int)) ?_;intro eb eo be e9 cn;refine ρ ?_;refine Ql (GrN.ext be) ?_;have U:=af.trans be;have bc:=J.ext U;have bh:=bc.fst.own q lq;rw[if_neg (show¬ q<q by omega)]at bh;refine nop ?_;refine apb (base:=w6.heap.size) EI bh (cn.rd (n:=1) rfl) (λu hu=>by rw[List.mem_singleton.1 hu];rfl) (by unfold maxLen;omega) om ?_ ?_
  .have h1:=F.size;have h2:=G.size;have h3:=a5.size;have h4:=U.size;omega
  intro c5 ea bg aj bi;refine ρ ?_;refine Ql (GrN.by aj λj ej=>by rw[<-a8]at ej;exact ej) ?_;have er:Jt (nz (fs q))++[.int .i64 (nn:Int)]=Jt (nz (fs q++[nn])):=by simp[Jt,nz]
  have el:(fs q).length+1=(fs q++[nn]).length:=by simp
  rw[er,el]at bg;obtain⟨c1,c2,c3,e4,co⟩:=bc.setF lq bg aj bi;have e3:=Zw bc.lev (bc.fst.own q lq) aj rfl;refine ρn ?_;refine Vu 2 q (Rd.own e3) lq ?_;refine ρn ?_;refine Xt ?_;refine sto c1 c2 ?_ (hv:=c3);refine ρ ?_;have du:∀ g,c5.ownBlock=some g->M g:=λg eg=>by
   rcases bi g eg with h'|h'
   .exact bq g (by rw[a8];exact h')
   rw[hM];have h1:=F.size;have h2:=G.size;have h3:=a5.size;have h4:=U.size;have h5:=a2.lt;exact⟨om,by rw[b9];exact .inr om,om⟩
  refine Ja (q+1) (upd ac q c5) sO ⟨om,e4.congr (λl O=>rfl) (λl O=>?_),?_,Jmz (M:=M) ak lq du⟩ om
  .by_cases e:l=q
   .subst e;rw[Qy,if_pos (show l<l+1 by omega),cg]
   rw[Jp _ _ e];by_cases e2:l<q
   .rw[if_pos e2,if_pos (show l<q+1 by omega)]
   rw[if_neg e2,if_neg (show¬ l<q+1 by omega)]
  exact((a5.trans (GrN.ext U)).trans (GrN.by aj λj ej=>bq j (by rw[a8];exact ej))).trans (GrN.by co λj ej=>ak j (.inl ej))
 have eq:q=d:=by have:=oF h;omega
 subst eq;have cw:=Ju a2 D b6;have cx:=Ju cy D cr;refine ρ ?_;refine ldW cw ?_;refine ρ ?_;refine stb cx ?_ (one1 (A:=A) (n:=q) (c:=q));intro c4 bw az af;refine ρ ?_;have bm:Ext w ao:=D.old bn λj Z=>by rw[hM]at Z;exact nL ar.size Z.1
 refine Zo bw ⟨af w bm (nL cd.size dk),_,rfl,⟨A,rfl⟩,?_⟩;have ce:=bd.off (N:=λj=>j<w.heap.size∨j=b2) (λl O=>?_) (λj Z ax=>?_)
 .refine(ce.grown az (λj ej=>.inr (by injection ej with ej;exact ej.symm))).mono λj _ Z=>.inl Z
 .rw[if_pos (show l<q by omega),if_pos O,Jjd];exact(am l O).close
 have h1:=ak j Z;rcases ax with h'|h'
 .rw[hM]at h1;have:=ar.size;omega
 subst h';exact cr h1
end Go.Proofs.YtebiphhfkdbpfaaGreat
namespace Go.Wk
open Go.RowKit
variable {a:Act}{cs us:List Value}{g j m n o:Nat}{i x y:Operand}{p:Option Addr}{k:TK}{e t t2:TypeId}{u v:Value}{w:World}
section
variable {N:Nat->Prop} {P:Program} {n:Nat} {al:AL} {w:World} {Q:Exit->Act->World->Prop} {ops:Array Oper} {rest:List Oper} {drest:List (Nat×Oper)}
variable {d ty:Nat} {op:Op} {pos:String} {aft:Array Edge} {tt:TT}
theorem Jlb(hT:TOk P tt)(ht:tk tt t=some k)(hk:k.desc=.pointer e)(ha:Fr n al a)(hx:ev al x=some (.pointer p))(dst:Option Nat)(w:World):
  (execOp a.eval ⟨dst,.binOp .eql t x (.const (.pointer none)) t2,ty,pos,aft,none⟩).run P w=.ok (.value (.bool p.isNone)) w:=by
 have i:=Yr hT ht hk rfl;have h:∀ d:Nat,(Op.equalIn (d+1) t (.pointer p) (.pointer none)).run P w=.ok p.isNone w:=λd=>by cases p<;>simp[Op.equalIn,run_underlying i]
 have j:a.eval (.const (.pointer none))=.pointer none:=rfl;simp[execOp,ha.ev hx,j,eqGuard,binOp,Op.equal,Op.maxDepth,h 9999]
theorem Qwx(hT:TOk P tt)(ht:tk tt t=some k)(hk:k.desc=.pointer e)(ha:Fr n al a)(hx:ev al x=some (.pointer p))(dst:Option Nat)(w:World):
  (execOp a.eval ⟨dst,.binOp .neq t x (.const (.pointer none)) t2,ty,pos,aft,none⟩).run P w=.ok (.value (.bool (!p.isNone))) w:=by
 have i:=Yr hT ht hk rfl;have h:∀ d:Nat,(Op.equalIn (d+1) t (.pointer p) (.pointer none)).run P w=.ok p.isNone w:=λd=>by cases p<;>simp[Op.equalIn,run_underlying i]
 have j:a.eval (.const (.pointer none))=.pointer none:=rfl;simp[execOp,ha.ev hx,j,eqGuard,binOp,Op.equal,Op.maxDepth,h 9999]
theorem pnl[h:Tab P tt](kk:WL P n ops Q rest ((d,.bool p.isNone)::al) w)(ht:tk tt t=some k:=by rfl)(hk:k.desc=.pointer e:=by rfl)(hx:ev al x=some (.pointer p):=by rfl)(hd:Nat.blt d n=true:=by rfl):
  WL P n ops Q (⟨some d,.binOp .eql t x (.const (.pointer none)) t2,ty,pos,aft,none⟩::rest) al w:=wop hd (λa i=>Jlb h.ok ht hk i hx (some d) w) kk
theorem dpnl[h:Tab P tt](kk:WD P n ops Q drest ((d,.bool p.isNone)::al) w)(ht:tk tt t=some k:=by rfl)(hk:k.desc=.pointer e:=by rfl)(hx:ev al x=some (.pointer p):=by rfl)(hd:Nat.blt d n=true:=by rfl):
  WD P n ops Q ((0,⟨some d,.binOp .eql t x (.const (.pointer none)) t2,ty,pos,aft,none⟩)::drest) al w:=dy (λw' _ a i=>Jlb h.ok ht hk i hx (some d) w') hd kk
theorem dpnn[h:Tab P tt](kk:WD P n ops Q drest ((d,.bool (!p.isNone))::al) w)(ht:tk tt t=some k:=by rfl)(hk:k.desc=.pointer e:=by rfl)(hx:ev al x=some (.pointer p):=by rfl)(hd:Nat.blt d n=true:=by rfl):
  WD P n ops Q ((0,⟨some d,.binOp .neq t x (.const (.pointer none)) t2,ty,pos,aft,none⟩)::drest) al w:=dy (λw' _ a i=>Qwx h.ok ht hk i hx (some d) w') hd kk
theorem nixa[h:Tab P tt]{t e:Nat}{p:Addr}{kd:IntKind}{z:Int}(j:Nat)(hlt:j<m)(kk:WN N P n ops Q drest ((d,.pointer (some (p.add (j*k.esz))))::al) w)(ht:tk tt t=some k:=by rfl)(hk:k.desc=.array m e:=by rfl)(hx:ev al x=some (.pointer (some p)):=by rfl)(hi:ev al i=some (.int kd z):=by rfl)(hj:z=(j:Int):=by first|rfl|omega)(hd:Nat.blt d n=true:=by rfl): WN N P n ops Q ((0,⟨some d,.indexAddr t x i,ty,pos,aft,none⟩)::drest) al w :=
 ny_ (λw' _ a u=>Jld h.ok j ht hk hlt u hx hi hj (some d) w') hd kk
theorem stB[h:Tab P tt]{t bt:Nat}{p:Addr}(hb:Blk w g bt cs)(ho:o+us.length<=cs.length)(h1:∀ u∈us,u.oneCell'=true)(kk:∀ w1,Blk w1 g bt (cs.take o++us++cs.drop (o+us.length))->w.grownBy w1 (some g)->WL P n ops Q rest al w1)(ht:tk tt t=some k:=by rfl)(hk:k.desc=.invalid:=by rfl)(hs:k.size=us.length:=by rfl)(hx:ev al x=some (.pointer (some p)):=by rfl)(hp:p=⟨g,o,none⟩:=by rfl)(hy:ev al y=some (.agg us.toArray):=by rfl):
  WL P n ops Q (⟨none,.store t x y,ty,pos,aft,none⟩::rest) al w:=by
 subst hp;have F:=Jjj w g (cs.take o++us++cs.drop (o+us.length)).toArray;have i:=run_storeCells_at (P:=P) g o bt us 0 cs.toArray w hb (by simpa using ho) h1;simp only[Nat.add_zero]at i;refine Ko (λa D=>?_) (kk (w.setRow g (cs.take o++us++cs.drop (o+us.length)).toArray) (setRow_heap w g _ _ _ _ hb) F);have j:=Vz w (Jqj h.ok ht hk w).2;simp[execOp,D.ev hx,D.ev hy,Instr.storeAt,Instr.sureAddr,storeVar,Value.cells,j,hs,i]
end
theorem Qxf{P:Program}{al:AL}{Q Q':Exit->Act->World->Prop}{ops:Array Oper}{α β:Type}{d:Code}{l:List Oper}(fr:α->β->AL)(I:α->β->World->Prop)(h1:WL P n ops (Exit.then (λa w=>∃ x y,Fr n (fr x y) a/\I x y w) Q) l al w)(h2:∀ x y w,I x y w->WC P n d Q' (fr x y) w): WL P n ops (Exit.then (d.wp P Q') Q) l al w:=by
 intro a j;refine Jzm ?_ l a w (h1 a j);intro e F w' i;cases e with
 | normal=>obtain⟨x,y,D,u⟩:=i;exact h2 x y w' u F D
 | exit id=>exact i
 | goto l=>exact i
 | ret=>exact i
 | panic c=>exact i
 | outgrown=>exact i
theorem seg2(h:o+2<=cs.length): cs.take o++[u,v]++cs.drop (o+2)=(cs.set o u).set (o+1) v:=by
 apply List.ext_getElem?
 intro i;rw[List.getElem?_set,List.getElem?_set,List.append_assoc];grind
theorem Blk.sub(h:Blk w g t cs){i:Nat}(hv:cs[i+j]?=some v): w.cell? ((⟨g,i,none⟩:Addr).add j)=some v:=by rw[Zu,h.cell];exact hv
end Go.Wk
namespace Go.Proofs.YtebiphhfkdbpfaaGreat
open Go.RowKit Pl Go.Wk
attribute [local irreducible] WC WL QX WD WDB WP WN
variable {d k:Nat}
def itC(A:Option Addr)(d L p e:Nat)(f h:Nat->Nat)(st:Int): List Value:=[.slice A d d,.int .i64 (L:Int),.int .i64 (p:Int),.int .i64 (e:Int)]++Xh 32 (λk=>.int .i64 (f k:Int)) (λk=>.int .i64 (h k:Int))++[.int .i64 st]
theorem Jwg(A:Option Addr)(d L p e:Nat)(f h:Nat->Nat)(st:Int): (itC A d L p e f h st).length=69:=by grind [itC,List.length_append,Zd]
theorem Jcf(A:Option Addr)(d L p e:Nat)(f h:Nat->Nat)(st:Int): (itC A d L p e f h st)[68]?=some (.int .i64 st):=by grind [itC,List.getElem?_append_right,List.length_append,Zd]
theorem Qhw(A:Option Addr)(d L p e:Nat)(f h:Nat->Nat)(st st':Int): (itC A d L p e f h st).set 68 (.int .i64 st')=itC A d L p e f h st':=by
 unfold itC;rw[List.set_append_right _ _ (by rw[List.length_append,Zd];simp),List.length_append,Zd];rfl
theorem Qhz(A:Option Addr)(d L p e:Nat)(f h:Nat->Nat)(st:Int)(hk:k<32): (itC A d L p e f h st)[4+k*2]?=some (.int .i64 (f k:Int))/\(itC A d L p e f h st)[4+k*2+1]?=some (.int .i64 (h k:Int)):=by grind [Uz,itC,List.getElem?_append_left,List.length_append,Zd,List.getElem?_append_right]
theorem Jgs(f:Nat->Nat)(k x:Nat): (λj=>Value.int .i64 ((upd f k x j:Nat):Int))=upd (λj=>Value.int .i64 (f j:Int)) k (.int .i64 (x:Int)):=by
 funext j;unfold upd;split<;>rfl
theorem Qhx(A:Option Addr)(d L p e:Nat)(f h:Nat->Nat)(st:Int)(hk:k<32)(x y:Nat): ((itC A d L p e f h st).set (4+k*2) (.int .i64 (x:Int))).set (4+k*2+1) (.int .i64 (y:Int))=itC A d L p e (upd f k x) (upd h k y) st:=by
 unfold itC;have j:∀(X:List Value),([Value.slice A d d,.int .i64 (L:Int),.int .i64 (p:Int),.int .i64 (e:Int)]++X).set (4+k*2) (.int .i64 (x:Int))=[Value.slice A d d,.int .i64 (L:Int),.int .i64 (p:Int),.int .i64 (e:Int)]++X.set (k*2) (.int .i64 (x:Int)):=λX=>by grind
 have i:∀(X:List Value),([Value.slice A d d,.int .i64 (L:Int),.int .i64 (p:Int),.int .i64 (e:Int)]++X).set (4+k*2+1) (.int .i64 (y:Int))=[Value.slice A d d,.int .i64 (L:Int),.int .i64 (p:Int),.int .i64 (e:Int)]++X.set (k*2+1) (.int .i64 (y:Int)):=λX=>by grind
 rw[List.set_append_left _ _ (by grind [List.length_append,Zd]),j,Jsd _ _ _ hk,List.set_append_left _ _ (by grind [List.length_append,Zd]),i,Jsc _ _ _ hk,Jgs,Jgs]
abbrev ItB(w:World)(g:Nat)(A:Option Addr)(d L p e:Nat)(f h:Nat->Nat)(st:Int): Prop:=Blk w g 224 (itC A d L p e f h st)
def TriA(w:World)(A:Option Addr)(d:Nat)(rs:List Row): Prop:=∃(vv fv:Nat->Value) (fs:Nat->List Nat),Rd w 2 A d (Xh d vv fv)/\(∀ l,l<d->∃ B c,vv l=.slice B (lvl rs l).length c/\RdR w B (lvl rs l)) /\
 (∀ l,l<d->∃ B c,fv l=.slice B (fs l).length c/\Rd w 1 B (fs l).length (Jt (nz (fs l))))/\∀ l,l+1<d->Chl rs l (fs l)
theorem TriV.a{w:World}{A:Option Addr}{rs:List Row}(h:TriV w (.agg #[.slice A d d]) d rs): TriA w A d rs:=by
 obtain⟨u,vv,fv,fs,i,j⟩:=h;injection i with i
 have:Value.slice A d d=.slice u d d:=by simpa using i
 injection this with i
 subst i;exact⟨vv,fv,fs,j⟩
theorem TriA.ext{w w':World}{A:Option Addr}{d:Nat}{rs:List Row}(h:TriA w A d rs)(hx:Ext w w'): TriA w' A d rs:=by
 obtain⟨vv,fv,fs,u,D,y,j⟩:=h;refine⟨vv,fv,fs,u.ext hx,λl i=>?_,λl i=>?_,j⟩;repeat grind [Rd.ext]
section
variable {w:World} {g:Nat} {A:Option Addr} {d L p e:Nat} {f h:Nat->Nat} {st:Int}
theorem Ir(hB:ItB w g A d L p e f h st): Ret Tryz.prog 168 [.pointer (some ⟨g,0,none⟩)] w λu w'=>u=.bool (decide (0<L/\p<e))/\Ext w w':=by
 refine Jz Tryz.func168 Tryz.ntmps168 rfl kr rfl ?_;refine ρ ?_;refine dr [(0,0),(0,1),(0,2),(0,3),(0,4),(0,5),(0,6),(0,7),(0,8),(0,9),(0,10),(0,11),(0,12),(0,13),(0,14),(0,15),(0,16),(0,17),(0,18),(0,19),(0,20),(0,21),(0,22)] kr ?_;have y:Ext w w.drew:=(Ext.refl w).drew;have j:=hB.ext y;refine ρd ?_;refine dpnn ?_;refine ρd ?_;refine dld (j.at (i:=1) rfl) ?_;refine ρd ?_;refine dki 12 (λD=>?_) (λD=>?_)
 .have F:0<L:=by have:=oT D;omega
  refine ρd ?_;refine dld (j.at (i:=2) rfl) ?_;refine ρd ?_;refine dld (j.at (i:=3) rfl) ?_;refine ρd ?_;refine ρ ?_;refine Jq ⟨?_,y⟩;congr 1
  grind
 have F:¬ 0<L:=by have:=oF D;omega
 refine ρd ?_;refine ρ ?_;refine Jq ⟨?_,y⟩;grind
end
open Go.RowKit Pl Go.Wk
variable {qi:Int}{j k q:Nat}
theorem Jjv: Xz Tryz.prog 75=some V0.val:=kr
section
variable {w:World} {g:Nat} {A:Option Addr} {d L p e:Nat} {f h:Nat->Nat} {st:Int} {rs:List Row}
theorem Jpv(hB:ItB w g A d L p e f h st)(hT:TriA w A d rs)(hL:0<L)(hLd:L<=d)(hd:d<=32)(hq:q<(lvl rs (L-1)).length)(hqi:qi=(q:Int)): Ret Tryz.prog 171 [.pointer (some ⟨g,0,none⟩),.int .i64 qi] w λu w'=>u=((lvl rs (L-1)).getD q V0).val/\Ext w w':=by
 subst hqi;obtain⟨vv,fv,fs,hR,hv,hf,hc⟩:=hT;have J:L-1<d:=om
 obtain⟨B,c,Z,a2⟩:=hv (L-1) J;refine Jz Tryz.func171 Tryz.ntmps171 rfl kr rfl ?_;refine ρ ?_;refine alc (cs:=V0.cells) Jjv ?_;intro w1 b U hb a3;refine ρ ?_;refine drN (λ_=>False) 4 [(0,0),(0,1),(0,2),(0,3),(0,4),(0,5),(0,6),(0,7),(0,8),(0,9),(0,10),(0,11),(0,12),(0,13),(0,14),(0,15),(2,16)] kr ?_;have y:=U.drew;have G:=hB.ext y;have F:=hR.ext y;have D:RdR _ B (lvl rs (L-1)):=Rd.ext a2 y;have a1:w1.drew.cell? ((adr A ((L-1)*2)).add 0)=some (vv (L-1)):=by rw[add_zero];exact F.cell (Uz d vv fv J).1
 refine ρn ?_;refine nld (Qh (G.at (i:=0) rfl) (λe=>e)) ?_;refine ρn ?_;refine nld (Qh (G.at (i:=1) rfl) (λe=>e)) ?_;refine ρn ?_;refine Vu 2 (L-1) F J ?_;refine ρn ?_;refine nld (Qh a1 (λe=>e)) ?_;rw[Z];refine ρn ?_;refine Vu 3 q D hq ?_;refine ρn ?_;refine Yc (cs:=((lvl rs (L-1)).getD q V0).cells) (λw' hg j u hu=>RdR.cell (Rd.ext D hg.toExt) hq hu) ?_;refine ρn ?_;refine Xt ?_;refine stb (cs':=((lvl rs (L-1)).getD q V0).cells) (a3.ext (Ext.refl w1).drew) ?_ (V.one _);intro w2 a4 a5 O;refine ρ ?_;exact Zv a4 ⟨rfl,O w y hb⟩
theorem Jcc{v:V}(hB:ItB w g A d L p e f h st)(hT:Off (λk=>k=g) w (λu=>TriA u A d rs))(hL:0<L)(hLd:L<=d)(hd:d<=32)(hq:q<(lvl rs (L-1)).length)(hqi:qi=(q:Int)): Ret Tryz.prog 180 [.pointer (some ⟨g,0,none⟩),.int .i64 qi,v.val] w λu w'=>u=.bool (decide (cmpV ((lvl rs (L-1)).getD q V0) v<0))/\GrN (λk=>k=g) w w'/\∃ st',ItB w' g A d L p e f h st':=by
 refine Jz Tryz.func180 Tryz.ntmps180 rfl kr rfl ?_;refine ρ ?_;refine bx (cs:=v.cells) ?_;intro w1 b U hb a3;have D:=hB.ext U;refine ρ ?_;refine ld (D.at (i:=68) (Jcf _ _ _ _ _ _ _ _)) ?_;refine ρ ?_;have a4:w1.cell? ⟨g,0+68,none⟩=some (.int .i64 st):=by rw[D.cell];exact Jcf _ _ _ _ _ _ _ _
 refine sto a4 (D.frozen _) ?_;obtain⟨st',Z⟩:∃ st':Int,st'=IntKind.i64.wrap (st+1):=⟨_,rfl⟩;rw[<-Z];have G:=D.set (0+68) (.int .i64 st');rw[show(0:Nat)+68=68 from rfl,Qhw]at G;have a1:GrN (λk=>k=g) w (w1.setCell ⟨g,68,none⟩ (.int .i64 st')):=(GrN.ext U).trans (GrN.set _ rfl);have a2:Blk (w1.setCell ⟨g,68,none⟩ (.int .i64 st')) b 75 v.cells:=a3.far (by simp only;have:=hB.lt;omega) _;refine ρ ?_;generalize hw2:w1.setCell ⟨g,68,none⟩ (.int .i64 st')=w2 at *
 refine dr [(0,0),(0,1),(0,3),(1,2),(1,4),(0,5),(0,6)] kr ?_;have y:Ext w2 w2.drew:=(Ext.refl w2).drew;refine ρd ?_;refine Qq (cs:=v.cells) (λj u hu=>(a2.ext y).at hu) ?_;refine ρd ?_;refine dcl (Jpv (G.ext y) (hT _ (a1.trans (GrN.ext y))) hL hLd hd hq hqi) ?_;rintro u w3 ⟨rfl,O⟩;refine⟨O,?_⟩;refine ρd ?_;refine dcl (Jzq _ v _) ?_;rintro u w4 ⟨rfl,J⟩;refine⟨J,?_⟩;refine ρd ?_;refine ρ ?_;have F:=(y.trans O).trans J;exact Jq ⟨rfl,a1.trans (GrN.ext F),st',G.ext F⟩
theorem Jcd(hB:ItB w g A d L p e f h st)(hT:TriA w A d rs)(hLd:L<=d)(hd:d<=32)(he:0<L->e<=(lvl rs (L-1)).length): Ret Tryz.prog 143 [.pointer (some ⟨g,0,none⟩)] w λu w'=>Ext w w'/\∃ v:V,u=.tuple #[v.val,.bool (decide (0<L/\p<e))]/\(0<L/\p<e->v=(lvl rs (L-1)).getD p V0):=by
 refine Jz Tryz.func143 Tryz.ntmps143 rfl kr rfl ?_;refine ρ ?_;refine alc (cs:=V0.cells) Jjv ?_;intro w1 b G hb O;refine ρ ?_;refine cl (Ir (hB.ext G)) ?_;rintro u w2 ⟨rfl,F⟩;have j:=G.trans F;refine ρ ?_;refine ci (λh1=>?_) (λh1=>?_)
 .have J:¬ (0<L/\p<e):=by grind
  refine ρ ?_;refine bld (v:=V0.val) kr ?_;refine ρ ?_;refine stb (cs':=V0.cells) (O.ext F) ?_ (V.one _);intro w3 a2 a4 D;refine ρ ?_;refine Zo a2 ⟨D w j hb,V0,?_,λh'=>absurd h' J⟩;rw[decide_eq_false J];rfl
 have y:0<L/\p<e:=by grind
 have U:=hB.ext j;refine ρ ?_;refine ld (U.at (i:=2) rfl) ?_;refine ρ ?_;refine cl (Jpv (q:=p) (qi:=(p:Int)) U (hT.ext j) y.1 hLd hd (by have:=he y.1;omega) rfl) ?_;rintro u w3 ⟨rfl,D⟩;refine ρ ?_;refine stb (cs':=((lvl rs (L-1)).getD p V0).cells) ((O.ext F).ext D) ?_ (V.one _);intro w4 a1 a3 Z;refine ρ ?_;refine Zo a1 ⟨Z w (j.trans D) hb,_,?_,λ_=>rfl⟩;rw[decide_eq_true y];rfl
theorem Qhv(hB:ItB w g A d L p e f h st)(hL:0<L)(hp:p<e)(hpe:e<=1000000): Ret Tryz.prog 142 [.pointer (some ⟨g,0,none⟩)] w λu w'=>u=.bool (decide (p+1<e))/\GrN (λk=>k=g) w w'/\ItB w' g A d L (p+1) e f h st:=by
 refine Jz Tryz.func142 Tryz.ntmps142 rfl kr rfl ?_;refine ρ ?_;refine cl (Ir hB) ?_;rintro u w1 ⟨rfl,D⟩;refine ρ ?_;refine cf ?_ ?_
 .simp[hL,hp]
 have j:=hB.ext D;refine ρ ?_;refine ld (j.at (i:=2) rfl) ?_;refine ρ ?_;refine sto (p:=⟨g,2,none⟩) (j.cell 2) (j.frozen _) ?_;have F:ItB (w1.setCell ⟨g,2,none⟩ (.int .i64 ((p:Int)+1))) g A d L (p+1) e f h st:=by
  have:=j.set 2 (.int .i64 ((p:Int)+1));exact this
 have G:GrN (λk=>k=g) w (w1.setCell ⟨g,2,none⟩ (.int .i64 ((p:Int)+1))):=(GrN.ext D).trans (GrN.set _ rfl);refine ρ ?_;refine cl (Ir F) ?_;rintro u J ⟨rfl,y⟩;refine ρ ?_;refine Jq ⟨?_,G.trans (GrN.ext y),F.ext y⟩;grind
theorem Qsv(hB:ItB w g A d L p e f h st)(hk:k<32){u:Value}(hu:[Value.int .i64 (f k:Int),.int .i64 (h k:Int)][j]?=some u): w.cell? (((⟨g,0+4,none⟩:Addr).add (k*2)).add j)=some u:=by
 have i:=Qhz A d L p e f h st hk;rw[Zu,Zu,hB.cell];grind
theorem Qhq(hB:ItB w g A d (L+1) p e f h st)(hL:L<32): Ret Tryz.prog 144 [.pointer (some ⟨g,0,none⟩)] w λu w'=>GrN (λk=>k=g) w w'/\ItB w' g A d L (f L) (h L) f h st:=by
 refine Jz Tryz.func144 Tryz.ntmps144 rfl kr rfl ?_;refine ρ ?_;refine pnl ?_;refine ρ ?_;refine ld (hB.at (i:=1) rfl) ?_;refine ρ ?_;refine ld (hB.at (i:=1) rfl) ?_;refine ρ ?_;refine sto (p:=⟨g,1,none⟩) (hB.cell 1) (hB.frozen _) ?_;have eL:((L+1:Nat):Int)-1=(L:Int):=om
 rw[eL];have U:ItB (w.setCell ⟨g,1,none⟩ (.int .i64 (L:Int))) g A d L p e f h st:=hB.set 1 (.int .i64 (L:Int));have J:GrN (λk=>k=g) w (w.setCell ⟨g,1,none⟩ (.int .i64 (L:Int))):=GrN.set _ rfl;refine ρ ?_;generalize w.setCell ⟨g,1,none⟩ (.int .i64 (L:Int))=w2 at *
 refine drN (λ_=>False) 4 [(0,0),(0,1),(0,2),(0,3),(0,4),(0,5),(0,6),(0,7),(0,8),(0,9),(0,10),(0,11),(2,12)] kr ?_;have D:Ext w2 w2.drew:=(Ext.refl w2).drew;have y:=U.ext D;refine ρn ?_;refine nld (Qh (y.at (i:=1) rfl) (λe=>e)) ?_;refine ρn ?_;refine nixa L hL ?_;refine ρn ?_;refine Yc (cs:=[.int .i64 (f L:Int),.int .i64 (h L:Int)]) (λw' Z j u F=>Qsv (Ju y Z (λe=>e)) hL F) ?_;refine ρn ?_;refine Xt ?_;refine stB (o:=2) (us:=[.int .i64 (f L:Int),.int .i64 (h L:Int)]) y (by rw[Jwg];simp) (λu F=>by simp at F;rcases F with rfl|rfl<;>rfl) ?_;intro w4 O G;refine ρ ?_;exact Jq ⟨J.trans ((GrN.ext D).trans (GrN.by G λk e=>by injection e with e;exact e.symm)),O⟩
theorem Qhr(hB:ItB w g A d L p e f h st): Ret Tryz.prog 115 [.pointer (some ⟨g,0,none⟩)] w λu w'=>u=.int .i64 st/\w'=w:=by
 refine Jz Tryz.func115 Tryz.ntmps115 rfl kr rfl ?_;refine ρ ?_;refine pnl ?_;refine ρ ?_;refine ld (hB.at (i:=68) (Jcf _ _ _ _ _ _ _ _)) ?_;refine ρ ?_;exact Jq ⟨rfl,rfl⟩
theorem Qrq(A:Option Addr)(d:Nat)(w:World): (Instr.build 224 #[(0,.agg #[.slice A d d])]).run Tryz.prog w=.ok (.agg (itC A d 0 0 0 (λ_=>0) (λ_=>0) 0).toArray) w:=kr
theorem Qkd(w:World): Ret Tryz.prog 113 [.agg #[.slice A d d]] w λu w'=>Ext w w'/\∃ g,u=.pointer (some ⟨g,0,none⟩)/\w.heap.size<=g/\ItB w' g A d 0 0 0 (λ_=>0) (λ_=>0) 0:=by
 refine Jz Tryz.func113 Tryz.ntmps113 rfl kr rfl ?_;refine ρ ?_;refine bx ?_;intro w1 b i J F;refine ρ ?_;refine ldW F ?_;refine ρ ?_;refine bld (Qrq A d _) ?_;refine ρ ?_;refine bx (cs:=itC A d 0 0 0 (λ_=>0) (λ_=>0) 0) ?_;intro w2 G j y D;refine ρ ?_;exact Jq ⟨i.trans j,G,rfl,Nat.le_trans i.size y,D⟩
end
open Go.RowKit Pl Go.Wk
section
variable {w:World} {g:Nat} {A:Option Addr} {d L p e:Nat} {f h:Nat->Nat} {st:Int} {rs:List Row}
theorem Qhs{v:V}(hB:ItB w g A d L p e f h st)(hT:Off (λk=>k=g) w (λu=>TriA u A d rs))(hL:0<L)(hLd:L<=d)(hd:d<=32)(hpe:p<e)(he:e<=(lvl rs (L-1)).length)(hm:e<=1000000)(hs:∀ i j,p<=i->i<j->j<e->cmpV ((lvl rs (L-1)).getD i V0) ((lvl rs (L-1)).getD j V0)<0):
  Ret Tryz.prog 170 [.pointer (some ⟨g,0,none⟩),v.val] w λu w'=>GrN (λk=>k=g) w w'/\∃ q st',u=.bool (decide (q<e))/\p<=q/\q<=e/\(∀ i,p<=i->i<q->cmpV ((lvl rs (L-1)).getD i V0) v<0)/\(q<e->¬ cmpV ((lvl rs (L-1)).getD q V0) v<0)/\ItB w' g A d L q e f h st':=by
 obtain⟨val,b4⟩:∃ val:Nat->V,val=λi=>(lvl rs (L-1)).getD i V0:=⟨_,rfl⟩;have aa:∀ i,(lvl rs (L-1)).getD i V0=val i:=λi=>by rw[b4]
 simp only[aa]at hs ⊢;have av:∀ {y i:Nat},p<=i->i<=y->y<e->cmpV (val y) v<0->cmpV (val i) v<0:=fun {y i} G h2 h3 h4=>by
  by_cases e':i=y
  .subst e';exact h4
  exact cmp_V.lt_trans (hs i y G om h3) h4
 refine Jz Tryz.func170 Tryz.ntmps170 rfl kr rfl ?_;refine ρ ?_;refine bx (cs:=v.cells) ?_;intro w1 b b3 hb be;have bc:b≠g:=by have:=hB.lt;omega
 have ac:¬ (λk=>k=g) b:=bc;refine ρ ?_;refine cl (Ir (hB.ext b3)) ?_;rintro u w2 ⟨rfl,b2⟩;have ak:=b3.trans b2;have bf:=hB.ext ak;have bd:GrN (λk=>k=g) w w2:=GrN.ext ak;refine ρ ?_;refine cf ?_ ?_
 .simp[hL,hpe]
 refine ρ ?_;refine drN (λ_=>False) 10 [(0,0),(0,1),(0,2),(0,3),(0,4),(0,5),(0,6),(2,7),(2,8)] kr ?_;have an:Ext w2 w2.drew:=(Ext.refl w2).drew;have ar:=bf.ext an;have a7:=(be.ext b2).ext an;have aq:=bd.trans (GrN.ext an);refine ρn ?_;refine nld (Qh (ar.at (i:=2) rfl) (λe=>e)) ?_;refine ρn ?_;refine Yc (cs:=v.cells) (λw' hg j u hu=>(Ju a7 hg (λe=>e)).at hu) ?_;refine ρn ?_;refine Xt ?_;refine cl (Jcc (q:=p) (qi:=(p:Int)) ar (hT.gr aq) hL hLd hd om rfl) ?_;rintro u w4 ⟨rfl,ap,ay,aj⟩;have am:=Ju a7 ap ac;have a4:=aq.trans ap;refine ρ ?_;refine Up ?_;refine Xt ?_;refine ρ ?_;rw[aa];refine ci (λG=>?_) (λG=>?_)
 .have h2:¬ cmpV (val p) v<0:=by simpa using G
  refine ρ ?_;refine Jq ⟨a4,p,ay,by rw[decide_eq_true hpe],Nat.le_refl _,om,λi G h2=>om,λ_=>h2,aj⟩
 have h2:cmpV (val p) v<0:=by simpa using G
 clear G;refine ρ ?_;refine ld (aj.at (i:=2) rfl) ?_;refine ρ ?_;refine Zy (fun (y step:Nat) (st:Int)=>[(0,.pointer (some ⟨g,0,none⟩)),(3,.pointer (some ⟨b,0,none⟩)),(5,.int .i64 (y:Int)),(6,.int .i64 (step:Int))])
  (λy step st w'=>GrN (λk=>k=g) w w'/\ItB w' g A d L p e f h st/\Blk w' b 75 v.cells/\p<=y/\y<e/\cmpV (val y) v<0/\1<=step/\step<=2000000) (λy _ _=>e-y) p 1 ay sB
  ⟨a4,aj,am,Nat.le_refl _,hpe,h2,Nat.le_refl _,om⟩ ?_
 clear aj am a4 ap ar a7 aq;rintro y step b7 w5 ⟨af,ai,J,ad,ba,a1,b9,b8⟩;refine ρ ?_;refine ld (ai.at (i:=3) rfl) ?_;refine ρ ?_;refine Qxf (fun (t:Bool) (st:Int)=>[(0,.pointer (some ⟨g,0,none⟩)),(3,.pointer (some ⟨b,0,none⟩)),(5,.int .i64 (y:Int)),(6,.int .i64 (step:Int)),(42,.bool t)])
  (λt st w'=>GrN (λk=>k=g) w w'/\ItB w' g A d L p e f h st/\Blk w' b 75 v.cells/\(t=true->y+step<e/\cmpV (val (y+step)) v<0)/\(t=false->e<=y+step∨¬ cmpV (val (y+step)) v<0)) ?_ ?_
 .refine ki 35 (λG=>?_) (λG=>?_)
  .have h3:y+step<e:=by have:=oT G;omega
   refine ρ ?_;refine lds (cs:=v.cells) (λj u hu=>J.at hu) ?_;refine ρ ?_;refine cl (Jcc (q:=y+step) (qi:=(y:Int)+(step:Int)) ai (hT.gr af) hL hLd hd om om) ?_;rintro u w6 ⟨rfl,U,a9,Z⟩;refine ρ ?_;rw[aa];refine Xs _ a9 sB ⟨af.trans U,Z,Ju J U ac,λh'=>⟨h3,of_decide_eq_true h'⟩,λh'=>.inr (oF h')⟩
  refine ρ ?_;exact Xs false b7 sB ⟨af,ai,J,λh'=>(by cases h'),λ_=>.inl (by grind)⟩
 clear af ai J;rintro t a9 w6 ⟨U,Z,a6,b6,b5⟩;refine ci (λG=>?_) (λG=>?_)
 .obtain⟨h3,h4⟩:=b6 G;refine ρ ?_;exact Xj (y+step) (step*2) a9 sO ⟨U,Z,a6,om,om,h4,om,om⟩ om
 have h3:=b5 G;clear b6 b5 G;refine ρ ?_;refine ld (Z.at (i:=3) rfl) ?_;refine ρ ?_;have bb:∃ hi:Nat,(if(e:Int)<(y:Int)+(step:Int) then(e:Int) else(y:Int)+(step:Int))=(hi:Int)/\y<hi/\hi<=e/\(hi<e->¬ cmpV (val hi) v<0):=by
  by_cases h4:e<y+step
  repeat grind
 obtain⟨hi,au,ao,a3,a2⟩:=bb;rw[au];refine Zy (fun (y hi:Nat) (st:Int)=>[(0,.pointer (some ⟨g,0,none⟩)),(3,.pointer (some ⟨b,0,none⟩)),(5,.int .i64 (y:Int)),(7,.int .i64 (hi:Int))])
  (λy hi st w'=>GrN (λk=>k=g) w w'/\ItB w' g A d L p e f h st/\Blk w' b 75 v.cells/\p<=y/\cmpV (val y) v<0/\y<hi/\hi<=e/\(hi<e->¬ cmpV (val hi) v<0)) (λy hi _=>hi-y) y hi a9 sB
  ⟨U,Z,a6,ad,a1,ao,a3,a2⟩ ?_
 clear U Z a6 ad ba a1 b9 b8 h3 ao a3 a2 au;rintro D F ax w7 ⟨ae,ah,a5,ad,a1,ao,a3,a2⟩;refine ρ ?_;refine ci (λG=>?_) (λG=>?_)
 .have bh:D+1<F:=by have:=oT G;omega
  refine ρ ?_;refine qn (F-D) 2 ?_;refine ρ ?_;have bg:D<D+(F-D) / 2/\D+(F-D) / 2<F:=om
  generalize hmm:(F-D) / 2=m at *
  refine lds (cs:=v.cells) (λj u hu=>a5.at hu) ?_;refine ρ ?_;refine cl (Jcc (q:=D+m) (qi:=(D:Int)+(m:Int)) ah (hT.gr ae) hL hLd hd om om) ?_;rintro u w8 ⟨rfl,O,aw,a8⟩;refine ρ ?_;rw[aa];refine ci (λh2=>?_) (λh2=>?_)
  .refine ρ ?_;exact Xj (D+m) F aw sO ⟨ae.trans O,a8,Ju a5 O ac,om,of_decide_eq_true h2,om,a3,a2⟩ om
  refine ρ ?_;exact Xj D (D+m) aw sO ⟨ae.trans O,a8,Ju a5 O ac,ad,a1,om,om,λ_=>oF h2⟩ om
 have au:F=D+1:=by have:=oF G;omega
 refine ρ ?_;refine sto (p:=⟨g,2,none⟩) (ah.cell 2) (ah.frozen _) ?_;have a8:ItB (w7.setCell ⟨g,2,none⟩ (.int .i64 (F:Int))) g A d L F e f h ax:=ah.set 2 (.int .i64 (F:Int));have O:GrN (λk=>k=g) w (w7.setCell ⟨g,2,none⟩ (.int .i64 (F:Int))):=ae.trans (GrN.set _ rfl);refine ρ ?_;refine cl (Ir a8) ?_;rintro u w9 ⟨rfl,az⟩;refine ρ ?_;refine Jq ⟨O.trans (GrN.ext az),F,ax,?_,om,a3,λi G h2=>av G (show i<=D by omega) om a1,a2,a8.ext az⟩;grind
end
open Go.RowKit Pl Go.Wk
variable {j:Nat}{u:Value}
theorem Qqs: Xz Tryz.prog 221=some (.agg #[.int .i64 0,.int .i64 0]):=kr
theorem Qjp(x y:Int)(w:World): (Instr.build 221 #[(0,.int .i64 x),(1,.int .i64 y)]).run Tryz.prog w=.ok (.agg #[.int .i64 x,.int .i64 y]) w:=kr
theorem Jkl{x y:Int}: ∀ u∈[Value.int .i64 x,.int .i64 y],u.oneCell'=true:=by intro u i;simp at i;rcases i with rfl|rfl<;>rfl
section
variable {w:World} {g:Nat} {A:Option Addr} {d L p e:Nat} {f h:Nat->Nat} {st:Int} {rs:List Row}
theorem Jgz(w:World): Ret Tryz.prog 169 [.agg #[.slice A d d]] w λu w'=>u=.int .i64 (d:Int)/\Ext w w':=by
 refine Jz Tryz.func169 Tryz.ntmps169 rfl kr rfl ?_;refine ρ ?_;refine bx ?_;intro w1 b j D y;refine ρ ?_;refine ld (y.at (i:=0) rfl) ?_;refine ρ ?_;exact Jq ⟨rfl,j⟩
def Vd(rs:List Row)(L p:Nat): Row:=if L=0 then[] else(pfx rs L).getD p []
theorem Jcb(hB:ItB w g A d L p e f h st)(hu:[Value.slice A d d][j]?=some u): w.cell? (((⟨g,0,none⟩:Addr).add 0).add j)=some u:=by
 match j,hu with
 | 0,hu=>rw[add_zero,add_zero,hB.cell];exact hu
 | j+1,hu=>simp at hu
theorem it_at(hB:ItB w g A d L p e f h st)(hu:[Value.int .i64 (p:Int),.int .i64 (e:Int)][j]?=some u): w.cell? (((⟨g,0,none⟩:Addr).add 2).add j)=some u:=by
 match j,hu with
 | 0,hu=>rw[add_zero,Zu,hB.cell];exact hu
 | 1,hu=>rw[Zu,Zu,hB.cell];exact hu
 | j+2,hu=>simp at hu
theorem Qht(hB:ItB w g A d L p e f h st)(hT:Off (λk=>k=g) w (λu=>TriA u A d rs))(hLd:L<d)(hd:d<=32)(hpe:0<L->p<e/\e<=(pfx rs L).length)(hrs:rs≠[])(hsrt:Srt [] rs)(hm:rs.length<=1000000)(hlen:∀ r∈rs,r.length=d):
  Ret Tryz.prog 140 [.pointer (some ⟨g,0,none⟩)] w λu w'=>u=.bool true/\GrN (λk=>k=g) w w'/\∃ lo hi,lo<hi/\hi<=(pfx rs (L+1)).length/\(∀ i,i<(pfx rs (L+1)).length->(((pfx rs (L+1)).getD i []).take L=Vd rs L p↔lo<=i/\i<hi))/\ItB w' g A d (L+1) lo hi (upd f L p) (upd h L e) st:=by
 refine Jz Tryz.func140 Tryz.ntmps140 rfl kr rfl ?_;refine ρ ?_;refine Qxh [(0,.pointer (some ⟨g,0,none⟩)),(30,.bool false)] (λw'=>Ext w w') ?_ ?_
 .refine dr [(0,0),(0,1),(0,2),(0,3),(0,4),(0,5),(0,6),(0,7),(0,8),(0,9),(1,10),(0,11),(0,12),(0,13),(0,14),(0,15),(0,16),(0,17),(0,18),(0,19),(0,20),(0,21),(0,22),(1,23),(0,24),(0,25)] kr ?_;have O:Ext w w.drew:=(Ext.refl w).drew;have G:=hB.ext O;refine ρd ?_;refine dpnl ?_;refine ρd ?_;refine dld (G.at (i:=1) rfl) ?_;refine ρd ?_;have rest:∀(al:AL) (w2:World),True:=λ_ _=>trivial;refine dki 13 (λh1=>?_) (λh1=>?_)
  .have D:0<L:=by have:=oT h1;omega
   refine ρd ?_;refine dcl (Ir G) ?_;rintro u w2 ⟨rfl,Z⟩;refine⟨Z,?_⟩;have ax:=G.ext Z;refine ρd ?_;refine dkf 19 ?_ ?_
   .have:=hpe D;simp[D,this.1]
   refine ρd ?_;refine dld (ax.at (i:=1) rfl) ?_;refine ρd ?_;refine Qq (cs:=[.slice A d d]) (λj u hu=>Jcb ax hu) ?_;refine ρd ?_;refine dcl (Jgz _) ?_;rintro u w3 ⟨rfl,U⟩;refine⟨U,?_⟩;refine ρd ?_;refine ρ ?_;refine Jmc (Sub.cons rfl (Sub.cons ?_ Sub.nil)) ((O.trans Z).trans U);exact congrArg (λz=>some (Value.bool z)) (dF om)
  have D:L=0:=by have:=oF h1;omega
  refine ρd ?_;refine dld (G.at (i:=1) rfl) ?_;refine ρd ?_;refine Qq (cs:=[.slice A d d]) (λj u hu=>Jcb G hu) ?_;refine ρd ?_;refine dcl (Jgz _) ?_;rintro u w3 ⟨rfl,U⟩;refine⟨U,?_⟩;refine ρd ?_;refine ρ ?_;refine Jmc (Sub.cons rfl (Sub.cons ?_ Sub.nil)) (O.trans U);exact congrArg (λz=>some (Value.bool z)) (dF om)
 intro w1 ac;have a3:=hB.ext ac;obtain⟨vv,fv,fs,hR,hv,hf,hc⟩:=(hT.ext ac).here;have bg:(pfx rs (L+1)).length<=1000000:=by
  have:=Jxv (rs.map (List.take (L+1)));rw[List.length_map]at this;exact nL this hm
 refine ρ ?_;refine lds (cs:=[.slice A d d]) (λj u hu=>Jcb a3 hu) ?_;refine ρ ?_;refine cl (Jvw (l:=0) (vs:=lvl rs) hR (λl hl=>by obtain⟨B,c,e,_⟩:=hv l hl;exact⟨B,c,e⟩) rfl hd) ?_;rintro u w2 ⟨rfl,Z⟩;rw[if_pos (show 0<d by omega),Jjd];refine ρ ?_;refine bld (Qjp _ _ _) ?_;refine ρ ?_;refine alc Qqs ?_;intro w3 b U hb b9;refine ρ ?_;refine stb b9 ?_ (Jkl (x:=0) (y:=((pfx rs (0+1)).length:Int)));intro w4 a6 b4 af;have a1:Ext w1 w4:=(Z.trans (af w2 U hb));have aw:=a3.ext a1;have b2:b≠g:=by have:=a3.lt;have:=Z.size;omega
 refine ρ ?_;refine ld (aw.at (i:=1) rfl) ?_;refine ρ ?_;refine Uo (fun (lo hi:Nat)=>[(0,.pointer (some ⟨g,0,none⟩)),(3,.pointer (some ⟨b,0,none⟩))])
  (λlo hi w'=>Ext w1 w'/\Blk w' b 221 [.int .i64 (lo:Int),.int .i64 (hi:Int)]/\hi<=(pfx rs (L+1)).length/\∀ i,i<(pfx rs (L+1)).length->(((pfx rs (L+1)).getD i []).take L=Vd rs L p↔lo<=i/\i<hi)) ?_ ?_
 .refine ci (λh1=>?_) (λh1=>?_)
  .have D:0<L:=by have:=oT h1;omega
   obtain⟨k,rfl⟩:∃ k,L=k+1:=⟨L-1,om⟩;have lk:k<d:=om
   obtain⟨be,bd⟩:=hpe D;obtain⟨F,fc,b5,b8⟩:=hf k lk;have a8:=hc k om;obtain⟨c1,c2,c3⟩:=a8;have bf:p<=1000000:=by
    have:=Jxv (rs.map (List.take (k+1)));rw[List.length_map]at this;have h4:(pfx rs (k+1)).length<=rs.length:=this;omega
   have lp:p<(fs k).length:=om
   have a7:p+1<(fs k).length:=om
   refine ρ ?_;refine drN (λ_=>False) 10 [(0,0),(0,1),(0,2),(0,3),(0,4),(0,5),(0,6),(0,7),(0,8),(0,9),(0,10),(0,11),(0,12),(0,13)] kr ?_;have a5:=a1.drew;have G:=a3.ext a5;have an:=hR.ext a5;have b7:w4.drew.cell? ((adr A (k*2)).add 1)=some (fv k):=by rw[Kn];exact an.cell (Uz d vv fv lk).2
   refine ρn ?_;refine nld (Qh (G.at (i:=0) rfl) (λe=>e)) ?_;refine ρn ?_;refine nld (Qh (G.at (i:=1) rfl) (λe=>e)) ?_;refine ρn ?_;refine Vu 2 k an lk ?_;refine ρn ?_;refine nld (Qh b7 (λe=>e)) ?_;rw[b5];refine ρn ?_;refine ρ ?_;refine drN (λ_=>False) 10 [(0,0),(0,1),(0,2),(0,3),(0,4),(0,5),(0,6),(0,7),(0,8),(0,9),(0,10),(0,11),(0,12),(0,13),(0,14),(0,15),(0,16),(1,17),(2,18)] kr ?_;have a4:=a5.drew;have ao:=a3.ext a4;have a9:=b8.ext a4;have ap:=(a6.ext (Ext.refl w4).drew).ext (Ext.refl w4.drew).drew;refine ρn ?_;refine nld (Qh (ao.at (i:=2) rfl) (λe=>e)) ?_;refine ρn ?_;refine nix p a9 lp ?_;refine ρn ?_;refine nld (Qh (a9.cell (Qg lp)) (λe=>e)) ?_;refine ρn ?_;refine nld (Qh (ao.at (i:=2) rfl) (λe=>e)) ?_;refine ρn ?_;refine nix (p+1) a9 a7 ?_;refine ρn ?_;refine nld (Qh (a9.cell (Qg a7)) (λe=>e)) ?_;refine ρn ?_;refine nop ?_
   refine bld (Qjp _ _ _) ?_;refine ρ ?_;refine Ql (GrN.refl _ _) ?_;refine ρn ?_;refine Xt ?_;refine stb ap ?_ (Jkl (x:=(((fs k).getD p 0:Nat):Int)) (y:=(((fs k).getD (p+1) 0:Nat):Int)));intro w5 J bh ay;refine ρ ?_;refine Xs ((fs k).getD p 0) ((fs k).getD (p+1) 0) sB ⟨ay w1 a4 (nL Z.size hb),J,c2 _ a7,λi hi=>?_⟩;rw[c3 p i a7 hi |>.symm,Vd,if_neg om]
  have D:L=0:=by have:=oF h1;omega
  subst D;refine ρ ?_;refine Xs 0 (pfx rs (0+1)).length sB ⟨a1,a6,Nat.le_refl _,λi hi=>?_⟩;rw[Vd,if_pos rfl,List.take_zero];exact⟨λ_=>⟨Nat.zero_le _,hi⟩,λ_=>rfl⟩
 clear b4 af aw a1 a6;rintro lo hi w5 ⟨aa,J,az,a8⟩;have ad:lo<hi:=by
  have b6:∃ i,i<(pfx rs (L+1)).length/\((pfx rs (L+1)).getD i []).take L=Vd rs L p:=by
   have hr:∃ r∈rs,r.take L=Vd rs L p:=by
    by_cases D:L=0
    .subst D;obtain⟨r,hr⟩:=List.exists_mem_of_ne_nil rs hrs;exact⟨r,hr,by rw[Vd,if_pos rfl,List.take_zero]⟩
    have:=hpe om;rw[Vd,if_neg D];exact(Jqt hsrt).1 (getD_mem' [] _ om)
   obtain⟨r,hr,er⟩:=hr;obtain⟨i,hi,ei⟩:=List.getElem_of_mem ((Jqt hsrt (l:=L+1)).2 ⟨r,hr,rfl⟩);refine⟨i,hi,?_⟩;rw[Qn [] _ hi,ei,List.take_take,Nat.min_eq_left om,er]
  obtain⟨i,hi,ei⟩:=b6;have:=(a8 i hi).1 ei;omega
 have bc:=a3.ext aa;refine ρ ?_;refine ld (J.at (i:=0) rfl) ?_;refine ρ ?_;refine ld (J.at (i:=1) rfl) ?_;refine ρ ?_;refine cf ?_ ?_
 .exact Qjs om
 refine ρ ?_;refine drN (λ_=>False) 10 [(0,0),(0,1),(0,2),(0,3),(0,4),(0,5),(0,6),(0,7),(0,8),(0,9),(0,10),(0,11),(2,12)] kr ?_;have O:Ext w5 w5.drew:=(Ext.refl w5).drew;have ae:=bc.ext O;have ar:=J.ext O;refine ρn ?_;refine nld (Qh (ae.at (i:=1) rfl) (λe=>e)) ?_;refine ρn ?_;refine Yc (cs:=[.int .i64 (p:Int),.int .i64 (e:Int)]) (λw' hg j u hu=>it_at (Ju ae hg (λe=>e)) hu) ?_;refine ρn ?_;refine nixa L (show L<32 by omega) ?_;refine ρn ?_;refine Xt ?_;have ah:=seg2 (cs:=itC A d L p e f h st) (o:=4+L*2) (u:=.int .i64 (p:Int)) (v:=.int .i64 (e:Int)) (by rw[Jwg];omega);refine stB (o:=4+L*2) (us:=[.int .i64 (p:Int),.int .i64 (e:Int)]) ae (by rw[Jwg];simp only[List.length_cons,List.length_nil];omega) Jkl ?_ (hp:=(Zu g (0+4) (L*2)).trans (by rw[Nat.zero_add]));intro w7 av am;have au:ItB w7 g A d L p e (upd f L p) (upd h L e) st:=by
  have e1:(itC A d L p e f h st).take (4+L*2)++[Value.int .i64 (p:Int),.int .i64 (e:Int)]++(itC A d L p e f h st).drop (4+L*2+[Value.int .i64 (p:Int),.int .i64 (e:Int)].length)=itC A d L p e (upd f L p) (upd h L e) st:=by
   rw[<-Qhx A d L p e f h st (show L<32 by omega) p e];exact ah
  rw[e1]at av;exact av
 have aq:=ar.grown am (λe=>b2 (by injection e));have ak:GrN (λk=>k=g) w w7:=(GrN.ext ((ac.trans aa).trans O)).trans (GrN.by am λk e=>by injection e with e;exact e.symm);refine ρ ?_;refine ldW aq ?_;refine ρ ?_;refine stB (o:=2) (us:=[.int .i64 (lo:Int),.int .i64 (hi:Int)]) au (by rw[Jwg];simp) Jkl ?_;intro w8 bb b3;have a2:ItB w8 g A d L lo hi (upd f L p) (upd h L e) st:=bb;have aj:=ak.trans (GrN.by b3 λk e=>by injection e with e;exact e.symm);refine ρ ?_;refine ld (a2.at (i:=1) rfl) ?_;refine ρ ?_;refine sto (p:=⟨g,1,none⟩) (a2.cell 1) (a2.frozen _) ?_;have ba:ItB (w8.setCell ⟨g,1,none⟩ (.int .i64 ((L:Int)+1))) g A d (L+1) lo hi (upd f L p) (upd h L e) st:=a2.set 1 (.int .i64 ((L:Int)+1));have ai:GrN (λk=>k=g) w (w8.setCell ⟨g,1,none⟩ (.int .i64 ((L:Int)+1))):=aj.trans (GrN.set _ rfl);refine ρ ?_;exact Jq ⟨rfl,ai,lo,hi,ad,az,a8,ba⟩
end
open Go.RowKit Pl Go.Wk
variable {I:List Nat}{a i k:Nat}
def gtN(U:List V)(key:V): Nat:=(U.filter λy=>decide (cmpV key y<0)).length
theorem Qll(U:List V)(key:V): gtN U key<=U.length:=List.length_filter_le _ _
theorem Jrh: ∀ {U:List V} {key key':V},key'∈U->cmpV key key'<0->gtN U key'<gtN U key
 | [],_,_,h,_=>by cases h
 | x::U,key,key',h,hlt=>by
  have mono:∀ U:List V,gtN U key'<=gtN U key:=λU=>by
   induction U with
   | nil=>exact nR _
   | cons y U ih=>
    unfold gtN at *;by_cases e:cmpV key' y<0
    .have:=cmp_V.lt_trans hlt e;grind
    repeat grind
  rcases List.mem_cons.1 h with rfl|h'
  .have:=mono U;grind [gtN,List.filter_cons_of_neg,Zg,List.filter_cons_of_pos,List.length_cons]
  have ih:=Jrh h' hlt;unfold gtN at *;by_cases e:cmpV key' x<0
  .have:=cmp_V.lt_trans hlt e;grind
  repeat grind
structure Fix where
 G: Nat->Nat
 A:Nat->Option Addr
 d:Nat->Nat
 rs:Nat->List Row
structure Lev where
 L: Nat->Nat
 lo:Nat->Nat
 e:Nat->Nat
 f:Nat->Nat->Nat
 h:Nat->Nat->Nat
def Fix.val(F:Fix)(V':Lev)(i a:Nat): V:=(lvl (F.rs i) (V'.L i-1)).getD a V0
def Ih(F:Fix)(I:List Nat): List Value:=I.map λi=>.pointer (some ⟨F.G i,0,none⟩)
theorem Ig{F:Fix}(h:k<I.length): (Ih F I)[k]?=some (.pointer (some ⟨F.G (I.getD k 0),0,none⟩)):=by simp[Ih,List.getD,List.getElem?_eq_getElem h]
structure OnS(F:Fix)(V':Lev)(I:List Nat): Prop where
 lev:∀ i∈I,0<V'.L i/\V'.L i<=F.d i/\F.d i<=32
 rng:∀ i∈I,V'.e i<=(lvl (F.rs i) (V'.L i-1)).length/\V'.e i<=1000000
 srt:∀ i∈I,∀ a b,V'.lo i<=a->a<b->b<V'.e i->cmpV (F.val V' i a) (F.val V' i b)<0
 inj:∀ i∈I,∀ j∈I,F.G i=F.G j->i=j
 len:I.length<=32
def NG(F:Fix)(I:List Nat)(J:Nat)(k:Nat): Prop:=k=J∨∃ i∈I,k=F.G i
def Its(F:Fix)(V':Lev)(I:List Nat)(w:World)(p:Nat->Nat): Prop:=∀ i∈I,∃ st,ItB w (F.G i) (F.A i) (F.d i) (V'.L i) (p i) (V'.e i) (V'.f i) (V'.h i) st
def Cmn(F:Fix)(V':Lev)(I:List Nat)(y:V): Prop:=∀ i∈I,∃ a,V'.lo i<=a/\a<V'.e i/\F.val V' i a=y
def JB(w:World)(J:Nat)(jr ja yv:Value): Prop:=∃ st:Int,Blk w J 191 [jr,ja,.int .i64 st,yv]
def Km(F:Fix)(V':Lev)(I:List Nat): List V:=I.flatMap λi=>(List.range (V'.e i-V'.lo i)).map λa=>F.val V' i (V'.lo i+a)
theorem Qsn{F:Fix}{V':Lev}(hi:i∈I)(h1:V'.lo i<=a)(h2:a<V'.e i): F.val V' i a∈Km F V' I:=by
 refine List.mem_flatMap.2 ⟨i,hi,List.mem_map.2 ⟨a-V'.lo i,List.mem_range.2 om,?_⟩⟩;congr 1;omega
theorem Qqh{F:Fix}{V':Lev}: ∀ {I:List Nat},(∀ i∈I,V'.e i<=1000000)->(Km F V' I).length<=I.length*1000000
 | [],_=>nR _
 | i::I,h=>by
  have ih:=Qqh (F:=F) (V':=V') (I:=I) (λj hj=>h j (List.mem_cons_of_mem _ hj));grind [List.mem_cons_self,Km,List.length_append,List.length_map,List.length_range,List.length_cons]
theorem Qpl{a b c:V}(h1:cmpV a b<=0)(h2:cmpV b c<=0): cmpV a c<=0:=cmp_V.trans a b c h1 h2
theorem Qkh(k n:Nat): (k:Int).tmod (n:Int)=((k % n:Nat):Int):=by grind
end Go.Proofs.YtebiphhfkdbpfaaGreat
