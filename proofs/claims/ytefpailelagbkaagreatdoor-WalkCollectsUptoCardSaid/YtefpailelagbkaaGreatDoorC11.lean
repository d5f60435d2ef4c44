/- Part 11 of the proof: Rel, Rel2, Rel3, Rel4. -/
import Derived.Test.YtefpailelagbkaaGreatDoorC10
set_option linter.unusedVariables false
set_option maxRecDepth 100000
set_option maxHeartbeats 40000000
namespace Go.Proofs.YtefpailelagbkaaGreatDoor
open Go.RowKit Pl Go.Wk
attribute [local irreducible] WC WL QX WD WDB WP
def Jxc(v:V): Bool:=if v.kind=1 then (v.bytes == []) else if v.kind=2 then decide (v.num=0) && decide (v.bytes.length<=24) else false
theorem Jdc(v:V): v.str.size=v.bytes.length:=(Array.length_toList (xs:=v.str.data)).symm
theorem Xqj(v:V): (v.str.toList == (⟨#[]⟩:ByteArray).toList)=(v.bytes == []):=by rw [ByteArray.toList_eq,ByteArray.toList_eq];rfl
theorem Jbr(v:V)(w:World): Ret Tryz.prog 149 [v.val] w λr w'=>r=.bool (Jxc v)/\Ext w w':=by
 refine Jjc Tryz.func149 Tryz.ntmps149 rfl kr rfl ?_;refine ρ ?_;refine bx (cs:=v.cells) ?_;intro G b j J o;refine ρ ?_;refine ld (o.at (i:=0) rfl) ?_;refine ρ ?_;refine ci (λh=>?_) (λh=>?_)
 .refine ρ ?_;refine ld (o.at (i:=2) rfl) ?_;refine ρ ?_;refine Jjq ⟨?_,j⟩;rw [Jxc,if_pos (Jqn h),Xqj]
 refine ρ ?_;refine ci (λu=>?_) (λu=>?_)
 .refine ρ ?_;refine ld (o.at (i:=1) rfl) ?_;refine ρ ?_;refine ki 15 (λC=>?_) (λC=>?_)
  .refine ρ ?_;refine ld (o.at (i:=2) rfl) ?_;refine ρ ?_;refine Jjq ⟨?_,j⟩;rw [Jxc,if_neg (Jqk h),if_pos (Jqn u),decide_eq_true (Jqn C),Jdc,Bool.true_and];congr 1
   exact decide_eq_decide.2 om
  .refine ρ ?_;refine Jjq ⟨?_,j⟩;rw [Jxc,if_neg (Jqk h),if_pos (Jqn u),decide_eq_false (Jqk C)];rfl
 .refine ρ ?_;refine Jjq ⟨?_,j⟩;rw [Jxc,if_neg (Jqk h),if_neg (Jqk u)]
theorem Qjl{v:Value}{r:Row}{w:World}(h:RowV w v r): Ret Tryz.prog 115 [v] w λu w'=>u=.bool (r.all Jxc)/\Ext w w':=by
 obtain ⟨A,c,rfl,h2,h3,U⟩:=h;refine Jjc Tryz.func115 Tryz.ntmps115 rfl kr rfl ?_;refine ρ ?_;refine Jqq (fun (k:Nat)=>[(0,.slice A r.length c),(5,.int .i64 (r.length:Int)),(6,.int .i64 (k:Int))]) (λk w'=>Ext w w'/\k<=r.length/\(r.take k).all Jxc=true) (λk=>r.length-k) 0 sB ⟨Ext.refl w,Nat.zero_le _,rfl⟩ ?_;rintro k w1 ⟨C,hk,G⟩;refine ρ ?_;refine ci (λh=>?_) (λh=>?_)
 .have lk:k<r.length:=by have:=oT h;omega
  have o:=U.ext C;refine ρ ?_;refine ixq 3 k o lk ?_;refine ρ ?_;refine lds (λj u O=>RdR.cell o lk O) ?_;refine ρ ?_;refine cl (Jbr (r.getD k V0) _) ?_;rintro u Z ⟨rfl,i⟩;refine ρ ?_;refine ci (λh=>?_) (λh=>?_)
  .refine ρ ?_;refine Jjq ⟨?_,C.trans i⟩;have J:Jxc (r.getD k V0)=false:=by simpa using h
   congr 1
   symm
   rw [List.all_eq_false];exact ⟨_,Qrm lk,by rw [J];decide⟩
  .refine ρ ?_;have J:Jxc (r.getD k V0)=true:=by simpa using h
   refine Jjv (k+1) sO ⟨C.trans i,om,?_⟩ om;rw [Jjm V0 lk,List.all_append,G,List.all_cons,J];rfl
 .refine ρ ?_;refine Jjq ⟨?_,C⟩;rw [List.take_of_length_le (by have:=oF h;omega)]at G;rw [G]
def RelV(w:World)(v:Value)(ar:Nat)(ls:List Row): Prop:=∃ rv,v=.agg #[.int .i64 (ar:Int),rv]/\RowsV w rv ls
theorem RelV.ext{w w':World}{v:Value}{ar:Nat}{ls:List Row}(h:RelV w v ar ls)(hx:Ext w w'): RelV w' v ar ls:=by
 obtain ⟨i,e,h⟩:=h;exact ⟨i,e,h.ext hx⟩
theorem Qnq: Jxd Tryz.prog 67=some (.agg #[.int .i64 0,.slice none 0 0]):=kr
theorem Jth(w:World): (Instr.build 67 #[]).run Tryz.prog w=.ok (.agg #[.int .i64 0,.slice none 0 0]) w:=kr
theorem Xzm(z:Int)(w:World): (Instr.build 67 #[(0,.int .i64 z)]).run Tryz.prog w=.ok (.agg #[.int .i64 z,.slice none 0 0]) w:=kr
theorem Xzl(z:Int)(A:Option Addr)(n c:Nat)(w:World): (Instr.build 67 #[(0,.int .i64 z),(1,.slice A n c)]).run Tryz.prog w=.ok (.agg #[.int .i64 z,.slice A n c]) w:=kr
theorem Qvn{z:Int}{A:Option Addr}{n c:Nat}: ∀ u∈[Value.int .i64 z,.slice A n c],u.oneCell'=true:=by
 intro u i;simp at i;rcases i with rfl|rfl<;>rfl
theorem Qbv(z:Int)(w:World): Ret Tryz.prog 76 [.int .i64 z] w λv w'=>Ext w w'/\∃ z' e,v=.tuple #[.agg #[.int .i64 z',.slice none 0 0],.int .i64 e]/\(e=0->z'=z)/\(e=0↔0<=z/\z<=32):=by
 refine Jjc Tryz.func76 Tryz.ntmps76 rfl kr rfl ?_;refine ρ ?_;refine alc Qnq ?_;intro J b o u C;refine ρ ?_;refine Jzn (fun (t:Bool)=>[(0,.int .i64 z),(2,.pointer (some ⟨b,0,none⟩)),(9,.bool t)]) (λt w'=>w'=J/\(t=true↔¬ (0<=z/\z<=32))) ?_ ?_
 .refine ki 6 (λh=>?_) (λh=>?_)
  .refine ρ ?_;exact Jjn true sB ⟨rfl,by have:=oT h;simp;omega⟩
  .refine ρ ?_;refine Jjn _ sB ⟨rfl,?_⟩;have:=oF h;rw [decide_eq_true_iff];omega
 rintro t w' ⟨rfl,ht⟩;refine ci (λh=>?_) (λh=>?_)
 .refine ρ ?_;refine bld (Jth _) ?_;refine ρ ?_;refine stb C ?_ Qvn;intro G j _ i;refine ρ ?_;exact Jyb j ⟨i w o u,0,3,rfl,λe=>(by cases e),⟨λe=>(by cases e),λe=>absurd e (ht.1 h)⟩⟩
 .refine ρ ?_;refine bld (Xzm z _) ?_;refine ρ ?_;refine stb C ?_ (Qvn (z:=z) (A:=none) (n:=0) (c:=0));intro G j _ i;refine ρ ?_;refine Jyb j ⟨i w o u,z,0,rfl,λ_=>rfl,⟨λ_=>?_,λ_=>rfl⟩⟩;by_cases hz:0<=z/\z<=32
  .exact hz
  .rw [ht.2 hz]at h;cases h
theorem Qwc{ar:Int}{sv v:Value}{r:Row}{A:Option Addr}{n c:Nat}{w:World}(hs:sv=.slice A n c)(h:RowV w v r): Ret Tryz.prog 77 [.agg #[.int .i64 ar,sv],v] w λu w'=>Ext w w'/\∃ e,u=.int .i64 e/\(e=0↔(r.length:Int)=ar/\r.all Jxc=true):=by
 subst hs;obtain ⟨B,c',rfl,C,h3,hr⟩:=id h;refine Jjc Tryz.func77 Tryz.ntmps77 rfl kr rfl ?_;refine ρ ?_;refine bx ?_;intro Z b j hb G;refine ρ ?_;refine ld (G.at (i:=0) rfl) ?_;refine ρ ?_;refine ci (λh=>?_) (λJ=>?_)
 .refine ρ ?_;exact Jjq ⟨j,6,rfl,⟨λe=>(by cases e),λe=>absurd e.1 (Jkx h)⟩⟩
 have O:=Jkz J;refine ρ ?_;refine cl (Qjl (h.ext j)) ?_;rintro u U ⟨rfl,o⟩;refine ρ ?_;refine ci (λh=>?_) (λC=>?_)
 .refine ρ ?_;refine Jjq ⟨j.trans o,4,rfl,⟨λe=>(by cases e),λe=>?_⟩⟩;rw [e.2]at h;cases h
 .refine ρ ?_;refine Jjq ⟨j.trans o,0,rfl,⟨λ_=>⟨O,by simpa using C⟩,λ_=>rfl⟩⟩
open Go.RowKit Pl Go.Wk
theorem RowX.off{w:World}{N:Nat->Prop}{v:Value}{r:Row}(h:RowX w N v r): Off N w (λu=>RowV u v r):=by
 obtain ⟨A,c,J,G,C,o,j⟩:=h;intro w' i;refine ⟨A,c,J,G,C,Qxm o i λh0 U e=>j (λO=>?_) U e⟩;subst O;simp [Jzf]at h0
theorem Xyr{w:World}{row:Option Nat}{ps:List Pr}(h:∀ p∈ps,Off (one row) w (λu=>RowV u p.1 p.2)): CF w row 117 #[] #[] ps []:=λw' i p q o j=>
 Jbw (h p o w' (GrN.by i λk e=>e)) (h q j w' (GrN.by i λk e=>e))
theorem eqRow{w:World}{row:Option Nat}{ps:List Pr}(h:∀ p∈ps,Off (one row) w (λu=>RowV u p.1 p.2)): EqF w row 114 #[] #[] ps:=λw' i p q o j=>
 Jgd (h p o w' (GrN.by i λk e=>e)) (h q j w' (GrN.by i λk e=>e))
theorem ownB(A:Option Addr)(n c m d:Nat): (Value.slice A n c).ownBlock=(Value.slice A m d).ownBlock:=by cases A<;>rfl
theorem Xqt{w:World}{N:Nat->Prop}{base:Nat}{A:Option Addr}{n c:Nat}{ps:List Pr}(hD:Dat w base (.slice A n c) ps)(hn:ps.length=n)(hmx:n<=1100000)(hnc:n<=c)(hN:∀ k,(Value.slice A n c).ownBlock=some k->¬ N k)(hr:∀ p∈ps,Off N w (λu=>RowV u p.1 p.2)): Off N w (λu=>RowsV u (.slice A n c) (ps.map (·.2))):=by
 intro w' i;refine ⟨ps,A,c,rfl,by rw [hn],om,om,?_,λp j=>hr p j w' i⟩;rw [hn];refine Qxm (hD.rd hn) i λ_ o e=>?_;subst e;exact hN _ rfl
def RowsP(N:Nat->Prop)(w:World)(v:Value)(ls:List Row): Prop:=∃ (ps:List Pr) (A:Option Addr) (c:Nat),ls=ps.map (·.2)/\v=.slice A ps.length c/\ps.length<=c/\ps.length<=1100000/\Off N w (λu=>Rd u 1 A ps.length (ps.map (·.1)))/\∀ p∈ps,Off N w (λu=>RowV u p.1 p.2)
theorem rowsP{w:World}{N:Nat->Prop}{base:Nat}{A:Option Addr}{n c:Nat}{ps:List Pr}(hD:Dat w base (.slice A n c) ps)(hn:ps.length=n)(hmx:n<=1100000)(hnc:n<=c)(hN:∀ k,(Value.slice A n c).ownBlock=some k->¬ N k)(hr:∀ p∈ps,Off N w (λu=>RowV u p.1 p.2)): RowsP N w (.slice A n c) (ps.map (·.2)):=by
 refine ⟨ps,A,c,rfl,by rw [hn],om,om,λw' i=>?_,hr⟩;rw [hn];refine Qxm (hD.rd hn) i λ_ j e=>?_;subst e;exact hN _ rfl
theorem Qxd{w:World}{base:Nat}{A:Option Addr}{n c ar:Nat}{ps:List Pr}(hD:Dat w base (.slice A n c) ps)(hn:ps.length=n)(hmx:n<=1100000)(hnc:n<=c)(hr:∀ p∈ps,Off (one (Value.slice A n c).ownBlock) w (λu=>RowV u p.1 p.2)):
  Ret Tryz.prog 78 [.int .i64 (ar:Int),.slice A n c] w λv w'=>w.grownBy w' (Value.slice A n c).ownBlock/\∃ rv e,v=.tuple #[rv,.int .i64 e]/\(∃ z B m d,rv=.agg #[.int .i64 z,.slice B m d])/\(n<=65536->e=0) /\
   (e=0->∃ m,Off (λk=>k<w.heap.size/\(Value.slice A n c).ownBlock≠some k) w' (λu=>RelV u rv ar m)/\m.length<=65536/\(∀ x∈m,x∈ps.map (·.2))/\((n<=12∨Srt [] (ps.map (·.2)))->IsSet [] (ps.map (·.2)) m)):=by
 refine Jjc Tryz.func78 Tryz.ntmps78 rfl kr rfl ?_;refine ρ ?_;refine alc Qnq ?_;intro w1 b a1 hb hB;have av:=hD.ext a1;have ae:∀ p∈ps,Off (one (Value.slice A n c).ownBlock) w1 (λu=>RowV u p.1 p.2):=λp J=>(hr p J).ext a1;obtain ⟨own,C⟩:∃ own,own=(Value.slice A n c).ownBlock:=⟨_,rfl⟩;have a8:∀ k,own=some k->k<w.heap.size:=λk e=>by
  obtain ⟨_,_,_,_,hf⟩:=Jjd hD.1;exact (hf k (by rw [<-e,C])).2
 refine ρ ?_;refine cl (Qqg (av.rd hn) hn hmx (Xyr ae)) ?_;rintro v w2 ⟨a6,t,rfl,ht⟩;refine ρ ?_;refine Jzg (fun (q:List Pr)=>[(0,.int .i64 (ar:Int)),(1,.slice A n c),(4,.pointer (some ⟨b,0,none⟩))]) (λq w'=>DP w1 w' base A n c ps q/\Blk w' b 67 [.int .i64 0,.slice none 0 0]/\((n<=12∨Srt [] (ps.map (·.2)))->Srt [] (q.map (·.2)))) ?_ ?_
 .have H2:=(DP.start av hn).ext a6;refine ci (λh=>?_) (λh=>?_)
  .have ax:¬ SOn z0 (fP []) ps 0 n:=λe=>by have:=ht.2 e;rw [this]at h;cases h
   refine ρ ?_;refine cl (Qjf H2.d H2.l hmx ((Xyr ae).step H2)) ?_;rintro v w3 ⟨q,H3,hs⟩;refine ρ ?_;refine Jjn q sB ⟨H2.after H3,(hB.ext a6).grown H3.g ((hB.ext a6).ne_own H2.d.1 rfl),λe=>?_⟩;rcases e with e|e
   .exact Qtg (by rw [H3.l];exact hs e)
   .exfalso
    apply ax
    intro i j _ b2 hj;have e':=(List.pairwise_map.1 e);rw [List.pairwise_iff_getElem]at e';have:=e' i j om om b2;unfold fP;rw [Jjh z0 ps om,Jjh z0 ps om];exact this
  .have ay:t=true:=by simpa using h
   refine ρ ?_;exact Jjn ps sB ⟨H2,hB.ext a6,λ_=>Qtg (by rw [hn];exact ht.1 ay)⟩
 rintro q w3 ⟨H3,aw,b1⟩;have an:∀ p∈q,Off (one (Value.slice A n c).ownBlock) w3 (λu=>RowV u p.1 p.2):=λp J=>(ae p (H3.p.mem_iff.1 J)).grown H3.g λk e=>e;refine ρ ?_;refine cl (Qkp H3.d H3.l hmx hnc (eqRow an)) ?_;rintro v w4 ⟨o,rfl,au,a9,ab,ah⟩;have ba:o.length<=n:=by
  have:=Jmt (q.map (·.2))
  rw [<-a9,List.length_map,List.length_map,H3.l]at this;exact this
 have ai:=aw.grown ah (aw.ne_own H3.d.1 rfl);have am:∀ p∈o,Off (one own) w4 (λu=>RowV u p.1 p.2):=λp J=>by rw [C];exact (an p (ab p J)).grown ah λk e=>e
 have a3:w1.grownBy w4 own:=by rw [C];exact Jjw H3.g ah
 have aj:((n<=12∨Srt [] (ps.map (·.2)))->IsSet [] (ps.map (·.2)) (o.map (·.2))):=λe=>by
  have h1:=Qmg (b1 e);rw [<-a9]at h1;exact ⟨h1.1,λx=>(h1.2 x).trans ((H3.p.map (·.2)).mem_iff)⟩
 generalize hm:o.length=m at *
 refine ρ ?_;refine ci (λh=>?_) (λh=>?_)
 .have b6:65536<m:=by have:=oT h;omega
  refine ρ ?_;refine bld (Jth _) ?_;refine ρ ?_;refine stb ai ?_ Qvn;intro w5 a5 G b8;refine ρ ?_;refine Jyb a5 ⟨?_,_,11,rfl,⟨0,none,0,0,rfl⟩,λe=>(by omega),λe=>(by cases e)⟩;have g1:=Jjw (Jqh a1 own) a3;rw [<-C];exact ⟨G.os.trans g1.os,G.tape.trans g1.tape,G.output.trans g1.output,Nat.le_trans g1.size G.size,λk hk hn=>(G.block k (nM hk g1.size) (λe=>by injection e with e;omega)).trans (g1.block k hk hn)⟩
 have b9:m<=65536:=by have:=oF h;omega
 clear h;obtain ⟨N',a4⟩:∃ N':Nat->Prop,N'=λk=>k<w1.heap.size∨own=some k:=⟨_,rfl⟩;have ag:(Value.slice A m c).ownBlock=own:=by rw [C];exact ownB _ _ _ _ _
 refine ρ ?_;refine Jjt (fun (k:Nat) (qs:List Pr)=>[(0,.int .i64 (ar:Int)),(1,.slice A m c),(4,.pointer (some ⟨b,0,none⟩)),(19,.int .i64 (m:Int)),(20,.int .i64 (k:Int))])
  (λk qs w'=>k<=m/\qs.length=k/\qs.map (·.2)=(o.take k).map (·.2)/\Dat w' base (.slice A m c) (qs++o.drop k)/\(∀ p∈qs,Off N' w' (λu=>RowV u p.1 p.2))/\(∀ p∈o,Off (one own) w' (λu=>RowV u p.1 p.2))/\Blk w' b 67 [.int .i64 0,.slice none 0 0]/\w1.grownBy w' own) (λk _=>m-k) 0 [] sB
  ⟨Nat.zero_le _,rfl,rfl,by simpa using au,λp J=>(by cases J),am,ai,a3⟩ ?_
 clear au am ai a3;rintro k qs w5 ⟨hk,af,a7,Z,ac,ak,a5,G⟩;refine ρ ?_;have O:(qs++o.drop k).length=m:=by simp;omega
 refine ci (λh=>?_) (λh=>?_)
 .have lk:k<m:=by have:=oT h;omega
  have aq:(qs++o.drop k).getD k z0=o.getD k z0:=by
   simp only [List.getD];rw [List.getElem?_append_right om,af,Nat.sub_self,List.getElem?_drop,Nat.add_zero]
  have ap:o.getD k z0∈o:=Jkr hm lk;refine ρ ?_;refine ix k (Z.rd O) lk ?_;refine ρ ?_;refine ld (Z.cell O lk) ?_;rw [aq];refine ρ ?_;refine cl (Jvq (ak _ ap).here N' (λj hj=>?_)) ?_
  .subst a4;rcases hj with h'|h'
   .exact nM h' G.size
   .exact nM (a8 j h') (nL a1.size G.size)
  rintro v6 w6 ⟨ad,a2⟩;have aa:=Z.ext a2;obtain ⟨s1,s2,s3⟩:=aa.store O lk (p:=(v6,(o.getD k z0).2)) ad.v.one;refine ρ ?_;refine ix k (aa.rd O) lk ?_;refine ρ ?_;refine sto (aa.cell O lk) s1 ?_ (hv:=ad.v.one);refine ρ ?_;have e:(qs++o.drop k).set k (v6,(o.getD k z0).2)=(qs++[(v6,(o.getD k z0).2)])++o.drop (k+1):=by
   rw [List.set_append_right _ _ om,af,Nat.sub_self,List.drop_eq_getElem_cons om,List.set_cons_zero,List.append_assoc];rfl
  rw [e]at s2;rw [ag]at s3;refine Jjj (k+1) (qs++[(v6,(o.getD k z0).2)]) sO ⟨om,by simp [af],?_,s2,λp J=>?_,λp J=>?_,?_,?_⟩ om
  .rw [List.map_append,a7,Jjm z0 om,List.map_append];rfl
  .rcases List.mem_append.1 J with h'|h'
   .exact ((ac p h').ext a2).grown s3 (λk e=>by rw [a4];exact .inr e)
   .rw [List.mem_singleton.1 h'];exact ad.off.grown s3 (λk e=>by rw [a4];exact .inr e)
  .exact ((ak p J).ext a2).grown s3 (λk e=>e)
  .have h7:=a5.ext a2;refine h7.grown s3 ?_;have:=h7.ne_own aa.1 rfl;rwa [ag]at this
  .exact Jjw G (Jjw (Jqh a2 _) s3)
 .have e:k=m:=by have:=oF h;omega
  subst e;rw [List.drop_of_length_le om,List.append_nil]at Z O;rw [List.take_of_length_le om]at a7;refine ρ ?_;refine bld (Xzl (ar:Int) A k c _) ?_;refine ρ ?_;refine stb a5 ?_ (Qvn (z:=(ar:Int)) (A:=A) (n:=k) (c:=c));intro w7 b5 U b7;refine ρ ?_;have b3:N' b:=by rw [a4];exact .inl hB.lt
  have b4:Dat w7 base (.slice A k c) qs:=⟨Z.1.kept U (.inr (λe=>a5.ne_own Z.1 rfl e.symm)),Z.2⟩;have ao:=Xqt (N:=λj=>j<w.heap.size/\own≠some j) b4 O om om (λj ej hj=>hj.2 (by rw [<-ej,ag])) (λp J=>((ac p J).grown U (λj ej=>by injection ej with ej;rw [<-ej];exact b3)).mono λj _ hj=>by rw [a4];exact .inl (nM hj.1 a1.size));refine Jyb b5 ⟨?_,_,0,rfl,⟨_,_,_,_,rfl⟩,λ_=>rfl,λ_=>⟨qs.map (·.2),?_,by rw [List.length_map];omega,?_,?_⟩⟩
  .have g1:=Jjw (Jqh a1 own) G;rw [<-C];exact ⟨U.os.trans g1.os,U.tape.trans g1.tape,U.output.trans g1.output,Nat.le_trans g1.size U.size,λj hj hn=>(U.block j (nM hj g1.size) (λe=>by injection e with e;omega)).trans (g1.block j hj hn)⟩
  .rw [<-C];exact ao.imp λu hu=>⟨_,rfl,hu⟩
  .intro x hx;rw [a7,a9]at hx;have:x∈q.map (·.2):=by
    obtain ⟨p,J,rfl⟩:=List.mem_map.1 (a9 ▸ hx);exact List.mem_map.2 ⟨p,ab p J,rfl⟩
   exact (H3.p.map (·.2)).mem_iff.1 this
  .intro e;rw [a7];exact aj e
open Go.RowKit Pl Go.Wk
theorem Qmr(w:World): (Instr.buildSlice 35 0 #[]).run Tryz.prog w=.ok (.slice (some ⟨w.heap.size,0,none⟩) 0 0) (w.alloc (.cells [].toArray 40)):=kr
theorem Jtg{A:Option Addr}{n c:Nat}{ps:List Pr}{w:World}(hR:Rd w 1 A n (ps.map (·.1)))(hn:ps.length=n)(hmx:n<=1100000)(h1:∀ p∈ps,p.1.oneCell'=true):
  Ret Tryz.prog 79 [.slice A n c] w λv' w'=>Ext w w'/\∃ B d,v'=.slice B n d/\n<=d/\Dat w' w.heap.size (.slice B n d) ps:=by
 refine Jjc Tryz.func79 Tryz.ntmps79 rfl kr rfl ?_;refine ρ ?_;refine Xql ?_;refine ρ ?_;refine ci (λh=>?_) (λh=>?_)
 .have hA:A=none:=by simpa using h
  subst hA;have J:n=0:=by
   rcases Nat.eq_zero_or_pos n with h0|h0
   .exact h0
   .obtain ⟨ad,h2,_⟩:=hR.isome h0 om;cases h2
  subst J;obtain rfl:=List.eq_nil_of_length_eq_zero hn;refine ρ ?_;exact Jjq ⟨Ext.refl w,none,0,rfl,Nat.le_refl _,⟨Jxj _ _ _ _,λp G=>by cases G⟩⟩
 .refine ρ ?_;refine bsl Qmr ?_;intro w1 b j U O;refine ρ ?_;refine apo j ER (O.own (n:=0) U rfl (Nat.zero_le _)) (hR.ext j) (λu Z=>by obtain ⟨p,G,rfl⟩:=List.mem_map.1 Z;exact h1 p G) (by unfold maxLen;omega) om ?_;intro v2 w2 i C _ _;obtain ⟨A2,c2,rfl,o,hf⟩:=Jjd i;refine ρ ?_;rw [Nat.zero_add]at i o ⊢;refine Jjq ⟨C,A2,c2,rfl,o,⟨?_,h1⟩⟩;rw [hn];exact i
theorem Jdq{a w w':World}{b:Nat}(hx:Ext a w)(hg:w.grownBy w' (some b))(hb:a.heap.size<=b): Ext a w':=Jjk hx hg λk e=>by injection e with e;omega
theorem Jlj{w:World}{v:Value}{ls:List Row}{ar:Nat}(h:RowsV w v ls):
  Ret Tryz.prog 32 [.int .i64 (ar:Int),v] w λu w'=>Ext w w'/\∃ rv e,u=.tuple #[rv,.int .i64 e]/\(∃ z B m d,rv=.agg #[.int .i64 z,.slice B m d])/\(ar<=32->(∀ r∈ls,r.length=ar/\r.all Jxc=true)->ls.length<=65536->e=0) /\
   (e=0->ar<=32/\(∀ r∈ls,r.length=ar/\r.all Jxc=true)/\∃ m,Off (λk=>k<w.heap.size) w' (λu=>RelV u rv ar m)/\m.length<=65536/\(∀ x∈m,x∈ls)/\((ls.length<=12∨Srt [] ls)->IsSet [] ls m)):=by
 obtain ⟨ps,A,c,rfl,rfl,b8,ag,hR,a1⟩:=h;generalize hn:ps.length=n at *
 have b7:∀ i,(ps.map (·.2)).getD i []=(ps.getD i z0).2:=λi=>Jpq
 have ae:∀ p∈ps,p.1.oneCell'=true:=λp hp=>(a1 p hp).one;refine Jjc Tryz.func32 Tryz.ntmps32 rfl kr rfl ?_;refine ρ ?_;refine alc Qnq ?_;intro w1 b au hb hB;refine ρ ?_;refine cl (Qbv (ar:Int) w1) ?_;rintro v2 w2 ⟨ad,z',e2,rfl,ai,C⟩;refine ρ ?_;refine alc Qnq ?_;intro w3 b3 aq b1 b6;refine ρ ?_;refine stb b6 ?_ (Qvn (z:=z') (A:=none) (n:=0) (c:=0));intro w4 b5 ba ap;have a6:Ext w1 w4:=ap w1 (ad.trans aq) (nL ad.size b1);have J:=au.trans a6;have ab:=hB.ext a6;refine ρ ?_;refine ci (λh=>?_) (λh=>?_)
 .have a7:=Jkx h;refine ρ ?_;refine bld (Jth _) ?_;refine ρ ?_;refine stb ab ?_ Qvn;intro w5 aa b9 U;refine ρ ?_;refine Jyb aa ⟨U w J hb,_,e2,rfl,⟨0,none,0,0,rfl⟩,λh1 _ _=>C.2 om,λe=>absurd e a7⟩
 have hz:=Jkz h;subst hz;have b2:ar<=32:=by have:=C.1 rfl;omega
 have ak:=ai rfl;subst ak;clear h ai C;refine ρ ?_;refine Jqq (fun (k:Nat)=>[(0,.int .i64 (ar:Int)),(1,.slice A n c),(4,.pointer (some ⟨b,0,none⟩)),(6,.pointer (some ⟨b3,0,none⟩)),(20,.int .i64 (n:Int)),(21,.int .i64 (k:Int))])
  (λk w'=>Ext w4 w'/\k<=n/\∀ i,i<k->(ps.getD i z0).2.length=ar/\(ps.getD i z0).2.all Jxc=true) (λk=>n-k) 0 sB ⟨Ext.refl _,Nat.zero_le _,λi hi=>om⟩ ?_
 rintro k w5 ⟨U,hk,hI⟩;have o:=J.trans U;refine ρ ?_;refine ci (λh=>?_) (λh=>?_)
 .have lk:k<n:=by have:=oT h;omega
  clear h;refine ρ ?_;refine dr [(0,0),(0,1),(0,2),(0,3),(0,4),(1,5),(0,6)] kr ?_;have a5:=U.drew;have aa:=b5.ext a5;have aj:=hR.ext o.drew;refine ρd ?_;refine Jvb (cs:=[.int .i64 (ar:Int),.slice none 0 0]) (λj u hu=>aa.at hu) ?_;refine ρd ?_;refine dix k aj lk ?_;refine ρd ?_;refine dld (Qbz aj hn lk) ?_;refine ρd ?_;refine dcl (Qwc (A:=none) (n:=0) (c:=0) rfl ((a1 _ (Jkr hn lk)).ext o.drew)) ?_;rintro u w6 ⟨O,e,rfl,C⟩;refine ⟨O,?_⟩;refine ρd ?_;refine ρ ?_;have Z:=a5.trans O;refine ci (λh=>?_) (λh=>?_)
  .have a7:=Jkx h;refine ρ ?_;refine bld (Jth _) ?_;refine ρ ?_;refine stb (ab.ext Z) ?_ Qvn;intro w7 a9 a8 ao;refine ρ ?_;refine Jyb a9 ⟨ao w (J.trans Z) hb,_,e,rfl,⟨0,none,0,0,rfl⟩,λ_ h2 _=>?_,λe=>absurd e a7⟩;obtain ⟨k1,k2⟩:=h2 (ps.getD k z0).2 (List.mem_map.2 ⟨_,Jkr hn lk,rfl⟩);exact C.2 ⟨om,k2⟩
  .have hz:=Jkz h;have am:=C.1 hz;refine ρ ?_;refine Jjv (k+1) sO ⟨Z,om,λi hi=>?_⟩ om;by_cases e:i=k
   .subst e;exact ⟨om,am.2⟩
   .exact hI i om
 .have e:k=n:=by have:=oF h;omega
  subst e;refine ρ ?_;refine cl (Jtg (hR.ext o) hn ag ae) ?_;rintro u w6 ⟨O,D,d,rfl,hd,a3⟩;have G:=o.trans O;have a2:∀ j,(Value.slice D k d).ownBlock=some j->w5.heap.size<=j/\j<w6.heap.size:=by
   obtain ⟨_,_,_,_,hf⟩:=Jjd a3.1;exact λj ej=>⟨(hf j ej).1,(hf j ej).2⟩
  have af:∀ p∈ps,Off (one (Value.slice D k d).ownBlock) w6 (λu=>RowV u p.1 p.2):=λp hp=>Off.old (a:=w) (λu hu=>(a1 p hp).ext hu) G (λj ej=>nL o.size (a2 j ej).1);refine ρ ?_;refine cl (Qxd (ar:=ar) a3 hn ag hd af) ?_;rintro u w7 ⟨a8,rv,e,rfl,⟨z,B,m,d',av⟩,ah,aw⟩;have ac:Ext w w7:=Jjk G a8 (λj ej=>nL o.size (a2 j ej).1);have a4:=(ab.ext U).ext O;have a9:=a4.grown a8 (a4.ne_own a3.1 rfl);subst av;refine ρ ?_;refine stb a9 ?_ (Qvn (z:=z) (A:=B) (n:=m) (c:=d'));intro w8 b4 ax an;refine ρ ?_;refine Jyb b4 ⟨an w ac hb,_,e,rfl,⟨z,B,m,d',rfl⟩,λ_ _ h3=>ah (by rw [List.length_map,hn]at h3;exact h3),λe0=>⟨b2,λr hr=>?_,?_⟩⟩
  .obtain ⟨p,hp,rfl⟩:=List.mem_map.1 hr;obtain ⟨i,hi,rfl⟩:=List.getElem_of_mem hp;have:=hI i om;rw [Jjh z0 ps hi]at this;exact this
  .obtain ⟨ms,m1,m2,m3,m4⟩:=aw e0;refine ⟨ms,?_,m2,m3,λhc=>m4 (by rw [List.length_map,hn]at hc;exact hc)⟩;have ay:b<w6.heap.size/\(Value.slice D k d).ownBlock≠some b:=⟨a4.lt,λe=>a4.ne_own a3.1 rfl e.symm⟩;refine (m1.grown ax (λj ej=>by injection ej with ej;rw [<-ej];exact ay)).mono λj _ hj=>⟨nM hj G.size,λe=>?_⟩;have:=(a2 j e).1;have:=o.size;omega
open Go.RowKit Pl Go.Wk
theorem Jrx: ∀ (q:Row) (i:Nat) (x:V),i<q.length->Jzf (q.set i x)=(Jzf q).take (i*3)++x.cells++(Jzf q).drop (i*3+3)
 | [],i,x,h=>by simp at h
 | v::q,0,x,_=>by
  have e:Jzf (v::q)=v.cells++Jzf q:=by simp [Jzf]
  have e2:Jzf (x::q)=x.cells++Jzf q:=by simp [Jzf]
  rw [List.set_cons_zero,e,e2,Nat.zero_mul,List.take_zero,List.nil_append,Nat.zero_add];congr 1
 | v::q,i+1,x,h=>by
  have ih:=Jrx q i x (by simpa using h);have e:Jzf (v::q)=v.cells++Jzf q:=by simp [Jzf]
  have e2:Jzf (v::q.set i x)=v.cells++Jzf (q.set i x):=by simp [Jzf]
  have hl:v.cells.length=3:=rfl;rw [List.set_cons_succ,e,e2,ih];have e3:(v.cells++Jzf q).take ((i+1)*3)=v.cells++(Jzf q).take (i*3):=by
   rw [List.take_append,hl,List.take_of_length_le om];congr 2;omega
  have e4:(v.cells++Jzf q).drop ((i+1)*3+3)=(Jzf q).drop (i*3+3):=by
   rw [List.drop_append,hl,List.drop_of_length_le om,List.nil_append];congr 1;omega
  rw [e3,e4];simp [List.append_assoc]
theorem Jlh(n:Nat): (madeCells (Value.agg #[.int .i64 0,.int .i64 0,.string ⟨#[]⟩]).cells (n*3)).toList=Jzf (List.replicate n V0):=by
 apply List.ext_getElem?
 intro k;have j:(Value.agg #[.int .i64 0,.int .i64 0,.string ⟨#[]⟩]).cells = #[.int .i64 0,.int .i64 0,.string ⟨#[]⟩]:=rfl;rw [j];by_cases hk:k<n*3
 .have i:=Jrz (List.replicate n V0) (k / 3) (k % 3) (by simp;omega) om;rw [show k / 3*3+k % 3=k by omega]at i;rw [i];have e:(List.replicate n V0).getD (k / 3) V0=V0:=by
   rw [Jjh V0 _ (by simp;omega)];simp
  rw [e];have o:k % 3<3:=om
  simp only [madeCells,Array.getElem?_toList,Array.getElem?_map,Array.getElem?_range,hk,if_true,Option.map_some];generalize k % 3=r at *
  have:r=0∨r=1∨r=2:=om
  rcases this with rfl|rfl|rfl<;>rfl
 .rw [List.getElem?_eq_none (by simp [madeCells];omega),List.getElem?_eq_none (by rw [Qwv];simp;omega)]
def Jzr(zs:List Int): List Value:=zs.map (Value.int .i64)
def IntsV(w:World)(v:Value)(zs:List Int): Prop:=∃ A c,v=.slice A zs.length c/\zs.length<=c/\zs.length<=1100000/\Rd w 1 A zs.length (Jzr zs)
theorem IntsV.ext{w w':World}{v:Value}{zs:List Int}(h:IntsV w v zs)(hx:Ext w w'): IntsV w' v zs:=by obtain ⟨A,c,u,o,j,i⟩:=h;exact ⟨A,c,u,o,j,i.ext hx⟩
theorem Jdh{zs:List Int}{i:Nat}(h:i<zs.length): (Jzr zs)[i]?=some (.int .i64 (zs.getD i 0)):=by simp [Jzr,List.getD,List.getElem?_eq_getElem h]
def nz(cs:List Nat): List Int:=cs.map fun (c:Nat)=>(c:Int)
theorem Jxs{cs:List Nat}{i:Nat}(h:i<cs.length): (Jzr (nz cs))[i]?=some (.int .i64 (cs.getD i 0:Int)):=by simp [Jzr,nz,List.getD,List.getElem?_eq_getElem h]
theorem Jqc(cs:List Nat): (nz cs).length=cs.length:=by simp [nz]
def pmR(cs:List Nat)(r:Row): Row:=cs.map λc=>r.getD c V0
abbrev Jtq(w:World)(base:Nat)(v:Value)(q:Row): Prop:=w.ownsRow base 71 3 v q.length (Jzf q)
theorem Jqx(cs:List Nat)(r:Row): (pmR cs r).length=cs.length:=by simp [pmR]
theorem Jsc{cs:List Nat}{r:Row}{k:Nat}(hk:k<cs.length): (pmR cs r).getD k V0=r.getD (cs.getD k 0) V0:=by
 rw [Jjh V0 _ (by simpa [pmR] using hk),Jjh 0 cs hk];simp [pmR]
theorem Jvg{w:World}{v:Value}{ar:Nat}{ls:List Row}(h:RelV w v ar ls): Ret Tryz.prog 82 [v] w λu w'=>u=.int .i64 (ls.length:Int)/\Ext w w':=by
 obtain ⟨U,rfl,ps,A,c,rfl,rfl,G,C,hR,o⟩:=h;refine Jjc Tryz.func82 Tryz.ntmps82 rfl kr rfl ?_;refine ρ ?_;refine bx ?_;intro O b j Z J;refine ρ ?_;refine ld (J.at (i:=1) rfl) ?_;refine ρ ?_;exact Jjq ⟨by rw [List.length_map],j⟩
theorem Jyn{w:World}{v:Value}{ar:Nat}{ls:List Row}(h:RelV w v ar ls): Ret Tryz.prog 145 [v] w λu w'=>u=.int .i64 (ar:Int)/\Ext w w':=by
 obtain ⟨U,rfl,ps,A,c,rfl,rfl,G,C,hR,o⟩:=h;refine Jjc Tryz.func145 Tryz.ntmps145 rfl kr rfl ?_;refine ρ ?_;refine bx ?_;intro O b j Z J;refine ρ ?_;refine ld (J.at (i:=0) rfl) ?_;refine ρ ?_;exact Jjq ⟨rfl,j⟩
theorem Jcn{w:World}{v:Value}{ar:Nat}{ls:List Row}(h:RelV w v ar ls): Ret Tryz.prog 126 [v] w λu w'=>Ext w w'/\RowsP (λk=>k<w.heap.size) w' u ls:=by
 obtain ⟨rv,rfl,ps,A,c,rfl,rfl,ag,ae,hR,aa⟩:=h;generalize hn:ps.length=n at *
 refine Jjc Tryz.func126 Tryz.ntmps126 rfl kr rfl ?_;refine ρ ?_;refine bx ?_;intro w0 b a1 hb hB;refine ρ ?_;refine ld (hB.at (i:=1) rfl) ?_;refine ρ ?_;refine mkn ER n om (by unfold maxLen;omega) ?_;intro w1 O ad a5 hO;have a7:∀ k,(Value.slice O n n).ownBlock=some k->w0.heap.size<=k/\k<w1.heap.size:=by
  obtain ⟨_,_,e,_,hf⟩:=Jjd a5;exact hf
 have af:Dat w1 w0.heap.size (.slice O n n) ([]++List.replicate n (.slice none 0 0,[])):=by
  refine ⟨?_,λp Z=>?_⟩
  .rw [List.nil_append,List.length_replicate,Pr.rep];have e:(madeCells (Value.slice none 0 0).cells (n*1)).toList=List.replicate n (.slice none 0 0):=by rw [Nat.mul_one];exact Jlx _ _
   rw [e]at a5;exact a5
  .rw [List.nil_append]at Z;rw [(List.mem_replicate.1 Z).2];rfl
 obtain ⟨N,hN⟩:∃ N:Nat->Prop,N=λk=>k<w0.heap.size∨(Value.slice O n n).ownBlock=some k:=⟨_,rfl⟩;refine ρ ?_;refine Jjt (fun (k:Nat) (C:List Pr)=>[(1,.pointer (some ⟨b,0,none⟩)),(3,.slice O n n),(10,.int .i64 (n:Int)),(11,.int .i64 (k:Int))])
  (λk C w2=>k<=n/\C.length=k/\C.map (·.2)=(ps.take k).map (·.2)/\Ext w0 w2/\w1.heap.size<=w2.heap.size/\Dat w2 w0.heap.size (.slice O n n) (C++List.replicate (n-k) (.slice none 0 0,[]))/\(∀ p∈C,Off N w2 (λu=>RowV u p.1 p.2))) (λk _=>n-k) 0 [] sB
  ⟨Nat.zero_le _,rfl,rfl,ad,Nat.le_refl _,af,λp Z=>(by cases Z)⟩ ?_
 rintro k C w2 ⟨hk,a4,a3,J,U,a9,ab⟩;have o:=a1.trans J;refine ρ ?_;refine ci (λh=>?_) (λh=>?_)
 .have lk:k<n:=by have:=oT h;omega
  refine ρ ?_;refine ld ((hB.ext J).at (i:=1) rfl) ?_;refine ρ ?_;refine ix k (hR.ext o) lk ?_;refine ρ ?_;refine ld (Qbz (hR.ext o) hn lk) ?_;refine ρ ?_;refine cl (Jvq ((aa _ (Jkr hn lk)).ext o) N (λj hj=>?_)) ?_
  .subst hN;rcases hj with h'|h'
   .exact nM h' J.size
   .exact nM (a7 j h').2 U
  rintro v3 w3 ⟨a2,G⟩;have a8:=a9.ext G;have a6:(C++List.replicate (n-k) ((.slice none 0 0,[]):Pr)).length=n:=by simp;omega
  obtain ⟨s1,s2,s3⟩:=a8.store a6 lk (p:=(v3,(ps.getD k z0).2)) a2.v.one;refine ρ ?_;refine ix k (a8.rd a6) lk ?_;refine ρ ?_;refine sto (a8.cell a6 lk) s1 ?_ (hv:=a2.v.one);refine ρ ?_;have e:(C++List.replicate (n-k) ((.slice none 0 0,[]):Pr)).set k (v3,(ps.getD k z0).2)=(C++[(v3,(ps.getD k z0).2)])++List.replicate (n-(k+1)) (.slice none 0 0,[]):=by
   rw [show n-k=(n-(k+1))+1 by omega,List.replicate_succ,List.set_append_right _ _ om,a4,Nat.sub_self,List.set_cons_zero,List.append_assoc];rfl
  rw [e]at s2;have ac:∀ j,(Value.slice O n n).ownBlock=some j->N j:=λj ej=>by rw [hN];exact .inr ej
  refine Jjj (k+1) (C++[(v3,(ps.getD k z0).2)]) sO ⟨om,by simp [a4],?_,Jjk (J.trans G) s3 (λj hj=>(a7 j hj).1),Nat.le_trans U (nL G.size s3.size),s2,λp Z=>?_⟩ om
  .rw [List.map_append,a3,Jjm z0 om,List.map_append];rfl
  .rcases List.mem_append.1 Z with h'|h'
   .exact ((ab p h').ext G).grown s3 ac
   .rw [List.mem_singleton.1 h'];exact a2.off.grown s3 ac
 .have e:k=n:=by have:=oF h;omega
  subst e;rw [Nat.sub_self,List.replicate_zero,List.append_nil]at a9;rw [List.take_of_length_le om]at a3;refine ρ ?_;refine Jjq ⟨o,?_⟩;rw [<-a3];refine rowsP a9 a4 ae (Nat.le_refl _) (λj ej hj=>?_) λp Z=>(ab p Z).mono λj _ hj=>by rw [hN];exact .inl (nM hj a1.size)
  have:=(a7 j ej).1;have:=a1.size;omega
end Go.Proofs.YtefpailelagbkaaGreatDoor
