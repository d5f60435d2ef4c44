/- Part 39. -/
import Derived.Test.YtebcagekopgdhaaGreatDoorB38
set_option linter.unusedVariables false
set_option maxRecDepth 100000
set_option maxHeartbeats 40000000
namespace Go.Proofs.YtebcagekopgdhaaGreatDoor
open Go.RowKit Pl Go.Wk
attribute [local irreducible] WC WL QX WD WDB WP WN WG WH
def pS(pf:Nat->Int)(m q:Nat)(c:Nat): Bool:=decide (m<=c) && decide (pf c<(q:Int))
theorem Qbj(K:SeK)(m:Nat)(y:Row): K.X.prodS (pS K.pf m m) y=K.X.pend m y:=Ur λc _=>by
 simp only [pS,Bool.and_eq_true,decide_eq_true_eq];rfl
theorem Qbk(K:SeK)(m:Nat)(y:Row): K.X.prodS (pS K.pf (m+1) m) y=K.X.others m y:=Ur λc _=>by
 simp only [pS,Bool.and_eq_true,decide_eq_true_eq];rfl
theorem Jpl{pf:Nat->Int}{m c:Nat}: (pS pf m m c && !decide (c=m))=pS pf (m+1) m c:=by
 unfold pS;by_cases h1:m<=c<;>by_cases h2:c=m<;>by_cases h3:pf c<(m:Int)<;>simp [h1,h2,h3]<;>omega
theorem Jpm{pf:Nat->Int}{m c:Nat}(hp:pf c<(c:Int)): (pS pf (m+1) m c || decide (pf c=(m:Int)))=pS pf (m+1) (m+1) c:=by
 unfold pS;rw [Bool.eq_iff_iff];simp only [Bool.or_eq_true,Bool.and_eq_true,decide_eq_true_eq];omega
def hmB(bs:List BkT): Nat:=bs.foldl (λm b=>max m b.2.ht) 0
theorem foldl_max{bs:List BkT}: ∀ {m:Nat},m<=bs.foldl (λm b=>max m b.2.ht) m/\∀ b∈bs,b.2.ht<=bs.foldl (λm b=>max m b.2.ht) m:=by
 induction bs with
 | nil=>intro m;exact ⟨Nat.le_refl _,λb o=>by cases o⟩
 | cons a bs ih=>
  intro m;obtain ⟨u,C⟩:=ih (m:=max m a.2.ht);refine ⟨nL (Nat.le_max_left _ _) u,λb o=>?_⟩;rcases List.mem_cons.1 o with rfl|o
  .exact nL (Nat.le_max_right _ _) u
  .exact C b o
theorem Qkz(bs:List BkT)(k:Row): (trK bs k).ht<=hmB bs:=by
 unfold trK;cases hf:bs.find? λb=>decide (b.1=k) with
 | none=>exact Nat.zero_le _
 | some b=>exact foldl_max.2 b (List.mem_of_find?_eq_some hf)
def wiL(L:List Row)(y:Row): List Row:=L.filter λx=>decide (x.take y.length=y)
theorem Qng(A B C D E F:Option Addr)(a b c d e f a' b' c' d' e' f':Nat)(mb:Nat)(w:World): (Instr.build 175 #[(0,.agg #[.slice A a a',.slice B b b',.slice C c c',.slice D d d',.slice E e e']),(1,.slice F f f'),(3,.map (some mb))]).run Tryz.prog w=.ok (.agg #[.slice A a a',.slice B b b',.slice C c c',.slice D d d',.slice E e e',.slice F f f',.slice none 0 0,.map (some mb),.int .i64 0]) w:=kr
section
variable {f:Nat} {ds:List Bool} {kf:Nat->Nat} {pf:Nat->Int} {BB:Nat->List BkT} {tot:Nat} {L:List Row}
theorem Qrf{B0:Nat}{w:World}{x:Value}(tb:TB B0 w)(ix:IxV w x f ds kf pf BB tot)(ip:IxP f ds kf pf BB tot L)(ne:tot≠0):
  Ret Tryz.prog 96 [x] w λu w'=>∃ K:SeK,(K.w0=w/\K.f=f/\K.ds=ds/\K.kf=kf/\K.pf=pf/\K.BB=BB/\K.tot=tot/\K.L=L)/\u=.pointer (some ⟨K.sb,0,none⟩)/\SeF K/\SeV K w' [] (pS K.pf 0 0) 0 32 w'.heap.size/\Ext w w':=by
 obtain ⟨DA,dc,BA,cb,KA,ck,PA,cp,tv,ah,ag,rfl,aj,ak,hD,hB,hK,hP,a8,ai⟩:=id ix.ex;obtain ⟨TA,tc,rfl,_⟩:=id a8;refine Jz Tryz.func96 Tryz.ntmps96 rfl kr rfl ?_;refine ρ ?_;refine bx ?_;intro w1 b a7 hb ae;have a3:Ext w1 w1.drew:=(Ext.refl w1).drew;have a5:=ae.ext a3;have G:=a7.trans a3;refine ρ ?_;refine drG kr ?_;refine Kd (fuel':=5) [(0,0),(0,1)] #[true,true,false,false,false,false,false] kr kr rfl ?_;refine ρd ?_;refine Qk (cs:=[.slice DA f dc,.slice BA f cb,.slice KA f ck,.slice PA f cp,.slice TA (Jq tot).length tc]) (λj u hu=>a5.at hu) ?_;refine ρd ?_;refine Qk (cs:=[.slice DA f dc,.slice BA f cb,.slice KA f ck,.slice PA f cp,.slice TA (Jq tot).length tc]) (λj u hu=>a5.at hu) ?_;refine ρd ?_;refine Kf ?_;refine gcut 3 #[true,true,true,true,false,false,false] (fun (q:Option Addr×Nat×Nat)=>[(4,.agg #[.slice DA f dc,.slice BA f cb,.slice KA f ck,.slice PA f cp,.slice TA (Jq tot).length tc]),(6,.slice q.1 f q.2.1),(7,.map (some q.2.2))])
  (λq W=>Ext w1.drew W/\f<=q.2.1/\w1.drew.heap.size<=q.2.2/\MapS Tryz.prog 3 W q.2.2 0 (λ_=>none)/\Off (λk=>k=q.2.2) W (λu=>Rd u 3 q.1 f (Qf f (Qb kf pf)))) ?_ ?_
 .rintro ⟨A,c,Z⟩ w2 ⟨C,J,hm,U,O⟩;simp only at J hm U O;refine Kd (fuel':=0) [(1,4),(1,5),(0,6)] #[true,true,true,true,true,true,true] kr kr rfl ?_;refine Uk ?_;refine bld (Qng _ _ _ _ _ _ _ _ _ _ _ _ _ _ _ _ _ _ _ _) ?_;refine Jh (Uz (Ext.refl _) ?_);refine Uk ?_;refine bx ?_;intro w3 sb o a9 a4;refine Jh (Uz o ?_);refine ρd ?_;refine Kf ?_;refine gend kr ?_;obtain ⟨K,hK⟩:∃ K:SeK,K=⟨B0,w,w2,Z,sb,.slice DA f dc,.slice BA f cb,.slice KA f ck,.slice PA f cp,.slice TA (Jq tot).length tc,A,c,f,ds,kf,pf,BB,tot,L⟩:=⟨_,rfl⟩;have hF:SeF K:=by
   subst hK;exact ⟨tb,ix,ip,ne,G.trans C,Nat.le_trans G.size hm,U.lt,a9,J,O,Qcr⟩
  have hV:SeV K w3 [] (λ_=>false) 0 0 w3.heap.size:=by
   subst hK;exact ⟨.slice none 0 0,0,λ_=>none,⟨GrN.ext o,a4,Xs _ _ _ _,U.ext o,Nat.le_refl _,λc _ h=>(by cases h),λkl h=>absurd rfl h⟩,a4.lt,λg eg=>by simp [Value.ownBlock]at eg⟩
  have a6:K.w0=w/\K.f=f/\K.ds=ds/\K.kf=kf/\K.pf=pf/\K.BB=BB/\K.tot=tot/\K.L=L:=by subst hK;exact ⟨rfl,rfl,rfl,rfl,rfl,rfl,rfl,rfl⟩
  have af:sb=K.sb:=by subst hK;rfl
  have a2:=(G.trans C).trans o;have em:w.heap.size<=K.mb:=by rw [<-a6.1];exact hF.m1
  have am:K.f<=32:=hF.ip.f32;subst af;refine ρ ?_;refine cl (Qxp hF hV om AX.Gp.nil (by simp) (v:=-1) rfl) ?_;rintro u w4 ⟨rfl,ab,ac⟩;refine ρ ?_;refine Jj ⟨K,a6,rfl,hF,(ac.top.same λc J=>?_).more om,ab.old a2 λk hk=>by rw [hk];exact em⟩;have:=hF.ip.par hF.ne J;unfold pS;rw [Bool.eq_iff_iff];simp only [Bool.or_eq_true,Bool.and_eq_true,decide_eq_true_eq];constructor
  .rintro (h|h)
   .cases h
   .exact ⟨Nat.zero_le _,om⟩
  .rintro ⟨_,h⟩;right;omega
 .intro rest;refine gtwo 2 3 kr rfl rfl rfl ?_ ?_
  .refine ρ ?_;refine cl (Jrz (ix.ext G)) ?_;rintro u w2 ⟨⟨A,c,rfl,J,hR,hf⟩,C⟩;refine Jh (Jvd C ?_);refine Kd (fuel':=3) [(1,3)] #[true,true,true,true,false,false,false] kr kr rfl ?_;refine Uk ?_;refine mkm 3 ?_;intro w3 Z o a1 U;refine Jh (Uz o ?_);refine Uw (Kf ?_);refine rest (A,c,Z) _ _ ⟨C.trans o,J,Nat.le_trans C.size a1,U,Jnm (hR.ext o) λh0 ad e (e2:ad.block=Z)=>?_⟩ sB;have e:A=some ad:=e;obtain ⟨an,e',aa⟩:=hR.2 h0;rw [e]at e';injection e' with e'
   have:=aa.1;rw [<-e']at this;omega
  .refine ρ ?_;refine mkm 3 ?_;intro w2 Z C a1 U;refine Jh (Jvd C ?_);refine Kd (fuel':=3) [(1,2)] #[true,true,true,true,false,false,false] kr kr rfl ?_;refine Uk ?_;refine cl (Jrz (ix.ext (G.trans C))) ?_;rintro u w3 ⟨⟨A,c,rfl,J,hR,hf⟩,o⟩;refine Jh (Uz o ?_);refine Uw (Kf ?_);refine rest (A,c,Z) _ _ ⟨C.trans o,J,a1,U.ext o,Jnm hR λh0 ad e (e2:ad.block=Z)=>?_⟩ sB;have:=hf ad e;have:=U.lt;omega
end
section
variable {K:SeK} {w:World} {y:Row} {S:Nat->Bool} {st M B:Nat}
theorem SeV.steps(hF:SeF K)(h:SeV K w y S st M B)(k:Nat): SeV K (w.setCell ((⟨K.sb,0,none⟩:Addr).add 8) (.int .i64 ((st+k:Nat):Int))) y S (st+k) M B/\GrN (λk=>k=K.sb) w (w.setCell ((⟨K.sb,0,none⟩:Addr).add 8) (.int .i64 ((st+k:Nat):Int))):=by
 obtain ⟨yv,m,fm,H,C⟩:=h;have o:GrN (λk=>k=K.sb) w (w.setCell ((⟨K.sb,0,none⟩:Addr).add 8) (.int .i64 ((st+k:Nat):Int))):=GrN.set _ rfl;refine ⟨⟨yv,m,fm,⟨?_,H.blk.set 8 _,Jr H.row o λg u e=>?_,H.map.gr o λe=>hF.nsm e.symm,H.mle,H.pd⟩,C⟩,o⟩
 .exact ((H.gr.mono λk _ h=>(.inl h:k=K.mb∨k=K.sb)).trans (o.mono λk _ h=>.inr h)).mono λk G h=>h.elim id λe=>by have:=hF.s1;omega
 .rw [e]at u;exact (Blk.ne_own H.blk H.row rfl) u.symm
theorem SeF.pnb(hF:SeF K)(m:Nat)(z:Row): Nb (K.X.pend m z):=by
 refine Nb.pow (k:=K.f) (Jzb (Nat.pow_pos (by decide)) λc _=>?_) hF.ip.f32;split
 .rw [K.T];exact hF.ip.big _ _
 .exact Nat.pow_pos (by decide)
theorem SeV.ext0(h:SeV K w y S st M B)(hF:SeF K): Ext K.w0 w:=by
 obtain ⟨yv,m,fm,H,_⟩:=h;exact hF.ext H.gr
theorem SeF.has(hF:SeF K){c:Nat}(hc:c<K.f){z:Row}{d:Bool}(hd:K.t c z≠.nil->d=K.ds.getD c false)(v:V):
  Tr.hasT d v (K.t c z)=true↔v∈(K.X.E c (K.X.key c z)).map (·.1):=by
 rw [K.E];by_cases h:K.t c z=.nil
 .rw [h];simp [Tr.hasT,Tr.toL]
 .have o:Iu d (K.t c z).toL:=by
   rw [hd h,<-K.E];exact (hF.ip.srt hF.ne).srt c hc _
  exact (Tr.befT_eq o).2
end
def AcR(f:Nat)(BB:Nat->List BkT)(L:List Row)(y:Row)(k:Nat)(u:Value)(w:World): Prop:=match (wiL L y)[k]? with
 | some r=>∃ A c,∃ st:Nat,u=.tuple #[.slice A r.length c,.int .i64 (st:Int),.int .i64 0]/\RdR w A r/\r.length<=c/\r.length=f/\st<=Qs f λv=>hmB (BB v)
 | none=>u=.tuple #[.slice none 0 0,.int .i64 0,.int .i64 3]
def AcRF(w0:World)(f:Nat)(BB:Nat->List BkT)(L:List Row)(y:Row)(k:Nat)(u:Value)(w:World): Prop:=match (wiL L y)[k]? with
 | some r=>∃ A c,∃ st:Nat,u=.tuple #[.slice A r.length c,.int .i64 (st:Int),.int .i64 0]/\RdR w A r/\r.length<=c/\r.length=f/\(st<=Qs f λv=>hmB (BB v))/\(r≠[]->∀ ad,A=some ad->w0.heap.size<=ad.block)
 | none=>u=.tuple #[.slice none 0 0,.int .i64 0,.int .i64 3]
theorem AcRF.none{w0:World}{f:Nat}{BB:Nat->List BkT}{L:List Row}{y:Row}{k:Nat}{w:World}(h:(wiL L y)[k]?=none): AcRF w0 f BB L y k (.tuple #[.slice none 0 0,.int .i64 0,.int .i64 3]) w:=by
 unfold AcRF;rw [h]
section
variable {f:Nat} {ds:List Bool} {kf:Nat->Nat} {pf:Nat->Int} {BB:Nat->List BkT} {tot:Nat} {L:List Row}
theorem IxP.wi_none(ip:IxP f ds kf pf BB tot L)(ne:tot≠0){y:Row}(hg:¬ (Xm f kf pf BB).Gp y): wiL L y=[]:=by
 unfold wiL;rw [ip.ans ne];exact AX.within_none hg
theorem IxP.wi_some(ip:IxP f ds kf pf BB tot L)(ne:tot≠0){y:Row}(hy:y.length<=f)(hg:(Xm f kf pf BB).Gp y): wiL L y=(Xm f kf pf BB).ext (f-y.length) y:=by
 unfold wiL;rw [ip.ans ne];exact (ip.srt ne).within hy hg
theorem IxP.nbP(ip:IxP f ds kf pf BB tot L)(m:Nat)(z:Row): Nb ((Xm f kf pf BB).pend m z):=by
 refine Nb.pow (k:=f) (Jzb (Nat.pow_pos (by decide)) λc _=>?_) ip.f32;split
 .rw [Qxb];exact ip.big _ _
 .exact Nat.pow_pos (by decide)
theorem IxP.nbT(ip:IxP f ds kf pf BB tot L): Nb tot:=by
 by_cases h:tot=0
 .rw [h];exact (ip.nbP 0 []).le (Nat.zero_le _)
 .rw [<-ip.pend0 h];exact ip.nbP 0 []
theorem Qrd{B0:Nat}{w:World}{x kv:Value}{PA:Option Addr}{pc k:Nat}{y:Row}(tb:TB B0 w)(ix:IxV w x f ds kf pf BB tot)(ip:IxP f ds kf pf BB tot L)(hO:tot≠0->∀ z,(Xm f kf pf BB).Gp z->z.length<f->0<(Xm f kf pf BB).pend z.length z->(Xm f kf pf BB).others z.length z<4294967296)(hy:RdR w PA y)(hk:NatV w kv k):
  Ret Tryz.prog 53 [x,.slice PA y.length pc,kv] w λu w'=>Ext w w'/\(f<y.length->u=.tuple #[.slice none 0 0,.int .i64 0,.int .i64 6])/\(y.length<=f->AcRF w f BB L y k u w'):=by
 obtain ⟨DA,dc,BA,cb,KA,ck,dt,cp,tv,f8,f5,rfl,fi,fj,hD,hB,hK,hP,e2,fa⟩:=id ix.ex;obtain ⟨TA,tc,rfl,_⟩:=id e2;obtain ⟨kA,bq,rfl,_⟩:=id hk;have fo:=ip.f32;refine Jz Tryz.func53 Tryz.ntmps53 rfl kr rfl ?_;refine ρ ?_;refine bx ?_;intro w1 b an hb ay;refine ρ ?_;refine ldW ay ?_;refine ρ ?_;refine cl (Jrx (ix.ext an)) ?_;rintro u w2 ⟨rfl,a5⟩;refine ρ ?_;refine ci (λh=>?_) (λh=>?_)
 .have fd:f<y.length:=by have:=oT h;omega
  refine ρ ?_;exact Ux ⟨an.trans a5,λ_=>rfl,λh=>om⟩
 have cc:y.length<=f:=by have:=oF h;omega
 clear h;refine ρ ?_;refine ldW (ay.ext a5) ?_;refine ρ ?_;refine cl (Qfw (ix.ext (an.trans a5)) ip.nbT) ?_;rintro u w3 ⟨cq,_,b4⟩;have a1:=(an.trans a5).trans b4;obtain ⟨UA,uc,rfl,_⟩:=id cq;refine ρ ?_;refine ci (λh=>?_) (λh=>?_)
 .have h0:tot=0:=by
   have:=Xf h;rcases Nat.eq_zero_or_pos tot with h'|h'
   .exact h'
   .have:=limbs_pos' (show tot≠0 by omega);omega
  refine ρ ?_;refine Ux ⟨a1,λh=>om,λ_=>AcRF.none ?_⟩;have:L=[]:=List.eq_nil_of_length_eq_zero (by rw [<-ip.len];exact h0);rw [this];rfl
 have ne:tot≠0:=λe=>by
  have:=Xg h;rw [e,limbs_0]at this;exact this rfl
 clear h;refine ρ ?_;refine ldW ((ay.ext a5).ext b4) ?_;refine ρ ?_;refine cl (Qrf (tb.ext a1) (ix.ext a1) ip ne) ?_;rintro u w4 ⟨K,⟨e0,rfl,rfl,rfl,rfl,rfl,rfl,rfl⟩,rfl,C,df,e1⟩;have Z:Ext w K.w0:=by rw [e0];exact a1
 have em:Blk K.w0 b 31 [.slice DA K.f dc,.slice BA K.f cb,.slice KA K.f ck,.slice dt K.f cp,.slice TA (Jq K.tot).length tc]:=by rw [e0];exact (ay.ext a5).ext b4
 clear e0 ay an a5 b4 a1 cq;have b7:∀ c,c<K.f->K.pf c<(c:Int):=λc hc=>(C.ip.par ne hc).2;have b8:K.X.Ok:=C.ip.ok ne;have d5:∀ v z,(K.t v z).ht<=hmB (K.BB v):=λv z=>Qkz _ _;have bg:∀ v z,(K.t v z).ht<=65536:=λv z=>nL (Tr.ht_le _) (C.ip.siz _ _);have aq:∀ v z,Nb (K.t v z).sum:=λv z=>Nb.pow (k:=1) (by rw [Nat.pow_one];exact C.ip.big _ _) om;have cv:∀ v z,(K.t v z).sz<=1000000:=λv z=>nL (C.ip.siz _ _) (by decide);refine ρ ?_;refine Jt (fun (i:Nat) (st:Nat)=>[(2,.slice kA (Jq k).length bq),(3,.pointer (some ⟨b,0,none⟩)),(6,.slice none 0 0),(7,.int .i64 0),(8,.int .i64 0),(9,.pointer (some ⟨K.sb,0,none⟩)),(35,.slice PA y.length pc),(36,.int .i64 (y.length:Int)),(37,.int .i64 (i:Int))])
  (λi st w'=>i<=y.length/\K.X.Gp (y.take i)/\SeV K w' (y.take i) (pS K.pf i i) st (32*(i+1)) w'.heap.size/\st<=Qs i (λv=>hmB (K.BB v))/\st<=65536*i) (λi _=>y.length-i) 0 0 sB
  ⟨Nat.zero_le _,AX.Gp.nil,df,Nat.le_refl _,Nat.le_refl _⟩ ?_
 clear df e1 w4;rintro i st w5 ⟨hi,ar,J,b6,bu⟩;have br:=Z.trans (J.ext0 C);have af:(y.take i).length=i:=by rw [List.length_take];omega
 refine ρ ?_;refine ci (λh=>?_) (λh=>?_)
 .have li:i<y.length:=by have:=oT h;omega
  have d4:i<K.f:=om
  clear h;have ce:=Rd.ext hy br;refine ρ ?_;refine ixq 3 i ce li ?_;refine ρ ?_;refine lds (cs:=(y.getD i V0).cells) (λj u' ao=>RdR.cell ce li ao) ?_;refine ρ ?_;refine alc (cs:=V0.cells) Gq ?_;intro w6 dq O dd b1;refine ρ ?_;refine stb (cs':=(y.getD i V0).cells) b1 ?_ (V.one _);intro w7 en c3 a4;have cg:Ext w5 w7:=a4 w5 O dd;have ac:Ext w7 w7.drew:=(Ext.refl w7).drew;have a2:=(J.ext cg).ext ac;have bn:=en.ext ac;have er:K.mb<w5.heap.size:=by obtain ⟨_,_,_,H,_⟩:=J;exact H.map.lt
  have ba:¬ dq=K.mb:=om
  refine ρ ?_;refine drN (λk=>k=K.mb) 10 [(0,0),(0,2),(1,1),(1,3),(0,4),(0,5),(0,6),(0,7),(0,8),(0,9),(0,10)] kr ?_;refine ρn ?_;refine Xd (cs:=(y.getD i V0).cells) (λw' hg j u hu=>(Jd bn hg ba).at hu) ?_;refine ρn ?_;refine nop ?_;refine cl (Qxl C a2 om (by rw [af];unfold pS;simp [b7 i d4])) ?_;rintro u w8 ⟨⟨d,p,rfl,hT,hd⟩,d7,b9⟩;rw [af]at hT hd b9;refine ρ ?_;refine Je d7 ?_;refine ρn ?_;refine nop ?_;refine cl (Qpd (hT.ext (b9.ext0 C)) (aq _ _) (cv _ _)) ?_;rintro u w9 ⟨sv,q,rfl,hq,fb,ae⟩;refine ρ ?_;refine Je (GrN.ext ae) ?_;refine ρn ?_;have bi:=C.has d4 (z:=y.take i) hd (y.getD i V0);refine ρ ?_;refine ci (λh=>?_) (λh=>?_)
  .have e9:¬ K.X.Gp y:=λhg=>by
    have h1:=hg i li;have h2:y.getD i K.X.d0=y.getD i V0:=rfl;rw [h2]at h1;have h3:=bi.2 h1;rw [h3]at h;cases h
   refine ρ ?_;refine Ux ⟨Z.trans ((b9.ext ae).ext0 C),λh=>om,λ_=>AcRF.none ?_⟩;rw [C.ip.wi_none ne e9];rfl
  have cd:Tr.hasT d (y.getD i V0) (K.t i (y.take i))=true:=by
   cases hh:Tr.hasT d (y.getD i V0) (K.t i (y.take i)) with
   | true=>rfl
   | false=>rw [hh]at h;cases h
  clear h;have cy:=bi.1 cd;have av:=b9.ext ae;have c5:=(Jd bn d7 ba).ext ae;obtain ⟨yv,mm,fm,H9,cz⟩:=id av;refine ρ ?_;refine ld (H9.blk.at (i:=8) rfl) ?_;have e6:=d5 i (y.take i);have e5:=bg i (y.take i);refine ρ ?_;refine sto (H9.blk.at (i:=8) rfl) (H9.blk.frozen 8) ?_;obtain ⟨bm,bh⟩:=av.steps C q;obtain ⟨ah,bd⟩:∃ ah,ah=w9.setCell ((⟨K.sb,0,none⟩:Addr).add 8) (.int .i64 ((st+q:Nat):Int)):=⟨_,rfl⟩;have bt:w9.setCell ((⟨K.sb,0,none⟩:Addr).add 8) (.int .i64 ((st:Int)+(q:Int)))=ah:=bd.symm;rw [<-bd]at bm bh;have bp:¬ dq=K.sb:=λe=>by have:=cz.1;omega
  have dn:=Jd c5 bh bp;refine Eq.mpr (congrArg _ bt) ?_;refine ρ ?_;refine lds (cs:=(y.getD i V0).cells) (λj u' ao=>dn.at ao) ?_;have cr:y.take (i+1)=y.take i++[y.getD i V0]:=Qy V0 li;have ag:K.X.Gp (y.take i++[y.getD i V0]):=ar.snoc (by rw [af];exact cy);refine cl (Qxm C (bm.same λc _=>Jpl) om om (y.getD i V0) ag (λc _ hs=>by
   rw [af];unfold pS at hs;simp only [Bool.and_eq_true,decide_eq_true_eq]at hs;exact hs.2)) ?_
  rintro u dv ⟨rfl,_,a3⟩;rw [<-cr,af]at a3;rw [<-cr]at ag;refine ρ ?_;refine Jg (i+1) (st+q) sO ⟨li,ag,(a3.same λc hc=>Jpm (b7 c hc)).more om,?_,om⟩ om;rw [Qs];omega
 have ef:i=y.length:=by have:=oF h;omega
 subst ef;clear h;rw [List.take_length]at ar J;refine ρ ?_;refine cl (Qxn C J) ?_;rw [Qbj];rintro u w6 ⟨co,d9,O⟩;refine ρ ?_;refine cl (Jqh (hk.ext (br.trans O)) co) ?_;rintro u w7 ⟨rfl,a4⟩;have a2:=(J.ext O).ext a4;have cn:=C.ip.wi_some ne cc ar;have cm:(wiL K.L y).length=K.X.pend y.length y:=by
  rw [cn];exact b8.ext_len _ y (by show y.length+(K.f-y.length)=K.f;omega)
 refine ρ ?_;refine ci (λh=>?_) (λh=>?_)
 .have eg:K.X.pend y.length y<=k:=by
   have:=oT h;rcases Nat.lt_or_ge k (K.X.pend y.length y) with h'|h'
   .have:=cmpN_lt.2 h';omega
   .exact h'
  refine ρ ?_;exact Ux ⟨Z.trans (a2.ext0 C),λh=>om,λ_=>AcRF.none (List.getElem?_eq_none (by rw [cm];exact eg))⟩
 have c2:k<K.X.pend y.length y:=by
  rcases Nat.lt_or_ge k (K.X.pend y.length y) with h'|h'
  .exact h'
  .exact absurd (Int.not_lt.1 λeo=>by have:=cmpN_lt.1 eo;omega) (oF h)
 clear h;obtain ⟨r,hr⟩:∃ r,(wiL K.L y)[k]?=some r:=⟨_,List.getElem?_eq_getElem (by rw [cm];exact c2)⟩;have d3:NatX (λq=>q=K.mb) w7 (.slice kA (Jq k).length bq) k:=(NatX.old (N:=λ_=>False) ⟨hk,λ_ _ _ _ _ h=>h⟩ λq hq=>.inr (by rw [hq];exact nL Z.size C.m1)).ext (Z.trans (a2.ext0 C));refine ρ ?_;refine Jjg (fun (z:Row) (st:Nat) (o:Nat) (kv:Value)=>[(2,kv),(3,.pointer (some ⟨b,0,none⟩)),(6,.slice none 0 0),(7,.int .i64 0),(8,.int .i64 0),(9,.pointer (some ⟨K.sb,0,none⟩))])
  (λz st o kv w'=>z.length<=K.f/\K.X.Gp z/\o<K.X.pend z.length z/\(K.X.ext (K.f-z.length) z)[o]?=some r/\SeV K w' z (pS K.pf z.length z.length) st (32*(z.length+1)) w'.heap.size/\NatX (λq=>q=K.mb) w' kv o/\st<=Qs z.length (λv=>hmB (K.BB v))/\st<=65536*z.length) (λz _ _ _=>K.f-z.length) y st k (.slice kA (Jq k).length bq) sB
  ⟨cc,ar,c2,by rw [<-hr,cn];rfl,a2.top,d3,b6,bu⟩ ?_
 clear d3 c2 a2 a4 O d9 co w7 w6 b6 bu br J w5 st af hi ar;rintro z st o kv w5 ⟨hz,d6,ee,b3,J,d2,b6,bu⟩;have ac:Ext w5 w5.drew:=(Ext.refl w5).drew;have ax:=J.ext ac;obtain ⟨yv,mm,fm,H,eb⟩:=id ax;obtain ⟨YA,yc,rfl,f9,_⟩:=Jv H.row;have ai:=ax.ext0 C;have di:=em.ext ai;refine ρ ?_;refine dr [(0,0),(0,1),(0,2),(0,3),(0,4),(0,5),(1,6),(0,7)] kr ?_;refine ρd ?_;refine dld (H.blk.at (i:=6) rfl) ?_;refine ρd ?_;refine Qk (cs:=[.slice DA K.f dc,.slice BA K.f cb,.slice KA K.f ck,.slice dt K.f cp,.slice TA (Jq K.tot).length tc]) (λj u hu=>di.at hu) ?_;refine ρd ?_;refine dcl (Jrx (ix.ext (Z.trans ai))) ?_;rintro u w6 ⟨rfl,O⟩;refine ⟨O,?_⟩;have de:=ax.ext O;have d1:=(d2.ext ac).ext O;clear di ai;refine ρd ?_;refine ρ ?_;refine ci (λh=>?_) (λh=>?_)
 .have lz:z.length<K.f:=by have:=oT h;omega
  clear h;refine ρ ?_;refine cl (Qxl C de lz (by unfold pS;simp [b7 _ lz])) ?_;rintro u w7 ⟨⟨d,p,rfl,hT,hd⟩,c3,a2⟩;refine ρ ?_;refine alc Yj ?_;intro w8 fp dz db dl;refine ρ ?_;refine stW dl ?_;intro w9 c5 ff ae;have aj:Ext w7 w9:=ae w7 dz db;have av:SeV K w9 z (pS K.pf (z.length+1) z.length) st (32*(z.length+1)) w5.heap.size:=(a2.ext aj).same λc _=>Jpl;refine ρ ?_;refine cl (Qxn C av) ?_;rw [Qbk];rintro uo ah ⟨bf,eh,aa⟩;have ab:=b8.others_le lz (show 0<K.X.pend z.length z by omega);have el:=hO ne z d6 lz (show 0<K.X.pend z.length z by omega);have c1:NatV ah kv o:=(((d1.gr c3).ext aj).ext aa).1;have ap:Nb o:=(C.pnb z.length z).le om;refine ρ ?_;refine cl (Qdm c1 bf ap.len ab.1 el) ?_;rintro u dv ⟨⟨qv,rv,rfl,be,cx⟩,a9⟩;refine ρ ?_;have hq:o / K.X.others z.length z<(K.t z.length z).sum:=by
   rw [Nat.div_lt_iff_lt_mul ab.1,<-K.T,<-b8.pend_split lz];exact ee
  have b1:=(c5.ext aa).ext a9;refine ρ ?_;refine ldW b1 ?_;refine ρ ?_;have a3:=(av.ext aa).ext a9;refine cl (Qhm (hT.ext (a3.ext0 C)) be hq (aq _ _) (cv _ _)) ?_;rintro u bo ⟨sv,n,rfl,hn,cw,am⟩;refine ρ ?_;refine alc (cs:=V0.cells) Gq ?_;intro f3 ep cj da dj;refine ρ ?_;refine stb (cs':=(Tr.findT (o / K.X.others z.length z) (K.t z.length z)).1.cells) dj ?_ (V.one _);intro du dm eu ch;have G:Ext bo du:=ch bo cj da;obtain ⟨l1,l2,yy,hL,bw,ed,ec⟩:=Tr.findT_eq hq;have fc:=aq z.length z;have e8:Nb (o / K.X.others z.length z):=ap.le (Nat.div_le_self _ _);have e4:o / K.X.others z.length z-(Tr.findT (o / K.X.others z.length z) (K.t z.length z)).2<=o:=nL (Nat.sub_le _ _) (Nat.div_le_self _ _);refine ρ ?_;refine cl (Qdk (be.ext (am.trans G)) (cw.ext G) e8.len) ?_;rintro u f2 ⟨⟨ov,rfl,e7,fg⟩,ak⟩;rw [if_neg (show ¬ o / K.X.others z.length z<(Tr.findT (o / K.X.others z.length z) (K.t z.length z)).2 by omega)]
  refine ρ ?_;have U:=(am.trans G).trans ak;refine cl (Jwx e7 (bf.ext (a9.trans U)) (ap.le e4).len (Nb.len ((C.pnb z.length z).le ab.2))) ?_;rintro mv f0 ⟨ea,fh,a8⟩;have fe:(o / K.X.others z.length z-(Tr.findT (o / K.X.others z.length z) (K.t z.length z)).2)*K.X.others z.length z+o % K.X.others z.length z<=o:=by
   have h1:=Nat.div_add_mod o (K.X.others z.length z);have h2:=nO (K.X.others z.length z) (Nat.sub_le (o / K.X.others z.length z) (Tr.findT (o / K.X.others z.length z) (K.t z.length z)).2);rw [Nat.mul_comm (o / K.X.others z.length z)]at h2;omega
  refine ρ ?_;refine cl (Jqj ea (cx.ext (U.trans a8)) (ap.le om).len (ap.le (Nat.mod_le _ _)).len) ?_;rintro c9 c8 ⟨c0,c4,bb⟩;have b5:=(U.trans a8).trans bb;have bl:=a3.ext b5;obtain ⟨ey,f7,fl,c6,bv⟩:=id bl;have e6:=d5 z.length z;have e5:=bg z.length z;refine ρ ?_;refine ld (c6.blk.at (i:=8) rfl) ?_;refine ρ ?_;refine sto (c6.blk.at (i:=8) rfl) (c6.blk.frozen 8) ?_;obtain ⟨bj,au⟩:=bl.steps C n;obtain ⟨b2,bc⟩:∃ b2,b2=c8.setCell ((⟨K.sb,0,none⟩:Addr).add 8) (.int .i64 ((st+n:Nat):Int)):=⟨_,rfl⟩;have bs:c8.setCell ((⟨K.sb,0,none⟩:Addr).add 8) (.int .i64 ((st:Int)+(n:Int)))=b2:=bc.symm;rw [<-bc]at bj au;have f4:w5.heap.size<=bo.heap.size:=nL (nL ac.size (O.size)) (nL c3.size (((aj.trans aa).trans a9).trans am).size);have bp:¬ ep=K.sb:=λe=>by have:=bv.1;omega
  have dk:=Jd (dm.ext ((ak.trans a8).trans bb)) au bp;refine Eq.mpr (congrArg _ bs) ?_;refine ρ ?_;refine lds (cs:=(Tr.findT (o / K.X.others z.length z) (K.t z.length z)).1.cells) (λj u' ao=>dk.at ao) ?_;have dh:K.X.E z.length (K.X.key z.length z)=l1++((Tr.findT (o / K.X.others z.length z) (K.t z.length z)).1,yy)::l2:=by rw [K.E];exact hL
  have a6:=b8.ext_at (n:=K.f-(z.length+1)) (y:=z) (by show z.length+(K.f-(z.length+1)+1)=K.f;omega) dh ab.1 (by rw [bw];exact ed) (by rw [bw];exact ec);rw [bw]at a6;have ag:K.X.Gp (z++[(Tr.findT (o / K.X.others z.length z) (K.t z.length z)).1]):=d6.snoc (by rw [dh];simp);have a7:(z++[(Tr.findT (o / K.X.others z.length z) (K.t z.length z)).1]).length=z.length+1:=by simp
  refine cl (Qxm C bj om lz _ ag (λc _ hs=>by
   unfold pS at hs;simp only [Bool.and_eq_true,decide_eq_true_eq]at hs;exact hs.2)) ?_
  rintro u ez ⟨rfl,d8,dg⟩;refine ρ ?_;have bz:NatX (λq=>q=K.mb∨q<w5.heap.size) b2 c9 _:=(c4.x (N:=λq=>q=K.mb∨q<w5.heap.size∨q=K.sb) c0 λq hq=>by
   have h1:=(G.trans (ak.trans a8)).size;have h2:=eb.1;rcases hq with h|h|h
   .rw [h];have:=J.ext0 C;obtain ⟨_,_,_,H5,_⟩:=J;have:=H5.map.lt;omega
   .omega
   .omega) |>.gr (au.mono λq _ h=>.inr (.inr h)) |>.old λq hq=>.inl (by rcases hq with h|h;exact .inl h;exact .inr (.inl h))
  refine Gy (z++[(Tr.findT (o / K.X.others z.length z) (K.t z.length z)).1]) (st+n) ((o / K.X.others z.length z-(Tr.findT (o / K.X.others z.length z) (K.t z.length z)).2)*K.X.others z.length z+o % K.X.others z.length z) c9 sO
   ⟨by rw [a7];omega,ag,by rw [a7];exact a6.2,?_,?_,(bz.gr (d8.mono λq _ h=>.inr h)).old λq hq=>.inl (.inl hq),?_,?_⟩ (by rw [a7];omega)
  .rw [a7,<-a6.1,<-b3];congr 2;omega
  .rw [a7];exact (dg.same λc hc=>Jpm (b7 c hc)).more om
  .rw [a7,Qs];omega
  .rw [a7];omega
 .have ca:z.length=K.f:=by have:=oF h;omega
  clear h;have dx:Ext w6 w6.drew:=(Ext.refl w6).drew;have aw:=de.ext dx;obtain ⟨ew,f6,fk,H3,et⟩:=id aw;obtain ⟨YB,yd,rfl,dw,_⟩:=Jv H3.row;refine ρ ?_;refine dr [(0,0),(0,1),(0,2),(0,3),(0,5),(0,6),(0,7),(0,8),(1,4),(0,9),(0,10),(0,11)] kr ?_;refine ρd ?_;refine dld (H3.blk.at (i:=6) rfl) ?_;refine ρd ?_;refine dld (H3.blk.at (i:=8) rfl) ?_;refine ρd ?_;refine dcl (Jxd (r:=z) ⟨YB,yd,rfl,dw,om,Rd.own H3.row⟩ (λq=>q<w.heap.size) (λq hq=>nM hq (Z.trans (aw.ext0 C)).size)) ?_;rintro u w7 ⟨⟨A7,c7,rfl,ej,_,ek,ei⟩,a4⟩;refine ⟨a4,?_⟩;refine ρd ?_;refine ρ ?_;refine Ux ⟨Z.trans ((aw.ext a4).ext0 C),λh=>om,λ_=>?_⟩;have e3:r=z:=by
   have e:K.f-z.length=0:=om
   rw [e,AX.ext]at b3;cases o with
   | zero=>simpa using b3.symm
   | succ o=>simp at b3
  unfold AcRF;rw [hr,e3];exact ⟨A7,c7,st,rfl,ek,ej,ca,by rw [<-ca];exact b6,λh0 ad e=>Nat.le_of_not_lt (ei h0 ad e)⟩
end
open Go.RowKit Pl Go.Wk
structure IxA(w:World)(x:Value)(f:Nat)(ds:List Bool)(kf:Nat->Nat)(pf:Nat->Int)(BB:Nat->List BkT)(tot:Nat)(L:List Row): Prop where
 tb:∃ B0,TB B0 w
 ix:IxV w x f ds kf pf BB tot
 ip:IxP f ds kf pf BB tot L
 ho:tot≠0->∀ z,(Xm f kf pf BB).Gp z->z.length<f->0<(Xm f kf pf BB).pend z.length z->(Xm f kf pf BB).others z.length z<4294967296
 hb:∀ v b,b∈BB v->b.2.ht<=65536
section
variable {w:World} {x:Value} {f:Nat} {ds:List Bool} {kf:Nat->Nat} {pf:Nat->Int} {BB:Nat->List BkT} {tot:Nat} {L:List Row}
theorem IxA.ext(h:IxA w x f ds kf pf BB tot L){w':World}(hx:Ext w w'): IxA w' x f ds kf pf BB tot L:=by
 obtain ⟨o,ht⟩:=h.tb;exact ⟨⟨o,ht.ext hx⟩,h.ix.ext hx,h.ip,h.ho,h.hb⟩
def AtR(f:Nat)(BB:Nat->List BkT)(L:List Row)(k:Nat)(u:Value)(w:World): Prop:=match L[k]? with
 | some r=>∃ A c,∃ st:Nat,u=.tuple #[.slice A r.length c,.int .i64 (st:Int),.int .i64 0]/\RdR w A r/\r.length<=c/\r.length=f/\st<=Qs f λv=>hmB (BB v)
 | none=>u=.tuple #[.slice none 0 0,.int .i64 0,.int .i64 3]
theorem Qzt(L:List Row): wiL L []=L:=by simp [wiL]
theorem Qzr(h:IxA w x f ds kf pf BB tot L){y:Row}{PA:Option Addr}{pc k:Nat}{kv:Value}(hy:RdR w PA y)(hk:NatV w kv k):
  Ret Tryz.prog 53 [x,.slice PA y.length pc,kv] w λu w'=>Ext w w'/\(f<y.length->u=.tuple #[.slice none 0 0,.int .i64 0,.int .i64 6])/\(y.length<=f->AcRF w f BB L y k u w'):=by
 obtain ⟨o,ht⟩:=h.tb;exact Qrd ht h.ix h.ip h.ho hy hk
def AtRF(w0:World)(f:Nat)(BB:Nat->List BkT)(L:List Row)(k:Nat)(u:Value)(w:World): Prop:=match L[k]? with
 | some r=>∃ A c,∃ st:Nat,u=.tuple #[.slice A r.length c,.int .i64 (st:Int),.int .i64 0]/\RdR w A r/\r.length<=c/\r.length=f/\(st<=Qs f λv=>hmB (BB v))/\(r≠[]->∀ ad,A=some ad->w0.heap.size<=ad.block)
 | none=>u=.tuple #[.slice none 0 0,.int .i64 0,.int .i64 3]
theorem AtRF.weak{w0:World}{k:Nat}{u:Value}(h:AtRF w0 f BB L k u w): AtR f BB L k u w:=by
 unfold AtRF at h;unfold AtR;cases hr:L[k]? with
 | none=>rw [hr]at h;exact h
 | some r=>rw [hr]at h;obtain ⟨A,c,st,O,J,G,C,o,_⟩:=h;exact ⟨A,c,st,O,J,G,C,o⟩
theorem Qpp(h:IxA w x f ds kf pf BB tot L){k:Nat}{kv:Value}(hk:NatV w kv k):
  Ret Tryz.prog 17 [x,kv] w λu w'=>Ext w w'/\AtRF w f BB L k u w':=by
 obtain ⟨DA,dc,BA,cb,KA,ck,PA,cp,tv,Z,U,rfl,a2,a3,hD,hB,hK,hP,J,a1⟩:=id h.ix.ex;obtain ⟨TA,tc,rfl,_⟩:=id J;refine Jz Tryz.func17 Tryz.ntmps17 rfl kr rfl ?_;refine ρ ?_;refine bx ?_;intro w1 b o hb O;refine ρ ?_;refine ldW O ?_;refine ρ ?_;refine cl (Qzr (y:=[]) (PA:=none) (pc:=0) (h.ext o) Rd.nil (hk.ext o)) ?_;rintro u w2 ⟨G,_,h2⟩;have C:=h2 (Nat.zero_le _);unfold AcRF at C;rw [Qzt]at C;cases hr:L[k]? with
 | none=>
  rw [hr]at C;simp only at C;subst C;refine ρ ?_;refine Ux ⟨o.trans G,?_⟩;unfold AtRF;rw [hr]
 | some r=>
  rw [hr]at C;simp only at C;obtain ⟨A,c,st,rfl,h5,h6,h7,h8,h9⟩:=C;refine ρ ?_;refine Ux ⟨o.trans G,?_⟩;unfold AtRF;rw [hr];exact ⟨A,c,st,rfl,h5,h6,h7,h8,λh0 ad e=>nL o.size (h9 h0 ad e)⟩
theorem at_any(h:IxA w x f ds kf pf BB tot L){k:Nat}{kv:Value}(hk:NatV w kv k):
  Ret Tryz.prog 17 [x,kv] w λu w'=>Ext w w'/\AtR f BB L k u w':=(Qpp h hk).mono λu w' ⟨C,o⟩=>⟨C,o.weak⟩
end
end Go.Proofs.YtebcagekopgdhaaGreatDoor
