/- Part 38 of the proof: Ac3, Ac4. -/
import Derived.Test.YtefpailelagbkaaGreatDoorJ37
set_option linter.unusedVariables false
set_option maxRecDepth 100000
set_option maxHeartbeats 40000000
namespace Go.Proofs.YtefpailelagbkaaGreatDoor
open Go.RowKit Pl Go.Wk
attribute [local irreducible] WC WL QX WD WDB WP WN WG WH
def pS(pf:Nat->Int)(m q:Nat)(c:Nat): Bool:=decide (m<=c) && decide (pf c<(q:Int))
theorem Qys(K:SeK)(m:Nat)(y:Row): K.X.prodS (pS K.pf m m) y=K.X.pend m y:=Jxk λc _=>by
 simp only [pS,Bool.and_eq_true,decide_eq_true_eq];rfl
theorem Jtl(K:SeK)(m:Nat)(y:Row): K.X.prodS (pS K.pf (m+1) m) y=K.X.others m y:=Jxk λc _=>by
 simp only [pS,Bool.and_eq_true,decide_eq_true_eq];rfl
theorem Qgc{pf:Nat->Int}{m c:Nat}: (pS pf m m c && !decide (c=m))=pS pf (m+1) m c:=by
 unfold pS;by_cases h1:m<=c<;>by_cases h2:c=m<;>by_cases h3:pf c<(m:Int)<;>simp [h1,h2,h3]<;>omega
theorem Qsc{pf:Nat->Int}{m c:Nat}(hp:pf c<(c:Int)): (pS pf (m+1) m c || decide (pf c=(m:Int)))=pS pf (m+1) (m+1) c:=by
 unfold pS;rw [Bool.eq_iff_iff];simp only [Bool.or_eq_true,Bool.and_eq_true,decide_eq_true_eq];omega
def hmB(bs:List BkT): Nat:=bs.foldl (λm b=>max m b.2.ht) 0
theorem foldl_max{bs:List BkT}: ∀ {m:Nat},m<=bs.foldl (λm b=>max m b.2.ht) m/\∀ b∈bs,b.2.ht<=bs.foldl (λm b=>max m b.2.ht) m:=by
 induction bs with
 | nil=>intro m;exact ⟨Nat.le_refl _,λb i=>by cases i⟩
 | cons a bs ih=>
  intro m;obtain ⟨j,o⟩:=ih (m:=max m a.2.ht);refine ⟨nL (Nat.le_max_left _ _) j,λb i=>?_⟩;rcases List.mem_cons.1 i with rfl|i
  ·exact nL (Nat.le_max_right _ _) j
  ·exact o b i
theorem Xkf(bs:List BkT)(k:Row): (trK bs k).ht<=hmB bs:=by
 unfold trK;cases hf:bs.find? λb=>decide (b.1=k) with
 | none=>exact Nat.zero_le _
 | some b=>exact foldl_max.2 b (List.mem_of_find?_eq_some hf)
def wiL(L:List Row)(y:Row): List Row:=L.filter λx=>decide (x.take y.length=y)
theorem Qll(A B C D E F:Option Addr)(a b c d e f a' b' c' d' e' f':Nat)(mb:Nat)(w:World): (Instr.build 131 #[(0,.agg #[.slice A a a',.slice B b b',.slice C c c',.slice D d d',.slice E e e']),(1,.slice F f f'),(3,.map (some mb))]).run Tryz.prog w=.ok (.agg #[.slice A a a',.slice B b b',.slice C c c',.slice D d d',.slice E e e',.slice F f f',.slice none 0 0,.map (some mb),.int .i64 0]) w:=by kernel_rfl
section
variable {f:Nat} {ds:List Bool} {kf:Nat->Nat} {pf:Nat->Int} {BB:Nat->List BkT} {tot:Nat} {L:List Row}
theorem Qzt{B0:Nat}{w:World}{x:Value}(tb:TB B0 w)(ix:IxV w x f ds kf pf BB tot)(ip:IxP f ds kf pf BB tot L)(ne:tot≠0):
  Ret Tryz.prog 61 [x] w λu w'=>∃ K:SeK,(K.w0=w/\K.f=f/\K.ds=ds/\K.kf=kf/\K.pf=pf/\K.BB=BB/\K.tot=tot/\K.L=L)/\u=.pointer (some ⟨K.sb,0,none⟩)/\SeF K/\SeV K w' [] (pS K.pf 0 0) 0 32 w'.heap.size/\Ext w w':=by
 obtain ⟨DA,dc,BA,cb,KA,ck,PA,cp,tv,ag,af,rfl,ai,aj,hD,hB,hK,hP,a7,ah⟩:=id ix.ex;obtain ⟨TA,tc,rfl,_⟩:=id a7;refine Jjc Tryz.func61 Tryz.ntmps61 rfl (by kernel_rfl) rfl ?_;refine ρ ?_;refine bx ?_;intro w1 b a6 hb ac;have a2:Ext w1 w1.drew:=(Ext.refl w1).drew;have a4:=ac.ext a2;have C:=a6.trans a2;refine ρ ?_;refine drG (by kernel_rfl) ?_;refine Qsp (fuel':=5) [(0,0),(0,1)] #[true,true,false,false,false,false,false] (by kernel_rfl) (by kernel_rfl) rfl ?_;refine ρd ?_;refine Jws (cs:=[.slice DA f dc,.slice BA f cb,.slice KA f ck,.slice PA f cp,.slice TA (Jjf tot).length tc]) (λj u hu=>a4.at hu) ?_;refine ρd ?_;refine Jws (cs:=[.slice DA f dc,.slice BA f cb,.slice KA f ck,.slice PA f cp,.slice TA (Jjf tot).length tc]) (λj u hu=>a4.at hu) ?_;refine ρd ?_;refine Qjp ?_;refine gcut 3 #[true,true,true,true,false,false,false] (fun (q:Option Addr×Nat×Nat)=>[(4,.agg #[.slice DA f dc,.slice BA f cb,.slice KA f ck,.slice PA f cp,.slice TA (Jjf tot).length tc]),(6,.slice q.1 f q.2.1),(7,.map (some q.2.2))])
  (λq W=>Ext w1.drew W/\f<=q.2.1/\w1.drew.heap.size<=q.2.2/\MapS Tryz.prog 3 W q.2.2 0 (λ_=>none)/\Off (λk=>k=q.2.2) W (λu=>Rd u 3 q.1 f (Jxn f (Jvt kf pf)))) ?_ ?_
 ·rintro ⟨A,c,O⟩ w2 ⟨o,D,hm,J,G⟩;simp only at D hm J G;refine Qsp (fuel':=0) [(1,4),(1,5),(0,6)] #[true,true,true,true,true,true,true] (by kernel_rfl) (by kernel_rfl) rfl ?_;refine Jmg ?_;refine bld (Qll _ _ _ _ _ _ _ _ _ _ _ _ _ _ _ _ _ _ _ _) ?_;refine Jzr (Jmf (Ext.refl _) ?_);refine Jmg ?_;refine bx ?_;intro w3 sb i a8 a3;refine Jzr (Jmf i ?_);refine ρd ?_;refine Qjp ?_;refine gend (by kernel_rfl) ?_;obtain ⟨K,hK⟩:∃ K:SeK,K=⟨B0,w,w2,O,sb,.slice DA f dc,.slice BA f cb,.slice KA f ck,.slice PA f cp,.slice TA (Jjf tot).length tc,A,c,f,ds,kf,pf,BB,tot,L⟩:=⟨_,rfl⟩;have Z:SeF K:=by
   subst hK;exact ⟨tb,ix,ip,ne,C.trans o,Nat.le_trans C.size hm,J.lt,a8,D,G,Xkz⟩
  have hV:SeV K w3 [] (λ_=>false) 0 0 w3.heap.size:=by
   subst hK;exact ⟨.slice none 0 0,0,λ_=>none,⟨GrN.ext i,a3,Jxm _ _ _ _,J.ext i,Nat.le_refl _,λc _ h=>(by cases h),λkl h=>absurd rfl h⟩,a3.lt,λg eg=>by simp [Value.ownBlock]at eg⟩
  have a5:K.w0=w/\K.f=f/\K.ds=ds/\K.kf=kf/\K.pf=pf/\K.BB=BB/\K.tot=tot/\K.L=L:=by subst hK;exact ⟨rfl,rfl,rfl,rfl,rfl,rfl,rfl,rfl⟩
  have ae:sb=K.sb:=by subst hK;rfl
  have a1:=(C.trans o).trans i;have em:w.heap.size<=K.mb:=by rw [<-a5.1];exact Z.m1
  have ak:K.f<=32:=Z.ip.f32;subst ae;refine ρ ?_;refine cl (Qqh Z hV (by omega) AX.Gp.nil (by simp) (v:=-1) rfl) ?_;rintro u w4 ⟨rfl,aa,ab⟩;refine ρ ?_;refine Jjr ⟨K,a5,rfl,Z,(ab.top.same λc D=>?_).more (by omega),aa.old a1 λk hk=>by rw [hk];exact em⟩;have:=Z.ip.par Z.ne D;unfold pS;rw [Bool.eq_iff_iff];simp only [Bool.or_eq_true,Bool.and_eq_true,decide_eq_true_eq];constructor
  ·rintro (h|h)
   ·cases h
   ·exact ⟨Nat.zero_le _,by omega⟩
  ·rintro ⟨_,h⟩;right;omega
 ·intro rest;refine gtwo 2 3 (by kernel_rfl) rfl rfl rfl ?_ ?_
  ·refine ρ ?_;refine cl (Jpb (ix.ext C)) ?_;rintro u w2 ⟨⟨A,c,rfl,D,hR,hf⟩,o⟩;refine Jzr (Qnt o ?_);refine Qsp (fuel':=3) [(1,3)] #[true,true,true,true,false,false,false] (by kernel_rfl) (by kernel_rfl) rfl ?_;refine Jmg ?_;refine mkm 3 ?_;intro w3 O i U J;refine Jzr (Jmf i ?_);refine Qhs (Qjp ?_);refine rest (A,c,O) _ _ ⟨o.trans i,D,Nat.le_trans o.size U,J,Xkq (hR.ext i) λh0 ad e (e2:ad.block=O)=>?_⟩ sB;have e:A=some ad:=e;obtain ⟨am,e',a9⟩:=hR.2 h0;rw [e]at e';injection e' with e'
   have:=a9.1;rw [<-e']at this;omega
  ·refine ρ ?_;refine mkm 3 ?_;intro w2 O o U J;refine Jzr (Qnt o ?_);refine Qsp (fuel':=3) [(1,2)] #[true,true,true,true,false,false,false] (by kernel_rfl) (by kernel_rfl) rfl ?_;refine Jmg ?_;refine cl (Jpb (ix.ext (C.trans o))) ?_;rintro u w3 ⟨⟨A,c,rfl,D,hR,hf⟩,i⟩;refine Jzr (Jmf i ?_);refine Qhs (Qjp ?_);refine rest (A,c,O) _ _ ⟨o.trans i,D,U,J.ext i,Xkq hR λh0 ad e (e2:ad.block=O)=>?_⟩ sB;have:=hf ad e;have:=J.lt;omega
end
section
variable {K:SeK} {w:World} {y:Row} {S:Nat->Bool} {st M B:Nat}
theorem SeV.steps(hF:SeF K)(h:SeV K w y S st M B)(k:Nat): SeV K (w.setCell ((⟨K.sb,0,none⟩:Addr).add 8) (.int .i64 ((st+k:Nat):Int))) y S (st+k) M B/\GrN (λk=>k=K.sb) w (w.setCell ((⟨K.sb,0,none⟩:Addr).add 8) (.int .i64 ((st+k:Nat):Int))):=by
 obtain ⟨yv,m,fm,H,o⟩:=h;have i:GrN (λk=>k=K.sb) w (w.setCell ((⟨K.sb,0,none⟩:Addr).add 8) (.int .i64 ((st+k:Nat):Int))):=GrN.set _ rfl;refine ⟨⟨yv,m,fm,⟨?_,H.blk.set 8 _,Jjq H.row i λg j e=>?_,H.map.gr i λe=>hF.nsm e.symm,H.mle,H.pd⟩,o⟩,i⟩
 ·exact ((H.gr.mono λk _ h=>(.inl h:k=K.mb∨k=K.sb)).trans (i.mono λk _ h=>.inr h)).mono λk u h=>h.elim id λe=>by have:=hF.s1;omega
 ·rw [e]at j;exact (Blk.ne_own H.blk H.row rfl) j.symm
theorem SeF.pnb(hF:SeF K)(m:Nat)(z:Row): Nb (K.X.pend m z):=by
 refine Nb.pow (k:=K.f) (Jkj (Nat.pow_pos (by decide)) λc _=>?_) hF.ip.f32;split
 ·rw [K.T];exact hF.ip.big _ _
 ·exact Nat.pow_pos (by decide)
theorem SeV.ext0(h:SeV K w y S st M B)(hF:SeF K): Ext K.w0 w:=by
 obtain ⟨yv,m,fm,H,_⟩:=h;exact hF.ext H.gr
theorem SeF.has(hF:SeF K){c:Nat}(hc:c<K.f){z:Row}{d:Bool}(hd:K.t c z≠.nil->d=K.ds.getD c false)(v:V):
  Tr.hasT d v (K.t c z)=true↔v∈(K.X.E c (K.X.key c z)).map (·.1):=by
 rw [K.E];by_cases h:K.t c z=.nil
 ·rw [h];simp [Tr.hasT,Tr.toL]
 ·have i:Xxn d (K.t c z).toL:=by
   rw [hd h,<-K.E];exact (hF.ip.srt hF.ne).srt c hc _
  exact (Tr.befT_eq i).2
end
def AcR(f:Nat)(BB:Nat->List BkT)(L:List Row)(y:Row)(k:Nat)(u:Value)(w:World): Prop:=match (wiL L y)[k]? with
 | some r=>∃ A c,∃ st:Nat,u=.tuple #[.slice A r.length c,.int .i64 (st:Int),.int .i64 0]/\RdR w A r/\r.length<=c/\r.length=f/\st<=Jcg f λv=>hmB (BB v)
 | none=>u=.tuple #[.slice none 0 0,.int .i64 0,.int .i64 3]
theorem AcR.none{f:Nat}{BB:Nat->List BkT}{L:List Row}{y:Row}{k:Nat}{w:World}(h:(wiL L y)[k]?=none): AcR f BB L y k (.tuple #[.slice none 0 0,.int .i64 0,.int .i64 3]) w:=by
 unfold AcR;rw [h]
section
variable {f:Nat} {ds:List Bool} {kf:Nat->Nat} {pf:Nat->Int} {BB:Nat->List BkT} {tot:Nat} {L:List Row}
theorem IxP.wi_none(ip:IxP f ds kf pf BB tot L)(ne:tot≠0){y:Row}(hg:¬ (Jgv f kf pf BB).Gp y): wiL L y=[]:=by
 unfold wiL;rw [ip.ans ne];exact AX.within_none hg
theorem IxP.wi_some(ip:IxP f ds kf pf BB tot L)(ne:tot≠0){y:Row}(hy:y.length<=f)(hg:(Jgv f kf pf BB).Gp y): wiL L y=(Jgv f kf pf BB).ext (f-y.length) y:=by
 unfold wiL;rw [ip.ans ne];exact (ip.srt ne).within hy hg
theorem IxP.nbP(ip:IxP f ds kf pf BB tot L)(m:Nat)(z:Row): Nb ((Jgv f kf pf BB).pend m z):=by
 refine Nb.pow (k:=f) (Jkj (Nat.pow_pos (by decide)) λc _=>?_) ip.f32;split
 ·rw [Qsx];exact ip.big _ _
 ·exact Nat.pow_pos (by decide)
theorem IxP.nbT(ip:IxP f ds kf pf BB tot L): Nb tot:=by
 by_cases h:tot=0
 ·rw [h];exact (ip.nbP 0 []).le (Nat.zero_le _)
 ·rw [<-ip.pend0 h];exact ip.nbP 0 []
theorem Qqg{B0:Nat}{w:World}{x kv:Value}{PA:Option Addr}{pc k:Nat}{y:Row}(tb:TB B0 w)(ix:IxV w x f ds kf pf BB tot)(ip:IxP f ds kf pf BB tot L)(hO:tot≠0->∀ z,(Jgv f kf pf BB).Gp z->z.length<f->0<(Jgv f kf pf BB).pend z.length z->(Jgv f kf pf BB).others z.length z<4294967296)(hy:RdR w PA y)(hk:NatV w kv k):
  Ret Tryz.prog 22 [x,.slice PA y.length pc,kv] w λu w'=>Ext w w'/\(f<y.length->u=.tuple #[.slice none 0 0,.int .i64 0,.int .i64 6])/\(y.length<=f->AcR f BB L y k u w'):=by
 obtain ⟨DA,dc,BA,cb,KA,ck,dm,cp,tv,f3,ez,rfl,fe,ff,hD,hB,hK,hP,dw,f6⟩:=id ix.ex;obtain ⟨TA,tc,rfl,_⟩:=id dw;obtain ⟨kA,bn,rfl,_⟩:=id hk;have fi:=ip.f32;refine Jjc Tryz.func22 Tryz.ntmps22 rfl (by kernel_rfl) rfl ?_;refine ρ ?_;refine bx ?_;intro w1 b ak hb av;refine ρ ?_;refine ldW av ?_;refine ρ ?_;refine cl (Jnz (ix.ext ak)) ?_;rintro u w2 ⟨rfl,a4⟩;refine ρ ?_;refine ci (λh=>?_) (λh=>?_)
 ·have f9:f<y.length:=by have:=oT h;omega
  refine ρ ?_;exact Qhk ⟨ak.trans a4,λ_=>rfl,λh=>by omega⟩
 have c8:y.length<=f:=by have:=oF h;omega
 clear h;refine ρ ?_;refine ldW (av.ext a4) ?_;refine ρ ?_;refine cl (Qxt (ix.ext (ak.trans a4)) ip.nbT) ?_;rintro u w3 ⟨cm,_,az⟩;have U:=(ak.trans a4).trans az;obtain ⟨UA,uc,rfl,_⟩:=id cm;refine ρ ?_;refine ci (λh=>?_) (λh=>?_)
 ·have h0:tot=0:=by
   have:=Jqn h;rcases Nat.eq_zero_or_pos tot with h'|h'
   ·exact h'
   ·have:=limbs_pos' (show tot≠0 by omega);omega
  refine ρ ?_;refine Qhk ⟨U,λh=>by omega,λ_=>AcR.none ?_⟩;have:L=[]:=List.eq_nil_of_length_eq_zero (by rw [<-ip.len];exact h0);rw [this];rfl
 have ne:tot≠0:=λe=>by
  have:=Jqk h;rw [e,limbs_0]at this;exact this rfl
 clear h;refine ρ ?_;refine ldW ((av.ext a4).ext az) ?_;refine ρ ?_;refine cl (Qzt (tb.ext U) (ix.ext U) ip ne) ?_;rintro u w4 ⟨K,⟨e0,rfl,rfl,rfl,rfl,rfl,rfl,rfl⟩,rfl,C,db,dv⟩;have a2:Ext w K.w0:=by rw [e0];exact U
 have eh:Blk K.w0 b 34 [.slice DA K.f dc,.slice BA K.f cb,.slice KA K.f ck,.slice dm K.f cp,.slice TA (Jjf K.tot).length tc]:=by rw [e0];exact (av.ext a4).ext az
 clear e0 av ak a4 az U cm;have b3:∀ c,c<K.f->K.pf c<(c:Int):=λc hc=>(C.ip.par ne hc).2;have b4:K.X.Ok:=C.ip.ok ne;have d2:∀ v z,(K.t v z).ht<=hmB (K.BB v):=λv z=>Xkf _ _;have bc:∀ v z,(K.t v z).ht<=65536:=λv z=>nL (Tr.ht_le _) (C.ip.siz _ _);have ao:∀ v z,Nb (K.t v z).sum:=λv z=>Nb.pow (k:=1) (by rw [Nat.pow_one];exact C.ip.big _ _) (by omega);have co:∀ v z,(K.t v z).sz<=1000000:=λv z=>nL (C.ip.siz _ _) (by decide);refine ρ ?_;refine Jqb (fun (i:Nat) (st:Nat)=>[(2,.slice kA (Jjf k).length bn),(3,.pointer (some ⟨b,0,none⟩)),(6,.slice none 0 0),(7,.int .i64 0),(8,.int .i64 0),(9,.pointer (some ⟨K.sb,0,none⟩)),(35,.slice PA y.length pc),(36,.int .i64 (y.length:Int)),(37,.int .i64 (i:Int))])
  (λi st w'=>i<=y.length/\K.X.Gp (y.take i)/\SeV K w' (y.take i) (pS K.pf i i) st (32*(i+1)) w'.heap.size/\st<=Jcg i (λv=>hmB (K.BB v))/\st<=65536*i) (λi _=>y.length-i) 0 0 sB
  ⟨Nat.zero_le _,AX.Gp.nil,db,Nat.le_refl _,Nat.le_refl _⟩ ?_
 clear db dv w4;rintro i st w5 ⟨hi,ap,G,b2,br⟩;have bo:=a2.trans (G.ext0 C);have ad:(y.take i).length=i:=by rw [List.length_take];omega
 refine ρ ?_;refine ci (λh=>?_) (λh=>?_)
 ·have li:i<y.length:=by have:=oT h;omega
  have d1:i<K.f:=by omega
  clear h;have ca:=Rd.ext hy bo;refine ρ ?_;refine ixq 3 i ca li ?_;refine ρ ?_;refine lds (cs:=(y.getD i V0).cells) (λj u' am=>RdR.cell ca li am) ?_;refine ρ ?_;refine alc (cs:=V0.cells) Qml ?_;intro w6 dl J d9 aw;refine ρ ?_;refine stb (cs':=(y.getD i V0).cells) aw ?_ (V.one _);intro w7 ei c0 a3;have cc:Ext w5 w7:=a3 w5 J d9;have ab:Ext w7 w7.drew:=(Ext.refl w7).drew;have Z:=(G.ext cc).ext ab;have bj:=ei.ext ab;have el:K.mb<w5.heap.size:=by obtain ⟨_,_,_,H,_⟩:=G;exact H.map.lt
  have b6:¬ dl=K.mb:=by omega
  refine ρ ?_;refine drN (λk=>k=K.mb) 10 [(0,0),(0,2),(1,1),(1,3),(0,4),(0,5),(0,6),(0,7),(0,8),(0,9),(0,10)] (by kernel_rfl) ?_;refine ρn ?_;refine Jlg (cs:=(y.getD i V0).cells) (λw' hg j u hu=>(Jjw bj hg b6).at hu) ?_;refine ρn ?_;refine nop ?_;refine cl (Jpk C Z (by omega) (by rw [ad];unfold pS;simp [b3 i d1])) ?_;rintro u w8 ⟨⟨d,p,rfl,hT,hd⟩,d4,b5⟩;rw [ad]at hT hd b5;refine ρ ?_;refine Jqt d4 ?_;refine ρn ?_;refine nop ?_;refine cl (Qcn (hT.ext (b5.ext0 C)) (ao _ _) (co _ _)) ?_;rintro u w9 ⟨sv,q,rfl,hq,f7,ac⟩;refine ρ ?_;refine Jqt (GrN.ext ac) ?_;refine ρn ?_;have be:=C.has d1 (z:=y.take i) hd (y.getD i V0);refine ρ ?_;refine ci (λh=>?_) (λh=>?_)
  ·have e5:¬ K.X.Gp y:=λhg=>by
    have h1:=hg i li;have h2:y.getD i K.X.d0=y.getD i V0:=rfl;rw [h2]at h1;have h3:=be.2 h1;rw [h3]at h;cases h
   refine ρ ?_;refine Qhk ⟨a2.trans ((b5.ext ac).ext0 C),λh=>by omega,λ_=>AcR.none ?_⟩;rw [C.ip.wi_none ne e5];rfl
  have c9:Tr.hasT d (y.getD i V0) (K.t i (y.take i))=true:=by
   cases hh:Tr.hasT d (y.getD i V0) (K.t i (y.take i)) with
   | true=>rfl
   | false=>rw [hh]at h;cases h
  clear h;have cv:=be.1 c9;have ar:=b5.ext ac;have c2:=(Jjw bj d4 b6).ext ac;obtain ⟨yv,mm,fm,H9,cw⟩:=id ar;refine ρ ?_;refine ld (H9.blk.at (i:=8) rfl) ?_;have e2:=d2 i (y.take i);have e1:=bc i (y.take i);refine ρ ?_;refine sto (H9.blk.at (i:=8) rfl) (H9.blk.frozen 8) ?_;obtain ⟨bi,bd⟩:=ar.steps C q;obtain ⟨af,b9⟩:∃ af,af=w9.setCell ((⟨K.sb,0,none⟩:Addr).add 8) (.int .i64 ((st+q:Nat):Int)):=⟨_,rfl⟩;have bq:w9.setCell ((⟨K.sb,0,none⟩:Addr).add 8) (.int .i64 ((st:Int)+(q:Int)))=af:=b9.symm;rw [<-b9]at bi bd;have bm:¬ dl=K.sb:=λe=>by have:=cw.1;omega
  have dk:=Jjw c2 bd bm;refine Eq.mpr (congrArg _ bq) ?_;refine ρ ?_;refine lds (cs:=(y.getD i V0).cells) (λj u' am=>dk.at am) ?_;have cn:y.take (i+1)=y.take i++[y.getD i V0]:=Jjp V0 li;have ae:K.X.Gp (y.take i++[y.getD i V0]):=ap.snoc (by rw [ad];exact cv);refine cl (Jgg C (bi.same λc _=>Qgc) (by omega) (by omega) (y.getD i V0) ae (λc _ hs=>by
   rw [ad];unfold pS at hs;simp only [Bool.and_eq_true,decide_eq_true_eq]at hs;exact hs.2)) ?_
  rintro u dq ⟨rfl,_,a1⟩;rw [<-cn,ad]at a1;rw [<-cn]at ae;refine ρ ?_;refine Jjm (i+1) (st+q) sO ⟨li,ae,(a1.same λc hc=>Qsc (b3 c hc)).more (by omega),?_,by omega⟩ (by omega);rw [Jcg];omega
 have eb:i=y.length:=by have:=oF h;omega
 subst eb;clear h;rw [List.take_length]at ap G;refine ρ ?_;refine cl (Jmz C G) ?_;rw [Qys];rintro u w6 ⟨cj,d6,J⟩;refine ρ ?_;refine cl (Jkw (hk.ext (bo.trans J)) cj) ?_;rintro u w7 ⟨rfl,a3⟩;have Z:=(G.ext J).ext a3;have ch:=C.ip.wi_some ne c8 ap;have cg:(wiL K.L y).length=K.X.pend y.length y:=by
  rw [ch];exact b4.ext_len _ y (by show y.length+(K.f-y.length)=K.f;omega)
 refine ρ ?_;refine ci (λh=>?_) (λh=>?_)
 ·have ec:K.X.pend y.length y<=k:=by
   have:=oT h;rcases Nat.lt_or_ge k (K.X.pend y.length y) with h'|h'
   ·have:=cmpN_lt.2 h';omega
   ·exact h'
  refine ρ ?_;exact Qhk ⟨a2.trans (Z.ext0 C),λh=>by omega,λ_=>AcR.none (List.getElem?_eq_none (by rw [cg];exact ec))⟩
 have bz:k<K.X.pend y.length y:=by
  rcases Nat.lt_or_ge k (K.X.pend y.length y) with h'|h'
  ·exact h'
  ·exact absurd (Int.not_lt.1 λej=>by have:=cmpN_lt.1 ej;omega) (oF h)
 clear h;obtain ⟨r,hr⟩:∃ r,(wiL K.L y)[k]?=some r:=⟨_,List.getElem?_eq_getElem (by rw [cg];exact bz)⟩;have cz:NatX (λq=>q=K.mb) w7 (.slice kA (Jjf k).length bn) k:=(NatX.old (N:=λ_=>False) ⟨hk,λ_ _ _ _ _ h=>h⟩ λq hq=>.inr (by rw [hq];exact nL a2.size C.m1)).ext (a2.trans (Z.ext0 C));refine ρ ?_;refine Jnk (fun (z:Row) (st:Nat) (o:Nat) (kv:Value)=>[(2,kv),(3,.pointer (some ⟨b,0,none⟩)),(6,.slice none 0 0),(7,.int .i64 0),(8,.int .i64 0),(9,.pointer (some ⟨K.sb,0,none⟩))])
  (λz st o kv w'=>z.length<=K.f/\K.X.Gp z/\o<K.X.pend z.length z/\(K.X.ext (K.f-z.length) z)[o]?=some r/\SeV K w' z (pS K.pf z.length z.length) st (32*(z.length+1)) w'.heap.size/\NatX (λq=>q=K.mb) w' kv o/\st<=Jcg z.length (λv=>hmB (K.BB v))/\st<=65536*z.length) (λz _ _ _=>K.f-z.length) y st k (.slice kA (Jjf k).length bn) sB
  ⟨c8,ap,bz,by rw [<-hr,ch];rfl,Z.top,cz,b2,br⟩ ?_
 clear cz bz Z a3 J d6 cj w7 w6 b2 br bo G w5 st ad hi ap;rintro z st o kv w5 ⟨hz,d3,ea,ay,G,cy,b2,br⟩;have ab:Ext w5 w5.drew:=(Ext.refl w5).drew;have au:=G.ext ab;obtain ⟨yv,mm,fm,H,e7⟩:=id au;obtain ⟨YA,yc,rfl,f5,_⟩:=Jjd H.row;have ag:=au.ext0 C;have df:=eh.ext ag;refine ρ ?_;refine dr [(0,0),(0,1),(0,2),(0,3),(0,4),(0,5),(1,6),(0,7)] (by kernel_rfl) ?_;refine ρd ?_;refine dld (H.blk.at (i:=6) rfl) ?_;refine ρd ?_;refine Jws (cs:=[.slice DA K.f dc,.slice BA K.f cb,.slice KA K.f ck,.slice dm K.f cp,.slice TA (Jjf K.tot).length tc]) (λj u hu=>df.at hu) ?_;refine ρd ?_;refine dcl (Jnz (ix.ext (a2.trans ag))) ?_;rintro u w6 ⟨rfl,J⟩;refine ⟨J,?_⟩;have da:=au.ext J;have cx:=(cy.ext ab).ext J;clear df ag;refine ρd ?_;refine ρ ?_;refine ci (λh=>?_) (λh=>?_)
 ·have lz:z.length<K.f:=by have:=oT h;omega
  clear h;refine ρ ?_;refine cl (Jpk C da lz (by unfold pS;simp [b3 _ lz])) ?_;rintro u w7 ⟨⟨d,p,rfl,hT,hd⟩,c0,Z⟩;refine ρ ?_;refine alc Jdk ?_;intro w8 fj du d8 di;refine ρ ?_;refine stW di ?_;intro w9 c2 fb ac;have ah:Ext w7 w9:=ac w7 du d8;have ar:SeV K w9 z (pS K.pf (z.length+1) z.length) st (32*(z.length+1)) w5.heap.size:=(Z.ext ah).same λc _=>Qgc;refine ρ ?_;refine cl (Jmz C ar) ?_;rw [Jtl];rintro uo af ⟨bb,ed,a9⟩;have aa:=b4.others_le lz (show 0<K.X.pend z.length z by omega);have eg:=hO ne z d3 lz (show 0<K.X.pend z.length z by omega);have bw:NatV af kv o:=(((cx.gr c0).ext ah).ext a9).1;have an:Nb o:=(C.pnb z.length z).le (by omega);refine ρ ?_;refine cl (Qbd bw bb an.len aa.1 eg) ?_;rintro u dq ⟨⟨qv,rv,rfl,ba,cr⟩,a8⟩;refine ρ ?_;have hq:o / K.X.others z.length z<(K.t z.length z).sum:=by
   rw [Nat.div_lt_iff_lt_mul aa.1,<-K.T,<-b4.pend_split lz];exact ea
  have aw:=(c2.ext a9).ext a8;refine ρ ?_;refine ldW aw ?_;refine ρ ?_;have a1:=(ar.ext a9).ext a8;refine cl (Qnz (hT.ext (a1.ext0 C)) ba hq (ao _ _) (co _ _)) ?_;rintro u bl ⟨sv,n,rfl,hn,cq,aj⟩;refine ρ ?_;refine alc (cs:=V0.cells) Qml ?_;intro ew ek ce d7 dg;refine ρ ?_;refine stb (cs':=(Tr.findT (o / K.X.others z.length z) (K.t z.length z)).1.cells) dg ?_ (V.one _);intro dn dj en cd;have D:Ext bl dn:=cd bl ce d7;obtain ⟨l1,l2,yy,hL,bt,e9,e8⟩:=Tr.findT_eq hq;have f8:=ao z.length z;have e4:Nb (o / K.X.others z.length z):=an.le (Nat.div_le_self _ _);have dz:o / K.X.others z.length z-(Tr.findT (o / K.X.others z.length z) (K.t z.length z)).2<=o:=nL (Nat.sub_le _ _) (Nat.div_le_self _ _);refine ρ ?_;refine cl (Qxm (ba.ext (aj.trans D)) (cq.ext D) e4.len) ?_;rintro u eu ⟨⟨ov,rfl,e3,fc⟩,ai⟩;rw [if_neg (show ¬ o / K.X.others z.length z<(Tr.findT (o / K.X.others z.length z) (K.t z.length z)).2 by omega)]
  refine ρ ?_;have O:=(aj.trans D).trans ai;refine cl (Jbc e3 (bb.ext (a8.trans O)) (an.le dz).len (Nb.len ((C.pnb z.length z).le aa.2))) ?_;rintro mv et ⟨e6,fd,a7⟩;have fa:(o / K.X.others z.length z-(Tr.findT (o / K.X.others z.length z) (K.t z.length z)).2)*K.X.others z.length z+o % K.X.others z.length z<=o:=by
   have h1:=Nat.div_add_mod o (K.X.others z.length z);have h2:=nO (K.X.others z.length z) (Nat.sub_le (o / K.X.others z.length z) (Tr.findT (o / K.X.others z.length z) (K.t z.length z)).2);rw [Nat.mul_comm (o / K.X.others z.length z)]at h2;omega
  refine ρ ?_;refine cl (Jzz e6 (cr.ext (O.trans a7)) (an.le (by omega)).len (an.le (Nat.mod_le _ _)).len) ?_;rintro c5 c4 ⟨bv,c1,b7⟩;have b1:=(O.trans a7).trans b7;have bh:=a1.ext b1;obtain ⟨ep,f2,fh,c3,bs⟩:=id bh;have e2:=d2 z.length z;have e1:=bc z.length z;refine ρ ?_;refine ld (c3.blk.at (i:=8) rfl) ?_;refine ρ ?_;refine sto (c3.blk.at (i:=8) rfl) (c3.blk.frozen 8) ?_;obtain ⟨bg,aq⟩:=bh.steps C n;obtain ⟨ax,b8⟩:∃ ax,ax=c4.setCell ((⟨K.sb,0,none⟩:Addr).add 8) (.int .i64 ((st+n:Nat):Int)):=⟨_,rfl⟩;have bp:c4.setCell ((⟨K.sb,0,none⟩:Addr).add 8) (.int .i64 ((st:Int)+(n:Int)))=ax:=b8.symm;rw [<-b8]at bg aq;have ey:w5.heap.size<=bl.heap.size:=nL (nL ab.size (J.size)) (nL c0.size (((ah.trans a9).trans a8).trans aj).size);have bm:¬ ek=K.sb:=λe=>by have:=bs.1;omega
  have dh:=Jjw (dj.ext ((ai.trans a7).trans b7)) aq bm;refine Eq.mpr (congrArg _ bp) ?_;refine ρ ?_;refine lds (cs:=(Tr.findT (o / K.X.others z.length z) (K.t z.length z)).1.cells) (λj u' am=>dh.at am) ?_;have de:K.X.E z.length (K.X.key z.length z)=l1++((Tr.findT (o / K.X.others z.length z) (K.t z.length z)).1,yy)::l2:=by rw [K.E];exact hL
  have a5:=b4.ext_at (n:=K.f-(z.length+1)) (y:=z) (by show z.length+(K.f-(z.length+1)+1)=K.f;omega) de aa.1 (by rw [bt];exact e9) (by rw [bt];exact e8);rw [bt]at a5;have ae:K.X.Gp (z++[(Tr.findT (o / K.X.others z.length z) (K.t z.length z)).1]):=d3.snoc (by rw [de];simp);have a6:(z++[(Tr.findT (o / K.X.others z.length z) (K.t z.length z)).1]).length=z.length+1:=by simp
  refine cl (Jgg C bg (by omega) lz _ ae (λc _ hs=>by
   unfold pS at hs;simp only [Bool.and_eq_true,decide_eq_true_eq]at hs;exact hs.2)) ?_
  rintro u er ⟨rfl,d5,dd⟩;refine ρ ?_;have bu:NatX (λq=>q=K.mb∨q<w5.heap.size) ax c5 _:=(c1.x (N:=λq=>q=K.mb∨q<w5.heap.size∨q=K.sb) bv λq hq=>by
   have h1:=(D.trans (ai.trans a7)).size;have h2:=e7.1;rcases hq with h|h|h
   ·rw [h];have:=G.ext0 C;obtain ⟨_,_,_,H5,_⟩:=G;have:=H5.map.lt;omega
   ·omega
   ·omega) |>.gr (aq.mono λq _ h=>.inr (.inr h)) |>.old λq hq=>.inl (by rcases hq with h|h;exact .inl h;exact .inr (.inl h))
  refine Jvk (z++[(Tr.findT (o / K.X.others z.length z) (K.t z.length z)).1]) (st+n) ((o / K.X.others z.length z-(Tr.findT (o / K.X.others z.length z) (K.t z.length z)).2)*K.X.others z.length z+o % K.X.others z.length z) c5 sO
   ⟨by rw [a6];omega,ae,by rw [a6];exact a5.2,?_,?_,(bu.gr (d5.mono λq _ h=>.inr h)).old λq hq=>.inl (.inl hq),?_,?_⟩ (by rw [a6];omega)
  ·rw [a6,<-a5.1,<-ay];congr 2;omega
  ·rw [a6];exact (dd.same λc hc=>Qsc (b3 c hc)).more (by omega)
  ·rw [a6,Jcg];omega
  ·rw [a6];omega
 ·have c6:z.length=K.f:=by have:=oF h;omega
  clear h;have dt:Ext w6 w6.drew:=(Ext.refl w6).drew;have bf:=da.ext dt;obtain ⟨eo,f0,fg,H3,em⟩:=id bf;obtain ⟨YB,yd,rfl,f4,_⟩:=Jjd H3.row;refine ρ ?_;refine dr [(0,0),(0,1),(0,2),(0,3),(0,5),(0,6),(0,7),(0,8),(1,4),(0,9),(0,10),(0,11)] (by kernel_rfl) ?_;refine ρd ?_;refine dld (H3.blk.at (i:=6) rfl) ?_;refine ρd ?_;refine dld (H3.blk.at (i:=8) rfl) ?_;refine ρd ?_;refine dcl (Qpm (Rd.own H3.row) (Qkp z) (by omega)) ?_;rintro u w7 ⟨⟨A7,c7,rfl,ee,ef⟩,a3⟩;refine ⟨a3,?_⟩;refine ρd ?_;refine ρ ?_;refine Qhk ⟨a2.trans ((bf.ext a3).ext0 C),λh=>by omega,λ_=>?_⟩;have dx:r=z:=by
   have e:K.f-z.length=0:=by omega
   rw [e,AX.ext]at ay;cases o with
   | zero=>simpa using ay.symm
   | succ o=>simp at ay
  unfold AcR;rw [hr,dx];exact ⟨A7,c7,st,rfl,ef,ee,c6,by rw [<-c6];exact b2⟩
end
open Go.RowKit Pl Go.Wk
structure IxA(w:World)(x:Value)(f:Nat)(ds:List Bool)(kf:Nat->Nat)(pf:Nat->Int)(BB:Nat->List BkT)(tot:Nat)(L:List Row): Prop where
 tb:∃ B0,TB B0 w
 ix:IxV w x f ds kf pf BB tot
 ip:IxP f ds kf pf BB tot L
 ho:tot≠0->∀ z,(Jgv f kf pf BB).Gp z->z.length<f->0<(Jgv f kf pf BB).pend z.length z->(Jgv f kf pf BB).others z.length z<4294967296
 hb:∀ v b,b∈BB v->b.2.ht<=65536
section
variable {w:World} {x:Value} {f:Nat} {ds:List Bool} {kf:Nat->Nat} {pf:Nat->Int} {BB:Nat->List BkT} {tot:Nat} {L:List Row}
theorem IxA.ext(h:IxA w x f ds kf pf BB tot L){w':World}(hx:Ext w w'): IxA w' x f ds kf pf BB tot L:=by
 obtain ⟨i,ht⟩:=h.tb;exact ⟨⟨i,ht.ext hx⟩,h.ix.ext hx,h.ip,h.ho,h.hb⟩
def AtR(f:Nat)(BB:Nat->List BkT)(L:List Row)(k:Nat)(u:Value)(w:World): Prop:=match L[k]? with
 | some r=>∃ A c,∃ st:Nat,u=.tuple #[.slice A r.length c,.int .i64 (st:Int),.int .i64 0]/\RdR w A r/\r.length<=c/\r.length=f/\st<=Jcg f λv=>hmB (BB v)
 | none=>u=.tuple #[.slice none 0 0,.int .i64 0,.int .i64 3]
theorem Qtm(L:List Row): wiL L []=L:=by simp [wiL]
theorem Qvv(h:IxA w x f ds kf pf BB tot L){y:Row}{PA:Option Addr}{pc k:Nat}{kv:Value}(hy:RdR w PA y)(hk:NatV w kv k):
  Ret Tryz.prog 22 [x,.slice PA y.length pc,kv] w λu w'=>Ext w w'/\(f<y.length->u=.tuple #[.slice none 0 0,.int .i64 0,.int .i64 6])/\(y.length<=f->AcR f BB L y k u w'):=by
 obtain ⟨i,ht⟩:=h.tb;exact Qqg ht h.ix h.ip h.ho hy hk
theorem at_any(h:IxA w x f ds kf pf BB tot L){k:Nat}{kv:Value}(hk:NatV w kv k):
  Ret Tryz.prog 17 [x,kv] w λu w'=>Ext w w'/\AtR f BB L k u w':=by
 obtain ⟨DA,dc,BA,cb,KA,ck,PA,cp,tv,J,G,rfl,U,Z,hD,hB,hK,hP,C,O⟩:=id h.ix.ex;obtain ⟨TA,tc,rfl,_⟩:=id C;refine Jjc Tryz.func17 Tryz.ntmps17 rfl (by kernel_rfl) rfl ?_;refine ρ ?_;refine bx ?_;intro w1 b i hb D;refine ρ ?_;refine ldW D ?_;refine ρ ?_;refine cl (Qvv (y:=[]) (PA:=none) (pc:=0) (h.ext i) Rd.nil (hk.ext i)) ?_;rintro u w2 ⟨o,_,h2⟩;have j:=h2 (Nat.zero_le _);unfold AcR at j;rw [Qtm]at j;cases hr:L[k]? with
 | none=>
  rw [hr]at j;simp only at j;subst j;refine ρ ?_;refine Qhk ⟨i.trans o,?_⟩;unfold AtR;rw [hr]
 | some r=>
  rw [hr]at j;simp only at j;obtain ⟨A,c,st,rfl,h5,h6,h7,h8⟩:=j;refine ρ ?_;refine Qhk ⟨i.trans o,?_⟩;unfold AtR;rw [hr];exact ⟨A,c,st,rfl,h5,h6,h7,h8⟩
end
end Go.Proofs.YtefpailelagbkaaGreatDoor
