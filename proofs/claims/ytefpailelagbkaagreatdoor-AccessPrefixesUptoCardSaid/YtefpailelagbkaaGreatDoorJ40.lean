/- Part 40 of the proof: Ac3, Ac4. -/
import Derived.Test.YtefpailelagbkaaGreatDoorJ39
set_option linter.unusedVariables false
set_option maxRecDepth 100000
set_option maxHeartbeats 40000000
namespace Go.Proofs.YtefpailelagbkaaGreatDoor
open Go.RowKit Pl Go.Wk
attribute [local irreducible] WC WL QX WD WDB WP WN WG WH
def pS(pf:Nat->Int)(m q:Nat)(c:Nat): Bool:=decide (m<=c) && decide (pf c<(q:Int))
theorem Qcv(K:SeK)(m:Nat)(y:Row): K.X.prodS (pS K.pf m m) y=K.X.pend m y:=Jxn λc _=>by
 simp only [pS,Bool.and_eq_true,decide_eq_true_eq];rfl
theorem Qqj(K:SeK)(m:Nat)(y:Row): K.X.prodS (pS K.pf (m+1) m) y=K.X.others m y:=Jxn λc _=>by
 simp only [pS,Bool.and_eq_true,decide_eq_true_eq];rfl
theorem Qld{pf:Nat->Int}{m c:Nat}: (pS pf m m c && !decide (c=m))=pS pf (m+1) m c:=by
 unfold pS;by_cases h1:m<=c<;>by_cases h2:c=m<;>by_cases h3:pf c<(m:Int)<;>simp [h1,h2,h3]<;>omega
theorem Xjk{pf:Nat->Int}{m c:Nat}(hp:pf c<(c:Int)): (pS pf (m+1) m c || decide (pf c=(m:Int)))=pS pf (m+1) (m+1) c:=by
 unfold pS;rw [Bool.eq_iff_iff];simp only [Bool.or_eq_true,Bool.and_eq_true,decide_eq_true_eq];omega
def hmB(bs:List BkT): Nat:=bs.foldl (λm b=>max m b.2.ht) 0
theorem foldl_max{bs:List BkT}: ∀ {m:Nat},m<=bs.foldl (λm b=>max m b.2.ht) m/\∀ b∈bs,b.2.ht<=bs.foldl (λm b=>max m b.2.ht) m:=by
 induction bs with
 | nil=>intro m;exact ⟨Nat.le_refl _,λb hb=>by cases hb⟩
 | cons a bs ih=>
  intro m;obtain ⟨h1,h2⟩:=ih (m:=max m a.2.ht);refine ⟨Nat.le_trans (Nat.le_max_left _ _) h1,λb hb=>?_⟩;rcases List.mem_cons.1 hb with rfl|hb
  ·exact Nat.le_trans (Nat.le_max_right _ _) h1
  ·exact h2 b hb
theorem Xvt(bs:List BkT)(k:Row): (trK bs k).ht<=hmB bs:=by
 unfold trK;cases hf:bs.find? λb=>decide (b.1=k) with
 | none=>exact Nat.zero_le _
 | some b=>exact foldl_max.2 b (List.mem_of_find?_eq_some hf)
def wiL(L:List Row)(y:Row): List Row:=L.filter λx=>decide (x.take y.length=y)
theorem Qnm(A B C D E F:Option Addr)(a b c d e f a' b' c' d' e' f':Nat)(mb:Nat)(w:World): (Instr.build 131 #[(0,.agg #[.slice A a a',.slice B b b',.slice C c c',.slice D d d',.slice E e e']),(1,.slice F f f'),(3,.map (some mb))]).run Tryz.prog w=.ok (.agg #[.slice A a a',.slice B b b',.slice C c c',.slice D d d',.slice E e e',.slice F f f',.slice none 0 0,.map (some mb),.int .i64 0]) w:=by kernel_rfl
section
variable {f:Nat} {ds:List Bool} {kf:Nat->Nat} {pf:Nat->Int} {BB:Nat->List BkT} {tot:Nat} {L:List Row}
theorem Qvb{B0:Nat}{w:World}{x:Value}(tb:TB B0 w)(ix:IxV w x f ds kf pf BB tot)(ip:IxP f ds kf pf BB tot L)(ne:tot≠0):
  Ret Tryz.prog 61 [x] w λu w'=>∃ K:SeK,(K.w0=w/\K.f=f/\K.ds=ds/\K.kf=kf/\K.pf=pf/\K.BB=BB/\K.tot=tot/\K.L=L)/\u=.pointer (some ⟨K.sb,0,none⟩)/\SeF K/\SeV K w' [] (pS K.pf 0 0) 0 32 w'.heap.size/\Ext w w':=by
 obtain ⟨DA,dc,BA,cb,KA,ck,PA,cp,tv,kvs,pvs,rfl,hdc,hcb,hD,hB,hK,hP,htv,hvq⟩:=id ix.ex;obtain ⟨TA,tc,rfl,_⟩:=id htv;refine Jjb Tryz.func61 Tryz.ntmps61 rfl (by kernel_rfl) rfl ?_;refine ρ ?_;refine bx (cs:=[.slice DA f dc,.slice BA f cb,.slice KA f ck,.slice PA f cp,.slice TA (Jjf tot).length tc]) ?_;intro w1 b hx1 hb hBx;have hxd:Ext w1 w1.drew:=(Ext.refl w1).drew;have hBd:=hBx.ext hxd;have hx0d:=hx1.trans hxd;refine ρ ?_;refine drG (by kernel_rfl) ?_;refine Qjj (fuel':=5) [(0,0),(0,1)] #[true,true,false,false,false,false,false] (by kernel_rfl) (by kernel_rfl) rfl ?_;refine ρd ?_;refine Jwv (cs:=[.slice DA f dc,.slice BA f cb,.slice KA f ck,.slice PA f cp,.slice TA (Jjf tot).length tc]) (λj u hu=>hBd.at hu) ?_;refine ρd ?_;refine Jwv (cs:=[.slice DA f dc,.slice BA f cb,.slice KA f ck,.slice PA f cp,.slice TA (Jjf tot).length tc]) (λj u hu=>hBd.at hu) ?_;refine ρd ?_;refine Jym ?_
 refine gcut 3 #[true,true,true,true,false,false,false] (fun (q:Option Addr×Nat×Nat)=>[(4,.agg #[.slice DA f dc,.slice BA f cb,.slice KA f ck,.slice PA f cp,.slice TA (Jjf tot).length tc]),(6,.slice q.1 f q.2.1),(7,.map (some q.2.2))])
  (λq W=>Ext w1.drew W/\f<=q.2.1/\w1.drew.heap.size<=q.2.2/\MapS Tryz.prog 3 W q.2.2 0 (λ_=>none)/\Off (λk=>k=q.2.2) W (λu=>Rd u 3 q.1 f (Jxt f (Jyh kf pf)))) ?_ ?_
 ·rintro ⟨A,c,mb⟩ w2 ⟨hx2,hc,hm,hM,hOff⟩;simp only at hc hm hM hOff;refine Qjj (fuel':=0) [(1,4),(1,5),(0,6)] #[true,true,true,true,true,true,true] (by kernel_rfl) (by kernel_rfl) rfl ?_;refine Jnh ?_;refine bld (Qnm _ _ _ _ _ _ _ _ _ _ _ _ _ _ _ _ _ _ _ _) ?_;refine Jxz (Jng (Ext.refl _) ?_);refine Jnh ?_;refine bx (cs:=[.slice DA f dc,.slice BA f cb,.slice KA f ck,.slice PA f cp,.slice TA (Jjf tot).length tc,.slice A f c,.slice none 0 0,.map (some mb),.int .i64 0]) ?_;intro w3 sb hx3 hsb hS3;refine Jxz (Jng hx3 ?_);refine ρd ?_;refine Jym ?_;refine gend (by kernel_rfl) ?_;obtain ⟨K,hK⟩:∃ K:SeK,K=⟨B0,w,w2,mb,sb,.slice DA f dc,.slice BA f cb,.slice KA f ck,.slice PA f cp,.slice TA (Jjf tot).length tc,A,c,f,ds,kf,pf,BB,tot,L⟩:=⟨_,rfl⟩;have hF:SeF K:=by
   subst hK;exact ⟨tb,ix,ip,ne,hx0d.trans hx2,Nat.le_trans hx0d.size hm,hM.lt,hsb,hc,hOff,Jgt⟩
  have hV:SeV K w3 [] (λ_=>false) 0 0 w3.heap.size:=by
   subst hK;exact ⟨.slice none 0 0,0,λ_=>none,⟨GrN.ext hx3,hS3,Jxj _ _ _ _,hM.ext hx3,Nat.le_refl _,λc _ h=>(by cases h),λkl h=>absurd rfl h⟩,hS3.lt,λg eg=>by simp [Value.ownBlock]at eg⟩
  have eqs:K.w0=w/\K.f=f/\K.ds=ds/\K.kf=kf/\K.pf=pf/\K.BB=BB/\K.tot=tot/\K.L=L:=by subst hK;exact ⟨rfl,rfl,rfl,rfl,rfl,rfl,rfl,rfl⟩
  have esb:sb=K.sb:=by subst hK;rfl
  have hxw3:=(hx0d.trans hx2).trans hx3;have em:w.heap.size<=K.mb:=by rw [<-eqs.1];exact hF.m1
  have f32:K.f<=32:=hF.ip.f32;subst esb;refine ρ ?_;refine cl (Qzh hF hV (by omega) AX.Gp.nil (by simp) (v:=-1) rfl) ?_;rintro u w4 ⟨rfl,hg4,hV4⟩;refine ρ ?_;refine Jjq ⟨K,eqs,rfl,hF,(hV4.top.same λc hc=>?_).more (by omega),hg4.old hxw3 λk hk=>by rw [hk];exact em⟩;have:=hF.ip.par hF.ne hc;unfold pS;rw [Bool.eq_iff_iff];simp only [Bool.or_eq_true,Bool.and_eq_true,decide_eq_true_eq];constructor
  ·rintro (h|h)
   ·cases h
   ·exact ⟨Nat.zero_le _,by omega⟩
  ·rintro ⟨_,h⟩;right;omega
 ·intro rest;refine gtwo 2 3 (by kernel_rfl) rfl rfl rfl ?_ ?_
  ·refine ρ ?_;refine cl (Jrj (ix.ext hx0d)) ?_;rintro u w2 ⟨⟨A,c,rfl,hc,hR,hf⟩,hx2⟩;refine Jxz (Qqz hx2 ?_);refine Qjj (fuel':=3) [(1,3)] #[true,true,true,true,false,false,false] (by kernel_rfl) (by kernel_rfl) rfl ?_;refine Jnh ?_;refine mkm 3 ?_;intro w3 mb hx3 hmb hM;refine Jxz (Jng hx3 ?_);refine Qxq (Jym ?_);refine rest (A,c,mb) _ _ ⟨hx2.trans hx3,hc,Nat.le_trans hx2.size hmb,hM,Xyj (hR.ext hx3) λh0 ad e (e2:ad.block=mb)=>?_⟩ sB;have e:A=some ad:=e;obtain ⟨ad',e',hlt⟩:=hR.2 h0;rw [e]at e';injection e' with e'
   have:=hlt.1;rw [<-e']at this;omega
  ·refine ρ ?_;refine mkm 3 ?_;intro w2 mb hx2 hmb hM;refine Jxz (Qqz hx2 ?_);refine Qjj (fuel':=3) [(1,2)] #[true,true,true,true,false,false,false] (by kernel_rfl) (by kernel_rfl) rfl ?_;refine Jnh ?_;refine cl (Jrj (ix.ext (hx0d.trans hx2))) ?_;rintro u w3 ⟨⟨A,c,rfl,hc,hR,hf⟩,hx3⟩;refine Jxz (Jng hx3 ?_);refine Qxq (Jym ?_);refine rest (A,c,mb) _ _ ⟨hx2.trans hx3,hc,hmb,hM.ext hx3,Xyj hR λh0 ad e (e2:ad.block=mb)=>?_⟩ sB;have:=hf ad e;have:=hM.lt;omega
end
section
variable {K:SeK} {w:World} {y:Row} {S:Nat->Bool} {st M B:Nat}
theorem SeV.steps(hF:SeF K)(h:SeV K w y S st M B)(k:Nat): SeV K (w.setCell ((⟨K.sb,0,none⟩:Addr).add 8) (.int .i64 ((st+k:Nat):Int))) y S (st+k) M B/\GrN (λk=>k=K.sb) w (w.setCell ((⟨K.sb,0,none⟩:Addr).add 8) (.int .i64 ((st+k:Nat):Int))):=by
 obtain ⟨yv,m,fm,H,hb⟩:=h;have hg:GrN (λk=>k=K.sb) w (w.setCell ((⟨K.sb,0,none⟩:Addr).add 8) (.int .i64 ((st+k:Nat):Int))):=GrN.set _ rfl;refine ⟨⟨yv,m,fm,⟨?_,H.blk.set 8 _,Jjr H.row hg λg eg e=>?_,H.map.gr hg λe=>hF.nsm e.symm,H.mle,H.pd⟩,hb⟩,hg⟩
 ·exact ((H.gr.mono λk _ h=>(.inl h:k=K.mb∨k=K.sb)).trans (hg.mono λk _ h=>.inr h)).mono λk hk h=>h.elim id λe=>by have:=hF.s1;omega
 ·rw [e]at eg;exact (Blk.ne_own H.blk H.row rfl) eg.symm
theorem SeF.pnb(hF:SeF K)(m:Nat)(z:Row): Nb (K.X.pend m z):=by
 refine Nb.pow (k:=K.f) (Jkr (Nat.pow_pos (by decide)) λc _=>?_) hF.ip.f32;split
 ·rw [K.T];exact hF.ip.big _ _
 ·exact Nat.pow_pos (by decide)
theorem SeV.ext0(h:SeV K w y S st M B)(hF:SeF K): Ext K.w0 w:=by
 obtain ⟨yv,m,fm,H,_⟩:=h;exact hF.ext H.gr
theorem SeF.has(hF:SeF K){c:Nat}(hc:c<K.f){z:Row}{d:Bool}(hd:K.t c z≠.nil->d=K.ds.getD c false)(v:V):
  Tr.hasT d v (K.t c z)=true↔v∈(K.X.E c (K.X.key c z)).map (·.1):=by
 rw [K.E];by_cases h:K.t c z=.nil
 ·rw [h];simp [Tr.hasT,Tr.toL]
 ·have hs:Xwd d (K.t c z).toL:=by
   rw [hd h,<-K.E];exact (hF.ip.srt hF.ne).srt c hc _
  exact (Tr.befT_eq hs).2
end
def AcR(f:Nat)(BB:Nat->List BkT)(L:List Row)(y:Row)(k:Nat)(u:Value)(w:World): Prop:=match (wiL L y)[k]? with
 | some r=>∃ A c,∃ st:Nat,u=.tuple #[.slice A r.length c,.int .i64 (st:Int),.int .i64 0]/\RdR w A r/\r.length<=c/\r.length=f/\st<=Jcs f λv=>hmB (BB v)
 | none=>u=.tuple #[.slice none 0 0,.int .i64 0,.int .i64 3]
theorem AcR.none{f:Nat}{BB:Nat->List BkT}{L:List Row}{y:Row}{k:Nat}{w:World}(h:(wiL L y)[k]?=none): AcR f BB L y k (.tuple #[.slice none 0 0,.int .i64 0,.int .i64 3]) w:=by
 unfold AcR;rw [h]
section
variable {f:Nat} {ds:List Bool} {kf:Nat->Nat} {pf:Nat->Int} {BB:Nat->List BkT} {tot:Nat} {L:List Row}
theorem IxP.wi_none(ip:IxP f ds kf pf BB tot L)(ne:tot≠0){y:Row}(hg:¬ (Jhw f kf pf BB).Gp y): wiL L y=[]:=by
 unfold wiL;rw [ip.ans ne];exact AX.within_none hg
theorem IxP.wi_some(ip:IxP f ds kf pf BB tot L)(ne:tot≠0){y:Row}(hy:y.length<=f)(hg:(Jhw f kf pf BB).Gp y): wiL L y=(Jhw f kf pf BB).ext (f-y.length) y:=by
 unfold wiL;rw [ip.ans ne];exact (ip.srt ne).within hy hg
theorem IxP.nbP(ip:IxP f ds kf pf BB tot L)(m:Nat)(z:Row): Nb ((Jhw f kf pf BB).pend m z):=by
 refine Nb.pow (k:=f) (Jkr (Nat.pow_pos (by decide)) λc _=>?_) ip.f32;split
 ·rw [Xqd];exact ip.big _ _
 ·exact Nat.pow_pos (by decide)
theorem IxP.nbT(ip:IxP f ds kf pf BB tot L): Nb tot:=by
 by_cases h:tot=0
 ·rw [h];exact (ip.nbP 0 []).le (Nat.zero_le _)
 ·rw [<-ip.pend0 h];exact ip.nbP 0 []
theorem Qzg{B0:Nat}{w:World}{x kv:Value}{PA:Option Addr}{pc k:Nat}{y:Row}(tb:TB B0 w)(ix:IxV w x f ds kf pf BB tot)(ip:IxP f ds kf pf BB tot L)(hO:tot≠0->∀ z,(Jhw f kf pf BB).Gp z->z.length<f->0<(Jhw f kf pf BB).pend z.length z->(Jhw f kf pf BB).others z.length z<4294967296)(hy:RdR w PA y)(hk:NatV w kv k):
  Ret Tryz.prog 22 [x,.slice PA y.length pc,kv] w λu w'=>Ext w w'/\(f<y.length->u=.tuple #[.slice none 0 0,.int .i64 0,.int .i64 6])/\(y.length<=f->AcR f BB L y k u w'):=by
 obtain ⟨DA,dc,BA,cb,KA,ck,PA',cp,tv,kvs,pvs,rfl,hdc,hcb,hD,hB,hK,hP,htv,hvq⟩:=id ix.ex;obtain ⟨TA,tc,rfl,_⟩:=id htv;obtain ⟨kA,kc0,rfl,_⟩:=id hk;have f32:=ip.f32;refine Jjb Tryz.func22 Tryz.ntmps22 rfl (by kernel_rfl) rfl ?_;refine ρ ?_;refine bx (cs:=[.slice DA f dc,.slice BA f cb,.slice KA f ck,.slice PA' f cp,.slice TA (Jjf tot).length tc]) ?_;intro w1 b hx1 hb hBx;refine ρ ?_;refine lds (cs:=[.slice DA f dc,.slice BA f cb,.slice KA f ck,.slice PA' f cp,.slice TA (Jjf tot).length tc]) (λj u hu=>hBx.at hu) ?_;refine ρ ?_;refine cl (Jrh (ix.ext hx1)) ?_;rintro u w2 ⟨rfl,hx2⟩;refine ρ ?_;refine ci (λh=>?_) (λh=>?_)
 ·have hlt:f<y.length:=by have:=of_decide_eq_true h;omega
  refine ρ ?_;exact Qml ⟨hx1.trans hx2,λ_=>rfl,λh=>by omega⟩
 have hyf:y.length<=f:=by have:=of_decide_eq_false h;omega
 clear h;refine ρ ?_;refine lds (cs:=[.slice DA f dc,.slice BA f cb,.slice KA f ck,.slice PA' f cp,.slice TA (Jjf tot).length tc]) (λj u hu=>(hBx.ext hx2).at hu) ?_;refine ρ ?_;refine cl (Jdb (ix.ext (hx1.trans hx2)) ip.nbT) ?_;rintro u w3 ⟨hu3,_,hx3⟩;have hx03:=(hx1.trans hx2).trans hx3;obtain ⟨UA,uc,rfl,_⟩:=id hu3;refine ρ ?_;refine ci (λh=>?_) (λh=>?_)
 ·have h0:tot=0:=by
   have:=Jql h;rcases Nat.eq_zero_or_pos tot with h'|h'
   ·exact h'
   ·have:=limbs_pos' (show tot≠0 by omega);omega
  refine ρ ?_;refine Qml ⟨hx03,λh=>by omega,λ_=>AcR.none ?_⟩;have:L=[]:=List.eq_nil_of_length_eq_zero (by rw [<-ip.len];exact h0);rw [this];rfl
 have ne:tot≠0:=λe=>by
  have:=Jqh h;rw [e,limbs_0]at this;exact this rfl
 clear h;refine ρ ?_;refine lds (cs:=[.slice DA f dc,.slice BA f cb,.slice KA f ck,.slice PA' f cp,.slice TA (Jjf tot).length tc]) (λj u hu=>((hBx.ext hx2).ext hx3).at hu) ?_;refine ρ ?_;refine cl (Qvb (tb.ext hx03) (ix.ext hx03) ip ne) ?_;rintro u w4 ⟨K,⟨e0,rfl,rfl,rfl,rfl,rfl,rfl,rfl⟩,rfl,hF,hV4,hx4⟩;have hxK:Ext w K.w0:=by rw [e0];exact hx03
 have hBK:Blk K.w0 b 34 [.slice DA K.f dc,.slice BA K.f cb,.slice KA K.f ck,.slice PA' K.f cp,.slice TA (Jjf K.tot).length tc]:=by rw [e0];exact (hBx.ext hx2).ext hx3
 clear e0 hBx hx1 hx2 hx3 hx03 hu3;have hp0:∀ c,c<K.f->K.pf c<(c:Int):=λc hc=>(hF.ip.par ne hc).2;have hgo:K.X.Ok:=hF.ip.ok ne;have hht:∀ v z,(K.t v z).ht<=hmB (K.BB v):=λv z=>Xvt _ _;have hm64:∀ v z,(K.t v z).ht<=65536:=λv z=>Nat.le_trans (Tr.ht_le _) (hF.ip.siz _ _);have hnbT:∀ v z,Nb (K.t v z).sum:=λv z=>Nb.pow (k:=1) (by rw [Nat.pow_one];exact hF.ip.big _ _) (by omega);have hsz:∀ v z,(K.t v z).sz<=1000000:=λv z=>Nat.le_trans (hF.ip.siz _ _) (by decide);refine ρ ?_;refine Jjv (fun (i:Nat) (st:Nat)=>[(2,.slice kA (Jjf k).length kc0),(3,.pointer (some ⟨b,0,none⟩)),(6,.slice none 0 0),(7,.int .i64 0),(8,.int .i64 0),(9,.pointer (some ⟨K.sb,0,none⟩)),(35,.slice PA y.length pc),(36,.int .i64 (y.length:Int)),(37,.int .i64 (i:Int))])
  (λi st w'=>i<=y.length/\K.X.Gp (y.take i)/\SeV K w' (y.take i) (pS K.pf i i) st (32*(i+1)) w'.heap.size/\st<=Jcs i (λv=>hmB (K.BB v))/\st<=65536*i) (λi _=>y.length-i) 0 0 sB
  ⟨Nat.zero_le _,AX.Gp.nil,hV4,Nat.le_refl _,Nat.le_refl _⟩ ?_
 clear hV4 hx4 w4;rintro i st w5 ⟨hi,hg5,hV5,hs1,hs2⟩;have hx5:=hxK.trans (hV5.ext0 hF);have hil:(y.take i).length=i:=by rw [List.length_take];omega
 refine ρ ?_;refine ci (λh=>?_) (λh=>?_)
 ·have li:i<y.length:=by have:=of_decide_eq_true h;omega
  have hif:i<K.f:=by omega
  clear h;have hyR:=Rd.ext hy hx5;refine ρ ?_;refine ixq 3 i hyR li ?_;refine ρ ?_;refine lds (cs:=(y.getD i V0).cells) (λj u' hu'=>RdR.cell hyR li hu') ?_;refine ρ ?_;refine alc (cs:=V0.cells) Qpl ?_;intro w6 b11 hx6 hb11 hB11;refine ρ ?_;refine stb (cs':=(y.getD i V0).cells) hB11 ?_ (V.one _);intro w7 hB7 hg7 hx7;have hx57:Ext w5 w7:=hx7 w5 hx6 hb11;have hxd:Ext w7 w7.drew:=(Ext.refl w7).drew;have hV7:=(hV5.ext hx57).ext hxd;have hB7d:=hB7.ext hxd;have hmb5:K.mb<w5.heap.size:=by obtain ⟨_,_,_,H,_⟩:=hV5;exact H.map.lt
  have nb11:¬ b11=K.mb:=by omega
  refine ρ ?_;refine drN (λk=>k=K.mb) 10 [(0,0),(0,2),(1,1),(1,3),(0,4),(0,5),(0,6),(0,7),(0,8),(0,9),(0,10)] (by kernel_rfl) ?_;refine ρn ?_;refine Jfd (cs:=(y.getD i V0).cells) (λw' hg j u hu=>(Jqb hB7d hg nb11).at hu) ?_;refine ρn ?_;refine nop ?_;refine cl (Jrt hF hV7 (by omega) (by rw [hil];unfold pS;simp [hp0 i hif])) ?_;rintro u w8 ⟨⟨d,p,rfl,hT,hd⟩,hg8,hV8⟩;rw [hil]at hT hd hV8;refine ρ ?_;refine Jqm hg8 ?_;refine ρn ?_;refine nop ?_;refine cl (Qfm (hT.ext (hV8.ext0 hF)) (hnbT _ _) (hsz _ _)) ?_;rintro u w9 ⟨sv,q,rfl,hq,hsv,hx9⟩;refine ρ ?_;refine Jqm (GrN.ext hx9) ?_;refine ρn ?_;have hbit:=hF.has hif (z:=y.take i) hd (y.getD i V0);refine ρ ?_;refine ci (λh=>?_) (λh=>?_)
  ·have hno:¬ K.X.Gp y:=λhg=>by
    have h1:=hg i li;have h2:y.getD i K.X.d0=y.getD i V0:=rfl;rw [h2]at h1;have h3:=hbit.2 h1;rw [h3]at h;cases h
   refine ρ ?_;refine Qml ⟨hxK.trans ((hV8.ext hx9).ext0 hF),λh=>by omega,λ_=>AcR.none ?_⟩;rw [hF.ip.wi_none ne hno];rfl
  have hyes:Tr.hasT d (y.getD i V0) (K.t i (y.take i))=true:=by
   cases hh:Tr.hasT d (y.getD i V0) (K.t i (y.take i)) with
   | true=>rfl
   | false=>rw [hh]at h;cases h
  clear h;have hmem:=hbit.1 hyes;have hV9:=hV8.ext hx9;have hB9:=(Jqb hB7d hg8 nb11).ext hx9;obtain ⟨yv,mm,fm,H9,hlo9⟩:=id hV9;refine ρ ?_;refine ld (H9.blk.at (i:=8) rfl) ?_;have hq2:=hht i (y.take i);have hq3:=hm64 i (y.take i);refine ρ ?_;refine sto (H9.blk.at (i:=8) rfl) (H9.blk.frozen 8) ?_;obtain ⟨hV10,hg10⟩:=hV9.steps hF q;obtain ⟨w10,hw10⟩:∃ w10,w10=w9.setCell ((⟨K.sb,0,none⟩:Addr).add 8) (.int .i64 ((st+q:Nat):Int)):=⟨_,rfl⟩;have hw10':w9.setCell ((⟨K.sb,0,none⟩:Addr).add 8) (.int .i64 ((st:Int)+(q:Int)))=w10:=hw10.symm;rw [<-hw10]at hV10 hg10;have nbs:¬ b11=K.sb:=λe=>by have:=hlo9.1;omega
  have hB10:=Jqb hB9 hg10 nbs;refine Eq.mpr (congrArg _ hw10') ?_;refine ρ ?_;refine lds (cs:=(y.getD i V0).cells) (λj u' hu'=>hB10.at hu') ?_;have hts:y.take (i+1)=y.take i++[y.getD i V0]:=Jjm V0 li;have hgn:K.X.Gp (y.take i++[y.getD i V0]):=hg5.snoc (by rw [hil];exact hmem);refine cl (Jhg hF (hV10.same λc _=>Qld) (by omega) (by omega) (y.getD i V0) hgn (λc _ hs=>by
   rw [hil];unfold pS at hs;simp only [Bool.and_eq_true,decide_eq_true_eq]at hs;exact hs.2)) ?_
  rintro u w11 ⟨rfl,_,hV11⟩;rw [<-hts,hil]at hV11;rw [<-hts]at hgn;refine ρ ?_;refine Jjj (i+1) (st+q) sO ⟨li,hgn,(hV11.same λc hc=>Xjk (hp0 c hc)).more (by omega),?_,by omega⟩ (by omega);rw [Jcs];omega
 have hi':i=y.length:=by have:=of_decide_eq_false h;omega
 subst hi';clear h;rw [List.take_length]at hg5 hV5;refine ρ ?_;refine cl (Jpd hF hV5) ?_;rw [Qcv];rintro u w6 ⟨hu6,hfu6,hx6⟩;refine ρ ?_;refine cl (Jwl (hk.ext (hx5.trans hx6)) hu6) ?_;rintro u w7 ⟨rfl,hx7⟩;have hV7:=(hV5.ext hx6).ext hx7;have hwi:=hF.ip.wi_some ne hyf hg5;have hwl:(wiL K.L y).length=K.X.pend y.length y:=by
  rw [hwi];exact hgo.ext_len _ y (by show y.length+(K.f-y.length)=K.f;omega)
 refine ρ ?_;refine ci (λh=>?_) (λh=>?_)
 ·have hge:K.X.pend y.length y<=k:=by
   have:=of_decide_eq_true h;rcases Nat.lt_or_ge k (K.X.pend y.length y) with h'|h'
   ·have:=cmpN_lt.2 h';omega
   ·exact h'
  refine ρ ?_;exact Qml ⟨hxK.trans (hV7.ext0 hF),λh=>by omega,λ_=>AcR.none (List.getElem?_eq_none (by rw [hwl];exact hge))⟩
 have hkp:k<K.X.pend y.length y:=by
  rcases Nat.lt_or_ge k (K.X.pend y.length y) with h'|h'
  ·exact h'
  ·exact absurd (Int.not_lt.1 λh''=>by have:=cmpN_lt.1 h'';omega) (of_decide_eq_false h)
 clear h;obtain ⟨r,hr⟩:∃ r,(wiL K.L y)[k]?=some r:=⟨_,List.getElem?_eq_getElem (by rw [hwl];exact hkp)⟩;have hkN:NatX (λq=>q=K.mb) w7 (.slice kA (Jjf k).length kc0) k:=(NatX.old (N:=λ_=>False) ⟨hk,λ_ _ _ _ _ h=>h⟩ λq hq=>.inr (by rw [hq];exact Nat.le_trans hxK.size hF.m1)).ext (hxK.trans (hV7.ext0 hF));refine ρ ?_;refine Jpn (fun (z:Row) (st:Nat) (kc:Nat) (kv:Value)=>[(2,kv),(3,.pointer (some ⟨b,0,none⟩)),(6,.slice none 0 0),(7,.int .i64 0),(8,.int .i64 0),(9,.pointer (some ⟨K.sb,0,none⟩))])
  (λz st kc kv w'=>z.length<=K.f/\K.X.Gp z/\kc<K.X.pend z.length z/\(K.X.ext (K.f-z.length) z)[kc]?=some r/\SeV K w' z (pS K.pf z.length z.length) st (32*(z.length+1)) w'.heap.size/\NatX (λq=>q=K.mb) w' kv kc/\st<=Jcs z.length (λv=>hmB (K.BB v))/\st<=65536*z.length) (λz _ _ _=>K.f-z.length) y st k (.slice kA (Jjf k).length kc0) sB
  ⟨hyf,hg5,hkp,by rw [<-hr,hwi];rfl,hV7.top,hkN,hs1,hs2⟩ ?_
 clear hkN hkp hV7 hx7 hx6 hfu6 hu6 w7 w6 hs1 hs2 hx5 hV5 w5 st hil hi hg5;rintro z st kc kv w5 ⟨hz,hgz,hkc,hzr,hV5,hkv5,hs1,hs2⟩;have hxd:Ext w5 w5.drew:=(Ext.refl w5).drew;have hV5d:=hV5.ext hxd;obtain ⟨yv,mm,fm,H,hlo⟩:=id hV5d;obtain ⟨YA,yc,rfl,hyc,_⟩:=Jjd H.row;have hxKd:=hV5d.ext0 hF;have hBd:=hBK.ext hxKd;refine ρ ?_;refine dr [(0,0),(0,1),(0,2),(0,3),(0,4),(0,5),(1,6),(0,7)] (by kernel_rfl) ?_;refine ρd ?_;refine dld (H.blk.at (i:=6) rfl) ?_;refine ρd ?_;refine Jwv (cs:=[.slice DA K.f dc,.slice BA K.f cb,.slice KA K.f ck,.slice PA' K.f cp,.slice TA (Jjf K.tot).length tc]) (λj u hu=>hBd.at hu) ?_;refine ρd ?_;refine dcl (Jrh (ix.ext (hxK.trans hxKd))) ?_;rintro u w6 ⟨rfl,hx6⟩;refine ⟨hx6,?_⟩;have hV6:=hV5d.ext hx6;have hkv6:=(hkv5.ext hxd).ext hx6;clear hBd hxKd;refine ρd ?_;refine ρ ?_;refine ci (λh=>?_) (λh=>?_)
 ·have lz:z.length<K.f:=by have:=of_decide_eq_true h;omega
  clear h;refine ρ ?_;refine cl (Jrt hF hV6 lz (by unfold pS;simp [hp0 _ lz])) ?_;rintro u w7 ⟨⟨d,p,rfl,hT,hd⟩,hg7,hV7⟩;refine ρ ?_;refine alc (cs:=[.bool false,.pointer none]) Jff ?_;intro w8 b15 hx8 hb15 hB15;refine ρ ?_;refine stb (cs':=[.bool d,.pointer p]) hB15 ?_ Jzv;intro w9 hB9 hg9 hx9;have hx79:Ext w7 w9:=hx9 w7 hx8 hb15;have hV9:SeV K w9 z (pS K.pf (z.length+1) z.length) st (32*(z.length+1)) w5.heap.size:=(hV7.ext hx79).same λc _=>Qld;refine ρ ?_;refine cl (Jpd hF hV9) ?_;rw [Qqj];rintro uo w10 ⟨ho10,hfo10,hx10⟩;have hpos:=hgo.others_le lz (show 0<K.X.pend z.length z by omega);have hO2:=hO ne z hgz lz (show 0<K.X.pend z.length z by omega);have hkv10:NatV w10 kv kc:=(((hkv6.gr hg7).ext hx79).ext hx10).1;have hnk:Nb kc:=(hF.pnb z.length z).le (by omega);refine ρ ?_;refine cl (Qdf hkv10 ho10 hnk.len hpos.1 hO2) ?_;rintro u w11 ⟨⟨qv,rv,rfl,hq11,hr11⟩,hx11⟩
  refine ρ ?_;have hq:kc / K.X.others z.length z<(K.t z.length z).sum:=by
   rw [Nat.div_lt_iff_lt_mul hpos.1,<-K.T,<-hgo.pend_split lz];exact hkc
  have hB11:=(hB9.ext hx10).ext hx11;refine ρ ?_;refine lds (cs:=[.bool d,.pointer p]) (λj u hu=>hB11.at hu) ?_;refine ρ ?_;have hV11:=(hV9.ext hx10).ext hx11;refine cl (Qsg (hT.ext (hV11.ext0 hF)) hq11 hq (hnbT _ _) (hsz _ _)) ?_;rintro u w12 ⟨sv,n,rfl,hn,hs12,hx12⟩;refine ρ ?_;refine alc (cs:=V0.cells) Qpl ?_;intro w13 b20 hx13 hb20 hB20;refine ρ ?_;refine stb (cs':=(Tr.findT (kc / K.X.others z.length z) (K.t z.length z)).1.cells) hB20 ?_ (V.one _);intro w14 hB14 hg14 hx14;have hx1214:Ext w12 w14:=hx14 w12 hx13 hb20;obtain ⟨l1,l2,yy,hL,hl1,hl2,hl3⟩:=Tr.findT_eq hq;have hnT:=hnbT z.length z;have hnq:Nb (kc / K.X.others z.length z):=hnk.le (Nat.div_le_self _ _);have hqo:kc / K.X.others z.length z-(Tr.findT (kc / K.X.others z.length z) (K.t z.length z)).2<=kc:=Nat.le_trans (Nat.sub_le _ _) (Nat.div_le_self _ _);refine ρ ?_;refine cl (Jmj (hq11.ext (hx12.trans hx1214)) (hs12.ext hx1214) hnq.len) ?_
  rintro u w15 ⟨⟨ov,rfl,hov,hfo⟩,hx15⟩;rw [if_neg (show ¬ kc / K.X.others z.length z<(Tr.findT (kc / K.X.others z.length z) (K.t z.length z)).2 by omega)];refine ρ ?_;have hx1115:=(hx12.trans hx1214).trans hx15;refine cl (Jbn hov (ho10.ext (hx11.trans hx1115)) (hnk.le hqo).len (Nb.len ((hF.pnb z.length z).le hpos.2))) ?_;rintro mv w16 ⟨hmv,hfm,hx16⟩;have hkk:(kc / K.X.others z.length z-(Tr.findT (kc / K.X.others z.length z) (K.t z.length z)).2)*K.X.others z.length z+kc % K.X.others z.length z<=kc:=by
   have h1:=Nat.div_add_mod kc (K.X.others z.length z);have h2:=Nat.mul_le_mul_right (K.X.others z.length z) (Nat.sub_le (kc / K.X.others z.length z) (Tr.findT (kc / K.X.others z.length z) (K.t z.length z)).2);rw [Nat.mul_comm (kc / K.X.others z.length z)]at h2;omega
  refine ρ ?_;refine cl (Jkk hmv (hr11.ext (hx1115.trans hx16)) (hnk.le (by omega)).len (hnk.le (Nat.mod_le _ _)).len) ?_;rintro kv2 w17 ⟨hkv17,hfk17,hx17⟩;have hx1117:=(hx1115.trans hx16).trans hx17;have hV17:=hV11.ext hx1117;obtain ⟨yv2,mm2,fm2,H17,hlo17⟩:=id hV17;have hq2:=hht z.length z;have hq3:=hm64 z.length z;refine ρ ?_;refine ld (H17.blk.at (i:=8) rfl) ?_;refine ρ ?_;refine sto (H17.blk.at (i:=8) rfl) (H17.blk.frozen 8) ?_;obtain ⟨hV18,hg18⟩:=hV17.steps hF n;obtain ⟨w18,hw18⟩:∃ w18,w18=w17.setCell ((⟨K.sb,0,none⟩:Addr).add 8) (.int .i64 ((st+n:Nat):Int)):=⟨_,rfl⟩;have hw18':w17.setCell ((⟨K.sb,0,none⟩:Addr).add 8) (.int .i64 ((st:Int)+(n:Int)))=w18:=hw18.symm;rw [<-hw18]at hV18 hg18;have s57:w5.heap.size<=w12.heap.size:=Nat.le_trans (Nat.le_trans hxd.size (hx6.size)) (Nat.le_trans hg7.size (((hx79.trans hx10).trans hx11).trans hx12).size);have nbs:¬ b20=K.sb:=λe=>by have:=hlo17.1;omega
  have hB18:=Jqb (hB14.ext ((hx15.trans hx16).trans hx17)) hg18 nbs;refine Eq.mpr (congrArg _ hw18') ?_;refine ρ ?_;refine lds (cs:=(Tr.findT (kc / K.X.others z.length z) (K.t z.length z)).1.cells) (λj u' hu'=>hB18.at hu') ?_;have hEl:K.X.E z.length (K.X.key z.length z)=l1++((Tr.findT (kc / K.X.others z.length z) (K.t z.length z)).1,yy)::l2:=by rw [K.E];exact hL
  have hstep:=hgo.ext_at (n:=K.f-(z.length+1)) (y:=z) (by show z.length+(K.f-(z.length+1)+1)=K.f;omega) hEl hpos.1 (by rw [hl1];exact hl2) (by rw [hl1];exact hl3);rw [hl1]at hstep;have hgn:K.X.Gp (z++[(Tr.findT (kc / K.X.others z.length z) (K.t z.length z)).1]):=hgz.snoc (by rw [hEl];simp);have hlz:(z++[(Tr.findT (kc / K.X.others z.length z) (K.t z.length z)).1]).length=z.length+1:=by simp
  refine cl (Jhg hF hV18 (by omega) lz _ hgn (λc _ hs=>by
   unfold pS at hs;simp only [Bool.and_eq_true,decide_eq_true_eq]at hs;exact hs.2)) ?_
  rintro u w19 ⟨rfl,hg19,hV19⟩;refine ρ ?_;have hkv18:NatX (λq=>q=K.mb∨q<w5.heap.size) w18 kv2 _:=(hfk17.x (N:=λq=>q=K.mb∨q<w5.heap.size∨q=K.sb) hkv17 λq hq=>by
   have h1:=(hx1214.trans (hx15.trans hx16)).size;have h2:=hlo.1;rcases hq with h|h|h
   ·rw [h];have:=hV5.ext0 hF;obtain ⟨_,_,_,H5,_⟩:=hV5;have:=H5.map.lt;omega
   ·omega
   ·omega) |>.gr (hg18.mono λq _ h=>.inr (.inr h)) |>.old λq hq=>.inl (by rcases hq with h|h;exact .inl h;exact .inr (.inl h))
  refine Jvx (z++[(Tr.findT (kc / K.X.others z.length z) (K.t z.length z)).1]) (st+n) ((kc / K.X.others z.length z-(Tr.findT (kc / K.X.others z.length z) (K.t z.length z)).2)*K.X.others z.length z+kc % K.X.others z.length z) kv2 sO
   ⟨by rw [hlz];omega,hgn,by rw [hlz];exact hstep.2,?_,?_,(hkv18.gr (hg19.mono λq _ h=>.inr h)).old λq hq=>.inl (.inl hq),?_,?_⟩ (by rw [hlz];omega)
  ·rw [hlz,<-hstep.1,<-hzr];congr 2;omega
  ·rw [hlz];exact (hV19.same λc hc=>Xjk (hp0 c hc)).more (by omega)
  ·rw [hlz,Jcs];omega
  ·rw [hlz];omega
 ·have hzf:z.length=K.f:=by have:=of_decide_eq_false h;omega
  clear h;have hxe:Ext w6 w6.drew:=(Ext.refl w6).drew;have hV6d:=hV6.ext hxe;obtain ⟨yv3,mm3,fm3,H3,hlo3⟩:=id hV6d;obtain ⟨YB,yd,rfl,hyd,_⟩:=Jjd H3.row;refine ρ ?_;refine dr [(0,0),(0,1),(0,2),(0,3),(0,5),(0,6),(0,7),(0,8),(1,4),(0,9),(0,10),(0,11)] (by kernel_rfl) ?_;refine ρd ?_;refine dld (H3.blk.at (i:=6) rfl) ?_;refine ρd ?_;refine dld (H3.blk.at (i:=8) rfl) ?_;refine ρd ?_;refine dcl (Qst (Rd.own H3.row) (Jdn z) (by omega)) ?_;rintro u w7 ⟨⟨A7,c7,rfl,hc7,hR7⟩,hx7⟩;refine ⟨hx7,?_⟩;refine ρd ?_;refine ρ ?_;refine Qml ⟨hxK.trans ((hV6d.ext hx7).ext0 hF),λh=>by omega,λ_=>?_⟩;have hrz:r=z:=by
   have e:K.f-z.length=0:=by omega
   rw [e,AX.ext]at hzr;cases kc with
   | zero=>simpa using hzr.symm
   | succ kc=>simp at hzr
  unfold AcR;rw [hr,hrz];exact ⟨A7,c7,st,rfl,hR7,hc7,hzf,by rw [<-hzf];exact hs1⟩
end
open Go.RowKit Pl Go.Wk
structure IxA(w:World)(x:Value)(f:Nat)(ds:List Bool)(kf:Nat->Nat)(pf:Nat->Int)(BB:Nat->List BkT)(tot:Nat)(L:List Row): Prop where
 tb:∃ B0,TB B0 w
 ix:IxV w x f ds kf pf BB tot
 ip:IxP f ds kf pf BB tot L
 ho:tot≠0->∀ z,(Jhw f kf pf BB).Gp z->z.length<f->0<(Jhw f kf pf BB).pend z.length z->(Jhw f kf pf BB).others z.length z<4294967296
 hb:∀ v b,b∈BB v->b.2.ht<=65536
section
variable {w:World} {x:Value} {f:Nat} {ds:List Bool} {kf:Nat->Nat} {pf:Nat->Int} {BB:Nat->List BkT} {tot:Nat} {L:List Row}
theorem IxA.ext(h:IxA w x f ds kf pf BB tot L){w':World}(hx:Ext w w'): IxA w' x f ds kf pf BB tot L:=by
 obtain ⟨B0,ht⟩:=h.tb;exact ⟨⟨B0,ht.ext hx⟩,h.ix.ext hx,h.ip,h.ho,h.hb⟩
def AtR(f:Nat)(BB:Nat->List BkT)(L:List Row)(k:Nat)(u:Value)(w:World): Prop:=match L[k]? with
 | some r=>∃ A c,∃ st:Nat,u=.tuple #[.slice A r.length c,.int .i64 (st:Int),.int .i64 0]/\RdR w A r/\r.length<=c/\r.length=f/\st<=Jcs f λv=>hmB (BB v)
 | none=>u=.tuple #[.slice none 0 0,.int .i64 0,.int .i64 3]
theorem Xqr(L:List Row): wiL L []=L:=by simp [wiL]
theorem Jfn(h:IxA w x f ds kf pf BB tot L){y:Row}{PA:Option Addr}{pc k:Nat}{kv:Value}(hy:RdR w PA y)(hk:NatV w kv k):
  Ret Tryz.prog 22 [x,.slice PA y.length pc,kv] w λu w'=>Ext w w'/\(f<y.length->u=.tuple #[.slice none 0 0,.int .i64 0,.int .i64 6])/\(y.length<=f->AcR f BB L y k u w'):=by
 obtain ⟨B0,ht⟩:=h.tb;exact Qzg ht h.ix h.ip h.ho hy hk
theorem Qnt(h:IxA w x f ds kf pf BB tot L){k:Nat}{kv:Value}(hk:NatV w kv k):
  Ret Tryz.prog 17 [x,kv] w λu w'=>Ext w w'/\AtR f BB L k u w':=by
 obtain ⟨DA,dc,BA,cb,KA,ck,PA,cp,tv,kvs,pvs,rfl,hdc,hcb,hD,hB,hK,hP,htv,hvq⟩:=id h.ix.ex;obtain ⟨TA,tc,rfl,_⟩:=id htv;refine Jjb Tryz.func17 Tryz.ntmps17 rfl (by kernel_rfl) rfl ?_;refine ρ ?_;refine bx (cs:=[.slice DA f dc,.slice BA f cb,.slice KA f ck,.slice PA f cp,.slice TA (Jjf tot).length tc]) ?_;intro w1 b hx1 hb hBx;refine ρ ?_;refine lds (cs:=[.slice DA f dc,.slice BA f cb,.slice KA f ck,.slice PA f cp,.slice TA (Jjf tot).length tc]) (λj u hu=>hBx.at hu) ?_;refine ρ ?_;refine cl (Jfn (y:=[]) (PA:=none) (pc:=0) (h.ext hx1) Rd.nil (hk.ext hx1)) ?_;rintro u w2 ⟨hx2,_,h2⟩;have h3:=h2 (Nat.zero_le _);unfold AcR at h3;rw [Xqr]at h3;cases hr:L[k]? with
 | none=>
  rw [hr]at h3;simp only at h3;subst h3;refine ρ ?_;refine Qml ⟨hx1.trans hx2,?_⟩;unfold AtR;rw [hr]
 | some r=>
  rw [hr]at h3;simp only at h3;obtain ⟨A,c,st,rfl,h5,h6,h7,h8⟩:=h3;refine ρ ?_;refine Qml ⟨hx1.trans hx2,?_⟩;unfold AtR;rw [hr];exact ⟨A,c,st,rfl,h5,h6,h7,h8⟩
theorem Xbr(h:IxA w x f ds kf pf BB tot L):
  Ret Tryz.prog 20 [x] w λu w'=>Ext w w'/\match L[0]? with
   | some r=>∃ A c,u=.tuple #[.slice A r.length c,.int .i64 0]/\RdR w' A r/\r.length<=c/\r.length=f
   | none=>u=.tuple #[.slice none 0 0,.int .i64 10]:=by
 obtain ⟨DA,dc,BA,cb,KA,ck,PA,cp,tv,kvs,pvs,rfl,hdc,hcb,hD,hB,hK,hP,htv,hvq⟩:=id h.ix.ex;obtain ⟨TA,tc,rfl,_⟩:=id htv;refine Jjb Tryz.func20 Tryz.ntmps20 rfl (by kernel_rfl) rfl ?_;refine ρ ?_;refine bx (cs:=[.slice DA f dc,.slice BA f cb,.slice KA f ck,.slice PA f cp,.slice TA (Jjf tot).length tc]) ?_;intro w1 b hx1 hb hBx;refine ρ ?_;refine lds (cs:=[.slice DA f dc,.slice BA f cb,.slice KA f ck,.slice PA f cp,.slice TA (Jjf tot).length tc]) (λj u hu=>hBx.at hu) ?_;refine ρ ?_;refine cl (Jdb (h.ix.ext hx1) h.ip.nbT) ?_;rintro u w3 ⟨hu3,_,hx3⟩;obtain ⟨UA,uc,rfl,_⟩:=id hu3;refine ρ ?_;refine ci (λhc=>?_) (λhc=>?_)
 ·have h0:tot=0:=by
   have:=Jql hc;rcases Nat.eq_zero_or_pos tot with h'|h'
   ·exact h'
   ·have:=limbs_pos' (show tot≠0 by omega);omega
  have hL:L=[]:=List.eq_nil_of_length_eq_zero (by rw [<-h.ip.len];exact h0);refine ρ ?_;refine Qjk ⟨hx1.trans hx3,?_⟩;rw [hL];rfl
 have ne:tot≠0:=λe=>by
  have:=Jqh hc;rw [e,limbs_0]at this;exact this rfl
 refine ρ ?_;refine lds (cs:=[.slice DA f dc,.slice BA f cb,.slice KA f ck,.slice PA f cp,.slice TA (Jjf tot).length tc]) (λj u hu=>(hBx.ext hx3).at hu) ?_;refine ρ ?_;refine cl (Qnt (h.ext (hx1.trans hx3)) (NatV.nil _)) ?_;rintro u w4 ⟨hx4,h4⟩;obtain ⟨r,hr⟩:∃ r,L[0]?=some r:=⟨_,List.getElem?_eq_getElem (by rw [<-h.ip.len];omega)⟩;unfold AtR at h4;rw [hr]at h4;obtain ⟨A,c,st,rfl,h5,h6,h7,h8⟩:=h4;refine ρ ?_;refine Qjk ⟨(hx1.trans hx3).trans hx4,?_⟩;rw [hr];exact ⟨A,c,rfl,h5,h6,h7⟩
theorem last_any(h:IxA w x f ds kf pf BB tot L):
  Ret Tryz.prog 21 [x] w λu w'=>Ext w w'/\match L[L.length-1]? with
   | some r=>∃ A c,u=.tuple #[.slice A r.length c,.int .i64 0]/\RdR w' A r/\r.length<=c/\r.length=f
   | none=>u=.tuple #[.slice none 0 0,.int .i64 10]:=by
 obtain ⟨DA,dc,BA,cb,KA,ck,PA,cp,tv,kvs,pvs,rfl,hdc,hcb,hD,hB,hK,hP,htv,hvq⟩:=id h.ix.ex;obtain ⟨TA,tc,rfl,_⟩:=id htv;refine Jjb Tryz.func21 Tryz.ntmps21 rfl (by kernel_rfl) rfl ?_;refine ρ ?_;refine bx (cs:=[.slice DA f dc,.slice BA f cb,.slice KA f ck,.slice PA f cp,.slice TA (Jjf tot).length tc]) ?_;intro w1 b hx1 hb hBx;refine ρ ?_;refine lds (cs:=[.slice DA f dc,.slice BA f cb,.slice KA f ck,.slice PA f cp,.slice TA (Jjf tot).length tc]) (λj u hu=>hBx.at hu) ?_;refine ρ ?_;refine cl (Jdb (h.ix.ext hx1) h.ip.nbT) ?_;rintro u w3 ⟨hu3,_,hx3⟩;refine ρ ?_;refine cl (Jzf 1 (by decide) _) ?_;rintro o w4 ⟨ho4,_,hx4⟩;refine ρ ?_;refine cl (Jmj (hu3.ext hx4) ho4 h.ip.nbT.len) ?_;rintro u5 w5 ⟨⟨sv,rfl,hs5,_⟩,hx5⟩;have hx35:=(hx3.trans hx4).trans hx5;refine ρ ?_;refine ci (λhc=>?_) (λhc=>?_)
 ·have h0:tot=0:=by
   have:=Jkp hc;rcases Nat.eq_zero_or_pos tot with h'|h'
   ·exact h'
   ·rw [if_neg (by omega)]at this;exact absurd rfl this
  have hL:L=[]:=List.eq_nil_of_length_eq_zero (by rw [<-h.ip.len];exact h0);refine ρ ?_;refine Qjk ⟨hx1.trans hx35,?_⟩;rw [hL];rfl
 have ne:tot≠0:=λe=>by
  have:=Jkq hc;rw [e,if_pos (by omega)]at this;cases this
 refine ρ ?_;refine lds (cs:=[.slice DA f dc,.slice BA f cb,.slice KA f ck,.slice PA f cp,.slice TA (Jjf tot).length tc]) (λj u hu=>(hBx.ext hx35).at hu) ?_;refine ρ ?_;refine cl (Qnt (h.ext (hx1.trans hx35)) hs5) ?_;rintro u w6 ⟨hx6,h6'⟩;obtain ⟨r,hr⟩:∃ r,L[L.length-1]?=some r:=⟨_,List.getElem?_eq_getElem (by have:=h.ip.len;omega)⟩;unfold AtR at h6';rw [h.ip.len,hr]at h6';obtain ⟨A,c,st,rfl,h5,h6,h7,h8⟩:=h6';refine ρ ?_;refine Qjk ⟨(hx1.trans hx35).trans hx6,?_⟩;rw [hr];exact ⟨A,c,rfl,h5,h6,h7⟩
end
end Go.Proofs.YtefpailelagbkaaGreatDoor
