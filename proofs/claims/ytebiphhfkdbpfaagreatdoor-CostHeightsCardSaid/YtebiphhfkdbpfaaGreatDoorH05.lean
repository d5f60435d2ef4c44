/- Part 5. -/
import Derived.Test.YtebiphhfkdbpfaaGreatDoorH04
import Derived.Scope
set_option linter.unusedVariables false
set_option maxRecDepth 100000
set_option maxHeartbeats 40000000
namespace Go.Proofs.YtebiphhfkdbpfaaGreatDoor
open Go.RowKit Pl Go.Wk
attribute [local irreducible] WC WL QX WD WDB WP WN WG WH
variable {cs:List Value}{b base c k n:Nat}{N:Nat->Prop}{p q qc qr:PR}{t:PT}{v vb vg vr:Value}{w:World}
def Vd: Option (Nat×PR)->Int
 | none=>-1
 | some p=>(p.1:Int)
theorem div_le'(hp:p.den≠0)(hq:q.den≠0)(h0:q.norm.num≠0): (PR.div p q).num<=p.num*q.den/\(PR.div p q).den<=p.den*q.num/\(PR.div p q).den≠0:=by
 unfold PR.div;rw[if_neg h0];obtain⟨j,i⟩:=mul_le' (p:=p) (q:=⟨q.norm.neg,q.norm.den,q.norm.num⟩) hp h0;exact⟨nL j (Nat.mul_le_mul_left _ (Vk hq)),Nat.le_trans i (Nat.mul_le_mul_left _ (Ut q)),(PR.mul_val (a:=p) (b:=⟨q.norm.neg,q.norm.den,q.norm.num⟩) hp h0).2⟩
def lvT(t:PT)(k:Nat)(q:PR): Option (Nat×PR)->Bool
 | none=>true
 | some p=>decide (PR.cmp q p.2<0∨(PR.cmp q p.2=0/\t.basis.getD k 0<t.basis.getD p.1 0))
theorem Qwc(hc:(t.rows.getD k []).getD c pr0=qc)(hr:(t.rows.getD k []).getD t.right pr0=qr)(hs:¬ qc.sign<=0): lvS t c (k+1)=if lvT t k (PR.div qr qc) (lvS t c k)=true then some (k,PR.div qr qc) else lvS t c k:=by
 conv=>lhs;unfold lvS
 simp only[hc,hr];rw[if_neg hs];cases lvS t c k with
 | none=>simp[lvT]
 | some p=>
  simp only[lvT,decide_eq_true_eq]
theorem Jtw(h:0<q.sign): q.num≠0:=λe=>by unfold PR.sign at h;rw[if_pos e]at h;omega
theorem Jgv(h:q.num≠0): q.norm.num≠0:=by
 unfold PR.norm;split
 .exact h
 have i:=Nat.gcd_dvd_left q.num q.den;obtain⟨k,j⟩:=i;show q.num / Nat.gcd q.num q.den≠0;have u:0<Nat.gcd q.num q.den:=Nat.gcd_pos_of_pos_left _ om;intro e;have y:=Nat.div_eq_zero_iff.1 e;have:=Nat.le_of_dvd om (Nat.gcd_dvd_left q.num q.den);omega
theorem NatX.box{t:Nat}(h:NatX N w v n)(hB:Blk w b t cs)(hc:∀ u∈cs,∀ z,u≠.int .u32 z): NatX (λk=>N k∨k=b) w v n:=by
 refine⟨h.1,λh0 y m c e i=>?_⟩;rcases i with i|i
 .exact h.2 h0 y m c e i
 obtain⟨A,O,j,_,_,G⟩:=h.1;rw[e]at j;injection j with j _ _
 subst j;have D:=G.cell (Qh (limbs_pos' h0));have J:adr (some y) 0=y:=by rw[adr,add_zero];rfl
 rw[J]at D;obtain⟨U,off,B⟩:=y;simp only at i;subst i;unfold Blk at hB;simp[World.cell?,hB]at D;grind
theorem RtX.bx{t:Nat}(h:RtX N w v q)(hB:Blk w b t cs)(hc:∀ u∈cs,∀ z,u≠.int .u32 z): RtX (λk=>N k∨k=b) w v q:=by
 obtain⟨x,y,e,j,i⟩:=h;exact⟨x,y,e,j.box hB hc,i.box hB hc⟩
theorem no32{b:Bool}{A B:Option Addr}{m m' c':Nat}: ∀ u∈[Value.bool b,.slice A m c,.slice B m' c'],∀ z,u≠.int .u32 z:=λu i z e=>by
 simp only[List.mem_cons,List.not_mem_nil,or_false]at i;rcases i with rfl|rfl|rfl<;>cases e
def SF.dv(N:Nat->Prop)(q:PR): SF:=⟨λv w=>∃ x,v=.tuple #[x,.int .i64 0]/\RtX N w x q,λ⟨x,e,h⟩ hx=>⟨x,e,h.ext hx⟩⟩
def SF.rb(s:Nat): SF:=⟨λv w=>∃ b,v=.pointer (some ⟨b,0,none⟩)/\s<=b/\Blk w b 58 [.bool false,.slice none 0 0,.slice none 0 0],λ⟨b,e,h,hb⟩ hx=>⟨b,e,h,hb.ext hx⟩⟩
theorem Qws(hT:TbV w base b vr vg vb t)(hp:POk t)(hs:TSl t)(hc:c<t.n+t.m)(hn:t.n<=100)(hm:t.m<=100):
  Ret Tryz.prog 165 [.pointer (some ⟨b,0,none⟩),.int .i64 (c:Int)] w λu w'=>u=.int .i64 (Vd (lvS t c t.m))/\Ext w w':=by
 have cp:=hT.lt;have ch:t.rows.length=t.m:=hp.rows;have D:∀ i (hi:i<t.rows.length),t.rows[i].length=t.n+t.m+2:=λi hi=>by
  have:=(hp.row i (by rw[<-hp.rows];exact hi)).1;rwa [List.getD,List.getElem?_eq_getElem hi]at this
 refine Jz Tryz.func165 Tryz.ntmps165 rfl kr rfl ?_;obtain⟨R,rc,_,rfl,cg,c8,c7⟩:=id hT.rows.el;refine ρ ?_;refine alc Zy ?_;intro w1 b6 ay c0 bn;have c6:=hT.ext ay;refine ρ ?_;refine ld (c6.blk.at (i:=2) rfl) ?_;refine ρ ?_;refine Qq (fun (k:Nat) (ls:List Value)=>[(0,.pointer (some ⟨b,0,none⟩)),(1,.int .i64 (c:Int)),(5,.int .i64 (Vd (lvS t c k))),(6,.pointer (some ⟨b6,0,none⟩)),(15,.slice R t.rows.length rc),(16,.int .i64 (t.rows.length:Int)),(17,.int .i64 (k:Int))])
  (λk ls w'=>k<=t.m/\Ext w w'/\w1.heap.size<=w'.heap.size/\Blk w' b6 58 ls/\ls.length=3/\(∀ u∈ls,u.oneCell'=true)/\∀ p,lvS t c k=some p->RtC (Ol w1) w' ls p.2/\p.2.num<=86400/\p.2.den<=86400/\p.1<t.m) (λk _=>t.m-k) 0 [.bool false,.slice none 0 0,.slice none 0 0] sB ⟨Nat.zero_le _,ay,Nat.le_refl _,bn,rfl,Js rfl rfl rfl,λp h=>by cases h⟩ ?_
 rintro k ls w2 ⟨hk,a8,ah,au,ax,b4,hI⟩;have l6:=bn.lt;refine ρ ?_;refine ci (λh=>?_) (λh=>?_)
 .have a1:k<t.rows.length:=by have:=oT h;omega
  clear h;have b3:k<t.m:=om
  have bh:=c8.ext a8;obtain⟨ce,cm,⟨vk,rfl,cc⟩,bw⟩:=c7 k a1;obtain⟨K,kc,_,rfl,ck,_,cb,_,bi⟩:=id cc.el;rw[D k a1]at *;have bb:w2.cell? (adr R k)=some (.slice K (t.n+t.m+2) kc):=by
   have:=Xz a8 (bw 0 _ rfl);rwa [Nat.mul_one,add_zero]at this
  have aq:=cb.ext a8;obtain⟨ce,_,b7,ba⟩:=bi c (by rw[D k a1];omega);obtain⟨cr,_,b1,bs⟩:=bi (t.n+t.m+1) (by rw[D k a1];omega);have ec:t.rows[k][c]'(by rw[D k a1];omega)=(t.rows.getD k []).getD c pr0:=by simp[List.getD,List.getElem?_eq_getElem a1,List.getElem?_eq_getElem (show c<t.rows[k].length by rw[D k a1];omega)]
  have er:t.rows[k][t.n+t.m+1]'(by rw[D k a1];omega)=(t.rows.getD k []).getD t.right pr0:=by simp[PT.right,List.getD,List.getElem?_eq_getElem a1,List.getElem?_eq_getElem (show t.n+t.m+1<t.rows[k].length by rw[D k a1];omega)]
  have ac:Sl ((t.rows.getD k []).getD c pr0):=by rw[<-ec];exact hs.row _ (List.getElem_mem _) _ (List.getElem_mem _)
  have ag:Sl ((t.rows.getD k []).getD t.right pr0):=by rw[<-er];exact hs.row _ (List.getElem_mem _) _ (List.getElem_mem _)
  rw[ec]at b7;rw[er]at b1;generalize hqc:(t.rows.getD k []).getD c pr0=qc at *
  generalize hqr:(t.rows.getD k []).getD t.right pr0=qr at *
  obtain⟨E1,x1,E2,x2,rfl,bc⟩:=b7.sl;obtain⟨F1,y1,F2,y2,rfl,bt⟩:=b1.sl;refine ρ ?_;refine ix k bh a1 ?_;refine ρ ?_;refine ld bb ?_;refine ρ ?_;refine ixq 3 c aq om ?_;refine ρ ?_;refine lds (λj u hu=>Xz a8 (ba j u hu)) ?_;refine ρ ?_;refine cl (Ym (bc.ext a8) ac.len) ?_;rintro _ w3 ⟨rfl,Z⟩;have an:=a8.trans Z;refine ρ ?_;refine ci (λh=>?_) (λh=>?_)
  .have av:qc.sign<=0:=oT h;have e:lvS t c (k+1)=lvS t c k:=by
    conv=>lhs;unfold lvS
    simp only[hqc];rw[if_pos av]
   refine ρ ?_;refine Ja (k+1) ls (by rw[e];exact sO) ⟨om,an,Nat.le_trans ah Z.size,au.ext Z,ax,b4,λp a2=>?_⟩ om;rw[e]at a2;obtain⟨h1,h2⟩:=hI p a2;exact⟨RtC.sta.gr h1 (GrN.ext Z),h2⟩
  have av:¬ qc.sign<=0:=oF h;have a4:Ext w3 w3.drew:=(Ext.refl w3).drew;have a3:=an.trans a4;have ap:=aq.ext (Z.trans a4);have b2:qc.norm.num≠0:=Jgv (Jtw om);have f1:=ag.n;have f2:=ag.d;have f3:=ac.n;have f4:=ac.d;have f5:qr.den*qc.num<=120*720:=Nat.mul_le_mul f2 f3;have f6:qr.num*qc.den<=720*120:=Nat.mul_le_mul f1 f4;obtain⟨g1,g2,g3⟩:=div_le' ag.d0 ac.d0 b2;have c5:=hT.ext a3;have aw:w1.heap.size<=w3.drew.heap.size:=nL ah (Z.trans a4).size;refine ρ ?_;refine drH (λi=>i == 14 || i == 15) ?_;refine Vy (fuel':=10) 17 [(0,0),(0,1),(0,5),(0,6),(0,7),(0,8)] #[true,true,false,false,false,true,true,true,true,false,false,false,false,false,false,false] kr kr rfl ?_;refine ρd ?_;refine Qt 3 c ap om ?_;refine ρd ?_;refine Qw (λj u hu=>Xz a3 (ba j u hu)) ?_;refine ρd ?_;refine Zw ?_;refine hcut 1 (lst 16 15) (fun (y:Nat×List Value)=>[(40,.int .i64 0),(9,.pointer (some ⟨y.1,0,none⟩)),(0,.pointer (some ⟨b,0,none⟩)),(1,.int .i64 (c:Int)),(5,.int .i64 (Vd (lvS t c k))),(6,.pointer (some ⟨b6,0,none⟩)),(7,.int .i64 (k:Int)),(15,.slice R t.rows.length rc),(16,.int .i64 (t.rows.length:Int)),(17,.int .i64 (k:Int))])
   (λy W=>Ext w3.drew W/\w3.drew.heap.size<=y.1/\Blk W y.1 58 y.2/\y.2.length=3/\RtC (λk=>Ol w1 k∨k=y.1) W y.2 (PR.div qr qc)) ?_ ?_
  rotate_left
  .intro rest;have bo:∀ {v4:World} {x:Value} {b9:Nat},Ext w3.drew v4->RtX (Ol w1) v4 x (PR.div qr qc)->w3.drew.heap.size<=b9->Blk v4 b9 58 [.bool false,.slice none 0 0,.slice none 0 0]->∃ cs:List Value,x=.agg cs.toArray/\cs.length=3/\(∀ u∈cs,u.oneCell'=true)/\∀ {v5:World},Blk v5 b9 58 cs->v4.grownBy v5 (some b9)->RtC (λk=>Ol w1 k∨k=b9) v5 cs (PR.div qr qc):=fun {v4 x b9} hx hX hb hB=>by
    obtain⟨A',c',B',d',rfl,c2,c1⟩:=(hX.bx hB no32).sl;refine⟨_,rfl,rfl,Js rfl rfl rfl,fun {v5} hB5 hg=>?_⟩;have b5:GrN (λk=>Ol w1 k∨k=b9) v4 v5:=GrN.by hg λk ek=>by injection ek with ek;exact .inr ek.symm
    exact⟨_,_,rfl,c2.gr b5,c1.gr b5⟩
   refine Jlh 17 12 2 _ #[true,true,true,true,true,true,true,true,true,true,true,true,true,true,false,false] [2,3,4,9,10,11,12,13] [31,32,33,38,28,39,40,9] [SF.eq (.int .i64 ((t.n+t.m+1:Nat):Int)),SF.eq (.pointer (some (adr K ((t.n+t.m+1)*3)))),SF.eq (.agg #[.bool qr.neg,.slice F1 (Jj qr.num).length y1,.slice F2 (Jj qr.den).length y2]),SF.dv (Ol w1) (PR.div qr qc),SF.dv (Ol w1) (PR.div qr qc),SF.rx (Ol w1) (PR.div qr qc),SF.eq (.int .i64 0),SF.rb w3.drew.heap.size] kr (by rfl) ?_ ?_ ?_
   .refine gsc (λvs v1 B hd=>?_) ?_
    .simp only[slM];refine cl (Gy (c5.ext B).blk rfl rfl om om) ?_;rintro _ v2 ⟨rfl,O⟩;exact Jr (Qr O rfl)
    refine gsc (λvs v1 B hd=>?_) ?_
    .have e0:vs 0=_:=hd 0;simp only[slM,e0];refine ixq 3 (t.n+t.m+1) (ap.ext B) om ?_;exact Jr (Qr (Ext.refl _) rfl)
    refine gsc (λvs v1 B hd=>?_) ?_
    .have e0:vs 1=_:=hd 1;simp only[slM,e0];refine lds (λj u hu=>Xz (a3.trans B) (bs j u hu)) ?_;exact Jr (Qr (Ext.refl _) rfl)
    refine gsc (λvs v1 B hd=>?_) ?_
    .have e0:vs 2=_:=hd 2;simp only[slM,e0];refine cl (Jfq (bt.ext (a3.trans B)) (bc.ext (a3.trans B)) b2 ag.d0 ac.d0 om om om om om) ?_;rintro _ v2 ⟨⟨x,rfl,hX⟩,O⟩;exact Jr (Qr O ⟨x,rfl,hX.old λj hj=>.inl (nM hj (nL aw B.size))⟩)
    refine gsc (λvs v1 B hd=>?_) ?_
    .obtain⟨x,e0,hX⟩:=hd 3;simp only[slM,e0];refine ρ ?_;exact Qr (Ext.refl _) ⟨x,rfl,hX⟩
    refine gsc (λvs v1 B hd=>?_) ?_
    .obtain⟨x,e0,hX⟩:=hd 4;simp only[slM,e0];refine ρ ?_;exact Qr (Ext.refl _) hX
    refine gsc (λvs v1 B hd=>?_) ?_
    .obtain⟨x,e0,hX⟩:=hd 4;simp only[slM,e0];refine ρ ?_;exact Qr (Ext.refl _) rfl
    refine gsc (λvs v1 B hd=>?_) gse
    simp only[slM];refine alc Zy ?_;intro v2 b9 O G J;exact Jr (Qr O ⟨b9,rfl,Nat.le_trans B.size G,J⟩)
   .intro vs v1 B hd;obtain⟨b9,e7,G,J⟩:=hd 7;have hX:RtX (Ol w1) v1 (vs 5) (PR.div qr qc):=hd 5;have e6:vs 6=_:=hd 6;obtain⟨cs,e5,hl,h1,aa⟩:=bo B hX G J;simp only[slM,e7,e5,e6];refine Xu 14 kr rfl rfl ?_;refine stb J ?_ h1 (by simp[hl]) rfl rfl (by rw[hl]);intro v2 a7 hg2 O;refine Jr (Qf (λh=>by cases h) ?_);refine Ye (listed':=lst 16 15) kr ?_;exact rest (b9,cs) _ _ ⟨O _ B G,G,a7,hl,aa a7 hg2⟩ sB
   intro _ vs v1 B hd;obtain⟨b9,e7,G,J⟩:=hd 7;have hX:RtX (Ol w1) v1 (vs 5) (PR.div qr qc):=hd 5;obtain⟨x4,e4,co⟩:=hd 4;obtain⟨cs,e5,hl,h1,aa⟩:=bo B hX G J;simp only[slM,e7,e5,e4];refine Jjq 12 14 kr rfl rfl rfl ?_ ?_
   .refine ρ ?_;refine Qf (λ_=>Ext.refl _) ?_;refine Xu 14 kr rfl rfl ?_;refine stb J ?_ h1 (by simp[hl]) rfl rfl (by rw[hl]);intro v2 a7 hg2 O;refine Jr (Qf (λh=>by cases h) ?_);refine Ye (listed':=lst 16 15) kr ?_;exact rest (b9,cs) _ _ ⟨O _ B G,G,a7,hl,aa a7 hg2⟩ sB
   refine stb J ?_ h1 (by simp[hl]) rfl rfl (by rw[hl]);intro v2 a7 hg2 O;refine Jr (Qf (λh=>by cases h) ?_);refine Xu 12 kr rfl rfl ?_;refine ρ ?_;refine Qf (λ_=>Ext.refl _) ?_;refine Ye (listed':=lst 16 15) kr ?_;exact rest (b9,cs) _ _ ⟨O _ B G,G,a7,hl,aa a7 hg2⟩ sB
  rintro⟨b9,cs⟩ w4 ⟨a5,G,J,b8,bj⟩;simp only at G J b8 bj;refine Xu 15 kr rfl rfl ?_;refine ρ ?_;refine Qf (λ_=>Ext.refl _) ?_;refine Xn kr ?_;have ad:Blk w4 b6 _ ls:=au.ext ((Z.trans a4).trans a5);have am:=a3.trans a5;have c4:=hT.ext am;obtain⟨A9,c9,D9,d9,rfl,bg⟩:=bj.sl;have cj:b6<w4.heap.size:=ad.lt;refine ρ ?_;refine Xv (fun (o:Int)=>[(11,.int .i64 o),(9,.pointer (some ⟨b9,0,none⟩)),(0,.pointer (some ⟨b,0,none⟩)),(1,.int .i64 (c:Int)),(5,.int .i64 (Vd (lvS t c k))),(6,.pointer (some ⟨b6,0,none⟩)),(7,.int .i64 (k:Int)),(15,.slice R t.rows.length rc),(16,.int .i64 (t.rows.length:Int)),(17,.int .i64 (k:Int))])
   (λo W=>Ext w4 W/\o=match lvS t c k with|none=>-1|some p=>PR.cmp (PR.div qr qc) p.2) ?_ ?_
  .refine ci (λh=>?_) (λh=>?_)
   .have h1:0<=Vd (lvS t c k):=oT h;obtain⟨p,a6⟩:∃ p,lvS t c k=some p:=by
     cases e:lvS t c k with
     | none=>rw[e]at h1;simp[Vd]at h1
     | some p=>exact⟨p,rfl⟩
    obtain⟨i1,i2,i3,i4⟩:=hI p a6;obtain⟨P1,p1,P2,p2,rfl,ca⟩:=i1.sl;refine ρ ?_;refine ldW J ?_;refine ρ ?_;refine ldW ad ?_;refine ρ ?_;refine cl (Qqh bg (ca.ext ((Z.trans a4).trans a5)) (λj hj=>?_) (λj hj=>nM hj (nL aw a5.size)) om om om om) ?_
    .rcases hj with hj|hj
     .exact nM hj (nL aw a5.size)
     rw[hj];exact J.lt
    rintro _ w5 ⟨rfl,af⟩;refine ρ ?_;exact Jg _ sB ⟨af,by rw[a6]⟩
   have h1:¬ 0<=Vd (lvS t c k):=oF h;have e:lvS t c k=none:=by
    cases e:lvS t c k with
    | none=>rfl
    | some p=>rw[e]at h1;simp[Vd]at h1
   refine ρ ?_;exact Jg _ sB ⟨Ext.refl _,by rw[e]⟩
  rintro o w5 ⟨af,ho⟩;have ae:Ext w5 w5.drew:=(Ext.refl w5).drew;have ai:=c4.ext (af.trans ae);obtain⟨S,sc,eS,cd,_⟩:=Jf ai.bas;have aj:=Rd.own (show w5.drew.ownsRow base 3 1 (.slice S t.basis.length sc) t.basis.length (Jl (nz t.basis)) by rw[<-eS];exact ai.bas);have cn:t.basis.length=t.m:=hp.basis;subst eS;refine ρ ?_;refine Xv (fun (tk:Bool)=>[(68,.bool tk),(9,.pointer (some ⟨b9,0,none⟩)),(0,.pointer (some ⟨b,0,none⟩)),(1,.int .i64 (c:Int)),(5,.int .i64 (Vd (lvS t c k))),(6,.pointer (some ⟨b6,0,none⟩)),(7,.int .i64 (k:Int)),(15,.slice R t.rows.length rc),(16,.int .i64 (t.rows.length:Int)),(17,.int .i64 (k:Int))])
   (λtk W=>Ext w5 W/\tk=lvT t k (PR.div qr qc) (lvS t c k)) ?_ ?_
  .refine dr [(0,0),(0,1),(0,2),(0,3),(0,4),(0,5),(0,6),(0,7),(0,8),(0,9),(0,10),(0,11),(0,12),(0,13),(0,14),(0,15),(0,16),(0,17),(0,18),(0,19),(0,20),(0,21),(0,22)] kr ?_;refine ρd ?_;refine dki 48 (λh=>?_) (λh=>?_)
   .have h1:o<0:=oT h;refine ρd ?_;refine Jg true sB ⟨ae,?_⟩;cases e:lvS t c k with
    | none=>rfl
    | some p=>rw[e]at ho;simp only at ho;simp[lvT];left;omega
   have h1:¬ o<0:=oF h;obtain⟨p,a6⟩:∃ p,lvS t c k=some p:=by
    cases e:lvS t c k with
    | none=>rw[e]at ho;simp only at ho;omega
    | some p=>exact⟨p,rfl⟩
   obtain⟨_,_,_,i4⟩:=hI p a6;rw[a6]at ho;simp only at ho;have bz:Vd (lvS t c k)=(p.1:Int):=by rw[a6];rfl
   refine ρd ?_;refine dki 51 (λh=>?_) (λh=>?_)
   .have h2:o=0:=by simpa using h
    refine ρd ?_;refine dld (ai.blk.at (i:=4) rfl) ?_;refine ρd ?_;have be:k<t.basis.length:=om
    have bd:p.1<t.basis.length:=om
    refine dix k aj be ?_;refine ρd ?_;refine dld (aj.cell (Xq be)) ?_;refine ρd ?_;refine dld (ai.blk.at (i:=4) rfl) ?_;refine ρd ?_;refine dkv 63 (u:=.int .i64 (p.1:Int)) (congrArg (Value.int .i64) bz) ?_;refine dix p.1 aj bd ?_;refine ρd ?_;refine dld (aj.cell (Xq bd)) ?_;refine ρd ?_;refine Jg (decide (((t.basis.getD k 0:Nat):Int)<((t.basis.getD p.1 0:Nat):Int))) sB ⟨ae,?_⟩;rw[a6];simp only[lvT];rw[decide_eq_decide];omega
   have h2:¬ o=0:=by simpa using h
   refine ρd ?_;refine Jg false sB ⟨ae,?_⟩;rw[a6];simp only[lvT];symm
   rw[decide_eq_false_iff_not];omega
  rintro tk w6 ⟨bq,br⟩;have a9:=Qwc hqc hqr av;rw[<-br]at a9;have U:=af.trans bq;have ak:=am.trans U;have ar:=ad.ext U;have bl:=J.ext U;have bf:=bg.ext U;refine ρ ?_;refine ci (λh=>?_) (λh=>?_)
  .rw[if_pos h]at a9;have ab:Ext w6 w6.drew:=(Ext.refl w6).drew;refine ρ ?_;refine dr [(0,0),(0,1),(0,2),(2,3)] kr ?_;refine ρd ?_;refine Qw (λj u hu=>(bl.ext ab).at hu) ?_;refine ρd ?_;refine Jy ?_;refine stb (cs':=[.bool (PR.div qr qc).neg,.slice A9 _ c9,.slice D9 _ d9]) (ar.ext ab) ?_ (Js rfl rfl rfl) (by rw[ax];rfl);intro w7 bm hg7 bp;have az:Ext w w7:=bp w (ak.trans ab) c0;obtain⟨_,_,ee,e1,e2⟩:=(bf.ext ab);injection ee with ee
   injection ee with ee
   injection ee with _ ee
   injection ee with ea ee
   injection ee with eb _
   subst ea;subst eb;have ao:GrN (λk=>Ol w1 k∨k=b9) w6.drew w7:=GrN.by hg7 λj ej=>by injection ej with ej;subst ej;exact .inl l6
   refine ρ ?_;refine Ja (k+1) [.bool (PR.div qr qc).neg,.slice A9 _ c9,.slice D9 _ d9] (by rw[a9];exact sO) ⟨om,az,Nat.le_trans ah (nL (Z.trans a4).size (nL a5.size (nL U.size (nL ab.size hg7.size)))),bm,rfl,Js rfl rfl rfl,λp a2=>?_⟩ om;rw[a9]at a2;injection a2 with a2
   subst a2;exact⟨RtC.sta.old ⟨_,_,rfl,e1.gr ao,e2.gr ao⟩ λj hj=>.inl (.inl hj),by show(PR.div qr qc).num<=_;omega,by show(PR.div qr qc).den<=_;omega,b3⟩
  rw[if_neg (by rw[h];decide)]at a9;refine ρ ?_;refine Ja (k+1) ls (by rw[a9];exact sO) ⟨om,ak,Nat.le_trans ah (nL (Z.trans a4).size (nL a5.size U.size)),ar,ax,b4,λp a2=>?_⟩ om;rw[a9]at a2;obtain⟨h1,h2⟩:=hI p a2;exact⟨RtC.sta.gr h1 (GrN.ext (((Z.trans a4).trans a5).trans U)),h2⟩
 have bu:k=t.m:=by have:=oF h;omega
 subst bu;refine ρ ?_;exact Jq ⟨rfl,a8⟩
end Go.Proofs.YtebiphhfkdbpfaaGreatDoor
namespace Go.Wk
variable {al:AL}{Q:Exit->Act->World->Prop}{l n:Nat}{P:Program}{w:World}
theorem wlab(h:QX n Q .normal al w): WC P n (.label l) Q al w:=λa i=>wp_label (h a i)
theorem Jrc{c:Code}(h:WC P n c (Exit.noGoto Q) al w): WC P n (.scope c) Q al w:=λa i=>wp_scope_straight (h a i)
theorem xret(h:QX n Q .ret al w): QX n (Exit.noGoto Q) .ret al w:=h
end Go.Wk
namespace Go.Proofs.YtebiphhfkdbpfaaGreatDoor
open Go.RowKit Pl Go.Wk Bl
attribute [local irreducible] WC WL QX WD WDB WP WN WG WH
variable {cols j m n:Nat}{t t':PT}{S T0:QT}
theorem Qym(hj:j<cols)(h:(t.goal.getD j pr0).sign<0)(h0:∀ i,i<j->¬ (t.goal.getD i pr0).sign<0): t.enter cols=some j:=by
 unfold PT.enter;induction cols with
 | zero=>omega
 | succ n ih=>
  rw[List.range_succ,List.find?_append];rcases Nat.lt_or_ge j n with h1|h1
  .rw[ih h1];rfl
  have e:j=n:=om
  subst e;have:(List.range j).find? (λj=>decide ((t.goal.getD j pr0).sign<0))=none:=by
   rw[List.find?_eq_none];intro i hi;simpa using h0 i (List.mem_range.1 hi)
  rw[this];simp only[List.find?_cons,h,decide_true];rfl
theorem Qyn(h0:∀ i,i<cols->¬ (t.goal.getD i pr0).sign<0): t.enter cols=none:=by
 unfold PT.enter;rw[List.find?_eq_none];intro i hi;simpa using h0 i (List.mem_range.1 hi)
theorem Jsl{q:PR}(h:q.val≠0): q.num≠0:=λe=>h (by
 unfold PR.val;rw[e];have:((0:Nat):Rat)=0:=rfl;rw[this];split<;>grind)
theorem Jsp(h:PSt n m T0 t S)(h0:∀ i j,i<m->j<n+m->isI (T0.a i j) 1)(h1:∀ i,i<m->isI (T0.b i) 1)(h2:∀ j,j<n+m->isI (T0.g j) 1)(hz:T0.z=0)(hnm:0<n+m)(hm:m<=5): TSl t:=by
 obtain⟨hr,hg⟩:=h.small h0 h1 h2 hz hnm;have a2:fct (m+1)<=720:=nL (Jjt (show m+1<=6 by omega)) (by decide);have a1:fct m<=120:=nL (Jjt hm) (by decide);have hn:=h.en;have G:=h.em;have B:=h.agr.ok;refine⟨λl hl q D=>?_,λq D=>?_⟩
 .obtain⟨i,hi,rfl⟩:=List.getElem_of_mem hl;have O:i<m:=by rw[<-G,<-B.rows];exact hi
  obtain⟨y,Z⟩:=B.row i om;have e1:t.rows.getD i []=t.rows[i]:=by simp[List.getD,List.getElem?_eq_getElem hi]
  obtain⟨j,J,rfl⟩:=List.getElem_of_mem D;have e2:t.rows[i].getD j pr0=t.rows[i][j]:=by simp[List.getD,List.getElem?_eq_getElem J]
  have U:=hr i j O (by rw[e1]at y;rw[PT.right]at y;omega);have u:=Z j (by rw[e1]at y;omega);rw[e1,e2]at U u;exact⟨u,om,om⟩
 obtain⟨y,Z⟩:=B.goal;obtain⟨j,J,rfl⟩:=List.getElem_of_mem D;have e2:t.goal.getD j pr0=t.goal[j]:=by simp[List.getD,List.getElem?_eq_getElem J]
 have U:=hg j (by rw[PT.right]at y;omega);have u:=Z j om;rw[e2]at U u;exact⟨u,om,om⟩
theorem Qks{w:World}{base b fuel:Nat}{vr vg vb:Value}(hT:TbV w base b vr vg vb t)(hst:PSt n m T0 t S)(hsl:∀ t S,PSt n m T0 t S->TSl t)(hB:Bnd m (n+m) T0)(hmx:PT.maxim (n+m) fuel t=some t')(hn:n<=100)(hm:m<=100)(hbase:base<=w.heap.size):
  Ret Tryz.prog 94 [.pointer (some ⟨b,0,none⟩),.int .i64 ((n+m:Nat):Int)] w λu w'=>u=.tuple #[.int .i64 0,.bool true]/\∃ vg',TbV w' base b vr vg' vb t'/\GrN (TN b vr vb) w w':=by
 refine Jz Tryz.func94 Tryz.ntmps94 rfl kr rfl ?_;refine ρ ?_;refine Jrc ?_;refine wseq ?_;refine wlab ?_;refine ρ ?_;refine Qq (fun (k:Nat) (t:PT)=>[(0,.pointer (some ⟨b,0,none⟩)),(1,.int .i64 ((n+m:Nat):Int))])
  (λk t w'=>PT.maxim (n+m) k t=some t'/\(∃ S,PSt n m T0 t S)/\(∃ vg',TbV w' base b vr vg' vb t)/\GrN (TN b vr vb) w w') (λk _=>k) fuel t ?_ ⟨hmx,⟨S,hst⟩,⟨vg,hT⟩,GrN.refl _ _⟩ ?_
 .exact sB
 rintro k t w1 ⟨hmx,⟨S,hst⟩,⟨vg,hT⟩,a2⟩;have hs:=hsl t S hst;have ok:=hst.agr.ok;have am:=hst.en;have an:=hst.em;obtain⟨k,rfl⟩:∃ j,k=j+1:=by
  cases k with
  | zero=>cases hmx
  | succ j=>exact⟨j,rfl⟩
 have ak:t.goal.length=n+m+2:=by have:=ok.goal.1;rw[PT.right]at this;omega
 refine ρ ?_;refine Jp (fun (j:Nat)=>[(0,.pointer (some ⟨b,0,none⟩)),(1,.int .i64 ((n+m:Nat):Int)),(8,.int .i64 ((n+m:Nat):Int)),(9,.int .i64 (j:Int))])
  (λj w'=>j<=n+m/\Ext w1 w'/\∀ i,i<j->¬ (t.goal.getD i pr0).sign<0) (λj=>n+m-j) 0 sB ⟨Nat.zero_le _,Ext.refl _,λi hi=>absurd hi om⟩ ?_
 rintro j w2 ⟨hj,B,a1⟩;have J:=hT.ext B;refine ρ ?_;refine ci (λh=>?_) (λh=>?_)
 .have aa:j<n+m:=by have:=oT h;omega
  clear h;obtain⟨G,gc,_,rfl,_,_,ai,_,ah⟩:=id J.goal.el;obtain⟨ce,_,a6,ae⟩:=ah j om;have e1:t.goal[j]'(by omega)=t.goal.getD j pr0:=by simp[List.getD,List.getElem?_eq_getElem (show j<t.goal.length by omega)]
  have a9:Sl (t.goal.getD j pr0):=by rw[<-e1];exact hs.goal _ (List.getElem_mem _)
  simp only[e1]at a6;obtain⟨E1,x1,E2,x2,rfl,af⟩:=a6.sl;refine ρ ?_;refine ld (J.blk.at (i:=3) rfl) ?_;refine ρ ?_;refine ixq 3 j ai om ?_;refine ρ ?_;refine lds (λi u hu=>ae i u hu) ?_;refine ρ ?_;refine cl (Ym af a9.len) ?_;rintro _ w3 ⟨rfl,D⟩;have a8:=J.ext D;refine ρ ?_;refine ci (λh=>?_) (λh=>?_)
  .have ac:¬ (t.goal.getD j pr0).sign<0:=by have:=oT h;omega
   refine ρ ?_;exact Jh (j+1) sO ⟨om,B.trans D,λi hi=>by
    rcases Nat.lt_or_ge i j with h1|h1
    .exact a1 i h1
    have:i=j:=om
    subst this;exact ac⟩ om
  have a3:(t.goal.getD j pr0).sign<0:=by have:=oF h;omega
  have U:=Qym aa a3 a1;obtain⟨_,r,y,aj,a7,O⟩:=hst.next hB U;have a5:Vd (lvS t j t.m)=(r:Int):=by
   unfold PT.leaving at y;rw[ok.rows]at y;cases e:lvS t j t.m with
   | none=>rw[e]at y;cases y
   | some p=>rw[e]at y;simp only[Option.map_some,Option.some.injEq]at y;simp[Vd,y]
  have a4:PT.maxim (n+m) k (t.pivot r j)=some t':=by
   rw[PT.maxim,U]at hmx;simp only[y]at hmx;exact hmx
  refine ρ ?_;refine cl (Qws (c:=j) a8 ok hs om om om) ?_;rintro _ w4 ⟨rfl,Z⟩;rw[a5];refine ρ ?_;refine cl (Qxh (r:=r) (c:=j) (a8.ext Z) ok hs (hsl _ _ O) om om (Jgv (Jsl ?_)) om om (nL hbase (nL a2.size ((B.trans D).trans Z).size))) ?_
  .rw[hst.agr.a r j om om];have:=a7.pos;intro e;rw[e]at this;exact absurd this (by decide)
  rintro _ w5 ⟨rfl,vg',ag,ad⟩;refine ρ ?_;exact Ja k (t.pivot r j) sB ⟨a4,⟨_,O⟩,⟨vg',ag⟩,(a2.trans (GrN.ext ((B.trans D).trans Z))).trans ad⟩ om
 have ab:j=n+m:=by have:=oF h;omega
 subst ab;rw[PT.maxim,Qyn a1]at hmx;injection hmx with hmx
 subst hmx;refine ρ ?_;refine xret ?_;exact Qs ⟨rfl,vg,J,a2.trans (GrN.ext B)⟩
open Go.RowKit Pl Go.Wk Bl
variable {A rows':List (List PR)}{i n:Nat}
theorem Qdt(a b:Int)(w:World): (Instr.build 182 #[(0,.int .i64 a),(1,.int .i64 b)]).run Tryz.prog w=.ok (.agg #[.int .i64 a,.int .i64 b,.slice none 0 0,.slice none 0 0,.slice none 0 0]) w:=kr
theorem Jpd(A:Option Addr)(m c:Nat)(w:World): (Instr.buildSlice 122 1 #[(0,.slice A m c)]).run Tryz.prog w=.ok (.slice (some ⟨w.heap.size,0,none⟩) 1 1) (w.alloc (.cells [.slice A m c].toArray 56)):=kr
theorem Jqc(z:Int)(w:World): (Instr.buildSlice 22 1 #[(0,.int .i64 z)]).run Tryz.prog w=.ok (.slice (some ⟨w.heap.size,0,none⟩) 1 1) (w.alloc (.cells [.int .i64 z].toArray 3)):=kr
theorem GX.nil{α:Type}{sz:Nat}{Φ:(Nat->Prop)->World->List Value->α->Prop}(N:Nat->Prop)(w:World): GX sz Φ N w (.slice none 0 0) ([]:List α):=⟨⟨[],none,0,rfl,rfl,Nat.le_refl _,by simp,Rd.nil,λp i=>by cases i⟩,λh=>absurd rfl h⟩
theorem Qwh{α:Type}(d:α){l k:List α}(h:l.length=k.length)(he:∀ i,i<l.length->l.getD i d=k.getD i d): l=k:=by
 refine List.ext_getElem h λi j u=>?_;have:=he i j;simpa [List.getD,List.getElem?_eq_getElem j,List.getElem?_eq_getElem u] using this
theorem Qzk(hA:Bin n A)(hi:i<A.length): (((mix (A.getD i []++List.replicate (A.length+2) pr0) (List.replicate (n+A.length+2) pr0) n).set (n+i) (PR.int 1)).set (n+A.length) (PR.int (-1))).set (n+A.length+1) (PR.int 1)=(PT.ofP n A).rows.getD i []:=by
 have D:=(hA i hi).1;have B:((PT.ofP n A).rows.getD i []).length=n+A.length+2:=by
  rw[Jjk i hi,List.length_append,List.length_append,D,List.length_map,List.length_range];rfl
 have y:=λj=>Kl hA.rok i j hi;generalize A.getD i []=a at *
 have u:(mix (a++List.replicate (A.length+2) pr0) (List.replicate (n+A.length+2) pr0) n).length=n+A.length+2:=by
  rw[Yt (by simp[D];omega) (by simp;omega)];simp
 refine Qwh pr0 (by rw[List.length_set,List.length_set,List.length_set,u,B]) λj O=>?_;rw[List.length_set,List.length_set,List.length_set,u]at O;rw[y j];have G:∀(l:List PR) (k:Nat) (x:PR),k<l.length->(l.set k x).getD j pr0=if k=j then x else l.getD j pr0:=λl k x J=>by
  by_cases h:k=j
  .subst h;simp[List.getD,J]
  simp[List.getD,List.getElem?_set_ne h,h]
 rw[G _ _ _ (by rw[List.length_set,List.length_set,u];omega),G _ _ _ (by rw[List.length_set,u];omega),G _ _ _ (by rw[u];omega)];have U:(mix (a++List.replicate (A.length+2) pr0) (List.replicate (n+A.length+2) pr0) n).getD j pr0=if j<n then(a).getD j pr0 else pr0:=by
  unfold mix;rw[Jjr,List.length_take,List.length_append,D,List.length_replicate,Nat.min_eq_left om];by_cases h:j<n
  .rw[if_pos h,if_pos h];simp only[List.getD_eq_getElem?_getD,List.getElem?_take,h,if_true,List.getElem?_append_left (show j<a.length by omega)]
  rw[if_neg h,if_neg h];simp only[List.getD_eq_getElem?_getD,List.getElem?_drop,List.getElem?_replicate];split<;>rfl
 rw[U];by_cases h1:j<n
 .rw[if_neg om,if_neg om,if_neg om,if_pos h1,if_pos h1]
 rw[if_neg h1,if_neg h1];by_cases h2:j<n+A.length
 .rw[if_neg om,if_neg om,if_pos h2];by_cases h3:n+i=j
  .rw[if_pos h3,if_pos om]
  rw[if_neg h3,if_neg om]
 rw[if_neg h2];by_cases h3:j=n+A.length
 .rw[if_neg om,if_pos h3.symm,if_pos h3]
 rw[if_pos om,if_neg h3,if_pos om]
section
variable {w w1 w2:World} {base b:Nat} {vr vr' vg vb vb':Value} {t:PT}
theorem TbV.addRow(hT:TbV w base b vr vg vb t)(ho:OX 56 1 MxC (λk=>TN b vr vb k∨w.heap.size<=k) w1 base vr' rows')(hg:w.grownBy w1 vr.ownBlock)(hn:∀ g,vr'.ownBlock=some g->vr.ownBlock=some g∨w.heap.size<=g)(hB:Blk w2 b 182 [.int .i64 (t.n:Int),.int .i64 (t.m:Int),vr',vg,vb])(hg2:w1.grownBy w2 (some b)): TbV w2 base b vr' vg vb ⟨t.n,t.m,rows',t.goal,t.basis⟩:=by
 have G:=hT.blk.lt;have j:∀ k,TN b vr' vb k->TN b vr vb k∨w.heap.size<=k:=λk i=>by
  rcases i with i|i|i
  .exact .inl (.inl i)
  .rcases hn k i with h|h
   .exact .inl (.inr (.inl h))
   exact .inr h
  exact .inl (.inr (.inr i))
 have B:vr'.ownBlock≠some b:=λe=>by
  rcases hn b e with h|h
  .exact hT.ne1 h
  omega
 obtain⟨ps,_,y,_⟩:=id hT.rows;have O:GrN (λk=>TN b vr vb k∨w.heap.size<=k) w w1:=GrN.by hg λk i=>.inl (.inr (.inl i))
 have J:GrN (λk=>TN b vr vb k∨w.heap.size<=k) w1 w2:=GrN.by hg2 λk i=>by injection i with i;exact .inl (.inl i.symm)
 refine⟨hB,(ho.gr MxC.sta (M:=λk=>k=b) (GrN.by hg2 λk i=>by injection i with i;exact i.symm) λk i=>⟨.inl (.inl i),λe=>B (by rw[e,i])⟩).old MxC.sta λk i=>.inl (j k i),?_,?_⟩
 .exact(((hT.goal.old RtC.sta (by decide) (λk i=>i)).gr RtC.sta (by decide) O).gr RtC.sta (by decide) J).old RtC.sta (by decide) λk i=>.inl (j k i)
 have u:Zx w1 base vb t.basis:=Qn hT.bas (N:=λk=>vr.ownBlock=some k) (GrN.by hg λk i=>i) λg u D=>Jxr hT.bas y kr u D;exact Qn u (N:=λk=>k=b) (GrN.by hg2 λk i=>by injection i with i;exact i.symm) λg u D=>hT.ne2 (by rw[u,D])
theorem TbV.addBas(hT:TbV w base b vr vg vb t){basis':List Nat}(ho:Zx w1 base vb' basis')(hg:w.grownBy w1 vb.ownBlock)(hn:∀ g,vb'.ownBlock=some g->vb.ownBlock=some g∨w.heap.size<=g)(hB:Blk w2 b 182 [.int .i64 (t.n:Int),.int .i64 (t.m:Int),vr,vg,vb'])(hg2:w1.grownBy w2 (some b)): TbV w2 base b vr vg vb' ⟨t.n,t.m,t.rows,t.goal,basis'⟩:=by
 have G:=hT.blk.lt;have j:∀ k,TN b vr vb' k->TN b vr vb k∨w.heap.size<=k:=λk i=>by
  rcases i with i|i|i
  .exact .inl (.inl i)
  .exact .inl (.inr (.inl i))
  rcases hn k i with h|h
  .exact .inl (.inr (.inr h))
  exact .inr h
 have y:vb'.ownBlock≠some b:=λe=>by
  rcases hn b e with h|h
  .exact hT.ne2 h
  omega
 obtain⟨ps,_,u,_⟩:=id hT.rows;have O:GrN (λk=>TN b vr vb k∨w.heap.size<=k) w w1:=GrN.by hg λk i=>.inl (.inr (.inr i))
 have J:GrN (λk=>TN b vr vb k∨w.heap.size<=k) w1 w2:=GrN.by hg2 λk i=>by injection i with i;exact .inl (.inl i.symm)
 refine⟨hB,?_,?_,Qn ho (N:=λk=>k=b) (GrN.by hg2 λk i=>by injection i with i;exact i.symm) λg D B=>y (by rw[D,B])⟩
 .have h0:=hT.rows.old MxC.sta (N':=λk=>TN b vr vb k∨w.heap.size<=k) λk i=>i;have D:=h0.gr MxC.sta (M:=λk=>vb.ownBlock=some k) (GrN.by hg λk i=>i) λk i=>⟨.inl (.inr (.inr i)),λe=>Jxr hT.bas u kr i e⟩;have B:=D.gr MxC.sta (M:=λk=>k=b) (GrN.by hg2 λk i=>by injection i with i;exact i.symm) λk i=>⟨.inl (.inl i),λe=>hT.ne1 (by rw[e,i])⟩;exact B.old MxC.sta λk i=>.inl (j k i)
 exact(((hT.goal.old RtC.sta (by decide) (λk i=>i)).gr RtC.sta (by decide) O).gr RtC.sta (by decide) J).old RtC.sta (by decide) λk i=>.inl (j k i)
end
open Go.RowKit Pl Go.Wk Bl
theorem Qkb{N:Nat->Prop}{w:World}{vC vA vB:Value}{n:Nat}{A:List (List PR)}(hC:GX 3 RtC N w vC (List.replicate n (PR.int 1)))(hA:GX 1 MxC N w vA A)(hB:GX 3 RtC N w vB (List.replicate A.length (PR.int 1)))(hbin:Bin n A)(hn:n<=64)(hm:A.length<=64):
  Ret Tryz.prog 90 [.agg #[vC,vA,vB]] w λu w'=>∃ base b vr vb,u=.pointer (some ⟨b,0,none⟩)/\w.heap.size<=base/\w.heap.size<=b/\base<=w'.heap.size/\TbV w' base b vr (.slice none 0 0) vb ⟨n,A.length,(PT.ofP n A).rows,[],(PT.ofP n A).basis⟩/\Ext w w':=by
 have av:(PT.ofP n A).rows.length=A.length:=by simp[PT.ofP]
 obtain⟨CA,cc,_,rfl,ee,_,_,_,_⟩:=id hC.el;obtain⟨AA,ac,_,rfl,fn,_,f4,_,f3⟩:=id hA.el;obtain⟨BA,bc,_,rfl,ei,_,dq,_,dn⟩:=id hB.el;simp only[List.length_replicate]at hC hB ee ei dq dn ⊢;refine Jz Tryz.func90 Tryz.ntmps90 rfl kr rfl ?_;refine ρ ?_;refine bx ?_;intro w1 b1 b9 fm bh;refine ρ ?_;refine ld (bh.at (i:=0) rfl) ?_;refine ρ ?_;refine ld (bh.at (i:=2) rfl) ?_;refine ρ ?_;refine bld (Qdt _ _ _) ?_;refine ρ ?_;refine bx ?_;intro w2 b b7 cg dw;have c0:=bh.ext b7;have a8:=b9.trans b7;have l1:=bh.lt;refine ρ ?_;refine ld (c0.at (i:=1) rfl) ?_;refine ρ ?_;refine Zb (fun (i:Nat) (vr vb:Value)=>[(1,.pointer (some ⟨b1,0,none⟩)),(3,.pointer (some ⟨b,0,none⟩)),(18,.slice AA A.length ac),(19,.int .i64 (A.length:Int)),(20,.int .i64 (i:Int))])
  (λi vr vb w'=>i<=A.length/\Ext w w'/\w2.heap.size<=w'.heap.size/\Blk w' b1 124 [.slice CA n cc,.slice AA A.length ac,.slice BA A.length bc]/\TbV w' w2.heap.size b vr (.slice none 0 0) vb ⟨n,A.length,(PT.ofP n A).rows.take i,[],(List.range i).map (n + ·)⟩) (λi _ _=>A.length-i) 0 (.slice none 0 0) (.slice none 0 0) sB
  ⟨Nat.zero_le _,a8,Nat.le_refl _,c0,dw,OX.nil _ _,GX.nil _ _,Zg _ _ _ _⟩ ?_
 rintro i vr vb w3 ⟨hi,ai,cr,az,B⟩;refine ρ ?_;refine ci (λh=>?_) (λh=>?_)
 .have D:i<A.length:=by have:=oT h;omega
  clear h;obtain⟨ce,fk,⟨va,rfl,hG⟩,ed⟩:=f3 i D;have em:A.getD i []=A[i]:=by simp[List.getD,List.getElem?_eq_getElem D]
  obtain⟨bd,dg⟩:=hbin i D;rw[<-em]at hG;generalize haa:A.getD i []=a at *
  obtain⟨K,kc,_,rfl,e9,_,dm,_,ew⟩:=id hG.el;rw[bd]at dm e9;have bo:w3.cell? (adr AA i)=some (.slice K a.length kc):=by
   have:=Xz ai (ed 0 _ rfl);rwa [Nat.mul_one,add_zero]at this
  rw[bd]at bo;refine ρ ?_;refine ix i (f4.ext ai) D ?_;refine ρ ?_;refine ld bo ?_;refine ρ ?_;refine cl (Gy (n:=n) (m:=A.length) B.blk rfl rfl om om) ?_;rintro _ w4 ⟨rfl,J⟩;refine ρ ?_;refine Go.Wk.kv 27 (u:=.int .i64 ((n+A.length+2:Nat):Int)) (congrArg (Value.int .i64) (by show((n+A.length+1:Nat):Int)+1=_;omega)) ?_;refine cl (Jqk (n+A.length+2) om w4) ?_;rintro u w5 ⟨hU,cp⟩;have f6:=J.trans cp;obtain⟨U,uc,_,eu,fh,aw,fo⟩:=id hU.el;rw[List.length_replicate]at eu aw;subst eu;obtain⟨_,_,_,_,be⟩:=id hU.form;have bf:∀ g,(Value.slice U (n+A.length+2) uc).ownBlock=some g->Ov w4 (.slice U (n+A.length+2) uc) g:=λg hg=>.inr hg;have d2:(a++List.replicate (A.length+2) pr0).length=(List.replicate (n+A.length+2) pr0).length:=by simp[bd];omega
  refine ρ ?_;refine Jp (fun (j:Nat)=>[(1,.pointer (some ⟨b1,0,none⟩)),(3,.pointer (some ⟨b,0,none⟩)),(4,.int .i64 (i:Int)),(6,.slice U (n+A.length+2) uc),(18,.slice AA A.length ac),(19,.int .i64 (A.length:Int)),(20,.int .i64 (i:Int)),(29,.slice K n kc),(30,.int .i64 (n:Int)),(31,.int .i64 (j:Int))])
   (λj w'=>j<=n/\Ext w4 w'/\OX 58 3 RtC (Ov w4 (.slice U (n+A.length+2) uc)) w' w4.heap.size (.slice U (n+A.length+2) uc) (mix (a++List.replicate (A.length+2) pr0) (List.replicate (n+A.length+2) pr0) j)) (λj=>n-j) 0 sB ⟨Nat.zero_le _,cp,by rw[Gm];exact hU⟩ ?_
  rintro j w6 ⟨hj,ap,ax⟩;have c8:(mix (a++List.replicate (A.length+2) pr0) (List.replicate (n+A.length+2) pr0) j).length=n+A.length+2:=by rw[Yt d2 (by simp;omega)];simp
  have ar:=J.trans ap;obtain⟨U',e3,_,ev,_,br,_⟩:=id ax.el;rw[c8]at ev br;injection ev with ev1 ev2 ev3
  subst ev1;obtain⟨_,_,_,_,dh⟩:=id ax.form;refine ρ ?_;refine ci (λh=>?_) (λh=>?_)
  .have ba:j<n:=by have:=oT h;omega
   clear h;obtain⟨ce,_,da,ec⟩:=ew j om;have df:a[j]'(by omega)=a.getD j pr0:=by simp[List.getD,List.getElem?_eq_getElem (show j<a.length by omega)]
   rw[df]at da;have e0:=dg j ba;have cy:(a.getD j pr0).Nrm:=by
    rcases e0 with e|e<;>rw[e]
    .exact Jjg
    exact PR.int_nrm 1
   have e7:=cy.norm;have f7:(a.getD j pr0).num<=1/\(a.getD j pr0).den<=1:=by rcases e0 with e|e<;>rw[e]<;>decide
   have d3:(a++List.replicate (A.length+2) pr0)[j]?=some (a.getD j pr0):=by rw[List.getElem?_append_left om,<-df];exact gE om
   generalize a.getD j pr0=q at *
   obtain⟨E1,x1,E2,x2,rfl,e6⟩:=da.sl;have aj:=ai.trans ar;refine ρ ?_;refine ixq 3 j (dm.ext aj) ba ?_;refine ρ ?_;refine lds (λk u hu=>Xz aj (ec k u hu)) ?_;refine ρ ?_;refine alc Zy ?_;intro w7 b8 b6 ek f0;refine ρ ?_;refine stb (cs':=[.bool q.neg,.slice E1 _ x1,.slice E2 _ x2]) f0 ?_ (Js rfl rfl rfl);intro w8 dt d4 e4;have a6:Ext w6 w8:=e4 w6 b6 ek;refine ρ ?_;refine ldW dt ?_;refine ρ ?_;refine cl (Xo (e6.ext (aj.trans a6)) om om) ?_;rintro r w9 ⟨hR,am⟩;rw[e7]at hR;have ao:=a6.trans am;obtain⟨G1,g1,G2,g2,rfl,cd⟩:=hR.cell;refine ρ ?_;refine ixq 3 j (br.ext ao) om ?_;refine ρ ?_;refine stX RtC.sta (ax.ext RtC.sta ao) c8.symm (show j<_ by omega) (cs:=[.bool q.neg,.slice G1 _ g1,.slice G2 _ g2]) (a:=q) (RtC.sta.old cd λk y=>.inl ?_) bf (Js rfl rfl rfl) ?_
   .rcases y with y|y
    .exact nM y (ap.trans a6).size
    exact nM (dh k y).2 a6.size
   intro e2 a5 d7;rw[Ys d2 (by simp;omega) d3]at a5;refine ρ ?_;exact Jh (j+1) sO ⟨om,Jt (ap.trans ao) d7 (λg hg=>(be g hg).1),a5⟩ om
  have ba:j=n:=by have:=oF h;omega
  clear h;subst ba;have et:=B.ext ar;have f9:=az.ext ar;have ca:(mix (a++List.replicate (A.length+2) pr0) (List.replicate (j+A.length+2) pr0) j).length=j+A.length+2:=c8;have ch:∀ {w':World} {ls:List PR},OX 58 3 RtC (Ov w4 (.slice U (j+A.length+2) uc)) w' w4.heap.size (.slice U (j+A.length+2) uc) ls->Ext w4 w'->∀ k,Ov w4 (.slice U (j+A.length+2) uc) k->k<w'.heap.size:=fun {w' ls} h hx k y=>by
   rcases y with y|y
   .exact nM y hx.size
   obtain⟨_,_,_,_,h3⟩:=id h.form;exact(h3 k y).2
  have aw:∀ {w':World} {ls:List PR},OX 58 3 RtC (Ov w4 (.slice U (j+A.length+2) uc)) w' w4.heap.size (.slice U (j+A.length+2) uc) ls->ls.length=j+A.length+2->∃ cs,Rd w' 3 U (j+A.length+2) cs:=fun {w' ls} h hl=>by
   obtain⟨U',e3,cs,ev,_,hd,_⟩:=id h.el;rw[hl]at ev hd;injection ev with ev1 ev2 ev3
   subst ev1;exact⟨cs,hd⟩
  generalize hL0:mix (a++List.replicate (A.length+2) pr0) (List.replicate (j+A.length+2) pr0) j=L0 at *
  have b5:Ext w6 w6.drew:=(Ext.refl w6).drew;have eo:=et.ext b5;refine ρ ?_;refine dr [(0,0),(0,1),(0,2),(0,3),(0,4),(0,5),(0,6),(1,7),(0,8),(2,9)] kr ?_;refine ρd ?_;refine dld (v:=.int .i64 (j:Int)) (eo.blk.at (i:=0) rfl) ?_;refine ρd ?_;refine dcl (Gd 1 (by decide) (by decide) _) ?_;rintro r w7 ⟨hR,b6⟩;refine⟨b6,?_⟩;have bi:=b5.trans b6;have dj:=ax.ext RtC.sta bi;obtain⟨_,eb⟩:=aw dj ca;obtain⟨G1,g1,G2,g2,rfl,cd⟩:=hR.cell;refine ρd ?_;refine Qt 3 (j+i) eb om ?_;refine ρd ?_;refine Jy ?_;refine stX RtC.sta dj ca.symm (show j+i<_ by omega) (cs:=[.bool (PR.int 1).neg,.slice G1 _ g1,.slice G2 _ g2]) (a:=PR.int 1) (RtC.sta.old cd λk y=>.inl (ch (ax.ext RtC.sta b5) (ap.trans b5) k y)) bf (Js rfl rfl rfl) ?_;intro w8 di d4;have aq:Ext w4 w8:=Jt (ap.trans bi) d4 (λg hg=>(be g hg).1);have c9:(L0.set (j+i) (PR.int 1)).length=j+A.length+2:=by rw[List.length_set];exact ca
  have er:=B.ext (J.trans aq);refine ρ ?_;refine cl (Qfs (n:=j) (m:=A.length) er.blk rfl rfl om om) ?_;rintro _ w9 ⟨rfl,am⟩;refine ρ ?_;refine cl (Gd (-1) (by decide) (by decide) _) ?_;rintro r e2 ⟨hR,cq⟩;have an:=am.trans cq;have a5:=di.ext RtC.sta an;obtain⟨_,d9⟩:=aw a5 c9;obtain⟨H1,h1,H2,h2,rfl,dd⟩:=hR.cell;refine ρ ?_;refine ixq 3 (j+A.length) d9 om ?_;refine ρ ?_;refine stX RtC.sta a5 c9.symm (show j+A.length<_ by omega) (cs:=[.bool (PR.int (-1)).neg,.slice H1 _ h1,.slice H2 _ h2]) (a:=PR.int (-1)) (RtC.sta.old dd λk y=>.inl (ch (di.ext RtC.sta am) (aq.trans am) k y)) bf (Js rfl rfl rfl) ?_;intro b4 bu d6;have G:Ext w4 b4:=Jt (aq.trans an) d6 (λg hg=>(be g hg).1);have bn:((L0.set (j+i) (PR.int 1)).set (j+A.length) (PR.int (-1))).length=j+A.length+2:=by rw[List.length_set];exact c9
  have ah:Ext b4 b4.drew:=(Ext.refl b4).drew;have dl:=(B.ext (J.trans G)).ext ah;have co:=(az.ext (J.trans G)).ext ah;have au:=(ai.trans (J.trans G)).trans ah;obtain⟨cb,_,bp,db⟩:=dn i D;have eh:(List.replicate A.length (PR.int 1))[i]'(by simpa using D)=PR.int 1:=by simp
  simp only[eh]at bp;obtain⟨F1,f1,F2,f2,rfl,ej⟩:=bp.sl;have e8:(PR.int 1).norm=PR.int 1:=(PR.int_nrm 1).norm;refine ρ ?_;refine dr [(0,0),(0,1),(0,3),(0,4),(0,5),(0,6),(0,7),(1,2),(1,8),(0,9),(2,10)] kr ?_;refine ρd ?_;refine dld (co.at (i:=2) rfl) ?_;refine ρd ?_;refine Qt 3 i (dq.ext au) D ?_;refine ρd ?_;refine Qw (λk u hu=>Xz au (db k u hu)) ?_;refine ρd ?_;refine dcl (Gy (n:=j) (m:=A.length) dl.blk rfl rfl om om) ?_;rintro _ fe ⟨rfl,a3⟩;refine⟨a3,?_⟩;refine ρd ?_;refine dcl (Xo (ej.ext (au.trans a3)) (by decide) (by decide)) ?_;rintro r fd ⟨hR,bj⟩;refine⟨bj,?_⟩;rw[e8]at hR;have a7:=(ah.trans a3).trans bj;have bt:=bu.ext RtC.sta a7;obtain⟨_,d8⟩:=aw bt bn;obtain⟨I1,i1,I2,i2,rfl,dc⟩:=hR.cell;refine ρd ?_;refine Qt 3 (j+A.length+1) d8 om ?_;refine ρd ?_;refine Jy ?_;refine stX RtC.sta bt bn.symm (show j+A.length+1<_ by omega) (cs:=[.bool (PR.int 1).neg,.slice I1 _ i1,.slice I2 _ i2]) (a:=PR.int 1) (RtC.sta.old dc λk y=>.inl (ch (bu.ext RtC.sta (ah.trans a3)) (G.trans (ah.trans a3)) k y)) bf (Js rfl rfl rfl) ?_
  intro e1 ay d5;have a2:Ext w4 e1:=Jt (G.trans a7) d5 (λg hg=>(be g hg).1);rw[<-hL0]at ay;have de:=Qzk hbin D;rw[haa]at de;rw[de]at ay;have cx:(PT.ofP j A).rows.getD i []=(PT.ofP j A).rows[i]'(by rw[av];exact D):=by simp[List.getD,List.getElem?_eq_getElem (show i<(PT.ofP j A).rows.length by rw[av];exact D)]
  have cw:((PT.ofP j A).rows.getD i []).length=j+A.length+2:=by rw[Jjk i D,haa,List.length_append,List.length_append,bd,List.length_map,List.length_range];rfl
  generalize hrw:(PT.ofP j A).rows.getD i []=rw' at *
  have bz:=B.ext (J.trans a2);have cn:=az.ext (J.trans a2);have c7:=ai.trans (J.trans a2);have bm:=nL cr (J.trans a2).size;refine ρ ?_;refine ld (bz.blk.at (i:=2) rfl) ?_;refine ρ ?_;refine bsl (Jpd _ _ _) ?_;intro b3 bb Z fl ez;have ad:=bz.ext Z;have bs:=(ay.ext RtC.sta Z).old RtC.sta (N':=λk=>Ov w4 (.slice U (j+A.length+2) uc) k∨b3.heap.size<=k) λk y=>y;have en:=B.lt;have ey:GX 3 RtC (λk=>TN b vr vb k∨b3.heap.size<=k) b3 (.slice U (j+A.length+2) uc) rw':=bs.gx RtC.sta (by rw[cw];omega) λk y=>by
   obtain⟨_,_,_,_,h3⟩:=id bs.form;rcases y with y|y
   .have:=en k y;have:=J.size;exact⟨.inl (.inl om),λe=>by have:=(h3 k e).1;omega⟩
   exact⟨.inr y,λe=>by have:=(h3 k e).2;omega⟩
  refine ρ ?_;refine apX (N:=λk=>TN b vr vb k∨b3.heap.size<=k) EMx MxC.sta (ad.rows.old MxC.sta λk y=>y) ez rfl (λu hu=>by rw[List.mem_singleton.1 hu];rfl) ⟨_,rfl,ey⟩ (λg hg=>.inl (.inr (.inl hg))) (by simp;omega) (by decide) (nL bm Z.size) ?_;intro vr' fc af a4 d1;have e5:(PT.ofP j A).rows.take i++[rw']=(PT.ofP j A).rows.take (i+1):=by rw[List.take_add_one,List.getElem?_eq_getElem (by rw[av];exact D),cx];rfl
  simp only at af;rw[e5]at af;obtain⟨R',fg,ev,_,_⟩:=id af.form;subst ev;have cj:=ad.blk.grown a4 (λe=>ad.ne1 e.symm);refine ρ ?_;refine stF (i:=2) cj rfl ?_;intro ag dz aa;have bw:=ad.addRow af a4 d1 dz aa;have ep:∀ k,TN b vr vb k->w2.heap.size<=k∨k=b:=λk y=>by
   rcases y with y|y|y
   .exact .inr y
   .obtain⟨_,_,_,_,h3⟩:=id B.rows.form;exact .inl (h3 k y).1
   obtain⟨_,_,_,_,h3⟩:=Jf B.bas;exact .inl (h3 k y).1
  have fj:=dw.lt;have bq:b1≠b:=om
  have c6:=c7.trans Z;have c5:Ext w ag:=Jt (Jt c6 a4 λk y=>by
   obtain⟨_,_,_,_,h3⟩:=id B.rows.form;have:=(h3 k y).1;have:=a8.size;omega) aa λk y=>by injection y with y;subst y;exact nL b9.size cg
  have cm:Blk ag b1 _ _:=((cn.ext Z).grown a4 λe=>by
   obtain⟨_,_,_,_,h3⟩:=id B.rows.form;have:=(h3 b1 e.symm).1;have:=b7.size;omega).grown aa λe=>by injection e with e;exact bq e
  have bl:w2.heap.size<=ag.heap.size:=nL bm (nL Z.size (nL a4.size aa.size));obtain⟨S,sc,eS,fi,_⟩:=Jf bw.bas;have ak:Ext ag ag.drew:=(Ext.refl ag).drew;have bg:=bw.ext ak;have cz:¬ vb.ownBlock=some b:=bg.ne2;have eg:((List.range i).map (j + ·)).length=i:=by simp
  refine ρ ?_;refine drN (λk=>vb.ownBlock=some k) 18 [(0,0),(0,1),(0,2),(0,3),(0,4),(0,5),(0,6),(0,7),(0,8),(0,9),(0,10),(1,11),(1,12),(0,13),(0,14),(2,15)] kr ?_;refine ρn ?_;refine nld (λw' hg=>(Ql bg.blk hg cz).at (i:=4) rfl) ?_;refine ρn ?_;refine nld (v:=.int .i64 (j:Int)) (λw' hg=>(Ql bg.blk hg cz).at (i:=0) rfl) ?_;refine ρn ?_;refine nkv 86 (u:=.int .i64 ((j+i:Nat):Int)) (congrArg (Value.int .i64) (show(j:Int)+(i:Int)=((j+i:Nat):Int) by omega)) ?_;refine nop ?_;refine bsl (Jqc _) ?_;intro fb b2 O f8 ds;refine Jr (Zh (GrN.ext O) ?_);have ab:=bg.ext O;refine ρn ?_;refine nop ?_;refine apI (z:=j+i) ab.bas ds (by rw[eg];omega) (nL bl (ak.trans O).size) ?_;intro vb' fa ae a1 d0;have ef:(List.range i).map (j + ·)++[j+i]=(List.range (i+1)).map (j + ·):=by rw[List.range_succ,List.map_append];rfl
  simp only at ae;rw[ef]at ae;refine Jr (Zh (GrN.by a1 λk e=>e) ?_);obtain⟨S',ff,f5,_,_⟩:=Jf ae;subst f5;have dx:=ab.blk.grown a1 (λe=>ab.ne2 e.symm);refine ρn ?_;refine Kn ?_;refine stF (i:=4) dx rfl ?_;intro c1 du a9;have dk:=ab.addBas ae a1 d0 du a9;have c4:=c5.trans (ak.trans O);have c2:Ext w c1:=Jt (Jt c4 a1 λk y=>by
   obtain⟨_,_,_,_,h3⟩:=Jf B.bas;have:=(h3 k y).1;have:=a8.size;omega) a9 λk y=>by injection y with y;subst y;exact nL b9.size cg
  have ck:Blk c1 b1 _ _:=((cm.ext (ak.trans O)).grown a1 λe=>by
   obtain⟨_,_,_,_,h3⟩:=Jf B.bas;have:=(h3 b1 e.symm).1;have:=b7.size;omega).grown a9 λe=>by injection e with e;exact bq e
  have cu:w2.heap.size<=c1.heap.size:=nL bl (nL (ak.trans O).size (nL a1.size a9.size));refine Jr (Km ?_);refine ρn ?_;refine ρ ?_;exact Qe (i+1) _ _ sO ⟨om,c2,cu,ck,dk⟩ om
 have ea:i=A.length:=by have:=oF h;omega
 subst ea;rw[<-av,List.take_length,av]at B;refine ρ ?_;exact Jq ⟨w2.heap.size,b,vr,vb,rfl,a8.size,Nat.le_trans b9.size cg,cr,B,ai⟩
open Go.RowKit Pl Go.Wk Bl
variable {A:List (List PR)}{g:List PR}{b base i n:Nat}{N:Nat->Prop}{vA vB vC vb vg vr:Value}{w:World}
theorem Jsg(hC:GX 3 RtC N w vC (List.replicate n (PR.int 1)))(hA:GX 1 MxC N w vA A)(hB:GX 3 RtC N w vB (List.replicate A.length (PR.int 1)))(hbin:Bin n A)(hm:A.length<=64):
  Ret Tryz.prog 89 [.agg #[vC,vA,vB]] w λu w'=>u=.bool true/\Ext w w':=by
 obtain⟨CA,cc,_,rfl,O,_,_,_,_⟩:=id hC.el;obtain⟨AA,ac,_,rfl,a8,_,a4,_,a3⟩:=id hA.el;obtain⟨BA,bc,_,rfl,U,_,a2,_,a1⟩:=id hB.el;simp only[List.length_replicate]at hC hB O U a2 a1 ⊢;refine Jz Tryz.func89 Tryz.ntmps89 rfl kr rfl ?_;refine ρ ?_;refine bx ?_;intro w1 b1 B a7 y;refine ρ ?_;refine ld (y.at (i:=1) rfl) ?_;refine ρ ?_;refine ld (y.at (i:=2) rfl) ?_;refine ρ ?_;refine cf ?_ ?_
 .simp
 refine ρ ?_;refine ld (y.at (i:=1) rfl) ?_;refine ρ ?_;refine Jp (fun (i:Nat)=>[(1,.pointer (some ⟨b1,0,none⟩)),(13,.slice AA A.length ac),(14,.int .i64 (A.length:Int)),(15,.int .i64 (i:Int))]) (λi w'=>i<=A.length/\w'=w1) (λi=>A.length-i) 0 sB ⟨Nat.zero_le _,rfl⟩ ?_;rintro i w2 ⟨hi,rfl⟩;refine ρ ?_;refine ci (λh=>?_) (λh=>?_)
 .have j:i<A.length:=by have:=oT h;omega
  clear h;obtain⟨ce,a6,⟨va,rfl,hG⟩,G⟩:=a3 i j;obtain⟨K,kc,_,rfl,a5,_,_,_,_⟩:=id hG.el;have J:=(hbin i j).1;have Z:A.getD i []=A[i]:=by simp[List.getD,List.getElem?_eq_getElem j]
  rw[Z]at J;rw[J]at G;have D:w2.cell? (adr AA i)=some (.slice K n kc):=by
   have:=Xz B (G 0 _ rfl);rwa [Nat.mul_one,add_zero]at this
  refine ρ ?_;refine ix i (a4.ext B) j ?_;refine ρ ?_;refine ld D ?_;refine ρ ?_;refine ld (y.at (i:=0) rfl) ?_;refine ρ ?_;refine cf ?_ ?_
  .simp
  refine ρ ?_;exact Jh (i+1) sO ⟨om,rfl⟩ om
 refine ρ ?_;exact Jq ⟨rfl,B⟩
theorem Qzh(hbin:Bin n A)(hi:i<A.length): ((PT.ofP n A).rows.getD i []).getD (n+A.length+1) pr0=PR.int 1:=by
 rw[Kl hbin.rok i _ hi,if_neg om,if_neg om,if_neg om,if_pos rfl]
theorem Qzg(hbin:Bin n A)(hi:i<A.length): ((PT.ofP n A).rows.getD i []).length=n+A.length+2:=by
 rw[Jjk i hi,List.length_append,List.length_append,(hbin i hi).1,List.length_map,List.length_range];rfl
theorem Qyh(hT:TbV w base b vr vg vb ⟨n,A.length,(PT.ofP n A).rows,g,(PT.ofP n A).basis⟩)(hbin:Bin n A)(hn:n<=64)(hm:A.length<=64):
  Ret Tryz.prog 91 [.pointer (some ⟨b,0,none⟩)] w λu w'=>u=.bool true/\Ext w w':=by
 have U:(PT.ofP n A).rows.length=A.length:=by simp[PT.ofP]
 obtain⟨R,rc,_,ev,aj,a7,a6⟩:=id hT.rows.el;simp only[U]at ev a7 a6;subst ev;refine Jz Tryz.func91 Tryz.ntmps91 rfl kr rfl ?_;refine ρ ?_;refine ld (hT.blk.at (i:=2) rfl) ?_;refine ρ ?_;refine Jp (fun (k:Nat)=>[(0,.pointer (some ⟨b,0,none⟩)),(3,.int .i64 (-1)),(13,.slice R A.length rc),(14,.int .i64 (A.length:Int)),(15,.int .i64 (k:Int))]) (λk w'=>k<=A.length/\Ext w w') (λk=>A.length-k) 0 sB ⟨Nat.zero_le _,Ext.refl _⟩ ?_;rintro k w1 ⟨hk,y⟩;refine ρ ?_;refine ci (λh=>?_) (λh=>?_)
 .have B:k<A.length:=by have:=oT h;omega
  clear h;obtain⟨ce,an,⟨vk,rfl,a9⟩,a5⟩:=a6 k B;have af:(PT.ofP n A).rows[k]'(by rw[U];exact B)=(PT.ofP n A).rows.getD k []:=by simp[List.getD,List.getElem?_eq_getElem (show k<(PT.ofP n A).rows.length by rw[U];exact B)]
  rw[af]at a9;have D:=Qzg hbin B;have ae:=Qzh hbin B;generalize (PT.ofP n A).rows.getD k []=row at *
  obtain⟨K,kc,_,rfl,ak,_,a8,_,ah⟩:=id a9.el;rw[D]at a5 a8;have a4:w1.cell? (adr R k)=some (.slice K (n+A.length+2) kc):=by
   have:=Xz y (a5 0 _ rfl);rwa [Nat.mul_one,add_zero]at this
  obtain⟨cr,_,a2,a3⟩:=ah (n+A.length+1) (by rw[D];omega);have er:row[n+A.length+1]'(by rw[D];omega)=PR.int 1:=by rw[<-ae];simp[List.getD,List.getElem?_eq_getElem (show n+A.length+1<row.length by rw[D];omega)]
  rw[er]at a2;obtain⟨F1,f1,F2,f2,rfl,ad⟩:=a2.sl;refine ρ ?_;refine ix k (a7.ext y) B ?_;refine ρ ?_;refine ld a4 ?_;refine ρ ?_;refine cl (Gy (n:=n) (m:=A.length) (hT.blk.ext y) rfl rfl om om) ?_;rintro _ w2 ⟨rfl,O⟩;refine ρ ?_;refine ixq 3 (n+A.length+1) ((a8.ext y).ext O) om ?_;refine ρ ?_;refine lds (λj u hu=>Xz (y.trans O) (a3 j u hu)) ?_;refine ρ ?_;refine alc Zy ?_;intro w3 b6 ac ag ai;refine ρ ?_;refine stb (cs':=[.bool (PR.int 1).neg,.slice F1 _ f1,.slice F2 _ f2]) ai ?_ (Js rfl rfl rfl);intro w4 aa am ab;have a1:Ext w2 w4:=ab w2 ac ag;have G:=(y.trans O).trans a1;have J:Ext w4 w4.drew:=(Ext.refl w4).drew;refine ρ ?_;refine dr [(0,0),(1,1),(0,2),(0,3),(0,4),(0,5),(0,6),(0,7),(0,8),(0,9),(0,10),(0,11),(0,12),(0,13),(0,14),(0,15),(1,16),(0,17),(0,18),(1,19),(0,20),(0,21),(0,22)] kr ?_;refine ρd ?_;refine Qw (λj u hu=>(aa.ext J).at hu) ?_
  refine ρd ?_;refine dcl (Ym (ad.ext (G.trans J)) (by have:=Qk (n:=(PR.int 1).num) (by decide);omega)) ?_;rintro _ w5 ⟨rfl,Z⟩;refine⟨Z,?_⟩;refine ρd ?_;refine ρ ?_;exact Jh (k+1) sO ⟨om,(G.trans J).trans Z⟩ om
 refine ρ ?_;exact Jq ⟨rfl,y⟩
theorem Qzj: (PT.ofP n A).goal=mix (List.replicate n (PR.int (-1))++List.replicate (A.length+2) pr0) (List.replicate (n+A.length+2) pr0) n:=by
 unfold mix PT.ofP;simp only;rw[List.take_append_of_le_length (by simp),List.take_of_length_le (by simp),List.drop_replicate,show n+A.length+2-n=A.length+2 by omega]
theorem Qzm(hT:TbV w base b vr vg vb ⟨n,A.length,(PT.ofP n A).rows,g,(PT.ofP n A).basis⟩)(hC:GX 3 RtC N w vC (List.replicate n (PR.int 1)))(hNC:∀ k,TN b vr vb k->N k)(hbin:Bin n A)(hn:n<=64)(hm:A.length<=64):
  Ret Tryz.prog 93 [.pointer (some ⟨b,0,none⟩),vC] w λu w'=>u=.tuple #[]/\∃ vg',TbV w' base b vr vg' vb (PT.ofP n A)/\GrN (TN b vr vb) w w':=by
 obtain⟨CA,cc,_,rfl,b1,_,bd,_,bc⟩:=id hC.el;simp only[List.length_replicate]at hC b1 bd bc ⊢;have Z:=hT.lt;refine Jz Tryz.func93 Tryz.ntmps93 rfl kr rfl ?_;refine ρ ?_;refine cl (Gy (n:=n) (m:=A.length) hT.blk rfl rfl om om) ?_;rintro _ w1 ⟨rfl,D⟩;refine ρ ?_;refine Go.Wk.kv 10 (u:=.int .i64 ((n+A.length+2:Nat):Int)) (congrArg (Value.int .i64) (show((n+A.length+1:Nat):Int)+1=_ by omega)) ?_;refine cl (Jqk (n+A.length+2) om w1) ?_;rintro u w2 ⟨hU,a2⟩;obtain⟨U,uc,_,eu,bi,_,_⟩:=id hU.el;rw[List.length_replicate]at eu;subst eu;obtain⟨_,_,_,_,O⟩:=id hU.form;have ae:=D.trans a2;have a6:=hT.ext D;generalize hu:Value.slice U (n+A.length+2) uc=u at *
 have bb:∀ k,(TN b vr vb k∨u.ownBlock=some k)->TN b vr vb k∨w1.heap.size<=k:=λk y=>y.elim .inl λh=>.inr (O k h).1;have ba:=(a6.rows.old MxC.sta bb).ext MxC.sta a2;have b6:OX 58 3 RtC (λk=>TN b vr vb k∨u.ownBlock=some k) w2 w1.heap.size u (List.replicate (n+A.length+2) pr0):=hU.old RtC.sta λk y=>by
  rcases y with y|y
  .exact .inl (.inl (nM (Z k y) D.size))
  exact .inl (.inr y)
 have an:u.ownBlock≠some b:=λe=>by have:=(O b e).1;have:=a6.blk.lt;omega
 have b8:=Ju a6.bas a2;have bg:=a6.blk.ext a2;refine ρ ?_;refine stF (i:=3) (v:=u) bg rfl ?_ rfl rfl rfl rfl rfl (by rw[<-hu];rfl);intro w3 bf ax;have J:GrN (λk=>k=b) w2 w3:=GrN.by ax λk y=>by injection y with y;exact y.symm
 have b9:=ba.gr MxC.sta J λk y=>⟨.inl (.inl y),λe=>hT.ne1 (by rw[e,y])⟩;have b5:=b6.gr RtC.sta J λk y=>⟨.inl (.inl y),λe=>an (by rw[e,y])⟩;have b7:Zx w3 base vb (PT.ofP n A).basis:=Qn b8 J λg h1 h2=>hT.ne2 (by rw[h1,h2]);have ak:GrN (TN b vr vb) w w3:=(GrN.ext ae).trans (J.mono λk _ y=>.inl y);have ai:(List.replicate n (PR.int (-1))++List.replicate (A.length+2) pr0).length=(List.replicate (n+A.length+2) pr0).length:=by simp;omega
 refine ρ ?_;refine Jp (fun (j:Nat)=>[(0,.pointer (some ⟨b,0,none⟩)),(1,.slice CA n cc),(15,.int .i64 (n:Int)),(16,.int .i64 (j:Int))])
  (λj w'=>j<=n/\GrN (TN b vr vb) w w'/\Blk w' b 182 [.int .i64 (n:Int),.int .i64 (A.length:Int),vr,u,vb]/\OX 56 1 MxC (λk=>TN b vr vb k∨u.ownBlock=some k) w' base vr (PT.ofP n A).rows/\Zx w' base vb (PT.ofP n A).basis/\OX 58 3 RtC (λk=>TN b vr vb k∨u.ownBlock=some k) w' w1.heap.size u (mix (List.replicate n (PR.int (-1))++List.replicate (A.length+2) pr0) (List.replicate (n+A.length+2) pr0) j)) (λj=>n-j) 0 sB
  ⟨Nat.zero_le _,ak,bf,b9,b7,by rw[Gm];exact b5⟩ ?_
 rintro j w4 ⟨hj,a3,ac,ab,aq,a5⟩;have ah:(mix (List.replicate n (PR.int (-1))++List.replicate (A.length+2) pr0) (List.replicate (n+A.length+2) pr0) j).length=n+A.length+2:=by rw[Yt ai (by simp;omega)];simp
 refine ρ ?_;refine ci (λh=>?_) (λh=>?_)
 .have G:j<n:=by have:=oT h;omega
  clear h;have a9:Ext w4 w4.drew:=(Ext.refl w4).drew;have be:=(hC.gr RtC.sta (by decide) (a3.mono λk _ y=>hNC k y)).ext RtC.sta (by decide) a9;obtain⟨bn,bm,_,ev,_,_,a8,_,ar⟩:=id be.el;simp only[List.length_replicate]at ev a8;injection ev with ev1 ev2 ev3
  subst ev1;obtain⟨ce,_,am,az⟩:=ar j (by simpa using G);have e1:(List.replicate n (PR.int 1))[j]'(by simpa using G)=PR.int 1:=by simp
  simp only[e1]at am;obtain⟨F1,f1,F2,f2,rfl,b2⟩:=am.sl;have af:(PR.int 1).opp=PR.int (-1):=by decide +kernel
  have au:=ac.ext a9;have av:∀ {w':World} {ls:List PR},OX 58 3 RtC (λk=>TN b vr vb k∨u.ownBlock=some k) w' w1.heap.size u ls->ls.length=n+A.length+2->∃ cs,Rd w' 3 U (n+A.length+2) cs:=fun {w' ls} h hl=>by
   obtain⟨U',bh,cs,ev,_,hd,_⟩:=id h.el;rw[hl]at ev hd;rw[<-hu]at ev;injection ev with ev1 ev2 ev3
   subst ev1;exact⟨cs,hd⟩
  refine ρ ?_;refine dr [(0,0),(0,1),(0,2),(0,3),(0,4),(0,5),(0,6),(0,7),(0,8),(1,9),(0,10),(2,11)] kr ?_;refine ρd ?_;refine dld (v:=.slice U (n+A.length+2) uc) (by rw[hu];exact au.at (i:=3) rfl) ?_;refine ρd ?_;refine Qt 3 j a8 G ?_;refine ρd ?_;refine Qw (λk x hx=>az k x hx) ?_;refine ρd ?_;refine dcl (Jfn b2 (by decide) (by decide)) ?_;rintro r w5 ⟨hR,ad⟩;refine⟨ad,?_⟩;rw[af]at hR;have B:=a9.trans ad;have aa:=a5.ext RtC.sta B;obtain⟨_,ay⟩:=av aa ah;obtain⟨G1,g1,G2,g2,rfl,b3⟩:=hR.cell;refine ρd ?_;refine Qt 3 j ay om ?_;refine ρd ?_;refine Jy ?_;obtain⟨_,_,_,_,ao⟩:=id a5.form;have aj:∀ w1' ,OX 58 3 RtC (λk=>TN b vr vb k∨u.ownBlock=some k) w1' w1.heap.size u ((mix (List.replicate n (PR.int (-1))++List.replicate (A.length+2) pr0) (List.replicate (n+A.length+2) pr0) j).set j (PR.int (-1)))->w5.grownBy w1' u.ownBlock->GrN (TN b vr vb) w w1'/\Blk w1' b 182 [.int .i64 (n:Int),.int .i64 (A.length:Int),vr,u,vb]/\OX 56 1 MxC (λk=>TN b vr vb k∨u.ownBlock=some k) w1' base vr (PT.ofP n A).rows/\Zx w1' base vb (PT.ofP n A).basis/\OX 58 3 RtC (λk=>TN b vr vb k∨u.ownBlock=some k) w1' w1.heap.size u (mix (List.replicate n (PR.int (-1))++List.replicate (A.length+2) pr0) (List.replicate (n+A.length+2) pr0) (j+1)):=λw6 a4 hg6=>by
   rw[Ys ai (by simp;omega) (by rw[List.getElem?_append_left (by simpa using G)];simp[G])]at a4;have a7:GrN (λk=>u.ownBlock=some k) w5 w6:=GrN.by hg6 λk y=>y
   refine⟨?_,?_,?_,?_,a4⟩
   .have h1:GrN (TN b vr vb) w w5:=a3.trans (GrN.ext B);refine⟨hg6.os.trans h1.os,hg6.tape.trans h1.tape,hg6.output.trans h1.output,Nat.le_trans h1.size hg6.size,λk y hn=>(hg6.block k (nM y h1.size) λe=>?_).trans (h1.block k y hn)⟩;have:=(O k e.symm).1;have:=D.size;omega
   .exact(ac.ext B).grown hg6 (λe=>an e.symm)
   .obtain⟨_,_,_,_,h3⟩:=id ab.form;refine(ab.ext MxC.sta B).gr MxC.sta a7 λk y=>⟨.inr y,λe=>?_⟩;have:=Z k (.inr (.inl e));have:=(O k y).1;have:=D.size;omega
   exact Qn (Ju aq B) a7 λg h1 h2=>by
    have:=Z g (.inr (.inr h1));have:=(O g h2).1;have:=D.size;omega
  rw[<-hu]at aa aj ⊢;refine stX RtC.sta aa ah.symm (show j<_ by omega) (cs:=[.bool (PR.int (-1)).neg,.slice G1 _ g1,.slice G2 _ g2]) (a:=PR.int (-1)) (RtC.sta.old b3 λk y=>.inl ?_) (λg hg=>.inr hg) (Js rfl rfl rfl) ?_
  .rcases y with y|y
   .exact nM (Z k y) a3.size
   rw[hu]at y;exact(ao k y).2
  intro w6 a4 hg6;obtain⟨k1,k2,k3,k4,k5⟩:=aj w6 a4 hg6;refine ρ ?_;exact Jh (j+1) sO ⟨om,k1,k2,k3,k4,k5⟩ om
 have G:j=n:=by have:=oF h;omega
 clear h;subst G;rw[<-Qzj]at a5;have aw:(PT.ofP j A).goal.length<=1100000:=by simp[PT.ofP];omega
 have a1:TbV w4 base b vr u vb (PT.ofP j A):=⟨ac,ab.old MxC.sta λk y=>.inl (.inl y),a5.gx RtC.sta aw λk y=>⟨.inl y,λe=>by
  have:=Z k y;have:=(O k e).1;have:=D.size;omega⟩,aq⟩
 obtain⟨S,sc,eS,bj,_⟩:=Jf a1.bas;have bl:(PT.ofP j A).basis.length=A.length:=by simp[PT.ofP]
 have b4:∀ k,k<A.length->(PT.ofP j A).basis.getD k 0=j+k:=λk y=>by simp[PT.ofP,List.getD,y]
 have ap:=Rd.own (show w4.ownsRow base 3 1 (.slice S (PT.ofP j A).basis.length sc) (PT.ofP j A).basis.length (Jl (nz (PT.ofP j A).basis)) by rw[<-eS];exact a1.bas);subst eS;refine ρ ?_;refine ld (a1.blk.at (i:=4) rfl) ?_;refine ρ ?_;refine Jp (fun (k:Nat)=>[(0,.pointer (some ⟨b,0,none⟩)),(34,.slice S (PT.ofP j A).basis.length sc),(35,.int .i64 ((PT.ofP j A).basis.length:Int)),(36,.int .i64 (k:Int))]) (λk w'=>k<=A.length/\w'=w4) (λk=>A.length-k) 0 sB ⟨Nat.zero_le _,rfl⟩ ?_;rintro k w5 ⟨y,rfl⟩;refine ρ ?_;refine ci (λh=>?_) (λh=>?_)
 .have ag:k<(PT.ofP j A).basis.length:=by have:=oT h;omega
  clear h;refine ρ ?_;refine ix k ap ag ?_;refine ρ ?_;refine ld (ap.cell (Xq ag)) ?_;refine ρ ?_;refine ld (v:=.int .i64 (j:Int)) (a1.blk.at (i:=0) rfl) ?_;refine ρ ?_;refine cf ?_ ?_
  .rw[b4 k om];exact dF om
  refine ρ ?_;exact Jh (k+1) sO ⟨om,rfl⟩ om
 refine ρ ?_;exact Zo ⟨rfl,u,a1,a3⟩
end Go.Proofs.YtebiphhfkdbpfaaGreatDoor
namespace Go.Wk
open Go.RowKit
theorem Jmb{α:Type}{sz:Nat}: ∀ {ps:List (List Value×α)} {k:Nat},(∀ p∈ps,p.1.length=sz)->k<=ps.length->Jc (ps.drop k)=(Jc ps).drop (k*sz)
 | ps,0,_,_=>by simp
 | [],k+1,_,h=>by simp at h
 | p::ps,k+1,h,hk=>by
  have hp:=h p (by simp);have ih:=Jmb (ps:=ps) (k:=k) (λx hx=>h x (by simp[hx])) (by simpa using hk);have e:Jc (p::ps)=p.1++Jc ps:=rfl;rw[List.drop_succ_cons,ih,e,Nat.succ_mul,List.drop_append,show p.1.drop (k*sz+sz)=[] from List.drop_of_length_le om,List.nil_append,hp,show k*sz+sz-sz=k*sz by omega]
theorem Jlw{α:Type}{sz:Nat}: ∀ {ps:List (List Value×α)} {k:Nat},(∀ p∈ps,p.1.length=sz)->k<=ps.length->Jc (ps.take k)=(Jc ps).take (k*sz)
 | ps,0,_,_=>by simp[Jc]
 | [],k+1,_,h=>by simp at h
 | p::ps,k+1,h,hk=>by
  have hp:=h p (by simp);have ih:=Jlw (ps:=ps) (k:=k) (λx hx=>h x (by simp[hx])) (by simpa using hk);have e:Jc (p::ps)=p.1++Jc ps:=rfl;have e2:Jc (p::ps.take k)=p.1++Jc (ps.take k):=rfl;rw[List.take_succ_cons,e2,ih,e,Nat.succ_mul,List.take_append,show p.1.take (k*sz+sz)=p.1 from List.take_of_length_le om,hp,show k*sz+sz-sz=k*sz by omega]
theorem OX.rd{α:Type}{e sz base m c:Nat}{A:Option Addr}{Φ:(Nat->Prop)->World->List Value->α->Prop}{N:Nat->Prop}{w:World}{ls:List α}(h:OX e sz Φ N w base (.slice A m c) ls)(hm:m=ls.length): ∃ L,Rd w sz A m L:=by
 obtain⟨ps,j,i,u⟩:=h;have:m=ps.length:=by rw[hm,j,List.length_map]
 subst this;exact⟨_,Rd.own i⟩
theorem GX.cut{α:Type}{sz:Nat}{Φ:(Nat->Prop)->World->List Value->α->Prop}{N:Nat->Prop}{w:World}{A:Option Addr}{L c:Nat}{ls:List α}(h:GX sz Φ N w (.slice A L c) ls)(hs:0<sz){k m:Nat}(hk:k<=m)(hm:m<=ls.length):
  GX sz Φ N w (.slice (if c=k then A else A.map (·.add (k*sz))) (m-k) (c-k)) ((ls.drop k).take (m-k)):=by
 obtain⟨⟨ps,A0,c0,e,J,e2,e3,G,B⟩,hn⟩:=h;injection J with h1 h2 h3
 subst h1;subst h3;have hl:ls.length=ps.length:=by rw[e,List.length_map]
 have hcut:=G.cut k m c hk om om;have u:((ps.drop k).take (m-k)).length=m-k:=by rw[List.length_take,List.length_drop];omega
 have D:Jc ((ps.drop k).take (m-k))=((Jc ps).drop (k*sz)).take ((m-k)*sz):=by
  rw[Jlw (sz:=sz) (λp i=>(B p (List.mem_of_mem_drop i)).1) (by rw[List.length_drop];omega),Jmb (λp i=>(B p i).1) om]
 refine⟨⟨(ps.drop k).take (m-k),_,c-k,by rw[e];simp[List.map_drop,List.map_take],by rw[u],om,om,by rw[u,D];exact hcut,λp i=>B p (List.mem_of_mem_drop (List.mem_of_mem_take i))⟩,λh0 U Z c' ev j=>?_⟩;injection ev with ev _ _
 have y:ls≠[]:=λO=>h0 (by rw[O];simp);split at ev
 .exact hn y U L c (by rw[ev]) j
 cases A with
 | none=>cases ev
 | some a0=>
  simp only[Option.map_some,Option.some.injEq]at ev;subst ev;rw[Jqf]at j;exact hn y a0 L c rfl j
end Go.Wk
namespace Go.Proofs.YtebiphhfkdbpfaaGreatDoor
open Go.RowKit Pl Go.Wk Bl
attribute [local irreducible] WC WL QX WD WDB WP WN WG WH
variable {b base i:Nat}{t:PT}{vb vg vr:Value}{w:World}
def ptK(t:PT)(i:Nat): List PR:=(List.range t.n).map λv=>match(List.range i).reverse.find? λi=>t.basis.getD i 0 == v with
 | none=>pr0
 | some i=>(t.rows.getD i []).getD t.right pr0
theorem ptK_0(t:PT): ptK t 0=List.replicate t.n pr0:=by
 unfold ptK;exact List.eq_replicate_iff.2 ⟨by simp,λx i=>by obtain⟨_,_,e⟩:=List.mem_map.1 i;exact e.symm⟩
theorem Jwz(t:PT)(i:Nat): (ptK t i).length=t.n:=by simp[ptK]
theorem Qqq(h:t.basis.getD i 0<t.n): ptK t (i+1)=(ptK t i).set (t.basis.getD i 0) ((t.rows.getD i []).getD t.right pr0):=by
 refine List.ext_getElem? λv=>?_;have j:∀ k,(ptK t k)[v]?=if v<t.n then some (match(List.range k).reverse.find? λi=>t.basis.getD i 0 == v with|none=>pr0|some i=>(t.rows.getD i []).getD t.right pr0) else none:=λk=>by
  unfold ptK;rw[List.getElem?_map];by_cases hv:v<t.n
  .rw[if_pos hv,List.getElem?_range hv];rfl
  rw[if_neg hv,List.getElem?_eq_none (by simpa using hv)];rfl
 have u:(List.range (i+1)).reverse=i::(List.range i).reverse:=by rw[List.range_succ];simp
 by_cases hv:t.basis.getD i 0=v
 .subst hv;rw[List.getElem?_set_self (by rw[Jwz];exact h),j,if_pos h,u,List.find?_cons];simp only[beq_self_eq_true]
 rw[List.getElem?_set_ne hv,j,j,u,List.find?_cons];have:(t.basis.getD i 0 == v)=false:=by simpa using hv
 rw[this]
theorem Qqr(h:¬ t.basis.getD i 0<t.n): ptK t (i+1)=ptK t i:=by
 unfold ptK;refine List.map_congr_left λv j=>?_;have u:(List.range (i+1)).reverse=i::(List.range i).reverse:=by rw[List.range_succ];simp
 have:(t.basis.getD i 0 == v)=false:=by
  have:=List.mem_range.1 j;exact beq_eq_false_iff_ne.2 om
 rw[u,List.find?_cons,this]
theorem Jfw(t:PT): ptK t t.basis.length=t.point:=rfl
theorem Qxd(hT:TbV w base b vr vg vb t)(hp:POk t)(hn:t.n<=64)(hm:t.m<=64):
  Ret Tryz.prog 95 [.pointer (some ⟨b,0,none⟩)] w λu w'=>GX 3 RtC (TN b vr vb) w' u t.point/\(∀ k,u.ownBlock=some k->w.heap.size<=k)/\Ext w w':=by
 have ac:=hT.lt;have ax:t.rows.length=t.m:=hp.rows;have b2:t.basis.length=t.m:=hp.basis;have D:∀ i (hi:i<t.rows.length),t.rows[i].length=t.n+t.m+2:=λi hi=>by
  have:=(hp.row i (by rw[<-hp.rows];exact hi)).1;rwa [List.getD,List.getElem?_eq_getElem hi]at this
 refine Jz Tryz.func95 Tryz.ntmps95 rfl kr rfl ?_;refine ρ ?_;refine ld (hT.blk.at (i:=0) rfl) ?_;refine ρ ?_;refine cl (Jqk t.n om w) ?_;rintro u w1 ⟨hU,a5⟩;obtain⟨U,uc,_,eu,av,_,_⟩:=id hU.el;rw[List.length_replicate]at eu;subst eu;obtain⟨_,_,_,_,a1⟩:=id hU.form;have ao:∀ k,(TN b vr vb k∨(Value.slice U t.n uc).ownBlock=some k)->TN b vr vb k∨w.heap.size<=k:=λk O=>O.elim .inl λh=>.inr (a1 k h).1;have hR:=hT.rows.old MxC.sta ao;have ak:OX 58 3 RtC (λk=>TN b vr vb k∨(Value.slice U t.n uc).ownBlock=some k) w1 w.heap.size (.slice U t.n uc) (ptK t 0):=by
  rw[ptK_0];exact hU.old RtC.sta λk O=>.inl (O.elim (λh=>.inl (ac k h)) .inr)
 obtain⟨S,sc,eS,aw,_⟩:=Jf hT.bas;have ad:=Rd.own (show w.ownsRow base 3 1 (.slice S t.basis.length sc) t.basis.length (Jl (nz t.basis)) by rw[<-eS];exact hT.bas);subst eS;obtain⟨R,rc,_,eR,ay,an,am⟩:=id hR.el;subst eR;have au:=hT.blk.ext a5;refine ρ ?_;refine ld (au.at (i:=4) rfl) ?_;refine ρ ?_;refine Jp (fun (k:Nat)=>[(0,.pointer (some ⟨b,0,none⟩)),(3,.slice U t.n uc),(14,.slice S t.basis.length sc),(15,.int .i64 (t.basis.length:Int)),(16,.int .i64 (k:Int))]) (λk w'=>k<=t.m/\Ext w w'/\OX 58 3 RtC (λk=>TN b (.slice R t.rows.length rc) (.slice S t.basis.length sc) k∨(Value.slice U t.n uc).ownBlock=some k) w' w.heap.size (.slice U t.n uc) (ptK t k)) (λk=>t.m-k) 0 sB ⟨Nat.zero_le _,a5,ak⟩ ?_;rintro k w2 ⟨O,G,a2⟩;refine ρ ?_;refine ci (λh=>?_) (λh=>?_)
 .have a8:k<t.basis.length:=by have:=oT h;omega
  clear h;refine ρ ?_;refine ix k (ad.ext G) a8 ?_;refine ρ ?_;refine ld ((ad.ext G).cell (Xq a8)) ?_;refine ρ ?_;refine ld ((hT.blk.ext G).at (i:=0) rfl) ?_;refine ρ ?_;refine ci (λh=>?_) (λh=>?_)
  .have Z:t.basis.getD k 0<t.n:=by have:=oT h;omega
   clear h;have a3:Ext w2 w2.drew:=(Ext.refl w2).drew;have y:=G.trans a3;have B:k<t.rows.length:=om
   obtain⟨ce,_,⟨vk,rfl,ar⟩,ah⟩:=am k B;obtain⟨K,kc,_,rfl,b1,_,aq,_,ap⟩:=id ar.el;rw[D k B]at *;have a9:w2.drew.cell? (adr R k)=some (.slice K (t.n+t.m+2) kc):=by
    have:=Xz y (ah 0 _ rfl);rwa [Nat.mul_one,add_zero]at this
   obtain⟨cr,_,a4,a7⟩:=ap (t.n+t.m+1) (by rw[D k B];omega);have er:t.rows[k][t.n+t.m+1]'(by rw[D k B];omega)=(t.rows.getD k []).getD t.right pr0:=by simp[PT.right,List.getD,List.getElem?_eq_getElem B,List.getElem?_eq_getElem (show t.n+t.m+1<t.rows[k].length by rw[D k B];omega)]
   rw[er]at a4;have ae:=Qqq Z;generalize (t.rows.getD k []).getD t.right pr0=q at *
   obtain⟨F1,f1,F2,f2,rfl,az⟩:=a4.sl;have ab:=a2.ext RtC.sta a3;have a6:t.n=(ptK t k).length:=(Jwz t k).symm;refine ρ ?_;refine dr [(0,0),(0,1),(0,2),(0,3),(0,4),(0,5),(0,6),(0,7),(0,8),(0,9),(1,10),(0,11),(0,12),(0,13),(2,14)] kr ?_;refine ρd ?_;refine dld ((hT.blk.ext y).at (i:=2) rfl) ?_;refine ρd ?_;refine dix k (an.ext y) B ?_;refine ρd ?_;refine dld a9 ?_;refine ρd ?_;refine dcl (Gy (n:=t.n) (m:=t.m) (hT.blk.ext y) rfl rfl om om) ?_;rintro _ w3 ⟨rfl,J⟩;refine⟨J,?_⟩;refine ρd ?_;refine Qt 3 (t.n+t.m+1) ((aq.ext y).ext J) om ?_;refine ρd ?_;refine Qw (λj u hu=>Xz (y.trans J) (a7 j u hu)) ?_;refine ρd ?_;have aa:=ab.ext RtC.sta J;obtain⟨_,ai⟩:=aa.rd a6;refine Qt 3 (t.basis.getD k 0) ai Z ?_;refine ρd ?_;refine Jy ?_;refine stX RtC.sta aa a6 (show t.basis.getD k 0<_ by omega) (cs:=[.bool q.neg,.slice F1 _ f1,.slice F2 _ f2]) (a:=q) (RtC.sta.gr a4 (GrN.ext (y.trans J))) (λg hg=>.inr hg) (Js rfl rfl rfl) ?_
   intro w4 aj ag;refine ρ ?_;exact Jh (k+1) sO ⟨om,Jt (G.trans (a3.trans J)) ag λk O=>(a1 k O).1,by rw[ae];exact aj⟩ om
  have Z:¬ t.basis.getD k 0<t.n:=by have:=oF h;omega
  refine ρ ?_;exact Jh (k+1) sO ⟨om,G,by rw[Qqr Z];exact a2⟩ om
 have af:k=t.basis.length:=by have:=oF h;omega
 subst af;rw[Jfw]at a2;refine ρ ?_;refine Jq ⟨a2.gx RtC.sta ?_ λk O=>⟨.inl O,λe=>by have:=ac k O;have:=(a1 k e).1;omega⟩,λk O=>(a1 k O).1,G⟩;rw[<-Jfw,Jwz];omega
theorem Qyx(hT:TbV w base b vr vg vb t)(hp:POk t)(hn:t.n<=64)(hm:t.m<=64)(h0:0<t.m):
  Ret Tryz.prog 92 [.pointer (some ⟨b,0,none⟩)] w λu w'=>GX 3 RtC (TN b vr vb) w' u t.dual/\(∀ k,u.ownBlock=some k->w.heap.size<=k)/\Ext w w':=by
 have Z:=hT.lt;have O:t.goal.length=t.n+t.m+2:=hp.goal.1;refine Jz Tryz.func92 Tryz.ntmps92 rfl kr rfl ?_;refine ρ ?_;refine ld (hT.blk.at (i:=1) rfl) ?_;refine ρ ?_;refine cl (Jqk t.m om w) ?_;rintro u w1 ⟨hU,a1⟩;obtain⟨U,uc,_,eu,a6,_,_⟩:=id hU.el;rw[List.length_replicate]at eu;subst eu;obtain⟨_,_,_,_,B⟩:=id hU.form;have a5:∀ k,(TN b vr vb k∨(Value.slice U t.m uc).ownBlock=some k)->TN b vr vb k∨w.heap.size<=k:=λk y=>y.elim .inl λh=>.inr (B k h).1;have a4:OX 58 3 RtC (λk=>TN b vr vb k∨(Value.slice U t.m uc).ownBlock=some k) w1 w.heap.size (.slice U t.m uc) (List.replicate t.m pr0):=hU.old RtC.sta λk y=>.inl (y.elim (λh=>.inl (Z k h)) .inr);have hG:=hT.goal.old RtC.sta (by decide) a5;obtain⟨G,gc,_,eG,a2,a8,a7⟩:=id hG.el;subst eG;have hcut:=hG.cut (by decide) (k:=t.n) (m:=t.n+t.m) om (by rw[O];omega);rw[O]at a2;rw[show t.n+t.m-t.n=t.m by omega]at hcut
 have J:Ext w1 w1.drew:=(Ext.refl w1).drew;have j:=a1.trans J;have D:=hT.ext j;refine ρ ?_;refine drC 14 [0,1,5,9,13] [(0,2),(0,3),(0,4),(0,6),(0,7),(0,8),(0,10),(0,11),(0,12),(0,14),(0,15),(0,16),(0,17),(0,18),(2,19)] kr ?_;refine ρp ?_;refine ρd ?_;refine dld (D.blk.at (i:=3) rfl) ?_;refine ρd ?_;refine dld (D.blk.at (i:=0) rfl) ?_;refine ρd ?_;refine dld (D.blk.at (i:=0) rfl) ?_;refine ρd ?_;refine dld (D.blk.at (i:=1) rfl) ?_;refine ρd ?_;refine Qyz Kv t.n (t.n+t.m) gc rfl rfl rfl rfl ⟨_,_,rfl,rfl⟩ ⟨_,_,rfl,by push_cast;rfl⟩ rfl (.inl rfl) om om (Nat.le_refl _) rfl ?_;rw[show t.n+t.m-t.n=t.m by omega];refine ρd ?_;refine Jy ?_;refine cpX RtC.sta (a4.ext RtC.sta J) (by simp) (hcut.ext RtC.sta (by decide) j) h0 (by decide) (λcs a h=>h) RtC.one (λg hg=>.inr hg) ?_;intro w2 a3 hg2;refine ρ ?_;exact Jq ⟨a3.gx RtC.sta (by simp;omega) λk y=>⟨.inl y,λe=>by have:=Z k y;have:=(B k e).1;omega⟩,λk y=>(B k y).1,Jt j hg2 λk y=>(B k y).1⟩
open Go.RowKit Pl Go.Wk Bl
variable {b fuel n t:Nat}{N:Nat->Prop}{v vA vB vC:Value}{w:World}
abbrev Nn: Nat->Prop:=λ_=>False
theorem zSol: Qm Tryz.prog 128=some (.agg #[.int .i64 0,.slice none 0 0,.slice none 0 0,.slice none 0 0,.bool false,.slice none 0 0,.slice none 0 0]):=kr
theorem Qdv(A B C D:Option Addr)(m c m' c' k d k' d':Nat)(b:Bool)(w:World): (Instr.build 128 #[(0,.int .i64 0),(1,.slice A m c),(2,.slice B m' c'),(4,.agg #[.bool b,.slice C k d,.slice D k' d'])]).run Tryz.prog w=.ok (.agg #[.int .i64 0,.slice A m c,.slice B m' c',.slice none 0 0,.bool b,.slice C k d,.slice D k' d']) w:=kr
theorem Jzl{ls:List PR}{cs:List Value}(h:GX 3 RtC N w v ls)(hB:Blk w b t cs)(hc:∀ u∈cs,∀ z,u≠.int .u32 z)(hv:v.ownBlock≠some b): GX 3 RtC (λk=>N k∨k=b) w v ls:=by
 obtain⟨⟨ps,A,c,e,e1,Z,U,O,j⟩,hn⟩:=h;refine⟨⟨ps,A,c,e,e1,Z,U,O,λp B=>⟨(j p B).1,?_⟩⟩,λh0 ad m c' ev i=>i.elim (hn h0 ad m c' ev) λi=>hv (by rw[ev,<-i];rfl)⟩;obtain⟨x,y,J,G,D⟩:=(j p B).2;exact⟨x,y,J,G.box hB hc,D.box hB hc⟩
theorem noS: ∀ u∈[Value.int .i64 0,.slice none 0 0,.slice none 0 0,.slice none 0 0,.bool false,.slice none 0 0,.slice none 0 0],∀ z,u≠.int .u32 z:=λu i z e=>by
 simp only[List.mem_cons,List.not_mem_nil,or_false]at i;rcases i with rfl|rfl|rfl|rfl|rfl|rfl|rfl<;>cases e
theorem Jtt{A:List (List PR)}{t':PT}(hC:GX 3 RtC N w vC (List.replicate n (PR.int 1)))(hA:GX 1 MxC N w vA A)(hB:GX 3 RtC N w vB (List.replicate A.length (PR.int 1)))(hNw:∀ k,N k->k<w.heap.size)(hbin:Bin n A)(h1:∀ j,j<n->∃ i,i<A.length/\Xc A i j=1)(hn:n<=64)(hm:A.length<=5)(h0:0<A.length)(hf:(n+A.length)^A.length<=fuel)(hmx:PT.maxim (n+A.length) fuel (PT.ofP n A)=some t'):
  Ret Tryz.prog 52 [.agg #[vC,vA,vB]] w λu w'=>∃ X Y q1 q2,u=.tuple #[.agg #[.int .i64 0,X,Y,.slice none 0 0,.bool (t'.goal.getD t'.right pr0).neg,q1,q2],.int .i64 0]/\GX 3 RtC Nn w' X t'.point/\GX 3 RtC Nn w' Y t'.dual/\NatX Nn w' q1 (t'.goal.getD t'.right pr0).num/\NatX Nn w' q2 (t'.goal.getD t'.right pr0).den/\Ext w w':=by
 obtain⟨c5,ca,S,b3,hS,ck⟩:=Jgn hbin h1 hf;rw[hmx]at b3;cases b3
 obtain⟨i1,i2,i3⟩:=Qxn hbin;have bn:∀ t S,PSt n A.length (pck n (Xc A)) t S->TSl t:=λt S h=>Jsp h i1 i2 i3 rfl om hm;have aj:=hS.agr.ok;have ch:=hS.en;have cj:=hS.em;obtain⟨CA,cc,_,rfl,bq,_,_,_,_⟩:=id hC.el;obtain⟨AA,ac,_,rfl,co,_,_,_,_⟩:=id hA.el;obtain⟨BA,bc,_,rfl,br,_,_,_,_⟩:=id hB.el;simp only[List.length_replicate]at hC hB bq br ⊢;refine Jz Tryz.func52 Tryz.ntmps52 rfl kr rfl ?_;refine ρ ?_;refine bx ?_;intro w1 b1 aw cn bg;refine ρ ?_;refine alc zSol ?_;intro w2 b2 au bs an;have U:=aw.trans au;have ae:=bg.ext au;have c6:b1≠b2:=by have:=bg.lt;omega
 have bd:=hC.ext RtC.sta (by decide) U;have bh:=hA.ext MxC.sta (by decide) U;have ad:=hB.ext RtC.sta (by decide) U;refine ρ ?_;refine lds (cs:=[.slice CA n cc,.slice AA A.length ac,.slice BA A.length bc]) (λj u hu=>ae.at hu) ?_;refine ρ ?_;refine cl (Jsg bd bh ad hbin om) ?_;rintro _ w3 ⟨rfl,B⟩;have O:=ae.ext B;refine ρ ?_;refine ld (O.at (i:=0) rfl) ?_;refine ρ ?_;refine kf 15 ?_ ?_
 .simp;omega
 refine ρ ?_;refine ld (O.at (i:=2) rfl) ?_;refine ρ ?_;refine cf ?_ ?_
 .simp;omega
 have a3:=U.trans B;refine ρ ?_;refine lds (cs:=[.slice CA n cc,.slice AA A.length ac,.slice BA A.length bc]) (λj u hu=>O.at hu) ?_;refine ρ ?_;refine cl (Qkb (bd.ext RtC.sta (by decide) B) (bh.ext MxC.sta (by decide) B) (ad.ext RtC.sta (by decide) B) hbin hn om) ?_;rintro _ w4 ⟨base,b,vr,vb,rfl,ab,b8,b7,a9,ai⟩;refine ρ ?_;refine cl (Qyh a9 hbin hn om) ?_;rintro _ w5 ⟨rfl,Z⟩;have ax:=a3.trans (ai.trans Z);have be:=(O.ext ai).ext Z;refine ρ ?_;refine ld (be.at (i:=0) rfl) ?_;refine ρ ?_;have c1:=a9.ext Z;have ak:∀ k,TN b vr vb k->w3.heap.size<=k:=λk y=>by
  rcases y with y|y|y
  .rw[y];exact b8
  .obtain⟨_,_,_,_,h⟩:=id a9.rows.form;exact nL ab (h k y).1
  obtain⟨_,_,_,_,h⟩:=Jf a9.bas;exact nL ab (h k y).1
 refine cl (Qzm (N:=TN b vr vb) c1 ((hC.old RtC.sta (by decide) λk y=>.inr (nL a3.size (ak k y))).ext RtC.sta (by decide) ax) (λk y=>y) hbin hn om) ?_;rintro _ w6 ⟨rfl,vg,c0,hg6⟩;have a2:Ext w3 w6:=hg6.old (ai.trans Z) ak;have c8:=O.ext a2;have c7:=(an.ext B).ext a2;have b6:base<=w6.heap.size:=nL b7 (nL Z.size hg6.size);have ah:Ext w6 w6.drew:=(Ext.refl w6).drew;have a5:=c0.ext ah;have ar:=a2.trans ah;refine ρ ?_;refine drH (λi=>i == 10) ?_;refine Vy (fuel':=6) 17 [(0,0),(0,1),(0,2),(0,3),(0,4),(0,5),(0,6),(0,7),(0,8),(0,9)] #[true,true,true,true,true,true,true,true,true,true,false,false,false,false,false,false] kr kr rfl ?_;refine ρd ?_;refine dld (a5.blk.at (i:=0) rfl) ?_;refine ρd ?_;refine dld (a5.blk.at (i:=1) rfl) ?_;refine ρd ?_;refine Zw ?_;refine Xu 10 kr rfl rfl ?_;refine Go.Wk.kv 45 (u:=.int .i64 ((n+A.length:Nat):Int)) (congrArg (Value.int .i64) ((Zl ⟨by show _<=((n:Nat):Int)+((A.length:Nat):Int);omega,by show((n:Nat):Int)+((A.length:Nat):Int)<=_;omega⟩).trans (by show((n:Nat):Int)+((A.length:Nat):Int)=_;omega))) ?_
 refine cl (Qks a5 (PSt.start hbin) bn c5 hmx om om (nL b6 ah.size)) ?_;rintro _ w7 ⟨rfl,c9,am,hg7⟩;have a1:Ext w3 w7:=hg7.old ar ak;refine Jr (Qf (λh=>by cases h) ?_);refine Xu 11 kr rfl rfl ?_;refine ρ ?_;refine Qf (λ_=>Ext.refl _) ?_;refine hmkS 17 0 _ #[true,true,true,true,true,true,true,true,true,true,true,true,true,true,true,true] [12,13,14,15] [47,48,5,6] [SF.eq (.int .i64 0),SF.eq (.bool true),SF.eq (.int .i64 0),SF.eq (.bool true)] kr (by rfl) ?_ ?_
 .refine gsc (λvs v1 ag hd=>?_) ?_
  .simp only[slM];refine ρ ?_;exact Qr (Ext.refl _) rfl
  refine gsc (λvs v1 ag hd=>?_) ?_
  .simp only[slM];refine ρ ?_;exact Qr (Ext.refl _) rfl
  refine gsc (λvs v1 ag hd=>?_) ?_
  .have e0:vs 0=_:=hd 0;simp only[slM,e0];refine ρ ?_;exact Qr (Ext.refl _) rfl
  refine gsc (λvs v1 ag hd=>?_) gse
  have e1:vs 1=_:=hd 1;simp only[slM,e1];refine ρ ?_;exact Qr (Ext.refl _) rfl
 intro vs bi ao hd;have e0:vs 0=_:=hd 0;have e1:vs 1=_:=hd 1;have e2:vs 2=_:=hd 2;have e3:vs 3=_:=hd 3;simp only[slM,e0,e1,e2,e3];clear e0 e1 e2 e3 hd;have am:=am.ext ao;have a1:=a1.trans ao;generalize bi=w7 at *
 refine Xn kr ?_;refine ρ ?_;have aq:Ext w7 w7.drew:=(Ext.refl w7).drew;have a4:=am.ext aq;have aa:=a1.trans aq;refine ρ ?_;refine drC 18 [0,2,4,8] [(0,5),(0,6),(0,7),(1,1),(1,3),(1,9),(0,10),(0,11),(0,12),(2,13),(2,14)] kr ?_;refine ρp ?_;refine ρd ?_;refine dld (a4.blk.at (i:=3) rfl) ?_;refine ρd ?_;refine dcl (Qxd a4 aj om om) ?_;rintro X w8 ⟨hX,bw,a7⟩;refine⟨a7,?_⟩;have ba:=a4.ext a7;refine ρd ?_;refine dcl (Qyx ba aj om om om) ?_;rintro Y w9 ⟨hY,bt,a6⟩;refine⟨a6,?_⟩;have b9:=ba.ext a6;refine ρd ?_;refine dcl (Gy (n:=t'.n) (m:=t'.m) b9.blk rfl rfl om om) ?_;rintro _ af ⟨rfl,D⟩;refine⟨D,?_⟩;have bb:=b9.ext D;refine ρd ?_;obtain⟨G,gc,_,eG,cm,_,c4,_,c2⟩:=id bb.goal.el;have b4:t'.goal.length=t'.n+t'.m+2:=aj.goal.1;rw[b4]at eG;subst eG;have ap:Ext w3 af:=aa.trans (a7.trans (a6.trans D));have J:=(an.ext B).ext ap
 obtain⟨cr,_,ay,az⟩:=c2 (t'.n+t'.m+1) om;have er:t'.goal[t'.n+t'.m+1]'(by omega)=t'.goal.getD t'.right pr0:=by simp[PT.right,List.getD,List.getElem?_eq_getElem (show t'.n+t'.m+1<t'.goal.length by omega)]
 rw[er]at ay;generalize t'.goal.getD t'.right pr0=q at *
 obtain⟨F1,f1,F2,f2,rfl,bo⟩:=ay.sl;have bp:Rd af 3 G (t'.n+t'.m+2) _:=b4 ▸ c4;refine Qt 3 (t'.n+t'.m+1) bp om ?_;refine ρd ?_;refine Qw (λj u hu=>az j u hu) ?_;refine ρd ?_;obtain⟨X1,X2,_,rfl,_,_,_,_,_⟩:=id hX.el;obtain⟨Y1,Y2,_,rfl,_,_,_,_,_⟩:=id hY.el;refine dbld (λw=>Qdv _ _ _ _ _ _ _ _ _ _ _ _ _ w) ?_;refine ρd ?_;refine Jy ?_;have cg:=an.lt;have ce:=B.size;have cd:=aa.size;have cb:=a7.size;have bz:=Jzl (hX.ext RtC.sta (by decide) (a6.trans D)) J noS (λe=>by have:=bw b2 e;omega);have bu:=Jzl (hY.ext RtC.sta (by decide) D) J noS (λe=>by have:=bt b2 e;omega);obtain⟨_,_,ev,q2,q3⟩:=bo;cases ev
 have bm:=q2.box J noS;have bl:=q3.box J noS;refine stb (cs':=[.int .i64 0,.slice X1 _ X2,.slice Y1 _ Y2,.slice none 0 0,.bool q.neg,.slice F1 _ f1,.slice F2 _ f2]) J ?_ (λu hu=>by
  simp only[List.mem_cons,List.not_mem_nil,or_false]at hu;rcases hu with rfl|rfl|rfl|rfl|rfl|rfl|rfl<;>rfl)
 intro bj bf b5 av;have a8:GrN (λk=>TN b vr vb k∨k=b2) af bj:=GrN.by b5 λk y=>by injection y with y;exact .inr y.symm
 refine ρ ?_;refine Jo ?_;refine Jy ?_;refine ρ ?_;exact Xr bf ⟨_,_,_,_,rfl,(bz.gr RtC.sta (by decide) a8).old RtC.sta (by decide) λk y=>y.elim,(bu.gr RtC.sta (by decide) a8).old RtC.sta (by decide) λk y=>y.elim,(bm.gr a8).old λk y=>y.elim,(bl.gr a8).old λk y=>y.elim,av w (a3.trans ap) (nL aw.size bs)⟩
end Go.Proofs.YtebiphhfkdbpfaaGreatDoor
namespace Go.Wk
open Go.RowKit
variable {base d e k n s ty:Nat}{N:Nat->Prop}{v v':Value}{w w1 w2:World}
theorem Jdm{P:Program}{al:AL}{Q:Exit->Act->World->Prop}{ops:Array Oper}{rest:List Oper}{pos:String}{aft:Array Edge}{x y:Operand}{t yt:TypeId}{k2:IntKind}{v:Nat}(hv:v<=32)(kk:WL P n ops Q rest ((d,.int .u32 ((s / 2^v:Nat):Int))::al) w)(hx:ev al x=some (.int .u32 (s:Int)):=by rfl)(hy:ev al y=some (.int k2 (v:Int)):=by rfl)(hd:Nat.blt d n=true:=by rfl):
  WL P n ops Q (⟨some d,.binOp .shr t x y yt,ty,pos,aft,none⟩::rest) al w:=by
 rw[<-Jdt s v hv]at kk;exact wop hd (λa i=>Jdz hx hy om i (some d) w) kk
theorem Gh{sz m base' e' sz' m':Nat}{xs xs':List Value}(h:w.ownsRow base e sz v m xs)(h':w.ownsRow base' e' sz' v' m' xs')(hne:Nat.beq e e'=false)(hk:v.ownBlock=some k): v'.ownBlock≠some k:=by
 have j:e≠e':=by intro i;subst i;simp at hne
 rcases h.2 with⟨rfl,_⟩|⟨g,cap,cur,rfl,_,hh,_⟩
 .simp[Value.ownBlock]at hk
 intro u;rcases h'.2 with⟨rfl,_⟩|⟨g',cap',cur',rfl,_,hh',_⟩
 .simp[Value.ownBlock]at u
 have B:g=k:=by simpa [Value.ownBlock] using hk
 have y:g'=k:=by simpa [Value.ownBlock] using u
 grind
theorem OX.own{α:Type}{sz:Nat}{Φ:(Nat->Prop)->World->List Value->α->Prop}{ls:List α}(h:OX e sz Φ N w base v ls): ∃ m xs,w.ownsRow base e sz v m xs:=by
 obtain⟨ps,_,i,_⟩:=h;exact⟨_,_,i⟩
theorem GrN.by2{g:Option Nat}(h:GrN N w w1)(hg:w1.grownBy w2 g)(ho:∀ k,g=some k->w.heap.size<=k∨N k): GrN N w w2 :=
 ⟨hg.os.trans h.os,hg.tape.trans h.tape,hg.output.trans h.output,Nat.le_trans h.size hg.size,λk i hn=>(hg.block k (nM i h.size) λe=>(ho k e.symm).elim (λj=>om) hn).trans (h.block k i hn)⟩
end Go.Wk
namespace Go.Proofs.YtebiphhfkdbpfaaGreatDoor
open Go.RowKit Pl Go.Wk Bl
attribute [local irreducible] WC WL QX WD WDB WP WN WG WH
theorem Qbs(n:Nat)(hn:n<=1000)(w:World): Ret Tryz.prog 53 [.int .i64 (n:Int)] w λu w'=>OX 58 3 RtC (Ov w u) w' w.heap.size u (List.replicate n pr0)/\Ext w w':=by
 refine Jz Tryz.func53 Tryz.ntmps53 rfl kr rfl ?_;refine ρ ?_;refine mkRt n hn ?_;intro w1 A a2 hO hA;have hO:=hO (Ov w (.slice A n n));refine ρ ?_;refine Jp (fun (k:Nat)=>[(3,.slice A n n),(8,.int .i64 (n:Int)),(9,.int .i64 (k:Int))]) (λk w'=>k<=n/\Ext w w'/\OX 58 3 RtC (Ov w (.slice A n n)) w' w.heap.size (.slice A n n) (mix (List.replicate n pr0) (List.replicate n prz) k)) (λk=>n-k) 0 sB ⟨Nat.zero_le _,a2,by rw[Gm];exact hO⟩ ?_;rintro k w2 ⟨hk,y,i⟩;have U:(mix (List.replicate n pr0) (List.replicate n prz) k).length=n:=by rw[Yt (by simp) (by simpa using hk)];simp
 refine ρ ?_;refine ci (λh=>?_) (λh=>?_)
 .have B:k<n:=by have:=oT h;omega
  clear h;refine ρ ?_;refine cl (Gd 0 (by decide) (by decide) w2) ?_;rintro r w3 ⟨hr,J⟩;have e0:PR.int 0=pr0:=rfl;rw[e0]at hr;obtain⟨C,e,D,f,rfl,hc⟩:=hr.cell;have G:=i.ext RtC.sta J;obtain⟨A',c',cs,ev,_,O,_⟩:=id G.el;rw[U]at ev O;injection ev with ev1 ev2 ev3
  subst ev1;refine ρ ?_;refine ixq 3 k O B ?_;refine ρ ?_;obtain⟨_,_,_,_,a3⟩:=id G.form;have a5:k<(mix (List.replicate n pr0) (List.replicate n prz) k).length:=om
  refine stX RtC.sta G U.symm a5 (cs:=[.bool pr0.neg,.slice C _ e,.slice D _ f]) (a:=pr0) (RtC.sta.old hc λj Z=>.inl ?_) (λg hg=>.inr hg) (Js rfl rfl rfl) ?_
  .rcases Z with Z|Z
   .exact nM Z y.size
   obtain⟨_,_,_,_,h3⟩:=id i.form;exact(h3 j Z).2
  intro w4 a1 a6;rw[Ys (l':=List.replicate n pr0) (l:=List.replicate n prz) (x:=pr0) (by simp) (by simpa using B) (by simp[B])]at a1;refine ρ ?_;exact Jh (k+1) sO ⟨om,Jt (y.trans J) a6 (λg hg=>(a3 g hg).1),a1⟩ om
 have a4:k=n:=by have:=oF h;omega
 subst a4;have e:=Jjn (l':=List.replicate k pr0) (l:=List.replicate k prz) (by simp);rw[List.length_replicate]at e;rw[e]at i;refine ρ ?_;exact Jq ⟨i,y⟩
theorem Jsb{w:World}{A:Option Addr}{c n:Nat}{es:List Nat}(hn:n<=32): Ret Tryz.prog 50 [.agg (grC A c n es).toArray] w λu w'=>u=.int .u32 ((2^n-1:Nat):Int)/\Ext w w':=by
 have D:=Um hn;have y:0<2^n:=Nat.two_pow_pos n;refine Jz Tryz.func50 Tryz.ntmps50 rfl kr rfl ?_;refine ρ ?_;refine bx (cs:=grC A c n es) ?_;intro w1 b j G B;refine ρ ?_;refine ld (B.at (i:=0) rfl) ?_;refine ρ ?_;refine sl64 (v:=n) om ?_;refine ρ ?_;refine Jq ⟨?_,j⟩;generalize 2^n=p at *
 congr 1
 rw[IntKind.wrap_u64,IntKind.wrap_u32];omega
open Go.RowKit Pl Go.Wk Bl
variable {E es:List Nat}{c i k n p s set v:Nat}
theorem zBl: Qm Tryz.prog 4=some (.bool false):=kr
theorem wfU(h:p<4294967296): (Lit.int .u32 (p:Int)).wf=true:=by
 simp only[Lit.wf,Bool.and_eq_true,decide_eq_true_eq];exact⟨by show(0:Int)<=_;omega,by show _<=(4294967295:Int);omega⟩
theorem Qfk(hs:s<4294967296): bits .and .u32 ((s / 2^v:Nat):Int) 1=((s.testBit v).toNat:Int):=by
 have u:s / 2^v<4294967296:=nN (Nat.div_le_self _ _) hs;have i:=u32_and_nat (s / 2^v) 1 u om;have j:s / 2^v &&& 1=(s.testBit v).toNat:=by
  rw[Nat.and_one_is_mod,Nat.toNat_testBit]
 rw[j]at i;exact i
theorem KU: Maps.Keyed Tryz.prog 63:=Maps.int_keyed Tryz.underlying63
theorem Jbn(b:Bool)(A B:Option Addr)(m c m' c':Nat)(w:World): (Instr.buildSlice 56 1 #[(0,.agg #[.bool b,.slice A m c,.slice B m' c'])]).run Tryz.prog w=.ok (.slice (some ⟨w.heap.size,0,none⟩) 1 1) (w.alloc (.cells #[.bool b,.slice A m c,.slice B m' c'] 58)):=kr
def pkA(n:Nat)(E:List Nat)(set i:Nat): List (List PR):=(Jd E set i).map λi=>(Jv n set).map λv=>PR.int (((E.getD i 0) &&& set).testBit v).toNat
theorem Jzp(E:List Nat)(set:Nat): ∀ i,(Jd E set i).length<=i
 | 0=>by simp[Jd]
 | i+1=>by
  have:=Jzp E set i;unfold Jd;simp only;split<;>simp<;>omega
def Vx(E:List Nat)(set i p:Nat): Bool:=(List.range i).any λk=>(E.getD k 0) &&& set == p
theorem Jjs(h:(E.getD i 0) &&& set=0∨Vx E set i ((E.getD i 0) &&& set)=true): Jd E set (i+1)=Jd E set i:=by
 rw[Jd];exact if_pos h
theorem Jzn(h0:(E.getD i 0) &&& set≠0)(h1:Vx E set i ((E.getD i 0) &&& set)=false): Jd E set (i+1)=Jd E set i++[i]:=by
 rw[Jd];exact if_neg (by rintro(h|h);exact h0 h;unfold Vx at h1;rw[h1]at h;cases h)
theorem Jwn(E:List Nat)(set i p:Nat): Vx E set (i+1) p=(Vx E set i p || ((E.getD i 0) &&& set == p)):=by
 unfold Vx;rw[List.range_succ,List.any_append];simp
abbrev N2(s:Nat)(vF vA vB:Value): Nat->Prop:=λk=>k<s∨vA.ownBlock=some k∨vB.ownBlock=some k∨vF.ownBlock=some k
abbrev N1(s:Nat)(vM vC:Value): Nat->Prop:=λk=>k<s∨vC.ownBlock=some k∨vM.ownBlock=some k
theorem zPb: Qm Tryz.prog 124=some (.agg #[.slice none 0 0,.slice none 0 0,.slice none 0 0]):=kr
theorem Jhf(k set:Nat): Jv (k+1) set=if set.testBit k then Jv k set++[k] else Jv k set:=by
 unfold Jv;rw[List.range_succ,List.filter_append];cases h:set.testBit k<;>simp[h]
theorem Jhg(h:v∈Jv k set): v<k:=List.mem_range.1 (List.mem_filter.1 h).1
theorem Jvv(k set:Nat): (Jv k set).length<=k:=by
 unfold Jv;exact nL (List.length_filter_le _ _) (by simp)
theorem Qxt{w:World}{A:Option Addr}(h:GrV w A c n es)(hs:set<2^n)(hm:es.length<=5):
  Ret Tryz.prog 51 [.agg (grC A c n es).toArray,.int .u32 (set:Int)] w λu w'=>∃ vC vA vB MA mc FA fc,u=.tuple #[.agg #[vC,vA,vB],.slice MA (Jv n set).length mc,.slice FA (Jd es set es.length).length fc] /\
   GX 3 RtC Nn w' vC (List.replicate (Jv n set).length (PR.int 1))/\GX 1 MxC Nn w' vA (Zf n es set)/\GX 3 RtC Nn w' vB (List.replicate (Zf n es set).length (PR.int 1))/\Rd w' 1 MA (Jv n set).length (Jl (nz (Jv n set)))/\Rd w' 1 FA (Jd es set es.length).length (Jl (nz (Jd es set es.length)))/\Ext w w':=by
 have hn:=h.n32;have bc:set<4294967296:=nM hs (Um hn);refine Jz Tryz.func51 Tryz.ntmps51 rfl kr rfl ?_;refine ρ ?_;refine bx (cs:=grC A c n es) ?_;intro w1 b1 ck gq em;refine ρ ?_;refine alc zPb ?_;intro w2 b2 cj ff eg;refine ρ ?_;refine alc zPb ?_;intro w3 b3 ch fe ao;have dc:=ck.trans (cj.trans ch);have ax:=(em.ext cj).ext ch;have ef:=eg.ext ch;refine ρ ?_;refine ld (ax.at (i:=0) rfl) ?_;refine ρ ?_;refine Zb (fun (k:Nat) (vM vC:Value)=>[(1,.int .u32 (set:Int)),(2,.pointer (some ⟨b1,0,none⟩)),(4,.pointer (some ⟨b2,0,none⟩)),(7,.pointer (some ⟨b3,0,none⟩)),(8,vM),(9,.slice none 0 0),(19,.int .i64 (n:Int)),(20,.int .i64 (k:Int))])
  (λk vM vC w'=>k<=n/\GrN (λi=>i=b3) w3 w'/\Zx w' w3.heap.size vM (Jv k set)/\OX 58 3 RtC (N1 w3.heap.size vM vC) w' w3.heap.size vC (List.replicate (Jv k set).length (PR.int 1))/\Blk w' b3 124 [vC,.slice none 0 0,.slice none 0 0]) (λk _ _=>n-k) 0 (.slice none 0 0) (.slice none 0 0) sB ⟨Nat.zero_le _,GrN.refl _ _,by simp[Jv,Zx];exact Zg _ _ _ _,by simp[Jv];exact OX.nil _ _,ao⟩ ?_
 rintro k vM vC w4 ⟨hk,a5,aj,am,d5⟩;refine ρ ?_;refine ci (λhc=>?_) (λhc=>?_)
 .have bu:k<n:=by have:=oT hc;omega
  clear hc;refine ρ ?_;refine Jdm (s:=set) (v:=k) om ?_;refine ρ ?_;rw[Jkf bc];refine ci (λhc=>?_) (λhc=>?_)
  .have cp:set.testBit k=true:=hc;have hmk:Jv (k+1) set=Jv k set++[k]:=by rw[Jhf,if_pos cp]
   have f5:=Jvv k set;refine ρ ?_;refine bsl (Jqc _) ?_;intro w5 b5 O gp fl;refine ρ ?_;refine apI (z:=k) (Ju aj O) fl om (nL a5.size O.size) ?_;intro cg w6 aa hg6 f4;rw[<-hmk]at aa;refine ρ ?_;have ac:¬ vC.ownBlock=some b3:=λe=>by
    obtain⟨_,_,_,_,h3⟩:=id am.form;have:=(h3 b3 e).1;have:=ao.lt;omega
   have af:Ext w6 w6.drew:=(Ext.refl w6).drew;have c7:∀ k,vM.ownBlock=some k->w3.heap.size<=k:=λk e=>by
    obtain⟨_,_,_,_,h3⟩:=Jf aj;exact(h3 k e).1
   have di:some b3≠vM.ownBlock:=λe=>by
    have:=c7 b3 e.symm;have:=ao.lt;omega
   have an:=((d5.ext O).grown hg6 di).ext af;have c0:=(((am.ext RtC.sta O).old RtC.sta (N':=λk=>N1 w3.heap.size vM vC k∨cg.ownBlock=some k) λk hk=>hk.elim .inl λhk=>(f4 k hk).imp (λhk=>.inr (.inr hk)) id).gr RtC.sta (GrN.by hg6 λk e=>e) (M:=λk=>vM.ownBlock=some k) λk hk=>⟨.inl (.inr (.inr hk)),by
    obtain⟨_,_,ho⟩:=am.own;exact Gh aj ho rfl hk⟩)
   refine drN (λk=>vC.ownBlock=some k) 18 [(0,0),(0,1),(1,2),(1,3),(1,4),(0,5),(2,6)] kr ?_;refine ρn ?_;refine nld (λw' hg=>(Ql an hg ac).at (i:=0) rfl) ?_;refine ρn ?_;refine nop ?_;refine cl (Gd 1 (by decide) (by decide) _) ?_;rintro r w7 ⟨hr,ba⟩;obtain⟨D,e,F,f,rfl,hc⟩:=hr.cell;refine Jr (Zh (GrN.ext ba) ?_);refine ρn ?_;refine nop ?_;refine bsl (Jbn _ _ _ _ _ _ _) ?_;intro w8 b8 B fd d3;refine Jr (Zh (GrN.ext B) ?_);have ar:=af.trans (ba.trans B);have e7:=(c0.ext RtC.sta ar).old RtC.sta (N':=λk=>(N1 w3.heap.size vM vC k∨cg.ownBlock=some k)∨w8.heap.size<=k) λk hk=>hk;have gn:(List.replicate (Jv k set).length (PR.int 1)).length=(Jv k set).length:=by simp
   refine ρn ?_;refine nop ?_;refine apX ERt RtC.sta e7 d3 rfl (Js rfl rfl rfl) (RtC.sta.old (RtC.sta.gr hc (GrN.ext B)) λj hj=>?_) (λg hg=>.inl (.inl (.inr (.inl hg)))) om (by decide) (nL a5.size (nL O.size (nL hg6.size ar.size))) ?_
   .have z1:=a5.size;have z2:=O.size;have z3:=hg6.size;have z4:=af.size;rcases hj with((hj|hj|hj)|hj)|hj
    .exact .inl (show j<w6.drew.heap.size by omega)
    .obtain⟨_,_,_,_,h3⟩:=id c0.form;have:=(h3 j hj).2;exact .inl (show j<w6.drew.heap.size by omega)
    .obtain⟨_,_,_,_,h3⟩:=Jf aj;have:=(h3 j hj).2;exact .inl (show j<w6.drew.heap.size by omega)
    .obtain⟨_,_,_,_,h3⟩:=Jf aa;have:=(h3 j hj).2;exact .inl (show j<w6.drew.heap.size by omega)
    exact .inr hj
   intro g9 w9 b6 a3 bt;obtain⟨_,g6,bl⟩:=e7.own;have cx:=Jxq (Ju aa ar) bl a3 rfl;have bd:List.replicate (Jv k set).length (PR.int 1)++[PR.int 1]=List.replicate (Jv (k+1) set).length (PR.int 1):=by rw[hmk,List.length_append,List.length_singleton,List.replicate_succ']
   rw[bd]at b6;obtain⟨U,uc,eU,ge,_⟩:=id b6.form;subst eU;have cu:¬ (Value.slice U (List.replicate (Jv (k+1) set).length (PR.int 1)).length uc).ownBlock=some b3:=λe=>by
    obtain⟨_,_,_,_,h3⟩:=id b6.form;have:=(h3 b3 e).1;have:=ao.lt;omega
   have cr:¬ cg.ownBlock=some b3:=λe=>by
    obtain⟨_,_,_,_,h3⟩:=Jf aa;have:=(h3 b3 e).1;have:=ao.lt;omega
   refine Jr (Zh (GrN.by a3 λk e=>e) ?_);have d2:=(an.ext (ba.trans B)).grown a3 λe=>ac e.symm;refine ρn ?_;refine Kn ?_;refine stF (i:=0) d2 rfl ?_;intro ce ay c4;have bg:GrN (λi=>i=b3) w9 ce:=GrN.by c4 λk hk=>by injection hk with hk;exact hk.symm
   have eb:=b6.gr RtC.sta bg λk hk=>⟨.inl (.inl (.inl (by rw[hk];exact ao.lt))),by rw[hk];exact cu⟩;have dx:=Qn cx bg λg hg e=>cr (e ▸ hg);refine Jr (Km ?_);refine ρn ?_;refine ρ ?_;refine Qe (k+1) _ _ sO ⟨om,?_,dx,eb.old RtC.sta λi hi=>?_,ay⟩ om
   .exact((((a5.trans (GrN.ext O)).by2 hg6 λk e=>.inl (c7 k e)).trans (GrN.ext ar)).by2 a3 λi e=>.inl (by
     obtain⟨_,_,_,_,h3⟩:=id am.form;exact(h3 i e).1)).by2 c4 λi e=>.inr (by injection e with e;exact e.symm)
   rcases hi with hi|hi|hi
   .exact .inl (.inl (.inl (.inl hi)))
   .exact .inl ((bt i hi).elim (λh=>.inl (.inl (.inr (.inl h)))) .inr)
   exact .inl (.inl (.inr hi))
  have cp:¬ set.testBit k=true:=by rw[hc];decide
  have hmk:Jv (k+1) set=Jv k set:=by rw[Jhf,if_neg cp]
  refine ρ ?_;exact Qe (k+1) _ _ sO ⟨om,a5,by rw[hmk];exact aj,by rw[hmk];exact am,d5⟩ om
 have f6:k=n:=by have:=oF hc;omega
 subst f6;clear hk hc;have gm:=a5;refine ρ ?_;refine mkm 63 ?_;intro w5 bm O cq cn;have gl:=em.lt;have gk:=eg.lt;have gj:=ao.lt;have gc:=a5.size;have ej:=Ql ax (a5.trans (GrN.ext O)) om;have cm:w.heap.size<=b3:=nL (ck.trans cj).size fe;have aq:Ext w w4:=a5.old dc λk e=>by rw[e];exact cm
 have e0:Jd es set 0=[]:=rfl;refine ρ ?_;refine ld (ej.at (i:=1) rfl) ?_;obtain⟨MA,mc,eM,gi,cw⟩:=Jf aj;have dq:=Ju aj O;subst eM;have f5:=Jvv k set;refine ρ ?_;refine Jqq (fun (i:Nat) (vF vA vB:Value)=>[(1,.int .u32 (set:Int)),(2,.pointer (some ⟨b1,0,none⟩)),(4,.pointer (some ⟨b2,0,none⟩)),(7,.pointer (some ⟨b3,0,none⟩)),(8,.slice MA (Jv k set).length mc),(9,vF),(11,.map (some bm)),(41,.slice A es.length c),(42,.int .i64 (es.length:Int)),(43,.int .i64 (i:Int))])
  (λi vF vA vB w'=>i<=es.length/\GrN (λi=>i=b3∨i=bm) w5 w'/\Zx w' w5.heap.size vF (Jd es set i)/\OX 56 1 MxC (N2 w5.heap.size vF vA vB) w' w5.heap.size vA (pkA k es set i)/\OX 58 3 RtC (N2 w5.heap.size vF vA vB) w' w5.heap.size vB (List.replicate (Jd es set i).length (PR.int 1))/\Blk w' b3 124 [vC,vA,vB]/\(∃ m f,m<=i/\MapS Tryz.prog 63 w' bm m f/\∀ p:Nat,0<p->p<4294967296->(f (.int .u32 (p:Int))).getD (.bool false)=.bool (Vx es set i p)))
  (λi _ _ _=>es.length-i) 0 (.slice none 0 0) (.slice none 0 0) (.slice none 0 0) sB ⟨Nat.zero_le _,GrN.refl _ _,by rw[e0];exact Zg _ _ _ _,by rw[pkA,e0];exact OX.nil _ _,by rw[e0];exact OX.nil _ _,d5.ext O,0,_,Nat.le_refl _,cn,λp _ _=>rfl⟩ ?_
 rintro i vF vA vB w6 ⟨hi,hg6,ak,b7,a9,an,m,f,gh,aa,bw⟩;have gb:=O.size;refine ρ ?_;refine ci (λhc=>?_) (λhc=>?_)
 .have bu:i<es.length:=by have:=oT hc;omega
  clear hc;have b9:Ext w w6:=hg6.old (aq.trans O) λk e=>e.elim (λe=>by rw[e];exact cm) λe=>by rw[e];exact nL aq.size cq
  have hm:=getD_mem' 0 es bu;have h6:=h.ext b9;refine ρ ?_;refine ix i h6.rd bu ?_;refine ρ ?_;refine ld (h6.rd.cell (Jkj bu)) ?_;refine ρ ?_;have dg:=h6.lt32 hm;have bs:es.getD i 0 &&& set<4294967296:=nN Nat.and_le_right bc;have f8:=Jzp es set i;have fb:bits .and .u32 ((es.getD i 0:Nat):Int) ((set:Nat):Int)=((es.getD i 0 &&& set:Nat):Int):=u32_and_nat _ _ dg bc;rw[fb];have gf:Jd es set (i+1)=Jd es set i->∀ w',GrN (λi=>i=b3∨i=bm) w5 w'->True:=λ_ _ _=>trivial;by_cases hp0:es.getD i 0 &&& set=0
  .refine kt 53 ?_ ?_
   .rw[hp0];rfl
   refine ρ ?_;have hk:=Jjs (E:=es) (set:=set) (i:=i) (.inl hp0);refine Uh (i+1) _ _ _ sO ⟨om,hg6,by rw[hk];exact ak,by rw[pkA,hk];exact b7,by rw[hk];exact a9,an,m,f,om,aa,λp h1 h2=>?_⟩ om;rw[bw p h1 h2,Jwn,hp0,show(0 == p)=false from beq_eq_false_iff_ne.2 om,Bool.or_false]
  refine kf 53 ?_ ?_
  .exact beq_eq_false_iff_ne.2 om
  refine ρ ?_;refine mlk KU aa zBl (Maps.keyOf_int_mk Tryz.underlying63 (a:=((es.getD i 0 &&& set:Nat):Int)) (wfU bs)) ?_;rw[bw (es.getD i 0 &&& set) om bs];refine ρ ?_;refine ci (λhc=>?_) (λhc=>?_)
  .refine ρ ?_;have hk:=Jjs (E:=es) (set:=set) (i:=i) (.inr hc);refine Uh (i+1) _ _ _ sO ⟨om,hg6,by rw[hk];exact ak,by rw[pkA,hk];exact b7,by rw[hk];exact a9,an,m,f,om,aa,λp h1 h2=>?_⟩ om;rw[bw p h1 h2,Jwn];by_cases e:es.getD i 0 &&& set=p
   .subst e;rw[hc];rfl
   rw[beq_eq_false_iff_ne.2 e,Bool.or_false]
  have hk:=Jzn hp0 hc;have aw:∀ k,vF.ownBlock=some k->w5.heap.size<=k:=λk e=>by
   obtain⟨_,_,_,_,h3⟩:=Jf ak;exact(h3 k e).1
  have ae:∀ k,vA.ownBlock=some k->w5.heap.size<=k/\k<w6.heap.size:=λk e=>by
   obtain⟨_,_,_,_,h3⟩:=id b7.form;exact h3 k e
  have a8:∀ k,vB.ownBlock=some k->w5.heap.size<=k/\k<w6.heap.size:=λk e=>by
   obtain⟨_,_,_,_,h3⟩:=id a9.form;exact h3 k e
  have dh:bm<w5.heap.size:=cn.lt;refine ρ ?_;refine mup KU aa (by unfold maxLen;omega) (Maps.keyOf_int_mk Tryz.underlying63 (a:=((es.getD i 0 &&& set:Nat):Int)) (wfU bs)) ?_;intro w7 cy hg7;have Z:GrN (λi=>i=bm) w6 w7:=GrN.by hg7 λk e=>by injection e with e;exact e.symm
  have bj:=Qn ak Z λg hg e=>by have:=aw g hg;omega
  have c1:=b7.gr MxC.sta Z λk e=>⟨.inl om,λe'=>by have:=(ae k e').1;omega⟩;have bz:=a9.gr RtC.sta Z λk e=>⟨.inl om,λe'=>by have:=(a8 k e').1;omega⟩;have d4:=Ql an Z om;refine ρ ?_;refine bsl (Jqc _) ?_;intro w8 b8 B fd d3;refine ρ ?_;refine apI (z:=i) (Ju bj B) d3 om (nL hg6.size (nL hg7.size B.size)) ?_;intro a1 w9 cz a3 bt;rw[<-hk]at cz;have be:GrN (λi=>i=b3∨i=bm) w5 w9:=((hg6.by2 hg7 λq e=>.inr (by injection e with e;exact .inr e.symm)).trans (GrN.ext B)).by2 a3 λq e=>.inl (aw q e);have cx:=Qn dq be λg hg e=>by
   have:=cw g hg;omega
  have dl:=Rd.own cx;refine ρ ?_;refine Qq (fun (j:Nat) (vR:Value)=>[(1,.int .u32 (set:Int)),(2,.pointer (some ⟨b1,0,none⟩)),(4,.pointer (some ⟨b2,0,none⟩)),(7,.pointer (some ⟨b3,0,none⟩)),(8,.slice MA (Jv k set).length mc),(9,a1),(11,.map (some bm)),(14,.int .u32 ((es.getD i 0 &&& set:Nat):Int)),(15,vR),(41,.slice A es.length c),(42,.int .i64 (es.length:Int)),(43,.int .i64 (i:Int)),(64,.slice MA (Jv k set).length mc),(65,.int .i64 ((Jv k set).length:Int)),(66,.int .i64 (j:Int))])
   (λj vR w'=>j<=(Jv k set).length/\Ext w9 w'/\OX 58 3 RtC (λq=>q<w9.heap.size∨vR.ownBlock=some q) w' w9.heap.size vR (((Jv k set).take j).map λv=>PR.int (((es.getD i 0) &&& set).testBit v).toNat)) (λj _=>(Jv k set).length-j) 0 (.slice none 0 0) sB ⟨Nat.zero_le _,Ext.refl _,OX.nil _ _⟩ ?_
  rintro j vR ce ⟨hj,J,ad⟩;refine ρ ?_;refine ci (λhc=>?_) (λhc=>?_)
  .have ag:j<(Jv k set).length:=by have:=oT hc;omega
   clear hc;refine ρ ?_;refine ix j (dl.ext J) ag ?_;refine ρ ?_;refine ld ((dl.ext J).cell (Xq ag)) ?_;refine ρ ?_;have gd:(Jv k set).getD j 0<k:=Jhg (getD_mem' 0 _ ag);refine Jdm (s:=es.getD i 0 &&& set) (v:=(Jv k set).getD j 0) om ?_;refine ρ ?_;refine Go.Wk.kv 75 (u:=.int .i64 (((es.getD i 0 &&& set).testBit ((Jv k set).getD j 0)).toNat:Int)) (congrArg (Value.int .i64) ?_) ?_
   .rw[Qfk bs];exact Zl (by cases (es.getD i 0 &&& set).testBit ((Jv k set).getD j 0)<;>decide)
   refine cl (Gd ((((es.getD i 0 &&& set).testBit ((Jv k set).getD j 0)).toNat:Nat):Int) (by cases (es.getD i 0 &&& set).testBit ((Jv k set).getD j 0)<;>decide) (by cases (es.getD i 0 &&& set).testBit ((Jv k set).getD j 0)<;>decide) _) ?_;rintro r b4 ⟨hr,G⟩;obtain⟨D,e,F,f',rfl,f9⟩:=hr.cell;refine ρ ?_;refine bsl (Jbn _ _ _ _ _ _ _) ?_;intro cd gt av g4 bp;have dj:=((ad.ext RtC.sta G).ext RtC.sta av).old RtC.sta (N':=λq=>(q<w9.heap.size∨vR.ownBlock=some q)∨cd.heap.size<=q) λq y=>y;have bh:∀ q,vR.ownBlock=some q->w9.heap.size<=q/\q<ce.heap.size:=λq e=>by
    obtain⟨_,_,_,_,h3⟩:=id ad.form;exact h3 q e
   refine ρ ?_;refine apX ERt RtC.sta dj bp rfl (Js rfl rfl rfl) (RtC.sta.old (RtC.sta.gr f9 (GrN.ext av)) λq y=>?_) (λg hg=>.inl (.inr hg)) (by simp;omega) (by decide) (nL J.size (nL G.size av.size)) ?_
   .rcases y with(y|y)|y
    .exact .inl (nM y J.size)
    .exact .inl (bh q y).2
    exact .inr y
   intro g8 az c5 a6 df;refine ρ ?_;refine Ja (j+1) _ sO ⟨om,Jt (J.trans (G.trans av)) a6 λq e=>(bh q e).1,?_⟩ om;have e1:((Jv k set).take j).map (λv=>PR.int (((es.getD i 0) &&& set).testBit v).toNat)++[PR.int ((((es.getD i 0 &&& set).testBit ((Jv k set).getD j 0)).toNat:Nat):Int)]=((Jv k set).take (j+1)).map λv=>PR.int (((es.getD i 0) &&& set).testBit v).toNat:=by
    rw[List.take_add_one,List.getElem?_eq_getElem ag,List.map_append];simp[List.getD,List.getElem?_eq_getElem ag]
   rw[e1]at c5;exact c5.old RtC.sta λq y=>.inl (y.elim (λy=>.inl (.inl y)) λy=>(df q y).elim (λy=>.inl (.inr y)) .inr)
  have ag:j=(Jv k set).length:=by have:=oF hc;omega
  subst ag;rw[List.take_length]at ad;clear hc hj;have e6:∀ q,vB.ownBlock=some q->q<w9.heap.size:=λq e=>by have:=(a8 q e).2;have:=hg7.size;have:=B.size;have:=a3.size;omega
  have en:∀ q,vA.ownBlock=some q->q<w9.heap.size:=λq e=>by have:=(ae q e).2;have:=hg7.size;have:=B.size;have:=a3.size;omega
  have bi:∀ q,a1.ownBlock=some q->w5.heap.size<=q/\q<w9.heap.size:=λq e=>by
   obtain⟨_,_,_,_,h3⟩:=Jf cz;exact h3 q e
  have g2:b3<w5.heap.size:=om
  have dz:∀ q,vF.ownBlock=some q->q<w9.heap.size:=λq e=>by
   obtain⟨_,_,_,_,h3⟩:=Jf ak;have:=(h3 q e).2;have:=hg7.size;have:=B.size;have:=a3.size;omega
  have fw:=be.size;have g1:=J.size;have d2:=(d4.ext B).grown a3 λe=>by have:=aw b3 e.symm;omega
  have ay:=d2.ext J;have dm:=(cy.ext B).kept a3 λe=>by have:=aw bm e.symm;omega
  have fn:=(((c1.ext MxC.sta B).old MxC.sta (N':=λq=>N2 w5.heap.size vF vA vB q∨a1.ownBlock=some q) λq y=>y.elim .inl λy=>(bt q y).imp (λy=>.inr (.inr (.inr y))) id).gr MxC.sta (GrN.by a3 λq e=>e) (M:=λq=>vF.ownBlock=some q) λq y=>⟨.inl (.inr (.inr (.inr y))),by
   obtain⟨_,_,ho⟩:=(c1.ext MxC.sta B).own;exact Gh (Ju bj B) ho rfl y⟩)
  have b6:=(((bz.ext RtC.sta B).old RtC.sta (N':=λq=>N2 w5.heap.size vF vA vB q∨a1.ownBlock=some q) λq y=>y.elim .inl λy=>(bt q y).imp (λy=>.inr (.inr (.inr y))) id).gr RtC.sta (GrN.by a3 λq e=>e) (M:=λq=>vF.ownBlock=some q) λq y=>⟨.inl (.inr (.inr (.inr y))),by
   obtain⟨_,_,ho⟩:=(bz.ext RtC.sta B).own;exact Gh (Ju bj B) ho rfl y⟩)
  have dk:∀ q,(N2 w5.heap.size vF vA vB q∨a1.ownBlock=some q)->q<w9.heap.size:=λq y=>by
   rcases y with(y|y|y|y)|y
   .omega
   .exact en q y
   .exact e6 q y
   .exact dz q y
   exact(bi q y).2
  obtain⟨RA,rc,eR,_,bh⟩:=id ad.form;subst eR;refine ρ ?_;refine ld (ay.at (i:=1) rfl) ?_;refine ρ ?_;refine bsl (Jpd _ _ _) ?_;intro b4 gu G g5 ek;have g0:=G.size;have cb:=((fn.ext MxC.sta J).ext MxC.sta G).old MxC.sta (N':=λq=>(N2 w5.heap.size vF vA vB q∨a1.ownBlock=some q)∨b4.heap.size<=q) λq y=>y;have c9:=((b6.ext RtC.sta J).ext RtC.sta G).old RtC.sta (N':=λq=>(N2 w5.heap.size vF vA vB q∨a1.ownBlock=some q)∨b4.heap.size<=q) λq y=>y;generalize hrow:(Jv k set).map (λv=>PR.int (((es.getD i 0) &&& set).testBit v).toNat)=row at *
  have gg:row.length=(Jv k set).length:=by rw[<-hrow];simp
  have fh:GX 3 RtC (λq=>(N2 w5.heap.size vF vA vB q∨a1.ownBlock=some q)∨b4.heap.size<=q) b4 (.slice RA row.length rc) row:=((ad.ext RtC.sta G).old RtC.sta (N':=λq=>(q<w9.heap.size∨(Value.slice RA row.length rc).ownBlock=some q)∨b4.heap.size<=q) λq y=>y).gx RtC.sta om λq y=>by
   rcases y with y|y
   .have:=dk q y;exact⟨.inl (.inl this),λe=>by have:=(bh q e).1;omega⟩
   exact⟨.inr y,λe=>by have:=(bh q e).2;omega⟩
  have dd:(pkA k es set i).length=(Jd es set i).length:=by simp[pkA]
  refine ρ ?_;refine apX EMx MxC.sta cb ek rfl (λu hu=>by rw[List.mem_singleton.1 hu];rfl) ⟨_,rfl,fh⟩ (λg hg=>.inl (.inl (.inr (.inl hg)))) om (by decide) om ?_;intro ab cd bq a7 c2;have f3:pkA k es set i++[row]=pkA k es set (i+1):=by rw[pkA,pkA,hk,List.map_append,<-hrow];rfl
  rw[f3]at bq;obtain⟨A',fu,ft,_,ap⟩:=id bq.form;subst ft;have fz:=a7.size;obtain⟨_,_,br⟩:=cb.own;obtain⟨_,_,d1⟩:=c9.own;have e5:=Jxq (Ju cz (J.trans G)) br a7 rfl;have ea:=c9.gr RtC.sta (GrN.by a7 λq e=>e) (M:=λq=>vA.ownBlock=some q) λq y=>⟨.inl (.inl (.inr (.inl y))),Gh br d1 rfl y⟩;have bp:=(ay.ext G).grown a7 λe=>by have:=(ae b3 e.symm).1;omega
  have dw:=((dm.ext J).ext G).kept a7 λe=>by have:=(ae bm e.symm).1;omega
  refine ρ ?_;refine stF (i:=1) bp rfl ?_;intro az ax a6;have ai:GrN (λq=>q=b3) cd az:=GrN.by a6 λq e=>by injection e with e;exact e.symm
  have fy:=a6.size;generalize hvA:Value.slice A' (pkA k es set (i+1)).length fu=ab at *
  have er:=(bq.old MxC.sta (N':=λq=>(N2 w5.heap.size vF vA vB q∨a1.ownBlock=some q)∨ab.ownBlock=some q) λq y=>.inl (y.elim .inl λy=>(c2 q y).imp (λy=>.inl (.inr (.inl y))) id)).gr MxC.sta ai λq y=>⟨.inl (.inl (.inl om)),λe=>by have:=(ap q e).1;omega⟩;have e9:=(ea.old RtC.sta (N':=λq=>(N2 w5.heap.size vF vA vB q∨a1.ownBlock=some q)∨ab.ownBlock=some q) λq y=>.inl (y.elim .inl λy=>(c2 q y).imp (λy=>.inl (.inr (.inl y))) id)).gr RtC.sta ai λq y=>⟨.inl (.inl (.inl om)),λe=>by have:=(a8 q e).1;omega⟩;have e4:=Qn e5 ai λg hg e=>by have:=(bi g hg).1;omega
  have du:=dw.kept a6 λe=>by injection e with e;omega
  have fg:∀ q,((N2 w5.heap.size vF vA vB q∨a1.ownBlock=some q)∨ab.ownBlock=some q)->q<az.heap.size:=λq y=>by
   rcases y with y|y
   .have:=dk q y;omega
   have:=(ap q y).2;omega
  have af:Ext az az.drew:=(Ext.refl az).drew;have f0:=af.size;have ec:=ax.ext af;have ac:¬ vB.ownBlock=some b3:=λe=>by have:=(a8 b3 e).1;omega
  refine ρ ?_;refine drN (λq=>vB.ownBlock=some q) 18 [(0,0),(0,1),(1,2),(1,3),(1,4),(0,5),(2,6)] kr ?_;refine ρn ?_;refine nld (λw' hg=>(Ql ec hg ac).at (i:=2) rfl) ?_;refine ρn ?_;refine nop ?_;refine cl (Gd 1 (by decide) (by decide) _) ?_;rintro r g7 ⟨hr,bb⟩;obtain⟨D,e,F,f',rfl,fa⟩:=hr.cell;refine Jr (Zh (GrN.ext bb) ?_);refine ρn ?_;refine nop ?_;refine bsl (Jbn _ _ _ _ _ _ _) ?_;intro cc gs au g3 d6;have a2:=af.trans (bb.trans au);have f2:=a2.size;have c8:=(e9.ext RtC.sta a2).old RtC.sta (N':=λq=>((N2 w5.heap.size vF vA vB q∨a1.ownBlock=some q)∨ab.ownBlock=some q)∨cc.heap.size<=q) λq y=>y;have ca:=(er.ext MxC.sta a2).old MxC.sta (N':=λq=>((N2 w5.heap.size vF vA vB q∨a1.ownBlock=some q)∨ab.ownBlock=some q)∨cc.heap.size<=q) λq y=>y;refine Jr (Zh (GrN.ext au) ?_);refine ρn ?_;refine nop ?_;refine apX ERt RtC.sta c8 d6 rfl (Js rfl rfl rfl) (RtC.sta.old (RtC.sta.gr fa (GrN.ext au)) λq y=>y.elim (λy=>.inl (nM (fg q y) f0)) .inr) (λg hg=>.inl (.inl (.inl (.inr (.inr (.inl hg)))))) (by simp;omega) (by decide) om ?_
  intro db ez bn a4 de;have bd:List.replicate (Jd es set i).length (PR.int 1)++[PR.int 1]=List.replicate (Jd es set (i+1)).length (PR.int 1):=by rw[hk,List.length_append,List.length_singleton,List.replicate_succ']
  rw[bd]at bn;obtain⟨_,_,bo⟩:=c8.own;obtain⟨_,_,d7⟩:=ca.own;have e3:=Jxq (Ju e4 a2) bo a4 rfl;have ep:=ca.gr MxC.sta (GrN.by a4 λq e=>e) (M:=λq=>vB.ownBlock=some q) λq y=>⟨.inl (.inl (.inl (.inr (.inr (.inl y))))),Gh bo d7 rfl y⟩;have ei:=(ec.ext (bb.trans au)).grown a4 λe=>ac e.symm;have dt:=(du.ext a2).kept a4 λe=>by have:=(a8 bm e.symm).1;omega
  obtain⟨U,uc,eU,_,d0⟩:=id bn.form;subst eU;have fx:=a4.size;refine Jr (Zh (GrN.by a4 λq e=>e) ?_);refine ρn ?_;refine Kn ?_;refine stF (i:=2) ei rfl ?_;intro da eh bf;have ah:GrN (λq=>q=b3) ez da:=GrN.by bf λq e=>by injection e with e;exact e.symm
  generalize hvB:Value.slice U (List.replicate (Jd es set (i+1)).length (PR.int 1)).length uc=db at *
  have c6:∀ q,N2 w5.heap.size a1 ab db q->(((N2 w5.heap.size vF vA vB q∨a1.ownBlock=some q)∨ab.ownBlock=some q)∨cc.heap.size<=q):=λq y=>by
   rcases y with y|y|y|y
   .exact .inl (.inl (.inl (.inl y)))
   .exact .inl (.inr y)
   .exact(de q y).imp (λy=>.inl (.inl (.inr (.inr (.inl y))))) id
   exact .inl (.inl (.inr y))
  have eo:=(ep.gr MxC.sta ah λq y=>⟨.inl (.inl (.inl (.inl om))),λe=>by have:=(ap q e).1;omega⟩).old MxC.sta λq y=>.inl (c6 q y);have e8:=(bn.gr RtC.sta ah λq y=>⟨.inl (.inl (.inl (.inl om))),λe=>by have:=(d0 q e).1;omega⟩).old RtC.sta λq y=>.inl (c6 q y);have e2:=Qn e3 ah λg hg e=>by have:=(bi g hg).1;omega
  have ds:=dt.kept bf λe=>by injection e with e;omega
  have co:GrN (λi=>i=b3∨i=bm) w5 da:=((((be.trans (GrN.ext (J.trans G))).by2 a7 λq e=>.inl (ae q e).1).by2 a6 λq e=>.inr (by injection e with e;exact .inl e.symm)).trans (GrN.ext a2)).by2 a4 (λq e=>.inl (a8 q e).1) |>.by2 bf λq e=>.inr (by injection e with e;exact .inl e.symm);refine Jr (Km ?_);refine ρn ?_;refine ρ ?_;refine Uh (i+1) _ _ _ sO ⟨om,co,e2,eo,e8,eh,m+1,_,om,ds,λp h1 h2=>?_⟩ om;rw[Jwn];by_cases e:es.getD i 0 &&& set=p
  .subst e;rw[Ia (by trivial)];simp
  rw[Ir (λe'=>e (by injection e' with _ e';omega)),bw p h1 h2,beq_eq_false_iff_ne.2 e,Bool.or_false]
 have f7:i=es.length:=by have:=oF hc;omega
 subst f7;obtain⟨eu,et,fp,_,bl⟩:=id am.form;obtain⟨ey,ew,fr,_,fm⟩:=id b7.form;obtain⟨d9,d8,fq,_,fj⟩:=id a9.form;obtain⟨gy,gw,fo,_,fi⟩:=Jf ak;have dh:bm<w5.heap.size:=cn.lt;have c0:=((am.old RtC.sta (N':=λq=>N1 w3.heap.size (.slice MA (Jv k set).length mc) vC q∨q=bm) λq y=>y.imp id λy=>by rw[y];exact cq).ext RtC.sta O).gr RtC.sta hg6 λq y=>y.elim (λy=>⟨.inl (.inl om),λe=>by have:=(bl q e).1;omega⟩) λy=>⟨.inr y,λe=>by have:=(bl q e).2;omega⟩;have dn:=Qn dq hg6 λg hg e=>by
  have:=cw g hg;omega
 have ee:=Ql (Ql (ef.ext (Ext.refl _)) (a5.trans (GrN.ext O)) om) hg6 om;subst fp;subst fr;subst fq;subst fo;refine ρ ?_;refine lds (cs:=[.slice eu _ et,.slice ey _ ew,.slice d9 _ d8]) (λj u hu=>an.at hu) ?_;refine ρ ?_;refine stb (cs':=[.slice eu _ et,.slice ey _ ew,.slice d9 _ d8]) ee ?_ (λu hu=>by
  simp only[List.mem_cons,List.not_mem_nil,or_false]at hu;rcases hu with rfl|rfl|rfl<;>rfl)
 intro w7 d4 hg7 ba;have Z:GrN (λq=>q=b2) w6 w7:=GrN.by hg7 λq e=>by injection e with e;exact e.symm
 have ga:=hg6.size;have bz:=(c0.gr RtC.sta Z λq y=>⟨.inl (.inl om),λe=>by have:=(bl q e).1;omega⟩).gx (N':=Nn) RtC.sta (by simp;omega) λq y=>y.elim;have dd:(pkA k es set es.length).length=(Jd es set es.length).length:=by simp[pkA]
 have f8:=Jzp es set es.length;have c1:=(b7.gr MxC.sta Z λq y=>⟨.inl om,λe=>by have:=(fm q e).1;omega⟩).gx (N':=Nn) MxC.sta om λq y=>y.elim;have ed:=(a9.gr RtC.sta Z λq y=>⟨.inl om,λe=>by have:=(fj q e).1;omega⟩).gx (N':=Nn) RtC.sta (by simp;omega) λq y=>y.elim;have cy:=Rd.own (Qn dn Z λg hg e=>by have:=cw g hg;omega);have bj:=Rd.own (Qn ak Z λg hg e=>by have:=fi g hg;omega);have b9:Ext w w6:=hg6.old (aq.trans O) λq e=>e.elim (λe=>by rw[e];exact cm) λe=>by rw[e];exact nL aq.size cq
 have fk:GX 3 RtC Nn w7 (.slice d9 (List.replicate (Jd es set es.length).length (PR.int 1)).length d8) (List.replicate (Zf k es set).length (PR.int 1)):=by
  rw[show(Zf k es set).length=(Jd es set es.length).length from dd];exact ed
 refine ρ ?_;exact finC3 d4 ⟨_,_,_,_,_,_,_,rfl,bz,c1,fk,cy,bj,ba w b9 (nL ck.size ff)⟩
open Go.RowKit Pl Go.Wk Bl
variable {E es is:List Nat}{l l1 l2 xs:List PR}{b i j n s set:Nat}
theorem Jxp(n:Nat)(E:List Nat)(set:Nat): (Zf n E set).length=(Jd E set E.length).length:=by simp[Zf]
theorem Jgj(hi:i<(Jd E set E.length).length): (Zf n E set).getD i []=(Jv n set).map λv=>PR.int (((E.getD (Jd E set E.length)[i] 0) &&& set).testBit v).toNat:=by
 unfold Zf;simp[List.getD,List.getElem?_map,List.getElem?_eq_getElem hi]
theorem Jgl(hi:i<(Jd E set E.length).length)(hj:j<(Jv n set).length): ((Zf n E set).getD i []).getD j pr0=PR.int (((E.getD (Jd E set E.length)[i] 0) &&& set).testBit (Jv n set)[j]).toNat:=by
 rw[Jgj hi];simp[List.getD,List.getElem?_map,List.getElem?_eq_getElem hj]
theorem Jgk(n:Nat)(E:List Nat)(set:Nat): Bin (Jv n set).length (Zf n E set):=λi hi=>by
 rw[Jxp]at hi;refine⟨by rw[Jgj hi];simp,λj u=>?_⟩;rw[Jgl hi u];cases ((E.getD (Jd E set E.length)[i] 0) &&& set).testBit (Jv n set)[j]
 .exact .inl rfl
 exact .inr rfl
theorem Jym(E:List Nat)(set:Nat): ∀ {i k:Nat},k<i->(E.getD k 0) &&& set≠0->∃ x∈Jd E set i,(E.getD x 0) &&& set=(E.getD k 0) &&& set
 | i+1,k,hk,h0=>by
  by_cases e:k=i
  .subst e;cases hs:Vx E set k ((E.getD k 0) &&& set) with
   | true=>
    obtain⟨x,hx,e⟩:=List.any_eq_true.1 hs;have e:=eq_of_beq e;obtain⟨y,hy,e2⟩:=Jym E set (List.mem_range.1 hx) (by rw[e];exact h0);exact⟨y,by rw[Jjs (.inr hs)];exact hy,e2.trans e⟩
   | false=>exact⟨k,by rw[Jzn h0 hs];simp,rfl⟩
  obtain⟨x,hx,e2⟩:=Jym E set (show k<i by omega) h0;refine⟨x,?_,e2⟩;by_cases h1:(E.getD i 0) &&& set=0∨Vx E set i ((E.getD i 0) &&& set)=true
  .rw[Jjs h1];exact hx
  rw[Jzn (λe=>h1 (.inl e)) (by cases hs:Vx E set i ((E.getD i 0) &&& set);rfl;exact absurd (.inr hs) h1)];simp[hx]
theorem Jyl{E:List Nat}{set:Nat}: ∀ {i x:Nat},x∈Jd E set i->x<i
 | i+1,x,h=>by
  by_cases h1:(E.getD i 0) &&& set=0∨Vx E set i ((E.getD i 0) &&& set)=true
  .rw[Jjs h1]at h;have:=Jyl h;omega
  rw[Jzn (λe=>h1 (.inl e)) (by cases hs:Vx E set i ((E.getD i 0) &&& set);rfl;exact absurd (.inr hs) h1)]at h;rcases List.mem_append.1 h with h|h
  .have:=Jyl h;omega
  rw[List.mem_singleton.1 h];omega
theorem noC: ∀ u∈[Value.slice none 0 0,.slice none 0 0,.bool false,.slice none 0 0,.slice none 0 0],∀ z,u≠.int .u32 z:=λu i z e=>by
 simp only[List.mem_cons,List.not_mem_nil,or_false]at i;rcases i with rfl|rfl|rfl|rfl|rfl<;>cases e
def Covd(n:Nat)(E:List Nat)(set:Nat): Prop:=∀ v,v<n->set.testBit v=true->∃ k,k<E.length/\(E.getD k 0).testBit v=true
theorem Jvh(h:Covd n E set): ∀ j,j<(Jv n set).length->∃ i,i<(Zf n E set).length/\Xc (Zf n E set) i j=1:=λj U=>by
 have J:(Jv n set)[j]∈Jv n set:=List.getElem_mem _;obtain⟨G,B⟩:=List.mem_filter.1 J;obtain⟨k,O,y⟩:=h _ (List.mem_range.1 G) B;have u:((E.getD k 0) &&& set).testBit (Jv n set)[j]=true:=by rw[Nat.testBit_and,y,B];rfl
 obtain⟨x,D,e⟩:=Jym E set O (λe=>by rw[e]at u;simp at u);obtain⟨i,hi,Z⟩:=List.getElem_of_mem D;refine⟨i,by rw[Jxp];exact hi,?_⟩;unfold Xc;rw[Jgl hi U,Z,e,u];decide +kernel
def Zt(l:List PR)(is:List Nat)(xs:List PR)(i:Nat): List PR:=Yq l (is.take i) (xs.take i)
theorem Jfv(l:List PR)(is:List Nat)(xs:List PR): Zt l is xs 0=l:=by simp[Zt,Yq]
theorem Jxl(h:is.length=xs.length): Zt l is xs is.length=Yq l is xs:=by
 rw[Zt,List.take_length,h,List.take_length]
theorem Jft(hi:i<is.length)(hx:i<xs.length): Zt l is xs (i+1)=(Zt l is xs i).set is[i] xs[i]:=by
 unfold Zt Yq;rw[List.take_add_one,List.take_add_one,List.getElem?_eq_getElem hi,List.getElem?_eq_getElem hx,List.zip_append (by simp;omega),List.foldl_append];rfl
theorem Jxk(l:List PR)(is:List Nat)(xs:List PR)(i:Nat): (Zt l is xs i).length=l.length:=by
 unfold Zt Yq;generalize (is.take i).zip (xs.take i)=z
 induction z generalizing l with
 | nil=>rfl
 | cons p z ih=>rw[List.foldl_cons,ih,List.length_set]
abbrev NZ(s b:Nat)(v1 v2:Value): Nat->Prop:=λk=>k<s∨k=b∨v1.ownBlock=some k∨v2.ownBlock=some k
structure TwoZ(s b:Nat)(w:World)(v1 v2:Value)(l1 l2:List PR): Prop where
 o1:∃ base,OX 58 3 RtC (NZ s b v1 v2) w base v1 l1
 o2:∃ base,OX 58 3 RtC (NZ s b v1 v2) w base v2 l2
 ne:∀ k,v1.ownBlock=some k->v2.ownBlock≠some k
 f1:∀ k,v1.ownBlock=some k->s<=k
 f2:∀ k,v2.ownBlock=some k->s<=k
theorem TwoZ.ext{s b:Nat}{w w':World}{v1 v2:Value}{l1 l2:List PR}(h:TwoZ s b w v1 v2 l1 l2)(hx:Ext w w'): TwoZ s b w' v1 v2 l1 l2:=by
 obtain⟨⟨_,B⟩,⟨_,y⟩,u,j,i⟩:=h;exact⟨⟨_,B.ext RtC.sta hx⟩,⟨_,y.ext RtC.sta hx⟩,u,j,i⟩
theorem twoZ{wa w1 wb w2:World}{v1 v2:Value}(hs:s<=wa.heap.size)(h1:OX 58 3 RtC (Ov wa v1) w1 wa.heap.size v1 l1)(hx0:Ext wa w1)(hx1:Ext w1 wb)(h2:OX 58 3 RtC (Ov wb v2) w2 wb.heap.size v2 l2)(hx2:Ext wb w2)(hb:b<wa.heap.size∨(w1.heap.size<=b/\b<wb.heap.size)∨w2.heap.size<=b): TwoZ s b w2 v1 v2 l1 l2:=by
 obtain⟨_,_,_,_,f1⟩:=id h1.form;obtain⟨_,_,_,_,j⟩:=id h2.form;have z0:=hx0.size;have B:=hx1.size;have y:=hx2.size;refine⟨⟨_,(h1.old RtC.sta (N':=NZ s b v1 v2) λk i=>?_).ext RtC.sta (hx1.trans hx2)⟩,⟨_,h2.old RtC.sta λk i=>?_⟩,λk e u=>?_,λk e=>nL hs (f1 k e).1,λk e=>?_⟩
 .rcases i with i|i|i|i
  .exact .inl (.inl om)
  .rcases hb with hb|hb|hb
   .exact .inl (.inl om)
   .exact .inr om
   exact .inr om
  .exact .inl (.inr i)
  exact .inr (by have:=(j k i).1;omega)
 .rcases i with i|i|i|i
  .exact .inl (.inl om)
  .rcases hb with hb|hb|hb
   .exact .inl (.inl om)
   .exact .inl (.inl om)
   exact .inr om
  .exact .inl (.inl (by have:=(f1 k i).2;omega))
  exact .inl (.inr i)
 .have:=(f1 k e).2;have:=(j k u).1;omega
 have:=(j k e).1;omega
theorem Kx: Qm Tryz.prog 60=some (.agg #[.slice none 0 0,.slice none 0 0,.bool false,.slice none 0 0,.slice none 0 0]):=kr
theorem Jkc(A B C D:Option Addr)(m c m' c' k d k' d':Nat)(b:Bool)(w:World): (Instr.build 60 #[(0,.slice A m c),(1,.slice B m' c'),(2,.agg #[.bool b,.slice C k d,.slice D k' d'])]).run Tryz.prog w=.ok (.agg #[.slice A m c,.slice B m' c',.bool b,.slice C k d,.slice D k' d']) w:=kr
theorem Jgp{E:List Nat}: ∀ {i v:Nat},i<=E.length->(((List.range i).foldl (λa k=>a ||| E.getD k 0) 0).testBit v=true↔∃ k,k<i/\(E.getD k 0).testBit v=true)
 | 0,v,_=>by simp
 | i+1,v,h=>by
  rw[List.range_succ,List.foldl_append,List.foldl_cons,List.foldl_nil,Nat.testBit_or,Bool.or_eq_true,Jgp om];constructor
  .rintro(⟨k,hk,e⟩|e)
   .exact⟨k,om,e⟩
   exact⟨i,om,e⟩
  rintro⟨k,hk,e⟩;by_cases h1:k=i
  .subst h1;exact .inr e
  exact .inl ⟨k,om,e⟩
def orK(E:List Nat)(i:Nat): Nat:=(List.range i).foldl (λa k=>a ||| E.getD k 0) 0
theorem Jgq(E:List Nat)(i:Nat): orK E (i+1)=orK E i ||| E.getD i 0:=by unfold orK;rw[List.range_succ,List.foldl_append];rfl
theorem Qbv{w:World}{A:Option Addr}{c fuel:Nat}{pc:PC}(h:GrV w A c n es)(hs:set<2^n)(h0:set≠0)(hm:es.length<=5)(hcv:Covd n es set)(hf:((Jv n set).length+(Jd es set es.length).length)^(Jd es set es.length).length<=fuel)(hpc:cvr fuel n es set=some pc):
  Ret Tryz.prog 22 [.agg (grC A c n es).toArray,.int .u32 (set:Int)] w λu w'=>∃ W P q1 q2,u=.tuple #[.agg #[W,P,.bool pc.val.neg,q1,q2],.int .i64 0]/\GX 3 RtC Nn w' W pc.ws/\GX 3 RtC Nn w' P pc.ps/\NatX Nn w' q1 pc.val.num/\NatX Nn w' q2 pc.val.den/\Ext w w':=by
 have hn:=h.n32;have f5:=Um hn;have aq:set<4294967296:=om
 obtain⟨t',c0,e9⟩:=Option.map_eq_some_iff.1 hpc;rw[<-Jxp n]at c0 hf;have f8:=Jvv n set;have f6:=Jxp n es set;have fb:=Jzp es set es.length;have ey:0<(Zf n es set).length:=by
  obtain⟨v,hv⟩:=Nat.exists_testBit_of_ne_zero h0;have ap:v<n:=Nat.lt_of_not_le λc4=>by
   rw[Nat.testBit_lt_two_pow (nM hs (Nat.pow_le_pow_right (n:=2) (by decide) c4))]at hv;cases hv
  have e6:v∈Jv n set:=List.mem_filter.2 ⟨List.mem_range.2 ap,hv⟩;obtain⟨j,hj,_⟩:=List.getElem_of_mem e6;obtain⟨i,hi,_⟩:=Jvh hcv j hj;omega
 obtain⟨d0,cy⟩:t'.point.length=(Jv n set).length/\t'.dual.length=(Jd es set es.length).length:=by
  obtain⟨_,t2,S,cx,hS,_⟩:=Jgn (Jgk n es set) (Jvh hcv) hf;rw[c0]at cx;cases cx
  have h1:=hS.en;have h2:=hS.em;have h3:=hS.agr.ok.goal.1;refine⟨by simp[PT.point,h1],?_⟩;simp only[PT.dual,List.length_take,List.length_drop,h3];simp only[PT.right];omega
 refine Jz Tryz.func22 Tryz.ntmps22 rfl kr rfl ?_;refine ρ ?_;refine bx (cs:=grC A c n es) ?_;intro w1 b1 bz fd ew;refine ρ ?_;refine alc Kx ?_;intro w2 b2 bw ec dd;have a4:=ew.ext bw;refine ρ ?_;refine lds (cs:=grC A c n es) (λj u D=>a4.at D) ?_;refine ρ ?_;refine cl (Jzk ((h.ext bz).ext bw)) ?_;rintro u w3 ⟨rfl,b9⟩;have ak:=a4.ext b9;refine ρ ?_;refine lds (cs:=grC A c n es) (λj u D=>ak.at D) ?_;refine ρ ?_;refine cl (Jsb (w:=w3) hn) ?_;rintro u w4 ⟨rfl,b8⟩;have b5:=ak.ext b8;have f7:0<2^n:=Nat.two_pow_pos n;refine ρ ?_;refine cf ?_ ?_
 .rw[Jqd aq om,Jpr hs hn];rfl
 refine ρ ?_;refine ld (b5.at (i:=1) rfl) ?_;have be:=bz.trans (bw.trans (b9.trans b8));have h4:=h.ext be;refine ρ ?_;refine Jp (fun (i:Nat)=>[(1,.int .u32 (set:Int)),(2,.pointer (some ⟨b1,0,none⟩)),(4,.pointer (some ⟨b2,0,none⟩)),(7,.int .u32 ((orK es i:Nat):Int)),(33,.slice A es.length c),(34,.int .i64 (es.length:Int)),(35,.int .i64 (i:Int))]) (λi w'=>i<=es.length/\w'=w4/\orK es i<4294967296) (λi=>es.length-i) 0 sB ⟨Nat.zero_le _,rfl,show 0<4294967296 by decide⟩ ?_;rintro i w5 ⟨hi,rfl,ho⟩;refine ρ ?_;refine ci (λhc=>?_) (λhc=>?_)
 .have a1:i<es.length:=by have:=oT hc;omega
  clear hc;refine ρ ?_;refine ix i h4.rd a1 ?_;refine ρ ?_;refine ld (h4.rd.cell (Jkj a1)) ?_;have bj:=h4.lt32 (getD_mem' 0 es a1);refine ρ ?_;rw[Ge ho bj,<-Jgq];exact Jh (i+1) sO ⟨om,rfl,by rw[Jgq];exact Jjh ho bj⟩ om
 have av:i=es.length:=by have:=oF hc;omega
 subst av;clear hc hi;have d3:Vt set (orK es es.length)=0:=by
  apply Nat.eq_of_testBit_eq
  intro v;rw[Jkh aq ho,Nat.zero_testBit];cases hb:set.testBit v with
  | false=>rfl
  | true=>
   have hv:v<n:=Nat.lt_of_not_le λc4=>by
    rw[Nat.testBit_lt_two_pow (nM hs (Nat.pow_le_pow_right (n:=2) (by decide) c4))]at hb;cases hb
   have:=(Jgp (E:=es) (v:=v) (Nat.le_refl _)).2 (hcv v hv hb);unfold orK;rw[this];rfl
 refine ρ ?_;refine cf ?_ ?_
 .rw[Jqd aq ho,d3];rfl
 refine ρ ?_;refine lds (cs:=grC A c n es) (λj u D=>b5.at D) ?_;refine ρ ?_;refine cl (Qxt h4 hs hm) ?_;rintro _ w6 ⟨vC,vA,vB,MA,mc,FA,fc,rfl,dc,di,bt,ep,er,cn⟩;obtain⟨dm,dl,_,rfl,_,_,_,_,_⟩:=id dc.el;obtain⟨dt,ds,_,rfl,_,_,_,_,_⟩:=id di.el;obtain⟨dq,dn,_,rfl,_,_,_,_,_⟩:=id bt.el;refine ρ ?_;refine alc zPb ?_;intro w7 b7 e4 eb eu;refine ρ ?_;refine stb (cs':=[.slice dm _ dl,.slice dt _ ds,.slice dq _ dn]) eu ?_ (λu D=>by
  simp only[List.mem_cons,List.not_mem_nil,or_false]at D;rcases D with rfl|rfl|rfl<;>rfl)
 intro w8 et fa e3;have ab:Ext w6 w8:=e3 w6 e4 eb;have ez:=cn.trans ab;refine ρ ?_;refine lds (cs:=[.slice dm _ dl,.slice dt _ ds,.slice dq _ dn]) (λj u D=>et.at D) ?_;refine cl (Jtt (dc.ext RtC.sta (by decide) ab) (di.ext MxC.sta (by decide) ab) (bt.ext RtC.sta (by decide) ab) (λk J=>J.elim) (Jgk n es set) (Jvh hcv) om om ey hf c0) ?_;rintro _ w9 ⟨X,Y,q1,q2,rfl,d5,d4,cu,cr,e2⟩;generalize hq:t'.goal.getD t'.right pr0=q at *
 obtain⟨X1,X2,_,rfl,_,_,_,_,_⟩:=id d5.el;obtain⟨Y1,Y2,_,rfl,_,_,_,_,_⟩:=id d4.el;obtain⟨Q1,c1,rfl⟩:=cu.1.sl;obtain⟨Q2,c2,rfl⟩:=cr.1.sl;refine ρ ?_;refine alc zSol ?_;intro f3 cj cq d2 dh;refine ρ ?_;refine stb (cs':=[.int .i64 0,.slice X1 _ X2,.slice Y1 _ Y2,.slice none 0 0,.bool q.neg,.slice Q1 _ c1,.slice Q2 _ c2]) dh ?_ (λu D=>by
  simp only[List.mem_cons,List.not_mem_nil,or_false]at D;rcases D with rfl|rfl|rfl|rfl|rfl|rfl|rfl<;>rfl)
 intro a5 dg f0 cp;have ao:Ext w9 a5:=cp w9 cq d2;have an:Ext a5 a5.drew:=(Ext.refl a5).drew;have ae:=ab.trans (e2.trans ao);have ah:=cn.trans (ae.trans an);have bu:=b5.ext ah;have ac:=dg.ext an;refine ρ ?_;refine drH (λi=>i == 11) ?_;refine Vy (fuel':=5) 18 [(0,0),(0,1),(0,2),(0,4),(0,5),(0,7),(0,8)] #[true,true,true,false,true,true,false,true,true,false,false,false] kr kr rfl ?_;refine ρd ?_;refine dld (bu.at (i:=1) rfl) ?_;refine ρd ?_;refine dld (bu.at (i:=0) rfl) ?_;refine ρd ?_;refine Qw (cs:=[.bool q.neg,.slice Q1 (Jj q.num).length c1,.slice Q2 (Jj q.den).length c2]) (λj u D=>match j,D with
  | 0,D=>by injection D with D;subst D;exact ac.at (i:=4) rfl
  | 1,D=>by injection D with D;subst D;exact ac.at (i:=5) rfl
  | 2,D=>by injection D with D;subst D;exact ac.at (i:=6) rfl
  | j+3,D=>by cases D) ?_
 refine ρd ?_;refine Zw ?_;refine hcut 1 (lst 12 11) (fun (y:(Option Addr×Nat)×(Option Addr×Nat)×Nat)=>[(73,.agg #[.slice y.1.1 es.length y.1.2,.slice y.2.1.1 n y.2.1.2,.bool q.neg,.slice Q1 (Jj q.num).length c1,.slice Q2 (Jj q.den).length c2]),(15,.pointer (some ⟨y.2.2,0,none⟩)),(2,.pointer (some ⟨b1,0,none⟩)),(4,.pointer (some ⟨b2,0,none⟩)),(11,.slice MA (Jv n set).length mc),(12,.slice FA (Jd es set es.length).length fc),(13,.pointer (some ⟨cj,0,none⟩))])
  (λy W=>Ext a5.drew W/\TwoZ a5.drew.heap.size y.2.2 W (.slice y.1.1 es.length y.1.2) (.slice y.2.1.1 n y.2.1.2) (List.replicate es.length pr0) (List.replicate n pr0)/\Blk W y.2.2 60 [.slice none 0 0,.slice none 0 0,.bool false,.slice none 0 0,.slice none 0 0]/\a5.drew.heap.size<=y.2.2) ?_ ?_
 rotate_left
 .intro rest;have zl (m:Nat) (W:World) (hm:m<=64):=Qbs m (show m<=1000 by omega) W;refine Jjq 3 10 kr rfl rfl rfl ?_ ?_
  .refine cl (zl es.length _ om) ?_;rintro W v1 ⟨hW,a2⟩;obtain⟨W1,W2,_,eW,_,_⟩:=id hW.el;rw[List.length_replicate]at eW;subst eW;refine Jr (Qf (λ_=>a2) ?_);refine Jjq 6 10 kr rfl rfl rfl ?_ ?_
   .refine cl (zl n _ om) ?_;rintro P v2 ⟨hP,Z⟩;obtain⟨P1,P2,_,eP,_,_⟩:=id hP.el;rw[List.length_replicate]at eP;subst eP;have hZ (b:Nat) (hb:v2.heap.size<=b):=twoZ (b:=b) (Nat.le_refl _) hW a2 (Ext.refl _) hP Z (.inr (.inr hb));refine Jr (Qf (λ_=>Z) ?_);refine Jjq 9 10 kr rfl rfl rfl ?_ ?_
    .refine bld (Jkc _ _ _ _ _ _ _ _ _ _ _ _ _ _) ?_;refine Jr (Qf (λ_=>Ext.refl _) ?_);refine Xu 10 kr rfl rfl ?_;refine alc Kx ?_;intro v3 B O G U;refine Jr (Qf (λ_=>O) ?_);refine Ye (listed':=lst 12 11) kr ?_;exact rest ((W1,W2),(P1,P2),B) _ _ ⟨a2.trans (Z.trans O),(hZ B G).ext O,U,Nat.le_trans (a2.trans Z).size G⟩ sB
    refine alc Kx ?_;intro v3 B O G U;refine Jr (Qf (λ_=>O) ?_);refine Xu 9 kr rfl rfl ?_;refine bld (Jkc _ _ _ _ _ _ _ _ _ _ _ _ _ _) ?_;refine Jr (Qf (λ_=>Ext.refl _) ?_);refine Ye (listed':=lst 12 11) kr ?_;exact rest ((W1,W2),(P1,P2),B) _ _ ⟨a2.trans (Z.trans O),(hZ B G).ext O,U,Nat.le_trans (a2.trans Z).size G⟩ sB
   refine alc Kx ?_;intro v2 B Z G U;refine Jr (Qf (λ_=>Z) ?_);refine Xu 6 kr rfl rfl ?_;refine cl (zl n _ om) ?_;rintro P v3 ⟨hP,O⟩;obtain⟨P1,P2,_,eP,_,_⟩:=id hP.el;rw[List.length_replicate]at eP;subst eP;have hZ:=twoZ (b:=B) (Nat.le_refl _) hW a2 Z hP O (.inr (.inl ⟨G,U.lt⟩));refine Jr (Qf (λ_=>O) ?_);refine Xu 9 kr rfl rfl ?_;refine bld (Jkc _ _ _ _ _ _ _ _ _ _ _ _ _ _) ?_;refine Jr (Qf (λ_=>Ext.refl _) ?_);refine Ye (listed':=lst 12 11) kr ?_;exact rest ((W1,W2),(P1,P2),B) _ _ ⟨a2.trans (Z.trans O),hZ,U.ext O,Nat.le_trans a2.size G⟩ sB
  refine alc Kx ?_;intro v1 B a2 G U;refine Jr (Qf (λ_=>a2) ?_);refine Xu 3 kr rfl rfl ?_;refine cl (zl es.length _ om) ?_;rintro W v2 ⟨hW,Z⟩;obtain⟨W1,W2,_,eW,_,_⟩:=id hW.el;rw[List.length_replicate]at eW;subst eW;refine Jr (Qf (λ_=>Z) ?_);refine Xu 6 kr rfl rfl ?_;refine cl (zl n _ om) ?_;rintro P v3 ⟨hP,O⟩;obtain⟨P1,P2,_,eP,_,_⟩:=id hP.el;rw[List.length_replicate]at eP;subst eP;have hZ:=twoZ (b:=B) a2.size hW Z (Ext.refl _) hP O (.inl U.lt);refine Jr (Qf (λ_=>O) ?_);refine Xu 9 kr rfl rfl ?_;refine bld (Jkc _ _ _ _ _ _ _ _ _ _ _ _ _ _) ?_;refine Jr (Qf (λ_=>Ext.refl _) ?_);refine Ye (listed':=lst 12 11) kr ?_;exact rest ((W1,W2),(P1,P2),B) _ _ ⟨a2.trans (Z.trans O),hZ,(U.ext Z).ext O,G⟩ sB
 rintro⟨⟨W1,W2⟩,⟨P1,P2⟩,B⟩ dx ⟨bd,bl,a4,G⟩;simp only at bl a4 G ⊢;refine Xu 11 kr rfl rfl ?_;refine stb (cs':=[.slice W1 es.length W2,.slice P1 n P2,.bool q.neg,.slice Q1 (Jj q.num).length c1,.slice Q2 (Jj q.den).length c2]) a4 ?_ (λu D=>by
  simp only[List.mem_cons,List.not_mem_nil,or_false]at D;rcases D with rfl|rfl|rfl|rfl|rfl<;>rfl)
 intro cm ak bi bc;have e1:Ext a5.drew cm:=bc _ bd G;obtain⟨⟨dk,az⟩,⟨dj,b4⟩,cw,c8,c7⟩:=bl;have af:GrN (λk=>k=B) dx cm:=GrN.by bi λk e=>by injection e with e;exact e.symm
 obtain⟨_,_,ba⟩:=az.own;obtain⟨_,_,bb⟩:=b4.own;have bo:=az.gr RtC.sta af λk e=>⟨.inr (.inl e),by rw[e];exactλe'=>a4.ne_own ba kr e'.symm⟩;have br:=b4.gr RtC.sta af λk e=>⟨.inr (.inl e),by rw[e];exactλe'=>a4.ne_own bb kr e'.symm⟩;refine Jr (Qf (λh=>by cases h) ?_);refine Xn kr ?_;generalize hsz:a5.drew.heap.size=s at *
 clear az b4 ba bb a4 bd bc bi af;have cd:=bo.old RtC.sta (N':=λk=>k=B∨(Value.slice W1 es.length W2).ownBlock=some k∨(Value.slice P1 n P2).ownBlock=some k) λk J=>.inl (.inr J);have ch:=br.old RtC.sta (N':=λk=>k=B∨(Value.slice W1 es.length W2).ownBlock=some k∨(Value.slice P1 n P2).ownBlock=some k) λk J=>.inl (.inr J);clear bo br;have eo:∀ k,(k=B∨(Value.slice W1 es.length W2).ownBlock=some k∨(Value.slice P1 n P2).ownBlock=some k)->s<=k:=λk J=>by
  rcases J with J|J|J
  .omega
  .exact c8 k J
  exact c7 k J
 generalize hNN:(λk=>k=B∨(Value.slice W1 es.length W2).ownBlock=some k∨(Value.slice P1 n P2).ownBlock=some k)=NN at *
 have d9:∀ k,(Value.slice W1 es.length W2).ownBlock=some k->NN k:=λk J=>by rw[<-hNN];exact .inr (.inl J)
 have d8:∀ k,(Value.slice P1 n P2).ownBlock=some k->NN k:=λk J=>by rw[<-hNN];exact .inr (.inr J)
 have bs:∀ k,NN k->s<=k:=λk J=>eo k (by rw[<-hNN]at J;exact J);have ag:Ext w9 a5.drew:=ao.trans an;have ei:=(d5.ext RtC.sta (by decide) ag).old RtC.sta (by decide) (N':=NN) λk J=>.inr (by rw[hsz];exact bs k J);have ef:=(d4.ext RtC.sta (by decide) ag).old RtC.sta (by decide) (N':=NN) λk J=>.inr (by rw[hsz];exact bs k J);have da:=ep.ext (ae.trans an);have db:=er.ext (ae.trans an);have d1:t'.point.length=(Jv n set).length:=d0;have cz:t'.dual.length=(Jd es set es.length).length:=cy;obtain⟨XA,XC,_,eX,_,_,eg,_,eh⟩:=id ei.el;injection eX with eXa _ eXc
 subst eXa;obtain⟨YA,YC,_,eY,_,_,ed,_,ee⟩:=id ef.el;injection eY with eYa _ eYc
 subst eYa;refine ρ ?_;refine Jp (fun (i:Nat)=>[(2,.pointer (some ⟨b1,0,none⟩)),(4,.pointer (some ⟨b2,0,none⟩)),(11,.slice MA (Jv n set).length mc),(12,.slice FA (Jd es set es.length).length fc),(13,.pointer (some ⟨cj,0,none⟩)),(15,.pointer (some ⟨B,0,none⟩)),(74,.slice MA (Jv n set).length mc),(75,.int .i64 ((Jv n set).length:Int)),(76,.int .i64 (i:Int))])
  (λi w'=>i<=(Jv n set).length/\Ext a5.drew w'/\OX 58 3 RtC NN w' dk (.slice W1 es.length W2) (List.replicate es.length pr0)/\OX 58 3 RtC NN w' dj (.slice P1 n P2) (Zt (List.replicate n pr0) (Jv n set) t'.point i)/\Blk w' B 60 [.slice W1 es.length W2,.slice P1 n P2,.bool q.neg,.slice Q1 (Jj q.num).length c1,.slice Q2 (Jj q.den).length c2]) (λi=>(Jv n set).length-i) 0 sB ⟨Nat.zero_le _,e1,cd,by rw[Jfv];exact ch,ak⟩ ?_
 rintro i b6 ⟨hi,ai,bn,b3,aa⟩;refine ρ ?_;refine ci (λhc=>?_) (λhc=>?_)
 .have a1:i<(Jv n set).length:=by have:=oT hc;omega
  clear hc;refine ρ ?_;refine ix i (da.ext ai) a1 ?_;refine ρ ?_;refine ld ((da.ext ai).cell (Xq a1)) ?_;refine ρ ?_;have cb:i<t'.point.length:=om
  have ap:(Jv n set).getD i 0<n:=Jhg (getD_mem' 0 _ a1);have a3:Ext b6 b6.drew:=(Ext.refl b6).drew;have a8:=ai.trans a3;have cg:=b3.ext RtC.sta a3;have bg:n=(Zt (List.replicate n pr0) (Jv n set) t'.point i).length:=by rw[Jxk];simp
  obtain⟨ce,_,ar,c9⟩:=eh i cb;have au:=Jft (l:=List.replicate n pr0) a1 cb;rw[show(Jv n set)[i]=(Jv n set).getD i 0 by simp[List.getD,List.getElem?_eq_getElem a1]]at au;generalize t'.point[i]=x at *
  obtain⟨F1,f1,F2,f2,rfl,e7⟩:=ar.sl;refine dr [(0,0),(0,1),(0,2),(0,3),(0,4),(0,5),(0,6),(0,7),(0,8),(2,9)] kr ?_;refine ρd ?_;refine dld ((aa.ext a3).at (i:=1) rfl) ?_;refine ρd ?_;refine dld ((ac.ext a8).at (i:=1) rfl) ?_;refine ρd ?_;refine Qt 3 i (eg.ext a8) cb ?_;refine ρd ?_;refine Qw (λj u D=>Xz a8 (c9 j u D)) ?_;refine ρd ?_;obtain⟨_,ek⟩:=cg.rd bg;refine Qt 3 ((Jv n set).getD i 0) ek ap ?_;refine ρd ?_;refine Jy ?_;refine stX RtC.sta cg bg (show(Jv n set).getD i 0<_ by omega) (cs:=[.bool x.neg,.slice F1 _ f1,.slice F2 _ f2]) (a:=x) (RtC.sta.gr ar (GrN.ext a8)) d8 (Js rfl rfl rfl) ?_;intro dw bq ax;have c6:GrN (λk=>(Value.slice P1 n P2).ownBlock=some k) b6.drew dw:=GrN.by ax λk e=>e
  rw[<-au]at bq;obtain⟨_,_,bb⟩:=cg.own;have d6:=(bn.ext RtC.sta a3).gr RtC.sta c6 λk e=>⟨d8 k e,λe'=>cw k e' e⟩;have U:=(aa.ext a3).grown ax λe=>(aa.ext a3).ne_own bb kr e;refine ρ ?_;exact Jh (i+1) sO ⟨om,Jt a8 ax λk J=>by rw[hsz];exact c7 k J,d6,bq,U⟩ om
 have av:i=(Jv n set).length:=by have:=oF hc;omega
 subst av;clear hc hi;rw[Jxl d1.symm]at b3;refine ρ ?_;refine Jp (fun (i:Nat)=>[(2,.pointer (some ⟨b1,0,none⟩)),(4,.pointer (some ⟨b2,0,none⟩)),(12,.slice FA (Jd es set es.length).length fc),(13,.pointer (some ⟨cj,0,none⟩)),(15,.pointer (some ⟨B,0,none⟩)),(91,.slice FA (Jd es set es.length).length fc),(92,.int .i64 ((Jd es set es.length).length:Int)),(93,.int .i64 (i:Int))])
  (λi w'=>i<=(Jd es set es.length).length/\Ext a5.drew w'/\OX 58 3 RtC NN w' dk (.slice W1 es.length W2) (Zt (List.replicate es.length pr0) (Jd es set es.length) t'.dual i)/\OX 58 3 RtC NN w' dj (.slice P1 n P2) (Yq (List.replicate n pr0) (Jv n set) t'.point)/\Blk w' B 60 [.slice W1 es.length W2,.slice P1 n P2,.bool q.neg,.slice Q1 (Jj q.num).length c1,.slice Q2 (Jj q.den).length c2]) (λi=>(Jd es set es.length).length-i) 0 sB ⟨Nat.zero_le _,ai,by rw[Jfv];exact bn,b3,aa⟩ ?_
 rintro i am ⟨hi,a7,ay,bp,aj⟩;refine ρ ?_;refine ci (λhc=>?_) (λhc=>?_)
 .have a1:i<(Jd es set es.length).length:=by have:=oT hc;omega
  clear hc;refine ρ ?_;refine ix i (db.ext a7) a1 ?_;refine ρ ?_;refine ld ((db.ext a7).cell (Xq a1)) ?_;refine ρ ?_;have ca:i<t'.dual.length:=om
  have ap:(Jd es set es.length).getD i 0<es.length:=Jyl (getD_mem' 0 _ a1);have a3:Ext am am.drew:=(Ext.refl am).drew;have a6:=a7.trans a3;have cc:=ay.ext RtC.sta a3;have bf:es.length=(Zt (List.replicate es.length pr0) (Jd es set es.length) t'.dual i).length:=by rw[Jxk];simp
  obtain⟨ce,_,ar,c9⟩:=ee i ca;have au:=Jft (l:=List.replicate es.length pr0) a1 ca;rw[show(Jd es set es.length)[i]=(Jd es set es.length).getD i 0 by simp[List.getD,List.getElem?_eq_getElem a1]]at au;generalize t'.dual[i]=x at *
  obtain⟨F1,f1,F2,f2,rfl,e7⟩:=ar.sl;refine dr [(0,0),(0,1),(0,2),(0,3),(0,4),(0,5),(0,6),(0,7),(0,8),(2,9)] kr ?_;refine ρd ?_;refine dld ((aj.ext a3).at (i:=0) rfl) ?_;refine ρd ?_;refine dld ((ac.ext a6).at (i:=2) rfl) ?_;refine ρd ?_;refine Qt 3 i (ed.ext a6) ca ?_;refine ρd ?_;refine Qw (λj u D=>Xz a6 (c9 j u D)) ?_;refine ρd ?_;obtain⟨_,ej⟩:=cc.rd bf;refine Qt 3 ((Jd es set es.length).getD i 0) ej ap ?_;refine ρd ?_;refine Jy ?_;refine stX RtC.sta cc bf (show(Jd es set es.length).getD i 0<_ by omega) (cs:=[.bool x.neg,.slice F1 _ f1,.slice F2 _ f2]) (a:=x) (RtC.sta.gr ar (GrN.ext a6)) d9 (Js rfl rfl rfl) ?_;intro du bm aw;have c5:GrN (λk=>(Value.slice W1 es.length W2).ownBlock=some k) am.drew du:=GrN.by aw λk e=>e
  rw[<-au]at bm;obtain⟨_,_,ba⟩:=cc.own;have d7:=(bp.ext RtC.sta a3).gr RtC.sta c5 λk e=>⟨d9 k e,λe'=>cw k e e'⟩;have df:=(aj.ext a3).grown aw λe=>(aj.ext a3).ne_own ba kr e;refine ρ ?_;exact Jh (i+1) sO ⟨om,Jt a6 aw λk J=>by rw[hsz];exact c8 k J,bm,d7,df⟩ om
 have av:i=(Jd es set es.length).length:=by have:=oF hc;omega
 subst av;clear hc hi;rw[Jxl cz.symm]at ay;have ad:=((dd.ext (b9.trans b8)).ext (ah)).ext a7;refine ρ ?_;refine lds (cs:=[.slice W1 es.length W2,.slice P1 n P2,.bool q.neg,.slice Q1 (Jj q.num).length c1,.slice Q2 (Jj q.den).length c2]) (λj u D=>aj.at D) ?_;refine ρ ?_;refine stb (cs':=[.slice W1 es.length W2,.slice P1 n P2,.bool q.neg,.slice Q1 (Jj q.num).length c1,.slice Q2 (Jj q.den).length c2]) ad ?_ (λu D=>by
  simp only[List.mem_cons,List.not_mem_nil,or_false]at D;rcases D with rfl|rfl|rfl|rfl|rfl<;>rfl)
 intro ck de bh co;have ea:GrN (λk=>NN k∨k=b2) am ck:=GrN.by bh λk e=>by injection e with e;exact .inr e.symm
 refine ρ ?_;have f9:=dd.lt;have f4:w2.heap.size<=s:=by rw[<-hsz];exact((b9.trans b8).trans ah).size
 have e8:(Yq (List.replicate n pr0) (Jv n set) t'.point).length=n:=by rw[<-Jxl d1.symm,Jxk];simp
 have e5:(Yq (List.replicate es.length pr0) (Jd es set es.length) t'.dual).length=es.length:=by rw[<-Jxl cz.symm,Jxk];simp
 have e0:=(cu.ext (ag.trans a7)).box ad noC;have dz:=(cr.ext (ag.trans a7)).box ad noC;have g1:=Jzl (ay.gx (N':=Nn) RtC.sta om λk J=>J.elim) ad noC (λe=>by have:=c8 b2 e;omega);have g2:=Jzl (bp.gx (N':=Nn) RtC.sta om λk J=>J.elim) ad noC (λe=>by have:=c7 b2 e;omega);have a9:GrN (λk=>Nn k∨k=b2) am ck:=GrN.by bh λk e=>by injection e with e;exact .inr e.symm
 subst e9;subst hq;exact Xr de ⟨_,_,_,_,rfl,(g1.gr RtC.sta (by decide) a9).old RtC.sta (by decide) λk J=>J.elim,(g2.gr RtC.sta (by decide) a9).old RtC.sta (by decide) λk J=>J.elim,(e0.gr a9).old λk J=>J.elim,(dz.gr a9).old λk J=>J.elim,co w (be.trans (ah.trans a7)) (nL bz.size ec)⟩
open Go.RowKit Pl Go.Wk Bl
variable {m n:Nat}{v vl x y:Value}{w:World}
theorem Jcv{fid:FuncId}{cap:Array Value}{ls:List PR}(Inv:Nat->World->Prop)(hx:∀ i w w',Inv i w->Ext w w'->Inv i w')(hl:∀ i w,Inv i w->GX 3 RtC Nn w vl ls)(step:∀ i (hi:i<ls.length) w v,Inv i w->RtX Nn w v ls[i]->Ret Tryz.prog fid ([.int .i64 (i:Int),v]++cap.toList) w λu w'=>Inv (i+1) w')(h0:Inv 0 w):
  Ret Tryz.prog 99 [vl,.func (.func fid) #[] cap] w λu w'=>Inv ls.length w':=by
 obtain⟨A,c,_,rfl,_,a7,_⟩:=id (hl 0 w h0).el;refine Jz Tryz.func99 Tryz.ntmps99 rfl kr rfl ?_;refine ρ ?_;refine Jp (fun (i:Nat)=>[(1,.func (.func fid) #[] cap),(6,.slice A ls.length c),(7,.int .i64 (ls.length:Int)),(8,.int .i64 (i:Int))]) (λi w'=>i<=ls.length/\Inv i w') (λi=>ls.length-i) 0 sB ⟨Nat.zero_le _,h0⟩ ?_;rintro i w1 ⟨hi,hI⟩;refine ρ ?_;refine ci (λD=>?_) (λD=>?_)
 .have B:i<ls.length:=by have:=oT D;omega
  clear D;obtain⟨A',c',_,ev,_,_,hr,_,he⟩:=id (hl i w1 hI).el;injection ev with ev1 _ ev3
  subst ev1;obtain⟨ce,_,U,a2⟩:=he i B;obtain⟨F1,f1,F2,f2,rfl,Z⟩:=U.sl;refine ρ ?_;refine ixq 3 i hr B ?_;refine ρ ?_;refine lds (λj u O=>a2 j u O) ?_;refine ρ ?_;refine alc Zy ?_;intro w2 b2 J a3 a6;refine ρ ?_;refine stb (cs':=[.bool ls[i].neg,.slice F1 _ f1,.slice F2 _ f2]) a6 ?_ (Js rfl rfl rfl);intro w3 a5 a8 G;have y:Ext w1 w3:=G w1 J a3;refine ρ ?_;refine lds (cs:=[.bool ls[i].neg,.slice F1 _ f1,.slice F2 _ f2]) (λj u O=>a5.at O) ?_;refine ρ ?_;refine clv (step i B w3 _ (hx i _ _ hI y) (Z.ext y)) ?_;rintro u w4 a4;refine ρ ?_;exact Jh (i+1) sO ⟨om,a4⟩ om
 have a1:i=ls.length:=by have:=oF D;omega
 subst a1;refine ρ ?_;exact Zo hI
theorem Jmk(hv:NatV w v n)(hn:n<=2147483648): Ret Tryz.prog 56 [v] w λr w'=>r=.tuple #[.int .i64 (n:Int),.int .i64 0]/\w'=w:=by
 refine Jz Tryz.func56 Tryz.ntmps56 rfl kr rfl ?_;refine ρ ?_;refine cl (Jvp hv om) ?_;rintro _ w1 ⟨rfl,rfl⟩;refine ρ ?_;refine cf ?_ ?_
 .simp;omega
 refine ρ ?_;rw[Zl (z:=(n:Int)) om];exact Qs ⟨rfl,rfl⟩
theorem Qbd(hx:NatX Nn w x n)(hy:NatX Nn w y m)(hn:n<4294967296)(hm:m<4294967296)(h0:0<m): Ret Tryz.prog 103 [x,y] w λr w'=>NatX Nn w' r (Nat.gcd n m)/\Ext w w':=by
 have U:∀ {k:Nat},k<4294967296->(Jj k).length<=1000:=fun {k} h=>by have:=Qk (n:=k) om;omega
 refine Jz Tryz.func103 Tryz.ntmps103 rfl kr rfl ?_;refine ρ ?_;refine Jqq (fun (a b:Nat) (D vb:Value)=>[(0,D),(1,vb)]) (λa b D vb w'=>Ext w w'/\NatX Nn w' D a/\NatX Nn w' vb b/\a<4294967296/\b<4294967296/\Nat.gcd a b=Nat.gcd n m) (λ_ b _ _=>b) n m x y sB ⟨Ext.refl _,hx,hy,hn,hm,rfl⟩ ?_;rintro a b D vb w1 ⟨u,Z,J,O,i,G⟩;refine ρ ?_;refine cl (Vm J.1 (U i)) ?_;rintro _ w2 ⟨rfl,rfl⟩;refine ρ ?_;refine ci (λh=>?_) (λh=>?_)
 .have B:b≠0:=by rintro rfl;revert h;decide
  clear h;refine ρ ?_;refine cl (Ks Z.1 J.1 (U O) om i) ?_;rintro _ w3 ⟨⟨q,r,rfl,hq,hr⟩,j⟩;refine ρ ?_;exact Uh b (a % b) _ _ sO ⟨u.trans j,J.ext j,hr.old λk hk=>hk.elim,i,Nat.lt_of_lt_of_le (Nat.mod_lt _ om) om,by rw[<-G,Nat.gcd_comm a b,Nat.gcd_rec b a];exact Nat.gcd_comm _ _⟩ (Nat.mod_lt _ om)
 have B:b=0:=by
  rcases Nat.eq_zero_or_pos b with h1|h1
  .exact h1
  have:=(Ua (x:=b) om).1;simp at h;omega
 subst B;rw[Nat.gcd_zero_right]at G;subst G;refine ρ ?_;exact Jq ⟨Z,u⟩
end Go.Proofs.YtebiphhfkdbpfaaGreatDoor
namespace Go.Wk
open Go.RowKit
variable {i:Nat}{x:Operand}{t:TypeId}{u v:Value}
section
variable {P:Program} {n:Nat} {al:AL} {w:World} {Q:Exit->Act->World->Prop} {ops:Array Oper} {rest:List Oper} {drest:List (Nat×Oper)} {d ty:Nat} {pos:String} {aft:Array Edge}
theorem fld(hb:∀ w,(Instr.field t v i).run P w=.ok u w)(kk:WL P n ops Q rest ((d,u)::al) w)(hx:ev al x=some v:=by rfl)(hd:Nat.blt d n=true:=by rfl):
  WL P n ops Q (⟨some d,.field t x i,ty,pos,aft,none⟩::rest) al w:=wop hd (λa j=>by simp[execOp,j.ev hx,hb]) kk
theorem dfld(hb:∀ w,(Instr.field t v i).run P w=.ok u w)(kk:WD P n ops Q drest ((d,u)::al) w)(hx:ev al x=some v:=by rfl)(hd:Nat.blt d n=true:=by rfl):
  WD P n ops Q ((0,⟨some d,.field t x i,ty,pos,aft,none⟩)::drest) al w:=dy (λw' _ a j=>by simp[execOp,j.ev hx,hb]) hd kk
end
end Go.Wk
namespace Go.Proofs.YtebiphhfkdbpfaaGreatDoor
open Go.RowKit Pl Go.Wk Bl
attribute [local irreducible] WC WL QX WD WDB WP WN WG WH
variable {ws:List PR}{d i sc:Nat}{P1 Q1 Q2 SA:Option Addr}{v vW vd vl:Value}{w:World}
theorem fldD(b:Bool)(A B:Option Addr)(m c m' c':Nat)(w:World): (Instr.field 58 (.agg #[.bool b,.slice A m c,.slice B m' c']) 2).run Tryz.prog w=.ok (.slice B m' c') w:=kr
theorem fldN(b:Bool)(A B:Option Addr)(m c m' c':Nat)(w:World): (Instr.field 58 (.agg #[.bool b,.slice A m c,.slice B m' c']) 1).run Tryz.prog w=.ok (.slice A m c) w:=kr
theorem Qdg{b:Bool}{P2 P3 m1 c1 m2 c2:Nat}{sizes:List Nat}(hW:GX 3 RtC Nn w vW ws)(hS:Rd w 1 SA sizes.length (Jl (nz sizes)))(hl:sizes.length=ws.length)(hn:∀ q∈ws,0<=q.sign/\q.num<18446744073709551616):
  Ret Tryz.prog 54 [.agg #[vW,.slice P1 P2 P3,.bool b,.slice Q1 m1 c1,.slice Q2 m2 c2],.slice SA sizes.length sc] w λu w'=>u=.int .i64 0/\Ext w w':=by
 obtain⟨W1,W2,_,rfl,_,a6,a4,_,a5⟩:=id hW.el;refine Jz Tryz.func54 Tryz.ntmps54 rfl kr rfl ?_;refine ρ ?_;refine bx (cs:=[.slice W1 ws.length W2,.slice P1 P2 P3,.bool b,.slice Q1 m1 c1,.slice Q2 m2 c2]) ?_;intro w1 b1 Z a8 O;refine ρ ?_;refine ld (O.at (i:=0) rfl) ?_;refine ρ ?_;refine cf ?_ ?_
 .simp;omega
 refine ρ ?_;refine Jp (fun (i:Nat)=>[(2,.pointer (some ⟨b1,0,none⟩)),(13,.slice SA sizes.length sc),(14,.int .i64 (sizes.length:Int)),(15,.int .i64 (i:Int))]) (λi w'=>i<=sizes.length/\Ext w1 w') (λi=>sizes.length-i) 0 sB ⟨Nat.zero_le _,Ext.refl _⟩ ?_;rintro i w2 ⟨hi,B⟩;have y:=Z.trans B;refine ρ ?_;refine ci (λhc=>?_) (λhc=>?_)
 .have J:i<sizes.length:=by have:=oT hc;omega
  clear hc;have D:i<ws.length:=om
  obtain⟨ce,_,a1,a3⟩:=a5 i D;obtain⟨F1,f1,F2,f2,rfl,a2⟩:=a1.sl;obtain⟨a7,G⟩:=hn _ (List.getElem_mem D);refine ρ ?_;refine ix i (hS.ext y) J ?_;refine ρ ?_;refine ld ((hS.ext y).cell (Xq J)) ?_;refine ρ ?_;refine kf 22 ?_ ?_
  .simp
  refine ρ ?_;refine ld ((O.ext B).at (i:=0) rfl) ?_;refine ρ ?_;refine ixq 3 i (a4.ext y) D ?_;refine ρ ?_;refine lds (λj u hu=>Xz y (a3 j u hu)) ?_;refine ρ ?_;refine cl (Ym (a2.ext y) (by have:=Qk G;omega)) ?_;rintro _ w3 ⟨rfl,U⟩;refine ρ ?_;refine cf ?_ ?_
  .simp;omega
  refine ρ ?_;exact Jh (i+1) sO ⟨om,B.trans U⟩ om
 refine ρ ?_;exact Jq ⟨rfl,y⟩
def dnK(ws:List PR)(i:Nat): Nat:=dnm (ws.take i)
theorem Qbb(hi:i<ws.length): dnK ws (i+1)=dnK ws i / Nat.gcd (dnK ws i) ws[i].norm.den*ws[i].norm.den:=by
 unfold dnK dnm;rw[List.take_add_one,List.getElem?_eq_getElem hi,Option.toList_some,List.foldl_append];rfl
theorem Qbq{b:Nat}{q:PR}{i:Int}(hB:Blk w b 40 [vd])(hd:NatX (λk=>k=b) w vd d)(hq:RtX Nn w v q)(hd1:d<4294967296)(hqn:q.num<18446744073709551616)(hqd:q.den<4294967296)(h0:0<q.norm.den)(hqd':q.norm.den<4294967296):
  Ret Tryz.prog 100 [.int .i64 i,v,.pointer (some ⟨b,0,none⟩)] w λu w'=>∃ vd',Blk w' b 40 [vd']/\NatX (λk=>k=b) w' vd' (d / Nat.gcd d q.norm.den*q.norm.den)/\GrN (λk=>k=b) w w':=by
 obtain⟨A1,c1,A2,c2,rfl,a8,a7⟩:=hq.sl;refine Jz Tryz.func100 Tryz.ntmps100 rfl kr rfl ?_;refine ρ ?_;refine bx ?_;intro w1 b1 U ah af;refine ρ ?_;refine lds (cs:=[.bool q.neg,.slice A1 _ c1,.slice A2 _ c2]) (λj u hu=>af.at hu) ?_;refine ρ ?_;refine cl (Xo (N:=Nn) (q:=q) ⟨_,_,rfl,a8.ext U,a7.ext U⟩ hqn hqd) ?_;rintro r w2 ⟨hr,a4⟩;have aa:=hB.lt;obtain⟨R1,r1,R2,r2,rfl,a5,Z⟩:=hr.sl;obtain⟨_,_,er,a5,Z⟩:=hr;cases er
 have a2:=U.trans a4;have ab:0<Nat.gcd d q.norm.den:=Nat.gcd_pos_of_pos_right _ h0;have hl:∀ {k:Nat},k<4294967296->(Jj k).length<=1000:=fun {k} h=>by have:=Qk (n:=k) om;omega
 refine ρ ?_;refine fld (fldD _ _ _ _ _ _ _) ?_;have J:Ext w2 w2.drew:=(Ext.refl w2).drew;have y:=a2.trans J;refine ρ ?_;refine dr [(0,0),(0,1),(0,2),(1,3),(1,4),(0,5),(0,6),(0,7),(0,8),(0,9),(0,10),(0,11)] kr ?_;refine ρd ?_;refine dld ((hB.ext y).at (i:=0) rfl) ?_;refine ρd ?_;refine dld ((hB.ext y).at (i:=0) rfl) ?_;refine ρd ?_;refine dcl (Qbd ((hd.ext y).old λk hk=>hk.elim) ((Z.ext J).old λk hk=>hk.elim) hd1 hqd' h0) ?_;rintro g w3 ⟨hg,D⟩;refine⟨D,?_⟩;refine ρd ?_;refine dcl (Ks ((hd.ext y).ext D).1 hg.1 (hl hd1) ab (nN (Nat.gcd_le_right _ h0) hqd')) ?_;rintro _ w4 ⟨⟨qv,rv,rfl,a6,ag⟩,O⟩;refine⟨O,?_⟩;refine ρd ?_;have B:=y.trans (D.trans O);refine ρ ?_;refine cl (Za a6.1 ((Z.ext J).ext (D.trans O)).1 (hl (nN (Nat.div_le_self _ _) hd1)) (hl hqd')) ?_;rintro mv w5 ⟨a3,ac,a1⟩;have a9:NatX (Ol w4) w5 mv (d / Nat.gcd d q.norm.den*q.norm.den):=⟨a3,λ_ ad m c e hk=>by have:=ac ad m c e;exact absurd (show ad.block<w4.heap.size from hk) om⟩
 obtain⟨M1,m1,rfl⟩:=a3.sl;refine ρ ?_;refine stF (i:=0) (hB.ext (B.trans a1)) rfl ?_;intro w6 ae hg6;have G:GrN (λk=>k=b) w5 w6:=GrN.by hg6 λk e=>by injection e with e;exact e.symm
 refine ρ ?_;exact Zo ⟨_,ae,(a9.old λk hk=>.inl (show k<w4.heap.size by rw[hk];exact nM aa B.size)).gr G,(GrN.ext (B.trans a1)).trans G⟩
theorem Qbp(hl:GX 3 RtC Nn w vl ws)(hd:∀ i,i<=ws.length->dnK ws i<4294967296)(hq:∀ q∈ws,q.num<18446744073709551616/\q.den<4294967296/\0<q.norm.den/\q.norm.den<4294967296):
  Ret Tryz.prog 55 [vl] w λu w'=>NatX Nn w' u (dnm ws)/\Ext w w':=by
 obtain⟨A,c,_,rfl,_,a8,_⟩:=id hl.el;refine Jz Tryz.func55 Tryz.ntmps55 rfl kr rfl ?_;refine ρ ?_;refine cl (Xb 1 (by decide) _) ?_;rintro o w1 ⟨ho,a1⟩;obtain⟨O1,o1,rfl⟩:=ho.1.sl;refine ρ ?_;refine alc (z:=.slice none 0 0) kr ?_;intro w2 b a4 D a7;refine ρ ?_;refine stF (i:=0) a7 rfl ?_;intro w3 a6 a5;have y:Ext w1 w3:=Jt a4 a5 λk e=>by injection e with e;rw[<-e];exact D
 have B:=a1.trans y;have a2:w.heap.size<=b:=nL a1.size D;refine ρ ?_;refine cl (Jcv (λi w'=>Ext w w'/\GX 3 RtC (λk=>k=b) w' (.slice A ws.length c) ws/\∃ J,Blk w' b 40 [J]/\NatX (λk=>k=b) w' J (dnK ws i)) (λi v v' ⟨Z,U,J,O,G⟩ hy=>⟨Z.trans hy,U.ext RtC.sta (by decide) hy,J,O.ext hy,G.ext hy⟩) (λi v ⟨Z,U,O⟩=>U.old RtC.sta (by decide) λk j=>j.elim) (λi hi v u ⟨Z,U,J,O,G⟩ hu=>?_) ⟨B,(hl.old RtC.sta (by decide) λk j=>.inr (by rw[j];exact a2)).ext RtC.sta (by decide) B,_,a6,?_⟩) ?_
 .obtain⟨e1,e2,e3,e4⟩:=hq _ (List.getElem_mem hi);refine(Qbq O G hu (hd i om) e1 e2 e3 e4).mono λr v' ⟨a3,g1,g2,g3⟩=>?_;rw[<-Qbb hi]at g2;exact⟨g3.old Z λk j=>by rw[j];exact a2,U.gr RtC.sta (by decide) g3,a3,g1,g2⟩
 .exact(ho.old λk j=>.inr (by rw[j];exact D)).ext y
 rintro u w4 ⟨Z,U,J,O,G⟩;have e5:dnK ws ws.length=dnm ws:=by unfold dnK;rw[List.take_length]
 rw[e5]at G;obtain⟨D1,d1,rfl⟩:=G.1.sl;refine ρ ?_;refine ld (O.at (i:=0) rfl) ?_;refine ρ ?_;exact Jq ⟨G.old λk j=>False.elim j,Z⟩
open Go.RowKit Pl Go.Wk Bl
variable {K a n:Nat}{u v:Value}{w:World}
theorem Vw(h:n<2^K)(hK:K<=30000): (Jj n).length<=1000:=by
 by_cases h0:n=0
 .subst h0;rw[limbs_0];decide
 have i:=Jzh h0;refine Nat.le_of_not_lt λj=>?_;have y:(4294967296:Nat)=2^32:=by decide
 rw[y,<-Nat.pow_mul]at i;have u:2^K<=2^(32*((Jj n).length-1)):=Nat.pow_le_pow_right (by decide) om;exact absurd (nM (nM h u) i) (Nat.lt_irrefl _)
theorem Jhv(h:n<2^K): Jk n<=K:=by
 by_cases h0:n=0
 .subst h0;exact Nat.zero_le _
 refine Nat.le_of_not_lt λi=>?_;have u:=(Ua h0).2;have j:2^K<=2^(Jk n-1):=Nat.pow_le_pow_right (by decide) om;exact absurd (nM (nM h j) u) (Nat.lt_irrefl _)
theorem Qfn: ∀ q:Nat,q<=400->(bits .and .i64 (q:Int) 1 == 1)=decide (q % 2=1):=by decide +kernel
theorem Qxc(hv:NatV w v a)(hn:n<=400)(ha:a<4294967296)(hb:a^n<2^K)(hK:K<=30000): Ret Tryz.prog 168 [v,.int .i64 (n:Int)] w λr w'=>(∃ u,r=.tuple #[u,.int .i64 0]/\NatX (Ol w) w' u (a^n))/\Ext w w':=by
 have la:(Jj a).length<=1000:=by have:=Qk (n:=a) om;omega
 refine Jz Tryz.func168 Tryz.ntmps168 rfl kr rfl ?_;refine ρ ?_;refine cl (Xe hv) ?_;rintro v' w' ⟨⟨A,rfl,hA⟩,rfl⟩;have Z:NatV w' (.slice A (Jj a).length (Jj a).length) a:=⟨A,_,rfl,Nat.le_refl _,om,hA⟩;refine ρ ?_;refine cl (Vm Z la) ?_;rintro _ w1 ⟨rfl,rfl⟩;refine ρ ?_;by_cases hn0:n=0
 .subst hn0;refine kt 17 ?_ ?_
  .rfl
  refine ρ ?_;refine cl (Xb 1 (by decide) _) ?_;rintro o w2 ⟨ho,y⟩;refine ρ ?_;exact Qs ⟨⟨_,rfl,by rw[Nat.pow_zero];exact ho⟩,y⟩
 refine kf 17 ?_ ?_
 .exact beq_eq_false_iff_ne.2 om
 refine ρ ?_;refine ci (λi=>?_) (λi=>?_)
 .have U:Jk a=1:=by have:=eq_of_beq i;omega
  have J:a=1:=by
   have h2:=Yy (x:=a);rw[U]at h2;have:a≠0:=by rintro rfl;revert U;decide
   omega
  subst J;refine ρ ?_;refine cl (Xb 1 (by decide) _) ?_;rintro o w2 ⟨ho,y⟩;refine ρ ?_;exact Qs ⟨⟨_,rfl,by rw[Nat.one_pow];exact ho⟩,y⟩
 have a8:Jk a≠1:=λe=>by rw[e]at i;revert i;decide
 clear i;refine ρ ?_;refine ci (λi=>?_) (λi=>?_)
 .have U:Jk a=0:=by have:=eq_of_beq i;omega
  have a5:a=0:=by
   have h2:=Yy (x:=a);rw[U]at h2;omega
  subst a5;refine ρ ?_;refine Qs ⟨⟨_,rfl,?_⟩,Ext.refl _⟩;rw[Nat.zero_pow om];exact⟨NatV.nil _,λh=>absurd rfl h⟩
 have a9:Jk a≠0:=λe=>by rw[e]at i;revert i;decide
 clear i;have ai:2<=a:=by
  have a5:a≠0:=by rintro rfl;exact a9 (by decide)
  have J:a≠1:=by rintro rfl;exact a8 (by decide)
  omega
 have ag:Jk a<=32:=Vp om;have ah:(Jk a-1)*n<65536:=nN (Nat.mul_le_mul (show Jk a-1<=31 by omega) hn) (by decide);refine ρ ?_;refine kf 26 ?_ ?_
 .exact dF om
 refine ρ ?_;refine kf 30 ?_ ?_
 .exact dF om
 refine ρ ?_;have a3:((Jk a:Int)-1)*(n:Int)=(((Jk a-1)*n:Nat):Int):=by
  rw[Int.natCast_mul,Int.natCast_sub om];rfl
 refine cf ?_ ?_
 .rw[a3,Zl om];exact dF om
 have J:0<a:=om
 have G:∀ k,k<=n->(Jj (a^k)).length<=1000:=λk hk=>Vw (nN (Nat.pow_le_pow_right J hk) hb) hK;refine ρ ?_;refine cl (Xb 1 (by decide) _) ?_;rintro o w2 ⟨ho,y⟩;refine ρ ?_;rw[Vo (z:=(n:Int)) om];refine cl (Jbq n om _) ?_;rintro _ w3 ⟨rfl,rfl⟩;have hL:Jk n<=9:=Vp om;refine ρ ?_;refine Qq (fun (t:Nat) (ov:Value)=>[(0,.slice A (Jj a).length (Jj a).length),(1,.int .i64 (n:Int)),(7,ov),(8,.int .i64 ((t:Int)-1))])
  (λt ov w'=>t<=9/\NatX (Ol w1) w' ov (a^(n / 2^t))/\Ext w1 w') (λt _=>t) (Jk n) o sB ⟨hL,by rw[Nat.div_eq_of_lt Yy];exact ho,y⟩ ?_
 rintro t ov w4 ⟨ht,B,j⟩;have a2:n / 2^t<=n:=Nat.div_le_self _ _;refine ρ ?_;refine ci (λi=>?_) (λi=>?_)
 .obtain⟨t,rfl⟩:∃ s,t=s+1:=⟨t-1,by have:=oT i;omega⟩;clear i;rw[show((t+1:Nat):Int)-1=(t:Int) by omega];have hd:n / 2^t=2*(n / 2^(t+1))+n / 2^t % 2:=by rw[Nat.pow_succ,<-Nat.div_div_eq_div_mul];omega
  have ac:n / 2^t<=n:=Nat.div_le_self _ _;refine ρ ?_;refine cl (Za B.1 B.1 (G _ a2) (G _ a2)) ?_;rintro o5 w5 ⟨O,ab,D⟩;have af:=j.size;rw[<-Nat.pow_add]at O;have a6:NatX (Ol w1) w5 o5 (a^(n / 2^(t+1)+n / 2^(t+1))):=⟨O,λ_ ad m c e hk=>by have:=ab ad m c e;exact absurd (show ad.block<w1.heap.size from hk) om⟩;refine ρ ?_;refine Vq rfl rfl om rfl ?_;have es:((n:Int)).fdiv (2^min ((t:Nat):Int).toNat IntKind.i64.bits)=((n / 2^t:Nat):Int):=by rw[Ky n t IntKind.i64.bits,Nat.min_eq_left (by show t<=64;omega)]
  refine Go.Wk.kv 51 (u:=.int .i64 ((n / 2^t:Nat):Int)) (congrArg (Value.int .i64) es) ?_;have a4:=Qfn (n / 2^t) om;refine ρ ?_;refine ci (λi=>?_) (λi=>?_)
  .have U:n / 2^t % 2=1:=by rw[a4]at i;exact oT i
   refine ρ ?_;refine cl (Za O (Z.ext (j.trans D)) (G _ om) la) ?_;rintro o6 w6 ⟨a1,aa,a7⟩;have ae:=D.size;rw[<-Nat.pow_succ,show(n / 2^(t+1)+n / 2^(t+1)).succ=n / 2^t by omega]at a1;refine ρ ?_;exact Ja t o6 sB ⟨om,⟨a1,λ_ ad m c e hk=>by have:=aa ad m c e;exact absurd (show ad.block<w1.heap.size from hk) om⟩,(j.trans D).trans a7⟩ om
  have U:n / 2^t % 2=0:=by
   rw[a4]at i;have:=oF i;omega
  rw[show n / 2^(t+1)+n / 2^(t+1)=n / 2^t by omega]at a6;refine ρ ?_;exact Ja t o5 sB ⟨om,a6,j.trans D⟩ om
 have h0:t=0:=by have:=oF i;omega
 clear i;subst h0;rw[Nat.pow_zero,Nat.div_one]at B;refine ρ ?_;refine cl (Vm B.1 (G n (Nat.le_refl _))) ?_;rintro _ w5 ⟨rfl,rfl⟩;have hl:Jk (a^n)<=K:=Jhv hb;refine ρ ?_;refine cf ?_ ?_
 .exact dF om
 refine ρ ?_;exact Qs ⟨⟨_,rfl,B⟩,j⟩
theorem Qxb(hv:NatV w v a)(hu:NatV w u n)(hn:n<=400)(ha:a<4294967296)(hb:a^n<2^K)(hK:K<=30000): Ret Tryz.prog 109 [v,u] w λr w'=>(∃ u,r=.tuple #[u,.int .i64 0]/\NatX (Ol w) w' u (a^n))/\Ext w w':=by
 refine Jz Tryz.func109 Tryz.ntmps109 rfl kr rfl ?_;refine ρ ?_;refine cl (Jmk hu om) ?_;rintro _ w1 ⟨rfl,rfl⟩;refine ρ ?_;refine cl (Qxc hv hn ha hb hK) ?_;rintro _ w2 ⟨⟨r,rfl,j⟩,i⟩;refine ρ ?_;exact Qs ⟨⟨_,rfl,j⟩,i⟩
open Go.RowKit Pl Go.Wk Bl
variable {sizes:List Nat}{ws:List PR}{K d i sc:Nat}{SA:Option Addr}{v vd vl vr:Value}{w:World}
def Yo(q:PR)(d:Nat): Nat:=(PR.norm (PR.mul q (PR.norm ⟨false,d,0⟩))).num
def prK(ws:List PR)(sizes:List Nat)(d i:Nat): Nat:=Yx (ws.take i) (sizes.take i) d
theorem Qqz(hi:i<ws.length)(hs:i<sizes.length): prK ws sizes d (i+1)=prK ws sizes d i*sizes[i]^Yo ws[i] d:=by
 unfold prK Yx;rw[List.take_add_one,List.take_add_one,List.getElem?_eq_getElem hi,List.getElem?_eq_getElem hs,Option.toList_some,Option.toList_some,List.zip_append (by simp;omega),List.foldl_append];rfl
structure EOk(q:PR)(d:Nat): Prop where
 d64:d<18446744073709551616
 h1:q.num<4294967296
 h2:q.den<4294967296
 h3:(PR.norm ⟨false,d,0⟩).num<4294967296
 h4:(PR.norm ⟨false,d,0⟩).den<4294967296
 h5:q.norm.den*(PR.norm ⟨false,d,0⟩).norm.den<4294967296
 m1:(PR.mul q (PR.norm ⟨false,d,0⟩)).num<18446744073709551616
 m2:(PR.mul q (PR.norm ⟨false,d,0⟩)).den<4294967296
 e:Yo q d<=400
structure PrOk(ws:List PR)(sizes:List Nat)(d K:Nat): Prop where
 k:K<=30000
 len:sizes.length=ws.length
 q:∀ q∈ws,EOk q d
 s:∀ s∈sizes,s<4294967296
 p:∀ i,i<=ws.length->prK ws sizes d i<2^K
 f:∀ i (h1:i<ws.length) (h2:i<sizes.length),sizes[i]^Yo ws[i] d<2^K
theorem Qqv{b1 b2 b3 b4 r:Nat}{q:PR}(hF:Blk w b1 43 [.int .i64 0])(hD:Blk w b2 40 [vd])(hS:Blk w b3 22 [.slice SA sizes.length sc])(hR:Blk w b4 40 [vr])(hd:NatX (λk=>k=b4) w vd d)(hr:NatX (λk=>k=b4) w vr r)(hs:Rd w 1 SA sizes.length (Jl (nz sizes)))(hq:RtX Nn w v q)(hi:i<sizes.length)(he:EOk q d)(hs32:sizes[i]<4294967296)(hrK:r<2^K)(hfK:sizes[i]^Yo q d<2^K)(hK:K<=30000):
  Ret Tryz.prog 106 [.int .i64 (i:Int),v,.pointer (some ⟨b1,0,none⟩),.pointer (some ⟨b2,0,none⟩),.pointer (some ⟨b3,0,none⟩),.pointer (some ⟨b4,0,none⟩)] w λu w'=>∃ vr',Blk w' b4 40 [vr']/\NatX (λk=>k=b4) w' vr' (r*sizes[i]^Yo q d)/\GrN (λk=>k=b4) w w':=by
 obtain⟨A1,c1,A2,c2,rfl,ab,aa⟩:=hq.sl;refine Jz Tryz.func106 Tryz.ntmps106 rfl kr rfl ?_;refine ρ ?_;refine bx ?_;intro w1 bq a3 ao ak;refine ρ ?_;refine ld ((hF.ext a3).at (i:=0) rfl) ?_;have O:Ext w1 w1.drew:=(Ext.refl w1).drew;have y:=a3.trans O;have ah:=hR.lt;have a5:NatX Nn w vd d:=hd.old λk hk=>False.elim hk;obtain⟨D1,d1,rfl⟩:=a5.1.sl;refine ρ ?_;refine dr [(0,0),(0,1),(1,2),(1,3),(1,4),(0,5),(0,6)] kr ?_;refine ρd ?_;refine Qw (cs:=[.bool q.neg,.slice A1 (Jj q.num).length c1,.slice A2 (Jj q.den).length c2]) (λj u hu=>(ak.ext O).at hu) ?_;refine ρd ?_;refine dld ((hD.ext y).at (i:=0) rfl) ?_;refine ρd ?_;refine dcl (Qqg (a5.ext y).1 he.d64) ?_;rintro x1 w2 ⟨a7,G⟩;refine⟨G,?_⟩;obtain⟨B1,e1,B2,e2,rfl,au,ar⟩:=a7.sl;refine ρd ?_;refine dcl (Jwx (N:=Nn) (p:=q) ⟨_,_,rfl,(ab.ext y).ext G,(aa.ext y).ext G⟩ a7 he.h1 he.h2 he.h3 he.h4 he.h5) ?_
 rintro x2 w3 ⟨a6,a2⟩;refine⟨a2,?_⟩;obtain⟨C1,f1,C2,f2,rfl,aq,ap⟩:=a6.sl;refine ρd ?_;refine dcl (Xo a6 he.m1 he.m2) ?_;rintro x3 w4 ⟨ai,a1⟩;refine⟨a1,?_⟩;obtain⟨E1,g1,E2,g2,rfl,aj,av⟩:=ai.sl;refine ρd ?_;refine dfld (fldN _ _ _ _ _ _ _) ?_;refine ρd ?_;have D:=y.trans (G.trans (a2.trans a1));refine ρ ?_;refine ld ((hS.ext D).at (i:=0) rfl) ?_;refine ρ ?_;refine ix i (hs.ext D) hi ?_;refine ρ ?_;refine ld ((hs.ext D).cell (Xq hi)) ?_;have an:sizes.getD i 0=sizes[i]:=by simp[List.getD,List.getElem?_eq_getElem hi]
 rw[an];refine ρ ?_;rw[Vo (z:=(sizes[i]:Int)) om];refine cl (Xb sizes[i] om _) ?_;rintro sv w5 ⟨a9,Z⟩;refine ρ ?_;refine cl (Qxb a9.1 (aj.ext Z).1 he.e hs32 hfK hK) ?_;rintro _ w6 ⟨⟨pv,rfl,ac⟩,a8⟩;have B:=D.trans (Z.trans a8);refine ρ ?_;refine ld ((hR.ext B).at (i:=0) rfl) ?_;refine ρ ?_;refine cl (Za (hr.ext B).1 ac.1 (Vw hrK hK) (Vw hfK hK)) ?_;rintro mv w7 ⟨a4,ag,U⟩;have ae:NatX (Ol w6) w7 mv (r*sizes[i]^Yo q d):=⟨a4,λ_ ad m c e hk=>by have:=ag ad m c e;exact absurd (show ad.block<w6.heap.size from hk) om⟩;obtain⟨M1,m1,rfl⟩:=a4.sl;refine ρ ?_;refine stF (i:=0) (hR.ext (B.trans U)) rfl ?_;intro w8 am af;have J:GrN (λk=>k=b4) w7 w8:=GrN.by af λk e=>by injection e with e;exact e.symm
 refine ρ ?_;exact Zo ⟨_,am,(ae.old λk hk=>.inl (show k<w6.heap.size by rw[hk];exact nM ah B.size)).gr J,(GrN.ext (B.trans U)).trans J⟩
theorem Qqs(hl:GX 3 RtC Nn w vl ws)(hd:NatX Nn w vd d)(hs:Rd w 1 SA sizes.length (Jl (nz sizes)))(ho:PrOk ws sizes d K):
  Ret Tryz.prog 57 [vl,.slice SA sizes.length sc,vd] w λu w'=>(∃ v,u=.tuple #[v,.int .i64 0]/\NatX Nn w' v (Yx ws sizes d))/\Ext w w':=by
 obtain⟨A,c,_,rfl,_,ai,_⟩:=id hl.el;obtain⟨D1,d1,rfl⟩:=hd.1.sl;refine Jz Tryz.func57 Tryz.ntmps57 rfl kr rfl ?_;refine ρ ?_;refine bx (cs:=[.slice SA sizes.length sc]) ?_;intro w1 b4 a5 ap af;refine ρ ?_;refine bx (cs:=[.slice D1 _ d1]) ?_;intro w2 b5 Z ao ae;refine ρ ?_;refine cl (Xb 1 (by decide) _) ?_;rintro o w3 ⟨a8,D⟩;obtain⟨O1,o1,rfl⟩:=a8.1.sl;refine ρ ?_;refine alc (z:=.slice none 0 0) kr ?_;intro w4 b8 a3 ag ad;refine ρ ?_;refine alc (z:=.int .i64 0) kr ?_;intro w5 b9 a2 an ah;have aj:=ad.lt;have am:=af.lt;have ak:=ae.lt;have z2:=Z.size;have z3:=D.size;have z4:=a3.size;have z1:=a5.size;refine ρ ?_;refine stF (i:=0) (ad.ext a2) rfl ?_;intro w6 ac hg6;have U:GrN (λk=>k=b8) w5 w6:=GrN.by hg6 λk e=>by injection e with e;exact e.symm
 have aa:=Ql ah U om;refine ρ ?_;refine stF (i:=0) aa rfl ?_;intro w7 a9 hg7;have O:GrN (λk=>k=b9) w6 w7:=GrN.by hg7 λk e=>by injection e with e;exact e.symm
 have ab:=Ql ac O om;have a4:Ext w3 w6:=U.old (a3.trans a2) λk e=>by omega
 have j:Ext w3 w7:=O.old a4 λk e=>by omega
 have a6:=a5.trans (Z.trans D);have y:=a6.trans j;have a1:w.heap.size<=b8:=om
 have a7:NatX (λk=>k=b8) w7 (.slice O1 (Jj 1).length o1) 1:=(a8.old λk B=>.inr (by rw[B];exact ag)).ext j;refine ρ ?_;refine cl (Jcv (λi w'=>Ext w w'/\GX 3 RtC (λk=>k=b8) w' (.slice A ws.length c) ws/\Blk w' b9 43 [.int .i64 0]/\Blk w' b5 40 [.slice D1 (Jj d).length d1]/\Blk w' b4 22 [.slice SA sizes.length sc]/\NatX (λk=>k=b8) w' (.slice D1 (Jj d).length d1) d/\∃ vr,Blk w' b8 40 [vr]/\NatX (λk=>k=b8) w' vr (prK ws sizes d i)) (λi v v' ⟨h1,h2,h3,h4,h5,h6,vr,h7,h8⟩ J=>⟨h1.trans J,h2.ext RtC.sta (by decide) J,h3.ext J,h4.ext J,h5.ext J,h6.ext J,vr,h7.ext J,h8.ext J⟩) (λi v ⟨h1,h2,h3⟩=>h2.old RtC.sta (by decide) λk B=>False.elim B) (λi hi v u ⟨h1,h2,h3,h4,h5,h6,vr,h7,h8⟩ hu=>?_)
  ⟨y,(hl.old RtC.sta (by decide) λk B=>.inr (by rw[B];exact a1)).ext RtC.sta (by decide) y,a9,(ae.ext D).ext j,((af.ext Z).ext D).ext j,(hd.old λk B=>.inr (by rw[B];exact a1)).ext y,_,ab,a7⟩) ?_
 .have G:i<sizes.length:=by rw[ho.len];exact hi
  refine(Qqv h3 h4 h5 h7 h6 h8 (hs.ext h1) hu G (ho.q _ (List.getElem_mem hi)) (ho.s _ (List.getElem_mem G)) (ho.p i om) (ho.f i hi G) ho.k).mono λr v' ⟨vr',g1,g2,g3⟩=>?_;rw[<-Qqz hi G]at g2;exact⟨g3.old h1 λk B=>by rw[B];exact a1,h2.gr RtC.sta (by decide) g3,Ql h3 g3 om,Ql h4 g3 om,Ql h5 g3 om,h6.gr g3,vr',g1,g2⟩
 rintro u w8 ⟨h1,h2,h3,h4,h5,h6,vr,h7,h8⟩;have e5:prK ws sizes d ws.length=Yx ws sizes d:=by unfold prK;rw[List.take_length,<-ho.len,List.take_length]
 rw[e5]at h8;obtain⟨V1,v1,rfl⟩:=h8.1.sl;refine ρ ?_;refine ld (h3.at (i:=0) rfl) ?_;refine ρ ?_;refine ld (h7.at (i:=0) rfl) ?_;refine ρ ?_;exact Qs ⟨⟨_,rfl,h8.old λk B=>False.elim B⟩,h1⟩
end Go.Proofs.YtebiphhfkdbpfaaGreatDoor
