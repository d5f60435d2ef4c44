/- Part 37. -/
import Derived.Test.YtebcagekopgdhaaGreatDoorB36
set_option linter.unusedVariables false
set_option maxRecDepth 100000
set_option maxHeartbeats 40000000
namespace Go.Wk
open Go.RowKit Maps
theorem dmlo{P:Program}{n:Nat}{al:AL}{w:World}{Q:Exit->Act->World->Prop}{ops:Array Oper}{drest:List (Nat×Oper)}{d ty:Nat}{pos:String}{aft:Array Edge}{tt:TT}[hT:Tab P tt]{t k e b m:Nat}{kd:TK}{f:Lit->Option Value}{x y:Operand}{key z:Value}{kl:Lit}(K:Keyed P k)(hM:MapS P k w b m f)(hz:Qt P e=some z)(hkey:keyOf P k key=some kl)(kk:WD P n ops Q drest ((d,.tuple #[(f kl).getD z,.bool (f kl).isSome])::al) w)(ht:tk tt t=some kd:=by rfl)(hk:kd.desc=.map k e:=by rfl)(hx:ev al x=some (.map (some b)):=by rfl)(hy:ev al y=some key:=by rfl)(hd:Nat.blt d n=true:=by rfl):
  WD P n ops Q ((0,⟨some d,.lookup t x y true,ty,pos,aft,none⟩)::drest) al w :=
 dy (λw' u a o=>by
  have:=((hM.ext u).look K (Vw hT.ok ht hk rfl) (Jbr hz w') hkey).1;simp [execOp,o.ev hx,o.ev hy,this]) hd kk
end Go.Wk
namespace Go.Proofs.YtebcagekopgdhaaGreatDoor
open Go.RowKit Pl Go.Wk
attribute [local irreducible] WC WL QX WD WDB WP WN WG
def trK(bs:List BkT)(k:Row): Tr:=match bs.find? λb=>decide (b.1=k) with
 | some b=>b.2
 | none=>.nil
theorem Jyz(bs:List BkT)(k:Row): (trK bs k).toL=entK bs k:=by
 unfold trK entK;cases bs.find? λb=>decide (b.1=k)<;>rfl
theorem Jsj: ∀ {bs:List BkT} {k:Row} {i:Nat},Vf bs k=some i->∃ b,bs[i]?=some b/\trK bs k=b.2/\b∈bs
 | [],_,_,h=>by simp [Vf]at h
 | b::bs,k,i,h=>by
  unfold Vf at h;rw [List.findIdx?_cons]at h;by_cases e:b.1=k
  .simp only [e,decide_true,if_true,Option.some.injEq]at h;subst h;exact ⟨b,rfl,by simp [trK,e],List.mem_cons_self⟩
  .simp only [e,decide_false]at h;obtain ⟨j,hj,rfl⟩:=Option.map_eq_some_iff.1 h;obtain ⟨b',h1,h2,h3⟩:=Jsj (bs:=bs) (k:=k) hj;exact ⟨b',by simpa using h1,by rw [<-h2];simp [trK,e],List.mem_cons_of_mem _ h3⟩
theorem Jsk{bs:List BkT}{k:Row}(h:Vf bs k=none): trK bs k=.nil:=by
 unfold Vf at h;rw [List.findIdx?_eq_none_iff]at h;have:bs.find? (λb=>decide (b.1=k))=none:=List.find?_eq_none.2 λb u o=>by
  rw [h b u]at o;cases o
 unfold trK;rw [this]
theorem Qql{s u:Nat}(h:s<2^u): ∀ k,u<=k->bk s k=bk s u
 | 0,hk=>by (have:u=0:=by omega);(rw [this])
 | k+1,hk=>by
  by_cases e:u=k+1
  .rw [e]
  .rw [Uy,Qql h k om];have:s.testBit k=false:=Nat.testBit_lt_two_pow (nM h (Nat.pow_le_pow_right (by decide) om));rw [this];simp
theorem Jkf(v:V)(w:World): (Instr.buildSlice 37 1 #[(0,v.val)]).run Tryz.prog w=.ok (.slice (some ⟨w.heap.size,0,none⟩) 1 1) (w.alloc (.cells v.cells.toArray 47)):=kr
section
variable {w:World} {x:Value} {f:Nat} {ds:List Bool} {kf:Nat->Nat} {pf:Nat->Int} {BB:Nat->List BkT} {tot:Nat}
theorem Jrx(h:IxV w x f ds kf pf BB tot): Ret Tryz.prog 69 [x] w λu w'=>u=.int .i64 (f:Int)/\Ext w w':=by
 obtain ⟨DA,dc,BA,cb,KA,ck,PA,cp,tv,O,J,rfl,U,Z,hD,hB,hK,hP,C,hv⟩:=h.ex;obtain ⟨TA,tc,rfl,_⟩:=id C;refine Jz Tryz.func69 Tryz.ntmps69 rfl kr rfl ?_;refine ρ ?_;refine bx ?_;intro w1 b o hb G;refine ρ ?_;refine ld (G.at (i:=0) rfl) ?_;refine ρ ?_;exact Jj ⟨rfl,o⟩
theorem Jrv(h:IxV w x f ds kf pf BB tot){v:Nat}(hv:v<f): Ret Tryz.prog 115 [x,.int .i64 (v:Int)] w λu w'=>u=.bool true/\Ext w w':=by
 obtain ⟨DA,dc,BA,cb,KA,ck,PA,cp,tv,O,J,rfl,Z,a1,hD,hB,hK,hP,C,U⟩:=h.ex;obtain ⟨TA,tc,rfl,_⟩:=id C;refine Jz Tryz.func115 Tryz.ntmps115 rfl kr rfl ?_;refine ρ ?_;refine bx ?_;intro w1 b o hb G;refine ρ ?_;refine kt 7 ?_ ?_
 .exact decide_eq_true om
 refine ρ ?_;refine ld (G.at (i:=0) rfl) ?_;refine ρ ?_;refine Jj ⟨?_,o⟩;rw [decide_eq_true om]
theorem Qfw(h:IxV w x f ds kf pf BB tot)(hn:Nb tot): Ret Tryz.prog 19 [x] w λu w'=>NatV w' u tot/\Fresh w u/\Ext w w':=by
 obtain ⟨DA,dc,BA,cb,KA,ck,PA,cp,tv,Z,U,rfl,a1,a2,hD,hB,hK,hP,C,hv⟩:=h.ex;obtain ⟨TA,tc,rfl,_⟩:=id C;refine Jz Tryz.func19 Tryz.ntmps19 rfl kr rfl ?_;refine ρ ?_;refine bx ?_;intro w1 b o hb O;refine ρ ?_;refine ld (O.at (i:=4) rfl) ?_;refine ρ ?_;refine cl (Jcr (C.ext o) hn.len) ?_;rintro u w2 ⟨h2,J,G⟩;refine ρ ?_;exact Jj ⟨h2,λad m c e=>nL o.size (J ad m c e),o.trans G⟩
theorem Jrz(h:IxV w x f ds kf pf BB tot): Ret Tryz.prog 109 [x] w λu w'=>(∃ A c,u=.slice A f c/\f<=c/\Rd w' 3 A f (Qf f (Qb kf pf))/\∀ ad,A=some ad->w.heap.size<=ad.block)/\Ext w w':=by
 obtain ⟨DA,dc,BA,cb,KA,ck,PA,cp,tv,a2,a1,rfl,a3,a4,hD,hB,hK,hP,G,hv⟩:=h.ex;obtain ⟨TA,tc,rfl,_⟩:=id G;have a5:=h.f32;refine Jz Tryz.func109 Tryz.ntmps109 rfl kr rfl ?_;refine ρ ?_;refine bx ?_;intro w1 b o hb Z;refine ρ ?_;refine ld (Z.at (i:=1) rfl) ?_;refine ρ ?_;refine cl (Qjp (hB.ext o) (Jsv _ _ _) om) ?_;rintro _ w2 ⟨⟨A2,c2,rfl,O,U,J⟩,C⟩;refine ρ ?_;exact Jj ⟨⟨A2,c2,rfl,O,U,λad e=>nL o.size (J ad e)⟩,o.trans C⟩
theorem zIntv: Qt Tryz.prog 3=some (.int .i64 0):=kr
theorem Qnd(w:World): (Instr.build 138 #[]).run Tryz.prog w=.ok (.agg #[.bool false,.pointer none]) w:=kr
theorem Jdm{B0:Nat}{w0:World}(hTB:TB B0 w)(h0:Ext w0 w)(h:IxV w0 x f ds kf pf BB tot){v:Nat}(hv:v<f){A:Option Addr}{c:Nat}{k:Row}(hk:RdR w A k)(hfit:FitR k):
  Ret Tryz.prog 111 [x,.int .i64 (v:Int),.slice A k.length c] w λu w'=>∃ d p,u=.tuple #[.agg #[.bool d,.pointer p],.bool (Vf (BB v) k).isSome]/\TrV (λ_=>False) w0 (trK (BB v) k) (.pointer p)/\((Vf (BB v) k).isSome=true->d=ds.getD v false)/\Ext w w':=by
 obtain ⟨DA,dc,BA,cb,KA,ck,PA,cp,tv,a3,a9,rfl,b7,b8,hD,hB,hK,hP,ao,an⟩:=id h.ex;obtain ⟨TA,tc,rfl,_⟩:=id ao;obtain ⟨av,mb,m,fm,ay,hm,⟨hM,_⟩,au⟩:=an v hv;have aq:a9[v]?=some (.map (some mb)):=by
  have:=hP.len;rw [<-ay];simp [List.getD,List.getElem?_eq_getElem (show v<a9.length by omega)]
 have ad:a3[v]?=some (a3.getD v (.slice none 0 0)):=by
  have:=hK.len;simp [List.getD,List.getElem?_eq_getElem (show v<a3.length by omega)]
 refine Jz Tryz.func111 Tryz.ntmps111 rfl kr rfl ?_;refine ρ ?_;refine bx ?_;intro w1 b Z hb ah;refine ρ ?_;refine alc Yj ?_;intro w2 b6 U ae aw;refine ρ ?_;refine ldW (ah.ext U) ?_;refine ρ ?_;refine cl (Jrv (h.ext (h0.trans (Z.trans U))) hv) ?_;rintro _ w3 ⟨rfl,a6⟩;have ac:=(Z.trans U).trans a6;have a4:Ext w3 w3.drew:=(Ext.refl w3).drew;have C:=ac.trans a4;have a1:=h0.trans C;have ai:=((ah.ext U).ext a6).ext a4;refine ρ ?_;refine dr [(0,0),(0,1),(0,2),(0,3),(0,4),(0,5),(1,6),(0,7),(0,8),(0,9),(0,10),(0,11),(0,12)] kr ?_;refine ρd ?_;refine dld (ai.at (i:=3) rfl) ?_;refine ρd ?_;refine dix v (hP.ext a1) hv ?_;refine ρd ?_;refine dld ((hP.ext a1).cell aq) ?_;refine ρd ?_;refine dcl (Jqs (r:=k) (hTB.ext C) (hk.ext C) (λu hu=>(hfit.2 u hu).1) (by have:=hfit.len;omega) (by have:=hfit.1;omega)) ?_;rintro _ w4 ⟨rfl,O⟩;refine ⟨O,?_⟩;have G:=C.trans O
 have o:=h0.trans G;refine ρd ?_;refine dmlo KS (hM.ext o) zIntv (Ua hfit) ?_;rw [au];have a2:=((aw.ext a6).ext a4).ext O;cases hix:Vf (BB v) k with
 | none=>
  refine ρd ?_;refine ρ ?_;refine bld (Qnd _) ?_;refine ρ ?_;refine stW a2 ?_;intro w5 J ar a5;refine ρ ?_;refine Zh J ⟨false,none,rfl,?_,(λh=>by cases h),a5 w G (nL Z.size ae)⟩;rw [Jsk hix];rfl
 | some i=>
  obtain ⟨bt,a8,ap,b9⟩:=Jsj hix;obtain ⟨ps,GA,gc,aj,b1,b5,b2,ag,ba,af⟩:=av;have li:i<ps.length:=by have:=(List.getElem?_eq_some_iff.1 a8).1;rw [aj,List.length_map]at this;exact this
  obtain ⟨z,hz⟩:∃ z,z=ps[i]:=⟨_,rfl⟩;have ak:z∈ps:=by rw [hz];exact List.getElem_mem li
  have am:z.2=bt:=by
   rw [aj,List.getElem?_map,List.getElem?_eq_getElem li,<-hz]at a8;simpa using a8
  obtain ⟨b4,kv,zq,ax,b3,aa⟩:=af z ak;obtain ⟨zp,rfl⟩:=aa.ptr;have a7:∀ j u,([.bool (ds.getD v false),.pointer zp]:List Value)[j]?=some u->w4.cell? (((adr GA (i*3)).add 1).add j)=some u:=λj u hu=>by
   have hj:j<2:=(List.getElem?_eq_some_iff.1 hu).1;rw [Xb,Xb,Nat.add_assoc];refine (ag.ext o).cell ?_;rw [Kg (p:=z) (λp hp=>(af p hp).1) (by rw [hz];exact List.getElem?_eq_getElem li) om,ax,Nat.add_comm];exact hu
  rw [b1]at ad;refine ρd ?_;refine ρ ?_;refine ld ((ai.ext O).at (i:=2) rfl) ?_;refine ρ ?_;refine ix v (hK.ext o) hv ?_;refine ρ ?_;refine ld ((hK.ext o).cell ad) ?_;refine ρ ?_;refine ixq 3 i (ag.ext o) li ?_;refine ρ ?_;refine lds (cs:=[.bool (ds.getD v false),.pointer zp]) a7 ?_;refine ρ ?_;refine stW a2 ?_;intro w5 J ar a5;have ab:=a5 w G (nL Z.size ae);refine ρ ?_;refine Zh J ⟨_,zp,rfl,?_,λ_=>rfl,ab⟩;rw [ap,<-am];exact aa
theorem Jrw(h:IxV w x f ds kf pf BB tot){v:Nat}(hv:v<f){A:Option Addr}{c:Nat}{y:Row}(hy:RdR w A y)(hyc:y.length<=c)(hyl:y.length<=32)(hk:kf v<2^y.length):
  Ret Tryz.prog 112 [x,.int .i64 (v:Int),.slice A y.length c] w λu w'=>RowX w' (λk=>k<w.heap.size) u (pmR (bk (kf v) 32) y)/\Ext w w':=by
 obtain ⟨DA,dc,BA,cb,KA,ck,PA,cp,tv,aq,ap,rfl,av,aw,hD,hB,hK,hP,ae,ar⟩:=id h.ex;obtain ⟨TA,tc,rfl,_⟩:=id ae;have U:kf v<4294967296:=nM hk (Jjv hyl);have ao:Ju (kf v)<=y.length:=Jqp hk;have o:∀ {w'} (hx:Ext w w') j u,(Qb kf pf v)[j]?=some u->w'.cell? ((adr BA (v*3)).add j)=some u:=λhx j u hu=>by
  have hj:j<3:=by
   rcases Nat.lt_or_ge j 3 with h'|h'
   .exact h'
   .rw [List.getElem?_eq_none (by simp [Qb];omega)]at hu;cases hu
  rw [Xb];exact (hB.ext hx).cell ((Ip (sz:=3) (λ_ _=>rfl) hv hj).trans hu)
 refine Jz Tryz.func112 Tryz.ntmps112 rfl kr rfl ?_;refine ρ ?_;refine bx ?_;intro w1 b a7 hb aa;refine ρ ?_;refine ldW aa ?_;refine ρ ?_;refine cl (Jrv (h.ext a7) hv) ?_;rintro _ w2 ⟨rfl,a6⟩;have G:=a7.trans a6;have a4:=aa.ext a6;refine ρ ?_;refine ld (a4.at (i:=1) rfl) ?_;refine ρ ?_;refine ixq 3 v (hB.ext G) hv ?_;refine ρ ?_;refine ld (o G 1 _ rfl) ?_;refine ρ ?_;refine cl (Jrs (kf v) U w2) ?_;rintro _ ac ⟨rfl,e2⟩;rw [e2];clear e2 ac;refine ρ ?_;refine cf ?_ ?_
 .exact dF om
 refine ρ ?_;refine bsl Ir ?_;intro w3 b3 a2 ak an;have Z:=G.trans a2;have a9:=a4.ext a2;refine ρ ?_;refine ld (a9.at (i:=1) rfl) ?_;refine ρ ?_;refine ixq 3 v (hB.ext Z) hv ?_;refine ρ ?_;refine ld (o Z 1 _ rfl) ?_;refine ρ ?_;refine cl (Jrs (kf v) U w3) ?_;rintro _ ab ⟨rfl,e3⟩;rw [e3];clear e3 ab;refine ρ ?_;refine Jt (fun (u:Nat) (vk:Value)=>[(1,.int .i64 (v:Int)),(2,.slice A y.length c),(3,.pointer (some ⟨b,0,none⟩)),(7,vk),(32,.int .i64 (Ju (kf v):Int)),(33,.int .i64 (u:Int))])
  (λu vk w'=>u<=Ju (kf v)/\Ext w2 w'/\w'.ownsRow w2.heap.size 47 3 vk (bk (kf v) u).length (Jl (pmR (bk (kf v) u) y))) (λu _=>Ju (kf v)-u) 0 (.slice (some ⟨b3,0,none⟩) 0 0) sB
  ⟨Nat.zero_le _,a2,an.own (n:=0) ak rfl (Nat.zero_le _)⟩ ?_
 rintro u vk w4 ⟨hu,C,O⟩;have J:=G.trans C;have a8:=a4.ext C;refine ρ ?_;refine ci (λh=>?_) (λh=>?_)
 .have lu:u<Ju (kf v):=by have:=oT h;omega
  clear h;refine ρ ?_;refine ld (a8.at (i:=1) rfl) ?_;refine ρ ?_;refine ixq 3 v (hB.ext J) hv ?_;refine ρ ?_;refine ld (o J 1 _ rfl) ?_;refine ρ ?_;refine Kz (s:=kf v) (v:=u) om ?_;refine ρ ?_;rw [Ub U];refine ci (λh=>?_) (λh=>?_)
  .have a5:=hy.ext J;refine ρ ?_;refine ixq 3 u a5 om ?_;refine ρ ?_;refine lds (cs:=(y.getD u V0).cells) (λj u' a3=>RdR.cell a5 om a3) ?_;refine ρ ?_;refine bsl (Jkf (y.getD u V0)) ?_;intro w5 b5 a1 b2 am;obtain ⟨A3,c3,rfl,ax,ah⟩:=Jv O;have ay:=Vu (kf v) u;refine ρ ?_;refine apb (m':=1) (news:=(y.getD u V0).cells) EV (Jk O a1) (am.rd (n:=1) rfl) (V.one _) (by unfold maxLen;omega) om (C.trans a1).size ?_;intro v6 w6 af ag au;have e:bk (kf v) (u+1)=bk (kf v) u++[u]:=by rw [Uy,h];simp
   refine ρ ?_;refine Jg (u+1) v6 sO ⟨lu,Qv (C.trans a1) ag (λg eg=>(ah g eg).1),?_⟩ om;have e2:pmR (bk (kf v) (u+1)) y=pmR (bk (kf v) u) y++[y.getD u V0]:=by rw [e];simp [pmR]
   rw [e2,e,List.length_append,List.length_singleton,rowC_app'];have e3:Jl [y.getD u V0]=(y.getD u V0).cells:=by simp [Jl]
   rw [e3];exact af
  .have e:bk (kf v) (u+1)=bk (kf v) u:=by rw [Uy,h];simp
   refine ρ ?_;refine Jg (u+1) vk sO ⟨lu,C,by rw [e];exact O⟩ om
 .have a3:u=Ju (kf v):=by have:=oF h;omega
  clear h;have e:bk (kf v) u=bk (kf v) 32:=(Qql (a3 ▸ Jdf) 32 om).symm;rw [e]at O;obtain ⟨A2,c2,rfl,aj,ai⟩:=Jv O;have b1:=Vu (kf v) 32;refine ρ ?_;refine Jj ⟨⟨A2,c2,by rw [Qh],by rw [Qh];exact aj,by rw [Qh];omega,by unfold RdR;rw [Qh];exact Rd.own O,λ_ ad e=>?_⟩,J⟩;have:=(ai ad.block (by rw [e];simp [Value.ownBlock])).1;have:=G.size;omega
end
end Go.Proofs.YtebcagekopgdhaaGreatDoor
namespace Go.Wk
open Go.RowKit
open Go.Maps (Keyed)
def RgS(P:Program)(k:TypeId)(w:World)(b r n:Nat)(f:Lit->Option Value)(left:Lit->Bool)(cnt:Nat): Prop :=
 ∃ D:DV,w.ranges P k RT b r n D left cnt/\(∀ kl,Maps.has D kl=(f kl).isSome)/\∀ kl zd,D.atKey kl zd=(match f kl with|some v=>.held v|none=>zd)
section
variable {P:Program} {k:TypeId} {w w':World} {b r n cnt:Nat} {f:Lit->Option Value} {left:Lit->Bool}
theorem RgS.gr{N:Nat->Prop}(h:RgS P k w b r n f left cnt)(hg:GrN N w w')(hb:¬ N b)(hr:¬ N r): RgS P k w' b r n f left cnt:=by
 obtain ⟨D,O,h2⟩:=h;have J:=O.owns.lt;have G:=O.lt;obtain ⟨es,u,o,C,c0,e1,F,U,Z,e2,rest⟩:=O;exact ⟨D,⟨es,u,o,C,c0,(hg.block b J hb).trans e1,F,U,Z,(hg.block r G hr).trans e2,rest⟩,h2⟩
theorem RgS.ext(h:RgS P k w b r n f left cnt)(hx:Ext w w'): RgS P k w' b r n f left cnt:=h.gr (N:=λ_=>False) (GrN.ext hx) (λe=>e) (λe=>e)
theorem RgS.lt(h:RgS P k w b r n f left cnt): r<w.heap.size:=by obtain ⟨D,o,_⟩:=h;exact o.lt
end
section
variable {P:Program} {n:Nat} {al:AL} {w:World} {Q:Exit->Act->World->Prop} {ops:Array Oper} {rest:List Oper}
variable {d ty:Nat} {pos:String} {aft:Array Edge} {tt:TT}
theorem rngm[hT:Tab P tt]{t k e b m:Nat}{kd:TK}{f:Lit->Option Value}{x:Operand}(K:Keyed P k)(hM:MapS P k w b m f)(kk:∀ w1 r cnt,Ext w w1->w.heap.size<=r->RgS P k w1 b r m f (λkl=>(f kl).isSome) cnt->WL P n ops Q rest ((d,.pointer (some ⟨r,0,none⟩))::al) w1)(ht:tk tt t=some kd:=by rfl)(hk:kd.desc=.map k e:=by rfl)(hx:ev al x=some (.map (some b)):=by rfl)(hd:Nat.blt d n=true:=by rfl):
  WL P n ops Q (⟨some d,.range t x,ty,pos,aft,none⟩::rest) al w:=by
 obtain ⟨D,U,G,O⟩:=hM;obtain ⟨w',o,C,u,_⟩:=U.range K (Vw hT.ok ht hk rfl);have Z:Maps.has D=λkl=>(f kl).isSome:=funext G;rw [Z]at C;refine wop hd (λa J=>?_) (kk w' w.heap.size _ ⟨u.os,u.tape,u.output,u.size,λi hi=>u.block i hi (by simp)⟩ (Nat.le_refl _) ⟨D,C,G,O⟩);simp [execOp,J.ev hx,o]
theorem nxtm{k b r m cnt : Nat}{f : Lit → Option Value}{left : Lit → Bool}{x : Operand}(K : Keyed P k)(h : RgS P k w b r m f left cnt)(kd : (∀ kl, left kl = false) → WL P n ops Q rest ((d, .tuple #[.bool false]) :: al) w)(km : ∀ (key v : Value) (kl : Lit) (w1 : World) (cnt' : Nat), keyOf P k key = some kl → left kl = true → f kl = some v → RgS P k w1 b r m f (fun z => left z && !z.sameKey kl) cnt' → cnt' < cnt → GrN (fun i => i = r) w w1 →
      (Instr.entry (.pointer (some ⟨r, 0, none⟩))).run P w1 = .ok (.tuple #[key, v]) w1 → WL P n ops Q rest ((d, .tuple #[.bool true, key, v]) :: al) w1)(hx : ev al x = some (.pointer (some ⟨r, 0, none⟩)) := by rfl)(hd : Nat.blt d n = true := by rfl): WL P n ops Q (⟨some d, .next x false, ty, pos, aft, none⟩ :: rest) al w := by
  obtain ⟨D, h1, h2, h3⟩ := h
  rcases h1.next K ty with ⟨h0, hl, hrun⟩ | ⟨key, v, kl, y, w', cnt', hkey, hlk, hv, hat, hrun, hrg, hlt, hgr, hsz, hen⟩
  . exact wop hd (fun a ha => by simp [execOp, ha.ev hx, hrun]) (kd hl)
  . have hy : y = (.held v, []) := by simpa [RT] using hv.symm
    have hf : f kl = some v := by
      have e1 := hat (.map [])
      rw [h3, hy] at e1
      cases hfk : f kl with
      | none => rw [hfk] at e1; cases e1
      | some u => rw [hfk] at e1; injection e1 with e1; rw [e1]
    exact wop hd (fun a ha => by simp [execOp, ha.ev hx, hrun]) (km key v kl w' cnt' hkey hlk hf ⟨D, hrg, h2, h3⟩ hlt (GrN.by hgr fun i hi => by injection hi with hi; exact hi.symm) hen)
theorem entm{r:Nat}{key v:Value}{x:Operand}(hen:(Instr.entry (.pointer (some ⟨r,0,none⟩))).run P w=.ok (.tuple #[key,v]) w)(kk:WL P n ops Q rest ((d,.tuple #[key,v])::al) w)(hx:ev al x=some (.pointer (some ⟨r,0,none⟩)):=by rfl)(hd:Nat.blt d n=true:=by rfl): WL P n ops Q (⟨some d,.entry x,ty,pos,aft,none⟩::rest) al w :=
 wop hd (λa o=>by simp [execOp,o.ev hx,hen]) kk
end
end Go.Wk
namespace Go.Proofs.YtebcagekopgdhaaGreatDoor
namespace Pl
section
variable {α:Type} {X:AX α}
def AX.Gp(X:AX α)(y:List α): Prop:=∀ v,v<y.length->y.getD v X.d0∈(X.E v (X.key v (y.take v))).map (·.1)
theorem AX.Gp.nil: X.Gp []:=λv h=>by simp at h
theorem AX.Gp.snoc{y:List α}(h:X.Gp y){a:α}(ha:a∈(X.E y.length (X.key y.length y)).map (·.1)): X.Gp (y++[a]):=λv o=>by
 rw [List.length_append,List.length_singleton]at o;by_cases e:v=y.length
 .subst e;rw [List.take_left];have:(y++[a]).getD y.length X.d0=a:=by simp [List.getD]
  rw [this];exact ha
 .rw [Jzp om,List.take_append_of_le_length om];exact h v om
theorem getD_take(d0:α){y:List α}{v m:Nat}(h:v<m): (y.take m).getD v d0=y.getD v d0:=by simp [List.getD,h]
theorem AX.Gp.pre{y:List α}(h:X.Gp y)(m:Nat): X.Gp (y.take m):=λv o=>by
 rw [List.length_take]at o;rw [getD_take X.d0 om,List.take_take,Nat.min_eq_left om];exact h v om
theorem Jlz(d0:α){y:List α}{n:Nat}(h:y.length=n+1): y=y.take n++[y.getD n d0]:=by
 have e:y.getD n d0=y[n]:=by simp [List.getD,List.getElem?_eq_getElem (show n<y.length by omega)]
 rw [e,<-List.take_succ_eq_append_getElem,List.take_of_length_le om]
theorem Qwd{l:List (α×Nat)}{p:α×Nat}(h:p∈l): p.2<=tot l:=by
 induction l with
 | nil=>cases h
 | cons q l ih=>
  rw [tot];rcases List.mem_cons.1 h with rfl|h
  .omega
  .have:=ih h;omega
theorem AX.Ok.pend_snoc(h:X.Ok){y:List α}(hm:y.length<X.F){a:α}(ha:a∈(X.E y.length (X.key y.length y)).map (·.1)): X.pend (y.length+1) (y++[a])<=X.pend y.length y:=by
 obtain ⟨p,o,rfl⟩:=List.mem_map.1 ha;rw [h.pend_next hm o,h.pend_split hm];exact nO _ (Qwd o)
theorem AX.Ok.pend_le(h:X.Ok): ∀ (n:Nat) (y:List α),y.length=n->n<=X.F->X.Gp y->X.pend n y<=X.pend 0 []
 | 0,y,e,_,_=>by rw [List.eq_nil_of_length_eq_zero e];exact Nat.le_refl _
 | n+1,y,e,hF,hg=>by
  have h1:=Jlz X.d0 e;have hl:(y.take n).length=n:=by rw [List.length_take];omega
  have h2:=h.pend_le n (y.take n) hl om (hg.pre n);have h3:=h.pend_snoc (y:=y.take n) (a:=y.getD n X.d0) om (by rw [hl];exact hg n om);rw [hl,<-h1]at h3;exact nL h3 h2
theorem AX.Ok.others_le(h:X.Ok){y:List α}(hm:y.length<X.F)(hp:0<X.pend y.length y): 0<X.others y.length y/\X.others y.length y<=X.pend y.length y:=by
 rw [h.pend_split hm]at hp ⊢;have u:=Nat.pos_of_mul_pos_right hp;have o:=Nat.pos_of_mul_pos_left hp;refine ⟨by first|exact u|exact o,?_⟩;have:0<X.T y.length y:=by first|exact u|exact o
 calc X.others y.length y=1*X.others y.length y:=(Nat.one_mul _).symm
  _<=_:=nO _ this
def AX.prodS(X:AX α)(S:Nat->Bool)(y:List α): Nat:=Jc X.F λc=>if S c=true then X.T c y else 1
end
section
variable {X:IX} {ds:List Bool}
theorem AX.gp_iff{y x:Row}{n:Nat}(hx:x∈X.ext n y){m:Nat}(hm:m<=y.length+n)(hg:X.Gp y): X.Gp (x.take m):=by
 obtain ⟨G,C,u⟩:=(AX.ext_mem n y x).1 hx;intro v o;rw [List.length_take]at o;rw [getD_take X.d0 om,List.take_take,Nat.min_eq_left om];rcases Nat.lt_or_ge v y.length with h4|h4
 .have:=hg v h4;rw [<-C]at this;rw [getD_take X.d0 h4,List.take_take,Nat.min_eq_left om]at this;exact this
 .exact u v h4 om
theorem AX.ext_gp{x:Row}(hx:x∈X.ext X.F [])(m:Nat): X.Gp (x.take m):=by
 have o:=((AX.ext_mem X.F [] x).1 hx).1;rw [List.length_nil,Nat.zero_add]at o;rcases Nat.lt_or_ge X.F m with h|h
 .rw [List.take_of_length_le om];have:=AX.gp_iff (m:=X.F) hx (by simp) AX.Gp.nil;rw [List.take_of_length_le om]at this;exact this
 .exact AX.gp_iff hx (by simp;omega) AX.Gp.nil
theorem AX.Srt.within(h:X.Srt ds){y:Row}(hy:y.length<=X.F)(hg:X.Gp y): (X.ext X.F []).filter (λx=>decide (x.take y.length=y))=X.ext (X.F-y.length) y:=by
 refine Jjq ((h.ext X.F [] (by simp)).filter _) (h.ext _ y om) λx=>?_;rw [List.mem_filter,AX.ext_mem,AX.ext_mem,decide_eq_true_eq];simp only [List.length_nil,Nat.zero_add,List.take_zero,true_and,Nat.zero_le,true_implies];constructor
 .rintro ⟨⟨G,u⟩,C⟩;exact ⟨om,C,λv o O=>u v om⟩
 .rintro ⟨G,u,C⟩;refine ⟨⟨om,λv J=>?_⟩,u⟩;rcases Nat.lt_or_ge v y.length with o|o
  .have:=hg v o;rw [<-u]at this;rw [getD_take X.d0 om,List.take_take,Nat.min_eq_left om]at this;exact this
  .exact C v o om
theorem AX.within_none{y:Row}(hg:¬ X.Gp y): (X.ext X.F []).filter (λx=>decide (x.take y.length=y))=[]:=by
 rw [List.filter_eq_nil_iff];intro x o h;rw [decide_eq_true_eq]at h;exact hg (h ▸ AX.ext_gp o y.length)
end
end Pl
open Pl Go.Wk
def Xm(f:Nat)(kf:Nat->Nat)(pf:Nat->Int)(BB:Nat->List BkT): IX:=⟨V0,f,λv=>bk (kf v) 32,pf,λv k=>entK (BB v) k⟩
structure IxP(f:Nat)(ds:List Bool)(kf:Nat->Nat)(pf:Nat->Int)(BB:Nat->List BkT)(tot:Nat)(L:List Row): Prop where
 len:tot=L.length
 nil:tot=0->∀ v,BB v=[]
 ok:tot≠0->(Xm f kf pf BB).Ok
 srt:tot≠0->(Xm f kf pf BB).Srt ds
 ans:tot≠0->L=(Xm f kf pf BB).ext f []
 big:∀ v k,(trK (BB v) k).sum<=4294967296^20
 siz:∀ v k,(trK (BB v) k).sz<=65536
 fit:∀ v b,b∈BB v->∀ p∈b.2.toL,Va p.1/\p.1.bytes.length<=24
 f32:f<=32
 k32:∀ v,v<f->kf v<4294967296
section
variable {f:Nat} {ds:List Bool} {kf:Nat->Nat} {pf:Nat->Int} {BB:Nat->List BkT} {tot:Nat} {L:List Row}
theorem Qxb(c:Nat)(y:Row): (Xm f kf pf BB).T c y=(trK (BB c) (pmR (bk (kf c) 32) y)).sum:=by
 rw [Tr.sum_eq,Jyz];rfl
theorem Qxc(c:Nat)(k:Row): (Xm f kf pf BB).E c k=(trK (BB c) k).toL:=by rw [Jyz];rfl
theorem IxP.one(h:IxP f ds kf pf BB tot L)(v:Nat)(k:Row)(p:V×Nat)(hp:p∈(trK (BB v) k).toL): Va p.1/\p.1.bytes.length<=24:=by
 unfold trK at hp;cases hf:(BB v).find? λb=>decide (b.1=k) with
 | none=>rw [hf]at hp;cases hp
 | some b=>rw [hf]at hp;exact h.fit v b (List.mem_of_find?_eq_some hf) p hp
theorem IxP.gp(h:IxP f ds kf pf BB tot L){y:Row}(hg:(Xm f kf pf BB).Gp y): ∀ u∈y,Va u/\u.bytes.length<=24:=λu o=>by
 obtain ⟨i,hi,rfl⟩:=List.getElem_of_mem o;have:=hg i hi;rw [Qxc]at this;obtain ⟨p,C,e⟩:=List.mem_map.1 this;have G:y.getD i (Xm f kf pf BB).d0=y[i]:=by simp [List.getD,hi]
 rw [G]at e;rw [<-e];exact h.one _ _ p C
theorem fit0: Va V0/\V0.bytes.length<=24:=⟨⟨⟨by decide,by decide⟩,⟨by decide,by decide⟩⟩,by decide⟩
theorem IxP.fitK(h:IxP f ds kf pf BB tot L){y:Row}(hg:(Xm f kf pf BB).Gp y)(c:Nat): FitR (pmR (bk (kf c) 32) y):=by
 refine ⟨by rw [Qh];exact Vu _ _,λv o=>?_⟩;obtain ⟨i,_,rfl⟩:=List.mem_map.1 o;simp only [List.getD];cases hi:y[i]? with
 | none=>exact fit0
 | some u=>exact h.gp hg u (List.mem_of_getElem? hi)
theorem IxP.pend0(h:IxP f ds kf pf BB tot L)(h0:tot≠0): (Xm f kf pf BB).pend 0 []=tot:=by
 have:=(h.ok h0).ext_len f [] (by simp;rfl);rw [<-h.ans h0,<-h.len]at this;exact this.symm
theorem IxP.keyb(h:IxP f ds kf pf BB tot L)(h0:tot≠0){c:Nat}(hc:c<f){m:Nat}(hp:pf c<(m:Int)): kf c<2^m:=by
 refine Nat.lt_pow_two_of_testBit _ λi hi=>?_;cases hb:(kf c).testBit i with
 | false=>rfl
 | true=>
  have o:i<32:=by
   rcases Nat.lt_or_ge i 32 with h'|h'
   .exact h'
   .rw [Nat.testBit_lt_two_pow (nM (h.k32 c hc) (Nat.pow_le_pow_right (n:=2) (by decide) h'))]at hb;cases hb
  have:(i:Int)<=pf c:=(h.ok h0).kl c hc i (bk_mem.2 ⟨o,hb⟩);omega
theorem IxP.par(h:IxP f ds kf pf BB tot L)(h0:tot≠0){c:Nat}(hc:c<f): -1<=pf c/\pf c<(c:Int):=(h.ok h0).pl c hc
end
end Go.Proofs.YtebcagekopgdhaaGreatDoor
