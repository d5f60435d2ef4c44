/- Part 32 of the proof: Ix, Ix2, Ix3. -/
import Derived.Test.YtefpailelagbkaaGreatDoorJ31
set_option linter.unusedVariables false
set_option maxRecDepth 100000
set_option maxHeartbeats 40000000
namespace Go.Wk
open Maps
theorem dmlk{P:Program}{n:Nat}{al:AL}{w:World}{Q:Exit->Act->World->Prop}{ops:Array Oper}{drest:List (Nat×Oper)}{d ty:Nat}{pos:String}{aft:Array Edge}{tt:TT}[hT:Tab P tt]{t k e b m:Nat}{kd:TK}{f:Lit->Option Value}{x y:Operand}{key z:Value}{kl:Lit}(K:Keyed P k)(hM:MapS P k w b m f)(hz:Jxc P e=some z)(hkey:keyOf P k key=some kl)(kk:WD P n ops Q drest ((d,(f kl).getD z)::al) w)(ht:tk tt t=some kd:=by rfl)(hk:kd.desc=.map k e:=by rfl)(hx:ev al x=some (.map (some b)):=by rfl)(hy:ev al y=some key:=by rfl)(hd:Nat.blt d n=true:=by rfl):
  WD P n ops Q ((0,⟨some d,.lookup t x y false,ty,pos,aft,none⟩)::drest) al w :=
 dy (λw' hw a ha=>by
  have:=((hM.ext hw).look K (Jcr hT.ok ht hk rfl) (Jlp hz w') hkey).2;simp [execOp,ha.ev hx,ha.ev hy,this]) hd kk
end Go.Wk
namespace Go.Proofs.YtefpailelagbkaaGreatDoor
open Go.RowKit Pl Go.Wk
attribute [local irreducible] WC WL QX WD WDB WP WN WG
theorem Jws{w w':World}(hx:Ext w w'){p:Addr}{u:Value}(h:w.cell? p=some u): w'.cell? p=some u:=by
 have hlt:p.block<w.heap.size:=by
  rcases Nat.lt_or_ge p.block w.heap.size with h1|h1
  ·exact h1
  ·unfold World.cell? at h;rw [Array.getElem?_eq_none h1]at h;simp at h
 rw [hx.cell hlt];exact h
theorem KS: Maps.Keyed Tryz.prog 9:=Maps.string_keyed Tryz.underlying9
def FitR(r:Row): Prop:=r.length<=32/\∀ v∈r,Qwc v/\v.bytes.length<=24
theorem FitR.len{r:Row}(h:FitR r): (idn r).length<=2880:=by have:=Qmb h.2;have:=h.1;omega
theorem FitR.pm{r:Row}{cs:List Nat}(h:FitR r)(hc:∀ c∈cs,c<r.length)(hl:cs.length<=32): FitR (pmR cs r) :=
 ⟨by rw [Jqx];exact hl,λv hv=>by
  obtain ⟨c,h1,rfl⟩:=List.mem_map.1 hv;exact h.2 _ (getD_mem' V0 r (hc c h1))⟩
theorem Jck{r:Row}(h:FitR r): keyOf Tryz.prog 9 (.string (str (idn r)))=some (.string (idn r)) :=
 WideMaps.keyOf_string_mk Tryz.underlying9 (by have:=h.len;show (idn r).toArray.size<=maxLen;rw [List.size_toArray];unfold maxLen;omega)
def ChG(w:World)(cs:List Value)(p:Nat×List Nat): Prop:=∃ A c,cs=[.int .i64 (p.1:Int),.slice A p.2.length c]/\p.2.length<=c/\p.2.length<=32/\Rd w 1 A p.2.length (Jzw (nz p.2))
def DnV(AR:Nat->Prop)(T:Row->Nat)(w:World)(x:Value): Prop:=∃ mb m fm,x=.map (some mb)/\m<=1000000/\(MapS Tryz.prog 9 w mb m fm/\¬ AR mb)/\(∀ k:Row,fm (.string (idn k))=if 0<T k then some (.bool true) else none)/\∀ kl,fm kl≠none->∃ k:Row,kl=.string (idn k)
def DnT(AR:Nat->Prop)(T:Row->Nat)(w:World)(x:Value): Prop:=∃ mb m fm,x=.map (some mb)/\m<=1000000/\(MapS Tryz.prog 9 w mb m fm/\¬ AR mb)/\∀ k:Row,(fm (.string (idn k))=none/\T k=0)∨∃ y,fm (.string (idn k))=some y/\0<T k/\NatX AR w y (T k)
theorem DnV.gr{AR:Nat->Prop}{T:Row->Nat}{w w':World}{x:Value}(h:DnV AR T w x)(hg:GrN AR w w'): DnV AR T w' x:=by
 obtain ⟨mb,m,fm,h1,h2,⟨h3,h4⟩,h5⟩:=h;exact ⟨mb,m,fm,h1,h2,⟨h3.gr hg h4,h4⟩,h5⟩
theorem DnT.gr{AR:Nat->Prop}{T:Row->Nat}{w w':World}{x:Value}(h:DnT AR T w x)(hg:GrN AR w w'): DnT AR T w' x:=by
 obtain ⟨mb,m,fm,h1,h2,⟨h3,h4⟩,h5⟩:=h;refine ⟨mb,m,fm,h1,h2,⟨h3.gr hg h4,h4⟩,λk=>?_⟩;rcases h5 k with h6|⟨y,h6,h7,h8⟩
 ·exact .inl h6
 ·exact .inr ⟨y,h6,h7,h8.gr hg⟩
def wtL(T:Nat->Row->Nat)(x:Row): List (Nat×List Nat)->Nat
 | []=>1
 | p::l=>T p.1 (pmR p.2 x)*wtL T x l
theorem Jhz(T:Nat->Row->Nat)(x:Row): ∀ l m,wtL T x (l++m)=wtL T x l*wtL T x m
 | [],m=>by rw [List.nil_append,wtL,Nat.one_mul]
 | p::l,m=>by rw [List.cons_append,wtL,wtL,Jhz T x l m,Nat.mul_assoc]
theorem Qpr{T:Nat->Row->Nat}{x:Row}{l:List (Nat×List Nat)}{p:Nat×List Nat}(hp:p∈l)(h0:T p.1 (pmR p.2 x)=0): wtL T x l=0:=by
 obtain ⟨a,b,rfl⟩:=List.append_of_mem hp;rw [Jhz,wtL,h0,Nat.zero_mul,Nat.mul_zero]
theorem Qfz{T:Nat->Row->Nat}{x:Row}: ∀ {l:List (Nat×List Nat)},(∀ p∈l,T p.1 (pmR p.2 x)<=4294967296^20)->wtL T x l<=(4294967296^20)^l.length
 | [],_=>by simp [wtL]
 | p::l,h=>by
  rw [wtL,List.length_cons,Nat.pow_succ,Nat.mul_comm];exact Nat.mul_le_mul (Qfz λq hq=>h q (List.mem_cons_of_mem _ hq)) (h p List.mem_cons_self)
theorem Nb.pow{n k:Nat}(h:n<=(4294967296^20)^k)(hk:k<=32): Nb n:=by
 refine Nat.lt_of_le_of_lt h ?_;rw [<-Nat.pow_mul];exact Nat.pow_lt_pow_right (by decide) (by rw [Xkv];omega)
theorem Xwx: Jxc Tryz.prog 239=some (.agg #[.int .i64 0,.slice none 0 0]):=by kernel_rfl
theorem Qqn{a:Int}{A:Option Addr}{n c:Nat}: ∀ u∈[Value.int .i64 a,.slice A n c],u.oneCell'=true:=λu hu=>by
 simp only [List.mem_cons,List.not_mem_nil,or_false]at hu;rcases hu with rfl|rfl<;>rfl
theorem Jzf(n:Nat)(h:n<18446744073709551616)(w:World): Ret Tryz.prog 18 [.int .u64 (n:Int)] w λv w'=>NatV w' v n/\Fresh w v/\Ext w w':=by
 refine Jjb Tryz.func18 Tryz.ntmps18 rfl (by kernel_rfl) rfl ?_;refine ρ ?_;refine Qfp rfl rfl (by decide) rfl ?_;refine ρ ?_;refine bsl (bsN _ _) ?_;intro w1 b hx1 hb1 hk1;rw [Jld,Xvq]at hk1;have hr:Rd w1 1 (some ⟨b,0,none⟩) 2 (Nc [UInt32.ofNat n,UInt32.ofNat (n / 4294967296)]):=hk1.rd rfl;refine ρ ?_;refine cl (Jvw (l:=[UInt32.ofNat n,UInt32.ofNat (n / 4294967296)]) (c:=2) hr (Nat.le_refl _) (by simp)) ?_;rintro v w2 ⟨rfl,rfl⟩;have:=Jfp hr (by simp);rw [Qgh n h]at this ⊢;refine ρ ?_;exact Jjq ⟨this,λad _ _ e=>by injection e with e;injection e with e;subst e;exact hb1,hx1⟩
theorem Jpp{B0:Nat}{AR:Nat->Prop}{T:Nat->Row->Nat}{w:World}{b f:Nat}{cs:List Value}{VA TA:Option Addr}{n cv ct:Nat}{va ta:List Value}{vch vx:Value}{chs:List (Nat×List Nat)}{x:Row}(hTB:TB B0 w)(hB:Blk w b 158 cs)(c1:cs[1]?=some (.int .i64 (f:Int)))(c7:cs[7]?=some (.slice VA n cv))(c8:cs[8]?=some (.slice TA n ct))(hV:Rd w 1 VA n va)(hTa:Rd w 1 TA n ta)(hch:GV 2 ChG w vch chs)(hlen:chs.length<=32)(hn:∀ p∈chs,p.1<n/\∀ c∈p.2,c<x.length)(hx:RowV w vx x)(hfit:FitR x)(hdv:∀ p∈chs,f<=p.1->DnV AR (T p.1) w (va.getD p.1 (.map none)))(hdt:∀ p∈chs,p.1<f->DnT AR (T p.1) w (ta.getD p.1 (.map none)))(hT1:∀ p∈chs,f<=p.1->∀ k,T p.1 k<=1)(hTb:∀ p∈chs,∀ k,T p.1 k<=4294967296^20):
  Ret Tryz.prog 127 [.pointer (some ⟨b,0,none⟩),vch,vx] w λu w'=>NatV w' u (wtL T x chs)/\Fresh w u/\Ext w w':=by
 obtain ⟨A,c,cc,rfl,hc1,hc2,hcR,hce⟩:=hch.parts;refine Jjb Tryz.func127 Tryz.ntmps127 rfl (by kernel_rfl) rfl ?_;refine ρ ?_;refine cl (Jzf 1 (by decide) _) ?_;rintro vp w1 ⟨hp1,hf1,hx1⟩;refine ρ ?_;refine Jjv (fun (i:Nat) (vp:Value)=>[(0,.pointer (some ⟨b,0,none⟩)),(2,vx),(7,vp),(12,.slice A chs.length c),(13,.int .i64 (chs.length:Int)),(14,.int .i64 (i:Int))])
  (λi vp w'=>i<=chs.length/\Ext w w'/\NatV w' vp (wtL T x (chs.take i))/\Fresh w vp) (λi _=>chs.length-i) 0 vp sB
  ⟨Nat.zero_le _,hx1,by rw [List.take_zero];exact hp1,hf1⟩ ?_
 rintro i vp w2 ⟨hi,hx2,hp2,hf2⟩;refine ρ ?_;refine ci (λh=>?_) (λh=>?_)
 ·have li:i<chs.length:=by have:=of_decide_eq_true h;omega
  clear h;obtain ⟨ce,hcl,⟨CA,cC,rfl,hcC,hcC2,hCR⟩,hcell⟩:=hce i li;have hmem:chs[i]∈chs:=List.getElem_mem li;have hpk:wtL T x (chs.take (i+1))=wtL T x (chs.take i)*T chs[i].1 (pmR chs[i].2 x):=by
   rw [List.take_succ_eq_append_getElem li,Jhz,wtL,wtL,Nat.mul_one]
  have hle:wtL T x (chs.take i)<=(4294967296^20)^i:=by
   have:=Qfz (T:=T) (x:=x) (l:=chs.take i) λp hp=>hTb p (List.mem_of_mem_take hp) _;rw [List.length_take,Nat.min_eq_left hi]at this;exact this
  have hnb:Nb (wtL T x (chs.take i)):=Nb.pow hle (by omega);have hTq:Nb (T chs[i].1 (pmR chs[i].2 x)):=Nb.pow (k:=1) (by rw [Nat.pow_one];exact hTb _ hmem _) (by omega);generalize hq:chs[i]=q at *
  obtain ⟨ch,cols⟩:=q;simp only at hcC hcC2 hCR hcell hpk hTq;have hn1:=hn _ hmem;simp only at hn1;refine ρ ?_;refine ixq 2 i (hcR.ext hx2) li ?_;refine ρ ?_;have hcell2:∀ j u,([.int .i64 (ch:Int),.slice CA cols.length cC]:List Value)[j]?=some u->w2.cell? ((adr A (i*2)).add j)=some u:=λj u hu=>Jws hx2 (hcell j u hu);refine lds (cs:=[.int .i64 (ch:Int),.slice CA cols.length cC]) hcell2 ?_;refine ρ ?_;refine alc (cs:=[.int .i64 0,.slice none 0 0]) Xwx ?_;intro w3 bc hx3 hbc hBc;refine ρ ?_;refine stb (cs':=[.int .i64 (ch:Int),.slice CA cols.length cC]) hBc ?_ Qqn;intro w4 hBc4 hg4 hx4;have hx24:Ext w2 w4:=hx4 w2 hx3 hbc;have hx04:=hx2.trans hx24;refine ρ ?_;refine ld (hBc4.at (i:=1) rfl) ?_;refine ρ ?_;refine cl (Qyc (cs:=cols) (hx.ext hx04) (hCR.ext hx04) hn1.2 (by omega)) ?_;rintro vk w5 ⟨hk5,hx5⟩;have hx05:=hx04.trans hx5;have hfk:FitR (pmR cols x):=hfit.pm hn1.2 hcC2;obtain ⟨KA,kc,rfl,hkc,hkm,hkR⟩:=id hk5
  refine ρ ?_;refine cl (Jzp (r:=pmR cols x) (hTB.ext hx05) hkR (λv hv=>(hfk.2 v hv).1) (by have:=hfk.len;omega) (by have:=hfk.1;omega)) ?_;rintro u w6 ⟨rfl,hx6⟩;have hx06:=hx05.trans hx6;have hxd:Ext w6 w6.drew:=(Ext.refl w6).drew;have hBcd:=((hBc4.ext hx5).ext hx6).ext hxd;have hBd:=hB.ext (hx06.trans hxd);refine ρ ?_;refine dr [(0,0),(0,1),(0,2),(0,3),(0,4),(0,5),(0,6),(0,7)] (by kernel_rfl) ?_;refine ρd ?_;refine dld (hBcd.at (i:=0) rfl) ?_;refine ρd ?_;refine dld (hBd.at (i:=1) c1) ?_;refine ρd ?_;refine ρ ?_;have hxd2:Ext w6 w6.drew.drew:=hxd.drew;have hx0e:=hx06.trans hxd2;refine ci (λh=>?_) (λh=>?_)
  ·have lf:ch<f:=by have:=of_decide_eq_true h;omega
   obtain ⟨mb,m,fm,e1,e2,⟨e3,e4⟩,e5⟩:=hdt _ hmem lf;simp only at e1 e5;have hta:ta[ch]?=some (.map (some mb)):=by
    rw [<-e1];have hl:=hTa.1;simp [List.getD,List.getElem?_eq_getElem (show ch<ta.length by omega)]
   refine ρ ?_;refine dr [(0,0),(0,1),(0,2),(0,3),(0,4),(0,5),(0,6),(0,7),(0,8),(0,9),(0,10),(1,11),(0,12)] (by kernel_rfl) ?_;refine ρd ?_;refine dld ((hB.ext hx0e).at (i:=8) c8) ?_;refine ρd ?_;refine dld ((((hBc4.ext hx5).ext hx6).ext hxd2).at (i:=0) rfl) ?_;refine ρd ?_;refine dix ch (hTa.ext hx0e) hn1.1 ?_;refine ρd ?_;refine dld ((hTa.ext hx0e).cell hta) ?_;refine ρd ?_;refine dmlk KS (e3.ext hx0e) zNat (Jck hfk) ?_;have hval:NatV w6.drew.drew ((fm (.string (idn (pmR cols x)))).getD (.slice none 0 0)) (T ch (pmR cols x)):=by
    rcases e5 (pmR cols x) with ⟨h6,h7⟩|⟨y,h6,h7,h8⟩
    ·rw [h6,h7];exact NatV.nil _
    ·rw [h6];exact h8.1.ext hx0e
   refine ρd ?_;refine dcl (Jbn (hp2.ext ((hx24.trans hx5).trans hx6 |>.trans hxd2)) hval hnb.len hTq.len) ?_;rintro vr w7 ⟨hr7,hfr7,hx7⟩;refine ⟨hx7,?_⟩;refine ρd ?_;refine ρ ?_;refine Jjj (i+1) vr sO ⟨li,hx0e.trans hx7,?_,λad m c e=>Nat.le_trans hx0e.size (hfr7 ad m c e)⟩ (by omega);rw [hpk];exact hr7
  ·have lf:f<=ch:=by have:=of_decide_eq_false h;omega
   obtain ⟨mb,m,fm,e1,e2,⟨e3,e4⟩,e5,e6⟩:=hdv _ hmem lf;simp only at e1 e5;have hta:va[ch]?=some (.map (some mb)):=by
    rw [<-e1];have hl:=hV.1;simp [List.getD,List.getElem?_eq_getElem (show ch<va.length by omega)]
   refine ρ ?_;refine dr [(0,0),(0,1),(0,2),(0,3),(0,4),(0,5),(0,6),(0,7),(0,8),(0,9),(0,10)] (by kernel_rfl) ?_;refine ρd ?_;refine dld ((hB.ext hx0e).at (i:=7) c7) ?_;refine ρd ?_;refine dld ((((hBc4.ext hx5).ext hx6).ext hxd2).at (i:=0) rfl) ?_;refine ρd ?_;refine dix ch (hV.ext hx0e) hn1.1 ?_;refine ρd ?_;refine dld ((hV.ext hx0e).cell hta) ?_;refine ρd ?_;refine dmlk KS (e3.ext hx0e) Xwz (Jck hfk) ?_;rw [e5];by_cases h0:0<T ch (pmR cols x)
   ·rw [if_pos h0];have h1:=hT1 _ hmem lf (pmR cols x);simp only at h1;refine ρd ?_;refine ρ ?_;refine Jjj (i+1) vp sO ⟨li,hx0e,?_,hf2⟩ (by omega);rw [hpk,show T ch (pmR cols x)=1 by omega,Nat.mul_one];exact hp2.ext ((hx24.trans hx5).trans hx6 |>.trans hxd2)
   ·rw [if_neg h0];refine ρd ?_;refine ρ ?_;have hfn:Fresh w (.slice none 0 0):=λad m c e=>by cases e
    refine Jjq ⟨?_,hfn,hx0e⟩;rw [Qpr hmem (show T ch (pmR cols x)=0 by omega)];exact NatV.nil _
 have hi':i=chs.length:=by have:=of_decide_eq_false h;omega
 rw [hi',List.take_length]at hp2;refine ρ ?_;exact Jjq ⟨hp2,hf2,hx2⟩
open Go.RowKit Pl Go.Wk
def chK(kf:Nat->Nat)(pf:Nat->Int)(v k:Nat): List (Nat×List Nat):=((List.range k).filter λc=>decide (pf c=(v:Int))).map λc=>(c,Jqt (bk (kf v ||| 2^v) 32) (kf c))
theorem Jht(kf:Nat->Nat)(pf:Nat->Int)(v k:Nat): chK kf pf v (k+1)=chK kf pf v k++if pf k=(v:Int) then [(k,Jqt (bk (kf v ||| 2^v) 32) (kf k))] else []:=by
 unfold chK;rw [List.range_succ,List.filter_append,List.map_append];congr 1
 split
 ·rename_i h;simp [h]
 ·rename_i h;simp [h]
theorem Jgj(kf:Nat->Nat)(pf:Nat->Int)(v k:Nat): (chK kf pf v k).length<=k:=by
 unfold chK;rw [List.length_map];have:=List.length_filter_le (λc=>decide (pf c=(v:Int))) (List.range k);rw [List.length_range]at this;exact this
theorem Jgh(vars:List Nat)(s:Nat): (Jqt vars s).length<=vars.length:=by
 have:=List.length_filter_le (λi=>s.testBit (vars.getD i 0)) (List.range vars.length);rw [List.length_range]at this;exact this
theorem EC: ElT Tryz.prog 201 239 2 32 (.agg #[.int .i64 0,.slice none 0 0]):=⟨Tryz.underlying201,info_parts (by kernel_rfl),rfl,by decide⟩
theorem Qtf(z:Int)(v:Value)(A:Option Addr)(n c:Nat)(h:v=.slice A n c)(w:World): (Instr.build 239 #[(0,.int .i64 z),(1,v)]).run Tryz.prog w=.ok (.agg [.int .i64 z,v].toArray) w:=by subst h;kernel_rfl
theorem Qsw(z:Int)(v:Value)(A:Option Addr)(n c:Nat)(h:v=.slice A n c)(w:World): (Instr.buildSlice 201 1 #[(0,.agg [.int .i64 z,v].toArray)]).run Tryz.prog w=.ok (.slice (some ⟨w.heap.size,0,none⟩) 1 1) (w.alloc (.cells [.int .i64 z,v].toArray 239)):=by subst h;kernel_rfl
theorem Jhb{w:World}{b n v cb:Nat}{cs:List Value}{BA:Option Addr}{vR:Value}{kf:Nat->Nat}{pf:Nat->Int}{R:Nat->List Row}(hB:Blk w b 158 cs)(c5:cs[5]?=some (.slice BA n cb))(c6:cs[6]?=some vR)(hBags:Rd w 3 BA n (Jxt n (Jyh kf pf)))(hR:GV 3 AtG w vR ((List.range n).map λv=>Jkw (kf v ||| 2^v) (R v)))(hn:n<=32)(hv:v<n)(hk:∀ v,v<n->kf v<4294967296):
  Ret Tryz.prog 124 [.pointer (some ⟨b,0,none⟩),.int .i64 (v:Int)] w λu w'=>OwnG 239 2 ChG w' w.heap.size u (chK kf pf v n)/\Ext w w':=by
 obtain ⟨RA,rc,rcs,rfl,hrc,hrm,hRr,hRe⟩:=hR.parts;rw [List.length_map,List.length_range]at c6 hrc hrm hRr;obtain ⟨re,hrel,⟨t,rfl,hAt⟩,hrcell⟩:=hRe v (by simpa using hv);simp only [List.getElem_map,List.getElem_range]at hAt;obtain ⟨⟨PA,pc,ep1,hpc,hpm,hpr⟩,ep2,hprows⟩:=id hAt;obtain ⟨t1,t2,t3⟩:=t;simp only [Jkw]at ep1;subst ep1;have hnl:(nz (bk (kf v ||| 2^v) 32)).length=(bk (kf v ||| 2^v) 32).length:=Jqc _;refine Jjb Tryz.func124 Tryz.ntmps124 rfl (by kernel_rfl) rfl ?_;refine ρ ?_;refine ld (hB.at (i:=5) c5) ?_;refine ρ ?_;refine Jjv (fun (k:Nat) (vl:Value)=>[(0,.pointer (some ⟨b,0,none⟩)),(1,.int .i64 (v:Int)),(5,vl),(11,.int .i64 (n:Int)),(12,.int .i64 (k:Int))])
  (λk vl w'=>k<=n/\Ext w w'/\OwnG 239 2 ChG w' w.heap.size vl (chK kf pf v k)) (λk _=>n-k) 0 (.slice none 0 0) sB
  ⟨Nat.zero_le _,Ext.refl _,OwnG.nil _ _⟩ ?_
 rintro k vl w1 ⟨hkn,hx1,hG1⟩;refine ρ ?_;refine ci (λh=>?_) (λh=>?_)
 ·have lk:k<n:=by have:=of_decide_eq_true h;omega
  clear h;have hB1:=hB.ext hx1;have hcellB:∀ {w'} (hx:Ext w w') j u,(Jyh kf pf k)[j]?=some u->w'.cell? ((adr BA (k*3)).add j)=some u:=λhx j u hu=>by
   have hj:j<3:=by
    rcases Nat.lt_or_ge j 3 with h'|h'
    ·exact h'
    ·rw [List.getElem?_eq_none (by simp [Jyh];omega)]at hu;cases hu
   rw [Jqw];exact (hBags.ext hx).cell ((Jwr (sz:=3) (λ_ _=>rfl) lk hj).trans hu)
  refine ρ ?_;refine ld (hB1.at (i:=5) c5) ?_;refine ρ ?_;refine ixq 3 k (hBags.ext hx1) lk ?_;refine ρ ?_;refine ld (hcellB hx1 2 _ rfl) ?_;refine ρ ?_;refine ci (λh=>?_) (λh=>?_)
  ·have hp:pf k=(v:Int):=Jql h;have hxd:Ext w1 w1.drew:=(Ext.refl w1).drew;have hx0d:=hx1.trans hxd;have hBd:=hB.ext hx0d;obtain ⟨LA,lc,elv,hlc,hlf⟩:=hG1.form;refine ρ ?_;refine drN (λk=>w.heap.size<=k) 10 [(0,0),(0,1),(0,2),(0,3),(0,4),(0,5),(0,6),(0,7),(0,8),(0,9),(0,10),(0,11),(0,12),(0,13),(0,14),(0,15),(0,16),(0,17),(1,18),(0,19),(1,20),(1,21),(0,22)] (by kernel_rfl) ?_;have hbn:¬ w.heap.size<=b:=by have:=hB.lt;omega
   have offc:∀ {p:Addr} {u:Value},w.cell? p=some u->∀ w',GrN (λk=>w.heap.size<=k) w1.drew w'->w'.cell? p=some u:=fun {p u} h w' hg=>
    Jws ((hg.old hx0d λk hk=>hk)) h
   refine ρn ?_;refine nld (offc (hB.at (i:=6) c6)) ?_;refine ρn ?_;refine Qyn 3 v (hRr.ext hx0d) hv ?_;refine ρn ?_;refine nld (offc (hrcell 0 _ rfl)) ?_;refine ρn ?_;refine nld (offc (hB.at (i:=5) c5)) ?_;refine ρn ?_;refine Qyn 3 k (hBags.ext hx0d) lk ?_;refine ρn ?_;refine nld (offc (hcellB (Ext.refl w) 1 _ rfl)) ?_;refine ρn ?_;refine nop ?_;rw [hnl];refine cl (Jnm (vars:=bk (kf v ||| 2^v) 32) (hnl ▸ hpr.ext hx0d) (hk k lk) (λu hu=>(bk_mem.1 hu).1) (Jvg _ _)) ?_;rintro uc w2 ⟨hc2,hx2⟩;refine ρ ?_;refine Jqm (GrN.ext hx2) ?_;obtain ⟨CA,cc,rfl,hcc,hcf⟩:=Jjd hc2;refine ρn ?_;refine Xzj (Qtf _ _ CA _ cc rfl) ?_;refine ρn ?_;refine nop ?_;refine bsl (Qsw _ _ CA _ cc rfl) ?_;intro w3 b3 hx3 hb3 hB3;refine ρ ?_;refine Jqm (GrN.ext hx3) ?_;refine ρn ?_;refine nop ?_;have hx13:Ext w1 w3:=(hxd.trans hx2).trans hx3;have hΦ:Off (Jbl w.heap.size vl) w3 (λu=>ChG u [.int .i64 (k:Int),.slice CA (Jqt (bk (kf v ||| 2^v) 32) (kf k)).length cc] (k,Jqt (bk (kf v ||| 2^v) 32) (kf k))):=by
    have h1:=Jfv (Jjc hc2 hx3) (N:=Jbl w.heap.size vl) λg eg hN=>by
     have:=(hcf g eg).1;rcases hN with h'|h'
     ·have:=hx0d.size;omega
     ·have:=(hlf g h').2;have:=hxd.size;omega
    refine h1.imp λu h=>⟨CA,cc,rfl,hcc,?_,Rd.own h⟩;exact Nat.le_trans (Jgh (bk (kf v ||| 2^v) 32) (kf k)) (Jvg (kf v ||| 2^v) 32)
   refine apG EC (Φ:=ChG) (hG1.ext hx13) hB3 rfl Qqn hΦ (by have:=Jgj kf pf v k;omega) (by omega) (hx1.trans hx13).size ?_;intro v4 w4 hG4 hg4 hn4;refine ρ ?_;refine Jqm (GrN.by hg4 λg eg=>(hlf g eg).1) ?_;refine ρn ?_;refine ρ ?_;refine Jjj (k+1) v4 sO ⟨lk,Jjk (hx1.trans hx13) hg4 (λg eg=>(hlf g eg).1),?_⟩ (by omega);rw [Jht,if_pos hp];exact hG4
  ·have hp:pf k≠(v:Int):=Jqh h;refine ρ ?_;refine Jjj (k+1) vl sO ⟨lk,hx1,?_⟩ (by omega);rw [Jht,if_neg hp,List.append_nil];exact hG1
 have hk':k=n:=by have:=of_decide_eq_false h;omega
 rw [hk']at hG1;refine ρ ?_;exact Jjq ⟨hG1,hx1⟩
open Go.RowKit Pl Go.Wk
structure FixW(B0 n f:Nat)(kf:Nat->Nat)(pf:Nat->Int)(R:Nat->List Row)(vR:Value)(BA:Option Addr)(wF:World): Prop where
 tb:TB B0 wF
 bags:Rd wF 3 BA n (Jxt n (Jyh kf pf))
 rels:GV 3 AtG wF vR ((List.range n).map λv=>Jkw (kf v ||| 2^v) (R v))
 n32:n<=32
 fn:f<=n
 kb:∀ v,v<n->kf v<4294967296
 pn:∀ c,c<n->pf c≠(c:Int)
 rows:∀ v,v<n->∀ x∈R v,x.length=(bk (kf v ||| 2^v) 32).length/\FitR x
 rlen:∀ v,v<n->(R v).length<=65536
def bCs(n f:Nat)(Dv Pv Av:Value)(BA:Option Addr)(cb:Nat)(vR:Value)(VA:Option Addr)(cv:Nat)(TA:Option Addr)(ct:Nat)(Kv:Value): List Value :=
 [.int .i64 (n:Int),.int .i64 (f:Int),Dv,Pv,Av,.slice BA n cb,vR,.slice VA n cv,.slice TA n ct,Kv]
def ARk(n f:Nat)(VA:Option Addr)(cv:Nat)(TA:Option Addr)(ct:Nat)(Kv:Value)(k:Nat): Prop:=(Value.slice VA n cv).ownBlock=some k∨(Value.slice TA n ct).ownBlock=some k∨Kv.ownBlock=some k
structure BldW(wF:World)(b n:Nat)(cs:List Value)(VA:Option Addr)(cv:Nat)(TA:Option Addr)(ct:Nat)(w:World)(va ta:List Value): Prop where
 ext:Ext wF w
 blk:Blk w b 158 cs
 va:w.ownsRow wF.heap.size 200 1 (.slice VA n cv) n va
 ta:w.ownsRow wF.heap.size 208 1 (.slice TA n ct) n ta
theorem BldW.ext'{wF:World}{b n:Nat}{cs:List Value}{VA:Option Addr}{cv:Nat}{TA:Option Addr}{ct:Nat}{w w':World}{va ta:List Value}(h:BldW wF b n cs VA cv TA ct w va ta)(hx:Ext w w'): BldW wF b n cs VA cv TA ct w' va ta :=
 ⟨h.ext.trans hx,h.blk.ext hx,Jjc h.va hx,Jjc h.ta hx⟩
def Jrf(kf:Nat->Nat)(v:Nat): List Nat:=Jqt (bk (kf v ||| 2^v) 32) (kf v)
open Classical in
noncomputable def Qfq (rows:List Row) (cols:List Nat) (W:Row->Nat) (k:Row):Nat:=if ∃ x∈rows,0<W x/\pmR cols x=k then 1 else 0
theorem redT_pos{rows:List Row}{cols:List Nat}{W:Row->Nat}{k:Row}: 0<Qfq rows cols W k↔∃ x∈rows,0<W x/\pmR cols x=k:=by
 unfold Qfq;split
 ·rename_i h;exact ⟨λ_=>h,λ_=>Nat.one_pos⟩
 ·rename_i h;exact ⟨λh'=>by omega,λh'=>absurd h' h⟩
theorem Qhr{rows:List Row}{cols:List Nat}{W:Row->Nat}{k:Row}: Qfq rows cols W k<=1:=by
 unfold Qfq;split<;>omega
theorem Qww{w w':World}{cs:List Value}{a:Atm}(h:AtG w cs a)(hx:Ext w w'): AtG w' cs a:=by
 obtain ⟨t,e,h1⟩:=h;exact ⟨t,e,h1.ext hx⟩
theorem Jcx{kf:Nat->Nat}{pf:Nat->Int}{v n:Nat}{p:Nat×List Nat}(h:p∈chK kf pf v n): p.1<n/\pf p.1=(v:Int)/\p.2=Jqt (bk (kf v ||| 2^v) 32) (kf p.1):=by
 obtain ⟨c,hc,rfl⟩:=List.mem_map.1 h;obtain ⟨h1,h2⟩:=List.mem_filter.1 hc;exact ⟨List.mem_range.1 h1,of_decide_eq_true h2,rfl⟩
theorem Jsz{w:World}{v:Value}{n:Nat}(h:NatV w v n): ∃ A c,v=.slice A (Jjf n).length c/\(0<(Jjf n).length↔0<n):=by
 obtain ⟨A,c,e,_⟩:=h;refine ⟨A,c,e,λh=>Nat.pos_of_ne_zero (Qyt h),λh=>limbs_pos' (by omega)⟩
theorem Qcr{B0 n f b v cb cv ct:Nat}{kf:Nat->Nat}{pf:Nat->Int}{R:Nat->List Row}{vR Dv Pv Av Kv:Value}{BA VA TA:Option Addr}{wF w:World}{va ta:List Value}{T:Nat->Row->Nat}{AR:Nat->Prop}(hF:FixW B0 n f kf pf R vR BA wF)(hW:BldW wF b n (bCs n f Dv Pv Av BA cb vR VA cv TA ct Kv) VA cv TA ct w va ta)(hv:v<n)(hdv:∀ c,c<n->pf c=(v:Int)->f<=c->DnV AR (T c) w (va.getD c (.map none)))(hdt:∀ c,c<n->pf c=(v:Int)->c<f->DnT AR (T c) w (ta.getD c (.map none)))(hT1:∀ c,f<=c->∀ k,T c k<=1)(hTb:∀ c k,T c k<=4294967296^20)(hAR:∀ k,ARk n f VA cv TA ct Kv k->AR k)(hARl:∀ k,AR k->k<w.heap.size):
  Ret Tryz.prog 83 [.pointer (some ⟨b,0,none⟩),.int .i64 (v:Int)] w λu w'=>u=.tuple #[]/\∃ mv,BldW wF b n (bCs n f Dv Pv Av BA cb vR VA cv TA ct Kv) VA cv TA ct w' (va.set v mv) ta/\GrN (λk=>(Value.slice VA n cv).ownBlock=some k) w w' /\
   DnV AR (Qfq (R v) (Jrf kf v) λx=>wtL T x (chK kf pf v n)) w' mv:=by
 obtain ⟨hxF,hB,hVa,hTa⟩:=hW;have hn32:=hF.n32;refine Jjb Tryz.func83 Tryz.ntmps83 rfl (by kernel_rfl) rfl ?_;refine ρ ?_;refine ld (hB.at (i:=7) rfl) ?_;refine ρ ?_;refine mkm 9 ?_;intro w1 mb hx1 hmb hM;obtain ⟨s1,s2,s3,s4,s5⟩:=Jqq (Jjc hVa hx1) (q:=v) (by omega) (.map (some mb));have hvl:va.length=n:=by have:=hVa.1;omega
 refine ρ ?_;refine ix v (Rd.own (Jjc hVa hx1)) (by omega) ?_;refine ρ ?_;refine sto (s1.trans (show va[v]?=some (va.getD v (.map none)) by simp [List.getD,List.getElem?_eq_getElem (show v<va.length by omega)])) s2 ?_;refine ρ ?_;obtain ⟨w2,hw2⟩:∃ w2,w2=w1.setCell (adr VA v) (.map (some mb)):=⟨_,rfl⟩;rw [<-hw2]at s3 s5 ⊢;clear hw2;have lVA:∀ g,(Value.slice VA n cv).ownBlock=some g->wF.heap.size<=g/\g<w.heap.size:=(Jjd hVa).choose_spec.choose_spec.2.2;have lTA:∀ g,(Value.slice TA n ct).ownBlock=some g->wF.heap.size<=g/\g<w.heap.size:=(Jjd hTa).choose_spec.choose_spec.2.2;have hx1':=hx1.size;have hmb1:=hM.lt;have hB2:Blk w2 b 158 _:=(hB.ext hx1).grown s5 ((hB.ext hx1).ne_own (Jjc hVa hx1) rfl);have hTa2:w2.ownsRow wF.heap.size 208 1 (.slice TA n ct) n ta:=Jjs (Jjc hTa hx1) (Jjc hVa hx1) s5 rfl;have hM2:MapS Tryz.prog 9 w2 mb 0 (λ_=>none):=hM.kept s5 (λe=>by have:=(lVA mb e.symm).2;omega)
 have hg02:GrN AR w w2:=(GrN.ext hx1).trans (GrN.by s5 λk hk=>hAR k (.inl hk));have hxF2:Ext wF w2:=Jjk (hxF.trans hx1) s5 λk hk=>(lVA k hk).1;have hmF:wF.heap.size<=mb:=Nat.le_trans hxF.size hmb;have hmb2:=hM2.lt;obtain ⟨RA,rc,rcs,evR,hrc,hrm,hRr,hRe⟩:=hF.rels.parts;rw [List.length_map,List.length_range]at evR hrc hrm hRr;obtain ⟨re,hrel,⟨t,ere,hAt⟩,hrcell⟩:=hRe v (by simpa using hv);subst ere;simp only [List.getElem_map,List.getElem_range]at hAt;obtain ⟨⟨PA,pc,ep1,hpc,hpm,hpr⟩,ep2,hprows⟩:=id hAt;obtain ⟨t1,t2,t3⟩:=t;simp only [Jkw]at ep1 ep2;subst ep1;subst ep2;have hnl:(nz (bk (kf v ||| 2^v) 32)).length=(bk (kf v ||| 2^v) 32).length:=Jqc _;have hcellB:∀ j u,(Jyh kf pf v)[j]?=some u->wF.cell? ((adr BA (v*3)).add j)=some u:=λj u hu=>by
  have hj:j<3:=by
   rcases Nat.lt_or_ge j 3 with h'|h'
   ·exact h'
   ·rw [List.getElem?_eq_none (by simp [Jyh];omega)]at hu;cases hu
  rw [Jqw];exact hF.bags.cell ((Jwr (sz:=3) (λ_ _=>rfl) hv hj).trans hu)
 subst evR;have hxd:Ext w2 w2.drew:=(Ext.refl w2).drew;have hxFd:=hxF2.trans hxd;have hBd:=hB2.ext hxd;refine dr [(0,0),(0,1),(0,3),(0,4),(0,5),(0,6),(0,7),(0,8),(0,9),(0,10),(0,11),(0,12),(0,13),(0,14),(0,15),(0,16),(0,17),(0,18),(1,2),(1,19),(0,20),(0,21)] (by kernel_rfl) ?_;refine ρd ?_;refine dld (hBd.at (i:=6) rfl) ?_;refine ρd ?_;refine Qsl 3 v (hRr.ext hxFd) hv ?_;refine ρd ?_;refine dld (Jws hxFd (hrcell 0 _ rfl)) ?_;refine ρd ?_;refine dld (hBd.at (i:=5) rfl) ?_;refine ρd ?_;refine Qsl 3 v (hF.bags.ext hxFd) hv ?_;refine ρd ?_;refine dld (Jws hxFd (hcellB 1 _ rfl)) ?_;refine ρd ?_;refine dcl (Jhb (R:=R) hBd rfl rfl (hF.bags.ext hxFd) (hF.rels.ext hxFd λcs a h=>Qww h hxFd) hn32 hv hF.kb) ?_;rintro vl w3 ⟨hG3,hx3⟩;refine ⟨hx3,?_⟩;have hxF3:=hxFd.trans hx3;refine ρd ?_;rw [hnl];refine dcl (Jnm (vars:=bk (kf v ||| 2^v) 32) (hnl ▸ hpr.ext hxF3) (hF.kb v hv) (λu hu=>(bk_mem.1 hu).1) (Jvg _ _)) ?_
 rintro uc w4 ⟨hc4,hx4⟩;refine ⟨hx4,?_⟩;obtain ⟨CA,cc,rfl,hcc,hcf⟩:=Jjd hc4;refine ρd ?_;refine ρ ?_;have hx24:=(hxd.trans hx3).trans hx4;have hxF4:=hxF2.trans hx24;have hB4:=hB2.ext hx24;have hrel4:∀ j u,([.int .i64 ((bk (kf v ||| 2^v) 32).length:Int),t3]:List Value)[j]?=some u->w4.cell? (((adr RA (v*3)).add 1).add j)=some u:=λj u hu=>by
  have:=hrcell (1+j) u (by rw [Nat.add_comm];exact hu);rw [Jqw]at this;rw [Jqw,Jqw,Nat.add_assoc];exact Jws hxF4 this
 refine ld (hB4.at (i:=6) rfl) ?_;refine ρ ?_;refine ixq 3 v (hRr.ext hxF4) hv ?_;refine ρ ?_;refine lds (cs:=[.int .i64 ((bk (kf v ||| 2^v) 32).length:Int),t3]) hrel4 ?_;refine ρ ?_;refine cl (Jcv (ar:=(bk (kf v ||| 2^v) 32).length) (ls:=R v) ((hAt.ext hxF4).rel)) ?_;rintro ur w5 ⟨hx5,hrows5⟩;obtain ⟨ps,GA,gc,els,rfl,hgc,hpm2,hrd5,hrow5⟩:=hrows5;have hlenR:(R v).length=ps.length:=by rw [els,List.length_map]
 have hx25:=hx24.trans hx5;have hmb4:mb<w4.heap.size:=Nat.lt_of_lt_of_le hmb2 hx24.size;have hnb:b≠mb:=λe=>by have h1:=hB.lt;omega
 refine ρ ?_;refine Jzk (fun (i:Nat) (m:Nat) (fm:Lit->Option Value)=>[(0,.pointer (some ⟨b,0,none⟩)),(1,.int .i64 (v:Int)),(4,vl),(5,.slice CA (Jrf kf v).length cc),(43,.slice GA ps.length gc),(44,.int .i64 (ps.length:Int)),(45,.int .i64 (i:Int))])
  (λi m fm w'=>i<=ps.length/\GrN (λk=>k=mb) w5 w'/\MapS Tryz.prog 9 w' mb m fm/\m<=i/\(∀ k:Row,fm (.string (idn k))=if 0<Qfq ((R v).take i) (Jrf kf v) (λx=>wtL T x (chK kf pf v n)) k then some (.bool true) else none)/\∀ kl,fm kl≠none->∃ k:Row,kl=.string (idn k)) (λi _ _=>ps.length-i) 0 0 (λ_=>none) sB
  ⟨Nat.zero_le _,GrN.refl _ _,hM2.ext hx25,Nat.le_refl _,λk=>?_,λkl h=>absurd rfl h⟩ ?_
 ·rw [if_neg];intro h;obtain ⟨x,hx,_⟩:=redT_pos.1 h;simp at hx
 rintro i m fm w6 ⟨hi,hg6,hM6,hm6,hfm,hkm⟩;refine ρ ?_;refine ci (λh=>?_) (λh=>?_)
 ·have li:i<ps.length:=by have:=of_decide_eq_true h;omega
  clear h;obtain ⟨x,hxe⟩:∃ x,x=(ps.getD i z0).2:=⟨_,rfl⟩;have hxm:x∈R v:=by rw [els,hxe];exact List.mem_map_of_mem (getD_mem' z0 ps li)
  have hxi:(R v).getD i []=x:=by rw [els,hxe];simp [List.getD,List.getElem?_eq_getElem li]
  obtain ⟨hxl,hxfit⟩:=hF.rows v hv x hxm;have hg26:GrN (λk=>k=mb) w2 w6:=(GrN.ext hx25).trans hg6;have hxF6:Ext wF w6:=hg26.old hxF2 λk hk=>by rw [hk];exact hmF
  have hB6:=Jqb hB2 hg26 hnb;have hV6:=Rd.own (Jjr s3 hg26 λg eg e=>by have:=(lVA g eg).2;omega);have hT6:=Rd.own (Jjr hTa2 hg26 λg eg e=>by have:=(lTA g eg).2;omega);have hG6:GV 2 ChG w6 vl (chK kf pf v n):=((((hG3.ext hx4).ext hx5).gr hg6 λk hk=>by rw [hk];exact hmb2)).gv (by have:=Jgj kf pf v n;omega);have hg6':GrN (λk=>k<w4.heap.size) w5 w6:=hg6.mono λk _ hk=>by rw [hk];exact hmb4
  have hrow6:RowV w6 (ps.getD i z0).1 x:=by rw [hxe];exact hrow5 _ (getD_mem' z0 ps li) w6 hg6'
  have hrd6:=hrd5 w6 hg6';have hgw6:GrN AR w w6:=((hg02.mono λk _ hk=>(.inl hk:AR k∨k=mb)).trans (hg26.mono λk _ hk=>.inr hk)).mono λk hk h=>h.elim id λe=>by omega
  have hset:∀ c,c≠v->(va.set v (.map (some mb))).getD c (.map none)=va.getD c (.map none):=λc hc=>by simp [List.getD,List.getElem?_set_ne (Ne.symm hc)]
  have hne:∀ c,c<n->pf c=(v:Int)->c≠v:=λc hc hp e=>hF.pn c hc (by rw [hp,e]);refine ρ ?_;refine ix i hrd6 li ?_;refine ρ ?_;refine ld (hrd6.cell (show (ps.map (·.1))[i]?=some (ps.getD i z0).1 by simp [List.getD,List.getElem?_eq_getElem li])) ?_
  refine ρ ?_;refine cl (Jpp (T:=T) (AR:=AR) (hF.tb.ext hxF6) hB6 rfl rfl rfl hV6 hT6 hG6 (by have:=Jgj kf pf v n;omega) (λp hp=>?_) hrow6 hxfit (λp hp hpf=>?_) (λp hp hpf=>?_) (λp hp hpf k=>hT1 _ hpf k) (λp hp k=>hTb _ k)) ?_
  ·obtain ⟨h1,h2,h3⟩:=Jcx hp;refine ⟨h1,λc hc=>?_⟩;rw [h3]at hc;rw [hxl];exact Jvs hc
  ·obtain ⟨h1,h2,h3⟩:=Jcx hp;rw [hset _ (hne _ h1 h2)];exact (hdv _ h1 h2 hpf).gr hgw6
  ·obtain ⟨h1,h2,h3⟩:=Jcx hp;exact (hdt _ h1 h2 hpf).gr hgw6
  rintro vw w7 ⟨hw7,_,hx7⟩;obtain ⟨WA,wc,rfl,hwpos⟩:=Jsz hw7;have hM7:=hM6.ext hx7;have hg7:=hg6.trans (GrN.ext hx7);refine ρ ?_;refine ci (λh=>?_) (λh=>?_)
  ·have hpos:0<wtL T x (chK kf pf v n):=hwpos.1 (by have:=of_decide_eq_true h;omega);have hg27:GrN (λk=>k=mb) w2 w7:=hg26.trans (GrN.ext hx7);have hxF7:=hxF6.trans hx7;have hxd7:Ext w7 w7.drew:=(Ext.refl w7).drew;have hB7:=(Jqb hB2 hg27 hnb).ext hxd7;have hV7:Rd w7.drew 1 VA n (va.set v (.map (some mb))):=hV6.ext (hx7.trans hxd7);have hcol:Rd w7.drew 1 CA (Jrf kf v).length (Jzw (nz (Jrf kf v))):=Rd.own (Jjc (Jjr (Jjc hc4 hx5) hg7 λg eg e=>by have:=(hcf g eg).1;have:=hx3.size;have:=hxd.size;omega) hxd7);have hfk:FitR (pmR (Jrf kf v) x):=hxfit.pm (λc hc=>by rw [hxl];exact Jvs hc) (Nat.le_trans (Jgh _ _) (Jvg _ _));have hvg:(va.set v (.map (some mb)))[v]?=some (.map (some mb)):=by rw [List.getElem?_set_self (by omega)]
   refine ρ ?_;refine drN (λ_=>False) 10 [(0,0),(0,1),(0,2),(0,3),(0,4),(0,5),(0,6),(0,7),(0,8),(1,9),(1,10),(2,11)] (by kernel_rfl) ?_;refine ρn ?_;refine nld (Jjg (hB7.at (i:=7) rfl) (λe=>e)) ?_;refine ρn ?_;refine nix v hV7 hv ?_;refine ρn ?_;refine nld (Jjg (hV7.cell hvg) (λe=>e)) ?_;refine ρn ?_;refine nop ?_;refine cl (Qyc (cs:=Jrf kf v) ((hrow6.ext hx7).ext hxd7) hcol (λc hc=>by rw [hxl];exact Jvs hc) (by have:=Jgh (bk (kf v ||| 2^v) 32) (kf v);have:=Jvg (kf v ||| 2^v) 32;unfold Jrf;omega)) ?_;rintro uk w8 ⟨hk8,hx8⟩;obtain ⟨KA,kc,rfl,hkc,hkm8,hkR⟩:=id hk8;refine ρ ?_;refine Jqm (GrN.ext hx8) ?_;refine ρn ?_;refine nop ?_;refine cl (Jzp (r:=pmR (Jrf kf v) x) ((hF.tb.ext (hxF7.trans hxd7)).ext hx8) hkR (λu hu=>(hfk.2 u hu).1) (by have:=hfk.len;omega) (by have:=hfk.1;omega)) ?_;rintro un w9 ⟨rfl,hx9⟩;refine ρ ?_;refine Jqm (GrN.ext hx9) ?_
   refine ρn ?_;refine Jkj ?_;refine mup KS (((hM7.ext hxd7).ext hx8).ext hx9) (by unfold maxLen;omega) (Jck hfk) ?_;intro w10 hM10 hg10;refine ρ ?_;refine Jqf (i+1) (m+1) (upL fm (.string (idn (pmR (Jrf kf v) x))) (some (.bool true))) sO ⟨li,((hg7.trans (GrN.ext hxd7)).trans ((GrN.ext hx8).trans (GrN.ext hx9))).trans (GrN.by hg10 λk hk=>by injection hk with hk;exact hk.symm),hM10,by omega,λk=>?_,λkl hkl=>?_⟩ (by omega)
   ·by_cases e:pmR (Jrf kf v) x=k
    ·rw [<-e,Jdj (KS.key (Jck hfk)),if_pos];refine redT_pos.2 ⟨x,?_,hpos,rfl⟩;rw [Jjm [] (by rw [hlenR];exact li),hxi];exact List.mem_append_right _ (List.mem_singleton.2 rfl)
    ·rw [Jyl (λe'=>e (Jth (by injection e'.symm))),hfm k];have e2:(0<Qfq ((R v).take (i+1)) (Jrf kf v) (λx=>wtL T x (chK kf pf v n)) k)↔(0<Qfq ((R v).take i) (Jrf kf v) (λx=>wtL T x (chK kf pf v n)) k):=by
      rw [redT_pos,redT_pos,Jjm [] (by rw [hlenR];exact li),hxi];constructor
      ·rintro ⟨y,hy,h1,h2⟩;rcases List.mem_append.1 hy with h3|h3
       ·exact ⟨y,h3,h1,h2⟩
       ·rw [List.mem_singleton.1 h3]at h2;exact absurd h2 e
      ·rintro ⟨y,hy,h1,h2⟩;exact ⟨y,List.mem_append_left _ hy,h1,h2⟩
     simp only [e2]
   ·by_cases e:kl=.string (idn (pmR (Jrf kf v) x))
    ·exact ⟨_,e⟩
    ·rw [Jyl e]at hkl;exact hkm kl hkl
  ·have hpos:¬ 0<wtL T x (chK kf pf v n):=λh'=>by have:=hwpos.2 h';have:=of_decide_eq_false h;omega
   refine ρ ?_;refine Jqf (i+1) m fm sO ⟨li,hg7,hM7,by omega,λk=>?_,hkm⟩ (by omega);rw [hfm k];have e:(0<Qfq ((R v).take (i+1)) (Jrf kf v) (λx=>wtL T x (chK kf pf v n)) k)↔(0<Qfq ((R v).take i) (Jrf kf v) (λx=>wtL T x (chK kf pf v n)) k):=by
    rw [redT_pos,redT_pos,Jjm [] (by rw [hlenR];exact li),hxi];constructor
    ·rintro ⟨y,hy,h1,h2⟩;rcases List.mem_append.1 hy with h3|h3
     ·exact ⟨y,h3,h1,h2⟩
     ·rw [List.mem_singleton.1 h3]at h1;exact absurd h1 hpos
    ·rintro ⟨y,hy,h1,h2⟩;exact ⟨y,List.mem_append_left _ hy,h1,h2⟩
   simp only [e]
 have hi':i=ps.length:=by have:=of_decide_eq_false h;omega
 rw [hi',<-hlenR,List.take_length]at hfm;have hg26:GrN (λk=>k=mb) w2 w6:=(GrN.ext hx25).trans hg6;have hxF6:Ext wF w6:=hg26.old hxF2 λk hk=>by rw [hk];exact hmF
 have hg02V:GrN (λk=>(Value.slice VA n cv).ownBlock=some k) w w2:=(GrN.ext hx1).trans (GrN.by s5 λk hk=>hk);have hgw6:GrN (λk=>(Value.slice VA n cv).ownBlock=some k) w w6:=((hg02V.mono λk _ hk=>(.inl hk:(Value.slice VA n cv).ownBlock=some k∨k=mb)).trans (hg26.mono λk _ hk=>.inr hk)).mono λk hk h=>h.elim id λe=>by omega
 refine ρ ?_;refine Qmk ⟨rfl,.map (some mb),⟨hxF6,Jqb hB2 hg26 hnb,Jjr s3 hg26 λg eg e=>(by have:=(lVA g eg).2;omega),Jjr hTa2 hg26 λg eg e=>(by have:=(lTA g eg).2;omega)⟩,hgw6,mb,m,fm,rfl,by have:=hF.rlen v hv;omega,⟨hM6,?_⟩,hfm,hkm⟩;intro h';have:=hARl mb h';omega
end Go.Proofs.YtefpailelagbkaaGreatDoor
