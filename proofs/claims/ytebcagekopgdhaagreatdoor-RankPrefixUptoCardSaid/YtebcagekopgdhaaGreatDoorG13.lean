/- Part 13. -/
import Derived.Test.YtebcagekopgdhaaGreatDoorG12
set_option linter.unusedVariables false
set_option maxRecDepth 100000
set_option maxHeartbeats 40000000
namespace Go.Wk
open Maps
variable {d n ty:Nat}
theorem dmlk{P:Program}{al:AL}{w:World}{Q:Exit->Act->World->Prop}{ops:Array Oper}{drest:List (Nat×Oper)}{pos:String}{aft:Array Edge}{tt:TT}[hT:Tab P tt]{t k e b m:Nat}{kd:TK}{f:Lit->Option Value}{x y:Operand}{key z:Value}{kl:Lit}(K:Keyed P k)(hM:MapS P k w b m f)(hz:Qp P e=some z)(hkey:keyOf P k key=some kl)(kk:WD P n ops Q drest ((d,(f kl).getD z)::al) w)(ht:tk tt t=some kd:=by rfl)(hk:kd.desc=.map k e:=by rfl)(hx:ev al x=some (.map (some b)):=by rfl)(hy:ev al y=some key:=by rfl)(hd:Nat.blt d n=true:=by rfl):
  WD P n ops Q ((0,⟨some d,.lookup t x y false,ty,pos,aft,none⟩)::drest) al w :=
 dy (λw' u a o=>by
  have:=((hM.ext u).look K (Vh hT.ok ht hk rfl) (Jdm hz w') hkey).2;simp [execOp,o.ev hx,o.ev hy,this]) hd kk
end Go.Wk
namespace Go.Proofs.YtebcagekopgdhaaGreatDoor
open Go.RowKit Pl Go.Wk
attribute [local irreducible] WC WL QX WD WDB WP WN WG
variable {chs l:List (Nat×List Nat)}{cs ta va:List Value}{B0 b c cv f k n:Nat}{T:Nat->Row->Nat}{A VA:Option Addr}{r x:Row}{u vch vx:Value}{w w':World}
theorem Ul(hx:Ext w w'){p:Addr}(h:w.cell? p=some u): w'.cell? p=some u:=by
 have o:p.block<w.heap.size:=by
  rcases Nat.lt_or_ge p.block w.heap.size with h1|h1
  .exact h1
  .unfold World.cell? at h;rw [Array.getElem?_eq_none h1]at h;simp at h
 rw [hx.cell o];exact h
theorem KS: Maps.Keyed Tryz.prog 9:=Maps.string_keyed Tryz.underlying9
def FitR(r:Row): Prop:=r.length<=32/\∀ v∈r,Vt v/\v.bytes.length<=24
theorem FitR.len(h:FitR r): (idn r).length<=2880:=by have:=Qqd h.2;have:=h.1;omega
theorem FitR.pm{cs:List Nat}(h:FitR r)(hc:∀ c∈cs,c<r.length)(hl:cs.length<=32): FitR (pmR cs r) :=
 ⟨by rw [Qr];exact hl,λv o=>by
  obtain ⟨c,u,rfl⟩:=List.mem_map.1 o;exact h.2 _ (getD_mem' V0 r (hc c u))⟩
theorem Gj(h:FitR r): keyOf Tryz.prog 9 (.string (str (idn r)))=some (.string (idn r)) :=
 WideMaps.keyOf_string_mk Tryz.underlying9 (by have:=h.len;show (idn r).toArray.size<=maxLen;rw [List.size_toArray];unfold maxLen;omega)
def ChG(w:World)(cs:List Value)(p:Nat×List Nat): Prop:=∃ A c,cs=[.int .i64 (p.1:Int),.slice A p.2.length c]/\p.2.length<=c/\p.2.length<=32/\Rd w 1 A p.2.length (Jt (nz p.2))
def DnV(AR:Nat->Prop)(T:Row->Nat)(w:World)(x:Value): Prop:=∃ mb m fm,x=.map (some mb)/\m<=1000000/\(MapS Tryz.prog 9 w mb m fm/\¬ AR mb)/\(∀ k:Row,fm (.string (idn k))=if 0<T k then some (.bool true) else none)/\∀ kl,fm kl≠none->∃ k:Row,kl=.string (idn k)
def DnT(AR:Nat->Prop)(T:Row->Nat)(w:World)(x:Value): Prop:=∃ mb m fm,x=.map (some mb)/\m<=1000000/\(MapS Tryz.prog 9 w mb m fm/\¬ AR mb)/\∀ k:Row,(fm (.string (idn k))=none/\T k=0)∨∃ y,fm (.string (idn k))=some y/\0<T k/\NatX AR w y (T k)
theorem DnV.gr{AR:Nat->Prop}{T:Row->Nat}{w w':World}{x:Value}(h:DnV AR T w x)(hg:GrN AR w w'): DnV AR T w' x:=by
 obtain ⟨u,m,fm,O,J,⟨G,o⟩,C⟩:=h;exact ⟨u,m,fm,O,J,⟨G.gr hg o,o⟩,C⟩
theorem DnT.gr{AR:Nat->Prop}{T:Row->Nat}{w w':World}{x:Value}(h:DnT AR T w x)(hg:GrN AR w w'): DnT AR T w' x:=by
 obtain ⟨u,m,fm,O,J,⟨G,o⟩,C⟩:=h;refine ⟨u,m,fm,O,J,⟨G.gr hg o,o⟩,λk=>?_⟩;rcases C k with h6|⟨y,h6,h7,h8⟩
 .exact .inl h6
 .exact .inr ⟨y,h6,h7,h8.gr hg⟩
def wtL(T:Nat->Row->Nat)(x:Row): List (Nat×List Nat)->Nat
 | []=>1
 | p::l=>T p.1 (pmR p.2 x)*wtL T x l
theorem Jzr(T:Nat->Row->Nat)(x:Row): ∀ l m,wtL T x (l++m)=wtL T x l*wtL T x m
 | [],m=>by rw [List.nil_append,wtL,Nat.one_mul]
 | p::l,m=>by rw [List.cons_append,wtL,wtL,Jzr T x l m,Nat.mul_assoc]
theorem Qvf{p:Nat×List Nat}(hp:p∈l)(h0:T p.1 (pmR p.2 x)=0): wtL T x l=0:=by
 obtain ⟨a,b,rfl⟩:=List.append_of_mem hp;rw [Jzr,wtL,h0,Nat.zero_mul,Nat.mul_zero]
theorem Jcg{T:Nat->Row->Nat}{x:Row}: ∀ {l:List (Nat×List Nat)},(∀ p∈l,T p.1 (pmR p.2 x)<=4294967296^20)->wtL T x l<=(4294967296^20)^l.length
 | [],_=>by simp [wtL]
 | p::l,h=>by
  rw [wtL,List.length_cons,Nat.pow_succ,Nat.mul_comm];exact Nat.mul_le_mul (Jcg λq hq=>h q (List.mem_cons_of_mem _ hq)) (h p mC)
theorem Nb.pow(h:n<=(4294967296^20)^k)(hk:k<=32): Nb n:=by
 refine Nat.lt_of_le_of_lt h ?_;rw [<-Nat.pow_mul];exact Nat.pow_lt_pow_right (by decide) (by rw [Jlb];omega)
theorem Qvb: Qp Tryz.prog 247=some (.agg #[.int .i64 0,.slice none 0 0]):=kr
theorem Qgr{a:Int}: ∀ u∈[Value.int .i64 a,.slice A n c],u.oneCell'=true:=λu o=>by
 simp only [List.mem_cons,List.not_mem_nil,or_false]at o;rcases o with rfl|rfl<;>rfl
theorem Jjh(n:Nat)(h:n<18446744073709551616)(w:World): Ret Tryz.prog 16 [.int .u64 (n:Int)] w λv w'=>NatV w' v n/\Fresh w v/\Ext w w':=by
 refine Jz Tryz.func16 Tryz.ntmps16 rfl kr rfl ?_;refine ρ ?_;refine Yd rfl rfl (by decide) rfl ?_;refine ρ ?_;refine bsl (bsN _ _) ?_;intro J b u C o;rw [Ux,Jnf]at o;have G:Rd J 1 (some ⟨b,0,none⟩) 2 (Nc [UInt32.ofNat n,UInt32.ofNat (n / 4294967296)]):=o.rd rfl;refine ρ ?_;refine cl (Ig (l:=[UInt32.ofNat n,UInt32.ofNat (n / 4294967296)]) (c:=2) G (Nat.le_refl _) (by simp)) ?_;rintro v O ⟨rfl,rfl⟩;have:=Jql G (by simp);rw [Jmx n h]at this ⊢;refine ρ ?_;exact Jq ⟨this,λU _ _ e=>by injection e with e;injection e with e;subst e;exact C,u⟩
theorem Jmr{AR:Nat->Prop}{TA:Option Addr}{ct:Nat}(hTB:TB B0 w)(hB:Blk w b 157 cs)(c1:cs[1]?=some (.int .i64 (f:Int)))(c7:cs[7]?=some (.slice VA n cv))(c8:cs[8]?=some (.slice TA n ct))(hV:Rd w 1 VA n va)(hTa:Rd w 1 TA n ta)(hch:GV 2 ChG w vch chs)(hlen:chs.length<=32)(hn:∀ p∈chs,p.1<n/\∀ c∈p.2,c<x.length)(hx:RowV w vx x)(hfit:FitR x)(hdv:∀ p∈chs,f<=p.1->DnV AR (T p.1) w (va.getD p.1 (.map none)))(hdt:∀ p∈chs,p.1<f->DnT AR (T p.1) w (ta.getD p.1 (.map none)))(hT1:∀ p∈chs,f<=p.1->∀ k,T p.1 k<=1)(hTb:∀ p∈chs,∀ k,T p.1 k<=4294967296^20):
  Ret Tryz.prog 133 [.pointer (some ⟨b,0,none⟩),vch,vx] w λu w'=>NatV w' u (wtL T x chs)/\Fresh w u/\Ext w w':=by
 obtain ⟨A,c,cc,rfl,bh,bg,b6,b5⟩:=hch.parts;refine Jz Tryz.func133 Tryz.ntmps133 rfl kr rfl ?_;refine ρ ?_;refine cl (Jjh 1 (by decide) _) ?_;rintro vp w1 ⟨av,b4,ar⟩;refine ρ ?_;refine Je (fun (i:Nat) (vp:Value)=>[(0,.pointer (some ⟨b,0,none⟩)),(2,vx),(7,vp),(12,.slice A chs.length c),(13,.int .i64 (chs.length:Int)),(14,.int .i64 (i:Int))])
  (λi vp w'=>i<=chs.length/\Ext w w'/\NatV w' vp (wtL T x (chs.take i))/\Fresh w vp) (λi _=>chs.length-i) 0 vp sB
  ⟨Nat.zero_le _,ar,by rw [List.take_zero];exact av,b4⟩ ?_
 rintro i vp w2 ⟨hi,a7,a8,ak⟩;refine ρ ?_;refine ci (λh=>?_) (λh=>?_)
 .have li:i<chs.length:=by have:=oT h;omega
  clear h;obtain ⟨ce,bf,⟨CA,cC,rfl,b7,ac,an⟩,a6⟩:=b5 i li;have G:chs[i]∈chs:=List.getElem_mem li;have ag:wtL T x (chs.take (i+1))=wtL T x (chs.take i)*T chs[i].1 (pmR chs[i].2 x):=by
   rw [List.take_succ_eq_append_getElem li,Jzr,wtL,wtL,Nat.mul_one]
  have ax:wtL T x (chs.take i)<=(4294967296^20)^i:=by
   have:=Jcg (T:=T) (x:=x) (l:=chs.take i) λp hp=>hTb p (List.mem_of_mem_take hp) _;rw [List.length_take,Nat.min_eq_left hi]at this;exact this
  have aw:Nb (wtL T x (chs.take i)):=Nb.pow ax om;have am:Nb (T chs[i].1 (pmR chs[i].2 x)):=Nb.pow (k:=1) (by rw [Nat.pow_one];exact hTb _ G _) om;generalize hq:chs[i]=q at *
  obtain ⟨U,C⟩:=q;simp only at b7 ac an a6 ag am;have a4:=hn _ G;simp only at a4;refine ρ ?_;refine ixq 2 i (b6.ext a7) li ?_;refine ρ ?_;have a9:∀ j u,([.int .i64 (U:Int),.slice CA C.length cC]:List Value)[j]?=some u->w2.cell? ((adr A (i*2)).add j)=some u:=λj u hu=>Ul a7 (a6 j u hu);refine lds (cs:=[.int .i64 (U:Int),.slice CA C.length cC]) a9 ?_;refine ρ ?_;refine alc Qvb ?_;intro w3 bc aq b8 ba;refine ρ ?_;refine stW ba ?_;intro w4 O be ap;have a2:Ext w2 w4:=ap w2 aq b8;have a3:=a7.trans a2;refine ρ ?_;refine ld (O.at (i:=1) rfl) ?_;refine ρ ?_;refine cl (Jsp (cs:=C) (hx.ext a3) (an.ext a3) a4.2 om) ?_;rintro vk w5 ⟨b1,a1⟩;have ab:=a3.trans a1;have a5:FitR (pmR C x):=hfit.pm a4.2 ac;obtain ⟨KA,kc,rfl,bd,bb,ay⟩:=id b1;refine ρ ?_;refine cl (Jxs (r:=pmR C x) (hTB.ext ab) ay (λv hv=>(a5.2 v hv).1) (by have:=a5.len;omega) (by have:=a5.1;omega)) ?_;rintro u w6 ⟨rfl,Z⟩
  have aa:=ab.trans Z;have ae:Ext w6 w6.drew:=(Ext.refl w6).drew;have ao:=((O.ext a1).ext Z).ext ae;have b9:=hB.ext (aa.trans ae);refine ρ ?_;refine dr [(0,0),(0,1),(0,2),(0,3),(0,4),(0,5),(0,6),(0,7)] kr ?_;refine ρd ?_;refine dld (ao.at (i:=0) rfl) ?_;refine ρd ?_;refine dld (b9.at (i:=1) c1) ?_;refine ρd ?_;refine ρ ?_;have J:Ext w6 w6.drew.drew:=ae.drew;have o:=aa.trans J;refine ci (λh=>?_) (λh=>?_)
  .have lf:U<f:=by have:=oT h;omega
   obtain ⟨mb,m,fm,e1,e2,⟨e3,e4⟩,e5⟩:=hdt _ G lf;simp only at e1 e5;have af:ta[U]?=some (.map (some mb)):=by
    rw [<-e1];have hl:=hTa.1;simp [List.getD,List.getElem?_eq_getElem (show U<ta.length by omega)]
   refine ρ ?_;refine dr [(0,0),(0,1),(0,2),(0,3),(0,4),(0,5),(0,6),(0,7),(0,8),(0,9),(0,10),(1,11),(0,12)] kr ?_;refine ρd ?_;refine dld ((hB.ext o).at (i:=8) c8) ?_;refine ρd ?_;refine dld ((((O.ext a1).ext Z).ext J).at (i:=0) rfl) ?_;refine ρd ?_;refine dix U (hTa.ext o) a4.1 ?_;refine ρd ?_;refine dld ((hTa.ext o).cell af) ?_;refine ρd ?_;refine dmlk KS (e3.ext o) zNat (Gj a5) ?_;have ai:NatV w6.drew.drew ((fm (.string (idn (pmR C x)))).getD (.slice none 0 0)) (T U (pmR C x)):=by
    rcases e5 (pmR C x) with ⟨h6,h7⟩|⟨y,h6,h7,h8⟩
    .rw [h6,h7];exact NatV.nil _
    .rw [h6];exact h8.1.ext o
   refine ρd ?_;refine dcl (Jxj (a8.ext ((a2.trans a1).trans Z |>.trans J)) ai aw.len am.len) ?_;rintro vr w7 ⟨au,aj,ah⟩;refine ⟨ah,?_⟩;refine ρd ?_;refine ρ ?_;refine Jl (i+1) vr sO ⟨li,o.trans ah,?_,λad m c e=>nL o.size (aj ad m c e)⟩ om;rw [ag];exact au
  .have lf:f<=U:=by have:=oF h;omega
   obtain ⟨mb,m,fm,e1,e2,⟨e3,e4⟩,e5,e6⟩:=hdv _ G lf;simp only at e1 e5;have af:va[U]?=some (.map (some mb)):=by
    rw [<-e1];have hl:=hV.1;simp [List.getD,List.getElem?_eq_getElem (show U<va.length by omega)]
   refine ρ ?_;refine dr [(0,0),(0,1),(0,2),(0,3),(0,4),(0,5),(0,6),(0,7),(0,8),(0,9),(0,10)] kr ?_;refine ρd ?_;refine dld ((hB.ext o).at (i:=7) c7) ?_;refine ρd ?_;refine dld ((((O.ext a1).ext Z).ext J).at (i:=0) rfl) ?_;refine ρd ?_;refine dix U (hV.ext o) a4.1 ?_;refine ρd ?_;refine dld ((hV.ext o).cell af) ?_;refine ρd ?_;refine dmlk KS (e3.ext o) Jlq (Gj a5) ?_;rw [e5];by_cases h0:0<T U (pmR C x)
   .rw [if_pos h0];have h1:=hT1 _ G lf (pmR C x);simp only at h1;refine ρd ?_;refine ρ ?_;refine Jl (i+1) vp sO ⟨li,o,?_,ak⟩ om;rw [ag,show T U (pmR C x)=1 by omega,Nat.mul_one];exact a8.ext ((a2.trans a1).trans Z |>.trans J)
   .rw [if_neg h0];refine ρd ?_;refine ρ ?_;have b3:Fresh w (.slice none 0 0):=λad m c e=>by cases e
    refine Jq ⟨?_,b3,o⟩;rw [Qvf G (show T U (pmR C x)=0 by omega)];exact NatV.nil _
 have b2:i=chs.length:=by have:=oF h;omega
 rw [b2,List.take_length]at a8;refine ρ ?_;exact Jq ⟨a8,ak,a7⟩
open Go.RowKit Pl Go.Wk
def chK(kf:Nat->Nat)(pf:Nat->Int)(v k:Nat): List (Nat×List Nat):=((List.range k).filter λc=>decide (pf c=(v:Int))).map λc=>(c,Qn (bk (kf v ||| 2^v) 32) (kf c))
theorem Jbm(kf:Nat->Nat)(pf:Nat->Int)(v k:Nat): chK kf pf v (k+1)=chK kf pf v k++if pf k=(v:Int) then [(k,Qn (bk (kf v ||| 2^v) 32) (kf k))] else []:=by
 unfold chK;rw [List.range_succ,List.filter_append,List.map_append];congr 1
 split
 .rename_i h;simp [h]
 .rename_i h;simp [h]
theorem Jzh(kf:Nat->Nat)(pf:Nat->Int)(v k:Nat): (chK kf pf v k).length<=k:=by
 unfold chK;rw [List.length_map];have:=List.length_filter_le (λc=>decide (pf c=(v:Int))) (List.range k);rw [List.length_range]at this;exact this
theorem Jhk(vars:List Nat)(s:Nat): (Qn vars s).length<=vars.length:=by
 have:=List.length_filter_le (λi=>s.testBit (vars.getD i 0)) (List.range vars.length);rw [List.length_range]at this;exact this
theorem EC: ElT Tryz.prog 206 247 2 32 (.agg #[.int .i64 0,.slice none 0 0]):=⟨Tryz.underlying206,info_parts kr,rfl,by decide⟩
theorem Qtc(z:Int)(v:Value)(A:Option Addr)(n c:Nat)(h:v=.slice A n c)(w:World): (Instr.build 247 #[(0,.int .i64 z),(1,v)]).run Tryz.prog w=.ok (.agg [.int .i64 z,v].toArray) w:=by subst h;kernel_rfl
theorem Qsc(z:Int)(v:Value)(A:Option Addr)(n c:Nat)(h:v=.slice A n c)(w:World): (Instr.buildSlice 206 1 #[(0,.agg [.int .i64 z,v].toArray)]).run Tryz.prog w=.ok (.slice (some ⟨w.heap.size,0,none⟩) 1 1) (w.alloc (.cells [.int .i64 z,v].toArray 247)):=by subst h;kernel_rfl
theorem Qzh{w:World}{b n v cb:Nat}{cs:List Value}{BA:Option Addr}{vR:Value}{kf:Nat->Nat}{pf:Nat->Int}{R:Nat->List Row}(hB:Blk w b 157 cs)(c5:cs[5]?=some (.slice BA n cb))(c6:cs[6]?=some vR)(hBags:Rd w 3 BA n (Ql n (Qd kf pf)))(hR:GV 3 AtG w vR ((List.range n).map λv=>Vd (kf v ||| 2^v) (R v)))(hn:n<=32)(hv:v<n)(hk:∀ v,v<n->kf v<4294967296):
  Ret Tryz.prog 130 [.pointer (some ⟨b,0,none⟩),.int .i64 (v:Int)] w λu w'=>OwnG 247 2 ChG w' w.heap.size u (chK kf pf v n)/\Ext w w':=by
 obtain ⟨RA,rc,ao,rfl,ad,ac,a8,ai⟩:=hR.parts;rw [List.length_map,List.length_range]at c6 ad ac a8;obtain ⟨re,an,⟨t,rfl,a9⟩,Z⟩:=ai v (by simpa using hv);simp only [List.getElem_map,List.getElem_range]at a9;obtain ⟨⟨PA,pc,aa,aq,ap,ae⟩,b1,ab⟩:=id a9;obtain ⟨t1,t2,t3⟩:=t;simp only [Vd]at aa;subst aa;have a5:(nz (bk (kf v ||| 2^v) 32)).length=(bk (kf v ||| 2^v) 32).length:=Qq _;refine Jz Tryz.func130 Tryz.ntmps130 rfl kr rfl ?_;refine ρ ?_;refine ld (hB.at (i:=5) c5) ?_;refine ρ ?_;refine Je (fun (k:Nat) (vl:Value)=>[(0,.pointer (some ⟨b,0,none⟩)),(1,.int .i64 (v:Int)),(5,vl),(11,.int .i64 (n:Int)),(12,.int .i64 (k:Int))])
  (λk vl w'=>k<=n/\Ext w w'/\OwnG 247 2 ChG w' w.heap.size vl (chK kf pf v k)) (λk _=>n-k) 0 (.slice none 0 0) sB
  ⟨Nat.zero_le _,Ext.refl _,OwnG.nil _ _⟩ ?_
 rintro k vl w1 ⟨av,C,U⟩;refine ρ ?_;refine ci (λh=>?_) (λh=>?_)
 .have lk:k<n:=by have:=oT h;omega
  clear h;have am:=hB.ext C;have J:∀ {w'} (hx:Ext w w') j u,(Qd kf pf k)[j]?=some u->w'.cell? ((adr BA (k*3)).add j)=some u:=λhx j u hu=>by
   have hj:j<3:=by
    rcases Nat.lt_or_ge j 3 with h'|h'
    .exact h'
    .rw [List.getElem?_eq_none (by simp [Qd];omega)]at hu;cases hu
   rw [Xh];exact (hBags.ext hx).cell ((Jjr (sz:=3) (λ_ _=>rfl) lk hj).trans hu)
  refine ρ ?_;refine ld (am.at (i:=5) c5) ?_;refine ρ ?_;refine ixq 3 k (hBags.ext C) lk ?_;refine ρ ?_;refine ld (J C 2 _ rfl) ?_;refine ρ ?_;refine ci (λh=>?_) (λh=>?_)
  .have hp:pf k=(v:Int):=Xd h;have a1:Ext w1 w1.drew:=(Ext.refl w1).drew;have o:=C.trans a1;have ay:=hB.ext o;obtain ⟨LA,lc,b2,au,a3⟩:=U.form;refine ρ ?_;refine drN (λk=>w.heap.size<=k) 10 [(0,0),(0,1),(0,2),(0,3),(0,4),(0,5),(0,6),(0,7),(0,8),(0,9),(0,10),(0,11),(0,12),(0,13),(0,14),(0,15),(0,16),(0,17),(1,18),(0,19),(1,20),(1,21),(0,22)] kr ?_;have aw:¬ w.heap.size<=b:=by have:=hB.lt;omega
   have G:∀ {p:Addr} {u:Value},w.cell? p=some u->∀ w',GrN (λk=>w.heap.size<=k) w1.drew w'->w'.cell? p=some u:=fun {p u} h w' hg=>
    Ul ((hg.old o λk hk=>hk)) h
   refine ρn ?_;refine nld (G (hB.at (i:=6) c6)) ?_;refine ρn ?_;refine Yk 3 v (a8.ext o) hv ?_;refine ρn ?_;refine nld (G (Z 0 _ rfl)) ?_;refine ρn ?_;refine nld (G (hB.at (i:=5) c5)) ?_;refine ρn ?_;refine Yk 3 k (hBags.ext o) lk ?_;refine ρn ?_;refine nld (G (J (Ext.refl w) 1 _ rfl)) ?_;refine ρn ?_;refine nop ?_;rw [a5];refine cl (Qxq (vars:=bk (kf v ||| 2^v) 32) (a5 ▸ ae.ext o) (hk k lk) (λu hu=>(bk_mem.1 hu).1) (Yv _ _)) ?_;rintro uc w2 ⟨a7,a4⟩;refine ρ ?_;refine Jb (GrN.ext a4) ?_;obtain ⟨CA,cc,rfl,ah,ag⟩:=Jy a7;refine ρn ?_;refine Jjg (Qtc _ _ CA _ cc rfl) ?_;refine ρn ?_;refine nop ?_;refine bsl (Qsc _ _ CA _ cc rfl) ?_;intro w3 b3 a2 ax ak;refine ρ ?_;refine Jb (GrN.ext a2) ?_;refine ρn ?_;refine nop ?_;have O:Ext w1 w3:=(a1.trans a4).trans a2;have hΦ:Off (Qa w.heap.size vl) w3 (λu=>ChG u [.int .i64 (k:Int),.slice CA (Qn (bk (kf v ||| 2^v) 32) (kf k)).length cc] (k,Qn (bk (kf v ||| 2^v) 32) (kf k))):=by
    have h1:=Jqx (Jk a7 a2) (N:=Qa w.heap.size vl) λg eg hN=>by
     have:=(ag g eg).1;rcases hN with h'|h'
     .have:=o.size;omega
     .have:=(a3 g h').2;have:=a1.size;omega
    refine h1.imp λu h=>⟨CA,cc,rfl,ah,?_,Rd.own h⟩;exact nL (Jhk (bk (kf v ||| 2^v) 32) (kf k)) (Yv (kf v ||| 2^v) 32)
   refine apG EC (Φ:=ChG) (U.ext O) ak rfl Qgr hΦ (by have:=Jzh kf pf v k;omega) om (C.trans O).size ?_;intro v4 w4 aj a6 ar;refine ρ ?_;refine Jb (GrN.by a6 λg eg=>(a3 g eg).1) ?_;refine ρn ?_;refine ρ ?_;refine Jl (k+1) v4 sO ⟨lk,Qf (C.trans O) a6 (λg eg=>(a3 g eg).1),?_⟩ om;rw [Jbm,if_pos hp];exact aj
  .have hp:pf k≠(v:Int):=Xf h;refine ρ ?_;refine Jl (k+1) vl sO ⟨lk,C,?_⟩ om;rw [Jbm,if_neg hp,List.append_nil];exact U
 have af:k=n:=by have:=oF h;omega
 rw [af]at U;refine ρ ?_;exact Jq ⟨U,C⟩
open Go.RowKit Pl Go.Wk
variable {cols:List Nat}{rows:List Row}{cs ta va:List Value}{b cv n:Nat}{pf:Nat->Int}{BA VA:Option Addr}{k:Row}{W:Row->Nat}{w w' wF:World}
structure FixW(B0 n f:Nat)(kf:Nat->Nat)(pf:Nat->Int)(R:Nat->List Row)(vR:Value)(BA:Option Addr)(wF:World): Prop where
 tb:TB B0 wF
 bags:Rd wF 3 BA n (Ql n (Qd kf pf))
 rels:GV 3 AtG wF vR ((List.range n).map λv=>Vd (kf v ||| 2^v) (R v))
 n32:n<=32
 fn:f<=n
 kb:∀ v,v<n->kf v<4294967296
 pn:∀ c,c<n->pf c≠(c:Int)
 rows:∀ v,v<n->∀ x∈R v,x.length=(bk (kf v ||| 2^v) 32).length/\FitR x
 rlen:∀ v,v<n->(R v).length<=65536
def bCs(n f:Nat)(Dv Pv Av:Value)(BA:Option Addr)(cb:Nat)(vR:Value)(VA:Option Addr)(cv:Nat)(TA:Option Addr)(ct:Nat)(Kv:Value): List Value :=
 [.int .i64 (n:Int),.int .i64 (f:Int),Dv,Pv,Av,.slice BA n cb,vR,.slice VA n cv,.slice TA n ct,Kv]
def ARk(n f:Nat)(VA:Option Addr)(cv:Nat)(TA:Option Addr)(ct:Nat)(Kv:Value)(k:Nat): Prop:=(Value.slice VA n cv).ownBlock=some k∨(Value.slice TA n ct).ownBlock=some k∨Kv.ownBlock=some k
structure BldW(wF:World)(b n:Nat)(cs:List Value)(VA:Option Addr)(cv:Nat)(TA:Option Addr)(ct:Nat)(w:World)(va ta:List Value): Prop where
 ext:Ext wF w
 blk:Blk w b 157 cs
 va:w.ownsRow wF.heap.size 205 1 (.slice VA n cv) n va
 ta:w.ownsRow wF.heap.size 213 1 (.slice TA n ct) n ta
theorem BldW.ext'{TA:Option Addr}{ct:Nat}(h:BldW wF b n cs VA cv TA ct w va ta)(hx:Ext w w'): BldW wF b n cs VA cv TA ct w' va ta :=
 ⟨h.ext.trans hx,h.blk.ext hx,Jk h.va hx,Jk h.ta hx⟩
def Zk(kf:Nat->Nat)(v:Nat): List Nat:=Qn (bk (kf v ||| 2^v) 32) (kf v)
open Classical in
noncomputable def Yl (rows:List Row) (cols:List Nat) (W:Row->Nat) (k:Row):Nat:=if ∃ x∈rows,0<W x/\pmR cols x=k then 1 else 0
theorem redT_pos: 0<Yl rows cols W k↔∃ x∈rows,0<W x/\pmR cols x=k:=by
 unfold Yl;split
 .rename_i h;exact ⟨λ_=>h,λ_=>Nat.one_pos⟩
 .rename_i h;exact ⟨λo=>om,λo=>absurd o h⟩
theorem Jrt: Yl rows cols W k<=1:=by
 unfold Yl;split<;>omega
theorem Jld{a:Atm}(h:AtG w cs a)(hx:Ext w w'): AtG w' cs a:=by
 obtain ⟨t,e,o⟩:=h;exact ⟨t,e,o.ext hx⟩
theorem Jjk{kf:Nat->Nat}{v:Nat}{p:Nat×List Nat}(h:p∈chK kf pf v n): p.1<n/\pf p.1=(v:Int)/\p.2=Qn (bk (kf v ||| 2^v) 32) (kf p.1):=by
 obtain ⟨c,o,rfl⟩:=List.mem_map.1 h;obtain ⟨C,u⟩:=List.mem_filter.1 o;exact ⟨List.mem_range.1 C,of_decide_eq_true u,rfl⟩
theorem Jgd{v:Value}(h:NatV w v n): ∃ A c,v=.slice A (Jj n).length c/\(0<(Jj n).length↔0<n):=by
 obtain ⟨A,c,e,_⟩:=h;refine ⟨A,c,e,λh=>Nat.pos_of_ne_zero (Qjc h),λh=>limbs_pos' om⟩
theorem Qdq{B0 f v cb ct:Nat}{kf:Nat->Nat}{R:Nat->List Row}{vR Dv Pv Av Kv:Value}{TA:Option Addr}{T:Nat->Row->Nat}{AR:Nat->Prop}(hF:FixW B0 n f kf pf R vR BA wF)(hW:BldW wF b n (bCs n f Dv Pv Av BA cb vR VA cv TA ct Kv) VA cv TA ct w va ta)(hv:v<n)(hdv:∀ c,c<n->pf c=(v:Int)->f<=c->DnV AR (T c) w (va.getD c (.map none)))(hdt:∀ c,c<n->pf c=(v:Int)->c<f->DnT AR (T c) w (ta.getD c (.map none)))(hT1:∀ c,f<=c->∀ k,T c k<=1)(hTb:∀ c k,T c k<=4294967296^20)(hAR:∀ k,ARk n f VA cv TA ct Kv k->AR k)(hARl:∀ k,AR k->k<w.heap.size):
  Ret Tryz.prog 83 [.pointer (some ⟨b,0,none⟩),.int .i64 (v:Int)] w λu w'=>u=.tuple #[]/\∃ mv,BldW wF b n (bCs n f Dv Pv Av BA cb vR VA cv TA ct Kv) VA cv TA ct w' (va.set v mv) ta/\GrN (λk=>(Value.slice VA n cv).ownBlock=some k) w w' /\
   DnV AR (Yl (R v) (Zk kf v) λx=>wtL T x (chK kf pf v n)) w' mv:=by
 obtain ⟨bi,hB,a7,c2⟩:=hW;have bp:=hF.n32;refine Jz Tryz.func83 Tryz.ntmps83 rfl kr rfl ?_;refine ρ ?_;refine ld (hB.at (i:=7) rfl) ?_;refine ρ ?_;refine mkm 9 ?_;intro w1 U O cn hM;obtain ⟨s1,s2,s3,s4,s5⟩:=Zl (Jk a7 O) (q:=v) om (.map (some U));have dc:va.length=n:=by have:=a7.1;omega
 refine ρ ?_;refine ix v (Rd.own (Jk a7 O)) om ?_;refine ρ ?_;refine sto (s1.trans (show va[v]?=some (va.getD v (.map none)) by simp [List.getD,List.getElem?_eq_getElem (show v<va.length by omega)])) s2 ?_;refine ρ ?_;obtain ⟨w2,bj⟩:∃ w2,w2=w1.setCell (adr VA v) (.map (some U)):=⟨_,rfl⟩;rw [<-bj]at s3 s5 ⊢;clear bj;have ai:∀ g,(Value.slice VA n cv).ownBlock=some g->wF.heap.size<=g/\g<w.heap.size:=(Jy a7).choose_spec.choose_spec.2.2;have bf:∀ g,(Value.slice TA n ct).ownBlock=some g->wF.heap.size<=g/\g<w.heap.size:=(Jy c2).choose_spec.choose_spec.2.2;have d5:=O.size;have d8:=hM.lt;have ah:Blk w2 b 157 _:=(hB.ext O).grown s5 ((hB.ext O).ne_own (Jk a7 O) rfl);have aw:w2.ownsRow wF.heap.size 213 1 (.slice TA n ct) n ta:=Xu (Jk c2 O) (Jk a7 O) s5 rfl;have c5:MapS Tryz.prog 9 w2 U 0 (λ_=>none):=hM.kept s5 (λe=>by have:=(ai U e.symm).2;omega);have bv:GrN AR w w2:=(GrN.ext O).trans (GrN.by s5 λk C=>hAR k (.inl C))
 have a2:Ext wF w2:=Qf (bi.trans O) s5 λk C=>(ai k C).1;have br:wF.heap.size<=U:=nL bi.size cn;have au:=c5.lt;obtain ⟨RA,rc,db,c7,cj,ch,bb,cy⟩:=hF.rels.parts;rw [List.length_map,List.length_range]at c7 cj ch bb;obtain ⟨re,d6,⟨t,d4,bd⟩,a4⟩:=cy v (by simpa using hv);subst d4;simp only [List.getElem_map,List.getElem_range]at bd;obtain ⟨⟨PA,pc,c9,de,dd,ck⟩,c8,ca⟩:=id bd;obtain ⟨t1,t2,t3⟩:=t;simp only [Vd]at c9 c8;subst c9;subst c8;have bo:(nz (bk (kf v ||| 2^v) 32)).length=(bk (kf v ||| 2^v) 32).length:=Qq _;have ap:∀ j u,(Qd kf pf v)[j]?=some u->wF.cell? ((adr BA (v*3)).add j)=some u:=λj u hu=>by
  have hj:j<3:=by
   rcases Nat.lt_or_ge j 3 with h'|h'
   .exact h'
   .rw [List.getElem?_eq_none (by simp [Qd];omega)]at hu;cases hu
  rw [Xh];exact hF.bags.cell ((Jjr (sz:=3) (λ_ _=>rfl) hv hj).trans hu)
 subst c7;have aj:Ext w2 w2.drew:=(Ext.refl w2).drew;have G:=a2.trans aj;have bc:=ah.ext aj;refine dr [(0,0),(0,1),(0,3),(0,4),(0,5),(0,6),(0,7),(0,8),(0,9),(0,10),(0,11),(0,12),(0,13),(0,14),(0,15),(0,16),(0,17),(0,18),(1,2),(1,19),(0,20),(0,21)] kr ?_;refine ρd ?_;refine dld (bc.at (i:=6) rfl) ?_;refine ρd ?_;refine Kj 3 v (bb.ext G) hv ?_;refine ρd ?_;refine dld (Ul G (a4 0 _ rfl)) ?_;refine ρd ?_;refine dld (bc.at (i:=5) rfl) ?_;refine ρd ?_;refine Kj 3 v (hF.bags.ext G) hv ?_;refine ρd ?_;refine dld (Ul G (ap 1 _ rfl)) ?_;refine ρd ?_;refine dcl (Qzh (R:=R) bc rfl rfl (hF.bags.ext G) (hF.rels.ext G λcs a h=>Jld h G) bp hv hF.kb) ?_;rintro vl w3 ⟨d0,am⟩;refine ⟨am,?_⟩;have bh:=G.trans am;refine ρd ?_;rw [bo];refine dcl (Qxq (vars:=bk (kf v ||| 2^v) 32) (bo ▸ ck.ext bh) (hF.kb v hv) (λu hu=>(bk_mem.1 hu).1) (Yv _ _)) ?_;rintro uc w4 ⟨bz,b4⟩
 refine ⟨b4,?_⟩;obtain ⟨CA,cc,rfl,di,cw⟩:=Jy bz;refine ρd ?_;refine ρ ?_;have a3:=(aj.trans am).trans b4;have a9:=a2.trans a3;have d3:=ah.ext a3;have b6:∀ j u,([.int .i64 ((bk (kf v ||| 2^v) 32).length:Int),t3]:List Value)[j]?=some u->w4.cell? (((adr RA (v*3)).add 1).add j)=some u:=λj u hu=>by
  have:=a4 (1+j) u (by rw [Nat.add_comm];exact hu);rw [Xh]at this;rw [Xh,Xh,Nat.add_assoc];exact Ul a9 this
 refine ld (d3.at (i:=6) rfl) ?_;refine ρ ?_;refine ixq 3 v (bb.ext a9) hv ?_;refine ρ ?_;refine lds (cs:=[.int .i64 ((bk (kf v ||| 2^v) 32).length:Int),t3]) b6 ?_;refine ρ ?_;refine cl (Jdx (ar:=(bk (kf v ||| 2^v) 32).length) (ls:=R v) ((bd.ext a9).rel)) ?_;rintro ur w5 ⟨b3,an⟩;obtain ⟨ps,GA,gc,be,rfl,dh,d7,bn,b5⟩:=an;have Z:(R v).length=ps.length:=by rw [be,List.length_map]
 have aa:=a3.trans b3;have bq:U<w4.heap.size:=nM au a3.size;have b7:b≠U:=λe=>by have h1:=hB.lt;omega
 refine ρ ?_;refine Xm (fun (i:Nat) (m:Nat) (fm:Lit->Option Value)=>[(0,.pointer (some ⟨b,0,none⟩)),(1,.int .i64 (v:Int)),(4,vl),(5,.slice CA (Zk kf v).length cc),(43,.slice GA ps.length gc),(44,.int .i64 (ps.length:Int)),(45,.int .i64 (i:Int))])
  (λi m fm w'=>i<=ps.length/\GrN (λk=>k=U) w5 w'/\MapS Tryz.prog 9 w' U m fm/\m<=i/\(∀ k:Row,fm (.string (idn k))=if 0<Yl ((R v).take i) (Zk kf v) (λx=>wtL T x (chK kf pf v n)) k then some (.bool true) else none)/\∀ kl,fm kl≠none->∃ k:Row,kl=.string (idn k)) (λi _ _=>ps.length-i) 0 0 (λ_=>none) sB
  ⟨Nat.zero_le _,GrN.refl _ _,c5.ext aa,Nat.le_refl _,λk=>?_,λkl h=>absurd rfl h⟩ ?_
 .rw [if_neg];intro h;obtain ⟨x,hx,_⟩:=redT_pos.1 h;simp at hx
 rintro i m fm w6 ⟨hi,af,c4,df,ao,b8⟩;refine ρ ?_;refine ci (λh=>?_) (λh=>?_)
 .have li:i<ps.length:=by have:=oT h;omega
  clear h;obtain ⟨x,b1⟩:∃ x,x=(ps.getD i z0).2:=⟨_,rfl⟩;have cd:x∈R v:=by rw [be,b1];exact List.mem_map_of_mem (getD_mem' z0 ps li)
  have ay:(R v).getD i []=x:=by rw [be,b1];simp [List.getD,List.getElem?_eq_getElem li]
  obtain ⟨ax,a8⟩:=hF.rows v hv x cd;have o:GrN (λk=>k=U) w2 w6:=(GrN.ext aa).trans af;have a1:Ext wF w6:=o.old a2 λk C=>by rw [C];exact br
  have d2:=Jv ah o b7;have c1:=Rd.own (Js s3 o λg eg e=>by have:=(ai g eg).2;omega);have cx:=Rd.own (Js aw o λg eg e=>by have:=(bf g eg).2;omega);have cz:GV 2 ChG w6 vl (chK kf pf v n):=((((d0.ext b4).ext b3).gr af λk C=>by rw [C];exact au)).gv (by have:=Jzh kf pf v n;omega);have av:GrN (λk=>k<w4.heap.size) w5 w6:=af.mono λk _ C=>by rw [C];exact bq
  have ac:RowV w6 (ps.getD i z0).1 x:=by rw [b1];exact b5 _ (getD_mem' z0 ps li) w6 av
  have aq:=bn w6 av;have a5:GrN AR w w6:=((bv.mono λk _ C=>(.inl C:AR k∨k=U)).trans (o.mono λk _ C=>.inr C)).mono λk C h=>h.elim id λe=>by omega
  have bm:∀ c,c≠v->(va.set v (.map (some U))).getD c (.map none)=va.getD c (.map none):=λc hc=>by simp [List.getD,List.getElem?_set_ne (Ne.symm hc)]
  have cm:∀ c,c<n->pf c=(v:Int)->c≠v:=λc hc hp e=>hF.pn c hc (by rw [hp,e]);refine ρ ?_;refine ix i aq li ?_;refine ρ ?_;refine ld (aq.cell (show (ps.map (·.1))[i]?=some (ps.getD i z0).1 by simp [List.getD,List.getElem?_eq_getElem li])) ?_
  refine ρ ?_;refine cl (Jmr (T:=T) (AR:=AR) (hF.tb.ext a1) d2 rfl rfl rfl c1 cx cz (by have:=Jzh kf pf v n;omega) (λp hp=>?_) ac a8 (λp hp ae=>?_) (λp hp ae=>?_) (λp hp ae k=>hT1 _ ae k) (λp hp k=>hTb _ k)) ?_
  .obtain ⟨h1,h2,h3⟩:=Jjk hp;refine ⟨h1,λc hc=>?_⟩;rw [h3]at hc;rw [ax];exact Jzc hc
  .obtain ⟨h1,h2,h3⟩:=Jjk hp;rw [bm _ (cm _ h1 h2)];exact (hdv _ h1 h2 ae).gr a5
  .obtain ⟨h1,h2,h3⟩:=Jjk hp;exact (hdt _ h1 h2 ae).gr a5
  rintro vw w7 ⟨ce,_,a6⟩;obtain ⟨WA,wc,rfl,ab⟩:=Jgd ce;have c3:=c4.ext a6;have b9:=af.trans (GrN.ext a6);refine ρ ?_;refine ci (λh=>?_) (λh=>?_)
  .have ad:0<wtL T x (chK kf pf v n):=ab.1 (by have:=oT h;omega);have bt:GrN (λk=>k=U) w2 w7:=o.trans (GrN.ext a6);have bg:=a1.trans a6;have J:Ext w7 w7.drew:=(Ext.refl w7).drew;have d1:=(Jv ah bt b7).ext J;have c0:Rd w7.drew 1 VA n (va.set v (.map (some U))):=c1.ext (a6.trans J);have bw:Rd w7.drew 1 CA (Zk kf v).length (Jt (nz (Zk kf v))):=Rd.own (Jk (Js (Jk bz b3) b9 λg eg e=>by have:=(cw g eg).1;have:=am.size;have:=aj.size;omega) J);have ag:FitR (pmR (Zk kf v) x):=a8.pm (λc hc=>by rw [ax];exact Jzc hc) (nL (Jhk _ _) (Yv _ _));have cg:(va.set v (.map (some U)))[v]?=some (.map (some U)):=by rw [List.getElem?_set_self om]
   refine ρ ?_;refine drN (λ_=>False) 10 [(0,0),(0,1),(0,2),(0,3),(0,4),(0,5),(0,6),(0,7),(0,8),(1,9),(1,10),(2,11)] kr ?_;refine ρn ?_;refine nld (Jp (d1.at (i:=7) rfl) (λe=>e)) ?_;refine ρn ?_;refine nix v c0 hv ?_;refine ρn ?_;refine nld (Jp (c0.cell cg) (λe=>e)) ?_;refine ρn ?_;refine nop ?_;refine cl (Jsp (cs:=Zk kf v) ((ac.ext a6).ext J) bw (λc hc=>by rw [ax];exact Jzc hc) (by have:=Jhk (bk (kf v ||| 2^v) 32) (kf v);have:=Yv (kf v ||| 2^v) 32;unfold Zk;omega)) ?_;rintro uk w8 ⟨cq,ak⟩;obtain ⟨KA,kc,rfl,dg,d9,co⟩:=id cq;refine ρ ?_;refine Jb (GrN.ext ak) ?_;refine ρn ?_;refine nop ?_;refine cl (Jxs (r:=pmR (Zk kf v) x) ((hF.tb.ext (bg.trans J)).ext ak) co (λu hu=>(ag.2 u hu).1) (by have:=ag.len;omega) (by have:=ag.1;omega)) ?_;rintro un w9 ⟨rfl,b2⟩;refine ρ ?_;refine Jb (GrN.ext b2) ?_;refine ρn ?_;refine Xy ?_;refine mup KS (((c3.ext J).ext ak).ext b2) (by unfold maxLen;omega) (Gj ag) ?_
   intro da c6 bu;refine ρ ?_;refine Qt (i+1) (m+1) (upL fm (.string (idn (pmR (Zk kf v) x))) (some (.bool true))) sO ⟨li,((b9.trans (GrN.ext J)).trans ((GrN.ext ak).trans (GrN.ext b2))).trans (GrN.by bu λk C=>by injection C with C;exact C.symm),c6,om,λk=>?_,λkl bs=>?_⟩ om
   .by_cases e:pmR (Zk kf v) x=k
    .rw [<-e,Gy (KS.key (Gj ag)),if_pos];refine redT_pos.2 ⟨x,?_,ad,rfl⟩;rw [Qb [] (by rw [Z];exact li),ay];exact List.mem_append_right _ (List.mem_singleton.2 rfl)
    .rw [Yg (λe'=>e (Jyv (by injection e'.symm))),ao k];have e2:(0<Yl ((R v).take (i+1)) (Zk kf v) (λx=>wtL T x (chK kf pf v n)) k)↔(0<Yl ((R v).take i) (Zk kf v) (λx=>wtL T x (chK kf pf v n)) k):=by
      rw [redT_pos,redT_pos,Qb [] (by rw [Z];exact li),ay];constructor
      .rintro ⟨y,hy,h1,h2⟩;rcases List.mem_append.1 hy with h3|h3
       .exact ⟨y,h3,h1,h2⟩
       .rw [List.mem_singleton.1 h3]at h2;exact absurd h2 e
      .rintro ⟨y,hy,h1,h2⟩;exact ⟨y,List.mem_append_left _ hy,h1,h2⟩
     simp only [e2]
   .by_cases e:kl=.string (idn (pmR (Zk kf v) x))
    .exact ⟨_,e⟩
    .rw [Yg e]at bs;exact b8 kl bs
  .have ad:¬ 0<wtL T x (chK kf pf v n):=λh'=>by have:=ab.2 h';have:=oF h;omega
   refine ρ ?_;refine Qt (i+1) m fm sO ⟨li,b9,c3,om,λk=>?_,b8⟩ om;rw [ao k];have e:(0<Yl ((R v).take (i+1)) (Zk kf v) (λx=>wtL T x (chK kf pf v n)) k)↔(0<Yl ((R v).take i) (Zk kf v) (λx=>wtL T x (chK kf pf v n)) k):=by
    rw [redT_pos,redT_pos,Qb [] (by rw [Z];exact li),ay];constructor
    .rintro ⟨y,hy,h1,h2⟩;rcases List.mem_append.1 hy with h3|h3
     .exact ⟨y,h3,h1,h2⟩
     .rw [List.mem_singleton.1 h3]at h1;exact absurd h1 ad
    .rintro ⟨y,hy,h1,h2⟩;exact ⟨y,List.mem_append_left _ hy,h1,h2⟩
   simp only [e]
 have cr:i=ps.length:=by have:=oF h;omega
 rw [cr,<-Z,List.take_length]at ao;have o:GrN (λk=>k=U) w2 w6:=(GrN.ext aa).trans af;have a1:Ext wF w6:=o.old a2 λk C=>by rw [C];exact br
 have ba:GrN (λk=>(Value.slice VA n cv).ownBlock=some k) w w2:=(GrN.ext O).trans (GrN.by s5 λk C=>C);have a5:GrN (λk=>(Value.slice VA n cv).ownBlock=some k) w w6:=((ba.mono λk _ C=>(.inl C:(Value.slice VA n cv).ownBlock=some k∨k=U)).trans (o.mono λk _ C=>.inr C)).mono λk C h=>h.elim id λe=>by omega
 refine ρ ?_;refine Uf ⟨rfl,.map (some U),⟨a1,Jv ah o b7,Js s3 o λg eg e=>(by have:=(ai g eg).2;omega),Js aw o λg eg e=>(by have:=(bf g eg).2;omega)⟩,a5,U,m,fm,rfl,by have:=hF.rlen v hv;omega,⟨c4,?_⟩,ao,b8⟩;intro h';have:=hARl U h';omega
end Go.Proofs.YtebcagekopgdhaaGreatDoor
namespace Go.Wk
open Go.RowKit
variable {cs xs:List Value}{base c e m n q ty:Nat}{A:Option Addr}{P:Program}{w:World}
theorem Qgl{sz:Nat}(ho:w.ownsRow base e sz (.slice A m c) m xs)(hj:q+cs.length<=m*sz)(h0:0<cs.length)(h1:∀ u∈cs,u.oneCell'=true):
  ∃ w',(storeCells (adr A q) cs).run P w=.ok () w'/\w'.ownsRow base e sz (.slice A m c) m (xs.take q++cs++xs.drop (q+cs.length))/\w.grownBy w' (Value.slice A m c).ownBlock:=by
 rcases ho.2 with ⟨hn,J⟩|⟨g,cap,cur,hv,hb,hg,hc,hcm,hcs,ht⟩
 .rw [J,Nat.zero_mul]at hj;omega
 injection hv with G _ e3
 subst G;subst e3;have O:m*sz<=c*sz:=nO _ hc;have U:adr (some ⟨g,0,none⟩) q=⟨g,q,none⟩:=by simp [adr,Vo]
 rw [U];have o:=run_storeCells_at (P:=P) g q e cs 0 cur w hg om h1;simp only [Nat.add_zero]at o;refine ⟨_,o,⟨?_,.inr ⟨g,c,_,rfl,hb,setRow_heap w g cur _ e (0,0) hg,hc,hcm,?_,?_⟩⟩,?_⟩
 .have:=ho.1;simp only [List.length_append,List.length_take,List.length_drop];omega
 .simp only [List.size_toArray,List.length_append,List.length_take,List.length_drop,Array.length_toList,hcs];omega
 .simp only;have C:(cur.toList.take q++cs).length=q+cs.length:=by rw [List.length_append,List.length_take,Array.length_toList,hcs];omega
  rw [List.take_append,C];have G:(cur.toList.take q++cs).take (m*sz)=cur.toList.take q++cs:=List.take_of_length_le om;rw [G,<-ht,List.take_take,Nat.min_eq_left om,List.drop_take]
 .exact Jjp w g (cur.toList.take q++cs++cur.toList.drop (q+cs.length)).toArray
theorem stoG{al:AL}{Q:Exit->Act->World->Prop}{ops:Array Oper}{rest:List Oper}{pos:String}{aft:Array Edge}{tt:TT}[h:Tab P tt]{x y:Operand}{t sz:Nat}{k:TK}(ho:w.ownsRow base e sz (.slice A m c) m xs)(hj:q+cs.length<=m*sz)(h0:0<cs.length)(kk:∀ w1,w1.ownsRow base e sz (.slice A m c) m (xs.take q++cs++xs.drop (q+cs.length))->w.grownBy w1 (Value.slice A m c).ownBlock->WL P n ops Q rest al w1)(h1:∀ u∈cs,u.oneCell'=true)(ht:tk tt t=some k:=by rfl)(hk:k.desc=.invalid:=by rfl)(hs:k.size=cs.length:=by rfl)(hx:ev al x=some (.pointer (some (adr A q))):=by rfl)(hy:ev al y=some (.agg cs.toArray):=by rfl):
  WL P n ops Q (⟨none,.store t x y,ty,pos,aft,none⟩::rest) al w:=by
 obtain ⟨w',C,G,J⟩:=Qgl (P:=P) ho hj h0 h1;refine Iy (λa O=>?_) (kk w' G J);have o:=Vw w (Jqp h.ok ht hk w).2;simp [execOp,O.ev hx,O.ev hy,Instr.storeAt,Instr.sureAddr,storeVar,Value.cells,o,hs,C]
end Go.Wk
namespace Go.Proofs.YtebcagekopgdhaaGreatDoor
open Go.RowKit Pl Go.Wk
attribute [local irreducible] WC WL QX WD WDB WP WN WG
variable {d:Bool}{N:Nat->Prop}{v:Value}{w w':World}
abbrev BkT:= Row×Tr
def BkE(d:Bool)(N:Nat->Prop)(w:World)(cs:List Value)(b:BkT): Prop:=∃ kv q,cs=[kv,.bool d,q]/\RowX w N kv b.1/\TrV N w b.2 q
theorem RowX.gr{r:Row}(h:RowX w N v r)(hg:GrN N w w'): RowX w' N v r:=by
 obtain ⟨A,c,J,G,C,u,o⟩:=h;exact ⟨A,c,J,G,C,Vj u hg λh0 U e=>o (λO=>by rw [O]at h0;simp [Jm]at h0) U e,o⟩
theorem BkE.gr{d:Bool}{N:Nat->Prop}{w w':World}{cs:List Value}{b:BkT}(h:BkE d N w cs b)(hg:GrN N w w'): BkE d N w' cs b:=by
 obtain ⟨kv,q,C,u,o⟩:=h;exact ⟨kv,q,C,u.gr hg,o.gr hg⟩
theorem BkE.ext{d:Bool}{N:Nat->Prop}{w w':World}{cs:List Value}{b:BkT}(h:BkE d N w cs b)(hx:Ext w w'): BkE d N w' cs b:=h.gr (GrN.ext hx)
theorem BkE.old{d:Bool}{N N':Nat->Prop}{w:World}{cs:List Value}{b:BkT}(h:BkE d N w cs b)(hs:∀ k,N' k->N k∨w.heap.size<=k): BkE d N' w cs b:=by
 obtain ⟨kv,q,C,u,o⟩:=h;exact ⟨kv,q,C,u.mono λk G h=>(hs k h).elim id λJ=>om,o.old hs⟩
structure OwnB(d:Bool)(base:Nat)(w:World)(v:Value)(ps:List (List Value×BkT)): Prop where
 own:w.ownsRow base 140 3 v ps.length (Qj ps)
 el:∀ p∈ps,BkE d (Qa base v) w p.1 p.2
theorem BkE.len{cs:List Value}{b:BkT}(h:BkE d N w cs b): cs.length=3:=by
 obtain ⟨kv,q,rfl,_⟩:=h;rfl
theorem OwnB.nil(d:Bool)(base:Nat)(w:World): OwnB d base w (.slice none 0 0) []:=⟨Xa _ _ _ _,λp o=>by cases o⟩
theorem OwnB.form{base:Nat}{ps:List (List Value×BkT)}(h:OwnB d base w v ps): ∃ A c,v=.slice A ps.length c/\ps.length<=c/\∀ g,v.ownBlock=some g->base<=g/\g<w.heap.size:=Jy h.own
theorem OwnB.gr{d:Bool}{base:Nat}{w w':World}{v:Value}{ps:List (List Value×BkT)}(h:OwnB d base w v ps){N:Nat->Prop}(hg:GrN N w w')(hN:∀ k,N k->k<base): OwnB d base w' v ps:=by
 obtain ⟨_,_,_,_,C⟩:=h.form;exact ⟨Js h.own hg (λg G hn=>by have:=(C g G).1;have:=hN g hn;omega),λp o=>(h.el p o).gr (hg.mono λk _ u=>.inl (hN k u))⟩
theorem OwnB.ext{d:Bool}{base:Nat}{w w':World}{v:Value}{ps:List (List Value×BkT)}(h:OwnB d base w v ps)(hx:Ext w w'): OwnB d base w' v ps:=h.gr (N:=λ_=>False) (GrN.ext hx) λk e=>e.elim
theorem BkE.one{d:Bool}{N:Nat->Prop}{w:World}{cs:List Value}{b:BkT}(h:BkE d N w cs b): ∀ u∈cs,u.oneCell'=true:=by
 obtain ⟨kv,q,rfl,G,C⟩:=h;obtain ⟨p,rfl⟩:=C.ptr;intro u o;simp only [List.mem_cons,List.not_mem_nil,or_false]at o;rcases o with rfl|rfl|rfl
 .exact G.v.one
 .rfl
 .rfl
theorem EBk: ElT Tryz.prog 134 140 3 40 (.agg #[.slice none 0 0,.bool false,.pointer none]):=⟨Tryz.underlying134,info_parts kr,rfl,by decide⟩
open Go.RowKit Pl Go.Wk
variable {d dir:Bool}{ps:List (List Value×BkT)}{bs i:List (Row×Tr)}{b base m n ty:Nat}{x:Row}{wt:Row->Nat}
theorem apB{al:AL}{w:World}{Q:Exit->Act->World->Prop}{ops:Array Oper}{rest:List Oper}{d:Nat}{pos:String}{aft:Array Edge}{x y:Operand}{v:Value}{cs:List Value}{bt:BkT}(ho:OwnB dir base w v ps)(hb:Blk w b 140 cs)(hΦ:BkE dir (Qa base v) w cs bt)(hm:ps.length<=1000000)(hbase:base<=w.heap.size)(kk:∀ v' w',OwnB dir base w' v' (ps++[(cs,bt)])->w.grownBy w' v.ownBlock->WL Tryz.prog n ops Q rest ((d,v')::al) w')(hx:ev al x=some v:=by rfl)(hy:ev al y=some (.slice (some ⟨b,0,none⟩) 1 1):=by rfl)(hd:Nat.blt d n=true:=by rfl):
  WL Tryz.prog n ops Q (⟨some d,.call { callee:=.builtin .append,args:=#[x,y],argTypes:=#[134,134] },ty,pos,aft,none⟩::rest) al w:=by
 refine apb (m':=1) (news:=cs) EBk ho.own (hb.rd (n:=1) (by rw [hΦ.len])) hΦ.one (by unfold maxLen;omega) om hbase ?_ hx hy hd;intro v' w' C G hn;refine kk v' w' ⟨?_,?_⟩ G
 .rw [List.length_append,List.length_singleton];have e:Qj (ps++[(cs,bt)])=Qj ps++cs:=by simp [Qj]
  rw [e];exact C
 .have key:∀ p:List Value×BkT,BkE dir (Qa base v) w p.1 p.2->BkE dir (Qa base v') w' p.1 p.2:=λp u=>by
   have O:BkE dir (λk=>Qa base v k∨Qa base v' k) w p.1 p.2:=u.old λk o=>by
    rcases o with h|h|h
    .exact .inl h
    .exact .inl (.inl h)
    .rcases hn k h with h'|h'
     .exact .inl (.inr h')
     .exact .inr h'
   exact (O.gr (GrN.by G λk o=>.inl (.inr o))).old λk o=>.inl (.inr o)
  intro p J;rcases List.mem_append.1 J with u|u
  .exact key p (ho.el p u)
  .rw [List.mem_singleton.1 u];exact key (cs,bt) hΦ
theorem Qnk(hl:∀ p∈ps,p.1.length=3)(kv x1 x2 y1 y2:Value)(b b':BkT):
  (Qj (ps++[([kv,x1,x2],b)])).take (ps.length*3+1)++[y1,y2]++(Qj (ps++[([kv,x1,x2],b)])).drop (ps.length*3+1+2)=Qj (ps++[([kv,y1,y2],b')]):=by
 have e:∀ z:List Value×BkT,Qj (ps++[z])=Qj ps++z.1:=λz=>by simp [Qj]
 have C:=Jgw hl;rw [e,e,<-C];simp only;have u:(Qj ps++[kv,x1,x2]).take ((Qj ps).length+1)=Qj ps++[kv]:=by
  rw [List.take_append,List.take_of_length_le om,Nat.add_sub_cancel_left];rfl
 have o:(Qj ps++[kv,x1,x2]).drop ((Qj ps).length+1+2)=[]:=List.drop_of_length_le (by simp);rw [u,o];simp
theorem Qbz(h0:wt x≠0)(h1:¬ (bs.getLast?.map (·.1))=some (x.take m)): Pl.stepG d wt m bs x=bs++[(x.take m,Tr.put d (x.getD m V0) (wt x) .nil)]:=by
 rw [Pl.stepG,if_neg h0,if_neg h1]
theorem Qcb{t:Tr}(h0:wt x≠0): Pl.stepG d wt m (i++[(x.take m,t)]) x=i++[(x.take m,Tr.put d (x.getD m V0) (wt x) t)]:=by
 rw [Pl.stepG,if_neg h0,if_pos (by simp)];simp
theorem Qbx(h0:wt x=0): Pl.stepG d wt m bs x=bs:=by rw [Pl.stepG,if_pos h0]
def Vq(d:Bool)(wt:Row->Nat)(m:Nat)(rs:List Row): List BkT:=rs.foldl (Pl.stepG d wt m) []
theorem Jyw(d:Bool)(wt:Row->Nat)(m:Nat)(rs:List Row)(x:Row): Vq d wt m (rs++[x])=Pl.stepG d wt m (Vq d wt m rs) x:=by
 unfold Vq;rw [List.foldl_append];rfl
theorem Jkv{rs:List Row}(hs:Lt [] rs)(hl:∀ y∈rs,y.length=m+1): GInv d wt m rs (Vq d wt m rs):=by
 suffices h:∀ k,k<=rs.length->GInv d wt m (rs.take k) (Vq d wt m (rs.take k)) by
  have:=h rs.length (Nat.le_refl _);rw [List.take_length]at this;exact this
 intro k;induction k with
 | zero=>intro _;exact GInv.nil d wt m
 | succ k ih=>
  intro u;have e:=Qb [] (show k<rs.length by omega);rw [e,Jyw];refine (ih om).step ?_ ?_
  .rw [<-e];exact hs.sublist (List.take_sublist _ _)
  .rw [<-e];exact λy o=>hl y (List.mem_of_mem_take o)
def Uk(bs:List BkT)(k:Row): Nat:=match bs.find? λb=>decide (b.1=k) with
 | some b=>b.2.sum
 | none=>0
theorem Jcv(bs:List BkT)(k:Row): Uk bs k=tot (entK bs k):=by
 unfold Uk entK;cases bs.find? λb=>decide (b.1=k) with
 | some b=>exact Tr.sum_eq _
 | none=>rfl
end Go.Proofs.YtebcagekopgdhaaGreatDoor
namespace Go.Wk
variable {d n t ty:Nat}
theorem dalc'{P:Program}{al:AL}{w:World}{Q:Exit->Act->World->Prop}{ops:Array Oper}{drest:List (Nat×Oper)}{pos:String}{aft:Array Edge}{z:Value}{cs:List Value}(hz:Qp P t=some z)(kk:∀ w1 b,Ext w w1->w.heap.size<=b->Blk w1 b t cs->WD P n ops Q drest ((d,.pointer (some ⟨b,0,none⟩))::al) w1)(hv:z.cells=cs.toArray:=by rfl)(hd:Nat.blt d n=true:=by rfl):
  WD P n ops Q ((1,⟨some d,.alloc t,ty,pos,aft,none⟩)::drest) al w:=Uh (alc hz (λw1 b o C u=>Jg (Ug o (kk w1 b o C u))) hv hd)
end Go.Wk
namespace Go.Proofs.YtebcagekopgdhaaGreatDoor
open Go.RowKit Pl Go.Wk
attribute [local irreducible] WC WL QX WD WDB WP WN WG
variable {d:Bool}{S e k m n:Nat}{AR N:Nat->Prop}{Av Pv v vR:Value}{w wF:World}
theorem Qkb(kv:Value)(A:Option Addr)(n c:Nat)(d:Bool)(p:Option Addr)(h:kv=.slice A n c)(w:World): (Instr.build 140 #[(0,kv),(1,.agg #[.bool d,.pointer p])]).run Tryz.prog w=.ok (.agg [kv,.bool d,.pointer p].toArray) w:=by subst h;kernel_rfl
theorem Qzr(kv:Value)(A:Option Addr)(n c:Nat)(d:Bool)(p:Option Addr)(h:kv=.slice A n c)(w:World): (Instr.buildSlice 134 1 #[(0,.agg [kv,.bool d,.pointer p].toArray)]).run Tryz.prog w=.ok (.slice (some ⟨w.heap.size,0,none⟩) 1 1) (w.alloc (.cells [kv,.bool d,.pointer p].toArray 140)):=by subst h;kernel_rfl
def DnB(AR:Nat->Prop)(d:Bool)(w:World)(x:Value)(bs:List BkT): Prop:=∃ (ps:List (List Value×BkT)) (A:Option Addr) (c:Nat),bs=ps.map (·.2)/\x=.slice A ps.length c/\ps.length<=c/\ps.length<=65536/\Rd w 3 A ps.length (Qj ps)/\(0<ps.length->∀ ad,A=some ad->¬ AR ad.block)/\∀ p∈ps,p.1.length=3/\BkE d AR w p.1 p.2
theorem DnB.gr{AR:Nat->Prop}{d:Bool}{w w':World}{x:Value}{bs:List BkT}(h:DnB AR d w x bs)(hg:GrN AR w w'): DnB AR d w' x bs:=by
 obtain ⟨ps,A,c,Z,U,O,J,G,C,u⟩:=h;refine ⟨ps,A,c,Z,U,O,J,Vj G hg λh0 ad e=>C ?_ ad e,C,λp o=>⟨(u p o).1,(u p o).2.gr hg⟩⟩;have:=G.1;omega
theorem Nb.big(hS:S<=4294967296^e)(he:e<=800)(hk:k<=4294967296)(hn:n<=k*S): Nb n:=by
 have o:k*S<=4294967296^(e+1):=by
  rw [Nat.pow_succ,Nat.mul_comm];exact Nat.mul_le_mul hS hk
 exact Nat.lt_of_le_of_lt (nL hn o) (Nat.pow_lt_pow_right (by decide) (by rw [Jlb];omega))
theorem Jds(x:Row)(h:m<=x.length): (Jm x).take (m*3)=Jm (x.take m):=by
 have e:Jm x=Jm (x.take m)++Jm (x.drop m):=by rw [<-rowC_app',List.take_append_drop]
 rw [e];refine List.take_left' ?_;rw [Jrj,List.length_take,Nat.min_eq_left h]
theorem Jcs{p:Value}{t:Tr}(h:TrV N w t p)(hn:Nb t.sum): Ret Tryz.prog 114 [.agg #[.bool d,p]] w λu w'=>NatV w' u t.sum/\Fresh w u/\Ext w w':=by
 obtain ⟨q,rfl⟩:=h.ptr;refine Jz Tryz.func114 Tryz.ntmps114 rfl kr rfl ?_;refine ρ ?_;refine bx ?_;intro w1 b o hb U;refine ρ ?_;refine ld (U.at (i:=1) rfl) ?_;refine ρ ?_;refine cl (Jqm (h.ext o)) ?_;rintro u w2 ⟨O,rfl⟩;refine ρ ?_;refine cl (Jyj O.1 hn.len) ?_;rintro u3 w3 ⟨G,J,C⟩;refine ρ ?_;exact Jq ⟨G,λZ m c e=>nL o.size (J Z m c e),o.trans C⟩
theorem Jcd: Qp Tryz.prog 140=some (.agg #[.slice none 0 0,.bool false,.pointer none]):=kr
theorem Jyc{p:Option Addr}(h:v.oneCell'=true): ∀ u∈[v,.bool d,.pointer p],u.oneCell'=true:=λu o=>by
 simp only [List.mem_cons,List.not_mem_nil,or_false]at o;rcases o with rfl|rfl|rfl
 .exact h
 .rfl
 .rfl
theorem Qbd(bs:List BkT)(b:BkT)(k:Row)(h:b.1 ∉ bs.map (·.1)): Uk (bs++[b]) k=if b.1=k then b.2.sum else Uk bs k:=by
 unfold Uk;rw [List.find?_append];by_cases e:b.1=k
 .rw [if_pos e];have:bs.find? (λc=>decide (c.1=k))=none:=List.find?_eq_none.2 λc o u=>h (by rw [e];exact List.mem_map.2 ⟨c,o,by simpa using u⟩);rw [this];simp [e]
 .rw [if_neg e];cases hf:bs.find? (λc=>decide (c.1=k)) with
  | some c=>simp
  | none=>simp [e]
theorem Qbb{wt:Row->Nat}{rs:List Row}{bs:List BkT}(h:GInv d wt m rs bs){b:BkT}(hb:b∈bs): 0<b.2.sum:=by
 obtain ⟨G,C⟩:=h.con b hb;rw [Tr.sum_eq,G,Jbh];exact (Qyx λp o=>by obtain ⟨x,_,_,_,_,u⟩:=entL_mem.1 o;exact u).2 C
theorem Qnc{B0 f b v cb cv ct ck dc:Nat}{kf:Nat->Nat}{pf:Nat->Int}{R:Nat->List Row}{BA VA TA KA DA:Option Addr}{va ta ba:List Value}{ds:List Bool}{T:Nat->Row->Nat}(hF:FixW B0 n f kf pf R vR BA wF)(hds:ds.length=f)(hD:RdB wF DA ds)(hW:BldW wF b n (bCs n f (.slice DA f dc) Pv Av BA cb vR VA cv TA ct (.slice KA f ck)) VA cv TA ct w va ta)(hBa:w.ownsRow wF.heap.size 134 1 (.slice KA f ck) f ba)(hvf:v<f)(hm:0<(bk (kf v ||| 2^v) 32).length)(hval:∀ x∈R v,Xj (x.getD ((bk (kf v ||| 2^v) 32).length-1) V0)=true)(hlt:Lt [] (R v))(hdv:∀ c,c<n->pf c=(v:Int)->f<=c->DnV AR (T c) w (va.getD c (.map none)))(hdt:∀ c,c<n->pf c=(v:Int)->c<f->DnT AR (T c) w (ta.getD c (.map none)))(hT1:∀ c,f<=c->∀ k,T c k<=1)(hTb:∀ c k,T c k<=4294967296^20)(hAR:∀ k,ARk n f VA cv TA ct (.slice KA f ck) k->AR k)(hARl:∀ k,AR k->k<w.heap.size):
  Ret Tryz.prog 84 [.pointer (some ⟨b,0,none⟩),.int .i64 (v:Int)] w λu w'=>u=.int .i64 0/\∃ mv lv,BldW wF b n (bCs n f (.slice DA f dc) Pv Av BA cb vR VA cv TA ct (.slice KA f ck)) VA cv TA ct w' va (ta.set v mv)/\w'.ownsRow wF.heap.size 134 1 (.slice KA f ck) f (ba.set v lv) /\
   GrN AR w w'/\DnT AR (Uk (Vq (ds.getD v false) (λx=>wtL T x (chK kf pf v n)) ((bk (kf v ||| 2^v) 32).length-1) (R v))) w' mv /\
   DnB AR (ds.getD v false) w' lv (Vq (ds.getD v false) (λx=>wtL T x (chK kf pf v n)) ((bk (kf v ||| 2^v) 32).length-1) (R v)):=by
 obtain ⟨eb,hB,ff,aq⟩:=hW;have er:=hF.n32;have j6:=hF.fn;have hv:v<n:=om
 have hr:Rd wF 1 DA f (ds.map Value.bool):=hds ▸ hD;refine Jz Tryz.func84 Tryz.ntmps84 rfl kr rfl ?_;refine ρ ?_;refine ld (hB.at (i:=8) rfl) ?_;refine ρ ?_;refine mkm 9 ?_;intro w1 mb a3 gs hM;obtain ⟨s1,s2,s3,s4,s5⟩:=Zl (Jk aq a3) (q:=v) om (.map (some mb));have iv:ta.length=n:=by have:=aq.1;omega
 refine ρ ?_;refine ix v (Rd.own (Jk aq a3)) om ?_;refine ρ ?_;refine sto (s1.trans (show ta[v]?=some (ta.getD v (.map none)) by simp [List.getD,List.getElem?_eq_getElem (show v<ta.length by omega)])) s2 ?_;refine ρ ?_;obtain ⟨w2,ej⟩:∃ w2,w2=w1.setCell (adr TA v) (.map (some mb)):=⟨_,rfl⟩;rw [<-ej]at s3 s5 ⊢;clear ej;have ga:∀ g,(Value.slice VA n cv).ownBlock=some g->wF.heap.size<=g/\g<w.heap.size:=(Jy ff).choose_spec.choose_spec.2.2;have cz:∀ g,(Value.slice TA n ct).ownBlock=some g->wF.heap.size<=g/\g<w.heap.size:=(Jy aq).choose_spec.choose_spec.2.2;have e2:∀ g,(Value.slice KA f ck).ownBlock=some g->wF.heap.size<=g/\g<w.heap.size:=(Jy hBa).choose_spec.choose_spec.2.2;have i7:=a3.size;have ie:=hM.lt;have dq:Blk w2 b 157 _:=(hB.ext a3).grown s5 ((hB.ext a3).ne_own (Jk aq a3) rfl);have cq:w2.ownsRow wF.heap.size 205 1 (.slice VA n cv) n va:=Xu (Jk ff a3) (Jk aq a3) s5 rfl
 have fu:w2.ownsRow wF.heap.size 134 1 (.slice KA f ck) f ba:=Xu (Jk hBa a3) (Jk aq a3) s5 rfl;have fq:MapS Tryz.prog 9 w2 mb 0 (λ_=>none):=hM.kept s5 (λe=>by have:=(cz mb e.symm).2;omega);have f6:GrN AR w w2:=(GrN.ext a3).trans (GrN.by s5 λk C=>hAR k (.inr (.inl C)));have ag:Ext wF w2:=Qf (eb.trans a3) s5 λk C=>(cz k C).1;have gt:wF.heap.size<=mb:=nL eb.size gs;have ic:=fq.lt;obtain ⟨RA,rc,ip,g1,gk,gj,fj,ha⟩:=hF.rels.parts;rw [List.length_map,List.length_range]at g1 gk gj fj;obtain ⟨re,i8,⟨t,i3,du⟩,c2⟩:=ha v (by simpa using hv);subst i3;simp only [List.getElem_map,List.getElem_range]at du;obtain ⟨⟨PA,pc,g4,j0,iz,iy⟩,g3,g8⟩:=id du;obtain ⟨t1,t2,t3⟩:=t;simp only [Vd]at g4 g3;subst g4;subst g3;have ep:(nz (bk (kf v ||| 2^v) 32)).length=(bk (kf v ||| 2^v) 32).length:=Qq _;subst g1;refine cl (Qzh (R:=R) dq rfl rfl (hF.bags.ext ag) (hF.rels.ext ag λcs a h=>Jld h ag) er hv hF.kb) ?_
 rintro vl w3 ⟨ho,d5⟩;have b8:=ag.trans d5;have hx:=dq.ext d5;have d9:∀ j u,([.int .i64 ((bk (kf v ||| 2^v) 32).length:Int),t3]:List Value)[j]?=some u->w3.cell? (((adr RA (v*3)).add 1).add j)=some u:=λj u hu=>by
  have:=c2 (1+j) u (by rw [Nat.add_comm];exact hu);rw [Xh]at this;rw [Xh,Xh,Nat.add_assoc];exact Ul b8 this
 refine ρ ?_;refine ld (hx.at (i:=6) rfl) ?_;refine ρ ?_;refine ixq 3 v (fj.ext b8) hv ?_;refine ρ ?_;refine lds (cs:=[.int .i64 ((bk (kf v ||| 2^v) 32).length:Int),t3]) d9 ?_;refine ρ ?_;refine cl (Jdx (ar:=(bk (kf v ||| 2^v) 32).length) (ls:=R v) ((du.ext b8).rel)) ?_;rintro ur w5 ⟨ee,c1⟩;obtain ⟨ps,GA,gc,dw,rfl,j4,ia,en,d8⟩:=c1;have dd:(R v).length=ps.length:=by rw [dw,List.length_map]
 have iw:=hF.rlen v hv;have a1:=d5.trans ee;have da:=en.here;have aw:∀ p∈ps,RowV w5 p.1 p.2:=λp hp=>(d8 p hp).here;have c5:=dq.ext a1;have au:=ag.trans a1;have hh:=ho.ext ee;have dm:=fq.ext a1;have em:∀ c,c≠v->(ta.set v (.map (some mb))).getD c (.map none)=ta.getD c (.map none):=λc hc=>by simp [List.getD,List.getElem?_set_ne (Ne.symm hc)]
 have gq:∀ c,c<n->pf c=(v:Int)->c≠v:=λc hc hp e=>hF.pn c hc (by rw [hp,e]);have cn:GrN AR w w5:=f6.trans (GrN.ext a1);have bm:=cn;obtain ⟨d,hd⟩:∃ d,d=ds.getD v false:=⟨_,rfl⟩;obtain ⟨m,c3⟩:∃ m,m=(bk (kf v ||| 2^v) 32).length-1:=⟨_,rfl⟩;obtain ⟨wt,d6⟩:∃ wt:Row->Nat,wt=λx=>wtL T x (chK kf pf v n):=⟨_,rfl⟩;rw [<-hd,<-c3,<-d6];rw [<-c3]at hval;obtain ⟨S,hS⟩:∃ S:Nat,S=(4294967296^20)^32:=⟨_,rfl⟩;obtain ⟨e,he,fh⟩:∃ e,e<=800/\S<=4294967296^e:=⟨20*32,om,by rw [hS,<-Nat.pow_mul];exact Nat.le_refl _⟩;have ef:∀ x,wt x<=S:=λx=>by
  rw [d6,hS];refine nL (Jcg λp hp=>hTb _ _) (Nat.pow_le_pow_right (Nat.pow_pos (by decide)) ?_);have:=Jzh kf pf v n;omega
 refine ρ ?_;refine Je (fun (i:Nat) (vb:Value)=>[(0,.pointer (some ⟨b,0,none⟩)),(1,.int .i64 (v:Int)),(5,vl),(6,vb),(34,.slice GA ps.length gc),(35,.int .i64 (ps.length:Int)),(36,.int .i64 (i:Int))])
  (λi vb w'=>i<=ps.length/\Ext w5 w'/\∃ J,OwnB d w5.heap.size w' vb J/\J.map (·.2)=Vq d wt m ((R v).take i)/\J.length<=i/\∀ q∈J,q.2.2.sum<=i*S/\q.2.2.sz<=i) (λi _=>ps.length-i) 0 (.slice none 0 0) sB
  ⟨Nat.zero_le _,Ext.refl _,[],OwnB.nil _ _ _,rfl,Nat.le_refl _,λq hq=>by cases hq⟩ ?_
 clear hS;rintro i vb w6 ⟨hi,G,J,am,ab,gl,b4⟩;obtain ⟨LA,lc,rfl,gu,ao⟩:=am.form;refine ρ ?_;refine ci (λh=>?_) (λh=>?_)
 .have li:i<ps.length:=by have:=oT h;omega
  clear h;obtain ⟨x,bw⟩:∃ x,x=(ps.getD i z0).2:=⟨_,rfl⟩;have e6:x∈R v:=by rw [dw,bw];exact List.mem_map_of_mem (getD_mem' z0 ps li)
  have gf:(R v).getD i []=x:=by rw [dw,bw];simp [List.getD,List.getElem?_eq_getElem li]
  obtain ⟨e7,d0⟩:=hF.rows v hv x e6;have bf:RowV w6 (ps.getD i z0).1 x:=by rw [bw];exact (aw _ (getD_mem' z0 ps li)).ext G
  have cd:=da.ext G;have b7:=au.trans G;have cg:=cn.trans (GrN.ext G);have hf:GV 2 ChG w6 vl (chK kf pf v n):=(hh.ext G).gv (by have:=Jzh kf pf v n;omega);have c0:=Qb [] (show i<(R v).length by omega);rw [gf]at c0;refine ρ ?_;refine ix i cd li ?_;refine ρ ?_;refine ld (cd.cell (show (ps.map (·.1))[i]?=some (ps.getD i z0).1 by simp [List.getD,List.getElem?_eq_getElem li])) ?_
  refine ρ ?_;refine cl (Jmr (T:=T) (AR:=AR) (hF.tb.ext b7) (c5.ext G) rfl rfl rfl (Rd.own (Jk cq (a1.trans G))) (Rd.own (Jk s3 (a1.trans G))) hf (by have:=Jzh kf pf v n;omega) (λp hp=>?_) bf d0 (λp hp bh=>?_) (λp hp bh=>?_) (λp hp bh k=>hT1 _ bh k) (λp hp k=>hTb _ k)) ?_
  .obtain ⟨O,h2,h3⟩:=Jjk hp;refine ⟨O,λc hc=>?_⟩;rw [h3]at hc;rw [e7];exact Jzc hc
  .obtain ⟨O,h2,h3⟩:=Jjk hp;exact (hdv _ O h2 bh).gr cg
  .obtain ⟨O,h2,h3⟩:=Jjk hp;rw [em _ (gq _ O h2)];exact (hdt _ O h2 bh).gr cg
  rintro vw w7 ⟨d7,f7,b3⟩;have i2:wtL T x (chK kf pf v n)=wt x:=by rw [d6]
  rw [i2]at d7;obtain ⟨WA,wc,rfl,bd⟩:=Jgd d7;refine ρ ?_;refine ci (λh=>?_) (λh=>?_)
  .have h0:wt x=0:=by
    have:=Xd h;rcases Nat.eq_zero_or_pos (wt x) with h'|h'
    .exact h'
    .have:=bd.2 h';omega
   refine ρ ?_;refine Jl (i+1) _ sO ⟨li,G.trans b3,J,am.ext b3,?_,om,λq hq=>⟨?_,by have:=(b4 q hq).2;omega⟩⟩ om
   .rw [c0,Jyw,Qbx h0];exact ab
   .have:=(b4 q hq).1;rw [Nat.succ_mul];omega
  have h0:wt x≠0:=λe=>by (have:=Xf h;have O:¬ 0<(Jj (wt x)).length:=λh'=>by have:=bd.1 h';omega);(omega)
  clear h;obtain ⟨XA,xc,g0,iu,i5,gg⟩:=id bf;have j1:x.length=m+1:=by rw [e7,c3];omega
  rw [g0];have df:RdR w7 XA (x.take m):=by
   have O:=(Rd.ext gg b3).take (m:=m) om;have h2:(Jm x).take (m*3)=Jm (x.take m):=Jds x om;rw [h2]at O;have h3:(x.take m).length=m:=by rw [List.length_take];omega
   unfold RdR;rw [h3];exact O
  have bj:RowV w7 (.slice XA m xc) (x.take m):=⟨XA,xc,by rw [List.length_take,Nat.min_eq_left om],by rw [List.length_take];omega,by rw [List.length_take];omega,df⟩;have cc:=G.trans b3;have ak:=am.ext b3;refine ρ ?_;refine slh m ?_;refine ρ ?_;refine Jmn (fun (bb:Bool) (_:Unit)=>[(66,.bool bb),(0,.pointer (some ⟨b,0,none⟩)),(1,.int .i64 (v:Int)),(5,vl),(6,.slice LA J.length lc),(8,.slice XA x.length xc),(9,.slice WA (Jj (wt x)).length wc),(10,.slice XA m xc),(34,.slice GA ps.length gc),(35,.int .i64 (ps.length:Int)),(36,.int .i64 (i:Int))])
   (λbb _ w'=>Ext w7 w'/\(bb=true↔¬ (J.getLast?.map (·.2.1))=some (x.take m))) ?_ ?_
  .refine ki 55 (λh=>?_) (λh=>?_)
   .have gm:J=[]:=List.eq_nil_of_length_eq_zero (by have:=Xd h;omega);refine ρ ?_;refine Zt true () sB ⟨Ext.refl _,?_⟩;rw [gm];simp
   .have db:J≠[]:=λe=>by have:=Xf h;rw [e]at this;simp at this
    obtain ⟨o,z,ez,dv,_⟩:=Jyz db;have af:z∈J:=by rw [ez];simp
    obtain ⟨kv,zq,b5,bv,b6⟩:=ak.el z af;have i9:J.length=o.length+1:=by rw [ez];simp
    have gb:(Qj J)[(o.length)*3+0]?=some kv:=by
     rw [Ku (p:=z) (λp hp=>(ak.el p hp).len) (by rw [ez];simp) om,b5];rfl
    have eo:=Rd.own ak.own;refine ρ ?_;refine ixq 3 o.length eo om ?_;refine ρ ?_;refine ld (by have:=eo.cell gb;rw [<-Xh]at this;exact this) ?_;refine ρ ?_;refine cl (Jrg bv.v bj) ?_;rintro u w8 ⟨rfl,d1⟩;refine ρ ?_;refine Zt (!decide (z.2.1=x.take m)) () sB ⟨d1,?_⟩;rw [dv];simp
  rintro bb _ w8 ⟨a6,fa⟩;refine Xt (λs:((List (List Value×BkT))×Value×Option Addr×Tr)×Value=>[(0,.pointer (some ⟨b,0,none⟩)),(1,.int .i64 (v:Int)),(5,vl),(6,s.2),(8,.slice XA x.length xc),(9,.slice WA (Jj (wt x)).length wc),(10,.slice XA m xc),(34,.slice GA ps.length gc),(35,.int .i64 (ps.length:Int)),(36,.int .i64 (i:Int))])
   (λs w'=>Ext w5 w'/\GrN (λk=>Qa w5.heap.size (.slice LA J.length lc) k/\w5.heap.size<=k) w7 w'/\OwnB d w5.heap.size w' s.2 (s.1.1++[([s.1.2.1,.bool d,.pointer s.1.2.2.1],(x.take m,s.1.2.2.2))])/\Vq d wt m ((R v).take (i+1))=s.1.1.map (·.2)++[(x.take m,Tr.put d (x.getD m V0) (wt x) s.1.2.2.2)]/\s.1.1.length<=i/\s.1.2.2.2.sum<=i*S/\s.1.2.2.2.sz<=i/\∀ q∈s.1.1,q.2.2.sum<=i*S/\q.2.2.sz<=i) ?_ ?_
  .have bq:=ak.ext a6;refine ci (λh=>?_) (λh=>?_)
   .have ep:=fa.1 h;have a8:=cc.trans a6;have a4:Ext w8 w8.drew:=(Ext.refl w8).drew;have hs:=(c5.ext a8).ext a4;have ea:=(au.trans a8).trans a4;have h8:¬ w5.heap.size<=b:=by have:=c5.lt;omega
    refine ρ ?_;refine drN (λk=>w5.heap.size<=k) 10 [(0,0),(0,1),(0,3),(0,4),(0,5),(0,6),(0,7),(0,8),(0,9),(0,10),(1,2),(1,11),(0,12),(1,13),(1,14),(0,15)] kr ?_;refine ρn ?_;refine nld (Jp (hs.at (i:=2) rfl) h8) ?_;refine ρn ?_;refine nix v (Rd.ext hr ea) om ?_;refine ρn ?_;refine nld (λw' hg=>Ul (au.trans (hg.old (a8.trans a4) λk C=>C)) (RdB.cell hD (show v<ds.length by omega))) ?_;refine ρn ?_;refine nop ?_;refine cl (Jzf ((bj.ext a6).ext a4) (Qa w5.heap.size (.slice LA J.length lc)) λk C=>?_) ?_
    .rcases C with h'|h'
     .exact nM h' (a8.trans a4).size
     .exact nM (ao k h').2 ((b3.trans a6).trans a4).size
    rintro kv w9 ⟨ex,bz⟩;obtain ⟨an,ae,rfl,_⟩:=id ex;refine ρ ?_;refine Jb (GrN.ext bz) ?_;refine ρn ?_;refine nop ?_;refine cl Qhj ?_;rintro u g9 ⟨rfl,a2⟩;refine ρ ?_;refine Jb (GrN.ext a2) ?_;rw [<-hd];refine ρn ?_;refine Jjg (Qkb _ an _ ae d none rfl) ?_;refine ρn ?_;refine nop ?_;refine bsl (Qzr _ an _ ae d none rfl) ?_;intro bu j8 a9 ik fz;refine ρ ?_;refine Jb (GrN.ext a9) ?_;refine ρn ?_;refine nop ?_;have av:Ext w8 bu:=((a4.trans bz).trans a2).trans a9;have eu:BkE d (Qa w5.heap.size (.slice LA J.length lc)) bu [.slice an (x.take m).length ae,.bool d,.pointer none] (x.take m,.nil):=⟨_,_,rfl,(ex.ext a2).ext a9,rfl⟩;refine apB (bq.ext av) fz eu om (a8.trans av).size ?_;intro dz bt fl ah;refine ρ ?_;refine Jb (GrN.by ah λg eg=>(ao g eg).1) ?_;refine ρn ?_;refine ρ ?_;refine Jf ((J,.slice an (x.take m).length ae,none,.nil),dz) sB ⟨?_,?_,fl,?_,gl,by simp [Tr.sum],by simp [Tr.sz],b4⟩
    .exact Qf (a8.trans av) ah λg eg=>(ao g eg).1
    .exact (GrN.ext (a6.trans av)).trans (GrN.by ah λg eg=>⟨.inr eg,(ao g eg).1⟩)
    .rw [c0,Jyw,<-ab];exact Qbz h0 (by rw [List.getLast?_map];simpa [Option.map_map] using ep)
   .have hl:(J.getLast?.map (·.2.1))=some (x.take m):=Classical.byContradiction λh'=>by rw [fa.2 h']at h;cases h
    have db:J≠[]:=λe=>by rw [e]at hl;cases hl
    obtain ⟨o,z,ez,dv,_⟩:=Jyz db;rw [dv]at hl;have e5:z.2.1=x.take m:=by simpa using hl
    have af:z∈J:=by rw [ez];simp
    obtain ⟨kv,zq,b5,bv,b6⟩:=bq.el z af;obtain ⟨zp,rfl⟩:=b6.ptr;obtain ⟨zc,zk,zt⟩:=z;simp only at b5 e5;subst b5;subst e5;have fd:=b4 _ af;refine ρ ?_;refine Jf ((o,kv,zp,zt),.slice LA J.length lc) sB ⟨cc.trans a6,GrN.ext a6,by rw [<-ez];exact bq,?_,?_,fd.1,fd.2,λq hq=>b4 q (by rw [ez];simp [hq])⟩
    .rw [c0,Jyw,<-ab,ez,List.map_append];exact Qcb h0
    .have:J.length=o.length+1:=by rw [ez];simp
     simp only;omega
  .rintro ⟨⟨o,kv,q,t⟩,dz⟩ w9 ⟨bc,f4,aj,f3,gy,gi,gh,f0⟩;simp only at aj f3 gy gi gh f0;obtain ⟨LB,lb,rfl,gw,ax⟩:=aj.form;have ac:(o++[([kv,.bool d,.pointer q],(x.take m,t))]).length=o.length+1:=by simp
   rw [ac]at gw ax ⊢;have ay:=aj.own;rw [ac]at ay;refine ρ ?_;refine ixq 3 o.length (Rd.own ay) om ?_;refine ρ ?_;have Z:Ext w9 w9.drew:=(Ext.refl w9).drew;have b9:=bc.trans Z;have im:=aj.ext Z;have dk:=Jk ay Z;have ge:RowV w9.drew (.slice XA x.length xc) x:=by
    have:=(aw _ (getD_mem' z0 ps li)).ext b9;rw [<-bw,g0]at this;exact this
   obtain ⟨j9,io,i1,_,_,c7⟩:=id ge;injection i1 with exx1 _ exx2
   subst exx1;subst exx2;have f9:BkE d (Qa w5.heap.size (.slice LB (o.length+1) lb)) w9 [kv,.bool d,.pointer q] (x.take m,t):=by
    have:=aj.el ([kv,.bool d,.pointer q],(x.take m,t)) (by simp);rw [ac]at this;exact this
   obtain ⟨ir,q',g7,eu,ek⟩:=id f9;simp only [List.cons.injEq,and_true,true_and]at g7;obtain ⟨g6,g5⟩:=g7;subst g6;subst g5;have de:∀ j u,([.bool d,.pointer q]:List Value)[j]?=some u->w9.drew.cell? (((adr LB (o.length*3)).add 1).add j)=some u:=λj u hu=>by
    have j3:j<2:=(List.getElem?_eq_some_iff.1 hu).1;have O:(Qj (o++[([kv,.bool d,.pointer q],(x.take m,t))]))[o.length*3+(1+j)]?=some u:=by
     rw [Ku (p:=([kv,.bool d,.pointer q],(x.take m,t))) (λp hp=>(aj.el p hp).len) (by simp) om,Nat.add_comm 1 j];exact hu
    have:=(Rd.own dk).cell O;rw [Xh,Xh,Nat.add_assoc];exact this
   have eh:NatV w9.drew (.slice WA (Jj (wt x)).length wc) (wt x):=by
    have O:NatX (λk=>Qa w5.heap.size (.slice LA J.length lc) k/\w5.heap.size<=k) w7 (.slice WA (Jj (wt x)).length wc) (wt x):=f7.x d7 λk C=>by
     rcases C.1 with h'|h'
     .have:=G.size;omega
     .exact (ao k h').2
    exact (O.gr f4).1.ext Z
   have be:Xj (x.getD m V0)=true:=hval x e6;have ce:Nb (t.sum+wt x):=Nb.big (k:=i+1) fh he om (by have:=ef x;rw [Nat.succ_mul];omega);have e0:t.sz+1<=1000000:=om
   have bi:∀ k,Qa w5.heap.size (.slice LB (o.length+1) lb) k->k<w9.heap.size:=λk C=>by
    rcases C with h'|h'
    .exact nM h' bc.size
    .exact (ax k h').2
   refine drH (λi=>Nat.ble 16 i) ?_;refine hpre (fuel':=7) 8 [(0,0),(0,1),(0,2),(0,3),(0,4),(0,5),(0,6),(0,7),(0,8),(0,9),(0,10)] #[true,true,true,true,true,true,true,true,true,true,true,false,false,false,false,false,false,false] kr kr rfl ?_;refine ρd ?_;refine Qw (cs:=[.bool d,.pointer q]) de ?_;refine ρd ?_;refine Kj 3 m c7 om ?_;refine ρd ?_;refine Qw (cs:=(x.getD m V0).cells) (λj u hu=>RdR.cell c7 om hu) ?_;refine ρd ?_;refine Qz ?_;refine Jxt 2 (lst 18 16) (fun (y:Nat×Option Addr)=>[(12,.pointer (some ⟨y.1,0,none⟩)),(100,.agg #[.bool d,.pointer y.2]),(101,.int .i64 0),(0,.pointer (some ⟨b,0,none⟩)),(1,.int .i64 (v:Int)),(5,vl),(6,.slice LB (o.length+1) lb),(11,.pointer (some (adr LB (o.length*3)))),(34,.slice GA ps.length gc),(35,.int .i64 (ps.length:Int)),(36,.int .i64 (i:Int))])
    (λy W=>Ext w9.drew W/\Blk W y.1 138 [.bool false,.pointer none]/\w9.drew.heap.size<=y.1/\TrV (λk=>Qa w5.heap.size (.slice LB (o.length+1) lb) k∨k=y.1) W (Tr.put d (x.getD m V0) (wt x) t) (.pointer y.2)) ?_ ?_
   .rintro ⟨dx,p2⟩ W ⟨e9,fx,fb,fg⟩;simp only at fx fb fg;refine hpre (fuel':=0) 8 [(2,16),(2,17)] (lst 18 18) kr kr rfl ?_;refine Ja ?_;refine stW fx ?_;intro W2 fw cj i6;refine Jg (Qg ?_);refine Ja ?_;refine ρ ?_;refine Qg ?_;refine Vb (Qz ?_);refine Ks kr ?_;refine ρ ?_;have d4:Ext w5 W:=b9.trans e9;have c9:Ext w9 W:=Z.trans e9;have ec:w9.heap.size<=dx:=nL Z.size fb;have ap:GrN (λk=>k=dx) W W2:=GrN.by cj λk C=>by injection C with C;exact C.symm
    have fk:W2.ownsRow w5.heap.size 140 3 (.slice LB (o.length+1) lb) (o.length+1) (Qj (o++[([kv,.bool d,.pointer q],(x.take m,t))])):=Js (Jk ay c9) ap λg eg e=>by have:=(ax g eg).2;omega
    refine ρ ?_;refine ldW fw ?_;refine ρ ?_;refine Go.Wk.kv 108 (congrArg (λp=>Value.pointer (some p)) (Xh LB (o.length*3) 1)) ?_;refine stoG (q:=o.length*3+1) (cs:=[.bool d,.pointer p2]) fk (by simp;omega) (by simp) ?_ Qgq;intro W3 cw ch;have dg:∀ p∈o,p.1.length=3:=λp hp=>(aj.el p (by simp [hp])).len;have i4:=Qnk dg kv (.bool d) (.pointer q) (.bool d) (.pointer p2) (x.take m,t) (x.take m,Tr.put d (x.getD m V0) (wt x) t);rw [show o.length*3+1+([Value.bool d,.pointer p2]:List Value).length=o.length*3+1+2 from rfl,i4]at cw;have d3:Ext w5 W2:=Qf d4 cj λk C=>by injection C with C;have:=bc.size;omega
    have d2:Ext w5 W3:=Qf d3 ch λk C=>(ax k C).1;have cm:GrN (λk=>Qa w5.heap.size (.slice LB (o.length+1) lb) k) W2 W3:=GrN.by ch λk C=>.inr C
    have co:∀ p:List Value×BkT,BkE d (Qa w5.heap.size (.slice LB (o.length+1) lb)) w9 p.1 p.2->BkE d (Qa w5.heap.size (.slice LB (o.length+1) lb)) W3 p.1 p.2:=λp hp=>by
     have O:BkE d (λk=>Qa w5.heap.size (.slice LB (o.length+1) lb) k∨k=dx) w9 p.1 p.2:=hp.old λk C=>C.imp id λe=>by rw [e];exact ec
     exact (((O.ext c9).gr (ap.mono λk _ C=>.inr C)).old λk C=>.inl (.inl C)).gr cm
    refine ρ ?_;refine Jl (i+1) (.slice LB (o.length+1) lb) sO ⟨li,d2,o++[([kv,.bool d,.pointer p2],(x.take m,Tr.put d (x.getD m V0) (wt x) t))],⟨?_,λp hp=>?_⟩,?_,by simp;omega,λp hp=>?_⟩ om
    .have:(o++[([kv,Value.bool d,.pointer p2],(x.take m,Tr.put d (x.getD m V0) (wt x) t))]).length=o.length+1:=by simp
     rw [this];exact cw
    .rcases List.mem_append.1 hp with O|O
     .have:=aj.el p (by simp [O]);rw [ac]at this;exact co p this
     .rw [List.mem_singleton.1 O];obtain ⟨iq,q3,e3,ey,_⟩:=co ([kv,.bool d,.pointer q],(x.take m,t)) f9;simp only [List.cons.injEq,and_true,true_and]at e3;rw [<-e3.1]at ey;exact ⟨kv,.pointer p2,rfl,ey,((fg.gr (ap.mono λk _ C=>.inr C)).old λk C=>.inl (.inl C)).gr cm⟩
    .rw [f3];simp
    .rcases List.mem_append.1 hp with O|O
     .have:=f0 p O;rw [Nat.succ_mul];omega
     .rw [List.mem_singleton.1 O];have h2:=Jkg d (x.getD m V0) (wt x) t;have h3:=Tr.put_sz d (x.getD m V0) (wt x) t;have h4:=ef x;simp only;rw [Nat.succ_mul];omega
   intro rest;refine Jkt 11 15 kr rfl rfl rfl ?_ ?_
   .refine ρ ?_;refine cl (Jnl (ek.ext Z) be eh (λk C=>nM (bi k C) Z.size) h0 ce e0) ?_;rintro u W ⟨q2,rfl,bg,hy⟩;obtain ⟨p2,rfl⟩:=bg.ptr;refine Jg (Gq hy ?_);refine hpre (fuel':=4) 8 [(0,12),(0,13)] (lst 18 14) kr kr rfl ?_;refine ρd ?_;refine Qz ?_;refine Zm (fuel':=3) 14 kr kr rfl rfl ?_;refine ρp ?_;refine ρd ?_;refine Qz ?_;refine hpre (fuel':=2) 8 [(1,15)] (lst 18 16) kr kr rfl ?_;refine dalc' (cs:=[.bool false,.pointer none]) Zo ?_;intro W2 bs b2 ai b1;refine Vb (Qz ?_);exact rest (bs,p2) _ _ ⟨hy.trans b2,b1,Nat.le_trans hy.size ai,(bg.old λk C=>C.imp id λe=>by rw [e];exact ai).ext b2⟩ sB
   .refine ρ ?_;refine alc Zo ?_;intro W bs hy ai b1;refine Jg (Gq hy ?_);refine hpre (fuel':=3) 8 [(1,11),(0,12),(0,13)] #[true,true,true,true,true,true,true,true,true,true,true,true,true,true,false,true,false,false] kr kr rfl ?_;refine ρd ?_;have hb:∀ k,(Qa w5.heap.size (.slice LB (o.length+1) lb) k∨k=bs)->k<W.heap.size:=λk C=>by
     rcases C with h'|h'
     .exact nM (bi k h') (Z.trans hy).size
     .rw [h'];exact b1.lt
    refine dcl (Jnl (N:=λk=>Qa w5.heap.size (.slice LB (o.length+1) lb) k∨k=bs) (((ek.ext Z).old λk C=>C.imp id λe=>by rw [e];exact ai).ext hy) be (eh.ext hy) hb h0 ce e0) ?_;rintro u W2 ⟨q2,rfl,bg,b2⟩;obtain ⟨p2,rfl⟩:=bg.ptr;refine ⟨b2,?_⟩;refine ρd ?_;refine Qz ?_;refine Zm (fuel':=2) 14 kr kr rfl rfl ?_;refine ρp ?_;refine ρd ?_;refine Qz ?_;refine hlist (listed':=lst 18 16) kr ?_;exact rest (bs,p2) _ _ ⟨hy.trans b2,b1.ext b2,ai,bg⟩ sB
 .have h5:i=ps.length:=by have:=oF h;omega
  clear h;rw [h5,<-dd,List.take_length]at ab;have dn:GInv d wt m (R v) (Vq d wt m (R v)):=Jkv hlt λy hy=>by rw [(hF.rows v hv y hy).1,c3];omega
  have b7:=au.trans G;have ii:=(GrN.ext (N:=λk=>k=mb) (a1.trans G));have fp:=dm.ext G;have ib:=fp.lt;have hw:=c5.ext G;have h9:=Jk s3 (a1.trans G);have et:∀ g,(Value.slice LA J.length lc).ownBlock=some g->¬ g=mb:=λg eg e=>by have:=(ao g eg).1;have:=dm.lt;omega
  have h7:¬ b=mb:=λe=>by have:=hB.lt;omega
  have dl:=dm.lt;have i0:∀ k,(AR k∨k=mb)->k<w6.heap.size:=by
   rintro k (h'|h')
   .have:=hARl k h';have:=(bm.size);have:=G.size;omega
   .omega
  refine ρ ?_;refine Xm (fun (j:Nat) (mc:Nat) (fm:Lit->Option Value)=>[(0,.pointer (some ⟨b,0,none⟩)),(1,.int .i64 (v:Int)),(6,.slice LA J.length lc),(110,.slice LA J.length lc),(111,.int .i64 (J.length:Int)),(112,.int .i64 (j:Int))])
   (λj mc fm w'=>j<=J.length/\GrN (λk=>k=mb) w6 w'/\MapS Tryz.prog 9 w' mb mc fm/\mc<=j/\∀ k:Row,(fm (.string (idn k))=none/\Uk ((J.map (·.2)).take j) k=0)∨∃ y,fm (.string (idn k))=some y/\0<Uk ((J.map (·.2)).take j) k/\NatX (λk=>AR k∨k=mb) w' y (Uk ((J.map (·.2)).take j) k)) (λj _ _=>J.length-j) 0 0 (λ_=>none) sB
   ⟨Nat.zero_le _,GrN.refl _ _,fp,Nat.le_refl _,λk=>.inl ⟨rfl,rfl⟩⟩ ?_
  rintro j mc fm w7 ⟨hj,U,fo,j2,di⟩;have c4:=Jv hw U h7;have ak:=Js am.own U et;have fi:=Js h9 U λg eg e=>by have:=(cz g eg).2;omega
  have c8:Ext wF w7:=U.old b7 λk C=>by rw [C];exact gt
  refine ρ ?_;refine ci (λh=>?_) (λh=>?_)
  .have lj:j<J.length:=by have:=oT h;omega
   clear h;obtain ⟨z,hz⟩:∃ z,z=J[j]:=⟨_,rfl⟩;have af:z∈J:=by rw [hz];exact List.getElem_mem lj
   have e4:z.2∈Vq d wt m (R v):=by rw [<-ab];exact List.mem_map_of_mem af
   have f8:=(am.el z af).gr (U.mono λk _ C=>.inl (by rw [C];exact dl));obtain ⟨kv,zq,b5,bv,b6⟩:=id f8;obtain ⟨zp,rfl⟩:=b6.ptr;obtain ⟨an,ae,rfl,ih,ig,ew,_⟩:=id bv;have a7:FitR z.2.1:=by
    obtain ⟨y,hy,e1,_⟩:=entL_ne.1 (dn.con z.2 e4).2;have:=(hF.rows v hv y hy).2;rw [<-e1];exact ⟨by have:=this.1;rw [List.length_take];omega,λu hu=>this.2 u (List.mem_of_mem_take hu)⟩
   have dj:∀ i u,([.slice an z.2.1.length ae,.bool d,.pointer zp]:List Value)[i]?=some u->w7.cell? ((adr LA (j*3)).add i)=some u:=λi u hu=>by
    have gz:i<3:=(List.getElem?_eq_some_iff.1 hu).1;rw [Xh];refine (Rd.own ak).cell ?_;rw [Ku (p:=z) (λp hp=>(am.el p hp).len) (by rw [hz];exact List.getElem?_eq_getElem lj) gz,b5];exact hu
   refine ρ ?_;refine ixq 3 j (Rd.own ak) lj ?_;refine ρ ?_;refine lds (cs:=[.slice an z.2.1.length ae,.bool d,.pointer zp]) dj ?_;refine ρ ?_;refine alc Jcd ?_;intro w8 j7 d1 fc fy;refine ρ ?_;refine stb (cs':=[.slice an z.2.1.length ae,.bool d,.pointer zp]) fy ?_ (Jyc rfl);intro w9 dt j5 bz;have ed:Ext w7 w9:=bz w7 d1 fc;have e8:Ext w9 w9.drew:=(Ext.refl w9).drew;have a5:=ed.trans e8;refine ρ ?_;refine drN (λ_=>False) 10 [(0,0),(0,1),(0,2),(0,3),(0,4),(0,5),(0,6),(0,7),(0,8),(0,10),(0,11),(1,9),(1,12),(2,13)] kr ?_;have cr:=Rd.own (Jk fi a5);have br:=dt.ext e8;refine ρn ?_;refine nld (Jp ((c4.ext a5).at (i:=8) rfl) (λe=>e)) ?_;refine ρn ?_;refine nix v cr hv ?_;refine ρn ?_;refine nld (Jp (cr.cell (show (ta.set v (.map (some mb)))[v]?=some (.map (some mb)) by rw [List.getElem?_set_self om])) (λe=>e)) ?_;refine ρn ?_;refine nld (Jp (br.at (i:=0) rfl) (λe=>e)) ?_
   refine ρn ?_;refine Qe (cs:=[.bool d,.pointer zp]) (λw' hg j u hu=>Jp (br.sub (i:=1) (j:=j) (by rw [Nat.add_comm];exact hu)) (λe=>e) w' hg) ?_;refine ρn ?_;refine nop ?_;refine cl (Jxs (r:=z.2.1) (hF.tb.ext (c8.trans a5)) (ew.ext a5) (λu hu=>(a7.2 u hu).1) (by have:=a7.len;omega) (by have:=a7.1;omega)) ?_;rintro un g9 ⟨rfl,a2⟩;refine ρ ?_;refine Jb (GrN.ext a2) ?_;refine ρn ?_;refine nop ?_;refine cl (Jcs ((b6.ext a5).ext a2) (Nb.big (k:=i) fh he om (b4 z af).1)) ?_;rintro uy bu ⟨c6,h6,a9⟩;obtain ⟨YA,yc,rfl,_⟩:=id c6;have ca:=(a5.trans a2).trans a9;refine ρ ?_;refine Jb (GrN.ext a9) ?_;refine ρn ?_;refine Xy ?_;refine mup KS (fo.ext ca) (by unfold maxLen;omega) (Gj a7) ?_;intro bt ft ah;have bp:GrN (λk=>k=mb) bu bt:=GrN.by ah λk C=>by injection C with C;exact C.symm
   have bo:GrN (λk=>k=mb) w7 bt:=(GrN.ext ca).trans bp;have gd:NatX (λk=>AR k∨k=mb) bt (.slice YA (Jj z.2.2.sum).length yc) z.2.2.sum :=
    (h6.x c6 λk C=>nM (i0 k C) (nL U.size (a5.trans a2).size)).gr (bp.mono λk _ C=>.inr C)
   have g2:(J.map (·.2)).take (j+1)=(J.map (·.2)).take j++[z.2]:=by
    rw [List.take_succ_eq_append_getElem (by rw [List.length_map];exact lj),List.getElem_map,hz]
   have gn:z.2.1 ∉ ((J.map (·.2)).take j).map (·.1):=by
    have O:=dn.lt;rw [<-ab,<-List.take_append_drop (j+1) (J.map (·.2)),g2,List.map_append,List.map_append]at O
    intro hm;have h2:=(List.pairwise_append.1 (List.pairwise_append.1 O).1).2.2 _ hm z.2.1 (by simp);rw [Va]at h2;omega
   refine ρ ?_;refine Qt (j+1) (mc+1) (upL fm (.string (idn z.2.1)) (some (.slice YA (Jj z.2.2.sum).length yc))) sO ⟨lj,U.trans bo,ft,om,λk=>?_⟩ om;rw [g2,Qbd _ _ _ gn];by_cases e:z.2.1=k
   .rw [if_pos e,<-e,Gy (KS.key (Gj a7))];exact .inr ⟨_,rfl,Qbb dn e4,gd⟩
   .rw [if_neg e,Yg (λe'=>e (Jyv (by injection e'.symm)))];rcases di k with O|⟨y,O,h2,h3⟩
    .exact .inl O
    .exact .inr ⟨y,O,h2,h3.gr (bo.mono λk _ C=>.inr C)⟩
  .have gx:j=J.length:=by have:=oF h;omega
   clear h;have dh:(J.map (·.2)).take j=Vq d wt m (R v):=by rw [ab,gx,List.take_of_length_le];rw [<-ab,List.length_map];exact Nat.le_refl _
   rw [dh]at di;have aa:=Js (Jk fu (a1.trans G)) U λg eg e=>by have:=(e2 g eg).2;omega
   have fe:=Js (Jk cq (a1.trans G)) U λg eg e=>by have:=(ga g eg).2;omega
   obtain ⟨r1,r2,r3,r4,r5⟩:=Zl aa (q:=v) om (.slice LA J.length lc);have ij:ba.length=f:=by have:=hBa.1;omega
   refine ρ ?_;refine ld (c4.at (i:=9) rfl) ?_;refine ρ ?_;refine ix v (Rd.own aa) hvf ?_;refine ρ ?_;refine sto (r1.trans (show ba[v]?=some (ba.getD v (.slice none 0 0)) by simp [List.getD,List.getElem?_eq_getElem (show v<ba.length by omega)])) r2 ?_;refine ρ ?_;obtain ⟨w8,ei⟩:∃ w8,w8=w7.setCell (adr KA v) (.slice LA J.length lc):=⟨_,rfl⟩;rw [<-ei]at r3 r5 ⊢;clear ei;have f2:GrN AR w w7:=(((bm.trans (GrN.ext G)).mono λk _ C=>(.inl C:AR k∨k=mb)).trans (U.mono λk _ C=>.inr C)).mono λk C h=>h.elim id λe=>by omega
   have bn:GrN AR w7 w8:=GrN.by r5 λk C=>hAR k (.inr (.inr C))
   have f5:GrN (λk=>AR k∨k=mb) w6 w8:=(U.mono λk _ C=>.inr C).trans (bn.mono λk _ C=>.inl C);have bq:=Xu ak aa r5 rfl;have cx:¬ AR mb:=by
    intro h';have:=hARl mb h';omega
   have cy:∀ k,(AR k∨k=mb)->k<w5.heap.size:=by
    rintro k (h'|h')
    .have:=hARl k h';have:=(bm.size);omega
    .omega
   refine Jq ⟨rfl,.map (some mb),.slice LA J.length lc,⟨Qf c8 r5 λk C=>(e2 k C).1,c4.grown r5 (c4.ne_own aa rfl),Xu fe aa r5 rfl,Xu fi aa r5 rfl⟩,r3,f2.trans bn,
    ⟨mb,mc,fm,rfl,om,⟨fo.kept r5 (λe=>cx (hAR mb (.inr (.inr e.symm)))),cx⟩,λk=>?_⟩,
    ⟨J,LA,lc,ab.symm,rfl,gu,om,Rd.own bq,λh0 ad e=>?_,λp hp=>⟨(am.el p hp).len,?_⟩⟩⟩
   .rcases di k with O|⟨y,O,h2,h3⟩
    .exact .inl O
    .exact .inr ⟨y,O,h2,(h3.old λk C=>.inl (.inl C)).gr bn⟩
   .intro hA;have:=(ao ad.block (by rw [e];simp [Value.ownBlock])).1;have:=cy _ (.inl hA);omega
   .have O:BkE d (λk=>AR k∨k=mb) w6 p.1 p.2:=(am.el p hp).old λk C=>.inl (.inl (cy k C));exact (O.gr f5).old λk C=>.inl (.inl C)
end Go.Proofs.YtebcagekopgdhaaGreatDoor
