/- Part 26 of the proof: Mt2, ArA. -/
import Derived.Test.YtefpailelagbkaaGreatDoorJ25
import Derived.Laws.CopyRow
set_option linter.unusedVariables false
set_option maxRecDepth 100000
set_option maxHeartbeats 40000000
namespace Go.Wk
open Go.RowKit
theorem Xxg{P:Program}{n:Nat}{al:AL}{w:World}{Q:Exit->Act->World->Prop}{ops:Array Oper}{rest:List Oper}{ty:Nat}{pos:String}{aft:Array Edge}{tt:TT}[h:Tab P tt]{x y:Operand}{t b:Nat}{k:TK}{u v:Value}(hb:Blk w b t [u])(kk:∀ w1,Blk w1 b t [v]->w.grownBy w1 (some b)->(∀ a,Ext a w->a.heap.size<=b->Ext a w1)->WL P n ops Q rest al w1)(hv:v.oneCell'=true)(ht:tk tt t=some k:=by rfl)(hk:k.size=1:=by rfl)(hp:Jwp k.desc=true:=by rfl)(hx:ev al x=some (.pointer (some ⟨b,0,none⟩)):=by rfl)(hy:ev al y=some v:=by rfl):
  WL P n ops Q (⟨none,.store t x y,ty,pos,aft,none⟩::rest) al w :=
 Qtr h.ok ht hk hp hx hy hv (hb.cell 0) (hb.frozen 0) (kk _ (hb.set 0 v) ⟨rfl,rfl,rfl,by simp [World.setCell],λk hk hn=>Below.heap_setCell w ⟨b,0,none⟩ v k (λe=>hn (by rw [e]))⟩ λa ha hab=>ha.setCell hab v)
end Go.Wk
namespace Go.Proofs.YtefpailelagbkaaGreatDoor
open Go.RowKit Pl Go.Wk
attribute [local irreducible] WC WL QX WD WDB WP WN WG
structure MOk(n:Nat)(ts:List TA)(vars:Nat->List Nat)(rs:Nat->List Row)(s:Nat): Prop where
 run:RunOk n ts vars rs
 sb:s<2^n
 valid:∀ i,i<ts.length->∀ r∈rs i,r.all Jxd=true
 srtP:∀ i,i<ts.length->(rs i).length<=12∨Srt [] ((rs i).map (pmR (Jqt (vars i) s)))
theorem Qtl{vs:List Nat}(h:Jcn vs): ascB (nz vs):=λj h1 h2=>by
 rw [Jqc]at h2;rw [Jst h2,Jst (show j-1<vs.length by omega)];have:=List.pairwise_iff_getElem.1 h (j-1) j (by omega) h2 (by omega);simp only [List.getD,List.getElem?_eq_getElem h2,List.getElem?_eq_getElem (show j-1<vs.length by omega),Option.getD_some];omega
theorem Jlt{n:Nat}{ts:List TA}{vars:Nat->List Nat}{rs:Nat->List Row}(h:RunOk n ts vars rs): Xch n (ts.map (·.2)):=by
 have h1:=h.n32;refine ⟨by omega,by omega,by rw [List.length_map];exact h.m32,λa ha=>?_,λv hv=>?_⟩
 ·obtain ⟨t,ht,rfl⟩:=List.mem_map.1 ha;obtain ⟨i,hi,e⟩:=List.getElem_of_mem ht;have h2:=h.at_ i hi;rw [Jjh ta0 ts hi,e]at h2;rw [h2];refine ⟨Qtl (h.asc i hi),λv hv=>?_,by simp only;rw [Jqc]⟩;obtain ⟨u,hu,rfl⟩:=List.mem_map.1 hv;have:=h.lt i hi u hu;omega
 ·obtain ⟨i,hi,hm⟩:=h.cov v (by omega);refine ⟨(ts.getD i ta0).2,List.mem_map_of_mem (getD_mem' ta0 ts hi),?_⟩;rw [h.at_ i hi];exact List.mem_map.2 ⟨v,hm,rfl⟩
def AtG(w:World)(cs:List Value)(a:Atm): Prop:=∃ t:V3,cs=t.cells/\AtV w t a
theorem Qzc: ∀ (ps:List (List Value×Atm)) (w:World),(∀ p∈ps,AtG w p.1 p.2)->∃ ts:List TA,ts.map (·.2)=ps.map (·.2)/\atC ts=Jxh ps/\ts.length=ps.length/\∀ q∈ts,AtV w q.1 q.2
 | [],w,_=>⟨[],rfl,rfl,rfl,λq hq=>by cases hq⟩
 | p::ps,w,h=>by
  obtain ⟨qs,h1,h2,h3,h4⟩:=Qzc ps w λq hq=>h q (List.mem_cons_of_mem _ hq);obtain ⟨t,e,hr⟩:=h p (List.mem_cons_self ..);refine ⟨(t,p.2)::qs,by simp [h1],?_,by simp [h3],λq hq=>?_⟩
  ·simp only [Jxh,atC,List.flatMap_cons,e]at h2 ⊢;rw [h2]
  ·rcases List.mem_cons.1 hq with rfl|hq
   ·exact hr
   ·exact h4 q hq
theorem Jnz{w:World}{v:Value}{ats:List Atm}(h:GV 3 AtG w v ats): ∃ (ts:List TA) (A:Option Addr) (c:Nat),ats=ts.map (·.2)/\v=.slice A ts.length c/\ts.length<=c/\ts.length<=1100000/\Rd w 3 A ts.length (atC ts)/\∀ p∈ts,AtV w p.1 p.2:=by
 obtain ⟨ps,A,c,e,e1,e2,e3,hr,hp⟩:=h;obtain ⟨ts,h1,h2,h3,h4⟩:=Qzc ps w λp hm=>(hp p hm).2;rw [<-h3]at e1 e2 e3 hr;exact ⟨ts,A,c,by rw [e,h1],e1,e2,e3,by rw [h2];exact hr,h4⟩
theorem EA: ElT Tryz.prog 60 69 3 56 (.agg #[.slice none 0 0,.int .i64 0,.slice none 0 0]):=⟨Tryz.underlying60,info_parts (by kernel_rfl),rfl,by decide⟩
theorem zInts: Jxc Tryz.prog 23=some (.slice none 0 0):=by kernel_rfl
theorem zRows: Jxc Tryz.prog 35=some (.slice none 0 0):=by kernel_rfl
theorem Qwr(v1 v2 v3:Value)(A B:Option Addr)(n c m d:Nat)(z:Int)(h1:v1=.slice A n c)(h2:v2=.int .i64 z)(h3:v3=.slice B m d)(w:World): (Instr.buildSlice 60 1 #[(0,.agg #[v1,v2,v3])]).run Tryz.prog w=.ok (.slice (some ⟨w.heap.size,0,none⟩) 1 1) (w.alloc (.cells [v1,v2,v3].toArray 69)):=by
 subst h1;subst h2;subst h3;kernel_rfl
theorem Qbt(A B:Option Addr)(n c m d:Nat)(z:Int)(w:World): (Instr.build 69 #[(0,.slice A n c),(1,.agg #[.int .i64 z,.slice B m d])]).run Tryz.prog w=.ok (.agg #[.slice A n c,.int .i64 z,.slice B m d]) w:=by kernel_rfl
theorem Xjl{v:Value}{z:Int}{A:Option Addr}{n c:Nat}(h:v.oneCell'=true): ∀ u∈[v,.int .i64 z,.slice A n c],u.oneCell'=true:=λu hu=>by
 simp only [List.mem_cons,List.not_mem_nil,or_false]at hu;rcases hu with rfl|rfl|rfl
 ·exact h
 ·rfl
 ·rfl
theorem Qrm{n:Nat}{ts ts':List TA}{vars:Nat->List Nat}{rs ms:Nat->List Row}{s:Nat}(hok:MOk n ts vars rs s)(hl:ts'.length=ts.length)(he:(List.range ts.length).map (λj=>(⟨nz (rnm (vars j) s),(rnm (vars j) s).length,ms j⟩:Atm))=ts'.map (·.2))(hms:∀ j,j<ts.length->Jvh [] ((rs j).map (pmR (Jqt (vars j) s))) (ms j)/\(ms j).length<=65536): RunOk (bk s 32).length ts' (λj=>rnm (vars j) s) ms:=by
 have hn32:=hok.run.n32;have hlt32:∀ i,i<ts.length->∀ v∈vars i,v<32:=λi hi v hv=>by have:=hok.run.lt i hi v hv;omega
 refine ⟨Jvg s 32,by rw [hl];exact hok.run.m32,λi hi=>?_,λi hi=>Xxq (hok.run.asc i (hl ▸ hi)) (hlt32 i (hl ▸ hi)),λi hi u hu=>Xyh (hlt32 i (hl ▸ hi)) hu,λk hk=>?_,λi hi=>(hms i (hl ▸ hi)).1.1,λi hi r hr=>?_,λi hi=>(hms i (hl ▸ hi)).2⟩
 ·have h1:(ts'.map (·.2))[i]?=some (ts'.getD i ta0).2:=by rw [List.getElem?_map,List.getElem?_eq_getElem hi,Option.map_some,Jjh ta0 ts' hi]
  rw [<-he,List.getElem?_map,List.getElem?_range (hl ▸ hi),Option.map_some]at h1;injection h1 with h1;exact h1.symm
 ·obtain ⟨h1,h2⟩:=bk_mem.1 (getD_mem' 0 _ hk);obtain ⟨i,hi,hm⟩:=hok.run.cov _ (Jbt hok.sb h2);exact ⟨i,hl.symm ▸ hi,List.mem_map.2 ⟨_,inS_mem.2 ⟨hm,h2⟩,Qks (Jnt s 32) hk⟩⟩
 ·obtain ⟨x,hx,rfl⟩:=List.mem_map.1 (((hms i (hl ▸ hi)).1.2 r).1 hr);have:=Jfc (vars i) s (vars i).length (Nat.le_refl _);rw [List.take_length]at this;rw [Jqx,Qhq];exact this
theorem Qdk{n:Nat}{ts:List TA}{vars:Nat->List Nat}{rs ms:Nat->List Row}{s:Nat}(hok:MOk n ts vars rs s)(hms:∀ j,j<ts.length->Jvh [] ((rs j).map (pmR (Jqt (vars j) s))) (ms j)/\(ms j).length<=65536){x:Row}(hx:Qjl (bk s 32).length ts.length (λi=>rnm (vars i) s) ms x): x.all Jxd=true:=by
 rw [List.all_eq_true];intro y hy;obtain ⟨k,hk,rfl⟩:=List.getElem_of_mem hy;have hk':k<(bk s 32).length:=by rw [<-hx.1];exact hk
 obtain ⟨h1,h2⟩:=bk_mem.1 (getD_mem' 0 _ hk');obtain ⟨i,hi,hm⟩:=hok.run.cov _ (Jbt hok.sb h2);have h3:=hx.2 i hi;obtain ⟨r,hr,e⟩:=List.mem_map.1 (((hms i hi).1.2 _).1 h3);have h4:x.getD k V0∈pmR (rnm (vars i) s) x:=List.mem_map.2 ⟨k,List.mem_map.2 ⟨_,inS_mem.2 ⟨hm,h2⟩,Qks (Jnt s 32) hk'⟩,rfl⟩;rw [<-e]at h4;obtain ⟨c,hc,e2⟩:=List.mem_map.1 h4;have h5:=List.all_eq_true.1 (hok.valid i hi r hr) (r.getD c V0) (getD_mem' V0 r (by rw [hok.run.len i hi r hr];exact Jvs hc));rw [e2,Jjh V0 x hk]at h5;exact h5
theorem Xyt(s:Nat): (madeCells (Value.int .i64 0).cells (32*1)).toList=Jzw (nz (Jpl s 0)):=by
 have e:(madeCells (Value.int .i64 0).cells (32*1)).toList=List.replicate 32 (Value.int .i64 0):=Jmm _ _;have e2:Jpl s 0=List.replicate 32 0:=by simp [Jpl,List.map_const']
 rw [e,e2];rfl
theorem Xyr(cs:List Nat)(i x:Nat): Jzw (nz (cs.set i x))=(Jzw (nz cs)).set i (.int .i64 (x:Int)):=by simp [Jzw,nz,List.map_set]
theorem Xjs{w:World}{base:Nat}{v:Value}{cs:List Nat}(h:Jpf w base v cs): ∃ A c,v=.slice A cs.length c/\cs.length<=c/\∀ g,v.ownBlock=some g->base<=g/\g<w.heap.size:=Jjd h
theorem Jml{w:World}{n:Nat}{ts:List TA}{Aa:Option Addr}{ca:Nat}{vars:Nat->List Nat}{rs:Nat->List Row}{s:Nat}(hok:MOk n ts vars rs s)(hR:Rd w 3 Aa ts.length (atC ts))(hle:ts.length<=ca)(hat:∀ p∈ts,AtV w p.1 p.2)(hcap:∀ l:List Row,Lt [] l->(∀ x∈l,∃ z:Row,z.length=n/\x=pmR (bk s 32) z/\Qtq ts.length vars rs s z)->l.length<=65536):
  Ret Tryz.prog 122 [.int .i64 (n:Int),.int .u32 (s:Int),.slice Aa ts.length ca] w λu w'=>Ext w w'/\∃ (t':V3) (st:Int) (l:List Row),u=.tuple #[.agg t'.cells.toArray,.int .i64 st,.int .i64 0] /\
   Off (λk=>k<w.heap.size) w' (λx=>AtV x t' ⟨nz (bk s 32),(bk s 32).length,l⟩)/\Lt [] l/\(∀ x,x∈l↔∃ z:Row,z.length=n/\x=pmR (bk s 32) z/\Qtq ts.length vars rs s z)/\l.length<=65536:=by
 have hn32:=hok.run.n32;have hm32:=hok.run.m32;have hs32:s<4294967296:=Nat.lt_of_lt_of_le hok.sb (Nat.pow_le_pow_right (n:=2) (by decide) hn32);have hlt32:∀ i,i<ts.length->∀ v∈vars i,v<32:=λi hi v hv=>by have:=hok.run.lt i hi v hv;omega
 refine Jjb Tryz.func122 Tryz.ntmps122 rfl (by kernel_rfl) rfl ?_;refine ρ ?_;refine alc (cs:=[.slice none 0 0,.int .i64 0,.slice none 0 0]) Jdg ?_;intro w1 b6 hx1 hb6 hB6;refine ρ ?_;refine cl (Jcz (n:=(n:Int)) (ats:=ts.map (·.2)) ⟨ts,Aa,ca,rfl,rfl,hle,by omega,hR.ext hx1,λp hp=>(hat p hp).ext hx1⟩) ?_
 rintro u w2 ⟨hx2,e,rfl,he⟩;have e0:=he.2 (Jlt hok.run);subst e0;clear he;refine ρ ?_;refine Xjd (s:=s) (v:=n) hn32 ?_;rw [Nat.div_eq_of_lt hok.sb];refine ρ ?_;refine mkn EI 32 (by omega) (by unfold maxLen;omega) ?_;intro w3 Na hx3 hn3 _;rw [Xyt s]at hn3;refine ρ ?_;refine alc (cs:=[.slice none 0 0]) zInts ?_;intro w4 b11 hx4 hb11 hB11;refine ρ ?_;refine Xxg hB11 ?_ rfl;intro w5 hB11 hg5 hx5;have hx35:Ext w3 w5:=hx5 w3 hx4 hb11;have hxw2:=hx1.trans hx2;have hxw5:Ext w w5:=(hxw2.trans hx3).trans hx35;have hn5:w5.ownsRow w.heap.size 3 1 (.slice Na 32 32) 32 (Jzw (nz (Jpl s 0))):=Jsr (Jjc hn3 hx35) hxw2.size;have hB65:Blk w5 b6 69 [.slice none 0 0,.int .i64 0,.slice none 0 0]:=(hB6.ext hx2).ext (hx3.trans hx35);refine ρ ?_;refine Jjv (fun (v:Nat) (vv:Value)=>[(0,.int .i64 (n:Int)),(1,.int .u32 (s:Int)),(2,.slice Aa ts.length ca),(6,.pointer (some ⟨b6,0,none⟩)),(10,vv),(11,.pointer (some ⟨b11,0,none⟩)),(37,.int .i64 (v:Int))])
  (λv vv w'=>v<=32/\Ext w w'/\Blk w' b6 69 [.slice none 0 0,.int .i64 0,.slice none 0 0]/\Blk w' b11 23 [.slice Na 32 32]/\w'.ownsRow w.heap.size 3 1 (.slice Na 32 32) 32 (Jzw (nz (Jpl s v)))/\Jpf w' w.heap.size vv (bk s v)/\∀ g,vv.ownBlock=some g->(Value.slice Na 32 32).ownBlock≠some g) (λv _=>32-v) 0 (.slice none 0 0) sB
  ⟨by omega,hxw5,hB65,hB11,hn5,Jxj _ _ _ _,λg e=>(by cases e)⟩ ?_
 clear hn3 hn5 hB65 hB11;rintro v vv w6 ⟨hv,hx6,hB6,hB11,hn6,hv6,hne6⟩;refine ρ ?_;refine ci (λh=>?_) (λh=>?_)
 ·have lv:v<32:=by have:=of_decide_eq_true h;omega
  clear h;have hbl:=Jvg s v;have hinc:∀ {w':World},(Jpl s v).length=32:=fun {_}=>Jbm s v
  obtain ⟨VA,vc,eva,hvc,hvf⟩:=Xjs hv6;refine ρ ?_;refine Xjd (s:=s) (v:=v) (by omega) ?_;refine ρ ?_;refine ci (λh=>?_) (λh=>?_)
  ·rw [Jkc hs32]at h;subst eva;refine ρ ?_;refine ld (hB11.at (i:=0) rfl) ?_;refine ρ ?_;refine ix v (Rd.own hn6) lv ?_;obtain ⟨s1,s2,s3,s4,s5⟩:=Jqq hn6 (q:=v) (by omega) (.int .i64 ((bk s v).length:Int));refine ρ ?_;refine sto (s1.trans (Jxw (by rw [Jbm];exact lv))) s2 ?_;rw [<-Xyr]at s3;have hnge:∀ g,(Value.slice Na 32 32).ownBlock=some g->w.heap.size<=g:=λg eg=>by
    obtain ⟨_,_,_,_,hf⟩:=Jjd hn6;exact (hf g eg).1
   have hx7:Ext w (w6.setCell (adr Na v) (.int .i64 ((bk s v).length:Int))):=Jjk hx6 s5 hnge;have hB67:=hB6.grown s5 (hB6.ne_own hn6 rfl);have hB117:=hB11.grown s5 (hB11.ne_own hn6 rfl);have hv7:Jpf (w6.setCell (adr Na v) (.int .i64 ((bk s v).length:Int))) w.heap.size (.slice VA (bk s v).length vc) (bk s v):=Jjr hv6 (GrN.by s5 λg eg=>eg) (λg eg e=>hne6 g eg e);generalize w6.setCell (adr Na v) (.int .i64 ((bk s v).length:Int))=w7 at *
   clear s1 s2 s4 s5;refine ρ ?_;refine bsl (bs1Int'' _) ?_;intro w8 b8 hx8 hb8 hB8;refine ρ ?_;refine apI (Jjc hv7 hx8) hB8 (by omega) (hx7.trans hx8).size ?_;intro vv9 w9 hv9 hg9 hn9;have hx9:Ext w w9:=Jjk (hx7.trans hx8) hg9 (λg eg=>(hvf g eg).1);refine ρ ?_;refine Jjj (v+1) vv9 sO ⟨by omega,hx9,(hB67.ext hx8).grown hg9 ((hB67.ext hx8).ne_own (Jjc hv7 hx8) rfl),(hB117.ext hx8).grown hg9 ((hB117.ext hx8).ne_own (Jjc hv7 hx8) rfl),?_,?_,λg eg e=>?_⟩ (by omega)
   ·rw [Qym lv,if_pos h];exact Jjr (Jjc s3 hx8) (GrN.by hg9 λg eg=>eg) (λg eg e=>hne6 g e eg)
   ·rw [Jwt,if_pos h];exact hv9
   ·rcases hn9 g eg with h'|h'
    ·exact hne6 g h' e
    ·obtain ⟨_,_,_,_,hf⟩:=Jjd s3;have:=(hf g e).2;have:=hx8.size;omega
  ·rw [Jkc hs32]at h;have hf:¬ s.testBit v=true:=by rw [h];simp
   refine ρ ?_;refine Jjj (v+1) vv sO ⟨by omega,hx6,hB6,hB11,?_,?_,hne6⟩ (by omega)
   ·rw [Qym lv,if_neg hf];exact hn6
   ·rw [Jwt,if_neg hf,List.append_nil];exact hv6
 have hv':v=32:=by have:=of_decide_eq_false h;omega
 subst hv';clear h hne6;obtain ⟨VA,vc,eva,hvc,hvf⟩:=Xjs hv6;subst eva;have hbl:=Jvg s 32;refine ρ ?_;refine Jpn (fun (i:Nat) (st:Int) (vp:Value) (ms:Nat->List Row)=>[(0,.int .i64 (n:Int)),(1,.int .u32 (s:Int)),(6,.pointer (some ⟨b6,0,none⟩)),(10,.slice VA (bk s 32).length vc),(13,.func (.func 154) #[] #[.pointer (some ⟨b11,0,none⟩)]),(14,.int .i64 st),(15,vp),(56,.slice Aa ts.length ca),(57,.int .i64 (ts.length:Int)),(58,.int .i64 (i:Int))])
  (λi st vp ms w'=>i<=ts.length/\Ext w w'/\w6.heap.size<=w'.heap.size/\Blk w' b6 69 [.slice none 0 0,.int .i64 0,.slice none 0 0]/\Blk w' b11 23 [.slice Na 32 32]/\w'.ownsRow w.heap.size 3 1 (.slice Na 32 32) 32 (Jzw (nz (Jpl s 32)))/\Jpf w' w.heap.size (.slice VA (bk s 32).length vc) (bk s 32) /\
   OwnG 69 3 AtG w' w6.heap.size vp ((List.range i).map λj=>⟨nz (rnm (vars j) s),(rnm (vars j) s).length,ms j⟩)/\∀ j,j<i->Jvh [] ((rs j).map (pmR (Jqt (vars j) s))) (ms j)/\(ms j).length<=65536) (λi _ _ _=>ts.length-i) 0 0 (.slice none 0 0) (λ_=>[]) sB
  ⟨Nat.zero_le _,hx6,Nat.le_refl _,hB6,hB11,hn6,hv6,OwnG.nil _ _,λj hj=>by omega⟩ ?_
 rintro i st vp ms w7 ⟨hi,hx7,hsz7,hB67,hB117,hn7,hv7,hG7,hms7⟩;refine ρ ?_;refine ci (λh=>?_) (λh=>?_)
 ·have li:i<ts.length:=by have:=of_decide_eq_true h;omega
  have hR7:=hR.ext hx7;obtain ⟨t1,t2,t3,a,hp⟩:∃ t1 t2 t3 a,ts.getD i ta0=((t1,t2,t3),a):=⟨_,_,_,_,rfl⟩;have hA0:AtV w (t1,t2,t3) a:=by have:=hat _ (Jll rfl li);rw [hp]at this;exact this
  have ea:a=⟨nz (vars i),(vars i).length,rs i⟩:=by have:=hok.run.at_ i li;rw [hp]at this;exact this
  subst ea;clear h;have h3:∀ u∈[t1,t2,t3],u.oneCell'=true:=hA0.one;refine ρ ?_;refine ixq 3 i hR7 li ?_;refine ρ ?_;refine lds (cs:=[t1,t2,t3]) (λj u hu=>Jpb hR7 rfl li (by rw [hp];exact hu)) ?_;refine ρ ?_;refine alc (cs:=[.slice none 0 0,.int .i64 0,.slice none 0 0]) Jdg ?_;intro w8 b17 hx8 hb17 hB17;refine ρ ?_;refine stb (cs':=[t1,t2,t3]) hB17 ?_ h3;intro w9 hB17 hg9 hx9;have hx79:Ext w7 w9:=hx9 w7 hx8 hb17;refine ρ ?_;refine lds (cs:=[t1,t2,t3]) (λj u hu=>hB17.at hu) ?_;refine ρ ?_;refine cl (Jnx (t:=(t1,t2,t3)) (hA0.ext (hx7.trans hx79)) hs32 (hok.run.asc i li) (hlt32 i li) (hok.run.len i li) (hok.run.big i li)) ?_;rintro u w10 ⟨hx10,⟨p1,p2,p3⟩,rfl,m,hoff,hml,hms,hset⟩;have hset':=hset (hok.srtP i li);have hAp:=hoff.here;obtain ⟨⟨PA,pc,ep1,hpc,hpm,hpr⟩,ep2,hprows⟩:=id hAp;simp only at ep1 ep2;obtain ⟨pps,PG,pgc,_,ep3,_⟩:=id hprows;simp only at ep3;have hx9w:=hx7.trans hx79
  have hx10w:=hx9w.trans hx10;refine ρ ?_;refine alc (cs:=[.slice none 0 0,.int .i64 0,.slice none 0 0]) Jdg ?_;intro w11 b18 hx11 hb18 hB18;refine ρ ?_;refine stb (cs':=[p1,p2,p3]) hB18 ?_ hAp.one;intro w12 hB18 hg12 hx12;have hx1012:Ext w10 w12:=hx12 w10 hx11 hb18;refine ρ ?_;subst ep1;subst ep2;subst ep3;refine lds (cs:=[.int .i64 ((inS (vars i) s).length:Int),.slice PG pps.length pgc]) (hB18.sub2 (i:=1) rfl rfl) ?_;refine ρ ?_;have hAp12:=hAp.ext hx1012;refine cl (Jvl hAp12.rel) ?_;rintro u w13 ⟨rfl,hx13⟩;obtain ⟨st',hst'⟩:∃ st':Int,st'=IntKind.i64.wrap (st+(m.length:Int)):=⟨_,rfl⟩;have hB18':=hB18.ext hx13;repeat first|refine ω4 ?_|refine ω5 ?_|refine χ1 ?_|refine κ1 ?_|refine κ2 ?_|refine χ2 ?_|refine κ3 ?_|refine ω6 ?_|refine ω7 ?_|refine ω9 ?_|refine κ4 ?_|refine κ7 ?_|refine κ8 ?_|refine χ3 ?_|refine χ4 ?_|refine κ5 ?_|refine κ6 ?_|refine χ5 ?_|refine χ6 ?_|refine χ7 ?_|refine ω8 ?_
  rw [<-hst'];refine ρ ?_;refine lds (cs:=[.slice PA (nz (inS (vars i) s)).length pc,.int .i64 ((inS (vars i) s).length:Int),.slice PG pps.length pgc]) (λj u hu=>hB18'.at hu) ?_;refine ρ ?_;have hx713:Ext w7 w13:=((hx79.trans hx10).trans hx1012).trans hx13;have hx13w:=hx7.trans hx713;refine clv (Qrt (Na:=Na) (nums:=Jpl s 32) (hAp12.ext hx13) ?_ ?_ (λv hv=>?_) ?_) ?_
  ·rw [Jbm];exact hB117.ext hx713
  ·rw [Jbm];exact Rd.own (Jjc hn7 hx713)
  ·rw [Jbm];exact hlt32 i li v (inS_mem.1 hv).1
  ·have:=List.length_filter_le (λv=>s.testBit v) (vars i);have h5:=Jpc (hok.run.asc i li) (hlt32 i li);unfold inS;omega
  rintro u w14 ⟨hx14,v1,rfl,hv1⟩;have hv1h:=hv1.here;obtain ⟨QA,qc,eq1,hqc,hqm,hqr⟩:=hv1h;refine ρ ?_;refine bsl (Qwr v1 _ _ QA PG _ qc _ pgc _ eq1 rfl rfl) ?_;intro w15 b15 hx15 hb15 hB15;have ern:(inS (vars i) s).map (λv=>(Jpl s 32).getD v 0)=rnm (vars i) s:=by
   unfold rnm;refine List.map_congr_left λv hv=>?_;obtain ⟨h5,h6⟩:=inS_mem.1 hv;exact Qrr (hlt32 i li v h5) h6
  rw [ern]at hv1;have hx715:=(hx713.trans hx14).trans hx15;have hG15:=hG7.ext hx715;obtain ⟨_,_,_,_,hGf⟩:=hG7.form;have hown7:∀ k,Jbl w6.heap.size vp k->k<w7.heap.size:=λk hk=>by
   rcases hk with hk|hk
   ·exact Nat.lt_of_lt_of_le hk hsz7
   ·exact (hGf k hk).2
  have hΦ:Off (Jbl w6.heap.size vp) w15 (λu=>AtG u [v1,.int .i64 ((inS (vars i) s).length:Int),.slice PG pps.length pgc] ⟨nz (rnm (vars i) s),(rnm (vars i) s).length,m⟩):=by
   have h5:Off (λk=>k<w7.heap.size) w15 (λu=>IntsV u v1 (nz (rnm (vars i) s))):=(hv1.mono λk _ hk=>Nat.lt_of_lt_of_le hk hx713.size).ext hx15;have h6:Off (λk=>k<w7.heap.size) w15 (λu=>AtV u (.slice PA (nz (inS (vars i) s)).length pc,.int .i64 ((inS (vars i) s).length:Int),.slice PG pps.length pgc) ⟨nz (inS (vars i) s),(inS (vars i) s).length,m⟩) :=
    (hoff.mono λk _ hk=>Nat.lt_of_lt_of_le hk hx79.size).ext (((hx1012.trans hx13).trans hx14).trans hx15)
   refine ((h5.and h6).imp λu h=>⟨(v1,.int .i64 ((inS (vars i) s).length:Int),.slice PG pps.length pgc),rfl,h.1,?_,h.2.2.2⟩).mono λk _ hk=>hown7 k hk;simp only;rw [Qhq]
  refine ρ ?_;refine apG EA (Φ:=AtG) hG15 hB15 rfl (Xjl (by rw [eq1];rfl)) hΦ (by simp;omega) (by omega) (Nat.le_trans hsz7 hx715.size) ?_;intro vp16 w16 hG16 hg16 hn16;have hx16:Ext w w16:=Jjk (hx7.trans hx715) hg16 (λg eg=>Nat.le_trans hx6.size (hGf g eg).1);have hne:∀ {g t:Nat} {cs:List Value},Blk w7 g t cs->Nat.beq 69 t=false->Blk w16 g t cs:=λhB e=>by
   obtain ⟨ps,_,ho,_⟩:=hG15;exact (hB.ext hx715).grown hg16 ((hB.ext hx715).ne_own ho e)
  have hB616:Blk w16 b6 69 [.slice none 0 0,.int .i64 0,.slice none 0 0]:=by
   exact (hB67.ext hx715).grown hg16 λe=>by have:=(hGf b6 e.symm).1;have:=hB6.lt;omega
  have hrow:∀ {m':Nat} {v:Value} {xs:List Value},w7.ownsRow w.heap.size 3 1 v m' xs->w16.ownsRow w.heap.size 3 1 v m' xs:=λho=>by
   obtain ⟨ps,_,ho2,_⟩:=hG15;exact Jjs (Jjc ho hx715) ho2 hg16 rfl
  refine ρ ?_;refine Jvx (i+1) st' vp16 (upd ms i m) sO ⟨by omega,hx16,Nat.le_trans hsz7 (Nat.le_trans hx715.size hg16.size),hB616,hne hB117 rfl,hrow hn7,hrow hv7,?_,λj hj=>?_⟩ (by omega)
  ·rw [List.range_succ,List.map_append,List.map_singleton,Jjp];have e:(List.range i).map (λj=>(⟨nz (rnm (vars j) s),(rnm (vars j) s).length,upd ms i m j⟩:Atm))=(List.range i).map (λj=>⟨nz (rnm (vars j) s),(rnm (vars j) s).length,ms j⟩):=by
    refine List.map_congr_left λj hj=>?_;have:=List.mem_range.1 hj;rw [Jjl _ _ (by omega)]
   rw [e];exact hG16
  ·by_cases e:j=i
   ·subst e;rw [Jjp];exact ⟨hset',hml⟩
   ·rw [Jjl _ _ e];exact hms7 j (by omega)
 ·have hi':i=ts.length:=by have:=of_decide_eq_false h;omega
  subst hi';clear h;refine ρ ?_;refine alc (cs:=[.slice none 0 0]) zRows ?_;intro w8 b20 hx8 hb20 hB20;have hG8:=hG7.ext hx8;obtain ⟨ts',PA,pc,epa,evp,hpc,hpm,hpR,hpA⟩:=Jnz (hG8.gv (by simp;omega));have htl:ts'.length=ts.length:=by
   have:=congrArg List.length epa;simpa using this.symm
  have hpok:=Qrm hok htl epa hms7;subst evp;have hxw8:=hx7.trans hx8;have hans:=Xzm (m:=ts.length) (ms:=ms) hok.sb hn32 hok.run.lt hok.run.len (λi hi x=>(hms7 i hi).1.2 x);refine ρ ?_;refine cl (Qsk (bx':=λk=>k=b20) (Y:=YM b20) hpok hpR hpc hpA (Jlt hpok) (λk hk=>by subst hk;exact hB20.lt) (Qrs hB20.lt) (λw' hx'=>⟨Nat.lt_of_lt_of_le hB20.lt hx'.size,.slice none 0 0,hB20.ext hx',OwnG.nil _ _⟩) ?_) ?_
  ·intro l h1 h2;refine hcap l h1 λx hx=>(hans x).1 ?_;have:=h2 x hx;rw [htl]at this;exact this
  rintro u w9 ⟨hg9,st2,base,l,rfl,hbs,hbs2,⟨hbb,v20,hB209,hO⟩,hlt,hmem⟩;rw [htl]at hmem;have hw20:w.heap.size<=b20:=Nat.le_trans hx7.size hb20;have hx9:Ext w w9:=hg9.old hxw8 λk hk=>by subst hk;exact hw20
  have hB69:=Jqb (hB67.ext hx8) hg9 (λe=>by have:=hB67.lt;omega);have hv9:Jpf w9 w.heap.size (.slice VA (bk s 32).length vc) (bk s 32):=Jjr (Jjc hv7 hx8) hg9 (λg eg e=>by subst e;exact hB20.ne_own (Jjc hv7 hx8) rfl eg.symm);have hll:l.length<=65536:=by
   refine hcap l hlt λx hx=>(hans x).1 ((hmem x).1 hx)
  obtain ⟨LA,lc,ev20,hlc,hlf⟩:=hO.form;subst ev20;have hrows9:=Qcn (hO.gv (by omega));refine ρ ?_;refine ld (hB209.at (i:=0) rfl) ?_;refine ρ ?_;refine cl (Jlw (ar:=(bk s 32).length) hrows9) ?_;rintro u w10 ⟨hx10,rv,e,rfl,⟨z,RB,rm,rd,rfl⟩,he0,hrel⟩;have hlv:∀ r∈l,r.length=(bk s 32).length/\r.all Jxd=true:=λr hr=>⟨((hmem r).1 hr).1,Qdk hok hms7 ((hmem r).1 hr)⟩;have e0:=he0 hbl hlv hll;subst e0;obtain ⟨_,_,m,hoff,hml,hms,hset⟩:=hrel rfl;have hset':=hset (.inr (Jcj hlt));have eml:m=l:=Jbg hset'.1 hlt hset'.2;subst eml;clear hset hset' he0 hrel hms;refine ρ ?_;refine alc (cs:=[.int .i64 0,.slice none 0 0]) Qpm ?_;intro w11 b23 hx11 hb23 hB23;refine ρ ?_;refine stb (cs':=[.int .i64 z,.slice RB rm rd]) hB23 ?_ Qyk;intro w12 hB23 hg12 hx12;have hx1012:Ext w10 w12:=hx12 w10 hx11 hb23;refine ρ ?_;have hx912:=hx10.trans hx1012;have hB612:=hB69.ext hx912;have hrel12:=(hoff.here).ext hx1012
  refine drN (λk=>k=b6) 12 [(0,0),(0,1),(0,2),(0,3),(0,4),(0,5),(0,6),(1,7),(0,8),(1,9),(0,10),(0,11)] (by kernel_rfl) ?_;have hxd:Ext w12 w12.drew:=(Ext.refl w12).drew;have hB23d:=hB23.ext hxd;have hB6d:=hB612.ext hxd;have hne:¬ (λk=>k=b6) b23:=λe=>by
   have h1:=hB69.lt;have h2:=hx10.size;simp only at e;omega
  refine ρn ?_;refine Jfd (cs:=[.int .i64 z,.slice RB rm rd]) (λw' hg j u hu=>(Jqb hB23d hg hne).at hu) ?_;refine ρn ?_;refine Xzj (Qbt _ _ _ _ _ _ _) ?_;refine ρn ?_;refine Jfd (cs:=[.int .i64 z,.slice RB rm rd]) (λw' hg j u hu=>(Jqb hB23d hg hne).at hu) ?_;refine ρn ?_;refine nop ?_;refine cl (Jvl (hrel12.ext hxd)) ?_;rintro u w13 ⟨rfl,hx13⟩;refine ρ ?_;refine Jqm (GrN.ext hx13) ?_;refine ρn ?_;refine nop ?_;refine stb (cs':=[.slice VA (bk s 32).length vc,.int .i64 z,.slice RB rm rd]) (hB6d.ext hx13) ?_ (Xjl rfl);intro w14 hB614 hg14 hx14;refine ω5 ?_;refine Jqm (GrN.by hg14 λk e=>by injection e with e;exact e.symm) ?_;refine ρn ?_;refine ρ ?_;have hx13w:Ext w w13:=((hx9.trans hx912).trans hxd).trans hx13;refine Xbs hB614 ⟨Jfb hx13w hg14 hb6,(.slice VA (bk s 32).length vc,.int .i64 z,.slice RB rm rd),_,m,rfl,?_,hlt,λx=>(hmem x).trans (hans x),hll⟩;have hgN:GrN (λk=>k=b6) w13 w14:=GrN.by hg14 λk e=>by injection e with e;exact e.symm
  have hv13:=Jjc hv9 ((hx912.trans hxd).trans hx13);have hv14:Jpf w14 w.heap.size (.slice VA (bk s 32).length vc) (bk s 32):=Jjr hv13 hgN λg eg e=>by subst e;exact (hB6d.ext hx13).ne_own hv13 rfl eg.symm
  have h5:Off (λk=>k<w.heap.size) w14 (λu=>IntsV u (.slice VA (bk s 32).length vc) (nz (bk s 32))):=by
   refine (Jfv hv14 λg eg hk=>by have:=(hvf g eg).1;omega).imp λu h=>⟨VA,vc,by rw [Jqc],by rw [Jqc];exact hvc,by rw [Jqc];omega,by rw [Jqc];exact Rd.own h⟩
  have h6:Off (λk=>k<w.heap.size) w14 (λu=>RelV u (.agg #[.int .i64 z,.slice RB rm rd]) (bk s 32).length m):=by
   have h7:=hoff.ext ((hx1012.trans hxd).trans hx13);have h8:=h7.gr (hgN.mono λk _ hk=>by subst hk;exact hB69.lt);exact h8.mono λk _ hk=>Nat.lt_of_lt_of_le hk hx9.size
  refine (h5.and h6).imp λu h=>?_;obtain ⟨h7,rv,erv,h8⟩:=h;have e2:(Value.int .i64 z)=.int .i64 ((bk s 32).length:Int)/\Value.slice RB rm rd=rv:=by
   simp only [Value.agg.injEq,Array.mk.injEq,List.cons.injEq,and_true]at erv;exact erv
  exact ⟨h7,e2.1,by simp only;rw [e2.2];exact h8⟩
end Go.Proofs.YtefpailelagbkaaGreatDoor
namespace Go.Wk
open Go.RowKit
section
variable {N:Nat->Prop} {P:Program} {n:Nat} {al:AL} {w:World} {Q:Exit->Act->World->Prop} {ops:Array Oper} {rest:List Oper} {drest:List (Nat×Oper)}
variable {d ty:Nat} {pos:String} {aft:Array Edge} {tt:TT}
theorem Qjr(hT:TOk P tt){t m e:Nat}{k:TK}(ht:tk tt t=some k)(hk:k.desc=.array m e)(w:World): (isAgg t).run P w=.ok true w/\Jsd P t=some k.size/\P.underlying t=some (.array m e)/\Jsd P e=some k.esz:=by
 have:=hT.at ht;unfold Jhh at this;rw [hk]at this;exact ⟨by simp [isAgg,run_underlying this.1],this.2.2,this.1,this.2.1⟩
theorem Qjz(hT:TOk P tt){t m e:Nat}{k:TK}{p:Addr}{cs:List Value}(ht:tk tt t=some k)(hk:k.desc=.array m e)(hl:k.size=cs.length)(hc:∀ j u,cs[j]?=some u->w.cell? (p.add j)=some u): (loadVar t p).run P w=.ok (.agg cs.toArray) w:=by
 have hl':=run_loadCells_list (P:=P) w p cs hc;rw [<-hl]at hl';simp [loadVar,(Qjr hT ht hk w).1,Jqr w (Qjr hT ht hk w).2.1,hl']
theorem lda[h:Tab P tt]{x:Operand}{t m e:Nat}{k:TK}{p:Addr}{cs:List Value}(hc:∀ j u,cs[j]?=some u->w.cell? (p.add j)=some u)(hl:k.size=cs.length)(kk:WL P n ops Q rest ((d,.agg cs.toArray)::al) w)(ht:tk tt t=some k:=by rfl)(hk:k.desc=.array m e:=by rfl)(hx:ev al x=some (.pointer (some p)):=by rfl)(hd:Nat.blt d n=true:=by rfl): WL P n ops Q (⟨some d,.load t x,ty,pos,aft,none⟩::rest) al w :=
 wop hd (λa ha=>by simp [execOp,ha.ev hx,Instr.loadAt,Instr.sureAddr,Qjz (w:=w) h.ok ht hk hl hc]) kk
theorem sta[h:Tab P tt]{x y:Operand}{t m e b:Nat}{k:TK}{cs cs':List Value}(hb:Blk w b t cs)(kk:∀ w1,Blk w1 b t cs'->w.grownBy w1 (some b)->(∀ a,Ext a w->a.heap.size<=b->Ext a w1)->WL P n ops Q rest al w1)(h1:∀ u∈cs',u.oneCell'=true)(hl:cs.length=cs'.length)(hs:k.size=cs'.length)(ht:tk tt t=some k:=by rfl)(hk:k.desc=.array m e:=by rfl)(hx:ev al x=some (.pointer (some ⟨b,0,none⟩)):=by rfl)(hy:ev al y=some (.agg cs'.toArray):=by rfl):
  WL P n ops Q (⟨none,.store t x y,ty,pos,aft,none⟩::rest) al w:=by
 have hg:=Jzb w b cs'.toArray;refine Xqp (λa ha=>?_) (kk (w.setRow b cs'.toArray) (setRow_heap w b _ _ _ _ hb) hg (λa hx ha=>Jjk hx hg (λk hk=>by injection hk with hk;omega)));have hsz:=Jqr w (Qjr h.ok ht hk w).2.1;have hst:=run_storeCells_from (P:=P) b t cs' 0 cs.toArray w hb (by simpa using hl.symm) h1;simp only [List.take_zero,List.nil_append]at hst;simp [execOp,ha.ev hx,ha.ev hy,Instr.storeAt,Instr.sureAddr,storeVar,Value.cells,hsz,hs,hst]
theorem Xbt[h:Tab P tt]{fn:Func}{Φ:Value->World->Prop}{c t b m e:Nat}{k:TK}{cs:List Value}(hb:Blk w b t cs)(hs:k.size=cs.length)(hp:Φ (.agg cs.toArray) w)(hr:fn.results = #[.cell c t]:=by rfl)(ht:tk tt t=some k:=by rfl)(hk:k.desc=.array m e:=by rfl)(hc:lk al c=some (.pointer (some ⟨b,0,none⟩)):=by rfl):
  QX n (Qvd P fn Φ) .ret al w :=
 Qdz (rs:=[.cell c t]) (vs:=[.agg cs.toArray]) hr ⟨⟨_,hc,Qjz h.ok ht hk hs (λj u hu=>hb.at hu)⟩,trivial⟩ rfl hp
theorem idx[h:Tab P tt]{x i:Operand}{t m e:Nat}{k k2:TK}{cs:List Value}{kd:IntKind}{z:Int}{v:Value}(j:Nat)(hlt:j<m)(hv:cs[j]?=some v)(kk:WL P n ops Q rest ((d,v)::al) w)(ht:tk tt t=some k:=by rfl)(hk:k.desc=.array m e:=by rfl)(h1:k.esz=1:=by rfl)(he:tk tt e=some k2:=by rfl)(hp:Jwp k2.desc=true:=by rfl)(hx:ev al x=some (.agg cs.toArray):=by rfl)(hi:ev al i=some (.int kd z):=by rfl)(hj:z=(j:Int):=by first|rfl|omega)(hd:Nat.blt d n=true:=by rfl):
  WL P n ops Q (⟨some d,.index t x i,ty,pos,aft,none⟩::rest) al w :=
 wop hd (λa ha=>by
  subst hj;have hu:=Qjr h.ok ht hk w;have hs:=Jqr w (h1 ▸ hu.2.2.2);have hg:=(Jhp h.ok he hp w).1;simp [execOp,ha.ev hx,ha.ev hi,Instr.index,asIntOf,run_underlying hu.2.2.1,hlt,hs,part,hg,hv]) kk
theorem ixs[h:Tab P tt]{x i:Operand}{t m e:Nat}{k:TK}{p:Addr}{kd:IntKind}{z:Int}(j:Nat)(hlt:j<m)(kk:WL P n ops Q rest ((d,.pointer (some (p.add (j*k.esz))))::al) w)(ht:tk tt t=some k:=by rfl)(hk:k.desc=.array m e:=by rfl)(hx:ev al x=some (.pointer (some p)):=by rfl)(hi:ev al i=some (.int kd z):=by rfl)(hj:z=(j:Int):=by first|rfl|omega)(hd:Nat.blt d n=true:=by rfl): WL P n ops Q (⟨some d,.indexAddr t x i,ty,pos,aft,none⟩::rest) al w :=
 wop hd (λa ha=>Qkg h.ok j ht hk hlt ha hx hi hj (some d) w) kk
theorem dixs[h:Tab P tt]{x i:Operand}{t m e:Nat}{k:TK}{p:Addr}{kd:IntKind}{z:Int}(j:Nat)(hlt:j<m)(kk:WD P n ops Q drest ((d,.pointer (some (p.add (j*k.esz))))::al) w)(ht:tk tt t=some k:=by rfl)(hk:k.desc=.array m e:=by rfl)(hx:ev al x=some (.pointer (some p)):=by rfl)(hi:ev al i=some (.int kd z):=by rfl)(hj:z=(j:Int):=by first|rfl|omega)(hd:Nat.blt d n=true:=by rfl): WD P n ops Q ((0,⟨some d,.indexAddr t x i,ty,pos,aft,none⟩)::drest) al w :=
 dy (λw' _ a ha=>Qkg h.ok j ht hk hlt ha hx hi hj (some d) w') hd kk
theorem adr1(b v:Nat): (⟨b,0,none⟩:Addr).add (v*1)=⟨b,v,none⟩:=by rw [Jzn,Nat.mul_one,Nat.zero_add]
theorem ixb[h:Tab P tt]{x i:Operand}{t m e b:Nat}{k:TK}{kd:IntKind}{z:Int}(j:Nat)(hlt:j<m)(kk:WL P n ops Q rest ((d,.pointer (some ⟨b,j,none⟩))::al) w)(ht:tk tt t=some k:=by rfl)(hk:k.desc=.array m e:=by rfl)(h1:k.esz=1:=by rfl)(hx:ev al x=some (.pointer (some ⟨b,0,none⟩)):=by rfl)(hi:ev al i=some (.int kd z):=by rfl)(hj:z=(j:Int):=by first|rfl|omega)(hd:Nat.blt d n=true:=by rfl): WL P n ops Q (⟨some d,.indexAddr t x i,ty,pos,aft,none⟩::rest) al w:=by
 rw [<-adr1 b j,<-h1]at kk;exact ixs j hlt kk ht hk hx hi hj hd
theorem dixb[h:Tab P tt]{x i:Operand}{t m e b:Nat}{k:TK}{kd:IntKind}{z:Int}(j:Nat)(hlt:j<m)(kk:WD P n ops Q drest ((d,.pointer (some ⟨b,j,none⟩))::al) w)(ht:tk tt t=some k:=by rfl)(hk:k.desc=.array m e:=by rfl)(h1:k.esz=1:=by rfl)(hx:ev al x=some (.pointer (some ⟨b,0,none⟩)):=by rfl)(hi:ev al i=some (.int kd z):=by rfl)(hj:z=(j:Int):=by first|rfl|omega)(hd:Nat.blt d n=true:=by rfl): WD P n ops Q ((0,⟨some d,.indexAddr t x i,ty,pos,aft,none⟩)::drest) al w:=by
 rw [<-adr1 b j,<-h1]at kk;exact dixs j hlt kk ht hk hx hi hj hd
theorem nixb[h:Tab P tt]{x i:Operand}{t m e b:Nat}{k:TK}{kd:IntKind}{z:Int}(j:Nat)(hlt:j<m)(kk:WN N P n ops Q drest ((d,.pointer (some ⟨b,j,none⟩))::al) w)(ht:tk tt t=some k:=by rfl)(hk:k.desc=.array m e:=by rfl)(h1:k.esz=1:=by rfl)(hx:ev al x=some (.pointer (some ⟨b,0,none⟩)):=by rfl)(hi:ev al i=some (.int kd z):=by rfl)(hj:z=(j:Int):=by first|rfl|omega)(hd:Nat.blt d n=true:=by rfl): WN N P n ops Q ((0,⟨some d,.indexAddr t x i,ty,pos,aft,none⟩)::drest) al w:=by
 rw [<-adr1 b j,<-h1]at kk;exact nixa j hlt kk ht hk hx hi hj hd
theorem Blk.atc{w:World}{g:Nat}{t:TypeId}{cs:List Value}(h:Blk w g t cs){i:Nat}{v:Value}(hv:cs[i]?=some v): w.cell? ⟨g,i,none⟩=some v:=by rw [h.cell];exact hv
theorem sla[h:Tab P tt]{x:Operand}{t m e:Nat}{k:TK}{p:Addr}(kk:WL P n ops Q rest ((d,.slice (some p) m m)::al) w)(ht:tk tt t=some k:=by rfl)(hk:k.desc=.array m e:=by rfl)(hx:ev al x=some (.pointer (some p)):=by rfl)(hd:Nat.blt d n=true:=by rfl): WL P n ops Q (⟨some d,.slice t x none none none,ty,pos,aft,none⟩::rest) al w :=
 wop hd (λa ha=>by
  have hu:=Qjr h.ok ht hk w;have hs:=Jqr w hu.2.2.2;simp [execOp,ha.ev hx,Instr.sliceAt,run_underlying hu.2.2.1,Instr.sureAddr,Instr.sliceBounds,hs];exact λ_=>add_zero p) kk
theorem cpb{x y:Operand}{dT sT e t b dl dc sn sc:Nat}{k:TK}{A:Option Addr}{cs xs:List Value}[h:Tab P tt](hb:Blk w b t cs)(hr:Rd w 1 A sn xs)(hsn:sn<=dl)(hdl:dl<=cs.length)(h1:∀ u∈xs,u.oneCell'=true)(kk:∀ w1,Blk w1 b t (xs++cs.drop sn)->w.grownBy w1 (some b)->WL P n ops Q rest ((d,.int .i64 (sn:Int))::al) w1)(ht:tk tt dT=some k:=by rfl)(hk:k.desc=.slice e:=by rfl)(hz:k.esz=1:=by rfl)(hx:ev al x=some (.slice (some ⟨b,0,none⟩) dl dc):=by rfl)(hy:ev al y=some (.slice A sn sc):=by rfl)(hd:Nat.blt d n=true:=by rfl):
  WL P n ops Q (⟨some d,.call { callee:=.builtin .copy,args:=#[x,y],argTypes:=#[dT,sT] },ty,pos,aft,none⟩::rest) al w:=by
 have hxl:xs.length=sn:=by rw [hr.len,Nat.mul_one]
 have hu:=Jvb h.ok ht hk hz;have hs1:(P.info? e).map (·.size)=some 1:=hu.2
 have hgr:=Jzb w b (xs++cs.drop sn).toArray;have hB:Blk (w.setRow b (xs++cs.drop sn).toArray) b t (xs++cs.drop sn):=setRow_heap w b _ _ _ _ hb;refine wop (w':=w.setRow b (xs++cs.drop sn).toArray) hd (λa ha=>?_) (kk _ hB hgr);by_cases h0:sn=0
 ·subst h0;have:xs=[]:=List.eq_nil_of_length_eq_zero hxl;subst this;have e0:w.setRow b ([]++cs.drop 0).toArray=w:=by
   have:=setRow_self w b cs.toArray t (0,0) hb;simpa using this
  rw [e0];cases hq:P.info? e with
  | none=>rw [hq]at hs1;cases hs1
  | some i=>
   cases A with
   | none=>simp [execOp,resolve,invoke,builtin,ha.ev hx,ha.ev hy,Builtin.copy_,run_underlying hu.1,Builtin.lenOf,Builtin.firstCells,sizeOf,typeInfo,hq,storeCells,goInt]
   | some ad=>simp [execOp,resolve,invoke,builtin,ha.ev hx,ha.ev hy,Builtin.copy_,run_underlying hu.1,Builtin.lenOf,Builtin.firstCells,sizeOf,typeInfo,hq,storeCells,goInt,loadCells,loadCellsFrom]
 ·obtain ⟨ad,hA,_⟩:=hr.isome (by omega) (by omega);subst hA;have hrun:=run_copy_row P w dT sT ty e b 0 dl dc ad sn sc cs.toArray t xs hu.1 hs1 hb (by rw [hxl];exact (Nat.min_eq_left hsn).symm) (λj v hv=>hr.cell hv) (by simp;omega) h1;rw [hxl]at hrun;have e1:(cs.toArray.toList.take 0++xs++cs.toArray.toList.drop (0+sn)).toArray=(xs++cs.drop sn).toArray:=by simp
  rw [e1]at hrun;simp [execOp,resolve,invoke,builtin,ha.ev hx,ha.ev hy,hrun,goInt]
end
end Go.Wk
