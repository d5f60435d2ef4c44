/- Part 25 of the proof: Mt2, ArA. -/
import Derived.Test.YtefpailelagbkaaGreatDoorJ24
import Derived.Laws.CopyRow
set_option linter.unusedVariables false
set_option maxRecDepth 100000
set_option maxHeartbeats 40000000
namespace Go.Wk
open Go.RowKit
theorem Xjb{P:Program}{n:Nat}{al:AL}{w:World}{Q:Exit->Act->World->Prop}{ops:Array Oper}{rest:List Oper}{ty:Nat}{pos:String}{aft:Array Edge}{tt:TT}[h:Tab P tt]{x y:Operand}{t b:Nat}{k:TK}{u v:Value}(hb:Blk w b t [u])(kk:∀ w1,Blk w1 b t [v]->w.grownBy w1 (some b)->(∀ a,Ext a w->a.heap.size<=b->Ext a w1)->WL P n ops Q rest al w1)(hv:v.oneCell'=true)(ht:tk tt t=some k:=by rfl)(hk:k.size=1:=by rfl)(hp:Jwb k.desc=true:=by rfl)(hx:ev al x=some (.pointer (some ⟨b,0,none⟩)):=by rfl)(hy:ev al y=some v:=by rfl):
  WL P n ops Q (⟨none,.store t x y,ty,pos,aft,none⟩::rest) al w :=
 Qrk h.ok ht hk hp hx hy hv (hb.cell 0) (hb.frozen 0) (kk _ (hb.set 0 v) ⟨rfl,rfl,rfl,by simp [World.setCell],λk hk hn=>Below.heap_setCell w ⟨b,0,none⟩ v k (λe=>hn (by rw [e]))⟩ λa j i=>j.setCell i v)
end Go.Wk
namespace Go.Proofs.YtefpailelagbkaaGreatDoor
open Go.RowKit Pl Go.Wk
attribute [local irreducible] WC WL QX WD WDB WP WN WG
structure MOk(n:Nat)(ts:List TA)(vars:Nat->List Nat)(rs:Nat->List Row)(s:Nat): Prop where
 run:RunOk n ts vars rs
 sb:s<2^n
 valid:∀ i,i<ts.length->∀ r∈rs i,r.all Jqz=true
 srtP:∀ i,i<ts.length->(rs i).length<=12∨Srt [] ((rs i).map (pmR (Jqx (vars i) s)))
theorem Qrd{vs:List Nat}(h:Jcb vs): ascB (nz vs):=λj o i=>by
 rw [Jqp]at i;rw [Jrh i,Jrh (show j-1<vs.length by omega)];have:=List.pairwise_iff_getElem.1 h (j-1) j (by omega) i (by omega);simp only [List.getD,List.getElem?_eq_getElem i,List.getElem?_eq_getElem (show j-1<vs.length by omega),Option.getD_some];omega
theorem Jhs{n:Nat}{ts:List TA}{vars:Nat->List Nat}{rs:Nat->List Row}(h:RunOk n ts vars rs): Xvk n (ts.map (·.2)):=by
 have J:=h.n32;refine ⟨by omega,by omega,by rw [List.length_map];exact h.m32,λa G=>?_,λv j=>?_⟩
 ·obtain ⟨t,ht,rfl⟩:=List.mem_map.1 G;obtain ⟨i,hi,e⟩:=List.getElem_of_mem ht;have o:=h.at_ i hi;rw [Jjh ta0 ts hi,e]at o;rw [o];refine ⟨Qrd (h.asc i hi),λv j=>?_,by simp only;rw [Jqp]⟩;obtain ⟨u,C,rfl⟩:=List.mem_map.1 j;have:=h.lt i hi u C;omega
 ·obtain ⟨i,hi,D⟩:=h.cov v (by omega);refine ⟨(ts.getD i ta0).2,List.mem_map_of_mem (getD_mem' ta0 ts hi),?_⟩;rw [h.at_ i hi];exact List.mem_map.2 ⟨v,D,rfl⟩
def AtG(w:World)(cs:List Value)(a:Atm): Prop:=∃ t:V3,cs=t.cells/\AtV w t a
theorem Qqc: ∀ (ps:List (List Value×Atm)) (w:World),(∀ p∈ps,AtG w p.1 p.2)->∃ ts:List TA,ts.map (·.2)=ps.map (·.2)/\atC ts=Jxf ps/\ts.length=ps.length/\∀ q∈ts,AtV w q.1 q.2
 | [],w,_=>⟨[],rfl,rfl,rfl,λq hq=>by cases hq⟩
 | p::ps,w,h=>by
  obtain ⟨qs,h1,h2,h3,h4⟩:=Qqc ps w λq hq=>h q (List.mem_cons_of_mem _ hq);obtain ⟨t,e,hr⟩:=h p (mC ..);refine ⟨(t,p.2)::qs,by simp [h1],?_,by simp [h3],λq hq=>?_⟩
  ·simp only [Jxf,atC,List.flatMap_cons,e]at h2 ⊢;rw [h2]
  ·rcases List.mem_cons.1 hq with rfl|hq
   ·exact hr
   ·exact h4 q hq
theorem Jmw{w:World}{v:Value}{ats:List Atm}(h:GV 3 AtG w v ats): ∃ (ts:List TA) (A:Option Addr) (c:Nat),ats=ts.map (·.2)/\v=.slice A ts.length c/\ts.length<=c/\ts.length<=1100000/\Rd w 3 A ts.length (atC ts)/\∀ p∈ts,AtV w p.1 p.2:=by
 obtain ⟨ps,A,c,e,u,o,j,i,C⟩:=h;obtain ⟨ts,U,O,J,G⟩:=Qqc ps w λp D=>(C p D).2;rw [<-J]at u o j i;exact ⟨ts,A,c,by rw [e,U],u,o,j,by rw [O];exact i,G⟩
theorem EA: ElT Tryz.prog 60 69 3 56 (.agg #[.slice none 0 0,.int .i64 0,.slice none 0 0]):=⟨Tryz.underlying60,info_parts (by kernel_rfl),rfl,by decide⟩
theorem zInts: Jxd Tryz.prog 23=some (.slice none 0 0):=by kernel_rfl
theorem zRows: Jxd Tryz.prog 35=some (.slice none 0 0):=by kernel_rfl
theorem Qzl(v1 v2 v3:Value)(A B:Option Addr)(n c m d:Nat)(z:Int)(h1:v1=.slice A n c)(h2:v2=.int .i64 z)(h3:v3=.slice B m d)(w:World): (Instr.buildSlice 60 1 #[(0,.agg #[v1,v2,v3])]).run Tryz.prog w=.ok (.slice (some ⟨w.heap.size,0,none⟩) 1 1) (w.alloc (.cells [v1,v2,v3].toArray 69)):=by
 subst h1;subst h2;subst h3;kernel_rfl
theorem Qvp(A B:Option Addr)(n c m d:Nat)(z:Int)(w:World): (Instr.build 69 #[(0,.slice A n c),(1,.agg #[.int .i64 z,.slice B m d])]).run Tryz.prog w=.ok (.agg #[.slice A n c,.int .i64 z,.slice B m d]) w:=by kernel_rfl
theorem Qsd{v:Value}{z:Int}{A:Option Addr}{n c:Nat}(h:v.oneCell'=true): ∀ u∈[v,.int .i64 z,.slice A n c],u.oneCell'=true:=λu i=>by
 simp only [List.mem_cons,List.not_mem_nil,or_false]at i;rcases i with rfl|rfl|rfl
 ·exact h
 ·rfl
 ·rfl
theorem Qnd{n:Nat}{ts ts':List TA}{vars:Nat->List Nat}{rs ms:Nat->List Row}{s:Nat}(hok:MOk n ts vars rs s)(hl:ts'.length=ts.length)(he:(List.range ts.length).map (λj=>(⟨nz (rnm (vars j) s),(rnm (vars j) s).length,ms j⟩:Atm))=ts'.map (·.2))(hms:∀ j,j<ts.length->Jvg [] ((rs j).map (pmR (Jqx (vars j) s))) (ms j)/\(ms j).length<=65536): RunOk (bk s 32).length ts' (λj=>rnm (vars j) s) ms:=by
 have D:=hok.run.n32;have o:∀ i,i<ts.length->∀ v∈vars i,v<32:=λi hi v O=>by have:=hok.run.lt i hi v O;omega
 refine ⟨Jvz s 32,by rw [hl];exact hok.run.m32,λi hi=>?_,λi hi=>Xjm (hok.run.asc i (hl ▸ hi)) (o i (hl ▸ hi)),λi hi u U=>Xkp (o i (hl ▸ hi)) U,λk G=>?_,λi hi=>(hms i (hl ▸ hi)).1.1,λi hi r Z=>?_,λi hi=>(hms i (hl ▸ hi)).2⟩
 ·have C:(ts'.map (·.2))[i]?=some (ts'.getD i ta0).2:=by rw [List.getElem?_map,List.getElem?_eq_getElem hi,Option.map_some,Jjh ta0 ts' hi]
  rw [<-he,List.getElem?_map,List.getElem?_range (hl ▸ hi),Option.map_some]at C;injection C with C;exact C.symm
 ·obtain ⟨C,J⟩:=bk_mem.1 (getD_mem' 0 _ G);obtain ⟨i,hi,hm⟩:=hok.run.cov _ (Jbj hok.sb J);exact ⟨i,hl.symm ▸ hi,List.mem_map.2 ⟨_,inS_mem.2 ⟨hm,J⟩,Qxp (Jmr s 32) G⟩⟩
 ·obtain ⟨x,hx,rfl⟩:=List.mem_map.1 (((hms i (hl ▸ hi)).1.2 r).1 Z);have:=Jdj (vars i) s (vars i).length (Nat.le_refl _);rw [List.take_length]at this;rw [Jxb,Qfr];exact this
theorem Qbk{n:Nat}{ts:List TA}{vars:Nat->List Nat}{rs ms:Nat->List Row}{s:Nat}(hok:MOk n ts vars rs s)(hms:∀ j,j<ts.length->Jvg [] ((rs j).map (pmR (Jqx (vars j) s))) (ms j)/\(ms j).length<=65536){x:Row}(hx:Jst (bk s 32).length ts.length (λi=>rnm (vars i) s) ms x): x.all Jqz=true:=by
 rw [List.all_eq_true];intro y O;obtain ⟨k,C,rfl⟩:=List.getElem_of_mem O;have o:k<(bk s 32).length:=by rw [<-hx.1];exact C
 obtain ⟨h1,J⟩:=bk_mem.1 (getD_mem' 0 _ o);obtain ⟨i,hi,U⟩:=hok.run.cov _ (Jbj hok.sb J);have h3:=hx.2 i hi;obtain ⟨r,u,e⟩:=List.mem_map.1 (((hms i hi).1.2 _).1 h3);have G:x.getD k V0∈pmR (rnm (vars i) s) x:=List.mem_map.2 ⟨k,List.mem_map.2 ⟨_,inS_mem.2 ⟨U,J⟩,Qxp (Jmr s 32) o⟩,rfl⟩;rw [<-e]at G;obtain ⟨c,Z,e2⟩:=List.mem_map.1 G;have D:=List.all_eq_true.1 (hok.valid i hi r u) (r.getD c V0) (getD_mem' V0 r (by rw [hok.run.len i hi r u];exact Jvd Z));rw [e2,Jjh V0 x C]at D;exact D
theorem Xwd(s:Nat): (madeCells (Value.int .i64 0).cells (32*1)).toList=Jkg (nz (Jng s 0)):=by
 have e:(madeCells (Value.int .i64 0).cells (32*1)).toList=List.replicate 32 (Value.int .i64 0):=Jlk _ _;have i:Jng s 0=List.replicate 32 0:=by simp [Jng,List.map_const']
 rw [e,i];rfl
theorem Xwb(cs:List Nat)(i x:Nat): Jkg (nz (cs.set i x))=(Jkg (nz cs)).set i (.int .i64 (x:Int)):=by simp [Jkg,nz,List.map_set]
theorem Qsl{w:World}{base:Nat}{v:Value}{cs:List Nat}(h:Jnh w base v cs): ∃ A c,v=.slice A cs.length c/\cs.length<=c/\∀ g,v.ownBlock=some g->base<=g/\g<w.heap.size:=Jjd h
theorem Jlj{w:World}{n:Nat}{ts:List TA}{Aa:Option Addr}{ca:Nat}{vars:Nat->List Nat}{rs:Nat->List Row}{s:Nat}(hok:MOk n ts vars rs s)(hR:Rd w 3 Aa ts.length (atC ts))(hle:ts.length<=ca)(hat:∀ p∈ts,AtV w p.1 p.2)(hcap:∀ l:List Row,Lt [] l->(∀ x∈l,∃ z:Row,z.length=n/\x=pmR (bk s 32) z/\Qrj ts.length vars rs s z)->l.length<=65536):
  Ret Tryz.prog 122 [.int .i64 (n:Int),.int .u32 (s:Int),.slice Aa ts.length ca] w λu w'=>Ext w w'/\∃ (t':V3) (st:Int) (l:List Row),u=.tuple #[.agg t'.cells.toArray,.int .i64 st,.int .i64 0] /\
   Off (λk=>k<w.heap.size) w' (λx=>AtV x t' ⟨nz (bk s 32),(bk s 32).length,l⟩)/\Lt [] l/\(∀ x,x∈l↔∃ z:Row,z.length=n/\x=pmR (bk s 32) z/\Qrj ts.length vars rs s z)/\l.length<=65536:=by
 have b3:=hok.run.n32;have en:=hok.run.m32;have b2:s<4294967296:=nM hok.sb (Nat.pow_le_pow_right (n:=2) (by decide) b3);have a3:∀ i,i<ts.length->∀ v∈vars i,v<32:=λi hi v hv=>by have:=hok.run.lt i hi v hv;omega
 refine Jjc Tryz.func122 Tryz.ntmps122 rfl (by kernel_rfl) rfl ?_;refine ρ ?_;refine alc Jcp ?_;intro w1 b6 c0 ee ae;refine ρ ?_;refine cl (Jcm (n:=(n:Int)) (ats:=ts.map (·.2)) ⟨ts,Aa,ca,rfl,rfl,hle,by omega,hR.ext c0,λp hp=>(hat p hp).ext c0⟩) ?_
 rintro u w2 ⟨cq,e,rfl,he⟩;have e0:=he.2 (Jhs hok.run);subst e0;clear he;refine ρ ?_;refine Qrv (s:=s) (v:=n) b3 ?_;rw [Nat.div_eq_of_lt hok.sb];refine ρ ?_;refine mkn EI 32 (by omega) (by unfold maxLen;omega) ?_;intro w3 Na cp c6 _;rw [Xwd s]at c6;refine ρ ?_;refine alc zInts ?_;intro w4 bo e3 dg J;refine ρ ?_;refine Xjb J ?_ rfl;intro w5 J f3 e1;have aq:Ext w3 w5:=e1 w3 e3 dg;have bp:=c0.trans cq;have cn:Ext w w5:=(bp.trans cp).trans aq;have d4:w5.ownsRow w.heap.size 3 1 (.slice Na 32 32) 32 (Jkg (nz (Jng s 0))):=Jrf (Jjb c6 aq) bp.size;have bv:Blk w5 b6 69 [.slice none 0 0,.int .i64 0,.slice none 0 0]:=(ae.ext cq).ext (cp.trans aq);refine ρ ?_;refine Jqb (fun (v:Nat) (vv:Value)=>[(0,.int .i64 (n:Int)),(1,.int .u32 (s:Int)),(2,.slice Aa ts.length ca),(6,.pointer (some ⟨b6,0,none⟩)),(10,vv),(11,.pointer (some ⟨bo,0,none⟩)),(37,.int .i64 (v:Int))])
  (λv vv w'=>v<=32/\Ext w w'/\Blk w' b6 69 [.slice none 0 0,.int .i64 0,.slice none 0 0]/\Blk w' bo 23 [.slice Na 32 32]/\w'.ownsRow w.heap.size 3 1 (.slice Na 32 32) 32 (Jkg (nz (Jng s v)))/\Jnh w' w.heap.size vv (bk s v)/\∀ g,vv.ownBlock=some g->(Value.slice Na 32 32).ownBlock≠some g) (λv _=>32-v) 0 (.slice none 0 0) sB
  ⟨by omega,cn,bv,J,d4,Jxm _ _ _ _,λg e=>(by cases e)⟩ ?_
 clear c6 d4 bv J;rintro v vv w6 ⟨hv,bh,ae,J,ad,az,a7⟩;refine ρ ?_;refine ci (λh=>?_) (λh=>?_)
 ·have lv:v<32:=by have:=oT h;omega
  clear h;have db:=Jvz s v;have eo:∀ {w':World},(Jng s v).length=32:=fun {_}=>Jbb s v
  obtain ⟨VA,vc,ch,cx,c1⟩:=Qsl az;refine ρ ?_;refine Qrv (s:=s) (v:=v) (by omega) ?_;refine ρ ?_;refine ci (λh=>?_) (λh=>?_)
  ·rw [Jkh b2]at h;subst ch;refine ρ ?_;refine ld (J.at (i:=0) rfl) ?_;refine ρ ?_;refine ix v (Rd.own ad) lv ?_;obtain ⟨s1,s2,s3,s4,s5⟩:=Jqj ad (q:=v) (by omega) (.int .i64 ((bk s v).length:Int));refine ρ ?_;refine sto (s1.trans (Jzc (by rw [Jbb];exact lv))) s2 ?_;rw [<-Xwb]at s3;have d2:∀ g,(Value.slice Na 32 32).ownBlock=some g->w.heap.size<=g:=λg eg=>by
    obtain ⟨_,_,_,_,hf⟩:=Jjd ad;exact (hf g eg).1
   have a1:Ext w (w6.setCell (adr Na v) (.int .i64 ((bk s v).length:Int))):=Jjk bh s5 d2;have a2:=ae.grown s5 (ae.ne_own ad rfl);have Z:=J.grown s5 (J.ne_own ad rfl);have ac:Jnh (w6.setCell (adr Na v) (.int .i64 ((bk s v).length:Int))) w.heap.size (.slice VA (bk s v).length vc) (bk s v):=Jjq az (GrN.by s5 λg eg=>eg) (λg eg e=>a7 g eg e);generalize w6.setCell (adr Na v) (.int .i64 ((bk s v).length:Int))=w7 at *
   clear s1 s2 s4 s5;refine ρ ?_;refine bsl (bs1Int'' _) ?_;intro w8 b8 o f6 eh;refine ρ ?_;refine apI (Jjb ac o) eh (by omega) (a1.trans o).size ?_;intro dx w9 c2 a4 eb;have am:Ext w w9:=Jjk (a1.trans o) a4 (λg eg=>(c1 g eg).1);refine ρ ?_;refine Jjm (v+1) dx sO ⟨by omega,am,(a2.ext o).grown a4 ((a2.ext o).ne_own (Jjb ac o) rfl),(Z.ext o).grown a4 ((Z.ext o).ne_own (Jjb ac o) rfl),?_,?_,λg eg e=>?_⟩ (by omega)
   ·rw [Qwg lv,if_pos h];exact Jjq (Jjb s3 o) (GrN.by a4 λg eg=>eg) (λg eg e=>a7 g e eg)
   ·rw [Jyp,if_pos h];exact c2
   ·rcases eb g eg with h'|h'
    ·exact a7 g h' e
    ·obtain ⟨_,_,_,_,hf⟩:=Jjd s3;have:=(hf g e).2;have:=o.size;omega
  ·rw [Jkh b2]at h;have hf:¬ s.testBit v=true:=by rw [h];simp
   refine ρ ?_;refine Jjm (v+1) vv sO ⟨by omega,bh,ae,J,?_,?_,a7⟩ (by omega)
   ·rw [Qwg lv,if_neg hf];exact ad
   ·rw [Jyp,if_neg hf,List.append_nil];exact az
 have e5:v=32:=by have:=oF h;omega
 subst e5;clear h a7;obtain ⟨VA,vc,ch,cx,c1⟩:=Qsl az;subst ch;have db:=Jvz s 32;refine ρ ?_;refine Jnk (fun (i:Nat) (st:Int) (vp:Value) (ms:Nat->List Row)=>[(0,.int .i64 (n:Int)),(1,.int .u32 (s:Int)),(6,.pointer (some ⟨b6,0,none⟩)),(10,.slice VA (bk s 32).length vc),(13,.func (.func 154) #[] #[.pointer (some ⟨bo,0,none⟩)]),(14,.int .i64 st),(15,vp),(56,.slice Aa ts.length ca),(57,.int .i64 (ts.length:Int)),(58,.int .i64 (i:Int))])
  (λi st vp ms w'=>i<=ts.length/\Ext w w'/\w6.heap.size<=w'.heap.size/\Blk w' b6 69 [.slice none 0 0,.int .i64 0,.slice none 0 0]/\Blk w' bo 23 [.slice Na 32 32]/\w'.ownsRow w.heap.size 3 1 (.slice Na 32 32) 32 (Jkg (nz (Jng s 32)))/\Jnh w' w.heap.size (.slice VA (bk s 32).length vc) (bk s 32) /\
   OwnG 69 3 AtG w' w6.heap.size vp ((List.range i).map λj=>⟨nz (rnm (vars j) s),(rnm (vars j) s).length,ms j⟩)/\∀ j,j<i->Jvg [] ((rs j).map (pmR (Jqx (vars j) s))) (ms j)/\(ms j).length<=65536) (λi _ _ _=>ts.length-i) 0 0 (.slice none 0 0) (λ_=>[]) sB
  ⟨Nat.zero_le _,bh,Nat.le_refl _,ae,J,ad,az,OwnG.nil _ _,λj hj=>by omega⟩ ?_
 rintro i st vp ms w7 ⟨hi,a1,b1,a2,Z,d3,ac,c8,ah⟩;refine ρ ?_;refine ci (λh=>?_) (λh=>?_)
 ·have li:i<ts.length:=by have:=oT h;omega
  have dh:=hR.ext a1;obtain ⟨t1,t2,t3,a,hp⟩:∃ t1 t2 t3 a,ts.getD i ta0=((t1,t2,t3),a):=⟨_,_,_,_,rfl⟩;have dk:AtV w (t1,t2,t3) a:=by have:=hat _ (Jhk rfl li);rw [hp]at this;exact this
  have ea:a=⟨nz (vars i),(vars i).length,rs i⟩:=by have:=hok.run.at_ i li;rw [hp]at this;exact this
  subst ea;clear h;have h3:∀ u∈[t1,t2,t3],u.oneCell'=true:=dk.one;refine ρ ?_;refine ixq 3 i dh li ?_;refine ρ ?_;refine lds (cs:=[t1,t2,t3]) (λj u hu=>Jmx dh rfl li (by rw [hp];exact hu)) ?_;refine ρ ?_;refine alc Jcp ?_;intro w8 f8 o df bc;refine ρ ?_;refine stb (cs':=[t1,t2,t3]) bc ?_ h3;intro w9 bc a4 am;have af:Ext w7 w9:=am w7 o df;refine ρ ?_;refine ldW bc ?_;refine ρ ?_;refine cl (Jmv (t:=(t1,t2,t3)) (dk.ext (a1.trans af)) b2 (hok.run.asc i li) (a3 i li) (hok.run.len i li) (hok.run.big i li)) ?_;rintro u ao ⟨a5,⟨p1,p2,p3⟩,rfl,m,a6,d6,d5,ag⟩;have U:=ag (hok.srtP i li);have cg:=a6.here;obtain ⟨⟨PA,pc,dv,d1,e6,ez⟩,du,bl⟩:=id cg;simp only at dv du;obtain ⟨bg,PG,ap,_,dt,_⟩:=id bl;simp only at dt;have co:=a1.trans af;have e4:=co.trans a5;refine ρ ?_;refine alc Jcp ?_;intro dw f7 ay de ai;refine ρ ?_;refine stb (cs':=[p1,p2,p3]) ai ?_ cg.one;intro aj ai d9 ax;have C:Ext ao aj:=ax ao ay de
  refine ρ ?_;subst dv;subst du;subst dt;refine lds (cs:=[.int .i64 ((inS (vars i) s).length:Int),.slice PG bg.length ap]) (ai.sub2 (i:=1) rfl rfl) ?_;refine ρ ?_;have bd:=cg.ext C;refine cl (Jww bd.rel) ?_;rintro u bf ⟨rfl,G⟩;obtain ⟨bz,d0⟩:∃ bz:Int,bz=IntKind.i64.wrap (st+(m.length:Int)):=⟨_,rfl⟩;have ce:=ai.ext G;repeat first|refine ω4 ?_|refine ω5 ?_|refine χ1 ?_|refine κ1 ?_|refine κ2 ?_|refine χ2 ?_|refine κ3 ?_|refine ω6 ?_|refine ω7 ?_|refine ω9 ?_|refine κ4 ?_|refine κ7 ?_|refine κ8 ?_|refine χ3 ?_|refine χ4 ?_|refine κ5 ?_|refine κ6 ?_|refine χ5 ?_|refine χ6 ?_|refine χ7 ?_|refine ω8 ?_
  rw [<-d0];refine ρ ?_;refine ldW ce ?_;refine ρ ?_;have O:Ext w7 bf:=((af.trans a5).trans C).trans G;have aw:=a1.trans O;refine clv (Qnn (Na:=Na) (nums:=Jng s 32) (bd.ext G) ?_ ?_ (λv hv=>?_) ?_) ?_
  ·rw [Jbb];exact Z.ext O
  ·rw [Jbb];exact Rd.own (Jjb d3 O)
  ·rw [Jbb];exact a3 i li v (inS_mem.1 hv).1
  ·have:=List.length_filter_le (λv=>s.testBit v) (vars i);have h5:=Jsl (hok.run.asc i li) (a3 i li);unfold inS;omega
  rintro u an ⟨av,v1,rfl,c3⟩;have cy:=c3.here;obtain ⟨QA,qc,dn,ey,ex,ew⟩:=cy;refine ρ ?_;refine bsl (Qzl v1 _ _ QA PG _ qc _ ap _ dn rfl rfl) ?_;intro bw f9 au er dj;have ej:(inS (vars i) s).map (λv=>(Jng s 32).getD v 0)=rnm (vars i) s:=by
   unfold rnm;refine List.map_congr_left λv hv=>?_;obtain ⟨h5,h6⟩:=inS_mem.1 hv;exact Qnk (a3 i li v h5) h6
  rw [ej]at c3;have D:=(O.trans av).trans au;have b7:=c8.ext D;obtain ⟨_,_,_,_,c7⟩:=c8.form;have c5:∀ k,Jyz w6.heap.size vp k->k<w7.heap.size:=λk hk=>by
   rcases hk with hk|hk
   ·exact nM hk b1
   ·exact (c7 k hk).2
  have hΦ:Off (Jyz w6.heap.size vp) bw (λu=>AtG u [v1,.int .i64 ((inS (vars i) s).length:Int),.slice PG bg.length ap] ⟨nz (rnm (vars i) s),(rnm (vars i) s).length,m⟩):=by
   have h5:Off (λk=>k<w7.heap.size) bw (λu=>IntsV u v1 (nz (rnm (vars i) s))):=(c3.mono λk _ hk=>nM hk O.size).ext au;have h6:Off (λk=>k<w7.heap.size) bw (λu=>AtV u (.slice PA (nz (inS (vars i) s)).length pc,.int .i64 ((inS (vars i) s).length:Int),.slice PG bg.length ap) ⟨nz (inS (vars i) s),(inS (vars i) s).length,m⟩) :=
    (a6.mono λk _ hk=>nM hk af.size).ext (((C.trans G).trans av).trans au)
   refine ((h5.and h6).imp λu h=>⟨(v1,.int .i64 ((inS (vars i) s).length:Int),.slice PG bg.length ap),rfl,h.1,?_,h.2.2.2⟩).mono λk _ hk=>c5 k hk;simp only;rw [Qfr]
  refine ρ ?_;refine apG EA (Φ:=AtG) b7 dj rfl (Qsd (by rw [dn];rfl)) hΦ (by simp;omega) (by omega) (nL b1 D.size) ?_;intro ck be di a9 em;have cr:Ext w be:=Jjk (a1.trans D) a9 (λg eg=>nL bh.size (c7 g eg).1);have bm:∀ {g t:Nat} {cs:List Value},Blk w7 g t cs->Nat.beq 69 t=false->Blk be g t cs:=λhB e=>by
   obtain ⟨ps,_,ho,_⟩:=b7;exact (hB.ext D).grown a9 ((hB.ext D).ne_own ho e)
  have c9:Blk be b6 69 [.slice none 0 0,.int .i64 0,.slice none 0 0]:=by
   exact (a2.ext D).grown a9 λe=>by have:=(c7 b6 e.symm).1;have:=ae.lt;omega
  have br:∀ {m':Nat} {v:Value} {xs:List Value},w7.ownsRow w.heap.size 3 1 v m' xs->be.ownsRow w.heap.size 3 1 v m' xs:=λho=>by
   obtain ⟨ps,_,e9,_⟩:=b7;exact Jjs (Jjb ho D) e9 a9 rfl
  refine ρ ?_;refine Jvk (i+1) bz ck (upd ms i m) sO ⟨by omega,cr,Nat.le_trans b1 (nL D.size a9.size),c9,bm Z rfl,br d3,br ac,?_,λj hj=>?_⟩ (by omega)
  ·rw [List.range_succ,List.map_append,List.map_singleton,Jjl];have e:(List.range i).map (λj=>(⟨nz (rnm (vars j) s),(rnm (vars j) s).length,upd ms i m j⟩:Atm))=(List.range i).map (λj=>⟨nz (rnm (vars j) s),(rnm (vars j) s).length,ms j⟩):=by
    refine List.map_congr_left λj hj=>?_;have:=List.mem_range.1 hj;rw [Jjj _ _ (by omega)]
   rw [e];exact di
  ·by_cases e:j=i
   ·subst e;rw [Jjl];exact ⟨U,d6⟩
   ·rw [Jjj _ _ e];exact ah j (by omega)
 ·have ed:i=ts.length:=by have:=oF h;omega
  subst ed;clear h;refine ρ ?_;refine alc zRows ?_;intro w8 cj o dd aa;have ef:=c8.ext o;obtain ⟨dz,PA,pc,dq,ei,d1,e6,e7,e8⟩:=Jmw (ef.gv (by simp;omega));have c4:dz.length=ts.length:=by
   have:=congrArg List.length dq;simpa using this.symm
  have bt:=Qnd hok c4 dq ah;subst ei;have cm:=a1.trans o;have b5:=Xqf (m:=ts.length) (ms:=ms) hok.sb b3 hok.run.lt hok.run.len (λi hi x=>(ah i hi).1.2 x);refine ρ ?_;refine cl (Qpc (bx':=λk=>k=cj) (Y:=YM cj) bt e7 d1 e8 (Jhs bt) (λk hk=>by subst hk;exact aa.lt) (Qnm aa.lt) (λw' cv=>⟨nM aa.lt cv.size,.slice none 0 0,aa.ext cv,OwnG.nil _ _⟩) ?_) ?_
  ·intro l h1 h2;refine hcap l h1 λx hx=>(b5 x).1 ?_;have:=h2 x hx;rw [c4]at this;exact this
  rintro u w9 ⟨a4,eu,base,l,rfl,f4,ep,⟨f5,et,cd,hO⟩,bn,a8⟩;rw [c4]at a8;have cw:w.heap.size<=cj:=nL a1.size dd;have am:Ext w w9:=a4.old cm λk hk=>by subst hk;exact cw
  have b9:=Jjw (a2.ext o) a4 (λe=>by have:=a2.lt;omega);have c2:Jnh w9 w.heap.size (.slice VA (bk s 32).length vc) (bk s 32):=Jjq (Jjb ac o) a4 (λg eg e=>by subst e;exact aa.ne_own (Jjb ac o) rfl eg.symm);have d7:l.length<=65536:=by
   refine hcap l bn λx hx=>(b5 x).1 ((a8 x).1 hx)
  obtain ⟨LA,lc,dl,f2,f0⟩:=hO.form;subst dl;have bi:=Qyk (hO.gv (by omega));refine ρ ?_;refine ld (cd.at (i:=0) rfl) ?_;refine ρ ?_;refine cl (Jhv (ar:=(bk s 32).length) bi) ?_;rintro u ao ⟨a5,rv,e,rfl,⟨z,RB,rm,rd,rfl⟩,da,bs⟩;have ec:∀ r∈l,r.length=(bk s 32).length/\r.all Jqz=true:=λr hr=>⟨((a8 r).1 hr).1,Qbk hok ah ((a8 r).1 hr)⟩;have e0:=da db ec d7;subst e0;obtain ⟨_,_,m,a6,d6,d5,ag⟩:=bs rfl;have U:=ag (.inr (Jbw bn));have ek:m=l:=Jyt U.1 bn U.2;subst ek;clear ag U da bs d5;refine ρ ?_;refine alc Qmh ?_;intro dw el ay dc bb;refine ρ ?_;refine stb (cs':=[.int .i64 z,.slice RB rm rd]) bb ?_ Qwd;intro aj bb d9 ax;have C:Ext ao aj:=ax ao ay dc;refine ρ ?_;have ab:=a5.trans C;have cc:=b9.ext ab;have bj:=(a6.here).ext C;refine drN (λk=>k=b6) 12 [(0,0),(0,1),(0,2),(0,3),(0,4),(0,5),(0,6),(1,7),(0,8),(1,9),(0,10),(0,11)] (by kernel_rfl) ?_;have ak:Ext aj aj.drew:=(Ext.refl aj).drew
  have ba:=bb.ext ak;have bu:=cc.ext ak;have bm:¬ (λk=>k=b6) el:=λe=>by
   have h1:=b9.lt;have h2:=a5.size;simp only at e;omega
  refine ρn ?_;refine Jlg (cs:=[.int .i64 z,.slice RB rm rd]) (λw' hg j u hu=>(Jjw ba hg bm).at hu) ?_;refine ρn ?_;refine Xqb (Qvp _ _ _ _ _ _ _) ?_;refine ρn ?_;refine Jlg (cs:=[.int .i64 z,.slice RB rm rd]) (λw' hg j u hu=>(Jjw ba hg bm).at hu) ?_;refine ρn ?_;refine nop ?_;refine cl (Jww (bj.ext ak)) ?_;rintro u bf ⟨rfl,G⟩;refine ρ ?_;refine Jqt (GrN.ext G) ?_;refine ρn ?_;refine nop ?_;refine stb (cs':=[.slice VA (bk s 32).length vc,.int .i64 z,.slice RB rm rd]) (bu.ext G) ?_ (Qsd rfl);intro an cb b4 av;refine ω5 ?_;refine Jqt (GrN.by b4 λk e=>by injection e with e;exact e.symm) ?_;refine ρn ?_;refine ρ ?_;have aw:Ext w bf:=((am.trans ab).trans ak).trans G;refine Xwv cb ⟨Jdh aw b4 ee,(.slice VA (bk s 32).length vc,.int .i64 z,.slice RB rm rd),_,m,rfl,?_,bn,λx=>(a8 x).trans (b5 x),d7⟩;have d8:GrN (λk=>k=b6) bf an:=GrN.by b4 λk e=>by injection e with e;exact e.symm
  have bq:=Jjb c2 ((ab.trans ak).trans G);have cz:Jnh an w.heap.size (.slice VA (bk s 32).length vc) (bk s 32):=Jjq bq d8 λg eg e=>by subst e;exact (bu.ext G).ne_own bq rfl eg.symm
  have h5:Off (λk=>k<w.heap.size) an (λu=>IntsV u (.slice VA (bk s 32).length vc) (nz (bk s 32))):=by
   refine (Jdz cz λg eg hk=>by have:=(c1 g eg).1;omega).imp λu h=>⟨VA,vc,by rw [Jqp],by rw [Jqp];exact cx,by rw [Jqp];omega,by rw [Jqp];exact Rd.own h⟩
  have h6:Off (λk=>k<w.heap.size) an (λu=>RelV u (.agg #[.int .i64 z,.slice RB rm rd]) (bk s 32).length m):=by
   have h7:=a6.ext ((C.trans ak).trans G);have h8:=h7.gr (d8.mono λk _ hk=>by subst hk;exact b9.lt);exact h8.mono λk _ hk=>nM hk am.size
  refine (h5.and h6).imp λu h=>?_;obtain ⟨h7,rv,dm,h8⟩:=h;have e2:(Value.int .i64 z)=.int .i64 ((bk s 32).length:Int)/\Value.slice RB rm rd=rv:=by
   simp only [Value.agg.injEq,Array.mk.injEq,List.cons.injEq,and_true]at dm;exact dm
  exact ⟨h7,e2.1,by simp only;rw [e2.2];exact h8⟩
end Go.Proofs.YtefpailelagbkaaGreatDoor
namespace Go.Wk
open Go.RowKit
section
variable {N:Nat->Prop} {P:Program} {n:Nat} {al:AL} {w:World} {Q:Exit->Act->World->Prop} {ops:Array Oper} {rest:List Oper} {drest:List (Nat×Oper)}
variable {d ty:Nat} {pos:String} {aft:Array Edge} {tt:TT}
theorem Jsz(hT:TOk P tt){t m e:Nat}{k:TK}(ht:tk tt t=some k)(hk:k.desc=.array m e)(w:World): (isAgg t).run P w=.ok true w/\Jpr P t=some k.size/\P.underlying t=some (.array m e)/\Jpr P e=some k.esz:=by
 have:=hT.at ht;unfold Jgh at this;rw [hk]at this;exact ⟨by simp [isAgg,run_underlying this.1],this.2.2,this.1,this.2.1⟩
theorem Jtg(hT:TOk P tt){t m e:Nat}{k:TK}{p:Addr}{cs:List Value}(ht:tk tt t=some k)(hk:k.desc=.array m e)(hl:k.size=cs.length)(hc:∀ j u,cs[j]?=some u->w.cell? (p.add j)=some u): (loadVar t p).run P w=.ok (.agg cs.toArray) w:=by
 have i:=run_loadCells_list (P:=P) w p cs hc;rw [<-hl]at i;simp [loadVar,(Jsz hT ht hk w).1,Jql w (Jsz hT ht hk w).2.1,i]
theorem lda[h:Tab P tt]{x:Operand}{t m e:Nat}{k:TK}{p:Addr}{cs:List Value}(hc:∀ j u,cs[j]?=some u->w.cell? (p.add j)=some u)(hl:k.size=cs.length)(kk:WL P n ops Q rest ((d,.agg cs.toArray)::al) w)(ht:tk tt t=some k:=by rfl)(hk:k.desc=.array m e:=by rfl)(hx:ev al x=some (.pointer (some p)):=by rfl)(hd:Nat.blt d n=true:=by rfl): WL P n ops Q (⟨some d,.load t x,ty,pos,aft,none⟩::rest) al w :=
 wop hd (λa i=>by simp [execOp,i.ev hx,Instr.loadAt,Instr.sureAddr,Jtg (w:=w) h.ok ht hk hl hc]) kk
theorem sta[h:Tab P tt]{x y:Operand}{t m e b:Nat}{k:TK}{cs cs':List Value}(hb:Blk w b t cs)(kk:∀ w1,Blk w1 b t cs'->w.grownBy w1 (some b)->(∀ a,Ext a w->a.heap.size<=b->Ext a w1)->WL P n ops Q rest al w1)(h1:∀ u∈cs',u.oneCell'=true)(hl:cs.length=cs'.length)(hs:k.size=cs'.length)(ht:tk tt t=some k:=by rfl)(hk:k.desc=.array m e:=by rfl)(hx:ev al x=some (.pointer (some ⟨b,0,none⟩)):=by rfl)(hy:ev al y=some (.agg cs'.toArray):=by rfl):
  WL P n ops Q (⟨none,.store t x y,ty,pos,aft,none⟩::rest) al w:=by
 have C:=Jxs w b cs'.toArray;refine Qtk (λa o=>?_) (kk (w.setRow b cs'.toArray) (setRow_heap w b _ _ _ _ hb) C (λa hx o=>Jjk hx C (λk hk=>by injection hk with hk;omega)));have j:=Jql w (Jsz h.ok ht hk w).2.1;have i:=run_storeCells_from (P:=P) b t cs' 0 cs.toArray w hb (by simpa using hl.symm) h1;simp only [List.take_zero,List.nil_append]at i;simp [execOp,o.ev hx,o.ev hy,Instr.storeAt,Instr.sureAddr,storeVar,Value.cells,j,hs,i]
theorem Xww[h:Tab P tt]{fn:Func}{Φ:Value->World->Prop}{c t b m e:Nat}{k:TK}{cs:List Value}(hb:Blk w b t cs)(hs:k.size=cs.length)(hp:Φ (.agg cs.toArray) w)(hr:fn.results = #[.cell c t]:=by rfl)(ht:tk tt t=some k:=by rfl)(hk:k.desc=.array m e:=by rfl)(hc:lk al c=some (.pointer (some ⟨b,0,none⟩)):=by rfl):
  QX n (Qzx P fn Φ) .ret al w :=
 Qcb (rs:=[.cell c t]) (vs:=[.agg cs.toArray]) hr ⟨⟨_,hc,Jtg h.ok ht hk hs (λj u i=>hb.at i)⟩,trivial⟩ rfl hp
theorem idx[h:Tab P tt]{x i:Operand}{t m e:Nat}{k k2:TK}{cs:List Value}{kd:IntKind}{z:Int}{v:Value}(j:Nat)(hlt:j<m)(hv:cs[j]?=some v)(kk:WL P n ops Q rest ((d,v)::al) w)(ht:tk tt t=some k:=by rfl)(hk:k.desc=.array m e:=by rfl)(h1:k.esz=1:=by rfl)(he:tk tt e=some k2:=by rfl)(hp:Jwb k2.desc=true:=by rfl)(hx:ev al x=some (.agg cs.toArray):=by rfl)(hi:ev al i=some (.int kd z):=by rfl)(hj:z=(j:Int):=by first|rfl|omega)(hd:Nat.blt d n=true:=by rfl):
  WL P n ops Q (⟨some d,.index t x i,ty,pos,aft,none⟩::rest) al w :=
 wop hd (λa u=>by
  subst hj;have o:=Jsz h.ok ht hk w;have C:=Jql w (h1 ▸ o.2.2.2);have D:=(Jgp h.ok he hp w).1;simp [execOp,u.ev hx,u.ev hi,Instr.index,asIntOf,run_underlying o.2.2.1,hlt,C,part,D,hv]) kk
theorem ixs[h:Tab P tt]{x i:Operand}{t m e:Nat}{k:TK}{p:Addr}{kd:IntKind}{z:Int}(j:Nat)(hlt:j<m)(kk:WL P n ops Q rest ((d,.pointer (some (p.add (j*k.esz))))::al) w)(ht:tk tt t=some k:=by rfl)(hk:k.desc=.array m e:=by rfl)(hx:ev al x=some (.pointer (some p)):=by rfl)(hi:ev al i=some (.int kd z):=by rfl)(hj:z=(j:Int):=by first|rfl|omega)(hd:Nat.blt d n=true:=by rfl): WL P n ops Q (⟨some d,.indexAddr t x i,ty,pos,aft,none⟩::rest) al w :=
 wop hd (λa o=>Qxd h.ok j ht hk hlt o hx hi hj (some d) w) kk
theorem dixs[h:Tab P tt]{x i:Operand}{t m e:Nat}{k:TK}{p:Addr}{kd:IntKind}{z:Int}(j:Nat)(hlt:j<m)(kk:WD P n ops Q drest ((d,.pointer (some (p.add (j*k.esz))))::al) w)(ht:tk tt t=some k:=by rfl)(hk:k.desc=.array m e:=by rfl)(hx:ev al x=some (.pointer (some p)):=by rfl)(hi:ev al i=some (.int kd z):=by rfl)(hj:z=(j:Int):=by first|rfl|omega)(hd:Nat.blt d n=true:=by rfl): WD P n ops Q ((0,⟨some d,.indexAddr t x i,ty,pos,aft,none⟩)::drest) al w :=
 dy (λw' _ a o=>Qxd h.ok j ht hk hlt o hx hi hj (some d) w') hd kk
theorem adr1(b v:Nat): (⟨b,0,none⟩:Addr).add (v*1)=⟨b,v,none⟩:=by rw [Jzb,Nat.mul_one,Nat.zero_add]
theorem ixb[h:Tab P tt]{x i:Operand}{t m e b:Nat}{k:TK}{kd:IntKind}{z:Int}(j:Nat)(hlt:j<m)(kk:WL P n ops Q rest ((d,.pointer (some ⟨b,j,none⟩))::al) w)(ht:tk tt t=some k:=by rfl)(hk:k.desc=.array m e:=by rfl)(h1:k.esz=1:=by rfl)(hx:ev al x=some (.pointer (some ⟨b,0,none⟩)):=by rfl)(hi:ev al i=some (.int kd z):=by rfl)(hj:z=(j:Int):=by first|rfl|omega)(hd:Nat.blt d n=true:=by rfl): WL P n ops Q (⟨some d,.indexAddr t x i,ty,pos,aft,none⟩::rest) al w:=by
 rw [<-adr1 b j,<-h1]at kk;exact ixs j hlt kk ht hk hx hi hj hd
theorem dixb[h:Tab P tt]{x i:Operand}{t m e b:Nat}{k:TK}{kd:IntKind}{z:Int}(j:Nat)(hlt:j<m)(kk:WD P n ops Q drest ((d,.pointer (some ⟨b,j,none⟩))::al) w)(ht:tk tt t=some k:=by rfl)(hk:k.desc=.array m e:=by rfl)(h1:k.esz=1:=by rfl)(hx:ev al x=some (.pointer (some ⟨b,0,none⟩)):=by rfl)(hi:ev al i=some (.int kd z):=by rfl)(hj:z=(j:Int):=by first|rfl|omega)(hd:Nat.blt d n=true:=by rfl): WD P n ops Q ((0,⟨some d,.indexAddr t x i,ty,pos,aft,none⟩)::drest) al w:=by
 rw [<-adr1 b j,<-h1]at kk;exact dixs j hlt kk ht hk hx hi hj hd
theorem nixb[h:Tab P tt]{x i:Operand}{t m e b:Nat}{k:TK}{kd:IntKind}{z:Int}(j:Nat)(hlt:j<m)(kk:WN N P n ops Q drest ((d,.pointer (some ⟨b,j,none⟩))::al) w)(ht:tk tt t=some k:=by rfl)(hk:k.desc=.array m e:=by rfl)(h1:k.esz=1:=by rfl)(hx:ev al x=some (.pointer (some ⟨b,0,none⟩)):=by rfl)(hi:ev al i=some (.int kd z):=by rfl)(hj:z=(j:Int):=by first|rfl|omega)(hd:Nat.blt d n=true:=by rfl): WN N P n ops Q ((0,⟨some d,.indexAddr t x i,ty,pos,aft,none⟩)::drest) al w:=by
 rw [<-adr1 b j,<-h1]at kk;exact nixa j hlt kk ht hk hx hi hj hd
theorem Blk.atc{w:World}{g:Nat}{t:TypeId}{cs:List Value}(h:Blk w g t cs){i:Nat}{v:Value}(hv:cs[i]?=some v): w.cell? ⟨g,i,none⟩=some v:=by rw [h.cell];exact hv
theorem sla[h:Tab P tt]{x:Operand}{t m e:Nat}{k:TK}{p:Addr}(kk:WL P n ops Q rest ((d,.slice (some p) m m)::al) w)(ht:tk tt t=some k:=by rfl)(hk:k.desc=.array m e:=by rfl)(hx:ev al x=some (.pointer (some p)):=by rfl)(hd:Nat.blt d n=true:=by rfl): WL P n ops Q (⟨some d,.slice t x none none none,ty,pos,aft,none⟩::rest) al w :=
 wop hd (λa o=>by
  have i:=Jsz h.ok ht hk w;have j:=Jql w i.2.2.2;simp [execOp,o.ev hx,Instr.sliceAt,run_underlying i.2.2.1,Instr.sureAddr,Instr.sliceBounds,j];exact λ_=>add_zero p) kk
theorem cpb{x y:Operand}{dT sT e t b dl dc sn sc:Nat}{k:TK}{A:Option Addr}{cs xs:List Value}[h:Tab P tt](hb:Blk w b t cs)(hr:Rd w 1 A sn xs)(hsn:sn<=dl)(hdl:dl<=cs.length)(h1:∀ u∈xs,u.oneCell'=true)(kk:∀ w1,Blk w1 b t (xs++cs.drop sn)->w.grownBy w1 (some b)->WL P n ops Q rest ((d,.int .i64 (sn:Int))::al) w1)(ht:tk tt dT=some k:=by rfl)(hk:k.desc=.slice e:=by rfl)(hz:k.esz=1:=by rfl)(hx:ev al x=some (.slice (some ⟨b,0,none⟩) dl dc):=by rfl)(hy:ev al y=some (.slice A sn sc):=by rfl)(hd:Nat.blt d n=true:=by rfl):
  WL P n ops Q (⟨some d,.call { callee:=.builtin .copy,args:=#[x,y],argTypes:=#[dT,sT] },ty,pos,aft,none⟩::rest) al w:=by
 have C:xs.length=sn:=by rw [hr.len,Nat.mul_one]
 have J:=Jwk h.ok ht hk hz;have D:(P.info? e).map (·.size)=some 1:=J.2
 have O:=Jxs w b (xs++cs.drop sn).toArray;have hB:Blk (w.setRow b (xs++cs.drop sn).toArray) b t (xs++cs.drop sn):=setRow_heap w b _ _ _ _ hb;refine wop (w':=w.setRow b (xs++cs.drop sn).toArray) hd (λa G=>?_) (kk _ hB O);by_cases h0:sn=0
 ·subst h0;have:xs=[]:=List.eq_nil_of_length_eq_zero C;subst this;have e0:w.setRow b ([]++cs.drop 0).toArray=w:=by
   have:=setRow_self w b cs.toArray t (0,0) hb;simpa using this
  rw [e0];cases hq:P.info? e with
  | none=>rw [hq]at D;cases D
  | some i=>
   cases A with
   | none=>simp [execOp,resolve,invoke,builtin,G.ev hx,G.ev hy,Builtin.copy_,run_underlying J.1,Builtin.lenOf,Builtin.firstCells,sizeOf,typeInfo,hq,storeCells,goInt]
   | some U=>simp [execOp,resolve,invoke,builtin,G.ev hx,G.ev hy,Builtin.copy_,run_underlying J.1,Builtin.lenOf,Builtin.firstCells,sizeOf,typeInfo,hq,storeCells,goInt,loadCells,loadCellsFrom]
 ·obtain ⟨U,hA,_⟩:=hr.isome (by omega) (by omega);subst hA;have o:=run_copy_row P w dT sT ty e b 0 dl dc U sn sc cs.toArray t xs J.1 D hb (by rw [C];exact (Nat.min_eq_left hsn).symm) (λj v Z=>hr.cell Z) (by simp;omega) h1;rw [C]at o;have e1:(cs.toArray.toList.take 0++xs++cs.toArray.toList.drop (0+sn)).toArray=(xs++cs.drop sn).toArray:=by simp
  rw [e1]at o;simp [execOp,resolve,invoke,builtin,G.ev hx,G.ev hy,o,goInt]
end
end Go.Wk
