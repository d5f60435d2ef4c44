/- Part 26. -/
import Derived.Test.YtebcagekopgdhaaGreatDoorB25
import Derived.Laws.CopyRow
set_option linter.unusedVariables false
set_option maxRecDepth 100000
set_option maxHeartbeats 40000000
namespace Go.Wk
open Go.RowKit
theorem Ij{P:Program}{n:Nat}{al:AL}{w:World}{Q:Exit->Act->World->Prop}{ops:Array Oper}{rest:List Oper}{ty:Nat}{pos:String}{aft:Array Edge}{tt:TT}[h:Tab P tt]{x y:Operand}{t b:Nat}{k:TK}{u v:Value}(hb:Blk w b t [u])(kk:∀ w1,Blk w1 b t [v]->w.grownBy w1 (some b)->(∀ a,Ext a w->a.heap.size<=b->Ext a w1)->WL P n ops Q rest al w1)(hv:v.oneCell'=true)(ht:tk tt t=some k:=by rfl)(hk:k.size=1:=by rfl)(hp:Vy k.desc=true:=by rfl)(hx:ev al x=some (.pointer (some ⟨b,0,none⟩)):=by rfl)(hy:ev al y=some v:=by rfl):
  WL P n ops Q (⟨none,.store t x y,ty,pos,aft,none⟩::rest) al w :=
 Jgq h.ok ht hk hp hx hy hv (hb.cell 0) (hb.frozen 0) (kk _ (hb.set 0 v) ⟨rfl,rfl,rfl,by simp [World.setCell],λk hk hn=>Below.heap_setCell w ⟨b,0,none⟩ v k (λe=>hn (by rw [e]))⟩ λa C o=>C.setCell o v)
end Go.Wk
namespace Go.Proofs.YtebcagekopgdhaaGreatDoor
open Go.RowKit Pl Go.Wk
attribute [local irreducible] WC WL QX WD WDB WP WN WG
structure MOk(n:Nat)(ts:List TA)(vars:Nat->List Nat)(rs:Nat->List Row)(s:Nat): Prop where
 run:RunOk n ts vars rs
 sb:s<2^n
 valid:∀ i,i<ts.length->∀ r∈rs i,r.all Qr=true
 srtP:∀ i,i<ts.length->(rs i).length<=1000∨Srt [] ((rs i).map (pmR (Qg (vars i) s)))
theorem Qpt{vs:List Nat}(h:Qo vs): ascB (nz vs):=λj u o=>by
 rw [Qq]at o;rw [Jwv o,Jwv (show j-1<vs.length by omega)];have:=List.pairwise_iff_getElem.1 h (j-1) j om o om;simp only [List.getD,List.getElem?_eq_getElem o,List.getElem?_eq_getElem (show j-1<vs.length by omega),Option.getD_some];omega
theorem Jbv{n:Nat}{ts:List TA}{vars:Nat->List Nat}{rs:Nat->List Row}(h:RunOk n ts vars rs): Jkd n (ts.map (·.2)):=by
 have U:=h.n32;refine ⟨om,om,by rw [List.length_map];exact h.m32,λa O=>?_,λv o=>?_⟩
 .obtain ⟨t,ht,rfl⟩:=List.mem_map.1 O;obtain ⟨i,hi,e⟩:=List.getElem_of_mem ht;have C:=h.at_ i hi;rw [Jp ta0 ts hi,e]at C;rw [C];refine ⟨Qpt (h.asc i hi),λv o=>?_,by simp only;rw [Qq]⟩;obtain ⟨u,G,rfl⟩:=List.mem_map.1 o;have:=h.lt i hi u G;omega
 .obtain ⟨i,hi,J⟩:=h.cov v om;refine ⟨(ts.getD i ta0).2,List.mem_map_of_mem (getD_mem' ta0 ts hi),?_⟩;rw [h.at_ i hi];exact List.mem_map.2 ⟨v,J,rfl⟩
def AtG(w:World)(cs:List Value)(a:Atm): Prop:=∃ t:V3,cs=t.cells/\AtV w t a
theorem Qxd: ∀ (ps:List (List Value×Atm)) (w:World),(∀ p∈ps,AtG w p.1 p.2)->∃ ts:List TA,ts.map (·.2)=ps.map (·.2)/\atC ts=Qj ps/\ts.length=ps.length/\∀ q∈ts,AtV w q.1 q.2
 | [],w,_=>⟨[],rfl,rfl,rfl,λq hq=>by cases hq⟩
 | p::ps,w,h=>by
  obtain ⟨qs,h1,h2,h3,h4⟩:=Qxd ps w λq hq=>h q (List.mem_cons_of_mem _ hq);obtain ⟨t,e,hr⟩:=h p (mC ..);refine ⟨(t,p.2)::qs,by simp [h1],?_,by simp [h3],λq hq=>?_⟩
  .simp only [Qj,atC,List.flatMap_cons,e]at h2 ⊢;rw [h2]
  .rcases List.mem_cons.1 hq with rfl|hq
   .exact hr
   .exact h4 q hq
theorem Jfx{w:World}{v:Value}{ats:List Atm}(h:GV 3 AtG w v ats): ∃ (ts:List TA) (A:Option Addr) (c:Nat),ats=ts.map (·.2)/\v=.slice A ts.length c/\ts.length<=c/\ts.length<=1100000/\Rd w 3 A ts.length (atC ts)/\∀ p∈ts,AtV w p.1 p.2:=by
 obtain ⟨ps,A,c,e,G,C,u,o,J⟩:=h;obtain ⟨ts,h1,h2,Z,U⟩:=Qxd ps w λp O=>(J p O).2;rw [<-Z]at G C u o;exact ⟨ts,A,c,by rw [e,h1],G,C,u,by rw [h2];exact o,U⟩
theorem EA: ElT Tryz.prog 90 99 3 56 (.agg #[.slice none 0 0,.int .i64 0,.slice none 0 0]):=⟨Tryz.underlying90,info_parts kr,rfl,by decide⟩
theorem zInts: Qt Tryz.prog 44=some (.slice none 0 0):=kr
theorem zRows: Qt Tryz.prog 54=some (.slice none 0 0):=kr
theorem Jfq(v1 v2 v3:Value)(A B:Option Addr)(n c m d:Nat)(z:Int)(h1:v1=.slice A n c)(h2:v2=.int .i64 z)(h3:v3=.slice B m d)(w:World): (Instr.buildSlice 90 1 #[(0,.agg #[v1,v2,v3])]).run Tryz.prog w=.ok (.slice (some ⟨w.heap.size,0,none⟩) 1 1) (w.alloc (.cells [v1,v2,v3].toArray 99)):=by
 subst h1;subst h2;subst h3;kernel_rfl
theorem Qqk(A B:Option Addr)(n c m d:Nat)(z:Int)(w:World): (Instr.build 99 #[(0,.slice A n c),(1,.agg #[.int .i64 z,.slice B m d])]).run Tryz.prog w=.ok (.agg #[.slice A n c,.int .i64 z,.slice B m d]) w:=kr
theorem Kk{v:Value}{z:Int}{A:Option Addr}{n c:Nat}(h:v.oneCell'=true): ∀ u∈[v,.int .i64 z,.slice A n c],u.oneCell'=true:=λu o=>by
 simp only [List.mem_cons,List.not_mem_nil,or_false]at o;rcases o with rfl|rfl|rfl
 .exact h
 .rfl
 .rfl
theorem Qbx{n:Nat}{ts ts':List TA}{vars:Nat->List Nat}{rs ms:Nat->List Row}{s:Nat}(hok:MOk n ts vars rs s)(hl:ts'.length=ts.length)(he:(List.range ts.length).map (λj=>(⟨nz (rnm (vars j) s),(rnm (vars j) s).length,ms j⟩:Atm))=ts'.map (·.2))(hms:∀ j,j<ts.length->IsSet [] ((rs j).map (pmR (Qg (vars j) s))) (ms j)/\(ms j).length<=65536): RunOk (bk s 32).length ts' (λj=>rnm (vars j) s) ms:=by
 have G:=hok.run.n32;have o:∀ i,i<ts.length->∀ v∈vars i,v<32:=λi hi v U=>by have:=hok.run.lt i hi v U;omega
 refine ⟨Vu s 32,by rw [hl];exact hok.run.m32,λi hi=>?_,λi hi=>Qyj (hok.run.asc i (hl ▸ hi)) (o i (hl ▸ hi)),λi hi u Z=>Qyh (o i (hl ▸ hi)) Z,λk J=>?_,λi hi=>(hms i (hl ▸ hi)).1.1,λi hi r hr=>?_,λi hi=>(hms i (hl ▸ hi)).2⟩
 .have C:(ts'.map (·.2))[i]?=some (ts'.getD i ta0).2:=by rw [List.getElem?_map,List.getElem?_eq_getElem hi,Option.map_some,Jp ta0 ts' hi]
  rw [<-he,List.getElem?_map,List.getElem?_range (hl ▸ hi),Option.map_some]at C;injection C with C;exact C.symm
 .obtain ⟨C,O⟩:=bk_mem.1 (getD_mem' 0 _ J);obtain ⟨i,hi,hm⟩:=hok.run.cov _ (Jxj hok.sb O);exact ⟨i,hl.symm ▸ hi,List.mem_map.2 ⟨_,inS_mem.2 ⟨hm,O⟩,Jcv (Ia s 32) J⟩⟩
 .obtain ⟨x,hx,rfl⟩:=List.mem_map.1 (((hms i (hl ▸ hi)).1.2 r).1 hr);have:=Jzz (vars i) s (vars i).length (Nat.le_refl _);rw [List.take_length]at this;rw [Qh,Jnf];exact this
theorem Qft{n:Nat}{ts:List TA}{vars:Nat->List Nat}{rs ms:Nat->List Row}{s:Nat}(hok:MOk n ts vars rs s)(hms:∀ j,j<ts.length->IsSet [] ((rs j).map (pmR (Qg (vars j) s))) (ms j)/\(ms j).length<=65536){x:Row}(hx:Zr (bk s 32).length ts.length (λi=>rnm (vars i) s) ms x): x.all Qr=true:=by
 rw [List.all_eq_true];intro y U;obtain ⟨k,C,rfl⟩:=List.getElem_of_mem U;have o:k<(bk s 32).length:=by rw [<-hx.1];exact C
 obtain ⟨h1,O⟩:=bk_mem.1 (getD_mem' 0 _ o);obtain ⟨i,hi,Z⟩:=hok.run.cov _ (Jxj hok.sb O);have h3:=hx.2 i hi;obtain ⟨r,u,e⟩:=List.mem_map.1 (((hms i hi).1.2 _).1 h3);have J:x.getD k V0∈pmR (rnm (vars i) s) x:=List.mem_map.2 ⟨k,List.mem_map.2 ⟨_,inS_mem.2 ⟨Z,O⟩,Jcv (Ia s 32) o⟩,rfl⟩;rw [<-e]at J;obtain ⟨c,hc,e2⟩:=List.mem_map.1 J;have G:=List.all_eq_true.1 (hok.valid i hi r u) (r.getD c V0) (getD_mem' V0 r (by rw [hok.run.len i hi r u];exact Jxb hc));rw [e2,Jp V0 x C]at G;exact G
theorem Qcx(s:Nat): (madeCells (Value.int .i64 0).cells (32*1)).toList=Js (nz (Xo s 0)):=by
 have e:(madeCells (Value.int .i64 0).cells (32*1)).toList=List.replicate 32 (Value.int .i64 0):=Uj _ _;have o:Xo s 0=List.replicate 32 0:=by simp [Xo,List.map_const']
 rw [e,o];rfl
theorem Qct(cs:List Nat)(i x:Nat): Js (nz (cs.set i x))=(Js (nz cs)).set i (.int .i64 (x:Int)):=by simp [Js,nz,List.map_set]
theorem Jsp{w:World}{base:Nat}{v:Value}{cs:List Nat}(h:Xt w base v cs): ∃ A c,v=.slice A cs.length c/\cs.length<=c/\∀ g,v.ownBlock=some g->base<=g/\g<w.heap.size:=Jv h
theorem Qdt{w:World}{n:Nat}{ts:List TA}{Aa:Option Addr}{ca:Nat}{vars:Nat->List Nat}{rs:Nat->List Row}{s:Nat}(hok:MOk n ts vars rs s)(hR:Rd w 3 Aa ts.length (atC ts))(hle:ts.length<=ca)(hat:∀ p∈ts,AtV w p.1 p.2)(hcap:∀ l:List Row,Lt [] l->(∀ x∈l,∃ z:Row,z.length=n/\x=pmR (bk s 32) z/\Ge ts.length vars rs s z)->l.length<=65536):
  Ret Tryz.prog 128 [.int .i64 (n:Int),.int .u32 (s:Int),.slice Aa ts.length ca] w λu w'=>Ext w w'/\∃ (t':V3) (st:Int) (l:List Row),u=.tuple #[.agg t'.cells.toArray,.int .i64 st,.int .i64 0] /\
   Off (λk=>k<w.heap.size) w' (λx=>AtV x t' ⟨nz (bk s 32),(bk s 32).length,l⟩)/\Lt [] l/\(∀ x,x∈l↔∃ z:Row,z.length=n/\x=pmR (bk s 32) z/\Ge ts.length vars rs s z)/\l.length<=65536:=by
 have b5:=hok.run.n32;have eo:=hok.run.m32;have b4:s<4294967296:=nM hok.sb (Nat.pow_le_pow_right (n:=2) (by decide) b5);have a4:∀ i,i<ts.length->∀ v∈vars i,v<32:=λi hi v hv=>by have:=hok.run.lt i hi v hv;omega
 refine Jz Tryz.func128 Tryz.ntmps128 rfl kr rfl ?_;refine ρ ?_;refine alc Vl ?_;intro w1 b6 c1 ef af;refine ρ ?_;refine cl (Jdd (n:=(n:Int)) (ats:=ts.map (·.2)) ⟨ts,Aa,ca,rfl,rfl,hle,om,hR.ext c1,λp hp=>(hat p hp).ext c1⟩) ?_
 rintro u w2 ⟨cr,e,rfl,he⟩;have e0:=he.2 (Jbv hok.run);subst e0;clear he;refine ρ ?_;refine Kz (s:=s) (v:=n) b5 ?_;rw [Nat.div_eq_of_lt hok.sb];refine ρ ?_;refine mkn EI 32 om (by unfold maxLen;omega) ?_;intro w3 Na cq c7 _;rw [Qcx s]at c7;refine ρ ?_;refine alc zInts ?_;intro w4 bq e4 dh O;refine ρ ?_;refine Ij O ?_ rfl;intro w5 O f4 e3;have au:Ext w3 w5:=e3 w3 e4 dh;have br:=c1.trans cr;have co:Ext w w5:=(br.trans cq).trans au;have d5:w5.ownsRow w.heap.size 3 1 (.slice Na 32 32) 32 (Js (nz (Xo s 0))):=Jwp (Jk c7 au) br.size;have bz:Blk w5 b6 99 [.slice none 0 0,.int .i64 0,.slice none 0 0]:=(af.ext cr).ext (cq.trans au);refine ρ ?_;refine Jt (fun (v:Nat) (vv:Value)=>[(0,.int .i64 (n:Int)),(1,.int .u32 (s:Int)),(2,.slice Aa ts.length ca),(6,.pointer (some ⟨b6,0,none⟩)),(10,vv),(11,.pointer (some ⟨bq,0,none⟩)),(37,.int .i64 (v:Int))])
  (λv vv w'=>v<=32/\Ext w w'/\Blk w' b6 99 [.slice none 0 0,.int .i64 0,.slice none 0 0]/\Blk w' bq 44 [.slice Na 32 32]/\w'.ownsRow w.heap.size 3 1 (.slice Na 32 32) 32 (Js (nz (Xo s v)))/\Xt w' w.heap.size vv (bk s v)/\∀ g,vv.ownBlock=some g->(Value.slice Na 32 32).ownBlock≠some g) (λv _=>32-v) 0 (.slice none 0 0) sB
  ⟨om,co,bz,O,d5,Xs _ _ _ _,λg e=>(by cases e)⟩ ?_
 clear c7 d5 bz O;rintro v vv w6 ⟨hv,bj,af,O,ae,b2,a8⟩;refine ρ ?_;refine ci (λh=>?_) (λh=>?_)
 .have lv:v<32:=by have:=oT h;omega
  clear h;have dc:=Vu s v;have ep:∀ {w':World},(Xo s v).length=32:=fun {_}=>Jqd s v
  obtain ⟨VA,vc,cj,cy,c2⟩:=Jsp b2;refine ρ ?_;refine Kz (s:=s) (v:=v) om ?_;refine ρ ?_;refine ci (λh=>?_) (λh=>?_)
  .rw [Ub b4]at h;subst cj;refine ρ ?_;refine ld (O.at (i:=0) rfl) ?_;refine ρ ?_;refine ix v (Rd.own ae) lv ?_;obtain ⟨s1,s2,s3,s4,s5⟩:=Zd ae (q:=v) om (.int .i64 ((bk s v).length:Int));refine ρ ?_;refine sto (s1.trans (Xh (by rw [Jqd];exact lv))) s2 ?_;rw [<-Qct]at s3;have d3:∀ g,(Value.slice Na 32 32).ownBlock=some g->w.heap.size<=g:=λg eg=>by
    obtain ⟨_,_,_,_,hf⟩:=Jv ae;exact (hf g eg).1
   have a2:Ext w (w6.setCell (adr Na v) (.int .i64 ((bk s v).length:Int))):=Qv bj s5 d3;have a3:=af.grown s5 (af.ne_own ae rfl);have a1:=O.grown s5 (O.ne_own ae rfl);have ad:Xt (w6.setCell (adr Na v) (.int .i64 ((bk s v).length:Int))) w.heap.size (.slice VA (bk s v).length vc) (bk s v):=Jr b2 (GrN.by s5 λg eg=>eg) (λg eg e=>a8 g eg e);generalize w6.setCell (adr Na v) (.int .i64 ((bk s v).length:Int))=w7 at *
   clear s1 s2 s4 s5;refine ρ ?_;refine bsl (bs1Int'' _) ?_;intro w8 b8 o f7 ei;refine ρ ?_;refine apI (Jk ad o) ei om (a2.trans o).size ?_;intro dz w9 c3 a5 ec;have an:Ext w w9:=Qv (a2.trans o) a5 (λg eg=>(c2 g eg).1);refine ρ ?_;refine Jg (v+1) dz sO ⟨om,an,(a3.ext o).grown a5 ((a3.ext o).ne_own (Jk ad o) rfl),(a1.ext o).grown a5 ((a1.ext o).ne_own (Jk ad o) rfl),?_,?_,λg eg e=>?_⟩ om
   .rw [Jpp lv,if_pos h];exact Jr (Jk s3 o) (GrN.by a5 λg eg=>eg) (λg eg e=>a8 g e eg)
   .rw [Uy,if_pos h];exact c3
   .rcases ec g eg with h'|h'
    .exact a8 g h' e
    .obtain ⟨_,_,_,_,hf⟩:=Jv s3;have:=(hf g e).2;have:=o.size;omega
  .rw [Ub b4]at h;have hf:¬ s.testBit v=true:=by rw [h];simp
   refine ρ ?_;refine Jg (v+1) vv sO ⟨om,bj,af,O,?_,?_,a8⟩ om
   .rw [Jpp lv,if_neg hf];exact ae
   .rw [Uy,if_neg hf,List.append_nil];exact b2
 have e6:v=32:=by have:=oF h;omega
 subst e6;clear h a8;obtain ⟨VA,vc,cj,cy,c2⟩:=Jsp b2;subst cj;have dc:=Vu s 32;refine ρ ?_;refine Jjg (fun (i:Nat) (st:Int) (vp:Value) (ms:Nat->List Row)=>[(0,.int .i64 (n:Int)),(1,.int .u32 (s:Int)),(6,.pointer (some ⟨b6,0,none⟩)),(10,.slice VA (bk s 32).length vc),(13,.func (.func 163) #[] #[.pointer (some ⟨bq,0,none⟩)]),(14,.int .i64 st),(15,vp),(56,.slice Aa ts.length ca),(57,.int .i64 (ts.length:Int)),(58,.int .i64 (i:Int))])
  (λi st vp ms w'=>i<=ts.length/\Ext w w'/\w6.heap.size<=w'.heap.size/\Blk w' b6 99 [.slice none 0 0,.int .i64 0,.slice none 0 0]/\Blk w' bq 44 [.slice Na 32 32]/\w'.ownsRow w.heap.size 3 1 (.slice Na 32 32) 32 (Js (nz (Xo s 32)))/\Xt w' w.heap.size (.slice VA (bk s 32).length vc) (bk s 32) /\
   OwnG 99 3 AtG w' w6.heap.size vp ((List.range i).map λj=>⟨nz (rnm (vars j) s),(rnm (vars j) s).length,ms j⟩)/\∀ j,j<i->IsSet [] ((rs j).map (pmR (Qg (vars j) s))) (ms j)/\(ms j).length<=65536) (λi _ _ _=>ts.length-i) 0 0 (.slice none 0 0) (λ_=>[]) sB
  ⟨Nat.zero_le _,bj,Nat.le_refl _,af,O,ae,b2,OwnG.nil _ _,λj hj=>om⟩ ?_
 rintro i st vp ms w7 ⟨hi,a2,b3,a3,a1,d4,ad,c9,ai⟩;refine ρ ?_;refine ci (λh=>?_) (λh=>?_)
 .have li:i<ts.length:=by have:=oT h;omega
  have di:=hR.ext a2;obtain ⟨t1,t2,t3,a,hp⟩:∃ t1 t2 t3 a,ts.getD i ta0=((t1,t2,t3),a):=⟨_,_,_,_,rfl⟩;have dl:AtV w (t1,t2,t3) a:=by have:=hat _ (Ko rfl li);rw [hp]at this;exact this
  have ea:a=⟨nz (vars i),(vars i).length,rs i⟩:=by have:=hok.run.at_ i li;rw [hp]at this;exact this
  subst ea;clear h;have h3:∀ u∈[t1,t2,t3],u.oneCell'=true:=dl.one;refine ρ ?_;refine ixq 3 i di li ?_;refine ρ ?_;refine lds (cs:=[t1,t2,t3]) (λj u hu=>Jkg di rfl li (by rw [hp];exact hu)) ?_;refine ρ ?_;refine alc Vl ?_;intro w8 f9 o dg be;refine ρ ?_;refine stb (cs':=[t1,t2,t3]) be ?_ h3;intro w9 be a5 an;have ag:Ext w7 w9:=an w7 o dg;refine ρ ?_;refine ldW be ?_;refine ρ ?_;refine cl (Qph (t:=(t1,t2,t3)) (dl.ext (a2.trans ag)) b4 (hok.run.asc i li) (a4 i li) (hok.run.len i li) (hok.run.big i li)) ?_;rintro u ap ⟨a6,⟨p1,p2,p3⟩,rfl,m,a7,d7,d6,ah⟩;have Z:=ah (hok.srtP i li);have ch:=a7.here;obtain ⟨⟨PA,pc,dw,d2,e7,f0⟩,dv,bn⟩:=id ch;simp only at dw dv;obtain ⟨bi,PG,aq,_,du,_⟩:=id bn;simp only at du;have cp:=a2.trans ag;have e5:=cp.trans a6;refine ρ ?_;refine alc Vl ?_;intro dx f8 b1 df aj;refine ρ ?_;refine stb (cs':=[p1,p2,p3]) aj ?_ ch.one;intro ak aj da ay;have C:Ext ap ak:=ay ap b1 df
  refine ρ ?_;subst dw;subst dv;subst du;refine lds (cs:=[.int .i64 ((inS (vars i) s).length:Int),.slice PG bi.length aq]) (aj.sub2 (i:=1) rfl rfl) ?_;refine ρ ?_;have bf:=ch.ext C;refine cl (Jxx bf.rel) ?_;rintro u bh ⟨rfl,J⟩;obtain ⟨st',d1⟩:∃ st':Int,st'=IntKind.i64.wrap (st+(m.length:Int)):=⟨_,rfl⟩;have cg:=aj.ext J;repeat first|refine ω4 ?_|refine ω5 ?_|refine χ1 ?_|refine κ1 ?_|refine κ2 ?_|refine χ2 ?_|refine κ3 ?_|refine ω6 ?_|refine ω7 ?_|refine ω9 ?_|refine κ4 ?_|refine κ7 ?_|refine κ8 ?_|refine χ3 ?_|refine χ4 ?_|refine κ5 ?_|refine κ6 ?_|refine χ5 ?_|refine χ6 ?_|refine χ7 ?_|refine ω8 ?_
  rw [<-d1];refine ρ ?_;refine ldW cg ?_;refine ρ ?_;have U:Ext w7 bh:=((ag.trans a6).trans C).trans J;have ax:=a2.trans U;refine clv (Qdx (Na:=Na) (nums:=Xo s 32) (bf.ext J) ?_ ?_ (λv hv=>?_) ?_) ?_
  .rw [Jqd];exact a1.ext U
  .rw [Jqd];exact Rd.own (Jk d4 U)
  .rw [Jqd];exact a4 i li v (inS_mem.1 hv).1
  .have:=List.length_filter_le (λv=>s.testBit v) (vars i);have h5:=Jkj (hok.run.asc i li) (a4 i li);unfold inS;omega
  rintro u ao ⟨aw,v1,rfl,c4⟩;have cz:=c4.here;obtain ⟨QA,qc,dq,ez,ey,ex⟩:=cz;refine ρ ?_;refine bsl (Jfq v1 _ _ QA PG _ qc _ aq _ dq rfl rfl) ?_;intro c0 fa av et dk;have ek:(inS (vars i) s).map (λv=>(Xo s 32).getD v 0)=rnm (vars i) s:=by
   unfold rnm;refine List.map_congr_left λv hv=>?_;obtain ⟨h5,h6⟩:=inS_mem.1 hv;exact Qcw (a4 i li v h5) h6
  rw [ek]at c4;have G:=(U.trans aw).trans av;have ba:=c9.ext G;obtain ⟨_,_,_,_,c8⟩:=c9.form;have c6:∀ k,Qn w6.heap.size vp k->k<w7.heap.size:=λk hk=>by
   rcases hk with hk|hk
   .exact nM hk b3
   .exact (c8 k hk).2
  have hΦ:Off (Qn w6.heap.size vp) c0 (λu=>AtG u [v1,.int .i64 ((inS (vars i) s).length:Int),.slice PG bi.length aq] ⟨nz (rnm (vars i) s),(rnm (vars i) s).length,m⟩):=by
   have h5:Off (λk=>k<w7.heap.size) c0 (λu=>IntsV u v1 (nz (rnm (vars i) s))):=(c4.mono λk _ hk=>nM hk U.size).ext av;have h6:Off (λk=>k<w7.heap.size) c0 (λu=>AtV u (.slice PA (nz (inS (vars i) s)).length pc,.int .i64 ((inS (vars i) s).length:Int),.slice PG bi.length aq) ⟨nz (inS (vars i) s),(inS (vars i) s).length,m⟩) :=
    (a7.mono λk _ hk=>nM hk ag.size).ext (((C.trans J).trans aw).trans av)
   refine ((h5.and h6).imp λu h=>⟨(v1,.int .i64 ((inS (vars i) s).length:Int),.slice PG bi.length aq),rfl,h.1,?_,h.2.2.2⟩).mono λk _ hk=>c6 k hk;simp only;rw [Jnf]
  refine ρ ?_;refine apG EA (Φ:=AtG) ba dk rfl (Kk (by rw [dq];rfl)) hΦ (by simp;omega) om (nL b3 G.size) ?_;intro cm bg dj aa en;have cv:Ext w bg:=Qv (a2.trans G) aa (λg eg=>nL bj.size (c8 g eg).1);have bo:∀ {g t:Nat} {cs:List Value},Blk w7 g t cs->Nat.beq 99 t=false->Blk bg g t cs:=λhB e=>by
   obtain ⟨ps,_,ho,_⟩:=ba;exact (hB.ext G).grown aa ((hB.ext G).ne_own ho e)
  have cb:Blk bg b6 99 [.slice none 0 0,.int .i64 0,.slice none 0 0]:=by
   exact (a3.ext G).grown aa λe=>by have:=(c8 b6 e.symm).1;have:=af.lt;omega
  have bt:∀ {m':Nat} {v:Value} {xs:List Value},w7.ownsRow w.heap.size 3 1 v m' xs->bg.ownsRow w.heap.size 3 1 v m' xs:=λho=>by
   obtain ⟨ps,_,eb,_⟩:=ba;exact Xe (Jk ho G) eb aa rfl
  refine ρ ?_;refine Gy (i+1) st' cm (upd ms i m) sO ⟨om,cv,Nat.le_trans b3 (nL G.size aa.size),cb,bo a1 rfl,bt d4,bt ad,?_,λj hj=>?_⟩ om
  .rw [List.range_succ,List.map_append,List.map_singleton,Jf];have e:(List.range i).map (λj=>(⟨nz (rnm (vars j) s),(rnm (vars j) s).length,upd ms i m j⟩:Atm))=(List.range i).map (λj=>⟨nz (rnm (vars j) s),(rnm (vars j) s).length,ms j⟩):=by
    refine List.map_congr_left λj hj=>?_;have:=List.mem_range.1 hj;rw [Jy _ _ om]
   rw [e];exact dj
  .by_cases e:j=i
   .subst e;rw [Jf];exact ⟨Z,d7⟩
   .rw [Jy _ _ e];exact ai j om
 .have ee:i=ts.length:=by have:=oF h;omega
  subst ee;clear h;refine ρ ?_;refine alc zRows ?_;intro w8 ck o de ab;have eh:=c9.ext o;obtain ⟨e1,PA,pc,dt,ej,d2,e7,e8,e9⟩:=Jfx (eh.gv (by simp;omega));have c5:e1.length=ts.length:=by
   have:=congrArg List.length dt;simpa using this.symm
  have bv:=Qbx hok c5 dt ai;subst ej;have cn:=a2.trans o;have b9:=Qdv (m:=ts.length) (ms:=ms) hok.sb b5 hok.run.lt hok.run.len (λi hi x=>(ai i hi).1.2 x);refine ρ ?_;refine cl (Qhz (bx':=λk=>k=ck) (Y:=YM ck) bv e8 d2 e9 (Jbv bv) (λk hk=>by subst hk;exact ab.lt) (Qdw ab.lt) (λw' cw=>⟨nM ab.lt cw.size,.slice none 0 0,ab.ext cw,OwnG.nil _ _⟩) ?_) ?_
  .intro l h1 h2;refine hcap l h1 λx hx=>(b9 x).1 ?_;have:=h2 x hx;rw [c5]at this;exact this
  rintro u w9 ⟨a5,ew,base,l,rfl,f5,er,⟨f6,eu,ce,hO⟩,bp,a9⟩;rw [c5]at a9;have cx:w.heap.size<=ck:=nL a2.size de;have an:Ext w w9:=a5.old cn λk hk=>by subst hk;exact cx
  have bb:=Jd (a3.ext o) a5 (λe=>by have:=a3.lt;omega);have c3:Xt w9 w.heap.size (.slice VA (bk s 32).length vc) (bk s 32):=Jr (Jk ad o) a5 (λg eg e=>by subst e;exact ab.ne_own (Jk ad o) rfl eg.symm);have d8:l.length<=65536:=by
   refine hcap l bp λx hx=>(b9 x).1 ((a9 x).1 hx)
  obtain ⟨LA,lc,dm,f3,f2⟩:=hO.form;subst dm;have bl:=Qyb (hO.gv om);refine ρ ?_;refine ld (ce.at (i:=0) rfl) ?_;refine ρ ?_;refine cl (Jcc (ar:=(bk s 32).length) bl) ?_;rintro u ap ⟨a6,rv,e,rfl,⟨z,RB,rm,rd,rfl⟩,db,bu⟩;have ed:∀ r∈l,r.length=(bk s 32).length/\r.all Qr=true:=λr hr=>⟨((a9 r).1 hr).1,Qft hok ai ((a9 r).1 hr)⟩;have e0:=db dc ed d8;subst e0;obtain ⟨_,_,m,a7,d7,d6,ah⟩:=bu rfl;have Z:=ah (.inr (Ut bp));have el:m=l:=Jjq Z.1 bp Z.2;subst el;clear ah Z db bu d6;refine ρ ?_;refine alc Ug ?_;intro dx em b1 dd bd;refine ρ ?_;refine stb (cs':=[.int .i64 z,.slice RB rm rd]) bd ?_ Vs;intro ak bd da ay;have C:Ext ap ak:=ay ap b1 dd;refine ρ ?_;have ac:=a6.trans C;have cd:=bb.ext ac;have bm:=(a7.here).ext C;refine drN (λk=>k=b6) 12 [(0,0),(0,1),(0,2),(0,3),(0,4),(0,5),(0,6),(1,7),(0,8),(1,9),(0,10),(0,11)] kr ?_;have am:Ext ak ak.drew:=(Ext.refl ak).drew
  have bc:=bd.ext am;have bw:=cd.ext am;have bo:¬ (λk=>k=b6) em:=λe=>by
   have h1:=bb.lt;have h2:=a6.size;simp only at e;omega
  refine ρn ?_;refine Xd (cs:=[.int .i64 z,.slice RB rm rd]) (λw' hg j u hu=>(Jd bc hg bo).at hu) ?_;refine ρn ?_;refine Idq (Qqk _ _ _ _ _ _ _) ?_;refine ρn ?_;refine Xd (cs:=[.int .i64 z,.slice RB rm rd]) (λw' hg j u hu=>(Jd bc hg bo).at hu) ?_;refine ρn ?_;refine nop ?_;refine cl (Jxx (bm.ext am)) ?_;rintro u bh ⟨rfl,J⟩;refine ρ ?_;refine Je (GrN.ext J) ?_;refine ρn ?_;refine nop ?_;refine stb (cs':=[.slice VA (bk s 32).length vc,.int .i64 z,.slice RB rm rd]) (bw.ext J) ?_ (Kk rfl);intro ao cc b7 aw;refine ω5 ?_;refine Je (GrN.by b7 λk e=>by injection e with e;exact e.symm) ?_;refine ρn ?_;refine ρ ?_;have ax:Ext w bh:=((an.trans ac).trans am).trans J;refine Jtb cc ⟨Jvj ax b7 ef,(.slice VA (bk s 32).length vc,.int .i64 z,.slice RB rm rd),_,m,rfl,?_,bp,λx=>(a9 x).trans (b9 x),d8⟩;have d9:GrN (λk=>k=b6) bh ao:=GrN.by b7 λk e=>by injection e with e;exact e.symm
  have bs:=Jk c3 ((ac.trans am).trans J);have d0:Xt ao w.heap.size (.slice VA (bk s 32).length vc) (bk s 32):=Jr bs d9 λg eg e=>by subst e;exact (bw.ext J).ne_own bs rfl eg.symm
  have h5:Off (λk=>k<w.heap.size) ao (λu=>IntsV u (.slice VA (bk s 32).length vc) (nz (bk s 32))):=by
   refine (Jjx d0 λg eg hk=>by have:=(c2 g eg).1;omega).imp λu h=>⟨VA,vc,by rw [Qq],by rw [Qq];exact cy,by rw [Qq];omega,by rw [Qq];exact Rd.own h⟩
  have h6:Off (λk=>k<w.heap.size) ao (λu=>RelV u (.agg #[.int .i64 z,.slice RB rm rd]) (bk s 32).length m):=by
   have h7:=a7.ext ((C.trans am).trans J);have h8:=h7.gr (d9.mono λk _ hk=>by subst hk;exact bb.lt);exact h8.mono λk _ hk=>nM hk an.size
  refine (h5.and h6).imp λu h=>?_;obtain ⟨h7,rv,dn,h8⟩:=h;have e2:(Value.int .i64 z)=.int .i64 ((bk s 32).length:Int)/\Value.slice RB rm rd=rv:=by
   simp only [Value.agg.injEq,Array.mk.injEq,List.cons.injEq,and_true]at dn;exact dn
  exact ⟨h7,e2.1,by simp only;rw [e2.2];exact h8⟩
end Go.Proofs.YtebcagekopgdhaaGreatDoor
namespace Go.Wk
open Go.RowKit
section
variable {N:Nat->Prop} {P:Program} {n:Nat} {al:AL} {w:World} {Q:Exit->Act->World->Prop} {ops:Array Oper} {rest:List Oper} {drest:List (Nat×Oper)}
variable {d ty:Nat} {pos:String} {aft:Array Edge} {tt:TT}
theorem Jxr(hT:TOk P tt){t m e:Nat}{k:TK}(ht:tk tt t=some k)(hk:k.desc=.array m e)(w:World): (isAgg t).run P w=.ok true w/\Zc P t=some k.size/\P.underlying t=some (.array m e)/\Zc P e=some k.esz:=by
 have:=hT.at ht;unfold Yb at this;rw [hk]at this;exact ⟨by simp [isAgg,run_underlying this.1],this.2.2,this.1,this.2.1⟩
theorem Jms(hT:TOk P tt){t m e:Nat}{k:TK}{p:Addr}{cs:List Value}(ht:tk tt t=some k)(hk:k.desc=.array m e)(hl:k.size=cs.length)(hc:∀ j u,cs[j]?=some u->w.cell? (p.add j)=some u): (loadVar t p).run P w=.ok (.agg cs.toArray) w:=by
 have o:=run_loadCells_list (P:=P) w p cs hc;rw [<-hl]at o;simp [loadVar,(Jxr hT ht hk w).1,Ze w (Jxr hT ht hk w).2.1,o]
theorem lda[h:Tab P tt]{x:Operand}{t m e:Nat}{k:TK}{p:Addr}{cs:List Value}(hc:∀ j u,cs[j]?=some u->w.cell? (p.add j)=some u)(hl:k.size=cs.length)(kk:WL P n ops Q rest ((d,.agg cs.toArray)::al) w)(ht:tk tt t=some k:=by rfl)(hk:k.desc=.array m e:=by rfl)(hx:ev al x=some (.pointer (some p)):=by rfl)(hd:Nat.blt d n=true:=by rfl): WL P n ops Q (⟨some d,.load t x,ty,pos,aft,none⟩::rest) al w :=
 wop hd (λa o=>by simp [execOp,o.ev hx,Instr.loadAt,Instr.sureAddr,Jms (w:=w) h.ok ht hk hl hc]) kk
theorem sta[h:Tab P tt]{x y:Operand}{t m e b:Nat}{k:TK}{cs cs':List Value}(hb:Blk w b t cs)(kk:∀ w1,Blk w1 b t cs'->w.grownBy w1 (some b)->(∀ a,Ext a w->a.heap.size<=b->Ext a w1)->WL P n ops Q rest al w1)(h1:∀ u∈cs',u.oneCell'=true)(hl:cs.length=cs'.length)(hs:k.size=cs'.length)(ht:tk tt t=some k:=by rfl)(hk:k.desc=.array m e:=by rfl)(hx:ev al x=some (.pointer (some ⟨b,0,none⟩)):=by rfl)(hy:ev al y=some (.agg cs'.toArray):=by rfl):
  WL P n ops Q (⟨none,.store t x y,ty,pos,aft,none⟩::rest) al w:=by
 have J:=Il w b cs'.toArray;refine Kp (λa G=>?_) (kk (w.setRow b cs'.toArray) (setRow_heap w b _ _ _ _ hb) J (λa hx G=>Qv hx J (λk hk=>by injection hk with hk;omega)));have C:=Ze w (Jxr h.ok ht hk w).2.1;have o:=run_storeCells_from (P:=P) b t cs' 0 cs.toArray w hb (by simpa using hl.symm) h1;simp only [List.take_zero,List.nil_append]at o;simp [execOp,G.ev hx,G.ev hy,Instr.storeAt,Instr.sureAddr,storeVar,Value.cells,C,hs,o]
theorem Jtc[h:Tab P tt]{fn:Func}{Φ:Value->World->Prop}{c t b m e:Nat}{k:TK}{cs:List Value}(hb:Blk w b t cs)(hs:k.size=cs.length)(hp:Φ (.agg cs.toArray) w)(hr:fn.results = #[.cell c t]:=by rfl)(ht:tk tt t=some k:=by rfl)(hk:k.desc=.array m e:=by rfl)(hc:lk al c=some (.pointer (some ⟨b,0,none⟩)):=by rfl):
  QX n (Vh P fn Φ) .ret al w :=
 Jqz (rs:=[.cell c t]) (vs:=[.agg cs.toArray]) hr ⟨⟨_,hc,Jms h.ok ht hk hs (λj u o=>hb.at o)⟩,trivial⟩ rfl hp
theorem idx[h:Tab P tt]{x i:Operand}{t m e:Nat}{k k2:TK}{cs:List Value}{kd:IntKind}{z:Int}{v:Value}(j:Nat)(hlt:j<m)(hv:cs[j]?=some v)(kk:WL P n ops Q rest ((d,v)::al) w)(ht:tk tt t=some k:=by rfl)(hk:k.desc=.array m e:=by rfl)(h1:k.esz=1:=by rfl)(he:tk tt e=some k2:=by rfl)(hp:Vy k2.desc=true:=by rfl)(hx:ev al x=some (.agg cs.toArray):=by rfl)(hi:ev al i=some (.int kd z):=by rfl)(hj:z=(j:Int):=by first|rfl|omega)(hd:Nat.blt d n=true:=by rfl):
  WL P n ops Q (⟨some d,.index t x i,ty,pos,aft,none⟩::rest) al w :=
 wop hd (λa u=>by
  subst hj;have o:=Jxr h.ok ht hk w;have C:=Ze w (h1 ▸ o.2.2.2);have G:=(Jkz h.ok he hp w).1;simp [execOp,u.ev hx,u.ev hi,Instr.index,asIntOf,run_underlying o.2.2.1,hlt,C,part,G,hv]) kk
theorem ixs[h:Tab P tt]{x i:Operand}{t m e:Nat}{k:TK}{p:Addr}{kd:IntKind}{z:Int}(j:Nat)(hlt:j<m)(kk:WL P n ops Q rest ((d,.pointer (some (p.add (j*k.esz))))::al) w)(ht:tk tt t=some k:=by rfl)(hk:k.desc=.array m e:=by rfl)(hx:ev al x=some (.pointer (some p)):=by rfl)(hi:ev al i=some (.int kd z):=by rfl)(hj:z=(j:Int):=by first|rfl|omega)(hd:Nat.blt d n=true:=by rfl): WL P n ops Q (⟨some d,.indexAddr t x i,ty,pos,aft,none⟩::rest) al w :=
 wop hd (λa o=>Jbt h.ok j ht hk hlt o hx hi hj (some d) w) kk
theorem dixs[h:Tab P tt]{x i:Operand}{t m e:Nat}{k:TK}{p:Addr}{kd:IntKind}{z:Int}(j:Nat)(hlt:j<m)(kk:WD P n ops Q drest ((d,.pointer (some (p.add (j*k.esz))))::al) w)(ht:tk tt t=some k:=by rfl)(hk:k.desc=.array m e:=by rfl)(hx:ev al x=some (.pointer (some p)):=by rfl)(hi:ev al i=some (.int kd z):=by rfl)(hj:z=(j:Int):=by first|rfl|omega)(hd:Nat.blt d n=true:=by rfl): WD P n ops Q ((0,⟨some d,.indexAddr t x i,ty,pos,aft,none⟩)::drest) al w :=
 dy (λw' _ a o=>Jbt h.ok j ht hk hlt o hx hi hj (some d) w') hd kk
theorem adr1(b v:Nat): (⟨b,0,none⟩:Addr).add (v*1)=⟨b,v,none⟩:=by rw [Vg,Nat.mul_one,Nat.zero_add]
theorem ixb[h:Tab P tt]{x i:Operand}{t m e b:Nat}{k:TK}{kd:IntKind}{z:Int}(j:Nat)(hlt:j<m)(kk:WL P n ops Q rest ((d,.pointer (some ⟨b,j,none⟩))::al) w)(ht:tk tt t=some k:=by rfl)(hk:k.desc=.array m e:=by rfl)(h1:k.esz=1:=by rfl)(hx:ev al x=some (.pointer (some ⟨b,0,none⟩)):=by rfl)(hi:ev al i=some (.int kd z):=by rfl)(hj:z=(j:Int):=by first|rfl|omega)(hd:Nat.blt d n=true:=by rfl): WL P n ops Q (⟨some d,.indexAddr t x i,ty,pos,aft,none⟩::rest) al w:=by
 rw [<-adr1 b j,<-h1]at kk;exact ixs j hlt kk ht hk hx hi hj hd
theorem dixb[h:Tab P tt]{x i:Operand}{t m e b:Nat}{k:TK}{kd:IntKind}{z:Int}(j:Nat)(hlt:j<m)(kk:WD P n ops Q drest ((d,.pointer (some ⟨b,j,none⟩))::al) w)(ht:tk tt t=some k:=by rfl)(hk:k.desc=.array m e:=by rfl)(h1:k.esz=1:=by rfl)(hx:ev al x=some (.pointer (some ⟨b,0,none⟩)):=by rfl)(hi:ev al i=some (.int kd z):=by rfl)(hj:z=(j:Int):=by first|rfl|omega)(hd:Nat.blt d n=true:=by rfl): WD P n ops Q ((0,⟨some d,.indexAddr t x i,ty,pos,aft,none⟩)::drest) al w:=by
 rw [<-adr1 b j,<-h1]at kk;exact dixs j hlt kk ht hk hx hi hj hd
theorem nixb[h:Tab P tt]{x i:Operand}{t m e b:Nat}{k:TK}{kd:IntKind}{z:Int}(j:Nat)(hlt:j<m)(kk:WN N P n ops Q drest ((d,.pointer (some ⟨b,j,none⟩))::al) w)(ht:tk tt t=some k:=by rfl)(hk:k.desc=.array m e:=by rfl)(h1:k.esz=1:=by rfl)(hx:ev al x=some (.pointer (some ⟨b,0,none⟩)):=by rfl)(hi:ev al i=some (.int kd z):=by rfl)(hj:z=(j:Int):=by first|rfl|omega)(hd:Nat.blt d n=true:=by rfl): WN N P n ops Q ((0,⟨some d,.indexAddr t x i,ty,pos,aft,none⟩)::drest) al w:=by
 rw [<-adr1 b j,<-h1]at kk;exact nixa j hlt kk ht hk hx hi hj hd
theorem Blk.atc{w:World}{g:Nat}{t:TypeId}{cs:List Value}(h:Blk w g t cs){i:Nat}{v:Value}(hv:cs[i]?=some v): w.cell? ⟨g,i,none⟩=some v:=by rw [h.cell];exact hv
theorem sla[h:Tab P tt]{x:Operand}{t m e:Nat}{k:TK}{p:Addr}(kk:WL P n ops Q rest ((d,.slice (some p) m m)::al) w)(ht:tk tt t=some k:=by rfl)(hk:k.desc=.array m e:=by rfl)(hx:ev al x=some (.pointer (some p)):=by rfl)(hd:Nat.blt d n=true:=by rfl): WL P n ops Q (⟨some d,.slice t x none none none,ty,pos,aft,none⟩::rest) al w :=
 wop hd (λa C=>by
  have o:=Jxr h.ok ht hk w;have u:=Ze w o.2.2.2;simp [execOp,C.ev hx,Instr.sliceAt,run_underlying o.2.2.1,Instr.sureAddr,Instr.sliceBounds,u];exact λ_=>add_zero p) kk
theorem cpb{x y:Operand}{dT sT e t b dl dc sn sc:Nat}{k:TK}{A:Option Addr}{cs xs:List Value}[h:Tab P tt](hb:Blk w b t cs)(hr:Rd w 1 A sn xs)(hsn:sn<=dl)(hdl:dl<=cs.length)(h1:∀ u∈xs,u.oneCell'=true)(kk:∀ w1,Blk w1 b t (xs++cs.drop sn)->w.grownBy w1 (some b)->WL P n ops Q rest ((d,.int .i64 (sn:Int))::al) w1)(ht:tk tt dT=some k:=by rfl)(hk:k.desc=.slice e:=by rfl)(hz:k.esz=1:=by rfl)(hx:ev al x=some (.slice (some ⟨b,0,none⟩) dl dc):=by rfl)(hy:ev al y=some (.slice A sn sc):=by rfl)(hd:Nat.blt d n=true:=by rfl):
  WL P n ops Q (⟨some d,.call { callee:=.builtin .copy,args:=#[x,y],argTypes:=#[dT,sT] },ty,pos,aft,none⟩::rest) al w:=by
 have C:xs.length=sn:=by rw [hr.len,Nat.mul_one]
 have O:=Kx h.ok ht hk hz;have G:(P.info? e).map (·.size)=some 1:=O.2
 have U:=Il w b (xs++cs.drop sn).toArray;have hB:Blk (w.setRow b (xs++cs.drop sn).toArray) b t (xs++cs.drop sn):=setRow_heap w b _ _ _ _ hb;refine wop (w':=w.setRow b (xs++cs.drop sn).toArray) hd (λa J=>?_) (kk _ hB U);by_cases h0:sn=0
 .subst h0;have:xs=[]:=List.eq_nil_of_length_eq_zero C;subst this;have e0:w.setRow b ([]++cs.drop 0).toArray=w:=by
   have:=setRow_self w b cs.toArray t (0,0) hb;simpa using this
  rw [e0];cases hq:P.info? e with
  | none=>rw [hq]at G;cases G
  | some i=>
   cases A with
   | none=>simp [execOp,resolve,invoke,builtin,J.ev hx,J.ev hy,Builtin.copy_,run_underlying O.1,Builtin.lenOf,Builtin.firstCells,sizeOf,typeInfo,hq,storeCells,goInt]
   | some Z=>simp [execOp,resolve,invoke,builtin,J.ev hx,J.ev hy,Builtin.copy_,run_underlying O.1,Builtin.lenOf,Builtin.firstCells,sizeOf,typeInfo,hq,storeCells,goInt,loadCells,loadCellsFrom]
 .obtain ⟨Z,hA,_⟩:=hr.isome om om;subst hA;have o:=run_copy_row P w dT sT ty e b 0 dl dc Z sn sc cs.toArray t xs O.1 G hb (by rw [C];exact (Nat.min_eq_left hsn).symm) (λj v hv=>hr.cell hv) (by simp;omega) h1;rw [C]at o;have e1:(cs.toArray.toList.take 0++xs++cs.toArray.toList.drop (0+sn)).toArray=(xs++cs.drop sn).toArray:=by simp
  rw [e1]at o;simp [execOp,resolve,invoke,builtin,J.ev hx,J.ev hy,o,goInt]
end
end Go.Wk
