/- Part 4. -/
import Derived.Test.YtebiphhfkdbpfaaGreatC03
import Derived.Laws.CopyRow
set_option linter.unusedVariables false
set_option maxRecDepth 100000
set_option maxHeartbeats 40000000
namespace Go.Wk
open Go.RowKit
variable {b n t ty:Nat}
theorem stb1{P:Program}{al:AL}{w:World}{Q:Exit->Act->World->Prop}{ops:Array Oper}{rest:List Oper}{pos:String}{aft:Array Edge}{tt:TT}[h:Tab P tt]{x y:Operand}{k:TK}{u v:Value}(hb:Blk w b t [u])(kk:∀ w1,Blk w1 b t [v]->w.grownBy w1 (some b)->(∀ a,Ext a w->a.heap.size<=b->Ext a w1)->WL P n ops Q rest al w1)(hv:v.oneCell'=true)(ht:tk tt t=some k:=by rfl)(hk:k.size=1:=by rfl)(hp:Zb k.desc=true:=by rfl)(hx:ev al x=some (.pointer (some ⟨b,0,none⟩)):=by rfl)(hy:ev al y=some v:=by rfl):
  WL P n ops Q (⟨none,.store t x y,ty,pos,aft,none⟩::rest) al w :=
 Jfq h.ok ht hk hp hx hy hv (hb.cell 0) (hb.frozen 0) (kk _ (hb.set 0 v) ⟨rfl,rfl,rfl,by simp[World.setCell],λk hk hn=>Below.heap_setCell w ⟨b,0,none⟩ v k (λe=>hn (by rw[e]))⟩ λa j i=>j.setCell i v)
end Go.Wk
namespace Go.Proofs.YtebiphhfkdbpfaaGreat
open Go.RowKit Pl Go.Wk
attribute [local irreducible] WC WL QX WD WDB WP WN WG
variable {cs vs:List Nat}{ts ts':List TA}{base c ca n s:Nat}{vars:Nat->List Nat}{ms rs:Nat->List Row}{A Aa:Option Addr}{v:Value}{w:World}
structure MOk(n:Nat)(ts:List TA)(vars:Nat->List Nat)(rs:Nat->List Row)(s:Nat): Prop where
 run:RunOk n ts vars rs
 sb:s<2^n
 valid:∀ i,i<ts.length->∀ r∈rs i,r.all Zz=true
 srtP:∀ i,i<ts.length->(rs i).length<=12∨Srt [] ((rs i).map (pmR (Qa (vars i) s)))
theorem Qsh(h:Qc vs): Jzc (nz vs):=λj u i=>by
 rw[Js]at i;rw[Jnf i,Jnf (show j-1<vs.length by omega)];have:=List.pairwise_iff_getElem.1 h (j-1) j om i om;grind
theorem Jlg(h:RunOk n ts vars rs): Gf n (ts.map (·.2)):=by
 have J:=h.n32;refine⟨om,om,by rw[List.length_map];exact h.m32,λa G=>?_,λv j=>?_⟩
 .obtain⟨t,ht,rfl⟩:=List.mem_map.1 G;obtain⟨i,hi,e⟩:=List.getElem_of_mem ht;have y:=h.at_ i hi;rw[Qn ta0 ts hi,e]at y;rw[y];refine⟨Qsh (h.asc i hi),λv j=>?_,by simp only;rw[Js]⟩;obtain⟨u,D,rfl⟩:=List.mem_map.1 j;have:=h.lt i hi u D;omega
 obtain⟨i,hi,F⟩:=h.cov v om;refine⟨(ts.getD i ta0).2,List.mem_map_of_mem (getD_mem' ta0 ts hi),?_⟩;rw[h.at_ i hi];exact List.mem_map.2 ⟨v,F,rfl⟩
def AtG(w:World)(cs:List Value)(a:Atm): Prop:=∃ t:V3,cs=t.cells/\AtV w t a
theorem Qqb: ∀(ps:List (List Value×Atm)) (w:World),(∀ p∈ps,AtG w p.1 p.2)->∃ ts:List TA,ts.map (·.2)=ps.map (·.2)/\atC ts=Jd ps/\ts.length=ps.length/\∀ q∈ts,AtV w q.1 q.2
 | [],w,_=>⟨[],rfl,rfl,rfl,λq hq=>by cases hq⟩
 | p::ps,w,h=>by
  obtain⟨qs,h1,h2,h3,h4⟩:=Qqb ps w λq hq=>h q (List.mem_cons_of_mem _ hq);obtain⟨t,e,hr⟩:=h p (mC ..);refine⟨(t,p.2)::qs,by simp[h1],?_,by simp[h3],λq hq=>?_⟩;repeat grind [Jd,atC,List.mem_cons.1]
theorem Jfd{ats:List Atm}(h:GV 3 AtG w v ats): ∃(ts:List TA) (A:Option Addr) (c:Nat),ats=ts.map (·.2)/\v=.slice A ts.length c/\ts.length<=c/\ts.length<=1100000/\Rd w 3 A ts.length (atC ts)/\∀ p∈ts,AtV w p.1 p.2:=by
 obtain⟨ps,A,c,e,U,O,J,u,i⟩:=h;obtain⟨ts,G,F,D,y⟩:=Qqb ps w λp j=>(i p j).2;grind
theorem EA: ElT Tryz.prog 26 37 3 56 (.agg #[.slice none 0 0,.int .i64 0,.slice none 0 0]):=⟨Tryz.underlying26,info_parts kr,rfl,by decide⟩
theorem zInts: Xz Tryz.prog 28=some (.slice none 0 0):=kr
theorem zRows: Xz Tryz.prog 33=some (.slice none 0 0):=kr
theorem Qjl(v1 v2 v3:Value)(A B:Option Addr)(n c m d:Nat)(z:Int)(h1:v1=.slice A n c)(h2:v2=.int .i64 z)(h3:v3=.slice B m d)(w:World): (Instr.buildSlice 26 1 #[(0,.agg #[v1,v2,v3])]).run Tryz.prog w=.ok (.slice (some ⟨w.heap.size,0,none⟩) 1 1) (w.alloc (.cells [v1,v2,v3].toArray 37)):=by
 subst h1;subst h2;subst h3;kernel_rfl
theorem Qjq(A B:Option Addr)(n c m d:Nat)(z:Int)(w:World): (Instr.build 37 #[(0,.slice A n c),(1,.agg #[.int .i64 z,.slice B m d])]).run Tryz.prog w=.ok (.agg #[.slice A n c,.int .i64 z,.slice B m d]) w:=kr
theorem Jxb{z:Int}(h:v.oneCell'=true): ∀ u∈[v,.int .i64 z,.slice A n c],u.oneCell'=true:=λu i=>by
 simp only[List.mem_cons,List.not_mem_nil,or_false]at i;rcases i with rfl|rfl|rfl
 .exact h
 .rfl
 rfl
theorem Qcr(hok:MOk n ts vars rs s)(hl:ts'.length=ts.length)(he:(List.range ts.length).map (λj=>(⟨nz (rnm (vars j) s),(rnm (vars j) s).length,ms j⟩:Atm))=ts'.map (·.2))(hms:∀ j,j<ts.length->Xd [] ((rs j).map (pmR (Qa (vars j) s))) (ms j)/\(ms j).length<=65536): RunOk (bk s 32).length ts' (λj=>rnm (vars j) s) ms:=by
 have D:=hok.run.n32;have y:∀ i,i<ts.length->∀ v∈vars i,v<32:=λi hi v J=>by have:=hok.run.lt i hi v J;omega
 refine⟨Jdz s 32,by rw[hl];exact hok.run.m32,λi hi=>?_,λi hi=>Qvz (hok.run.asc i (hl ▸ hi)) (y i (hl ▸ hi)),λi hi u O=>Qvx (y i (hl ▸ hi)) O,λk F=>?_,λi hi=>(hms i (hl ▸ hi)).1.1,λi hi r U=>?_,λi hi=>(hms i (hl ▸ hi)).2⟩
 .have h1:(ts'.map (·.2))[i]?=some (ts'.getD i ta0).2:=by rw[List.getElem?_map,List.getElem?_eq_getElem hi,Option.map_some,Qn ta0 ts' hi]
  grind
 .obtain⟨h1,G⟩:=bk_mem.1 (getD_mem' 0 _ F);obtain⟨i,hi,Z⟩:=hok.run.cov _ (Yx hok.sb G);exact⟨i,hl.symm ▸ hi,List.mem_map.2 ⟨_,inS_mem.2 ⟨Z,G⟩,Ut (Yz s 32) F⟩⟩
 obtain⟨x,hx,rfl⟩:=List.mem_map.1 (((hms i (hl ▸ hi)).1.2 r).1 U);have:=Kg (vars i) s (vars i).length (nR _);rw[List.take_length]at this;rw[Zk,Jln];exact this
theorem Qhf(hok:MOk n ts vars rs s)(hms:∀ j,j<ts.length->Xd [] ((rs j).map (pmR (Qa (vars j) s))) (ms j)/\(ms j).length<=65536){x:Row}(hx:Gl (bk s 32).length ts.length (λi=>rnm (vars i) s) ms x): x.all Zz=true:=by
 rw[List.all_eq_true];intro y J;obtain⟨k,U,rfl⟩:=List.getElem_of_mem J;have u:k<(bk s 32).length:=by rw[<-hx.1];exact U
 obtain⟨h1,G⟩:=bk_mem.1 (getD_mem' 0 _ u);obtain⟨i,hi,O⟩:=hok.run.cov _ (Yx hok.sb G);have h3:=hx.2 i hi;obtain⟨r,D,e⟩:=List.mem_map.1 (((hms i hi).1.2 _).1 h3);have F:x.getD k V0∈pmR (rnm (vars i) s) x:=List.mem_map.2 ⟨k,List.mem_map.2 ⟨_,inS_mem.2 ⟨O,G⟩,Ut (Yz s 32) u⟩,rfl⟩;rw[<-e]at F;obtain⟨c,Z,e2⟩:=List.mem_map.1 F;have h5:=List.all_eq_true.1 (hok.valid i hi r D) (r.getD c V0) (getD_mem' V0 r (by rw[hok.run.len i hi r D];exact Jxx Z));grind
theorem Qdw(s:Nat): (madeCells (Value.int .i64 0).cells (32*1)).toList=Jt (nz (Zc s 0)):=by
 have e:(madeCells (Value.int .i64 0).cells (32*1)).toList=List.replicate 32 (Value.int .i64 0):=Ye _ _;have i:Zc s 0=List.replicate 32 0:=by simp[Zc,List.map_const']
 rw[e,i];rfl
theorem Qds(cs:List Nat)(i x:Nat): Jt (nz (cs.set i x))=(Jt (nz cs)).set i (.int .i64 (x:Int)):=by simp[Jt,nz,List.map_set]
theorem Jrd(h:Qz w base v cs): ∃ A c,v=.slice A cs.length c/\cs.length<=c/\∀ g,v.ownBlock=some g->base<=g/\g<w.heap.size:=Jy h
theorem Jnv(hok:MOk n ts vars rs s)(hR:Rd w 3 Aa ts.length (atC ts))(hle:ts.length<=ca)(hat:∀ p∈ts,AtV w p.1 p.2)(hcap:∀ l:List Row,Lt [] l->(∀ x∈l,∃ z:Row,z.length=n/\x=pmR (bk s 32) z/\Ks ts.length vars rs s z)->l.length<=65536):
  Ret Tryz.prog 15 [.int .i64 (n:Int),.int .u32 (s:Int),.slice Aa ts.length ca] w λu w'=>Ext w w'/\∃(t':V3) (st:Int) (l:List Row),u=.tuple #[.agg t'.cells.toArray,.int .i64 st,.int .i64 0] /\
   Off (λk=>k<w.heap.size) w' (λx=>AtV x t' ⟨nz (bk s 32),(bk s 32).length,l⟩)/\Lt [] l/\(∀ x,x∈l↔∃ z:Row,z.length=n/\x=pmR (bk s 32) z/\Ks ts.length vars rs s z)/\l.length<=65536:=by
 have b7:=hok.run.n32;have es:=hok.run.m32;have b5:s<4294967296:=nM hok.sb (Nat.pow_le_pow_right (n:=2) (by decide) b7);have a3:∀ i,i<ts.length->∀ v∈vars i,v<32:=λi hi v hv=>by have:=hok.run.lt i hi v hv;omega
 refine Jz Tryz.func15 Tryz.ntmps15 rfl kr rfl ?_;refine ρ ?_;refine alc Vy ?_;intro w1 b6 c3 ei af;refine ρ ?_;refine cl (Jpr (n:=(n:Int)) (ats:=ts.map (·.2)) ⟨ts,Aa,ca,rfl,rfl,hle,om,hR.ext c3,λp hp=>(hat p hp).ext c3⟩) ?_
 rintro u w2 ⟨cv,e,rfl,he⟩;have e0:=he.2 (Jlg hok.run);subst e0;clear he;refine ρ ?_;refine sr32 (s:=s) (v:=n) b7 ?_;rw[Nat.div_eq_of_lt hok.sb];refine ρ ?_;refine mkn EI 32 om (by unfold maxLen;omega) ?_;intro w3 Na cu c9 _;rw[Qdw s]at c9;refine ρ ?_;refine alc zInts ?_;intro w4 br e6 dj J;refine ρ ?_;refine stb1 J ?_ rfl;intro w5 J f5 e5;have av:Ext w3 w5:=e5 w3 e6 dj;have bs:=c3.trans cv;have cq:Ext w w5:=(bs.trans cu).trans av;have d7:w5.ownsRow w.heap.size 3 1 (.slice Na 32 32) 32 (Jt (nz (Zc s 0))):=Jqw (Jv c9 av) bs.size;have c0:Blk w5 b6 37 [.slice none 0 0,.int .i64 0,.slice none 0 0]:=(af.ext cv).ext (cu.trans av);refine ρ ?_;refine Qw (fun (v:Nat) (vv:Value)=>[(0,.int .i64 (n:Int)),(1,.int .u32 (s:Int)),(2,.slice Aa ts.length ca),(6,.pointer (some ⟨b6,0,none⟩)),(10,vv),(11,.pointer (some ⟨br,0,none⟩)),(37,.int .i64 (v:Int))])
  (λv vv w'=>v<=32/\Ext w w'/\Blk w' b6 37 [.slice none 0 0,.int .i64 0,.slice none 0 0]/\Blk w' br 28 [.slice Na 32 32]/\w'.ownsRow w.heap.size 3 1 (.slice Na 32 32) 32 (Jt (nz (Zc s v)))/\Qz w' w.heap.size vv (bk s v)/\∀ g,vv.ownBlock=some g->(Value.slice Na 32 32).ownBlock≠some g) (λv _=>32-v) 0 (.slice none 0 0) sB
  ⟨om,cq,c0,J,d7,Qo _ _ _ _,λg e=>(by cases e)⟩ ?_
 clear c9 d7 c0 J;rintro v vv w6 ⟨hv,bl,af,J,ae,b3,a7⟩;refine ρ ?_;refine ci (λh=>?_) (λh=>?_)
 .have lv:v<32:=by have:=oT h;omega
  clear h;have de:=Jdz s v;have et:∀ {w':World},(Zc s v).length=32:=fun {_}=>Ie s v
  obtain⟨VA,vc,cm,cz,c4⟩:=Jrd b3;refine ρ ?_;refine sr32 (s:=s) (v:=v) om ?_;refine ρ ?_;refine ci (λh=>?_) (λh=>?_)
  .rw[Jxz b5]at h;subst cm;refine ρ ?_;refine ld (J.at (i:=0) rfl) ?_;refine ρ ?_;refine ix v (Rd.own ae) lv ?_;obtain⟨s1,s2,s3,s4,s5⟩:=Zp ae (q:=v) om (.int .i64 ((bk s v).length:Int));refine ρ ?_;refine sto (s1.trans (Qg (by rw[Ie];exact lv))) s2 ?_;rw[<-Qds]at s3;have d5:∀ g,(Value.slice Na 32 32).ownBlock=some g->w.heap.size<=g:=λg eg=>by
    obtain⟨_,_,_,_,hf⟩:=Jy ae;exact(hf g eg).1
   have a1:Ext w (w6.setCell (adr Na v) (.int .i64 ((bk s v).length:Int))):=Jh bl s5 d5;have a2:=af.grown s5 (af.ne_own ae rfl);have Z:=J.grown s5 (J.ne_own ae rfl);have ad:Qz (w6.setCell (adr Na v) (.int .i64 ((bk s v).length:Int))) w.heap.size (.slice VA (bk s v).length vc) (bk s v):=Qj b3 (GrN.by s5 λg eg=>eg) (λg eg e=>a7 g eg e);generalize w6.setCell (adr Na v) (.int .i64 ((bk s v).length:Int))=w7 at *
   clear s1 s2 s4 s5;refine ρ ?_;refine bsl (bs1Int'' _) ?_;intro w8 b8 y f8 ek;refine ρ ?_;refine apI (Jv ad y) ek om (a1.trans y).size ?_;intro e3 w9 c5 a4 ee;have ao:Ext w w9:=Jh (a1.trans y) a4 (λg eg=>(c4 g eg).1);refine ρ ?_;refine Ja (v+1) e3 sO ⟨om,ao,(a2.ext y).grown a4 ((a2.ext y).ne_own (Jv ad y) rfl),(Z.ext y).grown a4 ((Z.ext y).ne_own (Jv ad y) rfl),?_,?_,λg eg e=>?_⟩ om
   .rw[Jng lv,if_pos h];exact Qj (Jv s3 y) (GrN.by a4 λg eg=>eg) (λg eg e=>a7 g e eg)
   .rw[Jdx,if_pos h];exact c5
   rcases ee g eg with h'|h'
   .exact a7 g h' e
   obtain⟨_,_,_,_,hf⟩:=Jy s3;have:=(hf g e).2;have:=y.size;omega
  rw[Jxz b5]at h;have hf:¬ s.testBit v=true:=by rw[h];simp
  refine ρ ?_;refine Ja (v+1) vv sO ⟨om,bl,af,J,?_,?_,a7⟩ om
  .rw[Jng lv,if_neg hf];exact ae
  rw[Jdx,if_neg hf,List.append_nil];exact b3
 have e8:v=32:=by have:=oF h;omega
 subst e8;clear h a7;obtain⟨VA,vc,cm,cz,c4⟩:=Jrd b3;subst cm;have de:=Jdz s 32;refine ρ ?_;refine Ku (fun (i:Nat) (st:Int) (vp:Value) (ms:Nat->List Row)=>[(0,.int .i64 (n:Int)),(1,.int .u32 (s:Int)),(6,.pointer (some ⟨b6,0,none⟩)),(10,.slice VA (bk s 32).length vc),(13,.func (.func 35) #[] #[.pointer (some ⟨br,0,none⟩)]),(14,.int .i64 st),(15,vp),(56,.slice Aa ts.length ca),(57,.int .i64 (ts.length:Int)),(58,.int .i64 (i:Int))])
  (λi st vp ms w'=>i<=ts.length/\Ext w w'/\w6.heap.size<=w'.heap.size/\Blk w' b6 37 [.slice none 0 0,.int .i64 0,.slice none 0 0]/\Blk w' br 28 [.slice Na 32 32]/\w'.ownsRow w.heap.size 3 1 (.slice Na 32 32) 32 (Jt (nz (Zc s 32)))/\Qz w' w.heap.size (.slice VA (bk s 32).length vc) (bk s 32) /\
   OwnG 37 3 AtG w' w6.heap.size vp ((List.range i).map λj=>⟨nz (rnm (vars j) s),(rnm (vars j) s).length,ms j⟩)/\∀ j,j<i->Xd [] ((rs j).map (pmR (Qa (vars j) s))) (ms j)/\(ms j).length<=65536) (λi _ _ _=>ts.length-i) 0 0 (.slice none 0 0) (λ_=>[]) sB
  ⟨Nat.zero_le _,bl,Nat.le_refl _,af,J,ae,b3,OwnG.nil _ _,λj hj=>om⟩ ?_
 rintro i st vp ms w7 ⟨hi,a1,b4,a2,Z,d6,ad,cc,aj⟩;refine ρ ?_;refine ci (λh=>?_) (λh=>?_)
 .have li:i<ts.length:=by have:=oT h;omega
  have dk:=hR.ext a1;obtain⟨t1,t2,t3,a,hp⟩:∃ t1 t2 t3 a,ts.getD i ta0=((t1,t2,t3),a):=⟨_,_,_,_,rfl⟩;have dn:AtV w (t1,t2,t3) a:=by have:=hat _ (Jvx rfl li);rw[hp]at this;exact this
  have ea:a=⟨nz (vars i),(vars i).length,rs i⟩:=by have:=hok.run.at_ i li;rw[hp]at this;exact this
  subst ea;clear h;have h3:∀ u∈[t1,t2,t3],u.oneCell'=true:=dn.one;refine ρ ?_;refine ixq 3 i dk li ?_;refine ρ ?_;refine lds (cs:=[t1,t2,t3]) (λj u hu=>Jvf dk rfl li (by rw[hp];exact hu)) ?_;refine ρ ?_;refine alc Vy ?_;intro w8 fa y di bf;refine ρ ?_;refine stb (cs':=[t1,t2,t3]) bf ?_ h3;intro w9 bf a4 ao;have ah:Ext w7 w9:=ao w7 y di;refine ρ ?_;refine ldW bf ?_;refine ρ ?_;refine cl (Qjw (t:=(t1,t2,t3)) (dn.ext (a1.trans ah)) b5 (hok.run.asc i li) (a3 i li) (hok.run.len i li) (hok.run.big i li)) ?_;rintro u aq ⟨a5,⟨p1,p2,p3⟩,rfl,m,a6,d9,d8,ai⟩;have U:=ai (hok.srtP i li);have ck:=a6.here;obtain⟨⟨PA,pc,dz,d3,e9,f3⟩,dx,bo⟩:=id ck;simp only at dz dx;obtain⟨bj,PG,au,_,dw,_⟩:=id bo;simp only at dw;have cr:=a1.trans ah;have e7:=cr.trans a5;refine ρ ?_;refine alc Vy ?_;intro e1 f9 b2 dh ak;refine ρ ?_;refine stb (cs':=[p1,p2,p3]) ak ?_ ck.one;intro am ak dc az;have D:Ext aq am:=az aq b2 dh
  refine ρ ?_;subst dz;subst dx;subst dw;refine lds (cs:=[.int .i64 ((inS (vars i) s).length:Int),.slice PG bj.length au]) (ak.sub2 (i:=1) rfl rfl) ?_;refine ρ ?_;have bg:=ck.ext D;refine cl (Jkb bg.rel) ?_;rintro u bi ⟨rfl,G⟩;obtain⟨c2,d2⟩:∃ c2:Int,c2=IntKind.i64.wrap (st+(m.length:Int)):=⟨_,rfl⟩;have cj:=ak.ext G;repeat first|refine ω4 ?_|refine ω5 ?_|refine χ1 ?_|refine κ1 ?_|refine κ2 ?_|refine χ2 ?_|refine κ3 ?_|refine ω6 ?_|refine ω7 ?_|refine ω9 ?_|refine κ4 ?_|refine κ7 ?_|refine κ8 ?_|refine χ3 ?_|refine χ4 ?_|refine κ5 ?_|refine κ6 ?_|refine χ5 ?_|refine χ6 ?_|refine χ7 ?_|refine ω8 ?_
  rw[<-d2];refine ρ ?_;refine ldW cj ?_;refine ρ ?_;have O:Ext w7 bi:=((ah.trans a5).trans D).trans G;have ay:=a1.trans O;refine clv (Qgb (Na:=Na) (nums:=Zc s 32) (bg.ext G) ?_ ?_ (λv hv=>?_) ?_) ?_
  .rw[Ie];exact Z.ext O
  .rw[Ie];exact Rd.own (Jv d6 O)
  .rw[Ie];exact a3 i li v (inS_mem.1 hv).1
  .have:=List.length_filter_le (λv=>s.testBit v) (vars i);have h5:=Jzb (hok.run.asc i li) (a3 i li);unfold inS;omega
  rintro u ap ⟨ax,v1,rfl,c6⟩;have d0:=c6.here;obtain⟨QA,qc,dt,f2,f0,ez⟩:=d0;refine ρ ?_;refine bsl (Qjl v1 _ _ QA PG _ qc _ au _ dt rfl rfl) ?_;intro c1 fb aw ew dm;have en:(inS (vars i) s).map (λv=>(Zc s 32).getD v 0)=rnm (vars i) s:=by
   unfold rnm;refine List.map_congr_left λv hv=>?_;obtain⟨h5,h6⟩:=inS_mem.1 hv;exact Qdv (a3 i li v h5) h6
  rw[en]at c6;have F:=(O.trans ax).trans aw;have bb:=cc.ext F;obtain⟨_,_,_,_,cb⟩:=cc.form;have c8:∀ k,Va w6.heap.size vp k->k<w7.heap.size:=λk hk=>by
   rcases hk with hk|hk
   .exact nM hk b4
   exact(cb k hk).2
  have hΦ:Off (Va w6.heap.size vp) c1 (λu=>AtG u [v1,.int .i64 ((inS (vars i) s).length:Int),.slice PG bj.length au] ⟨nz (rnm (vars i) s),(rnm (vars i) s).length,m⟩):=by
   have h5:Off (λk=>k<w7.heap.size) c1 (λu=>IntsV u v1 (nz (rnm (vars i) s))):=(c6.mono λk _ hk=>nM hk O.size).ext aw;have h6:Off (λk=>k<w7.heap.size) c1 (λu=>AtV u (.slice PA (nz (inS (vars i) s)).length pc,.int .i64 ((inS (vars i) s).length:Int),.slice PG bj.length au) ⟨nz (inS (vars i) s),(inS (vars i) s).length,m⟩) :=
    (a6.mono λk _ hk=>nM hk ah.size).ext (((D.trans G).trans ax).trans aw)
   refine((h5.and h6).imp λu h=>⟨(v1,.int .i64 ((inS (vars i) s).length:Int),.slice PG bj.length au),rfl,h.1,?_,h.2.2.2⟩).mono λk _ hk=>c8 k hk;simp only;rw[Jln]
  refine ρ ?_;refine apG EA (Φ:=AtG) bb dm rfl (Jxb (by rw[dt];rfl)) hΦ (by simp;omega) om (nL b4 F.size) ?_;intro co bh dl a9 er;have cw:Ext w bh:=Jh (a1.trans F) a9 (λg eg=>nL bl.size (cb g eg).1);have bp:∀ {g t:Nat} {cs:List Value},Blk w7 g t cs->Nat.beq 37 t=false->Blk bh g t cs:=λhB e=>by
   obtain⟨ps,_,ho,_⟩:=bb;exact(hB.ext F).grown a9 ((hB.ext F).ne_own ho e)
  have cd:Blk bh b6 37 [.slice none 0 0,.int .i64 0,.slice none 0 0]:=by
   exact(a2.ext F).grown a9 λe=>by have:=(cb b6 e.symm).1;have:=af.lt;omega
  have bu:∀ {m':Nat} {v:Value} {xs:List Value},w7.ownsRow w.heap.size 3 1 v m' xs->bh.ownsRow w.heap.size 3 1 v m' xs:=λho=>by
   obtain⟨ps,_,ed,_⟩:=bb;exact Zw (Jv ho F) ed a9 rfl
  refine ρ ?_;refine Yb (i+1) c2 co (upd ms i m) sO ⟨om,cw,Nat.le_trans b4 (nL F.size a9.size),cd,bp Z rfl,bu d6,bu ad,?_,λj hj=>?_⟩ om
  .rw[List.range_succ,List.map_append,List.map_singleton,Qy];have e:(List.range i).map (λj=>(⟨nz (rnm (vars j) s),(rnm (vars j) s).length,upd ms i m j⟩:Atm))=(List.range i).map (λj=>⟨nz (rnm (vars j) s),(rnm (vars j) s).length,ms j⟩):=by
    refine List.map_congr_left λj hj=>?_;have:=List.mem_range.1 hj;rw[Jp _ _ om]
   rw[e];exact dl
  by_cases e:j=i
  .subst e;rw[Qy];exact⟨U,d9⟩
  rw[Jp _ _ e];exact aj j om
 have eh:i=ts.length:=by have:=oF h;omega
 subst eh;clear h;refine ρ ?_;refine alc zRows ?_;intro w8 cn y dg aa;have ej:=cc.ext y;obtain⟨e4,PA,pc,du,em,d3,e9,eb,ec⟩:=Jfd (ej.gv (by simp;omega));have c7:e4.length=ts.length:=by
  have:=congrArg List.length du;simpa using this.symm
 have bw:=Qcr hok c7 du aj;subst em;have cp:=a1.trans y;have ba:=Qfw (m:=ts.length) (ms:=ms) hok.sb b7 hok.run.lt hok.run.len (λi hi x=>(aj i hi).1.2 x);refine ρ ?_;refine cl (Qmf (bx':=λk=>k=cn) (Y:=YM cn) bw eb d3 ec (Jlg bw) (λk hk=>by subst hk;exact aa.lt) (Qfz aa.lt) (λw' cx=>⟨nM aa.lt cx.size,.slice none 0 0,aa.ext cx,OwnG.nil _ _⟩) ?_) ?_
 .intro l h1 h2;refine hcap l h1 λx hx=>(ba x).1 ?_;have:=h2 x hx;rw[c7]at this;exact this
 rintro u w9 ⟨a4,ey,base,l,rfl,f6,eu,⟨f7,ex,ch,hO⟩,bq,a8⟩;rw[c7]at a8;have cy:w.heap.size<=cn:=nL a1.size dg;have ao:Ext w w9:=a4.old cp λk hk=>by subst hk;exact cy
 have bc:=Ju (a2.ext y) a4 (λe=>by have:=a2.lt;omega);have c5:Qz w9 w.heap.size (.slice VA (bk s 32).length vc) (bk s 32):=Qj (Jv ad y) a4 (λg eg e=>by subst e;exact aa.ne_own (Jv ad y) rfl eg.symm);have da:l.length<=65536:=by
  refine hcap l bq λx hx=>(ba x).1 ((a8 x).1 hx)
 obtain⟨LA,lc,dq,f4,hlf⟩:=hO.form;subst dq;have bm:=Qvl (hO.gv om);refine ρ ?_;refine ld (ch.at (i:=0) rfl) ?_;refine ρ ?_;refine cl (Jlr (ar:=(bk s 32).length) bm) ?_;rintro u aq ⟨a5,rv,e,rfl,⟨z,RB,rm,rd,rfl⟩,dd,bv⟩;have ef:∀ r∈l,r.length=(bk s 32).length/\r.all Zz=true:=λr hr=>⟨((a8 r).1 hr).1,Qhf hok aj ((a8 r).1 hr)⟩;have e0:=dd de ef da;subst e0;obtain⟨_,_,m,a6,d9,d8,ai⟩:=bv rfl;have U:=ai (.inr (Yo bq));have eo:m=l:=Gk U.1 bq U.2;subst eo;clear ai U dd bv d8;refine ρ ?_;refine alc Uw ?_;intro e1 ep b2 df be;refine ρ ?_;refine stb (cs':=[.int .i64 z,.slice RB rm rd]) be ?_ Vf;intro am be dc az;have D:Ext aq am:=az aq b2 df;refine ρ ?_;have ac:=a5.trans D;have cg:=bc.ext ac;have bn:=(a6.here).ext D;refine drN (λk=>k=b6) 12 [(0,0),(0,1),(0,2),(0,3),(0,4),(0,5),(0,6),(1,7),(0,8),(1,9),(0,10),(0,11)] kr ?_;have an:Ext am am.drew:=(Ext.refl am).drew
 have bd:=be.ext an;have bz:=cg.ext an;have bp:¬ (λk=>k=b6) ep:=λe=>by
  have h1:=bc.lt;have h2:=a5.size;simp only at e;omega
 refine ρn ?_;refine Yc (cs:=[.int .i64 z,.slice RB rm rd]) (λw' hg j u hu=>(Ju bd hg bp).at hu) ?_;refine ρn ?_;refine nbld (Qjq _ _ _ _ _ _ _) ?_;refine ρn ?_;refine Yc (cs:=[.int .i64 z,.slice RB rm rd]) (λw' hg j u hu=>(Ju bd hg bp).at hu) ?_;refine ρn ?_;refine nop ?_;refine cl (Jkb (bn.ext an)) ?_;rintro u bi ⟨rfl,G⟩;refine ρ ?_;refine Ql (GrN.ext G) ?_;refine ρn ?_;refine nop ?_;refine stb (cs':=[.slice VA (bk s 32).length vc,.int .i64 z,.slice RB rm rd]) (bz.ext G) ?_ (Jxb rfl);intro ap ce b9 ax;refine ω5 ?_;refine Ql (GrN.by b9 λk e=>by injection e with e;exact e.symm) ?_;refine ρn ?_;refine ρ ?_;have ay:Ext w bi:=((ao.trans ac).trans an).trans G;refine Jsg ce ⟨Jcm ay b9 ei,(.slice VA (bk s 32).length vc,.int .i64 z,.slice RB rm rd),_,m,rfl,?_,bq,λx=>(a8 x).trans (ba x),da⟩;have db:GrN (λk=>k=b6) bi ap:=GrN.by b9 λk e=>by injection e with e;exact e.symm
 have bt:=Jv c5 ((ac.trans an).trans G);have d1:Qz ap w.heap.size (.slice VA (bk s 32).length vc) (bk s 32):=Qj bt db λg eg e=>by subst e;exact(bz.ext G).ne_own bt rfl eg.symm
 have h5:Off (λk=>k<w.heap.size) ap (λu=>IntsV u (.slice VA (bk s 32).length vc) (nz (bk s 32))):=by
  refine(Jqv d1 λg eg hk=>by have:=(c4 g eg).1;omega).imp λu h=>⟨VA,vc,by rw[Js],by rw[Js];exact cz,by rw[Js];omega,by rw[Js];exact Rd.own h⟩
 have h6:Off (λk=>k<w.heap.size) ap (λu=>RelV u (.agg #[.int .i64 z,.slice RB rm rd]) (bk s 32).length m):=by
  have h7:=a6.ext ((D.trans an).trans G);have h8:=h7.gr (db.mono λk _ hk=>by subst hk;exact bc.lt);exact h8.mono λk _ hk=>nM hk ao.size
 refine(h5.and h6).imp λu h=>?_;obtain⟨h7,rv,ds,h8⟩:=h;have e2:(Value.int .i64 z)=.int .i64 ((bk s 32).length:Int)/\Value.slice RB rm rd=rv:=by
  simp only[Value.agg.injEq,Array.mk.injEq,List.cons.injEq,and_true]at ds;exact ds
 exact⟨h7,e2.1,by simp only;rw[e2.2];exact h8⟩
end Go.Proofs.YtebiphhfkdbpfaaGreat
namespace Go.Wk
open Go.RowKit
variable {p:Addr}{z:Int}{kd:IntKind}{cs cs':List Value}{b e g m t:Nat}{i x y:Operand}{k k2:TK}{v:Value}
section
variable {N:Nat->Prop} {P:Program} {n:Nat} {al:AL} {w:World} {Q:Exit->Act->World->Prop} {ops:Array Oper} {rest:List Oper} {drest:List (Nat×Oper)}
variable {d ty:Nat} {pos:String} {aft:Array Edge} {tt:TT}
theorem Jzs(hT:TOk P tt)(ht:tk tt t=some k)(hk:k.desc=.array m e)(w:World): (isAgg t).run P w=.ok true w/\Xr P t=some k.size/\P.underlying t=some (.array m e)/\Xr P e=some k.esz:=by
 have:=hT.at ht;unfold Vt at this;rw[hk]at this;exact⟨by simp[isAgg,run_underlying this.1],this.2.2,this.1,this.2.1⟩
theorem Qvb(hT:TOk P tt)(ht:tk tt t=some k)(hk:k.desc=.array m e)(hl:k.size=cs.length)(hc:∀ j u,cs[j]?=some u->w.cell? (p.add j)=some u): (loadVar t p).run P w=.ok (.agg cs.toArray) w:=by
 have i:=run_loadCells_list (P:=P) w p cs hc;rw[<-hl]at i;simp[loadVar,(Jzs hT ht hk w).1,Vz w (Jzs hT ht hk w).2.1,i]
theorem lda[h:Tab P tt](hc:∀ j u,cs[j]?=some u->w.cell? (p.add j)=some u)(hl:k.size=cs.length)(kk:WL P n ops Q rest ((d,.agg cs.toArray)::al) w)(ht:tk tt t=some k:=by rfl)(hk:k.desc=.array m e:=by rfl)(hx:ev al x=some (.pointer (some p)):=by rfl)(hd:Nat.blt d n=true:=by rfl): WL P n ops Q (⟨some d,.load t x,ty,pos,aft,none⟩::rest) al w :=
 wop hd (λa i=>by simp[execOp,i.ev hx,Instr.loadAt,Instr.sureAddr,Qvb (w:=w) h.ok ht hk hl hc]) kk
theorem sta[h:Tab P tt](hb:Blk w b t cs)(kk:∀ w1,Blk w1 b t cs'->w.grownBy w1 (some b)->(∀ a,Ext a w->a.heap.size<=b->Ext a w1)->WL P n ops Q rest al w1)(h1:∀ u∈cs',u.oneCell'=true)(hl:cs.length=cs'.length)(hs:k.size=cs'.length)(ht:tk tt t=some k:=by rfl)(hk:k.desc=.array m e:=by rfl)(hx:ev al x=some (.pointer (some ⟨b,0,none⟩)):=by rfl)(hy:ev al y=some (.agg cs'.toArray):=by rfl):
  WL P n ops Q (⟨none,.store t x y,ty,pos,aft,none⟩::rest) al w:=by
 have F:=Jjj w b cs'.toArray;refine Ko (λa D=>?_) (kk (w.setRow b cs'.toArray) (setRow_heap w b _ _ _ _ hb) F (λa hx D=>Jh hx F (λk hk=>by grind)));have j:=Vz w (Jzs h.ok ht hk w).2.1;have i:=run_storeCells_from (P:=P) b t cs' 0 cs.toArray w hb (by simpa using hl.symm) h1;simp only[List.take_zero,List.nil_append]at i;simp[execOp,D.ev hx,D.ev hy,Instr.storeAt,Instr.sureAddr,storeVar,Value.cells,j,hs,i]
theorem idx[h:Tab P tt](j:Nat)(hlt:j<m)(hv:cs[j]?=some v)(kk:WL P n ops Q rest ((d,v)::al) w)(ht:tk tt t=some k:=by rfl)(hk:k.desc=.array m e:=by rfl)(h1:k.esz=1:=by rfl)(he:tk tt e=some k2:=by rfl)(hp:Zb k2.desc=true:=by rfl)(hx:ev al x=some (.agg cs.toArray):=by rfl)(hi:ev al i=some (.int kd z):=by rfl)(hj:z=(j:Int):=by first|rfl|omega)(hd:Nat.blt d n=true:=by rfl):
  WL P n ops Q (⟨some d,.index t x i,ty,pos,aft,none⟩::rest) al w :=
 wop hd (λa y=>by
  subst hj;have u:=Jzs h.ok ht hk w;have D:=Vz w (h1 ▸ u.2.2.2);have F:=(Jzr h.ok he hp w).1;simp[execOp,y.ev hx,y.ev hi,Instr.index,asIntOf,run_underlying u.2.2.1,hlt,D,part,F,hv]) kk
theorem ixs[h:Tab P tt](j:Nat)(hlt:j<m)(kk:WL P n ops Q rest ((d,.pointer (some (p.add (j*k.esz))))::al) w)(ht:tk tt t=some k:=by rfl)(hk:k.desc=.array m e:=by rfl)(hx:ev al x=some (.pointer (some p)):=by rfl)(hi:ev al i=some (.int kd z):=by rfl)(hj:z=(j:Int):=by first|rfl|omega)(hd:Nat.blt d n=true:=by rfl): WL P n ops Q (⟨some d,.indexAddr t x i,ty,pos,aft,none⟩::rest) al w :=
 wop hd (λa u=>Jld h.ok j ht hk hlt u hx hi hj (some d) w) kk
theorem adr1(b v:Nat): (⟨b,0,none⟩:Addr).add (v*1)=⟨b,v,none⟩:=by rw[Zu,Nat.mul_one,Nat.zero_add]
theorem ixb[h:Tab P tt](j:Nat)(hlt:j<m)(kk:WL P n ops Q rest ((d,.pointer (some ⟨b,j,none⟩))::al) w)(ht:tk tt t=some k:=by rfl)(hk:k.desc=.array m e:=by rfl)(h1:k.esz=1:=by rfl)(hx:ev al x=some (.pointer (some ⟨b,0,none⟩)):=by rfl)(hi:ev al i=some (.int kd z):=by rfl)(hj:z=(j:Int):=by first|rfl|omega)(hd:Nat.blt d n=true:=by rfl): WL P n ops Q (⟨some d,.indexAddr t x i,ty,pos,aft,none⟩::rest) al w:=by
 rw[<-adr1 b j,<-h1]at kk;exact ixs j hlt kk ht hk hx hi hj hd
theorem Blk.atc{w:World}{t:TypeId}(h:Blk w g t cs){i:Nat}(hv:cs[i]?=some v): w.cell? ⟨g,i,none⟩=some v:=by rw[h.cell];exact hv
end
end Go.Wk
namespace Go.Wk
open Go.RowKit
variable {listed:Array Bool}{l:List Oper}{fuel fuel' i:Nat}{o oi oj:Oper}
section
variable {P:Program} {n:Nat} {al al':AL} {w:World} {Q:Exit->Act->World->Prop} {ops:Array Oper} {T:Nat->Bool}
def Gj(P:Program)(ops:Array Oper)(Q:Exit->Act->World->Prop)(T:Nat->Bool)(i:Nat)(w0:World)(fuel:Nat)(listed:Array Bool): Exit->Act->World->Prop
 | .normal,a,w=>(T i=false->Ext w0 w)/\(Closed ops listed->Zh P ops Q T fuel listed a w)
 | _,_,_=>False
theorem Xq{w0:World}(hx:T i=false->Ext w0 w)(h:WH P n ops Q T fuel listed al w): QX n (Gj P ops Q T i w0 fuel listed) .normal al w:=λa u=>⟨hx,λj=>h j a u⟩
theorem Jvp(ho:ops[i]?=some o)(hc:Closed ops listed)(h:WL P n ops (Gj P ops Q T i w fuel listed) [o] al w): ∀ a,Fr n al a->wpOp P ops (QF Q) i (λa' w'=>(T i=false->Ext w w')/\Zh P ops Q T fuel listed a' w') a w:=λa D=>by
 have j:=h a D;unfold wpList at j;unfold wpOp;simp only[ho];have u:¬ LetsOut (Gj P ops Q T i w fuel listed):=by rintro⟨a,w,h⟩;exact h
 split
 .rename_i hw;simp only[hw,if_true]at j;rcases j with j|⟨_,j⟩
  .left
   refine Oper.wp_mono (K:=wpList P ops (Gj P ops Q T i w fuel listed) []) (λa' w' y=>⟨y.1,y.2 hc⟩) ?_;unfold Oper.wp at j ⊢;grind [Yy,Gj]
  exact absurd j u
 rename_i hw;simp only[hw]at j;exact⟨j.1,j.2 hc⟩
theorem Jxl(i j:Nat)(hr:Region.ready .any l.toArray listed=[i,j])(hf:fuel=fuel'+1)(hi:nth l i=some oi)(hj:nth l j=some oj)(h1:WL P n l.toArray (Gj P l.toArray Q T i w fuel' (listed.setIfInBounds i true)) [oi] al w)(h2:WL P n l.toArray (Gj P l.toArray Q T j w fuel' (listed.setIfInBounds j true)) [oj] al w): WH P n l.toArray Q T fuel listed al w:=λD a F=>by
 subst hf;have J:l.toArray[i]?=some oi:=by rw[<-hi,Xw];simp
 have G:l.toArray[j]?=some oj:=by rw[<-hj,Xw];simp
 refine⟨λh0=>(by rw[hr]at h0;cases h0),λk y=>?_⟩;have u:=y;rw[hr]at y;simp only[List.mem_cons,List.not_mem_nil,or_false]at y;rcases y with rfl|rfl
 .exact Jvp J (D.step u) h1 a F
 exact Jvp G (D.step u) h2 a F
theorem Zs(i:Nat)(hr:Region.ready .any l.toArray listed=[i])(hf:fuel=fuel'+1)(hi:nth l i=some oi)(h1:WL P n l.toArray (Gj P l.toArray Q T i w fuel' (listed.setIfInBounds i true)) [oi] al w): WH P n l.toArray Q T fuel listed al w:=λy a D=>by
 subst hf;have F:l.toArray[i]?=some oi:=by rw[<-hi,Xw];simp
 refine⟨λh0=>(by rw[hr]at h0;cases h0),λk j=>?_⟩;have u:=j;rw[hr]at j;simp only[List.mem_cons,List.not_mem_nil,or_false]at j;subst j;exact Jvp F (y.step u) h1 a D
end
section
variable {N:Nat->Prop} {P:Program} {n:Nat} {al al':AL} {w:World} {Q:Exit->Act->World->Prop} {ops:Array Oper}
def WM(N:Nat->Prop)(P:Program)(n:Nat)(ops:Array Oper)(Q:Exit->Act->World->Prop)(fuel:Nat)(listed:Array Bool)(al:AL)(w:World): Prop:=Closed ops listed->∀ a,Fr n al a->Ue N P ops Q noT fuel listed a w
theorem WM.sub{fuel:Nat}{listed:Array Bool}(hs:Sub al' al)(h:WM N P n ops Q fuel listed al' w): WM N P n ops Q fuel listed al w:=λi a j=>h i a (j.sub hs)
end
end Go.Wk
namespace Go.Wk
open Go.RowKit
variable {d n ty v:Nat}
theorem sl64{P:Program}{al:AL}{w:World}{Q:Exit->Act->World->Prop}{ops:Array Oper}{rest:List Oper}{pos:String}{aft:Array Edge}{y:Operand}{t yt:TypeId}(hv:v<64)(kk:WL P n ops Q rest ((d,.int .u64 ((2^v:Nat):Int))::al) w)(hy:ev al y=some (.int .i64 (v:Int)):=by rfl)(hd:Nat.blt d n=true:=by rfl):
  WL P n ops Q (⟨some d,.binOp .shl t (.const (.int .u64 1)) y yt,ty,pos,aft,none⟩::rest) al w:=by
 have e:IntKind.u64.wrap (1*2^(min ((v:Nat):Int).toNat IntKind.u64.bits))=((2^v:Nat):Int):=by
  have h:2^v<18446744073709551616:=nM (Nat.pow_lt_pow_right (by decide:1<2) hv) (by decide);rw[Int.toNat_natCast,Nat.min_eq_left (by show v<=64;omega),Int.one_mul];have:((2:Int)^v)=((2^v:Nat):Int):=by simp
  rw[this,IntKind.wrap_u64];grind
 rw[<-e]at kk;exact wop hd (λa i=>Jzw (x:=.const (.int .u64 1)) rfl hy om i (some d) w) kk
end Go.Wk
namespace Go.Proofs.YtebiphhfkdbpfaaGreat
open Go.RowKit Pl Go.Wk
attribute [local irreducible] WC WL QX WD WDB WP WN WG
variable {es:List Nat}{c e i n:Nat}{A:Option Addr}{w:World}
def Uc(es:List Nat): List Value:=es.map fun (e:Nat)=>Value.int .u32 (e:Int)
theorem Jfj(h:i<es.length): (Uc es)[i]?=some (.int .u32 (es.getD i 0:Int)):=by
 simp[Uc,List.getD,List.getElem?_eq_getElem h]
structure GrV(w:World)(A:Option Addr)(c n:Nat)(es:List Nat): Prop where
 rd:Rd w 1 A es.length (Uc es)
 cap:es.length<=c
 n32:n<=32
 few:es.length<=64
 lt:∀ e∈es,e<2^n
abbrev grC(A:Option Addr)(c n:Nat)(es:List Nat): List Value:=[.int .i64 (n:Int),.slice A es.length c]
theorem GrV.ext{w w':World}{A:Option Addr}{c n:Nat}{es:List Nat}(h:GrV w A c n es)(hx:Ext w w'): GrV w' A c n es:=⟨h.rd.ext hx,h.cap,h.n32,h.few,h.lt⟩
theorem Kx(h:n<=32): 2^n<=4294967296:=Nat.pow_le_pow_right (n:=2) (by decide) h
theorem GrV.lt32(h:GrV w A c n es)(he:e∈es): e<4294967296:=nM (h.lt e he) (Kx h.n32)
theorem Qlj(hn:n<=32)(w:World): Ret Tryz.prog 79 [.int .i64 (n:Int)] w λu w'=>u=.int .u32 ((2^n-1:Nat):Int)/\w'=w:=by
 have j:=Kx hn;have i:0<2^n:=Nat.two_pow_pos n;refine Jz Tryz.func79 Tryz.ntmps79 rfl kr rfl ?_;refine ρ ?_;refine sl64 (v:=n) om ?_;refine ρ ?_;refine Jq ⟨?_,rfl⟩;generalize 2^n=p at *
 congr 1
 rw[IntKind.wrap_u64,IntKind.wrap_u32];omega
theorem Qqf(h:e<2^n)(hn:n<=32): Jzd e (2^n-1)=0:=by
 have j:=Kx hn;have i:0<2^n:=Nat.two_pow_pos n;apply Nat.eq_of_testBit_eq
 grind [Qqg,Nat.testBit_two_pow_sub_one,Nat.testBit_lt_two_pow,Nat.lt_of_lt_of_le,Nat.pow_le_pow_right]
theorem Qlh(h:GrV w A c n es): Ret Tryz.prog 50 [.agg (grC A c n es).toArray] w λu w'=>u=.int .i64 0/\Ext w w':=by
 have hn:=h.n32;have hf:=h.few;refine Jz Tryz.func50 Tryz.ntmps50 rfl kr rfl ?_;refine ρ ?_;refine bx (cs:=grC A c n es) ?_;intro w1 b y hb D;refine ρ ?_;refine ld (D.at (i:=0) rfl) ?_;refine ρ ?_;refine ld (D.at (i:=0) rfl) ?_;refine ρ ?_;refine cf ?_ ?_
 .grind
 refine ρ ?_;refine ld (D.at (i:=1) rfl) ?_;refine ρ ?_;refine cf ?_ ?_
 .grind
 refine ρ ?_;refine ld (D.at (i:=1) rfl) ?_;refine ρ ?_;refine Jl (fun (i:Nat)=>[(1,.pointer (some ⟨b,0,none⟩)),(18,.slice A es.length c),(19,.int .i64 (es.length:Int)),(20,.int .i64 (i:Int))])
  (λi w'=>i<=es.length/\Ext w1 w') (λi=>es.length-i) 0 sB ⟨Nat.zero_le _,Ext.refl _⟩ ?_
 rintro i w2 ⟨hi,j⟩;have G:=D.ext j;have J:=h.ext (y.trans j);refine ρ ?_;refine ci (λh=>?_) (λh=>?_)
 .have F:i<es.length:=by have:=oT h;omega
  clear h;have O:=getD_mem' 0 es F;refine ρ ?_;refine ix i J.rd F ?_;refine ρ ?_;refine ld (J.rd.cell (Jfj F)) ?_;refine ρ ?_;refine ld (G.at (i:=0) rfl) ?_;refine ρ ?_;refine cl (Qlj hn w2) ?_;rintro u Z ⟨rfl,rfl⟩;have hp:=Kx hn;have U:0<2^n:=Nat.two_pow_pos n;refine ρ ?_;refine cf ?_ ?_
  .rw[Jfb (J.lt32 O) om,Qqf (h.lt _ O) hn];rfl
  refine ρ ?_;exact Jf (i+1) sO ⟨om,j⟩ om
 refine ρ ?_;exact Jq ⟨rfl,y.trans j⟩
end Go.Proofs.YtebiphhfkdbpfaaGreat
namespace Go.Proofs.YtebiphhfkdbpfaaGreat
open Pl Go.Wk
variable {i j n:Nat}{f:Nat->List Value}
structure PermOk(n f:Nat)(perm:List Nat): Prop where
 fn:f<=n
 len:perm.length=n-f
 rng:∀ v∈perm,f<=v/\v<n
 nd:perm.Nodup
def Ux(n:Nat)(f:Nat->List Value): List Value:=(List.range n).flatMap f
theorem Jrt(n:Nat)(f:Nat->List Value): Ux (n+1) f=Ux n f++f n:=by simp[Ux,List.range_succ,List.flatMap_append]
theorem Jrv{sz:Nat}(h:∀ i,i<n->(f i).length=sz): (Ux n f).length=n*sz:=by
 induction n with
 | zero=>simp[Ux]
 | succ n ih=>rw[Jrt,List.length_append,ih (λi hi=>h i om),h n om,Nat.succ_mul]
theorem Qls{sz:Nat}(h:∀ i,i<n->(f i).length=sz)(hi:i<n)(hj:j<sz): (Ux n f)[i*sz+j]?=(f i)[j]?:=by
 induction n with
 | zero=>omega
 | succ n ih=>
  have u:=Jrv (n:=n) (λi hi=>h i om);rw[Jrt];grind
open Go.RowKit Pl Go.Wk
attribute [local irreducible] WC WL QX WD WDB WP WN WG
theorem Qgd{zs:List Value}(h:0<zs.length)(n:Nat): (madeCells zs.toArray (n*zs.length)).toList=Ux n λ_=>zs:=by
 apply List.ext_getElem?
 intro k;by_cases hk:k<n*zs.length
 .have u:k / zs.length<n:=Nat.div_lt_of_lt_mul (by grind);have i:=Nat.mod_lt k h;have j:=Qls (n:=n) (sz:=zs.length) (f:=λ_=>zs) (λ_ _=>rfl) u i;rw[Nat.div_add_mod' k zs.length]at j;rw[j];simp only[madeCells,Array.getElem?_toList,Array.getElem?_map,Array.getElem?_range,hk,if_true,Option.map_some];simp[i]
 have y:=Jrv (n:=n) (sz:=zs.length) (f:=λ_=>zs) (λ_ _=>rfl);rw[List.getElem?_eq_none (by simp[madeCells];omega),List.getElem?_eq_none om]
open Go.RowKit Pl Go.Wk
variable {a b l os:List UInt32}{c i k m n x y:Nat}
theorem Jgn(c:UInt32)(h:k<l.length): val (l.set k c)+4294967296^k*(l.getD k 0).toNat=val l+4294967296^k*c.toNat:=by
 induction l generalizing k with
 | nil=>simp at h
 | cons x l ih=>
  cases k with
  | zero=>simp[val];omega
  | succ k=>
   have:=ih (k:=k) (by simpa using h);simp only[List.set_cons_succ,val,List.getD_cons_succ,Nat.pow_succ];grind
structure MulO(a b:List UInt32)(i:Nat)(os:List UInt32): Prop where
 len:os.length=a.length+b.length
 val:val os=val (a.take i)*val b
 zero:∀ k,i+b.length<=k->os.getD k 0=0
structure MulI(a b:List UInt32)(i j c:Nat)(os:List UInt32): Prop where
 len:os.length=a.length+b.length
 small:c<4294967296
 val:val os+4294967296^(i+j)*c=Pl.val (a.take i)*Pl.val b+4294967296^i*(a.getD i 0).toNat*Pl.val (b.take j)
 zero:∀ k,i+b.length<=k->os.getD k 0=0
theorem Qlm(c:UInt32)(h:k≠m): (l.set k c).getD m 0=l.getD m 0:=by grind
theorem Jbs(hx:x<4294967296)(hy:y<4294967296): x*y<=18446744065119617025:=by
 have:=Nat.mul_le_mul (show x<=4294967295 by omega) (show y<=4294967295 by omega);omega
theorem MulO.first: MulO a b 0 (List.replicate (a.length+b.length) 0):=by
 refine⟨by simp,?_,λk _=>?_⟩
 .have:∀ n,Pl.val (List.replicate n (0:UInt32))=0:=λn=>by
   induction n with
   | zero=>rfl
   | succ n ih=>rw[List.replicate_succ];simp[Pl.val,ih]
  rw[this];simp[Pl.val]
 repeat grind
theorem MulO.start(h:MulO a b i os): MulI a b i 0 0 os :=
 ⟨h.len,om,by rw[h.val];simp[Pl.val],h.zero⟩
theorem MulI.step{j s:Nat}(h:MulI a b i j c os)(hi:i<a.length)(hj:j<b.length)(hs:s=c+((a.getD i 0).toNat*(b.getD j 0).toNat+(os.getD (i+j) 0).toNat)):
  MulI a b i (j+1) (s / 4294967296) (os.set (i+j) (UInt32.ofNat s))/\s<18446744073709551616:=by
 obtain⟨h1,h2,h3,h4⟩:=h;have G:(a.getD i 0).toNat<4294967296:=(a.getD i 0).toNat_lt;have F:(b.getD j 0).toNat<4294967296:=(b.getD j 0).toNat_lt;have O:(os.getD (i+j) 0).toNat<4294967296:=(os.getD (i+j) 0).toNat_lt;have hm:=Jbs G F;have u:s<18446744073709551616:=om
 refine⟨⟨by grind,om,?_,λk hk=>by grind⟩,u⟩;have e:=Jgn (UInt32.ofNat s) (show i+j<os.length by omega);rw[UInt32.toNat_ofNat']at e;rw[Jqc];generalize hX:(a.getD i 0).toNat=X at *
 generalize hY:(b.getD j 0).toNat=Y at *
 generalize hZ:(os.getD (i+j) 0).toNat=Z at *
 generalize Pl.val (os.set (i+j) (UInt32.ofNat s))=V' at *
 generalize Pl.val os=V at *
 generalize Pl.val (b.take j)=W at *
 generalize Pl.val (a.take i)*Pl.val b=U at *
 have D:4294967296^(i+(j+1))*(s / 4294967296)=4294967296^(i+j)*(4294967296*(s / 4294967296)):=by grind
 have y:4294967296^i*X*(W+4294967296^j*Y)=4294967296^i*X*W+4294967296^(i+j)*(X*Y):=by grind
 have J:4294967296^(i+j)*(s % 2^32)+4294967296^(i+j)*(4294967296*(s / 4294967296))=4294967296^(i+j)*c+(4294967296^(i+j)*(X*Y)+4294967296^(i+j)*Z):=by
  rw[<-Nat.mul_add,<-Nat.mul_add,<-Nat.mul_add];congr 1
  omega
 rw[D,y];omega
theorem MulI.last(h:MulI a b i b.length c os)(hi:i<a.length): MulO a b (i+1) (os.set (i+b.length) (UInt32.ofNat c)):=by
 obtain⟨F,D,u,j⟩:=h;refine⟨by grind,?_,λk y=>by grind [Qlm]⟩;have e:=Jgn (UInt32.ofNat c) (show i+b.length<os.length by omega);rw[j _ (nR _),UInt32.toNat_ofNat',show c % 2^32=c by omega,show(0:UInt32).toNat=0 from rfl,Nat.mul_zero,Nat.add_zero]at e;rw[e,u,List.take_length,Jqc,Nat.add_mul]
theorem Qfm{z:Nat}(hc:c<4294967296)(hx:x<4294967296)(hy:y<4294967296)(hz:z<4294967296):
  IntKind.u64.wrap ((c:Int)+IntKind.u64.wrap (IntKind.u64.wrap (IntKind.u64.wrap (x:Int)*IntKind.u64.wrap (y:Int))+IntKind.u64.wrap (z:Int)))=((c+(x*y+z):Nat):Int):=by
 have i:=Jbs hx hy;have w:∀ n:Nat,n<18446744073709551616->IntKind.u64.wrap (n:Int)=(n:Int):=λn hn=>by rw[IntKind.wrap_u64];omega
 rw[w x om,w y om,w z om,<-Int.natCast_mul,w _ om,<-Int.natCast_add,w _ om,<-Int.natCast_add,w _ om]
theorem Vg{v u:Value}{w:World}(hv:NatV w v n)(hu:NatV w u m)(hln:(Jj n).length<=1000)(hlm:(Jj m).length<=1000): Ret Tryz.prog 96 [v,u] w λr w'=>NatV w' r (n*m)/\Fresh w r/\Ext w w':=by
 refine Jz Tryz.func96 Tryz.ntmps96 rfl kr rfl ?_;refine ρ ?_;refine cl (Ze hv) ?_;rintro v' w' ⟨⟨A,rfl,ha⟩,rfl⟩;refine ρ ?_;refine cl (Ze hu) ?_;rintro u' G ⟨⟨B,rfl,hb⟩,rfl⟩;generalize hL:(Jj n).length=L at *
 generalize hM:(Jj m).length=M at *
 refine ρ ?_;refine mkn EN (L+M) om (by unfold maxLen;omega) ?_;intro w1 O aa ai hO;have a6:Xm w1 G.heap.size (.slice O (L+M) (L+M)) (List.replicate (L+M) 0):=by
  have e:(madeCells (Value.int .u32 0).cells ((L+M)*1)).toList=Nc (List.replicate (L+M) 0):=by rw[Nat.mul_one,<-Jvh];exact Ye _ _
  grind
 refine ρ ?_;refine Qw (fun (i:Nat) (y:List UInt32)=>[(0,.slice A L L),(1,.slice B M M),(5,.slice O (L+M) (L+M)),(20,.int .i64 (L:Int)),(21,.int .i64 (i:Int))])
  (λi y w2=>i<=L/\Ext G w2/\MulO (Jj n) (Jj m) i y/\Xm w2 G.heap.size (.slice O (L+M) (L+M)) y) (λi _=>L-i) 0 (List.replicate (L+M) 0) sB
  ⟨Nat.zero_le _,aa,by grind [MulO.first],a6⟩ ?_
 rintro i y w2 ⟨hi,a5,hI,a4⟩;refine ρ ?_;refine ci (λh=>?_) (λh=>?_)
 .have li:i<L:=by have:=oT h;omega
  clear h;refine ρ ?_;refine Zy (fun (j c:Nat) (y:List UInt32)=>[(0,.slice A L L),(1,.slice B M M),(5,.slice O (L+M) (L+M)),(6,.int .i64 (i:Int)),(7,.int .u64 (c:Int)),(20,.int .i64 (L:Int)),(21,.int .i64 (i:Int)),(25,.int .i64 (M:Int)),(26,.int .i64 (j:Int))])
   (λj c y w3=>j<=M/\Ext G w3/\MulI (Jj n) (Jj m) i j c y/\Xm w3 G.heap.size (.slice O (L+M) (L+M)) y) (λj _ _=>M-j) 0 0 y sB
   ⟨Nat.zero_le _,a5,hI.start,a4⟩ ?_
  clear hI a4;rintro j c y w3 ⟨hj,Z,hI,J⟩;have D:y.length=L+M:=by rw[hI.len,hL,hM]
  refine ρ ?_;refine ci (λh=>?_) (λh=>?_)
  .have lj:j<M:=by have:=oT h;omega
   clear h;have U:Ext w3 w3.drew:=(Ext.refl w3).drew;have a9:=ha.ext (Z.trans U);have a8:=hb.ext (Z.trans U);have F:=Jv J U;rw[D]at F;have a3:Rd w3.drew 1 O (L+M) (Nc y):=Rd.own F;refine ρ ?_;refine dr [(0,0),(0,1),(0,2),(0,3),(0,4),(0,5),(0,6),(0,7),(0,8),(0,9),(0,10),(0,11),(0,12),(0,13),(0,14),(0,15),(0,16),(0,17),(0,18),(0,19),(0,20),(0,21)] kr ?_;refine ρd ?_;refine dix i a9 li ?_;refine ρd ?_;refine dld (a9.cell (Xv (show i<(Jj n).length by omega))) ?_;refine ρd ?_;refine dix j a8 lj ?_;refine ρd ?_;refine dld (a8.cell (Xv (show j<(Jj m).length by omega))) ?_;refine ρd ?_;refine dix (i+j) a3 om ?_;refine ρd ?_;refine dld (a3.cell (Xv (show i+j<y.length by omega))) ?_;refine ρd ?_;have hx:((Jj n).getD i 0).toNat<4294967296:=((Jj n).getD i 0).toNat_lt;have hy:((Jj m).getD j 0).toNat<4294967296:=((Jj m).getD j 0).toNat_lt;have hz:(y.getD (i+j) 0).toNat<4294967296:=(y.getD (i+j) 0).toNat_lt
   obtain⟨a2,ah⟩:=hI.step (s:=c+(((Jj n).getD i 0).toNat*((Jj m).getD j 0).toNat+(y.getD (i+j) 0).toNat)) om om rfl;have a7:=Qfm hI.small hx hy hz;refine ρ ?_;generalize c+(((Jj n).getD i 0).toNat*((Jj m).getD j 0).toNat+(y.getD (i+j) 0).toNat)=s at *
   refine kv 7 (u:=.int .u64 (s:Int)) (congrArg (Value.int .u64) a7) ?_;refine kv 55 (u:=.int .u32 ((UInt32.ofNat s).toNat:Int)) (congrArg (Value.int .u32) ((congrArg IntKind.u32.wrap a7).trans (Vr s))) ?_;obtain⟨s1,s2,s3,s4,s5⟩:=Zp F (q:=i+j) om (.int .u32 ((UInt32.ofNat s).toNat:Int));refine ρ ?_;refine ix (i+j) a3 om ?_;refine sto (s1.trans (Xv (show i+j<y.length by omega))) s2 ?_;refine ρ ?_;refine Vx rfl rfl (by decide) rfl ?_;refine ρ ?_;refine Xj (j+1) (s / 4294967296) (y.set (i+j) (UInt32.ofNat s)) ?_ ⟨lj,(Z.trans U).setCell s4 _,a2,?_⟩ om
   .rw[Jyg];exact sB
   rw[Xm,List.length_set,D,<-Kp];exact s3
  have ae:j=M:=by grind
  subst ae;clear h;have ac:MulI (Jj n) (Jj m) i (Jj m).length c y:=by rw[hM];exact hI
  have hl:=ac.last (show i<(Jj n).length by omega);have F:=J;rw[Xm,D]at F;obtain⟨s1,s2,s3,s4,s5⟩:=Zp F (q:=i+j) om (.int .u32 ((UInt32.ofNat c).toNat:Int));refine ρ ?_;refine ix (i+j) (Rd.own F) om ?_;rw[Vr];refine sto (s1.trans (Xv (show i+j<y.length by omega))) s2 ?_;refine ρ ?_;rw[hM]at hl;refine Ja (i+1) (y.set (i+j) (UInt32.ofNat c)) sO ⟨li,Z.setCell s4 _,hl,?_⟩ om;rw[Xm,List.length_set,D,<-Kp];exact s3
 have af:i=L:=by grind
 have D:y.length=L+M:=by rw[hI.len,hL,hM]
 have a1:=hI.val;rw[af,List.take_of_length_le om,Zl,Zl]at a1;have J:=a4;rw[Xm,D]at J;have hr:=Rd.own J;refine ρ ?_;rw[<-D]at hr ⊢;refine cl (Gm hr (nR _) om) ?_;rintro t w4 ⟨rfl,rfl⟩;have:=Ik hr om;rw[a1]at this ⊢;refine ρ ?_;exact Jq ⟨this,λad _ _ e=>hO ad (by injection e),a5⟩
open Go.RowKit Pl Go.Wk
variable {l os:List UInt32}{c d k n r x:Nat}{A:Option Addr}{w:World}
theorem Jpl(h0:n≠0)(h:n<4294967296): Jj n=[UInt32.ofNat n]:=by grind [Jwc,limbs_0]
theorem Jdr{cs:List Value}(hr:Rd w 1 A n cs)(h1:∀ u∈cs,u.oneCell'=true)(hb:n*4<=140737488355328):
  Ret Tryz.prog 131 [.slice A n c] w λv w'=>w'.ownsRow w.heap.size 25 1 v n cs/\Ext w w':=by
 refine Jz Tryz.func131 Tryz.ntmps131 rfl kr rfl ?_;refine ρ ?_;refine snil ?_;refine ρ ?_;refine ci (λh=>?_) (λh=>?_)
 .have J:A=none:=by simpa using h
  subst J;have hn:n=0:=by
   rcases Nat.eq_zero_or_pos n with h0|h0
   .exact h0
   obtain⟨Z,O,_⟩:=hr.isome h0 om;cases O
  subst hn;have F:cs=[]:=List.eq_nil_of_length_eq_zero (by rw[hr.len]);subst F;refine ρ ?_;exact Jq ⟨Qo _ _ _ _,Ext.refl w⟩
 refine ρ ?_;refine bsl Qjn ?_;intro w1 b i G D;refine ρ ?_;refine apo i EN (D.own (n:=0) G rfl (Nat.zero_le _)) (hr.ext i) h1 (by unfold maxLen;omega) om ?_;intro U w2 j y _ _;refine ρ ?_;rw[Nat.zero_add,List.nil_append]at j;exact Jq ⟨j,y⟩
theorem Jgq(h:k<l.length): val (l.drop k)=(l.getD k 0).toNat+4294967296*val (l.drop (k+1)):=by grind [List.drop_eq_getElem_cons,val,List.getD,List.getElem?_eq_getElem]
structure DivI(l:List UInt32)(d k r:Nat)(os:List UInt32): Prop where
 len:os.length=l.length
 lt:r<d
 old:∀ j,j<k->os.getD j 0=l.getD j 0
 val:val (l.drop k)=Pl.val (os.drop k)*d+r
theorem DivI.step{s:Nat}(h:DivI l d (k+1) r os)(hk:k<l.length)(hd:d<4294967296)(hs:s=r*4294967296+(l.getD k 0).toNat): DivI l d k (s % d) (os.set k (UInt32.ofNat (s / d)))/\s<18446744073709551616:=by
 obtain⟨Z,U,O,u⟩:=h;have F:(l.getD k 0).toNat<4294967296:=(l.getD k 0).toNat_lt;have i:s<4294967296*d:=by rw[hs];omega
 have G:s / d<4294967296:=Nat.div_lt_of_lt_mul (by grind);refine⟨⟨by grind,Nat.mod_lt _ om,λj J=>by grind,?_⟩,om⟩;rw[Jgq hk,Jgq (l:=os.set k (UInt32.ofNat (s / d))) (k:=k) (by grind),u];have D:(os.set k (UInt32.ofNat (s / d))).getD k 0=UInt32.ofNat (s / d):=by grind
 have y:(os.set k (UInt32.ofNat (s / d))).drop (k+1)=os.drop (k+1):=List.drop_set_of_lt om;rw[D,y,UInt32.toNat_ofNat',Nat.mod_eq_of_lt (show s / d<2^32 by omega)];grind [Nat.div_add_mod,Nat.mul_add,Nat.add_mul,Nat.mul_assoc,Nat.mul_comm]
theorem Qmp(hr:r<4294967296)(hx:x<4294967296): bits .or .u64 (IntKind.u64.wrap ((r:Int)*2^min (32:Int).toNat IntKind.u64.bits)) (IntKind.u64.wrap (x:Int))=((r*4294967296+x:Nat):Int):=by
 have u:(2:Int)^min (32:Int).toNat IntKind.u64.bits=4294967296:=by decide
 have j:IntKind.u64.wrap ((r:Int)*4294967296)=((r*4294967296:Nat):Int):=by rw[IntKind.wrap_u64];omega
 have i:IntKind.u64.wrap (x:Int)=(x:Int):=by rw[IntKind.wrap_u64];omega
 rw[u,j,i,u64_or_nat _ _ om om,nat_join 32 (r*4294967296) x (by simp) om]
theorem Qmq{L base:Nat}(hL:l.length=L)(hLm:L<=1100)(ho:w.ownsRow base 25 1 (.slice A L c) L (Nc l))(h0:0<d)(hd:d<4294967296):
  Ret Tryz.prog 132 [.slice A L c,.int .u32 (d:Int)] w λr w'=>r=.int .u32 ((val l % d:Nat):Int)/\(∃ os:List UInt32,os.length=L/\val os=val l / d/\w'.ownsRow base 25 1 (.slice A L c) L (Nc os))/\w.grownBy w' (Value.slice A L c).ownBlock:=by
 refine Jz Tryz.func132 Tryz.ntmps132 rfl kr rfl ?_;refine ρ ?_;refine Zy (fun (k r:Nat) (os:List UInt32)=>[(0,.slice A L c),(1,.int .u32 (d:Int)),(5,.int .u64 (r:Int)),(6,.int .i64 ((k:Int)-1))])
  (λk r os w1=>k<=L/\DivI l d k r os/\w1.ownsRow base 25 1 (.slice A L c) L (Nc os)/\w.grownBy w1 (Value.slice A L c).ownBlock) (λk _ _=>k) L 0 l sB
  ⟨nR _,⟨rfl,h0,λ_ _=>rfl,by grind [List.drop_of_length_le,val]⟩,ho,Xl (Ext.refl w) _⟩ ?_
 rintro k r os w1 ⟨hk,J,D,G⟩;have Z:os.length=L:=by rw[J.len,hL]
 refine ρ ?_;refine ci (λh=>?_) (λh=>?_)
 .obtain⟨k,rfl⟩:∃ j,k=j+1:=⟨k-1,by grind⟩;clear h;obtain⟨s,hs⟩:∃ s,s=r*4294967296+(l.getD k 0).toNat:=⟨_,rfl⟩;obtain⟨i,a2⟩:=J.step om hd hs;have hx:(l.getD k 0).toNat<4294967296:=(l.getD k 0).toNat_lt;have a3:=J.lt;have y:Rd w1 1 A L (Nc os):=Rd.own D;have F:=J.old k om;refine ρ ?_;refine wshl rfl rfl (by decide) rfl ?_;refine ρ ?_;refine ix k y om ?_;refine ρ ?_;refine ld (y.cell (Xv (show k<os.length by omega))) ?_;rw[F];refine ρ ?_;have O:bits .or .u64 (IntKind.u64.wrap ((r:Int)*2^min (32:Int).toNat IntKind.u64.bits)) (IntKind.u64.wrap ((l.getD k 0).toNat:Int))=(s:Int):=by grind [Qmp]
  refine kv 5 (u:=.int .u64 (s:Int)) (congrArg (Value.int .u64) O) ?_;refine kv 24 (u:=.int .u64 (s:Int)) (congrArg (Value.int .u64) O) ?_;have ed:IntKind.u64.wrap (d:Int)=(d:Int):=by rw[IntKind.wrap_u64];omega
  refine kv 26 (u:=.int .u64 (d:Int)) (congrArg (Value.int .u64) ed) ?_;refine Jjz rfl rfl om rfl ?_;have hq:s / d<=s:=Nat.div_le_self _ _;have e2:IntKind.u32.wrap (IntKind.u64.wrap ((s:Int).tdiv d))=((UInt32.ofNat (s / d)).toNat:Int):=by grind [Yp,Vr]
  obtain⟨s1,s2,s3,s4,s5⟩:=Zp D (q:=k) om (.int .u32 ((UInt32.ofNat (s / d)).toNat:Int));refine ρ ?_;refine ix k y om ?_;rw[e2];refine sto (s1.trans (Xv (show k<os.length by omega))) s2 ?_;refine ρ ?_;refine kv 32 (u:=.int .u64 (d:Int)) (congrArg (Value.int .u64) ed) ?_;refine Jjx rfl rfl om rfl ?_;refine ρ ?_;refine Xj k (s % d) (os.set k (UInt32.ofNat (s / d))) ?_ ⟨om,i,?_,Xb G s5⟩ om
  .have e3:(s:Int).tmod d=((s % d:Nat):Int):=rfl;rw[e3];exact sO
  rw[<-Kp];exact s3
 have a1:k=0:=by have:=oF h;omega
 subst a1;obtain⟨i1,i2,_,U⟩:=J;rw[List.drop_zero,List.drop_zero]at U;have hm:r=val l % d:=by rw[U,Nat.add_comm,Nat.add_mul_mod_self_right,Nat.mod_eq_of_lt i2]
 have hv:val os=val l / d:=by
  rw[U,Nat.add_comm,Nat.add_mul_div_right _ _ h0,Nat.div_eq_of_lt i2,Nat.zero_add]
 refine ρ ?_;refine Jq ⟨?_,⟨os,Z,hv,D⟩,G⟩;rw[Vr,UInt32.toNat_ofNat',Nat.mod_eq_of_lt (show r<2^32 by omega),hm]
end Go.Proofs.YtebiphhfkdbpfaaGreat
namespace Go.Wk
end Go.Wk
namespace Go.Proofs.YtebiphhfkdbpfaaGreat
open Go.RowKit Pl Go.Wk
attribute [local irreducible] WC WL QX WD WDB WP WN WG
variable {m n:Nat}{N N':Nat->Prop}{v:Value}{w w':World}
theorem Jpm(h:0<(Jj n).length): n≠0:=by grind [limbs_0]
def NatX(N:Nat->Prop)(w:World)(v:Value)(n:Nat): Prop:=NatV w v n/\(n≠0->∀ ad m c,v=.slice (some ad) m c->¬ N ad.block)
theorem NatX.ext{N:Nat->Prop}{w w':World}{v:Value}{n:Nat}(h:NatX N w v n)(hx:Ext w w'): NatX N w' v n:=⟨h.1.ext hx,h.2⟩
theorem NatX.gr(h:NatX N w v n)(hg:GrN N w w'): NatX N w' v n:=by
 obtain⟨⟨A,c,rfl,y,u,j⟩,i⟩:=h;exact⟨⟨A,c,rfl,y,u,Zm j hg (λh0 D e=>i (Jpm (by grind [Qsz])) D _ _ (by rw[e]))⟩,i⟩
theorem NatX.nil{N:Nat->Prop}(w:World): NatX N w (.slice none 0 0) 0:=⟨NatV.nil w,λ_ i m c e=>by cases e⟩
theorem limbs_pos'(h:n≠0): 0<(Jj n).length:=by rw[Jwc h];simp
theorem NatX.old(h:NatX N w v n)(hs:∀ k,N' k->N k∨w.heap.size<=k): NatX N' w v n:=⟨h.1,λh0 j m c e i=>by
 rcases hs _ i with h1|h1
 .exact h.2 h0 j m c e h1
 obtain⟨A,D,y,_,_,u⟩:=h.1;grind [Rd.isome,limbs_pos']⟩
theorem Fresh.x(h:Fresh w v)(hn:NatV w' v n)(hN:∀ k,N k->k<w.heap.size): NatX N w' v n :=
 ⟨hn,λ_ j m c e i=>by have:=h j m c e;have:=hN _ i;omega⟩
theorem Jnp(hv:NatV w v n)(hs:(Jj n).length<=1000): Ret Tryz.prog 103 [v] w λr w'=>NatV w' r n/\Fresh w r/\Ext w w':=by
 refine Jz Tryz.func103 Tryz.ntmps103 rfl kr rfl ?_;refine ρ ?_;refine cl (Ze hv) ?_;rintro j w' ⟨⟨A,rfl,F⟩,rfl⟩;refine ρ ?_;refine cl (Jdr F (Jvj _) om) ?_;rintro j w1 ⟨i,u⟩;obtain⟨O,G,rfl,D,y⟩:=Jy i;refine ρ ?_;refine Jq ⟨⟨O,G,rfl,D,om,Rd.own i⟩,λJ m c e=>?_,u⟩;injection e with e1 e2 e3
 subst e1;exact(y J.block rfl).1
theorem Qjx: ∃ k:Nat,k=900:=⟨_,rfl⟩
noncomputable def bK: Nat:=Classical.choose Qjx
theorem bK_eq: bK=900:=Classical.choose_spec Qjx
def Nb(n:Nat): Prop:=n<4294967296^bK
theorem Nb.len(h:Nb n): (Jj n).length<=1000:=by
 rcases Nat.eq_zero_or_pos n with h0|h0
 .rw[h0,limbs_0];simp
 have i:=Jwd (n:=n) om;rcases Nat.lt_or_ge bK ((Jj n).length-1) with h2|h2
 .exact absurd (nM h (nL (Nat.pow_le_pow_right (by decide) (Nat.le_of_lt h2)) i)) (Nat.lt_irrefl _)
 rw[bK_eq]at h2;omega
theorem Nb.le(h:Nb n)(hm:m<=n): Nb m:=nN hm h
structure NatsV(w:World)(A:Option Addr)(us:List Value)(ns:List Nat): Prop where
 rd:Rd w 1 A us.length us
 len:us.length=ns.length
 nat:∀ i,i<ns.length->NatV w (us.getD i (.int .i64 0)) (ns.getD i 0)
end Go.Proofs.YtebiphhfkdbpfaaGreat
namespace Go.Wk
open Go.RowKit
variable {cs xs:List Value}{b base c d dT e j m n sT sc t ty:Nat}{N N':Nat->Prop}{x y:Operand}{A B:Option Addr}{k:TK}{α:Type}{E:TypeId}{u v v' z:Value}{w w':World}
section
variable {α:Type} {E:TypeId} {sz:Nat} {Φ:(Nat->Prop)->World->List Value->α->Prop} {N N' M:Nat->Prop} {w w':World} {base:Nat} {v:Value} {ls:List α}
structure Sta(Φ:(Nat->Prop)->World->List Value->α->Prop): Prop where
 gr:∀ {N w w' cs a},Φ N w cs a->GrN N w w'->Φ N w' cs a
 old:∀ {N N':Nat->Prop} {w cs a},Φ N w cs a->(∀ k,N' k->N k∨w.heap.size<=k)->Φ N' w cs a
def GX(sz:Nat)(Φ:(Nat->Prop)->World->List Value->α->Prop)(N:Nat->Prop)(w:World)(v:Value)(ls:List α): Prop :=
 GV sz (Φ N) w v ls/\(ls≠[]->∀ ad m c,v=.slice (some ad) m c->¬ N ad.block)
def OX(E:TypeId)(sz:Nat)(Φ:(Nat->Prop)->World->List Value->α->Prop)(N:Nat->Prop)(w:World)(base:Nat)(v:Value)(ls:List α): Prop :=
 ∃ ps:List (List Value×α),ls=ps.map (·.2)/\w.ownsRow base E sz v ps.length (Jd ps)/\∀ p∈ps,p.1.length=sz/\Φ N w p.1 p.2
theorem GX.gr(h:GX sz Φ N w v ls)(hΦ:Sta Φ)(hs:0<sz)(hg:GrN N w w'): GX sz Φ N w' v ls:=by
 obtain⟨⟨ps,A,c,e,y,J,G,i,j⟩,hn⟩:=h;refine⟨⟨ps,A,c,e,y,J,G,Zm i hg λh0 O F=>hn ?_ O ps.length c (by rw[y,F]),λp u=>⟨(j p u).1,hΦ.gr (j p u).2 hg⟩⟩,hn⟩;intro D;rw[i.len]at h0;have:ps.length=0:=by
  have:=congrArg List.length e;rw[D,List.length_map]at this;exact this.symm
 rw[this]at h0;omega
theorem GX.ext(h:GX sz Φ N w v ls)(hΦ:Sta Φ)(hs:0<sz)(hx:Ext w w'): GX sz Φ N w' v ls:=h.gr hΦ hs (GrN.ext hx)
theorem GX.old(h:GX sz Φ N w v ls)(hΦ:Sta Φ)(hs:0<sz)(hN:∀ k,N' k->N k∨w.heap.size<=k): GX sz Φ N' w v ls:=by
 obtain⟨⟨ps,A,c,e,y,O,J,i,j⟩,hn⟩:=h;refine⟨⟨ps,A,c,e,y,O,J,i,λp u=>⟨(j p u).1,hΦ.old (j p u).2 hN⟩⟩,λh0 ad m U ev F=>?_⟩;rcases hN _ F with h1|h1
 .exact hn h0 ad m U ev h1
 have D:0<ps.length:=by
  rcases Nat.eq_zero_or_pos ps.length with h2|h2
  .exact absurd (by rw[e,List.eq_nil_of_length_eq_zero h2];rfl) h0
  exact h2
 obtain⟨Z,G,hb⟩:=i.isome D hs;rw[y,G]at ev;injection ev with ev _ _
 injection ev with ev
 subst ev;omega
theorem GX.gv(h:GX sz Φ N w v ls): GV sz (Φ N) w v ls:=h.1
theorem OX.nil(w:World)(base:Nat): OX E sz Φ N w base (.slice none 0 0) []:=⟨[],rfl,Qo _ _ _ _,λp i=>by cases i⟩
theorem OX.form(h:OX E sz Φ N w base v ls): ∃ A c,v=.slice A ls.length c/\ls.length<=c/\∀ g,v.ownBlock=some g->base<=g/\g<w.heap.size:=by
 obtain⟨ps,e,i,y⟩:=h;obtain⟨A,c,u,D,j⟩:=Jy i;have:ls.length=ps.length:=by rw[e,List.length_map]
 exact⟨A,c,by rw[this];exact u,om,j⟩
theorem OX.gr(h:OX E sz Φ N w base v ls)(hΦ:Sta Φ)(hg:GrN M w w')(hM:∀ k,M k->N k/\v.ownBlock≠some k): OX E sz Φ N w' base v ls:=by
 obtain⟨ps,e,u,i⟩:=h;exact⟨ps,e,Qj u hg λg D hn=>(hM g hn).2 D,λp j=>⟨(i p j).1,hΦ.gr (i p j).2 (hg.mono λk _ y=>(hM k y).1)⟩⟩
theorem OX.ext(h:OX E sz Φ N w base v ls)(hΦ:Sta Φ)(hx:Ext w w'): OX E sz Φ N w' base v ls:=h.gr (M:=λ_=>False) hΦ (GrN.ext hx) λk e=>e.elim
theorem OX.old(h:OX E sz Φ N w base v ls)(hΦ:Sta Φ)(hN:∀ k,N' k->N k∨w.heap.size<=k): OX E sz Φ N' w base v ls:=by
 obtain⟨ps,e,u,i⟩:=h;exact⟨ps,e,u,λp j=>⟨(i p j).1,hΦ.old (i p j).2 hN⟩⟩
theorem OX.gx(h:OX E sz Φ N w base v ls)(hΦ:Sta Φ)(hm:ls.length<=1100000)(hN:∀ k,N' k->N k/\v.ownBlock≠some k): GX sz Φ N' w v ls:=by
 obtain⟨ps,e,y,u⟩:=h;have G:ls.length=ps.length:=by rw[e,List.length_map]
 obtain⟨A,c,F,D,J⟩:=Jy y;subst F;exact⟨⟨ps,A,c,e,rfl,D,om,Rd.own y,λp i=>⟨(u p i).1,hΦ.old (u p i).2 λk j=>.inl (hN k j).1⟩⟩,λ_ U m O ev j=>(hN _ j).2 (by rw[ev];rfl)⟩
theorem OX.after{ps:List (List Value×α)}(hΦ:Sta Φ)(e:ls=ps.map (·.2))(hp:∀ p∈ps,p.1.length=sz/\Φ N w p.1 p.2){w':World}{x:α}(hl:cs.length=sz)(hx:Φ N w cs x)(ho:w'.ownsRow base E sz v' (ps.length+1) (Jd ps++cs))(hg:w.grownBy w' v.ownBlock)(hv:∀ g,v.ownBlock=some g->N g): OX E sz Φ N w' base v' (ls++[x]):=by
 have i:GrN N w w':=GrN.by hg hv
 refine⟨ps++[(cs,x)],by rw[e];simp,?_,λp j=>?_⟩
 .have u:Jd (ps++[(cs,x)])=Jd ps++cs:=by simp[Jd]
  rw[List.length_append,u];exact ho
 rcases List.mem_append.1 j with h'|h'
 .exact⟨(hp p h').1,hΦ.gr (hp p h').2 i⟩
 rw[List.mem_singleton.1 h'];exact⟨hl,hΦ.gr hx i⟩
end
theorem apX{P:Program}{al:AL}{Q:Exit->Act->World->Prop}{ops:Array Oper}{rest:List Oper}{pos:String}{aft:Array Edge}{E sz bytes:Nat}(hE:ElT P t E sz bytes z){Φ:(Nat->Prop)->World->List Value->α->Prop}(hΦ:Sta Φ){ls:List α}{a:α}(ho:OX E sz Φ N w base v ls)(hb:Blk w b E cs)(hl:cs.length=sz)(h1:∀ u∈cs,u.oneCell'=true)(hx':Φ N w cs a)(hv:∀ g,v.ownBlock=some g->N g)(hm:ls.length<=1100000)(hby:bytes<=64)(hbase:base<=w.heap.size)(kk:∀ v' w',OX E sz Φ N w' base v' (ls++[a])->w.grownBy w' v.ownBlock->(∀ g,v'.ownBlock=some g->v.ownBlock=some g∨w.heap.size<=g)->WL P n ops Q rest ((d,v')::al) w')(hx:ev al x=some v:=by rfl)(hy:ev al y=some (.slice (some ⟨b,0,none⟩) 1 1):=by rfl)(hd:Nat.blt d n=true:=by rfl):
  WL P n ops Q (⟨some d,.call { callee:=.builtin .append,args:=#[x,y],argTypes:=#[t,t] },ty,pos,aft,none⟩::rest) al w:=by
 obtain⟨ps,e,F,G⟩:=ho;have j:ps.length<=1100000:=by
  have:=congrArg List.length e;rw[List.length_map]at this;omega
 have J:(ps.length+1)*bytes<=1100001*64:=Nat.mul_le_mul om hby;refine apb hE F (hb.rd (n:=1) om) h1 (by unfold maxLen;omega) om hbase ?_ hx hy hd;intro v' w' i D hn;exact kk v' w' (OX.after hΦ e G hl hx' i D hv) D hn
theorem Jrx{α:Type}{sz:Nat}{q:List Value×α}: ∀ {ps:List (List Value×α)} {j:Nat},(∀ p∈ps,p.1.length=sz)->j<ps.length->(Jd ps).take (j*sz)++q.1++(Jd ps).drop (j*sz+sz)=Jd (ps.set j q)
 | [],_,_,h=>by simp at h
 | p::ps,0,h,_=>by
  have hp:=h p (by simp);have e:Jd (p::ps)=p.1++Jd ps:=rfl;have e2:Jd ((p::ps).set 0 q)=q.1++Jd ps:=rfl;rw[e,e2,Nat.zero_mul,Nat.zero_add,List.take_zero,List.nil_append,List.drop_append,List.drop_of_length_le om,List.nil_append,hp,Nat.sub_self,List.drop_zero]
 | p::ps,j+1,h,hj=>by
  have hp:=h p (by simp);have ih:=Jrx (q:=q) (ps:=ps) (j:=j) (λx hx=>h x (by simp[hx])) (by simpa using hj);have e:Jd (p::ps)=p.1++Jd ps:=rfl;have e2:Jd ((p::ps).set (j+1) q)=p.1++Jd (ps.set j q):=rfl;rw[e,e2,<-ih,Nat.succ_mul,List.take_append,List.take_of_length_le om,List.drop_append,List.drop_of_length_le om,List.nil_append,hp,show j*sz+sz-sz=j*sz by omega,show j*sz+sz+sz-sz=j*sz+sz by omega];simp
theorem OX.put{sz:Nat}{Φ:(Nat->Prop)->World->List Value->α->Prop}{ps:List (List Value×α)}{a:α}(hΦ:Sta Φ)(hp:∀ p∈ps,p.1.length=sz/\Φ N w p.1 p.2)(hj:j<ps.length)(hl:cs.length=sz)(hx:Φ N w cs a)(ho:w'.ownsRow base E sz v ps.length ((Jd ps).take (j*sz)++cs++(Jd ps).drop (j*sz+sz)))(hg:w.grownBy w' v.ownBlock)(hv:∀ g,v.ownBlock=some g->N g): OX E sz Φ N w' base v ((ps.map (·.2)).set j a):=by
 have i:GrN N w w':=GrN.by hg hv
 rw[Jrx (q:=(cs,a)) (λp u=>(hp p u).1) hj]at ho;refine⟨ps.set j (cs,a),by simp[List.map_set],by rw[List.length_set];exact ho,λp u=>?_⟩;rcases List.mem_or_eq_of_mem_set u with h'|h'
 .exact⟨(hp p h').1,hΦ.gr (hp p h').2 i⟩
 rw[h'];exact⟨hl,hΦ.gr hx i⟩
section
variable {P:Program} {n:Nat} {al:AL} {w:World} {Q:Exit->Act->World->Prop} {ops:Array Oper} {rest:List Oper}
variable {d ty:Nat} {op:Op} {pos:String} {aft:Array Edge} {tt:TT}
theorem stX[h:Tab P tt]{sz:Nat}{Φ:(Nat->Prop)->World->List Value->α->Prop}(hΦ:Sta Φ){ls:List α}{a:α}(ho:OX e sz Φ N w base (.slice A m c) ls)(hm:m=ls.length)(hj:j<ls.length)(hx':Φ N w cs a)(hv:∀ g,(Value.slice A m c).ownBlock=some g->N g)(h1:∀ u∈cs,u.oneCell'=true)(kk:∀ w1,OX e sz Φ N w1 base (.slice A m c) (ls.set j a)->w.grownBy w1 (Value.slice A m c).ownBlock->WL P n ops Q rest al w1)(ht:tk tt t=some k:=by rfl)(hk:k.desc=.invalid:=by rfl)(hs:k.size=sz:=by rfl)(hl:cs.length=sz:=by rfl)(hx:ev al x=some (.pointer (some (adr A (j*sz)))):=by rfl)(hy:ev al y=some (.agg cs.toArray):=by rfl):
  WL P n ops Q (⟨none,.store t x y,ty,pos,aft,none⟩::rest) al w:=by
 obtain⟨ps,O,G,U⟩:=ho;have J:ls.length=ps.length:=by rw[O,List.length_map]
 have F:m=ps.length:=om
 rw[<-F]at G;refine stoE G om (λw1 D i=>kk w1 ?_ i) h1 ht hk hs hl hx hy;rw[O];rw[F]at D i hv ⊢;exact OX.put hΦ U om hl hx' D i hv
theorem stX1[h:Tab P tt]{Φ:(Nat->Prop)->World->List Value->α->Prop}(hΦ:Sta Φ){ls:List α}{a:α}(ho:OX e 1 Φ N w base (.slice A m c) ls)(hm:m=ls.length)(hj:j<ls.length)(hx':Φ N w [u] a)(hv:∀ g,(Value.slice A m c).ownBlock=some g->N g)(h1:u.oneCell'=true)(kk:∀ w1,OX e 1 Φ N w1 base (.slice A m c) (ls.set j a)->w.grownBy w1 (Value.slice A m c).ownBlock->WL P n ops Q rest al w1)(ht:tk tt t=some k:=by rfl)(hk:k.size=1:=by rfl)(hp':Zb k.desc=true:=by rfl)(hx:ev al x=some (.pointer (some (adr A j))):=by rfl)(hy:ev al y=some u:=by rfl):
  WL P n ops Q (⟨none,.store t x y,ty,pos,aft,none⟩::rest) al w:=by
 obtain⟨ps,e1,U,Z⟩:=ho;have a1:ls.length=ps.length:=by rw[e1,List.length_map]
 have D:m=ps.length:=om
 rw[<-D]at U;obtain⟨s1,s2,G,s4,F⟩:=Zp U (q:=j) om u;have a2:(Jd ps).length=ps.length*1:=Jrz λp hm=>(Z p hm).1;obtain⟨O,J⟩:∃ O,(Jd ps)[j]?=some O:=⟨_,List.getElem?_eq_getElem om⟩;refine sto (s1.trans J) s2 (kk _ ?_ F) ht hk hp' hx hy h1;have i:(Jd ps).set j u=(Jd ps).take (j*1)++[u]++(Jd ps).drop (j*1+1):=by
  rw[Nat.mul_one,List.set_eq_take_append_cons_drop,if_pos om];simp
 rw[i]at G;rw[e1];rw[D]at G F hv ⊢;exact OX.put hΦ Z om rfl hx' G F hv
theorem Qvd(w:World)(dT sT ty elem:TypeId)(g dLen dCap:Nat)(a:Addr)(sCap sz:Nat)(cur:Array Value)(t:TypeId)(cs:List Value)(hu:P.underlying dT=some (.slice elem))(hs:(P.info? elem).map (·.size)=some sz)(hg:w.heap[g]?=some (.cells cur t (0,0)))(hn:cs.length=dLen*sz)(hsrc:∀ j v,cs[j]?=some v->w.cell? (a.add j)=some v)(hfit:cs.length<=cur.size)(h1:∀ v∈cs,v.oneCell'=true):
  (Builtin.copy_ #[dT,sT] ty #[.slice (some ⟨g,0,none⟩) dLen dCap,.slice (some a) dLen sCap]).run P w =
   .ok (goInt dLen) (w.setRow g (cs++cur.toList.drop cs.length).toArray):=by
 have y:=run_loadCells_list (P:=P) w a cs hsrc;have u:=run_storeCells_at (P:=P) g 0 t cs 0 cur w hg (by simpa using hfit) h1;simp only[Nat.add_zero,Nat.zero_add,List.take_zero,List.nil_append]at u;cases hq:P.info? elem with
 | none=>simp[hq]at hs
 | some i=>
  have hi:i.size=sz:=by simpa [hq] using hs
  simp[Builtin.copy_,run_underlying hu,Builtin.lenOf,Builtin.firstCells,sizeOf,typeInfo,hq,hi,<-hn,y,u]
theorem cpO[h:Tab P tt]{sz:Nat}(ho:w.ownsRow base e sz (.slice A m c) m cs)(hr:Rd w sz B m xs)(h0:0<m)(hsz:0<sz)(h1:∀ u∈xs,u.oneCell'=true)(kk:∀ w1,w1.ownsRow base e sz (.slice A m c) m xs->w.grownBy w1 (Value.slice A m c).ownBlock->WL P n ops Q rest ((d,.int .i64 (m:Int))::al) w1)(ht:tk tt dT=some k:=by rfl)(hk:k.desc=.slice e:=by rfl)(hz:k.esz=sz:=by rfl)(hx:ev al x=some (.slice A m c):=by rfl)(hy:ev al y=some (.slice B m sc):=by rfl)(hd:Nat.blt d n=true:=by rfl):
  WL P n ops Q (⟨some d,.call { callee:=.builtin .copy,args:=#[x,y],argTypes:=#[dT,sT] },ty,pos,aft,none⟩::rest) al w:=by
 have G:=Gq h.ok ht hk hz;rcases ho.2 with⟨_,h2⟩|⟨g,cap,cur,hv,hb,hg,hc,hcm,hcs,hcur⟩
 .omega
 injection hv with e1 _ e3
 subst e1;subst e3;have i:=hr.len;obtain⟨ad,Z,U,j⟩:=hr.2 (by rw[i];exact Nat.mul_pos h0 hsz);subst Z;have O:m*sz<=c*sz:=nO _ hc;have F:(P.info? e).map (·.size)=some sz:=G.2
 have D:=λty=>Qvd (P:=P) w dT sT ty e g m c ad sc sz cur e xs G.1 F hg i j om h1;refine wop (w':=w.setRow g (xs++cur.toList.drop xs.length).toArray) hd (λa J=>?_) (kk _ ⟨i,.inr ⟨g,c,_,rfl,hb,setRow_heap w g cur _ e (0,0) hg,hc,hcm,?_,?_⟩⟩ (Jjj w g _))
 .simp[execOp,resolve,invoke,builtin,J.ev hx,J.ev hy,D,goInt]
 .simp;omega
 rw[List.take_append,List.take_of_length_le om];simp[i]
theorem cpX[h:Tab P tt]{sz:Nat}{Φ:(Nat->Prop)->World->List Value->α->Prop}(hΦ:Sta Φ){l0 ls:List α}(ho:OX e sz Φ N' w base (.slice A m c) l0)(hl0:l0.length=m)(hs:GX sz Φ N w (.slice B m sc) ls)(h0:0<m)(hsz:0<sz)(hN:∀ cs a,Φ N w cs a->Φ N' w cs a)(h1:∀ cs a,Φ N w cs a->∀ u∈cs,u.oneCell'=true)(hv:∀ g,(Value.slice A m c).ownBlock=some g->N' g)(kk:∀ w1,OX e sz Φ N' w1 base (.slice A m c) ls->w.grownBy w1 (Value.slice A m c).ownBlock->WL P n ops Q rest ((d,.int .i64 (m:Int))::al) w1)(ht:tk tt dT=some k:=by rfl)(hk:k.desc=.slice e:=by rfl)(hz:k.esz=sz:=by rfl)(hx:ev al x=some (.slice A m c):=by rfl)(hy:ev al y=some (.slice B m sc):=by rfl)(hd:Nat.blt d n=true:=by rfl):
  WL P n ops Q (⟨some d,.call { callee:=.builtin .copy,args:=#[x,y],argTypes:=#[dT,sT] },ty,pos,aft,none⟩::rest) al w:=by
 obtain⟨F,e0,i,a1⟩:=ho;obtain⟨⟨ps,A',c',e1,e2,e3,e4,Z,J⟩,_⟩:=hs;have U:F.length=m:=by rw[<-hl0,e0,List.length_map]
 injection e2 with e5 e6 e7
 subst e5;rw[U]at i;rw[<-e6]at Z;refine cpO i Z h0 hsz (λu hu=>?_) (λw1 O j=>kk w1 ⟨ps,e1,by rw[<-e6];exact O,λp D=>⟨(J p D).1,hΦ.gr (hN _ _ (J p D).2) (GrN.by j hv)⟩⟩ j) ht hk hz hx hy hd;obtain⟨p,D,G⟩:=List.mem_flatMap.1 hu;exact h1 _ _ (J p D).2 u G
theorem GX.el{sz:Nat}{Φ:(Nat->Prop)->World->List Value->α->Prop}{w:World}{ls:List α}(h:GX sz Φ N w v ls): ∃ A c cs,v=.slice A ls.length c/\ls.length<=c/\ls.length<=1100000/\Rd w sz A ls.length cs/\(0<ls.length->0<sz->∃ ad,A=some ad/\¬ N ad.block)/\∀ i (hi:i<ls.length),∃ ce,ce.length=sz/\Φ N w ce ls[i]/\∀ j u,ce[j]?=some u->w.cell? ((adr A (i*sz)).add j)=some u:=by
 obtain⟨A,c,cs,F,U,O,y,J⟩:=h.1.parts;refine⟨A,c,cs,F,U,O,y,λh0 G=>?_,J⟩;obtain⟨ad,D,_⟩:=y.isome h0 G;exact⟨ad,D,h.2 (λe=>by rw[e]at h0;simp at h0) ad ls.length c (by rw[F,D])⟩
theorem OX.el{sz:Nat}{Φ:(Nat->Prop)->World->List Value->α->Prop}{w:World}{ls:List α}(h:OX E sz Φ N w base v ls): ∃ A c cs,v=.slice A ls.length c/\ls.length<=c/\Rd w sz A ls.length cs/\∀ i (hi:i<ls.length),∃ ce,ce.length=sz/\Φ N w ce ls[i]/\∀ j u,ce[j]?=some u->w.cell? ((adr A (i*sz)).add j)=some u:=by
 obtain⟨ps,e,G,O⟩:=h;subst e;obtain⟨A,c,e1,Z,e3⟩:=Jy G;subst e1;have y:(ps.map λx=>x.2).length=ps.length:=List.length_map ..;refine⟨A,c,Jd ps,by rw[y],by rw[y];exact Z,by rw[y];exact Rd.own G,λi hi=>?_⟩;have hi:i<ps.length:=by rw[<-y];exact hi
 have J:=O ps[i] (List.getElem_mem hi);refine⟨ps[i].1,J.1,by simpa using J.2,λj u D=>?_⟩;have U:j<sz:=by
  rw[<-J.1];rcases Nat.lt_or_ge j ps[i].1.length with h|h
  .exact h
  rw[List.getElem?_eq_none h]at D;cases D
 rw[Kn];exact(Rd.own G).cell ((Jcs (λp F=>(O p F).1) (gE hi) U).trans D)
end
end Go.Wk
namespace Go.Wk
open Go.RowKit
variable {ds:List Nat}{l:List Oper}{b d i k t:Nat}{T:Nat->Bool}{v:Value}{w w' w0:World}
structure SF where
 p: Value->World->Prop
 st:∀ {v:Value} {w w':World},p v w->Ext w w'->p v w'
def SF.bk{cs:List Value}(h:Blk w b t cs): SF:=⟨λv _=>v=.agg cs.toArray,λh _=>h⟩
def SF.eq(c:Value): SF:=⟨λv _=>v=c,λh _=>h⟩
def Jjn(o:Oper)(k:Nat): Bool:=o.after.any λe=>Region.binds .any e && e.on == k
def accB(l:List Oper): Bool:=(List.range l.length).all λi=>match nth l i with
 | some o=>o.after.all λe=>!Region.binds .any e || Nat.blt e.on i
 | none=>true
def slM(vs:Nat->Value)(al:AL): List Nat->Nat->AL
 | [],_=>al
 | d::r,i=>(d,vs i)::slM vs al r (i+1)
theorem Ky{vs:Nat->Value}{al:AL}{t:Nat}: ∀ {ds:List Nat} {i:Nat},t ∉ ds->lk (slM vs al ds i) t=lk al t
 | [],_,_=>rfl
 | d::r,i,h=>by
  unfold slM;rw[Yf _ _ (λe=>h (by grind))];exact Ky λh'=>h (List.mem_cons_of_mem _ h')
theorem Ua{vs:Nat->Value}{al:AL}: ∀ {ds:List Nat} {i j:Nat},ds.Nodup->j<ds.length->lk (slM vs al ds i) (ds.getD j 0)=some (vs (i+j))
 | [],_,_,_,h=>by simp at h
 | d::r,i,0,_,_=>by unfold slM;simp[Kb]
 | d::r,i,j+1,hn,hj=>by
  have hn':=List.nodup_cons.1 hn;have hj':j<r.length:=by simpa using hj
  unfold slM;have e:(d::r).getD (j+1) 0=r.getD j 0:=by simp
  rw[e];have hm:r.getD j 0∈r:=by grind
  rw[Yf _ _ (λe=>hn'.1 (by rw[e];exact hm)),Ua hn'.2 hj'];congr 2;omega
theorem mem_getD(h:t∈ds): ∃ j,j<ds.length/\ds.getD j 0=t:=by
 obtain⟨j,i,e⟩:=List.getElem_of_mem h;exact⟨j,i,by grind⟩
section
variable {P:Program} {n:Nat} {al:AL} {w:World} {Q:Exit->Act->World->Prop} {ops:Array Oper}
def toM(G:Act->World->Prop): Exit->Act->World->Prop
 | .normal,a,w=>G a w
 | _,_,_=>False
theorem Jvn{o:Oper}{G:Act->World->Prop}(ho:ops[i]?=some o)(h:WL P n ops (toM G) [o] al w): ∀ a,Fr n al a->wpOp P ops (QF Q) i G a w:=λa y=>by
 have j:=h a y;unfold wpList at j;unfold wpOp;simp only[ho];have u:¬ LetsOut (toM G):=by rintro⟨a,w,h⟩;exact h
 split
 .rename_i hw;simp only[hw,if_true]at j;rcases j with j|⟨_,j⟩
  .left
   refine Oper.wp_mono (K:=wpList P ops (toM G) []) (λF w' D=>D) ?_;unfold Oper.wp at j ⊢;grind [Yy,toM]
  exact absurd j u
 rename_i hw;simp only[hw]at j;exact j
def PM(n:Nat)(al:AL)(w:World)(d:Nat)(F:SF)(a:Act)(w':World): Prop:=∃ v,Fr n ((d,v)::al) a/\Ext w w'/\F.p v w'
theorem Xk{F:SF}(hx:Ext w w')(h:F.p v w'): QX n (toM (PM n al w d F)) .normal ((d,v)::al) w':=λa i=>⟨v,i,hx,h⟩
def fiM(Fs:List SF)(k:Nat)(v:Value)(w:World): Prop:=(Fs.getD k ⟨λ_ _=>True,λ_ _=>trivial⟩).p v w
theorem fiM.ext{Fs:List SF}{w:World}(h:fiM Fs k v w)(hx:Ext w w'): fiM Fs k v w':=SF.st _ h hx
def OpM(P:Program)(n:Nat)(ops:Array Oper)(al:AL)(w0:World)(ds:List Nat)(Fs:List SF)(i:Nat)(o:Oper): Prop :=
 ∀ vs w1,Ext w0 w1->(∀ k,Jjn o k=true->fiM Fs k (vs k) w1)->WL P n ops (toM (PM n (slM vs al ds 0) w1 (ds.getD i 0) (Fs.getD i ⟨λ_ _=>True,λ_ _=>trivial⟩))) [o] (slM vs al ds 0) w1
def GoM(P:Program)(n:Nat)(ops:Array Oper)(al:AL)(w0:World)(ds:List Nat)(Fs:List SF): Nat->Nat->List Oper->Prop
 | 0,_,_=>True
 | _+1,_,[]=>True
 | m+1,i,o::r=>OpM P n ops al w0 ds Fs i o/\GoM P n ops al w0 ds Fs m (i+1) r
theorem GoM.get{w0:World}{ds:List Nat}{Fs:List SF}: ∀ {l:List Oper} {m s i:Nat} {o:Oper},GoM P n ops al w0 ds Fs m s l->i<m->l[i]?=some o->OpM P n ops al w0 ds Fs (s+i) o
 | [],_,_,_,_,_,_,h=>by simp at h
 | x::r,0,_,_,_,_,h0,_=>by omega
 | x::r,m+1,s,0,o,h,_,e=>by
  simp only[List.getElem?_cons_zero,Option.some.injEq]at e;subst e;exact h.1
 | x::r,m+1,s,i+1,o,h,h0,e=>by
  have:=GoM.get h.2 (by omega:i<m) (by simpa using e);grind
def ndB: List Nat->Bool
 | []=>true
 | d::r=>!(r.any λx=>Nat.beq d x) && ndB r
theorem Jjb: ∀ {ds:List Nat},ndB ds=true->ds.Nodup
 | [],_=>List.nodup_nil
 | d::r,h=>by
  simp only[ndB,Bool.and_eq_true,Bool.not_eq_true']at h;refine List.nodup_cons.2 ⟨λhm=>?_,Jjb h.2⟩;have:=List.any_eq_false.1 h.1 d hm;simp at this
def behB(ops:Array Oper)(F m q:Nat): Bool:=(List.range ops.size).all λi=>Nat.blt i m || (List.range m).all λj=>Nat.beq j q || Vb ops F i j
theorem Jpj(m k i:Nat): (lst m k)[i]?=if i<m then some (Nat.blt i k) else none:=by grind [lst]
theorem Qxc{m q F fuel':Nat}{Fs:List SF}(hml:m<=l.length)(hacc:accB l=true)(hbeh:behB l.toArray F m q=true)(hnd:ndB ds=true)(hlen:ds.length=m)(hfree:∀ d∈ds,lk al d=none)(hop:GoM P n l.toArray al w0 ds Fs m 0 l)(Xg:∀ vs w1,Ext w0 w1->(∀ k,k<m->fiM Fs k (vs k) w1)->WH P n l.toArray Q T fuel' (lst l.length m) (slM vs al ds 0) w1)(hend2:q<m->∀ vs w1,Ext w0 w1->(∀ k,k<m->k≠q->fiM Fs k (vs k) w1)->WH P n l.toArray Q T (fuel'+1) ((lst l.length m).setIfInBounds q false) (slM vs al ds 0) w1):
  ∀(us:List Nat) (listed:Array Bool) (a:Act) (w:World),us.Nodup->(∀ k,k<m->(listed.getD k true=false↔k∈us))->(∀ k,m<=k->k<l.length->listed.getD k true=false)->(∀ k∈us,k<m)->listed.size=l.length->Closed l.toArray listed->Fr n al a->Ext w0 w ->
   (∀ k,k<m->k ∉ us->fiM Fs k (a.tmps.getD (ds.getD k 0) undef) w)->Zh P l.toArray Q T (us.length+fuel') listed a w:=by
 have hN:=Jjb hnd;have J:∀ a:Act,Fr n al a->Fr n (slM (λj=>a.tmps.getD (ds.getD j 0) undef) al ds 0) a:=λa ha=>⟨ha.size,ha.defers,λt v h=>by
  by_cases hm:t∈ds
  .obtain⟨j,hj,e⟩:=mem_getD hm;rw[<-e,Ua hN hj]at h;grind
  rw[Ky hm]at h;exact ha.has t v h⟩
 intro us;generalize hL:us.length=L
 induction L generalizing us with
 | zero=>
  intro listed a w hu U a4 a1 aa Z ha hx hf;have ae:us=[]:=List.length_eq_zero_iff.1 hL;subst ae;have e:listed=lst l.length m:=by
   refine Array.ext_getElem? λi=>?_;rw[Jpj];by_cases hi:i<l.length
   .rw[if_pos hi];have G:i<listed.size:=om
    by_cases a3:i<m
    .have O:=U i a3;have D:listed.getD i true=true:=by grind
     simp[G]at D;simp[G,D,Nat.blt];omega
    have D:=a4 i om hi;simp[G]at D;have h3:Nat.blt i m=false:=by
     cases hh:Nat.blt i m with
     | false=>rfl
     | true=>exact absurd (show i+1<=m by simpa [Nat.blt] using hh) om
    simp[G,D,h3]
   repeat grind
  rw[Nat.zero_add,e];rw[e]at Z;exact Xg _ w hx (λk hk=>hf k hk (by simp)) Z a (J a ha)
 | succ L ih=>
  intro listed a w hu U a4 a1 aa Z ha hx hf;rw[show L+1+fuel'=(L+fuel')+1 by omega];have a7:us≠[]:=by grind
  by_cases hq:us=[q]
  .have ac:q<m:=a1 q (by rw[hq];simp);have an:L=0:=by grind
   have e:listed=(lst l.length m).setIfInBounds q false:=by
    refine Array.ext_getElem? λi=>?_;by_cases hqi:q=i
    .subst hqi;have O:=(U q ac).2 (by rw[hq];simp);have D:q<listed.size:=om
     simp[D]at O;grind [lst]
    rw[Array.getElem?_setIfInBounds_ne hqi,Jpj];by_cases hi:i<l.length
    .rw[if_pos hi];have G:i<listed.size:=om
     by_cases a3:i<m
     .have O:=U i a3;have D:listed.getD i true=true:=by grind
      simp[G]at D;simp[G,D,Nat.blt];omega
     have D:=a4 i om hi;simp[G]at D;have h3:Nat.blt i m=false:=by
      cases hh:Nat.blt i m with
      | false=>rfl
      | true=>exact absurd (show i+1<=m by simpa [Nat.blt] using hh) om
     simp[G,D,h3]
    repeat grind
   rw[an,e,show 0+fuel'+1=fuel'+1 by omega];rw[e]at Z;exact hend2 ac _ w hx (λk hk ax=>hf k hk (by grind)) Z a (J a ha)
  obtain⟨k0,aj,aq⟩:∃ k,k∈us/\k≠q:=by
   refine Classical.byContradiction λaw=>?_;have J:∀ k∈us,k=q:=by grind
   apply hq
   match us,hu,a7,J with
   | [x],_,_,h=>rw[h x (by simp)]
   | x::y::r,hu,_,h=>
    have O:=h x (by simp);have D:=h y (by simp);grind
  refine⟨λhr=>?_,λi hi=>?_⟩
  .exfalso
   obtain⟨k,hk,ap⟩:∃ k,k∈us/\∀ j,j<k->j ∉ us:=by
    have:∀ s k,k∈us->k<s->∃ k,k∈us/\∀ j,j<k->j ∉ us:=by
     intro s;induction s with
     | zero=>intro k _ h;omega
     | succ s ihs=>
      grind
    grind
   have a8:=a1 k hk;have ai:=(U k a8).2 hk;have a9:k<l.length:=om
   have av:k∈Region.ready .any l.toArray listed:=by
    refine mem_ready.2 ⟨ai,l[k],by simp[a9],λe he hb=>?_⟩;have O:=List.all_eq_true.1 hacc k (List.mem_range.2 a9);have hn:nth l k=some l[k]:=by rw[Xw];simp[a9]
    rw[hn]at O;simp only[Array.all_eq_true_iff_forall_mem,Bool.or_eq_true,Bool.not_eq_true']at O;have D:=(O e he).resolve_left (by rw[hb];simp);have h3:e.on<k:=by(have:e.on+1<=k:=by simpa [Nat.blt] using D);(omega)
    grind
   grind
  obtain⟨af,o,ho,ar⟩:=mem_ready.1 hi;have ad:l[i]?=some o:=by simpa using ho
  have ak:i<l.length:=by grind
  have a5:i<m:=by
   rcases Nat.lt_or_ge i m with h|h
   .exact h
   exfalso
   have O:=List.all_eq_true.1 hbeh i (List.mem_range.2 (by simpa using ak));simp only[Bool.or_eq_true]at O;have D:=O.resolve_left (by
    intro hh;have:i+1<=m:=by simpa [Nat.blt] using hh
    omega)
   have ao:=List.all_eq_true.1 D k0 (List.mem_range.2 (a1 k0 aj));simp only[Bool.or_eq_true]at ao;grind [Nat.eq_of_beq_eq_true,Ge,Ga]
  have a3:=(U i a5).1 af;have hO:=GoM.get hop a5 ad;rw[Nat.zero_add]at hO;have hW:=hO (λj=>a.tmps.getD (ds.getD j 0) undef) w hx λk hk=>by
   unfold Jjn at hk;grind
  have O:=Jvn (Q:=Q) (ops:=l.toArray) (by simpa using ad) hW a (J a ha);refine wpOp_mono (λa' w' h=>?_) O;obtain⟨v,a2,a6,hF⟩:=h;have am:lk ((ds.getD i 0,v)::slM (λj=>a.tmps.getD (ds.getD j 0) undef) al ds 0) (ds.getD i 0)=some v:=Kb _ _ _;have az:ds.getD i 0∈ds:=by grind
  refine⟨λ_=>a6,ih (us.erase i) (by grind) _ a' w' (hu.erase i) (λk a8=>?_) (λk O D=>?_) (λk hk=>a1 k (hu.mem_erase_iff.1 hk).2) (by simp[aa]) (Z.step hi) ?_ (hx.trans a6) λk hk ay=>?_⟩
  .by_cases e:i=k
   .subst e;have:i<listed.size:=om
    simp only[hu.mem_erase_iff];simp[this]
   rw[getD_set_ne true e,U k a8,hu.mem_erase_iff];grind
  .rw[getD_set_ne true om];exact a4 k O D
  .refine⟨a2.size,a2.defers,λt u au=>?_⟩;have hm:t ∉ ds:=by grind
   exact a2.has t u (by grind [Yf,Ky])
  by_cases e:k=i
  .subst e;rw[a2.has _ _ am];exact hF
  have ah:k ∉ us:=by grind
  have a7:ds.getD i 0≠ds.getD k 0:=λh=>by
   have O:=Ua (vs:=λj=>Value.int .i64 (j:Int)) (al:=[]) (i:=0) hN (j:=i) om;have D:=Ua (vs:=λj=>Value.int .i64 (j:Int)) (al:=[]) (i:=0) hN (j:=k) om;grind
  have h3:=a2.has (ds.getD k 0) _ (by rw[Yf _ _ a7];exact Ua hN om);simp only[Nat.zero_add]at h3;rw[h3];exact(hf k hk ah).ext a6
theorem hmkq(m q F fuel':Nat)(ds:List Nat)(Fs:List SF)(hc:(accB l && behB l.toArray F m q && ndB ds && Nat.beq ds.length m && Nat.beq (m+fuel') l.length)=true)(hfree:(ds.all λd=>(lk al d).isNone)=true)(hop:GoM P n l.toArray al w ds Fs m 0 l)(Xg:∀ vs w1,Ext w w1->(∀ k,(hk:k<m:=by decide)->fiM Fs k (vs k) w1)->WH P n l.toArray Q T fuel' (lst l.length m) (slM vs al ds 0) w1)(hend2:q<m->∀ vs w1,Ext w w1->(∀ k,(hk:k<m:=by decide)->(hq:k≠q:=by decide)->fiM Fs k (vs k) w1)->WH P n l.toArray Q T (fuel'+1) ((lst l.length m).setIfInBounds q false) (slM vs al ds 0) w1): WH P n l.toArray Q T l.toArray.size (Array.replicate l.toArray.size false) al w:=λj a G=>by
 simp only[Bool.and_eq_true]at hc;obtain⟨⟨⟨⟨h2,Z⟩,U⟩,O⟩,J⟩:=hc;have y:ds.length=m:=Nat.eq_of_beq_eq_true O;have u:m+fuel'=l.length:=Nat.eq_of_beq_eq_true J;have:=Qxc (Q:=Q) (T:=T) (F:=F) (q:=q) (fuel':=fuel') om h2 Z U y (λd D=>by simpa using List.all_eq_true.1 hfree d D) hop Xg hend2 (List.range m) (Array.replicate l.length false) a w List.nodup_range (λk hk=>?_) (λk _ h=>by simp[h]) (λk hk=>List.mem_range.1 hk) (by simp) (by simpa using j) G (Ext.refl w) λk hk i=>absurd (List.mem_range.2 hk) i
 .grind
 have:k<l.length:=om
 simp[this,hk]
theorem hmk(m F fuel':Nat)(ds:List Nat)(Fs:List SF)(hc:(accB l && behB l.toArray F m m && ndB ds && Nat.beq ds.length m && Nat.beq (m+fuel') l.length)=true)(hfree:(ds.all λd=>(lk al d).isNone)=true)(hop:GoM P n l.toArray al w ds Fs m 0 l)(Xg:∀ vs w1,Ext w w1->(∀ k,(hk:k<m:=by decide)->fiM Fs k (vs k) w1)->WH P n l.toArray Q T fuel' (lst l.length m) (slM vs al ds 0) w1): WH P n l.toArray Q T l.toArray.size (Array.replicate l.toArray.size false) al w :=
 hmkq m m F fuel' ds Fs hc hfree hop Xg λh=>absurd h (Nat.lt_irrefl m)
end
end Go.Wk
namespace Go.Wk
open Go.RowKit
variable {ds r us:List Nat}{l:List Oper}{Fs:List SF}{fuel i j k:Nat}{w0:World}
section
variable {P:Program} {n:Nat} {al:AL} {w:World} {Q:Exit->Act->World->Prop} {ops:Array Oper}
def stgB(l:List Oper)(F:Nat)(st st':Array Bool)(us:List Nat): Bool :=
 Nat.beq st.size l.length && Nat.beq st'.size l.length && ndB us && (us.all λk=>Nat.blt k l.length && !(st.getD k true)) &&
 (us.all λi=>match nth l i with
  | some o=>o.after.all λe=>!Region.binds .any e || (Nat.blt e.on l.length && st.getD e.on true) || (us.any (λj=>Nat.beq j e.on) && Nat.blt e.on i)
  | none=>false) &&
 ((List.range l.length).all λi=>st.getD i true || us.any (λj=>Nat.beq j i) || us.all λj=>Vb l.toArray F i j) &&
 ((List.range l.length).all λi=>st'.getD i true == (st.getD i true || us.any λj=>Nat.beq j i))
def OpS(P:Program)(n:Nat)(ops:Array Oper)(al:AL)(w0:World)(us ds:List Nat)(Fs:List SF)(i:Nat)(o:Oper): Prop :=
 ∀ vs w1,Ext w0 w1->(∀ j,j<us.length->Jjn o (us.getD j 0)=true->fiM Fs j (vs j) w1)->WL P n ops (toM (PM n (slM vs al ds 0) w1 (ds.getD i 0) (Fs.getD i ⟨λ_ _=>True,λ_ _=>trivial⟩))) [o] (slM vs al ds 0) w1
def GoS(P:Program)(n:Nat)(l:List Oper)(al:AL)(w0:World)(us ds:List Nat)(Fs:List SF): Nat->List Nat->Prop
 | _,[]=>True
 | i,k::r=>(∀ o,nth l k=some o->OpS P n l.toArray al w0 us ds Fs i o)/\GoS P n l al w0 us ds Fs (i+1) r
theorem GoS.get{w0:World}{l:List Oper}{us ds:List Nat}{Fs:List SF}: ∀ {r:List Nat} {s i:Nat} {o:Oper},GoS P n l al w0 us ds Fs s r->i<r.length->nth l (r.getD i 0)=some o->OpS P n l.toArray al w0 us ds Fs (s+i) o
 | [],_,_,_,_,h,_=>by simp at h
 | x::r,s,0,o,h,_,e=>h.1 o e
 | x::r,s,i+1,o,h,h0,e=>by
  have:=GoS.get h.2 (by simpa using h0:i<r.length) (by simpa using e);rwa [show s+(i+1)=s+1+i by omega]
theorem gsc{o:Oper}(h:∀ vs w1,Ext w0 w1->(∀ j,(hj:j<us.length:=by decide)->(hk:Jjn o (us.getD j 0)=true:=by kernel_rfl)->fiM Fs j (vs j) w1)->WL P n l.toArray (toM (PM n (slM vs al ds 0) w1 (ds.getD i 0) (Fs.getD i ⟨λ_ _=>True,λ_ _=>trivial⟩))) [o] (slM vs al ds 0) w1)(h2:GoS P n l al w0 us ds Fs (i+1) r)(ho:nth l k=some o:=by rfl): GoS P n l al w0 us ds Fs i (k::r):=⟨λy u=>by rw[ho]at u;injection u with u;subst u;exact h,h2⟩
theorem gse: GoS P n l al w0 us ds Fs i []:=trivial
theorem Jxd(h:us.Nodup)(hi:i<us.length)(hj:j<us.length)(e:us.getD i 0=us.getD j 0): i=j:=by grind [List.getElem?_eq_getElem,List.pairwise_iff_getElem.1,Nat.lt_trichotomy]
theorem hmkS{T:Nat->Bool}(F fuel':Nat)(st st':Array Bool)(us ds:List Nat)(Fs:List SF)(hc:(stgB l F st st' us && ndB ds && Nat.beq ds.length us.length && Nat.beq (us.length+fuel') fuel)=true)(hfree:(ds.all λd=>(lk al d).isNone)=true)(hop:GoS P n l al w us ds Fs 0 us)(Xg:∀ vs w1,Ext w w1->(∀ j,(hj:j<us.length:=by decide)->fiM Fs j (vs j) w1)->WH P n l.toArray Q T fuel' st' (slM vs al ds 0) w1): WH P n l.toArray Q T fuel st al w:=λa2 a ha=>by
 simp only[Bool.and_eq_true]at hc;obtain⟨⟨⟨h0,h4⟩,h5⟩,h6⟩:=hc;unfold stgB at h0;simp only[Bool.and_eq_true]at h0;obtain⟨⟨⟨⟨⟨⟨c1,c2⟩,c3⟩,c4⟩,c5⟩,c6⟩,c7⟩:=h0;have aq:st.size=l.length:=Nat.eq_of_beq_eq_true c1;have b4:st'.size=l.length:=Nat.eq_of_beq_eq_true c2;have hU:=Jjb c3;have hN:=Jjb h4;have hl:ds.length=us.length:=Nat.eq_of_beq_eq_true h5;have az:us.length+fuel'=fuel:=Nat.eq_of_beq_eq_true h6;have b2:∀ d∈ds,lk al d=none:=λd hd=>by simpa using List.all_eq_true.1 hfree d hd
 have a1:∀ j,j<us.length->us.getD j 0<l.length/\st.getD (us.getD j 0) true=false:=λj hj=>by
  have U:us.getD j 0∈us:=by rw[List.getD_eq_getElem?_getD,List.getElem?_eq_getElem hj];exact List.getElem_mem _
  have:=List.all_eq_true.1 c4 _ U;simp only[Bool.and_eq_true,Bool.not_eq_true']at this;exact⟨by(have h:us.getD j 0+1<=l.length:=by simpa [Nat.blt] using this.1);omega,this.2⟩
 have a5:∀ k,(us.any λj=>Nat.beq j k)=true->∃ j,j<us.length/\us.getD j 0=k:=λk hk=>by
  rw[List.any_eq_true]at hk;obtain⟨u,hu,e⟩:=hk;have e:=Nat.eq_of_beq_eq_true e;subst e;exact mem_getD hu
 have a7:∀ a:Act,Fr n al a->Fr n (slM (λj=>a.tmps.getD (ds.getD j 0) undef) al ds 0) a:=λa ha=>⟨ha.size,ha.defers,λt v h=>by
  by_cases U:t∈ds
  .obtain⟨j,hj,e⟩:=mem_getD U;rw[<-e,Ua hN hj]at h;simp only[Nat.zero_add,Option.some.injEq]at h;rw[<-e];exact h
  rw[Ky U]at h;exact ha.has t v h⟩
 suffices key:∀(L:Nat) (ps:List Nat) (y:Array Bool) (a:Act) (w1:World),ps.length=L->ps.Nodup->(∀ j∈ps,j<us.length)->(∀ j,j<us.length->(y.getD (us.getD j 0) true=false↔j∈ps))->(∀ k,k<l.length->(∀ j,j<us.length->us.getD j 0≠k)->y.getD k true=st.getD k true)->y.size=l.length->Closed l.toArray y->Fr n al a->Ext w w1 ->
   (∀ j,j<us.length->j ∉ ps->fiM Fs j (a.tmps.getD (ds.getD j 0) undef) w1)->Zh P l.toArray Q T (L+fuel') y a w1 by
  have:=key us.length (List.range us.length) st a w List.length_range List.nodup_range (λj hj=>List.mem_range.1 hj) (λj hj=>⟨λ_=>List.mem_range.2 hj,λ_=>(a1 j hj).2⟩) (λk _ _=>rfl) aq a2 ha (Ext.refl w) λj hj h=>absurd (List.mem_range.2 hj) h;rwa [az]at this
 intro L;induction L with
 | zero=>
  intro ps y a w1 hL hu a3 J a6 ae a2 ha hx hf;have aj:ps=[]:=List.length_eq_zero_iff.1 hL;subst aj;have e:y=st':=by
   refine Array.ext_getElem? λi=>?_;by_cases hi:i<l.length
   .have h7:=List.all_eq_true.1 c7 i (List.mem_range.2 hi);rw[beq_iff_eq]at h7;have h8:y.getD i true=st'.getD i true:=by
     rw[h7];by_cases U:∃ j,j<us.length/\us.getD j 0=i
     .obtain⟨j,hj,e⟩:=U;have D:=J j hj;rw[e]at D;have G:y.getD i true=true:=by
       cases hh:y.getD i true with
       | true=>rfl
       | false=>exact absurd (D.1 hh) (by simp)
      rw[G];symm
      rw[Bool.or_eq_true];right
      rw[List.any_eq_true];refine⟨us.getD j 0,?_,by rw[e];simp⟩;rw[List.getD_eq_getElem?_getD,List.getElem?_eq_getElem hj];exact List.getElem_mem _
     have D:∀ j,j<us.length->us.getD j 0≠i:=λj hj e=>U ⟨j,hj,e⟩;rw[a6 i hi D];have G:(us.any λj=>Nat.beq j i)=false:=by
      cases hh:us.any λj=>Nat.beq j i with
      | false=>rfl
      | true=>exact absurd (a5 i hh) U
     rw[G,Bool.or_false]
    have h9:i<y.size:=om
    have ap:i<st'.size:=om
    simp[h9,ap]at h8;simp[h9,ap,h8]
   rw[Array.getElem?_eq_none om,Array.getElem?_eq_none om]
  rw[Nat.zero_add,e];rw[e]at a2;exact Xg _ w1 hx (λj hj=>hf j hj (by simp)) a2 a (a7 a ha)
 | succ L ih=>
  intro ps y a w1 hL hu a3 J a6 ae a2 ha hx hf;rw[show L+1+fuel'=(L+fuel')+1 by omega];have ad:ps≠[]:=λe=>by rw[e]at hL;cases hL
  obtain⟨p0,a4⟩:∃ p,p∈ps:=by
   cases ps with
   | nil=>exact absurd rfl ad
   | cons p r=>exact⟨p,List.mem_cons_self⟩
  refine⟨λhr=>?_,λi hi=>?_⟩
  .exfalso
   obtain⟨p,hp,ak⟩:∃ p,p∈ps/\∀ q∈ps,us.getD p 0<=us.getD q 0:=by
    have:∀ s p,p∈ps->us.getD p 0<s->∃ p,p∈ps/\∀ q∈ps,us.getD p 0<=us.getD q 0:=by
     intro s;induction s with
     | zero=>intro p _ h;omega
     | succ s ihs=>
      intro p hp ah;by_cases h:∃ q,q∈ps/\us.getD q 0<us.getD p 0
      .obtain⟨q,hq,b5⟩:=h;exact ihs q hq om
      exact⟨p,hp,λq hq=>by
       rcases Nat.lt_or_ge (us.getD q 0) (us.getD p 0) with h'|h'
       .exact absurd ⟨q,hq,h'⟩ h
       exact h'⟩
    exact this (us.getD p0 0+1) p0 a4 om
   have O:=a3 p hp;obtain⟨b6,_⟩:=a1 p O;have av:=(J p O).2 hp;have af:us.getD p 0∈Region.ready .any l.toArray y:=by
    refine mem_ready.2 ⟨av,l[us.getD p 0],by simp,λe he hb=>?_⟩;have U:us.getD p 0∈us:=by rw[List.getD_eq_getElem?_getD,List.getElem?_eq_getElem O];exact List.getElem_mem _
    have D:=List.all_eq_true.1 c5 _ U;have hn:nth l (us.getD p 0)=some l[us.getD p 0]:=by rw[Xw];simp
    rw[hn]at D;simp only[Array.all_eq_true_iff_forall_mem,Bool.or_eq_true,Bool.not_eq_true',Bool.and_eq_true]at D;have G:=D e he;rw[hb]at G;have h5:y.getD e.on true=true/\e.on<y.size:=by
     rcases G with(G|⟨h3,G⟩)|⟨G,h3⟩
     .cases G
     .have ao:e.on<l.length:=by(have:e.on+1<=l.length:=by simpa [Nat.blt] using h3);omega
      refine⟨?_,om⟩;by_cases hm2:∃ j,j<us.length/\us.getD j 0=e.on
      .obtain⟨j,hj,e2⟩:=hm2;have:=(a1 j hj).2;rw[e2,G]at this;cases this
      rw[a6 _ ao λj hj e2=>hm2 ⟨j,hj,e2⟩];exact G
     obtain⟨j,hj,e2⟩:=a5 _ G;have ao:e.on<us.getD p 0:=by(have:e.on+1<=us.getD p 0:=by simpa [Nat.blt] using h3);(omega)
     refine⟨?_,om⟩;cases hh:y.getD e.on true with
     | true=>rfl
     | false=>
      rw[<-e2]at hh;have h6:=(J j hj).1 hh;have:=ak j h6;omega
    have h6:=h5.2;have h7:=h5.1;simp[h6]at h7 ⊢;exact h7
   rw[hr]at af;cases af
  obtain⟨a9,o,ho,an⟩:=mem_ready.1 hi;have ac:l[i]?=some o:=by simpa using ho
  have am:i<l.length:=(List.getElem?_eq_some_iff.1 ac).1;obtain⟨p,O,ar⟩:∃ j,j<us.length/\us.getD j 0=i:=by
   refine Classical.byContradiction λai=>?_;have D:=List.all_eq_true.1 c6 i (List.mem_range.2 am);simp only[Bool.or_eq_true]at D;have G:=a6 i am λj hj e=>ai ⟨j,hj,e⟩;rcases D with(D|D)|D
   .rw[D]at G;rw[G]at a9;cases a9
   .exact ai (a5 i D)
   have U:us.getD p0 0∈us:=by rw[List.getD_eq_getElem?_getD,List.getElem?_eq_getElem (a3 p0 a4)];exact List.getElem_mem _
   have h3:=List.all_eq_true.1 D _ U;have h4:=Ge a2 F i (us.getD p0 0) o ho (Ga ho hi) h3;have h5:=(J p0 (a3 p0 a4)).2 a4;have h6:us.getD p0 0<y.size:=by have:=(a1 p0 (a3 p0 a4)).1;omega
   generalize us.getD p0 0=k0 at h4 h5 h6
   simp[h6]at h4 h5;rw[h4]at h5;cases h5
  subst ar;have ah:=(J p O).1 a9;have hO:=GoS.get hop O (by rw[Xw];exact ac);rw[Nat.zero_add]at hO;have hW:=hO (λj=>a.tmps.getD (ds.getD j 0) undef) w1 hx λj hj hk=>by
   unfold Jjn at hk;rw[Array.any_eq_true']at hk;obtain⟨e,he,D⟩:=hk;simp only[Bool.and_eq_true,beq_iff_eq]at D;have G:=an e he D.1;rw[D.2]at G;have h3:us.getD j 0<y.size:=by have:=(a1 j hj).1;omega
   refine hf j hj λaw=>?_;have h4:=(J j hj).2 aw;generalize us.getD j 0=k0 at G h3 h4
   simp[h3]at G h4;rw[G]at h4;cases h4
  have D:=Jvn (Q:=Q) (ops:=l.toArray) (by simpa using ac) hW a (a7 a ha);refine wpOp_mono (λa' w' h=>?_) D;obtain⟨v,Z,a8,hF⟩:=h;have b3:lk ((ds.getD p 0,v)::slM (λj=>a.tmps.getD (ds.getD j 0) undef) al ds 0) (ds.getD p 0)=some v:=Kb _ _ _;have ay:ds.getD p 0∈ds:=by rw[List.getD_eq_getElem?_getD,List.getElem?_eq_getElem om];exact List.getElem_mem _
  refine⟨λ_=>a8,ih (ps.erase p) _ a' w' (by rw[List.length_erase_of_mem ah,hL];omega) (hu.erase p) (λj hj=>a3 j (hu.mem_erase_iff.1 hj).2) (λj hj=>?_) (λk D G=>?_) (by simp[ae]) (a2.step hi) ?_ (hx.trans a8) λj hj ax=>?_⟩
  .by_cases e:p=j
   .subst e;have:us.getD p 0<y.size:=om
    simp only[hu.mem_erase_iff];simp
   rw[getD_set_ne true (λe2=>e (Jxd hU O hj e2)),J j hj,hu.mem_erase_iff];exact⟨λh=>⟨λh'=>e h'.symm,h⟩,λh=>h.2⟩
  .rw[getD_set_ne true (G p O)];exact a6 k D G
  .refine⟨Z.size,Z.defers,λt u aa=>?_⟩;have U:t ∉ ds:=λU=>by rw[b2 t U]at aa;cases aa
   exact Z.has t u (by rw[Yf _ _ (λe=>U (by rw[<-e];exact ay)),Ky U];exact aa)
  by_cases e:j=p
  .subst e;rw[Z.has _ _ b3];exact hF
  have au:j ∉ ps:=λh=>ax (hu.mem_erase_iff.2 ⟨e,h⟩);have ad:ds.getD p 0≠ds.getD j 0:=λh=>e (Jxd hN om om h.symm);have h3:=Z.has (ds.getD j 0) _ (by rw[Yf _ _ ad];exact Ua hN om);simp only[Nat.zero_add]at h3;rw[h3];exact(hf j hj au).ext a8
end
end Go.Wk
namespace Go.Wk
open Go.RowKit
section
variable {P:Program} {n:Nat} {al:AL} {w:World} {Q:Exit->Act->World->Prop} {ops:Array Oper}
def stgQ(l:List Oper)(F q:Nat)(st st':Array Bool)(us:List Nat): Bool :=
 Nat.beq st.size l.length && Nat.beq st'.size l.length && ndB us && (us.all λk=>Nat.blt k l.length && !(st.getD k true)) &&
 (us.all λi=>match nth l i with
  | some o=>o.after.all λe=>!Region.binds .any e || (Nat.blt e.on l.length && st.getD e.on true) || (us.any (λj=>Nat.beq j e.on) && Nat.blt e.on i)
  | none=>false) &&
 ((List.range l.length).all λi=>st.getD i true || us.any (λj=>Nat.beq j i) || us.all λj=>Nat.beq j q || Vb l.toArray F i j) &&
 ((List.range l.length).all λi=>st'.getD i true == (st.getD i true || us.any λj=>Nat.beq j i))
theorem hmkSq{T:Nat->Bool}{l:List Oper}(F q fuel':Nat)(st st':Array Bool)(us ds:List Nat)(Fs:List SF){fuel:Nat}(hc:(stgQ l F q st st' us && ndB ds && Nat.beq ds.length us.length && Nat.beq (us.length+fuel') fuel)=true)(hfree:(ds.all λd=>(lk al d).isNone)=true)(hop:GoS P n l al w us ds Fs 0 us)(Xg:∀ vs w1,Ext w w1->(∀ j,(hj:j<us.length:=by decide)->fiM Fs j (vs j) w1)->WH P n l.toArray Q T fuel' st' (slM vs al ds 0) w1)(hend2:q<l.length->∀ vs w1,Ext w w1->(∀ j,(hj:j<us.length:=by decide)->(hq:us.getD j 0≠q:=by decide)->fiM Fs j (vs j) w1)->WH P n l.toArray Q T (fuel'+1) (st'.setIfInBounds q false) (slM vs al ds 0) w1): WH P n l.toArray Q T fuel st al w:=λa2 a ha=>by
 simp only[Bool.and_eq_true]at hc;obtain⟨⟨⟨h0,h4⟩,h5⟩,h6⟩:=hc;unfold stgQ at h0;simp only[Bool.and_eq_true]at h0;obtain⟨⟨⟨⟨⟨⟨c1,c2⟩,c3⟩,c4⟩,c5⟩,c6⟩,c7⟩:=h0;have aw:st.size=l.length:=Nat.eq_of_beq_eq_true c1;have ba:st'.size=l.length:=Nat.eq_of_beq_eq_true c2;have hU:=Jjb c3;have hN:=Jjb h4;have hl:ds.length=us.length:=Nat.eq_of_beq_eq_true h5;have b6:us.length+fuel'=fuel:=Nat.eq_of_beq_eq_true h6;have b7:∀ d∈ds,lk al d=none:=λd hd=>by simpa using List.all_eq_true.1 hfree d hd
 have Z:∀ j,j<us.length->us.getD j 0<l.length/\st.getD (us.getD j 0) true=false:=λj hj=>by
  have U:us.getD j 0∈us:=by rw[List.getD_eq_getElem?_getD,List.getElem?_eq_getElem hj];exact List.getElem_mem _
  have:=List.all_eq_true.1 c4 _ U;simp only[Bool.and_eq_true,Bool.not_eq_true']at this;exact⟨by(have h:us.getD j 0+1<=l.length:=by simpa [Nat.blt] using this.1);omega,this.2⟩
 have a6:∀ k,(us.any λj=>Nat.beq j k)=true->∃ j,j<us.length/\us.getD j 0=k:=λk hk=>by
  rw[List.any_eq_true]at hk;obtain⟨u,hu,e⟩:=hk;have e:=Nat.eq_of_beq_eq_true e;subst e;exact mem_getD hu
 have a9:∀ a:Act,Fr n al a->Fr n (slM (λj=>a.tmps.getD (ds.getD j 0) undef) al ds 0) a:=λa ha=>⟨ha.size,ha.defers,λt v h=>by
  by_cases U:t∈ds
  .obtain⟨j,hj,e⟩:=mem_getD U;rw[<-e,Ua hN hj]at h;simp only[Nat.zero_add,Option.some.injEq]at h;rw[<-e];exact h
  rw[Ky U]at h;exact ha.has t v h⟩
 suffices key:∀(L:Nat) (ps:List Nat) (D:Array Bool) (a:Act) (w1:World),ps.length=L->ps.Nodup->(∀ j∈ps,j<us.length)->(∀ j,j<us.length->(D.getD (us.getD j 0) true=false↔j∈ps))->(∀ k,k<l.length->(∀ j,j<us.length->us.getD j 0≠k)->D.getD k true=st.getD k true)->D.size=l.length->Closed l.toArray D->Fr n al a->Ext w w1 ->
   (∀ j,j<us.length->j ∉ ps->fiM Fs j (a.tmps.getD (ds.getD j 0) undef) w1)->Zh P l.toArray Q T (L+fuel') D a w1 by
  have:=key us.length (List.range us.length) st a w List.length_range List.nodup_range (λj hj=>List.mem_range.1 hj) (λj hj=>⟨λ_=>List.mem_range.2 hj,λ_=>(Z j hj).2⟩) (λk _ _=>rfl) aw a2 ha (Ext.refl w) λj hj h=>absurd (List.mem_range.2 hj) h;rwa [b6]at this
 intro L;induction L with
 | zero=>
  intro ps D a w1 hL hu a1 O a7 ah a2 ha hx hf;have ap:ps=[]:=List.length_eq_zero_iff.1 hL;subst ap;have e:D=st':=by
   refine Array.ext_getElem? λi=>?_;by_cases hi:i<l.length
   .have h7:=List.all_eq_true.1 c7 i (List.mem_range.2 hi);rw[beq_iff_eq]at h7;have h8:D.getD i true=st'.getD i true:=by
     rw[h7];by_cases U:∃ j,j<us.length/\us.getD j 0=i
     .obtain⟨j,hj,e⟩:=U;have G:=O j hj;rw[e]at G;have J:D.getD i true=true:=by
       cases hh:D.getD i true with
       | true=>rfl
       | false=>exact absurd (G.1 hh) (by simp)
      rw[J];symm
      rw[Bool.or_eq_true];right
      rw[List.any_eq_true];refine⟨us.getD j 0,?_,by rw[e];simp⟩;rw[List.getD_eq_getElem?_getD,List.getElem?_eq_getElem hj];exact List.getElem_mem _
     have G:∀ j,j<us.length->us.getD j 0≠i:=λj hj e=>U ⟨j,hj,e⟩;rw[a7 i hi G];have J:(us.any λj=>Nat.beq j i)=false:=by
      cases hh:us.any λj=>Nat.beq j i with
      | false=>rfl
      | true=>exact absurd (a6 i hh) U
     rw[J,Bool.or_false]
    have h9:i<D.size:=om
    have a5:i<st'.size:=om
    simp[h9,a5]at h8;simp[h9,a5,h8]
   rw[Array.getElem?_eq_none om,Array.getElem?_eq_none om]
  rw[Nat.zero_add,e];rw[e]at a2;exact Xg _ w1 hx (λj hj=>hf j hj (by simp)) a2 a (a9 a ha)
 | succ L ih=>
  intro ps D a w1 hL hu a1 O a7 ah a2 ha hx hf;by_cases hq0:∀ p∈ps,us.getD p 0=q
  .have b9:L=0:=by
    rcases Nat.eq_zero_or_pos L with h|h
    .exact h
    exfalso
    obtain⟨x,y,r,rfl⟩:∃ x y r,ps=x::y::r:=by
     match ps,hL with
     | [],h'=>simp at h'
     | [x],h'=>simp at h';omega
     | x::y::r,_=>exact⟨x,y,r,rfl⟩
    have G:=hq0 x (by simp);have J:=hq0 y (by simp);have h3:=Jxd hU (a1 x (by simp)) (a1 y (by simp)) (by rw[G,J]);have:=(List.nodup_cons.1 hu).1;rw[h3]at this;exact this (by simp)
   subst b9;obtain⟨p,rfl⟩:∃ p,ps=[p]:=List.length_eq_one_iff.1 om;have aa:=hq0 p (by simp);have an:=a1 p (by simp);have aj:=(Z p an).1;rw[aa]at aj;have e:D=st'.setIfInBounds q false:=by
    refine Array.ext_getElem? λi=>?_;by_cases hi:i<l.length
    .have h7:=List.all_eq_true.1 c7 i (List.mem_range.2 hi);rw[beq_iff_eq]at h7;have h8:D.getD i true=(st'.setIfInBounds q false).getD i true:=by
      by_cases hiq:i=q
      .have G:=(O p an).2 (by simp);rw[aa]at G;rw[hiq,G];have:q<st'.size:=om
       simp[this]
      have a5:(st'.setIfInBounds q false).getD i true=st'.getD i true:=by
       have h9:i<st'.size:=om
       simp[h9,Ne.symm hiq]
      rw[a5,h7];by_cases U:∃ j,j<us.length/\us.getD j 0=i
      .obtain⟨j,hj,e⟩:=U;have G:=O j hj;rw[e]at G;have J:D.getD i true=true:=by
        cases hh:D.getD i true with
        | true=>rfl
        | false=>
         have:=List.mem_singleton.1 (G.1 hh);rw[this,aa]at e;exact absurd e.symm hiq
       rw[J];symm
       rw[Bool.or_eq_true];right
       rw[List.any_eq_true];refine⟨us.getD j 0,?_,by rw[e];simp⟩;rw[List.getD_eq_getElem?_getD,List.getElem?_eq_getElem hj];exact List.getElem_mem _
      have G:∀ j,j<us.length->us.getD j 0≠i:=λj hj e=>U ⟨j,hj,e⟩;rw[a7 i hi G];have J:(us.any λj=>Nat.beq j i)=false:=by
       cases hh:us.any λj=>Nat.beq j i with
       | false=>rfl
       | true=>exact absurd (a6 i hh) U
      rw[J,Bool.or_false]
     have h9:i<D.size:=om
     have a5:i<(st'.setIfInBounds q false).size:=by rw[Array.size_setIfInBounds];omega
     rw[Array.getElem?_eq_getElem h9,Array.getElem?_eq_getElem a5];rw[Array.getD,Array.getD,dif_pos h9,dif_pos a5]at h8;exact congrArg some h8
    rw[Array.getElem?_eq_none om,Array.getElem?_eq_none (by rw[Array.size_setIfInBounds];omega)]
   rw[show 0+1+fuel'=fuel'+1 by omega,e];rw[e]at a2;exact hend2 aj _ w1 hx (λj hj hq=>hf j hj (λh=>hq (by rw[List.mem_singleton.1 h];exact aa))) a2 a (a9 a ha)
  obtain⟨p0,a8,am⟩:∃ p,p∈ps/\us.getD p 0≠q:=by
   refine Classical.byContradiction λh=>hq0 λp hp=>Classical.byContradiction λJ=>h ⟨p,hp,J⟩
  rw[show L+1+fuel'=(L+fuel')+1 by omega];refine⟨λhr=>?_,λi hi=>?_⟩
  .exfalso
   obtain⟨p,hp,aq⟩:∃ p,p∈ps/\∀ q∈ps,us.getD p 0<=us.getD q 0:=by
    have:∀ s p,p∈ps->us.getD p 0<s->∃ p,p∈ps/\∀ q∈ps,us.getD p 0<=us.getD q 0:=by
     intro s;induction s with
     | zero=>intro p _ h;omega
     | succ s ihs=>
      intro p hp ak;by_cases h:∃ q,q∈ps/\us.getD q 0<us.getD p 0
      .obtain⟨q,hq,bb⟩:=h;exact ihs q hq om
      exact⟨p,hp,λq hq=>by
       rcases Nat.lt_or_ge (us.getD q 0) (us.getD p 0) with h'|h'
       .exact absurd ⟨q,hq,h'⟩ h
       exact h'⟩
    exact this (us.getD p0 0+1) p0 a8 om
   have a3:=a1 p hp;obtain⟨bc,_⟩:=Z p a3;have b2:=(O p a3).2 hp;have ai:us.getD p 0∈Region.ready .any l.toArray D:=by
    refine mem_ready.2 ⟨b2,l[us.getD p 0],by simp,λe he hb=>?_⟩;have U:us.getD p 0∈us:=by rw[List.getD_eq_getElem?_getD,List.getElem?_eq_getElem a3];exact List.getElem_mem _
    have G:=List.all_eq_true.1 c5 _ U;have hn:nth l (us.getD p 0)=some l[us.getD p 0]:=by rw[Xw];simp
    rw[hn]at G;simp only[Array.all_eq_true_iff_forall_mem,Bool.or_eq_true,Bool.not_eq_true',Bool.and_eq_true]at G;have J:=G e he;rw[hb]at J;have h5:D.getD e.on true=true/\e.on<D.size:=by
     rcases J with(J|⟨h3,J⟩)|⟨J,h3⟩
     .cases J
     .have av:e.on<l.length:=by(have:e.on+1<=l.length:=by simpa [Nat.blt] using h3);omega
      refine⟨?_,om⟩;by_cases hm2:∃ j,j<us.length/\us.getD j 0=e.on
      .obtain⟨j,hj,e2⟩:=hm2;have:=(Z j hj).2;rw[e2,J]at this;cases this
      rw[a7 _ av λj hj e2=>hm2 ⟨j,hj,e2⟩];exact J
     obtain⟨j,hj,e2⟩:=a6 _ J;have av:e.on<us.getD p 0:=by(have:e.on+1<=us.getD p 0:=by simpa [Nat.blt] using h3);(omega)
     refine⟨?_,om⟩;cases hh:D.getD e.on true with
     | true=>rfl
     | false=>
      rw[<-e2]at hh;have h6:=(O j hj).1 hh;have:=aq j h6;omega
    have h6:=h5.2;have h7:=h5.1;simp[h6]at h7 ⊢;exact h7
   rw[hr]at ai;cases ai
  obtain⟨ad,o,ho,au⟩:=mem_ready.1 hi;have af:l[i]?=some o:=by simpa using ho
  have ar:i<l.length:=(List.getElem?_eq_some_iff.1 af).1;obtain⟨p,a3,ax⟩:∃ j,j<us.length/\us.getD j 0=i:=by
   refine Classical.byContradiction λao=>?_;have G:=List.all_eq_true.1 c6 i (List.mem_range.2 ar);simp only[Bool.or_eq_true]at G;have J:=a7 i ar λj hj e=>ao ⟨j,hj,e⟩;rcases G with(G|G)|G
   .rw[G]at J;rw[J]at ad;cases ad
   .exact ao (a6 i G)
   have U:us.getD p0 0∈us:=by rw[List.getD_eq_getElem?_getD,List.getElem?_eq_getElem (a1 p0 a8)];exact List.getElem_mem _
   have h3:=List.all_eq_true.1 G _ U;rw[Bool.or_eq_true]at h3;have h3:=h3.resolve_left λh=>am (Nat.eq_of_beq_eq_true h);have h4:=Ge a2 F i (us.getD p0 0) o ho (Ga ho hi) h3;have h5:=(O p0 (a1 p0 a8)).2 a8;have h6:us.getD p0 0<D.size:=by have:=(Z p0 (a1 p0 a8)).1;omega
   generalize us.getD p0 0=k0 at h4 h5 h6
   simp[h6]at h4 h5;rw[h4]at h5;cases h5
  subst ax;have ak:=(O p a3).1 ad;have hO:=GoS.get hop a3 (by rw[Xw];exact af);rw[Nat.zero_add]at hO;have hW:=hO (λj=>a.tmps.getD (ds.getD j 0) undef) w1 hx λj hj hk=>by
   unfold Jjn at hk;rw[Array.any_eq_true']at hk;obtain⟨e,he,G⟩:=hk;simp only[Bool.and_eq_true,beq_iff_eq]at G;have J:=au e he G.1;rw[G.2]at J;have h3:us.getD j 0<D.size:=by have:=(Z j hj).1;omega
   refine hf j hj λb3=>?_;have h4:=(O j hj).2 b3;generalize us.getD j 0=k0 at J h3 h4
   simp[h3]at J h4;rw[J]at h4;cases h4
  have G:=Jvn (Q:=Q) (ops:=l.toArray) (by simpa using af) hW a (a9 a ha);refine wpOp_mono (λa' w' h=>?_) G;obtain⟨v,a4,ac,hF⟩:=h;have b8:lk ((ds.getD p 0,v)::slM (λj=>a.tmps.getD (ds.getD j 0) undef) al ds 0) (ds.getD p 0)=some v:=Kb _ _ _;have b5:ds.getD p 0∈ds:=by rw[List.getD_eq_getElem?_getD,List.getElem?_eq_getElem om];exact List.getElem_mem _
  refine⟨λ_=>ac,ih (ps.erase p) _ a' w' (by rw[List.length_erase_of_mem ak,hL];omega) (hu.erase p) (λj hj=>a1 j (hu.mem_erase_iff.1 hj).2) (λj hj=>?_) (λk G J=>?_) (by simp[ah]) (a2.step hi) ?_ (hx.trans ac) λj hj b4=>?_⟩
  .by_cases e:p=j
   .subst e;have:us.getD p 0<D.size:=om
    simp only[hu.mem_erase_iff];simp
   rw[getD_set_ne true (λe2=>e (Jxd hU a3 hj e2)),O j hj,hu.mem_erase_iff];exact⟨λh=>⟨λh'=>e h'.symm,h⟩,λh=>h.2⟩
  .rw[getD_set_ne true (J p a3)];exact a7 k G J
  .refine⟨a4.size,a4.defers,λt u ae=>?_⟩;have U:t ∉ ds:=λU=>by rw[b7 t U]at ae;cases ae
   exact a4.has t u (by rw[Yf _ _ (λe=>U (by rw[<-e];exact b5)),Ky U];exact ae)
  by_cases e:j=p
  .subst e;rw[a4.has _ _ b8];exact hF
  have az:j ∉ ps:=λh=>b4 (hu.mem_erase_iff.2 ⟨e,h⟩);have ay:ds.getD p 0≠ds.getD j 0:=λh=>e (Jxd hN om om h.symm);have h3:=a4.has (ds.getD j 0) _ (by rw[Yf _ _ ay];exact Ua hN om);simp only[Nat.zero_add]at h3;rw[h3];exact(hf j hj az).ext ac
end
end Go.Wk
namespace Go.Proofs.YtebiphhfkdbpfaaGreat
structure PR where
 neg: Bool
 num:Nat
 den:Nat
deriving DecidableEq
def PR.norm(a:PR): PR:=if a.num=0∨a.den=0 then⟨a.neg && a.num != 0,a.num,1⟩ else⟨a.neg,a.num / Nat.gcd a.num a.den,a.den / Nat.gcd a.num a.den⟩
def PR.int(z:Int): PR:=⟨decide (z<0),z.natAbs,1⟩
def PR.sign(a:PR): Int:=if a.num=0 then 0 else if a.neg then -1 else 1
def PR.dvs(a:PR): Nat:=if a.den=0 then 1 else a.den
def PR.cmp(a b:PR): Int:=if a.sign≠b.sign then(if a.sign<b.sign then -1 else 1) else a.sign*(if a.num*b.dvs<b.num*a.dvs then -1 else if a.num*b.dvs=b.num*a.dvs then 0 else 1)
def PR.opp(a:PR): PR:=PR.norm ⟨!a.neg,a.num,a.den⟩
def PR.addN(a b:PR): PR:=if a.neg=b.neg then PR.norm ⟨a.neg,a.num*b.den+b.num*a.den,a.den*b.den⟩ else if b.num*a.den<=a.num*b.den then PR.norm ⟨a.neg,a.num*b.den-b.num*a.den,a.den*b.den⟩ else PR.norm ⟨b.neg,b.num*a.den-a.num*b.den,a.den*b.den⟩
def PR.add(a b:PR): PR:=PR.addN a.norm b.norm
def PR.sub(a b:PR): PR:=PR.add a b.opp
def PR.mulN(a b:PR): PR:=PR.norm ⟨a.neg != b.neg,a.num*b.num,a.den*b.den⟩
def PR.mul(a b:PR): PR:=PR.mulN a.norm b.norm
def PR.div(a b:PR): PR:=if b.norm.num=0 then⟨false,0,0⟩ else PR.mul a ⟨b.norm.neg,b.norm.den,b.norm.num⟩
def pr0: PR:=⟨false,0,1⟩
def PR.val(a:PR): Rat:=(if a.neg then -(a.num:Rat) else(a.num:Rat)) / (a.den:Rat)
theorem Vp{n:Nat}(h:n≠0): (n:Rat)≠0:=by
 intro e;exact h (Rat.natCast_inj.1 e)
theorem PR.norm_val{a:PR}(hd:a.den≠0): a.norm.val=a.val/\a.norm.den≠0:=by
 unfold PR.norm;by_cases h:a.num=0
 .rw[if_pos (.inl h)];refine⟨?_,by simp⟩;simp only[PR.val,h];have:=Vp hd;have z:((0:Nat):Rat)=0:=rfl;split<;>split<;>grind
 rw[if_neg om];have D:0<Nat.gcd a.num a.den:=Nat.gcd_pos_of_pos_left _ om;obtain⟨x,u⟩:=Nat.gcd_dvd_left a.num a.den;obtain⟨y,j⟩:=Nat.gcd_dvd_right a.num a.den;generalize Nat.gcd a.num a.den=g at *
 have G:a.num / g=x:=by rw[u];exact Nat.mul_div_cancel_left x D
 have F:a.den / g=y:=by rw[j];exact Nat.mul_div_cancel_left y D
 have i:y≠0:=λe=>hd (by rw[j,e,Nat.mul_zero]);refine⟨?_,by simp only;rw[F];exact i⟩;simp only[PR.val];rw[G,F,u,j,Rat.natCast_mul,Rat.natCast_mul];have:=Vp i;have:=Vp (show g≠0 by omega);split<;>grind
theorem PR.opp_val{a:PR}(hd:a.den≠0): a.opp.val = -a.val/\a.opp.den≠0:=by
 have h:=PR.norm_val (a:=⟨!a.neg,a.num,a.den⟩) hd;refine⟨?_,h.2⟩;unfold PR.opp;rw[h.1];have:=Vp hd;simp only[PR.val];cases a.neg<;>simp<;>grind
theorem PR.addN_val{a b:PR}(ha:a.den≠0)(hb:b.den≠0): (PR.addN a b).val=a.val+b.val/\(PR.addN a b).den≠0:=by
 have i:a.den*b.den≠0:=Nat.mul_ne_zero ha hb;have F:=Vp ha;have D:=Vp hb;unfold PR.addN;by_cases e:a.neg=b.neg
 .rw[if_pos e];have h:=PR.norm_val (a:=⟨a.neg,a.num*b.den+b.num*a.den,a.den*b.den⟩) i;refine⟨?_,h.2⟩;rw[h.1];simp only[PR.val,<-e];rw[Rat.natCast_mul,Rat.natCast_add,Rat.natCast_mul,Rat.natCast_mul];split<;>grind
 rw[if_neg e];by_cases e2:b.num*a.den<=a.num*b.den
 .rw[if_pos e2];have h:=PR.norm_val (a:=⟨a.neg,a.num*b.den-b.num*a.den,a.den*b.den⟩) i;refine⟨?_,h.2⟩;rw[h.1];obtain⟨d,j⟩:=Nat.le.dest e2;have u:a.num*b.den-b.num*a.den=d:=om
  have y:(a.num:Rat)*b.den=b.num*a.den+d:=by rw[<-Rat.natCast_mul,<-j,Rat.natCast_add,Rat.natCast_mul]
  simp only[PR.val,u];rw[Rat.natCast_mul];cases hna:a.neg<;>cases hnb:b.neg<;>simp[hna,hnb]at e ⊢<;>grind
 rw[if_neg e2];have h:=PR.norm_val (a:=⟨b.neg,b.num*a.den-a.num*b.den,a.den*b.den⟩) i;refine⟨?_,h.2⟩;rw[h.1];obtain⟨d,j⟩:=Nat.le.dest (Nat.le_of_lt (Nat.lt_of_not_le e2));have u:b.num*a.den-a.num*b.den=d:=om
 have y:(b.num:Rat)*a.den=a.num*b.den+d:=by rw[<-Rat.natCast_mul,<-j,Rat.natCast_add,Rat.natCast_mul]
 simp only[PR.val,u];rw[Rat.natCast_mul];cases hna:a.neg<;>cases hnb:b.neg<;>simp[hna,hnb]at e ⊢<;>grind
theorem PR.add_val{a b:PR}(ha:a.den≠0)(hb:b.den≠0): (PR.add a b).val=a.val+b.val/\(PR.add a b).den≠0:=by
 have j:=PR.norm_val ha;have i:=PR.norm_val hb;have h:=PR.addN_val j.2 i.2;exact⟨by rw[PR.add,h.1,j.1,i.1],h.2⟩
theorem PR.sub_val{a b:PR}(ha:a.den≠0)(hb:b.den≠0): (PR.sub a b).val=a.val-b.val/\(PR.sub a b).den≠0:=by
 have i:=PR.opp_val hb;have h:=PR.add_val ha i.2;exact⟨by rw[PR.sub,h.1,i.1];grind,h.2⟩
theorem PR.mulN_val{a b:PR}(ha:a.den≠0)(hb:b.den≠0): (PR.mulN a b).val=a.val*b.val/\(PR.mulN a b).den≠0:=by
 have h:=PR.norm_val (a:=⟨a.neg != b.neg,a.num*b.num,a.den*b.den⟩) (Nat.mul_ne_zero ha hb);refine⟨?_,h.2⟩;unfold PR.mulN;rw[h.1];have j:=Vp ha;have i:=Vp hb;simp only[PR.val];rw[Rat.natCast_mul,Rat.natCast_mul];cases a.neg<;>cases b.neg<;>simp<;>grind
theorem PR.mul_val{a b:PR}(ha:a.den≠0)(hb:b.den≠0): (PR.mul a b).val=a.val*b.val/\(PR.mul a b).den≠0:=by
 have j:=PR.norm_val ha;have i:=PR.norm_val hb;have h:=PR.mulN_val j.2 i.2;exact⟨by rw[PR.mul,h.1,j.1,i.1],h.2⟩
theorem PR.sign_val{a:PR}(ha:a.den≠0): (a.sign<0↔a.val<0)/\(a.sign=0↔a.val=0)/\(0<a.sign↔0<a.val):=by
 have u:(0:Rat)<a.den:=by
  have:0<a.den:=om
  exact Rat.natCast_pos.2 this
 unfold PR.sign PR.val;by_cases e:a.num=0
 .rw[if_pos e,e];have:(if a.neg=true then -((0:Nat):Rat) else((0:Nat):Rat)) / a.den=0:=by split<;>grind
  rw[this];refine⟨?_,?_,?_⟩<;>grind
 rw[if_neg e];have j:(0:Rat)<a.num:=Rat.natCast_pos.2 om;have y:(0:Rat)<a.num / a.den:=by
  rw[Rat.div_def];exact Rat.mul_pos j (Rat.inv_pos.2 u)
 cases a.neg
 .simp only[Bool.false_eq_true,if_false];refine⟨?_,?_,?_⟩<;>grind
 simp only[if_true];have i:-(a.num:Rat) / a.den = -(a.num / a.den):=by grind
 rw[i];refine⟨?_,?_,?_⟩<;>grind
theorem PR.div_val{a b:PR}(ha:a.den≠0)(hb:b.den≠0)(h0:b.val≠0): (PR.div a b).val=a.val / b.val/\(PR.div a b).den≠0:=by
 have i:=PR.norm_val hb;have hn:b.norm.num≠0:=λe=>h0 (by
  rw[<-i.1];have:=Vp i.2;simp only[PR.val,e];split<;>grind)
 unfold PR.div;rw[if_neg hn];have h:=PR.mul_val (a:=a) (b:=⟨b.norm.neg,b.norm.den,b.norm.num⟩) ha hn;refine⟨?_,h.2⟩;rw[h.1,<-i.1];have:=Vp i.2;have:=Vp hn;simp only[PR.val];cases b.norm.neg<;>simp<;>grind
structure PT where
 n: Nat
 m:Nat
 rows:List (List PR)
 goal:List PR
 basis:List Nat
deriving DecidableEq
def PT.right(t:PT): Nat:=t.n+t.m+1
def Zx(row other:List PR)(f:PR): List PR:=if f.sign=0 then row else List.zipWith (λa b=>if b.sign≠0 then PR.sub a (PR.mul f b) else a) row other
def dvR(row:List PR)(d:PR): List PR:=row.map λa=>if a.sign≠0 then PR.div a d else a
def PT.pivot(t:PT)(r c:Nat): PT :=
 let p:=dvR (t.rows.getD r []) ((t.rows.getD r []).getD c pr0)
 ⟨t.n,t.m,(t.rows.mapIdx λi row=>if i=r then p else Zx row p (row.getD c pr0)),Zx t.goal p (t.goal.getD c pr0),t.basis.set r c⟩
def lvS(t:PT)(c:Nat): Nat->Option (Nat×PR)
 | 0=>none
 | i+1=>
  let row:=t.rows.getD i []
  if(row.getD c pr0).sign<=0 then lvS t c i
  else
   let q:=PR.div (row.getD t.right pr0) (row.getD c pr0)
   match lvS t c i with
   | none=>some (i,q)
   | some (b,least)=>if PR.cmp q least<0∨(PR.cmp q least=0/\t.basis.getD i 0<t.basis.getD b 0) then some (i,q) else some (b,least)
def PT.leaving(t:PT)(c:Nat): Option Nat:=(lvS t c t.rows.length).map (·.1)
def PT.enter(t:PT)(cols:Nat): Option Nat:=(List.range cols).find? λj=>decide ((t.goal.getD j pr0).sign<0)
def PT.maxim(cols:Nat): Nat->PT->Option PT
 | 0,_=>none
 | k+1,t=>match t.enter cols with
  | none=>some t
  | some j=>match t.leaving j with
   | none=>none
   | some r=>PT.maxim cols k (t.pivot r j)
def PT.ofP(n:Nat)(A:List (List PR)): PT :=
 ⟨n,A.length,A.mapIdx λi a=>a++(List.range A.length).map (λk=>if k=i then PR.int 1 else pr0)++[PR.int (-1),PR.int 1],(List.replicate n (PR.int (-1)))++List.replicate (A.length+2) pr0,(List.range A.length).map (n + ·)⟩
def PT.point(t:PT): List PR:=(List.range t.n).map λv=>match(List.range t.basis.length).reverse.find? λi=>t.basis.getD i 0 == v with
 | none=>pr0
 | some i=>(t.rows.getD i []).getD t.right pr0
def PT.dual(t:PT): List PR:=(t.goal.drop t.n).take t.m
def Jb(N set:Nat): List Nat:=(List.range N).filter λv=>set.testBit v
def Jm(E:List Nat)(set:Nat): Nat->List Nat
 | 0=>[]
 | i+1=>let p:=(E.getD i 0) &&& set
  if p=0∨(List.range i).any (λk=>(E.getD k 0) &&& set == p) then Jm E set i else Jm E set i++[i]
def Vk(N:Nat)(E:List Nat)(set:Nat): List (List PR):=(Jm E set E.length).map λi=>(Jb N set).map λv=>PR.int (((E.getD i 0) &&& set).testBit v).toNat
structure PC where
 ws: List PR
 ps:List PR
 val:PR
deriving DecidableEq
def Yt(l:List PR)(is:List Nat)(xs:List PR): List PR:=(is.zip xs).foldl (λl p=>l.set p.1 p.2) l
def cvr(fuel N:Nat)(E:List Nat)(set:Nat): Option PC:=(PT.maxim ((Jb N set).length+(Jm E set E.length).length) fuel (PT.ofP (Jb N set).length (Vk N E set))).map λt=>⟨Yt (List.replicate E.length pr0) (Jm E set E.length) t.dual,Yt (List.replicate N pr0) (Jb N set) t.point,t.goal.getD t.right pr0⟩
def dnm(ws:List PR): Nat:=ws.foldl (λd w=>d / Nat.gcd d w.norm.den*w.norm.den) 1
def Kq(ws:List PR)(sizes:List Nat)(d:Nat): Nat:=(ws.zip sizes).foldl (λr p=>r*p.2^(PR.norm (PR.mul p.1 (PR.norm ⟨false,d,0⟩))).num) 1
end Go.Proofs.YtebiphhfkdbpfaaGreat
namespace Go.Proofs.YtebiphhfkdbpfaaGreat.Bl
variable {K c i j k n p q s:Nat}{f g:Nat->Rat}{a b:Rat}
def Jc: Nat->(Nat->Rat)->Rat
 | 0,_=>0
 | n+1,f=>Jc n f+f n
theorem Gz(h:∀ j,j<n->f j=g j): Jc n f=Jc n g:=by
 induction n with
 | zero=>rfl
 | succ n ih=>rw[Jc,Jc,ih λj i=>h j om,h n om]
theorem Jqm(n:Nat)(f g:Nat->Rat)(k:Rat): Jc n (λj=>f j-k*g j)=Jc n f-k*Jc n g:=by
 induction n with
 | zero=>grind [Jc]
 | succ n ih=>grind [Jc]
theorem Gp(n:Nat)(f:Nat->Rat)(k:Rat): Jc n (λj=>k*f j)=k*Jc n f:=by
 induction n with
 | zero=>grind [Jc]
 | succ n ih=>grind [Jc]
theorem Jyc(n:Nat)(f g:Nat->Rat): Jc n (λj=>f j+g j)=Jc n f+Jc n g:=by
 induction n with
 | zero=>grind [Jc]
 | succ n ih=>grind [Jc]
theorem Jql(h:∀ j,j<n->f j=0): Jc n f=0:=by
 induction n with
 | zero=>rfl
 | succ n ih=>rw[Jc,ih λj i=>h j om,h n om];grind
theorem Gx(hc:c<n)(h:∀ j,j<n->j≠c->f j=0): Jc n f=f c:=by
 induction n with
 | zero=>omega
 | succ n ih=>
  rw[Jc];by_cases e:c=n
  .subst e;rw[Jql λj u=>h j om om];grind
  rw[ih om λj u i=>h j om i,h n om om];grind
theorem Qkt(h:0<Jc n f): ∃ j,j<n/\0<f j:=by
 induction n with
 | zero=>simp[Jc]at h
 | succ n ih=>
  rw[Jc]at h;by_cases e:0<f n
  .exact⟨n,om,e⟩
  obtain⟨j,u,i⟩:=ih (by grind);exact⟨j,om,i⟩
theorem Qks(n m:Nat)(f:Nat->Nat->Rat): Jc n (λj=>Jc m λi=>f i j)=Jc m λi=>Jc n λj=>f i j:=by
 induction n with
 | zero=>simp only[Jc];exact(Jql λ_ _=>rfl).symm
 | succ n ih=>simp only[Jc];rw[ih,<-Jyc]
structure QT where
 a: Nat->Nat->Rat
 b:Nat->Rat
 g:Nat->Rat
 z:Rat
 β:Nat->Nat
def QT.pivot(t:QT)(r c:Nat): QT :=
 ⟨λi j=>if i=r then t.a r j / t.a r c else t.a i j-t.a i c*(t.a r j / t.a r c),λi=>if i=r then t.b r / t.a r c else t.b i-t.a i c*(t.b r / t.a r c),λj=>t.g j-t.g c*(t.a r j / t.a r c),t.z-t.g c*(t.b r / t.a r c),λi=>if i=r then c else t.β i⟩
def Sol(m n:Nat)(t:QT)(x:Nat->Rat): Prop:=∀ i,i<m->Jc n (λj=>t.a i j*x j)=t.b i
def QT.val(n:Nat)(t:QT)(x:Nat->Rat): Rat:=t.z-Jc n λj=>t.g j*x j
structure WF(m n:Nat)(t:QT): Prop where
 lt:∀ i,i<m->t.β i<n
 unit:∀ i k,i<m->k<m->t.a k (t.β i)=if k=i then 1 else 0
 red:∀ i,i<m->t.g (t.β i)=0
variable {m n r c:Nat} {t:QT} {x:Nat->Rat}
theorem Jyv(hp:t.a r c≠0): Jc n (λj=>t.a r j / t.a r c*x j)=Jc n (λj=>t.a r j*x j) / t.a r c:=by
 rw[show(λj=>t.a r j / t.a r c*x j)=λj=>(1 / t.a r c)*(t.a r j*x j) by funext j;grind,Gp];grind
theorem Qwl(hr:r<m)(hp:t.a r c≠0)(h:Sol m n t x): Sol m n (t.pivot r c) x:=λi hi=>by
 have h0:=h r hr;have u:=Jyv (n:=n) (x:=x) hp;by_cases e:i=r
 .subst e;simp only[QT.pivot,if_true];rw[u,h0]
 simp only[QT.pivot,if_neg e];rw[show(λj=>(t.a i j-t.a i c*(t.a r j / t.a r c))*x j)=λj=>t.a i j*x j-t.a i c*(t.a r j / t.a r c*x j) by funext j;grind,Jqm,u,h0,h i hi]
theorem Jhl(hr:r<m)(hp:t.a r c≠0)(h:Sol m n (t.pivot r c) x): Sol m n t x:=by
 have h0:=h r hr;have u:=Jyv (n:=n) (x:=x) hp;simp only[QT.pivot,if_true]at h0;rw[u]at h0;have D:Jc n (λj=>t.a r j*x j)=t.b r:=by grind
 intro i hi;by_cases e:i=r
 .subst e;exact D
 have y:=h i hi;simp only[QT.pivot,if_neg e]at y;rw[show(λj=>(t.a i j-t.a i c*(t.a r j / t.a r c))*x j)=λj=>t.a i j*x j-t.a i c*(t.a r j / t.a r c*x j) by funext j;grind,Jqm,u,D]at y;grind
theorem Jgp(hr:r<m)(hp:t.a r c≠0)(h:Sol m n t x): (t.pivot r c).val n x=t.val n x:=by
 have h0:=h r hr;have i:=Jyv (n:=n) (x:=x) hp;simp only[QT.val,QT.pivot];rw[show(λj=>(t.g j-t.g c*(t.a r j / t.a r c))*x j)=λj=>t.g j*x j-t.g c*(t.a r j / t.a r c*x j) by funext j;grind,Jqm,i,h0];grind
theorem WF.inj(h:WF m n t)(hi:i<m)(hk:k<m)(e:t.β i=t.β k): i=k:=by
 have u:=h.unit i i hi hi;have j:=h.unit k i hk hi;rw[<-e,u]at j;by_cases e2:i=k
 .exact e2
 rw[if_neg e2]at j;simp at j
theorem Jgg(h:WF m n t)(hr:r<m)(hc:c<n)(hp:t.a r c≠0): WF m n (t.pivot r c):=by
 refine⟨λi hi=>?_,λi k hi y=>?_,λi hi=>?_⟩
 .simp only[QT.pivot];split
  .exact hc
  exact h.lt i hi
 .have u:=h.unit i k hi y;have j:=h.unit i r hi hr;simp only[QT.pivot];by_cases e:i=r
  .subst e;simp only[if_true];by_cases e2:k=i
   .subst e2;simp only[if_true];grind
   simp only[if_neg e2];grind
  simp only[if_neg e];rw[if_neg (λh=>e h.symm)]at j;by_cases e2:k=r
  .subst e2;rw[if_neg (λh=>e h.symm)]at u;simp only[if_true];rw[u,if_neg (λh=>e h.symm)];grind
  simp only[if_neg e2];rw[j,u];grind
 simp only[QT.pivot];by_cases e:i=r
 .subst e;simp only[if_true];grind
 simp only[if_neg e];have j:=h.unit i r hi hr;rw[if_neg (λh=>e h.symm)]at j;rw[j,h.red i hi];grind
def QT.pt(m:Nat)(t:QT)(s:Nat)(l:Rat): Nat->Rat:=λj=>(if j=s then l else 0)+Jc m λi=>if t.β i=j then t.b i-t.a i s*l else 0
theorem Kj(hw:WF m n t)(hs:s<n)(l:Rat)(h:Nat->Rat): Jc n (λj=>h j*t.pt m s l j)=h s*l+Jc m λi=>h (t.β i)*(t.b i-t.a i s*l):=by
 have e:(λj=>h j*t.pt m s l j)=λj=>(h j*(if j=s then l else 0))+Jc m λi=>h j*(if t.β i=j then t.b i-t.a i s*l else 0):=by
  funext j;rw[Gp];simp only[QT.pt];grind
 rw[e,Jyc,Qks];congr 1
 .rw[Gx hs λj _ u=>by rw[if_neg u];grind,if_pos rfl]
 refine Gz λi hi=>?_;rw[Gx (hw.lt i hi) λj _ u=>by rw[if_neg (λh=>u h.symm)];grind,if_pos rfl]
theorem Gw(hw:WF m n t)(hs:s<n)(l:Rat): Sol m n t (t.pt m s l):=λk u=>by
 rw[Kj hw hs l (λj=>t.a k j),Gz (g:=λi=>if i=k then t.b k-t.a k s*l else 0),Gx u λj _ y=>if_neg y,if_pos rfl]
 .grind
 intro i hi;rw[hw.unit i k hi u];by_cases e:k=i
 .subst e;simp only[if_true];grind
 rw[if_neg e,if_neg (λh=>e h.symm)];grind
theorem Jkg(hw:WF m n t)(hs:s<n)(l:Rat): t.val n (t.pt m s l)=t.z-t.g s*l:=by
 unfold QT.val;rw[Kj hw hs l t.g,Jql (f:=λi=>t.g (t.β i)*(t.b i-t.a i s*l)) λi hi=>by rw[hw.red i hi];grind];grind
structure Eqv(m n:Nat)(t u:QT): Prop where
 sol:∀ x,Sol m n t x->Sol m n u x
 val:∀ x,Sol m n t x->t.val n x=u.val n x
theorem Eqv.refl(t:QT): Eqv m n t t:=⟨λx h=>h,λx h=>rfl⟩
theorem Eqv.trans{u v:QT}(h:Eqv m n t u)(k:Eqv m n u v): Eqv m n t v:=⟨λx i=>k.sol x (h.sol x i),λx i=>(h.val x i).trans (k.val x (h.sol x i))⟩
theorem Jsm(hr:r<m)(hp:t.a r c≠0): Eqv m n t (t.pivot r c):=⟨λx h=>Qwl hr hp h,λx h=>(Jgp hr hp h).symm⟩
theorem Jsn(hr:r<m)(hp:t.a r c≠0): Eqv m n (t.pivot r c) t:=⟨λx h=>Jhl hr hp h,λx h=>Jgp hr hp (Jhl hr hp h)⟩
theorem Jbd{u:QT}(hw:WF m n t)(he:Eqv m n t u)(hs:s<n): t.g s=u.g s-Jc m λi=>u.g (t.β i)*t.a i s:=by
 have h0:=he.val _ (Gw hw hs 0);have j:=he.val _ (Gw hw hs 1);rw[Jkg hw hs]at h0 j;unfold QT.val at h0 j;rw[Kj hw hs _ u.g]at h0 j;have e:Jc m (λi=>u.g (t.β i)*(t.b i-t.a i s*1))=Jc m (λi=>u.g (t.β i)*(t.b i-t.a i s*0))-1*Jc m (λi=>u.g (t.β i)*t.a i s):=by
  rw[<-Jqm];congr 1;funext i;grind
 rw[e]at j;grind
structure Bst(m n:Nat)(t:QT)(r c:Nat): Prop where
 rm:r<m
 cn:c<n
 ent:t.g c<0
 first:∀ j,j<c->0<=t.g j
 pos:0<t.a r c
 ratio:∀ i,i<m->0<t.a i c->t.b r / t.a r c<=t.b i / t.a i c/\(t.b i / t.a i c=t.b r / t.a r c->t.β r<=t.β i)
def Kr(m:Nat)(t:QT): Prop:=∀ i,i<m->0<=t.b i
theorem Jsq(ha:0<=a)(hb:0<b): 0<=a / b:=by
 rw[Rat.div_def];exact Rat.mul_nonneg ha (Rat.le_of_lt (Rat.inv_pos.2 hb))
theorem Jsj(h:Bst m n t r c)(hf:Kr m t): Kr m (t.pivot r c):=λi hi=>by
 have j:=Jsq (hf r h.rm) h.pos;simp only[QT.pivot];by_cases e:i=r
 .rw[if_pos e];exact j
 rw[if_neg e];by_cases hp:0<t.a i c
 .have u:=(h.ratio i hi hp).1;have y:t.a i c*(t.b r / t.a r c)<=t.a i c*(t.b i / t.a i c):=Rat.mul_le_mul_of_nonneg_left u (Rat.le_of_lt hp);have D:t.a i c*(t.b i / t.a i c)=t.b i:=by grind
  grind
 have u:t.a i c*(t.b r / t.a r c)<=0*(t.b r / t.a r c):=Rat.mul_le_mul_of_nonneg_right (by grind) j;have y:=hf i hi;grind
theorem Qfn(ha:a<0)(hb:0<b): a*b<0:=by
 have:=Rat.mul_pos (show 0 < -a by grind) hb;grind
structure Run(m n K:Nat)(T:Nat->QT)(R C:Nat->Nat): Prop where
 w0:WF m n (T 0)
 f0:Kr m (T 0)
 st:∀ k,k<K->Bst m n (T k) (R k) (C k)
 nx:∀ k,k<K->T (k+1)=(T k).pivot (R k) (C k)
section
variable {K:Nat} {T:Nat->QT} {R C:Nat->Nat} (h:Run m n K T R C)
include h
theorem Run.ne(hk:k<K): (T k).a (R k) (C k)≠0:=by have:=(h.st k hk).pos;grind
theorem Run.wf: ∀ {k:Nat},k<=K->WF m n (T k)
 | 0,_=>h.w0
 | k+1,hk=>by rw[h.nx k hk];exact Jgg (Run.wf om) (h.st k hk).rm (h.st k hk).cn (h.ne hk)
theorem Run.feas: ∀ {k:Nat},k<=K->Kr m (T k)
 | 0,_=>h.f0
 | k+1,hk=>by rw[h.nx k hk];exact Jsj (h.st k hk) (Run.feas om)
theorem Run.up{j:Nat}: ∀ {k:Nat},j<=k->k<=K->Eqv m n (T j) (T k)/\Eqv m n (T k) (T j)
 | 0,h1,_=>by(obtain rfl:j=0:=by omega);(exact⟨Eqv.refl _,Eqv.refl _⟩)
 | k+1,h1,hk=>by
  by_cases e:j=k+1
  .subst e;exact⟨Eqv.refl _,Eqv.refl _⟩
  obtain⟨i1,i2⟩:=Run.up (j:=j) (k:=k) om om;rw[h.nx k hk];exact⟨i1.trans (Jsm (h.st k hk).rm (h.ne hk)),(Jsn (h.st k hk).rm (h.ne hk)).trans i2⟩
theorem Run.eqv(hj:j<=K)(hk:k<=K): Eqv m n (T j) (T k):=by
 rcases Nat.le_total j k with e|e
 .exact(h.up e hk).1
 exact(h.up e hj).2
theorem Run.zle{j:Nat}: ∀ {k:Nat},j<=k->k<=K->(T j).z<=(T k).z
 | 0,h1,_=>by(obtain rfl:j=0:=by omega);(grind)
 | k+1,h1,hk=>by
  by_cases e:j=k+1
  .subst e;grind
  have h2:=Run.zle (j:=j) (k:=k) om om;have hs:=h.st k hk;have hq:=Jsq (h.feas (k:=k) om _ hs.rm) hs.pos;have h3:(T k).g (C k)*((T k).b (R k) / (T k).a (R k) (C k))<=0*((T k).b (R k) / (T k).a (R k) (C k)):=Rat.mul_le_mul_of_nonneg_right (by have:=hs.ent;grind) hq;rw[h.nx k hk];simp only[QT.pivot];grind
theorem Run.β(hk:k<K): (T (k+1)).β i=if i=R k then C k else(T k).β i:=by rw[h.nx k hk];rfl
theorem Run.enter{y j:Nat}(h0:¬ ∃ i,i<m/\(T j).β i=y): ∀ {k:Nat},j<=k->k<=K->(∃ i,i<m/\(T k).β i=y)->∃ e,j<=e/\e<k/\C e=y
 | 0,h1,_,h2=>by(obtain rfl:j=0:=by omega);(exact absurd h2 h0)
 | k+1,h1,hk,⟨i,hi,h2⟩=>by
  by_cases e:j=k+1
  .subst e;exact absurd ⟨i,hi,h2⟩ h0
  rw[h.β hk]at h2;by_cases e2:i=R k
  .rw[if_pos e2]at h2;exact⟨k,om,om,h2⟩
  rw[if_neg e2]at h2;obtain⟨e,h3,h4,h5⟩:=Run.enter h0 (k:=k) om om ⟨i,hi,h2⟩;exact⟨e,h3,om,h5⟩
theorem Run.leave{y j:Nat}(h0:∃ i,i<m/\(T j).β i=y): ∀ {k:Nat},j<=k->k<=K->(¬ ∃ i,i<m/\(T k).β i=y)->∃ e,j<=e/\e<k/\(T e).β (R e)=y
 | 0,h1,_,h2=>by(obtain rfl:j=0:=by omega);(exact absurd h0 h2)
 | k+1,h1,hk,h2=>by
  by_cases e:j=k+1
  .subst e;exact absurd h0 h2
  by_cases e2:∃ i,i<m/\(T k).β i=y
  .obtain⟨i,hi,h3⟩:=e2;by_cases e3:i=R k
   .exact⟨k,om,om,by rw[<-e3];exact h3⟩
   exact absurd ⟨i,hi,by rw[h.β hk,if_neg e3];exact h3⟩ h2
  obtain⟨e,h3,h4,h5⟩:=Run.leave h0 (k:=k) om om e2;exact⟨e,h3,om,h5⟩
theorem Run.cycle(hpq : p < q)(hq : q ≤ K)(hβ : ∀ i, i < m → (T p).β i = (T q).β i): False := by
  have hs0 := (h.st p om).cn
  have wp := h.wf (k := p) om
  have wq := h.wf hq
  have hx := Gw wp hs0 0
  have he := h.eqv (j := p) (k := q) om hq
  -- the values are the same
  have hz : (T p).z = (T q).z := by
    have h1 := he.val _ hx
    rw [Jkg wp hs0] at h1
    unfold QT.val at h1
    rw [Kj wp hs0 0 (T q).g, Jql (f := fun i => (T q).g ((T p).β i) * ((T p).b i - (T p).a i (C p) * 0)) fun i hi => by rw [hβ i hi, wq.red i hi]; grind] at h1
    grind
  have hzk : ∀ k, p ≤ k → k ≤ q → (T k).z = (T p).z := fun k h1 h2 => by
    have k1 := h.zle h1 om
    have k2 := h.zle h2 hq
    grind
  have hdeg : ∀ k, p ≤ k → k < q → (T k).b (R k) / (T k).a (R k) (C k) = 0 := fun k h1 h2 => by
    have k1 := hzk k h1 om
    have k2 := hzk (k + 1) om om
    rw [h.nx k om] at k2
    simp only [QT.pivot] at k2
    have k3 := (h.st k om).ent
    have k4 : (T k).g (C k) * ((T k).b (R k) / (T k).a (R k) (C k)) = 0 := by grind
    rcases Rat.mul_eq_zero.1 k4 with k5 | k5
    . grind
    . exact k5
  have hbr : ∀ k, p ≤ k → k < q → (T k).b (R k) = 0 := fun k h1 h2 => by
    have k1 := hdeg k h1 h2
    have k2 := (h.st k om).pos
    grind
  have hbs : ∀ k, p ≤ k → k < q → ∀ i, (T (k + 1)).b i = (T k).b i := fun k h1 h2 i => by
    have k1 := hdeg k h1 h2
    have k2 := hbr k h1 h2
    rw [h.nx k om]
    simp only [QT.pivot]
    by_cases e : i = R k
    . rw [if_pos e, k1, e, k2]
    . rw [if_neg e, k1]; grind
  -- a basic variable that is once beside the basis is 0
  have hZ : ∀ y j k, p ≤ j → j ≤ k → k ≤ q → ((∀ i, i < m → (T j).β i = y → (T j).b i = 0) ↔ ∀ i, i < m → (T k).β i = y → (T k).b i = 0) := by
    intro y j k h1 h2
    induction k with
    | zero => intro _; obtain rfl : j = 0 := by omega
              exact Iff.rfl
    | succ k ih =>
      intro h3
      by_cases e : j = k + 1
      . subst e; exact Iff.rfl
      . rw [ih om om]
        have kb := hbs k om om
        have k0 := hbr k om om
        refine ⟨fun hh i hi hy => ?_, fun hh i hi hy => ?_⟩
        . rw [h.β om] at hy
          rw [kb]
          by_cases e2 : i = R k
          . rw [e2]; exact k0
          . rw [if_neg e2] at hy; exact hh i hi hy
        . by_cases e2 : i = R k
          . rw [e2]; exact k0
          . have := hh i hi (by rw [h.β om, if_neg e2]; exact hy)
            rwa [kb] at this
  have hZ2 : ∀ y j k, p ≤ j → j ≤ q → p ≤ k → k ≤ q → (¬ ∃ i, i < m ∧ (T j).β i = y) → ∀ i, i < m → (T k).β i = y → (T k).b i = 0 := fun y j k h1 h2 h3 h4 h5 => by
    have h6 : ∀ i, i < m → (T j).β i = y → (T j).b i = 0 := fun i hi hy => absurd ⟨i, hi, hy⟩ h5
    rcases Nat.le_total j k with e | e
    . exact (hZ y j k h1 e h4).1 h6
    . exact (hZ y k j h3 e h2).2 h6
  -- the greatest column that comes in
  obtain ⟨u, hu1, hu2, hmax⟩ : ∃ u, p ≤ u ∧ u < q ∧ ∀ e, p ≤ e → e < q → C e ≤ C u := by
    have key : ∀ k, p < k → k ≤ q → ∃ u, p ≤ u ∧ u < k ∧ ∀ e, p ≤ e → e < k → C e ≤ C u := by
      intro k
      induction k with
      | zero => intro h1; omega
      | succ k ih =>
        intro h1 h2
        by_cases e : p = k
        . subst e; exact ⟨p, nR _, by omega, fun e h3 h4 => by rw [show e = p by omega]; exact nR _⟩
        . obtain ⟨u, k1, k2, k3⟩ := ih om om
          by_cases e2 : C u ≤ C k
          . exact ⟨k, by omega, by omega, fun e h3 h4 => by
              by_cases e3 : e = k
              . rw [e3]; exact nR _
              . exact nL (k3 e h3 om) e2⟩
          . exact ⟨u, k1, by omega, fun e h3 h4 => by
              by_cases e3 : e = k
              . rw [e3]; omega
              . exact k3 e h3 om⟩
    exact key q hpq (nR _)
  have su := h.st u om
  have wu := h.wf (k := u) om
  have hnu : ¬ ∃ i, i < m ∧ (T u).β i = C u := fun ⟨i, hi, e⟩ => by
    have := wu.red i hi
    rw [e] at this
    have := su.ent
    grind
  have hiu : ∃ i, i < m ∧ (T (u + 1)).β i = C u := ⟨R u, su.rm, by rw [h.β om, if_pos rfl]⟩
  have hsame : ∀ y, (∃ i, i < m ∧ (T p).β i = y) ↔ ∃ i, i < m ∧ (T q).β i = y := fun y => ⟨fun ⟨i, hi, e⟩ => ⟨i, hi, by rw [← hβ i hi]; exact e⟩, fun ⟨i, hi, e⟩ => ⟨i, hi, by rw [hβ i hi]; exact e⟩⟩
  obtain ⟨v, hv1, hv2, hv⟩ : ∃ v, p ≤ v ∧ v < q ∧ (T v).β (R v) = C u := by
    by_cases e : ∃ i, i < m ∧ (T q).β i = C u
    . obtain ⟨v, k1, k2, k3⟩ := h.leave ((hsame _).2 e) (k := u) hu1 om hnu
      exact ⟨v, k1, by omega, k3⟩
    . obtain ⟨v, k1, k2, k3⟩ := h.leave hiu (k := q) om hq e
      exact ⟨v, by omega, k2, k3⟩
  have sv := h.st v om
  have wv := h.wf (k := v) om
  have hst : C v ≠ C u := fun e => by
    have := wv.red (R v) sv.rm
    rw [hv, ← e] at this
    have := sv.ent
    grind
  have hle := hmax v hv1 hv2
  have hgs := su.first (C v) om
  have hre := Jbd wv (h.eqv (j := v) (k := u) om om) sv.cn
  have hsv := sv.ent
  obtain ⟨i, hi, hpi⟩ := Qkt (n := m) (f := fun i => (T u).g ((T v).β i) * (T v).a i (C v)) (by grind)
  have hir : i ≠ R v := fun e => by
    rw [e, hv] at hpi
    have := Qfn su.ent sv.pos
    grind
  have hny : ¬ ∃ k, k < m ∧ (T u).β k = (T v).β i := fun ⟨k, hk, e⟩ => by
    have := wu.red k hk
    rw [e] at this
    rw [this] at hpi
    grind
  have hyv : ∃ k, k < m ∧ (T v).β k = (T v).β i := ⟨i, hi, rfl⟩
  have hy : (T v).β i ≤ C u := by
    have : ∃ e, p ≤ e ∧ e < q ∧ C e = (T v).β i := by
      rcases Nat.le_total u v with e | e
      . obtain ⟨e, k1, k2, k3⟩ := h.enter hny (k := v) e om hyv
        exact ⟨e, by omega, by omega, k3⟩
      . by_cases eq : ∃ k, k < m ∧ (T q).β k = (T v).β i
        . obtain ⟨e, k1, k2, k3⟩ := h.enter hny (k := q) om hq eq
          exact ⟨e, by omega, k2, k3⟩
        . obtain ⟨e, k1, k2, k3⟩ := h.enter (fun hh => eq ((hsame _).1 hh)) (k := v) hv1 om hyv
          exact ⟨e, k1, by omega, k3⟩
    obtain ⟨e, k1, k2, k3⟩ := this
    rw [← k3]; exact hmax e k1 k2
  have hyt : (T v).β i ≠ C u := fun e => hir (wv.inj hi sv.rm (by rw [e, hv]))
  have hgy := su.first ((T v).β i) om
  have hap : 0 < (T v).a i (C v) := by
    rcases Rat.le_total (b := 0) (a := (T v).a i (C v)) with k | k
    . have := Rat.mul_le_mul_of_nonneg_left k hgy
      grind
    . by_cases e : (T v).a i (C v) = 0
      . rw [e] at hpi; grind
      . grind
  have hbi := hZ2 ((T v).β i) u v hu1 om hv1 om hny i hi rfl
  have hra := (sv.ratio i hi hap).2 (by rw [hbi, hdeg v hv1 hv2]; grind)
  rw [hv] at hra
  omega
end
def cod(n:Nat)(β:Nat->Nat): Nat->Nat
 | 0=>0
 | m+1=>cod n β m*n+β m
theorem Jtd{n:Nat}{β:Nat->Nat}: ∀ {m:Nat},(∀ i,i<m->β i<n)->cod n β m<n^m
 | 0,_=>by simp[cod]
 | m+1,h=>by
  have ih:=Jtd (m:=m) λi hi=>h i om;have h1:=h m om;rw[cod,Nat.pow_succ];have h2:(cod n β m+1)*n<=n^m*n:=nO n ih;rw[Nat.succ_mul]at h2;omega
theorem Jtf{n:Nat}{β γ:Nat->Nat}: ∀ {m:Nat},(∀ i,i<m->β i<n)->(∀ i,i<m->γ i<n)->cod n β m=cod n γ m->∀ i,i<m->β i=γ i
 | 0,_,_,_,i,hi=>by omega
 | m+1,h1,h2,e,i,hi=>by
  rw[cod,cod]at e;have b1:=h1 m om;have b2:=h2 m om;have e1:β m=γ m:=by
   have:=congrArg (· % n) e
   simp only[Nat.mul_comm _ n,Nat.mul_add_mod,Nat.mod_eq_of_lt b1,Nat.mod_eq_of_lt b2]at this;exact this
  by_cases ei:i=m
  .rw[ei];exact e1
  refine Jtf (m:=m) (λi hi=>h1 i om) (λi hi=>h2 i om) ?_ i om;rw[e1]at e;exact Nat.eq_of_mul_eq_mul_right om (Nat.add_right_cancel e)
theorem Jks: ∀(k:Nat) {l:List Nat},l.Nodup->(∀ u∈l,u<k)->l.length<=k
 | 0,l,_,h=>by cases l with
  | nil=>simp
  | cons a l=>exact absurd (h a mC) om
 | k+1,l,hn,h=>by
  by_cases e:k∈l
  .have h1:=Jks k (l:=l.erase k) (hn.erase k) λu hu=>by
    have h2:=h u (List.mem_of_mem_erase hu);have h3:u≠k:=λe=>by subst e;exact(List.Nodup.mem_erase_iff hn).1 hu |>.1 rfl
    omega
   rw[List.length_erase_of_mem e]at h1;omega
  have:=Jks k hn λu hu=>by
   have h2:=h u hu;have h3:u≠k:=λe'=>by subst e';exact e hu
   omega
  omega
theorem Run.short{T:Nat->QT}{R C:Nat->Nat}(h:Run m n K T R C): K<n^m:=by
 rcases Nat.lt_or_ge K (n^m) with h1|h1
 .exact h1
 exfalso
 have y:∀ k,k<=K->∀ i,i<m->(T k).β i<n:=λk D i hi=>(h.wf D).lt i hi;have O:=Jks (n^m) (l:=(List.range (K+1)).map λk=>cod n (T k).β m) (by
  unfold List.Nodup;rw[List.pairwise_map];refine List.pairwise_iff_getElem.2 λi j hi J F=>?_;simp only[List.length_range]at hi J;simp only[List.getElem_range];intro e;exact h.cycle F om (Jtf (y i om) (y j om) e)) (λu G=>by
  obtain⟨k,D,rfl⟩:=List.mem_map.1 G;exact Jtd (y k (by have:=List.mem_range.1 D;omega)))
 simp at O;omega
end Go.Proofs.YtebiphhfkdbpfaaGreat.Bl
namespace Go.Proofs.YtebiphhfkdbpfaaGreat
open Bl
variable {i k:Nat}
theorem PR.cmp_val{a b:PR}(ha:a.den≠0)(hb:b.den≠0): (PR.cmp a b<0↔a.val<b.val)/\(PR.cmp a b=0↔a.val=b.val):=by
 obtain⟨a1,O,a3⟩:=PR.sign_val ha;obtain⟨b1,J,b3⟩:=PR.sign_val hb;have da:a.dvs=a.den:=by rw[PR.dvs,if_neg ha]
 have db:b.dvs=b.den:=by rw[PR.dvs,if_neg hb]
 have G:a.sign = -1∨a.sign=0∨a.sign=1:=by(unfold PR.sign;by_cases y:a.num=0<;>by_cases i:a.neg=true<;>simp[y,i])
 have sb:b.sign = -1∨b.sign=0∨b.sign=1:=by(unfold PR.sign;by_cases y:b.num=0<;>by_cases i:b.neg=true<;>simp[y,i])
 unfold PR.cmp;by_cases e:a.sign=b.sign
 .rw[if_neg (λh=>h e),da,db];have pa:(0:Rat)<a.den:=Rat.natCast_pos.2 om;have Z:(0:Rat)<b.den:=Rat.natCast_pos.2 om;have j:(a.num*b.den<b.num*a.den)↔(a.num:Rat) / a.den<(b.num:Rat) / b.den:=by
   rw[<-Rat.natCast_lt_natCast,Rat.natCast_mul,Rat.natCast_mul,Rat.div_lt_iff pa];have:(b.num:Rat) / b.den*a.den=(b.num*a.den) / b.den:=by grind
   rw[this,Rat.lt_div_iff Z]
  have u:(a.num*b.den=b.num*a.den)↔(a.num:Rat) / a.den=(b.num:Rat) / b.den:=by
   rw[<-Rat.natCast_inj,Rat.natCast_mul,Rat.natCast_mul];constructor<;>intro h<;>grind
  have U:a.sign = -1->a.val = -((a.num:Rat) / a.den):=λh=>by
   unfold PR.sign at h;unfold PR.val;split at h
   .simp at h
   split at h
   .rename_i i;rw[if_pos i];grind
   simp at h
  have vb:b.sign = -1->b.val = -((b.num:Rat) / b.den):=λh=>by
   unfold PR.sign at h;unfold PR.val;split at h
   .simp at h
   split at h
   .rename_i i;rw[if_pos i];grind
   simp at h
  have F:a.sign=1->a.val=(a.num:Rat) / a.den:=λh=>by
   unfold PR.sign at h;unfold PR.val;split at h
   .simp at h
   split at h
   .simp at h
   rename_i i;rw[if_neg i]
  have D:b.sign=1->b.val=(b.num:Rat) / b.den:=λh=>by
   unfold PR.sign at h;unfold PR.val;split at h
   .simp at h
   split at h
   .simp at h
   rename_i i;rw[if_neg i]
  rcases G with h|h|h
  .rw[U h,vb (e ▸ h),h];constructor
   .split
    .have:=j.1 ‹_›;grind
    split
    .have:=u.1 ‹_›;grind
    rename_i y i;rw[j]at y;rw[u]at i;grind
   split
   .have:=j.1 ‹_›;grind
   split
   .have:=u.1 ‹_›;grind
   rename_i y i;rw[j]at y;rw[u]at i;grind
  .have y:=O.1 h;have i:=J.1 (e ▸ h);rw[h,y,i];simp
  rw[F h,D (e ▸ h),h];constructor
  .split
   .have:=j.1 ‹_›;grind
   split
   .have:=u.1 ‹_›;grind
   rename_i y i;rw[j]at y;rw[u]at i;grind
  split
  .have:=j.1 ‹_›;grind
  split
  .have:=u.1 ‹_›;grind
  rename_i y i;rw[j]at y;rw[u]at i;grind
 rw[if_pos e];have:(a.sign<b.sign↔a.val<b.val)/\a.val≠b.val:=by
  rcases G with h|h|h<;>rcases sb with k|k|k<;>first|exact absurd (h.trans k.symm) e|(rw[h]at a1 O a3;rw[k]at b1 J b3;rw[h,k];constructor<;>grind)
 split
 .rename_i h;have:=this.1.1 h;simp[this];exactλe=>by grind
 rename_i h;simp;refine⟨by have:=this.1;grind,this.2⟩
def PT.q(t:PT): QT:=⟨λi j=>((t.rows.getD i []).getD j pr0).val,λi=>((t.rows.getD i []).getD t.right pr0).val,λj=>(t.goal.getD j pr0).val,(t.goal.getD t.right pr0).val,λi=>t.basis.getD i 0⟩
def ROk(k:Nat)(l:List PR): Prop:=l.length=k/\∀ j,j<k->(l.getD j pr0).den≠0
structure POk(t:PT): Prop where
 rows:t.rows.length=t.m
 row:∀ i,i<t.m->ROk (t.right+1) (t.rows.getD i [])
 goal:ROk (t.right+1) t.goal
 basis:t.basis.length=t.m
theorem Xc{α:Type}(d:α){l:List α}(h:i<l.length): l.getD i d=l[i]:=by simp[List.getD,h]
theorem Jwv{row other:List PR}{f:PR}(hr:ROk k row)(ho:ROk k other)(hf:f.den≠0): ROk k (Zx row other f)/\∀ j,j<k->((Zx row other f).getD j pr0).val=(row.getD j pr0).val-f.val*(other.getD j pr0).val:=by
 have u:=(PR.sign_val hf).2.1;unfold Zx;by_cases h0:f.sign=0
 .rw[if_pos h0];refine⟨hr,λj i=>?_⟩;rw[u.1 h0];grind
 rw[if_neg h0];have D:(List.zipWith (λa b=>if b.sign≠0 then PR.sub a (PR.mul f b) else a) row other).length=k:=by rw[List.length_zipWith,hr.1,ho.1,Nat.min_self]
 have key:∀ j,j<k->(List.zipWith (λa b=>if b.sign≠0 then PR.sub a (PR.mul f b) else a) row other).getD j pr0=if(other.getD j pr0).sign≠0 then PR.sub (row.getD j pr0) (PR.mul f (other.getD j pr0)) else row.getD j pr0:=λj i=>by
  rw[Xc pr0 om,Xc pr0 (l:=row) (by rw[hr.1];exact i),Xc pr0 (l:=other) (by rw[ho.1];exact i)];simp
 refine⟨⟨D,λj i=>?_⟩,λj i=>?_⟩
 .rw[key j i];split
  .exact(PR.sub_val (hr.2 j i) (PR.mul_val hf (ho.2 j i)).2).2
  exact hr.2 j i
 rw[key j i];have y:=(PR.sign_val (ho.2 j i)).2.1;split
 .rw[(PR.sub_val (hr.2 j i) (PR.mul_val hf (ho.2 j i)).2).1,(PR.mul_val hf (ho.2 j i)).1]
 rename_i h1;have F:(other.getD j pr0).sign=0:=by
  by_cases e:(other.getD j pr0).sign=0
  .exact e
  exact absurd e h1
 rw[y.1 F];grind
theorem Jdc{row:List PR}{d:PR}(hr:ROk k row)(hd:d.den≠0)(h0:d.val≠0): ROk k (dvR row d)/\∀ j,j<k->((dvR row d).getD j pr0).val=(row.getD j pr0).val / d.val:=by
 have y:(dvR row d).length=k:=by rw[dvR,List.length_map,hr.1]
 have key:∀ j,j<k->(dvR row d).getD j pr0=if(row.getD j pr0).sign≠0 then PR.div (row.getD j pr0) d else row.getD j pr0:=λj i=>by
  rw[Xc pr0 om,Xc pr0 (l:=row) (by rw[hr.1];exact i)];simp[dvR]
 refine⟨⟨y,λj i=>?_⟩,λj i=>?_⟩
 .rw[key j i];split
  .exact(PR.div_val (hr.2 j i) hd h0).2
  exact hr.2 j i
 rw[key j i];have u:=(PR.sign_val (hr.2 j i)).2.1;split
 .exact(PR.div_val (hr.2 j i) hd h0).1
 rename_i h1;have D:(row.getD j pr0).sign=0:=by
  by_cases e:(row.getD j pr0).sign=0
  .exact e
  exact absurd e h1
 rw[u.1 D];grind
open Bl
variable {c cols i r:Nat}{t:PT}{T:QT}
structure Agr(t:PT)(T:QT): Prop where
 ok:POk t
 a:∀ i j,i<t.m->j<t.n+t.m->((t.rows.getD i []).getD j pr0).val=T.a i j
 b:∀ i,i<t.m->((t.rows.getD i []).getD t.right pr0).val=T.b i
 g:∀ j,j<t.n+t.m->(t.goal.getD j pr0).val=T.g j
 z:(t.goal.getD t.right pr0).val=T.z
 β:∀ i,i<t.m->t.basis.getD i 0=T.β i
theorem Jwk{α β:Type}(d:α)(e:β){l:List α}(f:Nat->α->β)(h:i<l.length): (l.mapIdx f).getD i e=f i (l.getD i d):=by
 rw[Xc e (by simpa using h),Xc d h];simp
theorem Qlp{l:List Nat}(h:i<l.length): (l.set r c).getD i 0=if i=r then c else l.getD i 0:=by
 rw[Xc 0 (by simpa using h),Xc 0 h,List.getElem_set];by_cases e:r=i
 .subst e;simp
 rw[if_neg e,if_neg (λh=>e h.symm)]
theorem Qsq(h:Agr t T)(hr:r<t.m)(hc:c<t.n+t.m)(h0:T.a r c≠0): Agr (t.pivot r c) (T.pivot r c):=by
 have hR:=h.ok.row r hr;have U:c<t.right+1:=by unfold PT.right;omega
 have F:t.right<t.right+1:=om
 have G:∀ j,j<t.n+t.m->j<t.right+1:=λj hj=>by unfold PT.right;omega
 have Z:((t.rows.getD r []).getD c pr0).val=T.a r c:=h.a r c hr hc;have hd:=hR.2 c U;obtain⟨dk,dv⟩:=Jdc hR hd (by rw[Z];exact h0);rw[Z]at dv;have D:∀ i,i<t.m->(t.pivot r c).rows.getD i []=if i=r then dvR (t.rows.getD r []) ((t.rows.getD r []).getD c pr0) else Zx (t.rows.getD i []) (dvR (t.rows.getD r []) ((t.rows.getD r []).getD c pr0)) ((t.rows.getD i []).getD c pr0):=λi hi=>by
  unfold PT.pivot;exact Jwk [] [] _ (by rw[h.ok.rows];exact hi)
 have O:=λi (hi:i<t.m)=>Jwv (h.ok.row i hi) dk ((h.ok.row i hi).2 c U);have J:=Jwv h.ok.goal dk (h.ok.goal.2 c U);refine⟨⟨?_,λi hi=>?_,J.1,?_⟩,λi j hi hj=>?_,λi hi=>?_,λj hj=>?_,?_,λi hi=>?_⟩
 .simp only[PT.pivot,List.length_mapIdx];exact h.ok.rows
 .have u:i<t.m:=hi;rw[D i u];by_cases e:i=r
  .rw[if_pos e];exact dk
  rw[if_neg e];exact(O i u).1
 .simp only[PT.pivot,List.length_set];exact h.ok.basis
 .have u:i<t.m:=hi;have y:j<t.n+t.m:=hj;rw[D i u];simp only[QT.pivot];by_cases e:i=r
  .rw[if_pos e,if_pos e,dv j (G j y),h.a r j hr y]
  rw[if_neg e,if_neg e,(O i u).2 j (G j y),h.a i j u y,h.a i c u hc,dv j (G j y),h.a r j hr y]
 .have u:i<t.m:=hi;rw[D i u];simp only[QT.pivot];have er:(t.pivot r c).right=t.right:=rfl;rw[er];by_cases e:i=r
  .rw[if_pos e,if_pos e,dv _ F,h.b r hr]
  rw[if_neg e,if_neg e,(O i u).2 _ F,h.b i u,h.a i c u hc,dv _ F,h.b r hr]
 .have y:j<t.n+t.m:=hj;simp only[QT.pivot];exact(J.2 j (G j y)).trans (by rw[h.g j y,h.g c hc,dv j (G j y),h.a r j hr y])
 .simp only[QT.pivot];exact(J.2 _ F).trans (by rw[h.z,h.g c hc,dv _ F,h.b r hr])
 have u:i<t.m:=hi;simp only[QT.pivot,PT.pivot];rw[Qlp (by rw[h.ok.basis];exact u),h.β i u]
theorem Jpg{t:PT}{T:QT}{c:Nat}(h:Agr t T)(hc:c<t.n+t.m): ∀ k,k<=t.m->match lvS t c k with
  | none=>∀ i,i<k->¬ 0<T.a i c
  | some (r,q)=>r<k/\0<T.a r c/\q.den≠0/\q.val=T.b r / T.a r c/\∀ i,i<k->0<T.a i c->T.b r / T.a r c<=T.b i / T.a i c/\(T.b i / T.a i c=T.b r / T.a r c->T.β r<=T.β i)
 | 0,_=>by simp only[lvS];intro i hi;omega
 | k+1,hk=>by
  have ih:=Jpg h hc k om;have hR:=h.ok.row k om;have hcR:c<t.right+1:=by unfold PT.right;omega
  have hrR:t.right<t.right+1:=om
  have ha:=h.a k c om hc;have hb:=h.b k om;have hs:=PR.sign_val (hR.2 c hcR);rw[ha]at hs;simp only[lvS];by_cases e:((t.rows.getD k []).getD c pr0).sign<=0
  .rw[if_pos e];have hn:¬ 0<T.a k c:=λhp=>by have:=hs.2.2.2 hp;omega
   cases hl:lvS t c k with
   | none=>
    rw[hl]at ih;intro i hi;by_cases ei:i=k
    .rw[ei];exact hn
    exact ih i om
   | some p=>
    obtain⟨r,q⟩:=p;rw[hl]at ih;obtain⟨h1,h2,h3,h4,h5⟩:=ih;refine⟨om,h2,h3,h4,λi hi hp=>?_⟩;by_cases ei:i=k
    .rw[ei]at hp;exact absurd hp hn
    exact h5 i om hp
  rw[if_neg e];have hp:0<T.a k c:=hs.2.2.1 om;have hq:=PR.div_val (hR.2 t.right hrR) (hR.2 c hcR) (by rw[ha];grind);rw[ha,hb]at hq;cases hl:lvS t c k with
  | none=>
   rw[hl]at ih;refine⟨om,hp,hq.2,hq.1,λi hi hpi=>?_⟩;by_cases ei:i=k
   .subst ei;exact⟨by grind,λ_=>nR _⟩
   exact absurd hpi (ih i om)
  | some p=>
   obtain⟨r,q⟩:=p;rw[hl]at ih;obtain⟨h1,h2,h3,h4,h5⟩:=ih;have hcv:=PR.cmp_val hq.2 h3;rw[hq.1,h4]at hcv;simp only[];by_cases e2:PR.cmp (PR.div ((t.rows.getD k []).getD t.right pr0) ((t.rows.getD k []).getD c pr0)) q<0∨(PR.cmp (PR.div ((t.rows.getD k []).getD t.right pr0) ((t.rows.getD k []).getD c pr0)) q=0/\t.basis.getD k 0<t.basis.getD r 0)
   .rw[if_pos e2];rw[hcv.1,hcv.2,h.β k om,h.β r om]at e2;refine⟨om,hp,hq.2,hq.1,λi hi hpi=>?_⟩;by_cases ei:i=k
    .subst ei;exact⟨by grind,λ_=>nR _⟩
    obtain⟨k1,k2⟩:=h5 i om hpi;rcases e2 with e2|⟨e2,e3⟩
    .exact⟨by grind,λhe=>by exfalso;grind⟩
    refine⟨by grind,λhe=>?_⟩;have:=k2 (by grind);omega
   rw[if_neg e2];rw[hcv.1,hcv.2,h.β k om,h.β r om]at e2;refine⟨om,h2,h3,h4,λi hi hpi=>?_⟩;by_cases ei:i=k
   .subst ei;have k1:¬ T.b i / T.a i c<T.b r / T.a r c:=λhh=>e2 (.inl hh);exact⟨by grind,λhe=>by
     rcases Nat.lt_or_ge (T.β i) (T.β r) with hh|hh
     .exact absurd (.inr ⟨he,hh⟩) e2
     exact hh⟩
   exact h5 i om hpi
theorem Jsp(h:Agr t T)(hc:cols<=t.n+t.m): match t.enter cols with
  | none=>∀ j,j<cols->0<=T.g j
  | some c=>c<cols/\T.g c<0/\∀ j,j<c->0<=T.g j:=by
 have u:∀ j,j<cols->((t.goal.getD j pr0).sign<0↔T.g j<0):=λj i=>by
  have:=(PR.sign_val (h.ok.goal.2 j (by unfold PT.right;omega))).1;rw[h.g j om]at this;exact this
 cases hl:t.enter cols with
 | none=>
  intro j i;unfold PT.enter at hl;have:=List.find?_eq_none.1 hl j (List.mem_range.2 i);simp only[decide_eq_true_eq]at this;rw[u j i]at this;grind
 | some c=>
  unfold PT.enter at hl;rw[List.find?_range_eq_some]at hl;obtain⟨D,y,F⟩:=hl;simp only[decide_eq_true_eq,List.mem_range]at D y;refine⟨y,(u c y).1 D,λj i=>?_⟩;have:=F j i;simp only[Bool.not_eq_true',decide_eq_false_iff_not]at this;rw[u j om]at this;grind
def Bnd(m n:Nat)(T0:QT): Prop:=∀ S,WF m n S->Kr m S->Eqv m n T0 S->Eqv m n S T0->∀ c,c<n->S.g c<0->∃ i,i<m/\0<S.a i c
open Bl
variable {A:List (List PR)}{n:Nat}
namespace Bl
variable {k m n:Nat}{f:Nat->Rat}
theorem Jyb(h:∀ j,j<n->0<=f j): 0<=Jc n f:=by
 induction n with
 | zero=>simp[Jc]
 | succ n ih=>
  have y:=ih λj i=>h j om;have u:=h n om;rw[Jc];grind
theorem Qkv(h:∀ j,j<n->0<=f j)(hk:k<n): f k<=Jc n f:=by
 induction n with
 | zero=>omega
 | succ n ih=>
  have y:=Jyb (n:=n) (f:=f) λj i=>h j om;have u:=h n om;rw[Jc];by_cases e:k=n
  .subst e;grind
  have:=ih (λj i=>h j om) om;grind
theorem Qfp{a b:Rat}(ha:0<=a)(hb:0<=b): 0<=a*b:=Rat.mul_nonneg ha hb
def pck(n:Nat)(A:Nat->Nat->Rat): QT:=⟨λi j=>if j<n then A i j else if j-n=i then 1 else 0,λ_=>1,λj=>if j<n then -1 else 0,0,λi=>n+i⟩
theorem Jbk(n m:Nat)(A:Nat->Nat->Rat): WF m (n+m) (pck n A):=by
 refine⟨λi hi=>by simp only[pck];omega,λi k hi j=>?_,λi hi=>?_⟩
 .simp only[pck];rw[if_neg om,show n+i-n=i by omega];by_cases e:k=i
  .rw[if_pos e,if_pos e.symm]
  rw[if_neg e,if_neg (λh=>e h.symm)]
 simp only[pck];rw[if_neg om]
theorem Jms(n m:Nat)(A:Nat->Nat->Rat): Kr m (pck n A):=λi hi=>by simp only[pck];grind
theorem Qcq{A:Nat->Nat->Rat}(h0:∀ i j,i<m->j<n->0<=A i j)(h1:∀ j,j<n->∃ i,i<m/\A i j=1): Bnd m (n+m) (pck n A):=λS O D he Z c F hg=>by
 rcases Classical.em (∃ i,i<m/\0<S.a i c) with h|h
 .exact h
 exfalso
 have J:=Z.sol _ (Gw O F 2);have y:∀ j,0<=S.pt m c 2 j:=λj=>by
  unfold QT.pt;have:0<=Jc m λi=>if S.β i=j then S.b i-S.a i c*2 else 0:=Jyb λi hi=>by
   split
   .have G:=D i hi;have u:S.a i c<=0:=by
     rcases Rat.le_total (a:=S.a i c) (b:=0) with k|k
     .exact k
     by_cases e:S.a i c=0
     .grind
     exact absurd ⟨i,hi,by grind⟩ h
    grind
   grind
  split<;>grind
 have U:2<=S.pt m c 2 c:=by
  unfold QT.pt;have:0<=Jc m λi=>if S.β i=c then S.b i-S.a i c*2 else 0:=Jyb λi hi=>by
   split
   .have G:=D i hi;have u:S.a i c<=0:=by
     rcases Rat.le_total (a:=S.a i c) (b:=0) with k|k
     .exact k
     by_cases e:S.a i c=0
     .grind
     exact absurd ⟨i,hi,by grind⟩ h
    grind
   grind
  rw[if_pos rfl];grind
 have key:∀ i,i<m->(pck n A).a i c=1->False:=λi hi e=>by
  have k:=J i hi;have u:(pck n A).a i c*S.pt m c 2 c<=Jc (n+m) λj=>(pck n A).a i j*S.pt m c 2 j:=Qkv (f:=λj=>(pck n A).a i j*S.pt m c 2 j) (λj hj=>Qfp (by
   simp only[pck];split
   .rename_i hj2;exact h0 i j hi hj2
   split<;>grind) (y j)) F
  rw[k,e]at u;simp only[pck]at u;grind
 by_cases e:c<n
 .obtain⟨i,hi,e1⟩:=h1 c e;exact key i hi (by simp only[pck];rw[if_pos e,e1])
 exact key (c-n) om (by simp only[pck];rw[if_neg e];simp)
end Bl
def Xe(A:List (List PR)): Nat->Nat->Rat:=λi j=>((A.getD i []).getD j pr0).val
theorem Jxm{α:Type}(d:α)(l k:List α)(j:Nat): (l++k).getD j d=if j<l.length then l.getD j d else k.getD (j-l.length) d:=by
 by_cases h:j<l.length
 .rw[if_pos h];simp[List.getD,List.getElem?_append_left h]
 rw[if_neg h];simp[List.getD,List.getElem?_append_right (Nat.le_of_not_lt h)]
theorem Jkh: (PR.int 1).val=1:=by decide +kernel
theorem Jmj: (PR.int (-1)).val = -1:=by decide +kernel
theorem Il: pr0.val=0:=by decide +kernel
theorem Jxc: ∀ i,i<A.length->(PT.ofP n A).rows.getD i []=A.getD i []++(List.range A.length).map (λk=>if k=i then PR.int 1 else pr0)++[PR.int (-1),PR.int 1]:=λi hi=>by
 unfold PT.ofP;exact Jwk [] [] _ hi
theorem Ia(hA:∀ i,i<A.length->ROk n (A.getD i [])): ∀ i j,i<A.length->((PT.ofP n A).rows.getD i []).getD j pr0=if j<n then(A.getD i []).getD j pr0 else if j<n+A.length then(if j-n=i then PR.int 1 else pr0) else if j=n+A.length then PR.int (-1) else if j=n+A.length+1 then PR.int 1 else pr0:=λi j hi=>by
 have u:=(hA i hi).1;rw[Jxc i hi,Jxm];simp only[List.length_append,u,List.length_map,List.length_range];by_cases h1:j<n
 .rw[if_pos om,if_pos h1,Jxm,u,if_pos h1]
 rw[if_neg h1];by_cases h2:j<n+A.length
 .rw[if_pos h2,if_pos h2,Jxm,u,if_neg h1,Xc pr0 (by simp;omega)];simp
 rw[if_neg h2,if_neg h2];by_cases h3:j=n+A.length
 .rw[if_pos h3,h3,Nat.sub_self];rfl
 rw[if_neg h3];by_cases h4:j=n+A.length+1
 .rw[if_pos h4,h4,show n+A.length+1-(n+A.length)=1 by omega];rfl
 rw[if_neg h4];obtain⟨d,y⟩:∃ d,j-(n+A.length)=d+2:=⟨j-(n+A.length)-2,om⟩;rw[y];rfl
theorem Jkp: ∀ j,(PT.ofP n A).goal.getD j pr0=if j<n then PR.int (-1) else pr0:=λj=>by
 simp only[PT.ofP];rw[Jxm,List.length_replicate];by_cases h1:j<n
 .rw[if_pos h1,if_pos h1,Xc pr0 (by simpa using h1)];simp
 rw[if_neg h1,if_neg h1];by_cases h2:j-n<A.length+2
 .rw[Xc pr0 (by simpa using h2)];simp
 simp[List.getD,List.getElem?_eq_none (show(List.replicate (A.length+2) pr0).length<=j-n by simp;omega)]
theorem Qdq(hA:∀ i,i<A.length->ROk n (A.getD i [])): Agr (PT.ofP n A) (pck n (Xe A)):=by
 have G:=Jxc (n:=n) (A:=A);have D:=Ia hA;have y:=Jkp (n:=n) (A:=A);have F:pr0.den≠0:=by decide
 refine⟨⟨by simp[PT.ofP],λi hi=>⟨?_,λj J=>?_⟩,⟨by simp[PT.ofP,PT.right];omega,λj J=>?_⟩,by simp[PT.ofP]⟩,λi j hi J=>?_,λi hi=>?_,λj J=>?_,?_,λi hi=>?_⟩
 .have u:i<A.length:=hi;rw[G i u,List.length_append,List.length_append,(hA i u).1];simp[PT.right,PT.ofP]
 .have u:i<A.length:=hi;rw[D i j u];split
  .rename_i h1;exact(hA i u).2 j h1
  split
  .split
   .decide
   exact F
  split
  .decide
  split
  .decide
  exact F
 .rw[y];split
  .decide
  exact F
 .have u:i<A.length:=hi;have O:j<n+A.length:=J;rw[D i j u];simp only[pck];by_cases h1:j<n
  .rw[if_pos h1,if_pos h1];rfl
  rw[if_neg h1,if_pos O,if_neg h1];split
  .exact Jkh
  exact Il
 .have u:i<A.length:=hi;rw[D i _ u];have e:(PT.ofP n A).right=n+A.length+1:=rfl;rw[e,if_neg om,if_neg om,if_neg om,if_pos rfl];exact Jkh
 .rw[y];simp only[pck];split
  .exact Jmj
  exact Il
 .have e:(PT.ofP n A).right=n+A.length+1:=rfl;rw[y,e,if_neg om];exact Il
 have u:i<A.length:=hi;simp only[PT.ofP,pck];rw[Xc 0 (by simpa using u)];simp
end Go.Proofs.YtebiphhfkdbpfaaGreat
namespace Go.Proofs.YtebiphhfkdbpfaaGreat.Bl
variable {j k l m n:Nat}{b f x:Nat->Rat}
abbrev MQ:= Nat->Nat->Rat
def Qt(k:Nat)(M:MQ): MQ:=λi j=>M (i+1) (if j<k then j else j+1)
def sg(j:Nat): Rat:=if j % 2=0 then 1 else -1
def det: Nat->MQ->Rat
 | 0,_=>1
 | m+1,M=>Jc (m+1) λj=>sg j*M 0 j*det m (Qt j M)
theorem Qwn(k:Nat): sg (k+1) = -sg k:=by
 unfold sg;by_cases h:k % 2=0
 .rw[if_pos h,if_neg om]
 rw[if_neg h,if_pos om];grind
theorem Jxt: ∀ {m:Nat} {M N:MQ},(∀ i j,i<m->j<m->M i j=N i j)->det m M=det m N
 | 0,_,_,_=>rfl
 | m+1,M,N,h=>by
  rw[det,det];refine Gz λj hj=>?_;rw[h 0 j om hj,Jxt (m:=m) (M:=Qt j M) (N:=Qt j N) λi k hi hk=>by
   unfold Qt;split<;>exact h _ _ om om]
def Jo(M:MQ)(k:Nat)(v:Nat->Rat): MQ:=λi j=>if j=k then v i else M i j
theorem Jdd(M:MQ)(k:Nat)(v:Nat->Rat): Qt k (Jo M k v)=Qt k M:=by
 funext i j
 simp only[Qt,Jo];rw[if_neg (by split<;>omega)]
theorem Jdf(M:MQ)(h:j≠k)(v:Nat->Rat): Qt j (Jo M k v)=Jo (Qt j M) (if k<j then k else k-1) (λi=>v (i+1)):=by
 funext i l
 simp only[Qt,Jo];by_cases e:l=if k<j then k else k-1
 .rw[if_pos e,if_pos (by split at e<;>split<;>omega)]
 rw[if_neg e,if_neg (by split at e<;>split<;>omega)]
theorem Kd: ∀ {m:Nat} (M:MQ) {k:Nat} (hk:k<m) (u w:Nat->Rat) (s:Rat),det m (Jo M k λi=>u i+s*w i)=det m (Jo M k u)+s*det m (Jo M k w)
 | 0,_,_,hk,_,_,_=>by omega
 | m+1,M,k,hk,u,w,s=>by
  rw[det,det,det,<-Gp,<-Jyc];refine Gz λj hj=>?_;by_cases e:j=k
  .subst e;rw[Jdd,Jdd,Jdd];simp only[Jo,if_true];grind
  rw[Jdf M e,Jdf M e,Jdf M e,Kd (m:=m) (Qt j M) (k:=if k<j then k else k-1) (by split<;>omega) (λi=>u (i+1)) (λi=>w (i+1)) s];simp only[Jo,if_neg e];grind
theorem Qkr(hk:k+1<n)(h:∀ j,j<n->j≠k->j≠k+1->f j=0): Jc n f=f k+f (k+1):=by
 induction n with
 | zero=>omega
 | succ n ih=>
  rw[Jc];by_cases e:n=k+1
  .subst e;rw[Gx (c:=k) om λj u i=>h j om i om]
  rw[ih om λj u D y=>h j om D y,h n om om om];grind
theorem Jwt: ∀ {m:Nat} {M:MQ} {k:Nat},k+1<m->(∀ i,i<m->M i k=M i (k+1))->det m M=0
 | 0,_,_,hk,_=>by omega
 | m+1,M,k,hk,h=>by
  rw[det,Qkr (k:=k) hk]
  .have e:det m (Qt k M)=det m (Qt (k+1) M):=Jxt λi j hi hj=>by
    simp only[Qt];by_cases e1:j<k
    .rw[if_pos e1,if_pos om]
    by_cases e2:j=k
    .subst e2;rw[if_neg e1,if_pos om];exact(h (i+1) om).symm
    rw[if_neg e1,if_neg om]
   rw[e,Qwn,h 0 om];grind
  intro j hj h1 h2;have:det m (Qt j M)=0:=by
   by_cases e:j<k
   .refine Jwt (k:=k-1) om λi hi=>?_;simp only[Qt];rw[if_neg om,if_neg om,show k-1+1=k by omega];exact h (i+1) om
   refine Jwt (k:=k) om λi hi=>?_;simp only[Qt];rw[if_pos om,if_pos om];exact h (i+1) om
  rw[this];grind
theorem Jyj(M:MQ)(k:Nat): Jo M k (λi=>M i k)=M:=by
 funext i j;simp only[Jo];split
 .rename_i h;rw[h]
 rfl
theorem Iv(M:MQ)(h:k≠l)(u w:Nat->Rat): Jo (Jo M k u) l w=Jo (Jo M l w) k u:=by
 funext i j;simp only[Jo]
 by_cases e:j=l
 .rw[if_pos e,if_neg om,if_pos e]
 rw[if_neg e];split<;>rfl
theorem Qmx(M:MQ)(hk:k+1<m)(u w:Nat->Rat): det m (Jo (Jo M k u) (k+1) w) = -det m (Jo (Jo M k w) (k+1) u):=by
 have z:∀ v:Nat->Rat,det m (Jo (Jo M k v) (k+1) v)=0:=λv=>Jwt hk λi hi=>by simp[Jo]
 have h:=z (λi=>u i+1*w i);rw[Kd _ hk,Iv M om _ u,Iv M om _ w,Kd _ om,Kd _ om]at h;rw[Iv (k:=k+1) (l:=k) M om u u,Iv (k:=k+1) (l:=k) M om w w,Iv (k:=k+1) (l:=k) M om u w,Iv (k:=k+1) (l:=k) M om w u,z,z]at h;grind
theorem Jdh{m:Nat}: ∀ {d:Nat} {M:MQ} {k:Nat},k+1+d<m->(∀ i,i<m->M i k=M i (k+1+d))->det m M=0
 | 0,M,k,hk,h=>Jwt hk h
 | d+1,M,k,hk,h=>by
  have e:M=Jo (Jo M (k+1+d) λi=>M i (k+1+d)) (k+1+d+1) λi=>M i (k+1+d+1):=by
   rw[Jyj,Jyj]
  rw[e,Qmx M om];rw[Jdh (d:=d) (k:=k) om λi hi=>by
   simp only[Jo];rw[if_neg om,if_neg om,if_neg om,if_pos trivial];exact h i hi]
  grind
theorem Qnb{M:MQ}(hk:k<m)(hl:l<m)(hne:k≠l)(h:∀ i,i<m->M i k=M i l): det m M=0:=by
 rcases Nat.lt_or_gt_of_ne hne with e|e
 .exact Jdh (d:=l-k-1) (k:=k) om λi hi=>by rw[show k+1+(l-k-1)=l by omega];exact h i hi
 exact Jdh (d:=k-l-1) (k:=l) om λi hi=>by rw[show l+1+(k-l-1)=k by omega];exact(h i hi).symm
theorem Kf{M:MQ}(hk:k<m)(h:∀ i,i<m->Jc m (λj=>M i j*x j)=b i): det m (Jo M k b)=x k*det m M:=by
 have z0:det m (Jo M k λ_=>0)=0:=by
  have h0:=Kd M hk (λ_=>0) (λ_=>0) 1;have e:(λ_:Nat=>(0:Rat)+1*0)=λ_=>0:=by funext i;grind
  rw[e]at h0;grind
 have key:∀ J,J<=m->det m (Jo M k λi=>Jc J λj=>M i j*x j)=Jc J λj=>x j*det m (Jo M k λi=>M i j):=by
  intro J;induction J with
  | zero=>intro _;simp only[Jc];exact z0
  | succ J ih=>
   intro D;simp only[Jc];rw[<-ih om,<-Kd M hk];congr 2;funext i;grind
 have e:det m (Jo M k b)=det m (Jo M k λi=>Jc m λj=>M i j*x j):=Jxt λi j hi y=>by
  simp only[Jo];split
  .exact(h i hi).symm
  rfl
 rw[e,key m (nR _),Gx hk,Jyj];intro j y u;rw[Qnb (k:=k) (l:=j) hk y (λh=>u h.symm) λi hi=>by
  simp only[Jo,if_true];rw[if_neg u]]
 grind
end Go.Proofs.YtebiphhfkdbpfaaGreat.Bl
namespace Go.Proofs.YtebiphhfkdbpfaaGreat.Bl
variable {B C c i k r:Nat}{S T0:QT}{p q:Rat}
variable {m n:Nat}
def fct: Nat->Nat
 | 0=>1
 | m+1=>(m+1)*fct m
def isI(q:Rat)(B:Nat): Prop:=∃ z:Int,q=z/\z.natAbs<=B
theorem isI.mono(h:isI q B)(hc:B<=C): isI q C:=by
 obtain⟨z,e,i⟩:=h;exact⟨z,e,om⟩
theorem isI.mul(h:isI p B)(k:isI q C): isI (p*q) (B*C):=by
 obtain⟨z,rfl,i⟩:=h;obtain⟨w,rfl,j⟩:=k;exact⟨z*w,by rw[Rat.intCast_mul],by rw[Int.natAbs_mul];exact Nat.mul_le_mul i j⟩
theorem isI.add(h:isI p B)(k:isI q C): isI (p+q) (B+C):=by
 obtain⟨z,rfl,i⟩:=h;obtain⟨w,rfl,j⟩:=k;exact⟨z+w,by rw[Rat.intCast_add],om⟩
theorem isI.neg(h:isI p B): isI (-p) B:=by
 obtain⟨z,rfl,i⟩:=h;exact⟨-z,by rw[Rat.intCast_neg],om⟩
theorem Jch{f:Nat->Rat}(h:∀ j,j<k->isI (f j) B): isI (Jc k f) (k*B):=by
 induction k with
 | zero=>exact⟨0,rfl,by simp⟩
 | succ k ih=>
  have:=(ih λj i=>h j om).add (h k om);rw[Nat.succ_mul];exact this
theorem Jcj(j:Nat): isI (sg j) 1:=by
 unfold sg;split
 .exact⟨1,rfl,by simp⟩
 exact⟨-1,rfl,by simp⟩
theorem Gd: ∀ {m:Nat} {M:MQ},(∀ i j,i<m->j<m->isI (M i j) 1)->isI (det m M) (fct m)
 | 0,_,_=>⟨1,rfl,by simp[fct]⟩
 | m+1,M,h=>by
  rw[det,fct];refine Jch λj hj=>?_;have h1:=((Jcj j).mul (h 0 j om hj)).mul (Gd (m:=m) (M:=Qt j M) λi k hi hk=>by
   unfold Qt;split<;>exact h _ _ om om)
  exact h1.mono (by simp)
theorem Jss: ∀ {m:Nat} {M:MQ},(∀ i j,i<m->j<m->M i j=if i=j then 1 else 0)->det m M=1
 | 0,_,_=>rfl
 | m+1,M,h=>by
  rw[det,Gx (c:=0) om]
  .rw[Jss (m:=m) (M:=Qt 0 M) λi j hi hj=>by
    simp only[Qt];rw[if_neg om,h _ _ om om];by_cases e:i=j
    .rw[if_pos e,if_pos om]
    rw[if_neg e,if_neg om],h 0 0 om om]
   simp[sg]
  intro j hj hne;rw[h 0 j om hj,if_neg (λh=>hne h.symm)];grind
def bas(T0 S:QT): MQ:=λi k=>T0.a i (S.β k)
theorem Kh(hw:WF m n S)(he:Eqv m n S T0)(hc:c<n)(hi:i<m): Jc m (λk=>bas T0 S i k*S.a k c)=T0.a i c/\Jc m (λk=>bas T0 S i k*S.b k)=T0.b i:=by
 have h0:=he.sol _ (Gw hw hc 0) i hi;have j:=he.sol _ (Gw hw hc 1) i hi;rw[Kj hw hc]at h0 j;have e:Jc m (λk=>T0.a i (S.β k)*(S.b k-S.a k c*1))=Jc m (λk=>T0.a i (S.β k)*(S.b k-S.a k c*0))-1*Jc m (λk=>T0.a i (S.β k)*S.a k c):=by
  rw[<-Jqm];congr 1;funext k;grind
 have u:Jc m (λk=>T0.a i (S.β k)*(S.b k-S.a k c*0))=Jc m (λk=>T0.a i (S.β k)*S.b k):=by
  congr 1;funext k;grind
 rw[e]at j;rw[u]at h0 j;unfold bas;exact⟨by grind,by grind⟩
theorem Qmz(hw:WF m n S)(he:Eqv m n S T0)(hr:r<m)(hc:c<n): det m (bas T0 (S.pivot r c))=S.a r c*det m (bas T0 S):=by
 rw[<-Kf (M:=bas T0 S) (x:=λk=>S.a k c) (b:=λi=>T0.a i c) hr λi hi=>(Kh hw he hc hi).1];refine Jxt λi j hi u=>?_;simp only[bas,Jo,QT.pivot];split<;>rfl
def isQ(q:Rat)(B D:Nat): Prop:=∃ a d:Rat,isI a B/\isI d D/\d≠0/\q=a / d
theorem Qmd(h0:∀ i j,i<m->j<n->isI (T0.a i j) 1)(h1:∀ i,i<m->isI (T0.b i) 1)(hw:WF m n S)(he:Eqv m n S T0)(hd:det m (bas T0 S)≠0)(hn:0<n): (∀ k c,k<m->c<n->isQ (S.a k c) (fct m) (fct m))/\∀ k,k<m->isQ (S.b k) (fct m) (fct m):=by
 have D:∀ i j,i<m->j<m->isI (bas T0 S i j) 1:=λi j hi u=>h0 i _ hi (hw.lt j u);have G:=Gd D;refine⟨λk c y F=>⟨_,_,Gd (M:=Jo (bas T0 S) k λi=>T0.a i c) λi j hi u=>?_,G,hd,?_⟩,λk y=>⟨_,_,Gd (M:=Jo (bas T0 S) k λi=>T0.b i) λi j hi u=>?_,G,hd,?_⟩⟩
 .simp only[Jo];split
  .exact h0 i c hi F
  exact D i j hi u
 .rw[Kf (x:=λk=>S.a k c) y λi hi=>(Kh hw he F hi).1];grind
 .simp only[Jo];split
  .exact h1 i hi
  exact D i j hi u
 rw[Kf (x:=λk=>S.b k) y λi hi=>(Kh hw he hn hi).2];grind
theorem Qyq(h0:∀ i j,i<m->j<n->isI (T0.a i j) 1)(h2:∀ j,j<n->isI (T0.g j) 1)(hw:WF m n S)(he:Eqv m n S T0)(hd:det m (bas T0 S)≠0): ∀ c,c<n->isQ (S.g c) (fct (m+1)) (fct m):=λc u=>by
 have G:∀ i j,i<m->j<m->isI (bas T0 S i j) 1:=λi j hi D=>h0 i _ hi (hw.lt j D);have F:=Gd G;refine⟨T0.g c*det m (bas T0 S) + -(Jc m λk=>T0.g (S.β k)*det m (Jo (bas T0 S) k λi=>T0.a i c)),_,?_,F,hd,?_⟩
 .refine(((h2 c u).mul F).add (Jch (B:=fct m) λk y=>?_).neg).mono (by rw[fct,Nat.add_mul];omega);exact((h2 _ (hw.lt k y)).mul (Gd λi j hi D=>by
   simp only[Jo];split
   .exact h0 i c hi u
   exact G i j hi D)).mono (by simp)
 have h:=Jbd hw he u;rw[Gz (g:=λk=>det m (bas T0 S)*(T0.g (S.β k)*S.a k c)) λk y=>by
  rw[Kf (x:=λk=>S.a k c) y λi hi=>(Kh hw he u hi).1];grind]
 rw[Gp];grind
end Go.Proofs.YtebiphhfkdbpfaaGreat.Bl
