/- Part 3. -/
import Derived.Test.YtebiphhfkdbpfaaGreatDoorH02
import Derived.Laws.CopyRow
set_option linter.unusedVariables false
set_option maxRecDepth 100000
set_option maxHeartbeats 40000000
namespace Go.Wk
open Go.RowKit
variable {b n t ty:Nat}
theorem stb1{P:Program}{al:AL}{w:World}{Q:Exit->Act->World->Prop}{ops:Array Oper}{rest:List Oper}{pos:String}{aft:Array Edge}{tt:TT}[h:Tab P tt]{x y:Operand}{k:TK}{u v:Value}(hb:Blk w b t [u])(kk:∀ w1,Blk w1 b t [v]->w.grownBy w1 (some b)->(∀ a,Ext a w->a.heap.size<=b->Ext a w1)->WL P n ops Q rest al w1)(hv:v.oneCell'=true)(ht:tk tt t=some k:=by rfl)(hk:k.size=1:=by rfl)(hp:Xp k.desc=true:=by rfl)(hx:ev al x=some (.pointer (some ⟨b,0,none⟩)):=by rfl)(hy:ev al y=some v:=by rfl):
  WL P n ops Q (⟨none,.store t x y,ty,pos,aft,none⟩::rest) al w :=
 Jbz h.ok ht hk hp hx hy hv (hb.cell 0) (hb.frozen 0) (kk _ (hb.set 0 v) ⟨rfl,rfl,rfl,by simp[World.setCell],λk hk hn=>Below.heap_setCell w ⟨b,0,none⟩ v k (λe=>hn (by rw[e]))⟩ λa j i=>j.setCell i v)
end Go.Wk
namespace Go.Proofs.YtebiphhfkdbpfaaGreatDoor
open Go.RowKit Pl Go.Wk
attribute [local irreducible] WC WL QX WD WDB WP WN WG
variable {v:Value}
structure MOk(n:Nat)(ts:List TA)(vars:Nat->List Nat)(rs:Nat->List Row)(s:Nat): Prop where
 run:RunOk n ts vars rs
 sb:s<2^n
 valid:∀ i,i<ts.length->∀ r∈rs i,r.all Xm=true
 srtP:∀ i,i<ts.length->(rs i).length<=12∨Srt [] ((rs i).map (pmR (Qcp (vars i) s)))
def AtG(w:World)(cs:List Value)(a:Atm): Prop:=∃ t:V3,cs=t.cells/\AtV w t a
theorem Jpn: ∀(ps:List (List Value×Atm)) (w:World),(∀ p∈ps,AtG w p.1 p.2)->∃ ts:List TA,ts.map (·.2)=ps.map (·.2)/\atC ts=Jc ps/\ts.length=ps.length/\∀ q∈ts,AtV w q.1 q.2
 | [],w,_=>⟨[],rfl,rfl,rfl,λq hq=>by cases hq⟩
 | p::ps,w,h=>by
  obtain⟨qs,h1,h2,h3,h4⟩:=Jpn ps w λq hq=>h q (List.mem_cons_of_mem _ hq);obtain⟨t,e,hr⟩:=h p (mC ..);refine⟨(t,p.2)::qs,by simp[h1],?_,by simp[h3],λq hq=>?_⟩;repeat grind [Jc,atC,List.mem_cons.1]
theorem Jpp{w:World}{ats:List Atm}(h:GV 3 AtG w v ats): ∃(ts:List TA) (A:Option Addr) (c:Nat),ats=ts.map (·.2)/\v=.slice A ts.length c/\ts.length<=c/\ts.length<=1100000/\Rd w 3 A ts.length (atC ts)/\∀ p∈ts,AtV w p.1 p.2:=by
 obtain⟨ps,A,c,e,U,O,J,u,i⟩:=h;obtain⟨ts,G,D,B,y⟩:=Jpn ps w λp j=>(i p j).2;grind
theorem EA: ElT Tryz.prog 33 82 3 56 (.agg #[.slice none 0 0,.int .i64 0,.slice none 0 0]):=⟨Tryz.underlying33,info_parts kr,rfl,by decide⟩
theorem Qdl(v1 v2 v3:Value)(A B:Option Addr)(n c m d:Nat)(z:Int)(h1:v1=.slice A n c)(h2:v2=.int .i64 z)(h3:v3=.slice B m d)(w:World): (Instr.buildSlice 33 1 #[(0,.agg #[v1,v2,v3])]).run Tryz.prog w=.ok (.slice (some ⟨w.heap.size,0,none⟩) 1 1) (w.alloc (.cells [v1,v2,v3].toArray 82)):=by
 subst h1;subst h2;subst h3;kernel_rfl
theorem Qff(A B:Option Addr)(n c m d:Nat)(z:Int)(w:World): (Instr.build 82 #[(0,.slice A n c),(1,.agg #[.int .i64 z,.slice B m d])]).run Tryz.prog w=.ok (.agg #[.slice A n c,.int .i64 z,.slice B m d]) w:=kr
theorem one3{z:Int}{A:Option Addr}{n c:Nat}(h:v.oneCell'=true): ∀ u∈[v,.int .i64 z,.slice A n c],u.oneCell'=true:=λu i=>by
 simp only[List.mem_cons,List.not_mem_nil,or_false]at i;rcases i with rfl|rfl|rfl
 .exact h
 .rfl
 rfl
end Go.Proofs.YtebiphhfkdbpfaaGreatDoor
namespace Go.Wk
open Go.RowKit
variable {p:Addr}{z:Int}{kd:IntKind}{cs cs' xs:List Value}{b e g m t:Nat}{i x y:Operand}{k k2:TK}{v:Value}
section
variable {N:Nat->Prop} {P:Program} {n:Nat} {al:AL} {w:World} {Q:Exit->Act->World->Prop} {ops:Array Oper} {rest:List Oper} {drest:List (Nat×Oper)}
variable {d ty:Nat} {pos:String} {aft:Array Edge} {tt:TT}
theorem Iu(hT:TOk P tt)(ht:tk tt t=some k)(hk:k.desc=.array m e)(w:World): (isAgg t).run P w=.ok true w/\Xy P t=some k.size/\P.underlying t=some (.array m e)/\Xy P e=some k.esz:=by
 have:=hT.at ht;unfold Vz at this;rw[hk]at this;exact⟨by simp[isAgg,run_underlying this.1],this.2.2,this.1,this.2.1⟩
theorem Jfc(hT:TOk P tt)(ht:tk tt t=some k)(hk:k.desc=.array m e)(hl:k.size=cs.length)(hc:∀ j u,cs[j]?=some u->w.cell? (p.add j)=some u): (loadVar t p).run P w=.ok (.agg cs.toArray) w:=by
 have i:=run_loadCells_list (P:=P) w p cs hc;rw[<-hl]at i;simp[loadVar,(Iu hT ht hk w).1,Zd w (Iu hT ht hk w).2.1,i]
theorem lda[h:Tab P tt](hc:∀ j u,cs[j]?=some u->w.cell? (p.add j)=some u)(hl:k.size=cs.length)(kk:WL P n ops Q rest ((d,.agg cs.toArray)::al) w)(ht:tk tt t=some k:=by rfl)(hk:k.desc=.array m e:=by rfl)(hx:ev al x=some (.pointer (some p)):=by rfl)(hd:Nat.blt d n=true:=by rfl): WL P n ops Q (⟨some d,.load t x,ty,pos,aft,none⟩::rest) al w :=
 wop hd (λa i=>by simp[execOp,i.ev hx,Instr.loadAt,Instr.sureAddr,Jfc (w:=w) h.ok ht hk hl hc]) kk
theorem sta[h:Tab P tt](hb:Blk w b t cs)(kk:∀ w1,Blk w1 b t cs'->w.grownBy w1 (some b)->(∀ a,Ext a w->a.heap.size<=b->Ext a w1)->WL P n ops Q rest al w1)(h1:∀ u∈cs',u.oneCell'=true)(hl:cs.length=cs'.length)(hs:k.size=cs'.length)(ht:tk tt t=some k:=by rfl)(hk:k.desc=.array m e:=by rfl)(hx:ev al x=some (.pointer (some ⟨b,0,none⟩)):=by rfl)(hy:ev al y=some (.agg cs'.toArray):=by rfl):
  WL P n ops Q (⟨none,.store t x y,ty,pos,aft,none⟩::rest) al w:=by
 have D:=Ke w b cs'.toArray;refine Il (λa B=>?_) (kk (w.setRow b cs'.toArray) (setRow_heap w b _ _ _ _ hb) D (λa hx B=>Jt hx D (λk hk=>by grind)));have j:=Zd w (Iu h.ok ht hk w).2.1;have i:=run_storeCells_from (P:=P) b t cs' 0 cs.toArray w hb (by simpa using hl.symm) h1;simp only[List.take_zero,List.nil_append]at i;simp[execOp,B.ev hx,B.ev hy,Instr.storeAt,Instr.sureAddr,storeVar,Value.cells,j,hs,i]
theorem Jmd[h:Tab P tt]{fn:Func}{Φ:Value->World->Prop}{c:Nat}(hb:Blk w b t cs)(hs:k.size=cs.length)(hp:Φ (.agg cs.toArray) w)(hr:fn.results = #[.cell c t]:=by rfl)(ht:tk tt t=some k:=by rfl)(hk:k.desc=.array m e:=by rfl)(hc:lk al c=some (.pointer (some ⟨b,0,none⟩)):=by rfl):
  QX n (Zr P fn Φ) .ret al w :=
 Jjv (rs:=[.cell c t]) (vs:=[.agg cs.toArray]) hr ⟨⟨_,hc,Jfc h.ok ht hk hs (λj u i=>hb.at i)⟩,trivial⟩ rfl hp
theorem idx[h:Tab P tt](j:Nat)(hlt:j<m)(hv:cs[j]?=some v)(kk:WL P n ops Q rest ((d,v)::al) w)(ht:tk tt t=some k:=by rfl)(hk:k.desc=.array m e:=by rfl)(h1:k.esz=1:=by rfl)(he:tk tt e=some k2:=by rfl)(hp:Xp k2.desc=true:=by rfl)(hx:ev al x=some (.agg cs.toArray):=by rfl)(hi:ev al i=some (.int kd z):=by rfl)(hj:z=(j:Int):=by first|rfl|omega)(hd:Nat.blt d n=true:=by rfl):
  WL P n ops Q (⟨some d,.index t x i,ty,pos,aft,none⟩::rest) al w :=
 wop hd (λa y=>by
  subst hj;have u:=Iu h.ok ht hk w;have B:=Zd w (h1 ▸ u.2.2.2);have D:=(Jqv h.ok he hp w).1;simp[execOp,y.ev hx,y.ev hi,Instr.index,asIntOf,run_underlying u.2.2.1,hlt,B,part,D,hv]) kk
theorem ixs[h:Tab P tt](j:Nat)(hlt:j<m)(kk:WL P n ops Q rest ((d,.pointer (some (p.add (j*k.esz))))::al) w)(ht:tk tt t=some k:=by rfl)(hk:k.desc=.array m e:=by rfl)(hx:ev al x=some (.pointer (some p)):=by rfl)(hi:ev al i=some (.int kd z):=by rfl)(hj:z=(j:Int):=by first|rfl|omega)(hd:Nat.blt d n=true:=by rfl): WL P n ops Q (⟨some d,.indexAddr t x i,ty,pos,aft,none⟩::rest) al w :=
 wop hd (λa u=>Jxc h.ok j ht hk hlt u hx hi hj (some d) w) kk
theorem dixs[h:Tab P tt](j:Nat)(hlt:j<m)(kk:WD P n ops Q drest ((d,.pointer (some (p.add (j*k.esz))))::al) w)(ht:tk tt t=some k:=by rfl)(hk:k.desc=.array m e:=by rfl)(hx:ev al x=some (.pointer (some p)):=by rfl)(hi:ev al i=some (.int kd z):=by rfl)(hj:z=(j:Int):=by first|rfl|omega)(hd:Nat.blt d n=true:=by rfl): WD P n ops Q ((0,⟨some d,.indexAddr t x i,ty,pos,aft,none⟩)::drest) al w :=
 dy (λw' _ a u=>Jxc h.ok j ht hk hlt u hx hi hj (some d) w') hd kk
theorem adr1(b v:Nat): (⟨b,0,none⟩:Addr).add (v*1)=⟨b,v,none⟩:=by rw[Uq,Nat.mul_one,Nat.zero_add]
theorem ixb[h:Tab P tt](j:Nat)(hlt:j<m)(kk:WL P n ops Q rest ((d,.pointer (some ⟨b,j,none⟩))::al) w)(ht:tk tt t=some k:=by rfl)(hk:k.desc=.array m e:=by rfl)(h1:k.esz=1:=by rfl)(hx:ev al x=some (.pointer (some ⟨b,0,none⟩)):=by rfl)(hi:ev al i=some (.int kd z):=by rfl)(hj:z=(j:Int):=by first|rfl|omega)(hd:Nat.blt d n=true:=by rfl): WL P n ops Q (⟨some d,.indexAddr t x i,ty,pos,aft,none⟩::rest) al w:=by
 rw[<-adr1 b j,<-h1]at kk;exact ixs j hlt kk ht hk hx hi hj hd
theorem dixb[h:Tab P tt](j:Nat)(hlt:j<m)(kk:WD P n ops Q drest ((d,.pointer (some ⟨b,j,none⟩))::al) w)(ht:tk tt t=some k:=by rfl)(hk:k.desc=.array m e:=by rfl)(h1:k.esz=1:=by rfl)(hx:ev al x=some (.pointer (some ⟨b,0,none⟩)):=by rfl)(hi:ev al i=some (.int kd z):=by rfl)(hj:z=(j:Int):=by first|rfl|omega)(hd:Nat.blt d n=true:=by rfl): WD P n ops Q ((0,⟨some d,.indexAddr t x i,ty,pos,aft,none⟩)::drest) al w:=by
 rw[<-adr1 b j,<-h1]at kk;exact dixs j hlt kk ht hk hx hi hj hd
theorem nixb[h:Tab P tt](j:Nat)(hlt:j<m)(kk:WN N P n ops Q drest ((d,.pointer (some ⟨b,j,none⟩))::al) w)(ht:tk tt t=some k:=by rfl)(hk:k.desc=.array m e:=by rfl)(h1:k.esz=1:=by rfl)(hx:ev al x=some (.pointer (some ⟨b,0,none⟩)):=by rfl)(hi:ev al i=some (.int kd z):=by rfl)(hj:z=(j:Int):=by first|rfl|omega)(hd:Nat.blt d n=true:=by rfl): WN N P n ops Q ((0,⟨some d,.indexAddr t x i,ty,pos,aft,none⟩)::drest) al w:=by
 rw[<-adr1 b j,<-h1]at kk;exact nixa j hlt kk ht hk hx hi hj hd
theorem Blk.atc{w:World}{t:TypeId}(h:Blk w g t cs){i:Nat}(hv:cs[i]?=some v): w.cell? ⟨g,i,none⟩=some v:=by rw[h.cell];exact hv
theorem sla[h:Tab P tt](kk:WL P n ops Q rest ((d,.slice (some p) m m)::al) w)(ht:tk tt t=some k:=by rfl)(hk:k.desc=.array m e:=by rfl)(hx:ev al x=some (.pointer (some p)):=by rfl)(hd:Nat.blt d n=true:=by rfl): WL P n ops Q (⟨some d,.slice t x none none none,ty,pos,aft,none⟩::rest) al w :=
 wop hd (λa u=>by
  have i:=Iu h.ok ht hk w;have j:=Zd w i.2.2.2;simp[execOp,u.ev hx,Instr.sliceAt,run_underlying i.2.2.1,Instr.sureAddr,Instr.sliceBounds,j];grind [add_zero]) kk
theorem cpb{dT sT dl dc sn sc:Nat}{A:Option Addr}[h:Tab P tt](hb:Blk w b t cs)(hr:Rd w 1 A sn xs)(hsn:sn<=dl)(hdl:dl<=cs.length)(h1:∀ u∈xs,u.oneCell'=true)(kk:∀ w1,Blk w1 b t (xs++cs.drop sn)->w.grownBy w1 (some b)->WL P n ops Q rest ((d,.int .i64 (sn:Int))::al) w1)(ht:tk tt dT=some k:=by rfl)(hk:k.desc=.slice e:=by rfl)(hz:k.esz=1:=by rfl)(hx:ev al x=some (.slice (some ⟨b,0,none⟩) dl dc):=by rfl)(hy:ev al y=some (.slice A sn sc):=by rfl)(hd:Nat.blt d n=true:=by rfl):
  WL P n ops Q (⟨some d,.call { callee:=.builtin .copy,args:=#[x,y],argTypes:=#[dT,sT] },ty,pos,aft,none⟩::rest) al w:=by
 have J:xs.length=sn:=by rw[hr.len,Nat.mul_one]
 have O:=Yg h.ok ht hk hz;have D:(P.info? e).map (·.size)=some 1:=O.2
 have U:=Ke w b (xs++cs.drop sn).toArray;have hB:Blk (w.setRow b (xs++cs.drop sn).toArray) b t (xs++cs.drop sn):=setRow_heap w b _ _ _ _ hb;refine wop (w':=w.setRow b (xs++cs.drop sn).toArray) hd (λa G=>?_) (kk _ hB U);by_cases h0:sn=0
 .subst h0;have:xs=[]:=List.eq_nil_of_length_eq_zero J;subst this;have e0:w.setRow b ([]++cs.drop 0).toArray=w:=by
   have:=setRow_self w b cs.toArray t (0,0) hb;simpa using this
  rw[e0];cases hq:P.info? e with
  | none=>rw[hq]at D;cases D
  | some i=>
   cases A with
   | none=>simp[execOp,resolve,invoke,builtin,G.ev hx,G.ev hy,Builtin.copy_,run_underlying O.1,Builtin.lenOf,Builtin.firstCells,sizeOf,typeInfo,hq,storeCells,goInt]
   | some Z=>simp[execOp,resolve,invoke,builtin,G.ev hx,G.ev hy,Builtin.copy_,run_underlying O.1,Builtin.lenOf,Builtin.firstCells,sizeOf,typeInfo,hq,storeCells,goInt,loadCells,loadCellsFrom]
 obtain⟨Z,hA,_⟩:=hr.isome om om;subst hA;have B:=run_copy_row P w dT sT ty e b 0 dl dc Z sn sc cs.toArray t xs O.1 D hb (by grind) (λj v hv=>hr.cell hv) (by simp;omega) h1;rw[J]at B;have e1:(cs.toArray.toList.take 0++xs++cs.toArray.toList.drop (0+sn)).toArray=(xs++cs.drop sn).toArray:=by simp
 rw[e1]at B;simp[execOp,resolve,invoke,builtin,G.ev hx,G.ev hy,B,goInt]
end
end Go.Wk
namespace Go.Wk
open Go.RowKit
variable {listed:Array Bool}{l:List Oper}{fuel fuel' i:Nat}{o oi oj:Oper}
section
variable {P:Program} {n:Nat} {al al':AL} {w:World} {Q:Exit->Act->World->Prop} {ops:Array Oper} {T:Nat->Bool}
def Uv(P:Program)(ops:Array Oper)(Q:Exit->Act->World->Prop)(T:Nat->Bool)(i:Nat)(w0:World)(fuel:Nat)(listed:Array Bool): Exit->Act->World->Prop
 | .normal,a,w=>(T i=false->Ext w0 w)/\(Closed ops listed->Xl P ops Q T fuel listed a w)
 | _,_,_=>False
theorem Qf{w0:World}(hx:T i=false->Ext w0 w)(h:WH P n ops Q T fuel listed al w): QX n (Uv P ops Q T i w0 fuel listed) .normal al w:=λa u=>⟨hx,λj=>h j a u⟩
theorem Jkr(ho:ops[i]?=some o)(hc:Closed ops listed)(h:WL P n ops (Uv P ops Q T i w fuel listed) [o] al w): ∀ a,Fr n al a->wpOp P ops (QF Q) i (λa' w'=>(T i=false->Ext w w')/\Xl P ops Q T fuel listed a' w') a w:=λa B=>by
 have j:=h a B;unfold wpList at j;unfold wpOp;simp only[ho];have u:¬ LetsOut (Uv P ops Q T i w fuel listed):=by rintro⟨a,w,h⟩;exact h
 split
 .rename_i hw;simp only[hw,if_true]at j;rcases j with j|⟨_,j⟩
  .left
   refine Oper.wp_mono (K:=wpList P ops (Uv P ops Q T i w fuel listed) []) (λa' w' y=>⟨y.1,y.2 hc⟩) ?_;unfold Oper.wp at j ⊢;grind [Ve,Uv]
  exact absurd j u
 rename_i hw;simp only[hw]at j;exact⟨j.1,j.2 hc⟩
theorem Jjq(i j:Nat)(hr:Region.ready .any l.toArray listed=[i,j])(hf:fuel=fuel'+1)(hi:nth l i=some oi)(hj:nth l j=some oj)(h1:WL P n l.toArray (Uv P l.toArray Q T i w fuel' (listed.setIfInBounds i true)) [oi] al w)(h2:WL P n l.toArray (Uv P l.toArray Q T j w fuel' (listed.setIfInBounds j true)) [oj] al w): WH P n l.toArray Q T fuel listed al w:=λB a D=>by
 subst hf;have J:l.toArray[i]?=some oi:=by rw[<-hi,Qp];simp
 have G:l.toArray[j]?=some oj:=by rw[<-hj,Qp];simp
 refine⟨λh0=>(by rw[hr]at h0;cases h0),λk y=>?_⟩;have u:=y;rw[hr]at y;simp only[List.mem_cons,List.not_mem_nil,or_false]at y;rcases y with rfl|rfl
 .exact Jkr J (B.step u) h1 a D
 exact Jkr G (B.step u) h2 a D
theorem Xu(i:Nat)(hr:Region.ready .any l.toArray listed=[i])(hf:fuel=fuel'+1)(hi:nth l i=some oi)(h1:WL P n l.toArray (Uv P l.toArray Q T i w fuel' (listed.setIfInBounds i true)) [oi] al w): WH P n l.toArray Q T fuel listed al w:=λy a B=>by
 subst hf;have D:l.toArray[i]?=some oi:=by rw[<-hi,Qp];simp
 refine⟨λh0=>(by rw[hr]at h0;cases h0),λk j=>?_⟩;have u:=j;rw[hr]at j;simp only[List.mem_cons,List.not_mem_nil,or_false]at j;subst j;exact Jkr D (y.step u) h1 a B
theorem hpur(i:Nat)(hsel:Region.noSelect l.toArray=true)(hr:((Region.ready .any l.toArray listed).contains i && Region.free .any l.toArray listed i)=true)(hf:fuel=fuel'+1)(hi:nth l i=some oi)(h:WP P n l.toArray (Gz P l.toArray Q T fuel' (listed.setIfInBounds i true)) [] [oi] al w): WH P n l.toArray Q T fuel listed al w:=λu a D=>by
 subst hf;simp only[Bool.and_eq_true]at hr;have j:i∈Region.ready .any l.toArray listed:=by simpa using hr.1
 have y:l.toArray[i]?=some oi:=by rw[<-hi,Qp];simp
 unfold WP at h;obtain⟨v,B,G⟩:=h a D;exact Jqp (λ_ _=>True) (λ_=>trivial) (λ_ _=>trivial) y (Region.noSelect_spec hsel) (λ_ _ _ _ _ _ _ _=>trivial) _ listed a w u (Region.free_spec y hr.2) j B (G (u.step j))
end
section
variable {N:Nat->Prop} {P:Program} {n:Nat} {al al':AL} {w:World} {Q:Exit->Act->World->Prop} {ops:Array Oper}
def WM(N:Nat->Prop)(P:Program)(n:Nat)(ops:Array Oper)(Q:Exit->Act->World->Prop)(fuel:Nat)(listed:Array Bool)(al:AL)(w:World): Prop:=Closed ops listed->∀ a,Fr n al a->Uz N P ops Q noT fuel listed a w
theorem WM.sub{fuel:Nat}{listed:Array Bool}(hs:Sub al' al)(h:WM N P n ops Q fuel listed al' w): WM N P n ops Q fuel listed al w:=λi a j=>h i a (j.sub hs)
end
end Go.Wk
namespace Go.Wk
open Go.RowKit
variable {d n ty v:Nat}
theorem sl64{P:Program}{al:AL}{w:World}{Q:Exit->Act->World->Prop}{ops:Array Oper}{rest:List Oper}{pos:String}{aft:Array Edge}{y:Operand}{t yt:TypeId}(hv:v<64)(kk:WL P n ops Q rest ((d,.int .u64 ((2^v:Nat):Int))::al) w)(hy:ev al y=some (.int .i64 (v:Int)):=by rfl)(hd:Nat.blt d n=true:=by rfl):
  WL P n ops Q (⟨some d,.binOp .shl t (.const (.int .u64 1)) y yt,ty,pos,aft,none⟩::rest) al w:=by
 have e:IntKind.u64.wrap (1*2^(min ((v:Nat):Int).toNat IntKind.u64.bits))=((2^v:Nat):Int):=by
  have h:2^v<18446744073709551616:=nM (Nat.pow_lt_pow_right (by decide:1<2) hv) (by decide);rw[Int.toNat_natCast,Nat.min_eq_left (by show v<=64;omega),Int.one_mul];have:((2:Int)^v)=((2^v:Nat):Int):=by simp
  rw[this,IntKind.wrap_u64];grind
 rw[<-e]at kk;exact wop hd (λa i=>Jjf (x:=.const (.int .u64 1)) rfl hy om i (some d) w) kk
end Go.Wk
namespace Go.Proofs.YtebiphhfkdbpfaaGreatDoor
open Go.RowKit Pl Go.Wk
attribute [local irreducible] WC WL QX WD WDB WP WN WG
variable {es:List Nat}{c e i n v x:Nat}{A:Option Addr}{w:World}
def Uc(es:List Nat): List Value:=es.map fun (e:Nat)=>Value.int .u32 (e:Int)
theorem Jkj(h:i<es.length): (Uc es)[i]?=some (.int .u32 (es.getD i 0:Int)):=by
 simp[Uc,List.getD,List.getElem?_eq_getElem h]
structure GrV(w:World)(A:Option Addr)(c n:Nat)(es:List Nat): Prop where
 rd:Rd w 1 A es.length (Uc es)
 cap:es.length<=c
 n32:n<=32
 few:es.length<=64
 lt:∀ e∈es,e<2^n
abbrev grC(A:Option Addr)(c n:Nat)(es:List Nat): List Value:=[.int .i64 (n:Int),.slice A es.length c]
theorem GrV.ext{w w':World}{A:Option Addr}{c n:Nat}{es:List Nat}(h:GrV w A c n es)(hx:Ext w w'): GrV w' A c n es:=⟨h.rd.ext hx,h.cap,h.n32,h.few,h.lt⟩
theorem Um(h:n<=32): 2^n<=4294967296:=Nat.pow_le_pow_right (n:=2) (by decide) h
theorem GrV.lt32(h:GrV w A c n es)(he:e∈es): e<4294967296:=nM (h.lt e he) (Um h.n32)
theorem Qvn(hn:n<=32)(w:World): Ret Tryz.prog 86 [.int .i64 (n:Int)] w λu w'=>u=.int .u32 ((2^n-1:Nat):Int)/\w'=w:=by
 have j:=Um hn;have i:0<2^n:=Nat.two_pow_pos n;refine Jz Tryz.func86 Tryz.ntmps86 rfl kr rfl ?_;refine ρ ?_;refine sl64 (v:=n) om ?_;refine ρ ?_;refine Jq ⟨?_,rfl⟩;generalize 2^n=p at *
 congr 1
 rw[IntKind.wrap_u64,IntKind.wrap_u32];omega
theorem Jpr(h:e<2^n)(hn:n<=32): Vt e (2^n-1)=0:=by
 have j:=Um hn;have i:0<2^n:=Nat.two_pow_pos n;apply Nat.eq_of_testBit_eq
 grind [Jkh,Nat.testBit_two_pow_sub_one,Nat.testBit_lt_two_pow,Nat.lt_of_lt_of_le,Nat.pow_le_pow_right]
theorem Jzk(h:GrV w A c n es): Ret Tryz.prog 46 [.agg (grC A c n es).toArray] w λu w'=>u=.int .i64 0/\Ext w w':=by
 have hn:=h.n32;have hf:=h.few;refine Jz Tryz.func46 Tryz.ntmps46 rfl kr rfl ?_;refine ρ ?_;refine bx (cs:=grC A c n es) ?_;intro w1 b y hb B;refine ρ ?_;refine ld (B.at (i:=0) rfl) ?_;refine ρ ?_;refine ld (B.at (i:=0) rfl) ?_;refine ρ ?_;refine cf ?_ ?_
 .grind
 refine ρ ?_;refine ld (B.at (i:=1) rfl) ?_;refine ρ ?_;refine cf ?_ ?_
 .grind
 refine ρ ?_;refine ld (B.at (i:=1) rfl) ?_;refine ρ ?_;refine Jp (fun (i:Nat)=>[(1,.pointer (some ⟨b,0,none⟩)),(18,.slice A es.length c),(19,.int .i64 (es.length:Int)),(20,.int .i64 (i:Int))])
  (λi w'=>i<=es.length/\Ext w1 w') (λi=>es.length-i) 0 sB ⟨Nat.zero_le _,Ext.refl _⟩ ?_
 rintro i w2 ⟨hi,j⟩;have G:=B.ext j;have J:=h.ext (y.trans j);refine ρ ?_;refine ci (λh=>?_) (λh=>?_)
 .have D:i<es.length:=by have:=oT h;omega
  clear h;have O:=getD_mem' 0 es D;refine ρ ?_;refine ix i J.rd D ?_;refine ρ ?_;refine ld (J.rd.cell (Jkj D)) ?_;refine ρ ?_;refine ld (G.at (i:=0) rfl) ?_;refine ρ ?_;refine cl (Qvn hn w2) ?_;rintro u Z ⟨rfl,rfl⟩;have hp:=Um hn;have U:0<2^n:=Nat.two_pow_pos n;refine ρ ?_;refine cf ?_ ?_
  .rw[Jqd (J.lt32 O) om,Jpr (h.lt _ O) hn];rfl
  refine ρ ?_;exact Jh (i+1) sO ⟨om,j⟩ om
 refine ρ ?_;exact Jq ⟨rfl,y.trans j⟩
def Qb(a:Nat->Nat): List Value:=(List.range 32).map λv=>.int .u32 (a v:Int)
theorem Zc(a:Nat->Nat): (Qb a).length=32:=by simp[Qb]
theorem Uf{a:Nat->Nat}(h:v<32): (Qb a)[v]?=some (.int .u32 (a v:Int)):=by simp[Qb,h]
theorem Jwl(a:Nat->Nat)(h:v<32): (Qb a).set v (.int .u32 (x:Int))=Qb (upd a v x):=by
 apply List.ext_getElem?
 grind [Zc,Uf,Xa,Qa,Qb]
theorem Jwm(a:Nat->Nat): ∀ u∈Qb a,u.oneCell'=true:=λu i=>by obtain⟨e,_,rfl⟩:=List.mem_map.1 i;rfl
theorem Ig: Qm Tryz.prog 165=some (.agg (Qb λ_=>0).toArray):=kr
theorem Jbw: Qm Tryz.prog 164=some (.agg (List.replicate 32 (Value.int .i64 0)).toArray):=kr
def AdjP(n:Nat)(es:List Nat)(a:Nat->Nat): Prop:=∀ v,v<32->a v<4294967296/\∀ x,(a v).testBit x=(decide (v<n) && (x != v) && es.any λe=>e.testBit v && e.testBit x)
theorem Jqs: (2^v).testBit x=decide (v=x):=Nat.testBit_two_pow
theorem Qvp(h:GrV w A c n es): Ret Tryz.prog 189 [.agg (grC A c n es).toArray] w λu w'=>Ext w w'/\∃ a,u=.agg (Qb a).toArray/\AdjP n es a:=by
 have hn:=h.n32;have hf:=h.few;refine Jz Tryz.func189 Tryz.ntmps189 rfl kr rfl ?_;refine ρ ?_;refine bx (cs:=grC A c n es) ?_;intro w1 b1 a2 aq ae;refine ρ ?_;refine alc (cs:=Qb λ_=>0) Ig ?_;intro w2 b2 Z ap am;refine ρ ?_;refine alc (cs:=Qb λ_=>0) Ig ?_;intro w3 b3 a7 aj ak;have an:=(a2.trans Z).trans a7;refine ρ ?_;refine ld (((ae.ext Z).ext a7).at (i:=1) rfl) ?_;refine ρ ?_;refine Qq (fun (i:Nat) (a:Nat->Nat)=>[(1,.pointer (some ⟨b1,0,none⟩)),(2,.pointer (some ⟨b2,0,none⟩)),(3,.pointer (some ⟨b3,0,none⟩)),(8,.slice A es.length c),(9,.int .i64 (es.length:Int)),(10,.int .i64 (i:Int))])
  (λi a w'=>i<=es.length/\Ext w2 w'/\Blk w' b3 165 (Qb a)/\AdjP n (es.take i) a) (λi _=>es.length-i) 0 (λ_=>0) sB
  ⟨Nat.zero_le _,a7,ak,λv _=>⟨by simp only;omega,λx=>by simp⟩⟩ ?_
 rintro i a w4 ⟨hi,U,a6,ha⟩;have ad:=(ae.ext Z).ext U;have ac:=am.ext U;have h4:=h.ext ((a2.trans Z).trans U);refine ρ ?_;refine ci (λG=>?_) (λG=>?_)
 .have li:i<es.length:=by have:=oT G;omega
  clear G;have hm:=getD_mem' 0 es li;have B:=h4.lt32 hm;obtain⟨e,he⟩:∃ e,e=es.getD i 0:=⟨_,rfl⟩;refine ρ ?_;refine ix i h4.rd li ?_;refine ρ ?_;refine ld (h4.rd.cell (Jkj li)) ?_;rw[<-he]at hm B ⊢;refine ρ ?_;refine ld (ad.at (i:=0) rfl) ?_;refine ρ ?_;refine Qq (fun (v:Nat) (J:Nat->Nat)=>[(1,.pointer (some ⟨b1,0,none⟩)),(2,.pointer (some ⟨b2,0,none⟩)),(3,.pointer (some ⟨b3,0,none⟩)),(8,.slice A es.length c),(9,.int .i64 (es.length:Int)),(10,.int .i64 (i:Int)),(5,.int .u32 (e:Int)),(15,.int .i64 (n:Int)),(16,.int .i64 (v:Int))])
   (λv J w'=>v<=n/\Ext w2 w'/\Blk w' b3 165 (Qb J)/\∀ u,u<32->J u<4294967296/\∀ x,(J u).testBit x=((a u).testBit x || (decide (u<v) && e.testBit u && e.testBit x && (x != u)))) (λv _=>n-v) 0 a sB
   ⟨Nat.zero_le _,U,a6,λu hu=>⟨(ha u hu).1,λx=>by simp⟩⟩ ?_
  rintro v J w5 ⟨hv,O,a1,a3⟩;refine ρ ?_;refine ci (λG=>?_) (λG=>?_)
  .have lv:v<n:=by have:=oT G;omega
   have y:v<32:=om
   clear G;have a8:=a3 v y;have af:=Gg y;refine ρ ?_;refine sr32 (s:=e) (v:=v) om ?_;refine ρ ?_;refine ci (λG=>?_) (λG=>?_)
   .rw[Jkf B]at G;have a9:Ext w5 w5.drew:=(Ext.refl w5).drew;have D:=a1.ext a9;refine ρ ?_;refine drN (λ_=>False) 10 [(0,0),(0,1),(0,2),(0,3),(0,4),(0,5),(0,6),(0,7),(0,8),(2,9)] kr ?_;refine ρn ?_;refine nixb v y ?_;refine ρn ?_;refine nld (Gl (D.atc (Uf y)) (λe=>e)) ?_;refine ρn ?_;refine Jvl y ?_;refine ρn ?_;refine nixb v y ?_;refine ρn ?_;refine Kn ?_;refine sto (p:=⟨b3,v,none⟩) (D.cell v |>.trans (Uf y)) (D.frozen _) ?_;have a4:=Jps (t:=2^v) B;have ag:bits .or .u32 (J v:Int) (bits .andNot .u32 (e:Int) ((2^v:Nat):Int))=((J v ||| Vt e (2^v):Nat):Int):=by
     rw[Jqd B af,Ge a8.1 a4]
    rw[ag];have a5:=D.set v (.int .u32 ((J v ||| Vt e (2^v):Nat):Int));rw[Jwl J y]at a5;have aa:w2.heap.size<=b3:=aj;refine ω5 ?_;refine Km ?_;refine ρn ?_;refine ρ ?_;refine Ja (v+1) (upd J v (J v ||| Vt e (2^v))) sO ⟨om,(O.trans a9).setCell aa _,a5,λu hu=>?_⟩ om;by_cases e1:u=v
    .subst e1;rw[Xa];refine⟨Jjh a8.1 a4,λx=>?_⟩;rw[Nat.testBit_or,Jkh B af,Jqs,a8.2,G,decide_eq_true (Nat.lt_succ_self u),decide_eq_false (Nat.lt_irrefl u)];grind
    repeat grind [Qa]
   rw[Jkf B]at G;refine ρ ?_;refine Ja (v+1) J sO ⟨om,O,a1,λu hu=>⟨(a3 u hu).1,λx=>?_⟩⟩ om;grind
  have ah:v=n:=by have:=oF G;omega
  subst ah;clear G;refine ρ ?_;refine Ja (i+1) J sO ⟨om,O,a1,λu hu=>⟨(a3 u hu).1,λx=>?_⟩⟩ om;rw[(a3 u hu).2,(ha u hu).2,Xj 0 li,<-he,List.any_append];grind
 have ai:i=es.length:=by have:=oF G;omega
 subst ai;clear G;rw[List.take_length]at ha;refine ρ ?_;refine lda (cs:=Qb a) (λj u hu=>a6.at hu) (Zc a).symm ?_;refine ρ ?_;refine sta (cs':=Qb a) ac ?_ (Jwm a) (by rw[Zc,Zc]) (Zc a).symm;intro w5 ab ao O;refine ρ ?_;exact Jmd ab (Zc a).symm ⟨O w ((a2.trans Z).trans U) (by have:=a2.size;omega),a,rfl,ha⟩
open Go.RowKit Pl Go.Wk
variable {es:List Nat}{c f n v:Nat}{A:Option Addr}{w:World}
theorem Qvm(h:GrV w A c n es)(hv:v<n): Ret Tryz.prog 155 [.agg (grC A c n es).toArray,.int .i64 (v:Int)] w λu w'=>Ext w w'/\∃ a,u=.int .u32 (a v:Int)/\AdjP n es a:=by
 have hn:=h.n32;refine Jz Tryz.func155 Tryz.ntmps155 rfl kr rfl ?_;refine ρ ?_;refine bx (cs:=grC A c n es) ?_;intro w1 b B hb O;refine ρ ?_;refine lds (cs:=grC A c n es) (λj u J=>O.at J) ?_;refine ρ ?_;refine cl (Jzk (h.ext B)) ?_;rintro u w2 ⟨rfl,y⟩;have D:=O.ext y;refine ρ ?_;refine ld (D.at (i:=0) rfl) ?_;refine ρ ?_;refine cf ?_ ?_
 .grind
 refine ρ ?_;refine lds (cs:=grC A c n es) (λj u J=>D.at J) ?_;refine ρ ?_;refine cl (Qvp (h.ext (B.trans y))) ?_;rintro u Z ⟨G,a,rfl,U⟩;refine ρ ?_;refine idx v (show v<32 by omega) (Uf (show v<32 by omega)) ?_;refine ρ ?_;exact Jq ⟨(B.trans y).trans G,a,rfl,U⟩
theorem Qyt(h:GrV w A c n es): Ret Tryz.prog 81 [.agg (grC A c n es).toArray] w λu w'=>Ext w w'/\∃ a,u=.agg (Qb a).toArray/\AdjP n es a:=by
 have hn:=h.n32;refine Jz Tryz.func81 Tryz.ntmps81 rfl kr rfl ?_;refine ρ ?_;refine bx (cs:=grC A c n es) ?_;intro w1 b1 a3 af a8;refine ρ ?_;refine alc (cs:=Qb λ_=>0) Ig ?_;intro w2 b2 Z ae ac;refine ρ ?_;refine alc (cs:=Qb λ_=>0) Ig ?_;intro w3 b3 a1 aa ab;refine ρ ?_;refine ld (((a8.ext Z).ext a1).at (i:=0) rfl) ?_;refine ρ ?_;refine Qq (fun (v:Nat) (a:Nat->Nat)=>[(1,.pointer (some ⟨b1,0,none⟩)),(2,.pointer (some ⟨b2,0,none⟩)),(3,.pointer (some ⟨b3,0,none⟩)),(6,.int .i64 (n:Int)),(7,.int .i64 (v:Int))])
  (λv a w'=>v<=n/\Ext w2 w'/\Blk w' b3 165 (Qb a)/\∀ u,u<32->a u<4294967296/\∀ x,(a u).testBit x=(decide (u<v) && (x != u) && es.any λe=>e.testBit u && e.testBit x)) (λv _=>n-v) 0 (λ_=>0) sB
  ⟨Nat.zero_le _,a1,ab,λu hu=>⟨by simp only;omega,λx=>by simp⟩⟩ ?_
 rintro v a w4 ⟨hv,G,U,ha⟩;have a7:=(a8.ext Z).ext G;have a6:=ac.ext G;have J:=(a3.trans Z).trans G;refine ρ ?_;refine ci (λhc=>?_) (λhc=>?_)
 .have lv:v<n:=by have:=oT hc;omega
  have y:v<32:=om
  clear hc;refine ρ ?_;refine lds (cs:=grC A c n es) (λj u hu=>a7.at hu) ?_;refine ρ ?_;refine cl (Qvm (h.ext J) lv) ?_;rintro u w5 ⟨D,a2,rfl,a4⟩;have B:=U.ext D;refine ρ ?_;refine ixb v y ?_;refine ρ ?_;refine sto (p:=⟨b3,v,none⟩) (B.cell v |>.trans (Uf y)) (B.frozen _) ?_;have O:=B.set v (.int .u32 ((a2 v:Nat):Int));rw[Jwl a y]at O;refine ρ ?_;refine Ja (v+1) (upd a v (a2 v)) sO ⟨om,(G.trans D).setCell aa _,O,λu hu=>?_⟩ om;by_cases e:u=v
  .subst e;rw[Xa,decide_eq_true (Nat.lt_succ_self u)];refine⟨(a4 u hu).1,λx=>?_⟩;rw[(a4 u hu).2,decide_eq_true lv]
  repeat grind [Qa]
 have a9:v=n:=by have:=oF hc;omega
 subst a9;clear hc;refine ρ ?_;refine lda (cs:=Qb a) (λj u hu=>U.at hu) (Zc a).symm ?_;refine ρ ?_;refine sta (cs':=Qb a) a6 ?_ (Jwm a) (by rw[Zc,Zc]) (Zc a).symm;intro w5 a5 ad D;refine ρ ?_;exact Jmd a5 (Zc a).symm ⟨D w J (by have:=a3.size;omega),a,rfl,ha⟩
theorem Qyr(h:GrV w A c n es)(hf:f<=n): Ret Tryz.prog 80 [.agg (grC A c n es).toArray,.int .i64 (f:Int)] w λu w'=>u=.int .i64 0/\Ext w w':=by
 have hn:=h.n32;refine Jz Tryz.func80 Tryz.ntmps80 rfl kr rfl ?_;refine ρ ?_;refine bx (cs:=grC A c n es) ?_;intro w1 b B O G;refine ρ ?_;refine lds (cs:=grC A c n es) (λj u J=>G.at J) ?_;refine ρ ?_;refine cl (Jzk (h.ext B)) ?_;rintro u w2 ⟨rfl,y⟩;have D:=G.ext y;refine ρ ?_;refine ld (D.at (i:=0) rfl) ?_;refine ρ ?_;refine cf ?_ ?_
 .grind
 refine ρ ?_;exact Jq ⟨rfl,B.trans y⟩
end Go.Proofs.YtebiphhfkdbpfaaGreatDoor
namespace Go.Proofs.YtebiphhfkdbpfaaGreatDoor
open Pl Go.Wk
variable {es l ord perm:List Nat}{e i j k n u x:Nat}{f g:Nat->List Value}
def nb0(n:Nat)(es:List Nat)(u x:Nat): Bool:=decide (u<n) && (x != u) && es.any λe=>e.testBit u && e.testBit x
theorem Qfl(he:e<2^n)(h:e.testBit u=true): u<n:=Qfj he h
theorem Jvn(he:∀ e∈es,e<2^n)(h:nb0 n es u x=true): u<n/\x<n/\x≠u:=by
 simp only[nb0,Bool.and_eq_true,decide_eq_true_eq,bne_iff_ne,List.any_eq_true]at h;obtain⟨⟨B,y⟩,e,i,_,j⟩:=h;exact⟨B,Qfl (he e i) j,y⟩
theorem Qkh(he:∀ e∈es,e<2^n): NbInv [] (nb0 n es):=by
 refine⟨λu x _ _=>?_,λu x _ h=>⟨by simp,(Jvn he h).2.2⟩⟩;rw[Bool.eq_iff_iff];have key:∀ u x,nb0 n es u x=true->nb0 n es x u=true:=λu x h=>by
  have i:=Jvn he h;simp only[nb0,Bool.and_eq_true,decide_eq_true_eq,bne_iff_ne,List.any_eq_true]at h ⊢;grind
 grind
theorem Jgw: ∀(k:Nat) {l:List Nat},l.Nodup->(∀ u∈l,u<k)->l.length<=k
 | 0,[],_,_=>Nat.le_refl _
 | 0,u::l,_,h=>absurd (h u (mC ..)) om
 | k+1,l,hn,h=>by
  have h1:=Jgw k (l:=l.filter λu=>u != k) (hn.sublist List.filter_sublist) (λu hu=>by grind);have h2:l.length<=(l.filter λu=>u != k).length+1:=by
   clear h h1;induction l with
   | nil=>simp
   | cons x l ih=>
    grind [List.nodup_cons.1,List.filter_eq_self.2,List.filter_cons_of_neg,List.length_cons,List.filter_cons_of_pos]
  omega
theorem Qzq(hn:l.Nodup)(hlt:∀ u∈l,u<k)(hlen:l.length=k)(hu:u<k): u∈l:=by
 refine Classical.byContradiction λh=>?_;have:=Jgw k (l:=u::l) (List.nodup_cons.2 ⟨h,hn⟩) (λx i=>by grind);grind
def Vl(perm:List Nat)(f:Nat): List Nat:=perm++(List.range f).reverse
structure PermOk(n f:Nat)(perm:List Nat): Prop where
 fn:f<=n
 len:perm.length=n-f
 rng:∀ v∈perm,f<=v/\v<n
 nd:perm.Nodup
theorem PermOk.olen{f:Nat}(h:PermOk n f perm): (Vl perm f).length=n:=by
 have:=h.len;have:=h.fn;simp[Vl];omega
theorem PermOk.ond{f:Nat}(h:PermOk n f perm): (Vl perm f).Nodup:=by
 refine List.nodup_append.2 ⟨h.nd,List.pairwise_reverse.2 (List.nodup_range.imp λh=>h.symm),λu i v j e=>?_⟩;have y:=(h.rng u i).1;grind
theorem PermOk.olt{f:Nat}(h:PermOk n f perm)(hu:u∈Vl perm f): u<n:=by
 rcases List.mem_append.1 hu with h1|h1
 .exact(h.rng u h1).2
 have:=List.mem_range.1 (List.mem_reverse.1 h1);have:=h.fn;omega
theorem PermOk.omem{f:Nat}(h:PermOk n f perm): u∈Vl perm f↔u<n :=
 ⟨h.olt,λi=>Qzq h.ond (λ_=>h.olt) h.olen i⟩
theorem Jgb(hn:ord.Nodup)(hi:i<ord.length): pre ord (ord.getD i 0)=ord.take i:=by grind [Xf,List.drop_eq_getElem_cons,List.take_append_drop,List.nodup_append,List.mem_cons_self,Qqx]
def plc(ord:List Nat)(u:Nat): Nat:=(pre ord u).length
theorem Jvc(hn:ord.Nodup)(hi:i<ord.length): plc ord (ord.getD i 0)=i:=by grind [plc,Jgb,List.length_take]
theorem Iw(hn:ord.Nodup)(hu:u∈ord): plc ord u<ord.length/\ord.getD (plc ord u) 0=u:=by
 obtain⟨i,hi,e⟩:=List.getElem_of_mem hu;have j:=Jvc hn hi;grind
def Qg(n:Nat)(f:Nat->List Value): List Value:=(List.range n).flatMap f
theorem Ko(n:Nat)(f:Nat->List Value): Qg (n+1) f=Qg n f++f n:=by simp[Qg,List.range_succ,List.flatMap_append]
theorem Jyn{sz:Nat}(h:∀ i,i<n->(f i).length=sz): (Qg n f).length=n*sz:=by
 induction n with
 | zero=>simp[Qg]
 | succ n ih=>rw[Ko,List.length_append,ih (λi hi=>h i om),h n om,Nat.succ_mul]
theorem Jzr(h:∀ i,i<n->f i=g i): Qg n f=Qg n g:=by
 induction n with
 | zero=>rfl
 | succ n ih=>rw[Ko,Ko,ih (λi hi=>h i om),h n om]
theorem Jlv{sz:Nat}(h:∀ i,i<n->(f i).length=sz)(hi:i<n)(hj:j<sz): (Qg n f)[i*sz+j]?=(f i)[j]?:=by
 induction n with
 | zero=>omega
 | succ n ih=>
  have u:=Jyn (n:=n) (λi hi=>h i om);rw[Ko];grind
theorem Qyc{sz:Nat}(h:∀ i,i<n->(f i).length=sz)(hi:i<n){cs:List Value}(hc:cs.length=sz): (Qg n f).take (i*sz)++cs++(Qg n f).drop (i*sz+sz)=Qg n (upd f i cs):=by
 induction n with
 | zero=>omega
 | succ n ih=>
  have u:=Jyn (n:=n) (λi hi=>h i om);have j:=h n om;rw[Ko,Ko];by_cases e:i=n
  .grind [List.take_of_length_le,List.drop_of_length_le,List.length_append,Xa,Jzr,Qa]
  have y:i*sz+sz<=n*sz:=by
   have:(i+1)*sz<=n*sz:=nO _ om;grind
  grind [List.append_assoc,Qa]
open Go.RowKit Pl Go.Wk
attribute [local irreducible] WC WL QX WD WDB WP WN WG
variable {es perm:List Nat}{v x:Nat}
def Zj(o:Nat->Nat): List Value:=(List.range 32).map λi=>.int .i64 (o i:Int)
theorem Jld(o:Nat->Nat): (Zj o).length=32:=by simp[Zj]
theorem Ue{o:Nat->Nat}(h:v<32): (Zj o)[v]?=some (.int .i64 (o v:Int)):=by simp[Zj,h]
theorem Jlc(o:Nat->Nat)(h:v<32): (Zj o).set v (.int .i64 (x:Int))=Zj (upd o v x):=by
 apply List.ext_getElem?
 grind [Jld,Ue,Xa,Qa,Zj]
theorem Qvb(h:perm.length<=32): Jl (nz perm)++(List.replicate 32 (Value.int .i64 0)).drop perm.length=Zj λi=>perm.getD i 0:=by
 have j:(Jl (nz perm)).length=perm.length:=by simp[Jl,nz]
 apply List.ext_getElem?
 grind [List.getElem?_append_left,Xq,Ue,List.getElem?_append_right,List.getD,List.getElem?_eq_none,Nat.le_of_not_lt,Jld]
def Zp(kf:Nat->Nat)(pf:Nat->Int)(v:Nat): List Value:=[.int .i64 (v:Int),.int .u32 (kf v:Int),.int .i64 (pf v)]
def Jqj(n:Nat)(es ord:List Nat)(kf:Nat->Nat)(pf:Nat->Int): Prop:=∀ v,v<n->kf v<4294967296/\(∀ x,(kf v).testBit x=Vv (nb0 n es) ord v x) /\
 ((pf v = -1/\∀ x,Vv (nb0 n es) ord v x=false)∨∃ p:Nat,pf v=p/\Vv (nb0 n es) ord v p=true/\∀ x,Vv (nb0 n es) ord v x=true->plc ord p<=plc ord x)
theorem EBg: ElT Tryz.prog 49 66 3 24 (.agg #[.int .i64 0,.int .u32 0,.int .i64 0]):=⟨Tryz.underlying49,info_parts kr,rfl,by decide⟩
theorem zBag: Qm Tryz.prog 66=some (.agg #[.int .i64 0,.int .u32 0,.int .i64 0]):=kr
theorem Qfd(v k:Int)(w:World): (Instr.build 66 #[(0,.int .i64 v),(1,.int .u32 k),(2,.int .i64 (-1))]).run Tryz.prog w=.ok (.agg #[.int .i64 v,.int .u32 k,.int .i64 (-1)]) w:=kr
theorem Jgs{a b c:Int}: ∀ u∈[Value.int .i64 a,.int .u32 b,.int .i64 c],u.oneCell'=true:=λu i=>by
 simp only[List.mem_cons,List.not_mem_nil,or_false]at i;rcases i with rfl|rfl|rfl<;>rfl
theorem Jhh{zs:List Value}(h:0<zs.length)(n:Nat): (madeCells zs.toArray (n*zs.length)).toList=Qg n λ_=>zs:=by
 apply List.ext_getElem?
 intro k;by_cases hk:k<n*zs.length
 .have u:k / zs.length<n:=Nat.div_lt_of_lt_mul (by grind);have i:=Nat.mod_lt k h;have j:=Jlv (n:=n) (sz:=zs.length) (f:=λ_=>zs) (λ_ _=>rfl) u i;rw[Nat.div_add_mod' k zs.length]at j;rw[j];simp only[madeCells,Array.getElem?_toList,Array.getElem?_map,Array.getElem?_range,hk,if_true,Option.map_some];simp[i]
 have y:=Jyn (n:=n) (sz:=zs.length) (f:=λ_=>zs) (λ_ _=>rfl);rw[List.getElem?_eq_none (by simp[madeCells];omega),List.getElem?_eq_none om]
theorem made3(n:Nat): (madeCells (Value.agg #[.int .i64 0,.int .u32 0,.int .i64 0]).cells (n*3)).toList=Qg n λ_=>[.int .i64 0,.int .u32 0,.int .i64 0]:=Jhh (zs:=[.int .i64 0,.int .u32 0,.int .i64 0]) (by simp) n
def Vf(ord:List Nat)(kf:Nat->Nat)(pf:Nat->Int)(j v:Nat): List Value:=if plc ord v<j then Zp kf pf v else[.int .i64 0,.int .u32 0,.int .i64 0]
theorem Qfq(ord:List Nat)(kf:Nat->Nat)(pf:Nat->Int)(j v:Nat): (Vf ord kf pf j v).length=3:=by unfold Vf;split<;>rfl
def BagAt(n:Nat)(es ord:List Nat)(v k:Nat)(p:Int): Prop:=k<4294967296/\(∀ x,k.testBit x=Vv (nb0 n es) ord v x) /\
 ((p = -1/\∀ x,Vv (nb0 n es) ord v x=false)∨∃ q:Nat,p=q/\Vv (nb0 n es) ord v q=true/\∀ x,Vv (nb0 n es) ord v x=true->plc ord q<=plc ord x)
theorem Jmz(x y:Nat): decide (x=y) = !(y != x):=by grind
theorem Qys{w:World}{A PA:Option Addr}{c pc n f:Nat}(h:GrV w A c n es)(hp:PermOk n f perm)(hP:Rd w 1 PA perm.length (Jl (nz perm))):
  Ret Tryz.prog 42 [.agg (grC A c n es).toArray,.int .i64 (f:Int),.slice PA perm.length pc] w λu w'=>Ext w w'/\∃ B kf pf,u=.tuple #[.slice B n n,.int .i64 0]/\w'.ownsRow w.heap.size 66 3 (.slice B n n) n (Qg n (Zp kf pf))/\Jqj n es (Vl perm f) kf pf:=by
 have hn:=h.n32;have ey:=hp.fn;have f9:=hp.len;refine Jz Tryz.func42 Tryz.ntmps42 rfl kr rfl ?_;refine ρ ?_;refine bx (cs:=grC A c n es) ?_;intro w1 b3 dm fc e6;refine ρ ?_;refine lds (cs:=grC A c n es) (λj u hu=>e6.at hu) ?_;refine ρ ?_;refine cl (Qyr (h.ext dm) ey) ?_;rintro u w2 ⟨rfl,dh⟩;have be:=dm.trans dh;refine ρ ?_;refine Qq (fun (i:Nat) (s:Nat)=>[(1,.int .i64 (f:Int)),(2,.slice PA perm.length pc),(3,.pointer (some ⟨b3,0,none⟩)),(9,.int .u32 (s:Int)),(28,.slice PA perm.length pc),(29,.int .i64 (perm.length:Int)),(30,.int .i64 (i:Int))])
  (λi s w'=>i<=perm.length/\w'=w2/\s<4294967296/\∀ x,s.testBit x=true->x∈perm.take i) (λi _=>perm.length-i) 0 0 sB
  ⟨Nat.zero_le _,rfl,om,λx U=>by simp at U⟩ ?_
 rintro i s w' ⟨hi,rfl,hs,d4⟩;have af:=e6.ext dh;refine ρ ?_;refine ci (λhc=>?_) (λhc=>?_)
 .have li:i<perm.length:=by have:=oT hc;omega
  clear hc;have e4:=hP.ext be;have hv:=hp.rng _ (getD_mem' 0 perm li);obtain⟨v,ev⟩:∃ v,v=perm.getD i 0:=⟨_,rfl⟩;refine ρ ?_;refine ix i e4 li ?_;refine ρ ?_;refine ld (e4.cell (Xq li)) ?_;rw[<-ev]at hv ⊢;refine ρ ?_;refine kf 37 ?_ ?_
  .exact dF om
  refine ρ ?_;refine ld (af.at (i:=0) rfl) ?_;refine ρ ?_;refine kf 43 ?_ ?_
  .exact dF om
  refine ρ ?_;refine sr32 (s:=s) (v:=v) om ?_;have ds:perm.take (i+1)=perm.take i++[v]:=by rw[Xj 0 li,ev]
  have ep:v ∉ perm.take i:=λhm=>by
   have J:(perm.take (i+1)).Nodup:=hp.nd.sublist (List.take_sublist _ _);rw[ds,List.nodup_append]at J;exact J.2.2 _ hm _ (List.mem_singleton.2 rfl) rfl
  refine ρ ?_;refine cf ?_ ?_
  .rw[Jkf hs];cases hb:s.testBit v with
   | false=>rfl
   | true=>exact absurd (d4 v hb) ep
  have ch:=Gg (show v<32 by omega);refine ρ ?_;refine sl32 (v:=v) om ?_;refine ρ ?_;rw[Ge hs ch];refine ρ ?_;refine Ja (i+1) (s ||| 2^v) sO ⟨om,rfl,Jjh hs ch,λx U=>?_⟩ om;rw[Nat.testBit_or,Jqs,Bool.or_eq_true,decide_eq_true_eq]at U;rw[ds,List.mem_append,List.mem_singleton];rcases U with U|U
  .exact .inl (d4 x U)
  exact .inr U.symm
 clear hc hs d4 hi;refine ρ ?_;refine ld (af.at (i:=0) rfl) ?_;refine ρ ?_;refine cf ?_ ?_
 .exact bne_f om
 refine ρ ?_;refine alc (cs:=List.replicate 32 (Value.int .i64 0)) Jbw ?_;intro w3 a8 c1 cy cg;refine ρ ?_;refine alc (cs:=List.replicate 32 (Value.int .i64 0)) Jbw ?_;intro w4 a1 cj cx e7;have ce:=cg.ext cj;have df:=(be.trans c1).trans cj;refine ρ ?_;refine sla ?_;refine ρ ?_;refine cpb (dl:=32) (dc:=32) ce (hP.ext df) om (by simp) (λu hu=>?_) ?_
 .obtain⟨z,_,rfl⟩:=List.mem_map.1 hu;rfl
 intro w5 cd d8;rw[Qvb om]at cd;have d7:a1≠a8:=λe=>by have:=cg.lt;omega
 have da:Blk w5 a1 164 (Zj λ_=>0):=by
  have J:=e7.grown d8 (λe=>by injection e with e;exact d7 e);exact J
 have e5:Blk w5 b3 48 (grC A c n es):=by
  have J:=(af.ext (c1.trans cj)).grown d8 (λe=>by injection e with e;have:=af.lt;omega);exact J
 have c8:w'.heap.size<=a8:=cy;have ef:Ext w' w5:=Qvr (c1.trans cj) d8 c8;obtain⟨ord,ak⟩:∃ ord,ord=Vl perm f:=⟨_,rfl⟩;have c4:ord.length=n:=by rw[ak];exact hp.olen
 have a3:ord.Nodup:=by rw[ak];exact hp.ond
 have b6:∀ {u},u∈ord↔u<n:=fun {u}=>by rw[ak];exact hp.omem
 have cr:∀ i,i<n->ord.getD i 0<n:=λi hi=>b6.1 (getD_mem' 0 ord (c4.symm ▸ hi));clear cg ce;refine ρ ?_;refine Qq (fun (k:Nat) (o:Nat->Nat)=>[(1,.int .i64 (f:Int)),(2,.slice PA perm.length pc),(3,.pointer (some ⟨b3,0,none⟩)),(12,.pointer (some ⟨a8,0,none⟩)),(13,.pointer (some ⟨a1,0,none⟩)),(65,.int .i64 (f:Int)),(66,.int .i64 (k:Int))])
  (λk o w6=>k<=f/\Ext w' w6/\Blk w6 b3 48 (grC A c n es)/\Blk w6 a8 164 (Zj o)/\Blk w6 a1 164 (Zj λ_=>0)/\∀ j,j<perm.length+k->o j=ord.getD j 0) (λk _=>f-k) 0 (λi=>perm.getD i 0) sB
  ⟨Nat.zero_le _,ef,e5,cd,da,λj hj=>?_⟩ ?_
 .rw[ak];simp[Vl,List.getD,List.getElem?_append_left (show j<perm.length by omega)]
 rintro k o w6 ⟨hk,d1,bj,ah,bd,ho⟩;refine ρ ?_;refine ci (λhc=>?_) (λhc=>?_)
 .have lk:k<f:=by have:=oT hc;omega
  clear hc;have d5:perm.length+k<32:=om
  refine ρ ?_;refine ixb (perm.length+k) d5 ?_;refine ρ ?_;have ev:(f:Int)-1-(k:Int)=((f-1-k:Nat):Int):=om
  rw[ev];refine sto (p:=⟨a8,perm.length+k,none⟩) (ah.cell _ |>.trans (Ue d5)) (ah.frozen _) ?_;have Z:=ah.set (perm.length+k) (.int .i64 ((f-1-k:Nat):Int));rw[Jlc o d5]at Z;refine ρ ?_;refine Ja (k+1) (upd o (perm.length+k) (f-1-k)) sO ⟨om,d1.setCell c8 _,bj.far (by simp only;have:=af.lt;omega) _,Z,bd.far (λe=>d7 e) _,λj hj=>?_⟩ om;by_cases e:j=perm.length+k
  .subst e;rw[Xa,ak];simp only[Vl,List.getD];rw[List.getElem?_append_right om,Nat.add_sub_cancel_left,List.getElem?_reverse (by simp;omega),List.length_range,List.getElem?_range om];rfl
  rw[Qa _ _ e];exact ho j om
 have et:k=f:=by have:=oF hc;omega
 subst et;clear hc;have em:perm.length+k=n:=om
 rw[em]at ho;refine ρ ?_;refine ld (bj.at (i:=0) rfl) ?_;refine ρ ?_;refine Qq (fun (i:Nat) (q:Nat->Nat)=>[(2,.slice PA perm.length pc),(3,.pointer (some ⟨b3,0,none⟩)),(12,.pointer (some ⟨a8,0,none⟩)),(13,.pointer (some ⟨a1,0,none⟩)),(80,.int .i64 (n:Int)),(81,.int .i64 (i:Int))])
  (λi q w7=>i<=n/\Ext w' w7/\Blk w7 b3 48 (grC A c n es)/\Blk w7 a8 164 (Zj o)/\Blk w7 a1 164 (Zj q)/\∀ u,u<n->plc ord u<i->q u=plc ord u) (λi _=>n-i) 0 (λ_=>0) sB
  ⟨Nat.zero_le _,d1,bj,ah,bd,λu _ hu=>om⟩ ?_
 clear d1 bj ah bd;rintro i q w7 ⟨hi,bu,b7,Z,a9,hq⟩;refine ρ ?_;refine ci (λhc=>?_) (λhc=>?_)
 .have li:i<n:=by have:=oT hc;omega
  clear hc;have fa:=cr i li;have en:=ho i li;refine ρ ?_;refine ixb i (show i<32 by omega) ?_;refine ρ ?_;refine ld (Z.atc (Ue (show i<32 by omega))) ?_;rw[en];refine ρ ?_;refine ixb (ord.getD i 0) (show ord.getD i 0<32 by omega) ?_;refine ρ ?_;refine sto (p:=⟨a1,ord.getD i 0,none⟩) (a9.cell _ |>.trans (Ue (show ord.getD i 0<32 by omega))) (a9.frozen _) ?_;have cc:=a9.set (ord.getD i 0) (.int .i64 (i:Int));rw[Jlc q (show ord.getD i 0<32 by omega)]at cc;have c7:w'.heap.size<=a1:=nL c1.size cx;refine ρ ?_;refine Ja (i+1) (upd q (ord.getD i 0) i) sO ⟨om,bu.setCell c7 _,b7.far (by simp only;have:=af.lt;omega) _,Z.far (λe=>d7 e.symm) _,cc,λu hu er=>?_⟩ om;by_cases e:u=ord.getD i 0
  .rw[e,Xa,Jvc a3 (c4.symm ▸ li)]
  rw[Qa _ _ e];refine hq u hu ?_;have J:=Iw a3 (b6.2 hu);rcases Nat.lt_or_ge (plc ord u) i with h2|h2
  .exact h2
  have:plc ord u=i:=om
  rw[this]at J;exact absurd J.2.symm e
 have ew:i=n:=by have:=oF hc;omega
 subst ew;clear hc;have dn:∀ u,u<i->q u=plc ord u:=λu hu=>hq u hu (by have:=(Iw a3 (b6.2 hu)).1;omega);have c0:=be.trans bu;refine ρ ?_;refine lds (cs:=grC A c i es) (λj u hu=>b7.at hu) ?_;refine ρ ?_;refine cl (Qyt (h.ext c0)) ?_;rintro u w8 ⟨dg,a0,rfl,e3⟩;refine ρ ?_;refine alc (cs:=Qb λ_=>0) Ig ?_;intro w9 a4 ee cw b8;refine ρ ?_;refine sta (cs':=Qb a0) b8 ?_ (Jwm a0) (by rw[Zc,Zc]) (Zc a0).symm;intro bt b8 f2 dk;have d0:Ext w8 bt:=dk w8 ee cw;have ae:=dg.trans d0;have bc:=b7.ext ae;refine ρ ?_;refine ld (bc.at (i:=0) rfl) ?_;refine ρ ?_;refine mkn EBg i om (by unfold maxLen;omega) ?_;intro f5 B bf au _;rw[made3]at au;have ad:=ae.trans bf;have bb:=bc.ext bf;have bq:=Z.ext ad;have bo:=a9.ext ad;have bn:=b8.ext bf;have ed:=c0.trans ad;refine ρ ?_;refine ld (bb.at (i:=0) rfl) ?_;have ec:w'.heap.size<=a8:=cy;have f7:a1<w7.heap.size:=a9.lt;have f8:a8<w7.heap.size:=Z.lt
 have l3:b3<w7.heap.size:=b7.lt;have f6:w7.heap.size<=a4:=nL dg.size cw;have de:a4<bt.heap.size:=b8.lt;have c7:w'.heap.size<=a1:=nL c1.size cx;have e8:Qg i (λ_=>[Value.int .i64 0,.int .u32 0,.int .i64 0])=Qg i (Vf ord (λ_=>0) (λ_=>0) 0):=Jzr λv _=>by simp[Vf]
 have dz:∀ e∈es,e<2^i:=h.lt;rw[e8]at au;refine ρ ?_;refine Jqq (fun (j:Nat) (a:Nat->Nat) (kf:Nat->Nat) (pf:Nat->Int)=>[(3,.pointer (some ⟨b3,0,none⟩)),(12,.pointer (some ⟨a8,0,none⟩)),(13,.pointer (some ⟨a1,0,none⟩)),(16,.pointer (some ⟨a4,0,none⟩)),(17,.slice B i i),(96,.int .i64 (i:Int)),(97,.int .i64 (j:Int))])
  (λj a kf pf aa=>j<=i/\Ext w' aa/\w7.heap.size<=aa.heap.size/\bt.heap.size<=aa.heap.size/\Blk aa b3 48 (grC A c i es)/\Blk aa a8 164 (Zj o)/\Blk aa a1 164 (Zj q)/\Blk aa a4 165 (Qb a)/\aa.ownsRow bt.heap.size 66 3 (.slice B i i) i (Qg i (Vf ord kf pf j)) /\
   (∀ u,u<32->a u<4294967296)/\(∀ u,u<i->∀ x,(a u).testBit x=Yw (nb0 i es) (ord.take j) u x)/\∀ v,v<i->plc ord v<j->BagAt i es ord v (kf v) (pf v)) (λj _ _ _=>i-j) 0 a0 (λ_=>0) (λ_=>0) sB
  ⟨Nat.zero_le _,bu.trans ad,ad.size,bf.size,bb,bq,bo,bn,au,λu hu=>(e3 u hu).1,λu hu x=>?_,λv _ hv=>om⟩ ?_
 .rw[(e3 u om).2];rfl
 clear bb bq bo bn au bc b7 Z a9 e8 b8 af;rintro j a kf pf aa ⟨hj,b2,ek,eb,c9,bp,ax,bm,ar,cz,bz,e0⟩;refine ρ ?_;refine ci (λhc=>?_) (λhc=>?_)
 .have lj:j<i:=by have:=oT hc;omega
  clear hc;have co:j<32:=om
  obtain⟨v,ev⟩:∃ v,v=ord.getD j 0:=⟨_,rfl⟩;have b4:v<i:=by rw[ev];exact cr j lj
  have b5:v<32:=om
  have d2:v∈ord:=b6.2 b4;have dq:pre ord v=ord.take j:=by rw[ev];exact Jgb a3 (c4.symm ▸ lj)
  have ez:plc ord v=j:=by rw[ev];exact Jvc a3 (c4.symm ▸ lj)
  obtain⟨G,br⟩:∃ G,G=Yw (nb0 i es) (ord.take j):=⟨_,rfl⟩;have am:∀ x,Vv (nb0 i es) ord v x=G v x:=λx=>by rw[Vv,dq,br]
  have dw:NbInv (ord.take j) G:=by rw[br];exact(Qkh dz).at (a3.sublist (List.take_sublist _ _))
  have d3:v ∉ ord.take j:=by rw[<-dq];exact(Jtr d2).choose_spec.2
  have fb:∀ x,G v x=true->x≠v:=λx U=>(dw.gone v x d3 U).2;have du:∀ x,G v x=true->x<i:=λx U=>by rw[<-am]at U;exact Qww (λu x h=>(Jvn dz h).2.1) U
  rw[<-br]at bz;have c5:=cz v b5;refine ρ ?_;refine ixb j co ?_;refine ρ ?_;refine ld (bp.atc (Ue co)) ?_;rw[ho j lj,<-ev];refine ρ ?_;refine ixb v b5 ?_;refine ρ ?_;refine ld (bm.atc (Uf b5)) ?_;refine ρ ?_;refine bld (Qfd _ _ _) ?_;refine ρ ?_;refine alc zBag ?_;intro f4 ay dj e1 ca;refine ρ ?_;refine stW ca ?_;intro dd ca f0 di;have D:Ext aa dd:=di aa dj e1;have d9:=c9.ext D;refine ρ ?_;refine ld (d9.at (i:=0) rfl) ?_;refine ρ ?_;refine Zb (fun (u:Nat) (a':Nat->Nat) (O:Int)=>[(3,.pointer (some ⟨b3,0,none⟩)),(12,.pointer (some ⟨a8,0,none⟩)),(13,.pointer (some ⟨a1,0,none⟩)),(16,.pointer (some ⟨a4,0,none⟩)),(17,.slice B i i),(96,.int .i64 (i:Int)),(97,.int .i64 (j:Int)),(19,.int .i64 (v:Int)),(20,.pointer (some ⟨ay,0,none⟩)),(109,.int .i64 (i:Int)),(110,.int .i64 (u:Int))])
   (λu a' O a5=>u<=i/\GrN (λk=>k=a4∨k=ay) dd a5/\Blk a5 a4 165 (Qb a')/\Blk a5 ay 66 [.int .i64 (v:Int),.int .u32 (a v:Int),.int .i64 O] /\
    (∀ x,x<32->a' x<4294967296)/\(∀ x,x<i->∀ y,(a' x).testBit y=if x<u then Ud v G x y else G x y) /\
    ((O = -1/\∀ x,x<u->G v x=false)∨∃ p:Nat,O=p/\p<u/\G v p=true/\∀ x,x<u->G v x=true->plc ord p<=plc ord x)) (λu _ _=>i-u) 0 a (-1) sB
   ⟨Nat.zero_le _,GrN.refl _ _,bm.ext D,ca,cz,λx U y=>by rw[if_neg om];exact bz x U y,.inl ⟨rfl,λx U=>om⟩⟩ ?_
  rintro u a' O a5 ⟨hu,a6,aw,a7,ap,bi,aj⟩;refine ρ ?_;refine ci (λhc=>?_) (λhc=>?_)
  .have lu:u<i:=by have:=oT hc;omega
   clear hc;have a2:u<32:=om
   refine ρ ?_;refine ld (a7.at (i:=1) rfl) ?_;refine ρ ?_;refine sr32 (s:=a v) (v:=u) om ?_;refine ρ ?_;refine ci (λhc=>?_) (λhc=>?_)
   .rw[Jph c5,bz v b4]at hc;have bw:G v u=false:=by simpa using hc
    refine ρ ?_;refine Qe (u+1) a' O sO ⟨om,a6,aw,a7,ap,λx U y=>?_,?_⟩ om
    .rw[bi x U];by_cases e:x=u
     .subst e;rw[if_neg om,if_pos om,Ud,if_neg (by rw[bw];simp)]
     by_cases J:x<u
     .rw[if_pos J,if_pos om]
     rw[if_neg J,if_neg om]
    rcases aj with⟨J,h2⟩|⟨p,J,h2,h3,h4⟩
    .refine .inl ⟨J,λx U=>?_⟩;by_cases e:x=u
     .rw[e];exact bw
     exact h2 x om
    refine .inr ⟨p,J,om,h3,λx U ao=>?_⟩;by_cases e:x=u
    .rw[e,bw]at ao;cases ao
    exact h4 x om ao
   rw[Jph c5,bz v b4]at hc;have bw:G v u=true:=by simpa using hc
   have cp:Ext w' a5:=a6.old (b2.trans D) (λk hk=>by
    rcases hk with rfl|rfl
    .have:=bu.size;omega
    have:=b2.size;omega)
   have cn:Blk a5 a1 164 (Zj q):=Ql (ax.ext D) a6 (by
    rintro(h|h)
    .omega
    have:=ax.lt;omega)
   refine ρ ?_;refine Xv (fun (t:Bool)=>[(3,.pointer (some ⟨b3,0,none⟩)),(12,.pointer (some ⟨a8,0,none⟩)),(13,.pointer (some ⟨a1,0,none⟩)),(16,.pointer (some ⟨a4,0,none⟩)),(17,.slice B i i),(96,.int .i64 (i:Int)),(97,.int .i64 (j:Int)),(19,.int .i64 (v:Int)),(20,.pointer (some ⟨ay,0,none⟩)),(109,.int .i64 (i:Int)),(110,.int .i64 (u:Int)),(21,.int .i64 (u:Int)),(131,.bool t)])
    (λt bs=>Ext a5 bs/\(t=true->O = -1∨∃ p:Nat,O=p/\plc ord u<plc ord p)/\(t=false->∃ p:Nat,O=p/\plc ord p<=plc ord u)) ?_ ?_
   .have az:Ext a5 a5.drew:=(Ext.refl a5).drew;have ag:=a7.ext az;have cb:=cn.ext az;refine dr [(0,0),(0,1),(0,2),(0,3),(0,4),(0,5),(0,6),(0,7),(0,8),(0,9),(0,10),(0,11),(0,12)] kr ?_;refine ρd ?_;refine dld (ag.at (i:=2) rfl) ?_;refine ρd ?_;refine dki 122 (λJ=>?_) (λJ=>?_)
    .have h2:O<0:=oT J;have h3:O = -1:=by
      rcases aj with⟨h4,_⟩|⟨p,h4,_⟩
      .exact h4
      omega
     refine ρd ?_;refine ρ ?_;exact Jg true sB ⟨az,λ_=>.inl h3,λe=>by cases e⟩
    have h2:¬ O<0:=oF J;obtain⟨p,h4,h5,h6,h7⟩:∃ p:Nat,O=p/\p<u/\G v p=true/\∀ x,x<u->G v x=true->plc ord p<=plc ord x:=by
     rcases aj with⟨h4,_⟩|h4
     .omega
     exact h4
    subst h4;refine ρd ?_;refine dixb u a2 ?_;refine ρd ?_;refine dld (cb.atc (Ue a2)) ?_;refine ρd ?_;refine dld (ag.at (i:=2) rfl) ?_;refine ρd ?_;refine dixb p (show p<32 by omega) ?_;refine ρd ?_;refine dld (cb.atc (Ue (show p<32 by omega))) ?_;rw[dn u lu,dn p om];refine ρd ?_;refine ρ ?_;refine Jg _ sB ⟨az,λe=>.inr ⟨p,rfl,?_⟩,λe=>⟨p,rfl,?_⟩⟩
    .have:=oT e;omega
    have:=oF e;omega
   rintro t bs ⟨b1,ej,ei⟩;have ac:=a7.ext b1;refine ρ ?_;refine Xv (fun (ai:Int)=>[(3,.pointer (some ⟨b3,0,none⟩)),(12,.pointer (some ⟨a8,0,none⟩)),(13,.pointer (some ⟨a1,0,none⟩)),(16,.pointer (some ⟨a4,0,none⟩)),(17,.slice B i i),(96,.int .i64 (i:Int)),(97,.int .i64 (j:Int)),(19,.int .i64 (v:Int)),(20,.pointer (some ⟨ay,0,none⟩)),(109,.int .i64 (i:Int)),(110,.int .i64 (u:Int)),(21,.int .i64 (u:Int))])
    (λai an=>GrN (λk=>k=ay) bs an/\Blk an ay 66 [.int .i64 (v:Int),.int .u32 (a v:Int),.int .i64 ai]/\((ai = -1/\∀ x,x<u+1->G v x=false)∨∃ p:Nat,ai=p/\p<u+1/\G v p=true/\∀ x,x<u+1->G v x=true->plc ord p<=plc ord x)) ?_ ?_
   .refine ci (λht=>?_) (λht=>?_)
    .refine ρ ?_;refine sto (p:=⟨ay,2,none⟩) (ac.cell 2) (ac.frozen _) ?_;refine ρ ?_;refine Jg (u:Int) sB ⟨GrN.set _ rfl,ac.set 2 _,.inr ⟨u,rfl,Nat.lt_succ_self u,bw,λx U ao=>?_⟩⟩;by_cases e:x=u
     .rw[e];exact Nat.le_refl _
     rcases aj with⟨_,h2⟩|⟨p,J,h2,h3,h4⟩
     .rw[h2 x om]at ao;cases ao
     have h5:=h4 x om ao;rcases ej ht with h6|⟨p',h6,h7⟩
     .omega
     have:p=p':=om
     subst this;omega
    obtain⟨p',h6,h7⟩:=ei ht;refine ρ ?_;refine Jg O sB ⟨GrN.refl _ _,ac,.inr ?_⟩;rcases aj with⟨J,h2⟩|⟨p,J,h2,h3,h4⟩
    .omega
    have:p=p':=om
    subst this;refine⟨p,J,om,h3,λx U ao=>?_⟩;by_cases e:x=u
    .rw[e];exact h7
    exact h4 x om ao
   rintro ai an ⟨cu,ck,d6⟩;have bh:a4≠ay:=om
   have cm:Blk an a4 165 (Qb a'):=Ql (aw.ext b1) cu bh;have az:Ext an an.drew:=(Ext.refl an).drew;have av:=cm.ext az;have ag:=ck.ext az;have e2:=ap u a2;have e9:=Gg a2;have ch:=Gg b5;refine ρ ?_;refine drN (λ_=>False) 15 [(0,0),(0,1),(0,2),(0,3),(0,4),(0,5),(0,6),(0,7),(0,8),(0,9),(0,10),(0,11),(0,12),(0,13),(2,14)] kr ?_;refine ρn ?_;refine nixb u a2 ?_;refine ρn ?_;refine nld (Gl (av.atc (Uf a2)) (λe=>e)) ?_;refine ρn ?_;refine nld (Gl (ag.at (i:=1) rfl) (λe=>e)) ?_;refine ρn ?_;refine Jvl a2 ?_;refine ρn ?_;refine Jvl b5 ?_;refine ρn ?_;refine nixb u a2 ?_;refine ρn ?_;refine Kn ?_;have c2:=Jjh e2 c5;have cq:=Jjh e9 ch;obtain⟨nw,db⟩:∃ nw,nw=Vt (a' u ||| a v) (2^u ||| 2^v):=⟨_,rfl⟩;have eo:nw<4294967296:=by rw[db];exact Jps c2
   have ea:bits .andNot .u32 (bits .or .u32 (a' u:Int) (a v:Int)) (bits .or .u32 ((2^u:Nat):Int) ((2^v:Nat):Int))=(nw:Int):=by
    rw[Ge e2 c5,Ge e9 ch,Jqd c2 cq,db]
   refine sto (p:=⟨a4,u,none⟩) (av.cell u |>.trans (Uf a2)) (av.frozen _) ?_;rw[ea];have bl:=av.set u (.int .u32 (nw:Int));rw[Jwl a' a2]at bl;have dx:GrN (λk=>k=a4) an.drew (an.drew.setCell ⟨a4,u,none⟩ (.int .u32 (nw:Int))):=GrN.set _ rfl;refine ω5 ?_;refine Km ?_;refine ρn ?_;refine ρ ?_;refine Qe (u+1) (upd a' u nw) ai sO ⟨om,?_,bl,ag.far (λe=>bh e.symm) _,λx U=>?_,λx U y=>?_,d6⟩ om
   .exact((a6.trans (GrN.ext b1)).trans (cu.mono λk _ hk=>.inr hk)).trans ((GrN.ext az).trans (dx.mono λk _ hk=>.inl hk))
   .by_cases e:x=u
    .rw[e,Xa];exact eo
    rw[Qa _ _ e];exact ap x U
   by_cases e:x=u
   .subst e;rw[Xa,if_pos (Nat.lt_succ_self x),db,Jkh c2 cq,Nat.testBit_or,Nat.testBit_or,Jqs,Jqs,bi x U,if_neg (Nat.lt_irrefl x),bz v b4,Ud,if_pos bw];rw[Jmz x y,Jmz v y];cases G x y<;>cases G v y<;>cases (y != x)<;>cases (y != v)<;>rfl
   rw[Qa _ _ e,bi x U];by_cases J:x<u
   .rw[if_pos J,if_pos om]
   rw[if_neg J,if_neg om]
  have eh:u=i:=by have:=oF hc;omega
  subst eh;clear hc;have cp:Ext w' a5:=a6.old (b2.trans D) (λk hk=>by
   rcases hk with rfl|rfl
   .have:=bu.size;omega
   have:=b2.size;omega)
  have b9:∀ {g t:Nat} {cs:List Value},Blk aa g t cs->g≠a4->Blk a5 g t cs:=λhB J=>Ql (hB.ext D) a6 (by
   rintro(h|h)
   .exact J h
   have:=hB.lt;omega)
  have aq:a5.ownsRow bt.heap.size 66 3 (.slice B u u) u (Qg u (Vf ord kf pf j)):=Qn (Ju ar D) a6 (λg eg hk=>by
   obtain⟨_,_,_,_,c6⟩:=Jf ar;have h5:=c6 g eg;rcases hk with rfl|rfl<;>omega)
  refine ρ ?_;refine ldW a7 ?_;refine ρ ?_;refine ixq 3 v (Rd.own aq) b4 ?_;refine ρ ?_;refine stoE (cs:=[.int .i64 (v:Int),.int .u32 (a v:Int),.int .i64 O]) aq b4 ?_ Jgs;intro bs ba bg;rw[Qyc (λv _=>Qfq ord kf pf j v) b4 rfl]at ba;have eg:Qg u (upd (Vf ord kf pf j) v [.int .i64 (v:Int),.int .u32 (a v:Int),.int .i64 O])=Qg u (Vf ord (upd kf v (a v)) (upd pf v O) (j+1)):=by
   refine Jzr λx U=>?_;by_cases e:x=v
   .subst e;rw[Xa,Vf,if_pos om];simp only[Zp,Xa]
   rw[Qa _ _ e];have dt:plc ord x≠j:=λe'=>by
    have J:=(Iw a3 (b6.2 U)).2;rw[e',<-ev]at J;exact e J.symm
   unfold Vf;by_cases J:plc ord x<j
   .rw[if_pos J,if_pos om];simp only[Zp,Qa _ _ e]
   rw[if_neg J,if_neg om]
  rw[eg]at ba;have ab:∀ {g t:Nat} {cs:List Value},Blk a5 g t cs->g<bt.heap.size->Blk bs g t cs:=λhB J=>hB.grown bg (λe=>by
   obtain⟨_,_,_,_,c6⟩:=Jf aq;have h5:=c6 _ e.symm;omega)
  have b1:Ext w' bs:=Jt cp bg (λg eg=>by
   obtain⟨_,_,_,_,c6⟩:=Jf aq;have h5:=c6 g eg;have:=bu.size;have:=ae.size;omega)
  have f3:=ae.size;refine ρ ?_;refine Uh (j+1) a' (upd kf v (a v)) (upd pf v O) sO ⟨om,b1,by have:=D.size;have:=a6.size;have:=bg.size;omega,by have:=D.size;have:=a6.size;have:=bg.size;omega,ab (b9 c9 om) om,ab (b9 bp om) om,ab (b9 ax om) om,ab aw de,ba,ap,λx U y=>?_,λx U er=>?_⟩ om
  .rw[bi x U,if_pos U,Xj 0 (c4.symm ▸ lj),<-ev,Qkg,<-br];rfl
  by_cases e:x=v
  .subst e;rw[Xa,Xa];refine⟨c5,λy=>by rw[bz x b4,am],?_⟩;rcases aj with⟨J,h2⟩|⟨p,J,h2,h3,h4⟩
   .refine .inl ⟨J,λy=>?_⟩;rw[am];cases hb:G x y with
    | false=>rfl
    | true=>exact absurd (h2 y (du y hb)) (by rw[hb];simp)
   exact .inr ⟨p,J,by rw[am];exact h3,λy hy=>h4 y (du y (by rw[<-am];exact hy)) (by rw[<-am];exact hy)⟩
  rw[Qa _ _ e,Qa _ _ e];refine e0 x U ?_;have dt:plc ord x≠j:=λe'=>by
   have J:=(Iw a3 (b6.2 U)).2;rw[e',<-ev]at J;exact e J.symm
  omega
 have eu:j=i:=by have:=oF hc;omega
 subst eu;clear hc;refine ρ ?_;refine Qs ⟨be.trans b2,B,kf,pf,rfl,?_,λv hv=>?_⟩
 .have e:Qg j (Vf ord kf pf j)=Qg j (Zp kf pf):=Jzr λv hv=>by
   have:=(Iw a3 (b6.2 hv)).1;rw[Vf,if_pos om]
  rw[e]at ar;exact Jvj ar (by have:=c0.size;have:=ae.size;omega)
 have:=e0 v hv (by have:=(Iw a3 (b6.2 hv)).1;omega);rw[<-ak];exact this
open Go.RowKit Pl Go.Wk
theorem Qyq{kf:Nat->Nat}{pf:Nat->Int}{v:Nat}(hv:v<32)(hk:kf v<4294967296)(w:World): Ret Tryz.prog 23 [.agg (Zp kf pf v).toArray] w λu w'=>u=.int .u32 ((kf v ||| 2^v:Nat):Int)/\Ext w w':=by
 refine Jz Tryz.func23 Tryz.ntmps23 rfl kr rfl ?_;refine ρ ?_;refine bx (cs:=Zp kf pf v) ?_;intro w1 b B G D;refine ρ ?_;refine ld (D.at (i:=0) rfl) ?_;refine ρ ?_;refine ld (D.at (i:=0) rfl) ?_;refine ρ ?_;refine cf ?_ ?_
 .grind
 have j:Ext w1 w1.drew:=(Ext.refl w1).drew;have y:=D.ext j;refine ρ ?_;refine dr [(0,0),(0,1),(0,2),(0,3),(0,4),(0,5),(0,6)] kr ?_;refine ρd ?_;refine dld (y.at (i:=1) rfl) ?_;refine ρd ?_;refine dld (y.at (i:=0) rfl) ?_;refine ρd ?_;refine dsl32 hv ?_;refine ρd ?_;refine ρ ?_;refine Jq ⟨?_,B.trans j⟩;rw[Ge hk (Gg hv)]
open Go.RowKit Pl Go.Wk
variable {a b l os:List UInt32}{c i k m n x y:Nat}
theorem Jcw(c:UInt32)(h:k<l.length): val (l.set k c)+4294967296^k*(l.getD k 0).toNat=val l+4294967296^k*c.toNat:=by
 induction l generalizing k with
 | nil=>simp at h
 | cons x l ih=>
  cases k with
  | zero=>simp[val];omega
  | succ k=>
   have:=ih (k:=k) (by simpa using h);simp only[List.set_cons_succ,val,List.getD_cons_succ,Nat.pow_succ];grind
structure MulO(a b:List UInt32)(i:Nat)(os:List UInt32): Prop where
 len:os.length=a.length+b.length
 val:val os=val (a.take i)*val b
 zero:∀ k,i+b.length<=k->os.getD k 0=0
structure MulI(a b:List UInt32)(i j c:Nat)(os:List UInt32): Prop where
 len:os.length=a.length+b.length
 small:c<4294967296
 val:val os+4294967296^(i+j)*c=Pl.val (a.take i)*Pl.val b+4294967296^i*(a.getD i 0).toNat*Pl.val (b.take j)
 zero:∀ k,i+b.length<=k->os.getD k 0=0
theorem Qvs(c:UInt32)(h:k≠m): (l.set k c).getD m 0=l.getD m 0:=by grind
theorem Jvr(hx:x<4294967296)(hy:y<4294967296): x*y<=18446744065119617025:=by
 have:=Nat.mul_le_mul (show x<=4294967295 by omega) (show y<=4294967295 by omega);omega
theorem MulO.first: MulO a b 0 (List.replicate (a.length+b.length) 0):=by
 refine⟨by simp,?_,λk _=>?_⟩
 .have:∀ n,Pl.val (List.replicate n (0:UInt32))=0:=λn=>by
   induction n with
   | zero=>rfl
   | succ n ih=>rw[List.replicate_succ];simp[Pl.val,ih]
  rw[this];simp[Pl.val]
 repeat grind
theorem MulO.start(h:MulO a b i os): MulI a b i 0 0 os :=
 ⟨h.len,om,by rw[h.val];simp[Pl.val],h.zero⟩
theorem MulI.step{j s:Nat}(h:MulI a b i j c os)(hi:i<a.length)(hj:j<b.length)(hs:s=c+((a.getD i 0).toNat*(b.getD j 0).toNat+(os.getD (i+j) 0).toNat)):
  MulI a b i (j+1) (s / 4294967296) (os.set (i+j) (UInt32.ofNat s))/\s<18446744073709551616:=by
 obtain⟨h1,h2,h3,h4⟩:=h;have G:(a.getD i 0).toNat<4294967296:=(a.getD i 0).toNat_lt;have D:(b.getD j 0).toNat<4294967296:=(b.getD j 0).toNat_lt;have O:(os.getD (i+j) 0).toNat<4294967296:=(os.getD (i+j) 0).toNat_lt;have hm:=Jvr G D;have u:s<18446744073709551616:=om
 refine⟨⟨by grind,om,?_,λk hk=>by grind⟩,u⟩;have e:=Jcw (UInt32.ofNat s) (show i+j<os.length by omega);rw[UInt32.toNat_ofNat']at e;rw[Im];generalize hX:(a.getD i 0).toNat=X at *
 generalize hY:(b.getD j 0).toNat=Y at *
 generalize hZ:(os.getD (i+j) 0).toNat=Z at *
 generalize Pl.val (os.set (i+j) (UInt32.ofNat s))=V' at *
 generalize Pl.val os=V at *
 generalize Pl.val (b.take j)=W at *
 generalize Pl.val (a.take i)*Pl.val b=U at *
 have B:4294967296^(i+(j+1))*(s / 4294967296)=4294967296^(i+j)*(4294967296*(s / 4294967296)):=by grind
 have y:4294967296^i*X*(W+4294967296^j*Y)=4294967296^i*X*W+4294967296^(i+j)*(X*Y):=by grind
 have J:4294967296^(i+j)*(s % 2^32)+4294967296^(i+j)*(4294967296*(s / 4294967296))=4294967296^(i+j)*c+(4294967296^(i+j)*(X*Y)+4294967296^(i+j)*Z):=by
  rw[<-Nat.mul_add,<-Nat.mul_add,<-Nat.mul_add];congr 1
  omega
 rw[B,y];omega
theorem MulI.last(h:MulI a b i b.length c os)(hi:i<a.length): MulO a b (i+1) (os.set (i+b.length) (UInt32.ofNat c)):=by
 obtain⟨D,B,u,j⟩:=h;refine⟨by grind,?_,λk y=>by grind [Qvs]⟩;have e:=Jcw (UInt32.ofNat c) (show i+b.length<os.length by omega);rw[j _ (Nat.le_refl _),UInt32.toNat_ofNat',show c % 2^32=c by omega,show(0:UInt32).toNat=0 from rfl,Nat.mul_zero,Nat.add_zero]at e;rw[e,u,List.take_length,Im,Nat.add_mul]
theorem Qkn{z:Nat}(hc:c<4294967296)(hx:x<4294967296)(hy:y<4294967296)(hz:z<4294967296):
  IntKind.u64.wrap ((c:Int)+IntKind.u64.wrap (IntKind.u64.wrap (IntKind.u64.wrap (x:Int)*IntKind.u64.wrap (y:Int))+IntKind.u64.wrap (z:Int)))=((c+(x*y+z):Nat):Int):=by
 have i:=Jvr hx hy;have w:∀ n:Nat,n<18446744073709551616->IntKind.u64.wrap (n:Int)=(n:Int):=λn hn=>by rw[IntKind.wrap_u64];omega
 rw[w x om,w y om,w z om,<-Int.natCast_mul,w _ om,<-Int.natCast_add,w _ om,<-Int.natCast_add,w _ om]
theorem Za{v u:Value}{w:World}(hv:NatV w v n)(hu:NatV w u m)(hln:(Jj n).length<=1000)(hlm:(Jj m).length<=1000): Ret Tryz.prog 104 [v,u] w λr w'=>NatV w' r (n*m)/\Fresh w r/\Ext w w':=by
 refine Jz Tryz.func104 Tryz.ntmps104 rfl kr rfl ?_;refine ρ ?_;refine cl (Xe hv) ?_;rintro v' w' ⟨⟨A,rfl,ha⟩,rfl⟩;refine ρ ?_;refine cl (Xe hu) ?_;rintro u' J ⟨⟨B,rfl,hb⟩,rfl⟩;generalize hL:(Jj n).length=L at *
 generalize hM:(Jj m).length=M at *
 refine ρ ?_;refine mkn EN (L+M) om (by unfold maxLen;omega) ?_;intro w1 O ab ah hO;have a7:Xk w1 J.heap.size (.slice O (L+M) (L+M)) (List.replicate (L+M) 0):=by
  have e:(madeCells (Value.int .u32 0).cells ((L+M)*1)).toList=Nc (List.replicate (L+M) 0):=by rw[Nat.mul_one,<-Jkl];exact Yv _ _
  grind
 refine ρ ?_;refine Qq (fun (i:Nat) (y:List UInt32)=>[(0,.slice A L L),(1,.slice B M M),(5,.slice O (L+M) (L+M)),(20,.int .i64 (L:Int)),(21,.int .i64 (i:Int))])
  (λi y w2=>i<=L/\Ext J w2/\MulO (Jj n) (Jj m) i y/\Xk w2 J.heap.size (.slice O (L+M) (L+M)) y) (λi _=>L-i) 0 (List.replicate (L+M) 0) sB
  ⟨Nat.zero_le _,ab,by grind [MulO.first],a7⟩ ?_
 rintro i y w2 ⟨hi,a6,hI,a5⟩;refine ρ ?_;refine ci (λh=>?_) (λh=>?_)
 .have li:i<L:=by have:=oT h;omega
  clear h;refine ρ ?_;refine Zb (fun (j c:Nat) (y:List UInt32)=>[(0,.slice A L L),(1,.slice B M M),(5,.slice O (L+M) (L+M)),(6,.int .i64 (i:Int)),(7,.int .u64 (c:Int)),(20,.int .i64 (L:Int)),(21,.int .i64 (i:Int)),(25,.int .i64 (M:Int)),(26,.int .i64 (j:Int))])
   (λj c y w3=>j<=M/\Ext J w3/\MulI (Jj n) (Jj m) i j c y/\Xk w3 J.heap.size (.slice O (L+M) (L+M)) y) (λj _ _=>M-j) 0 0 y sB
   ⟨Nat.zero_le _,a6,hI.start,a5⟩ ?_
  clear hI a5;rintro j c y w3 ⟨hj,a1,hI,U⟩;have D:y.length=L+M:=by rw[hI.len,hL,hM]
  refine ρ ?_;refine ci (λh=>?_) (λh=>?_)
  .have lj:j<M:=by have:=oT h;omega
   clear h;have Z:Ext w3 w3.drew:=(Ext.refl w3).drew;have aa:=ha.ext (a1.trans Z);have a9:=hb.ext (a1.trans Z);have G:=Ju U Z;rw[D]at G;have a4:Rd w3.drew 1 O (L+M) (Nc y):=Rd.own G;refine ρ ?_;refine dr [(0,0),(0,1),(0,2),(0,3),(0,4),(0,5),(0,6),(0,7),(0,8),(0,9),(0,10),(0,11),(0,12),(0,13),(0,14),(0,15),(0,16),(0,17),(0,18),(0,19),(0,20),(0,21)] kr ?_;refine ρd ?_;refine dix i aa li ?_;refine ρd ?_;refine dld (aa.cell (Qh (show i<(Jj n).length by omega))) ?_;refine ρd ?_;refine dix j a9 lj ?_;refine ρd ?_;refine dld (a9.cell (Qh (show j<(Jj m).length by omega))) ?_;refine ρd ?_;refine dix (i+j) a4 om ?_;refine ρd ?_;refine dld (a4.cell (Qh (show i+j<y.length by omega))) ?_;refine ρd ?_;have hx:((Jj n).getD i 0).toNat<4294967296:=((Jj n).getD i 0).toNat_lt;have hy:((Jj m).getD j 0).toNat<4294967296:=((Jj m).getD j 0).toNat_lt;have hz:(y.getD (i+j) 0).toNat<4294967296:=(y.getD (i+j) 0).toNat_lt
   obtain⟨a3,ag⟩:=hI.step (s:=c+(((Jj n).getD i 0).toNat*((Jj m).getD j 0).toNat+(y.getD (i+j) 0).toNat)) om om rfl;have a8:=Qkn hI.small hx hy hz;refine ρ ?_;generalize c+(((Jj n).getD i 0).toNat*((Jj m).getD j 0).toNat+(y.getD (i+j) 0).toNat)=s at *
   refine kv 7 (u:=.int .u64 (s:Int)) (congrArg (Value.int .u64) a8) ?_;refine kv 55 (u:=.int .u32 ((UInt32.ofNat s).toNat:Int)) (congrArg (Value.int .u32) ((congrArg IntKind.u32.wrap a8).trans (Vu s))) ?_;obtain⟨s1,s2,s3,s4,s5⟩:=Zk G (q:=i+j) om (.int .u32 ((UInt32.ofNat s).toNat:Int));refine ρ ?_;refine ix (i+j) a4 om ?_;refine sto (s1.trans (Qh (show i+j<y.length by omega))) s2 ?_;refine ρ ?_;refine Vq rfl rfl (by decide) rfl ?_;refine ρ ?_;refine Qe (j+1) (s / 4294967296) (y.set (i+j) (UInt32.ofNat s)) ?_ ⟨lj,(a1.trans Z).setCell s4 _,a3,?_⟩ om
   .rw[Jwg];exact sB
   rw[Xk,List.length_set,D,<-Kj];exact s3
  have ae:j=M:=by grind
  subst ae;clear h;have ac:MulI (Jj n) (Jj m) i (Jj m).length c y:=by rw[hM];exact hI
  have hl:=ac.last (show i<(Jj n).length by omega);have G:=U;rw[Xk,D]at G;obtain⟨s1,s2,s3,s4,s5⟩:=Zk G (q:=i+j) om (.int .u32 ((UInt32.ofNat c).toNat:Int));refine ρ ?_;refine ix (i+j) (Rd.own G) om ?_;rw[Vu];refine sto (s1.trans (Qh (show i+j<y.length by omega))) s2 ?_;refine ρ ?_;rw[hM]at hl;refine Ja (i+1) (y.set (i+j) (UInt32.ofNat c)) sO ⟨li,a1.setCell s4 _,hl,?_⟩ om;rw[Xk,List.length_set,D,<-Kj];exact s3
 have af:i=L:=by grind
 have D:y.length=L+M:=by rw[hI.len,hL,hM]
 have a2:=hI.val;rw[af,List.take_of_length_le om,Xt,Xt]at a2;have U:=a5;rw[Xk,D]at U;have hr:=Rd.own U;refine ρ ?_;rw[<-D]at hr ⊢;refine cl (Gx hr (Nat.le_refl _) om) ?_;rintro t w4 ⟨rfl,rfl⟩;have:=Ie hr om;rw[a2]at this ⊢;refine ρ ?_;exact Jq ⟨this,λad _ _ e=>hO ad (by injection e),a6⟩
open Go.RowKit Pl Go.Wk
variable {l os:List UInt32}{c d k n r x:Nat}{A:Option Addr}{w:World}
theorem Jyb(h0:n≠0)(h:n<4294967296): Jj n=[UInt32.ofNat n]:=by grind [Kt,limbs_0]
theorem Jzz{cs:List Value}(hr:Rd w 1 A n cs)(h1:∀ u∈cs,u.oneCell'=true)(hb:n*4<=140737488355328):
  Ret Tryz.prog 149 [.slice A n c] w λv w'=>w'.ownsRow w.heap.size 63 1 v n cs/\Ext w w':=by
 refine Jz Tryz.func149 Tryz.ntmps149 rfl kr rfl ?_;refine ρ ?_;refine snil ?_;refine ρ ?_;refine ci (λh=>?_) (λh=>?_)
 .have J:A=none:=by simpa using h
  subst J;have hn:n=0:=by
   rcases Nat.eq_zero_or_pos n with h0|h0
   .exact h0
   obtain⟨Z,O,_⟩:=hr.isome h0 om;cases O
  subst hn;have D:cs=[]:=List.eq_nil_of_length_eq_zero (by rw[hr.len]);subst D;refine ρ ?_;exact Jq ⟨Zg _ _ _ _,Ext.refl w⟩
 refine ρ ?_;refine bsl Jpf ?_;intro w1 b i G B;refine ρ ?_;refine apo i EN (B.own (n:=0) G rfl (Nat.zero_le _)) (hr.ext i) h1 (by unfold maxLen;omega) om ?_;intro U w2 j y _ _;refine ρ ?_;rw[Nat.zero_add,List.nil_append]at j;exact Jq ⟨j,y⟩
theorem Jcz(h:k<l.length): val (l.drop k)=(l.getD k 0).toNat+4294967296*val (l.drop (k+1)):=by grind [List.drop_eq_getElem_cons,val,List.getD,List.getElem?_eq_getElem]
structure DivI(l:List UInt32)(d k r:Nat)(os:List UInt32): Prop where
 len:os.length=l.length
 lt:r<d
 old:∀ j,j<k->os.getD j 0=l.getD j 0
 val:val (l.drop k)=Pl.val (os.drop k)*d+r
theorem DivI.step{s:Nat}(h:DivI l d (k+1) r os)(hk:k<l.length)(hd:d<4294967296)(hs:s=r*4294967296+(l.getD k 0).toNat): DivI l d k (s % d) (os.set k (UInt32.ofNat (s / d)))/\s<18446744073709551616:=by
 obtain⟨Z,U,O,u⟩:=h;have D:(l.getD k 0).toNat<4294967296:=(l.getD k 0).toNat_lt;have i:s<4294967296*d:=by rw[hs];omega
 have G:s / d<4294967296:=Nat.div_lt_of_lt_mul (by grind);refine⟨⟨by grind,Nat.mod_lt _ om,λj J=>by grind,?_⟩,om⟩;rw[Jcz hk,Jcz (l:=os.set k (UInt32.ofNat (s / d))) (k:=k) (by grind),u];have B:(os.set k (UInt32.ofNat (s / d))).getD k 0=UInt32.ofNat (s / d):=by grind
 have y:(os.set k (UInt32.ofNat (s / d))).drop (k+1)=os.drop (k+1):=List.drop_set_of_lt om;rw[B,y,UInt32.toNat_ofNat',Nat.mod_eq_of_lt (show s / d<2^32 by omega)];grind [Nat.div_add_mod,Nat.mul_add,Nat.add_mul,Nat.mul_assoc,Nat.mul_comm]
theorem Qbf(hr:r<4294967296)(hx:x<4294967296): bits .or .u64 (IntKind.u64.wrap ((r:Int)*2^min (32:Int).toNat IntKind.u64.bits)) (IntKind.u64.wrap (x:Int))=((r*4294967296+x:Nat):Int):=by
 have u:(2:Int)^min (32:Int).toNat IntKind.u64.bits=4294967296:=by decide
 have j:IntKind.u64.wrap ((r:Int)*4294967296)=((r*4294967296:Nat):Int):=by rw[IntKind.wrap_u64];omega
 have i:IntKind.u64.wrap (x:Int)=(x:Int):=by rw[IntKind.wrap_u64];omega
 rw[u,j,i,u64_or_nat _ _ om om,nat_join 32 (r*4294967296) x (by simp) om]
theorem Jmt{L base:Nat}(hL:l.length=L)(hLm:L<=1100)(ho:w.ownsRow base 63 1 (.slice A L c) L (Nc l))(h0:0<d)(hd:d<4294967296):
  Ret Tryz.prog 74 [.slice A L c,.int .u32 (d:Int)] w λr w'=>r=.int .u32 ((val l % d:Nat):Int)/\(∃ os:List UInt32,os.length=L/\val os=val l / d/\w'.ownsRow base 63 1 (.slice A L c) L (Nc os))/\w.grownBy w' (Value.slice A L c).ownBlock:=by
 refine Jz Tryz.func74 Tryz.ntmps74 rfl kr rfl ?_;refine ρ ?_;refine Zb (fun (k r:Nat) (os:List UInt32)=>[(0,.slice A L c),(1,.int .u32 (d:Int)),(5,.int .u64 (r:Int)),(6,.int .i64 ((k:Int)-1))])
  (λk r os w1=>k<=L/\DivI l d k r os/\w1.ownsRow base 63 1 (.slice A L c) L (Nc os)/\w.grownBy w1 (Value.slice A L c).ownBlock) (λk _ _=>k) L 0 l sB
  ⟨Nat.le_refl _,⟨rfl,h0,λ_ _=>rfl,by grind [List.drop_of_length_le,val]⟩,ho,Xx (Ext.refl w) _⟩ ?_
 rintro k r os w1 ⟨hk,J,B,G⟩;have Z:os.length=L:=by rw[J.len,hL]
 refine ρ ?_;refine ci (λh=>?_) (λh=>?_)
 .obtain⟨k,rfl⟩:∃ j,k=j+1:=⟨k-1,by grind⟩;clear h;obtain⟨s,hs⟩:∃ s,s=r*4294967296+(l.getD k 0).toNat:=⟨_,rfl⟩;obtain⟨i,a2⟩:=J.step om hd hs;have hx:(l.getD k 0).toNat<4294967296:=(l.getD k 0).toNat_lt;have a3:=J.lt;have y:Rd w1 1 A L (Nc os):=Rd.own B;have D:=J.old k om;refine ρ ?_;refine wshl rfl rfl (by decide) rfl ?_;refine ρ ?_;refine ix k y om ?_;refine ρ ?_;refine ld (y.cell (Qh (show k<os.length by omega))) ?_;rw[D];refine ρ ?_;have O:bits .or .u64 (IntKind.u64.wrap ((r:Int)*2^min (32:Int).toNat IntKind.u64.bits)) (IntKind.u64.wrap ((l.getD k 0).toNat:Int))=(s:Int):=by grind [Qbf]
  refine kv 5 (u:=.int .u64 (s:Int)) (congrArg (Value.int .u64) O) ?_;refine kv 24 (u:=.int .u64 (s:Int)) (congrArg (Value.int .u64) O) ?_;have ed:IntKind.u64.wrap (d:Int)=(d:Int):=by rw[IntKind.wrap_u64];omega
  refine kv 26 (u:=.int .u64 (d:Int)) (congrArg (Value.int .u64) ed) ?_;refine Kk rfl rfl om rfl ?_;have hq:s / d<=s:=Nat.div_le_self _ _;have e2:IntKind.u32.wrap (IntKind.u64.wrap ((s:Int).tdiv d))=((UInt32.ofNat (s / d)).toNat:Int):=by grind [Vo,Vu]
  obtain⟨s1,s2,s3,s4,s5⟩:=Zk B (q:=k) om (.int .u32 ((UInt32.ofNat (s / d)).toNat:Int));refine ρ ?_;refine ix k y om ?_;rw[e2];refine sto (s1.trans (Qh (show k<os.length by omega))) s2 ?_;refine ρ ?_;refine kv 32 (u:=.int .u64 (d:Int)) (congrArg (Value.int .u64) ed) ?_;refine wrem rfl rfl om rfl ?_;refine ρ ?_;refine Qe k (s % d) (os.set k (UInt32.ofNat (s / d))) ?_ ⟨om,i,?_,Qo G s5⟩ om
  .have e3:(s:Int).tmod d=((s % d:Nat):Int):=rfl;rw[e3];exact sO
  rw[<-Kj];exact s3
 have a1:k=0:=by have:=oF h;omega
 subst a1;obtain⟨i1,i2,_,U⟩:=J;rw[List.drop_zero,List.drop_zero]at U;have hm:r=val l % d:=by rw[U,Nat.add_comm,Nat.add_mul_mod_self_right,Nat.mod_eq_of_lt i2]
 have hv:val os=val l / d:=by
  rw[U,Nat.add_comm,Nat.add_mul_div_right _ _ h0,Nat.div_eq_of_lt i2,Nat.zero_add]
 refine ρ ?_;refine Jq ⟨?_,⟨os,Z,hv,B⟩,G⟩;rw[Vu,UInt32.toNat_ofNat',Nat.mod_eq_of_lt (show r<2^32 by omega),hm]
end Go.Proofs.YtebiphhfkdbpfaaGreatDoor
namespace Go.Wk
end Go.Wk
namespace Go.Proofs.YtebiphhfkdbpfaaGreatDoor
open Go.RowKit Pl Go.Wk
attribute [local irreducible] WC WL QX WD WDB WP WN WG
variable {c m n:Nat}{N N':Nat->Prop}{v:Value}{w w':World}
theorem Jhq(h:0<(Jj n).length): n≠0:=by grind [limbs_0]
def NatX(N:Nat->Prop)(w:World)(v:Value)(n:Nat): Prop:=NatV w v n/\(n≠0->∀ ad m c,v=.slice (some ad) m c->¬ N ad.block)
theorem NatX.ext{N:Nat->Prop}{w w':World}{v:Value}{n:Nat}(h:NatX N w v n)(hx:Ext w w'): NatX N w' v n:=⟨h.1.ext hx,h.2⟩
theorem NatX.gr(h:NatX N w v n)(hg:GrN N w w'): NatX N w' v n:=by
 obtain⟨⟨A,c,rfl,y,u,j⟩,i⟩:=h;exact⟨⟨A,c,rfl,y,u,Ug j hg (λh0 B e=>i (Jhq (by grind [Qgf])) B _ _ (by rw[e]))⟩,i⟩
theorem NatX.nil{N:Nat->Prop}(w:World): NatX N w (.slice none 0 0) 0:=⟨NatV.nil w,λ_ i m c e=>by cases e⟩
theorem limbs_pos'(h:n≠0): 0<(Jj n).length:=by rw[Kt h];simp
theorem NatX.old(h:NatX N w v n)(hs:∀ k,N' k->N k∨w.heap.size<=k): NatX N' w v n:=⟨h.1,λh0 j m c e i=>by
 rcases hs _ i with h1|h1
 .exact h.2 h0 j m c e h1
 obtain⟨A,B,y,_,_,u⟩:=h.1;grind [Rd.isome,limbs_pos']⟩
theorem Fresh.x(h:Fresh w v)(hn:NatV w' v n)(hN:∀ k,N k->k<w.heap.size): NatX N w' v n :=
 ⟨hn,λ_ j m c e i=>by have:=h j m c e;have:=hN _ i;omega⟩
def TrV(N:Nat->Prop)(w:World): Tr->Value->Prop
 | .nil,u=>u=.pointer none
 | .node l v x r,u=>∃ b wt pl pr st,u=.pointer (some ⟨b,0,none⟩)/\(Blk w b 276 (v.cells++[wt,pl,pr,.int .i64 ((Tr.node l v x r).ht:Int),.int .i64 ((Tr.node l v x r).sz:Int),st])/\¬ N b)/\NatX N w wt x/\NatX N w st (Tr.node l v x r).sum/\TrV N w l pl/\TrV N w r pr
theorem TrV.gr{N:Nat->Prop}{w w':World}: ∀ {t:Tr} {u:Value},TrV N w t u->GrN N w w'->TrV N w' t u
 | .nil,u,h,_=>h
 | .node l v x r,u,h,hx=>by
  obtain⟨b,wt,pl,pr,st,h1,⟨h2,h2'⟩,h3,h4,h5,h6⟩:=h;exact⟨b,wt,pl,pr,st,h1,⟨Ql h2 hx h2',h2'⟩,h3.gr hx,h4.gr hx,h5.gr hx,h6.gr hx⟩
theorem TrV.ext{N:Nat->Prop}{w w':World}{t:Tr}{u:Value}(h:TrV N w t u)(hx:Ext w w'): TrV N w' t u:=h.gr (GrN.ext hx)
theorem TrV.old{N N':Nat->Prop}{w:World}(hs:∀ k,N' k->N k∨w.heap.size<=k): ∀ {t:Tr} {u:Value},TrV N w t u->TrV N' w t u
 | .nil,u,h=>h
 | .node l v x r,u,h=>by
  obtain⟨b,wt,pl,pr,st,h1,⟨h2,h2'⟩,h3,h4,h5,h6⟩:=h;exact⟨b,wt,pl,pr,st,h1,⟨h2,λhk=>(hs _ hk).elim h2' (λh=>by have:=h2.lt;omega)⟩,h3.old hs,h4.old hs,h5.old hs,h6.old hs⟩
theorem Jhc(hv:NatV w v n)(hs:(Jj n).length<=1000): Ret Tryz.prog 73 [v] w λr w'=>NatV w' r n/\Fresh w r/\Ext w w':=by
 refine Jz Tryz.func73 Tryz.ntmps73 rfl kr rfl ?_;refine ρ ?_;refine cl (Xe hv) ?_;rintro j w' ⟨⟨A,rfl,D⟩,rfl⟩;refine ρ ?_;refine cl (Jzz D (Jqg _) om) ?_;rintro j w1 ⟨i,u⟩;obtain⟨O,G,rfl,B,y⟩:=Jf i;refine ρ ?_;refine Jq ⟨⟨O,G,rfl,B,om,Rd.own i⟩,λJ m c e=>?_,u⟩;injection e with e1 e2 e3
 subst e1;exact(y J.block rfl).1
theorem Jpl: ∃ k:Nat,k=900:=⟨_,rfl⟩
noncomputable def bK: Nat:=Classical.choose Jpl
theorem Jpm: bK=900:=Classical.choose_spec Jpl
def Nb(n:Nat): Prop:=n<4294967296^bK
theorem Nb.len(h:Nb n): (Jj n).length<=1000:=by
 rcases Nat.eq_zero_or_pos n with h0|h0
 .rw[h0,limbs_0];simp
 have i:=Jzh (n:=n) om;rcases Nat.lt_or_ge bK ((Jj n).length-1) with h2|h2
 .exact absurd (nM h (nL (Nat.pow_le_pow_right (by decide) (Nat.le_of_lt h2)) i)) (Nat.lt_irrefl _)
 rw[Jpm]at h2;omega
theorem Nb.le(h:Nb n)(hm:m<=n): Nb m:=nN hm h
structure NatsV(w:World)(A:Option Addr)(us:List Value)(ns:List Nat): Prop where
 rd:Rd w 1 A us.length us
 len:us.length=ns.length
 nat:∀ i,i<ns.length->NatV w (us.getD i (.int .i64 0)) (ns.getD i 0)
theorem Qkk{A:Option Addr}{us:List Value}{ns:List Nat}(h:NatsV w A us ns)(hN:Nb (ns.foldl (· + ·) 0))(hl:ns.length<=1000)(hsub:∀ i,i<=ns.length->Nb ((ns.take i).foldl (· + ·) 0))(hone:∀ x∈ns,Nb x):
  Ret Tryz.prog 44 [.slice A us.length c] w λr w'=>NatV w' r (ns.foldl (· + ·) 0)/\Fresh w r/\Ext w w':=by
 have Z:=h.len;refine Jz Tryz.func44 Tryz.ntmps44 rfl kr rfl ?_;refine ρ ?_;refine Qq (fun (i:Nat) (vs:Value)=>[(0,.slice A us.length c),(3,vs),(6,.int .i64 (us.length:Int)),(7,.int .i64 (i:Int))])
  (λi vs w'=>i<=ns.length/\Ext w w'/\NatV w' vs ((ns.take i).foldl (· + ·) 0)/\Fresh w vs) (λi _=>ns.length-i) 0 (.slice none 0 0) sB
  ⟨Nat.zero_le _,Ext.refl _,NatV.nil _,λad m c e=>by cases e⟩ ?_
 rintro i vs w1 ⟨hi,j,B,G⟩;refine ρ ?_;refine ci (λO=>?_) (λO=>?_)
 .have U:i<ns.length:=by have:=oT O;omega
  clear O;refine ρ ?_;refine ix i (h.rd.ext j) om ?_;have u:us[i]?=some (us.getD i (.int .i64 0)):=by grind
  refine ρ ?_;refine ld ((h.rd.ext j).cell u) ?_;refine ρ ?_;refine cl (Jvq B ((h.nat i U).ext j) (hsub i hi).len (hone _ (by grind)).len) ?_;rintro r w2 ⟨hr,J,y⟩;refine ρ ?_;refine Ja (i+1) r sO ⟨U,j.trans y,?_,λad m c e=>nL j.size (J ad m c e)⟩ om;grind [Xj]
 have D:i=ns.length:=by grind
 rw[D,List.take_length]at B;refine ρ ?_;exact Jq ⟨B,G,j⟩
end Go.Proofs.YtebiphhfkdbpfaaGreatDoor
namespace Go.Wk
open Go.RowKit
variable {cs xs:List Value}{b base c d dT e j m n sT sc t ty:Nat}{N N':Nat->Prop}{x y:Operand}{A B:Option Addr}{k:TK}{α:Type}{E:TypeId}{u v v' z:Value}{w w':World}
section
variable {α:Type} {E:TypeId} {sz:Nat} {Φ:(Nat->Prop)->World->List Value->α->Prop} {N N' M:Nat->Prop} {w w':World} {base:Nat} {v:Value} {ls:List α}
structure Sta(Φ:(Nat->Prop)->World->List Value->α->Prop): Prop where
 gr:∀ {N w w' cs a},Φ N w cs a->GrN N w w'->Φ N w' cs a
 old:∀ {N N':Nat->Prop} {w cs a},Φ N w cs a->(∀ k,N' k->N k∨w.heap.size<=k)->Φ N' w cs a
def GX(sz:Nat)(Φ:(Nat->Prop)->World->List Value->α->Prop)(N:Nat->Prop)(w:World)(v:Value)(ls:List α): Prop :=
 GV sz (Φ N) w v ls/\(ls≠[]->∀ ad m c,v=.slice (some ad) m c->¬ N ad.block)
def OX(E:TypeId)(sz:Nat)(Φ:(Nat->Prop)->World->List Value->α->Prop)(N:Nat->Prop)(w:World)(base:Nat)(v:Value)(ls:List α): Prop :=
 ∃ ps:List (List Value×α),ls=ps.map (·.2)/\w.ownsRow base E sz v ps.length (Jc ps)/\∀ p∈ps,p.1.length=sz/\Φ N w p.1 p.2
theorem GX.gr(h:GX sz Φ N w v ls)(hΦ:Sta Φ)(hs:0<sz)(hg:GrN N w w'): GX sz Φ N w' v ls:=by
 obtain⟨⟨ps,A,c,e,y,J,G,i,j⟩,hn⟩:=h;refine⟨⟨ps,A,c,e,y,J,G,Ug i hg λh0 O D=>hn ?_ O ps.length c (by rw[y,D]),λp u=>⟨(j p u).1,hΦ.gr (j p u).2 hg⟩⟩,hn⟩;intro B;rw[i.len]at h0;have:ps.length=0:=by
  have:=congrArg List.length e;rw[B,List.length_map]at this;exact this.symm
 rw[this]at h0;omega
theorem GX.ext(h:GX sz Φ N w v ls)(hΦ:Sta Φ)(hs:0<sz)(hx:Ext w w'): GX sz Φ N w' v ls:=h.gr hΦ hs (GrN.ext hx)
theorem GX.old(h:GX sz Φ N w v ls)(hΦ:Sta Φ)(hs:0<sz)(hN:∀ k,N' k->N k∨w.heap.size<=k): GX sz Φ N' w v ls:=by
 obtain⟨⟨ps,A,c,e,y,O,J,i,j⟩,hn⟩:=h;refine⟨⟨ps,A,c,e,y,O,J,i,λp u=>⟨(j p u).1,hΦ.old (j p u).2 hN⟩⟩,λh0 ad m U ev D=>?_⟩;rcases hN _ D with h1|h1
 .exact hn h0 ad m U ev h1
 have B:0<ps.length:=by
  rcases Nat.eq_zero_or_pos ps.length with h2|h2
  .exact absurd (by rw[e,List.eq_nil_of_length_eq_zero h2];rfl) h0
  exact h2
 obtain⟨Z,G,hb⟩:=i.isome B hs;rw[y,G]at ev;injection ev with ev _ _
 injection ev with ev
 subst ev;omega
theorem GX.gv(h:GX sz Φ N w v ls): GV sz (Φ N) w v ls:=h.1
theorem OX.nil(w:World)(base:Nat): OX E sz Φ N w base (.slice none 0 0) []:=⟨[],rfl,Zg _ _ _ _,λp i=>by cases i⟩
theorem OX.form(h:OX E sz Φ N w base v ls): ∃ A c,v=.slice A ls.length c/\ls.length<=c/\∀ g,v.ownBlock=some g->base<=g/\g<w.heap.size:=by
 obtain⟨ps,e,i,y⟩:=h;obtain⟨A,c,u,B,j⟩:=Jf i;have:ls.length=ps.length:=by rw[e,List.length_map]
 exact⟨A,c,by rw[this];exact u,om,j⟩
theorem OX.gr(h:OX E sz Φ N w base v ls)(hΦ:Sta Φ)(hg:GrN M w w')(hM:∀ k,M k->N k/\v.ownBlock≠some k): OX E sz Φ N w' base v ls:=by
 obtain⟨ps,e,u,i⟩:=h;exact⟨ps,e,Qn u hg λg B hn=>(hM g hn).2 B,λp j=>⟨(i p j).1,hΦ.gr (i p j).2 (hg.mono λk _ y=>(hM k y).1)⟩⟩
theorem OX.ext(h:OX E sz Φ N w base v ls)(hΦ:Sta Φ)(hx:Ext w w'): OX E sz Φ N w' base v ls:=h.gr (M:=λ_=>False) hΦ (GrN.ext hx) λk e=>e.elim
theorem OX.old(h:OX E sz Φ N w base v ls)(hΦ:Sta Φ)(hN:∀ k,N' k->N k∨w.heap.size<=k): OX E sz Φ N' w base v ls:=by
 obtain⟨ps,e,u,i⟩:=h;exact⟨ps,e,u,λp j=>⟨(i p j).1,hΦ.old (i p j).2 hN⟩⟩
theorem OX.gx(h:OX E sz Φ N w base v ls)(hΦ:Sta Φ)(hm:ls.length<=1100000)(hN:∀ k,N' k->N k/\v.ownBlock≠some k): GX sz Φ N' w v ls:=by
 obtain⟨ps,e,y,u⟩:=h;have G:ls.length=ps.length:=by rw[e,List.length_map]
 obtain⟨A,c,D,B,J⟩:=Jf y;subst D;exact⟨⟨ps,A,c,e,rfl,B,om,Rd.own y,λp i=>⟨(u p i).1,hΦ.old (u p i).2 λk j=>.inl (hN k j).1⟩⟩,λ_ U m O ev j=>(hN _ j).2 (by rw[ev];rfl)⟩
theorem OX.after{ps:List (List Value×α)}(hΦ:Sta Φ)(e:ls=ps.map (·.2))(hp:∀ p∈ps,p.1.length=sz/\Φ N w p.1 p.2){w':World}{x:α}(hl:cs.length=sz)(hx:Φ N w cs x)(ho:w'.ownsRow base E sz v' (ps.length+1) (Jc ps++cs))(hg:w.grownBy w' v.ownBlock)(hv:∀ g,v.ownBlock=some g->N g): OX E sz Φ N w' base v' (ls++[x]):=by
 have i:GrN N w w':=GrN.by hg hv
 refine⟨ps++[(cs,x)],by rw[e];simp,?_,λp j=>?_⟩
 .have u:Jc (ps++[(cs,x)])=Jc ps++cs:=by simp[Jc]
  rw[List.length_append,u];exact ho
 rcases List.mem_append.1 j with h'|h'
 .exact⟨(hp p h').1,hΦ.gr (hp p h').2 i⟩
 rw[List.mem_singleton.1 h'];exact⟨hl,hΦ.gr hx i⟩
end
theorem apX{P:Program}{al:AL}{Q:Exit->Act->World->Prop}{ops:Array Oper}{rest:List Oper}{pos:String}{aft:Array Edge}{E sz bytes:Nat}(hE:ElT P t E sz bytes z){Φ:(Nat->Prop)->World->List Value->α->Prop}(hΦ:Sta Φ){ls:List α}{a:α}(ho:OX E sz Φ N w base v ls)(hb:Blk w b E cs)(hl:cs.length=sz)(h1:∀ u∈cs,u.oneCell'=true)(hx':Φ N w cs a)(hv:∀ g,v.ownBlock=some g->N g)(hm:ls.length<=1100000)(hby:bytes<=64)(hbase:base<=w.heap.size)(kk:∀ v' w',OX E sz Φ N w' base v' (ls++[a])->w.grownBy w' v.ownBlock->(∀ g,v'.ownBlock=some g->v.ownBlock=some g∨w.heap.size<=g)->WL P n ops Q rest ((d,v')::al) w')(hx:ev al x=some v:=by rfl)(hy:ev al y=some (.slice (some ⟨b,0,none⟩) 1 1):=by rfl)(hd:Nat.blt d n=true:=by rfl):
  WL P n ops Q (⟨some d,.call { callee:=.builtin .append,args:=#[x,y],argTypes:=#[t,t] },ty,pos,aft,none⟩::rest) al w:=by
 obtain⟨ps,e,D,G⟩:=ho;have j:ps.length<=1100000:=by
  have:=congrArg List.length e;rw[List.length_map]at this;omega
 have J:(ps.length+1)*bytes<=1100001*64:=Nat.mul_le_mul om hby;refine apb hE D (hb.rd (n:=1) om) h1 (by unfold maxLen;omega) om hbase ?_ hx hy hd;intro v' w' i B hn;exact kk v' w' (OX.after hΦ e G hl hx' i B hv) B hn
theorem Jlx{α:Type}{sz:Nat}{q:List Value×α}: ∀ {ps:List (List Value×α)} {j:Nat},(∀ p∈ps,p.1.length=sz)->j<ps.length->(Jc ps).take (j*sz)++q.1++(Jc ps).drop (j*sz+sz)=Jc (ps.set j q)
 | [],_,_,h=>by simp at h
 | p::ps,0,h,_=>by
  have hp:=h p (by simp);have e:Jc (p::ps)=p.1++Jc ps:=rfl;have e2:Jc ((p::ps).set 0 q)=q.1++Jc ps:=rfl;rw[e,e2,Nat.zero_mul,Nat.zero_add,List.take_zero,List.nil_append,List.drop_append,List.drop_of_length_le om,List.nil_append,hp,Nat.sub_self,List.drop_zero]
 | p::ps,j+1,h,hj=>by
  have hp:=h p (by simp);have ih:=Jlx (q:=q) (ps:=ps) (j:=j) (λx hx=>h x (by simp[hx])) (by simpa using hj);have e:Jc (p::ps)=p.1++Jc ps:=rfl;have e2:Jc ((p::ps).set (j+1) q)=p.1++Jc (ps.set j q):=rfl;rw[e,e2,<-ih,Nat.succ_mul,List.take_append,List.take_of_length_le om,List.drop_append,List.drop_of_length_le om,List.nil_append,hp,show j*sz+sz-sz=j*sz by omega,show j*sz+sz+sz-sz=j*sz+sz by omega];simp
theorem OX.put{sz:Nat}{Φ:(Nat->Prop)->World->List Value->α->Prop}{ps:List (List Value×α)}{a:α}(hΦ:Sta Φ)(hp:∀ p∈ps,p.1.length=sz/\Φ N w p.1 p.2)(hj:j<ps.length)(hl:cs.length=sz)(hx:Φ N w cs a)(ho:w'.ownsRow base E sz v ps.length ((Jc ps).take (j*sz)++cs++(Jc ps).drop (j*sz+sz)))(hg:w.grownBy w' v.ownBlock)(hv:∀ g,v.ownBlock=some g->N g): OX E sz Φ N w' base v ((ps.map (·.2)).set j a):=by
 have i:GrN N w w':=GrN.by hg hv
 rw[Jlx (q:=(cs,a)) (λp u=>(hp p u).1) hj]at ho;refine⟨ps.set j (cs,a),by simp[List.map_set],by rw[List.length_set];exact ho,λp u=>?_⟩;rcases List.mem_or_eq_of_mem_set u with h'|h'
 .exact⟨(hp p h').1,hΦ.gr (hp p h').2 i⟩
 rw[h'];exact⟨hl,hΦ.gr hx i⟩
section
variable {P:Program} {n:Nat} {al:AL} {w:World} {Q:Exit->Act->World->Prop} {ops:Array Oper} {rest:List Oper}
variable {d ty:Nat} {op:Op} {pos:String} {aft:Array Edge} {tt:TT}
theorem stX[h:Tab P tt]{sz:Nat}{Φ:(Nat->Prop)->World->List Value->α->Prop}(hΦ:Sta Φ){ls:List α}{a:α}(ho:OX e sz Φ N w base (.slice A m c) ls)(hm:m=ls.length)(hj:j<ls.length)(hx':Φ N w cs a)(hv:∀ g,(Value.slice A m c).ownBlock=some g->N g)(h1:∀ u∈cs,u.oneCell'=true)(kk:∀ w1,OX e sz Φ N w1 base (.slice A m c) (ls.set j a)->w.grownBy w1 (Value.slice A m c).ownBlock->WL P n ops Q rest al w1)(ht:tk tt t=some k:=by rfl)(hk:k.desc=.invalid:=by rfl)(hs:k.size=sz:=by rfl)(hl:cs.length=sz:=by rfl)(hx:ev al x=some (.pointer (some (adr A (j*sz)))):=by rfl)(hy:ev al y=some (.agg cs.toArray):=by rfl):
  WL P n ops Q (⟨none,.store t x y,ty,pos,aft,none⟩::rest) al w:=by
 obtain⟨ps,O,G,U⟩:=ho;have J:ls.length=ps.length:=by rw[O,List.length_map]
 have D:m=ps.length:=om
 rw[<-D]at G;refine stoE G om (λw1 B i=>kk w1 ?_ i) h1 ht hk hs hl hx hy;rw[O];rw[D]at B i hv ⊢;exact OX.put hΦ U om hl hx' B i hv
theorem stX1[h:Tab P tt]{Φ:(Nat->Prop)->World->List Value->α->Prop}(hΦ:Sta Φ){ls:List α}{a:α}(ho:OX e 1 Φ N w base (.slice A m c) ls)(hm:m=ls.length)(hj:j<ls.length)(hx':Φ N w [u] a)(hv:∀ g,(Value.slice A m c).ownBlock=some g->N g)(h1:u.oneCell'=true)(kk:∀ w1,OX e 1 Φ N w1 base (.slice A m c) (ls.set j a)->w.grownBy w1 (Value.slice A m c).ownBlock->WL P n ops Q rest al w1)(ht:tk tt t=some k:=by rfl)(hk:k.size=1:=by rfl)(hp':Xp k.desc=true:=by rfl)(hx:ev al x=some (.pointer (some (adr A j))):=by rfl)(hy:ev al y=some u:=by rfl):
  WL P n ops Q (⟨none,.store t x y,ty,pos,aft,none⟩::rest) al w:=by
 obtain⟨ps,e1,U,Z⟩:=ho;have a1:ls.length=ps.length:=by rw[e1,List.length_map]
 have B:m=ps.length:=om
 rw[<-B]at U;obtain⟨s1,s2,G,s4,D⟩:=Zk U (q:=j) om u;have a2:(Jc ps).length=ps.length*1:=Jlz λp hm=>(Z p hm).1;obtain⟨O,J⟩:∃ O,(Jc ps)[j]?=some O:=⟨_,List.getElem?_eq_getElem om⟩;refine sto (s1.trans J) s2 (kk _ ?_ D) ht hk hp' hx hy h1;have i:(Jc ps).set j u=(Jc ps).take (j*1)++[u]++(Jc ps).drop (j*1+1):=by
  rw[Nat.mul_one,List.set_eq_take_append_cons_drop,if_pos om];simp
 rw[i]at G;rw[e1];rw[B]at G D hv ⊢;exact OX.put hΦ Z om rfl hx' G D hv
theorem Qjg(w:World)(dT sT ty elem:TypeId)(g dLen dCap:Nat)(a:Addr)(sCap sz:Nat)(cur:Array Value)(t:TypeId)(cs:List Value)(hu:P.underlying dT=some (.slice elem))(hs:(P.info? elem).map (·.size)=some sz)(hg:w.heap[g]?=some (.cells cur t (0,0)))(hn:cs.length=dLen*sz)(hsrc:∀ j v,cs[j]?=some v->w.cell? (a.add j)=some v)(hfit:cs.length<=cur.size)(h1:∀ v∈cs,v.oneCell'=true):
  (Builtin.copy_ #[dT,sT] ty #[.slice (some ⟨g,0,none⟩) dLen dCap,.slice (some a) dLen sCap]).run P w =
   .ok (goInt dLen) (w.setRow g (cs++cur.toList.drop cs.length).toArray):=by
 have y:=run_loadCells_list (P:=P) w a cs hsrc;have u:=run_storeCells_at (P:=P) g 0 t cs 0 cur w hg (by simpa using hfit) h1;simp only[Nat.add_zero,Nat.zero_add,List.take_zero,List.nil_append]at u;cases hq:P.info? elem with
 | none=>simp[hq]at hs
 | some i=>
  have hi:i.size=sz:=by simpa [hq] using hs
  simp[Builtin.copy_,run_underlying hu,Builtin.lenOf,Builtin.firstCells,sizeOf,typeInfo,hq,hi,<-hn,y,u]
theorem cpO[h:Tab P tt]{sz:Nat}(ho:w.ownsRow base e sz (.slice A m c) m cs)(hr:Rd w sz B m xs)(h0:0<m)(hsz:0<sz)(h1:∀ u∈xs,u.oneCell'=true)(kk:∀ w1,w1.ownsRow base e sz (.slice A m c) m xs->w.grownBy w1 (Value.slice A m c).ownBlock->WL P n ops Q rest ((d,.int .i64 (m:Int))::al) w1)(ht:tk tt dT=some k:=by rfl)(hk:k.desc=.slice e:=by rfl)(hz:k.esz=sz:=by rfl)(hx:ev al x=some (.slice A m c):=by rfl)(hy:ev al y=some (.slice B m sc):=by rfl)(hd:Nat.blt d n=true:=by rfl):
  WL P n ops Q (⟨some d,.call { callee:=.builtin .copy,args:=#[x,y],argTypes:=#[dT,sT] },ty,pos,aft,none⟩::rest) al w:=by
 have J:=Yg h.ok ht hk hz;rcases ho.2 with⟨_,h2⟩|⟨g,cap,cur,hv,hb,hg,hc,hcm,hcs,hcur⟩
 .omega
 injection hv with e1 _ e3
 subst e1;subst e3;have i:=hr.len;obtain⟨ad,e2,Z,j⟩:=hr.2 (by rw[i];exact Nat.mul_pos h0 hsz);subst e2;have U:m*sz<=c*sz:=nO _ hc;have G:(P.info? e).map (·.size)=some sz:=J.2
 have D:=λty=>Qjg (P:=P) w dT sT ty e g m c ad sc sz cur e xs J.1 G hg i j om h1;refine wop (w':=w.setRow g (xs++cur.toList.drop xs.length).toArray) hd (λa O=>?_) (kk _ ⟨i,.inr ⟨g,c,_,rfl,hb,setRow_heap w g cur _ e (0,0) hg,hc,hcm,?_,?_⟩⟩ (Ke w g _))
 .simp[execOp,resolve,invoke,builtin,O.ev hx,O.ev hy,D,goInt]
 .simp;omega
 rw[List.take_append,List.take_of_length_le om];simp[i]
theorem cpX[h:Tab P tt]{sz:Nat}{Φ:(Nat->Prop)->World->List Value->α->Prop}(hΦ:Sta Φ){l0 ls:List α}(ho:OX e sz Φ N' w base (.slice A m c) l0)(hl0:l0.length=m)(hs:GX sz Φ N w (.slice B m sc) ls)(h0:0<m)(hsz:0<sz)(hN:∀ cs a,Φ N w cs a->Φ N' w cs a)(h1:∀ cs a,Φ N w cs a->∀ u∈cs,u.oneCell'=true)(hv:∀ g,(Value.slice A m c).ownBlock=some g->N' g)(kk:∀ w1,OX e sz Φ N' w1 base (.slice A m c) ls->w.grownBy w1 (Value.slice A m c).ownBlock->WL P n ops Q rest ((d,.int .i64 (m:Int))::al) w1)(ht:tk tt dT=some k:=by rfl)(hk:k.desc=.slice e:=by rfl)(hz:k.esz=sz:=by rfl)(hx:ev al x=some (.slice A m c):=by rfl)(hy:ev al y=some (.slice B m sc):=by rfl)(hd:Nat.blt d n=true:=by rfl):
  WL P n ops Q (⟨some d,.call { callee:=.builtin .copy,args:=#[x,y],argTypes:=#[dT,sT] },ty,pos,aft,none⟩::rest) al w:=by
 obtain⟨G,e0,i,a1⟩:=ho;obtain⟨⟨ps,A',c',e1,e2,e3,e4,hr,O⟩,_⟩:=hs;have Z:G.length=m:=by rw[<-hl0,e0,List.length_map]
 injection e2 with e5 e6 e7
 subst e5;rw[Z]at i;rw[<-e6]at hr;refine cpO i hr h0 hsz (λu hu=>?_) (λw1 U j=>kk w1 ⟨ps,e1,by rw[<-e6];exact U,λp D=>⟨(O p D).1,hΦ.gr (hN _ _ (O p D).2) (GrN.by j hv)⟩⟩ j) ht hk hz hx hy hd;obtain⟨p,D,J⟩:=List.mem_flatMap.1 hu;exact h1 _ _ (O p D).2 u J
theorem GX.el{sz:Nat}{Φ:(Nat->Prop)->World->List Value->α->Prop}{w:World}{ls:List α}(h:GX sz Φ N w v ls): ∃ A c cs,v=.slice A ls.length c/\ls.length<=c/\ls.length<=1100000/\Rd w sz A ls.length cs/\(0<ls.length->0<sz->∃ ad,A=some ad/\¬ N ad.block)/\∀ i (hi:i<ls.length),∃ ce,ce.length=sz/\Φ N w ce ls[i]/\∀ j u,ce[j]?=some u->w.cell? ((adr A (i*sz)).add j)=some u:=by
 obtain⟨A,c,cs,D,U,O,y,J⟩:=h.1.parts;refine⟨A,c,cs,D,U,O,y,λh0 G=>?_,J⟩;obtain⟨ad,B,_⟩:=y.isome h0 G;exact⟨ad,B,h.2 (λe=>by rw[e]at h0;simp at h0) ad ls.length c (by rw[D,B])⟩
theorem OX.el{sz:Nat}{Φ:(Nat->Prop)->World->List Value->α->Prop}{w:World}{ls:List α}(h:OX E sz Φ N w base v ls): ∃ A c cs,v=.slice A ls.length c/\ls.length<=c/\Rd w sz A ls.length cs/\∀ i (hi:i<ls.length),∃ ce,ce.length=sz/\Φ N w ce ls[i]/\∀ j u,ce[j]?=some u->w.cell? ((adr A (i*sz)).add j)=some u:=by
 obtain⟨ps,e,G,O⟩:=h;subst e;obtain⟨A,c,e1,Z,e3⟩:=Jf G;subst e1;have y:(ps.map λx=>x.2).length=ps.length:=List.length_map ..;refine⟨A,c,Jc ps,by rw[y],by rw[y];exact Z,by rw[y];exact Rd.own G,λi hi=>?_⟩;have hi:i<ps.length:=by rw[<-y];exact hi
 have J:=O ps[i] (List.getElem_mem hi);refine⟨ps[i].1,J.1,by simpa using J.2,λj u B=>?_⟩;have U:j<sz:=by
  rw[<-J.1];rcases Nat.lt_or_ge j ps[i].1.length with h|h
  .exact h
  rw[List.getElem?_eq_none h]at B;cases B
 rw[Gu];exact(Rd.own G).cell ((Jyp (λp D=>(O p D).1) (gE hi) U).trans B)
end
end Go.Wk
namespace Go.Wk
open Go.RowKit
theorem Off.old'{N N':Nat->Prop}{w:World}{Φ:World->Prop}(h:Off N w Φ)(hN:∀ k,N' k->N k∨w.heap.size<=k): Off N' w Φ:=λw2 hg2=>h w2 (hg2.mono λk i hn=>(hN k hn).elim id λh=>om)
end Go.Wk
namespace Go.Proofs.YtebiphhfkdbpfaaGreatDoor
open Go.RowKit Pl Go.Wk
attribute [local irreducible] WC WL QX WD WDB WP WN WG WH
variable {l:List Nat}{n:Nat}{u v:Value}{w w':World}
def Vr(e:Nat)(l:List Nat): Nat:=l.foldl (λe v=>e ||| 2^v) e
def Zq(l:List Nat): Nat:=Vr 0 l
theorem Jmr: ∀(l:List Nat) (e u:Nat),(Vr e l).testBit u=true↔e.testBit u=true∨u∈l
 | [],e,u=>by simp[Vr]
 | v::l,e,u=>by
  show(Vr (e ||| 2^v) l).testBit u=true↔_;rw[Jmr l,Nat.testBit_or,Nat.testBit_two_pow];simp only[Bool.or_eq_true,decide_eq_true_eq,List.mem_cons];grind
theorem edgeOf_bit{u:Nat}: (Zq l).testBit u=true↔u∈l:=by
 unfold Zq;rw[Jmr];simp
theorem Jmq(h:∀ v∈l,v<n): Zq l<2^n:=Nat.lt_pow_two_of_testBit _ λi hi=>by
 refine Bool.eq_false_iff.2 λe=>?_;have:=h i (edgeOf_bit.1 e);omega
theorem Qyv(e:Nat)(l:List Nat)(v:Nat): Vr e (l++[v])=Vr e l ||| 2^v:=by simp[Vr]
theorem EU32s: ElT Tryz.prog 39 63 1 4 (.int .u32 0):=⟨Tryz.underlying39,info_parts kr,rfl,by decide⟩
theorem Qdk(z:Int)(w:World): (Instr.buildSlice 39 1 #[(0,.int .u32 z)]).run Tryz.prog w=.ok (.slice (some ⟨w.heap.size,0,none⟩) 1 1) (w.alloc (.cells [.int .u32 z].toArray 63)):=kr
theorem Jkm: Qm Tryz.prog 48=some (.agg #[.int .i64 0,.slice none 0 0]):=kr
theorem Qdz(z:Int)(w:World): (Instr.build 48 #[(0,.int .i64 z)]).run Tryz.prog w=.ok (.agg #[.int .i64 z,.slice none 0 0]) w:=kr
theorem Qgc(a b:List Nat): Uc (a++b)=Uc a++Uc b:=by simp[Uc]
theorem nzl(vs:List Nat): (nz vs).length=vs.length:=by simp[nz]
theorem Qdh(hx:Ext w w'){p:Addr}(h:w.cell? p=some u): w'.cell? p=some u:=by
 have i:p.block<w.heap.size:=by
  rcases Nat.lt_or_ge p.block w.heap.size with h1|h1
  .exact h1
  unfold World.cell? at h;rw[Array.getElem?_eq_none h1]at h;simp at h
 rw[hx.cell i];exact h
def NtC(N:Nat->Prop)(w:World)(cs:List Value)(l:List Nat): Prop:=∃ v,cs=[v]/\Off N w λx=>IntsV x v (nz l)
theorem NtC.sta: Sta NtC:=⟨λ⟨v,e,h⟩ i=>⟨v,e,h.gr i⟩,λ⟨v,e,h⟩ j=>⟨v,e,h.old' j⟩⟩
theorem Qvl{N:Nat->Prop}{vss:List (List Nat)}(h:GX 1 NtC N w v vss)(hn:n<=32)(hm:vss.length<=64)(hlt:∀ vs∈vss,∀ x∈vs,x<n):
  Ret Tryz.prog 41 [.int .i64 (n:Int),v] w λu w'=>∃ A c,u=.tuple #[.agg (grC A c n (vss.map Zq)).toArray,.int .i64 0]/\GrV w' A c n (vss.map Zq)/\Ext w w':=by
 obtain⟨SA,sc,bg,rfl,bh,_,b7,_,b5⟩:=id h.el;refine Jz Tryz.func41 Tryz.ntmps41 rfl kr rfl ?_;refine ρ ?_;refine alc Jkm ?_;intro w1 b4 ar b3 an;refine ρ ?_;refine cf ?_ ?_
 .simp;omega
 refine ρ ?_;refine cf ?_ ?_
 .exact dF om
 refine ρ ?_;refine bld (Qdz _ _) ?_;refine ρ ?_;refine alc Jkm ?_;intro w2 b6 aq aj ba;refine ρ ?_;refine stW ba ?_;intro w3 ak bi ap;have a8:Ext w1 w3:=ap w1 aq aj;have be:=an.ext a8;have a3:(vss.map Zq).length=vss.length:=List.length_map ..;refine ρ ?_;refine Qq (fun (i:Nat) (vl:Value)=>[(0,.int .i64 (n:Int)),(4,.pointer (some ⟨b4,0,none⟩)),(5,.int .i64 0),(6,.pointer (some ⟨b6,0,none⟩)),(25,.slice SA vss.length sc),(26,.int .i64 (vss.length:Int)),(27,.int .i64 (i:Int))])
  (λi vl w'=>i<=vss.length/\Ext w1 w'/\Blk w' b6 48 [.int .i64 (n:Int),vl]/\w'.ownsRow w1.heap.size 63 1 vl i (Uc ((vss.map Zq).take i))) (λi _=>vss.length-i) 0 (.slice none 0 0) sB
  ⟨Nat.zero_le _,a8,ak,by rw[List.take_zero];exact Zg _ _ _ _⟩ ?_
 rintro i vl w6 ⟨hi,a1,J,B⟩;obtain⟨EA,ec,rfl,b2,b1⟩:=Jf B;have D:=ar.trans a1;refine ρ ?_;refine ci (λh=>?_) (λh=>?_)
 .have li:i<vss.length:=by have:=oT h;omega
  clear h;obtain⟨ce,_,⟨vv,rfl,ai⟩,ae⟩:=b5 i li;have ad:=hlt _ (List.getElem_mem li);have hI:=ai.here;generalize hq:vss[i]=vs at hI ad
  obtain⟨QA,qc,rfl,ax,aw,ag⟩:=id hI;rw[nzl]at ag ax aw;have ah:=ag.ext D;refine ρ ?_;refine ix i (b7.ext D) li ?_;refine ρ ?_;refine ld (show w6.cell? (adr SA i)=some (.slice QA (nz vs).length qc) by have:=Qdh D (ae 0 _ rfl);rwa [Gu,Nat.mul_one,Nat.add_zero]at this) ?_;rw[nzl];refine ρ ?_;refine Jp (fun (j:Nat)=>[(0,.int .i64 (n:Int)),(4,.pointer (some ⟨b4,0,none⟩)),(5,.int .i64 0),(6,.pointer (some ⟨b6,0,none⟩)),(25,.slice SA vss.length sc),(26,.int .i64 (vss.length:Int)),(27,.int .i64 (i:Int)),(9,.int .u32 (Vr 0 (vs.take j):Int)),(31,.slice QA vs.length qc),(32,.int .i64 (vs.length:Int)),(33,.int .i64 (j:Int))])
   (λj w'=>j<=vs.length/\w'=w6) (λj=>vs.length-j) 0 sB ⟨Nat.zero_le _,rfl⟩ ?_
  rintro j _ ⟨hj,rfl⟩;refine ρ ?_;refine ci (λh=>?_) (λh=>?_)
  .have lj:j<vs.length:=by have:=oT h;omega
   clear h;have av:=ad _ (getD_mem' 0 vs lj);refine ρ ?_;refine ix j ah lj ?_;refine ρ ?_;refine ld (ah.cell (Xq lj)) ?_;refine ρ ?_;refine cf ?_ ?_
   .generalize vs.getD j 0=q at av ⊢
    simp;omega
   refine ρ ?_;refine sl32 (v:=vs.getD j 0) om ?_;refine ρ ?_;have bb:Vr 0 (vs.take j)<4294967296:=nM (Jmq (l:=vs.take j) λv hv=>ad v (List.mem_of_mem_take hv)) (Um hn);rw[Ge bb (Gg om),<-Qyv,<-Xj 0 lj];refine ρ ?_;exact Jh (j+1) sO ⟨lj,rfl⟩ om
  have ay:j=vs.length:=by have:=oF h;omega
  clear h;rw[ay,List.take_length];refine ρ ?_;refine ld (J.at (i:=1) rfl) ?_;refine ρ ?_;refine bsl (Qdk _) ?_;intro w9 b9 Z bj b8;have a7:=a1.trans Z;refine ρ ?_;refine apb (m':=1) (news:=[.int .u32 (Vr 0 vs:Int)]) EU32s (Ju B Z) (b8.rd (n:=1) rfl) (by simp[Value.oneCell']) (by unfold maxLen;omega) om a7.size ?_;intro bf U a2 aa bc;have y:Blk U b6 48 [.int .i64 (n:Int),.slice EA i ec]:=(J.ext Z).grown aa ((J.ext Z).ne_own (Ju B Z) rfl);obtain⟨a6,a5,rfl,_,bd⟩:=Jf a2;refine ρ ?_;refine sto (y.at (i:=1) rfl) (y.frozen 1) ?_;obtain⟨O,G⟩:∃ O,O=U.setCell ⟨b6,1,none⟩ (.slice a6 (i+1) a5):=⟨_,rfl⟩;rw[show U.setCell ((⟨b6,0,none⟩:Addr).add 1) (.slice a6 (i+1) a5)=O from G.symm];have a9:GrN (λk=>k=b6) U O:=by rw[G];exact GrN.set _ rfl
  have af:Blk O b6 48 [.int .i64 (n:Int),.slice a6 (i+1) a5]:=by rw[G];exact y.set 1 _
  clear G;have ac:Ext w1 U:=Jt a7 aa λg eg=>(b1 g eg).1;refine ρ ?_;refine Ja (i+1) (.slice a6 (i+1) a5) sO ⟨li,a9.old ac λk hk=>by rw[hk];exact aj,af,?_⟩ om;have e1:(vss.map Zq).take (i+1)=(vss.map Zq).take i++[Vr 0 vs]:=by
   rw[Xj 0 (by rw[a3];exact li)];congr 2
   simp[List.getD,li,hq,Zq]
  rw[e1,Qgc];exact Qn a2 a9 λg eg e=>by rw[e]at eg;exact y.ne_own a2 rfl eg.symm
 have az:i=vss.length:=by have:=oF h;omega
 clear h;subst az;rw[<-a3,List.take_length]at B;have ab:=an.ext a1;refine ρ ?_;refine lds (cs:=[.int .i64 (n:Int),.slice EA vss.length ec]) (λj u hu=>J.at hu) ?_;refine ρ ?_;refine stW ab ?_;intro w7 am hg7 ao;have a4:GrV w6 EA ec n (vss.map Zq):=⟨Rd.own B,by rw[a3];exact b2,hn,by rw[a3];exact hm,λe he=>by
  obtain⟨vs,au,rfl⟩:=List.mem_map.1 he;exact Jmq (hlt vs au)⟩
 refine ρ ?_;refine Xr am ⟨EA,ec,?_,⟨?_,a4.cap,a4.n32,a4.few,a4.lt⟩,ao w D b3⟩
 .rw[grC,a3]
 exact Rd.own (Qn B (GrN.by (N:=λk=>k=b4) hg7 λk e=>by injection e with e;exact e.symm) λg eg e=>by rw[e]at eg;exact ab.ne_own B rfl eg.symm)
end Go.Proofs.YtebiphhfkdbpfaaGreatDoor
namespace Go.Wk
open Go.RowKit
variable {ds:List Nat}{l:List Oper}{d i k t:Nat}{T:Nat->Bool}{v:Value}{w' w0:World}
structure SF where
 p: Value->World->Prop
 st:∀ {v:Value} {w w':World},p v w->Ext w w'->p v w'
def SF.eq(c:Value): SF:=⟨λv _=>v=c,λh _=>h⟩
def Iq(o:Oper)(k:Nat): Bool:=o.after.any λe=>Region.binds .any e && e.on == k
def accB(l:List Oper): Bool:=(List.range l.length).all λi=>match nth l i with
 | some o=>o.after.all λe=>!Region.binds .any e || Nat.blt e.on i
 | none=>true
def slM(vs:Nat->Value)(al:AL): List Nat->Nat->AL
 | [],_=>al
 | d::r,i=>(d,vs i)::slM vs al r (i+1)
theorem Gn{vs:Nat->Value}{al:AL}{t:Nat}: ∀ {ds:List Nat} {i:Nat},t ∉ ds->lk (slM vs al ds i) t=lk al t
 | [],_,_=>rfl
 | d::r,i,h=>by
  unfold slM;rw[Vn _ _ (λe=>h (by grind))];exact Gn λh'=>h (List.mem_cons_of_mem _ h')
theorem Ya{vs:Nat->Value}{al:AL}: ∀ {ds:List Nat} {i j:Nat},ds.Nodup->j<ds.length->lk (slM vs al ds i) (ds.getD j 0)=some (vs (i+j))
 | [],_,_,_,h=>by simp at h
 | d::r,i,0,_,_=>by unfold slM;simp[Gp]
 | d::r,i,j+1,hn,hj=>by
  have hn':=List.nodup_cons.1 hn;have hj':j<r.length:=by simpa using hj
  unfold slM;have e:(d::r).getD (j+1) 0=r.getD j 0:=by simp
  rw[e];have hm:r.getD j 0∈r:=by grind
  rw[Vn _ _ (λe=>hn'.1 (by rw[e];exact hm)),Ya hn'.2 hj'];congr 2;omega
theorem Jjp(h:t∈ds): ∃ j,j<ds.length/\ds.getD j 0=t:=by
 obtain⟨j,i,e⟩:=List.getElem_of_mem h;exact⟨j,i,by grind⟩
section
variable {P:Program} {n:Nat} {al:AL} {w:World} {Q:Exit->Act->World->Prop} {ops:Array Oper}
def toM(G:Act->World->Prop): Exit->Act->World->Prop
 | .normal,a,w=>G a w
 | _,_,_=>False
theorem Jkq{o:Oper}{G:Act->World->Prop}(ho:ops[i]?=some o)(h:WL P n ops (toM G) [o] al w): ∀ a,Fr n al a->wpOp P ops (QF Q) i G a w:=λa y=>by
 have j:=h a y;unfold wpList at j;unfold wpOp;simp only[ho];have u:¬ LetsOut (toM G):=by rintro⟨a,w,h⟩;exact h
 split
 .rename_i hw;simp only[hw,if_true]at j;rcases j with j|⟨_,j⟩
  .left
   refine Oper.wp_mono (K:=wpList P ops (toM G) []) (λD w' B=>B) ?_;unfold Oper.wp at j ⊢;grind [Ve,toM]
  exact absurd j u
 rename_i hw;simp only[hw]at j;exact j
def PM(n:Nat)(al:AL)(w:World)(d:Nat)(F:SF)(a:Act)(w':World): Prop:=∃ v,Fr n ((d,v)::al) a/\Ext w w'/\F.p v w'
theorem Qr{F:SF}(hx:Ext w w')(h:F.p v w'): QX n (toM (PM n al w d F)) .normal ((d,v)::al) w':=λa i=>⟨v,i,hx,h⟩
def fiM(Fs:List SF)(k:Nat)(v:Value)(w:World): Prop:=(Fs.getD k ⟨λ_ _=>True,λ_ _=>trivial⟩).p v w
theorem fiM.ext{Fs:List SF}{w:World}(h:fiM Fs k v w)(hx:Ext w w'): fiM Fs k v w':=SF.st _ h hx
def OpM(P:Program)(n:Nat)(ops:Array Oper)(al:AL)(w0:World)(ds:List Nat)(Fs:List SF)(i:Nat)(o:Oper): Prop :=
 ∀ vs w1,Ext w0 w1->(∀ k,Iq o k=true->fiM Fs k (vs k) w1)->WL P n ops (toM (PM n (slM vs al ds 0) w1 (ds.getD i 0) (Fs.getD i ⟨λ_ _=>True,λ_ _=>trivial⟩))) [o] (slM vs al ds 0) w1
def GoM(P:Program)(n:Nat)(ops:Array Oper)(al:AL)(w0:World)(ds:List Nat)(Fs:List SF): Nat->Nat->List Oper->Prop
 | 0,_,_=>True
 | _+1,_,[]=>True
 | m+1,i,o::r=>OpM P n ops al w0 ds Fs i o/\GoM P n ops al w0 ds Fs m (i+1) r
theorem GoM.get{w0:World}{ds:List Nat}{Fs:List SF}: ∀ {l:List Oper} {m s i:Nat} {o:Oper},GoM P n ops al w0 ds Fs m s l->i<m->l[i]?=some o->OpM P n ops al w0 ds Fs (s+i) o
 | [],_,_,_,_,_,_,h=>by simp at h
 | x::r,0,_,_,_,_,h0,_=>by omega
 | x::r,m+1,s,0,o,h,_,e=>by
  simp only[List.getElem?_cons_zero,Option.some.injEq]at e;subst e;exact h.1
 | x::r,m+1,s,i+1,o,h,h0,e=>by
  have:=GoM.get h.2 (by omega:i<m) (by simpa using e);grind
def ndB: List Nat->Bool
 | []=>true
 | d::r=>!(r.any λx=>Nat.beq d x) && ndB r
theorem Kr: ∀ {ds:List Nat},ndB ds=true->ds.Nodup
 | [],_=>List.nodup_nil
 | d::r,h=>by
  simp only[ndB,Bool.and_eq_true,Bool.not_eq_true']at h;refine List.nodup_cons.2 ⟨λhm=>?_,Kr h.2⟩;have:=List.any_eq_false.1 h.1 d hm;simp at this
def behB(ops:Array Oper)(F m q:Nat): Bool:=(List.range ops.size).all λi=>Nat.blt i m || (List.range m).all λj=>Nat.beq j q || Zs ops F i j
theorem Jhn(m k i:Nat): (lst m k)[i]?=if i<m then some (Nat.blt i k) else none:=by grind [lst]
theorem Jrj{m q F fuel':Nat}{Fs:List SF}(hml:m<=l.length)(hacc:accB l=true)(hbeh:behB l.toArray F m q=true)(hnd:ndB ds=true)(hlen:ds.length=m)(hfree:∀ d∈ds,lk al d=none)(hop:GoM P n l.toArray al w0 ds Fs m 0 l)(Xn:∀ vs w1,Ext w0 w1->(∀ k,k<m->fiM Fs k (vs k) w1)->WH P n l.toArray Q T fuel' (lst l.length m) (slM vs al ds 0) w1)(hend2:q<m->∀ vs w1,Ext w0 w1->(∀ k,k<m->k≠q->fiM Fs k (vs k) w1)->WH P n l.toArray Q T (fuel'+1) ((lst l.length m).setIfInBounds q false) (slM vs al ds 0) w1):
  ∀(us:List Nat) (listed:Array Bool) (a:Act) (w:World),us.Nodup->(∀ k,k<m->(listed.getD k true=false↔k∈us))->(∀ k,m<=k->k<l.length->listed.getD k true=false)->(∀ k∈us,k<m)->listed.size=l.length->Closed l.toArray listed->Fr n al a->Ext w0 w ->
   (∀ k,k<m->k ∉ us->fiM Fs k (a.tmps.getD (ds.getD k 0) undef) w)->Xl P l.toArray Q T (us.length+fuel') listed a w:=by
 have hN:=Kr hnd;have G:∀ a:Act,Fr n al a->Fr n (slM (λj=>a.tmps.getD (ds.getD j 0) undef) al ds 0) a:=λa ha=>⟨ha.size,ha.defers,λt v h=>by
  by_cases hm:t∈ds
  .obtain⟨j,hj,e⟩:=Jjp hm;rw[<-e,Ya hN hj]at h;grind
  rw[Gn hm]at h;exact ha.has t v h⟩
 intro us;generalize hL:us.length=L
 induction L generalizing us with
 | zero=>
  intro listed a w hu O a4 a1 aa U ha hx hf;have ad:us=[]:=List.length_eq_zero_iff.1 hL;subst ad;have e:listed=lst l.length m:=by
   refine Array.ext_getElem? λi=>?_;rw[Jhn];by_cases hi:i<l.length
   .rw[if_pos hi];have D:i<listed.size:=om
    by_cases a3:i<m
    .have J:=O i a3;have B:listed.getD i true=true:=by grind
     simp[D]at B;simp[D,B,Nat.blt];omega
    have B:=a4 i om hi;simp[D]at B;have h3:Nat.blt i m=false:=by
     cases hh:Nat.blt i m with
     | false=>rfl
     | true=>exact absurd (show i+1<=m by simpa [Nat.blt] using hh) om
    simp[D,B,h3]
   repeat grind
  rw[Nat.zero_add,e];rw[e]at U;exact Xn _ w hx (λk Z=>hf k Z (by simp)) U a (G a ha)
 | succ L ih=>
  intro listed a w hu O a4 a1 aa U ha hx hf;rw[show L+1+fuel'=(L+fuel')+1 by omega];have a7:us≠[]:=by grind
  by_cases hq:us=[q]
  .have ab:q<m:=a1 q (by rw[hq];simp);have ak:L=0:=by grind
   have e:listed=(lst l.length m).setIfInBounds q false:=by
    refine Array.ext_getElem? λi=>?_;by_cases hqi:q=i
    .subst hqi;have J:=(O q ab).2 (by rw[hq];simp);have B:q<listed.size:=om
     simp[B]at J;grind [lst]
    rw[Array.getElem?_setIfInBounds_ne hqi,Jhn];by_cases hi:i<l.length
    .rw[if_pos hi];have D:i<listed.size:=om
     by_cases a3:i<m
     .have J:=O i a3;have B:listed.getD i true=true:=by grind
      simp[D]at B;simp[D,B,Nat.blt];omega
     have B:=a4 i om hi;simp[D]at B;have h3:Nat.blt i m=false:=by
      cases hh:Nat.blt i m with
      | false=>rfl
      | true=>exact absurd (show i+1<=m by simpa [Nat.blt] using hh) om
     simp[D,B,h3]
    repeat grind
   rw[ak,e,show 0+fuel'+1=fuel'+1 by omega];rw[e]at U;exact hend2 ab _ w hx (λk Z av=>hf k Z (by grind)) U a (G a ha)
  obtain⟨k0,ah,ao⟩:∃ k,k∈us/\k≠q:=by
   refine Classical.byContradiction λau=>?_;have G:∀ k∈us,k=q:=by grind
   apply hq
   match us,hu,a7,G with
   | [x],_,_,h=>rw[h x (by simp)]
   | x::y::r,hu,_,h=>
    have J:=h x (by simp);have B:=h y (by simp);grind
  refine⟨λhr=>?_,λi hi=>?_⟩
  .exfalso
   obtain⟨k,Z,an⟩:∃ k,k∈us/\∀ j,j<k->j ∉ us:=by
    have:∀ s k,k∈us->k<s->∃ k,k∈us/\∀ j,j<k->j ∉ us:=by
     intro s;induction s with
     | zero=>intro k _ h;omega
     | succ s ihs=>
      grind
    grind
   have a8:=a1 k Z;have ag:=(O k a8).2 Z;have a9:k<l.length:=om
   have ar:k∈Region.ready .any l.toArray listed:=by
    refine mem_ready.2 ⟨ag,l[k],by simp[a9],λe he hb=>?_⟩;have J:=List.all_eq_true.1 hacc k (List.mem_range.2 a9);have hn:nth l k=some l[k]:=by rw[Qp];simp[a9]
    rw[hn]at J;simp only[Array.all_eq_true_iff_forall_mem,Bool.or_eq_true,Bool.not_eq_true']at J;have B:=(J e he).resolve_left (by rw[hb];simp);have h3:e.on<k:=by(have:e.on+1<=k:=by simpa [Nat.blt] using B);(omega)
    grind
   grind
  obtain⟨ae,o,ho,ap⟩:=mem_ready.1 hi;have ac:l[i]?=some o:=by simpa using ho
  have ai:i<l.length:=by grind
  have a5:i<m:=by
   rcases Nat.lt_or_ge i m with h|h
   .exact h
   exfalso
   have J:=List.all_eq_true.1 hbeh i (List.mem_range.2 (by simpa using ai));simp only[Bool.or_eq_true]at J;have B:=J.resolve_left (by
    intro hh;have:i+1<=m:=by simpa [Nat.blt] using hh
    omega)
   have am:=List.all_eq_true.1 B k0 (List.mem_range.2 (a1 k0 ah));simp only[Bool.or_eq_true]at am;grind [Nat.eq_of_beq_eq_true,Gc,Gb]
  have a3:=(O i a5).1 ae;have hO:=GoM.get hop a5 ac;rw[Nat.zero_add]at hO;have hW:=hO (λj=>a.tmps.getD (ds.getD j 0) undef) w hx λk Z=>by
   unfold Iq at Z;grind
  have J:=Jkq (Q:=Q) (ops:=l.toArray) (by simpa using ac) hW a (G a ha);refine wpOp_mono (λa' w' h=>?_) J;obtain⟨v,a2,a6,hF⟩:=h;have aj:lk ((ds.getD i 0,v)::slM (λj=>a.tmps.getD (ds.getD j 0) undef) al ds 0) (ds.getD i 0)=some v:=Gp _ _ _;have ax:ds.getD i 0∈ds:=by grind
  refine⟨λ_=>a6,ih (us.erase i) (by grind) _ a' w' (hu.erase i) (λk a8=>?_) (λk J B=>?_) (λk Z=>a1 k (hu.mem_erase_iff.1 Z).2) (by simp[aa]) (U.step hi) ?_ (hx.trans a6) λk Z aw=>?_⟩
  .by_cases e:i=k
   .subst e;have:i<listed.size:=om
    simp only[hu.mem_erase_iff];simp[this]
   rw[getD_set_ne true e,O k a8,hu.mem_erase_iff];grind
  .rw[getD_set_ne true om];exact a4 k J B
  .refine⟨a2.size,a2.defers,λt u aq=>?_⟩;have hm:t ∉ ds:=by grind
   exact a2.has t u (by grind [Vn,Gn])
  by_cases e:k=i
  .subst e;rw[a2.has _ _ aj];exact hF
  have af:k ∉ us:=by grind
  have a7:ds.getD i 0≠ds.getD k 0:=λh=>by
   have J:=Ya (vs:=λj=>Value.int .i64 (j:Int)) (al:=[]) (i:=0) hN (j:=i) om;have B:=Ya (vs:=λj=>Value.int .i64 (j:Int)) (al:=[]) (i:=0) hN (j:=k) om;grind
  have h3:=a2.has (ds.getD k 0) _ (by rw[Vn _ _ a7];exact Ya hN om);simp only[Nat.zero_add]at h3;rw[h3];exact(hf k Z af).ext a6
theorem hmkq(m q F fuel':Nat)(ds:List Nat)(Fs:List SF)(hc:(accB l && behB l.toArray F m q && ndB ds && Nat.beq ds.length m && Nat.beq (m+fuel') l.length)=true)(hfree:(ds.all λd=>(lk al d).isNone)=true)(hop:GoM P n l.toArray al w ds Fs m 0 l)(Xn:∀ vs w1,Ext w w1->(∀ k,(hk:k<m:=by decide)->fiM Fs k (vs k) w1)->WH P n l.toArray Q T fuel' (lst l.length m) (slM vs al ds 0) w1)(hend2:q<m->∀ vs w1,Ext w w1->(∀ k,(hk:k<m:=by decide)->(hq:k≠q:=by decide)->fiM Fs k (vs k) w1)->WH P n l.toArray Q T (fuel'+1) ((lst l.length m).setIfInBounds q false) (slM vs al ds 0) w1): WH P n l.toArray Q T l.toArray.size (Array.replicate l.toArray.size false) al w:=λj a D=>by
 simp only[Bool.and_eq_true]at hc;obtain⟨⟨⟨⟨Z,U⟩,O⟩,J⟩,G⟩:=hc;have y:ds.length=m:=Nat.eq_of_beq_eq_true J;have u:m+fuel'=l.length:=Nat.eq_of_beq_eq_true G;have:=Jrj (Q:=Q) (T:=T) (F:=F) (q:=q) (fuel':=fuel') om Z U O y (λd B=>by simpa using List.all_eq_true.1 hfree d B) hop Xn hend2 (List.range m) (Array.replicate l.length false) a w List.nodup_range (λk hk=>?_) (λk _ h=>by simp[h]) (λk hk=>List.mem_range.1 hk) (by simp) (by simpa using j) D (Ext.refl w) λk hk i=>absurd (List.mem_range.2 hk) i
 .grind
 have:k<l.length:=om
 simp[this,hk]
theorem hmk(m F fuel':Nat)(ds:List Nat)(Fs:List SF)(hc:(accB l && behB l.toArray F m m && ndB ds && Nat.beq ds.length m && Nat.beq (m+fuel') l.length)=true)(hfree:(ds.all λd=>(lk al d).isNone)=true)(hop:GoM P n l.toArray al w ds Fs m 0 l)(Xn:∀ vs w1,Ext w w1->(∀ k,(hk:k<m:=by decide)->fiM Fs k (vs k) w1)->WH P n l.toArray Q T fuel' (lst l.length m) (slM vs al ds 0) w1): WH P n l.toArray Q T l.toArray.size (Array.replicate l.toArray.size false) al w :=
 hmkq m m F fuel' ds Fs hc hfree hop Xn λh=>absurd h (Nat.lt_irrefl m)
end
end Go.Wk
namespace Go.Wk
open Go.RowKit
variable {ds r us:List Nat}{l:List Oper}{Fs:List SF}{fuel i j k:Nat}{w0:World}
section
variable {P:Program} {n:Nat} {al:AL} {w:World} {Q:Exit->Act->World->Prop} {ops:Array Oper}
def stgB(l:List Oper)(F:Nat)(st st':Array Bool)(us:List Nat): Bool :=
 Nat.beq st.size l.length && Nat.beq st'.size l.length && ndB us && (us.all λk=>Nat.blt k l.length && !(st.getD k true)) &&
 (us.all λi=>match nth l i with
  | some o=>o.after.all λe=>!Region.binds .any e || (Nat.blt e.on l.length && st.getD e.on true) || (us.any (λj=>Nat.beq j e.on) && Nat.blt e.on i)
  | none=>false) &&
 ((List.range l.length).all λi=>st.getD i true || us.any (λj=>Nat.beq j i) || us.all λj=>Zs l.toArray F i j) &&
 ((List.range l.length).all λi=>st'.getD i true == (st.getD i true || us.any λj=>Nat.beq j i))
def OpS(P:Program)(n:Nat)(ops:Array Oper)(al:AL)(w0:World)(us ds:List Nat)(Fs:List SF)(i:Nat)(o:Oper): Prop :=
 ∀ vs w1,Ext w0 w1->(∀ j,j<us.length->Iq o (us.getD j 0)=true->fiM Fs j (vs j) w1)->WL P n ops (toM (PM n (slM vs al ds 0) w1 (ds.getD i 0) (Fs.getD i ⟨λ_ _=>True,λ_ _=>trivial⟩))) [o] (slM vs al ds 0) w1
def GoS(P:Program)(n:Nat)(l:List Oper)(al:AL)(w0:World)(us ds:List Nat)(Fs:List SF): Nat->List Nat->Prop
 | _,[]=>True
 | i,k::r=>(∀ o,nth l k=some o->OpS P n l.toArray al w0 us ds Fs i o)/\GoS P n l al w0 us ds Fs (i+1) r
theorem GoS.get{w0:World}{l:List Oper}{us ds:List Nat}{Fs:List SF}: ∀ {r:List Nat} {s i:Nat} {o:Oper},GoS P n l al w0 us ds Fs s r->i<r.length->nth l (r.getD i 0)=some o->OpS P n l.toArray al w0 us ds Fs (s+i) o
 | [],_,_,_,_,h,_=>by simp at h
 | x::r,s,0,o,h,_,e=>h.1 o e
 | x::r,s,i+1,o,h,h0,e=>by
  have:=GoS.get h.2 (by simpa using h0:i<r.length) (by simpa using e);rwa [show s+(i+1)=s+1+i by omega]
theorem gsc{o:Oper}(h:∀ vs w1,Ext w0 w1->(∀ j,(hj:j<us.length:=by decide)->(hk:Iq o (us.getD j 0)=true:=by kernel_rfl)->fiM Fs j (vs j) w1)->WL P n l.toArray (toM (PM n (slM vs al ds 0) w1 (ds.getD i 0) (Fs.getD i ⟨λ_ _=>True,λ_ _=>trivial⟩))) [o] (slM vs al ds 0) w1)(h2:GoS P n l al w0 us ds Fs (i+1) r)(ho:nth l k=some o:=by rfl): GoS P n l al w0 us ds Fs i (k::r):=⟨λy u=>by rw[ho]at u;injection u with u;subst u;exact h,h2⟩
theorem gse: GoS P n l al w0 us ds Fs i []:=trivial
theorem Jjm(h:us.Nodup)(hi:i<us.length)(hj:j<us.length)(e:us.getD i 0=us.getD j 0): i=j:=by grind [List.getElem?_eq_getElem,List.pairwise_iff_getElem.1,Nat.lt_trichotomy]
theorem hmkS{T:Nat->Bool}(F fuel':Nat)(st st':Array Bool)(us ds:List Nat)(Fs:List SF)(hc:(stgB l F st st' us && ndB ds && Nat.beq ds.length us.length && Nat.beq (us.length+fuel') fuel)=true)(hfree:(ds.all λd=>(lk al d).isNone)=true)(hop:GoS P n l al w us ds Fs 0 us)(Xn:∀ vs w1,Ext w w1->(∀ j,(hj:j<us.length:=by decide)->fiM Fs j (vs j) w1)->WH P n l.toArray Q T fuel' st' (slM vs al ds 0) w1): WH P n l.toArray Q T fuel st al w:=λa1 a ha=>by
 simp only[Bool.and_eq_true]at hc;obtain⟨⟨⟨h0,h4⟩,h5⟩,h6⟩:=hc;unfold stgB at h0;simp only[Bool.and_eq_true]at h0;obtain⟨⟨⟨⟨⟨⟨c1,c2⟩,c3⟩,c4⟩,c5⟩,c6⟩,c7⟩:=h0;have an:st.size=l.length:=Nat.eq_of_beq_eq_true c1;have az:st'.size=l.length:=Nat.eq_of_beq_eq_true c2;have hU:=Kr c3;have hN:=Kr h4;have hl:ds.length=us.length:=Nat.eq_of_beq_eq_true h5;have aw:us.length+fuel'=fuel:=Nat.eq_of_beq_eq_true h6;have ax:∀ d∈ds,lk al d=none:=λd hd=>by simpa using List.all_eq_true.1 hfree d hd
 have Z:∀ j,j<us.length->us.getD j 0<l.length/\st.getD (us.getD j 0) true=false:=λj hj=>by
  have O:us.getD j 0∈us:=by rw[List.getD_eq_getElem?_getD,List.getElem?_eq_getElem hj];exact List.getElem_mem _
  have:=List.all_eq_true.1 c4 _ O;simp only[Bool.and_eq_true,Bool.not_eq_true']at this;exact⟨by(have h:us.getD j 0+1<=l.length:=by simpa [Nat.blt] using this.1);omega,this.2⟩
 have a4:∀ k,(us.any λj=>Nat.beq j k)=true->∃ j,j<us.length/\us.getD j 0=k:=λk hk=>by
  rw[List.any_eq_true]at hk;obtain⟨u,hu,e⟩:=hk;have e:=Nat.eq_of_beq_eq_true e;subst e;exact Jjp hu
 have a6:∀ a:Act,Fr n al a->Fr n (slM (λj=>a.tmps.getD (ds.getD j 0) undef) al ds 0) a:=λa ha=>⟨ha.size,ha.defers,λt v h=>by
  by_cases O:t∈ds
  .obtain⟨j,hj,e⟩:=Jjp O;rw[<-e,Ya hN hj]at h;simp only[Nat.zero_add,Option.some.injEq]at h;rw[<-e];exact h
  rw[Gn O]at h;exact ha.has t v h⟩
 suffices key:∀(L:Nat) (ps:List Nat) (y:Array Bool) (a:Act) (w1:World),ps.length=L->ps.Nodup->(∀ j∈ps,j<us.length)->(∀ j,j<us.length->(y.getD (us.getD j 0) true=false↔j∈ps))->(∀ k,k<l.length->(∀ j,j<us.length->us.getD j 0≠k)->y.getD k true=st.getD k true)->y.size=l.length->Closed l.toArray y->Fr n al a->Ext w w1 ->
   (∀ j,j<us.length->j ∉ ps->fiM Fs j (a.tmps.getD (ds.getD j 0) undef) w1)->Xl P l.toArray Q T (L+fuel') y a w1 by
  have:=key us.length (List.range us.length) st a w List.length_range List.nodup_range (λj hj=>List.mem_range.1 hj) (λj hj=>⟨λ_=>List.mem_range.2 hj,λ_=>(Z j hj).2⟩) (λk _ _=>rfl) an a1 ha (Ext.refl w) λj hj h=>absurd (List.mem_range.2 hj) h;rwa [aw]at this
 intro L;induction L with
 | zero=>
  intro ps y a w1 hL hu a2 G a5 ac a1 ha hx hf;have ag:ps=[]:=List.length_eq_zero_iff.1 hL;subst ag;have e:y=st':=by
   refine Array.ext_getElem? λi=>?_;by_cases hi:i<l.length
   .have h7:=List.all_eq_true.1 c7 i (List.mem_range.2 hi);rw[beq_iff_eq]at h7;have h8:y.getD i true=st'.getD i true:=by
     rw[h7];by_cases O:∃ j,j<us.length/\us.getD j 0=i
     .obtain⟨j,hj,e⟩:=O;have B:=G j hj;rw[e]at B;have D:y.getD i true=true:=by
       cases hh:y.getD i true with
       | true=>rfl
       | false=>exact absurd (B.1 hh) (by simp)
      rw[D];symm
      rw[Bool.or_eq_true];right
      rw[List.any_eq_true];refine⟨us.getD j 0,?_,by rw[e];simp⟩;rw[List.getD_eq_getElem?_getD,List.getElem?_eq_getElem hj];exact List.getElem_mem _
     have B:∀ j,j<us.length->us.getD j 0≠i:=λj hj e=>O ⟨j,hj,e⟩;rw[a5 i hi B];have D:(us.any λj=>Nat.beq j i)=false:=by
      cases hh:us.any λj=>Nat.beq j i with
      | false=>rfl
      | true=>exact absurd (a4 i hh) O
     rw[D,Bool.or_false]
    have h9:i<y.size:=om
    have am:i<st'.size:=om
    simp[h9,am]at h8;simp[h9,am,h8]
   rw[Array.getElem?_eq_none om,Array.getElem?_eq_none om]
  rw[Nat.zero_add,e];rw[e]at a1;exact Xn _ w1 hx (λj hj=>hf j hj (by simp)) a1 a (a6 a ha)
 | succ L ih=>
  intro ps y a w1 hL hu a2 G a5 ac a1 ha hx hf;rw[show L+1+fuel'=(L+fuel')+1 by omega];have ab:ps≠[]:=λe=>by rw[e]at hL;cases hL
  obtain⟨p0,a3⟩:∃ p,p∈ps:=by
   cases ps with
   | nil=>exact absurd rfl ab
   | cons p r=>exact⟨p,List.mem_cons_self⟩
  refine⟨λhr=>?_,λi hi=>?_⟩
  .exfalso
   obtain⟨p,hp,ah⟩:∃ p,p∈ps/\∀ q∈ps,us.getD p 0<=us.getD q 0:=by
    have:∀ s p,p∈ps->us.getD p 0<s->∃ p,p∈ps/\∀ q∈ps,us.getD p 0<=us.getD q 0:=by
     intro s;induction s with
     | zero=>intro p _ h;omega
     | succ s ihs=>
      intro p hp ae;by_cases h:∃ q,q∈ps/\us.getD q 0<us.getD p 0
      .obtain⟨q,hq,b1⟩:=h;exact ihs q hq om
      exact⟨p,hp,λq hq=>by
       rcases Nat.lt_or_ge (us.getD q 0) (us.getD p 0) with h'|h'
       .exact absurd ⟨q,hq,h'⟩ h
       exact h'⟩
    exact this (us.getD p0 0+1) p0 a3 om
   have J:=a2 p hp;obtain⟨b2,_⟩:=Z p J;have aq:=(G p J).2 hp;have ad:us.getD p 0∈Region.ready .any l.toArray y:=by
    refine mem_ready.2 ⟨aq,l[us.getD p 0],by simp,λe he hb=>?_⟩;have O:us.getD p 0∈us:=by rw[List.getD_eq_getElem?_getD,List.getElem?_eq_getElem J];exact List.getElem_mem _
    have B:=List.all_eq_true.1 c5 _ O;have hn:nth l (us.getD p 0)=some l[us.getD p 0]:=by rw[Qp];simp
    rw[hn]at B;simp only[Array.all_eq_true_iff_forall_mem,Bool.or_eq_true,Bool.not_eq_true',Bool.and_eq_true]at B;have D:=B e he;rw[hb]at D;have h5:y.getD e.on true=true/\e.on<y.size:=by
     rcases D with(D|⟨h3,D⟩)|⟨D,h3⟩
     .cases D
     .have ak:e.on<l.length:=by(have:e.on+1<=l.length:=by simpa [Nat.blt] using h3);omega
      refine⟨?_,om⟩;by_cases hm2:∃ j,j<us.length/\us.getD j 0=e.on
      .obtain⟨j,hj,e2⟩:=hm2;have:=(Z j hj).2;rw[e2,D]at this;cases this
      rw[a5 _ ak λj hj e2=>hm2 ⟨j,hj,e2⟩];exact D
     obtain⟨j,hj,e2⟩:=a4 _ D;have ak:e.on<us.getD p 0:=by(have:e.on+1<=us.getD p 0:=by simpa [Nat.blt] using h3);(omega)
     refine⟨?_,om⟩;cases hh:y.getD e.on true with
     | true=>rfl
     | false=>
      rw[<-e2]at hh;have h6:=(G j hj).1 hh;have:=ah j h6;omega
    have h6:=h5.2;have h7:=h5.1;simp[h6]at h7 ⊢;exact h7
   rw[hr]at ad;cases ad
  obtain⟨a8,o,ho,aj⟩:=mem_ready.1 hi;have aa:l[i]?=some o:=by simpa using ho
  have ai:i<l.length:=(List.getElem?_eq_some_iff.1 aa).1;obtain⟨p,J,ao⟩:∃ j,j<us.length/\us.getD j 0=i:=by
   refine Classical.byContradiction λaf=>?_;have B:=List.all_eq_true.1 c6 i (List.mem_range.2 ai);simp only[Bool.or_eq_true]at B;have D:=a5 i ai λj hj e=>af ⟨j,hj,e⟩;rcases B with(B|B)|B
   .rw[B]at D;rw[D]at a8;cases a8
   .exact af (a4 i B)
   have O:us.getD p0 0∈us:=by rw[List.getD_eq_getElem?_getD,List.getElem?_eq_getElem (a2 p0 a3)];exact List.getElem_mem _
   have h3:=List.all_eq_true.1 B _ O;have h4:=Gc a1 F i (us.getD p0 0) o ho (Gb ho hi) h3;have h5:=(G p0 (a2 p0 a3)).2 a3;have h6:us.getD p0 0<y.size:=by have:=(Z p0 (a2 p0 a3)).1;omega
   generalize us.getD p0 0=k0 at h4 h5 h6
   simp[h6]at h4 h5;rw[h4]at h5;cases h5
  subst ao;have ae:=(G p J).1 a8;have hO:=GoS.get hop J (by rw[Qp];exact aa);rw[Nat.zero_add]at hO;have hW:=hO (λj=>a.tmps.getD (ds.getD j 0) undef) w1 hx λj hj hk=>by
   unfold Iq at hk;rw[Array.any_eq_true']at hk;obtain⟨e,he,B⟩:=hk;simp only[Bool.and_eq_true,beq_iff_eq]at B;have D:=aj e he B.1;rw[B.2]at D;have h3:us.getD j 0<y.size:=by have:=(Z j hj).1;omega
   refine hf j hj λar=>?_;have h4:=(G j hj).2 ar;generalize us.getD j 0=k0 at D h3 h4
   simp[h3]at D h4;rw[D]at h4;cases h4
  have B:=Jkq (Q:=Q) (ops:=l.toArray) (by simpa using aa) hW a (a6 a ha);refine wpOp_mono (λa' w' h=>?_) B;obtain⟨v,U,a7,hF⟩:=h;have ay:lk ((ds.getD p 0,v)::slM (λj=>a.tmps.getD (ds.getD j 0) undef) al ds 0) (ds.getD p 0)=some v:=Gp _ _ _;have av:ds.getD p 0∈ds:=by rw[List.getD_eq_getElem?_getD,List.getElem?_eq_getElem om];exact List.getElem_mem _
  refine⟨λ_=>a7,ih (ps.erase p) _ a' w' (by rw[List.length_erase_of_mem ae,hL];omega) (hu.erase p) (λj hj=>a2 j (hu.mem_erase_iff.1 hj).2) (λj hj=>?_) (λk B D=>?_) (by simp[ac]) (a1.step hi) ?_ (hx.trans a7) λj hj au=>?_⟩
  .by_cases e:p=j
   .subst e;have:us.getD p 0<y.size:=om
    simp only[hu.mem_erase_iff];simp
   rw[getD_set_ne true (λe2=>e (Jjm hU J hj e2)),G j hj,hu.mem_erase_iff];exact⟨λh=>⟨λh'=>e h'.symm,h⟩,λh=>h.2⟩
  .rw[getD_set_ne true (D p J)];exact a5 k B D
  .refine⟨U.size,U.defers,λt u a9=>?_⟩;have O:t ∉ ds:=λO=>by rw[ax t O]at a9;cases a9
   exact U.has t u (by rw[Vn _ _ (λe=>O (by rw[<-e];exact av)),Gn O];exact a9)
  by_cases e:j=p
  .subst e;rw[U.has _ _ ay];exact hF
  have ap:j ∉ ps:=λh=>au (hu.mem_erase_iff.2 ⟨e,h⟩);have ab:ds.getD p 0≠ds.getD j 0:=λh=>e (Jjm hN om om h.symm);have h3:=U.has (ds.getD j 0) _ (by rw[Vn _ _ ab];exact Ya hN om);simp only[Nat.zero_add]at h3;rw[h3];exact(hf j hj ap).ext a7
end
end Go.Wk
namespace Go.Wk
open Go.RowKit
section
variable {P:Program} {n:Nat} {al:AL} {w:World} {Q:Exit->Act->World->Prop} {ops:Array Oper}
def stgQ(l:List Oper)(F q:Nat)(st st':Array Bool)(us:List Nat): Bool :=
 Nat.beq st.size l.length && Nat.beq st'.size l.length && ndB us && (us.all λk=>Nat.blt k l.length && !(st.getD k true)) &&
 (us.all λi=>match nth l i with
  | some o=>o.after.all λe=>!Region.binds .any e || (Nat.blt e.on l.length && st.getD e.on true) || (us.any (λj=>Nat.beq j e.on) && Nat.blt e.on i)
  | none=>false) &&
 ((List.range l.length).all λi=>st.getD i true || us.any (λj=>Nat.beq j i) || us.all λj=>Nat.beq j q || Zs l.toArray F i j) &&
 ((List.range l.length).all λi=>st'.getD i true == (st.getD i true || us.any λj=>Nat.beq j i))
theorem Jlh{T:Nat->Bool}{l:List Oper}(F q fuel':Nat)(st st':Array Bool)(us ds:List Nat)(Fs:List SF){fuel:Nat}(hc:(stgQ l F q st st' us && ndB ds && Nat.beq ds.length us.length && Nat.beq (us.length+fuel') fuel)=true)(hfree:(ds.all λd=>(lk al d).isNone)=true)(hop:GoS P n l al w us ds Fs 0 us)(Xn:∀ vs w1,Ext w w1->(∀ j,(hj:j<us.length:=by decide)->fiM Fs j (vs j) w1)->WH P n l.toArray Q T fuel' st' (slM vs al ds 0) w1)(hend2:q<l.length->∀ vs w1,Ext w w1->(∀ j,(hj:j<us.length:=by decide)->(hq:us.getD j 0≠q:=by decide)->fiM Fs j (vs j) w1)->WH P n l.toArray Q T (fuel'+1) (st'.setIfInBounds q false) (slM vs al ds 0) w1): WH P n l.toArray Q T fuel st al w:=λa1 a ha=>by
 simp only[Bool.and_eq_true]at hc;obtain⟨⟨⟨h0,h4⟩,h5⟩,h6⟩:=hc;unfold stgQ at h0;simp only[Bool.and_eq_true]at h0;obtain⟨⟨⟨⟨⟨⟨c1,c2⟩,c3⟩,c4⟩,c5⟩,c6⟩,c7⟩:=h0;have ar:st.size=l.length:=Nat.eq_of_beq_eq_true c1;have b6:st'.size=l.length:=Nat.eq_of_beq_eq_true c2;have hU:=Kr c3;have hN:=Kr h4;have hl:ds.length=us.length:=Nat.eq_of_beq_eq_true h5;have b2:us.length+fuel'=fuel:=Nat.eq_of_beq_eq_true h6;have b3:∀ d∈ds,lk al d=none:=λd hd=>by simpa using List.all_eq_true.1 hfree d hd
 have U:∀ j,j<us.length->us.getD j 0<l.length/\st.getD (us.getD j 0) true=false:=λj hj=>by
  have O:us.getD j 0∈us:=by rw[List.getD_eq_getElem?_getD,List.getElem?_eq_getElem hj];exact List.getElem_mem _
  have:=List.all_eq_true.1 c4 _ O;simp only[Bool.and_eq_true,Bool.not_eq_true']at this;exact⟨by(have h:us.getD j 0+1<=l.length:=by simpa [Nat.blt] using this.1);omega,this.2⟩
 have a5:∀ k,(us.any λj=>Nat.beq j k)=true->∃ j,j<us.length/\us.getD j 0=k:=λk hk=>by
  rw[List.any_eq_true]at hk;obtain⟨u,hu,e⟩:=hk;have e:=Nat.eq_of_beq_eq_true e;subst e;exact Jjp hu
 have a8:∀ a:Act,Fr n al a->Fr n (slM (λj=>a.tmps.getD (ds.getD j 0) undef) al ds 0) a:=λa ha=>⟨ha.size,ha.defers,λt v h=>by
  by_cases O:t∈ds
  .obtain⟨j,hj,e⟩:=Jjp O;rw[<-e,Ya hN hj]at h;simp only[Nat.zero_add,Option.some.injEq]at h;rw[<-e];exact h
  rw[Gn O]at h;exact ha.has t v h⟩
 suffices key:∀(L:Nat) (ps:List Nat) (B:Array Bool) (a:Act) (w1:World),ps.length=L->ps.Nodup->(∀ j∈ps,j<us.length)->(∀ j,j<us.length->(B.getD (us.getD j 0) true=false↔j∈ps))->(∀ k,k<l.length->(∀ j,j<us.length->us.getD j 0≠k)->B.getD k true=st.getD k true)->B.size=l.length->Closed l.toArray B->Fr n al a->Ext w w1 ->
   (∀ j,j<us.length->j ∉ ps->fiM Fs j (a.tmps.getD (ds.getD j 0) undef) w1)->Xl P l.toArray Q T (L+fuel') B a w1 by
  have:=key us.length (List.range us.length) st a w List.length_range List.nodup_range (λj hj=>List.mem_range.1 hj) (λj hj=>⟨λ_=>List.mem_range.2 hj,λ_=>(U j hj).2⟩) (λk _ _=>rfl) ar a1 ha (Ext.refl w) λj hj h=>absurd (List.mem_range.2 hj) h;rwa [b2]at this
 intro L;induction L with
 | zero=>
  intro ps B a w1 hL hu Z J a6 ae a1 ha hx hf;have am:ps=[]:=List.length_eq_zero_iff.1 hL;subst am;have e:B=st':=by
   refine Array.ext_getElem? λi=>?_;by_cases hi:i<l.length
   .have h7:=List.all_eq_true.1 c7 i (List.mem_range.2 hi);rw[beq_iff_eq]at h7;have h8:B.getD i true=st'.getD i true:=by
     rw[h7];by_cases O:∃ j,j<us.length/\us.getD j 0=i
     .obtain⟨j,hj,e⟩:=O;have D:=J j hj;rw[e]at D;have G:B.getD i true=true:=by
       cases hh:B.getD i true with
       | true=>rfl
       | false=>exact absurd (D.1 hh) (by simp)
      rw[G];symm
      rw[Bool.or_eq_true];right
      rw[List.any_eq_true];refine⟨us.getD j 0,?_,by rw[e];simp⟩;rw[List.getD_eq_getElem?_getD,List.getElem?_eq_getElem hj];exact List.getElem_mem _
     have D:∀ j,j<us.length->us.getD j 0≠i:=λj hj e=>O ⟨j,hj,e⟩;rw[a6 i hi D];have G:(us.any λj=>Nat.beq j i)=false:=by
      cases hh:us.any λj=>Nat.beq j i with
      | false=>rfl
      | true=>exact absurd (a5 i hh) O
     rw[G,Bool.or_false]
    have h9:i<B.size:=om
    have a4:i<st'.size:=om
    simp[h9,a4]at h8;simp[h9,a4,h8]
   rw[Array.getElem?_eq_none om,Array.getElem?_eq_none om]
  rw[Nat.zero_add,e];rw[e]at a1;exact Xn _ w1 hx (λj hj=>hf j hj (by simp)) a1 a (a8 a ha)
 | succ L ih=>
  intro ps B a w1 hL hu Z J a6 ae a1 ha hx hf;by_cases hq0:∀ p∈ps,us.getD p 0=q
  .have b5:L=0:=by
    rcases Nat.eq_zero_or_pos L with h|h
    .exact h
    exfalso
    obtain⟨x,y,r,rfl⟩:∃ x y r,ps=x::y::r:=by
     match ps,hL with
     | [],h'=>simp at h'
     | [x],h'=>simp at h';omega
     | x::y::r,_=>exact⟨x,y,r,rfl⟩
    have D:=hq0 x (by simp);have G:=hq0 y (by simp);have h3:=Jjm hU (Z x (by simp)) (Z y (by simp)) (by rw[D,G]);have:=(List.nodup_cons.1 hu).1;rw[h3]at this;exact this (by simp)
   subst b5;obtain⟨p,rfl⟩:∃ p,ps=[p]:=List.length_eq_one_iff.1 om;have a9:=hq0 p (by simp);have aj:=Z p (by simp);have ag:=(U p aj).1;rw[a9]at ag;have e:B=st'.setIfInBounds q false:=by
    refine Array.ext_getElem? λi=>?_;by_cases hi:i<l.length
    .have h7:=List.all_eq_true.1 c7 i (List.mem_range.2 hi);rw[beq_iff_eq]at h7;have h8:B.getD i true=(st'.setIfInBounds q false).getD i true:=by
      by_cases hiq:i=q
      .have D:=(J p aj).2 (by simp);rw[a9]at D;rw[hiq,D];have:q<st'.size:=om
       simp[this]
      have a4:(st'.setIfInBounds q false).getD i true=st'.getD i true:=by
       have h9:i<st'.size:=om
       simp[h9,Ne.symm hiq]
      rw[a4,h7];by_cases O:∃ j,j<us.length/\us.getD j 0=i
      .obtain⟨j,hj,e⟩:=O;have D:=J j hj;rw[e]at D;have G:B.getD i true=true:=by
        cases hh:B.getD i true with
        | true=>rfl
        | false=>
         have:=List.mem_singleton.1 (D.1 hh);rw[this,a9]at e;exact absurd e.symm hiq
       rw[G];symm
       rw[Bool.or_eq_true];right
       rw[List.any_eq_true];refine⟨us.getD j 0,?_,by rw[e];simp⟩;rw[List.getD_eq_getElem?_getD,List.getElem?_eq_getElem hj];exact List.getElem_mem _
      have D:∀ j,j<us.length->us.getD j 0≠i:=λj hj e=>O ⟨j,hj,e⟩;rw[a6 i hi D];have G:(us.any λj=>Nat.beq j i)=false:=by
       cases hh:us.any λj=>Nat.beq j i with
       | false=>rfl
       | true=>exact absurd (a5 i hh) O
      rw[G,Bool.or_false]
     have h9:i<B.size:=om
     have a4:i<(st'.setIfInBounds q false).size:=by rw[Array.size_setIfInBounds];omega
     rw[Array.getElem?_eq_getElem h9,Array.getElem?_eq_getElem a4];rw[Array.getD,Array.getD,dif_pos h9,dif_pos a4]at h8;exact congrArg some h8
    rw[Array.getElem?_eq_none om,Array.getElem?_eq_none (by rw[Array.size_setIfInBounds];omega)]
   rw[show 0+1+fuel'=fuel'+1 by omega,e];rw[e]at a1;exact hend2 ag _ w1 hx (λj hj hq=>hf j hj (λh=>hq (by rw[List.mem_singleton.1 h];exact a9))) a1 a (a8 a ha)
  obtain⟨p0,a7,ai⟩:∃ p,p∈ps/\us.getD p 0≠q:=by
   refine Classical.byContradiction λh=>hq0 λp hp=>Classical.byContradiction λG=>h ⟨p,hp,G⟩
  rw[show L+1+fuel'=(L+fuel')+1 by omega];refine⟨λhr=>?_,λi hi=>?_⟩
  .exfalso
   obtain⟨p,hp,an⟩:∃ p,p∈ps/\∀ q∈ps,us.getD p 0<=us.getD q 0:=by
    have:∀ s p,p∈ps->us.getD p 0<s->∃ p,p∈ps/\∀ q∈ps,us.getD p 0<=us.getD q 0:=by
     intro s;induction s with
     | zero=>intro p _ h;omega
     | succ s ihs=>
      intro p hp ah;by_cases h:∃ q,q∈ps/\us.getD q 0<us.getD p 0
      .obtain⟨q,hq,b7⟩:=h;exact ihs q hq om
      exact⟨p,hp,λq hq=>by
       rcases Nat.lt_or_ge (us.getD q 0) (us.getD p 0) with h'|h'
       .exact absurd ⟨q,hq,h'⟩ h
       exact h'⟩
    exact this (us.getD p0 0+1) p0 a7 om
   have a2:=Z p hp;obtain⟨b8,_⟩:=U p a2;have ax:=(J p a2).2 hp;have af:us.getD p 0∈Region.ready .any l.toArray B:=by
    refine mem_ready.2 ⟨ax,l[us.getD p 0],by simp,λe he hb=>?_⟩;have O:us.getD p 0∈us:=by rw[List.getD_eq_getElem?_getD,List.getElem?_eq_getElem a2];exact List.getElem_mem _
    have D:=List.all_eq_true.1 c5 _ O;have hn:nth l (us.getD p 0)=some l[us.getD p 0]:=by rw[Qp];simp
    rw[hn]at D;simp only[Array.all_eq_true_iff_forall_mem,Bool.or_eq_true,Bool.not_eq_true',Bool.and_eq_true]at D;have G:=D e he;rw[hb]at G;have h5:B.getD e.on true=true/\e.on<B.size:=by
     rcases G with(G|⟨h3,G⟩)|⟨G,h3⟩
     .cases G
     .have aq:e.on<l.length:=by(have:e.on+1<=l.length:=by simpa [Nat.blt] using h3);omega
      refine⟨?_,om⟩;by_cases hm2:∃ j,j<us.length/\us.getD j 0=e.on
      .obtain⟨j,hj,e2⟩:=hm2;have:=(U j hj).2;rw[e2,G]at this;cases this
      rw[a6 _ aq λj hj e2=>hm2 ⟨j,hj,e2⟩];exact G
     obtain⟨j,hj,e2⟩:=a5 _ G;have aq:e.on<us.getD p 0:=by(have:e.on+1<=us.getD p 0:=by simpa [Nat.blt] using h3);(omega)
     refine⟨?_,om⟩;cases hh:B.getD e.on true with
     | true=>rfl
     | false=>
      rw[<-e2]at hh;have h6:=(J j hj).1 hh;have:=an j h6;omega
    have h6:=h5.2;have h7:=h5.1;simp[h6]at h7 ⊢;exact h7
   rw[hr]at af;cases af
  obtain⟨ab,o,ho,ap⟩:=mem_ready.1 hi;have ad:l[i]?=some o:=by simpa using ho
  have ao:i<l.length:=(List.getElem?_eq_some_iff.1 ad).1;obtain⟨p,a2,au⟩:∃ j,j<us.length/\us.getD j 0=i:=by
   refine Classical.byContradiction λak=>?_;have D:=List.all_eq_true.1 c6 i (List.mem_range.2 ao);simp only[Bool.or_eq_true]at D;have G:=a6 i ao λj hj e=>ak ⟨j,hj,e⟩;rcases D with(D|D)|D
   .rw[D]at G;rw[G]at ab;cases ab
   .exact ak (a5 i D)
   have O:us.getD p0 0∈us:=by rw[List.getD_eq_getElem?_getD,List.getElem?_eq_getElem (Z p0 a7)];exact List.getElem_mem _
   have h3:=List.all_eq_true.1 D _ O;rw[Bool.or_eq_true]at h3;have h3:=h3.resolve_left λh=>ai (Nat.eq_of_beq_eq_true h);have h4:=Gc a1 F i (us.getD p0 0) o ho (Gb ho hi) h3;have h5:=(J p0 (Z p0 a7)).2 a7;have h6:us.getD p0 0<B.size:=by have:=(U p0 (Z p0 a7)).1;omega
   generalize us.getD p0 0=k0 at h4 h5 h6
   simp[h6]at h4 h5;rw[h4]at h5;cases h5
  subst au;have ah:=(J p a2).1 ab;have hO:=GoS.get hop a2 (by rw[Qp];exact ad);rw[Nat.zero_add]at hO;have hW:=hO (λj=>a.tmps.getD (ds.getD j 0) undef) w1 hx λj hj hk=>by
   unfold Iq at hk;rw[Array.any_eq_true']at hk;obtain⟨e,he,D⟩:=hk;simp only[Bool.and_eq_true,beq_iff_eq]at D;have G:=ap e he D.1;rw[D.2]at G;have h3:us.getD j 0<B.size:=by have:=(U j hj).1;omega
   refine hf j hj λay=>?_;have h4:=(J j hj).2 ay;generalize us.getD j 0=k0 at G h3 h4
   simp[h3]at G h4;rw[G]at h4;cases h4
  have D:=Jkq (Q:=Q) (ops:=l.toArray) (by simpa using ad) hW a (a8 a ha);refine wpOp_mono (λa' w' h=>?_) D;obtain⟨v,a3,aa,hF⟩:=h;have b4:lk ((ds.getD p 0,v)::slM (λj=>a.tmps.getD (ds.getD j 0) undef) al ds 0) (ds.getD p 0)=some v:=Gp _ _ _;have b1:ds.getD p 0∈ds:=by rw[List.getD_eq_getElem?_getD,List.getElem?_eq_getElem om];exact List.getElem_mem _
  refine⟨λ_=>aa,ih (ps.erase p) _ a' w' (by rw[List.length_erase_of_mem ah,hL];omega) (hu.erase p) (λj hj=>Z j (hu.mem_erase_iff.1 hj).2) (λj hj=>?_) (λk D G=>?_) (by simp[ae]) (a1.step hi) ?_ (hx.trans aa) λj hj az=>?_⟩
  .by_cases e:p=j
   .subst e;have:us.getD p 0<B.size:=om
    simp only[hu.mem_erase_iff];simp
   rw[getD_set_ne true (λe2=>e (Jjm hU a2 hj e2)),J j hj,hu.mem_erase_iff];exact⟨λh=>⟨λh'=>e h'.symm,h⟩,λh=>h.2⟩
  .rw[getD_set_ne true (G p a2)];exact a6 k D G
  .refine⟨a3.size,a3.defers,λt u ac=>?_⟩;have O:t ∉ ds:=λO=>by rw[b3 t O]at ac;cases ac
   exact a3.has t u (by rw[Vn _ _ (λe=>O (by rw[<-e];exact b1)),Gn O];exact ac)
  by_cases e:j=p
  .subst e;rw[a3.has _ _ b4];exact hF
  have aw:j ∉ ps:=λh=>az (hu.mem_erase_iff.2 ⟨e,h⟩);have av:ds.getD p 0≠ds.getD j 0:=λh=>e (Jjm hN om om h.symm);have h3:=a3.has (ds.getD j 0) _ (by rw[Vn _ _ av];exact Ya hN om);simp only[Nat.zero_add]at h3;rw[h3];exact(hf j hj aw).ext aa
end
end Go.Wk
namespace Go.Proofs.YtebiphhfkdbpfaaGreatDoor
structure PR where
 neg: Bool
 num:Nat
 den:Nat
deriving DecidableEq
def PR.norm(a:PR): PR:=if a.num=0∨a.den=0 then⟨a.neg && a.num != 0,a.num,1⟩ else⟨a.neg,a.num / Nat.gcd a.num a.den,a.den / Nat.gcd a.num a.den⟩
def PR.int(z:Int): PR:=⟨decide (z<0),z.natAbs,1⟩
def PR.sign(a:PR): Int:=if a.num=0 then 0 else if a.neg then -1 else 1
def PR.dvs(a:PR): Nat:=if a.den=0 then 1 else a.den
def PR.cmp(a b:PR): Int:=if a.sign≠b.sign then(if a.sign<b.sign then -1 else 1) else a.sign*(if a.num*b.dvs<b.num*a.dvs then -1 else if a.num*b.dvs=b.num*a.dvs then 0 else 1)
def PR.opp(a:PR): PR:=PR.norm ⟨!a.neg,a.num,a.den⟩
def PR.addN(a b:PR): PR:=if a.neg=b.neg then PR.norm ⟨a.neg,a.num*b.den+b.num*a.den,a.den*b.den⟩ else if b.num*a.den<=a.num*b.den then PR.norm ⟨a.neg,a.num*b.den-b.num*a.den,a.den*b.den⟩ else PR.norm ⟨b.neg,b.num*a.den-a.num*b.den,a.den*b.den⟩
def PR.add(a b:PR): PR:=PR.addN a.norm b.norm
def PR.sub(a b:PR): PR:=PR.add a b.opp
def PR.mulN(a b:PR): PR:=PR.norm ⟨a.neg != b.neg,a.num*b.num,a.den*b.den⟩
def PR.mul(a b:PR): PR:=PR.mulN a.norm b.norm
def PR.div(a b:PR): PR:=if b.norm.num=0 then⟨false,0,0⟩ else PR.mul a ⟨b.norm.neg,b.norm.den,b.norm.num⟩
def pr0: PR:=⟨false,0,1⟩
def PR.val(a:PR): Rat:=(if a.neg then -(a.num:Rat) else(a.num:Rat)) / (a.den:Rat)
theorem Vj{n:Nat}(h:n≠0): (n:Rat)≠0:=by
 intro e;exact h (Rat.natCast_inj.1 e)
theorem PR.norm_val{a:PR}(hd:a.den≠0): a.norm.val=a.val/\a.norm.den≠0:=by
 unfold PR.norm;by_cases h:a.num=0
 .rw[if_pos (.inl h)];refine⟨?_,by simp⟩;simp only[PR.val,h];have:=Vj hd;have z:((0:Nat):Rat)=0:=rfl;split<;>split<;>grind
 rw[if_neg om];have B:0<Nat.gcd a.num a.den:=Nat.gcd_pos_of_pos_left _ om;obtain⟨x,u⟩:=Nat.gcd_dvd_left a.num a.den;obtain⟨y,j⟩:=Nat.gcd_dvd_right a.num a.den;generalize Nat.gcd a.num a.den=g at *
 have G:a.num / g=x:=by rw[u];exact Nat.mul_div_cancel_left x B
 have D:a.den / g=y:=by rw[j];exact Nat.mul_div_cancel_left y B
 have i:y≠0:=λe=>hd (by rw[j,e,Nat.mul_zero]);refine⟨?_,by simp only;rw[D];exact i⟩;simp only[PR.val];rw[G,D,u,j,Rat.natCast_mul,Rat.natCast_mul];have:=Vj i;have:=Vj (show g≠0 by omega);split<;>grind
theorem PR.opp_val{a:PR}(hd:a.den≠0): a.opp.val = -a.val/\a.opp.den≠0:=by
 have h:=PR.norm_val (a:=⟨!a.neg,a.num,a.den⟩) hd;refine⟨?_,h.2⟩;unfold PR.opp;rw[h.1];have:=Vj hd;simp only[PR.val];cases a.neg<;>simp<;>grind
theorem PR.addN_val{a b:PR}(ha:a.den≠0)(hb:b.den≠0): (PR.addN a b).val=a.val+b.val/\(PR.addN a b).den≠0:=by
 have i:a.den*b.den≠0:=Nat.mul_ne_zero ha hb;have D:=Vj ha;have B:=Vj hb;unfold PR.addN;by_cases e:a.neg=b.neg
 .rw[if_pos e];have h:=PR.norm_val (a:=⟨a.neg,a.num*b.den+b.num*a.den,a.den*b.den⟩) i;refine⟨?_,h.2⟩;rw[h.1];simp only[PR.val,<-e];rw[Rat.natCast_mul,Rat.natCast_add,Rat.natCast_mul,Rat.natCast_mul];split<;>grind
 rw[if_neg e];by_cases e2:b.num*a.den<=a.num*b.den
 .rw[if_pos e2];have h:=PR.norm_val (a:=⟨a.neg,a.num*b.den-b.num*a.den,a.den*b.den⟩) i;refine⟨?_,h.2⟩;rw[h.1];obtain⟨d,j⟩:=Nat.le.dest e2;have u:a.num*b.den-b.num*a.den=d:=om
  have y:(a.num:Rat)*b.den=b.num*a.den+d:=by rw[<-Rat.natCast_mul,<-j,Rat.natCast_add,Rat.natCast_mul]
  simp only[PR.val,u];rw[Rat.natCast_mul];cases hna:a.neg<;>cases hnb:b.neg<;>simp[hna,hnb]at e ⊢<;>grind
 rw[if_neg e2];have h:=PR.norm_val (a:=⟨b.neg,b.num*a.den-a.num*b.den,a.den*b.den⟩) i;refine⟨?_,h.2⟩;rw[h.1];obtain⟨d,j⟩:=Nat.le.dest (Nat.le_of_lt (Nat.lt_of_not_le e2));have u:b.num*a.den-a.num*b.den=d:=om
 have y:(b.num:Rat)*a.den=a.num*b.den+d:=by rw[<-Rat.natCast_mul,<-j,Rat.natCast_add,Rat.natCast_mul]
 simp only[PR.val,u];rw[Rat.natCast_mul];cases hna:a.neg<;>cases hnb:b.neg<;>simp[hna,hnb]at e ⊢<;>grind
theorem PR.add_val{a b:PR}(ha:a.den≠0)(hb:b.den≠0): (PR.add a b).val=a.val+b.val/\(PR.add a b).den≠0:=by
 have j:=PR.norm_val ha;have i:=PR.norm_val hb;have h:=PR.addN_val j.2 i.2;exact⟨by rw[PR.add,h.1,j.1,i.1],h.2⟩
theorem PR.sub_val{a b:PR}(ha:a.den≠0)(hb:b.den≠0): (PR.sub a b).val=a.val-b.val/\(PR.sub a b).den≠0:=by
 have i:=PR.opp_val hb;have h:=PR.add_val ha i.2;exact⟨by rw[PR.sub,h.1,i.1];grind,h.2⟩
theorem PR.mulN_val{a b:PR}(ha:a.den≠0)(hb:b.den≠0): (PR.mulN a b).val=a.val*b.val/\(PR.mulN a b).den≠0:=by
 have h:=PR.norm_val (a:=⟨a.neg != b.neg,a.num*b.num,a.den*b.den⟩) (Nat.mul_ne_zero ha hb);refine⟨?_,h.2⟩;unfold PR.mulN;rw[h.1];have j:=Vj ha;have i:=Vj hb;simp only[PR.val];rw[Rat.natCast_mul,Rat.natCast_mul];cases a.neg<;>cases b.neg<;>simp<;>grind
theorem PR.mul_val{a b:PR}(ha:a.den≠0)(hb:b.den≠0): (PR.mul a b).val=a.val*b.val/\(PR.mul a b).den≠0:=by
 have j:=PR.norm_val ha;have i:=PR.norm_val hb;have h:=PR.mulN_val j.2 i.2;exact⟨by rw[PR.mul,h.1,j.1,i.1],h.2⟩
theorem PR.sign_val{a:PR}(ha:a.den≠0): (a.sign<0↔a.val<0)/\(a.sign=0↔a.val=0)/\(0<a.sign↔0<a.val):=by
 have u:(0:Rat)<a.den:=by
  have:0<a.den:=om
  exact Rat.natCast_pos.2 this
 unfold PR.sign PR.val;by_cases e:a.num=0
 .rw[if_pos e,e];have:(if a.neg=true then -((0:Nat):Rat) else((0:Nat):Rat)) / a.den=0:=by split<;>grind
  rw[this];refine⟨?_,?_,?_⟩<;>grind
 rw[if_neg e];have j:(0:Rat)<a.num:=Rat.natCast_pos.2 om;have y:(0:Rat)<a.num / a.den:=by
  rw[Rat.div_def];exact Rat.mul_pos j (Rat.inv_pos.2 u)
 cases a.neg
 .simp only[Bool.false_eq_true,if_false];refine⟨?_,?_,?_⟩<;>grind
 simp only[if_true];have i:-(a.num:Rat) / a.den = -(a.num / a.den):=by grind
 rw[i];refine⟨?_,?_,?_⟩<;>grind
theorem PR.div_val{a b:PR}(ha:a.den≠0)(hb:b.den≠0)(h0:b.val≠0): (PR.div a b).val=a.val / b.val/\(PR.div a b).den≠0:=by
 have i:=PR.norm_val hb;have hn:b.norm.num≠0:=λe=>h0 (by
  rw[<-i.1];have:=Vj i.2;simp only[PR.val,e];split<;>grind)
 unfold PR.div;rw[if_neg hn];have h:=PR.mul_val (a:=a) (b:=⟨b.norm.neg,b.norm.den,b.norm.num⟩) ha hn;refine⟨?_,h.2⟩;rw[h.1,<-i.1];have:=Vj i.2;have:=Vj hn;simp only[PR.val];cases b.norm.neg<;>simp<;>grind
structure PT where
 n: Nat
 m:Nat
 rows:List (List PR)
 goal:List PR
 basis:List Nat
deriving DecidableEq
def PT.right(t:PT): Nat:=t.n+t.m+1
def Xh(row other:List PR)(f:PR): List PR:=if f.sign=0 then row else List.zipWith (λa b=>if b.sign≠0 then PR.sub a (PR.mul f b) else a) row other
def dvR(row:List PR)(d:PR): List PR:=row.map λa=>if a.sign≠0 then PR.div a d else a
def PT.pivot(t:PT)(r c:Nat): PT :=
 let p:=dvR (t.rows.getD r []) ((t.rows.getD r []).getD c pr0)
 ⟨t.n,t.m,(t.rows.mapIdx λi row=>if i=r then p else Xh row p (row.getD c pr0)),Xh t.goal p (t.goal.getD c pr0),t.basis.set r c⟩
def lvS(t:PT)(c:Nat): Nat->Option (Nat×PR)
 | 0=>none
 | i+1=>
  let row:=t.rows.getD i []
  if(row.getD c pr0).sign<=0 then lvS t c i
  else
   let q:=PR.div (row.getD t.right pr0) (row.getD c pr0)
   match lvS t c i with
   | none=>some (i,q)
   | some (b,least)=>if PR.cmp q least<0∨(PR.cmp q least=0/\t.basis.getD i 0<t.basis.getD b 0) then some (i,q) else some (b,least)
def PT.leaving(t:PT)(c:Nat): Option Nat:=(lvS t c t.rows.length).map (·.1)
def PT.enter(t:PT)(cols:Nat): Option Nat:=(List.range cols).find? λj=>decide ((t.goal.getD j pr0).sign<0)
def PT.maxim(cols:Nat): Nat->PT->Option PT
 | 0,_=>none
 | k+1,t=>match t.enter cols with
  | none=>some t
  | some j=>match t.leaving j with
   | none=>none
   | some r=>PT.maxim cols k (t.pivot r j)
def PT.ofP(n:Nat)(A:List (List PR)): PT :=
 ⟨n,A.length,A.mapIdx λi a=>a++(List.range A.length).map (λk=>if k=i then PR.int 1 else pr0)++[PR.int (-1),PR.int 1],(List.replicate n (PR.int (-1)))++List.replicate (A.length+2) pr0,(List.range A.length).map (n + ·)⟩
def PT.point(t:PT): List PR:=(List.range t.n).map λv=>match(List.range t.basis.length).reverse.find? λi=>t.basis.getD i 0 == v with
 | none=>pr0
 | some i=>(t.rows.getD i []).getD t.right pr0
def PT.dual(t:PT): List PR:=(t.goal.drop t.n).take t.m
def Jv(N set:Nat): List Nat:=(List.range N).filter λv=>set.testBit v
def Jd(E:List Nat)(set:Nat): Nat->List Nat
 | 0=>[]
 | i+1=>let p:=(E.getD i 0) &&& set
  if p=0∨(List.range i).any (λk=>(E.getD k 0) &&& set == p) then Jd E set i else Jd E set i++[i]
def Zf(N:Nat)(E:List Nat)(set:Nat): List (List PR):=(Jd E set E.length).map λi=>(Jv N set).map λv=>PR.int (((E.getD i 0) &&& set).testBit v).toNat
structure PC where
 ws: List PR
 ps:List PR
 val:PR
deriving DecidableEq
def Yq(l:List PR)(is:List Nat)(xs:List PR): List PR:=(is.zip xs).foldl (λl p=>l.set p.1 p.2) l
def cvr(fuel N:Nat)(E:List Nat)(set:Nat): Option PC:=(PT.maxim ((Jv N set).length+(Jd E set E.length).length) fuel (PT.ofP (Jv N set).length (Zf N E set))).map λt=>⟨Yq (List.replicate E.length pr0) (Jd E set E.length) t.dual,Yq (List.replicate N pr0) (Jv N set) t.point,t.goal.getD t.right pr0⟩
def dnm(ws:List PR): Nat:=ws.foldl (λd w=>d / Nat.gcd d w.norm.den*w.norm.den) 1
def Yx(ws:List PR)(sizes:List Nat)(d:Nat): Nat:=(ws.zip sizes).foldl (λr p=>r*p.2^(PR.norm (PR.mul p.1 (PR.norm ⟨false,d,0⟩))).num) 1
end Go.Proofs.YtebiphhfkdbpfaaGreatDoor
