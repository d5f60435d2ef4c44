/- Part 3. -/
import Derived.Test.YtgobkbeokaaplaaGreatDoorD02
import Derived.Laws.CopyRow
import Derived.Maps.RangeWalk
set_option linter.unusedVariables false
set_option maxRecDepth 100000
set_option maxHeartbeats 40000000
namespace Go.Wk
open Go.RowKit
variable {a:Act}{cs us:List Value}{g j m n o:Nat}{i x y:Operand}{p:Option Addr}{k:TK}{e t t2:TypeId}{u v:Value}{w:World}
section
variable {N:Nat->Prop} {P:Program} {n:Nat} {al:AL} {w:World} {Q:Exit->Act->World->Prop} {ops:Array Oper} {rest:List Oper} {drest:List (Nat×Oper)}
variable {d ty:Nat} {op:Op} {pos:String} {aft:Array Edge} {tt:TT}
theorem Jtd(hT:TOk P tt)(ht:tk tt t=some k)(hk:k.desc=.pointer e)(ha:Fr n al a)(hx:ev al x=some (.pointer p))(dst:Option Nat)(w:World):
  (execOp a.eval ⟨dst,.binOp .eql t x (.const (.pointer none)) t2,ty,pos,aft,none⟩).run P w=.ok (.value (.bool p.isNone)) w:=by
 have i:=Yw hT ht hk rfl;have h:∀ d:Nat,(Op.equalIn (d+1) t (.pointer p) (.pointer none)).run P w=.ok p.isNone w:=λd=>by cases p<;>simp[Op.equalIn,run_underlying i]
 have j:a.eval (.const (.pointer none))=.pointer none:=rfl;simp[execOp,ha.ev hx,j,eqGuard,binOp,Op.equal,Op.maxDepth,h 9999]
theorem Jtc(hT:TOk P tt)(ht:tk tt t=some k)(hk:k.desc=.pointer e)(ha:Fr n al a)(hx:ev al x=some (.pointer p))(dst:Option Nat)(w:World):
  (execOp a.eval ⟨dst,.binOp .neq t x (.const (.pointer none)) t2,ty,pos,aft,none⟩).run P w=.ok (.value (.bool (!p.isNone))) w:=by
 have i:=Yw hT ht hk rfl;have h:∀ d:Nat,(Op.equalIn (d+1) t (.pointer p) (.pointer none)).run P w=.ok p.isNone w:=λd=>by cases p<;>simp[Op.equalIn,run_underlying i]
 have j:a.eval (.const (.pointer none))=.pointer none:=rfl;simp[execOp,ha.ev hx,j,eqGuard,binOp,Op.equal,Op.maxDepth,h 9999]
theorem pnl[h:Tab P tt](kk:WL P n ops Q rest ((d,.bool p.isNone)::al) w)(ht:tk tt t=some k:=by rfl)(hk:k.desc=.pointer e:=by rfl)(hx:ev al x=some (.pointer p):=by rfl)(hd:Nat.blt d n=true:=by rfl):
  WL P n ops Q (⟨some d,.binOp .eql t x (.const (.pointer none)) t2,ty,pos,aft,none⟩::rest) al w:=wop hd (λa i=>Jtd h.ok ht hk i hx (some d) w) kk
theorem dpnl[h:Tab P tt](kk:WD P n ops Q drest ((d,.bool p.isNone)::al) w)(ht:tk tt t=some k:=by rfl)(hk:k.desc=.pointer e:=by rfl)(hx:ev al x=some (.pointer p):=by rfl)(hd:Nat.blt d n=true:=by rfl):
  WD P n ops Q ((0,⟨some d,.binOp .eql t x (.const (.pointer none)) t2,ty,pos,aft,none⟩)::drest) al w:=dy (λw' _ a i=>Jtd h.ok ht hk i hx (some d) w') hd kk
theorem pnn[h:Tab P tt](kk:WL P n ops Q rest ((d,.bool (!p.isNone))::al) w)(ht:tk tt t=some k:=by rfl)(hk:k.desc=.pointer e:=by rfl)(hx:ev al x=some (.pointer p):=by rfl)(hd:Nat.blt d n=true:=by rfl):
  WL P n ops Q (⟨some d,.binOp .neq t x (.const (.pointer none)) t2,ty,pos,aft,none⟩::rest) al w:=wop hd (λa i=>Jtc h.ok ht hk i hx (some d) w) kk
theorem dpnn[h:Tab P tt](kk:WD P n ops Q drest ((d,.bool (!p.isNone))::al) w)(ht:tk tt t=some k:=by rfl)(hk:k.desc=.pointer e:=by rfl)(hx:ev al x=some (.pointer p):=by rfl)(hd:Nat.blt d n=true:=by rfl):
  WD P n ops Q ((0,⟨some d,.binOp .neq t x (.const (.pointer none)) t2,ty,pos,aft,none⟩)::drest) al w:=dy (λw' _ a i=>Jtc h.ok ht hk i hx (some d) w') hd kk
theorem nixa[h:Tab P tt]{t e:Nat}{p:Addr}{kd:IntKind}{z:Int}(j:Nat)(hlt:j<m)(kk:WN N P n ops Q drest ((d,.pointer (some (p.add (j*k.esz))))::al) w)(ht:tk tt t=some k:=by rfl)(hk:k.desc=.array m e:=by rfl)(hx:ev al x=some (.pointer (some p)):=by rfl)(hi:ev al i=some (.int kd z):=by rfl)(hj:z=(j:Int):=by first|rfl|omega)(hd:Nat.blt d n=true:=by rfl): WN N P n ops Q ((0,⟨some d,.indexAddr t x i,ty,pos,aft,none⟩)::drest) al w :=
 ny_ (λw' _ a u=>Jbc h.ok j ht hk hlt u hx hi hj (some d) w') hd kk
theorem stB[h:Tab P tt]{t bt:Nat}{p:Addr}(hb:Blk w g bt cs)(ho:o+us.length<=cs.length)(h1:∀ u∈us,u.oneCell'=true)(kk:∀ w1,Blk w1 g bt (cs.take o++us++cs.drop (o+us.length))->w.grownBy w1 (some g)->WL P n ops Q rest al w1)(ht:tk tt t=some k:=by rfl)(hk:k.desc=.invalid:=by rfl)(hs:k.size=us.length:=by rfl)(hx:ev al x=some (.pointer (some p)):=by rfl)(hp:p=⟨g,o,none⟩:=by rfl)(hy:ev al y=some (.agg us.toArray):=by rfl):
  WL P n ops Q (⟨none,.store t x y,ty,pos,aft,none⟩::rest) al w:=by
 subst hp;have G:=Jqq w g (cs.take o++us++cs.drop (o+us.length)).toArray;have i:=run_storeCells_at (P:=P) g o bt us 0 cs.toArray w hb (by simpa using ho) h1;simp only[Nat.add_zero]at i;refine Jjl (λa D=>?_) (kk (w.setRow g (cs.take o++us++cs.drop (o+us.length)).toArray) (setRow_heap w g _ _ _ _ hb) G);have j:=Yj w (Jxm h.ok ht hk w).2;simp[execOp,D.ev hx,D.ev hy,Instr.storeAt,Instr.sureAddr,storeVar,Value.cells,j,hs,i]
end
theorem Jpp{P:Program}{al:AL}{Q Q':Exit->Act->World->Prop}{ops:Array Oper}{α β:Type}{d:Code}{l:List Oper}(fr:α->β->AL)(I:α->β->World->Prop)(h1:WL P n ops (Exit.then (λa w=>∃ x y,Fr n (fr x y) a/\I x y w) Q) l al w)(h2:∀ x y w,I x y w->WC P n d Q' (fr x y) w): WL P n ops (Exit.then (d.wp P Q') Q) l al w:=by
 intro a j;refine Jyl ?_ l a w (h1 a j);intro e G w' i;cases e with
 | normal=>obtain⟨x,y,D,u⟩:=i;exact h2 x y w' u G D
 | exit id=>exact i
 | goto l=>exact i
 | ret=>exact i
 | panic c=>exact i
 | outgrown=>exact i
theorem seg2(h:o+2<=cs.length): cs.take o++[u,v]++cs.drop (o+2)=(cs.set o u).set (o+1) v:=by
 apply List.ext_getElem?
 intro i;rw[List.getElem?_set,List.getElem?_set,List.append_assoc];grind
theorem Blk.sub(h:Blk w g t cs){i:Nat}(hv:cs[i+j]?=some v): w.cell? ((⟨g,i,none⟩:Addr).add j)=some v:=by rw[Yc,h.cell];exact hv
end Go.Wk
namespace Go.Proofs.YtgobkbeokaaplaaGreatDoor
open Go.RowKit Pl Go.Wk
attribute [local irreducible] WC WL QX WD WDB WP WN
variable {d k:Nat}
def itC(A:Option Addr)(d L p e:Nat)(f h:Nat->Nat)(st:Int): List Value:=[.slice A d d,.int .i64 (L:Int),.int .i64 (p:Int),.int .i64 (e:Int)]++Zu 32 (λk=>.int .i64 (f k:Int)) (λk=>.int .i64 (h k:Int))++[.int .i64 st]
theorem Jcc(A:Option Addr)(d L p e:Nat)(f h:Nat->Nat)(st:Int): (itC A d L p e f h st).length=69:=by grind [itC,List.length_append,Vt]
theorem Jlk(A:Option Addr)(d L p e:Nat)(f h:Nat->Nat)(st:Int): (itC A d L p e f h st)[68]?=some (.int .i64 st):=by grind [itC,List.getElem?_append_right,List.length_append,Vt]
theorem Qst(A:Option Addr)(d L p e:Nat)(f h:Nat->Nat)(st st':Int): (itC A d L p e f h st).set 68 (.int .i64 st')=itC A d L p e f h st':=by
 unfold itC;rw[List.set_append_right _ _ (by rw[List.length_append,Vt];simp),List.length_append,Vt];rfl
theorem Qsw(A:Option Addr)(d L p e:Nat)(f h:Nat->Nat)(st:Int)(hk:k<32): (itC A d L p e f h st)[4+k*2]?=some (.int .i64 (f k:Int))/\(itC A d L p e f h st)[4+k*2+1]?=some (.int .i64 (h k:Int)):=by grind [Kj,itC,List.getElem?_append_left,List.length_append,Vt,List.getElem?_append_right]
theorem Jrg(f:Nat->Nat)(k x:Nat): (λj=>Value.int .i64 ((upd f k x j:Nat):Int))=upd (λj=>Value.int .i64 (f j:Int)) k (.int .i64 (x:Int)):=by
 funext j;unfold upd;split<;>rfl
theorem Qsv(A:Option Addr)(d L p e:Nat)(f h:Nat->Nat)(st:Int)(hk:k<32)(x y:Nat): ((itC A d L p e f h st).set (4+k*2) (.int .i64 (x:Int))).set (4+k*2+1) (.int .i64 (y:Int))=itC A d L p e (upd f k x) (upd h k y) st:=by
 unfold itC;have j:∀(X:List Value),([Value.slice A d d,.int .i64 (L:Int),.int .i64 (p:Int),.int .i64 (e:Int)]++X).set (4+k*2) (.int .i64 (x:Int))=[Value.slice A d d,.int .i64 (L:Int),.int .i64 (p:Int),.int .i64 (e:Int)]++X.set (k*2) (.int .i64 (x:Int)):=λX=>by grind
 have i:∀(X:List Value),([Value.slice A d d,.int .i64 (L:Int),.int .i64 (p:Int),.int .i64 (e:Int)]++X).set (4+k*2+1) (.int .i64 (y:Int))=[Value.slice A d d,.int .i64 (L:Int),.int .i64 (p:Int),.int .i64 (e:Int)]++X.set (k*2+1) (.int .i64 (y:Int)):=λX=>by grind
 rw[List.set_append_left _ _ (by grind [List.length_append,Vt]),j,Qzs _ _ _ hk,List.set_append_left _ _ (by grind [List.length_append,Vt]),i,Qzr _ _ _ hk,Jrg,Jrg]
abbrev ItB(w:World)(g:Nat)(A:Option Addr)(d L p e:Nat)(f h:Nat->Nat)(st:Int): Prop:=Blk w g 340 (itC A d L p e f h st)
def TriA(w:World)(A:Option Addr)(d:Nat)(rs:List Row): Prop:=∃(vv fv:Nat->Value) (fs:Nat->List Nat),Rd w 2 A d (Zu d vv fv)/\(∀ l,l<d->∃ B c,vv l=.slice B (lvl rs l).length c/\RdR w B (lvl rs l)) /\
 (∀ l,l<d->∃ B c,fv l=.slice B (fs l).length c/\Rd w 1 B (fs l).length (Je (nz (fs l))))/\∀ l,l+1<d->Chl rs l (fs l)
theorem TriV.a{w:World}{A:Option Addr}{rs:List Row}(h:TriV w (.agg #[.slice A d d]) d rs): TriA w A d rs:=by
 obtain⟨u,vv,fv,fs,i,j⟩:=h;injection i with i
 have:Value.slice A d d=.slice u d d:=by simpa using i
 injection this with i
 subst i;exact⟨vv,fv,fs,j⟩
theorem TriA.ext{w w':World}{A:Option Addr}{d:Nat}{rs:List Row}(h:TriA w A d rs)(hx:Ext w w'): TriA w' A d rs:=by
 obtain⟨vv,fv,fs,u,G,D,j⟩:=h;refine⟨vv,fv,fs,u.ext hx,λl i=>?_,λl i=>?_,j⟩;repeat grind [Rd.ext]
section
variable {w:World} {g:Nat} {A:Option Addr} {d L p e:Nat} {f h:Nat->Nat} {st:Int}
theorem Jzf(hB:ItB w g A d L p e f h st): Ret Tryz.prog 253 [.pointer (some ⟨g,0,none⟩)] w λu w'=>u=.bool (decide (0<L/\p<e))/\Ext w w':=by
 refine enE Tryz.func253 Tryz.ntmps253 ?_;refine drR (scq 23 []) ?_;have D:Ext w w.drew:=(Ext.refl w).drew;have j:=hB.ext D;refine ρd ?_;refine dpnn ?_;refine Jz (j.at (i:=1) rfl) ?_;refine ρd ?_;refine dki 12 (λG=>?_) (λG=>?_)
 .have J:0<L:=by have:=oT G;omega
  refine Jz (j.at (i:=2) rfl) ?_;refine Jz (j.at (i:=3) rfl) ?_;refine ρd ?_;refine ρ ?_;refine Jj ⟨?_,D⟩;congr 1
  grind
 have J:¬ 0<L:=by have:=oF G;omega
 refine ρd ?_;refine ρ ?_;refine Jj ⟨?_,D⟩;grind
end
open Go.RowKit Pl Go.Wk
variable {qi:Int}{j k q:Nat}
theorem Gj: Qr Tryz.prog 147=some V0.val:=kr
section
variable {w:World} {g:Nat} {A:Option Addr} {d L p e:Nat} {f h:Nat->Nat} {st:Int} {rs:List Row}
theorem Qxt(hB:ItB w g A d L p e f h st)(hT:TriA w A d rs)(hL:0<L)(hLd:L<=d)(hd:d<=32)(hq:q<(lvl rs (L-1)).length)(hqi:qi=(q:Int)): Ret Tryz.prog 256 [.pointer (some ⟨g,0,none⟩),.int .i64 qi] w λu w'=>u=((lvl rs (L-1)).getD q V0).val/\Ext w w':=by
 subst hqi;obtain⟨vv,fv,fs,hR,hv,hf,hc⟩:=hT;have Z:L-1<d:=om
 obtain⟨B,c,a3,a5⟩:=hv (L-1) Z;refine enE Tryz.func256 Tryz.ntmps256 ?_;refine Jv (cs:=V0.cells) Gj ?_;intro w1 b a2 hb a6;refine ρ ?_;refine drN (λ_=>False) 4 (scq 17 [116]) kr ?_;have D:=a2.drew;have O:=hB.ext D;have J:=hR.ext D;have G:RdR _ B (lvl rs (L-1)):=Rd.ext a5 D;have a4:w1.drew.cell? ((adr A ((L-1)*2)).add 0)=some (vv (L-1)):=by rw[add_zero];exact J.cell (Kj d vv fv Z).1
 refine ρn ?_;refine nld (Jr (O.at (i:=0) rfl) (λe=>e)) ?_;refine ρn ?_;refine nld (Jr (O.at (i:=1) rfl) (λe=>e)) ?_;refine ρn ?_;refine Yr 2 (L-1) J Z ?_;refine ρn ?_;refine nld (Jr a4 (λe=>e)) ?_;rw[a3];refine ρn ?_;refine Yr 3 q G hq ?_;refine ρn ?_;refine Xs (cs:=((lvl rs (L-1)).getD q V0).cells) (λw' hg j u hu=>RdR.cell (Rd.ext G hg.toExt) hq hu) ?_;refine ρn ?_;refine Xm ?_;refine stb (cs':=((lvl rs (L-1)).getD q V0).cells) (a6.ext (Ext.refl w1).drew) ?_ (V.one _);intro w2 a7 a8 a1;refine ρ ?_;exact Kq a7 ⟨rfl,a1 w D hb⟩
theorem Jlh{v:V}(hB:ItB w g A d L p e f h st)(hT:Off (λk=>k=g) w (λu=>TriA u A d rs))(hL:0<L)(hLd:L<=d)(hd:d<=32)(hq:q<(lvl rs (L-1)).length)(hqi:qi=(q:Int)): Ret Tryz.prog 261 [.pointer (some ⟨g,0,none⟩),.int .i64 qi,v.val] w λu w'=>u=.bool (decide (cmpV ((lvl rs (L-1)).getD q V0) v<0))/\GrN (λk=>k=g) w w'/\∃ st',ItB w' g A d L p e f h st':=by
 refine enE Tryz.func261 Tryz.ntmps261 ?_;refine bxR (cs:=v.cells) ?_;intro w1 b a2 hb a6;have G:=hB.ext a2;refine ldR (G.at (i:=68) (Jlk _ _ _ _ _ _ _ _)) ?_;refine ρ ?_;have a7:w1.cell? ⟨g,0+68,none⟩=some (.int .i64 st):=by rw[G.cell];exact Jlk _ _ _ _ _ _ _ _
 refine sto a7 (G.frozen _) ?_;obtain⟨st',a3⟩:∃ st':Int,st'=IntKind.i64.wrap (st+1):=⟨_,rfl⟩;rw[<-a3];have O:=G.set (0+68) (.int .i64 st');rw[show(0:Nat)+68=68 from rfl,Qst]at O;have a4:GrN (λk=>k=g) w (w1.setCell ⟨g,68,none⟩ (.int .i64 st')):=(GrN.ext a2).trans (GrN.set _ rfl);have a5:Blk (w1.setCell ⟨g,68,none⟩ (.int .i64 st')) b 147 v.cells:=a6.far (by simp only;have:=hB.lt;omega) _;refine ρ ?_;generalize hw2:w1.setCell ⟨g,68,none⟩ (.int .i64 st')=w2 at *
 refine dr [(0,0),(0,1),(0,3),(1,2),(1,4),(0,5),(0,6)] kr ?_;have D:Ext w2 w2.drew:=(Ext.refl w2).drew;refine Qz (cs:=v.cells) (λj u hu=>(a5.ext D).at hu) ?_;refine Jh (Qxt (O.ext D) (hT _ (a4.trans (GrN.ext D))) hL hLd hd hq hqi) ?_;rintro u w3 ⟨rfl,a1⟩;refine⟨a1,?_⟩;refine Jh (Jxh _ v _) ?_;rintro u w4 ⟨rfl,Z⟩;refine⟨Z,?_⟩;refine ρd ?_;refine ρ ?_;have J:=(D.trans a1).trans Z;exact Jj ⟨rfl,a4.trans (GrN.ext J),st',O.ext J⟩
theorem Jlj(hB:ItB w g A d L p e f h st)(hT:TriA w A d rs)(hLd:L<=d)(hd:d<=32)(he:0<L->e<=(lvl rs (L-1)).length): Ret Tryz.prog 243 [.pointer (some ⟨g,0,none⟩)] w λu w'=>Ext w w'/\∃ v:V,u=.tuple #[v.val,.bool (decide (0<L/\p<e))]/\(0<L/\p<e->v=(lvl rs (L-1)).getD p V0):=by
 refine enE Tryz.func243 Tryz.ntmps243 ?_;refine Jv (cs:=V0.cells) Gj ?_;intro w1 b O hb a1;refine clR (Jzf (hB.ext O)) ?_;rintro u w2 ⟨rfl,J⟩;have j:=O.trans J;refine ciR (λh1=>?_) (λh1=>?_)
 .have Z:¬ (0<L/\p<e):=by grind
  refine Zz (v:=V0.val) kr ?_;refine Qw (cs':=V0.cells) (a1.ext J) ?_ (V.one _);intro w3 a5 a7 G;refine ρ ?_;refine Zn a5 ⟨G w j hb,V0,?_,λh'=>absurd h' Z⟩;rw[decide_eq_false Z];rfl
 have D:0<L/\p<e:=by grind
 have a2:=hB.ext j;refine ldR (a2.at (i:=2) rfl) ?_;refine clR (Qxt (q:=p) (qi:=(p:Int)) a2 (hT.ext j) D.1 hLd hd (by have:=he D.1;omega) rfl) ?_;rintro u w3 ⟨rfl,G⟩;refine Qw (cs':=((lvl rs (L-1)).getD p V0).cells) ((a1.ext J).ext G) ?_ (V.one _);intro w4 a4 a6 a3;refine ρ ?_;refine Zn a4 ⟨a3 w (j.trans G) hb,_,?_,λ_=>rfl⟩;rw[decide_eq_true D];rfl
theorem Qss(hB:ItB w g A d L p e f h st)(hL:0<L)(hp:p<e)(hpe:e<=1000000): Ret Tryz.prog 242 [.pointer (some ⟨g,0,none⟩)] w λu w'=>u=.bool (decide (p+1<e))/\GrN (λk=>k=g) w w'/\ItB w' g A d L (p+1) e f h st:=by
 refine enE Tryz.func242 Tryz.ntmps242 ?_;refine clR (Jzf hB) ?_;rintro u Z ⟨rfl,G⟩;refine cfR ?_ ?_
 .simp[hL,hp]
 have j:=hB.ext G;refine ldR (j.at (i:=2) rfl) ?_;refine Xq (p:=⟨g,2,none⟩) (j.cell 2) (j.frozen _) ?_;have J:ItB (Z.setCell ⟨g,2,none⟩ (.int .i64 ((p:Int)+1))) g A d L (p+1) e f h st:=by
  have:=j.set 2 (.int .i64 ((p:Int)+1));exact this
 have O:GrN (λk=>k=g) w (Z.setCell ⟨g,2,none⟩ (.int .i64 ((p:Int)+1))):=(GrN.ext G).trans (GrN.set _ rfl);refine clR (Jzf J) ?_;rintro u w3 ⟨rfl,D⟩;refine ρ ?_;refine Jj ⟨?_,O.trans (GrN.ext D),J.ext D⟩;grind
theorem Xvh(hB:ItB w g A d L p e f h st)(hk:k<32){u:Value}(hu:[Value.int .i64 (f k:Int),.int .i64 (h k:Int)][j]?=some u): w.cell? (((⟨g,0+4,none⟩:Addr).add (k*2)).add j)=some u:=by
 have i:=Qsw A d L p e f h st hk;rw[Yc,Yc,hB.cell];grind
theorem Qsn(hB:ItB w g A d (L+1) p e f h st)(hL:L<32): Ret Tryz.prog 244 [.pointer (some ⟨g,0,none⟩)] w λu w'=>GrN (λk=>k=g) w w'/\ItB w' g A d L (f L) (h L) f h st:=by
 refine enE Tryz.func244 Tryz.ntmps244 ?_;refine ρ ?_;refine pnl ?_;refine ldR (hB.at (i:=1) rfl) ?_;refine ldR (hB.at (i:=1) rfl) ?_;refine Xq (p:=⟨g,1,none⟩) (hB.cell 1) (hB.frozen _) ?_;have eL:((L+1:Nat):Int)-1=(L:Int):=om
 rw[eL];have a2:ItB (w.setCell ⟨g,1,none⟩ (.int .i64 (L:Int))) g A d L p e f h st:=hB.set 1 (.int .i64 (L:Int));have Z:GrN (λk=>k=g) w (w.setCell ⟨g,1,none⟩ (.int .i64 (L:Int))):=GrN.set _ rfl;refine ρ ?_;generalize w.setCell ⟨g,1,none⟩ (.int .i64 (L:Int))=w2 at *
 refine drN (λ_=>False) 4 (scq 13 [112]) kr ?_;have G:Ext w2 w2.drew:=(Ext.refl w2).drew;have D:=a2.ext G;refine ρn ?_;refine nld (Jr (D.at (i:=1) rfl) (λe=>e)) ?_;refine ρn ?_;refine nixa L hL ?_;refine ρn ?_;refine Xs (cs:=[.int .i64 (f L:Int),.int .i64 (h L:Int)]) (λw' hg j u J=>Xvh (Jc D hg (λe=>e)) hL J) ?_;refine ρn ?_;refine Xm ?_;refine stB (o:=2) (us:=[.int .i64 (f L:Int),.int .i64 (h L:Int)]) D (by rw[Jcc];simp) (λu J=>by simp at J;rcases J with rfl|rfl<;>rfl) ?_;intro w4 a1 O;refine ρ ?_;exact Jj ⟨Z.trans ((GrN.ext G).trans (GrN.by O λk e=>by injection e with e;exact e.symm)),a1⟩
theorem Qsp(hB:ItB w g A d L p e f h st): Ret Tryz.prog 225 [.pointer (some ⟨g,0,none⟩)] w λu w'=>u=.int .i64 st/\w'=w:=by
 refine enE Tryz.func225 Tryz.ntmps225 ?_;refine ρ ?_;refine pnl ?_;refine ldR (hB.at (i:=68) (Jlk _ _ _ _ _ _ _ _)) ?_;refine ρ ?_;exact Jj ⟨rfl,rfl⟩
theorem Xkl(A:Option Addr)(d:Nat)(w:World): (Instr.build 340 #[(0,.agg #[.slice A d d])]).run Tryz.prog w=.ok (.agg (itC A d 0 0 0 (λ_=>0) (λ_=>0) 0).toArray) w:=kr
theorem Qdp(w:World): Ret Tryz.prog 223 [.agg #[.slice A d d]] w λu w'=>Ext w w'/\∃ g,u=.pointer (some ⟨g,0,none⟩)/\w.heap.size<=g/\ItB w' g A d 0 0 0 (λ_=>0) (λ_=>0) 0:=by
 refine enE Tryz.func223 Tryz.ntmps223 ?_;refine bxR ?_;intro w1 b i hb J;refine Qk J ?_;refine Zz (Xkl A d _) ?_;refine bxR (cs:=itC A d 0 0 0 (λ_=>0) (λ_=>0) 0) ?_;intro Z O j D G;refine ρ ?_;exact Jj ⟨i.trans j,O,rfl,Nat.le_trans i.size D,G⟩
end
open Go.RowKit Pl Go.Wk
section
variable {w:World} {g:Nat} {A:Option Addr} {d L p e:Nat} {f h:Nat->Nat} {st:Int} {rs:List Row}
theorem Qsq{v:V}(hB:ItB w g A d L p e f h st)(hT:Off (λk=>k=g) w (λu=>TriA u A d rs))(hL:0<L)(hLd:L<=d)(hd:d<=32)(hpe:p<e)(he:e<=(lvl rs (L-1)).length)(hm:e<=1000000)(hs:∀ i j,p<=i->i<j->j<e->cmpV ((lvl rs (L-1)).getD i V0) ((lvl rs (L-1)).getD j V0)<0):
  Ret Tryz.prog 255 [.pointer (some ⟨g,0,none⟩),v.val] w λu w'=>GrN (λk=>k=g) w w'/\∃ q st',u=.bool (decide (q<e))/\p<=q/\q<=e/\(∀ i,p<=i->i<q->cmpV ((lvl rs (L-1)).getD i V0) v<0)/\(q<e->¬ cmpV ((lvl rs (L-1)).getD q V0) v<0)/\ItB w' g A d L q e f h st':=by
 obtain⟨val,b4⟩:∃ val:Nat->V,val=λi=>(lvl rs (L-1)).getD i V0:=⟨_,rfl⟩;have ad:∀ i,(lvl rs (L-1)).getD i V0=val i:=λi=>by rw[b4]
 simp only[ad]at hs ⊢;have below:∀ {D i:Nat},p<=i->i<=D->D<e->cmpV (val D) v<0->cmpV (val i) v<0:=fun {D i} O h2 h3 h4=>by
  by_cases e':i=D
  .subst e';exact h4
  exact cmp_V.lt_trans (hs i D O om h3) h4
 refine enE Tryz.func255 Tryz.ntmps255 ?_;refine bxR (cs:=v.cells) ?_;intro w1 b b3 hb be;have bc:b≠g:=by have:=hB.lt;omega
 have ae:¬ (λk=>k=g) b:=bc;refine clR (Jzf (hB.ext b3)) ?_;rintro u w2 ⟨rfl,b2⟩;have am:=b3.trans b2;have bf:=hB.ext am;have bd:GrN (λk=>k=g) w w2:=GrN.ext am;refine cfR ?_ ?_
 .simp[hL,hpe]
 refine ρ ?_;refine drN (λ_=>False) 10 (scq 9 [107,108]) kr ?_;have ao:Ext w2 w2.drew:=(Ext.refl w2).drew;have au:=bf.ext ao;have aa:=(be.ext b2).ext ao;have ar:=bd.trans (GrN.ext ao);refine ρn ?_;refine nld (Jr (au.at (i:=2) rfl) (λe=>e)) ?_;refine ρn ?_;refine Xs (cs:=v.cells) (λw' hg j u hu=>(Jc aa hg (λe=>e)).at hu) ?_;refine ρn ?_;refine Xm ?_;refine cl (Jlh (q:=p) (qi:=(p:Int)) au (hT.gr ar) hL hLd hd om rfl) ?_;rintro u w4 ⟨rfl,aq,az,ak⟩;have an:=Jc aa aq ae;have a7:=ar.trans aq;refine ρ ?_;refine Gv ?_;refine Xm ?_;refine ρ ?_;rw[ad];refine ci (λO=>?_) (λO=>?_)
 .have h2:¬ cmpV (val p) v<0:=by simpa using O
  refine ρ ?_;refine Jj ⟨a7,p,az,by rw[decide_eq_true hpe],Nat.le_refl _,om,λi O h2=>om,λ_=>h2,ak⟩
 have h2:cmpV (val p) v<0:=by simpa using O
 clear O;refine ldR (ak.at (i:=2) rfl) ?_;refine ρ ?_;refine Xn (fun (D step:Nat) (st:Int)=>[(0,.pointer (some ⟨g,0,none⟩)),(3,.pointer (some ⟨b,0,none⟩)),(5,.int .i64 (D:Int)),(6,.int .i64 (step:Int))])
  (λD step st w'=>GrN (λk=>k=g) w w'/\ItB w' g A d L p e f h st/\Blk w' b 147 v.cells/\p<=D/\D<e/\cmpV (val D) v<0/\1<=step/\step<=2000000) (λD _ _=>e-D) p 1 az sB
  ⟨a7,ak,an,Nat.le_refl _,hpe,h2,Nat.le_refl _,om⟩ ?_
 clear ak an a7 aq au aa ar;rintro D step b7 w5 ⟨ah,aj,Z,af,ba,a4,b9,b8⟩;refine ldR (aj.at (i:=3) rfl) ?_;refine ρ ?_;refine Jpp (fun (t:Bool) (st:Int)=>[(0,.pointer (some ⟨g,0,none⟩)),(3,.pointer (some ⟨b,0,none⟩)),(5,.int .i64 (D:Int)),(6,.int .i64 (step:Int)),(42,.bool t)])
  (λt st w'=>GrN (λk=>k=g) w w'/\ItB w' g A d L p e f h st/\Blk w' b 147 v.cells/\(t=true->D+step<e/\cmpV (val (D+step)) v<0)/\(t=false->e<=D+step∨¬ cmpV (val (D+step)) v<0)) ?_ ?_
 .refine ki 35 (λO=>?_) (λO=>?_)
  .have h3:D+step<e:=by have:=oT O;omega
   refine Jt (cs:=v.cells) (λj u hu=>Z.at hu) ?_;refine clR (Jlh (q:=D+step) (qi:=(D:Int)+(step:Int)) aj (hT.gr ah) hL hLd hd om om) ?_;rintro u w6 ⟨rfl,a2,ac,a3⟩;refine ρ ?_;rw[ad];refine Vc _ ac sB ⟨ah.trans a2,a3,Jc Z a2 ae,λh'=>⟨h3,of_decide_eq_true h'⟩,λh'=>.inr (oF h')⟩
  refine ρ ?_;exact Vc false b7 sB ⟨ah,aj,Z,λh'=>(by cases h'),λ_=>.inl (by grind)⟩
 clear ah aj Z;rintro t ac w6 ⟨a2,a3,a9,b6,b5⟩;refine ci (λO=>?_) (λO=>?_)
 .obtain⟨h3,h4⟩:=b6 O;refine ρ ?_;exact Qt (D+step) (step*2) ac sO ⟨a2,a3,a9,om,om,h4,om,om⟩ om
 have h3:=b5 O;clear b6 b5 O;refine ldR (a3.at (i:=3) rfl) ?_;refine ρ ?_;have bb:∃ hi:Nat,(if(e:Int)<(D:Int)+(step:Int) then(e:Int) else(D:Int)+(step:Int))=(hi:Int)/\D<hi/\hi<=e/\(hi<e->¬ cmpV (val hi) v<0):=by
  by_cases h4:e<D+step
  repeat grind
 obtain⟨hi,av,ap,a6,a5⟩:=bb;rw[av];refine Xn (fun (D hi:Nat) (st:Int)=>[(0,.pointer (some ⟨g,0,none⟩)),(3,.pointer (some ⟨b,0,none⟩)),(5,.int .i64 (D:Int)),(7,.int .i64 (hi:Int))])
  (λD hi st w'=>GrN (λk=>k=g) w w'/\ItB w' g A d L p e f h st/\Blk w' b 147 v.cells/\p<=D/\cmpV (val D) v<0/\D<hi/\hi<=e/\(hi<e->¬ cmpV (val hi) v<0)) (λD hi _=>hi-D) D hi ac sB
  ⟨a2,a3,a9,af,a4,ap,a6,a5⟩ ?_
 clear a2 a3 a9 af ba a4 b9 b8 h3 ap a6 a5 av;rintro G J ay w7 ⟨ag,ai,a8,af,a4,ap,a6,a5⟩;refine ciR (λO=>?_) (λO=>?_)
 .have bh:G+1<J:=by have:=oT O;omega
  refine ρ ?_;refine qn (J-G) 2 ?_;refine ρ ?_;have bg:G<G+(J-G) / 2/\G+(J-G) / 2<J:=om
  generalize hmm:(J-G) / 2=m at *
  refine lds (cs:=v.cells) (λj u hu=>a8.at hu) ?_;refine clR (Jlh (q:=G+m) (qi:=(G:Int)+(m:Int)) ai (hT.gr ag) hL hLd hd om om) ?_;rintro u w8 ⟨rfl,a1,ax,ab⟩;refine ρ ?_;rw[ad];refine ci (λh2=>?_) (λh2=>?_)
  .refine ρ ?_;exact Qt (G+m) J ax sO ⟨ag.trans a1,ab,Jc a8 a1 ae,om,of_decide_eq_true h2,om,a6,a5⟩ om
  refine ρ ?_;exact Qt G (G+m) ax sO ⟨ag.trans a1,ab,Jc a8 a1 ae,af,a4,om,om,λ_=>oF h2⟩ om
 have av:J=G+1:=by have:=oF O;omega
 refine Xq (p:=⟨g,2,none⟩) (ai.cell 2) (ai.frozen _) ?_;have ab:ItB (w7.setCell ⟨g,2,none⟩ (.int .i64 (J:Int))) g A d L J e f h ay:=ai.set 2 (.int .i64 (J:Int));have a1:GrN (λk=>k=g) w (w7.setCell ⟨g,2,none⟩ (.int .i64 (J:Int))):=ag.trans (GrN.set _ rfl);refine clR (Jzf ab) ?_;rintro u w9 ⟨rfl,b1⟩;refine ρ ?_;refine Jj ⟨a1.trans (GrN.ext b1),J,ay,?_,om,a6,λi O h2=>below O (show i<=G by omega) om a4,a5,ab.ext b1⟩;grind
end
open Go.RowKit Pl Go.Wk
variable {j:Nat}{u:Value}
theorem Qbn: Qr Tryz.prog 337=some (.agg #[.int .i64 0,.int .i64 0]):=kr
theorem Qvk(x y:Int)(w:World): (Instr.build 337 #[(0,.int .i64 x),(1,.int .i64 y)]).run Tryz.prog w=.ok (.agg #[.int .i64 x,.int .i64 y]) w:=kr
theorem Jbn{x y:Int}: ∀ u∈[Value.int .i64 x,.int .i64 y],u.oneCell'=true:=by intro u i;simp at i;rcases i with rfl|rfl<;>rfl
section
variable {w:World} {g:Nat} {A:Option Addr} {d L p e:Nat} {f h:Nat->Nat} {st:Int} {rs:List Row}
theorem Jrp(w:World): Ret Tryz.prog 254 [.agg #[.slice A d d]] w λu w'=>u=.int .i64 (d:Int)/\Ext w w':=by
 refine enE Tryz.func254 Tryz.ntmps254 ?_;refine bxR ?_;intro G b j J D;refine ldR (D.at (i:=0) rfl) ?_;refine ρ ?_;exact Jj ⟨rfl,j⟩
def Uw(rs:List Row)(L p:Nat): Row:=if L=0 then[] else(pfx rs L).getD p []
theorem Jlg(hB:ItB w g A d L p e f h st)(hu:[Value.slice A d d][j]?=some u): w.cell? (((⟨g,0,none⟩:Addr).add 0).add j)=some u:=by
 match j,hu with
 | 0,hu=>rw[add_zero,add_zero,hB.cell];exact hu
 | j+1,hu=>simp at hu
theorem it_at(hB:ItB w g A d L p e f h st)(hu:[Value.int .i64 (p:Int),.int .i64 (e:Int)][j]?=some u): w.cell? (((⟨g,0,none⟩:Addr).add 2).add j)=some u:=by
 match j,hu with
 | 0,hu=>rw[add_zero,Yc,hB.cell];exact hu
 | 1,hu=>rw[Yc,Yc,hB.cell];exact hu
 | j+2,hu=>simp at hu
theorem Qsr(hB:ItB w g A d L p e f h st)(hT:Off (λk=>k=g) w (λu=>TriA u A d rs))(hLd:L<d)(hd:d<=32)(hpe:0<L->p<e/\e<=(pfx rs L).length)(hrs:rs≠[])(hsrt:Srt [] rs)(hm:rs.length<=1000000)(hlen:∀ r∈rs,r.length=d):
  Ret Tryz.prog 240 [.pointer (some ⟨g,0,none⟩)] w λu w'=>u=.bool true/\GrN (λk=>k=g) w w'/\∃ lo hi,lo<hi/\hi<=(pfx rs (L+1)).length/\(∀ i,i<(pfx rs (L+1)).length->(((pfx rs (L+1)).getD i []).take L=Uw rs L p↔lo<=i/\i<hi))/\ItB w' g A d (L+1) lo hi (upd f L p) (upd h L e) st:=by
 refine enE Tryz.func240 Tryz.ntmps240 ?_;refine ρ ?_;refine Qcc [(0,.pointer (some ⟨g,0,none⟩)),(30,.bool false)] (λw'=>Ext w w') ?_ ?_
 .refine dr (scq 26 [10,23]) kr ?_;have O:Ext w w.drew:=(Ext.refl w).drew;have G:=hB.ext O;refine ρd ?_;refine dpnl ?_;refine Jz (G.at (i:=1) rfl) ?_;refine ρd ?_;have rest:∀(al:AL) (w2:World),True:=λ_ _=>trivial;refine dki 13 (λh1=>?_) (λh1=>?_)
  .have D:0<L:=by have:=oT h1;omega
   refine Jh (Jzf G) ?_;rintro u w2 ⟨rfl,a1⟩;refine⟨a1,?_⟩;have ax:=G.ext a1;refine ρd ?_;refine dkf 19 ?_ ?_
   .have:=hpe D;simp[D,this.1]
   refine Jz (ax.at (i:=1) rfl) ?_;refine Qz (cs:=[.slice A d d]) (λj u hu=>Jlg ax hu) ?_;refine Jh (Jrp _) ?_;rintro u w3 ⟨rfl,Z⟩;refine⟨Z,?_⟩;refine ρd ?_;refine ρ ?_;refine Qjj (Sub.cons rfl (Sub.cons ?_ Sub.nil)) ((O.trans a1).trans Z);exact congrArg (λz=>some (Value.bool z)) (decide_eq_false om)
  have D:L=0:=by have:=oF h1;omega
  refine Jz (G.at (i:=1) rfl) ?_;refine Qz (cs:=[.slice A d d]) (λj u hu=>Jlg G hu) ?_;refine Jh (Jrp _) ?_;rintro u w3 ⟨rfl,Z⟩;refine⟨Z,?_⟩;refine ρd ?_;refine ρ ?_;refine Qjj (Sub.cons rfl (Sub.cons ?_ Sub.nil)) (O.trans Z);exact congrArg (λz=>some (Value.bool z)) (decide_eq_false om)
 intro w1 ac;have a4:=hB.ext ac;obtain⟨vv,fv,fs,hR,hv,hf,hc⟩:=(hT.ext ac).here;have bf:(pfx rs (L+1)).length<=1000000:=by
  have:=Jqt (rs.map (List.take (L+1)));rw[List.length_map]at this;exact nL this hm
 refine Jt (cs:=[.slice A d d]) (λj u hu=>Jlg a4 hu) ?_;refine clR (Jdv (l:=0) (vs:=lvl rs) hR (λl hl=>by obtain⟨B,c,e,_⟩:=hv l hl;exact⟨B,c,e⟩) rfl hd) ?_;rintro u w2 ⟨rfl,a1⟩;rw[if_pos (show 0<d by omega),Jzp];refine Zz (Qvk _ _ _) ?_;refine Jv Qbn ?_;intro w3 b Z hb b8;refine Qw b8 ?_ (Jbn (x:=0) (y:=((pfx rs (0+1)).length:Int)));intro w4 a7 b3 af;have a2:Ext w1 w4:=(a1.trans (af w2 Z hb));have av:=a4.ext a2;have b1:b≠g:=by have:=a4.lt;have:=a1.size;omega
 refine ldR (av.at (i:=1) rfl) ?_;refine ρ ?_;refine Jjm (fun (lo hi:Nat)=>[(0,.pointer (some ⟨g,0,none⟩)),(3,.pointer (some ⟨b,0,none⟩))])
  (λlo hi w'=>Ext w1 w'/\Blk w' b 337 [.int .i64 (lo:Int),.int .i64 (hi:Int)]/\hi<=(pfx rs (L+1)).length/\∀ i,i<(pfx rs (L+1)).length->(((pfx rs (L+1)).getD i []).take L=Uw rs L p↔lo<=i/\i<hi)) ?_ ?_
 .refine ci (λh1=>?_) (λh1=>?_)
  .have D:0<L:=by have:=oT h1;omega
   obtain⟨k,rfl⟩:∃ k,L=k+1:=⟨L-1,om⟩;have lk:k<d:=om
   obtain⟨bd,bc⟩:=hpe D;obtain⟨F,fc,b4,b7⟩:=hf k lk;have a9:=hc k om;obtain⟨c1,c2,c3⟩:=a9;have be:p<=1000000:=by
    have:=Jqt (rs.map (List.take (k+1)));rw[List.length_map]at this;have h4:(pfx rs (k+1)).length<=rs.length:=this;omega
   have lp:p<(fs k).length:=om
   have a8:p+1<(fs k).length:=om
   refine ρ ?_;refine drN (λ_=>False) 10 (scq 14 []) kr ?_;have a6:=a2.drew;have G:=a4.ext a6;have am:=hR.ext a6;have b6:w4.drew.cell? ((adr A (k*2)).add 1)=some (fv k):=by rw[Xh];exact am.cell (Kj d vv fv lk).2
   refine ρn ?_;refine nld (Jr (G.at (i:=0) rfl) (λe=>e)) ?_;refine ρn ?_;refine nld (Jr (G.at (i:=1) rfl) (λe=>e)) ?_;refine ρn ?_;refine Yr 2 k am lk ?_;refine ρn ?_;refine nld (Jr b6 (λe=>e)) ?_;rw[b4];refine ρn ?_;refine ρ ?_;refine drN (λ_=>False) 10 (scq 19 [17,118]) kr ?_;have a5:=a6.drew;have an:=a4.ext a5;have aa:=b7.ext a5;have ao:=(a7.ext (Ext.refl w4).drew).ext (Ext.refl w4.drew).drew;refine ρn ?_;refine nld (Jr (an.at (i:=2) rfl) (λe=>e)) ?_;refine ρn ?_;refine nix p aa lp ?_;refine ρn ?_;refine nld (Jr (aa.cell (Zy lp)) (λe=>e)) ?_;refine ρn ?_;refine nld (Jr (an.at (i:=2) rfl) (λe=>e)) ?_;refine ρn ?_;refine nix (p+1) aa a8 ?_;refine ρn ?_;refine nld (Jr (aa.cell (Zy a8)) (λe=>e)) ?_;refine ρn ?_;refine nop ?_;refine bld (Qvk _ _ _) ?_;refine ρ ?_;refine Qj (GrN.refl _ _) ?_;refine ρn ?_;refine Xm ?_
   refine stb ao ?_ (Jbn (x:=(((fs k).getD p 0:Nat):Int)) (y:=(((fs k).getD (p+1) 0:Nat):Int)));intro w5 J bg ay;refine ρ ?_;refine Vc ((fs k).getD p 0) ((fs k).getD (p+1) 0) sB ⟨ay w1 a5 (nL a1.size hb),J,c2 _ a8,λi hi=>?_⟩;rw[c3 p i a8 hi |>.symm,Uw,if_neg om]
  have D:L=0:=by have:=oF h1;omega
  subst D;refine ρ ?_;refine Vc 0 (pfx rs (0+1)).length sB ⟨a2,a7,Nat.le_refl _,λi hi=>?_⟩;rw[Uw,if_pos rfl,List.take_zero];exact⟨λ_=>⟨Nat.zero_le _,hi⟩,λ_=>rfl⟩
 clear b3 af av a2 a7;rintro lo hi w5 ⟨ab,J,az,a9⟩;have ad:lo<hi:=by
  have b5:∃ i,i<(pfx rs (L+1)).length/\((pfx rs (L+1)).getD i []).take L=Uw rs L p:=by
   have hr:∃ r∈rs,r.take L=Uw rs L p:=by
    by_cases D:L=0
    .subst D;obtain⟨r,hr⟩:=List.exists_mem_of_ne_nil rs hrs;exact⟨r,hr,by rw[Uw,if_pos rfl,List.take_zero]⟩
    have:=hpe om;rw[Uw,if_neg D];exact(Jwl hsrt).1 (getD_mem' [] _ om)
   obtain⟨r,hr,er⟩:=hr;obtain⟨i,hi,ei⟩:=List.getElem_of_mem ((Jwl hsrt (l:=L+1)).2 ⟨r,hr,rfl⟩);refine⟨i,hi,?_⟩;rw[Qd [] _ hi,ei,List.take_take,Nat.min_eq_left om,er]
  obtain⟨i,hi,ei⟩:=b5;have:=(a9 i hi).1 ei;omega
 have bb:=a4.ext ab;refine ldR (J.at (i:=0) rfl) ?_;refine ldR (J.at (i:=1) rfl) ?_;refine cfR ?_ ?_
 .exact Jmz om
 refine ρ ?_;refine drN (λ_=>False) 10 (scq 13 [112]) kr ?_;have O:Ext w5 w5.drew:=(Ext.refl w5).drew;have ae:=bb.ext O;have aq:=J.ext O;refine ρn ?_;refine nld (Jr (ae.at (i:=1) rfl) (λe=>e)) ?_;refine ρn ?_;refine Xs (cs:=[.int .i64 (p:Int),.int .i64 (e:Int)]) (λw' hg j u hu=>it_at (Jc ae hg (λe=>e)) hu) ?_;refine ρn ?_;refine nixa L (show L<32 by omega) ?_;refine ρn ?_;refine Xm ?_;have ag:=seg2 (cs:=itC A d L p e f h st) (o:=4+L*2) (u:=.int .i64 (p:Int)) (v:=.int .i64 (e:Int)) (by rw[Jcc];omega);refine stB (o:=4+L*2) (us:=[.int .i64 (p:Int),.int .i64 (e:Int)]) ae (by rw[Jcc];simp only[List.length_cons,List.length_nil];omega) Jbn ?_ (hp:=(Yc g (0+4) (L*2)).trans (by rw[Nat.zero_add]));intro w7 au ak;have ar:ItB w7 g A d L p e (upd f L p) (upd h L e) st:=by
  have e1:(itC A d L p e f h st).take (4+L*2)++[Value.int .i64 (p:Int),.int .i64 (e:Int)]++(itC A d L p e f h st).drop (4+L*2+[Value.int .i64 (p:Int),.int .i64 (e:Int)].length)=itC A d L p e (upd f L p) (upd h L e) st:=by
   rw[<-Qsv A d L p e f h st (show L<32 by omega) p e];exact ag
  rw[e1]at au;exact au
 have ap:=aq.grown ak (λe=>b1 (by injection e));have aj:GrN (λk=>k=g) w w7:=(GrN.ext ((ac.trans ab).trans O)).trans (GrN.by ak λk e=>by injection e with e;exact e.symm);refine Qk ap ?_;refine ρ ?_;refine stB (o:=2) (us:=[.int .i64 (lo:Int),.int .i64 (hi:Int)]) ar (by rw[Jcc];simp) Jbn ?_;intro w8 ba b2;have a3:ItB w8 g A d L lo hi (upd f L p) (upd h L e) st:=ba;have ai:=aj.trans (GrN.by b2 λk e=>by injection e with e;exact e.symm);refine ldR (a3.at (i:=1) rfl) ?_;refine Xq (p:=⟨g,1,none⟩) (a3.cell 1) (a3.frozen _) ?_;have b9:ItB (w8.setCell ⟨g,1,none⟩ (.int .i64 ((L:Int)+1))) g A d (L+1) lo hi (upd f L p) (upd h L e) st:=a3.set 1 (.int .i64 ((L:Int)+1));have ah:GrN (λk=>k=g) w (w8.setCell ⟨g,1,none⟩ (.int .i64 ((L:Int)+1))):=ai.trans (GrN.set _ rfl);refine ρ ?_;exact Jj ⟨rfl,ah,lo,hi,ad,az,a9,b9⟩
end
open Go.RowKit Pl Go.Wk
variable {I:List Nat}{a i k:Nat}
def gtN(U:List V)(key:V): Nat:=(U.filter λy=>decide (cmpV key y<0)).length
theorem Qtv(U:List V)(key:V): gtN U key<=U.length:=List.length_filter_le _ _
theorem Qzl: ∀ {U:List V} {key key':V},key'∈U->cmpV key key'<0->gtN U key'<gtN U key
 | [],_,_,h,_=>by cases h
 | x::U,key,key',h,hlt=>by
  have mono:∀ U:List V,gtN U key'<=gtN U key:=λU=>by
   induction U with
   | nil=>exact nR _
   | cons y U ih=>
    unfold gtN at *;by_cases e:cmpV key' y<0
    .have:=cmp_V.lt_trans hlt e;grind
    repeat grind
  rcases List.mem_cons.1 h with rfl|h'
  .have:=mono U;grind [gtN,List.filter_cons_of_neg,Vg,List.filter_cons_of_pos,List.length_cons]
  have ih:=Qzl h' hlt;unfold gtN at *;by_cases e:cmpV key' x<0
  .have:=cmp_V.lt_trans hlt e;grind
  repeat grind
structure Fix where
 G: Nat->Nat
 A:Nat->Option Addr
 d:Nat->Nat
 rs:Nat->List Row
structure Lev where
 L: Nat->Nat
 lo:Nat->Nat
 e:Nat->Nat
 f:Nat->Nat->Nat
 h:Nat->Nat->Nat
def Fix.val(F:Fix)(V':Lev)(i a:Nat): V:=(lvl (F.rs i) (V'.L i-1)).getD a V0
def Jxt(F:Fix)(I:List Nat): List Value:=I.map λi=>.pointer (some ⟨F.G i,0,none⟩)
theorem Jxs{F:Fix}(h:k<I.length): (Jxt F I)[k]?=some (.pointer (some ⟨F.G (I.getD k 0),0,none⟩)):=by simp[Jxt,List.getD,List.getElem?_eq_getElem h]
structure OnS(F:Fix)(V':Lev)(I:List Nat): Prop where
 lev:∀ i∈I,0<V'.L i/\V'.L i<=F.d i/\F.d i<=32
 rng:∀ i∈I,V'.e i<=(lvl (F.rs i) (V'.L i-1)).length/\V'.e i<=1000000
 srt:∀ i∈I,∀ a b,V'.lo i<=a->a<b->b<V'.e i->cmpV (F.val V' i a) (F.val V' i b)<0
 inj:∀ i∈I,∀ j∈I,F.G i=F.G j->i=j
 len:I.length<=32
def NG(F:Fix)(I:List Nat)(J:Nat)(k:Nat): Prop:=k=J∨∃ i∈I,k=F.G i
def Its(F:Fix)(V':Lev)(I:List Nat)(w:World)(p:Nat->Nat): Prop:=∀ i∈I,∃ st,ItB w (F.G i) (F.A i) (F.d i) (V'.L i) (p i) (V'.e i) (V'.f i) (V'.h i) st
def Cmn(F:Fix)(V':Lev)(I:List Nat)(y:V): Prop:=∀ i∈I,∃ a,V'.lo i<=a/\a<V'.e i/\F.val V' i a=y
def JB(w:World)(J:Nat)(jr ja yv:Value): Prop:=∃ st:Int,Blk w J 313 [jr,ja,.int .i64 st,yv]
def Jxc(F:Fix)(V':Lev)(I:List Nat): List V:=I.flatMap λi=>(List.range (V'.e i-V'.lo i)).map λa=>F.val V' i (V'.lo i+a)
theorem Xwz{F:Fix}{V':Lev}(hi:i∈I)(h1:V'.lo i<=a)(h2:a<V'.e i): F.val V' i a∈Jxc F V' I:=by
 refine List.mem_flatMap.2 ⟨i,hi,List.mem_map.2 ⟨a-V'.lo i,List.mem_range.2 om,?_⟩⟩;congr 1;omega
theorem Qym{F:Fix}{V':Lev}: ∀ {I:List Nat},(∀ i∈I,V'.e i<=1000000)->(Jxc F V' I).length<=I.length*1000000
 | [],_=>nR _
 | i::I,h=>by
  have ih:=Qym (F:=F) (V':=V') (I:=I) (λj hj=>h j (List.mem_cons_of_mem _ hj));grind [List.mem_cons_self,Jxc,List.length_append,List.length_map,List.length_range,List.length_cons]
theorem Xxw{a b c:V}(h1:cmpV a b<=0)(h2:cmpV b c<=0): cmpV a c<=0:=cmp_V.trans a b c h1 h2
theorem Qdz(k n:Nat): (k:Int).tmod (n:Int)=((k % n:Nat):Int):=by grind
open Go.RowKit Pl Go.Wk
variable {J b c i j k n r s:Nat}{w w' w'':World}
theorem _root_.Go.Wk.GrN.newBy{N:Nat->Prop}(h:GrN N w w')(hg:w'.grownBy w'' (some b))(hb:w.heap.size<=b): GrN N w w'' :=
 ⟨hg.os.trans h.os,hg.tape.trans h.tape,hg.output.trans h.output,Nat.le_trans h.size hg.size,λk i hn=>(hg.block k (nM i h.size) (λe=>by grind)).trans (h.block k i hn)⟩
theorem Qqk{α:Type}{l:List α}(h:l.Nodup)(hi:i<l.length)(hj:j<l.length)(e:l[i]=l[j]): i=j:=by grind [List.pairwise_iff_getElem.1,Nat.lt_trichotomy]
theorem Qpt(h1:1<=s)(h2:s<n)(h3:s<=k): (k-s) % n≠k % n:=by
 intro e;have u:(k-s+s) % n=(k-s) % n:=by grind
 have j:((k-s) % n+s) % n=(k-s) % n:=by grind [Nat.mod_add_mod]
 generalize hx:(k-s) % n=x at *
 have i:x<n:=by rw[<-hx];exact Nat.mod_lt _ om
 rcases Nat.lt_or_ge (x+s) n with h6|h6
 .grind [Nat.mod_eq_of_lt]
 rw[Nat.mod_eq_sub_mod h6,Nat.mod_eq_of_lt om]at j;omega
theorem Qpv(hr:r<n)(hk:n<=k): ∃ s,1<=s/\s<=n/\(k-s) % n=r:=by
 have D:k % n<n:=Nat.mod_lt _ om;have j:=Nat.div_add_mod k n;by_cases h:r<k % n
 .refine⟨k % n-r,om,om,?_⟩;have:k-(k % n-r)=n*(k / n)+r:=om
  rw[this,Nat.mul_add_mod,Nat.mod_eq_of_lt hr]
 refine⟨k % n+n-r,om,om,?_⟩;have u:1<=k / n:=by grind
 obtain⟨q,i⟩:∃ q,k / n=q+1:=⟨k / n-1,om⟩;rw[i,Nat.mul_succ]at j;have:k-(k % n+n-r)=n*q+r:=om
 rw[this,Nat.mul_add_mod,Nat.mod_eq_of_lt hr]
theorem Qqr{F:Fix}{V':Lev}{I:List Nat}{p:Nat->Nat}{jr ja yv:Value}{B:Option Addr}(hO:OnS F V' I)(hne:0<I.length)(hnd:I.Nodup)(hIts:Its F V' I w p)(hJ:JB w J jr ja yv)(hJG:∀ i∈I,F.G i≠J)(hT:∀ i∈I,Off (NG F I J) w (λu=>TriA u (F.A i) (F.d i) (F.rs i)))(hB:Off (NG F I J) w (λu=>Rd u 1 B I.length (Jxt F I)))(hp:∀ i∈I,V'.lo i<=p i/\p i<V'.e i)(hK:∀ i∈I,∀ a,V'.lo i<=a->a<p i->cmpV (F.val V' i a) (F.val V' (I.getD 0 0) (p (I.getD 0 0)))<0):
  Ret Tryz.prog 241 [.pointer (some ⟨J,0,none⟩),.slice B I.length c] w λu w'=>GrN (NG F I J) w w'/\JB w' J jr ja yv/\∃ p' t,u=.bool t/\Its F V' I w' p'/\(∀ i∈I,V'.lo i<=p' i/\p' i<=V'.e i) /\
   (t=true->∃ x,(∀ i∈I,p' i<V'.e i/\F.val V' i (p' i)=x)/\cmpV (F.val V' (I.getD 0 0) (p (I.getD 0 0))) x<=0/\∀ y,Cmn F V' I y->cmpV (F.val V' (I.getD 0 0) (p (I.getD 0 0))) y<=0->cmpV x y<=0) /\
   (t=false->∀ y,Cmn F V' I y->¬ cmpV (F.val V' (I.getD 0 0) (p (I.getD 0 0))) y<=0):=by
 have ab:I.getD 0 0∈I:=getD_mem' 0 I hne;obtain⟨K0,b4⟩:∃ K0,K0=F.val V' (I.getD 0 0) (p (I.getD 0 0)):=⟨_,rfl⟩;rw[<-b4]at hK ⊢;have cq:=hO.len;have aq:∀ i∈I,F.G i<w.heap.size:=λi hi=>by obtain⟨st,O⟩:=hIts i hi;exact O.lt
 have bo:J<w.heap.size:=by obtain⟨st,O⟩:=hJ;exact O.lt
 refine enE Tryz.func241 Tryz.ntmps241 ?_;refine ixR 0 hB.here hne ?_;refine ldR (hB.here.cell (Jxs hne)) ?_;refine ρ ?_;obtain⟨cx,bs⟩:=hIts _ ab;have aj:=hO.lev _ ab;have b1:=hp _ ab;have c8:=hO.rng _ ab;refine cl (Jlj bs (hT _ ab).here aj.2.1 aj.2.2 (λ_=>c8.1)) ?_;rintro u w1 ⟨be,v,rfl,hv⟩;have c7:=hv ⟨aj.1,b1.2⟩;have c6:v=K0:=by rw[c7,b4];rfl
 subst c6;rw[decide_eq_true (show 0<V'.L (I.getD 0 0)/\p (I.getD 0 0)<V'.e (I.getD 0 0) from⟨aj.1,b1.2⟩)];refine Jv (cs:=V0.cells) Gj ?_;intro w2 bk bd b2 bz;refine Qw (cs':=v.cells) bz ?_ (V.one _);intro w3 au cj bc;have am:Ext w1 w3:=bc w1 bd b2;have a6:=be.trans am;have bj:w.heap.size<=bk:=nL be.size b2;refine ρ ?_;refine Jxg (fun (same k:Nat) (key:V) (p:Nat->Nat)=>[(0,.pointer (some ⟨J,0,none⟩)),(1,.slice B I.length c),(5,.pointer (some ⟨bk,0,none⟩)),(7,.int .i64 (same:Int)),(8,.int .i64 (k:Int))])
  (λsame k key p w'=>GrN (NG F I J) w w'/\JB w' J jr ja yv/\Its F V' I w' p/\Blk w' bk 147 key.cells/\(∀ i∈I,V'.lo i<=p i/\p i<V'.e i)/\(∀ i∈I,∀ a,V'.lo i<=a->a<p i->cmpV (F.val V' i a) key<0)/\cmpV v key<=0/\(∀ y,Cmn F V' I y->cmpV v y<=0->cmpV key y<=0) /\
   1<=same/\same<=I.length/\same<=k/\k+(gtN (Jxc F V' I) key*33+(I.length-same))<=2000000000/\(∀ s,1<=s->s<=same->F.val V' (I.getD ((k-s) % I.length) 0) (p (I.getD ((k-s) % I.length) 0))=key)) (λsame k key p=>gtN (Jxc F V' I) key*33+(I.length-same)) 1 1 v p sB
  ⟨GrN.ext a6,?_,λi hi=>?_,au,hp,hK,by rw[Vg];omega,λy _ h'=>h',Nat.le_refl _,hne,Nat.le_refl _,?_,λs O h2=>?_⟩ ?_
 .obtain⟨st,hJ⟩:=hJ;exact⟨st,hJ.ext a6⟩
 .obtain⟨st,hI⟩:=hIts i hi;exact⟨st,hI.ext a6⟩
 .have O:=Qtv (Jxc F V' I) v;have h2:=Qym (F:=F) (V':=V') (I:=I) (λi hi=>(hO.rng i hi).2);omega
 .have:s=1:=om
  subst this;rw[Nat.sub_self,Nat.zero_mod];exact b4.symm
 clear au cj bc bz am a6 bd b2 hJ hIts hp hK bs b1;rintro same k key p w4 ⟨ak,⟨sj,bq⟩,a4,ar,a2,b3,ay,a8,d0,cz,cy,d6,bf⟩;refine ciR (λO=>?_) (λO=>?_)
 .have d3:same<I.length:=by have:=oT O;omega
  clear O;have c4:=hB w4 ak;refine ρ ?_;refine rem (show((I.length:Nat):Int)≠0 by omega) ?_;rw[Qdz];have lr:k % I.length<I.length:=Nat.mod_lt _ hne;refine ixR (k % I.length) c4 lr ?_;refine ldR (c4.cell (Jxs lr)) ?_;refine ρ ?_;obtain⟨i,hi⟩:∃ i,i=I.getD (k % I.length) 0:=⟨_,rfl⟩;rw[<-hi];have D:i∈I:=by rw[hi];exact getD_mem' 0 I lr
  refine lds (cs:=key.cells) (λj u hu=>ar.at hu) ?_;refine ρ ?_;obtain⟨cw,cm⟩:=a4 i D;have a3:=hO.lev i D;have az:=hO.rng i D;have cc:=a2 i D;have bn:Off (λk=>k=F.G i) w4 (λu=>TriA u (F.A i) (F.d i) (F.rs i)):=((hT i D).gr ak).mono λj _ ej=>.inr ⟨i,D,ej⟩;refine cl (Qsq (v:=key) cm bn a3.1 a3.2.1 a3.2.2 cc.2 az.1 az.2 (λa b O h2 h3=>hO.srt i D a b om h2 h3)) ?_;rintro u w5 ⟨ae,q,c5,rfl,d2,d1,cb,ca,br⟩;have cn:∀ j∈I,j≠i->¬ (λk=>k=F.G i) (F.G j):=λj hj ce e=>ce (hO.inj j hj i D e);have bh:GrN (NG F I J) w4 w5:=ae.mono λj _ ej=>.inr ⟨i,D,ej⟩;have ah:Its F V' I w5 (upd p i q):=λj hj=>by
   by_cases e:j=i
   .subst e;rw[Ju];exact⟨c5,br⟩
   rw[Jm _ _ e];obtain⟨st,a5⟩:=a4 j hj;exact⟨st,Jc a5 ae (cn j hj e)⟩
  have bp:=Jc bq ae (λe=>hJG i D e.symm);have bl:¬ (λk=>k=F.G i) bk:=λe=>by have O:=aq i D;omega
  have bw:=Jc ar ae bl;have ad:=ak.trans bh;have before:∀ a,V'.lo i<=a->a<q->cmpV (F.val V' i a) key<0:=λa O h2=>by
   by_cases h3:a<p i
   .exact b3 i D a O h3
   exact cb a om h2
  refine ciR (λO=>?_) (λO=>?_)
  .have aa:¬ q<V'.e i:=by simpa using O
   refine ρ ?_;refine Jj ⟨ad,⟨sj,bp⟩,upd p i q,false,rfl,ah,λj hj=>?_,λe=>(by cases e),λ_ y hy ax=>?_⟩
   .by_cases e:j=i
    .subst e;rw[Ju];omega
    rw[Jm _ _ e];have:=a2 j hj;omega
   obtain⟨a,h2,h3,h4⟩:=hy i D;have h5:=a8 y hy ax;have h6:=before a h2 om;rw[h4]at h6;have:=cmp_V.anti key y;omega
  have aa:q<V'.e i:=by simpa using O
  have c9:=ca aa;clear O;refine clR (Jlj br (bn w5 ae) a3.2.1 a3.2.2 (λ_=>az.1)) ?_;rintro u w6 ⟨av,nx,rfl,cd⟩;have a1:nx=F.val V' i q:=cd ⟨a3.1,aa⟩;rw[decide_eq_true (show 0<V'.L i/\q<V'.e i from⟨a3.1,aa⟩)];refine Jv (cs:=V0.cells) Gj ?_;intro w7 b7 bb bm c3;refine Qw (cs':=nx.cells) c3 ?_ (V.one _);intro w8 c2 ch ba;have a7:Ext w5 w8:=av.trans (ba w6 bb bm);have ag:=bp.ext a7;refine ldR (ag.at (i:=2) rfl) ?_;refine Xq (p:=⟨J,2,none⟩) (ag.cell 2) (ag.frozen _) ?_;have ck:=ag.set 2 (.int .i64 (IntKind.i64.wrap (sj+1)));have cg:GrN (NG F I J) w8 (w8.setCell ⟨J,2,none⟩ (.int .i64 (IntKind.i64.wrap (sj+1)))):=GrN.set _ (.inl rfl);have cr:w.heap.size<=b7:=nL ad.size (nL av.size bm);have c1:Blk (w8.setCell ⟨J,2,none⟩ (.int .i64 (IntKind.i64.wrap (sj+1)))) b7 147 nx.cells:=c2.far (by simp only;omega) _;have ai:Blk (w8.setCell ⟨J,2,none⟩ (.int .i64 (IntKind.i64.wrap (sj+1)))) bk 147 key.cells:=(bw.ext a7).far (by simp only;omega) _
  have b5:Its F V' I (w8.setCell ⟨J,2,none⟩ (.int .i64 (IntKind.i64.wrap (sj+1)))) (upd p i q):=λj hj=>by
   obtain⟨st,a5⟩:=ah j hj;exact⟨st,(a5.ext a7).far (hJG j hj) _⟩
  have ao:=(ad.trans (GrN.ext a7)).trans cg;clear ch ba c2 c3 bb av ag;generalize w8.setCell ⟨J,2,none⟩ (.int .i64 (IntKind.i64.wrap (sj+1)))=w9 at *
  have bg:∀ j∈I,V'.lo j<=upd p i q j/\upd p i q j<V'.e j:=λj hj=>by
   by_cases e:j=i
   .subst e;rw[Ju];have:=a2 j hj;omega
   rw[Jm _ _ e];exact a2 j hj
  refine Jt (cs:=nx.cells) (λj u hu=>c1.at hu) ?_;refine Jt (cs:=key.cells) (λj u hu=>ai.at hu) ?_;refine clR (Jxh nx key _) ?_;rintro u b9 ⟨rfl,Z⟩;refine ρ ?_;have ap:JB b9 J jr ja yv:=⟨_,ck.ext Z⟩;have a9:Its F V' I b9 (upd p i q):=λj hj=>by
   obtain⟨st,a5⟩:=b5 j hj;exact⟨st,a5.ext Z⟩
  refine ci (λO=>?_) (λO=>?_)
  .have bi:nx=key:=cmp_V.zero _ _ (Zv O);refine ρ ?_;refine Kf (same+1) (k+1) key (upd p i q) sO ⟨ao.trans (GrN.ext Z),ap,a9,ai.ext Z,bg,λj hj a h2 h3=>?_,ay,a8,om,om,om,om,λs h2 h3=>?_⟩ om
   .by_cases e:j=i
    .subst e;rw[Ju]at h3;exact before a h2 h3
    rw[Jm _ _ e]at h3;exact b3 j hj a h2 h3
   by_cases e:s=1
   .subst e;rw[Nat.add_sub_cancel,<-hi,Ju,<-a1,bi]
   have h4:k+1-s=k-(s-1):=om
   rw[h4];have h5:(k-(s-1)) % I.length<I.length:=Nat.mod_lt _ hne;have h6:I.getD ((k-(s-1)) % I.length) 0≠i:=λe2=>by
    rw[hi,Qd 0 I h5,Qd 0 I lr]at e2;have e3:=Qqk hnd h5 lr e2;exact Qpt (n:=I.length) (k:=k) (s:=s-1) om om om e3
   rw[Jm _ _ h6];exact bf (s-1) om om
  have cp:=Xo O;have ac:cmpV key nx<0:=by
   have h2:=cmp_V.anti nx key;have h3:¬ cmpV nx key<0:=by rw[a1];exact c9
   omega
  have d4:=Qzl (U:=Jxc F V' I) (by rw[a1];exact Xwz D om aa) ac;have b8:=ai.ext Z;refine Jt (cs:=nx.cells) (λj u hu=>(c1.ext Z).at hu) ?_;refine Qw (cs':=nx.cells) b8 ?_ (V.one _);intro cv b6 af co;have an:∀ {g:Nat},g<w.heap.size->some g≠some bk:=fun {g} hg e=>by injection e with e;omega
  refine ρ ?_;refine Kf 1 (k+1) nx (upd p i q) sO ⟨(ao.trans (GrN.ext Z)).newBy af bj,?_,λj hj=>?_,b6,bg,λj hj a h2 h3=>?_,?_,λy hy ax=>?_,Nat.le_refl _,hne,om,om,λs h2 h3=>?_⟩ om
  .obtain⟨st,hJ⟩:=ap;exact⟨st,hJ.grown af (an bo)⟩
  .obtain⟨st,a5⟩:=a9 j hj;exact⟨st,a5.grown af (an (aq j hj))⟩
  .by_cases e:j=i
   .subst e;rw[Ju]at h3;exact cmp_V.lt_trans (before a h2 h3) ac
   rw[Jm _ _ e]at h3;exact cmp_V.lt_trans (b3 j hj a h2 h3) ac
  .exact Xxw ay om
  .obtain⟨a,h2,h3,h4⟩:=hy i D;have h5:=a8 y hy ax;have h6:q<=a:=by
    rcases Nat.lt_or_ge a q with h7|h7
    .have h8:=before a h2 h7;rw[h4]at h8;have:=cmp_V.anti key y;omega
    exact h7
   rw[a1,<-h4];by_cases e:a=q
   .subst e;rw[Vg];omega
   have:=hO.srt i D q a om om h3;omega
  have:s=1:=om
  subst this;rw[Nat.add_sub_cancel,<-hi,Ju];exact a1.symm
 have d5:same=I.length:=by have:=oF O;omega
 refine ρ ?_;refine Jj ⟨ak,⟨sj,bq⟩,p,true,rfl,a4,λi hi=>⟨(a2 i hi).1,Nat.le_of_lt (a2 i hi).2⟩,λ_=>⟨key,λi hi=>⟨(a2 i hi).2,?_⟩,ay,a8⟩,λe=>by cases e⟩;obtain⟨r,hr,er⟩:=List.getElem_of_mem hi;obtain⟨s,O,h2,h3⟩:=Qpv hr (show I.length<=k by omega);have:=bf s O om;rw[h3,Qd 0 I hr,er]at this;exact this
end Go.Proofs.YtgobkbeokaaplaaGreatDoor
namespace Go.Proofs.YtgobkbeokaaplaaGreatDoor
open Pl
variable {vs:List Nat}{d k l n u v:Nat}{q y z z':Row}
def Xy(vs:List Nat): Prop:=vs.Pairwise (· < ·)
def lv(vs:List Nat)(v:Nat): Nat:=(vs.filter λu=>decide (u<v)).length
theorem Qqx(vs:List Nat)(v:Nat): lv vs v<=vs.length:=List.length_filter_le _ _
theorem Jwq(vs:List Nat): lv vs 0=0:=by simp[lv]
theorem Qxb(h:∀ u∈vs,u<n): lv vs n=vs.length:=by grind [lv,List.filter_eq_self.2]
theorem Jbs(u:Nat)(vs:List Nat)(v:Nat): lv (u::vs) v=(if u<v then 1 else 0)+lv vs v:=by grind [lv,List.filter_cons_of_pos,List.length_cons,List.filter_cons_of_neg]
theorem Qqw(h:∀ u∈vs,v<=u): lv vs v=0:=by grind [lv,List.filter_eq_nil_iff.2]
theorem Jqh(h:v ∉ vs): lv vs (v+1)=lv vs v:=by
 induction vs with
 | nil=>rfl
 | cons u vs ih=>
  grind [Jbs,List.mem_cons_of_mem,List.mem_cons_self]
theorem Yy(ha:Xy vs)(h:v∈vs): lv vs (v+1)=lv vs v+1/\lv vs v<vs.length/\vs.getD (lv vs v) 0=v:=by
 induction vs with
 | nil=>cases h
 | cons u vs ih=>
  obtain⟨j,i⟩:=List.pairwise_cons.1 ha;rw[Jbs,Jbs];rcases List.mem_cons.1 h with rfl|h'
  .grind [lv,Qqw,Nat.le_of_lt,List.length_cons]
  have O:=j v h';obtain⟨J,G,D⟩:=ih i h';grind
theorem Qrp(ha:Xy vs): vs.take (lv vs v)=vs.filter λu=>decide (u<v):=by
 induction vs with
 | nil=>rfl
 | cons u vs ih=>
  obtain⟨j,i⟩:=List.pairwise_cons.1 ha;by_cases h:u<v
  .rw[Jbs,if_pos h,Nat.add_comm 1,List.take_succ_cons,ih i,List.filter_cons_of_pos (by simpa using h)]
  repeat grind [lv,Qqw,List.mem_cons.1,List.filter_eq_nil_iff.2]
theorem Jrv(h:z.take v=z'.take v)(hu:u<v): z.getD u V0=z'.getD u V0:=by
 have:=congrArg (λl=>l.getD u V0) h;grind
theorem Jgn(ha:Xy vs)(h:z.take v=z'.take v): (pmR vs z).take (lv vs v)=(pmR vs z').take (lv vs v):=by
 unfold pmR;rw[<-List.map_take,<-List.map_take,Qrp ha];grind [List.map_congr_left,Jrv,List.mem_filter.1]
theorem Qjv(h:k<vs.length): (pmR vs z).getD k V0=z.getD (vs.getD k 0) V0:=Qjr h
theorem Qjs(ha:Xy vs)(h:v∈vs): (pmR vs z).take (lv vs v+1)=(pmR vs z).take (lv vs v)++[z.getD v V0]:=by
 obtain⟨_,i,j⟩:=Yy ha h;rw[Qs V0 (by rw[Xw];exact i),Qjv i,j]
theorem Qwl: ∀(v:Nat) (z z':Row),z.take v=z'.take v->v<z.length->v<z'.length->cmpV (z.getD v V0) (z'.getD v V0)<0->Jw z z' []<0
 | 0,a::z,b::z',_,_,_,h=>by
  simp only[List.getD_cons_zero]at h;simp only[Jw];rw[if_neg om];exact h
 | v+1,a::z,b::z',h,h1,h2,h3=>by
  simp only[List.take_succ_cons,List.cons.injEq]at h;simp only[Jw];rw[if_pos (by grind [Vg])];exact Qwl v z z' h.2 (by simpa using h1) (by simpa using h2) (by simpa using h3)
 | _,[],_,_,h,_,_=>by simp at h
 | _,_::_,[],_,_,h,_=>by simp at h
def Vm(n m:Nat)(vars:Nat->List Nat)(rs:Nat->List Row)(z:Row): Prop:=z.length=n/\∀ i,i<m->pmR (vars i) z∈rs i
theorem Qff(h1:q.length=l+1)(h2:q.take l=y): q=y++[q.getD l V0]:=by
 have:=Qs V0 (l:=q) (k:=l) om;grind
theorem Qml{rs:List Row}(h:Srt [] rs)(hl:∀ r∈rs,r.length=d)(hld:l<=d)(hq:q∈pfx rs l): q.length=l:=by grind [Jwl,List.length_take]
theorem Qgj(x:V): (z.set v x).take v=z.take v:=List.take_set_of_le (nR _)
theorem Qgl(x:V)(h:v<z.length): (z.set v x).getD v V0=x:=by grind
theorem Jrt(h:z.take v=z'.take v)(hu:u<=v): z.take u=z'.take u:=by
 have:=congrArg (List.take u) h;grind
theorem Qfd(h:z.take v=z'.take v)(h1:v<z.length)(h2:v<z'.length)(h3:z.getD v V0=z'.getD v V0): z.take (v+1)=z'.take (v+1):=by grind [Qs,V0]
open Go.RowKit Pl Go.Wk
attribute [local irreducible] WC WL QX WD WDB WP WN
variable {L' e' i k v:Nat}{f' h' p':Nat->Nat}
structure JC where
 F: Fix
 n:Nat
 m:Nat
 vars:Nat->List Nat
 J:Nat
 Ra:Option Addr
 base:Nat
 ja:Value
 yv:Value
 vat:Nat->Value
 N:Nat->Prop
def JC.I(c:JC)(v:Nat): List Nat:=(List.range c.m).filter λi=>decide (v∈c.vars i)
theorem JC.mem_I{c:JC}: i∈c.I v↔i<c.m/\v∈c.vars i:=by simp[JC.I]
theorem JC.nodup_I(c:JC)(v:Nat): (c.I v).Nodup:=List.Nodup.sublist List.filter_sublist List.nodup_range
theorem JC.len_I(c:JC)(v:Nat): (c.I v).length<=c.m:=by have:=List.length_filter_le (λi=>decide (v∈c.vars i)) (List.range c.m);rw[List.length_range]at this;exact this
def JC.rowv(c:JC): Value:=.slice c.Ra c.n c.n
abbrev JC.Ans(c:JC)(z:Row): Prop:=Vm c.n c.m c.vars c.F.rs z
def JC.NI(c:JC)(k:Nat): Prop:=k=c.J∨(∃ i,i<c.m/\k=c.F.G i)∨c.rowv.ownBlock=some k
structure JOk(c:JC): Prop where
 n32:c.n<=32
 m32:c.m<=32
 asc:∀ i,i<c.m->Xy (c.vars i)
 lt:∀ i,i<c.m->∀ u∈c.vars i,u<c.n
 d:∀ i,i<c.m->c.F.d i=(c.vars i).length
 d32:∀ i,i<c.m->c.F.d i<=32
 ne:∀ i,i<c.m->c.F.rs i≠[]
 srt:∀ i,i<c.m->Lt [] (c.F.rs i)
 len:∀ i,i<c.m->∀ r∈c.F.rs i,r.length=c.F.d i
 big:∀ i,i<c.m->(c.F.rs i).length<=65536
 inj:∀ i j,i<c.m->j<c.m->c.F.G i=c.F.G j->i=j
 gj:∀ i,i<c.m->c.F.G i≠c.J
 cov:∀ v,v<c.n->∃ i,i<c.m/\v∈c.vars i
 sub:∀ k,c.NI k->c.N k
structure JEnv(c:JC)(w:World): Prop where
 tri:∀ i,i<c.m->Off c.N w (λu=>TriA u (c.F.A i) (c.F.d i) (c.F.rs i))
 at_:∃ B cc,c.ja=.slice B c.n cc/\Off c.N w (λu=>Rd u 1 B c.n ((List.range c.n).map c.vat))
 lists:∀ v,v<c.n->∃ B cc,c.vat v=.slice B (c.I v).length cc/\Off c.N w (λu=>Rd u 1 B (c.I v).length (Jxt c.F (c.I v)))
theorem JEnv.gr{c:JC}{w w':World}(h:JEnv c w)(hg:GrN c.N w w'): JEnv c w':=by
 refine⟨λi hi=>(h.tri i hi).gr hg,?_,λv D=>?_⟩
 .obtain⟨B,u,e,j⟩:=h.at_;exact⟨B,u,e,j.gr hg⟩
 obtain⟨B,u,e,j⟩:=h.lists v D;exact⟨B,u,e,j.gr hg⟩
def AllIt(c:JC)(w:World)(L p e:Nat->Nat)(f h:Nat->Nat->Nat): Prop:=∀ i,i<c.m->∃ st,ItB w (c.F.G i) (c.F.A i) (c.F.d i) (L i) (p i) (e i) (f i) (h i) st
structure YC(c:JC)(Y:List Row->World->Prop)(NY:Nat->Prop): Prop where
 sub:∀ k,NY k->c.N k
 off:∀ k,NY k->¬ c.NI k
 keep:∀ l w w',Y l w->GrN c.NI w w'->Y l w'
 call:∃ fid first cap,c.yv=.func (.func fid) first cap/\∀ l w vr z,Y l w->RowV w vr z->l.length<65536->Ret Tryz.prog fid (first.toList++[vr]++cap.toList) w λr w'=>r=.bool true/\Y (l++[z]) w'/\GrN NY w w'
structure Cfg(c:JC)(Y:List Row->World->Prop)(w:World)(z:Row)(L p e:Nat->Nat)(f h:Nat->Nat->Nat)(l:List Row): Prop where
 env:JEnv c w
 its:AllIt c w L p e f h
 row:Vh w c.base c.rowv z
 zl:z.length=c.n
 jb:JB w c.J c.rowv c.ja c.yv
 y:Y l w
section
variable {c:JC} {Y:List Row->World->Prop} {NY:Nat->Prop} {w w':World} {z:Row} {L p e:Nat->Nat} {f h:Nat->Nat->Nat} {l:List Row}
theorem Cfg.ext(H:Cfg c Y w z L p e f h l)(hY:YC c Y NY)(hx:Ext w w'): Cfg c Y w' z L p e f h l :=
 ⟨H.env.gr (GrN.ext hx),λi hi=>by obtain⟨st,j⟩:=H.its i hi;exact⟨st,j.ext hx⟩,Jk H.row hx,H.zl,by obtain⟨st,j⟩:=H.jb;exact⟨st,j.ext hx⟩,hY.keep _ _ _ H.y (GrN.ext hx)⟩
theorem Cfg.rowG(H:Cfg c Y w z L p e f h l)(hi:i<c.m)(hk:c.rowv.ownBlock=some k): k≠c.F.G i:=λu=>by
 obtain⟨st,j⟩:=H.its i hi;exact j.ne_own H.row rfl (by rw[hk,u])
theorem Cfg.rowJ(H:Cfg c Y w z L p e f h l)(hk:c.rowv.ownBlock=some k): k≠c.J:=λj=>by
 obtain⟨st,i⟩:=H.jb;exact i.ne_own H.row rfl (by rw[hk,j])
theorem Cfg.it(H:Cfg c Y w z L p e f h l)(hok:JOk c)(hY:YC c Y NY)(hi:i<c.m)(hg:GrN (λk=>k=c.F.G i) w w'){p':Nat}{st:Int}(hI:ItB w' (c.F.G i) (c.F.A i) (c.F.d i) L' p' e' f' h' st):
  Cfg c Y w' z (upd L i L') (upd p i p') (upd e i e') (upd f i f') (upd h i h') l:=by
 have u:GrN c.NI w w':=hg.mono λk _ D=>.inr (.inl ⟨i,hi,D⟩);refine⟨H.env.gr (u.mono λk _ Z=>hok.sub k Z),λj O=>?_,Ja H.row hg (λg eg=>H.rowG hi eg),H.zl,?_,hY.keep _ _ _ H.y u⟩
 .by_cases ej:j=i
  .grind [Ju]
  rw[Jm _ _ ej,Jm _ _ ej,Jm _ _ ej,Jm _ _ ej,Jm _ _ ej];obtain⟨st,J⟩:=H.its j O;exact⟨st,Jc J hg (λD=>ej (hok.inj j i O hi D))⟩
 obtain⟨st,J⟩:=H.jb;exact⟨st,Jc J hg (λD=>hok.gj i hi D.symm)⟩
theorem Cfg.mt(H:Cfg c Y w z L p e f h l)(hok:JOk c)(hY:YC c Y NY)(hg:GrN (NG c.F (c.I v) c.J) w w')(hJ:JB w' c.J c.rowv c.ja c.yv)(hI:Its c.F ⟨L,λ_=>0,e,f,h⟩ (c.I v) w' p'):
  Cfg c Y w' z L (λi=>if i∈c.I v then p' i else p i) e f h l:=by
 have D:GrN c.NI w w':=hg.mono λk _ u=>by
  rcases u with u|⟨i,hi,u⟩
  .exact .inl u
  exact .inr (.inl ⟨i,(JC.mem_I.1 hi).1,u⟩)
 refine⟨H.env.gr (D.mono λk _ Z=>hok.sub k Z),λj G=>?_,Ja H.row hg (λg O=>?_),H.zl,hJ,hY.keep _ _ _ H.y D⟩
 .by_cases ej:j∈c.I v
  .simp only[if_pos ej];exact hI j ej
  simp only[if_neg ej];obtain⟨st,h1⟩:=H.its j G;refine⟨st,Jc h1 hg ?_⟩;rintro(u|⟨i,hi,u⟩)
  .exact hok.gj j G u
  have:=hok.inj j i G (JC.mem_I.1 hi).1 u;subst this;exact ej hi
 rintro(u|⟨i,hi,u⟩)
 .exact H.rowJ O u
 exact H.rowG (JC.mem_I.1 hi).1 O u
end
end Go.Proofs.YtgobkbeokaaplaaGreatDoor
namespace Go.Wk
open Go.RowKit
open Go.Maps (Keyed)
variable {kl:Lit}{f:Lit->Option Value}{b k m:Nat}{x y:Operand}{kd:TK}{e t:TypeId}{key u v z:Value}
abbrev DV:= DataW Value
def RT(v:Value): Option (DV×List MemPlace):=some (.held v,[])
theorem Qbb{ps:List MemPlace}(h:RT v=some (.held u,ps)): v=u:=by grind [RT,Option.some.injEq]
def MapS(P:Program)(k:TypeId)(w:World)(b n:Nat)(f:Lit->Option Value): Prop :=
 ∃ D:DV,w.ownsMap P k RT b n D/\(∀ kl,Maps.has D kl=(f kl).isSome)/\∀ kl zd,D.atKey kl zd=(match f kl with|some v=>.held v|none=>zd)
def upL(f:Lit->Option Value)(kl:Lit)(x:Option Value): Lit->Option Value:=λz=>if z.sameKey kl=true then x else f z
section
variable {P:Program} {k:TypeId} {w w':World} {b n:Nat} {f:Lit->Option Value}
theorem MapS.lt(h:MapS P k w b n f): b<w.heap.size:=by obtain⟨D,i,_⟩:=h;exact i.lt
theorem MapS.kept{row:Option Nat}(h:MapS P k w b n f)(hg:w.grownBy w' row)(hne:some b≠row): MapS P k w' b n f:=by
 obtain⟨D,j,i⟩:=h;exact⟨D,j.kept hg hne,i⟩
theorem MapS.gr{N:Nat->Prop}(h:MapS P k w b n f)(hg:GrN N w w')(hn:¬ N b): MapS P k w' b n f:=by
 obtain⟨D,⟨es,i,u,J⟩,G⟩:=h;have j:b<w.heap.size:=by grind
 exact⟨D,⟨es,i,(hg.block b j hn).trans u,J⟩,G⟩
theorem MapS.ext(h:MapS P k w b n f)(hx:Ext w w'): MapS P k w' b n f:=h.gr (N:=λ_=>False) (GrN.ext hx) (λe=>e)
theorem MapS.mono(h:MapS P k w b n f){m:Nat}(hm:n<=m): MapS P k w b m f:=by obtain⟨D,j,i⟩:=h;exact⟨D,j.mono hm,i⟩
theorem MapS.made(w:World)(P:Program)(k:TypeId): MapS P k (w.alloc (.map #[] 0)) w.heap.size 0 (λ_=>none) :=
 ⟨.map [],World.ownsMap_made w P k RT,λi=>rfl,λi j=>rfl⟩
theorem Kw(hk:WideAt.IsKeyLit kl)(x:Option Value): upL f kl x kl=x:=by unfold upL;rw[if_pos (WideAt.sameKey_self hk)]
theorem Ul{z:Lit}(h:z≠kl)(x:Option Value): upL f kl x z=f z:=by
 unfold upL;rw[if_neg (by rw[Maps.sameKey_ne h];simp)]
theorem MapS.look(h:MapS P k w b n f)(K:Keyed P k)(ht:P.underlying t=some (.map k e))(hz:(zeroValue e).run P w=.ok z w)(hkey:keyOf P k key=some kl):
  (Instr.lookup t (.map (some b)) key true).run P w=.ok (.tuple #[(f kl).getD z,.bool (f kl).isSome]) w/\(Instr.lookup t (.map (some b)) key false).run P w=.ok ((f kl).getD z) w:=by
 obtain⟨D,i,J,G⟩:=h;have O:D.atKey kl (.held z)=.held ((f kl).getD z):=by grind
 constructor
 .obtain⟨v,ps,u,j⟩:=i.look_ok K ht hz (zd:=.held z) (zp:=[]) rfl hkey;grind [Qbb]
 obtain⟨v,ps,u,j⟩:=i.lookup K ht hz (zd:=.held z) (zp:=[]) rfl hkey;grind [Qbb]
theorem MapS.put(h:MapS P k w b n f)(K:Keyed P k)(ht:P.underlying t=some (.map k e))(hn:n<maxLen)(hkey:keyOf P k key=some kl)(v:Value):
  ∃ w',(Instr.mapUpdate t (.map (some b)) key v).run P w=.ok () w'/\MapS P k w' b (n+1) (upL f kl (some v))/\w.grownBy w' (some b):=by
 obtain⟨D,j,Z,O⟩:=h;obtain⟨w',u,G,J⟩:=j.update K ht hn hkey (val:=v) (d:=.held v) (ps:=[]) rfl;have i:=K.key hkey;refine⟨w',u,⟨_,G,λx=>?_,λx zd=>?_⟩,J⟩
 .by_cases e:x=kl
  .subst e;rw[Kw i,Maps.has_put_same j.isMap i];rfl
  rw[Ul e,Maps.has_put_other e,Z]
 by_cases e:x=kl
 .subst e;rw[Kw i,Maps.atKey_put_same j.isMap i]
 rw[Ul e,Maps.atKey_put_other e,O]
theorem MapS.drop(h:MapS P k w b n f)(K:Keyed P k){t e:TypeId}(ht:P.underlying t=some (.map k e)){key:Value}{kl:Lit}(hkey:keyOf P k key=some kl)(ty:TypeId):
  ∃ w',(Builtin.delete_ #[t,k] ty #[.map (some b),key]).run P w=.ok (.tuple #[]) w'/\MapS P k w' b n (upL f kl none)/\w.grownBy w' (some b):=by
 obtain⟨D,Z,O,J⟩:=h;obtain⟨w',j,u,G⟩:=Z.drop K ht hkey ty;have i:=K.key hkey;refine⟨w',j,⟨_,u,λx=>?_,λx zd=>?_⟩,G.grown⟩
 .by_cases e:x=kl
  .subst e;rw[Kw i,Maps.has_del_same];rfl
  rw[Ul e,Maps.has_del_other e,O]
 by_cases e:x=kl
 .subst e;rw[Kw i,Maps.atKey_del_same]
 rw[Ul e,Maps.atKey_del_other e,J]
theorem MapS.len0(h:MapS P k w b n f)(ht:P.underlying t=some (.map k e))(K:Keyed P k)(ty:TypeId): ∃ m:Nat,(Builtin.len_ #[t] ty #[.map (some b)]).run P w=.ok (.int .i64 (m:Int)) w/\(m=0↔∀ kl,f kl=none):=by
 obtain⟨D,u,j,G⟩:=h;refine⟨Maps.size D,u.len ht ty,?_⟩;obtain⟨es,rfl,_,i⟩:=u.entries K;constructor
 .intro h0 kl;have:es=[]:=List.eq_nil_of_length_eq_zero h0;subst this;have:=j kl;cases hf:f kl with
  | none=>rfl
  | some v=>rw[hf]at this;cases this
 intro hn;cases es with
 | nil=>rfl
 | cons p es=>
  have:=j p.1;rw[hn p.1,Maps.has_eq,List.any_cons,WideAt.sameKey_self (i p (List.mem_cons_self ..))]at this;cases this
theorem Jfs(hz:Qr P t=some z)(w:World): (zeroValue t).run P w=.ok z w:=by
 unfold Qr at hz;obtain⟨i,u,j⟩:=Option.bind_eq_some_iff.1 hz;simp[zeroValue,typeInfo,u,j]
end
section
variable {N:Nat->Prop} {P:Program} {n:Nat} {al:AL} {w:World} {Q:Exit->Act->World->Prop} {ops:Array Oper} {rest:List Oper} {drest:List (Nat×Oper)}
variable {d ty:Nat} {pos:String} {aft:Array Edge} {tt:TT}
theorem mkm{t:Nat}(k:TypeId)(kk:∀ w1 b,Ext w w1->w.heap.size<=b->MapS P k w1 b 0 (λ_=>none)->WL P n ops Q rest ((d,.map (some b))::al) w1)(hd:Nat.blt d n=true:=by rfl):
  WL P n ops Q (⟨some d,.makeMap t none,ty,pos,aft,none⟩::rest) al w :=
 wop hd (λa i=>by
  show _=Result.ok (Next.value (.map (some w.heap.size))) (w.alloc (.map #[] 0));simp[execOp,run_makeMap]) (kk _ _ ((Ext.refl w).alloc _) (nR _) (MapS.made w P k))
theorem mlk[hT:Tab P tt]{t e:Nat}(K:Keyed P k)(hM:MapS P k w b m f)(hz:Qr P e=some z)(hkey:keyOf P k key=some kl)(kk:WL P n ops Q rest ((d,(f kl).getD z)::al) w)(ht:tk tt t=some kd:=by rfl)(hk:kd.desc=.map k e:=by rfl)(hx:ev al x=some (.map (some b)):=by rfl)(hy:ev al y=some key:=by rfl)(hd:Nat.blt d n=true:=by rfl):
  WL P n ops Q (⟨some d,.lookup t x y false,ty,pos,aft,none⟩::rest) al w :=
 wop hd (λa i=>by
  have:=(hM.look K (Yw hT.ok ht hk rfl) (Jfs hz w) hkey).2;simp[execOp,i.ev hx,i.ev hy,this]) kk
theorem mup[hT:Tab P tt]{t e:Nat}{z:Operand}(K:Keyed P k)(hM:MapS P k w b m f)(hm:m<maxLen)(hkey:keyOf P k key=some kl)(kk:∀ w1,MapS P k w1 b (m+1) (upL f kl (some v))->w.grownBy w1 (some b)->WL P n ops Q rest al w1)(ht:tk tt t=some kd:=by rfl)(hk:kd.desc=.map k e:=by rfl)(hx:ev al x=some (.map (some b)):=by rfl)(hy:ev al y=some key:=by rfl)(hv:ev al z=some v:=by rfl):
  WL P n ops Q (⟨none,.mapUpdate t x y z,ty,pos,aft,none⟩::rest) al w:=by
 obtain⟨w',j,D,u⟩:=hM.put K (Yw hT.ok ht hk rfl) hm hkey v;exact Jjl (λa i=>by simp[execOp,i.ev hx,i.ev hy,i.ev hv,j]) (kk w' D u)
theorem mln[hT:Tab P tt]{t e:Nat}(K:Keyed P k)(hM:MapS P k w b m f)(kk:∀ q:Nat,(q=0↔∀ kl,f kl=none)->WL P n ops Q rest ((d,.int .i64 (q:Int))::al) w)(ht:tk tt t=some kd:=by rfl)(hk:kd.desc=.map k e:=by rfl)(hx:ev al x=some (.map (some b)):=by rfl)(hd:Nat.blt d n=true:=by rfl):
  WL P n ops Q (⟨some d,.call { callee:=.builtin .len,args:=#[x],argTypes:=#[t] },ty,pos,aft,none⟩::rest) al w:=by
 obtain⟨q,i,j⟩:=hM.len0 (Yw hT.ok ht hk rfl) K ty;exact wop hd (λa u=>by simp[execOp,resolve,invoke,builtin,u.ev hx,i]) (kk q j)
end
end Go.Wk
namespace Go.Wk
open Go.RowKit
variable {cs:List Value}{b d n ty:Nat}{α β:Type}{v v' z:Value}
def Xx(base:Nat)(v:Value)(k:Nat): Prop:=k<base∨v.ownBlock=some k
def Qm(ps:List (List Value×α)): List Value:=ps.flatMap (·.1)
theorem Jlq{α:Type}{sz:Nat}: ∀ {ps:List (List Value×α)},(∀ p∈ps,p.1.length=sz)->(Qm ps).length=ps.length*sz
 | [],_=>by simp[Qm]
 | p::ps,h=>by
  have:=Jlq (ps:=ps) λq hq=>h q (List.mem_cons_of_mem _ hq);grind [Qm,List.length_append,List.length_cons,List.mem_cons_self,Nat.succ_mul]
theorem Iu{α:Type}{sz:Nat}: ∀ {ps:List (List Value×α)} {i j:Nat} {p:List Value×α},(∀ p∈ps,p.1.length=sz)->ps[i]?=some p->j<sz->(Qm ps)[i*sz+j]?=p.1[j]?
 | [],_,_,_,_,h,_=>by cases h
 | q::ps,0,j,p,hl,h,hj=>by
  simp only[List.getElem?_cons_zero,Option.some.injEq]at h;subst h;simp only[Qm,List.flatMap_cons,Nat.zero_mul,Nat.zero_add];grind
 | q::ps,i+1,j,p,hl,h,hj=>by
  simp only[List.getElem?_cons_succ]at h;have ih:=Iu (i:=i) (j:=j) (λp hp=>hl p (List.mem_cons_of_mem _ hp)) h hj;grind [Qm,List.getElem?_append_right,List.mem_cons_self,Nat.succ_mul]
section
variable {α:Type} {E:TypeId} {sz:Nat} {Φ:World->List Value->α->Prop} {w w':World} {base:Nat} {v:Value} {ls:List α}
def OwnG(E:TypeId)(sz:Nat)(Φ:World->List Value->α->Prop)(w:World)(base:Nat)(v:Value)(ls:List α): Prop :=
 ∃ ps:List (List Value×α),ls=ps.map (·.2)/\w.ownsRow base E sz v ps.length (Qm ps)/\∀ p∈ps,p.1.length=sz/\Off (Xx base v) w (λu=>Φ u p.1 p.2)
def GV(sz:Nat)(Φ:World->List Value->α->Prop)(w:World)(v:Value)(ls:List α): Prop :=
 ∃(ps:List (List Value×α)) (A:Option Addr) (c:Nat),ls=ps.map (·.2)/\v=.slice A ps.length c/\ps.length<=c/\ps.length<=1100000/\Rd w sz A ps.length (Qm ps)/\∀ p∈ps,p.1.length=sz/\Φ w p.1 p.2
theorem OwnG.nil(w:World)(base:Nat): OwnG E sz Φ w base (.slice none 0 0) []:=⟨[],rfl,Zw _ _ _ _,λp hp=>by cases hp⟩
theorem OwnG.gr{N:Nat->Prop}(h:OwnG E sz Φ w base v ls)(hg:GrN N w w')(hN:∀ k,N k->k<base): OwnG E sz Φ w' base v ls:=by
 obtain⟨ps,e,j,hp⟩:=h;refine⟨ps,e,Ja j hg (λg D hn=>?_),λp i=>⟨(hp p i).1,(hp p i).2.gr (hg.mono λk _ u=>.inl (hN k u))⟩⟩;grind [Jy]
theorem OwnG.ext(h:OwnG E sz Φ w base v ls)(hx:Ext w w'): OwnG E sz Φ w' base v ls:=h.gr (N:=λ_=>False) (GrN.ext hx) (λk e=>e.elim)
theorem OwnG.form(h:OwnG E sz Φ w base v ls): ∃ A c,v=.slice A ls.length c/\ls.length<=c/\∀ g,v.ownBlock=some g->base<=g/\g<w.heap.size:=by
 obtain⟨ps,e,i,hp⟩:=h;grind [Jy,List.length_map]
theorem OwnG.gv(h:OwnG E sz Φ w base v ls)(hm:ls.length<=1100000): GV sz Φ w v ls:=by
 obtain⟨ps,e,i,hp⟩:=h;obtain⟨A,c,u,j,D⟩:=Jy i;subst u;exact⟨ps,A,c,e,rfl,j,by grind,Rd.own i,λp hm=>⟨(hp p hm).1,(hp p hm).2.here⟩⟩
theorem OwnG.off(h:OwnG E sz Φ w base v ls)(hm:ls.length<=1100000): Off (λk=>k<base) w (λu=>GV sz Φ u v ls):=λw' j=>(h.gr j λk i=>i).gv hm
theorem GV.ext(h:GV sz Φ w v ls)(hx:Ext w w')(hΦ:∀ cs a,Φ w cs a->Φ w' cs a): GV sz Φ w' v ls:=by
 obtain⟨ps,A,c,e,G,D,u,j,hp⟩:=h;exact⟨ps,A,c,e,G,D,u,j.ext hx,λp i=>⟨(hp p i).1,hΦ _ _ (hp p i).2⟩⟩
theorem GV.imp{Ψ:World->List Value->β->Prop}{f:α->β}(h:GV sz Φ w v ls)(hΦ:∀ cs a,a∈ls->Φ w cs a->Ψ w cs (f a)): GV sz Ψ w v (ls.map f):=by
 obtain⟨ps,A,c,e,J,G,D,i,hp⟩:=h;have u:Qm (ps.map λp=>(p.1,f p.2))=Qm ps:=by simp[Qm,List.flatMap_map]
 refine⟨ps.map λp=>(p.1,f p.2),A,c,by rw[e];simp,by grind,by grind,by grind,by grind,λp j=>?_⟩;grind
theorem GV.len(h:GV sz Φ w v ls): ∃ A c,v=.slice A ls.length c/\ls.length<=c/\ls.length<=1100000:=by
 obtain⟨ps,A,c,e,D,u,j,i,hp⟩:=h;grind
theorem GV.parts(h:GV sz Φ w v ls): ∃ A c cs,v=.slice A ls.length c/\ls.length<=c/\ls.length<=1100000/\Rd w sz A ls.length cs/\∀ i (hi:i<ls.length),∃ ce,ce.length=sz/\Φ w ce ls[i]/\∀ j u,ce[j]?=some u->w.cell? ((adr A (i*sz)).add j)=some u:=by
 obtain⟨ps,A,c,e,e1,e2,e3,J,hp⟩:=h;subst e;refine⟨A,c,Qm ps,by grind,by grind,by grind,by grind,λi hi=>?_⟩;rw[List.length_map]at hi;have O:=hp ps[i] (List.getElem_mem hi);refine⟨ps[i].1,O.1,by grind,λj u G=>?_⟩;have Z:j<sz:=by grind
 rw[Xh];exact J.cell ((Iu (λp D=>(hp p D).1) (gE hi) Z).trans G)
theorem OwnG.after{ps:List (List Value×α)}(e:ls=ps.map (·.2))(hp:∀ p∈ps,p.1.length=sz/\Off (Xx base v) w (λu=>Φ u p.1 p.2)){w':World}{x:α}(hl:cs.length=sz)(hx:Off (Xx base v) w (λu=>Φ u cs x))(ho:w'.ownsRow base E sz v' (ps.length+1) (Qm ps++cs))(hg:w.grownBy w' v.ownBlock)(hn:∀ g,v'.ownBlock=some g->v.ownBlock=some g∨w.heap.size<=g): OwnG E sz Φ w' base v' (ls++[x]):=by
 have i:∀(cs:List Value) (x:α),Off (Xx base v) w (λu=>Φ u cs x)->Off (Xx base v') w' (λu=>Φ u cs x):=λcs x D=>by
  have Z:Off (Xx base v) w' (λu=>Φ u cs x):=D.gr (GrN.by hg λk j=>.inr j);have J:Off (λk=>Xx base v k∨Xx base v' k) w (λu=>Φ u cs x):=D.mono λk j h=>by
   rcases h with h|h|h
   .exact h
   .exact .inl h
   rcases hn k h with h4|h4
   .exact .inr h4
   omega
  exact(J.gr (GrN.by hg λk j=>.inl (.inr j))).mono λk _ h=>.inr h
 refine⟨ps++[(cs,x)],by rw[e];simp,?_,λp G=>?_⟩
 .have O:Qm (ps++[(cs,x)])=Qm ps++cs:=by simp[Qm]
  rw[List.length_append,O];exact ho
 rcases List.mem_append.1 G with h'|h'
 .exact⟨(hp p h').1,i _ _ (hp p h').2⟩
 rw[List.mem_singleton.1 h'];exact⟨hl,i _ _ hx⟩
end
theorem apG{P:Program}{al:AL}{w:World}{Q:Exit->Act->World->Prop}{ops:Array Oper}{rest:List Oper}{pos:String}{aft:Array Edge}{t E sz bytes base:Nat}(hE:ElT P t E sz bytes z){Φ:World->List Value->α->Prop}{x y:Operand}{ls:List α}{a:α}(ho:OwnG E sz Φ w base v ls)(hb:Blk w b E cs)(hl:cs.length=sz)(h1:∀ u∈cs,u.oneCell'=true)(hΦ:Off (Xx base v) w (λu=>Φ u cs a))(hm:ls.length<=1100000)(hby:bytes<=64)(hbase:base<=w.heap.size)(kk:∀ v' w',OwnG E sz Φ w' base v' (ls++[a])->w.grownBy w' v.ownBlock->(∀ g,v'.ownBlock=some g->v.ownBlock=some g∨w.heap.size<=g)->WL P n ops Q rest ((d,v')::al) w')(hx:ev al x=some v:=by rfl)(hy:ev al y=some (.slice (some ⟨b,0,none⟩) 1 1):=by rfl)(hd:Nat.blt d n=true:=by rfl):
  WL P n ops Q (⟨some d,.call { callee:=.builtin .append,args:=#[x,y],argTypes:=#[t,t] },ty,pos,aft,none⟩::rest) al w:=by
 obtain⟨ps,e,j,hp⟩:=ho;have i:ps.length<=1100000:=by grind
 have D:(ps.length+1)*bytes<=1100001*64:=Nat.mul_le_mul om hby;refine apb hE j (hb.rd (n:=1) om) h1 (by unfold maxLen;omega) om hbase ?_ hx hy hd;grind [OwnG.after]
end Go.Wk
namespace Go.Proofs.YtgobkbeokaaplaaGreatDoor
namespace Pl
variable {cs l ord r:List Nat}{N O c j k m n p u v x:Nat}{g h:Nat->Nat}
def Jg: Nat->(Nat->Nat)->Nat
 | 0,_=>1
 | n+1,g=>Jg n g*g n
theorem Gw(e:∀ c,c<n->g c=h c): Jg n g=Jg n h:=by
 induction n with
 | zero=>rfl
 | succ n ih=>rw[Jg,Jg,ih (λc i=>e c om),e n om]
theorem Qmd(n:Nat)(g h:Nat->Nat): Jg n (λc=>g c*h c)=Jg n g*Jg n h:=by
 induction n with
 | zero=>rfl
 | succ n ih=>rw[Jg,Jg,Jg,ih,Nat.mul_assoc,Nat.mul_assoc,Nat.mul_left_comm (Jg n h)]
theorem Jgk(e:∀ c,c<n->g c=1): Jg n g=1:=by
 induction n with
 | zero=>rfl
 | succ n ih=>rw[Jg,ih (λc i=>e c om),e n om]
theorem prodR_pos: 0<Jg n g↔∀ c,c<n->0<g c:=by
 induction n with
 | zero=>exact⟨λ_ c i=>om,λ_=>Nat.one_pos⟩
 | succ n ih=>
  grind [Jg,Nat.pos_of_mul_pos_right,Nat.pos_of_mul_pos_left,Nat.mul_pos]
theorem Jwh(hk:k<n): Jg n g=g k*Jg n (λc=>if c=k then 1 else g c):=by
 induction n with
 | zero=>omega
 | succ n ih=>
  rw[Jg,Jg];by_cases e:k=n
  .subst e;rw[if_pos rfl,Nat.mul_one,Nat.mul_comm];grind [Gw]
  repeat grind
section
variable {α:Type}
def tot: List (α×Nat)->Nat
 | []=>0
 | p::l=>p.2+tot l
theorem Jkv(l m:List (α×Nat)): tot (l++m)=tot l+tot m:=by
 induction l with
 | nil=>simp[tot]
 | cons p l ih=>rw[List.cons_append,tot,tot,ih,Nat.add_assoc]
theorem Qds{l:List (α×Nat)}(h:∀ p∈l,0<p.2): 0<tot l↔l≠[]:=by
 cases l with
 | nil=>simp[tot]
 | cons p l=>have:=h p (List.mem_cons_self ..);simp[tot];omega
def prj(d0:α)(cs:List Nat)(y:List α): List α:=cs.map λc=>y.getD c d0
theorem Qmf(d0:α)(cs:List Nat)(y:List α): (prj d0 cs y).length=cs.length:=by simp[prj]
theorem Jbj{d0:α}{y z:List α}(h:∀ c∈cs,y.getD c d0=z.getD c d0): prj d0 cs y=prj d0 cs z:=List.map_congr_left h
theorem Jvd{d0:α}{y z:List α}(h:c<y.length): (y++z).getD c d0=y.getD c d0:=by grind
structure AX(α:Type) where
 d0: α
 F:Nat
 ks:Nat->List Nat
 par:Nat->Int
 E:Nat->List α->List (α×Nat)
def AX.key(X:AX α)(c:Nat)(y:List α): List α:=prj X.d0 (X.ks c) y
def AX.T(X:AX α)(c:Nat)(y:List α): Nat:=tot (X.E c (X.key c y))
structure AX.Ok(X:AX α): Prop where
 kl:∀ v,v<X.F->∀ u∈X.ks v,(u:Int)<=X.par v
 pl:∀ v,v<X.F->-1<=X.par v/\X.par v<v
 wt:∀ v,v<X.F->∀ y,y.length=v->∀ p∈X.E v (X.key v y),0<p.2/\p.2=Jg X.F (λc=>if X.par c=v then X.T c (y++[p.1]) else 1)
def AX.pend(X:AX α)(m:Nat)(y:List α): Nat:=Jg X.F (λc=>if m<=c/\X.par c<m then X.T c y else 1)
def AX.others(X:AX α)(m:Nat)(y:List α): Nat:=Jg X.F (λc=>if m<c/\X.par c<m then X.T c y else 1)
def AX.ext(X:AX α): Nat->List α->List (List α)
 | 0,y=>[y]
 | n+1,y=>(X.E y.length (X.key y.length y)).flatMap λp=>X.ext n (y++[p.1])
variable {X:AX α}
theorem AX.Ok.key_pre(h:X.Ok){y z:List α}(hc:c<X.F)(hp:X.par c<y.length): X.key c (y++z)=X.key c y :=
 Jbj λu i=>Jvd (by have:=h.kl c hc u i;omega)
theorem AX.Ok.T_pre(h:X.Ok){y z:List α}(hc:c<X.F)(hp:X.par c<y.length): X.T c (y++z)=X.T c y:=by rw[AX.T,AX.T,h.key_pre hc hp]
theorem AX.Ok.pend_split(h:X.Ok){y:List α}(hm:y.length<X.F): X.pend y.length y=X.T y.length y*X.others y.length y:=by
 unfold AX.pend AX.others;rw[Jwh hm,if_pos ⟨nR _,(h.pl _ hm).2⟩];grind
theorem AX.Ok.pend_next(h:X.Ok){y:List α}(hm:y.length<X.F){p:α×Nat}(hp:p∈X.E y.length (X.key y.length y)): X.pend (y.length+1) (y++[p.1])=p.2*X.others y.length y:=by
 rw[(h.wt _ hm y rfl p hp).2];unfold AX.pend AX.others;rw[<-Qmd];refine Gw λc i=>?_;have j:=h.pl c i;by_cases e:X.par c=y.length
 .grind
 rw[if_neg e,Nat.one_mul];by_cases e2:y.length<c/\X.par c<y.length
 .rw[if_pos e2,if_pos om,h.T_pre i e2.2]
 repeat grind
theorem Jlp{β:Type}{f:α×Nat->List β}{O:Nat}: ∀ {l:List (α×Nat)},(∀ p∈l,(f p).length=p.2*O)->(l.flatMap f).length=tot l*O
 | [],_=>by simp[tot]
 | p::l,h=>by
  rw[List.flatMap_cons,List.length_append,h p (List.mem_cons_self ..),Jlp λq hq=>h q (List.mem_cons_of_mem _ hq),tot,Nat.add_mul]
theorem Xjc{β:Type}{f:α×Nat->List β}{l1 l2:List (α×Nat)}{p:α×Nat}(h:∀ q∈l1++p::l2,(f q).length=q.2*O)(h1:tot l1*O<=k)(h2:k<(tot l1+p.2)*O): ((l1++p::l2).flatMap f)[k]?=(f p)[k-tot l1*O]?:=by grind [tot,Jlp,List.mem_append_left,List.mem_append_right,List.mem_cons_self,List.getElem?_append_right,List.getElem?_append_left,Nat.add_mul]
theorem AX.Ok.ext_len(h:X.Ok): ∀(n:Nat) (y:List α),y.length+n=X.F->(X.ext n y).length=X.pend y.length y
 | 0,y,e=>by grind [AX.ext,AX.pend,Jgk]
 | n+1,y,e=>by
  have hm:y.length<X.F:=om
  rw[AX.ext,h.pend_split hm,AX.T];refine Jlp λp hp=>?_;have:=h.ext_len n (y++[p.1]) (by simp;omega);rw[this,List.length_append,List.length_singleton,h.pend_next hm hp]
theorem AX.Ok.ext_at(h:X.Ok){y:List α}(e:y.length+(n+1)=X.F){l1 l2:List (α×Nat)}{p:α×Nat}(hE:X.E y.length (X.key y.length y)=l1++p::l2)(ho:0<X.others y.length y)(h1:tot l1<=k / X.others y.length y)(h2:k / X.others y.length y<tot l1+p.2):
  (X.ext (n+1) y)[k]?=(X.ext n (y++[p.1]))[(k / X.others y.length y-tot l1)*X.others y.length y+k % X.others y.length y]?/\(k / X.others y.length y-tot l1)*X.others y.length y+k % X.others y.length y<X.pend (y.length+1) (y++[p.1]):=by
 have i:y.length<X.F:=om
 have hp:p∈X.E y.length (X.key y.length y):=by grind
 have u:∀ q∈X.E y.length (X.key y.length y),(X.ext n (y++[q.1])).length=q.2*X.others y.length y:=λq j=>by
  rw[h.ext_len n (y++[q.1]) (by simp;omega),List.length_append,List.length_singleton,h.pend_next i j]
 rw[h.pend_next i hp,AX.ext];generalize X.others y.length y=O at *
 have G:=Nat.div_add_mod k O;have D:=Nat.mod_lt k ho;rw[hE]at u ⊢;have a1:tot l1*O<=k:=by
  have:=nO O h1;grind
 have Z:k<(tot l1+p.2)*O:=by
  have:=nO O h2;grind
 have J:(k / O-tot l1)*O+k % O=k-tot l1*O:=by rw[Nat.sub_mul,Nat.mul_comm (k / O)];have:=nO O h1;grind
 grind [Xjc,Nat.add_mul]
theorem AX.ext_mem: ∀(n:Nat) (y x:List α),x∈X.ext n y↔x.length=y.length+n/\x.take y.length=y/\∀ v,y.length<=v->v<y.length+n->x.getD v X.d0∈(X.E v (X.key v (x.take v))).map (·.1)
 | 0,y,x=>by grind [AX.ext,List.mem_singleton,List.take_length,List.take_of_length_le]
 | n+1,y,x=>by
  rw[AX.ext,List.mem_flatMap];constructor
  .rintro⟨p,hp,hx⟩;obtain⟨h1,h2,h3⟩:=(AX.ext_mem n _ x).1 hx;rw[List.length_append,List.length_singleton]at h1 h2 h3;have hy:x.take y.length=y:=by
    have:=congrArg (List.take y.length) h2;grind
   refine⟨om,hy,λv h4 h5=>?_⟩;by_cases e:v=y.length
   .subst e;rw[hy];have:x.getD y.length X.d0=p.1:=by
     have:=congrArg (λl=>l.getD y.length X.d0) h2;grind
    grind
   repeat grind
  rintro⟨h1,h2,h3⟩;obtain⟨p,hp,e⟩:=List.mem_map.1 (h3 y.length (nR _) om);rw[h2]at hp;refine⟨p,hp,(AX.ext_mem n _ x).2 ⟨?_,?_,λv h4 h5=>h3 v ?_ ?_⟩⟩
  .simp;omega
  .rw[List.length_append,List.length_singleton,e];have hl:y.length<x.length:=om
   grind [List.take_add_one,List.getD,List.getElem?_eq_getElem]
  repeat grind
end
structure BX(α:Type) where
 d0: α
 N:Nat
 F:Nat
 K:Nat->List Nat
 par:Nat->Int
 pl:Nat->Nat
 ats:List (List Nat×List (List α))
 T:Nat->List α->Nat
 E:Nat->List α->List (α×Nat)
section
variable {α:Type}
def BX.bag(X:BX α)(v:Nat)(z:List α): Prop:=∀ a∈X.ats,∃ r∈a.2,∀ j,j<a.1.length->(a.1.getD j 0=v∨a.1.getD j 0∈X.K v)->r.getD j X.d0=z.getD (a.1.getD j 0) X.d0
def BX.W(X:BX α)(v:Nat)(z:List α): Nat:=Jg X.N (λc=>if X.par c=v then X.T c (prj X.d0 (X.K c) z) else 1)
structure BX.Ok(X:BX α): Prop where
 FN:X.F<=X.N
 plN:∀ v,v<X.N->X.pl v<X.N
 inj:∀ u v,u<X.N->v<X.N->X.pl u=X.pl v->u=v
 k1:∀ v,v<X.N->∀ u∈X.K v,u<X.N/\X.pl v<X.pl u
 k2:∀ v,v<X.N->(X.K v=[]/\X.par v = -1)∨∃ p:Nat,X.par v=p/\p∈X.K v/\∀ u∈X.K v,X.pl p<=X.pl u
 k3:∀ v,v<X.N->∀ p:Nat,X.par v=p->∀ x∈X.K v,x=p∨x∈X.K p
 k4:∀ a∈X.ats,∀ v∈a.1,(∀ u∈a.1,X.pl v<=X.pl u)->∀ u∈a.1,u=v∨u∈X.K v
 k5:∀ u v,u<X.F->v<u->X.pl u<X.pl v
 k6:∀ u v,u<X.F->X.F<=v->v<X.N->X.pl v<X.pl u
 al:∀ a∈X.ats,(∀ u∈a.1,u<X.N)/\∀ r∈a.2,r.length=a.1.length
 t1:∀ v,X.F<=v->v<X.N->∀ k,X.T v k<=1/\(0<X.T v k↔∃ z,z.length=X.N/\X.bag v z/\prj X.d0 (X.K v) z=k/\0<X.W v z)
 t2:∀ v,v<X.F->∀ k,X.T v k=tot (X.E v k)/\∀ p,p∈X.E v k↔∃ z,z.length=X.N/\X.bag v z/\prj X.d0 (X.K v) z=k/\z.getD v X.d0=p.1/\p.2=X.W v z/\0<p.2
def BX.Join(X:BX α)(z:List α): Prop:=z.length=X.N/\∀ a∈X.ats,prj X.d0 a.1 z∈a.2
def BX.Roots(X:BX α): Prop:=(∀ v,v<X.N->X.par v = -1->0<X.T v [])/\∀ a∈X.ats,a.2≠[]
variable {X:BX α}
theorem Jwj(d0:α){y:List α}(h:j<cs.length): (prj d0 cs y).getD j d0=y.getD (cs.getD j 0) d0:=by
 simp[prj,List.getD,List.getElem?_eq_getElem h]
theorem BX.Ok.kpar(h:X.Ok)(hc:c<X.N)(hp:X.par c=v): v∈X.K c/\v<X.N/\X.pl c<X.pl v/\∀ u∈X.K c,u=v∨u∈X.K v:=by
 rcases h.k2 c hc with⟨_,i⟩|⟨p,i,h3,_⟩
 .rw[i]at hp;omega
 have:p=v:=om
 subst this;exact⟨h3,(h.k1 c hc p h3).1,(h.k1 c hc p h3).2,h.k3 c hc p hp⟩
theorem BX.Ok.kroot(h:X.Ok)(hc:c<X.N)(hp:X.par c = -1): X.K c=[]:=by
 rcases h.k2 c hc with⟨i,_⟩|⟨p,i,_,_⟩
 .exact i
 omega
theorem BX.bag_congr{z z':List α}(e:∀ u,u=v∨u∈X.K v->z.getD u X.d0=z'.getD u X.d0)(hb:X.bag v z): X.bag v z':=λa i=>by
 obtain⟨r,j,D⟩:=hb a i;grind
theorem BX.Ok.W_congr(h:X.Ok){z z':List α}(e:∀ u,u=v∨u∈X.K v->z.getD u X.d0=z'.getD u X.d0): X.W v z=X.W v z':=by
 refine Gw λc j=>?_;split
 .rename_i hp;rw[Jbj λu i=>e u ((h.kpar j hp).2.2.2 u i)]
 rfl
theorem BX.Ok.join_W(h:X.Ok){z:List α}(hz:X.Join z): (∀ v,X.bag v z)/\∀ v,v<X.N->0<X.W v z/\0<X.T v (prj X.d0 (X.K v) z):=by
 have u:∀ v,X.bag v z:=λv a Z=>⟨_,hz.2 a Z,λj J _=>Jwj X.d0 J⟩;refine⟨u,?_⟩;have key:∀ n v,v<X.N->X.pl v<n->0<X.W v z/\0<X.T v (prj X.d0 (X.K v) z):=by
  intro n;induction n with
  | zero=>intro v _ h1;omega
  | succ n ih=>
   intro v i h1;have D:0<X.W v z:=by
    refine prodR_pos.2 λc O=>?_;split
    .rename_i hp;have:=(h.kpar O hp).2.2.1;grind
    exact Nat.one_pos
   refine⟨D,?_⟩;by_cases hF:v<X.F
   .rw[(h.t2 v hF _).1];have G:=((h.t2 v hF (prj X.d0 (X.K v) z)).2 (z.getD v X.d0,X.W v z)).2 ⟨z,hz.1,u v,rfl,rfl,rfl,D⟩;obtain⟨l1,l2,e⟩:=List.append_of_mem G;grind [Jkv,tot]
   exact(h.t1 v om i _).2.2 ⟨z,hz.1,u v,rfl,D⟩
 exactλv i=>key _ v i (h.plN v i)
theorem getD_set'(d0:α)(l:List α)(i k:Nat)(x:α)(hi:i<l.length): (l.set i x).getD k d0=if k=i then x else l.getD k d0:=by grind
theorem BX.Ok.choose(h:X.Ok){y:List α}(hy:y.length=X.F)(hE:∀ v,v<X.F->y.getD v X.d0∈(X.E v (prj X.d0 (X.K v) y)).map (·.1))(hR:X.Roots):
  ∀ n,n<=X.N->∃ z,z.length=X.N/\(∀ u,u<X.F->z.getD u X.d0=y.getD u X.d0)/\∀ v,v<X.N->(v<X.F∨X.N<=X.pl v+n)->X.bag v z/\0<X.W v z:=by
 intro n;induction n with
 | zero=>
  intro _;refine⟨y++List.replicate (X.N-X.F) X.d0,by have:=h.FN;simp[hy];omega,λu G=>Jvd om,λv hv J=>?_⟩;have hF:v<X.F:=J.resolve_right (by have:=h.plN v hv;omega);obtain⟨p,hp,e⟩:=List.mem_map.1 (hE v hF);obtain⟨z,hz,hb,hk,a5,hw,h0⟩:=((h.t2 v hF _).2 p).1 hp;have i:∀ u,u=v∨u∈X.K v->z.getD u X.d0=(y++List.replicate (X.N-X.F) X.d0).getD u X.d0:=by
   intro u G;have ad:u<X.F:=by
    rcases G with rfl|G
    .exact hF
    have:=h.k1 v hv u G;rcases Nat.lt_or_ge u X.F with h'|h'
    .exact h'
    have:=h.k6 v u hF h' this.1;omega
   rw[Jvd om];rcases G with rfl|G
   .rw[a5,e]
   obtain⟨j,hj,ej⟩:=List.getElem_of_mem G;have:=congrArg (λl=>l.getD j X.d0) hk;grind [Jwj,List.getD,List.getElem?_eq_getElem]
  exact⟨BX.bag_congr i hb,by rw[<-h.W_congr i,<-hw];exact h0⟩
 | succ n ih=>
  intro hn;obtain⟨z,hz,a9,hg⟩:=ih om;by_cases hv:∃ v,v<X.N/\X.F<=v/\X.pl v+(n+1)=X.N
  .obtain⟨v,D,a1,ac⟩:=hv;have hT:0<X.T v (prj X.d0 (X.K v) z):=by
    rcases h.k2 v D with⟨h1,h2⟩|⟨p,h2,h3,_⟩
    .rw[h1];exact hR.1 v D h2
    have hp:=h.kpar D h2;have:=(hg p hp.2.1 (.inr om)).2;have h5:=prodR_pos.1 this v D;grind
   obtain⟨O,aa,a8,a7,a4⟩:=(h.t1 v a1 D _).2.1 hT;have ab:v<z.length:=om
   have far:∀ u,u≠v->(z.set v (O.getD v X.d0)).getD u X.d0=z.getD u X.d0:=by grind
   refine⟨z.set v (O.getD v X.d0),by simp[hz],λu G=>by grind,λu G J=>?_⟩;by_cases e:u=v
   .subst e;have i:∀ x,x=u∨x∈X.K u->O.getD x X.d0=(z.set u (O.getD u X.d0)).getD x X.d0:=by
     intro x Z;by_cases ex:x=u
     .grind
     rw[far x ex];have a3:=Z.resolve_left ex;obtain⟨j,hj,ej⟩:=List.getElem_of_mem a3;have:=congrArg (λl=>l.getD j X.d0) a7;grind [Jwj,List.getD,List.getElem?_eq_getElem]
    exact⟨BX.bag_congr i a8,by rw[<-h.W_congr i];exact a4⟩
   have a6:X.pl v<X.pl u:=by
    rcases J with J|J
    .exact h.k6 u v J a1 D
    have:X.pl u≠X.pl v:=λe'=>e (h.inj u v G D e');omega
   have i:∀ x,x=u∨x∈X.K u->z.getD x X.d0=(z.set v (O.getD v X.d0)).getD x X.d0:=by
    intro x Z;refine(far x ?_).symm;rintro rfl;rcases Z with rfl|Z
    .exact e rfl
    have:=(h.k1 u G x Z).2;omega
   have a2:=hg u G (by grind);exact⟨BX.bag_congr i a2.1,by rw[<-h.W_congr i];exact a2.2⟩
  repeat grind
theorem Qqq(pl:Nat->Nat): ∀ {l:List Nat},l≠[]->∃ v∈l,∀ u∈l,pl v<=pl u
 | [v],_=>⟨v,List.mem_cons_self ..,λu hu=>by grind⟩
 | v::x::l,_=>by
  obtain⟨w,hw,h1⟩:=Qqq pl (l:=x::l) (by simp);grind
theorem BX.Ok.answers(h:X.Ok){y:List α}(hy:y.length=X.F):
  ((∀ v,v<X.F->y.getD v X.d0∈(X.E v (prj X.d0 (X.K v) y)).map (·.1))/\X.Roots)↔∃ z,X.Join z/\z.take X.F=y:=by
 constructor
 .rintro⟨hE,hR⟩;obtain⟨z,G,Z,hg⟩:=h.choose hy hE hR X.N (nR _);have J:∀ v,v<X.N->X.bag v z:=by grind
  refine⟨z,⟨G,λa D=>?_⟩,?_⟩
  .by_cases e:a.1=[]
   .obtain⟨r,O⟩:=List.exists_mem_of_ne_nil _ (hR.2 a D);have:=(h.al a D).2 r O;grind [prj,List.eq_nil_of_length_eq_zero]
   obtain⟨v,i,hm⟩:=Qqq X.pl e;obtain⟨r,O,h1⟩:=J v ((h.al a D).1 v i) a D;have hl:=(h.al a D).2 r O;have:prj X.d0 a.1 z=r:=by
    apply List.ext_getElem
    .rw[Qmf,hl]
    intro j h2 h3;rw[hl]at h3;have:=h1 j h3 (h.k4 a D v i hm _ (by grind));grind [List.getD,List.getElem?_eq_getElem,prj]
   rw[this];exact O
  apply List.ext_getElem?
  intro j;rw[List.getElem?_take];by_cases hj:j<X.F
  .rw[if_pos hj];have:=Z j hj;have a1:=h.FN;grind
  repeat grind
 rintro⟨z,G,e⟩;obtain⟨hb,hW⟩:=h.join_W G;refine⟨λv i=>?_,λv i hp=>?_,λa D he=>?_⟩
 .have a1:=h.FN;have far:∀ u,u<X.F->y.getD u X.d0=z.getD u X.d0:=by grind
  have ek:prj X.d0 (X.K v) y=prj X.d0 (X.K v) z:=Jbj λu hu=>far u (by
   have:=h.k1 v om u hu;rcases Nat.lt_or_ge u X.F with h'|h'
   .exact h'
   have:=h.k6 v u i h' this.1;omega)
  rw[ek,far v i];exact List.mem_map.2 ⟨(z.getD v X.d0,X.W v z),((h.t2 v i _).2 _).2 ⟨z,G.1,hb v,rfl,rfl,rfl,(hW v om).1⟩,rfl⟩
 .have:=(hW v i).2;rw[h.kroot i hp]at this;exact this
 have:=G.2 a D;grind
def BX.ix(X:BX α): AX α:=⟨X.d0,X.F,X.K,X.par,X.E⟩
theorem Qjp(hmn : m ≤ n){g : Nat → Nat}(h : ∀ c, m ≤ c → c < n → g c = 1): Jg n g = Jg m g := by
  induction n with
  | zero => have : m = 0 := by omega
            subst this; rfl
  | succ n ih =>
    by_cases e : m = n + 1
    . rw [e]
    . rw [Jg, h n om om, Nat.mul_one, ih om (fun c h1 h2 => h c h1 om)]
theorem BX.Ok.ixOk(h:X.Ok): X.ix.Ok:=by
 have a5:=h.FN;have kf:∀ v,v<X.F->∀ u∈X.K v,u<v:=λv G u D=>by
  have h1:=h.k1 v om u D;rcases Nat.lt_or_ge u X.F with J|J
  .rcases Nat.lt_trichotomy u v with h3|h3|h3
   .exact h3
   .subst h3;omega
   have:=h.k5 u v J h3;omega
  have:=h.k6 v u G J h1.1;omega
 refine⟨λv G u D=>?_,λv G=>?_,λv G y hy p hp=>?_⟩
 .have O:v<X.F:=G;rcases h.k2 v om with⟨h1,_⟩|⟨p,J,h3,h4⟩
  .rw[show X.ix.ks v=[] from h1]at D;cases D
  rw[show X.ix.par v=p from J];have h5:=h4 u D;have h6:=kf v G u D;have h7:=kf v G p h3;rcases Nat.lt_or_ge p u with h8|h8
  .have:=h.k5 u p om h8;omega
  omega
 .have O:v<X.F:=G;rcases h.k2 v om with⟨_,J⟩|⟨p,J,h3,_⟩
  .rw[show X.ix.par v = -1 from J];omega
  rw[show X.ix.par v=p from J];have:=kf v G p h3;omega
 have O:v<X.F:=G;obtain⟨z,hz,hb,hk,a6,hw,h0⟩:=((h.t2 v O _).2 p).1 hp;refine⟨h0,?_⟩;have Z:∀ u,u=v∨u∈X.K v->z.getD u X.d0=(y++[p.1]).getD u X.d0:=by
  intro u D;rcases D with rfl|D
  .grind
  rw[Jvd (by grind)];obtain⟨j,hj,ej⟩:=List.getElem_of_mem D;have:=congrArg (λl=>l.getD j X.d0) hk;rw[Jwj X.d0 hj]at this;have e2:(X.ix.key v y).getD j X.d0=y.getD ((X.K v).getD j 0) X.d0:=Jwj X.d0 hj;grind
 have a1:0<X.W v z:=by rw[<-hw];exact h0
 rw[hw,BX.W];have e3:∀ c,c<X.N->X.par c=v->X.T c (prj X.d0 (X.K c) z)=X.T c (prj X.d0 (X.K c) (y++[p.1])):=λc hc i=>by
  rw[Jbj λu D=>Z u ((h.kpar hc i).2.2.2 u D)]
 rw[Qjp a5 (λc a3 a2=>?_)]
 .refine Gw λc hc=>?_;have a4:c<X.F:=hc;show _=if X.par c=v then tot (X.E c (prj X.d0 (X.K c) (y++[p.1]))) else 1
  split
  .rename_i i;rw[e3 c om i,(h.t2 c a4 _).1]
  rfl
 by_cases i:X.par c=v
 .have h5:=prodR_pos.1 a1 c a2;rw[if_pos i]at h5 ⊢;have:=(h.t1 c a3 a2 (prj X.d0 (X.K c) z)).1;omega
 rw[if_neg i]
end
def Gn(v:Nat)(nb:Nat->Nat->Bool): Nat->Nat->Bool:=λu x=>if nb v u then(nb u x || nb v x) && (x != u) && (x != v) else nb u x
def Yv(nb:Nat->Nat->Bool): List Nat->Nat->Nat->Bool
 | []=>nb
 | v::l=>Yv (Gn v nb) l
theorem Qqm(nb:Nat->Nat->Bool)(l m:List Nat): Yv nb (l++m)=Yv (Yv nb l) m:=by
 induction l generalizing nb with
 | nil=>rfl
 | cons v l ih=>exact ih _
structure NbInv(l:List Nat)(nb:Nat->Nat->Bool): Prop where
 sym:∀ u x,u ∉ l->x ∉ l->nb u x=nb x u
 gone:∀ u x,u ∉ l->nb u x=true->x ∉ l/\x≠u
theorem NbInv.step{nb:Nat->Nat->Bool}(h:NbInv l nb)(hv:v ∉ l): NbInv (l++[v]) (Gn v nb):=by
 have G:∀ {u},u ∉ l++[v]->u ∉ l/\u≠v:=by grind
 constructor
 .intro u x J i;obtain⟨j,u2⟩:=G J;obtain⟨Z,x2⟩:=G i;have s1:=h.sym u x j Z;unfold Gn;by_cases e1:nb v u=true<;>by_cases e2:nb v x=true
  .grind
  .rw[if_pos e1,if_neg e2];have O:(x != v)=true:=bne_iff_ne.2 x2;rw[Bool.not_eq_true]at e2;rw[e2,O,Bool.or_false,Bool.and_true,<-s1];cases e3:nb u x with
   | false=>rfl
   | true=>rw[bne_iff_ne.2 (h.gone u x j e3).2];rfl
  .rw[if_neg e1,if_pos e2];have O:(u != v)=true:=bne_iff_ne.2 u2;rw[Bool.not_eq_true]at e1;rw[e1,O,Bool.or_false,Bool.and_true,s1];cases e3:nb x u with
   | false=>rfl
   | true=>rw[bne_iff_ne.2 (h.gone x u Z e3).2];rfl
  repeat grind
 intro u x J i;obtain⟨j,u2⟩:=G J;unfold Gn at i;rw[List.mem_append,List.mem_singleton,not_or];by_cases e1:nb v u=true
 .rw[if_pos e1]at i;simp only[Bool.and_eq_true,Bool.or_eq_true,bne_iff_ne]at i;refine⟨⟨?_,i.2⟩,i.1.2⟩;rcases i.1.1 with D|D
  .exact(h.gone u x j D).1
  exact(h.gone v x hv D).1
 rw[if_neg e1]at i;obtain⟨D,h2⟩:=h.gone u x j i;refine⟨⟨D,λe=>?_⟩,h2⟩;subst e;exact e1 ((h.sym x u D j).trans i)
theorem NbInv.at{nb:Nat->Nat->Bool}(h:NbInv [] nb): ∀ {l:List Nat},l.Nodup->NbInv l (Yv nb l):=by
 intro l;have key:∀(l m:List Nat) (i:Nat->Nat->Bool),NbInv m i->(m++l).Nodup->NbInv (m++l) (Yv i l):=by
  intro l;induction l with
  | nil=>intro m i h _;rw[List.append_nil];exact h
  | cons v l ih=>
   intro m i h hn;have j:v ∉ m:=by grind
   have e:m++v::l=(m++[v])++l:=by simp
   rw[e]at hn ⊢;exact ih (m++[v]) _ (h.step j) hn
 intro hn;exact key l [] nb h hn
theorem Jhc{p x:Nat}(hx:x≠p): ∀ {mid:List Nat} {nb:Nat->Nat->Bool},nb p x=true->x ∉ mid->Yv nb mid p x=true
 | [],_,h,_=>h
 | w::mid,nb,h,hm=>by
  rw[Yv];refine Jhc hx ?_ (λh'=>hm (List.mem_cons_of_mem _ h'));have hw:x≠w:=by grind
  unfold Gn;grind
def pre(ord:List Nat)(v:Nat): List Nat:=ord.takeWhile (· != v)
def Vf(nb:Nat->Nat->Bool)(ord:List Nat)(v u:Nat): Bool:=Yv nb (pre ord v) v u
theorem Jgl(h:v ∉ l): pre (l++v::r) v=l:=by
 induction l with
 | nil=>simp[pre]
 | cons x l ih=>
  grind [List.mem_cons_self,pre,List.takeWhile_cons,List.mem_cons_of_mem]
theorem Jyw(h:v∈ord): ∃ r,ord=pre ord v++v::r/\v ∉ pre ord v:=by
 obtain⟨l,r,e,hn⟩:=List.append_of_mem h |>.elim λl i=>i.elim λr e=>(⟨l,r,e,trivial⟩:∃ l r,ord=l++v::r/\True);clear hn;have:∀ l:List Nat,∃ r',l++v::r=pre (l++v::r) v++v::r'/\v ∉ pre (l++v::r) v:=by
  intro l;induction l with
  | nil=>exact⟨r,by simp[pre],by simp[pre]⟩
  | cons x l ih=>
   grind [pre,List.takeWhile_cons]
 rw[e];exact this l
def Jyd(ord:List Nat)(v u:Nat): Prop:=u ∉ pre ord v
section
variable {nb:Nat->Nat->Bool} {ord:List Nat} (h0:NbInv [] nb) (hn:ord.Nodup)
theorem Qjq(hn:ord.Nodup)(v:Nat): (pre ord v).Nodup:=hn.sublist (List.takeWhile_sublist _)
include h0 hn
theorem Jhw(hv:v∈ord)(hk:Vf nb ord v u=true): Jyd ord v u/\u≠v:=by
 obtain⟨r,e,i⟩:=Jyw hv;exact(h0.at (Qjq hn v)).gone v u i hk
omit h0 hn in
theorem Jbw(hN:∀ u x,nb u x=true->x<N)(hk:Vf nb ord v u=true): u<N:=by
 have:∀(l:List Nat) (nb:Nat->Nat->Bool),(∀ u x,nb u x=true->x<N)->∀ u x,Yv nb l u x=true->x<N:=by
  intro l;induction l with
  | nil=>intro nb h;exact h
  | cons w l ih=>
   intro nb h;refine ih _ λu x i=>?_;unfold Gn at i;grind
 exact this _ _ hN _ _ hk
theorem Qsg(hv:v∈ord)(hp:p∈ord)(hkp:Vf nb ord v p=true)(hmin:∀ u,Vf nb ord v u=true->Jyd ord p u)(hkx:Vf nb ord v x=true)(hx:x≠p): Vf nb ord p x=true:=by
 obtain⟨r,e,h1⟩:=Jyw hv;obtain⟨r2,e2,h2⟩:=Jyw hp;have D:=Jhw h0 hn hv hkp;have O:=Jhw h0 hn hv hkx;have i:v∈pre ord p:=by
  have h3:p∈pre ord v∨v∈pre ord p:=by
   have j:p∈pre ord v++v::r:=e ▸ hp;rcases List.mem_append.1 j with h4|h4
   .exact .inl h4
   have h5:p∈r:=by grind
   obtain⟨a,b,eb⟩:=List.append_of_mem h5;grind [pre,List.append_assoc,List.nodup_append,List.mem_cons_self,Jgl,List.mem_append_right]
  exact h3.resolve_left D.1
 obtain⟨m,m2,em⟩:=List.append_of_mem i;have Z:m=pre ord v:=by grind [Qjq,List.nodup_append,List.mem_cons_self,Jgl]
 unfold Vf;rw[em,Qqm,Yv,Z];refine Jhc hx ?_ λh'=>?_
 .have J:Yv nb (pre ord v) v p=true:=hkp;have G:Yv nb (pre ord v) v x=true:=hkx;grind [Gn]
 exact hmin x hkx (by grind)
omit h0 hn in
theorem Qsh(hb:nb v u=true)(hne:u≠v)(hl:Jyd ord v u): Vf nb ord v u=true:=Jhc hne hb hl
end
end Pl
namespace Pl
variable {ds:List Bool}{l:List Row}{m n:Nat}{q x y z:Row}{a b:V}
theorem Jml{ds:List Bool}: ∀ {m:Nat} {x z:Row},x.take m=z.take m->m<x.length->m<z.length->cmpV (x.getD m V0) (z.getD m V0)≠0->Jw x z ds=neg (ds.getD m false) (cmpV (x.getD m V0) (z.getD m V0))
 | 0,a::x,b::z,_,_,_,h=>by grind [List.getD_cons_zero,Jw]
 | m+1,a::x,b::z,h,h1,h2,h3=>by
  simp only[List.take_succ_cons,List.cons.injEq]at h;simp only[List.getD_cons_succ]at h3 ⊢;simp only[Jw];rw[if_pos (by grind [Vg]),Jml h.2 (by simpa using h1) (by simpa using h2) h3];simp[List.getD]
 | _,[],_,_,h,_,_=>by simp at h
 | _,_::_,[],_,_,h,_=>by simp at h
theorem neg_lt{d:Bool}(h:neg d (cmpV a b)<0): cmpV a b≠0:=by
 intro e;rw[e]at h;unfold neg at h;split at h<;>omega
theorem Jgz(d:Bool)(a b:V): neg d (cmpV b a) = - neg d (cmpV a b):=(Jvr d).anti a b
theorem Xxx(h:x.take m=z.take m)(h1:m<x.length)(h2:m<z.length)(h3:neg (ds.getD m false) (cmpV (x.getD m V0) (z.getD m V0))<0): Jw x z ds<0:=by grind [Jml,neg_lt]
def Jjk(d:Bool)(l:List (V×Nat)): Prop:=l.Pairwise λp q=>neg d (cmpV p.1 q.1)<0
abbrev IX:= AX V
structure AX.Srt(X:IX)(ds:List Bool): Prop where
 d0:X.d0=V0
 srt:∀ v,v<X.F->∀ k,Jjk (ds.getD v false) (X.E v k)
theorem AX.ext_at_col{X:IX}(hx:x∈X.ext n (y++[a])): x.length=y.length+1+n/\x.take y.length=y/\x.getD y.length V0=a:=by
 obtain⟨j,i,_⟩:=(AX.ext_mem n _ x).1 hx;rw[List.length_append,List.length_singleton]at j i;refine⟨j,?_,?_⟩
 .have:=congrArg (List.take y.length) i;grind
 have:=congrArg (λl=>l.getD y.length V0) i;grind
theorem AX.Srt.ext{X:IX}{ds:List Bool}(h:X.Srt ds): ∀(n:Nat) (y:Row),y.length+n=X.F->Lt ds (X.ext n y)
 | 0,y,_=>List.pairwise_singleton _ _
 | n+1,y,e=>by
  rw[AX.ext];refine List.pairwise_flatMap.2 ⟨λp _=>h.ext n _ (by simp;omega),(h.srt y.length om _).imp fun {p q} hpq x hx z hz=>?_⟩;obtain⟨h1,h2,h3⟩:=AX.ext_at_col hx;obtain⟨h4,h5,h6⟩:=AX.ext_at_col hz;exact Xxx (m:=y.length) (by rw[h2,h5]) om om (by rw[h3,h6];exact hpq)
def bef(d:Bool)(v:V): List (V×Nat)->Nat
 | []=>0
 | p::l=>(if neg d (cmpV p.1 v)<0 then p.2 else 0)+bef d v l
def Zx(ds:List Bool)(l:List Row)(q:Row): Nat:=(l.filter λx=>decide (Jw (x.take q.length) q ds<0)).length
theorem Xxq(ds:List Bool)(l m:List Row)(q:Row): Zx ds (l++m) q=Zx ds l q+Zx ds m q:=by simp[Zx]
theorem Xxr(h:∀ x∈l,Jw (x.take q.length) q ds<0): Zx ds l q=l.length:=by grind [Zx,List.filter_eq_self.2]
theorem Qwc(h:∀ x∈l,¬ Jw (x.take q.length) q ds<0): Zx ds l q=0:=by grind [Zx,List.filter_eq_nil_iff.2]
theorem cmpR_col'(h:x.take m=q.take m)(h1:q.length<=x.length)(h2:m<q.length)(h3:cmpV (x.getD m V0) (q.getD m V0)≠0): Jw (x.take q.length) q ds=neg (ds.getD m false) (cmpV (x.getD m V0) (q.getD m V0)):=by grind [V0,List.getD,Jml,Nat.min_eq_left,List.length_take]
theorem AX.Srt.cnt_step{X:IX}(h:X.Srt ds)(hok:X.Ok)(e:y.length+(n+1)=X.F)(hq:q.length<=X.F)(hm:y.length<q.length)(hy:q.take y.length=y):
  Zx ds (X.ext (n+1) y) q=bef (ds.getD y.length false) (q.getD y.length V0) (X.E y.length (X.key y.length y))*X.others y.length y +
   (if q.getD y.length V0∈(X.E y.length (X.key y.length y)).map (·.1) then Zx ds (X.ext n (y++[q.getD y.length V0])) q else 0):=by
 have J:y.length<X.F:=om
 have G:∀ p∈X.E y.length (X.key y.length y),(X.ext n (y++[p.1])).length=p.2*X.others y.length y:=λp hp=>by
  rw[hok.ext_len n (y++[p.1]) (by simp;omega),List.length_append,List.length_singleton,hok.pend_next J hp]
 have hs:=h.srt y.length J (X.key y.length y);rw[AX.ext];generalize X.others y.length y=O at *
 generalize X.E y.length (X.key y.length y)=l at *
 have one:∀ p:V×Nat,(X.ext n (y++[p.1])).length=p.2*O->p.1≠q.getD y.length V0->Zx ds (X.ext n (y++[p.1])) q=(if neg (ds.getD y.length false) (cmpV p.1 (q.getD y.length V0))<0 then p.2 else 0)*O:=by
  intro p hl D;have hc:∀ x∈X.ext n (y++[p.1]),Jw (x.take q.length) q ds=neg (ds.getD y.length false) (cmpV p.1 (q.getD y.length V0)):=λx j=>by
   obtain⟨h1,h2,Z⟩:=AX.ext_at_col j;rw[cmpR_col' (m:=y.length) (by rw[h2,hy]) om hm (by rw[Z];intro e;exact D (cmp_V.zero _ _ e)),Z]
  by_cases e:neg (ds.getD y.length false) (cmpV p.1 (q.getD y.length V0))<0
  .grind [Xxr]
  rw[if_neg e,Qwc (λx j=>by rw[hc x j];exact e),Nat.zero_mul]
 induction l with
 | nil=>simp[bef,Zx]
 | cons p l ih=>
  obtain⟨a1,u⟩:=List.pairwise_cons.1 hs;have i:=ih u (λr hr=>G r (List.mem_cons_of_mem _ hr));have hp:=G p (List.mem_cons_self ..);rw[List.flatMap_cons,Xxq,i,bef,Nat.add_mul];by_cases e:p.1=q.getD y.length V0
  .have h0:neg (ds.getD y.length false) (cmpV p.1 (q.getD y.length V0))=0:=by rw[e,Vg];unfold neg;split<;>rfl
   grind
  repeat grind
theorem AX.cnt_end{X:IX}: Zx ds (X.ext n q) q=0:=by grind [Qwc,AX.ext_mem,Ya]
end Pl
namespace Pl
inductive Tr where
 | nil
 | node (l:Tr) (v:V) (x:Nat) (r:Tr)
namespace Tr
def ht: Tr->Nat
 | .nil=>0
 | .node l _ _ r=>max l.ht r.ht+1
def sz: Tr->Nat
 | .nil=>0
 | .node l _ _ r=>l.sz+1+r.sz
def sum: Tr->Nat
 | .nil=>0
 | .node l _ x r=>l.sum+x+r.sum
def toL: Tr->List (V×Nat)
 | .nil=>[]
 | .node l v x r=>l.toL++(v,x)::r.toL
theorem sum_eq: ∀ t:Tr,t.sum=tot t.toL
 | .nil=>rfl
 | .node l v x r=>by rw[sum,toL,Jkv,tot,sum_eq l,sum_eq r];simp only;omega
theorem sz_eq: ∀ t:Tr,t.sz=t.toL.length
 | .nil=>rfl
 | .node l v x r=>by rw[sz,toL,List.length_append,List.length_cons,sz_eq l,sz_eq r];omega
theorem ht_le: ∀ t:Tr,t.ht<=t.sz
 | .nil=>nR _
 | .node l v x r=>by have:=ht_le l;have:=ht_le r;grind [ht,sz]
def left: Tr->Tr
 | .nil=>.nil
 | .node l _ _ _=>l
def right: Tr->Tr
 | .nil=>.nil
 | .node _ _ _ r=>r
def bal(l:Tr)(v:V)(x:Nat)(r:Tr): Tr :=
 if r.ht+1<l.ht then
  match l with
  | .nil=>.node .nil v x r
  | .node ll lv lx lr=>
   if lr.ht<=ll.ht then .node ll lv lx (.node lr v x r)
   else match lr with
    | .nil=>.node (.node ll lv lx .nil) v x r
    | .node ml mv mx mr=>.node (.node ll lv lx ml) mv mx (.node mr v x r)
 else if l.ht+1<r.ht then
  match r with
  | .nil=>.node l v x .nil
  | .node rl rv rx rr=>
   if rl.ht<=rr.ht then .node (.node l v x rl) rv rx rr
   else match rl with
    | .nil=>.node l v x (.node .nil rv rx rr)
    | .node ml mv mx mr=>.node (.node l v x ml) mv mx (.node mr rv rx rr)
 else .node l v x r
theorem toL_bal(l:Tr)(v:V)(x:Nat)(r:Tr): (bal l v x r).toL=l.toL++(v,x)::r.toL:=by
 unfold bal;split
 .cases l with
  | nil=>rfl
  | node ll lv lx lr=>
   simp only;split
   repeat grind [toL]
 split
 .cases r with
  | nil=>rfl
  | node rl rv rx rr=>
   simp only;split
   repeat grind [toL]
 rfl
def put(d:Bool)(v:V)(x:Nat): Tr->Tr
 | .nil=>.node .nil v x .nil
 | .node l a y r=>if neg d (cmpV v a)<0 then bal (put d v x l) a y r else if 0<neg d (cmpV v a) then bal l a y (put d v x r) else .node l v x r
theorem put_last{d:Bool}{v:V}{x:Nat}: ∀ {t:Tr},(∀ p∈t.toL,0<neg d (cmpV v p.1))->(put d v x t).toL=t.toL++[(v,x)]
 | .nil,_=>rfl
 | .node l a y r,h=>by
  have h1:=h (a,y) (by simp[toL]);have h2:=put_last (d:=d) (v:=v) (x:=x) (t:=r) (λp hp=>h p (by simp[toL,hp]));grind [put,toL_bal,toL]
theorem put_first{d:Bool}{v:V}{x:Nat}: ∀ {t:Tr},(∀ p∈t.toL,neg d (cmpV v p.1)<0)->(put d v x t).toL=(v,x)::t.toL
 | .nil,_=>rfl
 | .node l a y r,h=>by
  have h1:=h (a,y) (by simp[toL]);have h2:=put_first (d:=d) (v:=v) (x:=x) (t:=l) (λp hp=>h p (by simp[toL,hp]));grind [put,toL_bal,toL]
theorem Qvt(l:Tr)(v:V)(x:Nat)(r:Tr): (bal l v x r).sz=l.sz+1+r.sz:=by grind [sz_eq,toL_bal,List.length_append,List.length_cons]
theorem put_sz(d:Bool)(v:V)(x:Nat): ∀ t:Tr,(put d v x t).sz<=t.sz+1
 | .nil=>nR _
 | .node l a y r=>by
  have h1:=put_sz d v x l;have h2:=put_sz d v x r;unfold put;split
  .rw[Qvt,sz];omega
  split
  repeat grind [Qvt,sz]
def befT(d:Bool)(v:V): Tr->Nat
 | .nil=>0
 | .node l a y r=>if neg d (cmpV v a)<0 then befT d v l else if neg d (cmpV v a)=0 then l.sum else l.sum+y+befT d v r
def hasT(d:Bool)(v:V): Tr->Bool
 | .nil=>false
 | .node l a y r=>if neg d (cmpV v a)<0 then hasT d v l else if neg d (cmpV v a)=0 then true else hasT d v r
theorem Xwh(d:Bool)(v:V)(l m:List (V×Nat)): bef d v (l++m)=bef d v l+bef d v m:=by
 induction l with
 | nil=>simp[bef]
 | cons p l ih=>rw[List.cons_append,bef,bef,ih,Nat.add_assoc]
theorem Jnc{d:Bool}{v:V}: ∀ {l:List (V×Nat)},(∀ p∈l,neg d (cmpV p.1 v)<0)->bef d v l=tot l
 | [],_=>rfl
 | p::l,h=>by rw[bef,tot,if_pos (h p (List.mem_cons_self ..)),Jnc λq hq=>h q (List.mem_cons_of_mem _ hq)]
theorem Jnb{d:Bool}{v:V}: ∀ {l:List (V×Nat)},(∀ p∈l,¬ neg d (cmpV p.1 v)<0)->bef d v l=0
 | [],_=>rfl
 | p::l,h=>by rw[bef,if_neg (h p (List.mem_cons_self ..)),Jnb λq hq=>h q (List.mem_cons_of_mem _ hq)]
theorem befT_eq{d:Bool}{v:V}: ∀ {t:Tr},Jjk d t.toL->befT d v t=bef d v t.toL/\(hasT d v t=true↔v∈t.toL.map (·.1))
 | .nil,_=>⟨rfl,by simp[hasT,toL]⟩
 | .node l a y r,h=>by
  have N:=Jvr d;obtain⟨h1,h2,h3⟩:=List.pairwise_append.1 h;obtain⟨h4,h5⟩:=List.pairwise_cons.1 h2;have il:=befT_eq (v:=v) h1;have ir:=befT_eq (v:=v) h5;have hla:∀ p∈l.toL,neg d (cmpV p.1 a)<0:=by grind [List.mem_cons_self]
  have hva:=Jgz d v a;rw[toL,befT,hasT,Xwh,bef];by_cases c1:neg d (cmpV v a)<0
  .have hr:∀ p∈r.toL,¬ neg d (cmpV p.1 v)<0:=λp hp h'=>by
    have:=N.trans p.1 v a om om;grind [Jgz]
   rw[if_pos c1,if_pos c1,il.1,Jnb hr,if_neg (by simp only;omega)];grind
  rw[if_neg c1,if_neg c1];by_cases c0:neg d (cmpV v a)=0
  .have e:v=a:=N.zero v a c0;grind [neg,cmpV,Jgz,Jnc,Jnb,sum_eq]
  rw[if_neg c0,if_neg c0];have hl:∀ p∈l.toL,neg d (cmpV p.1 v)<0:=λp hp=>by
   have h1:=hla p hp;have h2:=N.trans p.1 a v om om;have h3:neg d (cmpV p.1 v)≠0:=λe=>by
    have:=N.zero p.1 v e;rw[this]at h1;omega
   simp only at *;omega
  rw[Jnc hl,if_pos (by simp only;omega),ir.1,sum_eq];grind
def findT(k:Nat): Tr->V×Nat
 | .nil=>(V0,0)
 | .node l a y r=>if k<l.sum then findT k l else if l.sum+y<=k then((findT (k-(l.sum+y)) r).1,l.sum+y+(findT (k-(l.sum+y)) r).2) else(a,l.sum)
theorem findT_eq: ∀ {t:Tr} {k:Nat},k<t.sum->∃ l1 l2 y,t.toL=l1++((findT k t).1,y)::l2/\tot l1=(findT k t).2/\(findT k t).2<=k/\k<(findT k t).2+y
 | .nil,k,h=>by simp[sum]at h
 | .node l a y r,k,h=>by
  rw[sum]at h;rw[findT,toL];split
  .rename_i h1;obtain⟨l1,l2,z,e1,e2,e3,e4⟩:=findT_eq h1;grind
  split
  .rename_i h1 h2;obtain⟨l1,l2,z,e1,e2,e3,e4⟩:=findT_eq (t:=r) (k:=k-(l.sum+y)) om;grind [List.append_assoc,Jkv,tot,sum_eq]
  repeat grind [sum_eq]
end Tr
end Pl
namespace Pl
variable {d:Bool}{l:List (V×Nat)}{rs:List Row}{m:Nat}{k x:Row}{wt:Row->Nat}{p:V×Nat}
def Xz(wt:Row->Nat)(m:Nat)(rs:List Row)(k:Row): List (V×Nat):=(rs.filter λx=>decide (x.take m=k) && decide (0<wt x)).map λx=>(x.getD m V0,wt x)
def stepG(d:Bool)(wt:Row->Nat)(m:Nat)(bs:List (Row×Tr))(x:Row): List (Row×Tr) :=
 if wt x=0 then bs
 else if(bs.getLast?.map (·.1))=some (x.take m) then bs.dropLast++[(x.take m,Tr.put d (x.getD m V0) (wt x) ((bs.getLast?.map (·.2)).getD .nil))]
 else bs++[(x.take m,Tr.put d (x.getD m V0) (wt x) .nil)]
def Yk(d:Bool)(l:List (V×Nat)): List (V×Nat):=if d then l.reverse else l
structure GInv(d:Bool)(wt:Row->Nat)(m:Nat)(rs:List Row)(bs:List (Row×Tr)): Prop where
 lt:Lt [] (bs.map (·.1))
 con:∀ b∈bs,b.2.toL=Yk d (Xz wt m rs b.1)/\Xz wt m rs b.1≠[]
 all:∀ k,Xz wt m rs k≠[]->k∈bs.map (·.1)
theorem Jlt(wt:Row->Nat)(m:Nat)(rs:List Row)(x k:Row): Xz wt m (rs++[x]) k=Xz wt m rs k++if x.take m=k/\0<wt x then[(x.getD m V0,wt x)] else[]:=by grind [Xz,List.filter_cons_of_pos,List.filter_cons_of_neg]
theorem entL_mem: p∈Xz wt m rs k↔∃ x∈rs,x.take m=k/\x.getD m V0=p.1/\wt x=p.2/\0<p.2:=by
 unfold Xz;grind
theorem entL_ne: Xz wt m rs k≠[]↔∃ x∈rs,x.take m=k/\0<wt x:=by
 constructor
 .intro h;obtain⟨p,hp⟩:=List.exists_mem_of_ne_nil _ h;obtain⟨x,u,j,i,G,D⟩:=entL_mem.1 hp;grind
 rintro⟨x,u,j,i⟩ e;have:=(entL_mem (p:=(x.getD m V0,wt x))).2 ⟨x,u,j,rfl,rfl,i⟩;grind
theorem Qwh: ∀(m:Nat) {x y:Row},Jw x y []<0->Jw (x.take m) (y.take m) []<=0
 | 0,x,y,_=>by simp[Jw]
 | m+1,[],[],h=>by simp[Jw]
 | m+1,[],b::y,h=>by simp[Jw]
 | m+1,a::x,[],h=>by simp[Jw]at h
 | m+1,a::x,b::y,h=>by
  simp only[Jw,List.take_succ_cons,List.drop_nil]at h ⊢;by_cases e:cmpV a b=0
  .rw[if_pos e]at h ⊢;exact Qwh m h
  repeat grind
theorem Jmk: ∀(m:Nat) {x y:Row},Jw x y []<0->x.take m=y.take m->x.length=m+1->y.length=m+1->cmpV (x.getD m V0) (y.getD m V0)<0
 | 0,[a],[b],h,_,_,_=>by
  simp only[Jw]at h;by_cases e:cmpV a b=0
  .grind
  rw[if_neg e]at h;exact h
 | m+1,a::x,b::y,h,ht,h1,h2=>by
  simp only[List.take_succ_cons,List.cons.injEq]at ht;simp only[Jw,List.drop_nil]at h;rw[if_pos (by grind [Vg])]at h;simp only[List.getD_cons_succ];exact Jmk m h ht.2 (by simpa using h1) (by simpa using h2)
theorem Jcj{α:Type}{l:List α}(h:l≠[]): ∃ i z,l=i++[z]/\l.getLast?=some z/\l.dropLast=i:=by grind [List.dropLast_concat_getLast,List.getLast?_eq_some_getLast]
theorem GInv.step{bs:List (Row×Tr)}(h:GInv d wt m rs bs)(hs:Lt [] (rs++[x]))(hl:∀ y∈rs++[x],y.length=m+1): GInv d wt m (rs++[x]) (stepG d wt m bs x):=by
 have a3:=hl x (by simp);have a5:∀ y∈rs,Jw y x []<0:=λy hy=>(List.pairwise_append.1 hs).2.2 y hy x (by simp);by_cases h0:wt x=0
 .have e:∀ k,Xz wt m (rs++[x]) k=Xz wt m rs k:=by grind [Jlt]
  rw[stepG,if_pos h0];exact⟨h.lt,λb j=>by rw[e];exact h.con b j,λk u=>h.all k (by rw[<-e k];exact u)⟩
 have h1:0<wt x:=om
 have eo:∀ k,k≠x.take m->Xz wt m (rs++[x]) k=Xz wt m rs k:=by grind [Jlt]
 have ex:Xz wt m (rs++[x]) (x.take m)=Xz wt m rs (x.take m)++[(x.getD m V0,wt x)]:=by grind [Jlt]
 have J:∀ k∈bs.map (·.1),Jw k (x.take m) []<=0:=λk u=>by
  obtain⟨b,j,rfl⟩:=List.mem_map.1 u;obtain⟨y,hy,e,_⟩:=entL_ne.1 (h.con b j).2;grind [Qwh]
 have O:∀ p∈Xz wt m rs (x.take m),cmpV p.1 (x.getD m V0)<0:=λp hp=>by
  obtain⟨y,hy,D,e2,_⟩:=entL_mem.1 hp;rw[<-e2];exact Jmk m (a5 y hy) D (hl y (by simp[hy])) a3
 have G:∀ t:Tr,t.toL=Yk d (Xz wt m rs (x.take m))->(Tr.put d (x.getD m V0) (wt x) t).toL=Yk d (Xz wt m (rs++[x]) (x.take m)):=λt ht=>by
  rw[ex];cases d with
  | false=>
   rw[Tr.put_last,ht];· rfl
   intro p hp;rw[ht]at hp;have:=O p hp;have:=cmp_V.anti p.1 (x.getD m V0);grind [neg]
  | true=>
   rw[Tr.put_first,ht];· simp[Yk]
   intro p hp;rw[ht]at hp;have:=O p (by simpa [Yk] using hp);have:=cmp_V.anti p.1 (x.getD m V0);grind [neg]
 rw[stepG,if_neg h0];by_cases hl2:(bs.getLast?.map (·.1))=some (x.take m)
 .rw[if_pos hl2];have a1:bs≠[]:=by grind
  obtain⟨i,z,D,e2,e3⟩:=Jcj a1;rw[e2]at hl2 ⊢;have hz:z.1=x.take m:=by simpa using hl2
  rw[e3];have a7:=h.con z (by rw[D];simp);have a4:∀ b∈i,b.1≠x.take m:=λb j e=>by
   have:=h.lt;rw[D,List.map_append]at this;have:=(List.pairwise_append.1 this).2.2 b.1 (List.mem_map_of_mem j) z.1 (by simp);grind [Ya]
  refine⟨?_,λb j=>?_,λk u=>?_⟩
  .have:=h.lt;grind
  .rcases List.mem_append.1 j with j|j
   .rw[eo _ (a4 b j)];exact h.con b (by rw[D];simp[j])
   rw[List.mem_singleton.1 j];refine⟨G _ (by grind),?_⟩;simp only;rw[ex];simp
  by_cases e:k=x.take m
  .rw[e];simp
  rw[eo k e]at u;have:=h.all k u;grind
 rw[if_neg hl2];have Z:x.take m ∉ bs.map (·.1):=λu=>by
  have a1:bs≠[]:=by grind
  obtain⟨i,z,D,e2,e3⟩:=Jcj a1;rw[e2]at hl2;have hz:z.1≠x.take m:=λe=>hl2 (by simp[e]);rw[D,List.map_append,List.mem_append]at u;have h5:=h.lt;rw[D,List.map_append]at h5;rcases u with u|u
  .have h6:=(List.pairwise_append.1 h5).2.2 _ u z.1 (by simp);have h7:=J z.1 (by rw[D];simp);have:=Ka [] |>.anti (x.take m) z.1;omega
  repeat grind
 have he:Xz wt m rs (x.take m)=[]:=Classical.byContradiction λh'=>Z (h.all _ h');refine⟨?_,λb j=>?_,λk u=>?_⟩
 .rw[List.map_append];refine List.pairwise_append.2 ⟨h.lt,by simp,λk u k' a2=>?_⟩;rw[List.map_singleton,List.mem_singleton]at a2;rw[a2];have h7:=J k u;have h8:Jw k (x.take m) []≠0:=λe=>Z (by rw[<-(Ka []).zero _ _ e];exact u);simp only;omega
 .rcases List.mem_append.1 j with j|j
  .have a6:b.1∈bs.map (·.1):=List.mem_map_of_mem j
   rw[eo _ (λe=>Z (by rw[<-e];exact a6))];exact h.con b j
  rw[List.mem_singleton.1 j];refine⟨G _ (by rw[he];cases d<;>rfl),?_⟩;grind
 by_cases e:k=x.take m
 .rw[e];simp
 rw[eo k e]at u;rw[List.map_append,List.mem_append];exact .inl (h.all k u)
theorem GInv.nil(d:Bool)(wt:Row->Nat)(m:Nat): GInv d wt m [] []:=⟨List.Pairwise.nil,λb j=>(by cases j),λk i=>absurd rfl i⟩
def entK(bs:List (Row×Tr))(k:Row): List (V×Nat):=match bs.find? λb=>decide (b.1=k) with
 | some b=>b.2.toL
 | none=>[]
theorem GInv.entK{d:Bool}{wt:Row->Nat}{m:Nat}{rs:List Row}{bs:List (Row×Tr)}(h:GInv d wt m rs bs)(k:Row): entK bs k=Yk d (Xz wt m rs k):=by
 unfold Pl.entK;cases hf:bs.find? λb=>decide (b.1=k) with
 | some b=>
  have j:=List.mem_of_find?_eq_some hf;have i:=List.find?_some hf;simp only[decide_eq_true_eq]at i;simp only;rw[<-i];exact(h.con b j).1
 | none=>
  have j:=List.find?_eq_none.1 hf;have:Xz wt m rs k=[]:=Classical.byContradiction λu=>by
   obtain⟨b,D,e⟩:=List.mem_map.1 (h.all k u);grind
  rw[this];cases d<;>rfl
theorem Xjs(hs:Lt [] rs)(hl:∀ y∈rs,y.length=m+1)(k:Row): (Xz wt m rs k).Pairwise λp q=>cmpV p.1 q.1<0:=by
 unfold Xz;rw[List.pairwise_map];refine List.Pairwise.imp_of_mem (R:=λx y:Row=>Jw x y []<0) (fun {x y} hx hy h=>?_) (hs.sublist List.filter_sublist);obtain⟨D,j⟩:=List.mem_filter.1 hx;obtain⟨u,i⟩:=List.mem_filter.1 hy;simp only[Bool.and_eq_true,decide_eq_true_eq]at j i;exact Jmk m h (by rw[j.1,i.1]) (hl x D) (hl y u)
theorem Xqh(h:l.Pairwise λp q=>cmpV p.1 q.1<0): Jjk d (Yk d l):=by
 cases d with
 | false=>exact h.imp λi=>by grind [neg]
 | true=>
  simp only[Yk,if_true,Jjk];rw[List.pairwise_reverse];refine h.imp fun {p q} i=>?_
  have:=cmp_V.anti p.1 q.1;grind [neg]
theorem Qkh: p∈Yk d l↔p∈l:=by cases d<;>simp[Yk]
theorem Jcp(d:Bool)(l:List (V×Nat)): tot (Yk d l)=tot l:=by
 cases d with
 | false=>rfl
 | true=>
  simp only[Yk,if_true];induction l with
  | nil=>rfl
  | cons p l ih=>rw[List.reverse_cons,Jkv,ih,tot,tot,tot];omega
end Pl
open Go.RowKit Pl Go.Wk
attribute [local irreducible] WC WL QX WD WDB WP WN
variable {c:JC}{l:List Row}{Y:List Row->World->Prop}{L e p:Nat->Nat}{f h:Nat->Nat->Nat}{x z:Row}{w:World}
structure Pth(c:JC)(v:Nat)(z:Row)(p e:Nat->Nat): Prop where
 path:∀ i,i<c.m->Uw (c.F.rs i) (lv (c.vars i) v) (p i)=(pmR (c.vars i) z).take (lv (c.vars i) v)
 rng:∀ i,i<c.m->0<lv (c.vars i) v->p i<e i/\e i<=(pfx (c.F.rs i) (lv (c.vars i) v)).length
def Qbg(c:JC)(Y:List Row->World->Prop)(v:Nat)(z:Row)(p e:Nat->Nat)(f h:Nat->Nat->Nat)(l:List Row)(w:World)(u:Value)(w':World): Prop :=
 u=.bool true/\GrN c.N w w'/\∃ z' f' h' l',Cfg c Y w' z' (λi=>lv (c.vars i) v) p e f' h' l'/\z'.take v=z.take v/\(∀ i,i<c.m->∀ k,k<lv (c.vars i) v->f' i k=f i k/\h' i k=h i k)/\Lt [] l'/\∀ x,x∈l'↔x∈l∨(c.Ans x/\x.take v=z.take v)
theorem Cfg.rowV(H:Cfg c Y w z L p e f h l)(hok:JOk c): RowV w c.rowv z:=by
 have i:=H.row;have j:=hok.n32;refine⟨c.Ra,c.n,by rw[H.zl];rfl,by rw[H.zl];exact nR _,by rw[H.zl];omega,?_⟩;rw[Vh,H.zl]at i;rw[RdR,H.zl];exact Rd.own i
theorem Pth.ans(h:Pth c c.n z p e)(hok:JOk c)(hz:z.length=c.n): c.Ans z:=by
 refine⟨hz,λi hi=>?_⟩;have u:=h.path i hi;have j:=Qxb (hok.lt i hi);rw[j,List.take_of_length_le (by rw[Xw];exact nR _)]at u;rw[<-u];have O:=hok.d i hi;by_cases h0:(c.vars i).length=0
 .rw[Uw,if_pos h0];obtain⟨r,D⟩:=List.exists_mem_of_ne_nil _ (hok.ne i hi);have:=hok.len i hi r D;grind
 rw[Uw,if_neg h0];have G:=h.rng i hi om;rw[j]at G;have J:=Qmm (hok.srt i hi) (hok.len i hi);grind
theorem Qfg{n:Nat}(h1:x.length=n)(h2:z.length=n)(h:x.take n=z.take n): x=z:=by grind
theorem Xjp{NY:Nat->Prop}(hok:JOk c)(hY:YC c Y NY)(hcap:∀ l:List Row,Lt [] l->(∀ x∈l,c.Ans x)->l.length<=65536)(H:Cfg c Y w z (λi=>lv (c.vars i) c.n) p e f h l)(hP:Pth c c.n z p e)(hl:Lt [] l)(hla:∀ x∈l,c.Ans x)(hls:∀ x∈l,∀ z',c.Ans z'->z'.take c.n=z.take c.n->Jw x z' []<0):
  Ret Tryz.prog 224 [.pointer (some ⟨c.J,0,none⟩),.int .i64 (c.n:Int)] w (Qbg c Y c.n z p e f h l w):=by
 have ab:=hP.ans hok H.zl;obtain⟨st,hJ⟩:=H.jb;have aa:=hok.n32;obtain⟨ac,first,ad,a1,O⟩:=hY.call;have a2:c.rowv=.slice c.Ra c.n c.n:=rfl;rw[a2,a1]at hJ;refine enE Tryz.func224 Tryz.ntmps224 ?_;refine ldR (hJ.at (i:=0) rfl) ?_;refine ctR ?_ ?_
 .exact beq_t rfl
 refine ldR (hJ.at (i:=2) rfl) ?_;refine Xq (p:=⟨c.J,2,none⟩) (hJ.cell 2) (hJ.frozen _) ?_;have a7:=hJ.set 2 (.int .i64 (IntKind.i64.wrap (st+1)));have a5:GrN (λk=>k=c.J) w (w.setCell ⟨c.J,2,none⟩ (.int .i64 (IntKind.i64.wrap (st+1)))):=GrN.set _ rfl;have G:GrN c.NI w (w.setCell ⟨c.J,2,none⟩ (.int .i64 (IntKind.i64.wrap (st+1)))):=GrN.set _ (.inl rfl);refine ρ ?_;generalize w.setCell ⟨c.J,2,none⟩ (.int .i64 (IntKind.i64.wrap (st+1)))=w2 at *
 have H2:Cfg c Y w2 z (λi=>lv (c.vars i) c.n) p e f h l:=by
  refine⟨H.env.gr (G.mono λk _ hk=>hok.sub k hk),λi hi=>?_,Ja H.row a5 (λg eg=>H.rowJ eg),H.zl,⟨_,by rw[a2,a1];exact a7⟩,hY.keep _ _ _ H.y G⟩;obtain⟨st,Z⟩:=H.its i hi;exact⟨st,Jc Z a5 (hok.gj i hi)⟩
 refine drN (λ_=>False) 10 (scq 10 [108,109]) kr ?_;have D:Ext w2 w2.drew:=(Ext.refl w2).drew;have a6:=a7.ext D;have H3:=H2.ext hY D;refine ρn ?_;refine nld (Jr (a6.at (i:=3) rfl) (λe=>e)) ?_;refine ρn ?_;refine nld (Jr (a6.at (i:=0) rfl) (λe=>e)) ?_;refine ρn ?_;refine Xm ?_;have a9:Lt [] (l++[z]):=by
  refine List.pairwise_append.2 ⟨hl,List.pairwise_singleton _ _,λx hx y hy=>?_⟩;grind
 have a3:l.length<65536:=by grind
 refine clv (O l _ c.rowv z H3.y (H3.rowV hok) a3) ?_;rintro u w4 ⟨rfl,a8,j⟩;refine ρ ?_;refine Gv ?_;refine Xm ?_;refine ρ ?_;have a4:GrN c.N w w4:=((G.mono λk _ hk=>hok.sub k hk).trans (GrN.ext D)).trans (j.mono λk _ hk=>hY.sub k hk);refine Jj ⟨rfl,a4,z,f,h,l++[z],⟨H.env.gr a4,λi hi=>?_,Ja H3.row j (λg eg hn=>hY.off g hn (.inr (.inr eg))),H.zl,?_,a8⟩,rfl,λi hi k hk=>⟨rfl,rfl⟩,a9,λx=>?_⟩
 .obtain⟨st,Z⟩:=H3.its i hi;exact⟨st,Jc Z j (λhn=>hY.off _ hn (.inr (.inl ⟨i,hi,rfl⟩)))⟩
 .obtain⟨st,Z⟩:=H3.jb;exact⟨st,Jc Z j (λhn=>hY.off _ hn (.inl rfl))⟩
 rw[List.mem_append,List.mem_singleton];constructor
 .grind
 rintro(h'|⟨Z,h2⟩)
 .exact .inl h'
 exact .inr (Qfg Z.1 H.zl h2)
open Go.RowKit Pl Go.Wk
variable {a i:Nat}{e e1 p p1:Nat->Nat}{y z z2:Row}
structure LS where
 L: Nat->Nat
 p:Nat->Nat
 e:Nat->Nat
 f:Nat->Nat->Nat
 h:Nat->Nat->Nat
def LS.upd(S:LS)(i L p e:Nat)(f h:Nat->Nat): LS:=⟨Wk.upd S.L i L,Wk.upd S.p i p,Wk.upd S.e i e,Wk.upd S.f i f,Wk.upd S.h i h⟩
theorem Cfg.congr{c:JC}{Y:List Row->World->Prop}{w:World}{L L' p' e':Nat->Nat}{f h f' h':Nat->Nat->Nat}{l:List Row}(H:Cfg c Y w z L p e f h l)(h1:∀ i,i<c.m->L' i=L i/\p' i=p i/\e' i=e i/\f' i=f i/\h' i=h i): Cfg c Y w z L' p' e' f' h' l :=
 ⟨H.env,λi hi=>by obtain⟨J,G,D,u,j⟩:=h1 i hi;rw[J,G,D,u,j];exact H.its i hi,H.row,H.zl,H.jb,H.y⟩
def JC.vl(c:JC)(v i a:Nat): V:=(lvl (c.F.rs i) (lv (c.vars i) v)).getD a V0
structure Sib(c:JC)(v:Nat)(z:Row)(lo hi:Nat->Nat): Prop where
 lt:∀ i∈c.I v,lo i<hi i/\hi i<=(pfx (c.F.rs i) (lv (c.vars i) v+1)).length
 ch:∀ i∈c.I v,∀ a,a<(pfx (c.F.rs i) (lv (c.vars i) v+1)).length->(((pfx (c.F.rs i) (lv (c.vars i) v+1)).getD a []).take (lv (c.vars i) v)=(pmR (c.vars i) z).take (lv (c.vars i) v)↔lo i<=a/\a<hi i)
section
variable {c:JC} {v:Nat} {z:Row} {lo hi:Nat->Nat}
theorem JOk.lvd(hok:JOk c)(hi:i∈c.I v): lv (c.vars i) v+1<=c.F.d i:=by
 obtain⟨j,u⟩:=JC.mem_I.1 hi;rw[hok.d i j];exact(Yy (hok.asc i j) u).2.1
theorem Sib.node(hok:JOk c)(hS:Sib c v z lo hi)(him:i∈c.I v)(h1:lo i<=a)(h2:a<hi i): (pfx (c.F.rs i) (lv (c.vars i) v+1)).getD a []=(pmR (c.vars i) z).take (lv (c.vars i) v)++[c.vl v i a]:=by
 obtain⟨j,G⟩:=JC.mem_I.1 him;have D:=hS.lt i him;have u:a<(pfx (c.F.rs i) (lv (c.vars i) v+1)).length:=om
 have O:=(hS.ch i him a u).2 ⟨h1,h2⟩;have J:=Qml (Ge (hok.srt i j)) (hok.len i j) (hok.lvd him) (getD_mem' [] _ u);rw[Qff J O,JC.vl,Qrn u]
theorem Sib.srt(hok:JOk c)(hS:Sib c v z lo hi){i a b:Nat}(him:i∈c.I v)(h1:lo i<=a)(h2:a<b)(h3:b<hi i): cmpV (c.vl v i a) (c.vl v i b)<0:=by
 obtain⟨j,G⟩:=JC.mem_I.1 him;have D:=hS.lt i him;have u:=(Jwk (Ge (hok.srt i j)) (lv (c.vars i) v+1)).1.at h2 om;rw[hS.node hok him h1 om,hS.node hok him om h3]at u;have key:∀(y:Row) (a b:V),Jw (y++[a]) (y++[b]) []<0->cmpV a b<0:=λy a b=>by
  induction y with
  | nil=>
   intro h;simp only[List.nil_append,Jw]at h;by_cases e:cmpV a b=0
   .grind
   rw[if_neg e]at h;exact h
  | cons x y ih=>
   grind [Jw,Vg]
 exact key _ _ _ u
theorem Sib.ans(hok:JOk c)(hS:Sib c v z lo hi)(hy:c.Ans y)(ht:y.take v=z.take v)(him:i∈c.I v): ∃ a,lo i<=a/\a<hi i/\c.vl v i a=y.getD v V0:=by
 obtain⟨j,D⟩:=JC.mem_I.1 him;have G:=(Jwl (Ge (hok.srt i j)) (l:=lv (c.vars i) v+1)).2 ⟨_,hy.2 i j,rfl⟩;obtain⟨a,J,Z⟩:=List.getElem_of_mem G;rw[Qjs (hok.asc i j) D,Jgn (hok.asc i j) ht]at Z;have O:(pfx (c.F.rs i) (lv (c.vars i) v+1)).getD a []=(pmR (c.vars i) z).take (lv (c.vars i) v)++[y.getD v V0]:=by grind
 have hl:((pmR (c.vars i) z).take (lv (c.vars i) v)).length=lv (c.vars i) v:=by grind [List.length_take,Xw,Qqx]
 have u:=(hS.ch i him a J).1 (by grind);refine⟨a,u.1,u.2,?_⟩;have:=hS.node hok him u.1 u.2;grind [List.append_cancel_left]
theorem Pth.step(hok:JOk c)(hP:Pth c v z p e)(hS:Sib c v z lo hi)(hv:v<z.length){x:V}(h1:∀ i∈c.I v,lo i<=p1 i/\p1 i<hi i/\c.vl v i (p1 i)=x)(hz2:z2.take v=z.take v)(hz3:z2.getD v V0=x)(h2:∀ i,i<c.m->i ∉ c.I v->p1 i=p i/\e1 i=e i)(h3:∀ i∈c.I v,e1 i=hi i): Pth c (v+1) z2 p1 e1:=by
 refine⟨λi j=>?_,λi j h0=>?_⟩
 .by_cases him:i∈c.I v
  .obtain⟨u,D⟩:=JC.mem_I.1 him;have J:=h1 i him;rw[(Yy (hok.asc i u) D).1,Qjs (hok.asc i u) D,Jgn (hok.asc i u) hz2,hz3,Uw,if_neg om,hS.node hok him J.1 J.2.1,J.2.2]
  have G:v ∉ c.vars i:=λO=>him (JC.mem_I.2 ⟨j,O⟩);rw[Jqh G,(h2 i j him).1,hP.path i j,Jgn (hok.asc i j) hz2]
 by_cases him:i∈c.I v
 .obtain⟨u,D⟩:=JC.mem_I.1 him;have J:=h1 i him;rw[(Yy (hok.asc i u) D).1,h3 i him];exact⟨J.2.1,(hS.lt i him).2⟩
 have G:v ∉ c.vars i:=λO=>him (JC.mem_I.2 ⟨j,O⟩);rw[Jqh G]at h0 ⊢;rw[(h2 i j him).1,(h2 i j him).2];exact hP.rng i j h0
end
open Go.RowKit Pl Go.Wk
structure ES where
 t: Bool
 z:Row
 p:Nat->Nat
 f:Nat->Nat->Nat
 h:Nat->Nat->Nat
 l:List Row
theorem Jxj{α:Type}(f:Nat->α)(i:Nat): upd f i (f i)=f:=by
 funext k;unfold upd;split
 repeat grind
theorem Xjq{c:JC}{Y:List Row->World->Prop}{NY:Nat->Prop}(hok:JOk c)(hY:YC c Y NY)(hcap:∀ l:List Row,Lt [] l->(∀ x∈l,c.Ans x)->l.length<=65536): ∀(k v:Nat) (z:Row) (p e:Nat->Nat) (f h:Nat->Nat->Nat) (l:List Row) (w:World),v+k=c.n ->
  Cfg c Y w z (λi=>lv (c.vars i) v) p e f h l->Pth c v z p e->Lt [] l->(∀ x∈l,c.Ans x)->(∀ x∈l,∀ z',c.Ans z'->z'.take v=z.take v->Jw x z' []<0) ->
  Ret Tryz.prog 224 [.pointer (some ⟨c.J,0,none⟩),.int .i64 (v:Int)] w (Qbg c Y v z p e f h l w):=by
 intro k;induction k with
 | zero=>
  intro v z p e f h l w dn H hP hl c5 c4;have:v=c.n:=om
  subst this;exact Xjp hok hY hcap H hP hl c5 c4
 | succ k ih=>
 intro v z p e f h l w dn H hP hl c5 c4;have hv:v<c.n:=om
 have dk:v<z.length:=by rw[H.zl];exact hv
 have ef:=hok.n32;obtain⟨B,cc,du,d7⟩:=H.env.at_;obtain⟨B2,aj,ce,hlist⟩:=H.env.lists v hv;have db:(c.I v).length<=32:=nL (c.len_I v) hok.m32;have ah:0<(c.I v).length:=by
  obtain⟨i,h1,h2⟩:=hok.cov v hv;exact List.length_pos_of_mem (JC.mem_I.2 ⟨h1,h2⟩)
 have D:(c.I v).getD 0 0∈c.I v:=getD_mem' 0 _ ah;have b6:c.rowv=.slice c.Ra c.n c.n:=rfl;have a5:∀ k,c.NI k->c.N k:=hok.sub;refine enE Tryz.func224 Tryz.ntmps224 ?_;refine ρ ?_;obtain⟨st,hJ⟩:=H.jb;rw[b6,du]at hJ;refine ld (hJ.at (i:=0) rfl) ?_;refine cfR ?_ ?_
 .exact Jmz om
 refine ldR (hJ.at (i:=1) rfl) ?_;refine ixR v d7.here hv ?_;refine ρ ?_;have d6:w.cell? (adr B v)=some (.slice B2 (c.I v).length aj):=d7.here.cell (by simp[hv,ce]);refine ld d6 ?_;clear hJ d6;refine ρ ?_;refine Jo (fun (q:Nat) (S:LS)=>[(0,.pointer (some ⟨c.J,0,none⟩)),(1,.int .i64 (v:Int)),(5,.slice B2 (c.I v).length aj),(42,.slice B2 (c.I v).length aj),(43,.int .i64 ((c.I v).length:Int)),(44,.int .i64 (q:Int))])
  (λq S w'=>q<=(c.I v).length/\GrN c.N w w'/\Cfg c Y w' z S.L S.p S.e S.f S.h l /\
   (∀ i∈(c.I v).take q,S.L i=lv (c.vars i) v+1/\S.p i<S.e i/\S.e i<=(pfx (c.F.rs i) (lv (c.vars i) v+1)).length/\(∀ a,a<(pfx (c.F.rs i) (lv (c.vars i) v+1)).length->(((pfx (c.F.rs i) (lv (c.vars i) v+1)).getD a []).take (lv (c.vars i) v)=(pmR (c.vars i) z).take (lv (c.vars i) v)↔S.p i<=a/\a<S.e i))/\S.f i=upd (f i) (lv (c.vars i) v) (p i)/\S.h i=upd (h i) (lv (c.vars i) v) (e i)) /\
   (∀ i,i<c.m->i ∉ (c.I v).take q->S.L i=lv (c.vars i) v/\S.p i=p i/\S.e i=e i/\S.f i=f i/\S.h i=h i)) (λq _=>(c.I v).length-q) 0 ⟨λi=>lv (c.vars i) v,p,e,f,h⟩ sB
  ⟨Nat.zero_le _,GrN.refl _ _,H,λi hi=>by simp at hi,λi _ _=>⟨rfl,rfl,rfl,rfl,rfl⟩⟩ ?_
 rintro q S w1 ⟨hq,az,H1,a2,ad⟩;refine ciR (λh1=>?_) (λh1=>?_)
 .have lq:q<(c.I v).length:=by have:=oT h1;omega
  clear h1;have d9:=hlist w1 az;refine ixR q d9 lq ?_;refine ldR (d9.cell (Jxs lq)) ?_;refine ρ ?_;obtain⟨i,hi⟩:∃ i,i=(c.I v).getD q 0:=⟨_,rfl⟩;rw[<-hi];have a1:i∈c.I v:=by rw[hi];exact getD_mem' 0 _ lq
  obtain⟨Z,cq⟩:=JC.mem_I.1 a1;have a8:(c.I v).take (q+1)=(c.I v).take q++[i]:=by rw[Qs 0 lq,hi]
  have c1:i ∉ (c.I v).take q:=λhm=>by
   have h1:((c.I v).take (q+1)).Nodup:=(c.nodup_I v).sublist (List.take_sublist _ _);rw[a8,List.nodup_append]at h1;exact h1.2.2 _ hm _ (List.mem_singleton.2 rfl) rfl
  obtain⟨e1,e2,e3,e4,e5⟩:=ad i Z c1;obtain⟨df,b3⟩:=H1.its i Z;rw[e1,e2,e3,e4,e5]at b3;have dx:Off (λk=>k=c.F.G i) w1 (λu=>TriA u (c.F.A i) (c.F.d i) (c.F.rs i)):=(H1.env.tri i Z).mono λj _ ej=>a5 j (.inr (.inl ⟨i,Z,ej⟩));have eh:=hok.big i Z;refine cl (Qsr b3 dx (hok.lvd a1) (hok.d32 i Z) (hP.rng i Z) (hok.ne i Z) (Ge (hok.srt i Z)) om (hok.len i Z)) ?_;rintro u w2 ⟨rfl,a9,lo,dv,h2,h3,h4,ea⟩;have H2:=H1.it hok hY Z a9 ea;refine ρ ?_;refine Jl (q+1) (S.upd i (lv (c.vars i) v+1) lo dv (upd (f i) (lv (c.vars i) v) (p i)) (upd (h i) (lv (c.vars i) v) (e i))) sO ⟨om,az.trans (a9.mono λj _ ej=>a5 j (.inr (.inl ⟨i,Z,ej⟩))),H2,λj hj=>?_,λj hj af=>?_⟩ om
  .rw[a8,List.mem_append,List.mem_singleton]at hj;by_cases ej:j=i
   .subst ej;simp only[LS.upd,Ju];rw[<-hP.path j Z];exact⟨trivial,h2,h3,h4,trivial,trivial⟩
   simp only[LS.upd,Jm _ _ ej];exact a2 j (hj.resolve_right ej)
  rw[a8,List.mem_append,List.mem_singleton,not_or]at af;simp only[LS.upd,Jm _ _ af.2];exact ad j hj af.1
 have eq:q=(c.I v).length:=by have:=oF h1;omega
 clear h1;rw[eq,List.take_of_length_le (nR _)]at a2 ad;have hS:Sib c v z S.p S.e:=⟨λi hi=>⟨(a2 i hi).2.1,(a2 i hi).2.2.1⟩,λi hi=>(a2 i hi).2.2.2.1⟩;obtain⟨lo,co⟩:∃ lo,lo=S.p:=⟨_,rfl⟩;have a7:Sib c v z lo S.e:=by rw[co];exact hS
 have a4:∀(f' h':Nat->Nat->Nat),∀ i∈c.I v,∀ a,c.F.val ⟨S.L,lo,S.e,f',h'⟩ i a=c.vl v i a:=λf' h' i hi a=>by
  unfold Fix.val JC.vl;simp only;rw[(a2 i hi).1,Nat.add_sub_cancel]
 have ba:∀(f' h':Nat->Nat->Nat),OnS c.F ⟨S.L,lo,S.e,f',h'⟩ (c.I v):=λf' h'=>by
  refine⟨λi hi=>?_,λi hi=>?_,λi hi a b h1 h2 h3=>?_,λi hi j hj e'=>hok.inj i j (JC.mem_I.1 hi).1 (JC.mem_I.1 hj).1 e',db⟩
  .simp only;rw[(a2 i hi).1];exact⟨om,hok.lvd hi,hok.d32 i (JC.mem_I.1 hi).1⟩
  .simp only;rw[(a2 i hi).1,Nat.add_sub_cancel,Jzp];have h1:=(a2 i hi).2.2.1;have h2:=Jqt ((c.F.rs i).map (List.take (lv (c.vars i) v+1)));rw[List.length_map]at h2;have h3:(pfx (c.F.rs i) (lv (c.vars i) v+1)).length<=(c.F.rs i).length:=h2;have h4:=hok.big i (JC.mem_I.1 hi).1;exact⟨h1,om⟩
  rw[a4 f' h' i hi,a4 f' h' i hi];exact a7.srt hok hi h1 h2 h3
 have ab:∀ k,NG c.F (c.I v) c.J k->c.N k:=λk hk=>by
  rcases hk with hk|⟨i,hi,hk⟩
  .exact a5 k (.inl hk)
  exact a5 k (.inr (.inl ⟨i,(JC.mem_I.1 hi).1,hk⟩))
 have ei:∀ k,NG c.F (c.I v) c.J k->c.NI k:=λk hk=>by
  rcases hk with hk|⟨i,hi,hk⟩
  .exact .inl hk
  exact .inr (.inl ⟨i,(JC.mem_I.1 hi).1,hk⟩)
 have b9:∀ i,i<c.m->S.L i=lv (c.vars i) (v+1):=λi hi=>by
  by_cases a1:i∈c.I v
  .rw[(a2 i a1).1,(Yy (hok.asc i hi) (JC.mem_I.1 a1).2).1]
  rw[(ad i hi a1).1,Jqh (λh'=>a1 (JC.mem_I.2 ⟨hi,h'⟩))]
 have dw:∀ i∈c.I v,S.e i<=1000000:=λi hi=>((ba S.f S.h).rng i hi).2;have cr:∀ i∈c.I v,c.F.G i≠c.J:=λi hi=>hok.gj i (JC.mem_I.1 hi).1;have ar:∀ y,c.Ans y->y.take v=z.take v->∀ i∈c.I v,∃ a,lo i<=a/\a<S.e i/\c.vl v i a=y.getD v V0:=λy hy ht i hi=>a7.ans hok hy ht hi;have am:∀(f' h':Nat->Nat->Nat) y,c.Ans y->y.take v=z.take v->Cmn c.F ⟨S.L,lo,S.e,f',h'⟩ (c.I v) (y.getD v V0):=λf' h' y hy ht i hi=>by
  obtain⟨a,h1,h2,h3⟩:=ar y hy ht i hi;exact⟨a,h1,h2,by rw[a4 f' h' i hi];exact h3⟩
 refine clR (Qqr (F:=c.F) (V':=⟨S.L,lo,S.e,S.f,S.h⟩) (I:=c.I v) (J:=c.J) (p:=lo) (jr:=c.rowv) (ja:=c.ja) (yv:=c.yv) (B:=B2) (c:=aj) (ba _ _) ah (c.nodup_I v) (λi hi=>by rw[co];exact H1.its i (JC.mem_I.1 hi).1) H1.jb cr (λi hi=>(H1.env.tri i (JC.mem_I.1 hi).1).mono λk _ hk=>ab k hk) ((hlist.gr az).mono λk _ hk=>ab k hk)
  (λi hi=>⟨nR _,(a7.lt i hi).1⟩) (λi hi a h1 h2=>absurd h2 (by simp only at h1;omega))) ?_
 rintro u w2 ⟨a9,b1,p2,t,rfl,b2,cm,ht,hf⟩;have H2:=H1.mt hok hY a9 b1 (p':=p2) b2;have ch:∀ f' h',c.F.val ⟨S.L,lo,S.e,f',h'⟩ ((c.I v).getD 0 0) (lo ((c.I v).getD 0 0))=c.vl v ((c.I v).getD 0 0) (lo ((c.I v).getD 0 0)):=λf' h'=>a4 f' h' _ D _;have bi:∀ y,c.Ans y->y.take v=z.take v->cmpV (c.vl v ((c.I v).getD 0 0) (lo ((c.I v).getD 0 0))) (y.getD v V0)<=0:=λy hy ht=>by
  obtain⟨a,h1,h2,h3⟩:=ar y hy ht _ D;rw[<-h3];by_cases e:a=lo ((c.I v).getD 0 0)
  .rw[e,Vg];omega
  have:=a7.srt hok D (nR _) (show lo ((c.I v).getD 0 0)<a by omega) h2;omega
 refine ρ ?_;refine Qf (fun (s:ES)=>[(0,.pointer (some ⟨c.J,0,none⟩)),(1,.int .i64 (v:Int)),(5,.slice B2 (c.I v).length aj),(8,.bool true),(9,.bool s.t)])
  (λs w'=>GrN c.N w w'/\Cfg c Y w' s.z S.L s.p S.e s.f s.h s.l/\s.z.take v=z.take v/\(∀ i,i<c.m->i ∉ c.I v->s.p i=p i)/\(∀ i,i<c.m->∀ k,k<S.L i->s.f i k=S.f i k/\s.h i k=S.h i k)/\Lt [] s.l/\(∀ x∈s.l,c.Ans x) /\
   (s.t=true->∃ x,(∀ i∈c.I v,lo i<=s.p i/\s.p i<S.e i/\c.vl v i (s.p i)=x)/\∀ y,y∈s.l↔y∈l∨(c.Ans y/\y.take v=z.take v/\cmpV (y.getD v V0) x<0)) /\
   (s.t=false->∀ y,y∈s.l↔y∈l∨(c.Ans y/\y.take v=z.take v))) (λs=>if s.t then S.e ((c.I v).getD 0 0)-s.p ((c.I v).getD 0 0) else 0) ⟨t,z,λi=>if i∈c.I v then p2 i else S.p i,S.f,S.h,l⟩ sB
  ⟨az.trans (a9.mono λk _ hk=>ab k hk),H2,rfl,λi hi a6=>?_,λi hi k hk=>⟨rfl,rfl⟩,hl,c5,λe=>?_,λe y=>?_⟩ ?_
 .simp only[if_neg a6];exact(ad i hi a6).2.1
 .obtain⟨x,ae,bs,dj⟩:=ht e;refine⟨x,λi hi=>?_,λy=>⟨.inl,λhy=>?_⟩⟩
  .simp only[if_pos hi];refine⟨(cm i hi).1,(ae i hi).1,?_⟩;rw[<-a4 S.f S.h i hi];exact(ae i hi).2
  rcases hy with hy|⟨h1,h2,h3⟩
  .exact hy
  exfalso
  have h4:=dj _ (am S.f S.h y h1 h2) (by rw[ch];exact bi y h1 h2);have:=cmp_V.anti x (y.getD v V0);omega
 .refine⟨.inl,λhy=>?_⟩;rcases hy with hy|⟨h1,h2⟩
  .exact hy
  exact absurd (show cmpV _ _<=0 by rw[ch];exact bi y h1 h2) (hf e _ (am S.f S.h y h1 h2))
 clear b2 cm ht hf H2 b1 a9 H1 az;rintro s w2 ⟨a9,H2,cd,b7,c7,bh,bl,cj,d4⟩;refine ciR (λh1=>?_) (λh1=>?_)
 .obtain⟨x,ae,bs⟩:=cj h1;have aa:=ae _ D;have ee:=aa.1;have ed:=aa.2.1;obtain⟨el,b1⟩:=H2.jb;rw[b6]at b1;refine ρ ?_;refine drN (λk=>c.rowv.ownBlock=some k) 14 (scq 14 [8,13]) kr ?_;have b5:Ext w2 w2.drew:=(Ext.refl w2).drew;have e6:=b1.ext b5;have H3:=H2.ext hY b5;have dd:=(hlist.gr a9).ext b5;obtain⟨en,e9⟩:=H3.its _ (JC.mem_I.1 D).1;refine ρn ?_;refine nld (Jr (e6.at (i:=0) rfl) (λe=>H2.rowJ e rfl)) ?_;refine ρn ?_;refine nix 0 dd.here ah ?_;refine ρn ?_;refine nld (λw' hg=>(dd w' (hg.mono λk _ ek=>a5 k (.inr (.inr ek)))).cell (Jxs ah)) ?_;refine ρn ?_;refine nop ?_;refine cl (Jlj e9 (H3.env.tri _ (JC.mem_I.1 D).1).here (by rw[(a2 _ D).1];exact hok.lvd D) (hok.d32 _ (JC.mem_I.1 D).1) (λ_=>((ba s.f s.h).rng _ D).1)) ?_;rintro u w4 ⟨br,vv,rfl,dm⟩;have dl:vv=x:=by
   rw[dm ⟨by rw[(a2 _ D).1];omega,aa.2.1⟩,<-aa.2.2,JC.vl,(a2 _ D).1,Nat.add_sub_cancel]
  subst dl;refine ρ ?_;refine Qj (GrN.ext br) ?_;have H4:=H3.ext hY br;have aq:w4.ownsRow c.base 147 3 (.slice c.Ra c.n c.n) c.n (Js s.z):=by
   have:=H4.row;rw[Vh,H4.zl,b6]at this;exact this
  refine ρn ?_;refine Yr 3 v (Rd.own aq) hv ?_;refine ρn ?_;refine nop ?_;refine stoE (cs:=vv.cells) aq hv ?_ (V.one _);intro w5 bz cz;refine ω5 ?_;refine Qj (GrN.by cz λk ek=>ek) ?_;refine ρn ?_;have bf:v<s.z.length:=by rw[H2.zl];exact hv
  rw[<-Jgb s.z v vv bf]at bz;have ax:w4.grownBy w5 c.rowv.ownBlock:=cz;have ay:GrN c.NI w4 w5:=GrN.by ax λk ek=>.inr (.inr ek)
  obtain⟨z2,bd⟩:∃ z2,z2=s.z.set v vv:=⟨_,rfl⟩;rw[<-bd]at bz;have ap:z2.length=c.n:=by rw[bd,List.length_set];exact H2.zl
  have ak:z2.take v=z.take v:=by rw[bd,Qgj];exact cd
  have ao:z2.getD v V0=vv:=by rw[bd];exact Qgl vv bf
  have H5:Cfg c Y w5 z2 S.L s.p S.e s.f s.h s.l:=by
   refine⟨H4.env.gr (ay.mono λk _ hk=>a5 k hk),λi hi=>?_,by rw[Vh,ap,b6];exact bz,ap,?_,hY.keep _ _ _ H4.y ay⟩
   .obtain⟨st,h1⟩:=H4.its i hi;exact⟨st,h1.grown ax (λe=>H4.rowG hi e.symm rfl)⟩
   obtain⟨st,h1⟩:=H4.jb;exact⟨st,h1.grown ax (λe=>H4.rowJ e.symm rfl)⟩
  have bm:GrN c.N w2 w5:=(GrN.ext (b5.trans br)).trans (ay.mono λk _ hk=>a5 k hk);refine ρ ?_;have dz:Pth c (v+1) z2 s.p S.e:=Pth.step hok hP a7 dk ae ak ao (λi hi a6=>⟨b7 i hi a6,(ad i hi a6).2.2.1⟩) (λi _=>rfl);have a8:∀ y:Row,c.Ans y->(y.take (v+1)=z2.take (v+1)↔y.take v=z.take v/\y.getD v V0=vv):=λy hy=>by
   have dh:v<y.length:=by rw[hy.1];exact hv
   have bp:v<z2.length:=by rw[ap];exact hv
   constructor
   .intro h;have h5:=Jrt h (Nat.le_succ v);refine⟨h5.trans ak,?_⟩;rw[<-ao];exact Jrv h (Nat.lt_succ_self v)
   rintro⟨h5,h6⟩;exact Qfd (h5.trans ak.symm) dh bp (h6.trans ao.symm)
  refine cl (ih (v+1) z2 s.p S.e s.f s.h s.l w5 om (H5.congr λi hi=>⟨(b9 i hi).symm,rfl,rfl,rfl,rfl⟩) dz bh bl (λy hy z' bq ht=>?_)) ?_
  .obtain⟨h5,h6⟩:=(a8 z' bq).1 ht;rcases(bs y).1 hy with h7|⟨h7,h8,h9⟩
   .exact c4 y h7 z' bq h5
   exact Qwl v y z' (h8.trans h5.symm) (by rw[h7.1];exact hv) (by rw[bq.1];exact hv) (by rw[h6];exact h9)
  rintro u w6 ⟨rfl,cy,z6,f6,h6,l6,H6,dg,d3,bg,cp⟩;have de:Cfg c Y w6 z6 S.L s.p S.e f6 h6 l6:=H6.congr λi hi=>⟨b9 i hi,rfl,rfl,rfl,rfl⟩;have be:z6.take v=z.take v:=(Jrt dg (Nat.le_succ v)).trans ak;have bj:∀ y∈l6,c.Ans y:=λy hy=>by
   rcases(cp y).1 hy with h7|h7
   .exact bl y h7
   exact h7.1
  have au:∀ y,y∈l6↔y∈l∨(c.Ans y/\y.take v=z.take v/\cmpV (y.getD v V0) vv<=0):=λy=>by
   rw[cp,bs];constructor
   .rintro((h7|⟨h7,h8,h9⟩)|⟨h7,h8⟩)
    .exact .inl h7
    .exact .inr ⟨h7,h8,om⟩
    obtain⟨h9,O⟩:=(a8 y h7).1 h8;exact .inr ⟨h7,h9,by rw[O,Vg];omega⟩
   rintro(h7|⟨h7,h8,h9⟩)
   .exact .inl (.inl h7)
   by_cases e:cmpV (y.getD v V0) vv=0
   .exact .inr ⟨h7,(a8 y h7).2 ⟨h8,cmp_V.zero _ _ e⟩⟩
   exact .inl (.inr ⟨h7,h8,om⟩)
  have bn:∀ i,i<c.m->∀ k,k<S.L i->f6 i k=S.f i k/\h6 i k=S.h i k:=λi hi k hk=>by
   have h7:=d3 i hi k (by rw[<-b9 i hi];exact hk);have h8:=c7 i hi k hk;exact⟨h7.1.trans h8.1,h7.2.trans h8.2⟩
  refine ρ ?_;obtain⟨em,e8⟩:=de.its _ (JC.mem_I.1 D).1;have dc:=hlist.gr (a9.trans (bm.trans cy));refine ix 0 dc.here ah ?_;refine ldR (dc.here.cell (Jxs ah)) ?_;refine clR (Qss e8 (by rw[(a2 _ D).1];omega) aa.2.1 (dw _ D)) ?_;rintro u w7 ⟨rfl,cx,e7⟩;have cw:GrN c.N w6 w7:=cx.mono λk _ ek=>a5 k (.inr (.inl ⟨_,(JC.mem_I.1 D).1,ek⟩));have H7:=de.it hok hY (JC.mem_I.1 D).1 cx e7;have an:Cfg c Y w7 z6 S.L (upd s.p ((c.I v).getD 0 0) (s.p ((c.I v).getD 0 0)+1)) S.e f6 h6 l6:=by
   rw[Jxj,Jxj,Jxj,Jxj]at H7;exact H7
  obtain⟨p7,cb⟩:∃ p7,p7=upd s.p ((c.I v).getD 0 0) (s.p ((c.I v).getD 0 0)+1):=⟨_,rfl⟩;rw[<-cb]at an;have bo:p7 ((c.I v).getD 0 0)=s.p ((c.I v).getD 0 0)+1:=by rw[cb,Ju]
  have b4:∀ i,i≠(c.I v).getD 0 0->p7 i=s.p i:=λi hi=>by rw[cb,Jm _ _ hi]
  have av:GrN c.N w w7:=(a9.trans bm).trans (cy.trans cw);have ac:∀ y,c.Ans y->y.take v=z.take v->¬ cmpV (y.getD v V0) vv<=0->∃ a,s.p ((c.I v).getD 0 0)+1<=a/\a<S.e ((c.I v).getD 0 0)/\c.vl v ((c.I v).getD 0 0) a=y.getD v V0:=λy hy ht ag=>by
   obtain⟨a,h7,h8,h9⟩:=ar y hy ht _ D;refine⟨a,?_,h8,h9⟩;rcases Nat.lt_trichotomy a (s.p ((c.I v).getD 0 0)) with O|O|O
   .have:=a7.srt hok D h7 O aa.2.1;rw[aa.2.2,h9]at this;omega
   .rw[O,aa.2.2]at h9;rw[<-h9,Vg]at ag;omega
   omega
  refine ρ ?_;refine ki 59 (λh5=>?_) (λh5=>?_)
  .have c3:s.p ((c.I v).getD 0 0)+1<S.e ((c.I v).getD 0 0):=oT h5;clear h5;have cn:cmpV vv (c.vl v ((c.I v).getD 0 0) (s.p ((c.I v).getD 0 0)+1))<0:=by
    have:=a7.srt hok D aa.1 (Nat.lt_succ_self _) c3;rw[aa.2.2]at this;exact this
   have cg:c.F.val ⟨S.L,lo,S.e,f6,h6⟩ ((c.I v).getD 0 0) (p7 ((c.I v).getD 0 0))=c.vl v ((c.I v).getD 0 0) (s.p ((c.I v).getD 0 0)+1):=by rw[bo];exact a4 f6 h6 _ D _
   refine clR (Qqr (F:=c.F) (V':=⟨S.L,lo,S.e,f6,h6⟩) (I:=c.I v) (J:=c.J) (p:=p7) (jr:=c.rowv) (ja:=c.ja) (yv:=c.yv) (B:=B2) (c:=aj) (ba _ _) ah (c.nodup_I v) (λi hi=>an.its i (JC.mem_I.1 hi).1) an.jb cr (λi hi=>(an.env.tri i (JC.mem_I.1 hi).1).mono λk _ hk=>ab k hk) ((hlist.gr av).mono λk _ hk=>ab k hk)
    (λi hi=>?_) (λi hi a h7 h8=>?_)) ?_
   .have h9:=ae i hi;by_cases e:i=(c.I v).getD 0 0
    .rw[e,bo];simp only;omega
    rw[b4 i e];simp only;omega
   .rw[cg,a4 f6 h6 i hi];have h9:=ae i hi;simp only at h7;by_cases e:i=(c.I v).getD 0 0
    .rw[e]at h7 h8 ⊢;rw[bo]at h8;exact a7.srt hok D h7 h8 c3
    rw[b4 i e]at h8;have O:=a7.srt hok hi h7 h8 h9.2.1;rw[h9.2.2]at O;exact cmp_V.lt_trans O cn
   rintro u w8 ⟨cv,e0,p8,t8,rfl,c9,ck,bw,d5⟩;have H8:=an.mt hok hY cv e0 (p':=p8) c9;rw[cg]at bw d5;refine ρ ?_;have c2:t8=true->s.p ((c.I v).getD 0 0)<p8 ((c.I v).getD 0 0)/\p8 ((c.I v).getD 0 0)<S.e ((c.I v).getD 0 0):=λe=>by
    obtain⟨x',h7,h8,h9⟩:=bw e;have O:=h7 _ D;rw[a4 f6 h6 _ D]at O;refine⟨?_,O.1⟩;rcases Nat.lt_or_ge (s.p ((c.I v).getD 0 0)) (p8 ((c.I v).getD 0 0)) with a3|a3
    .exact a3
    exfalso
    have ai:=(ck _ D).1;simp only at ai;have ca:cmpV x' (c.vl v ((c.I v).getD 0 0) (s.p ((c.I v).getD 0 0)+1))<0:=by
     rw[<-O.2];exact a7.srt hok D ai om c3
    have:=cmp_V.anti x' (c.vl v ((c.I v).getD 0 0) (s.p ((c.I v).getD 0 0)+1));omega
   refine Qy ⟨t8,z6,λi=>if i∈c.I v then p8 i else p7 i,f6,h6,l6⟩ sB
    ⟨av.trans (cv.mono λk _ hk=>ab k hk),H8,be,λi hi a6=>?_,bn,bg,bj,λe=>?_,λe y=>?_⟩ ?_
   .simp only[if_neg a6];rw[b4 i (λe=>a6 (e ▸ D))];exact b7 i hi a6
   .obtain⟨x',h7,h8,h9⟩:=bw e;refine⟨x',λi hi=>?_,λy=>?_⟩
    .simp only[if_pos hi];refine⟨(ck i hi).1,(h7 i hi).1,?_⟩;rw[<-a4 f6 h6 i hi];exact(h7 i hi).2
    rw[au];have di:cmpV vv x'<0:=cmp_V.lt_le cn h8;constructor
    .rintro(O|⟨O,a3,ai⟩)
     .exact .inl O
     exact .inr ⟨O,a3,cmp_V.le_lt ai di⟩
    rintro(O|⟨O,a3,ai⟩)
    .exact .inl O
    refine .inr ⟨O,a3,Classical.byContradiction λag=>?_⟩;obtain⟨a,ca,bc,bb⟩:=ac y O a3 ag;have eb:cmpV (c.vl v ((c.I v).getD 0 0) (s.p ((c.I v).getD 0 0)+1)) (y.getD v V0)<=0:=by
     rw[<-bb];by_cases e:a=s.p ((c.I v).getD 0 0)+1
     .rw[e,Vg];omega
     have:=a7.srt hok D (show lo ((c.I v).getD 0 0)<=s.p ((c.I v).getD 0 0)+1 by omega) (show s.p ((c.I v).getD 0 0)+1<a by omega) bc;omega
    have er:=h9 _ (am f6 h6 y O a3) eb;have:=cmp_V.anti x' (y.getD v V0);omega
   .rw[au];constructor
    .rintro(O|⟨O,a3,ai⟩)
     .exact .inl O
     exact .inr ⟨O,a3⟩
    rintro(O|⟨O,a3⟩)
    .exact .inl O
    refine .inr ⟨O,a3,Classical.byContradiction λag=>?_⟩;obtain⟨a,ca,bc,bb⟩:=ac y O a3 ag;refine d5 e _ (am f6 h6 y O a3) ?_;rw[<-bb];by_cases e:a=s.p ((c.I v).getD 0 0)+1
    .rw[e,Vg];omega
    have:=a7.srt hok D (show lo ((c.I v).getD 0 0)<=s.p ((c.I v).getD 0 0)+1 by omega) (show s.p ((c.I v).getD 0 0)+1<a by omega) bc;omega
   simp only[h1,if_true,if_pos D];by_cases e:t8=true
   .have:=c2 e;rw[if_pos e];omega
   rw[if_neg e];omega
  have eo:¬ s.p ((c.I v).getD 0 0)+1<S.e ((c.I v).getD 0 0):=oF h5;clear h5;refine ρ ?_;refine Qy ⟨false,z6,p7,f6,h6,l6⟩ sB
   ⟨av,an,be,λi hi a6=>?_,bn,bg,bj,λe=>(by cases e),λ_ y=>?_⟩ ?_
  .simp only;rw[b4 i (λe=>a6 (e ▸ D))];exact b7 i hi a6
  .rw[au];constructor
   .rintro(O|⟨O,a3,ai⟩)
    .exact .inl O
    exact .inr ⟨O,a3⟩
   rintro(O|⟨O,a3⟩)
   .exact .inl O
   refine .inr ⟨O,a3,Classical.byContradiction λag=>?_⟩;obtain⟨a,ca,bc,bb⟩:=ac y O a3 ag;omega
  simp only[h1,if_true,Bool.false_eq_true,if_false];omega
 have d2:=d4 h1;clear cj d4;refine ρ ?_;refine Jo (fun (q:Nat) (R:LS)=>[(0,.pointer (some ⟨c.J,0,none⟩)),(1,.int .i64 (v:Int)),(8,.bool true),(83,.slice B2 (c.I v).length aj),(84,.int .i64 ((c.I v).length:Int)),(85,.int .i64 (q:Int))])
  (λq R w'=>q<=(c.I v).length/\GrN c.N w w'/\Cfg c Y w' s.z R.L R.p R.e s.f s.h s.l /\
   (∀ i∈(c.I v).take q,R.L i=lv (c.vars i) v/\R.p i=p i/\R.e i=e i) /\
   (∀ i,i<c.m->i ∉ (c.I v).take q->R.L i=S.L i/\R.p i=s.p i/\R.e i=S.e i)) (λq _=>(c.I v).length-q) 0 ⟨S.L,s.p,S.e,s.f,s.h⟩ sB
  ⟨Nat.zero_le _,a9,H2,λi hi=>by simp at hi,λi _ _=>⟨rfl,rfl,rfl⟩⟩ ?_
 rintro q R w3 ⟨hq,c6,H3,c8,b8⟩;refine ciR (λh2=>?_) (λh2=>?_)
 .have lq:q<(c.I v).length:=by have:=oT h2;omega
  clear h2;have d8:=hlist w3 c6;refine ixR q d8 lq ?_;refine ldR (d8.cell (Jxs lq)) ?_;refine ρ ?_;obtain⟨i,hi⟩:∃ i,i=(c.I v).getD q 0:=⟨_,rfl⟩;rw[<-hi];have a1:i∈c.I v:=by rw[hi];exact getD_mem' 0 _ lq
  obtain⟨Z,cq⟩:=JC.mem_I.1 a1;have a8:(c.I v).take (q+1)=(c.I v).take q++[i]:=by rw[Qs 0 lq,hi]
  have c1:i ∉ (c.I v).take q:=λhm=>by
   have h1:((c.I v).take (q+1)).Nodup:=(c.nodup_I v).sublist (List.take_sublist _ _);rw[a8,List.nodup_append]at h1;exact h1.2.2 _ hm _ (List.mem_singleton.2 rfl) rfl
  obtain⟨e1,e2,e3⟩:=b8 i Z c1;obtain⟨df,b3⟩:=H3.its i Z;rw[e1,(a2 i a1).1]at b3;have ep:=hok.lvd a1;have eg:=hok.d32 i Z;refine cl (Qsn b3 om) ?_;rintro u w4 ⟨d0,da⟩;have d1:=c7 i Z (lv (c.vars i) v) (by rw[(a2 i a1).1];omega);have dt:S.f i (lv (c.vars i) v)=p i:=by rw[(a2 i a1).2.2.2.2.1,Ju]
  have dq:S.h i (lv (c.vars i) v)=e i:=by rw[(a2 i a1).2.2.2.2.2,Ju]
  rw[d1.1,d1.2,dt,dq]at da;have H4:=H3.it hok hY Z d0 da;have ec:Cfg c Y w4 s.z (upd R.L i (lv (c.vars i) v)) (upd R.p i (p i)) (upd R.e i (e i)) s.f s.h s.l:=by
   rw[Jxj,Jxj]at H4;exact H4
  refine ρ ?_;refine Jl (q+1) ⟨upd R.L i (lv (c.vars i) v),upd R.p i (p i),upd R.e i (e i),s.f,s.h⟩ sO ⟨om,c6.trans (d0.mono λj _ ej=>a5 j (.inr (.inl ⟨i,Z,ej⟩))),ec,λj hj=>?_,λj hj af=>?_⟩ om
  .rw[a8,List.mem_append,List.mem_singleton]at hj;by_cases ej:j=i
   .subst ej;simp only[Ju];exact⟨trivial,trivial,trivial⟩
   simp only[Jm _ _ ej];exact c8 j (hj.resolve_right ej)
  rw[a8,List.mem_append,List.mem_singleton,not_or]at af;simp only[Jm _ _ af.2];exact b8 j hj af.1
 have eq:q=(c.I v).length:=by have:=oF h2;omega
 rw[eq,List.take_of_length_le (nR _)]at c8 b8;have H5:Cfg c Y w3 s.z (λi=>lv (c.vars i) v) p e s.f s.h s.l:=H3.congr λi hi=>by
  by_cases a1:i∈c.I v
  .have:=c8 i a1;exact⟨this.1.symm,this.2.1.symm,this.2.2.symm,rfl,rfl⟩
  have h5:=b8 i hi a1;have h6:=ad i hi a1;exact⟨(h5.1.trans h6.1).symm,(h5.2.1.trans (b7 i hi a1)).symm,(h5.2.2.trans h6.2.2.1).symm,rfl,rfl⟩
 refine ρ ?_;refine Jj ⟨rfl,c6,s.z,s.f,s.h,s.l,H5,cd,λi hi k hk=>?_,bh,d2⟩;have h5:=c7 i hi k (by rw[b9 i hi];have:=Qqx (c.vars i) v;by_cases a1:i∈c.I v;(rw[(Yy (hok.asc i hi) (JC.mem_I.1 a1).2).1];omega);rw[Jqh (λh'=>a1 (JC.mem_I.2 ⟨hi,h'⟩))];exact hk);by_cases a1:i∈c.I v
 .obtain⟨_,_,_,_,h8,h9⟩:=a2 i a1;rw[h5.1,h5.2,h8,h9,Jm _ _ om,Jm _ _ om];exact⟨rfl,rfl⟩
 obtain⟨_,_,_,h8,h9⟩:=ad i hi a1;rw[h5.1,h5.2,h8,h9];exact⟨rfl,rfl⟩
open Go.RowKit Pl Go.Wk
variable {g j k v:Nat}{p v4 va':Value}{w1 w2 w4:World}
theorem EIt: ElT Tryz.prog 314 320 1 8 (.pointer none):=⟨Tryz.underlying314,info_parts kr,rfl,by decide⟩
theorem EIts: ElT Tryz.prog 311 314 1 24 (.slice none 0 0):=⟨Tryz.underlying311,info_parts kr,rfl,by decide⟩
theorem Qvd(p:Option Addr)(w:World): (Instr.buildSlice 314 1 #[(0,.pointer p)]).run Tryz.prog w=.ok (.slice (some ⟨w.heap.size,0,none⟩) 1 1) (w.alloc (.cells [.pointer p].toArray 320)):=kr
theorem Xkk(A B:Option Addr)(n:Nat)(fid:FuncId)(first cap:Array Value)(w:World): (Instr.build 313 #[(0,.slice A n n),(1,.slice B n n),(3,.func (.func fid) first cap)]).run Tryz.prog w=.ok (.agg #[.slice A n n,.slice B n n,.int .i64 0,.func (.func fid) first cap]) w:=kr
structure RK where
 n: Nat
 vars:Nat->List Nat
 rs:Nat->List Row
 base:Nat
 J:Nat
 Ra:Option Addr
 Ba:Option Addr
 yv:Value
structure RS where
 G: Nat->Nat
 A:Nat->Option Addr
 lo:Nat->Nat
 hi:Nat->Nat
 va:Value
 vat:Nat->Value
def OB(K:RK)(S:RS)(k:Nat): Prop:=k=K.J∨(Value.slice K.Ra K.n K.n).ownBlock=some k∨(Value.slice K.Ba K.n K.n).ownBlock=some k∨S.va.ownBlock=some k∨∃ v,v<K.n/\(S.vat v).ownBlock=some k
structure RB(K:RK)(q:Nat)(S:RS)(cont:Nat->List Value)(alls:List Value)(w:World): Prop where
 jb:Blk w K.J 313 [.slice K.Ra K.n K.n,.slice K.Ba K.n K.n,.int .i64 0,K.yv]
 row:Vh w K.base (.slice K.Ra K.n K.n) (List.replicate K.n V0)
 at_:w.ownsRow K.base 314 1 (.slice K.Ba K.n K.n) K.n ((List.range K.n).map S.vat)
 lists:Fam w K.base 320 1 K.n S.vat (λv=>(cont v).length) cont
 all:w.ownsRow K.base 320 1 S.va alls.length alls
 alld:∀ v g,v<K.n->(S.vat v).ownBlock=some g->S.va.ownBlock≠some g
 its:∀ j,j<q->ItB w (S.G j) (S.A j) (K.vars j).length 0 0 0 (λ_=>0) (λ_=>0) 0
 tri:∀ j,j<q->Off (λk=>k<S.lo j∨S.hi j<=k) w (λu=>TriA u (S.A j) (K.vars j).length (K.rs j))
 iv:∀ j k,j<q->OB K S k->k<S.lo j∨S.hi j<=k
 gi:∀ i j,i<q->j<q->S.G i<S.lo j∨S.hi j<=S.G i
 ginj:∀ i j,i<j->j<q->S.G i<S.G j
 jlo:∀ j,j<q->K.J<S.lo j/\S.hi j<=w.heap.size
 jg:∀ j,j<q->K.J<S.G j
 bj:K.base<=K.J
section
variable {K:RK} {q:Nat} {S:RS} {cont:Nat->List Value} {alls:List Value} {w w':World}
theorem RB.ext(H:RB K q S cont alls w)(hx:Ext w w'): RB K q S cont alls w' :=
 ⟨H.jb.ext hx,Jk H.row hx,Jk H.at_ hx,H.lists.ext hx,Jk H.all hx,H.alld,λj i=>(H.its j i).ext hx,λj i=>(H.tri j i).ext hx,H.iv,H.gi,H.ginj,λj i=>⟨(H.jlo j i).1,Nat.le_trans (H.jlo j i).2 hx.size⟩,H.jg,H.bj⟩
theorem RB.oblt(H:RB K q S cont alls w)(h:OB K S k): k<w.heap.size:=by
 have i:∀ {base e sz m:Nat} {v:Value} {xs:List Value},w.ownsRow base e sz v m xs->∀ g,v.ownBlock=some g->g<w.heap.size:=λj g u=>by grind [Jy]
 rcases h with h|h|h|h|⟨v,hv,h⟩
 .rw[h];exact H.jb.lt
 .exact i H.row k h
 .exact i H.at_ k h
 .exact i H.all k h
 exact i (H.lists.own v hv) k h
theorem RB.iter(H:RB K q S cont alls w){A:Option Addr}(hx1:Ext w w1)(hT:Off (λk=>k<w.heap.size) w1 (λu=>TriA u A (K.vars q).length (K.rs q)))(hx2:Ext w1 w2)(hg:w1.heap.size<=g)(hI:ItB w2 g A (K.vars q).length 0 0 0 (λ_=>0) (λ_=>0) 0):
  RB K (q+1) { S with G:=upd S.G q g,A:=upd S.A q A,lo:=upd S.lo q w.heap.size,hi:=upd S.hi q w1.heap.size } cont alls w2:=by
 have Z:=H.ext (hx1.trans hx2);have a5:=hI.lt;have O:∀ {j},j<q->j≠q:=λh e=>by omega
 have J:∀ {j},j<q+1->j<q∨j=q:=λh=>by omega
 have a4:=hx1.size;have a3:=hx2.size;refine⟨Z.jb,Z.row,Z.at_,Z.lists,Z.all,Z.alld,λj D=>?_,λj D=>?_,λj k D hk=>?_,λi j hi D=>?_,λi j a1 D=>?_,λj D=>?_,λj D=>?_,Z.bj⟩
 .rcases J D with D|rfl
  .simp only[Jm _ _ (O D)];exact Z.its j D
  repeat grind [Ju]
 .rcases J D with D|rfl
  .simp only[Jm _ _ (O D)];exact Z.tri j D
  simp only[Ju];exact(hT.mono λk hk h=>by grind).ext hx2
 .have a2:OB K S k:=hk;rcases J D with D|rfl
  .simp only[Jm _ _ (O D)];exact H.iv j k D a2
  simp only[Ju];exact .inl (H.oblt a2)
 .rcases J D with D|rfl
  .simp only[Jm _ _ (O D)];have h5:=(H.jlo j D).2;rcases J hi with hi|rfl
   .simp only[Jm _ _ (O hi)];exact H.gi i j hi D
   repeat grind [Ju]
  simp only[Ju];rcases J hi with hi|rfl
  .simp only[Jm _ _ (O hi)];exact .inl (H.its i hi).lt
  repeat grind [Ju]
 .rcases J D with D|rfl
  .simp only[Jm _ _ (O D),Jm _ _ (O (show i<q by omega))];exact H.ginj i j a1 D
  simp only[Ju,Jm _ _ (O a1)];have:=(H.its i a1).lt;omega
 .rcases J D with D|rfl
  .simp only[Jm _ _ (O D)];exact Z.jlo j D
  simp only[Ju];exact⟨H.jb.lt,a3⟩
 rcases J D with D|rfl
 .simp only[Jm _ _ (O D)];exact Z.jg j D
 simp only[Ju];have:=H.jb.lt;omega
theorem RB.trig(H:RB K q S cont alls w){N:Nat->Prop}(hg:GrN N w w')(hN:∀ k,k<w.heap.size->N k->OB K S k)(hj:j<q): Off (λk=>k<S.lo j∨S.hi j<=k) w' (λu=>TriA u (S.A j) (K.vars j).length (K.rs j)) :=
 (H.tri j hj).gr (hg.mono λk i h=>H.iv j k hj (hN k i h))
theorem RB.pushAll(H:RB K q S cont alls w)(ho:w'.ownsRow K.base 320 1 va' (alls.length+1) (alls++[p]))(hg:w.grownBy w' S.va.ownBlock)(hn:∀ g,va'.ownBlock=some g->S.va.ownBlock=some g∨w.heap.size<=g):
  RB K q { S with va:=va' } cont (alls++[p]) w':=by
 have D:GrN (λk=>S.va.ownBlock=some k) w w':=GrN.by hg λk ek=>ek
 have Z:∀ g,S.va.ownBlock=some g->g≠K.J:=λg O e=>(H.jb.ne_own H.all rfl) (by rw[O,e]);have G:∀ k,OB K { S with va:=va' } k->OB K S k∨w.heap.size<=k:=λk hk=>by
  rcases hk with h|h|h|h|h
  .exact .inl (.inl h)
  .exact .inl (.inr (.inl h))
  .exact .inl (.inr (.inr (.inl h)))
  .rcases hn k h with h'|h'
   .exact .inl (.inr (.inr (.inr (.inl h'))))
   exact .inr h'
  exact .inl (.inr (.inr (.inr (.inr h))))
 refine⟨Jc H.jb D (λe=>Z _ e rfl),Zl H.row H.all hg rfl,Zl H.at_ H.all hg rfl,H.lists.gr D (λi g hi O e=>H.alld i g hi O e),by grind,λv g hv O e=>?_,λj u=>?_,λj u=>?_,λj k u hk=>?_,H.gi,H.ginj,λj u=>⟨(H.jlo j u).1,Nat.le_trans (H.jlo j u).2 hg.size⟩,H.jg,H.bj⟩
 .rcases hn g e with h'|h'
  .exact H.alld v g hv O h'
  have:=(H.lists.lt hv O).2;omega
 .exact Jc (H.its j u) D (λe=>(H.its j u).ne_own H.all rfl e.symm)
 .exact H.trig D (λk _ ek=>.inr (.inr (.inr (.inl ek)))) u
 rcases G k hk with h'|h'
 .exact H.iv j k u h'
 have:=(H.jlo j u).2;exact .inr (by simp only;omega)
theorem RB.pushAt(H:RB K q S cont alls w)(hv:v<K.n)(ho:w4.ownsRow K.base 320 1 v4 ((cont v).length+1) (cont v++[p]))(hg:w.grownBy w4 (S.vat v).ownBlock)(hn:∀ g,v4.ownBlock=some g->(S.vat v).ownBlock=some g∨w.heap.size<=g):
  w4.cell? (adr K.Ba v)=some (S.vat v)/\w4.frozen? (adr K.Ba v)=false/\v4.oneCell'=true/\RB K q { S with vat:=upd S.vat v v4 } (upd cont v (cont v++[p])) alls (w4.setCell (adr K.Ba v) v4)/\GrN (λk=>(S.vat v).ownBlock=some k∨(Value.slice K.Ba K.n K.n).ownBlock=some k) w (w4.setCell (adr K.Ba v) v4):=by
 have O:=H.lists.own v hv;have a1:w4.ownsRow K.base 314 1 (.slice K.Ba K.n K.n) K.n ((List.range K.n).map S.vat):=Zl H.at_ O hg rfl;have F4:=H.lists.upd hv ho hg hn;obtain⟨s1,s2,s3,s4,s5⟩:=Zt a1 (q:=v) om v4;have h1:v4.oneCell'=true:=by obtain⟨B,c,e,_⟩:=Jy ho;rw[e];rfl
 have D:GrN (λk=>(S.vat v).ownBlock=some k∨(Value.slice K.Ba K.n K.n).ownBlock=some k) w (w4.setCell (adr K.Ba v) v4):=(GrN.by hg λk ek=>.inl ek).trans (GrN.by s5 λk ek=>.inr ek);have a2:∀ k,(S.vat v).ownBlock=some k∨(Value.slice K.Ba K.n K.n).ownBlock=some k->OB K S k:=λk hk=>by
  rcases hk with h|h
  .exact .inr (.inr (.inr (.inr ⟨v,hv,h⟩)))
  exact .inr (.inr (.inl h))
 have Z:∀ k,OB K { S with vat:=upd S.vat v v4 } k->OB K S k∨w.heap.size<=k:=λk hk=>by
  rcases hk with h|h|h|h|⟨u,hu,h⟩
  .exact .inl (.inl h)
  .exact .inl (.inr (.inl h))
  .grind
  .exact .inl (.inr (.inr (.inr (.inl h))))
  by_cases e:u=v
  .grind [Ju]
  simp only[Jm _ _ e]at h;exact .inl (.inr (.inr (.inr (.inr ⟨u,hu,h⟩))))
 have a3:((List.range K.n).map S.vat).set v v4=(List.range K.n).map (upd S.vat v v4):=by
  apply List.ext_getElem?
  grind [Ju,Jm]
 rw[a3]at s3;have F5:=F4.other a1 s5 rfl;have nJ:¬ ((S.vat v).ownBlock=some K.J∨(Value.slice K.Ba K.n K.n).ownBlock=some K.J):=by
  rintro(h|h)
  .exact H.jb.ne_own O rfl h.symm
  exact H.jb.ne_own H.at_ rfl h.symm
 refine⟨s1.trans (by simp[hv]),s2,h1,⟨Jc H.jb D nJ,Zl (Zl H.row O hg rfl) a1 s5 rfl,s3,⟨λi hi=>?_,F5.dis⟩,Ja H.all D (λg eg=>?_),λu g hu eg e=>?_,λj G=>?_,λj G=>H.trig D (λk _ hk=>a2 k hk) G,λj k G hk=>?_,H.gi,H.ginj,λj G=>⟨(H.jlo j G).1,Nat.le_trans (H.jlo j G).2 D.size⟩,H.jg,H.bj⟩,D⟩
 .have:=F5.own i hi;grind [Ju,List.length_append,List.length_singleton,Jm]
 .rintro(h|h)
  .exact H.alld v g hv h eg
  exact Jxz H.at_ H.all rfl h eg
 .by_cases e':u=v
  .subst e';simp only[Ju]at eg;rcases hn g eg with h'|h'
   .exact H.alld u g hu h' e
   obtain⟨_,_,_,_,hf⟩:=Jy H.all;grind
  simp only[Jm _ _ e']at eg;exact H.alld u g hu eg e
 .refine Jc (H.its j G) D ?_;rintro(h|h)
  .exact(H.its j G).ne_own O rfl h.symm
  exact(H.its j G).ne_own H.at_ rfl h.symm
 rcases Z k hk with h'|h'
 .exact H.iv j k G h'
 have:=(H.jlo j G).2;exact .inr (by simp only;omega)
end
end Go.Proofs.YtgobkbeokaaplaaGreatDoor
