/- Part 3. -/
import Derived.Test.YtgobkbeokaaplaaGreatDoorI02
import Derived.Laws.CopyRow
import Derived.Maps.RangeWalk
set_option linter.unusedVariables false
set_option maxRecDepth 100000
set_option maxHeartbeats 40000000
namespace Go.Wk
open Go.RowKit
variable {a:Act}{cs us:List Value}{g j m n o:Nat}{i x y:Operand}{p:Option Addr}{k:TK}{e t t2:TypeId}{u v:Value}{w:World}
section
variable {N:Nat->Prop} {P:Program} {n:Nat} {al:AL} {w:World} {Q:Exit->Act->World->Prop} {ops:Array Oper} {rest:List Oper} {drest:List (Nat×Oper)}
variable {d ty:Nat} {op:Op} {pos:String} {aft:Array Edge} {tt:TT}
theorem Jsg(hT:TOk P tt)(ht:tk tt t=some k)(hk:k.desc=.pointer e)(ha:Fr n al a)(hx:ev al x=some (.pointer p))(dst:Option Nat)(w:World):
  (execOp a.eval ⟨dst,.binOp .eql t x (.const (.pointer none)) t2,ty,pos,aft,none⟩).run P w=.ok (.value (.bool p.isNone)) w:=by
 have i:=Yv hT ht hk rfl;have h:∀ d:Nat,(Op.equalIn (d+1) t (.pointer p) (.pointer none)).run P w=.ok p.isNone w:=λd=>by cases p<;>simp[Op.equalIn,run_underlying i]
 have j:a.eval (.const (.pointer none))=.pointer none:=rfl;simp[execOp,ha.ev hx,j,eqGuard,binOp,Op.equal,Op.maxDepth,h 9999]
theorem Jsf(hT:TOk P tt)(ht:tk tt t=some k)(hk:k.desc=.pointer e)(ha:Fr n al a)(hx:ev al x=some (.pointer p))(dst:Option Nat)(w:World):
  (execOp a.eval ⟨dst,.binOp .neq t x (.const (.pointer none)) t2,ty,pos,aft,none⟩).run P w=.ok (.value (.bool (!p.isNone))) w:=by
 have i:=Yv hT ht hk rfl;have h:∀ d:Nat,(Op.equalIn (d+1) t (.pointer p) (.pointer none)).run P w=.ok p.isNone w:=λd=>by cases p<;>simp[Op.equalIn,run_underlying i]
 have j:a.eval (.const (.pointer none))=.pointer none:=rfl;simp[execOp,ha.ev hx,j,eqGuard,binOp,Op.equal,Op.maxDepth,h 9999]
theorem pnl[h:Tab P tt](kk:WL P n ops Q rest ((d,.bool p.isNone)::al) w)(ht:tk tt t=some k:=by rfl)(hk:k.desc=.pointer e:=by rfl)(hx:ev al x=some (.pointer p):=by rfl)(hd:Nat.blt d n=true:=by rfl):
  WL P n ops Q (⟨some d,.binOp .eql t x (.const (.pointer none)) t2,ty,pos,aft,none⟩::rest) al w:=wop hd (λa i=>Jsg h.ok ht hk i hx (some d) w) kk
theorem dpnl[h:Tab P tt](kk:WD P n ops Q drest ((d,.bool p.isNone)::al) w)(ht:tk tt t=some k:=by rfl)(hk:k.desc=.pointer e:=by rfl)(hx:ev al x=some (.pointer p):=by rfl)(hd:Nat.blt d n=true:=by rfl):
  WD P n ops Q ((0,⟨some d,.binOp .eql t x (.const (.pointer none)) t2,ty,pos,aft,none⟩)::drest) al w:=dy (λw' _ a i=>Jsg h.ok ht hk i hx (some d) w') hd kk
theorem pnn[h:Tab P tt](kk:WL P n ops Q rest ((d,.bool (!p.isNone))::al) w)(ht:tk tt t=some k:=by rfl)(hk:k.desc=.pointer e:=by rfl)(hx:ev al x=some (.pointer p):=by rfl)(hd:Nat.blt d n=true:=by rfl):
  WL P n ops Q (⟨some d,.binOp .neq t x (.const (.pointer none)) t2,ty,pos,aft,none⟩::rest) al w:=wop hd (λa i=>Jsf h.ok ht hk i hx (some d) w) kk
theorem dpnn[h:Tab P tt](kk:WD P n ops Q drest ((d,.bool (!p.isNone))::al) w)(ht:tk tt t=some k:=by rfl)(hk:k.desc=.pointer e:=by rfl)(hx:ev al x=some (.pointer p):=by rfl)(hd:Nat.blt d n=true:=by rfl):
  WD P n ops Q ((0,⟨some d,.binOp .neq t x (.const (.pointer none)) t2,ty,pos,aft,none⟩)::drest) al w:=dy (λw' _ a i=>Jsf h.ok ht hk i hx (some d) w') hd kk
theorem nixa[h:Tab P tt]{t e:Nat}{p:Addr}{kd:IntKind}{z:Int}(j:Nat)(hlt:j<m)(kk:WN N P n ops Q drest ((d,.pointer (some (p.add (j*k.esz))))::al) w)(ht:tk tt t=some k:=by rfl)(hk:k.desc=.array m e:=by rfl)(hx:ev al x=some (.pointer (some p)):=by rfl)(hi:ev al i=some (.int kd z):=by rfl)(hj:z=(j:Int):=by first|rfl|omega)(hd:Nat.blt d n=true:=by rfl): WN N P n ops Q ((0,⟨some d,.indexAddr t x i,ty,pos,aft,none⟩)::drest) al w :=
 ny_ (λw' _ a o=>Jff h.ok j ht hk hlt o hx hi hj (some d) w') hd kk
theorem stB[h:Tab P tt]{t bt:Nat}{p:Addr}(hb:Blk w g bt cs)(ho:o+us.length<=cs.length)(h1:∀ u∈us,u.oneCell'=true)(kk:∀ w1,Blk w1 g bt (cs.take o++us++cs.drop (o+us.length))->w.grownBy w1 (some g)->WL P n ops Q rest al w1)(ht:tk tt t=some k:=by rfl)(hk:k.desc=.invalid:=by rfl)(hs:k.size=us.length:=by rfl)(hx:ev al x=some (.pointer (some p)):=by rfl)(hp:p=⟨g,o,none⟩:=by rfl)(hy:ev al y=some (.agg us.toArray):=by rfl):
  WL P n ops Q (⟨none,.store t x y,ty,pos,aft,none⟩::rest) al w:=by
 subst hp;have D:=Jqp w g (cs.take o++us++cs.drop (o+us.length)).toArray;have i:=run_storeCells_at (P:=P) g o bt us 0 cs.toArray w hb (by simpa using ho) h1;simp only[Nat.add_zero]at i;refine Jjh (λa C=>?_) (kk (w.setRow g (cs.take o++us++cs.drop (o+us.length)).toArray) (setRow_heap w g _ _ _ _ hb) D);have j:=Vo w (Jxl h.ok ht hk w).2;simp[execOp,C.ev hx,C.ev hy,Instr.storeAt,Instr.sureAddr,storeVar,Value.cells,j,hs,i]
end
theorem Jnv{P:Program}{al:AL}{Q Q':Exit->Act->World->Prop}{ops:Array Oper}{α β:Type}{d:Code}{l:List Oper}(fr:α->β->AL)(I:α->β->World->Prop)(h1:WL P n ops (Exit.then (λa w=>∃ x y,Fr n (fr x y) a/\I x y w) Q) l al w)(h2:∀ x y w,I x y w->WC P n d Q' (fr x y) w): WL P n ops (Exit.then (d.wp P Q') Q) l al w:=by
 intro a j;refine Jvw ?_ l a w (h1 a j);intro e C w' i;cases e with
 | normal=>obtain⟨x,y,u,o⟩:=i;exact h2 x y w' o C u
 | exit id=>exact i
 | goto l=>exact i
 | ret=>exact i
 | panic c=>exact i
 | outgrown=>exact i
theorem seg2(h:o+2<=cs.length): cs.take o++[u,v]++cs.drop (o+2)=(cs.set o u).set (o+1) v:=by
 apply List.ext_getElem?
 intro i;rw[List.getElem?_set,List.getElem?_set,List.append_assoc];grind
theorem Blk.sub(h:Blk w g t cs){i:Nat}(hv:cs[i+j]?=some v): w.cell? ((⟨g,i,none⟩:Addr).add j)=some v:=by rw[Yf,h.cell];exact hv
end Go.Wk
namespace Go.Proofs.YtgobkbeokaaplaaGreatDoor
open Go.RowKit Pl Go.Wk
attribute [local irreducible] WC WL QX WD WDB WP WN
variable {d k:Nat}
def itC(A:Option Addr)(d L p e:Nat)(f h:Nat->Nat)(st:Int): List Value:=[.slice A d d,.int .i64 (L:Int),.int .i64 (p:Int),.int .i64 (e:Int)]++Zt 32 (λk=>.int .i64 (f k:Int)) (λk=>.int .i64 (h k:Int))++[.int .i64 st]
theorem Jbq(A:Option Addr)(d L p e:Nat)(f h:Nat->Nat)(st:Int): (itC A d L p e f h st).length=69:=by grind [itC,List.length_append,Vs]
theorem Jhn(A:Option Addr)(d L p e:Nat)(f h:Nat->Nat)(st:Int): (itC A d L p e f h st)[68]?=some (.int .i64 st):=by grind [itC,List.getElem?_append_right,List.length_append,Vs]
theorem Qrx(A:Option Addr)(d L p e:Nat)(f h:Nat->Nat)(st st':Int): (itC A d L p e f h st).set 68 (.int .i64 st')=itC A d L p e f h st':=by
 unfold itC;rw[List.set_append_right _ _ (by rw[List.length_append,Vs];simp),List.length_append,Vs];rfl
theorem Qsb(A:Option Addr)(d L p e:Nat)(f h:Nat->Nat)(st:Int)(hk:k<32): (itC A d L p e f h st)[4+k*2]?=some (.int .i64 (f k:Int))/\(itC A d L p e f h st)[4+k*2+1]?=some (.int .i64 (h k:Int)):=by grind [Ge,itC,List.getElem?_append_left,List.length_append,Vs,List.getElem?_append_right]
theorem Jpn(f:Nat->Nat)(k x:Nat): (λj=>Value.int .i64 ((upd f k x j:Nat):Int))=upd (λj=>Value.int .i64 (f j:Int)) k (.int .i64 (x:Int)):=by
 funext j;unfold upd;split<;>rfl
theorem Qrz(A:Option Addr)(d L p e:Nat)(f h:Nat->Nat)(st:Int)(hk:k<32)(x y:Nat): ((itC A d L p e f h st).set (4+k*2) (.int .i64 (x:Int))).set (4+k*2+1) (.int .i64 (y:Int))=itC A d L p e (upd f k x) (upd h k y) st:=by
 unfold itC;have j:∀(X:List Value),([Value.slice A d d,.int .i64 (L:Int),.int .i64 (p:Int),.int .i64 (e:Int)]++X).set (4+k*2) (.int .i64 (x:Int))=[Value.slice A d d,.int .i64 (L:Int),.int .i64 (p:Int),.int .i64 (e:Int)]++X.set (k*2) (.int .i64 (x:Int)):=λX=>by grind
 have i:∀(X:List Value),([Value.slice A d d,.int .i64 (L:Int),.int .i64 (p:Int),.int .i64 (e:Int)]++X).set (4+k*2+1) (.int .i64 (y:Int))=[Value.slice A d d,.int .i64 (L:Int),.int .i64 (p:Int),.int .i64 (e:Int)]++X.set (k*2+1) (.int .i64 (y:Int)):=λX=>by grind
 rw[List.set_append_left _ _ (by grind [List.length_append,Vs]),j,Qxw _ _ _ hk,List.set_append_left _ _ (by grind [List.length_append,Vs]),i,Qxv _ _ _ hk,Jpn,Jpn]
abbrev ItB(w:World)(g:Nat)(A:Option Addr)(d L p e:Nat)(f h:Nat->Nat)(st:Int): Prop:=Blk w g 340 (itC A d L p e f h st)
def TriA(w:World)(A:Option Addr)(d:Nat)(rs:List Row): Prop:=∃(vv fv:Nat->Value) (fs:Nat->List Nat),Rd w 2 A d (Zt d vv fv)/\(∀ l,l<d->∃ B c,vv l=.slice B (lvl rs l).length c/\RdR w B (lvl rs l)) /\
 (∀ l,l<d->∃ B c,fv l=.slice B (fs l).length c/\Rd w 1 B (fs l).length (Je (nz (fs l))))/\∀ l,l+1<d->Chl rs l (fs l)
theorem TriV.a{w:World}{A:Option Addr}{rs:List Row}(h:TriV w (.agg #[.slice A d d]) d rs): TriA w A d rs:=by
 obtain⟨o,vv,fv,fs,i,j⟩:=h;injection i with i
 have:Value.slice A d d=.slice o d d:=by simpa using i
 injection this with i
 subst i;exact⟨vv,fv,fs,j⟩
theorem TriA.ext{w w':World}{A:Option Addr}{d:Nat}{rs:List Row}(h:TriA w A d rs)(hx:Ext w w'): TriA w' A d rs:=by
 obtain⟨vv,fv,fs,o,C,u,j⟩:=h;refine⟨vv,fv,fs,o.ext hx,λl i=>?_,λl i=>?_,j⟩;repeat grind [Rd.ext]
section
variable {w:World} {g:Nat} {A:Option Addr} {d L p e:Nat} {f h:Nat->Nat} {st:Int}
theorem Jzb(hB:ItB w g A d L p e f h st): Ret Tryz.prog 253 [.pointer (some ⟨g,0,none⟩)] w λu w'=>u=.bool (decide (0<L/\p<e))/\Ext w w':=by
 refine enE Tryz.func253 Tryz.ntmps253 ?_;refine drR (scq 23 []) ?_;have o:Ext w w.drew:=(Ext.refl w).drew;have j:=hB.ext o;refine ρd ?_;refine dpnn ?_;refine Jz (j.at (i:=1) rfl) ?_;refine ρd ?_;refine dki 12 (λC=>?_) (λC=>?_)
 .have D:0<L:=by have:=oT C;omega
  refine Jz (j.at (i:=2) rfl) ?_;refine Jz (j.at (i:=3) rfl) ?_;refine ρd ?_;refine ρ ?_;refine Jj ⟨?_,o⟩;congr 1
  grind
 have D:¬ 0<L:=by have:=oF C;omega
 refine ρd ?_;refine ρ ?_;refine Jj ⟨?_,o⟩;grind
end
open Go.RowKit Pl Go.Wk
variable {qi:Int}{j k q:Nat}
theorem Uv: Qa Tryz.prog 147=some V0.val:=kr
section
variable {w:World} {g:Nat} {A:Option Addr} {d L p e:Nat} {f h:Nat->Nat} {st:Int} {rs:List Row}
theorem Qqw(hB:ItB w g A d L p e f h st)(hT:TriA w A d rs)(hL:0<L)(hLd:L<=d)(hd:d<=32)(hq:q<(lvl rs (L-1)).length)(hqi:qi=(q:Int)): Ret Tryz.prog 256 [.pointer (some ⟨g,0,none⟩),.int .i64 qi] w λu w'=>u=((lvl rs (L-1)).getD q V0).val/\Ext w w':=by
 subst hqi;obtain⟨vv,fv,fs,hR,hv,hf,hc⟩:=hT;have J:L-1<d:=om
 obtain⟨B,c,Z,a2⟩:=hv (L-1) J;refine enE Tryz.func256 Tryz.ntmps256 ?_;refine Jv (cs:=V0.cells) Uv ?_;intro w1 b U hb a3;refine ρ ?_;refine drN (λ_=>False) 4 (scq 17 [116]) kr ?_;have o:=U.drew;have G:=hB.ext o;have D:=hR.ext o;have C:RdR _ B (lvl rs (L-1)):=Rd.ext a2 o;have a1:w1.drew.cell? ((adr A ((L-1)*2)).add 0)=some (vv (L-1)):=by rw[add_zero];exact D.cell (Ge d vv fv J).1
 refine ρn ?_;refine nld (Jr (G.at (i:=0) rfl) (λe=>e)) ?_;refine ρn ?_;refine nld (Jr (G.at (i:=1) rfl) (λe=>e)) ?_;refine ρn ?_;refine Yp 2 (L-1) D J ?_;refine ρn ?_;refine nld (Jr a1 (λe=>e)) ?_;rw[Z];refine ρn ?_;refine Yp 3 q C hq ?_;refine ρn ?_;refine Xr (cs:=((lvl rs (L-1)).getD q V0).cells) (λw' hg j u hu=>RdR.cell (Rd.ext C hg.toExt) hq hu) ?_;refine ρn ?_;refine Xh ?_;refine stb (cs':=((lvl rs (L-1)).getD q V0).cells) (a3.ext (Ext.refl w1).drew) ?_ (V.one _);intro w2 a4 a5 O;refine ρ ?_;exact Gu a4 ⟨rfl,O w o hb⟩
theorem Jhl{v:V}(hB:ItB w g A d L p e f h st)(hT:Off (λk=>k=g) w (λu=>TriA u A d rs))(hL:0<L)(hLd:L<=d)(hd:d<=32)(hq:q<(lvl rs (L-1)).length)(hqi:qi=(q:Int)): Ret Tryz.prog 261 [.pointer (some ⟨g,0,none⟩),.int .i64 qi,v.val] w λu w'=>u=.bool (decide (cmpV ((lvl rs (L-1)).getD q V0) v<0))/\GrN (λk=>k=g) w w'/\∃ st',ItB w' g A d L p e f h st':=by
 refine enE Tryz.func261 Tryz.ntmps261 ?_;refine bxR (cs:=v.cells) ?_;intro w1 b U hb a3;have C:=hB.ext U;refine ldR (C.at (i:=68) (Jhn _ _ _ _ _ _ _ _)) ?_;refine ρ ?_;have a4:w1.cell? ⟨g,0+68,none⟩=some (.int .i64 st):=by rw[C.cell];exact Jhn _ _ _ _ _ _ _ _
 refine sto a4 (C.frozen _) ?_;obtain⟨st',Z⟩:∃ st':Int,st'=IntKind.i64.wrap (st+1):=⟨_,rfl⟩;rw[<-Z];have G:=C.set (0+68) (.int .i64 st');rw[show(0:Nat)+68=68 from rfl,Qrx]at G;have a1:GrN (λk=>k=g) w (w1.setCell ⟨g,68,none⟩ (.int .i64 st')):=(GrN.ext U).trans (GrN.set _ rfl);have a2:Blk (w1.setCell ⟨g,68,none⟩ (.int .i64 st')) b 147 v.cells:=a3.far (by simp only;have:=hB.lt;omega) _;refine ρ ?_;generalize hw2:w1.setCell ⟨g,68,none⟩ (.int .i64 st')=w2 at *
 refine dr [(0,0),(0,1),(0,3),(1,2),(1,4),(0,5),(0,6)] kr ?_;have o:Ext w2 w2.drew:=(Ext.refl w2).drew;refine Qh (cs:=v.cells) (λj u hu=>(a2.ext o).at hu) ?_;refine Jh (Qqw (G.ext o) (hT _ (a1.trans (GrN.ext o))) hL hLd hd hq hqi) ?_;rintro u w3 ⟨rfl,O⟩;refine⟨O,?_⟩;refine Jh (Jxf _ v _) ?_;rintro u w4 ⟨rfl,J⟩;refine⟨J,?_⟩;refine ρd ?_;refine ρ ?_;have D:=(o.trans O).trans J;exact Jj ⟨rfl,a1.trans (GrN.ext D),st',G.ext D⟩
theorem Jhm(hB:ItB w g A d L p e f h st)(hT:TriA w A d rs)(hLd:L<=d)(hd:d<=32)(he:0<L->e<=(lvl rs (L-1)).length): Ret Tryz.prog 243 [.pointer (some ⟨g,0,none⟩)] w λu w'=>Ext w w'/\∃ v:V,u=.tuple #[v.val,.bool (decide (0<L/\p<e))]/\(0<L/\p<e->v=(lvl rs (L-1)).getD p V0):=by
 refine enE Tryz.func243 Tryz.ntmps243 ?_;refine Jv (cs:=V0.cells) Uv ?_;intro w1 b G hb O;refine clR (Jzb (hB.ext G)) ?_;rintro u w2 ⟨rfl,D⟩;have j:=G.trans D;refine ciR (λh1=>?_) (λh1=>?_)
 .have J:¬ (0<L/\p<e):=by grind
  refine Zj (v:=V0.val) kr ?_;refine Qb (cs':=V0.cells) (O.ext D) ?_ (V.one _);intro w3 a2 a4 C;refine ρ ?_;refine Vz a2 ⟨C w j hb,V0,?_,λh'=>absurd h' J⟩;rw[decide_eq_false J];rfl
 have o:0<L/\p<e:=by grind
 have U:=hB.ext j;refine ldR (U.at (i:=2) rfl) ?_;refine clR (Qqw (q:=p) (qi:=(p:Int)) U (hT.ext j) o.1 hLd hd (by have:=he o.1;omega) rfl) ?_;rintro u w3 ⟨rfl,C⟩;refine Qb (cs':=((lvl rs (L-1)).getD p V0).cells) ((O.ext D).ext C) ?_ (V.one _);intro w4 a1 a3 Z;refine ρ ?_;refine Vz a1 ⟨Z w (j.trans C) hb,_,?_,λ_=>rfl⟩;rw[decide_eq_true o];rfl
theorem Qrw(hB:ItB w g A d L p e f h st)(hL:0<L)(hp:p<e)(hpe:e<=1000000): Ret Tryz.prog 242 [.pointer (some ⟨g,0,none⟩)] w λu w'=>u=.bool (decide (p+1<e))/\GrN (λk=>k=g) w w'/\ItB w' g A d L (p+1) e f h st:=by
 refine enE Tryz.func242 Tryz.ntmps242 ?_;refine clR (Jzb hB) ?_;rintro u J ⟨rfl,C⟩;refine cfR ?_ ?_
 .simp[hL,hp]
 have j:=hB.ext C;refine ldR (j.at (i:=2) rfl) ?_;refine Xv (p:=⟨g,2,none⟩) (j.cell 2) (j.frozen _) ?_;have D:ItB (J.setCell ⟨g,2,none⟩ (.int .i64 ((p:Int)+1))) g A d L (p+1) e f h st:=by
  have:=j.set 2 (.int .i64 ((p:Int)+1));exact this
 have G:GrN (λk=>k=g) w (J.setCell ⟨g,2,none⟩ (.int .i64 ((p:Int)+1))):=(GrN.ext C).trans (GrN.set _ rfl);refine clR (Jzb D) ?_;rintro u O ⟨rfl,o⟩;refine ρ ?_;refine Jj ⟨?_,G.trans (GrN.ext o),D.ext o⟩;grind
theorem Xwq(hB:ItB w g A d L p e f h st)(hk:k<32){u:Value}(hu:[Value.int .i64 (f k:Int),.int .i64 (h k:Int)][j]?=some u): w.cell? (((⟨g,0+4,none⟩:Addr).add (k*2)).add j)=some u:=by
 have i:=Qsb A d L p e f h st hk;rw[Yf,Yf,hB.cell];grind
theorem Qrr(hB:ItB w g A d (L+1) p e f h st)(hL:L<32): Ret Tryz.prog 244 [.pointer (some ⟨g,0,none⟩)] w λu w'=>GrN (λk=>k=g) w w'/\ItB w' g A d L (f L) (h L) f h st:=by
 refine enE Tryz.func244 Tryz.ntmps244 ?_;refine ρ ?_;refine pnl ?_;refine ldR (hB.at (i:=1) rfl) ?_;refine ldR (hB.at (i:=1) rfl) ?_;refine Xv (p:=⟨g,1,none⟩) (hB.cell 1) (hB.frozen _) ?_;have eL:((L+1:Nat):Int)-1=(L:Int):=om
 rw[eL];have Z:ItB (w.setCell ⟨g,1,none⟩ (.int .i64 (L:Int))) g A d L p e f h st:=hB.set 1 (.int .i64 (L:Int));have O:GrN (λk=>k=g) w (w.setCell ⟨g,1,none⟩ (.int .i64 (L:Int))):=GrN.set _ rfl;refine ρ ?_;generalize w.setCell ⟨g,1,none⟩ (.int .i64 (L:Int))=w2 at *
 refine drN (λ_=>False) 4 (scq 13 [112]) kr ?_;have D:Ext w2 w2.drew:=(Ext.refl w2).drew;have C:=Z.ext D;refine ρn ?_;refine nld (Jr (C.at (i:=1) rfl) (λe=>e)) ?_;refine ρn ?_;refine nixa L hL ?_;refine ρn ?_;refine Xr (cs:=[.int .i64 (f L:Int),.int .i64 (h L:Int)]) (λw' hg j u G=>Xwq (Jb C hg (λe=>e)) hL G) ?_;refine ρn ?_;refine Xh ?_;refine stB (o:=2) (us:=[.int .i64 (f L:Int),.int .i64 (h L:Int)]) C (by rw[Jbq];simp) (λu G=>by simp at G;rcases G with rfl|rfl<;>rfl) ?_;intro w4 U J;refine ρ ?_;exact Jj ⟨O.trans ((GrN.ext D).trans (GrN.by J λk e=>by injection e with e;exact e.symm)),U⟩
theorem Qrs(hB:ItB w g A d L p e f h st): Ret Tryz.prog 225 [.pointer (some ⟨g,0,none⟩)] w λu w'=>u=.int .i64 st/\w'=w:=by
 refine enE Tryz.func225 Tryz.ntmps225 ?_;refine ρ ?_;refine pnl ?_;refine ldR (hB.at (i:=68) (Jhn _ _ _ _ _ _ _ _)) ?_;refine ρ ?_;exact Jj ⟨rfl,rfl⟩
theorem Xzt(A:Option Addr)(d:Nat)(w:World): (Instr.build 340 #[(0,.agg #[.slice A d d])]).run Tryz.prog w=.ok (.agg (itC A d 0 0 0 (λ_=>0) (λ_=>0) 0).toArray) w:=kr
theorem Qcl(w:World): Ret Tryz.prog 223 [.agg #[.slice A d d]] w λu w'=>Ext w w'/\∃ g,u=.pointer (some ⟨g,0,none⟩)/\w.heap.size<=g/\ItB w' g A d 0 0 0 (λ_=>0) (λ_=>0) 0:=by
 refine enE Tryz.func223 Tryz.ntmps223 ?_;refine bxR ?_;intro O b i U D;refine Qq D ?_;refine Zj (Xzt A d _) ?_;refine bxR (cs:=itC A d 0 0 0 (λ_=>0) (λ_=>0) 0) ?_;intro J G j o C;refine ρ ?_;exact Jj ⟨i.trans j,G,rfl,Nat.le_trans i.size o,C⟩
end
open Go.RowKit Pl Go.Wk
section
variable {w:World} {g:Nat} {A:Option Addr} {d L p e:Nat} {f h:Nat->Nat} {st:Int} {rs:List Row}
theorem Qrt{v:V}(hB:ItB w g A d L p e f h st)(hT:Off (λk=>k=g) w (λu=>TriA u A d rs))(hL:0<L)(hLd:L<=d)(hd:d<=32)(hpe:p<e)(he:e<=(lvl rs (L-1)).length)(hm:e<=1000000)(hs:∀ i j,p<=i->i<j->j<e->cmpV ((lvl rs (L-1)).getD i V0) ((lvl rs (L-1)).getD j V0)<0):
  Ret Tryz.prog 255 [.pointer (some ⟨g,0,none⟩),v.val] w λu w'=>GrN (λk=>k=g) w w'/\∃ q st',u=.bool (decide (q<e))/\p<=q/\q<=e/\(∀ i,p<=i->i<q->cmpV ((lvl rs (L-1)).getD i V0) v<0)/\(q<e->¬ cmpV ((lvl rs (L-1)).getD q V0) v<0)/\ItB w' g A d L q e f h st':=by
 obtain⟨val,b1⟩:∃ val:Nat->V,val=λi=>(lvl rs (L-1)).getD i V0:=⟨_,rfl⟩;have aa:∀ i,(lvl rs (L-1)).getD i V0=val i:=λi=>by rw[b1]
 simp only[aa]at hs ⊢;have below:∀ {o i:Nat},p<=i->i<=o->o<e->cmpV (val o) v<0->cmpV (val i) v<0:=fun {o i} G h2 h3 h4=>by
  by_cases e':i=o
  .subst e';exact h4
  exact cmp_V.lt_trans (hs i o G om h3) h4
 refine enE Tryz.func255 Tryz.ntmps255 ?_;refine bxR (cs:=v.cells) ?_;intro w1 b az hb bb;have b9:b≠g:=by have:=hB.lt;omega
 have ab:¬ (λk=>k=g) b:=b9;refine clR (Jzb (hB.ext az)) ?_;rintro u w2 ⟨rfl,ay⟩;have ai:=az.trans ay;have bc:=hB.ext ai;have ba:GrN (λk=>k=g) w w2:=GrN.ext ai;refine cfR ?_ ?_
 .simp[hL,hpe]
 refine ρ ?_;refine drN (λ_=>False) 10 (scq 9 [107,108]) kr ?_;have ak:Ext w2 w2.drew:=(Ext.refl w2).drew;have ap:=bc.ext ak;have a7:=(bb.ext ay).ext ak;have ao:=ba.trans (GrN.ext ak);refine ρn ?_;refine nld (Jr (ap.at (i:=2) rfl) (λe=>e)) ?_;refine ρn ?_;refine Xr (cs:=v.cells) (λw' hg j u hu=>(Jb a7 hg (λe=>e)).at hu) ?_;refine ρn ?_;refine Xh ?_;refine cl (Jhl (q:=p) (qi:=(p:Int)) ap (hT.gr ao) hL hLd hd om rfl) ?_;rintro u w4 ⟨rfl,an,av,ah⟩;have aj:=Jb a7 an ab;have a4:=ao.trans an;refine ρ ?_;refine Gz ?_;refine Xh ?_;refine ρ ?_;rw[aa];refine ci (λG=>?_) (λG=>?_)
 .have h2:¬ cmpV (val p) v<0:=by simpa using G
  refine ρ ?_;refine Jj ⟨a4,p,av,by rw[decide_eq_true hpe],Nat.le_refl _,om,λi G h2=>om,λ_=>h2,ah⟩
 have h2:cmpV (val p) v<0:=by simpa using G
 clear G;refine ldR (ah.at (i:=2) rfl) ?_;refine ρ ?_;refine Zq (fun (o step:Nat) (st:Int)=>[(0,.pointer (some ⟨g,0,none⟩)),(3,.pointer (some ⟨b,0,none⟩)),(5,.int .i64 (o:Int)),(6,.int .i64 (step:Int))])
  (λo step st w'=>GrN (λk=>k=g) w w'/\ItB w' g A d L p e f h st/\Blk w' b 147 v.cells/\p<=o/\o<e/\cmpV (val o) v<0/\1<=step/\step<=2000000) (λo _ _=>e-o) p 1 av sB
  ⟨a4,ah,aj,Nat.le_refl _,hpe,h2,Nat.le_refl _,om⟩ ?_
 clear ah aj a4 an ap a7 ao;rintro o step b4 w5 ⟨ae,ag,J,ac,b7,a1,b6,b5⟩;refine ldR (ag.at (i:=3) rfl) ?_;refine ρ ?_;refine Jnv (fun (t:Bool) (st:Int)=>[(0,.pointer (some ⟨g,0,none⟩)),(3,.pointer (some ⟨b,0,none⟩)),(5,.int .i64 (o:Int)),(6,.int .i64 (step:Int)),(42,.bool t)])
  (λt st w'=>GrN (λk=>k=g) w w'/\ItB w' g A d L p e f h st/\Blk w' b 147 v.cells/\(t=true->o+step<e/\cmpV (val (o+step)) v<0)/\(t=false->e<=o+step∨¬ cmpV (val (o+step)) v<0)) ?_ ?_
 .refine ki 35 (λG=>?_) (λG=>?_)
  .have h3:o+step<e:=by have:=oT G;omega
   refine Js (cs:=v.cells) (λj u hu=>J.at hu) ?_;refine clR (Jhl (q:=o+step) (qi:=(o:Int)+(step:Int)) ag (hT.gr ae) hL hLd hd om om) ?_;rintro u w6 ⟨rfl,U,a9,Z⟩;refine ρ ?_;rw[aa];refine Vv _ a9 sB ⟨ae.trans U,Z,Jb J U ab,λh'=>⟨h3,of_decide_eq_true h'⟩,λh'=>.inr (oF h')⟩
  refine ρ ?_;exact Vv false b4 sB ⟨ae,ag,J,λh'=>(by cases h'),λ_=>.inl (by grind)⟩
 clear ae ag J;rintro t a9 w6 ⟨U,Z,a6,b3,b2⟩;refine ci (λG=>?_) (λG=>?_)
 .obtain⟨h3,h4⟩:=b3 G;refine ρ ?_;exact Xq (o+step) (step*2) a9 sO ⟨U,Z,a6,om,om,h4,om,om⟩ om
 have h3:=b2 G;clear b3 b2 G;refine ldR (Z.at (i:=3) rfl) ?_;refine ρ ?_;have b8:∃ hi:Nat,(if(e:Int)<(o:Int)+(step:Int) then(e:Int) else(o:Int)+(step:Int))=(hi:Int)/\o<hi/\hi<=e/\(hi<e->¬ cmpV (val hi) v<0):=by
  by_cases h4:e<o+step
  repeat grind
 obtain⟨hi,aq,am,a3,a2⟩:=b8;rw[aq];refine Zq (fun (o hi:Nat) (st:Int)=>[(0,.pointer (some ⟨g,0,none⟩)),(3,.pointer (some ⟨b,0,none⟩)),(5,.int .i64 (o:Int)),(7,.int .i64 (hi:Int))])
  (λo hi st w'=>GrN (λk=>k=g) w w'/\ItB w' g A d L p e f h st/\Blk w' b 147 v.cells/\p<=o/\cmpV (val o) v<0/\o<hi/\hi<=e/\(hi<e->¬ cmpV (val hi) v<0)) (λo hi _=>hi-o) o hi a9 sB
  ⟨U,Z,a6,ac,a1,am,a3,a2⟩ ?_
 clear U Z a6 ac b7 a1 b6 b5 h3 am a3 a2 aq;rintro C D au w7 ⟨ad,af,a5,ac,a1,am,a3,a2⟩;refine ciR (λG=>?_) (λG=>?_)
 .have be:C+1<D:=by have:=oT G;omega
  refine ρ ?_;refine qn (D-C) 2 ?_;refine ρ ?_;have bd:C<C+(D-C) / 2/\C+(D-C) / 2<D:=om
  generalize hmm:(D-C) / 2=m at *
  refine lds (cs:=v.cells) (λj u hu=>a5.at hu) ?_;refine clR (Jhl (q:=C+m) (qi:=(C:Int)+(m:Int)) af (hT.gr ad) hL hLd hd om om) ?_;rintro u w8 ⟨rfl,O,ar,a8⟩;refine ρ ?_;rw[aa];refine ci (λh2=>?_) (λh2=>?_)
  .refine ρ ?_;exact Xq (C+m) D ar sO ⟨ad.trans O,a8,Jb a5 O ab,om,of_decide_eq_true h2,om,a3,a2⟩ om
  refine ρ ?_;exact Xq C (C+m) ar sO ⟨ad.trans O,a8,Jb a5 O ab,ac,a1,om,om,λ_=>oF h2⟩ om
 have aq:D=C+1:=by have:=oF G;omega
 refine Xv (p:=⟨g,2,none⟩) (af.cell 2) (af.frozen _) ?_;have a8:ItB (w7.setCell ⟨g,2,none⟩ (.int .i64 (D:Int))) g A d L D e f h au:=af.set 2 (.int .i64 (D:Int));have O:GrN (λk=>k=g) w (w7.setCell ⟨g,2,none⟩ (.int .i64 (D:Int))):=ad.trans (GrN.set _ rfl);refine clR (Jzb a8) ?_;rintro u w9 ⟨rfl,ax⟩;refine ρ ?_;refine Jj ⟨O.trans (GrN.ext ax),D,au,?_,om,a3,λi G h2=>below G (show i<=C by omega) om a1,a2,a8.ext ax⟩;grind
end
open Go.RowKit Pl Go.Wk
variable {j:Nat}{u:Value}
theorem Qyn: Qa Tryz.prog 337=some (.agg #[.int .i64 0,.int .i64 0]):=kr
theorem Qwk(x y:Int)(w:World): (Instr.build 337 #[(0,.int .i64 x),(1,.int .i64 y)]).run Tryz.prog w=.ok (.agg #[.int .i64 x,.int .i64 y]) w:=kr
theorem Jbb{x y:Int}: ∀ u∈[Value.int .i64 x,.int .i64 y],u.oneCell'=true:=by intro u i;simp at i;rcases i with rfl|rfl<;>rfl
section
variable {w:World} {g:Nat} {A:Option Addr} {d L p e:Nat} {f h:Nat->Nat} {st:Int} {rs:List Row}
theorem Jps(w:World): Ret Tryz.prog 254 [.agg #[.slice A d d]] w λu w'=>u=.int .i64 (d:Int)/\Ext w w':=by
 refine enE Tryz.func254 Tryz.ntmps254 ?_;refine bxR ?_;intro C b j D o;refine ldR (o.at (i:=0) rfl) ?_;refine ρ ?_;exact Jj ⟨rfl,j⟩
def Uq(rs:List Row)(L p:Nat): Row:=if L=0 then[] else(pfx rs L).getD p []
theorem Jhk(hB:ItB w g A d L p e f h st)(hu:[Value.slice A d d][j]?=some u): w.cell? (((⟨g,0,none⟩:Addr).add 0).add j)=some u:=by
 match j,hu with
 | 0,hu=>rw[add_zero,add_zero,hB.cell];exact hu
 | j+1,hu=>simp at hu
theorem it_at(hB:ItB w g A d L p e f h st)(hu:[Value.int .i64 (p:Int),.int .i64 (e:Int)][j]?=some u): w.cell? (((⟨g,0,none⟩:Addr).add 2).add j)=some u:=by
 match j,hu with
 | 0,hu=>rw[add_zero,Yf,hB.cell];exact hu
 | 1,hu=>rw[Yf,Yf,hB.cell];exact hu
 | j+2,hu=>simp at hu
theorem Qrv(hB:ItB w g A d L p e f h st)(hT:Off (λk=>k=g) w (λu=>TriA u A d rs))(hLd:L<d)(hd:d<=32)(hpe:0<L->p<e/\e<=(pfx rs L).length)(hrs:rs≠[])(hsrt:Srt [] rs)(hm:rs.length<=1000000)(hlen:∀ r∈rs,r.length=d):
  Ret Tryz.prog 240 [.pointer (some ⟨g,0,none⟩)] w λu w'=>u=.bool true/\GrN (λk=>k=g) w w'/\∃ lo hi,lo<hi/\hi<=(pfx rs (L+1)).length/\(∀ i,i<(pfx rs (L+1)).length->(((pfx rs (L+1)).getD i []).take L=Uq rs L p↔lo<=i/\i<hi))/\ItB w' g A d (L+1) lo hi (upd f L p) (upd h L e) st:=by
 refine enE Tryz.func240 Tryz.ntmps240 ?_;refine ρ ?_;refine Qbb [(0,.pointer (some ⟨g,0,none⟩)),(30,.bool false)] (λw'=>Ext w w') ?_ ?_
 .refine dr (scq 26 [10,23]) kr ?_;have J:Ext w w.drew:=(Ext.refl w).drew;have D:=hB.ext J;refine ρd ?_;refine dpnl ?_;refine Jz (D.at (i:=1) rfl) ?_;refine ρd ?_;have rest:∀(al:AL) (w2:World),True:=λ_ _=>trivial;refine dki 13 (λh1=>?_) (λh1=>?_)
  .have C:0<L:=by have:=oT h1;omega
   refine Jh (Jzb D) ?_;rintro u w2 ⟨rfl,U⟩;refine⟨U,?_⟩;have au:=D.ext U;refine ρd ?_;refine dkf 19 ?_ ?_
   .have:=hpe C;simp[C,this.1]
   refine Jz (au.at (i:=1) rfl) ?_;refine Qh (cs:=[.slice A d d]) (λj u hu=>Jhk au hu) ?_;refine Jh (Jps _) ?_;rintro u w3 ⟨rfl,O⟩;refine⟨O,?_⟩;refine ρd ?_;refine ρ ?_;refine Jtg (Sub.cons rfl (Sub.cons ?_ Sub.nil)) ((J.trans U).trans O);exact congrArg (λz=>some (Value.bool z)) (dF om)
  have C:L=0:=by have:=oF h1;omega
  refine Jz (D.at (i:=1) rfl) ?_;refine Qh (cs:=[.slice A d d]) (λj u hu=>Jhk D hu) ?_;refine Jh (Jps _) ?_;rintro u w3 ⟨rfl,O⟩;refine⟨O,?_⟩;refine ρd ?_;refine ρ ?_;refine Jtg (Sub.cons rfl (Sub.cons ?_ Sub.nil)) (J.trans O);exact congrArg (λz=>some (Value.bool z)) (dF om)
 intro w1 aa;have a2:=hB.ext aa;obtain⟨vv,fv,fs,hR,hv,hf,hc⟩:=(hT.ext aa).here;have bd:(pfx rs (L+1)).length<=1000000:=by
  have:=Jqs (rs.map (List.take (L+1)));rw[List.length_map]at this;exact nL this hm
 refine Js (cs:=[.slice A d d]) (λj u hu=>Jhk a2 hu) ?_;refine clR (Jdf (l:=0) (vs:=lvl rs) hR (λl hl=>by obtain⟨B,c,e,_⟩:=hv l hl;exact⟨B,c,e⟩) rfl hd) ?_;rintro u w2 ⟨rfl,U⟩;rw[if_pos (show 0<d by omega),Jzk];refine Zj (Qwk _ _ _) ?_;refine Jv Qyn ?_;intro w3 b O hb b6;refine Qb b6 ?_ (Jbb (x:=0) (y:=((pfx rs (0+1)).length:Int)));intro w4 a5 b1 ad;have Z:Ext w1 w4:=(U.trans (ad w2 O hb));have ar:=a2.ext Z;have ay:b≠g:=by have:=a2.lt;have:=U.size;omega
 refine ldR (ar.at (i:=1) rfl) ?_;refine ρ ?_;refine Jjj (fun (lo hi:Nat)=>[(0,.pointer (some ⟨g,0,none⟩)),(3,.pointer (some ⟨b,0,none⟩))])
  (λlo hi w'=>Ext w1 w'/\Blk w' b 337 [.int .i64 (lo:Int),.int .i64 (hi:Int)]/\hi<=(pfx rs (L+1)).length/\∀ i,i<(pfx rs (L+1)).length->(((pfx rs (L+1)).getD i []).take L=Uq rs L p↔lo<=i/\i<hi)) ?_ ?_
 .refine ci (λh1=>?_) (λh1=>?_)
  .have C:0<L:=by have:=oT h1;omega
   obtain⟨k,rfl⟩:∃ k,L=k+1:=⟨L-1,om⟩;have lk:k<d:=om
   obtain⟨bb,ba⟩:=hpe C;obtain⟨F,fc,b2,b5⟩:=hf k lk;have a7:=hc k om;obtain⟨c1,c2,c3⟩:=a7;have bc:p<=1000000:=by
    have:=Jqs (rs.map (List.take (k+1)));rw[List.length_map]at this;have h4:(pfx rs (k+1)).length<=rs.length:=this;omega
   have lp:p<(fs k).length:=om
   have a6:p+1<(fs k).length:=om
   refine ρ ?_;refine drN (λ_=>False) 10 (scq 14 []) kr ?_;have a4:=Z.drew;have D:=a2.ext a4;have aj:=hR.ext a4;have b4:w4.drew.cell? ((adr A (k*2)).add 1)=some (fv k):=by rw[Xe];exact aj.cell (Ge d vv fv lk).2
   refine ρn ?_;refine nld (Jr (D.at (i:=0) rfl) (λe=>e)) ?_;refine ρn ?_;refine nld (Jr (D.at (i:=1) rfl) (λe=>e)) ?_;refine ρn ?_;refine Yp 2 k aj lk ?_;refine ρn ?_;refine nld (Jr b4 (λe=>e)) ?_;rw[b2];refine ρn ?_;refine ρ ?_;refine drN (λ_=>False) 10 (scq 19 [17,118]) kr ?_;have a3:=a4.drew;have ak:=a2.ext a3;have a8:=b5.ext a3;have am:=(a5.ext (Ext.refl w4).drew).ext (Ext.refl w4.drew).drew;refine ρn ?_;refine nld (Jr (ak.at (i:=2) rfl) (λe=>e)) ?_;refine ρn ?_;refine nix p a8 lp ?_;refine ρn ?_;refine nld (Jr (a8.cell (Xg lp)) (λe=>e)) ?_;refine ρn ?_;refine nld (Jr (ak.at (i:=2) rfl) (λe=>e)) ?_;refine ρn ?_;refine nix (p+1) a8 a6 ?_;refine ρn ?_;refine nld (Jr (a8.cell (Xg a6)) (λe=>e)) ?_;refine ρn ?_;refine nop ?_;refine bld (Qwk _ _ _) ?_;refine ρ ?_;refine Ja (GrN.refl _ _) ?_;refine ρn ?_;refine Xh ?_
   refine stb am ?_ (Jbb (x:=(((fs k).getD p 0:Nat):Int)) (y:=(((fs k).getD (p+1) 0:Nat):Int)));intro w5 G be av;refine ρ ?_;refine Vv ((fs k).getD p 0) ((fs k).getD (p+1) 0) sB ⟨av w1 a3 (nL U.size hb),G,c2 _ a6,λi hi=>?_⟩;rw[c3 p i a6 hi |>.symm,Uq,if_neg om]
  have C:L=0:=by have:=oF h1;omega
  subst C;refine ρ ?_;refine Vv 0 (pfx rs (0+1)).length sB ⟨Z,a5,Nat.le_refl _,λi hi=>?_⟩;rw[Uq,if_pos rfl,List.take_zero];exact⟨λ_=>⟨Nat.zero_le _,hi⟩,λ_=>rfl⟩
 clear b1 ad ar Z a5;rintro lo hi w5 ⟨a9,G,ax,a7⟩;have ab:lo<hi:=by
  have b3:∃ i,i<(pfx rs (L+1)).length/\((pfx rs (L+1)).getD i []).take L=Uq rs L p:=by
   have hr:∃ r∈rs,r.take L=Uq rs L p:=by
    by_cases C:L=0
    .subst C;obtain⟨r,hr⟩:=List.exists_mem_of_ne_nil rs hrs;exact⟨r,hr,by rw[Uq,if_pos rfl,List.take_zero]⟩
    have:=hpe om;rw[Uq,if_neg C];exact(Jwj hsrt).1 (getD_mem' [] _ om)
   obtain⟨r,hr,er⟩:=hr;obtain⟨i,hi,ei⟩:=List.getElem_of_mem ((Jwj hsrt (l:=L+1)).2 ⟨r,hr,rfl⟩);refine⟨i,hi,?_⟩;rw[Qv [] _ hi,ei,List.take_take,Nat.min_eq_left om,er]
  obtain⟨i,hi,ei⟩:=b3;have:=(a7 i hi).1 ei;omega
 have b9:=a2.ext a9;refine ldR (G.at (i:=0) rfl) ?_;refine ldR (G.at (i:=1) rfl) ?_;refine cfR ?_ ?_
 .exact Jlz om
 refine ρ ?_;refine drN (λ_=>False) 10 (scq 13 [112]) kr ?_;have J:Ext w5 w5.drew:=(Ext.refl w5).drew;have ac:=b9.ext J;have ao:=G.ext J;refine ρn ?_;refine nld (Jr (ac.at (i:=1) rfl) (λe=>e)) ?_;refine ρn ?_;refine Xr (cs:=[.int .i64 (p:Int),.int .i64 (e:Int)]) (λw' hg j u hu=>it_at (Jb ac hg (λe=>e)) hu) ?_;refine ρn ?_;refine nixa L (show L<32 by omega) ?_;refine ρn ?_;refine Xh ?_;have ae:=seg2 (cs:=itC A d L p e f h st) (o:=4+L*2) (u:=.int .i64 (p:Int)) (v:=.int .i64 (e:Int)) (by rw[Jbq];omega);refine stB (o:=4+L*2) (us:=[.int .i64 (p:Int),.int .i64 (e:Int)]) ac (by rw[Jbq];simp only[List.length_cons,List.length_nil];omega) Jbb ?_ (hp:=(Yf g (0+4) (L*2)).trans (by rw[Nat.zero_add]));intro w7 aq ai;have ap:ItB w7 g A d L p e (upd f L p) (upd h L e) st:=by
  have e1:(itC A d L p e f h st).take (4+L*2)++[Value.int .i64 (p:Int),.int .i64 (e:Int)]++(itC A d L p e f h st).drop (4+L*2+[Value.int .i64 (p:Int),.int .i64 (e:Int)].length)=itC A d L p e (upd f L p) (upd h L e) st:=by
   rw[<-Qrz A d L p e f h st (show L<32 by omega) p e];exact ae
  rw[e1]at aq;exact aq
 have an:=ao.grown ai (λe=>ay (by injection e));have ah:GrN (λk=>k=g) w w7:=(GrN.ext ((aa.trans a9).trans J)).trans (GrN.by ai λk e=>by injection e with e;exact e.symm);refine Qq an ?_;refine ρ ?_;refine stB (o:=2) (us:=[.int .i64 (lo:Int),.int .i64 (hi:Int)]) ap (by rw[Jbq];simp) Jbb ?_;intro w8 b8 az;have a1:ItB w8 g A d L lo hi (upd f L p) (upd h L e) st:=b8;have ag:=ah.trans (GrN.by az λk e=>by injection e with e;exact e.symm);refine ldR (a1.at (i:=1) rfl) ?_;refine Xv (p:=⟨g,1,none⟩) (a1.cell 1) (a1.frozen _) ?_;have b7:ItB (w8.setCell ⟨g,1,none⟩ (.int .i64 ((L:Int)+1))) g A d (L+1) lo hi (upd f L p) (upd h L e) st:=a1.set 1 (.int .i64 ((L:Int)+1));have af:GrN (λk=>k=g) w (w8.setCell ⟨g,1,none⟩ (.int .i64 ((L:Int)+1))):=ag.trans (GrN.set _ rfl);refine ρ ?_;exact Jj ⟨rfl,af,lo,hi,ab,ax,a7,b7⟩
end
open Go.RowKit Pl Go.Wk
variable {I:List Nat}{a i k:Nat}
def gtN(U:List V)(key:V): Nat:=(U.filter λy=>decide (cmpV key y<0)).length
theorem Qth(U:List V)(key:V): gtN U key<=U.length:=List.length_filter_le _ _
theorem Qxm: ∀ {U:List V} {key key':V},key'∈U->cmpV key key'<0->gtN U key'<gtN U key
 | [],_,_,h,_=>by cases h
 | x::U,key,key',h,hlt=>by
  have mono:∀ U:List V,gtN U key'<=gtN U key:=λU=>by
   induction U with
   | nil=>exact nR _
   | cons y U ih=>
    unfold gtN at *;by_cases e:cmpV key' y<0
    .have:=cmp_V.lt_trans hlt e;grind
    repeat grind
  rcases List.mem_cons.1 h with rfl|h'
  .have:=mono U;grind [gtN,List.filter_cons_of_neg,Vd,List.filter_cons_of_pos,List.length_cons]
  have ih:=Qxm h' hlt;unfold gtN at *;by_cases e:cmpV key' x<0
  .have:=cmp_V.lt_trans hlt e;grind
  repeat grind
structure Fix where
 G: Nat->Nat
 A:Nat->Option Addr
 d:Nat->Nat
 rs:Nat->List Row
structure Lev where
 L: Nat->Nat
 lo:Nat->Nat
 e:Nat->Nat
 f:Nat->Nat->Nat
 h:Nat->Nat->Nat
def Fix.val(F:Fix)(V':Lev)(i a:Nat): V:=(lvl (F.rs i) (V'.L i-1)).getD a V0
def Jxr(F:Fix)(I:List Nat): List Value:=I.map λi=>.pointer (some ⟨F.G i,0,none⟩)
theorem Jxq{F:Fix}(h:k<I.length): (Jxr F I)[k]?=some (.pointer (some ⟨F.G (I.getD k 0),0,none⟩)):=by simp[Jxr,List.getD,List.getElem?_eq_getElem h]
structure OnS(F:Fix)(V':Lev)(I:List Nat): Prop where
 lev:∀ i∈I,0<V'.L i/\V'.L i<=F.d i/\F.d i<=32
 rng:∀ i∈I,V'.e i<=(lvl (F.rs i) (V'.L i-1)).length/\V'.e i<=1000000
 srt:∀ i∈I,∀ a b,V'.lo i<=a->a<b->b<V'.e i->cmpV (F.val V' i a) (F.val V' i b)<0
 inj:∀ i∈I,∀ j∈I,F.G i=F.G j->i=j
 len:I.length<=32
def NG(F:Fix)(I:List Nat)(J:Nat)(k:Nat): Prop:=k=J∨∃ i∈I,k=F.G i
def Its(F:Fix)(V':Lev)(I:List Nat)(w:World)(p:Nat->Nat): Prop:=∀ i∈I,∃ st,ItB w (F.G i) (F.A i) (F.d i) (V'.L i) (p i) (V'.e i) (V'.f i) (V'.h i) st
def Cmn(F:Fix)(V':Lev)(I:List Nat)(y:V): Prop:=∀ i∈I,∃ a,V'.lo i<=a/\a<V'.e i/\F.val V' i a=y
def JB(w:World)(J:Nat)(jr ja yv:Value): Prop:=∃ st:Int,Blk w J 313 [jr,ja,.int .i64 st,yv]
def Jqx(F:Fix)(V':Lev)(I:List Nat): List V:=I.flatMap λi=>(List.range (V'.e i-V'.lo i)).map λa=>F.val V' i (V'.lo i+a)
theorem Xwj{F:Fix}{V':Lev}(hi:i∈I)(h1:V'.lo i<=a)(h2:a<V'.e i): F.val V' i a∈Jqx F V' I:=by
 refine List.mem_flatMap.2 ⟨i,hi,List.mem_map.2 ⟨a-V'.lo i,List.mem_range.2 om,?_⟩⟩;congr 1;omega
theorem Qvn{F:Fix}{V':Lev}: ∀ {I:List Nat},(∀ i∈I,V'.e i<=1000000)->(Jqx F V' I).length<=I.length*1000000
 | [],_=>nR _
 | i::I,h=>by
  have ih:=Qvn (F:=F) (V':=V') (I:=I) (λj hj=>h j (List.mem_cons_of_mem _ hj));grind [List.mem_cons_self,Jqx,List.length_append,List.length_map,List.length_range,List.length_cons]
theorem Xxc{a b c:V}(h1:cmpV a b<=0)(h2:cmpV b c<=0): cmpV a c<=0:=cmp_V.trans a b c h1 h2
theorem Qcv(k n:Nat): (k:Int).tmod (n:Int)=((k % n:Nat):Int):=by grind
open Go.RowKit Pl Go.Wk
variable {J b c i j k n r s:Nat}{w w' w'':World}
theorem _root_.Go.Wk.GrN.newBy{N:Nat->Prop}(h:GrN N w w')(hg:w'.grownBy w'' (some b))(hb:w.heap.size<=b): GrN N w w'' :=
 ⟨hg.os.trans h.os,hg.tape.trans h.tape,hg.output.trans h.output,Nat.le_trans h.size hg.size,λk i hn=>(hg.block k (nM i h.size) (λe=>by grind)).trans (h.block k i hn)⟩
theorem Qjh{α:Type}{l:List α}(h:l.Nodup)(hi:i<l.length)(hj:j<l.length)(e:l[i]=l[j]): i=j:=by grind [List.pairwise_iff_getElem.1,Nat.lt_trichotomy]
theorem Qns(h1:1<=s)(h2:s<n)(h3:s<=k): (k-s) % n≠k % n:=by
 intro e;have o:(k-s+s) % n=(k-s) % n:=by grind
 have j:((k-s) % n+s) % n=(k-s) % n:=by grind [Nat.mod_add_mod]
 generalize hx:(k-s) % n=x at *
 have i:x<n:=by rw[<-hx];exact Nat.mod_lt _ om
 rcases Nat.lt_or_ge (x+s) n with h6|h6
 .grind [Nat.mod_eq_of_lt]
 rw[Nat.mod_eq_sub_mod h6,Nat.mod_eq_of_lt om]at j;omega
theorem Qnt(hr:r<n)(hk:n<=k): ∃ s,1<=s/\s<=n/\(k-s) % n=r:=by
 have u:k % n<n:=Nat.mod_lt _ om;have j:=Nat.div_add_mod k n;by_cases h:r<k % n
 .refine⟨k % n-r,om,om,?_⟩;have:k-(k % n-r)=n*(k / n)+r:=om
  rw[this,Nat.mul_add_mod,Nat.mod_eq_of_lt hr]
 refine⟨k % n+n-r,om,om,?_⟩;have o:1<=k / n:=by grind
 obtain⟨q,i⟩:∃ q,k / n=q+1:=⟨k / n-1,om⟩;rw[i,Nat.mul_succ]at j;have:k-(k % n+n-r)=n*q+r:=om
 rw[this,Nat.mul_add_mod,Nat.mod_eq_of_lt hr]
theorem Qjs{F:Fix}{V':Lev}{I:List Nat}{p:Nat->Nat}{jr ja yv:Value}{B:Option Addr}(hO:OnS F V' I)(hne:0<I.length)(hnd:I.Nodup)(hIts:Its F V' I w p)(hJ:JB w J jr ja yv)(hJG:∀ i∈I,F.G i≠J)(hT:∀ i∈I,Off (NG F I J) w (λu=>TriA u (F.A i) (F.d i) (F.rs i)))(hB:Off (NG F I J) w (λu=>Rd u 1 B I.length (Jxr F I)))(hp:∀ i∈I,V'.lo i<=p i/\p i<V'.e i)(hK:∀ i∈I,∀ a,V'.lo i<=a->a<p i->cmpV (F.val V' i a) (F.val V' (I.getD 0 0) (p (I.getD 0 0)))<0):
  Ret Tryz.prog 241 [.pointer (some ⟨J,0,none⟩),.slice B I.length c] w λu w'=>GrN (NG F I J) w w'/\JB w' J jr ja yv/\∃ p' t,u=.bool t/\Its F V' I w' p'/\(∀ i∈I,V'.lo i<=p' i/\p' i<=V'.e i) /\
   (t=true->∃ x,(∀ i∈I,p' i<V'.e i/\F.val V' i (p' i)=x)/\cmpV (F.val V' (I.getD 0 0) (p (I.getD 0 0))) x<=0/\∀ y,Cmn F V' I y->cmpV (F.val V' (I.getD 0 0) (p (I.getD 0 0))) y<=0->cmpV x y<=0) /\
   (t=false->∀ y,Cmn F V' I y->¬ cmpV (F.val V' (I.getD 0 0) (p (I.getD 0 0))) y<=0):=by
 have ab:I.getD 0 0∈I:=getD_mem' 0 I hne;obtain⟨K0,b4⟩:∃ K0,K0=F.val V' (I.getD 0 0) (p (I.getD 0 0)):=⟨_,rfl⟩;rw[<-b4]at hK ⊢;have cm:=hO.len;have aq:∀ i∈I,F.G i<w.heap.size:=λi hi=>by obtain⟨st,C⟩:=hIts i hi;exact C.lt
 have bo:J<w.heap.size:=by obtain⟨st,C⟩:=hJ;exact C.lt
 refine enE Tryz.func241 Tryz.ntmps241 ?_;refine ixR 0 hB.here hne ?_;refine ldR (hB.here.cell (Jxq hne)) ?_;refine ρ ?_;obtain⟨cq,bs⟩:=hIts _ ab;have aj:=hO.lev _ ab;have b1:=hp _ ab;have c4:=hO.rng _ ab;refine cl (Jhm bs (hT _ ab).here aj.2.1 aj.2.2 (λ_=>c4.1)) ?_;rintro u w1 ⟨be,v,rfl,hv⟩;have c3:=hv ⟨aj.1,b1.2⟩;have c2:v=K0:=by rw[c3,b4];rfl
 subst c2;rw[decide_eq_true (show 0<V'.L (I.getD 0 0)/\p (I.getD 0 0)<V'.e (I.getD 0 0) from⟨aj.1,b1.2⟩)];refine Jv (cs:=V0.cells) Uv ?_;intro w2 bk bd b2 bu;refine Qb (cs':=v.cells) bu ?_ (V.one _);intro w3 au cd bc;have am:Ext w1 w3:=bc w1 bd b2;have a6:=be.trans am;have bj:w.heap.size<=bk:=nL be.size b2;refine ρ ?_;refine Jxd (fun (same k:Nat) (key:V) (p:Nat->Nat)=>[(0,.pointer (some ⟨J,0,none⟩)),(1,.slice B I.length c),(5,.pointer (some ⟨bk,0,none⟩)),(7,.int .i64 (same:Int)),(8,.int .i64 (k:Int))])
  (λsame k key p w'=>GrN (NG F I J) w w'/\JB w' J jr ja yv/\Its F V' I w' p/\Blk w' bk 147 key.cells/\(∀ i∈I,V'.lo i<=p i/\p i<V'.e i)/\(∀ i∈I,∀ a,V'.lo i<=a->a<p i->cmpV (F.val V' i a) key<0)/\cmpV v key<=0/\(∀ y,Cmn F V' I y->cmpV v y<=0->cmpV key y<=0) /\
   1<=same/\same<=I.length/\same<=k/\k+(gtN (Jqx F V' I) key*33+(I.length-same))<=2000000000/\(∀ s,1<=s->s<=same->F.val V' (I.getD ((k-s) % I.length) 0) (p (I.getD ((k-s) % I.length) 0))=key)) (λsame k key p=>gtN (Jqx F V' I) key*33+(I.length-same)) 1 1 v p sB
  ⟨GrN.ext a6,?_,λi hi=>?_,au,hp,hK,by rw[Vd];omega,λy _ h'=>h',Nat.le_refl _,hne,Nat.le_refl _,?_,λs C h2=>?_⟩ ?_
 .obtain⟨st,hJ⟩:=hJ;exact⟨st,hJ.ext a6⟩
 .obtain⟨st,hI⟩:=hIts i hi;exact⟨st,hI.ext a6⟩
 .have C:=Qth (Jqx F V' I) v;have h2:=Qvn (F:=F) (V':=V') (I:=I) (λi hi=>(hO.rng i hi).2);omega
 .have:s=1:=om
  subst this;rw[Nat.sub_self,Nat.zero_mod];exact b4.symm
 clear au cd bc bu am a6 bd b2 hJ hIts hp hK bs b1;rintro same k key p w4 ⟨ak,⟨sj,bq⟩,a4,ar,a2,b3,ay,a8,cw,cv,cr,d2,bf⟩;refine ciR (λC=>?_) (λC=>?_)
 .have cz:same<I.length:=by have:=oT C;omega
  clear C;have c0:=hB w4 ak;refine ρ ?_;refine rem (show((I.length:Nat):Int)≠0 by omega) ?_;rw[Qcv];have lr:k % I.length<I.length:=Nat.mod_lt _ hne;refine ixR (k % I.length) c0 lr ?_;refine ldR (c0.cell (Jxq lr)) ?_;refine ρ ?_;obtain⟨i,hi⟩:∃ i,i=I.getD (k % I.length) 0:=⟨_,rfl⟩;rw[<-hi];have o:i∈I:=by rw[hi];exact getD_mem' 0 I lr
  refine lds (cs:=key.cells) (λj u hu=>ar.at hu) ?_;refine ρ ?_;obtain⟨cp,cg⟩:=a4 i o;have a3:=hO.lev i o;have az:=hO.rng i o;have c8:=a2 i o;have bn:Off (λk=>k=F.G i) w4 (λu=>TriA u (F.A i) (F.d i) (F.rs i)):=((hT i o).gr ak).mono λj _ ej=>.inr ⟨i,o,ej⟩;refine cl (Qrt (v:=key) cg bn a3.1 a3.2.1 a3.2.2 c8.2 az.1 az.2 (λa b C h2 h3=>hO.srt i o a b om h2 h3)) ?_;rintro u w5 ⟨ae,q,c1,rfl,cy,cx,c7,c6,br⟩;have ch:∀ j∈I,j≠i->¬ (λk=>k=F.G i) (F.G j):=λj Z ca e=>ca (hO.inj j Z i o e);have bh:GrN (NG F I J) w4 w5:=ae.mono λj _ ej=>.inr ⟨i,o,ej⟩;have ah:Its F V' I w5 (upd p i q):=λj Z=>by
   by_cases e:j=i
   .subst e;rw[Ju];exact⟨c1,br⟩
   rw[Jm _ _ e];obtain⟨st,a5⟩:=a4 j Z;exact⟨st,Jb a5 ae (ch j Z e)⟩
  have bp:=Jb bq ae (λe=>hJG i o e.symm);have bl:¬ (λk=>k=F.G i) bk:=λe=>by have C:=aq i o;omega
  have bt:=Jb ar ae bl;have ad:=ak.trans bh;have D:∀ a,V'.lo i<=a->a<q->cmpV (F.val V' i a) key<0:=λa C h2=>by
   by_cases h3:a<p i
   .exact b3 i o a C h3
   exact c7 a om h2
  refine ciR (λC=>?_) (λC=>?_)
  .have aa:¬ q<V'.e i:=by simpa using C
   refine ρ ?_;refine Jj ⟨ad,⟨sj,bp⟩,upd p i q,false,rfl,ah,λj Z=>?_,λe=>(by cases e),λ_ y hy ax=>?_⟩
   .by_cases e:j=i
    .subst e;rw[Ju];omega
    rw[Jm _ _ e];have:=a2 j Z;omega
   obtain⟨a,h2,h3,h4⟩:=hy i o;have h5:=a8 y hy ax;have h6:=D a h2 om;rw[h4]at h6;have:=cmp_V.anti key y;omega
  have aa:q<V'.e i:=by simpa using C
  have c5:=c6 aa;clear C;refine clR (Jhm br (bn w5 ae) a3.2.1 a3.2.2 (λ_=>az.1)) ?_;rintro u w6 ⟨av,nx,rfl,c9⟩;have a1:nx=F.val V' i q:=c9 ⟨a3.1,aa⟩;rw[decide_eq_true (show 0<V'.L i/\q<V'.e i from⟨a3.1,aa⟩)];refine Jv (cs:=V0.cells) Uv ?_;intro w7 b7 bb bm bz;refine Qb (cs':=nx.cells) bz ?_ (V.one _);intro w8 bw cc ba;have a7:Ext w5 w8:=av.trans (ba w6 bb bm);have ag:=bp.ext a7;refine ldR (ag.at (i:=2) rfl) ?_;refine Xv (p:=⟨J,2,none⟩) (ag.cell 2) (ag.frozen _) ?_;have ce:=ag.set 2 (.int .i64 (IntKind.i64.wrap (sj+1)));have cb:GrN (NG F I J) w8 (w8.setCell ⟨J,2,none⟩ (.int .i64 (IntKind.i64.wrap (sj+1)))):=GrN.set _ (.inl rfl);have cn:w.heap.size<=b7:=nL ad.size (nL av.size bm);have bv:Blk (w8.setCell ⟨J,2,none⟩ (.int .i64 (IntKind.i64.wrap (sj+1)))) b7 147 nx.cells:=bw.far (by simp only;omega) _;have ai:Blk (w8.setCell ⟨J,2,none⟩ (.int .i64 (IntKind.i64.wrap (sj+1)))) bk 147 key.cells:=(bt.ext a7).far (by simp only;omega) _
  have b5:Its F V' I (w8.setCell ⟨J,2,none⟩ (.int .i64 (IntKind.i64.wrap (sj+1)))) (upd p i q):=λj Z=>by
   obtain⟨st,a5⟩:=ah j Z;exact⟨st,(a5.ext a7).far (hJG j Z) _⟩
  have ao:=(ad.trans (GrN.ext a7)).trans cb;clear cc ba bw bz bb av ag;generalize w8.setCell ⟨J,2,none⟩ (.int .i64 (IntKind.i64.wrap (sj+1)))=w9 at *
  have bg:∀ j∈I,V'.lo j<=upd p i q j/\upd p i q j<V'.e j:=λj Z=>by
   by_cases e:j=i
   .subst e;rw[Ju];have:=a2 j Z;omega
   rw[Jm _ _ e];exact a2 j Z
  refine Js (cs:=nx.cells) (λj u hu=>bv.at hu) ?_;refine Js (cs:=key.cells) (λj u hu=>ai.at hu) ?_;refine clR (Jxf nx key _) ?_;rintro u b9 ⟨rfl,O⟩;refine ρ ?_;have ap:JB b9 J jr ja yv:=⟨_,ce.ext O⟩;have a9:Its F V' I b9 (upd p i q):=λj Z=>by
   obtain⟨st,a5⟩:=b5 j Z;exact⟨st,a5.ext O⟩
  refine ci (λC=>?_) (λC=>?_)
  .have bi:nx=key:=cmp_V.zero _ _ (Zx C);refine ρ ?_;refine Kd (same+1) (k+1) key (upd p i q) sO ⟨ao.trans (GrN.ext O),ap,a9,ai.ext O,bg,λj Z a h2 h3=>?_,ay,a8,om,om,om,om,λs h2 h3=>?_⟩ om
   .by_cases e:j=i
    .subst e;rw[Ju]at h3;exact D a h2 h3
    rw[Jm _ _ e]at h3;exact b3 j Z a h2 h3
   by_cases e:s=1
   .subst e;rw[Nat.add_sub_cancel,<-hi,Ju,<-a1,bi]
   have h4:k+1-s=k-(s-1):=om
   rw[h4];have h5:(k-(s-1)) % I.length<I.length:=Nat.mod_lt _ hne;have h6:I.getD ((k-(s-1)) % I.length) 0≠i:=λe2=>by
    rw[hi,Qv 0 I h5,Qv 0 I lr]at e2;have e3:=Qjh hnd h5 lr e2;exact Qns (n:=I.length) (k:=k) (s:=s-1) om om om e3
   rw[Jm _ _ h6];exact bf (s-1) om om
  have ck:=Xu C;have ac:cmpV key nx<0:=by
   have h2:=cmp_V.anti nx key;have h3:¬ cmpV nx key<0:=by rw[a1];exact c5
   omega
  have d0:=Qxm (U:=Jqx F V' I) (by rw[a1];exact Xwj o om aa) ac;have b8:=ai.ext O;refine Js (cs:=nx.cells) (λj u hu=>(bv.ext O).at hu) ?_;refine Qb (cs':=nx.cells) b8 ?_ (V.one _);intro co b6 af cj;have an:∀ {g:Nat},g<w.heap.size->some g≠some bk:=fun {g} hg e=>by injection e with e;omega
  refine ρ ?_;refine Kd 1 (k+1) nx (upd p i q) sO ⟨(ao.trans (GrN.ext O)).newBy af bj,?_,λj Z=>?_,b6,bg,λj Z a h2 h3=>?_,?_,λy hy ax=>?_,Nat.le_refl _,hne,om,om,λs h2 h3=>?_⟩ om
  .obtain⟨st,hJ⟩:=ap;exact⟨st,hJ.grown af (an bo)⟩
  .obtain⟨st,a5⟩:=a9 j Z;exact⟨st,a5.grown af (an (aq j Z))⟩
  .by_cases e:j=i
   .subst e;rw[Ju]at h3;exact cmp_V.lt_trans (D a h2 h3) ac
   rw[Jm _ _ e]at h3;exact cmp_V.lt_trans (b3 j Z a h2 h3) ac
  .exact Xxc ay om
  .obtain⟨a,h2,h3,h4⟩:=hy i o;have h5:=a8 y hy ax;have h6:q<=a:=by
    rcases Nat.lt_or_ge a q with h7|h7
    .have h8:=D a h2 h7;rw[h4]at h8;have:=cmp_V.anti key y;omega
    exact h7
   rw[a1,<-h4];by_cases e:a=q
   .subst e;rw[Vd];omega
   have:=hO.srt i o q a om om h3;omega
  have:s=1:=om
  subst this;rw[Nat.add_sub_cancel,<-hi,Ju];exact a1.symm
 have d1:same=I.length:=by have:=oF C;omega
 refine ρ ?_;refine Jj ⟨ak,⟨sj,bq⟩,p,true,rfl,a4,λi hi=>⟨(a2 i hi).1,Nat.le_of_lt (a2 i hi).2⟩,λ_=>⟨key,λi hi=>⟨(a2 i hi).2,?_⟩,ay,a8⟩,λe=>by cases e⟩;obtain⟨r,hr,er⟩:=List.getElem_of_mem hi;obtain⟨s,C,h2,h3⟩:=Qnt hr (show I.length<=k by omega);have:=bf s C om;rw[h3,Qv 0 I hr,er]at this;exact this
end Go.Proofs.YtgobkbeokaaplaaGreatDoor
namespace Go.Proofs.YtgobkbeokaaplaaGreatDoor
open Pl
variable {vs:List Nat}{d k l n u v:Nat}{q y z z':Row}
def Xw(vs:List Nat): Prop:=vs.Pairwise (· < ·)
def lv(vs:List Nat)(v:Nat): Nat:=(vs.filter λu=>decide (u<v)).length
theorem Qjz(vs:List Nat)(v:Nat): lv vs v<=vs.length:=List.length_filter_le _ _
theorem Jwk(vs:List Nat): lv vs 0=0:=by simp[lv]
theorem Qqc(h:∀ u∈vs,u<n): lv vs n=vs.length:=by grind [lv,List.filter_eq_self.2]
theorem Jbh(u:Nat)(vs:List Nat)(v:Nat): lv (u::vs) v=(if u<v then 1 else 0)+lv vs v:=by grind [lv,List.filter_cons_of_pos,List.length_cons,List.filter_cons_of_neg]
theorem Qjx(h:∀ u∈vs,v<=u): lv vs v=0:=by grind [lv,List.filter_eq_nil_iff.2]
theorem Jqh(h:v ∉ vs): lv vs (v+1)=lv vs v:=by
 induction vs with
 | nil=>rfl
 | cons u vs ih=>
  grind [Jbh,List.mem_cons_of_mem,List.mem_cons_self]
theorem Yc(ha:Xw vs)(h:v∈vs): lv vs (v+1)=lv vs v+1/\lv vs v<vs.length/\vs.getD (lv vs v) 0=v:=by
 induction vs with
 | nil=>cases h
 | cons u vs ih=>
  obtain⟨j,i⟩:=List.pairwise_cons.1 ha;rw[Jbh,Jbh];rcases List.mem_cons.1 h with rfl|h'
  .grind [lv,Qjx,Nat.le_of_lt,List.length_cons]
  have G:=j v h';obtain⟨D,C,o⟩:=ih i h';grind
theorem Qpt(ha:Xw vs): vs.take (lv vs v)=vs.filter λu=>decide (u<v):=by
 induction vs with
 | nil=>rfl
 | cons u vs ih=>
  obtain⟨j,i⟩:=List.pairwise_cons.1 ha;by_cases h:u<v
  .rw[Jbh,if_pos h,Nat.add_comm 1,List.take_succ_cons,ih i,List.filter_cons_of_pos (by simpa using h)]
  repeat grind [lv,Qjx,List.mem_cons.1,List.filter_eq_nil_iff.2]
theorem Jpz(h:z.take v=z'.take v)(hu:u<v): z.getD u V0=z'.getD u V0:=by
 have:=congrArg (λl=>l.getD u V0) h;grind
theorem Jfx(ha:Xw vs)(h:z.take v=z'.take v): (pmR vs z).take (lv vs v)=(pmR vs z').take (lv vs v):=by
 unfold pmR;rw[<-List.map_take,<-List.map_take,Qpt ha];grind [List.map_congr_left,Jpz,List.mem_filter.1]
theorem Jtr(h:k<vs.length): (pmR vs z).getD k V0=z.getD (vs.getD k 0) V0:=Jfw h
theorem Jtp(ha:Xw vs)(h:v∈vs): (pmR vs z).take (lv vs v+1)=(pmR vs z).take (lv vs v)++[z.getD v V0]:=by
 obtain⟨_,i,j⟩:=Yc ha h;rw[Qt V0 (by rw[Qn];exact i),Jtr i,j]
theorem Qkl: ∀(v:Nat) (z z':Row),z.take v=z'.take v->v<z.length->v<z'.length->cmpV (z.getD v V0) (z'.getD v V0)<0->Jw z z' []<0
 | 0,a::z,b::z',_,_,_,h=>by
  simp only[List.getD_cons_zero]at h;simp only[Jw];rw[if_neg om];exact h
 | v+1,a::z,b::z',h,h1,h2,h3=>by
  simp only[List.take_succ_cons,List.cons.injEq]at h;simp only[Jw];rw[if_pos (by grind [Vd])];exact Qkl v z z' h.2 (by simpa using h1) (by simpa using h2) (by simpa using h3)
 | _,[],_,_,h,_,_=>by simp at h
 | _,_::_,[],_,_,h,_=>by simp at h
def Vh(n m:Nat)(vars:Nat->List Nat)(rs:Nat->List Row)(z:Row): Prop:=z.length=n/\∀ i,i<m->pmR (vars i) z∈rs i
theorem Qdb(h1:q.length=l+1)(h2:q.take l=y): q=y++[q.getD l V0]:=by
 have:=Qt V0 (l:=q) (k:=l) om;grind
theorem Qll{rs:List Row}(h:Srt [] rs)(hl:∀ r∈rs,r.length=d)(hld:l<=d)(hq:q∈pfx rs l): q.length=l:=by grind [Jwj,List.length_take]
theorem Qff(x:V): (z.set v x).take v=z.take v:=List.take_set_of_le (nR _)
theorem Qfh(x:V)(h:v<z.length): (z.set v x).getD v V0=x:=by grind
theorem Jpx(h:z.take v=z'.take v)(hu:u<=v): z.take u=z'.take u:=by
 have:=congrArg (List.take u) h;grind
theorem Qcz(h:z.take v=z'.take v)(h1:v<z.length)(h2:v<z'.length)(h3:z.getD v V0=z'.getD v V0): z.take (v+1)=z'.take (v+1):=by grind [Qt,V0]
open Go.RowKit Pl Go.Wk
attribute [local irreducible] WC WL QX WD WDB WP WN
variable {L' e' i k v:Nat}{f' h' p':Nat->Nat}
structure JC where
 F: Fix
 n:Nat
 m:Nat
 vars:Nat->List Nat
 J:Nat
 Ra:Option Addr
 base:Nat
 ja:Value
 yv:Value
 vat:Nat->Value
 N:Nat->Prop
def JC.I(c:JC)(v:Nat): List Nat:=(List.range c.m).filter λi=>decide (v∈c.vars i)
theorem JC.mem_I{c:JC}: i∈c.I v↔i<c.m/\v∈c.vars i:=by simp[JC.I]
theorem JC.nodup_I(c:JC)(v:Nat): (c.I v).Nodup:=List.Nodup.sublist List.filter_sublist List.nodup_range
theorem JC.len_I(c:JC)(v:Nat): (c.I v).length<=c.m:=by have:=List.length_filter_le (λi=>decide (v∈c.vars i)) (List.range c.m);rw[List.length_range]at this;exact this
def JC.rowv(c:JC): Value:=.slice c.Ra c.n c.n
abbrev JC.Ans(c:JC)(z:Row): Prop:=Vh c.n c.m c.vars c.F.rs z
def JC.NI(c:JC)(k:Nat): Prop:=k=c.J∨(∃ i,i<c.m/\k=c.F.G i)∨c.rowv.ownBlock=some k
structure JOk(c:JC): Prop where
 n32:c.n<=32
 m32:c.m<=32
 asc:∀ i,i<c.m->Xw (c.vars i)
 lt:∀ i,i<c.m->∀ u∈c.vars i,u<c.n
 d:∀ i,i<c.m->c.F.d i=(c.vars i).length
 d32:∀ i,i<c.m->c.F.d i<=32
 ne:∀ i,i<c.m->c.F.rs i≠[]
 srt:∀ i,i<c.m->Lt [] (c.F.rs i)
 len:∀ i,i<c.m->∀ r∈c.F.rs i,r.length=c.F.d i
 big:∀ i,i<c.m->(c.F.rs i).length<=65536
 inj:∀ i j,i<c.m->j<c.m->c.F.G i=c.F.G j->i=j
 gj:∀ i,i<c.m->c.F.G i≠c.J
 cov:∀ v,v<c.n->∃ i,i<c.m/\v∈c.vars i
 sub:∀ k,c.NI k->c.N k
structure JEnv(c:JC)(w:World): Prop where
 tri:∀ i,i<c.m->Off c.N w (λu=>TriA u (c.F.A i) (c.F.d i) (c.F.rs i))
 at_:∃ B cc,c.ja=.slice B c.n cc/\Off c.N w (λu=>Rd u 1 B c.n ((List.range c.n).map c.vat))
 lists:∀ v,v<c.n->∃ B cc,c.vat v=.slice B (c.I v).length cc/\Off c.N w (λu=>Rd u 1 B (c.I v).length (Jxr c.F (c.I v)))
theorem JEnv.gr{c:JC}{w w':World}(h:JEnv c w)(hg:GrN c.N w w'): JEnv c w':=by
 refine⟨λi hi=>(h.tri i hi).gr hg,?_,λv u=>?_⟩
 .obtain⟨B,o,e,j⟩:=h.at_;exact⟨B,o,e,j.gr hg⟩
 obtain⟨B,o,e,j⟩:=h.lists v u;exact⟨B,o,e,j.gr hg⟩
def AllIt(c:JC)(w:World)(L p e:Nat->Nat)(f h:Nat->Nat->Nat): Prop:=∀ i,i<c.m->∃ st,ItB w (c.F.G i) (c.F.A i) (c.F.d i) (L i) (p i) (e i) (f i) (h i) st
structure YC(c:JC)(Y:List Row->World->Prop)(NY:Nat->Prop): Prop where
 sub:∀ k,NY k->c.N k
 off:∀ k,NY k->¬ c.NI k
 keep:∀ l w w',Y l w->GrN c.NI w w'->Y l w'
 call:∃ fid first cap,c.yv=.func (.func fid) first cap/\∀ l w vr z,Y l w->RowV w vr z->l.length<65536->Ret Tryz.prog fid (first.toList++[vr]++cap.toList) w λr w'=>r=.bool true/\Y (l++[z]) w'/\GrN NY w w'
structure Cfg(c:JC)(Y:List Row->World->Prop)(w:World)(z:Row)(L p e:Nat->Nat)(f h:Nat->Nat->Nat)(l:List Row): Prop where
 env:JEnv c w
 its:AllIt c w L p e f h
 row:Xl w c.base c.rowv z
 zl:z.length=c.n
 jb:JB w c.J c.rowv c.ja c.yv
 y:Y l w
section
variable {c:JC} {Y:List Row->World->Prop} {NY:Nat->Prop} {w w':World} {z:Row} {L p e:Nat->Nat} {f h:Nat->Nat->Nat} {l:List Row}
theorem Cfg.ext(H:Cfg c Y w z L p e f h l)(hY:YC c Y NY)(hx:Ext w w'): Cfg c Y w' z L p e f h l :=
 ⟨H.env.gr (GrN.ext hx),λi hi=>by obtain⟨st,j⟩:=H.its i hi;exact⟨st,j.ext hx⟩,Jk H.row hx,H.zl,by obtain⟨st,j⟩:=H.jb;exact⟨st,j.ext hx⟩,hY.keep _ _ _ H.y (GrN.ext hx)⟩
theorem Cfg.rowG(H:Cfg c Y w z L p e f h l)(hi:i<c.m)(hk:c.rowv.ownBlock=some k): k≠c.F.G i:=λo=>by
 obtain⟨st,j⟩:=H.its i hi;exact j.ne_own H.row rfl (by rw[hk,o])
theorem Cfg.rowJ(H:Cfg c Y w z L p e f h l)(hk:c.rowv.ownBlock=some k): k≠c.J:=λj=>by
 obtain⟨st,i⟩:=H.jb;exact i.ne_own H.row rfl (by rw[hk,j])
theorem Cfg.it(H:Cfg c Y w z L p e f h l)(hok:JOk c)(hY:YC c Y NY)(hi:i<c.m)(hg:GrN (λk=>k=c.F.G i) w w'){p':Nat}{st:Int}(hI:ItB w' (c.F.G i) (c.F.A i) (c.F.d i) L' p' e' f' h' st):
  Cfg c Y w' z (upd L i L') (upd p i p') (upd e i e') (upd f i f') (upd h i h') l:=by
 have o:GrN c.NI w w':=hg.mono λk _ u=>.inr (.inl ⟨i,hi,u⟩);refine⟨H.env.gr (o.mono λk _ J=>hok.sub k J),λj D=>?_,Jt H.row hg (λg O=>H.rowG hi O),H.zl,?_,hY.keep _ _ _ H.y o⟩
 .by_cases ej:j=i
  .grind [Ju]
  rw[Jm _ _ ej,Jm _ _ ej,Jm _ _ ej,Jm _ _ ej,Jm _ _ ej];obtain⟨st,C⟩:=H.its j D;exact⟨st,Jb C hg (λu=>ej (hok.inj j i D hi u))⟩
 obtain⟨st,C⟩:=H.jb;exact⟨st,Jb C hg (λu=>hok.gj i hi u.symm)⟩
theorem Cfg.mt(H:Cfg c Y w z L p e f h l)(hok:JOk c)(hY:YC c Y NY)(hg:GrN (NG c.F (c.I v) c.J) w w')(hJ:JB w' c.J c.rowv c.ja c.yv)(hI:Its c.F ⟨L,λ_=>0,e,f,h⟩ (c.I v) w' p'):
  Cfg c Y w' z L (λi=>if i∈c.I v then p' i else p i) e f h l:=by
 have u:GrN c.NI w w':=hg.mono λk _ o=>by
  rcases o with o|⟨i,hi,o⟩
  .exact .inl o
  exact .inr (.inl ⟨i,(JC.mem_I.1 hi).1,o⟩)
 refine⟨H.env.gr (u.mono λk _ G=>hok.sub k G),λj C=>?_,Jt H.row hg (λg D=>?_),H.zl,hJ,hY.keep _ _ _ H.y u⟩
 .by_cases ej:j∈c.I v
  .simp only[if_pos ej];exact hI j ej
  simp only[if_neg ej];obtain⟨st,O⟩:=H.its j C;refine⟨st,Jb O hg ?_⟩;rintro(o|⟨i,hi,o⟩)
  .exact hok.gj j C o
  have:=hok.inj j i C (JC.mem_I.1 hi).1 o;subst this;exact ej hi
 rintro(o|⟨i,hi,o⟩)
 .exact H.rowJ D o
 exact H.rowG (JC.mem_I.1 hi).1 D o
end
end Go.Proofs.YtgobkbeokaaplaaGreatDoor
namespace Go.Wk
open Go.RowKit
open Go.Maps (Keyed)
variable {kl:Lit}{f:Lit->Option Value}{b k m:Nat}{x y:Operand}{kd:TK}{e t:TypeId}{key u v z:Value}
abbrev DV:= DataW Value
def RT(v:Value): Option (DV×List MemPlace):=some (.held v,[])
theorem Qyd{ps:List MemPlace}(h:RT v=some (.held u,ps)): v=u:=by grind [RT,Option.some.injEq]
def MapS(P:Program)(k:TypeId)(w:World)(b n:Nat)(f:Lit->Option Value): Prop :=
 ∃ D:DV,w.ownsMap P k RT b n D/\(∀ kl,Maps.has D kl=(f kl).isSome)/\∀ kl zd,D.atKey kl zd=(match f kl with|some v=>.held v|none=>zd)
def upL(f:Lit->Option Value)(kl:Lit)(x:Option Value): Lit->Option Value:=λz=>if z.sameKey kl=true then x else f z
section
variable {P:Program} {k:TypeId} {w w':World} {b n:Nat} {f:Lit->Option Value}
theorem MapS.lt(h:MapS P k w b n f): b<w.heap.size:=by obtain⟨D,i,_⟩:=h;exact i.lt
theorem MapS.kept{row:Option Nat}(h:MapS P k w b n f)(hg:w.grownBy w' row)(hne:some b≠row): MapS P k w' b n f:=by
 obtain⟨D,j,i⟩:=h;exact⟨D,j.kept hg hne,i⟩
theorem MapS.gr{N:Nat->Prop}(h:MapS P k w b n f)(hg:GrN N w w')(hn:¬ N b): MapS P k w' b n f:=by
 obtain⟨D,⟨es,i,o,C⟩,u⟩:=h;have j:b<w.heap.size:=by grind
 exact⟨D,⟨es,i,(hg.block b j hn).trans o,C⟩,u⟩
theorem MapS.ext(h:MapS P k w b n f)(hx:Ext w w'): MapS P k w' b n f:=h.gr (N:=λ_=>False) (GrN.ext hx) (λe=>e)
theorem MapS.mono(h:MapS P k w b n f){m:Nat}(hm:n<=m): MapS P k w b m f:=by obtain⟨D,j,i⟩:=h;exact⟨D,j.mono hm,i⟩
theorem MapS.made(w:World)(P:Program)(k:TypeId): MapS P k (w.alloc (.map #[] 0)) w.heap.size 0 (λ_=>none) :=
 ⟨.map [],World.ownsMap_made w P k RT,λi=>rfl,λi j=>rfl⟩
theorem Kz(hk:WideAt.IsKeyLit kl)(x:Option Value): upL f kl x kl=x:=by unfold upL;rw[if_pos (WideAt.sameKey_self hk)]
theorem Ub{z:Lit}(h:z≠kl)(x:Option Value): upL f kl x z=f z:=by
 unfold upL;rw[if_neg (by rw[Maps.sameKey_ne h];simp)]
theorem MapS.look(h:MapS P k w b n f)(K:Keyed P k)(ht:P.underlying t=some (.map k e))(hz:(zeroValue e).run P w=.ok z w)(hkey:keyOf P k key=some kl):
  (Instr.lookup t (.map (some b)) key true).run P w=.ok (.tuple #[(f kl).getD z,.bool (f kl).isSome]) w/\(Instr.lookup t (.map (some b)) key false).run P w=.ok ((f kl).getD z) w:=by
 obtain⟨D,i,C,u⟩:=h;have G:D.atKey kl (.held z)=.held ((f kl).getD z):=by grind
 constructor
 .obtain⟨v,ps,o,j⟩:=i.look_ok K ht hz (zd:=.held z) (zp:=[]) rfl hkey;grind [Qyd]
 obtain⟨v,ps,o,j⟩:=i.lookup K ht hz (zd:=.held z) (zp:=[]) rfl hkey;grind [Qyd]
theorem MapS.put(h:MapS P k w b n f)(K:Keyed P k)(ht:P.underlying t=some (.map k e))(hn:n<maxLen)(hkey:keyOf P k key=some kl)(v:Value):
  ∃ w',(Instr.mapUpdate t (.map (some b)) key v).run P w=.ok () w'/\MapS P k w' b (n+1) (upL f kl (some v))/\w.grownBy w' (some b):=by
 obtain⟨D,j,J,G⟩:=h;obtain⟨w',o,u,C⟩:=j.update K ht hn hkey (val:=v) (d:=.held v) (ps:=[]) rfl;have i:=K.key hkey;refine⟨w',o,⟨_,u,λx=>?_,λx O=>?_⟩,C⟩
 .by_cases e:x=kl
  .subst e;rw[Kz i,Maps.has_put_same j.isMap i];rfl
  rw[Ub e,Maps.has_put_other e,J]
 by_cases e:x=kl
 .subst e;rw[Kz i,Maps.atKey_put_same j.isMap i]
 rw[Ub e,Maps.atKey_put_other e,G]
theorem MapS.drop(h:MapS P k w b n f)(K:Keyed P k){t e:TypeId}(ht:P.underlying t=some (.map k e)){key:Value}{kl:Lit}(hkey:keyOf P k key=some kl)(ty:TypeId):
  ∃ w',(Builtin.delete_ #[t,k] ty #[.map (some b),key]).run P w=.ok (.tuple #[]) w'/\MapS P k w' b n (upL f kl none)/\w.grownBy w' (some b):=by
 obtain⟨D,J,G,C⟩:=h;obtain⟨w',j,o,u⟩:=J.drop K ht hkey ty;have i:=K.key hkey;refine⟨w',j,⟨_,o,λx=>?_,λx O=>?_⟩,u.grown⟩
 .by_cases e:x=kl
  .subst e;rw[Kz i,Maps.has_del_same];rfl
  rw[Ub e,Maps.has_del_other e,G]
 by_cases e:x=kl
 .subst e;rw[Kz i,Maps.atKey_del_same]
 rw[Ub e,Maps.atKey_del_other e,C]
theorem MapS.len0(h:MapS P k w b n f)(ht:P.underlying t=some (.map k e))(K:Keyed P k)(ty:TypeId): ∃ m:Nat,(Builtin.len_ #[t] ty #[.map (some b)]).run P w=.ok (.int .i64 (m:Int)) w/\(m=0↔∀ kl,f kl=none):=by
 obtain⟨D,o,j,u⟩:=h;refine⟨Maps.size D,o.len ht ty,?_⟩;obtain⟨es,rfl,_,i⟩:=o.entries K;constructor
 .intro h0 kl;have:es=[]:=List.eq_nil_of_length_eq_zero h0;subst this;have:=j kl;cases hf:f kl with
  | none=>rfl
  | some v=>rw[hf]at this;cases this
 intro hn;cases es with
 | nil=>rfl
 | cons p es=>
  have:=j p.1;rw[hn p.1,Maps.has_eq,List.any_cons,WideAt.sameKey_self (i p (mC ..))]at this;cases this
theorem Jfc(hz:Qa P t=some z)(w:World): (zeroValue t).run P w=.ok z w:=by
 unfold Qa at hz;obtain⟨i,o,j⟩:=Option.bind_eq_some_iff.1 hz;simp[zeroValue,typeInfo,o,j]
end
section
variable {N:Nat->Prop} {P:Program} {n:Nat} {al:AL} {w:World} {Q:Exit->Act->World->Prop} {ops:Array Oper} {rest:List Oper} {drest:List (Nat×Oper)}
variable {d ty:Nat} {pos:String} {aft:Array Edge} {tt:TT}
theorem mkm{t:Nat}(k:TypeId)(kk:∀ w1 b,Ext w w1->w.heap.size<=b->MapS P k w1 b 0 (λ_=>none)->WL P n ops Q rest ((d,.map (some b))::al) w1)(hd:Nat.blt d n=true:=by rfl):
  WL P n ops Q (⟨some d,.makeMap t none,ty,pos,aft,none⟩::rest) al w :=
 wop hd (λa i=>by
  show _=Result.ok (Next.value (.map (some w.heap.size))) (w.alloc (.map #[] 0));simp[execOp,run_makeMap]) (kk _ _ ((Ext.refl w).alloc _) (nR _) (MapS.made w P k))
theorem mlk[hT:Tab P tt]{t e:Nat}(K:Keyed P k)(hM:MapS P k w b m f)(hz:Qa P e=some z)(hkey:keyOf P k key=some kl)(kk:WL P n ops Q rest ((d,(f kl).getD z)::al) w)(ht:tk tt t=some kd:=by rfl)(hk:kd.desc=.map k e:=by rfl)(hx:ev al x=some (.map (some b)):=by rfl)(hy:ev al y=some key:=by rfl)(hd:Nat.blt d n=true:=by rfl):
  WL P n ops Q (⟨some d,.lookup t x y false,ty,pos,aft,none⟩::rest) al w :=
 wop hd (λa i=>by
  have:=(hM.look K (Yv hT.ok ht hk rfl) (Jfc hz w) hkey).2;simp[execOp,i.ev hx,i.ev hy,this]) kk
theorem mup[hT:Tab P tt]{t e:Nat}{z:Operand}(K:Keyed P k)(hM:MapS P k w b m f)(hm:m<maxLen)(hkey:keyOf P k key=some kl)(kk:∀ w1,MapS P k w1 b (m+1) (upL f kl (some v))->w.grownBy w1 (some b)->WL P n ops Q rest al w1)(ht:tk tt t=some kd:=by rfl)(hk:kd.desc=.map k e:=by rfl)(hx:ev al x=some (.map (some b)):=by rfl)(hy:ev al y=some key:=by rfl)(hv:ev al z=some v:=by rfl):
  WL P n ops Q (⟨none,.mapUpdate t x y z,ty,pos,aft,none⟩::rest) al w:=by
 obtain⟨w',j,u,o⟩:=hM.put K (Yv hT.ok ht hk rfl) hm hkey v;exact Jjh (λa i=>by simp[execOp,i.ev hx,i.ev hy,i.ev hv,j]) (kk w' u o)
theorem mln[hT:Tab P tt]{t e:Nat}(K:Keyed P k)(hM:MapS P k w b m f)(kk:∀ q:Nat,(q=0↔∀ kl,f kl=none)->WL P n ops Q rest ((d,.int .i64 (q:Int))::al) w)(ht:tk tt t=some kd:=by rfl)(hk:kd.desc=.map k e:=by rfl)(hx:ev al x=some (.map (some b)):=by rfl)(hd:Nat.blt d n=true:=by rfl):
  WL P n ops Q (⟨some d,.call { callee:=.builtin .len,args:=#[x],argTypes:=#[t] },ty,pos,aft,none⟩::rest) al w:=by
 obtain⟨q,i,j⟩:=hM.len0 (Yv hT.ok ht hk rfl) K ty;exact wop hd (λa o=>by simp[execOp,resolve,invoke,builtin,o.ev hx,i]) (kk q j)
end
end Go.Wk
namespace Go.Wk
open Go.RowKit
variable {cs:List Value}{b d n ty:Nat}{α β:Type}{v v' z:Value}
def Xx(base:Nat)(v:Value)(k:Nat): Prop:=k<base∨v.ownBlock=some k
def Ql(ps:List (List Value×α)): List Value:=ps.flatMap (·.1)
theorem Jhv{α:Type}{sz:Nat}: ∀ {ps:List (List Value×α)},(∀ p∈ps,p.1.length=sz)->(Ql ps).length=ps.length*sz
 | [],_=>by simp[Ql]
 | p::ps,h=>by
  have:=Jhv (ps:=ps) λq hq=>h q (List.mem_cons_of_mem _ hq);grind [Ql,List.length_append,List.length_cons,List.mem_cons_self,Nat.succ_mul]
theorem Iu{α:Type}{sz:Nat}: ∀ {ps:List (List Value×α)} {i j:Nat} {p:List Value×α},(∀ p∈ps,p.1.length=sz)->ps[i]?=some p->j<sz->(Ql ps)[i*sz+j]?=p.1[j]?
 | [],_,_,_,_,h,_=>by cases h
 | q::ps,0,j,p,hl,h,hj=>by
  simp only[List.getElem?_cons_zero,Option.some.injEq]at h;subst h;simp only[Ql,List.flatMap_cons,Nat.zero_mul,Nat.zero_add];grind
 | q::ps,i+1,j,p,hl,h,hj=>by
  simp only[List.getElem?_cons_succ]at h;have ih:=Iu (i:=i) (j:=j) (λp hp=>hl p (List.mem_cons_of_mem _ hp)) h hj;grind [Ql,List.getElem?_append_right,List.mem_cons_self,Nat.succ_mul]
section
variable {α:Type} {E:TypeId} {sz:Nat} {Φ:World->List Value->α->Prop} {w w':World} {base:Nat} {v:Value} {ls:List α}
def OwnG(E:TypeId)(sz:Nat)(Φ:World->List Value->α->Prop)(w:World)(base:Nat)(v:Value)(ls:List α): Prop :=
 ∃ ps:List (List Value×α),ls=ps.map (·.2)/\w.ownsRow base E sz v ps.length (Ql ps)/\∀ p∈ps,p.1.length=sz/\Off (Xx base v) w (λu=>Φ u p.1 p.2)
def GV(sz:Nat)(Φ:World->List Value->α->Prop)(w:World)(v:Value)(ls:List α): Prop :=
 ∃(ps:List (List Value×α)) (A:Option Addr) (c:Nat),ls=ps.map (·.2)/\v=.slice A ps.length c/\ps.length<=c/\ps.length<=1100000/\Rd w sz A ps.length (Ql ps)/\∀ p∈ps,p.1.length=sz/\Φ w p.1 p.2
theorem OwnG.nil(w:World)(base:Nat): OwnG E sz Φ w base (.slice none 0 0) []:=⟨[],rfl,Zy _ _ _ _,λp i=>by cases i⟩
theorem OwnG.gr{N:Nat->Prop}(h:OwnG E sz Φ w base v ls)(hg:GrN N w w')(hN:∀ k,N k->k<base): OwnG E sz Φ w' base v ls:=by
 obtain⟨ps,e,o,i⟩:=h;refine⟨ps,e,Jt o hg (λg C hn=>?_),λp j=>⟨(i p j).1,(i p j).2.gr (hg.mono λk _ u=>.inl (hN k u))⟩⟩;grind [Jy]
theorem OwnG.ext(h:OwnG E sz Φ w base v ls)(hx:Ext w w'): OwnG E sz Φ w' base v ls:=h.gr (N:=λ_=>False) (GrN.ext hx) (λk e=>e.elim)
theorem OwnG.form(h:OwnG E sz Φ w base v ls): ∃ A c,v=.slice A ls.length c/\ls.length<=c/\∀ g,v.ownBlock=some g->base<=g/\g<w.heap.size:=by
 obtain⟨ps,e,j,i⟩:=h;grind [Jy,List.length_map]
theorem OwnG.gv(h:OwnG E sz Φ w base v ls)(hm:ls.length<=1100000): GV sz Φ w v ls:=by
 obtain⟨ps,e,j,i⟩:=h;obtain⟨A,c,u,o,C⟩:=Jy j;subst u;exact⟨ps,A,c,e,rfl,o,by grind,Rd.own j,λp hm=>⟨(i p hm).1,(i p hm).2.here⟩⟩
theorem OwnG.off(h:OwnG E sz Φ w base v ls)(hm:ls.length<=1100000): Off (λk=>k<base) w (λu=>GV sz Φ u v ls):=λw' j=>(h.gr j λk i=>i).gv hm
theorem GV.ext(h:GV sz Φ w v ls)(hx:Ext w w')(hΦ:∀ cs a,Φ w cs a->Φ w' cs a): GV sz Φ w' v ls:=by
 obtain⟨ps,A,c,e,D,C,u,o,i⟩:=h;exact⟨ps,A,c,e,D,C,u,o.ext hx,λp j=>⟨(i p j).1,hΦ _ _ (i p j).2⟩⟩
theorem GV.imp{Ψ:World->List Value->β->Prop}{f:α->β}(h:GV sz Φ w v ls)(hΦ:∀ cs a,a∈ls->Φ w cs a->Ψ w cs (f a)): GV sz Ψ w v (ls.map f):=by
 obtain⟨ps,A,c,e,G,D,C,i,j⟩:=h;have u:Ql (ps.map λp=>(p.1,f p.2))=Ql ps:=by simp[Ql,List.flatMap_map]
 refine⟨ps.map λp=>(p.1,f p.2),A,c,by rw[e];simp,by grind,by grind,by grind,by grind,λp o=>?_⟩;grind
theorem GV.len(h:GV sz Φ w v ls): ∃ A c,v=.slice A ls.length c/\ls.length<=c/\ls.length<=1100000:=by
 obtain⟨ps,A,c,e,C,u,o,i,j⟩:=h;grind
theorem GV.parts(h:GV sz Φ w v ls): ∃ A c cs,v=.slice A ls.length c/\ls.length<=c/\ls.length<=1100000/\Rd w sz A ls.length cs/\∀ i (hi:i<ls.length),∃ ce,ce.length=sz/\Φ w ce ls[i]/\∀ j u,ce[j]?=some u->w.cell? ((adr A (i*sz)).add j)=some u:=by
 obtain⟨ps,A,c,e,e1,Z,U,G,C⟩:=h;subst e;refine⟨A,c,Ql ps,by grind,by grind,by grind,by grind,λi hi=>?_⟩;rw[List.length_map]at hi;have J:=C ps[i] (List.getElem_mem hi);refine⟨ps[i].1,J.1,by grind,λj u D=>?_⟩;have O:j<sz:=by grind
 rw[Xe];exact G.cell ((Iu (λp o=>(C p o).1) (gE hi) O).trans D)
theorem OwnG.after{ps:List (List Value×α)}(e:ls=ps.map (·.2))(hp:∀ p∈ps,p.1.length=sz/\Off (Xx base v) w (λu=>Φ u p.1 p.2)){w':World}{x:α}(hl:cs.length=sz)(hx:Off (Xx base v) w (λu=>Φ u cs x))(ho:w'.ownsRow base E sz v' (ps.length+1) (Ql ps++cs))(hg:w.grownBy w' v.ownBlock)(hn:∀ g,v'.ownBlock=some g->v.ownBlock=some g∨w.heap.size<=g): OwnG E sz Φ w' base v' (ls++[x]):=by
 have i:∀(cs:List Value) (x:α),Off (Xx base v) w (λu=>Φ u cs x)->Off (Xx base v') w' (λu=>Φ u cs x):=λcs x o=>by
  have J:Off (Xx base v) w' (λu=>Φ u cs x):=o.gr (GrN.by hg λk j=>.inr j);have D:Off (λk=>Xx base v k∨Xx base v' k) w (λu=>Φ u cs x):=o.mono λk j h=>by
   rcases h with h|h|h
   .exact h
   .exact .inl h
   rcases hn k h with h4|h4
   .exact .inr h4
   omega
  exact(D.gr (GrN.by hg λk j=>.inl (.inr j))).mono λk _ h=>.inr h
 refine⟨ps++[(cs,x)],by rw[e];simp,?_,λp C=>?_⟩
 .have G:Ql (ps++[(cs,x)])=Ql ps++cs:=by simp[Ql]
  rw[List.length_append,G];exact ho
 rcases List.mem_append.1 C with h'|h'
 .exact⟨(hp p h').1,i _ _ (hp p h').2⟩
 rw[List.mem_singleton.1 h'];exact⟨hl,i _ _ hx⟩
end
theorem apG{P:Program}{al:AL}{w:World}{Q:Exit->Act->World->Prop}{ops:Array Oper}{rest:List Oper}{pos:String}{aft:Array Edge}{t E sz bytes base:Nat}(hE:ElT P t E sz bytes z){Φ:World->List Value->α->Prop}{x y:Operand}{ls:List α}{a:α}(ho:OwnG E sz Φ w base v ls)(hb:Blk w b E cs)(hl:cs.length=sz)(h1:∀ u∈cs,u.oneCell'=true)(hΦ:Off (Xx base v) w (λu=>Φ u cs a))(hm:ls.length<=1100000)(hby:bytes<=64)(hbase:base<=w.heap.size)(kk:∀ v' w',OwnG E sz Φ w' base v' (ls++[a])->w.grownBy w' v.ownBlock->(∀ g,v'.ownBlock=some g->v.ownBlock=some g∨w.heap.size<=g)->WL P n ops Q rest ((d,v')::al) w')(hx:ev al x=some v:=by rfl)(hy:ev al y=some (.slice (some ⟨b,0,none⟩) 1 1):=by rfl)(hd:Nat.blt d n=true:=by rfl):
  WL P n ops Q (⟨some d,.call { callee:=.builtin .append,args:=#[x,y],argTypes:=#[t,t] },ty,pos,aft,none⟩::rest) al w:=by
 obtain⟨ps,e,j,C⟩:=ho;have i:ps.length<=1100000:=by grind
 have o:(ps.length+1)*bytes<=1100001*64:=Nat.mul_le_mul om hby;refine apb hE j (hb.rd (n:=1) om) h1 (by unfold maxLen;omega) om hbase ?_ hx hy hd;grind [OwnG.after]
end Go.Wk
namespace Go.Proofs.YtgobkbeokaaplaaGreatDoor
namespace Pl
variable {cs l ord r:List Nat}{N O c j k m n p u v x:Nat}{g h:Nat->Nat}
def Jg: Nat->(Nat->Nat)->Nat
 | 0,_=>1
 | n+1,g=>Jg n g*g n
theorem Gx(e:∀ c,c<n->g c=h c): Jg n g=Jg n h:=by
 induction n with
 | zero=>rfl
 | succ n ih=>rw[Jg,Jg,ih (λc i=>e c om),e n om]
theorem Qld(n:Nat)(g h:Nat->Nat): Jg n (λc=>g c*h c)=Jg n g*Jg n h:=by
 induction n with
 | zero=>rfl
 | succ n ih=>rw[Jg,Jg,Jg,ih,Nat.mul_assoc,Nat.mul_assoc,Nat.mul_left_comm (Jg n h)]
theorem Jfs(e:∀ c,c<n->g c=1): Jg n g=1:=by
 induction n with
 | zero=>rfl
 | succ n ih=>rw[Jg,ih (λc i=>e c om),e n om]
theorem prodR_pos: 0<Jg n g↔∀ c,c<n->0<g c:=by
 induction n with
 | zero=>exact⟨λ_ c i=>om,λ_=>Nat.one_pos⟩
 | succ n ih=>
  grind [Jg,Nat.pos_of_mul_pos_right,Nat.pos_of_mul_pos_left,Nat.mul_pos]
theorem Jwf(hk:k<n): Jg n g=g k*Jg n (λc=>if c=k then 1 else g c):=by
 induction n with
 | zero=>omega
 | succ n ih=>
  rw[Jg,Jg];by_cases e:k=n
  .subst e;rw[if_pos rfl,Nat.mul_one,Nat.mul_comm];grind [Gx]
  repeat grind
section
variable {α:Type}
def tot: List (α×Nat)->Nat
 | []=>0
 | p::l=>p.2+tot l
theorem Jkn(l m:List (α×Nat)): tot (l++m)=tot l+tot m:=by
 induction l with
 | nil=>simp[tot]
 | cons p l ih=>rw[List.cons_append,tot,tot,ih,Nat.add_assoc]
theorem Qcp{l:List (α×Nat)}(h:∀ p∈l,0<p.2): 0<tot l↔l≠[]:=by
 cases l with
 | nil=>simp[tot]
 | cons p l=>have:=h p (mC ..);simp[tot];omega
def prj(d0:α)(cs:List Nat)(y:List α): List α:=cs.map λc=>y.getD c d0
theorem Qlf(d0:α)(cs:List Nat)(y:List α): (prj d0 cs y).length=cs.length:=by simp[prj]
theorem Jyv{d0:α}{y z:List α}(h:∀ c∈cs,y.getD c d0=z.getD c d0): prj d0 cs y=prj d0 cs z:=List.map_congr_left h
theorem Jww{d0:α}{y z:List α}(h:c<y.length): (y++z).getD c d0=y.getD c d0:=by grind
structure AX(α:Type) where
 d0: α
 F:Nat
 ks:Nat->List Nat
 par:Nat->Int
 E:Nat->List α->List (α×Nat)
def AX.key(X:AX α)(c:Nat)(y:List α): List α:=prj X.d0 (X.ks c) y
def AX.T(X:AX α)(c:Nat)(y:List α): Nat:=tot (X.E c (X.key c y))
structure AX.Ok(X:AX α): Prop where
 kl:∀ v,v<X.F->∀ u∈X.ks v,(u:Int)<=X.par v
 pl:∀ v,v<X.F->-1<=X.par v/\X.par v<v
 wt:∀ v,v<X.F->∀ y,y.length=v->∀ p∈X.E v (X.key v y),0<p.2/\p.2=Jg X.F (λc=>if X.par c=v then X.T c (y++[p.1]) else 1)
def AX.pend(X:AX α)(m:Nat)(y:List α): Nat:=Jg X.F (λc=>if m<=c/\X.par c<m then X.T c y else 1)
def AX.others(X:AX α)(m:Nat)(y:List α): Nat:=Jg X.F (λc=>if m<c/\X.par c<m then X.T c y else 1)
def AX.ext(X:AX α): Nat->List α->List (List α)
 | 0,y=>[y]
 | n+1,y=>(X.E y.length (X.key y.length y)).flatMap λp=>X.ext n (y++[p.1])
variable {X:AX α}
theorem AX.Ok.key_pre(h:X.Ok){y z:List α}(hc:c<X.F)(hp:X.par c<y.length): X.key c (y++z)=X.key c y :=
 Jyv λu i=>Jww (by have:=h.kl c hc u i;omega)
theorem AX.Ok.T_pre(h:X.Ok){y z:List α}(hc:c<X.F)(hp:X.par c<y.length): X.T c (y++z)=X.T c y:=by rw[AX.T,AX.T,h.key_pre hc hp]
theorem AX.Ok.pend_split(h:X.Ok){y:List α}(hm:y.length<X.F): X.pend y.length y=X.T y.length y*X.others y.length y:=by
 unfold AX.pend AX.others;rw[Jwf hm,if_pos ⟨nR _,(h.pl _ hm).2⟩];grind
theorem AX.Ok.pend_next(h:X.Ok){y:List α}(hm:y.length<X.F){p:α×Nat}(hp:p∈X.E y.length (X.key y.length y)): X.pend (y.length+1) (y++[p.1])=p.2*X.others y.length y:=by
 rw[(h.wt _ hm y rfl p hp).2];unfold AX.pend AX.others;rw[<-Qld];refine Gx λc i=>?_;have j:=h.pl c i;by_cases e:X.par c=y.length
 .grind
 rw[if_neg e,Nat.one_mul];by_cases e2:y.length<c/\X.par c<y.length
 .rw[if_pos e2,if_pos om,h.T_pre i e2.2]
 repeat grind
theorem Jht{β:Type}{f:α×Nat->List β}{O:Nat}: ∀ {l:List (α×Nat)},(∀ p∈l,(f p).length=p.2*O)->(l.flatMap f).length=tot l*O
 | [],_=>by simp[tot]
 | p::l,h=>by
  rw[List.flatMap_cons,List.length_append,h p (mC ..),Jht λq hq=>h q (List.mem_cons_of_mem _ hq),tot,Nat.add_mul]
theorem Qtp{β:Type}{f:α×Nat->List β}{l1 l2:List (α×Nat)}{p:α×Nat}(h:∀ q∈l1++p::l2,(f q).length=q.2*O)(h1:tot l1*O<=k)(h2:k<(tot l1+p.2)*O): ((l1++p::l2).flatMap f)[k]?=(f p)[k-tot l1*O]?:=by grind [tot,Jht,List.mem_append_left,List.mem_append_right,List.mem_cons_self,List.getElem?_append_right,List.getElem?_append_left,Nat.add_mul]
theorem AX.Ok.ext_len(h:X.Ok): ∀(n:Nat) (y:List α),y.length+n=X.F->(X.ext n y).length=X.pend y.length y
 | 0,y,e=>by grind [AX.ext,AX.pend,Jfs]
 | n+1,y,e=>by
  have hm:y.length<X.F:=om
  rw[AX.ext,h.pend_split hm,AX.T];refine Jht λp hp=>?_;have:=h.ext_len n (y++[p.1]) (by simp;omega);rw[this,List.length_append,List.length_singleton,h.pend_next hm hp]
theorem AX.Ok.ext_at(h:X.Ok){y:List α}(e:y.length+(n+1)=X.F){l1 l2:List (α×Nat)}{p:α×Nat}(hE:X.E y.length (X.key y.length y)=l1++p::l2)(ho:0<X.others y.length y)(h1:tot l1<=k / X.others y.length y)(h2:k / X.others y.length y<tot l1+p.2):
  (X.ext (n+1) y)[k]?=(X.ext n (y++[p.1]))[(k / X.others y.length y-tot l1)*X.others y.length y+k % X.others y.length y]?/\(k / X.others y.length y-tot l1)*X.others y.length y+k % X.others y.length y<X.pend (y.length+1) (y++[p.1]):=by
 have i:y.length<X.F:=om
 have o:p∈X.E y.length (X.key y.length y):=by grind
 have u:∀ q∈X.E y.length (X.key y.length y),(X.ext n (y++[q.1])).length=q.2*X.others y.length y:=λq j=>by
  rw[h.ext_len n (y++[q.1]) (by simp;omega),List.length_append,List.length_singleton,h.pend_next i j]
 rw[h.pend_next i o,AX.ext];generalize X.others y.length y=O at *
 have D:=Nat.div_add_mod k O;have C:=Nat.mod_lt k ho;rw[hE]at u ⊢;have U:tot l1*O<=k:=by
  have:=nO O h1;grind
 have J:k<(tot l1+p.2)*O:=by
  have:=nO O h2;grind
 have G:(k / O-tot l1)*O+k % O=k-tot l1*O:=by rw[Nat.sub_mul,Nat.mul_comm (k / O)];have:=nO O h1;grind
 grind [Qtp,Nat.add_mul]
theorem AX.ext_mem: ∀(n:Nat) (y x:List α),x∈X.ext n y↔x.length=y.length+n/\x.take y.length=y/\∀ v,y.length<=v->v<y.length+n->x.getD v X.d0∈(X.E v (X.key v (x.take v))).map (·.1)
 | 0,y,x=>by grind [AX.ext,List.mem_singleton,List.take_length,List.take_of_length_le]
 | n+1,y,x=>by
  rw[AX.ext,List.mem_flatMap];constructor
  .rintro⟨p,hp,hx⟩;obtain⟨h1,h2,h3⟩:=(AX.ext_mem n _ x).1 hx;rw[List.length_append,List.length_singleton]at h1 h2 h3;have hy:x.take y.length=y:=by
    have:=congrArg (List.take y.length) h2;grind
   refine⟨om,hy,λv h4 h5=>?_⟩;by_cases e:v=y.length
   .subst e;rw[hy];have:x.getD y.length X.d0=p.1:=by
     have:=congrArg (λl=>l.getD y.length X.d0) h2;grind
    grind
   repeat grind
  rintro⟨h1,h2,h3⟩;obtain⟨p,hp,e⟩:=List.mem_map.1 (h3 y.length (nR _) om);rw[h2]at hp;refine⟨p,hp,(AX.ext_mem n _ x).2 ⟨?_,?_,λv h4 h5=>h3 v ?_ ?_⟩⟩
  .simp;omega
  .rw[List.length_append,List.length_singleton,e];have hl:y.length<x.length:=om
   grind [List.take_add_one,List.getD,List.getElem?_eq_getElem]
  repeat grind
end
structure BX(α:Type) where
 d0: α
 N:Nat
 F:Nat
 K:Nat->List Nat
 par:Nat->Int
 pl:Nat->Nat
 ats:List (List Nat×List (List α))
 T:Nat->List α->Nat
 E:Nat->List α->List (α×Nat)
section
variable {α:Type}
def BX.bag(X:BX α)(v:Nat)(z:List α): Prop:=∀ a∈X.ats,∃ r∈a.2,∀ j,j<a.1.length->(a.1.getD j 0=v∨a.1.getD j 0∈X.K v)->r.getD j X.d0=z.getD (a.1.getD j 0) X.d0
def BX.W(X:BX α)(v:Nat)(z:List α): Nat:=Jg X.N (λc=>if X.par c=v then X.T c (prj X.d0 (X.K c) z) else 1)
structure BX.Ok(X:BX α): Prop where
 FN:X.F<=X.N
 plN:∀ v,v<X.N->X.pl v<X.N
 inj:∀ u v,u<X.N->v<X.N->X.pl u=X.pl v->u=v
 k1:∀ v,v<X.N->∀ u∈X.K v,u<X.N/\X.pl v<X.pl u
 k2:∀ v,v<X.N->(X.K v=[]/\X.par v = -1)∨∃ p:Nat,X.par v=p/\p∈X.K v/\∀ u∈X.K v,X.pl p<=X.pl u
 k3:∀ v,v<X.N->∀ p:Nat,X.par v=p->∀ x∈X.K v,x=p∨x∈X.K p
 k4:∀ a∈X.ats,∀ v∈a.1,(∀ u∈a.1,X.pl v<=X.pl u)->∀ u∈a.1,u=v∨u∈X.K v
 k5:∀ u v,u<X.F->v<u->X.pl u<X.pl v
 k6:∀ u v,u<X.F->X.F<=v->v<X.N->X.pl v<X.pl u
 al:∀ a∈X.ats,(∀ u∈a.1,u<X.N)/\∀ r∈a.2,r.length=a.1.length
 t1:∀ v,X.F<=v->v<X.N->∀ k,X.T v k<=1/\(0<X.T v k↔∃ z,z.length=X.N/\X.bag v z/\prj X.d0 (X.K v) z=k/\0<X.W v z)
 t2:∀ v,v<X.F->∀ k,X.T v k=tot (X.E v k)/\∀ p,p∈X.E v k↔∃ z,z.length=X.N/\X.bag v z/\prj X.d0 (X.K v) z=k/\z.getD v X.d0=p.1/\p.2=X.W v z/\0<p.2
def BX.Join(X:BX α)(z:List α): Prop:=z.length=X.N/\∀ a∈X.ats,prj X.d0 a.1 z∈a.2
def BX.Roots(X:BX α): Prop:=(∀ v,v<X.N->X.par v = -1->0<X.T v [])/\∀ a∈X.ats,a.2≠[]
variable {X:BX α}
theorem Jwg(d0:α){y:List α}(h:j<cs.length): (prj d0 cs y).getD j d0=y.getD (cs.getD j 0) d0:=by
 simp[prj,List.getD,List.getElem?_eq_getElem h]
theorem BX.Ok.kpar(h:X.Ok)(hc:c<X.N)(hp:X.par c=v): v∈X.K c/\v<X.N/\X.pl c<X.pl v/\∀ u∈X.K c,u=v∨u∈X.K v:=by
 rcases h.k2 c hc with⟨_,i⟩|⟨p,i,h3,_⟩
 .rw[i]at hp;omega
 have:p=v:=om
 subst this;exact⟨h3,(h.k1 c hc p h3).1,(h.k1 c hc p h3).2,h.k3 c hc p hp⟩
theorem BX.Ok.kroot(h:X.Ok)(hc:c<X.N)(hp:X.par c = -1): X.K c=[]:=by
 rcases h.k2 c hc with⟨i,_⟩|⟨p,i,_,_⟩
 .exact i
 omega
theorem BX.bag_congr{z z':List α}(e:∀ u,u=v∨u∈X.K v->z.getD u X.d0=z'.getD u X.d0)(hb:X.bag v z): X.bag v z':=λa i=>by
 obtain⟨r,j,o⟩:=hb a i;grind
theorem BX.Ok.W_congr(h:X.Ok){z z':List α}(e:∀ u,u=v∨u∈X.K v->z.getD u X.d0=z'.getD u X.d0): X.W v z=X.W v z':=by
 refine Gx λc j=>?_;split
 .rename_i hp;rw[Jyv λu i=>e u ((h.kpar j hp).2.2.2 u i)]
 rfl
theorem BX.Ok.join_W(h:X.Ok){z:List α}(hz:X.Join z): (∀ v,X.bag v z)/\∀ v,v<X.N->0<X.W v z/\0<X.T v (prj X.d0 (X.K v) z):=by
 have o:∀ v,X.bag v z:=λv a J=>⟨_,hz.2 a J,λj D _=>Jwg X.d0 D⟩;refine⟨o,?_⟩;have key:∀ n v,v<X.N->X.pl v<n->0<X.W v z/\0<X.T v (prj X.d0 (X.K v) z):=by
  intro n;induction n with
  | zero=>intro v _ O;omega
  | succ n ih=>
   intro v i O;have u:0<X.W v z:=by
    refine prodR_pos.2 λc G=>?_;split
    .rename_i hp;have:=(h.kpar G hp).2.2.1;grind
    exact Nat.one_pos
   refine⟨u,?_⟩;by_cases hF:v<X.F
   .rw[(h.t2 v hF _).1];have C:=((h.t2 v hF (prj X.d0 (X.K v) z)).2 (z.getD v X.d0,X.W v z)).2 ⟨z,hz.1,o v,rfl,rfl,rfl,u⟩;obtain⟨Z,U,e⟩:=List.append_of_mem C;grind [Jkn,tot]
   exact(h.t1 v om i _).2.2 ⟨z,hz.1,o v,rfl,u⟩
 exactλv i=>key _ v i (h.plN v i)
theorem getD_set'(d0:α)(l:List α)(i k:Nat)(x:α)(hi:i<l.length): (l.set i x).getD k d0=if k=i then x else l.getD k d0:=by grind
theorem BX.Ok.choose(h:X.Ok){y:List α}(hy:y.length=X.F)(hE:∀ v,v<X.F->y.getD v X.d0∈(X.E v (prj X.d0 (X.K v) y)).map (·.1))(hR:X.Roots):
  ∀ n,n<=X.N->∃ z,z.length=X.N/\(∀ u,u<X.F->z.getD u X.d0=y.getD u X.d0)/\∀ v,v<X.N->(v<X.F∨X.N<=X.pl v+n)->X.bag v z/\0<X.W v z:=by
 intro n;induction n with
 | zero=>
  intro _;refine⟨y++List.replicate (X.N-X.F) X.d0,by have:=h.FN;simp[hy];omega,λu C=>Jww om,λv Z D=>?_⟩;have hF:v<X.F:=D.resolve_right (by have:=h.plN v Z;omega);obtain⟨p,hp,e⟩:=List.mem_map.1 (hE v hF);obtain⟨z,hz,hb,hk,a3,hw,h0⟩:=((h.t2 v hF _).2 p).1 hp;have i:∀ u,u=v∨u∈X.K v->z.getD u X.d0=(y++List.replicate (X.N-X.F) X.d0).getD u X.d0:=by
   intro u C;have ab:u<X.F:=by
    rcases C with rfl|C
    .exact hF
    have:=h.k1 v Z u C;rcases Nat.lt_or_ge u X.F with h'|h'
    .exact h'
    have:=h.k6 v u hF h' this.1;omega
   rw[Jww om];rcases C with rfl|C
   .rw[a3,e]
   obtain⟨j,hj,ej⟩:=List.getElem_of_mem C;have:=congrArg (λl=>l.getD j X.d0) hk;grind [Jwg,List.getD,List.getElem?_eq_getElem]
  exact⟨BX.bag_congr i hb,by rw[<-h.W_congr i,<-hw];exact h0⟩
 | succ n ih=>
  intro hn;obtain⟨z,hz,a7,hg⟩:=ih om;by_cases Z:∃ v,v<X.N/\X.F<=v/\X.pl v+(n+1)=X.N
  .obtain⟨v,o,O,aa⟩:=Z;have hT:0<X.T v (prj X.d0 (X.K v) z):=by
    rcases h.k2 v o with⟨h1,h2⟩|⟨p,h2,h3,_⟩
    .rw[h1];exact hR.1 v o h2
    have hp:=h.kpar o h2;have:=(hg p hp.2.1 (.inr om)).2;have h5:=prodR_pos.1 this v o;grind
   obtain⟨G,a8,a6,a5,a2⟩:=(h.t1 v O o _).2.1 hT;have a9:v<z.length:=om
   have far:∀ u,u≠v->(z.set v (G.getD v X.d0)).getD u X.d0=z.getD u X.d0:=by grind
   refine⟨z.set v (G.getD v X.d0),by simp[hz],λu C=>by grind,λu C D=>?_⟩;by_cases e:u=v
   .subst e;have i:∀ x,x=u∨x∈X.K u->G.getD x X.d0=(z.set u (G.getD u X.d0)).getD x X.d0:=by
     intro x J;by_cases ex:x=u
     .grind
     rw[far x ex];have a1:=J.resolve_left ex;obtain⟨j,hj,ej⟩:=List.getElem_of_mem a1;have:=congrArg (λl=>l.getD j X.d0) a5;grind [Jwg,List.getD,List.getElem?_eq_getElem]
    exact⟨BX.bag_congr i a6,by rw[<-h.W_congr i];exact a2⟩
   have a4:X.pl v<X.pl u:=by
    rcases D with D|D
    .exact h.k6 u v D O o
    have:X.pl u≠X.pl v:=λe'=>e (h.inj u v C o e');omega
   have i:∀ x,x=u∨x∈X.K u->z.getD x X.d0=(z.set v (G.getD v X.d0)).getD x X.d0:=by
    intro x J;refine(far x ?_).symm;rintro rfl;rcases J with rfl|J
    .exact e rfl
    have:=(h.k1 u C x J).2;omega
   have U:=hg u C (by grind);exact⟨BX.bag_congr i U.1,by rw[<-h.W_congr i];exact U.2⟩
  repeat grind
theorem Qjr(pl:Nat->Nat): ∀ {l:List Nat},l≠[]->∃ v∈l,∀ u∈l,pl v<=pl u
 | [v],_=>⟨v,List.mem_cons_self ..,λu hu=>by grind⟩
 | v::x::l,_=>by
  obtain⟨w,hw,h1⟩:=Qjr pl (l:=x::l) (by simp);grind
theorem BX.Ok.answers(h:X.Ok){y:List α}(hy:y.length=X.F):
  ((∀ v,v<X.F->y.getD v X.d0∈(X.E v (prj X.d0 (X.K v) y)).map (·.1))/\X.Roots)↔∃ z,X.Join z/\z.take X.F=y:=by
 constructor
 .rintro⟨hE,hR⟩;obtain⟨z,C,J,hg⟩:=h.choose hy hE hR X.N (nR _);have D:∀ v,v<X.N->X.bag v z:=by grind
  refine⟨z,⟨C,λa o=>?_⟩,?_⟩
  .by_cases e:a.1=[]
   .obtain⟨r,G⟩:=List.exists_mem_of_ne_nil _ (hR.2 a o);have:=(h.al a o).2 r G;grind [prj,List.eq_nil_of_length_eq_zero]
   obtain⟨v,i,hm⟩:=Qjr X.pl e;obtain⟨r,G,h1⟩:=D v ((h.al a o).1 v i) a o;have U:=(h.al a o).2 r G;have:prj X.d0 a.1 z=r:=by
    apply List.ext_getElem
    .rw[Qlf,U]
    intro j h2 h3;rw[U]at h3;have:=h1 j h3 (h.k4 a o v i hm _ (by grind));grind [List.getD,List.getElem?_eq_getElem,prj]
   rw[this];exact G
  apply List.ext_getElem?
  intro j;rw[List.getElem?_take];by_cases hj:j<X.F
  .rw[if_pos hj];have:=J j hj;have O:=h.FN;grind
  repeat grind
 rintro⟨z,C,e⟩;obtain⟨hb,Z⟩:=h.join_W C;refine⟨λv i=>?_,λv i hp=>?_,λa o he=>?_⟩
 .have O:=h.FN;have far:∀ u,u<X.F->y.getD u X.d0=z.getD u X.d0:=by grind
  have ek:prj X.d0 (X.K v) y=prj X.d0 (X.K v) z:=Jyv λu hu=>far u (by
   have:=h.k1 v om u hu;rcases Nat.lt_or_ge u X.F with h'|h'
   .exact h'
   have:=h.k6 v u i h' this.1;omega)
  rw[ek,far v i];exact List.mem_map.2 ⟨(z.getD v X.d0,X.W v z),((h.t2 v i _).2 _).2 ⟨z,C.1,hb v,rfl,rfl,rfl,(Z v om).1⟩,rfl⟩
 .have:=(Z v i).2;rw[h.kroot i hp]at this;exact this
 have:=C.2 a o;grind
def BX.ix(X:BX α): AX α:=⟨X.d0,X.F,X.K,X.par,X.E⟩
theorem Jtm(hmn : m ≤ n){g : Nat → Nat}(h : ∀ c, m ≤ c → c < n → g c = 1): Jg n g = Jg m g := by
  induction n with
  | zero => have : m = 0 := by omega
            subst this; rfl
  | succ n ih =>
    by_cases e : m = n + 1
    . rw [e]
    . rw [Jg, h n om om, Nat.mul_one, ih om (fun c h1 h2 => h c h1 om)]
theorem BX.Ok.ixOk(h:X.Ok): X.ix.Ok:=by
 have a2:=h.FN;have kf:∀ v,v<X.F->∀ u∈X.K v,u<v:=λv C u o=>by
  have h1:=h.k1 v om u o;rcases Nat.lt_or_ge u X.F with D|D
  .rcases Nat.lt_trichotomy u v with h3|h3|h3
   .exact h3
   .subst h3;omega
   have:=h.k5 u v D h3;omega
  have:=h.k6 v u C D h1.1;omega
 refine⟨λv C u o=>?_,λv C=>?_,λv C y hy p hp=>?_⟩
 .have G:v<X.F:=C;rcases h.k2 v om with⟨h1,_⟩|⟨p,D,h3,h4⟩
  .rw[show X.ix.ks v=[] from h1]at o;cases o
  rw[show X.ix.par v=p from D];have h5:=h4 u o;have h6:=kf v C u o;have h7:=kf v C p h3;rcases Nat.lt_or_ge p u with h8|h8
  .have:=h.k5 u p om h8;omega
  omega
 .have G:v<X.F:=C;rcases h.k2 v om with⟨_,D⟩|⟨p,D,h3,_⟩
  .rw[show X.ix.par v = -1 from D];omega
  rw[show X.ix.par v=p from D];have:=kf v C p h3;omega
 have G:v<X.F:=C;obtain⟨z,hz,hb,hk,a3,hw,h0⟩:=((h.t2 v G _).2 p).1 hp;refine⟨h0,?_⟩;have J:∀ u,u=v∨u∈X.K v->z.getD u X.d0=(y++[p.1]).getD u X.d0:=by
  intro u o;rcases o with rfl|o
  .grind
  rw[Jww (by grind)];obtain⟨j,hj,ej⟩:=List.getElem_of_mem o;have:=congrArg (λl=>l.getD j X.d0) hk;rw[Jwg X.d0 hj]at this;have e2:(X.ix.key v y).getD j X.d0=y.getD ((X.K v).getD j 0) X.d0:=Jwg X.d0 hj;grind
 have O:0<X.W v z:=by rw[<-hw];exact h0
 rw[hw,BX.W];have e3:∀ c,c<X.N->X.par c=v->X.T c (prj X.d0 (X.K c) z)=X.T c (prj X.d0 (X.K c) (y++[p.1])):=λc hc i=>by
  rw[Jyv λu o=>J u ((h.kpar hc i).2.2.2 u o)]
 rw[Jtm a2 (λc Z U=>?_)]
 .refine Gx λc hc=>?_;have a1:c<X.F:=hc;show _=if X.par c=v then tot (X.E c (prj X.d0 (X.K c) (y++[p.1]))) else 1
  split
  .rename_i i;rw[e3 c om i,(h.t2 c a1 _).1]
  rfl
 by_cases i:X.par c=v
 .have h5:=prodR_pos.1 O c U;rw[if_pos i]at h5 ⊢;have:=(h.t1 c Z U (prj X.d0 (X.K c) z)).1;omega
 rw[if_neg i]
end
def Gn(v:Nat)(nb:Nat->Nat->Bool): Nat->Nat->Bool:=λu x=>if nb v u then(nb u x || nb v x) && (x != u) && (x != v) else nb u x
def Yy(nb:Nat->Nat->Bool): List Nat->Nat->Nat->Bool
 | []=>nb
 | v::l=>Yy (Gn v nb) l
theorem Qjk(nb:Nat->Nat->Bool)(l m:List Nat): Yy nb (l++m)=Yy (Yy nb l) m:=by
 induction l generalizing nb with
 | nil=>rfl
 | cons v l ih=>exact ih _
structure NbInv(l:List Nat)(nb:Nat->Nat->Bool): Prop where
 sym:∀ u x,u ∉ l->x ∉ l->nb u x=nb x u
 gone:∀ u x,u ∉ l->nb u x=true->x ∉ l/\x≠u
theorem NbInv.step{nb:Nat->Nat->Bool}(h:NbInv l nb)(hv:v ∉ l): NbInv (l++[v]) (Gn v nb):=by
 have C:∀ {u},u ∉ l++[v]->u ∉ l/\u≠v:=by grind
 constructor
 .intro u x D i;obtain⟨j,O⟩:=C D;obtain⟨J,Z⟩:=C i;have U:=h.sym u x j J;unfold Gn;by_cases e1:nb v u=true<;>by_cases e2:nb v x=true
  .grind
  .rw[if_pos e1,if_neg e2];have G:(x != v)=true:=bne_iff_ne.2 Z;rw[Bool.not_eq_true]at e2;rw[e2,G,Bool.or_false,Bool.and_true,<-U];cases e3:nb u x with
   | false=>rfl
   | true=>rw[bne_iff_ne.2 (h.gone u x j e3).2];rfl
  .rw[if_neg e1,if_pos e2];have G:(u != v)=true:=bne_iff_ne.2 O;rw[Bool.not_eq_true]at e1;rw[e1,G,Bool.or_false,Bool.and_true,U];cases e3:nb x u with
   | false=>rfl
   | true=>rw[bne_iff_ne.2 (h.gone x u J e3).2];rfl
  repeat grind
 intro u x D i;obtain⟨j,O⟩:=C D;unfold Gn at i;rw[List.mem_append,List.mem_singleton,not_or];by_cases e1:nb v u=true
 .rw[if_pos e1]at i;simp only[Bool.and_eq_true,Bool.or_eq_true,bne_iff_ne]at i;refine⟨⟨?_,i.2⟩,i.1.2⟩;rcases i.1.1 with o|o
  .exact(h.gone u x j o).1
  exact(h.gone v x hv o).1
 rw[if_neg e1]at i;obtain⟨o,h2⟩:=h.gone u x j i;refine⟨⟨o,λe=>?_⟩,h2⟩;subst e;exact e1 ((h.sym x u o j).trans i)
theorem NbInv.at{nb:Nat->Nat->Bool}(h:NbInv [] nb): ∀ {l:List Nat},l.Nodup->NbInv l (Yy nb l):=by
 intro l;have key:∀(l m:List Nat) (i:Nat->Nat->Bool),NbInv m i->(m++l).Nodup->NbInv (m++l) (Yy i l):=by
  intro l;induction l with
  | nil=>intro m i h _;rw[List.append_nil];exact h
  | cons v l ih=>
   intro m i h hn;have j:v ∉ m:=by grind
   have e:m++v::l=(m++[v])++l:=by simp
   rw[e]at hn ⊢;exact ih (m++[v]) _ (h.step j) hn
 intro hn;exact key l [] nb h hn
theorem Jgl{p x:Nat}(hx:x≠p): ∀ {mid:List Nat} {nb:Nat->Nat->Bool},nb p x=true->x ∉ mid->Yy nb mid p x=true
 | [],_,h,_=>h
 | w::mid,nb,h,hm=>by
  rw[Yy];refine Jgl hx ?_ (λh'=>hm (List.mem_cons_of_mem _ h'));have hw:x≠w:=by grind
  unfold Gn;grind
def pre(ord:List Nat)(v:Nat): List Nat:=ord.takeWhile (· != v)
def Vb(nb:Nat->Nat->Bool)(ord:List Nat)(v u:Nat): Bool:=Yy nb (pre ord v) v u
theorem Jft(h:v ∉ l): pre (l++v::r) v=l:=by
 induction l with
 | nil=>simp[pre]
 | cons x l ih=>
  grind [List.mem_cons_self,pre,List.takeWhile_cons,List.mem_cons_of_mem]
theorem Jyk(h:v∈ord): ∃ r,ord=pre ord v++v::r/\v ∉ pre ord v:=by
 obtain⟨l,r,e,hn⟩:=List.append_of_mem h |>.elim λl i=>i.elim λr e=>(⟨l,r,e,trivial⟩:∃ l r,ord=l++v::r/\True);clear hn;have:∀ l:List Nat,∃ r',l++v::r=pre (l++v::r) v++v::r'/\v ∉ pre (l++v::r) v:=by
  intro l;induction l with
  | nil=>exact⟨r,by simp[pre],by simp[pre]⟩
  | cons x l ih=>
   grind [pre,List.takeWhile_cons]
 rw[e];exact this l
def Jvq(ord:List Nat)(v u:Nat): Prop:=u ∉ pre ord v
section
variable {nb:Nat->Nat->Bool} {ord:List Nat} (h0:NbInv [] nb) (hn:ord.Nodup)
theorem Jtn(hn:ord.Nodup)(v:Nat): (pre ord v).Nodup:=hn.sublist (List.takeWhile_sublist _)
include h0 hn
theorem Jhb(hv:v∈ord)(hk:Vb nb ord v u=true): Jvq ord v u/\u≠v:=by
 obtain⟨r,e,i⟩:=Jyk hv;exact(h0.at (Jtn hn v)).gone v u i hk
omit h0 hn in
theorem Jbm(hN:∀ u x,nb u x=true->x<N)(hk:Vb nb ord v u=true): u<N:=by
 have:∀(l:List Nat) (nb:Nat->Nat->Bool),(∀ u x,nb u x=true->x<N)->∀ u x,Yy nb l u x=true->x<N:=by
  intro l;induction l with
  | nil=>intro nb h;exact h
  | cons w l ih=>
   intro nb h;refine ih _ λu x i=>?_;unfold Gn at i;grind
 exact this _ _ hN _ _ hk
theorem Qrk(hv:v∈ord)(hp:p∈ord)(hkp:Vb nb ord v p=true)(hmin:∀ u,Vb nb ord v u=true->Jvq ord p u)(hkx:Vb nb ord v x=true)(hx:x≠p): Vb nb ord p x=true:=by
 obtain⟨r,e,h1⟩:=Jyk hv;obtain⟨r2,e2,h2⟩:=Jyk hp;have o:=Jhb h0 hn hv hkp;have G:=Jhb h0 hn hv hkx;have i:v∈pre ord p:=by
  have U:p∈pre ord v∨v∈pre ord p:=by
   have j:p∈pre ord v++v::r:=e ▸ hp;rcases List.mem_append.1 j with h4|h4
   .exact .inl h4
   have O:p∈r:=by grind
   obtain⟨a,b,eb⟩:=List.append_of_mem O;grind [pre,List.append_assoc,List.nodup_append,List.mem_cons_self,Jft,List.mem_append_right]
  exact U.resolve_left o.1
 obtain⟨m,m2,Z⟩:=List.append_of_mem i;have J:m=pre ord v:=by grind [Jtn,List.nodup_append,List.mem_cons_self,Jft]
 unfold Vb;rw[Z,Qjk,Yy,J];refine Jgl hx ?_ λh'=>?_
 .have D:Yy nb (pre ord v) v p=true:=hkp;have C:Yy nb (pre ord v) v x=true:=hkx;grind [Gn]
 exact hmin x hkx (by grind)
omit h0 hn in
theorem Qrl(hb:nb v u=true)(hne:u≠v)(hl:Jvq ord v u): Vb nb ord v u=true:=Jgl hne hb hl
end
end Pl
namespace Pl
variable {ds:List Bool}{l:List Row}{m n:Nat}{q x y z:Row}{a b:V}
theorem Jlp{ds:List Bool}: ∀ {m:Nat} {x z:Row},x.take m=z.take m->m<x.length->m<z.length->cmpV (x.getD m V0) (z.getD m V0)≠0->Jw x z ds=neg (ds.getD m false) (cmpV (x.getD m V0) (z.getD m V0))
 | 0,a::x,b::z,_,_,_,h=>by grind [List.getD_cons_zero,Jw]
 | m+1,a::x,b::z,h,h1,h2,h3=>by
  simp only[List.take_succ_cons,List.cons.injEq]at h;simp only[List.getD_cons_succ]at h3 ⊢;simp only[Jw];rw[if_pos (by grind [Vd]),Jlp h.2 (by simpa using h1) (by simpa using h2) h3];simp[List.getD]
 | _,[],_,_,h,_,_=>by simp at h
 | _,_::_,[],_,_,h,_=>by simp at h
theorem neg_lt{d:Bool}(h:neg d (cmpV a b)<0): cmpV a b≠0:=by
 intro e;rw[e]at h;unfold neg at h;split at h<;>omega
theorem Jgj(d:Bool)(a b:V): neg d (cmpV b a) = - neg d (cmpV a b):=(Jvh d).anti a b
theorem Xxd(h:x.take m=z.take m)(h1:m<x.length)(h2:m<z.length)(h3:neg (ds.getD m false) (cmpV (x.getD m V0) (z.getD m V0))<0): Jw x z ds<0:=by grind [Jlp,neg_lt]
def Jjg(d:Bool)(l:List (V×Nat)): Prop:=l.Pairwise λp q=>neg d (cmpV p.1 q.1)<0
abbrev IX:= AX V
structure AX.Srt(X:IX)(ds:List Bool): Prop where
 d0:X.d0=V0
 srt:∀ v,v<X.F->∀ k,Jjg (ds.getD v false) (X.E v k)
theorem AX.ext_at_col{X:IX}(hx:x∈X.ext n (y++[a])): x.length=y.length+1+n/\x.take y.length=y/\x.getD y.length V0=a:=by
 obtain⟨j,i,_⟩:=(AX.ext_mem n _ x).1 hx;rw[List.length_append,List.length_singleton]at j i;refine⟨j,?_,?_⟩
 .have:=congrArg (List.take y.length) i;grind
 have:=congrArg (λl=>l.getD y.length V0) i;grind
theorem AX.Srt.ext{X:IX}{ds:List Bool}(h:X.Srt ds): ∀(n:Nat) (y:Row),y.length+n=X.F->Lt ds (X.ext n y)
 | 0,y,_=>List.pairwise_singleton _ _
 | n+1,y,e=>by
  rw[AX.ext];refine List.pairwise_flatMap.2 ⟨λp _=>h.ext n _ (by simp;omega),(h.srt y.length om _).imp fun {p q} hpq x hx z hz=>?_⟩;obtain⟨h1,h2,h3⟩:=AX.ext_at_col hx;obtain⟨h4,h5,h6⟩:=AX.ext_at_col hz;exact Xxd (m:=y.length) (by rw[h2,h5]) om om (by rw[h3,h6];exact hpq)
def bef(d:Bool)(v:V): List (V×Nat)->Nat
 | []=>0
 | p::l=>(if neg d (cmpV p.1 v)<0 then p.2 else 0)+bef d v l
def Xt(ds:List Bool)(l:List Row)(q:Row): Nat:=(l.filter λx=>decide (Jw (x.take q.length) q ds<0)).length
theorem Xqv(ds:List Bool)(l m:List Row)(q:Row): Xt ds (l++m) q=Xt ds l q+Xt ds m q:=by simp[Xt]
theorem Xqw(h:∀ x∈l,Jw (x.take q.length) q ds<0): Xt ds l q=l.length:=by grind [Xt,List.filter_eq_self.2]
theorem Qkc(h:∀ x∈l,¬ Jw (x.take q.length) q ds<0): Xt ds l q=0:=by grind [Xt,List.filter_eq_nil_iff.2]
theorem cmpR_col'(h:x.take m=q.take m)(h1:q.length<=x.length)(h2:m<q.length)(h3:cmpV (x.getD m V0) (q.getD m V0)≠0): Jw (x.take q.length) q ds=neg (ds.getD m false) (cmpV (x.getD m V0) (q.getD m V0)):=by grind [V0,List.getD,Jlp,Nat.min_eq_left,List.length_take]
theorem AX.Srt.cnt_step{X:IX}(h:X.Srt ds)(hok:X.Ok)(e:y.length+(n+1)=X.F)(hq:q.length<=X.F)(hm:y.length<q.length)(hy:q.take y.length=y):
  Xt ds (X.ext (n+1) y) q=bef (ds.getD y.length false) (q.getD y.length V0) (X.E y.length (X.key y.length y))*X.others y.length y +
   (if q.getD y.length V0∈(X.E y.length (X.key y.length y)).map (·.1) then Xt ds (X.ext n (y++[q.getD y.length V0])) q else 0):=by
 have G:y.length<X.F:=om
 have D:∀ p∈X.E y.length (X.key y.length y),(X.ext n (y++[p.1])).length=p.2*X.others y.length y:=λp C=>by
  rw[hok.ext_len n (y++[p.1]) (by simp;omega),List.length_append,List.length_singleton,hok.pend_next G C]
 have Z:=h.srt y.length G (X.key y.length y);rw[AX.ext];generalize X.others y.length y=O at *
 generalize X.E y.length (X.key y.length y)=l at *
 have one:∀ p:V×Nat,(X.ext n (y++[p.1])).length=p.2*O->p.1≠q.getD y.length V0->Xt ds (X.ext n (y++[p.1])) q=(if neg (ds.getD y.length false) (cmpV p.1 (q.getD y.length V0))<0 then p.2 else 0)*O:=by
  intro p hl u;have hc:∀ x∈X.ext n (y++[p.1]),Jw (x.take q.length) q ds=neg (ds.getD y.length false) (cmpV p.1 (q.getD y.length V0)):=λx j=>by
   obtain⟨h1,h2,J⟩:=AX.ext_at_col j;rw[cmpR_col' (m:=y.length) (by rw[h2,hy]) om hm (by rw[J];intro e;exact u (cmp_V.zero _ _ e)),J]
  by_cases e:neg (ds.getD y.length false) (cmpV p.1 (q.getD y.length V0))<0
  .grind [Xqw]
  rw[if_neg e,Qkc (λx j=>by rw[hc x j];exact e),Nat.zero_mul]
 induction l with
 | nil=>simp[bef,Xt]
 | cons p l ih=>
  obtain⟨U,o⟩:=List.pairwise_cons.1 Z;have i:=ih o (λr hr=>D r (List.mem_cons_of_mem _ hr));have C:=D p (mC ..);rw[List.flatMap_cons,Xqv,i,bef,Nat.add_mul];by_cases e:p.1=q.getD y.length V0
  .have h0:neg (ds.getD y.length false) (cmpV p.1 (q.getD y.length V0))=0:=by rw[e,Vd];unfold neg;split<;>rfl
   grind
  repeat grind
theorem AX.cnt_end{X:IX}: Xt ds (X.ext n q) q=0:=by grind [Qkc,AX.ext_mem,Yt]
end Pl
namespace Pl
inductive Tr where
 | nil
 | node (l:Tr) (v:V) (x:Nat) (r:Tr)
namespace Tr
def ht: Tr->Nat
 | .nil=>0
 | .node l _ _ r=>max l.ht r.ht+1
def sz: Tr->Nat
 | .nil=>0
 | .node l _ _ r=>l.sz+1+r.sz
def sum: Tr->Nat
 | .nil=>0
 | .node l _ x r=>l.sum+x+r.sum
def toL: Tr->List (V×Nat)
 | .nil=>[]
 | .node l v x r=>l.toL++(v,x)::r.toL
theorem sum_eq: ∀ t:Tr,t.sum=tot t.toL
 | .nil=>rfl
 | .node l v x r=>by rw[sum,toL,Jkn,tot,sum_eq l,sum_eq r];simp only;omega
theorem sz_eq: ∀ t:Tr,t.sz=t.toL.length
 | .nil=>rfl
 | .node l v x r=>by rw[sz,toL,List.length_append,List.length_cons,sz_eq l,sz_eq r];omega
theorem ht_le: ∀ t:Tr,t.ht<=t.sz
 | .nil=>nR _
 | .node l v x r=>by have:=ht_le l;have:=ht_le r;grind [ht,sz]
def left: Tr->Tr
 | .nil=>.nil
 | .node l _ _ _=>l
def right: Tr->Tr
 | .nil=>.nil
 | .node _ _ _ r=>r
def bal(l:Tr)(v:V)(x:Nat)(r:Tr): Tr :=
 if r.ht+1<l.ht then
  match l with
  | .nil=>.node .nil v x r
  | .node ll lv lx lr=>
   if lr.ht<=ll.ht then .node ll lv lx (.node lr v x r)
   else match lr with
    | .nil=>.node (.node ll lv lx .nil) v x r
    | .node ml mv mx mr=>.node (.node ll lv lx ml) mv mx (.node mr v x r)
 else if l.ht+1<r.ht then
  match r with
  | .nil=>.node l v x .nil
  | .node rl rv rx rr=>
   if rl.ht<=rr.ht then .node (.node l v x rl) rv rx rr
   else match rl with
    | .nil=>.node l v x (.node .nil rv rx rr)
    | .node ml mv mx mr=>.node (.node l v x ml) mv mx (.node mr rv rx rr)
 else .node l v x r
theorem toL_bal(l:Tr)(v:V)(x:Nat)(r:Tr): (bal l v x r).toL=l.toL++(v,x)::r.toL:=by
 unfold bal;split
 .cases l with
  | nil=>rfl
  | node ll lv lx lr=>
   simp only;split
   repeat grind [toL]
 split
 .cases r with
  | nil=>rfl
  | node rl rv rx rr=>
   simp only;split
   repeat grind [toL]
 rfl
def put(d:Bool)(v:V)(x:Nat): Tr->Tr
 | .nil=>.node .nil v x .nil
 | .node l a y r=>if neg d (cmpV v a)<0 then bal (put d v x l) a y r else if 0<neg d (cmpV v a) then bal l a y (put d v x r) else .node l v x r
theorem put_last{d:Bool}{v:V}{x:Nat}: ∀ {t:Tr},(∀ p∈t.toL,0<neg d (cmpV v p.1))->(put d v x t).toL=t.toL++[(v,x)]
 | .nil,_=>rfl
 | .node l a y r,h=>by
  have h1:=h (a,y) (by simp[toL]);have h2:=put_last (d:=d) (v:=v) (x:=x) (t:=r) (λp hp=>h p (by simp[toL,hp]));grind [put,toL_bal,toL]
theorem put_first{d:Bool}{v:V}{x:Nat}: ∀ {t:Tr},(∀ p∈t.toL,neg d (cmpV v p.1)<0)->(put d v x t).toL=(v,x)::t.toL
 | .nil,_=>rfl
 | .node l a y r,h=>by
  have h1:=h (a,y) (by simp[toL]);have h2:=put_first (d:=d) (v:=v) (x:=x) (t:=l) (λp hp=>h p (by simp[toL,hp]));grind [put,toL_bal,toL]
theorem Qwt(l:Tr)(v:V)(x:Nat)(r:Tr): (bal l v x r).sz=l.sz+1+r.sz:=by grind [sz_eq,toL_bal,List.length_append,List.length_cons]
theorem put_sz(d:Bool)(v:V)(x:Nat): ∀ t:Tr,(put d v x t).sz<=t.sz+1
 | .nil=>nR _
 | .node l a y r=>by
  have h1:=put_sz d v x l;have h2:=put_sz d v x r;unfold put;split
  .rw[Qwt,sz];omega
  split
  repeat grind [Qwt,sz]
def befT(d:Bool)(v:V): Tr->Nat
 | .nil=>0
 | .node l a y r=>if neg d (cmpV v a)<0 then befT d v l else if neg d (cmpV v a)=0 then l.sum else l.sum+y+befT d v r
def hasT(d:Bool)(v:V): Tr->Bool
 | .nil=>false
 | .node l a y r=>if neg d (cmpV v a)<0 then hasT d v l else if neg d (cmpV v a)=0 then true else hasT d v r
theorem Xkp(d:Bool)(v:V)(l m:List (V×Nat)): bef d v (l++m)=bef d v l+bef d v m:=by
 induction l with
 | nil=>simp[bef]
 | cons p l ih=>rw[List.cons_append,bef,bef,ih,Nat.add_assoc]
theorem Jmc{d:Bool}{v:V}: ∀ {l:List (V×Nat)},(∀ p∈l,neg d (cmpV p.1 v)<0)->bef d v l=tot l
 | [],_=>rfl
 | p::l,h=>by rw[bef,tot,if_pos (h p (mC ..)),Jmc λq hq=>h q (List.mem_cons_of_mem _ hq)]
theorem Jmb{d:Bool}{v:V}: ∀ {l:List (V×Nat)},(∀ p∈l,¬ neg d (cmpV p.1 v)<0)->bef d v l=0
 | [],_=>rfl
 | p::l,h=>by rw[bef,if_neg (h p (mC ..)),Jmb λq hq=>h q (List.mem_cons_of_mem _ hq)]
theorem befT_eq{d:Bool}{v:V}: ∀ {t:Tr},Jjg d t.toL->befT d v t=bef d v t.toL/\(hasT d v t=true↔v∈t.toL.map (·.1))
 | .nil,_=>⟨rfl,by simp[hasT,toL]⟩
 | .node l a y r,h=>by
  have N:=Jvh d;obtain⟨h1,h2,h3⟩:=List.pairwise_append.1 h;obtain⟨h4,h5⟩:=List.pairwise_cons.1 h2;have il:=befT_eq (v:=v) h1;have ir:=befT_eq (v:=v) h5;have hla:∀ p∈l.toL,neg d (cmpV p.1 a)<0:=by grind [List.mem_cons_self]
  have hva:=Jgj d v a;rw[toL,befT,hasT,Xkp,bef];by_cases c1:neg d (cmpV v a)<0
  .have hr:∀ p∈r.toL,¬ neg d (cmpV p.1 v)<0:=λp hp h'=>by
    have:=N.trans p.1 v a om om;grind [Jgj]
   rw[if_pos c1,if_pos c1,il.1,Jmb hr,if_neg (by simp only;omega)];grind
  rw[if_neg c1,if_neg c1];by_cases c0:neg d (cmpV v a)=0
  .have e:v=a:=N.zero v a c0;grind [neg,cmpV,Jgj,Jmc,Jmb,sum_eq]
  rw[if_neg c0,if_neg c0];have hl:∀ p∈l.toL,neg d (cmpV p.1 v)<0:=λp hp=>by
   have h1:=hla p hp;have h2:=N.trans p.1 a v om om;have h3:neg d (cmpV p.1 v)≠0:=λe=>by
    have:=N.zero p.1 v e;rw[this]at h1;omega
   simp only at *;omega
  rw[Jmc hl,if_pos (by simp only;omega),ir.1,sum_eq];grind
def findT(k:Nat): Tr->V×Nat
 | .nil=>(V0,0)
 | .node l a y r=>if k<l.sum then findT k l else if l.sum+y<=k then((findT (k-(l.sum+y)) r).1,l.sum+y+(findT (k-(l.sum+y)) r).2) else(a,l.sum)
theorem findT_eq: ∀ {t:Tr} {k:Nat},k<t.sum->∃ l1 l2 y,t.toL=l1++((findT k t).1,y)::l2/\tot l1=(findT k t).2/\(findT k t).2<=k/\k<(findT k t).2+y
 | .nil,k,h=>by simp[sum]at h
 | .node l a y r,k,h=>by
  rw[sum]at h;rw[findT,toL];split
  .rename_i h1;obtain⟨l1,l2,z,e1,e2,e3,e4⟩:=findT_eq h1;grind
  split
  .rename_i h1 h2;obtain⟨l1,l2,z,e1,e2,e3,e4⟩:=findT_eq (t:=r) (k:=k-(l.sum+y)) om;grind [List.append_assoc,Jkn,tot,sum_eq]
  repeat grind [sum_eq]
end Tr
end Pl
namespace Pl
variable {d:Bool}{l:List (V×Nat)}{rs:List Row}{m:Nat}{k x:Row}{wt:Row->Nat}{p:V×Nat}
def Xz(wt:Row->Nat)(m:Nat)(rs:List Row)(k:Row): List (V×Nat):=(rs.filter λx=>decide (x.take m=k) && decide (0<wt x)).map λx=>(x.getD m V0,wt x)
def stepG(d:Bool)(wt:Row->Nat)(m:Nat)(bs:List (Row×Tr))(x:Row): List (Row×Tr) :=
 if wt x=0 then bs
 else if(bs.getLast?.map (·.1))=some (x.take m) then bs.dropLast++[(x.take m,Tr.put d (x.getD m V0) (wt x) ((bs.getLast?.map (·.2)).getD .nil))]
 else bs++[(x.take m,Tr.put d (x.getD m V0) (wt x) .nil)]
def Yz(d:Bool)(l:List (V×Nat)): List (V×Nat):=if d then l.reverse else l
structure GInv(d:Bool)(wt:Row->Nat)(m:Nat)(rs:List Row)(bs:List (Row×Tr)): Prop where
 lt:Lt [] (bs.map (·.1))
 con:∀ b∈bs,b.2.toL=Yz d (Xz wt m rs b.1)/\Xz wt m rs b.1≠[]
 all:∀ k,Xz wt m rs k≠[]->k∈bs.map (·.1)
theorem Jlb(wt:Row->Nat)(m:Nat)(rs:List Row)(x k:Row): Xz wt m (rs++[x]) k=Xz wt m rs k++if x.take m=k/\0<wt x then[(x.getD m V0,wt x)] else[]:=by grind [Xz,List.filter_cons_of_pos,List.filter_cons_of_neg]
theorem entL_mem: p∈Xz wt m rs k↔∃ x∈rs,x.take m=k/\x.getD m V0=p.1/\wt x=p.2/\0<p.2:=by
 unfold Xz;grind
theorem entL_ne: Xz wt m rs k≠[]↔∃ x∈rs,x.take m=k/\0<wt x:=by
 constructor
 .intro h;obtain⟨p,u⟩:=List.exists_mem_of_ne_nil _ h;obtain⟨x,o,j,i,D,C⟩:=entL_mem.1 u;grind
 rintro⟨x,o,j,i⟩ e;have:=(entL_mem (p:=(x.getD m V0,wt x))).2 ⟨x,o,j,rfl,rfl,i⟩;grind
theorem Qkh: ∀(m:Nat) {x y:Row},Jw x y []<0->Jw (x.take m) (y.take m) []<=0
 | 0,x,y,_=>by simp[Jw]
 | m+1,[],[],h=>by simp[Jw]
 | m+1,[],b::y,h=>by simp[Jw]
 | m+1,a::x,[],h=>by simp[Jw]at h
 | m+1,a::x,b::y,h=>by
  simp only[Jw,List.take_succ_cons,List.drop_nil]at h ⊢;by_cases e:cmpV a b=0
  .rw[if_pos e]at h ⊢;exact Qkh m h
  repeat grind
theorem Jln: ∀(m:Nat) {x y:Row},Jw x y []<0->x.take m=y.take m->x.length=m+1->y.length=m+1->cmpV (x.getD m V0) (y.getD m V0)<0
 | 0,[a],[b],h,_,_,_=>by
  simp only[Jw]at h;by_cases e:cmpV a b=0
  .grind
  rw[if_neg e]at h;exact h
 | m+1,a::x,b::y,h,ht,h1,h2=>by
  simp only[List.take_succ_cons,List.cons.injEq]at ht;simp only[Jw,List.drop_nil]at h;rw[if_pos (by grind [Vd])]at h;simp only[List.getD_cons_succ];exact Jln m h ht.2 (by simpa using h1) (by simpa using h2)
theorem Jbw{α:Type}{l:List α}(h:l≠[]): ∃ i z,l=i++[z]/\l.getLast?=some z/\l.dropLast=i:=by grind [List.dropLast_concat_getLast,List.getLast?_eq_some_getLast]
theorem GInv.step{bs:List (Row×Tr)}(h:GInv d wt m rs bs)(hs:Lt [] (rs++[x]))(hl:∀ y∈rs++[x],y.length=m+1): GInv d wt m (rs++[x]) (stepG d wt m bs x):=by
 have a2:=hl x (by simp);have a4:∀ y∈rs,Jw y x []<0:=λy Z=>(List.pairwise_append.1 hs).2.2 y Z x (by simp);by_cases h0:wt x=0
 .have e:∀ k,Xz wt m (rs++[x]) k=Xz wt m rs k:=by grind [Jlb]
  rw[stepG,if_pos h0];exact⟨h.lt,λb j=>by rw[e];exact h.con b j,λk o=>h.all k (by rw[<-e k];exact o)⟩
 have h1:0<wt x:=om
 have eo:∀ k,k≠x.take m->Xz wt m (rs++[x]) k=Xz wt m rs k:=by grind [Jlb]
 have ex:Xz wt m (rs++[x]) (x.take m)=Xz wt m rs (x.take m)++[(x.getD m V0,wt x)]:=by grind [Jlb]
 have D:∀ k∈bs.map (·.1),Jw k (x.take m) []<=0:=λk o=>by
  obtain⟨b,j,rfl⟩:=List.mem_map.1 o;obtain⟨y,Z,e,_⟩:=entL_ne.1 (h.con b j).2;grind [Qkh]
 have G:∀ p∈Xz wt m rs (x.take m),cmpV p.1 (x.getD m V0)<0:=λp J=>by
  obtain⟨y,Z,u,e2,_⟩:=entL_mem.1 J;rw[<-e2];exact Jln m (a4 y Z) u (hl y (by simp[Z])) a2
 have C:∀ t:Tr,t.toL=Yz d (Xz wt m rs (x.take m))->(Tr.put d (x.getD m V0) (wt x) t).toL=Yz d (Xz wt m (rs++[x]) (x.take m)):=λt ht=>by
  rw[ex];cases d with
  | false=>
   rw[Tr.put_last,ht];· rfl
   intro p J;rw[ht]at J;have:=G p J;have:=cmp_V.anti p.1 (x.getD m V0);grind [neg]
  | true=>
   rw[Tr.put_first,ht];· simp[Yz]
   intro p J;rw[ht]at J;have:=G p (by simpa [Yz] using J);have:=cmp_V.anti p.1 (x.getD m V0);grind [neg]
 rw[stepG,if_neg h0];by_cases hl2:(bs.getLast?.map (·.1))=some (x.take m)
 .rw[if_pos hl2];have U:bs≠[]:=by grind
  obtain⟨i,z,u,e2,e3⟩:=Jbw U;rw[e2]at hl2 ⊢;have hz:z.1=x.take m:=by simpa using hl2
  rw[e3];have a6:=h.con z (by rw[u];simp);have a3:∀ b∈i,b.1≠x.take m:=λb j e=>by
   have:=h.lt;rw[u,List.map_append]at this;have:=(List.pairwise_append.1 this).2.2 b.1 (List.mem_map_of_mem j) z.1 (by simp);grind [Yt]
  refine⟨?_,λb j=>?_,λk o=>?_⟩
  .have:=h.lt;grind
  .rcases List.mem_append.1 j with j|j
   .rw[eo _ (a3 b j)];exact h.con b (by rw[u];simp[j])
   rw[List.mem_singleton.1 j];refine⟨C _ (by grind),?_⟩;simp only;rw[ex];simp
  by_cases e:k=x.take m
  .rw[e];simp
  rw[eo k e]at o;have:=h.all k o;grind
 rw[if_neg hl2];have O:x.take m ∉ bs.map (·.1):=λo=>by
  have U:bs≠[]:=by grind
  obtain⟨i,z,u,e2,e3⟩:=Jbw U;rw[e2]at hl2;have hz:z.1≠x.take m:=λe=>hl2 (by simp[e]);rw[u,List.map_append,List.mem_append]at o;have h5:=h.lt;rw[u,List.map_append]at h5;rcases o with o|o
  .have h6:=(List.pairwise_append.1 h5).2.2 _ o z.1 (by simp);have h7:=D z.1 (by rw[u];simp);have:=Ke [] |>.anti (x.take m) z.1;omega
  repeat grind
 have he:Xz wt m rs (x.take m)=[]:=Classical.byContradiction λh'=>O (h.all _ h');refine⟨?_,λb j=>?_,λk o=>?_⟩
 .rw[List.map_append];refine List.pairwise_append.2 ⟨h.lt,by simp,λk o k' a1=>?_⟩;rw[List.map_singleton,List.mem_singleton]at a1;rw[a1];have h7:=D k o;have h8:Jw k (x.take m) []≠0:=λe=>O (by rw[<-(Ke []).zero _ _ e];exact o);simp only;omega
 .rcases List.mem_append.1 j with j|j
  .have a5:b.1∈bs.map (·.1):=List.mem_map_of_mem j
   rw[eo _ (λe=>O (by rw[<-e];exact a5))];exact h.con b j
  rw[List.mem_singleton.1 j];refine⟨C _ (by rw[he];cases d<;>rfl),?_⟩;grind
 by_cases e:k=x.take m
 .rw[e];simp
 rw[eo k e]at o;rw[List.map_append,List.mem_append];exact .inl (h.all k o)
theorem GInv.nil(d:Bool)(wt:Row->Nat)(m:Nat): GInv d wt m [] []:=⟨List.Pairwise.nil,λb j=>(by cases j),λk i=>absurd rfl i⟩
def entK(bs:List (Row×Tr))(k:Row): List (V×Nat):=match bs.find? λb=>decide (b.1=k) with
 | some b=>b.2.toL
 | none=>[]
theorem GInv.entK{d:Bool}{wt:Row->Nat}{m:Nat}{rs:List Row}{bs:List (Row×Tr)}(h:GInv d wt m rs bs)(k:Row): entK bs k=Yz d (Xz wt m rs k):=by
 unfold Pl.entK;cases hf:bs.find? λb=>decide (b.1=k) with
 | some b=>
  have j:=List.mem_of_find?_eq_some hf;have i:=List.find?_some hf;simp only[decide_eq_true_eq]at i;simp only;rw[<-i];exact(h.con b j).1
 | none=>
  have j:=List.find?_eq_none.1 hf;have:Xz wt m rs k=[]:=Classical.byContradiction λo=>by
   obtain⟨b,u,e⟩:=List.mem_map.1 (h.all k o);grind
  rw[this];cases d<;>rfl
theorem Xjd(hs:Lt [] rs)(hl:∀ y∈rs,y.length=m+1)(k:Row): (Xz wt m rs k).Pairwise λp q=>cmpV p.1 q.1<0:=by
 unfold Xz;rw[List.pairwise_map];refine List.Pairwise.imp_of_mem (R:=λx y:Row=>Jw x y []<0) (fun {x y} hx hy h=>?_) (hs.sublist List.filter_sublist);obtain⟨u,j⟩:=List.mem_filter.1 hx;obtain⟨o,i⟩:=List.mem_filter.1 hy;simp only[Bool.and_eq_true,decide_eq_true_eq]at j i;exact Jln m h (by rw[j.1,i.1]) (hl x u) (hl y o)
theorem Xjq(h:l.Pairwise λp q=>cmpV p.1 q.1<0): Jjg d (Yz d l):=by
 cases d with
 | false=>exact h.imp λi=>by grind [neg]
 | true=>
  simp only[Yz,if_true,Jjg];rw[List.pairwise_reverse];refine h.imp fun {p q} i=>?_
  have:=cmp_V.anti p.1 q.1;grind [neg]
theorem Qzj: p∈Yz d l↔p∈l:=by cases d<;>simp[Yz]
theorem Jcb(d:Bool)(l:List (V×Nat)): tot (Yz d l)=tot l:=by
 cases d with
 | false=>rfl
 | true=>
  simp only[Yz,if_true];induction l with
  | nil=>rfl
  | cons p l ih=>rw[List.reverse_cons,Jkn,ih,tot,tot,tot];omega
end Pl
open Go.RowKit Pl Go.Wk
attribute [local irreducible] WC WL QX WD WDB WP WN
variable {c:JC}{l:List Row}{Y:List Row->World->Prop}{L e p:Nat->Nat}{f h:Nat->Nat->Nat}{x z:Row}{w:World}
structure Pth(c:JC)(v:Nat)(z:Row)(p e:Nat->Nat): Prop where
 path:∀ i,i<c.m->Uq (c.F.rs i) (lv (c.vars i) v) (p i)=(pmR (c.vars i) z).take (lv (c.vars i) v)
 rng:∀ i,i<c.m->0<lv (c.vars i) v->p i<e i/\e i<=(pfx (c.F.rs i) (lv (c.vars i) v)).length
def Qyh(c:JC)(Y:List Row->World->Prop)(v:Nat)(z:Row)(p e:Nat->Nat)(f h:Nat->Nat->Nat)(l:List Row)(w:World)(u:Value)(w':World): Prop :=
 u=.bool true/\GrN c.N w w'/\∃ z' f' h' l',Cfg c Y w' z' (λi=>lv (c.vars i) v) p e f' h' l'/\z'.take v=z.take v/\(∀ i,i<c.m->∀ k,k<lv (c.vars i) v->f' i k=f i k/\h' i k=h i k)/\Lt [] l'/\∀ x,x∈l'↔x∈l∨(c.Ans x/\x.take v=z.take v)
theorem Cfg.rowV(H:Cfg c Y w z L p e f h l)(hok:JOk c): RowV w c.rowv z:=by
 have i:=H.row;have j:=hok.n32;refine⟨c.Ra,c.n,by rw[H.zl];rfl,by rw[H.zl];exact nR _,by rw[H.zl];omega,?_⟩;rw[Xl,H.zl]at i;rw[RdR,H.zl];exact Rd.own i
theorem Pth.ans(h:Pth c c.n z p e)(hok:JOk c)(hz:z.length=c.n): c.Ans z:=by
 refine⟨hz,λi hi=>?_⟩;have o:=h.path i hi;have j:=Qqc (hok.lt i hi);rw[j,List.take_of_length_le (by rw[Qn];exact nR _)]at o;rw[<-o];have G:=hok.d i hi;by_cases h0:(c.vars i).length=0
 .rw[Uq,if_pos h0];obtain⟨r,u⟩:=List.exists_mem_of_ne_nil _ (hok.ne i hi);have:=hok.len i hi r u;grind
 rw[Uq,if_neg h0];have C:=h.rng i hi om;rw[j]at C;have D:=Qlm (hok.srt i hi) (hok.len i hi);grind
theorem Qdc{n:Nat}(h1:x.length=n)(h2:z.length=n)(h:x.take n=z.take n): x=z:=by grind
theorem Qtz{NY:Nat->Prop}(hok:JOk c)(hY:YC c Y NY)(hcap:∀ l:List Row,Lt [] l->(∀ x∈l,c.Ans x)->l.length<=65536)(H:Cfg c Y w z (λi=>lv (c.vars i) c.n) p e f h l)(hP:Pth c c.n z p e)(hl:Lt [] l)(hla:∀ x∈l,c.Ans x)(hls:∀ x∈l,∀ z',c.Ans z'->z'.take c.n=z.take c.n->Jw x z' []<0):
  Ret Tryz.prog 224 [.pointer (some ⟨c.J,0,none⟩),.int .i64 (c.n:Int)] w (Qyh c Y c.n z p e f h l w):=by
 have aa:=hP.ans hok H.zl;obtain⟨st,U⟩:=H.jb;have a9:=hok.n32;obtain⟨ab,first,ac,Z,D⟩:=hY.call;have a1:c.rowv=.slice c.Ra c.n c.n:=rfl;rw[a1,Z]at U;refine enE Tryz.func224 Tryz.ntmps224 ?_;refine ldR (U.at (i:=0) rfl) ?_;refine ctR ?_ ?_
 .exact beq_t rfl
 refine ldR (U.at (i:=2) rfl) ?_;refine Xv (p:=⟨c.J,2,none⟩) (U.cell 2) (U.frozen _) ?_;have a6:=U.set 2 (.int .i64 (IntKind.i64.wrap (st+1)));have a4:GrN (λk=>k=c.J) w (w.setCell ⟨c.J,2,none⟩ (.int .i64 (IntKind.i64.wrap (st+1)))):=GrN.set _ rfl;have C:GrN c.NI w (w.setCell ⟨c.J,2,none⟩ (.int .i64 (IntKind.i64.wrap (st+1)))):=GrN.set _ (.inl rfl);refine ρ ?_;generalize w.setCell ⟨c.J,2,none⟩ (.int .i64 (IntKind.i64.wrap (st+1)))=w2 at *
 have H2:Cfg c Y w2 z (λi=>lv (c.vars i) c.n) p e f h l:=by
  refine⟨H.env.gr (C.mono λk _ O=>hok.sub k O),λi hi=>?_,Jt H.row a4 (λg eg=>H.rowJ eg),H.zl,⟨_,by rw[a1,Z];exact a6⟩,hY.keep _ _ _ H.y C⟩;obtain⟨st,G⟩:=H.its i hi;exact⟨st,Jb G a4 (hok.gj i hi)⟩
 refine drN (λ_=>False) 10 (scq 10 [108,109]) kr ?_;have o:Ext w2 w2.drew:=(Ext.refl w2).drew;have a5:=a6.ext o;have H3:=H2.ext hY o;refine ρn ?_;refine nld (Jr (a5.at (i:=3) rfl) (λe=>e)) ?_;refine ρn ?_;refine nld (Jr (a5.at (i:=0) rfl) (λe=>e)) ?_;refine ρn ?_;refine Xh ?_;have a8:Lt [] (l++[z]):=by
  refine List.pairwise_append.2 ⟨hl,List.pairwise_singleton _ _,λx hx y hy=>?_⟩;grind
 have a2:l.length<65536:=by grind
 refine clv (D l _ c.rowv z H3.y (H3.rowV hok) a2) ?_;rintro u w4 ⟨rfl,a7,j⟩;refine ρ ?_;refine Gz ?_;refine Xh ?_;refine ρ ?_;have a3:GrN c.N w w4:=((C.mono λk _ O=>hok.sub k O).trans (GrN.ext o)).trans (j.mono λk _ O=>hY.sub k O);refine Jj ⟨rfl,a3,z,f,h,l++[z],⟨H.env.gr a3,λi hi=>?_,Jt H3.row j (λg eg hn=>hY.off g hn (.inr (.inr eg))),H.zl,?_,a7⟩,rfl,λi hi k O=>⟨rfl,rfl⟩,a8,λx=>?_⟩
 .obtain⟨st,G⟩:=H3.its i hi;exact⟨st,Jb G j (λhn=>hY.off _ hn (.inr (.inl ⟨i,hi,rfl⟩)))⟩
 .obtain⟨st,G⟩:=H3.jb;exact⟨st,Jb G j (λhn=>hY.off _ hn (.inl rfl))⟩
 rw[List.mem_append,List.mem_singleton];constructor
 .grind
 rintro(h'|⟨G,h2⟩)
 .exact .inl h'
 exact .inr (Qdc G.1 H.zl h2)
open Go.RowKit Pl Go.Wk
variable {a i:Nat}{e e1 p p1:Nat->Nat}{y z z2:Row}
structure LS where
 L: Nat->Nat
 p:Nat->Nat
 e:Nat->Nat
 f:Nat->Nat->Nat
 h:Nat->Nat->Nat
def LS.upd(S:LS)(i L p e:Nat)(f h:Nat->Nat): LS:=⟨Wk.upd S.L i L,Wk.upd S.p i p,Wk.upd S.e i e,Wk.upd S.f i f,Wk.upd S.h i h⟩
theorem Cfg.congr{c:JC}{Y:List Row->World->Prop}{w:World}{L L' p' e':Nat->Nat}{f h f' h':Nat->Nat->Nat}{l:List Row}(H:Cfg c Y w z L p e f h l)(h1:∀ i,i<c.m->L' i=L i/\p' i=p i/\e' i=e i/\f' i=f i/\h' i=h i): Cfg c Y w z L' p' e' f' h' l :=
 ⟨H.env,λi hi=>by obtain⟨D,C,u,o,j⟩:=h1 i hi;rw[D,C,u,o,j];exact H.its i hi,H.row,H.zl,H.jb,H.y⟩
def JC.vl(c:JC)(v i a:Nat): V:=(lvl (c.F.rs i) (lv (c.vars i) v)).getD a V0
structure Sib(c:JC)(v:Nat)(z:Row)(lo hi:Nat->Nat): Prop where
 lt:∀ i∈c.I v,lo i<hi i/\hi i<=(pfx (c.F.rs i) (lv (c.vars i) v+1)).length
 ch:∀ i∈c.I v,∀ a,a<(pfx (c.F.rs i) (lv (c.vars i) v+1)).length->(((pfx (c.F.rs i) (lv (c.vars i) v+1)).getD a []).take (lv (c.vars i) v)=(pmR (c.vars i) z).take (lv (c.vars i) v)↔lo i<=a/\a<hi i)
section
variable {c:JC} {v:Nat} {z:Row} {lo hi:Nat->Nat}
theorem JOk.lvd(hok:JOk c)(hi:i∈c.I v): lv (c.vars i) v+1<=c.F.d i:=by
 obtain⟨j,o⟩:=JC.mem_I.1 hi;rw[hok.d i j];exact(Yc (hok.asc i j) o).2.1
theorem Sib.node(hok:JOk c)(hS:Sib c v z lo hi)(him:i∈c.I v)(h1:lo i<=a)(h2:a<hi i): (pfx (c.F.rs i) (lv (c.vars i) v+1)).getD a []=(pmR (c.vars i) z).take (lv (c.vars i) v)++[c.vl v i a]:=by
 obtain⟨j,C⟩:=JC.mem_I.1 him;have u:=hS.lt i him;have o:a<(pfx (c.F.rs i) (lv (c.vars i) v+1)).length:=om
 have G:=(hS.ch i him a o).2 ⟨h1,h2⟩;have D:=Qll (Gt (hok.srt i j)) (hok.len i j) (hok.lvd him) (getD_mem' [] _ o);rw[Qdb D G,JC.vl,Qps o]
theorem Sib.srt(hok:JOk c)(hS:Sib c v z lo hi){i a b:Nat}(him:i∈c.I v)(h1:lo i<=a)(h2:a<b)(h3:b<hi i): cmpV (c.vl v i a) (c.vl v i b)<0:=by
 obtain⟨j,C⟩:=JC.mem_I.1 him;have u:=hS.lt i him;have o:=(Jwh (Gt (hok.srt i j)) (lv (c.vars i) v+1)).1.at h2 om;rw[hS.node hok him h1 om,hS.node hok him om h3]at o;have key:∀(y:Row) (a b:V),Jw (y++[a]) (y++[b]) []<0->cmpV a b<0:=λy a b=>by
  induction y with
  | nil=>
   intro h;simp only[List.nil_append,Jw]at h;by_cases e:cmpV a b=0
   .grind
   rw[if_neg e]at h;exact h
  | cons x y ih=>
   grind [Jw,Vd]
 exact key _ _ _ o
theorem Sib.ans(hok:JOk c)(hS:Sib c v z lo hi)(hy:c.Ans y)(ht:y.take v=z.take v)(him:i∈c.I v): ∃ a,lo i<=a/\a<hi i/\c.vl v i a=y.getD v V0:=by
 obtain⟨j,u⟩:=JC.mem_I.1 him;have C:=(Jwj (Gt (hok.srt i j)) (l:=lv (c.vars i) v+1)).2 ⟨_,hy.2 i j,rfl⟩;obtain⟨a,D,J⟩:=List.getElem_of_mem C;rw[Jtp (hok.asc i j) u,Jfx (hok.asc i j) ht]at J;have G:(pfx (c.F.rs i) (lv (c.vars i) v+1)).getD a []=(pmR (c.vars i) z).take (lv (c.vars i) v)++[y.getD v V0]:=by grind
 have O:((pmR (c.vars i) z).take (lv (c.vars i) v)).length=lv (c.vars i) v:=by grind [List.length_take,Qn,Qjz]
 have o:=(hS.ch i him a D).1 (by grind);refine⟨a,o.1,o.2,?_⟩;have:=hS.node hok him o.1 o.2;grind [List.append_cancel_left]
theorem Pth.step(hok:JOk c)(hP:Pth c v z p e)(hS:Sib c v z lo hi)(hv:v<z.length){x:V}(h1:∀ i∈c.I v,lo i<=p1 i/\p1 i<hi i/\c.vl v i (p1 i)=x)(hz2:z2.take v=z.take v)(hz3:z2.getD v V0=x)(h2:∀ i,i<c.m->i ∉ c.I v->p1 i=p i/\e1 i=e i)(h3:∀ i∈c.I v,e1 i=hi i): Pth c (v+1) z2 p1 e1:=by
 refine⟨λi j=>?_,λi j h0=>?_⟩
 .by_cases him:i∈c.I v
  .obtain⟨o,u⟩:=JC.mem_I.1 him;have D:=h1 i him;rw[(Yc (hok.asc i o) u).1,Jtp (hok.asc i o) u,Jfx (hok.asc i o) hz2,hz3,Uq,if_neg om,hS.node hok him D.1 D.2.1,D.2.2]
  have C:v ∉ c.vars i:=λG=>him (JC.mem_I.2 ⟨j,G⟩);rw[Jqh C,(h2 i j him).1,hP.path i j,Jfx (hok.asc i j) hz2]
 by_cases him:i∈c.I v
 .obtain⟨o,u⟩:=JC.mem_I.1 him;have D:=h1 i him;rw[(Yc (hok.asc i o) u).1,h3 i him];exact⟨D.2.1,(hS.lt i him).2⟩
 have C:v ∉ c.vars i:=λG=>him (JC.mem_I.2 ⟨j,G⟩);rw[Jqh C]at h0 ⊢;rw[(h2 i j him).1,(h2 i j him).2];exact hP.rng i j h0
end
open Go.RowKit Pl Go.Wk
structure ES where
 t: Bool
 z:Row
 p:Nat->Nat
 f:Nat->Nat->Nat
 h:Nat->Nat->Nat
 l:List Row
theorem Jxg{α:Type}(f:Nat->α)(i:Nat): upd f i (f i)=f:=by
 funext k;unfold upd;split
 repeat grind
theorem Xjb{c:JC}{Y:List Row->World->Prop}{NY:Nat->Prop}(hok:JOk c)(hY:YC c Y NY)(hcap:∀ l:List Row,Lt [] l->(∀ x∈l,c.Ans x)->l.length<=65536): ∀(k v:Nat) (z:Row) (p e:Nat->Nat) (f h:Nat->Nat->Nat) (l:List Row) (w:World),v+k=c.n ->
  Cfg c Y w z (λi=>lv (c.vars i) v) p e f h l->Pth c v z p e->Lt [] l->(∀ x∈l,c.Ans x)->(∀ x∈l,∀ z',c.Ans z'->z'.take v=z.take v->Jw x z' []<0) ->
  Ret Tryz.prog 224 [.pointer (some ⟨c.J,0,none⟩),.int .i64 (v:Int)] w (Qyh c Y v z p e f h l w):=by
 intro k;induction k with
 | zero=>
  intro v z p e f h l w dg H hP hl bw bv;have:v=c.n:=om
  subst this;exact Qtz hok hY hcap H hP hl bw bv
 | succ k ih=>
 intro v z p e f h l w dg H hP hl bw bv;have hv:v<c.n:=om
 have dd:v<z.length:=by rw[H.zl];exact hv
 have e8:=hok.n32;obtain⟨B,cc,dj,d0⟩:=H.env.at_;obtain⟨B2,ag,c6,hlist⟩:=H.env.lists v hv;have d4:(c.I v).length<=32:=nL (c.len_I v) hok.m32;have ae:0<(c.I v).length:=by
  obtain⟨i,h1,h2⟩:=hok.cov v hv;exact List.length_pos_of_mem (JC.mem_I.2 ⟨h1,h2⟩)
 have o:(c.I v).getD 0 0∈c.I v:=getD_mem' 0 _ ae;have b3:c.rowv=.slice c.Ra c.n c.n:=rfl;have a2:∀ k,c.NI k->c.N k:=hok.sub;refine enE Tryz.func224 Tryz.ntmps224 ?_;refine ρ ?_;obtain⟨st,hJ⟩:=H.jb;rw[b3,dj]at hJ;refine ld (hJ.at (i:=0) rfl) ?_;refine cfR ?_ ?_
 .exact Jlz om
 refine ldR (hJ.at (i:=1) rfl) ?_;refine ixR v d0.here hv ?_;refine ρ ?_;have cz:w.cell? (adr B v)=some (.slice B2 (c.I v).length ag):=d0.here.cell (by simp[hv,c6]);refine ld cz ?_;clear hJ cz;refine ρ ?_;refine Jo (fun (q:Nat) (S:LS)=>[(0,.pointer (some ⟨c.J,0,none⟩)),(1,.int .i64 (v:Int)),(5,.slice B2 (c.I v).length ag),(42,.slice B2 (c.I v).length ag),(43,.int .i64 ((c.I v).length:Int)),(44,.int .i64 (q:Int))])
  (λq S w'=>q<=(c.I v).length/\GrN c.N w w'/\Cfg c Y w' z S.L S.p S.e S.f S.h l /\
   (∀ i∈(c.I v).take q,S.L i=lv (c.vars i) v+1/\S.p i<S.e i/\S.e i<=(pfx (c.F.rs i) (lv (c.vars i) v+1)).length/\(∀ a,a<(pfx (c.F.rs i) (lv (c.vars i) v+1)).length->(((pfx (c.F.rs i) (lv (c.vars i) v+1)).getD a []).take (lv (c.vars i) v)=(pmR (c.vars i) z).take (lv (c.vars i) v)↔S.p i<=a/\a<S.e i))/\S.f i=upd (f i) (lv (c.vars i) v) (p i)/\S.h i=upd (h i) (lv (c.vars i) v) (e i)) /\
   (∀ i,i<c.m->i ∉ (c.I v).take q->S.L i=lv (c.vars i) v/\S.p i=p i/\S.e i=e i/\S.f i=f i/\S.h i=h i)) (λq _=>(c.I v).length-q) 0 ⟨λi=>lv (c.vars i) v,p,e,f,h⟩ sB
  ⟨Nat.zero_le _,GrN.refl _ _,H,λi hi=>by simp at hi,λi _ _=>⟨rfl,rfl,rfl,rfl,rfl⟩⟩ ?_
 rintro q S w1 ⟨hq,av,H1,U,aa⟩;refine ciR (λh1=>?_) (λh1=>?_)
 .have lq:q<(c.I v).length:=by have:=oT h1;omega
  clear h1;have d2:=hlist w1 av;refine ixR q d2 lq ?_;refine ldR (d2.cell (Jxq lq)) ?_;refine ρ ?_;obtain⟨i,hi⟩:∃ i,i=(c.I v).getD q 0:=⟨_,rfl⟩;rw[<-hi];have O:i∈c.I v:=by rw[hi];exact getD_mem' 0 _ lq
  obtain⟨D,ch⟩:=JC.mem_I.1 O;have a5:(c.I v).take (q+1)=(c.I v).take q++[i]:=by rw[Qt 0 lq,hi]
  have bs:i ∉ (c.I v).take q:=λhm=>by
   have h1:((c.I v).take (q+1)).Nodup:=(c.nodup_I v).sublist (List.take_sublist _ _);rw[a5,List.nodup_append]at h1;exact h1.2.2 _ hm _ (List.mem_singleton.2 rfl) rfl
  obtain⟨e1,e2,e3,e4,e5⟩:=aa i D bs;obtain⟨d8,az⟩:=H1.its i D;rw[e1,e2,e3,e4,e5]at az;have dm:Off (λk=>k=c.F.G i) w1 (λu=>TriA u (c.F.A i) (c.F.d i) (c.F.rs i)):=(H1.env.tri i D).mono λj _ ej=>a2 j (.inr (.inl ⟨i,D,ej⟩));have ea:=hok.big i D;refine cl (Qrv az dm (hok.lvd O) (hok.d32 i D) (hP.rng i D) (hok.ne i D) (Gt (hok.srt i D)) om (hok.len i D)) ?_;rintro u w2 ⟨rfl,a6,lo,dk,h2,h3,h4,dx⟩;have H2:=H1.it hok hY D a6 dx;refine ρ ?_;refine Jl (q+1) (S.upd i (lv (c.vars i) v+1) lo dk (upd (f i) (lv (c.vars i) v) (p i)) (upd (h i) (lv (c.vars i) v) (e i))) sO ⟨om,av.trans (a6.mono λj _ ej=>a2 j (.inr (.inl ⟨i,D,ej⟩))),H2,λj hj=>?_,λj hj ac=>?_⟩ om
  .rw[a5,List.mem_append,List.mem_singleton]at hj;by_cases ej:j=i
   .subst ej;simp only[LS.upd,Ju];rw[<-hP.path j D];exact⟨trivial,h2,h3,h4,trivial,trivial⟩
   simp only[LS.upd,Jm _ _ ej];exact U j (hj.resolve_right ej)
  rw[a5,List.mem_append,List.mem_singleton,not_or]at ac;simp only[LS.upd,Jm _ _ ac.2];exact aa j hj ac.1
 have eq:q=(c.I v).length:=by have:=oF h1;omega
 clear h1;rw[eq,List.take_of_length_le (nR _)]at U aa;have hS:Sib c v z S.p S.e:=⟨λi hi=>⟨(U i hi).2.1,(U i hi).2.2.1⟩,λi hi=>(U i hi).2.2.2.1⟩;obtain⟨lo,ce⟩:∃ lo,lo=S.p:=⟨_,rfl⟩;have a4:Sib c v z lo S.e:=by rw[ce];exact hS
 have a1:∀(f' h':Nat->Nat->Nat),∀ i∈c.I v,∀ a,c.F.val ⟨S.L,lo,S.e,f',h'⟩ i a=c.vl v i a:=λf' h' i hi a=>by
  unfold Fix.val JC.vl;simp only;rw[(U i hi).1,Nat.add_sub_cancel]
 have b7:∀(f' h':Nat->Nat->Nat),OnS c.F ⟨S.L,lo,S.e,f',h'⟩ (c.I v):=λf' h'=>by
  refine⟨λi hi=>?_,λi hi=>?_,λi hi a b h1 h2 h3=>?_,λi hi j hj e'=>hok.inj i j (JC.mem_I.1 hi).1 (JC.mem_I.1 hj).1 e',d4⟩
  .simp only;rw[(U i hi).1];exact⟨om,hok.lvd hi,hok.d32 i (JC.mem_I.1 hi).1⟩
  .simp only;rw[(U i hi).1,Nat.add_sub_cancel,Jzk];have h1:=(U i hi).2.2.1;have h2:=Jqs ((c.F.rs i).map (List.take (lv (c.vars i) v+1)));rw[List.length_map]at h2;have h3:(pfx (c.F.rs i) (lv (c.vars i) v+1)).length<=(c.F.rs i).length:=h2;have h4:=hok.big i (JC.mem_I.1 hi).1;exact⟨h1,om⟩
  rw[a1 f' h' i hi,a1 f' h' i hi];exact a4.srt hok hi h1 h2 h3
 have a8:∀ k,NG c.F (c.I v) c.J k->c.N k:=λk hk=>by
  rcases hk with hk|⟨i,hi,hk⟩
  .exact a2 k (.inl hk)
  exact a2 k (.inr (.inl ⟨i,(JC.mem_I.1 hi).1,hk⟩))
 have eb:∀ k,NG c.F (c.I v) c.J k->c.NI k:=λk hk=>by
  rcases hk with hk|⟨i,hi,hk⟩
  .exact .inl hk
  exact .inr (.inl ⟨i,(JC.mem_I.1 hi).1,hk⟩)
 have b6:∀ i,i<c.m->S.L i=lv (c.vars i) (v+1):=λi hi=>by
  by_cases O:i∈c.I v
  .rw[(U i O).1,(Yc (hok.asc i hi) (JC.mem_I.1 O).2).1]
  rw[(aa i hi O).1,Jqh (λh'=>O (JC.mem_I.2 ⟨hi,h'⟩))]
 have dl:∀ i∈c.I v,S.e i<=1000000:=λi hi=>((b7 S.f S.h).rng i hi).2;have cj:∀ i∈c.I v,c.F.G i≠c.J:=λi hi=>hok.gj i (JC.mem_I.1 hi).1;have ao:∀ y,c.Ans y->y.take v=z.take v->∀ i∈c.I v,∃ a,lo i<=a/\a<S.e i/\c.vl v i a=y.getD v V0:=λy hy ht i hi=>a4.ans hok hy ht hi;have ai:∀(f' h':Nat->Nat->Nat) y,c.Ans y->y.take v=z.take v->Cmn c.F ⟨S.L,lo,S.e,f',h'⟩ (c.I v) (y.getD v V0):=λf' h' y hy ht i hi=>by
  obtain⟨a,h1,h2,h3⟩:=ao y hy ht i hi;exact⟨a,h1,h2,by rw[a1 f' h' i hi];exact h3⟩
 refine clR (Qjs (F:=c.F) (V':=⟨S.L,lo,S.e,S.f,S.h⟩) (I:=c.I v) (J:=c.J) (p:=lo) (jr:=c.rowv) (ja:=c.ja) (yv:=c.yv) (B:=B2) (c:=ag) (b7 _ _) ae (c.nodup_I v) (λi hi=>by rw[ce];exact H1.its i (JC.mem_I.1 hi).1) H1.jb cj (λi hi=>(H1.env.tri i (JC.mem_I.1 hi).1).mono λk _ hk=>a8 k hk) ((hlist.gr av).mono λk _ hk=>a8 k hk)
  (λi hi=>⟨nR _,(a4.lt i hi).1⟩) (λi hi a h1 h2=>absurd h2 (by simp only at h1;omega))) ?_
 rintro u w2 ⟨a6,ax,p2,t,rfl,ay,cb,ht,hf⟩;have H2:=H1.mt hok hY a6 ax (p':=p2) ay;have c8:∀ f' h',c.F.val ⟨S.L,lo,S.e,f',h'⟩ ((c.I v).getD 0 0) (lo ((c.I v).getD 0 0))=c.vl v ((c.I v).getD 0 0) (lo ((c.I v).getD 0 0)):=λf' h'=>a1 f' h' _ o _;have bf:∀ y,c.Ans y->y.take v=z.take v->cmpV (c.vl v ((c.I v).getD 0 0) (lo ((c.I v).getD 0 0))) (y.getD v V0)<=0:=λy hy ht=>by
  obtain⟨a,h1,h2,h3⟩:=ao y hy ht _ o;rw[<-h3];by_cases e:a=lo ((c.I v).getD 0 0)
  .rw[e,Vd];omega
  have:=a4.srt hok o (nR _) (show lo ((c.I v).getD 0 0)<a by omega) h2;omega
 refine ρ ?_;refine Qy (fun (s:ES)=>[(0,.pointer (some ⟨c.J,0,none⟩)),(1,.int .i64 (v:Int)),(5,.slice B2 (c.I v).length ag),(8,.bool true),(9,.bool s.t)])
  (λs w'=>GrN c.N w w'/\Cfg c Y w' s.z S.L s.p S.e s.f s.h s.l/\s.z.take v=z.take v/\(∀ i,i<c.m->i ∉ c.I v->s.p i=p i)/\(∀ i,i<c.m->∀ k,k<S.L i->s.f i k=S.f i k/\s.h i k=S.h i k)/\Lt [] s.l/\(∀ x∈s.l,c.Ans x) /\
   (s.t=true->∃ x,(∀ i∈c.I v,lo i<=s.p i/\s.p i<S.e i/\c.vl v i (s.p i)=x)/\∀ y,y∈s.l↔y∈l∨(c.Ans y/\y.take v=z.take v/\cmpV (y.getD v V0) x<0)) /\
   (s.t=false->∀ y,y∈s.l↔y∈l∨(c.Ans y/\y.take v=z.take v))) (λs=>if s.t then S.e ((c.I v).getD 0 0)-s.p ((c.I v).getD 0 0) else 0) ⟨t,z,λi=>if i∈c.I v then p2 i else S.p i,S.f,S.h,l⟩ sB
  ⟨av.trans (a6.mono λk _ hk=>a8 k hk),H2,rfl,λi hi a3=>?_,λi hi k hk=>⟨rfl,rfl⟩,hl,bw,λe=>?_,λe y=>?_⟩ ?_
 .simp only[if_neg a3];exact(aa i hi a3).2.1
 .obtain⟨x,ab,bp,dc⟩:=ht e;refine⟨x,λi hi=>?_,λy=>⟨.inl,λhy=>?_⟩⟩
  .simp only[if_pos hi];refine⟨(cb i hi).1,(ab i hi).1,?_⟩;rw[<-a1 S.f S.h i hi];exact(ab i hi).2
  rcases hy with hy|⟨h1,h2,h3⟩
  .exact hy
  exfalso
  have h4:=dc _ (ai S.f S.h y h1 h2) (by rw[c8];exact bf y h1 h2);have:=cmp_V.anti x (y.getD v V0);omega
 .refine⟨.inl,λhy=>?_⟩;rcases hy with hy|⟨h1,h2⟩
  .exact hy
  exact absurd (show cmpV _ _<=0 by rw[c8];exact bf y h1 h2) (hf e _ (ai S.f S.h y h1 h2))
 clear ay cb ht hf H2 ax a6 H1 av;rintro s w2 ⟨a6,H2,c5,b4,c0,be,bh,c9,cx⟩;refine ciR (λh1=>?_) (λh1=>?_)
 .obtain⟨x,ab,bp⟩:=c9 h1;have a7:=ab _ o;have e7:=a7.1;have e6:=a7.2.1;obtain⟨ec,ax⟩:=H2.jb;rw[b3]at ax;refine ρ ?_;refine drN (λk=>c.rowv.ownBlock=some k) 14 (scq 14 [8,13]) kr ?_;have b2:Ext w2 w2.drew:=(Ext.refl w2).drew;have dt:=ax.ext b2;have H3:=H2.ext hY b2;have d6:=(hlist.gr a6).ext b2;obtain⟨ee,dw⟩:=H3.its _ (JC.mem_I.1 o).1;refine ρn ?_;refine nld (Jr (dt.at (i:=0) rfl) (λe=>H2.rowJ e rfl)) ?_;refine ρn ?_;refine nix 0 d6.here ae ?_;refine ρn ?_;refine nld (λw' hg=>(d6 w' (hg.mono λk _ ek=>a2 k (.inr (.inr ek)))).cell (Jxq ae)) ?_;refine ρn ?_;refine nop ?_;refine cl (Jhm dw (H3.env.tri _ (JC.mem_I.1 o).1).here (by rw[(U _ o).1];exact hok.lvd o) (hok.d32 _ (JC.mem_I.1 o).1) (λ_=>((b7 s.f s.h).rng _ o).1)) ?_;rintro u w4 ⟨bo,vv,rfl,df⟩;have de:vv=x:=by
   rw[df ⟨by rw[(U _ o).1];omega,a7.2.1⟩,<-a7.2.2,JC.vl,(U _ o).1,Nat.add_sub_cancel]
  subst de;refine ρ ?_;refine Ja (GrN.ext bo) ?_;have H4:=H3.ext hY bo;have an:w4.ownsRow c.base 147 3 (.slice c.Ra c.n c.n) c.n (Jp s.z):=by
   have:=H4.row;rw[Xl,H4.zl,b3]at this;exact this
  refine ρn ?_;refine Yp 3 v (Rd.own an) hv ?_;refine ρn ?_;refine nop ?_;refine Jkr (cs:=vv.cells) an hv ?_ (V.one _);intro w5 br cp;refine ω5 ?_;refine Ja (GrN.by cp λk ek=>ek) ?_;refine ρn ?_;have bc:v<s.z.length:=by rw[H2.zl];exact hv
  rw[<-Jkz s.z v vv bc]at br;have ar:w4.grownBy w5 c.rowv.ownBlock:=cp;have au:GrN c.NI w4 w5:=GrN.by ar λk ek=>.inr (.inr ek)
  obtain⟨z2,ba⟩:∃ z2,z2=s.z.set v vv:=⟨_,rfl⟩;rw[<-ba]at br;have am:z2.length=c.n:=by rw[ba,List.length_set];exact H2.zl
  have ah:z2.take v=z.take v:=by rw[ba,Qff];exact c5
  have ak:z2.getD v V0=vv:=by rw[ba];exact Qfh vv bc
  have H5:Cfg c Y w5 z2 S.L s.p S.e s.f s.h s.l:=by
   refine⟨H4.env.gr (au.mono λk _ hk=>a2 k hk),λi hi=>?_,by rw[Xl,am,b3];exact br,am,?_,hY.keep _ _ _ H4.y au⟩
   .obtain⟨st,h1⟩:=H4.its i hi;exact⟨st,h1.grown ar (λe=>H4.rowG hi e.symm rfl)⟩
   obtain⟨st,h1⟩:=H4.jb;exact⟨st,h1.grown ar (λe=>H4.rowJ e.symm rfl)⟩
  have bi:GrN c.N w2 w5:=(GrN.ext (b2.trans bo)).trans (au.mono λk _ hk=>a2 k hk);refine ρ ?_;have dn:Pth c (v+1) z2 s.p S.e:=Pth.step hok hP a4 dd ab ah ak (λi hi a3=>⟨b4 i hi a3,(aa i hi a3).2.2.1⟩) (λi _=>rfl);have a5:∀ y:Row,c.Ans y->(y.take (v+1)=z2.take (v+1)↔y.take v=z.take v/\y.getD v V0=vv):=λy hy=>by
   have da:v<y.length:=by rw[hy.1];exact hv
   have bm:v<z2.length:=by rw[am];exact hv
   constructor
   .intro h;have h5:=Jpx h (Nat.le_succ v);refine⟨h5.trans ah,?_⟩;rw[<-ak];exact Jpz h (Nat.lt_succ_self v)
   rintro⟨h5,h6⟩;exact Qcz (h5.trans ah.symm) da bm (h6.trans ak.symm)
  refine cl (ih (v+1) z2 s.p S.e s.f s.h s.l w5 om (H5.congr λi hi=>⟨(b6 i hi).symm,rfl,rfl,rfl,rfl⟩) dn be bh (λy hy z' bn ht=>?_)) ?_
  .obtain⟨h5,h6⟩:=(a5 z' bn).1 ht;rcases(bp y).1 hy with h7|⟨h7,h8,h9⟩
   .exact bv y h7 z' bn h5
   exact Qkl v y z' (h8.trans h5.symm) (by rw[h7.1];exact hv) (by rw[bn.1];exact hv) (by rw[h6];exact h9)
  rintro u w6 ⟨rfl,co,z6,f6,h6,l6,H6,d9,cw,bd,cg⟩;have d7:Cfg c Y w6 z6 S.L s.p S.e f6 h6 l6:=H6.congr λi hi=>⟨b6 i hi,rfl,rfl,rfl,rfl⟩;have bb:z6.take v=z.take v:=(Jpx d9 (Nat.le_succ v)).trans ah;have bg:∀ y∈l6,c.Ans y:=λy hy=>by
   rcases(cg y).1 hy with h7|h7
   .exact bh y h7
   exact h7.1
  have ap:∀ y,y∈l6↔y∈l∨(c.Ans y/\y.take v=z.take v/\cmpV (y.getD v V0) vv<=0):=λy=>by
   rw[cg,bp];constructor
   .rintro((h7|⟨h7,h8,h9⟩)|⟨h7,h8⟩)
    .exact .inl h7
    .exact .inr ⟨h7,h8,om⟩
    obtain⟨h9,C⟩:=(a5 y h7).1 h8;exact .inr ⟨h7,h9,by rw[C,Vd];omega⟩
   rintro(h7|⟨h7,h8,h9⟩)
   .exact .inl (.inl h7)
   by_cases e:cmpV (y.getD v V0) vv=0
   .exact .inr ⟨h7,(a5 y h7).2 ⟨h8,cmp_V.zero _ _ e⟩⟩
   exact .inl (.inr ⟨h7,h8,om⟩)
  have bj:∀ i,i<c.m->∀ k,k<S.L i->f6 i k=S.f i k/\h6 i k=S.h i k:=λi hi k hk=>by
   have h7:=cw i hi k (by rw[<-b6 i hi];exact hk);have h8:=c0 i hi k hk;exact⟨h7.1.trans h8.1,h7.2.trans h8.2⟩
  refine ρ ?_;obtain⟨ed,dv⟩:=d7.its _ (JC.mem_I.1 o).1;have d5:=hlist.gr (a6.trans (bi.trans co));refine ix 0 d5.here ae ?_;refine ldR (d5.here.cell (Jxq ae)) ?_;refine clR (Qrw dv (by rw[(U _ o).1];omega) a7.2.1 (dl _ o)) ?_;rintro u w7 ⟨rfl,cn,du⟩;have cm:GrN c.N w6 w7:=cn.mono λk _ ek=>a2 k (.inr (.inl ⟨_,(JC.mem_I.1 o).1,ek⟩));have H7:=d7.it hok hY (JC.mem_I.1 o).1 cn du;have aj:Cfg c Y w7 z6 S.L (upd s.p ((c.I v).getD 0 0) (s.p ((c.I v).getD 0 0)+1)) S.e f6 h6 l6:=by
   rw[Jxg,Jxg,Jxg,Jxg]at H7;exact H7
  obtain⟨p7,c4⟩:∃ p7,p7=upd s.p ((c.I v).getD 0 0) (s.p ((c.I v).getD 0 0)+1):=⟨_,rfl⟩;rw[<-c4]at aj;have bl:p7 ((c.I v).getD 0 0)=s.p ((c.I v).getD 0 0)+1:=by rw[c4,Ju]
  have b1:∀ i,i≠(c.I v).getD 0 0->p7 i=s.p i:=λi hi=>by rw[c4,Jm _ _ hi]
  have aq:GrN c.N w w7:=(a6.trans bi).trans (co.trans cm);have a9:∀ y,c.Ans y->y.take v=z.take v->¬ cmpV (y.getD v V0) vv<=0->∃ a,s.p ((c.I v).getD 0 0)+1<=a/\a<S.e ((c.I v).getD 0 0)/\c.vl v ((c.I v).getD 0 0) a=y.getD v V0:=λy hy ht ad=>by
   obtain⟨a,h7,h8,h9⟩:=ao y hy ht _ o;refine⟨a,?_,h8,h9⟩;rcases Nat.lt_trichotomy a (s.p ((c.I v).getD 0 0)) with C|C|C
   .have:=a4.srt hok o h7 C a7.2.1;rw[a7.2.2,h9]at this;omega
   .rw[C,a7.2.2]at h9;rw[<-h9,Vd]at ad;omega
   omega
  refine ρ ?_;refine ki 59 (λh5=>?_) (λh5=>?_)
  .have bu:s.p ((c.I v).getD 0 0)+1<S.e ((c.I v).getD 0 0):=oT h5;clear h5;have cd:cmpV vv (c.vl v ((c.I v).getD 0 0) (s.p ((c.I v).getD 0 0)+1))<0:=by
    have:=a4.srt hok o a7.1 (Nat.lt_succ_self _) bu;rw[a7.2.2]at this;exact this
   have c7:c.F.val ⟨S.L,lo,S.e,f6,h6⟩ ((c.I v).getD 0 0) (p7 ((c.I v).getD 0 0))=c.vl v ((c.I v).getD 0 0) (s.p ((c.I v).getD 0 0)+1):=by rw[bl];exact a1 f6 h6 _ o _
   refine clR (Qjs (F:=c.F) (V':=⟨S.L,lo,S.e,f6,h6⟩) (I:=c.I v) (J:=c.J) (p:=p7) (jr:=c.rowv) (ja:=c.ja) (yv:=c.yv) (B:=B2) (c:=ag) (b7 _ _) ae (c.nodup_I v) (λi hi=>aj.its i (JC.mem_I.1 hi).1) aj.jb cj (λi hi=>(aj.env.tri i (JC.mem_I.1 hi).1).mono λk _ hk=>a8 k hk) ((hlist.gr aq).mono λk _ hk=>a8 k hk)
    (λi hi=>?_) (λi hi a h7 h8=>?_)) ?_
   .have h9:=ab i hi;by_cases e:i=(c.I v).getD 0 0
    .rw[e,bl];simp only;omega
    rw[b1 i e];simp only;omega
   .rw[c7,a1 f6 h6 i hi];have h9:=ab i hi;simp only at h7;by_cases e:i=(c.I v).getD 0 0
    .rw[e]at h7 h8 ⊢;rw[bl]at h8;exact a4.srt hok o h7 h8 bu
    rw[b1 i e]at h8;have C:=a4.srt hok hi h7 h8 h9.2.1;rw[h9.2.2]at C;exact cmp_V.lt_trans C cd
   rintro u w8 ⟨ck,dq,p8,t8,rfl,c2,ca,bq,cy⟩;have H8:=aj.mt hok hY ck dq (p':=p8) c2;rw[c7]at bq cy;refine ρ ?_;have bt:t8=true->s.p ((c.I v).getD 0 0)<p8 ((c.I v).getD 0 0)/\p8 ((c.I v).getD 0 0)<S.e ((c.I v).getD 0 0):=λe=>by
    obtain⟨x',h7,h8,h9⟩:=bq e;have C:=h7 _ o;rw[a1 f6 h6 _ o]at C;refine⟨?_,C.1⟩;rcases Nat.lt_or_ge (s.p ((c.I v).getD 0 0)) (p8 ((c.I v).getD 0 0)) with Z|Z
    .exact Z
    exfalso
    have af:=(ca _ o).1;simp only at af;have c3:cmpV x' (c.vl v ((c.I v).getD 0 0) (s.p ((c.I v).getD 0 0)+1))<0:=by
     rw[<-C.2];exact a4.srt hok o af om bu
    have:=cmp_V.anti x' (c.vl v ((c.I v).getD 0 0) (s.p ((c.I v).getD 0 0)+1));omega
   refine Qw ⟨t8,z6,λi=>if i∈c.I v then p8 i else p7 i,f6,h6,l6⟩ sB
    ⟨aq.trans (ck.mono λk _ hk=>a8 k hk),H8,bb,λi hi a3=>?_,bj,bd,bg,λe=>?_,λe y=>?_⟩ ?_
   .simp only[if_neg a3];rw[b1 i (λe=>a3 (e ▸ o))];exact b4 i hi a3
   .obtain⟨x',h7,h8,h9⟩:=bq e;refine⟨x',λi hi=>?_,λy=>?_⟩
    .simp only[if_pos hi];refine⟨(ca i hi).1,(h7 i hi).1,?_⟩;rw[<-a1 f6 h6 i hi];exact(h7 i hi).2
    rw[ap];have db:cmpV vv x'<0:=cmp_V.lt_le cd h8;constructor
    .rintro(C|⟨C,Z,af⟩)
     .exact .inl C
     exact .inr ⟨C,Z,cmp_V.le_lt af db⟩
    rintro(C|⟨C,Z,af⟩)
    .exact .inl C
    refine .inr ⟨C,Z,Classical.byContradiction λad=>?_⟩;obtain⟨a,c3,b9,b8⟩:=a9 y C Z ad;have dz:cmpV (c.vl v ((c.I v).getD 0 0) (s.p ((c.I v).getD 0 0)+1)) (y.getD v V0)<=0:=by
     rw[<-b8];by_cases e:a=s.p ((c.I v).getD 0 0)+1
     .rw[e,Vd];omega
     have:=a4.srt hok o (show lo ((c.I v).getD 0 0)<=s.p ((c.I v).getD 0 0)+1 by omega) (show s.p ((c.I v).getD 0 0)+1<a by omega) b9;omega
    have eh:=h9 _ (ai f6 h6 y C Z) dz;have:=cmp_V.anti x' (y.getD v V0);omega
   .rw[ap];constructor
    .rintro(C|⟨C,Z,af⟩)
     .exact .inl C
     exact .inr ⟨C,Z⟩
    rintro(C|⟨C,Z⟩)
    .exact .inl C
    refine .inr ⟨C,Z,Classical.byContradiction λad=>?_⟩;obtain⟨a,c3,b9,b8⟩:=a9 y C Z ad;refine cy e _ (ai f6 h6 y C Z) ?_;rw[<-b8];by_cases e:a=s.p ((c.I v).getD 0 0)+1
    .rw[e,Vd];omega
    have:=a4.srt hok o (show lo ((c.I v).getD 0 0)<=s.p ((c.I v).getD 0 0)+1 by omega) (show s.p ((c.I v).getD 0 0)+1<a by omega) b9;omega
   simp only[h1,if_true,if_pos o];by_cases e:t8=true
   .have:=bt e;rw[if_pos e];omega
   rw[if_neg e];omega
  have ef:¬ s.p ((c.I v).getD 0 0)+1<S.e ((c.I v).getD 0 0):=oF h5;clear h5;refine ρ ?_;refine Qw ⟨false,z6,p7,f6,h6,l6⟩ sB
   ⟨aq,aj,bb,λi hi a3=>?_,bj,bd,bg,λe=>(by cases e),λ_ y=>?_⟩ ?_
  .simp only;rw[b1 i (λe=>a3 (e ▸ o))];exact b4 i hi a3
  .rw[ap];constructor
   .rintro(C|⟨C,Z,af⟩)
    .exact .inl C
    exact .inr ⟨C,Z⟩
   rintro(C|⟨C,Z⟩)
   .exact .inl C
   refine .inr ⟨C,Z,Classical.byContradiction λad=>?_⟩;obtain⟨a,c3,b9,b8⟩:=a9 y C Z ad;omega
  simp only[h1,if_true,Bool.false_eq_true,if_false];omega
 have cv:=cx h1;clear c9 cx;refine ρ ?_;refine Jo (fun (q:Nat) (R:LS)=>[(0,.pointer (some ⟨c.J,0,none⟩)),(1,.int .i64 (v:Int)),(8,.bool true),(83,.slice B2 (c.I v).length ag),(84,.int .i64 ((c.I v).length:Int)),(85,.int .i64 (q:Int))])
  (λq R w'=>q<=(c.I v).length/\GrN c.N w w'/\Cfg c Y w' s.z R.L R.p R.e s.f s.h s.l /\
   (∀ i∈(c.I v).take q,R.L i=lv (c.vars i) v/\R.p i=p i/\R.e i=e i) /\
   (∀ i,i<c.m->i ∉ (c.I v).take q->R.L i=S.L i/\R.p i=s.p i/\R.e i=S.e i)) (λq _=>(c.I v).length-q) 0 ⟨S.L,s.p,S.e,s.f,s.h⟩ sB
  ⟨Nat.zero_le _,a6,H2,λi hi=>by simp at hi,λi _ _=>⟨rfl,rfl,rfl⟩⟩ ?_
 rintro q R w3 ⟨hq,bz,H3,c1,b5⟩;refine ciR (λh2=>?_) (λh2=>?_)
 .have lq:q<(c.I v).length:=by have:=oT h2;omega
  clear h2;have d1:=hlist w3 bz;refine ixR q d1 lq ?_;refine ldR (d1.cell (Jxq lq)) ?_;refine ρ ?_;obtain⟨i,hi⟩:∃ i,i=(c.I v).getD q 0:=⟨_,rfl⟩;rw[<-hi];have O:i∈c.I v:=by rw[hi];exact getD_mem' 0 _ lq
  obtain⟨D,ch⟩:=JC.mem_I.1 O;have a5:(c.I v).take (q+1)=(c.I v).take q++[i]:=by rw[Qt 0 lq,hi]
  have bs:i ∉ (c.I v).take q:=λhm=>by
   have h1:((c.I v).take (q+1)).Nodup:=(c.nodup_I v).sublist (List.take_sublist _ _);rw[a5,List.nodup_append]at h1;exact h1.2.2 _ hm _ (List.mem_singleton.2 rfl) rfl
  obtain⟨e1,e2,e3⟩:=b5 i D bs;obtain⟨d8,az⟩:=H3.its i D;rw[e1,(U i O).1]at az;have eg:=hok.lvd O;have e9:=hok.d32 i D;refine cl (Qrr az om) ?_;rintro u w4 ⟨cq,d3⟩;have cr:=c0 i D (lv (c.vars i) v) (by rw[(U i O).1];omega);have di:S.f i (lv (c.vars i) v)=p i:=by rw[(U i O).2.2.2.2.1,Ju]
  have dh:S.h i (lv (c.vars i) v)=e i:=by rw[(U i O).2.2.2.2.2,Ju]
  rw[cr.1,cr.2,di,dh]at d3;have H4:=H3.it hok hY D cq d3;have e0:Cfg c Y w4 s.z (upd R.L i (lv (c.vars i) v)) (upd R.p i (p i)) (upd R.e i (e i)) s.f s.h s.l:=by
   rw[Jxg,Jxg]at H4;exact H4
  refine ρ ?_;refine Jl (q+1) ⟨upd R.L i (lv (c.vars i) v),upd R.p i (p i),upd R.e i (e i),s.f,s.h⟩ sO ⟨om,bz.trans (cq.mono λj _ ej=>a2 j (.inr (.inl ⟨i,D,ej⟩))),e0,λj hj=>?_,λj hj ac=>?_⟩ om
  .rw[a5,List.mem_append,List.mem_singleton]at hj;by_cases ej:j=i
   .subst ej;simp only[Ju];exact⟨trivial,trivial,trivial⟩
   simp only[Jm _ _ ej];exact c1 j (hj.resolve_right ej)
  rw[a5,List.mem_append,List.mem_singleton,not_or]at ac;simp only[Jm _ _ ac.2];exact b5 j hj ac.1
 have eq:q=(c.I v).length:=by have:=oF h2;omega
 rw[eq,List.take_of_length_le (nR _)]at c1 b5;have H5:Cfg c Y w3 s.z (λi=>lv (c.vars i) v) p e s.f s.h s.l:=H3.congr λi hi=>by
  by_cases O:i∈c.I v
  .have:=c1 i O;exact⟨this.1.symm,this.2.1.symm,this.2.2.symm,rfl,rfl⟩
  have h5:=b5 i hi O;have h6:=aa i hi O;exact⟨(h5.1.trans h6.1).symm,(h5.2.1.trans (b4 i hi O)).symm,(h5.2.2.trans h6.2.2.1).symm,rfl,rfl⟩
 refine ρ ?_;refine Jj ⟨rfl,bz,s.z,s.f,s.h,s.l,H5,c5,λi hi k hk=>?_,be,cv⟩;have h5:=c0 i hi k (by rw[b6 i hi];have:=Qjz (c.vars i) v;by_cases O:i∈c.I v;(rw[(Yc (hok.asc i hi) (JC.mem_I.1 O).2).1];omega);rw[Jqh (λh'=>O (JC.mem_I.2 ⟨hi,h'⟩))];exact hk);by_cases O:i∈c.I v
 .obtain⟨_,_,_,_,h8,h9⟩:=U i O;rw[h5.1,h5.2,h8,h9,Jm _ _ om,Jm _ _ om];exact⟨rfl,rfl⟩
 obtain⟨_,_,_,h8,h9⟩:=aa i hi O;rw[h5.1,h5.2,h8,h9];exact⟨rfl,rfl⟩
open Go.RowKit Pl Go.Wk
variable {g j k v:Nat}{p v4 va':Value}{w1 w2 w4:World}
theorem EIt: ElT Tryz.prog 314 320 1 8 (.pointer none):=⟨Tryz.underlying314,info_parts kr,rfl,by decide⟩
theorem EIts: ElT Tryz.prog 311 314 1 24 (.slice none 0 0):=⟨Tryz.underlying311,info_parts kr,rfl,by decide⟩
theorem Qwf(p:Option Addr)(w:World): (Instr.buildSlice 314 1 #[(0,.pointer p)]).run Tryz.prog w=.ok (.slice (some ⟨w.heap.size,0,none⟩) 1 1) (w.alloc (.cells [.pointer p].toArray 320)):=kr
theorem Xzs(A B:Option Addr)(n:Nat)(fid:FuncId)(first cap:Array Value)(w:World): (Instr.build 313 #[(0,.slice A n n),(1,.slice B n n),(3,.func (.func fid) first cap)]).run Tryz.prog w=.ok (.agg #[.slice A n n,.slice B n n,.int .i64 0,.func (.func fid) first cap]) w:=kr
structure RK where
 n: Nat
 vars:Nat->List Nat
 rs:Nat->List Row
 base:Nat
 J:Nat
 Ra:Option Addr
 Ba:Option Addr
 yv:Value
structure RS where
 G: Nat->Nat
 A:Nat->Option Addr
 lo:Nat->Nat
 hi:Nat->Nat
 va:Value
 vat:Nat->Value
def OB(K:RK)(S:RS)(k:Nat): Prop:=k=K.J∨(Value.slice K.Ra K.n K.n).ownBlock=some k∨(Value.slice K.Ba K.n K.n).ownBlock=some k∨S.va.ownBlock=some k∨∃ v,v<K.n/\(S.vat v).ownBlock=some k
structure RB(K:RK)(q:Nat)(S:RS)(cont:Nat->List Value)(alls:List Value)(w:World): Prop where
 jb:Blk w K.J 313 [.slice K.Ra K.n K.n,.slice K.Ba K.n K.n,.int .i64 0,K.yv]
 row:Xl w K.base (.slice K.Ra K.n K.n) (List.replicate K.n V0)
 at_:w.ownsRow K.base 314 1 (.slice K.Ba K.n K.n) K.n ((List.range K.n).map S.vat)
 lists:Fam w K.base 320 1 K.n S.vat (λv=>(cont v).length) cont
 all:w.ownsRow K.base 320 1 S.va alls.length alls
 alld:∀ v g,v<K.n->(S.vat v).ownBlock=some g->S.va.ownBlock≠some g
 its:∀ j,j<q->ItB w (S.G j) (S.A j) (K.vars j).length 0 0 0 (λ_=>0) (λ_=>0) 0
 tri:∀ j,j<q->Off (λk=>k<S.lo j∨S.hi j<=k) w (λu=>TriA u (S.A j) (K.vars j).length (K.rs j))
 iv:∀ j k,j<q->OB K S k->k<S.lo j∨S.hi j<=k
 gi:∀ i j,i<q->j<q->S.G i<S.lo j∨S.hi j<=S.G i
 ginj:∀ i j,i<j->j<q->S.G i<S.G j
 jlo:∀ j,j<q->K.J<S.lo j/\S.hi j<=w.heap.size
 jg:∀ j,j<q->K.J<S.G j
 bj:K.base<=K.J
section
variable {K:RK} {q:Nat} {S:RS} {cont:Nat->List Value} {alls:List Value} {w w':World}
theorem RB.ext(H:RB K q S cont alls w)(hx:Ext w w'): RB K q S cont alls w' :=
 ⟨H.jb.ext hx,Jk H.row hx,Jk H.at_ hx,H.lists.ext hx,Jk H.all hx,H.alld,λj i=>(H.its j i).ext hx,λj i=>(H.tri j i).ext hx,H.iv,H.gi,H.ginj,λj i=>⟨(H.jlo j i).1,Nat.le_trans (H.jlo j i).2 hx.size⟩,H.jg,H.bj⟩
theorem RB.oblt(H:RB K q S cont alls w)(h:OB K S k): k<w.heap.size:=by
 have i:∀ {base e sz m:Nat} {v:Value} {xs:List Value},w.ownsRow base e sz v m xs->∀ g,v.ownBlock=some g->g<w.heap.size:=λj g o=>by grind [Jy]
 rcases h with h|h|h|h|⟨v,hv,h⟩
 .rw[h];exact H.jb.lt
 .exact i H.row k h
 .exact i H.at_ k h
 .exact i H.all k h
 exact i (H.lists.own v hv) k h
theorem RB.iter(H:RB K q S cont alls w){A:Option Addr}(hx1:Ext w w1)(hT:Off (λk=>k<w.heap.size) w1 (λu=>TriA u A (K.vars q).length (K.rs q)))(hx2:Ext w1 w2)(hg:w1.heap.size<=g)(hI:ItB w2 g A (K.vars q).length 0 0 0 (λ_=>0) (λ_=>0) 0):
  RB K (q+1) { S with G:=upd S.G q g,A:=upd S.A q A,lo:=upd S.lo q w.heap.size,hi:=upd S.hi q w1.heap.size } cont alls w2:=by
 have J:=H.ext (hx1.trans hx2);have a2:=hI.lt;have D:∀ {j},j<q->j≠q:=λh e=>by omega
 have C:∀ {j},j<q+1->j<q∨j=q:=λh=>by omega
 have a1:=hx1.size;have Z:=hx2.size;refine⟨J.jb,J.row,J.at_,J.lists,J.all,J.alld,λj o=>?_,λj o=>?_,λj k o hk=>?_,λi j hi o=>?_,λi j O o=>?_,λj o=>?_,λj o=>?_,J.bj⟩
 .rcases C o with o|rfl
  .simp only[Jm _ _ (D o)];exact J.its j o
  repeat grind [Ju]
 .rcases C o with o|rfl
  .simp only[Jm _ _ (D o)];exact J.tri j o
  simp only[Ju];exact(hT.mono λk hk h=>by grind).ext hx2
 .have U:OB K S k:=hk;rcases C o with o|rfl
  .simp only[Jm _ _ (D o)];exact H.iv j k o U
  simp only[Ju];exact .inl (H.oblt U)
 .rcases C o with o|rfl
  .simp only[Jm _ _ (D o)];have h5:=(H.jlo j o).2;rcases C hi with hi|rfl
   .simp only[Jm _ _ (D hi)];exact H.gi i j hi o
   repeat grind [Ju]
  simp only[Ju];rcases C hi with hi|rfl
  .simp only[Jm _ _ (D hi)];exact .inl (H.its i hi).lt
  repeat grind [Ju]
 .rcases C o with o|rfl
  .simp only[Jm _ _ (D o),Jm _ _ (D (show i<q by omega))];exact H.ginj i j O o
  simp only[Ju,Jm _ _ (D O)];have:=(H.its i O).lt;omega
 .rcases C o with o|rfl
  .simp only[Jm _ _ (D o)];exact J.jlo j o
  simp only[Ju];exact⟨H.jb.lt,Z⟩
 rcases C o with o|rfl
 .simp only[Jm _ _ (D o)];exact J.jg j o
 simp only[Ju];have:=H.jb.lt;omega
theorem RB.trig(H:RB K q S cont alls w){N:Nat->Prop}(hg:GrN N w w')(hN:∀ k,k<w.heap.size->N k->OB K S k)(hj:j<q): Off (λk=>k<S.lo j∨S.hi j<=k) w' (λu=>TriA u (S.A j) (K.vars j).length (K.rs j)) :=
 (H.tri j hj).gr (hg.mono λk i h=>H.iv j k hj (hN k i h))
theorem RB.pushAll(H:RB K q S cont alls w)(ho:w'.ownsRow K.base 320 1 va' (alls.length+1) (alls++[p]))(hg:w.grownBy w' S.va.ownBlock)(hn:∀ g,va'.ownBlock=some g->S.va.ownBlock=some g∨w.heap.size<=g):
  RB K q { S with va:=va' } cont (alls++[p]) w':=by
 have u:GrN (λk=>S.va.ownBlock=some k) w w':=GrN.by hg λk U=>U
 have G:∀ g,S.va.ownBlock=some g->g≠K.J:=λg D e=>(H.jb.ne_own H.all rfl) (by rw[D,e]);have C:∀ k,OB K { S with va:=va' } k->OB K S k∨w.heap.size<=k:=λk O=>by
  rcases O with h|h|h|h|h
  .exact .inl (.inl h)
  .exact .inl (.inr (.inl h))
  .exact .inl (.inr (.inr (.inl h)))
  .rcases hn k h with h'|h'
   .exact .inl (.inr (.inr (.inr (.inl h'))))
   exact .inr h'
  exact .inl (.inr (.inr (.inr (.inr h))))
 refine⟨Jb H.jb u (λe=>G _ e rfl),Zg H.row H.all hg rfl,Zg H.at_ H.all hg rfl,H.lists.gr u (λi g hi D e=>H.alld i g hi D e),by grind,λv g Z D e=>?_,λj o=>?_,λj o=>?_,λj k o O=>?_,H.gi,H.ginj,λj o=>⟨(H.jlo j o).1,Nat.le_trans (H.jlo j o).2 hg.size⟩,H.jg,H.bj⟩
 .rcases hn g e with h'|h'
  .exact H.alld v g Z D h'
  have:=(H.lists.lt Z D).2;omega
 .exact Jb (H.its j o) u (λe=>(H.its j o).ne_own H.all rfl e.symm)
 .exact H.trig u (λk _ U=>.inr (.inr (.inr (.inl U)))) o
 rcases C k O with h'|h'
 .exact H.iv j k o h'
 have:=(H.jlo j o).2;exact .inr (by simp only;omega)
theorem RB.pushAt(H:RB K q S cont alls w)(hv:v<K.n)(ho:w4.ownsRow K.base 320 1 v4 ((cont v).length+1) (cont v++[p]))(hg:w.grownBy w4 (S.vat v).ownBlock)(hn:∀ g,v4.ownBlock=some g->(S.vat v).ownBlock=some g∨w.heap.size<=g):
  w4.cell? (adr K.Ba v)=some (S.vat v)/\w4.frozen? (adr K.Ba v)=false/\v4.oneCell'=true/\RB K q { S with vat:=upd S.vat v v4 } (upd cont v (cont v++[p])) alls (w4.setCell (adr K.Ba v) v4)/\GrN (λk=>(S.vat v).ownBlock=some k∨(Value.slice K.Ba K.n K.n).ownBlock=some k) w (w4.setCell (adr K.Ba v) v4):=by
 have D:=H.lists.own v hv;have Z:w4.ownsRow K.base 314 1 (.slice K.Ba K.n K.n) K.n ((List.range K.n).map S.vat):=Zg H.at_ D hg rfl;have F4:=H.lists.upd hv ho hg hn;obtain⟨s1,s2,s3,s4,s5⟩:=Zn Z (q:=v) om v4;have h1:v4.oneCell'=true:=by obtain⟨B,c,e,_⟩:=Jy ho;rw[e];rfl
 have o:GrN (λk=>(S.vat v).ownBlock=some k∨(Value.slice K.Ba K.n K.n).ownBlock=some k) w (w4.setCell (adr K.Ba v) v4):=(GrN.by hg λk ek=>.inl ek).trans (GrN.by s5 λk ek=>.inr ek);have a1:∀ k,(S.vat v).ownBlock=some k∨(Value.slice K.Ba K.n K.n).ownBlock=some k->OB K S k:=λk O=>by
  rcases O with h|h
  .exact .inr (.inr (.inr (.inr ⟨v,hv,h⟩)))
  exact .inr (.inr (.inl h))
 have G:∀ k,OB K { S with vat:=upd S.vat v v4 } k->OB K S k∨w.heap.size<=k:=λk O=>by
  rcases O with h|h|h|h|⟨u,hu,h⟩
  .exact .inl (.inl h)
  .exact .inl (.inr (.inl h))
  .grind
  .exact .inl (.inr (.inr (.inr (.inl h))))
  by_cases e:u=v
  .grind [Ju]
  simp only[Jm _ _ e]at h;exact .inl (.inr (.inr (.inr (.inr ⟨u,hu,h⟩))))
 have a2:((List.range K.n).map S.vat).set v v4=(List.range K.n).map (upd S.vat v v4):=by
  apply List.ext_getElem?
  grind [Ju,Jm]
 rw[a2]at s3;have F5:=F4.other Z s5 rfl;have nJ:¬ ((S.vat v).ownBlock=some K.J∨(Value.slice K.Ba K.n K.n).ownBlock=some K.J):=by
  rintro(h|h)
  .exact H.jb.ne_own D rfl h.symm
  exact H.jb.ne_own H.at_ rfl h.symm
 refine⟨s1.trans (by simp[hv]),s2,h1,⟨Jb H.jb o nJ,Zg (Zg H.row D hg rfl) Z s5 rfl,s3,⟨λi hi=>?_,F5.dis⟩,Jt H.all o (λg U=>?_),λu g hu U e=>?_,λj C=>?_,λj C=>H.trig o (λk _ O=>a1 k O) C,λj k C O=>?_,H.gi,H.ginj,λj C=>⟨(H.jlo j C).1,Nat.le_trans (H.jlo j C).2 o.size⟩,H.jg,H.bj⟩,o⟩
 .have:=F5.own i hi;grind [Ju,List.length_append,List.length_singleton,Jm]
 .rintro(h|h)
  .exact H.alld v g hv h U
  exact Jxv H.at_ H.all rfl h U
 .by_cases e':u=v
  .subst e';simp only[Ju]at U;rcases hn g U with h'|h'
   .exact H.alld u g hu h' e
   obtain⟨_,_,_,_,hf⟩:=Jy H.all;grind
  simp only[Jm _ _ e']at U;exact H.alld u g hu U e
 .refine Jb (H.its j C) o ?_;rintro(h|h)
  .exact(H.its j C).ne_own D rfl h.symm
  exact(H.its j C).ne_own H.at_ rfl h.symm
 rcases G k O with h'|h'
 .exact H.iv j k C h'
 have:=(H.jlo j C).2;exact .inr (by simp only;omega)
end
end Go.Proofs.YtgobkbeokaaplaaGreatDoor
