/- Part 4. -/
import Derived.Test.YtgobkbeokaaplaaGreatDoorR03
import Derived.Laws.BitsAllLaws
import Derived.Laws.CopyRow
import Derived.Test.YtgobkbeokaaplaaGreatDoorSh
import Derived.Lib.AppendStr
set_option linter.unusedVariables false
set_option maxRecDepth 100000
set_option maxHeartbeats 40000000
namespace Go.Proofs.YtgobkbeokaaplaaGreatDoor
open Go.RowKit Pl Go.Wk
attribute [local irreducible] WC WL QX WD WDB WP WN WG
variable {vs:List Nat}{cs xs:List Value}{ca d g i m n q:Nat}{vars:Nat->List Nat}{G G' L e p:Nat->Nat}{N N' NY bx':Nat->Prop}{v x y yv:Value}{w w1 w2:World}
structure YS(s:Nat)(yv:Value)(bx:Nat->Prop)(Y:Nat->List Row->World->Prop): Prop where
 keep:∀ base l w w',Y base l w->GrN (λk=>s<=k/\k<base) w w'->Y base l w'
 call:∃ fid first cap,yv=.func (.func fid) first cap/\∀ base l w vr z,base<=w.heap.size->Y base l w->RowV w vr z->l.length<65536->Ret Tryz.prog fid (first.toList++[vr]++cap.toList) w λr w'=>r=.bool true/\Y base (l++[z]) w'/\GrN (λk=>bx k∨base<=k) w w'
theorem Jyh(ha:Qo vs)(hl:∀ u∈vs,u<n): vs.length<=n:=by
 have key:∀ k,lv vs k<=k:=by
  intro k;induction k with
  | zero=>rw[Jwz];exact nR _
  | succ k ih=>
   by_cases h:k∈vs
   repeat grind [Ys,Jqn]
 have:=key n;rwa [Qzb hl]at this
theorem Jwn{cs:List Nat}(h:i<cs.length): (nz cs).getD i 0=(cs.getD i 0:Int):=by
 simp[nz,List.getD,List.getElem?_eq_getElem h]
structure RunOk(n:Nat)(ts:List TA)(vars:Nat->List Nat)(rs:Nat->List Row): Prop where
 n32:n<=32
 m32:ts.length<=32
 at_:∀ i,i<ts.length->(ts.getD i ta0).2=⟨nz (vars i),(vars i).length,rs i⟩
 asc:∀ i,i<ts.length->Qo (vars i)
 lt:∀ i,i<ts.length->∀ u∈vars i,u<n
 cov:∀ v,v<n->∃ i,i<ts.length/\v∈vars i
 srt:∀ i,i<ts.length->Lt [] (rs i)
 len:∀ i,i<ts.length->∀ r∈rs i,r.length=(vars i).length
 big:∀ i,i<ts.length->(rs i).length<=65536
theorem Jbw{base base' e sz:Nat}(h:w.ownsRow base e sz v m xs)(hb:base'<=base): w.ownsRow base' e sz v m xs:=by
 rcases h with⟨u,⟨rfl,rfl⟩|⟨g,o,j,rfl,i,C⟩⟩
 .exact⟨u,.inl ⟨rfl,rfl⟩⟩
 exact⟨u,.inr ⟨g,o,j,rfl,Nat.le_trans hb i,C⟩⟩
theorem _root_.Go.Wk.Blk.sub2{t:TypeId}(h:Blk w g t cs)(h0:cs[i]?=some x)(h1:cs[i+1]?=some y): ∀ j u,[x,y][j]?=some u->w.cell? ((⟨g,i,none⟩:Addr).add j)=some u:=λj u o=>by
 match j,o with
 | 0,o=>simp only[List.getElem?_cons_zero,Option.some.injEq]at o;subst o;exact h.sub h0
 | 1,o=>simp only[List.getElem?_cons_succ,List.getElem?_cons_zero,Option.some.injEq]at o;subst o;exact h.sub h1
 | j+2,o=>simp at o
def Gr(d t:Nat): List Value:=(List.range d).map λj=>.int .i64 ((if j<t then j else 0:Nat):Int)
theorem Xwt(d:Nat): (madeCells (Value.int .i64 0).cells (d*1)).toList=Gr d 0:=by
 rw[Nat.mul_one];have e:(madeCells (Value.int .i64 0).cells d).toList=List.replicate d (Value.int .i64 0):=Gq _ _;rw[e];simp[Gr,List.map_const']
theorem Xws(d:Nat): Gr d d=Jt (nz (List.range d)):=by grind [Gr,Jt,nz,List.map_map,List.map_congr_left,List.mem_range.1]
theorem Xwq{t:Nat}(h:t<d): (Gr d t).set t (.int .i64 (t:Int))=Gr d (t+1):=by
 apply List.ext_getElem?
 grind [Gr,List.getElem?_range]
theorem Xwr(d t:Nat): (Gr d t).length=d:=by simp[Gr]
theorem Qtg(A:Option Addr)(n c:Nat): ∀ u∈[Value.slice A n c],u.oneCell'=true:=λu i=>by rw[List.mem_singleton.1 i];rfl
def itp(g:Nat): Value:=.pointer (some ⟨g,0,none⟩)
def Vl(vars:Nat->List Nat)(G:Nat->Nat)(q:Nat)(v:Nat): List Value:=((List.range q).filter λi=>decide (v∈vars i)).map λi=>itp (G i)
theorem Xvb(vars:Nat->List Nat)(G:Nat->Nat)(q v:Nat): (Vl vars G q v).length<=q:=by grind [Vl,List.length_map,List.length_filter_le,List.range,List.length_range]
theorem Xwz(vars:Nat->List Nat)(G:Nat->Nat)(q v:Nat): Vl vars G (q+1) v=Vl vars G q v++if v∈vars q then[itp (G q)] else[]:=by grind [Vl,List.range_succ,List.filter_cons_of_pos,List.filter_cons_of_neg]
theorem Xvc(h:∀ j,j<q->G j=G' j)(v:Nat): Vl vars G q v=Vl vars G' q v:=by grind [Vl,List.map_congr_left,List.mem_range.1,List.mem_filter.1]
theorem _root_.Go.Wk.GrN.cut(hx:Ext w w1)(hg:GrN N w1 w2)(hN:∀ k,k<w.heap.size->N k->N' k): GrN N' w w2 :=
 ⟨hg.os.trans hx.os,hg.tape.trans hx.tape,hg.output.trans hx.output,Nat.le_trans hx.size hg.size,λk i hn=>(hg.block k (nM i hx.size) (λe=>hn (hN k i e))).trans (hx.block k i)⟩
theorem Cfg.steps{c:JC}{Y:List Row->World->Prop}{z:Row}{f h:Nat->Nat->Nat}{l:List Row}(H:Cfg c Y w z L p e f h l)(hok:JOk c)(hY:YC c Y NY){st:Int}(hJ:Blk w c.J 313 [c.rowv,c.ja,.int .i64 st,c.yv])(st':Int):
  Cfg c Y (w.setCell ⟨c.J,2,none⟩ (.int .i64 st')) z L p e f h l/\GrN c.NI w (w.setCell ⟨c.J,2,none⟩ (.int .i64 st')):=by
 have o:GrN (λk=>k=c.J) w (w.setCell ⟨c.J,2,none⟩ (.int .i64 st')):=GrN.set _ rfl;have j:GrN c.NI w (w.setCell ⟨c.J,2,none⟩ (.int .i64 st')):=GrN.set _ (.inl rfl);refine⟨⟨H.env.gr (j.mono λk _ u=>hok.sub k u),λi hi=>?_,Je H.row o (λg D=>H.rowJ D),H.zl,⟨_,hJ.set 2 _⟩,hY.keep _ _ _ H.y j⟩,j⟩;obtain⟨st,C⟩:=H.its i hi;exact⟨st,Jy C o (hok.gj i hi)⟩
theorem Qcw(h:Qo vs): vs.Nodup:=h.imp λh e=>by omega
theorem Jpl(n:Nat): (madeCells (Value.slice none 0 0).cells (n*1)).toList=List.replicate n (Value.slice none 0 0):=by rw[Nat.mul_one];exact Gq _ _
theorem Qnl{ts:List TA}{Aa:Option Addr}{rs:Nat->List Row}{Y:Nat->List Row->World->Prop}(hok:RunOk n ts vars rs)(hR:Rd w 3 Aa ts.length (atC ts))(hat:∀ p∈ts,AtV w p.1 p.2)(hbx:∀ k,bx' k->k<w.heap.size)(hY:YS w.heap.size yv bx' Y)(hY0:∀ w',Ext w w'->Y w'.heap.size [] w')(hcap:∀ l:List Row,Lt [] l->(∀ x∈l,Zt n ts.length vars rs x)->l.length<=65536):
  Ret Tryz.prog 196 [.int .i64 (n:Int),.slice Aa ts.length ca,yv] w λu w'=>GrN bx' w w'/\∃ st base l,u=.tuple #[.int .i64 st,.int .i64 0]/\base<=w'.heap.size/\Y base l w'/\Lt [] l/\∀ x,x∈l↔Zt n ts.length vars rs x:=by
 have dl:=hok.n32;have dn:=hok.m32;obtain⟨m,hm⟩:∃ m,m=ts.length:=⟨_,rfl⟩;obtain⟨bg,first,bh,ey,d5⟩:=hY.call;subst ey;refine enE Tryz.func196 Tryz.ntmps196 ?_;refine ρ ?_;have dc:Ext w w.drew:=(Ext.refl w).drew;refine drG kr ?_;refine gpre (fuel':=5) [(0,0),(0,2),(0,4)] #[true,false,true,false,true,false,false,false] kr kr rfl ?_;refine ρd ?_;refine Jdf ?_;refine gcut 3 #[true,true,true,true,true,false,false,false] (fun (x:Option Addr×Option Addr)=>[(0,.int .i64 (n:Int)),(1,.slice Aa ts.length ca),(2,.func (.func bg) first bh),(24,.slice x.1 n n),(26,.slice x.2 n n),(27,.func (.func bg) first bh)])
  (λx w'=>Ext w.drew w'/\Vs w' w.heap.size (.slice x.1 n n) (List.replicate n V0)/\w'.ownsRow w.heap.size 314 1 (.slice x.2 n n) n (List.replicate n (.slice none 0 0))) ?_ ?_
 .rintro⟨Ra,Ba⟩ w1 ⟨dh,ax,cj⟩;refine gpre (fuel':=0) [(1,5),(1,6),(0,7)] #[true,true,true,true,true,true,true,true] kr kr rfl ?_;refine Jqv ?_;refine bld (Xyv _ _ _ _ _ _ _) ?_;refine Jl (Jqt (Ext.refl _) ?_);refine Jqv ?_;refine bx ?_;intro w2 J a1 hJ f4;refine Jl (Jqt a1 ?_);refine ρd ?_;refine Jdf ?_;refine gend kr ?_;refine ρ ?_;have ab:Ext w w2:=(dc.trans dh).trans a1;have e5:w.heap.size<=J:=nL (dc.trans dh).size hJ;obtain⟨K,hK⟩:∃ K:RK,K=⟨n,vars,rs,w.heap.size,J,Ra,Ba,.func (.func bg) first bh⟩:=⟨_,rfl⟩;have H2:RB K 0 ⟨λ_=>0,λ_=>none,λ_=>0,λ_=>0,.slice none 0 0,λ_=>.slice none 0 0⟩ (λ_=>[]) [] w2:=by
   subst hK;refine⟨f4,Jk ax a1,?_,⟨λi hi=>Zd _ _ _ _,λi j g _ _ _ e=>(by cases e)⟩,Zd _ _ _ _,λv g _ e=>(by cases e),λj hj=>om,λj hj=>om,λj k hj=>om,λi j hi=>om,λi j _ hj=>om,λj hj=>om,λj hj=>om,e5⟩;have:=Jk cj a1;have e:List.replicate n (Value.slice none 0 0)=(List.range n).map λ_=>Value.slice none 0 0:=by simp[List.map_const']
   rw[e]at this;exact this
  clear ax cj;refine Qs (fun (i:Nat)=>[(0,.int .i64 (n:Int)),(1,.slice Aa ts.length ca),(8,.pointer (some ⟨J,0,none⟩)),(30,.slice Aa ts.length ca),(31,.int .i64 (ts.length:Int)),(32,.int .i64 (i:Int))])
   (λi w'=>i<=ts.length/\Ext w2 w'/\∀ j,j<i->rs j≠[]) (λi=>ts.length-i) 0 sB ⟨Nat.zero_le _,Ext.refl _,λj hj=>om⟩ ?_
  rintro i w3 ⟨hi,C,cb⟩;refine ciR (λh=>?_) (λh=>?_)
  .have li:i<ts.length:=by have:=oT h;omega
   have eb:=hR.ext (ab.trans C);obtain⟨t1,t2,t3,a,hp⟩:∃ t1 t2 t3 a,ts.getD i ta0=((t1,t2,t3),a):=⟨_,_,_,_,rfl⟩;have a8:AtV w (t1,t2,t3) a:=by have:=hat _ (Jbh rfl li);rw[hp]at this;exact this
   have ea:a=⟨nz (vars i),(vars i).length,rs i⟩:=by have:=hok.at_ i li;rw[hp]at this;exact this
   clear h;obtain⟨⟨D,d,e1,hd,f7,dw⟩,e2,a6⟩:=id a8;simp only at e1 e2;subst e1;subst e2;obtain⟨ps,G,gc,_,aw,_⟩:=id a6;simp only at aw;subst aw;refine Qp 3 i eb li ?_;refine Jh (cs:=[.slice D a.vars.length d,.int .i64 (a.ar:Int),.slice G ps.length gc]) (λj u hu=>Jkg eb rfl li (by rw[hp];exact hu)) ?_;refine Jw Yr ?_;intro w4 b a5 hb hB;refine Qh hB ?_ a8.one;intro w5 fe d2 cv;have aq:Ext w3 w5:=cv w3 a5 hb;refine Jh (cs:=[.int .i64 (a.ar:Int),.slice G ps.length gc]) (fe.sub2 (i:=1) rfl rfl) ?_;refine clR (Jwd ((a8.ext (((ab.trans C).trans aq))).rel)) ?_;rintro u w6 ⟨rfl,bm⟩;refine ciR (λh=>?_) (λh=>?_)
   .refine ρ ?_;have c4:Ext w w6:=((ab.trans C).trans aq).trans bm;refine Yt ⟨(GrN.ext c4),0,w6.heap.size,[],rfl,Nat.le_refl _,hY0 w6 c4,List.Pairwise.nil,λx=>⟨λhx=>(by cases hx),λhx=>?_⟩⟩;have o:=hx.2 i li;have h2:a.rows.length=0:=by have:=Zv h;omega
    rw[ea]at h2;have h3:rs i=[]:=List.eq_nil_of_length_eq_zero h2;rw[h3]at o;cases o
   have h2:rs i≠[]:=λe=>by
    have h3:=Zz h;rw[ea,e]at h3;exact h3 rfl
   refine ρ ?_;refine Qm (i+1) sO ⟨om,(C.trans aq).trans bm,λj hj=>?_⟩ om;by_cases e:j=i
   .rw[e];exact h2
   exact cb j om
  have d1:i=ts.length:=by have:=oF h;omega
  subst d1;refine ρ ?_;refine Jo (fun (q:Nat) (S:RS)=>[(0,.int .i64 (n:Int)),(8,.pointer (some ⟨J,0,none⟩)),(11,S.va),(41,.slice Aa ts.length ca),(42,.int .i64 (ts.length:Int)),(43,.int .i64 (q:Int))])
   (λq S w'=>q<=ts.length/\Ext w w'/\RB K q S (Vl vars S.G q) ((List.range q).map λj=>itp (S.G j)) w') (λq _=>ts.length-q) 0 ⟨λ_=>0,λ_=>none,λ_=>0,λ_=>0,.slice none 0 0,λ_=>.slice none 0 0⟩ sB
   ⟨Nat.zero_le _,ab.trans C,H2.ext C⟩ ?_
  rintro q S w4 ⟨hq,a5,H4⟩;refine ciR (λh=>?_) (λh=>?_)
  .have lq:q<ts.length:=by have:=oT h;omega
   have e9:=hR.ext a5;obtain⟨t1,t2,t3,a,hp⟩:∃ t1 t2 t3 a,ts.getD q ta0=((t1,t2,t3),a):=⟨_,_,_,_,rfl⟩;have a8:AtV w (t1,t2,t3) a:=by have:=hat _ (Jbh rfl lq);rw[hp]at this;exact this
   have ea:a=⟨nz (vars q),(vars q).length,rs q⟩:=by have:=hok.at_ q lq;rw[hp]at this;exact this
   subst ea;clear h;obtain⟨⟨D,d,e1,hd,f7,dw⟩,e2,a6⟩:=id a8;simp only at e1 e2;subst e1;subst e2;obtain⟨ps,G,gc,_,aw,_⟩:=id a6;simp only at aw;subst aw;have dk:=Qk (vars q);have fl:(vars q).length<=n:=Jyh (hok.asc q lq) (hok.lt q lq);refine Qp 3 q e9 lq ?_;refine Jh (cs:=[.slice D (nz (vars q)).length d,.int .i64 ((vars q).length:Int),.slice G ps.length gc]) (λj u hu=>Jkg e9 rfl lq (by rw[hp];exact hu)) ?_;refine Jw Yr ?_;intro w5 b cv hb hB;refine Qh hB ?_ a8.one;intro w6 el br bm;have c5:Ext w4 w6:=bm w4 cv hb;have H6:=H4.ext c5;refine ldR (el.at (i:=0) rfl) ?_;refine ρ ?_;rw[dk];refine mkn EI (vars q).length om (by unfold maxLen;omega) ?_;intro w7 O dd cz fp;rw[Xwt]at cz;refine ρ ?_;refine Qs (fun (t:Nat)=>[(0,.int .i64 (n:Int)),(8,.pointer (some ⟨J,0,none⟩)),(11,S.va),(41,.slice Aa ts.length ca),(42,.int .i64 (ts.length:Int)),(43,.int .i64 (q:Int)),(13,.pointer (some ⟨b,0,none⟩)),(14,.slice O (vars q).length (vars q).length),(51,.slice O (vars q).length (vars q).length),(52,.int .i64 ((vars q).length:Int)),(53,.int .i64 (t:Int))])
    (λt w'=>t<=(vars q).length/\Ext w6 w'/\w'.ownsRow w6.heap.size 3 1 (.slice O (vars q).length (vars q).length) (vars q).length (Gr (vars q).length t)) (λt=>(vars q).length-t) 0 sB
    ⟨Nat.zero_le _,dd,cz⟩ ?_
   clear cz dd;rintro t w8 ⟨ht,bl,b1⟩;refine ciR (λh=>?_) (λh=>?_)
   .have lt:t<(vars q).length:=by have:=oT h;omega
    clear h;refine ixR t (Rd.own b1) lt ?_;obtain⟨s1,s2,s3,s4,s5⟩:=Vc b1 (q:=t) om (.int .i64 (t:Int));have e4:t<(Gr (vars q).length t).length:=by rw[Xwr];exact lt
    refine Xo (s1.trans (gE e4)) s2 ?_;rw[Xwq lt]at s3;have ap:Ext w6 (w8.setCell (adr O t) (.int .i64 (t:Int))):=Qa bl s5 (λk Z=>by
     obtain⟨_,_,_,_,hf⟩:=Jb b1;exact(hf k Z).1)
    refine ρ ?_;exact Qm (t+1) sO ⟨om,ap,s3⟩ om
   have cx:t=(vars q).length:=by have:=oF h;omega
   subst cx;clear h;rw[Xws]at b1;have ei:=el.ext bl;have bz:Ext w w8:=(a5.trans c5).trans bl;have d3:IntsV w8 (.slice O (vars q).length (vars q).length) (nz (List.range (vars q).length)):=by
    have e:(nz (List.range (vars q).length)).length=(vars q).length:=by rw[Qk,List.length_range]
    exact⟨O,(vars q).length,by rw[e],by rw[e];exact nR _,by rw[e];omega,by rw[e];exact Rd.own b1⟩
   refine Jh (cs:=[.int .i64 ((vars q).length:Int),.slice G ps.length gc]) (ei.sub2 (i:=1) rfl rfl) ?_;refine clR (Qhz (a8.ext bz).rel (hok.srt q lq) (hok.len q lq) d3 (show(vars q).length<=32 by omega) (hok.big q lq)) ?_;rintro u w9 ⟨ap,tv,rfl,⟨bi,rfl⟩,e7⟩;refine Jw Jfj ?_;intro fk b2 dg f8 fd;refine Qh (cs':=[.slice bi (vars q).length (vars q).length]) fd ?_ (Qtg _ _ _);intro db em fh df;have ac:Ext w9 db:=df w9 dg f8;refine Ja em ?_;refine clR (Qlb db) ?_;rintro u da ⟨au,g,rfl,dv,ck⟩;have H8:=H6.ext bl;have e6:Off (λk=>k<w8.heap.size) w9 (λu=>TriA u bi (K.vars q).length (K.rs q)):=by
    subst hK;exact e7.imp λu h=>h.a
   have be:ItB da g bi (K.vars q).length 0 0 0 (λ_=>0) (λ_=>0) 0:=by subst hK;exact ck
   have eu:=H8.iter ap e6 (ac.trans au) (nL ac.size dv) be;have bf:=ei.ext (((ap.trans ac)).trans au);have bw:K.n=n:=by rw[hK]
   have d8:K.base=w.heap.size:=by rw[hK]
   have fa:K.J=J:=by rw[hK]
   have b9:K.Ba=Ba:=by rw[hK]
   have an:Ext w da:=(bz.trans ap).trans (ac.trans au);have d0:∀ {w':World} {e sz m':Nat} {v:Value} {xs:List Value},w'.ownsRow K.base e sz v m' xs->∀ k,v.ownBlock=some k->w.heap.size<=k:=λho k ek=>by
    obtain⟨_,_,_,_,hf⟩:=Jb ho;rw[<-d8];exact(hf k ek).1
   refine Qb (Qbq (some ⟨g,0,none⟩)) ?_;intro fj b3 a3 fo fg;have bj:=eu.ext a3;refine ρ ?_;refine apb (base:=K.base) EIt bj.all (fg.rd (n:=1) rfl) (λu hu=>by rw[List.mem_singleton.1 hu];rfl) (by unfold maxLen;simp;omega) (by simp;omega) (by rw[d8];exact(an.trans a3).size) ?_;intro cr ex c9 ag cd;have et:=bj.pushAll c9 ag cd;have cn:=(bf.ext a3).grown ag ((bf.ext a3).ne_own bj.all rfl);have c6:Ext w ex:=Qa (an.trans a3) ag (d0 bj.all);refine ldR (cn.at (i:=0) rfl) ?_;refine ρ ?_;refine Jo (fun (t:Nat) (vt:Nat->Value)=>[(0,.int .i64 (n:Int)),(8,.pointer (some ⟨J,0,none⟩)),(11,cr),(41,.slice Aa ts.length ca),(42,.int .i64 (ts.length:Int)),(43,.int .i64 (q:Int)),(18,.pointer (some ⟨g,0,none⟩)),(78,.slice D (nz (vars q)).length d),(79,.int .i64 ((nz (vars q)).length:Int)),(80,.int .i64 (t:Int))])
    (λt vt w'=>t<=(vars q).length/\Ext w w'/\RB K (q+1) { G:=upd S.G q g,A:=upd S.A q bi,lo:=upd S.lo q w8.heap.size,hi:=upd S.hi q w9.heap.size,va:=cr,vat:=vt } (λv=>Vl vars S.G q v++if v∈(vars q).take t then[itp g] else[]) (((List.range q).map λj=>itp (S.G j))++[itp g]) w') (λt _=>(vars q).length-t) 0 S.vat sB
    ⟨Nat.zero_le _,c6,?_⟩ ?_
   .have e:(λv=>Vl vars S.G q v++if v∈(vars q).take 0 then[itp g] else[])=Vl vars S.G q:=by funext v;simp
    rw[e];exact et
   clear et bj c9 ag cd cn c6 eu bf ck be e7 e6;rintro t vt cq ⟨ht,af,am⟩;refine ciR (λh=>?_) (λh=>?_)
   .have lt:t<(vars q).length:=by have:=oT h;omega
    clear h;obtain⟨vi,cw⟩:∃ vi,vi=(vars q).getD t 0:=⟨_,rfl⟩;have ez:vi∈vars q:=by rw[cw];exact getD_mem' 0 _ lt
    have aj:vi<n:=hok.lt q lq vi ez;have av:vi<K.n:=by rw[bw];exact aj
    have cm:=dw.ext af;refine ixR t cm (by rw[dk];exact lt) ?_;refine ldR (cm.cell (Zb lt)) ?_;rw[<-cw];obtain⟨own,ay⟩:∃ own,own=(vt vi).ownBlock:=⟨_,rfl⟩;have bd:=am.jb;rw[fa,b9,bw]at bd;have a7:=am.at_;rw[bw,b9]at a7;have az:=am.lists.own vi av;have nJ:¬ one own J:=λe=>by
     have o:own=some J:=e;exact bd.ne_own az rfl (by rw[<-o];exact ay)
    have nA:∀ ad,Ba=some ad->¬ one own ad.block:=λad e h'=>by
     subst e;exact Jxz a7 az rfl rfl (by have o:own=some ad.block:=h';rw[<-o];exact ay.symm)
    refine ρ ?_;refine drN (one own) 8 (scq 17 [13,14,116]) kr ?_;have a2:Ext cq cq.drew:=(Ext.refl cq).drew;have er:=am.ext a2;have bc:=bd.ext a2;have ah:=Jk a7 a2;have d4:((List.range n).map vt)[vi]?=some (vt vi):=by simp[aj]
    refine ρn ?_;refine nld (Jr (bc.at (i:=1) rfl) nJ) ?_;refine ρn ?_;refine nld (Jr (bc.at (i:=1) rfl) nJ) ?_;refine ρn ?_;refine nix vi (Rd.own ah) aj ?_;refine ρn ?_;refine nld (λw' hg=>(Yj (Rd.own ah) hg (λ_ ad e=>nA ad e)).cell d4) ?_;refine ρn ?_;refine nop ?_;refine bsl (Qbq (some ⟨g,0,none⟩)) ?_;intro fi b4 ae fn ff;refine ρ ?_;refine Ju (GrN.ext ae) ?_;have ak:=er.ext ae;refine nop ?_;have e4:=Xvb vars S.G q vi;refine apb (base:=K.base) EIt (ak.lists.own vi av) (ff.rd (n:=1) rfl) (λu hu=>by rw[List.mem_singleton.1 hu];rfl) ?_ ?_ (by rw[d8];exact((af.trans a2).trans ae).size) ?_
    .rw[List.length_append];unfold maxLen;split<;>simp<;>omega
    .rw[List.length_append];split<;>simp<;>omega
    intro v4 ew dj b5 dm;refine ρ ?_;refine Ju (GrN.by b5 λj ej=>by rw[<-ay]at ej;exact ej) ?_;obtain⟨c1,c2,c3,ep,ce⟩:=ak.pushAt av dj b5 dm;rw[b9]at c1 c2 ep ce;have cp:=Ze ak.at_ (ak.lists.own vi av) b5 rfl;rw[bw,b9]at cp;refine ρn ?_;refine nix vi (Rd.own cp) aj ?_;refine ρn ?_;refine Xu ?_;refine sto c1 c2 ?_ (hv:=c3);have de:Ext w (ew.setCell (adr Ba vi) v4):=ce.old ((af.trans a2).trans ae) (λk Z=>by
     rcases Z with Z|Z
     .exact d0 (ak.lists.own vi av) k Z
     exact d0 ak.at_ k (by rw[b9];exact Z))
    refine ω5 ?_;refine Uu ?_;refine ρn ?_;refine ρ ?_;refine Jf (t+1) (upd vt vi v4) sO ⟨om,de,?_⟩ om;have di:(vars q).take (t+1)=(vars q).take t++[vi]:=by rw[Qr 0 lt,cw]
    have f2:vi ∉ (vars q).take t:=λhm=>by
     have o:((vars q).take (t+1)).Nodup:=(Qcw (hok.asc q lq)).sublist (List.take_sublist _ _);rw[di,List.nodup_append]at o;exact o.2.2 _ hm _ (List.mem_singleton.2 rfl) rfl
    have e:upd (λv=>Vl vars S.G q v++if v∈(vars q).take t then[itp g] else[]) vi ((Vl vars S.G q vi++if vi∈(vars q).take t then[itp g] else[])++[.pointer (some ⟨g,0,none⟩)])=(λv=>Vl vars S.G q v++if v∈(vars q).take (t+1) then[itp g] else[]):=by
     funext v
     rw[di];by_cases e:v=vi
     .subst e;rw[Qz,if_neg f2,if_pos (by simp)];simp[itp]
     rw[Jm _ _ e];congr 1
     by_cases o:v∈(vars q).take t
     .rw[if_pos o,if_pos (by simp[o])]
     rw[if_neg o,if_neg (by simp[o,e])]
    rw[<-e];exact ep
   have cx:t=(vars q).length:=by have:=oF h;omega
   subst cx;clear h;refine ρ ?_;refine Jf (q+1) ⟨upd S.G q g,upd S.A q bi,upd S.lo q w8.heap.size,upd S.hi q w9.heap.size,cr,vt⟩ sO ⟨om,af,?_⟩ om;have e1:(λv=>Vl vars S.G q v++if v∈(vars q).take (vars q).length then[itp g] else[])=Vl vars (upd S.G q g) (q+1):=by
    funext v
    rw[Xwz,List.take_length,Qz,Xvc (G':=upd S.G q g) (λj hj=>(Jm _ _ om).symm)]
   have e2:((List.range q).map λj=>itp (S.G j))++[itp g]=(List.range (q+1)).map λj=>itp (upd S.G q g j):=by
    rw[List.range_succ,List.map_append,List.map_singleton,Qz];congr 1
    refine List.map_congr_left λj hj=>?_;have:=List.mem_range.1 hj;rw[Jm _ _ om]
   rw[e1,e2]at am;exact am
  have f0:q=ts.length:=by have:=oF h;omega
  subst f0;clear h;subst hK;obtain⟨h0,bq⟩:∃ h0,h0=w4.heap.size:=⟨_,rfl⟩;obtain⟨a9,ai⟩:∃ a9:Nat->Prop,a9=λk=>k=J∨(∃ i,i<ts.length/\k=S.G i)∨(Value.slice Ra n n).ownBlock=some k:=⟨_,rfl⟩;obtain⟨c,hc⟩:∃ c:JC,c=⟨⟨S.G,S.A,λi=>(vars i).length,rs⟩,n,ts.length,vars,J,Ra,w.heap.size,.slice Ba n n,.func (.func bg) first bh,S.vat,λk=>bx' k∨h0<=k∨a9 k⟩:=⟨_,rfl⟩;have d7:∀ k,c.NI k↔a9 k:=λk=>by subst hc;subst ai;exact Iff.rfl
  have bs:∀ k,c.N k↔bx' k∨h0<=k∨a9 k:=λk=>by subst hc;exact Iff.rfl
  have ed:J<h0:=by rw[bq];exact H4.jb.lt
  have c7:∀ {e sz m':Nat} {v:Value} {xs:List Value},w4.ownsRow w.heap.size e sz v m' xs->∀ k,v.ownBlock=some k->w.heap.size<=k/\k<h0:=λho k ek=>by
   obtain⟨_,_,_,_,hf⟩:=Jb ho;rw[bq];exact hf k ek
  have b8:∀ k,a9 k->w.heap.size<=k/\k<h0:=λk Z=>by
   subst ai;rcases Z with Z|⟨i,hi,Z⟩|Z
   .subst Z;exact⟨e5,ed⟩
   .subst Z;have o:=(H4.its i hi).lt;have h2:=H4.jg i hi;simp only at h2;omega
   exact c7 H4.row k Z
  have f9:∀ k,k<h0->¬ bx' k->¬ a9 k->¬ c.N k:=λk o h2 h3 h4=>by
   rcases(bs k).1 h4 with h5|h5|h5
   .exact h2 h5
   .omega
   exact h3 h5
  have ch:∀ k,w.heap.size<=k->¬ bx' k:=λk Z hb=>by have:=hbx k hb;omega
  have aa:∀ {e sz m':Nat} {v:Value} {xs:List Value},w4.ownsRow w.heap.size e sz v m' xs->Nat.beq e 313=false->Nat.beq e 340=false->Nat.beq 147 e=false->∀ k,v.ownBlock=some k->¬ c.N k:=λho e1 e2 e3 k ek=>by
   have o:=c7 ho k ek;refine f9 k o.2 (ch k o.1) λh2=>?_;subst ai;rcases h2 with h2|⟨i,hi,h2⟩|h2
   .subst h2;exact H4.jb.ne_own ho e1 ek.symm
   .subst h2;exact(H4.its i hi).ne_own ho e2 ek.symm
   exact Jxz H4.row ho e3 h2 ek
  have fb:∀ v,c.I v=(List.range ts.length).filter λi=>decide (v∈vars i):=λv=>by subst hc;rfl
  have c8:∀ v,Jxt c.F (c.I v)=Vl vars S.G ts.length v:=λv=>by rw[fb];subst hc;rfl
  have ee:∀ v,(c.I v).length=(Vl vars S.G ts.length v).length:=λv=>by rw[<-c8];simp[Jxt]
  have ba:JOk c:=by
   have dt:∀ i j,i<ts.length->j<ts.length->S.G i=S.G j->i=j:=λi j hi hj e=>by
    rcases Nat.lt_trichotomy i j with o|o|o
    .have:=H4.ginj i j o hj;omega
    .exact o
    have:=H4.ginj j i o hi;omega
   have f6:∀ i,i<ts.length->S.G i≠J:=λi hi e=>by have:=H4.jg i hi;simp only at this;omega
   have dx:∀ i,i<ts.length->(vars i).length<=32:=λi hi=>by have:=Jyh (hok.asc i hi) (hok.lt i hi);omega
   subst hc;exact⟨dl,dn,hok.asc,hok.lt,λi _=>rfl,dx,cb,hok.srt,hok.len,hok.big,dt,f6,hok.cov,λk Z=>.inr (.inr ((d7 k).1 Z))⟩
  have d9:JEnv c w4:=by
   refine⟨λi hi=>?_,⟨Ba,n,by subst hc;rfl,?_⟩,λv hv=>?_⟩
   .have bp:i<ts.length:=by subst hc;exact hi
    have o:=H4.tri i bp;have h2:Off c.N w4 (λu=>TriA u (S.A i) (vars i).length (rs i)):=o.mono λk Z h=>by
     have h3:=(H4.jlo i bp);have h4:=H4.iv i k bp;simp only at h3;rcases(bs k).1 h with h5|h5|h5
     .have:=hbx k h5;exact .inl om
     .omega
     subst ai;rcases h5 with h5|⟨i',d1,h5⟩|h5
     .exact h4 (.inl h5)
     .subst h5;exact H4.gi i' i d1 bp
     exact h4 (.inr (.inl h5))
    subst hc;exact h2
   .have o:=Jxx H4.at_ (aa H4.at_ rfl rfl rfl);have h2:=o.imp (Ψ:=λu=>Rd u 1 Ba n ((List.range n).map S.vat)) λu h=>Rd.own h;have:c.n=n/\c.vat=S.vat:=by subst hc;exact⟨rfl,rfl⟩
    rw[this.1,this.2];exact h2
   have aj:v<n:=by subst hc;exact hv
   have ho:=H4.lists.own v aj;obtain⟨B,cc,e1,e2,e3⟩:=Jb ho;have:c.vat v=S.vat v:=by subst hc;rfl
   refine⟨B,cc,by rw[this,e1,ee],?_⟩;rw[c8,ee];refine(Jxx ho (aa ho rfl rfl rfl)).imp λu h=>?_;rw[e1]at h;exact Rd.own h
  have d6:YC c (λl u=>Y h0 l u/\h0<=u.heap.size) (λk=>bx' k∨h0<=k):=by
   refine⟨λk Z=>(bs k).2 (by rcases Z with h|h;(exact .inl h);exact .inr (.inl h)),λk Z h=>?_,λl u u' h hg=>⟨hY.keep _ _ _ _ h.1 (hg.mono λk _ Z=>?_),Nat.le_trans h.2 hg.size⟩,bg,first,bh,by subst hc;rfl,λl u vr z h hr hl=>?_⟩
   .have o:=b8 k ((d7 k).1 h);rcases Z with h2|h2
    .exact ch k o.1 h2
    omega
   .have o:=b8 k ((d7 k).1 Z);exact o
   refine(d5 h0 l u vr z h.2 h.1 hr hl).mono ?_;rintro r u' ⟨o,h2,h3⟩;exact⟨o,⟨h2,Nat.le_trans h.2 h3.size⟩,h3⟩
  have dz:c.n=n:=by subst hc;rfl
  have e0:c.m=ts.length:=by subst hc;rfl
  have eh:Cfg c (λl u=>Y h0 l u/\h0<=u.heap.size) w4 (List.replicate n V0) (λi=>lv (c.vars i) 0) (λ_=>0) (λ_=>0) (λ_ _=>0) (λ_ _=>0) []:=by
   refine⟨d9,λi hi=>⟨0,?_⟩,?_,by rw[dz];simp,⟨0,?_⟩,by rw[bq];exact hY0 w4 a5,by rw[bq];exact nR _⟩
   .simp only[Jwz];rw[e0]at hi;have:=H4.its i hi;subst hc;exact this
   .have:=H4.row;subst hc;exact this
   have:=H4.jb;subst hc;exact this
  have co:∀ x,c.Ans x↔Zt n ts.length vars rs x:=λx=>by subst hc;exact Iff.rfl
  have ec:Pth c 0 (List.replicate n V0) (λ_=>0) (λ_=>0):=by
   refine⟨λi hi=>?_,λi hi h=>?_⟩
   .rw[Jwz,Um,if_pos rfl,List.take_zero]
   rw[Jwz]at h;omega
  have b6:c.J=J:=by subst hc;rfl
  refine ρ ?_;have cg:=Xkh ba d6 (λl o h2=>hcap l o λx hx=>(co x).1 (h2 x hx)) n 0 (List.replicate n V0) (λ_=>0) (λ_=>0) (λ_ _=>0) (λ_ _=>0) [] w4 (by rw[dz];omega) eh ec List.Pairwise.nil (λx hx=>by cases hx) (λx hx=>by cases hx);rw[b6]at cg;refine cl cg ?_;rintro u w5 ⟨rfl,d2,z5,f5,h5,l5,H5,_,_,dq,f3⟩;have b7:w5.ownsRow w.heap.size 320 1 S.va ts.length ((List.range ts.length).map λj=>itp (S.G j)):=by
   have o:=H4.all;rw[List.length_map,List.length_range]at o;exact Je o d2 (aa H4.all rfl rfl rfl)
  obtain⟨VA,vc,en,_,_⟩:=Jb b7;rw[en]at b7 ⊢;have cy:Off c.N w5 (λu=>Rd u 1 VA ts.length ((List.range ts.length).map λj=>itp (S.G j))):=by
   refine(Jxx b7 λg eg=>?_).imp λu h=>Rd.own h;exact aa H4.all rfl rfl rfl g (by rw[en];exact eg)
  refine ρ ?_;refine Qs (fun (i:Nat)=>[(8,.pointer (some ⟨J,0,none⟩)),(104,.slice VA ts.length vc),(105,.int .i64 (ts.length:Int)),(106,.int .i64 (i:Int))])
   (λi w'=>i<=ts.length/\GrN c.N w5 w'/\Cfg c (λl u=>Y h0 l u/\h0<=u.heap.size) w' z5 (λi=>lv (c.vars i) 0) (λ_=>0) (λ_=>0) f5 h5 l5) (λi=>ts.length-i) 0 sB ⟨Nat.zero_le _,GrN.refl _ _,H5⟩ ?_
  rintro i w6 ⟨hi,br,H6⟩;refine ciR (λh=>?_) (λh=>?_)
  .have li:i<ts.length:=by have:=oT h;omega
   clear h;have e8:=cy w6 br;refine ixR i e8 li ?_;refine ldR (e8.cell (show((List.range ts.length).map λj=>itp (S.G j))[i]?=some (.pointer (some ⟨S.G i,0,none⟩)) by simp[li,itp])) ?_;obtain⟨sj,bb⟩:=H6.jb;rw[b6]at bb;refine ρ ?_;refine drN (λ_=>False) 10 (scq 10 [5,109]) kr ?_;have ao:Ext w6 w6.drew:=(Ext.refl w6).drew;have eo:=H6.ext d6 ao;have a4:=bb.ext ao;obtain⟨si,ef⟩:=eo.its i (by rw[e0];exact li);have fc:c.F.G i=S.G i:=by subst hc;rfl
   rw[fc]at ef;refine ρn ?_;refine nld (Jr (a4.at (i:=2) rfl) (λe=>e)) ?_;refine ρn ?_;refine nop ?_;refine cl (Xxh ef) ?_;rintro u w7 ⟨rfl,rfl⟩;refine ρ ?_;refine Ju (GrN.refl _ _) ?_;refine ρn ?_;refine Xu ?_;refine sto (p:=⟨J,2,none⟩) (a4.cell 2) (a4.frozen _) ?_;rw[<-b6]at a4;obtain⟨H8,du⟩:=eo.steps ba d6 a4 (IntKind.i64.wrap (sj+si));rw[b6]at H8 du;refine ω5 ?_;refine Uu ?_;refine ρn ?_;refine ρ ?_;exact Qm (i+1) sO ⟨om,(br.trans (GrN.ext ao)).trans (du.mono λk _ Z=>ba.sub k Z),H8⟩ om
  clear h;obtain⟨sj,bb⟩:=H6.jb;rw[b6]at bb;refine ldR (bb.at (i:=2) rfl) ?_;refine ρ ?_;refine Yt ⟨GrN.cut a5 (d2.trans br) λk Z h=>?_,sj,h0,l5,rfl,H6.y.2,H6.y.1,dq,λx=>?_⟩
  .rcases(bs k).1 h with o|o|o
   .exact o
   .have:=a5.size;omega
   have:=(b8 k o).1;omega
  rw[f3,<-co x];constructor
  .rintro(o|o)
   .cases o
   exact o.1
  intro o;exact .inr ⟨o,rfl⟩
 intro rest;refine gtwo 1 3 kr rfl rfl rfl ?_ ?_
 .refine ρ ?_;refine mkn EV n om (by unfold maxLen;omega) ?_;intro w2 A2 a1 bo _;refine Jl (Qkb a1 ?_);refine gpre (fuel':=3) [(1,3)] #[true,true,true,true,true,false,false,false] kr kr rfl ?_;refine Jqv ?_;refine mkn EIts n om (by unfold maxLen;omega) ?_;intro w3 A3 C bn _;refine Jl (Jqt C ?_);refine Iw (Jdf ?_);refine rest (A2,A3) _ _ ⟨a1.trans C,?_,?_⟩ sB
  .rw[Vs,List.length_replicate,<-Jhc];exact Jk bo C
  rw[Jpl]at bn;exact Jbw bn a1.size
 refine ρ ?_;refine mkn EIts n om (by unfold maxLen;omega) ?_;intro w2 A2 a1 bo _;refine Jl (Qkb a1 ?_);refine gpre (fuel':=3) [(1,1)] #[true,true,true,true,true,false,false,false] kr kr rfl ?_;refine Jqv ?_;refine mkn EV n om (by unfold maxLen;omega) ?_;intro w3 A3 C bn _;refine Jl (Jqt C ?_);refine Iw (Jdf ?_);refine rest (A3,A2) _ _ ⟨a1.trans C,?_,?_⟩ sB
 .rw[Vs,List.length_replicate,<-Jhc];exact Jbw bn a1.size
 rw[Jpl]at bo;exact Jk bo C
end Go.Proofs.YtgobkbeokaaplaaGreatDoor
namespace Go.Wk
open Go.RowKit
variable {d n t t2 ty:Nat}
theorem fnl{P:Program}{al:AL}{w:World}{Q:Exit->Act->World->Prop}{ops:Array Oper}{rest:List Oper}{pos:String}{aft:Array Edge}{tt:TT}[h:Tab P tt]{x:Operand}{k:TK}{ps rs:Array TypeId}{va:Bool}{f:Fn}{first cap:Array Value}(kk:WL P n ops Q rest ((d,.bool false)::al) w)(ht:tk tt t=some k:=by rfl)(hk:k.desc=.func ps rs va:=by rfl)(hx:ev al x=some (.func f first cap):=by rfl)(hd:Nat.blt d n=true:=by rfl):
  WL P n ops Q (⟨some d,.binOp .eql t x (.const .nilFunc) t2,ty,pos,aft,none⟩::rest) al w :=
 wop hd (λa j=>by
  have i:=Yc h.ok ht hk rfl;have u:a.eval (.const .nilFunc)=.nilFunc:=rfl;have o:∀ d:Nat,(Op.equalIn (d+1) t (.func f first cap) .nilFunc).run P w=.ok false w:=λd=>by simp[Op.equalIn,run_underlying i]
  simp[execOp,j.ev hx,u,eqGuard,binOp,Op.equal,Op.maxDepth,o 9999]) kk
end Go.Wk
namespace Go.Proofs.YtgobkbeokaaplaaGreatDoor
open Go.RowKit Pl Go.Wk
attribute [local irreducible] WC WL QX WD WDB WP WN WG
variable {b ca n s:Nat}{Y:Nat->List Row->World->Prop}{yv:Value}
structure YZ(s:Nat)(yv:Value)(bx:Nat->Prop)(Y:Nat->List Row->World->Prop): Prop where
 keep:∀ base l w w',Y base l w->GrN (λk=>s<=k/\k<base) w w'->Y base l w'
 call:∃ fid first cap,yv=.func (.func fid) first cap/\∀ base l w w1 vr z,base<=w.heap.size->Y base l w->Ext w w1->RowX w1 (λk=>k<w.heap.size) vr z->l.length<65536->Ret Tryz.prog fid (first.toList++[vr]++cap.toList) w1 λr w'=>r=.bool true/\Y base (l++[z]) w'/\GrN (λk=>bx k∨base<=k) w1 w'
theorem Xkt{bx:Nat->Prop}(hY:YZ s yv bx Y)(hb:s<=b)(hbx:∀ k,bx k->k<s):
  YS (b+1) (.func (.func 197) #[] #[.pointer (some ⟨b,0,none⟩)]) bx (λbase l w=>(Y base l w/\Blk w b 254 [yv])/\b<base):=by
 obtain⟨a6,first,a7,a1,C⟩:=hY.call;subst a1;refine⟨λbase l w w' h J=>⟨⟨hY.keep _ _ _ _ h.1.1 (J.mono λk _ Z=>⟨om,Z.2⟩),Jy h.1.2 J (λZ=>om)⟩,h.2⟩,_,_,_,rfl,λbase l w vr z D h hr hl=>?_⟩;obtain⟨⟨hy,hB⟩,a4⟩:=h;have O:¬ (bx b∨base<=b):=by grind
 refine enE Tryz.func197 Tryz.ntmps197 ?_;refine ρ ?_;refine drN (λk=>bx k∨base<=k) 8 (scq 5 [2,3]) kr ?_;have j:Ext w w.drew:=(Ext.refl w).drew;have a5:=hB.ext j;have a2:=hY.keep _ _ _ _ hy (GrN.ext j);refine ρn ?_;refine nld (Jr (a5.at (i:=0) rfl) O) ?_;refine ρn ?_;refine nop ?_;refine cl (Jyc (hr.ext j) (λk=>k<w.drew.heap.size) (λk Z=>Z)) ?_;rintro u w1 ⟨hu,o⟩;refine ρ ?_;refine Ju (GrN.ext o) ?_;refine nop ?_;refine clv (C base l w.drew w1 u z D a2 o hu hl) ?_;rintro r w2 ⟨rfl,a3,G⟩;refine ρ ?_;refine Ju G ?_;refine ρn ?_;refine ρ ?_;have J:GrN (λk=>bx k∨base<=k) w w2:=(GrN.ext (j.trans o)).trans G;exact Jj ⟨rfl,⟨⟨a3,Jy hB J O⟩,a4⟩,J⟩
theorem Xks{w:World}{ts:List TA}{Aa:Option Addr}{vars:Nat->List Nat}{rs:Nat->List Row}{bx':Nat->Prop}(hok:RunOk n ts vars rs)(hR:Rd w 3 Aa ts.length (atC ts))(hle:ts.length<=ca)(hat:∀ p∈ts,AtV w p.1 p.2)(hchk:Jkb n (ts.map (·.2)))(hbx:∀ k,bx' k->k<w.heap.size)(hY:YZ w.heap.size yv bx' Y)(hY0:∀ w',Ext w w'->Y w'.heap.size [] w')(hcap:∀ l:List Row,Lt [] l->(∀ x∈l,Zt n ts.length vars rs x)->l.length<=65536):
  Ret Tryz.prog 171 [.int .i64 (n:Int),yv,.slice Aa ts.length ca] w λu w'=>GrN bx' w w'/\∃ st base l,u=.tuple #[.int .i64 st,.int .i64 0]/\w.heap.size<=base/\base<=w'.heap.size/\Y base l w'/\Lt [] l/\∀ x,x∈l↔Zt n ts.length vars rs x:=by
 have a4:=hok.m32;obtain⟨a2,first,a3,Z,_⟩:=hY.call;subst Z;refine enE Tryz.func171 Tryz.ntmps171 ?_;refine bxR ?_;intro w1 b o hb hB;refine clR (Qzm (n:=(n:Int)) (ats:=ts.map (·.2)) ⟨ts,Aa,ca,rfl,rfl,hle,om,hR.ext o,λp hp=>(hat p hp).ext o⟩) ?_
 rintro u w2 ⟨G,e,rfl,he⟩;have e0:=he.2 hchk;subst e0;have D:=hB.ext G;refine ldR (D.at (i:=0) rfl) ?_;refine ρ ?_;refine fnl ?_;have j:=o.trans G;have a5:b+1<=w2.heap.size:=D.lt;refine clR (Qnl (bx':=bx') (Y:=λbase l w=>(Y base l w/\Blk w b 254 [.func (.func a2) first a3])/\b<base) hok (hR.ext j) (λp hp=>(hat p hp).ext j) (λk J=>nM (hbx k J) j.size) ?_ (λw' C=>⟨⟨hY0 w' (j.trans C),D.ext C⟩,by have:=C.size;omega⟩) hcap) ?_
 .have O:=Xkt hY hb hbx;exact⟨λbase l u u' h hg=>O.keep base l u u' h (hg.mono λk _ J=>⟨om,J.2⟩),O.call⟩
 rintro u w3 ⟨a1,st,base,l,rfl,O,⟨⟨h2,_⟩,h3⟩,h4,h5⟩;refine ρ ?_;exact Yt ⟨GrN.cut j a1 λk _ J=>J,st,base,l,rfl,om,O,h2,h4,h5⟩
end Go.Proofs.YtgobkbeokaaplaaGreatDoor
namespace Go.Wk
open Go.RowKit
variable {e:Act}{parts:Array (Nat×Operand)}{pw:Array (Nat×Value)}{a b:Int}{k1 k2:IntKind}{vs:List Value}{i s t v:Nat}{x y:Operand}{yt:TypeId}
section
variable {N:Nat->Prop} {P:Program} {n:Nat} {al:AL} {w:World} {Q:Exit->Act->World->Prop} {ops:Array Oper} {rest:List Oper} {drest:List (Nat×Oper)}
variable {d ty:Nat} {pos:String} {aft:Array Edge}
theorem Jtx{t:TypeId}(hx:ev al x=some (.int k1 a))(hy:ev al y=some (.int k2 b))(h0:0<=b)(he:Fr n al e)(dst:Option Nat)(w:World):
  (execOp e.eval ⟨dst,.binOp .shr t x y yt,ty,pos,aft,none⟩).run P w=.ok (.value (.int k1 (a.fdiv (2^(min b.toNat k1.bits))))) w:=by
 have i:¬ b<0:=om
 simp[execOp,he.ev hx,he.ev hy,eqGuard,binOp,Op.shift,i]
theorem Jkz{t:TypeId}(hx:ev al x=some (.int k1 a))(hy:ev al y=some (.int k2 b))(h0:0<=b)(he:Fr n al e)(dst:Option Nat)(w:World):
  (execOp e.eval ⟨dst,.binOp .shl t x y yt,ty,pos,aft,none⟩).run P w=.ok (.value (.int k1 (k1.wrap (a*2^(min b.toNat k1.bits))))) w:=by
 have i:¬ b<0:=om
 simp[execOp,he.ev hx,he.ev hy,eqGuard,binOp,Op.shift,i]
theorem Jtp(s v:Nat)(hv:v<=32): ((s:Int)).fdiv (2^(min ((v:Nat):Int).toNat 32))=((s / 2^v:Nat):Int):=by grind
theorem Ko(hv:v<32): 2^v<4294967296:=nM (Nat.pow_lt_pow_right (by decide:1<2) hv) (by decide)
theorem Jbl(hv:v<32): IntKind.u32.wrap (1*2^(min ((v:Nat):Int).toNat 32))=((2^v:Nat):Int):=by
 have h:=Ko hv;rw[Int.toNat_natCast,Nat.min_eq_left om,Int.one_mul];have:((2:Int)^v)=((2^v:Nat):Int):=by simp
 rw[this,IntKind.wrap_u32];grind
theorem Ia{t:TypeId}(hv:v<=32)(kk:WL P n ops Q rest ((d,.int .u32 ((s / 2^v:Nat):Int))::al) w)(hx:ev al x=some (.int .u32 (s:Int)):=by rfl)(hy:ev al y=some (.int .i64 (v:Int)):=by rfl)(hd:Nat.blt d n=true:=by rfl):
  WL P n ops Q (⟨some d,.binOp .shr t x y yt,ty,pos,aft,none⟩::rest) al w:=by
 rw[<-Jtp s v hv]at kk;exact wop hd (λa i=>Jtx hx hy om i (some d) w) kk
theorem sl32{t:TypeId}(hv:v<32)(kk:WL P n ops Q rest ((d,.int .u32 ((2^v:Nat):Int))::al) w)(hy:ev al y=some (.int .i64 (v:Int)):=by rfl)(hd:Nat.blt d n=true:=by rfl):
  WL P n ops Q (⟨some d,.binOp .shl t (.const (.int .u32 1)) y yt,ty,pos,aft,none⟩::rest) al w:=by
 rw[<-Jbl hv]at kk;exact wop hd (λa i=>Jkz (x:=.const (.int .u32 1)) rfl hy om i (some d) w) kk
theorem dsl32{t:TypeId}(hv:v<32)(kk:WD P n ops Q drest ((d,.int .u32 ((2^v:Nat):Int))::al) w)(hy:ev al y=some (.int .i64 (v:Int)):=by rfl)(hd:Nat.blt d n=true:=by rfl):
  WD P n ops Q ((0,⟨some d,.binOp .shl t (.const (.int .u32 1)) y yt,ty,pos,aft,none⟩)::drest) al w:=by
 rw[<-Jbl hv]at kk;exact dy (λw' _ a i=>Jkz (x:=.const (.int .u32 1)) rfl hy om i (some d) w') hd kk
theorem Jhx{t:TypeId}(hv:v<32)(kk:WN N P n ops Q drest ((d,.int .u32 ((2^v:Nat):Int))::al) w)(hy:ev al y=some (.int .i64 (v:Int)):=by rfl)(hd:Nat.blt d n=true:=by rfl):
  WN N P n ops Q ((0,⟨some d,.binOp .shl t (.const (.int .u32 1)) y yt,ty,pos,aft,none⟩)::drest) al w:=by
 rw[<-Jbl hv]at kk;exact ny_ (λw' _ a i=>Jkz (x:=.const (.int .u32 1)) rfl hy om i (some d) w') hd kk
end
section
variable {N:Nat->Prop} {P:Program} {n:Nat} {al:AL} {w:World} {Q:Exit->Act->World->Prop} {ops:Array Oper} {drest:List (Nat×Oper)}
variable {d ty:Nat} {pos:String} {aft:Array Edge}
theorem Qjf{v:Value}(hb:∀ w,(Instr.build t pw).run P w=.ok v w)(hx:evs al (parts.toList.map (·.2))=some vs)(hp:((parts.toList.map (·.1)).zip vs).toArray=pw){a:Act}(ha:Fr n al a)(dst:Option Nat)(w:World):
  (execOp a.eval ⟨dst,.build t parts,ty,pos,aft,none⟩).run P w=.ok (.value v) w:=by
 subst hp;have o:=ha.evs hx;have j:(parts.map fun (i,x)=>(i,a.eval x))=((parts.toList.map (·.1)).zip vs).toArray:=by grind
 simp only[execOp,j,Sem.run_bind,hb w];rfl
theorem Jjb{v:Value}(hb:∀ w,(Instr.build t pw).run P w=.ok v w)(kk:WN N P n ops Q drest ((d,v)::al) w)(hx:evs al (parts.toList.map (·.2))=some vs:=by rfl)(hp:((parts.toList.map (·.1)).zip vs).toArray=pw:=by rfl)(hd:Nat.blt d n=true:=by rfl): WN N P n ops Q ((0,⟨some d,.build t parts,ty,pos,aft,none⟩)::drest) al w :=
 ny_ (λw' _ a i=>Qjf hb hx hp i (some d) w') hd kk
theorem dbld{v:Value}(hb:∀ w,(Instr.build t pw).run P w=.ok v w)(kk:WD P n ops Q drest ((d,v)::al) w)(hx:evs al (parts.toList.map (·.2))=some vs:=by rfl)(hp:((parts.toList.map (·.1)).zip vs).toArray=pw:=by rfl)(hd:Nat.blt d n=true:=by rfl): WD P n ops Q ((0,⟨some d,.build t parts,ty,pos,aft,none⟩)::drest) al w :=
 dy (λw' _ a i=>Qjf hb hx hp i (some d) w') hd kk
end
theorem Gu(hs:s<4294967296): (bits .and .u32 ((s / 2^v:Nat):Int) 1 == 1)=s.testBit v:=by
 have i:s / 2^v<4294967296:=Nat.lt_of_le_of_lt (Nat.div_le_self _ _) hs;have j:=u32_and_nat (s / 2^v) 1 i om;grind
theorem Qcg(hs:s<4294967296): (bits .and .u32 ((s / 2^v:Nat):Int) 1 == 0) = !s.testBit v:=by
 have i:s / 2^v<4294967296:=Nat.lt_of_le_of_lt (Nat.div_le_self _ _) hs;have j:=u32_and_nat (s / 2^v) 1 i om;grind
def Kf(s t:Nat): Nat:=s &&& (4294967295-t)
theorem Qdc(hs:s<4294967296): Kf s t<4294967296:=by grind [Kf,Nat.lt_of_le_of_lt,Nat.and_le_left]
theorem Jpb(hs:s<4294967296)(ht:t<4294967296): (Kf s t).testBit i=(s.testBit i && !t.testBit i):=by
 unfold Kf;have e:4294967295-t=2^32-(t+1):=om
 rw[Nat.testBit_and,e,Nat.testBit_two_pow_sub_succ om];by_cases hi:i<32
 .grind
 have:s.testBit i=false:=Nat.testBit_lt_two_pow (nM hs (Nat.pow_le_pow_right (n:=2) (by decide) (show 32<=i by omega)));rw[this];rfl
theorem Jnp(hs:s<4294967296)(ht:t<4294967296): bits .andNot .u32 (s:Int) (t:Int)=((Kf s t:Nat):Int):=u32_andNot_nat s t hs ht
theorem Jjp(hs:s<4294967296)(ht:t<4294967296): bits .or .u32 (s:Int) (t:Int)=((s ||| t:Nat):Int):=u32_or_nat s t hs ht
theorem Jbx(hs:s<4294967296)(ht:t<4294967296): s ||| t<4294967296:=Nat.or_lt_two_pow (n:=32) hs ht
end Go.Wk
namespace Go.Proofs.YtgobkbeokaaplaaGreatDoor
open Go.RowKit Pl Go.Wk
attribute [local irreducible] WC WL QX WD WDB WP WN WG
variable {cs vars:List Nat}{b base c d k n s ty z:Nat}{w:World}
def Xw(vars:List Nat)(s:Nat): List Nat:=(List.range vars.length).filter λi=>s.testBit (vars.getD i 0)
def inS(vars:List Nat)(s:Nat): List Nat:=vars.filter λv=>s.testBit v
theorem Jzx(h:c∈Xw vars s): c<vars.length:=List.mem_range.1 (List.mem_filter.1 h).1
theorem Qpn(h:k<=n): (List.range n).take k=List.range k:=by grind
def Zm(vars:List Nat)(s k:Nat): List Nat:=(List.range k).filter λi=>s.testBit (vars.getD i 0)
theorem Iv(vars:List Nat)(s k:Nat): Zm vars s (k+1)=Zm vars s k++if s.testBit (vars.getD k 0) then[k] else[]:=by grind [Zm,List.range_succ]
theorem Jvj(h:k<vars.length): inS (vars.take (k+1)) s=inS (vars.take k) s++if s.testBit (vars.getD k 0) then[vars.getD k 0] else[]:=by grind [inS,Qr,List.filter_cons_of_pos,List.filter_cons_of_neg]
theorem Jvz(vars:List Nat)(s:Nat): ∀ k,k<=vars.length->(Zm vars s k).length=(inS (vars.take k) s).length
 | 0,_=>by simp[Zm,inS]
 | k+1,h=>by
  rw[Iv,Jvj om,List.length_append,List.length_append,Jvz vars s k om];split<;>rfl
theorem Qqp(vars:List Nat)(s:Nat)(z:Row): ∀ k,k<=vars.length->pmR (Zm vars s k) (pmR vars z)=pmR (inS (vars.take k) s) z
 | 0,_=>by simp[Zm,inS,pmR]
 | k+1,h=>by
  have ih:=Qqp vars s z k om;rw[Iv,Jvj om];unfold pmR at *;grind
theorem bs1Int''(z:Int)(w:World): (Instr.buildSlice 26 1 #[(0,.int .i64 z)]).run Tryz.prog w=.ok (.slice (some ⟨w.heap.size,0,none⟩) 1 1) (w.alloc (.cells [.int .i64 z].toArray 3)):=kr
theorem Qxh(a b:List Nat): nz (a++b)=nz a++nz b:=by simp[nz]
theorem Qkr(a b:List Int): Jt (a++b)=Jt a++Jt b:=by simp[Jt]
abbrev Zs(w:World)(base:Nat)(v:Value)(cs:List Nat): Prop:=w.ownsRow base 3 1 v cs.length (Jt (nz cs))
theorem apI{al:AL}{Q:Exit->Act->World->Prop}{ops:Array Oper}{rest:List Oper}{pos:String}{aft:Array Edge}{x y:Operand}{v:Value}(ho:Zs w base v cs)(hb:Blk w b 3 [.int .i64 (z:Int)])(hm:cs.length<=1100000)(hbase:base<=w.heap.size)(kk:∀ v' w',Zs w' base v' (cs++[z])->w.grownBy w' v.ownBlock->(∀ g,v'.ownBlock=some g->v.ownBlock=some g∨w.heap.size<=g)->WL Tryz.prog n ops Q rest ((d,v')::al) w')(hx:ev al x=some v:=by rfl)(hy:ev al y=some (.slice (some ⟨b,0,none⟩) 1 1):=by rfl)(hd:Nat.blt d n=true:=by rfl):
  WL Tryz.prog n ops Q (⟨some d,.call { callee:=.builtin .append,args:=#[x,y],argTypes:=#[26,26] },ty,pos,aft,none⟩::rest) al w:=by
 refine apb (base:=base) EI ho (hb.rd (n:=1) rfl) (λu j=>by rw[List.mem_singleton.1 j];rfl) (by unfold maxLen;omega) om hbase ?_ hx hy hd;intro v' w' i o hn;refine kk v' w' ?_ o hn;rw[Zs,List.length_append,Qxh,Qkr];exact i
theorem Xbz{t:V3}{rs:List Row}(hA:AtV w t ⟨nz vars,vars.length,rs⟩)(hs:s<4294967296)(hasc:Qo vars)(hlt:∀ v∈vars,v<32)(hlen:∀ r∈rs,r.length=vars.length)(hbig:rs.length<=65536):
  Ret Tryz.prog 170 [.agg t.cells.toArray,.int .u32 (s:Int)] w λu w'=>Ext w w'/\∃ t':V3,u=.tuple #[.agg t'.cells.toArray,.int .i64 0]/\∃ m,Off (λk=>k<w.heap.size) w' (λx=>AtV x t' ⟨nz (inS vars s),(inS vars s).length,m⟩)/\m.length<=65536/\(∀ x∈m,x∈rs.map (pmR (Xw vars s))) /\
   ((rs.length<=12∨Srt [] (rs.map (pmR (Xw vars s))))->Zn [] (rs.map (pmR (Xw vars s))) m):=by
 obtain⟨t1,t2,t3⟩:=t;obtain⟨⟨D,d,e1,hd,db,ce⟩,e2,bd⟩:=id hA;simp only at e1 e2;subst e1;subst e2;obtain⟨ps,G,gc,_,c7,_⟩:=id bd;simp only at c7;subst c7;have d4:=Qk vars;have dk:=Jyh hasc hlt;refine enE Tryz.func170 Tryz.ntmps170 ?_;refine bxR ?_;intro w1 b c4 hb hB;refine Jw Yr ?_;intro w2 br c2 dt bm;have bp:=hB.ext c2;have ax:=c4.trans c2;have aj:Rd w 1 D (nz vars).length (Jt (nz vars)):=ce;clear ce hd db;have mono:∀ i,1<=i->i<vars.length->vars.getD (i-1) 0<vars.getD i 0:=λi h1 h2=>by
  have:=List.pairwise_iff_getElem.1 hasc (i-1) i om h2 om;simpa [List.getD,List.getElem?_eq_getElem h2,List.getElem?_eq_getElem (show i-1<vars.length by omega)] using this
 have ay:∀ i,i<vars.length->vars.getD i 0<32:=λi hi=>hlt _ (getD_mem' 0 _ hi);refine ρ ?_;refine Qs (fun (i:Nat)=>[(1,.int .u32 (s:Int)),(2,.pointer (some ⟨b,0,none⟩)),(4,.pointer (some ⟨br,0,none⟩)),(6,.int .i64 (i:Int))])
  (λi w'=>1<=i/\i<=1000/\Ext w2 w') (λi=>1000-i) 1 sB ⟨nR _,om,Ext.refl _⟩ ?_
 rintro i w3 ⟨d9,dq,af⟩;have aw:=bp.ext af;refine ldR (aw.at (i:=0) rfl) ?_;refine ciR (λh=>?_) (λh=>?_)
 .have li:i<vars.length:=by have:=oT h;omega
  clear h;have b7:Ext w3 w3.drew:=(Ext.refl w3).drew;have cw:=aw.ext b7;have ar:=aj.ext ((ax.trans af).trans b7);refine drR (scq 12 []) ?_;refine Jz (cw.at (i:=0) rfl) ?_;refine Jd (i-1) ar om ?_;refine Jz (ar.cell (Zb (show i-1<vars.length by omega))) ?_;refine Jz (cw.at (i:=0) rfl) ?_;refine Jd i ar om ?_;refine Jz (ar.cell (Zb li)) ?_;refine ρd ?_;refine cfR ?_ ?_
  .exact dF (by have:=mono i d9 li;omega)
  refine ρ ?_;exact Qm (i+1) sO ⟨om,om,af.trans b7⟩ om
 clear h;refine ldR (aw.at (i:=0) rfl) ?_;refine ρ ?_;refine Qs (fun (i:Nat)=>[(1,.int .u32 (s:Int)),(2,.pointer (some ⟨b,0,none⟩)),(4,.pointer (some ⟨br,0,none⟩)),(36,.slice D (nz vars).length d),(37,.int .i64 ((nz vars).length:Int)),(38,.int .i64 (i:Int))])
  (λi w'=>i<=vars.length/\Ext w3 w') (λi=>vars.length-i) 0 sB ⟨Nat.zero_le _,Ext.refl _⟩ ?_
 rintro i w4 ⟨hi,ao⟩;have ae:=(ax.trans af).trans ao;have dh:=aw.ext ao;refine ciR (λh=>?_) (λh=>?_)
 .have li:i<vars.length:=by have:=oT h;omega
  clear h;have cp:=aj.ext ae;refine ixR i cp om ?_;refine ldR (cp.cell (Zb li)) ?_;refine cfR ?_ ?_
  .exact dF (by have:=ay i li;omega)
  refine ρ ?_;exact Qm (i+1) sO ⟨om,ao⟩ om
 have da:i=vars.length:=by have:=oF h;omega
 clear h hi da;have a9:Ext w4 w4.drew:=(Ext.refl w4).drew;have b4:=dh.ext a9;refine drR (scq 7 [5]) ?_;refine Jz (b4.at (i:=0) rfl) ?_;refine Qf (cs:=[.int .i64 (vars.length:Int),.slice G ps.length gc]) (b4.sub2 (i:=1) rfl rfl) ?_;refine Qq (Jhn ((hA.ext (ae.trans a9)).rel)) ?_;rintro u w5 ⟨rfl,bc⟩;refine⟨bc,?_⟩;refine ρd ?_;refine cfR ?_ ?_
 .exact Qbx (by rw[d4])
 have ad:=(ae.trans a9).trans bc;have a7:Ext w2 w5:=((af.trans ao).trans a9).trans bc;refine Jw Yr ?_;intro w6 bq bb du cv;have bo:=(bp.ext a7).ext bb;have bz:=ad.trans bb;have b3:=(bm.ext a7).ext bb;refine ldR (bo.at (i:=0) rfl) ?_;refine ρ ?_;refine Zj (fun (k:Nat) (vv vc:Value)=>[(1,.int .u32 (s:Int)),(2,.pointer (some ⟨b,0,none⟩)),(4,.pointer (some ⟨br,0,none⟩)),(9,.pointer (some ⟨bq,0,none⟩)),(10,vc),(59,.slice D (nz vars).length d),(60,.int .i64 ((nz vars).length:Int)),(61,.int .i64 (k:Int))])
  (λk vv vc w'=>k<=vars.length/\Ext w w'/\Blk w' b 134 [.slice D (nz vars).length d,.int .i64 (vars.length:Int),.slice G ps.length gc]/\Blk w' br 134 [.slice none 0 0,.int .i64 0,.slice none 0 0]/\Blk w' bq 134 [vv,.int .i64 0,.slice none 0 0] /\
   Zs w' w.heap.size vv (inS (vars.take k) s)/\Zs w' w.heap.size vc (Zm vars s k)/\∀ g,vv.ownBlock=some g->vc.ownBlock≠some g) (λk _ _=>vars.length-k) 0 (.slice none 0 0) (.slice none 0 0) sB
  ⟨Nat.zero_le _,bz,bo,b3,cv,Zd _ _ _ _,Zd _ _ _ _,λg e=>(by cases e)⟩ ?_
 clear bo b3 cv;rintro k vv vc w7 ⟨hk,a8,av,a3,a5,a6,ac,ah⟩;refine ciR (λh=>?_) (λh=>?_)
 .have lk:k<vars.length:=by have:=oT h;omega
  clear h;have co:=aj.ext a8;have cg:=Jvz vars s k om;have dn:(inS (vars.take k) s).length<=32:=by
   have:=List.length_filter_le (λv=>s.testBit v) (vars.take k);rw[List.length_take]at this;unfold inS;omega
  refine ixR k co om ?_;refine ldR (co.cell (Zb lk)) ?_;refine ρ ?_;refine Ia (s:=s) (v:=vars.getD k 0) (by have:=ay k lk;omega) ?_;refine ciR (λh=>?_) (λh=>?_)
  .rw[Gu hs]at h;refine ldR (a5.at (i:=0) rfl) ?_;refine Qb (bs1Int'' _) ?_;intro w8 b8 j dv dg;refine ρ ?_;refine apI (Jk a6 j) dg om (a8.trans j).size ?_;intro Z w9 ap ab ca;have a1:∀ {w':World} {cs:List Nat} {v:Value},Zs w' w.heap.size v cs->∀ g,v.ownBlock=some g->w.heap.size<=g/\g<w'.heap.size:=λho g C=>by
    obtain⟨_,_,_,_,hf⟩:=Jb ho;exact hf g C
   have an:Ext w w9:=Qa (a8.trans j) ab (λg C=>(a1 a6 g C).1);have a4:=(a5.ext j).grown ab ((a5.ext j).ne_own (Jk a6 j) rfl);have au:=(av.ext j).grown ab ((av.ext j).ne_own (Jk a6 j) rfl);have b2:=(a3.ext j).grown ab ((a3.ext j).ne_own (Jk a6 j) rfl);have bi:Zs w9 w.heap.size vc (Zm vars s k):=Je (Jk ac j) (GrN.by ab λg C=>C) (λg C e=>ah g e C);have b1:∀ g,Z.ownBlock=some g->vc.ownBlock≠some g:=λg C e=>by
    rcases ca g C with h'|h'
    .exact ah g h' e
    have:=(a1 ac g e).2;have:=j.size;omega
   have di:Z.oneCell'=true:=by obtain⟨_,_,e,_⟩:=Jb ap;rw[e];rfl
   refine Xo (p:=⟨bq,0,none⟩) (a4.cell 0) (a4.frozen _) ?_ (hv:=di);have be:w9.grownBy (w9.setCell ⟨bq,0,none⟩ Z) (some bq):=Qmw _;have cr:=a4.set 0 Z;have c1:Ext w (w9.setCell ⟨bq,0,none⟩ Z):=an.setCell (by simp only;have:=ad.size;omega) _;have c6:Zs (w9.setCell ⟨bq,0,none⟩ Z) w.heap.size Z (inS (vars.take k) s++[vars.getD k 0]):=Je ap (GrN.by be λg C=>C) (λg C e=>by injection e with e;subst e;exact a4.ne_own ap rfl C.symm);have bg:Zs (w9.setCell ⟨bq,0,none⟩ Z) w.heap.size vc (Zm vars s k):=Je bi (GrN.by be λg C=>C) (λg C e=>by injection e with e;subst e;exact a4.ne_own bi rfl C.symm);have b5:∀ {x:Nat},x<w5.heap.size->x≠bq:=λh e=>by omega
   have df:Blk (w9.setCell ⟨bq,0,none⟩ Z) b 134 _:=au.far (b5 (by have:=bp.lt;have:=a7.size;omega)) _;have cq:Blk (w9.setCell ⟨bq,0,none⟩ Z) br 134 _:=b2.far (b5 (by have:=bm.lt;have:=a7.size;omega)) _;generalize w9.setCell ⟨bq,0,none⟩ Z=am at *
   clear a4 au b2 bi an ab be ap ca;refine Qb (bs1Int'' _) ?_;intro b6 dw O dm cx;refine ρ ?_;refine apI (Jk bg O) cx om (c1.trans O).size ?_;intro bw aa ch a2 cb;have ag:Ext w aa:=Qa (c1.trans O) a2 (λg C=>(a1 bg g C).1);have nb:∀ {g:Nat} {cs:List Value},Blk am g 134 cs->Blk aa g 134 cs:=λh=>(h.ext O).grown a2 ((h.ext O).ne_own (Jk bg O) rfl);refine ρ ?_;refine Qe (k+1) Z bw sO ⟨om,ag,nb df,nb cq,nb cr,?_,?_,λg C e=>?_⟩ om
   .rw[Jvj lk,if_pos h];exact Je (Jk c6 O) (GrN.by a2 λg C=>C) (λg C e=>b1 g C e)
   .rw[Iv,if_pos h];exact ch
   rcases cb g e with h'|h'
   .exact b1 g C h'
   have:=(a1 c6 g C).2;have:=O.size;omega
  rw[Gu hs]at h;have hf:¬ s.testBit (vars.getD k 0)=true:=by rw[h];simp
  refine ρ ?_;refine Qe (k+1) vv vc sO ⟨om,a8,av,a3,a5,?_,?_,ah⟩ om
  .rw[Jvj lk,if_neg hf,List.append_nil];exact a6
  rw[Iv,if_neg hf,List.append_nil];exact ac
 have d7:k=vars.length:=by have:=oF h;omega
 subst d7;clear h;rw[List.take_length]at a6;have dc:Zm vars s vars.length=Xw vars s:=rfl;rw[dc]at ac;obtain⟨VA,d1,bs,d2,_⟩:=Jb a6;obtain⟨CA,dj,d0,dd,_⟩:=Jb ac;have bh:(Xw vars s).length<=32:=by
  have:=List.length_filter_le (λi=>s.testBit (vars.getD i 0)) (List.range vars.length);rw[List.length_range]at this;unfold Xw;omega
 have d8:(inS vars s).length<=32:=by
  have:=List.length_filter_le (λv=>s.testBit v) vars;unfold inS;omega
 refine Jh (cs:=[.int .i64 (vars.length:Int),.slice G ps.length gc]) (av.sub2 (i:=1) rfl rfl) ?_;refine ρ ?_;have aq:IntsV w7 vc (nz (Xw vars s)):=by
  refine⟨CA,dj,by rw[Qk];exact d0,by rw[Qk];exact dd,by rw[Qk];omega,?_⟩;rw[Qk];have:=ac;rw[d0]at this;exact Rd.own this
 refine cl (Qjr (cs:=Xw vars s) ((hA.ext a8).rel) aq hlen (λc hc=>Jzx hc) bh hbig) ?_;rintro u w8 ⟨j,rv,rfl,⟨z,RB,rm,rd,rfl⟩,m,c9,d6,d5,c8⟩;refine Jw Kz ?_;intro w9 b9 an de au;refine Qh (cs':=[.int .i64 z,.slice RB rm rd]) au ?_ Uw;intro am cy dl c3;have J:Ext w8 am:=c3 w8 an de;refine Ja cy ?_;have ak:=(a5.ext j).ext J;refine ρ ?_;refine stB (o:=1) (us:=[.int .i64 z,.slice RB rm rd]) ak (by simp) Uw ?_;intro b6 bn ai;refine Ja bn ?_;have cm:w.heap.size<=bq:=by have:=ad.size;omega
 have ba:Ext w b6:=Jdc ((a8.trans j).trans J) ai cm;have ck:br≠bq:=by have:=bm.lt;have:=a7.size;omega
 have bl:Blk b6 br 134 _:=((a3.ext j).ext J).grown ai (λe=>by injection e with e;exact ck e);refine Qh (cs':=[vv,.int .i64 z,.slice RB rm rd]) bl ?_ (λu hu=>by
  simp only[List.mem_cons,List.not_mem_nil,or_false]at hu;rcases hu with rfl|rfl|rfl
  .rw[bs];rfl
  .rfl
  rfl)
 intro aa bj a2 _;refine ρ ?_;have cj:w.heap.size<=br:=by have:=c4.size;omega
 have ag:Ext w aa:=Jdc ba a2 cj;refine Zk bj ⟨ag,(vv,.int .i64 z,.slice RB rm rd),rfl,m,?_,d6,d5,c8⟩;have cc:GrN (λk=>k=bq∨k=br) am aa:=(GrN.by ai λk e=>.inl (by injection e with e;exact e.symm)).trans (GrN.by a2 λk e=>.inr (by injection e with e;exact e.symm));have cn:bq<w7.heap.size/\br<w7.heap.size:=⟨a5.lt,a3.lt⟩;intro w' cd;have bf:GrN (λk=>k<w7.heap.size) w8 w':=((GrN.ext J).trans (cc.mono λk _ hk=>by rcases hk with rfl|rfl;(exact cn.1);exact cn.2)).trans (cd.mono λk _ hk=>nM hk a8.size);obtain⟨rv,cz,d3⟩:=c9 w' bf;have az:(Value.int .i64 z)=.int .i64 ((Xw vars s).length:Int)/\Value.slice RB rm rd=rv:=by
  simp only[Value.agg.injEq,Array.mk.injEq,List.cons.injEq,and_true]at cz;exact cz
 have c5:Zs w' w.heap.size vv (inS vars s):=by
  have h1:=Jk (Jk a6 j) J;have h2:Zs aa w.heap.size vv (inS vars s):=Je h1 cc λg C hk=>by
   rcases hk with rfl|rfl
   .exact ak.ne_own h1 rfl C.symm
   exact((a3.ext j).ext J).ne_own h1 rfl C.symm
  refine Je h2 cd λg C hk=>?_;obtain⟨_,_,_,_,hf⟩:=Jb h2;have:=(hf g C).1;omega
 have cg:(Xw vars s).length=(inS vars s).length:=by
  have:=Jvz vars s vars.length (nR _);rw[List.take_length]at this;exact this
 refine⟨⟨VA,d1,by rw[Qk];exact bs,by rw[Qk];exact d2,by rw[Qk];omega,?_⟩,?_,?_⟩
 .rw[Qk];rw[bs]at c5;exact Rd.own c5
 .simp only;rw[<-cg];exact az.1
 simp only;rw[az.2];exact d3
open Go.RowKit Pl Go.Wk
variable {nums vars:List Nat}{ls rs:List Row}{ar b s:Nat}{w:World}
def RowG(w:World)(cs:List Value)(z:Row): Prop:=∃ v,cs=[v]/\RowV w v z
theorem RowG.ext{w w':World}{cs:List Value}{z:Row}(h:RowG w cs z)(hx:Ext w w'): RowG w' cs z:=by
 obtain⟨v,e,i⟩:=h;exact⟨v,e,i.ext hx⟩
theorem Qjh: ∀(ps:List (List Value×Row)) (w:World),(∀ p∈ps,RowG w p.1 p.2)->∃ qs:List Pr,qs.map (·.2)=ps.map (·.2)/\qs.map (·.1)=Qw ps/\qs.length=ps.length/\∀ q∈qs,RowV w q.1 q.2
 | [],w,_=>⟨[],rfl,rfl,rfl,λq hq=>by cases hq⟩
 | p::ps,w,h=>by
  obtain⟨qs,h1,h2,h3,h4⟩:=Qjh ps w λq hq=>h q (List.mem_cons_of_mem _ hq);obtain⟨v,e,hr⟩:=h p (mC ..);refine⟨(v,p.2)::qs,by simp[h1],?_,by simp[h3],λq hq=>?_⟩;repeat grind [Qw,List.mem_cons.1]
theorem Qnm{v:Value}(h:GV 1 RowG w v ls): RowsV w v ls:=by
 obtain⟨ps,A,c,e,u,o,j,i,hp⟩:=h;obtain⟨C,Z,O,J,G⟩:=Qjh ps w λp D=>(hp p D).2;rw[<-J]at u o j i;exact⟨C,A,c,by rw[e,Z],u,o,j,by rw[O];exact i,G⟩
def YM(b:Nat)(base:Nat)(l:List Row)(w:World): Prop:=b<base/\∃ v,Blk w b 95 [v]/\OwnG 59 1 RowG w base v l
theorem Xjp(hb:b<s): YZ s (.func (.func 172) #[] #[.pointer (some ⟨b,0,none⟩)]) (λk=>k=b) (YM b):=by
 refine⟨λbase l w w' h hg=>?_,_,_,_,rfl,λbase l w w1 Z z C h hx hr hl=>?_⟩
 .obtain⟨o,v,hB,hO⟩:=h;exact⟨o,v,Jy hB hg (λe=>om),hO.gr hg λk hk=>hk.2⟩
 obtain⟨o,v,hB,hO⟩:=h;have J:=hB.ext hx;have D:=hO.ext hx;obtain⟨RA,rn,rc,a6,_,_,_⟩:∃ A n c,Z=.slice A n c/\True/\True/\True:=by obtain⟨A,c,e,_⟩:=hr;exact⟨A,_,c,e,trivial,trivial,trivial⟩
 refine enE Tryz.func172 Tryz.ntmps172 ?_;refine ldR (J.at (i:=0) rfl) ?_;refine Qb (cs:=[Z]) (λw=>Jdr Z w RA rn rc a6) ?_;intro w2 b2 j af ab;obtain⟨_,_,_,_,hf⟩:=D.form;have hΦ:Off (Xf base v) w2 (λu=>RowG u [Z] z):=((hr.off.mono λk hk h=>by
  rcases h with h|h
  .omega
  obtain⟨_,_,_,_,a9⟩:=hO.form;exact(a9 k h).2).imp λu h=>⟨Z,rfl,h⟩).ext j
 refine ρ ?_;refine apG ER (Φ:=RowG) (D.ext j) ab rfl (λu hu=>by rw[List.mem_singleton.1 hu,a6];rfl) hΦ om om (nL C (hx.trans j).size) ?_;intro v3 O a4 a3 ac;obtain⟨A3,c3,e3,ae,ad⟩:=a4.form;have a1:GrN (λk=>k=b∨base<=k) w1 O:=(GrN.ext j).trans (GrN.by a3 λk ek=>.inr (hf k ek).1);have a7:some b≠v.ownBlock:=by
  obtain⟨ps,_,ho,_⟩:=D;exact J.ne_own ho rfl
 have G:Blk O b 95 [v]:=(J.ext j).grown a3 a7;refine Xo (p:=⟨b,0,none⟩) (G.cell 0) (G.frozen _) ?_ (hv:=by rw[e3];rfl);have a5:=G.set 0 v3;have a2:GrN (λk=>k=b) O (O.setCell ⟨b,0,none⟩ v3):=GrN.set _ rfl;refine ρ ?_;have a8:(l++[z]).length=l.length+1:=by simp
 rw[a8]at e3;refine ld (v:=.slice A3 (l.length+1) c3) ((a5.at (i:=0) rfl).trans (by simp[e3])) ?_;refine ρ ?_;have aa:OwnG 59 1 RowG (O.setCell ⟨b,0,none⟩ v3) base v3 (l++[z]):=a4.gr a2 λk hk=>by omega
 refine Jj ⟨?_,⟨o,v3,a5,aa⟩,a1.trans (a2.mono λk _ hk=>.inl hk)⟩;rw[decide_eq_true (show((l.length+1:Nat):Int)<=65536 by omega)]
theorem Xbm(z:Int)(A:Option Addr)(n c:Nat)(w:World): (Instr.build 134 #[(1,.agg #[.int .i64 z,.slice A n c])]).run Tryz.prog w=.ok (.agg #[.slice none 0 0,.int .i64 z,.slice A n c]) w:=kr
theorem Xjq{Na:Option Addr}{t:V3}(hA:AtV w t ⟨nz vars,ar,rs⟩)(hB:Blk w b 26 [.slice Na nums.length nums.length])(hN:Rd w 1 Na nums.length (Jt (nz nums)))(hlt:∀ v∈vars,v<nums.length)(hl:vars.length<=1000):
  Ret Tryz.prog 169 [.agg t.cells.toArray,.pointer (some ⟨b,0,none⟩)] w λu w'=>Ext w w'/\∃ v1,u=.agg #[v1,t.2.1,t.2.2]/\Off (λk=>k<w.heap.size) w' (λx=>IntsV x v1 (nz (vars.map λv=>nums.getD v 0))):=by
 obtain⟨t1,t2,t3⟩:=t;obtain⟨⟨D,d,e1,hd,bf,ao⟩,e2,af⟩:=id hA;simp only at e1 e2;subst e1;subst e2;obtain⟨ps,G,gc,_,aj,_⟩:=id af;simp only at aj;subst aj;have bo:=Qk vars;have an:Rd w 1 D (nz vars).length (Jt (nz vars)):=ao;clear ao hd bf;refine enE Tryz.func169 Tryz.ntmps169 ?_;refine bxR ?_;intro w1 b1 ac bz b4;refine Jw Yr ?_;intro w2 b2 a6 bw ay;refine Jh (cs:=[.int .i64 (ar:Int),.slice G ps.length gc]) ((b4.ext a6).sub2 (i:=1) rfl rfl) ?_;refine Xh (Xbm _ _ _ _ _) ?_;refine Jw Yr ?_;intro w3 b3 b9 bh bm;refine Qh (cs':=[.slice none 0 0,.int .i64 (ar:Int),.slice G ps.length gc]) bm ?_ (λu hu=>by
  simp only[List.mem_cons,List.not_mem_nil,or_false]at hu;rcases hu with rfl|rfl|rfl<;>rfl)
 intro w4 bl br b8;have a4:Ext w2 w4:=b8 w2 b9 bh;have ag:Ext w w4:=(ac.trans a6).trans a4;have az:=(b4.ext a6).ext a4;have ax:=ay.ext a4;refine ldR (az.at (i:=0) rfl) ?_;refine ρ ?_;refine Jo (fun (k:Nat) (vv:Value)=>[(1,.pointer (some ⟨b,0,none⟩)),(3,.pointer (some ⟨b2,0,none⟩)),(4,.pointer (some ⟨b3,0,none⟩)),(11,.slice D (nz vars).length d),(12,.int .i64 ((nz vars).length:Int)),(13,.int .i64 (k:Int))])
  (λk vv w'=>k<=vars.length/\Ext w w'/\Blk w' b2 134 [.slice none 0 0,.int .i64 0,.slice none 0 0]/\Blk w' b3 134 [vv,.int .i64 (ar:Int),.slice G ps.length gc]/\Zs w' w.heap.size vv ((vars.take k).map λv=>nums.getD v 0)) (λk _=>vars.length-k) 0 (.slice none 0 0) sB
  ⟨Nat.zero_le _,ag,ax,bl,Zd _ _ _ _⟩ ?_
 rintro k vv w5 ⟨hk,a2,a1,ab,a3⟩;refine ciR (λh=>?_) (λh=>?_)
 .have lk:k<vars.length:=by have:=oT h;omega
  clear h;have au:=an.ext a2;have ah:=hlt _ (getD_mem' 0 _ lk);obtain⟨own,J⟩:∃ own,own=vv.ownBlock:=⟨_,rfl⟩;have am:∀ j,own=some j->w.heap.size<=j:=λj ej=>by
   obtain⟨_,_,_,_,hf⟩:=Jb a3;exact(hf j (by rw[<-J];exact ej)).1
  have bq:((vars.take k).map λv=>nums.getD v 0).length<=1000:=by simp;omega
  refine ixR k au om ?_;refine ldR (au.cell (Zb lk)) ?_;refine ρ ?_;refine drN (one own) 8 (scq 10 [6,7,109]) kr ?_;have C:Ext w5 w5.drew:=(Ext.refl w5).drew;have O:=ab.ext C;have bi:=hB.ext (a2.trans C);have aq:=hN.ext (a2.trans C);have a7:=Jk a3 C;have n3:¬ one own b3:=λe=>O.ne_own a7 rfl (by rw[<-J];exact e.symm);have aa:∀ {g:Nat},g<w.heap.size->¬ one own g:=λhg e=>by have:=am _ e;omega
  refine ρn ?_;refine nld (Jr (O.at (i:=0) rfl) n3) ?_;refine ρn ?_;refine nld (Jr (bi.at (i:=0) rfl) (aa hB.lt)) ?_;refine ρn ?_;refine nix (vars.getD k 0) aq ah ?_;refine ρn ?_;refine nld (λw' hg=>(Yj aq hg (λh0 ad e=>aa (by
   obtain⟨c1,e',ak,_⟩:=hN.2 h0;rw[e]at e';injection e' with e';subst e';exact ak))).cell (Zb ah)) ?_
  refine ρn ?_;refine nop ?_;refine bsl (bs1Int'' _) ?_;intro w6 b6 o bs bj;refine ρ ?_;refine Ju (GrN.ext o) ?_;refine nop ?_;refine apI (Jk a7 o) bj om (((a2.trans C).trans o).size) ?_;intro a5 w7 ae a8 bp;refine ρ ?_;refine Ju (GrN.by a8 λj ej=>by rw[<-J]at ej;exact ej) ?_;refine ρn ?_;refine Xu ?_;have Z:=(O.ext o).grown a8 ((O.ext o).ne_own (Jk a7 o) rfl);have av:=((a1.ext C).ext o).grown a8 (((a1.ext C).ext o).ne_own (Jk a7 o) rfl);have b7:Ext w w7:=Qa ((a2.trans C).trans o) a8 (λj ej=>am j (by rw[J];exact ej));have bn:a5.oneCell'=true:=by obtain⟨_,_,e,_⟩:=Jb ae;rw[e];rfl
  refine sto (p:=⟨b3,0,none⟩) (Z.cell 0) (Z.frozen _) ?_ (hv:=bn);have bd:GrN (λk=>k=b3) w7 (w7.setCell ⟨b3,0,none⟩ a5):=GrN.set _ rfl;have bg:w.heap.size<=b3:=by have:=(ac.trans a6).size;omega
  refine ω5 ?_;refine Uu ?_;refine ρn ?_;refine ρ ?_;refine Jf (k+1) a5 sO ⟨om,b7.setCell bg _,av.far (by simp only;have:=ay.lt;omega) _,Z.set 0 a5,?_⟩ om;rw[Qr 0 lk,List.map_append];exact Je ae bd (λg eg e=>by subst e;exact Z.ne_own ae rfl eg.symm)
 have bc:k=vars.length:=by have:=oF h;omega
 subst bc;clear h;rw[List.take_length]at a3;obtain⟨VA,b5,a9,ai,ba⟩:=Jb a3;rw[List.length_map]at a9 ai;refine Ja ab ?_;refine Qh (cs':=[vv,.int .i64 (ar:Int),.slice G ps.length gc]) a1 ?_ (λu hu=>by
  simp only[List.mem_cons,List.not_mem_nil,or_false]at hu;rcases hu with rfl|rfl|rfl
  .rw[a9];rfl
  .rfl
  rfl)
 intro w6 aw be o;refine ρ ?_;have ap:w.heap.size<=b2:=by have:=ac.size;omega
 refine Jzr aw ⟨o w a2 ap,vv,rfl,?_⟩;have bb:Zs w6 w.heap.size vv (vars.map λv=>nums.getD v 0):=Je a3 (GrN.by be λg eg=>eg) (λg eg e=>by injection e with e;subst e;exact a1.ne_own a3 rfl eg.symm);refine(Jxx bb (λg eg hk=>by have:=(ba g eg).1;omega)).imp λx h=>⟨VA,b5,by rw[Qk,List.length_map];exact a9,by rw[Qk,List.length_map];exact ai,by rw[Qk,List.length_map];omega,?_⟩;rw[a9]at h;rw[Qk,List.length_map];simp only[List.length_map]at h;exact Rd.own h
end Go.Proofs.YtgobkbeokaaplaaGreatDoor
namespace Go.Proofs.YtgobkbeokaaplaaGreatDoor
open Pl Go.Wk
variable {vars vs:List Nat}{k m n s u v:Nat}
def bk(s v:Nat): List Nat:=(List.range v).filter λu=>s.testBit u
theorem bk_mem: u∈bk s v↔u<v/\s.testBit u=true:=by simp[bk]
theorem Ge(s v:Nat): bk s (v+1)=bk s v++if s.testBit v then[v] else[]:=by grind [bk,List.range_succ]
theorem Jqx(s v:Nat): Qo (bk s v):=List.Pairwise.sublist List.filter_sublist List.pairwise_lt_range
theorem Yo(s v:Nat): (bk s v).length<=v:=by
 have:=List.length_filter_le (λu=>s.testBit u) (List.range v);rw[List.length_range]at this;exact this
theorem Qxz(s n:Nat): ∀ u,u<=n->lv (bk s n) u=(bk s u).length
 | 0,_=>by rw[Jwz];rfl
 | u+1,h=>by
  have ih:=Qxz s n u om;rw[Ge,List.length_append,<-ih];by_cases hb:s.testBit u=true
  .rw[if_pos hb,(Ys (Jqx s n) (bk_mem.2 ⟨om,hb⟩)).1];rfl
  rw[if_neg hb,Jqn (λh'=>hb (bk_mem.1 h').2)];rfl
theorem Jlh(ha:Qo vs)(hk:k<vs.length): lv vs (vs.getD k 0)=k:=by
 obtain⟨_,i,j⟩:=Ys ha (getD_mem' 0 vs hk);exact Qxk (Qcw ha) i hk ((Qd 0 vs i).symm.trans (j.trans (Qd 0 vs hk)))
theorem Jyg(hs:s<2^n)(h:s.testBit u=true): u<n:=by grind [Nat.lt_or_ge,Nat.testBit_lt_two_pow,Nat.lt_of_lt_of_le,Nat.pow_le_pow_right]
def Yq(s v:Nat): List Nat:=(List.range 32).map λu=>if u<v/\s.testBit u=true then(bk s u).length else 0
theorem Jzd(s v:Nat): (Yq s v).length=32:=by simp[Yq]
theorem Qtl(hu:u<32)(h:s.testBit u=true): (Yq s 32).getD u 0=lv (bk s 32) u:=by grind [Qxz,Yq,List.getD]
theorem Qxj(hv:v<32): Yq s (v+1)=if s.testBit v then(Yq s v).set v (bk s v).length else Yq s v:=by
 apply List.ext_getElem?
 grind [Jzd,Yq,List.getElem?_range,Nat.lt_or_ge]
def rnm(vars:List Nat)(s:Nat): List Nat:=(inS vars s).map λv=>lv (bk s 32) v
theorem inS_mem: v∈inS vars s↔v∈vars/\s.testBit v=true:=by simp[inS]
theorem Xxz(h:Qo vars): Qo (inS vars s):=List.Pairwise.sublist List.filter_sublist h
theorem Xjw(ha:Qo vs)(hu:u∈vs)(h:u<v): lv vs u<lv vs v:=by
 have i:=(Ys ha hu).1;have mono:∀ k,lv vs (u+1)<=lv vs (u+1+k):=by
  intro k;induction k with
  | zero=>exact nR _
  | succ k ih=>
   by_cases h:u+1+k∈vs
   repeat grind [Ys,Nat.add_assoc,Jqn]
 have:=mono (v-(u+1));grind
theorem Qnv(h:Qo vars)(hl:∀ v∈vars,v<32): Qo (rnm vars s):=by
 unfold rnm Qo;rw[List.pairwise_map];refine List.Pairwise.imp_of_mem (fun {u v} hu hv huv=>?_) (Xxz (s:=s) h);exact Xjw (Jqx s 32) (bk_mem.2 ⟨hl u (inS_mem.1 hu).1,(inS_mem.1 hu).2⟩) huv
theorem Qnt(hl:∀ v∈vars,v<32)(hk:k∈rnm vars s): k<(bk s 32).length:=by
 obtain⟨v,i,rfl⟩:=List.mem_map.1 hk;obtain⟨o,j⟩:=inS_mem.1 i;exact(Ys (Jqx s 32) (bk_mem.2 ⟨hl v o,j⟩)).2.1
theorem Qjk(vars:List Nat)(s:Nat): (rnm vars s).length=(inS vars s).length:=by simp[rnm]
def Ig(m:Nat)(vars:Nat->List Nat)(rs:Nat->List Row)(s:Nat)(z:Row): Prop:=∀ i,i<m->∃ r∈rs i,∀ j,j<(vars i).length->s.testBit ((vars i).getD j 0)=true->r.getD j V0=z.getD ((vars i).getD j 0) V0
theorem Jmz{vars:List Nat}{s:Nat}{r z:Row}(hr:r.length=vars.length): ∀ k,k<=vars.length->(pmR (Zm vars s k) r=pmR (inS (vars.take k) s) z↔∀ j,j<k->s.testBit (vars.getD j 0)=true->r.getD j V0=z.getD (vars.getD j 0) V0)
 | 0,_=>by simp[Zm,inS,pmR]
 | k+1,h=>by
  have ih:=Jmz (s:=s) (z:=z) hr k om;grind [Jvz,Iv,Jvj,pmR,Zm,V0,inS,List.append_inj,Xc]
theorem Xjn{vars:Nat->List Nat}{rs ms:Nat->List Row}(hs:s<2^n)(hn:n<=32)(hlt:∀ i,i<m->∀ v∈vars i,v<n)(hlen:∀ i,i<m->∀ r∈rs i,r.length=(vars i).length)(hms:∀ i,i<m->∀ x,x∈ms i↔x∈(rs i).map (pmR (Xw (vars i) s)))(x:Row):
  Zt (bk s 32).length m (λi=>rnm (vars i) s) ms x↔∃ z:Row,z.length=n/\x=pmR (bk s 32) z/\Ig m vars rs s z:=by
 have key:∀ z:Row,∀ i,i<m->(pmR (rnm (vars i) s) (pmR (bk s 32) z)∈ms i↔∃ r∈rs i,∀ j,j<(vars i).length->s.testBit ((vars i).getD j 0)=true->r.getD j V0=z.getD ((vars i).getD j 0) V0):=λz i hi=>by
  have e:pmR (rnm (vars i) s) (pmR (bk s 32) z)=pmR (inS (vars i) s) z:=by
   unfold rnm pmR;rw[List.map_map];refine List.map_congr_left λv J=>?_;obtain⟨h1,C⟩:=inS_mem.1 J;have G:v∈bk s 32:=bk_mem.2 ⟨by grind,C⟩;obtain⟨_,h4,h5⟩:=Ys (Jqx s 32) G;grind
  rw[e,hms i hi,List.mem_map];have hk:∀ r∈rs i,(pmR (Xw (vars i) s) r=pmR (inS (vars i) s) z↔∀ j,j<(vars i).length->s.testBit ((vars i).getD j 0)=true->r.getD j V0=z.getD ((vars i).getD j 0) V0):=λr hr=>by
   have:=Jmz (s:=s) (z:=z) (hlen i hi r hr) (vars i).length (nR _);rw[List.take_length]at this;exact this
  grind
 constructor
 .rintro⟨hl,hx⟩;let z:Row:=(List.range n).map λu=>x.getD (lv (bk s 32) u) V0
  have o:z.length=n:=by simp[z]
  have D:x=pmR (bk s 32) z:=by
   apply List.ext_getElem
   .rw[Xc];exact hl
   intro k h1 C;rw[Xc]at C;have Z:=bk_mem.1 (getD_mem' 0 _ C);have O:=Jyg hs Z.2;have h3:=Qqq (z:=z) C;grind [Qd,V0,Xc,bk,lv,List.getD,List.getElem?_range,Jlh,Jqx]
  refine⟨z,o,D,λi hi=>?_⟩;grind
 rintro⟨z,o,rfl,G⟩;exact⟨Xc _ _,λi hi=>(key z i hi).2 (G i hi)⟩
end Go.Proofs.YtgobkbeokaaplaaGreatDoor
namespace Go.Wk
open Go.RowKit
variable {b n t ty:Nat}
theorem Vb{P:Program}{al:AL}{w:World}{Q:Exit->Act->World->Prop}{ops:Array Oper}{rest:List Oper}{pos:String}{aft:Array Edge}{tt:TT}[h:Tab P tt]{x y:Operand}{k:TK}{u v:Value}(hb:Blk w b t [u])(kk:∀ w1,Blk w1 b t [v]->w.grownBy w1 (some b)->(∀ a,Ext a w->a.heap.size<=b->Ext a w1)->WL P n ops Q rest al w1)(hv:v.oneCell'=true)(ht:tk tt t=some k:=by rfl)(hk:k.size=1:=by rfl)(hp:Vr k.desc=true:=by rfl)(hx:ev al x=some (.pointer (some ⟨b,0,none⟩)):=by rfl)(hy:ev al y=some v:=by rfl):
  WL P n ops Q (⟨none,.store t x y,ty,pos,aft,none⟩::rest) al w :=
 Jps h.ok ht hk hp hx hy hv (hb.cell 0) (hb.frozen 0) (kk _ (hb.set 0 v) ⟨rfl,rfl,rfl,by simp[World.setCell],λk hk hn=>Below.heap_setCell w ⟨b,0,none⟩ v k (λe=>hn (by rw[e]))⟩ λa j i=>j.setCell i v)
end Go.Wk
namespace Go.Proofs.YtgobkbeokaaplaaGreatDoor
open Go.RowKit Pl Go.Wk _root_.Go.Proofs.Tryz
attribute [local irreducible] WC WL QX WD WDB WP WN WG
variable {cs vs:List Nat}{ts ts':List TA}{base c ca n s:Nat}{vars:Nat->List Nat}{ms rs:Nat->List Row}{A Aa:Option Addr}{v:Value}{w:World}
structure MOk(n:Nat)(ts:List TA)(vars:Nat->List Nat)(rs:Nat->List Row)(s:Nat): Prop where
 run:RunOk n ts vars rs
 sb:s<2^n
 valid:∀ i,i<ts.length->∀ r∈rs i,r.all Xl=true
 srtP:∀ i,i<ts.length->(rs i).length<=12∨Srt [] ((rs i).map (pmR (Xw (vars i) s)))
theorem Xcp(h:Qo vs): Jkh (nz vs):=λj o i=>by
 rw[Qk]at i;rw[Jwn i,Jwn (show j-1<vs.length by omega)];have:=List.pairwise_iff_getElem.1 h (j-1) j om i om;grind
theorem Jgz(h:RunOk n ts vars rs): Jkb n (ts.map (·.2)):=by
 have J:=h.n32;refine⟨om,om,by rw[List.length_map];exact h.m32,λa G=>?_,λv j=>?_⟩
 .obtain⟨t,ht,rfl⟩:=List.mem_map.1 G;obtain⟨i,hi,e⟩:=List.getElem_of_mem ht;have o:=h.at_ i hi;rw[Qd ta0 ts hi,e]at o;rw[o];refine⟨Xcp (h.asc i hi),λv j=>?_,by simp only;rw[Qk]⟩;obtain⟨u,C,rfl⟩:=List.mem_map.1 j;have:=h.lt i hi u C;omega
 obtain⟨i,hi,D⟩:=h.cov v om;refine⟨(ts.getD i ta0).2,List.mem_map_of_mem (getD_mem' ta0 ts hi),?_⟩;rw[h.at_ i hi];exact List.mem_map.2 ⟨v,D,rfl⟩
def AtG(w:World)(cs:List Value)(a:Atm): Prop:=∃ t:V3,cs=t.cells/\AtV w t a
theorem Qcs: ∀(ps:List (List Value×Atm)) (w:World),(∀ p∈ps,AtG w p.1 p.2)->∃ ts:List TA,ts.map (·.2)=ps.map (·.2)/\atC ts=Qw ps/\ts.length=ps.length/\∀ q∈ts,AtV w q.1 q.2
 | [],w,_=>⟨[],rfl,rfl,rfl,λq hq=>by cases hq⟩
 | p::ps,w,h=>by
  obtain⟨qs,h1,h2,h3,h4⟩:=Qcs ps w λq hq=>h q (List.mem_cons_of_mem _ hq);obtain⟨t,e,hr⟩:=h p (mC ..);refine⟨(t,p.2)::qs,by simp[h1],?_,by simp[h3],λq hq=>?_⟩;repeat grind [Qw,atC,List.mem_cons.1]
theorem Jfb{ats:List Atm}(h:GV 3 AtG w v ats): ∃(ts:List TA) (A:Option Addr) (c:Nat),ats=ts.map (·.2)/\v=.slice A ts.length c/\ts.length<=c/\ts.length<=1100000/\Rd w 3 A ts.length (atC ts)/\∀ p∈ts,AtV w p.1 p.2:=by
 obtain⟨ps,A,c,e,O,J,G,j,hp⟩:=h;obtain⟨ts,D,C,u,o⟩:=Qcs ps w λp i=>(hp p i).2;grind
theorem EA: ElT prog 31 134 3 56 (.agg #[.slice none 0 0,.int .i64 0,.slice none 0 0]):=⟨underlying31,info_parts kr,rfl,by decide⟩
theorem zInts: Qu prog 26=some (.slice none 0 0):=kr
theorem zRows: Qu prog 95=some (.slice none 0 0):=kr
theorem Jyd(v1 v2 v3:Value)(A B:Option Addr)(n c m d:Nat)(z:Int)(h1:v1=.slice A n c)(h2:v2=.int .i64 z)(h3:v3=.slice B m d)(w:World): (Instr.buildSlice 31 1 #[(0,.agg #[v1,v2,v3])]).run prog w=.ok (.slice (some ⟨w.heap.size,0,none⟩) 1 1) (w.alloc (.cells [v1,v2,v3].toArray 134)):=by
 subst h1;subst h2;subst h3;kernel_rfl
theorem Jdt(A B:Option Addr)(n c m d:Nat)(z:Int)(w:World): (Instr.build 134 #[(0,.slice A n c),(1,.agg #[.int .i64 z,.slice B m d])]).run prog w=.ok (.agg #[.slice A n c,.int .i64 z,.slice B m d]) w:=kr
theorem Ij{z:Int}(h:v.oneCell'=true): ∀ u∈[v,.int .i64 z,.slice A n c],u.oneCell'=true:=λu i=>by
 simp only[List.mem_cons,List.not_mem_nil,or_false]at i;rcases i with rfl|rfl|rfl
 .exact h
 .rfl
 rfl
theorem Qsc(hok:MOk n ts vars rs s)(hl:ts'.length=ts.length)(he:(List.range ts.length).map (λj=>(⟨nz (rnm (vars j) s),(rnm (vars j) s).length,ms j⟩:Atm))=ts'.map (·.2))(hms:∀ j,j<ts.length->Zn [] ((rs j).map (pmR (Xw (vars j) s))) (ms j)/\(ms j).length<=65536): RunOk (bk s 32).length ts' (λj=>rnm (vars j) s) ms:=by
 have C:=hok.run.n32;have o:∀ i,i<ts.length->∀ v∈vars i,v<32:=λi hi v J=>by have:=hok.run.lt i hi v J;omega
 refine⟨Yo s 32,by rw[hl];exact hok.run.m32,λi hi=>?_,λi hi=>Qnv (hok.run.asc i (hl ▸ hi)) (o i (hl ▸ hi)),λi hi u O=>Qnt (o i (hl ▸ hi)) O,λk D=>?_,λi hi=>(hms i (hl ▸ hi)).1.1,λi hi r Z=>?_,λi hi=>(hms i (hl ▸ hi)).2⟩
 .have h1:(ts'.map (·.2))[i]?=some (ts'.getD i ta0).2:=by rw[List.getElem?_map,List.getElem?_eq_getElem hi,Option.map_some,Qd ta0 ts' hi]
  grind
 .obtain⟨h1,G⟩:=bk_mem.1 (getD_mem' 0 _ D);obtain⟨i,hi,hm⟩:=hok.run.cov _ (Jyg hok.sb G);exact⟨i,hl.symm ▸ hi,List.mem_map.2 ⟨_,inS_mem.2 ⟨hm,G⟩,Jlh (Jqx s 32) D⟩⟩
 obtain⟨x,hx,rfl⟩:=List.mem_map.1 (((hms i (hl ▸ hi)).1.2 r).1 Z);have:=Jvz (vars i) s (vars i).length (nR _);rw[List.take_length]at this;rw[Xc,Qjk];exact this
theorem Xqr(hok:MOk n ts vars rs s)(hms:∀ j,j<ts.length->Zn [] ((rs j).map (pmR (Xw (vars j) s))) (ms j)/\(ms j).length<=65536){x:Row}(hx:Zt (bk s 32).length ts.length (λi=>rnm (vars i) s) ms x): x.all Xl=true:=by
 rw[List.all_eq_true];intro y G;obtain⟨k,O,rfl⟩:=List.getElem_of_mem G;have o:k<(bk s 32).length:=by rw[<-hx.1];exact O
 obtain⟨h1,D⟩:=bk_mem.1 (getD_mem' 0 _ o);obtain⟨i,hi,J⟩:=hok.run.cov _ (Jyg hok.sb D);have h3:=hx.2 i hi;obtain⟨r,u,e⟩:=List.mem_map.1 (((hms i hi).1.2 _).1 h3);have C:x.getD k V0∈pmR (rnm (vars i) s) x:=List.mem_map.2 ⟨k,List.mem_map.2 ⟨_,inS_mem.2 ⟨J,D⟩,Jlh (Jqx s 32) o⟩,rfl⟩;rw[<-e]at C;obtain⟨c,Z,e2⟩:=List.mem_map.1 C;have h5:=List.all_eq_true.1 (hok.valid i hi r u) (r.getD c V0) (getD_mem' V0 r (by rw[hok.run.len i hi r u];exact Jzx Z));grind
theorem Qtm(s:Nat): (madeCells (Value.int .i64 0).cells (32*1)).toList=Jt (nz (Yq s 0)):=by
 have e:(madeCells (Value.int .i64 0).cells (32*1)).toList=List.replicate 32 (Value.int .i64 0):=Gq _ _;have i:Yq s 0=List.replicate 32 0:=by simp[Yq,List.map_const']
 rw[e,i];rfl
theorem Qtk(cs:List Nat)(i x:Nat): Jt (nz (cs.set i x))=(Jt (nz cs)).set i (.int .i64 (x:Int)):=by simp[Jt,nz,List.map_set]
theorem Qwd(h:Zs w base v cs): ∃ A c,v=.slice A cs.length c/\cs.length<=c/\∀ g,v.ownBlock=some g->base<=g/\g<w.heap.size:=Jb h
theorem Xjm(hok:MOk n ts vars rs s)(hR:Rd w 3 Aa ts.length (atC ts))(hle:ts.length<=ca)(hat:∀ p∈ts,AtV w p.1 p.2)(hcap:∀ l:List Row,Lt [] l->(∀ x∈l,∃ z:Row,z.length=n/\x=pmR (bk s 32) z/\Ig ts.length vars rs s z)->l.length<=65536):
  Ret prog 123 [.int .i64 (n:Int),.int .u32 (s:Int),.slice Aa ts.length ca] w λu w'=>Ext w w'/\∃(t':V3) (st:Int) (l:List Row),u=.tuple #[.agg t'.cells.toArray,.int .i64 st,.int .i64 0] /\
   Off (λk=>k<w.heap.size) w' (λx=>AtV x t' ⟨nz (bk s 32),(bk s 32).length,l⟩)/\Lt [] l/\(∀ x,x∈l↔∃ z:Row,z.length=n/\x=pmR (bk s 32) z/\Ig ts.length vars rs s z)/\l.length<=65536:=by
 have b4:=hok.run.n32;have eu:=hok.run.m32;have b3:s<4294967296:=nM hok.sb (Nat.pow_le_pow_right (n:=2) (by decide) b4);have a4:∀ i,i<ts.length->∀ v∈vars i,v<32:=λi hi v hv=>by have:=hok.run.lt i hi v hv;omega
 refine enE func123 ntmps123 ?_;refine Jw Yr ?_;intro w1 b6 c5 ek af;refine clR (Qzm (n:=(n:Int)) (ats:=ts.map (·.2)) ⟨ts,Aa,ca,rfl,rfl,hle,om,hR.ext c5,λp hp=>(hat p hp).ext c5⟩) ?_
 rintro u w2 ⟨cy,e,rfl,he⟩;have e0:=he.2 (Jgz hok.run);subst e0;clear he;refine ρ ?_;refine Ia (s:=s) (v:=n) b4 ?_;rw[Nat.div_eq_of_lt hok.sb];refine ρ ?_;refine mkn EI 32 om (by unfold maxLen;omega) ?_;intro w3 Na cx cc _;rw[Qtm s]at cc;refine Jw zInts ?_;intro w4 bp e8 dl J;refine ρ ?_;refine Vb J ?_ rfl;intro w5 J f8 e7;have au:Ext w3 w5:=e7 w3 e8 dl;have bq:=c5.trans cy;have cv:Ext w w5:=(bq.trans cx).trans au;have d9:w5.ownsRow w.heap.size 3 1 (.slice Na 32 32) 32 (Jt (nz (Yq s 0))):=Jbw (Jk cc au) bq.size;have c2:Blk w5 b6 134 [.slice none 0 0,.int .i64 0,.slice none 0 0]:=(af.ext cy).ext (cx.trans au);refine ρ ?_;refine Jo (fun (v:Nat) (vv:Value)=>[(0,.int .i64 (n:Int)),(1,.int .u32 (s:Int)),(2,.slice Aa ts.length ca),(6,.pointer (some ⟨b6,0,none⟩)),(10,vv),(11,.pointer (some ⟨bp,0,none⟩)),(37,.int .i64 (v:Int))])
  (λv vv w'=>v<=32/\Ext w w'/\Blk w' b6 134 [.slice none 0 0,.int .i64 0,.slice none 0 0]/\Blk w' bp 26 [.slice Na 32 32]/\w'.ownsRow w.heap.size 3 1 (.slice Na 32 32) 32 (Jt (nz (Yq s v)))/\Zs w' w.heap.size vv (bk s v)/\∀ g,vv.ownBlock=some g->(Value.slice Na 32 32).ownBlock≠some g) (λv _=>32-v) 0 (.slice none 0 0) sB
  ⟨om,cv,c2,J,d9,Zd _ _ _ _,λg e=>(by cases e)⟩ ?_
 clear cc d9 c2 J;rintro v vv w6 ⟨hv,bi,af,J,ae,b1,a8⟩;refine ciR (λh=>?_) (λh=>?_)
 .have lv:v<32:=by have:=oT h;omega
  clear h;have dg:=Yo s v;have ew:∀ {w':World},(Yq s v).length=32:=fun {_}=>Jzd s v
  obtain⟨VA,vc,co,d2,c6⟩:=Qwd b1;refine ρ ?_;refine Ia (s:=s) (v:=v) om ?_;refine ciR (λh=>?_) (λh=>?_)
  .rw[Gu b3]at h;subst co;refine ldR (J.at (i:=0) rfl) ?_;refine ixR v (Rd.own ae) lv ?_;obtain⟨s1,s2,s3,s4,s5⟩:=Vc ae (q:=v) om (.int .i64 ((bk s v).length:Int));refine Xo (s1.trans (Zb (by rw[Jzd];exact lv))) s2 ?_;rw[<-Qtk]at s3;have d7:∀ g,(Value.slice Na 32 32).ownBlock=some g->w.heap.size<=g:=λg eg=>by
    obtain⟨_,_,_,_,hf⟩:=Jb ae;exact(hf g eg).1
   have a2:Ext w (w6.setCell (adr Na v) (.int .i64 ((bk s v).length:Int))):=Qa bi s5 d7;have a3:=af.grown s5 (af.ne_own ae rfl);have a1:=J.grown s5 (J.ne_own ae rfl);have ad:Zs (w6.setCell (adr Na v) (.int .i64 ((bk s v).length:Int))) w.heap.size (.slice VA (bk s v).length vc) (bk s v):=Je b1 (GrN.by s5 λg eg=>eg) (λg eg e=>a8 g eg e);generalize w6.setCell (adr Na v) (.int .i64 ((bk s v).length:Int))=w7 at *
   clear s1 s2 s4 s5;refine Qb (bs1Int'' _) ?_;intro w8 b8 o fb em;refine ρ ?_;refine apI (Jk ad o) em om (a2.trans o).size ?_;intro e5 w9 c7 a5 eh;have an:Ext w w9:=Qa (a2.trans o) a5 (λg eg=>(c6 g eg).1);refine ρ ?_;refine Jf (v+1) e5 sO ⟨om,an,(a3.ext o).grown a5 ((a3.ext o).ne_own (Jk ad o) rfl),(a1.ext o).grown a5 ((a1.ext o).ne_own (Jk ad o) rfl),?_,?_,λg eg e=>?_⟩ om
   .rw[Qxj lv,if_pos h];exact Je (Jk s3 o) (GrN.by a5 λg eg=>eg) (λg eg e=>a8 g e eg)
   .rw[Ge,if_pos h];exact c7
   rcases eh g eg with h'|h'
   .exact a8 g h' e
   obtain⟨_,_,_,_,hf⟩:=Jb s3;have:=(hf g e).2;have:=o.size;omega
  rw[Gu b3]at h;have hf:¬ s.testBit v=true:=by rw[h];simp
  refine ρ ?_;refine Jf (v+1) vv sO ⟨om,bi,af,J,?_,?_,a8⟩ om
  .rw[Qxj lv,if_neg hf];exact ae
  rw[Ge,if_neg hf,List.append_nil];exact b1
 have eb:v=32:=by have:=oF h;omega
 subst eb;clear h a8;obtain⟨VA,vc,co,d2,c6⟩:=Qwd b1;subst co;have dg:=Yo s 32;refine ρ ?_;refine Jxg (fun (i:Nat) (st:Int) (vp:Value) (ms:Nat->List Row)=>[(0,.int .i64 (n:Int)),(1,.int .u32 (s:Int)),(6,.pointer (some ⟨b6,0,none⟩)),(10,.slice VA (bk s 32).length vc),(13,.func (.func 169) #[] #[.pointer (some ⟨bp,0,none⟩)]),(14,.int .i64 st),(15,vp),(56,.slice Aa ts.length ca),(57,.int .i64 (ts.length:Int)),(58,.int .i64 (i:Int))])
  (λi st vp ms w'=>i<=ts.length/\Ext w w'/\w6.heap.size<=w'.heap.size/\Blk w' b6 134 [.slice none 0 0,.int .i64 0,.slice none 0 0]/\Blk w' bp 26 [.slice Na 32 32]/\w'.ownsRow w.heap.size 3 1 (.slice Na 32 32) 32 (Jt (nz (Yq s 32)))/\Zs w' w.heap.size (.slice VA (bk s 32).length vc) (bk s 32) /\
   OwnG 134 3 AtG w' w6.heap.size vp ((List.range i).map λj=>⟨nz (rnm (vars j) s),(rnm (vars j) s).length,ms j⟩)/\∀ j,j<i->Zn [] ((rs j).map (pmR (Xw (vars j) s))) (ms j)/\(ms j).length<=65536) (λi _ _ _=>ts.length-i) 0 0 (.slice none 0 0) (λ_=>[]) sB
  ⟨Nat.zero_le _,bi,Nat.le_refl _,af,J,ae,b1,OwnG.nil _ _,λj hj=>om⟩ ?_
 rintro i st vp ms w7 ⟨hi,a2,b2,a3,a1,d8,ad,ce,ai⟩;refine ciR (λh=>?_) (λh=>?_)
 .have li:i<ts.length:=by have:=oT h;omega
  have dm:=hR.ext a2;obtain⟨t1,t2,t3,a,hp⟩:∃ t1 t2 t3 a,ts.getD i ta0=((t1,t2,t3),a):=⟨_,_,_,_,rfl⟩;have dt:AtV w (t1,t2,t3) a:=by have:=hat _ (Jbh rfl li);rw[hp]at this;exact this
  have ea:a=⟨nz (vars i),(vars i).length,rs i⟩:=by have:=hok.run.at_ i li;rw[hp]at this;exact this
  subst ea;clear h;have h3:∀ u∈[t1,t2,t3],u.oneCell'=true:=dt.one;refine Qp 3 i dm li ?_;refine Jh (cs:=[t1,t2,t3]) (λj u hu=>Jkg dm rfl li (by rw[hp];exact hu)) ?_;refine Jw Yr ?_;intro w8 fd o dk bd;refine Qh (cs':=[t1,t2,t3]) bd ?_ h3;intro w9 bd a5 an;have ag:Ext w7 w9:=an w7 o dk;refine Ja bd ?_;refine clR (Xbz (t:=(t1,t2,t3)) (dt.ext (a2.trans ag)) b3 (hok.run.asc i li) (a4 i li) (hok.run.len i li) (hok.run.big i li)) ?_;rintro u ap ⟨a6,⟨p1,p2,p3⟩,rfl,m,a7,db,da,ah⟩;have Z:=ah (hok.srtP i li);have cn:=a7.here;obtain⟨⟨PA,pc,e3,d6,ec,f5⟩,e1,bm⟩:=id cn;simp only at e3 e1;obtain⟨bh,PG,aq,_,dz,_⟩:=id bm;simp only at dz;have cw:=a2.trans ag;have e9:=cw.trans a6;refine Jw Yr ?_;intro e4 fc az dj aj;refine Qh (cs':=[p1,p2,p3]) aj ?_ cn.one;intro ak aj de ay;have C:Ext ap ak:=ay ap az dj;refine ρ ?_;subst e3;subst e1;subst dz;refine lds (cs:=[.int .i64 ((inS (vars i) s).length:Int),.slice PG bh.length aq]) (aj.sub2 (i:=1) rfl rfl) ?_
  refine ρ ?_;have be:=cn.ext C;refine cl (Jwd be.rel) ?_;rintro u bg ⟨rfl,G⟩;obtain⟨c4,d5⟩:∃ c4:Int,c4=IntKind.i64.wrap (st+(m.length:Int)):=⟨_,rfl⟩;have cm:=aj.ext G;repeat first|refine ω4 ?_|refine ω5 ?_|refine χ1 ?_|refine κ1 ?_|refine κ2 ?_|refine χ2 ?_|refine κ3 ?_|refine ω6 ?_|refine ω7 ?_|refine ω9 ?_|refine κ4 ?_|refine κ7 ?_|refine κ8 ?_|refine χ3 ?_|refine χ4 ?_|refine κ5 ?_|refine κ6 ?_|refine χ5 ?_|refine χ6 ?_|refine χ7 ?_|refine ω8 ?_
  rw[<-d5];refine Ja cm ?_;refine ρ ?_;have O:Ext w7 bg:=((ag.trans a6).trans C).trans G;have ax:=a2.trans O;refine clv (Xjq (Na:=Na) (nums:=Yq s 32) (be.ext G) ?_ ?_ (λv hv=>?_) ?_) ?_
  .rw[Jzd];exact a1.ext O
  .rw[Jzd];exact Rd.own (Jk d8 O)
  .rw[Jzd];exact a4 i li v (inS_mem.1 hv).1
  .have:=List.length_filter_le (λv=>s.testBit v) (vars i);have h5:=Jyh (hok.run.asc i li) (a4 i li);unfold inS;omega
  rintro u ao ⟨aw,v1,rfl,c8⟩;have d3:=c8.here;obtain⟨QA,qc,dw,f4,f3,f2⟩:=d3;refine Qb (Jyd v1 _ _ QA PG _ qc _ aq _ dw rfl rfl) ?_;intro c3 fe av ey dq;have eo:(inS (vars i) s).map (λv=>(Yq s 32).getD v 0)=rnm (vars i) s:=by
   unfold rnm;refine List.map_congr_left λv hv=>?_;obtain⟨h5,h6⟩:=inS_mem.1 hv;exact Qtl (a4 i li v h5) h6
  rw[eo]at c8;have D:=(O.trans aw).trans av;have b9:=ce.ext D;obtain⟨_,_,_,_,cd⟩:=ce.form;have cb:∀ k,Xf w6.heap.size vp k->k<w7.heap.size:=λk hk=>by
   rcases hk with hk|hk
   .exact nM hk b2
   exact(cd k hk).2
  have hΦ:Off (Xf w6.heap.size vp) c3 (λu=>AtG u [v1,.int .i64 ((inS (vars i) s).length:Int),.slice PG bh.length aq] ⟨nz (rnm (vars i) s),(rnm (vars i) s).length,m⟩):=by
   have h5:Off (λk=>k<w7.heap.size) c3 (λu=>IntsV u v1 (nz (rnm (vars i) s))):=(c8.mono λk _ hk=>nM hk O.size).ext av;have h6:Off (λk=>k<w7.heap.size) c3 (λu=>AtV u (.slice PA (nz (inS (vars i) s)).length pc,.int .i64 ((inS (vars i) s).length:Int),.slice PG bh.length aq) ⟨nz (inS (vars i) s),(inS (vars i) s).length,m⟩) :=
    (a7.mono λk _ hk=>nM hk ag.size).ext (((C.trans G).trans aw).trans av)
   refine((h5.and h6).imp λu h=>⟨(v1,.int .i64 ((inS (vars i) s).length:Int),.slice PG bh.length aq),rfl,h.1,?_,h.2.2.2⟩).mono λk _ hk=>cb k hk;simp only;rw[Qjk]
  refine ρ ?_;refine apG EA (Φ:=AtG) b9 dq rfl (Ij (by rw[dw];rfl)) hΦ (by simp;omega) om (nL b2 D.size) ?_;intro cq bf dn aa et;have cz:Ext w bf:=Qa (a2.trans D) aa (λg eg=>nL bi.size (cd g eg).1);have bn:∀ {g t:Nat} {cs:List Value},Blk w7 g t cs->Nat.beq 134 t=false->Blk bf g t cs:=λhB e=>by
   obtain⟨ps,_,ho,_⟩:=b9;exact(hB.ext D).grown aa ((hB.ext D).ne_own ho e)
  have cg:Blk bf b6 134 [.slice none 0 0,.int .i64 0,.slice none 0 0]:=by
   exact(a3.ext D).grown aa λe=>by have:=(cd b6 e.symm).1;have:=af.lt;omega
  have bs:∀ {m':Nat} {v:Value} {xs:List Value},w7.ownsRow w.heap.size 3 1 v m' xs->bf.ownsRow w.heap.size 3 1 v m' xs:=λho=>by
   obtain⟨ps,_,ef,_⟩:=b9;exact Ze (Jk ho D) ef aa rfl
  refine ρ ?_;refine Ka (i+1) c4 cq (upd ms i m) sO ⟨om,cz,Nat.le_trans b2 (nL D.size aa.size),cg,bn a1 rfl,bs d8,bs ad,?_,λj hj=>?_⟩ om
  .rw[List.range_succ,List.map_append,List.map_singleton,Qz];have e:(List.range i).map (λj=>(⟨nz (rnm (vars j) s),(rnm (vars j) s).length,upd ms i m j⟩:Atm))=(List.range i).map (λj=>⟨nz (rnm (vars j) s),(rnm (vars j) s).length,ms j⟩):=by
    refine List.map_congr_left λj hj=>?_;have:=List.mem_range.1 hj;rw[Jm _ _ om]
   rw[e];exact dn
  by_cases e:j=i
  .subst e;rw[Qz];exact⟨Z,db⟩
  rw[Jm _ _ e];exact ai j om
 have ej:i=ts.length:=by have:=oF h;omega
 subst ej;clear h;refine Jw zRows ?_;intro w8 cp o di ab;have el:=ce.ext o;obtain⟨e6,PA,pc,dx,en,d6,ec,ed,ee⟩:=Jfb (el.gv (by simp;omega));have c9:e6.length=ts.length:=by
  have:=congrArg List.length dx;simpa using this.symm
 have bz:=Qsc hok c9 dx ai;subst en;have cr:=a2.trans o;have b7:=Xjn (m:=ts.length) (ms:=ms) hok.sb b4 hok.run.lt hok.run.len (λi hi x=>(ai i hi).1.2 x);refine clR (Xks (bx':=λk=>k=cp) (Y:=YM cp) bz ed d6 ee (Jgz bz) (λk hk=>by subst hk;exact ab.lt) (Xjp ab.lt) (λw' d0=>⟨nM ab.lt d0.size,.slice none 0 0,ab.ext d0,OwnG.nil _ _⟩) ?_) ?_
 .intro l h1 h2;refine hcap l h1 λx hx=>(b7 x).1 ?_;have:=h2 x hx;rw[c9]at this;exact this
 rintro u w9 ⟨a5,f0,base,l,rfl,f9,ex,⟨fa,ez,ck,hO⟩,bo,a9⟩;rw[c9]at a9;have d1:w.heap.size<=cp:=nL a2.size di;have an:Ext w w9:=a5.old cr λk hk=>by subst hk;exact d1
 have ba:=Jy (a3.ext o) a5 (λe=>by have:=a3.lt;omega);have c7:Zs w9 w.heap.size (.slice VA (bk s 32).length vc) (bk s 32):=Je (Jk ad o) a5 (λg eg e=>by subst e;exact ab.ne_own (Jk ad o) rfl eg.symm);have dc:l.length<=65536:=by
  refine hcap l bo λx hx=>(b7 x).1 ((a9 x).1 hx)
 obtain⟨LA,lc,du,f7,f6⟩:=hO.form;subst du;have bj:=Qnm (hO.gv om);refine ldR (ck.at (i:=0) rfl) ?_;refine clR (Jbr (ar:=(bk s 32).length) bj) ?_;rintro u ap ⟨a6,rv,e,rfl,⟨z,RB,rm,rd,rfl⟩,df,bw⟩;have ei:∀ r∈l,r.length=(bk s 32).length/\r.all Xl=true:=λr hr=>⟨((a9 r).1 hr).1,Xqr hok ai ((a9 r).1 hr)⟩;have e0:=df dg ei dc;subst e0;obtain⟨_,_,m,a7,db,da,ah⟩:=bw rfl;have Z:=ah (.inr (Kk bo));have ep:m=l:=Ie Z.1 bo Z.2;subst ep;clear ah Z df bw da;refine Jw Kz ?_;intro e4 er az dh bc;refine Qh (cs':=[.int .i64 z,.slice RB rm rd]) bc ?_ Uw;intro ak bc de ay;have C:Ext ap ak:=ay ap az dh;refine ρ ?_;have ac:=a6.trans C;have cj:=ba.ext ac;have bl:=(a7.here).ext C;refine drN (λk=>k=b6) 12 (scq 12 [7,9]) kr ?_;have am:Ext ak ak.drew:=(Ext.refl ak).drew;have bb:=bc.ext am;have c1:=cj.ext am;have bn:¬ (λk=>k=b6) er:=λe=>by
  have h1:=ba.lt;have h2:=a6.size;simp only at e;omega
 refine ρn ?_;refine Zh (cs:=[.int .i64 z,.slice RB rm rd]) (λw' hg j u hu=>(Jy bb hg bn).at hu) ?_;refine ρn ?_;refine Jjb (Jdt _ _ _ _ _ _ _) ?_;refine ρn ?_;refine Zh (cs:=[.int .i64 z,.slice RB rm rd]) (λw' hg j u hu=>(Jy bb hg bn).at hu) ?_;refine ρn ?_;refine nop ?_;refine cl (Jwd (bl.ext am)) ?_;rintro u bg ⟨rfl,G⟩;refine ρ ?_;refine Ju (GrN.ext G) ?_;refine ρn ?_;refine nop ?_;refine stb (cs':=[.slice VA (bk s 32).length vc,.int .i64 z,.slice RB rm rd]) (c1.ext G) ?_ (Ij rfl);intro ao ch b5 aw;refine ω5 ?_;refine Ju (GrN.by b5 λk e=>by injection e with e;exact e.symm) ?_;refine ρn ?_;refine ρ ?_;have ax:Ext w bg:=((an.trans ac).trans am).trans G;refine Jqs ch ⟨Jdc ax b5 ek,(.slice VA (bk s 32).length vc,.int .i64 z,.slice RB rm rd),_,m,rfl,?_,bo,λx=>(a9 x).trans (b7 x),dc⟩;have dd:GrN (λk=>k=b6) bg ao:=GrN.by b5 λk e=>by injection e with e;exact e.symm
 have br:=Jk c7 ((ac.trans am).trans G);have d4:Zs ao w.heap.size (.slice VA (bk s 32).length vc) (bk s 32):=Je br dd λg eg e=>by subst e;exact(c1.ext G).ne_own br rfl eg.symm
 have h5:Off (λk=>k<w.heap.size) ao (λu=>IntsV u (.slice VA (bk s 32).length vc) (nz (bk s 32))):=by
  refine(Jxx d4 λg eg hk=>by have:=(c6 g eg).1;omega).imp λu h=>⟨VA,vc,by rw[Qk],by rw[Qk];exact d2,by rw[Qk];omega,by rw[Qk];exact Rd.own h⟩
 have h6:Off (λk=>k<w.heap.size) ao (λu=>RelV u (.agg #[.int .i64 z,.slice RB rm rd]) (bk s 32).length m):=by
  have h7:=a7.ext ((C.trans am).trans G);have h8:=h7.gr (dd.mono λk _ hk=>by subst hk;exact ba.lt);exact h8.mono λk _ hk=>nM hk an.size
 refine(h5.and h6).imp λu h=>?_;obtain⟨h7,rv,dv,h8⟩:=h;have e2:(Value.int .i64 z)=.int .i64 ((bk s 32).length:Int)/\Value.slice RB rm rd=rv:=by
  simp only[Value.agg.injEq,Array.mk.injEq,List.cons.injEq,and_true]at dv;exact dv
 exact⟨h7,e2.1,by simp only;rw[e2.2];exact h8⟩
end Go.Proofs.YtgobkbeokaaplaaGreatDoor
namespace Go.Wk
open Go.RowKit
variable {p:Addr}{z:Int}{kd:IntKind}{cs cs' xs:List Value}{b e g m t:Nat}{i x y:Operand}{k k2:TK}{v:Value}
section
variable {N:Nat->Prop} {P:Program} {n:Nat} {al:AL} {w:World} {Q:Exit->Act->World->Prop} {ops:Array Oper} {rest:List Oper} {drest:List (Nat×Oper)}
variable {d ty:Nat} {pos:String} {aft:Array Edge} {tt:TT}
theorem Jkt(hT:TOk P tt)(ht:tk tt t=some k)(hk:k.desc=.array m e)(w:World): (isAgg t).run P w=.ok true w/\Vy P t=some k.size/\P.underlying t=some (.array m e)/\Vy P e=some k.esz:=by
 have:=hT.at ht;unfold Ue at this;rw[hk]at this;exact⟨by simp[isAgg,run_underlying this.1],this.2.2,this.1,this.2.1⟩
theorem Qjc(hT:TOk P tt)(ht:tk tt t=some k)(hk:k.desc=.array m e)(hl:k.size=cs.length)(hc:∀ j u,cs[j]?=some u->w.cell? (p.add j)=some u): (loadVar t p).run P w=.ok (.agg cs.toArray) w:=by
 have i:=run_loadCells_list (P:=P) w p cs hc;rw[<-hl]at i;simp[loadVar,(Jkt hT ht hk w).1,Yd w (Jkt hT ht hk w).2.1,i]
theorem lda[h:Tab P tt](hc:∀ j u,cs[j]?=some u->w.cell? (p.add j)=some u)(hl:k.size=cs.length)(kk:WL P n ops Q rest ((d,.agg cs.toArray)::al) w)(ht:tk tt t=some k:=by rfl)(hk:k.desc=.array m e:=by rfl)(hx:ev al x=some (.pointer (some p)):=by rfl)(hd:Nat.blt d n=true:=by rfl): WL P n ops Q (⟨some d,.load t x,ty,pos,aft,none⟩::rest) al w :=
 wop hd (λa i=>by simp[execOp,i.ev hx,Instr.loadAt,Instr.sureAddr,Qjc (w:=w) h.ok ht hk hl hc]) kk
theorem sta[h:Tab P tt](hb:Blk w b t cs)(kk:∀ w1,Blk w1 b t cs'->w.grownBy w1 (some b)->(∀ a,Ext a w->a.heap.size<=b->Ext a w1)->WL P n ops Q rest al w1)(h1:∀ u∈cs',u.oneCell'=true)(hl:cs.length=cs'.length)(hs:k.size=cs'.length)(ht:tk tt t=some k:=by rfl)(hk:k.desc=.array m e:=by rfl)(hx:ev al x=some (.pointer (some ⟨b,0,none⟩)):=by rfl)(hy:ev al y=some (.agg cs'.toArray):=by rfl):
  WL P n ops Q (⟨none,.store t x y,ty,pos,aft,none⟩::rest) al w:=by
 have C:=Jqr w b cs'.toArray;refine Jjr (λa o=>?_) (kk (w.setRow b cs'.toArray) (setRow_heap w b _ _ _ _ hb) C (λa hx o=>Qa hx C (λk hk=>by grind)));have j:=Yd w (Jkt h.ok ht hk w).2.1;have i:=run_storeCells_from (P:=P) b t cs' 0 cs.toArray w hb (by simpa using hl.symm) h1;simp only[List.take_zero,List.nil_append]at i;simp[execOp,o.ev hx,o.ev hy,Instr.storeAt,Instr.sureAddr,storeVar,Value.cells,j,hs,i]
theorem Qwx[h:Tab P tt]{fn:Func}{Φ:Value->World->Prop}{c:Nat}(hb:Blk w b t cs)(hs:k.size=cs.length)(hp:Φ (.agg cs.toArray) w)(hr:fn.results = #[.cell c t]:=by rfl)(ht:tk tt t=some k:=by rfl)(hk:k.desc=.array m e:=by rfl)(hc:lk al c=some (.pointer (some ⟨b,0,none⟩)):=by rfl):
  QX n (Yb P fn Φ) .ret al w :=
 Jvw (rs:=[.cell c t]) (vs:=[.agg cs.toArray]) hr ⟨⟨_,hc,Qjc h.ok ht hk hs (λj u i=>hb.at i)⟩,trivial⟩ rfl hp
theorem idx[h:Tab P tt](j:Nat)(hlt:j<m)(hv:cs[j]?=some v)(kk:WL P n ops Q rest ((d,v)::al) w)(ht:tk tt t=some k:=by rfl)(hk:k.desc=.array m e:=by rfl)(h1:k.esz=1:=by rfl)(he:tk tt e=some k2:=by rfl)(hp:Vr k2.desc=true:=by rfl)(hx:ev al x=some (.agg cs.toArray):=by rfl)(hi:ev al i=some (.int kd z):=by rfl)(hj:z=(j:Int):=by first|rfl|omega)(hd:Nat.blt d n=true:=by rfl):
  WL P n ops Q (⟨some d,.index t x i,ty,pos,aft,none⟩::rest) al w :=
 wop hd (λa u=>by
  subst hj;have o:=Jkt h.ok ht hk w;have hs:=Yd w (h1 ▸ o.2.2.2);have C:=(Jbg h.ok he hp w).1;simp[execOp,u.ev hx,u.ev hi,Instr.index,asIntOf,run_underlying o.2.2.1,hlt,hs,part,C,hv]) kk
theorem ixs[h:Tab P tt](j:Nat)(hlt:j<m)(kk:WL P n ops Q rest ((d,.pointer (some (p.add (j*k.esz))))::al) w)(ht:tk tt t=some k:=by rfl)(hk:k.desc=.array m e:=by rfl)(hx:ev al x=some (.pointer (some p)):=by rfl)(hi:ev al i=some (.int kd z):=by rfl)(hj:z=(j:Int):=by first|rfl|omega)(hd:Nat.blt d n=true:=by rfl): WL P n ops Q (⟨some d,.indexAddr t x i,ty,pos,aft,none⟩::rest) al w :=
 wop hd (λa o=>Jgx h.ok j ht hk hlt o hx hi hj (some d) w) kk
theorem dixs[h:Tab P tt](j:Nat)(hlt:j<m)(kk:WD P n ops Q drest ((d,.pointer (some (p.add (j*k.esz))))::al) w)(ht:tk tt t=some k:=by rfl)(hk:k.desc=.array m e:=by rfl)(hx:ev al x=some (.pointer (some p)):=by rfl)(hi:ev al i=some (.int kd z):=by rfl)(hj:z=(j:Int):=by first|rfl|omega)(hd:Nat.blt d n=true:=by rfl): WD P n ops Q ((0,⟨some d,.indexAddr t x i,ty,pos,aft,none⟩)::drest) al w :=
 dy (λw' _ a o=>Jgx h.ok j ht hk hlt o hx hi hj (some d) w') hd kk
theorem adr1(b v:Nat): (⟨b,0,none⟩:Addr).add (v*1)=⟨b,v,none⟩:=by rw[Uj,Nat.mul_one,Nat.zero_add]
theorem ixb[h:Tab P tt](j:Nat)(hlt:j<m)(kk:WL P n ops Q rest ((d,.pointer (some ⟨b,j,none⟩))::al) w)(ht:tk tt t=some k:=by rfl)(hk:k.desc=.array m e:=by rfl)(h1:k.esz=1:=by rfl)(hx:ev al x=some (.pointer (some ⟨b,0,none⟩)):=by rfl)(hi:ev al i=some (.int kd z):=by rfl)(hj:z=(j:Int):=by first|rfl|omega)(hd:Nat.blt d n=true:=by rfl): WL P n ops Q (⟨some d,.indexAddr t x i,ty,pos,aft,none⟩::rest) al w:=by
 rw[<-adr1 b j,<-h1]at kk;exact ixs j hlt kk ht hk hx hi hj hd
theorem dixb[h:Tab P tt](j:Nat)(hlt:j<m)(kk:WD P n ops Q drest ((d,.pointer (some ⟨b,j,none⟩))::al) w)(ht:tk tt t=some k:=by rfl)(hk:k.desc=.array m e:=by rfl)(h1:k.esz=1:=by rfl)(hx:ev al x=some (.pointer (some ⟨b,0,none⟩)):=by rfl)(hi:ev al i=some (.int kd z):=by rfl)(hj:z=(j:Int):=by first|rfl|omega)(hd:Nat.blt d n=true:=by rfl): WD P n ops Q ((0,⟨some d,.indexAddr t x i,ty,pos,aft,none⟩)::drest) al w:=by
 rw[<-adr1 b j,<-h1]at kk;exact dixs j hlt kk ht hk hx hi hj hd
theorem nixb[h:Tab P tt](j:Nat)(hlt:j<m)(kk:WN N P n ops Q drest ((d,.pointer (some ⟨b,j,none⟩))::al) w)(ht:tk tt t=some k:=by rfl)(hk:k.desc=.array m e:=by rfl)(h1:k.esz=1:=by rfl)(hx:ev al x=some (.pointer (some ⟨b,0,none⟩)):=by rfl)(hi:ev al i=some (.int kd z):=by rfl)(hj:z=(j:Int):=by first|rfl|omega)(hd:Nat.blt d n=true:=by rfl): WN N P n ops Q ((0,⟨some d,.indexAddr t x i,ty,pos,aft,none⟩)::drest) al w:=by
 rw[<-adr1 b j,<-h1]at kk;exact nixa j hlt kk ht hk hx hi hj hd
theorem Blk.atc{w:World}{t:TypeId}(h:Blk w g t cs){i:Nat}(hv:cs[i]?=some v): w.cell? ⟨g,i,none⟩=some v:=by rw[h.cell];exact hv
theorem sla[h:Tab P tt](kk:WL P n ops Q rest ((d,.slice (some p) m m)::al) w)(ht:tk tt t=some k:=by rfl)(hk:k.desc=.array m e:=by rfl)(hx:ev al x=some (.pointer (some p)):=by rfl)(hd:Nat.blt d n=true:=by rfl): WL P n ops Q (⟨some d,.slice t x none none none,ty,pos,aft,none⟩::rest) al w :=
 wop hd (λa j=>by
  have i:=Jkt h.ok ht hk w;have hs:=Yd w i.2.2.2;simp[execOp,j.ev hx,Instr.sliceAt,run_underlying i.2.2.1,Instr.sureAddr,Instr.sliceBounds,hs];grind [add_zero]) kk
theorem cpb{dT sT dl dc sn sc:Nat}{A:Option Addr}[h:Tab P tt](hb:Blk w b t cs)(hr:Rd w 1 A sn xs)(hsn:sn<=dl)(hdl:dl<=cs.length)(h1:∀ u∈xs,u.oneCell'=true)(kk:∀ w1,Blk w1 b t (xs++cs.drop sn)->w.grownBy w1 (some b)->WL P n ops Q rest ((d,.int .i64 (sn:Int))::al) w1)(ht:tk tt dT=some k:=by rfl)(hk:k.desc=.slice e:=by rfl)(hz:k.esz=1:=by rfl)(hx:ev al x=some (.slice (some ⟨b,0,none⟩) dl dc):=by rfl)(hy:ev al y=some (.slice A sn sc):=by rfl)(hd:Nat.blt d n=true:=by rfl):
  WL P n ops Q (⟨some d,.call { callee:=.builtin .copy,args:=#[x,y],argTypes:=#[dT,sT] },ty,pos,aft,none⟩::rest) al w:=by
 have G:xs.length=sn:=by rw[hr.len,Nat.mul_one]
 have J:=Km h.ok ht hk hz;have C:(P.info? e).map (·.size)=some 1:=J.2
 have O:=Jqr w b (xs++cs.drop sn).toArray;have hB:Blk (w.setRow b (xs++cs.drop sn).toArray) b t (xs++cs.drop sn):=setRow_heap w b _ _ _ _ hb;refine wop (w':=w.setRow b (xs++cs.drop sn).toArray) hd (λa D=>?_) (kk _ hB O);by_cases h0:sn=0
 .subst h0;have:xs=[]:=List.eq_nil_of_length_eq_zero G;subst this;have e0:w.setRow b ([]++cs.drop 0).toArray=w:=by
   have:=setRow_self w b cs.toArray t (0,0) hb;simpa using this
  rw[e0];cases hq:P.info? e with
  | none=>rw[hq]at C;cases C
  | some i=>
   cases A with
   | none=>simp[execOp,resolve,invoke,builtin,D.ev hx,D.ev hy,Builtin.copy_,run_underlying J.1,Builtin.lenOf,Builtin.firstCells,sizeOf,typeInfo,hq,storeCells,goInt]
   | some Z=>simp[execOp,resolve,invoke,builtin,D.ev hx,D.ev hy,Builtin.copy_,run_underlying J.1,Builtin.lenOf,Builtin.firstCells,sizeOf,typeInfo,hq,storeCells,goInt,loadCells,loadCellsFrom]
 obtain⟨Z,hA,_⟩:=hr.isome om om;subst hA;have o:=run_copy_row P w dT sT ty e b 0 dl dc Z sn sc cs.toArray t xs J.1 C hb (by grind) (λj v hv=>hr.cell hv) (by simp;omega) h1;rw[G]at o;have e1:(cs.toArray.toList.take 0++xs++cs.toArray.toList.drop (0+sn)).toArray=(xs++cs.drop sn).toArray:=by simp
 rw[e1]at o;simp[execOp,resolve,invoke,builtin,D.ev hx,D.ev hy,o,goInt]
end
end Go.Wk
namespace Go.Wk
open Go.RowKit
variable {L listed listed':Array Bool}{l:List Oper}{fuel fuel' i id:Nat}{o oi oj:Oper}{w0:World}
section
variable {P:Program} {n:Nat} {al al':AL} {w:World} {Q:Exit->Act->World->Prop} {ops:Array Oper} {T:Nat->Bool}
def Ir(P:Program)(ops:Array Oper)(Q:Exit->Act->World->Prop)(T:Nat->Bool)(i:Nat)(w0:World)(fuel:Nat)(listed:Array Bool): Exit->Act->World->Prop
 | .normal,a,w=>(T i=false->Ext w0 w)/\(Closed ops listed->Vn P ops Q T fuel listed a w)
 | _,_,_=>False
theorem Iz(hx:T i=false->Ext w0 w)(h:WH P n ops Q T fuel listed al w): QX n (Ir P ops Q T i w0 fuel listed) .normal al w:=λa o=>⟨hx,λj=>h j a o⟩
theorem Jfr(ho:ops[i]?=some o)(hc:Closed ops listed)(h:WL P n ops (Ir P ops Q T i w fuel listed) [o] al w): ∀ a,Fr n al a->wpOp P ops (QF Q) i (λa' w'=>(T i=false->Ext w w')/\Vn P ops Q T fuel listed a' w') a w:=λa D=>by
 have j:=h a D;unfold wpList at j;unfold wpOp;simp only[ho];have u:¬ LetsOut (Ir P ops Q T i w fuel listed):=by rintro⟨a,w,h⟩;exact h
 split
 .rename_i hw;simp only[hw,if_true]at j;rcases j with j|⟨_,j⟩
  .left
   refine Oper.wp_mono (K:=wpList P ops (Ir P ops Q T i w fuel listed) []) (λa' w' C=>⟨C.1,C.2 hc⟩) ?_;unfold Oper.wp at j ⊢;grind [Ux,Ir]
  exact absurd j u
 rename_i hw;simp only[hw]at j;exact⟨j.1,j.2 hc⟩
theorem itwo(i j:Nat)(hr:Region.ready .any l.toArray listed=[i,j])(hf:fuel=fuel'+1)(hi:nth l i=some oi)(hj:nth l j=some oj)(h1:WL P n l.toArray (Ir P l.toArray Q T i w fuel' (listed.setIfInBounds i true)) [oi] al w)(h2:WL P n l.toArray (Ir P l.toArray Q T j w fuel' (listed.setIfInBounds j true)) [oj] al w): WH P n l.toArray Q T fuel listed al w:=λC a D=>by
 subst hf;have J:l.toArray[i]?=some oi:=by rw[<-hi,Xm];simp
 have G:l.toArray[j]?=some oj:=by rw[<-hj,Xm];simp
 refine⟨λh0=>(by rw[hr]at h0;cases h0),λk u=>?_⟩;have o:=u;rw[hr]at u;simp only[List.mem_cons,List.not_mem_nil,or_false]at u;rcases u with rfl|rfl
 .exact Jfr J (C.step o) h1 a D
 exact Jfr G (C.step o) h2 a D
theorem Jvg(i:Nat)(hr:Region.ready .any l.toArray listed=[i])(hf:fuel=fuel'+1)(hi:nth l i=some oi)(h1:WL P n l.toArray (Ir P l.toArray Q T i w fuel' (listed.setIfInBounds i true)) [oi] al w): WH P n l.toArray Q T fuel listed al w:=λu a C=>by
 subst hf;have D:l.toArray[i]?=some oi:=by rw[<-hi,Xm];simp
 refine⟨λh0=>(by rw[hr]at h0;cases h0),λk j=>?_⟩;have o:=j;rw[hr]at j;simp only[List.mem_cons,List.not_mem_nil,or_false]at j;subst j;exact Jfr D (u.step o) h1 a C
theorem Gn(i:Nat)(hsel:Region.noSelect l.toArray=true)(hr:((Region.ready .any l.toArray listed).contains i && Region.free .any l.toArray listed i)=true)(hf:fuel=fuel'+1)(hi:nth l i=some oi)(h:WP P n l.toArray (Jjv P l.toArray Q T fuel' (listed.setIfInBounds i true)) [] [oi] al w): WH P n l.toArray Q T fuel listed al w:=λo a D=>by
 subst hf;simp only[Bool.and_eq_true]at hr;have j:i∈Region.ready .any l.toArray listed:=by simpa using hr.1
 have u:l.toArray[i]?=some oi:=by rw[<-hi,Xm];simp
 unfold WP at h;obtain⟨v,C,G⟩:=h a D;exact Jyw (λ_ _=>True) (λ_=>trivial) (λ_ _=>trivial) u (Region.noSelect_spec hsel) (λ_ _ _ _ _ _ _ _=>trivial) _ listed a w o (Region.free_spec u hr.2) j C (G (o.step j))
end
section
variable {N:Nat->Prop} {P:Program} {n:Nat} {al al':AL} {w:World} {Q:Exit->Act->World->Prop} {ops:Array Oper}
def Jjm(ops:Array Oper): List (Nat×Nat)->Array Bool->Option (Array Bool)
 | [],listed=>some listed
 | (0,i)::r,listed=>if(Region.ready .any ops listed).contains i && Region.free .any ops listed i then Jjm ops r (listed.setIfInBounds i true) else none
 | (1,i)::r,listed=>if Region.ready .any ops listed == [i] then Jjm ops r (listed.setIfInBounds i true) else none
 | _::_,_=>none
def Jxk(N:Nat->Prop)(P:Program)(ops:Array Oper)(Q:Exit->Act->World->Prop)(fuel:Nat)(listed:Array Bool): Exit->Act->World->Prop
 | .normal,a,w=>Closed ops listed->Ut N P ops Q noT fuel listed a w
 | _,_,_=>False
theorem Xdf{a:Act}{w:World}{K:Act->World->Prop}(h:o.wp P a w K (QF (Jxk N P ops Q fuel listed))): o.wp P a w K (QF Q):=by
 unfold Oper.wp at h ⊢;have i:¬ LetsOut (QF (Jxk N P ops Q fuel listed)):=by rintro⟨a,w,h⟩;exact h
 grind [Ux,QF,Jxk]
theorem Jyt(hsel:Region.noSelect ops=true)(fuel:Nat)(listed':Array Bool): ∀(s:List (Nat×Nat)) (listed:Array Bool) (a:Act) (w:World),Closed ops listed->Jjm ops s listed=some listed'->Zp N P ops (Jxk N P ops Q fuel listed') (Qn ops.toList s) a w->Ut N P ops Q noT (s.length+fuel) listed a w
 | [],listed,a,w,hcl,hB,h=>by
  simp only[Jjm,Option.some.injEq]at hB;subst hB;simp only[List.length_nil,Nat.zero_add];exact h hcl
 | (0,i)::r,listed,a,w,hcl,hB,h=>by
  simp only[Jjm]at hB;split at hB
  .rename_i hc;simp only[Bool.and_eq_true]at hc;have hr':i∈Region.ready .any ops listed:=by simpa using hc.1
   obtain⟨_,oi,ho,_⟩:=mem_ready.1 hr';have hn:nth ops.toList i=some oi:=by grind [Xm]
   simp only[Qn,hn,Zp,Gb]at h;obtain⟨v,hy,h⟩:=h;have e:((0,i)::r).length+fuel=(r.length+fuel)+1:=by simp;omega
   rw[e];exact Jrc (GrN N) (GrN.refl N) (λh k=>GrN.trans h k) ho (Region.noSelect_spec hsel) (λ_ _ _ _ _ _ _ hg=>hg rfl) _ listed a w hcl (Region.free_spec ho hc.2) hr' hy (Jyt hsel fuel listed' r _ _ _ (hcl.step hr') hB h)
  cases hB
 | (1,i)::r,listed,a,w,hcl,hB,h=>by
  simp only[Jjm]at hB;split at hB
  .rename_i hc;have hc':Region.ready .any ops listed=[i]:=by simpa using hc
   have hr':i∈Region.ready .any ops listed:=by grind
   obtain⟨_,oi,ho,_⟩:=mem_ready.1 hr';have hn:nth ops.toList i=some oi:=by grind [Xm]
   simp only[Qn,hn,Zp,Gb]at h;have e:((1,i)::r).length+fuel=(r.length+fuel)+1:=by simp;omega
   rw[e];refine⟨λh0=>(by grind),λj hj=>?_⟩;rw[hc']at hj;obtain rfl:j=i:=by simpa using hj
   have hcl':=hcl.step hr';unfold wpOp;simp only[ho];split
   .rename_i hw;simp only[hw,if_true]at h;exact .inl (Oper.wp_mono (λa' w' h'=>⟨λ_=>h'.1,Jyt hsel fuel listed' r _ _ _ hcl' hB h'.2⟩) (Xdf h))
   rename_i hw;simp only[hw]at h;exact⟨λ_=>GrN.refl N w,Jyt hsel fuel listed' r _ _ _ hcl' hB h⟩
  cases hB
 | (k+2,i)::r,listed,a,w,_,hB,_=>by simp[Jjm]at hB
def WM(N:Nat->Prop)(P:Program)(n:Nat)(ops:Array Oper)(Q:Exit->Act->World->Prop)(fuel:Nat)(listed:Array Bool)(al:AL)(w:World): Prop:=Closed ops listed->∀ a,Fr n al a->Ut N P ops Q noT fuel listed a w
theorem WM.sub{fuel:Nat}{listed:Array Bool}(hs:Sub al' al)(h:WM N P n ops Q fuel listed al' w): WM N P n ops Q fuel listed al w:=λi a j=>h i a (j.sub hs)
theorem drM{tt:TT}[ht:Tab P tt](N:Nat->Prop)(h:WM N P n l.toArray Q l.toArray.size (Array.replicate l.toArray.size false) al w.drew): WC P n (.region id l.toArray true) Q al w:=λa i=>
 wp_region_any ht.mixed (Jfs (N:=N) (T:=noT) _ _ _ _ (h (Qyx _ _) a i))
theorem Un(s:List (Nat×Nat))(listed':Array Bool)(hsel:Region.noSelect l.toArray=true)(hB:Jjm l.toArray s listed=some listed')(hf:fuel=s.length+fuel')(h:WN N P n l.toArray (Jxk N P l.toArray Q fuel' listed') (Qn l s) al w): WM N P n l.toArray Q fuel listed al w:=λj a i=>by
 subst hf;have o:=h a i;grind [Jyt]
theorem Up(h:WM N P n ops Q fuel listed al w): QX n (Jxk N P ops Q fuel listed) .normal al w:=λa j i=>h i a j
theorem Jwv(hr:Region.ready .any ops listed=[])(h:QX n Q .normal al w): WM N P n ops Q 0 listed al w:=λ_ a i=>⟨hr,h a i⟩
def Ip(N:Nat->Prop)(P:Program)(ops:Array Oper)(Q:Exit->Act->World->Prop)(w0:World)(fuel:Nat)(listed:Array Bool): Exit->Act->World->Prop
 | .normal,a,w=>GrN N w0 w/\(Closed ops listed->Ut N P ops Q noT fuel listed a w)
 | _,_,_=>False
theorem Xg(hx:GrN N w0 w)(h:WM N P n ops Q fuel listed al w): QX n (Ip N P ops Q w0 fuel listed) .normal al w:=λa j=>⟨hx,λi=>h i a j⟩
theorem Jfq(ho:ops[i]?=some o)(hc:Closed ops listed)(h:WL P n ops (Ip N P ops Q w fuel listed) [o] al w): ∀ a,Fr n al a->wpOp P ops (QF Q) i (λa' w'=>(noT i=false->GrN N w w')/\Ut N P ops Q noT fuel listed a' w') a w:=λa D=>by
 have j:=h a D;unfold wpList at j;unfold wpOp;simp only[ho];have u:¬ LetsOut (Ip N P ops Q w fuel listed):=by rintro⟨a,w,h⟩;exact h
 split
 .rename_i hw;simp only[hw,if_true]at j;rcases j with j|⟨_,j⟩
  .left
   refine Oper.wp_mono (K:=wpList P ops (Ip N P ops Q w fuel listed) []) (λa' w' C=>⟨λ_=>C.1,C.2 hc⟩) ?_;unfold Oper.wp at j ⊢;grind [Ux,Ip]
  exact absurd j u
 rename_i hw;simp only[hw]at j;exact⟨λ_=>j.1,j.2 hc⟩
theorem Jql(i j:Nat)(hr:Region.ready .any l.toArray listed=[i,j])(hf:fuel=fuel'+1)(hi:nth l i=some oi)(hj:nth l j=some oj)(h1:WL P n l.toArray (Ip N P l.toArray Q w fuel' (listed.setIfInBounds i true)) [oi] al w)(h2:WL P n l.toArray (Ip N P l.toArray Q w fuel' (listed.setIfInBounds j true)) [oj] al w): WM N P n l.toArray Q fuel listed al w:=λC a D=>by
 subst hf;have J:l.toArray[i]?=some oi:=by rw[<-hi,Xm];simp
 have G:l.toArray[j]?=some oj:=by rw[<-hj,Xm];simp
 refine⟨λh0=>(by rw[hr]at h0;cases h0),λk u=>?_⟩;have o:=u;rw[hr]at u;simp only[List.mem_cons,List.not_mem_nil,or_false]at u;rcases u with rfl|rfl
 .exact Jfq J (C.step o) h1 a D
 exact Jfq G (C.step o) h2 a D
theorem Vd(i:Nat)(hr:Region.ready .any l.toArray listed=[i])(hf:fuel=fuel'+1)(hi:nth l i=some oi)(h1:WL P n l.toArray (Ip N P l.toArray Q w fuel' (listed.setIfInBounds i true)) [oi] al w): WM N P n l.toArray Q fuel listed al w:=λu a C=>by
 subst hf;have D:l.toArray[i]?=some oi:=by rw[<-hi,Xm];simp
 refine⟨λh0=>(by rw[hr]at h0;cases h0),λk j=>?_⟩;have o:=j;rw[hr]at j;simp only[List.mem_cons,List.not_mem_nil,or_false]at j;subst j;exact Jfq D (u.step o) h1 a C
theorem Gg(e:listed=listed')(h:WM N P n ops Q fuel listed' al w): WM N P n ops Q fuel listed al w:=by subst e;exact h
theorem mcut{α:Type}(fuel':Nat)(L':Array Bool)(fr:α->AL)(I:α->World->Prop)(h2:∀ x w,I x w->WM N P n ops Q fuel' L' (fr x) w)(h1:(∀ x al w,I x w->Sub (fr x) al->WM N P n ops Q fuel' L' al w)->WM N P n ops Q fuel L al w): WM N P n ops Q fuel L al w:=h1 λx al w hi hs=>(h2 x w hi).sub hs
end
end Go.Wk
namespace Go.Wk
open Go.RowKit
variable {d n ty v:Nat}
theorem sl64{P:Program}{al:AL}{w:World}{Q:Exit->Act->World->Prop}{ops:Array Oper}{rest:List Oper}{pos:String}{aft:Array Edge}{y:Operand}{t yt:TypeId}(hv:v<64)(kk:WL P n ops Q rest ((d,.int .u64 ((2^v:Nat):Int))::al) w)(hy:ev al y=some (.int .i64 (v:Int)):=by rfl)(hd:Nat.blt d n=true:=by rfl):
  WL P n ops Q (⟨some d,.binOp .shl t (.const (.int .u64 1)) y yt,ty,pos,aft,none⟩::rest) al w:=by
 have e:IntKind.u64.wrap (1*2^(min ((v:Nat):Int).toNat IntKind.u64.bits))=((2^v:Nat):Int):=by
  have h:2^v<18446744073709551616:=nM (Nat.pow_lt_pow_right (by decide:1<2) hv) (by decide);rw[Int.toNat_natCast,Nat.min_eq_left (by show v<=64;omega),Int.one_mul];have:((2:Int)^v)=((2^v:Nat):Int):=by simp
  rw[this,IntKind.wrap_u64];grind
 rw[<-e]at kk;exact wop hd (λa i=>Jkz (x:=.const (.int .u64 1)) rfl hy om i (some d) w) kk
end Go.Wk
namespace Go.Proofs.YtgobkbeokaaplaaGreatDoor
open Go.RowKit Pl Go.Wk _root_.Go.Proofs.Tryz
attribute [local irreducible] WC WL QX WD WDB WP WN WG
variable {es:List Nat}{c e i n v x:Nat}{A:Option Addr}{w:World}
def Uc(es:List Nat): List Value:=es.map fun (e:Nat)=>Value.int .u32 (e:Int)
theorem Qdg(h:i<es.length): (Uc es)[i]?=some (.int .u32 (es.getD i 0:Int)):=by
 simp[Uc,List.getD,List.getElem?_eq_getElem h]
structure GrV(w:World)(A:Option Addr)(c n:Nat)(es:List Nat): Prop where
 rd:Rd w 1 A es.length (Uc es)
 cap:es.length<=c
 n32:n<=32
 few:es.length<=64
 lt:∀ e∈es,e<2^n
abbrev grC(A:Option Addr)(c n:Nat)(es:List Nat): List Value:=[.int .i64 (n:Int),.slice A es.length c]
theorem GrV.ext{w w':World}{A:Option Addr}{c n:Nat}{es:List Nat}(h:GrV w A c n es)(hx:Ext w w'): GrV w' A c n es:=⟨h.rd.ext hx,h.cap,h.n32,h.few,h.lt⟩
theorem Jxw(h:n<=32): 2^n<=4294967296:=Nat.pow_le_pow_right (n:=2) (by decide) h
theorem GrV.lt32(h:GrV w A c n es)(he:e∈es): e<4294967296:=nM (h.lt e he) (Jxw h.n32)
theorem Xzj(hn:n<=32)(w:World): Ret prog 193 [.int .i64 (n:Int)] w λu w'=>u=.int .u32 ((2^n-1:Nat):Int)/\w'=w:=by
 have hp:=Jxw hn;have i:0<2^n:=Nat.two_pow_pos n;refine enE func193 ntmps193 ?_;refine ρ ?_;refine sl64 (v:=n) om ?_;refine ρ ?_;refine Jj ⟨?_,rfl⟩;generalize 2^n=p at *
 congr 1
 rw[IntKind.wrap_u64,IntKind.wrap_u32];omega
theorem Xcr(h:e<2^n)(hn:n<=32): Kf e (2^n-1)=0:=by
 have hp:=Jxw hn;have i:0<2^n:=Nat.two_pow_pos n;apply Nat.eq_of_testBit_eq
 grind [Jpb,Nat.testBit_two_pow_sub_one,Nat.testBit_lt_two_pow,Nat.lt_of_lt_of_le,Nat.pow_le_pow_right]
theorem Qwg(h:GrV w A c n es): Ret prog 167 [.agg (grC A c n es).toArray] w λu w'=>u=.int .i64 0/\Ext w w':=by
 have hn:=h.n32;have hf:=h.few;refine enE func167 ntmps167 ?_;refine bxR (cs:=grC A c n es) ?_;intro w1 b o hb C;refine ldR (C.at (i:=0) rfl) ?_;refine ldR (C.at (i:=0) rfl) ?_;refine cfR ?_ ?_
 .grind
 refine ldR (C.at (i:=1) rfl) ?_;refine cfR ?_ ?_
 .grind
 refine ldR (C.at (i:=1) rfl) ?_;refine ρ ?_;refine Qs (fun (i:Nat)=>[(1,.pointer (some ⟨b,0,none⟩)),(18,.slice A es.length c),(19,.int .i64 (es.length:Int)),(20,.int .i64 (i:Int))])
  (λi w'=>i<=es.length/\Ext w1 w') (λi=>es.length-i) 0 sB ⟨Nat.zero_le _,Ext.refl _⟩ ?_
 rintro i Z ⟨hi,j⟩;have G:=C.ext j;have J:=h.ext (o.trans j);refine ciR (λh=>?_) (λh=>?_)
 .have D:i<es.length:=by have:=oT h;omega
  clear h;have O:=getD_mem' 0 es D;refine ixR i J.rd D ?_;refine ldR (J.rd.cell (Qdg D)) ?_;refine ldR (G.at (i:=0) rfl) ?_;refine clR (Xzj hn Z) ?_;rintro u w3 ⟨rfl,rfl⟩;have hp:=Jxw hn;have a1:0<2^n:=Nat.two_pow_pos n;refine cfR ?_ ?_
  .rw[Jnp (J.lt32 O) om,Xcr (h.lt _ O) hn];rfl
  refine ρ ?_;exact Qm (i+1) sO ⟨om,j⟩ om
 refine ρ ?_;exact Jj ⟨rfl,o.trans j⟩
def Zx(a:Nat->Nat): List Value:=(List.range 32).map λv=>.int .u32 (a v:Int)
theorem Uz(a:Nat->Nat): (Zx a).length=32:=by simp[Zx]
theorem Io{a:Nat->Nat}(h:v<32): (Zx a)[v]?=some (.int .u32 (a v:Int)):=by simp[Zx,h]
theorem Jgp(a:Nat->Nat)(h:v<32): (Zx a).set v (.int .u32 (x:Int))=Zx (upd a v x):=by
 apply List.ext_getElem?
 grind [Uz,Io,Qz,Jm,Zx]
theorem Jgq(a:Nat->Nat): ∀ u∈Zx a,u.oneCell'=true:=λu i=>by obtain⟨e,_,rfl⟩:=List.mem_map.1 i;rfl
theorem Jkm: Qu prog 205=some (.agg (Zx λ_=>0).toArray):=kr
theorem Jpm: Qu prog 204=some (.agg (List.replicate 32 (Value.int .i64 0)).toArray):=kr
def AdjP(n:Nat)(es:List Nat)(a:Nat->Nat): Prop:=∀ v,v<32->a v<4294967296/\∀ x,(a v).testBit x=(decide (v<n) && (x != v) && es.any λe=>e.testBit v && e.testBit x)
theorem Jbb: (2^v).testBit x=decide (v=x):=Nat.testBit_two_pow
theorem Xzk(h:GrV w A c n es): Ret prog 194 [.agg (grC A c n es).toArray] w λu w'=>Ext w w'/\∃ a,u=.agg (Zx a).toArray/\AdjP n es a:=by
 have hn:=h.n32;have hf:=h.few;refine enE func194 ntmps194 ?_;refine bxR (cs:=grC A c n es) ?_;intro w1 b1 a3 ar af;refine Jw (cs:=Zx λ_=>0) Jkm ?_;intro w2 b2 a1 aq an;refine Jw (cs:=Zx λ_=>0) Jkm ?_;intro w3 b3 a8 ak am;have ao:=(a3.trans a1).trans a8;refine ldR (((af.ext a1).ext a8).at (i:=1) rfl) ?_;refine ρ ?_;refine Jo (fun (i:Nat) (a:Nat->Nat)=>[(1,.pointer (some ⟨b1,0,none⟩)),(2,.pointer (some ⟨b2,0,none⟩)),(3,.pointer (some ⟨b3,0,none⟩)),(8,.slice A es.length c),(9,.int .i64 (es.length:Int)),(10,.int .i64 (i:Int))])
  (λi a w'=>i<=es.length/\Ext w2 w'/\Blk w' b3 205 (Zx a)/\AdjP n (es.take i) a) (λi _=>es.length-i) 0 (λ_=>0) sB
  ⟨Nat.zero_le _,a8,am,λv _=>⟨by simp only;omega,λx=>by simp⟩⟩ ?_
 rintro i a w4 ⟨hi,Z,a7,ha⟩;have ae:=(af.ext a1).ext Z;have ad:=an.ext Z;have h4:=h.ext ((a3.trans a1).trans Z);refine ciR (λG=>?_) (λG=>?_)
 .have li:i<es.length:=by have:=oT G;omega
  clear G;have hm:=getD_mem' 0 es li;have C:=h4.lt32 hm;obtain⟨e,he⟩:∃ e,e=es.getD i 0:=⟨_,rfl⟩;refine ixR i h4.rd li ?_;refine ldR (h4.rd.cell (Qdg li)) ?_;rw[<-he]at hm C ⊢;refine ldR (ae.at (i:=0) rfl) ?_;refine ρ ?_;refine Jo (fun (v:Nat) (J:Nat->Nat)=>[(1,.pointer (some ⟨b1,0,none⟩)),(2,.pointer (some ⟨b2,0,none⟩)),(3,.pointer (some ⟨b3,0,none⟩)),(8,.slice A es.length c),(9,.int .i64 (es.length:Int)),(10,.int .i64 (i:Int)),(5,.int .u32 (e:Int)),(15,.int .i64 (n:Int)),(16,.int .i64 (v:Int))])
   (λv J w'=>v<=n/\Ext w2 w'/\Blk w' b3 205 (Zx J)/\∀ u,u<32->J u<4294967296/\∀ x,(J u).testBit x=((a u).testBit x || (decide (u<v) && e.testBit u && e.testBit x && (x != u)))) (λv _=>n-v) 0 a sB
   ⟨Nat.zero_le _,Z,a7,λu hu=>⟨(ha u hu).1,λx=>by simp⟩⟩ ?_
  rintro v J w5 ⟨hv,O,a2,a4⟩;refine ciR (λG=>?_) (λG=>?_)
  .have lv:v<n:=by have:=oT G;omega
   have o:v<32:=om
   clear G;have a9:=a4 v o;have ag:=Ko o;refine ρ ?_;refine Ia (s:=e) (v:=v) om ?_;refine ciR (λG=>?_) (λG=>?_)
   .rw[Gu C]at G;have aa:Ext w5 w5.drew:=(Ext.refl w5).drew;have D:=a2.ext aa;refine ρ ?_;refine drN (λ_=>False) 10 (scq 10 [109]) kr ?_;refine ρn ?_;refine nixb v o ?_;refine ρn ?_;refine nld (Jr (D.atc (Io o)) (λe=>e)) ?_;refine ρn ?_;refine Jhx o ?_;refine ρn ?_;refine nixb v o ?_;refine ρn ?_;refine Xu ?_;refine sto (p:=⟨b3,v,none⟩) (D.cell v |>.trans (Io o)) (D.frozen _) ?_;have a5:=Qdc (t:=2^v) C;have ah:bits .or .u32 (J v:Int) (bits .andNot .u32 (e:Int) ((2^v:Nat):Int))=((J v ||| Kf e (2^v):Nat):Int):=by
     rw[Jnp C ag,Jjp a9.1 a5]
    rw[ah];have a6:=D.set v (.int .u32 ((J v ||| Kf e (2^v):Nat):Int));rw[Jgp J o]at a6;have ab:w2.heap.size<=b3:=ak;refine ω5 ?_;refine Uu ?_;refine ρn ?_;refine ρ ?_;refine Jf (v+1) (upd J v (J v ||| Kf e (2^v))) sO ⟨om,(O.trans aa).setCell ab _,a6,λu hu=>?_⟩ om;by_cases e1:u=v
    .subst e1;rw[Qz];refine⟨Jbx a9.1 a5,λx=>?_⟩;rw[Nat.testBit_or,Jpb C ag,Jbb,a9.2,G,decide_eq_true (Nat.lt_succ_self u),decide_eq_false (Nat.lt_irrefl u)];grind
    repeat grind [Jm]
   rw[Gu C]at G;refine ρ ?_;refine Jf (v+1) J sO ⟨om,O,a2,λu hu=>⟨(a4 u hu).1,λx=>?_⟩⟩ om;grind
  have ai:v=n:=by have:=oF G;omega
  subst ai;clear G;refine ρ ?_;refine Jf (i+1) J sO ⟨om,O,a2,λu hu=>⟨(a4 u hu).1,λx=>?_⟩⟩ om;rw[(a4 u hu).2,(ha u hu).2,Qr 0 li,<-he,List.any_append];grind
 have aj:i=es.length:=by have:=oF G;omega
 subst aj;clear G;rw[List.take_length]at ha;refine ρ ?_;refine lda (cs:=Zx a) (λj u hu=>a7.at hu) (Uz a).symm ?_;refine ρ ?_;refine sta (cs':=Zx a) ad ?_ (Jgq a) (by rw[Uz,Uz]) (Uz a).symm;intro w5 ac ap O;refine ρ ?_;exact Qwx ac (Uz a).symm ⟨O w ((a3.trans a1).trans Z) (by have:=a3.size;omega),a,rfl,ha⟩
open Go.RowKit Pl Go.Wk _root_.Go.Proofs.Tryz
variable {es:List Nat}{c f n v:Nat}{A:Option Addr}{w:World}
theorem Xzh(h:GrV w A c n es)(hv:v<n): Ret prog 168 [.agg (grC A c n es).toArray,.int .i64 (v:Int)] w λu w'=>Ext w w'/\∃ a,u=.int .u32 (a v:Int)/\AdjP n es a:=by
 have hn:=h.n32;refine enE func168 ntmps168 ?_;refine bxR (cs:=grC A c n es) ?_;intro w1 b C hb O;refine Jh (cs:=grC A c n es) (λj u J=>O.at J) ?_;refine clR (Qwg (h.ext C)) ?_;rintro u w2 ⟨rfl,o⟩;have D:=O.ext o;refine ldR (D.at (i:=0) rfl) ?_;refine cfR ?_ ?_
 .grind
 refine Jh (cs:=grC A c n es) (λj u J=>D.at J) ?_;refine clR (Xzk (h.ext (C.trans o))) ?_;rintro u w3 ⟨G,a,rfl,Z⟩;refine ρ ?_;refine idx v (show v<32 by omega) (Io (show v<32 by omega)) ?_;refine ρ ?_;exact Jj ⟨(C.trans o).trans G,a,rfl,Z⟩
theorem Xkr(h:GrV w A c n es): Ret prog 122 [.agg (grC A c n es).toArray] w λu w'=>Ext w w'/\∃ a,u=.agg (Zx a).toArray/\AdjP n es a:=by
 have hn:=h.n32;refine enE func122 ntmps122 ?_;refine bxR (cs:=grC A c n es) ?_;intro w1 b1 a4 ag a9;refine Jw (cs:=Zx λ_=>0) Jkm ?_;intro w2 b2 a1 af ad;refine Jw (cs:=Zx λ_=>0) Jkm ?_;intro w3 b3 a3 ab ac;refine ldR (((a9.ext a1).ext a3).at (i:=0) rfl) ?_;refine ρ ?_;refine Jo (fun (v:Nat) (a:Nat->Nat)=>[(1,.pointer (some ⟨b1,0,none⟩)),(2,.pointer (some ⟨b2,0,none⟩)),(3,.pointer (some ⟨b3,0,none⟩)),(6,.int .i64 (n:Int)),(7,.int .i64 (v:Int))])
  (λv a w'=>v<=n/\Ext w2 w'/\Blk w' b3 205 (Zx a)/\∀ u,u<32->a u<4294967296/\∀ x,(a u).testBit x=(decide (u<v) && (x != u) && es.any λe=>e.testBit u && e.testBit x)) (λv _=>n-v) 0 (λ_=>0) sB
  ⟨Nat.zero_le _,a3,ac,λu hu=>⟨by simp only;omega,λx=>by simp⟩⟩ ?_
 rintro v a w4 ⟨hv,G,Z,ha⟩;have a8:=(a9.ext a1).ext G;have a7:=ad.ext G;have J:=(a4.trans a1).trans G;refine ciR (λhc=>?_) (λhc=>?_)
 .have lv:v<n:=by have:=oT hc;omega
  have o:v<32:=om
  clear hc;refine Jh (cs:=grC A c n es) (λj u hu=>a8.at hu) ?_;refine clR (Xzh (h.ext J) lv) ?_;rintro u w5 ⟨D,a2,rfl,a5⟩;have C:=Z.ext D;refine ρ ?_;refine ixb v o ?_;refine Xo (p:=⟨b3,v,none⟩) (C.cell v |>.trans (Io o)) (C.frozen _) ?_;have O:=C.set v (.int .u32 ((a2 v:Nat):Int));rw[Jgp a o]at O;refine ρ ?_;refine Jf (v+1) (upd a v (a2 v)) sO ⟨om,(G.trans D).setCell ab _,O,λu hu=>?_⟩ om;by_cases e:u=v
  .subst e;rw[Qz,decide_eq_true (Nat.lt_succ_self u)];refine⟨(a5 u hu).1,λx=>?_⟩;rw[(a5 u hu).2,decide_eq_true lv]
  repeat grind [Jm]
 have aa:v=n:=by have:=oF hc;omega
 subst aa;clear hc;refine ρ ?_;refine lda (cs:=Zx a) (λj u hu=>Z.at hu) (Uz a).symm ?_;refine ρ ?_;refine sta (cs':=Zx a) a7 ?_ (Jgq a) (by rw[Uz,Uz]) (Uz a).symm;intro w5 a6 ae D;refine ρ ?_;exact Qwx a6 (Uz a).symm ⟨D w J (by have:=a4.size;omega),a,rfl,ha⟩
theorem Xkp(h:GrV w A c n es)(hf:f<=n): Ret prog 121 [.agg (grC A c n es).toArray,.int .i64 (f:Int)] w λu w'=>u=.int .i64 0/\Ext w w':=by
 have hn:=h.n32;refine enE func121 ntmps121 ?_;refine bxR (cs:=grC A c n es) ?_;intro Z b C hb G;refine Jh (cs:=grC A c n es) (λj u J=>G.at J) ?_;refine clR (Qwg (h.ext C)) ?_;rintro u O ⟨rfl,o⟩;have D:=G.ext o;refine ldR (D.at (i:=0) rfl) ?_;refine cfR ?_ ?_
 .grind
 refine ρ ?_;exact Jj ⟨rfl,C.trans o⟩
end Go.Proofs.YtgobkbeokaaplaaGreatDoor
namespace Go.Proofs.YtgobkbeokaaplaaGreatDoor
open Pl Go.Wk
variable {es l ord perm:List Nat}{e i j k n u v x:Nat}{f g:Nat->List Value}
def nb0(n:Nat)(es:List Nat)(u x:Nat): Bool:=decide (u<n) && (x != u) && es.any λe=>e.testBit u && e.testBit x
theorem Xbs(he:e<2^n)(h:e.testBit u=true): u<n:=Jyg he h
theorem Jzj(he:∀ e∈es,e<2^n)(h:nb0 n es u x=true): u<n/\x<n/\x≠u:=by
 simp only[nb0,Bool.and_eq_true,decide_eq_true_eq,bne_iff_ne,List.any_eq_true]at h;obtain⟨⟨C,o⟩,e,i,_,j⟩:=h;exact⟨C,Xbs (he e i) j,o⟩
theorem Jlf(he:∀ e∈es,e<2^n): NbInv [] (nb0 n es):=by
 refine⟨λu x _ _=>?_,λu x _ h=>⟨by simp,(Jzj he h).2.2⟩⟩;rw[Bool.eq_iff_iff];have key:∀ u x,nb0 n es u x=true->nb0 n es x u=true:=λu x h=>by
  have i:=Jzj he h;simp only[nb0,Bool.and_eq_true,decide_eq_true_eq,bne_iff_ne,List.any_eq_true]at h ⊢;grind
 grind
theorem Jhz: ∀(k:Nat) {l:List Nat},l.Nodup->(∀ u∈l,u<k)->l.length<=k
 | 0,[],_,_=>nR _
 | 0,u::l,_,h=>absurd (h u (mC ..)) om
 | k+1,l,hn,h=>by
  have h1:=Jhz k (l:=l.filter λu=>u != k) (hn.sublist List.filter_sublist) (λu hu=>by grind);have h2:l.length<=(l.filter λu=>u != k).length+1:=by
   clear h h1;induction l with
   | nil=>simp
   | cons x l ih=>
    grind [List.nodup_cons.1,List.filter_eq_self.2,List.filter_cons_of_neg,List.length_cons,List.filter_cons_of_pos]
  omega
theorem Qtp(hn:l.Nodup)(hlt:∀ u∈l,u<k)(hlen:l.length=k)(hu:u<k): u∈l:=by
 refine Classical.byContradiction λh=>?_;have:=Jhz k (l:=u::l) (List.nodup_cons.2 ⟨h,hn⟩) (λx i=>by grind);grind
def Xb(perm:List Nat)(f:Nat): List Nat:=perm++(List.range f).reverse
structure PermOk(n f:Nat)(perm:List Nat): Prop where
 fn:f<=n
 len:perm.length=n-f
 rng:∀ v∈perm,f<=v/\v<n
 nd:perm.Nodup
theorem PermOk.olen{f:Nat}(h:PermOk n f perm): (Xb perm f).length=n:=by
 have:=h.len;have:=h.fn;simp[Xb];omega
theorem PermOk.ond{f:Nat}(h:PermOk n f perm): (Xb perm f).Nodup:=by
 refine List.nodup_append.2 ⟨h.nd,List.pairwise_reverse.2 (List.nodup_range.imp λh=>h.symm),λu i v j e=>?_⟩;have o:=(h.rng u i).1;grind
theorem PermOk.olt{f:Nat}(h:PermOk n f perm)(hu:u∈Xb perm f): u<n:=by
 rcases List.mem_append.1 hu with h1|h1
 .exact(h.rng u h1).2
 have:=List.mem_range.1 (List.mem_reverse.1 h1);have:=h.fn;omega
theorem PermOk.omem{f:Nat}(h:PermOk n f perm): u∈Xb perm f↔u<n :=
 ⟨h.olt,λi=>Qtp h.ond (λ_=>h.olt) h.olen i⟩
theorem Jhq(hn:ord.Nodup)(hi:i<ord.length): pre ord (ord.getD i 0)=ord.take i:=by grind [Qd,List.drop_eq_getElem_cons,List.take_append_drop,List.nodup_append,List.mem_cons_self,Jbv]
def plc(ord:List Nat)(u:Nat): Nat:=(pre ord u).length
theorem Jqf(hn:ord.Nodup)(hi:i<ord.length): plc ord (ord.getD i 0)=i:=by grind [plc,Jhq,List.length_take]
theorem Kj(hn:ord.Nodup)(hu:u∈ord): plc ord u<ord.length/\ord.getD (plc ord u) 0=u:=by
 obtain⟨i,hi,e⟩:=List.getElem_of_mem hu;have j:=Jqf hn hi;grind
theorem Jlp(hn:ord.Nodup)(hv:v∈ord)(hu:u∈ord): Jyl ord v u↔plc ord v<=plc ord u:=by
 obtain⟨J,G⟩:=Kj hn hv;obtain⟨D,C⟩:=Kj hn hu;have e:pre ord v=ord.take (plc ord v):=by grind [Jhq]
 unfold Jyl;rw[e];constructor
 .grind [Nat.lt_or_ge,plc,List.mem_iff_getElem.2,List.length_take,Qd]
 intro h i;obtain⟨j,o,e⟩:=List.getElem_of_mem i;rw[List.length_take]at o;rw[List.getElem_take]at e;have:=Jqf hn (show j<ord.length by omega);grind
def Qy(n:Nat)(f:Nat->List Value): List Value:=(List.range n).flatMap f
theorem Ky(n:Nat)(f:Nat->List Value): Qy (n+1) f=Qy n f++f n:=by simp[Qy,List.range_succ,List.flatMap_append]
theorem Jvp{sz:Nat}(h:∀ i,i<n->(f i).length=sz): (Qy n f).length=n*sz:=by
 induction n with
 | zero=>simp[Qy]
 | succ n ih=>rw[Ky,List.length_append,ih (λi hi=>h i om),h n om,Nat.succ_mul]
theorem Jdh(h:∀ i,i<n->f i=g i): Qy n f=Qy n g:=by
 induction n with
 | zero=>rfl
 | succ n ih=>rw[Ky,Ky,ih (λi hi=>h i om),h n om]
theorem Yk{sz:Nat}(h:∀ i,i<n->(f i).length=sz)(hi:i<n)(hj:j<sz): (Qy n f)[i*sz+j]?=(f i)[j]?:=by
 induction n with
 | zero=>omega
 | succ n ih=>
  have o:=Jvp (n:=n) (λi hi=>h i om);rw[Ky];grind
theorem Xzx{sz:Nat}(h:∀ i,i<n->(f i).length=sz)(hi:i<n){cs:List Value}(hc:cs.length=sz): (Qy n f).take (i*sz)++cs++(Qy n f).drop (i*sz+sz)=Qy n (upd f i cs):=by
 induction n with
 | zero=>omega
 | succ n ih=>
  have o:=Jvp (n:=n) (λi hi=>h i om);have j:=h n om;rw[Ky,Ky];by_cases e:i=n
  .grind [List.take_of_length_le,List.drop_of_length_le,List.length_append,Qz,Jdh,Jm]
  have u:i*sz+sz<=n*sz:=by
   have:(i+1)*sz<=n*sz:=nO _ om;grind
  grind [List.append_assoc,Jm]
open Go.RowKit Pl Go.Wk _root_.Go.Proofs.Tryz
attribute [local irreducible] WC WL QX WD WDB WP WN WG
variable {es perm:List Nat}{v x:Nat}
def Ym(o:Nat->Nat): List Value:=(List.range 32).map λi=>.int .i64 (o i:Int)
theorem Qkt(o:Nat->Nat): (Ym o).length=32:=by simp[Ym]
theorem Jjd{o:Nat->Nat}(h:v<32): (Ym o)[v]?=some (.int .i64 (o v:Int)):=by simp[Ym,h]
theorem Qks(o:Nat->Nat)(h:v<32): (Ym o).set v (.int .i64 (x:Int))=Ym (upd o v x):=by
 apply List.ext_getElem?
 grind [Qkt,Jjd,Qz,Jm,Ym]
theorem Xxr(h:perm.length<=32): Jt (nz perm)++(List.replicate 32 (Value.int .i64 0)).drop perm.length=Ym λi=>perm.getD i 0:=by
 have j:(Jt (nz perm)).length=perm.length:=by simp[Jt,nz]
 apply List.ext_getElem?
 grind [List.getElem?_append_left,Zb,Jjd,List.getElem?_append_right,List.getD,List.getElem?_eq_none,Nat.le_of_not_lt,Qkt]
def Xq(kf:Nat->Nat)(pf:Nat->Int)(v:Nat): List Value:=[.int .i64 (v:Int),.int .u32 (kf v:Int),.int .i64 (pf v)]
def Jkl(n:Nat)(es ord:List Nat)(kf:Nat->Nat)(pf:Nat->Int): Prop:=∀ v,v<n->kf v<4294967296/\(∀ x,(kf v).testBit x=Vx (nb0 n es) ord v x) /\
 ((pf v = -1/\∀ x,Vx (nb0 n es) ord v x=false)∨∃ p:Nat,pf v=p/\Vx (nb0 n es) ord v p=true/\∀ x,Vx (nb0 n es) ord v x=true->plc ord p<=plc ord x)
theorem EBg: ElT prog 51 208 3 24 (.agg #[.int .i64 0,.int .u32 0,.int .i64 0]):=⟨underlying51,info_parts kr,rfl,by decide⟩
theorem zBag: Qu prog 208=some (.agg #[.int .i64 0,.int .u32 0,.int .i64 0]):=kr
theorem Xbl(v k:Int)(w:World): (Instr.build 208 #[(0,.int .i64 v),(1,.int .u32 k),(2,.int .i64 (-1))]).run prog w=.ok (.agg #[.int .i64 v,.int .u32 k,.int .i64 (-1)]) w:=kr
theorem Jwl{a b c:Int}: ∀ u∈[Value.int .i64 a,.int .u32 b,.int .i64 c],u.oneCell'=true:=λu i=>by
 simp only[List.mem_cons,List.not_mem_nil,or_false]at i;rcases i with rfl|rfl|rfl<;>rfl
theorem Xjs{zs:List Value}(h:0<zs.length)(n:Nat): (madeCells zs.toArray (n*zs.length)).toList=Qy n λ_=>zs:=by
 apply List.ext_getElem?
 intro k;by_cases hk:k<n*zs.length
 .have hd:k / zs.length<n:=Nat.div_lt_of_lt_mul (by grind);have i:=Nat.mod_lt k h;have j:=Yk (n:=n) (sz:=zs.length) (f:=λ_=>zs) (λ_ _=>rfl) hd i;rw[Nat.div_add_mod' k zs.length]at j;rw[j];simp only[madeCells,Array.getElem?_toList,Array.getElem?_map,Array.getElem?_range,hk,if_true,Option.map_some];simp[i]
 have o:=Jvp (n:=n) (sz:=zs.length) (f:=λ_=>zs) (λ_ _=>rfl);rw[List.getElem?_eq_none (by simp[madeCells];omega),List.getElem?_eq_none om]
theorem made3(n:Nat): (madeCells (Value.agg #[.int .i64 0,.int .u32 0,.int .i64 0]).cells (n*3)).toList=Qy n λ_=>[.int .i64 0,.int .u32 0,.int .i64 0]:=Xjs (zs:=[.int .i64 0,.int .u32 0,.int .i64 0]) (by simp) n
def Gw(ord:List Nat)(kf:Nat->Nat)(pf:Nat->Int)(j v:Nat): List Value:=if plc ord v<j then Xq kf pf v else[.int .i64 0,.int .u32 0,.int .i64 0]
theorem Xcg(ord:List Nat)(kf:Nat->Nat)(pf:Nat->Int)(j v:Nat): (Gw ord kf pf j v).length=3:=by unfold Gw;split<;>rfl
def BagAt(n:Nat)(es ord:List Nat)(v k:Nat)(p:Int): Prop:=k<4294967296/\(∀ x,k.testBit x=Vx (nb0 n es) ord v x) /\
 ((p = -1/\∀ x,Vx (nb0 n es) ord v x=false)∨∃ q:Nat,p=q/\Vx (nb0 n es) ord v q=true/\∀ x,Vx (nb0 n es) ord v x=true->plc ord q<=plc ord x)
theorem Qvn(x y:Nat): decide (x=y) = !(y != x):=by grind
theorem Xkq{w:World}{A PA:Option Addr}{c pc n f:Nat}(h:GrV w A c n es)(hp:PermOk n f perm)(hP:Rd w 1 PA perm.length (Jt (nz perm))):
  Ret prog 72 [.agg (grC A c n es).toArray,.int .i64 (f:Int),.slice PA perm.length pc] w λu w'=>Ext w w'/\∃ B kf pf,u=.tuple #[.slice B n n,.int .i64 0]/\w'.ownsRow w.heap.size 208 3 (.slice B n n) n (Qy n (Xq kf pf))/\Jkl n es (Xb perm f) kf pf:=by
 have hn:=h.n32;have ey:=hp.fn;have f9:=hp.len;refine enE func72 ntmps72 ?_;refine bxR (cs:=grC A c n es) ?_;intro w1 b3 dq fc e8;refine Jh (cs:=grC A c n es) (λj u hu=>e8.at hu) ?_;refine clR (Xkp (h.ext dq) ey) ?_;rintro u w2 ⟨rfl,dj⟩;have be:=dq.trans dj;refine ρ ?_;refine Jo (fun (i:Nat) (s:Nat)=>[(1,.int .i64 (f:Int)),(2,.slice PA perm.length pc),(3,.pointer (some ⟨b3,0,none⟩)),(9,.int .u32 (s:Int)),(28,.slice PA perm.length pc),(29,.int .i64 (perm.length:Int)),(30,.int .i64 (i:Int))])
  (λi s w'=>i<=perm.length/\w'=w2/\s<4294967296/\∀ x,s.testBit x=true->x∈perm.take i) (λi _=>perm.length-i) 0 0 sB
  ⟨Nat.zero_le _,rfl,om,λx J=>by simp at J⟩ ?_
 rintro i s w' ⟨hi,rfl,hs,d6⟩;have af:=e8.ext dj;refine ciR (λZ=>?_) (λZ=>?_)
 .have li:i<perm.length:=by have:=oT Z;omega
  clear Z;have e6:=hP.ext be;have hv:=hp.rng _ (getD_mem' 0 perm li);obtain⟨v,ev⟩:∃ v,v=perm.getD i 0:=⟨_,rfl⟩;refine ixR i e6 li ?_;refine ldR (e6.cell (Zb li)) ?_;rw[<-ev]at hv ⊢;refine kfR 37 ?_ ?_
  .exact dF om
  refine ldR (af.at (i:=0) rfl) ?_;refine kfR 43 ?_ ?_
  .exact dF om
  refine ρ ?_;refine Ia (s:=s) (v:=v) om ?_;have dv:perm.take (i+1)=perm.take i++[v]:=by rw[Qr 0 li,ev]
  have er:v ∉ perm.take i:=λhm=>by
   have G:(perm.take (i+1)).Nodup:=hp.nd.sublist (List.take_sublist _ _);rw[dv,List.nodup_append]at G;exact G.2.2 _ hm _ (List.mem_singleton.2 rfl) rfl
  refine cfR ?_ ?_
  .rw[Gu hs];cases hb:s.testBit v with
   | false=>rfl
   | true=>exact absurd (d6 v hb) er
  have ck:=Ko (show v<32 by omega);refine ρ ?_;refine sl32 (v:=v) om ?_;refine ρ ?_;rw[Jjp hs ck];refine ρ ?_;refine Jf (i+1) (s ||| 2^v) sO ⟨om,rfl,Jbx hs ck,λx J=>?_⟩ om;rw[Nat.testBit_or,Jbb,Bool.or_eq_true,decide_eq_true_eq]at J;rw[dv,List.mem_append,List.mem_singleton];rcases J with J|J
  .exact .inl (d6 x J)
  exact .inr J.symm
 clear Z hs d6 hi;refine ldR (af.at (i:=0) rfl) ?_;refine cfR ?_ ?_
 .exact Qbx om
 refine Jw (cs:=List.replicate 32 (Value.int .i64 0)) Jpm ?_;intro w3 a8 c4 d0 cj;refine Jw (cs:=List.replicate 32 (Value.int .i64 0)) Jpm ?_;intro w4 a1 cm cz e9;have ch:=cj.ext cm;have dh:=(be.trans c4).trans cm;refine ρ ?_;refine sla ?_;refine ρ ?_;refine cpb (dl:=32) (dc:=32) ch (hP.ext dh) om (by simp) (λu hu=>?_) ?_
 .obtain⟨z,_,rfl⟩:=List.mem_map.1 hu;rfl
 intro w5 cg da;rw[Xxr om]at cg;have d9:a1≠a8:=λe=>by have:=cj.lt;omega
 have dd:Blk w5 a1 204 (Ym λ_=>0):=by
  have G:=e9.grown da (λe=>by injection e with e;exact d9 e);exact G
 have e7:Blk w5 b3 151 (grC A c n es):=by
  have G:=(af.ext (c4.trans cm)).grown da (λe=>by injection e with e;have:=af.lt;omega);exact G
 have ca:w'.heap.size<=a8:=d0;have ei:Ext w' w5:=Jdc (c4.trans cm) da ca;obtain⟨ord,ak⟩:∃ ord,ord=Xb perm f:=⟨_,rfl⟩;have c6:ord.length=n:=by rw[ak];exact hp.olen
 have a3:ord.Nodup:=by rw[ak];exact hp.ond
 have b6:∀ {u},u∈ord↔u<n:=fun {u}=>by rw[ak];exact hp.omem
 have cw:∀ i,i<n->ord.getD i 0<n:=λi hi=>b6.1 (getD_mem' 0 ord (c6.symm ▸ hi));clear cj ch;refine ρ ?_;refine Jo (fun (k:Nat) (o:Nat->Nat)=>[(1,.int .i64 (f:Int)),(2,.slice PA perm.length pc),(3,.pointer (some ⟨b3,0,none⟩)),(12,.pointer (some ⟨a8,0,none⟩)),(13,.pointer (some ⟨a1,0,none⟩)),(65,.int .i64 (f:Int)),(66,.int .i64 (k:Int))])
  (λk o w6=>k<=f/\Ext w' w6/\Blk w6 b3 151 (grC A c n es)/\Blk w6 a8 204 (Ym o)/\Blk w6 a1 204 (Ym λ_=>0)/\∀ j,j<perm.length+k->o j=ord.getD j 0) (λk _=>f-k) 0 (λi=>perm.getD i 0) sB
  ⟨Nat.zero_le _,ei,e7,cg,dd,λj hj=>?_⟩ ?_
 .rw[ak];simp[Xb,List.getD,List.getElem?_append_left (show j<perm.length by omega)]
 rintro k o w6 ⟨hk,d3,bj,ah,bd,ho⟩;refine ciR (λZ=>?_) (λZ=>?_)
 .have lk:k<f:=by have:=oT Z;omega
  clear Z;have d7:perm.length+k<32:=om
  refine ρ ?_;refine ixb (perm.length+k) d7 ?_;refine ρ ?_;have ev:(f:Int)-1-(k:Int)=((f-1-k:Nat):Int):=om
  rw[ev];refine sto (p:=⟨a8,perm.length+k,none⟩) (ah.cell _ |>.trans (Jjd d7)) (ah.frozen _) ?_;have O:=ah.set (perm.length+k) (.int .i64 ((f-1-k:Nat):Int));rw[Qks o d7]at O;refine ρ ?_;refine Jf (k+1) (upd o (perm.length+k) (f-1-k)) sO ⟨om,d3.setCell ca _,bj.far (by simp only;have:=af.lt;omega) _,O,bd.far (λe=>d9 e) _,λj hj=>?_⟩ om;by_cases e:j=perm.length+k
  .subst e;rw[Qz,ak];simp only[Xb,List.getD];rw[List.getElem?_append_right om,Nat.add_sub_cancel_left,List.getElem?_reverse (by simp;omega),List.length_range,List.getElem?_range om];rfl
  rw[Jm _ _ e];exact ho j om
 have eu:k=f:=by have:=oF Z;omega
 subst eu;clear Z;have en:perm.length+k=n:=om
 rw[en]at ho;refine ldR (bj.at (i:=0) rfl) ?_;refine ρ ?_;refine Jo (fun (i:Nat) (q:Nat->Nat)=>[(2,.slice PA perm.length pc),(3,.pointer (some ⟨b3,0,none⟩)),(12,.pointer (some ⟨a8,0,none⟩)),(13,.pointer (some ⟨a1,0,none⟩)),(80,.int .i64 (n:Int)),(81,.int .i64 (i:Int))])
  (λi q w7=>i<=n/\Ext w' w7/\Blk w7 b3 151 (grC A c n es)/\Blk w7 a8 204 (Ym o)/\Blk w7 a1 204 (Ym q)/\∀ u,u<n->plc ord u<i->q u=plc ord u) (λi _=>n-i) 0 (λ_=>0) sB
  ⟨Nat.zero_le _,d3,bj,ah,bd,λu _ hu=>om⟩ ?_
 clear d3 bj ah bd;rintro i q w7 ⟨hi,bz,b7,O,a9,hq⟩;refine ciR (λZ=>?_) (λZ=>?_)
 .have li:i<n:=by have:=oT Z;omega
  clear Z;have fa:=cw i li;have eo:=ho i li;refine ρ ?_;refine ixb i (show i<32 by omega) ?_;refine ldR (O.atc (Jjd (show i<32 by omega))) ?_;rw[eo];refine ρ ?_;refine ixb (ord.getD i 0) (show ord.getD i 0<32 by omega) ?_;refine Xo (p:=⟨a1,ord.getD i 0,none⟩) (a9.cell _ |>.trans (Jjd (show ord.getD i 0<32 by omega))) (a9.frozen _) ?_;have ce:=a9.set (ord.getD i 0) (.int .i64 (i:Int));rw[Qks q (show ord.getD i 0<32 by omega)]at ce;have c9:w'.heap.size<=a1:=nL c4.size cz;refine ρ ?_;refine Jf (i+1) (upd q (ord.getD i 0) i) sO ⟨om,bz.setCell c9 _,b7.far (by simp only;have:=af.lt;omega) _,O.far (λe=>d9 e.symm) _,ce,λu hu et=>?_⟩ om;by_cases e:u=ord.getD i 0
  .rw[e,Qz,Jqf a3 (c6.symm ▸ li)]
  rw[Jm _ _ e];refine hq u hu ?_;have G:=Kj a3 (b6.2 hu);rcases Nat.lt_or_ge (plc ord u) i with h2|h2
  .exact h2
  have:plc ord u=i:=om
  rw[this]at G;exact absurd G.2.symm e
 have ex:i=n:=by have:=oF Z;omega
 subst ex;clear Z;have dt:∀ u,u<i->q u=plc ord u:=λu hu=>hq u hu (by have:=(Kj a3 (b6.2 hu)).1;omega);have c3:=be.trans bz;refine Jh (cs:=grC A c i es) (λj u hu=>b7.at hu) ?_;refine clR (Xkr (h.ext c3)) ?_;rintro u w8 ⟨di,a0,rfl,e5⟩;refine Jw (cs:=Zx λ_=>0) Jkm ?_;intro w9 a4 eh cy b8;refine ρ ?_;refine sta (cs':=Zx a0) b8 ?_ (Jgq a0) (by rw[Uz,Uz]) (Uz a0).symm;intro bw b8 f2 dn;have d2:Ext w8 bw:=dn w8 eh cy;have ae:=di.trans d2;have bc:=b7.ext ae;refine ldR (bc.at (i:=0) rfl) ?_;refine ρ ?_;refine mkn EBg i om (by unfold maxLen;omega) ?_;intro f5 B bf au _;rw[made3]at au;have ad:=ae.trans bf;have bb:=bc.ext bf;have bq:=O.ext ad;have bo:=a9.ext ad;have bn:=b8.ext bf;have ef:=c3.trans ad;refine ldR (bb.at (i:=0) rfl) ?_;have ee:w'.heap.size<=a8:=d0;have f7:a1<w7.heap.size:=a9.lt;have f8:a8<w7.heap.size:=O.lt;have l3:b3<w7.heap.size:=b7.lt
 have f6:w7.heap.size<=a4:=nL di.size cy;have dg:a4<bw.heap.size:=b8.lt;have c9:w'.heap.size<=a1:=nL c4.size cz;have ea:Qy i (λ_=>[Value.int .i64 0,.int .u32 0,.int .i64 0])=Qy i (Gw ord (λ_=>0) (λ_=>0) 0):=Jdh λv _=>by simp[Gw]
 have e1:∀ e∈es,e<2^i:=h.lt;rw[ea]at au;refine ρ ?_;refine Jxg (fun (j:Nat) (a:Nat->Nat) (kf:Nat->Nat) (pf:Nat->Int)=>[(3,.pointer (some ⟨b3,0,none⟩)),(12,.pointer (some ⟨a8,0,none⟩)),(13,.pointer (some ⟨a1,0,none⟩)),(16,.pointer (some ⟨a4,0,none⟩)),(17,.slice B i i),(96,.int .i64 (i:Int)),(97,.int .i64 (j:Int))])
  (λj a kf pf aa=>j<=i/\Ext w' aa/\w7.heap.size<=aa.heap.size/\bw.heap.size<=aa.heap.size/\Blk aa b3 151 (grC A c i es)/\Blk aa a8 204 (Ym o)/\Blk aa a1 204 (Ym q)/\Blk aa a4 205 (Zx a)/\aa.ownsRow bw.heap.size 208 3 (.slice B i i) i (Qy i (Gw ord kf pf j)) /\
   (∀ u,u<32->a u<4294967296)/\(∀ u,u<i->∀ x,(a u).testBit x=Yl (nb0 i es) (ord.take j) u x)/\∀ v,v<i->plc ord v<j->BagAt i es ord v (kf v) (pf v)) (λj _ _ _=>i-j) 0 a0 (λ_=>0) (λ_=>0) sB
  ⟨Nat.zero_le _,bz.trans ad,ad.size,bf.size,bb,bq,bo,bn,au,λu hu=>(e5 u hu).1,λu hu x=>?_,λv _ hv=>om⟩ ?_
 .rw[(e5 u om).2];rfl
 clear bb bq bo bn au bc b7 O a9 ea b8 af;rintro j a kf pf aa ⟨hj,b2,em,ed,cb,bp,ax,bm,ar,d1,c2,e2⟩;refine ciR (λZ=>?_) (λZ=>?_)
 .have lj:j<i:=by have:=oT Z;omega
  clear Z;have cq:j<32:=om
  obtain⟨v,ev⟩:∃ v,v=ord.getD j 0:=⟨_,rfl⟩;have b4:v<i:=by rw[ev];exact cw j lj
  have b5:v<32:=om
  have d4:v∈ord:=b6.2 b4;have du:pre ord v=ord.take j:=by rw[ev];exact Jhq a3 (c6.symm ▸ lj)
  have ez:plc ord v=j:=by rw[ev];exact Jqf a3 (c6.symm ▸ lj)
  obtain⟨D,br⟩:∃ D,D=Yl (nb0 i es) (ord.take j):=⟨_,rfl⟩;have am:∀ x,Vx (nb0 i es) ord v x=D v x:=λx=>by rw[Vx,du,br]
  have dz:NbInv (ord.take j) D:=by rw[br];exact(Jlf e1).at (a3.sublist (List.take_sublist _ _))
  have d5:v ∉ ord.take j:=by rw[<-du];exact(Jkw d4).choose_spec.2
  have fb:∀ x,D v x=true->x≠v:=λx J=>(dz.gone v x d5 J).2;have dx:∀ x,D v x=true->x<i:=λx J=>by rw[<-am]at J;exact Jcm (λu x h=>(Jzj e1 h).2.1) J
  rw[<-br]at c2;have c7:=d1 v b5;refine ρ ?_;refine ixb j cq ?_;refine ldR (bp.atc (Jjd cq)) ?_;rw[ho j lj,<-ev];refine ρ ?_;refine ixb v b5 ?_;refine ldR (bm.atc (Io b5)) ?_;refine Xh (Xbl _ _ _) ?_;refine Jw zBag ?_;intro f4 ay dm e3 cc;refine Qg cc ?_;intro df cc f0 dk;have C:Ext aa df:=dk aa dm e3;have db:=cb.ext C;refine ldR (db.at (i:=0) rfl) ?_;refine ρ ?_;refine Zj (fun (u:Nat) (a':Nat->Nat) (par:Int)=>[(3,.pointer (some ⟨b3,0,none⟩)),(12,.pointer (some ⟨a8,0,none⟩)),(13,.pointer (some ⟨a1,0,none⟩)),(16,.pointer (some ⟨a4,0,none⟩)),(17,.slice B i i),(96,.int .i64 (i:Int)),(97,.int .i64 (j:Int)),(19,.int .i64 (v:Int)),(20,.pointer (some ⟨ay,0,none⟩)),(109,.int .i64 (i:Int)),(110,.int .i64 (u:Int))])
   (λu a' par a5=>u<=i/\GrN (λk=>k=a4∨k=ay) df a5/\Blk a5 a4 205 (Zx a')/\Blk a5 ay 208 [.int .i64 (v:Int),.int .u32 (a v:Int),.int .i64 par] /\
    (∀ x,x<32->a' x<4294967296)/\(∀ x,x<i->∀ y,(a' x).testBit y=if x<u then Ug v D x y else D x y) /\
    ((par = -1/\∀ x,x<u->D v x=false)∨∃ p:Nat,par=p/\p<u/\D v p=true/\∀ x,x<u->D v x=true->plc ord p<=plc ord x)) (λu _ _=>i-u) 0 a (-1) sB
   ⟨Nat.zero_le _,GrN.refl _ _,bm.ext C,cc,d1,λx J y=>by rw[if_neg om];exact c2 x J y,.inl ⟨rfl,λx J=>om⟩⟩ ?_
  rintro u a' par a5 ⟨hu,a6,aw,a7,ap,bi,aj⟩;refine ciR (λZ=>?_) (λZ=>?_)
  .have lu:u<i:=by have:=oT Z;omega
   clear Z;have a2:u<32:=om
   refine ldR (a7.at (i:=1) rfl) ?_;refine ρ ?_;refine Ia (s:=a v) (v:=u) om ?_;refine ciR (λZ=>?_) (λZ=>?_)
   .rw[Qcg c7,c2 v b4]at Z;have c1:D v u=false:=by simpa using Z
    refine ρ ?_;refine Qe (u+1) a' par sO ⟨om,a6,aw,a7,ap,λx J y=>?_,?_⟩ om
    .rw[bi x J];by_cases e:x=u
     .subst e;rw[if_neg om,if_pos om,Ug,if_neg (by rw[c1];simp)]
     by_cases G:x<u
     .rw[if_pos G,if_pos om]
     rw[if_neg G,if_neg om]
    rcases aj with⟨G,h2⟩|⟨p,G,h2,h3,h4⟩
    .refine .inl ⟨G,λx J=>?_⟩;by_cases e:x=u
     .rw[e];exact c1
     exact h2 x om
    refine .inr ⟨p,G,om,h3,λx J ao=>?_⟩;by_cases e:x=u
    .rw[e,c1]at ao;cases ao
    exact h4 x om ao
   rw[Qcg c7,c2 v b4]at Z;have c1:D v u=true:=by simpa using Z
   have cr:Ext w' a5:=a6.old (b2.trans C) (λk hk=>by
    rcases hk with rfl|rfl
    .have:=bz.size;omega
    have:=b2.size;omega)
   have cp:Blk a5 a1 204 (Ym q):=Jy (ax.ext C) a6 (by
    rintro(h|h)
    .omega
    have:=ax.lt;omega)
   refine ρ ?_;refine Zc (fun (t:Bool)=>[(3,.pointer (some ⟨b3,0,none⟩)),(12,.pointer (some ⟨a8,0,none⟩)),(13,.pointer (some ⟨a1,0,none⟩)),(16,.pointer (some ⟨a4,0,none⟩)),(17,.slice B i i),(96,.int .i64 (i:Int)),(97,.int .i64 (j:Int)),(19,.int .i64 (v:Int)),(20,.pointer (some ⟨ay,0,none⟩)),(109,.int .i64 (i:Int)),(110,.int .i64 (u:Int)),(21,.int .i64 (u:Int)),(131,.bool t)])
    (λt bs=>Ext a5 bs/\(t=true->par = -1∨∃ p:Nat,par=p/\plc ord u<plc ord p)/\(t=false->∃ p:Nat,par=p/\plc ord p<=plc ord u)) ?_ ?_
   .have az:Ext a5 a5.drew:=(Ext.refl a5).drew;have ag:=a7.ext az;have cd:=cp.ext az;refine dr (scq 13 []) kr ?_;refine Jz (ag.at (i:=2) rfl) ?_;refine ρd ?_;refine dki 122 (λG=>?_) (λG=>?_)
    .have h2:par<0:=oT G;have h3:par = -1:=by
      rcases aj with⟨h4,_⟩|⟨p,h4,_⟩
      .exact h4
      omega
     refine ρd ?_;refine ρ ?_;exact Jc true sB ⟨az,λ_=>.inl h3,λe=>by cases e⟩
    have h2:¬ par<0:=oF G;obtain⟨p,h4,h5,h6,h7⟩:∃ p:Nat,par=p/\p<u/\D v p=true/\∀ x,x<u->D v x=true->plc ord p<=plc ord x:=by
     rcases aj with⟨h4,_⟩|h4
     .omega
     exact h4
    subst h4;refine ρd ?_;refine dixb u a2 ?_;refine Jz (cd.atc (Jjd a2)) ?_;refine Jz (ag.at (i:=2) rfl) ?_;refine ρd ?_;refine dixb p (show p<32 by omega) ?_;refine Jz (cd.atc (Jjd (show p<32 by omega))) ?_;rw[dt u lu,dt p om];refine ρd ?_;refine ρ ?_;refine Jc _ sB ⟨az,λe=>.inr ⟨p,rfl,?_⟩,λe=>⟨p,rfl,?_⟩⟩
    .have:=oT e;omega
    have:=oF e;omega
   rintro t bs ⟨b1,el,ek⟩;have ac:=a7.ext b1;refine ρ ?_;refine Zc (fun (ai:Int)=>[(3,.pointer (some ⟨b3,0,none⟩)),(12,.pointer (some ⟨a8,0,none⟩)),(13,.pointer (some ⟨a1,0,none⟩)),(16,.pointer (some ⟨a4,0,none⟩)),(17,.slice B i i),(96,.int .i64 (i:Int)),(97,.int .i64 (j:Int)),(19,.int .i64 (v:Int)),(20,.pointer (some ⟨ay,0,none⟩)),(109,.int .i64 (i:Int)),(110,.int .i64 (u:Int)),(21,.int .i64 (u:Int))])
    (λai an=>GrN (λk=>k=ay) bs an/\Blk an ay 208 [.int .i64 (v:Int),.int .u32 (a v:Int),.int .i64 ai]/\((ai = -1/\∀ x,x<u+1->D v x=false)∨∃ p:Nat,ai=p/\p<u+1/\D v p=true/\∀ x,x<u+1->D v x=true->plc ord p<=plc ord x)) ?_ ?_
   .refine ci (λht=>?_) (λht=>?_)
    .refine Xo (p:=⟨ay,2,none⟩) (ac.cell 2) (ac.frozen _) ?_;refine ρ ?_;refine Jc (u:Int) sB ⟨GrN.set _ rfl,ac.set 2 _,.inr ⟨u,rfl,Nat.lt_succ_self u,c1,λx J ao=>?_⟩⟩;by_cases e:x=u
     .rw[e];exact nR _
     rcases aj with⟨_,h2⟩|⟨p,G,h2,h3,h4⟩
     .rw[h2 x om]at ao;cases ao
     have h5:=h4 x om ao;rcases el ht with h6|⟨p',h6,h7⟩
     .omega
     have:p=p':=om
     subst this;omega
    obtain⟨p',h6,h7⟩:=ek ht;refine ρ ?_;refine Jc par sB ⟨GrN.refl _ _,ac,.inr ?_⟩;rcases aj with⟨G,h2⟩|⟨p,G,h2,h3,h4⟩
    .omega
    have:p=p':=om
    subst this;refine⟨p,G,om,h3,λx J ao=>?_⟩;by_cases e:x=u
    .rw[e];exact h7
    exact h4 x om ao
   rintro ai an ⟨cx,cn,d8⟩;have bh:a4≠ay:=om
   have co:Blk an a4 205 (Zx a'):=Jy (aw.ext b1) cx bh;have az:Ext an an.drew:=(Ext.refl an).drew;have av:=co.ext az;have ag:=cn.ext az;have e4:=ap u a2;have eb:=Ko a2;have ck:=Ko b5;refine ρ ?_;refine drN (λ_=>False) 15 (scq 15 [114]) kr ?_;refine ρn ?_;refine nixb u a2 ?_;refine ρn ?_;refine nld (Jr (av.atc (Io a2)) (λe=>e)) ?_;refine ρn ?_;refine nld (Jr (ag.at (i:=1) rfl) (λe=>e)) ?_;refine ρn ?_;refine Jhx a2 ?_;refine ρn ?_;refine Jhx b5 ?_;refine ρn ?_;refine nixb u a2 ?_;refine ρn ?_;refine Xu ?_;have c5:=Jbx e4 c7;have cv:=Jbx eb ck;obtain⟨nw,de⟩:∃ nw,nw=Kf (a' u ||| a v) (2^u ||| 2^v):=⟨_,rfl⟩;have ep:nw<4294967296:=by rw[de];exact Qdc c5
   have ec:bits .andNot .u32 (bits .or .u32 (a' u:Int) (a v:Int)) (bits .or .u32 ((2^u:Nat):Int) ((2^v:Nat):Int))=(nw:Int):=by
    rw[Jjp e4 c7,Jjp eb ck,Jnp c5 cv,de]
   refine sto (p:=⟨a4,u,none⟩) (av.cell u |>.trans (Io a2)) (av.frozen _) ?_;rw[ec];have bl:=av.set u (.int .u32 (nw:Int));rw[Jgp a' a2]at bl;have e0:GrN (λk=>k=a4) an.drew (an.drew.setCell ⟨a4,u,none⟩ (.int .u32 (nw:Int))):=GrN.set _ rfl;refine ω5 ?_;refine Uu ?_;refine ρn ?_;refine ρ ?_;refine Qe (u+1) (upd a' u nw) ai sO ⟨om,?_,bl,ag.far (λe=>bh e.symm) _,λx J=>?_,λx J y=>?_,d8⟩ om
   .exact((a6.trans (GrN.ext b1)).trans (cx.mono λk _ hk=>.inr hk)).trans ((GrN.ext az).trans (e0.mono λk _ hk=>.inl hk))
   .by_cases e:x=u
    .rw[e,Qz];exact ep
    rw[Jm _ _ e];exact ap x J
   by_cases e:x=u
   .subst e;rw[Qz,if_pos (Nat.lt_succ_self x),de,Jpb c5 cv,Nat.testBit_or,Nat.testBit_or,Jbb,Jbb,bi x J,if_neg (Nat.lt_irrefl x),c2 v b4,Ug,if_pos c1];rw[Qvn x y,Qvn v y];cases D x y<;>cases D v y<;>cases (y != x)<;>cases (y != v)<;>rfl
   rw[Jm _ _ e,bi x J];by_cases G:x<u
   .rw[if_pos G,if_pos om]
   rw[if_neg G,if_neg om]
  have ej:u=i:=by have:=oF Z;omega
  subst ej;clear Z;have cr:Ext w' a5:=a6.old (b2.trans C) (λk hk=>by
   rcases hk with rfl|rfl
   .have:=bz.size;omega
   have:=b2.size;omega)
  have b9:∀ {g t:Nat} {cs:List Value},Blk aa g t cs->g≠a4->Blk a5 g t cs:=λhB G=>Jy (hB.ext C) a6 (by
   rintro(h|h)
   .exact G h
   have:=hB.lt;omega)
  have aq:a5.ownsRow bw.heap.size 208 3 (.slice B u u) u (Qy u (Gw ord kf pf j)):=Je (Jk ar C) a6 (λg eg hk=>by
   obtain⟨_,_,_,_,c8⟩:=Jb ar;have h5:=c8 g eg;rcases hk with rfl|rfl<;>omega)
  refine Ja a7 ?_;refine Qp 3 v (Rd.own aq) b4 ?_;refine ρ ?_;refine stoE (cs:=[.int .i64 (v:Int),.int .u32 (a v:Int),.int .i64 par]) aq b4 ?_ Jwl;intro bs ba bg;rw[Xzx (λv _=>Xcg ord kf pf j v) b4 rfl]at ba;have eg:Qy u (upd (Gw ord kf pf j) v [.int .i64 (v:Int),.int .u32 (a v:Int),.int .i64 par])=Qy u (Gw ord (upd kf v (a v)) (upd pf v par) (j+1)):=by
   refine Jdh λx J=>?_;by_cases e:x=v
   .subst e;rw[Qz,Gw,if_pos om];simp only[Xq,Qz]
   rw[Jm _ _ e];have dw:plc ord x≠j:=λe'=>by
    have G:=(Kj a3 (b6.2 J)).2;rw[e',<-ev]at G;exact e G.symm
   unfold Gw;by_cases G:plc ord x<j
   .rw[if_pos G,if_pos om];simp only[Xq,Jm _ _ e]
   rw[if_neg G,if_neg om]
  rw[eg]at ba;have ab:∀ {g t:Nat} {cs:List Value},Blk a5 g t cs->g<bw.heap.size->Blk bs g t cs:=λhB G=>hB.grown bg (λe=>by
   obtain⟨_,_,_,_,c8⟩:=Jb aq;have h5:=c8 _ e.symm;omega)
  have b1:Ext w' bs:=Qa cr bg (λg eg=>by
   obtain⟨_,_,_,_,c8⟩:=Jb aq;have h5:=c8 g eg;have:=bz.size;have:=ae.size;omega)
  have f3:=ae.size;refine ρ ?_;refine Ka (j+1) a' (upd kf v (a v)) (upd pf v par) sO ⟨om,b1,by have:=C.size;have:=a6.size;have:=bg.size;omega,by have:=C.size;have:=a6.size;have:=bg.size;omega,ab (b9 cb om) om,ab (b9 bp om) om,ab (b9 ax om) om,ab aw dg,ba,ap,λx J y=>?_,λx J et=>?_⟩ om
  .rw[bi x J,if_pos J,Qr 0 (c6.symm ▸ lj),<-ev,Qxm,<-br];rfl
  by_cases e:x=v
  .subst e;rw[Qz,Qz];refine⟨c7,λy=>by rw[c2 x b4,am],?_⟩;rcases aj with⟨G,h2⟩|⟨p,G,h2,h3,h4⟩
   .refine .inl ⟨G,λy=>?_⟩;rw[am];cases hb:D x y with
    | false=>rfl
    | true=>exact absurd (h2 y (dx y hb)) (by rw[hb];simp)
   exact .inr ⟨p,G,by rw[am];exact h3,λy hy=>h4 y (dx y (by rw[<-am];exact hy)) (by rw[<-am];exact hy)⟩
  rw[Jm _ _ e,Jm _ _ e];refine e2 x J ?_;have dw:plc ord x≠j:=λe'=>by
   have G:=(Kj a3 (b6.2 J)).2;rw[e',<-ev]at G;exact e G.symm
  omega
 have ew:j=i:=by have:=oF Z;omega
 subst ew;clear Z;refine ρ ?_;refine Yt ⟨be.trans b2,B,kf,pf,rfl,?_,λv hv=>?_⟩
 .have e:Qy j (Gw ord kf pf j)=Qy j (Xq kf pf):=Jdh λv hv=>by
   have:=(Kj a3 (b6.2 hv)).1;rw[Gw,if_pos om]
  rw[e]at ar;exact Jbw ar (by have:=c3.size;have:=ae.size;omega)
 have:=e2 v hv (by have:=(Kj a3 (b6.2 hv)).1;omega);rw[<-ak];exact this
open Go.RowKit Pl Go.Wk
variable {ca cb n v:Nat}{pf:Nat->Int}
theorem Xkn{kf:Nat->Nat}(hv:v<32)(hk:kf v<4294967296)(w:World): Ret Tryz.prog 124 [.agg (Xq kf pf v).toArray] w λu w'=>u=.int .u32 ((kf v ||| 2^v:Nat):Int)/\Ext w w':=by
 refine enE Tryz.func124 Tryz.ntmps124 ?_;refine bxR (cs:=Xq kf pf v) ?_;intro C b D J G;refine ldR (G.at (i:=0) rfl) ?_;refine ldR (G.at (i:=0) rfl) ?_;refine cfR ?_ ?_
 .grind
 have j:Ext C C.drew:=(Ext.refl C).drew;have o:=G.ext j;refine drR (scq 7 []) ?_;refine Jz (o.at (i:=1) rfl) ?_;refine Jz (o.at (i:=0) rfl) ?_;refine ρd ?_;refine dsl32 hv ?_;refine ρd ?_;refine ρ ?_;refine Jj ⟨?_,D.trans j⟩;rw[Jjp hk (Ko hv)]
def Jfh(n m:Nat)(vars:Nat->List Nat)(rs:Nat->List Row)(s:Nat)(l:List Row): Prop:=Lt [] l/\(∀ x,x∈l↔∃ z:Row,z.length=n/\x=pmR (bk s 32) z/\Ig m vars rs s z)/\l.length<=65536
def Yu(s:Nat)(l:List Row): Atm:=⟨nz (bk s 32),(bk s 32).length,l⟩
theorem Xcb{w:World}{ts:List TA}{Aa B:Option Addr}{vars:Nat->List Nat}{rs:Nat->List Row}{kf:Nat->Nat}(hn32:n<=32)(hok:∀ v,v<n->MOk n ts vars rs (kf v ||| 2^v))(hR:Rd w 3 Aa ts.length (atC ts))(hle:ts.length<=ca)(hat:∀ p∈ts,AtV w p.1 p.2)(hB:Rd w 3 B n (Qy n (Xq kf pf)))(hk:∀ v,v<n->kf v<4294967296)(hcap:∀ v,v<n->∀ l:List Row,Lt [] l->(∀ x∈l,∃ z:Row,z.length=n/\x=pmR (bk (kf v ||| 2^v) 32) z/\Ig ts.length vars rs (kf v ||| 2^v) z)->l.length<=65536):
  Ret Tryz.prog 73 [.int .i64 (n:Int),.slice B n cb,.slice Aa ts.length ca] w λu w'=>Ext w w'/\∃(va:Value) (st:Int) (R:Nat->List Row),u=.tuple #[va,.int .i64 st,.int .i64 0] /\
   Off (λk=>k<w.heap.size) w' (λx=>GV 3 AtG x va ((List.range n).map λv=>Yu (kf v ||| 2^v) (R v)))/\∀ v,v<n->Jfh n ts.length vars rs (kf v ||| 2^v) (R v):=by
 refine enE Tryz.func73 Tryz.ntmps73 ?_;refine ρ ?_;refine Jxg (fun (v:Nat) (va:Value) (st:Int) (R:Nat->List Row)=>[(0,.int .i64 (n:Int)),(2,.slice Aa ts.length ca),(9,va),(10,.int .i64 st),(16,.slice B n cb),(17,.int .i64 (n:Int)),(18,.int .i64 (v:Int))])
  (λv va st R w'=>v<=n/\Ext w w'/\OwnG 134 3 AtG w' w.heap.size va ((List.range v).map λu=>Yu (kf u ||| 2^u) (R u))/\∀ u,u<v->Jfh n ts.length vars rs (kf u ||| 2^u) (R u)) (λv _ _ _=>n-v) 0 (.slice none 0 0) 0 (λ_=>[]) sB
  ⟨Nat.zero_le _,Ext.refl _,OwnG.nil _ _,λu hu=>om⟩ ?_
 rintro v va st R w1 ⟨hv,D,a5,az⟩;refine ciR (λhc=>?_) (λhc=>?_)
 .have lv:v<n:=by have:=oT hc;omega
  clear hc;have ae:=hB.ext D;have a4:∀ j u,(Xq kf pf v)[j]?=some u->w1.cell? ((adr B (v*3)).add j)=some u:=λj u hu=>by
   have hj:j<3:=by grind [Nat.lt_or_ge,List.getElem?_eq_none,Xq]
   rw[Xv];exact ae.cell ((Yk (sz:=3) (λ_ _=>rfl) lv hj).trans hu)
  refine Qp 3 v ae lv ?_;refine Jh (cs:=Xq kf pf v) a4 ?_;refine Jw zBag ?_;intro w2 bd ar ac J;refine Qh (cs':=Xq kf pf v) J ?_ Jwl;intro w3 J b9 aq;have a8:Ext w1 w3:=aq w1 ar ac;refine Jh (cs:=Xq kf pf v) (λj u hu=>J.at hu) ?_;refine clR (Xkn om (hk v lv) w3) ?_;rintro u w4 ⟨rfl,ap⟩;have C:=a8.trans ap;have i:=D.trans C;refine clR (Xjm (hok v lv) (hR.ext i) hle (λp hp=>(hat p hp).ext i) (hcap v lv)) ?_;rintro u w5 ⟨ao,⟨p1,p2,p3⟩,aj,l,rfl,a1,av,aa,aw⟩;have b2:=a1.here;obtain⟨⟨PA,pc,ah,b5,b4,b3⟩,ag,O⟩:=id b2;simp only at ah ag;obtain⟨a6,PG,a3,_,af,_⟩:=id O;simp only at af;subst ah;subst ag;subst af;refine Jw Yr ?_;intro w6 bc an ab G;refine Qh (cs':=[.slice PA (nz (bk (kf v ||| 2^v) 32)).length pc,.int .i64 ((bk (kf v ||| 2^v) 32).length:Int),.slice PG a6.length a3]) G ?_ (Ij rfl);intro w7 G b7 am;have Z:Ext w5 w7:=am w5 an ab;refine Ja G ?_
  refine Qb (Jyd _ _ _ PA PG _ pc _ a3 _ rfl rfl rfl) ?_;intro w8 b8 a7 ba b1;have o:=((C.trans ao).trans Z).trans a7;obtain⟨_,_,_,_,ad⟩:=a5.form;have hΦ:Off (Xf w.heap.size va) w8 (λu=>AtG u [.slice PA (nz (bk (kf v ||| 2^v) 32)).length pc,.int .i64 ((bk (kf v ||| 2^v) 32).length:Int),.slice PG a6.length a3] (Yu (kf v ||| 2^v) l)):=by
   refine((a1.imp λu h=>⟨_,rfl,h⟩).mono λk _ ax=>?_).ext (Z.trans a7);rcases ax with h'|h'
   .exact nM h' i.size
   exact nM (ad k h').2 C.size
  refine ρ ?_;refine apG EA (Φ:=AtG) (a5.ext o) b1 rfl (Ij rfl) hΦ (by simp;omega) om (D.trans o).size ?_;intro ai w9 bb ay b6;have ak:Ext w w9:=Qa (D.trans o) ay (λg eg=>(ad g eg).1);obtain⟨a2,a9⟩:∃ a2:Int,a2=IntKind.i64.wrap (st+aj):=⟨_,rfl⟩;refine ρ ?_;rw[<-a9];refine ρ ?_;refine Ka (v+1) ai a2 (upd R v l) sO ⟨om,ak,?_,λu hu=>?_⟩ om
  .rw[List.range_succ,List.map_append,List.map_singleton,Qz];grind [List.range,Yu,kf,upd,List.map_congr_left,List.mem_range.1,Jm]
  by_cases e:u=v
  .subst e;rw[Qz];exact⟨av,aa,aw⟩
  repeat grind [Jm]
 have au:v=n:=by have:=oF hc;omega
 subst au;clear hc;refine ρ ?_;exact Jvs ⟨D,va,st,R,rfl,a5.off (by simp;omega),az⟩
end Go.Proofs.YtgobkbeokaaplaaGreatDoor
namespace Go.Wk
open Go.Lib
variable {cs xs:List Value}{d e g m n t ty:Nat}{w w':World}
theorem aps{P:Program}{tt:TT}[h:Tab P tt]{al:AL}{Q:Exit->Act->World->Prop}{ops:Array Oper}{rest:List Oper}{pos:String}{aft:Array Edge}{u base:Nat}{ku:TK}{x y:Operand}{v:Value}{s:ByteArray}(hE:ElT P t e 1 1 (.int .u8 0))(ha:w.ownsRow base e 1 v m xs)(hby:m+s.size<=140737488355328)(hbase:base<=w.heap.size)(kk:∀ v' w',w'.ownsRow base e 1 v' (m+s.size) (xs++strCells s)->w.grownBy w' v.ownBlock->WL P n ops Q rest ((d,v')::al) w')(hu:tk tt u=some ku:=by rfl)(hku:ku.desc=.string:=by rfl)(hx:ev al x=some v:=by rfl)(hy:ev al y=some (.string s):=by rfl)(hd:Nat.blt d n=true:=by rfl):
  WL P n ops Q (⟨some d,.call { callee:=.builtin .append,args:=#[x,y],argTypes:=#[t,u] },ty,pos,aft,none⟩::rest) al w:=by
 obtain⟨i,hi,O,C,D⟩:=hE.info;obtain⟨v',w',j,J,G,Z⟩:=run_append_own_string w base t u ty e i hE.sl (Yc h.ok hu hku rfl) hi O C D v m xs ha s (by unfold maxLen;omega) hby hbase;refine wop hd (λa o=>?_) (kk v' w' J G);simp[execOp,resolve,invoke,builtin,o.ev hx,o.ev hy,j]
theorem _root_.Go.Wk.Blk.others(h:Blk w g t cs)(ho:OthersKept e none w w')(hne:Nat.beq e t=false): Blk w' g t cs :=
 ho g _ h (by simp) (λc j i=>by injection i with _ h2 _;subst h2;simp at hne)
end Go.Wk
namespace Go.Proofs.YtgobkbeokaaplaaGreatDoor
open Go.RowKit Pl Go.Wk _root_.Go.Proofs.Tryz
attribute [local irreducible] WC WL QX WD WDB WP WN WG
variable {B B0 c i:Nat}{r:Row}{sv v:Value}{w w':World}
def Jjf(v:V): List UInt8:=Lib.itoa v.kind++[44]++(Lib.itoa v.num++[44])++(Lib.itoa (v.str.size:Int)++[44])++v.bytes
def idn(r:Row): List UInt8:=r.flatMap Jjf
structure TB(B0:Nat)(w:World): Prop where
 le:B0<=w.heap.size
 tab:Lib.TabBelow prog B0 w "internal/strconv.uint64pow10" .u64 Lib.pow10Tab
theorem TB.below(h:TB B0 w)(hb:Below B w w')(hle:B0<=B): TB B0 w':=⟨nL h.le hb.size,h.tab.on (hb.mono hle)⟩
theorem TB.ext(h:TB B0 w)(hx:Ext w w'): TB B0 w':=h.below hx h.le
theorem TB.gr{N:Nat->Prop}(h:TB B0 w)(hg:GrN N w w')(hN:∀ k,k<B0->¬ N k): TB B0 w':=by
 have j:Below B0 w w':=⟨hg.os,hg.tape,hg.output,hg.size,λk i=>hg.block k (nM i h.le) (hN k i)⟩;exact⟨nL h.le j.size,h.tab.on j⟩
theorem EU8: ElT prog 105 5 1 1 (.int .u8 0):=⟨underlying105,info_parts kr,rfl,by decide⟩
theorem Jnz{l:List UInt8}{i:Int}(hT:TB B0 w)(hB0:B0<=B)(hBw:B<=w.heap.size)(h0:-9223372036854775808<=i)(h1:i<=9223372036854775807)(hlim:l.length+21<=140737488355328)(ho:w.ownsRow B 5 1 sv l.length (Bc l)): Ret prog 173 [sv,.int .i64 i,.int .i64 10] w λu w'=>w'.ownsRow B 5 1 u (l++Lib.itoa i).length (Bc (l++Lib.itoa i))/\Below B w w'/\Lib.OthersKept 5 none w w':=by
 refine⟨⟨_,_,func173,rfl,kr⟩,?_⟩;refine(Tryz.strconv_AppendInt_10 B l.length i h0 h1 sv (Bc l) w ho hBw hlim λw' D=>hT.tab w' (D.mono hB0)).mono ?_;rintro e w' ⟨j,rfl,G,C,o⟩;refine⟨j,rfl,?_,C,o⟩;have J:Bc (l++Lib.itoa i)=Bc l++Lib.byteCells (Lib.itoa i):=by simp[Bc,Lib.byteCells]
 grind
def Xs(v:V): Prop:=(-9223372036854775808<=v.kind/\v.kind<=9223372036854775807)/\(-9223372036854775808<=v.num/\v.num<=9223372036854775807)
theorem Jnn(z:Int)(w:World): (Instr.buildSlice 105 1 #[(0,.int .u8 z)]).run prog w=.ok (.slice (some ⟨w.heap.size,0,none⟩) 1 1) (w.alloc (.cells [.int .u8 z].toArray 5)):=kr
theorem Qwb(h:i<r.length): idn (r.take (i+1))=idn (r.take i)++Jjf (r.getD i V0):=by grind [idn,Qr,V0]
theorem Xzf(h:i<r.length): (idn (r.take i)).length+(Jjf (r.getD i V0)).length<=(idn r).length:=by
 have e:idn r=idn (r.take (i+1))++idn (r.drop (i+1)):=by unfold idn;rw[<-List.flatMap_append,List.take_append_drop]
 grind [Qwb,List.length_append]
theorem Bc_app(a b:List UInt8): Bc (a++b)=Bc a++Bc b:=by simp[Bc]
theorem Bc_one(l:List UInt8): ∀ u∈Bc l,u.oneCell'=true:=λu i=>by
 obtain⟨c,_,rfl⟩:=List.mem_map.1 i;rfl
theorem Jnx(l:List UInt8)(c:UInt8): l.length+1=(l++[c]).length:=by simp
theorem Ku{base e sz n:Nat}{cs:List Value}(h:w.ownsRow base e sz v n cs): ∀ k,v.ownBlock=some k->base<=k:=by grind [Jb]
theorem Jzn{A:Option Addr}(hT:TB B0 w)(hR:RdR w A r)(hfit:∀ v∈r,Xs v)(hlim:(idn r).length+64<=140737488355328)(hr:r.length<=1000000):
  Ret prog 129 [.slice A r.length c] w λu w'=>u=.string (str (idn r))/\Ext w w':=by
 refine enE func129 ntmps129 ?_;refine ρ ?_;refine Jo (fun (i:Nat) (vn:Value)=>[(3,vn),(6,.slice A r.length c),(7,.int .i64 (r.length:Int)),(8,.int .i64 (i:Int))])
  (λi vn w'=>i<=r.length/\Ext w w'/\w'.ownsRow w.heap.size 5 1 vn (idn (r.take i)).length (Bc (idn (r.take i)))) (λi _=>r.length-i) 0 (.slice none 0 0) sB
  ⟨Nat.zero_le _,Ext.refl _,Zd _ _ _ _⟩ ?_
 rintro i vn w1 ⟨hi,a5,hn⟩;refine ciR (λh=>?_) (λh=>?_)
 .have li:i<r.length:=by have:=oT h;omega
  clear h;have ag:RdR w1 A r:=Rd.ext hR a5;have bo:=Xzf li;have hf:=hfit _ (getD_mem' V0 r li);refine Qp 3 i ag li ?_;refine Jh (cs:=(r.getD i V0).cells) (λj u hu=>RdR.cell ag li hu) ?_;refine Jw (cs:=V0.cells) Yp ?_;intro w2 b b7 hb ay;refine Qh (cs':=(r.getD i V0).cells) ay ?_ (V.one _);intro w3 am bq a8;have an:Ext w1 w3:=a8 w1 b7 hb;have ap:=Jk hn an;have O:=a5.trans an;have bs:w.heap.size<=b:=nL a5.size hb;have b9:=Qwb li;generalize r.getD i V0=v at *
  generalize idn (r.take i)=l0 at *
  have ba:=Jkv v;have bp:(Jjf v).length=(Lib.itoa v.kind).length+1+((Lib.itoa v.num).length+1)+((Lib.itoa (v.str.size:Int)).length+1)+v.bytes.length:=by simp only[Jjf,List.length_append,List.length_cons,List.length_nil]
  clear hn ay a8 ag;refine ldR (am.at (i:=0) rfl) ?_;refine clR (Jnz (B:=w.heap.size) (l:=l0) (i:=v.kind) (hT.ext O) hT.le O.size hf.1.1 hf.1.2 (by grind) ap) ?_;rintro u4 w4 ⟨ae,ax,bc⟩;have a7:Ext w w4:=Below.trans O ax;have ak:=am.others bc rfl;clear ap am;refine Qb (Jnn _) ?_;intro w5 b5 D bz bf;refine ρ ?_;refine apb (m':=1) (news:=Bc [44]) EU8 (Jk ae D) (bf.rd (n:=1) rfl) (Bc_one _) (by unfold maxLen;grind) (by grind) (a7.trans D).size ?_;intro v6 w6 ad au bn;rw[<-Bc_app,Jnx _ 44]at ad;have J:Ext w w6:=Qa (a7.trans D) au (Ku (Jk ae D));have aj:=(ak.ext D).grown au ((ak.ext D).ne_own (Jk ae D) rfl);clear ak;refine ldR (aj.at (i:=1) rfl) ?_;refine clR (Jnz (B:=w.heap.size) (l:=l0++Lib.itoa v.kind++[44]) (i:=v.num) (hT.ext J) hT.le J.size hf.2.1 hf.2.2 (by grind) ad) ?_;rintro u7 w7 ⟨ac,aw,bb⟩;have a6:Ext w w7:=Below.trans J aw;have ai:=aj.others bb rfl
  clear ad aj;refine Qb (Jnn _) ?_;intro w8 b8 C bw be;refine ρ ?_;refine apb (m':=1) (news:=Bc [44]) EU8 (Jk ac C) (be.rd (n:=1) rfl) (Bc_one _) (by unfold maxLen;grind) (by grind) (a6.trans C).size ?_;intro v9 w9 ab ar bm;rw[<-Bc_app,Jnx _ 44]at ab;have G:Ext w w9:=Qa (a6.trans C) ar (Ku (Jk ac C));have ah:=(ai.ext C).grown ar ((ai.ext C).ne_own (Jk ac C) rfl);clear ai;refine ldR (ah.at (i:=2) rfl) ?_;refine clR (Jnz (B:=w.heap.size) (l:=l0++Lib.itoa v.kind++[44]++Lib.itoa v.num++[44]) (i:=(v.str.size:Int)) (hT.ext G) hT.le G.size om om (by grind) ab) ?_;rintro bl b4 ⟨a3,af,ao⟩;have a1:Ext w b4:=Below.trans G af;have a4:=ah.others ao rfl;clear ab ah;refine Qb (Jnn _) ?_;intro bi c1 o bh b1;refine ρ ?_;refine apb (m':=1) (news:=Bc [44]) EU8 (Jk a3 o) (b1.rd (n:=1) rfl) (Bc_one _) (by unfold maxLen;grind) (by grind) (a1.trans o).size ?_
  intro bj b3 a2 a9 bg;rw[<-Bc_app,Jnx _ 44]at a2;have Z:Ext w b3:=Qa (a1.trans o) a9 (Ku (Jk a3 o));have az:=(a4.ext o).grown a9 ((a4.ext o).ne_own (Jk a3 o) rfl);clear a4;refine ldR (az.at (i:=2) rfl) ?_;refine ρ ?_;refine aps (base:=w.heap.size) (s:=v.str) EU8 a2 (by grind) Z.size ?_;intro b6 b2 aq av;have aa:Ext w b2:=Qa Z av (Ku a2);refine ρ ?_;refine Jf (i+1) b6 sO ⟨li,aa,?_⟩ om;rw[b9];have e1:l0++Jjf v=l0++Lib.itoa v.kind++[44]++Lib.itoa v.num++[44]++Lib.itoa (v.str.size:Int)++[44]++v.bytes:=by simp only[Jjf,List.append_assoc]
  rw[e1,Bc_app,List.length_append,<-ba];exact aq
 have bd:i=r.length:=by grind
 rw[bd,List.take_length]at hn;obtain⟨A3,c3,rfl,br,_⟩:=Jb hn;refine ρ ?_;refine sb (Rd.own hn) ?_;refine ρ ?_;exact Jj ⟨rfl,a5⟩
end Go.Proofs.YtgobkbeokaaplaaGreatDoor
