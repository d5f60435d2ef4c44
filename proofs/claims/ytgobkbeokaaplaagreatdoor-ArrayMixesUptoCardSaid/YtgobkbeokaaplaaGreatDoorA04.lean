/- Part 4. -/
import Derived.Test.YtgobkbeokaaplaaGreatDoorA03
import Derived.Laws.BitsAllLaws
import Derived.Laws.CopyRow
import Derived.Test.YtgobkbeokaaplaaGreatDoorSh
import Derived.Lib.AppendStr
set_option linter.unusedVariables false
set_option maxRecDepth 100000
set_option maxHeartbeats 40000000
namespace Go.Proofs.YtgobkbeokaaplaaGreatDoor
open Go.RowKit Pl Go.Wk
attribute [local irreducible] WC WL QX WD WDB WP WN WG
variable {vs:List Nat}{cs xs:List Value}{ca d g i m n q:Nat}{vars:Nat->List Nat}{G G' L e p:Nat->Nat}{N N' NY bx':Nat->Prop}{v x y yv:Value}{w w1 w2:World}
structure YS(s:Nat)(yv:Value)(bx:Nat->Prop)(Y:Nat->List Row->World->Prop): Prop where
 keep:∀ base l w w',Y base l w->GrN (λk=>s<=k/\k<base) w w'->Y base l w'
 call:∃ fid first cap,yv=.func (.func fid) first cap/\∀ base l w vr z,base<=w.heap.size->Y base l w->RowV w vr z->l.length<65536->Ret Tryz.prog fid (first.toList++[vr]++cap.toList) w λr w'=>r=.bool true/\Y base (l++[z]) w'/\GrN (λk=>bx k∨base<=k) w w'
theorem Jvt(ha:Xv vs)(hl:∀ u∈vs,u<n): vs.length<=n:=by
 have key:∀ k,lv vs k<=k:=by
  intro k;induction k with
  | zero=>rw[Jwp];exact nR _
  | succ k ih=>
   by_cases h:k∈vs
   repeat grind [Yh,Jqk]
 have:=key n;rwa [Qqh hl]at this
theorem Jgk{cs:List Nat}(h:i<cs.length): (nz cs).getD i 0=(cs.getD i 0:Int):=by
 simp[nz,List.getD,List.getElem?_eq_getElem h]
structure RunOk(n:Nat)(ts:List TA)(vars:Nat->List Nat)(rs:Nat->List Row): Prop where
 n32:n<=32
 m32:ts.length<=32
 at_:∀ i,i<ts.length->(ts.getD i ta0).2=⟨nz (vars i),(vars i).length,rs i⟩
 asc:∀ i,i<ts.length->Xv (vars i)
 lt:∀ i,i<ts.length->∀ u∈vars i,u<n
 cov:∀ v,v<n->∃ i,i<ts.length/\v∈vars i
 srt:∀ i,i<ts.length->Lt [] (rs i)
 len:∀ i,i<ts.length->∀ r∈rs i,r.length=(vars i).length
 big:∀ i,i<ts.length->(rs i).length<=65536
theorem Jbf{base base' e sz:Nat}(h:w.ownsRow base e sz v m xs)(hb:base'<=base): w.ownsRow base' e sz v m xs:=by
 rcases h with⟨u,⟨rfl,rfl⟩|⟨g,o,j,rfl,i,C⟩⟩
 .exact⟨u,.inl ⟨rfl,rfl⟩⟩
 exact⟨u,.inr ⟨g,o,j,rfl,Nat.le_trans hb i,C⟩⟩
theorem _root_.Go.Wk.Blk.sub2{t:TypeId}(h:Blk w g t cs)(h0:cs[i]?=some x)(h1:cs[i+1]?=some y): ∀ j u,[x,y][j]?=some u->w.cell? ((⟨g,i,none⟩:Addr).add j)=some u:=λj u o=>by
 match j,o with
 | 0,o=>simp only[List.getElem?_cons_zero,Option.some.injEq]at o;subst o;exact h.sub h0
 | 1,o=>simp only[List.getElem?_cons_succ,List.getElem?_cons_zero,Option.some.injEq]at o;subst o;exact h.sub h1
 | j+2,o=>simp at o
def Gg(d t:Nat): List Value:=(List.range d).map λj=>.int .i64 ((if j<t then j else 0:Nat):Int)
theorem Xxf(d:Nat): (madeCells (Value.int .i64 0).cells (d*1)).toList=Gg d 0:=by
 rw[Nat.mul_one];have e:(madeCells (Value.int .i64 0).cells d).toList=List.replicate d (Value.int .i64 0):=Yu _ _;rw[e];simp[Gg,List.map_const']
theorem Xxd(d:Nat): Gg d d=Jp (nz (List.range d)):=by grind [Gg,Jp,nz,List.map_map,List.map_congr_left,List.mem_range.1]
theorem Xxb{t:Nat}(h:t<d): (Gg d t).set t (.int .i64 (t:Int))=Gg d (t+1):=by
 apply List.ext_getElem?
 grind [Gg,List.getElem?_range]
theorem Xxc(d t:Nat): (Gg d t).length=d:=by simp[Gg]
theorem Qnk(A:Option Addr)(n c:Nat): ∀ u∈[Value.slice A n c],u.oneCell'=true:=λu i=>by rw[List.mem_singleton.1 i];rfl
def itp(g:Nat): Value:=.pointer (some ⟨g,0,none⟩)
def Vb(vars:Nat->List Nat)(G:Nat->Nat)(q:Nat)(v:Nat): List Value:=((List.range q).filter λi=>decide (v∈vars i)).map λi=>itp (G i)
theorem Xxm(vars:Nat->List Nat)(G:Nat->Nat)(q v:Nat): (Vb vars G q v).length<=q:=by grind [Vb,List.length_map,List.length_filter_le,List.range,List.length_range]
theorem Xxl(vars:Nat->List Nat)(G:Nat->Nat)(q v:Nat): Vb vars G (q+1) v=Vb vars G q v++if v∈vars q then[itp (G q)] else[]:=by grind [Vb,List.range_succ,List.filter_cons_of_pos,List.filter_cons_of_neg]
theorem Xxn(h:∀ j,j<q->G j=G' j)(v:Nat): Vb vars G q v=Vb vars G' q v:=by grind [Vb,List.map_congr_left,List.mem_range.1,List.mem_filter.1]
theorem _root_.Go.Wk.GrN.cut(hx:Ext w w1)(hg:GrN N w1 w2)(hN:∀ k,k<w.heap.size->N k->N' k): GrN N' w w2 :=
 ⟨hg.os.trans hx.os,hg.tape.trans hx.tape,hg.output.trans hx.output,Nat.le_trans hx.size hg.size,λk i hn=>(hg.block k (nM i hx.size) (λe=>hn (hN k i e))).trans (hx.block k i)⟩
theorem Cfg.steps{c:JC}{Y:List Row->World->Prop}{z:Row}{f h:Nat->Nat->Nat}{l:List Row}(H:Cfg c Y w z L p e f h l)(hok:JOk c)(hY:YC c Y NY){st:Int}(hJ:Blk w c.J 313 [c.rowv,c.ja,.int .i64 st,c.yv])(st':Int):
  Cfg c Y (w.setCell ⟨c.J,2,none⟩ (.int .i64 st')) z L p e f h l/\GrN c.NI w (w.setCell ⟨c.J,2,none⟩ (.int .i64 st')):=by
 have o:GrN (λk=>k=c.J) w (w.setCell ⟨c.J,2,none⟩ (.int .i64 st')):=GrN.set _ rfl;have j:GrN c.NI w (w.setCell ⟨c.J,2,none⟩ (.int .i64 st')):=GrN.set _ (.inl rfl);refine⟨⟨H.env.gr (j.mono λk _ u=>hok.sub k u),λi hi=>?_,Ja H.row o (λg D=>H.rowJ D),H.zl,⟨_,hJ.set 2 _⟩,hY.keep _ _ _ H.y j⟩,j⟩;obtain⟨st,C⟩:=H.its i hi;exact⟨st,Jy C o (hok.gj i hi)⟩
theorem Qvj(h:Xv vs): vs.Nodup:=h.imp λh e=>by omega
theorem Jnf(n:Nat): (madeCells (Value.slice none 0 0).cells (n*1)).toList=List.replicate n (Value.slice none 0 0):=by rw[Nat.mul_one];exact Yu _ _
theorem Qgl{ts:List TA}{Aa:Option Addr}{rs:Nat->List Row}{Y:Nat->List Row->World->Prop}(hok:RunOk n ts vars rs)(hR:Rd w 3 Aa ts.length (atC ts))(hat:∀ p∈ts,AtV w p.1 p.2)(hbx:∀ k,bx' k->k<w.heap.size)(hY:YS w.heap.size yv bx' Y)(hY0:∀ w',Ext w w'->Y w'.heap.size [] w')(hcap:∀ l:List Row,Lt [] l->(∀ x∈l,Vm n ts.length vars rs x)->l.length<=65536):
  Ret Tryz.prog 196 [.int .i64 (n:Int),.slice Aa ts.length ca,yv] w λu w'=>GrN bx' w w'/\∃ st base l,u=.tuple #[.int .i64 st,.int .i64 0]/\base<=w'.heap.size/\Y base l w'/\Lt [] l/\∀ x,x∈l↔Vm n ts.length vars rs x:=by
 have dh:=hok.n32;have dj:=hok.m32;obtain⟨m,hm⟩:∃ m,m=ts.length:=⟨_,rfl⟩;obtain⟨bg,first,bh,et,d1⟩:=hY.call;subst et;refine enE Tryz.func196 Tryz.ntmps196 ?_;refine ρ ?_;have d8:Ext w w.drew:=(Ext.refl w).drew;refine drG kr ?_;refine Vk (fuel':=5) [(0,0),(0,2),(0,4)] #[true,false,true,false,true,false,false,false] kr kr rfl ?_;refine ρd ?_;refine Vw ?_;refine gcut 3 #[true,true,true,true,true,false,false,false] (fun (x:Option Addr×Option Addr)=>[(0,.int .i64 (n:Int)),(1,.slice Aa ts.length ca),(2,.func (.func bg) first bh),(24,.slice x.1 n n),(26,.slice x.2 n n),(27,.func (.func bg) first bh)])
  (λx w'=>Ext w.drew w'/\Xl w' w.heap.size (.slice x.1 n n) (List.replicate n V0)/\w'.ownsRow w.heap.size 314 1 (.slice x.2 n n) n (List.replicate n (.slice none 0 0))) ?_ ?_
 .rintro⟨Ra,Ba⟩ w1 ⟨dd,ax,cd⟩;refine Vk (fuel':=0) [(1,5),(1,6),(0,7)] #[true,true,true,true,true,true,true,true] kr kr rfl ?_;refine Gf ?_;refine bld (Xkh _ _ _ _ _ _ _) ?_;refine Jf (Gd (Ext.refl _) ?_);refine Gf ?_;refine bx ?_;intro w2 J a1 hJ ez;refine Jf (Gd a1 ?_);refine ρd ?_;refine Vw ?_;refine gend kr ?_;refine ρ ?_;have ab:Ext w w2:=(d8.trans dd).trans a1;have dx:w.heap.size<=J:=nL (d8.trans dd).size hJ;obtain⟨K,hK⟩:∃ K:RK,K=⟨n,vars,rs,w.heap.size,J,Ra,Ba,.func (.func bg) first bh⟩:=⟨_,rfl⟩;have H2:RB K 0 ⟨λ_=>0,λ_=>none,λ_=>0,λ_=>0,.slice none 0 0,λ_=>.slice none 0 0⟩ (λ_=>[]) [] w2:=by
   subst hK;refine⟨ez,Jk ax a1,?_,⟨λi hi=>Zc _ _ _ _,λi j g _ _ _ e=>(by cases e)⟩,Zc _ _ _ _,λv g _ e=>(by cases e),λj hj=>om,λj hj=>om,λj k hj=>om,λi j hi=>om,λi j _ hj=>om,λj hj=>om,λj hj=>om,dx⟩;have:=Jk cd a1;have e:List.replicate n (Value.slice none 0 0)=(List.range n).map λ_=>Value.slice none 0 0:=by simp[List.map_const']
   rw[e]at this;exact this
  clear ax cd;refine Qv (fun (i:Nat)=>[(0,.int .i64 (n:Int)),(1,.slice Aa ts.length ca),(8,.pointer (some ⟨J,0,none⟩)),(30,.slice Aa ts.length ca),(31,.int .i64 (ts.length:Int)),(32,.int .i64 (i:Int))])
   (λi w'=>i<=ts.length/\Ext w2 w'/\∀ j,j<i->rs j≠[]) (λi=>ts.length-i) 0 sB ⟨Nat.zero_le _,Ext.refl _,λj hj=>om⟩ ?_
  rintro i w3 ⟨hi,C,c6⟩;refine ciR (λh=>?_) (λh=>?_)
  .have li:i<ts.length:=by have:=oT h;omega
   have e6:=hR.ext (ab.trans C);obtain⟨t1,t2,t3,a,hp⟩:∃ t1 t2 t3 a,ts.getD i ta0=((t1,t2,t3),a):=⟨_,_,_,_,rfl⟩;have a8:AtV w (t1,t2,t3) a:=by have:=hat _ (Jyq rfl li);rw[hp]at this;exact this
   have ea:a=⟨nz (vars i),(vars i).length,rs i⟩:=by have:=hok.at_ i li;rw[hp]at this;exact this
   clear h;obtain⟨⟨D,d,e1,hd,f2,dq⟩,e2,a6⟩:=id a8;simp only at e1 e2;subst e1;subst e2;obtain⟨ps,G,gc,_,aw,_⟩:=id a6;simp only at aw;subst aw;refine Qs 3 i e6 li ?_;refine Jt (cs:=[.slice D a.vars.length d,.int .i64 (a.ar:Int),.slice G ps.length gc]) (λj u hu=>Jvr e6 rfl li (by rw[hp];exact hu)) ?_;refine Jb Yn ?_;intro w4 b a5 hb hB;refine Qb hB ?_ a8.one;intro w5 fa cy co;have aq:Ext w3 w5:=co w3 a5 hb;refine Jt (cs:=[.int .i64 (a.ar:Int),.slice G ps.length gc]) (fa.sub2 (i:=1) rfl rfl) ?_;refine clR (Jwf ((a8.ext (((ab.trans C).trans aq))).rel)) ?_;rintro u w6 ⟨rfl,bm⟩;refine ciR (λh=>?_) (λh=>?_)
   .refine ρ ?_;have bv:Ext w w6:=((ab.trans C).trans aq).trans bm;refine Zs ⟨(GrN.ext bv),0,w6.heap.size,[],rfl,Nat.le_refl _,hY0 w6 bv,List.Pairwise.nil,λx=>⟨λhx=>(by cases hx),λhx=>?_⟩⟩;have o:=hx.2 i li;have Z:a.rows.length=0:=by have:=Zx h;omega
    rw[ea]at Z;have h3:rs i=[]:=List.eq_nil_of_length_eq_zero Z;rw[h3]at o;cases o
   have Z:rs i≠[]:=λe=>by
    have h3:=Xu h;rw[ea,e]at h3;exact h3 rfl
   refine ρ ?_;refine Qw (i+1) sO ⟨om,(C.trans aq).trans bm,λj hj=>?_⟩ om;by_cases e:j=i
   .rw[e];exact Z
   exact c6 j om
  have cx:i=ts.length:=by have:=oF h;omega
  subst cx;refine ρ ?_;refine Jo (fun (q:Nat) (S:RS)=>[(0,.int .i64 (n:Int)),(8,.pointer (some ⟨J,0,none⟩)),(11,S.va),(41,.slice Aa ts.length ca),(42,.int .i64 (ts.length:Int)),(43,.int .i64 (q:Int))])
   (λq S w'=>q<=ts.length/\Ext w w'/\RB K q S (Vb vars S.G q) ((List.range q).map λj=>itp (S.G j)) w') (λq _=>ts.length-q) 0 ⟨λ_=>0,λ_=>none,λ_=>0,λ_=>0,.slice none 0 0,λ_=>.slice none 0 0⟩ sB
   ⟨Nat.zero_le _,ab.trans C,H2.ext C⟩ ?_
  rintro q S w4 ⟨hq,a5,H4⟩;refine ciR (λh=>?_) (λh=>?_)
  .have lq:q<ts.length:=by have:=oT h;omega
   have e5:=hR.ext a5;obtain⟨t1,t2,t3,a,hp⟩:∃ t1 t2 t3 a,ts.getD q ta0=((t1,t2,t3),a):=⟨_,_,_,_,rfl⟩;have a8:AtV w (t1,t2,t3) a:=by have:=hat _ (Jyq rfl lq);rw[hp]at this;exact this
   have ea:a=⟨nz (vars q),(vars q).length,rs q⟩:=by have:=hok.at_ q lq;rw[hp]at this;exact this
   subst ea;clear h;obtain⟨⟨D,d,e1,hd,f2,dq⟩,e2,a6⟩:=id a8;simp only at e1 e2;subst e1;subst e2;obtain⟨ps,G,gc,_,aw,_⟩:=id a6;simp only at aw;subst aw;have dg:=Qg (vars q);have fh:(vars q).length<=n:=Jvt (hok.asc q lq) (hok.lt q lq);refine Qs 3 q e5 lq ?_;refine Jt (cs:=[.slice D (nz (vars q)).length d,.int .i64 ((vars q).length:Int),.slice G ps.length gc]) (λj u hu=>Jvr e5 rfl lq (by rw[hp];exact hu)) ?_;refine Jb Yn ?_;intro w5 b co hb hB;refine Qb hB ?_ a8.one;intro w6 ee br bm;have bw:Ext w4 w6:=bm w4 co hb;have H6:=H4.ext bw;refine ldR (ee.at (i:=0) rfl) ?_;refine ρ ?_;rw[dg];refine mkn EI (vars q).length om (by unfold maxLen;omega) ?_;intro w7 O d9 cv fk;rw[Xxf]at cv;refine ρ ?_;refine Qv (fun (t:Nat)=>[(0,.int .i64 (n:Int)),(8,.pointer (some ⟨J,0,none⟩)),(11,S.va),(41,.slice Aa ts.length ca),(42,.int .i64 (ts.length:Int)),(43,.int .i64 (q:Int)),(13,.pointer (some ⟨b,0,none⟩)),(14,.slice O (vars q).length (vars q).length),(51,.slice O (vars q).length (vars q).length),(52,.int .i64 ((vars q).length:Int)),(53,.int .i64 (t:Int))])
    (λt w'=>t<=(vars q).length/\Ext w6 w'/\w'.ownsRow w6.heap.size 3 1 (.slice O (vars q).length (vars q).length) (vars q).length (Gg (vars q).length t)) (λt=>(vars q).length-t) 0 sB
    ⟨Nat.zero_le _,d9,cv⟩ ?_
   clear cv d9;rintro t w8 ⟨ht,bl,b1⟩;refine ciR (λh=>?_) (λh=>?_)
   .have lt:t<(vars q).length:=by have:=oT h;omega
    clear h;refine ixR t (Rd.own b1) lt ?_;obtain⟨s1,s2,s3,s4,s5⟩:=Zm b1 (q:=t) om (.int .i64 (t:Int));have dw:t<(Gg (vars q).length t).length:=by rw[Xxc];exact lt
    refine Xk (s1.trans (gE dw)) s2 ?_;rw[Xxb lt]at s3;have ap:Ext w6 (w8.setCell (adr O t) (.int .i64 (t:Int))):=Qh bl s5 (λk U=>by
     obtain⟨_,_,_,_,hf⟩:=Jv b1;exact(hf k U).1)
    refine ρ ?_;exact Qw (t+1) sO ⟨om,ap,s3⟩ om
   have cq:t=(vars q).length:=by have:=oF h;omega
   subst cq;clear h;rw[Xxd]at b1;have ed:=ee.ext bl;have bu:Ext w w8:=(a5.trans bw).trans bl;have cz:IntsV w8 (.slice O (vars q).length (vars q).length) (nz (List.range (vars q).length)):=by
    have e:(nz (List.range (vars q).length)).length=(vars q).length:=by rw[Qg,List.length_range]
    exact⟨O,(vars q).length,by rw[e],by rw[e];exact nR _,by rw[e];omega,by rw[e];exact Rd.own b1⟩
   refine Jt (cs:=[.int .i64 ((vars q).length:Int),.slice G ps.length gc]) (ed.sub2 (i:=1) rfl rfl) ?_;refine clR (Qcr (a8.ext bu).rel (hok.srt q lq) (hok.len q lq) cz (show(vars q).length<=32 by omega) (hok.big q lq)) ?_;rintro u w9 ⟨ap,tv,rfl,⟨bi,rfl⟩,e0⟩;refine Jb Jcw ?_;intro fg b2 dc f3 f9;refine Qb (cs':=[.slice bi (vars q).length (vars q).length]) f9 ?_ (Qnk _ _ _);intro d7 ef fd db;have ac:Ext w9 d7:=db w9 dc f3;refine Qy ef ?_;refine clR (Qcs d7) ?_;rintro u d6 ⟨au,g,rfl,dn,ce⟩;have H8:=H6.ext bl;have dz:Off (λk=>k<w8.heap.size) w9 (λu=>TriA u bi (K.vars q).length (K.rs q)):=by
    subst hK;exact e0.imp λu h=>h.a
   have be:ItB d6 g bi (K.vars q).length 0 0 0 (λ_=>0) (λ_=>0) 0:=by subst hK;exact ce
   have eo:=H8.iter ap dz (ac.trans au) (nL ac.size dn) be;have bf:=ed.ext (((ap.trans ac)).trans au);have bt:K.n=n:=by rw[hK]
   have d4:K.base=w.heap.size:=by rw[hK]
   have f6:K.J=J:=by rw[hK]
   have b9:K.Ba=Ba:=by rw[hK]
   have an:Ext w d6:=(bu.trans ap).trans (ac.trans au);have cw:∀ {w':World} {e sz m':Nat} {v:Value} {xs:List Value},w'.ownsRow K.base e sz v m' xs->∀ k,v.ownBlock=some k->w.heap.size<=k:=λho k ek=>by
    obtain⟨_,_,_,_,hf⟩:=Jv ho;rw[<-d4];exact(hf k ek).1
   refine Qk (Qwf (some ⟨g,0,none⟩)) ?_;intro ff b3 a3 fj fc;have bj:=eo.ext a3;refine ρ ?_;refine apb (base:=K.base) EIt bj.all (fc.rd (n:=1) rfl) (λu hu=>by rw[List.mem_singleton.1 hu];rfl) (by unfold maxLen;simp;omega) (by simp;omega) (by rw[d4];exact(an.trans a3).size) ?_;intro cn er c5 ag c7;have en:=bj.pushAll c5 ag c7;have ch:=(bf.ext a3).grown ag ((bf.ext a3).ne_own bj.all rfl);have bz:Ext w er:=Qh (an.trans a3) ag (cw bj.all);refine ldR (ch.at (i:=0) rfl) ?_;refine ρ ?_;refine Jo (fun (t:Nat) (vt:Nat->Value)=>[(0,.int .i64 (n:Int)),(8,.pointer (some ⟨J,0,none⟩)),(11,cn),(41,.slice Aa ts.length ca),(42,.int .i64 (ts.length:Int)),(43,.int .i64 (q:Int)),(18,.pointer (some ⟨g,0,none⟩)),(78,.slice D (nz (vars q)).length d),(79,.int .i64 ((nz (vars q)).length:Int)),(80,.int .i64 (t:Int))])
    (λt vt w'=>t<=(vars q).length/\Ext w w'/\RB K (q+1) { G:=upd S.G q g,A:=upd S.A q bi,lo:=upd S.lo q w8.heap.size,hi:=upd S.hi q w9.heap.size,va:=cn,vat:=vt } (λv=>Vb vars S.G q v++if v∈(vars q).take t then[itp g] else[]) (((List.range q).map λj=>itp (S.G j))++[itp g]) w') (λt _=>(vars q).length-t) 0 S.vat sB
    ⟨Nat.zero_le _,bz,?_⟩ ?_
   .have e:(λv=>Vb vars S.G q v++if v∈(vars q).take 0 then[itp g] else[])=Vb vars S.G q:=by funext v;simp
    rw[e];exact en
   clear en bj c5 ag c7 ch bz eo bf ce be e0 dz;rintro t vt cm ⟨ht,af,am⟩;refine ciR (λh=>?_) (λh=>?_)
   .have lt:t<(vars q).length:=by have:=oT h;omega
    clear h;obtain⟨vi,cp⟩:∃ vi,vi=(vars q).getD t 0:=⟨_,rfl⟩;have eu:vi∈vars q:=by rw[cp];exact getD_mem' 0 _ lt
    have aj:vi<n:=hok.lt q lq vi eu;have av:vi<K.n:=by rw[bt];exact aj
    have cg:=dq.ext af;refine ixR t cg (by rw[dg];exact lt) ?_;refine ldR (cg.cell (Xf lt)) ?_;rw[<-cp];obtain⟨own,ay⟩:∃ own,own=(vt vi).ownBlock:=⟨_,rfl⟩;have bd:=am.jb;rw[f6,b9,bt]at bd;have a7:=am.at_;rw[bt,b9]at a7;have az:=am.lists.own vi av;have nJ:¬ one own J:=λe=>by
     have o:own=some J:=e;exact bd.ne_own az rfl (by rw[<-o];exact ay)
    have nA:∀ ad,Ba=some ad->¬ one own ad.block:=λad e h'=>by
     subst e;exact Jxz a7 az rfl rfl (by have o:own=some ad.block:=h';rw[<-o];exact ay.symm)
    refine ρ ?_;refine drN (one own) 8 (scq 17 [13,14,116]) kr ?_;have a2:Ext cm cm.drew:=(Ext.refl cm).drew;have em:=am.ext a2;have bc:=bd.ext a2;have ah:=Jk a7 a2;have d0:((List.range n).map vt)[vi]?=some (vt vi):=by simp[aj]
    refine ρn ?_;refine nld (Js (bc.at (i:=1) rfl) nJ) ?_;refine ρn ?_;refine nld (Js (bc.at (i:=1) rfl) nJ) ?_;refine ρn ?_;refine nix vi (Rd.own ah) aj ?_;refine ρn ?_;refine nld (λw' hg=>(Vs (Rd.own ah) hg (λ_ ad e=>nA ad e)).cell d0) ?_;refine ρn ?_;refine nop ?_;refine bsl (Qwf (some ⟨g,0,none⟩)) ?_;intro fe b4 ae fi fb;refine ρ ?_;refine Je (GrN.ext ae) ?_;have ak:=em.ext ae;refine nop ?_;have dw:=Xxm vars S.G q vi;refine apb (base:=K.base) EIt (ak.lists.own vi av) (fb.rd (n:=1) rfl) (λu hu=>by rw[List.mem_singleton.1 hu];rfl) ?_ ?_ (by rw[d4];exact((af.trans a2).trans ae).size) ?_
    .rw[List.length_append];unfold maxLen;split<;>simp<;>omega
    .rw[List.length_append];split<;>simp<;>omega
    intro v4 ep df b5 di;refine ρ ?_;refine Je (GrN.by b5 λj ej=>by rw[<-ay]at ej;exact ej) ?_;obtain⟨c1,c2,c3,el,c8⟩:=ak.pushAt av df b5 di;rw[b9]at c1 c2 el c8;have ck:=Zn ak.at_ (ak.lists.own vi av) b5 rfl;rw[bt,b9]at ck;refine ρn ?_;refine nix vi (Rd.own ck) aj ?_;refine ρn ?_;refine Xh ?_;refine sto c1 c2 ?_ (hv:=c3);have da:Ext w (ep.setCell (adr Ba vi) v4):=c8.old ((af.trans a2).trans ae) (λk U=>by
     rcases U with U|U
     .exact cw (ak.lists.own vi av) k U
     exact cw ak.at_ k (by rw[b9];exact U))
    refine ω5 ?_;refine Gy ?_;refine ρn ?_;refine ρ ?_;refine Jl (t+1) (upd vt vi v4) sO ⟨om,da,?_⟩ om;have de:(vars q).take (t+1)=(vars q).take t++[vi]:=by rw[Qr 0 lt,cp]
    have ex:vi ∉ (vars q).take t:=λhm=>by
     have o:((vars q).take (t+1)).Nodup:=(Qvj (hok.asc q lq)).sublist (List.take_sublist _ _);rw[de,List.nodup_append]at o;exact o.2.2 _ hm _ (List.mem_singleton.2 rfl) rfl
    have e:upd (λv=>Vb vars S.G q v++if v∈(vars q).take t then[itp g] else[]) vi ((Vb vars S.G q vi++if vi∈(vars q).take t then[itp g] else[])++[.pointer (some ⟨g,0,none⟩)])=(λv=>Vb vars S.G q v++if v∈(vars q).take (t+1) then[itp g] else[]):=by
     funext v
     rw[de];by_cases e:v=vi
     .subst e;rw[Ju,if_neg ex,if_pos (by simp)];simp[itp]
     rw[Jm _ _ e];congr 1
     by_cases o:v∈(vars q).take t
     .rw[if_pos o,if_pos (by simp[o])]
     rw[if_neg o,if_neg (by simp[o,e])]
    rw[<-e];exact el
   have cq:t=(vars q).length:=by have:=oF h;omega
   subst cq;clear h;refine ρ ?_;refine Jl (q+1) ⟨upd S.G q g,upd S.A q bi,upd S.lo q w8.heap.size,upd S.hi q w9.heap.size,cn,vt⟩ sO ⟨om,af,?_⟩ om;have e1:(λv=>Vb vars S.G q v++if v∈(vars q).take (vars q).length then[itp g] else[])=Vb vars (upd S.G q g) (q+1):=by
    funext v
    rw[Xxl,List.take_length,Ju,Xxn (G':=upd S.G q g) (λj hj=>(Jm _ _ om).symm)]
   have e2:((List.range q).map λj=>itp (S.G j))++[itp g]=(List.range (q+1)).map λj=>itp (upd S.G q g j):=by
    rw[List.range_succ,List.map_append,List.map_singleton,Ju];congr 1
    refine List.map_congr_left λj hj=>?_;have:=List.mem_range.1 hj;rw[Jm _ _ om]
   rw[e1,e2]at am;exact am
  have ew:q=ts.length:=by have:=oF h;omega
  subst ew;clear h;subst hK;obtain⟨h0,bq⟩:∃ h0,h0=w4.heap.size:=⟨_,rfl⟩;obtain⟨a9,ai⟩:∃ a9:Nat->Prop,a9=λk=>k=J∨(∃ i,i<ts.length/\k=S.G i)∨(Value.slice Ra n n).ownBlock=some k:=⟨_,rfl⟩;obtain⟨c,hc⟩:∃ c:JC,c=⟨⟨S.G,S.A,λi=>(vars i).length,rs⟩,n,ts.length,vars,J,Ra,w.heap.size,.slice Ba n n,.func (.func bg) first bh,S.vat,λk=>bx' k∨h0<=k∨a9 k⟩:=⟨_,rfl⟩;have d3:∀ k,c.NI k↔a9 k:=λk=>by subst hc;subst ai;exact Iff.rfl
  have bs:∀ k,c.N k↔bx' k∨h0<=k∨a9 k:=λk=>by subst hc;exact Iff.rfl
  have e8:J<h0:=by rw[bq];exact H4.jb.lt
  have c0:∀ {e sz m':Nat} {v:Value} {xs:List Value},w4.ownsRow w.heap.size e sz v m' xs->∀ k,v.ownBlock=some k->w.heap.size<=k/\k<h0:=λho k ek=>by
   obtain⟨_,_,_,_,hf⟩:=Jv ho;rw[bq];exact hf k ek
  have b8:∀ k,a9 k->w.heap.size<=k/\k<h0:=λk U=>by
   subst ai;rcases U with U|⟨i,hi,U⟩|U
   .subst U;exact⟨dx,e8⟩
   .subst U;have o:=(H4.its i hi).lt;have Z:=H4.jg i hi;simp only at Z;omega
   exact c0 H4.row k U
  have f4:∀ k,k<h0->¬ bx' k->¬ a9 k->¬ c.N k:=λk o Z h3 h4=>by
   rcases(bs k).1 h4 with h5|h5|h5
   .exact Z h5
   .omega
   exact h3 h5
  have cb:∀ k,w.heap.size<=k->¬ bx' k:=λk U hb=>by have:=hbx k hb;omega
  have aa:∀ {e sz m':Nat} {v:Value} {xs:List Value},w4.ownsRow w.heap.size e sz v m' xs->Nat.beq e 313=false->Nat.beq e 340=false->Nat.beq 147 e=false->∀ k,v.ownBlock=some k->¬ c.N k:=λho e1 e2 e3 k ek=>by
   have o:=c0 ho k ek;refine f4 k o.2 (cb k o.1) λZ=>?_;subst ai;rcases Z with Z|⟨i,hi,Z⟩|Z
   .subst Z;exact H4.jb.ne_own ho e1 ek.symm
   .subst Z;exact(H4.its i hi).ne_own ho e2 ek.symm
   exact Jxz H4.row ho e3 Z ek
  have f7:∀ v,c.I v=(List.range ts.length).filter λi=>decide (v∈vars i):=λv=>by subst hc;rfl
  have c4:∀ v,Jxv c.F (c.I v)=Vb vars S.G ts.length v:=λv=>by rw[f7];subst hc;rfl
  have e9:∀ v,(c.I v).length=(Vb vars S.G ts.length v).length:=λv=>by rw[<-c4];simp[Jxv]
  have ba:JOk c:=by
   have dl:∀ i j,i<ts.length->j<ts.length->S.G i=S.G j->i=j:=λi j hi hj e=>by
    rcases Nat.lt_trichotomy i j with o|o|o
    .have:=H4.ginj i j o hj;omega
    .exact o
    have:=H4.ginj j i o hi;omega
   have f0:∀ i,i<ts.length->S.G i≠J:=λi hi e=>by have:=H4.jg i hi;simp only at this;omega
   have dt:∀ i,i<ts.length->(vars i).length<=32:=λi hi=>by have:=Jvt (hok.asc i hi) (hok.lt i hi);omega
   subst hc;exact⟨dh,dj,hok.asc,hok.lt,λi _=>rfl,dt,c6,hok.srt,hok.len,hok.big,dl,f0,hok.cov,λk U=>.inr (.inr ((d3 k).1 U))⟩
  have d5:JEnv c w4:=by
   refine⟨λi hi=>?_,⟨Ba,n,by subst hc;rfl,?_⟩,λv hv=>?_⟩
   .have bp:i<ts.length:=by subst hc;exact hi
    have o:=H4.tri i bp;have Z:Off c.N w4 (λu=>TriA u (S.A i) (vars i).length (rs i)):=o.mono λk U h=>by
     have h3:=(H4.jlo i bp);have h4:=H4.iv i k bp;simp only at h3;rcases(bs k).1 h with h5|h5|h5
     .have:=hbx k h5;exact .inl om
     .omega
     subst ai;rcases h5 with h5|⟨i',cx,h5⟩|h5
     .exact h4 (.inl h5)
     .subst h5;exact H4.gi i' i cx bp
     exact h4 (.inr (.inl h5))
    subst hc;exact Z
   .have o:=Jxx H4.at_ (aa H4.at_ rfl rfl rfl);have Z:=o.imp (Ψ:=λu=>Rd u 1 Ba n ((List.range n).map S.vat)) λu h=>Rd.own h;have:c.n=n/\c.vat=S.vat:=by subst hc;exact⟨rfl,rfl⟩
    rw[this.1,this.2];exact Z
   have aj:v<n:=by subst hc;exact hv
   have ho:=H4.lists.own v aj;obtain⟨B,cc,e1,e2,e3⟩:=Jv ho;have:c.vat v=S.vat v:=by subst hc;rfl
   refine⟨B,cc,by rw[this,e1,e9],?_⟩;rw[c4,e9];refine(Jxx ho (aa ho rfl rfl rfl)).imp λu h=>?_;rw[e1]at h;exact Rd.own h
  have d2:YC c (λl u=>Y h0 l u/\h0<=u.heap.size) (λk=>bx' k∨h0<=k):=by
   refine⟨λk U=>(bs k).2 (by rcases U with h|h;(exact .inl h);exact .inr (.inl h)),λk U h=>?_,λl u u' h hg=>⟨hY.keep _ _ _ _ h.1 (hg.mono λk _ U=>?_),Nat.le_trans h.2 hg.size⟩,bg,first,bh,by subst hc;rfl,λl u vr z h hr hl=>?_⟩
   .have o:=b8 k ((d3 k).1 h);rcases U with Z|Z
    .exact cb k o.1 Z
    omega
   .have o:=b8 k ((d3 k).1 U);exact o
   refine(d1 h0 l u vr z h.2 h.1 hr hl).mono ?_;rintro r u' ⟨o,Z,h3⟩;exact⟨o,⟨Z,Nat.le_trans h.2 h3.size⟩,h3⟩
  have du:c.n=n:=by subst hc;rfl
  have dv:c.m=ts.length:=by subst hc;rfl
  have ec:Cfg c (λl u=>Y h0 l u/\h0<=u.heap.size) w4 (List.replicate n V0) (λi=>lv (c.vars i) 0) (λ_=>0) (λ_=>0) (λ_ _=>0) (λ_ _=>0) []:=by
   refine⟨d5,λi hi=>⟨0,?_⟩,?_,by rw[du];simp,⟨0,?_⟩,by rw[bq];exact hY0 w4 a5,by rw[bq];exact nR _⟩
   .simp only[Jwp];rw[dv]at hi;have:=H4.its i hi;subst hc;exact this
   .have:=H4.row;subst hc;exact this
   have:=H4.jb;subst hc;exact this
  have cj:∀ x,c.Ans x↔Vm n ts.length vars rs x:=λx=>by subst hc;exact Iff.rfl
  have e7:Pth c 0 (List.replicate n V0) (λ_=>0) (λ_=>0):=by
   refine⟨λi hi=>?_,λi hi h=>?_⟩
   .rw[Jwp,Uy,if_pos rfl,List.take_zero]
   rw[Jwp]at h;omega
  have b6:c.J=J:=by subst hc;rfl
  refine ρ ?_;have c9:=Xjn ba d2 (λl o Z=>hcap l o λx hx=>(cj x).1 (Z x hx)) n 0 (List.replicate n V0) (λ_=>0) (λ_=>0) (λ_ _=>0) (λ_ _=>0) [] w4 (by rw[du];omega) ec e7 List.Pairwise.nil (λx hx=>by cases hx) (λx hx=>by cases hx);rw[b6]at c9;refine cl c9 ?_;rintro u w5 ⟨rfl,cy,z5,f5,h5,l5,H5,_,_,dk,ey⟩;have b7:w5.ownsRow w.heap.size 320 1 S.va ts.length ((List.range ts.length).map λj=>itp (S.G j)):=by
   have o:=H4.all;rw[List.length_map,List.length_range]at o;exact Ja o cy (aa H4.all rfl rfl rfl)
  obtain⟨VA,vc,eh,_,_⟩:=Jv b7;rw[eh]at b7 ⊢;have cr:Off c.N w5 (λu=>Rd u 1 VA ts.length ((List.range ts.length).map λj=>itp (S.G j))):=by
   refine(Jxx b7 λg eg=>?_).imp λu h=>Rd.own h;exact aa H4.all rfl rfl rfl g (by rw[eh];exact eg)
  refine ρ ?_;refine Qv (fun (i:Nat)=>[(8,.pointer (some ⟨J,0,none⟩)),(104,.slice VA ts.length vc),(105,.int .i64 (ts.length:Int)),(106,.int .i64 (i:Int))])
   (λi w'=>i<=ts.length/\GrN c.N w5 w'/\Cfg c (λl u=>Y h0 l u/\h0<=u.heap.size) w' z5 (λi=>lv (c.vars i) 0) (λ_=>0) (λ_=>0) f5 h5 l5) (λi=>ts.length-i) 0 sB ⟨Nat.zero_le _,GrN.refl _ _,H5⟩ ?_
  rintro i w6 ⟨hi,br,H6⟩;refine ciR (λh=>?_) (λh=>?_)
  .have li:i<ts.length:=by have:=oT h;omega
   clear h;have e4:=cr w6 br;refine ixR i e4 li ?_;refine ldR (e4.cell (show((List.range ts.length).map λj=>itp (S.G j))[i]?=some (.pointer (some ⟨S.G i,0,none⟩)) by simp[li,itp])) ?_;obtain⟨sj,bb⟩:=H6.jb;rw[b6]at bb;refine ρ ?_;refine drN (λ_=>False) 10 (scq 10 [5,109]) kr ?_;have ao:Ext w6 w6.drew:=(Ext.refl w6).drew;have ei:=H6.ext d2 ao;have a4:=bb.ext ao;obtain⟨si,eb⟩:=ei.its i (by rw[dv];exact li);have f8:c.F.G i=S.G i:=by subst hc;rfl
   rw[f8]at eb;refine ρn ?_;refine nld (Js (a4.at (i:=2) rfl) (λe=>e)) ?_;refine ρn ?_;refine nop ?_;refine cl (Qsm eb) ?_;rintro u w7 ⟨rfl,rfl⟩;refine ρ ?_;refine Je (GrN.refl _ _) ?_;refine ρn ?_;refine Xh ?_;refine sto (p:=⟨J,2,none⟩) (a4.cell 2) (a4.frozen _) ?_;rw[<-b6]at a4;obtain⟨H8,dm⟩:=ei.steps ba d2 a4 (IntKind.i64.wrap (sj+si));rw[b6]at H8 dm;refine ω5 ?_;refine Gy ?_;refine ρn ?_;refine ρ ?_;exact Qw (i+1) sO ⟨om,(br.trans (GrN.ext ao)).trans (dm.mono λk _ U=>ba.sub k U),H8⟩ om
  clear h;obtain⟨sj,bb⟩:=H6.jb;rw[b6]at bb;refine ldR (bb.at (i:=2) rfl) ?_;refine ρ ?_;refine Zs ⟨GrN.cut a5 (cy.trans br) λk U h=>?_,sj,h0,l5,rfl,H6.y.2,H6.y.1,dk,λx=>?_⟩
  .rcases(bs k).1 h with o|o|o
   .exact o
   .have:=a5.size;omega
   have:=(b8 k o).1;omega
  rw[ey,<-cj x];constructor
  .rintro(o|o)
   .cases o
   exact o.1
  intro o;exact .inr ⟨o,rfl⟩
 intro rest;refine Io 1 3 kr rfl rfl rfl ?_ ?_
 .refine ρ ?_;refine mkn EV n om (by unfold maxLen;omega) ?_;intro w2 A2 a1 bo _;refine Jf (Yv a1 ?_);refine Vk (fuel':=3) [(1,3)] #[true,true,true,true,true,false,false,false] kr kr rfl ?_;refine Gf ?_;refine mkn EIts n om (by unfold maxLen;omega) ?_;intro w3 A3 C bn _;refine Jf (Gd C ?_);refine Zf (Vw ?_);refine rest (A2,A3) _ _ ⟨a1.trans C,?_,?_⟩ sB
  .rw[Xl,List.length_replicate,<-Jwc];exact Jk bo C
  rw[Jnf]at bn;exact Jbf bn a1.size
 refine ρ ?_;refine mkn EIts n om (by unfold maxLen;omega) ?_;intro w2 A2 a1 bo _;refine Jf (Yv a1 ?_);refine Vk (fuel':=3) [(1,1)] #[true,true,true,true,true,false,false,false] kr kr rfl ?_;refine Gf ?_;refine mkn EV n om (by unfold maxLen;omega) ?_;intro w3 A3 C bn _;refine Jf (Gd C ?_);refine Zf (Vw ?_);refine rest (A3,A2) _ _ ⟨a1.trans C,?_,?_⟩ sB
 .rw[Xl,List.length_replicate,<-Jwc];exact Jbf bn a1.size
 rw[Jnf]at bo;exact Jk bo C
end Go.Proofs.YtgobkbeokaaplaaGreatDoor
namespace Go.Wk
open Go.RowKit
variable {d n t t2 ty:Nat}
theorem fnl{P:Program}{al:AL}{w:World}{Q:Exit->Act->World->Prop}{ops:Array Oper}{rest:List Oper}{pos:String}{aft:Array Edge}{tt:TT}[h:Tab P tt]{x:Operand}{k:TK}{ps rs:Array TypeId}{va:Bool}{f:Fn}{first cap:Array Value}(kk:WL P n ops Q rest ((d,.bool false)::al) w)(ht:tk tt t=some k:=by rfl)(hk:k.desc=.func ps rs va:=by rfl)(hx:ev al x=some (.func f first cap):=by rfl)(hd:Nat.blt d n=true:=by rfl):
  WL P n ops Q (⟨some d,.binOp .eql t x (.const .nilFunc) t2,ty,pos,aft,none⟩::rest) al w :=
 wop hd (λa j=>by
  have i:=Yc h.ok ht hk rfl;have u:a.eval (.const .nilFunc)=.nilFunc:=rfl;have o:∀ d:Nat,(Op.equalIn (d+1) t (.func f first cap) .nilFunc).run P w=.ok false w:=λd=>by simp[Op.equalIn,run_underlying i]
  simp[execOp,j.ev hx,u,eqGuard,binOp,Op.equal,Op.maxDepth,o 9999]) kk
end Go.Wk
namespace Go.Proofs.YtgobkbeokaaplaaGreatDoor
open Go.RowKit Pl Go.Wk
attribute [local irreducible] WC WL QX WD WDB WP WN WG
variable {b ca n s:Nat}{Y:Nat->List Row->World->Prop}{yv:Value}
structure YZ(s:Nat)(yv:Value)(bx:Nat->Prop)(Y:Nat->List Row->World->Prop): Prop where
 keep:∀ base l w w',Y base l w->GrN (λk=>s<=k/\k<base) w w'->Y base l w'
 call:∃ fid first cap,yv=.func (.func fid) first cap/\∀ base l w w1 vr z,base<=w.heap.size->Y base l w->Ext w w1->RowX w1 (λk=>k<w.heap.size) vr z->l.length<65536->Ret Tryz.prog fid (first.toList++[vr]++cap.toList) w1 λr w'=>r=.bool true/\Y base (l++[z]) w'/\GrN (λk=>bx k∨base<=k) w1 w'
theorem Xjx{bx:Nat->Prop}(hY:YZ s yv bx Y)(hb:s<=b)(hbx:∀ k,bx k->k<s):
  YS (b+1) (.func (.func 197) #[] #[.pointer (some ⟨b,0,none⟩)]) bx (λbase l w=>(Y base l w/\Blk w b 254 [yv])/\b<base):=by
 obtain⟨a5,first,a6,Z,C⟩:=hY.call;subst Z;refine⟨λbase l w w' h J=>⟨⟨hY.keep _ _ _ _ h.1.1 (J.mono λk _ U=>⟨om,U.2⟩),Jy h.1.2 J (λU=>om)⟩,h.2⟩,_,_,_,rfl,λbase l w vr z D h hr hl=>?_⟩;obtain⟨⟨hy,hB⟩,a3⟩:=h;have O:¬ (bx b∨base<=b):=by grind
 refine enE Tryz.func197 Tryz.ntmps197 ?_;refine ρ ?_;refine drN (λk=>bx k∨base<=k) 8 (scq 5 [2,3]) kr ?_;have j:Ext w w.drew:=(Ext.refl w).drew;have a4:=hB.ext j;have a1:=hY.keep _ _ _ _ hy (GrN.ext j);refine ρn ?_;refine nld (Js (a4.at (i:=0) rfl) O) ?_;refine ρn ?_;refine nop ?_;refine cl (Ua (hr.ext j) (λk=>k<w.drew.heap.size) (λk U=>U)) ?_;rintro u w1 ⟨hu,o⟩;refine ρ ?_;refine Je (GrN.ext o) ?_;refine nop ?_;refine clv (C base l w.drew w1 u z D a1 o hu hl) ?_;rintro r w2 ⟨rfl,a2,G⟩;refine ρ ?_;refine Je G ?_;refine ρn ?_;refine ρ ?_;have J:GrN (λk=>bx k∨base<=k) w w2:=(GrN.ext (j.trans o)).trans G;exact Jj ⟨rfl,⟨⟨a2,Jy hB J O⟩,a3⟩,J⟩
theorem Xjw{w:World}{ts:List TA}{Aa:Option Addr}{vars:Nat->List Nat}{rs:Nat->List Row}{bx':Nat->Prop}(hok:RunOk n ts vars rs)(hR:Rd w 3 Aa ts.length (atC ts))(hle:ts.length<=ca)(hat:∀ p∈ts,AtV w p.1 p.2)(hchk:Jvn n (ts.map (·.2)))(hbx:∀ k,bx' k->k<w.heap.size)(hY:YZ w.heap.size yv bx' Y)(hY0:∀ w',Ext w w'->Y w'.heap.size [] w')(hcap:∀ l:List Row,Lt [] l->(∀ x∈l,Vm n ts.length vars rs x)->l.length<=65536):
  Ret Tryz.prog 171 [.int .i64 (n:Int),yv,.slice Aa ts.length ca] w λu w'=>GrN bx' w w'/\∃ st base l,u=.tuple #[.int .i64 st,.int .i64 0]/\w.heap.size<=base/\base<=w'.heap.size/\Y base l w'/\Lt [] l/\∀ x,x∈l↔Vm n ts.length vars rs x:=by
 have a4:=hok.m32;obtain⟨a2,first,a3,U,_⟩:=hY.call;subst U;refine enE Tryz.func171 Tryz.ntmps171 ?_;refine bxR ?_;intro w1 b o hb hB;refine clR (Jhc (n:=(n:Int)) (ats:=ts.map (·.2)) ⟨ts,Aa,ca,rfl,rfl,hle,om,hR.ext o,λp Z=>(hat p Z).ext o⟩) ?_
 rintro u w2 ⟨G,e,rfl,he⟩;have e0:=he.2 hchk;subst e0;have D:=hB.ext G;refine ldR (D.at (i:=0) rfl) ?_;refine ρ ?_;refine fnl ?_;have j:=o.trans G;have a5:b+1<=w2.heap.size:=D.lt;refine clR (Qgl (bx':=bx') (Y:=λbase l w=>(Y base l w/\Blk w b 254 [.func (.func a2) first a3])/\b<base) hok (hR.ext j) (λp Z=>(hat p Z).ext j) (λk J=>nM (hbx k J) j.size) ?_ (λw' C=>⟨⟨hY0 w' (j.trans C),D.ext C⟩,by have:=C.size;omega⟩) hcap) ?_
 .have O:=Xjx hY hb hbx;exact⟨λbase l u u' h hg=>O.keep base l u u' h (hg.mono λk _ J=>⟨om,J.2⟩),O.call⟩
 rintro u w3 ⟨a1,st,base,l,rfl,O,⟨⟨h2,_⟩,h3⟩,h4,h5⟩;refine ρ ?_;exact Zs ⟨GrN.cut j a1 λk _ J=>J,st,base,l,rfl,om,O,h2,h4,h5⟩
end Go.Proofs.YtgobkbeokaaplaaGreatDoor
namespace Go.Wk
open Go.RowKit
variable {e:Act}{parts:Array (Nat×Operand)}{pw:Array (Nat×Value)}{a b:Int}{k1 k2:IntKind}{vs:List Value}{i s t v:Nat}{x y:Operand}{yt:TypeId}
section
variable {N:Nat->Prop} {P:Program} {n:Nat} {al:AL} {w:World} {Q:Exit->Act->World->Prop} {ops:Array Oper} {rest:List Oper} {drest:List (Nat×Oper)}
variable {d ty:Nat} {pos:String} {aft:Array Edge}
theorem Jsk{t:TypeId}(hx:ev al x=some (.int k1 a))(hy:ev al y=some (.int k2 b))(h0:0<=b)(he:Fr n al e)(dst:Option Nat)(w:World):
  (execOp e.eval ⟨dst,.binOp .shr t x y yt,ty,pos,aft,none⟩).run P w=.ok (.value (.int k1 (a.fdiv (2^(min b.toNat k1.bits))))) w:=by
 have i:¬ b<0:=om
 simp[execOp,he.ev hx,he.ev hy,eqGuard,binOp,Op.shift,i]
theorem Jkz{t:TypeId}(hx:ev al x=some (.int k1 a))(hy:ev al y=some (.int k2 b))(h0:0<=b)(he:Fr n al e)(dst:Option Nat)(w:World):
  (execOp e.eval ⟨dst,.binOp .shl t x y yt,ty,pos,aft,none⟩).run P w=.ok (.value (.int k1 (k1.wrap (a*2^(min b.toNat k1.bits))))) w:=by
 have i:¬ b<0:=om
 simp[execOp,he.ev hx,he.ev hy,eqGuard,binOp,Op.shift,i]
theorem Jsd(s v:Nat)(hv:v<=32): ((s:Int)).fdiv (2^(min ((v:Nat):Int).toNat 32))=((s / 2^v:Nat):Int):=by grind
theorem Kl(hv:v<32): 2^v<4294967296:=nM (Nat.pow_lt_pow_right (by decide:1<2) hv) (by decide)
theorem Jys(hv:v<32): IntKind.u32.wrap (1*2^(min ((v:Nat):Int).toNat 32))=((2^v:Nat):Int):=by
 have h:=Kl hv;rw[Int.toNat_natCast,Nat.min_eq_left om,Int.one_mul];have:((2:Int)^v)=((2^v:Nat):Int):=by simp
 rw[this,IntKind.wrap_u32];grind
theorem Iy{t:TypeId}(hv:v<=32)(kk:WL P n ops Q rest ((d,.int .u32 ((s / 2^v:Nat):Int))::al) w)(hx:ev al x=some (.int .u32 (s:Int)):=by rfl)(hy:ev al y=some (.int .i64 (v:Int)):=by rfl)(hd:Nat.blt d n=true:=by rfl):
  WL P n ops Q (⟨some d,.binOp .shr t x y yt,ty,pos,aft,none⟩::rest) al w:=by
 rw[<-Jsd s v hv]at kk;exact wop hd (λa i=>Jsk hx hy om i (some d) w) kk
theorem sl32{t:TypeId}(hv:v<32)(kk:WL P n ops Q rest ((d,.int .u32 ((2^v:Nat):Int))::al) w)(hy:ev al y=some (.int .i64 (v:Int)):=by rfl)(hd:Nat.blt d n=true:=by rfl):
  WL P n ops Q (⟨some d,.binOp .shl t (.const (.int .u32 1)) y yt,ty,pos,aft,none⟩::rest) al w:=by
 rw[<-Jys hv]at kk;exact wop hd (λa i=>Jkz (x:=.const (.int .u32 1)) rfl hy om i (some d) w) kk
theorem dsl32{t:TypeId}(hv:v<32)(kk:WD P n ops Q drest ((d,.int .u32 ((2^v:Nat):Int))::al) w)(hy:ev al y=some (.int .i64 (v:Int)):=by rfl)(hd:Nat.blt d n=true:=by rfl):
  WD P n ops Q ((0,⟨some d,.binOp .shl t (.const (.int .u32 1)) y yt,ty,pos,aft,none⟩)::drest) al w:=by
 rw[<-Jys hv]at kk;exact dy (λw' _ a i=>Jkz (x:=.const (.int .u32 1)) rfl hy om i (some d) w') hd kk
theorem Jgl{t:TypeId}(hv:v<32)(kk:WN N P n ops Q drest ((d,.int .u32 ((2^v:Nat):Int))::al) w)(hy:ev al y=some (.int .i64 (v:Int)):=by rfl)(hd:Nat.blt d n=true:=by rfl):
  WN N P n ops Q ((0,⟨some d,.binOp .shl t (.const (.int .u32 1)) y yt,ty,pos,aft,none⟩)::drest) al w:=by
 rw[<-Jys hv]at kk;exact ny_ (λw' _ a i=>Jkz (x:=.const (.int .u32 1)) rfl hy om i (some d) w') hd kk
end
section
variable {N:Nat->Prop} {P:Program} {n:Nat} {al:AL} {w:World} {Q:Exit->Act->World->Prop} {ops:Array Oper} {drest:List (Nat×Oper)}
variable {d ty:Nat} {pos:String} {aft:Array Edge}
theorem Jsr{v:Value}(hb:∀ w,(Instr.build t pw).run P w=.ok v w)(hx:evs al (parts.toList.map (·.2))=some vs)(hp:((parts.toList.map (·.1)).zip vs).toArray=pw){a:Act}(ha:Fr n al a)(dst:Option Nat)(w:World):
  (execOp a.eval ⟨dst,.build t parts,ty,pos,aft,none⟩).run P w=.ok (.value v) w:=by
 subst hp;have o:=ha.evs hx;have j:(parts.map fun (i,x)=>(i,a.eval x))=((parts.toList.map (·.1)).zip vs).toArray:=by grind
 simp only[execOp,j,Sem.run_bind,hb w];rfl
theorem Jqh{v:Value}(hb:∀ w,(Instr.build t pw).run P w=.ok v w)(kk:WN N P n ops Q drest ((d,v)::al) w)(hx:evs al (parts.toList.map (·.2))=some vs:=by rfl)(hp:((parts.toList.map (·.1)).zip vs).toArray=pw:=by rfl)(hd:Nat.blt d n=true:=by rfl): WN N P n ops Q ((0,⟨some d,.build t parts,ty,pos,aft,none⟩)::drest) al w :=
 ny_ (λw' _ a i=>Jsr hb hx hp i (some d) w') hd kk
theorem dbld{v:Value}(hb:∀ w,(Instr.build t pw).run P w=.ok v w)(kk:WD P n ops Q drest ((d,v)::al) w)(hx:evs al (parts.toList.map (·.2))=some vs:=by rfl)(hp:((parts.toList.map (·.1)).zip vs).toArray=pw:=by rfl)(hd:Nat.blt d n=true:=by rfl): WD P n ops Q ((0,⟨some d,.build t parts,ty,pos,aft,none⟩)::drest) al w :=
 dy (λw' _ a i=>Jsr hb hx hp i (some d) w') hd kk
end
theorem Gm(hs:s<4294967296): (bits .and .u32 ((s / 2^v:Nat):Int) 1 == 1)=s.testBit v:=by
 have i:s / 2^v<4294967296:=Nat.lt_of_le_of_lt (Nat.div_le_self _ _) hs;have j:=u32_and_nat (s / 2^v) 1 i om;grind
theorem Qwq(hs:s<4294967296): (bits .and .u32 ((s / 2^v:Nat):Int) 1 == 0) = !s.testBit v:=by
 have i:s / 2^v<4294967296:=Nat.lt_of_le_of_lt (Nat.div_le_self _ _) hs;have j:=u32_and_nat (s / 2^v) 1 i om;grind
def Kk(s t:Nat): Nat:=s &&& (4294967295-t)
theorem Qvl(hs:s<4294967296): Kk s t<4294967296:=by grind [Kk,Nat.lt_of_le_of_lt,Nat.and_le_left]
theorem Jmv(hs:s<4294967296)(ht:t<4294967296): (Kk s t).testBit i=(s.testBit i && !t.testBit i):=by
 unfold Kk;have e:4294967295-t=2^32-(t+1):=om
 rw[Nat.testBit_and,e,Nat.testBit_two_pow_sub_succ om];by_cases hi:i<32
 .grind
 have:s.testBit i=false:=Nat.testBit_lt_two_pow (nM hs (Nat.pow_le_pow_right (n:=2) (by decide) (show 32<=i by omega)));rw[this];rfl
theorem Jmg(hs:s<4294967296)(ht:t<4294967296): bits .andNot .u32 (s:Int) (t:Int)=((Kk s t:Nat):Int):=u32_andNot_nat s t hs ht
theorem Jxb(hs:s<4294967296)(ht:t<4294967296): bits .or .u32 (s:Int) (t:Int)=((s ||| t:Nat):Int):=u32_or_nat s t hs ht
theorem Jbg(hs:s<4294967296)(ht:t<4294967296): s ||| t<4294967296:=Nat.or_lt_two_pow (n:=32) hs ht
end Go.Wk
namespace Go.Proofs.YtgobkbeokaaplaaGreatDoor
open Go.RowKit Pl Go.Wk
attribute [local irreducible] WC WL QX WD WDB WP WN WG
variable {cs vars:List Nat}{b base c d k n s ty z:Nat}{w:World}
def Qu(vars:List Nat)(s:Nat): List Nat:=(List.range vars.length).filter λi=>s.testBit (vars.getD i 0)
def inS(vars:List Nat)(s:Nat): List Nat:=vars.filter λv=>s.testBit v
theorem Jkb(h:c∈Qu vars s): c<vars.length:=List.mem_range.1 (List.mem_filter.1 h).1
theorem Qhv(h:k<=n): (List.range n).take k=List.range k:=by grind
def Zk(vars:List Nat)(s k:Nat): List Nat:=(List.range k).filter λi=>s.testBit (vars.getD i 0)
theorem Ke(vars:List Nat)(s k:Nat): Zk vars s (k+1)=Zk vars s k++if s.testBit (vars.getD k 0) then[k] else[]:=by grind [Zk,List.range_succ]
theorem Jww(h:k<vars.length): inS (vars.take (k+1)) s=inS (vars.take k) s++if s.testBit (vars.getD k 0) then[vars.getD k 0] else[]:=by grind [inS,Qr,List.filter_cons_of_pos,List.filter_cons_of_neg]
theorem Jvl(vars:List Nat)(s:Nat): ∀ k,k<=vars.length->(Zk vars s k).length=(inS (vars.take k) s).length
 | 0,_=>by simp[Zk,inS]
 | k+1,h=>by
  rw[Ke,Jww om,List.length_append,List.length_append,Jvl vars s k om];split<;>rfl
theorem Jtx(vars:List Nat)(s:Nat)(z:Row): ∀ k,k<=vars.length->pmR (Zk vars s k) (pmR vars z)=pmR (inS (vars.take k) s) z
 | 0,_=>by simp[Zk,inS,pmR]
 | k+1,h=>by
  have ih:=Jtx vars s z k om;rw[Ke,Jww om];unfold pmR at *;grind
theorem bs1Int''(z:Int)(w:World): (Instr.buildSlice 26 1 #[(0,.int .i64 z)]).run Tryz.prog w=.ok (.slice (some ⟨w.heap.size,0,none⟩) 1 1) (w.alloc (.cells [.int .i64 z].toArray 3)):=kr
theorem Qnp(a b:List Nat): nz (a++b)=nz a++nz b:=by simp[nz]
theorem Qsx(a b:List Int): Jp (a++b)=Jp a++Jp b:=by simp[Jp]
abbrev Zh(w:World)(base:Nat)(v:Value)(cs:List Nat): Prop:=w.ownsRow base 3 1 v cs.length (Jp (nz cs))
theorem apI{al:AL}{Q:Exit->Act->World->Prop}{ops:Array Oper}{rest:List Oper}{pos:String}{aft:Array Edge}{x y:Operand}{v:Value}(ho:Zh w base v cs)(hb:Blk w b 3 [.int .i64 (z:Int)])(hm:cs.length<=1100000)(hbase:base<=w.heap.size)(kk:∀ v' w',Zh w' base v' (cs++[z])->w.grownBy w' v.ownBlock->(∀ g,v'.ownBlock=some g->v.ownBlock=some g∨w.heap.size<=g)->WL Tryz.prog n ops Q rest ((d,v')::al) w')(hx:ev al x=some v:=by rfl)(hy:ev al y=some (.slice (some ⟨b,0,none⟩) 1 1):=by rfl)(hd:Nat.blt d n=true:=by rfl):
  WL Tryz.prog n ops Q (⟨some d,.call { callee:=.builtin .append,args:=#[x,y],argTypes:=#[26,26] },ty,pos,aft,none⟩::rest) al w:=by
 refine apb (base:=base) EI ho (hb.rd (n:=1) rfl) (λu j=>by rw[List.mem_singleton.1 j];rfl) (by unfold maxLen;omega) om hbase ?_ hx hy hd;intro v' w' i o hn;refine kk v' w' ?_ o hn;rw[Zh,List.length_append,Qnp,Qsx];exact i
theorem Xwf{t:V3}{rs:List Row}(hA:AtV w t ⟨nz vars,vars.length,rs⟩)(hs:s<4294967296)(hasc:Xv vars)(hlt:∀ v∈vars,v<32)(hlen:∀ r∈rs,r.length=vars.length)(hbig:rs.length<=65536):
  Ret Tryz.prog 170 [.agg t.cells.toArray,.int .u32 (s:Int)] w λu w'=>Ext w w'/\∃ t':V3,u=.tuple #[.agg t'.cells.toArray,.int .i64 0]/\∃ m,Off (λk=>k<w.heap.size) w' (λx=>AtV x t' ⟨nz (inS vars s),(inS vars s).length,m⟩)/\m.length<=65536/\(∀ x∈m,x∈rs.map (pmR (Qu vars s))) /\
   ((rs.length<=12∨Srt [] (rs.map (pmR (Qu vars s))))->IsSet [] (rs.map (pmR (Qu vars s))) m):=by
 obtain⟨t1,t2,t3⟩:=t;obtain⟨⟨D,d,e1,hd,d6,c9⟩,e2,bc⟩:=id hA;simp only at e1 e2;subst e1;subst e2;obtain⟨ps,G,gc,_,c2,_⟩:=id bc;simp only at c2;subst c2;have cz:=Qg vars;have df:=Jvt hasc hlt;refine enE Tryz.func170 Tryz.ntmps170 ?_;refine bxR ?_;intro w1 b bz hb hB;refine Jb Yn ?_;intro w2 br bv dk bl;have bo:=hB.ext bv;have aw:=bz.trans bv;have ai:Rd w 1 D (nz vars).length (Jp (nz vars)):=c9;clear c9 hd d6;have mono:∀ i,1<=i->i<vars.length->vars.getD (i-1) 0<vars.getD i 0:=λi h1 h2=>by
  have:=List.pairwise_iff_getElem.1 hasc (i-1) i om h2 om;simpa [List.getD,List.getElem?_eq_getElem h2,List.getElem?_eq_getElem (show i-1<vars.length by omega)] using this
 have ax:∀ i,i<vars.length->vars.getD i 0<32:=λi hi=>hlt _ (getD_mem' 0 _ hi);refine ρ ?_;refine Qv (fun (i:Nat)=>[(1,.int .u32 (s:Int)),(2,.pointer (some ⟨b,0,none⟩)),(4,.pointer (some ⟨br,0,none⟩)),(6,.int .i64 (i:Int))])
  (λi w'=>1<=i/\i<=1000/\Ext w2 w') (λi=>1000-i) 1 sB ⟨nR _,om,Ext.refl _⟩ ?_
 rintro i w3 ⟨d4,dj,ae⟩;have av:=bo.ext ae;refine ldR (av.at (i:=0) rfl) ?_;refine ciR (λh=>?_) (λh=>?_)
 .have li:i<vars.length:=by have:=oT h;omega
  clear h;have b6:Ext w3 w3.drew:=(Ext.refl w3).drew;have co:=av.ext b6;have aq:=ai.ext ((aw.trans ae).trans b6);refine drR (scq 12 []) ?_;refine Jz (co.at (i:=0) rfl) ?_;refine Jc (i-1) aq om ?_;refine Jz (aq.cell (Xf (show i-1<vars.length by omega))) ?_;refine Jz (co.at (i:=0) rfl) ?_;refine Jc i aq om ?_;refine Jz (aq.cell (Xf li)) ?_;refine ρd ?_;refine cfR ?_ ?_
  .exact dF (by have:=mono i d4 li;omega)
  refine ρ ?_;exact Qw (i+1) sO ⟨om,om,ae.trans b6⟩ om
 clear h;refine ldR (av.at (i:=0) rfl) ?_;refine ρ ?_;refine Qv (fun (i:Nat)=>[(1,.int .u32 (s:Int)),(2,.pointer (some ⟨b,0,none⟩)),(4,.pointer (some ⟨br,0,none⟩)),(36,.slice D (nz vars).length d),(37,.int .i64 ((nz vars).length:Int)),(38,.int .i64 (i:Int))])
  (λi w'=>i<=vars.length/\Ext w3 w') (λi=>vars.length-i) 0 sB ⟨Nat.zero_le _,Ext.refl _⟩ ?_
 rintro i w4 ⟨hi,an⟩;have ad:=(aw.trans ae).trans an;have dc:=av.ext an;refine ciR (λh=>?_) (λh=>?_)
 .have li:i<vars.length:=by have:=oT h;omega
  clear h;have cj:=ai.ext ad;refine ixR i cj om ?_;refine ldR (cj.cell (Xf li)) ?_;refine cfR ?_ ?_
  .exact dF (by have:=ax i li;omega)
  refine ρ ?_;exact Qw (i+1) sO ⟨om,an⟩ om
 have d5:i=vars.length:=by have:=oF h;omega
 clear h hi d5;have a8:Ext w4 w4.drew:=(Ext.refl w4).drew;have b3:=dc.ext a8;refine drR (scq 7 [5]) ?_;refine Jz (b3.at (i:=0) rfl) ?_;refine Qn (cs:=[.int .i64 (vars.length:Int),.slice G ps.length gc]) (b3.sub2 (i:=1) rfl rfl) ?_;refine Jg (Jfw ((hA.ext (ad.trans a8)).rel)) ?_;rintro u w5 ⟨rfl,bb⟩;refine⟨bb,?_⟩;refine ρd ?_;refine cfR ?_ ?_
 .exact Jcl (by rw[cz])
 have ac:=(ad.trans a8).trans bb;have a6:Ext w2 w5:=((ae.trans an).trans a8).trans bb;refine Jb Yn ?_;intro w6 bq ba dl cn;have bn:=(bo.ext a6).ext ba;have bt:=ac.trans ba;have b2:=(bl.ext a6).ext ba;refine ldR (bn.at (i:=0) rfl) ?_;refine ρ ?_;refine Zq (fun (k:Nat) (vv vc:Value)=>[(1,.int .u32 (s:Int)),(2,.pointer (some ⟨b,0,none⟩)),(4,.pointer (some ⟨br,0,none⟩)),(9,.pointer (some ⟨bq,0,none⟩)),(10,vc),(59,.slice D (nz vars).length d),(60,.int .i64 ((nz vars).length:Int)),(61,.int .i64 (k:Int))])
  (λk vv vc w'=>k<=vars.length/\Ext w w'/\Blk w' b 134 [.slice D (nz vars).length d,.int .i64 (vars.length:Int),.slice G ps.length gc]/\Blk w' br 134 [.slice none 0 0,.int .i64 0,.slice none 0 0]/\Blk w' bq 134 [vv,.int .i64 0,.slice none 0 0] /\
   Zh w' w.heap.size vv (inS (vars.take k) s)/\Zh w' w.heap.size vc (Zk vars s k)/\∀ g,vv.ownBlock=some g->vc.ownBlock≠some g) (λk _ _=>vars.length-k) 0 (.slice none 0 0) (.slice none 0 0) sB
  ⟨Nat.zero_le _,bt,bn,b2,cn,Zc _ _ _ _,Zc _ _ _ _,λg e=>(by cases e)⟩ ?_
 clear bn b2 cn;rintro k vv vc w7 ⟨hk,a7,au,a2,a4,a5,ab,ag⟩;refine ciR (λh=>?_) (λh=>?_)
 .have lk:k<vars.length:=by have:=oT h;omega
  clear h;have ch:=ai.ext a7;have ca:=Jvl vars s k om;have di:(inS (vars.take k) s).length<=32:=by
   have:=List.length_filter_le (λv=>s.testBit v) (vars.take k);rw[List.length_take]at this;unfold inS;omega
  refine ixR k ch om ?_;refine ldR (ch.cell (Xf lk)) ?_;refine ρ ?_;refine Iy (s:=s) (v:=vars.getD k 0) (by have:=ax k lk;omega) ?_;refine ciR (λh=>?_) (λh=>?_)
  .rw[Gm hs]at h;refine ldR (a4.at (i:=0) rfl) ?_;refine Qk (bs1Int'' _) ?_;intro w8 b8 j dm db;refine ρ ?_;refine apI (Jk a5 j) db om (a7.trans j).size ?_;intro U w9 ao aa c5;have Z:∀ {w':World} {cs:List Nat} {v:Value},Zh w' w.heap.size v cs->∀ g,v.ownBlock=some g->w.heap.size<=g/\g<w'.heap.size:=λho g C=>by
    obtain⟨_,_,_,_,hf⟩:=Jv ho;exact hf g C
   have am:Ext w w9:=Qh (a7.trans j) aa (λg C=>(Z a5 g C).1);have a3:=(a4.ext j).grown aa ((a4.ext j).ne_own (Jk a5 j) rfl);have ar:=(au.ext j).grown aa ((au.ext j).ne_own (Jk a5 j) rfl);have b1:=(a2.ext j).grown aa ((a2.ext j).ne_own (Jk a5 j) rfl);have bh:Zh w9 w.heap.size vc (Zk vars s k):=Ja (Jk ab j) (GrN.by aa λg C=>C) (λg C e=>ag g e C);have az:∀ g,U.ownBlock=some g->vc.ownBlock≠some g:=λg C e=>by
    rcases c5 g C with h'|h'
    .exact ag g h' e
    have:=(Z ab g e).2;have:=j.size;omega
   have dd:U.oneCell'=true:=by obtain⟨_,_,e,_⟩:=Jv ao;rw[e];rfl
   refine Xk (p:=⟨bq,0,none⟩) (a3.cell 0) (a3.frozen _) ?_ (hv:=dd);have bd:w9.grownBy (w9.setCell ⟨bq,0,none⟩ U) (some bq):=Qfr _;have cm:=a3.set 0 U;have bu:Ext w (w9.setCell ⟨bq,0,none⟩ U):=am.setCell (by simp only;have:=ac.size;omega) _;have c1:Zh (w9.setCell ⟨bq,0,none⟩ U) w.heap.size U (inS (vars.take k) s++[vars.getD k 0]):=Ja ao (GrN.by bd λg C=>C) (λg C e=>by injection e with e;subst e;exact a3.ne_own ao rfl C.symm);have bf:Zh (w9.setCell ⟨bq,0,none⟩ U) w.heap.size vc (Zk vars s k):=Ja bh (GrN.by bd λg C=>C) (λg C e=>by injection e with e;subst e;exact a3.ne_own bh rfl C.symm);have b4:∀ {x:Nat},x<w5.heap.size->x≠bq:=λh e=>by omega
   have da:Blk (w9.setCell ⟨bq,0,none⟩ U) b 134 _:=ar.far (b4 (by have:=bo.lt;have:=a6.size;omega)) _;have ck:Blk (w9.setCell ⟨bq,0,none⟩ U) br 134 _:=b1.far (b4 (by have:=bl.lt;have:=a6.size;omega)) _;generalize w9.setCell ⟨bq,0,none⟩ U=ak at *
   clear a3 ar b1 bh am aa bd ao c5;refine Qk (bs1Int'' _) ?_;intro b5 dn O dh cp;refine ρ ?_;refine apI (Jk bf O) cp om (bu.trans O).size ?_;intro bs a9 cb a1 c6;have af:Ext w a9:=Qh (bu.trans O) a1 (λg C=>(Z bf g C).1);have nb:∀ {g:Nat} {cs:List Value},Blk ak g 134 cs->Blk a9 g 134 cs:=λh=>(h.ext O).grown a1 ((h.ext O).ne_own (Jk bf O) rfl);refine ρ ?_;refine Xj (k+1) U bs sO ⟨om,af,nb da,nb ck,nb cm,?_,?_,λg C e=>?_⟩ om
   .rw[Jww lk,if_pos h];exact Ja (Jk c1 O) (GrN.by a1 λg C=>C) (λg C e=>az g C e)
   .rw[Ke,if_pos h];exact cb
   rcases c6 g e with h'|h'
   .exact az g C h'
   have:=(Z c1 g C).2;have:=O.size;omega
  rw[Gm hs]at h;have hf:¬ s.testBit (vars.getD k 0)=true:=by rw[h];simp
  refine ρ ?_;refine Xj (k+1) vv vc sO ⟨om,a7,au,a2,a4,?_,?_,ag⟩ om
  .rw[Jww lk,if_neg hf,List.append_nil];exact a5
  rw[Ke,if_neg hf,List.append_nil];exact ab
 have d2:k=vars.length:=by have:=oF h;omega
 subst d2;clear h;rw[List.take_length]at a5;have d7:Zk vars s vars.length=Qu vars s:=rfl;rw[d7]at ab;obtain⟨VA,cw,bp,cx,_⟩:=Jv a5;obtain⟨CA,de,cv,d8,_⟩:=Jv ab;have bg:(Qu vars s).length<=32:=by
  have:=List.length_filter_le (λi=>s.testBit (vars.getD i 0)) (List.range vars.length);rw[List.length_range]at this;unfold Qu;omega
 have d3:(inS vars s).length<=32:=by
  have:=List.length_filter_le (λv=>s.testBit v) vars;unfold inS;omega
 refine Jt (cs:=[.int .i64 (vars.length:Int),.slice G ps.length gc]) (au.sub2 (i:=1) rfl rfl) ?_;refine ρ ?_;have ap:IntsV w7 vc (nz (Qu vars s)):=by
  refine⟨CA,de,by rw[Qg];exact cv,by rw[Qg];exact d8,by rw[Qg];omega,?_⟩;rw[Qg];have:=ab;rw[cv]at this;exact Rd.own this
 refine cl (Jtd (cs:=Qu vars s) ((hA.ext a7).rel) ap hlen (λc hc=>Jkb hc) bg hbig) ?_;rintro u w8 ⟨j,rv,rfl,⟨z,RB,rm,rd,rfl⟩,m,c4,d1,d0,c3⟩;refine Jb Gr ?_;intro w9 b9 am d9 ar;refine Qb (cs':=[.int .i64 z,.slice RB rm rd]) ar ?_ Ya;intro ak cq dg bw;have J:Ext w8 ak:=bw w8 am d9;refine Qy cq ?_;have aj:=(a4.ext j).ext J;refine ρ ?_;refine stB (o:=1) (us:=[.int .i64 z,.slice RB rm rd]) aj (by simp) Ya ?_;intro b5 bm ah;refine Qy bm ?_;have ce:w.heap.size<=bq:=by have:=ac.size;omega
 have b7:Ext w b5:=Jcd ((a7.trans j).trans J) ah ce;have cd:br≠bq:=by have:=bl.lt;have:=a6.size;omega
 have bj:Blk b5 br 134 _:=((a2.ext j).ext J).grown ah (λe=>by injection e with e;exact cd e);refine Qb (cs':=[vv,.int .i64 z,.slice RB rm rd]) bj ?_ (λu hu=>by
  simp only[List.mem_cons,List.not_mem_nil,or_false]at hu;rcases hu with rfl|rfl|rfl
  .rw[bp];rfl
  .rfl
  rfl)
 intro a9 bi a1 _;refine ρ ?_;have cc:w.heap.size<=br:=by have:=bz.size;omega
 have af:Ext w a9:=Jcd b7 a1 cc;refine Vv bi ⟨af,(vv,.int .i64 z,.slice RB rm rd),rfl,m,?_,d1,d0,c3⟩;have c7:GrN (λk=>k=bq∨k=br) ak a9:=(GrN.by ah λk e=>.inl (by injection e with e;exact e.symm)).trans (GrN.by a1 λk e=>.inr (by injection e with e;exact e.symm));have cg:bq<w7.heap.size/\br<w7.heap.size:=⟨a4.lt,a2.lt⟩;intro w' c8;have be:GrN (λk=>k<w7.heap.size) w8 w':=((GrN.ext J).trans (c7.mono λk _ hk=>by rcases hk with rfl|rfl;(exact cg.1);exact cg.2)).trans (c8.mono λk _ hk=>nM hk a7.size);obtain⟨rv,cr,cy⟩:=c4 w' be;have ay:(Value.int .i64 z)=.int .i64 ((Qu vars s).length:Int)/\Value.slice RB rm rd=rv:=by
  simp only[Value.agg.injEq,Array.mk.injEq,List.cons.injEq,and_true]at cr;exact cr
 have c0:Zh w' w.heap.size vv (inS vars s):=by
  have h1:=Jk (Jk a5 j) J;have h2:Zh a9 w.heap.size vv (inS vars s):=Ja h1 c7 λg C hk=>by
   rcases hk with rfl|rfl
   .exact aj.ne_own h1 rfl C.symm
   exact((a2.ext j).ext J).ne_own h1 rfl C.symm
  refine Ja h2 c8 λg C hk=>?_;obtain⟨_,_,_,_,hf⟩:=Jv h2;have:=(hf g C).1;omega
 have ca:(Qu vars s).length=(inS vars s).length:=by
  have:=Jvl vars s vars.length (nR _);rw[List.take_length]at this;exact this
 refine⟨⟨VA,cw,by rw[Qg];exact bp,by rw[Qg];exact cx,by rw[Qg];omega,?_⟩,?_,?_⟩
 .rw[Qg];rw[bp]at c0;exact Rd.own c0
 .simp only;rw[<-ca];exact ay.1
 simp only;rw[ay.2];exact cy
open Go.RowKit Pl Go.Wk
variable {nums vars:List Nat}{ls rs:List Row}{ar b s:Nat}{w:World}
def RowG(w:World)(cs:List Value)(z:Row): Prop:=∃ v,cs=[v]/\RowV w v z
theorem RowG.ext{w w':World}{cs:List Value}{z:Row}(h:RowG w cs z)(hx:Ext w w'): RowG w' cs z:=by
 obtain⟨v,e,i⟩:=h;exact⟨v,e,i.ext hx⟩
theorem Jst: ∀(ps:List (List Value×Row)) (w:World),(∀ p∈ps,RowG w p.1 p.2)->∃ qs:List Pr,qs.map (·.2)=ps.map (·.2)/\qs.map (·.1)=Ql ps/\qs.length=ps.length/\∀ q∈qs,RowV w q.1 q.2
 | [],w,_=>⟨[],rfl,rfl,rfl,λq hq=>by cases hq⟩
 | p::ps,w,h=>by
  obtain⟨qs,h1,h2,h3,h4⟩:=Jst ps w λq hq=>h q (List.mem_cons_of_mem _ hq);obtain⟨v,e,hr⟩:=h p (mC ..);refine⟨(v,p.2)::qs,by simp[h1],?_,by simp[h3],λq hq=>?_⟩;repeat grind [Ql,List.mem_cons.1]
theorem Qgn{v:Value}(h:GV 1 RowG w v ls): RowsV w v ls:=by
 obtain⟨ps,A,c,e,u,o,j,i,D⟩:=h;obtain⟨C,Z,U,O,J⟩:=Jst ps w λp G=>(D p G).2;rw[<-O]at u o j i;exact⟨C,A,c,by rw[e,Z],u,o,j,by rw[U];exact i,J⟩
def YM(b:Nat)(base:Nat)(l:List Row)(w:World): Prop:=b<base/\∃ v,Blk w b 95 [v]/\OwnG 59 1 RowG w base v l
theorem Qpn(hb:b<s): YZ s (.func (.func 172) #[] #[.pointer (some ⟨b,0,none⟩)]) (λk=>k=b) (YM b):=by
 refine⟨λbase l w w' h hg=>?_,_,_,_,rfl,λbase l w w1 U z C h hx hr hl=>?_⟩
 .obtain⟨o,v,hB,hO⟩:=h;exact⟨o,v,Jy hB hg (λe=>om),hO.gr hg λk hk=>hk.2⟩
 obtain⟨o,v,hB,hO⟩:=h;have J:=hB.ext hx;have D:=hO.ext hx;obtain⟨RA,rn,rc,a6,_,_,_⟩:∃ A n c,U=.slice A n c/\True/\True/\True:=by obtain⟨A,c,e,_⟩:=hr;exact⟨A,_,c,e,trivial,trivial,trivial⟩
 refine enE Tryz.func172 Tryz.ntmps172 ?_;refine ldR (J.at (i:=0) rfl) ?_;refine Qk (cs:=[U]) (λw=>Jvq U w RA rn rc a6) ?_;intro w2 b2 j af ab;obtain⟨_,_,_,_,hf⟩:=D.form;have hΦ:Off (Xq base v) w2 (λu=>RowG u [U] z):=((hr.off.mono λk hk h=>by
  rcases h with h|h
  .omega
  obtain⟨_,_,_,_,a9⟩:=hO.form;exact(a9 k h).2).imp λu h=>⟨U,rfl,h⟩).ext j
 refine ρ ?_;refine apG ER (Φ:=RowG) (D.ext j) ab rfl (λu hu=>by rw[List.mem_singleton.1 hu,a6];rfl) hΦ om om (nL C (hx.trans j).size) ?_;intro Z O a4 a3 ac;obtain⟨A3,c3,e3,ae,ad⟩:=a4.form;have a1:GrN (λk=>k=b∨base<=k) w1 O:=(GrN.ext j).trans (GrN.by a3 λk ek=>.inr (hf k ek).1);have a7:some b≠v.ownBlock:=by
  obtain⟨ps,_,ho,_⟩:=D;exact J.ne_own ho rfl
 have G:Blk O b 95 [v]:=(J.ext j).grown a3 a7;refine Xk (p:=⟨b,0,none⟩) (G.cell 0) (G.frozen _) ?_ (hv:=by rw[e3];rfl);have a5:=G.set 0 Z;have a2:GrN (λk=>k=b) O (O.setCell ⟨b,0,none⟩ Z):=GrN.set _ rfl;refine ρ ?_;have a8:(l++[z]).length=l.length+1:=by simp
 rw[a8]at e3;refine ld (v:=.slice A3 (l.length+1) c3) ((a5.at (i:=0) rfl).trans (by simp[e3])) ?_;refine ρ ?_;have aa:OwnG 59 1 RowG (O.setCell ⟨b,0,none⟩ Z) base Z (l++[z]):=a4.gr a2 λk hk=>by omega
 refine Jj ⟨?_,⟨o,Z,a5,aa⟩,a1.trans (a2.mono λk _ hk=>.inl hk)⟩;rw[decide_eq_true (show((l.length+1:Nat):Int)<=65536 by omega)]
theorem Xkt(z:Int)(A:Option Addr)(n c:Nat)(w:World): (Instr.build 134 #[(1,.agg #[.int .i64 z,.slice A n c])]).run Tryz.prog w=.ok (.agg #[.slice none 0 0,.int .i64 z,.slice A n c]) w:=kr
theorem Qpp{Na:Option Addr}{t:V3}(hA:AtV w t ⟨nz vars,ar,rs⟩)(hB:Blk w b 26 [.slice Na nums.length nums.length])(hN:Rd w 1 Na nums.length (Jp (nz nums)))(hlt:∀ v∈vars,v<nums.length)(hl:vars.length<=1000):
  Ret Tryz.prog 169 [.agg t.cells.toArray,.pointer (some ⟨b,0,none⟩)] w λu w'=>Ext w w'/\∃ v1,u=.agg #[v1,t.2.1,t.2.2]/\Off (λk=>k<w.heap.size) w' (λx=>IntsV x v1 (nz (vars.map λv=>nums.getD v 0))):=by
 obtain⟨t1,t2,t3⟩:=t;obtain⟨⟨D,d,e1,hd,be,an⟩,e2,ae⟩:=id hA;simp only at e1 e2;subst e1;subst e2;obtain⟨ps,G,gc,_,ai,_⟩:=id ae;simp only at ai;subst ai;have bn:=Qg vars;have am:Rd w 1 D (nz vars).length (Jp (nz vars)):=an;clear an hd be;refine enE Tryz.func169 Tryz.ntmps169 ?_;refine bxR ?_;intro w1 b1 ab bt az;refine Jb Yn ?_;intro w2 b2 a5 bs ax;refine Jt (cs:=[.int .i64 (ar:Int),.slice G ps.length gc]) ((az.ext a5).sub2 (i:=1) rfl rfl) ?_;refine Xo (Xkt _ _ _ _ _) ?_;refine Jb Yn ?_;intro w3 b3 b8 bg bl;refine Qb (cs':=[.slice none 0 0,.int .i64 (ar:Int),.slice G ps.length gc]) bl ?_ (λu hu=>by
  simp only[List.mem_cons,List.not_mem_nil,or_false]at hu;rcases hu with rfl|rfl|rfl<;>rfl)
 intro w4 bj bq b7;have a3:Ext w2 w4:=b7 w2 b8 bg;have af:Ext w w4:=(ab.trans a5).trans a3;have ay:=(az.ext a5).ext a3;have aw:=ax.ext a3;refine ldR (ay.at (i:=0) rfl) ?_;refine ρ ?_;refine Jo (fun (k:Nat) (vv:Value)=>[(1,.pointer (some ⟨b,0,none⟩)),(3,.pointer (some ⟨b2,0,none⟩)),(4,.pointer (some ⟨b3,0,none⟩)),(11,.slice D (nz vars).length d),(12,.int .i64 ((nz vars).length:Int)),(13,.int .i64 (k:Int))])
  (λk vv w'=>k<=vars.length/\Ext w w'/\Blk w' b2 134 [.slice none 0 0,.int .i64 0,.slice none 0 0]/\Blk w' b3 134 [vv,.int .i64 (ar:Int),.slice G ps.length gc]/\Zh w' w.heap.size vv ((vars.take k).map λv=>nums.getD v 0)) (λk _=>vars.length-k) 0 (.slice none 0 0) sB
  ⟨Nat.zero_le _,af,aw,bj,Zc _ _ _ _⟩ ?_
 rintro k vv w5 ⟨hk,a1,Z,aa,a2⟩;refine ciR (λh=>?_) (λh=>?_)
 .have lk:k<vars.length:=by have:=oT h;omega
  clear h;have aq:=am.ext a1;have ag:=hlt _ (getD_mem' 0 _ lk);obtain⟨own,J⟩:∃ own,own=vv.ownBlock:=⟨_,rfl⟩;have ak:∀ j,own=some j->w.heap.size<=j:=λj ej=>by
   obtain⟨_,_,_,_,hf⟩:=Jv a2;exact(hf j (by rw[<-J];exact ej)).1
  have bp:((vars.take k).map λv=>nums.getD v 0).length<=1000:=by simp;omega
  refine ixR k aq om ?_;refine ldR (aq.cell (Xf lk)) ?_;refine ρ ?_;refine drN (one own) 8 (scq 10 [6,7,109]) kr ?_;have C:Ext w5 w5.drew:=(Ext.refl w5).drew;have O:=aa.ext C;have bh:=hB.ext (a1.trans C);have ap:=hN.ext (a1.trans C);have a6:=Jk a2 C;have n3:¬ one own b3:=λe=>O.ne_own a6 rfl (by rw[<-J];exact e.symm);have a9:∀ {g:Nat},g<w.heap.size->¬ one own g:=λhg e=>by have:=ak _ e;omega
  refine ρn ?_;refine nld (Js (O.at (i:=0) rfl) n3) ?_;refine ρn ?_;refine nld (Js (bh.at (i:=0) rfl) (a9 hB.lt)) ?_;refine ρn ?_;refine nix (vars.getD k 0) ap ag ?_;refine ρn ?_;refine nld (λw' hg=>(Vs ap hg (λh0 ad e=>a9 (by
   obtain⟨bu,e',aj,_⟩:=hN.2 h0;rw[e]at e';injection e' with e';subst e';exact aj))).cell (Xf ag)) ?_
  refine ρn ?_;refine nop ?_;refine bsl (bs1Int'' _) ?_;intro w6 b6 o br bi;refine ρ ?_;refine Je (GrN.ext o) ?_;refine nop ?_;refine apI (Jk a6 o) bi om (((a1.trans C).trans o).size) ?_;intro a4 w7 ac a7 bo;refine ρ ?_;refine Je (GrN.by a7 λj ej=>by rw[<-J]at ej;exact ej) ?_;refine ρn ?_;refine Xh ?_;have U:=(O.ext o).grown a7 ((O.ext o).ne_own (Jk a6 o) rfl);have au:=((Z.ext C).ext o).grown a7 (((Z.ext C).ext o).ne_own (Jk a6 o) rfl);have b5:Ext w w7:=Qh ((a1.trans C).trans o) a7 (λj ej=>ak j (by rw[J];exact ej));have bm:a4.oneCell'=true:=by obtain⟨_,_,e,_⟩:=Jv ac;rw[e];rfl
  refine sto (p:=⟨b3,0,none⟩) (U.cell 0) (U.frozen _) ?_ (hv:=bm);have bc:GrN (λk=>k=b3) w7 (w7.setCell ⟨b3,0,none⟩ a4):=GrN.set _ rfl;have bf:w.heap.size<=b3:=by have:=(ab.trans a5).size;omega
  refine ω5 ?_;refine Gy ?_;refine ρn ?_;refine ρ ?_;refine Jl (k+1) a4 sO ⟨om,b5.setCell bf _,au.far (by simp only;have:=ax.lt;omega) _,U.set 0 a4,?_⟩ om;rw[Qr 0 lk,List.map_append];exact Ja ac bc (λg eg e=>by subst e;exact U.ne_own ac rfl eg.symm)
 have bb:k=vars.length:=by have:=oF h;omega
 subst bb;clear h;rw[List.take_length]at a2;obtain⟨VA,b4,a8,ah,b9⟩:=Jv a2;rw[List.length_map]at a8 ah;refine Qy aa ?_;refine Qb (cs':=[vv,.int .i64 (ar:Int),.slice G ps.length gc]) Z ?_ (λu hu=>by
  simp only[List.mem_cons,List.not_mem_nil,or_false]at hu;rcases hu with rfl|rfl|rfl
  .rw[a8];rfl
  .rfl
  rfl)
 intro w6 av bd o;refine ρ ?_;have ao:w.heap.size<=b2:=by have:=ab.size;omega
 refine Kx av ⟨o w a1 ao,vv,rfl,?_⟩;have ba:Zh w6 w.heap.size vv (vars.map λv=>nums.getD v 0):=Ja a2 (GrN.by bd λg eg=>eg) (λg eg e=>by injection e with e;subst e;exact Z.ne_own a2 rfl eg.symm);refine(Jxx ba (λg eg hk=>by have:=(b9 g eg).1;omega)).imp λx h=>⟨VA,b4,by rw[Qg,List.length_map];exact a8,by rw[Qg,List.length_map];exact ah,by rw[Qg,List.length_map];omega,?_⟩;rw[a8]at h;rw[Qg,List.length_map];simp only[List.length_map]at h;exact Rd.own h
end Go.Proofs.YtgobkbeokaaplaaGreatDoor
namespace Go.Proofs.YtgobkbeokaaplaaGreatDoor
open Pl Go.Wk
variable {vars vs:List Nat}{k m n s u v:Nat}
def bk(s v:Nat): List Nat:=(List.range v).filter λu=>s.testBit u
theorem bk_mem: u∈bk s v↔u<v/\s.testBit u=true:=by simp[bk]
theorem Gl(s v:Nat): bk s (v+1)=bk s v++if s.testBit v then[v] else[]:=by grind [bk,List.range_succ]
theorem Jqz(s v:Nat): Xv (bk s v):=List.Pairwise.sublist List.filter_sublist List.pairwise_lt_range
theorem Ux(s v:Nat): (bk s v).length<=v:=by
 have:=List.length_filter_le (λu=>s.testBit u) (List.range v);rw[List.length_range]at this;exact this
theorem Qqg(s n:Nat): ∀ u,u<=n->lv (bk s n) u=(bk s u).length
 | 0,_=>by rw[Jwp];rfl
 | u+1,h=>by
  have ih:=Qqg s n u om;rw[Gl,List.length_append,<-ih];by_cases hb:s.testBit u=true
  .rw[if_pos hb,(Yh (Jqz s n) (bk_mem.2 ⟨om,hb⟩)).1];rfl
  rw[if_neg hb,Jqk (λh'=>hb (bk_mem.1 h').2)];rfl
theorem Jgx(ha:Xv vs)(hk:k<vs.length): lv vs (vs.getD k 0)=k:=by
 obtain⟨_,i,j⟩:=Yh ha (getD_mem' 0 vs hk);exact Qjn (Qvj ha) i hk ((Qq 0 vs i).symm.trans (j.trans (Qq 0 vs hk)))
theorem Jkg(hs:s<2^n)(h:s.testBit u=true): u<n:=by grind [Nat.lt_or_ge,Nat.testBit_lt_two_pow,Nat.lt_of_lt_of_le,Nat.pow_le_pow_right]
def Vt(s v:Nat): List Nat:=(List.range 32).map λu=>if u<v/\s.testBit u=true then(bk s u).length else 0
theorem Jzf(s v:Nat): (Vt s v).length=32:=by simp[Vt]
theorem Qnq(hu:u<32)(h:s.testBit u=true): (Vt s 32).getD u 0=lv (bk s 32) u:=by grind [Qqg,Vt,List.getD]
theorem Qjl(hv:v<32): Vt s (v+1)=if s.testBit v then(Vt s v).set v (bk s v).length else Vt s v:=by
 apply List.ext_getElem?
 grind [Jzf,Vt,List.getElem?_range,Nat.lt_or_ge]
def rnm(vars:List Nat)(s:Nat): List Nat:=(inS vars s).map λv=>lv (bk s 32) v
theorem inS_mem: v∈inS vars s↔v∈vars/\s.testBit v=true:=by simp[inS]
theorem Qth(h:Xv vars): Xv (inS vars s):=List.Pairwise.sublist List.filter_sublist h
theorem Qrn(ha:Xv vs)(hu:u∈vs)(h:u<v): lv vs u<lv vs v:=by
 have i:=(Yh ha hu).1;have mono:∀ k,lv vs (u+1)<=lv vs (u+1+k):=by
  intro k;induction k with
  | zero=>exact nR _
  | succ k ih=>
   by_cases h:u+1+k∈vs
   repeat grind [Yh,Nat.add_assoc,Jqk]
 have:=mono (v-(u+1));grind
theorem Qhh(h:Xv vars)(hl:∀ v∈vars,v<32): Xv (rnm vars s):=by
 unfold rnm Xv;rw[List.pairwise_map];refine List.Pairwise.imp_of_mem (fun {u v} hu hv huv=>?_) (Qth (s:=s) h);exact Qrn (Jqz s 32) (bk_mem.2 ⟨hl u (inS_mem.1 hu).1,(inS_mem.1 hu).2⟩) huv
theorem Qhg(hl:∀ v∈vars,v<32)(hk:k∈rnm vars s): k<(bk s 32).length:=by
 obtain⟨v,i,rfl⟩:=List.mem_map.1 hk;obtain⟨o,j⟩:=inS_mem.1 i;exact(Yh (Jqz s 32) (bk_mem.2 ⟨hl v o,j⟩)).2.1
theorem Jsx(vars:List Nat)(s:Nat): (rnm vars s).length=(inS vars s).length:=by simp[rnm]
def Ij(m:Nat)(vars:Nat->List Nat)(rs:Nat->List Row)(s:Nat)(z:Row): Prop:=∀ i,i<m->∃ r∈rs i,∀ j,j<(vars i).length->s.testBit ((vars i).getD j 0)=true->r.getD j V0=z.getD ((vars i).getD j 0) V0
theorem Jlt{vars:List Nat}{s:Nat}{r z:Row}(hr:r.length=vars.length): ∀ k,k<=vars.length->(pmR (Zk vars s k) r=pmR (inS (vars.take k) s) z↔∀ j,j<k->s.testBit (vars.getD j 0)=true->r.getD j V0=z.getD (vars.getD j 0) V0)
 | 0,_=>by simp[Zk,inS,pmR]
 | k+1,h=>by
  have ih:=Jlt (s:=s) (z:=z) hr k om;grind [Jvl,Ke,Jww,pmR,Zk,V0,inS,List.append_inj,Qf]
theorem Qpm{vars:Nat->List Nat}{rs ms:Nat->List Row}(hs:s<2^n)(hn:n<=32)(hlt:∀ i,i<m->∀ v∈vars i,v<n)(hlen:∀ i,i<m->∀ r∈rs i,r.length=(vars i).length)(hms:∀ i,i<m->∀ x,x∈ms i↔x∈(rs i).map (pmR (Qu (vars i) s)))(x:Row):
  Vm (bk s 32).length m (λi=>rnm (vars i) s) ms x↔∃ z:Row,z.length=n/\x=pmR (bk s 32) z/\Ij m vars rs s z:=by
 have key:∀ z:Row,∀ i,i<m->(pmR (rnm (vars i) s) (pmR (bk s 32) z)∈ms i↔∃ r∈rs i,∀ j,j<(vars i).length->s.testBit ((vars i).getD j 0)=true->r.getD j V0=z.getD ((vars i).getD j 0) V0):=λz i hi=>by
  have e:pmR (rnm (vars i) s) (pmR (bk s 32) z)=pmR (inS (vars i) s) z:=by
   unfold rnm pmR;rw[List.map_map];refine List.map_congr_left λv J=>?_;obtain⟨h1,C⟩:=inS_mem.1 J;have G:v∈bk s 32:=bk_mem.2 ⟨by grind,C⟩;obtain⟨_,h4,h5⟩:=Yh (Jqz s 32) G;grind
  rw[e,hms i hi,List.mem_map];have hk:∀ r∈rs i,(pmR (Qu (vars i) s) r=pmR (inS (vars i) s) z↔∀ j,j<(vars i).length->s.testBit ((vars i).getD j 0)=true->r.getD j V0=z.getD ((vars i).getD j 0) V0):=λr Z=>by
   have:=Jlt (s:=s) (z:=z) (hlen i hi r Z) (vars i).length (nR _);rw[List.take_length]at this;exact this
  grind
 constructor
 .rintro⟨hl,hx⟩;let z:Row:=(List.range n).map λu=>x.getD (lv (bk s 32) u) V0
  have o:z.length=n:=by simp[z]
  have D:x=pmR (bk s 32) z:=by
   apply List.ext_getElem
   .rw[Qf];exact hl
   intro k h1 C;rw[Qf]at C;have U:=bk_mem.1 (getD_mem' 0 _ C);have O:=Jkg hs U.2;have h3:=Jtz (z:=z) C;grind [Qq,V0,Qf,bk,lv,List.getD,List.getElem?_range,Jgx,Jqz]
  refine⟨z,o,D,λi hi=>?_⟩;grind
 rintro⟨z,o,rfl,G⟩;exact⟨Qf _ _,λi hi=>(key z i hi).2 (G i hi)⟩
end Go.Proofs.YtgobkbeokaaplaaGreatDoor
namespace Go.Wk
open Go.RowKit
variable {b n t ty:Nat}
theorem Kc{P:Program}{al:AL}{w:World}{Q:Exit->Act->World->Prop}{ops:Array Oper}{rest:List Oper}{pos:String}{aft:Array Edge}{tt:TT}[h:Tab P tt]{x y:Operand}{k:TK}{u v:Value}(hb:Blk w b t [u])(kk:∀ w1,Blk w1 b t [v]->w.grownBy w1 (some b)->(∀ a,Ext a w->a.heap.size<=b->Ext a w1)->WL P n ops Q rest al w1)(hv:v.oneCell'=true)(ht:tk tt t=some k:=by rfl)(hk:k.size=1:=by rfl)(hp:Vd k.desc=true:=by rfl)(hx:ev al x=some (.pointer (some ⟨b,0,none⟩)):=by rfl)(hy:ev al y=some v:=by rfl):
  WL P n ops Q (⟨none,.store t x y,ty,pos,aft,none⟩::rest) al w :=
 Jnl h.ok ht hk hp hx hy hv (hb.cell 0) (hb.frozen 0) (kk _ (hb.set 0 v) ⟨rfl,rfl,rfl,by simp[World.setCell],λk hk hn=>Below.heap_setCell w ⟨b,0,none⟩ v k (λe=>hn (by rw[e]))⟩ λa j i=>j.setCell i v)
end Go.Wk
namespace Go.Proofs.YtgobkbeokaaplaaGreatDoor
open Go.RowKit Pl Go.Wk _root_.Go.Proofs.Tryz
attribute [local irreducible] WC WL QX WD WDB WP WN WG
variable {cs vs:List Nat}{ts ts':List TA}{base c ca n s:Nat}{vars:Nat->List Nat}{ms rs:Nat->List Row}{A Aa:Option Addr}{v:Value}{w:World}
structure MOk(n:Nat)(ts:List TA)(vars:Nat->List Nat)(rs:Nat->List Row)(s:Nat): Prop where
 run:RunOk n ts vars rs
 sb:s<2^n
 valid:∀ i,i<ts.length->∀ r∈rs i,r.all Xg=true
 srtP:∀ i,i<ts.length->(rs i).length<=12∨Srt [] ((rs i).map (pmR (Qu (vars i) s)))
theorem Xwq(h:Xv vs): ascB (nz vs):=λj o i=>by
 rw[Qg]at i;rw[Jgk i,Jgk (show j-1<vs.length by omega)];have:=List.pairwise_iff_getElem.1 h (j-1) j om i om;grind
theorem Jfm(h:RunOk n ts vars rs): Jvn n (ts.map (·.2)):=by
 have J:=h.n32;refine⟨om,om,by rw[List.length_map];exact h.m32,λa G=>?_,λv j=>?_⟩
 .obtain⟨t,ht,rfl⟩:=List.mem_map.1 G;obtain⟨i,hi,e⟩:=List.getElem_of_mem ht;have o:=h.at_ i hi;rw[Qq ta0 ts hi,e]at o;rw[o];refine⟨Xwq (h.asc i hi),λv j=>?_,by simp only;rw[Qg]⟩;obtain⟨u,C,rfl⟩:=List.mem_map.1 j;have:=h.lt i hi u C;omega
 obtain⟨i,hi,D⟩:=h.cov v om;refine⟨(ts.getD i ta0).2,List.mem_map_of_mem (getD_mem' ta0 ts hi),?_⟩;rw[h.at_ i hi];exact List.mem_map.2 ⟨v,D,rfl⟩
def AtG(w:World)(cs:List Value)(a:Atm): Prop:=∃ t:V3,cs=t.cells/\AtV w t a
theorem Qvg: ∀(ps:List (List Value×Atm)) (w:World),(∀ p∈ps,AtG w p.1 p.2)->∃ ts:List TA,ts.map (·.2)=ps.map (·.2)/\atC ts=Ql ps/\ts.length=ps.length/\∀ q∈ts,AtV w q.1 q.2
 | [],w,_=>⟨[],rfl,rfl,rfl,λq hq=>by cases hq⟩
 | p::ps,w,h=>by
  obtain⟨qs,h1,h2,h3,h4⟩:=Qvg ps w λq hq=>h q (List.mem_cons_of_mem _ hq);obtain⟨t,e,hr⟩:=h p (mC ..);refine⟨(t,p.2)::qs,by simp[h1],?_,by simp[h3],λq hq=>?_⟩;repeat grind [Ql,atC,List.mem_cons.1]
theorem Jmq{ats:List Atm}(h:GV 3 AtG w v ats): ∃(ts:List TA) (A:Option Addr) (c:Nat),ats=ts.map (·.2)/\v=.slice A ts.length c/\ts.length<=c/\ts.length<=1100000/\Rd w 3 A ts.length (atC ts)/\∀ p∈ts,AtV w p.1 p.2:=by
 obtain⟨ps,A,c,e,U,O,J,o,i⟩:=h;obtain⟨ts,G,D,C,u⟩:=Qvg ps w λp j=>(i p j).2;grind
theorem EA: ElT prog 31 134 3 56 (.agg #[.slice none 0 0,.int .i64 0,.slice none 0 0]):=⟨underlying31,info_parts kr,rfl,by decide⟩
theorem zInts: Qt prog 26=some (.slice none 0 0):=kr
theorem zRows: Qt prog 95=some (.slice none 0 0):=kr
theorem Jmf(v1 v2 v3:Value)(A B:Option Addr)(n c m d:Nat)(z:Int)(h1:v1=.slice A n c)(h2:v2=.int .i64 z)(h3:v3=.slice B m d)(w:World): (Instr.buildSlice 31 1 #[(0,.agg #[v1,v2,v3])]).run prog w=.ok (.slice (some ⟨w.heap.size,0,none⟩) 1 1) (w.alloc (.cells [v1,v2,v3].toArray 134)):=by
 subst h1;subst h2;subst h3;kernel_rfl
theorem Qwm(A B:Option Addr)(n c m d:Nat)(z:Int)(w:World): (Instr.build 134 #[(0,.slice A n c),(1,.agg #[.int .i64 z,.slice B m d])]).run prog w=.ok (.agg #[.slice A n c,.int .i64 z,.slice B m d]) w:=kr
theorem Ic{z:Int}(h:v.oneCell'=true): ∀ u∈[v,.int .i64 z,.slice A n c],u.oneCell'=true:=λu i=>by
 simp only[List.mem_cons,List.not_mem_nil,or_false]at i;rcases i with rfl|rfl|rfl
 .exact h
 .rfl
 rfl
theorem Qmj(hok:MOk n ts vars rs s)(hl:ts'.length=ts.length)(he:(List.range ts.length).map (λj=>(⟨nz (rnm (vars j) s),(rnm (vars j) s).length,ms j⟩:Atm))=ts'.map (·.2))(hms:∀ j,j<ts.length->IsSet [] ((rs j).map (pmR (Qu (vars j) s))) (ms j)/\(ms j).length<=65536): RunOk (bk s 32).length ts' (λj=>rnm (vars j) s) ms:=by
 have C:=hok.run.n32;have o:∀ i,i<ts.length->∀ v∈vars i,v<32:=λi hi v J=>by have:=hok.run.lt i hi v J;omega
 refine⟨Ux s 32,by rw[hl];exact hok.run.m32,λi hi=>?_,λi hi=>Qhh (hok.run.asc i (hl ▸ hi)) (o i (hl ▸ hi)),λi hi u O=>Qhg (o i (hl ▸ hi)) O,λk D=>?_,λi hi=>(hms i (hl ▸ hi)).1.1,λi hi r U=>?_,λi hi=>(hms i (hl ▸ hi)).2⟩
 .have h1:(ts'.map (·.2))[i]?=some (ts'.getD i ta0).2:=by rw[List.getElem?_map,List.getElem?_eq_getElem hi,Option.map_some,Qq ta0 ts' hi]
  grind
 .obtain⟨h1,G⟩:=bk_mem.1 (getD_mem' 0 _ D);obtain⟨i,hi,Z⟩:=hok.run.cov _ (Jkg hok.sb G);exact⟨i,hl.symm ▸ hi,List.mem_map.2 ⟨_,inS_mem.2 ⟨Z,G⟩,Jgx (Jqz s 32) D⟩⟩
 obtain⟨x,hx,rfl⟩:=List.mem_map.1 (((hms i (hl ▸ hi)).1.2 r).1 U);have:=Jvl (vars i) s (vars i).length (nR _);rw[List.take_length]at this;rw[Qf,Jsx];exact this
theorem Qsg(hok:MOk n ts vars rs s)(hms:∀ j,j<ts.length->IsSet [] ((rs j).map (pmR (Qu (vars j) s))) (ms j)/\(ms j).length<=65536){x:Row}(hx:Vm (bk s 32).length ts.length (λi=>rnm (vars i) s) ms x): x.all Xg=true:=by
 rw[List.all_eq_true];intro y G;obtain⟨k,O,rfl⟩:=List.getElem_of_mem G;have o:k<(bk s 32).length:=by rw[<-hx.1];exact O
 obtain⟨h1,D⟩:=bk_mem.1 (getD_mem' 0 _ o);obtain⟨i,hi,J⟩:=hok.run.cov _ (Jkg hok.sb D);have Z:=hx.2 i hi;obtain⟨r,u,e⟩:=List.mem_map.1 (((hms i hi).1.2 _).1 Z);have C:x.getD k V0∈pmR (rnm (vars i) s) x:=List.mem_map.2 ⟨k,List.mem_map.2 ⟨_,inS_mem.2 ⟨J,D⟩,Jgx (Jqz s 32) o⟩,rfl⟩;rw[<-e]at C;obtain⟨c,U,e2⟩:=List.mem_map.1 C;have h5:=List.all_eq_true.1 (hok.valid i hi r u) (r.getD c V0) (getD_mem' V0 r (by rw[hok.run.len i hi r u];exact Jkb U));grind
theorem Qnr(s:Nat): (madeCells (Value.int .i64 0).cells (32*1)).toList=Jp (nz (Vt s 0)):=by
 have e:(madeCells (Value.int .i64 0).cells (32*1)).toList=List.replicate 32 (Value.int .i64 0):=Yu _ _;have i:Vt s 0=List.replicate 32 0:=by simp[Vt,List.map_const']
 rw[e,i];rfl
theorem Qnn(cs:List Nat)(i x:Nat): Jp (nz (cs.set i x))=(Jp (nz cs)).set i (.int .i64 (x:Int)):=by simp[Jp,nz,List.map_set]
theorem Qxm(h:Zh w base v cs): ∃ A c,v=.slice A cs.length c/\cs.length<=c/\∀ g,v.ownBlock=some g->base<=g/\g<w.heap.size:=Jv h
theorem Qpl(hok:MOk n ts vars rs s)(hR:Rd w 3 Aa ts.length (atC ts))(hle:ts.length<=ca)(hat:∀ p∈ts,AtV w p.1 p.2)(hcap:∀ l:List Row,Lt [] l->(∀ x∈l,∃ z:Row,z.length=n/\x=pmR (bk s 32) z/\Ij ts.length vars rs s z)->l.length<=65536):
  Ret prog 123 [.int .i64 (n:Int),.int .u32 (s:Int),.slice Aa ts.length ca] w λu w'=>Ext w w'/\∃(t':V3) (st:Int) (l:List Row),u=.tuple #[.agg t'.cells.toArray,.int .i64 st,.int .i64 0] /\
   Off (λk=>k<w.heap.size) w' (λx=>AtV x t' ⟨nz (bk s 32),(bk s 32).length,l⟩)/\Lt [] l/\(∀ x,x∈l↔∃ z:Row,z.length=n/\x=pmR (bk s 32) z/\Ij ts.length vars rs s z)/\l.length<=65536:=by
 have b3:=hok.run.n32;have en:=hok.run.m32;have b2:s<4294967296:=nM hok.sb (Nat.pow_le_pow_right (n:=2) (by decide) b3);have a3:∀ i,i<ts.length->∀ v∈vars i,v<32:=λi hi v hv=>by have:=hok.run.lt i hi v hv;omega
 refine enE func123 ntmps123 ?_;refine Jb Yn ?_;intro w1 b6 c0 ee ae;refine clR (Jhc (n:=(n:Int)) (ats:=ts.map (·.2)) ⟨ts,Aa,ca,rfl,rfl,hle,om,hR.ext c0,λp hp=>(hat p hp).ext c0⟩) ?_
 rintro u w2 ⟨cq,e,rfl,he⟩;have e0:=he.2 (Jfm hok.run);subst e0;clear he;refine ρ ?_;refine Iy (s:=s) (v:=n) b3 ?_;rw[Nat.div_eq_of_lt hok.sb];refine ρ ?_;refine mkn EI 32 om (by unfold maxLen;omega) ?_;intro w3 Na cp c6 _;rw[Qnr s]at c6;refine Jb zInts ?_;intro w4 bo e3 dg J;refine ρ ?_;refine Kc J ?_ rfl;intro w5 J f3 e1;have aq:Ext w3 w5:=e1 w3 e3 dg;have bp:=c0.trans cq;have cn:Ext w w5:=(bp.trans cp).trans aq;have d4:w5.ownsRow w.heap.size 3 1 (.slice Na 32 32) 32 (Jp (nz (Vt s 0))):=Jbf (Jk c6 aq) bp.size;have bv:Blk w5 b6 134 [.slice none 0 0,.int .i64 0,.slice none 0 0]:=(ae.ext cq).ext (cp.trans aq);refine ρ ?_;refine Jo (fun (v:Nat) (vv:Value)=>[(0,.int .i64 (n:Int)),(1,.int .u32 (s:Int)),(2,.slice Aa ts.length ca),(6,.pointer (some ⟨b6,0,none⟩)),(10,vv),(11,.pointer (some ⟨bo,0,none⟩)),(37,.int .i64 (v:Int))])
  (λv vv w'=>v<=32/\Ext w w'/\Blk w' b6 134 [.slice none 0 0,.int .i64 0,.slice none 0 0]/\Blk w' bo 26 [.slice Na 32 32]/\w'.ownsRow w.heap.size 3 1 (.slice Na 32 32) 32 (Jp (nz (Vt s v)))/\Zh w' w.heap.size vv (bk s v)/\∀ g,vv.ownBlock=some g->(Value.slice Na 32 32).ownBlock≠some g) (λv _=>32-v) 0 (.slice none 0 0) sB
  ⟨om,cn,bv,J,d4,Zc _ _ _ _,λg e=>(by cases e)⟩ ?_
 clear c6 d4 bv J;rintro v vv w6 ⟨hv,bh,ae,J,ad,az,a7⟩;refine ciR (λh=>?_) (λh=>?_)
 .have lv:v<32:=by have:=oT h;omega
  clear h;have db:=Ux s v;have eo:∀ {w':World},(Vt s v).length=32:=fun {_}=>Jzf s v
  obtain⟨VA,vc,ch,cx,c1⟩:=Qxm az;refine ρ ?_;refine Iy (s:=s) (v:=v) om ?_;refine ciR (λh=>?_) (λh=>?_)
  .rw[Gm b2]at h;subst ch;refine ldR (J.at (i:=0) rfl) ?_;refine ixR v (Rd.own ad) lv ?_;obtain⟨s1,s2,s3,s4,s5⟩:=Zm ad (q:=v) om (.int .i64 ((bk s v).length:Int));refine Xk (s1.trans (Xf (by rw[Jzf];exact lv))) s2 ?_;rw[<-Qnn]at s3;have d2:∀ g,(Value.slice Na 32 32).ownBlock=some g->w.heap.size<=g:=λg eg=>by
    obtain⟨_,_,_,_,hf⟩:=Jv ad;exact(hf g eg).1
   have a1:Ext w (w6.setCell (adr Na v) (.int .i64 ((bk s v).length:Int))):=Qh bh s5 d2;have a2:=ae.grown s5 (ae.ne_own ad rfl);have Z:=J.grown s5 (J.ne_own ad rfl);have ac:Zh (w6.setCell (adr Na v) (.int .i64 ((bk s v).length:Int))) w.heap.size (.slice VA (bk s v).length vc) (bk s v):=Ja az (GrN.by s5 λg eg=>eg) (λg eg e=>a7 g eg e);generalize w6.setCell (adr Na v) (.int .i64 ((bk s v).length:Int))=w7 at *
   clear s1 s2 s4 s5;refine Qk (bs1Int'' _) ?_;intro w8 b8 o f6 eh;refine ρ ?_;refine apI (Jk ac o) eh om (a1.trans o).size ?_;intro dx w9 c2 a4 eb;have am:Ext w w9:=Qh (a1.trans o) a4 (λg eg=>(c1 g eg).1);refine ρ ?_;refine Jl (v+1) dx sO ⟨om,am,(a2.ext o).grown a4 ((a2.ext o).ne_own (Jk ac o) rfl),(Z.ext o).grown a4 ((Z.ext o).ne_own (Jk ac o) rfl),?_,?_,λg eg e=>?_⟩ om
   .rw[Qjl lv,if_pos h];exact Ja (Jk s3 o) (GrN.by a4 λg eg=>eg) (λg eg e=>a7 g e eg)
   .rw[Gl,if_pos h];exact c2
   rcases eb g eg with h'|h'
   .exact a7 g h' e
   obtain⟨_,_,_,_,hf⟩:=Jv s3;have:=(hf g e).2;have:=o.size;omega
  rw[Gm b2]at h;have hf:¬ s.testBit v=true:=by rw[h];simp
  refine ρ ?_;refine Jl (v+1) vv sO ⟨om,bh,ae,J,?_,?_,a7⟩ om
  .rw[Qjl lv,if_neg hf];exact ad
  rw[Gl,if_neg hf,List.append_nil];exact az
 have e5:v=32:=by have:=oF h;omega
 subst e5;clear h a7;obtain⟨VA,vc,ch,cx,c1⟩:=Qxm az;subst ch;have db:=Ux s 32;refine ρ ?_;refine Jxh (fun (i:Nat) (st:Int) (vp:Value) (ms:Nat->List Row)=>[(0,.int .i64 (n:Int)),(1,.int .u32 (s:Int)),(6,.pointer (some ⟨b6,0,none⟩)),(10,.slice VA (bk s 32).length vc),(13,.func (.func 169) #[] #[.pointer (some ⟨bo,0,none⟩)]),(14,.int .i64 st),(15,vp),(56,.slice Aa ts.length ca),(57,.int .i64 (ts.length:Int)),(58,.int .i64 (i:Int))])
  (λi st vp ms w'=>i<=ts.length/\Ext w w'/\w6.heap.size<=w'.heap.size/\Blk w' b6 134 [.slice none 0 0,.int .i64 0,.slice none 0 0]/\Blk w' bo 26 [.slice Na 32 32]/\w'.ownsRow w.heap.size 3 1 (.slice Na 32 32) 32 (Jp (nz (Vt s 32)))/\Zh w' w.heap.size (.slice VA (bk s 32).length vc) (bk s 32) /\
   OwnG 134 3 AtG w' w6.heap.size vp ((List.range i).map λj=>⟨nz (rnm (vars j) s),(rnm (vars j) s).length,ms j⟩)/\∀ j,j<i->IsSet [] ((rs j).map (pmR (Qu (vars j) s))) (ms j)/\(ms j).length<=65536) (λi _ _ _=>ts.length-i) 0 0 (.slice none 0 0) (λ_=>[]) sB
  ⟨Nat.zero_le _,bh,Nat.le_refl _,ae,J,ad,az,OwnG.nil _ _,λj hj=>om⟩ ?_
 rintro i st vp ms w7 ⟨hi,a1,b1,a2,Z,d3,ac,c8,ah⟩;refine ciR (λh=>?_) (λh=>?_)
 .have li:i<ts.length:=by have:=oT h;omega
  have dh:=hR.ext a1;obtain⟨t1,t2,t3,a,hp⟩:∃ t1 t2 t3 a,ts.getD i ta0=((t1,t2,t3),a):=⟨_,_,_,_,rfl⟩;have dk:AtV w (t1,t2,t3) a:=by have:=hat _ (Jyq rfl li);rw[hp]at this;exact this
  have ea:a=⟨nz (vars i),(vars i).length,rs i⟩:=by have:=hok.run.at_ i li;rw[hp]at this;exact this
  subst ea;clear h;have h3:∀ u∈[t1,t2,t3],u.oneCell'=true:=dk.one;refine Qs 3 i dh li ?_;refine Jt (cs:=[t1,t2,t3]) (λj u hu=>Jvr dh rfl li (by rw[hp];exact hu)) ?_;refine Jb Yn ?_;intro w8 f8 o df bc;refine Qb (cs':=[t1,t2,t3]) bc ?_ h3;intro w9 bc a4 am;have af:Ext w7 w9:=am w7 o df;refine Qy bc ?_;refine clR (Xwf (t:=(t1,t2,t3)) (dk.ext (a1.trans af)) b2 (hok.run.asc i li) (a3 i li) (hok.run.len i li) (hok.run.big i li)) ?_;rintro u ao ⟨a5,⟨p1,p2,p3⟩,rfl,m,a6,d6,d5,ag⟩;have U:=ag (hok.srtP i li);have cg:=a6.here;obtain⟨⟨PA,pc,dv,d1,e6,ez⟩,du,bl⟩:=id cg;simp only at dv du;obtain⟨bg,PG,ap,_,dt,_⟩:=id bl;simp only at dt;have co:=a1.trans af;have e4:=co.trans a5;refine Jb Yn ?_;intro dw f7 ay de ai;refine Qb (cs':=[p1,p2,p3]) ai ?_ cg.one;intro aj ai d9 ax;have C:Ext ao aj:=ax ao ay de;refine ρ ?_;subst dv;subst du;subst dt;refine lds (cs:=[.int .i64 ((inS (vars i) s).length:Int),.slice PG bg.length ap]) (ai.sub2 (i:=1) rfl rfl) ?_
  refine ρ ?_;have bd:=cg.ext C;refine cl (Jwf bd.rel) ?_;rintro u bf ⟨rfl,G⟩;obtain⟨bz,d0⟩:∃ bz:Int,bz=IntKind.i64.wrap (st+(m.length:Int)):=⟨_,rfl⟩;have ce:=ai.ext G;repeat first|refine ω4 ?_|refine ω5 ?_|refine χ1 ?_|refine κ1 ?_|refine κ2 ?_|refine χ2 ?_|refine κ3 ?_|refine ω6 ?_|refine ω7 ?_|refine ω9 ?_|refine κ4 ?_|refine κ7 ?_|refine κ8 ?_|refine χ3 ?_|refine χ4 ?_|refine κ5 ?_|refine κ6 ?_|refine χ5 ?_|refine χ6 ?_|refine χ7 ?_|refine ω8 ?_
  rw[<-d0];refine Qy ce ?_;refine ρ ?_;have O:Ext w7 bf:=((af.trans a5).trans C).trans G;have aw:=a1.trans O;refine clv (Qpp (Na:=Na) (nums:=Vt s 32) (bd.ext G) ?_ ?_ (λv hv=>?_) ?_) ?_
  .rw[Jzf];exact Z.ext O
  .rw[Jzf];exact Rd.own (Jk d3 O)
  .rw[Jzf];exact a3 i li v (inS_mem.1 hv).1
  .have:=List.length_filter_le (λv=>s.testBit v) (vars i);have h5:=Jvt (hok.run.asc i li) (a3 i li);unfold inS;omega
  rintro u an ⟨av,v1,rfl,c3⟩;have cy:=c3.here;obtain⟨QA,qc,dn,ey,ex,ew⟩:=cy;refine Qk (Jmf v1 _ _ QA PG _ qc _ ap _ dn rfl rfl) ?_;intro bw f9 au er dj;have ej:(inS (vars i) s).map (λv=>(Vt s 32).getD v 0)=rnm (vars i) s:=by
   unfold rnm;refine List.map_congr_left λv hv=>?_;obtain⟨h5,h6⟩:=inS_mem.1 hv;exact Qnq (a3 i li v h5) h6
  rw[ej]at c3;have D:=(O.trans av).trans au;have b7:=c8.ext D;obtain⟨_,_,_,_,c7⟩:=c8.form;have c5:∀ k,Xq w6.heap.size vp k->k<w7.heap.size:=λk hk=>by
   rcases hk with hk|hk
   .exact nM hk b1
   exact(c7 k hk).2
  have hΦ:Off (Xq w6.heap.size vp) bw (λu=>AtG u [v1,.int .i64 ((inS (vars i) s).length:Int),.slice PG bg.length ap] ⟨nz (rnm (vars i) s),(rnm (vars i) s).length,m⟩):=by
   have h5:Off (λk=>k<w7.heap.size) bw (λu=>IntsV u v1 (nz (rnm (vars i) s))):=(c3.mono λk _ hk=>nM hk O.size).ext au;have h6:Off (λk=>k<w7.heap.size) bw (λu=>AtV u (.slice PA (nz (inS (vars i) s)).length pc,.int .i64 ((inS (vars i) s).length:Int),.slice PG bg.length ap) ⟨nz (inS (vars i) s),(inS (vars i) s).length,m⟩) :=
    (a6.mono λk _ hk=>nM hk af.size).ext (((C.trans G).trans av).trans au)
   refine((h5.and h6).imp λu h=>⟨(v1,.int .i64 ((inS (vars i) s).length:Int),.slice PG bg.length ap),rfl,h.1,?_,h.2.2.2⟩).mono λk _ hk=>c5 k hk;simp only;rw[Jsx]
  refine ρ ?_;refine apG EA (Φ:=AtG) b7 dj rfl (Ic (by rw[dn];rfl)) hΦ (by simp;omega) om (nL b1 D.size) ?_;intro ck be di a9 em;have cr:Ext w be:=Qh (a1.trans D) a9 (λg eg=>nL bh.size (c7 g eg).1);have bm:∀ {g t:Nat} {cs:List Value},Blk w7 g t cs->Nat.beq 134 t=false->Blk be g t cs:=λhB e=>by
   obtain⟨ps,_,ho,_⟩:=b7;exact(hB.ext D).grown a9 ((hB.ext D).ne_own ho e)
  have c9:Blk be b6 134 [.slice none 0 0,.int .i64 0,.slice none 0 0]:=by
   exact(a2.ext D).grown a9 λe=>by have:=(c7 b6 e.symm).1;have:=ae.lt;omega
  have br:∀ {m':Nat} {v:Value} {xs:List Value},w7.ownsRow w.heap.size 3 1 v m' xs->be.ownsRow w.heap.size 3 1 v m' xs:=λho=>by
   obtain⟨ps,_,e9,_⟩:=b7;exact Zn (Jk ho D) e9 a9 rfl
  refine ρ ?_;refine Kf (i+1) bz ck (upd ms i m) sO ⟨om,cr,Nat.le_trans b1 (nL D.size a9.size),c9,bm Z rfl,br d3,br ac,?_,λj hj=>?_⟩ om
  .rw[List.range_succ,List.map_append,List.map_singleton,Ju];have e:(List.range i).map (λj=>(⟨nz (rnm (vars j) s),(rnm (vars j) s).length,upd ms i m j⟩:Atm))=(List.range i).map (λj=>⟨nz (rnm (vars j) s),(rnm (vars j) s).length,ms j⟩):=by
    refine List.map_congr_left λj hj=>?_;have:=List.mem_range.1 hj;rw[Jm _ _ om]
   rw[e];exact di
  by_cases e:j=i
  .subst e;rw[Ju];exact⟨U,d6⟩
  rw[Jm _ _ e];exact ah j om
 have ed:i=ts.length:=by have:=oF h;omega
 subst ed;clear h;refine Jb zRows ?_;intro w8 cj o dd aa;have ef:=c8.ext o;obtain⟨dz,PA,pc,dq,ei,d1,e6,e7,e8⟩:=Jmq (ef.gv (by simp;omega));have c4:dz.length=ts.length:=by
  have:=congrArg List.length dq;simpa using this.symm
 have bt:=Qmj hok c4 dq ah;subst ei;have cm:=a1.trans o;have b5:=Qpm (m:=ts.length) (ms:=ms) hok.sb b3 hok.run.lt hok.run.len (λi hi x=>(ah i hi).1.2 x);refine clR (Xjw (bx':=λk=>k=cj) (Y:=YM cj) bt e7 d1 e8 (Jfm bt) (λk hk=>by subst hk;exact aa.lt) (Qpn aa.lt) (λw' cv=>⟨nM aa.lt cv.size,.slice none 0 0,aa.ext cv,OwnG.nil _ _⟩) ?_) ?_
 .intro l h1 h2;refine hcap l h1 λx hx=>(b5 x).1 ?_;have:=h2 x hx;rw[c4]at this;exact this
 rintro u w9 ⟨a4,eu,base,l,rfl,f4,ep,⟨f5,et,cd,hO⟩,bn,a8⟩;rw[c4]at a8;have cw:w.heap.size<=cj:=nL a1.size dd;have am:Ext w w9:=a4.old cm λk hk=>by subst hk;exact cw
 have b9:=Jy (a2.ext o) a4 (λe=>by have:=a2.lt;omega);have c2:Zh w9 w.heap.size (.slice VA (bk s 32).length vc) (bk s 32):=Ja (Jk ac o) a4 (λg eg e=>by subst e;exact aa.ne_own (Jk ac o) rfl eg.symm);have d7:l.length<=65536:=by
  refine hcap l bn λx hx=>(b5 x).1 ((a8 x).1 hx)
 obtain⟨LA,lc,dl,f2,f0⟩:=hO.form;subst dl;have bi:=Qgn (hO.gv om);refine ldR (cd.at (i:=0) rfl) ?_;refine clR (Jfv (ar:=(bk s 32).length) bi) ?_;rintro u ao ⟨a5,rv,e,rfl,⟨z,RB,rm,rd,rfl⟩,da,bs⟩;have ec:∀ r∈l,r.length=(bk s 32).length/\r.all Xg=true:=λr hr=>⟨((a8 r).1 hr).1,Qsg hok ah ((a8 r).1 hr)⟩;have e0:=da db ec d7;subst e0;obtain⟨_,_,m,a6,d6,d5,ag⟩:=bs rfl;have U:=ag (.inr (Gu bn));have ek:m=l:=Jjv U.1 bn U.2;subst ek;clear ag U da bs d5;refine Jb Gr ?_;intro dw el ay dc bb;refine Qb (cs':=[.int .i64 z,.slice RB rm rd]) bb ?_ Ya;intro aj bb d9 ax;have C:Ext ao aj:=ax ao ay dc;refine ρ ?_;have ab:=a5.trans C;have cc:=b9.ext ab;have bj:=(a6.here).ext C;refine drN (λk=>k=b6) 12 (scq 12 [7,9]) kr ?_;have ak:Ext aj aj.drew:=(Ext.refl aj).drew;have ba:=bb.ext ak;have bu:=cc.ext ak;have bm:¬ (λk=>k=b6) el:=λe=>by
  have h1:=b9.lt;have h2:=a5.size;simp only at e;omega
 refine ρn ?_;refine Xp (cs:=[.int .i64 z,.slice RB rm rd]) (λw' hg j u hu=>(Jy ba hg bm).at hu) ?_;refine ρn ?_;refine Jqh (Qwm _ _ _ _ _ _ _) ?_;refine ρn ?_;refine Xp (cs:=[.int .i64 z,.slice RB rm rd]) (λw' hg j u hu=>(Jy ba hg bm).at hu) ?_;refine ρn ?_;refine nop ?_;refine cl (Jwf (bj.ext ak)) ?_;rintro u bf ⟨rfl,G⟩;refine ρ ?_;refine Je (GrN.ext G) ?_;refine ρn ?_;refine nop ?_;refine stb (cs':=[.slice VA (bk s 32).length vc,.int .i64 z,.slice RB rm rd]) (bu.ext G) ?_ (Ic rfl);intro an cb b4 av;refine ω5 ?_;refine Je (GrN.by b4 λk e=>by injection e with e;exact e.symm) ?_;refine ρn ?_;refine ρ ?_;have aw:Ext w bf:=((am.trans ab).trans ak).trans G;refine Qxx cb ⟨Jcd aw b4 ee,(.slice VA (bk s 32).length vc,.int .i64 z,.slice RB rm rd),_,m,rfl,?_,bn,λx=>(a8 x).trans (b5 x),d7⟩;have d8:GrN (λk=>k=b6) bf an:=GrN.by b4 λk e=>by injection e with e;exact e.symm
 have bq:=Jk c2 ((ab.trans ak).trans G);have cz:Zh an w.heap.size (.slice VA (bk s 32).length vc) (bk s 32):=Ja bq d8 λg eg e=>by subst e;exact(bu.ext G).ne_own bq rfl eg.symm
 have h5:Off (λk=>k<w.heap.size) an (λu=>IntsV u (.slice VA (bk s 32).length vc) (nz (bk s 32))):=by
  refine(Jxx cz λg eg hk=>by have:=(c1 g eg).1;omega).imp λu h=>⟨VA,vc,by rw[Qg],by rw[Qg];exact cx,by rw[Qg];omega,by rw[Qg];exact Rd.own h⟩
 have h6:Off (λk=>k<w.heap.size) an (λu=>RelV u (.agg #[.int .i64 z,.slice RB rm rd]) (bk s 32).length m):=by
  have h7:=a6.ext ((C.trans ak).trans G);have h8:=h7.gr (d8.mono λk _ hk=>by subst hk;exact b9.lt);exact h8.mono λk _ hk=>nM hk am.size
 refine(h5.and h6).imp λu h=>?_;obtain⟨h7,rv,dm,h8⟩:=h;have e2:(Value.int .i64 z)=.int .i64 ((bk s 32).length:Int)/\Value.slice RB rm rd=rv:=by
  simp only[Value.agg.injEq,Array.mk.injEq,List.cons.injEq,and_true]at dm;exact dm
 exact⟨h7,e2.1,by simp only;rw[e2.2];exact h8⟩
end Go.Proofs.YtgobkbeokaaplaaGreatDoor
namespace Go.Wk
open Go.RowKit
variable {p:Addr}{z:Int}{kd:IntKind}{cs cs' xs:List Value}{b e g m t:Nat}{i x y:Operand}{k k2:TK}{v:Value}
section
variable {N:Nat->Prop} {P:Program} {n:Nat} {al:AL} {w:World} {Q:Exit->Act->World->Prop} {ops:Array Oper} {rest:List Oper} {drest:List (Nat×Oper)}
variable {d ty:Nat} {pos:String} {aft:Array Edge} {tt:TT}
theorem Jks(hT:TOk P tt)(ht:tk tt t=some k)(hk:k.desc=.array m e)(w:World): (isAgg t).run P w=.ok true w/\Vx P t=some k.size/\P.underlying t=some (.array m e)/\Vx P e=some k.esz:=by
 have:=hT.at ht;unfold Ul at this;rw[hk]at this;exact⟨by simp[isAgg,run_underlying this.1],this.2.2,this.1,this.2.1⟩
theorem Jsn(hT:TOk P tt)(ht:tk tt t=some k)(hk:k.desc=.array m e)(hl:k.size=cs.length)(hc:∀ j u,cs[j]?=some u->w.cell? (p.add j)=some u): (loadVar t p).run P w=.ok (.agg cs.toArray) w:=by
 have i:=run_loadCells_list (P:=P) w p cs hc;rw[<-hl]at i;simp[loadVar,(Jks hT ht hk w).1,Yz w (Jks hT ht hk w).2.1,i]
theorem lda[h:Tab P tt](hc:∀ j u,cs[j]?=some u->w.cell? (p.add j)=some u)(hl:k.size=cs.length)(kk:WL P n ops Q rest ((d,.agg cs.toArray)::al) w)(ht:tk tt t=some k:=by rfl)(hk:k.desc=.array m e:=by rfl)(hx:ev al x=some (.pointer (some p)):=by rfl)(hd:Nat.blt d n=true:=by rfl): WL P n ops Q (⟨some d,.load t x,ty,pos,aft,none⟩::rest) al w :=
 wop hd (λa i=>by simp[execOp,i.ev hx,Instr.loadAt,Instr.sureAddr,Jsn (w:=w) h.ok ht hk hl hc]) kk
theorem sta[h:Tab P tt](hb:Blk w b t cs)(kk:∀ w1,Blk w1 b t cs'->w.grownBy w1 (some b)->(∀ a,Ext a w->a.heap.size<=b->Ext a w1)->WL P n ops Q rest al w1)(h1:∀ u∈cs',u.oneCell'=true)(hl:cs.length=cs'.length)(hs:k.size=cs'.length)(ht:tk tt t=some k:=by rfl)(hk:k.desc=.array m e:=by rfl)(hx:ev al x=some (.pointer (some ⟨b,0,none⟩)):=by rfl)(hy:ev al y=some (.agg cs'.toArray):=by rfl):
  WL P n ops Q (⟨none,.store t x y,ty,pos,aft,none⟩::rest) al w:=by
 have C:=Jqr w b cs'.toArray;refine Jjk (λa o=>?_) (kk (w.setRow b cs'.toArray) (setRow_heap w b _ _ _ _ hb) C (λa hx o=>Qh hx C (λk hk=>by grind)));have j:=Yz w (Jks h.ok ht hk w).2.1;have i:=run_storeCells_from (P:=P) b t cs' 0 cs.toArray w hb (by simpa using hl.symm) h1;simp only[List.take_zero,List.nil_append]at i;simp[execOp,o.ev hx,o.ev hy,Instr.storeAt,Instr.sureAddr,storeVar,Value.cells,j,hs,i]
theorem Qxz[h:Tab P tt]{fn:Func}{Φ:Value->World->Prop}{c:Nat}(hb:Blk w b t cs)(hs:k.size=cs.length)(hp:Φ (.agg cs.toArray) w)(hr:fn.results = #[.cell c t]:=by rfl)(ht:tk tt t=some k:=by rfl)(hk:k.desc=.array m e:=by rfl)(hc:lk al c=some (.pointer (some ⟨b,0,none⟩)):=by rfl):
  QX n (Vl P fn Φ) .ret al w :=
 Jzx (rs:=[.cell c t]) (vs:=[.agg cs.toArray]) hr ⟨⟨_,hc,Jsn h.ok ht hk hs (λj u i=>hb.at i)⟩,trivial⟩ rfl hp
theorem idx[h:Tab P tt](j:Nat)(hlt:j<m)(hv:cs[j]?=some v)(kk:WL P n ops Q rest ((d,v)::al) w)(ht:tk tt t=some k:=by rfl)(hk:k.desc=.array m e:=by rfl)(h1:k.esz=1:=by rfl)(he:tk tt e=some k2:=by rfl)(hp:Vd k2.desc=true:=by rfl)(hx:ev al x=some (.agg cs.toArray):=by rfl)(hi:ev al i=some (.int kd z):=by rfl)(hj:z=(j:Int):=by first|rfl|omega)(hd:Nat.blt d n=true:=by rfl):
  WL P n ops Q (⟨some d,.index t x i,ty,pos,aft,none⟩::rest) al w :=
 wop hd (λa u=>by
  subst hj;have o:=Jks h.ok ht hk w;have C:=Yz w (h1 ▸ o.2.2.2);have D:=(Jyp h.ok he hp w).1;simp[execOp,u.ev hx,u.ev hi,Instr.index,asIntOf,run_underlying o.2.2.1,hlt,C,part,D,hv]) kk
theorem ixs[h:Tab P tt](j:Nat)(hlt:j<m)(kk:WL P n ops Q rest ((d,.pointer (some (p.add (j*k.esz))))::al) w)(ht:tk tt t=some k:=by rfl)(hk:k.desc=.array m e:=by rfl)(hx:ev al x=some (.pointer (some p)):=by rfl)(hi:ev al i=some (.int kd z):=by rfl)(hj:z=(j:Int):=by first|rfl|omega)(hd:Nat.blt d n=true:=by rfl): WL P n ops Q (⟨some d,.indexAddr t x i,ty,pos,aft,none⟩::rest) al w :=
 wop hd (λa o=>Jfl h.ok j ht hk hlt o hx hi hj (some d) w) kk
theorem dixs[h:Tab P tt](j:Nat)(hlt:j<m)(kk:WD P n ops Q drest ((d,.pointer (some (p.add (j*k.esz))))::al) w)(ht:tk tt t=some k:=by rfl)(hk:k.desc=.array m e:=by rfl)(hx:ev al x=some (.pointer (some p)):=by rfl)(hi:ev al i=some (.int kd z):=by rfl)(hj:z=(j:Int):=by first|rfl|omega)(hd:Nat.blt d n=true:=by rfl): WD P n ops Q ((0,⟨some d,.indexAddr t x i,ty,pos,aft,none⟩)::drest) al w :=
 dy (λw' _ a o=>Jfl h.ok j ht hk hlt o hx hi hj (some d) w') hd kk
theorem adr1(b v:Nat): (⟨b,0,none⟩:Addr).add (v*1)=⟨b,v,none⟩:=by rw[Ym,Nat.mul_one,Nat.zero_add]
theorem ixb[h:Tab P tt](j:Nat)(hlt:j<m)(kk:WL P n ops Q rest ((d,.pointer (some ⟨b,j,none⟩))::al) w)(ht:tk tt t=some k:=by rfl)(hk:k.desc=.array m e:=by rfl)(h1:k.esz=1:=by rfl)(hx:ev al x=some (.pointer (some ⟨b,0,none⟩)):=by rfl)(hi:ev al i=some (.int kd z):=by rfl)(hj:z=(j:Int):=by first|rfl|omega)(hd:Nat.blt d n=true:=by rfl): WL P n ops Q (⟨some d,.indexAddr t x i,ty,pos,aft,none⟩::rest) al w:=by
 rw[<-adr1 b j,<-h1]at kk;exact ixs j hlt kk ht hk hx hi hj hd
theorem dixb[h:Tab P tt](j:Nat)(hlt:j<m)(kk:WD P n ops Q drest ((d,.pointer (some ⟨b,j,none⟩))::al) w)(ht:tk tt t=some k:=by rfl)(hk:k.desc=.array m e:=by rfl)(h1:k.esz=1:=by rfl)(hx:ev al x=some (.pointer (some ⟨b,0,none⟩)):=by rfl)(hi:ev al i=some (.int kd z):=by rfl)(hj:z=(j:Int):=by first|rfl|omega)(hd:Nat.blt d n=true:=by rfl): WD P n ops Q ((0,⟨some d,.indexAddr t x i,ty,pos,aft,none⟩)::drest) al w:=by
 rw[<-adr1 b j,<-h1]at kk;exact dixs j hlt kk ht hk hx hi hj hd
theorem nixb[h:Tab P tt](j:Nat)(hlt:j<m)(kk:WN N P n ops Q drest ((d,.pointer (some ⟨b,j,none⟩))::al) w)(ht:tk tt t=some k:=by rfl)(hk:k.desc=.array m e:=by rfl)(h1:k.esz=1:=by rfl)(hx:ev al x=some (.pointer (some ⟨b,0,none⟩)):=by rfl)(hi:ev al i=some (.int kd z):=by rfl)(hj:z=(j:Int):=by first|rfl|omega)(hd:Nat.blt d n=true:=by rfl): WN N P n ops Q ((0,⟨some d,.indexAddr t x i,ty,pos,aft,none⟩)::drest) al w:=by
 rw[<-adr1 b j,<-h1]at kk;exact nixa j hlt kk ht hk hx hi hj hd
theorem Blk.atc{w:World}{t:TypeId}(h:Blk w g t cs){i:Nat}(hv:cs[i]?=some v): w.cell? ⟨g,i,none⟩=some v:=by rw[h.cell];exact hv
theorem sla[h:Tab P tt](kk:WL P n ops Q rest ((d,.slice (some p) m m)::al) w)(ht:tk tt t=some k:=by rfl)(hk:k.desc=.array m e:=by rfl)(hx:ev al x=some (.pointer (some p)):=by rfl)(hd:Nat.blt d n=true:=by rfl): WL P n ops Q (⟨some d,.slice t x none none none,ty,pos,aft,none⟩::rest) al w :=
 wop hd (λa o=>by
  have i:=Jks h.ok ht hk w;have j:=Yz w i.2.2.2;simp[execOp,o.ev hx,Instr.sliceAt,run_underlying i.2.2.1,Instr.sureAddr,Instr.sliceBounds,j];grind [add_zero]) kk
theorem cpb{dT sT dl dc sn sc:Nat}{A:Option Addr}[h:Tab P tt](hb:Blk w b t cs)(hr:Rd w 1 A sn xs)(hsn:sn<=dl)(hdl:dl<=cs.length)(h1:∀ u∈xs,u.oneCell'=true)(kk:∀ w1,Blk w1 b t (xs++cs.drop sn)->w.grownBy w1 (some b)->WL P n ops Q rest ((d,.int .i64 (sn:Int))::al) w1)(ht:tk tt dT=some k:=by rfl)(hk:k.desc=.slice e:=by rfl)(hz:k.esz=1:=by rfl)(hx:ev al x=some (.slice (some ⟨b,0,none⟩) dl dc):=by rfl)(hy:ev al y=some (.slice A sn sc):=by rfl)(hd:Nat.blt d n=true:=by rfl):
  WL P n ops Q (⟨some d,.call { callee:=.builtin .copy,args:=#[x,y],argTypes:=#[dT,sT] },ty,pos,aft,none⟩::rest) al w:=by
 have G:xs.length=sn:=by rw[hr.len,Nat.mul_one]
 have J:=Iv h.ok ht hk hz;have C:(P.info? e).map (·.size)=some 1:=J.2
 have O:=Jqr w b (xs++cs.drop sn).toArray;have hB:Blk (w.setRow b (xs++cs.drop sn).toArray) b t (xs++cs.drop sn):=setRow_heap w b _ _ _ _ hb;refine wop (w':=w.setRow b (xs++cs.drop sn).toArray) hd (λa D=>?_) (kk _ hB O);by_cases h0:sn=0
 .subst h0;have:xs=[]:=List.eq_nil_of_length_eq_zero G;subst this;have e0:w.setRow b ([]++cs.drop 0).toArray=w:=by
   have:=setRow_self w b cs.toArray t (0,0) hb;simpa using this
  rw[e0];cases hq:P.info? e with
  | none=>rw[hq]at C;cases C
  | some i=>
   cases A with
   | none=>simp[execOp,resolve,invoke,builtin,D.ev hx,D.ev hy,Builtin.copy_,run_underlying J.1,Builtin.lenOf,Builtin.firstCells,sizeOf,typeInfo,hq,storeCells,goInt]
   | some U=>simp[execOp,resolve,invoke,builtin,D.ev hx,D.ev hy,Builtin.copy_,run_underlying J.1,Builtin.lenOf,Builtin.firstCells,sizeOf,typeInfo,hq,storeCells,goInt,loadCells,loadCellsFrom]
 obtain⟨U,hA,_⟩:=hr.isome om om;subst hA;have o:=run_copy_row P w dT sT ty e b 0 dl dc U sn sc cs.toArray t xs J.1 C hb (by grind) (λj v Z=>hr.cell Z) (by simp;omega) h1;rw[G]at o;have e1:(cs.toArray.toList.take 0++xs++cs.toArray.toList.drop (0+sn)).toArray=(xs++cs.drop sn).toArray:=by simp
 rw[e1]at o;simp[execOp,resolve,invoke,builtin,D.ev hx,D.ev hy,o,goInt]
end
end Go.Wk
namespace Go.Wk
open Go.RowKit
variable {L listed listed':Array Bool}{l:List Oper}{fuel fuel' i id:Nat}{o oi oj:Oper}{w0:World}
section
variable {P:Program} {n:Nat} {al al':AL} {w:World} {Q:Exit->Act->World->Prop} {ops:Array Oper} {T:Nat->Bool}
def Iw(P:Program)(ops:Array Oper)(Q:Exit->Act->World->Prop)(T:Nat->Bool)(i:Nat)(w0:World)(fuel:Nat)(listed:Array Bool): Exit->Act->World->Prop
 | .normal,a,w=>(T i=false->Ext w0 w)/\(Closed ops listed->Vp P ops Q T fuel listed a w)
 | _,_,_=>False
theorem Ks(hx:T i=false->Ext w0 w)(h:WH P n ops Q T fuel listed al w): QX n (Iw P ops Q T i w0 fuel listed) .normal al w:=λa o=>⟨hx,λj=>h j a o⟩
theorem Jdf(ho:ops[i]?=some o)(hc:Closed ops listed)(h:WL P n ops (Iw P ops Q T i w fuel listed) [o] al w): ∀ a,Fr n al a->wpOp P ops (QF Q) i (λa' w'=>(T i=false->Ext w w')/\Vp P ops Q T fuel listed a' w') a w:=λa D=>by
 have j:=h a D;unfold wpList at j;unfold wpOp;simp only[ho];have u:¬ LetsOut (Iw P ops Q T i w fuel listed):=by rintro⟨a,w,h⟩;exact h
 split
 .rename_i hw;simp only[hw,if_true]at j;rcases j with j|⟨_,j⟩
  .left
   refine Oper.wp_mono (K:=wpList P ops (Iw P ops Q T i w fuel listed) []) (λa' w' C=>⟨C.1,C.2 hc⟩) ?_;unfold Oper.wp at j ⊢;grind [Yp,Iw]
  exact absurd j u
 rename_i hw;simp only[hw]at j;exact⟨j.1,j.2 hc⟩
theorem itwo(i j:Nat)(hr:Region.ready .any l.toArray listed=[i,j])(hf:fuel=fuel'+1)(hi:nth l i=some oi)(hj:nth l j=some oj)(h1:WL P n l.toArray (Iw P l.toArray Q T i w fuel' (listed.setIfInBounds i true)) [oi] al w)(h2:WL P n l.toArray (Iw P l.toArray Q T j w fuel' (listed.setIfInBounds j true)) [oj] al w): WH P n l.toArray Q T fuel listed al w:=λC a D=>by
 subst hf;have J:l.toArray[i]?=some oi:=by rw[<-hi,Xb];simp
 have G:l.toArray[j]?=some oj:=by rw[<-hj,Xb];simp
 refine⟨λh0=>(by rw[hr]at h0;cases h0),λk u=>?_⟩;have o:=u;rw[hr]at u;simp only[List.mem_cons,List.not_mem_nil,or_false]at u;rcases u with rfl|rfl
 .exact Jdf J (C.step o) h1 a D
 exact Jdf G (C.step o) h2 a D
theorem Jwt(i:Nat)(hr:Region.ready .any l.toArray listed=[i])(hf:fuel=fuel'+1)(hi:nth l i=some oi)(h1:WL P n l.toArray (Iw P l.toArray Q T i w fuel' (listed.setIfInBounds i true)) [oi] al w): WH P n l.toArray Q T fuel listed al w:=λu a C=>by
 subst hf;have D:l.toArray[i]?=some oi:=by rw[<-hi,Xb];simp
 refine⟨λh0=>(by rw[hr]at h0;cases h0),λk j=>?_⟩;have o:=j;rw[hr]at j;simp only[List.mem_cons,List.not_mem_nil,or_false]at j;subst j;exact Jdf D (u.step o) h1 a C
theorem Ud(i:Nat)(hsel:Region.noSelect l.toArray=true)(hr:((Region.ready .any l.toArray listed).contains i && Region.free .any l.toArray listed i)=true)(hf:fuel=fuel'+1)(hi:nth l i=some oi)(h:WP P n l.toArray (Jjp P l.toArray Q T fuel' (listed.setIfInBounds i true)) [] [oi] al w): WH P n l.toArray Q T fuel listed al w:=λo a D=>by
 subst hf;simp only[Bool.and_eq_true]at hr;have j:i∈Region.ready .any l.toArray listed:=by simpa using hr.1
 have u:l.toArray[i]?=some oi:=by rw[<-hi,Xb];simp
 unfold WP at h;obtain⟨v,C,G⟩:=h a D;exact Jyj (λ_ _=>True) (λ_=>trivial) (λ_ _=>trivial) u (Region.noSelect_spec hsel) (λ_ _ _ _ _ _ _ _=>trivial) _ listed a w o (Region.free_spec u hr.2) j C (G (o.step j))
end
section
variable {N:Nat->Prop} {P:Program} {n:Nat} {al al':AL} {w:World} {Q:Exit->Act->World->Prop} {ops:Array Oper}
def Jjg(ops:Array Oper): List (Nat×Nat)->Array Bool->Option (Array Bool)
 | [],listed=>some listed
 | (0,i)::r,listed=>if(Region.ready .any ops listed).contains i && Region.free .any ops listed i then Jjg ops r (listed.setIfInBounds i true) else none
 | (1,i)::r,listed=>if Region.ready .any ops listed == [i] then Jjg ops r (listed.setIfInBounds i true) else none
 | _::_,_=>none
def Jxn(N:Nat->Prop)(P:Program)(ops:Array Oper)(Q:Exit->Act->World->Prop)(fuel:Nat)(listed:Array Bool): Exit->Act->World->Prop
 | .normal,a,w=>Closed ops listed->Ug N P ops Q noT fuel listed a w
 | _,_,_=>False
theorem Xvj{a:Act}{w:World}{K:Act->World->Prop}(h:o.wp P a w K (QF (Jxn N P ops Q fuel listed))): o.wp P a w K (QF Q):=by
 unfold Oper.wp at h ⊢;have i:¬ LetsOut (QF (Jxn N P ops Q fuel listed)):=by rintro⟨a,w,h⟩;exact h
 grind [Yp,QF,Jxn]
theorem Jyg(hsel:Region.noSelect ops=true)(fuel:Nat)(listed':Array Bool): ∀(s:List (Nat×Nat)) (listed:Array Bool) (a:Act) (w:World),Closed ops listed->Jjg ops s listed=some listed'->Zv N P ops (Jxn N P ops Q fuel listed') (Qc ops.toList s) a w->Ug N P ops Q noT (s.length+fuel) listed a w
 | [],listed,a,w,hcl,hB,h=>by
  simp only[Jjg,Option.some.injEq]at hB;subst hB;simp only[List.length_nil,Nat.zero_add];exact h hcl
 | (0,i)::r,listed,a,w,hcl,hB,h=>by
  simp only[Jjg]at hB;split at hB
  .rename_i hc;simp only[Bool.and_eq_true]at hc;have hr':i∈Region.ready .any ops listed:=by simpa using hc.1
   obtain⟨_,oi,ho,_⟩:=mem_ready.1 hr';have hn:nth ops.toList i=some oi:=by grind [Xb]
   simp only[Qc,hn,Zv,Gx]at h;obtain⟨v,hy,h⟩:=h;have e:((0,i)::r).length+fuel=(r.length+fuel)+1:=by simp;omega
   rw[e];exact Jnv (GrN N) (GrN.refl N) (λh k=>GrN.trans h k) ho (Region.noSelect_spec hsel) (λ_ _ _ _ _ _ _ hg=>hg rfl) _ listed a w hcl (Region.free_spec ho hc.2) hr' hy (Jyg hsel fuel listed' r _ _ _ (hcl.step hr') hB h)
  cases hB
 | (1,i)::r,listed,a,w,hcl,hB,h=>by
  simp only[Jjg]at hB;split at hB
  .rename_i hc;have hc':Region.ready .any ops listed=[i]:=by simpa using hc
   have hr':i∈Region.ready .any ops listed:=by grind
   obtain⟨_,oi,ho,_⟩:=mem_ready.1 hr';have hn:nth ops.toList i=some oi:=by grind [Xb]
   simp only[Qc,hn,Zv,Gx]at h;have e:((1,i)::r).length+fuel=(r.length+fuel)+1:=by simp;omega
   rw[e];refine⟨λh0=>(by grind),λj hj=>?_⟩;rw[hc']at hj;obtain rfl:j=i:=by simpa using hj
   have hcl':=hcl.step hr';unfold wpOp;simp only[ho];split
   .rename_i hw;simp only[hw,if_true]at h;exact .inl (Oper.wp_mono (λa' w' h'=>⟨λ_=>h'.1,Jyg hsel fuel listed' r _ _ _ hcl' hB h'.2⟩) (Xvj h))
   rename_i hw;simp only[hw]at h;exact⟨λ_=>GrN.refl N w,Jyg hsel fuel listed' r _ _ _ hcl' hB h⟩
  cases hB
 | (k+2,i)::r,listed,a,w,_,hB,_=>by simp[Jjg]at hB
def WM(N:Nat->Prop)(P:Program)(n:Nat)(ops:Array Oper)(Q:Exit->Act->World->Prop)(fuel:Nat)(listed:Array Bool)(al:AL)(w:World): Prop:=Closed ops listed->∀ a,Fr n al a->Ug N P ops Q noT fuel listed a w
theorem WM.sub{fuel:Nat}{listed:Array Bool}(hs:Sub al' al)(h:WM N P n ops Q fuel listed al' w): WM N P n ops Q fuel listed al w:=λi a j=>h i a (j.sub hs)
theorem drM{tt:TT}[ht:Tab P tt](N:Nat->Prop)(h:WM N P n l.toArray Q l.toArray.size (Array.replicate l.toArray.size false) al w.drew): WC P n (.region id l.toArray true) Q al w:=λa i=>
 wp_region_any ht.mixed (Jdg (N:=N) (T:=noT) _ _ _ _ (h (Qkn _ _) a i))
theorem Gb(s:List (Nat×Nat))(listed':Array Bool)(hsel:Region.noSelect l.toArray=true)(hB:Jjg l.toArray s listed=some listed')(hf:fuel=s.length+fuel')(h:WN N P n l.toArray (Jxn N P l.toArray Q fuel' listed') (Qc l s) al w): WM N P n l.toArray Q fuel listed al w:=λj a i=>by
 subst hf;have o:=h a i;grind [Jyg]
theorem Gc(h:WM N P n ops Q fuel listed al w): QX n (Jxn N P ops Q fuel listed) .normal al w:=λa j i=>h i a j
theorem mend(hr:Region.ready .any ops listed=[])(h:QX n Q .normal al w): WM N P n ops Q 0 listed al w:=λ_ a i=>⟨hr,h a i⟩
def Ik(N:Nat->Prop)(P:Program)(ops:Array Oper)(Q:Exit->Act->World->Prop)(w0:World)(fuel:Nat)(listed:Array Bool): Exit->Act->World->Prop
 | .normal,a,w=>GrN N w0 w/\(Closed ops listed->Ug N P ops Q noT fuel listed a w)
 | _,_,_=>False
theorem Xr(hx:GrN N w0 w)(h:WM N P n ops Q fuel listed al w): QX n (Ik N P ops Q w0 fuel listed) .normal al w:=λa j=>⟨hx,λi=>h i a j⟩
theorem Jdd(ho:ops[i]?=some o)(hc:Closed ops listed)(h:WL P n ops (Ik N P ops Q w fuel listed) [o] al w): ∀ a,Fr n al a->wpOp P ops (QF Q) i (λa' w'=>(noT i=false->GrN N w w')/\Ug N P ops Q noT fuel listed a' w') a w:=λa D=>by
 have j:=h a D;unfold wpList at j;unfold wpOp;simp only[ho];have u:¬ LetsOut (Ik N P ops Q w fuel listed):=by rintro⟨a,w,h⟩;exact h
 split
 .rename_i hw;simp only[hw,if_true]at j;rcases j with j|⟨_,j⟩
  .left
   refine Oper.wp_mono (K:=wpList P ops (Ik N P ops Q w fuel listed) []) (λa' w' C=>⟨λ_=>C.1,C.2 hc⟩) ?_;unfold Oper.wp at j ⊢;grind [Yp,Ik]
  exact absurd j u
 rename_i hw;simp only[hw]at j;exact⟨λ_=>j.1,j.2 hc⟩
theorem Jzk(i j:Nat)(hr:Region.ready .any l.toArray listed=[i,j])(hf:fuel=fuel'+1)(hi:nth l i=some oi)(hj:nth l j=some oj)(h1:WL P n l.toArray (Ik N P l.toArray Q w fuel' (listed.setIfInBounds i true)) [oi] al w)(h2:WL P n l.toArray (Ik N P l.toArray Q w fuel' (listed.setIfInBounds j true)) [oj] al w): WM N P n l.toArray Q fuel listed al w:=λC a D=>by
 subst hf;have J:l.toArray[i]?=some oi:=by rw[<-hi,Xb];simp
 have G:l.toArray[j]?=some oj:=by rw[<-hj,Xb];simp
 refine⟨λh0=>(by rw[hr]at h0;cases h0),λk u=>?_⟩;have o:=u;rw[hr]at u;simp only[List.mem_cons,List.not_mem_nil,or_false]at u;rcases u with rfl|rfl
 .exact Jdd J (C.step o) h1 a D
 exact Jdd G (C.step o) h2 a D
theorem Yg(i:Nat)(hr:Region.ready .any l.toArray listed=[i])(hf:fuel=fuel'+1)(hi:nth l i=some oi)(h1:WL P n l.toArray (Ik N P l.toArray Q w fuel' (listed.setIfInBounds i true)) [oi] al w): WM N P n l.toArray Q fuel listed al w:=λu a C=>by
 subst hf;have D:l.toArray[i]?=some oi:=by rw[<-hi,Xb];simp
 refine⟨λh0=>(by rw[hr]at h0;cases h0),λk j=>?_⟩;have o:=j;rw[hr]at j;simp only[List.mem_cons,List.not_mem_nil,or_false]at j;subst j;exact Jdd D (u.step o) h1 a C
theorem Kp(e:listed=listed')(h:WM N P n ops Q fuel listed' al w): WM N P n ops Q fuel listed al w:=by subst e;exact h
theorem mcut{α:Type}(fuel':Nat)(L':Array Bool)(fr:α->AL)(I:α->World->Prop)(h2:∀ x w,I x w->WM N P n ops Q fuel' L' (fr x) w)(h1:(∀ x al w,I x w->Sub (fr x) al->WM N P n ops Q fuel' L' al w)->WM N P n ops Q fuel L al w): WM N P n ops Q fuel L al w:=h1 λx al w hi i=>(h2 x w hi).sub i
end
end Go.Wk
namespace Go.Wk
open Go.RowKit
variable {d n ty v:Nat}
theorem sl64{P:Program}{al:AL}{w:World}{Q:Exit->Act->World->Prop}{ops:Array Oper}{rest:List Oper}{pos:String}{aft:Array Edge}{y:Operand}{t yt:TypeId}(hv:v<64)(kk:WL P n ops Q rest ((d,.int .u64 ((2^v:Nat):Int))::al) w)(hy:ev al y=some (.int .i64 (v:Int)):=by rfl)(hd:Nat.blt d n=true:=by rfl):
  WL P n ops Q (⟨some d,.binOp .shl t (.const (.int .u64 1)) y yt,ty,pos,aft,none⟩::rest) al w:=by
 have e:IntKind.u64.wrap (1*2^(min ((v:Nat):Int).toNat IntKind.u64.bits))=((2^v:Nat):Int):=by
  have h:2^v<18446744073709551616:=nM (Nat.pow_lt_pow_right (by decide:1<2) hv) (by decide);rw[Int.toNat_natCast,Nat.min_eq_left (by show v<=64;omega),Int.one_mul];have:((2:Int)^v)=((2^v:Nat):Int):=by simp
  rw[this,IntKind.wrap_u64];grind
 rw[<-e]at kk;exact wop hd (λa i=>Jkz (x:=.const (.int .u64 1)) rfl hy om i (some d) w) kk
end Go.Wk
namespace Go.Proofs.YtgobkbeokaaplaaGreatDoor
open Go.RowKit Pl Go.Wk _root_.Go.Proofs.Tryz
attribute [local irreducible] WC WL QX WD WDB WP WN WG
variable {es:List Nat}{c e i n v x:Nat}{A:Option Addr}{w:World}
def Uc(es:List Nat): List Value:=es.map fun (e:Nat)=>Value.int .u32 (e:Int)
theorem Qvw(h:i<es.length): (Uc es)[i]?=some (.int .u32 (es.getD i 0:Int)):=by
 simp[Uc,List.getD,List.getElem?_eq_getElem h]
structure GrV(w:World)(A:Option Addr)(c n:Nat)(es:List Nat): Prop where
 rd:Rd w 1 A es.length (Uc es)
 cap:es.length<=c
 n32:n<=32
 few:es.length<=64
 lt:∀ e∈es,e<2^n
abbrev grC(A:Option Addr)(c n:Nat)(es:List Nat): List Value:=[.int .i64 (n:Int),.slice A es.length c]
theorem GrV.ext{w w':World}{A:Option Addr}{c n:Nat}{es:List Nat}(h:GrV w A c n es)(hx:Ext w w'): GrV w' A c n es:=⟨h.rd.ext hx,h.cap,h.n32,h.few,h.lt⟩
theorem Jxw(h:n<=32): 2^n<=4294967296:=Nat.pow_le_pow_right (n:=2) (by decide) h
theorem GrV.lt32(h:GrV w A c n es)(he:e∈es): e<4294967296:=nM (h.lt e he) (Jxw h.n32)
theorem Qtr(hn:n<=32)(w:World): Ret prog 193 [.int .i64 (n:Int)] w λu w'=>u=.int .u32 ((2^n-1:Nat):Int)/\w'=w:=by
 have j:=Jxw hn;have i:0<2^n:=Nat.two_pow_pos n;refine enE func193 ntmps193 ?_;refine ρ ?_;refine sl64 (v:=n) om ?_;refine ρ ?_;refine Jj ⟨?_,rfl⟩;generalize 2^n=p at *
 congr 1
 rw[IntKind.wrap_u64,IntKind.wrap_u32];omega
theorem Xwv(h:e<2^n)(hn:n<=32): Kk e (2^n-1)=0:=by
 have j:=Jxw hn;have i:0<2^n:=Nat.two_pow_pos n;apply Nat.eq_of_testBit_eq
 grind [Jmv,Nat.testBit_two_pow_sub_one,Nat.testBit_lt_two_pow,Nat.lt_of_lt_of_le,Nat.pow_le_pow_right]
theorem Qxn(h:GrV w A c n es): Ret prog 167 [.agg (grC A c n es).toArray] w λu w'=>u=.int .i64 0/\Ext w w':=by
 have hn:=h.n32;have hf:=h.few;refine enE func167 ntmps167 ?_;refine bxR (cs:=grC A c n es) ?_;intro Z b o hb C;refine ldR (C.at (i:=0) rfl) ?_;refine ldR (C.at (i:=0) rfl) ?_;refine cfR ?_ ?_
 .grind
 refine ldR (C.at (i:=1) rfl) ?_;refine cfR ?_ ?_
 .grind
 refine ldR (C.at (i:=1) rfl) ?_;refine ρ ?_;refine Qv (fun (i:Nat)=>[(1,.pointer (some ⟨b,0,none⟩)),(18,.slice A es.length c),(19,.int .i64 (es.length:Int)),(20,.int .i64 (i:Int))])
  (λi w'=>i<=es.length/\Ext Z w') (λi=>es.length-i) 0 sB ⟨Nat.zero_le _,Ext.refl _⟩ ?_
 rintro i U ⟨hi,j⟩;have G:=C.ext j;have J:=h.ext (o.trans j);refine ciR (λh=>?_) (λh=>?_)
 .have D:i<es.length:=by have:=oT h;omega
  clear h;have O:=getD_mem' 0 es D;refine ixR i J.rd D ?_;refine ldR (J.rd.cell (Qvw D)) ?_;refine ldR (G.at (i:=0) rfl) ?_;refine clR (Qtr hn U) ?_;rintro u w3 ⟨rfl,rfl⟩;have hp:=Jxw hn;have a1:0<2^n:=Nat.two_pow_pos n;refine cfR ?_ ?_
  .rw[Jmg (J.lt32 O) om,Xwv (h.lt _ O) hn];rfl
  refine ρ ?_;exact Qw (i+1) sO ⟨om,j⟩ om
 refine ρ ?_;exact Jj ⟨rfl,o.trans j⟩
def Xn(a:Nat->Nat): List Value:=(List.range 32).map λv=>.int .u32 (a v:Int)
theorem Yr(a:Nat->Nat): (Xn a).length=32:=by simp[Xn]
theorem Ib{a:Nat->Nat}(h:v<32): (Xn a)[v]?=some (.int .u32 (a v:Int)):=by simp[Xn,h]
theorem Jfb(a:Nat->Nat)(h:v<32): (Xn a).set v (.int .u32 (x:Int))=Xn (upd a v x):=by
 apply List.ext_getElem?
 grind [Yr,Ib,Ju,Jm,Xn]
theorem Jfc(a:Nat->Nat): ∀ u∈Xn a,u.oneCell'=true:=λu i=>by obtain⟨e,_,rfl⟩:=List.mem_map.1 i;rfl
theorem Jkk: Qt prog 205=some (.agg (Xn λ_=>0).toArray):=kr
theorem Jng: Qt prog 204=some (.agg (List.replicate 32 (Value.int .i64 0)).toArray):=kr
def AdjP(n:Nat)(es:List Nat)(a:Nat->Nat): Prop:=∀ v,v<32->a v<4294967296/\∀ x,(a v).testBit x=(decide (v<n) && (x != v) && es.any λe=>e.testBit v && e.testBit x)
theorem Jyn: (2^v).testBit x=decide (v=x):=Nat.testBit_two_pow
theorem Qts(h:GrV w A c n es): Ret prog 194 [.agg (grC A c n es).toArray] w λu w'=>Ext w w'/\∃ a,u=.agg (Xn a).toArray/\AdjP n es a:=by
 have hn:=h.n32;have hf:=h.few;refine enE func194 ntmps194 ?_;refine bxR (cs:=grC A c n es) ?_;intro w1 b1 a2 aq ae;refine Jb (cs:=Xn λ_=>0) Jkk ?_;intro w2 b2 Z ap am;refine Jb (cs:=Xn λ_=>0) Jkk ?_;intro w3 b3 a7 aj ak;have an:=(a2.trans Z).trans a7;refine ldR (((ae.ext Z).ext a7).at (i:=1) rfl) ?_;refine ρ ?_;refine Jo (fun (i:Nat) (a:Nat->Nat)=>[(1,.pointer (some ⟨b1,0,none⟩)),(2,.pointer (some ⟨b2,0,none⟩)),(3,.pointer (some ⟨b3,0,none⟩)),(8,.slice A es.length c),(9,.int .i64 (es.length:Int)),(10,.int .i64 (i:Int))])
  (λi a w'=>i<=es.length/\Ext w2 w'/\Blk w' b3 205 (Xn a)/\AdjP n (es.take i) a) (λi _=>es.length-i) 0 (λ_=>0) sB
  ⟨Nat.zero_le _,a7,ak,λv _=>⟨by simp only;omega,λx=>by simp⟩⟩ ?_
 rintro i a w4 ⟨hi,U,a6,ha⟩;have ad:=(ae.ext Z).ext U;have ac:=am.ext U;have h4:=h.ext ((a2.trans Z).trans U);refine ciR (λG=>?_) (λG=>?_)
 .have li:i<es.length:=by have:=oT G;omega
  clear G;have hm:=getD_mem' 0 es li;have C:=h4.lt32 hm;obtain⟨e,he⟩:∃ e,e=es.getD i 0:=⟨_,rfl⟩;refine ixR i h4.rd li ?_;refine ldR (h4.rd.cell (Qvw li)) ?_;rw[<-he]at hm C ⊢;refine ldR (ad.at (i:=0) rfl) ?_;refine ρ ?_;refine Jo (fun (v:Nat) (J:Nat->Nat)=>[(1,.pointer (some ⟨b1,0,none⟩)),(2,.pointer (some ⟨b2,0,none⟩)),(3,.pointer (some ⟨b3,0,none⟩)),(8,.slice A es.length c),(9,.int .i64 (es.length:Int)),(10,.int .i64 (i:Int)),(5,.int .u32 (e:Int)),(15,.int .i64 (n:Int)),(16,.int .i64 (v:Int))])
   (λv J w'=>v<=n/\Ext w2 w'/\Blk w' b3 205 (Xn J)/\∀ u,u<32->J u<4294967296/\∀ x,(J u).testBit x=((a u).testBit x || (decide (u<v) && e.testBit u && e.testBit x && (x != u)))) (λv _=>n-v) 0 a sB
   ⟨Nat.zero_le _,U,a6,λu hu=>⟨(ha u hu).1,λx=>by simp⟩⟩ ?_
  rintro v J w5 ⟨hv,O,a1,a3⟩;refine ciR (λG=>?_) (λG=>?_)
  .have lv:v<n:=by have:=oT G;omega
   have o:v<32:=om
   clear G;have a8:=a3 v o;have af:=Kl o;refine ρ ?_;refine Iy (s:=e) (v:=v) om ?_;refine ciR (λG=>?_) (λG=>?_)
   .rw[Gm C]at G;have a9:Ext w5 w5.drew:=(Ext.refl w5).drew;have D:=a1.ext a9;refine ρ ?_;refine drN (λ_=>False) 10 (scq 10 [109]) kr ?_;refine ρn ?_;refine nixb v o ?_;refine ρn ?_;refine nld (Js (D.atc (Ib o)) (λe=>e)) ?_;refine ρn ?_;refine Jgl o ?_;refine ρn ?_;refine nixb v o ?_;refine ρn ?_;refine Xh ?_;refine sto (p:=⟨b3,v,none⟩) (D.cell v |>.trans (Ib o)) (D.frozen _) ?_;have a4:=Qvl (t:=2^v) C;have ag:bits .or .u32 (J v:Int) (bits .andNot .u32 (e:Int) ((2^v:Nat):Int))=((J v ||| Kk e (2^v):Nat):Int):=by
     rw[Jmg C af,Jxb a8.1 a4]
    rw[ag];have a5:=D.set v (.int .u32 ((J v ||| Kk e (2^v):Nat):Int));rw[Jfb J o]at a5;have aa:w2.heap.size<=b3:=aj;refine ω5 ?_;refine Gy ?_;refine ρn ?_;refine ρ ?_;refine Jl (v+1) (upd J v (J v ||| Kk e (2^v))) sO ⟨om,(O.trans a9).setCell aa _,a5,λu hu=>?_⟩ om;by_cases e1:u=v
    .subst e1;rw[Ju];refine⟨Jbg a8.1 a4,λx=>?_⟩;rw[Nat.testBit_or,Jmv C af,Jyn,a8.2,G,decide_eq_true (Nat.lt_succ_self u),decide_eq_false (Nat.lt_irrefl u)];grind
    repeat grind [Jm]
   rw[Gm C]at G;refine ρ ?_;refine Jl (v+1) J sO ⟨om,O,a1,λu hu=>⟨(a3 u hu).1,λx=>?_⟩⟩ om;grind
  have ah:v=n:=by have:=oF G;omega
  subst ah;clear G;refine ρ ?_;refine Jl (i+1) J sO ⟨om,O,a1,λu hu=>⟨(a3 u hu).1,λx=>?_⟩⟩ om;rw[(a3 u hu).2,(ha u hu).2,Qr 0 li,<-he,List.any_append];grind
 have ai:i=es.length:=by have:=oF G;omega
 subst ai;clear G;rw[List.take_length]at ha;refine ρ ?_;refine lda (cs:=Xn a) (λj u hu=>a6.at hu) (Yr a).symm ?_;refine ρ ?_;refine sta (cs':=Xn a) ac ?_ (Jfc a) (by rw[Yr,Yr]) (Yr a).symm;intro w5 ab ao O;refine ρ ?_;exact Qxz ab (Yr a).symm ⟨O w ((a2.trans Z).trans U) (by have:=a2.size;omega),a,rfl,ha⟩
open Go.RowKit Pl Go.Wk _root_.Go.Proofs.Tryz
variable {es:List Nat}{c f n v:Nat}{A:Option Addr}{w:World}
theorem Qtq(h:GrV w A c n es)(hv:v<n): Ret prog 168 [.agg (grC A c n es).toArray,.int .i64 (v:Int)] w λu w'=>Ext w w'/\∃ a,u=.int .u32 (a v:Int)/\AdjP n es a:=by
 have hn:=h.n32;refine enE func168 ntmps168 ?_;refine bxR (cs:=grC A c n es) ?_;intro w1 b C hb O;refine Jt (cs:=grC A c n es) (λj u J=>O.at J) ?_;refine clR (Qxn (h.ext C)) ?_;rintro u w2 ⟨rfl,o⟩;have D:=O.ext o;refine ldR (D.at (i:=0) rfl) ?_;refine cfR ?_ ?_
 .grind
 refine Jt (cs:=grC A c n es) (λj u J=>D.at J) ?_;refine clR (Qts (h.ext (C.trans o))) ?_;rintro u Z ⟨G,a,rfl,U⟩;refine ρ ?_;refine idx v (show v<32 by omega) (Ib (show v<32 by omega)) ?_;refine ρ ?_;exact Jj ⟨(C.trans o).trans G,a,rfl,U⟩
theorem Xjv(h:GrV w A c n es): Ret prog 122 [.agg (grC A c n es).toArray] w λu w'=>Ext w w'/\∃ a,u=.agg (Xn a).toArray/\AdjP n es a:=by
 have hn:=h.n32;refine enE func122 ntmps122 ?_;refine bxR (cs:=grC A c n es) ?_;intro w1 b1 a3 af a8;refine Jb (cs:=Xn λ_=>0) Jkk ?_;intro w2 b2 Z ae ac;refine Jb (cs:=Xn λ_=>0) Jkk ?_;intro w3 b3 a1 aa ab;refine ldR (((a8.ext Z).ext a1).at (i:=0) rfl) ?_;refine ρ ?_;refine Jo (fun (v:Nat) (a:Nat->Nat)=>[(1,.pointer (some ⟨b1,0,none⟩)),(2,.pointer (some ⟨b2,0,none⟩)),(3,.pointer (some ⟨b3,0,none⟩)),(6,.int .i64 (n:Int)),(7,.int .i64 (v:Int))])
  (λv a w'=>v<=n/\Ext w2 w'/\Blk w' b3 205 (Xn a)/\∀ u,u<32->a u<4294967296/\∀ x,(a u).testBit x=(decide (u<v) && (x != u) && es.any λe=>e.testBit u && e.testBit x)) (λv _=>n-v) 0 (λ_=>0) sB
  ⟨Nat.zero_le _,a1,ab,λu hu=>⟨by simp only;omega,λx=>by simp⟩⟩ ?_
 rintro v a w4 ⟨hv,G,U,ha⟩;have a7:=(a8.ext Z).ext G;have a6:=ac.ext G;have J:=(a3.trans Z).trans G;refine ciR (λhc=>?_) (λhc=>?_)
 .have lv:v<n:=by have:=oT hc;omega
  have o:v<32:=om
  clear hc;refine Jt (cs:=grC A c n es) (λj u hu=>a7.at hu) ?_;refine clR (Qtq (h.ext J) lv) ?_;rintro u w5 ⟨D,a2,rfl,a4⟩;have C:=U.ext D;refine ρ ?_;refine ixb v o ?_;refine Xk (p:=⟨b3,v,none⟩) (C.cell v |>.trans (Ib o)) (C.frozen _) ?_;have O:=C.set v (.int .u32 ((a2 v:Nat):Int));rw[Jfb a o]at O;refine ρ ?_;refine Jl (v+1) (upd a v (a2 v)) sO ⟨om,(G.trans D).setCell aa _,O,λu hu=>?_⟩ om;by_cases e:u=v
  .subst e;rw[Ju,decide_eq_true (Nat.lt_succ_self u)];refine⟨(a4 u hu).1,λx=>?_⟩;rw[(a4 u hu).2,decide_eq_true lv]
  repeat grind [Jm]
 have a9:v=n:=by have:=oF hc;omega
 subst a9;clear hc;refine ρ ?_;refine lda (cs:=Xn a) (λj u hu=>U.at hu) (Yr a).symm ?_;refine ρ ?_;refine sta (cs':=Xn a) a6 ?_ (Jfc a) (by rw[Yr,Yr]) (Yr a).symm;intro w5 a5 ad D;refine ρ ?_;exact Qxz a5 (Yr a).symm ⟨D w J (by have:=a3.size;omega),a,rfl,ha⟩
theorem Xjs(h:GrV w A c n es)(hf:f<=n): Ret prog 121 [.agg (grC A c n es).toArray,.int .i64 (f:Int)] w λu w'=>u=.int .i64 0/\Ext w w':=by
 have hn:=h.n32;refine enE func121 ntmps121 ?_;refine bxR (cs:=grC A c n es) ?_;intro U b C Z G;refine Jt (cs:=grC A c n es) (λj u J=>G.at J) ?_;refine clR (Qxn (h.ext C)) ?_;rintro u O ⟨rfl,o⟩;have D:=G.ext o;refine ldR (D.at (i:=0) rfl) ?_;refine cfR ?_ ?_
 .grind
 refine ρ ?_;exact Jj ⟨rfl,C.trans o⟩
end Go.Proofs.YtgobkbeokaaplaaGreatDoor
namespace Go.Proofs.YtgobkbeokaaplaaGreatDoor
open Pl Go.Wk
variable {es l ord perm:List Nat}{e i j k n u v x:Nat}{f g:Nat->List Value}
def nb0(n:Nat)(es:List Nat)(u x:Nat): Bool:=decide (u<n) && (x != u) && es.any λe=>e.testBit u && e.testBit x
theorem Xwb(he:e<2^n)(h:e.testBit u=true): u<n:=Jkg he h
theorem Jzh(he:∀ e∈es,e<2^n)(h:nb0 n es u x=true): u<n/\x<n/\x≠u:=by
 simp only[nb0,Bool.and_eq_true,decide_eq_true_eq,bne_iff_ne,List.any_eq_true]at h;obtain⟨⟨C,o⟩,e,i,_,j⟩:=h;exact⟨C,Xwb (he e i) j,o⟩
theorem Qjs(he:∀ e∈es,e<2^n): NbInv [] (nb0 n es):=by
 refine⟨λu x _ _=>?_,λu x _ h=>⟨by simp,(Jzh he h).2.2⟩⟩;rw[Bool.eq_iff_iff];have key:∀ u x,nb0 n es u x=true->nb0 n es x u=true:=λu x h=>by
  have i:=Jzh he h;simp only[nb0,Bool.and_eq_true,decide_eq_true_eq,bne_iff_ne,List.any_eq_true]at h ⊢;grind
 grind
theorem Qjm: ∀(k:Nat) {l:List Nat},l.Nodup->(∀ u∈l,u<k)->l.length<=k
 | 0,[],_,_=>nR _
 | 0,u::l,_,h=>absurd (h u (mC ..)) om
 | k+1,l,hn,h=>by
  have h1:=Qjm k (l:=l.filter λu=>u != k) (hn.sublist List.filter_sublist) (λu hu=>by grind);have h2:l.length<=(l.filter λu=>u != k).length+1:=by
   clear h h1;induction l with
   | nil=>simp
   | cons x l ih=>
    grind [List.nodup_cons.1,List.filter_eq_self.2,List.filter_cons_of_neg,List.length_cons,List.filter_cons_of_pos]
  omega
theorem Qjp(hn:l.Nodup)(hlt:∀ u∈l,u<k)(hlen:l.length=k)(hu:u<k): u∈l:=by
 refine Classical.byContradiction λh=>?_;have:=Qjm k (l:=u::l) (List.nodup_cons.2 ⟨h,hn⟩) (λx i=>by grind);grind
def Xd(perm:List Nat)(f:Nat): List Nat:=perm++(List.range f).reverse
structure PermOk(n f:Nat)(perm:List Nat): Prop where
 fn:f<=n
 len:perm.length=n-f
 rng:∀ v∈perm,f<=v/\v<n
 nd:perm.Nodup
theorem PermOk.olen{f:Nat}(h:PermOk n f perm): (Xd perm f).length=n:=by
 have:=h.len;have:=h.fn;simp[Xd];omega
theorem PermOk.ond{f:Nat}(h:PermOk n f perm): (Xd perm f).Nodup:=by
 refine List.nodup_append.2 ⟨h.nd,List.pairwise_reverse.2 (List.nodup_range.imp λh=>h.symm),λu i v j e=>?_⟩;have o:=(h.rng u i).1;grind
theorem PermOk.olt{f:Nat}(h:PermOk n f perm)(hu:u∈Xd perm f): u<n:=by
 rcases List.mem_append.1 hu with h1|h1
 .exact(h.rng u h1).2
 have:=List.mem_range.1 (List.mem_reverse.1 h1);have:=h.fn;omega
theorem PermOk.omem{f:Nat}(h:PermOk n f perm): u∈Xd perm f↔u<n :=
 ⟨h.olt,λi=>Qjp h.ond (λ_=>h.olt) h.olen i⟩
theorem Jgc(hn:ord.Nodup)(hi:i<ord.length): pre ord (ord.getD i 0)=ord.take i:=by grind [Qq,List.drop_eq_getElem_cons,List.take_append_drop,List.nodup_append,List.mem_cons_self,Jgb]
def plc(ord:List Nat)(u:Nat): Nat:=(pre ord u).length
theorem Jqb(hn:ord.Nodup)(hi:i<ord.length): plc ord (ord.getD i 0)=i:=by grind [plc,Jgc,List.length_take]
theorem Gn(hn:ord.Nodup)(hu:u∈ord): plc ord u<ord.length/\ord.getD (plc ord u) 0=u:=by
 obtain⟨i,hi,e⟩:=List.getElem_of_mem hu;have j:=Jqb hn hi;grind
theorem Jhh(hn:ord.Nodup)(hv:v∈ord)(hu:u∈ord): Jvx ord v u↔plc ord v<=plc ord u:=by
 obtain⟨J,G⟩:=Gn hn hv;obtain⟨D,C⟩:=Gn hn hu;have e:pre ord v=ord.take (plc ord v):=by grind [Jgc]
 unfold Jvx;rw[e];constructor
 .grind [Nat.lt_or_ge,plc,List.mem_iff_getElem.2,List.length_take,Qq]
 intro h i;obtain⟨j,o,e⟩:=List.getElem_of_mem i;rw[List.length_take]at o;rw[List.getElem_take]at e;have:=Jqb hn (show j<ord.length by omega);grind
def Qe(n:Nat)(f:Nat->List Value): List Value:=(List.range n).flatMap f
theorem Jqs(n:Nat)(f:Nat->List Value): Qe (n+1) f=Qe n f++f n:=by simp[Qe,List.range_succ,List.flatMap_append]
theorem Jvf{sz:Nat}(h:∀ i,i<n->(f i).length=sz): (Qe n f).length=n*sz:=by
 induction n with
 | zero=>simp[Qe]
 | succ n ih=>rw[Jqs,List.length_append,ih (λi hi=>h i om),h n om,Nat.succ_mul]
theorem Jcg(h:∀ i,i<n->f i=g i): Qe n f=Qe n g:=by
 induction n with
 | zero=>rfl
 | succ n ih=>rw[Jqs,Jqs,ih (λi hi=>h i om),h n om]
theorem Jqt{sz:Nat}(h:∀ i,i<n->(f i).length=sz)(hi:i<n)(hj:j<sz): (Qe n f)[i*sz+j]?=(f i)[j]?:=by
 induction n with
 | zero=>omega
 | succ n ih=>
  have o:=Jvf (n:=n) (λi hi=>h i om);rw[Jqs];grind
theorem Xjf{sz:Nat}(h:∀ i,i<n->(f i).length=sz)(hi:i<n){cs:List Value}(hc:cs.length=sz): (Qe n f).take (i*sz)++cs++(Qe n f).drop (i*sz+sz)=Qe n (upd f i cs):=by
 induction n with
 | zero=>omega
 | succ n ih=>
  have o:=Jvf (n:=n) (λi hi=>h i om);have j:=h n om;rw[Jqs,Jqs];by_cases e:i=n
  .grind [List.take_of_length_le,List.drop_of_length_le,List.length_append,Ju,Jcg,Jm]
  have u:i*sz+sz<=n*sz:=by
   have:(i+1)*sz<=n*sz:=nO _ om;grind
  grind [List.append_assoc,Jm]
open Go.RowKit Pl Go.Wk _root_.Go.Proofs.Tryz
attribute [local irreducible] WC WL QX WD WDB WP WN WG
variable {es perm:List Nat}{v x:Nat}
def Yy(o:Nat->Nat): List Value:=(List.range 32).map λi=>.int .i64 (o i:Int)
theorem Qxg(o:Nat->Nat): (Yy o).length=32:=by simp[Yy]
theorem Ir{o:Nat->Nat}(h:v<32): (Yy o)[v]?=some (.int .i64 (o v:Int)):=by simp[Yy,h]
theorem Qxf(o:Nat->Nat)(h:v<32): (Yy o).set v (.int .i64 (x:Int))=Yy (upd o v x):=by
 apply List.ext_getElem?
 grind [Qxg,Ir,Ju,Jm,Yy]
theorem Qsz(h:perm.length<=32): Jp (nz perm)++(List.replicate 32 (Value.int .i64 0)).drop perm.length=Yy λi=>perm.getD i 0:=by
 have j:(Jp (nz perm)).length=perm.length:=by simp[Jp,nz]
 apply List.ext_getElem?
 grind [List.getElem?_append_left,Xf,Ir,List.getElem?_append_right,List.getD,List.getElem?_eq_none,Nat.le_of_not_lt,Qxg]
def Qp(kf:Nat->Nat)(pf:Nat->Int)(v:Nat): List Value:=[.int .i64 (v:Int),.int .u32 (kf v:Int),.int .i64 (pf v)]
def Jvz(n:Nat)(es ord:List Nat)(kf:Nat->Nat)(pf:Nat->Int): Prop:=∀ v,v<n->kf v<4294967296/\(∀ x,(kf v).testBit x=Vf (nb0 n es) ord v x) /\
 ((pf v = -1/\∀ x,Vf (nb0 n es) ord v x=false)∨∃ p:Nat,pf v=p/\Vf (nb0 n es) ord v p=true/\∀ x,Vf (nb0 n es) ord v x=true->plc ord p<=plc ord x)
theorem EBg: ElT prog 51 208 3 24 (.agg #[.int .i64 0,.int .u32 0,.int .i64 0]):=⟨underlying51,info_parts kr,rfl,by decide⟩
theorem Jkm: Qt prog 208=some (.agg #[.int .i64 0,.int .u32 0,.int .i64 0]):=kr
theorem Xks(v k:Int)(w:World): (Instr.build 208 #[(0,.int .i64 v),(1,.int .u32 k),(2,.int .i64 (-1))]).run prog w=.ok (.agg #[.int .i64 v,.int .u32 k,.int .i64 (-1)]) w:=kr
theorem Jzc{a b c:Int}: ∀ u∈[Value.int .i64 a,.int .u32 b,.int .i64 c],u.oneCell'=true:=λu i=>by
 simp only[List.mem_cons,List.not_mem_nil,or_false]at i;rcases i with rfl|rfl|rfl<;>rfl
theorem Qpr{zs:List Value}(h:0<zs.length)(n:Nat): (madeCells zs.toArray (n*zs.length)).toList=Qe n λ_=>zs:=by
 apply List.ext_getElem?
 intro k;by_cases hk:k<n*zs.length
 .have o:k / zs.length<n:=Nat.div_lt_of_lt_mul (by grind);have i:=Nat.mod_lt k h;have j:=Jqt (n:=n) (sz:=zs.length) (f:=λ_=>zs) (λ_ _=>rfl) o i;rw[Nat.div_add_mod' k zs.length]at j;rw[j];simp only[madeCells,Array.getElem?_toList,Array.getElem?_map,Array.getElem?_range,hk,if_true,Option.map_some];simp[i]
 have u:=Jvf (n:=n) (sz:=zs.length) (f:=λ_=>zs) (λ_ _=>rfl);rw[List.getElem?_eq_none (by simp[madeCells];omega),List.getElem?_eq_none om]
theorem made3(n:Nat): (madeCells (Value.agg #[.int .i64 0,.int .u32 0,.int .i64 0]).cells (n*3)).toList=Qe n λ_=>[.int .i64 0,.int .u32 0,.int .i64 0]:=Qpr (zs:=[.int .i64 0,.int .u32 0,.int .i64 0]) (by simp) n
def Ue(ord:List Nat)(kf:Nat->Nat)(pf:Nat->Int)(j v:Nat): List Value:=if plc ord v<j then Qp kf pf v else[.int .i64 0,.int .u32 0,.int .i64 0]
theorem Xwj(ord:List Nat)(kf:Nat->Nat)(pf:Nat->Int)(j v:Nat): (Ue ord kf pf j v).length=3:=by unfold Ue;split<;>rfl
def BagAt(n:Nat)(es ord:List Nat)(v k:Nat)(p:Int): Prop:=k<4294967296/\(∀ x,k.testBit x=Vf (nb0 n es) ord v x) /\
 ((p = -1/\∀ x,Vf (nb0 n es) ord v x=false)∨∃ q:Nat,p=q/\Vf (nb0 n es) ord v q=true/\∀ x,Vf (nb0 n es) ord v x=true->plc ord q<=plc ord x)
theorem Qzl(x y:Nat): decide (x=y) = !(y != x):=by grind
theorem Xjt{w:World}{A PA:Option Addr}{c pc n f:Nat}(h:GrV w A c n es)(hp:PermOk n f perm)(hP:Rd w 1 PA perm.length (Jp (nz perm))):
  Ret prog 72 [.agg (grC A c n es).toArray,.int .i64 (f:Int),.slice PA perm.length pc] w λu w'=>Ext w w'/\∃ B kf pf,u=.tuple #[.slice B n n,.int .i64 0]/\w'.ownsRow w.heap.size 208 3 (.slice B n n) n (Qe n (Qp kf pf))/\Jvz n es (Xd perm f) kf pf:=by
 have hn:=h.n32;have er:=hp.fn;have f4:=hp.len;refine enE func72 ntmps72 ?_;refine bxR (cs:=grC A c n es) ?_;intro w1 b3 di f7 e3;refine Jt (cs:=grC A c n es) (λj u hu=>e3.at hu) ?_;refine clR (Xjs (h.ext di) er) ?_;rintro u w2 ⟨rfl,de⟩;have bd:=di.trans de;refine ρ ?_;refine Jo (fun (i:Nat) (s:Nat)=>[(1,.int .i64 (f:Int)),(2,.slice PA perm.length pc),(3,.pointer (some ⟨b3,0,none⟩)),(9,.int .u32 (s:Int)),(28,.slice PA perm.length pc),(29,.int .i64 (perm.length:Int)),(30,.int .i64 (i:Int))])
  (λi s w'=>i<=perm.length/\w'=w2/\s<4294967296/\∀ x,s.testBit x=true->x∈perm.take i) (λi _=>perm.length-i) 0 0 sB
  ⟨Nat.zero_le _,rfl,om,λx J=>by simp at J⟩ ?_
 rintro i s w' ⟨hi,rfl,hs,d1⟩;have ae:=e3.ext de;refine ciR (λU=>?_) (λU=>?_)
 .have li:i<perm.length:=by have:=oT U;omega
  clear U;have e1:=hP.ext bd;have hv:=hp.rng _ (getD_mem' 0 perm li);obtain⟨v,ev⟩:∃ v,v=perm.getD i 0:=⟨_,rfl⟩;refine ixR i e1 li ?_;refine ldR (e1.cell (Xf li)) ?_;rw[<-ev]at hv ⊢;refine kfR 37 ?_ ?_
  .exact dF om
  refine ldR (ae.at (i:=0) rfl) ?_;refine kfR 43 ?_ ?_
  .exact dF om
  refine ρ ?_;refine Iy (s:=s) (v:=v) om ?_;have dm:perm.take (i+1)=perm.take i++[v]:=by rw[Qr 0 li,ev]
  have el:v ∉ perm.take i:=λhm=>by
   have G:(perm.take (i+1)).Nodup:=hp.nd.sublist (List.take_sublist _ _);rw[dm,List.nodup_append]at G;exact G.2.2 _ hm _ (List.mem_singleton.2 rfl) rfl
  refine cfR ?_ ?_
  .rw[Gm hs];cases hb:s.testBit v with
   | false=>rfl
   | true=>exact absurd (d1 v hb) el
  have cd:=Kl (show v<32 by omega);refine ρ ?_;refine sl32 (v:=v) om ?_;refine ρ ?_;rw[Jxb hs cd];refine ρ ?_;refine Jl (i+1) (s ||| 2^v) sO ⟨om,rfl,Jbg hs cd,λx J=>?_⟩ om;rw[Nat.testBit_or,Jyn,Bool.or_eq_true,decide_eq_true_eq]at J;rw[dm,List.mem_append,List.mem_singleton];rcases J with J|J
  .exact .inl (d1 x J)
  exact .inr J.symm
 clear U hs d1 hi;refine ldR (ae.at (i:=0) rfl) ?_;refine cfR ?_ ?_
 .exact Jcl om
 refine Jb (cs:=List.replicate 32 (Value.int .i64 0)) Jng ?_;intro w3 a7 bz cv cc;refine Jb (cs:=List.replicate 32 (Value.int .i64 0)) Jng ?_;intro w4 Z ce cr e4;have cb:=cc.ext ce;have db:=(bd.trans bz).trans ce;refine ρ ?_;refine sla ?_;refine ρ ?_;refine cpb (dl:=32) (dc:=32) cb (hP.ext db) om (by simp) (λu hu=>?_) ?_
 .obtain⟨z,_,rfl⟩:=List.mem_map.1 hu;rfl
 intro w5 ca d5;rw[Qsz om]at ca;have d4:Z≠a7:=λe=>by have:=cc.lt;omega
 have d7:Blk w5 Z 204 (Yy λ_=>0):=by
  have G:=e4.grown d5 (λe=>by injection e with e;exact d4 e);exact G
 have e2:Blk w5 b3 151 (grC A c n es):=by
  have G:=(ae.ext (bz.trans ce)).grown d5 (λe=>by injection e with e;have:=ae.lt;omega);exact G
 have c5:w'.heap.size<=a7:=cv;have ec:Ext w' w5:=Jcd (bz.trans ce) d5 c5;obtain⟨ord,aj⟩:∃ ord,ord=Xd perm f:=⟨_,rfl⟩;have c1:ord.length=n:=by rw[aj];exact hp.olen
 have a2:ord.Nodup:=by rw[aj];exact hp.ond
 have b5:∀ {u},u∈ord↔u<n:=fun {u}=>by rw[aj];exact hp.omem
 have co:∀ i,i<n->ord.getD i 0<n:=λi hi=>b5.1 (getD_mem' 0 ord (c1.symm ▸ hi));clear cc cb;refine ρ ?_;refine Jo (fun (k:Nat) (o:Nat->Nat)=>[(1,.int .i64 (f:Int)),(2,.slice PA perm.length pc),(3,.pointer (some ⟨b3,0,none⟩)),(12,.pointer (some ⟨a7,0,none⟩)),(13,.pointer (some ⟨Z,0,none⟩)),(65,.int .i64 (f:Int)),(66,.int .i64 (k:Int))])
  (λk o w6=>k<=f/\Ext w' w6/\Blk w6 b3 151 (grC A c n es)/\Blk w6 a7 204 (Yy o)/\Blk w6 Z 204 (Yy λ_=>0)/\∀ j,j<perm.length+k->o j=ord.getD j 0) (λk _=>f-k) 0 (λi=>perm.getD i 0) sB
  ⟨Nat.zero_le _,ec,e2,ca,d7,λj hj=>?_⟩ ?_
 .rw[aj];simp[Xd,List.getD,List.getElem?_append_left (show j<perm.length by omega)]
 rintro k o w6 ⟨hk,cy,bi,ag,bc,ho⟩;refine ciR (λU=>?_) (λU=>?_)
 .have lk:k<f:=by have:=oT U;omega
  clear U;have d2:perm.length+k<32:=om
  refine ρ ?_;refine ixb (perm.length+k) d2 ?_;refine ρ ?_;have ev:(f:Int)-1-(k:Int)=((f-1-k:Nat):Int):=om
  rw[ev];refine sto (p:=⟨a7,perm.length+k,none⟩) (ag.cell _ |>.trans (Ir d2)) (ag.frozen _) ?_;have O:=ag.set (perm.length+k) (.int .i64 ((f-1-k:Nat):Int));rw[Qxf o d2]at O;refine ρ ?_;refine Jl (k+1) (upd o (perm.length+k) (f-1-k)) sO ⟨om,cy.setCell c5 _,bi.far (by simp only;have:=ae.lt;omega) _,O,bc.far (λe=>d4 e) _,λj hj=>?_⟩ om;by_cases e:j=perm.length+k
  .subst e;rw[Ju,aj];simp only[Xd,List.getD];rw[List.getElem?_append_right om,Nat.add_sub_cancel_left,List.getElem?_reverse (by simp;omega),List.length_range,List.getElem?_range om];rfl
  rw[Jm _ _ e];exact ho j om
 have en:k=f:=by have:=oF U;omega
 subst en;clear U;have ei:perm.length+k=n:=om
 rw[ei]at ho;refine ldR (bi.at (i:=0) rfl) ?_;refine ρ ?_;refine Jo (fun (i:Nat) (q:Nat->Nat)=>[(2,.slice PA perm.length pc),(3,.pointer (some ⟨b3,0,none⟩)),(12,.pointer (some ⟨a7,0,none⟩)),(13,.pointer (some ⟨Z,0,none⟩)),(80,.int .i64 (n:Int)),(81,.int .i64 (i:Int))])
  (λi q w7=>i<=n/\Ext w' w7/\Blk w7 b3 151 (grC A c n es)/\Blk w7 a7 204 (Yy o)/\Blk w7 Z 204 (Yy q)/\∀ u,u<n->plc ord u<i->q u=plc ord u) (λi _=>n-i) 0 (λ_=>0) sB
  ⟨Nat.zero_le _,cy,bi,ag,bc,λu _ hu=>om⟩ ?_
 clear cy bi ag bc;rintro i q w7 ⟨hi,bt,b6,O,a8,hq⟩;refine ciR (λU=>?_) (λU=>?_)
 .have li:i<n:=by have:=oT U;omega
  clear U;have f5:=co i li;have ej:=ho i li;refine ρ ?_;refine ixb i (show i<32 by omega) ?_;refine ldR (O.atc (Ir (show i<32 by omega))) ?_;rw[ej];refine ρ ?_;refine ixb (ord.getD i 0) (show ord.getD i 0<32 by omega) ?_;refine Xk (p:=⟨Z,ord.getD i 0,none⟩) (a8.cell _ |>.trans (Ir (show ord.getD i 0<32 by omega))) (a8.frozen _) ?_;have c9:=a8.set (ord.getD i 0) (.int .i64 (i:Int));rw[Qxf q (show ord.getD i 0<32 by omega)]at c9;have c4:w'.heap.size<=Z:=nL bz.size cr;refine ρ ?_;refine Jl (i+1) (upd q (ord.getD i 0) i) sO ⟨om,bt.setCell c4 _,b6.far (by simp only;have:=ae.lt;omega) _,O.far (λe=>d4 e.symm) _,c9,λu hu em=>?_⟩ om;by_cases e:u=ord.getD i 0
  .rw[e,Ju,Jqb a2 (c1.symm ▸ li)]
  rw[Jm _ _ e];refine hq u hu ?_;have G:=Gn a2 (b5.2 hu);rcases Nat.lt_or_ge (plc ord u) i with h2|h2
  .exact h2
  have:plc ord u=i:=om
  rw[this]at G;exact absurd G.2.symm e
 have ep:i=n:=by have:=oF U;omega
 subst ep;clear U;have dj:∀ u,u<i->q u=plc ord u:=λu hu=>hq u hu (by have:=(Gn a2 (b5.2 hu)).1;omega);have bw:=bd.trans bt;refine Jt (cs:=grC A c i es) (λj u hu=>b6.at hu) ?_;refine clR (Xjv (h.ext bw)) ?_;rintro u w8 ⟨dd,a0,rfl,e0⟩;refine Jb (cs:=Xn λ_=>0) Jkk ?_;intro w9 a3 eb cq b7;refine ρ ?_;refine sta (cs':=Xn a0) b7 ?_ (Jfc a0) (by rw[Yr,Yr]) (Yr a0).symm;intro bs b7 ew dh;have cx:Ext w8 bs:=dh w8 eb cq;have ad:=dd.trans cx;have bb:=b6.ext ad;refine ldR (bb.at (i:=0) rfl) ?_;refine ρ ?_;refine mkn EBg i om (by unfold maxLen;omega) ?_;intro ez B be ar _;rw[made3]at ar;have ac:=ad.trans be;have ba:=bb.ext be;have bp:=O.ext ac;have bn:=a8.ext ac;have bm:=b7.ext be;have ea:=bw.trans ac;refine ldR (ba.at (i:=0) rfl) ?_;have e9:w'.heap.size<=a7:=cv;have f2:Z<w7.heap.size:=a8.lt;have f3:a7<w7.heap.size:=O.lt;have l3:b3<w7.heap.size:=b6.lt
 have f0:w7.heap.size<=a3:=nL dd.size cq;have da:a3<bs.heap.size:=b7.lt;have c4:w'.heap.size<=Z:=nL bz.size cr;have e5:Qe i (λ_=>[Value.int .i64 0,.int .u32 0,.int .i64 0])=Qe i (Ue ord (λ_=>0) (λ_=>0) 0):=Jcg λv _=>by simp[Ue]
 have dv:∀ e∈es,e<2^i:=h.lt;rw[e5]at ar;refine ρ ?_;refine Jxh (fun (j:Nat) (a:Nat->Nat) (kf:Nat->Nat) (pf:Nat->Int)=>[(3,.pointer (some ⟨b3,0,none⟩)),(12,.pointer (some ⟨a7,0,none⟩)),(13,.pointer (some ⟨Z,0,none⟩)),(16,.pointer (some ⟨a3,0,none⟩)),(17,.slice B i i),(96,.int .i64 (i:Int)),(97,.int .i64 (j:Int))])
  (λj a kf pf a9=>j<=i/\Ext w' a9/\w7.heap.size<=a9.heap.size/\bs.heap.size<=a9.heap.size/\Blk a9 b3 151 (grC A c i es)/\Blk a9 a7 204 (Yy o)/\Blk a9 Z 204 (Yy q)/\Blk a9 a3 205 (Xn a)/\a9.ownsRow bs.heap.size 208 3 (.slice B i i) i (Qe i (Ue ord kf pf j)) /\
   (∀ u,u<32->a u<4294967296)/\(∀ u,u<i->∀ x,(a u).testBit x=Yf (nb0 i es) (ord.take j) u x)/\∀ v,v<i->plc ord v<j->BagAt i es ord v (kf v) (pf v)) (λj _ _ _=>i-j) 0 a0 (λ_=>0) (λ_=>0) sB
  ⟨Nat.zero_le _,bt.trans ac,ac.size,be.size,ba,bp,bn,bm,ar,λu hu=>(e0 u hu).1,λu hu x=>?_,λv _ hv=>om⟩ ?_
 .rw[(e0 u om).2];rfl
 clear ba bp bn bm ar bb b6 O a8 e5 b7 ae;rintro j a kf pf a9 ⟨hj,b1,eh,e8,c6,bo,aw,bl,aq,cw,bv,dw⟩;refine ciR (λU=>?_) (λU=>?_)
 .have lj:j<i:=by have:=oT U;omega
  clear U;have ck:j<32:=om
  obtain⟨v,ev⟩:∃ v,v=ord.getD j 0:=⟨_,rfl⟩;have b2:v<i:=by rw[ev];exact co j lj
  have b4:v<32:=om
  have cz:v∈ord:=b5.2 b2;have dk:pre ord v=ord.take j:=by rw[ev];exact Jgc a2 (c1.symm ▸ lj)
  have et:plc ord v=j:=by rw[ev];exact Jqb a2 (c1.symm ▸ lj)
  obtain⟨D,bq⟩:∃ D,D=Yf (nb0 i es) (ord.take j):=⟨_,rfl⟩;have ak:∀ x,Vf (nb0 i es) ord v x=D v x:=λx=>by rw[Vf,dk,bq]
  have dt:NbInv (ord.take j) D:=by rw[bq];exact(Qjs dv).at (a2.sublist (List.take_sublist _ _))
  have d0:v ∉ ord.take j:=by rw[<-dk];exact(Jyr cz).choose_spec.2
  have f6:∀ x,D v x=true->x≠v:=λx J=>(dt.gone v x d0 J).2;have dq:∀ x,D v x=true->x<i:=λx J=>by rw[<-ak]at J;exact Jbt (λu x h=>(Jzh dv h).2.1) J
  rw[<-bq]at bv;have c2:=cw v b4;refine ρ ?_;refine ixb j ck ?_;refine ldR (bo.atc (Ir ck)) ?_;rw[ho j lj,<-ev];refine ρ ?_;refine ixb v b4 ?_;refine ldR (bl.atc (Ib b4)) ?_;refine Xo (Xks _ _ _) ?_;refine Jb Jkm ?_;intro ey ax dg dx c7;refine Xa c7 ?_;intro d9 c7 eu df;have C:Ext a9 d9:=df a9 dg dx;have d6:=c6.ext C;refine ldR (d6.at (i:=0) rfl) ?_;refine ρ ?_;refine Zq (fun (u:Nat) (a':Nat->Nat) (par:Int)=>[(3,.pointer (some ⟨b3,0,none⟩)),(12,.pointer (some ⟨a7,0,none⟩)),(13,.pointer (some ⟨Z,0,none⟩)),(16,.pointer (some ⟨a3,0,none⟩)),(17,.slice B i i),(96,.int .i64 (i:Int)),(97,.int .i64 (j:Int)),(19,.int .i64 (v:Int)),(20,.pointer (some ⟨ax,0,none⟩)),(109,.int .i64 (i:Int)),(110,.int .i64 (u:Int))])
   (λu a' par a4=>u<=i/\GrN (λk=>k=a3∨k=ax) d9 a4/\Blk a4 a3 205 (Xn a')/\Blk a4 ax 208 [.int .i64 (v:Int),.int .u32 (a v:Int),.int .i64 par] /\
    (∀ x,x<32->a' x<4294967296)/\(∀ x,x<i->∀ y,(a' x).testBit y=if x<u then Gt v D x y else D x y) /\
    ((par = -1/\∀ x,x<u->D v x=false)∨∃ p:Nat,par=p/\p<u/\D v p=true/\∀ x,x<u->D v x=true->plc ord p<=plc ord x)) (λu _ _=>i-u) 0 a (-1) sB
   ⟨Nat.zero_le _,GrN.refl _ _,bl.ext C,c7,cw,λx J y=>by rw[if_neg om];exact bv x J y,.inl ⟨rfl,λx J=>om⟩⟩ ?_
  rintro u a' par a4 ⟨hu,a5,av,a6,ao,bh,ai⟩;refine ciR (λU=>?_) (λU=>?_)
  .have lu:u<i:=by have:=oT U;omega
   clear U;have a1:u<32:=om
   refine ldR (a6.at (i:=1) rfl) ?_;refine ρ ?_;refine Iy (s:=a v) (v:=u) om ?_;refine ciR (λU=>?_) (λU=>?_)
   .rw[Qwq c2,bv v b2]at U;have bu:D v u=false:=by simpa using U
    refine ρ ?_;refine Xj (u+1) a' par sO ⟨om,a5,av,a6,ao,λx J y=>?_,?_⟩ om
    .rw[bh x J];by_cases e:x=u
     .subst e;rw[if_neg om,if_pos om,Gt,if_neg (by rw[bu];simp)]
     by_cases G:x<u
     .rw[if_pos G,if_pos om]
     rw[if_neg G,if_neg om]
    rcases ai with⟨G,h2⟩|⟨p,G,h2,h3,h4⟩
    .refine .inl ⟨G,λx J=>?_⟩;by_cases e:x=u
     .rw[e];exact bu
     exact h2 x om
    refine .inr ⟨p,G,om,h3,λx J an=>?_⟩;by_cases e:x=u
    .rw[e,bu]at an;cases an
    exact h4 x om an
   rw[Qwq c2,bv v b2]at U;have bu:D v u=true:=by simpa using U
   have cm:Ext w' a4:=a5.old (b1.trans C) (λk hk=>by
    rcases hk with rfl|rfl
    .have:=bt.size;omega
    have:=b1.size;omega)
   have cj:Blk a4 Z 204 (Yy q):=Jy (aw.ext C) a5 (by
    rintro(h|h)
    .omega
    have:=aw.lt;omega)
   refine ρ ?_;refine Zy (fun (t:Bool)=>[(3,.pointer (some ⟨b3,0,none⟩)),(12,.pointer (some ⟨a7,0,none⟩)),(13,.pointer (some ⟨Z,0,none⟩)),(16,.pointer (some ⟨a3,0,none⟩)),(17,.slice B i i),(96,.int .i64 (i:Int)),(97,.int .i64 (j:Int)),(19,.int .i64 (v:Int)),(20,.pointer (some ⟨ax,0,none⟩)),(109,.int .i64 (i:Int)),(110,.int .i64 (u:Int)),(21,.int .i64 (u:Int)),(131,.bool t)])
    (λt br=>Ext a4 br/\(t=true->par = -1∨∃ p:Nat,par=p/\plc ord u<plc ord p)/\(t=false->∃ p:Nat,par=p/\plc ord p<=plc ord u)) ?_ ?_
   .have ay:Ext a4 a4.drew:=(Ext.refl a4).drew;have af:=a6.ext ay;have c8:=cj.ext ay;refine dr (scq 13 []) kr ?_;refine Jz (af.at (i:=2) rfl) ?_;refine ρd ?_;refine dki 122 (λG=>?_) (λG=>?_)
    .have h2:par<0:=oT G;have h3:par = -1:=by
      rcases ai with⟨h4,_⟩|⟨p,h4,_⟩
      .exact h4
      omega
     refine ρd ?_;refine ρ ?_;exact Jd true sB ⟨ay,λ_=>.inl h3,λe=>by cases e⟩
    have h2:¬ par<0:=oF G;obtain⟨p,h4,h5,h6,h7⟩:∃ p:Nat,par=p/\p<u/\D v p=true/\∀ x,x<u->D v x=true->plc ord p<=plc ord x:=by
     rcases ai with⟨h4,_⟩|h4
     .omega
     exact h4
    subst h4;refine ρd ?_;refine dixb u a1 ?_;refine Jz (c8.atc (Ir a1)) ?_;refine Jz (af.at (i:=2) rfl) ?_;refine ρd ?_;refine dixb p (show p<32 by omega) ?_;refine Jz (c8.atc (Ir (show p<32 by omega))) ?_;rw[dj u lu,dj p om];refine ρd ?_;refine ρ ?_;refine Jd _ sB ⟨ay,λe=>.inr ⟨p,rfl,?_⟩,λe=>⟨p,rfl,?_⟩⟩
    .have:=oT e;omega
    have:=oF e;omega
   rintro t br ⟨az,ef,ee⟩;have ab:=a6.ext az;refine ρ ?_;refine Zy (fun (ah:Int)=>[(3,.pointer (some ⟨b3,0,none⟩)),(12,.pointer (some ⟨a7,0,none⟩)),(13,.pointer (some ⟨Z,0,none⟩)),(16,.pointer (some ⟨a3,0,none⟩)),(17,.slice B i i),(96,.int .i64 (i:Int)),(97,.int .i64 (j:Int)),(19,.int .i64 (v:Int)),(20,.pointer (some ⟨ax,0,none⟩)),(109,.int .i64 (i:Int)),(110,.int .i64 (u:Int)),(21,.int .i64 (u:Int))])
    (λah am=>GrN (λk=>k=ax) br am/\Blk am ax 208 [.int .i64 (v:Int),.int .u32 (a v:Int),.int .i64 ah]/\((ah = -1/\∀ x,x<u+1->D v x=false)∨∃ p:Nat,ah=p/\p<u+1/\D v p=true/\∀ x,x<u+1->D v x=true->plc ord p<=plc ord x)) ?_ ?_
   .refine ci (λht=>?_) (λht=>?_)
    .refine Xk (p:=⟨ax,2,none⟩) (ab.cell 2) (ab.frozen _) ?_;refine ρ ?_;refine Jd (u:Int) sB ⟨GrN.set _ rfl,ab.set 2 _,.inr ⟨u,rfl,Nat.lt_succ_self u,bu,λx J an=>?_⟩⟩;by_cases e:x=u
     .rw[e];exact nR _
     rcases ai with⟨_,h2⟩|⟨p,G,h2,h3,h4⟩
     .rw[h2 x om]at an;cases an
     have h5:=h4 x om an;rcases ef ht with h6|⟨p',h6,h7⟩
     .omega
     have:p=p':=om
     subst this;omega
    obtain⟨p',h6,h7⟩:=ee ht;refine ρ ?_;refine Jd par sB ⟨GrN.refl _ _,ab,.inr ?_⟩;rcases ai with⟨G,h2⟩|⟨p,G,h2,h3,h4⟩
    .omega
    have:p=p':=om
    subst this;refine⟨p,G,om,h3,λx J an=>?_⟩;by_cases e:x=u
    .rw[e];exact h7
    exact h4 x om an
   rintro ah am ⟨cp,cg,d3⟩;have bg:a3≠ax:=om
   have ch:Blk am a3 205 (Xn a'):=Jy (av.ext az) cp bg;have ay:Ext am am.drew:=(Ext.refl am).drew;have au:=ch.ext ay;have af:=cg.ext ay;have dz:=ao u a1;have e6:=Kl a1;have cd:=Kl b4;refine ρ ?_;refine drN (λ_=>False) 15 (scq 15 [114]) kr ?_;refine ρn ?_;refine nixb u a1 ?_;refine ρn ?_;refine nld (Js (au.atc (Ib a1)) (λe=>e)) ?_;refine ρn ?_;refine nld (Js (af.at (i:=1) rfl) (λe=>e)) ?_;refine ρn ?_;refine Jgl a1 ?_;refine ρn ?_;refine Jgl b4 ?_;refine ρn ?_;refine nixb u a1 ?_;refine ρn ?_;refine Xh ?_;have c0:=Jbg dz c2;have cn:=Jbg e6 cd;obtain⟨nw,d8⟩:∃ nw,nw=Kk (a' u ||| a v) (2^u ||| 2^v):=⟨_,rfl⟩;have ek:nw<4294967296:=by rw[d8];exact Qvl c0
   have e7:bits .andNot .u32 (bits .or .u32 (a' u:Int) (a v:Int)) (bits .or .u32 ((2^u:Nat):Int) ((2^v:Nat):Int))=(nw:Int):=by
    rw[Jxb dz c2,Jxb e6 cd,Jmg c0 cn,d8]
   refine sto (p:=⟨a3,u,none⟩) (au.cell u |>.trans (Ib a1)) (au.frozen _) ?_;rw[e7];have bj:=au.set u (.int .u32 (nw:Int));rw[Jfb a' a1]at bj;have du:GrN (λk=>k=a3) am.drew (am.drew.setCell ⟨a3,u,none⟩ (.int .u32 (nw:Int))):=GrN.set _ rfl;refine ω5 ?_;refine Gy ?_;refine ρn ?_;refine ρ ?_;refine Xj (u+1) (upd a' u nw) ah sO ⟨om,?_,bj,af.far (λe=>bg e.symm) _,λx J=>?_,λx J y=>?_,d3⟩ om
   .exact((a5.trans (GrN.ext az)).trans (cp.mono λk _ hk=>.inr hk)).trans ((GrN.ext ay).trans (du.mono λk _ hk=>.inl hk))
   .by_cases e:x=u
    .rw[e,Ju];exact ek
    rw[Jm _ _ e];exact ao x J
   by_cases e:x=u
   .subst e;rw[Ju,if_pos (Nat.lt_succ_self x),d8,Jmv c0 cn,Nat.testBit_or,Nat.testBit_or,Jyn,Jyn,bh x J,if_neg (Nat.lt_irrefl x),bv v b2,Gt,if_pos bu];rw[Qzl x y,Qzl v y];cases D x y<;>cases D v y<;>cases (y != x)<;>cases (y != v)<;>rfl
   rw[Jm _ _ e,bh x J];by_cases G:x<u
   .rw[if_pos G,if_pos om]
   rw[if_neg G,if_neg om]
  have ed:u=i:=by have:=oF U;omega
  subst ed;clear U;have cm:Ext w' a4:=a5.old (b1.trans C) (λk hk=>by
   rcases hk with rfl|rfl
   .have:=bt.size;omega
   have:=b1.size;omega)
  have b8:∀ {g t:Nat} {cs:List Value},Blk a9 g t cs->g≠a3->Blk a4 g t cs:=λhB G=>Jy (hB.ext C) a5 (by
   rintro(h|h)
   .exact G h
   have:=hB.lt;omega)
  have ap:a4.ownsRow bs.heap.size 208 3 (.slice B u u) u (Qe u (Ue ord kf pf j)):=Ja (Jk aq C) a5 (λg eg hk=>by
   obtain⟨_,_,_,_,c3⟩:=Jv aq;have h5:=c3 g eg;rcases hk with rfl|rfl<;>omega)
  refine Qy a6 ?_;refine Qs 3 v (Rd.own ap) b2 ?_;refine ρ ?_;refine Jkv (cs:=[.int .i64 (v:Int),.int .u32 (a v:Int),.int .i64 par]) ap b2 ?_ Jzc;intro br b9 bf;rw[Xjf (λv _=>Xwj ord kf pf j v) b2 rfl]at b9;have eg:Qe u (upd (Ue ord kf pf j) v [.int .i64 (v:Int),.int .u32 (a v:Int),.int .i64 par])=Qe u (Ue ord (upd kf v (a v)) (upd pf v par) (j+1)):=by
   refine Jcg λx J=>?_;by_cases e:x=v
   .subst e;rw[Ju,Ue,if_pos om];simp only[Qp,Ju]
   rw[Jm _ _ e];have dn:plc ord x≠j:=λe'=>by
    have G:=(Gn a2 (b5.2 J)).2;rw[e',<-ev]at G;exact e G.symm
   unfold Ue;by_cases G:plc ord x<j
   .rw[if_pos G,if_pos om];simp only[Qp,Jm _ _ e]
   rw[if_neg G,if_neg om]
  rw[eg]at b9;have aa:∀ {g t:Nat} {cs:List Value},Blk a4 g t cs->g<bs.heap.size->Blk br g t cs:=λhB G=>hB.grown bf (λe=>by
   obtain⟨_,_,_,_,c3⟩:=Jv ap;have h5:=c3 _ e.symm;omega)
  have az:Ext w' br:=Qh cm bf (λg eg=>by
   obtain⟨_,_,_,_,c3⟩:=Jv ap;have h5:=c3 g eg;have:=bt.size;have:=ad.size;omega)
  have ex:=ad.size;refine ρ ?_;refine Kf (j+1) a' (upd kf v (a v)) (upd pf v par) sO ⟨om,az,by have:=C.size;have:=a5.size;have:=bf.size;omega,by have:=C.size;have:=a5.size;have:=bf.size;omega,aa (b8 c6 om) om,aa (b8 bo om) om,aa (b8 aw om) om,aa av da,b9,ao,λx J y=>?_,λx J em=>?_⟩ om
  .rw[bh x J,if_pos J,Qr 0 (c1.symm ▸ lj),<-ev,Qjr,<-bq];rfl
  by_cases e:x=v
  .subst e;rw[Ju,Ju];refine⟨c2,λy=>by rw[bv x b2,ak],?_⟩;rcases ai with⟨G,h2⟩|⟨p,G,h2,h3,h4⟩
   .refine .inl ⟨G,λy=>?_⟩;rw[ak];cases hb:D x y with
    | false=>rfl
    | true=>exact absurd (h2 y (dq y hb)) (by rw[hb];simp)
   exact .inr ⟨p,G,by rw[ak];exact h3,λy hy=>h4 y (dq y (by rw[<-ak];exact hy)) (by rw[<-ak];exact hy)⟩
  rw[Jm _ _ e,Jm _ _ e];refine dw x J ?_;have dn:plc ord x≠j:=λe'=>by
   have G:=(Gn a2 (b5.2 J)).2;rw[e',<-ev]at G;exact e G.symm
  omega
 have eo:j=i:=by have:=oF U;omega
 subst eo;clear U;refine ρ ?_;refine Zs ⟨bd.trans b1,B,kf,pf,rfl,?_,λv hv=>?_⟩
 .have e:Qe j (Ue ord kf pf j)=Qe j (Qp kf pf):=Jcg λv hv=>by
   have:=(Gn a2 (b5.2 hv)).1;rw[Ue,if_pos om]
  rw[e]at aq;exact Jbf aq (by have:=bw.size;have:=ad.size;omega)
 have:=dw v hv (by have:=(Gn a2 (b5.2 hv)).1;omega);rw[<-aj];exact this
open Go.RowKit Pl Go.Wk
variable {ca cb n v:Nat}{pf:Nat->Int}
theorem Xjr{kf:Nat->Nat}(hv:v<32)(hk:kf v<4294967296)(w:World): Ret Tryz.prog 124 [.agg (Qp kf pf v).toArray] w λu w'=>u=.int .u32 ((kf v ||| 2^v:Nat):Int)/\Ext w w':=by
 refine enE Tryz.func124 Tryz.ntmps124 ?_;refine bxR (cs:=Qp kf pf v) ?_;intro C b D J G;refine ldR (G.at (i:=0) rfl) ?_;refine ldR (G.at (i:=0) rfl) ?_;refine cfR ?_ ?_
 .grind
 have j:Ext C C.drew:=(Ext.refl C).drew;have o:=G.ext j;refine drR (scq 7 []) ?_;refine Jz (o.at (i:=1) rfl) ?_;refine Jz (o.at (i:=0) rfl) ?_;refine ρd ?_;refine dsl32 hv ?_;refine ρd ?_;refine ρ ?_;refine Jj ⟨?_,D.trans j⟩;rw[Jxb hk (Kl hv)]
def Jct(n m:Nat)(vars:Nat->List Nat)(rs:Nat->List Row)(s:Nat)(l:List Row): Prop:=Lt [] l/\(∀ x,x∈l↔∃ z:Row,z.length=n/\x=pmR (bk s 32) z/\Ij m vars rs s z)/\l.length<=65536
def Yl(s:Nat)(l:List Row): Atm:=⟨nz (bk s 32),(bk s 32).length,l⟩
theorem Xwg{w:World}{ts:List TA}{Aa B:Option Addr}{vars:Nat->List Nat}{rs:Nat->List Row}{kf:Nat->Nat}(hn32:n<=32)(hok:∀ v,v<n->MOk n ts vars rs (kf v ||| 2^v))(hR:Rd w 3 Aa ts.length (atC ts))(hle:ts.length<=ca)(hat:∀ p∈ts,AtV w p.1 p.2)(hB:Rd w 3 B n (Qe n (Qp kf pf)))(hk:∀ v,v<n->kf v<4294967296)(hcap:∀ v,v<n->∀ l:List Row,Lt [] l->(∀ x∈l,∃ z:Row,z.length=n/\x=pmR (bk (kf v ||| 2^v) 32) z/\Ij ts.length vars rs (kf v ||| 2^v) z)->l.length<=65536):
  Ret Tryz.prog 73 [.int .i64 (n:Int),.slice B n cb,.slice Aa ts.length ca] w λu w'=>Ext w w'/\∃(va:Value) (st:Int) (R:Nat->List Row),u=.tuple #[va,.int .i64 st,.int .i64 0] /\
   Off (λk=>k<w.heap.size) w' (λx=>GV 3 AtG x va ((List.range n).map λv=>Yl (kf v ||| 2^v) (R v)))/\∀ v,v<n->Jct n ts.length vars rs (kf v ||| 2^v) (R v):=by
 refine enE Tryz.func73 Tryz.ntmps73 ?_;refine ρ ?_;refine Jxh (fun (v:Nat) (va:Value) (st:Int) (R:Nat->List Row)=>[(0,.int .i64 (n:Int)),(2,.slice Aa ts.length ca),(9,va),(10,.int .i64 st),(16,.slice B n cb),(17,.int .i64 (n:Int)),(18,.int .i64 (v:Int))])
  (λv va st R w'=>v<=n/\Ext w w'/\OwnG 134 3 AtG w' w.heap.size va ((List.range v).map λu=>Yl (kf u ||| 2^u) (R u))/\∀ u,u<v->Jct n ts.length vars rs (kf u ||| 2^u) (R u)) (λv _ _ _=>n-v) 0 (.slice none 0 0) 0 (λ_=>[]) sB
  ⟨Nat.zero_le _,Ext.refl _,OwnG.nil _ _,λu hu=>om⟩ ?_
 rintro v va st R w1 ⟨hv,D,a4,ay⟩;refine ciR (λhc=>?_) (λhc=>?_)
 .have lv:v<n:=by have:=oT hc;omega
  clear hc;have ad:=hB.ext D;have a3:∀ j u,(Qp kf pf v)[j]?=some u->w1.cell? ((adr B (v*3)).add j)=some u:=λj u hu=>by
   have hj:j<3:=by grind [Nat.lt_or_ge,List.getElem?_eq_none,Qp]
   rw[Xt];exact ad.cell ((Jqt (sz:=3) (λ_ _=>rfl) lv hj).trans hu)
  refine Qs 3 v ad lv ?_;refine Jt (cs:=Qp kf pf v) a3 ?_;refine Jb Jkm ?_;intro w2 bc aq ab J;refine Qb (cs':=Qp kf pf v) J ?_ Jzc;intro w3 J b7 ap;have a7:Ext w1 w3:=ap w1 aq ab;refine Jt (cs:=Qp kf pf v) (λj u hu=>J.at hu) ?_;refine clR (Xjr om (hk v lv) w3) ?_;rintro u w4 ⟨rfl,ao⟩;have C:=a7.trans ao;have i:=D.trans C;refine clR (Qpl (hok v lv) (hR.ext i) hle (λp hp=>(hat p hp).ext i) (hcap v lv)) ?_;rintro u w5 ⟨an,⟨p1,p2,p3⟩,ai,l,rfl,Z,au,a9,av⟩;have b1:=Z.here;obtain⟨⟨PA,pc,ag,b4,b3,b2⟩,af,O⟩:=id b1;simp only at ag af;obtain⟨a5,PG,a2,_,ae,_⟩:=id O;simp only at ae;subst ag;subst af;subst ae;refine Jb Yn ?_;intro w6 bb am aa G;refine Qb (cs':=[.slice PA (nz (bk (kf v ||| 2^v) 32)).length pc,.int .i64 ((bk (kf v ||| 2^v) 32).length:Int),.slice PG a5.length a2]) G ?_ (Ic rfl);intro w7 G b6 ak;have U:Ext w5 w7:=ak w5 am aa;refine Qy G ?_
  refine Qk (Jmf _ _ _ PA PG _ pc _ a2 _ rfl rfl rfl) ?_;intro w8 b8 a6 b9 az;have o:=((C.trans an).trans U).trans a6;obtain⟨_,_,_,_,ac⟩:=a4.form;have hΦ:Off (Xq w.heap.size va) w8 (λu=>AtG u [.slice PA (nz (bk (kf v ||| 2^v) 32)).length pc,.int .i64 ((bk (kf v ||| 2^v) 32).length:Int),.slice PG a5.length a2] (Yl (kf v ||| 2^v) l)):=by
   refine((Z.imp λu h=>⟨_,rfl,h⟩).mono λk _ aw=>?_).ext (U.trans a6);rcases aw with h'|h'
   .exact nM h' i.size
   exact nM (ac k h').2 C.size
  refine ρ ?_;refine apG EA (Φ:=AtG) (a4.ext o) az rfl (Ic rfl) hΦ (by simp;omega) om (D.trans o).size ?_;intro ah w9 ba ax b5;have aj:Ext w w9:=Qh (D.trans o) ax (λg eg=>(ac g eg).1);obtain⟨a1,a8⟩:∃ a1:Int,a1=IntKind.i64.wrap (st+ai):=⟨_,rfl⟩;refine ρ ?_;rw[<-a8];refine ρ ?_;refine Kf (v+1) ah a1 (upd R v l) sO ⟨om,aj,?_,λu hu=>?_⟩ om
  .rw[List.range_succ,List.map_append,List.map_singleton,Ju];grind [List.range,Yl,kf,upd,List.map_congr_left,List.mem_range.1,Jm]
  by_cases e:u=v
  .subst e;rw[Ju];exact⟨au,a9,av⟩
  repeat grind [Jm]
 have ar:v=n:=by have:=oF hc;omega
 subst ar;clear hc;refine ρ ?_;exact Zz ⟨D,va,st,R,rfl,a4.off (by simp;omega),ay⟩
end Go.Proofs.YtgobkbeokaaplaaGreatDoor
namespace Go.Wk
open Go.Lib
variable {cs xs:List Value}{d e g m n t ty:Nat}{w w':World}
theorem aps{P:Program}{tt:TT}[h:Tab P tt]{al:AL}{Q:Exit->Act->World->Prop}{ops:Array Oper}{rest:List Oper}{pos:String}{aft:Array Edge}{u base:Nat}{ku:TK}{x y:Operand}{v:Value}{s:ByteArray}(hE:ElT P t e 1 1 (.int .u8 0))(ha:w.ownsRow base e 1 v m xs)(hby:m+s.size<=140737488355328)(hbase:base<=w.heap.size)(kk:∀ v' w',w'.ownsRow base e 1 v' (m+s.size) (xs++strCells s)->w.grownBy w' v.ownBlock->WL P n ops Q rest ((d,v')::al) w')(hu:tk tt u=some ku:=by rfl)(hku:ku.desc=.string:=by rfl)(hx:ev al x=some v:=by rfl)(hy:ev al y=some (.string s):=by rfl)(hd:Nat.blt d n=true:=by rfl):
  WL P n ops Q (⟨some d,.call { callee:=.builtin .append,args:=#[x,y],argTypes:=#[t,u] },ty,pos,aft,none⟩::rest) al w:=by
 obtain⟨i,hi,O,C,D⟩:=hE.info;obtain⟨v',w',j,J,G,U⟩:=run_append_own_string w base t u ty e i hE.sl (Yc h.ok hu hku rfl) hi O C D v m xs ha s (by unfold maxLen;omega) hby hbase;refine wop hd (λa o=>?_) (kk v' w' J G);simp[execOp,resolve,invoke,builtin,o.ev hx,o.ev hy,j]
theorem _root_.Go.Wk.Blk.others(h:Blk w g t cs)(ho:OthersKept e none w w')(hne:Nat.beq e t=false): Blk w' g t cs :=
 ho g _ h (by simp) (λc j i=>by injection i with _ h2 _;subst h2;simp at hne)
end Go.Wk
namespace Go.Proofs.YtgobkbeokaaplaaGreatDoor
open Go.RowKit Pl Go.Wk _root_.Go.Proofs.Tryz
attribute [local irreducible] WC WL QX WD WDB WP WN WG
variable {B B0 c i:Nat}{r:Row}{sv v:Value}{w w':World}
def Ia(v:V): List UInt8:=Lib.itoa v.kind++[44]++(Lib.itoa v.num++[44])++(Lib.itoa (v.str.size:Int)++[44])++v.bytes
def idn(r:Row): List UInt8:=r.flatMap Ia
structure TB(B0:Nat)(w:World): Prop where
 le:B0<=w.heap.size
 tab:Lib.TabBelow prog B0 w "internal/strconv.uint64pow10" .u64 Lib.pow10Tab
theorem TB.below(h:TB B0 w)(hb:Below B w w')(hle:B0<=B): TB B0 w':=⟨nL h.le hb.size,h.tab.on (hb.mono hle)⟩
theorem TB.ext(h:TB B0 w)(hx:Ext w w'): TB B0 w':=h.below hx h.le
theorem TB.gr{N:Nat->Prop}(h:TB B0 w)(hg:GrN N w w')(hN:∀ k,k<B0->¬ N k): TB B0 w':=by
 have j:Below B0 w w':=⟨hg.os,hg.tape,hg.output,hg.size,λk i=>hg.block k (nM i h.le) (hN k i)⟩;exact⟨nL h.le j.size,h.tab.on j⟩
theorem EU8: ElT prog 105 5 1 1 (.int .u8 0):=⟨underlying105,info_parts kr,rfl,by decide⟩
theorem Jmt{l:List UInt8}{i:Int}(hT:TB B0 w)(hB0:B0<=B)(hBw:B<=w.heap.size)(h0:-9223372036854775808<=i)(h1:i<=9223372036854775807)(hlim:l.length+21<=140737488355328)(ho:w.ownsRow B 5 1 sv l.length (Bc l)): Ret prog 173 [sv,.int .i64 i,.int .i64 10] w λu w'=>w'.ownsRow B 5 1 u (l++Lib.itoa i).length (Bc (l++Lib.itoa i))/\Below B w w'/\Lib.OthersKept 5 none w w':=by
 refine⟨⟨_,_,func173,rfl,kr⟩,?_⟩;refine(Tryz.strconv_AppendInt_10 B l.length i h0 h1 sv (Bc l) w ho hBw hlim λw' D=>hT.tab w' (D.mono hB0)).mono ?_;rintro e w' ⟨j,rfl,G,C,o⟩;refine⟨j,rfl,?_,C,o⟩;have J:Bc (l++Lib.itoa i)=Bc l++Lib.byteCells (Lib.itoa i):=by simp[Bc,Lib.byteCells]
 grind
def Zr(v:V): Prop:=(-9223372036854775808<=v.kind/\v.kind<=9223372036854775807)/\(-9223372036854775808<=v.num/\v.num<=9223372036854775807)
theorem Jmd(z:Int)(w:World): (Instr.buildSlice 105 1 #[(0,.int .u8 z)]).run prog w=.ok (.slice (some ⟨w.heap.size,0,none⟩) 1 1) (w.alloc (.cells [.int .u8 z].toArray 5)):=kr
theorem Qxk(h:i<r.length): idn (r.take (i+1))=idn (r.take i)++Ia (r.getD i V0):=by grind [idn,Qr,V0]
theorem Qtn(h:i<r.length): (idn (r.take i)).length+(Ia (r.getD i V0)).length<=(idn r).length:=by
 have e:idn r=idn (r.take (i+1))++idn (r.drop (i+1)):=by unfold idn;rw[<-List.flatMap_append,List.take_append_drop]
 grind [Qxk,List.length_append]
theorem Bc_app(a b:List UInt8): Bc (a++b)=Bc a++Bc b:=by simp[Bc]
theorem Bc_one(l:List UInt8): ∀ u∈Bc l,u.oneCell'=true:=λu i=>by
 obtain⟨c,_,rfl⟩:=List.mem_map.1 i;rfl
theorem Jms(l:List UInt8)(c:UInt8): l.length+1=(l++[c]).length:=by simp
theorem Km{base e sz n:Nat}{cs:List Value}(h:w.ownsRow base e sz v n cs): ∀ k,v.ownBlock=some k->base<=k:=by grind [Jv]
theorem Jzq{A:Option Addr}(hT:TB B0 w)(hR:RdR w A r)(hfit:∀ v∈r,Zr v)(hlim:(idn r).length+64<=140737488355328)(hr:r.length<=1000000):
  Ret prog 129 [.slice A r.length c] w λu w'=>u=.string (str (idn r))/\Ext w w':=by
 refine enE func129 ntmps129 ?_;refine ρ ?_;refine Jo (fun (i:Nat) (vn:Value)=>[(3,vn),(6,.slice A r.length c),(7,.int .i64 (r.length:Int)),(8,.int .i64 (i:Int))])
  (λi vn w'=>i<=r.length/\Ext w w'/\w'.ownsRow w.heap.size 5 1 vn (idn (r.take i)).length (Bc (idn (r.take i)))) (λi _=>r.length-i) 0 (.slice none 0 0) sB
  ⟨Nat.zero_le _,Ext.refl _,Zc _ _ _ _⟩ ?_
 rintro i vn w1 ⟨hi,a4,hn⟩;refine ciR (λh=>?_) (λh=>?_)
 .have li:i<r.length:=by have:=oT h;omega
  clear h;have af:RdR w1 A r:=Rd.ext hR a4;have bn:=Qtn li;have hf:=hfit _ (getD_mem' V0 r li);refine Qs 3 i af li ?_;refine Jt (cs:=(r.getD i V0).cells) (λj u hu=>RdR.cell af li hu) ?_;refine Jb (cs:=V0.cells) Gj ?_;intro w2 b b6 hb ax;refine Qb (cs':=(r.getD i V0).cells) ax ?_ (V.one _);intro w3 ak bp a7;have am:Ext w1 w3:=a7 w1 b6 hb;have ao:=Jk hn am;have O:=a4.trans am;have br:w.heap.size<=b:=nL a4.size hb;have b7:=Qxk li;generalize r.getD i V0=v at *
  generalize idn (r.take i)=l0 at *
  have b9:=Jkt v;have bo:(Ia v).length=(Lib.itoa v.kind).length+1+((Lib.itoa v.num).length+1)+((Lib.itoa (v.str.size:Int)).length+1)+v.bytes.length:=by simp only[Ia,List.length_append,List.length_cons,List.length_nil]
  clear hn ax a7 af;refine ldR (ak.at (i:=0) rfl) ?_;refine clR (Jmt (B:=w.heap.size) (l:=l0) (i:=v.kind) (hT.ext O) hT.le O.size hf.1.1 hf.1.2 (by grind) ao) ?_;rintro u4 w4 ⟨ad,aw,bb⟩;have a6:Ext w w4:=Below.trans O aw;have aj:=ak.others bb rfl;clear ao ak;refine Qk (Jmd _) ?_;intro w5 b5 D bt be;refine ρ ?_;refine apb (m':=1) (news:=Bc [44]) EU8 (Jk ad D) (be.rd (n:=1) rfl) (Bc_one _) (by unfold maxLen;grind) (by grind) (a6.trans D).size ?_;intro v6 w6 ac ar bm;rw[<-Bc_app,Jms _ 44]at ac;have J:Ext w w6:=Qh (a6.trans D) ar (Km (Jk ad D));have ai:=(aj.ext D).grown ar ((aj.ext D).ne_own (Jk ad D) rfl);clear aj;refine ldR (ai.at (i:=1) rfl) ?_;refine clR (Jmt (B:=w.heap.size) (l:=l0++Lib.itoa v.kind++[44]) (i:=v.num) (hT.ext J) hT.le J.size hf.2.1 hf.2.2 (by grind) ac) ?_;rintro u7 w7 ⟨ab,av,ba⟩;have a5:Ext w w7:=Below.trans J av;have ah:=ai.others ba rfl
  clear ac ai;refine Qk (Jmd _) ?_;intro w8 b8 C bs bd;refine ρ ?_;refine apb (m':=1) (news:=Bc [44]) EU8 (Jk ab C) (bd.rd (n:=1) rfl) (Bc_one _) (by unfold maxLen;grind) (by grind) (a5.trans C).size ?_;intro v9 w9 aa aq bl;rw[<-Bc_app,Jms _ 44]at aa;have G:Ext w w9:=Qh (a5.trans C) aq (Km (Jk ab C));have ag:=(ah.ext C).grown aq ((ah.ext C).ne_own (Jk ab C) rfl);clear ah;refine ldR (ag.at (i:=2) rfl) ?_;refine clR (Jmt (B:=w.heap.size) (l:=l0++Lib.itoa v.kind++[44]++Lib.itoa v.num++[44]) (i:=(v.str.size:Int)) (hT.ext G) hT.le G.size om om (by grind) aa) ?_;rintro bj b3 ⟨a2,ae,an⟩;have Z:Ext w b3:=Below.trans G ae;have a3:=ag.others an rfl;clear aa ag;refine Qk (Jmd _) ?_;intro bh bu o bg az;refine ρ ?_;refine apb (m':=1) (news:=Bc [44]) EU8 (Jk a2 o) (az.rd (n:=1) rfl) (Bc_one _) (by unfold maxLen;grind) (by grind) (Z.trans o).size ?_
  intro bi b2 a1 a8 bf;rw[<-Bc_app,Jms _ 44]at a1;have U:Ext w b2:=Qh (Z.trans o) a8 (Km (Jk a2 o));have ay:=(a3.ext o).grown a8 ((a3.ext o).ne_own (Jk a2 o) rfl);clear a3;refine ldR (ay.at (i:=2) rfl) ?_;refine ρ ?_;refine aps (base:=w.heap.size) (s:=v.str) EU8 a1 (by grind) U.size ?_;intro b4 b1 ap au;have a9:Ext w b1:=Qh U au (Km a1);refine ρ ?_;refine Jl (i+1) b4 sO ⟨li,a9,?_⟩ om;rw[b7];have e1:l0++Ia v=l0++Lib.itoa v.kind++[44]++Lib.itoa v.num++[44]++Lib.itoa (v.str.size:Int)++[44]++v.bytes:=by simp only[Ia,List.append_assoc]
  rw[e1,Bc_app,List.length_append,<-b9];exact ap
 have bc:i=r.length:=by grind
 rw[bc,List.take_length]at hn;obtain⟨A3,c3,rfl,bq,_⟩:=Jv hn;refine ρ ?_;refine sb (Rd.own hn) ?_;refine ρ ?_;exact Jj ⟨rfl,a4⟩
end Go.Proofs.YtgobkbeokaaplaaGreatDoor
