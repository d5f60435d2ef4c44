/- Part 4. -/
import Derived.Test.YtgobkbeokaaplaaGreatDoorI03
import Derived.Laws.BitsAllLaws
import Derived.Laws.CopyRow
import Derived.Test.YtgobkbeokaaplaaGreatDoorSh
import Derived.Lib.AppendStr
set_option linter.unusedVariables false
set_option maxRecDepth 100000
set_option maxHeartbeats 40000000
namespace Go.Proofs.YtgobkbeokaaplaaGreatDoor
open Go.RowKit Pl Go.Wk
attribute [local irreducible] WC WL QX WD WDB WP WN WG
variable {vs:List Nat}{cs xs:List Value}{ca d g i m n q:Nat}{vars:Nat->List Nat}{G G' L e p:Nat->Nat}{N N' NY bx':Nat->Prop}{v x y yv:Value}{w w1 w2:World}
structure YS(s:Nat)(yv:Value)(bx:Nat->Prop)(Y:Nat->List Row->World->Prop): Prop where
 keep:∀ base l w w',Y base l w->GrN (λk=>s<=k/\k<base) w w'->Y base l w'
 call:∃ fid first cap,yv=.func (.func fid) first cap/\∀ base l w vr z,base<=w.heap.size->Y base l w->RowV w vr z->l.length<65536->Ret Tryz.prog fid (first.toList++[vr]++cap.toList) w λr w'=>r=.bool true/\Y base (l++[z]) w'/\GrN (λk=>bx k∨base<=k) w w'
theorem Jvl(ha:Xw vs)(hl:∀ u∈vs,u<n): vs.length<=n:=by
 have key:∀ k,lv vs k<=k:=by
  intro k;induction k with
  | zero=>rw[Jwk];exact nR _
  | succ k ih=>
   by_cases h:k∈vs
   repeat grind [Yc,Jqh]
 have:=key n;rwa [Qqc hl]at this
theorem Jgf{cs:List Nat}(h:i<cs.length): (nz cs).getD i 0=(cs.getD i 0:Int):=by
 simp[nz,List.getD,List.getElem?_eq_getElem h]
structure RunOk(n:Nat)(ts:List TA)(vars:Nat->List Nat)(rs:Nat->List Row): Prop where
 n32:n<=32
 m32:ts.length<=32
 at_:∀ i,i<ts.length->(ts.getD i ta0).2=⟨nz (vars i),(vars i).length,rs i⟩
 asc:∀ i,i<ts.length->Xw (vars i)
 lt:∀ i,i<ts.length->∀ u∈vars i,u<n
 cov:∀ v,v<n->∃ i,i<ts.length/\v∈vars i
 srt:∀ i,i<ts.length->Lt [] (rs i)
 len:∀ i,i<ts.length->∀ r∈rs i,r.length=(vars i).length
 big:∀ i,i<ts.length->(rs i).length<=65536
theorem Jyw{base base' e sz:Nat}(h:w.ownsRow base e sz v m xs)(hb:base'<=base): w.ownsRow base' e sz v m xs:=by
 rcases h with⟨u,⟨rfl,rfl⟩|⟨g,o,j,rfl,i,C⟩⟩
 .exact⟨u,.inl ⟨rfl,rfl⟩⟩
 exact⟨u,.inr ⟨g,o,j,rfl,Nat.le_trans hb i,C⟩⟩
theorem _root_.Go.Wk.Blk.sub2{t:TypeId}(h:Blk w g t cs)(h0:cs[i]?=some x)(h1:cs[i+1]?=some y): ∀ j u,[x,y][j]?=some u->w.cell? ((⟨g,i,none⟩:Addr).add j)=some u:=λj u o=>by
 match j,o with
 | 0,o=>simp only[List.getElem?_cons_zero,Option.some.injEq]at o;subst o;exact h.sub h0
 | 1,o=>simp only[List.getElem?_cons_succ,List.getElem?_cons_zero,Option.some.injEq]at o;subst o;exact h.sub h1
 | j+2,o=>simp at o
def Gc(d t:Nat): List Value:=(List.range d).map λj=>.int .i64 ((if j<t then j else 0:Nat):Int)
theorem Xqr(d:Nat): (madeCells (Value.int .i64 0).cells (d*1)).toList=Gc d 0:=by
 rw[Nat.mul_one];have e:(madeCells (Value.int .i64 0).cells d).toList=List.replicate d (Value.int .i64 0):=Ux _ _;rw[e];simp[Gc,List.map_const']
theorem Xqq(d:Nat): Gc d d=Je (nz (List.range d)):=by grind [Gc,Je,nz,List.map_map,List.map_congr_left,List.mem_range.1]
theorem Xqn{t:Nat}(h:t<d): (Gc d t).set t (.int .i64 (t:Int))=Gc d (t+1):=by
 apply List.ext_getElem?
 grind [Gc,List.getElem?_range]
theorem Xqp(d t:Nat): (Gc d t).length=d:=by simp[Gc]
theorem Qmt(A:Option Addr)(n c:Nat): ∀ u∈[Value.slice A n c],u.oneCell'=true:=λu i=>by rw[List.mem_singleton.1 i];rfl
def itp(g:Nat): Value:=.pointer (some ⟨g,0,none⟩)
def Vw(vars:Nat->List Nat)(G:Nat->Nat)(q:Nat)(v:Nat): List Value:=((List.range q).filter λi=>decide (v∈vars i)).map λi=>itp (G i)
theorem Xqz(vars:Nat->List Nat)(G:Nat->Nat)(q v:Nat): (Vw vars G q v).length<=q:=by grind [Vw,List.length_map,List.length_filter_le,List.range,List.length_range]
theorem Xqx(vars:Nat->List Nat)(G:Nat->Nat)(q v:Nat): Vw vars G (q+1) v=Vw vars G q v++if v∈vars q then[itp (G q)] else[]:=by grind [Vw,List.range_succ,List.filter_cons_of_pos,List.filter_cons_of_neg]
theorem Xxb(h:∀ j,j<q->G j=G' j)(v:Nat): Vw vars G q v=Vw vars G' q v:=by grind [Vw,List.map_congr_left,List.mem_range.1,List.mem_filter.1]
theorem _root_.Go.Wk.GrN.cut(hx:Ext w w1)(hg:GrN N w1 w2)(hN:∀ k,k<w.heap.size->N k->N' k): GrN N' w w2 :=
 ⟨hg.os.trans hx.os,hg.tape.trans hx.tape,hg.output.trans hx.output,Nat.le_trans hx.size hg.size,λk i hn=>(hg.block k (nM i hx.size) (λe=>hn (hN k i e))).trans (hx.block k i)⟩
theorem Cfg.steps{c:JC}{Y:List Row->World->Prop}{z:Row}{f h:Nat->Nat->Nat}{l:List Row}(H:Cfg c Y w z L p e f h l)(hok:JOk c)(hY:YC c Y NY){st:Int}(hJ:Blk w c.J 313 [c.rowv,c.ja,.int .i64 st,c.yv])(st':Int):
  Cfg c Y (w.setCell ⟨c.J,2,none⟩ (.int .i64 st')) z L p e f h l/\GrN c.NI w (w.setCell ⟨c.J,2,none⟩ (.int .i64 st')):=by
 have o:GrN (λk=>k=c.J) w (w.setCell ⟨c.J,2,none⟩ (.int .i64 st')):=GrN.set _ rfl;have j:GrN c.NI w (w.setCell ⟨c.J,2,none⟩ (.int .i64 st')):=GrN.set _ (.inl rfl);refine⟨⟨H.env.gr (j.mono λk _ u=>hok.sub k u),λi hi=>?_,Jt H.row o (λg D=>H.rowJ D),H.zl,⟨_,hJ.set 2 _⟩,hY.keep _ _ _ H.y j⟩,j⟩;obtain⟨st,C⟩:=H.its i hi;exact⟨st,Jb C o (hok.gj i hi)⟩
theorem Qvk(h:Xw vs): vs.Nodup:=h.imp λh e=>by omega
theorem Jmx(n:Nat): (madeCells (Value.slice none 0 0).cells (n*1)).toList=List.replicate n (Value.slice none 0 0):=by rw[Nat.mul_one];exact Ux _ _
theorem Qfz{ts:List TA}{Aa:Option Addr}{rs:Nat->List Row}{Y:Nat->List Row->World->Prop}(hok:RunOk n ts vars rs)(hR:Rd w 3 Aa ts.length (atC ts))(hat:∀ p∈ts,AtV w p.1 p.2)(hbx:∀ k,bx' k->k<w.heap.size)(hY:YS w.heap.size yv bx' Y)(hY0:∀ w',Ext w w'->Y w'.heap.size [] w')(hcap:∀ l:List Row,Lt [] l->(∀ x∈l,Vh n ts.length vars rs x)->l.length<=65536):
  Ret Tryz.prog 196 [.int .i64 (n:Int),.slice Aa ts.length ca,yv] w λu w'=>GrN bx' w w'/\∃ st base l,u=.tuple #[.int .i64 st,.int .i64 0]/\base<=w'.heap.size/\Y base l w'/\Lt [] l/\∀ x,x∈l↔Vh n ts.length vars rs x:=by
 have di:=hok.n32;have dk:=hok.m32;obtain⟨m,hm⟩:∃ m,m=ts.length:=⟨_,rfl⟩;obtain⟨bh,first,bi,eu,d2⟩:=hY.call;subst eu;refine enE Tryz.func196 Tryz.ntmps196 ?_;refine ρ ?_;have d9:Ext w w.drew:=(Ext.refl w).drew;refine drG kr ?_;refine Vq (fuel':=5) [(0,0),(0,2),(0,4)] #[true,false,true,false,true,false,false,false] kr kr rfl ?_;refine ρd ?_;refine Vx ?_;refine gcut 3 #[true,true,true,true,true,false,false,false] (fun (x:Option Addr×Option Addr)=>[(0,.int .i64 (n:Int)),(1,.slice Aa ts.length ca),(2,.func (.func bh) first bi),(24,.slice x.1 n n),(26,.slice x.2 n n),(27,.func (.func bh) first bi)])
  (λx w'=>Ext w.drew w'/\Xl w' w.heap.size (.slice x.1 n n) (List.replicate n V0)/\w'.ownsRow w.heap.size 314 1 (.slice x.2 n n) n (List.replicate n (.slice none 0 0))) ?_ ?_
 .rintro⟨Ra,Ba⟩ w1 ⟨de,ay,ce⟩;refine Vq (fuel':=0) [(1,5),(1,6),(0,7)] #[true,true,true,true,true,true,true,true] kr kr rfl ?_;refine Gb ?_;refine bld (Xzs _ _ _ _ _ _ _) ?_;refine Jd (Gy (Ext.refl _) ?_);refine Gb ?_;refine bx ?_;intro w2 J a1 hJ f0;refine Jd (Gy a1 ?_);refine ρd ?_;refine Vx ?_;refine gend kr ?_;refine ρ ?_;have ab:Ext w w2:=(d9.trans de).trans a1;have dz:w.heap.size<=J:=nL (d9.trans de).size hJ;obtain⟨K,hK⟩:∃ K:RK,K=⟨n,vars,rs,w.heap.size,J,Ra,Ba,.func (.func bh) first bi⟩:=⟨_,rfl⟩;have H2:RB K 0 ⟨λ_=>0,λ_=>none,λ_=>0,λ_=>0,.slice none 0 0,λ_=>.slice none 0 0⟩ (λ_=>[]) [] w2:=by
   subst hK;refine⟨f0,Jk ay a1,?_,⟨λi hi=>Zy _ _ _ _,λi j g _ _ _ e=>(by cases e)⟩,Zy _ _ _ _,λv g _ e=>(by cases e),λj hj=>om,λj hj=>om,λj k hj=>om,λi j hi=>om,λi j _ hj=>om,λj hj=>om,λj hj=>om,dz⟩;have:=Jk ce a1;have e:List.replicate n (Value.slice none 0 0)=(List.range n).map λ_=>Value.slice none 0 0:=by simp[List.map_const']
   rw[e]at this;exact this
  clear ay ce;refine Qy (fun (i:Nat)=>[(0,.int .i64 (n:Int)),(1,.slice Aa ts.length ca),(8,.pointer (some ⟨J,0,none⟩)),(30,.slice Aa ts.length ca),(31,.int .i64 (ts.length:Int)),(32,.int .i64 (i:Int))])
   (λi w'=>i<=ts.length/\Ext w2 w'/\∀ j,j<i->rs j≠[]) (λi=>ts.length-i) 0 sB ⟨Nat.zero_le _,Ext.refl _,λj hj=>om⟩ ?_
  rintro i w3 ⟨hi,C,c7⟩;refine ciR (λh=>?_) (λh=>?_)
  .have li:i<ts.length:=by have:=oT h;omega
   have e7:=hR.ext (ab.trans C);obtain⟨t1,t2,t3,a,hp⟩:∃ t1 t2 t3 a,ts.getD i ta0=((t1,t2,t3),a):=⟨_,_,_,_,rfl⟩;have a8:AtV w (t1,t2,t3) a:=by have:=hat _ (Jyj rfl li);rw[hp]at this;exact this
   have ea:a=⟨nz (vars i),(vars i).length,rs i⟩:=by have:=hok.at_ i li;rw[hp]at this;exact this
   clear h;obtain⟨⟨D,d,e1,hd,f3,dt⟩,e2,a6⟩:=id a8;simp only at e1 e2;subst e1;subst e2;obtain⟨ps,G,gc,_,ax,_⟩:=id a6;simp only at ax;subst ax;refine Qp 3 i e7 li ?_;refine Js (cs:=[.slice D a.vars.length d,.int .i64 (a.ar:Int),.slice G ps.length gc]) (λj u hu=>Jvk e7 rfl li (by rw[hp];exact hu)) ?_;refine Jv Yg ?_;intro w4 b a5 hb hB;refine Qb hB ?_ a8.one;intro w5 fb cz cp;have aq:Ext w3 w5:=cp w3 a5 hb;refine Js (cs:=[.int .i64 (a.ar:Int),.slice G ps.length gc]) (fb.sub2 (i:=1) rfl rfl) ?_;refine clR (Jwb ((a8.ext (((ab.trans C).trans aq))).rel)) ?_;rintro u w6 ⟨rfl,bn⟩;refine ciR (λh=>?_) (λh=>?_)
   .refine ρ ?_;have bw:Ext w w6:=((ab.trans C).trans aq).trans bn;refine Vc ⟨(GrN.ext bw),0,w6.heap.size,[],rfl,Nat.le_refl _,hY0 w6 bw,List.Pairwise.nil,λx=>⟨λhx=>(by cases hx),λhx=>?_⟩⟩;have o:=hx.2 i li;have Z:a.rows.length=0:=by have:=Zx h;omega
    rw[ea]at Z;have h3:rs i=[]:=List.eq_nil_of_length_eq_zero Z;rw[h3]at o;cases o
   have Z:rs i≠[]:=λe=>by
    have h3:=Xu h;rw[ea,e]at h3;exact h3 rfl
   refine ρ ?_;refine Qw (i+1) sO ⟨om,(C.trans aq).trans bn,λj hj=>?_⟩ om;by_cases e:j=i
   .rw[e];exact Z
   exact c7 j om
  have cy:i=ts.length:=by have:=oF h;omega
  subst cy;refine ρ ?_;refine Jo (fun (q:Nat) (S:RS)=>[(0,.int .i64 (n:Int)),(8,.pointer (some ⟨J,0,none⟩)),(11,S.va),(41,.slice Aa ts.length ca),(42,.int .i64 (ts.length:Int)),(43,.int .i64 (q:Int))])
   (λq S w'=>q<=ts.length/\Ext w w'/\RB K q S (Vw vars S.G q) ((List.range q).map λj=>itp (S.G j)) w') (λq _=>ts.length-q) 0 ⟨λ_=>0,λ_=>none,λ_=>0,λ_=>0,.slice none 0 0,λ_=>.slice none 0 0⟩ sB
   ⟨Nat.zero_le _,ab.trans C,H2.ext C⟩ ?_
  rintro q S w4 ⟨hq,a5,H4⟩;refine ciR (λh=>?_) (λh=>?_)
  .have lq:q<ts.length:=by have:=oT h;omega
   have e6:=hR.ext a5;obtain⟨t1,t2,t3,a,hp⟩:∃ t1 t2 t3 a,ts.getD q ta0=((t1,t2,t3),a):=⟨_,_,_,_,rfl⟩;have a8:AtV w (t1,t2,t3) a:=by have:=hat _ (Jyj rfl lq);rw[hp]at this;exact this
   have ea:a=⟨nz (vars q),(vars q).length,rs q⟩:=by have:=hok.at_ q lq;rw[hp]at this;exact this
   subst ea;clear h;obtain⟨⟨D,d,e1,hd,f3,dt⟩,e2,a6⟩:=id a8;simp only at e1 e2;subst e1;subst e2;obtain⟨ps,G,gc,_,ax,_⟩:=id a6;simp only at ax;subst ax;have dh:=Qf (vars q);have fi:(vars q).length<=n:=Jvl (hok.asc q lq) (hok.lt q lq);refine Qp 3 q e6 lq ?_;refine Js (cs:=[.slice D (nz (vars q)).length d,.int .i64 ((vars q).length:Int),.slice G ps.length gc]) (λj u hu=>Jvk e6 rfl lq (by rw[hp];exact hu)) ?_;refine Jv Yg ?_;intro w5 b cp hb hB;refine Qb hB ?_ a8.one;intro w6 ef bs bn;have bz:Ext w4 w6:=bn w4 cp hb;have H6:=H4.ext bz;refine ldR (ef.at (i:=0) rfl) ?_;refine ρ ?_;rw[dh];refine mkn EI (vars q).length om (by unfold maxLen;omega) ?_;intro w7 O da cw fl;rw[Xqr]at cw;refine ρ ?_;refine Qy (fun (t:Nat)=>[(0,.int .i64 (n:Int)),(8,.pointer (some ⟨J,0,none⟩)),(11,S.va),(41,.slice Aa ts.length ca),(42,.int .i64 (ts.length:Int)),(43,.int .i64 (q:Int)),(13,.pointer (some ⟨b,0,none⟩)),(14,.slice O (vars q).length (vars q).length),(51,.slice O (vars q).length (vars q).length),(52,.int .i64 ((vars q).length:Int)),(53,.int .i64 (t:Int))])
    (λt w'=>t<=(vars q).length/\Ext w6 w'/\w'.ownsRow w6.heap.size 3 1 (.slice O (vars q).length (vars q).length) (vars q).length (Gc (vars q).length t)) (λt=>(vars q).length-t) 0 sB
    ⟨Nat.zero_le _,da,cw⟩ ?_
   clear cw da;rintro t w8 ⟨ht,bm,b5⟩;refine ciR (λh=>?_) (λh=>?_)
   .have lt:t<(vars q).length:=by have:=oT h;omega
    clear h;refine ixR t (Rd.own b5) lt ?_;obtain⟨s1,s2,s3,s4,s5⟩:=Zn b5 (q:=t) om (.int .i64 (t:Int));have dx:t<(Gc (vars q).length t).length:=by rw[Xqp];exact lt
    refine Xv (s1.trans (gE dx)) s2 ?_;rw[Xqn lt]at s3;have ap:Ext w6 (w8.setCell (adr O t) (.int .i64 (t:Int))):=Qg bm s5 (λk U=>by
     obtain⟨_,_,_,_,hf⟩:=Jy b5;exact(hf k U).1)
    refine ρ ?_;exact Qw (t+1) sO ⟨om,ap,s3⟩ om
   have cr:t=(vars q).length:=by have:=oF h;omega
   subst cr;clear h;rw[Xqq]at b5;have ee:=ef.ext bm;have bv:Ext w w8:=(a5.trans bz).trans bm;have d0:IntsV w8 (.slice O (vars q).length (vars q).length) (nz (List.range (vars q).length)):=by
    have e:(nz (List.range (vars q).length)).length=(vars q).length:=by rw[Qf,List.length_range]
    exact⟨O,(vars q).length,by rw[e],by rw[e];exact nR _,by rw[e];omega,by rw[e];exact Rd.own b5⟩
   refine Js (cs:=[.int .i64 ((vars q).length:Int),.slice G ps.length gc]) (ee.sub2 (i:=1) rfl rfl) ?_;refine clR (Qck (a8.ext bv).rel (hok.srt q lq) (hok.len q lq) d0 (show(vars q).length<=32 by omega) (hok.big q lq)) ?_;rintro u w9 ⟨ap,tv,rfl,⟨bj,rfl⟩,e4⟩;refine Jv Jcq ?_;intro fh b2 dd f4 fa;refine Qb (cs':=[.slice bj (vars q).length (vars q).length]) fa ?_ (Qmt _ _ _);intro d8 eh fe dc;have ac:Ext w9 d8:=dc w9 dd f4;refine Qq eh ?_;refine clR (Qcl d8) ?_;rintro u d7 ⟨au,g,rfl,dq,cg⟩;have H8:=H6.ext bm;have e0:Off (λk=>k<w8.heap.size) w9 (λu=>TriA u bj (K.vars q).length (K.rs q)):=by
    subst hK;exact e4.imp λu h=>h.a
   have bf:ItB d7 g bj (K.vars q).length 0 0 0 (λ_=>0) (λ_=>0) 0:=by subst hK;exact cg
   have ep:=H8.iter ap e0 (ac.trans au) (nL ac.size dq) bf;have bg:=ee.ext (((ap.trans ac)).trans au);have bu:K.n=n:=by rw[hK]
   have d5:K.base=w.heap.size:=by rw[hK]
   have f7:K.J=J:=by rw[hK]
   have ba:K.Ba=Ba:=by rw[hK]
   have an:Ext w d7:=(bv.trans ap).trans (ac.trans au);have cx:∀ {w':World} {e sz m':Nat} {v:Value} {xs:List Value},w'.ownsRow K.base e sz v m' xs->∀ k,v.ownBlock=some k->w.heap.size<=k:=λho k ek=>by
    obtain⟨_,_,_,_,hf⟩:=Jy ho;rw[<-d5];exact(hf k ek).1
   refine Qk (Qwf (some ⟨g,0,none⟩)) ?_;intro fg b3 a3 fk fd;have bl:=ep.ext a3;refine ρ ?_;refine apb (base:=K.base) EIt bl.all (fd.rd (n:=1) rfl) (λu hu=>by rw[List.mem_singleton.1 hu];rfl) (by unfold maxLen;simp;omega) (by simp;omega) (by rw[d5];exact(an.trans a3).size) ?_;intro co et c6 ag c8;have eo:=bl.pushAll c6 ag c8;have cj:=(bg.ext a3).grown ag ((bg.ext a3).ne_own bl.all rfl);have c0:Ext w et:=Qg (an.trans a3) ag (cx bl.all);refine ldR (cj.at (i:=0) rfl) ?_;refine ρ ?_;refine Jo (fun (t:Nat) (vt:Nat->Value)=>[(0,.int .i64 (n:Int)),(8,.pointer (some ⟨J,0,none⟩)),(11,co),(41,.slice Aa ts.length ca),(42,.int .i64 (ts.length:Int)),(43,.int .i64 (q:Int)),(18,.pointer (some ⟨g,0,none⟩)),(78,.slice D (nz (vars q)).length d),(79,.int .i64 ((nz (vars q)).length:Int)),(80,.int .i64 (t:Int))])
    (λt vt w'=>t<=(vars q).length/\Ext w w'/\RB K (q+1) { G:=upd S.G q g,A:=upd S.A q bj,lo:=upd S.lo q w8.heap.size,hi:=upd S.hi q w9.heap.size,va:=co,vat:=vt } (λv=>Vw vars S.G q v++if v∈(vars q).take t then[itp g] else[]) (((List.range q).map λj=>itp (S.G j))++[itp g]) w') (λt _=>(vars q).length-t) 0 S.vat sB
    ⟨Nat.zero_le _,c0,?_⟩ ?_
   .have e:(λv=>Vw vars S.G q v++if v∈(vars q).take 0 then[itp g] else[])=Vw vars S.G q:=by funext v;simp
    rw[e];exact eo
   clear eo bl c6 ag c8 cj c0 ep bg cg bf e4 e0;rintro t vt cn ⟨ht,af,am⟩;refine ciR (λh=>?_) (λh=>?_)
   .have lt:t<(vars q).length:=by have:=oT h;omega
    clear h;obtain⟨vi,cq⟩:∃ vi,vi=(vars q).getD t 0:=⟨_,rfl⟩;have ew:vi∈vars q:=by rw[cq];exact getD_mem' 0 _ lt
    have aj:vi<n:=hok.lt q lq vi ew;have av:vi<K.n:=by rw[bu];exact aj
    have ch:=dt.ext af;refine ixR t ch (by rw[dh];exact lt) ?_;refine ldR (ch.cell (Xg lt)) ?_;rw[<-cq];obtain⟨own,az⟩:∃ own,own=(vt vi).ownBlock:=⟨_,rfl⟩;have be:=am.jb;rw[f7,ba,bu]at be;have a7:=am.at_;rw[bu,ba]at a7;have b1:=am.lists.own vi av;have nJ:¬ one own J:=λe=>by
     have o:own=some J:=e;exact be.ne_own b1 rfl (by rw[<-o];exact az)
    have nA:∀ ad,Ba=some ad->¬ one own ad.block:=λad e h'=>by
     subst e;exact Jxv a7 b1 rfl rfl (by have o:own=some ad.block:=h';rw[<-o];exact az.symm)
    refine ρ ?_;refine drN (one own) 8 (scq 17 [13,14,116]) kr ?_;have a2:Ext cn cn.drew:=(Ext.refl cn).drew;have en:=am.ext a2;have bd:=be.ext a2;have ah:=Jk a7 a2;have d1:((List.range n).map vt)[vi]?=some (vt vi):=by simp[aj]
    refine ρn ?_;refine nld (Jr (bd.at (i:=1) rfl) nJ) ?_;refine ρn ?_;refine nld (Jr (bd.at (i:=1) rfl) nJ) ?_;refine ρn ?_;refine nix vi (Rd.own ah) aj ?_;refine ρn ?_;refine nld (λw' hg=>(Vn (Rd.own ah) hg (λ_ ad e=>nA ad e)).cell d1) ?_;refine ρn ?_;refine nop ?_;refine bsl (Qwf (some ⟨g,0,none⟩)) ?_;intro ff b4 ae fj fc;refine ρ ?_;refine Ja (GrN.ext ae) ?_;have ak:=en.ext ae;refine nop ?_;have dx:=Xqz vars S.G q vi;refine apb (base:=K.base) EIt (ak.lists.own vi av) (fc.rd (n:=1) rfl) (λu hu=>by rw[List.mem_singleton.1 hu];rfl) ?_ ?_ (by rw[d5];exact((af.trans a2).trans ae).size) ?_
    .rw[List.length_append];unfold maxLen;split<;>simp<;>omega
    .rw[List.length_append];split<;>simp<;>omega
    intro v4 er dg b6 dj;refine ρ ?_;refine Ja (GrN.by b6 λj ej=>by rw[<-az]at ej;exact ej) ?_;obtain⟨c1,c2,c3,em,c9⟩:=ak.pushAt av dg b6 dj;rw[ba]at c1 c2 em c9;have cm:=Zg ak.at_ (ak.lists.own vi av) b6 rfl;rw[bu,ba]at cm;refine ρn ?_;refine nix vi (Rd.own cm) aj ?_;refine ρn ?_;refine Xh ?_;refine sto c1 c2 ?_ (hv:=c3);have db:Ext w (er.setCell (adr Ba vi) v4):=c9.old ((af.trans a2).trans ae) (λk U=>by
     rcases U with U|U
     .exact cx (ak.lists.own vi av) k U
     exact cx ak.at_ k (by rw[ba];exact U))
    refine ω5 ?_;refine Gz ?_;refine ρn ?_;refine ρ ?_;refine Jl (t+1) (upd vt vi v4) sO ⟨om,db,?_⟩ om;have df:(vars q).take (t+1)=(vars q).take t++[vi]:=by rw[Qt 0 lt,cq]
    have ey:vi ∉ (vars q).take t:=λhm=>by
     have o:((vars q).take (t+1)).Nodup:=(Qvk (hok.asc q lq)).sublist (List.take_sublist _ _);rw[df,List.nodup_append]at o;exact o.2.2 _ hm _ (List.mem_singleton.2 rfl) rfl
    have e:upd (λv=>Vw vars S.G q v++if v∈(vars q).take t then[itp g] else[]) vi ((Vw vars S.G q vi++if vi∈(vars q).take t then[itp g] else[])++[.pointer (some ⟨g,0,none⟩)])=(λv=>Vw vars S.G q v++if v∈(vars q).take (t+1) then[itp g] else[]):=by
     funext v
     rw[df];by_cases e:v=vi
     .subst e;rw[Ju,if_neg ey,if_pos (by simp)];simp[itp]
     rw[Jm _ _ e];congr 1
     by_cases o:v∈(vars q).take t
     .rw[if_pos o,if_pos (by simp[o])]
     rw[if_neg o,if_neg (by simp[o,e])]
    rw[<-e];exact em
   have cr:t=(vars q).length:=by have:=oF h;omega
   subst cr;clear h;refine ρ ?_;refine Jl (q+1) ⟨upd S.G q g,upd S.A q bj,upd S.lo q w8.heap.size,upd S.hi q w9.heap.size,co,vt⟩ sO ⟨om,af,?_⟩ om;have e1:(λv=>Vw vars S.G q v++if v∈(vars q).take (vars q).length then[itp g] else[])=Vw vars (upd S.G q g) (q+1):=by
    funext v
    rw[Xqx,List.take_length,Ju,Xxb (G':=upd S.G q g) (λj hj=>(Jm _ _ om).symm)]
   have e2:((List.range q).map λj=>itp (S.G j))++[itp g]=(List.range (q+1)).map λj=>itp (upd S.G q g j):=by
    rw[List.range_succ,List.map_append,List.map_singleton,Ju];congr 1
    refine List.map_congr_left λj hj=>?_;have:=List.mem_range.1 hj;rw[Jm _ _ om]
   rw[e1,e2]at am;exact am
  have ex:q=ts.length:=by have:=oF h;omega
  subst ex;clear h;subst hK;obtain⟨h0,br⟩:∃ h0,h0=w4.heap.size:=⟨_,rfl⟩;obtain⟨a9,ai⟩:∃ a9:Nat->Prop,a9=λk=>k=J∨(∃ i,i<ts.length/\k=S.G i)∨(Value.slice Ra n n).ownBlock=some k:=⟨_,rfl⟩;obtain⟨c,hc⟩:∃ c:JC,c=⟨⟨S.G,S.A,λi=>(vars i).length,rs⟩,n,ts.length,vars,J,Ra,w.heap.size,.slice Ba n n,.func (.func bh) first bi,S.vat,λk=>bx' k∨h0<=k∨a9 k⟩:=⟨_,rfl⟩;have d4:∀ k,c.NI k↔a9 k:=λk=>by subst hc;subst ai;exact Iff.rfl
  have bt:∀ k,c.N k↔bx' k∨h0<=k∨a9 k:=λk=>by subst hc;exact Iff.rfl
  have e9:J<h0:=by rw[br];exact H4.jb.lt
  have c4:∀ {e sz m':Nat} {v:Value} {xs:List Value},w4.ownsRow w.heap.size e sz v m' xs->∀ k,v.ownBlock=some k->w.heap.size<=k/\k<h0:=λho k ek=>by
   obtain⟨_,_,_,_,hf⟩:=Jy ho;rw[br];exact hf k ek
  have b9:∀ k,a9 k->w.heap.size<=k/\k<h0:=λk U=>by
   subst ai;rcases U with U|⟨i,hi,U⟩|U
   .subst U;exact⟨dz,e9⟩
   .subst U;have o:=(H4.its i hi).lt;have Z:=H4.jg i hi;simp only at Z;omega
   exact c4 H4.row k U
  have f6:∀ k,k<h0->¬ bx' k->¬ a9 k->¬ c.N k:=λk o Z h3 h4=>by
   rcases(bt k).1 h4 with h5|h5|h5
   .exact Z h5
   .omega
   exact h3 h5
  have cd:∀ k,w.heap.size<=k->¬ bx' k:=λk U hb=>by have:=hbx k hb;omega
  have aa:∀ {e sz m':Nat} {v:Value} {xs:List Value},w4.ownsRow w.heap.size e sz v m' xs->Nat.beq e 313=false->Nat.beq e 340=false->Nat.beq 147 e=false->∀ k,v.ownBlock=some k->¬ c.N k:=λho e1 e2 e3 k ek=>by
   have o:=c4 ho k ek;refine f6 k o.2 (cd k o.1) λZ=>?_;subst ai;rcases Z with Z|⟨i,hi,Z⟩|Z
   .subst Z;exact H4.jb.ne_own ho e1 ek.symm
   .subst Z;exact(H4.its i hi).ne_own ho e2 ek.symm
   exact Jxv H4.row ho e3 Z ek
  have f8:∀ v,c.I v=(List.range ts.length).filter λi=>decide (v∈vars i):=λv=>by subst hc;rfl
  have c5:∀ v,Jxr c.F (c.I v)=Vw vars S.G ts.length v:=λv=>by rw[f8];subst hc;rfl
  have eb:∀ v,(c.I v).length=(Vw vars S.G ts.length v).length:=λv=>by rw[<-c5];simp[Jxr]
  have bb:JOk c:=by
   have dm:∀ i j,i<ts.length->j<ts.length->S.G i=S.G j->i=j:=λi j hi hj e=>by
    rcases Nat.lt_trichotomy i j with o|o|o
    .have:=H4.ginj i j o hj;omega
    .exact o
    have:=H4.ginj j i o hi;omega
   have f2:∀ i,i<ts.length->S.G i≠J:=λi hi e=>by have:=H4.jg i hi;simp only at this;omega
   have du:∀ i,i<ts.length->(vars i).length<=32:=λi hi=>by have:=Jvl (hok.asc i hi) (hok.lt i hi);omega
   subst hc;exact⟨di,dk,hok.asc,hok.lt,λi _=>rfl,du,c7,hok.srt,hok.len,hok.big,dm,f2,hok.cov,λk U=>.inr (.inr ((d4 k).1 U))⟩
  have d6:JEnv c w4:=by
   refine⟨λi hi=>?_,⟨Ba,n,by subst hc;rfl,?_⟩,λv hv=>?_⟩
   .have bq:i<ts.length:=by subst hc;exact hi
    have o:=H4.tri i bq;have Z:Off c.N w4 (λu=>TriA u (S.A i) (vars i).length (rs i)):=o.mono λk U h=>by
     have h3:=(H4.jlo i bq);have h4:=H4.iv i k bq;simp only at h3;rcases(bt k).1 h with h5|h5|h5
     .have:=hbx k h5;exact .inl om
     .omega
     subst ai;rcases h5 with h5|⟨i',cy,h5⟩|h5
     .exact h4 (.inl h5)
     .subst h5;exact H4.gi i' i cy bq
     exact h4 (.inr (.inl h5))
    subst hc;exact Z
   .have o:=Jxt H4.at_ (aa H4.at_ rfl rfl rfl);have Z:=o.imp (Ψ:=λu=>Rd u 1 Ba n ((List.range n).map S.vat)) λu h=>Rd.own h;have:c.n=n/\c.vat=S.vat:=by subst hc;exact⟨rfl,rfl⟩
    rw[this.1,this.2];exact Z
   have aj:v<n:=by subst hc;exact hv
   have ho:=H4.lists.own v aj;obtain⟨B,cc,e1,e2,e3⟩:=Jy ho;have:c.vat v=S.vat v:=by subst hc;rfl
   refine⟨B,cc,by rw[this,e1,eb],?_⟩;rw[c5,eb];refine(Jxt ho (aa ho rfl rfl rfl)).imp λu h=>?_;rw[e1]at h;exact Rd.own h
  have d3:YC c (λl u=>Y h0 l u/\h0<=u.heap.size) (λk=>bx' k∨h0<=k):=by
   refine⟨λk U=>(bt k).2 (by rcases U with h|h;(exact .inl h);exact .inr (.inl h)),λk U h=>?_,λl u u' h hg=>⟨hY.keep _ _ _ _ h.1 (hg.mono λk _ U=>?_),Nat.le_trans h.2 hg.size⟩,bh,first,bi,by subst hc;rfl,λl u vr z h hr hl=>?_⟩
   .have o:=b9 k ((d4 k).1 h);rcases U with Z|Z
    .exact cd k o.1 Z
    omega
   .have o:=b9 k ((d4 k).1 U);exact o
   refine(d2 h0 l u vr z h.2 h.1 hr hl).mono ?_;rintro r u' ⟨o,Z,h3⟩;exact⟨o,⟨Z,Nat.le_trans h.2 h3.size⟩,h3⟩
  have dv:c.n=n:=by subst hc;rfl
  have dw:c.m=ts.length:=by subst hc;rfl
  have ed:Cfg c (λl u=>Y h0 l u/\h0<=u.heap.size) w4 (List.replicate n V0) (λi=>lv (c.vars i) 0) (λ_=>0) (λ_=>0) (λ_ _=>0) (λ_ _=>0) []:=by
   refine⟨d6,λi hi=>⟨0,?_⟩,?_,by rw[dv];simp,⟨0,?_⟩,by rw[br];exact hY0 w4 a5,by rw[br];exact nR _⟩
   .simp only[Jwk];rw[dw]at hi;have:=H4.its i hi;subst hc;exact this
   .have:=H4.row;subst hc;exact this
   have:=H4.jb;subst hc;exact this
  have ck:∀ x,c.Ans x↔Vh n ts.length vars rs x:=λx=>by subst hc;exact Iff.rfl
  have e8:Pth c 0 (List.replicate n V0) (λ_=>0) (λ_=>0):=by
   refine⟨λi hi=>?_,λi hi h=>?_⟩
   .rw[Jwk,Uq,if_pos rfl,List.take_zero]
   rw[Jwk]at h;omega
  have b7:c.J=J:=by subst hc;rfl
  refine ρ ?_;have cb:=Xjb bb d3 (λl o Z=>hcap l o λx hx=>(ck x).1 (Z x hx)) n 0 (List.replicate n V0) (λ_=>0) (λ_=>0) (λ_ _=>0) (λ_ _=>0) [] w4 (by rw[dv];omega) ed e8 List.Pairwise.nil (λx hx=>by cases hx) (λx hx=>by cases hx);rw[b7]at cb;refine cl cb ?_;rintro u w5 ⟨rfl,cz,z5,f5,h5,l5,H5,_,_,dl,ez⟩;have b8:w5.ownsRow w.heap.size 320 1 S.va ts.length ((List.range ts.length).map λj=>itp (S.G j)):=by
   have o:=H4.all;rw[List.length_map,List.length_range]at o;exact Jt o cz (aa H4.all rfl rfl rfl)
  obtain⟨VA,vc,ei,_,_⟩:=Jy b8;rw[ei]at b8 ⊢;have cv:Off c.N w5 (λu=>Rd u 1 VA ts.length ((List.range ts.length).map λj=>itp (S.G j))):=by
   refine(Jxt b8 λg eg=>?_).imp λu h=>Rd.own h;exact aa H4.all rfl rfl rfl g (by rw[ei];exact eg)
  refine ρ ?_;refine Qy (fun (i:Nat)=>[(8,.pointer (some ⟨J,0,none⟩)),(104,.slice VA ts.length vc),(105,.int .i64 (ts.length:Int)),(106,.int .i64 (i:Int))])
   (λi w'=>i<=ts.length/\GrN c.N w5 w'/\Cfg c (λl u=>Y h0 l u/\h0<=u.heap.size) w' z5 (λi=>lv (c.vars i) 0) (λ_=>0) (λ_=>0) f5 h5 l5) (λi=>ts.length-i) 0 sB ⟨Nat.zero_le _,GrN.refl _ _,H5⟩ ?_
  rintro i w6 ⟨hi,bs,H6⟩;refine ciR (λh=>?_) (λh=>?_)
  .have li:i<ts.length:=by have:=oT h;omega
   clear h;have e5:=cv w6 bs;refine ixR i e5 li ?_;refine ldR (e5.cell (show((List.range ts.length).map λj=>itp (S.G j))[i]?=some (.pointer (some ⟨S.G i,0,none⟩)) by simp[li,itp])) ?_;obtain⟨sj,bc⟩:=H6.jb;rw[b7]at bc;refine ρ ?_;refine drN (λ_=>False) 10 (scq 10 [5,109]) kr ?_;have ao:Ext w6 w6.drew:=(Ext.refl w6).drew;have el:=H6.ext d3 ao;have a4:=bc.ext ao;obtain⟨si,ec⟩:=el.its i (by rw[dw];exact li);have f9:c.F.G i=S.G i:=by subst hc;rfl
   rw[f9]at ec;refine ρn ?_;refine nld (Jr (a4.at (i:=2) rfl) (λe=>e)) ?_;refine ρn ?_;refine nop ?_;refine cl (Qrs ec) ?_;rintro u w7 ⟨rfl,rfl⟩;refine ρ ?_;refine Ja (GrN.refl _ _) ?_;refine ρn ?_;refine Xh ?_;refine sto (p:=⟨J,2,none⟩) (a4.cell 2) (a4.frozen _) ?_;rw[<-b7]at a4;obtain⟨H8,dn⟩:=el.steps bb d3 a4 (IntKind.i64.wrap (sj+si));rw[b7]at H8 dn;refine ω5 ?_;refine Gz ?_;refine ρn ?_;refine ρ ?_;exact Qw (i+1) sO ⟨om,(bs.trans (GrN.ext ao)).trans (dn.mono λk _ U=>bb.sub k U),H8⟩ om
  clear h;obtain⟨sj,bc⟩:=H6.jb;rw[b7]at bc;refine ldR (bc.at (i:=2) rfl) ?_;refine ρ ?_;refine Vc ⟨GrN.cut a5 (cz.trans bs) λk U h=>?_,sj,h0,l5,rfl,H6.y.2,H6.y.1,dl,λx=>?_⟩
  .rcases(bt k).1 h with o|o|o
   .exact o
   .have:=a5.size;omega
   have:=(b9 k o).1;omega
  rw[ez,<-ck x];constructor
  .rintro(o|o)
   .cases o
   exact o.1
  intro o;exact .inr ⟨o,rfl⟩
 intro rest;refine Io 1 3 kr rfl rfl rfl ?_ ?_
 .refine ρ ?_;refine mkn EV n om (by unfold maxLen;omega) ?_;intro w2 A2 a1 bp _;refine Jd (Yq a1 ?_);refine Vq (fuel':=3) [(1,3)] #[true,true,true,true,true,false,false,false] kr kr rfl ?_;refine Gb ?_;refine mkn EIts n om (by unfold maxLen;omega) ?_;intro w3 A3 C bo _;refine Jd (Gy C ?_);refine Zc (Vx ?_);refine rest (A2,A3) _ _ ⟨a1.trans C,?_,?_⟩ sB
  .rw[Xl,List.length_replicate,<-Jkx];exact Jk bp C
  rw[Jmx]at bo;exact Jyw bo a1.size
 refine ρ ?_;refine mkn EIts n om (by unfold maxLen;omega) ?_;intro w2 A2 a1 bp _;refine Jd (Yq a1 ?_);refine Vq (fuel':=3) [(1,1)] #[true,true,true,true,true,false,false,false] kr kr rfl ?_;refine Gb ?_;refine mkn EV n om (by unfold maxLen;omega) ?_;intro w3 A3 C bo _;refine Jd (Gy C ?_);refine Zc (Vx ?_);refine rest (A3,A2) _ _ ⟨a1.trans C,?_,?_⟩ sB
 .rw[Xl,List.length_replicate,<-Jkx];exact Jyw bo a1.size
 rw[Jmx]at bp;exact Jk bp C
end Go.Proofs.YtgobkbeokaaplaaGreatDoor
namespace Go.Wk
open Go.RowKit
variable {d n t t2 ty:Nat}
theorem fnl{P:Program}{al:AL}{w:World}{Q:Exit->Act->World->Prop}{ops:Array Oper}{rest:List Oper}{pos:String}{aft:Array Edge}{tt:TT}[h:Tab P tt]{x:Operand}{k:TK}{ps rs:Array TypeId}{va:Bool}{f:Fn}{first cap:Array Value}(kk:WL P n ops Q rest ((d,.bool false)::al) w)(ht:tk tt t=some k:=by rfl)(hk:k.desc=.func ps rs va:=by rfl)(hx:ev al x=some (.func f first cap):=by rfl)(hd:Nat.blt d n=true:=by rfl):
  WL P n ops Q (⟨some d,.binOp .eql t x (.const .nilFunc) t2,ty,pos,aft,none⟩::rest) al w :=
 wop hd (λa j=>by
  have i:=Yv h.ok ht hk rfl;have u:a.eval (.const .nilFunc)=.nilFunc:=rfl;have o:∀ d:Nat,(Op.equalIn (d+1) t (.func f first cap) .nilFunc).run P w=.ok false w:=λd=>by simp[Op.equalIn,run_underlying i]
  simp[execOp,j.ev hx,u,eqGuard,binOp,Op.equal,Op.maxDepth,o 9999]) kk
end Go.Wk
namespace Go.Proofs.YtgobkbeokaaplaaGreatDoor
open Go.RowKit Pl Go.Wk
attribute [local irreducible] WC WL QX WD WDB WP WN WG
variable {b ca n s:Nat}{Y:Nat->List Row->World->Prop}{yv:Value}
structure YZ(s:Nat)(yv:Value)(bx:Nat->Prop)(Y:Nat->List Row->World->Prop): Prop where
 keep:∀ base l w w',Y base l w->GrN (λk=>s<=k/\k<base) w w'->Y base l w'
 call:∃ fid first cap,yv=.func (.func fid) first cap/\∀ base l w w1 vr z,base<=w.heap.size->Y base l w->Ext w w1->RowX w1 (λk=>k<w.heap.size) vr z->l.length<65536->Ret Tryz.prog fid (first.toList++[vr]++cap.toList) w1 λr w'=>r=.bool true/\Y base (l++[z]) w'/\GrN (λk=>bx k∨base<=k) w1 w'
theorem Xjl{bx:Nat->Prop}(hY:YZ s yv bx Y)(hb:s<=b)(hbx:∀ k,bx k->k<s):
  YS (b+1) (.func (.func 197) #[] #[.pointer (some ⟨b,0,none⟩)]) bx (λbase l w=>(Y base l w/\Blk w b 254 [yv])/\b<base):=by
 obtain⟨a5,first,a6,Z,C⟩:=hY.call;subst Z;refine⟨λbase l w w' h J=>⟨⟨hY.keep _ _ _ _ h.1.1 (J.mono λk _ U=>⟨om,U.2⟩),Jb h.1.2 J (λU=>om)⟩,h.2⟩,_,_,_,rfl,λbase l w vr z D h hr hl=>?_⟩;obtain⟨⟨hy,hB⟩,a3⟩:=h;have O:¬ (bx b∨base<=b):=by grind
 refine enE Tryz.func197 Tryz.ntmps197 ?_;refine ρ ?_;refine drN (λk=>bx k∨base<=k) 8 (scq 5 [2,3]) kr ?_;have j:Ext w w.drew:=(Ext.refl w).drew;have a4:=hB.ext j;have a1:=hY.keep _ _ _ _ hy (GrN.ext j);refine ρn ?_;refine nld (Jr (a4.at (i:=0) rfl) O) ?_;refine ρn ?_;refine nop ?_;refine cl (Gd (hr.ext j) (λk=>k<w.drew.heap.size) (λk U=>U)) ?_;rintro u w1 ⟨hu,o⟩;refine ρ ?_;refine Ja (GrN.ext o) ?_;refine nop ?_;refine clv (C base l w.drew w1 u z D a1 o hu hl) ?_;rintro r w2 ⟨rfl,a2,G⟩;refine ρ ?_;refine Ja G ?_;refine ρn ?_;refine ρ ?_;have J:GrN (λk=>bx k∨base<=k) w w2:=(GrN.ext (j.trans o)).trans G;exact Jj ⟨rfl,⟨⟨a2,Jb hB J O⟩,a3⟩,J⟩
theorem Xjk{w:World}{ts:List TA}{Aa:Option Addr}{vars:Nat->List Nat}{rs:Nat->List Row}{bx':Nat->Prop}(hok:RunOk n ts vars rs)(hR:Rd w 3 Aa ts.length (atC ts))(hle:ts.length<=ca)(hat:∀ p∈ts,AtV w p.1 p.2)(hchk:Jzz n (ts.map (·.2)))(hbx:∀ k,bx' k->k<w.heap.size)(hY:YZ w.heap.size yv bx' Y)(hY0:∀ w',Ext w w'->Y w'.heap.size [] w')(hcap:∀ l:List Row,Lt [] l->(∀ x∈l,Vh n ts.length vars rs x)->l.length<=65536):
  Ret Tryz.prog 171 [.int .i64 (n:Int),yv,.slice Aa ts.length ca] w λu w'=>GrN bx' w w'/\∃ st base l,u=.tuple #[.int .i64 st,.int .i64 0]/\w.heap.size<=base/\base<=w'.heap.size/\Y base l w'/\Lt [] l/\∀ x,x∈l↔Vh n ts.length vars rs x:=by
 have a4:=hok.m32;obtain⟨a2,first,a3,U,_⟩:=hY.call;subst U;refine enE Tryz.func171 Tryz.ntmps171 ?_;refine bxR ?_;intro w1 b o hb hB;refine clR (Qql (n:=(n:Int)) (ats:=ts.map (·.2)) ⟨ts,Aa,ca,rfl,rfl,hle,om,hR.ext o,λp Z=>(hat p Z).ext o⟩) ?_
 rintro u w2 ⟨G,e,rfl,he⟩;have e0:=he.2 hchk;subst e0;have D:=hB.ext G;refine ldR (D.at (i:=0) rfl) ?_;refine ρ ?_;refine fnl ?_;have j:=o.trans G;have a5:b+1<=w2.heap.size:=D.lt;refine clR (Qfz (bx':=bx') (Y:=λbase l w=>(Y base l w/\Blk w b 254 [.func (.func a2) first a3])/\b<base) hok (hR.ext j) (λp Z=>(hat p Z).ext j) (λk J=>nM (hbx k J) j.size) ?_ (λw' C=>⟨⟨hY0 w' (j.trans C),D.ext C⟩,by have:=C.size;omega⟩) hcap) ?_
 .have O:=Xjl hY hb hbx;exact⟨λbase l u u' h hg=>O.keep base l u u' h (hg.mono λk _ J=>⟨om,J.2⟩),O.call⟩
 rintro u w3 ⟨a1,st,base,l,rfl,O,⟨⟨h2,_⟩,h3⟩,h4,h5⟩;refine ρ ?_;exact Vc ⟨GrN.cut j a1 λk _ J=>J,st,base,l,rfl,om,O,h2,h4,h5⟩
end Go.Proofs.YtgobkbeokaaplaaGreatDoor
namespace Go.Wk
open Go.RowKit
variable {e:Act}{parts:Array (Nat×Operand)}{pw:Array (Nat×Value)}{a b:Int}{k1 k2:IntKind}{vs:List Value}{i s t v:Nat}{x y:Operand}{yt:TypeId}
section
variable {N:Nat->Prop} {P:Program} {n:Nat} {al:AL} {w:World} {Q:Exit->Act->World->Prop} {ops:Array Oper} {rest:List Oper} {drest:List (Nat×Oper)}
variable {d ty:Nat} {pos:String} {aft:Array Edge}
theorem Jsd{t:TypeId}(hx:ev al x=some (.int k1 a))(hy:ev al y=some (.int k2 b))(h0:0<=b)(he:Fr n al e)(dst:Option Nat)(w:World):
  (execOp e.eval ⟨dst,.binOp .shr t x y yt,ty,pos,aft,none⟩).run P w=.ok (.value (.int k1 (a.fdiv (2^(min b.toNat k1.bits))))) w:=by
 have i:¬ b<0:=om
 simp[execOp,he.ev hx,he.ev hy,eqGuard,binOp,Op.shift,i]
theorem Jkv{t:TypeId}(hx:ev al x=some (.int k1 a))(hy:ev al y=some (.int k2 b))(h0:0<=b)(he:Fr n al e)(dst:Option Nat)(w:World):
  (execOp e.eval ⟨dst,.binOp .shl t x y yt,ty,pos,aft,none⟩).run P w=.ok (.value (.int k1 (k1.wrap (a*2^(min b.toNat k1.bits))))) w:=by
 have i:¬ b<0:=om
 simp[execOp,he.ev hx,he.ev hy,eqGuard,binOp,Op.shift,i]
theorem Jrw(s v:Nat)(hv:v<=32): ((s:Int)).fdiv (2^(min ((v:Nat):Int).toNat 32))=((s / 2^v:Nat):Int):=by grind
theorem Kg(hv:v<32): 2^v<4294967296:=nM (Nat.pow_lt_pow_right (by decide:1<2) hv) (by decide)
theorem Jyl(hv:v<32): IntKind.u32.wrap (1*2^(min ((v:Nat):Int).toNat 32))=((2^v:Nat):Int):=by
 have h:=Kg hv;rw[Int.toNat_natCast,Nat.min_eq_left om,Int.one_mul];have:((2:Int)^v)=((2^v:Nat):Int):=by simp
 rw[this,IntKind.wrap_u32];grind
theorem Ib{t:TypeId}(hv:v<=32)(kk:WL P n ops Q rest ((d,.int .u32 ((s / 2^v:Nat):Int))::al) w)(hx:ev al x=some (.int .u32 (s:Int)):=by rfl)(hy:ev al y=some (.int .i64 (v:Int)):=by rfl)(hd:Nat.blt d n=true:=by rfl):
  WL P n ops Q (⟨some d,.binOp .shr t x y yt,ty,pos,aft,none⟩::rest) al w:=by
 rw[<-Jrw s v hv]at kk;exact wop hd (λa i=>Jsd hx hy om i (some d) w) kk
theorem sl32{t:TypeId}(hv:v<32)(kk:WL P n ops Q rest ((d,.int .u32 ((2^v:Nat):Int))::al) w)(hy:ev al y=some (.int .i64 (v:Int)):=by rfl)(hd:Nat.blt d n=true:=by rfl):
  WL P n ops Q (⟨some d,.binOp .shl t (.const (.int .u32 1)) y yt,ty,pos,aft,none⟩::rest) al w:=by
 rw[<-Jyl hv]at kk;exact wop hd (λa i=>Jkv (x:=.const (.int .u32 1)) rfl hy om i (some d) w) kk
theorem dsl32{t:TypeId}(hv:v<32)(kk:WD P n ops Q drest ((d,.int .u32 ((2^v:Nat):Int))::al) w)(hy:ev al y=some (.int .i64 (v:Int)):=by rfl)(hd:Nat.blt d n=true:=by rfl):
  WD P n ops Q ((0,⟨some d,.binOp .shl t (.const (.int .u32 1)) y yt,ty,pos,aft,none⟩)::drest) al w:=by
 rw[<-Jyl hv]at kk;exact dy (λw' _ a i=>Jkv (x:=.const (.int .u32 1)) rfl hy om i (some d) w') hd kk
theorem Jgg{t:TypeId}(hv:v<32)(kk:WN N P n ops Q drest ((d,.int .u32 ((2^v:Nat):Int))::al) w)(hy:ev al y=some (.int .i64 (v:Int)):=by rfl)(hd:Nat.blt d n=true:=by rfl):
  WN N P n ops Q ((0,⟨some d,.binOp .shl t (.const (.int .u32 1)) y yt,ty,pos,aft,none⟩)::drest) al w:=by
 rw[<-Jyl hv]at kk;exact ny_ (λw' _ a i=>Jkv (x:=.const (.int .u32 1)) rfl hy om i (some d) w') hd kk
end
section
variable {N:Nat->Prop} {P:Program} {n:Nat} {al:AL} {w:World} {Q:Exit->Act->World->Prop} {ops:Array Oper} {drest:List (Nat×Oper)}
variable {d ty:Nat} {pos:String} {aft:Array Edge}
theorem Jsl{v:Value}(hb:∀ w,(Instr.build t pw).run P w=.ok v w)(hx:evs al (parts.toList.map (·.2))=some vs)(hp:((parts.toList.map (·.1)).zip vs).toArray=pw){a:Act}(ha:Fr n al a)(dst:Option Nat)(w:World):
  (execOp a.eval ⟨dst,.build t parts,ty,pos,aft,none⟩).run P w=.ok (.value v) w:=by
 subst hp;have o:=ha.evs hx;have j:(parts.map fun (i,x)=>(i,a.eval x))=((parts.toList.map (·.1)).zip vs).toArray:=by grind
 simp only[execOp,j,Sem.run_bind,hb w];rfl
theorem Jqf{v:Value}(hb:∀ w,(Instr.build t pw).run P w=.ok v w)(kk:WN N P n ops Q drest ((d,v)::al) w)(hx:evs al (parts.toList.map (·.2))=some vs:=by rfl)(hp:((parts.toList.map (·.1)).zip vs).toArray=pw:=by rfl)(hd:Nat.blt d n=true:=by rfl): WN N P n ops Q ((0,⟨some d,.build t parts,ty,pos,aft,none⟩)::drest) al w :=
 ny_ (λw' _ a i=>Jsl hb hx hp i (some d) w') hd kk
theorem dbld{v:Value}(hb:∀ w,(Instr.build t pw).run P w=.ok v w)(kk:WD P n ops Q drest ((d,v)::al) w)(hx:evs al (parts.toList.map (·.2))=some vs:=by rfl)(hp:((parts.toList.map (·.1)).zip vs).toArray=pw:=by rfl)(hd:Nat.blt d n=true:=by rfl): WD P n ops Q ((0,⟨some d,.build t parts,ty,pos,aft,none⟩)::drest) al w :=
 dy (λw' _ a i=>Jsl hb hx hp i (some d) w') hd kk
end
theorem Gh(hs:s<4294967296): (bits .and .u32 ((s / 2^v:Nat):Int) 1 == 1)=s.testBit v:=by
 have i:s / 2^v<4294967296:=Nat.lt_of_le_of_lt (Nat.div_le_self _ _) hs;have j:=u32_and_nat (s / 2^v) 1 i om;grind
theorem Qwq(hs:s<4294967296): (bits .and .u32 ((s / 2^v:Nat):Int) 1 == 0) = !s.testBit v:=by
 have i:s / 2^v<4294967296:=Nat.lt_of_le_of_lt (Nat.div_le_self _ _) hs;have j:=u32_and_nat (s / 2^v) 1 i om;grind
def Kx(s t:Nat): Nat:=s &&& (4294967295-t)
theorem Qvm(hs:s<4294967296): Kx s t<4294967296:=by grind [Kx,Nat.lt_of_le_of_lt,Nat.and_le_left]
theorem Jmn(hs:s<4294967296)(ht:t<4294967296): (Kx s t).testBit i=(s.testBit i && !t.testBit i):=by
 unfold Kx;have e:4294967295-t=2^32-(t+1):=om
 rw[Nat.testBit_and,e,Nat.testBit_two_pow_sub_succ om];by_cases hi:i<32
 .grind
 have:s.testBit i=false:=Nat.testBit_lt_two_pow (nM hs (Nat.pow_le_pow_right (n:=2) (by decide) (show 32<=i by omega)));rw[this];rfl
theorem Jlw(hs:s<4294967296)(ht:t<4294967296): bits .andNot .u32 (s:Int) (t:Int)=((Kx s t:Nat):Int):=u32_andNot_nat s t hs ht
theorem Jqw(hs:s<4294967296)(ht:t<4294967296): bits .or .u32 (s:Int) (t:Int)=((s ||| t:Nat):Int):=u32_or_nat s t hs ht
theorem Jyx(hs:s<4294967296)(ht:t<4294967296): s ||| t<4294967296:=Nat.or_lt_two_pow (n:=32) hs ht
end Go.Wk
namespace Go.Proofs.YtgobkbeokaaplaaGreatDoor
open Go.RowKit Pl Go.Wk
attribute [local irreducible] WC WL QX WD WDB WP WN WG
variable {cs vars:List Nat}{b base c d k n s ty z:Nat}{w:World}
def Xj(vars:List Nat)(s:Nat): List Nat:=(List.range vars.length).filter λi=>s.testBit (vars.getD i 0)
def inS(vars:List Nat)(s:Nat): List Nat:=vars.filter λv=>s.testBit v
theorem Jzw(h:c∈Xj vars s): c<vars.length:=List.mem_range.1 (List.mem_filter.1 h).1
theorem Qhh(h:k<=n): (List.range n).take k=List.range k:=by grind
def Zk(vars:List Nat)(s k:Nat): List Nat:=(List.range k).filter λi=>s.testBit (vars.getD i 0)
theorem Ka(vars:List Nat)(s k:Nat): Zk vars s (k+1)=Zk vars s k++if s.testBit (vars.getD k 0) then[k] else[]:=by grind [Zk,List.range_succ]
theorem Jwr(h:k<vars.length): inS (vars.take (k+1)) s=inS (vars.take k) s++if s.testBit (vars.getD k 0) then[vars.getD k 0] else[]:=by grind [inS,Qt,List.filter_cons_of_pos,List.filter_cons_of_neg]
theorem Jvg(vars:List Nat)(s:Nat): ∀ k,k<=vars.length->(Zk vars s k).length=(inS (vars.take k) s).length
 | 0,_=>by simp[Zk,inS]
 | k+1,h=>by
  rw[Ka,Jwr om,List.length_append,List.length_append,Jvg vars s k om];split<;>rfl
theorem Jtq(vars:List Nat)(s:Nat)(z:Row): ∀ k,k<=vars.length->pmR (Zk vars s k) (pmR vars z)=pmR (inS (vars.take k) s) z
 | 0,_=>by simp[Zk,inS,pmR]
 | k+1,h=>by
  have ih:=Jtq vars s z k om;rw[Ka,Jwr om];unfold pmR at *;grind
theorem bs1Int''(z:Int)(w:World): (Instr.buildSlice 26 1 #[(0,.int .i64 z)]).run Tryz.prog w=.ok (.slice (some ⟨w.heap.size,0,none⟩) 1 1) (w.alloc (.cells [.int .i64 z].toArray 3)):=kr
theorem Qmx(a b:List Nat): nz (a++b)=nz a++nz b:=by simp[nz]
theorem Qsf(a b:List Int): Je (a++b)=Je a++Je b:=by simp[Je]
abbrev Zd(w:World)(base:Nat)(v:Value)(cs:List Nat): Prop:=w.ownsRow base 3 1 v cs.length (Je (nz cs))
theorem apI{al:AL}{Q:Exit->Act->World->Prop}{ops:Array Oper}{rest:List Oper}{pos:String}{aft:Array Edge}{x y:Operand}{v:Value}(ho:Zd w base v cs)(hb:Blk w b 3 [.int .i64 (z:Int)])(hm:cs.length<=1100000)(hbase:base<=w.heap.size)(kk:∀ v' w',Zd w' base v' (cs++[z])->w.grownBy w' v.ownBlock->(∀ g,v'.ownBlock=some g->v.ownBlock=some g∨w.heap.size<=g)->WL Tryz.prog n ops Q rest ((d,v')::al) w')(hx:ev al x=some v:=by rfl)(hy:ev al y=some (.slice (some ⟨b,0,none⟩) 1 1):=by rfl)(hd:Nat.blt d n=true:=by rfl):
  WL Tryz.prog n ops Q (⟨some d,.call { callee:=.builtin .append,args:=#[x,y],argTypes:=#[26,26] },ty,pos,aft,none⟩::rest) al w:=by
 refine apb (base:=base) EI ho (hb.rd (n:=1) rfl) (λu j=>by rw[List.mem_singleton.1 j];rfl) (by unfold maxLen;omega) om hbase ?_ hx hy hd;intro v' w' i o hn;refine kk v' w' ?_ o hn;rw[Zd,List.length_append,Qmx,Qsf];exact i
theorem Xkq{t:V3}{rs:List Row}(hA:AtV w t ⟨nz vars,vars.length,rs⟩)(hs:s<4294967296)(hasc:Xw vars)(hlt:∀ v∈vars,v<32)(hlen:∀ r∈rs,r.length=vars.length)(hbig:rs.length<=65536):
  Ret Tryz.prog 170 [.agg t.cells.toArray,.int .u32 (s:Int)] w λu w'=>Ext w w'/\∃ t':V3,u=.tuple #[.agg t'.cells.toArray,.int .i64 0]/\∃ m,Off (λk=>k<w.heap.size) w' (λx=>AtV x t' ⟨nz (inS vars s),(inS vars s).length,m⟩)/\m.length<=65536/\(∀ x∈m,x∈rs.map (pmR (Xj vars s))) /\
   ((rs.length<=12∨Srt [] (rs.map (pmR (Xj vars s))))->IsSet [] (rs.map (pmR (Xj vars s))) m):=by
 obtain⟨t1,t2,t3⟩:=t;obtain⟨⟨D,d,e1,hd,d7,ca⟩,e2,bd⟩:=id hA;simp only at e1 e2;subst e1;subst e2;obtain⟨ps,G,gc,_,c3,_⟩:=id bd;simp only at c3;subst c3;have d0:=Qf vars;have dg:=Jvl hasc hlt;refine enE Tryz.func170 Tryz.ntmps170 ?_;refine bxR ?_;intro w1 b c0 hb hB;refine Jv Yg ?_;intro w2 br bw dl bm;have bp:=hB.ext bw;have ax:=c0.trans bw;have ai:Rd w 1 D (nz vars).length (Je (nz vars)):=ca;clear ca hd d7;have mono:∀ i,1<=i->i<vars.length->vars.getD (i-1) 0<vars.getD i 0:=λi h1 h2=>by
  have:=List.pairwise_iff_getElem.1 hasc (i-1) i om h2 om;simpa [List.getD,List.getElem?_eq_getElem h2,List.getElem?_eq_getElem (show i-1<vars.length by omega)] using this
 have ay:∀ i,i<vars.length->vars.getD i 0<32:=λi hi=>hlt _ (getD_mem' 0 _ hi);refine ρ ?_;refine Qy (fun (i:Nat)=>[(1,.int .u32 (s:Int)),(2,.pointer (some ⟨b,0,none⟩)),(4,.pointer (some ⟨br,0,none⟩)),(6,.int .i64 (i:Int))])
  (λi w'=>1<=i/\i<=1000/\Ext w2 w') (λi=>1000-i) 1 sB ⟨nR _,om,Ext.refl _⟩ ?_
 rintro i w3 ⟨d5,dk,ae⟩;have av:=bp.ext ae;refine ldR (av.at (i:=0) rfl) ?_;refine ciR (λh=>?_) (λh=>?_)
 .have li:i<vars.length:=by have:=oT h;omega
  clear h;have b7:Ext w3 w3.drew:=(Ext.refl w3).drew;have cp:=av.ext b7;have aq:=ai.ext ((ax.trans ae).trans b7);refine drR (scq 12 []) ?_;refine Jz (cp.at (i:=0) rfl) ?_;refine Jc (i-1) aq om ?_;refine Jz (aq.cell (Xg (show i-1<vars.length by omega))) ?_;refine Jz (cp.at (i:=0) rfl) ?_;refine Jc i aq om ?_;refine Jz (aq.cell (Xg li)) ?_;refine ρd ?_;refine cfR ?_ ?_
  .exact dF (by have:=mono i d5 li;omega)
  refine ρ ?_;exact Qw (i+1) sO ⟨om,om,ae.trans b7⟩ om
 clear h;refine ldR (av.at (i:=0) rfl) ?_;refine ρ ?_;refine Qy (fun (i:Nat)=>[(1,.int .u32 (s:Int)),(2,.pointer (some ⟨b,0,none⟩)),(4,.pointer (some ⟨br,0,none⟩)),(36,.slice D (nz vars).length d),(37,.int .i64 ((nz vars).length:Int)),(38,.int .i64 (i:Int))])
  (λi w'=>i<=vars.length/\Ext w3 w') (λi=>vars.length-i) 0 sB ⟨Nat.zero_le _,Ext.refl _⟩ ?_
 rintro i w4 ⟨hi,an⟩;have ad:=(ax.trans ae).trans an;have dd:=av.ext an;refine ciR (λh=>?_) (λh=>?_)
 .have li:i<vars.length:=by have:=oT h;omega
  clear h;have ck:=ai.ext ad;refine ixR i ck om ?_;refine ldR (ck.cell (Xg li)) ?_;refine cfR ?_ ?_
  .exact dF (by have:=ay i li;omega)
  refine ρ ?_;exact Qw (i+1) sO ⟨om,an⟩ om
 have d6:i=vars.length:=by have:=oF h;omega
 clear h hi d6;have a8:Ext w4 w4.drew:=(Ext.refl w4).drew;have b4:=dd.ext a8;refine drR (scq 7 [5]) ?_;refine Jz (b4.at (i:=0) rfl) ?_;refine Qh (cs:=[.int .i64 (vars.length:Int),.slice G ps.length gc]) (b4.sub2 (i:=1) rfl rfl) ?_;refine Jh (Jfq ((hA.ext (ad.trans a8)).rel)) ?_;rintro u w5 ⟨rfl,bc⟩;refine⟨bc,?_⟩;refine ρd ?_;refine cfR ?_ ?_
 .exact Jcf (by rw[d0])
 have ac:=(ad.trans a8).trans bc;have a6:Ext w2 w5:=((ae.trans an).trans a8).trans bc;refine Jv Yg ?_;intro w6 bq bb dm co;have bo:=(bp.ext a6).ext bb;have bu:=ac.trans bb;have b3:=(bm.ext a6).ext bb;refine ldR (bo.at (i:=0) rfl) ?_;refine ρ ?_;refine Zq (fun (k:Nat) (vv vc:Value)=>[(1,.int .u32 (s:Int)),(2,.pointer (some ⟨b,0,none⟩)),(4,.pointer (some ⟨br,0,none⟩)),(9,.pointer (some ⟨bq,0,none⟩)),(10,vc),(59,.slice D (nz vars).length d),(60,.int .i64 ((nz vars).length:Int)),(61,.int .i64 (k:Int))])
  (λk vv vc w'=>k<=vars.length/\Ext w w'/\Blk w' b 134 [.slice D (nz vars).length d,.int .i64 (vars.length:Int),.slice G ps.length gc]/\Blk w' br 134 [.slice none 0 0,.int .i64 0,.slice none 0 0]/\Blk w' bq 134 [vv,.int .i64 0,.slice none 0 0] /\
   Zd w' w.heap.size vv (inS (vars.take k) s)/\Zd w' w.heap.size vc (Zk vars s k)/\∀ g,vv.ownBlock=some g->vc.ownBlock≠some g) (λk _ _=>vars.length-k) 0 (.slice none 0 0) (.slice none 0 0) sB
  ⟨Nat.zero_le _,bu,bo,b3,co,Zy _ _ _ _,Zy _ _ _ _,λg e=>(by cases e)⟩ ?_
 clear bo b3 co;rintro k vv vc w7 ⟨hk,a7,au,a2,a4,a5,ab,ag⟩;refine ciR (λh=>?_) (λh=>?_)
 .have lk:k<vars.length:=by have:=oT h;omega
  clear h;have cj:=ai.ext a7;have cb:=Jvg vars s k om;have dj:(inS (vars.take k) s).length<=32:=by
   have:=List.length_filter_le (λv=>s.testBit v) (vars.take k);rw[List.length_take]at this;unfold inS;omega
  refine ixR k cj om ?_;refine ldR (cj.cell (Xg lk)) ?_;refine ρ ?_;refine Ib (s:=s) (v:=vars.getD k 0) (by have:=ay k lk;omega) ?_;refine ciR (λh=>?_) (λh=>?_)
  .rw[Gh hs]at h;refine ldR (a4.at (i:=0) rfl) ?_;refine Qk (bs1Int'' _) ?_;intro w8 b8 j dn dc;refine ρ ?_;refine apI (Jk a5 j) dc om (a7.trans j).size ?_;intro U w9 ao aa c6;have Z:∀ {w':World} {cs:List Nat} {v:Value},Zd w' w.heap.size v cs->∀ g,v.ownBlock=some g->w.heap.size<=g/\g<w'.heap.size:=λho g C=>by
    obtain⟨_,_,_,_,hf⟩:=Jy ho;exact hf g C
   have am:Ext w w9:=Qg (a7.trans j) aa (λg C=>(Z a5 g C).1);have a3:=(a4.ext j).grown aa ((a4.ext j).ne_own (Jk a5 j) rfl);have ar:=(au.ext j).grown aa ((au.ext j).ne_own (Jk a5 j) rfl);have b2:=(a2.ext j).grown aa ((a2.ext j).ne_own (Jk a5 j) rfl);have bi:Zd w9 w.heap.size vc (Zk vars s k):=Jt (Jk ab j) (GrN.by aa λg C=>C) (λg C e=>ag g e C);have b1:∀ g,U.ownBlock=some g->vc.ownBlock≠some g:=λg C e=>by
    rcases c6 g C with h'|h'
    .exact ag g h' e
    have:=(Z ab g e).2;have:=j.size;omega
   have de:U.oneCell'=true:=by obtain⟨_,_,e,_⟩:=Jy ao;rw[e];rfl
   refine Xv (p:=⟨bq,0,none⟩) (a3.cell 0) (a3.frozen _) ?_ (hv:=de);have be:w9.grownBy (w9.setCell ⟨bq,0,none⟩ U) (some bq):=Qfg _;have cn:=a3.set 0 U;have bv:Ext w (w9.setCell ⟨bq,0,none⟩ U):=am.setCell (by simp only;have:=ac.size;omega) _;have c2:Zd (w9.setCell ⟨bq,0,none⟩ U) w.heap.size U (inS (vars.take k) s++[vars.getD k 0]):=Jt ao (GrN.by be λg C=>C) (λg C e=>by injection e with e;subst e;exact a3.ne_own ao rfl C.symm);have bg:Zd (w9.setCell ⟨bq,0,none⟩ U) w.heap.size vc (Zk vars s k):=Jt bi (GrN.by be λg C=>C) (λg C e=>by injection e with e;subst e;exact a3.ne_own bi rfl C.symm);have b5:∀ {x:Nat},x<w5.heap.size->x≠bq:=λh e=>by omega
   have db:Blk (w9.setCell ⟨bq,0,none⟩ U) b 134 _:=ar.far (b5 (by have:=bp.lt;have:=a6.size;omega)) _;have cm:Blk (w9.setCell ⟨bq,0,none⟩ U) br 134 _:=b2.far (b5 (by have:=bm.lt;have:=a6.size;omega)) _;generalize w9.setCell ⟨bq,0,none⟩ U=ak at *
   clear a3 ar b2 bi am aa be ao c6;refine Qk (bs1Int'' _) ?_;intro b6 dq O di cq;refine ρ ?_;refine apI (Jk bg O) cq om (bv.trans O).size ?_;intro bt a9 cc a1 c7;have af:Ext w a9:=Qg (bv.trans O) a1 (λg C=>(Z bg g C).1);have nb:∀ {g:Nat} {cs:List Value},Blk ak g 134 cs->Blk a9 g 134 cs:=λh=>(h.ext O).grown a1 ((h.ext O).ne_own (Jk bg O) rfl);refine ρ ?_;refine Xq (k+1) U bt sO ⟨om,af,nb db,nb cm,nb cn,?_,?_,λg C e=>?_⟩ om
   .rw[Jwr lk,if_pos h];exact Jt (Jk c2 O) (GrN.by a1 λg C=>C) (λg C e=>b1 g C e)
   .rw[Ka,if_pos h];exact cc
   rcases c7 g e with h'|h'
   .exact b1 g C h'
   have:=(Z c2 g C).2;have:=O.size;omega
  rw[Gh hs]at h;have hf:¬ s.testBit (vars.getD k 0)=true:=by rw[h];simp
  refine ρ ?_;refine Xq (k+1) vv vc sO ⟨om,a7,au,a2,a4,?_,?_,ag⟩ om
  .rw[Jwr lk,if_neg hf,List.append_nil];exact a5
  rw[Ka,if_neg hf,List.append_nil];exact ab
 have d3:k=vars.length:=by have:=oF h;omega
 subst d3;clear h;rw[List.take_length]at a5;have d8:Zk vars s vars.length=Xj vars s:=rfl;rw[d8]at ab;obtain⟨VA,cx,bs,cy,_⟩:=Jy a5;obtain⟨CA,df,cw,d9,_⟩:=Jy ab;have bh:(Xj vars s).length<=32:=by
  have:=List.length_filter_le (λi=>s.testBit (vars.getD i 0)) (List.range vars.length);rw[List.length_range]at this;unfold Xj;omega
 have d4:(inS vars s).length<=32:=by
  have:=List.length_filter_le (λv=>s.testBit v) vars;unfold inS;omega
 refine Js (cs:=[.int .i64 (vars.length:Int),.slice G ps.length gc]) (au.sub2 (i:=1) rfl rfl) ?_;refine ρ ?_;have ap:IntsV w7 vc (nz (Xj vars s)):=by
  refine⟨CA,df,by rw[Qf];exact cw,by rw[Qf];exact d9,by rw[Qf];omega,?_⟩;rw[Qf];have:=ab;rw[cw]at this;exact Rd.own this
 refine cl (Jsv (cs:=Xj vars s) ((hA.ext a7).rel) ap hlen (λc hc=>Jzw hc) bh hbig) ?_;rintro u w8 ⟨j,rv,rfl,⟨z,RB,rm,rd,rfl⟩,m,c5,d2,d1,c4⟩;refine Jv Gm ?_;intro w9 b9 am da ar;refine Qb (cs':=[.int .i64 z,.slice RB rm rd]) ar ?_ Yn;intro ak cr dh bz;have J:Ext w8 ak:=bz w8 am da;refine Qq cr ?_;have aj:=(a4.ext j).ext J;refine ρ ?_;refine stB (o:=1) (us:=[.int .i64 z,.slice RB rm rd]) aj (by simp) Yn ?_;intro b6 bn ah;refine Qq bn ?_;have cg:w.heap.size<=bq:=by have:=ac.size;omega
 have ba:Ext w b6:=Jbv ((a7.trans j).trans J) ah cg;have ce:br≠bq:=by have:=bm.lt;have:=a6.size;omega
 have bl:Blk b6 br 134 _:=((a2.ext j).ext J).grown ah (λe=>by injection e with e;exact ce e);refine Qb (cs':=[vv,.int .i64 z,.slice RB rm rd]) bl ?_ (λu hu=>by
  simp only[List.mem_cons,List.not_mem_nil,or_false]at hu;rcases hu with rfl|rfl|rfl
  .rw[bs];rfl
  .rfl
  rfl)
 intro a9 bj a1 _;refine ρ ?_;have cd:w.heap.size<=br:=by have:=c0.size;omega
 have af:Ext w a9:=Jbv ba a1 cd;refine Vz bj ⟨af,(vv,.int .i64 z,.slice RB rm rd),rfl,m,?_,d2,d1,c4⟩;have c8:GrN (λk=>k=bq∨k=br) ak a9:=(GrN.by ah λk e=>.inl (by injection e with e;exact e.symm)).trans (GrN.by a1 λk e=>.inr (by injection e with e;exact e.symm));have ch:bq<w7.heap.size/\br<w7.heap.size:=⟨a4.lt,a2.lt⟩;intro w' c9;have bf:GrN (λk=>k<w7.heap.size) w8 w':=((GrN.ext J).trans (c8.mono λk _ hk=>by rcases hk with rfl|rfl;(exact ch.1);exact ch.2)).trans (c9.mono λk _ hk=>nM hk a7.size);obtain⟨rv,cv,cz⟩:=c5 w' bf;have az:(Value.int .i64 z)=.int .i64 ((Xj vars s).length:Int)/\Value.slice RB rm rd=rv:=by
  simp only[Value.agg.injEq,Array.mk.injEq,List.cons.injEq,and_true]at cv;exact cv
 have c1:Zd w' w.heap.size vv (inS vars s):=by
  have h1:=Jk (Jk a5 j) J;have h2:Zd a9 w.heap.size vv (inS vars s):=Jt h1 c8 λg C hk=>by
   rcases hk with rfl|rfl
   .exact aj.ne_own h1 rfl C.symm
   exact((a2.ext j).ext J).ne_own h1 rfl C.symm
  refine Jt h2 c9 λg C hk=>?_;obtain⟨_,_,_,_,hf⟩:=Jy h2;have:=(hf g C).1;omega
 have cb:(Xj vars s).length=(inS vars s).length:=by
  have:=Jvg vars s vars.length (nR _);rw[List.take_length]at this;exact this
 refine⟨⟨VA,cx,by rw[Qf];exact bs,by rw[Qf];exact cy,by rw[Qf];omega,?_⟩,?_,?_⟩
 .rw[Qf];rw[bs]at c1;exact Rd.own c1
 .simp only;rw[<-cb];exact az.1
 simp only;rw[az.2];exact cz
open Go.RowKit Pl Go.Wk
variable {nums vars:List Nat}{ls rs:List Row}{ar b s:Nat}{w:World}
def RowG(w:World)(cs:List Value)(z:Row): Prop:=∃ v,cs=[v]/\RowV w v z
theorem RowG.ext{w w':World}{cs:List Value}{z:Row}(h:RowG w cs z)(hx:Ext w w'): RowG w' cs z:=by
 obtain⟨v,e,i⟩:=h;exact⟨v,e,i.ext hx⟩
theorem Jsn: ∀(ps:List (List Value×Row)) (w:World),(∀ p∈ps,RowG w p.1 p.2)->∃ qs:List Pr,qs.map (·.2)=ps.map (·.2)/\qs.map (·.1)=Ql ps/\qs.length=ps.length/\∀ q∈qs,RowV w q.1 q.2
 | [],w,_=>⟨[],rfl,rfl,rfl,λq hq=>by cases hq⟩
 | p::ps,w,h=>by
  obtain⟨qs,h1,h2,h3,h4⟩:=Jsn ps w λq hq=>h q (List.mem_cons_of_mem _ hq);obtain⟨v,e,hr⟩:=h p (mC ..);refine⟨(v,p.2)::qs,by simp[h1],?_,by simp[h3],λq hq=>?_⟩;repeat grind [Ql,List.mem_cons.1]
theorem Qgc{v:Value}(h:GV 1 RowG w v ls): RowsV w v ls:=by
 obtain⟨ps,A,c,e,u,o,j,i,D⟩:=h;obtain⟨C,Z,U,O,J⟩:=Jsn ps w λp G=>(D p G).2;rw[<-O]at u o j i;exact⟨C,A,c,by rw[e,Z],u,o,j,by rw[U];exact i,J⟩
def YM(b:Nat)(base:Nat)(l:List Row)(w:World): Prop:=b<base/\∃ v,Blk w b 95 [v]/\OwnG 59 1 RowG w base v l
theorem Qnz(hb:b<s): YZ s (.func (.func 172) #[] #[.pointer (some ⟨b,0,none⟩)]) (λk=>k=b) (YM b):=by
 refine⟨λbase l w w' h hg=>?_,_,_,_,rfl,λbase l w w1 U z C h hx hr hl=>?_⟩
 .obtain⟨o,v,hB,hO⟩:=h;exact⟨o,v,Jb hB hg (λe=>om),hO.gr hg λk hk=>hk.2⟩
 obtain⟨o,v,hB,hO⟩:=h;have J:=hB.ext hx;have D:=hO.ext hx;obtain⟨RA,rn,rc,a6,_,_,_⟩:∃ A n c,U=.slice A n c/\True/\True/\True:=by obtain⟨A,c,e,_⟩:=hr;exact⟨A,_,c,e,trivial,trivial,trivial⟩
 refine enE Tryz.func172 Tryz.ntmps172 ?_;refine ldR (J.at (i:=0) rfl) ?_;refine Qk (cs:=[U]) (λw=>Jkd U w RA rn rc a6) ?_;intro w2 b2 j af ab;obtain⟨_,_,_,_,hf⟩:=D.form;have hΦ:Off (Xx base v) w2 (λu=>RowG u [U] z):=((hr.off.mono λk hk h=>by
  rcases h with h|h
  .omega
  obtain⟨_,_,_,_,a9⟩:=hO.form;exact(a9 k h).2).imp λu h=>⟨U,rfl,h⟩).ext j
 refine ρ ?_;refine apG ER (Φ:=RowG) (D.ext j) ab rfl (λu hu=>by rw[List.mem_singleton.1 hu,a6];rfl) hΦ om om (nL C (hx.trans j).size) ?_;intro Z O a4 a3 ac;obtain⟨A3,c3,e3,ae,ad⟩:=a4.form;have a1:GrN (λk=>k=b∨base<=k) w1 O:=(GrN.ext j).trans (GrN.by a3 λk ek=>.inr (hf k ek).1);have a7:some b≠v.ownBlock:=by
  obtain⟨ps,_,ho,_⟩:=D;exact J.ne_own ho rfl
 have G:Blk O b 95 [v]:=(J.ext j).grown a3 a7;refine Xv (p:=⟨b,0,none⟩) (G.cell 0) (G.frozen _) ?_ (hv:=by rw[e3];rfl);have a5:=G.set 0 Z;have a2:GrN (λk=>k=b) O (O.setCell ⟨b,0,none⟩ Z):=GrN.set _ rfl;refine ρ ?_;have a8:(l++[z]).length=l.length+1:=by simp
 rw[a8]at e3;refine ld (v:=.slice A3 (l.length+1) c3) ((a5.at (i:=0) rfl).trans (by simp[e3])) ?_;refine ρ ?_;have aa:OwnG 59 1 RowG (O.setCell ⟨b,0,none⟩ Z) base Z (l++[z]):=a4.gr a2 λk hk=>by omega
 refine Jj ⟨?_,⟨o,Z,a5,aa⟩,a1.trans (a2.mono λk _ hk=>.inl hk)⟩;rw[decide_eq_true (show((l.length+1:Nat):Int)<=65536 by omega)]
theorem Xkg(z:Int)(A:Option Addr)(n c:Nat)(w:World): (Instr.build 134 #[(1,.agg #[.int .i64 z,.slice A n c])]).run Tryz.prog w=.ok (.agg #[.slice none 0 0,.int .i64 z,.slice A n c]) w:=kr
theorem Qpb{Na:Option Addr}{t:V3}(hA:AtV w t ⟨nz vars,ar,rs⟩)(hB:Blk w b 26 [.slice Na nums.length nums.length])(hN:Rd w 1 Na nums.length (Je (nz nums)))(hlt:∀ v∈vars,v<nums.length)(hl:vars.length<=1000):
  Ret Tryz.prog 169 [.agg t.cells.toArray,.pointer (some ⟨b,0,none⟩)] w λu w'=>Ext w w'/\∃ v1,u=.agg #[v1,t.2.1,t.2.2]/\Off (λk=>k<w.heap.size) w' (λx=>IntsV x v1 (nz (vars.map λv=>nums.getD v 0))):=by
 obtain⟨t1,t2,t3⟩:=t;obtain⟨⟨D,d,e1,hd,bf,an⟩,e2,ae⟩:=id hA;simp only at e1 e2;subst e1;subst e2;obtain⟨ps,G,gc,_,ai,_⟩:=id ae;simp only at ai;subst ai;have bo:=Qf vars;have am:Rd w 1 D (nz vars).length (Je (nz vars)):=an;clear an hd bf;refine enE Tryz.func169 Tryz.ntmps169 ?_;refine bxR ?_;intro w1 b1 ab bu b4;refine Jv Yg ?_;intro w2 b2 a5 bt ay;refine Js (cs:=[.int .i64 (ar:Int),.slice G ps.length gc]) ((b4.ext a5).sub2 (i:=1) rfl rfl) ?_;refine Zj (Xkg _ _ _ _ _) ?_;refine Jv Yg ?_;intro w3 b3 b9 bh bm;refine Qb (cs':=[.slice none 0 0,.int .i64 (ar:Int),.slice G ps.length gc]) bm ?_ (λu hu=>by
  simp only[List.mem_cons,List.not_mem_nil,or_false]at hu;rcases hu with rfl|rfl|rfl<;>rfl)
 intro w4 bl br b8;have a3:Ext w2 w4:=b8 w2 b9 bh;have af:Ext w w4:=(ab.trans a5).trans a3;have az:=(b4.ext a5).ext a3;have ax:=ay.ext a3;refine ldR (az.at (i:=0) rfl) ?_;refine ρ ?_;refine Jo (fun (k:Nat) (vv:Value)=>[(1,.pointer (some ⟨b,0,none⟩)),(3,.pointer (some ⟨b2,0,none⟩)),(4,.pointer (some ⟨b3,0,none⟩)),(11,.slice D (nz vars).length d),(12,.int .i64 ((nz vars).length:Int)),(13,.int .i64 (k:Int))])
  (λk vv w'=>k<=vars.length/\Ext w w'/\Blk w' b2 134 [.slice none 0 0,.int .i64 0,.slice none 0 0]/\Blk w' b3 134 [vv,.int .i64 (ar:Int),.slice G ps.length gc]/\Zd w' w.heap.size vv ((vars.take k).map λv=>nums.getD v 0)) (λk _=>vars.length-k) 0 (.slice none 0 0) sB
  ⟨Nat.zero_le _,af,ax,bl,Zy _ _ _ _⟩ ?_
 rintro k vv w5 ⟨hk,a1,Z,aa,a2⟩;refine ciR (λh=>?_) (λh=>?_)
 .have lk:k<vars.length:=by have:=oT h;omega
  clear h;have aq:=am.ext a1;have ag:=hlt _ (getD_mem' 0 _ lk);obtain⟨own,J⟩:∃ own,own=vv.ownBlock:=⟨_,rfl⟩;have ak:∀ j,own=some j->w.heap.size<=j:=λj ej=>by
   obtain⟨_,_,_,_,hf⟩:=Jy a2;exact(hf j (by rw[<-J];exact ej)).1
  have bq:((vars.take k).map λv=>nums.getD v 0).length<=1000:=by simp;omega
  refine ixR k aq om ?_;refine ldR (aq.cell (Xg lk)) ?_;refine ρ ?_;refine drN (one own) 8 (scq 10 [6,7,109]) kr ?_;have C:Ext w5 w5.drew:=(Ext.refl w5).drew;have O:=aa.ext C;have bi:=hB.ext (a1.trans C);have ap:=hN.ext (a1.trans C);have a6:=Jk a2 C;have n3:¬ one own b3:=λe=>O.ne_own a6 rfl (by rw[<-J];exact e.symm);have a9:∀ {g:Nat},g<w.heap.size->¬ one own g:=λhg e=>by have:=ak _ e;omega
  refine ρn ?_;refine nld (Jr (O.at (i:=0) rfl) n3) ?_;refine ρn ?_;refine nld (Jr (bi.at (i:=0) rfl) (a9 hB.lt)) ?_;refine ρn ?_;refine nix (vars.getD k 0) ap ag ?_;refine ρn ?_;refine nld (λw' hg=>(Vn ap hg (λh0 ad e=>a9 (by
   obtain⟨bv,e',aj,_⟩:=hN.2 h0;rw[e]at e';injection e' with e';subst e';exact aj))).cell (Xg ag)) ?_
  refine ρn ?_;refine nop ?_;refine bsl (bs1Int'' _) ?_;intro w6 b6 o bs bj;refine ρ ?_;refine Ja (GrN.ext o) ?_;refine nop ?_;refine apI (Jk a6 o) bj om (((a1.trans C).trans o).size) ?_;intro a4 w7 ac a7 bp;refine ρ ?_;refine Ja (GrN.by a7 λj ej=>by rw[<-J]at ej;exact ej) ?_;refine ρn ?_;refine Xh ?_;have U:=(O.ext o).grown a7 ((O.ext o).ne_own (Jk a6 o) rfl);have au:=((Z.ext C).ext o).grown a7 (((Z.ext C).ext o).ne_own (Jk a6 o) rfl);have b7:Ext w w7:=Qg ((a1.trans C).trans o) a7 (λj ej=>ak j (by rw[J];exact ej));have bn:a4.oneCell'=true:=by obtain⟨_,_,e,_⟩:=Jy ac;rw[e];rfl
  refine sto (p:=⟨b3,0,none⟩) (U.cell 0) (U.frozen _) ?_ (hv:=bn);have bd:GrN (λk=>k=b3) w7 (w7.setCell ⟨b3,0,none⟩ a4):=GrN.set _ rfl;have bg:w.heap.size<=b3:=by have:=(ab.trans a5).size;omega
  refine ω5 ?_;refine Gz ?_;refine ρn ?_;refine ρ ?_;refine Jl (k+1) a4 sO ⟨om,b7.setCell bg _,au.far (by simp only;have:=ay.lt;omega) _,U.set 0 a4,?_⟩ om;rw[Qt 0 lk,List.map_append];exact Jt ac bd (λg eg e=>by subst e;exact U.ne_own ac rfl eg.symm)
 have bc:k=vars.length:=by have:=oF h;omega
 subst bc;clear h;rw[List.take_length]at a2;obtain⟨VA,b5,a8,ah,ba⟩:=Jy a2;rw[List.length_map]at a8 ah;refine Qq aa ?_;refine Qb (cs':=[vv,.int .i64 (ar:Int),.slice G ps.length gc]) Z ?_ (λu hu=>by
  simp only[List.mem_cons,List.not_mem_nil,or_false]at hu;rcases hu with rfl|rfl|rfl
  .rw[a8];rfl
  .rfl
  rfl)
 intro w6 av be o;refine ρ ?_;have ao:w.heap.size<=b2:=by have:=ab.size;omega
 refine Gu av ⟨o w a1 ao,vv,rfl,?_⟩;have bb:Zd w6 w.heap.size vv (vars.map λv=>nums.getD v 0):=Jt a2 (GrN.by be λg eg=>eg) (λg eg e=>by injection e with e;subst e;exact Z.ne_own a2 rfl eg.symm);refine(Jxt bb (λg eg hk=>by have:=(ba g eg).1;omega)).imp λx h=>⟨VA,b5,by rw[Qf,List.length_map];exact a8,by rw[Qf,List.length_map];exact ah,by rw[Qf,List.length_map];omega,?_⟩;rw[a8]at h;rw[Qf,List.length_map];simp only[List.length_map]at h;exact Rd.own h
end Go.Proofs.YtgobkbeokaaplaaGreatDoor
namespace Go.Proofs.YtgobkbeokaaplaaGreatDoor
open Pl Go.Wk
variable {vars vs:List Nat}{k m n s u v:Nat}
def bk(s v:Nat): List Nat:=(List.range v).filter λu=>s.testBit u
theorem bk_mem: u∈bk s v↔u<v/\s.testBit u=true:=by simp[bk]
theorem Gg(s v:Nat): bk s (v+1)=bk s v++if s.testBit v then[v] else[]:=by grind [bk,List.range_succ]
theorem Jqv(s v:Nat): Xw (bk s v):=List.Pairwise.sublist List.filter_sublist List.pairwise_lt_range
theorem Ya(s v:Nat): (bk s v).length<=v:=by
 have:=List.length_filter_le (λu=>s.testBit u) (List.range v);rw[List.length_range]at this;exact this
theorem Qqb(s n:Nat): ∀ u,u<=n->lv (bk s n) u=(bk s u).length
 | 0,_=>by rw[Jwk];rfl
 | u+1,h=>by
  have ih:=Qqb s n u om;rw[Gg,List.length_append,<-ih];by_cases hb:s.testBit u=true
  .rw[if_pos hb,(Yc (Jqv s n) (bk_mem.2 ⟨om,hb⟩)).1];rfl
  rw[if_neg hb,Jqh (λh'=>hb (bk_mem.1 h').2)];rfl
theorem Jgq(ha:Xw vs)(hk:k<vs.length): lv vs (vs.getD k 0)=k:=by
 obtain⟨_,i,j⟩:=Yc ha (getD_mem' 0 vs hk);exact Qjh (Qvk ha) i hk ((Qv 0 vs i).symm.trans (j.trans (Qv 0 vs hk)))
theorem Jkf(hs:s<2^n)(h:s.testBit u=true): u<n:=by grind [Nat.lt_or_ge,Nat.testBit_lt_two_pow,Nat.lt_of_lt_of_le,Nat.pow_le_pow_right]
def Vp(s v:Nat): List Nat:=(List.range 32).map λu=>if u<v/\s.testBit u=true then(bk s u).length else 0
theorem Jzc(s v:Nat): (Vp s v).length=32:=by simp[Vp]
theorem Qmz(hu:u<32)(h:s.testBit u=true): (Vp s 32).getD u 0=lv (bk s 32) u:=by grind [Qqb,Vp,List.getD]
theorem Qjf(hv:v<32): Vp s (v+1)=if s.testBit v then(Vp s v).set v (bk s v).length else Vp s v:=by
 apply List.ext_getElem?
 grind [Jzc,Vp,List.getElem?_range,Nat.lt_or_ge]
def rnm(vars:List Nat)(s:Nat): List Nat:=(inS vars s).map λv=>lv (bk s 32) v
theorem inS_mem: v∈inS vars s↔v∈vars/\s.testBit v=true:=by simp[inS]
theorem Qsn(h:Xw vars): Xw (inS vars s):=List.Pairwise.sublist List.filter_sublist h
theorem Qpv(ha:Xw vs)(hu:u∈vs)(h:u<v): lv vs u<lv vs v:=by
 have i:=(Yc ha hu).1;have mono:∀ k,lv vs (u+1)<=lv vs (u+1+k):=by
  intro k;induction k with
  | zero=>exact nR _
  | succ k ih=>
   by_cases h:u+1+k∈vs
   repeat grind [Yc,Nat.add_assoc,Jqh]
 have:=mono (v-(u+1));grind
theorem Qgs(h:Xw vars)(hl:∀ v∈vars,v<32): Xw (rnm vars s):=by
 unfold rnm Xw;rw[List.pairwise_map];refine List.Pairwise.imp_of_mem (fun {u v} hu hv huv=>?_) (Qsn (s:=s) h);exact Qpv (Jqv s 32) (bk_mem.2 ⟨hl u (inS_mem.1 hu).1,(inS_mem.1 hu).2⟩) huv
theorem Qgr(hl:∀ v∈vars,v<32)(hk:k∈rnm vars s): k<(bk s 32).length:=by
 obtain⟨v,i,rfl⟩:=List.mem_map.1 hk;obtain⟨o,j⟩:=inS_mem.1 i;exact(Yc (Jqv s 32) (bk_mem.2 ⟨hl v o,j⟩)).2.1
theorem Jsq(vars:List Nat)(s:Nat): (rnm vars s).length=(inS vars s).length:=by simp[rnm]
def Ij(m:Nat)(vars:Nat->List Nat)(rs:Nat->List Row)(s:Nat)(z:Row): Prop:=∀ i,i<m->∃ r∈rs i,∀ j,j<(vars i).length->s.testBit ((vars i).getD j 0)=true->r.getD j V0=z.getD ((vars i).getD j 0) V0
theorem Jll{vars:List Nat}{s:Nat}{r z:Row}(hr:r.length=vars.length): ∀ k,k<=vars.length->(pmR (Zk vars s k) r=pmR (inS (vars.take k) s) z↔∀ j,j<k->s.testBit (vars.getD j 0)=true->r.getD j V0=z.getD (vars.getD j 0) V0)
 | 0,_=>by simp[Zk,inS,pmR]
 | k+1,h=>by
  have ih:=Jll (s:=s) (z:=z) hr k om;grind [Jvg,Ka,Jwr,pmR,Zk,V0,inS,List.append_inj,Qn]
theorem Qnx{vars:Nat->List Nat}{rs ms:Nat->List Row}(hs:s<2^n)(hn:n<=32)(hlt:∀ i,i<m->∀ v∈vars i,v<n)(hlen:∀ i,i<m->∀ r∈rs i,r.length=(vars i).length)(hms:∀ i,i<m->∀ x,x∈ms i↔x∈(rs i).map (pmR (Xj (vars i) s)))(x:Row):
  Vh (bk s 32).length m (λi=>rnm (vars i) s) ms x↔∃ z:Row,z.length=n/\x=pmR (bk s 32) z/\Ij m vars rs s z:=by
 have key:∀ z:Row,∀ i,i<m->(pmR (rnm (vars i) s) (pmR (bk s 32) z)∈ms i↔∃ r∈rs i,∀ j,j<(vars i).length->s.testBit ((vars i).getD j 0)=true->r.getD j V0=z.getD ((vars i).getD j 0) V0):=λz i hi=>by
  have e:pmR (rnm (vars i) s) (pmR (bk s 32) z)=pmR (inS (vars i) s) z:=by
   unfold rnm pmR;rw[List.map_map];refine List.map_congr_left λv J=>?_;obtain⟨h1,C⟩:=inS_mem.1 J;have G:v∈bk s 32:=bk_mem.2 ⟨by grind,C⟩;obtain⟨_,h4,h5⟩:=Yc (Jqv s 32) G;grind
  rw[e,hms i hi,List.mem_map];have hk:∀ r∈rs i,(pmR (Xj (vars i) s) r=pmR (inS (vars i) s) z↔∀ j,j<(vars i).length->s.testBit ((vars i).getD j 0)=true->r.getD j V0=z.getD ((vars i).getD j 0) V0):=λr Z=>by
   have:=Jll (s:=s) (z:=z) (hlen i hi r Z) (vars i).length (nR _);rw[List.take_length]at this;exact this
  grind
 constructor
 .rintro⟨hl,hx⟩;let z:Row:=(List.range n).map λu=>x.getD (lv (bk s 32) u) V0
  have o:z.length=n:=by simp[z]
  have D:x=pmR (bk s 32) z:=by
   apply List.ext_getElem
   .rw[Qn];exact hl
   intro k h1 C;rw[Qn]at C;have U:=bk_mem.1 (getD_mem' 0 _ C);have O:=Jkf hs U.2;have h3:=Jtr (z:=z) C;grind [Qv,V0,Qn,bk,lv,List.getD,List.getElem?_range,Jgq,Jqv]
  refine⟨z,o,D,λi hi=>?_⟩;grind
 rintro⟨z,o,rfl,G⟩;exact⟨Qn _ _,λi hi=>(key z i hi).2 (G i hi)⟩
end Go.Proofs.YtgobkbeokaaplaaGreatDoor
namespace Go.Wk
open Go.RowKit
variable {b n t ty:Nat}
theorem Ky{P:Program}{al:AL}{w:World}{Q:Exit->Act->World->Prop}{ops:Array Oper}{rest:List Oper}{pos:String}{aft:Array Edge}{tt:TT}[h:Tab P tt]{x y:Operand}{k:TK}{u v:Value}(hb:Blk w b t [u])(kk:∀ w1,Blk w1 b t [v]->w.grownBy w1 (some b)->(∀ a,Ext a w->a.heap.size<=b->Ext a w1)->WL P n ops Q rest al w1)(hv:v.oneCell'=true)(ht:tk tt t=some k:=by rfl)(hk:k.size=1:=by rfl)(hp:Vy k.desc=true:=by rfl)(hx:ev al x=some (.pointer (some ⟨b,0,none⟩)):=by rfl)(hy:ev al y=some v:=by rfl):
  WL P n ops Q (⟨none,.store t x y,ty,pos,aft,none⟩::rest) al w :=
 Jnf h.ok ht hk hp hx hy hv (hb.cell 0) (hb.frozen 0) (kk _ (hb.set 0 v) ⟨rfl,rfl,rfl,by simp[World.setCell],λk hk hn=>Below.heap_setCell w ⟨b,0,none⟩ v k (λe=>hn (by rw[e]))⟩ λa j i=>j.setCell i v)
end Go.Wk
namespace Go.Proofs.YtgobkbeokaaplaaGreatDoor
open Go.RowKit Pl Go.Wk _root_.Go.Proofs.Tryz
attribute [local irreducible] WC WL QX WD WDB WP WN WG
variable {cs vs:List Nat}{ts ts':List TA}{base c ca n s:Nat}{vars:Nat->List Nat}{ms rs:Nat->List Row}{A Aa:Option Addr}{v:Value}{w:World}
structure MOk(n:Nat)(ts:List TA)(vars:Nat->List Nat)(rs:Nat->List Row)(s:Nat): Prop where
 run:RunOk n ts vars rs
 sb:s<2^n
 valid:∀ i,i<ts.length->∀ r∈rs i,r.all Xf=true
 srtP:∀ i,i<ts.length->(rs i).length<=12∨Srt [] ((rs i).map (pmR (Xj (vars i) s)))
theorem Xwc(h:Xw vs): Jvm (nz vs):=λj o i=>by
 rw[Qf]at i;rw[Jgf i,Jgf (show j-1<vs.length by omega)];have:=List.pairwise_iff_getElem.1 h (j-1) j om i om;grind
theorem Jfg(h:RunOk n ts vars rs): Jzz n (ts.map (·.2)):=by
 have J:=h.n32;refine⟨om,om,by rw[List.length_map];exact h.m32,λa G=>?_,λv j=>?_⟩
 .obtain⟨t,ht,rfl⟩:=List.mem_map.1 G;obtain⟨i,hi,e⟩:=List.getElem_of_mem ht;have o:=h.at_ i hi;rw[Qv ta0 ts hi,e]at o;rw[o];refine⟨Xwc (h.asc i hi),λv j=>?_,by simp only;rw[Qf]⟩;obtain⟨u,C,rfl⟩:=List.mem_map.1 j;have:=h.lt i hi u C;omega
 obtain⟨i,hi,D⟩:=h.cov v om;refine⟨(ts.getD i ta0).2,List.mem_map_of_mem (getD_mem' ta0 ts hi),?_⟩;rw[h.at_ i hi];exact List.mem_map.2 ⟨v,D,rfl⟩
def AtG(w:World)(cs:List Value)(a:Atm): Prop:=∃ t:V3,cs=t.cells/\AtV w t a
theorem Qvg: ∀(ps:List (List Value×Atm)) (w:World),(∀ p∈ps,AtG w p.1 p.2)->∃ ts:List TA,ts.map (·.2)=ps.map (·.2)/\atC ts=Ql ps/\ts.length=ps.length/\∀ q∈ts,AtV w q.1 q.2
 | [],w,_=>⟨[],rfl,rfl,rfl,λq hq=>by cases hq⟩
 | p::ps,w,h=>by
  obtain⟨qs,h1,h2,h3,h4⟩:=Qvg ps w λq hq=>h q (List.mem_cons_of_mem _ hq);obtain⟨t,e,hr⟩:=h p (mC ..);refine⟨(t,p.2)::qs,by simp[h1],?_,by simp[h3],λq hq=>?_⟩;repeat grind [Ql,atC,List.mem_cons.1]
theorem Jmh{ats:List Atm}(h:GV 3 AtG w v ats): ∃(ts:List TA) (A:Option Addr) (c:Nat),ats=ts.map (·.2)/\v=.slice A ts.length c/\ts.length<=c/\ts.length<=1100000/\Rd w 3 A ts.length (atC ts)/\∀ p∈ts,AtV w p.1 p.2:=by
 obtain⟨ps,A,c,e,U,O,J,o,i⟩:=h;obtain⟨ts,G,D,C,u⟩:=Qvg ps w λp j=>(i p j).2;grind
theorem EA: ElT prog 31 134 3 56 (.agg #[.slice none 0 0,.int .i64 0,.slice none 0 0]):=⟨underlying31,info_parts kr,rfl,by decide⟩
theorem zInts: Qa prog 26=some (.slice none 0 0):=kr
theorem zRows: Qa prog 95=some (.slice none 0 0):=kr
theorem Jlv(v1 v2 v3:Value)(A B:Option Addr)(n c m d:Nat)(z:Int)(h1:v1=.slice A n c)(h2:v2=.int .i64 z)(h3:v3=.slice B m d)(w:World): (Instr.buildSlice 31 1 #[(0,.agg #[v1,v2,v3])]).run prog w=.ok (.slice (some ⟨w.heap.size,0,none⟩) 1 1) (w.alloc (.cells [v1,v2,v3].toArray 134)):=by
 subst h1;subst h2;subst h3;kernel_rfl
theorem Qwm(A B:Option Addr)(n c m d:Nat)(z:Int)(w:World): (Instr.build 134 #[(0,.slice A n c),(1,.agg #[.int .i64 z,.slice B m d])]).run prog w=.ok (.agg #[.slice A n c,.int .i64 z,.slice B m d]) w:=kr
theorem Ig{z:Int}(h:v.oneCell'=true): ∀ u∈[v,.int .i64 z,.slice A n c],u.oneCell'=true:=λu i=>by
 simp only[List.mem_cons,List.not_mem_nil,or_false]at i;rcases i with rfl|rfl|rfl
 .exact h
 .rfl
 rfl
theorem Qlt(hok:MOk n ts vars rs s)(hl:ts'.length=ts.length)(he:(List.range ts.length).map (λj=>(⟨nz (rnm (vars j) s),(rnm (vars j) s).length,ms j⟩:Atm))=ts'.map (·.2))(hms:∀ j,j<ts.length->IsSet [] ((rs j).map (pmR (Xj (vars j) s))) (ms j)/\(ms j).length<=65536): RunOk (bk s 32).length ts' (λj=>rnm (vars j) s) ms:=by
 have C:=hok.run.n32;have o:∀ i,i<ts.length->∀ v∈vars i,v<32:=λi hi v J=>by have:=hok.run.lt i hi v J;omega
 refine⟨Ya s 32,by rw[hl];exact hok.run.m32,λi hi=>?_,λi hi=>Qgs (hok.run.asc i (hl ▸ hi)) (o i (hl ▸ hi)),λi hi u O=>Qgr (o i (hl ▸ hi)) O,λk D=>?_,λi hi=>(hms i (hl ▸ hi)).1.1,λi hi r U=>?_,λi hi=>(hms i (hl ▸ hi)).2⟩
 .have h1:(ts'.map (·.2))[i]?=some (ts'.getD i ta0).2:=by rw[List.getElem?_map,List.getElem?_eq_getElem hi,Option.map_some,Qv ta0 ts' hi]
  grind
 .obtain⟨h1,G⟩:=bk_mem.1 (getD_mem' 0 _ D);obtain⟨i,hi,Z⟩:=hok.run.cov _ (Jkf hok.sb G);exact⟨i,hl.symm ▸ hi,List.mem_map.2 ⟨_,inS_mem.2 ⟨Z,G⟩,Jgq (Jqv s 32) D⟩⟩
 obtain⟨x,hx,rfl⟩:=List.mem_map.1 (((hms i (hl ▸ hi)).1.2 r).1 U);have:=Jvg (vars i) s (vars i).length (nR _);rw[List.take_length]at this;rw[Qn,Jsq];exact this
theorem Qrm(hok:MOk n ts vars rs s)(hms:∀ j,j<ts.length->IsSet [] ((rs j).map (pmR (Xj (vars j) s))) (ms j)/\(ms j).length<=65536){x:Row}(hx:Vh (bk s 32).length ts.length (λi=>rnm (vars i) s) ms x): x.all Xf=true:=by
 rw[List.all_eq_true];intro y G;obtain⟨k,O,rfl⟩:=List.getElem_of_mem G;have o:k<(bk s 32).length:=by rw[<-hx.1];exact O
 obtain⟨h1,D⟩:=bk_mem.1 (getD_mem' 0 _ o);obtain⟨i,hi,J⟩:=hok.run.cov _ (Jkf hok.sb D);have Z:=hx.2 i hi;obtain⟨r,u,e⟩:=List.mem_map.1 (((hms i hi).1.2 _).1 Z);have C:x.getD k V0∈pmR (rnm (vars i) s) x:=List.mem_map.2 ⟨k,List.mem_map.2 ⟨_,inS_mem.2 ⟨J,D⟩,Jgq (Jqv s 32) o⟩,rfl⟩;rw[<-e]at C;obtain⟨c,U,e2⟩:=List.mem_map.1 C;have h5:=List.all_eq_true.1 (hok.valid i hi r u) (r.getD c V0) (getD_mem' V0 r (by rw[hok.run.len i hi r u];exact Jzw U));grind
theorem Qnb(s:Nat): (madeCells (Value.int .i64 0).cells (32*1)).toList=Je (nz (Vp s 0)):=by
 have e:(madeCells (Value.int .i64 0).cells (32*1)).toList=List.replicate 32 (Value.int .i64 0):=Ux _ _;have i:Vp s 0=List.replicate 32 0:=by simp[Vp,List.map_const']
 rw[e,i];rfl
theorem Qmw(cs:List Nat)(i x:Nat): Je (nz (cs.set i x))=(Je (nz cs)).set i (.int .i64 (x:Int)):=by simp[Je,nz,List.map_set]
theorem Qxk(h:Zd w base v cs): ∃ A c,v=.slice A cs.length c/\cs.length<=c/\∀ g,v.ownBlock=some g->base<=g/\g<w.heap.size:=Jy h
theorem Qnw(hok:MOk n ts vars rs s)(hR:Rd w 3 Aa ts.length (atC ts))(hle:ts.length<=ca)(hat:∀ p∈ts,AtV w p.1 p.2)(hcap:∀ l:List Row,Lt [] l->(∀ x∈l,∃ z:Row,z.length=n/\x=pmR (bk s 32) z/\Ij ts.length vars rs s z)->l.length<=65536):
  Ret prog 123 [.int .i64 (n:Int),.int .u32 (s:Int),.slice Aa ts.length ca] w λu w'=>Ext w w'/\∃(t':V3) (st:Int) (l:List Row),u=.tuple #[.agg t'.cells.toArray,.int .i64 st,.int .i64 0] /\
   Off (λk=>k<w.heap.size) w' (λx=>AtV x t' ⟨nz (bk s 32),(bk s 32).length,l⟩)/\Lt [] l/\(∀ x,x∈l↔∃ z:Row,z.length=n/\x=pmR (bk s 32) z/\Ij ts.length vars rs s z)/\l.length<=65536:=by
 have b4:=hok.run.n32;have eo:=hok.run.m32;have b3:s<4294967296:=nM hok.sb (Nat.pow_le_pow_right (n:=2) (by decide) b4);have a3:∀ i,i<ts.length->∀ v∈vars i,v<32:=λi hi v hv=>by have:=hok.run.lt i hi v hv;omega
 refine enE func123 ntmps123 ?_;refine Jv Yg ?_;intro w1 b6 c1 ef ae;refine clR (Qql (n:=(n:Int)) (ats:=ts.map (·.2)) ⟨ts,Aa,ca,rfl,rfl,hle,om,hR.ext c1,λp hp=>(hat p hp).ext c1⟩) ?_
 rintro u w2 ⟨cr,e,rfl,he⟩;have e0:=he.2 (Jfg hok.run);subst e0;clear he;refine ρ ?_;refine Ib (s:=s) (v:=n) b4 ?_;rw[Nat.div_eq_of_lt hok.sb];refine ρ ?_;refine mkn EI 32 om (by unfold maxLen;omega) ?_;intro w3 Na cq c7 _;rw[Qnb s]at c7;refine Jv zInts ?_;intro w4 bp e4 dh J;refine ρ ?_;refine Ky J ?_ rfl;intro w5 J f4 e3;have aq:Ext w3 w5:=e3 w3 e4 dh;have bq:=c1.trans cr;have co:Ext w w5:=(bq.trans cq).trans aq;have d5:w5.ownsRow w.heap.size 3 1 (.slice Na 32 32) 32 (Je (nz (Vp s 0))):=Jyw (Jk c7 aq) bq.size;have bw:Blk w5 b6 134 [.slice none 0 0,.int .i64 0,.slice none 0 0]:=(ae.ext cr).ext (cq.trans aq);refine ρ ?_;refine Jo (fun (v:Nat) (vv:Value)=>[(0,.int .i64 (n:Int)),(1,.int .u32 (s:Int)),(2,.slice Aa ts.length ca),(6,.pointer (some ⟨b6,0,none⟩)),(10,vv),(11,.pointer (some ⟨bp,0,none⟩)),(37,.int .i64 (v:Int))])
  (λv vv w'=>v<=32/\Ext w w'/\Blk w' b6 134 [.slice none 0 0,.int .i64 0,.slice none 0 0]/\Blk w' bp 26 [.slice Na 32 32]/\w'.ownsRow w.heap.size 3 1 (.slice Na 32 32) 32 (Je (nz (Vp s v)))/\Zd w' w.heap.size vv (bk s v)/\∀ g,vv.ownBlock=some g->(Value.slice Na 32 32).ownBlock≠some g) (λv _=>32-v) 0 (.slice none 0 0) sB
  ⟨om,co,bw,J,d5,Zy _ _ _ _,λg e=>(by cases e)⟩ ?_
 clear c7 d5 bw J;rintro v vv w6 ⟨hv,bi,ae,J,ad,b1,a7⟩;refine ciR (λh=>?_) (λh=>?_)
 .have lv:v<32:=by have:=oT h;omega
  clear h;have dc:=Ya s v;have ep:∀ {w':World},(Vp s v).length=32:=fun {_}=>Jzc s v
  obtain⟨VA,vc,cj,cy,c2⟩:=Qxk b1;refine ρ ?_;refine Ib (s:=s) (v:=v) om ?_;refine ciR (λh=>?_) (λh=>?_)
  .rw[Gh b3]at h;subst cj;refine ldR (J.at (i:=0) rfl) ?_;refine ixR v (Rd.own ad) lv ?_;obtain⟨s1,s2,s3,s4,s5⟩:=Zn ad (q:=v) om (.int .i64 ((bk s v).length:Int));refine Xv (s1.trans (Xg (by rw[Jzc];exact lv))) s2 ?_;rw[<-Qmw]at s3;have d3:∀ g,(Value.slice Na 32 32).ownBlock=some g->w.heap.size<=g:=λg eg=>by
    obtain⟨_,_,_,_,hf⟩:=Jy ad;exact(hf g eg).1
   have a1:Ext w (w6.setCell (adr Na v) (.int .i64 ((bk s v).length:Int))):=Qg bi s5 d3;have a2:=ae.grown s5 (ae.ne_own ad rfl);have Z:=J.grown s5 (J.ne_own ad rfl);have ac:Zd (w6.setCell (adr Na v) (.int .i64 ((bk s v).length:Int))) w.heap.size (.slice VA (bk s v).length vc) (bk s v):=Jt b1 (GrN.by s5 λg eg=>eg) (λg eg e=>a7 g eg e);generalize w6.setCell (adr Na v) (.int .i64 ((bk s v).length:Int))=w7 at *
   clear s1 s2 s4 s5;refine Qk (bs1Int'' _) ?_;intro w8 b8 o f7 ei;refine ρ ?_;refine apI (Jk ac o) ei om (a1.trans o).size ?_;intro dz w9 c3 a4 ec;have am:Ext w w9:=Qg (a1.trans o) a4 (λg eg=>(c2 g eg).1);refine ρ ?_;refine Jl (v+1) dz sO ⟨om,am,(a2.ext o).grown a4 ((a2.ext o).ne_own (Jk ac o) rfl),(Z.ext o).grown a4 ((Z.ext o).ne_own (Jk ac o) rfl),?_,?_,λg eg e=>?_⟩ om
   .rw[Qjf lv,if_pos h];exact Jt (Jk s3 o) (GrN.by a4 λg eg=>eg) (λg eg e=>a7 g e eg)
   .rw[Gg,if_pos h];exact c3
   rcases ec g eg with h'|h'
   .exact a7 g h' e
   obtain⟨_,_,_,_,hf⟩:=Jy s3;have:=(hf g e).2;have:=o.size;omega
  rw[Gh b3]at h;have hf:¬ s.testBit v=true:=by rw[h];simp
  refine ρ ?_;refine Jl (v+1) vv sO ⟨om,bi,ae,J,?_,?_,a7⟩ om
  .rw[Qjf lv,if_neg hf];exact ad
  rw[Gg,if_neg hf,List.append_nil];exact b1
 have e6:v=32:=by have:=oF h;omega
 subst e6;clear h a7;obtain⟨VA,vc,cj,cy,c2⟩:=Qxk b1;subst cj;have dc:=Ya s 32;refine ρ ?_;refine Jxd (fun (i:Nat) (st:Int) (vp:Value) (ms:Nat->List Row)=>[(0,.int .i64 (n:Int)),(1,.int .u32 (s:Int)),(6,.pointer (some ⟨b6,0,none⟩)),(10,.slice VA (bk s 32).length vc),(13,.func (.func 169) #[] #[.pointer (some ⟨bp,0,none⟩)]),(14,.int .i64 st),(15,vp),(56,.slice Aa ts.length ca),(57,.int .i64 (ts.length:Int)),(58,.int .i64 (i:Int))])
  (λi st vp ms w'=>i<=ts.length/\Ext w w'/\w6.heap.size<=w'.heap.size/\Blk w' b6 134 [.slice none 0 0,.int .i64 0,.slice none 0 0]/\Blk w' bp 26 [.slice Na 32 32]/\w'.ownsRow w.heap.size 3 1 (.slice Na 32 32) 32 (Je (nz (Vp s 32)))/\Zd w' w.heap.size (.slice VA (bk s 32).length vc) (bk s 32) /\
   OwnG 134 3 AtG w' w6.heap.size vp ((List.range i).map λj=>⟨nz (rnm (vars j) s),(rnm (vars j) s).length,ms j⟩)/\∀ j,j<i->IsSet [] ((rs j).map (pmR (Xj (vars j) s))) (ms j)/\(ms j).length<=65536) (λi _ _ _=>ts.length-i) 0 0 (.slice none 0 0) (λ_=>[]) sB
  ⟨Nat.zero_le _,bi,Nat.le_refl _,ae,J,ad,b1,OwnG.nil _ _,λj hj=>om⟩ ?_
 rintro i st vp ms w7 ⟨hi,a1,b2,a2,Z,d4,ac,c9,ah⟩;refine ciR (λh=>?_) (λh=>?_)
 .have li:i<ts.length:=by have:=oT h;omega
  have di:=hR.ext a1;obtain⟨t1,t2,t3,a,hp⟩:∃ t1 t2 t3 a,ts.getD i ta0=((t1,t2,t3),a):=⟨_,_,_,_,rfl⟩;have dl:AtV w (t1,t2,t3) a:=by have:=hat _ (Jyj rfl li);rw[hp]at this;exact this
  have ea:a=⟨nz (vars i),(vars i).length,rs i⟩:=by have:=hok.run.at_ i li;rw[hp]at this;exact this
  subst ea;clear h;have h3:∀ u∈[t1,t2,t3],u.oneCell'=true:=dl.one;refine Qp 3 i di li ?_;refine Js (cs:=[t1,t2,t3]) (λj u hu=>Jvk di rfl li (by rw[hp];exact hu)) ?_;refine Jv Yg ?_;intro w8 f9 o dg bd;refine Qb (cs':=[t1,t2,t3]) bd ?_ h3;intro w9 bd a4 am;have af:Ext w7 w9:=am w7 o dg;refine Qq bd ?_;refine clR (Xkq (t:=(t1,t2,t3)) (dl.ext (a1.trans af)) b3 (hok.run.asc i li) (a3 i li) (hok.run.len i li) (hok.run.big i li)) ?_;rintro u ao ⟨a5,⟨p1,p2,p3⟩,rfl,m,a6,d7,d6,ag⟩;have U:=ag (hok.srtP i li);have ch:=a6.here;obtain⟨⟨PA,pc,dw,d2,e7,f0⟩,dv,bm⟩:=id ch;simp only at dw dv;obtain⟨bh,PG,ap,_,du,_⟩:=id bm;simp only at du;have cp:=a1.trans af;have e5:=cp.trans a5;refine Jv Yg ?_;intro dx f8 az df ai;refine Qb (cs':=[p1,p2,p3]) ai ?_ ch.one;intro aj ai da ay;have C:Ext ao aj:=ay ao az df;refine ρ ?_;subst dw;subst dv;subst du;refine lds (cs:=[.int .i64 ((inS (vars i) s).length:Int),.slice PG bh.length ap]) (ai.sub2 (i:=1) rfl rfl) ?_
  refine ρ ?_;have be:=ch.ext C;refine cl (Jwb be.rel) ?_;rintro u bg ⟨rfl,G⟩;obtain⟨c0,d1⟩:∃ c0:Int,c0=IntKind.i64.wrap (st+(m.length:Int)):=⟨_,rfl⟩;have cg:=ai.ext G;repeat first|refine ω4 ?_|refine ω5 ?_|refine χ1 ?_|refine κ1 ?_|refine κ2 ?_|refine χ2 ?_|refine κ3 ?_|refine ω6 ?_|refine ω7 ?_|refine ω9 ?_|refine κ4 ?_|refine κ7 ?_|refine κ8 ?_|refine χ3 ?_|refine χ4 ?_|refine κ5 ?_|refine κ6 ?_|refine χ5 ?_|refine χ6 ?_|refine χ7 ?_|refine ω8 ?_
  rw[<-d1];refine Qq cg ?_;refine ρ ?_;have O:Ext w7 bg:=((af.trans a5).trans C).trans G;have ax:=a1.trans O;refine clv (Qpb (Na:=Na) (nums:=Vp s 32) (be.ext G) ?_ ?_ (λv hv=>?_) ?_) ?_
  .rw[Jzc];exact Z.ext O
  .rw[Jzc];exact Rd.own (Jk d4 O)
  .rw[Jzc];exact a3 i li v (inS_mem.1 hv).1
  .have:=List.length_filter_le (λv=>s.testBit v) (vars i);have h5:=Jvl (hok.run.asc i li) (a3 i li);unfold inS;omega
  rintro u an ⟨av,v1,rfl,c4⟩;have cz:=c4.here;obtain⟨QA,qc,dq,ez,ey,ex⟩:=cz;refine Qk (Jlv v1 _ _ QA PG _ qc _ ap _ dq rfl rfl) ?_;intro bz fa au et dk;have ek:(inS (vars i) s).map (λv=>(Vp s 32).getD v 0)=rnm (vars i) s:=by
   unfold rnm;refine List.map_congr_left λv hv=>?_;obtain⟨h5,h6⟩:=inS_mem.1 hv;exact Qmz (a3 i li v h5) h6
  rw[ek]at c4;have D:=(O.trans av).trans au;have b9:=c9.ext D;obtain⟨_,_,_,_,c8⟩:=c9.form;have c6:∀ k,Xx w6.heap.size vp k->k<w7.heap.size:=λk hk=>by
   rcases hk with hk|hk
   .exact nM hk b2
   exact(c8 k hk).2
  have hΦ:Off (Xx w6.heap.size vp) bz (λu=>AtG u [v1,.int .i64 ((inS (vars i) s).length:Int),.slice PG bh.length ap] ⟨nz (rnm (vars i) s),(rnm (vars i) s).length,m⟩):=by
   have h5:Off (λk=>k<w7.heap.size) bz (λu=>IntsV u v1 (nz (rnm (vars i) s))):=(c4.mono λk _ hk=>nM hk O.size).ext au;have h6:Off (λk=>k<w7.heap.size) bz (λu=>AtV u (.slice PA (nz (inS (vars i) s)).length pc,.int .i64 ((inS (vars i) s).length:Int),.slice PG bh.length ap) ⟨nz (inS (vars i) s),(inS (vars i) s).length,m⟩) :=
    (a6.mono λk _ hk=>nM hk af.size).ext (((C.trans G).trans av).trans au)
   refine((h5.and h6).imp λu h=>⟨(v1,.int .i64 ((inS (vars i) s).length:Int),.slice PG bh.length ap),rfl,h.1,?_,h.2.2.2⟩).mono λk _ hk=>c6 k hk;simp only;rw[Jsq]
  refine ρ ?_;refine apG EA (Φ:=AtG) b9 dk rfl (Ig (by rw[dq];rfl)) hΦ (by simp;omega) om (nL b2 D.size) ?_;intro cm bf dj a9 en;have cv:Ext w bf:=Qg (a1.trans D) a9 (λg eg=>nL bi.size (c8 g eg).1);have bn:∀ {g t:Nat} {cs:List Value},Blk w7 g t cs->Nat.beq 134 t=false->Blk bf g t cs:=λhB e=>by
   obtain⟨ps,_,ho,_⟩:=b9;exact(hB.ext D).grown a9 ((hB.ext D).ne_own ho e)
  have cb:Blk bf b6 134 [.slice none 0 0,.int .i64 0,.slice none 0 0]:=by
   exact(a2.ext D).grown a9 λe=>by have:=(c8 b6 e.symm).1;have:=ae.lt;omega
  have bs:∀ {m':Nat} {v:Value} {xs:List Value},w7.ownsRow w.heap.size 3 1 v m' xs->bf.ownsRow w.heap.size 3 1 v m' xs:=λho=>by
   obtain⟨ps,_,eb,_⟩:=b9;exact Zg (Jk ho D) eb a9 rfl
  refine ρ ?_;refine Kd (i+1) c0 cm (upd ms i m) sO ⟨om,cv,Nat.le_trans b2 (nL D.size a9.size),cb,bn Z rfl,bs d4,bs ac,?_,λj hj=>?_⟩ om
  .rw[List.range_succ,List.map_append,List.map_singleton,Ju];have e:(List.range i).map (λj=>(⟨nz (rnm (vars j) s),(rnm (vars j) s).length,upd ms i m j⟩:Atm))=(List.range i).map (λj=>⟨nz (rnm (vars j) s),(rnm (vars j) s).length,ms j⟩):=by
    refine List.map_congr_left λj hj=>?_;have:=List.mem_range.1 hj;rw[Jm _ _ om]
   rw[e];exact dj
  by_cases e:j=i
  .subst e;rw[Ju];exact⟨U,d7⟩
  rw[Jm _ _ e];exact ah j om
 have ee:i=ts.length:=by have:=oF h;omega
 subst ee;clear h;refine Jv zRows ?_;intro w8 ck o de aa;have eh:=c9.ext o;obtain⟨e1,PA,pc,dt,ej,d2,e7,e8,e9⟩:=Jmh (eh.gv (by simp;omega));have c5:e1.length=ts.length:=by
  have:=congrArg List.length dt;simpa using this.symm
 have bu:=Qlt hok c5 dt ah;subst ej;have cn:=a1.trans o;have b7:=Qnx (m:=ts.length) (ms:=ms) hok.sb b4 hok.run.lt hok.run.len (λi hi x=>(ah i hi).1.2 x);refine clR (Xjk (bx':=λk=>k=ck) (Y:=YM ck) bu e8 d2 e9 (Jfg bu) (λk hk=>by subst hk;exact aa.lt) (Qnz aa.lt) (λw' cw=>⟨nM aa.lt cw.size,.slice none 0 0,aa.ext cw,OwnG.nil _ _⟩) ?_) ?_
 .intro l h1 h2;refine hcap l h1 λx hx=>(b7 x).1 ?_;have:=h2 x hx;rw[c5]at this;exact this
 rintro u w9 ⟨a4,ew,base,l,rfl,f5,er,⟨f6,eu,ce,hO⟩,bo,a8⟩;rw[c5]at a8;have cx:w.heap.size<=ck:=nL a1.size de;have am:Ext w w9:=a4.old cn λk hk=>by subst hk;exact cx
 have ba:=Jb (a2.ext o) a4 (λe=>by have:=a2.lt;omega);have c3:Zd w9 w.heap.size (.slice VA (bk s 32).length vc) (bk s 32):=Jt (Jk ac o) a4 (λg eg e=>by subst e;exact aa.ne_own (Jk ac o) rfl eg.symm);have d8:l.length<=65536:=by
  refine hcap l bo λx hx=>(b7 x).1 ((a8 x).1 hx)
 obtain⟨LA,lc,dm,f3,f2⟩:=hO.form;subst dm;have bj:=Qgc (hO.gv om);refine ldR (ce.at (i:=0) rfl) ?_;refine clR (Jfp (ar:=(bk s 32).length) bj) ?_;rintro u ao ⟨a5,rv,e,rfl,⟨z,RB,rm,rd,rfl⟩,db,bt⟩;have ed:∀ r∈l,r.length=(bk s 32).length/\r.all Xf=true:=λr hr=>⟨((a8 r).1 hr).1,Qrm hok ah ((a8 r).1 hr)⟩;have e0:=db dc ed d8;subst e0;obtain⟨_,_,m,a6,d7,d6,ag⟩:=bt rfl;have U:=ag (.inr (Gt bo));have el:m=l:=Jjs U.1 bo U.2;subst el;clear ag U db bt d6;refine Jv Gm ?_;intro dx em az dd bc;refine Qb (cs':=[.int .i64 z,.slice RB rm rd]) bc ?_ Yn;intro aj bc da ay;have C:Ext ao aj:=ay ao az dd;refine ρ ?_;have ab:=a5.trans C;have cd:=ba.ext ab;have bl:=(a6.here).ext C;refine drN (λk=>k=b6) 12 (scq 12 [7,9]) kr ?_;have ak:Ext aj aj.drew:=(Ext.refl aj).drew;have bb:=bc.ext ak;have bv:=cd.ext ak;have bn:¬ (λk=>k=b6) em:=λe=>by
  have h1:=ba.lt;have h2:=a5.size;simp only at e;omega
 refine ρn ?_;refine Xr (cs:=[.int .i64 z,.slice RB rm rd]) (λw' hg j u hu=>(Jb bb hg bn).at hu) ?_;refine ρn ?_;refine Jqf (Qwm _ _ _ _ _ _ _) ?_;refine ρn ?_;refine Xr (cs:=[.int .i64 z,.slice RB rm rd]) (λw' hg j u hu=>(Jb bb hg bn).at hu) ?_;refine ρn ?_;refine nop ?_;refine cl (Jwb (bl.ext ak)) ?_;rintro u bg ⟨rfl,G⟩;refine ρ ?_;refine Ja (GrN.ext G) ?_;refine ρn ?_;refine nop ?_;refine stb (cs':=[.slice VA (bk s 32).length vc,.int .i64 z,.slice RB rm rd]) (bv.ext G) ?_ (Ig rfl);intro an cc b5 av;refine ω5 ?_;refine Ja (GrN.by b5 λk e=>by injection e with e;exact e.symm) ?_;refine ρn ?_;refine ρ ?_;have ax:Ext w bg:=((am.trans ab).trans ak).trans G;refine Qxz cc ⟨Jbv ax b5 ef,(.slice VA (bk s 32).length vc,.int .i64 z,.slice RB rm rd),_,m,rfl,?_,bo,λx=>(a8 x).trans (b7 x),d8⟩;have d9:GrN (λk=>k=b6) bg an:=GrN.by b5 λk e=>by injection e with e;exact e.symm
 have br:=Jk c3 ((ab.trans ak).trans G);have d0:Zd an w.heap.size (.slice VA (bk s 32).length vc) (bk s 32):=Jt br d9 λg eg e=>by subst e;exact(bv.ext G).ne_own br rfl eg.symm
 have h5:Off (λk=>k<w.heap.size) an (λu=>IntsV u (.slice VA (bk s 32).length vc) (nz (bk s 32))):=by
  refine(Jxt d0 λg eg hk=>by have:=(c2 g eg).1;omega).imp λu h=>⟨VA,vc,by rw[Qf],by rw[Qf];exact cy,by rw[Qf];omega,by rw[Qf];exact Rd.own h⟩
 have h6:Off (λk=>k<w.heap.size) an (λu=>RelV u (.agg #[.int .i64 z,.slice RB rm rd]) (bk s 32).length m):=by
  have h7:=a6.ext ((C.trans ak).trans G);have h8:=h7.gr (d9.mono λk _ hk=>by subst hk;exact ba.lt);exact h8.mono λk _ hk=>nM hk am.size
 refine(h5.and h6).imp λu h=>?_;obtain⟨h7,rv,dn,h8⟩:=h;have e2:(Value.int .i64 z)=.int .i64 ((bk s 32).length:Int)/\Value.slice RB rm rd=rv:=by
  simp only[Value.agg.injEq,Array.mk.injEq,List.cons.injEq,and_true]at dn;exact dn
 exact⟨h7,e2.1,by simp only;rw[e2.2];exact h8⟩
end Go.Proofs.YtgobkbeokaaplaaGreatDoor
namespace Go.Wk
open Go.RowKit
variable {p:Addr}{z:Int}{kd:IntKind}{cs cs' xs:List Value}{b e g m t:Nat}{i x y:Operand}{k k2:TK}{v:Value}
section
variable {N:Nat->Prop} {P:Program} {n:Nat} {al:AL} {w:World} {Q:Exit->Act->World->Prop} {ops:Array Oper} {rest:List Oper} {drest:List (Nat×Oper)}
variable {d ty:Nat} {pos:String} {aft:Array Edge} {tt:TT}
theorem Jkp(hT:TOk P tt)(ht:tk tt t=some k)(hk:k.desc=.array m e)(w:World): (isAgg t).run P w=.ok true w/\Zu P t=some k.size/\P.underlying t=some (.array m e)/\Zu P e=some k.esz:=by
 have:=hT.at ht;unfold Ud at this;rw[hk]at this;exact⟨by simp[isAgg,run_underlying this.1],this.2.2,this.1,this.2.1⟩
theorem Jsh(hT:TOk P tt)(ht:tk tt t=some k)(hk:k.desc=.array m e)(hl:k.size=cs.length)(hc:∀ j u,cs[j]?=some u->w.cell? (p.add j)=some u): (loadVar t p).run P w=.ok (.agg cs.toArray) w:=by
 have i:=run_loadCells_list (P:=P) w p cs hc;rw[<-hl]at i;simp[loadVar,(Jkp hT ht hk w).1,Vo w (Jkp hT ht hk w).2.1,i]
theorem lda[h:Tab P tt](hc:∀ j u,cs[j]?=some u->w.cell? (p.add j)=some u)(hl:k.size=cs.length)(kk:WL P n ops Q rest ((d,.agg cs.toArray)::al) w)(ht:tk tt t=some k:=by rfl)(hk:k.desc=.array m e:=by rfl)(hx:ev al x=some (.pointer (some p)):=by rfl)(hd:Nat.blt d n=true:=by rfl): WL P n ops Q (⟨some d,.load t x,ty,pos,aft,none⟩::rest) al w :=
 wop hd (λa i=>by simp[execOp,i.ev hx,Instr.loadAt,Instr.sureAddr,Jsh (w:=w) h.ok ht hk hl hc]) kk
theorem sta[h:Tab P tt](hb:Blk w b t cs)(kk:∀ w1,Blk w1 b t cs'->w.grownBy w1 (some b)->(∀ a,Ext a w->a.heap.size<=b->Ext a w1)->WL P n ops Q rest al w1)(h1:∀ u∈cs',u.oneCell'=true)(hl:cs.length=cs'.length)(hs:k.size=cs'.length)(ht:tk tt t=some k:=by rfl)(hk:k.desc=.array m e:=by rfl)(hx:ev al x=some (.pointer (some ⟨b,0,none⟩)):=by rfl)(hy:ev al y=some (.agg cs'.toArray):=by rfl):
  WL P n ops Q (⟨none,.store t x y,ty,pos,aft,none⟩::rest) al w:=by
 have C:=Jqp w b cs'.toArray;refine Jjh (λa o=>?_) (kk (w.setRow b cs'.toArray) (setRow_heap w b _ _ _ _ hb) C (λa hx o=>Qg hx C (λk hk=>by grind)));have j:=Vo w (Jkp h.ok ht hk w).2.1;have i:=run_storeCells_from (P:=P) b t cs' 0 cs.toArray w hb (by simpa using hl.symm) h1;simp only[List.take_zero,List.nil_append]at i;simp[execOp,o.ev hx,o.ev hy,Instr.storeAt,Instr.sureAddr,storeVar,Value.cells,j,hs,i]
theorem Qzb[h:Tab P tt]{fn:Func}{Φ:Value->World->Prop}{c:Nat}(hb:Blk w b t cs)(hs:k.size=cs.length)(hp:Φ (.agg cs.toArray) w)(hr:fn.results = #[.cell c t]:=by rfl)(ht:tk tt t=some k:=by rfl)(hk:k.desc=.array m e:=by rfl)(hc:lk al c=some (.pointer (some ⟨b,0,none⟩)):=by rfl):
  QX n (Vg P fn Φ) .ret al w :=
 Jzt (rs:=[.cell c t]) (vs:=[.agg cs.toArray]) hr ⟨⟨_,hc,Jsh h.ok ht hk hs (λj u i=>hb.at i)⟩,trivial⟩ rfl hp
theorem idx[h:Tab P tt](j:Nat)(hlt:j<m)(hv:cs[j]?=some v)(kk:WL P n ops Q rest ((d,v)::al) w)(ht:tk tt t=some k:=by rfl)(hk:k.desc=.array m e:=by rfl)(h1:k.esz=1:=by rfl)(he:tk tt e=some k2:=by rfl)(hp:Vy k2.desc=true:=by rfl)(hx:ev al x=some (.agg cs.toArray):=by rfl)(hi:ev al i=some (.int kd z):=by rfl)(hj:z=(j:Int):=by first|rfl|omega)(hd:Nat.blt d n=true:=by rfl):
  WL P n ops Q (⟨some d,.index t x i,ty,pos,aft,none⟩::rest) al w :=
 wop hd (λa u=>by
  subst hj;have o:=Jkp h.ok ht hk w;have C:=Vo w (h1 ▸ o.2.2.2);have D:=(Jyh h.ok he hp w).1;simp[execOp,u.ev hx,u.ev hi,Instr.index,asIntOf,run_underlying o.2.2.1,hlt,C,part,D,hv]) kk
theorem ixs[h:Tab P tt](j:Nat)(hlt:j<m)(kk:WL P n ops Q rest ((d,.pointer (some (p.add (j*k.esz))))::al) w)(ht:tk tt t=some k:=by rfl)(hk:k.desc=.array m e:=by rfl)(hx:ev al x=some (.pointer (some p)):=by rfl)(hi:ev al i=some (.int kd z):=by rfl)(hj:z=(j:Int):=by first|rfl|omega)(hd:Nat.blt d n=true:=by rfl): WL P n ops Q (⟨some d,.indexAddr t x i,ty,pos,aft,none⟩::rest) al w :=
 wop hd (λa o=>Jff h.ok j ht hk hlt o hx hi hj (some d) w) kk
theorem dixs[h:Tab P tt](j:Nat)(hlt:j<m)(kk:WD P n ops Q drest ((d,.pointer (some (p.add (j*k.esz))))::al) w)(ht:tk tt t=some k:=by rfl)(hk:k.desc=.array m e:=by rfl)(hx:ev al x=some (.pointer (some p)):=by rfl)(hi:ev al i=some (.int kd z):=by rfl)(hj:z=(j:Int):=by first|rfl|omega)(hd:Nat.blt d n=true:=by rfl): WD P n ops Q ((0,⟨some d,.indexAddr t x i,ty,pos,aft,none⟩)::drest) al w :=
 dy (λw' _ a o=>Jff h.ok j ht hk hlt o hx hi hj (some d) w') hd kk
theorem adr1(b v:Nat): (⟨b,0,none⟩:Addr).add (v*1)=⟨b,v,none⟩:=by rw[Yf,Nat.mul_one,Nat.zero_add]
theorem ixb[h:Tab P tt](j:Nat)(hlt:j<m)(kk:WL P n ops Q rest ((d,.pointer (some ⟨b,j,none⟩))::al) w)(ht:tk tt t=some k:=by rfl)(hk:k.desc=.array m e:=by rfl)(h1:k.esz=1:=by rfl)(hx:ev al x=some (.pointer (some ⟨b,0,none⟩)):=by rfl)(hi:ev al i=some (.int kd z):=by rfl)(hj:z=(j:Int):=by first|rfl|omega)(hd:Nat.blt d n=true:=by rfl): WL P n ops Q (⟨some d,.indexAddr t x i,ty,pos,aft,none⟩::rest) al w:=by
 rw[<-adr1 b j,<-h1]at kk;exact ixs j hlt kk ht hk hx hi hj hd
theorem dixb[h:Tab P tt](j:Nat)(hlt:j<m)(kk:WD P n ops Q drest ((d,.pointer (some ⟨b,j,none⟩))::al) w)(ht:tk tt t=some k:=by rfl)(hk:k.desc=.array m e:=by rfl)(h1:k.esz=1:=by rfl)(hx:ev al x=some (.pointer (some ⟨b,0,none⟩)):=by rfl)(hi:ev al i=some (.int kd z):=by rfl)(hj:z=(j:Int):=by first|rfl|omega)(hd:Nat.blt d n=true:=by rfl): WD P n ops Q ((0,⟨some d,.indexAddr t x i,ty,pos,aft,none⟩)::drest) al w:=by
 rw[<-adr1 b j,<-h1]at kk;exact dixs j hlt kk ht hk hx hi hj hd
theorem nixb[h:Tab P tt](j:Nat)(hlt:j<m)(kk:WN N P n ops Q drest ((d,.pointer (some ⟨b,j,none⟩))::al) w)(ht:tk tt t=some k:=by rfl)(hk:k.desc=.array m e:=by rfl)(h1:k.esz=1:=by rfl)(hx:ev al x=some (.pointer (some ⟨b,0,none⟩)):=by rfl)(hi:ev al i=some (.int kd z):=by rfl)(hj:z=(j:Int):=by first|rfl|omega)(hd:Nat.blt d n=true:=by rfl): WN N P n ops Q ((0,⟨some d,.indexAddr t x i,ty,pos,aft,none⟩)::drest) al w:=by
 rw[<-adr1 b j,<-h1]at kk;exact nixa j hlt kk ht hk hx hi hj hd
theorem Blk.atc{w:World}{t:TypeId}(h:Blk w g t cs){i:Nat}(hv:cs[i]?=some v): w.cell? ⟨g,i,none⟩=some v:=by rw[h.cell];exact hv
theorem sla[h:Tab P tt](kk:WL P n ops Q rest ((d,.slice (some p) m m)::al) w)(ht:tk tt t=some k:=by rfl)(hk:k.desc=.array m e:=by rfl)(hx:ev al x=some (.pointer (some p)):=by rfl)(hd:Nat.blt d n=true:=by rfl): WL P n ops Q (⟨some d,.slice t x none none none,ty,pos,aft,none⟩::rest) al w :=
 wop hd (λa o=>by
  have i:=Jkp h.ok ht hk w;have j:=Vo w i.2.2.2;simp[execOp,o.ev hx,Instr.sliceAt,run_underlying i.2.2.1,Instr.sureAddr,Instr.sliceBounds,j];grind [add_zero]) kk
theorem cpb{dT sT dl dc sn sc:Nat}{A:Option Addr}[h:Tab P tt](hb:Blk w b t cs)(hr:Rd w 1 A sn xs)(hsn:sn<=dl)(hdl:dl<=cs.length)(h1:∀ u∈xs,u.oneCell'=true)(kk:∀ w1,Blk w1 b t (xs++cs.drop sn)->w.grownBy w1 (some b)->WL P n ops Q rest ((d,.int .i64 (sn:Int))::al) w1)(ht:tk tt dT=some k:=by rfl)(hk:k.desc=.slice e:=by rfl)(hz:k.esz=1:=by rfl)(hx:ev al x=some (.slice (some ⟨b,0,none⟩) dl dc):=by rfl)(hy:ev al y=some (.slice A sn sc):=by rfl)(hd:Nat.blt d n=true:=by rfl):
  WL P n ops Q (⟨some d,.call { callee:=.builtin .copy,args:=#[x,y],argTypes:=#[dT,sT] },ty,pos,aft,none⟩::rest) al w:=by
 have G:xs.length=sn:=by rw[hr.len,Nat.mul_one]
 have J:=Iy h.ok ht hk hz;have C:(P.info? e).map (·.size)=some 1:=J.2
 have O:=Jqp w b (xs++cs.drop sn).toArray;have hB:Blk (w.setRow b (xs++cs.drop sn).toArray) b t (xs++cs.drop sn):=setRow_heap w b _ _ _ _ hb;refine wop (w':=w.setRow b (xs++cs.drop sn).toArray) hd (λa D=>?_) (kk _ hB O);by_cases h0:sn=0
 .subst h0;have:xs=[]:=List.eq_nil_of_length_eq_zero G;subst this;have e0:w.setRow b ([]++cs.drop 0).toArray=w:=by
   have:=setRow_self w b cs.toArray t (0,0) hb;simpa using this
  rw[e0];cases hq:P.info? e with
  | none=>rw[hq]at C;cases C
  | some i=>
   cases A with
   | none=>simp[execOp,resolve,invoke,builtin,D.ev hx,D.ev hy,Builtin.copy_,run_underlying J.1,Builtin.lenOf,Builtin.firstCells,sizeOf,typeInfo,hq,storeCells,goInt]
   | some U=>simp[execOp,resolve,invoke,builtin,D.ev hx,D.ev hy,Builtin.copy_,run_underlying J.1,Builtin.lenOf,Builtin.firstCells,sizeOf,typeInfo,hq,storeCells,goInt,loadCells,loadCellsFrom]
 obtain⟨U,hA,_⟩:=hr.isome om om;subst hA;have o:=run_copy_row P w dT sT ty e b 0 dl dc U sn sc cs.toArray t xs J.1 C hb (by grind) (λj v Z=>hr.cell Z) (by simp;omega) h1;rw[G]at o;have e1:(cs.toArray.toList.take 0++xs++cs.toArray.toList.drop (0+sn)).toArray=(xs++cs.drop sn).toArray:=by simp
 rw[e1]at o;simp[execOp,resolve,invoke,builtin,D.ev hx,D.ev hy,o,goInt]
end
end Go.Wk
namespace Go.Wk
open Go.RowKit
variable {L listed listed':Array Bool}{l:List Oper}{fuel fuel' i id:Nat}{o oi oj:Oper}{w0:World}
section
variable {P:Program} {n:Nat} {al al':AL} {w:World} {Q:Exit->Act->World->Prop} {ops:Array Oper} {T:Nat->Bool}
def Iv(P:Program)(ops:Array Oper)(Q:Exit->Act->World->Prop)(T:Nat->Bool)(i:Nat)(w0:World)(fuel:Nat)(listed:Array Bool): Exit->Act->World->Prop
 | .normal,a,w=>(T i=false->Ext w0 w)/\(Closed ops listed->Vm P ops Q T fuel listed a w)
 | _,_,_=>False
theorem Kp(hx:T i=false->Ext w0 w)(h:WH P n ops Q T fuel listed al w): QX n (Iv P ops Q T i w0 fuel listed) .normal al w:=λa o=>⟨hx,λj=>h j a o⟩
theorem Jcx(ho:ops[i]?=some o)(hc:Closed ops listed)(h:WL P n ops (Iv P ops Q T i w fuel listed) [o] al w): ∀ a,Fr n al a->wpOp P ops (QF Q) i (λa' w'=>(T i=false->Ext w w')/\Vm P ops Q T fuel listed a' w') a w:=λa D=>by
 have j:=h a D;unfold wpList at j;unfold wpOp;simp only[ho];have u:¬ LetsOut (Iv P ops Q T i w fuel listed):=by rintro⟨a,w,h⟩;exact h
 split
 .rename_i hw;simp only[hw,if_true]at j;rcases j with j|⟨_,j⟩
  .left
   refine Oper.wp_mono (K:=wpList P ops (Iv P ops Q T i w fuel listed) []) (λa' w' C=>⟨C.1,C.2 hc⟩) ?_;unfold Oper.wp at j ⊢;grind [Yh,Iv]
  exact absurd j u
 rename_i hw;simp only[hw]at j;exact⟨j.1,j.2 hc⟩
theorem itwo(i j:Nat)(hr:Region.ready .any l.toArray listed=[i,j])(hf:fuel=fuel'+1)(hi:nth l i=some oi)(hj:nth l j=some oj)(h1:WL P n l.toArray (Iv P l.toArray Q T i w fuel' (listed.setIfInBounds i true)) [oi] al w)(h2:WL P n l.toArray (Iv P l.toArray Q T j w fuel' (listed.setIfInBounds j true)) [oj] al w): WH P n l.toArray Q T fuel listed al w:=λC a D=>by
 subst hf;have J:l.toArray[i]?=some oi:=by rw[<-hi,Xb];simp
 have G:l.toArray[j]?=some oj:=by rw[<-hj,Xb];simp
 refine⟨λh0=>(by rw[hr]at h0;cases h0),λk u=>?_⟩;have o:=u;rw[hr]at u;simp only[List.mem_cons,List.not_mem_nil,or_false]at u;rcases u with rfl|rfl
 .exact Jcx J (C.step o) h1 a D
 exact Jcx G (C.step o) h2 a D
theorem Jwp(i:Nat)(hr:Region.ready .any l.toArray listed=[i])(hf:fuel=fuel'+1)(hi:nth l i=some oi)(h1:WL P n l.toArray (Iv P l.toArray Q T i w fuel' (listed.setIfInBounds i true)) [oi] al w): WH P n l.toArray Q T fuel listed al w:=λu a C=>by
 subst hf;have D:l.toArray[i]?=some oi:=by rw[<-hi,Xb];simp
 refine⟨λh0=>(by rw[hr]at h0;cases h0),λk j=>?_⟩;have o:=j;rw[hr]at j;simp only[List.mem_cons,List.not_mem_nil,or_false]at j;subst j;exact Jcx D (u.step o) h1 a C
theorem Uk(i:Nat)(hsel:Region.noSelect l.toArray=true)(hr:((Region.ready .any l.toArray listed).contains i && Region.free .any l.toArray listed i)=true)(hf:fuel=fuel'+1)(hi:nth l i=some oi)(h:WP P n l.toArray (Jjm P l.toArray Q T fuel' (listed.setIfInBounds i true)) [] [oi] al w): WH P n l.toArray Q T fuel listed al w:=λo a D=>by
 subst hf;simp only[Bool.and_eq_true]at hr;have j:i∈Region.ready .any l.toArray listed:=by simpa using hr.1
 have u:l.toArray[i]?=some oi:=by rw[<-hi,Xb];simp
 unfold WP at h;obtain⟨v,C,G⟩:=h a D;exact Jyb (λ_ _=>True) (λ_=>trivial) (λ_ _=>trivial) u (Region.noSelect_spec hsel) (λ_ _ _ _ _ _ _ _=>trivial) _ listed a w o (Region.free_spec u hr.2) j C (G (o.step j))
end
section
variable {N:Nat->Prop} {P:Program} {n:Nat} {al al':AL} {w:World} {Q:Exit->Act->World->Prop} {ops:Array Oper}
def Jjd(ops:Array Oper): List (Nat×Nat)->Array Bool->Option (Array Bool)
 | [],listed=>some listed
 | (0,i)::r,listed=>if(Region.ready .any ops listed).contains i && Region.free .any ops listed i then Jjd ops r (listed.setIfInBounds i true) else none
 | (1,i)::r,listed=>if Region.ready .any ops listed == [i] then Jjd ops r (listed.setIfInBounds i true) else none
 | _::_,_=>none
def Jxk(N:Nat->Prop)(P:Program)(ops:Array Oper)(Q:Exit->Act->World->Prop)(fuel:Nat)(listed:Array Bool): Exit->Act->World->Prop
 | .normal,a,w=>Closed ops listed->Uy N P ops Q noT fuel listed a w
 | _,_,_=>False
theorem Xwx{a:Act}{w:World}{K:Act->World->Prop}(h:o.wp P a w K (QF (Jxk N P ops Q fuel listed))): o.wp P a w K (QF Q):=by
 unfold Oper.wp at h ⊢;have i:¬ LetsOut (QF (Jxk N P ops Q fuel listed)):=by rintro⟨a,w,h⟩;exact h
 grind [Yh,QF,Jxk]
theorem Jvx(hsel:Region.noSelect ops=true)(fuel:Nat)(listed':Array Bool): ∀(s:List (Nat×Nat)) (listed:Array Bool) (a:Act) (w:World),Closed ops listed->Jjd ops s listed=some listed'->Zw N P ops (Jxk N P ops Q fuel listed') (Qd ops.toList s) a w->Uy N P ops Q noT (s.length+fuel) listed a w
 | [],listed,a,w,hcl,hB,h=>by
  simp only[Jjd,Option.some.injEq]at hB;subst hB;simp only[List.length_nil,Nat.zero_add];exact h hcl
 | (0,i)::r,listed,a,w,hcl,hB,h=>by
  simp only[Jjd]at hB;split at hB
  .rename_i hc;simp only[Bool.and_eq_true]at hc;have hr':i∈Region.ready .any ops listed:=by simpa using hc.1
   obtain⟨_,oi,ho,_⟩:=mem_ready.1 hr';have hn:nth ops.toList i=some oi:=by grind [Xb]
   simp only[Qd,hn,Zw,Ue]at h;obtain⟨v,hy,h⟩:=h;have e:((0,i)::r).length+fuel=(r.length+fuel)+1:=by simp;omega
   rw[e];exact Jnp (GrN N) (GrN.refl N) (λh k=>GrN.trans h k) ho (Region.noSelect_spec hsel) (λ_ _ _ _ _ _ _ hg=>hg rfl) _ listed a w hcl (Region.free_spec ho hc.2) hr' hy (Jvx hsel fuel listed' r _ _ _ (hcl.step hr') hB h)
  cases hB
 | (1,i)::r,listed,a,w,hcl,hB,h=>by
  simp only[Jjd]at hB;split at hB
  .rename_i hc;have hc':Region.ready .any ops listed=[i]:=by simpa using hc
   have hr':i∈Region.ready .any ops listed:=by grind
   obtain⟨_,oi,ho,_⟩:=mem_ready.1 hr';have hn:nth ops.toList i=some oi:=by grind [Xb]
   simp only[Qd,hn,Zw,Ue]at h;have e:((1,i)::r).length+fuel=(r.length+fuel)+1:=by simp;omega
   rw[e];refine⟨λh0=>(by grind),λj hj=>?_⟩;rw[hc']at hj;obtain rfl:j=i:=by simpa using hj
   have hcl':=hcl.step hr';unfold wpOp;simp only[ho];split
   .rename_i hw;simp only[hw,if_true]at h;exact .inl (Oper.wp_mono (λa' w' h'=>⟨λ_=>h'.1,Jvx hsel fuel listed' r _ _ _ hcl' hB h'.2⟩) (Xwx h))
   rename_i hw;simp only[hw]at h;exact⟨λ_=>GrN.refl N w,Jvx hsel fuel listed' r _ _ _ hcl' hB h⟩
  cases hB
 | (k+2,i)::r,listed,a,w,_,hB,_=>by simp[Jjd]at hB
def WM(N:Nat->Prop)(P:Program)(n:Nat)(ops:Array Oper)(Q:Exit->Act->World->Prop)(fuel:Nat)(listed:Array Bool)(al:AL)(w:World): Prop:=Closed ops listed->∀ a,Fr n al a->Uy N P ops Q noT fuel listed a w
theorem WM.sub{fuel:Nat}{listed:Array Bool}(hs:Sub al' al)(h:WM N P n ops Q fuel listed al' w): WM N P n ops Q fuel listed al w:=λi a j=>h i a (j.sub hs)
theorem drM{tt:TT}[ht:Tab P tt](N:Nat->Prop)(h:WM N P n l.toArray Q l.toArray.size (Array.replicate l.toArray.size false) al w.drew): WC P n (.region id l.toArray true) Q al w:=λa i=>
 wp_region_any ht.mixed (Jcz (N:=N) (T:=noT) _ _ _ _ (h (Qkn _ _) a i))
theorem Gw(s:List (Nat×Nat))(listed':Array Bool)(hsel:Region.noSelect l.toArray=true)(hB:Jjd l.toArray s listed=some listed')(hf:fuel=s.length+fuel')(h:WN N P n l.toArray (Jxk N P l.toArray Q fuel' listed') (Qd l s) al w): WM N P n l.toArray Q fuel listed al w:=λj a i=>by
 subst hf;have o:=h a i;grind [Jvx]
theorem Gv(h:WM N P n ops Q fuel listed al w): QX n (Jxk N P ops Q fuel listed) .normal al w:=λa j i=>h i a j
theorem mend(hr:Region.ready .any ops listed=[])(h:QX n Q .normal al w): WM N P n ops Q 0 listed al w:=λ_ a i=>⟨hr,h a i⟩
def Iw(N:Nat->Prop)(P:Program)(ops:Array Oper)(Q:Exit->Act->World->Prop)(w0:World)(fuel:Nat)(listed:Array Bool): Exit->Act->World->Prop
 | .normal,a,w=>GrN N w0 w/\(Closed ops listed->Uy N P ops Q noT fuel listed a w)
 | _,_,_=>False
theorem Xs(hx:GrN N w0 w)(h:WM N P n ops Q fuel listed al w): QX n (Iw N P ops Q w0 fuel listed) .normal al w:=λa j=>⟨hx,λi=>h i a j⟩
theorem Jcw(ho:ops[i]?=some o)(hc:Closed ops listed)(h:WL P n ops (Iw N P ops Q w fuel listed) [o] al w): ∀ a,Fr n al a->wpOp P ops (QF Q) i (λa' w'=>(noT i=false->GrN N w w')/\Uy N P ops Q noT fuel listed a' w') a w:=λa D=>by
 have j:=h a D;unfold wpList at j;unfold wpOp;simp only[ho];have u:¬ LetsOut (Iw N P ops Q w fuel listed):=by rintro⟨a,w,h⟩;exact h
 split
 .rename_i hw;simp only[hw,if_true]at j;rcases j with j|⟨_,j⟩
  .left
   refine Oper.wp_mono (K:=wpList P ops (Iw N P ops Q w fuel listed) []) (λa' w' C=>⟨λ_=>C.1,C.2 hc⟩) ?_;unfold Oper.wp at j ⊢;grind [Yh,Iw]
  exact absurd j u
 rename_i hw;simp only[hw]at j;exact⟨λ_=>j.1,j.2 hc⟩
theorem Jzj(i j:Nat)(hr:Region.ready .any l.toArray listed=[i,j])(hf:fuel=fuel'+1)(hi:nth l i=some oi)(hj:nth l j=some oj)(h1:WL P n l.toArray (Iw N P l.toArray Q w fuel' (listed.setIfInBounds i true)) [oi] al w)(h2:WL P n l.toArray (Iw N P l.toArray Q w fuel' (listed.setIfInBounds j true)) [oj] al w): WM N P n l.toArray Q fuel listed al w:=λC a D=>by
 subst hf;have J:l.toArray[i]?=some oi:=by rw[<-hi,Xb];simp
 have G:l.toArray[j]?=some oj:=by rw[<-hj,Xb];simp
 refine⟨λh0=>(by rw[hr]at h0;cases h0),λk u=>?_⟩;have o:=u;rw[hr]at u;simp only[List.mem_cons,List.not_mem_nil,or_false]at u;rcases u with rfl|rfl
 .exact Jcw J (C.step o) h1 a D
 exact Jcw G (C.step o) h2 a D
theorem Yb(i:Nat)(hr:Region.ready .any l.toArray listed=[i])(hf:fuel=fuel'+1)(hi:nth l i=some oi)(h1:WL P n l.toArray (Iw N P l.toArray Q w fuel' (listed.setIfInBounds i true)) [oi] al w): WM N P n l.toArray Q fuel listed al w:=λu a C=>by
 subst hf;have D:l.toArray[i]?=some oi:=by rw[<-hi,Xb];simp
 refine⟨λh0=>(by rw[hr]at h0;cases h0),λk j=>?_⟩;have o:=j;rw[hr]at j;simp only[List.mem_cons,List.not_mem_nil,or_false]at j;subst j;exact Jcw D (u.step o) h1 a C
theorem Km(e:listed=listed')(h:WM N P n ops Q fuel listed' al w): WM N P n ops Q fuel listed al w:=by subst e;exact h
theorem mcut{α:Type}(fuel':Nat)(L':Array Bool)(fr:α->AL)(I:α->World->Prop)(h2:∀ x w,I x w->WM N P n ops Q fuel' L' (fr x) w)(h1:(∀ x al w,I x w->Sub (fr x) al->WM N P n ops Q fuel' L' al w)->WM N P n ops Q fuel L al w): WM N P n ops Q fuel L al w:=h1 λx al w hi i=>(h2 x w hi).sub i
end
end Go.Wk
namespace Go.Wk
open Go.RowKit
variable {d n ty v:Nat}
theorem sl64{P:Program}{al:AL}{w:World}{Q:Exit->Act->World->Prop}{ops:Array Oper}{rest:List Oper}{pos:String}{aft:Array Edge}{y:Operand}{t yt:TypeId}(hv:v<64)(kk:WL P n ops Q rest ((d,.int .u64 ((2^v:Nat):Int))::al) w)(hy:ev al y=some (.int .i64 (v:Int)):=by rfl)(hd:Nat.blt d n=true:=by rfl):
  WL P n ops Q (⟨some d,.binOp .shl t (.const (.int .u64 1)) y yt,ty,pos,aft,none⟩::rest) al w:=by
 have e:IntKind.u64.wrap (1*2^(min ((v:Nat):Int).toNat IntKind.u64.bits))=((2^v:Nat):Int):=by
  have h:2^v<18446744073709551616:=nM (Nat.pow_lt_pow_right (by decide:1<2) hv) (by decide);rw[Int.toNat_natCast,Nat.min_eq_left (by show v<=64;omega),Int.one_mul];have:((2:Int)^v)=((2^v:Nat):Int):=by simp
  rw[this,IntKind.wrap_u64];grind
 rw[<-e]at kk;exact wop hd (λa i=>Jkv (x:=.const (.int .u64 1)) rfl hy om i (some d) w) kk
end Go.Wk
namespace Go.Proofs.YtgobkbeokaaplaaGreatDoor
open Go.RowKit Pl Go.Wk _root_.Go.Proofs.Tryz
attribute [local irreducible] WC WL QX WD WDB WP WN WG
variable {es:List Nat}{c e i n v x:Nat}{A:Option Addr}{w:World}
def Uc(es:List Nat): List Value:=es.map fun (e:Nat)=>Value.int .u32 (e:Int)
theorem Qvt(h:i<es.length): (Uc es)[i]?=some (.int .u32 (es.getD i 0:Int)):=by
 simp[Uc,List.getD,List.getElem?_eq_getElem h]
structure GrV(w:World)(A:Option Addr)(c n:Nat)(es:List Nat): Prop where
 rd:Rd w 1 A es.length (Uc es)
 cap:es.length<=c
 n32:n<=32
 few:es.length<=64
 lt:∀ e∈es,e<2^n
abbrev grC(A:Option Addr)(c n:Nat)(es:List Nat): List Value:=[.int .i64 (n:Int),.slice A es.length c]
theorem GrV.ext{w w':World}{A:Option Addr}{c n:Nat}{es:List Nat}(h:GrV w A c n es)(hx:Ext w w'): GrV w' A c n es:=⟨h.rd.ext hx,h.cap,h.n32,h.few,h.lt⟩
theorem Jxs(h:n<=32): 2^n<=4294967296:=Nat.pow_le_pow_right (n:=2) (by decide) h
theorem GrV.lt32(h:GrV w A c n es)(he:e∈es): e<4294967296:=nM (h.lt e he) (Jxs h.n32)
theorem Qtd(hn:n<=32)(w:World): Ret prog 193 [.int .i64 (n:Int)] w λu w'=>u=.int .u32 ((2^n-1:Nat):Int)/\w'=w:=by
 have j:=Jxs hn;have i:0<2^n:=Nat.two_pow_pos n;refine enE func193 ntmps193 ?_;refine ρ ?_;refine sl64 (v:=n) om ?_;refine ρ ?_;refine Jj ⟨?_,rfl⟩;generalize 2^n=p at *
 congr 1
 rw[IntKind.wrap_u64,IntKind.wrap_u32];omega
theorem Xwh(h:e<2^n)(hn:n<=32): Kx e (2^n-1)=0:=by
 have j:=Jxs hn;have i:0<2^n:=Nat.two_pow_pos n;apply Nat.eq_of_testBit_eq
 grind [Jmn,Nat.testBit_two_pow_sub_one,Nat.testBit_lt_two_pow,Nat.lt_of_lt_of_le,Nat.pow_le_pow_right]
theorem Qxl(h:GrV w A c n es): Ret prog 167 [.agg (grC A c n es).toArray] w λu w'=>u=.int .i64 0/\Ext w w':=by
 have hn:=h.n32;have hf:=h.few;refine enE func167 ntmps167 ?_;refine bxR (cs:=grC A c n es) ?_;intro Z b o hb C;refine ldR (C.at (i:=0) rfl) ?_;refine ldR (C.at (i:=0) rfl) ?_;refine cfR ?_ ?_
 .grind
 refine ldR (C.at (i:=1) rfl) ?_;refine cfR ?_ ?_
 .grind
 refine ldR (C.at (i:=1) rfl) ?_;refine ρ ?_;refine Qy (fun (i:Nat)=>[(1,.pointer (some ⟨b,0,none⟩)),(18,.slice A es.length c),(19,.int .i64 (es.length:Int)),(20,.int .i64 (i:Int))])
  (λi w'=>i<=es.length/\Ext Z w') (λi=>es.length-i) 0 sB ⟨Nat.zero_le _,Ext.refl _⟩ ?_
 rintro i U ⟨hi,j⟩;have G:=C.ext j;have J:=h.ext (o.trans j);refine ciR (λh=>?_) (λh=>?_)
 .have D:i<es.length:=by have:=oT h;omega
  clear h;have O:=getD_mem' 0 es D;refine ixR i J.rd D ?_;refine ldR (J.rd.cell (Qvt D)) ?_;refine ldR (G.at (i:=0) rfl) ?_;refine clR (Qtd hn U) ?_;rintro u w3 ⟨rfl,rfl⟩;have hp:=Jxs hn;have a1:0<2^n:=Nat.two_pow_pos n;refine cfR ?_ ?_
  .rw[Jlw (J.lt32 O) om,Xwh (h.lt _ O) hn];rfl
  refine ρ ?_;exact Qw (i+1) sO ⟨om,j⟩ om
 refine ρ ?_;exact Jj ⟨rfl,o.trans j⟩
def Xp(a:Nat->Nat): List Value:=(List.range 32).map λv=>.int .u32 (a v:Int)
theorem Yl(a:Nat->Nat): (Xp a).length=32:=by simp[Xp]
theorem Ic{a:Nat->Nat}(h:v<32): (Xp a)[v]?=some (.int .u32 (a v:Int)):=by simp[Xp,h]
theorem Jdv(a:Nat->Nat)(h:v<32): (Xp a).set v (.int .u32 (x:Int))=Xp (upd a v x):=by
 apply List.ext_getElem?
 grind [Yl,Ic,Ju,Jm,Xp]
theorem Jdw(a:Nat->Nat): ∀ u∈Xp a,u.oneCell'=true:=λu i=>by obtain⟨e,_,rfl⟩:=List.mem_map.1 i;rfl
theorem Jkh: Qa prog 205=some (.agg (Xp λ_=>0).toArray):=kr
theorem Jmz: Qa prog 204=some (.agg (List.replicate 32 (Value.int .i64 0)).toArray):=kr
def AdjP(n:Nat)(es:List Nat)(a:Nat->Nat): Prop:=∀ v,v<32->a v<4294967296/\∀ x,(a v).testBit x=(decide (v<n) && (x != v) && es.any λe=>e.testBit v && e.testBit x)
theorem Jyg: (2^v).testBit x=decide (v=x):=Nat.testBit_two_pow
theorem Qtf(h:GrV w A c n es): Ret prog 194 [.agg (grC A c n es).toArray] w λu w'=>Ext w w'/\∃ a,u=.agg (Xp a).toArray/\AdjP n es a:=by
 have hn:=h.n32;have hf:=h.few;refine enE func194 ntmps194 ?_;refine bxR (cs:=grC A c n es) ?_;intro w1 b1 a2 aq ae;refine Jv (cs:=Xp λ_=>0) Jkh ?_;intro w2 b2 Z ap am;refine Jv (cs:=Xp λ_=>0) Jkh ?_;intro w3 b3 a7 aj ak;have an:=(a2.trans Z).trans a7;refine ldR (((ae.ext Z).ext a7).at (i:=1) rfl) ?_;refine ρ ?_;refine Jo (fun (i:Nat) (a:Nat->Nat)=>[(1,.pointer (some ⟨b1,0,none⟩)),(2,.pointer (some ⟨b2,0,none⟩)),(3,.pointer (some ⟨b3,0,none⟩)),(8,.slice A es.length c),(9,.int .i64 (es.length:Int)),(10,.int .i64 (i:Int))])
  (λi a w'=>i<=es.length/\Ext w2 w'/\Blk w' b3 205 (Xp a)/\AdjP n (es.take i) a) (λi _=>es.length-i) 0 (λ_=>0) sB
  ⟨Nat.zero_le _,a7,ak,λv _=>⟨by simp only;omega,λx=>by simp⟩⟩ ?_
 rintro i a w4 ⟨hi,U,a6,ha⟩;have ad:=(ae.ext Z).ext U;have ac:=am.ext U;have h4:=h.ext ((a2.trans Z).trans U);refine ciR (λG=>?_) (λG=>?_)
 .have li:i<es.length:=by have:=oT G;omega
  clear G;have hm:=getD_mem' 0 es li;have C:=h4.lt32 hm;obtain⟨e,he⟩:∃ e,e=es.getD i 0:=⟨_,rfl⟩;refine ixR i h4.rd li ?_;refine ldR (h4.rd.cell (Qvt li)) ?_;rw[<-he]at hm C ⊢;refine ldR (ad.at (i:=0) rfl) ?_;refine ρ ?_;refine Jo (fun (v:Nat) (J:Nat->Nat)=>[(1,.pointer (some ⟨b1,0,none⟩)),(2,.pointer (some ⟨b2,0,none⟩)),(3,.pointer (some ⟨b3,0,none⟩)),(8,.slice A es.length c),(9,.int .i64 (es.length:Int)),(10,.int .i64 (i:Int)),(5,.int .u32 (e:Int)),(15,.int .i64 (n:Int)),(16,.int .i64 (v:Int))])
   (λv J w'=>v<=n/\Ext w2 w'/\Blk w' b3 205 (Xp J)/\∀ u,u<32->J u<4294967296/\∀ x,(J u).testBit x=((a u).testBit x || (decide (u<v) && e.testBit u && e.testBit x && (x != u)))) (λv _=>n-v) 0 a sB
   ⟨Nat.zero_le _,U,a6,λu hu=>⟨(ha u hu).1,λx=>by simp⟩⟩ ?_
  rintro v J w5 ⟨hv,O,a1,a3⟩;refine ciR (λG=>?_) (λG=>?_)
  .have lv:v<n:=by have:=oT G;omega
   have o:v<32:=om
   clear G;have a8:=a3 v o;have af:=Kg o;refine ρ ?_;refine Ib (s:=e) (v:=v) om ?_;refine ciR (λG=>?_) (λG=>?_)
   .rw[Gh C]at G;have a9:Ext w5 w5.drew:=(Ext.refl w5).drew;have D:=a1.ext a9;refine ρ ?_;refine drN (λ_=>False) 10 (scq 10 [109]) kr ?_;refine ρn ?_;refine nixb v o ?_;refine ρn ?_;refine nld (Jr (D.atc (Ic o)) (λe=>e)) ?_;refine ρn ?_;refine Jgg o ?_;refine ρn ?_;refine nixb v o ?_;refine ρn ?_;refine Xh ?_;refine sto (p:=⟨b3,v,none⟩) (D.cell v |>.trans (Ic o)) (D.frozen _) ?_;have a4:=Qvm (t:=2^v) C;have ag:bits .or .u32 (J v:Int) (bits .andNot .u32 (e:Int) ((2^v:Nat):Int))=((J v ||| Kx e (2^v):Nat):Int):=by
     rw[Jlw C af,Jqw a8.1 a4]
    rw[ag];have a5:=D.set v (.int .u32 ((J v ||| Kx e (2^v):Nat):Int));rw[Jdv J o]at a5;have aa:w2.heap.size<=b3:=aj;refine ω5 ?_;refine Gz ?_;refine ρn ?_;refine ρ ?_;refine Jl (v+1) (upd J v (J v ||| Kx e (2^v))) sO ⟨om,(O.trans a9).setCell aa _,a5,λu hu=>?_⟩ om;by_cases e1:u=v
    .subst e1;rw[Ju];refine⟨Jyx a8.1 a4,λx=>?_⟩;rw[Nat.testBit_or,Jmn C af,Jyg,a8.2,G,decide_eq_true (Nat.lt_succ_self u),decide_eq_false (Nat.lt_irrefl u)];grind
    repeat grind [Jm]
   rw[Gh C]at G;refine ρ ?_;refine Jl (v+1) J sO ⟨om,O,a1,λu hu=>⟨(a3 u hu).1,λx=>?_⟩⟩ om;grind
  have ah:v=n:=by have:=oF G;omega
  subst ah;clear G;refine ρ ?_;refine Jl (i+1) J sO ⟨om,O,a1,λu hu=>⟨(a3 u hu).1,λx=>?_⟩⟩ om;rw[(a3 u hu).2,(ha u hu).2,Qt 0 li,<-he,List.any_append];grind
 have ai:i=es.length:=by have:=oF G;omega
 subst ai;clear G;rw[List.take_length]at ha;refine ρ ?_;refine lda (cs:=Xp a) (λj u hu=>a6.at hu) (Yl a).symm ?_;refine ρ ?_;refine sta (cs':=Xp a) ac ?_ (Jdw a) (by rw[Yl,Yl]) (Yl a).symm;intro w5 ab ao O;refine ρ ?_;exact Qzb ab (Yl a).symm ⟨O w ((a2.trans Z).trans U) (by have:=a2.size;omega),a,rfl,ha⟩
open Go.RowKit Pl Go.Wk _root_.Go.Proofs.Tryz
variable {es:List Nat}{c f n v:Nat}{A:Option Addr}{w:World}
theorem Qtc(h:GrV w A c n es)(hv:v<n): Ret prog 168 [.agg (grC A c n es).toArray,.int .i64 (v:Int)] w λu w'=>Ext w w'/\∃ a,u=.int .u32 (a v:Int)/\AdjP n es a:=by
 have hn:=h.n32;refine enE func168 ntmps168 ?_;refine bxR (cs:=grC A c n es) ?_;intro w1 b C hb O;refine Js (cs:=grC A c n es) (λj u J=>O.at J) ?_;refine clR (Qxl (h.ext C)) ?_;rintro u w2 ⟨rfl,o⟩;have D:=O.ext o;refine ldR (D.at (i:=0) rfl) ?_;refine cfR ?_ ?_
 .grind
 refine Js (cs:=grC A c n es) (λj u J=>D.at J) ?_;refine clR (Qtf (h.ext (C.trans o))) ?_;rintro u Z ⟨G,a,rfl,U⟩;refine ρ ?_;refine idx v (show v<32 by omega) (Ic (show v<32 by omega)) ?_;refine ρ ?_;exact Jj ⟨(C.trans o).trans G,a,rfl,U⟩
theorem Xjj(h:GrV w A c n es): Ret prog 122 [.agg (grC A c n es).toArray] w λu w'=>Ext w w'/\∃ a,u=.agg (Xp a).toArray/\AdjP n es a:=by
 have hn:=h.n32;refine enE func122 ntmps122 ?_;refine bxR (cs:=grC A c n es) ?_;intro w1 b1 a3 af a8;refine Jv (cs:=Xp λ_=>0) Jkh ?_;intro w2 b2 Z ae ac;refine Jv (cs:=Xp λ_=>0) Jkh ?_;intro w3 b3 a1 aa ab;refine ldR (((a8.ext Z).ext a1).at (i:=0) rfl) ?_;refine ρ ?_;refine Jo (fun (v:Nat) (a:Nat->Nat)=>[(1,.pointer (some ⟨b1,0,none⟩)),(2,.pointer (some ⟨b2,0,none⟩)),(3,.pointer (some ⟨b3,0,none⟩)),(6,.int .i64 (n:Int)),(7,.int .i64 (v:Int))])
  (λv a w'=>v<=n/\Ext w2 w'/\Blk w' b3 205 (Xp a)/\∀ u,u<32->a u<4294967296/\∀ x,(a u).testBit x=(decide (u<v) && (x != u) && es.any λe=>e.testBit u && e.testBit x)) (λv _=>n-v) 0 (λ_=>0) sB
  ⟨Nat.zero_le _,a1,ab,λu hu=>⟨by simp only;omega,λx=>by simp⟩⟩ ?_
 rintro v a w4 ⟨hv,G,U,ha⟩;have a7:=(a8.ext Z).ext G;have a6:=ac.ext G;have J:=(a3.trans Z).trans G;refine ciR (λhc=>?_) (λhc=>?_)
 .have lv:v<n:=by have:=oT hc;omega
  have o:v<32:=om
  clear hc;refine Js (cs:=grC A c n es) (λj u hu=>a7.at hu) ?_;refine clR (Qtc (h.ext J) lv) ?_;rintro u w5 ⟨D,a2,rfl,a4⟩;have C:=U.ext D;refine ρ ?_;refine ixb v o ?_;refine Xv (p:=⟨b3,v,none⟩) (C.cell v |>.trans (Ic o)) (C.frozen _) ?_;have O:=C.set v (.int .u32 ((a2 v:Nat):Int));rw[Jdv a o]at O;refine ρ ?_;refine Jl (v+1) (upd a v (a2 v)) sO ⟨om,(G.trans D).setCell aa _,O,λu hu=>?_⟩ om;by_cases e:u=v
  .subst e;rw[Ju,decide_eq_true (Nat.lt_succ_self u)];refine⟨(a4 u hu).1,λx=>?_⟩;rw[(a4 u hu).2,decide_eq_true lv]
  repeat grind [Jm]
 have a9:v=n:=by have:=oF hc;omega
 subst a9;clear hc;refine ρ ?_;refine lda (cs:=Xp a) (λj u hu=>U.at hu) (Yl a).symm ?_;refine ρ ?_;refine sta (cs':=Xp a) a6 ?_ (Jdw a) (by rw[Yl,Yl]) (Yl a).symm;intro w5 a5 ad D;refine ρ ?_;exact Qzb a5 (Yl a).symm ⟨D w J (by have:=a3.size;omega),a,rfl,ha⟩
theorem Xjg(h:GrV w A c n es)(hf:f<=n): Ret prog 121 [.agg (grC A c n es).toArray,.int .i64 (f:Int)] w λu w'=>u=.int .i64 0/\Ext w w':=by
 have hn:=h.n32;refine enE func121 ntmps121 ?_;refine bxR (cs:=grC A c n es) ?_;intro U b C Z G;refine Js (cs:=grC A c n es) (λj u J=>G.at J) ?_;refine clR (Qxl (h.ext C)) ?_;rintro u O ⟨rfl,o⟩;have D:=G.ext o;refine ldR (D.at (i:=0) rfl) ?_;refine cfR ?_ ?_
 .grind
 refine ρ ?_;exact Jj ⟨rfl,C.trans o⟩
end Go.Proofs.YtgobkbeokaaplaaGreatDoor
namespace Go.Proofs.YtgobkbeokaaplaaGreatDoor
open Pl Go.Wk
variable {es l ord perm:List Nat}{e i j k n u v x:Nat}{f g:Nat->List Value}
def nb0(n:Nat)(es:List Nat)(u x:Nat): Bool:=decide (u<n) && (x != u) && es.any λe=>e.testBit u && e.testBit x
theorem Xkm(he:e<2^n)(h:e.testBit u=true): u<n:=Jkf he h
theorem Jzf(he:∀ e∈es,e<2^n)(h:nb0 n es u x=true): u<n/\x<n/\x≠u:=by
 simp only[nb0,Bool.and_eq_true,decide_eq_true_eq,bne_iff_ne,List.any_eq_true]at h;obtain⟨⟨C,o⟩,e,i,_,j⟩:=h;exact⟨C,Xkm (he e i) j,o⟩
theorem Qjl(he:∀ e∈es,e<2^n): NbInv [] (nb0 n es):=by
 refine⟨λu x _ _=>?_,λu x _ h=>⟨by simp,(Jzf he h).2.2⟩⟩;rw[Bool.eq_iff_iff];have key:∀ u x,nb0 n es u x=true->nb0 n es x u=true:=λu x h=>by
  have i:=Jzf he h;simp only[nb0,Bool.and_eq_true,decide_eq_true_eq,bne_iff_ne,List.any_eq_true]at h ⊢;grind
 grind
theorem Qjg: ∀(k:Nat) {l:List Nat},l.Nodup->(∀ u∈l,u<k)->l.length<=k
 | 0,[],_,_=>nR _
 | 0,u::l,_,h=>absurd (h u (mC ..)) om
 | k+1,l,hn,h=>by
  have h1:=Qjg k (l:=l.filter λu=>u != k) (hn.sublist List.filter_sublist) (λu hu=>by grind);have h2:l.length<=(l.filter λu=>u != k).length+1:=by
   clear h h1;induction l with
   | nil=>simp
   | cons x l ih=>
    grind [List.nodup_cons.1,List.filter_eq_self.2,List.filter_cons_of_neg,List.length_cons,List.filter_cons_of_pos]
  omega
theorem Qnd(hn:l.Nodup)(hlt:∀ u∈l,u<k)(hlen:l.length=k)(hu:u<k): u∈l:=by
 refine Classical.byContradiction λh=>?_;have:=Qjg k (l:=u::l) (List.nodup_cons.2 ⟨h,hn⟩) (λx i=>by grind);grind
def Xd(perm:List Nat)(f:Nat): List Nat:=perm++(List.range f).reverse
structure PermOk(n f:Nat)(perm:List Nat): Prop where
 fn:f<=n
 len:perm.length=n-f
 rng:∀ v∈perm,f<=v/\v<n
 nd:perm.Nodup
theorem PermOk.olen{f:Nat}(h:PermOk n f perm): (Xd perm f).length=n:=by
 have:=h.len;have:=h.fn;simp[Xd];omega
theorem PermOk.ond{f:Nat}(h:PermOk n f perm): (Xd perm f).Nodup:=by
 refine List.nodup_append.2 ⟨h.nd,List.pairwise_reverse.2 (List.nodup_range.imp λh=>h.symm),λu i v j e=>?_⟩;have o:=(h.rng u i).1;grind
theorem PermOk.olt{f:Nat}(h:PermOk n f perm)(hu:u∈Xd perm f): u<n:=by
 rcases List.mem_append.1 hu with h1|h1
 .exact(h.rng u h1).2
 have:=List.mem_range.1 (List.mem_reverse.1 h1);have:=h.fn;omega
theorem PermOk.omem{f:Nat}(h:PermOk n f perm): u∈Xd perm f↔u<n :=
 ⟨h.olt,λi=>Qnd h.ond (λ_=>h.olt) h.olen i⟩
theorem Jfv(hn:ord.Nodup)(hi:i<ord.length): pre ord (ord.getD i 0)=ord.take i:=by grind [Qv,List.drop_eq_getElem_cons,List.take_append_drop,List.nodup_append,List.mem_cons_self,Jft]
def plc(ord:List Nat)(u:Nat): Nat:=(pre ord u).length
theorem Jjx(hn:ord.Nodup)(hi:i<ord.length): plc ord (ord.getD i 0)=i:=by grind [plc,Jfv,List.length_take]
theorem Gl(hn:ord.Nodup)(hu:u∈ord): plc ord u<ord.length/\ord.getD (plc ord u) 0=u:=by
 obtain⟨i,hi,e⟩:=List.getElem_of_mem hu;have j:=Jjx hn hi;grind
theorem Jgx(hn:ord.Nodup)(hv:v∈ord)(hu:u∈ord): Jvq ord v u↔plc ord v<=plc ord u:=by
 obtain⟨J,G⟩:=Gl hn hv;obtain⟨D,C⟩:=Gl hn hu;have e:pre ord v=ord.take (plc ord v):=by grind [Jfv]
 unfold Jvq;rw[e];constructor
 .grind [Nat.lt_or_ge,plc,List.mem_iff_getElem.2,List.length_take,Qv]
 intro h i;obtain⟨j,o,e⟩:=List.getElem_of_mem i;rw[List.length_take]at o;rw[List.getElem_take]at e;have:=Jjx hn (show j<ord.length by omega);grind
def Qo(n:Nat)(f:Nat->List Value): List Value:=(List.range n).flatMap f
theorem Jqq(n:Nat)(f:Nat->List Value): Qo (n+1) f=Qo n f++f n:=by simp[Qo,List.range_succ,List.flatMap_append]
theorem Jwz{sz:Nat}(h:∀ i,i<n->(f i).length=sz): (Qo n f).length=n*sz:=by
 induction n with
 | zero=>simp[Qo]
 | succ n ih=>rw[Jqq,List.length_append,ih (λi hi=>h i om),h n om,Nat.succ_mul]
theorem Jbz(h:∀ i,i<n->f i=g i): Qo n f=Qo n g:=by
 induction n with
 | zero=>rfl
 | succ n ih=>rw[Jqq,Jqq,ih (λi hi=>h i om),h n om]
theorem Jqr{sz:Nat}(h:∀ i,i<n->(f i).length=sz)(hi:i<n)(hj:j<sz): (Qo n f)[i*sz+j]?=(f i)[j]?:=by
 induction n with
 | zero=>omega
 | succ n ih=>
  have o:=Jwz (n:=n) (λi hi=>h i om);rw[Jqq];grind
theorem Qtr{sz:Nat}(h:∀ i,i<n->(f i).length=sz)(hi:i<n){cs:List Value}(hc:cs.length=sz): (Qo n f).take (i*sz)++cs++(Qo n f).drop (i*sz+sz)=Qo n (upd f i cs):=by
 induction n with
 | zero=>omega
 | succ n ih=>
  have o:=Jwz (n:=n) (λi hi=>h i om);have j:=h n om;rw[Jqq,Jqq];by_cases e:i=n
  .grind [List.take_of_length_le,List.drop_of_length_le,List.length_append,Ju,Jbz,Jm]
  have u:i*sz+sz<=n*sz:=by
   have:(i+1)*sz<=n*sz:=nO _ om;grind
  grind [List.append_assoc,Jm]
open Go.RowKit Pl Go.Wk _root_.Go.Proofs.Tryz
attribute [local irreducible] WC WL QX WD WDB WP WN WG
variable {es perm:List Nat}{v x:Nat}
def Yx(o:Nat->Nat): List Value:=(List.range 32).map λi=>.int .i64 (o i:Int)
theorem Qxd(o:Nat->Nat): (Yx o).length=32:=by simp[Yx]
theorem Ir{o:Nat->Nat}(h:v<32): (Yx o)[v]?=some (.int .i64 (o v:Int)):=by simp[Yx,h]
theorem Qxc(o:Nat->Nat)(h:v<32): (Yx o).set v (.int .i64 (x:Int))=Yx (upd o v x):=by
 apply List.ext_getElem?
 grind [Qxd,Ir,Ju,Jm,Yx]
theorem Qsg(h:perm.length<=32): Je (nz perm)++(List.replicate 32 (Value.int .i64 0)).drop perm.length=Yx λi=>perm.getD i 0:=by
 have j:(Je (nz perm)).length=perm.length:=by simp[Je,nz]
 apply List.ext_getElem?
 grind [List.getElem?_append_left,Xg,Ir,List.getElem?_append_right,List.getD,List.getElem?_eq_none,Nat.le_of_not_lt,Qxd]
def Qr(kf:Nat->Nat)(pf:Nat->Int)(v:Nat): List Value:=[.int .i64 (v:Int),.int .u32 (kf v:Int),.int .i64 (pf v)]
def Jvr(n:Nat)(es ord:List Nat)(kf:Nat->Nat)(pf:Nat->Int): Prop:=∀ v,v<n->kf v<4294967296/\(∀ x,(kf v).testBit x=Vb (nb0 n es) ord v x) /\
 ((pf v = -1/\∀ x,Vb (nb0 n es) ord v x=false)∨∃ p:Nat,pf v=p/\Vb (nb0 n es) ord v p=true/\∀ x,Vb (nb0 n es) ord v x=true->plc ord p<=plc ord x)
theorem EBg: ElT prog 51 208 3 24 (.agg #[.int .i64 0,.int .u32 0,.int .i64 0]):=⟨underlying51,info_parts kr,rfl,by decide⟩
theorem Jkk: Qa prog 208=some (.agg #[.int .i64 0,.int .u32 0,.int .i64 0]):=kr
theorem Xkf(v k:Int)(w:World): (Instr.build 208 #[(0,.int .i64 v),(1,.int .u32 k),(2,.int .i64 (-1))]).run prog w=.ok (.agg #[.int .i64 v,.int .u32 k,.int .i64 (-1)]) w:=kr
theorem Jxz{a b c:Int}: ∀ u∈[Value.int .i64 a,.int .u32 b,.int .i64 c],u.oneCell'=true:=λu i=>by
 simp only[List.mem_cons,List.not_mem_nil,or_false]at i;rcases i with rfl|rfl|rfl<;>rfl
theorem Qpd{zs:List Value}(h:0<zs.length)(n:Nat): (madeCells zs.toArray (n*zs.length)).toList=Qo n λ_=>zs:=by
 apply List.ext_getElem?
 intro k;by_cases hk:k<n*zs.length
 .have o:k / zs.length<n:=Nat.div_lt_of_lt_mul (by grind);have i:=Nat.mod_lt k h;have j:=Jqr (n:=n) (sz:=zs.length) (f:=λ_=>zs) (λ_ _=>rfl) o i;rw[Nat.div_add_mod' k zs.length]at j;rw[j];simp only[madeCells,Array.getElem?_toList,Array.getElem?_map,Array.getElem?_range,hk,if_true,Option.map_some];simp[i]
 have u:=Jwz (n:=n) (sz:=zs.length) (f:=λ_=>zs) (λ_ _=>rfl);rw[List.getElem?_eq_none (by simp[madeCells];omega),List.getElem?_eq_none om]
theorem made3(n:Nat): (madeCells (Value.agg #[.int .i64 0,.int .u32 0,.int .i64 0]).cells (n*3)).toList=Qo n λ_=>[.int .i64 0,.int .u32 0,.int .i64 0]:=Qpd (zs:=[.int .i64 0,.int .u32 0,.int .i64 0]) (by simp) n
def Up(ord:List Nat)(kf:Nat->Nat)(pf:Nat->Int)(j v:Nat): List Value:=if plc ord v<j then Qr kf pf v else[.int .i64 0,.int .u32 0,.int .i64 0]
theorem Xkt(ord:List Nat)(kf:Nat->Nat)(pf:Nat->Int)(j v:Nat): (Up ord kf pf j v).length=3:=by unfold Up;split<;>rfl
def BagAt(n:Nat)(es ord:List Nat)(v k:Nat)(p:Int): Prop:=k<4294967296/\(∀ x,k.testBit x=Vb (nb0 n es) ord v x) /\
 ((p = -1/\∀ x,Vb (nb0 n es) ord v x=false)∨∃ q:Nat,p=q/\Vb (nb0 n es) ord v q=true/\∀ x,Vb (nb0 n es) ord v x=true->plc ord q<=plc ord x)
theorem Qzm(x y:Nat): decide (x=y) = !(y != x):=by grind
theorem Xjh{w:World}{A PA:Option Addr}{c pc n f:Nat}(h:GrV w A c n es)(hp:PermOk n f perm)(hP:Rd w 1 PA perm.length (Je (nz perm))):
  Ret prog 72 [.agg (grC A c n es).toArray,.int .i64 (f:Int),.slice PA perm.length pc] w λu w'=>Ext w w'/\∃ B kf pf,u=.tuple #[.slice B n n,.int .i64 0]/\w'.ownsRow w.heap.size 208 3 (.slice B n n) n (Qo n (Qr kf pf))/\Jvr n es (Xd perm f) kf pf:=by
 have hn:=h.n32;have et:=hp.fn;have f5:=hp.len;refine enE func72 ntmps72 ?_;refine bxR (cs:=grC A c n es) ?_;intro w1 b3 dj f8 e4;refine Js (cs:=grC A c n es) (λj u hu=>e4.at hu) ?_;refine clR (Xjg (h.ext dj) et) ?_;rintro u w2 ⟨rfl,df⟩;have be:=dj.trans df;refine ρ ?_;refine Jo (fun (i:Nat) (s:Nat)=>[(1,.int .i64 (f:Int)),(2,.slice PA perm.length pc),(3,.pointer (some ⟨b3,0,none⟩)),(9,.int .u32 (s:Int)),(28,.slice PA perm.length pc),(29,.int .i64 (perm.length:Int)),(30,.int .i64 (i:Int))])
  (λi s w'=>i<=perm.length/\w'=w2/\s<4294967296/\∀ x,s.testBit x=true->x∈perm.take i) (λi _=>perm.length-i) 0 0 sB
  ⟨Nat.zero_le _,rfl,om,λx J=>by simp at J⟩ ?_
 rintro i s w' ⟨hi,rfl,hs,d2⟩;have ae:=e4.ext df;refine ciR (λU=>?_) (λU=>?_)
 .have li:i<perm.length:=by have:=oT U;omega
  clear U;have e2:=hP.ext be;have hv:=hp.rng _ (getD_mem' 0 perm li);obtain⟨v,ev⟩:∃ v,v=perm.getD i 0:=⟨_,rfl⟩;refine ixR i e2 li ?_;refine ldR (e2.cell (Xg li)) ?_;rw[<-ev]at hv ⊢;refine kfR 37 ?_ ?_
  .exact dF om
  refine ldR (ae.at (i:=0) rfl) ?_;refine kfR 43 ?_ ?_
  .exact dF om
  refine ρ ?_;refine Ib (s:=s) (v:=v) om ?_;have dn:perm.take (i+1)=perm.take i++[v]:=by rw[Qt 0 li,ev]
  have em:v ∉ perm.take i:=λhm=>by
   have G:(perm.take (i+1)).Nodup:=hp.nd.sublist (List.take_sublist _ _);rw[dn,List.nodup_append]at G;exact G.2.2 _ hm _ (List.mem_singleton.2 rfl) rfl
  refine cfR ?_ ?_
  .rw[Gh hs];cases hb:s.testBit v with
   | false=>rfl
   | true=>exact absurd (d2 v hb) em
  have ce:=Kg (show v<32 by omega);refine ρ ?_;refine sl32 (v:=v) om ?_;refine ρ ?_;rw[Jqw hs ce];refine ρ ?_;refine Jl (i+1) (s ||| 2^v) sO ⟨om,rfl,Jyx hs ce,λx J=>?_⟩ om;rw[Nat.testBit_or,Jyg,Bool.or_eq_true,decide_eq_true_eq]at J;rw[dn,List.mem_append,List.mem_singleton];rcases J with J|J
  .exact .inl (d2 x J)
  exact .inr J.symm
 clear U hs d2 hi;refine ldR (ae.at (i:=0) rfl) ?_;refine cfR ?_ ?_
 .exact Jcf om
 refine Jv (cs:=List.replicate 32 (Value.int .i64 0)) Jmz ?_;intro w3 a7 c0 cw cd;refine Jv (cs:=List.replicate 32 (Value.int .i64 0)) Jmz ?_;intro w4 Z cg cv e5;have cc:=cd.ext cg;have dd:=(be.trans c0).trans cg;refine ρ ?_;refine sla ?_;refine ρ ?_;refine cpb (dl:=32) (dc:=32) cc (hP.ext dd) om (by simp) (λu hu=>?_) ?_
 .obtain⟨z,_,rfl⟩:=List.mem_map.1 hu;rfl
 intro w5 cb d6;rw[Qsg om]at cb;have d5:Z≠a7:=λe=>by have:=cd.lt;omega
 have d8:Blk w5 Z 204 (Yx λ_=>0):=by
  have G:=e5.grown d6 (λe=>by injection e with e;exact d5 e);exact G
 have e3:Blk w5 b3 151 (grC A c n es):=by
  have G:=(ae.ext (c0.trans cg)).grown d6 (λe=>by injection e with e;have:=ae.lt;omega);exact G
 have c6:w'.heap.size<=a7:=cw;have ed:Ext w' w5:=Jbv (c0.trans cg) d6 c6;obtain⟨ord,aj⟩:∃ ord,ord=Xd perm f:=⟨_,rfl⟩;have c2:ord.length=n:=by rw[aj];exact hp.olen
 have a2:ord.Nodup:=by rw[aj];exact hp.ond
 have b6:∀ {u},u∈ord↔u<n:=fun {u}=>by rw[aj];exact hp.omem
 have cp:∀ i,i<n->ord.getD i 0<n:=λi hi=>b6.1 (getD_mem' 0 ord (c2.symm ▸ hi));clear cd cc;refine ρ ?_;refine Jo (fun (k:Nat) (o:Nat->Nat)=>[(1,.int .i64 (f:Int)),(2,.slice PA perm.length pc),(3,.pointer (some ⟨b3,0,none⟩)),(12,.pointer (some ⟨a7,0,none⟩)),(13,.pointer (some ⟨Z,0,none⟩)),(65,.int .i64 (f:Int)),(66,.int .i64 (k:Int))])
  (λk o w6=>k<=f/\Ext w' w6/\Blk w6 b3 151 (grC A c n es)/\Blk w6 a7 204 (Yx o)/\Blk w6 Z 204 (Yx λ_=>0)/\∀ j,j<perm.length+k->o j=ord.getD j 0) (λk _=>f-k) 0 (λi=>perm.getD i 0) sB
  ⟨Nat.zero_le _,ed,e3,cb,d8,λj hj=>?_⟩ ?_
 .rw[aj];simp[Xd,List.getD,List.getElem?_append_left (show j<perm.length by omega)]
 rintro k o w6 ⟨hk,cz,bj,ag,bd,ho⟩;refine ciR (λU=>?_) (λU=>?_)
 .have lk:k<f:=by have:=oT U;omega
  clear U;have d3:perm.length+k<32:=om
  refine ρ ?_;refine ixb (perm.length+k) d3 ?_;refine ρ ?_;have ev:(f:Int)-1-(k:Int)=((f-1-k:Nat):Int):=om
  rw[ev];refine sto (p:=⟨a7,perm.length+k,none⟩) (ag.cell _ |>.trans (Ir d3)) (ag.frozen _) ?_;have O:=ag.set (perm.length+k) (.int .i64 ((f-1-k:Nat):Int));rw[Qxc o d3]at O;refine ρ ?_;refine Jl (k+1) (upd o (perm.length+k) (f-1-k)) sO ⟨om,cz.setCell c6 _,bj.far (by simp only;have:=ae.lt;omega) _,O,bd.far (λe=>d5 e) _,λj hj=>?_⟩ om;by_cases e:j=perm.length+k
  .subst e;rw[Ju,aj];simp only[Xd,List.getD];rw[List.getElem?_append_right om,Nat.add_sub_cancel_left,List.getElem?_reverse (by simp;omega),List.length_range,List.getElem?_range om];rfl
  rw[Jm _ _ e];exact ho j om
 have eo:k=f:=by have:=oF U;omega
 subst eo;clear U;have ej:perm.length+k=n:=om
 rw[ej]at ho;refine ldR (bj.at (i:=0) rfl) ?_;refine ρ ?_;refine Jo (fun (i:Nat) (q:Nat->Nat)=>[(2,.slice PA perm.length pc),(3,.pointer (some ⟨b3,0,none⟩)),(12,.pointer (some ⟨a7,0,none⟩)),(13,.pointer (some ⟨Z,0,none⟩)),(80,.int .i64 (n:Int)),(81,.int .i64 (i:Int))])
  (λi q w7=>i<=n/\Ext w' w7/\Blk w7 b3 151 (grC A c n es)/\Blk w7 a7 204 (Yx o)/\Blk w7 Z 204 (Yx q)/\∀ u,u<n->plc ord u<i->q u=plc ord u) (λi _=>n-i) 0 (λ_=>0) sB
  ⟨Nat.zero_le _,cz,bj,ag,bd,λu _ hu=>om⟩ ?_
 clear cz bj ag bd;rintro i q w7 ⟨hi,bu,b7,O,a8,hq⟩;refine ciR (λU=>?_) (λU=>?_)
 .have li:i<n:=by have:=oT U;omega
  clear U;have f6:=cp i li;have ek:=ho i li;refine ρ ?_;refine ixb i (show i<32 by omega) ?_;refine ldR (O.atc (Ir (show i<32 by omega))) ?_;rw[ek];refine ρ ?_;refine ixb (ord.getD i 0) (show ord.getD i 0<32 by omega) ?_;refine Xv (p:=⟨Z,ord.getD i 0,none⟩) (a8.cell _ |>.trans (Ir (show ord.getD i 0<32 by omega))) (a8.frozen _) ?_;have ca:=a8.set (ord.getD i 0) (.int .i64 (i:Int));rw[Qxc q (show ord.getD i 0<32 by omega)]at ca;have c5:w'.heap.size<=Z:=nL c0.size cv;refine ρ ?_;refine Jl (i+1) (upd q (ord.getD i 0) i) sO ⟨om,bu.setCell c5 _,b7.far (by simp only;have:=ae.lt;omega) _,O.far (λe=>d5 e.symm) _,ca,λu hu en=>?_⟩ om;by_cases e:u=ord.getD i 0
  .rw[e,Ju,Jjx a2 (c2.symm ▸ li)]
  rw[Jm _ _ e];refine hq u hu ?_;have G:=Gl a2 (b6.2 hu);rcases Nat.lt_or_ge (plc ord u) i with h2|h2
  .exact h2
  have:plc ord u=i:=om
  rw[this]at G;exact absurd G.2.symm e
 have er:i=n:=by have:=oF U;omega
 subst er;clear U;have dk:∀ u,u<i->q u=plc ord u:=λu hu=>hq u hu (by have:=(Gl a2 (b6.2 hu)).1;omega);have bz:=be.trans bu;refine Js (cs:=grC A c i es) (λj u hu=>b7.at hu) ?_;refine clR (Xjj (h.ext bz)) ?_;rintro u w8 ⟨de,a0,rfl,e1⟩;refine Jv (cs:=Xp λ_=>0) Jkh ?_;intro w9 a3 ec cr b8;refine ρ ?_;refine sta (cs':=Xp a0) b8 ?_ (Jdw a0) (by rw[Yl,Yl]) (Yl a0).symm;intro bt b8 ex di;have cy:Ext w8 bt:=di w8 ec cr;have ad:=de.trans cy;have bc:=b7.ext ad;refine ldR (bc.at (i:=0) rfl) ?_;refine ρ ?_;refine mkn EBg i om (by unfold maxLen;omega) ?_;intro f0 B bf ar _;rw[made3]at ar;have ac:=ad.trans bf;have bb:=bc.ext bf;have bq:=O.ext ac;have bo:=a8.ext ac;have bn:=b8.ext bf;have eb:=bz.trans ac;refine ldR (bb.at (i:=0) rfl) ?_;have ea:w'.heap.size<=a7:=cw;have f3:Z<w7.heap.size:=a8.lt;have f4:a7<w7.heap.size:=O.lt;have l3:b3<w7.heap.size:=b7.lt
 have f2:w7.heap.size<=a3:=nL de.size cr;have db:a3<bt.heap.size:=b8.lt;have c5:w'.heap.size<=Z:=nL c0.size cv;have e6:Qo i (λ_=>[Value.int .i64 0,.int .u32 0,.int .i64 0])=Qo i (Up ord (λ_=>0) (λ_=>0) 0):=Jbz λv _=>by simp[Up]
 have dw:∀ e∈es,e<2^i:=h.lt;rw[e6]at ar;refine ρ ?_;refine Jxd (fun (j:Nat) (a:Nat->Nat) (kf:Nat->Nat) (pf:Nat->Int)=>[(3,.pointer (some ⟨b3,0,none⟩)),(12,.pointer (some ⟨a7,0,none⟩)),(13,.pointer (some ⟨Z,0,none⟩)),(16,.pointer (some ⟨a3,0,none⟩)),(17,.slice B i i),(96,.int .i64 (i:Int)),(97,.int .i64 (j:Int))])
  (λj a kf pf a9=>j<=i/\Ext w' a9/\w7.heap.size<=a9.heap.size/\bt.heap.size<=a9.heap.size/\Blk a9 b3 151 (grC A c i es)/\Blk a9 a7 204 (Yx o)/\Blk a9 Z 204 (Yx q)/\Blk a9 a3 205 (Xp a)/\a9.ownsRow bt.heap.size 208 3 (.slice B i i) i (Qo i (Up ord kf pf j)) /\
   (∀ u,u<32->a u<4294967296)/\(∀ u,u<i->∀ x,(a u).testBit x=Yy (nb0 i es) (ord.take j) u x)/\∀ v,v<i->plc ord v<j->BagAt i es ord v (kf v) (pf v)) (λj _ _ _=>i-j) 0 a0 (λ_=>0) (λ_=>0) sB
  ⟨Nat.zero_le _,bu.trans ac,ac.size,bf.size,bb,bq,bo,bn,ar,λu hu=>(e1 u hu).1,λu hu x=>?_,λv _ hv=>om⟩ ?_
 .rw[(e1 u om).2];rfl
 clear bb bq bo bn ar bc b7 O a8 e6 b8 ae;rintro j a kf pf a9 ⟨hj,b2,ei,e9,c7,bp,ax,bm,aq,cx,bw,dx⟩;refine ciR (λU=>?_) (λU=>?_)
 .have lj:j<i:=by have:=oT U;omega
  clear U;have cm:j<32:=om
  obtain⟨v,ev⟩:∃ v,v=ord.getD j 0:=⟨_,rfl⟩;have b4:v<i:=by rw[ev];exact cp j lj
  have b5:v<32:=om
  have d0:v∈ord:=b6.2 b4;have dm:pre ord v=ord.take j:=by rw[ev];exact Jfv a2 (c2.symm ▸ lj)
  have eu:plc ord v=j:=by rw[ev];exact Jjx a2 (c2.symm ▸ lj)
  obtain⟨D,br⟩:∃ D,D=Yy (nb0 i es) (ord.take j):=⟨_,rfl⟩;have ak:∀ x,Vb (nb0 i es) ord v x=D v x:=λx=>by rw[Vb,dm,br]
  have du:NbInv (ord.take j) D:=by rw[br];exact(Qjl dw).at (a2.sublist (List.take_sublist _ _))
  have d1:v ∉ ord.take j:=by rw[<-dm];exact(Jyk d0).choose_spec.2
  have f7:∀ x,D v x=true->x≠v:=λx J=>(du.gone v x d1 J).2;have dt:∀ x,D v x=true->x<i:=λx J=>by rw[<-ak]at J;exact Jbm (λu x h=>(Jzf dw h).2.1) J
  rw[<-br]at bw;have c3:=cx v b5;refine ρ ?_;refine ixb j cm ?_;refine ldR (bp.atc (Ir cm)) ?_;rw[ho j lj,<-ev];refine ρ ?_;refine ixb v b5 ?_;refine ldR (bm.atc (Ic b5)) ?_;refine Zj (Xkf _ _ _) ?_;refine Jv Jkk ?_;intro ez ay dh dz c8;refine Xn c8 ?_;intro da c8 ew dg;have C:Ext a9 da:=dg a9 dh dz;have d7:=c7.ext C;refine ldR (d7.at (i:=0) rfl) ?_;refine ρ ?_;refine Zq (fun (u:Nat) (a':Nat->Nat) (par:Int)=>[(3,.pointer (some ⟨b3,0,none⟩)),(12,.pointer (some ⟨a7,0,none⟩)),(13,.pointer (some ⟨Z,0,none⟩)),(16,.pointer (some ⟨a3,0,none⟩)),(17,.slice B i i),(96,.int .i64 (i:Int)),(97,.int .i64 (j:Int)),(19,.int .i64 (v:Int)),(20,.pointer (some ⟨ay,0,none⟩)),(109,.int .i64 (i:Int)),(110,.int .i64 (u:Int))])
   (λu a' par a4=>u<=i/\GrN (λk=>k=a3∨k=ay) da a4/\Blk a4 a3 205 (Xp a')/\Blk a4 ay 208 [.int .i64 (v:Int),.int .u32 (a v:Int),.int .i64 par] /\
    (∀ x,x<32->a' x<4294967296)/\(∀ x,x<i->∀ y,(a' x).testBit y=if x<u then Gn v D x y else D x y) /\
    ((par = -1/\∀ x,x<u->D v x=false)∨∃ p:Nat,par=p/\p<u/\D v p=true/\∀ x,x<u->D v x=true->plc ord p<=plc ord x)) (λu _ _=>i-u) 0 a (-1) sB
   ⟨Nat.zero_le _,GrN.refl _ _,bm.ext C,c8,cx,λx J y=>by rw[if_neg om];exact bw x J y,.inl ⟨rfl,λx J=>om⟩⟩ ?_
  rintro u a' par a4 ⟨hu,a5,av,a6,ao,bi,ai⟩;refine ciR (λU=>?_) (λU=>?_)
  .have lu:u<i:=by have:=oT U;omega
   clear U;have a1:u<32:=om
   refine ldR (a6.at (i:=1) rfl) ?_;refine ρ ?_;refine Ib (s:=a v) (v:=u) om ?_;refine ciR (λU=>?_) (λU=>?_)
   .rw[Qwq c3,bw v b4]at U;have bv:D v u=false:=by simpa using U
    refine ρ ?_;refine Xq (u+1) a' par sO ⟨om,a5,av,a6,ao,λx J y=>?_,?_⟩ om
    .rw[bi x J];by_cases e:x=u
     .subst e;rw[if_neg om,if_pos om,Gn,if_neg (by rw[bv];simp)]
     by_cases G:x<u
     .rw[if_pos G,if_pos om]
     rw[if_neg G,if_neg om]
    rcases ai with⟨G,h2⟩|⟨p,G,h2,h3,h4⟩
    .refine .inl ⟨G,λx J=>?_⟩;by_cases e:x=u
     .rw[e];exact bv
     exact h2 x om
    refine .inr ⟨p,G,om,h3,λx J an=>?_⟩;by_cases e:x=u
    .rw[e,bv]at an;cases an
    exact h4 x om an
   rw[Qwq c3,bw v b4]at U;have bv:D v u=true:=by simpa using U
   have cn:Ext w' a4:=a5.old (b2.trans C) (λk hk=>by
    rcases hk with rfl|rfl
    .have:=bu.size;omega
    have:=b2.size;omega)
   have ck:Blk a4 Z 204 (Yx q):=Jb (ax.ext C) a5 (by
    rintro(h|h)
    .omega
    have:=ax.lt;omega)
   refine ρ ?_;refine Zv (fun (t:Bool)=>[(3,.pointer (some ⟨b3,0,none⟩)),(12,.pointer (some ⟨a7,0,none⟩)),(13,.pointer (some ⟨Z,0,none⟩)),(16,.pointer (some ⟨a3,0,none⟩)),(17,.slice B i i),(96,.int .i64 (i:Int)),(97,.int .i64 (j:Int)),(19,.int .i64 (v:Int)),(20,.pointer (some ⟨ay,0,none⟩)),(109,.int .i64 (i:Int)),(110,.int .i64 (u:Int)),(21,.int .i64 (u:Int)),(131,.bool t)])
    (λt bs=>Ext a4 bs/\(t=true->par = -1∨∃ p:Nat,par=p/\plc ord u<plc ord p)/\(t=false->∃ p:Nat,par=p/\plc ord p<=plc ord u)) ?_ ?_
   .have az:Ext a4 a4.drew:=(Ext.refl a4).drew;have af:=a6.ext az;have c9:=ck.ext az;refine dr (scq 13 []) kr ?_;refine Jz (af.at (i:=2) rfl) ?_;refine ρd ?_;refine dki 122 (λG=>?_) (λG=>?_)
    .have h2:par<0:=oT G;have h3:par = -1:=by
      rcases ai with⟨h4,_⟩|⟨p,h4,_⟩
      .exact h4
      omega
     refine ρd ?_;refine ρ ?_;exact Jf true sB ⟨az,λ_=>.inl h3,λe=>by cases e⟩
    have h2:¬ par<0:=oF G;obtain⟨p,h4,h5,h6,h7⟩:∃ p:Nat,par=p/\p<u/\D v p=true/\∀ x,x<u->D v x=true->plc ord p<=plc ord x:=by
     rcases ai with⟨h4,_⟩|h4
     .omega
     exact h4
    subst h4;refine ρd ?_;refine dixb u a1 ?_;refine Jz (c9.atc (Ir a1)) ?_;refine Jz (af.at (i:=2) rfl) ?_;refine ρd ?_;refine dixb p (show p<32 by omega) ?_;refine Jz (c9.atc (Ir (show p<32 by omega))) ?_;rw[dk u lu,dk p om];refine ρd ?_;refine ρ ?_;refine Jf _ sB ⟨az,λe=>.inr ⟨p,rfl,?_⟩,λe=>⟨p,rfl,?_⟩⟩
    .have:=oT e;omega
    have:=oF e;omega
   rintro t bs ⟨b1,eh,ef⟩;have ab:=a6.ext b1;refine ρ ?_;refine Zv (fun (ah:Int)=>[(3,.pointer (some ⟨b3,0,none⟩)),(12,.pointer (some ⟨a7,0,none⟩)),(13,.pointer (some ⟨Z,0,none⟩)),(16,.pointer (some ⟨a3,0,none⟩)),(17,.slice B i i),(96,.int .i64 (i:Int)),(97,.int .i64 (j:Int)),(19,.int .i64 (v:Int)),(20,.pointer (some ⟨ay,0,none⟩)),(109,.int .i64 (i:Int)),(110,.int .i64 (u:Int)),(21,.int .i64 (u:Int))])
    (λah am=>GrN (λk=>k=ay) bs am/\Blk am ay 208 [.int .i64 (v:Int),.int .u32 (a v:Int),.int .i64 ah]/\((ah = -1/\∀ x,x<u+1->D v x=false)∨∃ p:Nat,ah=p/\p<u+1/\D v p=true/\∀ x,x<u+1->D v x=true->plc ord p<=plc ord x)) ?_ ?_
   .refine ci (λht=>?_) (λht=>?_)
    .refine Xv (p:=⟨ay,2,none⟩) (ab.cell 2) (ab.frozen _) ?_;refine ρ ?_;refine Jf (u:Int) sB ⟨GrN.set _ rfl,ab.set 2 _,.inr ⟨u,rfl,Nat.lt_succ_self u,bv,λx J an=>?_⟩⟩;by_cases e:x=u
     .rw[e];exact nR _
     rcases ai with⟨_,h2⟩|⟨p,G,h2,h3,h4⟩
     .rw[h2 x om]at an;cases an
     have h5:=h4 x om an;rcases eh ht with h6|⟨p',h6,h7⟩
     .omega
     have:p=p':=om
     subst this;omega
    obtain⟨p',h6,h7⟩:=ef ht;refine ρ ?_;refine Jf par sB ⟨GrN.refl _ _,ab,.inr ?_⟩;rcases ai with⟨G,h2⟩|⟨p,G,h2,h3,h4⟩
    .omega
    have:p=p':=om
    subst this;refine⟨p,G,om,h3,λx J an=>?_⟩;by_cases e:x=u
    .rw[e];exact h7
    exact h4 x om an
   rintro ah am ⟨cq,ch,d4⟩;have bh:a3≠ay:=om
   have cj:Blk am a3 205 (Xp a'):=Jb (av.ext b1) cq bh;have az:Ext am am.drew:=(Ext.refl am).drew;have au:=cj.ext az;have af:=ch.ext az;have e0:=ao u a1;have e7:=Kg a1;have ce:=Kg b5;refine ρ ?_;refine drN (λ_=>False) 15 (scq 15 [114]) kr ?_;refine ρn ?_;refine nixb u a1 ?_;refine ρn ?_;refine nld (Jr (au.atc (Ic a1)) (λe=>e)) ?_;refine ρn ?_;refine nld (Jr (af.at (i:=1) rfl) (λe=>e)) ?_;refine ρn ?_;refine Jgg a1 ?_;refine ρn ?_;refine Jgg b5 ?_;refine ρn ?_;refine nixb u a1 ?_;refine ρn ?_;refine Xh ?_;have c1:=Jyx e0 c3;have co:=Jyx e7 ce;obtain⟨nw,d9⟩:∃ nw,nw=Kx (a' u ||| a v) (2^u ||| 2^v):=⟨_,rfl⟩;have el:nw<4294967296:=by rw[d9];exact Qvm c1
   have e8:bits .andNot .u32 (bits .or .u32 (a' u:Int) (a v:Int)) (bits .or .u32 ((2^u:Nat):Int) ((2^v:Nat):Int))=(nw:Int):=by
    rw[Jqw e0 c3,Jqw e7 ce,Jlw c1 co,d9]
   refine sto (p:=⟨a3,u,none⟩) (au.cell u |>.trans (Ic a1)) (au.frozen _) ?_;rw[e8];have bl:=au.set u (.int .u32 (nw:Int));rw[Jdv a' a1]at bl;have dv:GrN (λk=>k=a3) am.drew (am.drew.setCell ⟨a3,u,none⟩ (.int .u32 (nw:Int))):=GrN.set _ rfl;refine ω5 ?_;refine Gz ?_;refine ρn ?_;refine ρ ?_;refine Xq (u+1) (upd a' u nw) ah sO ⟨om,?_,bl,af.far (λe=>bh e.symm) _,λx J=>?_,λx J y=>?_,d4⟩ om
   .exact((a5.trans (GrN.ext b1)).trans (cq.mono λk _ hk=>.inr hk)).trans ((GrN.ext az).trans (dv.mono λk _ hk=>.inl hk))
   .by_cases e:x=u
    .rw[e,Ju];exact el
    rw[Jm _ _ e];exact ao x J
   by_cases e:x=u
   .subst e;rw[Ju,if_pos (Nat.lt_succ_self x),d9,Jmn c1 co,Nat.testBit_or,Nat.testBit_or,Jyg,Jyg,bi x J,if_neg (Nat.lt_irrefl x),bw v b4,Gn,if_pos bv];rw[Qzm x y,Qzm v y];cases D x y<;>cases D v y<;>cases (y != x)<;>cases (y != v)<;>rfl
   rw[Jm _ _ e,bi x J];by_cases G:x<u
   .rw[if_pos G,if_pos om]
   rw[if_neg G,if_neg om]
  have ee:u=i:=by have:=oF U;omega
  subst ee;clear U;have cn:Ext w' a4:=a5.old (b2.trans C) (λk hk=>by
   rcases hk with rfl|rfl
   .have:=bu.size;omega
   have:=b2.size;omega)
  have b9:∀ {g t:Nat} {cs:List Value},Blk a9 g t cs->g≠a3->Blk a4 g t cs:=λhB G=>Jb (hB.ext C) a5 (by
   rintro(h|h)
   .exact G h
   have:=hB.lt;omega)
  have ap:a4.ownsRow bt.heap.size 208 3 (.slice B u u) u (Qo u (Up ord kf pf j)):=Jt (Jk aq C) a5 (λg eg hk=>by
   obtain⟨_,_,_,_,c4⟩:=Jy aq;have h5:=c4 g eg;rcases hk with rfl|rfl<;>omega)
  refine Qq a6 ?_;refine Qp 3 v (Rd.own ap) b4 ?_;refine ρ ?_;refine Jkr (cs:=[.int .i64 (v:Int),.int .u32 (a v:Int),.int .i64 par]) ap b4 ?_ Jxz;intro bs ba bg;rw[Qtr (λv _=>Xkt ord kf pf j v) b4 rfl]at ba;have eg:Qo u (upd (Up ord kf pf j) v [.int .i64 (v:Int),.int .u32 (a v:Int),.int .i64 par])=Qo u (Up ord (upd kf v (a v)) (upd pf v par) (j+1)):=by
   refine Jbz λx J=>?_;by_cases e:x=v
   .subst e;rw[Ju,Up,if_pos om];simp only[Qr,Ju]
   rw[Jm _ _ e];have dq:plc ord x≠j:=λe'=>by
    have G:=(Gl a2 (b6.2 J)).2;rw[e',<-ev]at G;exact e G.symm
   unfold Up;by_cases G:plc ord x<j
   .rw[if_pos G,if_pos om];simp only[Qr,Jm _ _ e]
   rw[if_neg G,if_neg om]
  rw[eg]at ba;have aa:∀ {g t:Nat} {cs:List Value},Blk a4 g t cs->g<bt.heap.size->Blk bs g t cs:=λhB G=>hB.grown bg (λe=>by
   obtain⟨_,_,_,_,c4⟩:=Jy ap;have h5:=c4 _ e.symm;omega)
  have b1:Ext w' bs:=Qg cn bg (λg eg=>by
   obtain⟨_,_,_,_,c4⟩:=Jy ap;have h5:=c4 g eg;have:=bu.size;have:=ad.size;omega)
  have ey:=ad.size;refine ρ ?_;refine Kd (j+1) a' (upd kf v (a v)) (upd pf v par) sO ⟨om,b1,by have:=C.size;have:=a5.size;have:=bg.size;omega,by have:=C.size;have:=a5.size;have:=bg.size;omega,aa (b9 c7 om) om,aa (b9 bp om) om,aa (b9 ax om) om,aa av db,ba,ao,λx J y=>?_,λx J en=>?_⟩ om
  .rw[bi x J,if_pos J,Qt 0 (c2.symm ▸ lj),<-ev,Qjk,<-br];rfl
  by_cases e:x=v
  .subst e;rw[Ju,Ju];refine⟨c3,λy=>by rw[bw x b4,ak],?_⟩;rcases ai with⟨G,h2⟩|⟨p,G,h2,h3,h4⟩
   .refine .inl ⟨G,λy=>?_⟩;rw[ak];cases hb:D x y with
    | false=>rfl
    | true=>exact absurd (h2 y (dt y hb)) (by rw[hb];simp)
   exact .inr ⟨p,G,by rw[ak];exact h3,λy hy=>h4 y (dt y (by rw[<-ak];exact hy)) (by rw[<-ak];exact hy)⟩
  rw[Jm _ _ e,Jm _ _ e];refine dx x J ?_;have dq:plc ord x≠j:=λe'=>by
   have G:=(Gl a2 (b6.2 J)).2;rw[e',<-ev]at G;exact e G.symm
  omega
 have ep:j=i:=by have:=oF U;omega
 subst ep;clear U;refine ρ ?_;refine Vc ⟨be.trans b2,B,kf,pf,rfl,?_,λv hv=>?_⟩
 .have e:Qo j (Up ord kf pf j)=Qo j (Qr kf pf):=Jbz λv hv=>by
   have:=(Gl a2 (b6.2 hv)).1;rw[Up,if_pos om]
  rw[e]at aq;exact Jyw aq (by have:=bz.size;have:=ad.size;omega)
 have:=dx v hv (by have:=(Gl a2 (b6.2 hv)).1;omega);rw[<-aj];exact this
open Go.RowKit Pl Go.Wk
variable {ca cb n v:Nat}{pf:Nat->Int}
theorem Xjf{kf:Nat->Nat}(hv:v<32)(hk:kf v<4294967296)(w:World): Ret Tryz.prog 124 [.agg (Qr kf pf v).toArray] w λu w'=>u=.int .u32 ((kf v ||| 2^v:Nat):Int)/\Ext w w':=by
 refine enE Tryz.func124 Tryz.ntmps124 ?_;refine bxR (cs:=Qr kf pf v) ?_;intro C b D J G;refine ldR (G.at (i:=0) rfl) ?_;refine ldR (G.at (i:=0) rfl) ?_;refine cfR ?_ ?_
 .grind
 have j:Ext C C.drew:=(Ext.refl C).drew;have o:=G.ext j;refine drR (scq 7 []) ?_;refine Jz (o.at (i:=1) rfl) ?_;refine Jz (o.at (i:=0) rfl) ?_;refine ρd ?_;refine dsl32 hv ?_;refine ρd ?_;refine ρ ?_;refine Jj ⟨?_,D.trans j⟩;rw[Jqw hk (Kg hv)]
def Jcn(n m:Nat)(vars:Nat->List Nat)(rs:Nat->List Row)(s:Nat)(l:List Row): Prop:=Lt [] l/\(∀ x,x∈l↔∃ z:Row,z.length=n/\x=pmR (bk s 32) z/\Ij m vars rs s z)/\l.length<=65536
def Yd(s:Nat)(l:List Row): Atm:=⟨nz (bk s 32),(bk s 32).length,l⟩
theorem Xkr{w:World}{ts:List TA}{Aa B:Option Addr}{vars:Nat->List Nat}{rs:Nat->List Row}{kf:Nat->Nat}(hn32:n<=32)(hok:∀ v,v<n->MOk n ts vars rs (kf v ||| 2^v))(hR:Rd w 3 Aa ts.length (atC ts))(hle:ts.length<=ca)(hat:∀ p∈ts,AtV w p.1 p.2)(hB:Rd w 3 B n (Qo n (Qr kf pf)))(hk:∀ v,v<n->kf v<4294967296)(hcap:∀ v,v<n->∀ l:List Row,Lt [] l->(∀ x∈l,∃ z:Row,z.length=n/\x=pmR (bk (kf v ||| 2^v) 32) z/\Ij ts.length vars rs (kf v ||| 2^v) z)->l.length<=65536):
  Ret Tryz.prog 73 [.int .i64 (n:Int),.slice B n cb,.slice Aa ts.length ca] w λu w'=>Ext w w'/\∃(va:Value) (st:Int) (R:Nat->List Row),u=.tuple #[va,.int .i64 st,.int .i64 0] /\
   Off (λk=>k<w.heap.size) w' (λx=>GV 3 AtG x va ((List.range n).map λv=>Yd (kf v ||| 2^v) (R v)))/\∀ v,v<n->Jcn n ts.length vars rs (kf v ||| 2^v) (R v):=by
 refine enE Tryz.func73 Tryz.ntmps73 ?_;refine ρ ?_;refine Jxd (fun (v:Nat) (va:Value) (st:Int) (R:Nat->List Row)=>[(0,.int .i64 (n:Int)),(2,.slice Aa ts.length ca),(9,va),(10,.int .i64 st),(16,.slice B n cb),(17,.int .i64 (n:Int)),(18,.int .i64 (v:Int))])
  (λv va st R w'=>v<=n/\Ext w w'/\OwnG 134 3 AtG w' w.heap.size va ((List.range v).map λu=>Yd (kf u ||| 2^u) (R u))/\∀ u,u<v->Jcn n ts.length vars rs (kf u ||| 2^u) (R u)) (λv _ _ _=>n-v) 0 (.slice none 0 0) 0 (λ_=>[]) sB
  ⟨Nat.zero_le _,Ext.refl _,OwnG.nil _ _,λu hu=>om⟩ ?_
 rintro v va st R w1 ⟨hv,D,a4,az⟩;refine ciR (λhc=>?_) (λhc=>?_)
 .have lv:v<n:=by have:=oT hc;omega
  clear hc;have ad:=hB.ext D;have a3:∀ j u,(Qr kf pf v)[j]?=some u->w1.cell? ((adr B (v*3)).add j)=some u:=λj u hu=>by
   have hj:j<3:=by grind [Nat.lt_or_ge,List.getElem?_eq_none,Qr]
   rw[Xe];exact ad.cell ((Jqr (sz:=3) (λ_ _=>rfl) lv hj).trans hu)
  refine Qp 3 v ad lv ?_;refine Js (cs:=Qr kf pf v) a3 ?_;refine Jv Jkk ?_;intro w2 bd aq ab J;refine Qb (cs':=Qr kf pf v) J ?_ Jxz;intro w3 J b9 ap;have a7:Ext w1 w3:=ap w1 aq ab;refine Js (cs:=Qr kf pf v) (λj u hu=>J.at hu) ?_;refine clR (Xjf om (hk v lv) w3) ?_;rintro u w4 ⟨rfl,ao⟩;have C:=a7.trans ao;have i:=D.trans C;refine clR (Qnw (hok v lv) (hR.ext i) hle (λp hp=>(hat p hp).ext i) (hcap v lv)) ?_;rintro u w5 ⟨an,⟨p1,p2,p3⟩,ai,l,rfl,Z,au,a9,av⟩;have b2:=Z.here;obtain⟨⟨PA,pc,ag,b5,b4,b3⟩,af,O⟩:=id b2;simp only at ag af;obtain⟨a5,PG,a2,_,ae,_⟩:=id O;simp only at ae;subst ag;subst af;subst ae;refine Jv Yg ?_;intro w6 bc am aa G;refine Qb (cs':=[.slice PA (nz (bk (kf v ||| 2^v) 32)).length pc,.int .i64 ((bk (kf v ||| 2^v) 32).length:Int),.slice PG a5.length a2]) G ?_ (Ig rfl);intro w7 G b7 ak;have U:Ext w5 w7:=ak w5 am aa;refine Qq G ?_
  refine Qk (Jlv _ _ _ PA PG _ pc _ a2 _ rfl rfl rfl) ?_;intro w8 b8 a6 ba b1;have o:=((C.trans an).trans U).trans a6;obtain⟨_,_,_,_,ac⟩:=a4.form;have hΦ:Off (Xx w.heap.size va) w8 (λu=>AtG u [.slice PA (nz (bk (kf v ||| 2^v) 32)).length pc,.int .i64 ((bk (kf v ||| 2^v) 32).length:Int),.slice PG a5.length a2] (Yd (kf v ||| 2^v) l)):=by
   refine((Z.imp λu h=>⟨_,rfl,h⟩).mono λk _ ax=>?_).ext (U.trans a6);rcases ax with h'|h'
   .exact nM h' i.size
   exact nM (ac k h').2 C.size
  refine ρ ?_;refine apG EA (Φ:=AtG) (a4.ext o) b1 rfl (Ig rfl) hΦ (by simp;omega) om (D.trans o).size ?_;intro ah w9 bb ay b6;have aj:Ext w w9:=Qg (D.trans o) ay (λg eg=>(ac g eg).1);obtain⟨a1,a8⟩:∃ a1:Int,a1=IntKind.i64.wrap (st+ai):=⟨_,rfl⟩;refine ρ ?_;rw[<-a8];refine ρ ?_;refine Kd (v+1) ah a1 (upd R v l) sO ⟨om,aj,?_,λu hu=>?_⟩ om
  .rw[List.range_succ,List.map_append,List.map_singleton,Ju];grind [List.range,Yd,kf,upd,List.map_congr_left,List.mem_range.1,Jm]
  by_cases e:u=v
  .subst e;rw[Ju];exact⟨au,a9,av⟩
  repeat grind [Jm]
 have ar:v=n:=by have:=oF hc;omega
 subst ar;clear hc;refine ρ ?_;exact Zz ⟨D,va,st,R,rfl,a4.off (by simp;omega),az⟩
end Go.Proofs.YtgobkbeokaaplaaGreatDoor
namespace Go.Wk
open Go.Lib
variable {cs xs:List Value}{d e g m n t ty:Nat}{w w':World}
theorem aps{P:Program}{tt:TT}[h:Tab P tt]{al:AL}{Q:Exit->Act->World->Prop}{ops:Array Oper}{rest:List Oper}{pos:String}{aft:Array Edge}{u base:Nat}{ku:TK}{x y:Operand}{v:Value}{s:ByteArray}(hE:ElT P t e 1 1 (.int .u8 0))(ha:w.ownsRow base e 1 v m xs)(hby:m+s.size<=140737488355328)(hbase:base<=w.heap.size)(kk:∀ v' w',w'.ownsRow base e 1 v' (m+s.size) (xs++strCells s)->w.grownBy w' v.ownBlock->WL P n ops Q rest ((d,v')::al) w')(hu:tk tt u=some ku:=by rfl)(hku:ku.desc=.string:=by rfl)(hx:ev al x=some v:=by rfl)(hy:ev al y=some (.string s):=by rfl)(hd:Nat.blt d n=true:=by rfl):
  WL P n ops Q (⟨some d,.call { callee:=.builtin .append,args:=#[x,y],argTypes:=#[t,u] },ty,pos,aft,none⟩::rest) al w:=by
 obtain⟨i,hi,O,C,D⟩:=hE.info;obtain⟨v',w',j,J,G,U⟩:=run_append_own_string w base t u ty e i hE.sl (Yv h.ok hu hku rfl) hi O C D v m xs ha s (by unfold maxLen;omega) hby hbase;refine wop hd (λa o=>?_) (kk v' w' J G);simp[execOp,resolve,invoke,builtin,o.ev hx,o.ev hy,j]
theorem _root_.Go.Wk.Blk.others(h:Blk w g t cs)(ho:OthersKept e none w w')(hne:Nat.beq e t=false): Blk w' g t cs :=
 ho g _ h (by simp) (λc j i=>by injection i with _ h2 _;subst h2;simp at hne)
end Go.Wk
namespace Go.Proofs.YtgobkbeokaaplaaGreatDoor
open Go.RowKit Pl Go.Wk _root_.Go.Proofs.Tryz
attribute [local irreducible] WC WL QX WD WDB WP WN WG
variable {B B0 c i:Nat}{r:Row}{sv v:Value}{w w':World}
def Ia(v:V): List UInt8:=Lib.itoa v.kind++[44]++(Lib.itoa v.num++[44])++(Lib.itoa (v.str.size:Int)++[44])++v.bytes
def idn(r:Row): List UInt8:=r.flatMap Ia
structure TB(B0:Nat)(w:World): Prop where
 le:B0<=w.heap.size
 tab:Lib.TabBelow prog B0 w "internal/strconv.uint64pow10" .u64 Lib.pow10Tab
theorem TB.below(h:TB B0 w)(hb:Below B w w')(hle:B0<=B): TB B0 w':=⟨nL h.le hb.size,h.tab.on (hb.mono hle)⟩
theorem TB.ext(h:TB B0 w)(hx:Ext w w'): TB B0 w':=h.below hx h.le
theorem TB.gr{N:Nat->Prop}(h:TB B0 w)(hg:GrN N w w')(hN:∀ k,k<B0->¬ N k): TB B0 w':=by
 have j:Below B0 w w':=⟨hg.os,hg.tape,hg.output,hg.size,λk i=>hg.block k (nM i h.le) (hN k i)⟩;exact⟨nL h.le j.size,h.tab.on j⟩
theorem EU8: ElT prog 105 5 1 1 (.int .u8 0):=⟨underlying105,info_parts kr,rfl,by decide⟩
theorem Jmm{l:List UInt8}{i:Int}(hT:TB B0 w)(hB0:B0<=B)(hBw:B<=w.heap.size)(h0:-9223372036854775808<=i)(h1:i<=9223372036854775807)(hlim:l.length+21<=140737488355328)(ho:w.ownsRow B 5 1 sv l.length (Bc l)): Ret prog 173 [sv,.int .i64 i,.int .i64 10] w λu w'=>w'.ownsRow B 5 1 u (l++Lib.itoa i).length (Bc (l++Lib.itoa i))/\Below B w w'/\Lib.OthersKept 5 none w w':=by
 refine⟨⟨_,_,func173,rfl,kr⟩,?_⟩;refine(Tryz.strconv_AppendInt_10 B l.length i h0 h1 sv (Bc l) w ho hBw hlim λw' D=>hT.tab w' (D.mono hB0)).mono ?_;rintro e w' ⟨j,rfl,G,C,o⟩;refine⟨j,rfl,?_,C,o⟩;have J:Bc (l++Lib.itoa i)=Bc l++Lib.byteCells (Lib.itoa i):=by simp[Bc,Lib.byteCells]
 grind
def Zl(v:V): Prop:=(-9223372036854775808<=v.kind/\v.kind<=9223372036854775807)/\(-9223372036854775808<=v.num/\v.num<=9223372036854775807)
theorem Jlt(z:Int)(w:World): (Instr.buildSlice 105 1 #[(0,.int .u8 z)]).run prog w=.ok (.slice (some ⟨w.heap.size,0,none⟩) 1 1) (w.alloc (.cells [.int .u8 z].toArray 5)):=kr
theorem Qxh(h:i<r.length): idn (r.take (i+1))=idn (r.take i)++Ia (r.getD i V0):=by grind [idn,Qt,V0]
theorem Qsz(h:i<r.length): (idn (r.take i)).length+(Ia (r.getD i V0)).length<=(idn r).length:=by
 have e:idn r=idn (r.take (i+1))++idn (r.drop (i+1)):=by unfold idn;rw[<-List.flatMap_append,List.take_append_drop]
 grind [Qxh,List.length_append]
theorem Bc_app(a b:List UInt8): Bc (a++b)=Bc a++Bc b:=by simp[Bc]
theorem Bc_one(l:List UInt8): ∀ u∈Bc l,u.oneCell'=true:=λu i=>by
 obtain⟨c,_,rfl⟩:=List.mem_map.1 i;rfl
theorem Jml(l:List UInt8)(c:UInt8): l.length+1=(l++[c]).length:=by simp
theorem Kh{base e sz n:Nat}{cs:List Value}(h:w.ownsRow base e sz v n cs): ∀ k,v.ownBlock=some k->base<=k:=by grind [Jy]
theorem Jzn{A:Option Addr}(hT:TB B0 w)(hR:RdR w A r)(hfit:∀ v∈r,Zl v)(hlim:(idn r).length+64<=140737488355328)(hr:r.length<=1000000):
  Ret prog 129 [.slice A r.length c] w λu w'=>u=.string (str (idn r))/\Ext w w':=by
 refine enE func129 ntmps129 ?_;refine ρ ?_;refine Jo (fun (i:Nat) (vn:Value)=>[(3,vn),(6,.slice A r.length c),(7,.int .i64 (r.length:Int)),(8,.int .i64 (i:Int))])
  (λi vn w'=>i<=r.length/\Ext w w'/\w'.ownsRow w.heap.size 5 1 vn (idn (r.take i)).length (Bc (idn (r.take i)))) (λi _=>r.length-i) 0 (.slice none 0 0) sB
  ⟨Nat.zero_le _,Ext.refl _,Zy _ _ _ _⟩ ?_
 rintro i vn w1 ⟨hi,a4,hn⟩;refine ciR (λh=>?_) (λh=>?_)
 .have li:i<r.length:=by have:=oT h;omega
  clear h;have af:RdR w1 A r:=Rd.ext hR a4;have bo:=Qsz li;have hf:=hfit _ (getD_mem' V0 r li);refine Qp 3 i af li ?_;refine Js (cs:=(r.getD i V0).cells) (λj u hu=>RdR.cell af li hu) ?_;refine Jv (cs:=V0.cells) Uv ?_;intro w2 b b7 hb ay;refine Qb (cs':=(r.getD i V0).cells) ay ?_ (V.one _);intro w3 ak bq a7;have am:Ext w1 w3:=a7 w1 b7 hb;have ao:=Jk hn am;have O:=a4.trans am;have bs:w.heap.size<=b:=nL a4.size hb;have b9:=Qxh li;generalize r.getD i V0=v at *
  generalize idn (r.take i)=l0 at *
  have ba:=Jkq v;have bp:(Ia v).length=(Lib.itoa v.kind).length+1+((Lib.itoa v.num).length+1)+((Lib.itoa (v.str.size:Int)).length+1)+v.bytes.length:=by simp only[Ia,List.length_append,List.length_cons,List.length_nil]
  clear hn ay a7 af;refine ldR (ak.at (i:=0) rfl) ?_;refine clR (Jmm (B:=w.heap.size) (l:=l0) (i:=v.kind) (hT.ext O) hT.le O.size hf.1.1 hf.1.2 (by grind) ao) ?_;rintro u4 w4 ⟨ad,ax,bc⟩;have a6:Ext w w4:=Below.trans O ax;have aj:=ak.others bc rfl;clear ao ak;refine Qk (Jlt _) ?_;intro w5 b5 D bu bf;refine ρ ?_;refine apb (m':=1) (news:=Bc [44]) EU8 (Jk ad D) (bf.rd (n:=1) rfl) (Bc_one _) (by unfold maxLen;grind) (by grind) (a6.trans D).size ?_;intro v6 w6 ac ar bn;rw[<-Bc_app,Jml _ 44]at ac;have J:Ext w w6:=Qg (a6.trans D) ar (Kh (Jk ad D));have ai:=(aj.ext D).grown ar ((aj.ext D).ne_own (Jk ad D) rfl);clear aj;refine ldR (ai.at (i:=1) rfl) ?_;refine clR (Jmm (B:=w.heap.size) (l:=l0++Lib.itoa v.kind++[44]) (i:=v.num) (hT.ext J) hT.le J.size hf.2.1 hf.2.2 (by grind) ac) ?_;rintro u7 w7 ⟨ab,av,bb⟩;have a5:Ext w w7:=Below.trans J av;have ah:=ai.others bb rfl
  clear ac ai;refine Qk (Jlt _) ?_;intro w8 b8 C bt be;refine ρ ?_;refine apb (m':=1) (news:=Bc [44]) EU8 (Jk ab C) (be.rd (n:=1) rfl) (Bc_one _) (by unfold maxLen;grind) (by grind) (a5.trans C).size ?_;intro v9 w9 aa aq bm;rw[<-Bc_app,Jml _ 44]at aa;have G:Ext w w9:=Qg (a5.trans C) aq (Kh (Jk ab C));have ag:=(ah.ext C).grown aq ((ah.ext C).ne_own (Jk ab C) rfl);clear ah;refine ldR (ag.at (i:=2) rfl) ?_;refine clR (Jmm (B:=w.heap.size) (l:=l0++Lib.itoa v.kind++[44]++Lib.itoa v.num++[44]) (i:=(v.str.size:Int)) (hT.ext G) hT.le G.size om om (by grind) aa) ?_;rintro bl b4 ⟨a2,ae,an⟩;have Z:Ext w b4:=Below.trans G ae;have a3:=ag.others an rfl;clear aa ag;refine Qk (Jlt _) ?_;intro bi bv o bh b1;refine ρ ?_;refine apb (m':=1) (news:=Bc [44]) EU8 (Jk a2 o) (b1.rd (n:=1) rfl) (Bc_one _) (by unfold maxLen;grind) (by grind) (Z.trans o).size ?_
  intro bj b3 a1 a8 bg;rw[<-Bc_app,Jml _ 44]at a1;have U:Ext w b3:=Qg (Z.trans o) a8 (Kh (Jk a2 o));have az:=(a3.ext o).grown a8 ((a3.ext o).ne_own (Jk a2 o) rfl);clear a3;refine ldR (az.at (i:=2) rfl) ?_;refine ρ ?_;refine aps (base:=w.heap.size) (s:=v.str) EU8 a1 (by grind) U.size ?_;intro b6 b2 ap au;have a9:Ext w b2:=Qg U au (Kh a1);refine ρ ?_;refine Jl (i+1) b6 sO ⟨li,a9,?_⟩ om;rw[b9];have e1:l0++Ia v=l0++Lib.itoa v.kind++[44]++Lib.itoa v.num++[44]++Lib.itoa (v.str.size:Int)++[44]++v.bytes:=by simp only[Ia,List.append_assoc]
  rw[e1,Bc_app,List.length_append,<-ba];exact ap
 have bd:i=r.length:=by grind
 rw[bd,List.take_length]at hn;obtain⟨A3,c3,rfl,br,_⟩:=Jy hn;refine ρ ?_;refine sb (Rd.own hn) ?_;refine ρ ?_;exact Jj ⟨rfl,a4⟩
end Go.Proofs.YtgobkbeokaaplaaGreatDoor
