/- Part 4. -/
import Derived.Test.YtbcdghbonlifdaaGreatDoorZ03
import Derived.Laws.BitsAllLaws
import Derived.Laws.CopyRow
set_option linter.unusedVariables false
set_option maxRecDepth 100000
set_option maxHeartbeats 40000000
namespace Go.Proofs.YtbcdghbonlifdaaGreatDoor
open Go.RowKit Pl Go.Wk
attribute [local irreducible] WC WL QX WD WDB WP WN WG
variable {vs:List Nat}{cs xs:List Value}{ca d g i m n q:Nat}{vars:Nat->List Nat}{G G' L e p:Nat->Nat}{N N' NY bx':Nat->Prop}{v x y yv:Value}{w w1 w2:World}
structure YS(s:Nat)(yv:Value)(bx:Nat->Prop)(Y:Nat->List Row->World->Prop): Prop where
 keep:∀ base l w w',Y base l w->GrN (λk=>s<=k/\k<base) w w'->Y base l w'
 call:∃ fid first cap,yv=.func (.func fid) first cap/\∀ base l w vr z,base<=w.heap.size->Y base l w->RowV w vr z->l.length<65536->Ret Tryz.prog fid (first.toList++[vr]++cap.toList) w λr w'=>r=.bool true/\Y base (l++[z]) w'/\GrN (λk=>bx k∨base<=k) w w'
theorem Jvp(ha:Ql vs)(hl:∀ u∈vs,u<n): vs.length<=n:=by
 have key:∀ k,lv vs k<=k:=by
  intro k;induction k with
  | zero=>rw[Jwd];exact nR _
  | succ k ih=>
   by_cases h:k∈vs
   repeat grind [Yy,Jjz]
 have:=key n;rwa [Qxj hl]at this
theorem Jkt{cs:List Nat}(h:i<cs.length): (nz cs).getD i 0=(cs.getD i 0:Int):=by
 simp[nz,List.getD,List.getElem?_eq_getElem h]
structure RunOk(n:Nat)(ts:List TA)(vars:Nat->List Nat)(rs:Nat->List Row): Prop where
 n32:n<=32
 m32:ts.length<=32
 at_:∀ i,i<ts.length->(ts.getD i ta0).2=⟨nz (vars i),(vars i).length,rs i⟩
 asc:∀ i,i<ts.length->Ql (vars i)
 lt:∀ i,i<ts.length->∀ u∈vars i,u<n
 cov:∀ v,v<n->∃ i,i<ts.length/\v∈vars i
 srt:∀ i,i<ts.length->Lt [] (rs i)
 len:∀ i,i<ts.length->∀ r∈rs i,r.length=(vars i).length
 big:∀ i,i<ts.length->(rs i).length<=65536
theorem Jbh{base base' e sz:Nat}(h:w.ownsRow base e sz v m xs)(hb:base'<=base): w.ownsRow base' e sz v m xs:=by
 rcases h with⟨D,⟨rfl,rfl⟩|⟨g,C,u,rfl,o,G⟩⟩
 .exact⟨D,.inl ⟨rfl,rfl⟩⟩
 exact⟨D,.inr ⟨g,C,u,rfl,Nat.le_trans hb o,G⟩⟩
theorem _root_.Go.Wk.Blk.sub2{t:TypeId}(h:Blk w g t cs)(h0:cs[i]?=some x)(h1:cs[i+1]?=some y): ∀ j u,[x,y][j]?=some u->w.cell? ((⟨g,i,none⟩:Addr).add j)=some u:=λj u o=>by
 match j,o with
 | 0,o=>simp only[List.getElem?_cons_zero,Option.some.injEq]at o;subst o;exact h.sub h0
 | 1,o=>simp only[List.getElem?_cons_succ,List.getElem?_cons_zero,Option.some.injEq]at o;subst o;exact h.sub h1
 | j+2,o=>simp at o
def Gy(d t:Nat): List Value:=(List.range d).map λj=>.int .i64 ((if j<t then j else 0:Nat):Int)
theorem Xkc(d:Nat): (madeCells (Value.int .i64 0).cells (d*1)).toList=Gy d 0:=by
 rw[Nat.mul_one];have e:(madeCells (Value.int .i64 0).cells d).toList=List.replicate d (Value.int .i64 0):=Ul _ _;rw[e];simp[Gy,List.map_const']
theorem Xkb(d:Nat): Gy d d=Jp (nz (List.range d)):=by grind [Gy,Jp,nz,List.map_map,List.map_congr_left,List.mem_range.1]
theorem Xzx{t:Nat}(h:t<d): (Gy d t).set t (.int .i64 (t:Int))=Gy d (t+1):=by
 apply List.ext_getElem?
 grind [Gy,List.getElem?_range]
theorem Xzz(d t:Nat): (Gy d t).length=d:=by simp[Gy]
theorem Qrp(A:Option Addr)(n c:Nat): ∀ u∈[Value.slice A n c],u.oneCell'=true:=λu o=>by rw[List.mem_singleton.1 o];rfl
def itp(g:Nat): Value:=.pointer (some ⟨g,0,none⟩)
def Vj(vars:Nat->List Nat)(G:Nat->Nat)(q:Nat)(v:Nat): List Value:=((List.range q).filter λi=>decide (v∈vars i)).map λi=>itp (G i)
theorem Xkj(vars:Nat->List Nat)(G:Nat->Nat)(q v:Nat): (Vj vars G q v).length<=q:=by grind [Vj,List.length_map,List.length_filter_le,List.range,List.length_range]
theorem Xkh(vars:Nat->List Nat)(G:Nat->Nat)(q v:Nat): Vj vars G (q+1) v=Vj vars G q v++if v∈vars q then[itp (G q)] else[]:=by grind [Vj,List.range_succ,List.filter_cons_of_pos,List.filter_cons_of_neg]
theorem Xkk(h:∀ j,j<q->G j=G' j)(v:Nat): Vj vars G q v=Vj vars G' q v:=by grind [Vj,List.map_congr_left,List.mem_range.1,List.mem_filter.1]
theorem _root_.Go.Wk.GrN.cut(hx:Ext w w1)(hg:GrN N w1 w2)(hN:∀ k,k<w.heap.size->N k->N' k): GrN N' w w2 :=
 ⟨hg.os.trans hx.os,hg.tape.trans hx.tape,hg.output.trans hx.output,Nat.le_trans hx.size hg.size,λk o hn=>(hg.block k (nM o hx.size) (λe=>hn (hN k o e))).trans (hx.block k o)⟩
theorem Cfg.steps{c:JC}{Y:List Row->World->Prop}{z:Row}{f h:Nat->Nat->Nat}{l:List Row}(H:Cfg c Y w z L p e f h l)(hok:JOk c)(hY:YC c Y NY){st:Int}(hJ:Blk w c.J 273 [c.rowv,c.ja,.int .i64 st,c.yv])(st':Int):
  Cfg c Y (w.setCell ⟨c.J,2,none⟩ (.int .i64 st')) z L p e f h l/\GrN c.NI w (w.setCell ⟨c.J,2,none⟩ (.int .i64 st')):=by
 have u:GrN (λk=>k=c.J) w (w.setCell ⟨c.J,2,none⟩ (.int .i64 st')):=GrN.set _ rfl;have o:GrN c.NI w (w.setCell ⟨c.J,2,none⟩ (.int .i64 st')):=GrN.set _ (.inl rfl);refine⟨⟨H.env.gr (o.mono λk _ C=>hok.sub k C),λi hi=>?_,Js H.row u (λg G=>H.rowJ G),H.zl,⟨_,hJ.set 2 _⟩,hY.keep _ _ _ H.y o⟩,o⟩;obtain⟨st,D⟩:=H.its i hi;exact⟨st,Jv D u (hok.gj i hi)⟩
theorem Qbn(h:Ql vs): vs.Nodup:=h.imp λh e=>by omega
theorem Jnv(n:Nat): (madeCells (Value.slice none 0 0).cells (n*1)).toList=List.replicate n (Value.slice none 0 0):=by rw[Nat.mul_one];exact Ul _ _
theorem Qln{ts:List TA}{Aa:Option Addr}{rs:Nat->List Row}{Y:Nat->List Row->World->Prop}(hok:RunOk n ts vars rs)(hR:Rd w 3 Aa ts.length (atC ts))(hat:∀ p∈ts,AtV w p.1 p.2)(hbx:∀ k,bx' k->k<w.heap.size)(hY:YS w.heap.size yv bx' Y)(hY0:∀ w',Ext w w'->Y w'.heap.size [] w')(hcap:∀ l:List Row,Lt [] l->(∀ x∈l,Zc n ts.length vars rs x)->l.length<=65536):
  Ret Tryz.prog 167 [.int .i64 (n:Int),.slice Aa ts.length ca,yv] w λu w'=>GrN bx' w w'/\∃ st base l,u=.tuple #[.int .i64 st,.int .i64 0]/\base<=w'.heap.size/\Y base l w'/\Lt [] l/\∀ x,x∈l↔Zc n ts.length vars rs x:=by
 have dm:=hok.n32;have dq:=hok.m32;obtain⟨m,hm⟩:∃ m,m=ts.length:=⟨_,rfl⟩;obtain⟨bh,first,bi,ez,d6⟩:=hY.call;subst ez;refine Jz Tryz.func167 Tryz.ntmps167 rfl kr rfl ?_;refine ρ ?_;have dd:Ext w w.drew:=(Ext.refl w).drew;refine drG kr ?_;refine gpre (fuel':=5) [(0,0),(0,2),(0,4)] #[true,false,true,false,true,false,false,false] kr kr rfl ?_;refine ρd ?_;refine Jcp ?_;refine gcut 3 #[true,true,true,true,true,false,false,false] (fun (x:Option Addr×Option Addr)=>[(0,.int .i64 (n:Int)),(1,.slice Aa ts.length ca),(2,.func (.func bh) first bi),(24,.slice x.1 n n),(26,.slice x.2 n n),(27,.func (.func bh) first bi)])
  (λx w'=>Ext w.drew w'/\Vv w' w.heap.size (.slice x.1 n n) (List.replicate n V0)/\w'.ownsRow w.heap.size 274 1 (.slice x.2 n n) n (List.replicate n (.slice none 0 0))) ?_ ?_
 .rintro⟨Ra,Ba⟩ w1 ⟨di,ax,ck⟩;refine gpre (fuel':=0) [(1,5),(1,6),(0,7)] #[true,true,true,true,true,true,true,true] kr kr rfl ?_;refine Jqk ?_;refine bld (Xvf _ _ _ _ _ _ _) ?_;refine Jc (Jqj (Ext.refl _) ?_);refine Jqk ?_;refine bx ?_;intro w2 J a1 hJ f6;refine Jc (Jqj a1 ?_);refine ρd ?_;refine Jcp ?_;refine gend kr ?_;refine ρ ?_;have ab:Ext w w2:=(dd.trans di).trans a1;have e6:w.heap.size<=J:=nL (dd.trans di).size hJ;obtain⟨K,hK⟩:∃ K:RK,K=⟨n,vars,rs,w.heap.size,J,Ra,Ba,.func (.func bh) first bi⟩:=⟨_,rfl⟩;have H2:RB K 0 ⟨λ_=>0,λ_=>none,λ_=>0,λ_=>0,.slice none 0 0,λ_=>.slice none 0 0⟩ (λ_=>[]) [] w2:=by
   subst hK;refine⟨f6,Jk ax a1,?_,⟨λi hi=>Zj _ _ _ _,λi j g _ _ _ e=>(by cases e)⟩,Zj _ _ _ _,λv g _ e=>(by cases e),λj hj=>om,λj hj=>om,λj k hj=>om,λi j hi=>om,λi j _ hj=>om,λj hj=>om,λj hj=>om,e6⟩;have:=Jk ck a1;have e:List.replicate n (Value.slice none 0 0)=(List.range n).map λ_=>Value.slice none 0 0:=by simp[List.map_const']
   rw[e]at this;exact this
  clear ax ck;refine Qf (fun (i:Nat)=>[(0,.int .i64 (n:Int)),(1,.slice Aa ts.length ca),(8,.pointer (some ⟨J,0,none⟩)),(30,.slice Aa ts.length ca),(31,.int .i64 (ts.length:Int)),(32,.int .i64 (i:Int))])
   (λi w'=>i<=ts.length/\Ext w2 w'/\∀ j,j<i->rs j≠[]) (λi=>ts.length-i) 0 sB ⟨Nat.zero_le _,Ext.refl _,λj hj=>om⟩ ?_
  rintro i w3 ⟨hi,C,cd⟩;refine ρ ?_;refine ci (λh=>?_) (λh=>?_)
  .have li:i<ts.length:=by have:=oT h;omega
   have ec:=hR.ext (ab.trans C);obtain⟨t1,t2,t3,a,hp⟩:∃ t1 t2 t3 a,ts.getD i ta0=((t1,t2,t3),a):=⟨_,_,_,_,rfl⟩;have a8:AtV w (t1,t2,t3) a:=by have:=hat _ (Jys rfl li);rw[hp]at this;exact this
   have ea:a=⟨nz (vars i),(vars i).length,rs i⟩:=by have:=hok.at_ i li;rw[hp]at this;exact this
   clear h;obtain⟨⟨D,d,e1,hd,f8,dx⟩,e2,a6⟩:=id a8;simp only at e1 e2;subst e1;subst e2;obtain⟨ps,G,gc,_,aw,_⟩:=id a6;simp only at aw;subst aw;refine ρ ?_;refine ixq 3 i ec li ?_;refine ρ ?_;refine lds (cs:=[.slice D a.vars.length d,.int .i64 (a.ar:Int),.slice G ps.length gc]) (λj u hu=>Jzp ec rfl li (by rw[hp];exact hu)) ?_;refine ρ ?_;refine alc Yk ?_;intro w4 b a5 hb hB;refine ρ ?_;refine stb hB ?_ a8.one;intro w5 ff d3 cw;have aq:Ext w3 w5:=cw w3 a5 hb;refine ρ ?_;refine lds (cs:=[.int .i64 (a.ar:Int),.slice G ps.length gc]) (ff.sub2 (i:=1) rfl rfl) ?_;refine ρ ?_;refine cl (Jkl ((a8.ext (((ab.trans C).trans aq))).rel)) ?_;rintro u w6 ⟨rfl,bn⟩;refine ρ ?_;refine ci (λh=>?_) (λh=>?_)
   .refine ρ ?_;have c5:Ext w w6:=((ab.trans C).trans aq).trans bn;refine Vo ⟨(GrN.ext c5),0,w6.heap.size,[],rfl,Nat.le_refl _,hY0 w6 c5,List.Pairwise.nil,λx=>⟨λhx=>(by cases hx),λhx=>?_⟩⟩;have o:=hx.2 i li;have h2:a.rows.length=0:=by have:=Xa h;omega
    rw[ea]at h2;have h3:rs i=[]:=List.eq_nil_of_length_eq_zero h2;rw[h3]at o;cases o
   have h2:rs i≠[]:=λe=>by
    have h3:=Zq h;rw[ea,e]at h3;exact h3 rfl
   refine ρ ?_;refine Qw (i+1) sO ⟨om,(C.trans aq).trans bn,λj hj=>?_⟩ om;by_cases e:j=i
   .rw[e];exact h2
   exact cd j om
  have d2:i=ts.length:=by have:=oF h;omega
  subst d2;refine ρ ?_;refine Jt (fun (q:Nat) (S:RS)=>[(0,.int .i64 (n:Int)),(8,.pointer (some ⟨J,0,none⟩)),(11,S.va),(41,.slice Aa ts.length ca),(42,.int .i64 (ts.length:Int)),(43,.int .i64 (q:Int))])
   (λq S w'=>q<=ts.length/\Ext w w'/\RB K q S (Vj vars S.G q) ((List.range q).map λj=>itp (S.G j)) w') (λq _=>ts.length-q) 0 ⟨λ_=>0,λ_=>none,λ_=>0,λ_=>0,.slice none 0 0,λ_=>.slice none 0 0⟩ sB
   ⟨Nat.zero_le _,ab.trans C,H2.ext C⟩ ?_
  rintro q S w4 ⟨hq,a5,H4⟩;refine ρ ?_;refine ci (λh=>?_) (λh=>?_)
  .have lq:q<ts.length:=by have:=oT h;omega
   have eb:=hR.ext a5;obtain⟨t1,t2,t3,a,hp⟩:∃ t1 t2 t3 a,ts.getD q ta0=((t1,t2,t3),a):=⟨_,_,_,_,rfl⟩;have a8:AtV w (t1,t2,t3) a:=by have:=hat _ (Jys rfl lq);rw[hp]at this;exact this
   have ea:a=⟨nz (vars q),(vars q).length,rs q⟩:=by have:=hok.at_ q lq;rw[hp]at this;exact this
   subst ea;clear h;obtain⟨⟨D,d,e1,hd,f8,dx⟩,e2,a6⟩:=id a8;simp only at e1 e2;subst e1;subst e2;obtain⟨ps,G,gc,_,aw,_⟩:=id a6;simp only at aw;subst aw;have dl:=Je (vars q);have fn:(vars q).length<=n:=Jvp (hok.asc q lq) (hok.lt q lq);refine ρ ?_;refine ixq 3 q eb lq ?_;refine ρ ?_;refine lds (cs:=[.slice D (nz (vars q)).length d,.int .i64 ((vars q).length:Int),.slice G ps.length gc]) (λj u hu=>Jzp eb rfl lq (by rw[hp];exact hu)) ?_;refine ρ ?_;refine alc Yk ?_;intro w5 b cw hb hB;refine ρ ?_;refine stb hB ?_ a8.one;intro w6 em bs bn;have c6:Ext w4 w6:=bn w4 cw hb;have H6:=H4.ext c6;refine ρ ?_;refine ld (em.at (i:=0) rfl) ?_;refine ρ ?_;rw[dl];refine mkn EI (vars q).length om (by unfold maxLen;omega) ?_;intro w7 O de d0 fq;rw[Xkc]at d0;refine ρ ?_;refine Qf (fun (t:Nat)=>[(0,.int .i64 (n:Int)),(8,.pointer (some ⟨J,0,none⟩)),(11,S.va),(41,.slice Aa ts.length ca),(42,.int .i64 (ts.length:Int)),(43,.int .i64 (q:Int)),(13,.pointer (some ⟨b,0,none⟩)),(14,.slice O (vars q).length (vars q).length),(51,.slice O (vars q).length (vars q).length),(52,.int .i64 ((vars q).length:Int)),(53,.int .i64 (t:Int))])
    (λt w'=>t<=(vars q).length/\Ext w6 w'/\w'.ownsRow w6.heap.size 3 1 (.slice O (vars q).length (vars q).length) (vars q).length (Gy (vars q).length t)) (λt=>(vars q).length-t) 0 sB
    ⟨Nat.zero_le _,de,d0⟩ ?_
   clear d0 de;rintro t w8 ⟨ht,bm,b5⟩;refine ρ ?_;refine ci (λh=>?_) (λh=>?_)
   .have lt:t<(vars q).length:=by have:=oT h;omega
    clear h;refine ρ ?_;refine ix t (Rd.own b5) lt ?_;obtain⟨s1,s2,s3,s4,s5⟩:=Za b5 (q:=t) om (.int .i64 (t:Int));have e5:t<(Gy (vars q).length t).length:=by rw[Xzz];exact lt
    refine ρ ?_;refine sto (s1.trans (gE e5)) s2 ?_;rw[Xzx lt]at s3;have ap:Ext w6 (w8.setCell (adr O t) (.int .i64 (t:Int))):=Qg bm s5 (λk Z=>by
     obtain⟨_,_,_,_,hf⟩:=Jy b5;exact(hf k Z).1)
    refine ρ ?_;exact Qw (t+1) sO ⟨om,ap,s3⟩ om
   have cy:t=(vars q).length:=by have:=oF h;omega
   subst cy;clear h;rw[Xkb]at b5;have el:=em.ext bm;have c4:Ext w w8:=(a5.trans c6).trans bm;have d4:IntsV w8 (.slice O (vars q).length (vars q).length) (nz (List.range (vars q).length)):=by
    have e:(nz (List.range (vars q).length)).length=(vars q).length:=by rw[Je,List.length_range]
    exact⟨O,(vars q).length,by rw[e],by rw[e];exact nR _,by rw[e];omega,by rw[e];exact Rd.own b5⟩
   refine ρ ?_;refine lds (cs:=[.int .i64 ((vars q).length:Int),.slice G ps.length gc]) (el.sub2 (i:=1) rfl rfl) ?_;refine ρ ?_;refine cl (Qgb (a8.ext c4).rel (hok.srt q lq) (hok.len q lq) d4 (show(vars q).length<=32 by omega) (hok.big q lq)) ?_;rintro u w9 ⟨ap,tv,rfl,⟨bj,rfl⟩,e8⟩;refine ρ ?_;refine alc Jdp ?_;intro fl b2 dh f9 fe;refine ρ ?_;refine stb (cs':=[.slice bj (vars q).length (vars q).length]) fe ?_ (Qrp _ _ _);intro dc en fi dg;have ac:Ext w9 dc:=dg w9 dh f9;refine ρ ?_;refine ldW en ?_;refine ρ ?_;refine cl (Qgc dc) ?_;rintro u db ⟨au,g,rfl,dw,cm⟩;have H8:=H6.ext bm;have e7:Off (λk=>k<w8.heap.size) w9 (λu=>TriA u bj (K.vars q).length (K.rs q)):=by
    subst hK;exact e8.imp λu h=>h.a
   have bf:ItB db g bj (K.vars q).length 0 0 0 (λ_=>0) (λ_=>0) 0:=by subst hK;exact cm
   have ew:=H8.iter ap e7 (ac.trans au) (nL ac.size dw) bf;have bg:=el.ext (((ap.trans ac)).trans au);have bz:K.n=n:=by rw[hK]
   have d9:K.base=w.heap.size:=by rw[hK]
   have fb:K.J=J:=by rw[hK]
   have ba:K.Ba=Ba:=by rw[hK]
   have an:Ext w db:=(c4.trans ap).trans (ac.trans au);have d1:∀ {w':World} {e sz m':Nat} {v:Value} {xs:List Value},w'.ownsRow K.base e sz v m' xs->∀ k,v.ownBlock=some k->w.heap.size<=k:=λho k ek=>by
    obtain⟨_,_,_,_,hf⟩:=Jy ho;rw[<-d9];exact(hf k ek).1
   refine ρ ?_;refine bsl (Qyj (some ⟨g,0,none⟩)) ?_;intro fk b3 a3 fp fh;have bl:=ew.ext a3;refine ρ ?_;refine apb (base:=K.base) EIt bl.all (fh.rd (n:=1) rfl) (λu hu=>by rw[List.mem_singleton.1 hu];rfl) (by unfold maxLen;simp;omega) (by simp;omega) (by rw[d9];exact(an.trans a3).size) ?_;intro cv ey cb ag ce;have eu:=bl.pushAll cb ag ce;have co:=(bg.ext a3).grown ag ((bg.ext a3).ne_own bl.all rfl);have c7:Ext w ey:=Qg (an.trans a3) ag (d1 bl.all);refine ρ ?_;refine ld (co.at (i:=0) rfl) ?_;refine ρ ?_;refine Jt (fun (t:Nat) (vt:Nat->Value)=>[(0,.int .i64 (n:Int)),(8,.pointer (some ⟨J,0,none⟩)),(11,cv),(41,.slice Aa ts.length ca),(42,.int .i64 (ts.length:Int)),(43,.int .i64 (q:Int)),(18,.pointer (some ⟨g,0,none⟩)),(78,.slice D (nz (vars q)).length d),(79,.int .i64 ((nz (vars q)).length:Int)),(80,.int .i64 (t:Int))])
    (λt vt w'=>t<=(vars q).length/\Ext w w'/\RB K (q+1) { G:=upd S.G q g,A:=upd S.A q bj,lo:=upd S.lo q w8.heap.size,hi:=upd S.hi q w9.heap.size,va:=cv,vat:=vt } (λv=>Vj vars S.G q v++if v∈(vars q).take t then[itp g] else[]) (((List.range q).map λj=>itp (S.G j))++[itp g]) w') (λt _=>(vars q).length-t) 0 S.vat sB
    ⟨Nat.zero_le _,c7,?_⟩ ?_
   .have e:(λv=>Vj vars S.G q v++if v∈(vars q).take 0 then[itp g] else[])=Vj vars S.G q:=by funext v;simp
    rw[e];exact eu
   clear eu bl cb ag ce co c7 ew bg cm bf e8 e7;rintro t vt cr ⟨ht,af,am⟩;refine ρ ?_;refine ci (λh=>?_) (λh=>?_)
   .have lt:t<(vars q).length:=by have:=oT h;omega
    clear h;obtain⟨vi,cx⟩:∃ vi,vi=(vars q).getD t 0:=⟨_,rfl⟩;have f0:vi∈vars q:=by rw[cx];exact getD_mem' 0 _ lt
    have aj:vi<n:=hok.lt q lq vi f0;have av:vi<K.n:=by rw[bz];exact aj
    have cn:=dx.ext af;refine ρ ?_;refine ix t cn (by rw[dl];exact lt) ?_;refine ρ ?_;refine ld (cn.cell (Xt lt)) ?_;rw[<-cx];obtain⟨own,ay⟩:∃ own,own=(vt vi).ownBlock:=⟨_,rfl⟩;have be:=am.jb;rw[fb,ba,bz]at be;have a7:=am.at_;rw[bz,ba]at a7;have b1:=am.lists.own vi av;have nJ:¬ one own J:=λe=>by
     have o:own=some J:=e;exact be.ne_own b1 rfl (by rw[<-o];exact ay)
    have nA:∀ ad,Ba=some ad->¬ one own ad.block:=λad e h'=>by
     subst e;exact Jxk a7 b1 rfl rfl (by have o:own=some ad.block:=h';rw[<-o];exact ay.symm)
    refine ρ ?_;refine drN (one own) 8 [(0,0),(0,1),(0,2),(0,3),(0,4),(0,5),(0,6),(0,7),(0,8),(0,9),(0,10),(0,11),(0,12),(1,13),(1,14),(0,15),(2,16)] kr ?_;have a2:Ext cr cr.drew:=(Ext.refl cr).drew;have et:=am.ext a2;have bd:=be.ext a2;have ah:=Jk a7 a2;have d5:((List.range n).map vt)[vi]?=some (vt vi):=by simp[aj]
    refine ρn ?_;refine nld (Jl (bd.at (i:=1) rfl) nJ) ?_;refine ρn ?_;refine nld (Jl (bd.at (i:=1) rfl) nJ) ?_;refine ρn ?_;refine nix vi (Rd.own ah) aj ?_;refine ρn ?_;refine nld (λw' hg=>(Vc (Rd.own ah) hg (λ_ ad e=>nA ad e)).cell d5) ?_;refine ρn ?_;refine nop ?_;refine bsl (Qyj (some ⟨g,0,none⟩)) ?_;intro fj b4 ae fo fg;refine ρ ?_;refine Jm (GrN.ext ae) ?_;have ak:=et.ext ae;refine nop ?_;have e5:=Xkj vars S.G q vi;refine apb (base:=K.base) EIt (ak.lists.own vi av) (fg.rd (n:=1) rfl) (λu hu=>by rw[List.mem_singleton.1 hu];rfl) ?_ ?_ (by rw[d9];exact((af.trans a2).trans ae).size) ?_
    .rw[List.length_append];unfold maxLen;split<;>simp<;>omega
    .rw[List.length_append];split<;>simp<;>omega
    intro v4 ex dk b6 dn;refine ρ ?_;refine Jm (GrN.by b6 λj ej=>by rw[<-ay]at ej;exact ej) ?_;obtain⟨c1,c2,c3,er,cg⟩:=ak.pushAt av dk b6 dn;rw[ba]at c1 c2 er cg;have cq:=Zf ak.at_ (ak.lists.own vi av) b6 rfl;rw[bz,ba]at cq;refine ρn ?_;refine nix vi (Rd.own cq) aj ?_;refine ρn ?_;refine Xh ?_;refine sto c1 c2 ?_ (hv:=c3);have df:Ext w (ex.setCell (adr Ba vi) v4):=cg.old ((af.trans a2).trans ae) (λk Z=>by
     rcases Z with Z|Z
     .exact d1 (ak.lists.own vi av) k Z
     exact d1 ak.at_ k (by rw[ba];exact Z))
    refine ω5 ?_;refine Ug ?_;refine ρn ?_;refine ρ ?_;refine Jf (t+1) (upd vt vi v4) sO ⟨om,df,?_⟩ om;have dj:(vars q).take (t+1)=(vars q).take t++[vi]:=by rw[Qc 0 lt,cx]
    have f3:vi ∉ (vars q).take t:=λhm=>by
     have o:((vars q).take (t+1)).Nodup:=(Qbn (hok.asc q lq)).sublist (List.take_sublist _ _);rw[dj,List.nodup_append]at o;exact o.2.2 _ hm _ (List.mem_singleton.2 rfl) rfl
    have e:upd (λv=>Vj vars S.G q v++if v∈(vars q).take t then[itp g] else[]) vi ((Vj vars S.G q vi++if vi∈(vars q).take t then[itp g] else[])++[.pointer (some ⟨g,0,none⟩)])=(λv=>Vj vars S.G q v++if v∈(vars q).take (t+1) then[itp g] else[]):=by
     funext v
     rw[dj];by_cases e:v=vi
     .subst e;rw[Ja,if_neg f3,if_pos (by simp)];simp[itp]
     rw[Jg _ _ e];congr 1
     by_cases o:v∈(vars q).take t
     .rw[if_pos o,if_pos (by simp[o])]
     rw[if_neg o,if_neg (by simp[o,e])]
    rw[<-e];exact er
   have cy:t=(vars q).length:=by have:=oF h;omega
   subst cy;clear h;refine ρ ?_;refine Jf (q+1) ⟨upd S.G q g,upd S.A q bj,upd S.lo q w8.heap.size,upd S.hi q w9.heap.size,cv,vt⟩ sO ⟨om,af,?_⟩ om;have e1:(λv=>Vj vars S.G q v++if v∈(vars q).take (vars q).length then[itp g] else[])=Vj vars (upd S.G q g) (q+1):=by
    funext v
    rw[Xkh,List.take_length,Ja,Xkk (G':=upd S.G q g) (λj hj=>(Jg _ _ om).symm)]
   have e2:((List.range q).map λj=>itp (S.G j))++[itp g]=(List.range (q+1)).map λj=>itp (upd S.G q g j):=by
    rw[List.range_succ,List.map_append,List.map_singleton,Ja];congr 1
    refine List.map_congr_left λj hj=>?_;have:=List.mem_range.1 hj;rw[Jg _ _ om]
   rw[e1,e2]at am;exact am
  have f2:q=ts.length:=by have:=oF h;omega
  subst f2;clear h;subst hK;obtain⟨h0,br⟩:∃ h0,h0=w4.heap.size:=⟨_,rfl⟩;obtain⟨a9,ai⟩:∃ a9:Nat->Prop,a9=λk=>k=J∨(∃ i,i<ts.length/\k=S.G i)∨(Value.slice Ra n n).ownBlock=some k:=⟨_,rfl⟩;obtain⟨c,hc⟩:∃ c:JC,c=⟨⟨S.G,S.A,λi=>(vars i).length,rs⟩,n,ts.length,vars,J,Ra,w.heap.size,.slice Ba n n,.func (.func bh) first bi,S.vat,λk=>bx' k∨h0<=k∨a9 k⟩:=⟨_,rfl⟩;have d8:∀ k,c.NI k↔a9 k:=λk=>by subst hc;subst ai;exact Iff.rfl
  have bw:∀ k,c.N k↔bx' k∨h0<=k∨a9 k:=λk=>by subst hc;exact Iff.rfl
  have ee:J<h0:=by rw[br];exact H4.jb.lt
  have c8:∀ {e sz m':Nat} {v:Value} {xs:List Value},w4.ownsRow w.heap.size e sz v m' xs->∀ k,v.ownBlock=some k->w.heap.size<=k/\k<h0:=λho k ek=>by
   obtain⟨_,_,_,_,hf⟩:=Jy ho;rw[br];exact hf k ek
  have b9:∀ k,a9 k->w.heap.size<=k/\k<h0:=λk Z=>by
   subst ai;rcases Z with Z|⟨i,hi,Z⟩|Z
   .subst Z;exact⟨e6,ee⟩
   .subst Z;have o:=(H4.its i hi).lt;have h2:=H4.jg i hi;simp only at h2;omega
   exact c8 H4.row k Z
  have fa:∀ k,k<h0->¬ bx' k->¬ a9 k->¬ c.N k:=λk o h2 h3 h4=>by
   rcases(bw k).1 h4 with h5|h5|h5
   .exact h2 h5
   .omega
   exact h3 h5
  have cj:∀ k,w.heap.size<=k->¬ bx' k:=λk Z hb=>by have:=hbx k hb;omega
  have aa:∀ {e sz m':Nat} {v:Value} {xs:List Value},w4.ownsRow w.heap.size e sz v m' xs->Nat.beq e 273=false->Nat.beq e 300=false->Nat.beq 118 e=false->∀ k,v.ownBlock=some k->¬ c.N k:=λho e1 e2 e3 k ek=>by
   have o:=c8 ho k ek;refine fa k o.2 (cj k o.1) λh2=>?_;subst ai;rcases h2 with h2|⟨i,hi,h2⟩|h2
   .subst h2;exact H4.jb.ne_own ho e1 ek.symm
   .subst h2;exact(H4.its i hi).ne_own ho e2 ek.symm
   exact Jxk H4.row ho e3 h2 ek
  have fc:∀ v,c.I v=(List.range ts.length).filter λi=>decide (v∈vars i):=λv=>by subst hc;rfl
  have c9:∀ v,Jxf c.F (c.I v)=Vj vars S.G ts.length v:=λv=>by rw[fc];subst hc;rfl
  have ef:∀ v,(c.I v).length=(Vj vars S.G ts.length v).length:=λv=>by rw[<-c9];simp[Jxf]
  have bb:JOk c:=by
   have du:∀ i j,i<ts.length->j<ts.length->S.G i=S.G j->i=j:=λi j hi hj e=>by
    rcases Nat.lt_trichotomy i j with o|o|o
    .have:=H4.ginj i j o hj;omega
    .exact o
    have:=H4.ginj j i o hi;omega
   have f7:∀ i,i<ts.length->S.G i≠J:=λi hi e=>by have:=H4.jg i hi;simp only at this;omega
   have dz:∀ i,i<ts.length->(vars i).length<=32:=λi hi=>by have:=Jvp (hok.asc i hi) (hok.lt i hi);omega
   subst hc;exact⟨dm,dq,hok.asc,hok.lt,λi _=>rfl,dz,cd,hok.srt,hok.len,hok.big,du,f7,hok.cov,λk Z=>.inr (.inr ((d8 k).1 Z))⟩
  have da:JEnv c w4:=by
   refine⟨λi hi=>?_,⟨Ba,n,by subst hc;rfl,?_⟩,λv hv=>?_⟩
   .have bq:i<ts.length:=by subst hc;exact hi
    have o:=H4.tri i bq;have h2:Off c.N w4 (λu=>TriA u (S.A i) (vars i).length (rs i)):=o.mono λk Z h=>by
     have h3:=(H4.jlo i bq);have h4:=H4.iv i k bq;simp only at h3;rcases(bw k).1 h with h5|h5|h5
     .have:=hbx k h5;exact .inl om
     .omega
     subst ai;rcases h5 with h5|⟨i',d2,h5⟩|h5
     .exact h4 (.inl h5)
     .subst h5;exact H4.gi i' i d2 bq
     exact h4 (.inr (.inl h5))
    subst hc;exact h2
   .have o:=Jxj H4.at_ (aa H4.at_ rfl rfl rfl);have h2:=o.imp (Ψ:=λu=>Rd u 1 Ba n ((List.range n).map S.vat)) λu h=>Rd.own h;have:c.n=n/\c.vat=S.vat:=by subst hc;exact⟨rfl,rfl⟩
    rw[this.1,this.2];exact h2
   have aj:v<n:=by subst hc;exact hv
   have ho:=H4.lists.own v aj;obtain⟨B,cc,e1,e2,e3⟩:=Jy ho;have:c.vat v=S.vat v:=by subst hc;rfl
   refine⟨B,cc,by rw[this,e1,ef],?_⟩;rw[c9,ef];refine(Jxj ho (aa ho rfl rfl rfl)).imp λu h=>?_;rw[e1]at h;exact Rd.own h
  have d7:YC c (λl u=>Y h0 l u/\h0<=u.heap.size) (λk=>bx' k∨h0<=k):=by
   refine⟨λk Z=>(bw k).2 (by rcases Z with h|h;(exact .inl h);exact .inr (.inl h)),λk Z h=>?_,λl u u' h hg=>⟨hY.keep _ _ _ _ h.1 (hg.mono λk _ Z=>?_),Nat.le_trans h.2 hg.size⟩,bh,first,bi,by subst hc;rfl,λl u vr z h hr hl=>?_⟩
   .have o:=b9 k ((d8 k).1 h);rcases Z with h2|h2
    .exact cj k o.1 h2
    omega
   .have o:=b9 k ((d8 k).1 Z);exact o
   refine(d6 h0 l u vr z h.2 h.1 hr hl).mono ?_;rintro r u' ⟨o,h2,h3⟩;exact⟨o,⟨h2,Nat.le_trans h.2 h3.size⟩,h3⟩
  have e0:c.n=n:=by subst hc;rfl
  have e4:c.m=ts.length:=by subst hc;rfl
  have ei:Cfg c (λl u=>Y h0 l u/\h0<=u.heap.size) w4 (List.replicate n V0) (λi=>lv (c.vars i) 0) (λ_=>0) (λ_=>0) (λ_ _=>0) (λ_ _=>0) []:=by
   refine⟨da,λi hi=>⟨0,?_⟩,?_,by rw[e0];simp,⟨0,?_⟩,by rw[br];exact hY0 w4 a5,by rw[br];exact nR _⟩
   .simp only[Jwd];rw[e4]at hi;have:=H4.its i hi;subst hc;exact this
   .have:=H4.row;subst hc;exact this
   have:=H4.jb;subst hc;exact this
  have cp:∀ x,c.Ans x↔Zc n ts.length vars rs x:=λx=>by subst hc;exact Iff.rfl
  have ed:Pth c 0 (List.replicate n V0) (λ_=>0) (λ_=>0):=by
   refine⟨λi hi=>?_,λi hi h=>?_⟩
   .rw[Jwd,Uq,if_pos rfl,List.take_zero]
   rw[Jwd]at h;omega
  have b7:c.J=J:=by subst hc;rfl
  refine ρ ?_;have ch:=Xxp bb d7 (λl o h2=>hcap l o λx hx=>(cp x).1 (h2 x hx)) n 0 (List.replicate n V0) (λ_=>0) (λ_=>0) (λ_ _=>0) (λ_ _=>0) [] w4 (by rw[e0];omega) ei ed List.Pairwise.nil (λx hx=>by cases hx) (λx hx=>by cases hx);rw[b7]at ch;refine cl ch ?_;rintro u w5 ⟨rfl,d3,z5,f5,h5,l5,H5,_,_,dt,f4⟩;have b8:w5.ownsRow w.heap.size 280 1 S.va ts.length ((List.range ts.length).map λj=>itp (S.G j)):=by
   have o:=H4.all;rw[List.length_map,List.length_range]at o;exact Js o d3 (aa H4.all rfl rfl rfl)
  obtain⟨VA,vc,eo,_,_⟩:=Jy b8;rw[eo]at b8 ⊢;have cz:Off c.N w5 (λu=>Rd u 1 VA ts.length ((List.range ts.length).map λj=>itp (S.G j))):=by
   refine(Jxj b8 λg eg=>?_).imp λu h=>Rd.own h;exact aa H4.all rfl rfl rfl g (by rw[eo];exact eg)
  refine ρ ?_;refine Qf (fun (i:Nat)=>[(8,.pointer (some ⟨J,0,none⟩)),(104,.slice VA ts.length vc),(105,.int .i64 (ts.length:Int)),(106,.int .i64 (i:Int))])
   (λi w'=>i<=ts.length/\GrN c.N w5 w'/\Cfg c (λl u=>Y h0 l u/\h0<=u.heap.size) w' z5 (λi=>lv (c.vars i) 0) (λ_=>0) (λ_=>0) f5 h5 l5) (λi=>ts.length-i) 0 sB ⟨Nat.zero_le _,GrN.refl _ _,H5⟩ ?_
  rintro i w6 ⟨hi,bs,H6⟩;refine ρ ?_;refine ci (λh=>?_) (λh=>?_)
  .have li:i<ts.length:=by have:=oT h;omega
   clear h;have e9:=cz w6 bs;refine ρ ?_;refine ix i e9 li ?_;refine ρ ?_;refine ld (e9.cell (show((List.range ts.length).map λj=>itp (S.G j))[i]?=some (.pointer (some ⟨S.G i,0,none⟩)) by simp[li,itp])) ?_;obtain⟨sj,bc⟩:=H6.jb;rw[b7]at bc;refine ρ ?_;refine drN (λ_=>False) 10 [(0,0),(0,1),(0,2),(0,3),(0,4),(1,5),(0,6),(0,7),(0,8),(2,9)] kr ?_;have ao:Ext w6 w6.drew:=(Ext.refl w6).drew;have ep:=H6.ext d7 ao;have a4:=bc.ext ao;obtain⟨si,eh⟩:=ep.its i (by rw[e4];exact li);have fd:c.F.G i=S.G i:=by subst hc;rfl
   rw[fd]at eh;refine ρn ?_;refine nld (Jl (a4.at (i:=2) rfl) (λe=>e)) ?_;refine ρn ?_;refine nop ?_;refine cl (Xjq eh) ?_;rintro u w7 ⟨rfl,rfl⟩;refine ρ ?_;refine Jm (GrN.refl _ _) ?_;refine ρn ?_;refine Xh ?_;refine sto (p:=⟨J,2,none⟩) (a4.cell 2) (a4.frozen _) ?_;rw[<-b7]at a4;obtain⟨H8,dv⟩:=ep.steps bb d7 a4 (IntKind.i64.wrap (sj+si));rw[b7]at H8 dv;refine ω5 ?_;refine Ug ?_;refine ρn ?_;refine ρ ?_;exact Qw (i+1) sO ⟨om,(bs.trans (GrN.ext ao)).trans (dv.mono λk _ Z=>bb.sub k Z),H8⟩ om
  clear h;obtain⟨sj,bc⟩:=H6.jb;rw[b7]at bc;refine ρ ?_;refine ld (bc.at (i:=2) rfl) ?_;refine ρ ?_;refine Vo ⟨GrN.cut a5 (d3.trans bs) λk Z h=>?_,sj,h0,l5,rfl,H6.y.2,H6.y.1,dt,λx=>?_⟩
  .rcases(bw k).1 h with o|o|o
   .exact o
   .have:=a5.size;omega
   have:=(b9 k o).1;omega
  rw[f4,<-cp x];constructor
  .rintro(o|o)
   .cases o
   exact o.1
  intro o;exact .inr ⟨o,rfl⟩
 intro rest;refine gtwo 1 3 kr rfl rfl rfl ?_ ?_
 .refine ρ ?_;refine mkn EV n om (by unfold maxLen;omega) ?_;intro w2 A2 a1 bp _;refine Jc (Qzf a1 ?_);refine gpre (fuel':=3) [(1,3)] #[true,true,true,true,true,false,false,false] kr kr rfl ?_;refine Jqk ?_;refine mkn EIts n om (by unfold maxLen;omega) ?_;intro w3 A3 C bo _;refine Jc (Jqj C ?_);refine Kr (Jcp ?_);refine rest (A2,A3) _ _ ⟨a1.trans C,?_,?_⟩ sB
  .rw[Vv,List.length_replicate,<-Jgh];exact Jk bp C
  rw[Jnv]at bo;exact Jbh bo a1.size
 refine ρ ?_;refine mkn EIts n om (by unfold maxLen;omega) ?_;intro w2 A2 a1 bp _;refine Jc (Qzf a1 ?_);refine gpre (fuel':=3) [(1,1)] #[true,true,true,true,true,false,false,false] kr kr rfl ?_;refine Jqk ?_;refine mkn EV n om (by unfold maxLen;omega) ?_;intro w3 A3 C bo _;refine Jc (Jqj C ?_);refine Kr (Jcp ?_);refine rest (A3,A2) _ _ ⟨a1.trans C,?_,?_⟩ sB
 .rw[Vv,List.length_replicate,<-Jgh];exact Jbh bo a1.size
 rw[Jnv]at bp;exact Jk bp C
end Go.Proofs.YtbcdghbonlifdaaGreatDoor
namespace Go.Wk
open Go.RowKit
variable {d n t t2 ty:Nat}
theorem fnl{P:Program}{al:AL}{w:World}{Q:Exit->Act->World->Prop}{ops:Array Oper}{rest:List Oper}{pos:String}{aft:Array Edge}{tt:TT}[h:Tab P tt]{x:Operand}{k:TK}{ps rs:Array TypeId}{va:Bool}{f:Fn}{first cap:Array Value}(kk:WL P n ops Q rest ((d,.bool false)::al) w)(ht:tk tt t=some k:=by rfl)(hk:k.desc=.func ps rs va:=by rfl)(hx:ev al x=some (.func f first cap):=by rfl)(hd:Nat.blt d n=true:=by rfl):
  WL P n ops Q (⟨some d,.binOp .eql t x (.const .nilFunc) t2,ty,pos,aft,none⟩::rest) al w :=
 wop hd (λa u=>by
  have o:=Vr h.ok ht hk rfl;have D:a.eval (.const .nilFunc)=.nilFunc:=rfl;have C:∀ d:Nat,(Op.equalIn (d+1) t (.func f first cap) .nilFunc).run P w=.ok false w:=λd=>by simp[Op.equalIn,run_underlying o]
  simp[execOp,u.ev hx,D,eqGuard,binOp,Op.equal,Op.maxDepth,C 9999]) kk
end Go.Wk
namespace Go.Proofs.YtbcdghbonlifdaaGreatDoor
open Go.RowKit Pl Go.Wk
attribute [local irreducible] WC WL QX WD WDB WP WN WG
variable {b ca n s:Nat}{Y:Nat->List Row->World->Prop}{yv:Value}
structure YZ(s:Nat)(yv:Value)(bx:Nat->Prop)(Y:Nat->List Row->World->Prop): Prop where
 keep:∀ base l w w',Y base l w->GrN (λk=>s<=k/\k<base) w w'->Y base l w'
 call:∃ fid first cap,yv=.func (.func fid) first cap/\∀ base l w w1 vr z,base<=w.heap.size->Y base l w->Ext w w1->RowX w1 (λk=>k<w.heap.size) vr z->l.length<65536->Ret Tryz.prog fid (first.toList++[vr]++cap.toList) w1 λr w'=>r=.bool true/\Y base (l++[z]) w'/\GrN (λk=>bx k∨base<=k) w1 w'
theorem Xzc{bx:Nat->Prop}(hY:YZ s yv bx Y)(hb:s<=b)(hbx:∀ k,bx k->k<s):
  YS (b+1) (.func (.func 168) #[] #[.pointer (some ⟨b,0,none⟩)]) bx (λbase l w=>(Y base l w/\Blk w b 213 [yv])/\b<base):=by
 obtain⟨a6,first,a7,a1,D⟩:=hY.call;subst a1;refine⟨λbase l w w' h O=>⟨⟨hY.keep _ _ _ _ h.1.1 (O.mono λk _ hk=>⟨om,hk.2⟩),Jv h.1.2 O (λhk=>om)⟩,h.2⟩,_,_,_,rfl,λbase l w vr z G h hr hl=>?_⟩;obtain⟨⟨hy,hB⟩,a4⟩:=h;have Z:¬ (bx b∨base<=b):=by grind
 refine Jz Tryz.func168 Tryz.ntmps168 rfl kr rfl ?_;refine ρ ?_;refine drN (λk=>bx k∨base<=k) 8 [(0,0),(0,1),(1,2),(1,3),(0,4)] kr ?_;have o:Ext w w.drew:=(Ext.refl w).drew;have a5:=hB.ext o;have a2:=hY.keep _ _ _ _ hy (GrN.ext o);refine ρn ?_;refine nld (Jl (a5.at (i:=0) rfl) Z) ?_;refine ρn ?_;refine nop ?_;refine cl (Jvj (hr.ext o) (λk=>k<w.drew.heap.size) (λk hk=>hk)) ?_;rintro u w1 ⟨hu,C⟩;refine ρ ?_;refine Jm (GrN.ext C) ?_;refine nop ?_;refine clv (D base l w.drew w1 u z G a2 C hu hl) ?_;rintro r w2 ⟨rfl,a3,J⟩;refine ρ ?_;refine Jm J ?_;refine ρn ?_;refine ρ ?_;have O:GrN (λk=>bx k∨base<=k) w w2:=(GrN.ext (o.trans C)).trans J;exact Jj ⟨rfl,⟨⟨a3,Jv hB O Z⟩,a4⟩,O⟩
theorem Xzb{w:World}{ts:List TA}{Aa:Option Addr}{vars:Nat->List Nat}{rs:Nat->List Row}{bx':Nat->Prop}(hok:RunOk n ts vars rs)(hR:Rd w 3 Aa ts.length (atC ts))(hle:ts.length<=ca)(hat:∀ p∈ts,AtV w p.1 p.2)(hchk:Jvk n (ts.map (·.2)))(hbx:∀ k,bx' k->k<w.heap.size)(hY:YZ w.heap.size yv bx' Y)(hY0:∀ w',Ext w w'->Y w'.heap.size [] w')(hcap:∀ l:List Row,Lt [] l->(∀ x∈l,Zc n ts.length vars rs x)->l.length<=65536):
  Ret Tryz.prog 143 [.int .i64 (n:Int),yv,.slice Aa ts.length ca] w λu w'=>GrN bx' w w'/\∃ st base l,u=.tuple #[.int .i64 st,.int .i64 0]/\w.heap.size<=base/\base<=w'.heap.size/\Y base l w'/\Lt [] l/\∀ x,x∈l↔Zc n ts.length vars rs x:=by
 have a5:=hok.m32;obtain⟨a3,first,a4,a1,_⟩:=hY.call;subst a1;refine Jz Tryz.func143 Tryz.ntmps143 rfl kr rfl ?_;refine ρ ?_;refine bx ?_;intro w1 b C hb hB;refine ρ ?_;refine cl (Jhv (n:=(n:Int)) (ats:=ts.map (·.2)) ⟨ts,Aa,ca,rfl,rfl,hle,om,hR.ext C,λp hp=>(hat p hp).ext C⟩) ?_
 rintro u w2 ⟨J,e,rfl,he⟩;have e0:=he.2 hchk;subst e0;have G:=hB.ext J;refine ρ ?_;refine ld (G.at (i:=0) rfl) ?_;refine ρ ?_;refine fnl ?_;have o:=C.trans J;have a6:b+1<=w2.heap.size:=G.lt;refine ρ ?_;refine cl (Qln (bx':=bx') (Y:=λbase l w=>(Y base l w/\Blk w b 213 [.func (.func a3) first a4])/\b<base) hok (hR.ext o) (λp hp=>(hat p hp).ext o) (λk O=>nM (hbx k O) o.size) ?_ (λw' D=>⟨⟨hY0 w' (o.trans D),G.ext D⟩,by have:=D.size;omega⟩) hcap) ?_
 .have Z:=Xzc hY hb hbx;exact⟨λbase l u u' h hg=>Z.keep base l u u' h (hg.mono λk _ O=>⟨om,O.2⟩),Z.call⟩
 rintro u w3 ⟨a2,st,base,l,rfl,Z,⟨⟨h2,_⟩,h3⟩,h4,h5⟩;refine ρ ?_;exact Vo ⟨GrN.cut o a2 λk _ O=>O,st,base,l,rfl,om,Z,h2,h4,h5⟩
end Go.Proofs.YtbcdghbonlifdaaGreatDoor
namespace Go.Wk
open Go.RowKit
variable {e:Act}{parts:Array (Nat×Operand)}{pw:Array (Nat×Value)}{a b:Int}{k1 k2:IntKind}{vs:List Value}{i s t v:Nat}{x y:Operand}{yt:TypeId}
section
variable {N:Nat->Prop} {P:Program} {n:Nat} {al:AL} {w:World} {Q:Exit->Act->World->Prop} {ops:Array Oper} {rest:List Oper} {drest:List (Nat×Oper)}
variable {d ty:Nat} {pos:String} {aft:Array Edge}
theorem Jtj{t:TypeId}(hx:ev al x=some (.int k1 a))(hy:ev al y=some (.int k2 b))(h0:0<=b)(he:Fr n al e)(dst:Option Nat)(w:World):
  (execOp e.eval ⟨dst,.binOp .shr t x y yt,ty,pos,aft,none⟩).run P w=.ok (.value (.int k1 (a.fdiv (2^(min b.toNat k1.bits))))) w:=by
 have o:¬ b<0:=om
 simp[execOp,he.ev hx,he.ev hy,eqGuard,binOp,Op.shift,o]
theorem Jkh{t:TypeId}(hx:ev al x=some (.int k1 a))(hy:ev al y=some (.int k2 b))(h0:0<=b)(he:Fr n al e)(dst:Option Nat)(w:World):
  (execOp e.eval ⟨dst,.binOp .shl t x y yt,ty,pos,aft,none⟩).run P w=.ok (.value (.int k1 (k1.wrap (a*2^(min b.toNat k1.bits))))) w:=by
 have o:¬ b<0:=om
 simp[execOp,he.ev hx,he.ev hy,eqGuard,binOp,Op.shift,o]
theorem Jtb(s v:Nat)(hv:v<=32): ((s:Int)).fdiv (2^(min ((v:Nat):Int).toNat 32))=((s / 2^v:Nat):Int):=by grind
theorem Kd(hv:v<32): 2^v<4294967296:=nM (Nat.pow_lt_pow_right (by decide:1<2) hv) (by decide)
theorem Jyv(hv:v<32): IntKind.u32.wrap (1*2^(min ((v:Nat):Int).toNat 32))=((2^v:Nat):Int):=by
 have h:=Kd hv;rw[Int.toNat_natCast,Nat.min_eq_left om,Int.one_mul];have:((2:Int)^v)=((2^v:Nat):Int):=by simp
 rw[this,IntKind.wrap_u32];grind
theorem Iw{t:TypeId}(hv:v<=32)(kk:WL P n ops Q rest ((d,.int .u32 ((s / 2^v:Nat):Int))::al) w)(hx:ev al x=some (.int .u32 (s:Int)):=by rfl)(hy:ev al y=some (.int .i64 (v:Int)):=by rfl)(hd:Nat.blt d n=true:=by rfl):
  WL P n ops Q (⟨some d,.binOp .shr t x y yt,ty,pos,aft,none⟩::rest) al w:=by
 rw[<-Jtb s v hv]at kk;exact wop hd (λa o=>Jtj hx hy om o (some d) w) kk
theorem sl32{t:TypeId}(hv:v<32)(kk:WL P n ops Q rest ((d,.int .u32 ((2^v:Nat):Int))::al) w)(hy:ev al y=some (.int .i64 (v:Int)):=by rfl)(hd:Nat.blt d n=true:=by rfl):
  WL P n ops Q (⟨some d,.binOp .shl t (.const (.int .u32 1)) y yt,ty,pos,aft,none⟩::rest) al w:=by
 rw[<-Jyv hv]at kk;exact wop hd (λa o=>Jkh (x:=.const (.int .u32 1)) rfl hy om o (some d) w) kk
theorem dsl32{t:TypeId}(hv:v<32)(kk:WD P n ops Q drest ((d,.int .u32 ((2^v:Nat):Int))::al) w)(hy:ev al y=some (.int .i64 (v:Int)):=by rfl)(hd:Nat.blt d n=true:=by rfl):
  WD P n ops Q ((0,⟨some d,.binOp .shl t (.const (.int .u32 1)) y yt,ty,pos,aft,none⟩)::drest) al w:=by
 rw[<-Jyv hv]at kk;exact dy (λw' _ a o=>Jkh (x:=.const (.int .u32 1)) rfl hy om o (some d) w') hd kk
theorem Jhf{t:TypeId}(hv:v<32)(kk:WN N P n ops Q drest ((d,.int .u32 ((2^v:Nat):Int))::al) w)(hy:ev al y=some (.int .i64 (v:Int)):=by rfl)(hd:Nat.blt d n=true:=by rfl):
  WN N P n ops Q ((0,⟨some d,.binOp .shl t (.const (.int .u32 1)) y yt,ty,pos,aft,none⟩)::drest) al w:=by
 rw[<-Jyv hv]at kk;exact ny_ (λw' _ a o=>Jkh (x:=.const (.int .u32 1)) rfl hy om o (some d) w') hd kk
end
section
variable {N:Nat->Prop} {P:Program} {n:Nat} {al:AL} {w:World} {Q:Exit->Act->World->Prop} {ops:Array Oper} {drest:List (Nat×Oper)}
variable {d ty:Nat} {pos:String} {aft:Array Edge}
theorem Jtp{v:Value}(hb:∀ w,(Instr.build t pw).run P w=.ok v w)(hx:evs al (parts.toList.map (·.2))=some vs)(hp:((parts.toList.map (·.1)).zip vs).toArray=pw){a:Act}(ha:Fr n al a)(dst:Option Nat)(w:World):
  (execOp a.eval ⟨dst,.build t parts,ty,pos,aft,none⟩).run P w=.ok (.value v) w:=by
 subst hp;have u:=ha.evs hx;have o:(parts.map fun (i,x)=>(i,a.eval x))=((parts.toList.map (·.1)).zip vs).toArray:=by grind
 simp only[execOp,o,Sem.run_bind,hb w];rfl
theorem Ig{v:Value}(hb:∀ w,(Instr.build t pw).run P w=.ok v w)(kk:WN N P n ops Q drest ((d,v)::al) w)(hx:evs al (parts.toList.map (·.2))=some vs:=by rfl)(hp:((parts.toList.map (·.1)).zip vs).toArray=pw:=by rfl)(hd:Nat.blt d n=true:=by rfl): WN N P n ops Q ((0,⟨some d,.build t parts,ty,pos,aft,none⟩)::drest) al w :=
 ny_ (λw' _ a o=>Jtp hb hx hp o (some d) w') hd kk
theorem dbld{v:Value}(hb:∀ w,(Instr.build t pw).run P w=.ok v w)(kk:WD P n ops Q drest ((d,v)::al) w)(hx:evs al (parts.toList.map (·.2))=some vs:=by rfl)(hp:((parts.toList.map (·.1)).zip vs).toArray=pw:=by rfl)(hd:Nat.blt d n=true:=by rfl): WD P n ops Q ((0,⟨some d,.build t parts,ty,pos,aft,none⟩)::drest) al w :=
 dy (λw' _ a o=>Jtp hb hx hp o (some d) w') hd kk
end
theorem Gd(hs:s<4294967296): (bits .and .u32 ((s / 2^v:Nat):Int) 1 == 1)=s.testBit v:=by
 have o:s / 2^v<4294967296:=Nat.lt_of_le_of_lt (Nat.div_le_self _ _) hs;have u:=u32_and_nat (s / 2^v) 1 o om;grind
theorem Qyx(hs:s<4294967296): (bits .and .u32 ((s / 2^v:Nat):Int) 1 == 0) = !s.testBit v:=by
 have o:s / 2^v<4294967296:=Nat.lt_of_le_of_lt (Nat.div_le_self _ _) hs;have u:=u32_and_nat (s / 2^v) 1 o om;grind
def Kj(s t:Nat): Nat:=s &&& (4294967295-t)
theorem Qbr(hs:s<4294967296): Kj s t<4294967296:=by grind [Kj,Nat.lt_of_le_of_lt,Nat.and_le_left]
theorem Jnn(hs:s<4294967296)(ht:t<4294967296): (Kj s t).testBit i=(s.testBit i && !t.testBit i):=by
 unfold Kj;have e:4294967295-t=2^32-(t+1):=om
 rw[Nat.testBit_and,e,Nat.testBit_two_pow_sub_succ om];by_cases hi:i<32
 .grind
 have:s.testBit i=false:=Nat.testBit_lt_two_pow (nM hs (Nat.pow_le_pow_right (n:=2) (by decide) (show 32<=i by omega)));rw[this];rfl
theorem Jnb(hs:s<4294967296)(ht:t<4294967296): bits .andNot .u32 (s:Int) (t:Int)=((Kj s t:Nat):Int):=u32_andNot_nat s t hs ht
theorem Jjc(hs:s<4294967296)(ht:t<4294967296): bits .or .u32 (s:Int) (t:Int)=((s ||| t:Nat):Int):=u32_or_nat s t hs ht
theorem Jbj(hs:s<4294967296)(ht:t<4294967296): s ||| t<4294967296:=Nat.or_lt_two_pow (n:=32) hs ht
end Go.Wk
namespace Go.Proofs.YtbcdghbonlifdaaGreatDoor
open Go.RowKit Pl Go.Wk
attribute [local irreducible] WC WL QX WD WDB WP WN WG
variable {cs vars:List Nat}{b base c d k n s ty z:Nat}{w:World}
def Qe(vars:List Nat)(s:Nat): List Nat:=(List.range vars.length).filter λi=>s.testBit (vars.getD i 0)
def inS(vars:List Nat)(s:Nat): List Nat:=vars.filter λv=>s.testBit v
theorem Jzj(h:c∈Qe vars s): c<vars.length:=List.mem_range.1 (List.mem_filter.1 h).1
theorem Qmr(h:k<=n): (List.range n).take k=List.range k:=by grind
def Zx(vars:List Nat)(s k:Nat): List Nat:=(List.range k).filter λi=>s.testBit (vars.getD i 0)
theorem Ks(vars:List Nat)(s k:Nat): Zx vars s (k+1)=Zx vars s k++if s.testBit (vars.getD k 0) then[k] else[]:=by grind [Zx,List.range_succ]
theorem Jwm(h:k<vars.length): inS (vars.take (k+1)) s=inS (vars.take k) s++if s.testBit (vars.getD k 0) then[vars.getD k 0] else[]:=by grind [inS,Qc,List.filter_cons_of_pos,List.filter_cons_of_neg]
theorem Jvf(vars:List Nat)(s:Nat): ∀ k,k<=vars.length->(Zx vars s k).length=(inS (vars.take k) s).length
 | 0,_=>by simp[Zx,inS]
 | k+1,h=>by
  rw[Ks,Jwm om,List.length_append,List.length_append,Jvf vars s k om];split<;>rfl
theorem Qjx(vars:List Nat)(s:Nat)(z:Row): ∀ k,k<=vars.length->pmR (Zx vars s k) (pmR vars z)=pmR (inS (vars.take k) s) z
 | 0,_=>by simp[Zx,inS,pmR]
 | k+1,h=>by
  have ih:=Qjx vars s z k om;rw[Ks,Jwm om];unfold pmR at *;grind
theorem bs1Int''(z:Int)(w:World): (Instr.buildSlice 39 1 #[(0,.int .i64 z)]).run Tryz.prog w=.ok (.slice (some ⟨w.heap.size,0,none⟩) 1 1) (w.alloc (.cells [.int .i64 z].toArray 3)):=kr
theorem Qqp(a b:List Nat): nz (a++b)=nz a++nz b:=by simp[nz]
theorem Qzv(a b:List Int): Jp (a++b)=Jp a++Jp b:=by simp[Jp]
abbrev Zb(w:World)(base:Nat)(v:Value)(cs:List Nat): Prop:=w.ownsRow base 3 1 v cs.length (Jp (nz cs))
theorem apI{al:AL}{Q:Exit->Act->World->Prop}{ops:Array Oper}{rest:List Oper}{pos:String}{aft:Array Edge}{x y:Operand}{v:Value}(ho:Zb w base v cs)(hb:Blk w b 3 [.int .i64 (z:Int)])(hm:cs.length<=1100000)(hbase:base<=w.heap.size)(kk:∀ v' w',Zb w' base v' (cs++[z])->w.grownBy w' v.ownBlock->(∀ g,v'.ownBlock=some g->v.ownBlock=some g∨w.heap.size<=g)->WL Tryz.prog n ops Q rest ((d,v')::al) w')(hx:ev al x=some v:=by rfl)(hy:ev al y=some (.slice (some ⟨b,0,none⟩) 1 1):=by rfl)(hd:Nat.blt d n=true:=by rfl):
  WL Tryz.prog n ops Q (⟨some d,.call { callee:=.builtin .append,args:=#[x,y],argTypes:=#[39,39] },ty,pos,aft,none⟩::rest) al w:=by
 refine apb (base:=base) EI ho (hb.rd (n:=1) rfl) (λu C=>by rw[List.mem_singleton.1 C];rfl) (by unfold maxLen;omega) om hbase ?_ hx hy hd;intro v' w' o D hn;refine kk v' w' ?_ D hn;rw[Zb,List.length_append,Qqp,Qzv];exact o
theorem Xyg{t:V3}{rs:List Row}(hA:AtV w t ⟨nz vars,vars.length,rs⟩)(hs:s<4294967296)(hasc:Ql vars)(hlt:∀ v∈vars,v<32)(hlen:∀ r∈rs,r.length=vars.length)(hbig:rs.length<=65536):
  Ret Tryz.prog 142 [.agg t.cells.toArray,.int .u32 (s:Int)] w λu w'=>Ext w w'/\∃ t':V3,u=.tuple #[.agg t'.cells.toArray,.int .i64 0]/\∃ m,Off (λk=>k<w.heap.size) w' (λx=>AtV x t' ⟨nz (inS vars s),(inS vars s).length,m⟩)/\m.length<=65536/\(∀ x∈m,x∈rs.map (pmR (Qe vars s))) /\
   ((rs.length<=1000∨Srt [] (rs.map (pmR (Qe vars s))))->Zz [] (rs.map (pmR (Qe vars s))) m):=by
 obtain⟨t1,t2,t3⟩:=t;obtain⟨⟨D,d,e1,hd,dd,ch⟩,e2,bf⟩:=id hA;simp only at e1 e2;subst e1;subst e2;obtain⟨ps,G,gc,_,c9,_⟩:=id bf;simp only at c9;subst c9;have d6:=Je vars;have dm:=Jvp hasc hlt;refine Jz Tryz.func142 Tryz.ntmps142 rfl kr rfl ?_;refine ρ ?_;refine bx ?_;intro w1 b c6 hb hB;refine ρ ?_;refine alc Yk ?_;intro w2 br c4 dv bo;have bw:=hB.ext c4;have ay:=c6.trans c4;have ak:Rd w 1 D (nz vars).length (Jp (nz vars)):=ch;clear ch hd dd;have mono:∀ i,1<=i->i<vars.length->vars.getD (i-1) 0<vars.getD i 0:=λi h1 h2=>by
  have:=List.pairwise_iff_getElem.1 hasc (i-1) i om h2 om;simpa [List.getD,List.getElem?_eq_getElem h2,List.getElem?_eq_getElem (show i-1<vars.length by omega)] using this
 have b1:∀ i,i<vars.length->vars.getD i 0<32:=λi hi=>hlt _ (getD_mem' 0 _ hi);refine ρ ?_;refine Qf (fun (i:Nat)=>[(1,.int .u32 (s:Int)),(2,.pointer (some ⟨b,0,none⟩)),(4,.pointer (some ⟨br,0,none⟩)),(6,.int .i64 (i:Int))])
  (λi w'=>1<=i/\i<=1000/\Ext w2 w') (λi=>1000-i) 1 sB ⟨nR _,om,Ext.refl _⟩ ?_
 rintro i w3 ⟨db,du,ag⟩;have ax:=bw.ext ag;refine ρ ?_;refine ld (ax.at (i:=0) rfl) ?_;refine ρ ?_;refine ci (λh=>?_) (λh=>?_)
 .have li:i<vars.length:=by have:=oT h;omega
  clear h;have bb:Ext w3 w3.drew:=(Ext.refl w3).drew;have cy:=ax.ext bb;have au:=ak.ext ((ay.trans ag).trans bb);refine ρ ?_;refine dr [(0,0),(0,1),(0,2),(0,3),(0,4),(0,5),(0,6),(0,7),(0,8),(0,9),(0,10),(0,11)] kr ?_;refine ρd ?_;refine dld (cy.at (i:=0) rfl) ?_;refine ρd ?_;refine dix (i-1) au om ?_;refine ρd ?_;refine dld (au.cell (Xt (show i-1<vars.length by omega))) ?_;refine ρd ?_;refine dld (cy.at (i:=0) rfl) ?_;refine ρd ?_;refine dix i au om ?_;refine ρd ?_;refine dld (au.cell (Xt li)) ?_;refine ρd ?_;refine ρ ?_;refine cf ?_ ?_
  .exact dF (by have:=mono i db li;omega)
  refine ρ ?_;exact Qw (i+1) sO ⟨om,om,ag.trans bb⟩ om
 clear h;refine ρ ?_;refine ld (ax.at (i:=0) rfl) ?_;refine ρ ?_;refine Qf (fun (i:Nat)=>[(1,.int .u32 (s:Int)),(2,.pointer (some ⟨b,0,none⟩)),(4,.pointer (some ⟨br,0,none⟩)),(36,.slice D (nz vars).length d),(37,.int .i64 ((nz vars).length:Int)),(38,.int .i64 (i:Int))])
  (λi w'=>i<=vars.length/\Ext w3 w') (λi=>vars.length-i) 0 sB ⟨Nat.zero_le _,Ext.refl _⟩ ?_
 rintro i w4 ⟨hi,ap⟩;have af:=(ay.trans ag).trans ap;have dj:=ax.ext ap;refine ρ ?_;refine ci (λh=>?_) (λh=>?_)
 .have li:i<vars.length:=by have:=oT h;omega
  clear h;have cr:=ak.ext af;refine ρ ?_;refine ix i cr om ?_;refine ρ ?_;refine ld (cr.cell (Xt li)) ?_;refine ρ ?_;refine cf ?_ ?_
  .exact dF (by have:=b1 i li;omega)
  refine ρ ?_;exact Qw (i+1) sO ⟨om,ap⟩ om
 have dc:i=vars.length:=by have:=oF h;omega
 clear h hi dc;have aa:Ext w4 w4.drew:=(Ext.refl w4).drew;have b6:=dj.ext aa;refine ρ ?_;refine dr [(0,0),(0,1),(0,2),(0,3),(0,4),(1,5),(0,6)] kr ?_;refine ρd ?_;refine dld (b6.at (i:=0) rfl) ?_;refine ρd ?_;refine Jo (cs:=[.int .i64 (vars.length:Int),.slice G ps.length gc]) (b6.sub2 (i:=1) rfl rfl) ?_;refine ρd ?_;refine dcl (Jgs ((hA.ext (af.trans aa)).rel)) ?_;rintro u w5 ⟨rfl,be⟩;refine⟨be,?_⟩;refine ρd ?_;refine ρ ?_;refine cf ?_ ?_
 .exact Qyq (by rw[d6])
 have ae:=(af.trans aa).trans be;have a8:Ext w2 w5:=((ag.trans ap).trans aa).trans be;refine ρ ?_;refine alc Yk ?_;intro w6 bq bd dw cx;have bs:=(bw.ext a8).ext bd;have c2:=ae.trans bd;have b5:=(bo.ext a8).ext bd;refine ρ ?_;refine ld (bs.at (i:=0) rfl) ?_;refine ρ ?_;refine Xm (fun (k:Nat) (vv vc:Value)=>[(1,.int .u32 (s:Int)),(2,.pointer (some ⟨b,0,none⟩)),(4,.pointer (some ⟨br,0,none⟩)),(9,.pointer (some ⟨bq,0,none⟩)),(10,vc),(59,.slice D (nz vars).length d),(60,.int .i64 ((nz vars).length:Int)),(61,.int .i64 (k:Int))])
  (λk vv vc w'=>k<=vars.length/\Ext w w'/\Blk w' b 100 [.slice D (nz vars).length d,.int .i64 (vars.length:Int),.slice G ps.length gc]/\Blk w' br 100 [.slice none 0 0,.int .i64 0,.slice none 0 0]/\Blk w' bq 100 [vv,.int .i64 0,.slice none 0 0] /\
   Zb w' w.heap.size vv (inS (vars.take k) s)/\Zb w' w.heap.size vc (Zx vars s k)/\∀ g,vv.ownBlock=some g->vc.ownBlock≠some g) (λk _ _=>vars.length-k) 0 (.slice none 0 0) (.slice none 0 0) sB
  ⟨Nat.zero_le _,c2,bs,b5,cx,Zj _ _ _ _,Zj _ _ _ _,λg e=>(by cases e)⟩ ?_
 clear bs b5 cx;rintro k vv vc w7 ⟨hk,a9,aw,a4,a6,a7,ad,ai⟩;refine ρ ?_;refine ci (λh=>?_) (λh=>?_)
 .have lk:k<vars.length:=by have:=oT h;omega
  clear h;have cq:=ak.ext a9;have cj:=Jvf vars s k om;have dt:(inS (vars.take k) s).length<=32:=by
   have:=List.length_filter_le (λv=>s.testBit v) (vars.take k);rw[List.length_take]at this;unfold inS;omega
  refine ρ ?_;refine ix k cq om ?_;refine ρ ?_;refine ld (cq.cell (Xt lk)) ?_;refine ρ ?_;refine Iw (s:=s) (v:=vars.getD k 0) (by have:=b1 k lk;omega) ?_;refine ρ ?_;refine ci (λh=>?_) (λh=>?_)
  .rw[Gd hs]at h;refine ρ ?_;refine ld (a6.at (i:=0) rfl) ?_;refine ρ ?_;refine bsl (bs1Int'' _) ?_;intro w8 b8 C dx di;refine ρ ?_;refine apI (Jk a7 C) di om (a9.trans C).size ?_;intro a1 w9 aq ac cc;have a2:∀ {w':World} {cs:List Nat} {v:Value},Zb w' w.heap.size v cs->∀ g,v.ownBlock=some g->w.heap.size<=g/\g<w'.heap.size:=λho g J=>by
    obtain⟨_,_,_,_,hf⟩:=Jy ho;exact hf g J
   have ao:Ext w w9:=Qg (a9.trans C) ac (λg J=>(a2 a7 g J).1);have a5:=(a6.ext C).grown ac ((a6.ext C).ne_own (Jk a7 C) rfl);have av:=(aw.ext C).grown ac ((aw.ext C).ne_own (Jk a7 C) rfl);have b4:=(a4.ext C).grown ac ((a4.ext C).ne_own (Jk a7 C) rfl);have bl:Zb w9 w.heap.size vc (Zx vars s k):=Js (Jk ad C) (GrN.by ac λg J=>J) (λg J e=>ai g e J);have b3:∀ g,a1.ownBlock=some g->vc.ownBlock≠some g:=λg J e=>by
    rcases cc g J with h'|h'
    .exact ai g h' e
    have:=(a2 ad g e).2;have:=C.size;omega
   have dk:a1.oneCell'=true:=by obtain⟨_,_,e,_⟩:=Jy aq;rw[e];rfl
   refine ρ ?_;refine sto (p:=⟨bq,0,none⟩) (a5.cell 0) (a5.frozen _) ?_ (hv:=dk);have bg:w9.grownBy (w9.setCell ⟨bq,0,none⟩ a1) (some bq):=Qhz _;have cw:=a5.set 0 a1;have c3:Ext w (w9.setCell ⟨bq,0,none⟩ a1):=ao.setCell (by simp only;have:=ae.size;omega) _;have c8:Zb (w9.setCell ⟨bq,0,none⟩ a1) w.heap.size a1 (inS (vars.take k) s++[vars.getD k 0]):=Js aq (GrN.by bg λg J=>J) (λg J e=>by injection e with e;subst e;exact a5.ne_own aq rfl J.symm);have bi:Zb (w9.setCell ⟨bq,0,none⟩ a1) w.heap.size vc (Zx vars s k):=Js bl (GrN.by bg λg J=>J) (λg J e=>by injection e with e;subst e;exact a5.ne_own bl rfl J.symm);have b7:∀ {x:Nat},x<w5.heap.size->x≠bq:=λh e=>by omega
   have dh:Blk (w9.setCell ⟨bq,0,none⟩ a1) b 100 _:=av.far (b7 (by have:=bw.lt;have:=a8.size;omega)) _;have cv:Blk (w9.setCell ⟨bq,0,none⟩ a1) br 100 _:=b4.far (b7 (by have:=bo.lt;have:=a8.size;omega)) _;generalize w9.setCell ⟨bq,0,none⟩ a1=an at *
   clear a5 av b4 bl ao ac bg aq cc;refine ρ ?_;refine bsl (bs1Int'' _) ?_;intro ba dz Z dq cz;refine ρ ?_;refine apI (Jk bi Z) cz om (c3.trans Z).size ?_;intro c1 ab ck a3 cd;have ah:Ext w ab:=Qg (c3.trans Z) a3 (λg J=>(a2 bi g J).1);have nb:∀ {g:Nat} {cs:List Value},Blk an g 100 cs->Blk ab g 100 cs:=λh=>(h.ext Z).grown a3 ((h.ext Z).ne_own (Jk bi Z) rfl);refine ρ ?_;refine Qp (k+1) a1 c1 sO ⟨om,ah,nb dh,nb cv,nb cw,?_,?_,λg J e=>?_⟩ om
   .rw[Jwm lk,if_pos h];exact Js (Jk c8 Z) (GrN.by a3 λg J=>J) (λg J e=>b3 g J e)
   .rw[Ks,if_pos h];exact ck
   rcases cd g e with h'|h'
   .exact b3 g J h'
   have:=(a2 c8 g J).2;have:=Z.size;omega
  rw[Gd hs]at h;have hf:¬ s.testBit (vars.getD k 0)=true:=by rw[h];simp
  refine ρ ?_;refine Qp (k+1) vv vc sO ⟨om,a9,aw,a4,a6,?_,?_,ai⟩ om
  .rw[Jwm lk,if_neg hf,List.append_nil];exact a7
  rw[Ks,if_neg hf,List.append_nil];exact ad
 have d9:k=vars.length:=by have:=oF h;omega
 subst d9;clear h;rw[List.take_length]at a7;have de:Zx vars s vars.length=Qe vars s:=rfl;rw[de]at ad;obtain⟨VA,d3,bz,d4,_⟩:=Jy a7;obtain⟨CA,dl,d2,df,_⟩:=Jy ad;have bj:(Qe vars s).length<=32:=by
  have:=List.length_filter_le (λi=>s.testBit (vars.getD i 0)) (List.range vars.length);rw[List.length_range]at this;unfold Qe;omega
 have da:(inS vars s).length<=32:=by
  have:=List.length_filter_le (λv=>s.testBit v) vars;unfold inS;omega
 refine ρ ?_;refine lds (cs:=[.int .i64 (vars.length:Int),.slice G ps.length gc]) (aw.sub2 (i:=1) rfl rfl) ?_;refine ρ ?_;have ar:IntsV w7 vc (nz (Qe vars s)):=by
  refine⟨CA,dl,by rw[Je];exact d2,by rw[Je];exact df,by rw[Je];omega,?_⟩;rw[Je];have:=ad;rw[d2]at this;exact Rd.own this
 refine cl (Qjc (cs:=Qe vars s) ((hA.ext a9).rel) ar hlen (λc hc=>Jzj hc) bj hbig) ?_;rintro u w8 ⟨C,rv,rfl,⟨z,RB,rm,rd,rfl⟩,m,cb,d8,d7,ca⟩;refine ρ ?_;refine alc Gh ?_;intro w9 b9 ao dg av;refine ρ ?_;refine stb (cs':=[.int .i64 z,.slice RB rm rd]) av ?_ Yp;intro an d0 dn c5;have O:Ext w8 an:=c5 w8 ao dg;refine ρ ?_;refine ldW d0 ?_;have am:=(a6.ext C).ext O;refine ρ ?_;refine stB (o:=1) (us:=[.int .i64 z,.slice RB rm rd]) am (by simp) Yp ?_;intro ba bp aj;refine ρ ?_;refine ldW bp ?_;have co:w.heap.size<=bq:=by have:=ae.size;omega
 have bc:Ext w ba:=Jcm ((a9.trans C).trans O) aj co;have cn:br≠bq:=by have:=bo.lt;have:=a8.size;omega
 have bn:Blk ba br 100 _:=((a4.ext C).ext O).grown aj (λe=>by injection e with e;exact cn e);refine ρ ?_;refine stb (cs':=[vv,.int .i64 z,.slice RB rm rd]) bn ?_ (λu hu=>by
  simp only[List.mem_cons,List.not_mem_nil,or_false]at hu;rcases hu with rfl|rfl|rfl
  .rw[bz];rfl
  .rfl
  rfl)
 intro ab bm a3 _;refine ρ ?_;have cm:w.heap.size<=br:=by have:=c6.size;omega
 have ah:Ext w ab:=Jcm bc a3 cm;refine Zh bm ⟨ah,(vv,.int .i64 z,.slice RB rm rd),rfl,m,?_,d8,d7,ca⟩;have ce:GrN (λk=>k=bq∨k=br) an ab:=(GrN.by aj λk e=>.inl (by injection e with e;exact e.symm)).trans (GrN.by a3 λk e=>.inr (by injection e with e;exact e.symm));have cp:bq<w7.heap.size/\br<w7.heap.size:=⟨a6.lt,a4.lt⟩;intro w' cg;have bh:GrN (λk=>k<w7.heap.size) w8 w':=((GrN.ext O).trans (ce.mono λk _ hk=>by rcases hk with rfl|rfl;(exact cp.1);exact cp.2)).trans (cg.mono λk _ hk=>nM hk a9.size);obtain⟨rv,d1,d5⟩:=cb w' bh;have b2:(Value.int .i64 z)=.int .i64 ((Qe vars s).length:Int)/\Value.slice RB rm rd=rv:=by
  simp only[Value.agg.injEq,Array.mk.injEq,List.cons.injEq,and_true]at d1;exact d1
 have c7:Zb w' w.heap.size vv (inS vars s):=by
  have h1:=Jk (Jk a7 C) O;have h2:Zb ab w.heap.size vv (inS vars s):=Js h1 ce λg J hk=>by
   rcases hk with rfl|rfl
   .exact am.ne_own h1 rfl J.symm
   exact((a4.ext C).ext O).ne_own h1 rfl J.symm
  refine Js h2 cg λg J hk=>?_;obtain⟨_,_,_,_,hf⟩:=Jy h2;have:=(hf g J).1;omega
 have cj:(Qe vars s).length=(inS vars s).length:=by
  have:=Jvf vars s vars.length (nR _);rw[List.take_length]at this;exact this
 refine⟨⟨VA,d3,by rw[Je];exact bz,by rw[Je];exact d4,by rw[Je];omega,?_⟩,?_,?_⟩
 .rw[Je];rw[bz]at c7;exact Rd.own c7
 .simp only;rw[<-cj];exact b2.1
 simp only;rw[b2.2];exact d5
open Go.RowKit Pl Go.Wk
variable {nums vars:List Nat}{ls rs:List Row}{ar b s:Nat}{w:World}
def RowG(w:World)(cs:List Value)(z:Row): Prop:=∃ v,cs=[v]/\RowV w v z
theorem RowG.ext{w w':World}{cs:List Value}{z:Row}(h:RowG w cs z)(hx:Ext w w'): RowG w' cs z:=by
 obtain⟨v,e,o⟩:=h;exact⟨v,e,o.ext hx⟩
theorem Jtr: ∀(ps:List (List Value×Row)) (w:World),(∀ p∈ps,RowG w p.1 p.2)->∃ qs:List Pr,qs.map (·.2)=ps.map (·.2)/\qs.map (·.1)=Ju ps/\qs.length=ps.length/\∀ q∈qs,RowV w q.1 q.2
 | [],w,_=>⟨[],rfl,rfl,rfl,λq hq=>by cases hq⟩
 | p::ps,w,h=>by
  obtain⟨qs,h1,h2,h3,h4⟩:=Jtr ps w λq hq=>h q (List.mem_cons_of_mem _ hq);obtain⟨v,e,hr⟩:=h p (mC ..);refine⟨(v,p.2)::qs,by simp[h1],?_,by simp[h3],λq hq=>?_⟩;repeat grind [Ju,List.mem_cons.1]
theorem Qlp{v:Value}(h:GV 1 RowG w v ls): RowsV w v ls:=by
 obtain⟨ps,A,c,e,D,C,u,o,hp⟩:=h;obtain⟨G,h1,h2,Z,O⟩:=Jtr ps w λp J=>(hp p J).2;rw[<-Z]at D C u o;exact⟨G,A,c,by rw[e,h1],D,C,u,by rw[h2];exact o,O⟩
def YM(b:Nat)(base:Nat)(l:List Row)(w:World): Prop:=b<base/\∃ v,Blk w b 37 [v]/\OwnG 46 1 RowG w base v l
theorem Qsw(hb:b<s): YZ s (.func (.func 144) #[] #[.pointer (some ⟨b,0,none⟩)]) (λk=>k=b) (YM b):=by
 refine⟨λbase l w w' h hg=>?_,_,_,_,rfl,λbase l w w1 vr z D h hx hr hl=>?_⟩
 .obtain⟨C,v,hB,hO⟩:=h;exact⟨C,v,Jv hB hg (λe=>om),hO.gr hg λk hk=>hk.2⟩
 obtain⟨C,v,hB,hO⟩:=h;have O:=hB.ext hx;have G:=hO.ext hx;obtain⟨RA,rn,rc,a6,_,_,_⟩:∃ A n c,vr=.slice A n c/\True/\True/\True:=by obtain⟨A,c,e,_⟩:=hr;exact⟨A,_,c,e,trivial,trivial,trivial⟩
 refine Jz Tryz.func144 Tryz.ntmps144 rfl kr rfl ?_;refine ρ ?_;refine ld (O.at (i:=0) rfl) ?_;refine ρ ?_;refine bsl (cs:=[vr]) (λw=>Jdb vr w RA rn rc a6) ?_;intro w2 b2 o af ab;obtain⟨_,_,_,_,hf⟩:=G.form;have hΦ:Off (Xq base v) w2 (λu=>RowG u [vr] z):=((hr.off.mono λk hk h=>by
  rcases h with h|h
  .omega
  obtain⟨_,_,_,_,a9⟩:=hO.form;exact(a9 k h).2).imp λu h=>⟨vr,rfl,h⟩).ext o
 refine ρ ?_;refine apG ER (Φ:=RowG) (G.ext o) ab rfl (λu hu=>by rw[List.mem_singleton.1 hu,a6];rfl) hΦ om om (nL D (hx.trans o).size) ?_;intro v3 Z a4 a3 ac;obtain⟨A3,c3,e3,ae,ad⟩:=a4.form;have a1:GrN (λk=>k=b∨base<=k) w1 Z:=(GrN.ext o).trans (GrN.by a3 λk ek=>.inr (hf k ek).1);have a7:some b≠v.ownBlock:=by
  obtain⟨ps,_,ho,_⟩:=G;exact O.ne_own ho rfl
 have J:Blk Z b 37 [v]:=(O.ext o).grown a3 a7;refine ρ ?_;refine sto (p:=⟨b,0,none⟩) (J.cell 0) (J.frozen _) ?_ (hv:=by rw[e3];rfl);have a5:=J.set 0 v3;have a2:GrN (λk=>k=b) Z (Z.setCell ⟨b,0,none⟩ v3):=GrN.set _ rfl;refine ρ ?_;have a8:(l++[z]).length=l.length+1:=by simp
 rw[a8]at e3;refine ld (v:=.slice A3 (l.length+1) c3) ((a5.at (i:=0) rfl).trans (by simp[e3])) ?_;refine ρ ?_;have aa:OwnG 46 1 RowG (Z.setCell ⟨b,0,none⟩ v3) base v3 (l++[z]):=a4.gr a2 λk hk=>by omega
 refine Jj ⟨?_,⟨C,v3,a5,aa⟩,a1.trans (a2.mono λk _ hk=>.inl hk)⟩;rw[decide_eq_true (show((l.length+1:Nat):Int)<=65536 by omega)]
theorem Xvs(z:Int)(A:Option Addr)(n c:Nat)(w:World): (Instr.build 100 #[(1,.agg #[.int .i64 z,.slice A n c])]).run Tryz.prog w=.ok (.agg #[.slice none 0 0,.int .i64 z,.slice A n c]) w:=kr
theorem Qsx{Na:Option Addr}{t:V3}(hA:AtV w t ⟨nz vars,ar,rs⟩)(hB:Blk w b 39 [.slice Na nums.length nums.length])(hN:Rd w 1 Na nums.length (Jp (nz nums)))(hlt:∀ v∈vars,v<nums.length)(hl:vars.length<=1000):
  Ret Tryz.prog 141 [.agg t.cells.toArray,.pointer (some ⟨b,0,none⟩)] w λu w'=>Ext w w'/\∃ v1,u=.agg #[v1,t.2.1,t.2.2]/\Off (λk=>k<w.heap.size) w' (λx=>IntsV x v1 (nz (vars.map λv=>nums.getD v 0))):=by
 obtain⟨t1,t2,t3⟩:=t;obtain⟨⟨D,d,e1,hd,bg,ao⟩,e2,af⟩:=id hA;simp only at e1 e2;subst e1;subst e2;obtain⟨ps,G,gc,_,aj,_⟩:=id af;simp only at aj;subst aj;have bp:=Je vars;have an:Rd w 1 D (nz vars).length (Jp (nz vars)):=ao;clear ao hd bg;refine Jz Tryz.func141 Tryz.ntmps141 rfl kr rfl ?_;refine ρ ?_;refine bx ?_;intro w1 b1 ac c1 b5;refine ρ ?_;refine alc Yk ?_;intro w2 b2 a6 bz ay;refine ρ ?_;refine lds (cs:=[.int .i64 (ar:Int),.slice G ps.length gc]) ((b5.ext a6).sub2 (i:=1) rfl rfl) ?_;refine ρ ?_;refine bld (Xvs _ _ _ _ _) ?_;refine ρ ?_;refine alc Yk ?_;intro w3 b3 ba bi bn;refine ρ ?_;refine stb (cs':=[.slice none 0 0,.int .i64 (ar:Int),.slice G ps.length gc]) bn ?_ (λu hu=>by
  simp only[List.mem_cons,List.not_mem_nil,or_false]at hu;rcases hu with rfl|rfl|rfl<;>rfl)
 intro w4 bm bs b9;have a4:Ext w2 w4:=b9 w2 ba bi;have ag:Ext w w4:=(ac.trans a6).trans a4;have b4:=(b5.ext a6).ext a4;have ax:=ay.ext a4;refine ρ ?_;refine ld (b4.at (i:=0) rfl) ?_;refine ρ ?_;refine Jt (fun (k:Nat) (vv:Value)=>[(1,.pointer (some ⟨b,0,none⟩)),(3,.pointer (some ⟨b2,0,none⟩)),(4,.pointer (some ⟨b3,0,none⟩)),(11,.slice D (nz vars).length d),(12,.int .i64 ((nz vars).length:Int)),(13,.int .i64 (k:Int))])
  (λk vv w'=>k<=vars.length/\Ext w w'/\Blk w' b2 100 [.slice none 0 0,.int .i64 0,.slice none 0 0]/\Blk w' b3 100 [vv,.int .i64 (ar:Int),.slice G ps.length gc]/\Zb w' w.heap.size vv ((vars.take k).map λv=>nums.getD v 0)) (λk _=>vars.length-k) 0 (.slice none 0 0) sB
  ⟨Nat.zero_le _,ag,ax,bm,Zj _ _ _ _⟩ ?_
 rintro k vv w5 ⟨hk,a2,a1,ab,a3⟩;refine ρ ?_;refine ci (λh=>?_) (λh=>?_)
 .have lk:k<vars.length:=by have:=oT h;omega
  clear h;have au:=an.ext a2;have ah:=hlt _ (getD_mem' 0 _ lk);obtain⟨own,J⟩:∃ own,own=vv.ownBlock:=⟨_,rfl⟩;have am:∀ j,own=some j->w.heap.size<=j:=λj ej=>by
   obtain⟨_,_,_,_,hf⟩:=Jy a3;exact(hf j (by rw[<-J];exact ej)).1
  have br:((vars.take k).map λv=>nums.getD v 0).length<=1000:=by simp;omega
  refine ρ ?_;refine ix k au om ?_;refine ρ ?_;refine ld (au.cell (Xt lk)) ?_;refine ρ ?_;refine drN (one own) 8 [(0,0),(0,1),(0,2),(0,3),(0,4),(0,5),(1,6),(1,7),(0,8),(2,9)] kr ?_;have C:Ext w5 w5.drew:=(Ext.refl w5).drew;have O:=ab.ext C;have bj:=hB.ext (a2.trans C);have aq:=hN.ext (a2.trans C);have a7:=Jk a3 C;have n3:¬ one own b3:=λe=>O.ne_own a7 rfl (by rw[<-J];exact e.symm);have aa:∀ {g:Nat},g<w.heap.size->¬ one own g:=λhg e=>by have:=am _ e;omega
  refine ρn ?_;refine nld (Jl (O.at (i:=0) rfl) n3) ?_;refine ρn ?_;refine nld (Jl (bj.at (i:=0) rfl) (aa hB.lt)) ?_;refine ρn ?_;refine nix (vars.getD k 0) aq ah ?_;refine ρn ?_;refine nld (λw' hg=>(Vc aq hg (λh0 ad e=>aa (by
   obtain⟨c2,e',ak,_⟩:=hN.2 h0;rw[e]at e';injection e' with e';subst e';exact ak))).cell (Xt ah)) ?_
  refine ρn ?_;refine nop ?_;refine bsl (bs1Int'' _) ?_;intro w6 b6 o bw bl;refine ρ ?_;refine Jm (GrN.ext o) ?_;refine nop ?_;refine apI (Jk a7 o) bl om (((a2.trans C).trans o).size) ?_;intro a5 w7 ae a8 bq;refine ρ ?_;refine Jm (GrN.by a8 λj ej=>by rw[<-J]at ej;exact ej) ?_;refine ρn ?_;refine Xh ?_;have Z:=(O.ext o).grown a8 ((O.ext o).ne_own (Jk a7 o) rfl);have av:=((a1.ext C).ext o).grown a8 (((a1.ext C).ext o).ne_own (Jk a7 o) rfl);have b8:Ext w w7:=Qg ((a2.trans C).trans o) a8 (λj ej=>am j (by rw[J];exact ej));have bo:a5.oneCell'=true:=by obtain⟨_,_,e,_⟩:=Jy ae;rw[e];rfl
  refine sto (p:=⟨b3,0,none⟩) (Z.cell 0) (Z.frozen _) ?_ (hv:=bo);have be:GrN (λk=>k=b3) w7 (w7.setCell ⟨b3,0,none⟩ a5):=GrN.set _ rfl;have bh:w.heap.size<=b3:=by have:=(ac.trans a6).size;omega
  refine ω5 ?_;refine Ug ?_;refine ρn ?_;refine ρ ?_;refine Jf (k+1) a5 sO ⟨om,b8.setCell bh _,av.far (by simp only;have:=ay.lt;omega) _,Z.set 0 a5,?_⟩ om;rw[Qc 0 lk,List.map_append];exact Js ae be (λg eg e=>by subst e;exact Z.ne_own ae rfl eg.symm)
 have bd:k=vars.length:=by have:=oF h;omega
 subst bd;clear h;rw[List.take_length]at a3;obtain⟨VA,b7,a9,ai,bb⟩:=Jy a3;rw[List.length_map]at a9 ai;refine ρ ?_;refine ldW ab ?_;refine ρ ?_;refine stb (cs':=[vv,.int .i64 (ar:Int),.slice G ps.length gc]) a1 ?_ (λu hu=>by
  simp only[List.mem_cons,List.not_mem_nil,or_false]at hu;rcases hu with rfl|rfl|rfl
  .rw[a9];rfl
  .rfl
  rfl)
 intro w6 aw bf o;refine ρ ?_;have ap:w.heap.size<=b2:=by have:=ac.size;omega
 refine Jqh aw ⟨o w a2 ap,vv,rfl,?_⟩;have bc:Zb w6 w.heap.size vv (vars.map λv=>nums.getD v 0):=Js a3 (GrN.by bf λg eg=>eg) (λg eg e=>by injection e with e;subst e;exact a1.ne_own a3 rfl eg.symm);refine(Jxj bc (λg eg hk=>by have:=(bb g eg).1;omega)).imp λx h=>⟨VA,b7,by rw[Je,List.length_map];exact a9,by rw[Je,List.length_map];exact ai,by rw[Je,List.length_map];omega,?_⟩;rw[a9]at h;rw[Je,List.length_map];simp only[List.length_map]at h;exact Rd.own h
end Go.Proofs.YtbcdghbonlifdaaGreatDoor
namespace Go.Proofs.YtbcdghbonlifdaaGreatDoor
open Pl Go.Wk
variable {vars vs:List Nat}{k m n s u v:Nat}
def bk(s v:Nat): List Nat:=(List.range v).filter λu=>s.testBit u
theorem bk_mem: u∈bk s v↔u<v/\s.testBit u=true:=by simp[bk]
theorem Gc(s v:Nat): bk s (v+1)=bk s v++if s.testBit v then[v] else[]:=by grind [bk,List.range_succ]
theorem Jqn(s v:Nat): Ql (bk s v):=List.Pairwise.sublist List.filter_sublist List.pairwise_lt_range
theorem Yd(s v:Nat): (bk s v).length<=v:=by
 have:=List.length_filter_le (λu=>s.testBit u) (List.range v);rw[List.length_range]at this;exact this
theorem Qxh(s n:Nat): ∀ u,u<=n->lv (bk s n) u=(bk s u).length
 | 0,_=>by rw[Jwd];rfl
 | u+1,h=>by
  have ih:=Qxh s n u om;rw[Gc,List.length_append,<-ih];by_cases hb:s.testBit u=true
  .rw[if_pos hb,(Yy (Jqn s n) (bk_mem.2 ⟨om,hb⟩)).1];rfl
  rw[if_neg hb,Jjz (λh'=>hb (bk_mem.1 h').2)];rfl
theorem Jhp(ha:Ql vs)(hk:k<vs.length): lv vs (vs.getD k 0)=k:=by
 obtain⟨_,o,u⟩:=Yy ha (getD_mem' 0 vs hk);exact Qqr (Qbn ha) o hk ((Qz 0 vs o).symm.trans (u.trans (Qz 0 vs hk)))
theorem Jvm(hs:s<2^n)(h:s.testBit u=true): u<n:=by grind [Nat.lt_or_ge,Nat.testBit_lt_two_pow,Nat.lt_of_lt_of_le,Nat.pow_le_pow_right]
def Vd(s v:Nat): List Nat:=(List.range 32).map λu=>if u<v/\s.testBit u=true then(bk s u).length else 0
theorem Jxn(s v:Nat): (Vd s v).length=32:=by simp[Vd]
theorem Qrs(hu:u<32)(h:s.testBit u=true): (Vd s 32).getD u 0=lv (bk s 32) u:=by grind [Qxh,Vd,List.getD]
theorem Qqq(hv:v<32): Vd s (v+1)=if s.testBit v then(Vd s v).set v (bk s v).length else Vd s v:=by
 apply List.ext_getElem?
 grind [Jxn,Vd,List.getElem?_range,Nat.lt_or_ge]
def rnm(vars:List Nat)(s:Nat): List Nat:=(inS vars s).map λv=>lv (bk s 32) v
theorem inS_mem: v∈inS vars s↔v∈vars/\s.testBit v=true:=by simp[inS]
theorem Xqk(h:Ql vars): Ql (inS vars s):=List.Pairwise.sublist List.filter_sublist h
theorem Qtg(ha:Ql vs)(hu:u∈vs)(h:u<v): lv vs u<lv vs v:=by
 have o:=(Yy ha hu).1;have mono:∀ k,lv vs (u+1)<=lv vs (u+1+k):=by
  intro k;induction k with
  | zero=>exact nR _
  | succ k ih=>
   by_cases h:u+1+k∈vs
   repeat grind [Yy,Nat.add_assoc,Jjz]
 have:=mono (v-(u+1));grind
theorem Qlx(h:Ql vars)(hl:∀ v∈vars,v<32): Ql (rnm vars s):=by
 unfold rnm Ql;rw[List.pairwise_map];refine List.Pairwise.imp_of_mem (fun {u v} hu hv huv=>?_) (Xqk (s:=s) h);exact Qtg (Jqn s 32) (bk_mem.2 ⟨hl u (inS_mem.1 hu).1,(inS_mem.1 hu).2⟩) huv
theorem Qlw(hl:∀ v∈vars,v<32)(hk:k∈rnm vars s): k<(bk s 32).length:=by
 obtain⟨v,o,rfl⟩:=List.mem_map.1 hk;obtain⟨C,u⟩:=inS_mem.1 o;exact(Yy (Jqn s 32) (bk_mem.2 ⟨hl v C,u⟩)).2.1
theorem Jtt(vars:List Nat)(s:Nat): (rnm vars s).length=(inS vars s).length:=by simp[rnm]
def Ke(m:Nat)(vars:Nat->List Nat)(rs:Nat->List Row)(s:Nat)(z:Row): Prop:=∀ i,i<m->∃ r∈rs i,∀ j,j<(vars i).length->s.testBit ((vars i).getD j 0)=true->r.getD j V0=z.getD ((vars i).getD j 0) V0
theorem Jml{vars:List Nat}{s:Nat}{r z:Row}(hr:r.length=vars.length): ∀ k,k<=vars.length->(pmR (Zx vars s k) r=pmR (inS (vars.take k) s) z↔∀ j,j<k->s.testBit (vars.getD j 0)=true->r.getD j V0=z.getD (vars.getD j 0) V0)
 | 0,_=>by simp[Zx,inS,pmR]
 | k+1,h=>by
  have ih:=Jml (s:=s) (z:=z) hr k om;grind [Jvf,Ks,Jwm,pmR,Zx,V0,inS,List.append_inj,Xj]
theorem Qsv{vars:Nat->List Nat}{rs ms:Nat->List Row}(hs:s<2^n)(hn:n<=32)(hlt:∀ i,i<m->∀ v∈vars i,v<n)(hlen:∀ i,i<m->∀ r∈rs i,r.length=(vars i).length)(hms:∀ i,i<m->∀ x,x∈ms i↔x∈(rs i).map (pmR (Qe (vars i) s)))(x:Row):
  Zc (bk s 32).length m (λi=>rnm (vars i) s) ms x↔∃ z:Row,z.length=n/\x=pmR (bk s 32) z/\Ke m vars rs s z:=by
 have key:∀ z:Row,∀ i,i<m->(pmR (rnm (vars i) s) (pmR (bk s 32) z)∈ms i↔∃ r∈rs i,∀ j,j<(vars i).length->s.testBit ((vars i).getD j 0)=true->r.getD j V0=z.getD ((vars i).getD j 0) V0):=λz i hi=>by
  have e:pmR (rnm (vars i) s) (pmR (bk s 32) z)=pmR (inS (vars i) s) z:=by
   unfold rnm pmR;rw[List.map_map];refine List.map_congr_left λv J=>?_;obtain⟨h1,C⟩:=inS_mem.1 J;have G:v∈bk s 32:=bk_mem.2 ⟨by grind,C⟩;obtain⟨_,h4,h5⟩:=Yy (Jqn s 32) G;grind
  rw[e,hms i hi,List.mem_map];have hk:∀ r∈rs i,(pmR (Qe (vars i) s) r=pmR (inS (vars i) s) z↔∀ j,j<(vars i).length->s.testBit ((vars i).getD j 0)=true->r.getD j V0=z.getD ((vars i).getD j 0) V0):=λr hr=>by
   have:=Jml (s:=s) (z:=z) (hlen i hi r hr) (vars i).length (nR _);rw[List.take_length]at this;exact this
  grind
 constructor
 .rintro⟨hl,hx⟩;let z:Row:=(List.range n).map λu=>x.getD (lv (bk s 32) u) V0
  have o:z.length=n:=by simp[z]
  have D:x=pmR (bk s 32) z:=by
   apply List.ext_getElem
   .rw[Xj];exact hl
   intro k h1 C;rw[Xj]at C;have Z:=bk_mem.1 (getD_mem' 0 _ C);have O:=Jvm hs Z.2;have h3:=Qjz (z:=z) C;grind [Qz,V0,Xj,bk,lv,List.getD,List.getElem?_range,Jhp,Jqn]
  refine⟨z,o,D,λi hi=>?_⟩;grind
 rintro⟨z,o,rfl,G⟩;exact⟨Xj _ _,λi hi=>(key z i hi).2 (G i hi)⟩
end Go.Proofs.YtbcdghbonlifdaaGreatDoor
namespace Go.Wk
open Go.RowKit
variable {b n t ty:Nat}
theorem Vb{P:Program}{al:AL}{w:World}{Q:Exit->Act->World->Prop}{ops:Array Oper}{rest:List Oper}{pos:String}{aft:Array Edge}{tt:TT}[h:Tab P tt]{x y:Operand}{k:TK}{u v:Value}(hb:Blk w b t [u])(kk:∀ w1,Blk w1 b t [v]->w.grownBy w1 (some b)->(∀ a,Ext a w->a.heap.size<=b->Ext a w1)->WL P n ops Q rest al w1)(hv:v.oneCell'=true)(ht:tk tt t=some k:=by rfl)(hk:k.size=1:=by rfl)(hp:Yv k.desc=true:=by rfl)(hx:ev al x=some (.pointer (some ⟨b,0,none⟩)):=by rfl)(hy:ev al y=some v:=by rfl):
  WL P n ops Q (⟨none,.store t x y,ty,pos,aft,none⟩::rest) al w :=
 Jpd h.ok ht hk hp hx hy hv (hb.cell 0) (hb.frozen 0) (kk _ (hb.set 0 v) ⟨rfl,rfl,rfl,by simp[World.setCell],λk hk hn=>Below.heap_setCell w ⟨b,0,none⟩ v k (λe=>hn (by rw[e]))⟩ λa C o=>C.setCell o v)
end Go.Wk
namespace Go.Proofs.YtbcdghbonlifdaaGreatDoor
open Go.RowKit Pl Go.Wk
attribute [local irreducible] WC WL QX WD WDB WP WN WG
variable {cs vs:List Nat}{ts ts':List TA}{base c ca n s:Nat}{vars:Nat->List Nat}{ms rs:Nat->List Row}{A Aa:Option Addr}{v:Value}{w:World}
structure MOk(n:Nat)(ts:List TA)(vars:Nat->List Nat)(rs:Nat->List Row)(s:Nat): Prop where
 run:RunOk n ts vars rs
 sb:s<2^n
 valid:∀ i,i<ts.length->∀ r∈rs i,r.all Xk=true
 srtP:∀ i,i<ts.length->(rs i).length<=1000∨Srt [] ((rs i).map (pmR (Qe (vars i) s)))
theorem Xyv(h:Ql vs): Jvq (nz vs):=λj u o=>by
 rw[Je]at o;rw[Jkt o,Jkt (show j-1<vs.length by omega)];have:=List.pairwise_iff_getElem.1 h (j-1) j om o om;grind
theorem Jgf(h:RunOk n ts vars rs): Jvk n (ts.map (·.2)):=by
 have O:=h.n32;refine⟨om,om,by rw[List.length_map];exact h.m32,λa J=>?_,λv o=>?_⟩
 .obtain⟨t,ht,rfl⟩:=List.mem_map.1 J;obtain⟨i,hi,e⟩:=List.getElem_of_mem ht;have C:=h.at_ i hi;rw[Qz ta0 ts hi,e]at C;rw[C];refine⟨Xyv (h.asc i hi),λv o=>?_,by simp only;rw[Je]⟩;obtain⟨u,D,rfl⟩:=List.mem_map.1 o;have:=h.lt i hi u D;omega
 obtain⟨i,hi,G⟩:=h.cov v om;refine⟨(ts.getD i ta0).2,List.mem_map_of_mem (getD_mem' ta0 ts hi),?_⟩;rw[h.at_ i hi];exact List.mem_map.2 ⟨v,G,rfl⟩
def AtG(w:World)(cs:List Value)(a:Atm): Prop:=∃ t:V3,cs=t.cells/\AtV w t a
theorem Qbk: ∀(ps:List (List Value×Atm)) (w:World),(∀ p∈ps,AtG w p.1 p.2)->∃ ts:List TA,ts.map (·.2)=ps.map (·.2)/\atC ts=Ju ps/\ts.length=ps.length/\∀ q∈ts,AtV w q.1 q.2
 | [],w,_=>⟨[],rfl,rfl,rfl,λq hq=>by cases hq⟩
 | p::ps,w,h=>by
  obtain⟨qs,h1,h2,h3,h4⟩:=Qbk ps w λq hq=>h q (List.mem_cons_of_mem _ hq);obtain⟨t,e,hr⟩:=h p (mC ..);refine⟨(t,p.2)::qs,by simp[h1],?_,by simp[h3],λq hq=>?_⟩;repeat grind [Ju,atC,List.mem_cons.1]
theorem Jdj{ats:List Atm}(h:GV 3 AtG w v ats): ∃(ts:List TA) (A:Option Addr) (c:Nat),ats=ts.map (·.2)/\v=.slice A ts.length c/\ts.length<=c/\ts.length<=1100000/\Rd w 3 A ts.length (atC ts)/\∀ p∈ts,AtV w p.1 p.2:=by
 obtain⟨ps,A,c,e,e1,Z,O,u,hp⟩:=h;obtain⟨ts,J,G,D,C⟩:=Qbk ps w λp o=>(hp p o).2;grind
theorem EA: ElT Tryz.prog 40 100 3 56 (.agg #[.slice none 0 0,.int .i64 0,.slice none 0 0]):=⟨Tryz.underlying40,info_parts kr,rfl,by decide⟩
theorem zInts: Qm Tryz.prog 39=some (.slice none 0 0):=kr
theorem zRows: Qm Tryz.prog 37=some (.slice none 0 0):=kr
theorem Jvl(v1 v2 v3:Value)(A B:Option Addr)(n c m d:Nat)(z:Int)(h1:v1=.slice A n c)(h2:v2=.int .i64 z)(h3:v3=.slice B m d)(w:World): (Instr.buildSlice 40 1 #[(0,.agg #[v1,v2,v3])]).run Tryz.prog w=.ok (.slice (some ⟨w.heap.size,0,none⟩) 1 1) (w.alloc (.cells [v1,v2,v3].toArray 100)):=by
 subst h1;subst h2;subst h3;kernel_rfl
theorem Jdc(A B:Option Addr)(n c m d:Nat)(z:Int)(w:World): (Instr.build 100 #[(0,.slice A n c),(1,.agg #[.int .i64 z,.slice B m d])]).run Tryz.prog w=.ok (.agg #[.slice A n c,.int .i64 z,.slice B m d]) w:=kr
theorem Kg{z:Int}(h:v.oneCell'=true): ∀ u∈[v,.int .i64 z,.slice A n c],u.oneCell'=true:=λu o=>by
 simp only[List.mem_cons,List.not_mem_nil,or_false]at o;rcases o with rfl|rfl|rfl
 .exact h
 .rfl
 rfl
theorem Qpf(hok:MOk n ts vars rs s)(hl:ts'.length=ts.length)(he:(List.range ts.length).map (λj=>(⟨nz (rnm (vars j) s),(rnm (vars j) s).length,ms j⟩:Atm))=ts'.map (·.2))(hms:∀ j,j<ts.length->Zz [] ((rs j).map (pmR (Qe (vars j) s))) (ms j)/\(ms j).length<=65536): RunOk (bk s 32).length ts' (λj=>rnm (vars j) s) ms:=by
 have C:=hok.run.n32;have o:∀ i,i<ts.length->∀ v∈vars i,v<32:=λi hi v J=>by have:=hok.run.lt i hi v J;omega
 refine⟨Yd s 32,by rw[hl];exact hok.run.m32,λi hi=>?_,λi hi=>Qlx (hok.run.asc i (hl ▸ hi)) (o i (hl ▸ hi)),λi hi u O=>Qlw (o i (hl ▸ hi)) O,λk D=>?_,λi hi=>(hms i (hl ▸ hi)).1.1,λi hi r Z=>?_,λi hi=>(hms i (hl ▸ hi)).2⟩
 .have h1:(ts'.map (·.2))[i]?=some (ts'.getD i ta0).2:=by rw[List.getElem?_map,List.getElem?_eq_getElem hi,Option.map_some,Qz ta0 ts' hi]
  grind
 .obtain⟨h1,G⟩:=bk_mem.1 (getD_mem' 0 _ D);obtain⟨i,hi,hm⟩:=hok.run.cov _ (Jvm hok.sb G);exact⟨i,hl.symm ▸ hi,List.mem_map.2 ⟨_,inS_mem.2 ⟨hm,G⟩,Jhp (Jqn s 32) D⟩⟩
 obtain⟨x,hx,rfl⟩:=List.mem_map.1 (((hms i (hl ▸ hi)).1.2 r).1 Z);have:=Jvf (vars i) s (vars i).length (nR _);rw[List.take_length]at this;rw[Xj,Jtt];exact this
theorem Xjc(hok:MOk n ts vars rs s)(hms:∀ j,j<ts.length->Zz [] ((rs j).map (pmR (Qe (vars j) s))) (ms j)/\(ms j).length<=65536){x:Row}(hx:Zc (bk s 32).length ts.length (λi=>rnm (vars i) s) ms x): x.all Xk=true:=by
 rw[List.all_eq_true];intro y G;obtain⟨k,O,rfl⟩:=List.getElem_of_mem G;have o:k<(bk s 32).length:=by rw[<-hx.1];exact O
 obtain⟨h1,D⟩:=bk_mem.1 (getD_mem' 0 _ o);obtain⟨i,hi,J⟩:=hok.run.cov _ (Jvm hok.sb D);have h3:=hx.2 i hi;obtain⟨r,u,e⟩:=List.mem_map.1 (((hms i hi).1.2 _).1 h3);have C:x.getD k V0∈pmR (rnm (vars i) s) x:=List.mem_map.2 ⟨k,List.mem_map.2 ⟨_,inS_mem.2 ⟨J,D⟩,Jhp (Jqn s 32) o⟩,rfl⟩;rw[<-e]at C;obtain⟨c,Z,e2⟩:=List.mem_map.1 C;have h5:=List.all_eq_true.1 (hok.valid i hi r u) (r.getD c V0) (getD_mem' V0 r (by rw[hok.run.len i hi r u];exact Jzj Z));grind
theorem Qrt(s:Nat): (madeCells (Value.int .i64 0).cells (32*1)).toList=Jp (nz (Vd s 0)):=by
 have e:(madeCells (Value.int .i64 0).cells (32*1)).toList=List.replicate 32 (Value.int .i64 0):=Ul _ _;have o:Vd s 0=List.replicate 32 0:=by simp[Vd,List.map_const']
 rw[e,o];rfl
theorem Qrr(cs:List Nat)(i x:Nat): Jp (nz (cs.set i x))=(Jp (nz cs)).set i (.int .i64 (x:Int)):=by simp[Jp,nz,List.map_set]
theorem Qkf(h:Zb w base v cs): ∃ A c,v=.slice A cs.length c/\cs.length<=c/\∀ g,v.ownBlock=some g->base<=g/\g<w.heap.size:=Jy h
theorem Qst(hok:MOk n ts vars rs s)(hR:Rd w 3 Aa ts.length (atC ts))(hle:ts.length<=ca)(hat:∀ p∈ts,AtV w p.1 p.2)(hcap:∀ l:List Row,Lt [] l->(∀ x∈l,∃ z:Row,z.length=n/\x=pmR (bk s 32) z/\Ke ts.length vars rs s z)->l.length<=65536):
  Ret Tryz.prog 102 [.int .i64 (n:Int),.int .u32 (s:Int),.slice Aa ts.length ca] w λu w'=>Ext w w'/\∃(t':V3) (st:Int) (l:List Row),u=.tuple #[.agg t'.cells.toArray,.int .i64 st,.int .i64 0] /\
   Off (λk=>k<w.heap.size) w' (λx=>AtV x t' ⟨nz (bk s 32),(bk s 32).length,l⟩)/\Lt [] l/\(∀ x,x∈l↔∃ z:Row,z.length=n/\x=pmR (bk s 32) z/\Ke ts.length vars rs s z)/\l.length<=65536:=by
 have b5:=hok.run.n32;have ew:=hok.run.m32;have b4:s<4294967296:=nM hok.sb (Nat.pow_le_pow_right (n:=2) (by decide) b5);have a4:∀ i,i<ts.length->∀ v∈vars i,v<32:=λi hi v hv=>by have:=hok.run.lt i hi v hv;omega
 refine Jz Tryz.func102 Tryz.ntmps102 rfl kr rfl ?_;refine ρ ?_;refine alc Yk ?_;intro w1 b6 c6 el af;refine ρ ?_;refine cl (Jhv (n:=(n:Int)) (ats:=ts.map (·.2)) ⟨ts,Aa,ca,rfl,rfl,hle,om,hR.ext c6,λp hp=>(hat p hp).ext c6⟩) ?_
 rintro u w2 ⟨cz,e,rfl,he⟩;have e0:=he.2 (Jgf hok.run);subst e0;clear he;refine ρ ?_;refine Iw (s:=s) (v:=n) b5 ?_;rw[Nat.div_eq_of_lt hok.sb];refine ρ ?_;refine mkn EI 32 om (by unfold maxLen;omega) ?_;intro w3 Na cy cd _;rw[Qrt s]at cd;refine ρ ?_;refine alc zInts ?_;intro w4 bq e9 dm J;refine ρ ?_;refine Vb J ?_ rfl;intro w5 J f9 e8;have au:Ext w3 w5:=e8 w3 e9 dm;have br:=c6.trans cz;have cw:Ext w w5:=(br.trans cy).trans au;have da:w5.ownsRow w.heap.size 3 1 (.slice Na 32 32) 32 (Jp (nz (Vd s 0))):=Jbh (Jk cd au) br.size;have c3:Blk w5 b6 100 [.slice none 0 0,.int .i64 0,.slice none 0 0]:=(af.ext cz).ext (cy.trans au);refine ρ ?_;refine Jt (fun (v:Nat) (vv:Value)=>[(0,.int .i64 (n:Int)),(1,.int .u32 (s:Int)),(2,.slice Aa ts.length ca),(6,.pointer (some ⟨b6,0,none⟩)),(10,vv),(11,.pointer (some ⟨bq,0,none⟩)),(37,.int .i64 (v:Int))])
  (λv vv w'=>v<=32/\Ext w w'/\Blk w' b6 100 [.slice none 0 0,.int .i64 0,.slice none 0 0]/\Blk w' bq 39 [.slice Na 32 32]/\w'.ownsRow w.heap.size 3 1 (.slice Na 32 32) 32 (Jp (nz (Vd s v)))/\Zb w' w.heap.size vv (bk s v)/\∀ g,vv.ownBlock=some g->(Value.slice Na 32 32).ownBlock≠some g) (λv _=>32-v) 0 (.slice none 0 0) sB
  ⟨om,cw,c3,J,da,Zj _ _ _ _,λg e=>(by cases e)⟩ ?_
 clear cd da c3 J;rintro v vv w6 ⟨hv,bj,af,J,ae,b2,a8⟩;refine ρ ?_;refine ci (λh=>?_) (λh=>?_)
 .have lv:v<32:=by have:=oT h;omega
  clear h;have dh:=Yd s v;have ex:∀ {w':World},(Vd s v).length=32:=fun {_}=>Jxn s v
  obtain⟨VA,vc,cp,d3,c7⟩:=Qkf b2;refine ρ ?_;refine Iw (s:=s) (v:=v) om ?_;refine ρ ?_;refine ci (λh=>?_) (λh=>?_)
  .rw[Gd b4]at h;subst cp;refine ρ ?_;refine ld (J.at (i:=0) rfl) ?_;refine ρ ?_;refine ix v (Rd.own ae) lv ?_;obtain⟨s1,s2,s3,s4,s5⟩:=Za ae (q:=v) om (.int .i64 ((bk s v).length:Int));refine ρ ?_;refine sto (s1.trans (Xt (by rw[Jxn];exact lv))) s2 ?_;rw[<-Qrr]at s3;have d8:∀ g,(Value.slice Na 32 32).ownBlock=some g->w.heap.size<=g:=λg eg=>by
    obtain⟨_,_,_,_,hf⟩:=Jy ae;exact(hf g eg).1
   have a2:Ext w (w6.setCell (adr Na v) (.int .i64 ((bk s v).length:Int))):=Qg bj s5 d8;have a3:=af.grown s5 (af.ne_own ae rfl);have a1:=J.grown s5 (J.ne_own ae rfl);have ad:Zb (w6.setCell (adr Na v) (.int .i64 ((bk s v).length:Int))) w.heap.size (.slice VA (bk s v).length vc) (bk s v):=Js b2 (GrN.by s5 λg eg=>eg) (λg eg e=>a8 g eg e);generalize w6.setCell (adr Na v) (.int .i64 ((bk s v).length:Int))=w7 at *
   clear s1 s2 s4 s5;refine ρ ?_;refine bsl (bs1Int'' _) ?_;intro w8 b8 o fc en;refine ρ ?_;refine apI (Jk ad o) en om (a2.trans o).size ?_;intro e6 w9 c8 a5 ei;have an:Ext w w9:=Qg (a2.trans o) a5 (λg eg=>(c7 g eg).1);refine ρ ?_;refine Jf (v+1) e6 sO ⟨om,an,(a3.ext o).grown a5 ((a3.ext o).ne_own (Jk ad o) rfl),(a1.ext o).grown a5 ((a1.ext o).ne_own (Jk ad o) rfl),?_,?_,λg eg e=>?_⟩ om
   .rw[Qqq lv,if_pos h];exact Js (Jk s3 o) (GrN.by a5 λg eg=>eg) (λg eg e=>a8 g e eg)
   .rw[Gc,if_pos h];exact c8
   rcases ei g eg with h'|h'
   .exact a8 g h' e
   obtain⟨_,_,_,_,hf⟩:=Jy s3;have:=(hf g e).2;have:=o.size;omega
  rw[Gd b4]at h;have hf:¬ s.testBit v=true:=by rw[h];simp
  refine ρ ?_;refine Jf (v+1) vv sO ⟨om,bj,af,J,?_,?_,a8⟩ om
  .rw[Qqq lv,if_neg hf];exact ae
  rw[Gc,if_neg hf,List.append_nil];exact b2
 have ec:v=32:=by have:=oF h;omega
 subst ec;clear h a8;obtain⟨VA,vc,cp,d3,c7⟩:=Qkf b2;subst cp;have dh:=Yd s 32;refine ρ ?_;refine Jqs (fun (i:Nat) (st:Int) (vp:Value) (ms:Nat->List Row)=>[(0,.int .i64 (n:Int)),(1,.int .u32 (s:Int)),(6,.pointer (some ⟨b6,0,none⟩)),(10,.slice VA (bk s 32).length vc),(13,.func (.func 141) #[] #[.pointer (some ⟨bq,0,none⟩)]),(14,.int .i64 st),(15,vp),(56,.slice Aa ts.length ca),(57,.int .i64 (ts.length:Int)),(58,.int .i64 (i:Int))])
  (λi st vp ms w'=>i<=ts.length/\Ext w w'/\w6.heap.size<=w'.heap.size/\Blk w' b6 100 [.slice none 0 0,.int .i64 0,.slice none 0 0]/\Blk w' bq 39 [.slice Na 32 32]/\w'.ownsRow w.heap.size 3 1 (.slice Na 32 32) 32 (Jp (nz (Vd s 32)))/\Zb w' w.heap.size (.slice VA (bk s 32).length vc) (bk s 32) /\
   OwnG 100 3 AtG w' w6.heap.size vp ((List.range i).map λj=>⟨nz (rnm (vars j) s),(rnm (vars j) s).length,ms j⟩)/\∀ j,j<i->Zz [] ((rs j).map (pmR (Qe (vars j) s))) (ms j)/\(ms j).length<=65536) (λi _ _ _=>ts.length-i) 0 0 (.slice none 0 0) (λ_=>[]) sB
  ⟨Nat.zero_le _,bj,Nat.le_refl _,af,J,ae,b2,OwnG.nil _ _,λj hj=>om⟩ ?_
 rintro i st vp ms w7 ⟨hi,a2,b3,a3,a1,d9,ad,cg,ai⟩;refine ρ ?_;refine ci (λh=>?_) (λh=>?_)
 .have li:i<ts.length:=by have:=oT h;omega
  have dn:=hR.ext a2;obtain⟨t1,t2,t3,a,hp⟩:∃ t1 t2 t3 a,ts.getD i ta0=((t1,t2,t3),a):=⟨_,_,_,_,rfl⟩;have du:AtV w (t1,t2,t3) a:=by have:=hat _ (Jys rfl li);rw[hp]at this;exact this
  have ea:a=⟨nz (vars i),(vars i).length,rs i⟩:=by have:=hok.run.at_ i li;rw[hp]at this;exact this
  subst ea;clear h;have h3:∀ u∈[t1,t2,t3],u.oneCell'=true:=du.one;refine ρ ?_;refine ixq 3 i dn li ?_;refine ρ ?_;refine lds (cs:=[t1,t2,t3]) (λj u hu=>Jzp dn rfl li (by rw[hp];exact hu)) ?_;refine ρ ?_;refine alc Yk ?_;intro w8 fe o dl be;refine ρ ?_;refine stb (cs':=[t1,t2,t3]) be ?_ h3;intro w9 be a5 an;have ag:Ext w7 w9:=an w7 o dl;refine ρ ?_;refine ldW be ?_;refine ρ ?_;refine cl (Xyg (t:=(t1,t2,t3)) (du.ext (a2.trans ag)) b4 (hok.run.asc i li) (a4 i li) (hok.run.len i li) (hok.run.big i li)) ?_;rintro u ap ⟨a6,⟨p1,p2,p3⟩,rfl,m,a7,dc,db,ah⟩;have Z:=ah (hok.srtP i li);have co:=a7.here;obtain⟨⟨PA,pc,e4,d7,ed,f6⟩,e3,bn⟩:=id co;simp only at e4 e3;obtain⟨bi,PG,aq,_,e1,_⟩:=id bn;simp only at e1;have cx:=a2.trans ag;have eb:=cx.trans a6;refine ρ ?_;refine alc Yk ?_;intro e5 fd b1 dk aj;refine ρ ?_;refine stb (cs':=[p1,p2,p3]) aj ?_ co.one;intro ak aj df ay;have C:Ext ap ak:=ay ap b1 dk
  refine ρ ?_;subst e4;subst e3;subst e1;refine lds (cs:=[.int .i64 ((inS (vars i) s).length:Int),.slice PG bi.length aq]) (aj.sub2 (i:=1) rfl rfl) ?_;refine ρ ?_;have bf:=co.ext C;refine cl (Jkl bf.rel) ?_;rintro u bh ⟨rfl,G⟩;obtain⟨c5,d6⟩:∃ c5:Int,c5=IntKind.i64.wrap (st+(m.length:Int)):=⟨_,rfl⟩;have cn:=aj.ext G;repeat first|refine ω4 ?_|refine ω5 ?_|refine χ1 ?_|refine κ1 ?_|refine κ2 ?_|refine χ2 ?_|refine κ3 ?_|refine ω6 ?_|refine ω7 ?_|refine ω9 ?_|refine κ4 ?_|refine κ7 ?_|refine κ8 ?_|refine χ3 ?_|refine χ4 ?_|refine κ5 ?_|refine κ6 ?_|refine χ5 ?_|refine χ6 ?_|refine χ7 ?_|refine ω8 ?_
  rw[<-d6];refine ρ ?_;refine ldW cn ?_;refine ρ ?_;have O:Ext w7 bh:=((ag.trans a6).trans C).trans G;have ax:=a2.trans O;refine clv (Qsx (Na:=Na) (nums:=Vd s 32) (bf.ext G) ?_ ?_ (λv hv=>?_) ?_) ?_
  .rw[Jxn];exact a1.ext O
  .rw[Jxn];exact Rd.own (Jk d9 O)
  .rw[Jxn];exact a4 i li v (inS_mem.1 hv).1
  .have:=List.length_filter_le (λv=>s.testBit v) (vars i);have h5:=Jvp (hok.run.asc i li) (a4 i li);unfold inS;omega
  rintro u ao ⟨aw,v1,rfl,c9⟩;have d4:=c9.here;obtain⟨QA,qc,dx,f5,f4,f3⟩:=d4;refine ρ ?_;refine bsl (Jvl v1 _ _ QA PG _ qc _ aq _ dx rfl rfl) ?_;intro c4 ff av ez dt;have ep:(inS (vars i) s).map (λv=>(Vd s 32).getD v 0)=rnm (vars i) s:=by
   unfold rnm;refine List.map_congr_left λv hv=>?_;obtain⟨h5,h6⟩:=inS_mem.1 hv;exact Qrs (a4 i li v h5) h6
  rw[ep]at c9;have D:=(O.trans aw).trans av;have ba:=cg.ext D;obtain⟨_,_,_,_,ce⟩:=cg.form;have cc:∀ k,Xq w6.heap.size vp k->k<w7.heap.size:=λk hk=>by
   rcases hk with hk|hk
   .exact nM hk b3
   exact(ce k hk).2
  have hΦ:Off (Xq w6.heap.size vp) c4 (λu=>AtG u [v1,.int .i64 ((inS (vars i) s).length:Int),.slice PG bi.length aq] ⟨nz (rnm (vars i) s),(rnm (vars i) s).length,m⟩):=by
   have h5:Off (λk=>k<w7.heap.size) c4 (λu=>IntsV u v1 (nz (rnm (vars i) s))):=(c9.mono λk _ hk=>nM hk O.size).ext av;have h6:Off (λk=>k<w7.heap.size) c4 (λu=>AtV u (.slice PA (nz (inS (vars i) s)).length pc,.int .i64 ((inS (vars i) s).length:Int),.slice PG bi.length aq) ⟨nz (inS (vars i) s),(inS (vars i) s).length,m⟩) :=
    (a7.mono λk _ hk=>nM hk ag.size).ext (((C.trans G).trans aw).trans av)
   refine((h5.and h6).imp λu h=>⟨(v1,.int .i64 ((inS (vars i) s).length:Int),.slice PG bi.length aq),rfl,h.1,?_,h.2.2.2⟩).mono λk _ hk=>cc k hk;simp only;rw[Jtt]
  refine ρ ?_;refine apG EA (Φ:=AtG) ba dt rfl (Kg (by rw[dx];rfl)) hΦ (by simp;omega) om (nL b3 D.size) ?_;intro cr bg dq aa eu;have d0:Ext w bg:=Qg (a2.trans D) aa (λg eg=>nL bj.size (ce g eg).1);have bo:∀ {g t:Nat} {cs:List Value},Blk w7 g t cs->Nat.beq 100 t=false->Blk bg g t cs:=λhB e=>by
   obtain⟨ps,_,ho,_⟩:=ba;exact(hB.ext D).grown aa ((hB.ext D).ne_own ho e)
  have ch:Blk bg b6 100 [.slice none 0 0,.int .i64 0,.slice none 0 0]:=by
   exact(a3.ext D).grown aa λe=>by have:=(ce b6 e.symm).1;have:=af.lt;omega
  have bw:∀ {m':Nat} {v:Value} {xs:List Value},w7.ownsRow w.heap.size 3 1 v m' xs->bg.ownsRow w.heap.size 3 1 v m' xs:=λho=>by
   obtain⟨ps,_,eh,_⟩:=ba;exact Zf (Jk ho D) eh aa rfl
  refine ρ ?_;refine Kb (i+1) c5 cr (upd ms i m) sO ⟨om,d0,Nat.le_trans b3 (nL D.size aa.size),ch,bo a1 rfl,bw d9,bw ad,?_,λj hj=>?_⟩ om
  .rw[List.range_succ,List.map_append,List.map_singleton,Ja];have e:(List.range i).map (λj=>(⟨nz (rnm (vars j) s),(rnm (vars j) s).length,upd ms i m j⟩:Atm))=(List.range i).map (λj=>⟨nz (rnm (vars j) s),(rnm (vars j) s).length,ms j⟩):=by
    refine List.map_congr_left λj hj=>?_;have:=List.mem_range.1 hj;rw[Jg _ _ om]
   rw[e];exact dq
  by_cases e:j=i
  .subst e;rw[Ja];exact⟨Z,dc⟩
  rw[Jg _ _ e];exact ai j om
 have ek:i=ts.length:=by have:=oF h;omega
 subst ek;clear h;refine ρ ?_;refine alc zRows ?_;intro w8 cq o dj ab;have em:=cg.ext o;obtain⟨e7,PA,pc,dz,eo,d7,ed,ee,ef⟩:=Jdj (em.gv (by simp;omega));have cb:e7.length=ts.length:=by
  have:=congrArg List.length dz;simpa using this.symm
 have c1:=Qpf hok cb dz ai;subst eo;have cv:=a2.trans o;have b9:=Qsv (m:=ts.length) (ms:=ms) hok.sb b5 hok.run.lt hok.run.len (λi hi x=>(ai i hi).1.2 x);refine ρ ?_;refine cl (Xzb (bx':=λk=>k=cq) (Y:=YM cq) c1 ee d7 ef (Jgf c1) (λk hk=>by subst hk;exact ab.lt) (Qsw ab.lt) (λw' d1=>⟨nM ab.lt d1.size,.slice none 0 0,ab.ext d1,OwnG.nil _ _⟩) ?_) ?_
 .intro l h1 h2;refine hcap l h1 λx hx=>(b9 x).1 ?_;have:=h2 x hx;rw[cb]at this;exact this
 rintro u w9 ⟨a5,f2,base,l,rfl,fa,ey,⟨fb,f0,cm,hO⟩,bp,a9⟩;rw[cb]at a9;have d2:w.heap.size<=cq:=nL a2.size dj;have an:Ext w w9:=a5.old cv λk hk=>by subst hk;exact d2
 have bb:=Jv (a3.ext o) a5 (λe=>by have:=a3.lt;omega);have c8:Zb w9 w.heap.size (.slice VA (bk s 32).length vc) (bk s 32):=Js (Jk ad o) a5 (λg eg e=>by subst e;exact ab.ne_own (Jk ad o) rfl eg.symm);have dd:l.length<=65536:=by
  refine hcap l bp λx hx=>(b9 x).1 ((a9 x).1 hx)
 obtain⟨LA,lc,dv,f8,f7⟩:=hO.form;subst dv;have bl:=Qlp (hO.gv om);refine ρ ?_;refine ld (cm.at (i:=0) rfl) ?_;refine ρ ?_;refine cl (Jbc (ar:=(bk s 32).length) bl) ?_;rintro u ap ⟨a6,rv,e,rfl,⟨z,RB,rm,rd,rfl⟩,dg,bz⟩;have ej:∀ r∈l,r.length=(bk s 32).length/\r.all Xk=true:=λr hr=>⟨((a9 r).1 hr).1,Xjc hok ai ((a9 r).1 hr)⟩;have e0:=dg dh ej dd;subst e0;obtain⟨_,_,m,a7,dc,db,ah⟩:=bz rfl;have Z:=ah (.inr (Gr bp));have er:m=l:=Iy Z.1 bp Z.2;subst er;clear ah Z dg bz db;refine ρ ?_;refine alc Gh ?_;intro e5 et b1 di bd;refine ρ ?_;refine stb (cs':=[.int .i64 z,.slice RB rm rd]) bd ?_ Yp;intro ak bd df ay;have C:Ext ap ak:=ay ap b1 di;refine ρ ?_;have ac:=a6.trans C;have ck:=bb.ext ac;have bm:=(a7.here).ext C;refine drN (λk=>k=b6) 12 [(0,0),(0,1),(0,2),(0,3),(0,4),(0,5),(0,6),(1,7),(0,8),(1,9),(0,10),(0,11)] kr ?_;have am:Ext ak ak.drew:=(Ext.refl ak).drew
 have bc:=bd.ext am;have c2:=ck.ext am;have bo:¬ (λk=>k=b6) et:=λe=>by
  have h1:=bb.lt;have h2:=a6.size;simp only at e;omega
 refine ρn ?_;refine Xl (cs:=[.int .i64 z,.slice RB rm rd]) (λw' hg j u hu=>(Jv bc hg bo).at hu) ?_;refine ρn ?_;refine Ig (Jdc _ _ _ _ _ _ _) ?_;refine ρn ?_;refine Xl (cs:=[.int .i64 z,.slice RB rm rd]) (λw' hg j u hu=>(Jv bc hg bo).at hu) ?_;refine ρn ?_;refine nop ?_;refine cl (Jkl (bm.ext am)) ?_;rintro u bh ⟨rfl,G⟩;refine ρ ?_;refine Jm (GrN.ext G) ?_;refine ρn ?_;refine nop ?_;refine stb (cs':=[.slice VA (bk s 32).length vc,.int .i64 z,.slice RB rm rd]) (c2.ext G) ?_ (Kg rfl);intro ao cj b7 aw;refine ω5 ?_;refine Jm (GrN.by b7 λk e=>by injection e with e;exact e.symm) ?_;refine ρn ?_;refine ρ ?_;have ax:Ext w bh:=((an.trans ac).trans am).trans G;refine Jzd cj ⟨Jcm ax b7 el,(.slice VA (bk s 32).length vc,.int .i64 z,.slice RB rm rd),_,m,rfl,?_,bp,λx=>(a9 x).trans (b9 x),dd⟩;have de:GrN (λk=>k=b6) bh ao:=GrN.by b7 λk e=>by injection e with e;exact e.symm
 have bs:=Jk c8 ((ac.trans am).trans G);have d5:Zb ao w.heap.size (.slice VA (bk s 32).length vc) (bk s 32):=Js bs de λg eg e=>by subst e;exact(c2.ext G).ne_own bs rfl eg.symm
 have h5:Off (λk=>k<w.heap.size) ao (λu=>IntsV u (.slice VA (bk s 32).length vc) (nz (bk s 32))):=by
  refine(Jxj d5 λg eg hk=>by have:=(c7 g eg).1;omega).imp λu h=>⟨VA,vc,by rw[Je],by rw[Je];exact d3,by rw[Je];omega,by rw[Je];exact Rd.own h⟩
 have h6:Off (λk=>k<w.heap.size) ao (λu=>RelV u (.agg #[.int .i64 z,.slice RB rm rd]) (bk s 32).length m):=by
  have h7:=a7.ext ((C.trans am).trans G);have h8:=h7.gr (de.mono λk _ hk=>by subst hk;exact bb.lt);exact h8.mono λk _ hk=>nM hk an.size
 refine(h5.and h6).imp λu h=>?_;obtain⟨h7,rv,dw,h8⟩:=h;have e2:(Value.int .i64 z)=.int .i64 ((bk s 32).length:Int)/\Value.slice RB rm rd=rv:=by
  simp only[Value.agg.injEq,Array.mk.injEq,List.cons.injEq,and_true]at dw;exact dw
 exact⟨h7,e2.1,by simp only;rw[e2.2];exact h8⟩
end Go.Proofs.YtbcdghbonlifdaaGreatDoor
namespace Go.Wk
open Go.RowKit
variable {p:Addr}{z:Int}{kd:IntKind}{cs cs' xs:List Value}{b e g m t:Nat}{i x y:Operand}{k k2:TK}{v:Value}
section
variable {N:Nat->Prop} {P:Program} {n:Nat} {al:AL} {w:World} {Q:Exit->Act->World->Prop} {ops:Array Oper} {rest:List Oper} {drest:List (Nat×Oper)}
variable {d ty:Nat} {pos:String} {aft:Array Edge} {tt:TT}
theorem Jkc(hT:TOk P tt)(ht:tk tt t=some k)(hk:k.desc=.array m e)(w:World): (isAgg t).run P w=.ok true w/\Zs P t=some k.size/\P.underlying t=some (.array m e)/\Zs P e=some k.esz:=by
 have:=hT.at ht;unfold Ub at this;rw[hk]at this;exact⟨by simp[isAgg,run_underlying this.1],this.2.2,this.1,this.2.1⟩
theorem Jtm(hT:TOk P tt)(ht:tk tt t=some k)(hk:k.desc=.array m e)(hl:k.size=cs.length)(hc:∀ j u,cs[j]?=some u->w.cell? (p.add j)=some u): (loadVar t p).run P w=.ok (.agg cs.toArray) w:=by
 have o:=run_loadCells_list (P:=P) w p cs hc;rw[<-hl]at o;simp[loadVar,(Jkc hT ht hk w).1,Vs w (Jkc hT ht hk w).2.1,o]
theorem lda[h:Tab P tt](hc:∀ j u,cs[j]?=some u->w.cell? (p.add j)=some u)(hl:k.size=cs.length)(kk:WL P n ops Q rest ((d,.agg cs.toArray)::al) w)(ht:tk tt t=some k:=by rfl)(hk:k.desc=.array m e:=by rfl)(hx:ev al x=some (.pointer (some p)):=by rfl)(hd:Nat.blt d n=true:=by rfl): WL P n ops Q (⟨some d,.load t x,ty,pos,aft,none⟩::rest) al w :=
 wop hd (λa o=>by simp[execOp,o.ev hx,Instr.loadAt,Instr.sureAddr,Jtm (w:=w) h.ok ht hk hl hc]) kk
theorem sta[h:Tab P tt](hb:Blk w b t cs)(kk:∀ w1,Blk w1 b t cs'->w.grownBy w1 (some b)->(∀ a,Ext a w->a.heap.size<=b->Ext a w1)->WL P n ops Q rest al w1)(h1:∀ u∈cs',u.oneCell'=true)(hl:cs.length=cs'.length)(hs:k.size=cs'.length)(ht:tk tt t=some k:=by rfl)(hk:k.desc=.array m e:=by rfl)(hx:ev al x=some (.pointer (some ⟨b,0,none⟩)):=by rfl)(hy:ev al y=some (.agg cs'.toArray):=by rfl):
  WL P n ops Q (⟨none,.store t x y,ty,pos,aft,none⟩::rest) al w:=by
 have G:=Jqg w b cs'.toArray;refine Jjd (λa D=>?_) (kk (w.setRow b cs'.toArray) (setRow_heap w b _ _ _ _ hb) G (λa hx D=>Qg hx G (λk hk=>by grind)));have C:=Vs w (Jkc h.ok ht hk w).2.1;have o:=run_storeCells_from (P:=P) b t cs' 0 cs.toArray w hb (by simpa using hl.symm) h1;simp only[List.take_zero,List.nil_append]at o;simp[execOp,D.ev hx,D.ev hy,Instr.storeAt,Instr.sureAddr,storeVar,Value.cells,C,hs,o]
theorem Qkt[h:Tab P tt]{fn:Func}{Φ:Value->World->Prop}{c:Nat}(hb:Blk w b t cs)(hs:k.size=cs.length)(hp:Φ (.agg cs.toArray) w)(hr:fn.results = #[.cell c t]:=by rfl)(ht:tk tt t=some k:=by rfl)(hk:k.desc=.array m e:=by rfl)(hc:lk al c=some (.pointer (some ⟨b,0,none⟩)):=by rfl):
  QX n (Yx P fn Φ) .ret al w :=
 Jvb (rs:=[.cell c t]) (vs:=[.agg cs.toArray]) hr ⟨⟨_,hc,Jtm h.ok ht hk hs (λj u o=>hb.at o)⟩,trivial⟩ rfl hp
theorem idx[h:Tab P tt](j:Nat)(hlt:j<m)(hv:cs[j]?=some v)(kk:WL P n ops Q rest ((d,v)::al) w)(ht:tk tt t=some k:=by rfl)(hk:k.desc=.array m e:=by rfl)(h1:k.esz=1:=by rfl)(he:tk tt e=some k2:=by rfl)(hp:Yv k2.desc=true:=by rfl)(hx:ev al x=some (.agg cs.toArray):=by rfl)(hi:ev al i=some (.int kd z):=by rfl)(hj:z=(j:Int):=by first|rfl|omega)(hd:Nat.blt d n=true:=by rfl):
  WL P n ops Q (⟨some d,.index t x i,ty,pos,aft,none⟩::rest) al w :=
 wop hd (λa u=>by
  subst hj;have o:=Jkc h.ok ht hk w;have hs:=Vs w (h1 ▸ o.2.2.2);have C:=(Jyr h.ok he hp w).1;simp[execOp,u.ev hx,u.ev hi,Instr.index,asIntOf,run_underlying o.2.2.1,hlt,hs,part,C,hv]) kk
theorem ixs[h:Tab P tt](j:Nat)(hlt:j<m)(kk:WL P n ops Q rest ((d,.pointer (some (p.add (j*k.esz))))::al) w)(ht:tk tt t=some k:=by rfl)(hk:k.desc=.array m e:=by rfl)(hx:ev al x=some (.pointer (some p)):=by rfl)(hi:ev al i=some (.int kd z):=by rfl)(hj:z=(j:Int):=by first|rfl|omega)(hd:Nat.blt d n=true:=by rfl): WL P n ops Q (⟨some d,.indexAddr t x i,ty,pos,aft,none⟩::rest) al w :=
 wop hd (λa o=>Jgd h.ok j ht hk hlt o hx hi hj (some d) w) kk
theorem dixs[h:Tab P tt](j:Nat)(hlt:j<m)(kk:WD P n ops Q drest ((d,.pointer (some (p.add (j*k.esz))))::al) w)(ht:tk tt t=some k:=by rfl)(hk:k.desc=.array m e:=by rfl)(hx:ev al x=some (.pointer (some p)):=by rfl)(hi:ev al i=some (.int kd z):=by rfl)(hj:z=(j:Int):=by first|rfl|omega)(hd:Nat.blt d n=true:=by rfl): WD P n ops Q ((0,⟨some d,.indexAddr t x i,ty,pos,aft,none⟩)::drest) al w :=
 dy (λw' _ a o=>Jgd h.ok j ht hk hlt o hx hi hj (some d) w') hd kk
theorem adr1(b v:Nat): (⟨b,0,none⟩:Addr).add (v*1)=⟨b,v,none⟩:=by rw[Yg,Nat.mul_one,Nat.zero_add]
theorem ixb[h:Tab P tt](j:Nat)(hlt:j<m)(kk:WL P n ops Q rest ((d,.pointer (some ⟨b,j,none⟩))::al) w)(ht:tk tt t=some k:=by rfl)(hk:k.desc=.array m e:=by rfl)(h1:k.esz=1:=by rfl)(hx:ev al x=some (.pointer (some ⟨b,0,none⟩)):=by rfl)(hi:ev al i=some (.int kd z):=by rfl)(hj:z=(j:Int):=by first|rfl|omega)(hd:Nat.blt d n=true:=by rfl): WL P n ops Q (⟨some d,.indexAddr t x i,ty,pos,aft,none⟩::rest) al w:=by
 rw[<-adr1 b j,<-h1]at kk;exact ixs j hlt kk ht hk hx hi hj hd
theorem dixb[h:Tab P tt](j:Nat)(hlt:j<m)(kk:WD P n ops Q drest ((d,.pointer (some ⟨b,j,none⟩))::al) w)(ht:tk tt t=some k:=by rfl)(hk:k.desc=.array m e:=by rfl)(h1:k.esz=1:=by rfl)(hx:ev al x=some (.pointer (some ⟨b,0,none⟩)):=by rfl)(hi:ev al i=some (.int kd z):=by rfl)(hj:z=(j:Int):=by first|rfl|omega)(hd:Nat.blt d n=true:=by rfl): WD P n ops Q ((0,⟨some d,.indexAddr t x i,ty,pos,aft,none⟩)::drest) al w:=by
 rw[<-adr1 b j,<-h1]at kk;exact dixs j hlt kk ht hk hx hi hj hd
theorem nixb[h:Tab P tt](j:Nat)(hlt:j<m)(kk:WN N P n ops Q drest ((d,.pointer (some ⟨b,j,none⟩))::al) w)(ht:tk tt t=some k:=by rfl)(hk:k.desc=.array m e:=by rfl)(h1:k.esz=1:=by rfl)(hx:ev al x=some (.pointer (some ⟨b,0,none⟩)):=by rfl)(hi:ev al i=some (.int kd z):=by rfl)(hj:z=(j:Int):=by first|rfl|omega)(hd:Nat.blt d n=true:=by rfl): WN N P n ops Q ((0,⟨some d,.indexAddr t x i,ty,pos,aft,none⟩)::drest) al w:=by
 rw[<-adr1 b j,<-h1]at kk;exact nixa j hlt kk ht hk hx hi hj hd
theorem Blk.atc{w:World}{t:TypeId}(h:Blk w g t cs){i:Nat}(hv:cs[i]?=some v): w.cell? ⟨g,i,none⟩=some v:=by rw[h.cell];exact hv
theorem sla[h:Tab P tt](kk:WL P n ops Q rest ((d,.slice (some p) m m)::al) w)(ht:tk tt t=some k:=by rfl)(hk:k.desc=.array m e:=by rfl)(hx:ev al x=some (.pointer (some p)):=by rfl)(hd:Nat.blt d n=true:=by rfl): WL P n ops Q (⟨some d,.slice t x none none none,ty,pos,aft,none⟩::rest) al w :=
 wop hd (λa u=>by
  have o:=Jkc h.ok ht hk w;have hs:=Vs w o.2.2.2;simp[execOp,u.ev hx,Instr.sliceAt,run_underlying o.2.2.1,Instr.sureAddr,Instr.sliceBounds,hs];grind [add_zero]) kk
theorem cpb{dT sT dl dc sn sc:Nat}{A:Option Addr}[h:Tab P tt](hb:Blk w b t cs)(hr:Rd w 1 A sn xs)(hsn:sn<=dl)(hdl:dl<=cs.length)(h1:∀ u∈xs,u.oneCell'=true)(kk:∀ w1,Blk w1 b t (xs++cs.drop sn)->w.grownBy w1 (some b)->WL P n ops Q rest ((d,.int .i64 (sn:Int))::al) w1)(ht:tk tt dT=some k:=by rfl)(hk:k.desc=.slice e:=by rfl)(hz:k.esz=1:=by rfl)(hx:ev al x=some (.slice (some ⟨b,0,none⟩) dl dc):=by rfl)(hy:ev al y=some (.slice A sn sc):=by rfl)(hd:Nat.blt d n=true:=by rfl):
  WL P n ops Q (⟨some d,.call { callee:=.builtin .copy,args:=#[x,y],argTypes:=#[dT,sT] },ty,pos,aft,none⟩::rest) al w:=by
 have G:xs.length=sn:=by rw[hr.len,Nat.mul_one]
 have J:=Kx h.ok ht hk hz;have C:(P.info? e).map (·.size)=some 1:=J.2
 have O:=Jqg w b (xs++cs.drop sn).toArray;have hB:Blk (w.setRow b (xs++cs.drop sn).toArray) b t (xs++cs.drop sn):=setRow_heap w b _ _ _ _ hb;refine wop (w':=w.setRow b (xs++cs.drop sn).toArray) hd (λa D=>?_) (kk _ hB O);by_cases h0:sn=0
 .subst h0;have:xs=[]:=List.eq_nil_of_length_eq_zero G;subst this;have e0:w.setRow b ([]++cs.drop 0).toArray=w:=by
   have:=setRow_self w b cs.toArray t (0,0) hb;simpa using this
  rw[e0];cases hq:P.info? e with
  | none=>rw[hq]at C;cases C
  | some i=>
   cases A with
   | none=>simp[execOp,resolve,invoke,builtin,D.ev hx,D.ev hy,Builtin.copy_,run_underlying J.1,Builtin.lenOf,Builtin.firstCells,sizeOf,typeInfo,hq,storeCells,goInt]
   | some Z=>simp[execOp,resolve,invoke,builtin,D.ev hx,D.ev hy,Builtin.copy_,run_underlying J.1,Builtin.lenOf,Builtin.firstCells,sizeOf,typeInfo,hq,storeCells,goInt,loadCells,loadCellsFrom]
 obtain⟨Z,hA,_⟩:=hr.isome om om;subst hA;have o:=run_copy_row P w dT sT ty e b 0 dl dc Z sn sc cs.toArray t xs J.1 C hb (by grind) (λj v hv=>hr.cell hv) (by simp;omega) h1;rw[G]at o;have e1:(cs.toArray.toList.take 0++xs++cs.toArray.toList.drop (0+sn)).toArray=(xs++cs.drop sn).toArray:=by simp
 rw[e1]at o;simp[execOp,resolve,invoke,builtin,D.ev hx,D.ev hy,o,goInt]
end
end Go.Wk
namespace Go.Wk
open Go.RowKit
variable {L listed listed':Array Bool}{l:List Oper}{fuel fuel' i id:Nat}{o oi oj:Oper}{w0:World}
section
variable {P:Program} {n:Nat} {al al':AL} {w:World} {Q:Exit->Act->World->Prop} {ops:Array Oper} {T:Nat->Bool}
def Ik(P:Program)(ops:Array Oper)(Q:Exit->Act->World->Prop)(T:Nat->Bool)(i:Nat)(w0:World)(fuel:Nat)(listed:Array Bool): Exit->Act->World->Prop
 | .normal,a,w=>(T i=false->Ext w0 w)/\(Closed ops listed->Vx P ops Q T fuel listed a w)
 | _,_,_=>False
theorem Kl(hx:T i=false->Ext w0 w)(h:WH P n ops Q T fuel listed al w): QX n (Ik P ops Q T i w0 fuel listed) .normal al w:=λa u=>⟨hx,λo=>h o a u⟩
theorem Jdw(ho:ops[i]?=some o)(hc:Closed ops listed)(h:WL P n ops (Ik P ops Q T i w fuel listed) [o] al w): ∀ a,Fr n al a->wpOp P ops (QF Q) i (λa' w'=>(T i=false->Ext w w')/\Vx P ops Q T fuel listed a' w') a w:=λa G=>by
 have u:=h a G;unfold wpList at u;unfold wpOp;simp only[ho];have C:¬ LetsOut (Ik P ops Q T i w fuel listed):=by rintro⟨a,w,h⟩;exact h
 split
 .rename_i hw;simp only[hw,if_true]at u;rcases u with u|⟨_,u⟩
  .left
   refine Oper.wp_mono (K:=wpList P ops (Ik P ops Q T i w fuel listed) []) (λa' w' D=>⟨D.1,D.2 hc⟩) ?_;unfold Oper.wp at u ⊢;grind [Yl,Ik]
  exact absurd u C
 rename_i hw;simp only[hw]at u;exact⟨u.1,u.2 hc⟩
theorem itwo(i j:Nat)(hr:Region.ready .any l.toArray listed=[i,j])(hf:fuel=fuel'+1)(hi:nth l i=some oi)(hj:nth l j=some oj)(h1:WL P n l.toArray (Ik P l.toArray Q T i w fuel' (listed.setIfInBounds i true)) [oi] al w)(h2:WL P n l.toArray (Ik P l.toArray Q T j w fuel' (listed.setIfInBounds j true)) [oj] al w): WH P n l.toArray Q T fuel listed al w:=λC a D=>by
 subst hf;have J:l.toArray[i]?=some oi:=by rw[<-hi,Xw];simp
 have G:l.toArray[j]?=some oj:=by rw[<-hj,Xw];simp
 refine⟨λh0=>(by rw[hr]at h0;cases h0),λk u=>?_⟩;have o:=u;rw[hr]at u;simp only[List.mem_cons,List.not_mem_nil,or_false]at u;rcases u with rfl|rfl
 .exact Jdw J (C.step o) h1 a D
 exact Jdw G (C.step o) h2 a D
theorem Jwk(i:Nat)(hr:Region.ready .any l.toArray listed=[i])(hf:fuel=fuel'+1)(hi:nth l i=some oi)(h1:WL P n l.toArray (Ik P l.toArray Q T i w fuel' (listed.setIfInBounds i true)) [oi] al w): WH P n l.toArray Q T fuel listed al w:=λC a D=>by
 subst hf;have G:l.toArray[i]?=some oi:=by rw[<-hi,Xw];simp
 refine⟨λh0=>(by rw[hr]at h0;cases h0),λk o=>?_⟩;have u:=o;rw[hr]at o;simp only[List.mem_cons,List.not_mem_nil,or_false]at o;subst o;exact Jdw G (C.step u) h1 a D
theorem Gv(i:Nat)(hsel:Region.noSelect l.toArray=true)(hr:((Region.ready .any l.toArray listed).contains i && Region.free .any l.toArray listed i)=true)(hf:fuel=fuel'+1)(hi:nth l i=some oi)(h:WP P n l.toArray (Jjg P l.toArray Q T fuel' (listed.setIfInBounds i true)) [] [oi] al w): WH P n l.toArray Q T fuel listed al w:=λu a G=>by
 subst hf;simp only[Bool.and_eq_true]at hr;have o:i∈Region.ready .any l.toArray listed:=by simpa using hr.1
 have C:l.toArray[i]?=some oi:=by rw[<-hi,Xw];simp
 unfold WP at h;obtain⟨v,D,J⟩:=h a G;exact Jyh (λ_ _=>True) (λ_=>trivial) (λ_ _=>trivial) C (Region.noSelect_spec hsel) (λ_ _ _ _ _ _ _ _=>trivial) _ listed a w u (Region.free_spec C hr.2) o D (J (u.step o))
end
section
variable {N:Nat->Prop} {P:Program} {n:Nat} {al al':AL} {w:World} {Q:Exit->Act->World->Prop} {ops:Array Oper}
def Iu(ops:Array Oper): List (Nat×Nat)->Array Bool->Option (Array Bool)
 | [],listed=>some listed
 | (0,i)::r,listed=>if(Region.ready .any ops listed).contains i && Region.free .any ops listed i then Iu ops r (listed.setIfInBounds i true) else none
 | (1,i)::r,listed=>if Region.ready .any ops listed == [i] then Iu ops r (listed.setIfInBounds i true) else none
 | _::_,_=>none
def Jqw(N:Nat->Prop)(P:Program)(ops:Array Oper)(Q:Exit->Act->World->Prop)(fuel:Nat)(listed:Array Bool): Exit->Act->World->Prop
 | .normal,a,w=>Closed ops listed->Uv N P ops Q noT fuel listed a w
 | _,_,_=>False
theorem Xbm{a:Act}{w:World}{K:Act->World->Prop}(h:o.wp P a w K (QF (Jqw N P ops Q fuel listed))): o.wp P a w K (QF Q):=by
 unfold Oper.wp at h ⊢;have u:¬ LetsOut (QF (Jqw N P ops Q fuel listed)):=by rintro⟨a,w,h⟩;exact h
 grind [Yl,QF,Jqw]
theorem Jyf(hsel:Region.noSelect ops=true)(fuel:Nat)(listed':Array Bool): ∀(s:List (Nat×Nat)) (listed:Array Bool) (a:Act) (w:World),Closed ops listed->Iu ops s listed=some listed'->Zk N P ops (Jqw N P ops Q fuel listed') (Qb ops.toList s) a w->Uv N P ops Q noT (s.length+fuel) listed a w
 | [],listed,a,w,hcl,hB,h=>by
  simp only[Iu,Option.some.injEq]at hB;subst hB;simp only[List.length_nil,Nat.zero_add];exact h hcl
 | (0,i)::r,listed,a,w,hcl,hB,h=>by
  simp only[Iu]at hB;split at hB
  .rename_i hc;simp only[Bool.and_eq_true]at hc;have hr':i∈Region.ready .any ops listed:=by simpa using hc.1
   obtain⟨_,oi,ho,_⟩:=mem_ready.1 hr';have hn:nth ops.toList i=some oi:=by grind [Xw]
   simp only[Qb,hn,Zk,Ua]at h;obtain⟨v,hy,h⟩:=h;have e:((0,i)::r).length+fuel=(r.length+fuel)+1:=by simp;omega
   rw[e];exact Jpm (GrN N) (GrN.refl N) (λh k=>GrN.trans h k) ho (Region.noSelect_spec hsel) (λ_ _ _ _ _ _ _ hg=>hg rfl) _ listed a w hcl (Region.free_spec ho hc.2) hr' hy (Jyf hsel fuel listed' r _ _ _ (hcl.step hr') hB h)
  cases hB
 | (1,i)::r,listed,a,w,hcl,hB,h=>by
  simp only[Iu]at hB;split at hB
  .rename_i hc;have hc':Region.ready .any ops listed=[i]:=by simpa using hc
   have hr':i∈Region.ready .any ops listed:=by grind
   obtain⟨_,oi,ho,_⟩:=mem_ready.1 hr';have hn:nth ops.toList i=some oi:=by grind [Xw]
   simp only[Qb,hn,Zk,Ua]at h;have e:((1,i)::r).length+fuel=(r.length+fuel)+1:=by simp;omega
   rw[e];refine⟨λh0=>(by grind),λj hj=>?_⟩;rw[hc']at hj;obtain rfl:j=i:=by simpa using hj
   have hcl':=hcl.step hr';unfold wpOp;simp only[ho];split
   .rename_i hw;simp only[hw,if_true]at h;exact .inl (Oper.wp_mono (λa' w' h'=>⟨λ_=>h'.1,Jyf hsel fuel listed' r _ _ _ hcl' hB h'.2⟩) (Xbm h))
   rename_i hw;simp only[hw]at h;exact⟨λ_=>GrN.refl N w,Jyf hsel fuel listed' r _ _ _ hcl' hB h⟩
  cases hB
 | (k+2,i)::r,listed,a,w,_,hB,_=>by simp[Iu]at hB
def WM(N:Nat->Prop)(P:Program)(n:Nat)(ops:Array Oper)(Q:Exit->Act->World->Prop)(fuel:Nat)(listed:Array Bool)(al:AL)(w:World): Prop:=Closed ops listed->∀ a,Fr n al a->Uv N P ops Q noT fuel listed a w
theorem WM.sub{fuel:Nat}{listed:Array Bool}(hs:Sub al' al)(h:WM N P n ops Q fuel listed al' w): WM N P n ops Q fuel listed al w:=λo a u=>h o a (u.sub hs)
theorem drM{tt:TT}[ht:Tab P tt](N:Nat->Prop)(h:WM N P n l.toArray Q l.toArray.size (Array.replicate l.toArray.size false) al w.drew): WC P n (.region id l.toArray true) Q al w:=λa o=>
 wp_region_any ht.mixed (Jdx (N:=N) (T:=noT) _ _ _ _ (h (Qvs _ _) a o))
theorem Ux(s:List (Nat×Nat))(listed':Array Bool)(hsel:Region.noSelect l.toArray=true)(hB:Iu l.toArray s listed=some listed')(hf:fuel=s.length+fuel')(h:WN N P n l.toArray (Jqw N P l.toArray Q fuel' listed') (Qb l s) al w): WM N P n l.toArray Q fuel listed al w:=λu a o=>by
 subst hf;have C:=h a o;grind [Jyf]
theorem Uz(h:WM N P n ops Q fuel listed al w): QX n (Jqw N P ops Q fuel listed) .normal al w:=λa u o=>h o a u
theorem Jwb(hr:Region.ready .any ops listed=[])(h:QX n Q .normal al w): WM N P n ops Q 0 listed al w:=λ_ a o=>⟨hr,h a o⟩
def Iz(N:Nat->Prop)(P:Program)(ops:Array Oper)(Q:Exit->Act->World->Prop)(w0:World)(fuel:Nat)(listed:Array Bool): Exit->Act->World->Prop
 | .normal,a,w=>GrN N w0 w/\(Closed ops listed->Uv N P ops Q noT fuel listed a w)
 | _,_,_=>False
theorem Xz(hx:GrN N w0 w)(h:WM N P n ops Q fuel listed al w): QX n (Iz N P ops Q w0 fuel listed) .normal al w:=λa u=>⟨hx,λo=>h o a u⟩
theorem Jdv(ho:ops[i]?=some o)(hc:Closed ops listed)(h:WL P n ops (Iz N P ops Q w fuel listed) [o] al w): ∀ a,Fr n al a->wpOp P ops (QF Q) i (λa' w'=>(noT i=false->GrN N w w')/\Uv N P ops Q noT fuel listed a' w') a w:=λa G=>by
 have u:=h a G;unfold wpList at u;unfold wpOp;simp only[ho];have C:¬ LetsOut (Iz N P ops Q w fuel listed):=by rintro⟨a,w,h⟩;exact h
 split
 .rename_i hw;simp only[hw,if_true]at u;rcases u with u|⟨_,u⟩
  .left
   refine Oper.wp_mono (K:=wpList P ops (Iz N P ops Q w fuel listed) []) (λa' w' D=>⟨λ_=>D.1,D.2 hc⟩) ?_;unfold Oper.wp at u ⊢;grind [Yl,Iz]
  exact absurd u C
 rename_i hw;simp only[hw]at u;exact⟨λ_=>u.1,u.2 hc⟩
theorem Jjv(i j:Nat)(hr:Region.ready .any l.toArray listed=[i,j])(hf:fuel=fuel'+1)(hi:nth l i=some oi)(hj:nth l j=some oj)(h1:WL P n l.toArray (Iz N P l.toArray Q w fuel' (listed.setIfInBounds i true)) [oi] al w)(h2:WL P n l.toArray (Iz N P l.toArray Q w fuel' (listed.setIfInBounds j true)) [oj] al w): WM N P n l.toArray Q fuel listed al w:=λC a D=>by
 subst hf;have J:l.toArray[i]?=some oi:=by rw[<-hi,Xw];simp
 have G:l.toArray[j]?=some oj:=by rw[<-hj,Xw];simp
 refine⟨λh0=>(by rw[hr]at h0;cases h0),λk u=>?_⟩;have o:=u;rw[hr]at u;simp only[List.mem_cons,List.not_mem_nil,or_false]at u;rcases u with rfl|rfl
 .exact Jdv J (C.step o) h1 a D
 exact Jdv G (C.step o) h2 a D
theorem Ze(i:Nat)(hr:Region.ready .any l.toArray listed=[i])(hf:fuel=fuel'+1)(hi:nth l i=some oi)(h1:WL P n l.toArray (Iz N P l.toArray Q w fuel' (listed.setIfInBounds i true)) [oi] al w): WM N P n l.toArray Q fuel listed al w:=λC a D=>by
 subst hf;have G:l.toArray[i]?=some oi:=by rw[<-hi,Xw];simp
 refine⟨λh0=>(by rw[hr]at h0;cases h0),λk o=>?_⟩;have u:=o;rw[hr]at o;simp only[List.mem_cons,List.not_mem_nil,or_false]at o;subst o;exact Jdv G (C.step u) h1 a D
theorem Gx(e:listed=listed')(h:WM N P n ops Q fuel listed' al w): WM N P n ops Q fuel listed al w:=by subst e;exact h
theorem mcut{α:Type}(fuel':Nat)(L':Array Bool)(fr:α->AL)(I:α->World->Prop)(h2:∀ x w,I x w->WM N P n ops Q fuel' L' (fr x) w)(h1:(∀ x al w,I x w->Sub (fr x) al->WM N P n ops Q fuel' L' al w)->WM N P n ops Q fuel L al w): WM N P n ops Q fuel L al w:=h1 λx al w hi hs=>(h2 x w hi).sub hs
end
end Go.Wk
namespace Go.Wk
open Go.RowKit
variable {d n ty v:Nat}
theorem sl64{P:Program}{al:AL}{w:World}{Q:Exit->Act->World->Prop}{ops:Array Oper}{rest:List Oper}{pos:String}{aft:Array Edge}{y:Operand}{t yt:TypeId}(hv:v<64)(kk:WL P n ops Q rest ((d,.int .u64 ((2^v:Nat):Int))::al) w)(hy:ev al y=some (.int .i64 (v:Int)):=by rfl)(hd:Nat.blt d n=true:=by rfl):
  WL P n ops Q (⟨some d,.binOp .shl t (.const (.int .u64 1)) y yt,ty,pos,aft,none⟩::rest) al w:=by
 have e:IntKind.u64.wrap (1*2^(min ((v:Nat):Int).toNat IntKind.u64.bits))=((2^v:Nat):Int):=by
  have h:2^v<18446744073709551616:=nM (Nat.pow_lt_pow_right (by decide:1<2) hv) (by decide);rw[Int.toNat_natCast,Nat.min_eq_left (by show v<=64;omega),Int.one_mul];have:((2:Int)^v)=((2^v:Nat):Int):=by simp
  rw[this,IntKind.wrap_u64];grind
 rw[<-e]at kk;exact wop hd (λa o=>Jkh (x:=.const (.int .u64 1)) rfl hy om o (some d) w) kk
end Go.Wk
namespace Go.Proofs.YtbcdghbonlifdaaGreatDoor
open Go.RowKit Pl Go.Wk
attribute [local irreducible] WC WL QX WD WDB WP WN WG
variable {es:List Nat}{c e i n v x:Nat}{A:Option Addr}{w:World}
def Uc(es:List Nat): List Value:=es.map fun (e:Nat)=>Value.int .u32 (e:Int)
theorem Qbv(h:i<es.length): (Uc es)[i]?=some (.int .u32 (es.getD i 0:Int)):=by
 simp[Uc,List.getD,List.getElem?_eq_getElem h]
structure GrV(w:World)(A:Option Addr)(c n:Nat)(es:List Nat): Prop where
 rd:Rd w 1 A es.length (Uc es)
 cap:es.length<=c
 n32:n<=32
 few:es.length<=64
 lt:∀ e∈es,e<2^n
abbrev grC(A:Option Addr)(c n:Nat)(es:List Nat): List Value:=[.int .i64 (n:Int),.slice A es.length c]
theorem GrV.ext{w w':World}{A:Option Addr}{c n:Nat}{es:List Nat}(h:GrV w A c n es)(hx:Ext w w'): GrV w' A c n es:=⟨h.rd.ext hx,h.cap,h.n32,h.few,h.lt⟩
theorem Jxh(h:n<=32): 2^n<=4294967296:=Nat.pow_le_pow_right (n:=2) (by decide) h
theorem GrV.lt32(h:GrV w A c n es)(he:e∈es): e<4294967296:=nM (h.lt e he) (Jxh h.n32)
theorem Xqs(hn:n<=32)(w:World): Ret Tryz.prog 164 [.int .i64 (n:Int)] w λu w'=>u=.int .u32 ((2^n-1:Nat):Int)/\w'=w:=by
 have hp:=Jxh hn;have o:0<2^n:=Nat.two_pow_pos n;refine Jz Tryz.func164 Tryz.ntmps164 rfl kr rfl ?_;refine ρ ?_;refine sl64 (v:=n) om ?_;refine ρ ?_;refine Jj ⟨?_,rfl⟩;generalize 2^n=p at *
 congr 1
 rw[IntKind.wrap_u64,IntKind.wrap_u32];omega
theorem Xbc(h:e<2^n)(hn:n<=32): Kj e (2^n-1)=0:=by
 have hp:=Jxh hn;have o:0<2^n:=Nat.two_pow_pos n;apply Nat.eq_of_testBit_eq
 grind [Jnn,Nat.testBit_two_pow_sub_one,Nat.testBit_lt_two_pow,Nat.lt_of_lt_of_le,Nat.pow_le_pow_right]
theorem Qkh(h:GrV w A c n es): Ret Tryz.prog 139 [.agg (grC A c n es).toArray] w λu w'=>u=.int .i64 0/\Ext w w':=by
 have hn:=h.n32;have hf:=h.few;refine Jz Tryz.func139 Tryz.ntmps139 rfl kr rfl ?_;refine ρ ?_;refine bx (cs:=grC A c n es) ?_;intro w1 b C hb D;refine ρ ?_;refine ld (D.at (i:=0) rfl) ?_;refine ρ ?_;refine ld (D.at (i:=0) rfl) ?_;refine ρ ?_;refine cf ?_ ?_
 .grind
 refine ρ ?_;refine ld (D.at (i:=1) rfl) ?_;refine ρ ?_;refine cf ?_ ?_
 .grind
 refine ρ ?_;refine ld (D.at (i:=1) rfl) ?_;refine ρ ?_;refine Qf (fun (i:Nat)=>[(1,.pointer (some ⟨b,0,none⟩)),(18,.slice A es.length c),(19,.int .i64 (es.length:Int)),(20,.int .i64 (i:Int))])
  (λi w'=>i<=es.length/\Ext w1 w') (λi=>es.length-i) 0 sB ⟨Nat.zero_le _,Ext.refl _⟩ ?_
 rintro i w2 ⟨hi,o⟩;have J:=D.ext o;have O:=h.ext (C.trans o);refine ρ ?_;refine ci (λh=>?_) (λh=>?_)
 .have G:i<es.length:=by have:=oT h;omega
  clear h;have Z:=getD_mem' 0 es G;refine ρ ?_;refine ix i O.rd G ?_;refine ρ ?_;refine ld (O.rd.cell (Qbv G)) ?_;refine ρ ?_;refine ld (J.at (i:=0) rfl) ?_;refine ρ ?_;refine cl (Xqs hn w2) ?_;rintro u w3 ⟨rfl,rfl⟩;have hp:=Jxh hn;have a1:0<2^n:=Nat.two_pow_pos n;refine ρ ?_;refine cf ?_ ?_
  .rw[Jnb (O.lt32 Z) om,Xbc (h.lt _ Z) hn];rfl
  refine ρ ?_;exact Qw (i+1) sO ⟨om,o⟩ om
 refine ρ ?_;exact Jj ⟨rfl,C.trans o⟩
def Xp(a:Nat->Nat): List Value:=(List.range 32).map λv=>.int .u32 (a v:Int)
theorem Ym(a:Nat->Nat): (Xp a).length=32:=by simp[Xp]
theorem Ib{a:Nat->Nat}(h:v<32): (Xp a)[v]?=some (.int .u32 (a v:Int)):=by simp[Xp,h]
theorem Jfs(a:Nat->Nat)(h:v<32): (Xp a).set v (.int .u32 (x:Int))=Xp (upd a v x):=by
 apply List.ext_getElem?
 grind [Ym,Ib,Ja,Jg,Xp]
theorem Jft(a:Nat->Nat): ∀ u∈Xp a,u.oneCell'=true:=λu o=>by obtain⟨e,_,rfl⟩:=List.mem_map.1 o;rfl
theorem Jzt: Qm Tryz.prog 171=some (.agg (Xp λ_=>0).toArray):=kr
theorem Jnw: Qm Tryz.prog 170=some (.agg (List.replicate 32 (Value.int .i64 0)).toArray):=kr
def AdjP(n:Nat)(es:List Nat)(a:Nat->Nat): Prop:=∀ v,v<32->a v<4294967296/\∀ x,(a v).testBit x=(decide (v<n) && (x != v) && es.any λe=>e.testBit v && e.testBit x)
theorem Jym: (2^v).testBit x=decide (v=x):=Nat.testBit_two_pow
theorem Xqt(h:GrV w A c n es): Ret Tryz.prog 165 [.agg (grC A c n es).toArray] w λu w'=>Ext w w'/\∃ a,u=.agg (Xp a).toArray/\AdjP n es a:=by
 have hn:=h.n32;have hf:=h.few;refine Jz Tryz.func165 Tryz.ntmps165 rfl kr rfl ?_;refine ρ ?_;refine bx (cs:=grC A c n es) ?_;intro w1 b1 a3 ar af;refine ρ ?_;refine alc (cs:=Xp λ_=>0) Jzt ?_;intro w2 b2 a1 aq an;refine ρ ?_;refine alc (cs:=Xp λ_=>0) Jzt ?_;intro w3 b3 a8 ak am;have ao:=(a3.trans a1).trans a8;refine ρ ?_;refine ld (((af.ext a1).ext a8).at (i:=1) rfl) ?_;refine ρ ?_;refine Jt (fun (i:Nat) (a:Nat->Nat)=>[(1,.pointer (some ⟨b1,0,none⟩)),(2,.pointer (some ⟨b2,0,none⟩)),(3,.pointer (some ⟨b3,0,none⟩)),(8,.slice A es.length c),(9,.int .i64 (es.length:Int)),(10,.int .i64 (i:Int))])
  (λi a w'=>i<=es.length/\Ext w2 w'/\Blk w' b3 171 (Xp a)/\AdjP n (es.take i) a) (λi _=>es.length-i) 0 (λ_=>0) sB
  ⟨Nat.zero_le _,a8,am,λv _=>⟨by simp only;omega,λx=>by simp⟩⟩ ?_
 rintro i a w4 ⟨hi,Z,a7,ha⟩;have ae:=(af.ext a1).ext Z;have ad:=an.ext Z;have h4:=h.ext ((a3.trans a1).trans Z);refine ρ ?_;refine ci (λG=>?_) (λG=>?_)
 .have li:i<es.length:=by have:=oT G;omega
  clear G;have hm:=getD_mem' 0 es li;have C:=h4.lt32 hm;obtain⟨e,he⟩:∃ e,e=es.getD i 0:=⟨_,rfl⟩;refine ρ ?_;refine ix i h4.rd li ?_;refine ρ ?_;refine ld (h4.rd.cell (Qbv li)) ?_;rw[<-he]at hm C ⊢;refine ρ ?_;refine ld (ae.at (i:=0) rfl) ?_;refine ρ ?_;refine Jt (fun (v:Nat) (J:Nat->Nat)=>[(1,.pointer (some ⟨b1,0,none⟩)),(2,.pointer (some ⟨b2,0,none⟩)),(3,.pointer (some ⟨b3,0,none⟩)),(8,.slice A es.length c),(9,.int .i64 (es.length:Int)),(10,.int .i64 (i:Int)),(5,.int .u32 (e:Int)),(15,.int .i64 (n:Int)),(16,.int .i64 (v:Int))])
   (λv J w'=>v<=n/\Ext w2 w'/\Blk w' b3 171 (Xp J)/\∀ u,u<32->J u<4294967296/\∀ x,(J u).testBit x=((a u).testBit x || (decide (u<v) && e.testBit u && e.testBit x && (x != u)))) (λv _=>n-v) 0 a sB
   ⟨Nat.zero_le _,Z,a7,λu hu=>⟨(ha u hu).1,λx=>by simp⟩⟩ ?_
  rintro v J w5 ⟨hv,O,a2,a4⟩;refine ρ ?_;refine ci (λG=>?_) (λG=>?_)
  .have lv:v<n:=by have:=oT G;omega
   have o:v<32:=om
   clear G;have a9:=a4 v o;have ag:=Kd o;refine ρ ?_;refine Iw (s:=e) (v:=v) om ?_;refine ρ ?_;refine ci (λG=>?_) (λG=>?_)
   .rw[Gd C]at G;have aa:Ext w5 w5.drew:=(Ext.refl w5).drew;have D:=a2.ext aa;refine ρ ?_;refine drN (λ_=>False) 10 [(0,0),(0,1),(0,2),(0,3),(0,4),(0,5),(0,6),(0,7),(0,8),(2,9)] kr ?_;refine ρn ?_;refine nixb v o ?_;refine ρn ?_;refine nld (Jl (D.atc (Ib o)) (λe=>e)) ?_;refine ρn ?_;refine Jhf o ?_;refine ρn ?_;refine nixb v o ?_;refine ρn ?_;refine Xh ?_;refine sto (p:=⟨b3,v,none⟩) (D.cell v |>.trans (Ib o)) (D.frozen _) ?_;have a5:=Qbr (t:=2^v) C;have ah:bits .or .u32 (J v:Int) (bits .andNot .u32 (e:Int) ((2^v:Nat):Int))=((J v ||| Kj e (2^v):Nat):Int):=by
     rw[Jnb C ag,Jjc a9.1 a5]
    rw[ah];have a6:=D.set v (.int .u32 ((J v ||| Kj e (2^v):Nat):Int));rw[Jfs J o]at a6;have ab:w2.heap.size<=b3:=ak;refine ω5 ?_;refine Ug ?_;refine ρn ?_;refine ρ ?_;refine Jf (v+1) (upd J v (J v ||| Kj e (2^v))) sO ⟨om,(O.trans aa).setCell ab _,a6,λu hu=>?_⟩ om;by_cases e1:u=v
    .subst e1;rw[Ja];refine⟨Jbj a9.1 a5,λx=>?_⟩;rw[Nat.testBit_or,Jnn C ag,Jym,a9.2,G,decide_eq_true (Nat.lt_succ_self u),decide_eq_false (Nat.lt_irrefl u)];grind
    repeat grind [Jg]
   rw[Gd C]at G;refine ρ ?_;refine Jf (v+1) J sO ⟨om,O,a2,λu hu=>⟨(a4 u hu).1,λx=>?_⟩⟩ om;grind
  have ai:v=n:=by have:=oF G;omega
  subst ai;clear G;refine ρ ?_;refine Jf (i+1) J sO ⟨om,O,a2,λu hu=>⟨(a4 u hu).1,λx=>?_⟩⟩ om;rw[(a4 u hu).2,(ha u hu).2,Qc 0 li,<-he,List.any_append];grind
 have aj:i=es.length:=by have:=oF G;omega
 subst aj;clear G;rw[List.take_length]at ha;refine ρ ?_;refine lda (cs:=Xp a) (λj u hu=>a7.at hu) (Ym a).symm ?_;refine ρ ?_;refine sta (cs':=Xp a) ad ?_ (Jft a) (by rw[Ym,Ym]) (Ym a).symm;intro w5 ac ap O;refine ρ ?_;exact Qkt ac (Ym a).symm ⟨O w ((a3.trans a1).trans Z) (by have:=a3.size;omega),a,rfl,ha⟩
open Go.RowKit Pl Go.Wk
variable {es:List Nat}{c f n v:Nat}{A:Option Addr}{w:World}
theorem Xqr(h:GrV w A c n es)(hv:v<n): Ret Tryz.prog 140 [.agg (grC A c n es).toArray,.int .i64 (v:Int)] w λu w'=>Ext w w'/\∃ a,u=.int .u32 (a v:Int)/\AdjP n es a:=by
 have hn:=h.n32;refine Jz Tryz.func140 Tryz.ntmps140 rfl kr rfl ?_;refine ρ ?_;refine bx (cs:=grC A c n es) ?_;intro w1 b C hb O;refine ρ ?_;refine lds (cs:=grC A c n es) (λj u J=>O.at J) ?_;refine ρ ?_;refine cl (Qkh (h.ext C)) ?_;rintro u w2 ⟨rfl,o⟩;have D:=O.ext o;refine ρ ?_;refine ld (D.at (i:=0) rfl) ?_;refine ρ ?_;refine cf ?_ ?_
 .grind
 refine ρ ?_;refine lds (cs:=grC A c n es) (λj u J=>D.at J) ?_;refine ρ ?_;refine cl (Xqt (h.ext (C.trans o))) ?_;rintro u w3 ⟨G,a,rfl,Z⟩;refine ρ ?_;refine idx v (show v<32 by omega) (Ib (show v<32 by omega)) ?_;refine ρ ?_;exact Jj ⟨(C.trans o).trans G,a,rfl,Z⟩
theorem Xxz(h:GrV w A c n es): Ret Tryz.prog 101 [.agg (grC A c n es).toArray] w λu w'=>Ext w w'/\∃ a,u=.agg (Xp a).toArray/\AdjP n es a:=by
 have hn:=h.n32;refine Jz Tryz.func101 Tryz.ntmps101 rfl kr rfl ?_;refine ρ ?_;refine bx (cs:=grC A c n es) ?_;intro w1 b1 a4 ag a9;refine ρ ?_;refine alc (cs:=Xp λ_=>0) Jzt ?_;intro w2 b2 a1 af ad;refine ρ ?_;refine alc (cs:=Xp λ_=>0) Jzt ?_;intro w3 b3 a3 ab ac;refine ρ ?_;refine ld (((a9.ext a1).ext a3).at (i:=0) rfl) ?_;refine ρ ?_;refine Jt (fun (v:Nat) (a:Nat->Nat)=>[(1,.pointer (some ⟨b1,0,none⟩)),(2,.pointer (some ⟨b2,0,none⟩)),(3,.pointer (some ⟨b3,0,none⟩)),(6,.int .i64 (n:Int)),(7,.int .i64 (v:Int))])
  (λv a w'=>v<=n/\Ext w2 w'/\Blk w' b3 171 (Xp a)/\∀ u,u<32->a u<4294967296/\∀ x,(a u).testBit x=(decide (u<v) && (x != u) && es.any λe=>e.testBit u && e.testBit x)) (λv _=>n-v) 0 (λ_=>0) sB
  ⟨Nat.zero_le _,a3,ac,λu hu=>⟨by simp only;omega,λx=>by simp⟩⟩ ?_
 rintro v a w4 ⟨hv,G,Z,ha⟩;have a8:=(a9.ext a1).ext G;have a7:=ad.ext G;have J:=(a4.trans a1).trans G;refine ρ ?_;refine ci (λhc=>?_) (λhc=>?_)
 .have lv:v<n:=by have:=oT hc;omega
  have o:v<32:=om
  clear hc;refine ρ ?_;refine lds (cs:=grC A c n es) (λj u hu=>a8.at hu) ?_;refine ρ ?_;refine cl (Xqr (h.ext J) lv) ?_;rintro u w5 ⟨D,a2,rfl,a5⟩;have C:=Z.ext D;refine ρ ?_;refine ixb v o ?_;refine ρ ?_;refine sto (p:=⟨b3,v,none⟩) (C.cell v |>.trans (Ib o)) (C.frozen _) ?_;have O:=C.set v (.int .u32 ((a2 v:Nat):Int));rw[Jfs a o]at O;refine ρ ?_;refine Jf (v+1) (upd a v (a2 v)) sO ⟨om,(G.trans D).setCell ab _,O,λu hu=>?_⟩ om;by_cases e:u=v
  .subst e;rw[Ja,decide_eq_true (Nat.lt_succ_self u)];refine⟨(a5 u hu).1,λx=>?_⟩;rw[(a5 u hu).2,decide_eq_true lv]
  repeat grind [Jg]
 have aa:v=n:=by have:=oF hc;omega
 subst aa;clear hc;refine ρ ?_;refine lda (cs:=Xp a) (λj u hu=>Z.at hu) (Ym a).symm ?_;refine ρ ?_;refine sta (cs':=Xp a) a7 ?_ (Jft a) (by rw[Ym,Ym]) (Ym a).symm;intro w5 a6 ae D;refine ρ ?_;exact Qkt a6 (Ym a).symm ⟨D w J (by have:=a4.size;omega),a,rfl,ha⟩
theorem Xxw(h:GrV w A c n es)(hf:f<=n): Ret Tryz.prog 100 [.agg (grC A c n es).toArray,.int .i64 (f:Int)] w λu w'=>u=.int .i64 0/\Ext w w':=by
 have hn:=h.n32;refine Jz Tryz.func100 Tryz.ntmps100 rfl kr rfl ?_;refine ρ ?_;refine bx (cs:=grC A c n es) ?_;intro Z b C hb G;refine ρ ?_;refine lds (cs:=grC A c n es) (λj u J=>G.at J) ?_;refine ρ ?_;refine cl (Qkh (h.ext C)) ?_;rintro u O ⟨rfl,o⟩;have D:=G.ext o;refine ρ ?_;refine ld (D.at (i:=0) rfl) ?_;refine ρ ?_;refine cf ?_ ?_
 .grind
 refine ρ ?_;exact Jj ⟨rfl,C.trans o⟩
end Go.Proofs.YtbcdghbonlifdaaGreatDoor
namespace Go.Proofs.YtbcdghbonlifdaaGreatDoor
open Pl Go.Wk
variable {es l ord perm:List Nat}{e i j k n u v x:Nat}{f g:Nat->List Value}
def nb0(n:Nat)(es:List Nat)(u x:Nat): Bool:=decide (u<n) && (x != u) && es.any λe=>e.testBit u && e.testBit x
theorem Xvz(he:e<2^n)(h:e.testBit u=true): u<n:=Jvm he h
theorem Jxs(he:∀ e∈es,e<2^n)(h:nb0 n es u x=true): u<n/\x<n/\x≠u:=by
 simp only[nb0,Bool.and_eq_true,decide_eq_true_eq,bne_iff_ne,List.any_eq_true]at h;obtain⟨⟨G,D⟩,e,o,_,C⟩:=h;exact⟨G,Xvz (he e o) C,D⟩
theorem Jhl(he:∀ e∈es,e<2^n): NbInv [] (nb0 n es):=by
 refine⟨λu x _ _=>?_,λu x _ h=>⟨by simp,(Jxs he h).2.2⟩⟩;rw[Bool.eq_iff_iff];have key:∀ u x,nb0 n es u x=true->nb0 n es x u=true:=λu x h=>by
  have o:=Jxs he h;simp only[nb0,Bool.and_eq_true,decide_eq_true_eq,bne_iff_ne,List.any_eq_true]at h ⊢;grind
 grind
theorem Jhg: ∀(k:Nat) {l:List Nat},l.Nodup->(∀ u∈l,u<k)->l.length<=k
 | 0,[],_,_=>nR _
 | 0,u::l,_,h=>absurd (h u (mC ..)) om
 | k+1,l,hn,h=>by
  have h1:=Jhg k (l:=l.filter λu=>u != k) (hn.sublist List.filter_sublist) (λu hu=>by grind);have h2:l.length<=(l.filter λu=>u != k).length+1:=by
   clear h h1;induction l with
   | nil=>simp
   | cons x l ih=>
    grind [List.nodup_cons.1,List.filter_eq_self.2,List.filter_cons_of_neg,List.length_cons,List.filter_cons_of_pos]
  omega
theorem Qrw(hn:l.Nodup)(hlt:∀ u∈l,u<k)(hlen:l.length=k)(hu:u<k): u∈l:=by
 refine Classical.byContradiction λh=>?_;have:=Jhg k (l:=u::l) (List.nodup_cons.2 ⟨h,hn⟩) (λx o=>by grind);grind
def Qu(perm:List Nat)(f:Nat): List Nat:=perm++(List.range f).reverse
structure PermOk(n f:Nat)(perm:List Nat): Prop where
 fn:f<=n
 len:perm.length=n-f
 rng:∀ v∈perm,f<=v/\v<n
 nd:perm.Nodup
theorem PermOk.olen{f:Nat}(h:PermOk n f perm): (Qu perm f).length=n:=by
 have:=h.len;have:=h.fn;simp[Qu];omega
theorem PermOk.ond{f:Nat}(h:PermOk n f perm): (Qu perm f).Nodup:=by
 refine List.nodup_append.2 ⟨h.nd,List.pairwise_reverse.2 (List.nodup_range.imp λh=>h.symm),λu o v C e=>?_⟩;have D:=(h.rng u o).1;grind
theorem PermOk.olt{f:Nat}(h:PermOk n f perm)(hu:u∈Qu perm f): u<n:=by
 rcases List.mem_append.1 hu with h1|h1
 .exact(h.rng u h1).2
 have:=List.mem_range.1 (List.mem_reverse.1 h1);have:=h.fn;omega
theorem PermOk.omem{f:Nat}(h:PermOk n f perm): u∈Qu perm f↔u<n :=
 ⟨h.olt,λo=>Qrw h.ond (λ_=>h.olt) h.olen o⟩
theorem Jgv(hn:ord.Nodup)(hi:i<ord.length): pre ord (ord.getD i 0)=ord.take i:=by grind [Qz,List.drop_eq_getElem_cons,List.take_append_drop,List.nodup_append,List.mem_cons_self,Jbg]
def plc(ord:List Nat)(u:Nat): Nat:=(pre ord u).length
theorem Jjp(hn:ord.Nodup)(hi:i<ord.length): plc ord (ord.getD i 0)=i:=by grind [plc,Jgv,List.length_take]
theorem Gf(hn:ord.Nodup)(hu:u∈ord): plc ord u<ord.length/\ord.getD (plc ord u) 0=u:=by
 obtain⟨i,hi,e⟩:=List.getElem_of_mem hu;have o:=Jjp hn hi;grind
theorem Jlb(hn:ord.Nodup)(hv:v∈ord)(hu:u∈ord): Jvv ord v u↔plc ord v<=plc ord u:=by
 obtain⟨O,J⟩:=Gf hn hv;obtain⟨G,D⟩:=Gf hn hu;have e:pre ord v=ord.take (plc ord v):=by grind [Jgv]
 unfold Jvv;rw[e];constructor
 .grind [Nat.lt_or_ge,plc,List.mem_iff_getElem.2,List.length_take,Qz]
 intro h o;obtain⟨j,C,e⟩:=List.getElem_of_mem o;rw[List.length_take]at C;rw[List.getElem_take]at e;have:=Jjp hn (show j<ord.length by omega);grind
def Qk(n:Nat)(f:Nat->List Value): List Value:=(List.range n).flatMap f
theorem Kn(n:Nat)(f:Nat->List Value): Qk (n+1) f=Qk n f++f n:=by simp[Qk,List.range_succ,List.flatMap_append]
theorem Jws{sz:Nat}(h:∀ i,i<n->(f i).length=sz): (Qk n f).length=n*sz:=by
 induction n with
 | zero=>simp[Qk]
 | succ n ih=>rw[Kn,List.length_append,ih (λi hi=>h i om),h n om,Nat.succ_mul]
theorem Jcq(h:∀ i,i<n->f i=g i): Qk n f=Qk n g:=by
 induction n with
 | zero=>rfl
 | succ n ih=>rw[Kn,Kn,ih (λi hi=>h i om),h n om]
theorem Vh{sz:Nat}(h:∀ i,i<n->(f i).length=sz)(hi:i<n)(hj:j<sz): (Qk n f)[i*sz+j]?=(f i)[j]?:=by
 induction n with
 | zero=>omega
 | succ n ih=>
  have o:=Jws (n:=n) (λi hi=>h i om);rw[Kn];grind
theorem Xxh{sz:Nat}(h:∀ i,i<n->(f i).length=sz)(hi:i<n){cs:List Value}(hc:cs.length=sz): (Qk n f).take (i*sz)++cs++(Qk n f).drop (i*sz+sz)=Qk n (upd f i cs):=by
 induction n with
 | zero=>omega
 | succ n ih=>
  have u:=Jws (n:=n) (λi hi=>h i om);have o:=h n om;rw[Kn,Kn];by_cases e:i=n
  .grind [List.take_of_length_le,List.drop_of_length_le,List.length_append,Ja,Jcq,Jg]
  have C:i*sz+sz<=n*sz:=by
   have:(i+1)*sz<=n*sz:=nO _ om;grind
  grind [List.append_assoc,Jg]
open Go.RowKit Pl Go.Wk
attribute [local irreducible] WC WL QX WD WDB WP WN WG
variable {es perm:List Nat}{v x:Nat}
def Ve(o:Nat->Nat): List Value:=(List.range 32).map λi=>.int .i64 (o i:Int)
theorem Qzx(o:Nat->Nat): (Ve o).length=32:=by simp[Ve]
theorem Il{o:Nat->Nat}(h:v<32): (Ve o)[v]?=some (.int .i64 (o v:Int)):=by simp[Ve,h]
theorem Qzw(o:Nat->Nat)(h:v<32): (Ve o).set v (.int .i64 (x:Int))=Ve (upd o v x):=by
 apply List.ext_getElem?
 grind [Qzx,Il,Ja,Jg,Ve]
theorem Xqb(h:perm.length<=32): Jp (nz perm)++(List.replicate 32 (Value.int .i64 0)).drop perm.length=Ve λi=>perm.getD i 0:=by
 have o:(Jp (nz perm)).length=perm.length:=by simp[Jp,nz]
 apply List.ext_getElem?
 grind [List.getElem?_append_left,Xt,Il,List.getElem?_append_right,List.getD,List.getElem?_eq_none,Nat.le_of_not_lt,Qzx]
def Qr(kf:Nat->Nat)(pf:Nat->Int)(v:Nat): List Value:=[.int .i64 (v:Int),.int .u32 (kf v:Int),.int .i64 (pf v)]
def Jzr(n:Nat)(es ord:List Nat)(kf:Nat->Nat)(pf:Nat->Int): Prop:=∀ v,v<n->kf v<4294967296/\(∀ x,(kf v).testBit x=Zm (nb0 n es) ord v x) /\
 ((pf v = -1/\∀ x,Zm (nb0 n es) ord v x=false)∨∃ p:Nat,pf v=p/\Zm (nb0 n es) ord v p=true/\∀ x,Zm (nb0 n es) ord v x=true->plc ord p<=plc ord x)
theorem EBg: ElT Tryz.prog 73 174 3 24 (.agg #[.int .i64 0,.int .u32 0,.int .i64 0]):=⟨Tryz.underlying73,info_parts kr,rfl,by decide⟩
theorem zBag: Qm Tryz.prog 174=some (.agg #[.int .i64 0,.int .u32 0,.int .i64 0]):=kr
theorem Xvr(v k:Int)(w:World): (Instr.build 174 #[(0,.int .i64 v),(1,.int .u32 k),(2,.int .i64 (-1))]).run Tryz.prog w=.ok (.agg #[.int .i64 v,.int .u32 k,.int .i64 (-1)]) w:=kr
theorem Jks{a b c:Int}: ∀ u∈[Value.int .i64 a,.int .u32 b,.int .i64 c],u.oneCell'=true:=λu o=>by
 simp only[List.mem_cons,List.not_mem_nil,or_false]at o;rcases o with rfl|rfl|rfl<;>rfl
theorem Qtb{zs:List Value}(h:0<zs.length)(n:Nat): (madeCells zs.toArray (n*zs.length)).toList=Qk n λ_=>zs:=by
 apply List.ext_getElem?
 intro k;by_cases hk:k<n*zs.length
 .have hd:k / zs.length<n:=Nat.div_lt_of_lt_mul (by grind);have o:=Nat.mod_lt k h;have u:=Vh (n:=n) (sz:=zs.length) (f:=λ_=>zs) (λ_ _=>rfl) hd o;rw[Nat.div_add_mod' k zs.length]at u;rw[u];simp only[madeCells,Array.getElem?_toList,Array.getElem?_map,Array.getElem?_range,hk,if_true,Option.map_some];simp[o]
 have C:=Jws (n:=n) (sz:=zs.length) (f:=λ_=>zs) (λ_ _=>rfl);rw[List.getElem?_eq_none (by simp[madeCells];omega),List.getElem?_eq_none om]
theorem made3(n:Nat): (madeCells (Value.agg #[.int .i64 0,.int .u32 0,.int .i64 0]).cells (n*3)).toList=Qk n λ_=>[.int .i64 0,.int .u32 0,.int .i64 0]:=Qtb (zs:=[.int .i64 0,.int .u32 0,.int .i64 0]) (by simp) n
def Ur(ord:List Nat)(kf:Nat->Nat)(pf:Nat->Int)(j v:Nat): List Value:=if plc ord v<j then Qr kf pf v else[.int .i64 0,.int .u32 0,.int .i64 0]
theorem Xym(ord:List Nat)(kf:Nat->Nat)(pf:Nat->Int)(j v:Nat): (Ur ord kf pf j v).length=3:=by unfold Ur;split<;>rfl
def BagAt(n:Nat)(es ord:List Nat)(v k:Nat)(p:Int): Prop:=k<4294967296/\(∀ x,k.testBit x=Zm (nb0 n es) ord v x) /\
 ((p = -1/\∀ x,Zm (nb0 n es) ord v x=false)∨∃ q:Nat,p=q/\Zm (nb0 n es) ord v q=true/\∀ x,Zm (nb0 n es) ord v x=true->plc ord q<=plc ord x)
theorem Qwk(x y:Nat): decide (x=y) = !(y != x):=by grind
theorem Xxx{w:World}{A PA:Option Addr}{c pc n f:Nat}(h:GrV w A c n es)(hp:PermOk n f perm)(hP:Rd w 1 PA perm.length (Jp (nz perm))):
  Ret Tryz.prog 66 [.agg (grC A c n es).toArray,.int .i64 (f:Int),.slice PA perm.length pc] w λu w'=>Ext w w'/\∃ B kf pf,u=.tuple #[.slice B n n,.int .i64 0]/\w'.ownsRow w.heap.size 174 3 (.slice B n n) n (Qk n (Qr kf pf))/\Jzr n es (Qu perm f) kf pf:=by
 have hn:=h.n32;have ez:=hp.fn;have fa:=hp.len;refine Jz Tryz.func66 Tryz.ntmps66 rfl kr rfl ?_;refine ρ ?_;refine bx (cs:=grC A c n es) ?_;intro w1 b3 dt fd e9;refine ρ ?_;refine lds (cs:=grC A c n es) (λj u hu=>e9.at hu) ?_;refine ρ ?_;refine cl (Xxw (h.ext dt) ez) ?_;rintro u w2 ⟨rfl,dk⟩;have bf:=dt.trans dk;refine ρ ?_;refine Jt (fun (i:Nat) (s:Nat)=>[(1,.int .i64 (f:Int)),(2,.slice PA perm.length pc),(3,.pointer (some ⟨b3,0,none⟩)),(9,.int .u32 (s:Int)),(28,.slice PA perm.length pc),(29,.int .i64 (perm.length:Int)),(30,.int .i64 (i:Int))])
  (λi s w'=>i<=perm.length/\w'=w2/\s<4294967296/\∀ x,s.testBit x=true->x∈perm.take i) (λi _=>perm.length-i) 0 0 sB
  ⟨Nat.zero_le _,rfl,om,λx J=>by simp at J⟩ ?_
 rintro i s w' ⟨hi,rfl,hs,d7⟩;have af:=e9.ext dk;refine ρ ?_;refine ci (λZ=>?_) (λZ=>?_)
 .have li:i<perm.length:=by have:=oT Z;omega
  clear Z;have e7:=hP.ext bf;have hv:=hp.rng _ (getD_mem' 0 perm li);obtain⟨v,ev⟩:∃ v,v=perm.getD i 0:=⟨_,rfl⟩;refine ρ ?_;refine ix i e7 li ?_;refine ρ ?_;refine ld (e7.cell (Xt li)) ?_;rw[<-ev]at hv ⊢;refine ρ ?_;refine kf 37 ?_ ?_
  .exact dF om
  refine ρ ?_;refine ld (af.at (i:=0) rfl) ?_;refine ρ ?_;refine kf 43 ?_ ?_
  .exact dF om
  refine ρ ?_;refine Iw (s:=s) (v:=v) om ?_;have dw:perm.take (i+1)=perm.take i++[v]:=by rw[Qc 0 li,ev]
  have et:v ∉ perm.take i:=λhm=>by
   have G:(perm.take (i+1)).Nodup:=hp.nd.sublist (List.take_sublist _ _);rw[dw,List.nodup_append]at G;exact G.2.2 _ hm _ (List.mem_singleton.2 rfl) rfl
  refine ρ ?_;refine cf ?_ ?_
  .rw[Gd hs];cases hb:s.testBit v with
   | false=>rfl
   | true=>exact absurd (d7 v hb) et
  have cm:=Kd (show v<32 by omega);refine ρ ?_;refine sl32 (v:=v) om ?_;refine ρ ?_;rw[Jjc hs cm];refine ρ ?_;refine Jf (i+1) (s ||| 2^v) sO ⟨om,rfl,Jbj hs cm,λx J=>?_⟩ om;rw[Nat.testBit_or,Jym,Bool.or_eq_true,decide_eq_true_eq]at J;rw[dw,List.mem_append,List.mem_singleton];rcases J with J|J
  .exact .inl (d7 x J)
  exact .inr J.symm
 clear Z hs d7 hi;refine ρ ?_;refine ld (af.at (i:=0) rfl) ?_;refine ρ ?_;refine cf ?_ ?_
 .exact Qyq om
 refine ρ ?_;refine alc (cs:=List.replicate 32 (Value.int .i64 0)) Jnw ?_;intro w3 a8 c5 d1 ck;refine ρ ?_;refine alc (cs:=List.replicate 32 (Value.int .i64 0)) Jnw ?_;intro w4 a1 cn d0 ea;have cj:=ck.ext cn;have di:=(bf.trans c5).trans cn;refine ρ ?_;refine sla ?_;refine ρ ?_;refine cpb (dl:=32) (dc:=32) cj (hP.ext di) om (by simp) (λu hu=>?_) ?_
 .obtain⟨z,_,rfl⟩:=List.mem_map.1 hu;rfl
 intro w5 ch db;rw[Xqb om]at ch;have da:a1≠a8:=λe=>by have:=ck.lt;omega
 have de:Blk w5 a1 170 (Ve λ_=>0):=by
  have G:=ea.grown db (λe=>by injection e with e;exact da e);exact G
 have e8:Blk w5 b3 131 (grC A c n es):=by
  have G:=(af.ext (c5.trans cn)).grown db (λe=>by injection e with e;have:=af.lt;omega);exact G
 have cb:w'.heap.size<=a8:=d1;have ej:Ext w' w5:=Jcm (c5.trans cn) db cb;obtain⟨ord,ak⟩:∃ ord,ord=Qu perm f:=⟨_,rfl⟩;have c7:ord.length=n:=by rw[ak];exact hp.olen
 have a3:ord.Nodup:=by rw[ak];exact hp.ond
 have b7:∀ {u},u∈ord↔u<n:=fun {u}=>by rw[ak];exact hp.omem
 have cx:∀ i,i<n->ord.getD i 0<n:=λi hi=>b7.1 (getD_mem' 0 ord (c7.symm ▸ hi));clear ck cj;refine ρ ?_;refine Jt (fun (k:Nat) (o:Nat->Nat)=>[(1,.int .i64 (f:Int)),(2,.slice PA perm.length pc),(3,.pointer (some ⟨b3,0,none⟩)),(12,.pointer (some ⟨a8,0,none⟩)),(13,.pointer (some ⟨a1,0,none⟩)),(65,.int .i64 (f:Int)),(66,.int .i64 (k:Int))])
  (λk o w6=>k<=f/\Ext w' w6/\Blk w6 b3 131 (grC A c n es)/\Blk w6 a8 170 (Ve o)/\Blk w6 a1 170 (Ve λ_=>0)/\∀ j,j<perm.length+k->o j=ord.getD j 0) (λk _=>f-k) 0 (λi=>perm.getD i 0) sB
  ⟨Nat.zero_le _,ej,e8,ch,de,λj hj=>?_⟩ ?_
 .rw[ak];simp[Qu,List.getD,List.getElem?_append_left (show j<perm.length by omega)]
 rintro k o w6 ⟨hk,d4,bl,ah,be,ho⟩;refine ρ ?_;refine ci (λZ=>?_) (λZ=>?_)
 .have lk:k<f:=by have:=oT Z;omega
  clear Z;have d8:perm.length+k<32:=om
  refine ρ ?_;refine ixb (perm.length+k) d8 ?_;refine ρ ?_;have ev:(f:Int)-1-(k:Int)=((f-1-k:Nat):Int):=om
  rw[ev];refine sto (p:=⟨a8,perm.length+k,none⟩) (ah.cell _ |>.trans (Il d8)) (ah.frozen _) ?_;have O:=ah.set (perm.length+k) (.int .i64 ((f-1-k:Nat):Int));rw[Qzw o d8]at O;refine ρ ?_;refine Jf (k+1) (upd o (perm.length+k) (f-1-k)) sO ⟨om,d4.setCell cb _,bl.far (by simp only;have:=af.lt;omega) _,O,be.far (λe=>da e) _,λj hj=>?_⟩ om;by_cases e:j=perm.length+k
  .subst e;rw[Ja,ak];simp only[Qu,List.getD];rw[List.getElem?_append_right om,Nat.add_sub_cancel_left,List.getElem?_reverse (by simp;omega),List.length_range,List.getElem?_range om];rfl
  rw[Jg _ _ e];exact ho j om
 have ew:k=f:=by have:=oF Z;omega
 subst ew;clear Z;have eo:perm.length+k=n:=om
 rw[eo]at ho;refine ρ ?_;refine ld (bl.at (i:=0) rfl) ?_;refine ρ ?_;refine Jt (fun (i:Nat) (q:Nat->Nat)=>[(2,.slice PA perm.length pc),(3,.pointer (some ⟨b3,0,none⟩)),(12,.pointer (some ⟨a8,0,none⟩)),(13,.pointer (some ⟨a1,0,none⟩)),(80,.int .i64 (n:Int)),(81,.int .i64 (i:Int))])
  (λi q w7=>i<=n/\Ext w' w7/\Blk w7 b3 131 (grC A c n es)/\Blk w7 a8 170 (Ve o)/\Blk w7 a1 170 (Ve q)/\∀ u,u<n->plc ord u<i->q u=plc ord u) (λi _=>n-i) 0 (λ_=>0) sB
  ⟨Nat.zero_le _,d4,bl,ah,be,λu _ hu=>om⟩ ?_
 clear d4 bl ah be;rintro i q w7 ⟨hi,c1,b8,O,a9,hq⟩;refine ρ ?_;refine ci (λZ=>?_) (λZ=>?_)
 .have li:i<n:=by have:=oT Z;omega
  clear Z;have fb:=cx i li;have ep:=ho i li;refine ρ ?_;refine ixb i (show i<32 by omega) ?_;refine ρ ?_;refine ld (O.atc (Il (show i<32 by omega))) ?_;rw[ep];refine ρ ?_;refine ixb (ord.getD i 0) (show ord.getD i 0<32 by omega) ?_;refine ρ ?_;refine sto (p:=⟨a1,ord.getD i 0,none⟩) (a9.cell _ |>.trans (Il (show ord.getD i 0<32 by omega))) (a9.frozen _) ?_;have cg:=a9.set (ord.getD i 0) (.int .i64 (i:Int));rw[Qzw q (show ord.getD i 0<32 by omega)]at cg;have ca:w'.heap.size<=a1:=nL c5.size d0;refine ρ ?_;refine Jf (i+1) (upd q (ord.getD i 0) i) sO ⟨om,c1.setCell ca _,b8.far (by simp only;have:=af.lt;omega) _,O.far (λe=>da e.symm) _,cg,λu hu eu=>?_⟩ om;by_cases e:u=ord.getD i 0
  .rw[e,Ja,Jjp a3 (c7.symm ▸ li)]
  rw[Jg _ _ e];refine hq u hu ?_;have G:=Gf a3 (b7.2 hu);rcases Nat.lt_or_ge (plc ord u) i with h2|h2
  .exact h2
  have:plc ord u=i:=om
  rw[this]at G;exact absurd G.2.symm e
 have ey:i=n:=by have:=oF Z;omega
 subst ey;clear Z;have du:∀ u,u<i->q u=plc ord u:=λu hu=>hq u hu (by have:=(Gf a3 (b7.2 hu)).1;omega);have c4:=bf.trans c1;refine ρ ?_;refine lds (cs:=grC A c i es) (λj u hu=>b8.at hu) ?_;refine ρ ?_;refine cl (Xxz (h.ext c4)) ?_;rintro u w8 ⟨dj,a0,rfl,e6⟩;refine ρ ?_;refine alc (cs:=Xp λ_=>0) Jzt ?_;intro w9 a4 ei cz b9;refine ρ ?_;refine sta (cs':=Xp a0) b9 ?_ (Jft a0) (by rw[Ym,Ym]) (Ym a0).symm;intro bz b9 f3 dq;have d3:Ext w8 bz:=dq w8 ei cz;have ae:=dj.trans d3;have bd:=b8.ext ae;refine ρ ?_;refine ld (bd.at (i:=0) rfl) ?_;refine ρ ?_;refine mkn EBg i om (by unfold maxLen;omega) ?_;intro f6 B bg au _;rw[made3]at au;have ad:=ae.trans bg;have bc:=bd.ext bg;have br:=O.ext ad;have bp:=a9.ext ad;have bo:=b9.ext bg;have eh:=c4.trans ad;refine ρ ?_;refine ld (bc.at (i:=0) rfl) ?_;have ef:w'.heap.size<=a8:=d1;have f8:a1<w7.heap.size:=a9.lt;have f9:a8<w7.heap.size:=O.lt
 have l3:b3<w7.heap.size:=b8.lt;have f7:w7.heap.size<=a4:=nL dj.size cz;have dh:a4<bz.heap.size:=b9.lt;have ca:w'.heap.size<=a1:=nL c5.size d0;have eb:Qk i (λ_=>[Value.int .i64 0,.int .u32 0,.int .i64 0])=Qk i (Ur ord (λ_=>0) (λ_=>0) 0):=Jcq λv _=>by simp[Ur]
 have e2:∀ e∈es,e<2^i:=h.lt;rw[eb]at au;refine ρ ?_;refine Jqs (fun (j:Nat) (a:Nat->Nat) (kf:Nat->Nat) (pf:Nat->Int)=>[(3,.pointer (some ⟨b3,0,none⟩)),(12,.pointer (some ⟨a8,0,none⟩)),(13,.pointer (some ⟨a1,0,none⟩)),(16,.pointer (some ⟨a4,0,none⟩)),(17,.slice B i i),(96,.int .i64 (i:Int)),(97,.int .i64 (j:Int))])
  (λj a kf pf aa=>j<=i/\Ext w' aa/\w7.heap.size<=aa.heap.size/\bz.heap.size<=aa.heap.size/\Blk aa b3 131 (grC A c i es)/\Blk aa a8 170 (Ve o)/\Blk aa a1 170 (Ve q)/\Blk aa a4 171 (Xp a)/\aa.ownsRow bz.heap.size 174 3 (.slice B i i) i (Qk i (Ur ord kf pf j)) /\
   (∀ u,u<32->a u<4294967296)/\(∀ u,u<i->∀ x,(a u).testBit x=Va (nb0 i es) (ord.take j) u x)/\∀ v,v<i->plc ord v<j->BagAt i es ord v (kf v) (pf v)) (λj _ _ _=>i-j) 0 a0 (λ_=>0) (λ_=>0) sB
  ⟨Nat.zero_le _,c1.trans ad,ad.size,bg.size,bc,br,bp,bo,au,λu hu=>(e6 u hu).1,λu hu x=>?_,λv _ hv=>om⟩ ?_
 .rw[(e6 u om).2];rfl
 clear bc br bp bo au bd b8 O a9 eb b9 af;rintro j a kf pf aa ⟨hj,b4,en,ee,cc,bq,ax,bn,ar,d2,c3,e3⟩;refine ρ ?_;refine ci (λZ=>?_) (λZ=>?_)
 .have lj:j<i:=by have:=oT Z;omega
  clear Z;have cr:j<32:=om
  obtain⟨v,ev⟩:∃ v,v=ord.getD j 0:=⟨_,rfl⟩;have b5:v<i:=by rw[ev];exact cx j lj
  have b6:v<32:=om
  have d5:v∈ord:=b7.2 b5;have dv:pre ord v=ord.take j:=by rw[ev];exact Jgv a3 (c7.symm ▸ lj)
  have f0:plc ord v=j:=by rw[ev];exact Jjp a3 (c7.symm ▸ lj)
  obtain⟨D,bs⟩:∃ D,D=Va (nb0 i es) (ord.take j):=⟨_,rfl⟩;have am:∀ x,Zm (nb0 i es) ord v x=D v x:=λx=>by rw[Zm,dv,bs]
  have e0:NbInv (ord.take j) D:=by rw[bs];exact(Jhl e2).at (a3.sublist (List.take_sublist _ _))
  have d6:v ∉ ord.take j:=by rw[<-dv];exact(Jkf d5).choose_spec.2
  have fc:∀ x,D v x=true->x≠v:=λx J=>(e0.gone v x d6 J).2;have dz:∀ x,D v x=true->x<i:=λx J=>by rw[<-am]at J;exact Jbw (λu x h=>(Jxs e2 h).2.1) J
  rw[<-bs]at c3;have c8:=d2 v b6;refine ρ ?_;refine ixb j cr ?_;refine ρ ?_;refine ld (bq.atc (Il cr)) ?_;rw[ho j lj,<-ev];refine ρ ?_;refine ixb v b6 ?_;refine ρ ?_;refine ld (bn.atc (Ib b6)) ?_;refine ρ ?_;refine bld (Xvr _ _ _) ?_;refine ρ ?_;refine alc zBag ?_;intro f5 ay dn e4 cd;refine ρ ?_;refine stW cd ?_;intro dg cd f2 dm;have C:Ext aa dg:=dm aa dn e4;have dd:=cc.ext C;refine ρ ?_;refine ld (dd.at (i:=0) rfl) ?_;refine ρ ?_;refine Xm (fun (u:Nat) (a':Nat->Nat) (par:Int)=>[(3,.pointer (some ⟨b3,0,none⟩)),(12,.pointer (some ⟨a8,0,none⟩)),(13,.pointer (some ⟨a1,0,none⟩)),(16,.pointer (some ⟨a4,0,none⟩)),(17,.slice B i i),(96,.int .i64 (i:Int)),(97,.int .i64 (j:Int)),(19,.int .i64 (v:Int)),(20,.pointer (some ⟨ay,0,none⟩)),(109,.int .i64 (i:Int)),(110,.int .i64 (u:Int))])
   (λu a' par a5=>u<=i/\GrN (λk=>k=a4∨k=ay) dg a5/\Blk a5 a4 171 (Xp a')/\Blk a5 ay 174 [.int .i64 (v:Int),.int .u32 (a v:Int),.int .i64 par] /\
    (∀ x,x<32->a' x<4294967296)/\(∀ x,x<i->∀ y,(a' x).testBit y=if x<u then Yo v D x y else D x y) /\
    ((par = -1/\∀ x,x<u->D v x=false)∨∃ p:Nat,par=p/\p<u/\D v p=true/\∀ x,x<u->D v x=true->plc ord p<=plc ord x)) (λu _ _=>i-u) 0 a (-1) sB
   ⟨Nat.zero_le _,GrN.refl _ _,bn.ext C,cd,d2,λx J y=>by rw[if_neg om];exact c3 x J y,.inl ⟨rfl,λx J=>om⟩⟩ ?_
  rintro u a' par a5 ⟨hu,a6,aw,a7,ap,bj,aj⟩;refine ρ ?_;refine ci (λZ=>?_) (λZ=>?_)
  .have lu:u<i:=by have:=oT Z;omega
   clear Z;have a2:u<32:=om
   refine ρ ?_;refine ld (a7.at (i:=1) rfl) ?_;refine ρ ?_;refine Iw (s:=a v) (v:=u) om ?_;refine ρ ?_;refine ci (λZ=>?_) (λZ=>?_)
   .rw[Qyx c8,c3 v b5]at Z;have c2:D v u=false:=by simpa using Z
    refine ρ ?_;refine Qp (u+1) a' par sO ⟨om,a6,aw,a7,ap,λx J y=>?_,?_⟩ om
    .rw[bj x J];by_cases e:x=u
     .subst e;rw[if_neg om,if_pos om,Yo,if_neg (by rw[c2];simp)]
     by_cases G:x<u
     .rw[if_pos G,if_pos om]
     rw[if_neg G,if_neg om]
    rcases aj with⟨G,h2⟩|⟨p,G,h2,h3,h4⟩
    .refine .inl ⟨G,λx J=>?_⟩;by_cases e:x=u
     .rw[e];exact c2
     exact h2 x om
    refine .inr ⟨p,G,om,h3,λx J ao=>?_⟩;by_cases e:x=u
    .rw[e,c2]at ao;cases ao
    exact h4 x om ao
   rw[Qyx c8,c3 v b5]at Z;have c2:D v u=true:=by simpa using Z
   have cv:Ext w' a5:=a6.old (b4.trans C) (λk hk=>by
    rcases hk with rfl|rfl
    .have:=c1.size;omega
    have:=b4.size;omega)
   have cq:Blk a5 a1 170 (Ve q):=Jv (ax.ext C) a6 (by
    rintro(h|h)
    .omega
    have:=ax.lt;omega)
   refine ρ ?_;refine Zw (fun (t:Bool)=>[(3,.pointer (some ⟨b3,0,none⟩)),(12,.pointer (some ⟨a8,0,none⟩)),(13,.pointer (some ⟨a1,0,none⟩)),(16,.pointer (some ⟨a4,0,none⟩)),(17,.slice B i i),(96,.int .i64 (i:Int)),(97,.int .i64 (j:Int)),(19,.int .i64 (v:Int)),(20,.pointer (some ⟨ay,0,none⟩)),(109,.int .i64 (i:Int)),(110,.int .i64 (u:Int)),(21,.int .i64 (u:Int)),(131,.bool t)])
    (λt bw=>Ext a5 bw/\(t=true->par = -1∨∃ p:Nat,par=p/\plc ord u<plc ord p)/\(t=false->∃ p:Nat,par=p/\plc ord p<=plc ord u)) ?_ ?_
   .have b1:Ext a5 a5.drew:=(Ext.refl a5).drew;have ag:=a7.ext b1;have ce:=cq.ext b1;refine dr [(0,0),(0,1),(0,2),(0,3),(0,4),(0,5),(0,6),(0,7),(0,8),(0,9),(0,10),(0,11),(0,12)] kr ?_;refine ρd ?_;refine dld (ag.at (i:=2) rfl) ?_;refine ρd ?_;refine dki 122 (λG=>?_) (λG=>?_)
    .have h2:par<0:=oT G;have h3:par = -1:=by
      rcases aj with⟨h4,_⟩|⟨p,h4,_⟩
      .exact h4
      omega
     refine ρd ?_;refine ρ ?_;exact Jb true sB ⟨b1,λ_=>.inl h3,λe=>by cases e⟩
    have h2:¬ par<0:=oF G;obtain⟨p,h4,h5,h6,h7⟩:∃ p:Nat,par=p/\p<u/\D v p=true/\∀ x,x<u->D v x=true->plc ord p<=plc ord x:=by
     rcases aj with⟨h4,_⟩|h4
     .omega
     exact h4
    subst h4;refine ρd ?_;refine dixb u a2 ?_;refine ρd ?_;refine dld (ce.atc (Il a2)) ?_;refine ρd ?_;refine dld (ag.at (i:=2) rfl) ?_;refine ρd ?_;refine dixb p (show p<32 by omega) ?_;refine ρd ?_;refine dld (ce.atc (Il (show p<32 by omega))) ?_;rw[du u lu,du p om];refine ρd ?_;refine ρ ?_;refine Jb _ sB ⟨b1,λe=>.inr ⟨p,rfl,?_⟩,λe=>⟨p,rfl,?_⟩⟩
    .have:=oT e;omega
    have:=oF e;omega
   rintro t bw ⟨b2,em,el⟩;have ac:=a7.ext b2;refine ρ ?_;refine Zw (fun (ai:Int)=>[(3,.pointer (some ⟨b3,0,none⟩)),(12,.pointer (some ⟨a8,0,none⟩)),(13,.pointer (some ⟨a1,0,none⟩)),(16,.pointer (some ⟨a4,0,none⟩)),(17,.slice B i i),(96,.int .i64 (i:Int)),(97,.int .i64 (j:Int)),(19,.int .i64 (v:Int)),(20,.pointer (some ⟨ay,0,none⟩)),(109,.int .i64 (i:Int)),(110,.int .i64 (u:Int)),(21,.int .i64 (u:Int))])
    (λai an=>GrN (λk=>k=ay) bw an/\Blk an ay 174 [.int .i64 (v:Int),.int .u32 (a v:Int),.int .i64 ai]/\((ai = -1/\∀ x,x<u+1->D v x=false)∨∃ p:Nat,ai=p/\p<u+1/\D v p=true/\∀ x,x<u+1->D v x=true->plc ord p<=plc ord x)) ?_ ?_
   .refine ci (λht=>?_) (λht=>?_)
    .refine ρ ?_;refine sto (p:=⟨ay,2,none⟩) (ac.cell 2) (ac.frozen _) ?_;refine ρ ?_;refine Jb (u:Int) sB ⟨GrN.set _ rfl,ac.set 2 _,.inr ⟨u,rfl,Nat.lt_succ_self u,c2,λx J ao=>?_⟩⟩;by_cases e:x=u
     .rw[e];exact nR _
     rcases aj with⟨_,h2⟩|⟨p,G,h2,h3,h4⟩
     .rw[h2 x om]at ao;cases ao
     have h5:=h4 x om ao;rcases em ht with h6|⟨p',h6,h7⟩
     .omega
     have:p=p':=om
     subst this;omega
    obtain⟨p',h6,h7⟩:=el ht;refine ρ ?_;refine Jb par sB ⟨GrN.refl _ _,ac,.inr ?_⟩;rcases aj with⟨G,h2⟩|⟨p,G,h2,h3,h4⟩
    .omega
    have:p=p':=om
    subst this;refine⟨p,G,om,h3,λx J ao=>?_⟩;by_cases e:x=u
    .rw[e];exact h7
    exact h4 x om ao
   rintro ai an ⟨cy,co,d9⟩;have bi:a4≠ay:=om
   have cp:Blk an a4 171 (Xp a'):=Jv (aw.ext b2) cy bi;have b1:Ext an an.drew:=(Ext.refl an).drew;have av:=cp.ext b1;have ag:=co.ext b1;have e5:=ap u a2;have ec:=Kd a2;have cm:=Kd b6;refine ρ ?_;refine drN (λ_=>False) 15 [(0,0),(0,1),(0,2),(0,3),(0,4),(0,5),(0,6),(0,7),(0,8),(0,9),(0,10),(0,11),(0,12),(0,13),(2,14)] kr ?_;refine ρn ?_;refine nixb u a2 ?_;refine ρn ?_;refine nld (Jl (av.atc (Ib a2)) (λe=>e)) ?_;refine ρn ?_;refine nld (Jl (ag.at (i:=1) rfl) (λe=>e)) ?_;refine ρn ?_;refine Jhf a2 ?_;refine ρn ?_;refine Jhf b6 ?_;refine ρn ?_;refine nixb u a2 ?_;refine ρn ?_;refine Xh ?_;have c6:=Jbj e5 c8;have cw:=Jbj ec cm;obtain⟨nw,df⟩:∃ nw,nw=Kj (a' u ||| a v) (2^u ||| 2^v):=⟨_,rfl⟩;have er:nw<4294967296:=by rw[df];exact Qbr c6
   have ed:bits .andNot .u32 (bits .or .u32 (a' u:Int) (a v:Int)) (bits .or .u32 ((2^u:Nat):Int) ((2^v:Nat):Int))=(nw:Int):=by
    rw[Jjc e5 c8,Jjc ec cm,Jnb c6 cw,df]
   refine sto (p:=⟨a4,u,none⟩) (av.cell u |>.trans (Ib a2)) (av.frozen _) ?_;rw[ed];have bm:=av.set u (.int .u32 (nw:Int));rw[Jfs a' a2]at bm;have e1:GrN (λk=>k=a4) an.drew (an.drew.setCell ⟨a4,u,none⟩ (.int .u32 (nw:Int))):=GrN.set _ rfl;refine ω5 ?_;refine Ug ?_;refine ρn ?_;refine ρ ?_;refine Qp (u+1) (upd a' u nw) ai sO ⟨om,?_,bm,ag.far (λe=>bi e.symm) _,λx J=>?_,λx J y=>?_,d9⟩ om
   .exact((a6.trans (GrN.ext b2)).trans (cy.mono λk _ hk=>.inr hk)).trans ((GrN.ext b1).trans (e1.mono λk _ hk=>.inl hk))
   .by_cases e:x=u
    .rw[e,Ja];exact er
    rw[Jg _ _ e];exact ap x J
   by_cases e:x=u
   .subst e;rw[Ja,if_pos (Nat.lt_succ_self x),df,Jnn c6 cw,Nat.testBit_or,Nat.testBit_or,Jym,Jym,bj x J,if_neg (Nat.lt_irrefl x),c3 v b5,Yo,if_pos c2];rw[Qwk x y,Qwk v y];cases D x y<;>cases D v y<;>cases (y != x)<;>cases (y != v)<;>rfl
   rw[Jg _ _ e,bj x J];by_cases G:x<u
   .rw[if_pos G,if_pos om]
   rw[if_neg G,if_neg om]
  have ek:u=i:=by have:=oF Z;omega
  subst ek;clear Z;have cv:Ext w' a5:=a6.old (b4.trans C) (λk hk=>by
   rcases hk with rfl|rfl
   .have:=c1.size;omega
   have:=b4.size;omega)
  have ba:∀ {g t:Nat} {cs:List Value},Blk aa g t cs->g≠a4->Blk a5 g t cs:=λhB G=>Jv (hB.ext C) a6 (by
   rintro(h|h)
   .exact G h
   have:=hB.lt;omega)
  have aq:a5.ownsRow bz.heap.size 174 3 (.slice B u u) u (Qk u (Ur ord kf pf j)):=Js (Jk ar C) a6 (λg eg hk=>by
   obtain⟨_,_,_,_,c9⟩:=Jy ar;have h5:=c9 g eg;rcases hk with rfl|rfl<;>omega)
  refine ρ ?_;refine ldW a7 ?_;refine ρ ?_;refine ixq 3 v (Rd.own aq) b5 ?_;refine ρ ?_;refine stoE (cs:=[.int .i64 (v:Int),.int .u32 (a v:Int),.int .i64 par]) aq b5 ?_ Jks;intro bw bb bh;rw[Xxh (λv _=>Xym ord kf pf j v) b5 rfl]at bb;have eg:Qk u (upd (Ur ord kf pf j) v [.int .i64 (v:Int),.int .u32 (a v:Int),.int .i64 par])=Qk u (Ur ord (upd kf v (a v)) (upd pf v par) (j+1)):=by
   refine Jcq λx J=>?_;by_cases e:x=v
   .subst e;rw[Ja,Ur,if_pos om];simp only[Qr,Ja]
   rw[Jg _ _ e];have dx:plc ord x≠j:=λe'=>by
    have G:=(Gf a3 (b7.2 J)).2;rw[e',<-ev]at G;exact e G.symm
   unfold Ur;by_cases G:plc ord x<j
   .rw[if_pos G,if_pos om];simp only[Qr,Jg _ _ e]
   rw[if_neg G,if_neg om]
  rw[eg]at bb;have ab:∀ {g t:Nat} {cs:List Value},Blk a5 g t cs->g<bz.heap.size->Blk bw g t cs:=λhB G=>hB.grown bh (λe=>by
   obtain⟨_,_,_,_,c9⟩:=Jy aq;have h5:=c9 _ e.symm;omega)
  have b2:Ext w' bw:=Qg cv bh (λg eg=>by
   obtain⟨_,_,_,_,c9⟩:=Jy aq;have h5:=c9 g eg;have:=c1.size;have:=ae.size;omega)
  have f4:=ae.size;refine ρ ?_;refine Kb (j+1) a' (upd kf v (a v)) (upd pf v par) sO ⟨om,b2,by have:=C.size;have:=a6.size;have:=bh.size;omega,by have:=C.size;have:=a6.size;have:=bh.size;omega,ab (ba cc om) om,ab (ba bq om) om,ab (ba ax om) om,ab aw dh,bb,ap,λx J y=>?_,λx J eu=>?_⟩ om
  .rw[bj x J,if_pos J,Qc 0 (c7.symm ▸ lj),<-ev,Qqt,<-bs];rfl
  by_cases e:x=v
  .subst e;rw[Ja,Ja];refine⟨c8,λy=>by rw[c3 x b5,am],?_⟩;rcases aj with⟨G,h2⟩|⟨p,G,h2,h3,h4⟩
   .refine .inl ⟨G,λy=>?_⟩;rw[am];cases hb:D x y with
    | false=>rfl
    | true=>exact absurd (h2 y (dz y hb)) (by rw[hb];simp)
   exact .inr ⟨p,G,by rw[am];exact h3,λy hy=>h4 y (dz y (by rw[<-am];exact hy)) (by rw[<-am];exact hy)⟩
  rw[Jg _ _ e,Jg _ _ e];refine e3 x J ?_;have dx:plc ord x≠j:=λe'=>by
   have G:=(Gf a3 (b7.2 J)).2;rw[e',<-ev]at G;exact e G.symm
  omega
 have ex:j=i:=by have:=oF Z;omega
 subst ex;clear Z;refine ρ ?_;refine Vo ⟨bf.trans b4,B,kf,pf,rfl,?_,λv hv=>?_⟩
 .have e:Qk j (Ur ord kf pf j)=Qk j (Qr kf pf):=Jcq λv hv=>by
   have:=(Gf a3 (b7.2 hv)).1;rw[Ur,if_pos om]
  rw[e]at ar;exact Jbh ar (by have:=c4.size;have:=ae.size;omega)
 have:=e3 v hv (by have:=(Gf a3 (b7.2 hv)).1;omega);rw[<-ak];exact this
open Go.RowKit Pl Go.Wk
variable {ca cb n v:Nat}{pf:Nat->Int}
theorem Xxv{kf:Nat->Nat}(hv:v<32)(hk:kf v<4294967296)(w:World): Ret Tryz.prog 103 [.agg (Qr kf pf v).toArray] w λu w'=>u=.int .u32 ((kf v ||| 2^v:Nat):Int)/\Ext w w':=by
 refine Jz Tryz.func103 Tryz.ntmps103 rfl kr rfl ?_;refine ρ ?_;refine bx (cs:=Qr kf pf v) ?_;intro D b G O J;refine ρ ?_;refine ld (J.at (i:=0) rfl) ?_;refine ρ ?_;refine ld (J.at (i:=0) rfl) ?_;refine ρ ?_;refine cf ?_ ?_
 .grind
 have o:Ext D D.drew:=(Ext.refl D).drew;have C:=J.ext o;refine ρ ?_;refine dr [(0,0),(0,1),(0,2),(0,3),(0,4),(0,5),(0,6)] kr ?_;refine ρd ?_;refine dld (C.at (i:=1) rfl) ?_;refine ρd ?_;refine dld (C.at (i:=0) rfl) ?_;refine ρd ?_;refine dsl32 hv ?_;refine ρd ?_;refine ρ ?_;refine Jj ⟨?_,G.trans o⟩;rw[Jjc hk (Kd hv)]
def Jdm(n m:Nat)(vars:Nat->List Nat)(rs:Nat->List Row)(s:Nat)(l:List Row): Prop:=Lt [] l/\(∀ x,x∈l↔∃ z:Row,z.length=n/\x=pmR (bk s 32) z/\Ke m vars rs s z)/\l.length<=65536
def Yf(s:Nat)(l:List Row): Atm:=⟨nz (bk s 32),(bk s 32).length,l⟩
theorem Xyh{w:World}{ts:List TA}{Aa B:Option Addr}{vars:Nat->List Nat}{rs:Nat->List Row}{kf:Nat->Nat}(hn32:n<=32)(hok:∀ v,v<n->MOk n ts vars rs (kf v ||| 2^v))(hR:Rd w 3 Aa ts.length (atC ts))(hle:ts.length<=ca)(hat:∀ p∈ts,AtV w p.1 p.2)(hB:Rd w 3 B n (Qk n (Qr kf pf)))(hk:∀ v,v<n->kf v<4294967296)(hcap:∀ v,v<n->∀ l:List Row,Lt [] l->(∀ x∈l,∃ z:Row,z.length=n/\x=pmR (bk (kf v ||| 2^v) 32) z/\Ke ts.length vars rs (kf v ||| 2^v) z)->l.length<=65536):
  Ret Tryz.prog 67 [.int .i64 (n:Int),.slice B n cb,.slice Aa ts.length ca] w λu w'=>Ext w w'/\∃(va:Value) (st:Int) (R:Nat->List Row),u=.tuple #[va,.int .i64 st,.int .i64 0] /\
   Off (λk=>k<w.heap.size) w' (λx=>GV 3 AtG x va ((List.range n).map λv=>Yf (kf v ||| 2^v) (R v)))/\∀ v,v<n->Jdm n ts.length vars rs (kf v ||| 2^v) (R v):=by
 refine Jz Tryz.func67 Tryz.ntmps67 rfl kr rfl ?_;refine ρ ?_;refine Jqs (fun (v:Nat) (va:Value) (st:Int) (R:Nat->List Row)=>[(0,.int .i64 (n:Int)),(2,.slice Aa ts.length ca),(9,va),(10,.int .i64 st),(16,.slice B n cb),(17,.int .i64 (n:Int)),(18,.int .i64 (v:Int))])
  (λv va st R w'=>v<=n/\Ext w w'/\OwnG 100 3 AtG w' w.heap.size va ((List.range v).map λu=>Yf (kf u ||| 2^u) (R u))/\∀ u,u<v->Jdm n ts.length vars rs (kf u ||| 2^u) (R u)) (λv _ _ _=>n-v) 0 (.slice none 0 0) 0 (λ_=>[]) sB
  ⟨Nat.zero_le _,Ext.refl _,OwnG.nil _ _,λu hu=>om⟩ ?_
 rintro v va st R w1 ⟨hv,G,a6,b2⟩;refine ρ ?_;refine ci (λhc=>?_) (λhc=>?_)
 .have lv:v<n:=by have:=oT hc;omega
  clear hc;have af:=hB.ext G;have a5:∀ j u,(Qr kf pf v)[j]?=some u->w1.cell? ((adr B (v*3)).add j)=some u:=λj u hu=>by
   have hj:j<3:=by grind [Nat.lt_or_ge,List.getElem?_eq_none,Qr]
   rw[Qo];exact af.cell ((Vh (sz:=3) (λ_ _=>rfl) lv hj).trans hu)
  refine ρ ?_;refine ixq 3 v af lv ?_;refine ρ ?_;refine lds (cs:=Qr kf pf v) a5 ?_;refine ρ ?_;refine alc zBag ?_;intro w2 bf au ad O;refine ρ ?_;refine stb (cs':=Qr kf pf v) O ?_ Jks;intro w3 O bb ar;have a9:Ext w1 w3:=ar w1 au ad;refine ρ ?_;refine lds (cs:=Qr kf pf v) (λj u hu=>O.at hu) ?_;refine ρ ?_;refine cl (Xxv om (hk v lv) w3) ?_;rintro u w4 ⟨rfl,aq⟩;have D:=a9.trans aq;have o:=G.trans D;refine ρ ?_;refine cl (Qst (hok v lv) (hR.ext o) hle (λp hp=>(hat p hp).ext o) (hcap v lv)) ?_;rintro u w5 ⟨ap,⟨p1,p2,p3⟩,ak,l,rfl,a2,aw,ab,ax⟩;have b4:=a2.here;obtain⟨⟨PA,pc,ai,b7,b6,b5⟩,ah,Z⟩:=id b4;simp only at ai ah;obtain⟨a7,PG,a4,_,ag,_⟩:=id Z;simp only at ag;subst ai;subst ah;subst ag;refine ρ ?_;refine alc Yk ?_;intro w6 be ao ac J;refine ρ ?_;refine stb (cs':=[.slice PA (nz (bk (kf v ||| 2^v) 32)).length pc,.int .i64 ((bk (kf v ||| 2^v) 32).length:Int),.slice PG a7.length a4]) J ?_ (Kg rfl)
  intro w7 J ba an;have a1:Ext w5 w7:=an w5 ao ac;refine ρ ?_;refine ldW J ?_;refine ρ ?_;refine bsl (Jvl _ _ _ PA PG _ pc _ a4 _ rfl rfl rfl) ?_;intro w8 b8 a8 bc b3;have C:=((D.trans ap).trans a1).trans a8;obtain⟨_,_,_,_,ae⟩:=a6.form;have hΦ:Off (Xq w.heap.size va) w8 (λu=>AtG u [.slice PA (nz (bk (kf v ||| 2^v) 32)).length pc,.int .i64 ((bk (kf v ||| 2^v) 32).length:Int),.slice PG a7.length a4] (Yf (kf v ||| 2^v) l)):=by
   refine((a2.imp λu h=>⟨_,rfl,h⟩).mono λk _ ay=>?_).ext (a1.trans a8);rcases ay with h'|h'
   .exact nM h' o.size
   exact nM (ae k h').2 D.size
  refine ρ ?_;refine apG EA (Φ:=AtG) (a6.ext C) b3 rfl (Kg rfl) hΦ (by simp;omega) om (G.trans C).size ?_;intro aj w9 bd b1 b9;have am:Ext w w9:=Qg (G.trans C) b1 (λg eg=>(ae g eg).1);obtain⟨a3,aa⟩:∃ a3:Int,a3=IntKind.i64.wrap (st+ak):=⟨_,rfl⟩;refine ρ ?_;rw[<-aa];refine ρ ?_;refine Kb (v+1) aj a3 (upd R v l) sO ⟨om,am,?_,λu hu=>?_⟩ om
  .rw[List.range_succ,List.map_append,List.map_singleton,Ja];grind [List.range,Yf,kf,upd,List.map_congr_left,List.mem_range.1,Jg]
  by_cases e:u=v
  .subst e;rw[Ja];exact⟨aw,ab,ax⟩
  repeat grind [Jg]
 have av:v=n:=by have:=oF hc;omega
 subst av;clear hc;refine ρ ?_;exact Ge ⟨G,va,st,R,rfl,a6.off (by simp;omega),b2⟩
end Go.Proofs.YtbcdghbonlifdaaGreatDoor
