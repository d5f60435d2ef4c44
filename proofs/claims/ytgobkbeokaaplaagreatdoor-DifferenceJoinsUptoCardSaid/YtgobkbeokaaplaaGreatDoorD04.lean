/- Part 4. -/
import Derived.Test.YtgobkbeokaaplaaGreatDoorD03
import Derived.Laws.BitsAllLaws
import Derived.Laws.CopyRow
import Derived.Test.YtgobkbeokaaplaaGreatDoorSh
import Derived.Lib.AppendStr
set_option linter.unusedVariables false
set_option maxRecDepth 100000
set_option maxHeartbeats 40000000
namespace Go.Proofs.YtgobkbeokaaplaaGreatDoor
open Go.RowKit Pl Go.Wk
attribute [local irreducible] WC WL QX WD WDB WP WN WG
variable {vs:List Nat}{cs xs:List Value}{ca d g i m n q:Nat}{vars:Nat->List Nat}{G G' L e p:Nat->Nat}{N N' NY bx':Nat->Prop}{v x y yv:Value}{w w1 w2:World}
structure YS(s:Nat)(yv:Value)(bx:Nat->Prop)(Y:Nat->List Row->World->Prop): Prop where
 keep:∀ base l w w',Y base l w->GrN (λk=>s<=k/\k<base) w w'->Y base l w'
 call:∃ fid first cap,yv=.func (.func fid) first cap/\∀ base l w vr z,base<=w.heap.size->Y base l w->RowV w vr z->l.length<65536->Ret Tryz.prog fid (first.toList++[vr]++cap.toList) w λr w'=>r=.bool true/\Y base (l++[z]) w'/\GrN (λk=>bx k∨base<=k) w w'
theorem Jvx(ha:Xy vs)(hl:∀ u∈vs,u<n): vs.length<=n:=by
 have key:∀ k,lv vs k<=k:=by
  intro k;induction k with
  | zero=>rw[Jwq];exact nR _
  | succ k ih=>
   by_cases h:k∈vs
   repeat grind [Yy,Jqh]
 have:=key n;rwa [Qxb hl]at this
theorem Jgv{cs:List Nat}(h:i<cs.length): (nz cs).getD i 0=(cs.getD i 0:Int):=by
 simp[nz,List.getD,List.getElem?_eq_getElem h]
structure RunOk(n:Nat)(ts:List TA)(vars:Nat->List Nat)(rs:Nat->List Row): Prop where
 n32:n<=32
 m32:ts.length<=32
 at_:∀ i,i<ts.length->(ts.getD i ta0).2=⟨nz (vars i),(vars i).length,rs i⟩
 asc:∀ i,i<ts.length->Xy (vars i)
 lt:∀ i,i<ts.length->∀ u∈vars i,u<n
 cov:∀ v,v<n->∃ i,i<ts.length/\v∈vars i
 srt:∀ i,i<ts.length->Lt [] (rs i)
 len:∀ i,i<ts.length->∀ r∈rs i,r.length=(vars i).length
 big:∀ i,i<ts.length->(rs i).length<=65536
theorem Jbk{base base' e sz:Nat}(h:w.ownsRow base e sz v m xs)(hb:base'<=base): w.ownsRow base' e sz v m xs:=by
 rcases h with⟨D,⟨rfl,rfl⟩|⟨g,u,j,rfl,i,G⟩⟩
 .exact⟨D,.inl ⟨rfl,rfl⟩⟩
 exact⟨D,.inr ⟨g,u,j,rfl,Nat.le_trans hb i,G⟩⟩
theorem _root_.Go.Wk.Blk.sub2{t:TypeId}(h:Blk w g t cs)(h0:cs[i]?=some x)(h1:cs[i+1]?=some y): ∀ j u,[x,y][j]?=some u->w.cell? ((⟨g,i,none⟩:Addr).add j)=some u:=λj u D=>by
 match j,D with
 | 0,D=>simp only[List.getElem?_cons_zero,Option.some.injEq]at D;subst D;exact h.sub h0
 | 1,D=>simp only[List.getElem?_cons_succ,List.getElem?_cons_zero,Option.some.injEq]at D;subst D;exact h.sub h1
 | j+2,D=>simp at D
def Gd(d t:Nat): List Value:=(List.range d).map λj=>.int .i64 ((if j<t then j else 0:Nat):Int)
theorem Xxm(d:Nat): (madeCells (Value.int .i64 0).cells (d*1)).toList=Gd d 0:=by
 rw[Nat.mul_one];have e:(madeCells (Value.int .i64 0).cells d).toList=List.replicate d (Value.int .i64 0):=Us _ _;rw[e];simp[Gd,List.map_const']
theorem Xxl(d:Nat): Gd d d=Je (nz (List.range d)):=by grind [Gd,Je,nz,List.map_map,List.map_congr_left,List.mem_range.1]
theorem Xxj{t:Nat}(h:t<d): (Gd d t).set t (.int .i64 (t:Int))=Gd d (t+1):=by
 apply List.ext_getElem?
 grind [Gd,List.getElem?_range]
theorem Xxk(d t:Nat): (Gd d t).length=d:=by simp[Gd]
theorem Qnv(A:Option Addr)(n c:Nat): ∀ u∈[Value.slice A n c],u.oneCell'=true:=λu i=>by rw[List.mem_singleton.1 i];rfl
def itp(g:Nat): Value:=.pointer (some ⟨g,0,none⟩)
def Vy(vars:Nat->List Nat)(G:Nat->Nat)(q:Nat)(v:Nat): List Value:=((List.range q).filter λi=>decide (v∈vars i)).map λi=>itp (G i)
theorem Xxt(vars:Nat->List Nat)(G:Nat->Nat)(q v:Nat): (Vy vars G q v).length<=q:=by grind [Vy,List.length_map,List.length_filter_le,List.range,List.length_range]
theorem Xxs(vars:Nat->List Nat)(G:Nat->Nat)(q v:Nat): Vy vars G (q+1) v=Vy vars G q v++if v∈vars q then[itp (G q)] else[]:=by grind [Vy,List.range_succ,List.filter_cons_of_pos,List.filter_cons_of_neg]
theorem Xxv(h:∀ j,j<q->G j=G' j)(v:Nat): Vy vars G q v=Vy vars G' q v:=by grind [Vy,List.map_congr_left,List.mem_range.1,List.mem_filter.1]
theorem _root_.Go.Wk.GrN.cut(hx:Ext w w1)(hg:GrN N w1 w2)(hN:∀ k,k<w.heap.size->N k->N' k): GrN N' w w2 :=
 ⟨hg.os.trans hx.os,hg.tape.trans hx.tape,hg.output.trans hx.output,Nat.le_trans hx.size hg.size,λk i hn=>(hg.block k (nM i hx.size) (λe=>hn (hN k i e))).trans (hx.block k i)⟩
theorem Cfg.steps{c:JC}{Y:List Row->World->Prop}{z:Row}{f h:Nat->Nat->Nat}{l:List Row}(H:Cfg c Y w z L p e f h l)(hok:JOk c)(hY:YC c Y NY){st:Int}(hJ:Blk w c.J 313 [c.rowv,c.ja,.int .i64 st,c.yv])(st':Int):
  Cfg c Y (w.setCell ⟨c.J,2,none⟩ (.int .i64 st')) z L p e f h l/\GrN c.NI w (w.setCell ⟨c.J,2,none⟩ (.int .i64 st')):=by
 have u:GrN (λk=>k=c.J) w (w.setCell ⟨c.J,2,none⟩ (.int .i64 st')):=GrN.set _ rfl;have j:GrN c.NI w (w.setCell ⟨c.J,2,none⟩ (.int .i64 st')):=GrN.set _ (.inl rfl);refine⟨⟨H.env.gr (j.mono λk _ D=>hok.sub k D),λi hi=>?_,Ja H.row u (λg O=>H.rowJ O),H.zl,⟨_,hJ.set 2 _⟩,hY.keep _ _ _ H.y j⟩,j⟩;obtain⟨st,G⟩:=H.its i hi;exact⟨st,Jc G u (hok.gj i hi)⟩
theorem Qyj(h:Xy vs): vs.Nodup:=h.imp λh e=>by omega
theorem Jns(n:Nat): (madeCells (Value.slice none 0 0).cells (n*1)).toList=List.replicate n (Value.slice none 0 0):=by rw[Nat.mul_one];exact Us _ _
theorem Qhc{ts:List TA}{Aa:Option Addr}{rs:Nat->List Row}{Y:Nat->List Row->World->Prop}(hok:RunOk n ts vars rs)(hR:Rd w 3 Aa ts.length (atC ts))(hat:∀ p∈ts,AtV w p.1 p.2)(hbx:∀ k,bx' k->k<w.heap.size)(hY:YS w.heap.size yv bx' Y)(hY0:∀ w',Ext w w'->Y w'.heap.size [] w')(hcap:∀ l:List Row,Lt [] l->(∀ x∈l,Vm n ts.length vars rs x)->l.length<=65536):
  Ret Tryz.prog 196 [.int .i64 (n:Int),.slice Aa ts.length ca,yv] w λu w'=>GrN bx' w w'/\∃ st base l,u=.tuple #[.int .i64 st,.int .i64 0]/\base<=w'.heap.size/\Y base l w'/\Lt [] l/\∀ x,x∈l↔Vm n ts.length vars rs x:=by
 have dn:=hok.n32;have dt:=hok.m32;obtain⟨m,hm⟩:∃ m,m=ts.length:=⟨_,rfl⟩;obtain⟨bi,first,bj,f0,d7⟩:=hY.call;subst f0;refine enE Tryz.func196 Tryz.ntmps196 ?_;refine ρ ?_;have de:Ext w w.drew:=(Ext.refl w).drew;refine drG kr ?_;refine Ie (fuel':=5) [(0,0),(0,2),(0,4)] #[true,false,true,false,true,false,false,false] kr kr rfl ?_;refine ρd ?_;refine Io ?_;refine gcut 3 #[true,true,true,true,true,false,false,false] (fun (x:Option Addr×Option Addr)=>[(0,.int .i64 (n:Int)),(1,.slice Aa ts.length ca),(2,.func (.func bi) first bj),(24,.slice x.1 n n),(26,.slice x.2 n n),(27,.func (.func bi) first bj)])
  (λx w'=>Ext w.drew w'/\Vh w' w.heap.size (.slice x.1 n n) (List.replicate n V0)/\w'.ownsRow w.heap.size 314 1 (.slice x.2 n n) n (List.replicate n (.slice none 0 0))) ?_ ?_
 .rintro⟨Ra,Ba⟩ w1 ⟨dj,az,cm⟩;refine Ie (fuel':=0) [(1,5),(1,6),(0,7)] #[true,true,true,true,true,true,true,true] kr kr rfl ?_;refine Gc ?_;refine bld (Xkk _ _ _ _ _ _ _) ?_;refine Jd (Gb (Ext.refl _) ?_);refine Gc ?_;refine bx ?_;intro w2 J a2 hJ f7;refine Jd (Gb a2 ?_);refine ρd ?_;refine Io ?_;refine gend kr ?_;refine ρ ?_;have ac:Ext w w2:=(de.trans dj).trans a2;have e7:w.heap.size<=J:=nL (de.trans dj).size hJ;obtain⟨K,hK⟩:∃ K:RK,K=⟨n,vars,rs,w.heap.size,J,Ra,Ba,.func (.func bi) first bj⟩:=⟨_,rfl⟩;have H2:RB K 0 ⟨λ_=>0,λ_=>none,λ_=>0,λ_=>0,.slice none 0 0,λ_=>.slice none 0 0⟩ (λ_=>[]) [] w2:=by
   subst hK;refine⟨f7,Jk az a2,?_,⟨λi hi=>Zw _ _ _ _,λi j g _ _ _ e=>(by cases e)⟩,Zw _ _ _ _,λv g _ e=>(by cases e),λj hj=>om,λj hj=>om,λj k hj=>om,λi j hi=>om,λi j _ hj=>om,λj hj=>om,λj hj=>om,e7⟩;have:=Jk cm a2;have e:List.replicate n (Value.slice none 0 0)=(List.range n).map λ_=>Value.slice none 0 0:=by simp[List.map_const']
   rw[e]at this;exact this
  clear az cm;refine Qf (fun (i:Nat)=>[(0,.int .i64 (n:Int)),(1,.slice Aa ts.length ca),(8,.pointer (some ⟨J,0,none⟩)),(30,.slice Aa ts.length ca),(31,.int .i64 (ts.length:Int)),(32,.int .i64 (i:Int))])
   (λi w'=>i<=ts.length/\Ext w2 w'/\∀ j,j<i->rs j≠[]) (λi=>ts.length-i) 0 sB ⟨Nat.zero_le _,Ext.refl _,λj hj=>om⟩ ?_
  rintro i w3 ⟨hi,a1,ce⟩;refine ciR (λh=>?_) (λh=>?_)
  .have li:i<ts.length:=by have:=oT h;omega
   have ed:=hR.ext (ac.trans a1);obtain⟨t1,t2,t3,a,hp⟩:∃ t1 t2 t3 a,ts.getD i ta0=((t1,t2,t3),a):=⟨_,_,_,_,rfl⟩;have a9:AtV w (t1,t2,t3) a:=by have:=hat _ (Jyv rfl li);rw[hp]at this;exact this
   have ea:a=⟨nz (vars i),(vars i).length,rs i⟩:=by have:=hok.at_ i li;rw[hp]at this;exact this
   clear h;obtain⟨⟨D,d,e1,hd,f9,dz⟩,e2,a7⟩:=id a9;simp only at e1 e2;subst e1;subst e2;obtain⟨ps,G,gc,_,ay,_⟩:=id a7;simp only at ay;subst ay;refine Qu 3 i ed li ?_;refine Jt (cs:=[.slice D a.vars.length d,.int .i64 (a.ar:Int),.slice G ps.length gc]) (λj u hu=>Jvv ed rfl li (by rw[hp];exact hu)) ?_;refine Jv Yf ?_;intro w4 b a6 hb hB;refine Qw hB ?_ a9.one;intro w5 fg d4 cx;have au:Ext w3 w5:=cx w3 a6 hb;refine Jt (cs:=[.int .i64 (a.ar:Int),.slice G ps.length gc]) (fg.sub2 (i:=1) rfl rfl) ?_;refine clR (Jwd ((a9.ext (((ac.trans a1).trans au))).rel)) ?_;rintro u w6 ⟨rfl,bo⟩;refine ciR (λh=>?_) (λh=>?_)
   .refine ρ ?_;have c6:Ext w w6:=((ac.trans a1).trans au).trans bo;refine Vx ⟨(GrN.ext c6),0,w6.heap.size,[],rfl,Nat.le_refl _,hY0 w6 c6,List.Pairwise.nil,λx=>⟨λhx=>(by cases hx),λhx=>?_⟩⟩;have Z:=hx.2 i li;have h2:a.rows.length=0:=by have:=Zv h;omega
    rw[ea]at h2;have h3:rs i=[]:=List.eq_nil_of_length_eq_zero h2;rw[h3]at Z;cases Z
   have h2:rs i≠[]:=λe=>by
    have h3:=Xo h;rw[ea,e]at h3;exact h3 rfl
   refine ρ ?_;refine Qy (i+1) sO ⟨om,(a1.trans au).trans bo,λj hj=>?_⟩ om;by_cases e:j=i
   .rw[e];exact h2
   exact ce j om
  have d3:i=ts.length:=by have:=oF h;omega
  subst d3;refine ρ ?_;refine Jo (fun (q:Nat) (S:RS)=>[(0,.int .i64 (n:Int)),(8,.pointer (some ⟨J,0,none⟩)),(11,S.va),(41,.slice Aa ts.length ca),(42,.int .i64 (ts.length:Int)),(43,.int .i64 (q:Int))])
   (λq S w'=>q<=ts.length/\Ext w w'/\RB K q S (Vy vars S.G q) ((List.range q).map λj=>itp (S.G j)) w') (λq _=>ts.length-q) 0 ⟨λ_=>0,λ_=>none,λ_=>0,λ_=>0,.slice none 0 0,λ_=>.slice none 0 0⟩ sB
   ⟨Nat.zero_le _,ac.trans a1,H2.ext a1⟩ ?_
  rintro q S w4 ⟨hq,a6,H4⟩;refine ciR (λh=>?_) (λh=>?_)
  .have lq:q<ts.length:=by have:=oT h;omega
   have ec:=hR.ext a6;obtain⟨t1,t2,t3,a,hp⟩:∃ t1 t2 t3 a,ts.getD q ta0=((t1,t2,t3),a):=⟨_,_,_,_,rfl⟩;have a9:AtV w (t1,t2,t3) a:=by have:=hat _ (Jyv rfl lq);rw[hp]at this;exact this
   have ea:a=⟨nz (vars q),(vars q).length,rs q⟩:=by have:=hok.at_ q lq;rw[hp]at this;exact this
   subst ea;clear h;obtain⟨⟨D,d,e1,hd,f9,dz⟩,e2,a7⟩:=id a9;simp only at e1 e2;subst e1;subst e2;obtain⟨ps,G,gc,_,ay,_⟩:=id a7;simp only at ay;subst ay;have dm:=Qg (vars q);have fo:(vars q).length<=n:=Jvx (hok.asc q lq) (hok.lt q lq);refine Qu 3 q ec lq ?_;refine Jt (cs:=[.slice D (nz (vars q)).length d,.int .i64 ((vars q).length:Int),.slice G ps.length gc]) (λj u hu=>Jvv ec rfl lq (by rw[hp];exact hu)) ?_;refine Jv Yf ?_;intro w5 b cx hb hB;refine Qw hB ?_ a9.one;intro w6 en bw bo;have c7:Ext w4 w6:=bo w4 cx hb;have H6:=H4.ext c7;refine ldR (en.at (i:=0) rfl) ?_;refine ρ ?_;rw[dm];refine mkn EI (vars q).length om (by unfold maxLen;omega) ?_;intro w7 O df d1 fr;rw[Xxm]at d1;refine ρ ?_;refine Qf (fun (t:Nat)=>[(0,.int .i64 (n:Int)),(8,.pointer (some ⟨J,0,none⟩)),(11,S.va),(41,.slice Aa ts.length ca),(42,.int .i64 (ts.length:Int)),(43,.int .i64 (q:Int)),(13,.pointer (some ⟨b,0,none⟩)),(14,.slice O (vars q).length (vars q).length),(51,.slice O (vars q).length (vars q).length),(52,.int .i64 ((vars q).length:Int)),(53,.int .i64 (t:Int))])
    (λt w'=>t<=(vars q).length/\Ext w6 w'/\w'.ownsRow w6.heap.size 3 1 (.slice O (vars q).length (vars q).length) (vars q).length (Gd (vars q).length t)) (λt=>(vars q).length-t) 0 sB
    ⟨Nat.zero_le _,df,d1⟩ ?_
   clear d1 df;rintro t w8 ⟨ht,bn,b6⟩;refine ciR (λh=>?_) (λh=>?_)
   .have lt:t<(vars q).length:=by have:=oT h;omega
    clear h;refine ixR t (Rd.own b6) lt ?_;obtain⟨s1,s2,s3,s4,s5⟩:=Zt b6 (q:=t) om (.int .i64 (t:Int));have e6:t<(Gd (vars q).length t).length:=by rw[Xxk];exact lt
    refine Xq (s1.trans (gE e6)) s2 ?_;rw[Xxj lt]at s3;have aq:Ext w6 (w8.setCell (adr O t) (.int .i64 (t:Int))):=Ql bn s5 (λk hk=>by
     obtain⟨_,_,_,_,hf⟩:=Jy b6;exact(hf k hk).1)
    refine ρ ?_;exact Qy (t+1) sO ⟨om,aq,s3⟩ om
   have cz:t=(vars q).length:=by have:=oF h;omega
   subst cz;clear h;rw[Xxl]at b6;have em:=en.ext bn;have c5:Ext w w8:=(a6.trans c7).trans bn;have d5:IntsV w8 (.slice O (vars q).length (vars q).length) (nz (List.range (vars q).length)):=by
    have e:(nz (List.range (vars q).length)).length=(vars q).length:=by rw[Qg,List.length_range]
    exact⟨O,(vars q).length,by rw[e],by rw[e];exact nR _,by rw[e];omega,by rw[e];exact Rd.own b6⟩
   refine Jt (cs:=[.int .i64 ((vars q).length:Int),.slice G ps.length gc]) (em.sub2 (i:=1) rfl rfl) ?_;refine clR (Qdn (a9.ext c5).rel (hok.srt q lq) (hok.len q lq) d5 (show(vars q).length<=32 by omega) (hok.big q lq)) ?_;rintro u w9 ⟨aq,tv,rfl,⟨bl,rfl⟩,e9⟩;refine Jv Jdg ?_;intro fn b2 di fa ff;refine Qw (cs':=[.slice bl (vars q).length (vars q).length]) ff ?_ (Qnv _ _ _);intro dd eo fj dh;have ae:Ext w9 dd:=dh w9 di fa;refine Qk eo ?_;refine clR (Qdp dd) ?_;rintro u dc ⟨av,g,rfl,dx,cn⟩;have H8:=H6.ext bn;have e8:Off (λk=>k<w8.heap.size) w9 (λu=>TriA u bl (K.vars q).length (K.rs q)):=by
    subst hK;exact e9.imp λu h=>h.a
   have bg:ItB dc g bl (K.vars q).length 0 0 0 (λ_=>0) (λ_=>0) 0:=by subst hK;exact cn
   have ex:=H8.iter aq e8 (ae.trans av) (nL ae.size dx) bg;have bh:=em.ext (((aq.trans ae)).trans av);have c4:K.n=n:=by rw[hK]
   have da:K.base=w.heap.size:=by rw[hK]
   have fc:K.J=J:=by rw[hK]
   have bb:K.Ba=Ba:=by rw[hK]
   have ao:Ext w dc:=(c5.trans aq).trans (ae.trans av);have d2:∀ {w':World} {e sz m':Nat} {v:Value} {xs:List Value},w'.ownsRow K.base e sz v m' xs->∀ k,v.ownBlock=some k->w.heap.size<=k:=λho k ek=>by
    obtain⟨_,_,_,_,hf⟩:=Jy ho;rw[<-da];exact(hf k ek).1
   refine Qv (Qvd (some ⟨g,0,none⟩)) ?_;intro fl b3 a4 fq fi;have bm:=ex.ext a4;refine ρ ?_;refine apb (base:=K.base) EIt bm.all (fi.rd (n:=1) rfl) (λu hu=>by rw[List.mem_singleton.1 hu];rfl) (by unfold maxLen;simp;omega) (by simp;omega) (by rw[da];exact(ao.trans a4).size) ?_;intro cw ez cd ah cg;have ew:=bm.pushAll cd ah cg;have cp:=(bh.ext a4).grown ah ((bh.ext a4).ne_own bm.all rfl);have c8:Ext w ez:=Ql (ao.trans a4) ah (d2 bm.all);refine ldR (cp.at (i:=0) rfl) ?_;refine ρ ?_;refine Jo (fun (t:Nat) (vt:Nat->Value)=>[(0,.int .i64 (n:Int)),(8,.pointer (some ⟨J,0,none⟩)),(11,cw),(41,.slice Aa ts.length ca),(42,.int .i64 (ts.length:Int)),(43,.int .i64 (q:Int)),(18,.pointer (some ⟨g,0,none⟩)),(78,.slice D (nz (vars q)).length d),(79,.int .i64 ((nz (vars q)).length:Int)),(80,.int .i64 (t:Int))])
    (λt vt w'=>t<=(vars q).length/\Ext w w'/\RB K (q+1) { G:=upd S.G q g,A:=upd S.A q bl,lo:=upd S.lo q w8.heap.size,hi:=upd S.hi q w9.heap.size,va:=cw,vat:=vt } (λv=>Vy vars S.G q v++if v∈(vars q).take t then[itp g] else[]) (((List.range q).map λj=>itp (S.G j))++[itp g]) w') (λt _=>(vars q).length-t) 0 S.vat sB
    ⟨Nat.zero_le _,c8,?_⟩ ?_
   .have e:(λv=>Vy vars S.G q v++if v∈(vars q).take 0 then[itp g] else[])=Vy vars S.G q:=by funext v;simp
    rw[e];exact ew
   clear ew bm cd ah cg cp c8 ex bh cn bg e9 e8;rintro t vt cv ⟨ht,ag,an⟩;refine ciR (λh=>?_) (λh=>?_)
   .have lt:t<(vars q).length:=by have:=oT h;omega
    clear h;obtain⟨vi,cy⟩:∃ vi,vi=(vars q).getD t 0:=⟨_,rfl⟩;have f2:vi∈vars q:=by rw[cy];exact getD_mem' 0 _ lt
    have ak:vi<n:=hok.lt q lq vi f2;have ax:vi<K.n:=by rw[c4];exact ak
    have co:=dz.ext ag;refine ixR t co (by rw[dm];exact lt) ?_;refine ldR (co.cell (Zy lt)) ?_;rw[<-cy];obtain⟨own,b1⟩:∃ own,own=(vt vi).ownBlock:=⟨_,rfl⟩;have bf:=an.jb;rw[fc,bb,c4]at bf;have a8:=an.at_;rw[c4,bb]at a8;have b5:=an.lists.own vi ax;have nJ:¬ one own J:=λe=>by
     have Z:own=some J:=e;exact bf.ne_own b5 rfl (by rw[<-Z];exact b1)
    have nA:∀ ad,Ba=some ad->¬ one own ad.block:=λad e h'=>by
     subst e;exact Jxz a8 b5 rfl rfl (by have Z:own=some ad.block:=h';rw[<-Z];exact b1.symm)
    refine ρ ?_;refine drN (one own) 8 (scq 17 [13,14,116]) kr ?_;have a3:Ext cv cv.drew:=(Ext.refl cv).drew;have eu:=an.ext a3;have be:=bf.ext a3;have ai:=Jk a8 a3;have d6:((List.range n).map vt)[vi]?=some (vt vi):=by simp[ak]
    refine ρn ?_;refine nld (Jr (be.at (i:=1) rfl) nJ) ?_;refine ρn ?_;refine nld (Jr (be.at (i:=1) rfl) nJ) ?_;refine ρn ?_;refine nix vi (Rd.own ai) ak ?_;refine ρn ?_;refine nld (λw' hg=>(Vb (Rd.own ai) hg (λ_ ad e=>nA ad e)).cell d6) ?_;refine ρn ?_;refine nop ?_;refine bsl (Qvd (some ⟨g,0,none⟩)) ?_;intro fk b4 af fp fh;refine ρ ?_;refine Qj (GrN.ext af) ?_;have am:=eu.ext af;refine nop ?_;have e6:=Xxt vars S.G q vi;refine apb (base:=K.base) EIt (am.lists.own vi ax) (fh.rd (n:=1) rfl) (λu hu=>by rw[List.mem_singleton.1 hu];rfl) ?_ ?_ (by rw[da];exact((ag.trans a3).trans af).size) ?_
    .rw[List.length_append];unfold maxLen;split<;>simp<;>omega
    .rw[List.length_append];split<;>simp<;>omega
    intro v4 ey dl b7 dq;refine ρ ?_;refine Qj (GrN.by b7 λj ej=>by rw[<-b1]at ej;exact ej) ?_;obtain⟨c1,c2,c3,et,ch⟩:=am.pushAt ax dl b7 dq;rw[bb]at c1 c2 et ch;have cr:=Zl am.at_ (am.lists.own vi ax) b7 rfl;rw[c4,bb]at cr;refine ρn ?_;refine nix vi (Rd.own cr) ak ?_;refine ρn ?_;refine Xm ?_;refine sto c1 c2 ?_ (hv:=c3);have dg:Ext w (ey.setCell (adr Ba vi) v4):=ch.old ((ag.trans a3).trans af) (λk hk=>by
     rcases hk with hk|hk
     .exact d2 (am.lists.own vi ax) k hk
     exact d2 am.at_ k (by rw[bb];exact hk))
    refine ω5 ?_;refine Gv ?_;refine ρn ?_;refine ρ ?_;refine Jl (t+1) (upd vt vi v4) sO ⟨om,dg,?_⟩ om;have dk:(vars q).take (t+1)=(vars q).take t++[vi]:=by rw[Qs 0 lt,cy]
    have f4:vi ∉ (vars q).take t:=λhm=>by
     have Z:((vars q).take (t+1)).Nodup:=(Qyj (hok.asc q lq)).sublist (List.take_sublist _ _);rw[dk,List.nodup_append]at Z;exact Z.2.2 _ hm _ (List.mem_singleton.2 rfl) rfl
    have e:upd (λv=>Vy vars S.G q v++if v∈(vars q).take t then[itp g] else[]) vi ((Vy vars S.G q vi++if vi∈(vars q).take t then[itp g] else[])++[.pointer (some ⟨g,0,none⟩)])=(λv=>Vy vars S.G q v++if v∈(vars q).take (t+1) then[itp g] else[]):=by
     funext v
     rw[dk];by_cases e:v=vi
     .subst e;rw[Ju,if_neg f4,if_pos (by simp)];simp[itp]
     rw[Jm _ _ e];congr 1
     by_cases Z:v∈(vars q).take t
     .rw[if_pos Z,if_pos (by simp[Z])]
     rw[if_neg Z,if_neg (by simp[Z,e])]
    rw[<-e];exact et
   have cz:t=(vars q).length:=by have:=oF h;omega
   subst cz;clear h;refine ρ ?_;refine Jl (q+1) ⟨upd S.G q g,upd S.A q bl,upd S.lo q w8.heap.size,upd S.hi q w9.heap.size,cw,vt⟩ sO ⟨om,ag,?_⟩ om;have e1:(λv=>Vy vars S.G q v++if v∈(vars q).take (vars q).length then[itp g] else[])=Vy vars (upd S.G q g) (q+1):=by
    funext v
    rw[Xxs,List.take_length,Ju,Xxv (G':=upd S.G q g) (λj hj=>(Jm _ _ om).symm)]
   have e2:((List.range q).map λj=>itp (S.G j))++[itp g]=(List.range (q+1)).map λj=>itp (upd S.G q g j):=by
    rw[List.range_succ,List.map_append,List.map_singleton,Ju];congr 1
    refine List.map_congr_left λj hj=>?_;have:=List.mem_range.1 hj;rw[Jm _ _ om]
   rw[e1,e2]at an;exact an
  have f3:q=ts.length:=by have:=oF h;omega
  subst f3;clear h;subst hK;obtain⟨h0,bs⟩:∃ h0,h0=w4.heap.size:=⟨_,rfl⟩;obtain⟨aa,aj⟩:∃ aa:Nat->Prop,aa=λk=>k=J∨(∃ i,i<ts.length/\k=S.G i)∨(Value.slice Ra n n).ownBlock=some k:=⟨_,rfl⟩;obtain⟨c,hc⟩:∃ c:JC,c=⟨⟨S.G,S.A,λi=>(vars i).length,rs⟩,n,ts.length,vars,J,Ra,w.heap.size,.slice Ba n n,.func (.func bi) first bj,S.vat,λk=>bx' k∨h0<=k∨aa k⟩:=⟨_,rfl⟩;have d9:∀ k,c.NI k↔aa k:=λk=>by subst hc;subst aj;exact Iff.rfl
  have bz:∀ k,c.N k↔bx' k∨h0<=k∨aa k:=λk=>by subst hc;exact Iff.rfl
  have ef:J<h0:=by rw[bs];exact H4.jb.lt
  have c9:∀ {e sz m':Nat} {v:Value} {xs:List Value},w4.ownsRow w.heap.size e sz v m' xs->∀ k,v.ownBlock=some k->w.heap.size<=k/\k<h0:=λho k ek=>by
   obtain⟨_,_,_,_,hf⟩:=Jy ho;rw[bs];exact hf k ek
  have ba:∀ k,aa k->w.heap.size<=k/\k<h0:=λk hk=>by
   subst aj;rcases hk with hk|⟨i,hi,hk⟩|hk
   .subst hk;exact⟨e7,ef⟩
   .subst hk;have Z:=(H4.its i hi).lt;have h2:=H4.jg i hi;simp only at h2;omega
   exact c9 H4.row k hk
  have fb:∀ k,k<h0->¬ bx' k->¬ aa k->¬ c.N k:=λk Z h2 h3 h4=>by
   rcases(bz k).1 h4 with h5|h5|h5
   .exact h2 h5
   .omega
   exact h3 h5
  have ck:∀ k,w.heap.size<=k->¬ bx' k:=λk hk hb=>by have:=hbx k hb;omega
  have ab:∀ {e sz m':Nat} {v:Value} {xs:List Value},w4.ownsRow w.heap.size e sz v m' xs->Nat.beq e 313=false->Nat.beq e 340=false->Nat.beq 147 e=false->∀ k,v.ownBlock=some k->¬ c.N k:=λho e1 e2 e3 k ek=>by
   have Z:=c9 ho k ek;refine fb k Z.2 (ck k Z.1) λh2=>?_;subst aj;rcases h2 with h2|⟨i,hi,h2⟩|h2
   .subst h2;exact H4.jb.ne_own ho e1 ek.symm
   .subst h2;exact(H4.its i hi).ne_own ho e2 ek.symm
   exact Jxz H4.row ho e3 h2 ek
  have fd:∀ v,c.I v=(List.range ts.length).filter λi=>decide (v∈vars i):=λv=>by subst hc;rfl
  have cb:∀ v,Jxt c.F (c.I v)=Vy vars S.G ts.length v:=λv=>by rw[fd];subst hc;rfl
  have eh:∀ v,(c.I v).length=(Vy vars S.G ts.length v).length:=λv=>by rw[<-cb];simp[Jxt]
  have bc:JOk c:=by
   have dv:∀ i j,i<ts.length->j<ts.length->S.G i=S.G j->i=j:=λi j hi hj e=>by
    rcases Nat.lt_trichotomy i j with Z|Z|Z
    .have:=H4.ginj i j Z hj;omega
    .exact Z
    have:=H4.ginj j i Z hi;omega
   have f8:∀ i,i<ts.length->S.G i≠J:=λi hi e=>by have:=H4.jg i hi;simp only at this;omega
   have e0:∀ i,i<ts.length->(vars i).length<=32:=λi hi=>by have:=Jvx (hok.asc i hi) (hok.lt i hi);omega
   subst hc;exact⟨dn,dt,hok.asc,hok.lt,λi _=>rfl,e0,ce,hok.srt,hok.len,hok.big,dv,f8,hok.cov,λk hk=>.inr (.inr ((d9 k).1 hk))⟩
  have db:JEnv c w4:=by
   refine⟨λi hi=>?_,⟨Ba,n,by subst hc;rfl,?_⟩,λv hv=>?_⟩
   .have br:i<ts.length:=by subst hc;exact hi
    have Z:=H4.tri i br;have h2:Off c.N w4 (λu=>TriA u (S.A i) (vars i).length (rs i)):=Z.mono λk hk h=>by
     have h3:=(H4.jlo i br);have h4:=H4.iv i k br;simp only at h3;rcases(bz k).1 h with h5|h5|h5
     .have:=hbx k h5;exact .inl om
     .omega
     subst aj;rcases h5 with h5|⟨i',d3,h5⟩|h5
     .exact h4 (.inl h5)
     .subst h5;exact H4.gi i' i d3 br
     exact h4 (.inr (.inl h5))
    subst hc;exact h2
   .have Z:=Jxx H4.at_ (ab H4.at_ rfl rfl rfl);have h2:=Z.imp (Ψ:=λu=>Rd u 1 Ba n ((List.range n).map S.vat)) λu h=>Rd.own h;have:c.n=n/\c.vat=S.vat:=by subst hc;exact⟨rfl,rfl⟩
    rw[this.1,this.2];exact h2
   have ak:v<n:=by subst hc;exact hv
   have ho:=H4.lists.own v ak;obtain⟨B,cc,e1,e2,e3⟩:=Jy ho;have:c.vat v=S.vat v:=by subst hc;rfl
   refine⟨B,cc,by rw[this,e1,eh],?_⟩;rw[cb,eh];refine(Jxx ho (ab ho rfl rfl rfl)).imp λu h=>?_;rw[e1]at h;exact Rd.own h
  have d8:YC c (λl u=>Y h0 l u/\h0<=u.heap.size) (λk=>bx' k∨h0<=k):=by
   refine⟨λk hk=>(bz k).2 (by rcases hk with h|h;(exact .inl h);exact .inr (.inl h)),λk hk h=>?_,λl u u' h hg=>⟨hY.keep _ _ _ _ h.1 (hg.mono λk _ hk=>?_),Nat.le_trans h.2 hg.size⟩,bi,first,bj,by subst hc;rfl,λl u vr z h hr hl=>?_⟩
   .have Z:=ba k ((d9 k).1 h);rcases hk with h2|h2
    .exact ck k Z.1 h2
    omega
   .have Z:=ba k ((d9 k).1 hk);exact Z
   refine(d7 h0 l u vr z h.2 h.1 hr hl).mono ?_;rintro r u' ⟨Z,h2,h3⟩;exact⟨Z,⟨h2,Nat.le_trans h.2 h3.size⟩,h3⟩
  have e4:c.n=n:=by subst hc;rfl
  have e5:c.m=ts.length:=by subst hc;rfl
  have el:Cfg c (λl u=>Y h0 l u/\h0<=u.heap.size) w4 (List.replicate n V0) (λi=>lv (c.vars i) 0) (λ_=>0) (λ_=>0) (λ_ _=>0) (λ_ _=>0) []:=by
   refine⟨db,λi hi=>⟨0,?_⟩,?_,by rw[e4];simp,⟨0,?_⟩,by rw[bs];exact hY0 w4 a6,by rw[bs];exact nR _⟩
   .simp only[Jwq];rw[e5]at hi;have:=H4.its i hi;subst hc;exact this
   .have:=H4.row;subst hc;exact this
   have:=H4.jb;subst hc;exact this
  have cq:∀ x,c.Ans x↔Vm n ts.length vars rs x:=λx=>by subst hc;exact Iff.rfl
  have ee:Pth c 0 (List.replicate n V0) (λ_=>0) (λ_=>0):=by
   refine⟨λi hi=>?_,λi hi h=>?_⟩
   .rw[Jwq,Uw,if_pos rfl,List.take_zero]
   rw[Jwq]at h;omega
  have b8:c.J=J:=by subst hc;rfl
  refine ρ ?_;have cj:=Xjq bc d8 (λl Z h2=>hcap l Z λx hx=>(cq x).1 (h2 x hx)) n 0 (List.replicate n V0) (λ_=>0) (λ_=>0) (λ_ _=>0) (λ_ _=>0) [] w4 (by rw[e4];omega) el ee List.Pairwise.nil (λx hx=>by cases hx) (λx hx=>by cases hx);rw[b8]at cj;refine cl cj ?_;rintro u w5 ⟨rfl,d4,z5,f5,h5,l5,H5,_,_,du,f6⟩;have b9:w5.ownsRow w.heap.size 320 1 S.va ts.length ((List.range ts.length).map λj=>itp (S.G j)):=by
   have Z:=H4.all;rw[List.length_map,List.length_range]at Z;exact Ja Z d4 (ab H4.all rfl rfl rfl)
  obtain⟨VA,vc,ep,_,_⟩:=Jy b9;rw[ep]at b9 ⊢;have d0:Off c.N w5 (λu=>Rd u 1 VA ts.length ((List.range ts.length).map λj=>itp (S.G j))):=by
   refine(Jxx b9 λg eg=>?_).imp λu h=>Rd.own h;exact ab H4.all rfl rfl rfl g (by rw[ep];exact eg)
  refine ρ ?_;refine Qf (fun (i:Nat)=>[(8,.pointer (some ⟨J,0,none⟩)),(104,.slice VA ts.length vc),(105,.int .i64 (ts.length:Int)),(106,.int .i64 (i:Int))])
   (λi w'=>i<=ts.length/\GrN c.N w5 w'/\Cfg c (λl u=>Y h0 l u/\h0<=u.heap.size) w' z5 (λi=>lv (c.vars i) 0) (λ_=>0) (λ_=>0) f5 h5 l5) (λi=>ts.length-i) 0 sB ⟨Nat.zero_le _,GrN.refl _ _,H5⟩ ?_
  rintro i w6 ⟨hi,bw,H6⟩;refine ciR (λh=>?_) (λh=>?_)
  .have li:i<ts.length:=by have:=oT h;omega
   clear h;have eb:=d0 w6 bw;refine ixR i eb li ?_;refine ldR (eb.cell (show((List.range ts.length).map λj=>itp (S.G j))[i]?=some (.pointer (some ⟨S.G i,0,none⟩)) by simp[li,itp])) ?_;obtain⟨sj,bd⟩:=H6.jb;rw[b8]at bd;refine ρ ?_;refine drN (λ_=>False) 10 (scq 10 [5,109]) kr ?_;have ap:Ext w6 w6.drew:=(Ext.refl w6).drew;have er:=H6.ext d8 ap;have a5:=bd.ext ap;obtain⟨si,ei⟩:=er.its i (by rw[e5];exact li);have fe:c.F.G i=S.G i:=by subst hc;rfl
   rw[fe]at ei;refine ρn ?_;refine nld (Jr (a5.at (i:=2) rfl) (λe=>e)) ?_;refine ρn ?_;refine nop ?_;refine cl (Qsp ei) ?_;rintro u w7 ⟨rfl,rfl⟩;refine ρ ?_;refine Qj (GrN.refl _ _) ?_;refine ρn ?_;refine Xm ?_;refine sto (p:=⟨J,2,none⟩) (a5.cell 2) (a5.frozen _) ?_;rw[<-b8]at a5;obtain⟨H8,dw⟩:=er.steps bc d8 a5 (IntKind.i64.wrap (sj+si));rw[b8]at H8 dw;refine ω5 ?_;refine Gv ?_;refine ρn ?_;refine ρ ?_;exact Qy (i+1) sO ⟨om,(bw.trans (GrN.ext ap)).trans (dw.mono λk _ hk=>bc.sub k hk),H8⟩ om
  clear h;obtain⟨sj,bd⟩:=H6.jb;rw[b8]at bd;refine ldR (bd.at (i:=2) rfl) ?_;refine ρ ?_;refine Vx ⟨GrN.cut a6 (d4.trans bw) λk hk h=>?_,sj,h0,l5,rfl,H6.y.2,H6.y.1,du,λx=>?_⟩
  .rcases(bz k).1 h with Z|Z|Z
   .exact Z
   .have:=a6.size;omega
   have:=(ba k Z).1;omega
  rw[f6,<-cq x];constructor
  .rintro(Z|Z)
   .cases Z
   exact Z.1
  intro Z;exact .inr ⟨Z,rfl⟩
 intro rest;refine gtwo 1 3 kr rfl rfl rfl ?_ ?_
 .refine ρ ?_;refine mkn EV n om (by unfold maxLen;omega) ?_;intro w2 A2 a2 bq _;refine Jd (Jbz a2 ?_);refine Ie (fuel':=3) [(1,3)] #[true,true,true,true,true,false,false,false] kr kr rfl ?_;refine Gc ?_;refine mkn EIts n om (by unfold maxLen;omega) ?_;intro w3 A3 a1 bp _;refine Jd (Gb a1 ?_);refine Ue (Io ?_);refine rest (A2,A3) _ _ ⟨a2.trans a1,?_,?_⟩ sB
  .rw[Vh,List.length_replicate,<-Jfx];exact Jk bq a1
  rw[Jns]at bp;exact Jbk bp a2.size
 refine ρ ?_;refine mkn EIts n om (by unfold maxLen;omega) ?_;intro w2 A2 a2 bq _;refine Jd (Jbz a2 ?_);refine Ie (fuel':=3) [(1,1)] #[true,true,true,true,true,false,false,false] kr kr rfl ?_;refine Gc ?_;refine mkn EV n om (by unfold maxLen;omega) ?_;intro w3 A3 a1 bp _;refine Jd (Gb a1 ?_);refine Ue (Io ?_);refine rest (A3,A2) _ _ ⟨a2.trans a1,?_,?_⟩ sB
 .rw[Vh,List.length_replicate,<-Jfx];exact Jbk bp a2.size
 rw[Jns]at bq;exact Jk bq a1
end Go.Proofs.YtgobkbeokaaplaaGreatDoor
namespace Go.Wk
open Go.RowKit
variable {d n t t2 ty:Nat}
theorem fnl{P:Program}{al:AL}{w:World}{Q:Exit->Act->World->Prop}{ops:Array Oper}{rest:List Oper}{pos:String}{aft:Array Edge}{tt:TT}[h:Tab P tt]{x:Operand}{k:TK}{ps rs:Array TypeId}{va:Bool}{f:Fn}{first cap:Array Value}(kk:WL P n ops Q rest ((d,.bool false)::al) w)(ht:tk tt t=some k:=by rfl)(hk:k.desc=.func ps rs va:=by rfl)(hx:ev al x=some (.func f first cap):=by rfl)(hd:Nat.blt d n=true:=by rfl):
  WL P n ops Q (⟨some d,.binOp .eql t x (.const .nilFunc) t2,ty,pos,aft,none⟩::rest) al w :=
 wop hd (λa j=>by
  have i:=Yw h.ok ht hk rfl;have D:a.eval (.const .nilFunc)=.nilFunc:=rfl;have u:∀ d:Nat,(Op.equalIn (d+1) t (.func f first cap) .nilFunc).run P w=.ok false w:=λd=>by simp[Op.equalIn,run_underlying i]
  simp[execOp,j.ev hx,D,eqGuard,binOp,Op.equal,Op.maxDepth,u 9999]) kk
end Go.Wk
namespace Go.Proofs.YtgobkbeokaaplaaGreatDoor
open Go.RowKit Pl Go.Wk
attribute [local irreducible] WC WL QX WD WDB WP WN WG
variable {b ca n s:Nat}{Y:Nat->List Row->World->Prop}{yv:Value}
structure YZ(s:Nat)(yv:Value)(bx:Nat->Prop)(Y:Nat->List Row->World->Prop): Prop where
 keep:∀ base l w w',Y base l w->GrN (λk=>s<=k/\k<base) w w'->Y base l w'
 call:∃ fid first cap,yv=.func (.func fid) first cap/\∀ base l w w1 vr z,base<=w.heap.size->Y base l w->Ext w w1->RowX w1 (λk=>k<w.heap.size) vr z->l.length<65536->Ret Tryz.prog fid (first.toList++[vr]++cap.toList) w1 λr w'=>r=.bool true/\Y base (l++[z]) w'/\GrN (λk=>bx k∨base<=k) w1 w'
theorem Xqb{bx:Nat->Prop}(hY:YZ s yv bx Y)(hb:s<=b)(hbx:∀ k,bx k->k<s):
  YS (b+1) (.func (.func 197) #[] #[.pointer (some ⟨b,0,none⟩)]) bx (λbase l w=>(Y base l w/\Blk w b 254 [yv])/\b<base):=by
 obtain⟨a7,first,a8,a2,G⟩:=hY.call;subst a2;refine⟨λbase l w w' h Z=>⟨⟨hY.keep _ _ _ _ h.1.1 (Z.mono λk _ hk=>⟨om,hk.2⟩),Jc h.1.2 Z (λhk=>om)⟩,h.2⟩,_,_,_,rfl,λbase l w vr z J h hr hl=>?_⟩;obtain⟨⟨hy,hB⟩,a5⟩:=h;have a1:¬ (bx b∨base<=b):=by grind
 refine enE Tryz.func197 Tryz.ntmps197 ?_;refine ρ ?_;refine drN (λk=>bx k∨base<=k) 8 (scq 5 [2,3]) kr ?_;have j:Ext w w.drew:=(Ext.refl w).drew;have a6:=hB.ext j;have a3:=hY.keep _ _ _ _ hy (GrN.ext j);refine ρn ?_;refine nld (Jr (a6.at (i:=0) rfl) a1) ?_;refine ρn ?_;refine nop ?_;refine cl (Ye (hr.ext j) (λk=>k<w.drew.heap.size) (λk hk=>hk)) ?_;rintro u w1 ⟨hu,D⟩;refine ρ ?_;refine Qj (GrN.ext D) ?_;refine nop ?_;refine clv (G base l w.drew w1 u z J a3 D hu hl) ?_;rintro r w2 ⟨rfl,a4,O⟩;refine ρ ?_;refine Qj O ?_;refine ρn ?_;refine ρ ?_;have Z:GrN (λk=>bx k∨base<=k) w w2:=(GrN.ext (j.trans D)).trans O;exact Jj ⟨rfl,⟨⟨a4,Jc hB Z a1⟩,a5⟩,Z⟩
theorem Xjz{w:World}{ts:List TA}{Aa:Option Addr}{vars:Nat->List Nat}{rs:Nat->List Row}{bx':Nat->Prop}(hok:RunOk n ts vars rs)(hR:Rd w 3 Aa ts.length (atC ts))(hle:ts.length<=ca)(hat:∀ p∈ts,AtV w p.1 p.2)(hchk:Jvs n (ts.map (·.2)))(hbx:∀ k,bx' k->k<w.heap.size)(hY:YZ w.heap.size yv bx' Y)(hY0:∀ w',Ext w w'->Y w'.heap.size [] w')(hcap:∀ l:List Row,Lt [] l->(∀ x∈l,Vm n ts.length vars rs x)->l.length<=65536):
  Ret Tryz.prog 171 [.int .i64 (n:Int),yv,.slice Aa ts.length ca] w λu w'=>GrN bx' w w'/\∃ st base l,u=.tuple #[.int .i64 st,.int .i64 0]/\w.heap.size<=base/\base<=w'.heap.size/\Y base l w'/\Lt [] l/\∀ x,x∈l↔Vm n ts.length vars rs x:=by
 have a5:=hok.m32;obtain⟨a3,first,a4,a1,_⟩:=hY.call;subst a1;refine enE Tryz.func171 Tryz.ntmps171 ?_;refine bxR ?_;intro w1 b D hb hB;refine clR (Jhp (n:=(n:Int)) (ats:=ts.map (·.2)) ⟨ts,Aa,ca,rfl,rfl,hle,om,hR.ext D,λp hp=>(hat p hp).ext D⟩) ?_
 rintro u w2 ⟨O,e,rfl,he⟩;have e0:=he.2 hchk;subst e0;have J:=hB.ext O;refine ldR (J.at (i:=0) rfl) ?_;refine ρ ?_;refine fnl ?_;have j:=D.trans O;have a6:b+1<=w2.heap.size:=J.lt;refine clR (Qhc (bx':=bx') (Y:=λbase l w=>(Y base l w/\Blk w b 254 [.func (.func a3) first a4])/\b<base) hok (hR.ext j) (λp hp=>(hat p hp).ext j) (λk Z=>nM (hbx k Z) j.size) ?_ (λw' G=>⟨⟨hY0 w' (j.trans G),J.ext G⟩,by have:=G.size;omega⟩) hcap) ?_
 .have h1:=Xqb hY hb hbx;exact⟨λbase l u u' h hg=>h1.keep base l u u' h (hg.mono λk _ Z=>⟨om,Z.2⟩),h1.call⟩
 rintro u w3 ⟨a2,st,base,l,rfl,h1,⟨⟨h2,_⟩,h3⟩,h4,h5⟩;refine ρ ?_;exact Vx ⟨GrN.cut j a2 λk _ Z=>Z,st,base,l,rfl,om,h1,h2,h4,h5⟩
end Go.Proofs.YtgobkbeokaaplaaGreatDoor
namespace Go.Wk
open Go.RowKit
variable {e:Act}{parts:Array (Nat×Operand)}{pw:Array (Nat×Value)}{a b:Int}{k1 k2:IntKind}{vs:List Value}{i s t v:Nat}{x y:Operand}{yt:TypeId}
section
variable {N:Nat->Prop} {P:Program} {n:Nat} {al:AL} {w:World} {Q:Exit->Act->World->Prop} {ops:Array Oper} {rest:List Oper} {drest:List (Nat×Oper)}
variable {d ty:Nat} {pos:String} {aft:Array Edge}
theorem Jtb{t:TypeId}(hx:ev al x=some (.int k1 a))(hy:ev al y=some (.int k2 b))(h0:0<=b)(he:Fr n al e)(dst:Option Nat)(w:World):
  (execOp e.eval ⟨dst,.binOp .shr t x y yt,ty,pos,aft,none⟩).run P w=.ok (.value (.int k1 (a.fdiv (2^(min b.toNat k1.bits))))) w:=by
 have i:¬ b<0:=om
 simp[execOp,he.ev hx,he.ev hy,eqGuard,binOp,Op.shift,i]
theorem Jwb{t:TypeId}(hx:ev al x=some (.int k1 a))(hy:ev al y=some (.int k2 b))(h0:0<=b)(he:Fr n al e)(dst:Option Nat)(w:World):
  (execOp e.eval ⟨dst,.binOp .shl t x y yt,ty,pos,aft,none⟩).run P w=.ok (.value (.int k1 (k1.wrap (a*2^(min b.toNat k1.bits))))) w:=by
 have i:¬ b<0:=om
 simp[execOp,he.ev hx,he.ev hy,eqGuard,binOp,Op.shift,i]
theorem Jss(s v:Nat)(hv:v<=32): ((s:Int)).fdiv (2^(min ((v:Nat):Int).toNat 32))=((s / 2^v:Nat):Int):=by grind
theorem Kh(hv:v<32): 2^v<4294967296:=nM (Nat.pow_lt_pow_right (by decide:1<2) hv) (by decide)
theorem Jyx(hv:v<32): IntKind.u32.wrap (1*2^(min ((v:Nat):Int).toNat 32))=((2^v:Nat):Int):=by
 have h:=Kh hv;rw[Int.toNat_natCast,Nat.min_eq_left om,Int.one_mul];have:((2:Int)^v)=((2^v:Nat):Int):=by simp
 rw[this,IntKind.wrap_u32];grind
theorem Iv{t:TypeId}(hv:v<=32)(kk:WL P n ops Q rest ((d,.int .u32 ((s / 2^v:Nat):Int))::al) w)(hx:ev al x=some (.int .u32 (s:Int)):=by rfl)(hy:ev al y=some (.int .i64 (v:Int)):=by rfl)(hd:Nat.blt d n=true:=by rfl):
  WL P n ops Q (⟨some d,.binOp .shr t x y yt,ty,pos,aft,none⟩::rest) al w:=by
 rw[<-Jss s v hv]at kk;exact wop hd (λa i=>Jtb hx hy om i (some d) w) kk
theorem sl32{t:TypeId}(hv:v<32)(kk:WL P n ops Q rest ((d,.int .u32 ((2^v:Nat):Int))::al) w)(hy:ev al y=some (.int .i64 (v:Int)):=by rfl)(hd:Nat.blt d n=true:=by rfl):
  WL P n ops Q (⟨some d,.binOp .shl t (.const (.int .u32 1)) y yt,ty,pos,aft,none⟩::rest) al w:=by
 rw[<-Jyx hv]at kk;exact wop hd (λa i=>Jwb (x:=.const (.int .u32 1)) rfl hy om i (some d) w) kk
theorem dsl32{t:TypeId}(hv:v<32)(kk:WD P n ops Q drest ((d,.int .u32 ((2^v:Nat):Int))::al) w)(hy:ev al y=some (.int .i64 (v:Int)):=by rfl)(hd:Nat.blt d n=true:=by rfl):
  WD P n ops Q ((0,⟨some d,.binOp .shl t (.const (.int .u32 1)) y yt,ty,pos,aft,none⟩)::drest) al w:=by
 rw[<-Jyx hv]at kk;exact dy (λw' _ a i=>Jwb (x:=.const (.int .u32 1)) rfl hy om i (some d) w') hd kk
theorem Jgw{t:TypeId}(hv:v<32)(kk:WN N P n ops Q drest ((d,.int .u32 ((2^v:Nat):Int))::al) w)(hy:ev al y=some (.int .i64 (v:Int)):=by rfl)(hd:Nat.blt d n=true:=by rfl):
  WN N P n ops Q ((0,⟨some d,.binOp .shl t (.const (.int .u32 1)) y yt,ty,pos,aft,none⟩)::drest) al w:=by
 rw[<-Jyx hv]at kk;exact ny_ (λw' _ a i=>Jwb (x:=.const (.int .u32 1)) rfl hy om i (some d) w') hd kk
end
section
variable {N:Nat->Prop} {P:Program} {n:Nat} {al:AL} {w:World} {Q:Exit->Act->World->Prop} {ops:Array Oper} {drest:List (Nat×Oper)}
variable {d ty:Nat} {pos:String} {aft:Array Edge}
theorem Jtj{v:Value}(hb:∀ w,(Instr.build t pw).run P w=.ok v w)(hx:evs al (parts.toList.map (·.2))=some vs)(hp:((parts.toList.map (·.1)).zip vs).toArray=pw){a:Act}(ha:Fr n al a)(dst:Option Nat)(w:World):
  (execOp a.eval ⟨dst,.build t parts,ty,pos,aft,none⟩).run P w=.ok (.value v) w:=by
 subst hp;have u:=ha.evs hx;have j:(parts.map fun (i,x)=>(i,a.eval x))=((parts.toList.map (·.1)).zip vs).toArray:=by grind
 simp only[execOp,j,Sem.run_bind,hb w];rfl
theorem Kp{v:Value}(hb:∀ w,(Instr.build t pw).run P w=.ok v w)(kk:WN N P n ops Q drest ((d,v)::al) w)(hx:evs al (parts.toList.map (·.2))=some vs:=by rfl)(hp:((parts.toList.map (·.1)).zip vs).toArray=pw:=by rfl)(hd:Nat.blt d n=true:=by rfl): WN N P n ops Q ((0,⟨some d,.build t parts,ty,pos,aft,none⟩)::drest) al w :=
 ny_ (λw' _ a i=>Jtj hb hx hp i (some d) w') hd kk
theorem dbld{v:Value}(hb:∀ w,(Instr.build t pw).run P w=.ok v w)(kk:WD P n ops Q drest ((d,v)::al) w)(hx:evs al (parts.toList.map (·.2))=some vs:=by rfl)(hp:((parts.toList.map (·.1)).zip vs).toArray=pw:=by rfl)(hd:Nat.blt d n=true:=by rfl): WD P n ops Q ((0,⟨some d,.build t parts,ty,pos,aft,none⟩)::drest) al w :=
 dy (λw' _ a i=>Jtj hb hx hp i (some d) w') hd kk
end
theorem Gh(hs:s<4294967296): (bits .and .u32 ((s / 2^v:Nat):Int) 1 == 1)=s.testBit v:=by
 have i:s / 2^v<4294967296:=Nat.lt_of_le_of_lt (Nat.div_le_self _ _) hs;have j:=u32_and_nat (s / 2^v) 1 i om;grind
theorem Qvq(hs:s<4294967296): (bits .and .u32 ((s / 2^v:Nat):Int) 1 == 0) = !s.testBit v:=by
 have i:s / 2^v<4294967296:=Nat.lt_of_le_of_lt (Nat.div_le_self _ _) hs;have j:=u32_and_nat (s / 2^v) 1 i om;grind
def Kz(s t:Nat): Nat:=s &&& (4294967295-t)
theorem Qyl(hs:s<4294967296): Kz s t<4294967296:=by grind [Kz,Nat.lt_of_le_of_lt,Nat.and_le_left]
theorem Jnl(hs:s<4294967296)(ht:t<4294967296): (Kz s t).testBit i=(s.testBit i && !t.testBit i):=by
 unfold Kz;have e:4294967295-t=2^32-(t+1):=om
 rw[Nat.testBit_and,e,Nat.testBit_two_pow_sub_succ om];by_cases hi:i<32
 .grind
 have:s.testBit i=false:=Nat.testBit_lt_two_pow (nM hs (Nat.pow_le_pow_right (n:=2) (by decide) (show 32<=i by omega)));rw[this];rfl
theorem Jmw(hs:s<4294967296)(ht:t<4294967296): bits .andNot .u32 (s:Int) (t:Int)=((Kz s t:Nat):Int):=u32_andNot_nat s t hs ht
theorem Jxb(hs:s<4294967296)(ht:t<4294967296): bits .or .u32 (s:Int) (t:Int)=((s ||| t:Nat):Int):=u32_or_nat s t hs ht
theorem Jbl(hs:s<4294967296)(ht:t<4294967296): s ||| t<4294967296:=Nat.or_lt_two_pow (n:=32) hs ht
end Go.Wk
namespace Go.Proofs.YtgobkbeokaaplaaGreatDoor
open Go.RowKit Pl Go.Wk
attribute [local irreducible] WC WL QX WD WDB WP WN WG
variable {cs vars:List Nat}{b base c d k n s ty z:Nat}{w:World}
def Xj(vars:List Nat)(s:Nat): List Nat:=(List.range vars.length).filter λi=>s.testBit (vars.getD i 0)
def inS(vars:List Nat)(s:Nat): List Nat:=vars.filter λv=>s.testBit v
theorem Jkc(h:c∈Xj vars s): c<vars.length:=List.mem_range.1 (List.mem_filter.1 h).1
theorem Qlh(h:k<=n): (List.range n).take k=List.range k:=by grind
def Zd(vars:List Nat)(s k:Nat): List Nat:=(List.range k).filter λi=>s.testBit (vars.getD i 0)
theorem Kt(vars:List Nat)(s k:Nat): Zd vars s (k+1)=Zd vars s k++if s.testBit (vars.getD k 0) then[k] else[]:=by grind [Zd,List.range_succ]
theorem Jwx(h:k<vars.length): inS (vars.take (k+1)) s=inS (vars.take k) s++if s.testBit (vars.getD k 0) then[vars.getD k 0] else[]:=by grind [inS,Qs,List.filter_cons_of_pos,List.filter_cons_of_neg]
theorem Jvp(vars:List Nat)(s:Nat): ∀ k,k<=vars.length->(Zd vars s k).length=(inS (vars.take k) s).length
 | 0,_=>by simp[Zd,inS]
 | k+1,h=>by
  rw[Kt,Jwx om,List.length_append,List.length_append,Jvp vars s k om];split<;>rfl
theorem Qjt(vars:List Nat)(s:Nat)(z:Row): ∀ k,k<=vars.length->pmR (Zd vars s k) (pmR vars z)=pmR (inS (vars.take k) s) z
 | 0,_=>by simp[Zd,inS,pmR]
 | k+1,h=>by
  have ih:=Qjt vars s z k om;rw[Kt,Jwx om];unfold pmR at *;grind
theorem bs1Int''(z:Int)(w:World): (Instr.buildSlice 26 1 #[(0,.int .i64 z)]).run Tryz.prog w=.ok (.slice (some ⟨w.heap.size,0,none⟩) 1 1) (w.alloc (.cells [.int .i64 z].toArray 3)):=kr
theorem Qnx(a b:List Nat): nz (a++b)=nz a++nz b:=by simp[nz]
theorem Qsz(a b:List Int): Je (a++b)=Je a++Je b:=by simp[Je]
abbrev Zh(w:World)(base:Nat)(v:Value)(cs:List Nat): Prop:=w.ownsRow base 3 1 v cs.length (Je (nz cs))
theorem apI{al:AL}{Q:Exit->Act->World->Prop}{ops:Array Oper}{rest:List Oper}{pos:String}{aft:Array Edge}{x y:Operand}{v:Value}(ho:Zh w base v cs)(hb:Blk w b 3 [.int .i64 (z:Int)])(hm:cs.length<=1100000)(hbase:base<=w.heap.size)(kk:∀ v' w',Zh w' base v' (cs++[z])->w.grownBy w' v.ownBlock->(∀ g,v'.ownBlock=some g->v.ownBlock=some g∨w.heap.size<=g)->WL Tryz.prog n ops Q rest ((d,v')::al) w')(hx:ev al x=some v:=by rfl)(hy:ev al y=some (.slice (some ⟨b,0,none⟩) 1 1):=by rfl)(hd:Nat.blt d n=true:=by rfl):
  WL Tryz.prog n ops Q (⟨some d,.call { callee:=.builtin .append,args:=#[x,y],argTypes:=#[26,26] },ty,pos,aft,none⟩::rest) al w:=by
 refine apb (base:=base) EI ho (hb.rd (n:=1) rfl) (λu j=>by rw[List.mem_singleton.1 j];rfl) (by unfold maxLen;omega) om hbase ?_ hx hy hd;intro v' w' i D hn;refine kk v' w' ?_ D hn;rw[Zh,List.length_append,Qnx,Qsz];exact i
theorem Xwj{t:V3}{rs:List Row}(hA:AtV w t ⟨nz vars,vars.length,rs⟩)(hs:s<4294967296)(hasc:Xy vars)(hlt:∀ v∈vars,v<32)(hlen:∀ r∈rs,r.length=vars.length)(hbig:rs.length<=65536):
  Ret Tryz.prog 170 [.agg t.cells.toArray,.int .u32 (s:Int)] w λu w'=>Ext w w'/\∃ t':V3,u=.tuple #[.agg t'.cells.toArray,.int .i64 0]/\∃ m,Off (λk=>k<w.heap.size) w' (λx=>AtV x t' ⟨nz (inS vars s),(inS vars s).length,m⟩)/\m.length<=65536/\(∀ x∈m,x∈rs.map (pmR (Xj vars s))) /\
   ((rs.length<=12∨Srt [] (rs.map (pmR (Xj vars s))))->IsSet [] (rs.map (pmR (Xj vars s))) m):=by
 obtain⟨t1,t2,t3⟩:=t;obtain⟨⟨D,d,e1,hd,dd,ch⟩,e2,bf⟩:=id hA;simp only at e1 e2;subst e1;subst e2;obtain⟨ps,G,gc,_,c9,_⟩:=id bf;simp only at c9;subst c9;have d6:=Qg vars;have dm:=Jvx hasc hlt;refine enE Tryz.func170 Tryz.ntmps170 ?_;refine bxR ?_;intro w1 b c6 hb hB;refine Jv Yf ?_;intro w2 br c4 dv bo;have bw:=hB.ext c4;have az:=c6.trans c4;have ak:Rd w 1 D (nz vars).length (Je (nz vars)):=ch;clear ch hd dd;have mono:∀ i,1<=i->i<vars.length->vars.getD (i-1) 0<vars.getD i 0:=λi h1 h2=>by
  have:=List.pairwise_iff_getElem.1 hasc (i-1) i om h2 om;simpa [List.getD,List.getElem?_eq_getElem h2,List.getElem?_eq_getElem (show i-1<vars.length by omega)] using this
 have b1:∀ i,i<vars.length->vars.getD i 0<32:=λi hi=>hlt _ (getD_mem' 0 _ hi);refine ρ ?_;refine Qf (fun (i:Nat)=>[(1,.int .u32 (s:Int)),(2,.pointer (some ⟨b,0,none⟩)),(4,.pointer (some ⟨br,0,none⟩)),(6,.int .i64 (i:Int))])
  (λi w'=>1<=i/\i<=1000/\Ext w2 w') (λi=>1000-i) 1 sB ⟨nR _,om,Ext.refl _⟩ ?_
 rintro i w3 ⟨db,du,ag⟩;have ay:=bw.ext ag;refine ldR (ay.at (i:=0) rfl) ?_;refine ciR (λh=>?_) (λh=>?_)
 .have li:i<vars.length:=by have:=oT h;omega
  clear h;have bb:Ext w3 w3.drew:=(Ext.refl w3).drew;have cy:=ay.ext bb;have au:=ak.ext ((az.trans ag).trans bb);refine drR (scq 12 []) ?_;refine Jz (cy.at (i:=0) rfl) ?_;refine Jb (i-1) au om ?_;refine Jz (au.cell (Zy (show i-1<vars.length by omega))) ?_;refine Jz (cy.at (i:=0) rfl) ?_;refine Jb i au om ?_;refine Jz (au.cell (Zy li)) ?_;refine ρd ?_;refine cfR ?_ ?_
  .exact decide_eq_false (by have:=mono i db li;omega)
  refine ρ ?_;exact Qy (i+1) sO ⟨om,om,ag.trans bb⟩ om
 clear h;refine ldR (ay.at (i:=0) rfl) ?_;refine ρ ?_;refine Qf (fun (i:Nat)=>[(1,.int .u32 (s:Int)),(2,.pointer (some ⟨b,0,none⟩)),(4,.pointer (some ⟨br,0,none⟩)),(36,.slice D (nz vars).length d),(37,.int .i64 ((nz vars).length:Int)),(38,.int .i64 (i:Int))])
  (λi w'=>i<=vars.length/\Ext w3 w') (λi=>vars.length-i) 0 sB ⟨Nat.zero_le _,Ext.refl _⟩ ?_
 rintro i w4 ⟨hi,ap⟩;have af:=(az.trans ag).trans ap;have dj:=ay.ext ap;refine ciR (λh=>?_) (λh=>?_)
 .have li:i<vars.length:=by have:=oT h;omega
  clear h;have cr:=ak.ext af;refine ixR i cr om ?_;refine ldR (cr.cell (Zy li)) ?_;refine cfR ?_ ?_
  .exact decide_eq_false (by have:=b1 i li;omega)
  refine ρ ?_;exact Qy (i+1) sO ⟨om,ap⟩ om
 have dc:i=vars.length:=by have:=oF h;omega
 clear h hi dc;have aa:Ext w4 w4.drew:=(Ext.refl w4).drew;have b6:=dj.ext aa;refine drR (scq 7 [5]) ?_;refine Jz (b6.at (i:=0) rfl) ?_;refine Qz (cs:=[.int .i64 (vars.length:Int),.slice G ps.length gc]) (b6.sub2 (i:=1) rfl rfl) ?_;refine Jh (Jgh ((hA.ext (af.trans aa)).rel)) ?_;rintro u w5 ⟨rfl,be⟩;refine⟨be,?_⟩;refine ρd ?_;refine cfR ?_ ?_
 .exact Qvj (by rw[d6])
 have ae:=(af.trans aa).trans be;have a8:Ext w2 w5:=((ag.trans ap).trans aa).trans be;refine Jv Yf ?_;intro w6 bq bd dw cx;have bs:=(bw.ext a8).ext bd;have c2:=ae.trans bd;have b5:=(bo.ext a8).ext bd;refine ldR (bs.at (i:=0) rfl) ?_;refine ρ ?_;refine Xn (fun (k:Nat) (vv vc:Value)=>[(1,.int .u32 (s:Int)),(2,.pointer (some ⟨b,0,none⟩)),(4,.pointer (some ⟨br,0,none⟩)),(9,.pointer (some ⟨bq,0,none⟩)),(10,vc),(59,.slice D (nz vars).length d),(60,.int .i64 ((nz vars).length:Int)),(61,.int .i64 (k:Int))])
  (λk vv vc w'=>k<=vars.length/\Ext w w'/\Blk w' b 134 [.slice D (nz vars).length d,.int .i64 (vars.length:Int),.slice G ps.length gc]/\Blk w' br 134 [.slice none 0 0,.int .i64 0,.slice none 0 0]/\Blk w' bq 134 [vv,.int .i64 0,.slice none 0 0] /\
   Zh w' w.heap.size vv (inS (vars.take k) s)/\Zh w' w.heap.size vc (Zd vars s k)/\∀ g,vv.ownBlock=some g->vc.ownBlock≠some g) (λk _ _=>vars.length-k) 0 (.slice none 0 0) (.slice none 0 0) sB
  ⟨Nat.zero_le _,c2,bs,b5,cx,Zw _ _ _ _,Zw _ _ _ _,λg e=>(by cases e)⟩ ?_
 clear bs b5 cx;rintro k vv vc w7 ⟨hk,a9,ax,a4,a6,a7,ad,ai⟩;refine ciR (λh=>?_) (λh=>?_)
 .have lk:k<vars.length:=by have:=oT h;omega
  clear h;have cq:=ak.ext a9;have cj:=Jvp vars s k om;have dt:(inS (vars.take k) s).length<=32:=by
   have:=List.length_filter_le (λv=>s.testBit v) (vars.take k);rw[List.length_take]at this;unfold inS;omega
  refine ixR k cq om ?_;refine ldR (cq.cell (Zy lk)) ?_;refine ρ ?_;refine Iv (s:=s) (v:=vars.getD k 0) (by have:=b1 k lk;omega) ?_;refine ciR (λh=>?_) (λh=>?_)
  .rw[Gh hs]at h;refine ldR (a6.at (i:=0) rfl) ?_;refine Qv (bs1Int'' _) ?_;intro w8 b8 j dx di;refine ρ ?_;refine apI (Jk a7 j) di om (a9.trans j).size ?_;intro a1 w9 aq ac cc;have a2:∀ {w':World} {cs:List Nat} {v:Value},Zh w' w.heap.size v cs->∀ g,v.ownBlock=some g->w.heap.size<=g/\g<w'.heap.size:=λho g J=>by
    obtain⟨_,_,_,_,hf⟩:=Jy ho;exact hf g J
   have ao:Ext w w9:=Ql (a9.trans j) ac (λg J=>(a2 a7 g J).1);have a5:=(a6.ext j).grown ac ((a6.ext j).ne_own (Jk a7 j) rfl);have av:=(ax.ext j).grown ac ((ax.ext j).ne_own (Jk a7 j) rfl);have b4:=(a4.ext j).grown ac ((a4.ext j).ne_own (Jk a7 j) rfl);have bl:Zh w9 w.heap.size vc (Zd vars s k):=Ja (Jk ad j) (GrN.by ac λg J=>J) (λg J e=>ai g e J);have b3:∀ g,a1.ownBlock=some g->vc.ownBlock≠some g:=λg J e=>by
    rcases cc g J with h'|h'
    .exact ai g h' e
    have:=(a2 ad g e).2;have:=j.size;omega
   have dk:a1.oneCell'=true:=by obtain⟨_,_,e,_⟩:=Jy aq;rw[e];rfl
   refine Xq (p:=⟨bq,0,none⟩) (a5.cell 0) (a5.frozen _) ?_ (hv:=dk);have bg:w9.grownBy (w9.setCell ⟨bq,0,none⟩ a1) (some bq):=Qgk _;have cw:=a5.set 0 a1;have c3:Ext w (w9.setCell ⟨bq,0,none⟩ a1):=ao.setCell (by simp only;have:=ae.size;omega) _;have c8:Zh (w9.setCell ⟨bq,0,none⟩ a1) w.heap.size a1 (inS (vars.take k) s++[vars.getD k 0]):=Ja aq (GrN.by bg λg J=>J) (λg J e=>by injection e with e;subst e;exact a5.ne_own aq rfl J.symm);have bi:Zh (w9.setCell ⟨bq,0,none⟩ a1) w.heap.size vc (Zd vars s k):=Ja bl (GrN.by bg λg J=>J) (λg J e=>by injection e with e;subst e;exact a5.ne_own bl rfl J.symm);have b7:∀ {x:Nat},x<w5.heap.size->x≠bq:=λh e=>by omega
   have dh:Blk (w9.setCell ⟨bq,0,none⟩ a1) b 134 _:=av.far (b7 (by have:=bw.lt;have:=a8.size;omega)) _;have cv:Blk (w9.setCell ⟨bq,0,none⟩ a1) br 134 _:=b4.far (b7 (by have:=bo.lt;have:=a8.size;omega)) _;generalize w9.setCell ⟨bq,0,none⟩ a1=an at *
   clear a5 av b4 bl ao ac bg aq cc;refine Qv (bs1Int'' _) ?_;intro ba dz Z dq cz;refine ρ ?_;refine apI (Jk bi Z) cz om (c3.trans Z).size ?_;intro c1 ab ck a3 cd;have ah:Ext w ab:=Ql (c3.trans Z) a3 (λg J=>(a2 bi g J).1);have nb:∀ {g:Nat} {cs:List Value},Blk an g 134 cs->Blk ab g 134 cs:=λh=>(h.ext Z).grown a3 ((h.ext Z).ne_own (Jk bi Z) rfl);refine ρ ?_;refine Qt (k+1) a1 c1 sO ⟨om,ah,nb dh,nb cv,nb cw,?_,?_,λg J e=>?_⟩ om
   .rw[Jwx lk,if_pos h];exact Ja (Jk c8 Z) (GrN.by a3 λg J=>J) (λg J e=>b3 g J e)
   .rw[Kt,if_pos h];exact ck
   rcases cd g e with h'|h'
   .exact b3 g J h'
   have:=(a2 c8 g J).2;have:=Z.size;omega
  rw[Gh hs]at h;have hf:¬ s.testBit (vars.getD k 0)=true:=by rw[h];simp
  refine ρ ?_;refine Qt (k+1) vv vc sO ⟨om,a9,ax,a4,a6,?_,?_,ai⟩ om
  .rw[Jwx lk,if_neg hf,List.append_nil];exact a7
  rw[Kt,if_neg hf,List.append_nil];exact ad
 have d9:k=vars.length:=by have:=oF h;omega
 subst d9;clear h;rw[List.take_length]at a7;have de:Zd vars s vars.length=Xj vars s:=rfl;rw[de]at ad;obtain⟨VA,d3,bz,d4,_⟩:=Jy a7;obtain⟨CA,dl,d2,df,_⟩:=Jy ad;have bj:(Xj vars s).length<=32:=by
  have:=List.length_filter_le (λi=>s.testBit (vars.getD i 0)) (List.range vars.length);rw[List.length_range]at this;unfold Xj;omega
 have da:(inS vars s).length<=32:=by
  have:=List.length_filter_le (λv=>s.testBit v) vars;unfold inS;omega
 refine Jt (cs:=[.int .i64 (vars.length:Int),.slice G ps.length gc]) (ax.sub2 (i:=1) rfl rfl) ?_;refine ρ ?_;have ar:IntsV w7 vc (nz (Xj vars s)):=by
  refine⟨CA,dl,by rw[Qg];exact d2,by rw[Qg];exact df,by rw[Qg];omega,?_⟩;rw[Qg];have:=ad;rw[d2]at this;exact Rd.own this
 refine cl (Jtt (cs:=Xj vars s) ((hA.ext a9).rel) ar hlen (λc hc=>Jkc hc) bj hbig) ?_;rintro u w8 ⟨j,rv,rfl,⟨z,RB,rm,rd,rfl⟩,m,cb,d8,d7,ca⟩;refine Jv Gm ?_;intro w9 b9 ao dg av;refine Qw (cs':=[.int .i64 z,.slice RB rm rd]) av ?_ Yp;intro an d0 dn c5;have O:Ext w8 an:=c5 w8 ao dg;refine Qk d0 ?_;have am:=(a6.ext j).ext O;refine ρ ?_;refine stB (o:=1) (us:=[.int .i64 z,.slice RB rm rd]) am (by simp) Yp ?_;intro ba bp aj;refine Qk bp ?_;have co:w.heap.size<=bq:=by have:=ae.size;omega
 have bc:Ext w ba:=Jch ((a9.trans j).trans O) aj co;have cn:br≠bq:=by have:=bo.lt;have:=a8.size;omega
 have bn:Blk ba br 134 _:=((a4.ext j).ext O).grown aj (λe=>by injection e with e;exact cn e);refine Qw (cs':=[vv,.int .i64 z,.slice RB rm rd]) bn ?_ (λu hu=>by
  simp only[List.mem_cons,List.not_mem_nil,or_false]at hu;rcases hu with rfl|rfl|rfl
  .rw[bz];rfl
  .rfl
  rfl)
 intro ab bm a3 _;refine ρ ?_;have cm:w.heap.size<=br:=by have:=c6.size;omega
 have ah:Ext w ab:=Jch bc a3 cm;refine Zn bm ⟨ah,(vv,.int .i64 z,.slice RB rm rd),rfl,m,?_,d8,d7,ca⟩;have ce:GrN (λk=>k=bq∨k=br) an ab:=(GrN.by aj λk e=>.inl (by injection e with e;exact e.symm)).trans (GrN.by a3 λk e=>.inr (by injection e with e;exact e.symm));have cp:bq<w7.heap.size/\br<w7.heap.size:=⟨a6.lt,a4.lt⟩;intro w' cg;have bh:GrN (λk=>k<w7.heap.size) w8 w':=((GrN.ext O).trans (ce.mono λk _ hk=>by rcases hk with rfl|rfl;(exact cp.1);exact cp.2)).trans (cg.mono λk _ hk=>nM hk a9.size);obtain⟨rv,d1,d5⟩:=cb w' bh;have b2:(Value.int .i64 z)=.int .i64 ((Xj vars s).length:Int)/\Value.slice RB rm rd=rv:=by
  simp only[Value.agg.injEq,Array.mk.injEq,List.cons.injEq,and_true]at d1;exact d1
 have c7:Zh w' w.heap.size vv (inS vars s):=by
  have h1:=Jk (Jk a7 j) O;have h2:Zh ab w.heap.size vv (inS vars s):=Ja h1 ce λg J hk=>by
   rcases hk with rfl|rfl
   .exact am.ne_own h1 rfl J.symm
   exact((a4.ext j).ext O).ne_own h1 rfl J.symm
  refine Ja h2 cg λg J hk=>?_;obtain⟨_,_,_,_,hf⟩:=Jy h2;have:=(hf g J).1;omega
 have cj:(Xj vars s).length=(inS vars s).length:=by
  have:=Jvp vars s vars.length (nR _);rw[List.take_length]at this;exact this
 refine⟨⟨VA,d3,by rw[Qg];exact bz,by rw[Qg];exact d4,by rw[Qg];omega,?_⟩,?_,?_⟩
 .rw[Qg];rw[bz]at c7;exact Rd.own c7
 .simp only;rw[<-cj];exact b2.1
 simp only;rw[b2.2];exact d5
open Go.RowKit Pl Go.Wk
variable {nums vars:List Nat}{ls rs:List Row}{ar b s:Nat}{w:World}
def RowG(w:World)(cs:List Value)(z:Row): Prop:=∃ v,cs=[v]/\RowV w v z
theorem RowG.ext{w w':World}{cs:List Value}{z:Row}(h:RowG w cs z)(hx:Ext w w'): RowG w' cs z:=by
 obtain⟨v,e,i⟩:=h;exact⟨v,e,i.ext hx⟩
theorem Jtl: ∀(ps:List (List Value×Row)) (w:World),(∀ p∈ps,RowG w p.1 p.2)->∃ qs:List Pr,qs.map (·.2)=ps.map (·.2)/\qs.map (·.1)=Qm ps/\qs.length=ps.length/\∀ q∈qs,RowV w q.1 q.2
 | [],w,_=>⟨[],rfl,rfl,rfl,λq hq=>by cases hq⟩
 | p::ps,w,h=>by
  obtain⟨qs,h1,h2,h3,h4⟩:=Jtl ps w λq hq=>h q (List.mem_cons_of_mem _ hq);obtain⟨v,e,hr⟩:=h p (List.mem_cons_self ..);refine⟨(v,p.2)::qs,by simp[h1],?_,by simp[h3],λq hq=>?_⟩;repeat grind [Qm,List.mem_cons.1]
theorem Qhf{v:Value}(h:GV 1 RowG w v ls): RowsV w v ls:=by
 obtain⟨ps,A,c,e,D,u,j,i,hp⟩:=h;obtain⟨G,h1,h2,Z,O⟩:=Jtl ps w λp J=>(hp p J).2;rw[<-Z]at D u j i;exact⟨G,A,c,by rw[e,h1],D,u,j,by rw[h2];exact i,O⟩
def YM(b:Nat)(base:Nat)(l:List Row)(w:World): Prop:=b<base/\∃ v,Blk w b 95 [v]/\OwnG 59 1 RowG w base v l
theorem Qrc(hb:b<s): YZ s (.func (.func 172) #[] #[.pointer (some ⟨b,0,none⟩)]) (λk=>k=b) (YM b):=by
 refine⟨λbase l w w' h hg=>?_,_,_,_,rfl,λbase l w w1 vr z G h hx hr hl=>?_⟩
 .obtain⟨D,v,hB,hO⟩:=h;exact⟨D,v,Jc hB hg (λe=>om),hO.gr hg λk hk=>hk.2⟩
 obtain⟨D,v,hB,hO⟩:=h;have Z:=hB.ext hx;have J:=hO.ext hx;obtain⟨RA,rn,rc,a6,_,_,_⟩:∃ A n c,vr=.slice A n c/\True/\True/\True:=by obtain⟨A,c,e,_⟩:=hr;exact⟨A,_,c,e,trivial,trivial,trivial⟩
 refine enE Tryz.func172 Tryz.ntmps172 ?_;refine ldR (Z.at (i:=0) rfl) ?_;refine Qv (cs:=[vr]) (λw=>Jjj vr w RA rn rc a6) ?_;intro w2 b2 j af ab;obtain⟨_,_,_,_,hf⟩:=J.form;have hΦ:Off (Xx base v) w2 (λu=>RowG u [vr] z):=((hr.off.mono λk hk h=>by
  rcases h with h|h
  .omega
  obtain⟨_,_,_,_,a9⟩:=hO.form;exact(a9 k h).2).imp λu h=>⟨vr,rfl,h⟩).ext j
 refine ρ ?_;refine apG ER (Φ:=RowG) (J.ext j) ab rfl (λu hu=>by rw[List.mem_singleton.1 hu,a6];rfl) hΦ om om (nL G (hx.trans j).size) ?_;intro v3 w3 a4 a3 ac;obtain⟨A3,c3,e3,ae,ad⟩:=a4.form;have a1:GrN (λk=>k=b∨base<=k) w1 w3:=(GrN.ext j).trans (GrN.by a3 λk ek=>.inr (hf k ek).1);have a7:some b≠v.ownBlock:=by
  obtain⟨ps,_,ho,_⟩:=J;exact Z.ne_own ho rfl
 have O:Blk w3 b 95 [v]:=(Z.ext j).grown a3 a7;refine Xq (p:=⟨b,0,none⟩) (O.cell 0) (O.frozen _) ?_ (hv:=by rw[e3];rfl);have a5:=O.set 0 v3;have a2:GrN (λk=>k=b) w3 (w3.setCell ⟨b,0,none⟩ v3):=GrN.set _ rfl;refine ρ ?_;have a8:(l++[z]).length=l.length+1:=by simp
 rw[a8]at e3;refine ld (v:=.slice A3 (l.length+1) c3) ((a5.at (i:=0) rfl).trans (by simp[e3])) ?_;refine ρ ?_;have aa:OwnG 59 1 RowG (w3.setCell ⟨b,0,none⟩ v3) base v3 (l++[z]):=a4.gr a2 λk hk=>by omega
 refine Jj ⟨?_,⟨D,v3,a5,aa⟩,a1.trans (a2.mono λk _ hk=>.inl hk)⟩;rw[decide_eq_true (show((l.length+1:Nat):Int)<=65536 by omega)]
theorem Xkx(z:Int)(A:Option Addr)(n c:Nat)(w:World): (Instr.build 134 #[(1,.agg #[.int .i64 z,.slice A n c])]).run Tryz.prog w=.ok (.agg #[.slice none 0 0,.int .i64 z,.slice A n c]) w:=kr
theorem Qrd{Na:Option Addr}{t:V3}(hA:AtV w t ⟨nz vars,ar,rs⟩)(hB:Blk w b 26 [.slice Na nums.length nums.length])(hN:Rd w 1 Na nums.length (Je (nz nums)))(hlt:∀ v∈vars,v<nums.length)(hl:vars.length<=1000):
  Ret Tryz.prog 169 [.agg t.cells.toArray,.pointer (some ⟨b,0,none⟩)] w λu w'=>Ext w w'/\∃ v1,u=.agg #[v1,t.2.1,t.2.2]/\Off (λk=>k<w.heap.size) w' (λx=>IntsV x v1 (nz (vars.map λv=>nums.getD v 0))):=by
 obtain⟨t1,t2,t3⟩:=t;obtain⟨⟨D,d,e1,hd,bi,aq⟩,e2,ah⟩:=id hA;simp only at e1 e2;subst e1;subst e2;obtain⟨ps,G,gc,_,am,_⟩:=id ah;simp only at am;subst am;have br:=Qg vars;have ap:Rd w 1 D (nz vars).length (Je (nz vars)):=aq;clear aq hd bi;refine enE Tryz.func169 Tryz.ntmps169 ?_;refine bxR ?_;intro w1 b1 af c3 b8;refine Jv Yf ?_;intro w2 b2 a8 c2 b5;refine Jt (cs:=[.int .i64 (ar:Int),.slice G ps.length gc]) ((b8.ext a8).sub2 (i:=1) rfl rfl) ?_;refine Zz (Xkx _ _ _ _ _) ?_;refine Jv Yf ?_;intro w3 b3 bc bl bp;refine Qw (cs':=[.slice none 0 0,.int .i64 (ar:Int),.slice G ps.length gc]) bp ?_ (λu hu=>by
  simp only[List.mem_cons,List.not_mem_nil,or_false]at hu;rcases hu with rfl|rfl|rfl<;>rfl)
 intro w4 bo bz bb;have a6:Ext w2 w4:=bb w2 bc bl;have ai:Ext w w4:=(af.trans a8).trans a6;have b7:=(b8.ext a8).ext a6;have b4:=b5.ext a6;refine ldR (b7.at (i:=0) rfl) ?_;refine ρ ?_;refine Jo (fun (k:Nat) (vv:Value)=>[(1,.pointer (some ⟨b,0,none⟩)),(3,.pointer (some ⟨b2,0,none⟩)),(4,.pointer (some ⟨b3,0,none⟩)),(11,.slice D (nz vars).length d),(12,.int .i64 ((nz vars).length:Int)),(13,.int .i64 (k:Int))])
  (λk vv w'=>k<=vars.length/\Ext w w'/\Blk w' b2 134 [.slice none 0 0,.int .i64 0,.slice none 0 0]/\Blk w' b3 134 [vv,.int .i64 (ar:Int),.slice G ps.length gc]/\Zh w' w.heap.size vv ((vars.take k).map λv=>nums.getD v 0)) (λk _=>vars.length-k) 0 (.slice none 0 0) sB
  ⟨Nat.zero_le _,ai,b4,bo,Zw _ _ _ _⟩ ?_
 rintro k vv w5 ⟨hk,a4,a3,ae,a5⟩;refine ciR (λh=>?_) (λh=>?_)
 .have lk:k<vars.length:=by have:=oT h;omega
  clear h;have ax:=ap.ext a4;have aj:=hlt _ (getD_mem' 0 _ lk);obtain⟨own,Z⟩:∃ own,own=vv.ownBlock:=⟨_,rfl⟩;have ao:∀ j,own=some j->w.heap.size<=j:=λj ej=>by
   obtain⟨_,_,_,_,hf⟩:=Jy a5;exact(hf j (by rw[<-Z];exact ej)).1
  have bw:((vars.take k).map λv=>nums.getD v 0).length<=1000:=by simp;omega
  refine ixR k ax om ?_;refine ldR (ax.cell (Zy lk)) ?_;refine ρ ?_;refine drN (one own) 8 (scq 10 [6,7,109]) kr ?_;have O:Ext w5 w5.drew:=(Ext.refl w5).drew;have a1:=ae.ext O;have bm:=hB.ext (a4.trans O);have av:=hN.ext (a4.trans O);have a9:=Jk a5 O;have n3:¬ one own b3:=λe=>a1.ne_own a9 rfl (by rw[<-Z];exact e.symm);have ac:∀ {g:Nat},g<w.heap.size->¬ one own g:=λhg e=>by have:=ao _ e;omega
  refine ρn ?_;refine nld (Jr (a1.at (i:=0) rfl) n3) ?_;refine ρn ?_;refine nld (Jr (bm.at (i:=0) rfl) (ac hB.lt)) ?_;refine ρn ?_;refine nix (vars.getD k 0) av aj ?_;refine ρn ?_;refine nld (λw' hg=>(Vb av hg (λh0 ad e=>ac (by
   obtain⟨c4,e',an,_⟩:=hN.2 h0;rw[e]at e';injection e' with e';subst e';exact an))).cell (Zy aj)) ?_
  refine ρn ?_;refine nop ?_;refine bsl (bs1Int'' _) ?_;intro w6 b6 J c1 bn;refine ρ ?_;refine Qj (GrN.ext J) ?_;refine nop ?_;refine apI (Jk a9 J) bn om (((a4.trans O).trans J).size) ?_;intro a7 w7 ag aa bs;refine ρ ?_;refine Qj (GrN.by aa λj ej=>by rw[<-Z]at ej;exact ej) ?_;refine ρn ?_;refine Xm ?_;have a2:=(a1.ext J).grown aa ((a1.ext J).ne_own (Jk a9 J) rfl);have ay:=((a3.ext O).ext J).grown aa (((a3.ext O).ext J).ne_own (Jk a9 J) rfl);have ba:Ext w w7:=Ql ((a4.trans O).trans J) aa (λj ej=>ao j (by rw[Z];exact ej));have bq:a7.oneCell'=true:=by obtain⟨_,_,e,_⟩:=Jy ag;rw[e];rfl
  refine sto (p:=⟨b3,0,none⟩) (a2.cell 0) (a2.frozen _) ?_ (hv:=bq);have bg:GrN (λk=>k=b3) w7 (w7.setCell ⟨b3,0,none⟩ a7):=GrN.set _ rfl;have bj:w.heap.size<=b3:=by have:=(af.trans a8).size;omega
  refine ω5 ?_;refine Gv ?_;refine ρn ?_;refine ρ ?_;refine Jl (k+1) a7 sO ⟨om,ba.setCell bj _,ay.far (by simp only;have:=b5.lt;omega) _,a2.set 0 a7,?_⟩ om;rw[Qs 0 lk,List.map_append];exact Ja ag bg (λg eg e=>by subst e;exact a2.ne_own ag rfl eg.symm)
 have bf:k=vars.length:=by have:=oF h;omega
 subst bf;clear h;rw[List.take_length]at a5;obtain⟨VA,b9,ab,ak,bd⟩:=Jy a5;rw[List.length_map]at ab ak;refine Qk ae ?_;refine Qw (cs':=[vv,.int .i64 (ar:Int),.slice G ps.length gc]) a3 ?_ (λu hu=>by
  simp only[List.mem_cons,List.not_mem_nil,or_false]at hu;rcases hu with rfl|rfl|rfl
  .rw[ab];rfl
  .rfl
  rfl)
 intro w6 az bh J;refine ρ ?_;have au:w.heap.size<=b2:=by have:=af.size;omega
 refine Kq az ⟨J w a4 au,vv,rfl,?_⟩;have be:Zh w6 w.heap.size vv (vars.map λv=>nums.getD v 0):=Ja a5 (GrN.by bh λg eg=>eg) (λg eg e=>by injection e with e;subst e;exact a3.ne_own a5 rfl eg.symm);refine(Jxx be (λg eg hk=>by have:=(bd g eg).1;omega)).imp λx h=>⟨VA,b9,by rw[Qg,List.length_map];exact ab,by rw[Qg,List.length_map];exact ak,by rw[Qg,List.length_map];omega,?_⟩;rw[ab]at h;rw[Qg,List.length_map];simp only[List.length_map]at h;exact Rd.own h
end Go.Proofs.YtgobkbeokaaplaaGreatDoor
namespace Go.Proofs.YtgobkbeokaaplaaGreatDoor
open Pl Go.Wk
variable {vars vs:List Nat}{k m n s u v:Nat}
def bk(s v:Nat): List Nat:=(List.range v).filter λu=>s.testBit u
theorem bk_mem: u∈bk s v↔u<v/\s.testBit u=true:=by simp[bk]
theorem Gg(s v:Nat): bk s (v+1)=bk s v++if s.testBit v then[v] else[]:=by grind [bk,List.range_succ]
theorem Jqz(s v:Nat): Xy (bk s v):=List.Pairwise.sublist List.filter_sublist List.pairwise_lt_range
theorem Yo(s v:Nat): (bk s v).length<=v:=by
 have:=List.length_filter_le (λu=>s.testBit u) (List.range v);rw[List.length_range]at this;exact this
theorem Qqz(s n:Nat): ∀ u,u<=n->lv (bk s n) u=(bk s u).length
 | 0,_=>by rw[Jwq];rfl
 | u+1,h=>by
  have ih:=Qqz s n u om;rw[Gg,List.length_append,<-ih];by_cases hb:s.testBit u=true
  .rw[if_pos hb,(Yy (Jqz s n) (bk_mem.2 ⟨om,hb⟩)).1];rfl
  rw[if_neg hb,Jqh (λh'=>hb (bk_mem.1 h').2)];rfl
theorem Jhl(ha:Xy vs)(hk:k<vs.length): lv vs (vs.getD k 0)=k:=by
 obtain⟨_,i,j⟩:=Yy ha (getD_mem' 0 vs hk);exact Qqk (Qyj ha) i hk ((Qd 0 vs i).symm.trans (j.trans (Qd 0 vs hk)))
theorem Jkj(hs:s<2^n)(h:s.testBit u=true): u<n:=by grind [Nat.lt_or_ge,Nat.testBit_lt_two_pow,Nat.lt_of_lt_of_le,Nat.pow_le_pow_right]
def Vr(s v:Nat): List Nat:=(List.range 32).map λu=>if u<v/\s.testBit u=true then(bk s u).length else 0
theorem Jzh(s v:Nat): (Vr s v).length=32:=by simp[Vr]
theorem Qnz(hu:u<32)(h:s.testBit u=true): (Vr s 32).getD u 0=lv (bk s 32) u:=by grind [Qqz,Vr,List.getD]
theorem Qqh(hv:v<32): Vr s (v+1)=if s.testBit v then(Vr s v).set v (bk s v).length else Vr s v:=by
 apply List.ext_getElem?
 grind [Jzh,Vr,List.getElem?_range,Nat.lt_or_ge]
def rnm(vars:List Nat)(s:Nat): List Nat:=(inS vars s).map λv=>lv (bk s 32) v
theorem inS_mem: v∈inS vars s↔v∈vars/\s.testBit v=true:=by simp[inS]
theorem Qth(h:Xy vars): Xy (inS vars s):=List.Pairwise.sublist List.filter_sublist h
theorem Qrq(ha:Xy vs)(hu:u∈vs)(h:u<v): lv vs u<lv vs v:=by
 have i:=(Yy ha hu).1;have mono:∀ k,lv vs (u+1)<=lv vs (u+1+k):=by
  intro k;induction k with
  | zero=>exact nR _
  | succ k ih=>
   by_cases h:u+1+k∈vs
   repeat grind [Yy,Nat.add_assoc,Jqh]
 have:=mono (v-(u+1));grind
theorem Qhw(h:Xy vars)(hl:∀ v∈vars,v<32): Xy (rnm vars s):=by
 unfold rnm Xy;rw[List.pairwise_map];refine List.Pairwise.imp_of_mem (fun {u v} hu hv huv=>?_) (Qth (s:=s) h);exact Qrq (Jqz s 32) (bk_mem.2 ⟨hl u (inS_mem.1 hu).1,(inS_mem.1 hu).2⟩) huv
theorem Qhv(hl:∀ v∈vars,v<32)(hk:k∈rnm vars s): k<(bk s 32).length:=by
 obtain⟨v,i,rfl⟩:=List.mem_map.1 hk;obtain⟨u,j⟩:=inS_mem.1 i;exact(Yy (Jqz s 32) (bk_mem.2 ⟨hl v u,j⟩)).2.1
theorem Jtq(vars:List Nat)(s:Nat): (rnm vars s).length=(inS vars s).length:=by simp[rnm]
def Ko(m:Nat)(vars:Nat->List Nat)(rs:Nat->List Row)(s:Nat)(z:Row): Prop:=∀ i,i<m->∃ r∈rs i,∀ j,j<(vars i).length->s.testBit ((vars i).getD j 0)=true->r.getD j V0=z.getD ((vars i).getD j 0) V0
theorem Jmh{vars:List Nat}{s:Nat}{r z:Row}(hr:r.length=vars.length): ∀ k,k<=vars.length->(pmR (Zd vars s k) r=pmR (inS (vars.take k) s) z↔∀ j,j<k->s.testBit (vars.getD j 0)=true->r.getD j V0=z.getD (vars.getD j 0) V0)
 | 0,_=>by simp[Zd,inS,pmR]
 | k+1,h=>by
  have ih:=Jmh (s:=s) (z:=z) hr k om;grind [Jvp,Kt,Jwx,pmR,Zd,V0,inS,List.append_inj,Xw]
theorem Qrb{vars:Nat->List Nat}{rs ms:Nat->List Row}(hs:s<2^n)(hn:n<=32)(hlt:∀ i,i<m->∀ v∈vars i,v<n)(hlen:∀ i,i<m->∀ r∈rs i,r.length=(vars i).length)(hms:∀ i,i<m->∀ x,x∈ms i↔x∈(rs i).map (pmR (Xj (vars i) s)))(x:Row):
  Vm (bk s 32).length m (λi=>rnm (vars i) s) ms x↔∃ z:Row,z.length=n/\x=pmR (bk s 32) z/\Ko m vars rs s z:=by
 have key:∀ z:Row,∀ i,i<m->(pmR (rnm (vars i) s) (pmR (bk s 32) z)∈ms i↔∃ r∈rs i,∀ j,j<(vars i).length->s.testBit ((vars i).getD j 0)=true->r.getD j V0=z.getD ((vars i).getD j 0) V0):=λz i hi=>by
  have e:pmR (rnm (vars i) s) (pmR (bk s 32) z)=pmR (inS (vars i) s) z:=by
   unfold rnm pmR;rw[List.map_map];refine List.map_congr_left λv Z=>?_;obtain⟨h1,G⟩:=inS_mem.1 Z;have O:v∈bk s 32:=bk_mem.2 ⟨by grind,G⟩;obtain⟨_,h4,h5⟩:=Yy (Jqz s 32) O;grind
  rw[e,hms i hi,List.mem_map];have hk:∀ r∈rs i,(pmR (Xj (vars i) s) r=pmR (inS (vars i) s) z↔∀ j,j<(vars i).length->s.testBit ((vars i).getD j 0)=true->r.getD j V0=z.getD ((vars i).getD j 0) V0):=λr hr=>by
   have:=Jmh (s:=s) (z:=z) (hlen i hi r hr) (vars i).length (nR _);rw[List.take_length]at this;exact this
  grind
 constructor
 .rintro⟨hl,hx⟩;let z:Row:=(List.range n).map λu=>x.getD (lv (bk s 32) u) V0
  have D:z.length=n:=by simp[z]
  have J:x=pmR (bk s 32) z:=by
   apply List.ext_getElem
   .rw[Xw];exact hl
   intro k h1 G;rw[Xw]at G;have hu:=bk_mem.1 (getD_mem' 0 _ G);have a1:=Jkj hs hu.2;have h3:=Qjv (z:=z) G;grind [Qd,V0,Xw,bk,lv,List.getD,List.getElem?_range,Jhl,Jqz]
  refine⟨z,D,J,λi hi=>?_⟩;grind
 rintro⟨z,D,rfl,O⟩;exact⟨Xw _ _,λi hi=>(key z i hi).2 (O i hi)⟩
end Go.Proofs.YtgobkbeokaaplaaGreatDoor
namespace Go.Wk
open Go.RowKit
variable {b n t ty:Nat}
theorem Kc{P:Program}{al:AL}{w:World}{Q:Exit->Act->World->Prop}{ops:Array Oper}{rest:List Oper}{pos:String}{aft:Array Edge}{tt:TT}[h:Tab P tt]{x y:Operand}{k:TK}{u v:Value}(hb:Blk w b t [u])(kk:∀ w1,Blk w1 b t [v]->w.grownBy w1 (some b)->(∀ a,Ext a w->a.heap.size<=b->Ext a w1)->WL P n ops Q rest al w1)(hv:v.oneCell'=true)(ht:tk tt t=some k:=by rfl)(hk:k.size=1:=by rfl)(hp:Vd k.desc=true:=by rfl)(hx:ev al x=some (.pointer (some ⟨b,0,none⟩)):=by rfl)(hy:ev al y=some v:=by rfl):
  WL P n ops Q (⟨none,.store t x y,ty,pos,aft,none⟩::rest) al w :=
 Jnx h.ok ht hk hp hx hy hv (hb.cell 0) (hb.frozen 0) (kk _ (hb.set 0 v) ⟨rfl,rfl,rfl,by simp[World.setCell],λk hk hn=>Below.heap_setCell w ⟨b,0,none⟩ v k (λe=>hn (by rw[e]))⟩ λa j i=>j.setCell i v)
end Go.Wk
namespace Go.Proofs.YtgobkbeokaaplaaGreatDoor
open Go.RowKit Pl Go.Wk _root_.Go.Proofs.Tryz
attribute [local irreducible] WC WL QX WD WDB WP WN WG
variable {cs vs:List Nat}{ts ts':List TA}{base c ca n s:Nat}{vars:Nat->List Nat}{ms rs:Nat->List Row}{A Aa:Option Addr}{v:Value}{w:World}
structure MOk(n:Nat)(ts:List TA)(vars:Nat->List Nat)(rs:Nat->List Row)(s:Nat): Prop where
 run:RunOk n ts vars rs
 sb:s<2^n
 valid:∀ i,i<ts.length->∀ r∈rs i,r.all Xl=true
 srtP:∀ i,i<ts.length->(rs i).length<=12∨Srt [] ((rs i).map (pmR (Xj (vars i) s)))
theorem Xwv(h:Xy vs): ascB (nz vs):=λj u i=>by
 rw[Qg]at i;rw[Jgv i,Jgv (show j-1<vs.length by omega)];have:=List.pairwise_iff_getElem.1 h (j-1) j om i om;grind
theorem Jfv(h:RunOk n ts vars rs): Jvs n (ts.map (·.2)):=by
 have Z:=h.n32;refine⟨om,om,by rw[List.length_map];exact h.m32,λa O=>?_,λv j=>?_⟩
 .obtain⟨t,ht,rfl⟩:=List.mem_map.1 O;obtain⟨i,hi,e⟩:=List.getElem_of_mem ht;have D:=h.at_ i hi;rw[Qd ta0 ts hi,e]at D;rw[D];refine⟨Xwv (h.asc i hi),λv j=>?_,by simp only;rw[Qg]⟩;obtain⟨u,G,rfl⟩:=List.mem_map.1 j;have:=h.lt i hi u G;omega
 obtain⟨i,hi,J⟩:=h.cov v om;refine⟨(ts.getD i ta0).2,List.mem_map_of_mem (getD_mem' ta0 ts hi),?_⟩;rw[h.at_ i hi];exact List.mem_map.2 ⟨v,J,rfl⟩
def AtG(w:World)(cs:List Value)(a:Atm): Prop:=∃ t:V3,cs=t.cells/\AtV w t a
theorem Qyg: ∀(ps:List (List Value×Atm)) (w:World),(∀ p∈ps,AtG w p.1 p.2)->∃ ts:List TA,ts.map (·.2)=ps.map (·.2)/\atC ts=Qm ps/\ts.length=ps.length/\∀ q∈ts,AtV w q.1 q.2
 | [],w,_=>⟨[],rfl,rfl,rfl,λq hq=>by cases hq⟩
 | p::ps,w,h=>by
  obtain⟨qs,h1,h2,h3,h4⟩:=Qyg ps w λq hq=>h q (List.mem_cons_of_mem _ hq);obtain⟨t,e,hr⟩:=h p (List.mem_cons_self ..);refine⟨(t,p.2)::qs,by simp[h1],?_,by simp[h3],λq hq=>?_⟩;repeat grind [Qm,atC,List.mem_cons.1]
theorem Jng{ats:List Atm}(h:GV 3 AtG w v ats): ∃(ts:List TA) (A:Option Addr) (c:Nat),ats=ts.map (·.2)/\v=.slice A ts.length c/\ts.length<=c/\ts.length<=1100000/\Rd w 3 A ts.length (atC ts)/\∀ p∈ts,AtV w p.1 p.2:=by
 obtain⟨ps,A,c,e,e1,Z,O,j,hp⟩:=h;obtain⟨ts,J,G,D,u⟩:=Qyg ps w λp i=>(hp p i).2;grind
theorem EA: ElT prog 31 134 3 56 (.agg #[.slice none 0 0,.int .i64 0,.slice none 0 0]):=⟨underlying31,info_parts kr,rfl,by decide⟩
theorem zInts: Qr prog 26=some (.slice none 0 0):=kr
theorem zRows: Qr prog 95=some (.slice none 0 0):=kr
theorem Jmt(v1 v2 v3:Value)(A B:Option Addr)(n c m d:Nat)(z:Int)(h1:v1=.slice A n c)(h2:v2=.int .i64 z)(h3:v3=.slice B m d)(w:World): (Instr.buildSlice 31 1 #[(0,.agg #[v1,v2,v3])]).run prog w=.ok (.slice (some ⟨w.heap.size,0,none⟩) 1 1) (w.alloc (.cells [v1,v2,v3].toArray 134)):=by
 subst h1;subst h2;subst h3;kernel_rfl
theorem Qvm(A B:Option Addr)(n c m d:Nat)(z:Int)(w:World): (Instr.build 134 #[(0,.slice A n c),(1,.agg #[.int .i64 z,.slice B m d])]).run prog w=.ok (.agg #[.slice A n c,.int .i64 z,.slice B m d]) w:=kr
theorem Ic{z:Int}(h:v.oneCell'=true): ∀ u∈[v,.int .i64 z,.slice A n c],u.oneCell'=true:=λu i=>by
 simp only[List.mem_cons,List.not_mem_nil,or_false]at i;rcases i with rfl|rfl|rfl
 .exact h
 .rfl
 rfl
theorem Qmq(hok:MOk n ts vars rs s)(hl:ts'.length=ts.length)(he:(List.range ts.length).map (λj=>(⟨nz (rnm (vars j) s),(rnm (vars j) s).length,ms j⟩:Atm))=ts'.map (·.2))(hms:∀ j,j<ts.length->IsSet [] ((rs j).map (pmR (Xj (vars j) s))) (ms j)/\(ms j).length<=65536): RunOk (bk s 32).length ts' (λj=>rnm (vars j) s) ms:=by
 have G:=hok.run.n32;have D:∀ i,i<ts.length->∀ v∈vars i,v<32:=λi hi v Z=>by have:=hok.run.lt i hi v Z;omega
 refine⟨Yo s 32,by rw[hl];exact hok.run.m32,λi hi=>?_,λi hi=>Qhw (hok.run.asc i (hl ▸ hi)) (D i (hl ▸ hi)),λi hi u hu=>Qhv (D i (hl ▸ hi)) hu,λk J=>?_,λi hi=>(hms i (hl ▸ hi)).1.1,λi hi r hr=>?_,λi hi=>(hms i (hl ▸ hi)).2⟩
 .have h1:(ts'.map (·.2))[i]?=some (ts'.getD i ta0).2:=by rw[List.getElem?_map,List.getElem?_eq_getElem hi,Option.map_some,Qd ta0 ts' hi]
  grind
 .obtain⟨h1,O⟩:=bk_mem.1 (getD_mem' 0 _ J);obtain⟨i,hi,hm⟩:=hok.run.cov _ (Jkj hok.sb O);exact⟨i,hl.symm ▸ hi,List.mem_map.2 ⟨_,inS_mem.2 ⟨hm,O⟩,Jhl (Jqz s 32) J⟩⟩
 obtain⟨x,hx,rfl⟩:=List.mem_map.1 (((hms i (hl ▸ hi)).1.2 r).1 hr);have:=Jvp (vars i) s (vars i).length (nR _);rw[List.take_length]at this;rw[Xw,Jtq];exact this
theorem Qsj(hok:MOk n ts vars rs s)(hms:∀ j,j<ts.length->IsSet [] ((rs j).map (pmR (Xj (vars j) s))) (ms j)/\(ms j).length<=65536){x:Row}(hx:Vm (bk s 32).length ts.length (λi=>rnm (vars i) s) ms x): x.all Xl=true:=by
 rw[List.all_eq_true];intro y O;obtain⟨k,hk,rfl⟩:=List.getElem_of_mem O;have u:k<(bk s 32).length:=by rw[<-hx.1];exact hk
 obtain⟨h1,J⟩:=bk_mem.1 (getD_mem' 0 _ u);obtain⟨i,hi,Z⟩:=hok.run.cov _ (Jkj hok.sb J);have h3:=hx.2 i hi;obtain⟨r,D,e⟩:=List.mem_map.1 (((hms i hi).1.2 _).1 h3);have G:x.getD k V0∈pmR (rnm (vars i) s) x:=List.mem_map.2 ⟨k,List.mem_map.2 ⟨_,inS_mem.2 ⟨Z,J⟩,Jhl (Jqz s 32) u⟩,rfl⟩;rw[<-e]at G;obtain⟨c,hc,e2⟩:=List.mem_map.1 G;have h5:=List.all_eq_true.1 (hok.valid i hi r D) (r.getD c V0) (getD_mem' V0 r (by rw[hok.run.len i hi r D];exact Jkc hc));grind
theorem Qpb(s:Nat): (madeCells (Value.int .i64 0).cells (32*1)).toList=Je (nz (Vr s 0)):=by
 have e:(madeCells (Value.int .i64 0).cells (32*1)).toList=List.replicate 32 (Value.int .i64 0):=Us _ _;have i:Vr s 0=List.replicate 32 0:=by simp[Vr,List.map_const']
 rw[e,i];rfl
theorem Qnw(cs:List Nat)(i x:Nat): Je (nz (cs.set i x))=(Je (nz cs)).set i (.int .i64 (x:Int)):=by simp[Je,nz,List.map_set]
theorem Qzh(h:Zh w base v cs): ∃ A c,v=.slice A cs.length c/\cs.length<=c/\∀ g,v.ownBlock=some g->base<=g/\g<w.heap.size:=Jy h
theorem Qpz(hok:MOk n ts vars rs s)(hR:Rd w 3 Aa ts.length (atC ts))(hle:ts.length<=ca)(hat:∀ p∈ts,AtV w p.1 p.2)(hcap:∀ l:List Row,Lt [] l->(∀ x∈l,∃ z:Row,z.length=n/\x=pmR (bk s 32) z/\Ko ts.length vars rs s z)->l.length<=65536):
  Ret prog 123 [.int .i64 (n:Int),.int .u32 (s:Int),.slice Aa ts.length ca] w λu w'=>Ext w w'/\∃(t':V3) (st:Int) (l:List Row),u=.tuple #[.agg t'.cells.toArray,.int .i64 st,.int .i64 0] /\
   Off (λk=>k<w.heap.size) w' (λx=>AtV x t' ⟨nz (bk s 32),(bk s 32).length,l⟩)/\Lt [] l/\(∀ x,x∈l↔∃ z:Row,z.length=n/\x=pmR (bk s 32) z/\Ko ts.length vars rs s z)/\l.length<=65536:=by
 have b9:=hok.run.n32;have ey:=hok.run.m32;have b7:s<4294967296:=nM hok.sb (Nat.pow_le_pow_right (n:=2) (by decide) b9);have a6:∀ i,i<ts.length->∀ v∈vars i,v<32:=λi hi v hv=>by have:=hok.run.lt i hi v hv;omega
 refine enE func123 ntmps123 ?_;refine Jv Yf ?_;intro w1 b6 c8 en ah;refine clR (Jhp (n:=(n:Int)) (ats:=ts.map (·.2)) ⟨ts,Aa,ca,rfl,rfl,hle,om,hR.ext c8,λp hp=>(hat p hp).ext c8⟩) ?_
 rintro u w2 ⟨d1,e,rfl,he⟩;have e0:=he.2 (Jfv hok.run);subst e0;clear he;refine ρ ?_;refine Iv (s:=s) (v:=n) b9 ?_;rw[Nat.div_eq_of_lt hok.sb];refine ρ ?_;refine mkn EI 32 om (by unfold maxLen;omega) ?_;intro w3 Na d0 cg _;rw[Qpb s]at cg;refine Jv zInts ?_;intro w4 bs ec dq Z;refine ρ ?_;refine Kc Z ?_ rfl;intro w5 Z fb eb;have ax:Ext w3 w5:=eb w3 ec dq;have bw:=c8.trans d1;have cy:Ext w w5:=(bw.trans d0).trans ax;have dc:w5.ownsRow w.heap.size 3 1 (.slice Na 32 32) 32 (Je (nz (Vr s 0))):=Jbk (Jk cg ax) bw.size;have c5:Blk w5 b6 134 [.slice none 0 0,.int .i64 0,.slice none 0 0]:=(ah.ext d1).ext (d0.trans ax);refine ρ ?_;refine Jo (fun (v:Nat) (vv:Value)=>[(0,.int .i64 (n:Int)),(1,.int .u32 (s:Int)),(2,.slice Aa ts.length ca),(6,.pointer (some ⟨b6,0,none⟩)),(10,vv),(11,.pointer (some ⟨bs,0,none⟩)),(37,.int .i64 (v:Int))])
  (λv vv w'=>v<=32/\Ext w w'/\Blk w' b6 134 [.slice none 0 0,.int .i64 0,.slice none 0 0]/\Blk w' bs 26 [.slice Na 32 32]/\w'.ownsRow w.heap.size 3 1 (.slice Na 32 32) 32 (Je (nz (Vr s v)))/\Zh w' w.heap.size vv (bk s v)/\∀ g,vv.ownBlock=some g->(Value.slice Na 32 32).ownBlock≠some g) (λv _=>32-v) 0 (.slice none 0 0) sB
  ⟨om,cy,c5,Z,dc,Zw _ _ _ _,λg e=>(by cases e)⟩ ?_
 clear cg dc c5 Z;rintro v vv w6 ⟨hv,bm,ah,Z,ag,b4,aa⟩;refine ciR (λh=>?_) (λh=>?_)
 .have lv:v<32:=by have:=oT h;omega
  clear h;have dj:=Yo s v;have ez:∀ {w':World},(Vr s v).length=32:=fun {_}=>Jzh s v
  obtain⟨VA,vc,cr,d5,c9⟩:=Qzh b4;refine ρ ?_;refine Iv (s:=s) (v:=v) om ?_;refine ciR (λh=>?_) (λh=>?_)
  .rw[Gh b7]at h;subst cr;refine ldR (Z.at (i:=0) rfl) ?_;refine ixR v (Rd.own ag) lv ?_;obtain⟨s1,s2,s3,s4,s5⟩:=Zt ag (q:=v) om (.int .i64 ((bk s v).length:Int));refine Xq (s1.trans (Zy (by rw[Jzh];exact lv))) s2 ?_;rw[<-Qnw]at s3;have da:∀ g,(Value.slice Na 32 32).ownBlock=some g->w.heap.size<=g:=λg eg=>by
    obtain⟨_,_,_,_,hf⟩:=Jy ag;exact(hf g eg).1
   have a4:Ext w (w6.setCell (adr Na v) (.int .i64 ((bk s v).length:Int))):=Ql bm s5 da;have a5:=ah.grown s5 (ah.ne_own ag rfl);have a3:=Z.grown s5 (Z.ne_own ag rfl);have af:Zh (w6.setCell (adr Na v) (.int .i64 ((bk s v).length:Int))) w.heap.size (.slice VA (bk s v).length vc) (bk s v):=Ja b4 (GrN.by s5 λg eg=>eg) (λg eg e=>aa g eg e);generalize w6.setCell (adr Na v) (.int .i64 ((bk s v).length:Int))=w7 at *
   clear s1 s2 s4 s5;refine Qv (bs1Int'' _) ?_;intro w8 b8 D fe ep;refine ρ ?_;refine apI (Jk af D) ep om (a4.trans D).size ?_;intro e8 w9 cb a7 ek;have ap:Ext w w9:=Ql (a4.trans D) a7 (λg eg=>(c9 g eg).1);refine ρ ?_;refine Jl (v+1) e8 sO ⟨om,ap,(a5.ext D).grown a7 ((a5.ext D).ne_own (Jk af D) rfl),(a3.ext D).grown a7 ((a3.ext D).ne_own (Jk af D) rfl),?_,?_,λg eg e=>?_⟩ om
   .rw[Qqh lv,if_pos h];exact Ja (Jk s3 D) (GrN.by a7 λg eg=>eg) (λg eg e=>aa g e eg)
   .rw[Gg,if_pos h];exact cb
   rcases ek g eg with h'|h'
   .exact aa g h' e
   obtain⟨_,_,_,_,hf⟩:=Jy s3;have:=(hf g e).2;have:=D.size;omega
  rw[Gh b7]at h;have hf:¬ s.testBit v=true:=by rw[h];simp
  refine ρ ?_;refine Jl (v+1) vv sO ⟨om,bm,ah,Z,?_,?_,aa⟩ om
  .rw[Qqh lv,if_neg hf];exact ag
  rw[Gg,if_neg hf,List.append_nil];exact b4
 have ee:v=32:=by have:=oF h;omega
 subst ee;clear h aa;obtain⟨VA,vc,cr,d5,c9⟩:=Qzh b4;subst cr;have dj:=Yo s 32;refine ρ ?_;refine Jxg (fun (i:Nat) (st:Int) (vp:Value) (ms:Nat->List Row)=>[(0,.int .i64 (n:Int)),(1,.int .u32 (s:Int)),(6,.pointer (some ⟨b6,0,none⟩)),(10,.slice VA (bk s 32).length vc),(13,.func (.func 169) #[] #[.pointer (some ⟨bs,0,none⟩)]),(14,.int .i64 st),(15,vp),(56,.slice Aa ts.length ca),(57,.int .i64 (ts.length:Int)),(58,.int .i64 (i:Int))])
  (λi st vp ms w'=>i<=ts.length/\Ext w w'/\w6.heap.size<=w'.heap.size/\Blk w' b6 134 [.slice none 0 0,.int .i64 0,.slice none 0 0]/\Blk w' bs 26 [.slice Na 32 32]/\w'.ownsRow w.heap.size 3 1 (.slice Na 32 32) 32 (Je (nz (Vr s 32)))/\Zh w' w.heap.size (.slice VA (bk s 32).length vc) (bk s 32) /\
   OwnG 134 3 AtG w' w6.heap.size vp ((List.range i).map λj=>⟨nz (rnm (vars j) s),(rnm (vars j) s).length,ms j⟩)/\∀ j,j<i->IsSet [] ((rs j).map (pmR (Xj (vars j) s))) (ms j)/\(ms j).length<=65536) (λi _ _ _=>ts.length-i) 0 0 (.slice none 0 0) (λ_=>[]) sB
  ⟨Nat.zero_le _,bm,Nat.le_refl _,ah,Z,ag,b4,OwnG.nil _ _,λj hj=>om⟩ ?_
 rintro i st vp ms w7 ⟨hi,a4,b5,a5,a3,db,af,cj,ak⟩;refine ciR (λh=>?_) (λh=>?_)
 .have li:i<ts.length:=by have:=oT h;omega
  have dt:=hR.ext a4;obtain⟨t1,t2,t3,a,hp⟩:∃ t1 t2 t3 a,ts.getD i ta0=((t1,t2,t3),a):=⟨_,_,_,_,rfl⟩;have dw:AtV w (t1,t2,t3) a:=by have:=hat _ (Jyv rfl li);rw[hp]at this;exact this
  have ea:a=⟨nz (vars i),(vars i).length,rs i⟩:=by have:=hok.run.at_ i li;rw[hp]at this;exact this
  subst ea;clear h;have h3:∀ u∈[t1,t2,t3],u.oneCell'=true:=dw.one;refine Qu 3 i dt li ?_;refine Jt (cs:=[t1,t2,t3]) (λj u hu=>Jvv dt rfl li (by rw[hp];exact hu)) ?_;refine Jv Yf ?_;intro w8 fg D dn bg;refine Qw (cs':=[t1,t2,t3]) bg ?_ h3;intro w9 bg a7 ap;have ai:Ext w7 w9:=ap w7 D dn;refine Qk bg ?_;refine clR (Xwj (t:=(t1,t2,t3)) (dw.ext (a4.trans ai)) b7 (hok.run.asc i li) (a6 i li) (hok.run.len i li) (hok.run.big i li)) ?_;rintro u au ⟨a8,⟨p1,p2,p3⟩,rfl,m,a9,de,dd,aj⟩;have a2:=aj (hok.srtP i li);have cq:=a9.here;obtain⟨⟨PA,pc,e6,d9,ef,f8⟩,e5,bp⟩:=id cq;simp only at e6 e5;obtain⟨bl,PG,av,_,e4,_⟩:=id bp;simp only at e4;have cz:=a4.trans ai;have ed:=cz.trans a8;refine Jv Yf ?_;intro e7 ff b3 dm am;refine Qw (cs':=[p1,p2,p3]) am ?_ cq.one;intro an am dh b2;have G:Ext au an:=b2 au b3 dm;refine ρ ?_;subst e6;subst e5;subst e4;refine lds (cs:=[.int .i64 ((inS (vars i) s).length:Int),.slice PG bl.length av]) (am.sub2 (i:=1) rfl rfl) ?_
  refine ρ ?_;have bh:=cq.ext G;refine cl (Jwd bh.rel) ?_;rintro u bj ⟨rfl,O⟩;obtain⟨c7,d8⟩:∃ c7:Int,c7=IntKind.i64.wrap (st+(m.length:Int)):=⟨_,rfl⟩;have cp:=am.ext O;repeat first|refine ω4 ?_|refine ω5 ?_|refine χ1 ?_|refine κ1 ?_|refine κ2 ?_|refine χ2 ?_|refine κ3 ?_|refine ω6 ?_|refine ω7 ?_|refine ω9 ?_|refine κ4 ?_|refine κ7 ?_|refine κ8 ?_|refine χ3 ?_|refine χ4 ?_|refine κ5 ?_|refine κ6 ?_|refine χ5 ?_|refine χ6 ?_|refine χ7 ?_|refine ω8 ?_
  rw[<-d8];refine Qk cp ?_;refine ρ ?_;have a1:Ext w7 bj:=((ai.trans a8).trans G).trans O;have b1:=a4.trans a1;refine clv (Qrd (Na:=Na) (nums:=Vr s 32) (bh.ext O) ?_ ?_ (λv hv=>?_) ?_) ?_
  .rw[Jzh];exact a3.ext a1
  .rw[Jzh];exact Rd.own (Jk db a1)
  .rw[Jzh];exact a6 i li v (inS_mem.1 hv).1
  .have:=List.length_filter_le (λv=>s.testBit v) (vars i);have h5:=Jvx (hok.run.asc i li) (a6 i li);unfold inS;omega
  rintro u aq ⟨az,v1,rfl,cc⟩;have d6:=cc.here;obtain⟨QA,qc,e1,f7,f6,f5⟩:=d6;refine Qv (Jmt v1 _ _ QA PG _ qc _ av _ e1 rfl rfl) ?_;intro c6 fh ay f2 dv;have et:(inS (vars i) s).map (λv=>(Vr s 32).getD v 0)=rnm (vars i) s:=by
   unfold rnm;refine List.map_congr_left λv hv=>?_;obtain⟨h5,h6⟩:=inS_mem.1 hv;exact Qnz (a6 i li v h5) h6
  rw[et]at cc;have J:=(a1.trans az).trans ay;have bc:=cj.ext J;obtain⟨_,_,_,_,ch⟩:=cj.form;have ce:∀ k,Xx w6.heap.size vp k->k<w7.heap.size:=λk hk=>by
   rcases hk with hk|hk
   .exact nM hk b5
   exact(ch k hk).2
  have hΦ:Off (Xx w6.heap.size vp) c6 (λu=>AtG u [v1,.int .i64 ((inS (vars i) s).length:Int),.slice PG bl.length av] ⟨nz (rnm (vars i) s),(rnm (vars i) s).length,m⟩):=by
   have h5:Off (λk=>k<w7.heap.size) c6 (λu=>IntsV u v1 (nz (rnm (vars i) s))):=(cc.mono λk _ hk=>nM hk a1.size).ext ay;have h6:Off (λk=>k<w7.heap.size) c6 (λu=>AtV u (.slice PA (nz (inS (vars i) s)).length pc,.int .i64 ((inS (vars i) s).length:Int),.slice PG bl.length av) ⟨nz (inS (vars i) s),(inS (vars i) s).length,m⟩) :=
    (a9.mono λk _ hk=>nM hk ai.size).ext (((G.trans O).trans az).trans ay)
   refine((h5.and h6).imp λu h=>⟨(v1,.int .i64 ((inS (vars i) s).length:Int),.slice PG bl.length av),rfl,h.1,?_,h.2.2.2⟩).mono λk _ hk=>ce k hk;simp only;rw[Jtq]
  refine ρ ?_;refine apG EA (Φ:=AtG) bc dv rfl (Ic (by rw[e1];rfl)) hΦ (by simp;omega) om (nL b5 J.size) ?_;intro cw bi du ac ex;have d2:Ext w bi:=Ql (a4.trans J) ac (λg eg=>nL bm.size (ch g eg).1);have bq:∀ {g t:Nat} {cs:List Value},Blk w7 g t cs->Nat.beq 134 t=false->Blk bi g t cs:=λhB e=>by
   obtain⟨ps,_,ho,_⟩:=bc;exact(hB.ext J).grown ac ((hB.ext J).ne_own ho e)
  have ck:Blk bi b6 134 [.slice none 0 0,.int .i64 0,.slice none 0 0]:=by
   exact(a5.ext J).grown ac λe=>by have:=(ch b6 e.symm).1;have:=ah.lt;omega
  have c1:∀ {m':Nat} {v:Value} {xs:List Value},w7.ownsRow w.heap.size 3 1 v m' xs->bi.ownsRow w.heap.size 3 1 v m' xs:=λho=>by
   obtain⟨ps,_,ej,_⟩:=bc;exact Zl (Jk ho J) ej ac rfl
  refine ρ ?_;refine Kf (i+1) c7 cw (upd ms i m) sO ⟨om,d2,Nat.le_trans b5 (nL J.size ac.size),ck,bq a3 rfl,c1 db,c1 af,?_,λj hj=>?_⟩ om
  .rw[List.range_succ,List.map_append,List.map_singleton,Ju];have e:(List.range i).map (λj=>(⟨nz (rnm (vars j) s),(rnm (vars j) s).length,upd ms i m j⟩:Atm))=(List.range i).map (λj=>⟨nz (rnm (vars j) s),(rnm (vars j) s).length,ms j⟩):=by
    refine List.map_congr_left λj hj=>?_;have:=List.mem_range.1 hj;rw[Jm _ _ om]
   rw[e];exact du
  by_cases e:j=i
  .subst e;rw[Ju];exact⟨a2,de⟩
  rw[Jm _ _ e];exact ak j om
 have em:i=ts.length:=by have:=oF h;omega
 subst em;clear h;refine Jv zRows ?_;intro w8 cv D dl ad;have eo:=cj.ext D;obtain⟨e9,PA,pc,e3,er,d9,ef,eh,ei⟩:=Jng (eo.gv (by simp;omega));have cd:e9.length=ts.length:=by
  have:=congrArg List.length e3;simpa using this.symm
 have c3:=Qmq hok cd e3 ak;subst er;have cx:=a4.trans D;have bb:=Qrb (m:=ts.length) (ms:=ms) hok.sb b9 hok.run.lt hok.run.len (λi hi x=>(ak i hi).1.2 x);refine clR (Xjz (bx':=λk=>k=cv) (Y:=YM cv) c3 eh d9 ei (Jfv c3) (λk hk=>by subst hk;exact ad.lt) (Qrc ad.lt) (λw' d3=>⟨nM ad.lt d3.size,.slice none 0 0,ad.ext d3,OwnG.nil _ _⟩) ?_) ?_
 .intro l h1 h2;refine hcap l h1 λx hx=>(bb x).1 ?_;have:=h2 x hx;rw[cd]at this;exact this
 rintro u w9 ⟨a7,f4,base,l,rfl,fc,f0,⟨fd,f3,co,hO⟩,br,ab⟩;rw[cd]at ab;have d4:w.heap.size<=cv:=nL a4.size dl;have ap:Ext w w9:=a7.old cx λk hk=>by subst hk;exact d4
 have bd:=Jc (a5.ext D) a7 (λe=>by have:=a5.lt;omega);have cb:Zh w9 w.heap.size (.slice VA (bk s 32).length vc) (bk s 32):=Ja (Jk af D) a7 (λg eg e=>by subst e;exact ad.ne_own (Jk af D) rfl eg.symm);have df:l.length<=65536:=by
  refine hcap l br λx hx=>(bb x).1 ((ab x).1 hx)
 obtain⟨LA,lc,dx,fa,f9⟩:=hO.form;subst dx;have bn:=Qhf (hO.gv om);refine ldR (co.at (i:=0) rfl) ?_;refine clR (Jgg (ar:=(bk s 32).length) bn) ?_;rintro u au ⟨a8,rv,e,rfl,⟨z,RB,rm,rd,rfl⟩,di,c2⟩;have el:∀ r∈l,r.length=(bk s 32).length/\r.all Xl=true:=λr hr=>⟨((ab r).1 hr).1,Qsj hok ak ((ab r).1 hr)⟩;have e0:=di dj el df;subst e0;obtain⟨_,_,m,a9,de,dd,aj⟩:=c2 rfl;have a2:=aj (.inr (Ge br));have eu:m=l:=Jjv a2.1 br a2.2;subst eu;clear aj a2 di c2 dd;refine Jv Gm ?_;intro e7 ew b3 dk bf;refine Qw (cs':=[.int .i64 z,.slice RB rm rd]) bf ?_ Yp;intro an bf dh b2;have G:Ext au an:=b2 au b3 dk;refine ρ ?_;have ae:=a8.trans G;have cn:=bd.ext ae;have bo:=(a9.here).ext G;refine drN (λk=>k=b6) 12 (scq 12 [7,9]) kr ?_;have ao:Ext an an.drew:=(Ext.refl an).drew;have be:=bf.ext ao;have c4:=cn.ext ao;have bq:¬ (λk=>k=b6) ew:=λe=>by
  have h1:=bd.lt;have h2:=a8.size;simp only at e;omega
 refine ρn ?_;refine Xs (cs:=[.int .i64 z,.slice RB rm rd]) (λw' hg j u hu=>(Jc be hg bq).at hu) ?_;refine ρn ?_;refine Kp (Qvm _ _ _ _ _ _ _) ?_;refine ρn ?_;refine Xs (cs:=[.int .i64 z,.slice RB rm rd]) (λw' hg j u hu=>(Jc be hg bq).at hu) ?_;refine ρn ?_;refine nop ?_;refine cl (Jwd (bo.ext ao)) ?_;rintro u bj ⟨rfl,O⟩;refine ρ ?_;refine Qj (GrN.ext O) ?_;refine ρn ?_;refine nop ?_;refine stb (cs':=[.slice VA (bk s 32).length vc,.int .i64 z,.slice RB rm rd]) (c4.ext O) ?_ (Ic rfl);intro aq cm ba az;refine ω5 ?_;refine Qj (GrN.by ba λk e=>by injection e with e;exact e.symm) ?_;refine ρn ?_;refine ρ ?_;have b1:Ext w bj:=((ap.trans ae).trans ao).trans O;refine Qzv cm ⟨Jch b1 ba en,(.slice VA (bk s 32).length vc,.int .i64 z,.slice RB rm rd),_,m,rfl,?_,br,λx=>(ab x).trans (bb x),df⟩;have dg:GrN (λk=>k=b6) bj aq:=GrN.by ba λk e=>by injection e with e;exact e.symm
 have bz:=Jk cb ((ae.trans ao).trans O);have d7:Zh aq w.heap.size (.slice VA (bk s 32).length vc) (bk s 32):=Ja bz dg λg eg e=>by subst e;exact(c4.ext O).ne_own bz rfl eg.symm
 have h5:Off (λk=>k<w.heap.size) aq (λu=>IntsV u (.slice VA (bk s 32).length vc) (nz (bk s 32))):=by
  refine(Jxx d7 λg eg hk=>by have:=(c9 g eg).1;omega).imp λu h=>⟨VA,vc,by rw[Qg],by rw[Qg];exact d5,by rw[Qg];omega,by rw[Qg];exact Rd.own h⟩
 have h6:Off (λk=>k<w.heap.size) aq (λu=>RelV u (.agg #[.int .i64 z,.slice RB rm rd]) (bk s 32).length m):=by
  have h7:=a9.ext ((G.trans ao).trans O);have h8:=h7.gr (dg.mono λk _ hk=>by subst hk;exact bd.lt);exact h8.mono λk _ hk=>nM hk ap.size
 refine(h5.and h6).imp λu h=>?_;obtain⟨h7,rv,dz,h8⟩:=h;have e2:(Value.int .i64 z)=.int .i64 ((bk s 32).length:Int)/\Value.slice RB rm rd=rv:=by
  simp only[Value.agg.injEq,Array.mk.injEq,List.cons.injEq,and_true]at dz;exact dz
 exact⟨h7,e2.1,by simp only;rw[e2.2];exact h8⟩
end Go.Proofs.YtgobkbeokaaplaaGreatDoor
namespace Go.Wk
open Go.RowKit
variable {p:Addr}{z:Int}{kd:IntKind}{cs cs' xs:List Value}{b e g m t:Nat}{i x y:Operand}{k k2:TK}{v:Value}
section
variable {N:Nat->Prop} {P:Program} {n:Nat} {al:AL} {w:World} {Q:Exit->Act->World->Prop} {ops:Array Oper} {rest:List Oper} {drest:List (Nat×Oper)}
variable {d ty:Nat} {pos:String} {aft:Array Edge} {tt:TT}
theorem Jkw(hT:TOk P tt)(ht:tk tt t=some k)(hk:k.desc=.array m e)(w:World): (isAgg t).run P w=.ok true w/\Vk P t=some k.size/\P.underlying t=some (.array m e)/\Vk P e=some k.esz:=by
 have:=hT.at ht;unfold Um at this;rw[hk]at this;exact⟨by simp[isAgg,run_underlying this.1],this.2.2,this.1,this.2.1⟩
theorem Jtf(hT:TOk P tt)(ht:tk tt t=some k)(hk:k.desc=.array m e)(hl:k.size=cs.length)(hc:∀ j u,cs[j]?=some u->w.cell? (p.add j)=some u): (loadVar t p).run P w=.ok (.agg cs.toArray) w:=by
 have i:=run_loadCells_list (P:=P) w p cs hc;rw[<-hl]at i;simp[loadVar,(Jkw hT ht hk w).1,Yj w (Jkw hT ht hk w).2.1,i]
theorem lda[h:Tab P tt](hc:∀ j u,cs[j]?=some u->w.cell? (p.add j)=some u)(hl:k.size=cs.length)(kk:WL P n ops Q rest ((d,.agg cs.toArray)::al) w)(ht:tk tt t=some k:=by rfl)(hk:k.desc=.array m e:=by rfl)(hx:ev al x=some (.pointer (some p)):=by rfl)(hd:Nat.blt d n=true:=by rfl): WL P n ops Q (⟨some d,.load t x,ty,pos,aft,none⟩::rest) al w :=
 wop hd (λa i=>by simp[execOp,i.ev hx,Instr.loadAt,Instr.sureAddr,Jtf (w:=w) h.ok ht hk hl hc]) kk
theorem sta[h:Tab P tt](hb:Blk w b t cs)(kk:∀ w1,Blk w1 b t cs'->w.grownBy w1 (some b)->(∀ a,Ext a w->a.heap.size<=b->Ext a w1)->WL P n ops Q rest al w1)(h1:∀ u∈cs',u.oneCell'=true)(hl:cs.length=cs'.length)(hs:k.size=cs'.length)(ht:tk tt t=some k:=by rfl)(hk:k.desc=.array m e:=by rfl)(hx:ev al x=some (.pointer (some ⟨b,0,none⟩)):=by rfl)(hy:ev al y=some (.agg cs'.toArray):=by rfl):
  WL P n ops Q (⟨none,.store t x y,ty,pos,aft,none⟩::rest) al w:=by
 have G:=Jqq w b cs'.toArray;refine Jjl (λa D=>?_) (kk (w.setRow b cs'.toArray) (setRow_heap w b _ _ _ _ hb) G (λa hx D=>Ql hx G (λk hk=>by grind)));have j:=Yj w (Jkw h.ok ht hk w).2.1;have i:=run_storeCells_from (P:=P) b t cs' 0 cs.toArray w hb (by simpa using hl.symm) h1;simp only[List.take_zero,List.nil_append]at i;simp[execOp,D.ev hx,D.ev hy,Instr.storeAt,Instr.sureAddr,storeVar,Value.cells,j,hs,i]
theorem Qzw[h:Tab P tt]{fn:Func}{Φ:Value->World->Prop}{c:Nat}(hb:Blk w b t cs)(hs:k.size=cs.length)(hp:Φ (.agg cs.toArray) w)(hr:fn.results = #[.cell c t]:=by rfl)(ht:tk tt t=some k:=by rfl)(hk:k.desc=.array m e:=by rfl)(hc:lk al c=some (.pointer (some ⟨b,0,none⟩)):=by rfl):
  QX n (Vl P fn Φ) .ret al w :=
 Jkb (rs:=[.cell c t]) (vs:=[.agg cs.toArray]) hr ⟨⟨_,hc,Jtf h.ok ht hk hs (λj u i=>hb.at i)⟩,trivial⟩ rfl hp
theorem idx[h:Tab P tt](j:Nat)(hlt:j<m)(hv:cs[j]?=some v)(kk:WL P n ops Q rest ((d,v)::al) w)(ht:tk tt t=some k:=by rfl)(hk:k.desc=.array m e:=by rfl)(h1:k.esz=1:=by rfl)(he:tk tt e=some k2:=by rfl)(hp:Vd k2.desc=true:=by rfl)(hx:ev al x=some (.agg cs.toArray):=by rfl)(hi:ev al i=some (.int kd z):=by rfl)(hj:z=(j:Int):=by first|rfl|omega)(hd:Nat.blt d n=true:=by rfl):
  WL P n ops Q (⟨some d,.index t x i,ty,pos,aft,none⟩::rest) al w :=
 wop hd (λa D=>by
  subst hj;have u:=Jkw h.ok ht hk w;have hs:=Yj w (h1 ▸ u.2.2.2);have G:=(Jyt h.ok he hp w).1;simp[execOp,D.ev hx,D.ev hi,Instr.index,asIntOf,run_underlying u.2.2.1,hlt,hs,part,G,hv]) kk
theorem ixs[h:Tab P tt](j:Nat)(hlt:j<m)(kk:WL P n ops Q rest ((d,.pointer (some (p.add (j*k.esz))))::al) w)(ht:tk tt t=some k:=by rfl)(hk:k.desc=.array m e:=by rfl)(hx:ev al x=some (.pointer (some p)):=by rfl)(hi:ev al i=some (.int kd z):=by rfl)(hj:z=(j:Int):=by first|rfl|omega)(hd:Nat.blt d n=true:=by rfl): WL P n ops Q (⟨some d,.indexAddr t x i,ty,pos,aft,none⟩::rest) al w :=
 wop hd (λa u=>Jbc h.ok j ht hk hlt u hx hi hj (some d) w) kk
theorem dixs[h:Tab P tt](j:Nat)(hlt:j<m)(kk:WD P n ops Q drest ((d,.pointer (some (p.add (j*k.esz))))::al) w)(ht:tk tt t=some k:=by rfl)(hk:k.desc=.array m e:=by rfl)(hx:ev al x=some (.pointer (some p)):=by rfl)(hi:ev al i=some (.int kd z):=by rfl)(hj:z=(j:Int):=by first|rfl|omega)(hd:Nat.blt d n=true:=by rfl): WD P n ops Q ((0,⟨some d,.indexAddr t x i,ty,pos,aft,none⟩)::drest) al w :=
 dy (λw' _ a u=>Jbc h.ok j ht hk hlt u hx hi hj (some d) w') hd kk
theorem adr1(b v:Nat): (⟨b,0,none⟩:Addr).add (v*1)=⟨b,v,none⟩:=by rw[Yc,Nat.mul_one,Nat.zero_add]
theorem ixb[h:Tab P tt](j:Nat)(hlt:j<m)(kk:WL P n ops Q rest ((d,.pointer (some ⟨b,j,none⟩))::al) w)(ht:tk tt t=some k:=by rfl)(hk:k.desc=.array m e:=by rfl)(h1:k.esz=1:=by rfl)(hx:ev al x=some (.pointer (some ⟨b,0,none⟩)):=by rfl)(hi:ev al i=some (.int kd z):=by rfl)(hj:z=(j:Int):=by first|rfl|omega)(hd:Nat.blt d n=true:=by rfl): WL P n ops Q (⟨some d,.indexAddr t x i,ty,pos,aft,none⟩::rest) al w:=by
 rw[<-adr1 b j,<-h1]at kk;exact ixs j hlt kk ht hk hx hi hj hd
theorem dixb[h:Tab P tt](j:Nat)(hlt:j<m)(kk:WD P n ops Q drest ((d,.pointer (some ⟨b,j,none⟩))::al) w)(ht:tk tt t=some k:=by rfl)(hk:k.desc=.array m e:=by rfl)(h1:k.esz=1:=by rfl)(hx:ev al x=some (.pointer (some ⟨b,0,none⟩)):=by rfl)(hi:ev al i=some (.int kd z):=by rfl)(hj:z=(j:Int):=by first|rfl|omega)(hd:Nat.blt d n=true:=by rfl): WD P n ops Q ((0,⟨some d,.indexAddr t x i,ty,pos,aft,none⟩)::drest) al w:=by
 rw[<-adr1 b j,<-h1]at kk;exact dixs j hlt kk ht hk hx hi hj hd
theorem nixb[h:Tab P tt](j:Nat)(hlt:j<m)(kk:WN N P n ops Q drest ((d,.pointer (some ⟨b,j,none⟩))::al) w)(ht:tk tt t=some k:=by rfl)(hk:k.desc=.array m e:=by rfl)(h1:k.esz=1:=by rfl)(hx:ev al x=some (.pointer (some ⟨b,0,none⟩)):=by rfl)(hi:ev al i=some (.int kd z):=by rfl)(hj:z=(j:Int):=by first|rfl|omega)(hd:Nat.blt d n=true:=by rfl): WN N P n ops Q ((0,⟨some d,.indexAddr t x i,ty,pos,aft,none⟩)::drest) al w:=by
 rw[<-adr1 b j,<-h1]at kk;exact nixa j hlt kk ht hk hx hi hj hd
theorem Blk.atc{w:World}{t:TypeId}(h:Blk w g t cs){i:Nat}(hv:cs[i]?=some v): w.cell? ⟨g,i,none⟩=some v:=by rw[h.cell];exact hv
theorem sla[h:Tab P tt](kk:WL P n ops Q rest ((d,.slice (some p) m m)::al) w)(ht:tk tt t=some k:=by rfl)(hk:k.desc=.array m e:=by rfl)(hx:ev al x=some (.pointer (some p)):=by rfl)(hd:Nat.blt d n=true:=by rfl): WL P n ops Q (⟨some d,.slice t x none none none,ty,pos,aft,none⟩::rest) al w :=
 wop hd (λa j=>by
  have i:=Jkw h.ok ht hk w;have hs:=Yj w i.2.2.2;simp[execOp,j.ev hx,Instr.sliceAt,run_underlying i.2.2.1,Instr.sureAddr,Instr.sliceBounds,hs];grind [add_zero]) kk
theorem cpb{dT sT dl dc sn sc:Nat}{A:Option Addr}[h:Tab P tt](hb:Blk w b t cs)(hr:Rd w 1 A sn xs)(hsn:sn<=dl)(hdl:dl<=cs.length)(h1:∀ u∈xs,u.oneCell'=true)(kk:∀ w1,Blk w1 b t (xs++cs.drop sn)->w.grownBy w1 (some b)->WL P n ops Q rest ((d,.int .i64 (sn:Int))::al) w1)(ht:tk tt dT=some k:=by rfl)(hk:k.desc=.slice e:=by rfl)(hz:k.esz=1:=by rfl)(hx:ev al x=some (.slice (some ⟨b,0,none⟩) dl dc):=by rfl)(hy:ev al y=some (.slice A sn sc):=by rfl)(hd:Nat.blt d n=true:=by rfl):
  WL P n ops Q (⟨some d,.call { callee:=.builtin .copy,args:=#[x,y],argTypes:=#[dT,sT] },ty,pos,aft,none⟩::rest) al w:=by
 have O:xs.length=sn:=by rw[hr.len,Nat.mul_one]
 have Z:=Iw h.ok ht hk hz;have G:(P.info? e).map (·.size)=some 1:=Z.2
 have a1:=Jqq w b (xs++cs.drop sn).toArray;have hB:Blk (w.setRow b (xs++cs.drop sn).toArray) b t (xs++cs.drop sn):=setRow_heap w b _ _ _ _ hb;refine wop (w':=w.setRow b (xs++cs.drop sn).toArray) hd (λa J=>?_) (kk _ hB a1);by_cases h0:sn=0
 .subst h0;have:xs=[]:=List.eq_nil_of_length_eq_zero O;subst this;have e0:w.setRow b ([]++cs.drop 0).toArray=w:=by
   have:=setRow_self w b cs.toArray t (0,0) hb;simpa using this
  rw[e0];cases hq:P.info? e with
  | none=>rw[hq]at G;cases G
  | some i=>
   cases A with
   | none=>simp[execOp,resolve,invoke,builtin,J.ev hx,J.ev hy,Builtin.copy_,run_underlying Z.1,Builtin.lenOf,Builtin.firstCells,sizeOf,typeInfo,hq,storeCells,goInt]
   | some ad=>simp[execOp,resolve,invoke,builtin,J.ev hx,J.ev hy,Builtin.copy_,run_underlying Z.1,Builtin.lenOf,Builtin.firstCells,sizeOf,typeInfo,hq,storeCells,goInt,loadCells,loadCellsFrom]
 obtain⟨ad,hA,_⟩:=hr.isome om om;subst hA;have D:=run_copy_row P w dT sT ty e b 0 dl dc ad sn sc cs.toArray t xs Z.1 G hb (by grind) (λj v hv=>hr.cell hv) (by simp;omega) h1;rw[O]at D;have e1:(cs.toArray.toList.take 0++xs++cs.toArray.toList.drop (0+sn)).toArray=(xs++cs.drop sn).toArray:=by simp
 rw[e1]at D;simp[execOp,resolve,invoke,builtin,J.ev hx,J.ev hy,D,goInt]
end
end Go.Wk
namespace Go.Wk
open Go.RowKit
variable {L listed listed':Array Bool}{l:List Oper}{fuel fuel' i id:Nat}{o oi oj:Oper}{w0:World}
section
variable {P:Program} {n:Nat} {al al':AL} {w:World} {Q:Exit->Act->World->Prop} {ops:Array Oper} {T:Nat->Bool}
def Ik(P:Program)(ops:Array Oper)(Q:Exit->Act->World->Prop)(T:Nat->Bool)(i:Nat)(w0:World)(fuel:Nat)(listed:Array Bool): Exit->Act->World->Prop
 | .normal,a,w=>(T i=false->Ext w0 w)/\(Closed ops listed->Vp P ops Q T fuel listed a w)
 | _,_,_=>False
theorem Ks(hx:T i=false->Ext w0 w)(h:WH P n ops Q T fuel listed al w): QX n (Ik P ops Q T i w0 fuel listed) .normal al w:=λa u=>⟨hx,λj=>h j a u⟩
theorem Jdp(ho:ops[i]?=some o)(hc:Closed ops listed)(h:WL P n ops (Ik P ops Q T i w fuel listed) [o] al w): ∀ a,Fr n al a->wpOp P ops (QF Q) i (λa' w'=>(T i=false->Ext w w')/\Vp P ops Q T fuel listed a' w') a w:=λa G=>by
 have j:=h a G;unfold wpList at j;unfold wpOp;simp only[ho];have u:¬ LetsOut (Ik P ops Q T i w fuel listed):=by rintro⟨a,w,h⟩;exact h
 split
 .rename_i hw;simp only[hw,if_true]at j;rcases j with j|⟨_,j⟩
  .left
   refine Oper.wp_mono (K:=wpList P ops (Ik P ops Q T i w fuel listed) []) (λa' w' D=>⟨D.1,D.2 hc⟩) ?_;unfold Oper.wp at j ⊢;grind [Yh,Ik]
  exact absurd j u
 rename_i hw;simp only[hw]at j;exact⟨j.1,j.2 hc⟩
theorem itwo(i j:Nat)(hr:Region.ready .any l.toArray listed=[i,j])(hf:fuel=fuel'+1)(hi:nth l i=some oi)(hj:nth l j=some oj)(h1:WL P n l.toArray (Ik P l.toArray Q T i w fuel' (listed.setIfInBounds i true)) [oi] al w)(h2:WL P n l.toArray (Ik P l.toArray Q T j w fuel' (listed.setIfInBounds j true)) [oj] al w): WH P n l.toArray Q T fuel listed al w:=λG a J=>by
 subst hf;have Z:l.toArray[i]?=some oi:=by rw[<-hi,Xc];simp
 have O:l.toArray[j]?=some oj:=by rw[<-hj,Xc];simp
 refine⟨λh0=>(by rw[hr]at h0;cases h0),λk D=>?_⟩;have u:=D;rw[hr]at D;simp only[List.mem_cons,List.not_mem_nil,or_false]at D;rcases D with rfl|rfl
 .exact Jdp Z (G.step u) h1 a J
 exact Jdp O (G.step u) h2 a J
theorem Jwt(i:Nat)(hr:Region.ready .any l.toArray listed=[i])(hf:fuel=fuel'+1)(hi:nth l i=some oi)(h1:WL P n l.toArray (Ik P l.toArray Q T i w fuel' (listed.setIfInBounds i true)) [oi] al w): WH P n l.toArray Q T fuel listed al w:=λD a G=>by
 subst hf;have J:l.toArray[i]?=some oi:=by rw[<-hi,Xc];simp
 refine⟨λh0=>(by rw[hr]at h0;cases h0),λk j=>?_⟩;have u:=j;rw[hr]at j;simp only[List.mem_cons,List.not_mem_nil,or_false]at j;subst j;exact Jdp J (D.step u) h1 a G
theorem Ub(i:Nat)(hsel:Region.noSelect l.toArray=true)(hr:((Region.ready .any l.toArray listed).contains i && Region.free .any l.toArray listed i)=true)(hf:fuel=fuel'+1)(hi:nth l i=some oi)(h:WP P n l.toArray (Jjq P l.toArray Q T fuel' (listed.setIfInBounds i true)) [] [oi] al w): WH P n l.toArray Q T fuel listed al w:=λu a J=>by
 subst hf;simp only[Bool.and_eq_true]at hr;have j:i∈Region.ready .any l.toArray listed:=by simpa using hr.1
 have D:l.toArray[i]?=some oi:=by rw[<-hi,Xc];simp
 unfold WP at h;obtain⟨v,G,O⟩:=h a J;exact Jyp (λ_ _=>True) (λ_=>trivial) (λ_ _=>trivial) D (Region.noSelect_spec hsel) (λ_ _ _ _ _ _ _ _=>trivial) _ listed a w u (Region.free_spec D hr.2) j G (O (u.step j))
end
section
variable {N:Nat->Prop} {P:Program} {n:Nat} {al al':AL} {w:World} {Q:Exit->Act->World->Prop} {ops:Array Oper}
def Jjg(ops:Array Oper): List (Nat×Nat)->Array Bool->Option (Array Bool)
 | [],listed=>some listed
 | (0,i)::r,listed=>if(Region.ready .any ops listed).contains i && Region.free .any ops listed i then Jjg ops r (listed.setIfInBounds i true) else none
 | (1,i)::r,listed=>if Region.ready .any ops listed == [i] then Jjg ops r (listed.setIfInBounds i true) else none
 | _::_,_=>none
def Jxl(N:Nat->Prop)(P:Program)(ops:Array Oper)(Q:Exit->Act->World->Prop)(fuel:Nat)(listed:Array Bool): Exit->Act->World->Prop
 | .normal,a,w=>Closed ops listed->Uh N P ops Q noT fuel listed a w
 | _,_,_=>False
theorem Xvl{a:Act}{w:World}{K:Act->World->Prop}(h:o.wp P a w K (QF (Jxl N P ops Q fuel listed))): o.wp P a w K (QF Q):=by
 unfold Oper.wp at h ⊢;have i:¬ LetsOut (QF (Jxl N P ops Q fuel listed)):=by rintro⟨a,w,h⟩;exact h
 grind [Yh,QF,Jxl]
theorem Jym(hsel:Region.noSelect ops=true)(fuel:Nat)(listed':Array Bool): ∀(s:List (Nat×Nat)) (listed:Array Bool) (a:Act) (w:World),Closed ops listed->Jjg ops s listed=some listed'->Zf N P ops (Jxl N P ops Q fuel listed') (Qb ops.toList s) a w->Uh N P ops Q noT (s.length+fuel) listed a w
 | [],listed,a,w,hcl,hB,h=>by
  simp only[Jjg,Option.some.injEq]at hB;subst hB;simp only[List.length_nil,Nat.zero_add];exact h hcl
 | (0,i)::r,listed,a,w,hcl,hB,h=>by
  simp only[Jjg]at hB;split at hB
  .rename_i hc;simp only[Bool.and_eq_true]at hc;have hr':i∈Region.ready .any ops listed:=by simpa using hc.1
   obtain⟨_,oi,ho,_⟩:=mem_ready.1 hr';have hn:nth ops.toList i=some oi:=by grind [Xc]
   simp only[Qb,hn,Zf,Gx]at h;obtain⟨v,hy,h⟩:=h;have e:((0,i)::r).length+fuel=(r.length+fuel)+1:=by simp;omega
   rw[e];exact Jpj (GrN N) (GrN.refl N) (λh k=>GrN.trans h k) ho (Region.noSelect_spec hsel) (λ_ _ _ _ _ _ _ hg=>hg rfl) _ listed a w hcl (Region.free_spec ho hc.2) hr' hy (Jym hsel fuel listed' r _ _ _ (hcl.step hr') hB h)
  cases hB
 | (1,i)::r,listed,a,w,hcl,hB,h=>by
  simp only[Jjg]at hB;split at hB
  .rename_i hc;have hc':Region.ready .any ops listed=[i]:=by simpa using hc
   have hr':i∈Region.ready .any ops listed:=by grind
   obtain⟨_,oi,ho,_⟩:=mem_ready.1 hr';have hn:nth ops.toList i=some oi:=by grind [Xc]
   simp only[Qb,hn,Zf,Gx]at h;have e:((1,i)::r).length+fuel=(r.length+fuel)+1:=by simp;omega
   rw[e];refine⟨λh0=>(by grind),λj hj=>?_⟩;rw[hc']at hj;obtain rfl:j=i:=by simpa using hj
   have hcl':=hcl.step hr';unfold wpOp;simp only[ho];split
   .rename_i hw;simp only[hw,if_true]at h;exact .inl (Oper.wp_mono (λa' w' h'=>⟨λ_=>h'.1,Jym hsel fuel listed' r _ _ _ hcl' hB h'.2⟩) (Xvl h))
   rename_i hw;simp only[hw]at h;exact⟨λ_=>GrN.refl N w,Jym hsel fuel listed' r _ _ _ hcl' hB h⟩
  cases hB
 | (k+2,i)::r,listed,a,w,_,hB,_=>by simp[Jjg]at hB
def WM(N:Nat->Prop)(P:Program)(n:Nat)(ops:Array Oper)(Q:Exit->Act->World->Prop)(fuel:Nat)(listed:Array Bool)(al:AL)(w:World): Prop:=Closed ops listed->∀ a,Fr n al a->Uh N P ops Q noT fuel listed a w
theorem WM.sub{fuel:Nat}{listed:Array Bool}(hs:Sub al' al)(h:WM N P n ops Q fuel listed al' w): WM N P n ops Q fuel listed al w:=λi a j=>h i a (j.sub hs)
theorem drM{tt:TT}[ht:Tab P tt](N:Nat->Prop)(h:WM N P n l.toArray Q l.toArray.size (Array.replicate l.toArray.size false) al w.drew): WC P n (.region id l.toArray true) Q al w:=λa i=>
 wp_region_any ht.mixed (Jdq (N:=N) (T:=noT) _ _ _ _ (h (Qwn _ _) a i))
theorem Xu(s:List (Nat×Nat))(listed':Array Bool)(hsel:Region.noSelect l.toArray=true)(hB:Jjg l.toArray s listed=some listed')(hf:fuel=s.length+fuel')(h:WN N P n l.toArray (Jxl N P l.toArray Q fuel' listed') (Qb l s) al w): WM N P n l.toArray Q fuel listed al w:=λj a i=>by
 subst hf;have u:=h a i;grind [Jym]
theorem Zq(h:WM N P n ops Q fuel listed al w): QX n (Jxl N P ops Q fuel listed) .normal al w:=λa j i=>h i a j
theorem Jzn(hr:Region.ready .any ops listed=[])(h:QX n Q .normal al w): WM N P n ops Q 0 listed al w:=λ_ a i=>⟨hr,h a i⟩
def Iz(N:Nat->Prop)(P:Program)(ops:Array Oper)(Q:Exit->Act->World->Prop)(w0:World)(fuel:Nat)(listed:Array Bool): Exit->Act->World->Prop
 | .normal,a,w=>GrN N w0 w/\(Closed ops listed->Uh N P ops Q noT fuel listed a w)
 | _,_,_=>False
theorem Qh(hx:GrN N w0 w)(h:WM N P n ops Q fuel listed al w): QX n (Iz N P ops Q w0 fuel listed) .normal al w:=λa j=>⟨hx,λi=>h i a j⟩
theorem Jdn(ho:ops[i]?=some o)(hc:Closed ops listed)(h:WL P n ops (Iz N P ops Q w fuel listed) [o] al w): ∀ a,Fr n al a->wpOp P ops (QF Q) i (λa' w'=>(noT i=false->GrN N w w')/\Uh N P ops Q noT fuel listed a' w') a w:=λa G=>by
 have j:=h a G;unfold wpList at j;unfold wpOp;simp only[ho];have u:¬ LetsOut (Iz N P ops Q w fuel listed):=by rintro⟨a,w,h⟩;exact h
 split
 .rename_i hw;simp only[hw,if_true]at j;rcases j with j|⟨_,j⟩
  .left
   refine Oper.wp_mono (K:=wpList P ops (Iz N P ops Q w fuel listed) []) (λa' w' D=>⟨λ_=>D.1,D.2 hc⟩) ?_;unfold Oper.wp at j ⊢;grind [Yh,Iz]
  exact absurd j u
 rename_i hw;simp only[hw]at j;exact⟨λ_=>j.1,j.2 hc⟩
theorem Ga(i j:Nat)(hr:Region.ready .any l.toArray listed=[i,j])(hf:fuel=fuel'+1)(hi:nth l i=some oi)(hj:nth l j=some oj)(h1:WL P n l.toArray (Iz N P l.toArray Q w fuel' (listed.setIfInBounds i true)) [oi] al w)(h2:WL P n l.toArray (Iz N P l.toArray Q w fuel' (listed.setIfInBounds j true)) [oj] al w): WM N P n l.toArray Q fuel listed al w:=λG a J=>by
 subst hf;have Z:l.toArray[i]?=some oi:=by rw[<-hi,Xc];simp
 have O:l.toArray[j]?=some oj:=by rw[<-hj,Xc];simp
 refine⟨λh0=>(by rw[hr]at h0;cases h0),λk D=>?_⟩;have u:=D;rw[hr]at D;simp only[List.mem_cons,List.not_mem_nil,or_false]at D;rcases D with rfl|rfl
 .exact Jdn Z (G.step u) h1 a J
 exact Jdn O (G.step u) h2 a J
theorem Zj(i:Nat)(hr:Region.ready .any l.toArray listed=[i])(hf:fuel=fuel'+1)(hi:nth l i=some oi)(h1:WL P n l.toArray (Iz N P l.toArray Q w fuel' (listed.setIfInBounds i true)) [oi] al w): WM N P n l.toArray Q fuel listed al w:=λD a G=>by
 subst hf;have J:l.toArray[i]?=some oi:=by rw[<-hi,Xc];simp
 refine⟨λh0=>(by rw[hr]at h0;cases h0),λk j=>?_⟩;have u:=j;rw[hr]at j;simp only[List.mem_cons,List.not_mem_nil,or_false]at j;subst j;exact Jdn J (D.step u) h1 a G
theorem Gy(e:listed=listed')(h:WM N P n ops Q fuel listed' al w): WM N P n ops Q fuel listed al w:=by subst e;exact h
theorem Jwp{α:Type}(fuel':Nat)(L':Array Bool)(fr:α->AL)(I:α->World->Prop)(h2:∀ x w,I x w->WM N P n ops Q fuel' L' (fr x) w)(h1:(∀ x al w,I x w->Sub (fr x) al->WM N P n ops Q fuel' L' al w)->WM N P n ops Q fuel L al w): WM N P n ops Q fuel L al w:=h1 λx al w hi hs=>(h2 x w hi).sub hs
end
end Go.Wk
namespace Go.Wk
open Go.RowKit
variable {d n ty v:Nat}
theorem sl64{P:Program}{al:AL}{w:World}{Q:Exit->Act->World->Prop}{ops:Array Oper}{rest:List Oper}{pos:String}{aft:Array Edge}{y:Operand}{t yt:TypeId}(hv:v<64)(kk:WL P n ops Q rest ((d,.int .u64 ((2^v:Nat):Int))::al) w)(hy:ev al y=some (.int .i64 (v:Int)):=by rfl)(hd:Nat.blt d n=true:=by rfl):
  WL P n ops Q (⟨some d,.binOp .shl t (.const (.int .u64 1)) y yt,ty,pos,aft,none⟩::rest) al w:=by
 have e:IntKind.u64.wrap (1*2^(min ((v:Nat):Int).toNat IntKind.u64.bits))=((2^v:Nat):Int):=by
  have h:2^v<18446744073709551616:=nM (Nat.pow_lt_pow_right (by decide:1<2) hv) (by decide);rw[Int.toNat_natCast,Nat.min_eq_left (by show v<=64;omega),Int.one_mul];have:((2:Int)^v)=((2^v:Nat):Int):=by simp
  rw[this,IntKind.wrap_u64];grind
 rw[<-e]at kk;exact wop hd (λa i=>Jwb (x:=.const (.int .u64 1)) rfl hy om i (some d) w) kk
end Go.Wk
namespace Go.Proofs.YtgobkbeokaaplaaGreatDoor
open Go.RowKit Pl Go.Wk _root_.Go.Proofs.Tryz
attribute [local irreducible] WC WL QX WD WDB WP WN WG
variable {es:List Nat}{c e i n v x:Nat}{A:Option Addr}{w:World}
def Uc(es:List Nat): List Value:=es.map fun (e:Nat)=>Value.int .u32 (e:Int)
theorem Qys(h:i<es.length): (Uc es)[i]?=some (.int .u32 (es.getD i 0:Int)):=by
 simp[Uc,List.getD,List.getElem?_eq_getElem h]
structure GrV(w:World)(A:Option Addr)(c n:Nat)(es:List Nat): Prop where
 rd:Rd w 1 A es.length (Uc es)
 cap:es.length<=c
 n32:n<=32
 few:es.length<=64
 lt:∀ e∈es,e<2^n
abbrev grC(A:Option Addr)(c n:Nat)(es:List Nat): List Value:=[.int .i64 (n:Int),.slice A es.length c]
theorem GrV.ext{w w':World}{A:Option Addr}{c n:Nat}{es:List Nat}(h:GrV w A c n es)(hx:Ext w w'): GrV w' A c n es:=⟨h.rd.ext hx,h.cap,h.n32,h.few,h.lt⟩
theorem Jxv(h:n<=32): 2^n<=4294967296:=Nat.pow_le_pow_right (n:=2) (by decide) h
theorem GrV.lt32(h:GrV w A c n es)(he:e∈es): e<4294967296:=nM (h.lt e he) (Jxv h.n32)
theorem Qtr(hn:n<=32)(w:World): Ret prog 193 [.int .i64 (n:Int)] w λu w'=>u=.int .u32 ((2^n-1:Nat):Int)/\w'=w:=by
 have hp:=Jxv hn;have i:0<2^n:=Nat.two_pow_pos n;refine enE func193 ntmps193 ?_;refine ρ ?_;refine sl64 (v:=n) om ?_;refine ρ ?_;refine Jj ⟨?_,rfl⟩;generalize 2^n=p at *
 congr 1
 rw[IntKind.wrap_u64,IntKind.wrap_u32];omega
theorem Xwx(h:e<2^n)(hn:n<=32): Kz e (2^n-1)=0:=by
 have hp:=Jxv hn;have i:0<2^n:=Nat.two_pow_pos n;apply Nat.eq_of_testBit_eq
 grind [Jnl,Nat.testBit_two_pow_sub_one,Nat.testBit_lt_two_pow,Nat.lt_of_lt_of_le,Nat.pow_le_pow_right]
theorem Qzj(h:GrV w A c n es): Ret prog 167 [.agg (grC A c n es).toArray] w λu w'=>u=.int .i64 0/\Ext w w':=by
 have hn:=h.n32;have hf:=h.few;refine enE func167 ntmps167 ?_;refine bxR (cs:=grC A c n es) ?_;intro w1 b D hb G;refine ldR (G.at (i:=0) rfl) ?_;refine ldR (G.at (i:=0) rfl) ?_;refine cfR ?_ ?_
 .grind
 refine ldR (G.at (i:=1) rfl) ?_;refine cfR ?_ ?_
 .grind
 refine ldR (G.at (i:=1) rfl) ?_;refine ρ ?_;refine Qf (fun (i:Nat)=>[(1,.pointer (some ⟨b,0,none⟩)),(18,.slice A es.length c),(19,.int .i64 (es.length:Int)),(20,.int .i64 (i:Int))])
  (λi w'=>i<=es.length/\Ext w1 w') (λi=>es.length-i) 0 sB ⟨Nat.zero_le _,Ext.refl _⟩ ?_
 rintro i w2 ⟨hi,j⟩;have O:=G.ext j;have Z:=h.ext (D.trans j);refine ciR (λh=>?_) (λh=>?_)
 .have J:i<es.length:=by have:=oT h;omega
  clear h;have hm:=getD_mem' 0 es J;refine ixR i Z.rd J ?_;refine ldR (Z.rd.cell (Qys J)) ?_;refine ldR (O.at (i:=0) rfl) ?_;refine clR (Qtr hn w2) ?_;rintro u w3 ⟨rfl,rfl⟩;have hp:=Jxv hn;have a1:0<2^n:=Nat.two_pow_pos n;refine cfR ?_ ?_
  .rw[Jmw (Z.lt32 hm) om,Xwx (h.lt _ hm) hn];rfl
  refine ρ ?_;exact Qy (i+1) sO ⟨om,j⟩ om
 refine ρ ?_;exact Jj ⟨rfl,D.trans j⟩
def Xr(a:Nat->Nat): List Value:=(List.range 32).map λv=>.int .u32 (a v:Int)
theorem Ym(a:Nat->Nat): (Xr a).length=32:=by simp[Xr]
theorem Iy{a:Nat->Nat}(h:v<32): (Xr a)[v]?=some (.int .u32 (a v:Int)):=by simp[Xr,h]
theorem Jfm(a:Nat->Nat)(h:v<32): (Xr a).set v (.int .u32 (x:Int))=Xr (upd a v x):=by
 apply List.ext_getElem?
 grind [Ym,Iy,Ju,Jm,Xr]
theorem Jfn(a:Nat->Nat): ∀ u∈Xr a,u.oneCell'=true:=λu i=>by obtain⟨e,_,rfl⟩:=List.mem_map.1 i;rfl
theorem Jkm: Qr prog 205=some (.agg (Xr λ_=>0).toArray):=kr
theorem Jnt: Qr prog 204=some (.agg (List.replicate 32 (Value.int .i64 0)).toArray):=kr
def AdjP(n:Nat)(es:List Nat)(a:Nat->Nat): Prop:=∀ v,v<32->a v<4294967296/\∀ x,(a v).testBit x=(decide (v<n) && (x != v) && es.any λe=>e.testBit v && e.testBit x)
theorem Jys: (2^v).testBit x=decide (v=x):=Nat.testBit_two_pow
theorem Qts(h:GrV w A c n es): Ret prog 194 [.agg (grC A c n es).toArray] w λu w'=>Ext w w'/\∃ a,u=.agg (Xr a).toArray/\AdjP n es a:=by
 have hn:=h.n32;have hf:=h.few;refine enE func194 ntmps194 ?_;refine bxR (cs:=grC A c n es) ?_;intro w1 b1 a5 av ah;refine Jv (cs:=Xr λ_=>0) Jkm ?_;intro w2 b2 a3 au ap;refine Jv (cs:=Xr λ_=>0) Jkm ?_;intro w3 b3 aa an ao;have aq:=(a5.trans a3).trans aa;refine ldR (((ah.ext a3).ext aa).at (i:=1) rfl) ?_;refine ρ ?_;refine Jo (fun (i:Nat) (a:Nat->Nat)=>[(1,.pointer (some ⟨b1,0,none⟩)),(2,.pointer (some ⟨b2,0,none⟩)),(3,.pointer (some ⟨b3,0,none⟩)),(8,.slice A es.length c),(9,.int .i64 (es.length:Int)),(10,.int .i64 (i:Int))])
  (λi a w'=>i<=es.length/\Ext w2 w'/\Blk w' b3 205 (Xr a)/\AdjP n (es.take i) a) (λi _=>es.length-i) 0 (λ_=>0) sB
  ⟨Nat.zero_le _,aa,ao,λv _=>⟨by simp only;omega,λx=>by simp⟩⟩ ?_
 rintro i a w4 ⟨hi,a2,a9,ha⟩;have ag:=(ah.ext a3).ext a2;have af:=ap.ext a2;have h4:=h.ext ((a5.trans a3).trans a2);refine ciR (λO=>?_) (λO=>?_)
 .have li:i<es.length:=by have:=oT O;omega
  clear O;have hm:=getD_mem' 0 es li;have G:=h4.lt32 hm;obtain⟨e,he⟩:∃ e,e=es.getD i 0:=⟨_,rfl⟩;refine ixR i h4.rd li ?_;refine ldR (h4.rd.cell (Qys li)) ?_;rw[<-he]at hm G ⊢;refine ldR (ag.at (i:=0) rfl) ?_;refine ρ ?_;refine Jo (fun (v:Nat) (Z:Nat->Nat)=>[(1,.pointer (some ⟨b1,0,none⟩)),(2,.pointer (some ⟨b2,0,none⟩)),(3,.pointer (some ⟨b3,0,none⟩)),(8,.slice A es.length c),(9,.int .i64 (es.length:Int)),(10,.int .i64 (i:Int)),(5,.int .u32 (e:Int)),(15,.int .i64 (n:Int)),(16,.int .i64 (v:Int))])
   (λv Z w'=>v<=n/\Ext w2 w'/\Blk w' b3 205 (Xr Z)/\∀ u,u<32->Z u<4294967296/\∀ x,(Z u).testBit x=((a u).testBit x || (decide (u<v) && e.testBit u && e.testBit x && (x != u)))) (λv _=>n-v) 0 a sB
   ⟨Nat.zero_le _,a2,a9,λu hu=>⟨(ha u hu).1,λx=>by simp⟩⟩ ?_
  rintro v Z w5 ⟨hv,a1,a4,a6⟩;refine ciR (λO=>?_) (λO=>?_)
  .have lv:v<n:=by have:=oT O;omega
   have D:v<32:=om
   clear O;have ab:=a6 v D;have ai:=Kh D;refine ρ ?_;refine Iv (s:=e) (v:=v) om ?_;refine ciR (λO=>?_) (λO=>?_)
   .rw[Gh G]at O;have ac:Ext w5 w5.drew:=(Ext.refl w5).drew;have J:=a4.ext ac;refine ρ ?_;refine drN (λ_=>False) 10 (scq 10 [109]) kr ?_;refine ρn ?_;refine nixb v D ?_;refine ρn ?_;refine nld (Jr (J.atc (Iy D)) (λe=>e)) ?_;refine ρn ?_;refine Jgw D ?_;refine ρn ?_;refine nixb v D ?_;refine ρn ?_;refine Xm ?_;refine sto (p:=⟨b3,v,none⟩) (J.cell v |>.trans (Iy D)) (J.frozen _) ?_;have a7:=Qyl (t:=2^v) G;have aj:bits .or .u32 (Z v:Int) (bits .andNot .u32 (e:Int) ((2^v:Nat):Int))=((Z v ||| Kz e (2^v):Nat):Int):=by
     rw[Jmw G ai,Jxb ab.1 a7]
    rw[aj];have a8:=J.set v (.int .u32 ((Z v ||| Kz e (2^v):Nat):Int));rw[Jfm Z D]at a8;have ad:w2.heap.size<=b3:=an;refine ω5 ?_;refine Gv ?_;refine ρn ?_;refine ρ ?_;refine Jl (v+1) (upd Z v (Z v ||| Kz e (2^v))) sO ⟨om,(a1.trans ac).setCell ad _,a8,λu hu=>?_⟩ om;by_cases e1:u=v
    .subst e1;rw[Ju];refine⟨Jbl ab.1 a7,λx=>?_⟩;rw[Nat.testBit_or,Jnl G ai,Jys,ab.2,O,decide_eq_true (Nat.lt_succ_self u),decide_eq_false (Nat.lt_irrefl u)];grind
    repeat grind [Jm]
   rw[Gh G]at O;refine ρ ?_;refine Jl (v+1) Z sO ⟨om,a1,a4,λu hu=>⟨(a6 u hu).1,λx=>?_⟩⟩ om;grind
  have ak:v=n:=by have:=oF O;omega
  subst ak;clear O;refine ρ ?_;refine Jl (i+1) Z sO ⟨om,a1,a4,λu hu=>⟨(a6 u hu).1,λx=>?_⟩⟩ om;rw[(a6 u hu).2,(ha u hu).2,Qs 0 li,<-he,List.any_append];grind
 have am:i=es.length:=by have:=oF O;omega
 subst am;clear O;rw[List.take_length]at ha;refine ρ ?_;refine lda (cs:=Xr a) (λj u hu=>a9.at hu) (Ym a).symm ?_;refine ρ ?_;refine sta (cs':=Xr a) af ?_ (Jfn a) (by rw[Ym,Ym]) (Ym a).symm;intro w5 ae ar a1;refine ρ ?_;exact Qzw ae (Ym a).symm ⟨a1 w ((a5.trans a3).trans a2) (by have:=a5.size;omega),a,rfl,ha⟩
open Go.RowKit Pl Go.Wk _root_.Go.Proofs.Tryz
variable {es:List Nat}{c f n v:Nat}{A:Option Addr}{w:World}
theorem Qtq(h:GrV w A c n es)(hv:v<n): Ret prog 168 [.agg (grC A c n es).toArray,.int .i64 (v:Int)] w λu w'=>Ext w w'/\∃ a,u=.int .u32 (a v:Int)/\AdjP n es a:=by
 have hn:=h.n32;refine enE func168 ntmps168 ?_;refine bxR (cs:=grC A c n es) ?_;intro w1 b G hb hB;refine Jt (cs:=grC A c n es) (λj u Z=>hB.at Z) ?_;refine clR (Qzj (h.ext G)) ?_;rintro u w2 ⟨rfl,D⟩;have J:=hB.ext D;refine ldR (J.at (i:=0) rfl) ?_;refine cfR ?_ ?_
 .grind
 refine Jt (cs:=grC A c n es) (λj u Z=>J.at Z) ?_;refine clR (Qts (h.ext (G.trans D))) ?_;rintro u w3 ⟨O,a,rfl,ha⟩;refine ρ ?_;refine idx v (show v<32 by omega) (Iy (show v<32 by omega)) ?_;refine ρ ?_;exact Jj ⟨(G.trans D).trans O,a,rfl,ha⟩
theorem Xjx(h:GrV w A c n es): Ret prog 122 [.agg (grC A c n es).toArray] w λu w'=>Ext w w'/\∃ a,u=.agg (Xr a).toArray/\AdjP n es a:=by
 have hn:=h.n32;refine enE func122 ntmps122 ?_;refine bxR (cs:=grC A c n es) ?_;intro w1 b1 a6 ai ab;refine Jv (cs:=Xr λ_=>0) Jkm ?_;intro w2 b2 a4 ah af;refine Jv (cs:=Xr λ_=>0) Jkm ?_;intro w3 b3 a5 ad ae;refine ldR (((ab.ext a4).ext a5).at (i:=0) rfl) ?_;refine ρ ?_;refine Jo (fun (v:Nat) (a:Nat->Nat)=>[(1,.pointer (some ⟨b1,0,none⟩)),(2,.pointer (some ⟨b2,0,none⟩)),(3,.pointer (some ⟨b3,0,none⟩)),(6,.int .i64 (n:Int)),(7,.int .i64 (v:Int))])
  (λv a w'=>v<=n/\Ext w2 w'/\Blk w' b3 205 (Xr a)/\∀ u,u<32->a u<4294967296/\∀ x,(a u).testBit x=(decide (u<v) && (x != u) && es.any λe=>e.testBit u && e.testBit x)) (λv _=>n-v) 0 (λ_=>0) sB
  ⟨Nat.zero_le _,a5,ae,λu hu=>⟨by simp only;omega,λx=>by simp⟩⟩ ?_
 rintro v a w4 ⟨hv,O,a3,ha⟩;have aa:=(ab.ext a4).ext O;have a9:=af.ext O;have Z:=(a6.trans a4).trans O;refine ciR (λhc=>?_) (λhc=>?_)
 .have lv:v<n:=by have:=oT hc;omega
  have D:v<32:=om
  clear hc;refine Jt (cs:=grC A c n es) (λj u hu=>aa.at hu) ?_;refine clR (Qtq (h.ext Z) lv) ?_;rintro u w5 ⟨J,a2,rfl,a7⟩;have G:=a3.ext J;refine ρ ?_;refine ixb v D ?_;refine Xq (p:=⟨b3,v,none⟩) (G.cell v |>.trans (Iy D)) (G.frozen _) ?_;have a1:=G.set v (.int .u32 ((a2 v:Nat):Int));rw[Jfm a D]at a1;refine ρ ?_;refine Jl (v+1) (upd a v (a2 v)) sO ⟨om,(O.trans J).setCell ad _,a1,λu hu=>?_⟩ om;by_cases e:u=v
  .subst e;rw[Ju,decide_eq_true (Nat.lt_succ_self u)];refine⟨(a7 u hu).1,λx=>?_⟩;rw[(a7 u hu).2,decide_eq_true lv]
  repeat grind [Jm]
 have ac:v=n:=by have:=oF hc;omega
 subst ac;clear hc;refine ρ ?_;refine lda (cs:=Xr a) (λj u hu=>a3.at hu) (Ym a).symm ?_;refine ρ ?_;refine sta (cs':=Xr a) a9 ?_ (Jfn a) (by rw[Ym,Ym]) (Ym a).symm;intro w5 a8 ag J;refine ρ ?_;exact Qzw a8 (Ym a).symm ⟨J w Z (by have:=a6.size;omega),a,rfl,ha⟩
theorem Xjv(h:GrV w A c n es)(hf:f<=n): Ret prog 121 [.agg (grC A c n es).toArray,.int .i64 (f:Int)] w λu w'=>u=.int .i64 0/\Ext w w':=by
 have hn:=h.n32;refine enE func121 ntmps121 ?_;refine bxR (cs:=grC A c n es) ?_;intro w1 b G hb O;refine Jt (cs:=grC A c n es) (λj u Z=>O.at Z) ?_;refine clR (Qzj (h.ext G)) ?_;rintro u w2 ⟨rfl,D⟩;have J:=O.ext D;refine ldR (J.at (i:=0) rfl) ?_;refine cfR ?_ ?_
 .grind
 refine ρ ?_;exact Jj ⟨rfl,G.trans D⟩
end Go.Proofs.YtgobkbeokaaplaaGreatDoor
namespace Go.Proofs.YtgobkbeokaaplaaGreatDoor
open Pl Go.Wk
variable {es l ord perm:List Nat}{e i j k n u v x:Nat}{f g:Nat->List Value}
def nb0(n:Nat)(es:List Nat)(u x:Nat): Bool:=decide (u<n) && (x != u) && es.any λe=>e.testBit u && e.testBit x
theorem Xwf(he:e<2^n)(h:e.testBit u=true): u<n:=Jkj he h
theorem Jzl(he:∀ e∈es,e<2^n)(h:nb0 n es u x=true): u<n/\x<n/\x≠u:=by
 simp only[nb0,Bool.and_eq_true,decide_eq_true_eq,bne_iff_ne,List.any_eq_true]at h;obtain⟨⟨G,D⟩,e,i,_,j⟩:=h;exact⟨G,Xwf (he e i) j,D⟩
theorem Qqn(he:∀ e∈es,e<2^n): NbInv [] (nb0 n es):=by
 refine⟨λu x _ _=>?_,λu x _ h=>⟨by simp,(Jzl he h).2.2⟩⟩;rw[Bool.eq_iff_iff];have key:∀ u x,nb0 n es u x=true->nb0 n es x u=true:=λu x h=>by
  have i:=Jzl he h;simp only[nb0,Bool.and_eq_true,decide_eq_true_eq,bne_iff_ne,List.any_eq_true]at h ⊢;grind
 grind
theorem Qqj: ∀(k:Nat) {l:List Nat},l.Nodup->(∀ u∈l,u<k)->l.length<=k
 | 0,[],_,_=>nR _
 | 0,u::l,_,h=>absurd (h u (List.mem_cons_self ..)) om
 | k+1,l,hn,h=>by
  have h1:=Qqj k (l:=l.filter λu=>u != k) (hn.sublist List.filter_sublist) (λu hu=>by grind);have h2:l.length<=(l.filter λu=>u != k).length+1:=by
   clear h h1;induction l with
   | nil=>simp
   | cons x l ih=>
    grind [List.nodup_cons.1,List.filter_eq_self.2,List.filter_cons_of_neg,List.length_cons,List.filter_cons_of_pos]
  omega
theorem Qpd(hn:l.Nodup)(hlt:∀ u∈l,u<k)(hlen:l.length=k)(hu:u<k): u∈l:=by
 refine Classical.byContradiction λh=>?_;have:=Qqj k (l:=u::l) (List.nodup_cons.2 ⟨h,hn⟩) (λx i=>by grind);grind
def Xf(perm:List Nat)(f:Nat): List Nat:=perm++(List.range f).reverse
structure PermOk(n f:Nat)(perm:List Nat): Prop where
 fn:f<=n
 len:perm.length=n-f
 rng:∀ v∈perm,f<=v/\v<n
 nd:perm.Nodup
theorem PermOk.olen{f:Nat}(h:PermOk n f perm): (Xf perm f).length=n:=by
 have:=h.len;have:=h.fn;simp[Xf];omega
theorem PermOk.ond{f:Nat}(h:PermOk n f perm): (Xf perm f).Nodup:=by
 refine List.nodup_append.2 ⟨h.nd,List.pairwise_reverse.2 (List.nodup_range.imp λh=>h.symm),λu i v j e=>?_⟩;have D:=(h.rng u i).1;grind
theorem PermOk.olt{f:Nat}(h:PermOk n f perm)(hu:u∈Xf perm f): u<n:=by
 rcases List.mem_append.1 hu with h1|h1
 .exact(h.rng u h1).2
 have:=List.mem_range.1 (List.mem_reverse.1 h1);have:=h.fn;omega
theorem PermOk.omem{f:Nat}(h:PermOk n f perm): u∈Xf perm f↔u<n :=
 ⟨h.olt,λi=>Qpd h.ond (λ_=>h.olt) h.olen i⟩
theorem Jgm(hn:ord.Nodup)(hi:i<ord.length): pre ord (ord.getD i 0)=ord.take i:=by grind [Qd,List.drop_eq_getElem_cons,List.take_append_drop,List.nodup_append,List.mem_cons_self,Jgl]
def plc(ord:List Nat)(u:Nat): Nat:=(pre ord u).length
theorem Jqb(hn:ord.Nodup)(hi:i<ord.length): plc ord (ord.getD i 0)=i:=by grind [plc,Jgm,List.length_take]
theorem Gl(hn:ord.Nodup)(hu:u∈ord): plc ord u<ord.length/\ord.getD (plc ord u) 0=u:=by
 obtain⟨i,hi,e⟩:=List.getElem_of_mem hu;have j:=Jqb hn hi;grind
theorem Jht(hn:ord.Nodup)(hv:v∈ord)(hu:u∈ord): Jyd ord v u↔plc ord v<=plc ord u:=by
 obtain⟨Z,O⟩:=Gl hn hv;obtain⟨J,G⟩:=Gl hn hu;have e:pre ord v=ord.take (plc ord v):=by grind [Jgm]
 unfold Jyd;rw[e];constructor
 .grind [Nat.lt_or_ge,plc,List.mem_iff_getElem.2,List.length_take,Qd]
 intro h i;obtain⟨j,D,e⟩:=List.getElem_of_mem i;rw[List.length_take]at D;rw[List.getElem_take]at e;have:=Jqb hn (show j<ord.length by omega);grind
def Qo(n:Nat)(f:Nat->List Value): List Value:=(List.range n).flatMap f
theorem Jqr(n:Nat)(f:Nat->List Value): Qo (n+1) f=Qo n f++f n:=by simp[Qo,List.range_succ,List.flatMap_append]
theorem Jvg{sz:Nat}(h:∀ i,i<n->(f i).length=sz): (Qo n f).length=n*sz:=by
 induction n with
 | zero=>simp[Qo]
 | succ n ih=>rw[Jqr,List.length_append,ih (λi hi=>h i om),h n om,Nat.succ_mul]
theorem Jck(h:∀ i,i<n->f i=g i): Qo n f=Qo n g:=by
 induction n with
 | zero=>rfl
 | succ n ih=>rw[Jqr,Jqr,ih (λi hi=>h i om),h n om]
theorem Jqs{sz:Nat}(h:∀ i,i<n->(f i).length=sz)(hi:i<n)(hj:j<sz): (Qo n f)[i*sz+j]?=(f i)[j]?:=by
 induction n with
 | zero=>omega
 | succ n ih=>
  have u:=Jvg (n:=n) (λi hi=>h i om);rw[Jqr];grind
theorem Xjf{sz:Nat}(h:∀ i,i<n->(f i).length=sz)(hi:i<n){cs:List Value}(hc:cs.length=sz): (Qo n f).take (i*sz)++cs++(Qo n f).drop (i*sz+sz)=Qo n (upd f i cs):=by
 induction n with
 | zero=>omega
 | succ n ih=>
  have u:=Jvg (n:=n) (λi hi=>h i om);have j:=h n om;rw[Jqr,Jqr];by_cases e:i=n
  .grind [List.take_of_length_le,List.drop_of_length_le,List.length_append,Ju,Jck,Jm]
  have D:i*sz+sz<=n*sz:=by
   have:(i+1)*sz<=n*sz:=nO _ om;grind
  grind [List.append_assoc,Jm]
open Go.RowKit Pl Go.Wk _root_.Go.Proofs.Tryz
attribute [local irreducible] WC WL QX WD WDB WP WN WG
variable {es perm:List Nat}{v x:Nat}
def Yz(o:Nat->Nat): List Value:=(List.range 32).map λi=>.int .i64 (o i:Int)
theorem Qzb(o:Nat->Nat): (Yz o).length=32:=by simp[Yz]
theorem Im{o:Nat->Nat}(h:v<32): (Yz o)[v]?=some (.int .i64 (o v:Int)):=by simp[Yz,h]
theorem Qxz(o:Nat->Nat)(h:v<32): (Yz o).set v (.int .i64 (x:Int))=Yz (upd o v x):=by
 apply List.ext_getElem?
 grind [Qzb,Im,Ju,Jm,Yz]
theorem Qtb(h:perm.length<=32): Je (nz perm)++(List.replicate 32 (Value.int .i64 0)).drop perm.length=Yz λi=>perm.getD i 0:=by
 have j:(Je (nz perm)).length=perm.length:=by simp[Je,nz]
 apply List.ext_getElem?
 grind [List.getElem?_append_left,Zy,Im,List.getElem?_append_right,List.getD,List.getElem?_eq_none,Nat.le_of_not_lt,Qzb]
def Qp(kf:Nat->Nat)(pf:Nat->Int)(v:Nat): List Value:=[.int .i64 (v:Int),.int .u32 (kf v:Int),.int .i64 (pf v)]
def Jyf(n:Nat)(es ord:List Nat)(kf:Nat->Nat)(pf:Nat->Int): Prop:=∀ v,v<n->kf v<4294967296/\(∀ x,(kf v).testBit x=Vf (nb0 n es) ord v x) /\
 ((pf v = -1/\∀ x,Vf (nb0 n es) ord v x=false)∨∃ p:Nat,pf v=p/\Vf (nb0 n es) ord v p=true/\∀ x,Vf (nb0 n es) ord v x=true->plc ord p<=plc ord x)
theorem EBg: ElT prog 51 208 3 24 (.agg #[.int .i64 0,.int .u32 0,.int .i64 0]):=⟨underlying51,info_parts kr,rfl,by decide⟩
theorem Jkp: Qr prog 208=some (.agg #[.int .i64 0,.int .u32 0,.int .i64 0]):=kr
theorem Xkw(v k:Int)(w:World): (Instr.build 208 #[(0,.int .i64 v),(1,.int .u32 k),(2,.int .i64 (-1))]).run prog w=.ok (.agg #[.int .i64 v,.int .u32 k,.int .i64 (-1)]) w:=kr
theorem Jzd{a b c:Int}: ∀ u∈[Value.int .i64 a,.int .u32 b,.int .i64 c],u.oneCell'=true:=λu i=>by
 simp only[List.mem_cons,List.not_mem_nil,or_false]at i;rcases i with rfl|rfl|rfl<;>rfl
theorem Qrg{zs:List Value}(h:0<zs.length)(n:Nat): (madeCells zs.toArray (n*zs.length)).toList=Qo n λ_=>zs:=by
 apply List.ext_getElem?
 intro k;by_cases hk:k<n*zs.length
 .have hd:k / zs.length<n:=Nat.div_lt_of_lt_mul (by grind);have i:=Nat.mod_lt k h;have j:=Jqs (n:=n) (sz:=zs.length) (f:=λ_=>zs) (λ_ _=>rfl) hd i;rw[Nat.div_add_mod' k zs.length]at j;rw[j];simp only[madeCells,Array.getElem?_toList,Array.getElem?_map,Array.getElem?_range,hk,if_true,Option.map_some];simp[i]
 have u:=Jvg (n:=n) (sz:=zs.length) (f:=λ_=>zs) (λ_ _=>rfl);rw[List.getElem?_eq_none (by simp[madeCells];omega),List.getElem?_eq_none om]
theorem made3(n:Nat): (madeCells (Value.agg #[.int .i64 0,.int .u32 0,.int .i64 0]).cells (n*3)).toList=Qo n λ_=>[.int .i64 0,.int .u32 0,.int .i64 0]:=Qrg (zs:=[.int .i64 0,.int .u32 0,.int .i64 0]) (by simp) n
def Uo(ord:List Nat)(kf:Nat->Nat)(pf:Nat->Int)(j v:Nat): List Value:=if plc ord v<j then Qp kf pf v else[.int .i64 0,.int .u32 0,.int .i64 0]
theorem Xwm(ord:List Nat)(kf:Nat->Nat)(pf:Nat->Int)(j v:Nat): (Uo ord kf pf j v).length=3:=by unfold Uo;split<;>rfl
def BagAt(n:Nat)(es ord:List Nat)(v k:Nat)(p:Int): Prop:=k<4294967296/\(∀ x,k.testBit x=Vf (nb0 n es) ord v x) /\
 ((p = -1/\∀ x,Vf (nb0 n es) ord v x=false)∨∃ q:Nat,p=q/\Vf (nb0 n es) ord v q=true/\∀ x,Vf (nb0 n es) ord v x=true->plc ord q<=plc ord x)
theorem Qkn(x y:Nat): decide (x=y) = !(y != x):=by grind
theorem Xjw{w:World}{A PA:Option Addr}{c pc n f:Nat}(h:GrV w A c n es)(hp:PermOk n f perm)(hP:Rd w 1 PA perm.length (Je (nz perm))):
  Ret prog 72 [.agg (grC A c n es).toArray,.int .i64 (f:Int),.slice PA perm.length pc] w λu w'=>Ext w w'/\∃ B kf pf,u=.tuple #[.slice B n n,.int .i64 0]/\w'.ownsRow w.heap.size 208 3 (.slice B n n) n (Qo n (Qp kf pf))/\Jyf n es (Xf perm f) kf pf:=by
 have hn:=h.n32;have ez:=hp.fn;have fa:=hp.len;refine enE func72 ntmps72 ?_;refine bxR (cs:=grC A c n es) ?_;intro w1 b3 dt fd e9;refine Jt (cs:=grC A c n es) (λj u hu=>e9.at hu) ?_;refine clR (Xjv (h.ext dt) ez) ?_;rintro u w2 ⟨rfl,dk⟩;have bf:=dt.trans dk;refine ρ ?_;refine Jo (fun (i:Nat) (s:Nat)=>[(1,.int .i64 (f:Int)),(2,.slice PA perm.length pc),(3,.pointer (some ⟨b3,0,none⟩)),(9,.int .u32 (s:Int)),(28,.slice PA perm.length pc),(29,.int .i64 (perm.length:Int)),(30,.int .i64 (i:Int))])
  (λi s w'=>i<=perm.length/\w'=w2/\s<4294967296/\∀ x,s.testBit x=true->x∈perm.take i) (λi _=>perm.length-i) 0 0 sB
  ⟨Nat.zero_le _,rfl,om,λx O=>by simp at O⟩ ?_
 rintro i s w' ⟨hi,rfl,hs,d7⟩;have af:=e9.ext dk;refine ciR (λhc=>?_) (λhc=>?_)
 .have li:i<perm.length:=by have:=oT hc;omega
  clear hc;have e7:=hP.ext bf;have hv:=hp.rng _ (getD_mem' 0 perm li);obtain⟨v,ev⟩:∃ v,v=perm.getD i 0:=⟨_,rfl⟩;refine ixR i e7 li ?_;refine ldR (e7.cell (Zy li)) ?_;rw[<-ev]at hv ⊢;refine kfR 37 ?_ ?_
  .exact decide_eq_false om
  refine ldR (af.at (i:=0) rfl) ?_;refine kfR 43 ?_ ?_
  .exact decide_eq_false om
  refine ρ ?_;refine Iv (s:=s) (v:=v) om ?_;have dw:perm.take (i+1)=perm.take i++[v]:=by rw[Qs 0 li,ev]
  have et:v ∉ perm.take i:=λhm=>by
   have J:(perm.take (i+1)).Nodup:=hp.nd.sublist (List.take_sublist _ _);rw[dw,List.nodup_append]at J;exact J.2.2 _ hm _ (List.mem_singleton.2 rfl) rfl
  refine cfR ?_ ?_
  .rw[Gh hs];cases hb:s.testBit v with
   | false=>rfl
   | true=>exact absurd (d7 v hb) et
  have cm:=Kh (show v<32 by omega);refine ρ ?_;refine sl32 (v:=v) om ?_;refine ρ ?_;rw[Jxb hs cm];refine ρ ?_;refine Jl (i+1) (s ||| 2^v) sO ⟨om,rfl,Jbl hs cm,λx O=>?_⟩ om;rw[Nat.testBit_or,Jys,Bool.or_eq_true,decide_eq_true_eq]at O;rw[dw,List.mem_append,List.mem_singleton];rcases O with O|O
  .exact .inl (d7 x O)
  exact .inr O.symm
 clear hc hs d7 hi;refine ldR (af.at (i:=0) rfl) ?_;refine cfR ?_ ?_
 .exact Qvj om
 refine Jv (cs:=List.replicate 32 (Value.int .i64 0)) Jnt ?_;intro w3 a8 c5 d1 ck;refine Jv (cs:=List.replicate 32 (Value.int .i64 0)) Jnt ?_;intro w4 a1 cn d0 ea;have cj:=ck.ext cn;have di:=(bf.trans c5).trans cn;refine ρ ?_;refine sla ?_;refine ρ ?_;refine cpb (dl:=32) (dc:=32) cj (hP.ext di) om (by simp) (λu hu=>?_) ?_
 .obtain⟨z,_,rfl⟩:=List.mem_map.1 hu;rfl
 intro w5 ch db;rw[Qtb om]at ch;have da:a1≠a8:=λe=>by have:=ck.lt;omega
 have de:Blk w5 a1 204 (Yz λ_=>0):=by
  have J:=ea.grown db (λe=>by injection e with e;exact da e);exact J
 have e8:Blk w5 b3 151 (grC A c n es):=by
  have J:=(af.ext (c5.trans cn)).grown db (λe=>by injection e with e;have:=af.lt;omega);exact J
 have cb:w'.heap.size<=a8:=d1;have ej:Ext w' w5:=Jch (c5.trans cn) db cb;obtain⟨ord,ak⟩:∃ ord,ord=Xf perm f:=⟨_,rfl⟩;have c7:ord.length=n:=by rw[ak];exact hp.olen
 have a3:ord.Nodup:=by rw[ak];exact hp.ond
 have b7:∀ {u},u∈ord↔u<n:=fun {u}=>by rw[ak];exact hp.omem
 have cx:∀ i,i<n->ord.getD i 0<n:=λi hi=>b7.1 (getD_mem' 0 ord (c7.symm ▸ hi));clear ck cj;refine ρ ?_;refine Jo (fun (k:Nat) (o:Nat->Nat)=>[(1,.int .i64 (f:Int)),(2,.slice PA perm.length pc),(3,.pointer (some ⟨b3,0,none⟩)),(12,.pointer (some ⟨a8,0,none⟩)),(13,.pointer (some ⟨a1,0,none⟩)),(65,.int .i64 (f:Int)),(66,.int .i64 (k:Int))])
  (λk o w6=>k<=f/\Ext w' w6/\Blk w6 b3 151 (grC A c n es)/\Blk w6 a8 204 (Yz o)/\Blk w6 a1 204 (Yz λ_=>0)/\∀ j,j<perm.length+k->o j=ord.getD j 0) (λk _=>f-k) 0 (λi=>perm.getD i 0) sB
  ⟨Nat.zero_le _,ej,e8,ch,de,λj hj=>?_⟩ ?_
 .rw[ak];simp[Xf,List.getD,List.getElem?_append_left (show j<perm.length by omega)]
 rintro k o w6 ⟨hk,d4,bl,ah,be,ho⟩;refine ciR (λhc=>?_) (λhc=>?_)
 .have lk:k<f:=by have:=oT hc;omega
  clear hc;have d8:perm.length+k<32:=om
  refine ρ ?_;refine ixb (perm.length+k) d8 ?_;refine ρ ?_;have ev:(f:Int)-1-(k:Int)=((f-1-k:Nat):Int):=om
  rw[ev];refine sto (p:=⟨a8,perm.length+k,none⟩) (ah.cell _ |>.trans (Im d8)) (ah.frozen _) ?_;have Z:=ah.set (perm.length+k) (.int .i64 ((f-1-k:Nat):Int));rw[Qxz o d8]at Z;refine ρ ?_;refine Jl (k+1) (upd o (perm.length+k) (f-1-k)) sO ⟨om,d4.setCell cb _,bl.far (by simp only;have:=af.lt;omega) _,Z,be.far (λe=>da e) _,λj hj=>?_⟩ om;by_cases e:j=perm.length+k
  .subst e;rw[Ju,ak];simp only[Xf,List.getD];rw[List.getElem?_append_right om,Nat.add_sub_cancel_left,List.getElem?_reverse (by simp;omega),List.length_range,List.getElem?_range om];rfl
  rw[Jm _ _ e];exact ho j om
 have ew:k=f:=by have:=oF hc;omega
 subst ew;clear hc;have eo:perm.length+k=n:=om
 rw[eo]at ho;refine ldR (bl.at (i:=0) rfl) ?_;refine ρ ?_;refine Jo (fun (i:Nat) (q:Nat->Nat)=>[(2,.slice PA perm.length pc),(3,.pointer (some ⟨b3,0,none⟩)),(12,.pointer (some ⟨a8,0,none⟩)),(13,.pointer (some ⟨a1,0,none⟩)),(80,.int .i64 (n:Int)),(81,.int .i64 (i:Int))])
  (λi q w7=>i<=n/\Ext w' w7/\Blk w7 b3 151 (grC A c n es)/\Blk w7 a8 204 (Yz o)/\Blk w7 a1 204 (Yz q)/\∀ u,u<n->plc ord u<i->q u=plc ord u) (λi _=>n-i) 0 (λ_=>0) sB
  ⟨Nat.zero_le _,d4,bl,ah,be,λu _ hu=>om⟩ ?_
 clear d4 bl ah be;rintro i q w7 ⟨hi,c1,b8,Z,a9,hq⟩;refine ciR (λhc=>?_) (λhc=>?_)
 .have li:i<n:=by have:=oT hc;omega
  clear hc;have fb:=cx i li;have ep:=ho i li;refine ρ ?_;refine ixb i (show i<32 by omega) ?_;refine ldR (Z.atc (Im (show i<32 by omega))) ?_;rw[ep];refine ρ ?_;refine ixb (ord.getD i 0) (show ord.getD i 0<32 by omega) ?_;refine Xq (p:=⟨a1,ord.getD i 0,none⟩) (a9.cell _ |>.trans (Im (show ord.getD i 0<32 by omega))) (a9.frozen _) ?_;have cg:=a9.set (ord.getD i 0) (.int .i64 (i:Int));rw[Qxz q (show ord.getD i 0<32 by omega)]at cg;have ca:w'.heap.size<=a1:=nL c5.size d0;refine ρ ?_;refine Jl (i+1) (upd q (ord.getD i 0) i) sO ⟨om,c1.setCell ca _,b8.far (by simp only;have:=af.lt;omega) _,Z.far (λe=>da e.symm) _,cg,λu hu eu=>?_⟩ om;by_cases e:u=ord.getD i 0
  .rw[e,Ju,Jqb a3 (c7.symm ▸ li)]
  rw[Jm _ _ e];refine hq u hu ?_;have J:=Gl a3 (b7.2 hu);rcases Nat.lt_or_ge (plc ord u) i with h2|h2
  .exact h2
  have:plc ord u=i:=om
  rw[this]at J;exact absurd J.2.symm e
 have ey:i=n:=by have:=oF hc;omega
 subst ey;clear hc;have du:∀ u,u<i->q u=plc ord u:=λu hu=>hq u hu (by have:=(Gl a3 (b7.2 hu)).1;omega);have c4:=bf.trans c1;refine Jt (cs:=grC A c i es) (λj u hu=>b8.at hu) ?_;refine clR (Xjx (h.ext c4)) ?_;rintro u w8 ⟨dj,a0,rfl,e6⟩;refine Jv (cs:=Xr λ_=>0) Jkm ?_;intro w9 a4 ei cz b9;refine ρ ?_;refine sta (cs':=Xr a0) b9 ?_ (Jfn a0) (by rw[Ym,Ym]) (Ym a0).symm;intro bz b9 f3 dq;have d3:Ext w8 bz:=dq w8 ei cz;have ae:=dj.trans d3;have bd:=b8.ext ae;refine ldR (bd.at (i:=0) rfl) ?_;refine ρ ?_;refine mkn EBg i om (by unfold maxLen;omega) ?_;intro f6 B bg au _;rw[made3]at au;have ad:=ae.trans bg;have bc:=bd.ext bg;have br:=Z.ext ad;have bp:=a9.ext ad;have bo:=b9.ext bg;have eh:=c4.trans ad;refine ldR (bc.at (i:=0) rfl) ?_;have ef:w'.heap.size<=a8:=d1;have f8:a1<w7.heap.size:=a9.lt;have f9:a8<w7.heap.size:=Z.lt;have l3:b3<w7.heap.size:=b8.lt
 have f7:w7.heap.size<=a4:=nL dj.size cz;have dh:a4<bz.heap.size:=b9.lt;have ca:w'.heap.size<=a1:=nL c5.size d0;have eb:Qo i (λ_=>[Value.int .i64 0,.int .u32 0,.int .i64 0])=Qo i (Uo ord (λ_=>0) (λ_=>0) 0):=Jck λv _=>by simp[Uo]
 have e2:∀ e∈es,e<2^i:=h.lt;rw[eb]at au;refine ρ ?_;refine Jxg (fun (j:Nat) (a:Nat->Nat) (kf:Nat->Nat) (pf:Nat->Int)=>[(3,.pointer (some ⟨b3,0,none⟩)),(12,.pointer (some ⟨a8,0,none⟩)),(13,.pointer (some ⟨a1,0,none⟩)),(16,.pointer (some ⟨a4,0,none⟩)),(17,.slice B i i),(96,.int .i64 (i:Int)),(97,.int .i64 (j:Int))])
  (λj a kf pf aa=>j<=i/\Ext w' aa/\w7.heap.size<=aa.heap.size/\bz.heap.size<=aa.heap.size/\Blk aa b3 151 (grC A c i es)/\Blk aa a8 204 (Yz o)/\Blk aa a1 204 (Yz q)/\Blk aa a4 205 (Xr a)/\aa.ownsRow bz.heap.size 208 3 (.slice B i i) i (Qo i (Uo ord kf pf j)) /\
   (∀ u,u<32->a u<4294967296)/\(∀ u,u<i->∀ x,(a u).testBit x=Yv (nb0 i es) (ord.take j) u x)/\∀ v,v<i->plc ord v<j->BagAt i es ord v (kf v) (pf v)) (λj _ _ _=>i-j) 0 a0 (λ_=>0) (λ_=>0) sB
  ⟨Nat.zero_le _,c1.trans ad,ad.size,bg.size,bc,br,bp,bo,au,λu hu=>(e6 u hu).1,λu hu x=>?_,λv _ hv=>om⟩ ?_
 .rw[(e6 u om).2];rfl
 clear bc br bp bo au bd b8 Z a9 eb b9 af;rintro j a kf pf aa ⟨hj,b4,en,ee,cc,bq,ay,bn,ar,d2,c3,e3⟩;refine ciR (λhc=>?_) (λhc=>?_)
 .have lj:j<i:=by have:=oT hc;omega
  clear hc;have cr:j<32:=om
  obtain⟨v,ev⟩:∃ v,v=ord.getD j 0:=⟨_,rfl⟩;have b5:v<i:=by rw[ev];exact cx j lj
  have b6:v<32:=om
  have d5:v∈ord:=b7.2 b5;have dv:pre ord v=ord.take j:=by rw[ev];exact Jgm a3 (c7.symm ▸ lj)
  have f0:plc ord v=j:=by rw[ev];exact Jqb a3 (c7.symm ▸ lj)
  obtain⟨G,bs⟩:∃ G,G=Yv (nb0 i es) (ord.take j):=⟨_,rfl⟩;have am:∀ x,Vf (nb0 i es) ord v x=G v x:=λx=>by rw[Vf,dv,bs]
  have e0:NbInv (ord.take j) G:=by rw[bs];exact(Qqn e2).at (a3.sublist (List.take_sublist _ _))
  have d6:v ∉ ord.take j:=by rw[<-dv];exact(Jyw d5).choose_spec.2
  have fc:∀ x,G v x=true->x≠v:=λx O=>(e0.gone v x d6 O).2;have dz:∀ x,G v x=true->x<i:=λx O=>by rw[<-am]at O;exact Jbw (λu x h=>(Jzl e2 h).2.1) O
  rw[<-bs]at c3;have c8:=d2 v b6;refine ρ ?_;refine ixb j cr ?_;refine ldR (bq.atc (Im cr)) ?_;rw[ho j lj,<-ev];refine ρ ?_;refine ixb v b6 ?_;refine ldR (bn.atc (Iy b6)) ?_;refine Zz (Xkw _ _ _) ?_;refine Jv Jkp ?_;intro f5 az dn e4 cd;refine Zk cd ?_;intro dg cd f2 dm;have D:Ext aa dg:=dm aa dn e4;have dd:=cc.ext D;refine ldR (dd.at (i:=0) rfl) ?_;refine ρ ?_;refine Xn (fun (u:Nat) (a':Nat->Nat) (par:Int)=>[(3,.pointer (some ⟨b3,0,none⟩)),(12,.pointer (some ⟨a8,0,none⟩)),(13,.pointer (some ⟨a1,0,none⟩)),(16,.pointer (some ⟨a4,0,none⟩)),(17,.slice B i i),(96,.int .i64 (i:Int)),(97,.int .i64 (j:Int)),(19,.int .i64 (v:Int)),(20,.pointer (some ⟨az,0,none⟩)),(109,.int .i64 (i:Int)),(110,.int .i64 (u:Int))])
   (λu a' par a5=>u<=i/\GrN (λk=>k=a4∨k=az) dg a5/\Blk a5 a4 205 (Xr a')/\Blk a5 az 208 [.int .i64 (v:Int),.int .u32 (a v:Int),.int .i64 par] /\
    (∀ x,x<32->a' x<4294967296)/\(∀ x,x<i->∀ y,(a' x).testBit y=if x<u then Gn v G x y else G x y) /\
    ((par = -1/\∀ x,x<u->G v x=false)∨∃ p:Nat,par=p/\p<u/\G v p=true/\∀ x,x<u->G v x=true->plc ord p<=plc ord x)) (λu _ _=>i-u) 0 a (-1) sB
   ⟨Nat.zero_le _,GrN.refl _ _,bn.ext D,cd,d2,λx O y=>by rw[if_neg om];exact c3 x O y,.inl ⟨rfl,λx O=>om⟩⟩ ?_
  rintro u a' par a5 ⟨hu,a6,ax,a7,ap,bj,aj⟩;refine ciR (λhc=>?_) (λhc=>?_)
  .have lu:u<i:=by have:=oT hc;omega
   clear hc;have a2:u<32:=om
   refine ldR (a7.at (i:=1) rfl) ?_;refine ρ ?_;refine Iv (s:=a v) (v:=u) om ?_;refine ciR (λhc=>?_) (λhc=>?_)
   .rw[Qvq c8,c3 v b5]at hc;have c2:G v u=false:=by simpa using hc
    refine ρ ?_;refine Qt (u+1) a' par sO ⟨om,a6,ax,a7,ap,λx O y=>?_,?_⟩ om
    .rw[bj x O];by_cases e:x=u
     .subst e;rw[if_neg om,if_pos om,Gn,if_neg (by rw[c2];simp)]
     by_cases J:x<u
     .rw[if_pos J,if_pos om]
     rw[if_neg J,if_neg om]
    rcases aj with⟨J,h2⟩|⟨p,J,h2,h3,h4⟩
    .refine .inl ⟨J,λx O=>?_⟩;by_cases e:x=u
     .rw[e];exact c2
     exact h2 x om
    refine .inr ⟨p,J,om,h3,λx O ao=>?_⟩;by_cases e:x=u
    .rw[e,c2]at ao;cases ao
    exact h4 x om ao
   rw[Qvq c8,c3 v b5]at hc;have c2:G v u=true:=by simpa using hc
   have cv:Ext w' a5:=a6.old (b4.trans D) (λk hk=>by
    rcases hk with rfl|rfl
    .have:=c1.size;omega
    have:=b4.size;omega)
   have cq:Blk a5 a1 204 (Yz q):=Jc (ay.ext D) a6 (by
    rintro(h|h)
    .omega
    have:=ay.lt;omega)
   refine ρ ?_;refine Zb (fun (t:Bool)=>[(3,.pointer (some ⟨b3,0,none⟩)),(12,.pointer (some ⟨a8,0,none⟩)),(13,.pointer (some ⟨a1,0,none⟩)),(16,.pointer (some ⟨a4,0,none⟩)),(17,.slice B i i),(96,.int .i64 (i:Int)),(97,.int .i64 (j:Int)),(19,.int .i64 (v:Int)),(20,.pointer (some ⟨az,0,none⟩)),(109,.int .i64 (i:Int)),(110,.int .i64 (u:Int)),(21,.int .i64 (u:Int)),(131,.bool t)])
    (λt bw=>Ext a5 bw/\(t=true->par = -1∨∃ p:Nat,par=p/\plc ord u<plc ord p)/\(t=false->∃ p:Nat,par=p/\plc ord p<=plc ord u)) ?_ ?_
   .have b1:Ext a5 a5.drew:=(Ext.refl a5).drew;have ag:=a7.ext b1;have ce:=cq.ext b1;refine dr (scq 13 []) kr ?_;refine Jz (ag.at (i:=2) rfl) ?_;refine ρd ?_;refine dki 122 (λJ=>?_) (λJ=>?_)
    .have h2:par<0:=oT J;have h3:par = -1:=by
      rcases aj with⟨h4,_⟩|⟨p,h4,_⟩
      .exact h4
      omega
     refine ρd ?_;refine ρ ?_;exact Jf true sB ⟨b1,λ_=>.inl h3,λe=>by cases e⟩
    have h2:¬ par<0:=oF J;obtain⟨p,h4,h5,h6,h7⟩:∃ p:Nat,par=p/\p<u/\G v p=true/\∀ x,x<u->G v x=true->plc ord p<=plc ord x:=by
     rcases aj with⟨h4,_⟩|h4
     .omega
     exact h4
    subst h4;refine ρd ?_;refine dixb u a2 ?_;refine Jz (ce.atc (Im a2)) ?_;refine Jz (ag.at (i:=2) rfl) ?_;refine ρd ?_;refine dixb p (show p<32 by omega) ?_;refine Jz (ce.atc (Im (show p<32 by omega))) ?_;rw[du u lu,du p om];refine ρd ?_;refine ρ ?_;refine Jf _ sB ⟨b1,λe=>.inr ⟨p,rfl,?_⟩,λe=>⟨p,rfl,?_⟩⟩
    .have:=oT e;omega
    have:=oF e;omega
   rintro t bw ⟨b2,em,el⟩;have ac:=a7.ext b2;refine ρ ?_;refine Zb (fun (ai:Int)=>[(3,.pointer (some ⟨b3,0,none⟩)),(12,.pointer (some ⟨a8,0,none⟩)),(13,.pointer (some ⟨a1,0,none⟩)),(16,.pointer (some ⟨a4,0,none⟩)),(17,.slice B i i),(96,.int .i64 (i:Int)),(97,.int .i64 (j:Int)),(19,.int .i64 (v:Int)),(20,.pointer (some ⟨az,0,none⟩)),(109,.int .i64 (i:Int)),(110,.int .i64 (u:Int)),(21,.int .i64 (u:Int))])
    (λai an=>GrN (λk=>k=az) bw an/\Blk an az 208 [.int .i64 (v:Int),.int .u32 (a v:Int),.int .i64 ai]/\((ai = -1/\∀ x,x<u+1->G v x=false)∨∃ p:Nat,ai=p/\p<u+1/\G v p=true/\∀ x,x<u+1->G v x=true->plc ord p<=plc ord x)) ?_ ?_
   .refine ci (λht=>?_) (λht=>?_)
    .refine Xq (p:=⟨az,2,none⟩) (ac.cell 2) (ac.frozen _) ?_;refine ρ ?_;refine Jf (u:Int) sB ⟨GrN.set _ rfl,ac.set 2 _,.inr ⟨u,rfl,Nat.lt_succ_self u,c2,λx O ao=>?_⟩⟩;by_cases e:x=u
     .rw[e];exact nR _
     rcases aj with⟨_,h2⟩|⟨p,J,h2,h3,h4⟩
     .rw[h2 x om]at ao;cases ao
     have h5:=h4 x om ao;rcases em ht with h6|⟨p',h6,h7⟩
     .omega
     have:p=p':=om
     subst this;omega
    obtain⟨p',h6,h7⟩:=el ht;refine ρ ?_;refine Jf par sB ⟨GrN.refl _ _,ac,.inr ?_⟩;rcases aj with⟨J,h2⟩|⟨p,J,h2,h3,h4⟩
    .omega
    have:p=p':=om
    subst this;refine⟨p,J,om,h3,λx O ao=>?_⟩;by_cases e:x=u
    .rw[e];exact h7
    exact h4 x om ao
   rintro ai an ⟨cy,co,d9⟩;have bi:a4≠az:=om
   have cp:Blk an a4 205 (Xr a'):=Jc (ax.ext b2) cy bi;have b1:Ext an an.drew:=(Ext.refl an).drew;have av:=cp.ext b1;have ag:=co.ext b1;have e5:=ap u a2;have ec:=Kh a2;have cm:=Kh b6;refine ρ ?_;refine drN (λ_=>False) 15 (scq 15 [114]) kr ?_;refine ρn ?_;refine nixb u a2 ?_;refine ρn ?_;refine nld (Jr (av.atc (Iy a2)) (λe=>e)) ?_;refine ρn ?_;refine nld (Jr (ag.at (i:=1) rfl) (λe=>e)) ?_;refine ρn ?_;refine Jgw a2 ?_;refine ρn ?_;refine Jgw b6 ?_;refine ρn ?_;refine nixb u a2 ?_;refine ρn ?_;refine Xm ?_;have c6:=Jbl e5 c8;have cw:=Jbl ec cm;obtain⟨nw,df⟩:∃ nw,nw=Kz (a' u ||| a v) (2^u ||| 2^v):=⟨_,rfl⟩;have er:nw<4294967296:=by rw[df];exact Qyl c6
   have ed:bits .andNot .u32 (bits .or .u32 (a' u:Int) (a v:Int)) (bits .or .u32 ((2^u:Nat):Int) ((2^v:Nat):Int))=(nw:Int):=by
    rw[Jxb e5 c8,Jxb ec cm,Jmw c6 cw,df]
   refine sto (p:=⟨a4,u,none⟩) (av.cell u |>.trans (Iy a2)) (av.frozen _) ?_;rw[ed];have bm:=av.set u (.int .u32 (nw:Int));rw[Jfm a' a2]at bm;have e1:GrN (λk=>k=a4) an.drew (an.drew.setCell ⟨a4,u,none⟩ (.int .u32 (nw:Int))):=GrN.set _ rfl;refine ω5 ?_;refine Gv ?_;refine ρn ?_;refine ρ ?_;refine Qt (u+1) (upd a' u nw) ai sO ⟨om,?_,bm,ag.far (λe=>bi e.symm) _,λx O=>?_,λx O y=>?_,d9⟩ om
   .exact((a6.trans (GrN.ext b2)).trans (cy.mono λk _ hk=>.inr hk)).trans ((GrN.ext b1).trans (e1.mono λk _ hk=>.inl hk))
   .by_cases e:x=u
    .rw[e,Ju];exact er
    rw[Jm _ _ e];exact ap x O
   by_cases e:x=u
   .subst e;rw[Ju,if_pos (Nat.lt_succ_self x),df,Jnl c6 cw,Nat.testBit_or,Nat.testBit_or,Jys,Jys,bj x O,if_neg (Nat.lt_irrefl x),c3 v b5,Gn,if_pos c2];rw[Qkn x y,Qkn v y];cases G x y<;>cases G v y<;>cases (y != x)<;>cases (y != v)<;>rfl
   rw[Jm _ _ e,bj x O];by_cases J:x<u
   .rw[if_pos J,if_pos om]
   rw[if_neg J,if_neg om]
  have ek:u=i:=by have:=oF hc;omega
  subst ek;clear hc;have cv:Ext w' a5:=a6.old (b4.trans D) (λk hk=>by
   rcases hk with rfl|rfl
   .have:=c1.size;omega
   have:=b4.size;omega)
  have ba:∀ {g t:Nat} {cs:List Value},Blk aa g t cs->g≠a4->Blk a5 g t cs:=λhB J=>Jc (hB.ext D) a6 (by
   rintro(h|h)
   .exact J h
   have:=hB.lt;omega)
  have aq:a5.ownsRow bz.heap.size 208 3 (.slice B u u) u (Qo u (Uo ord kf pf j)):=Ja (Jk ar D) a6 (λg eg hk=>by
   obtain⟨_,_,_,_,c9⟩:=Jy ar;have h5:=c9 g eg;rcases hk with rfl|rfl<;>omega)
  refine Qk a7 ?_;refine Qu 3 v (Rd.own aq) b5 ?_;refine ρ ?_;refine stoE (cs:=[.int .i64 (v:Int),.int .u32 (a v:Int),.int .i64 par]) aq b5 ?_ Jzd;intro bw bb bh;rw[Xjf (λv _=>Xwm ord kf pf j v) b5 rfl]at bb;have eg:Qo u (upd (Uo ord kf pf j) v [.int .i64 (v:Int),.int .u32 (a v:Int),.int .i64 par])=Qo u (Uo ord (upd kf v (a v)) (upd pf v par) (j+1)):=by
   refine Jck λx O=>?_;by_cases e:x=v
   .subst e;rw[Ju,Uo,if_pos om];simp only[Qp,Ju]
   rw[Jm _ _ e];have dx:plc ord x≠j:=λe'=>by
    have J:=(Gl a3 (b7.2 O)).2;rw[e',<-ev]at J;exact e J.symm
   unfold Uo;by_cases J:plc ord x<j
   .rw[if_pos J,if_pos om];simp only[Qp,Jm _ _ e]
   rw[if_neg J,if_neg om]
  rw[eg]at bb;have ab:∀ {g t:Nat} {cs:List Value},Blk a5 g t cs->g<bz.heap.size->Blk bw g t cs:=λhB J=>hB.grown bh (λe=>by
   obtain⟨_,_,_,_,c9⟩:=Jy aq;have h5:=c9 _ e.symm;omega)
  have b2:Ext w' bw:=Ql cv bh (λg eg=>by
   obtain⟨_,_,_,_,c9⟩:=Jy aq;have h5:=c9 g eg;have:=c1.size;have:=ae.size;omega)
  have f4:=ae.size;refine ρ ?_;refine Kf (j+1) a' (upd kf v (a v)) (upd pf v par) sO ⟨om,b2,by have:=D.size;have:=a6.size;have:=bh.size;omega,by have:=D.size;have:=a6.size;have:=bh.size;omega,ab (ba cc om) om,ab (ba bq om) om,ab (ba ay om) om,ab ax dh,bb,ap,λx O y=>?_,λx O eu=>?_⟩ om
  .rw[bj x O,if_pos O,Qs 0 (c7.symm ▸ lj),<-ev,Qqm,<-bs];rfl
  by_cases e:x=v
  .subst e;rw[Ju,Ju];refine⟨c8,λy=>by rw[c3 x b5,am],?_⟩;rcases aj with⟨J,h2⟩|⟨p,J,h2,h3,h4⟩
   .refine .inl ⟨J,λy=>?_⟩;rw[am];cases hb:G x y with
    | false=>rfl
    | true=>exact absurd (h2 y (dz y hb)) (by rw[hb];simp)
   exact .inr ⟨p,J,by rw[am];exact h3,λy hy=>h4 y (dz y (by rw[<-am];exact hy)) (by rw[<-am];exact hy)⟩
  rw[Jm _ _ e,Jm _ _ e];refine e3 x O ?_;have dx:plc ord x≠j:=λe'=>by
   have J:=(Gl a3 (b7.2 O)).2;rw[e',<-ev]at J;exact e J.symm
  omega
 have ex:j=i:=by have:=oF hc;omega
 subst ex;clear hc;refine ρ ?_;refine Vx ⟨bf.trans b4,B,kf,pf,rfl,?_,λv hv=>?_⟩
 .have e:Qo j (Uo ord kf pf j)=Qo j (Qp kf pf):=Jck λv hv=>by
   have:=(Gl a3 (b7.2 hv)).1;rw[Uo,if_pos om]
  rw[e]at ar;exact Jbk ar (by have:=c4.size;have:=ae.size;omega)
 have:=e3 v hv (by have:=(Gl a3 (b7.2 hv)).1;omega);rw[<-ak];exact this
open Go.RowKit Pl Go.Wk
variable {ca cb n v:Nat}{pf:Nat->Int}
theorem Xjt{kf:Nat->Nat}(hv:v<32)(hk:kf v<4294967296)(w:World): Ret Tryz.prog 124 [.agg (Qp kf pf v).toArray] w λu w'=>u=.int .u32 ((kf v ||| 2^v:Nat):Int)/\Ext w w':=by
 refine enE Tryz.func124 Tryz.ntmps124 ?_;refine bxR (cs:=Qp kf pf v) ?_;intro G b J Z O;refine ldR (O.at (i:=0) rfl) ?_;refine ldR (O.at (i:=0) rfl) ?_;refine cfR ?_ ?_
 .grind
 have j:Ext G G.drew:=(Ext.refl G).drew;have D:=O.ext j;refine drR (scq 7 []) ?_;refine Jz (D.at (i:=1) rfl) ?_;refine Jz (D.at (i:=0) rfl) ?_;refine ρd ?_;refine dsl32 hv ?_;refine ρd ?_;refine ρ ?_;refine Jj ⟨?_,J.trans j⟩;rw[Jxb hk (Kh hv)]
def Jdd(n m:Nat)(vars:Nat->List Nat)(rs:Nat->List Row)(s:Nat)(l:List Row): Prop:=Lt [] l/\(∀ x,x∈l↔∃ z:Row,z.length=n/\x=pmR (bk s 32) z/\Ko m vars rs s z)/\l.length<=65536
def Yb(s:Nat)(l:List Row): Atm:=⟨nz (bk s 32),(bk s 32).length,l⟩
theorem Xwk{w:World}{ts:List TA}{Aa B:Option Addr}{vars:Nat->List Nat}{rs:Nat->List Row}{kf:Nat->Nat}(hn32:n<=32)(hok:∀ v,v<n->MOk n ts vars rs (kf v ||| 2^v))(hR:Rd w 3 Aa ts.length (atC ts))(hle:ts.length<=ca)(hat:∀ p∈ts,AtV w p.1 p.2)(hB:Rd w 3 B n (Qo n (Qp kf pf)))(hk:∀ v,v<n->kf v<4294967296)(hcap:∀ v,v<n->∀ l:List Row,Lt [] l->(∀ x∈l,∃ z:Row,z.length=n/\x=pmR (bk (kf v ||| 2^v) 32) z/\Ko ts.length vars rs (kf v ||| 2^v) z)->l.length<=65536):
  Ret Tryz.prog 73 [.int .i64 (n:Int),.slice B n cb,.slice Aa ts.length ca] w λu w'=>Ext w w'/\∃(va:Value) (st:Int) (R:Nat->List Row),u=.tuple #[va,.int .i64 st,.int .i64 0] /\
   Off (λk=>k<w.heap.size) w' (λx=>GV 3 AtG x va ((List.range n).map λv=>Yb (kf v ||| 2^v) (R v)))/\∀ v,v<n->Jdd n ts.length vars rs (kf v ||| 2^v) (R v):=by
 refine enE Tryz.func73 Tryz.ntmps73 ?_;refine ρ ?_;refine Jxg (fun (v:Nat) (va:Value) (st:Int) (R:Nat->List Row)=>[(0,.int .i64 (n:Int)),(2,.slice Aa ts.length ca),(9,va),(10,.int .i64 st),(16,.slice B n cb),(17,.int .i64 (n:Int)),(18,.int .i64 (v:Int))])
  (λv va st R w'=>v<=n/\Ext w w'/\OwnG 134 3 AtG w' w.heap.size va ((List.range v).map λu=>Yb (kf u ||| 2^u) (R u))/\∀ u,u<v->Jdd n ts.length vars rs (kf u ||| 2^u) (R u)) (λv _ _ _=>n-v) 0 (.slice none 0 0) 0 (λ_=>[]) sB
  ⟨Nat.zero_le _,Ext.refl _,OwnG.nil _ _,λu hu=>om⟩ ?_
 rintro v va st R w1 ⟨hv,J,a7,b3⟩;refine ciR (λhc=>?_) (λhc=>?_)
 .have lv:v<n:=by have:=oT hc;omega
  clear hc;have ag:=hB.ext J;have a6:∀ j u,(Qp kf pf v)[j]?=some u->w1.cell? ((adr B (v*3)).add j)=some u:=λj u hu=>by
   have hj:j<3:=by grind [Nat.lt_or_ge,List.getElem?_eq_none,Qp]
   rw[Xh];exact ag.cell ((Jqs (sz:=3) (λ_ _=>rfl) lv hj).trans hu)
  refine Qu 3 v ag lv ?_;refine Jt (cs:=Qp kf pf v) a6 ?_;refine Jv Jkp ?_;intro w2 bg av ae Z;refine Qw (cs':=Qp kf pf v) Z ?_ Jzd;intro w3 Z bc au;have aa:Ext w1 w3:=au w1 av ae;refine Jt (cs:=Qp kf pf v) (λj u hu=>Z.at hu) ?_;refine clR (Xjt om (hk v lv) w3) ?_;rintro u w4 ⟨rfl,ar⟩;have G:=aa.trans ar;have i:=J.trans G;refine clR (Qpz (hok v lv) (hR.ext i) hle (λp hp=>(hat p hp).ext i) (hcap v lv)) ?_;rintro u w5 ⟨aq,⟨p1,p2,p3⟩,am,l,rfl,a3,ay,ac,az⟩;have b5:=a3.here;obtain⟨⟨PA,pc,aj,b9,b7,b6⟩,ai,a1⟩:=id b5;simp only at aj ai;obtain⟨a8,PG,a5,_,ah,_⟩:=id a1;simp only at ah;subst aj;subst ai;subst ah;refine Jv Yf ?_;intro w6 bf ap ad O;refine Qw (cs':=[.slice PA (nz (bk (kf v ||| 2^v) 32)).length pc,.int .i64 ((bk (kf v ||| 2^v) 32).length:Int),.slice PG a8.length a5]) O ?_ (Ic rfl);intro w7 O bb ao;have a2:Ext w5 w7:=ao w5 ap ad;refine Qk O ?_
  refine Qv (Jmt _ _ _ PA PG _ pc _ a5 _ rfl rfl rfl) ?_;intro w8 b8 a9 bd b4;have D:=((G.trans aq).trans a2).trans a9;obtain⟨_,_,_,_,af⟩:=a7.form;have hΦ:Off (Xx w.heap.size va) w8 (λu=>AtG u [.slice PA (nz (bk (kf v ||| 2^v) 32)).length pc,.int .i64 ((bk (kf v ||| 2^v) 32).length:Int),.slice PG a8.length a5] (Yb (kf v ||| 2^v) l)):=by
   refine((a3.imp λu h=>⟨_,rfl,h⟩).mono λk _ b1=>?_).ext (a2.trans a9);rcases b1 with h'|h'
   .exact nM h' i.size
   exact nM (af k h').2 G.size
  refine ρ ?_;refine apG EA (Φ:=AtG) (a7.ext D) b4 rfl (Ic rfl) hΦ (by simp;omega) om (J.trans D).size ?_;intro ak w9 be b2 ba;have an:Ext w w9:=Ql (J.trans D) b2 (λg eg=>(af g eg).1);obtain⟨a4,ab⟩:∃ a4:Int,a4=IntKind.i64.wrap (st+am):=⟨_,rfl⟩;refine ρ ?_;rw[<-ab];refine ρ ?_;refine Kf (v+1) ak a4 (upd R v l) sO ⟨om,an,?_,λu hu=>?_⟩ om
  .rw[List.range_succ,List.map_append,List.map_singleton,Ju];grind [List.range,Yb,kf,upd,List.map_congr_left,List.mem_range.1,Jm]
  by_cases e:u=v
  .subst e;rw[Ju];exact⟨ay,ac,az⟩
  repeat grind [Jm]
 have ax:v=n:=by have:=oF hc;omega
 subst ax;clear hc;refine ρ ?_;exact Vq ⟨J,va,st,R,rfl,a7.off (by simp;omega),b3⟩
end Go.Proofs.YtgobkbeokaaplaaGreatDoor
namespace Go.Wk
open Go.Lib
variable {cs xs:List Value}{d e g m n t ty:Nat}{w w':World}
theorem aps{P:Program}{tt:TT}[h:Tab P tt]{al:AL}{Q:Exit->Act->World->Prop}{ops:Array Oper}{rest:List Oper}{pos:String}{aft:Array Edge}{u base:Nat}{ku:TK}{x y:Operand}{v:Value}{s:ByteArray}(hE:ElT P t e 1 1 (.int .u8 0))(ha:w.ownsRow base e 1 v m xs)(hby:m+s.size<=140737488355328)(hbase:base<=w.heap.size)(kk:∀ v' w',w'.ownsRow base e 1 v' (m+s.size) (xs++strCells s)->w.grownBy w' v.ownBlock->WL P n ops Q rest ((d,v')::al) w')(hu:tk tt u=some ku:=by rfl)(hku:ku.desc=.string:=by rfl)(hx:ev al x=some v:=by rfl)(hy:ev al y=some (.string s):=by rfl)(hd:Nat.blt d n=true:=by rfl):
  WL P n ops Q (⟨some d,.call { callee:=.builtin .append,args:=#[x,y],argTypes:=#[t,u] },ty,pos,aft,none⟩::rest) al w:=by
 obtain⟨i,hi,hz,G,J⟩:=hE.info;obtain⟨v',w',j,Z,O,k3⟩:=run_append_own_string w base t u ty e i hE.sl (Yw h.ok hu hku rfl) hi hz G J v m xs ha s (by unfold maxLen;omega) hby hbase;refine wop hd (λa D=>?_) (kk v' w' Z O);simp[execOp,resolve,invoke,builtin,D.ev hx,D.ev hy,j]
theorem _root_.Go.Wk.Blk.others(h:Blk w g t cs)(ho:OthersKept e none w w')(hne:Nat.beq e t=false): Blk w' g t cs :=
 ho g _ h (by simp) (λc j i=>by injection i with _ h2 _;subst h2;simp at hne)
end Go.Wk
namespace Go.Proofs.YtgobkbeokaaplaaGreatDoor
open Go.RowKit Pl Go.Wk _root_.Go.Proofs.Tryz
attribute [local irreducible] WC WL QX WD WDB WP WN WG
variable {B B0 c i:Nat}{r:Row}{sv v:Value}{w w':World}
def Ip(v:V): List UInt8:=Lib.itoa v.kind++[44]++(Lib.itoa v.num++[44])++(Lib.itoa (v.str.size:Int)++[44])++v.bytes
def idn(r:Row): List UInt8:=r.flatMap Ip
structure TB(B0:Nat)(w:World): Prop where
 le:B0<=w.heap.size
 tab:Lib.TabBelow prog B0 w "internal/strconv.uint64pow10" .u64 Lib.pow10Tab
theorem TB.below(h:TB B0 w)(hb:Below B w w')(hle:B0<=B): TB B0 w':=⟨nL h.le hb.size,h.tab.on (hb.mono hle)⟩
theorem TB.ext(h:TB B0 w)(hx:Ext w w'): TB B0 w':=h.below hx h.le
theorem TB.gr{N:Nat->Prop}(h:TB B0 w)(hg:GrN N w w')(hN:∀ k,k<B0->¬ N k): TB B0 w':=by
 have j:Below B0 w w':=⟨hg.os,hg.tape,hg.output,hg.size,λk i=>hg.block k (nM i h.le) (hN k i)⟩;exact⟨nL h.le j.size,h.tab.on j⟩
theorem EU8: ElT prog 105 5 1 1 (.int .u8 0):=⟨underlying105,info_parts kr,rfl,by decide⟩
theorem Jnk{l:List UInt8}{i:Int}(hT:TB B0 w)(hB0:B0<=B)(hBw:B<=w.heap.size)(h0:-9223372036854775808<=i)(h1:i<=9223372036854775807)(hlim:l.length+21<=140737488355328)(ho:w.ownsRow B 5 1 sv l.length (Bc l)): Ret prog 173 [sv,.int .i64 i,.int .i64 10] w λu w'=>w'.ownsRow B 5 1 u (l++Lib.itoa i).length (Bc (l++Lib.itoa i))/\Below B w w'/\Lib.OthersKept 5 none w w':=by
 refine⟨⟨_,_,func173,rfl,kr⟩,?_⟩;refine(Tryz.strconv_AppendInt_10 B l.length i h0 h1 sv (Bc l) w ho hBw hlim λw' J=>hT.tab w' (J.mono hB0)).mono ?_;rintro e w' ⟨j,rfl,O,G,D⟩;refine⟨j,rfl,?_,G,D⟩;have Z:Bc (l++Lib.itoa i)=Bc l++Lib.byteCells (Lib.itoa i):=by simp[Bc,Lib.byteCells]
 grind
def Vj(v:V): Prop:=(-9223372036854775808<=v.kind/\v.kind<=9223372036854775807)/\(-9223372036854775808<=v.num/\v.num<=9223372036854775807)
theorem Jms(z:Int)(w:World): (Instr.buildSlice 105 1 #[(0,.int .u8 z)]).run prog w=.ok (.slice (some ⟨w.heap.size,0,none⟩) 1 1) (w.alloc (.cells [.int .u8 z].toArray 5)):=kr
theorem Qzf(h:i<r.length): idn (r.take (i+1))=idn (r.take i)++Ip (r.getD i V0):=by grind [idn,Qs,V0]
theorem Qtn(h:i<r.length): (idn (r.take i)).length+(Ip (r.getD i V0)).length<=(idn r).length:=by
 have e:idn r=idn (r.take (i+1))++idn (r.drop (i+1)):=by unfold idn;rw[<-List.flatMap_append,List.take_append_drop]
 grind [Qzf,List.length_append]
theorem Bc_app(a b:List UInt8): Bc (a++b)=Bc a++Bc b:=by simp[Bc]
theorem Bc_one(l:List UInt8): ∀ u∈Bc l,u.oneCell'=true:=λu i=>by
 obtain⟨c,_,rfl⟩:=List.mem_map.1 i;rfl
theorem Jnj(l:List UInt8)(c:UInt8): l.length+1=(l++[c]).length:=by simp
theorem Kl{base e sz n:Nat}{cs:List Value}(h:w.ownsRow base e sz v n cs): ∀ k,v.ownBlock=some k->base<=k:=by grind [Jy]
theorem Jzt{A:Option Addr}(hT:TB B0 w)(hR:RdR w A r)(hfit:∀ v∈r,Vj v)(hlim:(idn r).length+64<=140737488355328)(hr:r.length<=1000000):
  Ret prog 129 [.slice A r.length c] w λu w'=>u=.string (str (idn r))/\Ext w w':=by
 refine enE func129 ntmps129 ?_;refine ρ ?_;refine Jo (fun (i:Nat) (vn:Value)=>[(3,vn),(6,.slice A r.length c),(7,.int .i64 (r.length:Int)),(8,.int .i64 (i:Int))])
  (λi vn w'=>i<=r.length/\Ext w w'/\w'.ownsRow w.heap.size 5 1 vn (idn (r.take i)).length (Bc (idn (r.take i)))) (λi _=>r.length-i) 0 (.slice none 0 0) sB
  ⟨Nat.zero_le _,Ext.refl _,Zw _ _ _ _⟩ ?_
 rintro i vn w1 ⟨hi,a7,hn⟩;refine ciR (λh=>?_) (λh=>?_)
 .have li:i<r.length:=by have:=oT h;omega
  clear h;have ai:RdR w1 A r:=Rd.ext hR a7;have br:=Qtn li;have hf:=hfit _ (getD_mem' V0 r li);refine Qu 3 i ai li ?_;refine Jt (cs:=(r.getD i V0).cells) (λj u hu=>RdR.cell ai li hu) ?_;refine Jv (cs:=V0.cells) Gj ?_;intro w2 b bb hb b2;refine Qw (cs':=(r.getD i V0).cells) b2 ?_ (V.one _);intro w3 ao bw aa;have ap:Ext w1 w3:=aa w1 bb hb;have ar:=Jk hn ap;have a1:=a7.trans ap;have c1:w.heap.size<=b:=nL a7.size hb;have bc:=Qzf li;generalize r.getD i V0=v at *
  generalize idn (r.take i)=l0 at *
  have bd:=Jkx v;have bs:(Ip v).length=(Lib.itoa v.kind).length+1+((Lib.itoa v.num).length+1)+((Lib.itoa (v.str.size:Int)).length+1)+v.bytes.length:=by simp only[Ip,List.length_append,List.length_cons,List.length_nil]
  clear hn b2 aa ai;refine ldR (ao.at (i:=0) rfl) ?_;refine clR (Jnk (B:=w.heap.size) (l:=l0) (i:=v.kind) (hT.ext a1) hT.le a1.size hf.1.1 hf.1.2 (by grind) ar) ?_;rintro u4 w4 ⟨ag,b1,bf⟩;have a9:Ext w w4:=Below.trans a1 b1;have an:=ao.others bf rfl;clear ar ao;refine Qv (Jms _) ?_;intro w5 b5 J c4 bi;refine ρ ?_;refine apb (m':=1) (news:=Bc [44]) EU8 (Jk ag J) (bi.rd (n:=1) rfl) (Bc_one _) (by unfold maxLen;grind) (by grind) (a9.trans J).size ?_;intro v6 w6 af ax bq;rw[<-Bc_app,Jnj _ 44]at af;have Z:Ext w w6:=Ql (a9.trans J) ax (Kl (Jk ag J));have am:=(an.ext J).grown ax ((an.ext J).ne_own (Jk ag J) rfl);clear an;refine ldR (am.at (i:=1) rfl) ?_;refine clR (Jnk (B:=w.heap.size) (l:=l0++Lib.itoa v.kind++[44]) (i:=v.num) (hT.ext Z) hT.le Z.size hf.2.1 hf.2.2 (by grind) af) ?_;rintro u7 w7 ⟨ae,az,be⟩;have a8:Ext w w7:=Below.trans Z az;have ak:=am.others be rfl
  clear af am;refine Qv (Jms _) ?_;intro w8 b8 G c2 bh;refine ρ ?_;refine apb (m':=1) (news:=Bc [44]) EU8 (Jk ae G) (bh.rd (n:=1) rfl) (Bc_one _) (by unfold maxLen;grind) (by grind) (a8.trans G).size ?_;intro v9 w9 ad av bp;rw[<-Bc_app,Jnj _ 44]at ad;have O:Ext w w9:=Ql (a8.trans G) av (Kl (Jk ae G));have aj:=(ak.ext G).grown av ((ak.ext G).ne_own (Jk ae G) rfl);clear ak;refine ldR (aj.at (i:=2) rfl) ?_;refine clR (Jnk (B:=w.heap.size) (l:=l0++Lib.itoa v.kind++[44]++Lib.itoa v.num++[44]) (i:=(v.str.size:Int)) (hT.ext O) hT.le O.size om om (by grind) ad) ?_;rintro bo b9 ⟨a5,ah,aq⟩;have a3:Ext w b9:=Below.trans O ah;have a6:=aj.others aq rfl;clear ad aj;refine Qv (Jms _) ?_;intro bm c5 D bl b4;refine ρ ?_;refine apb (m':=1) (news:=Bc [44]) EU8 (Jk a5 D) (b4.rd (n:=1) rfl) (Bc_one _) (by unfold maxLen;grind) (by grind) (a3.trans D).size ?_
  intro bn b7 a4 ab bj;rw[<-Bc_app,Jnj _ 44]at a4;have a2:Ext w b7:=Ql (a3.trans D) ab (Kl (Jk a5 D));have b3:=(a6.ext D).grown ab ((a6.ext D).ne_own (Jk a5 D) rfl);clear a6;refine ldR (b3.at (i:=2) rfl) ?_;refine ρ ?_;refine aps (base:=w.heap.size) (s:=v.str) EU8 a4 (by grind) a2.size ?_;intro ba b6 au ay;have ac:Ext w b6:=Ql a2 ay (Kl a4);refine ρ ?_;refine Jl (i+1) ba sO ⟨li,ac,?_⟩ om;rw[bc];have e1:l0++Ip v=l0++Lib.itoa v.kind++[44]++Lib.itoa v.num++[44]++Lib.itoa (v.str.size:Int)++[44]++v.bytes:=by simp only[Ip,List.append_assoc]
  rw[e1,Bc_app,List.length_append,<-bd];exact au
 have bg:i=r.length:=by grind
 rw[bg,List.take_length]at hn;obtain⟨A3,c3,rfl,bz,_⟩:=Jy hn;refine ρ ?_;refine sb (Rd.own hn) ?_;refine ρ ?_;exact Jj ⟨rfl,a7⟩
end Go.Proofs.YtgobkbeokaaplaaGreatDoor
