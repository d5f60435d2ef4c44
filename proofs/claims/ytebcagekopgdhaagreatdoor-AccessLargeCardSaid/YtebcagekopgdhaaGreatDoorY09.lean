/- Part 9. -/
import Derived.Test.YtebcagekopgdhaaGreatDoorY08
set_option linter.unusedVariables false
set_option maxRecDepth 100000
set_option maxHeartbeats 40000000
namespace Go.Proofs.YtebcagekopgdhaaGreatDoor
open Go.RowKit Pl Go.Wk
attribute [local irreducible] WC WL QX WD WDB WP WN WG WH WM
variable {ds:List Bool}{B0 ac dc f i n:Nat}{w:World}
def chA(i:Nat): List Atm:=(List.range i).map λv=>⟨nz (chV v),2,chL [] 2⟩
theorem Jwd(i:Nat): (chA i).length=i:=by simp [chA]
theorem Qsj(i:Nat): chA (i+1)=chA i++[⟨nz (chV i),2,chL [] 2⟩]:=by simp [chA,List.range_succ]
theorem Jyb(i:Nat): nz (chV i)=[(i:Int),(i:Int)+1]:=by simp [nz,chV]
theorem Qsf(hi:i<64): (chL [] 2).take (i+1)=(chL [] 2).take i++[nR ((i:Int) / 8) ((i:Int) % 8)]:=by
 have o:i<(chL [] 2).length:=by rw [Ur];exact hi
 rw [Qy [] o];congr 2
 have C:=Qxn (ds:=[]) (n:=2) (k:=i) hi;have u:(chL [] 2).getD i []=Vd [] 2 i:=by rw [List.getD,C];rfl
 rw [u];have J:(dgt [] 2 i 0:Int)=(i:Int) / 8:=by
  have:dgt [] 2 i 0=i / 8:=by
   show i / 8^1 % 8=i / 8;omega
  rw [this];omega
 have G:(dgt [] 2 i 1:Int)=(i:Int) % 8:=by
  have:dgt [] 2 i 1=i % 8:=by
   show i / 8^0 % 8=i % 8;omega
  rw [this];omega
 show [nV (dgt [] 2 i 0:Int),nV (dgt [] 2 i 1:Int)]=_;rw [J,G];rfl
theorem Qsg: ∀ r∈chL [] 2,r.length=2/\r.all Qa=true:=λr G=>by
 obtain ⟨O,J⟩:=chL_mem.1 G;refine ⟨O,List.all_eq_true.2 λu C=>?_⟩;obtain ⟨i,hi,e⟩:=List.getElem_of_mem C;obtain ⟨q,U,o⟩:=J i om;rw [Jp V0 _ hi,e]at o;rw [o];rfl
theorem Qtm(n f:Int)(A:Option Addr)(a a':Nat)(w:World): (Instr.build 92 #[(0,.int .i64 n),(1,.int .i64 f),(2,.slice A a a')]).run Tryz.prog w=.ok (.agg #[.int .i64 n,.int .i64 f,.slice A a a',.slice none 0 0,.slice none 0 0]) w:=kr
def IxS(x:Value)(n:Nat): Prop:=∃ XA xd YA yd ZA zd UA ud TA tn tc,x=.agg #[.slice XA n xd,.slice YA n yd,.slice ZA n zd,.slice UA n ud,.slice TA tn tc]
theorem IxV.shape{x:Value}{kf:Nat->Nat}{pf:Nat->Int}{BB:Nat->List BkT}{tot:Nat}(h:IxV w x f ds kf pf BB tot): IxS x f:=by
 obtain ⟨XA,G,YA,C,ZA,u,UA,J,tv,Z,U,rfl,_,_,_,_,_,_,o,_⟩:=h.ex;obtain ⟨TA,O,rfl,_⟩:=o;exact ⟨XA,G,YA,C,ZA,u,UA,J,TA,_,O,rfl⟩
def ChI(w:World)(x:Value)(n:Nat)(ds:List Bool): Prop:=∃ kf pf BB tot,IxA w x n ds kf pf BB tot (chL ds n)
theorem Qsh{DA AA:Option Addr}(hTB:TB B0 w)(hn:2<=n)(h32:n<=32)(hl:ds.length=n)(hD:BoolsV w (.slice DA n dc) ds)(hG:GV 3 AtG w (.slice AA (n-1) ac) (chA (n-1))):
  Ret Tryz.prog 47 [.agg #[.int .i64 (n:Int),.int .i64 (n:Int),.slice DA n dc,.slice none 0 0,.slice AA (n-1) ac]] w λu w'=>Ext w w'/\∃ x st,u=.tuple #[x,.int .i64 st,.int .i64 0]/\IxS x n /\
   Off (λk=>k<w.heap.size) w' λW=>(∃ B0,TB B0 W)->ChI W x n ds:=by
 obtain ⟨ts,A,cc,G,eA,a2,a4,Z,U⟩:=Jbf hG;injection eA with J e2 e3
 subst J;subst e3;have C:ts.length=n-1:=by rw [<-Jwd (n-1),G,List.length_map]
 have ht:∀ i,i<ts.length->(ts.getD i ta0).2=⟨nz (chV i),2,chL [] 2⟩:=λi hi=>by
  have h1:(ts.map (·.2)).getD i a0=(ts.getD i ta0).2:=by simp [List.getD,hi]
  have a1:i<n-1:=om
  rw [<-h1,<-G];simp [chA,List.getD,a1]
 obtain ⟨D,d',J,h1,h2,h3⟩:=hD;injection J with J e2' e3
 subst J;subst e3;have a3:BldV w (.agg #[.int .i64 (n:Int),.int .i64 (n:Int),.slice DA n dc,.slice none 0 0,.slice AA (n-1) ac]) n n ds [] ts:=by
  refine ⟨DA,dc,none,0,AA,ac,by rw [C];rfl,om,h3,Rd.nil,Nat.zero_le _,Z,a2,U⟩
 refine (Jtl hTB (Qxj hn h32 hl C ht) a3).mono ?_;rintro u w5 ⟨O,x,st,kf,pf,R,rfl,hE,o⟩;exact ⟨O,x,_,rfl,o.here.shape,o.imp λW hV hT=>⟨_,_,_,_,Qlr hT hn h32 hl C ht hE hV⟩⟩
set_option linter.constructorNameAsVariable false in
theorem Qsd(hTB:TB B0 w)(hn:2<=n)(h32:n<=32):
  Ret Tryz.prog 13 [.int .i64 (n:Int)] w λu w'=>Ext w w'/\∃ x,u=.tuple #[x,.bool true]/\ChI w' x n (List.replicate n false):=by
 refine Jz Tryz.func13 Tryz.ntmps13 rfl kr rfl ?_;refine ρ ?_;refine alc Kd ?_;intro w1 b2 br dm ca;refine ρ ?_;refine Ja (fun (i:Nat) (v:Value)=>[(0,.int .i64 (n:Int)),(2,.pointer (some ⟨b2,0,none⟩)),(4,v),(13,.int .i64 (i:Int))])
  (λi v w'=>i<=64/\Ext w1 w'/\OwnR w' w1.heap.size v ((chL [] 2).take i)) (λi _=>64-i) 0 (.slice none 0 0) sB ⟨om,Ext.refl _,OwnR.nil _ _⟩ ?_
 rintro i v w2 ⟨hi,ab,hO⟩;refine ρ ?_;refine ci (λhc=>?_) (λhc=>?_)
 .have li:i<64:=by have:=oT hc;omega
  clear hc;have dh:((chL [] 2).take i).length=i:=by rw [List.length_take,Ur];omega
  refine ρ ?_;refine wquo rfl rfl (by decide) rfl ?_;rw [Int.tdiv_eq_ediv_of_nonneg om,Yh om];refine ρ ?_;refine cl (Vj ((i:Int) / 8) _) ?_;rintro _ w3 ⟨rfl,cn⟩;refine ρ ?_;refine Go.Wk.rem (b:=8) (by decide) ?_;rw [Int.tmod_eq_emod_of_nonneg om];refine ρ ?_;refine cl (Vj ((i:Int) % 8) _) ?_;rintro _ w4 ⟨rfl,cm⟩;refine ρ ?_;refine bsl (Jjm _ _) ?_;intro w5 b5 ck dl cr;refine ρ ?_;refine bsl (λw=>Jwg (.slice (some ⟨b5,0,none⟩) 2 2) w _ _ _ rfl) ?_;intro w6 b6 bi dk cq;have au:=cn.trans cm;have aq:=(au.trans ck).trans bi;have d0:=hO.ext aq;have hr:RowX w6 (own w1.heap.size v) (.slice (some ⟨b5,0,none⟩) 2 2) (nR ((i:Int) / 8) ((i:Int) % 8)):=by
   refine ⟨_,_,rfl,Nat.le_refl _,(by show 2<=1100000;decide),(cr.ext bi).rd rfl,λ_ ad e hn=>?_⟩;injection e with e
   subst e;have h1:=au.size;have h2:=ab.size;rcases hn with hn|hn
   .have hn:b5<w1.heap.size:=hn;omega
   .have hn:=hn;have:=(hO.lt b5 hn).2;omega
  refine ρ ?_;refine appR (a:=w1) (ab.trans aq) ER d0 cq hr om ?_;intro v7 w7 c7 cj di;rw [<-Qsf li]at c7;refine ρ ?_;exact Jl (i+1) v7 sO ⟨om,cj,c7⟩ om
 have c2:i=64:=by have:=oF hc;omega
 clear hc;subst c2;have d4:(chL [] 2).take 64=chL [] 2:=List.take_of_length_le (by rw [Ur];decide);rw [d4]at hO;have bb:=hO.rows (by rw [Ur];decide);obtain ⟨VA,vc,rfl⟩:=hO.form;have ap:=br.trans ab;refine ρ ?_;refine cl (Jvl (ar:=2) bb) ?_;rintro u w8 ⟨am,rv,e,rfl,⟨z,B,mm,d,rfl⟩,cy,bs⟩;obtain rfl:e=0:=cy (by decide) Qsg (by rw [Ur];decide);obtain ⟨_,_,ms,c5,dg,d6,a6⟩:=bs rfl;have a6:=a6 (.inl (by rw [Ur];decide));obtain rfl:ms=chL [] 2:=Im a6.1 Jgv a6.2;refine ρ ?_;refine alc Ux ?_;intro w9 b9 ch cz d2;refine ρ ?_;refine stb (cs':=[.int .i64 z,.slice B mm d]) d2 ?_ (Vp (z:=z) (A:=B) (n:=mm) (c:=d));intro cd b7 da bq;have J:Ext w8 cd:=bq w8 ch cz;have c6:Off (λk=>w8.heap.size<=k) w8 λu=>RelV u (.agg #[.int .i64 z,.slice B mm d]) 2 (chL [] 2):=c5.mono λk G h=>by omega
 obtain ⟨ce,bf,_⟩:=id c6.here;injection bf with bf
 obtain ⟨rfl,rfl⟩:z=2/\ce=.slice B mm d:=by
  simpa [eq_comm] using bf
 refine ρ ?_;refine mkn EB n om (by unfold maxLen;omega) ?_;intro b8 DA O bv dj;have e:(madeCells (Value.bool false).cells (n*1)).toList=List.replicate n (Value.bool false):=by rw [Nat.mul_one];exact Yf _ _
 rw [e]at bv;refine ρ ?_;refine bld (Qtm _ _ _ _ _ _) ?_;refine ρ ?_;refine alc Jjv ?_;intro df o bp ae cb;refine ρ ?_;refine stW cb ?_;intro a3 ah d9 bo;have Z:Ext b8 a3:=bo b8 bp ae;have a4:=(J.trans O).trans Z;have cg:=(ap.trans am).trans a4;have d3:=(b7.ext O).ext Z;have bc:¬ b9=o:=λe=>by have:=b7.lt;have:=O.size;omega
 refine ρ ?_;rw [show ((n:Int)-1)=((n-1:Nat):Int) by omega];refine Ja (fun (i:Nat) (av:Value)=>[(2,.pointer (some ⟨b2,0,none⟩)),(6,.pointer (some ⟨b9,0,none⟩)),(7,.int .i64 0),(8,.pointer (some ⟨o,0,none⟩)),(38,.int .i64 ((n-1:Nat):Int)),(39,.int .i64 (i:Int))])
  (λi av w'=>i<=n-1/\GrN (λk=>k=o) a3 w'/\Blk w' o 92 [.int .i64 (n:Int),.int .i64 (n:Int),.slice DA n n,.slice none 0 0,av]/\OwnM 99 3 AtG (λk=>k=o) w' a3.heap.size av (chA i)) (λi _=>n-1-i) 0 (.slice none 0 0) sB
  ⟨Nat.zero_le _,GrN.refl _ _,ah,OwnM.nil _ _⟩ ?_
 rintro i av a9 ⟨hi,a1,a2,a7⟩;have be:=Jc d3 a1 bc;have a5:Ext b8 a9:=a1.old Z λk G=>by rw [G];exact ae
 refine ρ ?_;refine ci (λhc=>?_) (λhc=>?_)
 .have li:i<n-1:=by have:=oT hc;omega
  clear hc;refine ρ ?_;refine ld (a2.at (i:=4) rfl) ?_;refine ρ ?_;refine bsl (bs2I _ _) ?_;intro de ao ay dc c1;refine ρ ?_;refine lds (cs:=[.int .i64 2,.slice B mm d]) (λj u hu=>(be.ext ay).at hu) ?_;refine ρ ?_;refine bld (Jhb _ _ _ _ _ _ _ _) ?_;refine ρ ?_;refine bsl (Jbb _ _ _ _ _ _ _ _ _ _ rfl rfl rfl) ?_;intro cc dq ax db c0;have C:=ay.trans ax;obtain ⟨OA,oc,eo,_,an⟩:=a7.form;have hΦ:Off (λk=>k=o∨av.ownBlock=some k) cc (λu=>AtG u [.slice (some ⟨ao,0,none⟩) 2 2,.int .i64 2,.slice B mm d] ⟨nz (chV i),2,chL [] 2⟩):=by
   intro W hW;have bd:∀ k,(k=o∨av.ownBlock=some k)->w8.heap.size<=k/\k<a9.heap.size:=λk G=>by
    rcases G with rfl|G
    .exact ⟨nL (J.trans O).size ae,a2.lt⟩
    .have:=an k G;exact ⟨nL a4.size this.1,this.2⟩
   have hg:GrN (λk=>w8.heap.size<=k) w8 W:=((GrN.ext a4).trans ((a1.mono λk _ G=>(by rw [G];exact (bd o (.inl rfl)).1:w8.heap.size<=k)).trans (GrN.ext C))).trans (hW.mono λk _ G=>(bd k G).1);obtain ⟨rv,er,hr⟩:=c6 W hg;injection er with er
   obtain rfl:rv=.slice B mm d:=by simpa [eq_comm] using er
   refine ⟨(.slice (some ⟨ao,0,none⟩) 2 2,.int .i64 2,.slice B mm d),rfl,⟨some ⟨ao,0,none⟩,2,by rw [Jyb];rfl,by rw [Jyb];exact Nat.le_refl _,by rw [Jyb];(show 2<=1100000);decide,?_⟩,rfl,hr⟩;rw [Jyb];exact (Jc (c1.ext ax) hW λG=>by have:=(bd ao G).2;omega).rd rfl
  refine ρ ?_;refine apM EA (Φ:=AtG) (a7.ext C) c0 rfl (Ge rfl) hΦ (by rw [Jwd];omega) om (nL a1.size C.size) ?_;intro ai a8 af b1 d7;rw [<-Qsj]at af;have ag:Blk a8 o 92 [.int .i64 (n:Int),.int .i64 (n:Int),.slice DA n n,.slice none 0 0,av]:=Jc (a2.ext C) (GrN.by b1 λk G=>G) λG=>by have:=(an o G).1;have:=ah.lt;omega
  obtain ⟨OB,ob,d5,_,bt⟩:=af.form;refine ρ ?_;refine sto (ag.at (i:=4) rfl) (ag.frozen 4) ?_ (hv:=by rw [d5];rfl);have ac:GrN (λk=>k=o) a8 (a8.setCell ((⟨o,0,none⟩:Addr).add 4) ai):=GrN.set _ rfl;have b4:Blk (a8.setCell ((⟨o,0,none⟩:Addr).add 4) ai) o 92 [.int .i64 (n:Int),.int .i64 (n:Int),.slice DA n n,.slice none 0 0,ai]:=ag.set 4 _;have b3:=af.gr ac λg eg e=>by have:=(bt g eg).1;have:=ah.lt;omega
  generalize (a8.setCell ((⟨o,0,none⟩:Addr).add 4) ai)=w18 at ac b4 b3
  have cw:GrN (λk=>k=o) a3 w18:=by
   have h1:GrN (λk=>k=o∨a3.heap.size<=k) a3 w18:=(((a1.mono λk _ h=>(.inl h:k=o∨a3.heap.size<=k)).trans (GrN.ext C)).trans (GrN.by b1 λk G=>.inr (an k G).1)).trans (ac.mono λk _ h=>.inl h);exact h1.mono λk G h=>h.elim id λh'=>by omega
  refine ρ ?_;exact Jl (i+1) ai sO ⟨om,cw,b4,b3⟩ om
 have cv:i=n-1:=by have:=oF hc;omega
 clear hc;subst cv;obtain ⟨OA,oc,rfl,co,an⟩:=a7.form;have hG:=a7.gv (by rw [Jwd];omega);rw [Jwd]at hG co;have d1:BoolsV a9 (.slice DA n n) (List.replicate n false):=by
  refine ⟨DA,n,by rw [List.length_replicate],by rw [List.length_replicate];exact Nat.le_refl _,by rw [List.length_replicate];omega,?_⟩;have:=(Rd.own bv).ext a5;simpa [RdB] using this
 have aa:Ext w a9:=((ap.trans am).trans (J.trans O)).trans a5;rw [Jwd]at a2;refine ρ ?_;refine ldW a2 ?_;refine ρ ?_;refine cl (Qsh (hTB.ext aa) hn h32 (by simp) d1 hG) ?_;rintro u bg ⟨aw,x,st,rfl,⟨XA,xd,YA,yd,ZA,zd,UA,ud,TA,tn,tc,rfl⟩,bu⟩;refine ρ ?_;refine alc Kd ?_;intro dd dn bn c4 bz;refine ρ ?_;refine stW bz ?_;intro ak bw d8 bm;have U:Ext bg ak:=bm bg bn c4;refine ρ ?_;refine ldW bw ?_;refine ρ ?_;have ba:=(aa.trans aw).trans U;have c8:Blk ak b2 31 [.slice none 0 0,.slice none 0 0,.slice none 0 0,.slice none 0 0,.slice none 0 0]:=((((ca.ext ab).ext am).ext (J.trans O)).ext a5).ext (aw.trans U);refine stW c8 ?_;intro aj c9 c3 bj;have bh:Ext w aj:=bj w ba (by have:=br.size;omega);have cx:GrN (λk=>k<a9.heap.size) ak aj:=(GrN.by c3 λk G=>by injection G with G;exact G.symm:GrN (λk=>k=b2) ak aj).mono λk _ G=>by rw [G];exact nM (((ca.ext ab).ext am).ext (J.trans O)).lt a5.size
 refine ρ ?_;exact Zf c9 ⟨bh,_,rfl,(bu.ext U) aj cx ⟨B0,hTB.ext bh⟩⟩
end Go.Proofs.YtebcagekopgdhaaGreatDoor
namespace Go.Wk
open Go.RowKit
section
variable {N:Nat->Prop} {P:Program} {n:Nat} {al:AL} {w:World} {Q:Exit->Act->World->Prop} {ops:Array Oper} {drest:List (Nat×Oper)} {d ty:Nat} {pos:String} {aft:Array Edge}
theorem nneq{x y:Operand}{t t2:TypeId}{xs ys:Array Value}{v:Value}(hg:P.eqGuardType P.depth t=false)(hb:∀ w:World,(binOp .neq t (.agg xs) (.agg ys)).run P w=.ok v w)(kk:WN N P n ops Q drest ((d,v)::al) w)(hx:ev al x=some (.agg xs):=by rfl)(hy:ev al y=some (.agg ys):=by rfl)(hd:Nat.blt d n=true:=by rfl): WN N P n ops Q ((0,⟨some d,.binOp .neq t x y t2,ty,pos,aft,none⟩)::drest) al w :=
 ny_ (λw' _ a o=>by
  simp only [execOp,o.ev hx,o.ev hy,Sem.run_bind,run_eqGuard_agg w' _ _ _ _ _ _ hg,Result.andThen_ok,hb w'];rfl) hd kk
end
end Go.Wk
namespace Go.Proofs.YtebcagekopgdhaaGreatDoor
open Go.RowKit Pl Go.Wk
attribute [local irreducible] WC WL QX WD WDB WP WN WG WH WM
variable {B0 K Qn i k m n:Nat}{w:World}
theorem neV(a b:V)(w:World): (binOp .neq 47 a.val b.val).run Tryz.prog w=.ok (.bool (!eqv a b)) w:=by
 have h:=eqV a b w;rw [V.val,V.val,run_eql_struct]at h;rw [V.val,V.val,run_neq_struct];cases hr:(Op.equalIn 10000 47 (.agg #[.int .i64 a.kind,.int .i64 a.num,.string a.str]) (.agg #[.int .i64 b.kind,.int .i64 b.num,.string b.str])).run Tryz.prog w with
 | ok x w'=>
  rw [hr]at h;simp only [Result.andThen_ok,Result.ok.injEq,Value.bool.injEq]at h;simp only [Result.andThen_ok,h.1,h.2]
 | _=>rw [hr]at h;cases h
def dgC(k m:Nat): List Value:=(List.range m).map λi=>.int .i64 ((k / 8^(m-1-i) % 8:Nat):Int)
theorem Qjz(hk:k<18446744073709551616)(hm:m<=20):
  Ret Tryz.prog 21 [.int .u64 (k:Int),.int .i64 (m:Int)] w λu w'=>∃ A,u=.slice A m m/\w'.ownsRow w.heap.size 3 1 u m (dgC k m)/\Ext w w':=by
 refine Jz Tryz.func21 Tryz.ntmps21 rfl kr rfl ?_;refine ρ ?_;refine mkn EI m om (by unfold maxLen;omega) ?_;intro w1 A a1 O a4;have e0:(madeCells (Value.int .i64 0).cells (m*1)).toList=List.replicate m (.int .i64 0):=by rw [Nat.mul_one];exact Yf _ _
 rw [e0]at O;refine ρ ?_;refine Ja (fun (t:Nat) (_:List Value)=>[(0,.int .u64 ((k / 8^t:Nat):Int)),(5,.slice A m m),(6,.int .i64 ((m:Int)-1-(t:Int)))])
  (λt C w'=>t<=m/\C.length=m/\(∀ j,j<m->m-t<=j->C[j]?=some (.int .i64 ((k / 8^(m-1-j) % 8:Nat):Int)))/\w'.ownsRow w.heap.size 3 1 (.slice A m m) m C/\Ext w w') (λt _=>m-t) 0 (List.replicate m (.int .i64 0)) ?_
  ⟨Nat.zero_le _,by simp,λj h1 h2=>om,O,a1⟩ ?_
 .rw [Nat.pow_zero,Nat.div_one];exact sO
 rintro t C w2 ⟨ht,Z,G,o,J⟩;refine ρ ?_;refine ci (λU=>?_) (λU=>?_)
 .have lt:t<m:=by have:=oT U;omega
  clear U;have a3:k / 8^t<=k:=Nat.div_le_self _ _;refine ρ ?_;refine wrem rfl rfl (by decide) rfl ?_;rw [show ((k / 8^t:Nat):Int).tmod 8=((k / 8^t % 8:Nat):Int) from rfl];have h8:k / 8^t % 8<8:=Nat.mod_lt _ (by decide);refine ρ ?_;rw [Yh (z:=((k / 8^t % 8:Nat):Int)) om];obtain ⟨s1,s2,s3,s4,s5⟩:=Zv o (q:=m-1-t) om (.int .i64 ((k / 8^t % 8:Nat):Int));have hv:C[m-1-t]?=some (C.getD (m-1-t) (.int .i64 0)):=by simp [List.getD,show m-1-t<C.length by omega]
  refine ix (m-1-t) (Rd.own o) om ?_;refine ρ ?_;refine sto (s1.trans hv) s2 ?_;refine ρ ?_;refine wquo rfl rfl (by decide) rfl ?_;have e1:IntKind.u64.wrap (((k / 8^t:Nat):Int).tdiv 8)=((k / 8^(t+1):Nat):Int):=by
   rw [show ((k / 8^t:Nat):Int).tdiv 8=((k / 8^t / 8:Nat):Int) from rfl,Nat.div_div_eq_div_mul,<-Nat.pow_succ];have hq:k / 8^(t+1)<=k:=Nat.div_le_self _ _;generalize k / 8^(t+1)=q at hq ⊢
   exact Uv om
  rw [e1];refine ρ ?_;refine Jl (t+1) (C.set (m-1-t) (.int .i64 ((k / 8^t % 8:Nat):Int))) sO ⟨om,by simp [Z],λj h1 h2=>?_,s3,Qb J s5 λg hg=>?_⟩ om
  .by_cases ej:m-1-t=j
   .subst ej;rw [List.getElem?_set_self om,show m-1-(m-1-t)=t by omega]
   .rw [List.getElem?_set_ne ej];exact G j h1 om
  .obtain ⟨_,_,_,_,hf⟩:=Jv o;exact (hf g hg).1
 .have a2:t=m:=by have:=oF U;omega
  clear U;subst a2;have e:C=dgC k t:=by
   refine List.ext_getElem? λj=>?_;by_cases hj:j<t
   .rw [G j hj om];simp [dgC,hj]
   .rw [List.getElem?_eq_none om,List.getElem?_eq_none (by simp [dgC];omega)]
  rw [e]at o;refine ρ ?_;exact Jj ⟨A,rfl,o,J⟩
theorem Qcv: (List.replicate n false).getD i false=false:=by
 simp only [List.getD,List.getElem?_replicate];split<;>rfl
theorem Qvv(hK:K<8^20)(hi:i<26): ((dgC Qn 6)++dgC K 20)[25-i]?=some (.int .i64 (((8^20*Qn+K) / 8^i % 8:Nat):Int)):=by
 rcases Nat.lt_or_ge i 20 with h|h
 .rw [List.getElem?_append_right (by simp [dgC];omega)];have e:25-i-(dgC Qn 6).length=19-i:=by simp [dgC];omega
  rw [e];have o:(8^20*Qn+K) / 8^i % 8=K / 8^(20-1-(19-i)) % 8:=by
   rw [show 20-1-(19-i)=i by omega];have u:8^20=8^i*(8*8^(19-i)):=by
    rw [Nat.mul_comm 8,<-Nat.pow_succ,<-Nat.pow_add];congr 1;omega
   rw [u,Nat.mul_assoc,Nat.add_comm,Nat.add_mul_div_left _ _ (Nat.pow_pos (by decide)),Nat.mul_assoc,Nat.add_mul_mod_self_left]
  rw [o];simp [dgC,show 19-i<20 by omega]
 .rw [List.getElem?_append_left (by simp [dgC];omega)];have o:(8^20*Qn+K) / 8^i % 8=Qn / 8^(6-1-(25-i)) % 8:=by
   rw [show 6-1-(25-i)=i-20 by omega];have:8^i=8^20*8^(i-20):=by rw [<-Nat.pow_add];congr 1;omega
   rw [this,<-Nat.div_div_eq_div_mul,show (8^20*Qn+K) / 8^20=Qn by omega]
  rw [o];simp [dgC,show 25-i<6 by omega]
theorem nb80(h:n<1208925819614629174706176): (Jq n).length<=1000:=(Nb.pow (k:=1) (by rw [Nat.pow_one];exact nL (Nat.le_of_lt h) (by decide)) om).len
set_option linter.constructorNameAsVariable false in
theorem Xqf{n k q:Int}(hTB:TB B0 w)(hn:0<=n/\n<=255)(hk:0<=k/\k<=18446744073709551615)(hq:0<=q/\q<=65535):
  Ret Tryz.prog 3 [.int .u8 n,.int .u64 k,.int .u16 q] w λu w'=>u=.bool true/\Ext w w':=by
 obtain ⟨m,hm,bo⟩:=Qyp (n:=25) hn.1 (by decide);rw [show ((25:Nat):Int)=25 from rfl]at hm;obtain ⟨Qn,rfl⟩:=Int.eq_ofNat_of_zero_le hq.1;obtain ⟨k0,rfl⟩:=Int.eq_ofNat_of_zero_le hk.1;obtain ⟨K,hK⟩:∃ K,K=k0 % 1152921504606846976:=⟨_,rfl⟩;have bn:K<1152921504606846976:=by rw [hK];exact Nat.mod_lt _ (by decide)
 have ao:bits .and .u64 (k0:Int) 1152921504606846975=(K:Int):=by
  have h1:=u64_and_nat k0 1152921504606846975 om (by decide);rw [show ((1152921504606846975:Nat):Int)=1152921504606846975 from rfl]at h1;rw [h1,hK];exact congrArg Int.ofNat (Nat.and_two_pow_sub_one_eq_mod k0 60)
 have au:K<8^20:=bn;refine Jz Tryz.func3 Tryz.ntmps3 rfl kr rfl ?_;refine ρ ?_;refine Go.Wk.rem (b:=25) (by decide) ?_;rw [hm];refine ρ ?_;rw [Yh (z:=(m:Int)) om];refine ρ ?_;obtain ⟨v,hv⟩:∃ v,v=m+2:=⟨_,rfl⟩;rw [show (2+(m:Int))=(v:Int) by omega,Yh (z:=(v:Int)) om];refine cl (Qsd (n:=v) hTB om om) ?_;rintro u w1 ⟨b7,x,rfl,kf,pf,BB,tot,a8⟩;obtain ⟨XA,xd,YA,yd,ZA,zd,UA,ud,tv,br,bq,rfl,_,_,_,_,_,_,b8,_⟩:=id a8.ix.ex;obtain ⟨TA,tc,rfl,_⟩:=id b8;refine ρ ?_;refine alc Kd ?_;intro w2 b2 b6 bi bd;refine ρ ?_;refine stW bd ?_;intro w3 ae bt b5;have G:Ext w1 w3:=b5 w1 b6 bi;have ai:=b7.trans G;have a7:=a8.ext G;refine ρ ?_;rw [ao,Uv (z:=(Qn:Int)) om];refine cl (Uf 1152921504606846976 (by decide) _) ?_;rintro o1 w4 ⟨bc,_,b4⟩;refine ρ ?_;refine cl (Uf Qn om _) ?_;rintro o2 w5 ⟨bb,_,am⟩;refine ρ ?_;refine cl (Jzz (bc.ext am) bb (nb80 (by decide)) (nb80 om)) ?_
 rintro o3 w6 ⟨ba,_,b3⟩;refine ρ ?_;refine cl (Uf K om _) ?_;rintro o4 w7 ⟨b9,_,ak⟩;refine ρ ?_;refine cl (Qhc (ba.ext ak) b9 (nb80 om) (nb80 om)) ?_;rintro o5 w8 ⟨a6,b1⟩;obtain ⟨T,hT⟩:∃ T,T=1152921504606846976*Qn+K:=⟨_,rfl⟩;rw [<-hT]at a6;have a3:=(((b4.trans am).trans b3).trans ak).trans b1;obtain ⟨OA,oc,rfl,_⟩:=id a6;refine ρ ?_;refine ldW (ae.ext a3) ?_;refine ρ ?_;refine cl (Qkc (a7.ext a3) a6) ?_;rintro u w9 ⟨ac,h9⟩;have a9:tot=8^v:=by rw [a8.ip.len,Ur]
 have C:=a3.trans ac;have U:=ai.trans C;unfold AtR at h9;rcases Nat.lt_or_ge T (8^v) with hlt|hge
 rotate_left
 .rw [List.getElem?_eq_none (by rw [Ur];exact hge)]at h9;subst h9;refine ρ ?_;refine ldW (ae.ext C) ?_;refine ρ ?_;refine cl (Jfq (a7.ext C).ix a8.ip.nbT) ?_;rintro o6 ay ⟨ad,_,o⟩;refine ρ ?_;refine cl (Kn ((a6.ext ac).ext o) ad) ?_;rintro _ ah ⟨rfl,a2⟩;refine ρ ?_;refine ci (λJ=>?_) (λJ=>?_);rotate_left
  .exfalso
   have:=oF J;rw [a9]at this;unfold Yv at this;rw [if_neg om]at this;split at this<;>omega
  clear J;refine ρ ?_;refine cl (Qzz (hTB.ext ((U.trans o).trans a2))) ?_;rintro _ ax ⟨rfl,a5⟩;refine ρ ?_;exact Jj ⟨rfl,((U.trans o).trans a2).trans a5⟩
 rw [Qxn hlt]at h9;obtain ⟨A1,c1,st,rfl,bm,bv,bs,_⟩:=h9;have ar:Rd w9 3 A1 v (Jd (Vd (List.replicate v false) v T)):=by
  have:=bm;unfold RdR at this;rw [Gc]at this;exact this
 rw [Gc];refine ρ ?_;refine ldW (ae.ext C) ?_;refine ρ ?_;refine cl (Jfq (a7.ext C).ix a8.ip.nbT) ?_;rintro o6 ay ⟨ad,_,o⟩;refine ρ ?_;refine cl (Kn ((a6.ext ac).ext o) ad) ?_;rintro _ ah ⟨rfl,a2⟩;refine ρ ?_;refine ci (λJ=>?_) (λJ=>?_)
 .exfalso
  have:=oT J;rw [a9]at this;unfold Yv at this;rw [if_pos om]at this;omega
 clear J;have ab:=o.trans a2;refine ρ ?_;refine cl (Qjz (k:=Qn) (m:=6) om (by decide)) ?_;rintro _ ax ⟨D1,rfl,bh,a5⟩;refine ρ ?_;refine cl (Qjz (k:=K) (m:=20) om (by decide)) ?_;rintro _ bp ⟨D2,rfl,bg,G⟩;refine ρ ?_;refine apo (a:=ah) (a5.trans G) EI (Jk bh G) (Rd.own bg) (λu hu=>?_) (by unfold maxLen;omega) om ?_
 .simp only [dgC,List.mem_map]at hu;obtain ⟨_,_,rfl⟩:=hu;rfl
 intro dv aw aa an _ _;obtain ⟨DA,dc,rfl,bu,_⟩:=Jv aa;have af:=Rd.own aa;have O:=ab.trans an;refine ρ ?_;refine ci (λJ=>?_) (λJ=>?_)
 .exfalso
  simp at J
 clear J;refine ρ ?_;refine Qd (fun (i:Nat)=>[(7,.int .i64 (v:Int)),(12,.slice A1 v c1),(15,.slice DA (6+20) dc),(69,.int .i64 (v:Int)),(70,.int .i64 (i:Int))]) (λi w'=>i<=v/\Ext aw w') (λi=>v-i) 0 sB ⟨Nat.zero_le _,Ext.refl _⟩ ?_;rintro i ag ⟨hi,a1⟩;refine ρ ?_;refine ci (λJ=>?_) (λJ=>?_)
 .have li:i<v:=by have:=oT J;omega
  clear J;have aj:Ext ag ag.drew:=(Ext.refl _).drew;have a4:=a1.trans aj;have ap:=ar.ext (O.trans a4);have aq:=af.ext a4;have be:v-1-i<(Vd (List.replicate v false) v T).length:=by rw [Gc];omega
  have bj:(Vd (List.replicate v false) v T).getD (v-1-i) V0=nV ((T / 8^i % 8:Nat):Int):=by
   rw [Jkt om];unfold dgt;rw [Qcv,show v-1-(v-1-i)=i by omega];rfl
  have bf:(dgC Qn 6++dgC K 20)[25-i]?=some (.int .i64 ((T / 8^i % 8:Nat):Int)):=by
   rw [Qvv au om,hT]
  refine ρ ?_;refine drN (λ_=>False) 14 [(0,0),(0,1),(0,2),(0,3),(0,4),(0,5),(0,6),(0,7),(0,8),(0,9),(0,10),(0,11),(1,12),(0,13)] kr ?_;refine ρn ?_;refine Vr 3 (v-1-i) ap om ?_;refine ρn ?_;refine Xw (cs:=(nV ((T / 8^i % 8:Nat):Int)).cells) (λw' hg j u hu=>?_) ?_
  .rw [<-bj]at hu;exact RdR.cell (r:=Vd (List.replicate v false) v T) (by unfold RdR;rw [Gc];exact ap.ext hg.toExt) be hu
  refine ρn ?_;refine nix (25-i) aq om ?_;refine ρn ?_;refine nld (Jm (aq.cell bf) (λe=>e)) ?_;refine ρn ?_;refine nop ?_;refine cl (Vj _ _) ?_;rintro _ av ⟨rfl,Z⟩;refine ρ ?_;refine Js (GrN.ext Z) ?_;refine ρn ?_;refine nneq kr (neV (nV ((T / 8^i % 8:Nat):Int)) (nV ((T / 8^i % 8:Nat):Int))) ?_;rw [(Jgh _ _).2 rfl];refine ρn ?_;refine ρ ?_;exact Qw (i+1) sO ⟨om,(a1.trans aj).trans Z⟩ om
 .clear J;refine ρ ?_;refine cl (Qzz (hTB.ext ((U.trans O).trans a1))) ?_;rintro _ av ⟨rfl,Z⟩;refine ρ ?_;exact Jj ⟨rfl,((U.trans O).trans a1).trans Z⟩
end Go.Proofs.YtebcagekopgdhaaGreatDoor
