/- Part 9. -/
import Derived.Test.YtbcdghbonlifdaaGreatDoorZ08
import Derived.OpenShut
set_option linter.unusedVariables false
set_option maxRecDepth 100000
set_option maxHeartbeats 40000000
namespace Go.Proofs.YtbcdghbonlifdaaGreatDoor
open Go.RowKit Pl Go.Wk
attribute [local irreducible] WC WL QX WD WDB WP WN WG WH WM
variable {gs:List (List CsA)}{ds:List Bool}{B0 c f s:Nat}{xc:Nat->List Value}{A:Option Addr}{α β:Type}{v x:Value}{W w:World}
structure IxD where
 s: Nat
 kf:Nat->Nat
 pf:Nat->Int
 BB:Nat->List BkT
 tot:Nat
def IxG(f:Nat)(ds:List Bool)(gs:List (List CsA))(w:World)(cs:List Value)(d:IxD): Prop:=IxA w (.agg cs.toArray) f ds d.kf d.pf d.BB d.tot (Qh (pick gs d.s).flatten)
theorem IxA.on{kf:Nat->Nat}{pf:Nat->Int}{BB:Nat->List BkT}{tot:Nat}{L:List Row}(h:IxA w x f ds kf pf BB tot L)(hv:IxV W x f ds kf pf BB tot)(tb:∃ B0,TB B0 W): IxA W x f ds kf pf BB tot L:=⟨tb,hv,h.ip,h.ho,h.hb⟩
theorem Jmt{ms:List CsA}(hTB:TB B0 w)(h:∀ p∈ms,CsM f ds p)(hds:ds.length=f)(hne:ms≠[])(h4:ms.length<=4)(hv:InV w v (Yb f ds (Qa f (Qv ms)))):
  Ret Tryz.prog 29 [v] w λu w'=>Ext w w'/\∃(x:Value) (st:Int) (kf:Nat->Nat) (pf:Nat->Int) (BB:Nat->List BkT) (tot:Nat),u=.tuple #[x,.int .i64 st,.int .i64 0]/\IxA w' x f ds kf pf BB tot (Qh ms)/\Off (λk=>k<w.heap.size) w' λW=>IxV W x f ds kf pf BB tot:=by
 obtain⟨ts,C,hB⟩:=Xqf hv hds;have G:Qv ms≠[]:=λe=>hne (List.map_eq_nil_iff.1 e);have Z:(Qv ms).length<=4:=by simpa [Qv] using h4
 have hI:=jBldI (ds:=ds) (ts:=ts) (Jzz h) hds G Z C;have D:ts.length=(jAs f 0 (Qv ms)).length:=by have:=congrArg List.length C;grind [Qa]
 refine(Xjl hTB hI hB).mono ?_;rintro u w' ⟨hx,x,st,kf,pf,R,rfl,hE,o⟩;obtain⟨hL,hl,O⟩:=Xkr h hne D;refine⟨hx,x,st,kf,pf,_,_,rfl,Xjn ⟨B0,hTB.ext hx⟩ hI (λi hi=>?_) hE o.here hL O om,λW hW=>(o W hW).congr λv hv=>by grind [BBx]⟩;rw[C];have J:i<(jAs f 0 (Qv ms)).length:=D ▸ hi;show((jAs f 0 (Qv ms)).map toAtm |>.getD i a0).rows=_;simp[rwL,List.getD,J,toAtm]
theorem Jlz(d:α)(ps:List (List Value×α)): Ju ps=Qk ps.length λi=>(ps.getD i ([],d)).1:=by
 have key:∀ n,n<=ps.length->Ju (ps.take n)=Qk n λi=>(ps.getD i ([],d)).1:=by
  intro n;induction n with
  | zero=>intro _;rfl
  | succ n ih=>
   grind [Qc,Kn,Ju]
 grind
theorem InsM.of{ps:List (List Value×UMem)}(hr:Rd w 5 A ps.length (Ju ps))(he:∀ p∈ps,InC w (Yb f ds p.2) p.1): InsM w A f ds (ps.map (·.2)) λi=>(ps.getD i ([],um0)).1:=by
 refine⟨by rw[List.length_map,<-Jlz um0];exact hr,λi hi=>?_⟩;grind
theorem InsM.its{Ms:List UMem}(h:InsM w A f ds Ms xc): ∃ ps:List (List Value×UMem),ps.map (·.2)=Ms/\ps.length=Ms.length/\(∀ i,i<Ms.length->ps.getD i ([],um0)=(xc i,Ms.getD i um0))/\∀ p∈ps,InC w (Yb f ds p.2) p.1:=by
 refine⟨(List.range Ms.length).map λi=>(xc i,Ms.getD i um0),?_,by simp,λi hi=>by simp[List.getD,hi],λp hp=>?_⟩
 .rw[List.map_map];refine List.ext_getElem (by simp) λi u o=>?_;simp[List.getD,o]
 obtain⟨i,hi,rfl⟩:=List.mem_map.1 hp;exact h.el i (List.mem_range.1 hi)
theorem Qnw(g:α->β)(l:List α)(s i:Nat): Zt (l.map g) s i=(Zt l s i).map g:=by grind [Zt]
theorem Qqc(g:α->β)(l:List α)(s:Nat): pick (l.map g) s=(pick l s).map g:=by
 unfold pick;rw[List.length_map,Qnw]
theorem Qxz(hs:List (List CsA)): Qa f (hs.map λg=>Qa f (Qv g))=Qa f (Qv hs.flatten):=by
 have o:=Qzc (f:=f) (s:=0) (Gs:=hs.map Qv);have e:(hs.map Qv).map (Qa f)=hs.map λg=>Qa f (Qv g):=by rw[List.map_map];rfl
 have u:(hs.map Qv).flatten=Qv hs.flatten:=by unfold Qv;rw[List.map_flatten]
 grind [Qa]
theorem Jtg: ∀ s,s<8->∀ i,i<3->(bits .and .i64 (((s:Nat):Int).fdiv (2^min (((i:Nat):Int)).toNat IntKind.i64.bits)) 1 == 1)=s.testBit i:=by decide
def mxR: Nat->(Nat->Nat)->Nat
 | 0,_=>0
 | n+1,g=>max (mxR n g) (g n)
theorem Qxw{g:Nat->Nat}: ∀ {n i:Nat},i<n->g i<=mxR n g
 | n+1,i,h=>by
  rw[mxR];rcases Nat.lt_or_ge i n with h1|h1
  .have:=Qxw (g:=g) h1;omega
  repeat grind
theorem Qqv{g:Nat->Nat}{B:Nat}: ∀ {n:Nat},(∀ i,i<n->g i<=B)->mxR n g<=B
 | 0,_=>Nat.zero_le _
 | n+1,h=>by
  have h1:=Qqv (g:=g) (n:=n) λi hi=>h i om;grind [mxR]
theorem Jsg{g:Nat->Nat}{B:Nat}(h:∀ i,g i<=B): ∀ n,Qy n g<=n*B
 | 0=>Nat.zero_le _
 | n+1=>by
  have h1:=Jsg h n;grind [Qy,Nat.succ_mul]
def Xu: IxD:=⟨0,λ_=>0,λ_=>0,λ_=>[],0⟩
structure HsOk(hs:List (List CsA))(f:Nat)(ds:List Bool): Prop where
 nil:hs≠[]
 c3:hs.length<=3
 c4:hs.flatten.length<=4
 ne:∀ g∈hs,g≠[]
 ok:∀ g∈hs,∀ p∈g,CsM f ds p
theorem CsU.hs(h:CsU gs f ds): HsOk gs f ds:=⟨λe=>by have:=h.c1;grind,h.c3,h.c4,h.ne,h.ok⟩
theorem CsU.hp(h:CsU gs f ds)(h1:1<=s)(h2:s<2^gs.length): HsOk (pick gs s) f ds :=
 ⟨Qqb h1 h2,Nat.le_trans Qnv h.c3,h.p4,λg o=>h.ne g (pick_sub.subset o),λg o=>h.ok g (pick_sub.subset o)⟩
section
variable {hs:List (List CsA)} {f:Nat} {ds:List Bool} (h:HsOk hs f ds)
include h
theorem HsOk.fok: ∀ p∈hs.flatten,CsM f ds p:=λp hp=>by
 obtain⟨g,u,o⟩:=List.mem_flatten.1 hp;exact h.ok g u p o
theorem HsOk.fne: hs.flatten≠[]:=by
 obtain⟨g,o⟩:=List.exists_mem_of_ne_nil _ h.nil;obtain⟨p,hp⟩:=List.exists_mem_of_ne_nil _ (h.ne g o);exact List.ne_nil_of_mem (List.mem_flatten.2 ⟨g,o,hp⟩)
theorem HsOk.meet(hds:ds.length=f): (∀ M∈hs.map (λg=>Qa f (Qv g)),UMt f ds M)/\jN f 0 (hs.map λg=>Qa f (Qv g))<=32/\(jPm f 0 (hs.map λg=>Qa f (Qv g))).length<=1000/\(jAs f 0 (hs.map λg=>Qa f (Qv g))).length<=1000:=by
 have e:=Qxz (f:=f) hs;have O:jN f 0 (hs.map λg=>Qa f (Qv g))=jN f 0 (Qv hs.flatten):=congrArg UMem.N e;have J:jPm f 0 (hs.map λg=>Qa f (Qv g))=jPm f 0 (Qv hs.flatten):=congrArg UMem.perm e;have G:jAs f 0 (hs.map λg=>Qa f (Qv g))=jAs f 0 (Qv hs.flatten):=congrArg UMem.ats e;have o:=Jzz h.fok;have C:(Qv hs.flatten).length<=4:=by rw[Qv,List.length_map];exact h.c4
 have Z:=(Qvw o hds (λe=>h.fne (List.map_eq_nil_iff.1 e)) C).1;have ha:=Jwj (s:=0) o;have hp:=(Jlg (s:=0) o).1;refine⟨λM D=>?_,by rw[O];omega,by rw[J];omega,by rw[G];omega⟩;obtain⟨g,u,rfl⟩:=List.mem_map.1 D;refine Xjd (Jzz (h.ok g u)) hds (λe=>h.ne g u (List.map_eq_nil_iff.1 e)) ?_;have h1:=flat_len (List.singleton_sublist.2 u);grind [Qv,List.length_map]
theorem HsOk.meet_any(hds:ds.length=f)(hI:InsM w A f ds (hs.map λg=>Qa f (Qv g)) xc):
  Ret Tryz.prog 27 [.slice A hs.length c] w λu w'=>Ext w w'/\∃ cs,u=.tuple #[.agg cs.toArray,.int .i64 0]/\InC w' (Yb f ds (Qa f (Qv hs.flatten))) cs:=by
 obtain⟨G,D,C,o⟩:=h.meet hds;have:=Qfk (c:=c) hI G (λe=>h.nil (List.map_eq_nil_iff.1 e)) (by rw[List.length_map];exact h.c3) D C o;grind [List.length_map,Qxz]
end
theorem Jmx(n f:Int)(A B C:Option Addr)(a b c a' b' c':Nat)(w:World): (Instr.buildSlice 23 1 #[(0,.agg #[.int .i64 n,.int .i64 f,.slice A a a',.slice B b b',.slice C c c'])]).run Tryz.prog w=.ok (.slice (some ⟨w.heap.size,0,none⟩) 1 1) (w.alloc (.cells [Value.int .i64 n,.int .i64 f,.slice A a a',.slice B b b',.slice C c c'].toArray 42)):=kr
theorem bs1Ix(A B C D E:Option Addr)(a b c d e a' b' c' d' e':Nat)(w:World): (Instr.buildSlice 29 1 #[(0,.agg #[.slice A a a',.slice B b b',.slice C c c',.slice D d d',.slice E e e'])]).run Tryz.prog w=.ok (.slice (some ⟨w.heap.size,0,none⟩) 1 1) (w.alloc (.cells [Value.slice A a a',.slice B b b',.slice C c c',.slice D d d',.slice E e e'].toArray 77)):=kr
theorem Jrl(hTB:TB B0 w)(hC:CsU gs f ds)(hds:ds.length=f)(hI:InsM w A f ds (gs.map λg=>Qa f (Qv g)) xc):
  Ret Tryz.prog 12 [.slice A gs.length c] w λu w'=>Ext w w'/\∃(cs:List Value) (st:Int) (D:UD),u=.tuple #[.agg cs.toArray,.int .i64 st,.int .i64 0]/\UnV w' D cs/\D.k=gs.length/\D.f=f/\D.ds=ds/\D.U=Yt ds gs/\D.M=(λs=>Qh (pick gs s).flatten)/\D.Hm=mxR D.n (λi=>Qy D.f λv=>hmB (D.BB i v)):=by
 have dl:=hC.c1;have dk:=hC.c3;obtain⟨its,hits,cc,b1,cd⟩:=hI.its;rw[List.length_map]at cc b1;have bz:Rd w 5 A gs.length (Qk gs.length xc):=by have:=hI.rd;rwa [List.length_map]at this
 have bn:∀ {i},i<gs.length->∃ D Q T dc pc tc ts,InF w f ds ((gs.map λg=>Qa f (Qv g)).getD i um0) (xc i) D Q T dc pc tc ts:=λhi=>(hI.el _ (by rw[List.length_map];exact hi)).inF;have ay:∀ i,i<gs.length->(xc i).length=5:=λi hi=>by obtain⟨D,Q,T,dc,pc,tc,ts,h⟩:=bn hi;rw[h.e];rfl
 have bf:∀ {W:World} (hx:Ext w W) {i:Nat} (hi:i<gs.length) {j:Nat} {u:Value},(xc i)[j]?=some u->W.cell? ((adr A (i*5)).add j)=some u:=λhx i hi j u hu=>by
  have hj:j<5:=by
   rcases Nat.lt_or_ge j 5 with h'|h'
   .exact h'
   rw[List.getElem?_eq_none (by rw[ay i hi];omega)]at hu;cases hu
  rw[Qo];exact(bz.ext hx).cell (by rw[Vh ay hi hj];exact hu)
 have c5:IntKind.i64.wrap (1*2^min ((gs.length:Int)).toNat IntKind.i64.bits)=((2^gs.length:Nat):Int):=by
  have:gs.length=1∨gs.length=2∨gs.length=3:=om
  rcases this with h|h|h<;>rw[h]<;>rfl
 have ei:2^gs.length<=8:=Nat.pow_le_pow_right (show 0<2 by omega) dk;have ej:2<=2^gs.length:=Nat.pow_le_pow_right (show 0<2 by omega) dl;refine Jz Tryz.func12 Tryz.ntmps12 rfl kr rfl ?_;refine ρ ?_;refine alc Jzs ?_;intro w1 b2 b9 dq bl;refine ρ ?_;refine cl (hC.hs.meet_any hds (hI.ext b9)) ?_;rintro u w2 ⟨da,d5,rfl,aq⟩;obtain⟨_,_,_,_,_,_,_,hF⟩:=aq.inF;have bj:=hF.e;subst bj;refine ρ ?_;refine alc Yh ?_;intro w3 b5 d9 dn e0;refine ρ ?_;refine stW e0 ?_;intro w4 eb en d8;have bp:Ext w2 w4:=d8 w2 d9 dn;have ac:=da.trans bp;refine ρ ?_;refine bsl (λw=>Qyn w) ?_;intro w5 b7 bo dm dz;refine ρ ?_;have du:OwnM 77 5 (IxG f ds gs) (λk=>k=b2) w5 w4.heap.size (.slice (some ⟨b7,0,none⟩) 0 0) []:=⟨[],rfl,dz.own (n:=0) dm rfl (Nat.zero_le _),λp hp=>by cases hp⟩;refine Xm (fun (s:Nat) (xv:Value) (st:Int)=>[(0,.slice A gs.length c),(2,.pointer (some ⟨b2,0,none⟩)),(7,xv),(8,.int .i64 st),(9,.int .i64 (s:Int))])
  (λs xv st w'=>1<=s/\s<=2^gs.length/\Ext w1 w'/\w4.heap.size<=w'.heap.size/\∃ Xd:List IxD,OwnM 77 5 (IxG f ds gs) (λk=>k=b2) w' w4.heap.size xv Xd/\Xd.length=s-1/\∀ i,i<s-1->(Xd.getD i Xu).s=i+1) (λs _ _=>2^gs.length-s) 1 (.slice (some ⟨b7,0,none⟩) 0 0) 0 sB
  ⟨nR _,om,ac.trans bo,bo.size,[],du,rfl,λi hi=>absurd hi (Nat.not_lt_zero i)⟩ ?_
 rintro s xv st w6 ⟨de,eg,J,aw,Xd,hO,ag,bg⟩;have a7:=b9.trans J;refine ρ ?_;refine Jzw rfl rfl om rfl ?_;refine Go.Wk.kv 32 (congrArg (Value.int .i64) c5) ?_;refine ρ ?_;refine ci (λh=>?_) (λh=>?_)
 .have ls:s<2^gs.length:=by have:=oT h;omega
  clear h;refine ρ ?_;refine bsl (λw=>Xwn w) ?_;intro w7 e2 aa cm aj;refine ρ ?_;refine Jt (fun (i:Nat) (mv:Value)=>[(0,.slice A gs.length c),(2,.pointer (some ⟨b2,0,none⟩)),(7,xv),(8,.int .i64 st),(9,.int .i64 (s:Int)),(10,mv),(37,.slice A gs.length c),(38,.int .i64 (gs.length:Int)),(39,.int .i64 (i:Int))])
   (λi mv w'=>i<=gs.length/\Ext w6 w'/\w'.ownsRow w6.heap.size 42 5 mv (Zt its s i).length (Ju (Zt its s i))) (λi _=>gs.length-i) 0 (.slice (some ⟨e2,0,none⟩) 0 0) sB
   ⟨Nat.zero_le _,aa,aj.own (n:=0) cm rfl (Nat.zero_le _)⟩ ?_
  rintro i mv w8 ⟨hi,ab,a1⟩;have ad:=a7.trans ab;refine ρ ?_;refine ci (λh=>?_) (λh=>?_)
  .have li:i<gs.length:=by have:=oT h;omega
   clear h;obtain⟨D,Q,T,dc,pc,tc,ts,dw⟩:=bn li;have bc:=dw.e;refine ρ ?_;refine ixq 5 i (bz.ext ad) li ?_;refine ρ ?_;refine lds (cs:=[.int .i64 (((gs.map λg=>Qa f (Qv g)).getD i um0).N:Int),.int .i64 (f:Int),.slice D ds.length dc,.slice Q ((gs.map λg=>Qa f (Qv g)).getD i um0).perm.length pc,.slice T ((gs.map λg=>Qa f (Qv g)).getD i um0).ats.length tc]) (λj u hu=>bf ad li (by rw[bc];exact hu)) ?_;refine ρ ?_;refine alc Yh ?_;intro w9 ew a9 ck cx;refine ρ ?_;refine stW cx ?_;intro C av af Z;have a3:Ext w8 C:=Z w8 a9 ck;refine ρ ?_;refine Ye rfl rfl om rfl ?_;refine ρ ?_;have G:=ab.trans a3;have b8:i<its.length:=om
   have dg:its[i]=(xc i,(gs.map λg=>Qa f (Qv g)).getD i um0):=by rw[<-b1 i li,Qz _ its b8]
   refine ci (λh=>?_) (λh=>?_)
   .have hb:s.testBit i=true:=(Jtg s om i om).symm.trans h;clear h;refine ρ ?_;refine ldW av ?_;refine ρ ?_;refine bsl (Jmx _ _ _ _ _ _ _ _ _ _ _) ?_;intro ak ep O e9 cq;have eh:(Zt its s i).length<=3:=by
     have:=(Jhb (l:=its) (s:=s) i om).length_le;rw[List.length_take]at this;omega
    obtain⟨_,_,_,_,c9⟩:=Jy a1;refine ρ ?_;refine apb (m':=1) (news:=xc i) EInp (Jk (Jk a1 a3) O) (by rw[bc];exact cq.rd (n:=1) rfl) ?_ (by unfold maxLen;omega) om (G.trans O).size ?_
    .rw[bc];intro u hu;simp only[List.mem_cons,List.not_mem_nil,or_false]at hu;rcases hu with rfl|rfl|rfl|rfl|rfl<;>rfl
    intro d4 b6 ca ce _;refine ρ ?_;refine Jf (i+1) d4 sO ⟨li,Qg (G.trans O) ce (λg e=>(c9 g e).1),?_⟩ om;rw[Jgz b8,if_pos hb,dg,List.length_append];have e:Ju (Zt its s i++[(xc i,(gs.map λg=>Qa f (Qv g)).getD i um0)])=Ju (Zt its s i)++xc i:=by simp[Ju]
    rw[e];exact ca
   have hb:¬ s.testBit i=true:=λe=>by rw[(Jtg s om i om).symm.trans h]at *;cases e
   clear h;refine ρ ?_;refine Jf (i+1) mv sO ⟨li,G,?_⟩ om;rw[Jgz b8,if_neg hb];exact Jk a1 a3
  have dh:i=its.length:=by have:=oF h;omega
  clear h;rw[dh]at a1;have c6:(pick its s).map (·.2)=(pick gs s).map λg=>Qa f (Qv g):=by rw[<-Qqc,hits,Qqc]
  have c7:(pick its s).length=(pick gs s).length:=by have:=congrArg List.length c6;simpa using this
  change w8.ownsRow w6.heap.size 42 5 mv (pick its s).length (Ju (pick its s)) at a1
  rw[c7]at a1;obtain⟨MA,mc,rfl,ek,c9⟩:=Jy a1;have dv:InsM w8 MA f ds ((pick gs s).map λg=>Qa f (Qv g)) λi=>((pick its s).getD i ([],um0)).1:=by
   rw[<-c6];refine InsM.of (by rw[c7];exact Rd.own a1) λp hp=>(cd p (pick_sub.subset hp)).ext ad
  have bi:=hC.hp de ls;refine ρ ?_;refine cl (bi.meet_any hds dv) ?_;rintro u w9 ⟨a9,d5,rfl,aq⟩;obtain⟨D,Q,T,dc,pc,tc,ts,dx⟩:=id aq.inF;have bj:=dx.e;subst bj;refine ρ ?_;refine alc Yh ?_;intro C eu Z cj cw;refine ρ ?_;refine stW cw ?_;intro ak au e7 O;have a8:Ext w9 ak:=O w9 Z cj;have a4:=(ab.trans a9).trans a8;have bb:=a7.trans a4;refine ρ ?_;refine ldW au ?_;refine ρ ?_;refine cl (Jmt (hTB.ext bb) (λp hp=>hC.pok p hp) hds bi.fne bi.c4 ⟨_,rfl,aq.ext a8⟩) ?_;rintro u b6 ⟨bw,x,sn,kf,pf,BB,tot,rfl,ah,ae⟩;obtain⟨XA,xd,YA,yd,ZA,zd,UA,ud,tv,ef,ee,rfl,_,_,_,_,_,_,db,_⟩:=id ah.ix.ex;obtain⟨TA,d3,rfl,_⟩:=id db;refine ρ ?_;refine alc Gl ?_;intro ed et bs ch cv;refine ρ ?_;refine stW cv ?_;intro d2 ar e6 br;have ao:Ext b6 d2:=br b6 bs ch;refine ρ ?_;refine ldW ar ?_;refine ρ ?_;refine bsl (bs1Ix _ _ _ _ _ _ _ _ _ _ _ _ _ _ _) ?_;intro d1 eo bq e8 cp;have a6:=ao.trans bq;have o:=(a4.trans bw).trans a6
  have ba:=a7.trans o;obtain⟨PA,am,rfl,c8,ap⟩:=hO.form;have d6:=bl.lt;have cy:=J.size;have e3:=a4.size;have ec:=ac.size;have ea:=hTB.le;have hΦ:Off (λk=>k=b2∨(Value.slice PA Xd.length am).ownBlock=some k) d1 (λu=>IxG f ds gs u [.slice XA f xd,.slice YA f yd,.slice ZA f zd,.slice UA f ud,.slice TA (Jq tot).length d3] ⟨s,kf,pf,BB,tot⟩):=λW hW=>by
   refine ah.on ((ae.ext a6) W (hW.mono λk _ hk=>?_)) ⟨B0,(hTB.ext ba).gr hW λk hk h=>?_⟩
   .rcases hk with hk|hk
    .show k<ak.heap.size;omega
    have:=(ap k hk).2;show k<ak.heap.size;omega
   rcases h with h|h
   .omega
   have:=(ap k h).1;have:=b9.size;omega
  have e4:Xd.length<=7:=om
  refine ρ ?_;refine apM EX5 (Φ:=IxG f ds gs) (hO.ext o) cp rfl (λu hu=>?_) hΦ om om (nL aw o.size) ?_
  .simp only[List.mem_cons,List.not_mem_nil,or_false]at hu;rcases hu with rfl|rfl|rfl|rfl|rfl<;>rfl
  intro cz d0 co b4 e5;have an:Ext w1 d0:=(GrN.by (N:=λk=>(Value.slice PA Xd.length am).ownBlock=some k) b4 λk hk=>hk).old (J.trans o) λk hk=>by have:=(ap k hk).1;omega
  refine ρ ?_;refine Qp (s+1) cz _ sO ⟨om,om,an,Nat.le_trans (nL aw o.size) b4.size,_,co,by rw[List.length_append,ag];simp;omega,λi hi=>?_⟩ om;rcases Nat.lt_or_ge i (s-1) with h1|h1
  .rw[List.getD,List.getElem?_append_left om];exact bg i h1
  have:i=s-1:=om
  subst this;rw[List.getD,List.getElem?_append_right om,ag];simp;omega
 have dd:s=2^gs.length:=by have:=oF h;omega
 clear h;subst dd;obtain⟨ps,e1,ax,c2⟩:=hO;subst e1;rw[List.length_map]at ag;obtain⟨PA,am,rfl,c8,ap⟩:=Jy ax;have b3:∀ i,i<ps.length->(ps.map (·.2)).getD i Xu=(ps.getD i ([],Xu)).2:=λi hi=>by simp[List.getD,hi]
 obtain⟨D,hD⟩:∃ D:UD,D=⟨gs.length,f,ds,λs=>Qh (pick gs s).flatten,Yt ds gs,λi=>(ps.getD i ([],Xu)).1,λi=>(ps.getD i ([],Xu)).2.kf,λi=>(ps.getD i ([],Xu)).2.pf,λi=>(ps.getD i ([],Xu)).2.BB,λi=>(ps.getD i ([],Xu)).2.tot,mxR ps.length (λi=>Qy f λv=>hmB ((ps.getD i ([],Xu)).2.BB v))⟩:=⟨_,rfl⟩;have ai:D.n=ps.length:=by rw[hD,ag];rfl
 have df:∀ s,(Qh (pick gs s).flatten).length<=5000:=λs=>Qvr hC.pok;have ah:∀ i,i<ps.length->IxA w6 (.agg (ps.getD i ([],Xu)).1.toArray) f ds (ps.getD i ([],Xu)).2.kf (ps.getD i ([],Xu)).2.pf (ps.getD i ([],Xu)).2.BB (ps.getD i ([],Xu)).2.tot (Qh (pick gs (i+1)).flatten):=λi hi=>by
  have h1:=(c2 _ (getD_mem' ([],Xu) ps hi)).2.here;have h2:=bg i om;rw[b3 i hi]at h2;unfold IxG at h1;rw[h2]at h1;exact h1
 have a2:PreU w6 D PA:=by
  rw[hD];refine⟨?_,λi hi=>ah i (by have h:i<2^gs.length-1:=hi;omega),hC.unp,λi hi=>Qxw (g:=λi=>Qy f λv=>hmB ((ps.getD i ([],Xu)).2.BB v)) (by have h:i<2^gs.length-1:=hi;omega),?_,df⟩
  .have h1:=Rd.own ax;rw[Jlz Xu]at h1;show Rd w6 5 PA (2^gs.length-1) (Qk (2^gs.length-1) _);rw[<-ag];exact h1
  refine Qqv λi hi=>?_;have cb:=ah i hi;have h1:=Jsg (g:=λv=>hmB ((ps.getD i ([],Xu)).2.BB v)) (B:=65536) (λv=>Xqq λb hb=>cb.hb v b hb) f;have h2:=cb.ip.f32;have h3:f*65536<=32*65536:=nO _ h2;omega
 have cn:=Qfj (mc:=am) a2;rw[ai,show D.k=gs.length by rw[hD]]at cn;refine ρ ?_;refine cl cn ?_;rintro u w7 ⟨aa,DA,dc,NA,nc,SA,sl,sc,rfl,dj,di,ae⟩;refine ρ ?_;refine alc Jzs ?_;intro w8 er d7 cg cr;refine ρ ?_;refine stW cr ?_;intro w9 bm em a9;have a5:Ext w7 w9:=a9 w7 d7 cg;refine ρ ?_;refine ldW bm ?_;refine ρ ?_;refine stW (bl.ext ((J.trans aa).trans a5)) ?_;intro C aj af Z;have be:GrN (λk=>k=b2) w6 C:=(GrN.ext (aa.trans a5)).trans (GrN.by af λj hj=>by injection hj with hj;exact hj.symm);have bd:GrN (λk=>k=b2) w7 C:=(GrN.ext a5).trans (GrN.by af λj hj=>by injection hj with hj;exact hj.symm);have d6:=bl.lt;have cy:=J.size;obtain⟨k1,k2,k3⟩:=ae C (bd.mono λk _ hk=>by show k<w6.heap.size;omega);rw[<-ai]at k2;have bh:∀ i,i<ps.length->IxA C (.agg (ps.getD i ([],Xu)).1.toArray) f ds (ps.getD i ([],Xu)).2.kf (ps.getD i ([],Xu)).2.pf (ps.getD i ([],Xu)).2.BB (ps.getD i ([],Xu)).2.tot (Qh (pick gs (i+1)).flatten):=λi hi=>by
  have h1:=(c2 _ (getD_mem' ([],Xu) ps hi)).2 C (be.mono λk _ hk=>.inl hk);have h2:=bg i om;rw[b3 i hi]at h2;unfold IxG at h1;rw[h2]at h1;exact h1
 have dt:UnV C D [.int .i64 (D.k:Int),.int .i64 (D.f:Int),.slice DA D.f dc,.slice NA D.n nc,.slice SA sl sc] :=
  ⟨⟨DA,dc,NA,nc,SA,sl,sc,rfl,dj,di,k1,k2,k3⟩,λi hi=>by rw[ai]at hi;have:=bh i hi;rw[hD];exact this,a2.up,a2.hm,a2.hl,a2.ml⟩
 refine ρ ?_;refine Jzd aj ⟨Z w ((a7.trans aa).trans a5) dq,_,st,D,?_,dt,by rw[hD],by rw[hD],by rw[hD],by rw[hD],by rw[hD],?_⟩
 .rw[ai,hD]
 rw[ai,hD]
open Go.RowKit Pl Go.Wk
variable {c:Cse}{ats:List Atm}{A B C aA dA pA:Option Addr}{w:World}
def tt5: TT:=(22,{ desc:=.slice 65,esz:=6 })::(24,{ desc:=.slice 108,esz:=5 })::tt4
theorem Jrn: TOk Tryz.prog tt5:=⟨⟨kr,kr,kr⟩,⟨kr,kr,kr⟩,Jrp⟩
instance (priority:=6000):Tab Tryz.prog tt5:=⟨Jrn,mixed⟩
theorem ERin: ElT Tryz.prog 24 108 5 88 (.agg #[.int .i64 0,.int .i64 0,.slice none 0 0,.slice none 0 0,.slice none 0 0]):=⟨Tryz.underlying24,info_parts kr,rfl,by decide⟩
def c0: Cse:=⟨0,0,[],[],[],[]⟩
structure CsesV(w:World)(A:Option Addr)(l:List Cse)(xc:Nat->List Value): Prop where
 rd:Rd w 6 A l.length (Qk l.length xc)
 el:∀ i,i<l.length->CseV w (xc i) (l.getD i c0)
theorem CsesV.ext{w w':World}{A:Option Addr}{l:List Cse}{xc:Nat->List Value}(h:CsesV w A l xc)(hx:Ext w w'): CsesV w' A l xc:=⟨h.rd.ext hx,λi hi=>(h.el i hi).ext hx⟩
theorem CseOk.atm(h:CseOk c ats): (Xg c ats).ats.map toAtm=ats:=by
 have C:ats.length=c.m:=h.al;refine List.ext_getElem (by simp[Xg,C]) λi O D=>?_;have hi:i<c.m:=om
 have u:=h.vars hi;have o:=h.mka i (by grind [Cse.m]);have e:ats.getD i a0=ats[i]:=Qz a0 ats D;simp only[Xg,List.map_map,List.getElem_map,List.getElem_range,Function.comp,toAtm,rsA,e];rw[e]at o;have J:=o.vars;have G:=o.ar;rw[u.1,u.2.2.2];cases hat:ats[i] with
 | mk v a r=>
  grind
theorem Qzz{dc pc ac an:Nat}(h:CseOk c ats)(hD:BoolsV w (.slice dA c.ds.length dc) c.ds)(hP:IntsV w (.slice pA c.pm.length pc) c.pm)(hG:GV 3 AtG w (.slice aA an ac) ats):
  InC w (Yb c.F c.ds (Xg c ats)) [.int .i64 c.n,.int .i64 c.f,.slice dA c.ds.length dc,.slice pA c.pm.length pc,.slice aA an ac]:=by
 refine⟨.slice dA c.ds.length dc,.slice pA c.pm.length pc,.slice aA an ac,?_,hD,?_,?_⟩
 .rw[h.nN.1,h.fF.1];rfl
 .show IntsV w _ (nz (toN c.pm));rw[h.pm.2];exact hP
 show AtsV w _ ((Xg c ats).ats.map toAtm);rw[h.atm];exact Jdj hG
def RefG(w:World)(cs:List Value)(p:CsA): Prop:=∃ pA pn pc vA vc rA rc,cs=Vz (p.1.N:Int) (p.1.F:Int) pA pn pc vA vc rA rc p.1.m/\RInM w vA rA p.1.m p.1.vars p.1.crs
def InG(f:Nat)(ds:List Bool)(w:World)(cs:List Value)(p:CsA): Prop:=InC w (Yb f ds (Xg p.1 p.2)) cs
theorem Xwl(n f:Int)(A B C:Option Addr)(a b c a' b' c':Nat)(w:World): (Instr.buildSlice 24 1 #[(0,.agg #[.int .i64 n,.int .i64 f,.slice A a a',.slice B b b',.slice C c c'])]).run Tryz.prog w=.ok (.slice (some ⟨w.heap.size,0,none⟩) 1 1) (w.alloc (.cells [Value.int .i64 n,.int .i64 f,.slice A a a',.slice B b b',.slice C c c'].toArray 108)):=kr
theorem Jhd{n f:Int}{a b c a' b' c':Nat}: ∀ u∈[Value.int .i64 n,.int .i64 f,.slice A a a',.slice B b b',.slice C c c'],u.oneCell'=true:=λu o=>by
 simp only[List.mem_cons,List.not_mem_nil,or_false]at o;rcases o with rfl|rfl|rfl|rfl|rfl<;>rfl
theorem Qcs: Qm Tryz.prog 65=some (.agg #[.int .i64 0,.int .i64 0,.slice none 0 0,.slice none 0 0,.slice none 0 0,.slice none 0 0]):=kr
theorem Qtc{c:Nat}{l:List Cse}{xc:Nat->List Value}(hL:CsesV w A l xc)(hfit:∀ c∈l,∀ i,i<c.rss.length->∀ r∈c.rss.getD i [],∀ u∈r,Xb u):
  Ret Tryz.prog 10 [.slice A l.length c] w λu w'=>Ext w w'/\(u=.tuple #[.slice none 0 0,.slice none 0 0,.bool false] ∨
   ∃(ps:List CsA) (iv rv:Value),u=.tuple #[iv,rv,.bool true]/\1<=l.length/\l.length<=3/\ps.map (·.1)=l/\(∀ p∈ps,CsM (l.getD 0 c0).F (l.getD 0 c0).ds p)/\GV 5 (InG (l.getD 0 c0).F (l.getD 0 c0).ds) w' iv ps/\GV 5 RefG w' rv ps):=by
 have bo:∀ i,i<l.length->(xc i).length=6:=λi hi=>by
  obtain⟨dA,dc,pA,pc,vA,vc,rA,rc,e,_⟩:=hL.el i hi;rw[e];rfl
 have a2:∀ {W:World} (hx:Ext w W) {i:Nat} (hi:i<l.length) {j:Nat} {u:Value},(xc i)[j]?=some u->W.cell? ((adr A (i*6)).add j)=some u:=λhx i hi j u hu=>by
  have hj:j<6:=by grind
  rw[Qo];exact(hL.rd.ext hx).cell (by rw[Vh bo hi hj];exact hu)
 obtain⟨ay,br⟩:=id hL;refine Jz Tryz.func10 Tryz.ntmps10 rfl kr rfl ?_;refine ρ ?_;refine Vn (fun (t:Bool)=>[(18,.bool t),(0,.slice A l.length c),(2,.slice none 0 0),(3,.slice none 0 0),(4,.bool false)]) (λt w'=>w'=w/\(t=false->1<=l.length/\l.length<=3)) ?_ ?_
 .refine ki 14 (λh=>?_) (λh=>?_)
  .refine ρ ?_;exact Jb true sB ⟨rfl,λe=>by cases e⟩
  have h1:=oF h;refine ρ ?_;refine Jb _ sB ⟨rfl,λe=>?_⟩;grind
 rintro t w' ⟨rfl,ht⟩;refine ci (λh=>?_) (λh=>?_)
 .refine ρ ?_;exact Ge ⟨Ext.refl _,.inl rfl⟩
 obtain⟨a6,cy⟩:=ht h;clear ht h;obtain⟨df,de,dv,du,dn,dm,dt,dq,ce,db,e7,e5,e6,dz,e4⟩:=id (br 0 a6);obtain⟨m,hm⟩:∃ m,m=l.length:=⟨_,rfl⟩;refine ρ ?_;refine Xm (fun (i:Nat) (iv rv:Value)=>[(0,.slice A l.length c),(2,.slice none 0 0),(3,.slice none 0 0),(4,.bool false),(5,iv),(6,rv),(19,.slice A l.length c),(20,.int .i64 (l.length:Int)),(21,.int .i64 (i:Int))])
  (λi iv rv w1=>i<=l.length/\Ext w' w1/\w'.heap.size<=w1.heap.size/\∃ ps:List CsA,ps.map (·.1)=l.take i/\(∀ p∈ps,CsM (l.getD 0 c0).F (l.getD 0 c0).ds p) /\
   OwnM 42 5 (InG (l.getD 0 c0).F (l.getD 0 c0).ds) (λk=>False∨rv.ownBlock=some k) w1 w'.heap.size iv ps/\OwnM 108 5 RefG (λk=>False∨iv.ownBlock=some k) w1 w'.heap.size rv ps/\∀ g,iv.ownBlock=some g->¬ rv.ownBlock=some g)
  (λi _ _=>l.length-i) 0 (.slice none 0 0) (.slice none 0 0) sB ⟨Nat.zero_le _,Ext.refl _,Nat.le_refl _,[],rfl,(λp hp=>by cases hp),OwnM.nil _ _,OwnM.nil _ _,(λg e=>by cases e)⟩ ?_
 rintro i iv rv w1 ⟨hi,a5,ad,ps,dx,bm,b6,b4,bs⟩;refine ρ ?_;refine ci (λh=>?_) (λh=>?_)
 .have li:i<l.length:=by have:=oT h;omega
  clear h;obtain⟨o,d3⟩:∃ o,o=l.getD i c0:=⟨_,rfl⟩;have ag:=br i li;rw[<-d3]at ag;obtain⟨dA,dc,pA,pc,vA,vc,rA,rc,cd,hD,hP,hV,hR,hn,hf⟩:=id ag;refine ρ ?_;refine ixq 6 i (ay.ext a5) li ?_;refine ρ ?_;refine lds (cs:=[.int .i64 o.n,.int .i64 o.f,.slice dA o.ds.length dc,.slice pA o.pm.length pc,.slice vA o.vs.length vc,.slice rA o.rss.length rc]) (λj u hu=>a2 a5 li (by rw[cd];exact hu)) ?_;refine ρ ?_;refine alc Qcs ?_;intro w2 b8 be d5 c9;refine ρ ?_;refine stW c9 ?_;intro w3 av e3 cr;have a9:Ext w1 w3:=cr w1 be d5;have bj:=a5.trans a9;refine ρ ?_;refine ldW av ?_;rw[cd]at ag;refine ρ ?_;refine cl (Qdw ag bj) ?_;rintro u w4 ⟨aw,ch,bc,aA,cg,bb,ac,an,ok,rfl,dd,d7,cx,_⟩;refine ρ ?_;refine alc Yh ?_;intro w5 b9 cq d4 c5;refine ρ ?_;refine stW c5 ?_;intro w6 c4 e2 cp;have a8:Ext w4 w6:=cp w4 cq d4;have ak:=(a9.trans aw).trans a8;have bi:=a5.trans ak;have c8:=(av.ext aw).ext a8;have a7:Ext w6 w6.drew:=(Ext.refl w6).drew
  have aa:=bi.trans a7;have bf:=ak.trans a7;have au:=c8.ext a7;obtain⟨_,_,eD,ea,d9,da⟩:=id hD;injection eD with eD1 _ eD2
  subst eD1;subst eD2;obtain⟨_,_,eE,e9,e8,d8⟩:=id db;injection eE with eE1 _ eE2
  subst eE1;subst eE2;refine ρ ?_;refine dr [(0,0),(0,1),(0,2),(0,3),(1,4),(0,5),(0,6),(0,7),(0,8),(0,9),(0,10),(0,11),(0,12),(0,13),(0,14),(0,15),(0,16),(0,17),(0,18),(0,19),(0,20),(0,21),(0,22),(1,23),(0,24),(0,25)] kr ?_;cases ok with
  | false=>
   refine ρd ?_;refine ρ ?_;exact Ge ⟨aa,.inl rfl⟩
  | true=>
   obtain⟨b1,ats,d6,bn,hmk,bw⟩:=cx rfl;refine ρd ?_;refine Jo (cs:=[.int .i64 o.n,.int .i64 o.f,.slice dA o.ds.length dc,.slice pA o.pm.length pc,.slice vA o.vs.length vc,.slice rA o.rss.length rc]) (λj u hu=>au.at hu) ?_;refine ρd ?_;refine dcl (Xxm (ag.ext aa)) ?_;rintro u w7 ⟨a4,fw,rfl,bq,_⟩;refine⟨a4,?_⟩;have G:=aa.trans a4;have ah:=au.ext a4;cases fw with
   | false=>
    refine ρd ?_;refine ρ ?_;exact Ge ⟨G,.inl rfl⟩
   | true=>
    refine ρd ?_;refine dld (ah.at (i:=1) rfl) ?_;refine ρd ?_;refine Vw 6 0 (ay.ext G) a6 ?_;refine ρd ?_;refine dld (a2 G a6 (j:=1) (u:=.int .i64 (l.getD 0 c0).f) (by rw[ce];rfl)) ?_;refine ρd ?_;refine dki 46 (λh=>?_) (λh=>?_)
    .refine ρd ?_;refine ρ ?_;exact Ge ⟨G,.inl rfl⟩
    have d1:o.f=(l.getD 0 c0).f:=bne_eq_false_iff_eq.1 h;clear h;refine ρd ?_;refine dld (ah.at (i:=2) rfl) ?_;refine ρd ?_;refine Vw 6 0 (ay.ext G) a6 ?_;refine ρd ?_;refine dld (a2 G a6 (j:=2) (u:=.slice df (l.getD 0 c0).ds.length de) (by rw[ce];rfl)) ?_;refine ρd ?_;refine dcl (Jmd (Rd.ext da G) (Rd.ext d8 G) d9) ?_;rintro u w8 ⟨rfl,a3⟩;refine⟨a3,?_⟩;have bh:=G.trans a3;have c7:=ah.ext a3;refine ρd ?_;refine ρ ?_;refine ci (λh=>?_) (λh=>?_)
    .refine ρ ?_;exact Ge ⟨bh,.inl rfl⟩
    have d2:o.ds=(l.getD 0 c0).ds:=by simpa using h
    clear h;have hC:CseOk o ats:=⟨bq rfl,b1,d6,hmk,bw trivial,hfit o (by grind)⟩;have hF:o.F=(l.getD 0 c0).F:=by unfold Cse.F;rw[d1]
    have cz:∀ {W:World},Ext w' W->GV 3 AtG W (.slice aA an ac) ats->InG (l.getD 0 c0).F (l.getD 0 c0).ds W [.int .i64 o.n,.int .i64 o.f,.slice ch o.ds.length cg,.slice bc o.pm.length bb,.slice aA an ac] (o,ats):=λhx hg=>by
     have:=Qzz hC (dd.ext hx) (d7.ext hx) hg;grind [InG]
    obtain⟨IA,ic,rfl,e0,d0⟩:=b6.form;obtain⟨QA,qc,rfl,dw,bl⟩:=b4.form;have bg:=((bf.trans a4).trans a3);have ai:Ext w8 w8.drew:=(Ext.refl w8).drew;have J:=bg.trans ai;have am:=a5.trans J;have c6:=c7.ext ai;have c3:=(((c4.ext a7).ext a4).ext a3).ext ai;have l8:=c9.lt;have l9:=c5.lt;have z2:=be.size;have z4:=aw.size;have dk:=a9.size;have n8:¬ ((Value.slice IA ps.length ic).ownBlock=some b8∨(Value.slice QA ps.length qc).ownBlock=some b8):=λh=>by grind
    have n9:¬ ((Value.slice IA ps.length ic).ownBlock=some b9∨(Value.slice QA ps.length qc).ownBlock=some b9):=λh=>by grind
    have cw:ps.length=i:=by grind [List.length,List.length_map,List.length_take]
    have c1:=b6.ext J;have bz:=b4.ext J;refine ρ ?_;refine drN (λk=>(Value.slice IA ps.length ic).ownBlock=some k∨(Value.slice QA ps.length qc).ownBlock=some k) 14 [(0,0),(0,1),(0,4),(0,5),(1,2),(1,3),(1,6),(1,7),(1,8),(0,9),(0,10)] kr ?_;refine ρn ?_;refine Xl (cs:=[.int .i64 o.n,.int .i64 o.f,.slice ch o.ds.length cg,.slice bc o.pm.length bb,.slice aA an ac]) (λW hg j u hu=>(Jv c3 hg n9).at hu) ?_;refine ρn ?_;refine Xl (cs:=[.int .i64 o.n,.int .i64 o.f,.slice dA o.ds.length dc,.slice pA o.pm.length pc,.slice vA o.vs.length vc,.slice rA o.rss.length rc]) (λW hg j u hu=>(Jv c6 hg n8).at hu) ?_;refine ρn ?_;refine nop ?_;refine bsl (Jmx _ _ _ _ _ _ _ _ _ _ _) ?_;intro cm ec C dj cb;refine Jc (Jm (GrN.ext C) ?_);refine nop ?_;have aj:=((((bn.ext a8).ext ((a7.trans a4).trans a3)).ext ai).ext C);refine apM EInp (Φ:=InG (l.getD 0 c0).F (l.getD 0 c0).ds) (a:=(o,ats)) (c1.ext C) cb rfl Jhd (λW hW=>cz (hW.old (am.trans C) λk hk=>?_) (aj W (hW.mono λk _ hk=>?_))) om om (nL ad (J.trans C).size) ?_
    .grind
    .grind
    intro cn b7 ar ae ap;refine Jc (Jm (GrN.by ae λk hk=>.inl hk) ?_);have b3:=(bz.ext C).other ae ap λg e h=>bs g h e;have af:∀ g,cn.ownBlock=some g->¬ (Value.slice QA ps.length qc).ownBlock=some g:=λg e h=>by
     rcases ap g e with h1|h1
     .exact bs g h1 h
     have:=(bl g h).2;have:=(J.trans C).size;omega
    have a1:GrN (λk=>(Value.slice IA ps.length ic).ownBlock=some k) cm b7:=GrN.by ae λk hk=>hk
    have ax:Ext w' b7:=a1.old (am.trans C) λk hk=>(d0 k hk).1;refine ρn ?_;refine nop ?_;refine cl Qmj ?_;rintro u dl ⟨rfl,O⟩;refine Jc (Jm (GrN.ext O) ?_);refine nop ?_;refine bsl (Xwl _ _ _ _ _ _ _ _ _ _ _) ?_;intro ck eb D di ca;refine Jc (Jm (GrN.ext D) ?_);refine nop ?_;have ab:=(ax.trans O).trans D;obtain⟨dg,co,rfl,dh,bp⟩:=ar.form;have cv:o.rss.length=o.m:=by rw[<-hC.len];rfl
    refine apM ERin (Φ:=RefG) (a:=(o,ats)) ((b3.ext O).ext D) ca rfl Jhd (λW hW=>?_) om om (nL ad (nL (J.trans C).size (nL a1.size (O.trans D).size))) ?_
    .have bd:Ext w' W:=hW.old ab λk hk=>by grind
     refine⟨pA,o.pm.length,pc,vA,vc,rA,rc,?_,CseV.rin (hV.ext bd) (hR.ext bd) hC⟩;show _=Vz (o.N:Int) (o.F:Int) pA o.pm.length pc vA vc rA rc o.m;rw[<-hC.nN.1,<-hC.fF.1,cv];rfl
    intro ba cj c2 aq ao;have Z:GrN (λk=>(Value.slice QA ps.length qc).ownBlock=some k) ck cj:=GrN.by aq λk hk=>hk
    refine Jc (Jm (Z.mono λk _ hk=>.inr hk) ?_);have b5:=((ar.ext O).ext D).other aq ao af;have b2:∀ g,(Value.slice dg (ps++[(o,ats)]).length co).ownBlock=some g->¬ ba.ownBlock=some g:=λg e h=>by
     rcases ao g h with h1|h1
     .exact af g e h1
     have:=(bp g e).2;have:=(O.trans D).size;omega
    refine ρn ?_;refine ρ ?_;refine Qp (i+1) _ ba sO ⟨li,Z.old ab λk hk=>(bl k hk).1,Nat.le_trans (nL ad (nL (J.trans C).size (nL a1.size (O.trans D).size))) Z.size,ps++[(o,ats)],?_,λp hp=>?_,b5,c2,b2⟩ om
    .grind [Qc,c0]
    rcases List.mem_append.1 hp with hp|hp
    .exact bm p hp
    rw[List.mem_singleton.1 hp];exact⟨hC,hF,d2⟩
 have e1:i=l.length:=by grind
 clear h;have cw:ps.length=i:=by grind
 refine ρ ?_;exact Ge ⟨a5,.inr ⟨ps,iv,rv,rfl,a6,cy,by grind,bm,b6.gv om,b4.gv om⟩⟩
open Go.RowKit Pl Go.Wk
variable {i k m n:Nat}{v vd:Value}
theorem cmpN_z: Yq n m=0↔n=m:=by
 unfold Yq;grind
theorem Qbm{w:World}(hv:NatV w v n)(hk:k<9223372036854775808):
  Ret Tryz.prog 14 [v,.int .i64 (k:Int)] w λu w'=>u=.bool (decide (n=k))/\Ext w w':=by
 obtain⟨UA,Z,rfl,_⟩:=id hv;refine Jz Tryz.func14 Tryz.ntmps14 rfl kr rfl ?_;refine ρ ?_;rw[Gm (z:=(k:Int)) om];refine cl (Jxt k om w) ?_;rintro o O ⟨G,_,C⟩;refine ρ ?_;refine cl (Jkz (hv.ext C) G) ?_;rintro _ J ⟨rfl,D⟩;refine ρ ?_;refine Jj ⟨?_,C.trans D⟩;rw[show(Yq n k == 0)=decide (n=k) by rw[Bool.eq_iff_iff,beq_iff_eq,decide_eq_true_iff,cmpN_z]]
def sgl(ps:List CsA): List (List CsA):=ps.map λp=>[p]
theorem Iv(ps:List CsA): (sgl ps).length=ps.length:=List.length_map _
theorem RefG.ext{w w':World}{cs:List Value}{p:CsA}(h:RefG w cs p)(hx:Ext w w'): RefG w' cs p:=by
 obtain⟨pA,pn,pc,o,vc,u,rc,e,h⟩:=h;exact⟨pA,pn,pc,o,vc,u,rc,e,h.ext hx⟩
theorem Jlw(ps:List CsA)(f:Nat)(ds:List Bool)(h:∀ p∈ps,CsM f ds p): (sgl ps).flatMap Qh=ps.flatMap λp=>p.1.ans:=by grind [sgl,List.flatMap_map,Qvp]
section
variable {w:World} {ps:List CsA} {f:Nat} {ds:List Bool}
theorem CsM.answers{p:CsA}{cs:List Value}(h:CsM f ds p)(hr:RefG w cs p){ds':List Bool}(hd:BoolsV w vd ds'):
  Ret Tryz.prog 50 [.agg cs.toArray,vd] w λu w'=>RowsV w' u (Jzq p.1.m p.1.vars p.1.crs p.1.N p.1.F ds')/\Ext w w':=by
 obtain⟨pA,pn,pc,C,vc,D,rc,rfl,o⟩:=hr;exact Qmx h.1.refP o (by have:=h.1.nN.2;omega) h.1.fF.2 hd
theorem Qhw{ps:List CsA}(h:i<ps.length): Qh ((sgl ps).getD i [])=(ps[i]).1.ans:=by grind [sgl,List.getD,Qvp]
end
open Go.RowKit Pl Go.Wk
variable {ds:List Bool}{ps:List CsA}{B0 f:Nat}{w:World}
def tt6: TT:=(110,{ desc:=.slice 2,esz:=1 })::tt5
theorem Qft: TOk Tryz.prog tt6:=⟨⟨kr,kr,kr⟩,Jrn⟩
instance (priority:=7000):Tab Tryz.prog tt6:=⟨Qft,mixed⟩
def exU(n:Int): Cse:=⟨1,1,[false],[],[[0]],[[[nV n],[nV 3]]]⟩
theorem Xxr{n:Int}(hn:n=1∨n=2){m:List Row}(hset:Zz [] [[nV n],[nV 3]] m)(hm:m.length<=65536)(hsub:∀ x∈m,x∈[[nV n],[nV 3]]): CseOk (exU n) [⟨[0],1,m⟩]:=by
 have D:(0:Int)<=1:=by decide
 have J:(1:Int)<=32:=by decide
 have Z:(1:Int)<=1:=by decide
 refine⟨⟨λi hi=>?_,?_,.inl (show(1:Int)<=6 by decide),show 1<=5 by decide,show 1<=5 by decide⟩,rfl,rfl,λi hi=>?_,⟨D,J,D,Z,rfl,rfl,(λv o=>by cases o),List.Pairwise.nil,D,J,show 1<=32 by decide,λa O=>?_,λv o=>?_⟩,λi hi r G u hu=>?_⟩
 .grind [exU]
 .grind [Jd,exU]
 .have:i=0:=by simp[exU]at hi;exact hi
  subst this;refine⟨rfl,rfl,show 1<=32 by decide,λr G=>?_,hm,hsub,λ_=>hset⟩;have C:r∈[[nV n],[nV 3]]:=G;simp only[List.mem_cons,List.not_mem_nil,or_false]at C;rcases C with rfl|rfl<;>exact⟨rfl,rfl⟩
 .rw[List.mem_singleton.1 O];refine⟨λj h0 hj=>?_,λv o=>?_,rfl⟩
  .grind
  have:v=0:=List.mem_singleton.1 o;subst this;exact⟨Int.le_refl _,show(0:Int)<1 by decide⟩
 .have:v=0:=by have:(v:Int)<1:=o;omega
  subst this;exact⟨_,List.mem_singleton.2 rfl,List.mem_singleton.2 rfl⟩
 repeat grind [exU,nV,List.mem_singleton.1,Qsk]
theorem Qkz: (exU 1).ans=[[nV 1],[nV 3]]:=by decide
theorem Qkx: (exU 2).ans=[[nV 2],[nV 3]]:=by decide
def exW: List Row:=[[nV 1],[nV 2],[nV 3]]
theorem Xxq: Lt [false] exW:=by unfold Lt;decide
theorem exW_a: Qq [false] exW [nV 3]=2:=by decide
structure ExU(ps:List CsA): Prop where
 len:ps.length=2
 ok:∀ p∈ps,CsM 1 [false] p
 p0:(ps.getD 0 (c0,[])).1=exU 1
 p1:(ps.getD 1 (c0,[])).1=exU 2
theorem ExU.two(h:ExU ps): ∃ a b,ps=[(exU 1,a),(exU 2,b)]:=by
 obtain⟨o,_,C,u⟩:=h;match ps,o with
 | [(c,a),(d,b)],_=>
  grind
theorem Jvd(h1:1<=ps.length)(h3:ps.length<=3)(h:∀ p∈ps,CsM f ds p): CsU (sgl ps) f ds:=by
 have u:(sgl ps).flatten=ps:=by simp[sgl,List.flatten_eq_flatMap,List.flatMap_map]
 refine⟨by rw[Iv];exact h1,by rw[Iv];exact h3,by rw[u];omega,λg o=>?_,λg o p hp=>?_⟩
 .obtain⟨p,_,rfl⟩:=List.mem_map.1 o;simp
 obtain⟨q,C,rfl⟩:=List.mem_map.1 o;grind
theorem CsU.mems{gs:List (List CsA)}(h:CsU gs f ds)(q:Row): Xe (λi=>decide (q∈Qh (pick gs (2^i)).flatten)) gs.length=Xe (Km gs q) gs.length:=Xqw λi hi=>by
 unfold Km;rw[List.getD,List.getElem?_eq_getElem hi];exact decide_eq_decide.2 (h.one hi q)
theorem ExU.any(h:ExU ps): Yt [false] (sgl ps)=exW:=by
 have hs:=Jvr [false] (sgl ps);obtain⟨a,b,rfl⟩:=h.two;refine Iy hs.1 Xxq λy=>?_;rw[hs.2 y,Jlw _ 1 [false] h.ok];grind [Qkz,Qkx,exW]
theorem ExU.mem(h:ExU ps): Xe (Km (sgl ps) [nV 3]) 2=3:=by
 refine(Qss (k:=2)).2 λi hi=>?_;unfold Km;rw[Qhw (by rw[h.len];exact hi),decide_eq_true_iff];obtain⟨a,b,rfl⟩:=h.two;grind [nV,exU,Qkz,Qkx]
theorem GV.insM{v:Value}(h:GV 5 (InG f ds) w v ps)(hp:∀ p∈ps,CsM f ds p): ∃ A c xc,v=.slice A ps.length c/\ps.length<=c/\InsM w A f ds (ps.map λp=>Xg p.1 p.2) xc:=by
 obtain⟨rs,A,c,e,rfl,Z,J,u,G⟩:=h;subst e;have O:Ju (rs.map λq=>(q.1,Xg q.2.1 q.2.2))=Ju rs:=by simp[Ju,List.flatMap_map]
 have o:=InsM.of (w:=w) (A:=A) (f:=f) (ds:=ds) (ps:=rs.map λq=>(q.1,Xg q.2.1 q.2.2)) (by grind) λq D=>by
  obtain⟨r,C,rfl⟩:=List.mem_map.1 D;exact(G r C).2
 rw[List.map_map]at o;refine⟨A,c,λi=>((rs.map λq=>(q.1,Xg q.2.1 q.2.2)).getD i ([],um0)).1,by rw[List.length_map],by grind,?_⟩;rw[List.map_map];exact o
theorem Jfq(hp:∀ p∈ps,CsM f ds p): ((sgl ps).map λg=>Qa f (Qv g))=ps.map λp=>Xg p.1 p.2:=by
 unfold sgl;rw[List.map_map];refine List.map_congr_left λp o=>?_;obtain⟨C,u,_⟩:=hp p o;show Qa f [Xg p.1 p.2]=_;exact Qzb (by rw[<-u];exact C.uok.pm.fn)
theorem Xwt(n:Int)(w:World): (Instr.build 118 #[(0,.int .i64 1),(1,.int .i64 n)]).run Tryz.prog w=.ok (nV n).val w:=Xvc n w
theorem Jkv(n:Int)(w:World): Ret Tryz.prog 49 [.int .i64 n] w λu w'=>(∃ b,u=.slice (some ⟨b,0,none⟩) 1 1/\Blk w' b 118 (Jh [nV n]))/\Ext w w':=by
 refine Jz Tryz.func49 Tryz.ntmps49 rfl kr rfl ?_;refine ρ ?_;refine bld (Xwt n w) ?_;refine ρ ?_;refine bsl (Jzn _) ?_;intro D b o G C;refine ρ ?_;exact Jj ⟨⟨b,rfl,C⟩,o⟩
theorem bs2J'(a b:Int)(w:World): (Instr.buildSlice 110 2 #[(0,.int .i64 a),(1,.int .i64 b)]).run Tryz.prog w=.ok (.slice (some ⟨w.heap.size,0,none⟩) 2 2) (w.alloc (.cells [Value.int .i64 a,.int .i64 b].toArray 2)):=kr
theorem bs2Rr(A B:Option Addr)(a b a' b':Nat)(w:World): (Instr.buildSlice 37 2 #[(0,.slice A a a'),(1,.slice B b b')]).run Tryz.prog w=.ok (.slice (some ⟨w.heap.size,0,none⟩) 2 2) (w.alloc (.cells [Value.slice A a a',.slice B b b'].toArray 46)):=kr
theorem bs1Bl(a:Bool)(w:World): (Instr.buildSlice 28 1 #[(0,.bool a)]).run Tryz.prog w=.ok (.slice (some ⟨w.heap.size,0,none⟩) 1 1) (w.alloc (.cells [Value.bool a].toArray 4)):=kr
theorem bs1Iu(a:Int)(w:World): (Instr.buildSlice 39 1 #[(0,.int .i64 a)]).run Tryz.prog w=.ok (.slice (some ⟨w.heap.size,0,none⟩) 1 1) (w.alloc (.cells [Value.int .i64 a].toArray 3)):=kr
theorem Xvh(n f:Int)(A B:Option Addr)(a a' b b':Nat)(w:World): (Instr.build 42 #[(0,.int .i64 n),(1,.int .i64 f),(2,.slice A a a'),(4,.slice B b b')]).run Tryz.prog w=.ok (.agg #[.int .i64 n,.int .i64 f,.slice A a a',.slice none 0 0,.slice B b b']) w:=kr
theorem zRel1: Qm Tryz.prog 98=some (.agg #[.int .i64 0,.slice none 0 0]):=kr
theorem Jnj(hTB:TB B0 w): Ret Tryz.prog 11 [] w λu w'=>u=.bool true/\Ext w w':=by
 refine Jz Tryz.func11 Tryz.ntmps11 rfl kr rfl ?_;refine ρ ?_;refine bsl (bs2J' 1 2) ?_;intro w1 cj cr dn cc;refine ρ ?_;refine Jt (fun (i:Nat) (iv:Value)=>[(0,.bool false),(1,iv),(16,.slice (some ⟨cj,0,none⟩) 2 2),(17,.int .i64 2),(18,.int .i64 (i:Int))])
  (λi iv w'=>i<=2/\Ext w1 w'/\w1.heap.size<=w'.heap.size/\∃ ps:List CsA,ps.length=i/\(∀ p∈ps,CsM 1 [false] p)/\(∀ j,j<i->(ps.getD j (c0,[])).1=exU (j+1))/\OwnM 42 5 (InG 1 [false]) (λ_=>False) w' w1.heap.size iv ps) (λi _=>2-i) 0 (.slice none 0 0) sB
  ⟨Nat.zero_le _,Ext.refl _,Nat.le_refl _,[],rfl,(λp hp=>by cases hp),(λj hj=>absurd hj (Nat.not_lt_zero j)),OwnM.nil _ _⟩ ?_
 rintro i iv w2 ⟨hi,ay,ba,ps,b2,ae,be,hO⟩;have aq:=cr.trans ay;refine ρ ?_;refine ci (λh=>?_) (λh=>?_)
 .have li:i<2:=by have:=oT h;omega
  clear h;have c3:Rd w2 1 (some ⟨cj,0,none⟩) 2 [Value.int .i64 1,.int .i64 2]:=(cc.rd rfl).ext ay;have e1:i=0∨i=1:=om
  have cy:([Value.int .i64 1,.int .i64 2]:List Value)[i]?=some (.int .i64 ((i:Int)+1)):=by grind
  refine ρ ?_;refine ix i c3 li ?_;refine ρ ?_;refine ld (c3.cell cy) ?_;refine ρ ?_;refine cl (Jkv ((i:Int)+1) _) ?_;rintro u w3 ⟨⟨dg,rfl,bw⟩,ai⟩;refine ρ ?_;refine cl (Jkv 3 _) ?_;rintro u w4 ⟨⟨df,rfl,bs⟩,ab⟩;refine ρ ?_;refine bsl (bs2Rr _ _ _ _ _ _) ?_;intro w5 de a6 dm br;have b1:RowsV w5 (.slice (some ⟨de,0,none⟩) 2 2) [[nV ((i:Int)+1)],[nV 3]]:=Qtl [(.slice (some ⟨dg,0,none⟩) 1 1,[nV ((i:Int)+1)]),(.slice (some ⟨df,0,none⟩) 1 1,[nV 3])] br (λp hp=>by
   simp only[List.mem_cons,List.not_mem_nil,or_false]at hp;rcases hp with rfl|rfl
   .exact Jhr ((bw.ext ab).ext a6) (by show 1<=1100000;decide)
   exact Jhr (bs.ext a6) (by decide)) (by show 2<=1100000;decide)
  refine ρ ?_;refine cl (Jbc (ar:=1) b1) ?_;rintro u w6 ⟨aa,rv,e,rfl,⟨z,B,mm,dd,da⟩,bb,bd⟩;have he:e=0:=bb (by decide) (λr hr=>by
   simp only[List.mem_cons,List.not_mem_nil,or_false]at hr;rcases hr with rfl|rfl<;>exact⟨rfl,rfl⟩) (by show 2<=65536;decide)
  obtain⟨_,_,ms,bf,cx,b5,b7⟩:=bd he;have bc:=b7 (.inl (by show 2<=1000;decide));subst da;refine ρ ?_;refine alc zRel1 ?_;intro w7 b4 ah d3 d9;refine ρ ?_;refine stW d9 ?_;intro w8 cb e2 a9;have am:Ext w6 w8:=a9 w6 ah d3;refine ρ ?_;refine bsl (bs1Bl false) ?_;intro w9 ch a2 dl bq;refine ρ ?_;refine bsl (bs1Iu 0) ?_;intro cm cg G dk bp;have b8:=(cb.ext a2).ext G;refine ρ ?_;refine ldW b8 ?_;refine ρ ?_;refine bld (Jdc _ _ _ _ _ _ _ _) ?_;refine ρ ?_;refine bsl (λw=>Jvl _ _ _ _ _ _ _ _ _ _ rfl rfl rfl w) ?_;intro ck ce J dj bo;refine ρ ?_;refine bld (Xvh _ _ _ _ _ _ _ _ _) ?_;refine ρ ?_;refine bsl (Jmx _ _ _ _ _ _ _ _ _ _ _) ?_;intro av e8 C di bn;obtain⟨IA,ic,rfl,d0,cz⟩:=hO.form;have hC:CseOk (exU ((i:Int)+1)) [⟨[0],1,ms⟩]:=Xxr om bc cx b5;have ao:=((((ai.trans ab).trans a6).trans aa).trans am);have Z:=(((ao.trans a2).trans G).trans J).trans C;have dq:=ao.size;have z9:=a2.size
  have du:=G.size;have dt:=((ai.trans ab).trans a6).size;have hΦ:Off (λk=>False∨(Value.slice IA ps.length ic).ownBlock=some k) av (λu=>InG 1 [false] u [.int .i64 1,.int .i64 1,.slice (some ⟨ch,0,none⟩) 1 1,.slice none 0 0,.slice (some ⟨ce,0,none⟩) 1 1] (exU ((i:Int)+1),[⟨[0],1,ms⟩])):=λW hW=>by
   have b3:∀ {k:Nat},w2.heap.size<=k->¬ (False∨(Value.slice IA ps.length ic).ownBlock=some k):=λhk h=>by grind
   obtain⟨v,ev,cv⟩:=((((((bf.ext am).ext a2).ext G).ext J).ext C)) W (hW.mono λk _ hk=>by grind);have cd:=congrArg (λv:Value=>match v with | .agg xs=>xs.toList|_=>[]) ev;simp only[List.cons.injEq,Value.int.injEq,true_and,and_true]at cd;obtain⟨ez,rfl⟩:=cd;have cp:=Jv (((bq.ext G).ext J).ext C) hW (b3 om);have co:=Jv ((bp.ext J).ext C) hW (b3 om);have cn:=Jv (bo.ext C) hW (b3 om);exact Qzz (c:=exU ((i:Int)+1)) (dA:=some ⟨ch,0,none⟩) (dc:=1) (pA:=none) (pc:=0) hC ⟨_,1,rfl,Nat.le_refl _,show 1<=1100000 by decide,cp.rd rfl⟩ ⟨none,0,rfl,Nat.le_refl _,show 0<=1100000 by decide,Rd.nil⟩
    ⟨[([.slice (some ⟨cg,0,none⟩) 1 1,.int .i64 z,.slice B mm dd],⟨[0],1,ms⟩)],some ⟨ce,0,none⟩,1,rfl,rfl,Nat.le_refl _,show 1<=1100000 by decide,cn.rd rfl,λp hp=>by
     rw[List.mem_singleton.1 hp];exact⟨rfl,(.slice (some ⟨cg,0,none⟩) 1 1,.int .i64 z,.slice B mm dd),rfl,⟨_,1,rfl,Nat.le_refl _,show 1<=1100000 by decide,co.rd rfl⟩,by rw[ez],cv⟩⟩
  refine ρ ?_;refine apM EInp (Φ:=InG 1 [false]) (hO.ext Z) bn rfl Jhd hΦ om om (nL ba Z.size) ?_;intro cq b9 c5 bz dh;have a4:GrN (λk=>(Value.slice IA ps.length ic).ownBlock=some k) av b9:=GrN.by bz λk hk=>hk
  refine ρ ?_;refine Jf (i+1) cq sO ⟨li,a4.old (ay.trans Z) λk hk=>(cz k hk).1,Nat.le_trans ba (nL Z.size a4.size),_,by grind,λp hp=>?_,λj hj=>?_,c5⟩ om
  .rcases List.mem_append.1 hp with hp|hp
   .exact ae p hp
   rw[List.mem_singleton.1 hp];exact⟨hC,rfl,rfl⟩
  repeat grind
 have d1:i=2:=by grind
 clear h;subst d1;have hE:ExU ps:=⟨b2,ae,be 0 om,be 1 om⟩;have c9:=Jvd (ps:=ps) om om ae;obtain⟨IA,ic,xc,rfl,d0,c6⟩:=GV.insM (hO.gv om) ae;rw[<-Jfq ae]at c6;have ca:=Jrl (c:=ic) (hTB.ext aq) c9 rfl c6;rw[Iv]at ca;refine ρ ?_;refine cl ca ?_;rintro u w3 ⟨ai,cs,st,D,rfl,aj,c7,c8,d6,a7,d7,e4⟩;rw[b2]at c7;rw[hE.any]at a7;obtain⟨DA,dc,MA,mc,SA,sl,sc,db,_⟩:=id aj.ex;subst db;refine ρ ?_;refine alc Jzs ?_;intro w4 b6 ab d2 d8;refine ρ ?_;refine stW d8 ?_;intro w5 au e3 a6;have an:Ext w3 w5:=a6 w3 ab d2;have a5:=aj.ext an;have ax:Ext w5 w5.drew:=(Ext.refl w5).drew;have c2:=a5.ext ax;refine ρ ?_;refine dr [(0,0),(1,1),(1,2),(0,3),(0,4),(0,5),(0,6),(0,7),(0,8),(0,9)] kr ?_;refine ρd ?_;refine Jo (λj u hu=>(au.ext ax).at hu) ?_;refine ρd ?_;refine dcl (Jxt 1 (by decide) _) ?_;rintro o w6 ⟨ho,_,aa⟩;refine⟨aa,?_⟩;refine ρd ?_
 refine dcl (Jrm (c2.ext aa) ho aj.sz (nR _) aj.f32) ?_;rintro u w7 ⟨ah,_,d4⟩;obtain⟨RA,rc,e0,rfl,c4,c1,_⟩:=d4 (by rw[a7];decide);rw[a7]at c4 c1;refine⟨ah,?_⟩;have a1:=(ax.trans aa).trans ah;have af:=au.ext a1;have aw:Ext w7 w7.drew:=(Ext.refl w7).drew;refine ρd ?_;refine ρ ?_;refine dr [(0,0),(1,1),(1,2),(0,3),(0,4),(0,5),(0,6),(0,7),(0,8),(0,9),(0,10),(0,11)] kr ?_;refine ρd ?_;refine Jo (λj u hu=>(af.ext aw).at hu) ?_;refine ρd ?_;refine dcl (Jkv 3 _) ?_;rintro u w8 ⟨⟨e7,rfl,bm⟩,a9⟩;refine⟨a9,?_⟩;refine ρd ?_;refine dcl (Qfh (((a5.ext a1).ext aw).ext a9) (q:=[nV 3]) (bm.rd rfl) (nR _)) ?_;rintro u w9 ⟨a2,_,cw⟩;obtain⟨nv,dz,rfl,bg,_⟩:=cw (by rw[c8];rfl);rw[d6,a7,exW_a]at bg;rw[a7];refine⟨a2,?_⟩;have O:=(aw.trans a9).trans a2;have ag:Ext w9 w9.drew:=(Ext.refl w9).drew;rw[decide_eq_true (show[nV 3]∈exW by decide)];refine ρd ?_;refine ρ ?_;refine dr [(0,0),(0,1),(0,2),(0,3),(1,4),(1,5),(0,6),(0,7),(0,8),(0,9),(0,10),(0,11),(0,12),(1,13),(1,14),(0,15),(0,16),(0,17),(0,18),(0,19),(0,20),(0,21),(0,22),(0,23),(0,24),(1,25),(0,26),(0,27),(0,28),(1,29),(1,30),(0,31),(0,32),(0,33)] kr ?_
 refine ρd ?_;refine Jo (λj u hu=>((af.ext O).ext ag).at hu) ?_;refine ρd ?_;have d5:=((a5.ext a1).ext O).ext ag;refine dcl (Jfc d5) ?_;rintro n1 cm ⟨bh,G⟩;rw[a7]at bh;refine⟨G,?_⟩;refine ρd ?_;refine dcl (Qbm (k:=3) bh (by decide)) ?_;rintro _ ck ⟨rfl,J⟩;rw[decide_eq_true (show exW.length=3 from rfl)];refine⟨J,?_⟩;refine ρd ?_;refine dcl (Jkv 2 _) ?_;rintro u av ⟨⟨e6,rfl,bl⟩,C⟩;refine⟨C,?_⟩;refine ρd ?_;have a8:=(ag.trans G).trans (J.trans C);refine dcl (Jgg (a:=[nV 2]) ⟨RA,rc,rfl,c1,by decide,(Rd.ext c4 O).ext a8⟩ (Jhr bl (by decide))) ?_;rintro _ b9 ⟨rfl,a3⟩;rw[decide_eq_true rfl];refine⟨a3,?_⟩;refine ρd ?_;refine dcl (Qbm (k:=2) (bg.ext ((ag.trans G).trans ((J.trans C).trans a3))) (by decide)) ?_;rintro _ dx ⟨rfl,ad⟩;rw[decide_eq_true (show 2=2 from rfl)];refine⟨ad,?_⟩;refine ρd ?_;refine Jo (λj u hu=>((af.ext O).ext (a8.trans (a3.trans ad))).at hu) ?_
 refine ρd ?_;refine dcl (Jkv 3 _) ?_;rintro u dw ⟨⟨e5,rfl,bj⟩,ac⟩;refine⟨ac,?_⟩;refine ρd ?_;have ak:=a8.trans (a3.trans ad);refine dcl (Jrk (((a5.ext a1).ext O).ext (ak.trans ac)) (q:=[nV 3]) (bj.rd rfl) (nR _)) ?_;rintro u dv ⟨ap,rfl⟩;have bi:=c9.mems [nV 3];rw[Iv,b2,hE.mem]at bi;rw[if_pos (show[nV 3].length=D.f from c8.symm),c7,d7,bi];refine⟨ap,?_⟩;refine ρd ?_;refine ρ ?_;exact Jj ⟨rfl,((aq.trans ai).trans (an.trans a1)).trans (O.trans ((ak.trans ac).trans ap))⟩
open Go.RowKit Pl Go.Wk
variable {ds:List Bool}{ps:List CsA}{B0 f ic k:Nat}{w:World}
theorem CsM.dsl{p:CsA}(h:CsM f ds p): ds.length=f:=by
 obtain⟨o,C,u⟩:=h;have e:(p.1.ds.length:Int)=p.1.f:=o.chk.2.2.2.2.1;rw[o.fF.1,u,C]at e;omega
theorem GV.hd{iv:Value}(h:GV 5 (InG f ds) w iv ps)(hp:∀ p∈ps,CsM f ds p)(h1:1<=ps.length):
  ∃(IA:Option Addr) (ic:Nat) (xc:Nat->List Value) (D:Option Addr) (dc:Nat),iv=.slice IA ps.length ic/\InsM w IA f ds (ps.map λp=>Xg p.1 p.2) xc/\Rd w 5 IA ps.length (Qk ps.length xc)/\BoolsV w (.slice D ds.length dc) ds /\
   (∀ W,Ext w W->W.cell? ((adr IA (0*5)).add 1)=some (.int .i64 (f:Int)))/\∀ W,Ext w W->W.cell? ((adr IA (0*5)).add 2)=some (.slice D ds.length dc):=by
 obtain⟨IA,ic,xc,rfl,O,G⟩:=GV.insM h hp;obtain⟨D,Q,T,dc,pc,Z,ts,C⟩:=(G.el 0 (by rw[List.length_map];exact h1)).inF;have o:=G.rd;rw[List.length_map]at o;have u:∀ i,i<ps.length->(xc i).length=5:=λi hi=>by
  obtain⟨_,_,_,_,_,_,_,C⟩:=(G.el i (by rw[List.length_map];exact hi)).inF;rw[C.e];rfl
 refine⟨IA,ic,xc,D,dc,rfl,G,o,⟨D,dc,rfl,C.dl.1,C.dl.2,C.d⟩,λW J=>?_,λW J=>?_⟩
 .rw[Qo];exact(o.ext J).cell (by rw[Vh u h1 (by decide),C.e];rfl)
 rw[Qo];exact(o.ext J).cell (by rw[Vh u h1 (by decide),C.e];rfl)
theorem InsM.bld{IA:Option Addr}{xc:Nat->List Value}(hI:InsM w IA f ds (ps.map λp=>Xg p.1 p.2) xc)(hTB:TB B0 w)(hp:∀ p∈ps,CsM f ds p)(h1:1<=ps.length)(h3:ps.length<=3):
  Ret Tryz.prog 12 [.slice IA ps.length ic] w λu w'=>Ext w w'/\∃(cs:List Value) (st:Int) (D:UD),u=.tuple #[.agg cs.toArray,.int .i64 st,.int .i64 0]/\UnV w' D cs/\D.k=ps.length/\D.f=f/\D.ds=ds/\D.U=Yt ds (sgl ps)/\D.M=(λs=>Qh (pick (sgl ps) s).flatten)/\D.Hm=mxR D.n (λi=>Qy D.f λv=>hmB (D.BB i v)):=by
 rw[<-Jfq hp]at hI;obtain⟨p,o⟩:=List.exists_mem_of_length_pos h1;have:=Jrl (c:=ic) hTB (Jvd h1 h3 hp) (hp p o).dsl hI;rwa [Iv]at this
theorem Xbb(hp:∀ p∈ps,CsM f ds p)(h3:ps.length<=3): (Yt ds (sgl ps)).length<=15000:=by
 have o:=Jyz (Jvr ds (sgl ps));rw[Jlw ps f ds hp]at o;have C:(ps.flatMap λp=>p.1.ans).length<=ps.length*5000:=by
  clear o h3;induction ps with
  | nil=>exact nR _
  | cons p ps ih=>
   rw[List.flatMap_cons,List.length_append,List.length_cons,Nat.succ_mul];have:=(hp p mC).1.anl;have:=ih λq u=>hp q (List.mem_cons_of_mem _ u);omega
 omega
theorem Xyx(hp:∀ p∈ps,CsM f ds p){y:Row}(hy:y∈Yt ds (sgl ps)): y.length=f:=by
 rw[(Jvr ds (sgl ps)).2 y,Jlw ps f ds hp]at hy;obtain⟨p,o,hy⟩:=List.mem_flatMap.1 hy;rw[(hp p o).1.arow hy,(hp p o).2.1]
theorem Xqp{M:Nat->List Row}(hp:∀ p∈ps,CsM f ds p)(h1:1<=ps.length)(h3:ps.length<=3)(hk:k=ps.length)(hM:M=λs=>Qh (pick (sgl ps) s).flatten)(q:Row): Xe (λi=>decide (q∈M (2^i))) k=Xe (Km (sgl ps) q) ps.length:=by
 have:=(Jvd h1 h3 hp).mems q;rw[Iv]at this;rw[hk,hM];exact this
end Go.Proofs.YtbcdghbonlifdaaGreatDoor
namespace Go.Proofs.YtbcdghbonlifdaaGreatDoor
open Go.RowKit Pl Go.Wk Go.ChangeShapes Go.WideShapes
section
variable {H:Type} {enc:TypeId×Value->H} {w:World} {base b0:Nat} {spare:Nat->Bool} {held:Bool}
def Qcl(w:World)(v:Value): Prop:=∃(A:Option Addr) (c:Nat) (l:List Cse) (xc:Nat->List Value),v=.slice A l.length c/\CsesV w A l xc/\∀ c∈l,∀ i,i<c.rss.length->∀ r∈c.rss.getD i [],∀ u∈r,Xb u
theorem Qrg{v:Value}{d:DataW H}{p:List MemPlace}(hv:Value.okWide Tryz.prog w .any b0 22 v)(h:DataW.Trod enc Tryz.prog w base spare held 22 v d p)(hb:Rows.uptoBulk d<=1048576): Qcl w v:=by
 obtain⟨a,len,J,rfl⟩:=okWide_slice Tryz.underlying22 hv;obtain⟨O,hf⟩:=h;obtain⟨ps,A,c,e,D,C,h3,h4⟩:=Jjs (sz:=6) (λp:List Value×Cse=>p.1) (λp=>CseV w p.1 p.2/\∀ i,i<p.2.rss.length->∀ r∈p.2.rss.getD i [],∀ u∈r,Xb u) Tryz.underlying22 kr hb (λn G y Z hb=>by
  obtain⟨c,D,C⟩:=Qrh Z hb;exact⟨(G,c),rfl,D,C⟩) hf
 have e':Value.slice a len J=.slice A ps.length c:=by injection e
 refine⟨A,c,ps.map (·.2),λi=>(ps.getD i ([],c0)).1,by rw[List.length_map];exact e',⟨by rw[List.length_map,<-Jlz c0];exact D,λi hi=>?_⟩,λc hc=>?_⟩
 .have o:i<ps.length:=by rwa [List.length_map]at hi
  rw[Xxd (·.2) ps ([],c0) c0 o]
  exact(C _ (getD_mem' _ _ o)).1
 obtain⟨p,hp,rfl⟩:=List.mem_map.1 hc;exact(C p hp).2
end
open Go.RowKit Pl Go.Wk
attribute [local irreducible] WC WL QX WD WDB WP WN WG WH WM
variable {p q:CsA}{ds:List Bool}{ps:List CsA}{B0 c f i:Nat}{xc:Nat->List Value}{A:Option Addr}{W w:World}
theorem InsM.cell{w W:World}{A:Option Addr}{f i j:Nat}{ds:List Bool}{Ms:List UMem}{xc:Nat->List Value}{u:Value}(h:InsM w A f ds Ms xc)(hx:Ext w W)(hi:i<Ms.length)(hu:(xc i)[j]?=some u): W.cell? ((adr A (i*5)).add j)=some u:=by
 have o:∀ i,i<Ms.length->(xc i).length=5:=λi hi=>by
  obtain⟨_,_,_,_,_,_,_,D⟩:=(h.el i hi).inF;rw[D.e];rfl
 have C:j<5:=by
  rcases Nat.lt_or_ge j 5 with h'|h'
  .exact h'
  rw[List.getElem?_eq_none (by rw[o i hi];omega)]at hu;cases hu
 rw[Qo];exact(h.rd.ext hx).cell (by rw[Vh o hi C];exact hu)
theorem Qfs(h:∀ x∈[p,q],CsM f ds x): (Yt ds (sgl [p,q])).length+(Qh [p,q]).length=(Qh [p]).length+(Qh [q]).length:=by
 have u:=(Jvd (Nat.le_succ _) (Nat.le_succ _) h).unp.signed λ_=>true;have o:∀ l:List Row,(l.filter λ_=>true)=l:=λl=>List.filter_eq_self.2 λ_ _=>rfl;simp only[o]at u;have D:sgP (λs=>(Qh (pick (sgl [p,q]) s).flatten).length) 3=0+(Qh [p]).length+(Qh [q]).length:=by
  have O:pick (sgl [p,q]) 1=[[p]]:=by
   unfold pick Zt;rw[show(sgl [p,q]).length=2 from rfl,show List.filter (λi=>Nat.testBit 1 i) (List.range 2)=[0] by decide];rfl
  have J:pick (sgl [p,q]) 2=[[q]]:=by
   unfold pick Zt;rw[show(sgl [p,q]).length=2 from rfl,show List.filter (λi=>Nat.testBit 2 i) (List.range 2)=[1] by decide];rfl
  simp only[sgP,show Gq 1=true from rfl,show Gq 2=true from rfl,show Gq 3=false from rfl,if_true,O,J];rfl
 have C:sgM (λs=>(Qh (pick (sgl [p,q]) s).flatten).length) 3=0+(Qh [p,q]).length:=by
  have G:pick (sgl [p,q]) 3=[[p],[q]]:=by
   unfold pick Zt;rw[show(sgl [p,q]).length=2 from rfl,show List.filter (λi=>Nat.testBit 3 i) (List.range 2)=[0,1] by decide];rfl
  simp only[sgM,show Gq 1=true from rfl,show Gq 2=true from rfl,show Gq 3=false from rfl,if_true,G];rfl
 rw[show 2^(sgl [p,q]).length-1=3 from rfl,D,C]at u;omega
theorem InsM.build1(hI:InsM w A f ds (ps.map λp=>Xg p.1 p.2) xc)(hx:Ext w W)(hTB:TB B0 W)(hps:∀ p∈ps,CsM f ds p)(hi:ps[i]?=some p):
  Ret Tryz.prog 29 [.agg (xc i).toArray] W λu w'=>Ext W w'/\∃(x:Value) (st:Int) (kf:Nat->Nat) (pf:Nat->Int) (BB:Nat->List BkT) (tot:Nat),u=.tuple #[x,.int .i64 st,.int .i64 0]/\IxA w' x f ds kf pf BB tot (Qh [p]):=by
 have hp:=hps p (List.mem_of_getElem? hi);have D:i<ps.length:=(List.getElem?_eq_some_iff.1 hi).1;have o:=(hI.el i (by rw[List.length_map];exact D)).ext hx;have e:(ps.map λp=>Xg p.1 p.2).getD i um0=Qa f (Qv [p]):=by
  obtain⟨J,G,_⟩:=hp;rw[List.getD,List.getElem?_map,hi];exact(Qzb (by rw[<-G];exact J.uok.pm.fn)).symm
 rw[e]at o;refine(Jmt hTB (ms:=[p]) (λq C=>by rw[List.mem_singleton.1 C];exact hp) hp.dsl (List.cons_ne_nil _ _) (Nat.le_add_left 1 3) ⟨_,rfl,o⟩).mono ?_;rintro u w' ⟨hx,x,st,kf,pf,BB,tot,e,h,_⟩;exact⟨hx,x,st,kf,pf,BB,tot,e,h⟩
theorem Xyz(hp:∀ p∈ps,CsM f ds p){y:Row}(hy:y∈Yt ds (sgl ps)): Xe (Km (sgl ps) y) ps.length≠0:=by
 intro h0;rw[Qsq]at h0;obtain⟨g,u,o⟩:=anyL_mem.1 hy;obtain⟨i,hi,rfl⟩:=List.getElem_of_mem u;have:=h0 i (by rw[<-Iv];exact hi);unfold Km at this;rw[List.getD,List.getElem?_eq_getElem hi]at this;exact oF this o
theorem Qfg{l:List Cse}(hTB:TB B0 w)(hL:CsesV w A l xc)(hfit:∀ c∈l,∀ i,i<c.rss.length->∀ r∈c.rss.getD i [],∀ u∈r,Xb u):
  Ret Tryz.prog 6 [.slice A l.length c] w λu w'=>u=.bool true/\Ext w w':=by
 refine Jz Tryz.func6 Tryz.ntmps6 rfl kr rfl ?_;refine ρ ?_;refine cl (Qtc hL hfit) ?_;rintro u w1 ⟨O,hm⟩;rcases hm with rfl|⟨ps,iv,rv,rfl,h1,h3,hmp,hps,hiv,hrv⟩
 .refine ρ ?_;refine cl (Jnj (hTB.ext O)) ?_;rintro _ w2 ⟨rfl,aw⟩;refine ρ ?_;exact Jj ⟨rfl,O.trans aw⟩
 obtain⟨f,hf⟩:∃ f,f=(l.getD 0 c0).F:=⟨_,rfl⟩;obtain⟨ds,hd⟩:∃ ds,ds=(l.getD 0 c0).ds:=⟨_,rfl⟩;rw[<-hf,<-hd]at hps hiv;have et:ps.length=l.length:=by rw[<-hmp,List.length_map]
 refine ρ ?_;refine ci (λh=>?_) (λh=>?_)
 .clear h;refine ρ ?_;refine cl (Jnj (hTB.ext O)) ?_;rintro _ w2 ⟨rfl,aw⟩;refine ρ ?_;exact Jj ⟨rfl,O.trans aw⟩
 have d9:ps.length=2:=by have:=Gj h;omega
 clear h;have g1:1<=ps.length:=om
 have g3:ps.length<=3:=om
 obtain⟨IA,ic,yc,D,dc,rfl,hI,c9,ey,f0,ez⟩:=GV.hd hiv hps g1;obtain⟨p,q,ak⟩:∃ p q,ps=[p,q]:=by
  match ps,d9 with
  | [p,q],_=>exact⟨p,q,rfl⟩
 have de:(sgl ps).flatten=ps:=by rw[ak];rfl
 have cj:ds.length=f:=(hps _ (List.getElem_mem g1)).dsl;refine ρ ?_;refine cl (hI.bld (ic:=ic) (hTB.ext O) hps g1 g3) ?_;rintro u w2 ⟨aw,cs,st,U,rfl,cn,dm,dq,f2,am,dt,_⟩;obtain⟨DA,f3,MA,mc,SA,sl,sc,e0,_⟩:=id cn.ex;subst e0;refine ρ ?_;refine alc Jzs ?_;intro w3 b6 d3 di dz;refine ρ ?_;refine stW dz ?_;intro w4 aj ew d2;have b8:Ext w2 w4:=d2 w2 d3 di;have ai:=aw.trans b8;refine ρ ?_;have dv:=Jvd g1 g3 hps;have cq:=hI.ext ai;rw[<-Jfq hps]at cq;have co:=dv.hs.meet_any (c:=ic) cj cq;rw[Iv,de]at co;refine cl co ?_;rintro u w5 ⟨d1,en,rfl,ch⟩;obtain⟨_,_,_,_,_,_,_,hF⟩:=ch.inF;have du:=hF.e;subst du;refine ρ ?_;refine alc Yh ?_;intro w6 b9 d0 dh dx;refine ρ ?_;refine stW dx ?_;intro w7 cw eu cz;have b4:Ext w5 w7:=cz w5 d0 dh;have ae:=d1.trans b4;have J:=ai.trans ae;have cg:=ch.ext b4;obtain⟨_,_,_,_,_,_,_,cv⟩:=(hI.el 0 (by rw[List.length_map];exact g1)).inF;obtain⟨_,_,_,_,_,_,_,cr⟩:=(hI.el 1 (by rw[List.length_map];omega)).inF
 refine ρ ?_;refine ixq 5 0 (c9.ext J) g1 ?_;refine ρ ?_;refine lds (λj u hu=>hI.cell J (i:=0) (by rw[List.length_map];exact g1) (by rw[cv.e];exact hu)) ?_;refine ρ ?_;have cm:=hI.build1 J (hTB.ext (O.trans J)) hps (i:=0) (p:=p) (by rw[ak];rfl);rw[cv.e]at cm;refine cl cm ?_;rintro u w8 ⟨bz,xa,sta,er,em,f9,ab,rfl,a9⟩;obtain⟨_,_,_,_,_,_,_,_,eh,_,_,rfl,_,_,_,_,_,_,c6,_⟩:=id a9.ix.ex;obtain⟨_,_,rfl,_⟩:=id c6;refine ρ ?_;refine alc Gl ?_;intro w9 f6 b3 be cc;refine ρ ?_;refine stW cc ?_;intro bw bo dd ap;have a1:Ext w7 bw:=bz.trans (ap w8 b3 be);have a9:=a9.ext (ap w8 b3 be);have ah:=J.trans a1;refine ρ ?_;refine ixq 5 1 (c9.ext ah) om ?_;refine ρ ?_;refine lds (λj u hu=>hI.cell ah (i:=1) (by rw[List.length_map];omega) (by rw[cr.e];exact hu)) ?_;refine ρ ?_;have ck:=hI.build1 ah (hTB.ext (O.trans ah)) hps (i:=1) (p:=q) (by rw[ak];rfl);rw[cr.e]at ck;refine cl ck ?_;rintro u bs ⟨bh,xb,stb,ep,ek,f8,aa,rfl,a8⟩
 obtain⟨_,_,_,_,_,_,_,_,eg,_,_,rfl,_,_,_,_,_,_,c5,_⟩:=id a8.ix.ex;obtain⟨_,_,rfl,_⟩:=id c5;refine ρ ?_;refine alc Gl ?_;intro ee f5 ar bd cb;refine ρ ?_;refine stW cb ?_;intro br bn db ao;have G:Ext bw br:=bh.trans (ao bs ar bd);have a8:=a8.ext (ao bs ar bd);have ad:=a1.trans G;have c3:=J.trans ad;refine ρ ?_;refine ldW (cw.ext ad) ?_;refine ρ ?_;refine cl (Jmt (hTB.ext (O.trans c3)) hps cj (by rw[ak];exact List.cons_ne_nil _ _) om ⟨_,rfl,cg.ext ad⟩) ?_;rintro u bq ⟨bg,xc,ei,eo,ej,f7,b2,rfl,a7,_⟩;obtain⟨_,_,_,_,_,_,_,_,ef,_,_,rfl,_,_,_,_,_,_,c4,_⟩:=id a7.ix.ex;obtain⟨_,_,rfl,_⟩:=id c4;refine ρ ?_;refine alc Gl ?_;intro ed f4 aq bc ca;refine ρ ?_;refine stW ca ?_;intro ay bm da an;have C:Ext br ay:=bg.trans (an bq aq bc);have a7:=a7.ext (an bq aq bc);refine ρ ?_;have ac:=ad.trans C;have a2:Ext ay ay.drew:=(Ext.refl ay).drew;have e2:=(J.trans ac).trans a2;have b1:=cn.ext b8
 have dn:=(b1.ext (ae.trans ac)).ext a2;have dw:=(aj.ext (ae.trans ac)).ext a2;refine dr [(0,0),(0,1),(0,2),(0,3),(0,4),(0,5),(0,6),(0,7),(0,8),(0,9),(0,10),(0,11),(0,12),(0,13),(0,14),(0,15),(0,16),(0,17),(0,18),(0,19),(0,21),(0,24),(0,26),(1,20),(1,22),(1,23),(1,25),(1,27),(1,28),(1,29),(0,30),(0,31)] kr ?_;refine ρd ?_;refine Jo (λj u hu=>dw.at hu) ?_;refine ρd ?_;refine Jo (λj u hu=>(bm.ext a2).at hu) ?_;refine ρd ?_;refine Jo (λj u hu=>((bo.ext (G.trans C)).ext a2).at hu) ?_;refine ρd ?_;refine Jo (λj u hu=>((bn.ext C).ext a2).at hu) ?_;refine ρd ?_;refine dcl (Jfc dn) ?_;rintro n1 ec ⟨ce,a5⟩;refine⟨a5,?_⟩;refine ρd ?_;refine dcl (Jxx (((a7.ix).ext a2).ext a5) a7.ip.nbT) ?_;rintro n2 eb ⟨d8,_,ax⟩;refine⟨ax,?_⟩;refine ρd ?_;have dl:=Xbb hps g3;have df:b2=(Qh ps).length:=a7.ip.len;have dk:ab=(Qh [p]).length:=a9.ip.len;have dg:aa=(Qh [q]).length:=a8.ip.len
 have htwo:(Yt ds (sgl ps)).length+b2=ab+aa:=by
  rw[df,dk,dg,ak];exact Qfs (λx hx=>hps x (ak ▸ hx))
 rw[am]at ce;refine dcl (Jhm (ce.ext ax) d8 (Jqd om) a7.ip.nbT.len) ?_;rintro n3 ea ⟨d7,bb⟩;refine⟨bb,?_⟩;refine ρd ?_;have a6:=(a2.trans a5).trans (ax.trans bb);refine dcl (Jxx (a9.ix.ext (((G.trans C)).trans a6)) a9.ip.nbT) ?_;rintro n4 e9 ⟨d6,_,ag⟩;refine⟨ag,?_⟩;refine ρd ?_;refine dcl (Jxx (a8.ix.ext ((C.trans a6).trans ag)) a8.ip.nbT) ?_;rintro n5 e8 ⟨d5,_,af⟩;refine⟨af,?_⟩;refine ρd ?_;refine dcl (Jhm (d6.ext af) d5 a9.ip.nbT.len a8.ip.nbT.len) ?_;rintro n6 e7 ⟨d4,av⟩;refine⟨av,?_⟩;refine ρd ?_;refine dcl (Jkz (d7.ext ((ag.trans af).trans av)) d4) ?_;rintro _ e6 ⟨rfl,ba⟩;rw[htwo,show Yq (ab+aa) (ab+aa)=0 from cmpN_z.2 rfl];refine⟨ba,?_⟩;have bl:=a6.trans (((ag.trans af).trans av).trans ba);have au:=(ae.trans ac).trans bl;refine ρd ?_;refine ρ ?_;refine ldW (aj.ext au) ?_;refine ρ ?_;refine cl (Jfc (b1.ext au)) ?_;rintro n7 e5 ⟨cd,bj⟩
 rw[am]at cd;refine ρ ?_;refine cl (Qsf cd om) ?_;rintro _ cy ⟨rfl,rfl⟩;have c1:=au.trans bj;obtain⟨L,cp⟩:∃ L,L=Yt ds (sgl ps):=⟨_,rfl⟩;rw[<-cp]at am dl ⊢;refine ρ ?_;refine Qf (fun (i:Nat)=>[(2,.bool false),(6,.pointer (some ⟨b6,0,none⟩)),(21,.bool true),(111,.int .u64 (L.length:Int)),(112,.int .u64 (i:Int))])
  (λi w'=>i<=L.length/\Ext cy w') (λi=>L.length-i) 0 sB ⟨Nat.zero_le _,Ext.refl _⟩ ?_
 rintro i bf ⟨hi,b7⟩;have Z:=c1.trans b7;refine ρ ?_;refine ci (λh=>?_) (λh=>?_)
 .have li:i<L.length:=by have:=oT h;omega
  clear h;have bi:Ext bf bf.drew:=(Ext.refl bf).drew;refine ρ ?_;refine dr [(0,0),(0,1),(1,2),(1,3),(0,4),(0,5),(0,6),(0,7),(0,8),(0,9),(0,10)] kr ?_;refine ρd ?_;refine Jo (λj u hu=>((aj.ext Z).ext bi).at hu) ?_;refine ρd ?_;refine dcl (Jxt i om _) ?_;rintro o cx ⟨ho,_,a3⟩;refine⟨a3,?_⟩;refine ρd ?_;have bp:=((b1.ext Z).ext bi).ext a3;refine dcl (Jrm bp ho bp.sz (nR _) bp.f32) ?_;rintro u e4 ⟨b5,_,dj⟩;obtain⟨RA,rc,e1,rfl,hR,c8,_⟩:=dj (by rw[am];exact li);rw[am]at hR c8;refine⟨b5,?_⟩;have a4:=(bi.trans a3).trans b5;refine ρd ?_;refine ρ ?_;rw[am];refine ldW (aj.ext (Z.trans a4)) ?_;refine ρ ?_;refine cl (Jrk (b1.ext (Z.trans a4)) hR c8) ?_;rintro _ e3 ⟨c2,rfl⟩;have c7:L.getD i []∈Yt ds (sgl ps):=cp ▸ getD_mem' [] _ li;rw[if_pos (show(L.getD i []).length=U.f by rw[dq];exact Xyx hps c7),Xqp hps g1 g3 dm dt];have h0:=Xyz hps c7
  refine ρ ?_;refine ci (λh=>?_) (λh=>?_)
  .exact absurd (Xa h) om
  clear h;refine ρ ?_;rw[Gm (z:=(i:Int)+1) om];exact Qw (i+1) sO ⟨li,(b7.trans a4).trans c2⟩ om
 refine ρ ?_;refine cl (Jnj (hTB.ext ((O.trans ai).trans Z))) ?_;rintro _ cx ⟨rfl,a3⟩;refine ρ ?_;exact Jj ⟨rfl,((O.trans ai).trans Z).trans a3⟩
end Go.Proofs.YtbcdghbonlifdaaGreatDoor
namespace Go.Proofs.YtbcdghbonlifdaaGreatDoor
open Go.RowKit Pl Go.Wk Go.ChangeShapes Go.WideShapes
theorem Qff{B0:Nat}{w:World}{v:Value}(hTB:TB B0 w)(h:Qcl w v): Ret Tryz.prog 6 [v] w λu w'=>u=.bool true/\Ext w w':=by
 obtain⟨A,c,l,D,rfl,C,o⟩:=h;exact Qfg hTB C o
end Go.Proofs.YtbcdghbonlifdaaGreatDoor
