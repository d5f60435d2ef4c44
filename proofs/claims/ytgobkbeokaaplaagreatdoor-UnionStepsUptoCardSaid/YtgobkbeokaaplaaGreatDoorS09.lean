/- Part 9. -/
import Derived.Test.YtgobkbeokaaplaaGreatDoorS08
import Derived.OpenShut
set_option linter.unusedVariables false
set_option maxRecDepth 100000
set_option maxHeartbeats 40000000
namespace Go.Proofs.YtgobkbeokaaplaaGreatDoor
open Go.RowKit Pl Go.Wk
attribute [local irreducible] WC WL QX WD WDB WP WN WG WH WM
variable {gs:List (List CsA)}{ds:List Bool}{B0 c f s:Nat}{xc:Nat->List Value}{A:Option Addr}{α β:Type}{v x:Value}{W w:World}
structure IxD where
 s: Nat
 kf:Nat->Nat
 pf:Nat->Int
 BB:Nat->List BkT
 tot:Nat
def IxG(f:Nat)(ds:List Bool)(gs:List (List CsA))(w:World)(cs:List Value)(d:IxD): Prop:=IxA w (.agg cs.toArray) f ds d.kf d.pf d.BB d.tot (Xa (pick gs d.s).flatten)/\BBp f ds (pick gs d.s).flatten d.BB
theorem IxA.on{kf:Nat->Nat}{pf:Nat->Int}{BB:Nat->List BkT}{tot:Nat}{L:List Row}(h:IxA w x f ds kf pf BB tot L)(hv:IxV W x f ds kf pf BB tot)(tb:∃ B0,TB B0 W): IxA W x f ds kf pf BB tot L:=⟨tb,hv,h.ip,h.ho,h.hb⟩
theorem Qbc{ms:List CsA}(hTB:TB B0 w)(h:∀ p∈ms,CsM f ds p)(hds:ds.length=f)(hne:ms≠[])(h4:ms.length<=4)(hv:InV w v (Vy f ds (Qp f (Je ms)))):
  Ret Tryz.prog 22 [v] w λu w'=>Ext w w'/\∃(x:Value) (st:Int) (kf:Nat->Nat) (pf:Nat->Int) (BB:Nat->List BkT) (tot:Nat),u=.tuple #[x,.int .i64 st,.int .i64 0]/\IxA w' x f ds kf pf BB tot (Xa ms)/\Off (λk=>k<w.heap.size) w' (λW=>IxV W x f ds kf pf BB tot)/\BBp f ds ms BB:=by
 obtain⟨ts,j,hB⟩:=Xxk hv hds;have D:Je ms≠[]:=λe=>hne (List.map_eq_nil_iff.1 e);have O:(Je ms).length<=4:=by simpa [Je] using h4
 have hI:=jBldI (ds:=ds) (ts:=ts) (Jkp h) hds D O j;have C:ts.length=(jAs f 0 (Je ms)).length:=by have:=congrArg List.length j;grind [Qp]
 refine(Xqq hTB hI hB).mono ?_;rintro u w' ⟨Z,x,st,kf,pf,R,rfl,hE,o⟩;obtain⟨hL,hl,J⟩:=Xww h hne C;refine⟨Z,x,st,kf,pf,_,_,rfl,Xqt ⟨B0,hTB.ext Z⟩ hI (λi hi=>?_) hE o.here hL J om,λW hW=>(o W hW).congr λv hv=>by grind [BBx],kf,pf,R,by rw[<-C];exact hE,by rw[j];rfl⟩;rw[j];have G:i<(jAs f 0 (Je ms)).length:=C ▸ hi;show((jAs f 0 (Je ms)).map toAtm |>.getD i a0).rows=_;simp[rwL,List.getD,G,toAtm]
theorem Jmp(d:α)(ps:List (List Value×α)): Qj ps=Qh ps.length λi=>(ps.getD i ([],d)).1:=by
 have key:∀ n,n<=ps.length->Qj (ps.take n)=Qh n λi=>(ps.getD i ([],d)).1:=by
  intro n;induction n with
  | zero=>intro _;rfl
  | succ n ih=>
   grind [Qn,Ij,Qj]
 grind
theorem InsM.of{ps:List (List Value×UMem)}(hr:Rd w 5 A ps.length (Qj ps))(he:∀ p∈ps,InC w (Vy f ds p.2) p.1): InsM w A f ds (ps.map (·.2)) λi=>(ps.getD i ([],um0)).1:=by
 refine⟨by rw[List.length_map,<-Jmp um0];exact hr,λi hi=>?_⟩;grind
theorem InsM.its{Ms:List UMem}(h:InsM w A f ds Ms xc): ∃ ps:List (List Value×UMem),ps.map (·.2)=Ms/\ps.length=Ms.length/\(∀ i,i<Ms.length->ps.getD i ([],um0)=(xc i,Ms.getD i um0))/\∀ p∈ps,InC w (Vy f ds p.2) p.1:=by
 refine⟨(List.range Ms.length).map λi=>(xc i,Ms.getD i um0),?_,by simp,λi hi=>by simp[List.getD,hi],λp hp=>?_⟩
 .rw[List.map_map];refine List.ext_getElem (by simp) λi o j=>?_;simp[List.getD,j]
 obtain⟨i,hi,rfl⟩:=List.mem_map.1 hp;exact h.el i (List.mem_range.1 hi)
theorem Qrf(g:α->β)(l:List α)(s i:Nat): Zl (l.map g) s i=(Zl l s i).map g:=by grind [Zl]
theorem Jcc(g:α->β)(l:List α)(s:Nat): pick (l.map g) s=(pick l s).map g:=by
 unfold pick;rw[List.length_map,Qrf]
theorem Qzp(hs:List (List CsA)): Qp f (hs.map λg=>Qp f (Je g))=Qp f (Je hs.flatten):=by
 have i:=Qzq (f:=f) (s:=0) (Gs:=hs.map Je);have e:(hs.map Je).map (Qp f)=hs.map λg=>Qp f (Je g):=by rw[List.map_map];rfl
 have j:(hs.map Je).flatten=Je hs.flatten:=by unfold Je;rw[List.map_flatten]
 grind [Qp]
theorem Jbr: ∀ s,s<8->∀ i,i<3->(bits .and .i64 (((s:Nat):Int).fdiv (2^min (((i:Nat):Int)).toNat IntKind.i64.bits)) 1 == 1)=s.testBit i:=by decide
def mxR: Nat->(Nat->Nat)->Nat
 | 0,_=>0
 | n+1,g=>max (mxR n g) (g n)
theorem Jzj{g:Nat->Nat}: ∀ {n i:Nat},i<n->g i<=mxR n g
 | n+1,i,h=>by
  rw[mxR];rcases Nat.lt_or_ge i n with h1|h1
  .have:=Jzj (g:=g) h1;omega
  repeat grind
theorem Ka{g:Nat->Nat}{B:Nat}: ∀ {n:Nat},(∀ i,i<n->g i<=B)->mxR n g<=B
 | 0,_=>Nat.zero_le _
 | n+1,h=>by
  have h1:=Ka (g:=g) (n:=n) λi hi=>h i om;grind [mxR]
theorem Jsz{g:Nat->Nat}{B:Nat}(h:∀ i,g i<=B): ∀ n,Qd n g<=n*B
 | 0=>Nat.zero_le _
 | n+1=>by
  have h1:=Jsz h n;grind [Qd,Nat.succ_mul]
def Vv: IxD:=⟨0,λ_=>0,λ_=>0,λ_=>[],0⟩
structure HsOk(hs:List (List CsA))(f:Nat)(ds:List Bool): Prop where
 nil:hs≠[]
 c3:hs.length<=3
 c4:hs.flatten.length<=4
 ne:∀ g∈hs,g≠[]
 ok:∀ g∈hs,∀ p∈g,CsM f ds p
theorem CsU.hs(h:CsU gs f ds): HsOk gs f ds:=⟨λe=>by have:=h.c1;grind,h.c3,h.c4,h.ne,h.ok⟩
theorem CsU.hp(h:CsU gs f ds)(h1:1<=s)(h2:s<2^gs.length): HsOk (pick gs s) f ds :=
 ⟨Qqs h1 h2,Nat.le_trans Qrd h.c3,h.p4,λg i=>h.ne g (pick_sub.subset i),λg i=>h.ok g (pick_sub.subset i)⟩
section
variable {hs:List (List CsA)} {f:Nat} {ds:List Bool} (h:HsOk hs f ds)
include h
theorem HsOk.fok: ∀ p∈hs.flatten,CsM f ds p:=λp hp=>by
 obtain⟨g,j,i⟩:=List.mem_flatten.1 hp;exact h.ok g j p i
theorem HsOk.fne: hs.flatten≠[]:=by
 obtain⟨g,i⟩:=List.exists_mem_of_ne_nil _ h.nil;obtain⟨p,hp⟩:=List.exists_mem_of_ne_nil _ (h.ne g i);exact List.ne_nil_of_mem (List.mem_flatten.2 ⟨g,i,hp⟩)
theorem HsOk.meet(hds:ds.length=f): (∀ M∈hs.map (λg=>Qp f (Je g)),UMt f ds M)/\jN f 0 (hs.map λg=>Qp f (Je g))<=32/\(jPm f 0 (hs.map λg=>Qp f (Je g))).length<=1000/\(jAs f 0 (hs.map λg=>Qp f (Je g))).length<=1000:=by
 have e:=Qzp (f:=f) hs;have G:jN f 0 (hs.map λg=>Qp f (Je g))=jN f 0 (Je hs.flatten):=congrArg UMem.N e;have D:jPm f 0 (hs.map λg=>Qp f (Je g))=jPm f 0 (Je hs.flatten):=congrArg UMem.perm e;have C:jAs f 0 (hs.map λg=>Qp f (Je g))=jAs f 0 (Je hs.flatten):=congrArg UMem.ats e;have i:=Jkp h.fok;have o:(Je hs.flatten).length<=4:=by rw[Je,List.length_map];exact h.c4
 have J:=(Qyp i hds (λe=>h.fne (List.map_eq_nil_iff.1 e)) o).1;have O:=Jvb (s:=0) i;have hp:=(Jls (s:=0) i).1;refine⟨λM u=>?_,by rw[G];omega,by rw[D];omega,by rw[C];omega⟩;obtain⟨g,j,rfl⟩:=List.mem_map.1 u;refine Xqh (Jkp (h.ok g j)) hds (λe=>h.ne g j (List.map_eq_nil_iff.1 e)) ?_;have Z:=flat_len (List.singleton_sublist.2 j);grind [Je,List.length_map]
theorem HsOk.meet_any(hds:ds.length=f)(hI:InsM w A f ds (hs.map λg=>Qp f (Je g)) xc):
  Ret Tryz.prog 14 [.slice A hs.length c] w λu w'=>Ext w w'/\∃ cs,u=.tuple #[.agg cs.toArray,.int .i64 0]/\InC w' (Vy f ds (Qp f (Je hs.flatten))) cs:=by
 obtain⟨C,o,j,i⟩:=h.meet hds;have:=Qgk (c:=c) hI C (λe=>h.nil (List.map_eq_nil_iff.1 e)) (by rw[List.length_map];exact h.c3) o j i;grind [List.length_map,Qzp]
end
theorem Jdx(n f:Int)(A B C:Option Addr)(a b c a' b' c':Nat)(w:World): (Instr.buildSlice 24 1 #[(0,.agg #[.int .i64 n,.int .i64 f,.slice A a a',.slice B b b',.slice C c c'])]).run Tryz.prog w=.ok (.slice (some ⟨w.heap.size,0,none⟩) 1 1) (w.alloc (.cells [Value.int .i64 n,.int .i64 f,.slice A a a',.slice B b b',.slice C c c'].toArray 33)):=kr
theorem bs1Ix(A B C D E:Option Addr)(a b c d e a' b' c' d' e':Nat)(w:World): (Instr.buildSlice 43 1 #[(0,.agg #[.slice A a a',.slice B b b',.slice C c c',.slice D d d',.slice E e e'])]).run Tryz.prog w=.ok (.slice (some ⟨w.heap.size,0,none⟩) 1 1) (w.alloc (.cells [Value.slice A a a',.slice B b b',.slice C c c',.slice D d d',.slice E e e'].toArray 55)):=kr
theorem Jsf(hTB:TB B0 w)(hC:CsU gs f ds)(hds:ds.length=f)(hI:InsM w A f ds (gs.map λg=>Qp f (Je g)) xc):
  Ret Tryz.prog 15 [.slice A gs.length c] w λu w'=>Ext w w'/\∃(cs:List Value) (st:Int) (D:UD),u=.tuple #[.agg cs.toArray,.int .i64 st,.int .i64 0]/\UnV w' D cs/\D.k=gs.length/\D.f=f/\D.ds=ds/\D.U=Jqt ds gs/\D.M=(λs=>Xa (pick gs s).flatten)/\D.Hm=mxR D.n (λi=>Qd D.f λv=>hmB (D.BB i v))/\(∀ i,i<D.n->BBp f ds (pick gs (i+1)).flatten (D.BB i))/\Off (λk=>B0<=k/\k<w.heap.size) w' λW=>UnV W D cs:=by
 have dn:=hC.c1;have dm:=hC.c3;obtain⟨its,hits,c9,b4,ca⟩:=hI.its;rw[List.length_map]at c9 b4;have bs:Rd w 5 A gs.length (Qh gs.length xc):=by have:=hI.rd;rwa [List.length_map]at this
 have bl:∀ {i},i<gs.length->∃ D Q T dc pc tc ts,InF w f ds ((gs.map λg=>Qp f (Je g)).getD i um0) (xc i) D Q T dc pc tc ts:=λhi=>(hI.el _ (by rw[List.length_map];exact hi)).inF;have b3:∀ i,i<gs.length->(xc i).length=5:=λi hi=>by obtain⟨D,Q,T,dc,pc,tc,ts,h⟩:=bl hi;rw[h.e];rfl
 have bf:∀ {W:World} (hx:Ext w W) {i:Nat} (hi:i<gs.length) {j:Nat} {u:Value},(xc i)[j]?=some u->W.cell? ((adr A (i*5)).add j)=some u:=λhx i hi j u hu=>by
  have hj:j<5:=by
   rcases Nat.lt_or_ge j 5 with h'|h'
   .exact h'
   rw[List.getElem?_eq_none (by rw[b3 i hi];omega)]at hu;cases hu
  rw[Xk];exact(bs.ext hx).cell (by rw[Yj b3 hi hj];exact hu)
 have bw:IntKind.i64.wrap (1*2^min ((gs.length:Int)).toNat IntKind.i64.bits)=((2^gs.length:Nat):Int):=by
  have:gs.length=1∨gs.length=2∨gs.length=3:=om
  rcases this with h|h|h<;>rw[h]<;>rfl
 have em:2^gs.length<=8:=Nat.pow_le_pow_right (show 0<2 by omega) dm;have en:2<=2^gs.length:=Nat.pow_le_pow_right (show 0<2 by omega) dn;refine enE Tryz.func15 Tryz.ntmps15 ?_;refine Jv Jkg ?_;intro w1 b2 ba du bi;refine clR (hC.hs.meet_any hds (hI.ext ba)) ?_;rintro u w2 ⟨db,d6,rfl,au⟩;obtain⟨_,_,_,_,_,_,_,hF⟩:=au.inF;have bh:=hF.e;subst bh;refine Jv Yg ?_;intro w3 b5 da dt e1;refine Xj e1 ?_;intro w4 ed er d9;have bn:Ext w2 w4:=d9 w2 da dt;have ae:=db.trans bn;refine Qc (λw=>Qbj w) ?_;intro w5 b7 bm dq e0;refine ρ ?_;have dv:OwnM 55 5 (IxG f ds gs) (λk=>k=b2∨(B0<=k/\k<w.heap.size)) w5 w4.heap.size (.slice (some ⟨b7,0,none⟩) 0 0) []:=⟨[],rfl,e0.own (n:=0) dq rfl (Nat.zero_le _),λp hp=>by cases hp⟩;refine Xr (fun (s:Nat) (xv:Value) (st:Int)=>[(0,.slice A gs.length c),(2,.pointer (some ⟨b2,0,none⟩)),(7,xv),(8,.int .i64 st),(9,.int .i64 (s:Int))])
  (λs xv st w'=>1<=s/\s<=2^gs.length/\Ext w1 w'/\w4.heap.size<=w'.heap.size/\∃ Xd:List IxD,OwnM 55 5 (IxG f ds gs) (λk=>k=b2∨(B0<=k/\k<w.heap.size)) w' w4.heap.size xv Xd/\Xd.length=s-1/\∀ i,i<s-1->(Xd.getD i Vv).s=i+1) (λs _ _=>2^gs.length-s) 1 (.slice (some ⟨b7,0,none⟩) 0 0) 0 sB
  ⟨nR _,om,ae.trans bm,bm.size,[],dv,rfl,λi hi=>absurd hi (Nat.not_lt_zero i)⟩ ?_
 rintro s xv st w6 ⟨df,ej,G,az,Xd,hO,aj,ck⟩;have Z:=ba.trans G;refine ρ ?_;refine Jkk rfl rfl om rfl ?_;refine Go.Wk.kv 32 (congrArg (Value.int .i64) bw) ?_;refine ciR (λh=>?_) (λh=>?_)
 .have ls:s<2^gs.length:=by have:=oT h;omega
  clear h;refine Qc (λw=>Xvs w) ?_;intro w7 e3 ac cj an;refine ρ ?_;refine Qz (fun (i:Nat) (mv:Value)=>[(0,.slice A gs.length c),(2,.pointer (some ⟨b2,0,none⟩)),(7,xv),(8,.int .i64 st),(9,.int .i64 (s:Int)),(10,mv),(37,.slice A gs.length c),(38,.int .i64 (gs.length:Int)),(39,.int .i64 (i:Int))])
   (λi mv w'=>i<=gs.length/\Ext w6 w'/\w'.ownsRow w6.heap.size 33 5 mv (Zl its s i).length (Qj (Zl its s i))) (λi _=>gs.length-i) 0 (.slice (some ⟨e3,0,none⟩) 0 0) sB
   ⟨Nat.zero_le _,ac,an.own (n:=0) cj rfl (Nat.zero_le _)⟩ ?_
  rintro i mv w8 ⟨hi,ad,a1⟩;have af:=Z.trans ad;refine ciR (λh=>?_) (λh=>?_)
  .have li:i<gs.length:=by have:=oT h;omega
   clear h;obtain⟨D,Q,T,dc,pc,tc,ts,dx⟩:=bl li;have bc:=dx.e;refine Qs 5 i (bs.ext af) li ?_;refine Jl (cs:=[.int .i64 (((gs.map λg=>Qp f (Je g)).getD i um0).N:Int),.int .i64 (f:Int),.slice D ds.length dc,.slice Q ((gs.map λg=>Qp f (Je g)).getD i um0).perm.length pc,.slice T ((gs.map λg=>Qp f (Je g)).getD i um0).ats.length tc]) (λj u hu=>bf af li (by rw[bc];exact hu)) ?_;refine Jv Yg ?_;intro w9 f0 ab ch cy;refine Xj cy ?_;intro a3 ay ai O;have a4:Ext w8 a3:=O w8 ab ch;refine ρ ?_;refine Ye rfl rfl om rfl ?_;refine ρ ?_;have C:=ad.trans a4;have b9:i<its.length:=om
   have di:its[i]=(xc i,(gs.map λg=>Qp f (Je g)).getD i um0):=by rw[<-b4 i li,Qf _ its b9]
   refine ci (λh=>?_) (λh=>?_)
   .have hb:s.testBit i=true:=(Jbr s om i om).symm.trans h;clear h;refine Ju ay ?_;refine Qc (Jdx _ _ _ _ _ _ _ _ _ _ _) ?_;intro a9 eu J eb cr;have ek:(Zl its s i).length<=3:=by
     have:=(Jcd (l:=its) (s:=s) i om).length_le;rw[List.length_take]at this;omega
    obtain⟨_,_,_,_,c6⟩:=Jb a1;refine ρ ?_;refine apb (m':=1) (news:=xc i) EInp (Jk (Jk a1 a4) J) (by rw[bc];exact cr.rd (n:=1) rfl) ?_ (by unfold maxLen;omega) om (C.trans J).size ?_
    .rw[bc];intro u hu;simp only[List.mem_cons,List.not_mem_nil,or_false]at hu;rcases hu with rfl|rfl|rfl|rfl|rfl<;>rfl
    intro d5 b8 c7 cc _;refine ρ ?_;refine Jh (i+1) d5 sO ⟨li,Qt (C.trans J) cc (λg e=>(c6 g e).1),?_⟩ om;rw[Jwg b9,if_pos hb,di,List.length_append];have e:Qj (Zl its s i++[(xc i,(gs.map λg=>Qp f (Je g)).getD i um0)])=Qj (Zl its s i)++xc i:=by simp[Qj]
    rw[e];exact c7
   have hb:¬ s.testBit i=true:=λe=>by rw[(Jbr s om i om).symm.trans h]at *;cases e
   clear h;refine ρ ?_;refine Jh (i+1) mv sO ⟨li,C,?_⟩ om;rw[Jwg b9,if_neg hb];exact Jk a1 a4
  have dj:i=its.length:=by have:=oF h;omega
  clear h;rw[dj]at a1;have bz:(pick its s).map (·.2)=(pick gs s).map λg=>Qp f (Je g):=by rw[<-Jcc,hits,Jcc]
  have c2:(pick its s).length=(pick gs s).length:=by have:=congrArg List.length bz;simpa using this
  change w8.ownsRow w6.heap.size 33 5 mv (pick its s).length (Qj (pick its s)) at a1
  rw[c2]at a1;obtain⟨MA,mc,rfl,eo,c6⟩:=Jb a1;have dw:InsM w8 MA f ds ((pick gs s).map λg=>Qp f (Je g)) λi=>((pick its s).getD i ([],um0)).1:=by
   rw[<-bz];refine InsM.of (by rw[c2];exact Rd.own a1) λp hp=>(ca p (pick_sub.subset hp)).ext af
  have bg:=hC.hp df ls;refine clR (bg.meet_any hds dw) ?_;rintro u w9 ⟨ab,d6,rfl,au⟩;obtain⟨D,Q,T,dc,pc,tc,ts,dz⟩:=id au.inF;have bh:=dz.e;subst bh;refine Jv Yg ?_;intro a3 ez O cg cx;refine Xj cx ?_;intro a9 ax e9 J;have aa:Ext w9 a9:=J w9 O cg;have a5:=(ad.trans ab).trans aa;have ag:=Z.trans a5;refine Ju ax ?_;refine clR (Qbc (hTB.ext ag) (λp hp=>hC.pok p hp) hds bg.fne bg.c4 ⟨_,rfl,au.ext aa⟩) ?_;rintro u b8 ⟨br,x,sn,kf,pf,BB,tot,rfl,am,ah,cp⟩;obtain⟨XA,xd,YA,yd,ZA,zd,UA,ud,tv,ei,eh,rfl,_,_,_,_,_,_,dd,_⟩:=id am.ix.ex;obtain⟨TA,d4,rfl,_⟩:=id dd;refine Jv Ib ?_;intro eg ey bq ce cw;refine Xj cw ?_;intro d3 aw e8 bp;have aq:Ext b8 d3:=bp b8 bq ce;refine Ju aw ?_;refine Qc (bs1Ix _ _ _ _ _ _ _ _ _ _ _ _ _ _ _) ?_;intro d2 et bo ea cq;have a7:=aq.trans bo;have o:=(a5.trans br).trans a7;have bb:=Z.trans o;obtain⟨PA,ao,rfl,c5,ar⟩:=hO.form;have d7:=bi.lt;have cz:=G.size
  have e4:=a5.size;have ee:=ae.size;have ec:=hTB.le;have hΦ:Off (λk=>(k=b2∨(B0<=k/\k<w.heap.size))∨(Value.slice PA Xd.length ao).ownBlock=some k) d2 (λu=>IxG f ds gs u [.slice XA f xd,.slice YA f yd,.slice ZA f zd,.slice UA f ud,.slice TA (Jq tot).length d4] ⟨s,kf,pf,BB,tot⟩):=λW hW=>by
   have e5:=ag.size;refine⟨am.on ((ah.ext a7) W (hW.mono λk _ hk=>?_)) ⟨B0,(hTB.ext bb).gr hW λk hk h=>?_⟩,cp⟩
   .rcases hk with(hk|hk)|hk
    .show k<a9.heap.size;omega
    .show k<a9.heap.size;omega
    have:=(ar k hk).2;show k<a9.heap.size;omega
   rcases h with(h|h)|h
   .omega
   .omega
   have:=(ar k h).1;have:=ba.size;omega
  have e6:Xd.length<=7:=om
  refine ρ ?_;refine apM EX5 (Φ:=IxG f ds gs) (hO.ext o) cq rfl (λu hu=>?_) hΦ om om (nL az o.size) ?_
  .simp only[List.mem_cons,List.not_mem_nil,or_false]at hu;rcases hu with rfl|rfl|rfl|rfl|rfl<;>rfl
  intro d0 d1 co b6 e7;have ap:Ext w1 d1:=(GrN.by (N:=λk=>(Value.slice PA Xd.length ao).ownBlock=some k) b6 λk hk=>hk).old (G.trans o) λk hk=>by have:=(ar k hk).1;omega
  refine ρ ?_;refine Qe (s+1) d0 _ sO ⟨om,om,ap,Nat.le_trans (nL az o.size) b6.size,_,co,by rw[List.length_append,aj];simp;omega,λi hi=>?_⟩ om;rcases Nat.lt_or_ge i (s-1) with h1|h1
  .rw[List.getD,List.getElem?_append_left om];exact ck i h1
  have:i=s-1:=om
  subst this;rw[List.getD,List.getElem?_append_right om,aj];simp;omega
 have de:s=2^gs.length:=by have:=oF h;omega
 clear h;subst de;obtain⟨ps,e2,b1,dg⟩:=hO;subst e2;rw[List.length_map]at aj;obtain⟨PA,ao,rfl,c5,ar⟩:=Jb b1;have cb:∀ i,i<ps.length->(ps.map (·.2)).getD i Vv=(ps.getD i ([],Vv)).2:=λi hi=>by simp[List.getD,hi]
 obtain⟨D,hD⟩:∃ D:UD,D=⟨gs.length,f,ds,λs=>Xa (pick gs s).flatten,Jqt ds gs,λi=>(ps.getD i ([],Vv)).1,λi=>(ps.getD i ([],Vv)).2.kf,λi=>(ps.getD i ([],Vv)).2.pf,λi=>(ps.getD i ([],Vv)).2.BB,λi=>(ps.getD i ([],Vv)).2.tot,mxR ps.length (λi=>Qd f λv=>hmB ((ps.getD i ([],Vv)).2.BB v))⟩:=⟨_,rfl⟩;have a8:D.n=ps.length:=by rw[hD,aj];rfl
 have dh:∀ s,(Xa (pick gs s).flatten).length<=5000:=λs=>Qyk hC.pok;have ak:∀ i,i<ps.length->Off (λk=>k=b2∨(B0<=k/\k<w.heap.size)) w6 λW=>IxA W (.agg (ps.getD i ([],Vv)).1.toArray) f ds (ps.getD i ([],Vv)).2.kf (ps.getD i ([],Vv)).2.pf (ps.getD i ([],Vv)).2.BB (ps.getD i ([],Vv)).2.tot (Xa (pick gs (i+1)).flatten)/\BBp f ds (pick gs (i+1)).flatten (ps.getD i ([],Vv)).2.BB:=λi hi W hW=>by
  have h1:=(dg _ (getD_mem' ([],Vv) ps hi)).2 W (hW.mono λk _ hk=>.inl hk);have h2:=ck i om;rw[cb i hi]at h2;unfold IxG at h1;rw[h2]at h1;exact h1
 have am:=λi hi=>(ak i hi).here.1;have a2:PreU w6 D PA:=by
  rw[hD];refine⟨?_,λi hi=>am i (by have h:i<2^gs.length-1:=hi;omega),hC.unp,λi hi=>Jzj (g:=λi=>Qd f λv=>hmB ((ps.getD i ([],Vv)).2.BB v)) (by have h:i<2^gs.length-1:=hi;omega),?_,dh⟩
  .have h1:=Rd.own b1;rw[Jmp Vv]at h1;show Rd w6 5 PA (2^gs.length-1) (Qh (2^gs.length-1) _);rw[<-aj];exact h1
  refine Ka λi hi=>?_;have c8:=am i hi;have h1:=Jsz (g:=λv=>hmB ((ps.getD i ([],Vv)).2.BB v)) (B:=65536) (λv=>Jml λb hb=>c8.hb v b hb) f;have h2:=c8.ip.f32;have h3:f*65536<=32*65536:=nO _ h2;omega
 have cn:=Qgh (mc:=ao) a2;rw[a8,show D.k=gs.length by rw[hD]]at cn;refine clR cn ?_;rintro u w7 ⟨ac,DA,dc,NA,nc,SA,sl,sc,rfl,dl,dk,ah⟩;refine Jv Jkg ?_;intro w8 ew d8 cd cv;refine Xj cv ?_;intro w9 bj ep ab;have a6:Ext w7 w9:=ab w7 d8 cd;refine Ju bj ?_;refine Xj (bi.ext ((G.trans ac).trans a6)) ?_;intro a3 an ai O;have be:GrN (λk=>k=b2) w6 a3:=(GrN.ext (ac.trans a6)).trans (GrN.by ai λj hj=>by injection hj with hj;exact hj.symm);have bd:GrN (λk=>k=b2) w7 a3:=(GrN.ext a6).trans (GrN.by ai λj hj=>by injection hj with hj;exact hj.symm);have d7:=bi.lt;have cz:=G.size;have av:GrN (λk=>k=b2∨(B0<=k/\k<w.heap.size)) w6 a3:=be.mono λk _ h=>.inl h;have ef:=Z.size;have cm:Off (λk=>B0<=k/\k<w.heap.size) a3 λW=>UnV W D [.int .i64 (D.k:Int),.int .i64 (D.f:Int),.slice DA D.f dc,.slice NA D.n nc,.slice SA sl sc]:=λW hW=>by
  obtain⟨k1,k2,k3⟩:=ah W ((bd.mono λk _ hk=>by show k<w6.heap.size;omega).trans (hW.mono λk _ hk=>by show k<w6.heap.size;omega));rw[<-a8]at k2;exact⟨⟨DA,dc,NA,nc,SA,sl,sc,rfl,dl,dk,k1,k2,k3⟩,λi hi=>by rw[a8]at hi;have:=(ak i hi W (av.trans (hW.mono λk _ h=>.inr h))).1;rw[hD];exact this,a2.up,a2.hm,a2.hl,a2.ml⟩
 refine ρ ?_;refine Jzp an ⟨O w ((Z.trans ac).trans a6) du,_,st,D,?_,cm.here,by rw[hD],by rw[hD],by rw[hD],by rw[hD],by rw[hD],?_,λi hi=>?_,cm⟩
 .rw[a8,hD]
 .rw[a8,hD]
 rw[a8]at hi;rw[hD];exact(ak i hi).here.2
open Go.RowKit Pl Go.Wk _root_.Go.Proofs.Tryz
variable {c:Cse}{ats:List Atm}{A B C aA dA pA:Option Addr}{w:World}
def tt5: TT:=(22,{ desc:=.slice 30,esz:=6 })::(67,{ desc:=.slice 116,esz:=5 })::tt4
theorem Jsh: TOk prog tt5:=⟨⟨kr,kr,kr⟩,⟨kr,kr,kr⟩,Jsj⟩
instance (priority:=6000):Tab prog tt5:=⟨Jsh,mixed⟩
theorem ERin: ElT prog 67 116 5 88 (.agg #[.int .i64 0,.int .i64 0,.slice none 0 0,.slice none 0 0,.slice none 0 0]):=⟨underlying67,info_parts kr,rfl,by decide⟩
def c0: Cse:=⟨0,0,[],[],[],[]⟩
structure CsesV(w:World)(A:Option Addr)(l:List Cse)(xc:Nat->List Value): Prop where
 rd:Rd w 6 A l.length (Qh l.length xc)
 el:∀ i,i<l.length->CseV w (xc i) (l.getD i c0)
theorem CsesV.ext{w w':World}{A:Option Addr}{l:List Cse}{xc:Nat->List Value}(h:CsesV w A l xc)(hx:Ext w w'): CsesV w' A l xc:=⟨h.rd.ext hx,λi hi=>(h.el i hi).ext hx⟩
theorem CseOk.atm(h:CseOk c ats): (Zz c ats).ats.map toAtm=ats:=by
 have u:ats.length=c.m:=h.al;refine List.ext_getElem (by simp[Zz,u]) λi J C=>?_;have hi:i<c.m:=om
 have o:=h.vars hi;have j:=h.mka i (by grind [Cse.m]);have e:ats.getD i a0=ats[i]:=Qf a0 ats C;simp only[Zz,List.map_map,List.getElem_map,List.getElem_range,Function.comp,toAtm,rsA,e];rw[e]at j;have G:=j.vars;have D:=j.ar;rw[o.1,o.2.2.2];cases hat:ats[i] with
 | mk v a r=>
  grind
theorem Qkn{dc pc ac an:Nat}(h:CseOk c ats)(hD:BoolsV w (.slice dA c.ds.length dc) c.ds)(hP:IntsV w (.slice pA c.pm.length pc) c.pm)(hG:GV 3 AtG w (.slice aA an ac) ats):
  InC w (Vy c.F c.ds (Zz c ats)) [.int .i64 c.n,.int .i64 c.f,.slice dA c.ds.length dc,.slice pA c.pm.length pc,.slice aA an ac]:=by
 refine⟨.slice dA c.ds.length dc,.slice pA c.pm.length pc,.slice aA an ac,?_,hD,?_,?_⟩
 .rw[h.nN.1,h.fF.1];rfl
 .show IntsV w _ (nz (toN c.pm));rw[h.pm.2];exact hP
 show AtsV w _ ((Zz c ats).ats.map toAtm);rw[h.atm];exact Jfg hG
def RefG(w:World)(cs:List Value)(p:CsA): Prop:=∃ pA pn pc vA vc rA rc,cs=Vl (p.1.N:Int) (p.1.F:Int) pA pn pc vA vc rA rc p.1.m/\RInM w vA rA p.1.m p.1.vars p.1.crs
def InG(f:Nat)(ds:List Bool)(w:World)(cs:List Value)(p:CsA): Prop:=InC w (Vy f ds (Zz p.1 p.2)) cs
theorem Xvq(n f:Int)(A B C:Option Addr)(a b c a' b' c':Nat)(w:World): (Instr.buildSlice 67 1 #[(0,.agg #[.int .i64 n,.int .i64 f,.slice A a a',.slice B b b',.slice C c c'])]).run prog w=.ok (.slice (some ⟨w.heap.size,0,none⟩) 1 1) (w.alloc (.cells [Value.int .i64 n,.int .i64 f,.slice A a a',.slice B b b',.slice C c c'].toArray 116)):=kr
theorem Jch{n f:Int}{a b c a' b' c':Nat}: ∀ u∈[Value.int .i64 n,.int .i64 f,.slice A a a',.slice B b b',.slice C c c'],u.oneCell'=true:=λu i=>by
 simp only[List.mem_cons,List.not_mem_nil,or_false]at i;rcases i with rfl|rfl|rfl|rfl|rfl<;>rfl
theorem Qdn: Qo prog 30=some (.agg #[.int .i64 0,.int .i64 0,.slice none 0 0,.slice none 0 0,.slice none 0 0,.slice none 0 0]):=kr
theorem Xjh{c:Nat}{l:List Cse}{xc:Nat->List Value}(hL:CsesV w A l xc)(hfit:∀ c∈l,∀ i,i<c.rss.length->∀ r∈c.rss.getD i [],∀ u∈r,Xp u):
  Ret prog 21 [.slice A l.length c] w λu w'=>Ext w w'/\(u=.tuple #[.slice none 0 0,.slice none 0 0,.bool false] ∨
   ∃(ps:List CsA) (iv rv:Value),u=.tuple #[iv,rv,.bool true]/\1<=l.length/\l.length<=3/\ps.map (·.1)=l/\(∀ p∈ps,CsM (l.getD 0 c0).F (l.getD 0 c0).ds p)/\GV 5 (InG (l.getD 0 c0).F (l.getD 0 c0).ds) w' iv ps/\GV 5 RefG w' rv ps/\∃ N,OwnM 33 5 (InG (l.getD 0 c0).F (l.getD 0 c0).ds) N w' w.heap.size iv ps):=by
 have bn:∀ i,i<l.length->(xc i).length=6:=λi hi=>by
  obtain⟨dA,dc,pA,pc,vA,vc,rA,rc,e,_⟩:=hL.el i hi;rw[e];rfl
 have a2:∀ {W:World} (hx:Ext w W) {i:Nat} (hi:i<l.length) {j:Nat} {u:Value},(xc i)[j]?=some u->W.cell? ((adr A (i*6)).add j)=some u:=λhx i hi j u hu=>by
  have hj:j<6:=by grind
  rw[Xk];exact(hL.rd.ext hx).cell (by rw[Yj bn hi hj];exact hu)
 obtain⟨az,bq⟩:=id hL;refine enE func21 ntmps21 ?_;refine ρ ?_;refine Vs (fun (t:Bool)=>[(18,.bool t),(0,.slice A l.length c),(2,.slice none 0 0),(3,.slice none 0 0),(4,.bool false)]) (λt w'=>w'=w/\(t=false->1<=l.length/\l.length<=3)) ?_ ?_
 .refine ki 14 (λh=>?_) (λh=>?_)
  .refine ρ ?_;exact Jd true sB ⟨rfl,λe=>by cases e⟩
  have h1:=oF h;refine ρ ?_;refine Jd _ sB ⟨rfl,λe=>?_⟩;grind
 rintro t w' ⟨rfl,ht⟩;refine ci (λh=>?_) (λh=>?_)
 .refine ρ ?_;exact Ky ⟨Ext.refl _,.inl rfl⟩
 obtain⟨a6,cx⟩:=ht h;clear ht h;obtain⟨de,dd,du,dt,dm,dl,dq,dn,cd,da,e6,e4,e5,dx,e3⟩:=id (bq 0 a6);obtain⟨m,hm⟩:∃ m,m=l.length:=⟨_,rfl⟩;refine ρ ?_;refine Xr (fun (i:Nat) (iv rv:Value)=>[(0,.slice A l.length c),(2,.slice none 0 0),(3,.slice none 0 0),(4,.bool false),(5,iv),(6,rv),(19,.slice A l.length c),(20,.int .i64 (l.length:Int)),(21,.int .i64 (i:Int))])
  (λi iv rv w1=>i<=l.length/\Ext w' w1/\w'.heap.size<=w1.heap.size/\∃ ps:List CsA,ps.map (·.1)=l.take i/\(∀ p∈ps,CsM (l.getD 0 c0).F (l.getD 0 c0).ds p) /\
   OwnM 33 5 (InG (l.getD 0 c0).F (l.getD 0 c0).ds) (λk=>False∨rv.ownBlock=some k) w1 w'.heap.size iv ps/\OwnM 116 5 RefG (λk=>False∨iv.ownBlock=some k) w1 w'.heap.size rv ps/\∀ g,iv.ownBlock=some g->¬ rv.ownBlock=some g)
  (λi _ _=>l.length-i) 0 (.slice none 0 0) (.slice none 0 0) sB ⟨Nat.zero_le _,Ext.refl _,Nat.le_refl _,[],rfl,(λp hp=>by cases hp),OwnM.nil _ _,OwnM.nil _ _,(λg e=>by cases e)⟩ ?_
 rintro i iv rv w1 ⟨hi,a5,ad,ps,dw,bl,ak,b4,br⟩;refine ciR (λh=>?_) (λh=>?_)
 .have li:i<l.length:=by have:=oT h;omega
  clear h;obtain⟨o,d2⟩:∃ o,o=l.getD i c0:=⟨_,rfl⟩;have ag:=bq i li;rw[<-d2]at ag;obtain⟨dA,dc,pA,pc,vA,vc,rA,rc,cb,hD,hP,hV,hR,hn,hf⟩:=id ag;refine Qs 6 i (az.ext a5) li ?_;refine Jl (cs:=[.int .i64 o.n,.int .i64 o.f,.slice dA o.ds.length dc,.slice pA o.pm.length pc,.slice vA o.vs.length vc,.slice rA o.rss.length rc]) (λj u hu=>a2 a5 li (by rw[cb];exact hu)) ?_;refine Jv Qdn ?_;intro w2 b8 bd d4 c8;refine Xj c8 ?_;intro w3 aw e2 cq;have a9:Ext w1 w3:=cq w1 bd d4;have bi:=a5.trans a9;refine Ju aw ?_;rw[cb]at ag;refine clR (Qfr ag bi) ?_;rintro u w4 ⟨ax,cg,bb,aA,ce,ba,ac,an,ok,rfl,db,d6,cw,_⟩;refine Jv Yg ?_;intro w5 b9 cp d3 c4;refine Xj c4 ?_;intro w6 c3 e1 co;have a8:Ext w4 w6:=co w4 cp d3;have am:=(a9.trans ax).trans a8;have bh:=a5.trans am;have c7:=(aw.ext ax).ext a8;have a7:Ext w6 w6.drew:=(Ext.refl w6).drew;have aa:=bh.trans a7;have be:=am.trans a7;have av:=c7.ext a7
  obtain⟨_,_,eD,e9,d8,d9⟩:=id hD;injection eD with eD1 _ eD2
  subst eD1;subst eD2;obtain⟨_,_,eE,e8,e7,d7⟩:=id da;injection eE with eE1 _ eE2
  subst eE1;subst eE2;refine drR (scq 26 [4,23]) ?_;cases ok with
  | false=>
   refine ρd ?_;refine ρ ?_;exact Ky ⟨aa,.inl rfl⟩
  | true=>
   obtain⟨b1,ats,d5,bm,hmk,bs⟩:=cw rfl;refine Qy (cs:=[.int .i64 o.n,.int .i64 o.f,.slice dA o.ds.length dc,.slice pA o.pm.length pc,.slice vA o.vs.length vc,.slice rA o.rss.length rc]) (λj u hu=>av.at hu) ?_;refine Qq (Xzr (ag.ext aa)) ?_;rintro u w7 ⟨a4,fw,rfl,bp,_⟩;refine⟨a4,?_⟩;have G:=aa.trans a4;have ah:=av.ext a4;cases fw with
   | false=>
    refine ρd ?_;refine ρ ?_;exact Ky ⟨G,.inl rfl⟩
   | true=>
    refine Jz (ah.at (i:=1) rfl) ?_;refine Vd 6 0 (az.ext G) a6 ?_;refine Jz (a2 G a6 (j:=1) (u:=.int .i64 (l.getD 0 c0).f) (by rw[cd];rfl)) ?_;refine ρd ?_;refine dki 46 (λh=>?_) (λh=>?_)
    .refine ρd ?_;refine ρ ?_;exact Ky ⟨G,.inl rfl⟩
    have d0:o.f=(l.getD 0 c0).f:=bne_eq_false_iff_eq.1 h;clear h;refine Jz (ah.at (i:=2) rfl) ?_;refine Vd 6 0 (az.ext G) a6 ?_;refine Jz (a2 G a6 (j:=2) (u:=.slice de (l.getD 0 c0).ds.length dd) (by rw[cd];rfl)) ?_;refine Qq (Jms (Rd.ext d9 G) (Rd.ext d7 G) d8) ?_;rintro u w8 ⟨rfl,a3⟩;refine⟨a3,?_⟩;have bg:=G.trans a3;have c6:=ah.ext a3;refine ρd ?_;refine ciR (λh=>?_) (λh=>?_)
    .refine ρ ?_;exact Ky ⟨bg,.inl rfl⟩
    have d1:o.ds=(l.getD 0 c0).ds:=by simpa using h
    clear h;have hC:CseOk o ats:=⟨bp rfl,b1,d5,hmk,bs trivial,hfit o (by grind)⟩;have hF:o.F=(l.getD 0 c0).F:=by unfold Cse.F;rw[d0]
    have cy:∀ {W:World},Ext w' W->GV 3 AtG W (.slice aA an ac) ats->InG (l.getD 0 c0).F (l.getD 0 c0).ds W [.int .i64 o.n,.int .i64 o.f,.slice cg o.ds.length ce,.slice bb o.pm.length ba,.slice aA an ac] (o,ats):=λhx hg=>by
     have:=Qkn hC (db.ext hx) (d6.ext hx) hg;grind [InG]
    obtain⟨IA,ic,rfl,dz,cz⟩:=ak.form;obtain⟨QA,qc,rfl,dv,bj⟩:=b4.form;have bf:=((be.trans a4).trans a3);have ai:Ext w8 w8.drew:=(Ext.refl w8).drew;have J:=bf.trans ai;have ao:=a5.trans J;have c5:=c6.ext ai;have c2:=(((c3.ext a7).ext a4).ext a3).ext ai;have l8:=c8.lt;have l9:=c4.lt;have z2:=bd.size;have z4:=ax.size;have dj:=a9.size;have n8:¬ ((Value.slice IA ps.length ic).ownBlock=some b8∨(Value.slice QA ps.length qc).ownBlock=some b8):=λh=>by grind
    have n9:¬ ((Value.slice IA ps.length ic).ownBlock=some b9∨(Value.slice QA ps.length qc).ownBlock=some b9):=λh=>by grind
    have cv:ps.length=i:=by grind [List.length,List.length_map,List.length_take]
    have bz:=ak.ext J;have bw:=b4.ext J;refine ρ ?_;refine drN (λk=>(Value.slice IA ps.length ic).ownBlock=some k∨(Value.slice QA ps.length qc).ownBlock=some k) 14 [(0,0),(0,1),(0,4),(0,5),(1,2),(1,3),(1,6),(1,7),(1,8),(0,9),(0,10)] kr ?_;refine ρn ?_;refine Xu (cs:=[.int .i64 o.n,.int .i64 o.f,.slice cg o.ds.length ce,.slice bb o.pm.length ba,.slice aA an ac]) (λW hg j u hu=>(Jy c2 hg n9).at hu) ?_;refine ρn ?_;refine Xu (cs:=[.int .i64 o.n,.int .i64 o.f,.slice dA o.ds.length dc,.slice pA o.pm.length pc,.slice vA o.vs.length vc,.slice rA o.rss.length rc]) (λW hg j u hu=>(Jy c5 hg n8).at hu) ?_;refine ρn ?_;refine nop ?_;refine bsl (Jdx _ _ _ _ _ _ _ _ _ _ _) ?_;intro ck eb C di ca;refine Jg (Jt (GrN.ext C) ?_);refine nop ?_;have aj:=((((bm.ext a8).ext ((a7.trans a4).trans a3)).ext ai).ext C);refine apM EInp (Φ:=InG (l.getD 0 c0).F (l.getD 0 c0).ds) (a:=(o,ats)) (bz.ext C) ca rfl Jch (λW hW=>cy (hW.old (ao.trans C) λk hk=>?_) (aj W (hW.mono λk _ hk=>?_))) om om (nL ad (J.trans C).size) ?_
    .grind
    .grind
    intro cm b6 au ae aq;refine Jg (Jt (GrN.by ae λk hk=>.inl hk) ?_);have b3:=(bw.ext C).other ae aq λg e h=>br g h e;have af:∀ g,cm.ownBlock=some g->¬ (Value.slice QA ps.length qc).ownBlock=some g:=λg e h=>by
     rcases aq g e with h1|h1
     .exact br g h1 h
     have:=(bj g h).2;have:=(J.trans C).size;omega
    have a1:GrN (λk=>(Value.slice IA ps.length ic).ownBlock=some k) ck b6:=GrN.by ae λk hk=>hk
    have ay:Ext w' b6:=a1.old (ao.trans C) λk hk=>(cz k hk).1;refine ρn ?_;refine nop ?_;refine cl Qnp ?_;rintro u dk ⟨rfl,O⟩;refine Jg (Jt (GrN.ext O) ?_);refine nop ?_;refine bsl (Xvq _ _ _ _ _ _ _ _ _ _ _) ?_;intro cj ea D dh c9;refine Jg (Jt (GrN.ext D) ?_);refine nop ?_;have ab:=(ay.trans O).trans D;obtain⟨df,cn,rfl,dg,bo⟩:=au.form;have cr:o.rss.length=o.m:=by rw[<-hC.len];rfl
    refine apM ERin (Φ:=RefG) (a:=(o,ats)) ((b3.ext O).ext D) c9 rfl Jch (λW hW=>?_) om om (nL ad (nL (J.trans C).size (nL a1.size (O.trans D).size))) ?_
    .have bc:Ext w' W:=hW.old ab λk hk=>by grind
     refine⟨pA,o.pm.length,pc,vA,vc,rA,rc,?_,CseV.rin (hV.ext bc) (hR.ext bc) hC⟩;show _=Vl (o.N:Int) (o.F:Int) pA o.pm.length pc vA vc rA rc o.m;rw[<-hC.nN.1,<-hC.fF.1,cr];rfl
    intro b7 ch c1 ar ap;have Z:GrN (λk=>(Value.slice QA ps.length qc).ownBlock=some k) cj ch:=GrN.by ar λk hk=>hk
    refine Jg (Jt (Z.mono λk _ hk=>.inr hk) ?_);have b5:=((au.ext O).ext D).other ar ap af;have b2:∀ g,(Value.slice df (ps++[(o,ats)]).length cn).ownBlock=some g->¬ b7.ownBlock=some g:=λg e h=>by
     rcases ap g h with h1|h1
     .exact af g e h1
     have:=(bo g e).2;have:=(O.trans D).size;omega
    refine ρn ?_;refine ρ ?_;refine Qe (i+1) _ b7 sO ⟨li,Z.old ab λk hk=>(bj k hk).1,Nat.le_trans (nL ad (nL (J.trans C).size (nL a1.size (O.trans D).size))) Z.size,ps++[(o,ats)],?_,λp hp=>?_,b5,c1,b2⟩ om
    .grind [Qn,c0]
    rcases List.mem_append.1 hp with hp|hp
    .exact bl p hp
    rw[List.mem_singleton.1 hp];exact⟨hC,hF,d1⟩
 have e0:i=l.length:=by grind
 clear h;have cv:ps.length=i:=by grind
 refine ρ ?_;exact Ky ⟨a5,.inr ⟨ps,iv,rv,rfl,a6,cx,by grind,bl,ak.gv om,b4.gv om,_,ak⟩⟩
open Go.RowKit Pl Go.Wk
variable {i k m n:Nat}{v vd:Value}
theorem Xwt: Yr n m=0↔n=m:=by
 unfold Yr;grind
theorem Qcg{w:World}(hv:NatV w v n)(hk:k<9223372036854775808):
  Ret Tryz.prog 60 [v,.int .i64 (k:Int)] w λu w'=>u=.bool (decide (n=k))/\Ext w w':=by
 obtain⟨O,J,rfl,_⟩:=id hv;refine enE Tryz.func60 Tryz.ntmps60 ?_;refine ρ ?_;rw[Gv (z:=(k:Int)) om];refine cl (Jzd k om w) ?_;rintro o G ⟨C,_,i⟩;refine clR (Jcm (hv.ext i) C) ?_;rintro _ D ⟨rfl,j⟩;refine ρ ?_;refine Jj ⟨?_,i.trans j⟩;rw[show(Yr n k == 0)=decide (n=k) by rw[Bool.eq_iff_iff,beq_iff_eq,decide_eq_true_iff,Xwt]]
def sgl(ps:List CsA): List (List CsA):=ps.map λp=>[p]
theorem Jxg(ps:List CsA): (sgl ps).length=ps.length:=List.length_map _
theorem RefG.ext{w w':World}{cs:List Value}{p:CsA}(h:RefG w cs p)(hx:Ext w w'): RefG w' cs p:=by
 obtain⟨pA,pn,pc,i,vc,j,rc,e,h⟩:=h;exact⟨pA,pn,pc,i,vc,j,rc,e,h.ext hx⟩
theorem Qwc(ps:List CsA)(f:Nat)(ds:List Bool)(h:∀ p∈ps,CsM f ds p): (sgl ps).flatMap Xa=ps.flatMap λp=>p.1.ans:=by grind [sgl,List.flatMap_map,Qyh]
section
variable {w:World} {ps:List CsA} {f:Nat} {ds:List Bool}
theorem CsM.answers{p:CsA}{cs:List Value}(h:CsM f ds p)(hr:RefG w cs p){ds':List Bool}(hd:BoolsV w vd ds'):
  Ret Tryz.prog 50 [.agg cs.toArray,vd] w λu w'=>RowsV w' u (Jkd p.1.m p.1.vars p.1.crs p.1.N p.1.F ds')/\Ext w w':=by
 obtain⟨pA,pn,pc,j,vc,o,rc,rfl,i⟩:=hr;exact Qpf h.1.refP i (by have:=h.1.nN.2;omega) h.1.fF.2 hd
theorem Qmf{ps:List CsA}(h:i<ps.length): Xa ((sgl ps).getD i [])=(ps[i]).1.ans:=by grind [sgl,List.getD,Qyh]
end
open Go.RowKit Pl Go.Wk _root_.Go.Proofs.Tryz
variable {ds:List Bool}{ps:List CsA}{B0 f:Nat}{w:World}
def tt6: TT:=(135,{ desc:=.slice 2,esz:=1 })::tt5
theorem Qgt: TOk prog tt6:=⟨⟨kr,kr,kr⟩,Jsh⟩
instance (priority:=7000):Tab prog tt6:=⟨Qgt,mixed⟩
def exU(n:Int): Cse:=⟨1,1,[false],[],[[0]],[[[nV n],[nV 3]]]⟩
theorem Xzw{n:Int}(hn:n=1∨n=2){m:List Row}(hset:IsSet [] [[nV n],[nV 3]] m)(hm:m.length<=65536)(hsub:∀ x∈m,x∈[[nV n],[nV 3]]): CseOk (exU n) [⟨[0],1,m⟩]:=by
 have D:(0:Int)<=1:=by decide
 have J:(1:Int)<=32:=by decide
 have Z:(1:Int)<=1:=by decide
 refine⟨⟨λi hi=>?_,?_,.inl (show(1:Int)<=6 by decide),show 1<=5 by decide,show 1<=5 by decide⟩,rfl,rfl,λi hi=>?_,⟨D,J,D,Z,rfl,rfl,(λv o=>by cases o),List.Pairwise.nil,D,J,show 1<=32 by decide,λa O=>?_,λv o=>?_⟩,λi hi r G u hu=>?_⟩
 .grind [exU]
 .grind [Jf,exU]
 .have:i=0:=by simp[exU]at hi;exact hi
  subst this;refine⟨rfl,rfl,show 1<=32 by decide,λr G=>?_,hm,hsub,λ_=>hset⟩;have C:r∈[[nV n],[nV 3]]:=G;simp only[List.mem_cons,List.not_mem_nil,or_false]at C;rcases C with rfl|rfl<;>exact⟨rfl,rfl⟩
 .rw[List.mem_singleton.1 O];refine⟨λj h0 hj=>?_,λv o=>?_,rfl⟩
  .grind
  have:v=0:=List.mem_singleton.1 o;subst this;exact⟨Int.le_refl _,show(0:Int)<1 by decide⟩
 .have:v=0:=by have:(v:Int)<1:=o;omega
  subst this;exact⟨_,List.mem_singleton.2 rfl,List.mem_singleton.2 rfl⟩
 repeat grind [exU,nV,List.mem_singleton.1,Qtq]
theorem Qwp: (exU 1).ans=[[nV 1],[nV 3]]:=by decide
theorem Qwn: (exU 2).ans=[[nV 2],[nV 3]]:=by decide
def exW: List Row:=[[nV 1],[nV 2],[nV 3]]
theorem Xzv: Lt [false] exW:=by unfold Lt;decide
theorem exW_a: Qb [false] exW [nV 3]=2:=by decide
structure ExU(ps:List CsA): Prop where
 len:ps.length=2
 ok:∀ p∈ps,CsM 1 [false] p
 p0:(ps.getD 0 (c0,[])).1=exU 1
 p1:(ps.getD 1 (c0,[])).1=exU 2
theorem ExU.two(h:ExU ps): ∃ a b,ps=[(exU 1,a),(exU 2,b)]:=by
 obtain⟨i,_,o,j⟩:=h;match ps,i with
 | [(c,a),(d,b)],_=>
  grind
theorem Jnb(h1:1<=ps.length)(h3:ps.length<=3)(h:∀ p∈ps,CsM f ds p): CsU (sgl ps) f ds:=by
 have j:(sgl ps).flatten=ps:=by simp[sgl,List.flatten_eq_flatMap,List.flatMap_map]
 refine⟨by rw[Jxg];exact h1,by rw[Jxg];exact h3,by rw[j];omega,λg i=>?_,λg i p hp=>?_⟩
 .obtain⟨p,_,rfl⟩:=List.mem_map.1 i;simp
 obtain⟨q,o,rfl⟩:=List.mem_map.1 i;grind
theorem CsU.mems{gs:List (List CsA)}(h:CsU gs f ds)(q:Row): Zo (λi=>decide (q∈Xa (pick gs (2^i)).flatten)) gs.length=Zo (Jzm gs q) gs.length:=Xzc λi hi=>by
 unfold Jzm;rw[List.getD,List.getElem?_eq_getElem hi];exact decide_eq_decide.2 (h.one hi q)
theorem ExU.any(h:ExU ps): Jqt [false] (sgl ps)=exW:=by
 have hs:=Jpf [false] (sgl ps);obtain⟨a,b,rfl⟩:=h.two;refine Kj hs.1 Xzv λy=>?_;rw[hs.2 y,Qwc _ 1 [false] h.ok];grind [Qwp,Qwn,exW]
theorem ExU.mem(h:ExU ps): Zo (Jzm (sgl ps) [nV 3]) 2=3:=by
 refine(Qtx (k:=2)).2 λi hi=>?_;unfold Jzm;rw[Qmf (by rw[h.len];exact hi),decide_eq_true_iff];obtain⟨a,b,rfl⟩:=h.two;grind [nV,exU,Qwp,Qwn]
theorem GV.insM{v:Value}(h:GV 5 (InG f ds) w v ps)(hp:∀ p∈ps,CsM f ds p): ∃ A c xc,v=.slice A ps.length c/\ps.length<=c/\InsM w A f ds (ps.map λp=>Zz p.1 p.2) xc:=by
 obtain⟨rs,A,c,e,rfl,O,G,o,D⟩:=h;subst e;have J:Qj (rs.map λq=>(q.1,Zz q.2.1 q.2.2))=Qj rs:=by simp[Qj,List.flatMap_map]
 have j:=InsM.of (w:=w) (A:=A) (f:=f) (ds:=ds) (ps:=rs.map λq=>(q.1,Zz q.2.1 q.2.2)) (by grind) λq C=>by
  obtain⟨r,u,rfl⟩:=List.mem_map.1 C;exact(D r u).2
 rw[List.map_map]at j;refine⟨A,c,λi=>((rs.map λq=>(q.1,Zz q.2.1 q.2.2)).getD i ([],um0)).1,by rw[List.length_map],by grind,?_⟩;rw[List.map_map];exact j
theorem Jgl(hp:∀ p∈ps,CsM f ds p): ((sgl ps).map λg=>Qp f (Je g))=ps.map λp=>Zz p.1 p.2:=by
 unfold sgl;rw[List.map_map];refine List.map_congr_left λp i=>?_;obtain⟨o,j,_⟩:=hp p i;show Qp f [Zz p.1 p.2]=_;exact Xqj (by rw[<-j];exact o.uok.pm.fn)
theorem Xvz(n:Int)(w:World): (Instr.build 147 #[(0,.int .i64 1),(1,.int .i64 n)]).run prog w=.ok (nV n).val w:=Xyh n w
theorem Jwp(n:Int)(w:World): Ret prog 59 [.int .i64 n] w λu w'=>(∃ b,u=.slice (some ⟨b,0,none⟩) 1 1/\Blk w' b 147 (Jp [nV n]))/\Ext w w':=by
 refine enE func59 ntmps59 ?_;refine Zb (Xvz n w) ?_;refine Qc (Jkb _) ?_;intro o b i C j;refine ρ ?_;exact Jj ⟨⟨b,rfl,j⟩,i⟩
theorem bs2J'(a b:Int)(w:World): (Instr.buildSlice 135 2 #[(0,.int .i64 a),(1,.int .i64 b)]).run prog w=.ok (.slice (some ⟨w.heap.size,0,none⟩) 2 2) (w.alloc (.cells [Value.int .i64 a,.int .i64 b].toArray 2)):=kr
theorem bs2Rr(A B:Option Addr)(a b a' b':Nat)(w:World): (Instr.buildSlice 95 2 #[(0,.slice A a a'),(1,.slice B b b')]).run prog w=.ok (.slice (some ⟨w.heap.size,0,none⟩) 2 2) (w.alloc (.cells [Value.slice A a a',.slice B b b'].toArray 59)):=kr
theorem bs1Bl(a:Bool)(w:World): (Instr.buildSlice 25 1 #[(0,.bool a)]).run prog w=.ok (.slice (some ⟨w.heap.size,0,none⟩) 1 1) (w.alloc (.cells [Value.bool a].toArray 4)):=kr
theorem bs1Iu(a:Int)(w:World): (Instr.buildSlice 26 1 #[(0,.int .i64 a)]).run prog w=.ok (.slice (some ⟨w.heap.size,0,none⟩) 1 1) (w.alloc (.cells [Value.int .i64 a].toArray 3)):=kr
theorem Xym(n f:Int)(A B:Option Addr)(a a' b b':Nat)(w:World): (Instr.build 33 #[(0,.int .i64 n),(1,.int .i64 f),(2,.slice A a a'),(4,.slice B b b')]).run prog w=.ok (.agg #[.int .i64 n,.int .i64 f,.slice A a a',.slice none 0 0,.slice B b b']) w:=kr
theorem zRel1: Qo prog 130=some (.agg #[.int .i64 0,.slice none 0 0]):=kr
theorem Jnz(hTB:TB B0 w): Ret prog 11 [] w λu w'=>u=.bool true/\Ext w w':=by
 refine enE func11 ntmps11 ?_;refine Qc (bs2J' 1 2) ?_;intro w1 ch cq dm cb;refine ρ ?_;refine Qz (fun (i:Nat) (iv:Value)=>[(0,.bool false),(1,iv),(16,.slice (some ⟨ch,0,none⟩) 2 2),(17,.int .i64 2),(18,.int .i64 (i:Int))])
  (λi iv w'=>i<=2/\Ext w1 w'/\w1.heap.size<=w'.heap.size/\∃ ps:List CsA,ps.length=i/\(∀ p∈ps,CsM 1 [false] p)/\(∀ j,j<i->(ps.getD j (c0,[])).1=exU (j+1))/\OwnM 33 5 (InG 1 [false]) (λ_=>False) w' w1.heap.size iv ps) (λi _=>2-i) 0 (.slice none 0 0) sB
  ⟨Nat.zero_le _,Ext.refl _,Nat.le_refl _,[],rfl,(λp hp=>by cases hp),(λj hj=>absurd hj (Nat.not_lt_zero j)),OwnM.nil _ _⟩ ?_
 rintro i iv w2 ⟨hi,ay,b9,ps,b1,ae,bd,hO⟩;have aq:=cq.trans ay;refine ciR (λh=>?_) (λh=>?_)
 .have li:i<2:=by have:=oT h;omega
  clear h;have c2:Rd w2 1 (some ⟨ch,0,none⟩) 2 [Value.int .i64 1,.int .i64 2]:=(cb.rd rfl).ext ay;have e0:i=0∨i=1:=om
  have cx:([Value.int .i64 1,.int .i64 2]:List Value)[i]?=some (.int .i64 ((i:Int)+1)):=by grind
  refine ixR i c2 li ?_;refine ldR (c2.cell cx) ?_;refine clR (Jwp ((i:Int)+1) _) ?_;rintro u w3 ⟨⟨df,rfl,bs⟩,ai⟩;refine clR (Jwp 3 _) ?_;rintro u w4 ⟨⟨de,rfl,br⟩,ab⟩;refine Qc (bs2Rr _ _ _ _ _ _) ?_;intro w5 db a6 dl bq;have az:RowsV w5 (.slice (some ⟨db,0,none⟩) 2 2) [[nV ((i:Int)+1)],[nV 3]]:=Xjq [(.slice (some ⟨df,0,none⟩) 1 1,[nV ((i:Int)+1)]),(.slice (some ⟨de,0,none⟩) 1 1,[nV 3])] bq (λp hp=>by
   simp only[List.mem_cons,List.not_mem_nil,or_false]at hp;rcases hp with rfl|rfl
   .exact Jlf ((bs.ext ab).ext a6) (by show 1<=1100000;decide)
   exact Jlf (br.ext a6) (by decide)) (by show 2<=1100000;decide)
  refine clR (Jbw (ar:=1) az) ?_;rintro u w6 ⟨aa,rv,e,rfl,⟨z,B,mm,dd,d9⟩,ba,bc⟩;have he:e=0:=ba (by decide) (λr hr=>by
   simp only[List.mem_cons,List.not_mem_nil,or_false]at hr;rcases hr with rfl|rfl<;>exact⟨rfl,rfl⟩) (by show 2<=65536;decide)
  obtain⟨_,_,ms,be,cw,b3,b5⟩:=bc he;have bb:=b5 (.inl (by show 2<=12;decide));subst d9;refine Jv zRel1 ?_;intro w7 b4 ah d2 d8;refine Xj d8 ?_;intro w8 ca e1 a9;have am:Ext w6 w8:=a9 w6 ah d2;refine Qc (bs1Bl false) ?_;intro w9 cg a2 dk bp;refine Qc (bs1Iu 0) ?_;intro ck ce G dj bo;have b7:=(ca.ext a2).ext G;refine Ju b7 ?_;refine Zb (Jdz _ _ _ _ _ _ _ _) ?_;refine Qc (λw=>Jyc _ _ _ _ _ _ _ _ _ _ rfl rfl rfl w) ?_;intro cj cd J di bn;refine Zb (Xym _ _ _ _ _ _ _ _ _) ?_;refine Qc (Jdx _ _ _ _ _ _ _ _ _ _ _) ?_;intro av e7 C dh bm;obtain⟨IA,ic,rfl,cz,cy⟩:=hO.form;have hC:CseOk (exU ((i:Int)+1)) [⟨[0],1,ms⟩]:=Xzw om bb cw b3;have ao:=((((ai.trans ab).trans a6).trans aa).trans am);have Z:=(((ao.trans a2).trans G).trans J).trans C;have dn:=ao.size;have z9:=a2.size;have dt:=G.size;have dq:=((ai.trans ab).trans a6).size;have hΦ:Off (λk=>False∨(Value.slice IA ps.length ic).ownBlock=some k) av (λu=>InG 1 [false] u [.int .i64 1,.int .i64 1,.slice (some ⟨cg,0,none⟩) 1 1,.slice none 0 0,.slice (some ⟨cd,0,none⟩) 1 1] (exU ((i:Int)+1),[⟨[0],1,ms⟩])):=λW hW=>by
   have b2:∀ {k:Nat},w2.heap.size<=k->¬ (False∨(Value.slice IA ps.length ic).ownBlock=some k):=λhk h=>by grind
   obtain⟨v,ev,cr⟩:=((((((be.ext am).ext a2).ext G).ext J).ext C)) W (hW.mono λk _ hk=>by grind);have cc:=congrArg (λv:Value=>match v with | .agg xs=>xs.toList|_=>[]) ev;simp only[List.cons.injEq,Value.int.injEq,true_and,and_true]at cc;obtain⟨ez,rfl⟩:=cc;have co:=Jy (((bp.ext G).ext J).ext C) hW (b2 om);have cn:=Jy ((bo.ext J).ext C) hW (b2 om);have cm:=Jy (bn.ext C) hW (b2 om);exact Qkn (c:=exU ((i:Int)+1)) (dA:=some ⟨cg,0,none⟩) (dc:=1) (pA:=none) (pc:=0) hC ⟨_,1,rfl,Nat.le_refl _,show 1<=1100000 by decide,co.rd rfl⟩ ⟨none,0,rfl,Nat.le_refl _,show 0<=1100000 by decide,Rd.nil⟩
    ⟨[([.slice (some ⟨ce,0,none⟩) 1 1,.int .i64 z,.slice B mm dd],⟨[0],1,ms⟩)],some ⟨cd,0,none⟩,1,rfl,rfl,Nat.le_refl _,show 1<=1100000 by decide,cm.rd rfl,λp hp=>by
     rw[List.mem_singleton.1 hp];exact⟨rfl,(.slice (some ⟨ce,0,none⟩) 1 1,.int .i64 z,.slice B mm dd),rfl,⟨_,1,rfl,Nat.le_refl _,show 1<=1100000 by decide,cn.rd rfl⟩,by rw[ez],cr⟩⟩
  refine ρ ?_;refine apM EInp (Φ:=InG 1 [false]) (hO.ext Z) bm rfl Jch hΦ om om (nL b9 Z.size) ?_;intro cp b8 c4 bw dg;have a4:GrN (λk=>(Value.slice IA ps.length ic).ownBlock=some k) av b8:=GrN.by bw λk hk=>hk
  refine ρ ?_;refine Jh (i+1) cp sO ⟨li,a4.old (ay.trans Z) λk hk=>(cy k hk).1,Nat.le_trans b9 (nL Z.size a4.size),_,by grind,λp hp=>?_,λj hj=>?_,c4⟩ om
  .rcases List.mem_append.1 hp with hp|hp
   .exact ae p hp
   rw[List.mem_singleton.1 hp];exact⟨hC,rfl,rfl⟩
  repeat grind
 have d0:i=2:=by grind
 clear h;subst d0;have hE:ExU ps:=⟨b1,ae,bd 0 om,bd 1 om⟩;have c8:=Jnb (ps:=ps) om om ae;obtain⟨IA,ic,xc,rfl,cz,c5⟩:=GV.insM (hO.gv om) ae;rw[<-Jgl ae]at c5;have c9:=Jsf (c:=ic) (hTB.ext aq) c8 rfl c5;rw[Jxg]at c9;refine clR c9 ?_;rintro u w3 ⟨ai,cs,st,D,rfl,aj,c6,c7,d5,a7,d6,e3⟩;rw[b1]at c6;rw[hE.any]at a7;obtain⟨DA,dc,MA,mc,SA,sl,sc,da,_⟩:=id aj.ex;subst da;refine Jv Jkg ?_;intro w4 b6 ab d1 d7;refine Xj d7 ?_;intro w5 au e2 a6;have an:Ext w3 w5:=a6 w3 ab d1;have a5:=aj.ext an;have ax:Ext w5 w5.drew:=(Ext.refl w5).drew;have c1:=a5.ext ax;refine drR (scq 10 [1,2]) ?_;refine Qy (λj u hu=>(au.ext ax).at hu) ?_;refine Qq (Jzd 1 (by decide) _) ?_;rintro o w6 ⟨ho,_,aa⟩;refine⟨aa,?_⟩;refine Qq (Jsg (c1.ext aa) ho aj.sz (nR _) aj.f32) ?_;rintro u w7 ⟨ah,_,d3⟩;obtain⟨RA,rc,dz,rfl,c3,bz,_⟩:=d3 (by rw[a7];decide)
 rw[a7]at c3 bz;refine⟨ah,?_⟩;have a1:=(ax.trans aa).trans ah;have af:=au.ext a1;have aw:Ext w7 w7.drew:=(Ext.refl w7).drew;refine ρd ?_;refine drR (scq 12 [1,2]) ?_;refine Qy (λj u hu=>(af.ext aw).at hu) ?_;refine Qq (Jwp 3 _) ?_;rintro u w8 ⟨⟨e6,rfl,bl⟩,a9⟩;refine⟨a9,?_⟩;refine Qq (Jsc (((a5.ext a1).ext aw).ext a9) (q:=[nV 3]) (bl.rd rfl) (nR _)) ?_;rintro u w9 ⟨a2,_,cv⟩;obtain⟨nv,dx,rfl,bf,_⟩:=cv (by rw[c7];rfl);rw[d5,a7,exW_a]at bf;rw[a7];refine⟨a2,?_⟩;have O:=(aw.trans a9).trans a2;have ag:Ext w9 w9.drew:=(Ext.refl w9).drew;rw[decide_eq_true (show[nV 3]∈exW by decide)];refine ρd ?_;refine drR (scq 34 [4,5,13,14,25,29,30]) ?_;refine Qy (λj u hu=>((af.ext O).ext ag).at hu) ?_;refine ρd ?_;have d4:=((a5.ext a1).ext O).ext ag;refine dcl (Jsd d4) ?_;rintro n1 ck ⟨bg,G⟩;rw[a7]at bg;refine⟨G,?_⟩;refine Qq (Qcg (k:=3) bg (by decide)) ?_;rintro _ cj ⟨rfl,J⟩
 rw[decide_eq_true (show exW.length=3 from rfl)];refine⟨J,?_⟩;refine Qq (Jwp 2 _) ?_;rintro u av ⟨⟨e5,rfl,bj⟩,C⟩;refine⟨C,?_⟩;refine ρd ?_;have a8:=(ag.trans G).trans (J.trans C);refine dcl (Jgz (a:=[nV 2]) ⟨RA,rc,rfl,bz,by decide,(Rd.ext c3 O).ext a8⟩ (Jlf bj (by decide))) ?_;rintro _ b8 ⟨rfl,a3⟩;rw[decide_eq_true rfl];refine⟨a3,?_⟩;refine Qq (Qcg (k:=2) (bf.ext ((ag.trans G).trans ((J.trans C).trans a3))) (by decide)) ?_;rintro _ dw ⟨rfl,ad⟩;rw[decide_eq_true (show 2=2 from rfl)];refine⟨ad,?_⟩;refine Qy (λj u hu=>((af.ext O).ext (a8.trans (a3.trans ad))).at hu) ?_;refine Qq (Jwp 3 _) ?_;rintro u dv ⟨⟨e4,rfl,bi⟩,ac⟩;refine⟨ac,?_⟩;refine ρd ?_;have ak:=a8.trans (a3.trans ad);refine dcl (Qgj (((a5.ext a1).ext O).ext (ak.trans ac)) (q:=[nV 3]) (bi.rd rfl) (nR _)) ?_;rintro u du ⟨ap,rfl⟩;have bh:=c8.mems [nV 3];rw[Jxg,b1,hE.mem]at bh
 rw[if_pos (show[nV 3].length=D.f from c7.symm),c6,d6,bh];refine⟨ap,?_⟩;refine ρd ?_;refine ρ ?_;exact Jj ⟨rfl,((aq.trans ai).trans (an.trans a1)).trans (O.trans ((ak.trans ac).trans ap))⟩
open Go.RowKit Pl Go.Wk
variable {ds:List Bool}{ps:List CsA}{B0 f ic:Nat}{w:World}
theorem CsM.dsl{p:CsA}(h:CsM f ds p): ds.length=f:=by
 obtain⟨i,o,j⟩:=h;have e:(p.1.ds.length:Int)=p.1.f:=i.chk.2.2.2.2.1;rw[i.fF.1,j,o]at e;omega
theorem GV.hd{iv:Value}(h:GV 5 (InG f ds) w iv ps)(hp:∀ p∈ps,CsM f ds p)(h1:1<=ps.length):
  ∃(IA:Option Addr) (ic:Nat) (xc:Nat->List Value) (D:Option Addr) (dc:Nat),iv=.slice IA ps.length ic/\InsM w IA f ds (ps.map λp=>Zz p.1 p.2) xc/\Rd w 5 IA ps.length (Qh ps.length xc)/\BoolsV w (.slice D ds.length dc) ds /\
   (∀ W,Ext w W->W.cell? ((adr IA (0*5)).add 1)=some (.int .i64 (f:Int)))/\∀ W,Ext w W->W.cell? ((adr IA (0*5)).add 2)=some (.slice D ds.length dc):=by
 obtain⟨IA,ic,xc,rfl,J,C⟩:=GV.insM h hp;obtain⟨D,Q,T,dc,pc,O,ts,u⟩:=(C.el 0 (by grind)).inF;have j:=C.rd;rw[List.length_map]at j;have o:∀ i,i<ps.length->(xc i).length=5:=λi hi=>by
  obtain⟨_,_,_,_,_,_,_,u⟩:=(C.el i (by grind)).inF;rw[u.e];rfl
 refine⟨IA,ic,xc,D,dc,rfl,C,j,⟨D,dc,rfl,u.dl.1,u.dl.2,u.d⟩,λW G=>?_,λW G=>?_⟩
 .rw[Xk];exact(j.ext G).cell (by rw[Yj o h1 (by decide),u.e];rfl)
 rw[Xk];exact(j.ext G).cell (by rw[Yj o h1 (by decide),u.e];rfl)
theorem InsM.bld{IA:Option Addr}{xc:Nat->List Value}(hI:InsM w IA f ds (ps.map λp=>Zz p.1 p.2) xc)(hTB:TB B0 w)(hp:∀ p∈ps,CsM f ds p)(h1:1<=ps.length)(h3:ps.length<=3):
  Ret Tryz.prog 15 [.slice IA ps.length ic] w λu w'=>Ext w w'/\∃(cs:List Value) (st:Int) (D:UD),u=.tuple #[.agg cs.toArray,.int .i64 st,.int .i64 0]/\UnV w' D cs/\D.k=ps.length/\D.f=f/\D.ds=ds/\D.U=Jqt ds (sgl ps)/\D.M=(λs=>Xa (pick (sgl ps) s).flatten)/\D.Hm=mxR D.n (λi=>Qd D.f λv=>hmB (D.BB i v))/\(∀ i,i<D.n->BBp f ds (pick (sgl ps) (i+1)).flatten (D.BB i))/\Off (λk=>B0<=k/\k<w.heap.size) w' λW=>UnV W D cs:=by
 rw[<-Jgl hp]at hI;obtain⟨p,j⟩:=List.exists_mem_of_length_pos h1;have:=Jsf (c:=ic) hTB (Jnb h1 h3 hp) (hp p j).dsl hI;rwa [Jxg]at this
theorem Xcd(hp:∀ p∈ps,CsM f ds p)(h3:ps.length<=3): (Jqt ds (sgl ps)).length<=15000:=by
 have i:=Jbs (Jpf ds (sgl ps));rw[Qwc ps f ds hp]at i;have j:(ps.flatMap λp=>p.1.ans).length<=ps.length*5000:=by
  clear i h3;induction ps with
  | nil=>exact nR _
  | cons p ps ih=>
   rw[List.flatMap_cons,List.length_append,List.length_cons,Nat.succ_mul];have:=(hp p mC).1.anl;grind
 omega
end Go.Proofs.YtgobkbeokaaplaaGreatDoor
namespace Go.Proofs.YtgobkbeokaaplaaGreatDoor
open Go.RowKit Pl Go.Wk Go.ChangeShapes Go.WideShapes
section
variable {H:Type} {enc:TypeId×Value->H} {w:World} {base b0:Nat} {spare:Nat->Bool} {held:Bool}
def Qdg(w:World)(v:Value): Prop:=∃(A:Option Addr) (c:Nat) (l:List Cse) (xc:Nat->List Value),v=.slice A l.length c/\CsesV w A l xc/\∀ c∈l,∀ i,i<c.rss.length->∀ r∈c.rss.getD i [],∀ u∈r,Xp u
theorem Qsk{v:Value}{d:DataW H}{p:List MemPlace}(hv:Value.okWide Tryz.prog w .any b0 22 v)(h:DataW.Trod enc Tryz.prog w base spare held 22 v d p)(hb:Rows.uptoBulk d<=1048576): Qdg w v:=by
 obtain⟨a,len,G,rfl⟩:=okWide_slice Tryz.underlying22 hv;obtain⟨J,Z⟩:=h;obtain⟨ps,A,c,e,C,o,h3,h4⟩:=Jqb (sz:=6) (λp:List Value×Cse=>p.1) (λp=>CseV w p.1 p.2/\∀ i,i<p.2.rss.length->∀ r∈p.2.rss.getD i [],∀ u∈r,Xp u) Tryz.underlying22 kr hb (λn D y O hb=>by
  obtain⟨c,C,o⟩:=Qsl O hb;exact⟨(D,c),rfl,C,o⟩) Z
 have e':Value.slice a len G=.slice A ps.length c:=by injection e
 refine⟨A,c,ps.map (·.2),λi=>(ps.getD i ([],c0)).1,by rw[List.length_map];exact e',⟨by rw[List.length_map,<-Jmp c0];exact C,λi hi=>?_⟩,λc hc=>?_⟩
 .have j:i<ps.length:=by rwa [List.length_map]at hi
  rw[Xzj (·.2) ps ([],c0) c0 j]
  exact(o _ (getD_mem' _ _ j)).1
 obtain⟨p,hp,rfl⟩:=List.mem_map.1 hc;exact(o p hp).2
end
open Go.RowKit Pl Go.Wk
attribute [local irreducible] WC WL QX WD WDB WP WN WG WH WM
variable {a b:Int}{bs:List BkT}{B B0 c f i n qc s z:Nat}{BB:Nat->Nat->List BkT}
theorem Jvh(h:z<=9223372036854775807): IntKind.i64.wrap (z:Int)=(z:Int):=by rw[IntKind.wrap_i64];omega
def szB(bs:List BkT): Nat:=bs.foldl (λm b=>max m b.2.sz) 0
theorem Qlc(bs:List BkT)(h:i<bs.length): szB (bs.take (i+1))=max (szB (bs.take i)) bs[i].2.sz:=by grind [szB,List.take_succ_eq_append_getElem]
theorem Qld{b:BkT}(h:b∈bs): b.2.sz<=szB bs:=by
 have key:∀(l:List BkT) (m:Nat),m<=l.foldl (λm b=>max m b.2.sz) m/\∀ b∈l,b.2.sz<=l.foldl (λm b=>max m b.2.sz) m:=by
  intro l;induction l with
  | nil=>intro m;exact⟨nR _,λb i=>by cases i⟩
  | cons c l ih=>
   intro m;obtain⟨j,o⟩:=ih (max m c.2.sz);refine⟨nL (Nat.le_max_left _ _) j,λb i=>?_⟩;rcases List.mem_cons.1 i with rfl|i
   .exact nL (Nat.le_max_right _ _) j
   exact o b i
 exact(key bs 0).2 b h
theorem Jst(h:∀ b∈bs,b.2.sz<=B): szB bs<=B:=by
 have key:∀(l:List BkT) (m:Nat),m<=B->(∀ b∈l,b.2.sz<=B)->l.foldl (λm b=>max m b.2.sz) m<=B:=by
  intro l;induction l with
  | nil=>intro m i _;exact i
  | cons b l ih=>intro m i j;exact ih _ (Nat.max_le.2 ⟨i,j b mC⟩) λc o=>j c (List.mem_cons_of_mem _ o)
 exact key bs 0 (Nat.zero_le _) h
def Jkn(BB:Nat->Nat->List BkT)(f s:Nat): Nat:=mxR s λi=>mxR f λv=>hmB (BB i v)
def Jkm(one:Nat->Bool)(BB:Nat->Nat->List BkT)(f s:Nat): Nat:=mxR s λi=>if one i then mxR f (λv=>szB (BB i v)) else 0
theorem Qgc(h:1<=s): Jkn BB f (s+1-1)=max (Jkn BB f (s-1)) (mxR f λv=>hmB (BB (s-1) v)):=by
 obtain⟨t,rfl⟩:∃ t,s=t+1:=⟨s-1,om⟩;rfl
theorem Qfz{one:Nat->Bool}(h:1<=s): Jkm one BB f (s+1-1)=max (Jkm one BB f (s-1)) (if one (s-1) then mxR f (λv=>szB (BB (s-1) v)) else 0):=by
 obtain⟨t,rfl⟩:∃ t,s=t+1:=⟨s-1,om⟩;rfl
theorem maxI(a b:Nat): (if(a:Int)<(b:Int) then(b:Int) else(a:Int))=((max a b:Nat):Int):=by split<;>omega
theorem hmb_take'(h:i<bs.length): hmB (bs.take (i+1))=max (hmB (bs.take i)) bs[i].2.ht:=Xxv bs h
theorem of_beq_t(h:(a == b)=true): a=b:=by simpa using h
theorem of_beq_f(h:(a == b)=false): a≠b:=by simpa using h
theorem Xxt: mxR n (λi=>Qd f λv=>hmB (BB i v))<=f*Jkn BB f n:=by
 refine Ka λi hi=>?_;refine Qlj λv j=>?_;exact nL (Jzj (g:=λv=>hmB (BB i v)) j) (Jzj (g:=λi=>mxR f λv=>hmB (BB i v)) hi)
theorem Qgb{one:Nat->Bool}(h:∀ i,i<s->∀ v,∀ b∈BB i v,b.2.sz<=65536): Jkm one BB f s<=65536:=by
 refine Ka λi hi=>?_;split
 .exact Ka λv _=>Jst (h i hi v)
 omega
theorem Qgd(h:∀ i,i<s->∀ v,∀ b∈BB i v,b.2.ht<=65536): Jkn BB f s<=65536:=Ka λi hi=>Ka λv _=>Jml (h i hi v)
theorem Xjx(n:Nat): Jr n<=Jr (max n 1-1)+1:=by
 rcases Nat.eq_zero_or_pos n with h|h
 .subst h;exact Nat.zero_le _
 rw[Nat.max_eq_left h];refine Ug ?_;have:=Jzh (x:=n-1);rw[Nat.pow_succ];omega
theorem Qlq{k lb l H m mt:Nat}(h1:lb<=l+3)(h2:n*H<=mt*(f*m)): f*(k*(lb*(n*H)))<=f*k*(l+3)*mt*f*m:=by
 have:f*k*(l+3)*mt*f*m=f*(k*((l+3)*(mt*(f*m)))):=by simp only[Nat.mul_assoc]
 rw[this];exact Nat.mul_le_mul_left _ (Nat.mul_le_mul_left _ (Nat.mul_le_mul h1 h2))
theorem Qrc{α:Type}{gs:List α}(hi:i<gs.length): (pick gs (2^i)).length=1:=by
 have o:∀ n,(List.range n).filter (λj=>Nat.testBit (2^i) j)=if i<n then[i] else[]:=by
  intro n;induction n with
  | zero=>rfl
  | succ n ih=>
   rw[List.range_succ,List.filter_append,ih];simp only[List.filter_cons,List.filter_nil,Nat.testBit_two_pow];by_cases e:i=n
   .subst e;simp
   rw[decide_eq_false e,if_neg Bool.false_ne_true,List.append_nil];by_cases h:i<n
   .rw[if_pos h,if_pos om]
   rw[if_neg h,if_neg om]
 unfold pick Zl;rw[o,if_pos hi];simp[hi]
theorem Qgg{w:World}{A QA:Option Addr}{l:List Cse}{q:Row}{xc:Nat->List Value}(hTB:TB B0 w)(hL:CsesV w A l xc)(hfit:∀ c∈l,∀ i,i<c.rss.length->∀ r∈c.rss.getD i [],∀ u∈r,Xp u)(hq:RowV w (.slice QA q.length qc) q):
  Ret Tryz.prog 4 [.slice A l.length c,.slice QA q.length qc] w λu w'=>u=.bool true/\Ext w w':=by
 obtain⟨_,_,e,ff,h5,hQ⟩:=id hq;injection e with e1 _ e3
 subst e1;subst e3;refine enE Tryz.func4 Tryz.ntmps4 ?_;refine clR (Xjh hL hfit) ?_;rintro u w1 ⟨a5,hm⟩;rcases hm with rfl|⟨ps,iv,rv,rfl,h1,h3,hmp,hps,hiv,hrv,_⟩
 .refine clR (Jnz (hTB.ext a5)) ?_;rintro _ w2 ⟨rfl,ap⟩;refine ρ ?_;exact Jj ⟨rfl,a5.trans ap⟩
 obtain⟨f,hf⟩:∃ f,f=(l.getD 0 c0).F:=⟨_,rfl⟩;obtain⟨ds,hd⟩:∃ ds,ds=(l.getD 0 c0).ds:=⟨_,rfl⟩;rw[<-hf,<-hd]at hps hiv;have h7:ps.length=l.length:=by rw[<-hmp,List.length_map]
 have g1:1<=ps.length:=om
 have g3:ps.length<=3:=om
 obtain⟨IA,ic,yc,D,dc,rfl,hI,ck,hw,fo,hy⟩:=GV.hd hiv hps g1;have e6:ds.length=f:=(hps _ (List.getElem_mem g1)).dsl;have cr:f<=6:=by
  obtain⟨h2,h3,_⟩:=hps _ (List.getElem_mem g1);rw[<-h3];have:=h2.fF.2;have:=h2.nN.2;omega
 refine ciR (λh=>?_) (λh=>?_)
 .clear h;refine clR (Jnz (hTB.ext a5)) ?_;rintro _ w2 ⟨rfl,ap⟩;refine ρ ?_;exact Jj ⟨rfl,a5.trans ap⟩
 clear h;have d3:=Jnb g1 g3 hps;obtain⟨gs,cp⟩:∃ gs,gs=sgl ps:=⟨_,rfl⟩;have cq:gs.length=ps.length:=by rw[cp,Jxg]
 refine clR (hI.bld (ic:=ic) (hTB.ext a5) hps g1 g3) ?_;rintro u w2 ⟨ap,cs,st,U,rfl,cz,cx,cy,i0,fu,i1,fw,d0,_⟩;have eg:=Xcd hps g3;rw[<-cp]at d0 d3;have ax:U.n=2^ps.length-1:=by rw[UD.n,cx]
 obtain⟨DA,i2,MA,mc,SA,sl,sc,g6,_⟩:=id cz.ex;subst g6;refine Jv Jkg ?_;intro w3 b8 f8 fr g5;refine Xj g5 ?_;intro w4 b9 hl f7;have bp:Ext w2 w4:=f7 w2 f8 fr;have ae:=ap.trans bp;have ay:=cz.ext bp;have dg:Ext w4 w4.drew:=(Ext.refl w4).drew;have bq:=ae.trans dg;have dn:IntKind.i64.wrap (1*2^min ((ps.length:Int)).toNat IntKind.i64.bits)=((2^ps.length:Nat):Int):=by
  have:ps.length=1∨ps.length=2∨ps.length=3:=om
  rcases this with h|h|h<;>rw[h]<;>rfl
 have h9:2^ps.length<=8:=Nat.pow_le_pow_right (show 0<2 by omega) g3;have hc:2<=2^ps.length:=Nat.pow_le_pow_right (show 0<2 by omega) g1;refine drR (scq 12 []) ?_;refine Vd 5 0 (ck.ext bq) g1 ?_;refine Jz (fo _ bq) ?_;refine ρd ?_;refine Jvs ?_ (h0:=by omega);refine dkv 64 (congrArg (Value.int .i64) dn) ?_;refine ρd ?_;refine ρ ?_;obtain⟨mt,au⟩:∃ mt,mt=2^ps.length-1:=⟨_,rfl⟩;have c1:mt<=7:=om
 rw[show((2^ps.length:Nat):Int)-1=(mt:Int) by omega];obtain⟨one,bz⟩:∃ one:Nat->Bool,one=λi=>decide ((pick gs (i+1)).length=1):=⟨_,rfl⟩;have d2:=hI;rw[<-Jgl hps,<-cp]at d2;obtain⟨its,hits,c7,c8,e0⟩:=d2.its;rw[List.length_map]at c7 c8;have fj:its.length=ps.length:=by rw[c7,cq]
 have ai:∀ {i},i<gs.length->∃ D Q T dc pc tc ts,InF w1 f ds ((gs.map λg=>Qp f (Je g)).getD i um0) (yc i) D Q T dc pc tc ts:=λhi=>(d2.el _ (by rw[List.length_map];exact hi)).inF;have c6:∀ i,i<ps.length->(yc i).length=5:=λi hi=>by obtain⟨D,Q,T,dc,pc,tc,ts,h⟩:=ai (cq ▸ hi);rw[h.e];rfl
 have cv:∀ {W:World} (hx:Ext w1 W) {i:Nat} (hi:i<ps.length) {j:Nat} {u:Value},(yc i)[j]?=some u->W.cell? ((adr IA (i*5)).add j)=some u:=λhx i hi j u hu=>by
  have hj:j<5:=by have:=(List.getElem?_eq_some_iff.1 hu).1;rw[c6 i hi]at this;exact this
  rw[Xk];exact(ck.ext hx).cell (by rw[Yj c6 hi hj];exact hu)
 have fn:∀ i,i<mt->∀ v,∀ b∈U.BB i v,b.2.ht<=65536:=λi hi v b hb=>(cz.ix i (by rw[ax,<-au];exact hi)).hb v b hb;have fb:∀ i,i<mt->∀ v,∀ b∈U.BB i v,b.2.sz<=65536:=λi hi v b hb=>(d0 i (by rw[ax,<-au];exact hi)).sz hb;refine ρ ?_;refine Xr (fun (s G C:Nat)=>[(1,.slice QA q.length qc),(4,.bool false),(5,.slice IA ps.length ic),(8,.pointer (some ⟨b8,0,none⟩)),(10,.int .i64 0),(11,.int .i64 (f:Int)),(12,.int .i64 (G:Int)),(13,.int .i64 (C:Int)),(14,.int .i64 (mt:Int)),(15,.int .i64 (s:Int))])
  (λs G C w'=>1<=s/\s<=mt+1/\Ext w4 w'/\G=Jkn U.BB f (s-1)/\C=Jkm one U.BB f (s-1)) (λs _ _=>mt+1-s) 1 0 0 sO
  ⟨nR _,om,dg,rfl,rfl⟩ ?_
 rintro s G C w6 ⟨cj,gz,a7,bh,bg⟩;have br:=ae.trans a7;have av:G<=65536:=by rw[bh];exact Qgd λi hi=>fn i om
 have ar:C<=65536:=by rw[bg];exact Qgb λi hi=>fb i om
 refine ciR (λh=>?_) (λh=>?_)
 .have ls:s<=mt:=by have:=oT h;omega
  clear h;refine ρ ?_;refine Qz (fun (i:Nat) (mv:Value)=>[(1,.slice QA q.length qc),(4,.bool false),(5,.slice IA ps.length ic),(8,.pointer (some ⟨b8,0,none⟩)),(10,.int .i64 0),(11,.int .i64 (f:Int)),(12,.int .i64 (G:Int)),(13,.int .i64 (C:Int)),(14,.int .i64 (mt:Int)),(15,.int .i64 (s:Int)),(16,mv),(71,.slice IA ps.length ic),(72,.int .i64 (ps.length:Int)),(73,.int .i64 (i:Int))])
   (λi mv w'=>i<=ps.length/\Ext w6 w'/\w'.ownsRow w6.heap.size 33 5 mv (Zl its s i).length (Qj (Zl its s i))) (λi _=>ps.length-i) 0 (.slice none 0 0) sB
   ⟨Nat.zero_le _,Ext.refl _,Zv _ _ _ _⟩ ?_
  rintro i mv w8 ⟨hi,an,a8⟩;have ac:=br.trans an;refine ciR (λh=>?_) (λh=>?_)
  .have li:i<ps.length:=by have:=oT h;omega
   clear h;have d9:i<gs.length:=om
   obtain⟨D',Q,T,er,pc,tc,ts,g0⟩:=ai d9;have co:=g0.e;refine Qs 5 i (ck.ext ac) li ?_;refine Jl (cs:=[.int .i64 (((gs.map λg=>Qp f (Je g)).getD i um0).N:Int),.int .i64 (f:Int),.slice D' ds.length er,.slice Q ((gs.map λg=>Qp f (Je g)).getD i um0).perm.length pc,.slice T ((gs.map λg=>Qp f (Je g)).getD i um0).ats.length tc]) (λj u hu=>cv ac li (by rw[co];exact hu)) ?_;refine Jv Yg ?_;intro w9 i5 cb ed eo;refine Xj eo ?_;intro bc bn gg aq;have aa:Ext w8 bc:=aq w8 cb ed;refine ρ ?_;refine Ye rfl rfl om rfl ?_;refine ρ ?_;have a3:=an.trans aa;have ca:i<its.length:=om
   have fk:its[i]=(yc i,(gs.map λg=>Qp f (Je g)).getD i um0):=by rw[<-c8 i d9,Qf _ its ca]
   refine ci (λh=>?_) (λh=>?_)
   .have hb:s.testBit i=true:=(Jbr s om i om).symm.trans h;clear h;refine Ju bn ?_;refine Qc (Jdx _ _ _ _ _ _ _ _ _ _ _) ?_;intro ah i3 J gi ek;have h8:(Zl its s i).length<=3:=by
     have:=(Jcd (l:=its) (s:=s) i om).length_le;rw[List.length_take]at this;omega
    obtain⟨_,_,_,_,dt⟩:=Jb a8;refine ρ ?_;refine apb (m':=1) (news:=yc i) EInp (Jk (Jk a8 aa) J) (by rw[co];exact ek.rd (n:=1) rfl) ?_ (by unfold maxLen;omega) om (a3.trans J).size ?_
    .rw[co];exact Jch
    intro f3 aj du e4 _;refine ρ ?_;refine Jh (i+1) f3 sO ⟨li,Qt (a3.trans J) e4 (λg e=>(dt g e).1),?_⟩ om;rw[Jwg ca,if_pos hb,fk,List.length_append];have e:Qj (Zl its s i++[(yc i,(gs.map λg=>Qp f (Je g)).getD i um0)])=Qj (Zl its s i)++yc i:=by simp[Qj]
    rw[e];exact du
   have hb:¬ s.testBit i=true:=λe=>by rw[(Jbr s om i om).symm.trans h]at *;cases e
   clear h;refine ρ ?_;refine Jh (i+1) mv sO ⟨li,a3,?_⟩ om;rw[Jwg ca,if_neg hb];exact Jk a8 aa
  have fl:i=its.length:=by have:=oF h;omega
  clear h;rw[fl]at a8;have dq:(pick its s).map (·.2)=(pick gs s).map λg=>Qp f (Je g):=by rw[<-Jcc,hits,Jcc]
  have bw:(pick its s).length=(pick gs s).length:=by have:=congrArg List.length dq;simpa using this
  change w8.ownsRow w6.heap.size 33 5 mv (pick its s).length (Qj (pick its s)) at a8
  rw[bw]at a8;obtain⟨d5,d8,rfl,he,dt⟩:=Jb a8;have fz:InsM w8 d5 f ds ((pick gs s).map λg=>Qp f (Je g)) λi=>((pick its s).getD i ([],um0)).1:=by
   rw[<-dq];refine InsM.of (by rw[bw];exact Rd.own a8) λp hp=>(e0 p (pick_sub.subset hp)).ext ac
  have dm:s<2^gs.length:=by rw[cq];omega
  have bj:=d3.hp cj dm;have ha:(pick gs s).length<=3:=bj.c3;refine clR (bj.meet_any e6 fz) ?_;rintro u w9 ⟨cb,gt,rfl,e2⟩;obtain⟨D',Q,T,er,pc,tc,ts,g4⟩:=id e2.inF;have g2:=g4.e;subst g2;refine Jv Yg ?_;intro bc i4 aq eb en;refine Xj en ?_;intro ah bm gf J;have ak:Ext w9 ah:=J w9 aq eb;have am:=cb.trans ak;refine Ju bm ?_;refine clR (Qbc (hTB.ext (a5.trans (ac.trans am))) (λp hp=>d3.pok p hp) e6 bj.fne bj.c4 ⟨_,rfl,e2.ext ak⟩) ?_;rintro u aj ⟨a1,x,sn,kf,pf,BB,tot,rfl,bi,_,az⟩;have fc:s-1<U.n:=by rw[ax];omega
  have ej:BB=U.BB (s-1):=by
   have h1:=d0 (s-1) fc;rw[show s-1+1=s by omega]at h1;exact az.uniq h1
  obtain⟨XA,xd,YA,yd,ZA,zd,UA,ud,tv,gu,gq,rfl,_,_,_,_,_,_,fa,_⟩:=id bi.ix.ex;obtain⟨TA,gn,rfl,_⟩:=id fa;refine Jv Ib ?_;intro ez et af ea em;refine Xj em ?_;intro d6 bl ge cg;have ag:Ext aj d6:=cg aj af ea;have d1:=bi.ext ag;have cc:=((an.trans am).trans a1).trans ag;have dv:one (s-1)=decide ((pick gs s).length=1):=by rw[bz];show decide ((pick gs (s-1+1)).length=1)=_;rw[show s-1+1=s by omega]
  have dz:∀ v,v<=f->mxR v (λv=>hmB (BB v))<=65536:=λv hv=>Ka λv _=>Jml λb hb=>bi.hb v b hb;have dx:∀ v,v<=f->mxR v (λv=>szB (BB v))<=65536:=λv hv=>Ka λv _=>Jst λb hb=>az.sz hb;refine ρ ?_;refine Xr (fun (v mo si:Nat)=>[(1,.slice QA q.length qc),(4,.bool false),(5,.slice IA ps.length ic),(8,.pointer (some ⟨b8,0,none⟩)),(10,.int .i64 0),(11,.int .i64 (f:Int)),(12,.int .i64 (mo:Int)),(13,.int .i64 (si:Int)),(14,.int .i64 (mt:Int)),(15,.int .i64 (s:Int)),(16,.slice d5 (pick gs s).length d8),(21,.pointer (some ⟨et,0,none⟩)),(105,.int .i64 (f:Int)),(106,.int .i64 (v:Int))])
   (λv mo si w'=>v<=f/\Ext d6 w'/\mo=max G (mxR v λv=>hmB (BB v))/\si=if one (s-1) then max C (mxR v λv=>szB (BB v)) else C) (λv _ _=>f-v) 0 G C sB
   ⟨Nat.zero_le _,Ext.refl _,(Nat.max_eq_left (Nat.zero_le _)).symm,by split<;>simp[mxR]⟩ ?_
  rintro v mo si gm ⟨hv,ad,cm,ch⟩;have g9:mo<=65536:=by rw[cm];exact Nat.max_le.2 ⟨av,dz v hv⟩
  have g8:si<=65536:=by rw[ch];split;exact Nat.max_le.2 ⟨ar,dx v hv⟩;exact ar
  refine ciR (λh=>?_) (λh=>?_)
  .have lv:v<f:=by have:=oT h;omega
   clear h;refine Ju (bl.ext ad) ?_;refine clR (Xqr (d1.ix.ext ad) lv) ?_;rintro u ey ⟨⟨bs,EA,ec,d4,rfl,hr,gh,eh,_,e5⟩,ce⟩;refine ρ ?_;refine Xr (fun (j a6 a9:Nat)=>[(1,.slice QA q.length qc),(4,.bool false),(5,.slice IA ps.length ic),(8,.pointer (some ⟨b8,0,none⟩)),(10,.int .i64 0),(11,.int .i64 (f:Int)),(12,.int .i64 (a6:Int)),(13,.int .i64 (a9:Int)),(14,.int .i64 (mt:Int)),(15,.int .i64 (s:Int)),(16,.slice d5 (pick gs s).length d8),(21,.pointer (some ⟨et,0,none⟩)),(105,.int .i64 (f:Int)),(106,.int .i64 (v:Int)),(111,.slice EA bs.length ec),(112,.int .i64 (bs.length:Int)),(113,.int .i64 (j:Int))])
    (λj a6 a9 w'=>j<=bs.length/\Ext ey w'/\a6=max mo (hmB ((BB v).take j))/\a9=if one (s-1) then max si (szB ((BB v).take j)) else si) (λj _ _=>bs.length-j) 0 mo si sB
    ⟨Nat.zero_le _,Ext.refl _,(Nat.max_eq_left (Nat.zero_le _)).symm,by split<;>simp[szB]⟩ ?_
   rintro j a6 a9 c9 ⟨hj,Z,aw,a2⟩;refine ciR (λh=>?_) (λh=>?_)
   .have lj:j<bs.length:=by have:=oT h;omega
    clear h;have cw:j<(BB v).length:=by rw[d4,List.length_map];exact lj
    obtain⟨z,hz⟩:∃ z,z=bs[j]:=⟨_,rfl⟩;have bf:(BB v)[j]=z.2:=by simp only[d4,List.getElem_map,hz]
    have f4:z∈bs:=by rw[hz];exact List.getElem_mem lj
    obtain⟨gw,df⟩:=e5 z f4;have e8:∀ k u,z.1[k]?=some u->c9.cell? ((adr EA (j*3)).add k)=some u:=λk u hu=>by
     have hk:k<3:=by have:=(List.getElem?_eq_some_iff.1 hu).1;omega
     rw[Xk];refine(eh.ext Z).cell ?_;rw[Iq (p:=z) (λp hp=>(e5 p hp).1) (by rw[hz];exact gE lj) hk];exact hu
    obtain⟨kv,zq,ep,dd,be⟩:=id df;obtain⟨zp,rfl⟩:=be.ptr;have c5:z.2∈BB v:=by rw[<-bf];exact List.getElem_mem cw
    have de:=bi.hb v _ c5;have db:=az.sz c5;obtain⟨zc,zk,zt⟩:=z;simp only at ep dd be e8 df bf de db;subst ep;obtain⟨eu,da,rfl,gb,ga,gc,_⟩:=id dd;refine Qs 3 j (eh.ext Z) lj ?_;refine Jl (cs:=[.slice eu zk.length da,.bool (ds.getD v false),.pointer zp]) e8 ?_;refine Jv Jyq ?_;intro gl bb cd fq ei;refine Qg (cs':=[.slice eu zk.length da,.bool (ds.getD v false),.pointer zp]) ei ?_ (Jwl rfl);intro ew ba gd di;have O:Ext c9 ew:=di c9 cd fq;refine Jl (cs:=[.bool (ds.getD v false),.pointer zp]) (λk u hu=>(ba.sub (i:=1) (j:=k) (by rw[Nat.add_comm];exact hu))) ?_;refine clR (Qhf (TrV.ext be (Z.trans O))) ?_;rintro _ gk ⟨rfl,ab⟩;refine ρ ?_;rw[maxI];have c2:max a6 zt.ht=max mo (hmB ((BB v).take (j+1))):=by rw[hmb_take' cw,aw,bf];exact Nat.max_assoc _ _ _
    refine ci (λh=>?_) (λh=>?_)
    .have h1:one (s-1)=true:=by rw[dv];exact decide_eq_true (by have:=of_beq_t h;omega)
     clear h;refine Jl (cs:=[.bool (ds.getD v false),.pointer zp]) (λk u hu=>((ba.ext ab).sub (i:=1) (j:=k) (by rw[Nat.add_comm];exact hu))) ?_;refine clR (Jfz (TrV.ext be ((Z.trans O).trans ab))) ?_;rintro _ gj ⟨rfl,dh⟩;refine ρ ?_;rw[maxI];refine Qe (j+1) (max a6 zt.ht) (max a9 zt.sz) sO ⟨lj,((Z.trans O).trans ab).trans dh,c2,?_⟩ om;rw[if_pos h1]at a2 ⊢;rw[Qlc _ cw,a2,bf];exact Nat.max_assoc _ _ _
    have h1:¬ one (s-1)=true:=by rw[dv];exactλe=>by have:=oT e;have:=of_beq_f h;omega
    clear h;refine ρ ?_;refine Qe (j+1) (max a6 zt.ht) a9 sO ⟨lj,(Z.trans O).trans ab,c2,?_⟩ om;rw[if_neg h1]at a2 ⊢;exact a2
   have hh:j=bs.length:=by have:=oF h;omega
   clear h;have e:(BB v).take j=BB v:=by rw[List.take_of_length_le];rw[d4,List.length_map];omega
   rw[e]at aw a2;refine ρ ?_;refine Qe (v+1) a6 a9 sO ⟨lv,(ad.trans ce).trans Z,?_,?_⟩ om
   .rw[aw,cm,mxR];omega
   rw[a2,ch];split
   .rw[mxR];omega
   rfl
  have f9:v=f:=by have:=oF h;omega
  clear h;subst f9;refine ρ ?_;refine Qe (s+1) mo si sO ⟨om,om,(a7.trans cc).trans ad,?_,?_⟩ om
  .rw[cm,bh,ej,Qgc cj]
  rw[ch,bg,ej,Qfz cj];by_cases h1:one (s-1)=true
  .rw[if_pos h1,if_pos h1]
  rw[if_neg h1,if_neg h1];exact(Nat.max_eq_left (Nat.zero_le _)).symm
 have fd:s=mt+1:=by have:=oF h;omega
 clear h;subst fd;rw[Nat.add_sub_cancel]at bh bg;have ef:U.Hm<=f*G:=by rw[fw,cy,bh,ax,<-au];exact Xxt
 have dw:U.n*U.Hm<=mt*(f*G):=Nat.mul_le_mul (by rw[ax,<-au];exact nR _) ef;have b1:mt*f<=42:=by have:=Nat.mul_le_mul c1 cr;omega
 have b2:mt*f*G<=42*65536:=Nat.mul_le_mul b1 av;have dj:=a5.trans br;refine Ju (b9.ext a7) ?_;refine clR (Jsc (ay.ext a7) (Rd.ext hQ dj) ff) ?_;rintro u w7 ⟨f6,fg,fe⟩;have ao:=a7.trans f6;obtain⟨kv,pb,f0,e7,rfl,dk⟩:∃(kv:Value) (pb:Bool) (st:Nat) (e:Int),u=.tuple #[kv,.bool pb,.int .i64 (st:Int),.int .i64 e]/\st<=U.n*U.Hm:=by
  by_cases hqf:q.length=U.f
  .obtain⟨nv,f2,rfl,_,h6⟩:=fe hqf;exact⟨nv,_,f2,0,rfl,h6⟩
  exact⟨.slice none 0 0,false,0,6,fg hqf,Nat.zero_le _⟩
 have gy:f0<=mt*f*G:=by rw[Nat.mul_assoc];exact nL dk dw
 refine ρ ?_;refine Vs (fun (t:Bool)=>[(150,.bool t),(5,.slice IA ps.length ic),(4,.bool false),(8,.pointer (some ⟨b8,0,none⟩)),(10,.int .i64 0),(11,.int .i64 (f:Int)),(12,.int .i64 (G:Int)),(13,.int .i64 (C:Int)),(14,.int .i64 (mt:Int))]) (λt w'=>w'=w7/\t=false) ?_ ?_
 .refine ki 142 (λh=>?_) (λh=>?_)
  .refine ρ ?_;exact Jd _ sB ⟨rfl,decide_eq_false (by rw[<-Int.natCast_mul,<-Int.natCast_mul,Jvh om];omega)⟩
  refine ρ ?_;exact Jd false sB ⟨rfl,rfl⟩
 rintro t w' ⟨rfl,rfl⟩;refine Ju (b9.ext ao) ?_;refine clR (Jsd (ay.ext ao)) ?_;rintro n8 w8 ⟨fh,f5⟩;have fx:U.U.length<=15000:=by rw[fu];exact eg
 refine clR (Qtk fh om) ?_;rintro _ w9 ⟨rfl,rfl⟩;have bo:=ao.trans f5;have b3:f*ps.length<=18:=by have:=Nat.mul_le_mul cr g3;omega
 refine ρ ?_;have fi:(if(C:Int)<1 then(1:Int) else(C:Int))-1=((max C 1-1:Nat):Int):=by split<;>omega
 rw[fi,Gv (z:=((max C 1-1:Nat):Int)) om];obtain⟨l',cn⟩:∃ l',l'=Jr (max C 1-1):=⟨_,rfl⟩;have hg:l'<=17:=by rw[cn];exact Ug om
 refine cl (Jnr (max C 1-1) om _) ?_;rintro _ bc ⟨rfl,rfl⟩;rw[<-cn];have b4:f*ps.length*(l'+3)<=360:=by have:=Nat.mul_le_mul b3 (show l'+3<=20 by omega);omega
 have b5:f*ps.length*(l'+3)*mt<=2520:=by have:=Nat.mul_le_mul b4 c1;omega
 have b6:f*ps.length*(l'+3)*mt*f<=15120:=by have:=Nat.mul_le_mul b5 cr;omega
 have b7:f*ps.length*(l'+3)*mt*f*G<=15120*65536:=Nat.mul_le_mul b6 av;obtain⟨bd,e9⟩:∃ bd,bd=f*ps.length*(l'+3)*mt*f*G:=⟨_,rfl⟩;have fp:IntKind.i64.wrap (IntKind.i64.wrap (IntKind.i64.wrap (IntKind.i64.wrap ((f:Int)*(ps.length:Int)*((l':Int)+3))*(mt:Int))*(f:Int))*(G:Int))=(bd:Int):=by
  rw[show(l':Int)+3=((l'+3:Nat):Int) from rfl,<-Int.natCast_mul,<-Int.natCast_mul,Jvh om,<-Int.natCast_mul,Jvh om,<-Int.natCast_mul,Jvh om,<-Int.natCast_mul,Jvh om,e9]
 refine ρ ?_;rw[fp];have g7:=bo;have fy:∀ i,i<U.k->∀ v,v<U.f->∀ key,(trK (U.BB (2^i-1) v) key).sz<=C:=λi hi v hv key=>by
  rw[cx]at hi;rw[cy]at hv;have h1:2^i<2^ps.length:=Nat.pow_lt_pow_right om hi;have h2:=Nat.one_le_two_pow (n:=i);refine Qhh λb hb=>?_;have h3:one (2^i-1)=true:=by
   rw[bz];refine decide_eq_true ?_;rw[show 2^i-1+1=2^i by omega];exact Qrc om
  have h4:(if one (2^i-1) then mxR f (λv=>szB (U.BB (2^i-1) v)) else 0)<=C:=by
   rw[bg,Jkm];exact Jzj (g:=λi=>if one i then mxR f (λv=>szB (U.BB i v)) else 0) ((show ∀ a b m:Nat,1<=a->a<b->m=b-1->a-1<m by omega) _ _ _ h2 h1 au)
  rw[if_pos h3]at h4;exact nL (nL (Qld hb) (Jzj (g:=λv=>szB (U.BB (2^i-1) v)) hv)) h4
 refine Qr (fun (i:Nat)=>[(4,.bool false),(8,.pointer (some ⟨b8,0,none⟩)),(10,.int .i64 0),(32,.bool true),(33,.int .i64 (bd:Int)),(174,.int .u64 (U.U.length:Int)),(175,.int .u64 (i:Int))])
  (λi w'=>i<=U.U.length/\Ext bc w') (λi=>U.U.length-i) 0 sB ⟨Nat.zero_le _,Ext.refl _⟩ ?_
 rintro i ah ⟨hi,J⟩;have a4:=bo.trans J;refine ciR (λh=>?_) (λh=>?_)
 .have li:i<U.U.length:=by have:=oT h;omega
  clear h;have ai:Ext ah ah.drew:=(Ext.refl ah).drew;refine drR (scq 11 [2,3]) ?_;refine Qy (λj u hu=>((b9.ext a4).ext ai).at hu) ?_;refine Qq (Jzd i om _) ?_;rintro o aj ⟨ho,_,a1⟩;refine⟨a1,?_⟩;refine ρd ?_;have ee:=((ay.ext a4).ext ai).ext a1;refine dcl (Jsg ee ho fy ar ee.f32) ?_;rintro u ez ⟨af,_,ft⟩;obtain⟨RA,rc,d7,rfl,_,_,dl⟩:=ft li;refine⟨af,?_⟩;have gx:d7<=bd:=by
   rw[cy,cx]at dl;rw[e9];exact nL dl (Qlq (by rw[cn];have:=Xjx C;omega) dw)
  refine ρd ?_;refine ciR (λh=>?_) (λh=>?_)
  .have:=oT h;omega
  clear h;refine ρ ?_;rw[Gv (z:=(i:Int)+1) om];exact Ql (i+1) sO ⟨li,((J.trans ai).trans a1).trans af⟩ om
 refine clR (Jnz (hTB.ext ((a5.trans ae).trans a4))) ?_;rintro _ aj ⟨rfl,a1⟩;refine ρ ?_;exact Jj ⟨rfl,((a5.trans ae).trans a4).trans a1⟩
end Go.Proofs.YtgobkbeokaaplaaGreatDoor
namespace Go.Proofs.YtgobkbeokaaplaaGreatDoor
open Go.RowKit Pl Go.Wk Go.ChangeShapes Go.WideShapes
theorem Qgf{B0:Nat}{w:World}{v vy:Value}(hTB:TB B0 w)(h:Qdg w v)(hy:∃ r,RowE w vy r): Ret Tryz.prog 4 [v,vy] w λu w'=>u=.bool true/\Ext w w':=by
 obtain⟨A,c,l,C,rfl,o,j⟩:=h;obtain⟨r,i,_⟩:=hy;obtain⟨G,D,rfl,_⟩:=id i;exact Qgg hTB o j i
end Go.Proofs.YtgobkbeokaaplaaGreatDoor
