/- Part 9. -/
import Derived.Test.YtgobkbeokaaplaaGreatDoorR08
import Derived.OpenShut
set_option linter.unusedVariables false
set_option maxRecDepth 100000
set_option maxHeartbeats 40000000
namespace Go.Proofs.YtgobkbeokaaplaaGreatDoor
open Go.RowKit Pl Go.Wk
attribute [local irreducible] WC WL QX WD WDB WP WN WG WH WM
variable {gs:List (List CsA)}{ds:List Bool}{B0 c f s:Nat}{xc:Nat->List Value}{A:Option Addr}{α β:Type}{v x:Value}{W w:World}
structure IxD where
 s: Nat
 kf:Nat->Nat
 pf:Nat->Int
 BB:Nat->List BkT
 tot:Nat
def IxG(f:Nat)(ds:List Bool)(gs:List (List CsA))(w:World)(cs:List Value)(d:IxD): Prop:=IxA w (.agg cs.toArray) f ds d.kf d.pf d.BB d.tot (Xe (pick gs d.s).flatten)/\BBp f ds (pick gs d.s).flatten d.BB
theorem IxA.on{kf:Nat->Nat}{pf:Nat->Int}{BB:Nat->List BkT}{tot:Nat}{L:List Row}(h:IxA w x f ds kf pf BB tot L)(hv:IxV W x f ds kf pf BB tot)(tb:∃ B0,TB B0 W): IxA W x f ds kf pf BB tot L:=⟨tb,hv,h.ip,h.ho,h.hb⟩
theorem Xvx{ms:List CsA}(hTB:TB B0 w)(h:∀ p∈ms,CsM f ds p)(hds:ds.length=f)(hne:ms≠[])(h4:ms.length<=4)(hv:InV w v (Vz f ds (Xx f (Qj ms)))):
  Ret Tryz.prog 22 [v] w λu w'=>Ext w w'/\∃(x:Value) (st:Int) (kf:Nat->Nat) (pf:Nat->Int) (BB:Nat->List BkT) (tot:Nat),u=.tuple #[x,.int .i64 st,.int .i64 0]/\IxA w' x f ds kf pf BB tot (Xe ms)/\Off (λk=>k<w.heap.size) w' (λW=>IxV W x f ds kf pf BB tot)/\BBp f ds ms BB:=by
 obtain⟨ts,j,hB⟩:=Xxt hv hds;have D:Qj ms≠[]:=λe=>hne (List.map_eq_nil_iff.1 e);have O:(Qj ms).length<=4:=by simpa [Qj] using h4
 have hI:=jBldI (ds:=ds) (ts:=ts) (Jkr h) hds D O j;have C:ts.length=(jAs f 0 (Qj ms)).length:=by have:=congrArg List.length j;grind [Xx]
 refine(Xxc hTB hI hB).mono ?_;rintro u w' ⟨Z,x,st,kf,pf,R,rfl,hE,o⟩;obtain⟨hL,hl,J⟩:=Xvl h hne C;refine⟨Z,x,st,kf,pf,_,_,rfl,Xxf ⟨B0,hTB.ext Z⟩ hI (λi hi=>?_) hE o.here hL J om,λW hW=>(o W hW).congr λv hv=>by grind [BBx],kf,pf,R,by rw[<-C];exact hE,by rw[j];rfl⟩;rw[j];have G:i<(jAs f 0 (Qj ms)).length:=C ▸ hi;show((jAs f 0 (Qj ms)).map toAtm |>.getD i a0).rows=_;simp[rwL,List.getD,G,toAtm]
theorem Jdj(d:α)(ps:List (List Value×α)): Qw ps=Qy ps.length λi=>(ps.getD i ([],d)).1:=by
 have key:∀ n,n<=ps.length->Qw (ps.take n)=Qy n λi=>(ps.getD i ([],d)).1:=by
  intro n;induction n with
  | zero=>intro _;rfl
  | succ n ih=>
   grind [Qr,Ky,Qw]
 grind
theorem InsM.of{ps:List (List Value×UMem)}(hr:Rd w 5 A ps.length (Qw ps))(he:∀ p∈ps,InC w (Vz f ds p.2) p.1): InsM w A f ds (ps.map (·.2)) λi=>(ps.getD i ([],um0)).1:=by
 refine⟨by rw[List.length_map,<-Jdj um0];exact hr,λi hi=>?_⟩;grind
theorem InsM.its{Ms:List UMem}(h:InsM w A f ds Ms xc): ∃ ps:List (List Value×UMem),ps.map (·.2)=Ms/\ps.length=Ms.length/\(∀ i,i<Ms.length->ps.getD i ([],um0)=(xc i,Ms.getD i um0))/\∀ p∈ps,InC w (Vz f ds p.2) p.1:=by
 refine⟨(List.range Ms.length).map λi=>(xc i,Ms.getD i um0),?_,by simp,λi hi=>by simp[List.getD,hi],λp hp=>?_⟩
 .rw[List.map_map];refine List.ext_getElem (by simp) λi o j=>?_;simp[List.getD,j]
 obtain⟨i,hi,rfl⟩:=List.mem_map.1 hp;exact h.el i (List.mem_range.1 hi)
theorem Qrs(g:α->β)(l:List α)(s i:Nat): Yf (l.map g) s i=(Yf l s i).map g:=by grind [Yf]
theorem Qqs(g:α->β)(l:List α)(s:Nat): pick (l.map g) s=(pick l s).map g:=by
 unfold pick;rw[List.length_map,Qrs]
theorem Qzw(hs:List (List CsA)): Xx f (hs.map λg=>Xx f (Qj g))=Xx f (Qj hs.flatten):=by
 have i:=Qzx (f:=f) (s:=0) (Gs:=hs.map Qj);have e:(hs.map Qj).map (Xx f)=hs.map λg=>Xx f (Qj g):=by rw[List.map_map];rfl
 have j:(hs.map Qj).flatten=Qj hs.flatten:=by unfold Qj;rw[List.map_flatten]
 grind [Xx]
theorem Jtv: ∀ s,s<8->∀ i,i<3->(bits .and .i64 (((s:Nat):Int).fdiv (2^min (((i:Nat):Int)).toNat IntKind.i64.bits)) 1 == 1)=s.testBit i:=by decide
def mxR: Nat->(Nat->Nat)->Nat
 | 0,_=>0
 | n+1,g=>max (mxR n g) (g n)
theorem Qzt{g:Nat->Nat}: ∀ {n i:Nat},i<n->g i<=mxR n g
 | n+1,i,h=>by
  rw[mxR];rcases Nat.lt_or_ge i n with h1|h1
  .have:=Qzt (g:=g) h1;omega
  repeat grind
theorem Qxn{g:Nat->Nat}{B:Nat}: ∀ {n:Nat},(∀ i,i<n->g i<=B)->mxR n g<=B
 | 0,_=>Nat.zero_le _
 | n+1,h=>by
  have h1:=Qxn (g:=g) (n:=n) λi hi=>h i om;grind [mxR]
theorem Jsv{g:Nat->Nat}{B:Nat}(h:∀ i,g i<=B): ∀ n,Ql n g<=n*B
 | 0=>Nat.zero_le _
 | n+1=>by
  have h1:=Jsv h n;grind [Ql,Nat.succ_mul]
def Vf: IxD:=⟨0,λ_=>0,λ_=>0,λ_=>[],0⟩
structure HsOk(hs:List (List CsA))(f:Nat)(ds:List Bool): Prop where
 nil:hs≠[]
 c3:hs.length<=3
 c4:hs.flatten.length<=4
 ne:∀ g∈hs,g≠[]
 ok:∀ g∈hs,∀ p∈g,CsM f ds p
theorem CsU.hs(h:CsU gs f ds): HsOk gs f ds:=⟨λe=>by have:=h.c1;grind,h.c3,h.c4,h.ne,h.ok⟩
theorem CsU.hp(h:CsU gs f ds)(h1:1<=s)(h2:s<2^gs.length): HsOk (pick gs s) f ds :=
 ⟨Qqr h1 h2,Nat.le_trans Qrr h.c3,h.p4,λg i=>h.ne g (pick_sub.subset i),λg i=>h.ok g (pick_sub.subset i)⟩
section
variable {hs:List (List CsA)} {f:Nat} {ds:List Bool} (h:HsOk hs f ds)
include h
theorem HsOk.fok: ∀ p∈hs.flatten,CsM f ds p:=λp hp=>by
 obtain⟨g,j,i⟩:=List.mem_flatten.1 hp;exact h.ok g j p i
theorem HsOk.fne: hs.flatten≠[]:=by
 obtain⟨g,i⟩:=List.exists_mem_of_ne_nil _ h.nil;obtain⟨p,hp⟩:=List.exists_mem_of_ne_nil _ (h.ne g i);exact List.ne_nil_of_mem (List.mem_flatten.2 ⟨g,i,hp⟩)
theorem HsOk.meet(hds:ds.length=f): (∀ M∈hs.map (λg=>Xx f (Qj g)),UMt f ds M)/\jN f 0 (hs.map λg=>Xx f (Qj g))<=32/\(jPm f 0 (hs.map λg=>Xx f (Qj g))).length<=1000/\(jAs f 0 (hs.map λg=>Xx f (Qj g))).length<=1000:=by
 have e:=Qzw (f:=f) hs;have G:jN f 0 (hs.map λg=>Xx f (Qj g))=jN f 0 (Qj hs.flatten):=congrArg UMem.N e;have D:jPm f 0 (hs.map λg=>Xx f (Qj g))=jPm f 0 (Qj hs.flatten):=congrArg UMem.perm e;have C:jAs f 0 (hs.map λg=>Xx f (Qj g))=jAs f 0 (Qj hs.flatten):=congrArg UMem.ats e;have i:=Jkr h.fok;have o:(Qj hs.flatten).length<=4:=by rw[Qj,List.length_map];exact h.c4
 have J:=(Qbd i hds (λe=>h.fne (List.map_eq_nil_iff.1 e)) o).1;have O:=Jvf (s:=0) i;have hp:=(Jlt (s:=0) i).1;refine⟨λM u=>?_,by rw[G];omega,by rw[D];omega,by rw[C];omega⟩;obtain⟨g,j,rfl⟩:=List.mem_map.1 u;refine Xqs (Jkr (h.ok g j)) hds (λe=>h.ne g j (List.map_eq_nil_iff.1 e)) ?_;have Z:=flat_len (List.singleton_sublist.2 j);grind [Qj,List.length_map]
theorem HsOk.meet_any(hds:ds.length=f)(hI:InsM w A f ds (hs.map λg=>Xx f (Qj g)) xc):
  Ret Tryz.prog 14 [.slice A hs.length c] w λu w'=>Ext w w'/\∃ cs,u=.tuple #[.agg cs.toArray,.int .i64 0]/\InC w' (Vz f ds (Xx f (Qj hs.flatten))) cs:=by
 obtain⟨C,o,j,i⟩:=h.meet hds;have:=Qhc (c:=c) hI C (λe=>h.nil (List.map_eq_nil_iff.1 e)) (by rw[List.length_map];exact h.c3) o j i;grind [List.length_map,Qzw]
end
theorem Jnm(n f:Int)(A B C:Option Addr)(a b c a' b' c':Nat)(w:World): (Instr.buildSlice 24 1 #[(0,.agg #[.int .i64 n,.int .i64 f,.slice A a a',.slice B b b',.slice C c c'])]).run Tryz.prog w=.ok (.slice (some ⟨w.heap.size,0,none⟩) 1 1) (w.alloc (.cells [Value.int .i64 n,.int .i64 f,.slice A a a',.slice B b b',.slice C c c'].toArray 33)):=kr
theorem Qbp(A B C D E:Option Addr)(a b c d e a' b' c' d' e':Nat)(w:World): (Instr.buildSlice 43 1 #[(0,.agg #[.slice A a a',.slice B b b',.slice C c c',.slice D d d',.slice E e e'])]).run Tryz.prog w=.ok (.slice (some ⟨w.heap.size,0,none⟩) 1 1) (w.alloc (.cells [Value.slice A a a',.slice B b b',.slice C c c',.slice D d d',.slice E e e'].toArray 55)):=kr
theorem Jsb(hTB:TB B0 w)(hC:CsU gs f ds)(hds:ds.length=f)(hI:InsM w A f ds (gs.map λg=>Xx f (Qj g)) xc):
  Ret Tryz.prog 15 [.slice A gs.length c] w λu w'=>Ext w w'/\∃(cs:List Value) (st:Int) (D:UD),u=.tuple #[.agg cs.toArray,.int .i64 st,.int .i64 0]/\UnV w' D cs/\D.k=gs.length/\D.f=f/\D.ds=ds/\D.U=Jkj ds gs/\D.M=(λs=>Xe (pick gs s).flatten)/\D.Hm=mxR D.n (λi=>Ql D.f λv=>hmB (D.BB i v))/\(∀ i,i<D.n->BBp f ds (pick gs (i+1)).flatten (D.BB i))/\Off (λk=>B0<=k/\k<w.heap.size) w' λW=>UnV W D cs:=by
 have dn:=hC.c1;have dm:=hC.c3;obtain⟨its,hits,c9,b4,ca⟩:=hI.its;rw[List.length_map]at c9 b4;have bs:Rd w 5 A gs.length (Qy gs.length xc):=by have:=hI.rd;rwa [List.length_map]at this
 have bl:∀ {i},i<gs.length->∃ D Q T dc pc tc ts,InF w f ds ((gs.map λg=>Xx f (Qj g)).getD i um0) (xc i) D Q T dc pc tc ts:=λhi=>(hI.el _ (by rw[List.length_map];exact hi)).inF;have b3:∀ i,i<gs.length->(xc i).length=5:=λi hi=>by obtain⟨D,Q,T,dc,pc,tc,ts,h⟩:=bl hi;rw[h.e];rfl
 have bf:∀ {W:World} (hx:Ext w W) {i:Nat} (hi:i<gs.length) {j:Nat} {u:Value},(xc i)[j]?=some u->W.cell? ((adr A (i*5)).add j)=some u:=λhx i hi j u hu=>by
  have hj:j<5:=by
   rcases Nat.lt_or_ge j 5 with h'|h'
   .exact h'
   rw[List.getElem?_eq_none (by rw[b3 i hi];omega)]at hu;cases hu
  rw[Xv];exact(bs.ext hx).cell (by rw[Yk b3 hi hj];exact hu)
 have bw:IntKind.i64.wrap (1*2^min ((gs.length:Int)).toNat IntKind.i64.bits)=((2^gs.length:Nat):Int):=by
  have:gs.length=1∨gs.length=2∨gs.length=3:=om
  rcases this with h|h|h<;>rw[h]<;>rfl
 have em:2^gs.length<=8:=Nat.pow_le_pow_right (show 0<2 by omega) dm;have en:2<=2^gs.length:=Nat.pow_le_pow_right (show 0<2 by omega) dn;refine enE Tryz.func15 Tryz.ntmps15 ?_;refine Jw Kq ?_;intro w1 b2 ba du bi;refine clR (hC.hs.meet_any hds (hI.ext ba)) ?_;rintro u w2 ⟨db,d6,rfl,au⟩;obtain⟨_,_,_,_,_,_,_,hF⟩:=au.inF;have bh:=hF.e;subst bh;refine Jw Vm ?_;intro w3 b5 da dt e1;refine Qg e1 ?_;intro w4 ed er d9;have bn:Ext w2 w4:=d9 w2 da dt;have ae:=db.trans bn;refine Qb (λw=>Qbv w) ?_;intro w5 b7 bm dq e0;refine ρ ?_;have dv:OwnM 55 5 (IxG f ds gs) (λk=>k=b2∨(B0<=k/\k<w.heap.size)) w5 w4.heap.size (.slice (some ⟨b7,0,none⟩) 0 0) []:=⟨[],rfl,e0.own (n:=0) dq rfl (Nat.zero_le _),λp hp=>by cases hp⟩;refine Zj (fun (s:Nat) (xv:Value) (st:Int)=>[(0,.slice A gs.length c),(2,.pointer (some ⟨b2,0,none⟩)),(7,xv),(8,.int .i64 st),(9,.int .i64 (s:Int))])
  (λs xv st w'=>1<=s/\s<=2^gs.length/\Ext w1 w'/\w4.heap.size<=w'.heap.size/\∃ Xd:List IxD,OwnM 55 5 (IxG f ds gs) (λk=>k=b2∨(B0<=k/\k<w.heap.size)) w' w4.heap.size xv Xd/\Xd.length=s-1/\∀ i,i<s-1->(Xd.getD i Vf).s=i+1) (λs _ _=>2^gs.length-s) 1 (.slice (some ⟨b7,0,none⟩) 0 0) 0 sB
  ⟨nR _,om,ae.trans bm,bm.size,[],dv,rfl,λi hi=>absurd hi (Nat.not_lt_zero i)⟩ ?_
 rintro s xv st w6 ⟨df,ej,G,az,Xd,hO,aj,ck⟩;have Z:=ba.trans G;refine ρ ?_;refine Jxd rfl rfl om rfl ?_;refine Go.Wk.kv 32 (congrArg (Value.int .i64) bw) ?_;refine ciR (λh=>?_) (λh=>?_)
 .have ls:s<2^gs.length:=by have:=oT h;omega
  clear h;refine Qb (λw=>Xyg w) ?_;intro w7 e3 ac cj an;refine ρ ?_;refine Jo (fun (i:Nat) (mv:Value)=>[(0,.slice A gs.length c),(2,.pointer (some ⟨b2,0,none⟩)),(7,xv),(8,.int .i64 st),(9,.int .i64 (s:Int)),(10,mv),(37,.slice A gs.length c),(38,.int .i64 (gs.length:Int)),(39,.int .i64 (i:Int))])
   (λi mv w'=>i<=gs.length/\Ext w6 w'/\w'.ownsRow w6.heap.size 33 5 mv (Yf its s i).length (Qw (Yf its s i))) (λi _=>gs.length-i) 0 (.slice (some ⟨e3,0,none⟩) 0 0) sB
   ⟨Nat.zero_le _,ac,an.own (n:=0) cj rfl (Nat.zero_le _)⟩ ?_
  rintro i mv w8 ⟨hi,ad,a1⟩;have af:=Z.trans ad;refine ciR (λh=>?_) (λh=>?_)
  .have li:i<gs.length:=by have:=oT h;omega
   clear h;obtain⟨D,Q,T,dc,pc,tc,ts,dx⟩:=bl li;have bc:=dx.e;refine Qp 5 i (bs.ext af) li ?_;refine Jh (cs:=[.int .i64 (((gs.map λg=>Xx f (Qj g)).getD i um0).N:Int),.int .i64 (f:Int),.slice D ds.length dc,.slice Q ((gs.map λg=>Xx f (Qj g)).getD i um0).perm.length pc,.slice T ((gs.map λg=>Xx f (Qj g)).getD i um0).ats.length tc]) (λj u hu=>bf af li (by rw[bc];exact hu)) ?_;refine Jw Vm ?_;intro w9 f0 ab ch cy;refine Qg cy ?_;intro a3 ay ai O;have a4:Ext w8 a3:=O w8 ab ch;refine ρ ?_;refine Uf rfl rfl om rfl ?_;refine ρ ?_;have C:=ad.trans a4;have b9:i<its.length:=om
   have di:its[i]=(xc i,(gs.map λg=>Xx f (Qj g)).getD i um0):=by rw[<-b4 i li,Qd _ its b9]
   refine ci (λh=>?_) (λh=>?_)
   .have hb:s.testBit i=true:=(Jtv s om i om).symm.trans h;clear h;refine Ja ay ?_;refine Qb (Jnm _ _ _ _ _ _ _ _ _ _ _) ?_;intro a9 eu J eb cr;have ek:(Yf its s i).length<=3:=by
     have:=(Jhv (l:=its) (s:=s) i om).length_le;rw[List.length_take]at this;omega
    obtain⟨_,_,_,_,c6⟩:=Jb a1;refine ρ ?_;refine apb (m':=1) (news:=xc i) EInp (Jk (Jk a1 a4) J) (by rw[bc];exact cr.rd (n:=1) rfl) ?_ (by unfold maxLen;omega) om (C.trans J).size ?_
    .rw[bc];intro u hu;simp only[List.mem_cons,List.not_mem_nil,or_false]at hu;rcases hu with rfl|rfl|rfl|rfl|rfl<;>rfl
    intro d5 b8 c7 cc _;refine ρ ?_;refine Jf (i+1) d5 sO ⟨li,Qa (C.trans J) cc (λg e=>(c6 g e).1),?_⟩ om;rw[Jht b9,if_pos hb,di,List.length_append];have e:Qw (Yf its s i++[(xc i,(gs.map λg=>Xx f (Qj g)).getD i um0)])=Qw (Yf its s i)++xc i:=by simp[Qw]
    rw[e];exact c7
   have hb:¬ s.testBit i=true:=λe=>by rw[(Jtv s om i om).symm.trans h]at *;cases e
   clear h;refine ρ ?_;refine Jf (i+1) mv sO ⟨li,C,?_⟩ om;rw[Jht b9,if_neg hb];exact Jk a1 a4
  have dj:i=its.length:=by have:=oF h;omega
  clear h;rw[dj]at a1;have bz:(pick its s).map (·.2)=(pick gs s).map λg=>Xx f (Qj g):=by rw[<-Qqs,hits,Qqs]
  have c2:(pick its s).length=(pick gs s).length:=by have:=congrArg List.length bz;simpa using this
  change w8.ownsRow w6.heap.size 33 5 mv (pick its s).length (Qw (pick its s)) at a1
  rw[c2]at a1;obtain⟨MA,mc,rfl,eo,c6⟩:=Jb a1;have dw:InsM w8 MA f ds ((pick gs s).map λg=>Xx f (Qj g)) λi=>((pick its s).getD i ([],um0)).1:=by
   rw[<-bz];refine InsM.of (by rw[c2];exact Rd.own a1) λp hp=>(ca p (pick_sub.subset hp)).ext af
  have bg:=hC.hp df ls;refine clR (bg.meet_any hds dw) ?_;rintro u w9 ⟨ab,d6,rfl,au⟩;obtain⟨D,Q,T,dc,pc,tc,ts,dz⟩:=id au.inF;have bh:=dz.e;subst bh;refine Jw Vm ?_;intro a3 ez O cg cx;refine Qg cx ?_;intro a9 ax e9 J;have aa:Ext w9 a9:=J w9 O cg;have a5:=(ad.trans ab).trans aa;have ag:=Z.trans a5;refine Ja ax ?_;refine clR (Xvx (hTB.ext ag) (λp hp=>hC.pok p hp) hds bg.fne bg.c4 ⟨_,rfl,au.ext aa⟩) ?_;rintro u b8 ⟨br,x,sn,kf,pf,BB,tot,rfl,am,ah,cp⟩;obtain⟨XA,xd,YA,yd,ZA,zd,UA,ud,tv,ei,eh,rfl,_,_,_,_,_,_,dd,_⟩:=id am.ix.ex;obtain⟨TA,d4,rfl,_⟩:=id dd;refine Jw Jjq ?_;intro eg ey bq ce cw;refine Qg cw ?_;intro d3 aw e8 bp;have aq:Ext b8 d3:=bp b8 bq ce;refine Ja aw ?_;refine Qb (Qbp _ _ _ _ _ _ _ _ _ _ _ _ _ _ _) ?_;intro d2 et bo ea cq;have a7:=aq.trans bo;have o:=(a5.trans br).trans a7;have bb:=Z.trans o;obtain⟨PA,ao,rfl,c5,ar⟩:=hO.form;have d7:=bi.lt;have cz:=G.size
  have e4:=a5.size;have ee:=ae.size;have ec:=hTB.le;have hΦ:Off (λk=>(k=b2∨(B0<=k/\k<w.heap.size))∨(Value.slice PA Xd.length ao).ownBlock=some k) d2 (λu=>IxG f ds gs u [.slice XA f xd,.slice YA f yd,.slice ZA f zd,.slice UA f ud,.slice TA (Jq tot).length d4] ⟨s,kf,pf,BB,tot⟩):=λW hW=>by
   have e5:=ag.size;refine⟨am.on ((ah.ext a7) W (hW.mono λk _ hk=>?_)) ⟨B0,(hTB.ext bb).gr hW λk hk h=>?_⟩,cp⟩
   .rcases hk with(hk|hk)|hk
    .show k<a9.heap.size;omega
    .show k<a9.heap.size;omega
    have:=(ar k hk).2;show k<a9.heap.size;omega
   rcases h with(h|h)|h
   .omega
   .omega
   have:=(ar k h).1;have:=ba.size;omega
  have e6:Xd.length<=7:=om
  refine ρ ?_;refine apM EX5 (Φ:=IxG f ds gs) (hO.ext o) cq rfl (λu hu=>?_) hΦ om om (nL az o.size) ?_
  .simp only[List.mem_cons,List.not_mem_nil,or_false]at hu;rcases hu with rfl|rfl|rfl|rfl|rfl<;>rfl
  intro d0 d1 co b6 e7;have ap:Ext w1 d1:=(GrN.by (N:=λk=>(Value.slice PA Xd.length ao).ownBlock=some k) b6 λk hk=>hk).old (G.trans o) λk hk=>by have:=(ar k hk).1;omega
  refine ρ ?_;refine Qe (s+1) d0 _ sO ⟨om,om,ap,Nat.le_trans (nL az o.size) b6.size,_,co,by rw[List.length_append,aj];simp;omega,λi hi=>?_⟩ om;rcases Nat.lt_or_ge i (s-1) with h1|h1
  .rw[List.getD,List.getElem?_append_left om];exact ck i h1
  have:i=s-1:=om
  subst this;rw[List.getD,List.getElem?_append_right om,aj];simp;omega
 have de:s=2^gs.length:=by have:=oF h;omega
 clear h;subst de;obtain⟨ps,e2,b1,dg⟩:=hO;subst e2;rw[List.length_map]at aj;obtain⟨PA,ao,rfl,c5,ar⟩:=Jb b1;have cb:∀ i,i<ps.length->(ps.map (·.2)).getD i Vf=(ps.getD i ([],Vf)).2:=λi hi=>by simp[List.getD,hi]
 obtain⟨D,hD⟩:∃ D:UD,D=⟨gs.length,f,ds,λs=>Xe (pick gs s).flatten,Jkj ds gs,λi=>(ps.getD i ([],Vf)).1,λi=>(ps.getD i ([],Vf)).2.kf,λi=>(ps.getD i ([],Vf)).2.pf,λi=>(ps.getD i ([],Vf)).2.BB,λi=>(ps.getD i ([],Vf)).2.tot,mxR ps.length (λi=>Ql f λv=>hmB ((ps.getD i ([],Vf)).2.BB v))⟩:=⟨_,rfl⟩;have a8:D.n=ps.length:=by rw[hD,aj];rfl
 have dh:∀ s,(Xe (pick gs s).flatten).length<=5000:=λs=>Qyw hC.pok;have ak:∀ i,i<ps.length->Off (λk=>k=b2∨(B0<=k/\k<w.heap.size)) w6 λW=>IxA W (.agg (ps.getD i ([],Vf)).1.toArray) f ds (ps.getD i ([],Vf)).2.kf (ps.getD i ([],Vf)).2.pf (ps.getD i ([],Vf)).2.BB (ps.getD i ([],Vf)).2.tot (Xe (pick gs (i+1)).flatten)/\BBp f ds (pick gs (i+1)).flatten (ps.getD i ([],Vf)).2.BB:=λi hi W hW=>by
  have h1:=(dg _ (getD_mem' ([],Vf) ps hi)).2 W (hW.mono λk _ hk=>.inl hk);have h2:=ck i om;rw[cb i hi]at h2;unfold IxG at h1;rw[h2]at h1;exact h1
 have am:=λi hi=>(ak i hi).here.1;have a2:PreU w6 D PA:=by
  rw[hD];refine⟨?_,λi hi=>am i (by have h:i<2^gs.length-1:=hi;omega),hC.unp,λi hi=>Qzt (g:=λi=>Ql f λv=>hmB ((ps.getD i ([],Vf)).2.BB v)) (by have h:i<2^gs.length-1:=hi;omega),?_,dh⟩
  .have h1:=Rd.own b1;rw[Jdj Vf]at h1;show Rd w6 5 PA (2^gs.length-1) (Qy (2^gs.length-1) _);rw[<-aj];exact h1
  refine Qxn λi hi=>?_;have c8:=am i hi;have h1:=Jsv (g:=λv=>hmB ((ps.getD i ([],Vf)).2.BB v)) (B:=65536) (λv=>Xzg λb hb=>c8.hb v b hb) f;have h2:=c8.ip.f32;have h3:f*65536<=32*65536:=nO _ h2;omega
 have cn:=Jrx (mc:=ao) a2;rw[a8,show D.k=gs.length by rw[hD]]at cn;refine clR cn ?_;rintro u w7 ⟨ac,DA,dc,NA,nc,SA,sl,sc,rfl,dl,dk,ah⟩;refine Jw Kq ?_;intro w8 ew d8 cd cv;refine Qg cv ?_;intro w9 bj ep ab;have a6:Ext w7 w9:=ab w7 d8 cd;refine Ja bj ?_;refine Qg (bi.ext ((G.trans ac).trans a6)) ?_;intro a3 an ai O;have be:GrN (λk=>k=b2) w6 a3:=(GrN.ext (ac.trans a6)).trans (GrN.by ai λj hj=>by injection hj with hj;exact hj.symm);have bd:GrN (λk=>k=b2) w7 a3:=(GrN.ext a6).trans (GrN.by ai λj hj=>by injection hj with hj;exact hj.symm);have d7:=bi.lt;have cz:=G.size;have av:GrN (λk=>k=b2∨(B0<=k/\k<w.heap.size)) w6 a3:=be.mono λk _ h=>.inl h;have ef:=Z.size;have cm:Off (λk=>B0<=k/\k<w.heap.size) a3 λW=>UnV W D [.int .i64 (D.k:Int),.int .i64 (D.f:Int),.slice DA D.f dc,.slice NA D.n nc,.slice SA sl sc]:=λW hW=>by
  obtain⟨k1,k2,k3⟩:=ah W ((bd.mono λk _ hk=>by show k<w6.heap.size;omega).trans (hW.mono λk _ hk=>by show k<w6.heap.size;omega));rw[<-a8]at k2;exact⟨⟨DA,dc,NA,nc,SA,sl,sc,rfl,dl,dk,k1,k2,k3⟩,λi hi=>by rw[a8]at hi;have:=(ak i hi W (av.trans (hW.mono λk _ h=>.inr h))).1;rw[hD];exact this,a2.up,a2.hm,a2.hl,a2.ml⟩
 refine ρ ?_;refine Jqs an ⟨O w ((Z.trans ac).trans a6) du,_,st,D,?_,cm.here,by rw[hD],by rw[hD],by rw[hD],by rw[hD],by rw[hD],?_,λi hi=>?_,cm⟩
 .rw[a8,hD]
 .rw[a8,hD]
 rw[a8]at hi;rw[hD];exact(ak i hi).here.2
open Go.RowKit Pl Go.Wk
variable {c:Cse}{ats:List Atm}{A B C aA dA pA:Option Addr}
def tt5: TT:=(22,{ desc:=.slice 30,esz:=6 })::(67,{ desc:=.slice 116,esz:=5 })::tt4
theorem Jsd: TOk Tryz.prog tt5:=⟨⟨kr,kr,kr⟩,⟨kr,kr,kr⟩,Jsf⟩
instance (priority:=6000):Tab Tryz.prog tt5:=⟨Jsd,mixed⟩
def c0: Cse:=⟨0,0,[],[],[],[]⟩
structure CsesV(w:World)(A:Option Addr)(l:List Cse)(xc:Nat->List Value): Prop where
 rd:Rd w 6 A l.length (Qy l.length xc)
 el:∀ i,i<l.length->CseV w (xc i) (l.getD i c0)
theorem CsesV.ext{w w':World}{A:Option Addr}{l:List Cse}{xc:Nat->List Value}(h:CsesV w A l xc)(hx:Ext w w'): CsesV w' A l xc:=⟨h.rd.ext hx,λi hi=>(h.el i hi).ext hx⟩
theorem CseOk.atm(h:CseOk c ats): (Xr c ats).ats.map toAtm=ats:=by
 have u:ats.length=c.m:=h.al;refine List.ext_getElem (by simp[Xr,u]) λi J C=>?_;have hi:i<c.m:=om
 have o:=h.vars hi;have j:=h.mka i (by grind [Cse.m]);have e:ats.getD i a0=ats[i]:=Qd a0 ats C;simp only[Xr,List.map_map,List.getElem_map,List.getElem_range,Function.comp,toAtm,rsA,e];rw[e]at j;have G:=j.vars;have D:=j.ar;rw[o.1,o.2.2.2];cases hat:ats[i] with
 | mk v a r=>
  grind
theorem Xzb{w:World}{dc pc ac an:Nat}(h:CseOk c ats)(hD:BoolsV w (.slice dA c.ds.length dc) c.ds)(hP:IntsV w (.slice pA c.pm.length pc) c.pm)(hG:GV 3 AtG w (.slice aA an ac) ats):
  InC w (Vz c.F c.ds (Xr c ats)) [.int .i64 c.n,.int .i64 c.f,.slice dA c.ds.length dc,.slice pA c.pm.length pc,.slice aA an ac]:=by
 refine⟨.slice dA c.ds.length dc,.slice pA c.pm.length pc,.slice aA an ac,?_,hD,?_,?_⟩
 .rw[h.nN.1,h.fF.1];rfl
 .show IntsV w _ (nz (toN c.pm));rw[h.pm.2];exact hP
 show AtsV w _ ((Xr c ats).ats.map toAtm);rw[h.atm];exact Jfb hG
def RefG(w:World)(cs:List Value)(p:CsA): Prop:=∃ pA pn pc vA vc rA rc,cs=Vu (p.1.N:Int) (p.1.F:Int) pA pn pc vA vc rA rc p.1.m/\RInM w vA rA p.1.m p.1.vars p.1.crs
def InG(f:Nat)(ds:List Bool)(w:World)(cs:List Value)(p:CsA): Prop:=InC w (Vz f ds (Xr p.1 p.2)) cs
theorem Qxd{n f:Int}{a b c a' b' c':Nat}: ∀ u∈[Value.int .i64 n,.int .i64 f,.slice A a a',.slice B b b',.slice C c c'],u.oneCell'=true:=λu i=>by
 simp only[List.mem_cons,List.not_mem_nil,or_false]at i;rcases i with rfl|rfl|rfl|rfl|rfl<;>rfl
theorem Qfh: Qu Tryz.prog 30=some (.agg #[.int .i64 0,.int .i64 0,.slice none 0 0,.slice none 0 0,.slice none 0 0,.slice none 0 0]):=kr
open Go.RowKit Pl Go.Wk
variable {i k m n:Nat}{v vd:Value}
theorem Xvj: Yn n m=0↔n=m:=by
 unfold Yn;grind
theorem Qcv{w:World}(hv:NatV w v n)(hk:k<9223372036854775808):
  Ret Tryz.prog 60 [v,.int .i64 (k:Int)] w λu w'=>u=.bool (decide (n=k))/\Ext w w':=by
 obtain⟨O,J,rfl,_⟩:=id hv;refine enE Tryz.func60 Tryz.ntmps60 ?_;refine ρ ?_;rw[Kh (z:=(k:Int)) om];refine cl (Jwr k om w) ?_;rintro o G ⟨C,_,i⟩;refine clR (Jwt (hv.ext i) C) ?_;rintro _ D ⟨rfl,j⟩;refine ρ ?_;refine Jj ⟨?_,i.trans j⟩;rw[show(Yn n k == 0)=decide (n=k) by rw[Bool.eq_iff_iff,beq_iff_eq,decide_eq_true_iff,Xvj]]
def sgl(ps:List CsA): List (List CsA):=ps.map λp=>[p]
theorem Jxm(ps:List CsA): (sgl ps).length=ps.length:=List.length_map _
theorem RefG.ext{w w':World}{cs:List Value}{p:CsA}(h:RefG w cs p)(hx:Ext w w'): RefG w' cs p:=by
 obtain⟨pA,pn,pc,i,vc,j,rc,e,h⟩:=h;exact⟨pA,pn,pc,i,vc,j,rc,e,h.ext hx⟩
theorem Xzz(ps:List CsA)(f:Nat)(ds:List Bool)(h:∀ p∈ps,CsM f ds p): (sgl ps).flatMap Xe=ps.flatMap λp=>p.1.ans:=by grind [sgl,List.flatMap_map,Qyt]
section
variable {w:World} {ps:List CsA} {f:Nat} {ds:List Bool}
theorem CsM.answers{p:CsA}{cs:List Value}(h:CsM f ds p)(hr:RefG w cs p){ds':List Bool}(hd:BoolsV w vd ds'):
  Ret Tryz.prog 50 [.agg cs.toArray,vd] w λu w'=>RowsV w' u (Jkk p.1.m p.1.vars p.1.crs p.1.N p.1.F ds')/\Ext w w':=by
 obtain⟨pA,pn,pc,j,vc,o,rc,rfl,i⟩:=hr;exact Qpt h.1.refP i (by have:=h.1.nN.2;omega) h.1.fF.2 hd
theorem Qmt{ps:List CsA}(h:i<ps.length): Xe ((sgl ps).getD i [])=(ps[i]).1.ans:=by grind [sgl,List.getD,Qyt]
end
open Go.RowKit Pl Go.Wk _root_.Go.Proofs.Tryz
variable {ds:List Bool}{ps:List CsA}{B0 f:Nat}{w:World}
def tt6: TT:=(135,{ desc:=.slice 2,esz:=1 })::tt5
theorem Jsc: TOk prog tt6:=⟨⟨kr,kr,kr⟩,Jsd⟩
instance (priority:=7000):Tab prog tt6:=⟨Jsc,mixed⟩
def exU(n:Int): Cse:=⟨1,1,[false],[],[[0]],[[[nV n],[nV 3]]]⟩
theorem Xkk{n:Int}(hn:n=1∨n=2){m:List Row}(hset:Zn [] [[nV n],[nV 3]] m)(hm:m.length<=65536)(hsub:∀ x∈m,x∈[[nV n],[nV 3]]): CseOk (exU n) [⟨[0],1,m⟩]:=by
 have D:(0:Int)<=1:=by decide
 have J:(1:Int)<=32:=by decide
 have Z:(1:Int)<=1:=by decide
 refine⟨⟨λi hi=>?_,?_,.inl (show(1:Int)<=6 by decide),show 1<=5 by decide,show 1<=5 by decide⟩,rfl,rfl,λi hi=>?_,⟨D,J,D,Z,rfl,rfl,(λv o=>by cases o),List.Pairwise.nil,D,J,show 1<=32 by decide,λa O=>?_,λv o=>?_⟩,λi hi r G u hu=>?_⟩
 .grind [exU]
 .grind [Jg,exU]
 .have:i=0:=by simp[exU]at hi;exact hi
  subst this;refine⟨rfl,rfl,show 1<=32 by decide,λr G=>?_,hm,hsub,λ_=>hset⟩;have C:r∈[[nV n],[nV 3]]:=G;simp only[List.mem_cons,List.not_mem_nil,or_false]at C;rcases C with rfl|rfl<;>exact⟨rfl,rfl⟩
 .rw[List.mem_singleton.1 O];refine⟨λj h0 hj=>?_,λv o=>?_,rfl⟩
  .grind
  have:v=0:=List.mem_singleton.1 o;subst this;exact⟨Int.le_refl _,show(0:Int)<1 by decide⟩
 .have:v=0:=by have:(v:Int)<1:=o;omega
  subst this;exact⟨_,List.mem_singleton.2 rfl,List.mem_singleton.2 rfl⟩
 repeat grind [exU,nV,List.mem_singleton.1,Xjd]
theorem Qvd: (exU 1).ans=[[nV 1],[nV 3]]:=by decide
theorem Qvc: (exU 2).ans=[[nV 2],[nV 3]]:=by decide
def exW: List Row:=[[nV 1],[nV 2],[nV 3]]
theorem Xkj: Lt [false] exW:=by unfold Lt;decide
theorem exW_a: Qc [false] exW [nV 3]=2:=by decide
structure ExU(ps:List CsA): Prop where
 len:ps.length=2
 ok:∀ p∈ps,CsM 1 [false] p
 p0:(ps.getD 0 (c0,[])).1=exU 1
 p1:(ps.getD 1 (c0,[])).1=exU 2
theorem ExU.two(h:ExU ps): ∃ a b,ps=[(exU 1,a),(exU 2,b)]:=by
 obtain⟨i,_,o,j⟩:=h;match ps,i with
 | [(c,a),(d,b)],_=>
  grind
theorem Jmx(h1:1<=ps.length)(h3:ps.length<=3)(h:∀ p∈ps,CsM f ds p): CsU (sgl ps) f ds:=by
 have j:(sgl ps).flatten=ps:=by simp[sgl,List.flatten_eq_flatMap,List.flatMap_map]
 refine⟨by rw[Jxm];exact h1,by rw[Jxm];exact h3,by rw[j];omega,λg i=>?_,λg i p hp=>?_⟩
 .obtain⟨p,_,rfl⟩:=List.mem_map.1 i;simp
 obtain⟨q,o,rfl⟩:=List.mem_map.1 i;grind
theorem CsU.mems{gs:List (List CsA)}(h:CsU gs f ds)(q:Row): Vj (λi=>decide (q∈Xe (pick gs (2^i)).flatten)) gs.length=Vj (Jzp gs q) gs.length:=Xzm λi hi=>by
 unfold Jzp;rw[List.getD,List.getElem?_eq_getElem hi];exact decide_eq_decide.2 (h.one hi q)
theorem ExU.any(h:ExU ps): Jkj [false] (sgl ps)=exW:=by
 have hs:=Qcz [false] (sgl ps);obtain⟨a,b,rfl⟩:=h.two;refine Ie hs.1 Xkj λy=>?_;rw[hs.2 y,Xzz _ 1 [false] h.ok];grind [Qvd,Qvc,exW]
theorem ExU.mem(h:ExU ps): Vj (Jzp (sgl ps) [nV 3]) 2=3:=by
 refine(Xjl (k:=2)).2 λi hi=>?_;unfold Jzp;rw[Qmt (by rw[h.len];exact hi),decide_eq_true_iff];obtain⟨a,b,rfl⟩:=h.two;grind [nV,exU,Qvd,Qvc]
theorem GV.insM{v:Value}(h:GV 5 (InG f ds) w v ps)(hp:∀ p∈ps,CsM f ds p): ∃ A c xc,v=.slice A ps.length c/\ps.length<=c/\InsM w A f ds (ps.map λp=>Xr p.1 p.2) xc:=by
 obtain⟨rs,A,c,e,rfl,O,G,o,D⟩:=h;subst e;have J:Qw (rs.map λq=>(q.1,Xr q.2.1 q.2.2))=Qw rs:=by simp[Qw,List.flatMap_map]
 have j:=InsM.of (w:=w) (A:=A) (f:=f) (ds:=ds) (ps:=rs.map λq=>(q.1,Xr q.2.1 q.2.2)) (by grind) λq C=>by
  obtain⟨r,u,rfl⟩:=List.mem_map.1 C;exact(D r u).2
 rw[List.map_map]at j;refine⟨A,c,λi=>((rs.map λq=>(q.1,Xr q.2.1 q.2.2)).getD i ([],um0)).1,by rw[List.length_map],by grind,?_⟩;rw[List.map_map];exact j
theorem Jgl(hp:∀ p∈ps,CsM f ds p): ((sgl ps).map λg=>Xx f (Qj g))=ps.map λp=>Xr p.1 p.2:=by
 unfold sgl;rw[List.map_map];refine List.map_congr_left λp i=>?_;obtain⟨o,j,_⟩:=hp p i;show Xx f [Xr p.1 p.2]=_;exact Xqt (by rw[<-j];exact o.uok.pm.fn)
theorem Xym(n:Int)(w:World): (Instr.build 147 #[(0,.int .i64 1),(1,.int .i64 n)]).run prog w=.ok (nV n).val w:=Xys n w
theorem Jwp(n:Int)(w:World): Ret prog 59 [.int .i64 n] w λu w'=>(∃ b,u=.slice (some ⟨b,0,none⟩) 1 1/\Blk w' b 147 (Jp [nV n]))/\Ext w w':=by
 refine enE func59 ntmps59 ?_;refine Xh (Xym n w) ?_;refine Qb (Jkf _) ?_;intro o b i C j;refine ρ ?_;exact Jj ⟨⟨b,rfl,j⟩,i⟩
theorem bs2J'(a b:Int)(w:World): (Instr.buildSlice 135 2 #[(0,.int .i64 a),(1,.int .i64 b)]).run prog w=.ok (.slice (some ⟨w.heap.size,0,none⟩) 2 2) (w.alloc (.cells [Value.int .i64 a,.int .i64 b].toArray 2)):=kr
theorem bs2Rr(A B:Option Addr)(a b a' b':Nat)(w:World): (Instr.buildSlice 95 2 #[(0,.slice A a a'),(1,.slice B b b')]).run prog w=.ok (.slice (some ⟨w.heap.size,0,none⟩) 2 2) (w.alloc (.cells [Value.slice A a a',.slice B b b'].toArray 59)):=kr
theorem bs1Bl(a:Bool)(w:World): (Instr.buildSlice 25 1 #[(0,.bool a)]).run prog w=.ok (.slice (some ⟨w.heap.size,0,none⟩) 1 1) (w.alloc (.cells [Value.bool a].toArray 4)):=kr
theorem bs1Iu(a:Int)(w:World): (Instr.buildSlice 26 1 #[(0,.int .i64 a)]).run prog w=.ok (.slice (some ⟨w.heap.size,0,none⟩) 1 1) (w.alloc (.cells [Value.int .i64 a].toArray 3)):=kr
theorem Xyz(n f:Int)(A B:Option Addr)(a a' b b':Nat)(w:World): (Instr.build 33 #[(0,.int .i64 n),(1,.int .i64 f),(2,.slice A a a'),(4,.slice B b b')]).run prog w=.ok (.agg #[.int .i64 n,.int .i64 f,.slice A a a',.slice none 0 0,.slice B b b']) w:=kr
theorem zRel1: Qu prog 130=some (.agg #[.int .i64 0,.slice none 0 0]):=kr
theorem Qcr(hTB:TB B0 w): Ret prog 11 [] w λu w'=>u=.bool true/\Ext w w':=by
 refine enE func11 ntmps11 ?_;refine Qb (bs2J' 1 2) ?_;intro w1 ch cq dm cb;refine ρ ?_;refine Jo (fun (i:Nat) (iv:Value)=>[(0,.bool false),(1,iv),(16,.slice (some ⟨ch,0,none⟩) 2 2),(17,.int .i64 2),(18,.int .i64 (i:Int))])
  (λi iv w'=>i<=2/\Ext w1 w'/\w1.heap.size<=w'.heap.size/\∃ ps:List CsA,ps.length=i/\(∀ p∈ps,CsM 1 [false] p)/\(∀ j,j<i->(ps.getD j (c0,[])).1=exU (j+1))/\OwnM 33 5 (InG 1 [false]) (λ_=>False) w' w1.heap.size iv ps) (λi _=>2-i) 0 (.slice none 0 0) sB
  ⟨Nat.zero_le _,Ext.refl _,Nat.le_refl _,[],rfl,(λp hp=>by cases hp),(λj hj=>absurd hj (Nat.not_lt_zero j)),OwnM.nil _ _⟩ ?_
 rintro i iv w2 ⟨hi,ay,b9,ps,b1,ae,bd,hO⟩;have aq:=cq.trans ay;refine ciR (λh=>?_) (λh=>?_)
 .have li:i<2:=by have:=oT h;omega
  clear h;have c2:Rd w2 1 (some ⟨ch,0,none⟩) 2 [Value.int .i64 1,.int .i64 2]:=(cb.rd rfl).ext ay;have e0:i=0∨i=1:=om
  have cx:([Value.int .i64 1,.int .i64 2]:List Value)[i]?=some (.int .i64 ((i:Int)+1)):=by grind
  refine ixR i c2 li ?_;refine ldR (c2.cell cx) ?_;refine clR (Jwp ((i:Int)+1) _) ?_;rintro u w3 ⟨⟨df,rfl,bs⟩,ai⟩;refine clR (Jwp 3 _) ?_;rintro u w4 ⟨⟨de,rfl,br⟩,ab⟩;refine Qb (bs2Rr _ _ _ _ _ _) ?_;intro w5 db a6 dl bq;have az:RowsV w5 (.slice (some ⟨db,0,none⟩) 2 2) [[nV ((i:Int)+1)],[nV 3]]:=Xqc [(.slice (some ⟨df,0,none⟩) 1 1,[nV ((i:Int)+1)]),(.slice (some ⟨de,0,none⟩) 1 1,[nV 3])] bq (λp hp=>by
   simp only[List.mem_cons,List.not_mem_nil,or_false]at hp;rcases hp with rfl|rfl
   .exact Jlj ((bs.ext ab).ext a6) (by show 1<=1100000;decide)
   exact Jlj (br.ext a6) (by decide)) (by show 2<=1100000;decide)
  refine clR (Jbr (ar:=1) az) ?_;rintro u w6 ⟨aa,rv,e,rfl,⟨z,B,mm,dd,d9⟩,ba,bc⟩;have he:e=0:=ba (by decide) (λr hr=>by
   simp only[List.mem_cons,List.not_mem_nil,or_false]at hr;rcases hr with rfl|rfl<;>exact⟨rfl,rfl⟩) (by show 2<=65536;decide)
  obtain⟨_,_,ms,be,cw,b3,b5⟩:=bc he;have bb:=b5 (.inl (by show 2<=12;decide));subst d9;refine Jw zRel1 ?_;intro w7 b4 ah d2 d8;refine Qg d8 ?_;intro w8 ca e1 a9;have am:Ext w6 w8:=a9 w6 ah d2;refine Qb (bs1Bl false) ?_;intro w9 cg a2 dk bp;refine Qb (bs1Iu 0) ?_;intro ck ce G dj bo;have b7:=(ca.ext a2).ext G;refine Ja b7 ?_;refine Xh (Jdt _ _ _ _ _ _ _ _) ?_;refine Qb (λw=>Jyd _ _ _ _ _ _ _ _ _ _ rfl rfl rfl w) ?_;intro cj cd J di bn;refine Xh (Xyz _ _ _ _ _ _ _ _ _) ?_;refine Qb (Jnm _ _ _ _ _ _ _ _ _ _ _) ?_;intro av e7 C dh bm;obtain⟨IA,ic,rfl,cz,cy⟩:=hO.form;have hC:CseOk (exU ((i:Int)+1)) [⟨[0],1,ms⟩]:=Xkk om bb cw b3;have ao:=((((ai.trans ab).trans a6).trans aa).trans am);have Z:=(((ao.trans a2).trans G).trans J).trans C;have dn:=ao.size;have z9:=a2.size;have dt:=G.size;have dq:=((ai.trans ab).trans a6).size;have hΦ:Off (λk=>False∨(Value.slice IA ps.length ic).ownBlock=some k) av (λu=>InG 1 [false] u [.int .i64 1,.int .i64 1,.slice (some ⟨cg,0,none⟩) 1 1,.slice none 0 0,.slice (some ⟨cd,0,none⟩) 1 1] (exU ((i:Int)+1),[⟨[0],1,ms⟩])):=λW hW=>by
   have b2:∀ {k:Nat},w2.heap.size<=k->¬ (False∨(Value.slice IA ps.length ic).ownBlock=some k):=λhk h=>by grind
   obtain⟨v,ev,cr⟩:=((((((be.ext am).ext a2).ext G).ext J).ext C)) W (hW.mono λk _ hk=>by grind);have cc:=congrArg (λv:Value=>match v with | .agg xs=>xs.toList|_=>[]) ev;simp only[List.cons.injEq,Value.int.injEq,true_and,and_true]at cc;obtain⟨ez,rfl⟩:=cc;have co:=Jy (((bp.ext G).ext J).ext C) hW (b2 om);have cn:=Jy ((bo.ext J).ext C) hW (b2 om);have cm:=Jy (bn.ext C) hW (b2 om);exact Xzb (c:=exU ((i:Int)+1)) (dA:=some ⟨cg,0,none⟩) (dc:=1) (pA:=none) (pc:=0) hC ⟨_,1,rfl,Nat.le_refl _,show 1<=1100000 by decide,co.rd rfl⟩ ⟨none,0,rfl,Nat.le_refl _,show 0<=1100000 by decide,Rd.nil⟩
    ⟨[([.slice (some ⟨ce,0,none⟩) 1 1,.int .i64 z,.slice B mm dd],⟨[0],1,ms⟩)],some ⟨cd,0,none⟩,1,rfl,rfl,Nat.le_refl _,show 1<=1100000 by decide,cm.rd rfl,λp hp=>by
     rw[List.mem_singleton.1 hp];exact⟨rfl,(.slice (some ⟨ce,0,none⟩) 1 1,.int .i64 z,.slice B mm dd),rfl,⟨_,1,rfl,Nat.le_refl _,show 1<=1100000 by decide,cn.rd rfl⟩,by rw[ez],cr⟩⟩
  refine ρ ?_;refine apM EInp (Φ:=InG 1 [false]) (hO.ext Z) bm rfl Qxd hΦ om om (nL b9 Z.size) ?_;intro cp b8 c4 bw dg;have a4:GrN (λk=>(Value.slice IA ps.length ic).ownBlock=some k) av b8:=GrN.by bw λk hk=>hk
  refine ρ ?_;refine Jf (i+1) cp sO ⟨li,a4.old (ay.trans Z) λk hk=>(cy k hk).1,Nat.le_trans b9 (nL Z.size a4.size),_,by grind,λp hp=>?_,λj hj=>?_,c4⟩ om
  .rcases List.mem_append.1 hp with hp|hp
   .exact ae p hp
   rw[List.mem_singleton.1 hp];exact⟨hC,rfl,rfl⟩
  repeat grind
 have d0:i=2:=by grind
 clear h;subst d0;have hE:ExU ps:=⟨b1,ae,bd 0 om,bd 1 om⟩;have c8:=Jmx (ps:=ps) om om ae;obtain⟨IA,ic,xc,rfl,cz,c5⟩:=GV.insM (hO.gv om) ae;rw[<-Jgl ae]at c5;have c9:=Jsb (c:=ic) (hTB.ext aq) c8 rfl c5;rw[Jxm]at c9;refine clR c9 ?_;rintro u w3 ⟨ai,cs,st,D,rfl,aj,c6,c7,d5,a7,d6,e3⟩;rw[b1]at c6;rw[hE.any]at a7;obtain⟨DA,dc,MA,mc,SA,sl,sc,da,_⟩:=id aj.ex;subst da;refine Jw Kq ?_;intro w4 b6 ab d1 d7;refine Qg d7 ?_;intro w5 au e2 a6;have an:Ext w3 w5:=a6 w3 ab d1;have a5:=aj.ext an;have ax:Ext w5 w5.drew:=(Ext.refl w5).drew;have c1:=a5.ext ax;refine drR (scq 10 [1,2]) ?_;refine Qf (λj u hu=>(au.ext ax).at hu) ?_;refine Qq (Jwr 1 (by decide) _) ?_;rintro o w6 ⟨ho,_,aa⟩;refine⟨aa,?_⟩;refine Qq (Qhp (c1.ext aa) ho aj.sz (nR _) aj.f32) ?_;rintro u w7 ⟨ah,_,d3⟩;obtain⟨RA,rc,dz,rfl,c3,bz,_⟩:=d3 (by rw[a7];decide)
 rw[a7]at c3 bz;refine⟨ah,?_⟩;have a1:=(ax.trans aa).trans ah;have af:=au.ext a1;have aw:Ext w7 w7.drew:=(Ext.refl w7).drew;refine ρd ?_;refine drR (scq 12 [1,2]) ?_;refine Qf (λj u hu=>(af.ext aw).at hu) ?_;refine Qq (Jwp 3 _) ?_;rintro u w8 ⟨⟨e6,rfl,bl⟩,a9⟩;refine⟨a9,?_⟩;refine Qq (Qgx (((a5.ext a1).ext aw).ext a9) (q:=[nV 3]) (bl.rd rfl) (nR _)) ?_;rintro u w9 ⟨a2,_,cv⟩;obtain⟨nv,dx,rfl,bf,_⟩:=cv (by rw[c7];rfl);rw[d5,a7,exW_a]at bf;rw[a7];refine⟨a2,?_⟩;have O:=(aw.trans a9).trans a2;have ag:Ext w9 w9.drew:=(Ext.refl w9).drew;rw[decide_eq_true (show[nV 3]∈exW by decide)];refine ρd ?_;refine drR (scq 34 [4,5,13,14,25,29,30]) ?_;refine Qf (λj u hu=>((af.ext O).ext ag).at hu) ?_;refine ρd ?_;have d4:=((a5.ext a1).ext O).ext ag;refine dcl (Qhg d4) ?_;rintro n1 ck ⟨bg,G⟩;rw[a7]at bg;refine⟨G,?_⟩;refine Qq (Qcv (k:=3) bg (by decide)) ?_;rintro _ cj ⟨rfl,J⟩
 rw[decide_eq_true (show exW.length=3 from rfl)];refine⟨J,?_⟩;refine Qq (Jwp 2 _) ?_;rintro u av ⟨⟨e5,rfl,bj⟩,C⟩;refine⟨C,?_⟩;refine ρd ?_;have a8:=(ag.trans G).trans (J.trans C);refine dcl (Jhb (a:=[nV 2]) ⟨RA,rc,rfl,bz,by decide,(Rd.ext c3 O).ext a8⟩ (Jlj bj (by decide))) ?_;rintro _ b8 ⟨rfl,a3⟩;rw[decide_eq_true rfl];refine⟨a3,?_⟩;refine Qq (Qcv (k:=2) (bf.ext ((ag.trans G).trans ((J.trans C).trans a3))) (by decide)) ?_;rintro _ dw ⟨rfl,ad⟩;rw[decide_eq_true (show 2=2 from rfl)];refine⟨ad,?_⟩;refine Qf (λj u hu=>((af.ext O).ext (a8.trans (a3.trans ad))).at hu) ?_;refine Qq (Jwp 3 _) ?_;rintro u dv ⟨⟨e4,rfl,bi⟩,ac⟩;refine⟨ac,?_⟩;refine ρd ?_;have ak:=a8.trans (a3.trans ad);refine dcl (Qhb (((a5.ext a1).ext O).ext (ak.trans ac)) (q:=[nV 3]) (bi.rd rfl) (nR _)) ?_;rintro u du ⟨ap,rfl⟩;have bh:=c8.mems [nV 3];rw[Jxm,b1,hE.mem]at bh
 rw[if_pos (show[nV 3].length=D.f from c7.symm),c6,d6,bh];refine⟨ap,?_⟩;refine ρd ?_;refine ρ ?_;exact Jj ⟨rfl,((aq.trans ai).trans (an.trans a1)).trans (O.trans ((ak.trans ac).trans ap))⟩
open Go.RowKit Pl Go.Wk
variable {ds:List Bool}{ps:List CsA}{B0 f ic:Nat}{w:World}
theorem CsM.dsl{p:CsA}(h:CsM f ds p): ds.length=f:=by
 obtain⟨i,o,j⟩:=h;have e:(p.1.ds.length:Int)=p.1.f:=i.chk.2.2.2.2.1;rw[i.fF.1,j,o]at e;omega
theorem GV.hd{iv:Value}(h:GV 5 (InG f ds) w iv ps)(hp:∀ p∈ps,CsM f ds p)(h1:1<=ps.length):
  ∃(IA:Option Addr) (ic:Nat) (xc:Nat->List Value) (D:Option Addr) (dc:Nat),iv=.slice IA ps.length ic/\InsM w IA f ds (ps.map λp=>Xr p.1 p.2) xc/\Rd w 5 IA ps.length (Qy ps.length xc)/\BoolsV w (.slice D ds.length dc) ds /\
   (∀ W,Ext w W->W.cell? ((adr IA (0*5)).add 1)=some (.int .i64 (f:Int)))/\∀ W,Ext w W->W.cell? ((adr IA (0*5)).add 2)=some (.slice D ds.length dc):=by
 obtain⟨IA,ic,xc,rfl,J,C⟩:=GV.insM h hp;obtain⟨D,Q,T,dc,pc,O,ts,u⟩:=(C.el 0 (by grind)).inF;have j:=C.rd;rw[List.length_map]at j;have o:∀ i,i<ps.length->(xc i).length=5:=λi hi=>by
  obtain⟨_,_,_,_,_,_,_,u⟩:=(C.el i (by grind)).inF;rw[u.e];rfl
 refine⟨IA,ic,xc,D,dc,rfl,C,j,⟨D,dc,rfl,u.dl.1,u.dl.2,u.d⟩,λW G=>?_,λW G=>?_⟩
 .rw[Xv];exact(j.ext G).cell (by rw[Yk o h1 (by decide),u.e];rfl)
 rw[Xv];exact(j.ext G).cell (by rw[Yk o h1 (by decide),u.e];rfl)
theorem InsM.bld{IA:Option Addr}{xc:Nat->List Value}(hI:InsM w IA f ds (ps.map λp=>Xr p.1 p.2) xc)(hTB:TB B0 w)(hp:∀ p∈ps,CsM f ds p)(h1:1<=ps.length)(h3:ps.length<=3):
  Ret Tryz.prog 15 [.slice IA ps.length ic] w λu w'=>Ext w w'/\∃(cs:List Value) (st:Int) (D:UD),u=.tuple #[.agg cs.toArray,.int .i64 st,.int .i64 0]/\UnV w' D cs/\D.k=ps.length/\D.f=f/\D.ds=ds/\D.U=Jkj ds (sgl ps)/\D.M=(λs=>Xe (pick (sgl ps) s).flatten)/\D.Hm=mxR D.n (λi=>Ql D.f λv=>hmB (D.BB i v))/\(∀ i,i<D.n->BBp f ds (pick (sgl ps) (i+1)).flatten (D.BB i))/\Off (λk=>B0<=k/\k<w.heap.size) w' λW=>UnV W D cs:=by
 rw[<-Jgl hp]at hI;obtain⟨p,j⟩:=List.exists_mem_of_length_pos h1;have:=Jsb (c:=ic) hTB (Jmx h1 h3 hp) (hp p j).dsl hI;rwa [Jxm]at this
end Go.Proofs.YtgobkbeokaaplaaGreatDoor
namespace Go.Proofs.YtgobkbeokaaplaaGreatDoor
open Go.RowKit Pl Go.Wk Go.ChangeShapes Go.WideShapes
section
variable {H:Type} {enc:TypeId×Value->H} {w:World} {base b0:Nat} {spare:Nat->Bool} {held:Bool}
def Qdv(w:World)(v:Value): Prop:=∃(A:Option Addr) (c:Nat) (l:List Cse) (xc:Nat->List Value),v=.slice A l.length c/\CsesV w A l xc/\∀ c∈l,∀ i,i<c.rss.length->∀ r∈c.rss.getD i [],∀ u∈r,Xs u
theorem Qsw{v:Value}{d:DataW H}{p:List MemPlace}(hv:Value.okWide Tryz.prog w .any b0 22 v)(h:DataW.Trod enc Tryz.prog w base spare held 22 v d p)(hb:Rows.uptoBulk d<=1048576): Qdv w v:=by
 obtain⟨a,len,G,rfl⟩:=okWide_slice Tryz.underlying22 hv;obtain⟨J,Z⟩:=h;obtain⟨ps,A,c,e,C,o,h3,h4⟩:=Jqj (sz:=6) (λp:List Value×Cse=>p.1) (λp=>CseV w p.1 p.2/\∀ i,i<p.2.rss.length->∀ r∈p.2.rss.getD i [],∀ u∈r,Xs u) Tryz.underlying22 kr hb (λn D y O hb=>by
  obtain⟨c,C,o⟩:=Qsx O hb;exact⟨(D,c),rfl,C,o⟩) Z
 have e':Value.slice a len G=.slice A ps.length c:=by injection e
 refine⟨A,c,ps.map (·.2),λi=>(ps.getD i ([],c0)).1,by rw[List.length_map];exact e',⟨by rw[List.length_map,<-Jdj c0];exact C,λi hi=>?_⟩,λc hc=>?_⟩
 .have j:i<ps.length:=by rwa [List.length_map]at hi
  rw[Xzs (·.2) ps ([],c0) c0 j]
  exact(o _ (getD_mem' _ _ j)).1
 obtain⟨p,hp,rfl⟩:=List.mem_map.1 hc;exact(o p hp).2
end
open Go.RowKit Pl Go.Wk _root_.Go.Proofs.Tryz
attribute [local irreducible] WC WL QX WD WDB WP WN WG WH WM
variable {is:List Inp}{c:Nat}{xc:Nat->List Value}{A:Option Addr}{w:World}
def ip0: Inp:=⟨0,0,[],[],[]⟩
noncomputable def fsE: List Inp->Int
 | []=>0
 | a::r=>if Zg a=0 then fsE r else Zg a
theorem Qwm: ∀ {l:List Inp},(∀ a∈l,Zg a=0)->fsE l=0
 | [],_=>rfl
 | a::r,h=>by rw[fsE,if_pos (h a mC)];exact Qwm λb hb=>h b (List.mem_cons_of_mem _ hb)
theorem Jmm: ∀ {l:List Inp},fsE l=0->∀ a∈l,Zg a=0
 | [],_,a,ha=>by cases ha
 | b::r,h,a,ha=>by
  rw[fsE]at h;by_cases e:Zg b=0
  .rw[if_pos e]at h;rcases List.mem_cons.1 ha with rfl|ha
   .exact e
   exact Jmm h a ha
  rw[if_neg e]at h;exact absurd h e
theorem Qwn: ∀ {l:List Inp} {i:Nat},(∀ j,j<i->Zg (l.getD j ip0)=0)->i<l.length->Zg (l.getD i ip0)≠0->fsE l=Zg (l.getD i ip0)
 | [],i,_,h,_=>by simp at h
 | a::r,0,_,_,h=>by rw[fsE,if_neg (by simpa using h)];simp
 | a::r,i+1,h,hi,he=>by
  rw[fsE,if_pos (by simpa using h 0 om),List.getD_cons_succ];exact Qwn (λj hj=>by have:=h (j+1) om;rwa [List.getD_cons_succ]at this) (by simpa using hi) (by rwa [List.getD_cons_succ]at he)
def Jpc(is:List Inp): Prop:=∀ i,i<is.length->(is.getD i ip0).free=(is.getD 0 ip0).free/\(is.getD i ip0).desc=(is.getD 0 ip0).desc
open Classical in
noncomputable def mtE (is:List Inp):Int:=if is.length=0 then 10 else if 3<is.length then 12 else if fsE is≠0 then fsE is else if Jpc is then 0 else 28
structure InI(w:World)(i:Inp)(cs:List Value)(D Q T:Option Addr)(dc pc tl tc:Nat): Prop where
 e:cs=[.int .i64 i.n,.int .i64 i.free,.slice D i.desc.length dc,.slice Q i.perm.length pc,.slice T tl tc]
 d:RdB w D i.desc
 dl:i.desc.length<=1100000
 c:InC w i cs
theorem InC.inI{i:Inp}{cs:List Value}(h:InC w i cs): ∃ D Q T dc pc tl tc,InI w i cs D Q T dc pc tl tc:=by
 obtain⟨C,u,G,rfl,⟨D,dc,rfl,J,o,j⟩,⟨Q,pc,rfl,_⟩,ts,T,tc,_,rfl,_⟩:=id h;exact⟨D,Q,T,dc,pc,_,tc,rfl,j,o,h⟩
theorem InI.ext{w w':World}{i:Inp}{cs:List Value}{D Q T:Option Addr}{dc pc tl tc:Nat}(h:InI w i cs D Q T dc pc tl tc)(hx:Ext w w'): InI w' i cs D Q T dc pc tl tc:=⟨h.e,Rd.ext h.d hx,h.dl,h.c.ext hx⟩
structure InsE(w:World)(A:Option Addr)(is:List Inp)(xc:Nat->List Value): Prop where
 rd:Rd w 5 A is.length (Qy is.length xc)
 el:∀ i,i<is.length->InC w (is.getD i ip0) (xc i)
 n64:∀ i,i<is.length->(-9223372036854775808<=(is.getD i ip0).n/\(is.getD i ip0).n<=9223372036854775807)/\(-9223372036854775808<=(is.getD i ip0).free/\(is.getD i ip0).free<=9223372036854775807)
theorem InsE.ext{w w':World}{A:Option Addr}{is:List Inp}{xc:Nat->List Value}(h:InsE w A is xc)(hx:Ext w w'): InsE w' A is xc:=⟨h.rd.ext hx,λi hi=>(h.el i hi).ext hx,h.n64⟩
theorem InsE.len(h:InsE w A is xc){i:Nat}(hi:i<is.length): (xc i).length=5:=by
 obtain⟨D,Q,T,C,pc,o,u,j⟩:=(h.el i hi).inI;rw[j.e];rfl
theorem InsE.cell{w:World}{A:Option Addr}{is:List Inp}{xc:Nat->List Value}(h:InsE w A is xc){W:World}(hx:Ext w W){i:Nat}(hi:i<is.length){j:Nat}{u:Value}(hu:(xc i)[j]?=some u): W.cell? ((adr A (i*5)).add j)=some u:=by
 have o:=h.len hi;have C:j<5:=by rw[<-o];exact(List.getElem?_eq_some_iff.1 hu).1
 rw[Xv];exact(h.rd.ext hx).cell (by rw[Yk (λi hi=>h.len hi) hi C];exact hu)
theorem Jyf(w:World): (Instr.build 33 #[]).run prog w=.ok (.agg #[.int .i64 0,.int .i64 0,.slice none 0 0,.slice none 0 0,.slice none 0 0]) w:=kr
theorem Jds(w:World): (Instr.build 47 #[]).run prog w=.ok (.agg #[.int .i64 0,.int .i64 0,.slice none 0 0,.slice none 0 0,.slice none 0 0]) w:=kr
theorem Jrz(hI:InsE w A is xc)(hne:mtE is≠0):
  Ret prog 14 [.slice A is.length c] w λu w'=>u=.tuple #[.agg #[.int .i64 0,.int .i64 0,.slice none 0 0,.slice none 0 0,.slice none 0 0],.int .i64 (mtE is)]/\Ext w w':=by
 refine enE func14 ntmps14 ?_;refine Jw Vm ?_;intro w1 b2 a5 a7 ad;refine ciR (λh=>?_) (λh=>?_)
 .have h0:is.length=0:=by have:=Zv h;omega
  refine Xh (Jyf _) ?_;refine Qg ad ?_;intro w2 a9 b1 C;refine ρ ?_;exact Zk a9 ⟨by rw[mtE,if_pos h0],C w a5 a7⟩
 have h0:¬ is.length=0:=by have:=Zz h;omega
 clear h;refine ciR (λh=>?_) (λh=>?_)
 .have h3:3<is.length:=by have:=oT h;omega
  refine Xh (Jyf _) ?_;refine Qg ad ?_;intro w2 a9 b1 C;refine ρ ?_;exact Zk a9 ⟨by rw[mtE,if_neg h0,if_pos h3],C w a5 a7⟩
 have h3:¬ 3<is.length:=by have:=oF h;omega
 clear h;have hp:0<is.length:=om
 obtain⟨m,hm⟩:∃ m,m=is.length:=⟨_,rfl⟩;refine ρ ?_;refine Qs (fun (i:Nat)=>[(0,.slice A is.length c),(2,.pointer (some ⟨b2,0,none⟩)),(3,.int .i64 0),(26,.slice A is.length c),(27,.int .i64 (is.length:Int)),(28,.int .i64 (i:Int))])
  (λi w'=>i<=is.length/\Ext w1 w'/\∀ j,j<i->Zg (is.getD j ip0)=0) (λi=>is.length-i) 0 sB ⟨Nat.zero_le _,Ext.refl _,λj hj=>om⟩ ?_
 rintro i w2 ⟨hi,C,hz⟩;refine ciR (λh=>?_) (λh=>?_)
 .have li:i<is.length:=by have:=oT h;omega
  clear h;have o:=a5.trans C;obtain⟨D,Q,T,dc,pc,tl,tc,hF⟩:=(hI.el i li).inI;obtain⟨x,hx⟩:∃ x,x=is.getD i ip0:=⟨_,rfl⟩;rw[<-hx]at hF;have aa:=hF.e;have an:=hI.n64 i li;rw[<-hx]at an;refine Qp 5 i (hI.rd.ext o) li ?_;refine Jh (cs:=[.int .i64 x.n,.int .i64 x.free,.slice D x.desc.length dc,.slice Q x.perm.length pc,.slice T tl tc]) (λj u hu=>hI.cell o li (by rw[aa];exact hu)) ?_;refine Jw Vm ?_;intro w3 b5 ai b6 b7;refine Qg b7 ?_;intro w4 av az ah;have J:Ext w2 w4:=ah w2 ai b6;have O:=o.trans J;refine Ja av ?_;refine ρ ?_;have ar:=(hF.ext O).c;rw[aa]at ar;refine cl (Jmk (inp:=x) ⟨_,rfl,ar⟩ an.1 an.2) ?_;rintro u w5 ⟨a2,rfl⟩;have a4:=J.trans a2;have aw:=(ad.ext C).ext a4;refine ciR (λh=>?_) (λh=>?_)
  .have he:Zg x≠0:=Yh h;have a6:fsE is=Zg x:=by rw[hx]at he ⊢;exact Qwn hz li he
   refine Xh (Jyf _) ?_;refine Qg aw ?_;intro w6 Z aq a3;refine ρ ?_;exact Zk Z ⟨by rw[mtE,if_neg h0,if_neg h3,if_pos (by rw[a6];exact he),a6],a3 w (o.trans a4) a7⟩
  have he:Zg x=0:=Uv h;refine ρ ?_;refine Qm (i+1) sO ⟨li,C.trans a4,λj hj=>?_⟩ om;by_cases e:j=i
  .rw[e,<-hx];exact he
  exact hz j om
 have ap:i=is.length:=by have:=oF h;omega
 clear h;have aj:∀ a∈is,Gk a:=λa ha=>by
  obtain⟨j,hj,rfl⟩:=List.getElem_of_mem ha;have:=hz j om;rw[Qd ip0 is hj]at this;exact idxE_iff.1 this
 have a6:fsE is=0:=Qwm λa ha=>idxE_iff.2 (aj a ha);obtain⟨D0,Q0,T0,b8,be,bc,bd,a8⟩:=(hI.el 0 hp).inI;obtain⟨x0,ab⟩:∃ x,x=is.getD 0 ip0:=⟨_,rfl⟩;rw[<-ab]at a8;have ak:Gk x0:=by rw[ab];exact aj _ (getD_mem' ip0 is hp)
 have o:=a5.trans C;have ag:Ext w2 w2.drew:=(Ext.refl w2).drew;have G:=o.trans ag;refine drR (scq 15 []) ?_;refine Zu 5 0 (hI.rd.ext G) hp ?_;refine Jz (hI.cell G hp (j:=1) (by rw[a8.e];rfl)) ?_;refine Zu 5 0 (hI.rd.ext G) hp ?_;refine Jz (hI.cell G hp (j:=2) (by rw[a8.e];rfl)) ?_;refine Zu 5 0 (hI.rd.ext G) hp ?_;refine Jz (hI.cell G hp (j:=1) (by rw[a8.e];rfl)) ?_;refine ρd ?_;have ay:=ak.2.2.1;have bi:=ak.2.2.2.1;have bh:=ak.2.1;refine ρ ?_;refine Jo (fun (i:Nat) (n:Int)=>[(0,.slice A is.length c),(2,.pointer (some ⟨b2,0,none⟩)),(3,.int .i64 0),(7,.int .i64 x0.free),(8,.slice D0 x0.desc.length b8),(9,.int .i64 n),(51,.slice A is.length c),(52,.int .i64 (is.length:Int)),(53,.int .i64 (i:Int))])
  (λi n w'=>i<=is.length/\Ext w1 w'/\(0<=n/\n<=32*((i:Int)+1))/\∀ j,j<i->(is.getD j ip0).free=x0.free/\(is.getD j ip0).desc=x0.desc) (λi _=>is.length-i) 0 x0.free sB ⟨Nat.zero_le _,C.trans ag,⟨ay,om⟩,λj hj=>om⟩ ?_
 clear o ag G C w2 hi hz ap i;rintro i n w2 ⟨hi,C,bg,hz⟩;refine ciR (λh=>?_) (λh=>?_)
 .have li:i<is.length:=by have:=oT h;omega
  clear h;have o:=a5.trans C;obtain⟨D,Q,T,dc,pc,tl,tc,hF⟩:=(hI.el i li).inI;obtain⟨x,hx⟩:∃ x,x=is.getD i ip0:=⟨_,rfl⟩;rw[<-hx]at hF;have aa:=hF.e;have ac:Gk x:=by rw[hx];exact aj _ (getD_mem' ip0 is li)
  have bb:=ac.2.2.1;have ba:=ac.2.2.2.1;have b9:=ac.2.1;have bf:=ac.2.2.2.2.1;refine Qp 5 i (hI.rd.ext o) li ?_;refine Jh (cs:=[.int .i64 x.n,.int .i64 x.free,.slice D x.desc.length dc,.slice Q x.perm.length pc,.slice T tl tc]) (λj u hu=>hI.cell o li (by rw[aa];exact hu)) ?_;refine Jw Vm ?_;intro w3 bj ai au ax;refine Qg ax ?_;intro w4 a1 az ah;have J:Ext w2 w4:=ah w2 ai au;have O:=o.trans J;have af:=(ad.ext C).ext J;have ae:¬ (x.free=x0.free/\x.desc=x0.desc)->mtE is=28:=λh=>by
   rw[mtE,if_neg h0,if_neg h3,if_neg (by rw[a6];simp),if_neg];intro ha;have:=ha i li;rw[<-hx,<-ab]at this;exact h this
  refine ldR (a1.at (i:=1) rfl) ?_;refine ρ ?_;refine ki 61 (λh=>?_) (λh=>?_)
  .have he:=Yh h;refine Xh (Jyf _) ?_;refine Qg af ?_;intro w6 Z aq a3;refine ρ ?_;exact Zk Z ⟨by rw[ae λh=>he h.1],a3 w O a7⟩
  have b3:x.free=x0.free:=Uv h;clear h;refine ldR (a1.at (i:=2) rfl) ?_;refine clR (Jdk (Rd.ext hF.d O) (Rd.ext a8.d O) hF.dl) ?_;rintro u w5 ⟨rfl,a2⟩;have am:=a1.ext a2;have ao:=O.trans a2;refine ciR (λh=>?_) (λh=>?_)
  .have he:¬ x.desc=x0.desc:=by simpa using h
   refine Xh (Jyf _) ?_;refine Qg (af.ext a2) ?_;intro w6 Z aq a3;refine ρ ?_;exact Zk Z ⟨by rw[ae λh=>he h.2],a3 w ao a7⟩
  have b4:x.desc=x0.desc:=by simpa using h
  clear h;refine ldR (am.at (i:=0) rfl) ?_;refine ρ ?_;refine Jf (i+1) (n+(x.n-x0.free)) sO ⟨li,(C.trans J).trans a2,⟨om,om⟩,λj hj=>?_⟩ om;by_cases e:j=i
  .rw[e,<-hx];exact⟨b3,b4⟩
  exact hz j om
 have ap:i=is.length:=by have:=oF h;omega
 exfalso
 apply hne
 rw[mtE,if_neg h0,if_neg h3,if_neg (by rw[a6];simp),if_pos];intro j hj;rw[<-ab];exact hz j om
theorem Qhm(hI:InsE w A is xc)(hne:mtE is≠0):
  Ret prog 15 [.slice A is.length c] w λu w'=>u=.tuple #[.agg #[.int .i64 0,.int .i64 0,.slice none 0 0,.slice none 0 0,.slice none 0 0],.int .i64 0,.int .i64 (mtE is)]/\Ext w w':=by
 refine enE func15 ntmps15 ?_;refine Jw Kq ?_;intro w1 b2 o a1 a3;refine clR (Jrz (hI.ext o) hne) ?_;rintro _ w2 ⟨rfl,j⟩;refine Jw Vm ?_;intro w3 b5 O Z a2;refine Qg a2 ?_;intro w4 a4 a6 J;have i:Ext w2 w4:=J w2 O Z;have D:=(a3.ext j).ext i;refine ctR ?_ ?_
 .exact bne_iff_ne.2 hne
 refine Xh (Jds _) ?_;refine Qg D ?_;intro w6 C a5 G;refine ρ ?_;exact Jqs C ⟨rfl,G w ((o.trans j).trans i) a1⟩
open Go.RowKit Pl Go.Wk _root_.Go.Proofs.Tryz
variable {B0 L k mc:Nat}{MA:Option Addr}{w:World}
def zix: List Value:=[.slice none 0 0,.slice none 0 0,.slice none 0 0,.slice none 0 0,.slice none 0 0]
theorem ixZ(h:TB B0 w): IxA w (.agg #[.slice none 0 0,.slice none 0 0,.slice none 0 0,.slice none 0 0,.slice none 0 0]) 0 [] (λ_=>0) (λ_=>0) (λ_=>[]) 0 []:=by
 refine⟨⟨B0,h⟩,⟨⟨none,0,none,0,none,0,none,0,.slice none 0 0,[],[],rfl,Nat.le_refl _,Nat.le_refl _,Rd.nil,Rd.nil,Rd.nil,Rd.nil,NatV.nil _,λv j=>om⟩,rfl,om⟩,?_,λh=>absurd rfl h,λv b i=>by cases i⟩;exact⟨rfl,λ_ _=>rfl,λh=>absurd rfl h,λh=>absurd rfl h,λh=>absurd rfl h,λv k=>Nat.zero_le _,λv k=>Nat.zero_le _,(λv b i=>by cases i),om,λv j=>om⟩
theorem Qtw{v:Value}(h:NatV w v 0): ∃ A c,v=.slice A 0 c:=by
 obtain⟨A,c,rfl,_⟩:=h;exact⟨A,c,by rw[limbs_0];rfl⟩
theorem Jpk(w:World): Ret prog 16 [.agg #[.int .i64 0,.int .i64 0,.slice none 0 0,.slice none 0 0,.slice none 0 0]] w λu w'=>(∃ A c,u=.slice A 0 c)/\Ext w w':=by
 refine enE func16 ntmps16 ?_;refine bxR ?_;intro J b o O D;refine ldR (D.at (i:=4) rfl) ?_;refine clR (Qbb (A:=none) (n:=0) (c:=0) (cs:=[]) Rd.nil (λu C=>by cases C) om) ?_;rintro u G ⟨⟨A,c,rfl,_⟩,j⟩;refine ρ ?_;exact Jj ⟨⟨A,c,rfl⟩,o.trans j⟩
theorem Qfb(w:World): Ret prog 18 [.agg #[.int .i64 0,.int .i64 0,.slice none 0 0,.slice none 0 0,.slice none 0 0],.slice none 0 0] w λu w'=>u=.tuple #[.slice none 0 0,.int .i64 0,.int .i64 3]/\Ext w w':=by
 refine enE func18 ntmps18 ?_;refine bxR ?_;intro G b o J C;refine ldR (C.at (i:=4) rfl) ?_;refine clR (Jwt (NatV.nil _) (NatV.nil _)) ?_;rintro u D ⟨rfl,j⟩;rw[show Yn 0 0=0 from rfl];refine ρ ?_;exact Jvs ⟨rfl,o.trans j⟩
theorem Qdz(w:World): Ret prog 20 [.agg #[.int .i64 0,.int .i64 0,.slice none 0 0,.slice none 0 0,.slice none 0 0],.slice none 0 0] w λu w'=>u=.int .u32 0/\Ext w w':=by
 refine enE func20 ntmps20 ?_;refine bxR ?_;intro D b o J C;refine ldR (C.at (i:=1) rfl) ?_;refine ldR (C.at (i:=0) rfl) ?_;refine ρ ?_;refine Qs (fun (i:Nat)=>[(2,.pointer (some ⟨b,0,none⟩)),(5,.int .u32 0),(17,.int .i64 0),(18,.int .i64 0)])
  (λi w'=>Ext D w') (λi=>i) 0 sB (Ext.refl _) ?_
 rintro i G j;refine ρ ?_;exact Jj ⟨rfl,o.trans j⟩
theorem Qdx(w:World): Ret prog 19 [.agg #[.int .i64 0,.int .i64 0,.slice none 0 0,.slice none 0 0,.slice none 0 0],.slice none 0 0] w λu w'=>(∃ A c,u=.tuple #[.slice A 0 c,.bool false,.int .i64 0,.int .i64 0])/\Ext w w':=by
 refine enE func19 ntmps19 ?_;refine bxR ?_;intro w1 b2 a7 ag a2;refine bxR ?_;intro w2 b3 G af ac;refine ldR (ac.at (i:=0) rfl) ?_;refine ldR ((a2.ext G).at (i:=1) rfl) ?_;refine Jw Jpn ?_;intro w3 bp a6 a9 ab;refine ρ ?_;refine Vb ab ?_ rfl;intro w4 a1 ae a5;refine Jw Jfk ?_;intro w5 bs a4 a8 aa;refine ρ ?_;refine Vb aa ?_ rfl;intro w6 O ad a3;have o:Ext w2 w4:=a5 w2 a6 a9;have j:Ext w4 w6:=a3 w4 a4 a8;have J:=(a7.trans G).trans (o.trans j);have Z:=a1.ext j;refine ldR ((a2.ext (G.trans (o.trans j))).at (i:=3) rfl) ?_;refine clR (Jbk (n:=0) (xc:=λ_=>[]) (c:=λ_=>0) (S:=λ_=>False) (I:=λ_ W=>Ext w6 W) (cap:=[.pointer (some ⟨b3,0,none⟩),.pointer (some ⟨bp,0,none⟩),.pointer (some ⟨bs,0,none⟩)]) (λi hi=>om) om (λk hk=>hk.elim) (λW _=>Rd.nil) (λi=>om) (Ext.refl _) (λi W W' h hx=>h.trans hx) (λi hi=>om)) ?_;rintro u w7 ⟨hu,_,_,D⟩;obtain⟨A,c,rfl⟩:=Qtw hu
 refine drR (scq 7 []) ?_;have C:Ext w7 w7.drew:=(Ext.refl w7).drew;refine Jz (((Z.ext D).ext C).at (i:=0) rfl) ?_;refine Jz (((O.ext D).ext C).at (i:=0) rfl) ?_;refine ρd ?_;refine ρ ?_;exact Ik ⟨⟨A,c,rfl⟩,(J.trans D).trans C⟩
def ofE(z:Int)(L:Nat): Int:=if z<1∨3<z then 3 else if(L:Int)≠2^z.toNat-1 then 6 else 0
def zUD(k:Nat): UD:=⟨k,0,[],λ_=>[],[],λ_=>zix,λ_ _=>0,λ_ _=>0,λ_ _=>[],λ_=>0,0⟩
theorem zPre(hTB:TB B0 w)(h1:1<=k)(h3:k<=3)(hR:Rd w 5 MA (2^k-1) (Qy (2^k-1) λ_=>zix)): PreU w (zUD k) MA:=by
 refine⟨hR,λi _=>ixZ hTB,⟨h1,h3,List.Pairwise.nil,λy=>⟨λh=>(by cases h),λ⟨i,_,h⟩=>(by cases h)⟩,λs _ _=>List.Pairwise.nil,λs hs j y=>⟨λh=>(by cases h),λh=>?_⟩,λy u=>by cases u⟩,λi _=>?_,Nat.zero_le _,λs=>Nat.zero_le _⟩
 .exfalso
  have o:∃ i,i<k/\s.testBit i=true:=by
   obtain⟨i,hi⟩:=Nat.exists_testBit_of_ne_zero (show s≠0 by omega);refine⟨i,?_,hi⟩;rcases Nat.lt_or_ge i k with h4|h4
   .exact h4
   have:s<2^i:=nM j (Nat.pow_le_pow_right om h4);rw[Nat.testBit_lt_two_pow this]at hi;cases hi
  obtain⟨i,hi,C⟩:=o;cases h i hi C
 exact nR _
theorem Qgz{z:Int}(hTB:TB B0 w)(hz:-128<=z/\z<=127)(hL:L<=5)(hR:Rd w 5 MA L (Qy L λ_=>zix)):
  Ret prog 17 [.int .i64 z,.slice MA L mc] w λu w'=>Ext w w'/\∃(k f:Int) (A B C:Option Addr) (a b c a' b' c':Nat),u=.tuple #[.agg #[.int .i64 k,.int .i64 f,.slice A a a',.slice B b b',.slice C c c'],.int .i64 (ofE z L)]:=by
 by_cases h1:z<1∨3<z
 .refine enE func17 ntmps17 ?_;refine Jw Kq ?_;intro w1 b4 o D G;refine ρ ?_;refine ki 13 (λh=>?_) (λh=>?_)
  .refine Xh (Jds _) ?_;refine Qg G ?_;intro w2 i O j;refine ρ ?_;exact Zk i ⟨j w o D,0,0,none,none,none,0,0,0,0,0,0,by rw[ofE,if_pos h1]⟩
  have h2:=oF h;refine ctR ?_ ?_
  .exact decide_eq_true om
  refine Xh (Jds _) ?_;refine Qg G ?_;intro w2 i O j;refine ρ ?_;exact Zk i ⟨j w o D,0,0,none,none,none,0,0,0,0,0,0,by rw[ofE,if_pos h1]⟩
 obtain⟨k,rfl⟩:=Int.eq_ofNat_of_zero_le (show 0<=z by omega);have a2:1<=k:=om
 have a1:k<=3:=om
 by_cases h2:L=2^k-1
 .subst h2;refine(Jrx (mc:=mc) (zPre hTB a2 a1 hR)).mono ?_;rintro u w' ⟨hx,DA,dc,NA,nc,SA,sl,sc,rfl,_⟩;have e:ofE (k:Int) (2^k-1)=0:=by
   rw[ofE,if_neg h1,if_neg];intro hh;apply hh
   simp only[Int.toNat_natCast];have:k=1∨k=2∨k=3:=om
   rcases this with h|h|h<;>rw[h]<;>rfl
  exact⟨hx,((zUD k).k:Int),((zUD k).f:Int),DA,NA,SA,(zUD k).f,(zUD k).n,sl,dc,nc,sc,by rw[e]⟩
 have J:IntKind.i64.wrap (1*2^min ((k:Int)).toNat IntKind.i64.bits)=((2^k:Nat):Int):=by
  have:k=1∨k=2∨k=3:=om
  rcases this with h|h|h<;>rw[h]<;>rfl
 have Z:2^k=2∨2^k=4∨2^k=8:=by
  have:k=1∨k=2∨k=3:=om
  rcases this with h|h|h<;>rw[h]<;>decide
 have e:ofE (k:Int) L=6:=by
  rw[ofE,if_neg h1,if_pos];simp only[Int.toNat_natCast];have:((2:Int)^k)=((2^k:Nat):Int):=by rw[Int.natCast_pow];rfl
  rw[this];omega
 refine enE func17 ntmps17 ?_;refine Jw Kq ?_;intro w1 b4 o D G;refine ρ ?_;refine Go.Wk.kf 13 ?_ ?_
 .exact dF om
 refine cfR ?_ ?_
 .exact dF om
 refine ρ ?_;refine Jxd rfl rfl om rfl ?_;refine Go.Wk.kv 21 (congrArg (Value.int .i64) J) ?_;obtain⟨p,hp⟩:∃ p,p=2^k:=⟨_,rfl⟩;rw[<-hp]at Z h2 ⊢;refine ctR ?_ ?_
 .exact bne_iff_ne.2 om
 refine Xh (Jds _) ?_;refine Qg G ?_;intro w2 i O j;refine ρ ?_;exact Zk i ⟨j w o D,0,0,none,none,none,0,0,0,0,0,0,by rw[e]⟩
open Go.RowKit Pl Go.Wk
variable {p:CsA}{ps:List CsA}{B0 c f i:Nat}{xc:Nat->List Value}{A:Option Addr}{w:World}
structure MkP(p:CsA): Prop where
 few:FewP p.1
 len:p.1.vs.length=p.1.rss.length
 al:p.2.length=p.1.vs.length
 mka:∀ i,i<p.1.vs.length->MkA (p.2.getD i a0) (p.1.vs.getD i []) (p.1.rss.getD i [])
 fit:∀ i,i<p.1.rss.length->∀ r∈p.1.rss.getD i [],∀ u∈r,Xs u
 n64:-9223372036854775808<=p.1.n/\p.1.n<=9223372036854775807
 f64:-9223372036854775808<=p.1.f/\p.1.f<=9223372036854775807
def rawI(p:CsA): Inp:=⟨p.1.n,p.1.f,p.1.ds,p.1.pm,p.2⟩
def RawG(w:World)(cs:List Value)(p:CsA): Prop:=InC w (rawI p) cs
theorem MkP.ok(h:MkP p)(hc:Gk (rawI p)): CseOk p.1 p.2:=⟨h.few,h.len,h.al,h.mka,hc,h.fit⟩
theorem Qpk(h:CseOk p.1 p.2): rawI p=Vz p.1.F p.1.ds (Xr p.1 p.2):=by
 show Inp.mk p.1.n p.1.f p.1.ds p.1.pm p.2=Inp.mk (p.1.N:Int) (p.1.F:Int) p.1.ds (nz (toN p.1.pm)) ((Xr p.1 p.2).ats.map toAtm);rw[h.atm,h.pm.2,<-h.nN.1,<-h.fF.1]
theorem Qjw{α:Type}(rs:List (α×CsA))(hi:i<rs.length): ((rs.map (·.2)).map rawI).getD i ip0=rawI rs[i].2:=by simp[List.getD,hi]
theorem GV.insE{v:Value}(h:GV 5 RawG w v ps)(hp:∀ p∈ps,MkP p): ∃ A c xc,v=.slice A ps.length c/\ps.length<=c/\InsE w A (ps.map rawI) xc:=by
 obtain⟨rs,A,c,e,rfl,C,D,o,u⟩:=h;subst e;refine⟨A,c,λi=>(rs.getD i ([],(c0,[]))).1,by rw[List.length_map],by rw[List.length_map];exact C,⟨?_,λi hi=>?_,λi hi=>?_⟩⟩
 .rw[List.length_map,List.length_map,<-Jdj];exact o
 .have j:i<rs.length:=by simpa using hi
  rw[Qjw rs j,Qd _ rs j];exact(u _ (List.getElem_mem j)).2
 have j:i<rs.length:=by simpa using hi
 rw[Qjw rs j];have:=hp _ (List.mem_map_of_mem (List.getElem_mem j));exact⟨this.n64,this.f64⟩
theorem Qxq(hp:∀ p∈ps,MkP p)(h:mtE (ps.map rawI)=0): 1<=ps.length/\ps.length<=3/\∃(f:Nat) (ds:List Bool),∀ p∈ps,CsM f ds p:=by
 unfold mtE at h;rw[List.length_map]at h;by_cases h1:ps.length=0
 .rw[if_pos h1]at h;cases h
 rw[if_neg h1]at h;by_cases h2:3<ps.length
 .rw[if_pos h2]at h;cases h
 rw[if_neg h2]at h;by_cases h3:fsE (ps.map rawI)≠0
 .rw[if_pos h3]at h;exact absurd h h3
 rw[if_neg h3]at h;by_cases h4:Jpc (ps.map rawI)
 .have u:fsE (ps.map rawI)=0:=by
   by_cases e:fsE (ps.map rawI)=0
   .exact e
   exact absurd e h3
  have C:=Jmm u;refine⟨om,om,((ps.map rawI).getD 0 ip0).free.toNat,((ps.map rawI).getD 0 ip0).desc,λp j=>?_⟩;have D:=(hp p j).ok (idxE_iff.1 (C _ (List.mem_map_of_mem j)));obtain⟨i,hi,rfl⟩:=List.getElem_of_mem j;have o:=h4 i (by rw[List.length_map];exact hi);have e:(ps.map rawI).getD i ip0=rawI ps[i]:=by simp[List.getD,hi]
  rw[e]at o;exact⟨D,by rw[<-o.1];rfl,o.2⟩
 rw[if_neg h4]at h;cases h
theorem Qkw{ds:List Bool}(h:InsE w A (ps.map rawI) xc)(hp:∀ p∈ps,CsM f ds p): InsM w A f ds (ps.map λp=>Xr p.1 p.2) xc:=by
 have o:=h.rd;rw[List.length_map]at o;refine⟨by rw[List.length_map];exact o,λi hi=>?_⟩;have j:i<ps.length:=by simpa using hi
 have u:=h.el i (by rw[List.length_map];exact j);have O:(ps.map rawI).getD i ip0=rawI ps[i]:=by simp[List.getD,j]
 have J:(ps.map λp=>Xr p.1 p.2).getD i um0=Xr ps[i].1 ps[i].2:=by simp[List.getD,j]
 obtain⟨G,D,C⟩:=hp _ (List.getElem_mem j);rw[O,Qpk G,D,C]at u;rw[J];exact u
theorem Qhd(hI:InsE w A (ps.map rawI) xc)(hp:∀ p∈ps,MkP p):
  Ret Tryz.prog 14 [.slice A ps.length c] w λu w'=>Ext w w'/\∃(n f:Int) (D Q T:Option Addr) (dl ql tl dc qc tc:Nat),u=.tuple #[.agg #[.int .i64 n,.int .i64 f,.slice D dl dc,.slice Q ql qc,.slice T tl tc],.int .i64 (mtE (ps.map rawI))]/\(mtE (ps.map rawI)≠0->n=0/\tl=0):=by
 by_cases h:mtE (ps.map rawI)=0
 .obtain⟨J,Z,f,ds,i⟩:=Qxq hp h;have G:=Qkw hI i;rw[<-Jgl i]at G;obtain⟨p,o⟩:=List.exists_mem_of_length_pos J;have:=(Jmx J Z i).hs.meet_any (c:=c) (i p o).dsl G;rw[Jxm]at this;refine this.mono ?_;rintro u w' ⟨j,cs,rfl,C⟩;obtain⟨D,Q,T,dc,pc,tl,tc,O⟩:=C.inI;exact⟨j,_,_,D,Q,T,_,_,tl,dc,pc,tc,by rw[O.e,h],λh'=>absurd h h'⟩
 have:=Jrz (c:=c) hI h;rw[List.length_map]at this;refine this.mono ?_;rintro u w' ⟨rfl,j⟩;exact⟨j,0,0,none,none,none,0,0,0,0,0,0,rfl,λ_=>⟨rfl,rfl⟩⟩
theorem Qhl(hTB:TB B0 w)(hI:InsE w A (ps.map rawI) xc)(hp:∀ p∈ps,MkP p):
  Ret Tryz.prog 15 [.slice A ps.length c] w λu w'=>Ext w w'/\∃(k f:Int) (D Q T:Option Addr) (dl ql tl dc qc tc:Nat) (st:Int),u=.tuple #[.agg #[.int .i64 k,.int .i64 f,.slice D dl dc,.slice Q ql qc,.slice T tl tc],.int .i64 st,.int .i64 (mtE (ps.map rawI))]/\(mtE (ps.map rawI)≠0->st=0/\[Value.int .i64 k,.int .i64 f,.slice D dl dc,.slice Q ql qc,.slice T tl tc]=[.int .i64 0,.int .i64 0,.slice none 0 0,.slice none 0 0,.slice none 0 0]):=by
 by_cases h:mtE (ps.map rawI)=0
 .obtain⟨Z,O,f,ds,j⟩:=Qxq hp h;refine((Qkw hI j).bld hTB j Z O (ic:=c)).mono ?_;rintro u w' ⟨i,cs,st,D,rfl,J,_⟩;obtain⟨DA,dc,MA,G,SA,o,C,rfl,_⟩:=J.ex;exact⟨i,_,_,DA,MA,SA,_,_,o,dc,G,C,st,by rw[h],λh'=>absurd h h'⟩
 have:=Qhm (c:=c) hI h;rw[List.length_map]at this;refine this.mono ?_;rintro u w' ⟨rfl,i⟩;exact⟨i,0,0,none,none,none,0,0,0,0,0,0,0,rfl,λ_=>⟨rfl,rfl⟩⟩
theorem Xzt{l:List Inp}{a:Inp}: fsE (l++[a])=if fsE l=0 then Zg a else fsE l:=by
 induction l with
 | nil=>
  by_cases e:Zg a=0
  .simp[fsE,e]
  simp[fsE,e]
 | cons b l ih=>
  rw[List.cons_append,fsE,fsE,ih];by_cases e:Zg b=0
  .simp[e]
  simp[e]
end Go.Proofs.YtgobkbeokaaplaaGreatDoor
namespace Go.Wk
open Go.RowKit
variable {id n:Nat}
theorem Qfs{P:Program}{al:AL}{w:World}{Q Q':Exit->Act->World->Prop}{ops:Array Oper}{α:Type}{c d:Code}{l:List Oper}(fr:α->AL)(I:α->World->Prop)(h1:WL P n ops (Exit.then (c.wp P (Exit.inBlock id (Exit.then (λa w=>∃ x,Fr n (fr x) a/\I x w) Q))) (Exit.inBlock id (Exit.then (λa w=>∃ x,Fr n (fr x) a/\I x w) Q))) l al w)(h2:∀ x w,I x w->WC P n d Q' (fr x) w):
  WL P n ops (Exit.then (c.wp P (Exit.inBlock id (Exit.then (d.wp P Q') Q))) (Exit.inBlock id (Exit.then (d.wp P Q') Q))) l al w:=by
 have key:∀ e a w,Exit.inBlock id (Exit.then (λa w=>∃ x,Fr n (fr x) a/\I x w) Q) e a w->Exit.inBlock id (Exit.then (d.wp P Q') Q) e a w:=by
  intro e o w' j;cases e with
  | normal=>obtain⟨x,C,u⟩:=j;exact h2 x w' u o C
  | exit i=>
   unfold Exit.inBlock at j ⊢;simp only at j ⊢;split at j
   .rename_i hi;rw[if_pos hi];obtain⟨x,C,u⟩:=j;exact h2 x w' u o C
   rename_i hi;rw[if_neg hi];exact j
  | _=>exact j
 intro a D;refine Jkp ?_ l a w (h1 a D);intro e o w' j;cases e with
 | normal=>exact wp_mono j key
 | exit i=>exact key (.exit i) o w' j
 | goto l=>exact j
 | ret=>exact key .ret o w' j
 | panic c=>exact key (.panic c) o w' j
 | outgrown=>exact key .outgrown o w' j
end Go.Wk
namespace Go.Proofs.YtgobkbeokaaplaaGreatDoor
open Go.RowKit Pl Go.Wk _root_.Go.Proofs.Tryz
attribute [local irreducible] WC WL QX WD WDB WP WN WG WH WM
variable {e z:Int}{is:List Inp}{B0 i lc:Nat}
def tt9: TT:=(23,{ desc:=.int .i8 })::tt6
theorem Qhs: TOk prog tt9:=⟨⟨kr,kr⟩,Jsc⟩
instance (priority:=7500):Tab prog tt9:=⟨Qhs,mixed⟩
noncomputable def wE(z:Int)(is:List Inp): Int:=if z=0 then fsE is else z
def alk(is:List Inp)(i:Nat): Prop:=∀ j,j<i->(is.getD j ip0).free=(is.getD 0 ip0).free/\(is.getD j ip0).desc=(is.getD 0 ip0).desc
theorem alk_succ: alk is (i+1)↔alk is i/\((is.getD i ip0).free=(is.getD 0 ip0).free/\(is.getD i ip0).desc=(is.getD 0 ip0).desc):=by
 refine⟨λh=>⟨λj o=>h j om,h i om⟩,λ⟨C,u⟩ j o=>?_⟩;by_cases e:j=i
 .rw[e];exact u
 exact C j om
open Classical in
noncomputable def aE (e:Int) (is:List Inp) (i:Nat):Int:=if e=0 then(if alk is i then 0 else 28) else e
theorem Jxb(h:e≠0): aE e is i=e:=by rw[aE,if_neg h]
theorem Jfc(h:e=0)(h1:alk is i): aE e is i=0:=by rw[aE,if_pos h,if_pos h1]
theorem Jfd(h:e=0)(h1:¬ alk is i): aE e is i=28:=by rw[aE,if_pos h,if_neg h1]
theorem aE_zero: aE e is 0=e:=by
 by_cases h:e=0
 .rw[Jfc h λj i=>om,h]
 exact Jxb h
theorem Xcz: aE e is (i+1)=if aE e is i=0/\¬ ((is.getD i ip0).free=(is.getD 0 ip0).free/\(is.getD i ip0).desc=(is.getD 0 ip0).desc) then 28 else aE e is i:=by
 by_cases h:e=0
 .by_cases h1:alk is i
  .rw[Jfc h h1];by_cases h2:(is.getD i ip0).free=(is.getD 0 ip0).free/\(is.getD i ip0).desc=(is.getD 0 ip0).desc
   .rw[Jfc h (alk_succ.2 ⟨h1,h2⟩),if_neg (λhn=>hn.2 h2)]
   rw[Jfd h (λhn=>h2 (alk_succ.1 hn).2),if_pos ⟨rfl,h2⟩]
  rw[Jfd h h1,Jfd h (λhn=>h1 (alk_succ.1 hn).1),if_neg (λhn=>by cases hn.1)]
 rw[Jxb h,Jxb h,if_neg (λhn=>h hn.1)]
theorem Xdb: aE (wE (if is.length=0 then 10 else if 3<is.length then 12 else 0) is) is is.length=mtE is:=by
 unfold mtE;by_cases h1:is.length=0
 .rw[if_pos h1,if_pos h1,wE,if_neg (by decide),Jxb (by decide)]
 rw[if_neg h1,if_neg h1];by_cases h2:3<is.length
 .rw[if_pos h2,if_pos h2,wE,if_neg (by decide),Jxb (by decide)]
 rw[if_neg h2,if_neg h2,wE,if_pos rfl];by_cases h3:fsE is=0
 .rw[if_neg (λhn=>hn h3)];by_cases h4:Jpc is
  .rw[if_pos h4,Jfc h3 h4]
  rw[if_neg h4,Jfd h3 h4]
 rw[if_pos h3,Jxb h3]
theorem Qgn(hi:i<is.length): wE z (is.take (i+1))=if wE z (is.take i)=0 then Zg (is.getD i ip0) else wE z (is.take i):=by
 unfold wE;by_cases h:z=0
 .rw[if_pos h,if_pos h,Qr ip0 hi,Xzt]
 rw[if_neg h,if_neg h,if_neg h]
theorem Xyw(w:World): (Instr.build 55 #[]).run prog w=.ok (.agg #[.slice none 0 0,.slice none 0 0,.slice none 0 0,.slice none 0 0,.slice none 0 0]) w:=Xbf w
theorem Qgw{w:World}{LA:Option Addr}{l:List Cse}{xc:Nat->List Value}(hTB:TB B0 w)(hL:CsesV w LA l xc)(hfit:∀ c∈l,∀ i,i<c.rss.length->∀ r∈c.rss.getD i [],∀ u∈r,Xs u)(hz:-128<=z/\z<=127):
  Ret prog 3 [.slice LA l.length lc,.int .i8 z] w λu w'=>u=.bool true/\Ext w w':=by
 have bs:∀ i,i<l.length->(xc i).length=6:=λi hi=>by
  obtain⟨dA,dc,pA,pc,vA,vc,rA,rc,e,_⟩:=hL.el i hi;rw[e];rfl
 have cq:∀ {W:World} (hx:Ext w W) {i:Nat} (hi:i<l.length) {j:Nat} {u:Value},(xc i)[j]?=some u->W.cell? ((adr LA (i*6)).add j)=some u:=λhx i hi j u hu=>by
  have hj:j<6:=by rw[<-bs i hi];exact(List.getElem?_eq_some_iff.1 hu).1
  rw[Xv];exact(hL.rd.ext hx).cell (by rw[Yk bs hi hj];exact hu)
 obtain⟨ek,f0⟩:=id hL;have az:∀ v,Ext w v->Ret prog 11 [] v λu w'=>u=.bool true/\Ext w w':=λv hv=>(Qcr (hTB.ext hv)).mono λu w' ⟨h1,h2⟩=>⟨h1,hv.trans h2⟩;refine enE func3 ntmps3 ?_;refine ρ ?_;refine Jo (fun (i:Nat) (iv:Value)=>[(0,.slice LA l.length lc),(1,.int .i8 z),(4,.bool false),(5,iv),(32,.slice LA l.length lc),(33,.int .i64 (l.length:Int)),(34,.int .i64 (i:Int))])
  (λi iv w1=>i<=l.length/\Ext w w1/\w.heap.size<=w1.heap.size/\(1<=i->l.length<=5)/\∃ ps:List CsA,ps.length=i/\(∀ p∈ps,MkP p)/\OwnM 33 5 RawG (λ_=>False) w1 w.heap.size iv ps) (λi _=>l.length-i) 0 (.slice none 0 0) sB
  ⟨Nat.zero_le _,Ext.refl _,Nat.le_refl _,λh=>om,[],rfl,(λp hp=>by cases hp),OwnM.nil _ _⟩ ?_
 rintro i iv w1 ⟨hi,a9,bn,da,ps,em,ay,hO⟩;refine ciR (λh=>?_) (λh=>?_)
 .have li:i<l.length:=by have:=oT h;omega
  clear h;obtain⟨cc,di⟩:∃ cc,cc=l.getD i c0:=⟨_,rfl⟩;have dh:cc∈l:=by rw[di];exact getD_mem' c0 l li
  have b1:=f0 i li;rw[<-di]at b1;obtain⟨dA,dc,pA,pc,vA,vc,rA,rc,e8,hD,hP,hV,hR,hn,hf⟩:=id b1;refine Qp 6 i (ek.ext a9) li ?_;refine Jh (cs:=[.int .i64 cc.n,.int .i64 cc.f,.slice dA cc.ds.length dc,.slice pA cc.pm.length pc,.slice vA cc.vs.length vc,.slice rA cc.rss.length rc]) (λj u hu=>cq a9 li (by rw[e8];exact hu)) ?_;refine Jw Qfh ?_;intro w2 b7 ej f5 b5;refine Qg b5 ?_;intro w3 c8 gd Z;have a4:Ext w1 w3:=Z w1 ej f5;have ar:=a9.trans a4;refine Ja c8 ?_;rw[e8]at b1;refine clR (Xjr b1 ar) ?_;rintro u w4 ⟨G,gk,g8,aA,fe,g7,ac,an,ok,rfl,fb,f7,eo,_⟩;refine Jw Vm ?_;intro w5 b8 am f4 cr;refine Qg cr ?_;intro w6 dx ex a8;have C:Ext w4 w6:=a8 w4 am f4;have ad:=(a4.trans G).trans C;have aq:=a9.trans ad;have dz:=(c8.ext G).ext C;cases ok with
  | false=>
   refine clR (az _ aq) ?_;rintro _ w7 ⟨rfl,o⟩;refine ρ ?_;exact Jj ⟨rfl,o⟩
  | true=>
  obtain⟨cn,ats,f6,d8,hmk⟩:=eo rfl;refine Ja dz ?_;refine clR (Xkf (b1.ext aq)) ?_;rintro u w7 ⟨o,fw,rfl,dg,_⟩;have bl:=aq.trans o;cases fw with
  | false=>
   refine clR (az _ bl) ?_;rintro _ w8 ⟨rfl,a7⟩;refine ρ ?_;exact Jj ⟨rfl,a7⟩
  | true=>
  refine ciR (λh=>?_) (λh=>?_)
  .refine clR (az _ bl) ?_;rintro _ w8 ⟨rfl,a7⟩;refine ρ ?_;exact Jj ⟨rfl,a7⟩
  have ae:l.length<=5:=by have:=oF h;omega
  clear h;refine Ja (dx.ext o) ?_;refine Qb (Jnm _ _ _ _ _ _ _ _ _ _ _) ?_;intro w8 gu a7 fl e7;have J:=(ad.trans o).trans a7;obtain⟨IA,ic,rfl,df,cp⟩:=hO.form;have fo:=a4.size;have cm:=((d8.ext C).ext o).ext a7;refine ρ ?_;refine apM EInp (Φ:=RawG) (a:=(cc,ats)) (hO.ext J) e7 rfl Qxd (λW hW=>?_) om om (nL bn J.size) ?_
  .have cx:Ext w W:=hW.old (a9.trans J) λk hk=>by
    rcases hk with hk|hk
    .exact hk.elim
    exact(cp k hk).1
   have fa:=cm W (hW.mono λk _ hk=>by
    rcases hk with hk|hk
    .exact hk.elim
    have:=cp k hk;exact⟨this.1,om⟩)
   exact⟨_,_,_,rfl,fb.ext cx,f7.ext cx,Jfb fa⟩
  intro ef w9 f8 eu ga;have bw:GrN (λk=>(Value.slice IA ps.length ic).ownBlock=some k) w8 w9:=GrN.by eu λk hk=>hk
  refine ρ ?_;refine Jf (i+1) ef sO ⟨li,bw.old (a9.trans J) λk hk=>(cp k hk).1,Nat.le_trans bn (nL J.size bw.size),λ_=>ae,ps++[(cc,ats)],by rw[List.length_append,em];rfl,λp hp=>?_,f8⟩ om;rcases List.mem_append.1 hp with hp|hp
  .exact ay p hp
  rw[List.mem_singleton.1 hp];exact⟨dg rfl,cn,f6,hmk,hfit cc dh,hn,hf⟩
 have co:i=l.length:=by have:=oF h;omega
 clear h;have ae:l.length<=5:=by
  rcases Nat.eq_zero_or_pos i with h0|h0
  .omega
  exact da h0
 obtain⟨IA,ic,xi,rfl,df,hI⟩:=GV.insE (hO.gv om) ay;obtain⟨is,ah⟩:∃ is,is=ps.map rawI:=⟨_,rfl⟩;have fh:is.length=ps.length:=by rw[ah,List.length_map]
 have fg:ps.length=l.length:=om
 rw[<-ah]at hI;clear co da hO;obtain⟨m,hm⟩:∃ m,m=l.length:=⟨_,rfl⟩;have ck:ps.length=m:=om
 have er:is.length=m:=om
 rw[ck]at df ⊢;rw[<-hm]at ae ⊢;have bo:Rd w1 5 IA m (Qy m xi):=by have:=hI.rd;rwa [er]at this
 obtain⟨z0,a6⟩:∃ z0:Int,z0=if is.length=0 then 10 else if 3<is.length then 12 else 0:=⟨_,rfl⟩
 refine ρ ?_;refine Qft (fun (e:Int)=>[(0,.slice LA m lc),(1,.int .i8 z),(4,.bool false),(5,.slice IA m ic),(10,.int .i64 e),(11,.int .i64 0)]) (λe w'=>w'=w1/\e=z0) ?_ ?_
 .refine ciR (λh=>?_) (λh=>?_)
  .have h0:m=0:=by have:=Zv h;omega
   refine ρ ?_;exact Jc 10 sB ⟨rfl,by rw[a6,if_pos om]⟩
  have h0:¬ m=0:=by have:=Zz h;omega
  clear h;refine ciR (λh=>?_) (λh=>?_)
  .have h3:3<m:=by have:=oT h;omega
   refine ρ ?_;exact Jc 12 sB ⟨rfl,by rw[a6,if_neg om,if_pos om]⟩
  have h3:¬ 3<m:=by have:=oF h;omega
  refine ρ ?_;exact Jc 0 sB ⟨rfl,by rw[a6,if_neg om,if_neg om]⟩
 rintro z1 w2 ⟨ew,ez⟩;subst ez;subst ew
 -- the first error
 refine ρ ?_;refine Jo (fun (i:Nat) (e:Int)=>[(0,.slice LA m lc),(1,.int .i8 z),(4,.bool false),(5,.slice IA m ic),(10,.int .i64 e),(11,.int .i64 0),(69,.slice IA m ic),(70,.int .i64 (m:Int)),(71,.int .i64 (i:Int))])
  (λi e w'=>i<=m/\Ext w2 w'/\e=wE z1 (is.take i)) (λi _=>m-i) 0 z1 sB ⟨Nat.zero_le _,Ext.refl _,by simp[wE,fsE]⟩ ?_
 rintro i e w3 ⟨hi,Z,he⟩;have ar:=a9.trans Z;refine ciR (λh=>?_) (λh=>?_)
 .have li:i<m:=by have:=oT h;omega
  have O:i<is.length:=om
  clear h;obtain⟨D,Q,T,dc,pc,tl,tc,hF⟩:=(hI.el i O).inI;obtain⟨x,hx⟩:∃ x,x=is.getD i ip0:=⟨_,rfl⟩;have b6:=hI.n64 i O;rw[<-hx]at hF b6;have ba:=hF.e;have ax:=Qgn (z:=z1) O;rw[<-he,<-hx]at ax;refine Qp 5 i (bo.ext Z) li ?_;refine Jh (cs:=[.int .i64 x.n,.int .i64 x.free,.slice D x.desc.length dc,.slice Q x.perm.length pc,.slice T tl tc]) (λj u hu=>hI.cell Z O (by rw[ba];exact hu)) ?_;refine Jw Vm ?_;intro w4 gt G dq e6;refine Qg e6 ?_;intro w5 fd gc am;have ao:Ext w3 w5:=am w3 G dq;refine ciR (λh=>?_) (λh=>?_)
  .have h0:e=0:=Zv h;rw[if_pos h0]at ax;refine Ja fd ?_;refine ρ ?_;have c6:=(hF.ext (Z.trans ao)).c;rw[ba]at c6;refine cl (Jmk (inp:=x) ⟨_,rfl,c6⟩ b6.1 b6.2) ?_;rintro u w6 ⟨a8,rfl⟩;refine ρ ?_;exact Jf (i+1) (Zg x) sO ⟨li,(Z.trans ao).trans a8,ax.symm⟩ om
  have h0:¬ e=0:=Zz h;rw[if_neg h0]at ax;refine ρ ?_;exact Jf (i+1) e sO ⟨li,Z.trans ao,ax.symm⟩ om
 have co:i=is.length:=by have:=oF h;omega
 rw[co,List.take_of_length_le (nR _)]at he;clear h;have aa:=hI.ext Z;have cj:=bo.ext Z
 -- are they alike
 have f9:∀ j,j<is.length->(is.getD j ip0).n<=6∨32<(is.getD j ip0).n:=λj hj=>by
  have db:j<ps.length:=om
  have e1:is.getD j ip0=rawI ps[j]:=by rw[ah];simp[List.getD,db]
  rw[e1];exact(ay _ (List.getElem_mem db)).few.n6
 have c7:e=0->m<=3/\∀ j,j<is.length->Gk (is.getD j ip0):=λh0=>by
  rw[h0]at he;unfold wE at he;by_cases hz:z1=0
  .rw[if_pos hz]at he;refine⟨?_,λj hj=>idxE_iff.1 (Jmm he.symm _ (getD_mem' ip0 is hj))⟩;rw[hz]at a6;by_cases c1:is.length=0
   .omega
   rw[if_neg c1]at a6;by_cases c2:3<is.length
   .rw[if_pos c2]at a6;cases a6
   omega
  rw[if_neg hz]at he;exact absurd he.symm hz
 refine ρ ?_;refine Zj (fun (i:Nat) (a n:Int)=>[(0,.slice LA m lc),(1,.int .i8 z),(4,.bool false),(5,.slice IA m ic),(10,.int .i64 a),(11,.int .i64 n),(80,.slice IA m ic),(81,.int .i64 (m:Int)),(82,.int .i64 (i:Int))])
  (λi a n w'=>i<=m/\Ext w3 w'/\a=aE e is i/\(e=0->0<=n/\n<=6*(i:Int))) (λi _ _=>m-i) 0 e 0 sB ⟨Nat.zero_le _,Ext.refl _,aE_zero.symm,λ_=>om⟩ ?_
 rintro i a n w4 ⟨hi,G,ha,hn⟩;refine ciR (λh=>?_) (λh=>?_)
 .have li:i<m:=by have:=oT h;omega
  have O:i<is.length:=om
  have l0:0<m:=om
  have cd:0<is.length:=om
  clear h;obtain⟨D,Q,T,dc,pc,tl,tc,hF⟩:=(aa.el i O).inI;obtain⟨x,hx⟩:∃ x,x=is.getD i ip0:=⟨_,rfl⟩;obtain⟨D0,Q0,T0,gj,g6,g0,g2,bf⟩:=(aa.el 0 cd).inI;obtain⟨x0,d6⟩:∃ x,x=is.getD 0 ip0:=⟨_,rfl⟩;have b6:=aa.n64 i O;rw[<-hx]at hF b6;rw[<-d6]at bf;have ba:=hF.e;have ch:=Xcz (e:=e) (is:=is) (i:=i);rw[<-ha,<-hx,<-d6]at ch;refine Qp 5 i (cj.ext G) li ?_;refine Jh (cs:=[.int .i64 x.n,.int .i64 x.free,.slice D x.desc.length dc,.slice Q x.perm.length pc,.slice T tl tc]) (λj u hu=>aa.cell G O (by rw[ba];exact hu)) ?_;refine Jw Vm ?_;intro w5 ea am dn e4;refine Qg e4 ?_;intro w6 cv ex a8;have C:Ext w4 w6:=a8 w4 am dn;have bg:=G.trans C;have ag:Ext w6 w6.drew:=(Ext.refl w6).drew;have a1:=bg.trans ag;refine ρ ?_;refine Zc (fun (t:Bool)=>[(0,.slice LA m lc),(1,.int .i8 z),(4,.bool false),(5,.slice IA m ic),(10,.int .i64 a),(11,.int .i64 n),(14,.int .i64 (i:Int)),(15,.pointer (some ⟨ea,0,none⟩)),(80,.slice IA m ic),(81,.int .i64 (m:Int)),(82,.int .i64 (i:Int)),(107,.bool t)])
   (λt w'=>Ext w6 w'/\(t=true↔a=0/\¬ (x.free=x0.free/\x.desc=x0.desc))) ?_ ?_
  .refine dr (scq 21 [17]) kr ?_;refine ρd ?_;refine dki 89 (λh=>?_) (λh=>?_)
   .have h0:a=0:=Zv h;refine Jz ((cv.ext ag).at (i:=1) rfl) ?_;refine Zu 5 0 (cj.ext a1) l0 ?_;refine Jz (aa.cell a1 cd (j:=1) (by rw[bf.e];rfl)) ?_;refine ρd ?_;refine dki 97 (λh=>?_) (λh=>?_)
    .have ep:=Yh h;refine ρd ?_;exact Jc true sB ⟨ag,λ_=>⟨h0,λhh=>ep hh.1⟩,λ_=>rfl⟩
    have ey:x.free=x0.free:=Uv h;refine Jz ((cv.ext ag).at (i:=2) rfl) ?_;refine Zu 5 0 (cj.ext a1) l0 ?_;refine Jz (aa.cell a1 cd (j:=2) (by rw[bf.e];rfl)) ?_;refine Qq (Jdk (Rd.ext hF.d a1) (Rd.ext bf.d a1) hF.dl) ?_;rintro u w7 ⟨rfl,o⟩;refine⟨o,?_⟩;refine ρd ?_;refine Jc (!decide (x.desc=x0.desc)) sB ⟨ag.trans o,?_⟩;by_cases hde:x.desc=x0.desc
    .simp[hde,ey,h0]
    simp[hde,h0]
   have h0:¬ a=0:=Zz h;refine ρd ?_;exact Jc false sB ⟨ag,λh=>(by cases h),λh=>absurd h.1 h0⟩
  rintro t w7 ⟨o,ht⟩;have b5:=cv.ext o;refine Zc (fun (a':Int)=>[(0,.slice LA m lc),(1,.int .i8 z),(4,.bool false),(5,.slice IA m ic),(10,.int .i64 a'),(11,.int .i64 n),(14,.int .i64 (i:Int)),(15,.pointer (some ⟨ea,0,none⟩)),(80,.slice IA m ic),(81,.int .i64 (m:Int)),(82,.int .i64 (i:Int))])
   (λa' w'=>w'=w7/\a'=aE e is (i+1)) ?_ ?_
  .refine ci (λh=>?_) (λh=>?_)
   .refine ρ ?_;exact Jc 28 sB ⟨rfl,by rw[ch,if_pos (ht.1 h)]⟩
   refine ρ ?_;exact Jc a sB ⟨rfl,by rw[ch,if_neg (λhh=>by rw[ht.2 hh]at h;cases h)]⟩
  rintro a' w8 ⟨ew,be⟩;subst ew;have ff:=bg.trans o;refine ldR (b5.at (i:=0) rfl) ?_;by_cases ai:e=0
  .have bd:=(c7 ai).2 i O;have h6:=f9 i O;rw[<-hx]at bd h6;have gh:=bd.2.2.1;have gg:=bd.2.2.2.1;have gf:=bd.2.1;have g9:=hn ai;refine ciR (λh=>?_) (λh=>?_)
   .refine ldR (b5.at (i:=1) rfl) ?_;refine ρ ?_;exact Qe (i+1) a' (n+x.n-x.free) sO ⟨li,G.trans (C.trans o),be,λ_=>⟨om,om⟩⟩ om
   refine ρ ?_;exact Qe (i+1) a' (n+x.n) sO ⟨li,G.trans (C.trans o),be,λ_=>⟨om,om⟩⟩ om
  refine ciR (λh=>?_) (λh=>?_)
  .refine ldR (b5.at (i:=1) rfl) ?_;refine ρ ?_;exact Qe (i+1) a' _ sO ⟨li,G.trans (C.trans o),be,λh=>absurd h ai⟩ om
  refine ρ ?_;exact Qe (i+1) a' _ sO ⟨li,G.trans (C.trans o),be,λh=>absurd h ai⟩ om
 have de:i=is.length:=by have:=oF h;omega
 have bz:a=mtE is:=by rw[ha,de,he,a6];exact Xdb
 clear h;have ai:a=0->n<=32:=λh0=>by
  have h1:e=0:=by
   by_cases h2:e=0
   .exact h2
   rw[ha,Jxb h2]at h0;exact h0
  have h2:=hn h1;have h3:=(c7 h1).1;omega
 refine ρ ?_;refine Ve (fun (t:Bool)=>[(0,.slice LA m lc),(1,.int .i8 z),(4,.bool false),(5,.slice IA m ic),(10,.int .i64 a),(124,.bool t)]) (λt w'=>w'=w4/\t=false) ?_ ?_
 .refine ρ ?_;refine ki 121 (λh=>?_) (λh=>?_)
  .have h0:=ai (Zv h);refine ρ ?_;exact Jc _ sB ⟨rfl,decide_eq_false om⟩
  refine ρ ?_;exact Jc false sB ⟨rfl,rfl⟩
 rintro t w5 ⟨ew,et⟩;subst et;subst ew;have dv:InsE w5 IA (ps.map rawI) xi:=by rw[<-ah];exact aa.ext G
 have bm:=ar.trans G;have du:=Qhd (c:=ic) dv ay;rw[ck,<-ah,<-bz]at du;refine clR du ?_;rintro u w6 ⟨a8,n',f',D,Q,T,dl,ql,tl,dc,qc,tc,rfl,eg⟩;refine Jw Vm ?_;intro w7 gq o dm e3;refine Qg e3 ?_;intro w8 cr gb a7;have cy:Ext w6 w8:=a7 w6 o dm;have ak:=a8.trans cy;have dw:=Qhl (c:=ic) (hTB.ext (bm.trans ak)) (dv.ext ak) ay;rw[ck,<-ah,<-bz]at dw;refine clR dw ?_;rintro u w9 ⟨ei,k',f2,D',Q',T',gi,g4,g1,fe,g5,g3,st,rfl,eh⟩;refine Jw Kq ?_;intro fz gn d5 dk e2;refine Qg e2 ?_;intro ed ca fj d4;have ce:Ext w9 ed:=d4 w9 d5 dk;have aj:=ei.trans ce;have aw:=(bm.trans ak).trans aj;have b4:=cr.ext aj;refine ρ ?_;refine Ve (fun (t:Bool)=>[(0,.slice LA m lc),(1,.int .i8 z),(4,.bool false),(168,.bool t)]) (λt w'=>Ext w w'/\t=false) ?_ ?_
 .refine ρ ?_;refine Go.Wk.kf 139 ?_ ?_
  .exact bne_self_eq_false a
  refine ρ ?_;refine Go.Wk.kf 144 ?_ ?_
  .exact bne_self_eq_false a
  refine ρ ?_;by_cases h0:a=0
  .refine Go.Wk.kf 147 ?_ ?_
   .exact bne_eq_false_iff_eq.2 h0
   refine ρ ?_;exact Jc false sB ⟨aw,rfl⟩
  obtain⟨rfl,rfl⟩:=eg h0;obtain⟨rfl,e5⟩:=eh h0;rw[e5]at ca;refine Go.Wk.kt 147 ?_ ?_
  .exact bne_iff_ne.2 h0
  refine ldR (b4.at (i:=0) rfl) ?_;refine ldR (b4.at (i:=4) rfl) ?_;refine Ja ca ?_;refine clR (Jpk _) ?_;rintro _ b9 ⟨⟨A9,c9,rfl⟩,d3⟩;refine ρ ?_;exact Jc false sB ⟨aw.trans d3,rfl⟩
 rintro t b9 ⟨cg,et⟩;subst et
 -- the zero indexes
 refine ρ ?_;refine Jo (fun (i:Nat) (v:Value)=>[(0,.slice LA m lc),(1,.int .i8 z),(4,.bool false),(21,v),(169,.slice LA m lc),(170,.int .i64 (m:Int)),(171,.int .i64 (i:Int))])
  (λi v w'=>i<=m/\Ext b9 w'/\w'.ownsRow b9.heap.size 55 5 v i (Qy i λ_=>zix)) (λi _=>m-i) 0 (.slice none 0 0) sB ⟨Nat.zero_le _,Ext.refl _,Zd _ _ _ _⟩ ?_
 rintro i v cw ⟨hi,a4,ho⟩;refine ciR (λh=>?_) (λh=>?_)
 .have li:i<m:=by have:=oT h;omega
  clear h;obtain⟨ZA,zc,rfl,_⟩:=Jb ho;refine Xh (Xyw _) ?_;refine Qb (Qbp none none none none none 0 0 0 0 0 0 0 0 0 0) ?_;intro ec bb bj ge fc;refine ρ ?_;refine apo (a:=b9) (a4.trans bj) EX5 (Jk ho bj) (fc.rd (n:=1) rfl) (λu hu=>by simp only[List.mem_cons,List.not_mem_nil,or_false,or_self]at hu;rw[hu];rfl) (by unfold maxLen;omega) om ?_;intro v' cb d9 ap _ _;refine ρ ?_;exact Jf (i+1) v' sO ⟨li,ap,by rw[Ky];exact d9⟩ om
 have dd:i=m:=by have:=oF h;omega
 clear h;obtain⟨ZA,zc,rfl,_⟩:=Jb ho;have dt:Rd cw 5 ZA i (Qy i λ_=>zix):=Rd.own ho;rw[dd]at dt ⊢;have av:=cg.trans a4;refine ρ ?_;refine Qfs (fun (e:Int)=>[(1,.int .i8 z),(4,.bool false),(10,.int .i64 e),(21,.slice ZA m zc)]) (λe w'=>w'=cw/\e=ofE z m) ?_ ?_
 .refine ρ ?_;refine ki 181 (λh=>?_) (λh=>?_)
  .have h1:=oT h;refine ρ ?_;exact Jc 3 sB ⟨rfl,by rw[ofE,if_pos (.inl h1)]⟩
  have h1:=oF h;refine ciR (λh=>?_) (λh=>?_)
  .have h2:=oT h;refine ρ ?_;exact Jc 3 sB ⟨rfl,by rw[ofE,if_pos (.inr h2)]⟩
  have h2:=oF h;have h3:¬ (z<1∨3<z):=λhh=>hh.elim h1 h2;obtain⟨k,rfl⟩:=Int.eq_ofNat_of_zero_le (show 0<=z by omega);have hk:k=1∨k=2∨k=3:=om
  have bp:IntKind.i64.wrap (1*2^min ((k:Int)).toNat IntKind.i64.bits)=((2^k:Nat):Int):=by
   rcases hk with h|h|h<;>rw[h]<;>rfl
  have en:2^k=2∨2^k=4∨2^k=8:=by
   rcases hk with h|h|h<;>rw[h]<;>decide
  have d7:((2:Int)^k)=((2^k:Nat):Int):=by rw[Int.natCast_pow];rfl
  have bq:(m:Int)≠((2^k:Nat):Int)-1->ofE (k:Int) m=6:=λhh=>by
   rw[ofE,if_neg h3,if_pos];show(m:Int)≠(2:Int)^k-1;rw[d7];exact hh
  have br:(m:Int)=((2^k:Nat):Int)-1->ofE (k:Int) m=0:=λhh=>by
   rw[ofE,if_neg h3,if_neg];intro hn;apply hn
   show(m:Int)=(2:Int)^k-1;rw[d7];exact hh
  obtain⟨p,hp⟩:∃ p,p=2^k:=⟨_,rfl⟩;rw[<-hp]at en bp bq br;refine ρ ?_;refine Jxd rfl rfl om rfl ?_;refine Go.Wk.kv 189 (congrArg (Value.int .i64) bp) ?_;refine ciR (λh=>?_) (λh=>?_)
  .have h4:=Yh h;refine ρ ?_;exact Jc 6 sB ⟨rfl,by rw[bq h4]⟩
  have h4:=Uv h;refine ρ ?_;exact Jc 0 sB ⟨rfl,by rw[br h4]⟩
 rintro e9 ec ⟨ew,ee⟩;subst ew;subst ee;refine ρ ?_;rw[Jjg (z:=z) om];refine cl (Qgz (hTB.ext av) hz ae dt) ?_;rintro u cb ⟨ap,k2,f3,A2,B2,C2,a2,b2,c2,a3,b3,c3,rfl⟩;refine Jw Kq ?_;intro fy gm ad dj e0;refine Qg e0 ?_;intro eb fn fi d2;have bc:Ext cb eb:=d2 cb ad dj;have au:=(av.trans ap).trans bc;refine Jw Kq ?_;intro fx gl J fk af;refine Ja af ?_;refine clR (Qfb _) ?_;rintro _ fu ⟨rfl,bi⟩;refine Ja (af.ext bi) ?_;refine clR (Qdx _) ?_;rintro _ ft ⟨⟨A4,c4,rfl⟩,d1⟩;have ab:=bi.trans d1;refine clR (Qcr (hTB.ext ((au.trans J).trans ab))) ?_;rintro _ fr ⟨rfl,d0⟩;have a5:=ab.trans d0;refine ρ ?_;refine Go.Wk.kt 218 ?_ ?_
 .exact beq_self_eq_true _
 refine Ja (af.ext a5) ?_;refine clR (Qdz _) ?_;rintro _ fq ⟨rfl,bh⟩;refine Ja (af.ext (a5.trans bh)) ?_;refine clR (Jpk _) ?_;rintro _ fp ⟨⟨A5,c5,rfl⟩,cz⟩;refine ρ ?_;exact Jj ⟨rfl,(((au.trans J).trans a5).trans bh).trans cz⟩
end Go.Proofs.YtgobkbeokaaplaaGreatDoor
namespace Go.Proofs.YtgobkbeokaaplaaGreatDoor
open Go.RowKit Pl Go.Wk Go.ChangeShapes Go.WideShapes
theorem Qgv{B0:Nat}{w:World}{v:Value}{z:Int}(hTB:TB B0 w)(h:Qdv w v)(hz:-128<=z/\z<=127): Ret Tryz.prog 3 [v,.int .i8 z] w λu w'=>u=.bool true/\Ext w w':=by
 obtain⟨A,c,l,o,rfl,j,i⟩:=h;exact Qgw hTB j i hz
end Go.Proofs.YtgobkbeokaaplaaGreatDoor
