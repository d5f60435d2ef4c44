/- Part 9. -/
import Derived.Test.YtcdccafgdnblaaaGreatDoorM08
import Derived.OpenShut
set_option linter.unusedVariables false
set_option maxRecDepth 100000
set_option maxHeartbeats 40000000
namespace Go.Proofs.YtcdccafgdnblaaaGreatDoor
open Go.RowKit Pl Go.Wk
attribute [local irreducible] WC WL QX WD WDB WP WN WG WH WM
variable {gs:List (List CsA)}{ds:List Bool}{B0 c f s:Nat}{xc:Nat->List Value}{A:Option Addr}{α β:Type}{v x:Value}{W w:World}
structure IxD where
 s: Nat
 kf:Nat->Nat
 pf:Nat->Int
 BB:Nat->List BkT
 tot:Nat
def IxG(f:Nat)(ds:List Bool)(gs:List (List CsA))(w:World)(cs:List Value)(d:IxD): Prop:=IxA w (.agg cs.toArray) f ds d.kf d.pf d.BB d.tot (Xl (pick gs d.s).flatten)/\BBp f ds (pick gs d.s).flatten d.BB
theorem IxA.on{kf:Nat->Nat}{pf:Nat->Int}{BB:Nat->List BkT}{tot:Nat}{L:List Row}(h:IxA w x f ds kf pf BB tot L)(hv:IxV W x f ds kf pf BB tot)(tb:∃ B0,TB B0 W): IxA W x f ds kf pf BB tot L:=⟨tb,hv,h.ip,h.ho,h.hb⟩
theorem Qyj{ms:List CsA}(hTB:TB B0 w)(h:∀ p∈ms,CsM f ds p)(hds:ds.length=f)(hne:ms≠[])(h4:ms.length<=4)(hv:InV w v (Zq f ds (Qd f (Jr ms)))):
  Ret Tryz.prog 7 [v] w λu w'=>Ext w w'/\∃(x:Value) (st:Int) (kf:Nat->Nat) (pf:Nat->Int) (BB:Nat->List BkT) (tot:Nat),u=.tuple #[x,.int .i64 st,.int .i64 0]/\IxA w' x f ds kf pf BB tot (Xl ms)/\Off (λk=>k<w.heap.size) w' (λW=>IxV W x f ds kf pf BB tot)/\BBp f ds ms BB:=by
 obtain⟨ts,j,hB⟩:=Xjq hv hds;have D:Jr ms≠[]:=λe=>hne (List.map_eq_nil_iff.1 e);have O:(Jr ms).length<=4:=by simpa [Jr] using h4
 have hI:=jBldI (ds:=ds) (ts:=ts) (Jwd h) hds D O j;have C:ts.length=(jAs f 0 (Jr ms)).length:=by have:=congrArg List.length j;grind [Qd]
 refine(Qtz hTB hI hB).mono ?_;rintro u w' ⟨Z,x,st,kf,pf,R,rfl,hE,o⟩;obtain⟨hL,hl,J⟩:=Xkn h hne C;refine⟨Z,x,st,kf,pf,_,_,rfl,Xjb ⟨B0,hTB.ext Z⟩ hI (λi hi=>?_) hE o.here hL J om,λW hW=>(o W hW).congr λv hv=>by grind [BBx],kf,pf,R,by rw[<-C];exact hE,by rw[j];rfl⟩;rw[j];have G:i<(jAs f 0 (Jr ms)).length:=C ▸ hi;show((jAs f 0 (Jr ms)).map toAtm |>.getD i a0).rows=_;simp[rwL,List.getD,G,toAtm]
theorem Jms(d:α)(ps:List (List Value×α)): Jd ps=Qf ps.length λi=>(ps.getD i ([],d)).1:=by
 have key:∀ n,n<=ps.length->Jd (ps.take n)=Qf n λi=>(ps.getD i ([],d)).1:=by
  intro n;induction n with
  | zero=>intro _;rfl
  | succ n ih=>
   grind [Xz,Iv,Jd]
 grind
theorem InsM.of{ps:List (List Value×UMem)}(hr:Rd w 5 A ps.length (Jd ps))(he:∀ p∈ps,InC w (Zq f ds p.2) p.1): InsM w A f ds (ps.map (·.2)) λi=>(ps.getD i ([],um0)).1:=by
 refine⟨by rw[List.length_map,<-Jms um0];exact hr,λi hi=>?_⟩;grind
theorem InsM.its{Ms:List UMem}(h:InsM w A f ds Ms xc): ∃ ps:List (List Value×UMem),ps.map (·.2)=Ms/\ps.length=Ms.length/\(∀ i,i<Ms.length->ps.getD i ([],um0)=(xc i,Ms.getD i um0))/\∀ p∈ps,InC w (Zq f ds p.2) p.1:=by
 refine⟨(List.range Ms.length).map λi=>(xc i,Ms.getD i um0),?_,by simp,λi hi=>by simp[List.getD,hi],λp hp=>?_⟩
 .rw[List.map_map];refine List.ext_getElem (by simp) λi o j=>?_;simp[List.getD,j]
 obtain⟨i,hi,rfl⟩:=List.mem_map.1 hp;exact h.el i (List.mem_range.1 hi)
theorem Qnt(g:α->β)(l:List α)(s i:Nat): Yg (l.map g) s i=(Yg l s i).map g:=by grind [Yg]
theorem Qql(g:α->β)(l:List α)(s:Nat): pick (l.map g) s=(pick l s).map g:=by
 unfold pick;rw[List.length_map,Qnt]
theorem Jlx(hs:List (List CsA)): Qd f (hs.map λg=>Qd f (Jr g))=Qd f (Jr hs.flatten):=by
 have i:=Qzl (f:=f) (s:=0) (Gs:=hs.map Jr);have e:(hs.map Jr).map (Qd f)=hs.map λg=>Qd f (Jr g):=by rw[List.map_map];rfl
 have j:(hs.map Jr).flatten=Jr hs.flatten:=by unfold Jr;rw[List.map_flatten]
 grind [Qd]
theorem Jtw: ∀ s,s<8->∀ i,i<3->(bits .and .i64 (((s:Nat):Int).fdiv (2^min (((i:Nat):Int)).toNat IntKind.i64.bits)) 1 == 1)=s.testBit i:=by decide
def mxR: Nat->(Nat->Nat)->Nat
 | 0,_=>0
 | n+1,g=>max (mxR n g) (g n)
theorem Qzh{g:Nat->Nat}: ∀ {n i:Nat},i<n->g i<=mxR n g
 | n+1,i,h=>by
  rw[mxR];rcases Nat.lt_or_ge i n with h1|h1
  .have:=Qzh (g:=g) h1;omega
  repeat grind
theorem Qxg{g:Nat->Nat}{B:Nat}: ∀ {n:Nat},(∀ i,i<n->g i<=B)->mxR n g<=B
 | 0,_=>Nat.zero_le _
 | n+1,h=>by
  have h1:=Qxg (g:=g) (n:=n) λi hi=>h i om;grind [mxR]
theorem Jsx{g:Nat->Nat}{B:Nat}(h:∀ i,g i<=B): ∀ n,Qy n g<=n*B
 | 0=>Nat.zero_le _
 | n+1=>by
  have h1:=Jsx h n;grind [Qy,Nat.succ_mul]
def Vg: IxD:=⟨0,λ_=>0,λ_=>0,λ_=>[],0⟩
structure HsOk(hs:List (List CsA))(f:Nat)(ds:List Bool): Prop where
 nil:hs≠[]
 c3:hs.length<=3
 c4:hs.flatten.length<=4
 ne:∀ g∈hs,g≠[]
 ok:∀ g∈hs,∀ p∈g,CsM f ds p
theorem CsU.hs(h:CsU gs f ds): HsOk gs f ds:=⟨λe=>by have:=h.c1;grind,h.c3,h.c4,h.ne,h.ok⟩
theorem CsU.hp(h:CsU gs f ds)(h1:1<=s)(h2:s<2^gs.length): HsOk (pick gs s) f ds :=
 ⟨Qqk h1 h2,Nat.le_trans Qns h.c3,h.p4,λg i=>h.ne g (pick_sub.subset i),λg i=>h.ok g (pick_sub.subset i)⟩
section
variable {hs:List (List CsA)} {f:Nat} {ds:List Bool} (h:HsOk hs f ds)
include h
theorem HsOk.fok: ∀ p∈hs.flatten,CsM f ds p:=λp hp=>by
 obtain⟨g,j,i⟩:=List.mem_flatten.1 hp;exact h.ok g j p i
theorem HsOk.fne: hs.flatten≠[]:=by
 obtain⟨g,i⟩:=List.exists_mem_of_ne_nil _ h.nil;obtain⟨p,hp⟩:=List.exists_mem_of_ne_nil _ (h.ne g i);exact List.ne_nil_of_mem (List.mem_flatten.2 ⟨g,i,hp⟩)
theorem HsOk.meet(hds:ds.length=f): (∀ M∈hs.map (λg=>Qd f (Jr g)),UMt f ds M)/\jN f 0 (hs.map λg=>Qd f (Jr g))<=32/\(jPm f 0 (hs.map λg=>Qd f (Jr g))).length<=1000/\(jAs f 0 (hs.map λg=>Qd f (Jr g))).length<=1000:=by
 have e:=Jlx (f:=f) hs;have G:jN f 0 (hs.map λg=>Qd f (Jr g))=jN f 0 (Jr hs.flatten):=congrArg UMem.N e;have D:jPm f 0 (hs.map λg=>Qd f (Jr g))=jPm f 0 (Jr hs.flatten):=congrArg UMem.perm e;have C:jAs f 0 (hs.map λg=>Qd f (Jr g))=jAs f 0 (Jr hs.flatten):=congrArg UMem.ats e;have i:=Jwd h.fok;have o:(Jr hs.flatten).length<=4:=by rw[Jr,List.length_map];exact h.c4
 have J:=(Qvx i hds (λe=>h.fne (List.map_eq_nil_iff.1 e)) o).1;have O:=Jvn (s:=0) i;have hp:=(Jlz (s:=0) i).1;refine⟨λM u=>?_,by rw[G];omega,by rw[D];omega,by rw[C];omega⟩;obtain⟨g,j,rfl⟩:=List.mem_map.1 u;refine Qtr (Jwd (h.ok g j)) hds (λe=>h.ne g j (List.map_eq_nil_iff.1 e)) ?_;have Z:=flat_len (List.singleton_sublist.2 j);grind [Jr,List.length_map]
theorem HsOk.meet_any(hds:ds.length=f)(hI:InsM w A f ds (hs.map λg=>Qd f (Jr g)) xc):
  Ret Tryz.prog 16 [.slice A hs.length c] w λu w'=>Ext w w'/\∃ cs,u=.tuple #[.agg cs.toArray,.int .i64 0]/\InC w' (Zq f ds (Qd f (Jr hs.flatten))) cs:=by
 obtain⟨C,o,j,i⟩:=h.meet hds;have:=Qfx (c:=c) hI C (λe=>h.nil (List.map_eq_nil_iff.1 e)) (by rw[List.length_map];exact h.c3) o j i;grind [List.length_map,Jlx]
end
theorem Uw(n f:Int)(A B C:Option Addr)(a b c a' b' c':Nat)(w:World): (Instr.buildSlice 23 1 #[(0,.agg #[.int .i64 n,.int .i64 f,.slice A a a',.slice B b b',.slice C c c'])]).run Tryz.prog w=.ok (.slice (some ⟨w.heap.size,0,none⟩) 1 1) (w.alloc (.cells [Value.int .i64 n,.int .i64 f,.slice A a a',.slice B b b',.slice C c c'].toArray 40)):=kr
theorem bs1Ix(A B C D E:Option Addr)(a b c d e a' b' c' d' e':Nat)(w:World): (Instr.buildSlice 29 1 #[(0,.agg #[.slice A a a',.slice B b b',.slice C c c',.slice D d d',.slice E e e'])]).run Tryz.prog w=.ok (.slice (some ⟨w.heap.size,0,none⟩) 1 1) (w.alloc (.cells [Value.slice A a a',.slice B b b',.slice C c c',.slice D d d',.slice E e e'].toArray 45)):=kr
theorem Jfv(hTB:TB B0 w)(hC:CsU gs f ds)(hds:ds.length=f)(hI:InsM w A f ds (gs.map λg=>Qd f (Jr g)) xc):
  Ret Tryz.prog 6 [.slice A gs.length c] w λu w'=>Ext w w'/\∃(cs:List Value) (st:Int) (D:UD),u=.tuple #[.agg cs.toArray,.int .i64 st,.int .i64 0]/\UnV w' D cs/\D.k=gs.length/\D.f=f/\D.ds=ds/\D.U=Zl ds gs/\D.M=(λs=>Xl (pick gs s).flatten)/\D.Hm=mxR D.n (λi=>Qy D.f λv=>hmB (D.BB i v))/\(∀ i,i<D.n->BBp f ds (pick gs (i+1)).flatten (D.BB i))/\Off (λk=>B0<=k/\k<w.heap.size) w' λW=>UnV W D cs:=by
 have dn:=hC.c1;have dm:=hC.c3;obtain⟨its,hits,c9,b4,ca⟩:=hI.its;rw[List.length_map]at c9 b4;have bs:Rd w 5 A gs.length (Qf gs.length xc):=by have:=hI.rd;rwa [List.length_map]at this
 have bl:∀ {i},i<gs.length->∃ D Q T dc pc tc ts,InF w f ds ((gs.map λg=>Qd f (Jr g)).getD i um0) (xc i) D Q T dc pc tc ts:=λhi=>(hI.el _ (by rw[List.length_map];exact hi)).inF;have b3:∀ i,i<gs.length->(xc i).length=5:=λi hi=>by obtain⟨D,Q,T,dc,pc,tc,ts,h⟩:=bl hi;rw[h.e];rfl
 have bf:∀ {W:World} (hx:Ext w W) {i:Nat} (hi:i<gs.length) {j:Nat} {u:Value},(xc i)[j]?=some u->W.cell? ((adr A (i*5)).add j)=some u:=λhx i hi j u hu=>by
  have hj:j<5:=by
   rcases Nat.lt_or_ge j 5 with h'|h'
   .exact h'
   rw[List.getElem?_eq_none (by rw[b3 i hi];omega)]at hu;cases hu
  rw[Xx];exact(bs.ext hx).cell (by rw[Yk b3 hi hj];exact hu)
 have bw:IntKind.i64.wrap (1*2^min ((gs.length:Int)).toNat IntKind.i64.bits)=((2^gs.length:Nat):Int):=by
  have:gs.length=1∨gs.length=2∨gs.length=3:=om
  rcases this with h|h|h<;>rw[h]<;>rfl
 have em:2^gs.length<=8:=Nat.pow_le_pow_right (show 0<2 by omega) dm;have en:2<=2^gs.length:=Nat.pow_le_pow_right (show 0<2 by omega) dn;refine enE Tryz.func6 Tryz.ntmps6 ?_;refine Jv Vc ?_;intro w1 b2 ba du bi;refine clR (hC.hs.meet_any hds (hI.ext ba)) ?_;rintro u w2 ⟨db,d6,rfl,au⟩;obtain⟨_,_,_,_,_,_,_,hF⟩:=au.inF;have bh:=hF.e;subst bh;refine Jv Yo ?_;intro w3 b5 da dt e1;refine Qp e1 ?_;intro w4 ed er d9;have bn:Ext w2 w4:=d9 w2 da dt;have ae:=db.trans bn;refine Xq (λw=>Qyq w) ?_;intro w5 b7 bm dq e0;refine ρ ?_;have dv:OwnM 45 5 (IxG f ds gs) (λk=>k=b2∨(B0<=k/\k<w.heap.size)) w5 w4.heap.size (.slice (some ⟨b7,0,none⟩) 0 0) []:=⟨[],rfl,e0.own (n:=0) dq rfl (Nat.zero_le _),λp hp=>by cases hp⟩;refine Xe (fun (s:Nat) (xv:Value) (st:Int)=>[(0,.slice A gs.length c),(2,.pointer (some ⟨b2,0,none⟩)),(7,xv),(8,.int .i64 st),(9,.int .i64 (s:Int))])
  (λs xv st w'=>1<=s/\s<=2^gs.length/\Ext w1 w'/\w4.heap.size<=w'.heap.size/\∃ Xd:List IxD,OwnM 45 5 (IxG f ds gs) (λk=>k=b2∨(B0<=k/\k<w.heap.size)) w' w4.heap.size xv Xd/\Xd.length=s-1/\∀ i,i<s-1->(Xd.getD i Vg).s=i+1) (λs _ _=>2^gs.length-s) 1 (.slice (some ⟨b7,0,none⟩) 0 0) 0 sB
  ⟨nR _,om,ae.trans bm,bm.size,[],dv,rfl,λi hi=>absurd hi (Nat.not_lt_zero i)⟩ ?_
 rintro s xv st w6 ⟨df,ej,G,az,Xd,hO,aj,ck⟩;have Z:=ba.trans G;refine ρ ?_;refine Jxh rfl rfl om rfl ?_;refine Go.Wk.kv 32 (congrArg (Value.int .i64) bw) ?_;refine ciR (λh=>?_) (λh=>?_)
 .have ls:s<2^gs.length:=by have:=oT h;omega
  clear h;refine Xq (λw=>Qyp w) ?_;intro w7 e3 ac cj an;refine ρ ?_;refine Qh (fun (i:Nat) (mv:Value)=>[(0,.slice A gs.length c),(2,.pointer (some ⟨b2,0,none⟩)),(7,xv),(8,.int .i64 st),(9,.int .i64 (s:Int)),(10,mv),(37,.slice A gs.length c),(38,.int .i64 (gs.length:Int)),(39,.int .i64 (i:Int))])
   (λi mv w'=>i<=gs.length/\Ext w6 w'/\w'.ownsRow w6.heap.size 40 5 mv (Yg its s i).length (Jd (Yg its s i))) (λi _=>gs.length-i) 0 (.slice (some ⟨e3,0,none⟩) 0 0) sB
   ⟨Nat.zero_le _,ac,an.own (n:=0) cj rfl (Nat.zero_le _)⟩ ?_
  rintro i mv w8 ⟨hi,ad,a1⟩;have af:=Z.trans ad;refine ciR (λh=>?_) (λh=>?_)
  .have li:i<gs.length:=by have:=oT h;omega
   clear h;obtain⟨D,Q,T,dc,pc,tc,ts,dx⟩:=bl li;have bc:=dx.e;refine Qs 5 i (bs.ext af) li ?_;refine Ja (cs:=[.int .i64 (((gs.map λg=>Qd f (Jr g)).getD i um0).N:Int),.int .i64 (f:Int),.slice D ds.length dc,.slice Q ((gs.map λg=>Qd f (Jr g)).getD i um0).perm.length pc,.slice T ((gs.map λg=>Qd f (Jr g)).getD i um0).ats.length tc]) (λj u hu=>bf af li (by rw[bc];exact hu)) ?_;refine Jv Yo ?_;intro w9 f0 ab ch cy;refine Qp cy ?_;intro a3 ay ai O;have a4:Ext w8 a3:=O w8 ab ch;refine ρ ?_;refine Yu rfl rfl om rfl ?_;refine ρ ?_;have C:=ad.trans a4;have b9:i<its.length:=om
   have di:its[i]=(xc i,(gs.map λg=>Qd f (Jr g)).getD i um0):=by rw[<-b4 i li,Ql _ its b9]
   refine ci (λh=>?_) (λh=>?_)
   .have hb:s.testBit i=true:=(Jtw s om i om).symm.trans h;clear h;refine Jl ay ?_;refine Xq (Uw _ _ _ _ _ _ _ _ _ _ _) ?_;intro a9 eu J eb cr;have ek:(Yg its s i).length<=3:=by
     have:=(Jhv (l:=its) (s:=s) i om).length_le;rw[List.length_take]at this;omega
    obtain⟨_,_,_,_,c6⟩:=Jy a1;refine ρ ?_;refine apb (m':=1) (news:=xc i) Jjr (Jk (Jk a1 a4) J) (by rw[bc];exact cr.rd (n:=1) rfl) ?_ (by unfold maxLen;omega) om (C.trans J).size ?_
    .rw[bc];intro u hu;simp only[List.mem_cons,List.not_mem_nil,or_false]at hu;rcases hu with rfl|rfl|rfl|rfl|rfl<;>rfl
    intro d5 b8 c7 cc _;refine ρ ?_;refine Qk (i+1) d5 sO ⟨li,Qt (C.trans J) cc (λg e=>(c6 g e).1),?_⟩ om;rw[Jht b9,if_pos hb,di,List.length_append];have e:Jd (Yg its s i++[(xc i,(gs.map λg=>Qd f (Jr g)).getD i um0)])=Jd (Yg its s i)++xc i:=by simp[Jd]
    rw[e];exact c7
   have hb:¬ s.testBit i=true:=λe=>by rw[(Jtw s om i om).symm.trans h]at *;cases e
   clear h;refine ρ ?_;refine Qk (i+1) mv sO ⟨li,C,?_⟩ om;rw[Jht b9,if_neg hb];exact Jk a1 a4
  have dj:i=its.length:=by have:=oF h;omega
  clear h;rw[dj]at a1;have bz:(pick its s).map (·.2)=(pick gs s).map λg=>Qd f (Jr g):=by rw[<-Qql,hits,Qql]
  have c2:(pick its s).length=(pick gs s).length:=by have:=congrArg List.length bz;simpa using this
  change w8.ownsRow w6.heap.size 40 5 mv (pick its s).length (Jd (pick its s)) at a1
  rw[c2]at a1;obtain⟨MA,mc,rfl,eo,c6⟩:=Jy a1;have dw:InsM w8 MA f ds ((pick gs s).map λg=>Qd f (Jr g)) λi=>((pick its s).getD i ([],um0)).1:=by
   rw[<-bz];refine InsM.of (by rw[c2];exact Rd.own a1) λp hp=>(ca p (pick_sub.subset hp)).ext af
  have bg:=hC.hp df ls;refine clR (bg.meet_any hds dw) ?_;rintro u w9 ⟨ab,d6,rfl,au⟩;obtain⟨D,Q,T,dc,pc,tc,ts,dz⟩:=id au.inF;have bh:=dz.e;subst bh;refine Jv Yo ?_;intro a3 ez O cg cx;refine Qp cx ?_;intro a9 ax e9 J;have aa:Ext w9 a9:=J w9 O cg;have a5:=(ad.trans ab).trans aa;have ag:=Z.trans a5;refine Jl ax ?_;refine clR (Qyj (hTB.ext ag) (λp hp=>hC.pok p hp) hds bg.fne bg.c4 ⟨_,rfl,au.ext aa⟩) ?_;rintro u b8 ⟨br,x,sn,kf,pf,BB,tot,rfl,am,ah,cp⟩;obtain⟨XA,xd,YA,yd,ZA,zd,UA,ud,tv,ei,eh,rfl,_,_,_,_,_,_,dd,_⟩:=id am.ix.ex;obtain⟨TA,d4,rfl,_⟩:=id dd;refine Jv Ih ?_;intro eg ey bq ce cw;refine Qp cw ?_;intro d3 aw e8 bp;have aq:Ext b8 d3:=bp b8 bq ce;refine Jl aw ?_;refine Xq (bs1Ix _ _ _ _ _ _ _ _ _ _ _ _ _ _ _) ?_;intro d2 et bo ea cq;have a7:=aq.trans bo;have o:=(a5.trans br).trans a7;have bb:=Z.trans o;obtain⟨PA,ao,rfl,c5,ar⟩:=hO.form;have d7:=bi.lt;have cz:=G.size
  have e4:=a5.size;have ee:=ae.size;have ec:=hTB.le;have hΦ:Off (λk=>(k=b2∨(B0<=k/\k<w.heap.size))∨(Value.slice PA Xd.length ao).ownBlock=some k) d2 (λu=>IxG f ds gs u [.slice XA f xd,.slice YA f yd,.slice ZA f zd,.slice UA f ud,.slice TA (Jj tot).length d4] ⟨s,kf,pf,BB,tot⟩):=λW hW=>by
   have e5:=ag.size;refine⟨am.on ((ah.ext a7) W (hW.mono λk _ hk=>?_)) ⟨B0,(hTB.ext bb).gr hW λk hk h=>?_⟩,cp⟩
   .rcases hk with(hk|hk)|hk
    .show k<a9.heap.size;omega
    .show k<a9.heap.size;omega
    have:=(ar k hk).2;show k<a9.heap.size;omega
   rcases h with(h|h)|h
   .omega
   .omega
   have:=(ar k h).1;have:=ba.size;omega
  have e6:Xd.length<=7:=om
  refine ρ ?_;refine apM EX5 (Φ:=IxG f ds gs) (hO.ext o) cq rfl (λu hu=>?_) hΦ om om (nL az o.size) ?_
  .simp only[List.mem_cons,List.not_mem_nil,or_false]at hu;rcases hu with rfl|rfl|rfl|rfl|rfl<;>rfl
  intro d0 d1 co b6 e7;have ap:Ext w1 d1:=(GrN.by (N:=λk=>(Value.slice PA Xd.length ao).ownBlock=some k) b6 λk hk=>hk).old (G.trans o) λk hk=>by have:=(ar k hk).1;omega
  refine ρ ?_;refine Xj (s+1) d0 _ sO ⟨om,om,ap,Nat.le_trans (nL az o.size) b6.size,_,co,by rw[List.length_append,aj];simp;omega,λi hi=>?_⟩ om;rcases Nat.lt_or_ge i (s-1) with h1|h1
  .rw[List.getD,List.getElem?_append_left om];exact ck i h1
  have:i=s-1:=om
  subst this;rw[List.getD,List.getElem?_append_right om,aj];simp;omega
 have de:s=2^gs.length:=by have:=oF h;omega
 clear h;subst de;obtain⟨ps,e2,b1,dg⟩:=hO;subst e2;rw[List.length_map]at aj;obtain⟨PA,ao,rfl,c5,ar⟩:=Jy b1;have cb:∀ i,i<ps.length->(ps.map (·.2)).getD i Vg=(ps.getD i ([],Vg)).2:=λi hi=>by simp[List.getD,hi]
 obtain⟨D,hD⟩:∃ D:UD,D=⟨gs.length,f,ds,λs=>Xl (pick gs s).flatten,Zl ds gs,λi=>(ps.getD i ([],Vg)).1,λi=>(ps.getD i ([],Vg)).2.kf,λi=>(ps.getD i ([],Vg)).2.pf,λi=>(ps.getD i ([],Vg)).2.BB,λi=>(ps.getD i ([],Vg)).2.tot,mxR ps.length (λi=>Qy f λv=>hmB ((ps.getD i ([],Vg)).2.BB v))⟩:=⟨_,rfl⟩;have a8:D.n=ps.length:=by rw[hD,aj];rfl
 have dh:∀ s,(Xl (pick gs s).flatten).length<=5000:=λs=>Jnq hC.pok;have ak:∀ i,i<ps.length->Off (λk=>k=b2∨(B0<=k/\k<w.heap.size)) w6 λW=>IxA W (.agg (ps.getD i ([],Vg)).1.toArray) f ds (ps.getD i ([],Vg)).2.kf (ps.getD i ([],Vg)).2.pf (ps.getD i ([],Vg)).2.BB (ps.getD i ([],Vg)).2.tot (Xl (pick gs (i+1)).flatten)/\BBp f ds (pick gs (i+1)).flatten (ps.getD i ([],Vg)).2.BB:=λi hi W hW=>by
  have h1:=(dg _ (getD_mem' ([],Vg) ps hi)).2 W (hW.mono λk _ hk=>.inl hk);have h2:=ck i om;rw[cb i hi]at h2;unfold IxG at h1;rw[h2]at h1;exact h1
 have am:=λi hi=>(ak i hi).here.1;have a2:PreU w6 D PA:=by
  rw[hD];refine⟨?_,λi hi=>am i (by have h:i<2^gs.length-1:=hi;omega),hC.unp,λi hi=>Qzh (g:=λi=>Qy f λv=>hmB ((ps.getD i ([],Vg)).2.BB v)) (by have h:i<2^gs.length-1:=hi;omega),?_,dh⟩
  .have h1:=Rd.own b1;rw[Jms Vg]at h1;show Rd w6 5 PA (2^gs.length-1) (Qf (2^gs.length-1) _);rw[<-aj];exact h1
  refine Qxg λi hi=>?_;have c8:=am i hi;have h1:=Jsx (g:=λv=>hmB ((ps.getD i ([],Vg)).2.BB v)) (B:=65536) (λv=>Xqb λb hb=>c8.hb v b hb) f;have h2:=c8.ip.f32;have h3:f*65536<=32*65536:=nO _ h2;omega
 have cn:=Qfv (mc:=ao) a2;rw[a8,show D.k=gs.length by rw[hD]]at cn;refine clR cn ?_;rintro u w7 ⟨ac,DA,dc,NA,nc,SA,sl,sc,rfl,dl,dk,ah⟩;refine Jv Vc ?_;intro w8 ew d8 cd cv;refine Qp cv ?_;intro w9 bj ep ab;have a6:Ext w7 w9:=ab w7 d8 cd;refine Jl bj ?_;refine Qp (bi.ext ((G.trans ac).trans a6)) ?_;intro a3 an ai O;have be:GrN (λk=>k=b2) w6 a3:=(GrN.ext (ac.trans a6)).trans (GrN.by ai λj hj=>by injection hj with hj;exact hj.symm);have bd:GrN (λk=>k=b2) w7 a3:=(GrN.ext a6).trans (GrN.by ai λj hj=>by injection hj with hj;exact hj.symm);have d7:=bi.lt;have cz:=G.size;have av:GrN (λk=>k=b2∨(B0<=k/\k<w.heap.size)) w6 a3:=be.mono λk _ h=>.inl h;have ef:=Z.size;have cm:Off (λk=>B0<=k/\k<w.heap.size) a3 λW=>UnV W D [.int .i64 (D.k:Int),.int .i64 (D.f:Int),.slice DA D.f dc,.slice NA D.n nc,.slice SA sl sc]:=λW hW=>by
  obtain⟨k1,k2,k3⟩:=ah W ((bd.mono λk _ hk=>by show k<w6.heap.size;omega).trans (hW.mono λk _ hk=>by show k<w6.heap.size;omega));rw[<-a8]at k2;exact⟨⟨DA,dc,NA,nc,SA,sl,sc,rfl,dl,dk,k1,k2,k3⟩,λi hi=>by rw[a8]at hi;have:=(ak i hi W (av.trans (hW.mono λk _ h=>.inr h))).1;rw[hD];exact this,a2.up,a2.hm,a2.hl,a2.ml⟩
 refine ρ ?_;refine Jkd an ⟨O w ((Z.trans ac).trans a6) du,_,st,D,?_,cm.here,by rw[hD],by rw[hD],by rw[hD],by rw[hD],by rw[hD],?_,λi hi=>?_,cm⟩
 .rw[a8,hD]
 .rw[a8,hD]
 rw[a8]at hi;rw[hD];exact(ak i hi).here.2
open Go.RowKit Pl Go.Wk _root_.Go.Proofs.Tryz
variable {c:Cse}{ats:List Atm}{A B C aA dA pA:Option Addr}{w:World}
def tt5: TT:=(22,{ desc:=.slice 69,esz:=6 })::(24,{ desc:=.slice 75,esz:=5 })::tt4
theorem Jsg: TOk prog tt5:=⟨⟨kr,kr,kr⟩,⟨kr,kr,kr⟩,Jsh⟩
instance (priority:=6000):Tab prog tt5:=⟨Jsg,mixed⟩
theorem ERin: ElT prog 24 75 5 88 (.agg #[.int .i64 0,.int .i64 0,.slice none 0 0,.slice none 0 0,.slice none 0 0]):=⟨underlying24,info_parts kr,rfl,by decide⟩
def c0: Cse:=⟨0,0,[],[],[],[]⟩
structure CsesV(w:World)(A:Option Addr)(l:List Cse)(xc:Nat->List Value): Prop where
 rd:Rd w 6 A l.length (Qf l.length xc)
 el:∀ i,i<l.length->CseV w (xc i) (l.getD i c0)
theorem CsesV.ext{w w':World}{A:Option Addr}{l:List Cse}{xc:Nat->List Value}(h:CsesV w A l xc)(hx:Ext w w'): CsesV w' A l xc:=⟨h.rd.ext hx,λi hi=>(h.el i hi).ext hx⟩
theorem CseOk.atm(h:CseOk c ats): (Xo c ats).ats.map toAtm=ats:=by
 have u:ats.length=c.m:=h.al;refine List.ext_getElem (by simp[Xo,u]) λi J C=>?_;have hi:i<c.m:=om
 have o:=h.vars hi;have j:=h.mka i (by grind [Cse.m]);have e:ats.getD i a0=ats[i]:=Ql a0 ats C;simp only[Xo,List.map_map,List.getElem_map,List.getElem_range,Function.comp,toAtm,rsA,e];rw[e]at j;have G:=j.vars;have D:=j.ar;rw[o.1,o.2.2.2];cases hat:ats[i] with
 | mk v a r=>
  grind
theorem Qkg{dc pc ac an:Nat}(h:CseOk c ats)(hD:BoolsV w (.slice dA c.ds.length dc) c.ds)(hP:IntsV w (.slice pA c.pm.length pc) c.pm)(hG:GV 3 AtG w (.slice aA an ac) ats):
  InC w (Zq c.F c.ds (Xo c ats)) [.int .i64 c.n,.int .i64 c.f,.slice dA c.ds.length dc,.slice pA c.pm.length pc,.slice aA an ac]:=by
 refine⟨.slice dA c.ds.length dc,.slice pA c.pm.length pc,.slice aA an ac,?_,hD,?_,?_⟩
 .rw[h.nN.1,h.fF.1];rfl
 .show IntsV w _ (nz (toN c.pm));rw[h.pm.2];exact hP
 show AtsV w _ ((Xo c ats).ats.map toAtm);rw[h.atm];exact Jfb hG
def RefG(w:World)(cs:List Value)(p:CsA): Prop:=∃ pA pn pc vA vc rA rc,cs=rinC (p.1.N:Int) (p.1.F:Int) pA pn pc vA vc rA rc p.1.m/\RInM w vA rA p.1.m p.1.vars p.1.crs
def InG(f:Nat)(ds:List Bool)(w:World)(cs:List Value)(p:CsA): Prop:=InC w (Zq f ds (Xo p.1 p.2)) cs
theorem Xwg(n f:Int)(A B C:Option Addr)(a b c a' b' c':Nat)(w:World): (Instr.buildSlice 24 1 #[(0,.agg #[.int .i64 n,.int .i64 f,.slice A a a',.slice B b b',.slice C c c'])]).run prog w=.ok (.slice (some ⟨w.heap.size,0,none⟩) 1 1) (w.alloc (.cells [Value.int .i64 n,.int .i64 f,.slice A a a',.slice B b b',.slice C c c'].toArray 75)):=kr
theorem Ko{n f:Int}{a b c a' b' c':Nat}: ∀ u∈[Value.int .i64 n,.int .i64 f,.slice A a a',.slice B b b',.slice C c c'],u.oneCell'=true:=λu i=>by
 simp only[List.mem_cons,List.not_mem_nil,or_false]at i;rcases i with rfl|rfl|rfl|rfl|rfl<;>rfl
theorem Qdc: Qa prog 69=some (.agg #[.int .i64 0,.int .i64 0,.slice none 0 0,.slice none 0 0,.slice none 0 0,.slice none 0 0]):=kr
theorem Qss{c:Nat}{l:List Cse}{xc:Nat->List Value}(hL:CsesV w A l xc)(hfit:∀ c∈l,∀ i,i<c.rss.length->∀ r∈c.rss.getD i [],∀ u∈r,Xs u):
  Ret prog 4 [.slice A l.length c] w λu w'=>Ext w w'/\(u=.tuple #[.slice none 0 0,.slice none 0 0,.bool false] ∨
   ∃(ps:List CsA) (iv rv:Value),u=.tuple #[iv,rv,.bool true]/\1<=l.length/\l.length<=3/\ps.map (·.1)=l/\(∀ p∈ps,CsM (l.getD 0 c0).F (l.getD 0 c0).ds p)/\GV 5 (InG (l.getD 0 c0).F (l.getD 0 c0).ds) w' iv ps/\GV 5 RefG w' rv ps/\∃ N,OwnM 40 5 (InG (l.getD 0 c0).F (l.getD 0 c0).ds) N w' w.heap.size iv ps):=by
 have bn:∀ i,i<l.length->(xc i).length=6:=λi hi=>by
  obtain⟨dA,dc,pA,pc,vA,vc,rA,rc,e,_⟩:=hL.el i hi;rw[e];rfl
 have a2:∀ {W:World} (hx:Ext w W) {i:Nat} (hi:i<l.length) {j:Nat} {u:Value},(xc i)[j]?=some u->W.cell? ((adr A (i*6)).add j)=some u:=λhx i hi j u hu=>by
  have hj:j<6:=by grind
  rw[Xx];exact(hL.rd.ext hx).cell (by rw[Yk bn hi hj];exact hu)
 obtain⟨az,bq⟩:=id hL;refine enE func4 ntmps4 ?_;refine ρ ?_;refine Ue (fun (t:Bool)=>[(18,.bool t),(0,.slice A l.length c),(2,.slice none 0 0),(3,.slice none 0 0),(4,.bool false)]) (λt w'=>w'=w/\(t=false->1<=l.length/\l.length<=3)) ?_ ?_
 .refine ki 14 (λh=>?_) (λh=>?_)
  .refine ρ ?_;exact Jp true sB ⟨rfl,λe=>by cases e⟩
  have h1:=oF h;refine ρ ?_;refine Jp _ sB ⟨rfl,λe=>?_⟩;grind
 rintro t w' ⟨rfl,ht⟩;refine ci (λh=>?_) (λh=>?_)
 .refine ρ ?_;exact Vl ⟨Ext.refl _,.inl rfl⟩
 obtain⟨a6,cx⟩:=ht h;clear ht h;obtain⟨de,dd,du,dt,dm,dl,dq,dn,cd,da,e6,e4,e5,dx,e3⟩:=id (bq 0 a6);obtain⟨m,hm⟩:∃ m,m=l.length:=⟨_,rfl⟩;refine ρ ?_;refine Xe (fun (i:Nat) (iv rv:Value)=>[(0,.slice A l.length c),(2,.slice none 0 0),(3,.slice none 0 0),(4,.bool false),(5,iv),(6,rv),(19,.slice A l.length c),(20,.int .i64 (l.length:Int)),(21,.int .i64 (i:Int))])
  (λi iv rv w1=>i<=l.length/\Ext w' w1/\w'.heap.size<=w1.heap.size/\∃ ps:List CsA,ps.map (·.1)=l.take i/\(∀ p∈ps,CsM (l.getD 0 c0).F (l.getD 0 c0).ds p) /\
   OwnM 40 5 (InG (l.getD 0 c0).F (l.getD 0 c0).ds) (λk=>False∨rv.ownBlock=some k) w1 w'.heap.size iv ps/\OwnM 75 5 RefG (λk=>False∨iv.ownBlock=some k) w1 w'.heap.size rv ps/\∀ g,iv.ownBlock=some g->¬ rv.ownBlock=some g)
  (λi _ _=>l.length-i) 0 (.slice none 0 0) (.slice none 0 0) sB ⟨Nat.zero_le _,Ext.refl _,Nat.le_refl _,[],rfl,(λp hp=>by cases hp),OwnM.nil _ _,OwnM.nil _ _,(λg e=>by cases e)⟩ ?_
 rintro i iv rv w1 ⟨hi,a5,ad,ps,dw,bl,ak,b4,br⟩;refine ciR (λh=>?_) (λh=>?_)
 .have li:i<l.length:=by have:=oT h;omega
  clear h;obtain⟨o,d2⟩:∃ o,o=l.getD i c0:=⟨_,rfl⟩;have ag:=bq i li;rw[<-d2]at ag;obtain⟨dA,dc,pA,pc,vA,vc,rA,rc,cb,hD,hP,hV,hR,hn,hf⟩:=id ag;refine Qs 6 i (az.ext a5) li ?_;refine Ja (cs:=[.int .i64 o.n,.int .i64 o.f,.slice dA o.ds.length dc,.slice pA o.pm.length pc,.slice vA o.vs.length vc,.slice rA o.rss.length rc]) (λj u hu=>a2 a5 li (by rw[cb];exact hu)) ?_;refine Jv Qdc ?_;intro w2 b8 bd d4 c8;refine Qp c8 ?_;intro w3 aw e2 cq;have a9:Ext w1 w3:=cq w1 bd d4;have bi:=a5.trans a9;refine Jl aw ?_;rw[cb]at ag;refine clR (Qfk ag bi) ?_;rintro u w4 ⟨ax,cg,bb,aA,ce,ba,ac,an,ok,rfl,db,d6,cw,_⟩;refine Jv Yo ?_;intro w5 b9 cp d3 c4;refine Qp c4 ?_;intro w6 c3 e1 co;have a8:Ext w4 w6:=co w4 cp d3;have am:=(a9.trans ax).trans a8;have bh:=a5.trans am;have c7:=(aw.ext ax).ext a8;have a7:Ext w6 w6.drew:=(Ext.refl w6).drew;have aa:=bh.trans a7;have be:=am.trans a7;have av:=c7.ext a7
  obtain⟨_,_,eD,e9,d8,d9⟩:=id hD;injection eD with eD1 _ eD2
  subst eD1;subst eD2;obtain⟨_,_,eE,e8,e7,d7⟩:=id da;injection eE with eE1 _ eE2
  subst eE1;subst eE2;refine drR (scq 26 [4,23]) ?_;cases ok with
  | false=>
   refine ρd ?_;refine ρ ?_;exact Vl ⟨aa,.inl rfl⟩
  | true=>
   obtain⟨b1,ats,d5,bm,hmk,bs⟩:=cw rfl;refine Qz (cs:=[.int .i64 o.n,.int .i64 o.f,.slice dA o.ds.length dc,.slice pA o.pm.length pc,.slice vA o.vs.length vc,.slice rA o.rss.length rc]) (λj u hu=>av.at hu) ?_;refine Jh (Xxb (ag.ext aa)) ?_;rintro u w7 ⟨a4,fw,rfl,bp,_⟩;refine⟨a4,?_⟩;have G:=aa.trans a4;have ah:=av.ext a4;cases fw with
   | false=>
    refine ρd ?_;refine ρ ?_;exact Vl ⟨G,.inl rfl⟩
   | true=>
    refine Jz (ah.at (i:=1) rfl) ?_;refine Ve 6 0 (az.ext G) a6 ?_;refine Jz (a2 G a6 (j:=1) (u:=.int .i64 (l.getD 0 c0).f) (by rw[cd];rfl)) ?_;refine ρd ?_;refine dki 46 (λh=>?_) (λh=>?_)
    .refine ρd ?_;refine ρ ?_;exact Vl ⟨G,.inl rfl⟩
    have d0:o.f=(l.getD 0 c0).f:=bne_eq_false_iff_eq.1 h;clear h;refine Jz (ah.at (i:=2) rfl) ?_;refine Ve 6 0 (az.ext G) a6 ?_;refine Jz (a2 G a6 (j:=2) (u:=.slice de (l.getD 0 c0).ds.length dd) (by rw[cd];rfl)) ?_;refine Jh (Jmw (Rd.ext d9 G) (Rd.ext d7 G) d8) ?_;rintro u w8 ⟨rfl,a3⟩;refine⟨a3,?_⟩;have bg:=G.trans a3;have c6:=ah.ext a3;refine ρd ?_;refine ciR (λh=>?_) (λh=>?_)
    .refine ρ ?_;exact Vl ⟨bg,.inl rfl⟩
    have d1:o.ds=(l.getD 0 c0).ds:=by simpa using h
    clear h;have hC:CseOk o ats:=⟨bp rfl,b1,d5,hmk,bs trivial,hfit o (by grind)⟩;have hF:o.F=(l.getD 0 c0).F:=by unfold Cse.F;rw[d0]
    have cy:∀ {W:World},Ext w' W->GV 3 AtG W (.slice aA an ac) ats->InG (l.getD 0 c0).F (l.getD 0 c0).ds W [.int .i64 o.n,.int .i64 o.f,.slice cg o.ds.length ce,.slice bb o.pm.length ba,.slice aA an ac] (o,ats):=λhx hg=>by
     have:=Qkg hC (db.ext hx) (d6.ext hx) hg;grind [InG]
    obtain⟨IA,ic,rfl,dz,cz⟩:=ak.form;obtain⟨QA,qc,rfl,dv,bj⟩:=b4.form;have bf:=((be.trans a4).trans a3);have ai:Ext w8 w8.drew:=(Ext.refl w8).drew;have J:=bf.trans ai;have ao:=a5.trans J;have c5:=c6.ext ai;have c2:=(((c3.ext a7).ext a4).ext a3).ext ai;have l8:=c8.lt;have l9:=c4.lt;have z2:=bd.size;have z4:=ax.size;have dj:=a9.size;have n8:¬ ((Value.slice IA ps.length ic).ownBlock=some b8∨(Value.slice QA ps.length qc).ownBlock=some b8):=λh=>by grind
    have n9:¬ ((Value.slice IA ps.length ic).ownBlock=some b9∨(Value.slice QA ps.length qc).ownBlock=some b9):=λh=>by grind
    have cv:ps.length=i:=by grind [List.length,List.length_map,List.length_take]
    have bz:=ak.ext J;have bw:=b4.ext J;refine ρ ?_;refine drN (λk=>(Value.slice IA ps.length ic).ownBlock=some k∨(Value.slice QA ps.length qc).ownBlock=some k) 14 [(0,0),(0,1),(0,4),(0,5),(1,2),(1,3),(1,6),(1,7),(1,8),(0,9),(0,10)] kr ?_;refine ρn ?_;refine Xn (cs:=[.int .i64 o.n,.int .i64 o.f,.slice cg o.ds.length ce,.slice bb o.pm.length ba,.slice aA an ac]) (λW hg j u hu=>(Jb c2 hg n9).at hu) ?_;refine ρn ?_;refine Xn (cs:=[.int .i64 o.n,.int .i64 o.f,.slice dA o.ds.length dc,.slice pA o.pm.length pc,.slice vA o.vs.length vc,.slice rA o.rss.length rc]) (λW hg j u hu=>(Jb c5 hg n8).at hu) ?_;refine ρn ?_;refine nop ?_;refine bsl (Uw _ _ _ _ _ _ _ _ _ _ _) ?_;intro ck eb C di ca;refine Jw (Js (GrN.ext C) ?_);refine nop ?_;have aj:=((((bm.ext a8).ext ((a7.trans a4).trans a3)).ext ai).ext C);refine apM Jjr (Φ:=InG (l.getD 0 c0).F (l.getD 0 c0).ds) (a:=(o,ats)) (bz.ext C) ca rfl Ko (λW hW=>cy (hW.old (ao.trans C) λk hk=>?_) (aj W (hW.mono λk _ hk=>?_))) om om (nL ad (J.trans C).size) ?_
    .grind
    .grind
    intro cm b6 au ae aq;refine Jw (Js (GrN.by ae λk hk=>.inl hk) ?_);have b3:=(bw.ext C).other ae aq λg e h=>br g h e;have af:∀ g,cm.ownBlock=some g->¬ (Value.slice QA ps.length qc).ownBlock=some g:=λg e h=>by
     rcases aq g e with h1|h1
     .exact br g h1 h
     have:=(bj g h).2;have:=(J.trans C).size;omega
    have a1:GrN (λk=>(Value.slice IA ps.length ic).ownBlock=some k) ck b6:=GrN.by ae λk hk=>hk
    have ay:Ext w' b6:=a1.old (ao.trans C) λk hk=>(cz k hk).1;refine ρn ?_;refine nop ?_;refine cl Qmw ?_;rintro u dk ⟨rfl,O⟩;refine Jw (Js (GrN.ext O) ?_);refine nop ?_;refine bsl (Xwg _ _ _ _ _ _ _ _ _ _ _) ?_;intro cj ea D dh c9;refine Jw (Js (GrN.ext D) ?_);refine nop ?_;have ab:=(ay.trans O).trans D;obtain⟨df,cn,rfl,dg,bo⟩:=au.form;have cr:o.rss.length=o.m:=by rw[<-hC.len];rfl
    refine apM ERin (Φ:=RefG) (a:=(o,ats)) ((b3.ext O).ext D) c9 rfl Ko (λW hW=>?_) om om (nL ad (nL (J.trans C).size (nL a1.size (O.trans D).size))) ?_
    .have bc:Ext w' W:=hW.old ab λk hk=>by grind
     refine⟨pA,o.pm.length,pc,vA,vc,rA,rc,?_,CseV.rin (hV.ext bc) (hR.ext bc) hC⟩;show _=rinC (o.N:Int) (o.F:Int) pA o.pm.length pc vA vc rA rc o.m;rw[<-hC.nN.1,<-hC.fF.1,cr];rfl
    intro b7 ch c1 ar ap;have Z:GrN (λk=>(Value.slice QA ps.length qc).ownBlock=some k) cj ch:=GrN.by ar λk hk=>hk
    refine Jw (Js (Z.mono λk _ hk=>.inr hk) ?_);have b5:=((au.ext O).ext D).other ar ap af;have b2:∀ g,(Value.slice df (ps++[(o,ats)]).length cn).ownBlock=some g->¬ b7.ownBlock=some g:=λg e h=>by
     rcases ap g h with h1|h1
     .exact af g e h1
     have:=(bo g e).2;have:=(O.trans D).size;omega
    refine ρn ?_;refine ρ ?_;refine Xj (i+1) _ b7 sO ⟨li,Z.old ab λk hk=>(bj k hk).1,Nat.le_trans (nL ad (nL (J.trans C).size (nL a1.size (O.trans D).size))) Z.size,ps++[(o,ats)],?_,λp hp=>?_,b5,c1,b2⟩ om
    .grind [Xz,c0]
    rcases List.mem_append.1 hp with hp|hp
    .exact bl p hp
    rw[List.mem_singleton.1 hp];exact⟨hC,hF,d1⟩
 have e0:i=l.length:=by grind
 clear h;have cv:ps.length=i:=by grind
 refine ρ ?_;exact Vl ⟨a5,.inr ⟨ps,iv,rv,rfl,a6,cx,by grind,bl,ak.gv om,b4.gv om,_,ak⟩⟩
open Go.RowKit Pl Go.Wk
variable {i k m n:Nat}
theorem cmpN_z: Vq n m=0↔n=m:=by
 unfold Vq;grind
theorem Qbq{w:World}{v:Value}(hv:NatV w v n)(hk:k<9223372036854775808):
  Ret Tryz.prog 27 [v,.int .i64 (k:Int)] w λu w'=>u=.bool (decide (n=k))/\Ext w w':=by
 obtain⟨O,J,rfl,_⟩:=id hv;refine enE Tryz.func27 Tryz.ntmps27 ?_;refine ρ ?_;rw[Kj (z:=(k:Int)) om];refine cl (Kw k om w) ?_;rintro o G ⟨C,_,i⟩;refine clR (Gg (hv.ext i) C) ?_;rintro _ D ⟨rfl,j⟩;refine ρ ?_;refine Jq ⟨?_,i.trans j⟩;rw[show(Vq n k == 0)=decide (n=k) by rw[Bool.eq_iff_iff,beq_iff_eq,decide_eq_true_iff,cmpN_z]]
def sgl(ps:List CsA): List (List CsA):=ps.map λp=>[p]
theorem Jxs(ps:List CsA): (sgl ps).length=ps.length:=List.length_map _
theorem RefG.ext{w w':World}{cs:List Value}{p:CsA}(h:RefG w cs p)(hx:Ext w w'): RefG w' cs p:=by
 obtain⟨pA,pn,pc,i,vc,j,rc,e,h⟩:=h;exact⟨pA,pn,pc,i,vc,j,rc,e,h.ext hx⟩
theorem Jmq(ps:List CsA)(f:Nat)(ds:List Bool)(h:∀ p∈ps,CsM f ds p): (sgl ps).flatMap Xl=ps.flatMap λp=>p.1.ans:=by grind [sgl,List.flatMap_map,Qvq]
section
variable {w:World} {ps:List CsA} {f:Nat} {ds:List Bool}
theorem Qlk{ps:List CsA}(h:i<ps.length): Xl ((sgl ps).getD i [])=(ps[i]).1.ans:=by grind [sgl,List.getD,Qvq]
end
open Go.RowKit Pl Go.Wk _root_.Go.Proofs.Tryz
variable {ds:List Bool}{ps:List CsA}{B0 f:Nat}{w:World}
def tt6: TT:=(77,{ desc:=.slice 2,esz:=1 })::tt5
theorem Qgh: TOk prog tt6:=⟨⟨kr,kr,kr⟩,Jsg⟩
instance (priority:=7000):Tab prog tt6:=⟨Qgh,mixed⟩
def exU(n:Int): Cse:=⟨1,1,[false],[],[[0]],[[[nV n],[nV 3]]]⟩
theorem Xxg{n:Int}(hn:n=1∨n=2){m:List Row}(hset:Zs [] [[nV n],[nV 3]] m)(hm:m.length<=65536)(hsub:∀ x∈m,x∈[[nV n],[nV 3]]): CseOk (exU n) [⟨[0],1,m⟩]:=by
 have D:(0:Int)<=1:=by decide
 have J:(1:Int)<=32:=by decide
 have Z:(1:Int)<=1:=by decide
 refine⟨⟨λi hi=>?_,?_,.inl (show(1:Int)<=6 by decide),show 1<=5 by decide,show 1<=5 by decide⟩,rfl,rfl,λi hi=>?_,⟨D,J,D,Z,rfl,rfl,(λv o=>by cases o),List.Pairwise.nil,D,J,show 1<=32 by decide,λa O=>?_,λv o=>?_⟩,λi hi r G u hu=>?_⟩
 .grind [exU]
 .grind [Jf,exU]
 .have:i=0:=by simp[exU]at hi;exact hi
  subst this;refine⟨rfl,rfl,show 1<=32 by decide,λr G=>?_,hm,hsub,λ_=>hset⟩;have C:r∈[[nV n],[nV 3]]:=G;simp only[List.mem_cons,List.not_mem_nil,or_false]at C;rcases C with rfl|rfl<;>exact⟨rfl,rfl⟩
 .rw[List.mem_singleton.1 O];refine⟨λj h0 hj=>?_,λv o=>?_,rfl⟩
  .grind
  have:v=0:=List.mem_singleton.1 o;subst this;exact⟨Int.le_refl _,show(0:Int)<1 by decide⟩
 .have:v=0:=by have:(v:Int)<1:=o;omega
  subst this;exact⟨_,List.mem_singleton.2 rfl,List.mem_singleton.2 rfl⟩
 repeat grind [exU,nV,List.mem_singleton.1,Qsc]
theorem Qwg: (exU 1).ans=[[nV 1],[nV 3]]:=by decide
theorem Qwf: (exU 2).ans=[[nV 2],[nV 3]]:=by decide
def exW: List Row:=[[nV 1],[nV 2],[nV 3]]
theorem Xxf: Lt [false] exW:=by unfold Lt;decide
theorem exW_a: Qc [false] exW [nV 3]=2:=by decide
structure ExU(ps:List CsA): Prop where
 len:ps.length=2
 ok:∀ p∈ps,CsM 1 [false] p
 p0:(ps.getD 0 (c0,[])).1=exU 1
 p1:(ps.getD 1 (c0,[])).1=exU 2
theorem ExU.two(h:ExU ps): ∃ a b,ps=[(exU 1,a),(exU 2,b)]:=by
 obtain⟨i,_,o,j⟩:=h;match ps,i with
 | [(c,a),(d,b)],_=>
  grind
theorem Jdp(h1:1<=ps.length)(h3:ps.length<=3)(h:∀ p∈ps,CsM f ds p): CsU (sgl ps) f ds:=by
 have j:(sgl ps).flatten=ps:=by simp[sgl,List.flatten_eq_flatMap,List.flatMap_map]
 refine⟨by rw[Jxs];exact h1,by rw[Jxs];exact h3,by rw[j];omega,λg i=>?_,λg i p hp=>?_⟩
 .obtain⟨p,_,rfl⟩:=List.mem_map.1 i;simp
 obtain⟨q,o,rfl⟩:=List.mem_map.1 i;grind
theorem CsU.mems{gs:List (List CsA)}(h:CsU gs f ds)(q:Row): Vk (λi=>decide (q∈Xl (pick gs (2^i)).flatten)) gs.length=Vk (Jkc gs q) gs.length:=Xqh λi hi=>by
 unfold Jkc;rw[List.getD,List.getElem?_eq_getElem hi];exact decide_eq_decide.2 (h.one hi q)
theorem ExU.any(h:ExU ps): Zl [false] (sgl ps)=exW:=by
 have hs:=Jjq [false] (sgl ps);obtain⟨a,b,rfl⟩:=h.two;refine Kx hs.1 Xxf λy=>?_;rw[hs.2 y,Jmq _ 1 [false] h.ok];grind [Qwg,Qwf,exW]
theorem ExU.mem(h:ExU ps): Vk (Jkc (sgl ps) [nV 3]) 2=3:=by
 refine(Qsk (k:=2)).2 λi hi=>?_;unfold Jkc;rw[Qlk (by rw[h.len];exact hi),decide_eq_true_iff];obtain⟨a,b,rfl⟩:=h.two;grind [nV,exU,Qwg,Qwf]
theorem GV.insM{v:Value}(h:GV 5 (InG f ds) w v ps)(hp:∀ p∈ps,CsM f ds p): ∃ A c xc,v=.slice A ps.length c/\ps.length<=c/\InsM w A f ds (ps.map λp=>Xo p.1 p.2) xc:=by
 obtain⟨rs,A,c,e,rfl,O,G,o,D⟩:=h;subst e;have J:Jd (rs.map λq=>(q.1,Xo q.2.1 q.2.2))=Jd rs:=by simp[Jd,List.flatMap_map]
 have j:=InsM.of (w:=w) (A:=A) (f:=f) (ds:=ds) (ps:=rs.map λq=>(q.1,Xo q.2.1 q.2.2)) (by grind) λq C=>by
  obtain⟨r,u,rfl⟩:=List.mem_map.1 C;exact(D r u).2
 rw[List.map_map]at j;refine⟨A,c,λi=>((rs.map λq=>(q.1,Xo q.2.1 q.2.2)).getD i ([],um0)).1,by rw[List.length_map],by grind,?_⟩;rw[List.map_map];exact j
theorem Jtt(hp:∀ p∈ps,CsM f ds p): ((sgl ps).map λg=>Qd f (Jr g))=ps.map λp=>Xo p.1 p.2:=by
 unfold sgl;rw[List.map_map];refine List.map_congr_left λp i=>?_;obtain⟨o,j,_⟩:=hp p i;show Qd f [Xo p.1 p.2]=_;exact Qzk (by rw[<-j];exact o.uok.pm.fn)
theorem Xwp(n:Int)(w:World): (Instr.build 112 #[(0,.int .i64 1),(1,.int .i64 n)]).run prog w=.ok (nV n).val w:=Xwx n w
theorem Jvc(n:Int)(w:World): Ret prog 25 [.int .i64 n] w λu w'=>(∃ b,u=.slice (some ⟨b,0,none⟩) 1 1/\Blk w' b 112 (Jo [nV n]))/\Ext w w':=by
 refine enE func25 ntmps25 ?_;refine Zc (Xwp n w) ?_;refine Xq (Jkq _) ?_;intro o b i C j;refine ρ ?_;exact Jq ⟨⟨b,rfl,j⟩,i⟩
theorem bs2J'(a b:Int)(w:World): (Instr.buildSlice 77 2 #[(0,.int .i64 a),(1,.int .i64 b)]).run prog w=.ok (.slice (some ⟨w.heap.size,0,none⟩) 2 2) (w.alloc (.cells [Value.int .i64 a,.int .i64 b].toArray 2)):=kr
theorem bs2Rr(A B:Option Addr)(a b a' b':Nat)(w:World): (Instr.buildSlice 78 2 #[(0,.slice A a a'),(1,.slice B b b')]).run prog w=.ok (.slice (some ⟨w.heap.size,0,none⟩) 2 2) (w.alloc (.cells [Value.slice A a a',.slice B b b'].toArray 54)):=kr
theorem bs1Bl(a:Bool)(w:World): (Instr.buildSlice 28 1 #[(0,.bool a)]).run prog w=.ok (.slice (some ⟨w.heap.size,0,none⟩) 1 1) (w.alloc (.cells [Value.bool a].toArray 4)):=kr
theorem bs1Iu(a:Int)(w:World): (Instr.buildSlice 37 1 #[(0,.int .i64 a)]).run prog w=.ok (.slice (some ⟨w.heap.size,0,none⟩) 1 1) (w.alloc (.cells [Value.int .i64 a].toArray 3)):=kr
theorem Xvd(n f:Int)(A B:Option Addr)(a a' b b':Nat)(w:World): (Instr.build 40 #[(0,.int .i64 n),(1,.int .i64 f),(2,.slice A a a'),(4,.slice B b b')]).run prog w=.ok (.agg #[.int .i64 n,.int .i64 f,.slice A a a',.slice none 0 0,.slice B b b']) w:=kr
theorem zRel1: Qa prog 80=some (.agg #[.int .i64 0,.slice none 0 0]):=kr
theorem Jpd(hTB:TB B0 w): Ret prog 5 [] w λu w'=>u=.bool true/\Ext w w':=by
 refine enE func5 ntmps5 ?_;refine Xq (bs2J' 1 2) ?_;intro w1 ch cq dm cb;refine ρ ?_;refine Qh (fun (i:Nat) (iv:Value)=>[(0,.bool false),(1,iv),(16,.slice (some ⟨ch,0,none⟩) 2 2),(17,.int .i64 2),(18,.int .i64 (i:Int))])
  (λi iv w'=>i<=2/\Ext w1 w'/\w1.heap.size<=w'.heap.size/\∃ ps:List CsA,ps.length=i/\(∀ p∈ps,CsM 1 [false] p)/\(∀ j,j<i->(ps.getD j (c0,[])).1=exU (j+1))/\OwnM 40 5 (InG 1 [false]) (λ_=>False) w' w1.heap.size iv ps) (λi _=>2-i) 0 (.slice none 0 0) sB
  ⟨Nat.zero_le _,Ext.refl _,Nat.le_refl _,[],rfl,(λp hp=>by cases hp),(λj hj=>absurd hj (Nat.not_lt_zero j)),OwnM.nil _ _⟩ ?_
 rintro i iv w2 ⟨hi,ay,b9,ps,b1,ae,bd,hO⟩;have aq:=cq.trans ay;refine ciR (λh=>?_) (λh=>?_)
 .have li:i<2:=by have:=oT h;omega
  clear h;have c2:Rd w2 1 (some ⟨ch,0,none⟩) 2 [Value.int .i64 1,.int .i64 2]:=(cb.rd rfl).ext ay;have e0:i=0∨i=1:=om
  have cx:([Value.int .i64 1,.int .i64 2]:List Value)[i]?=some (.int .i64 ((i:Int)+1)):=by grind
  refine ixR i c2 li ?_;refine ldR (c2.cell cx) ?_;refine clR (Jvc ((i:Int)+1) _) ?_;rintro u w3 ⟨⟨df,rfl,bs⟩,ai⟩;refine clR (Jvc 3 _) ?_;rintro u w4 ⟨⟨de,rfl,br⟩,ab⟩;refine Xq (bs2Rr _ _ _ _ _ _) ?_;intro w5 db a6 dl bq;have az:RowsV w5 (.slice (some ⟨db,0,none⟩) 2 2) [[nV ((i:Int)+1)],[nV 3]]:=Qtc [(.slice (some ⟨df,0,none⟩) 1 1,[nV ((i:Int)+1)]),(.slice (some ⟨de,0,none⟩) 1 1,[nV 3])] bq (λp hp=>by
   simp only[List.mem_cons,List.not_mem_nil,or_false]at hp;rcases hp with rfl|rfl
   .exact Jln ((bs.ext ab).ext a6) (by show 1<=1100000;decide)
   exact Jln (br.ext a6) (by decide)) (by show 2<=1100000;decide)
  refine clR (Jbw (ar:=1) az) ?_;rintro u w6 ⟨aa,rv,e,rfl,⟨z,B,mm,dd,d9⟩,ba,bc⟩;have he:e=0:=ba (by decide) (λr hr=>by
   simp only[List.mem_cons,List.not_mem_nil,or_false]at hr;rcases hr with rfl|rfl<;>exact⟨rfl,rfl⟩) (by show 2<=65536;decide)
  obtain⟨_,_,ms,be,cw,b3,b5⟩:=bc he;have bb:=b5 (.inl (by show 2<=12;decide));subst d9;refine Jv zRel1 ?_;intro w7 b4 ah d2 d8;refine Qp d8 ?_;intro w8 ca e1 a9;have am:Ext w6 w8:=a9 w6 ah d2;refine Xq (bs1Bl false) ?_;intro w9 cg a2 dk bp;refine Xq (bs1Iu 0) ?_;intro ck ce G dj bo;have b7:=(ca.ext a2).ext G;refine Jl b7 ?_;refine Zc (Jdv _ _ _ _ _ _ _ _) ?_;refine Xq (λw=>Jyj _ _ _ _ _ _ _ _ _ _ rfl rfl rfl w) ?_;intro cj cd J di bn;refine Zc (Xvd _ _ _ _ _ _ _ _ _) ?_;refine Xq (Uw _ _ _ _ _ _ _ _ _ _ _) ?_;intro av e7 C dh bm;obtain⟨IA,ic,rfl,cz,cy⟩:=hO.form;have hC:CseOk (exU ((i:Int)+1)) [⟨[0],1,ms⟩]:=Xxg om bb cw b3;have ao:=((((ai.trans ab).trans a6).trans aa).trans am);have Z:=(((ao.trans a2).trans G).trans J).trans C;have dn:=ao.size;have z9:=a2.size;have dt:=G.size;have dq:=((ai.trans ab).trans a6).size;have hΦ:Off (λk=>False∨(Value.slice IA ps.length ic).ownBlock=some k) av (λu=>InG 1 [false] u [.int .i64 1,.int .i64 1,.slice (some ⟨cg,0,none⟩) 1 1,.slice none 0 0,.slice (some ⟨cd,0,none⟩) 1 1] (exU ((i:Int)+1),[⟨[0],1,ms⟩])):=λW hW=>by
   have b2:∀ {k:Nat},w2.heap.size<=k->¬ (False∨(Value.slice IA ps.length ic).ownBlock=some k):=λhk h=>by grind
   obtain⟨v,ev,cr⟩:=((((((be.ext am).ext a2).ext G).ext J).ext C)) W (hW.mono λk _ hk=>by grind);have cc:=congrArg (λv:Value=>match v with | .agg xs=>xs.toList|_=>[]) ev;simp only[List.cons.injEq,Value.int.injEq,true_and,and_true]at cc;obtain⟨ez,rfl⟩:=cc;have co:=Jb (((bp.ext G).ext J).ext C) hW (b2 om);have cn:=Jb ((bo.ext J).ext C) hW (b2 om);have cm:=Jb (bn.ext C) hW (b2 om);exact Qkg (c:=exU ((i:Int)+1)) (dA:=some ⟨cg,0,none⟩) (dc:=1) (pA:=none) (pc:=0) hC ⟨_,1,rfl,Nat.le_refl _,show 1<=1100000 by decide,co.rd rfl⟩ ⟨none,0,rfl,Nat.le_refl _,show 0<=1100000 by decide,Rd.nil⟩
    ⟨[([.slice (some ⟨ce,0,none⟩) 1 1,.int .i64 z,.slice B mm dd],⟨[0],1,ms⟩)],some ⟨cd,0,none⟩,1,rfl,rfl,Nat.le_refl _,show 1<=1100000 by decide,cm.rd rfl,λp hp=>by
     rw[List.mem_singleton.1 hp];exact⟨rfl,(.slice (some ⟨ce,0,none⟩) 1 1,.int .i64 z,.slice B mm dd),rfl,⟨_,1,rfl,Nat.le_refl _,show 1<=1100000 by decide,cn.rd rfl⟩,by rw[ez],cr⟩⟩
  refine ρ ?_;refine apM Jjr (Φ:=InG 1 [false]) (hO.ext Z) bm rfl Ko hΦ om om (nL b9 Z.size) ?_;intro cp b8 c4 bw dg;have a4:GrN (λk=>(Value.slice IA ps.length ic).ownBlock=some k) av b8:=GrN.by bw λk hk=>hk
  refine ρ ?_;refine Qk (i+1) cp sO ⟨li,a4.old (ay.trans Z) λk hk=>(cy k hk).1,Nat.le_trans b9 (nL Z.size a4.size),_,by grind,λp hp=>?_,λj hj=>?_,c4⟩ om
  .rcases List.mem_append.1 hp with hp|hp
   .exact ae p hp
   rw[List.mem_singleton.1 hp];exact⟨hC,rfl,rfl⟩
  repeat grind
 have d0:i=2:=by grind
 clear h;subst d0;have hE:ExU ps:=⟨b1,ae,bd 0 om,bd 1 om⟩;have c8:=Jdp (ps:=ps) om om ae;obtain⟨IA,ic,xc,rfl,cz,c5⟩:=GV.insM (hO.gv om) ae;rw[<-Jtt ae]at c5;have c9:=Jfv (c:=ic) (hTB.ext aq) c8 rfl c5;rw[Jxs]at c9;refine clR c9 ?_;rintro u w3 ⟨ai,cs,st,D,rfl,aj,c6,c7,d5,a7,d6,e3⟩;rw[b1]at c6;rw[hE.any]at a7;obtain⟨DA,dc,MA,mc,SA,sl,sc,da,_⟩:=id aj.ex;subst da;refine Jv Vc ?_;intro w4 b6 ab d1 d7;refine Qp d7 ?_;intro w5 au e2 a6;have an:Ext w3 w5:=a6 w3 ab d1;have a5:=aj.ext an;have ax:Ext w5 w5.drew:=(Ext.refl w5).drew;have c1:=a5.ext ax;refine drR (scq 10 [1,2]) ?_;refine Qz (λj u hu=>(au.ext ax).at hu) ?_;refine Jh (Kw 1 (by decide) _) ?_;rintro o w6 ⟨ho,_,aa⟩;refine⟨aa,?_⟩;refine Jh (Jbh (c1.ext aa) ho aj.sz (nR _) aj.f32) ?_;rintro u w7 ⟨ah,_,d3⟩;obtain⟨RA,rc,dz,rfl,c3,bz,_⟩:=d3 (by rw[a7];decide)
 rw[a7]at c3 bz;refine⟨ah,?_⟩;have a1:=(ax.trans aa).trans ah;have af:=au.ext a1;have aw:Ext w7 w7.drew:=(Ext.refl w7).drew;refine ρd ?_;refine drR (scq 12 [1,2]) ?_;refine Qz (λj u hu=>(af.ext aw).at hu) ?_;refine Jh (Jvc 3 _) ?_;rintro u w8 ⟨⟨e6,rfl,bl⟩,a9⟩;refine⟨a9,?_⟩;refine Jh (Qft (((a5.ext a1).ext aw).ext a9) (q:=[nV 3]) (bl.rd rfl) (nR _)) ?_;rintro u w9 ⟨a2,_,cv⟩;obtain⟨nv,dx,rfl,bf,_⟩:=cv (by rw[c7];rfl);rw[d5,a7,exW_a]at bf;rw[a7];refine⟨a2,?_⟩;have O:=(aw.trans a9).trans a2;have ag:Ext w9 w9.drew:=(Ext.refl w9).drew;rw[decide_eq_true (show[nV 3]∈exW by decide)];refine ρd ?_;refine drR (scq 34 [4,5,13,14,25,29,30]) ?_;refine Qz (λj u hu=>((af.ext O).ext ag).at hu) ?_;refine ρd ?_;have d4:=((a5.ext a1).ext O).ext ag;refine dcl (Jwf d4) ?_;rintro n1 ck ⟨bg,G⟩;rw[a7]at bg;refine⟨G,?_⟩;refine Jh (Qbq (k:=3) bg (by decide)) ?_;rintro _ cj ⟨rfl,J⟩
 rw[decide_eq_true (show exW.length=3 from rfl)];refine⟨J,?_⟩;refine Jh (Jvc 2 _) ?_;rintro u av ⟨⟨e5,rfl,bj⟩,C⟩;refine⟨C,?_⟩;refine ρd ?_;have a8:=(ag.trans G).trans (J.trans C);refine dcl (Jwp (a:=[nV 2]) ⟨RA,rc,rfl,bz,by decide,(Rd.ext c3 O).ext a8⟩ (Jln bj (by decide))) ?_;rintro _ b8 ⟨rfl,a3⟩;rw[decide_eq_true rfl];refine⟨a3,?_⟩;refine Jh (Qbq (k:=2) (bf.ext ((ag.trans G).trans ((J.trans C).trans a3))) (by decide)) ?_;rintro _ dw ⟨rfl,ad⟩;rw[decide_eq_true (show 2=2 from rfl)];refine⟨ad,?_⟩;refine Qz (λj u hu=>((af.ext O).ext (a8.trans (a3.trans ad))).at hu) ?_;refine Jh (Jvc 3 _) ?_;rintro u dv ⟨⟨e4,rfl,bi⟩,ac⟩;refine⟨ac,?_⟩;refine ρd ?_;have ak:=a8.trans (a3.trans ad);refine dcl (Qfw (((a5.ext a1).ext O).ext (ak.trans ac)) (q:=[nV 3]) (bi.rd rfl) (nR _)) ?_;rintro u du ⟨ap,rfl⟩;have bh:=c8.mems [nV 3];rw[Jxs,b1,hE.mem]at bh
 rw[if_pos (show[nV 3].length=D.f from c7.symm),c6,d6,bh];refine⟨ap,?_⟩;refine ρd ?_;refine ρ ?_;exact Jq ⟨rfl,((aq.trans ai).trans (an.trans a1)).trans (O.trans ((ak.trans ac).trans ap))⟩
open Go.RowKit Pl Go.Wk
variable {ds:List Bool}{ps:List CsA}{B0 f ic:Nat}{w:World}
theorem CsM.dsl{p:CsA}(h:CsM f ds p): ds.length=f:=by
 obtain⟨i,o,j⟩:=h;have e:(p.1.ds.length:Int)=p.1.f:=i.chk.2.2.2.2.1;rw[i.fF.1,j,o]at e;omega
theorem GV.hd{iv:Value}(h:GV 5 (InG f ds) w iv ps)(hp:∀ p∈ps,CsM f ds p)(h1:1<=ps.length):
  ∃(IA:Option Addr) (ic:Nat) (xc:Nat->List Value) (D:Option Addr) (dc:Nat),iv=.slice IA ps.length ic/\InsM w IA f ds (ps.map λp=>Xo p.1 p.2) xc/\Rd w 5 IA ps.length (Qf ps.length xc)/\BoolsV w (.slice D ds.length dc) ds /\
   (∀ W,Ext w W->W.cell? ((adr IA (0*5)).add 1)=some (.int .i64 (f:Int)))/\∀ W,Ext w W->W.cell? ((adr IA (0*5)).add 2)=some (.slice D ds.length dc):=by
 obtain⟨IA,ic,xc,rfl,J,C⟩:=GV.insM h hp;obtain⟨D,Q,T,dc,pc,O,ts,u⟩:=(C.el 0 (by grind)).inF;have j:=C.rd;rw[List.length_map]at j;have o:∀ i,i<ps.length->(xc i).length=5:=λi hi=>by
  obtain⟨_,_,_,_,_,_,_,u⟩:=(C.el i (by grind)).inF;rw[u.e];rfl
 refine⟨IA,ic,xc,D,dc,rfl,C,j,⟨D,dc,rfl,u.dl.1,u.dl.2,u.d⟩,λW G=>?_,λW G=>?_⟩
 .rw[Xx];exact(j.ext G).cell (by rw[Yk o h1 (by decide),u.e];rfl)
 rw[Xx];exact(j.ext G).cell (by rw[Yk o h1 (by decide),u.e];rfl)
theorem InsM.bld{IA:Option Addr}{xc:Nat->List Value}(hI:InsM w IA f ds (ps.map λp=>Xo p.1 p.2) xc)(hTB:TB B0 w)(hp:∀ p∈ps,CsM f ds p)(h1:1<=ps.length)(h3:ps.length<=3):
  Ret Tryz.prog 6 [.slice IA ps.length ic] w λu w'=>Ext w w'/\∃(cs:List Value) (st:Int) (D:UD),u=.tuple #[.agg cs.toArray,.int .i64 st,.int .i64 0]/\UnV w' D cs/\D.k=ps.length/\D.f=f/\D.ds=ds/\D.U=Zl ds (sgl ps)/\D.M=(λs=>Xl (pick (sgl ps) s).flatten)/\D.Hm=mxR D.n (λi=>Qy D.f λv=>hmB (D.BB i v))/\(∀ i,i<D.n->BBp f ds (pick (sgl ps) (i+1)).flatten (D.BB i))/\Off (λk=>B0<=k/\k<w.heap.size) w' λW=>UnV W D cs:=by
 rw[<-Jtt hp]at hI;obtain⟨p,j⟩:=List.exists_mem_of_length_pos h1;have:=Jfv (c:=ic) hTB (Jdp h1 h3 hp) (hp p j).dsl hI;rwa [Jxs]at this
theorem Xyv(hp:∀ p∈ps,CsM f ds p)(h3:ps.length<=3): (Zl ds (sgl ps)).length<=15000:=by
 have i:=Jbr (Jjq ds (sgl ps));rw[Jmq ps f ds hp]at i;have j:(ps.flatMap λp=>p.1.ans).length<=ps.length*5000:=by
  clear i h3;induction ps with
  | nil=>exact nR _
  | cons p ps ih=>
   rw[List.flatMap_cons,List.length_append,List.length_cons,Nat.succ_mul];have:=(hp p mC).1.anl;grind
 omega
theorem Xyt(hp:∀ p∈ps,CsM f ds p){y:Row}(hy:y∈Zl ds (sgl ps)): y.length=f:=by
 rw[(Jjq ds (sgl ps)).2 y,Jmq ps f ds hp]at hy;obtain⟨p,i,hy⟩:=List.mem_flatMap.1 hy;rw[(hp p i).1.arow hy,(hp p i).2.1]
end Go.Proofs.YtcdccafgdnblaaaGreatDoor
namespace Go.Proofs.YtcdccafgdnblaaaGreatDoor
open Go.RowKit Pl Go.Wk Go.ChangeShapes Go.WideShapes
section
variable {H:Type} {enc:TypeId×Value->H} {w:World} {base b0:Nat} {spare:Nat->Bool} {held:Bool}
def Qct(w:World)(v:Value): Prop:=∃(A:Option Addr) (c:Nat) (l:List Cse) (xc:Nat->List Value),v=.slice A l.length c/\CsesV w A l xc/\∀ c∈l,∀ i,i<c.rss.length->∀ r∈c.rss.getD i [],∀ u∈r,Xs u
theorem Qpv{v:Value}{d:DataW H}{p:List MemPlace}(hv:Value.okWide Tryz.prog w .any b0 22 v)(h:DataW.Trod enc Tryz.prog w base spare held 22 v d p)(hb:Rows.uptoBulk d<=1048576): Qct w v:=by
 obtain⟨a,len,G,rfl⟩:=okWide_slice Tryz.underlying22 hv;obtain⟨J,Z⟩:=h;obtain⟨ps,A,c,e,C,o,h3,h4⟩:=Jqm (sz:=6) (λp:List Value×Cse=>p.1) (λp=>CseV w p.1 p.2/\∀ i,i<p.2.rss.length->∀ r∈p.2.rss.getD i [],∀ u∈r,Xs u) Tryz.underlying22 kr hb (λn D y O hb=>by
  obtain⟨c,C,o⟩:=Qpw O hb;exact⟨(D,c),rfl,C,o⟩) Z
 have e':Value.slice a len G=.slice A ps.length c:=by injection e
 refine⟨A,c,ps.map (·.2),λi=>(ps.getD i ([],c0)).1,by rw[List.length_map];exact e',⟨by rw[List.length_map,<-Jms c0];exact C,λi hi=>?_⟩,λc hc=>?_⟩
 .have j:i<ps.length:=by rwa [List.length_map]at hi
  rw[Xqn (·.2) ps ([],c0) c0 j]
  exact(o _ (getD_mem' _ _ j)).1
 obtain⟨p,hp,rfl⟩:=List.mem_map.1 hc;exact(o p hp).2
end
open Go.RowKit Pl Go.Wk
attribute [local irreducible] WC WL QX WD WDB WP WN WG WH WM
theorem InsM.cell{w W:World}{A:Option Addr}{f i j:Nat}{ds:List Bool}{Ms:List UMem}{xc:Nat->List Value}{u:Value}(h:InsM w A f ds Ms xc)(hx:Ext w W)(hi:i<Ms.length)(hu:(xc i)[j]?=some u): W.cell? ((adr A (i*5)).add j)=some u:=by
 have o:∀ i,i<Ms.length->(xc i).length=5:=λi hi=>by
  obtain⟨_,_,_,_,_,_,_,D⟩:=(h.el i hi).inF;rw[D.e];rfl
 have C:j<5:=by grind
 rw[Xx];exact(h.rd.ext hx).cell (by rw[Yk o hi C];exact hu)
open Go.RowKit Pl Go.Wk
theorem Jgs{w:World}{D E:UD}{cs es:List Value}(hA:UnV w D cs)(hB:UnV w E es)(he:E.U=D.U)(hl:D.U.length<=15000)(hr:∀ y∈D.U,y.length<=32):
  Ret Tryz.prog 19 [.agg cs.toArray,.agg es.toArray] w λu w'=>u=.bool true/\Ext w w':=by
 obtain⟨DA,bg,MA,mc,SA,sl,sc,b4,_⟩:=id hA.ex;subst b4;obtain⟨DB,bf,MB,nc,SB,tl,tc,b1,_⟩:=id hB.ex;subst b1;refine enE Tryz.func19 Tryz.ntmps19 ?_;refine bxR ?_;intro w1 b2 au be az;refine bxR ?_;intro w2 b3 ak bd ap;have C:=au.trans ak;have a1:=az.ext ak;refine Jl a1 ?_;refine clR (Jwf (hA.ext C)) ?_;rintro n1 w3 ⟨ay,ai⟩;refine clR (Qxd ay om) ?_;rintro _ w4 ⟨rfl,rfl⟩;have b6:=C.trans ai;have ar:Ext w4 w4.drew:=(Ext.refl w4).drew;have J:=ai.trans ar;refine drR [(0,0),(0,1),(0,2),(0,3),(0,5),(1,4),(1,6),(1,7),(0,8),(0,9)] ?_;refine Qz (λj u hu=>(a1.ext J).at hu) ?_;refine Qz (λj u hu=>(ap.ext J).at hu) ?_;refine ρd ?_;have a7:=C.trans J;refine dcl (Jwf (hA.ext a7)) ?_;rintro n2 w5 ⟨ax,ad⟩;refine⟨ad,?_⟩;refine Jh (Jwf ((hB.ext a7).ext ad)) ?_;rintro n3 w6 ⟨ao,ac⟩;rw[he]at ao;refine⟨ac,?_⟩;refine Jh (Gg (ax.ext ac) ao) ?_;rintro _ w7 ⟨rfl,ah⟩
 rw[show Vq D.U.length D.U.length=0 from cmpN_z.2 rfl];refine⟨ah,?_⟩;have aj:=((J.trans ad).trans ac).trans ah;refine ρd ?_;refine ρ ?_;refine Qr (fun (i:Nat)=>[(2,.pointer (some ⟨b2,0,none⟩)),(3,.pointer (some ⟨b3,0,none⟩)),(4,.bool false),(30,.int .u64 (D.U.length:Int)),(31,.int .u64 (i:Int))])
  (λi w'=>i<=D.U.length/\Ext w7 w') (λi=>D.U.length-i) 0 sB ⟨Nat.zero_le _,Ext.refl _⟩ ?_
 rintro i w8 ⟨hi,ag⟩;have G:=aj.trans ag;refine ciR (λh=>?_) (λh=>?_)
 .have li:i<D.U.length:=by have:=oT h;omega
  clear h;have aa:Ext w8 w8.drew:=(Ext.refl w8).drew;have bc:=hr _ (getD_mem' [] D.U li);refine drR (scq 11 [2,3]) ?_;refine Qz (λj u hu=>((a1.ext G).ext aa).at hu) ?_;refine Jh (Kw i om _) ?_;rintro o w9 ⟨ho,_,ab⟩;refine⟨ab,?_⟩;refine ρd ?_;have af:=((hA.ext (C.trans G)).ext aa).ext ab;refine dcl (Jbh af ho af.sz (nR _) af.f32) ?_;rintro u a8 ⟨a6,_,ae⟩;obtain⟨RA,rc,bb,rfl,hR,av,_⟩:=ae li;refine⟨a6,?_⟩;have a3:=(aa.trans ab).trans a6;have a4:=G.trans a3;have a9:Ext a8 a8.drew:=(Ext.refl a8).drew;refine ρd ?_;refine drR (scq 11 [2,3]) ?_;refine Qz (λj u hu=>((ap.ext a4).ext a9).at hu) ?_;refine Jh (Kw i om _) ?_;rintro o2 b9 ⟨aw,_,O⟩;refine⟨O,?_⟩;refine ρd ?_;have a2:=((hB.ext (C.trans a4)).ext a9).ext O;refine dcl (Jbh a2 aw a2.sz (nR _) a2.f32) ?_;rintro u b8 ⟨a5,_,ae⟩;obtain⟨b5,aq,ba,rfl,hS,an,_⟩:=ae (by rw[he];exact li)
  rw[he]at hS an;refine⟨a5,?_⟩;have Z:=(a9.trans O).trans a5;refine ρd ?_;refine ρ ?_;rw[he];refine cl (Jwp (a:=D.U.getD i []) (b:=D.U.getD i []) ⟨RA,rc,rfl,av,om,Rd.ext hR Z⟩ ⟨b5,aq,rfl,an,om,hS⟩) ?_;rintro _ b7 ⟨rfl,am⟩;rw[decide_eq_true rfl];refine ρ ?_;rw[Kj (z:=(i:Int)+1) om];exact Qn (i+1) sO ⟨li,((ag.trans a3).trans Z).trans am⟩ om
 refine ρ ?_;exact Jq ⟨rfl,C.trans G⟩
end Go.Proofs.YtcdccafgdnblaaaGreatDoor
namespace Go.Wk
open Go.RowKit
variable {fuel fuel' n:Nat}
theorem Qxj{N:Nat->Prop}{P:Program}{al:AL}{w:World}{Q:Exit->Act->World->Prop}{l:List Oper}{listed:Array Bool}(i j k:Nat){oi oj ok:Oper}(hr:Region.ready .any l.toArray listed=[i,j,k])(hf:fuel=fuel'+1)(hi:nth l i=some oi)(hj:nth l j=some oj)(hk:nth l k=some ok)(h1:WL P n l.toArray (Gf N P l.toArray Q w fuel' (listed.setIfInBounds i true)) [oi] al w)(h2:WL P n l.toArray (Gf N P l.toArray Q w fuel' (listed.setIfInBounds j true)) [oj] al w)(h3:WL P n l.toArray (Gf N P l.toArray Q w fuel' (listed.setIfInBounds k true)) [ok] al w): WM N P n l.toArray Q fuel listed al w:=λC a D=>by
 subst hf;have O:l.toArray[i]?=some oi:=by rw[<-hi,Xc];simp
 have J:l.toArray[j]?=some oj:=by rw[<-hj,Xc];simp
 have G:l.toArray[k]?=some ok:=by rw[<-hk,Xc];simp
 refine⟨λh0=>(by rw[hr]at h0;cases h0),λm u=>?_⟩;have o:=u;rw[hr]at u;simp only[List.mem_cons,List.not_mem_nil,or_false]at u;rcases u with rfl|rfl|rfl
 .exact Jxj O (C.step o) h1 a D
 .exact Jxj J (C.step o) h2 a D
 exact Jxj G (C.step o) h3 a D
end Go.Wk
namespace Go.Proofs.YtcdccafgdnblaaaGreatDoor
open Go.RowKit Pl Go.Wk _root_.Go.Proofs.Tryz
attribute [local irreducible] WC WL QX WD WDB WP WN WG WH WM
variable {gs gs':List (List CsA)}{ds:List Bool}{B0 base c f i n:Nat}{A IA:Option Addr}{α:Type}{a w:World}
def Fiv(its:List (List Value×α)): Prop:=∀ p∈its,∃ a b c d e:Value,p.1=[a,b,c,d,e]/\∀ u∈[a,b,c,d,e],u.oneCell'=true
theorem Fiv.at{its:List (List Value×α)}(h:Fiv its){p:List Value×α}(hi:its[i]?=some p): ∃ a b c d e:Value,p.1=[a,b,c,d,e]/\∀ u∈[a,b,c,d,e],u.oneCell'=true:=h p (List.mem_of_getElem? hi)
theorem Qmq{its:List (List Value×α)}(ho:w.ownsRow base 40 5 (.slice IA its.length c) its.length (Jd its))(h5:Fiv its)(h1:1<=its.length)(h2:its.length<=2):
  Ret prog 17 [.slice IA its.length c] w λu w'=>w.grownBy w' (Value.slice IA its.length c).ownBlock/\w'.ownsRow base 40 5 (.slice IA its.length c) its.length (Jd its.reverse):=by
 refine enE func17 ntmps17 ?_;refine ρ ?_;refine Qr (fun (k:Nat)=>[(0,.slice IA its.length c),(2,.int .i64 (k:Int)),(3,.int .i64 ((its.length:Int)-1-k))])
  (λk w'=>k<=1/\(k=1->its.length=2)/\w.grownBy w' (Value.slice IA its.length c).ownBlock/\w'.ownsRow base 40 5 (.slice IA its.length c) its.length (Jd (if k=0 then its else its.reverse))) (λk=>1-k) 0 sO
  ⟨om,λe=>om,Zp (Ext.refl w) _,ho⟩ ?_
 rintro k C ⟨hk,a9,hg,i⟩;refine ciR (λh=>?_) (λh=>?_)
 .have af:=oT h;have o:k=0:=by
   rcases Nat.eq_zero_or_pos k with h0|h0
   .exact h0
   have:=a9 om;omega
  subst o;have a7:its.length=2:=om
  clear h;obtain⟨p,q,rfl⟩:∃ p q,its=[p,q]:=by
   match its,a7 with
   | [p,q],_=>exact⟨p,q,rfl⟩
  obtain⟨a1,a2,a3,a4,a5,ea,ha⟩:=h5 p (by simp);obtain⟨b1,b2,b3,b4,Z,eb,hb⟩:=h5 q (by simp);have hf:Jd [p,q]=[a1,a2,a3,a4,a5]++[b1,b2,b3,b4,Z]:=by simp[Jd,ea,eb]
  rw[if_pos rfl,hf]at i;have D:Ext C C.drew:=(Ext.refl C).drew;have J:=Jk i D;have O:=Rd.own J;have l0:0<[p,q].length:=Nat.zero_lt_succ _;have l1:1<[p,q].length:=Nat.succ_lt_succ (Nat.zero_lt_succ _);have ae:∀ j u,[a1,a2,a3,a4,a5][j]?=some u->C.drew.cell? ((adr IA (0*5)).add j)=some u:=λj u hu=>by
   rw[Xx];refine O.cell ?_;rw[List.getElem?_append_left (by have:=(List.getElem?_eq_some_iff.1 hu).1;simpa using this)];simpa using hu
  have ad:∀ j u,[b1,b2,b3,b4,Z][j]?=some u->C.drew.cell? ((adr IA (1*5)).add j)=some u:=λj u hu=>by
   rw[Xx];refine O.cell ?_;rw[List.getElem?_append_right (by simp)];simpa using hu
  refine ρ ?_;rw[show(([p,q].length:Nat):Int)-1-((0:Nat):Int)=1 from rfl];refine drC 4 [0,1,2,3,4,5,8,9] [(0,6),(0,7),(0,10),(0,11),(0,12),(2,13),(2,14),(2,15)] kr ?_;refine ρp ?_;refine dixq 5 1 O l1 ?_;refine Qz (cs:=[b1,b2,b3,b4,Z]) ad ?_;refine Ve 5 0 O l0 ?_;refine Qz (cs:=[a1,a2,a3,a4,a5]) ae ?_;refine Ve 5 0 O l0 ?_;refine ρd ?_;refine Qw ?_;refine Jwk (cs:=[b1,b2,b3,b4,Z]) (j:=0) J l0 ?_ hb;intro w3 G ab;refine ρ ?_;refine Qe ?_;refine Qw ?_;refine ixq 5 1 (Rd.own G) l1 ?_;refine ρ ?_;refine Qe ?_;refine Qw ?_;refine Jwk (cs:=[a1,a2,a3,a4,a5]) (j:=1) G l1 ?_ ha;intro w4 a6 aa;refine ρ ?_;refine Qn 1 sO ⟨nR _,λ_=>rfl,Zy hg (Zy (Zp D _) (Zy ab aa)),?_⟩ om;have ac:Jd [p,q].reverse=[b1,b2,b3,b4,Z,a1,a2,a3,a4,a5]:=by simp[Jd,ea,eb]
  rw[if_neg om,ac];exact a6
 have ag:=oF h;clear h;refine ρ ?_;refine Un ⟨hg,?_⟩;by_cases o:k=0
 .subst o;rw[if_pos rfl]at i;have a8:its.length=1:=om
  obtain⟨p,rfl⟩:∃ p,its=[p]:=by
   match its,a8 with
   | [p],_=>exact⟨p,rfl⟩
  exact i
 rw[if_neg o]at i;exact i
abbrev GI:= List Value×List CsA
def GiOk(w:World)(f:Nat)(ds:List Bool)(git:List GI): Prop:=∀ p∈git,InC w (Zq f ds (Qd f (Jr p.2))) p.1
theorem GiOk.ins{git:List GI}(hr:Rd w 5 A git.length (Jd git))(he:GiOk w f ds git): InsM w A f ds ((git.map (·.2)).map λg=>Qd f (Jr g)) λi=>(git.getD i ([],[])).1:=by
 have e:Jd (git.map λp=>(p.1,Qd f (Jr p.2)))=Jd git:=by simp[Jd,List.flatMap_map]
 have h:=InsM.of (w:=w) (A:=A) (f:=f) (ds:=ds) (ps:=git.map λp=>(p.1,Qd f (Jr p.2))) (by rw[List.length_map,e];exact hr) λq j=>by
  obtain⟨r,hr,rfl⟩:=List.mem_map.1 j;exact he r hr
 rw[List.map_map]at h ⊢;have o:(λi=>((git.map λp=>(p.1,Qd f (Jr p.2))).getD i ([],um0)).1)=λi=>(git.getD i ([],[])).1:=by
  funext i
  by_cases hi:i<git.length<;>simp[List.getD,hi]
 rw[o]at h;exact h
theorem bldP{git:List GI}(hTB:TB B0 w)(hC:CsU (git.map (·.2)) f ds)(hds:ds.length=f)(hr:Rd w 5 A git.length (Jd git))(he:GiOk w f ds git):
  Ret prog 6 [.slice A git.length c] w λu w'=>Ext w w'/\∃(cs:List Value) (st:Int) (D:UD),u=.tuple #[.agg cs.toArray,.int .i64 st,.int .i64 0]/\UnV w' D cs/\D.U=Zl ds (git.map (·.2))/\Off (λk=>B0<=k/\k<w.heap.size) w' λW=>UnV W D cs:=by
 have h:=Jfv (c:=c) hTB hC hds (GiOk.ins hr he);rw[List.length_map]at h;refine h.mono ?_;rintro u w' ⟨C,cs,st,D,rfl,o,_,_,_,j,_,_,_,i⟩;exact⟨C,cs,st,D,rfl,o,j,i⟩
theorem HsOk.meetN_any{N:Nat->Prop}{git:List GI}(h:HsOk (git.map (·.2)) f ds)(hds:ds.length=f)(hN:∀ k,N k->k<w.heap.size)(hr:Rd w 5 A git.length (Jd git))(he:∀ p∈git,Off N w λW=>InC W (Zq f ds (Qd f (Jr p.2))) p.1):
  Ret prog 16 [.slice A git.length c] w λu w'=>Ext w w'/\∃ cs,u=.tuple #[.agg cs.toArray,.int .i64 0]/\Off N w' λW=>InC W (Zq f ds (Qd f (Jr (git.map (·.2)).flatten))) cs:=by
 obtain⟨J,G,D,C⟩:=h.meet hds;have o:=GiOk.ins hr λp hp=>(he p hp).here;have:=Jsd (c:=c) hN (λi hi=>by
  have j:i<git.length:=by simpa using hi
  have e:(((git.map (·.2)).map λg=>Qd f (Jr g)).getD i um0)=Qd f (Jr (git.getD i ([],[])).2):=by simp[List.getD,j]
  rw[e];exact he _ (getD_mem' ([],[]) git j)) o J (λe=>h.nil (List.map_eq_nil_iff.1 e)) (by rw[List.length_map];exact h.c3) G D C
 rw[List.length_map,List.length_map,Jlx]at this;exact this
structure UY where
 b: Nat
 D:UD
 st:Int
 A:Option Addr
 a:Nat
 M:Option Addr
 m:Nat
 S:Option Addr
 s:Nat
 s':Nat
def UY.cs(y:UY): List Value:=[.int .i64 (y.D.k:Int),.int .i64 (y.D.f:Int),.slice y.A y.D.f y.a,.slice y.M y.D.n y.m,.slice y.S y.s y.s']
theorem bldY{git:List GI}{p:GI}(hTB:TB B0 w)(hn:git.length=n)(hC:CsU ((git++[p]).map (·.2)) f ds)(hds:ds.length=f)(hr:Rd w 5 A (n+1) (Jd git++p.1))(he:GiOk w f ds (git++[p])):
  Ret prog 6 [.slice A (n+1) c] w λu w'=>Ext w w'/\∃ y:UY,u=.tuple #[.agg y.cs.toArray,.int .i64 y.st,.int .i64 0]/\UnV w' y.D y.cs/\Off (λk=>B0<=k/\k<w.heap.size) w' (λW=>UnV W y.D y.cs)/\y.D.U=Zl ds (git.map (·.2)++[p.2]):=by
 subst hn;have j:(git++[p]).length=git.length+1:=by simp
 have J:Jd (git++[p])=Jd git++p.1:=by simp[Jd]
 have h:=bldP (c:=c) hTB hC hds (by rw[j,J];exact hr) he;rw[j]at h;refine h.mono ?_;rintro u w' ⟨h1,cs,st,D,rfl,o,Z,O⟩;obtain⟨A1,a1,M1,G,S1,C,i,e,_⟩:=id o.ex;subst e;refine⟨h1,⟨0,D,st,A1,a1,M1,G,S1,C,i⟩,rfl,o,O,?_⟩;rw[Z];simp
theorem Kg{cs:List Value}(ha:Ext a w)(hr:Rd w 5 A n cs)(h1:∀ u∈cs,u.oneCell'=true)(hb:n<=1000):
  Ret prog 18 [.slice A n c] w λv w'=>w'.ownsRow a.heap.size 40 5 v n cs/\Ext w w':=by
 refine enE func18 ntmps18 ?_;refine ρ ?_;refine Kq ?_;refine ciR (λh=>?_) (λh=>?_)
 .have hA:A=none:=by simpa using h
  subst hA;have hn:n=0:=by
   rcases Nat.eq_zero_or_pos n with h0|h0
   .exact h0
   obtain⟨ad,h2,_⟩:=hr.isome h0 om;cases h2
  subst hn;have Z:cs=[]:=List.eq_nil_of_length_eq_zero (by have:=hr.1;omega);subst Z;refine ρ ?_;exact Jq ⟨Zd _ _ _ _,Ext.refl w⟩
 refine Xq Qyp ?_;intro w1 b i J C;refine ρ ?_;refine apo (a:=a) (ha.trans i) Jjr (C.own (n:=0) (nL ha.size J) rfl (Nat.zero_le _)) (hr.ext i) h1 (by unfold maxLen;omega) om ?_;intro v2 O j _ D _;have o:Ext w O:=Qt i D λg eg=>by
  have:b=g:=by simpa [Value.ownBlock] using eg
  omega
 obtain⟨A2,c2,rfl,G,_⟩:=Jy j;refine ρ ?_;rw[Nat.zero_add]at j G ⊢;exact Jq ⟨j,o⟩
theorem anyL_set'(h:∀ g,g∈gs↔g∈gs'): Zl ds gs=Zl ds gs':=Qbt λy=>by simp[h]
theorem Xyx{ps:List CsA}(hne:ps≠[])(h:∀ g,g∈gs↔g∈sgl ps): Zl ds (gs++[ps])=Zl ds (sgl ps):=Qbt λy=>by
 constructor
 .rintro⟨g,i,j⟩;rcases List.mem_append.1 i with i|i
  .exact⟨g,(h g).1 i,j⟩
  rw[List.mem_singleton.1 i]at j;obtain⟨p,hp⟩:=List.exists_mem_of_ne_nil _ hne;refine⟨[p],List.mem_map_of_mem hp,(Jkl (by simp) y).2 λq o=>?_⟩;rw[List.mem_singleton.1 o];exact(Jkl hne y).1 j p hp
 rintro⟨g,i,j⟩;exact⟨g,List.mem_append_left _ ((h g).2 i),j⟩
open Go.RowKit Pl Go.Wk
variable {B0 c f:Nat}{w:World}
theorem Jtv(ps:List CsA): (sgl ps).flatten=ps:=by simp[sgl,List.flatten_eq_flatMap,List.flatMap_map]
theorem InC.five{ds:List Bool}{M:UMem}{cs:List Value}(h:InC w (Zq f ds M) cs): ∃(n f':Int) (A B C:Option Addr) (a b c a' b' c':Nat),cs=[.int .i64 n,.int .i64 f',.slice A a a',.slice B b b',.slice C c c']:=by
 obtain⟨D,Q,T,o,pc,j,ts,i⟩:=h.inF;exact⟨_,_,_,_,_,_,_,_,_,_,_,i.e⟩
theorem Qfs{A:Option Addr}{l:List Cse}{xc:Nat->List Value}(hTB:TB B0 w)(hL:CsesV w A l xc)(hfit:∀ c∈l,∀ i,i<c.rss.length->∀ r∈c.rss.getD i [],∀ u∈r,Xs u):
  Ret Tryz.prog 3 [.slice A l.length c] w λu w'=>u=.bool true/\Ext w w':=by
 refine enE Tryz.func3 Tryz.ntmps3 ?_;refine clR (Qss hL hfit) ?_;rintro u w1 ⟨cm,hm⟩;rcases hm with rfl|⟨ps,iv,rv,rfl,h1,h3,hmp,hps,_,_,N0,hOM⟩
 .refine clR (Jpd (hTB.ext cm)) ?_;rintro _ w2 ⟨rfl,bn⟩;refine ρ ?_;exact Jq ⟨rfl,cm.trans bn⟩
 obtain⟨f,hf⟩:∃ f,f=(l.getD 0 c0).F:=⟨_,rfl⟩;obtain⟨ds,hd⟩:∃ ds,ds=(l.getD 0 c0).ds:=⟨_,rfl⟩;rw[<-hf,<-hd]at hps hOM;have k7:ps.length=l.length:=by rw[<-hmp,List.length_map]
 have g1:1<=ps.length:=om
 have fu:ps≠[]:=λe=>by rw[e]at g1;exact absurd g1 (by decide)
 have bq:ds.length=f:=(hps _ (List.getElem_mem g1)).dsl;have kc:f<=6:=by
  obtain⟨h2,h3,_⟩:=hps _ (List.getElem_mem g1);rw[<-h3];have:=h2.fF.2;have:=h2.nN.2;omega
 obtain⟨its,hits,dh,ie⟩:=hOM;obtain⟨IA,ic,rfl,k9,i6⟩:=Jy dh;refine ciR (λh=>?_) (λh=>?_)
 .clear h;refine clR (Jpd (hTB.ext cm)) ?_;rintro _ w2 ⟨rfl,bn⟩;refine ρ ?_;exact Jq ⟨rfl,cm.trans bn⟩
 have g2:ps.length<=2:=by have:=oF h;omega
 clear h;have g3:ps.length<=3:=om
 have k8:its.length=ps.length:=by rw[hits,List.length_map]
 have e7:0<its.length:=om
 -- the inputs and their cases
 obtain⟨git,ap⟩:∃ git:List GI,git=its.map λp=>(p.1,[p.2]):=⟨_,rfl⟩;have dj:git.length=its.length:=by rw[ap,List.length_map]
 have i9:Jd git=Jd its:=by rw[ap];simp[Jd,List.flatMap_map]
 have ae:git.map (·.2)=sgl ps:=by rw[ap,hits,sgl,List.map_map,List.map_map];rfl
 obtain⟨N,hN⟩:∃ N:Nat->Prop,N=λk=>(Value.slice IA its.length ic).ownBlock=some k:=⟨_,rfl⟩;have du:∀ k,N k->w.heap.size<=k/\k<w1.heap.size:=λk hk=>i6 k (by rw[hN]at hk;exact hk);have bh:∀ p∈git,Off N w1 λW=>InC W (Zq f ds (Qd f (Jr p.2))) p.1:=λp hp W hW=>by
  rw[ap]at hp;obtain⟨q,hq,rfl⟩:=List.mem_map.1 hp;have h2:=(ie q hq).2 W (hW.mono λk _ hk=>.inr (by rw[hN]at hk;exact hk));obtain⟨k1,k2,_⟩:=hps q.2 (by rw[hits];exact List.mem_map_of_mem hq);show InC W (Zq f ds (Qd f [Xo q.2.1 q.2.2])) q.1;rw[Qzk (by rw[<-k2];exact k1.uok.pm.fn)];exact h2
 have dg:Rd w1 5 IA its.length (Jd git):=by rw[i9];exact Rd.own dh
 have ba:CsU (git.map (·.2)) f ds:=by rw[ae];exact Jdp g1 g3 hps
 obtain⟨g0,e8⟩:∃ g0,g0=git.getD 0 ([],[]):=⟨_,rfl⟩;have aa:g0∈git:=by rw[e8];exact getD_mem' ([],[]) git om
 obtain⟨n0,f0,DA,QA,TA,da,qa,ta,ef,e6,e5,e0⟩:=(bh g0 aa).here.five;have c8:∀ {W:World} (hx:Ext w1 W) (j:Nat) (u:Value),[Value.int .i64 n0,.int .i64 f0,.slice DA da ef,.slice QA qa e6,.slice TA ta e5][j]?=some u->W.cell? ((adr IA (0*5)).add j)=some u:=λhx j u hu=>by
  rw[<-e0]at hu;rw[Xx];refine(dg.ext hx).cell ?_;have hj:j<5:=by have:=(List.getElem?_eq_some_iff.1 hu).1;rw[e0]at this;exact this
  rw[Kd (p:=g0) (λp hp=>?_) (by rw[e8,List.getD,List.getElem?_eq_getElem om];rfl) hj]
  .exact hu
  obtain⟨_,_,_,_,_,_,_,_,_,_,_,e⟩:=(bh p hp).here.five;rw[e];rfl
 -- the first member alone
 refine Qs 5 0 (dg) e7 ?_;refine Ja (λj u hu=>c8 (Ext.refl _) j u hu) ?_;refine Xq (Uw _ _ _ _ _ _ _ _ _ _ _) ?_;intro w2 kl bn jb gt;have gq:CsU (([([Value.int .i64 n0,.int .i64 f0,.slice DA da ef,.slice QA qa e6,.slice TA ta e5],g0.2)]:List GI).map (·.2)) f ds:=by
  have i4:∀ p∈g0.2,CsM f ds p:=ba.ok g0.2 (List.mem_map_of_mem aa);have i5:g0.2.length<=4:=by
   obtain⟨q,_,e⟩:=List.mem_map.1 (ap ▸ aa);rw[<-e];exact Nat.le_add_left 1 3
  exact⟨nR _,Nat.le_add_left 1 2,by simpa using i5,λg hg=>by rw[List.mem_singleton.1 hg];exact ba.ne g0.2 (List.mem_map_of_mem aa),λg hg=>by rw[List.mem_singleton.1 hg];exact i4⟩
 have io:GiOk w2 f ds [([Value.int .i64 n0,.int .i64 f0,.slice DA da ef,.slice QA qa e6,.slice TA ta e5],g0.2)]:=λp hp=>by
  rw[List.mem_singleton.1 hp,<-e0];exact((bh g0 aa).here).ext bn
 have dt:=hTB.ext cm;refine clR (bldP (git:=[([Value.int .i64 n0,.int .i64 f0,.slice DA da ef,.slice QA qa e6,.slice TA ta e5],g0.2)]) (dt.ext bn) gq bq (gt.rd (n:=1) rfl) io) ?_;rintro u w3 ⟨i1,kj,k0,D1,rfl,fe,iy,_⟩;obtain⟨A1,a1,M1,m1,S1,s1,k4,h4,_⟩:=id fe.ex;subst h4;refine Jv Vc ?_;intro w4 b6 i0 ih j0;refine Qp j0 ?_;intro w5 ew kb hz;have d9:Ext w3 w5:=hz w3 i0 ih;have be:=(bn.trans i1).trans d9;refine Qs 5 0 (dg.ext be) e7 ?_;refine Ja (λj u hu=>c8 be j u hu) ?_;refine ρ ?_;have eo:=(bh g0 aa).here.ext be;rw[e0]at eo;refine cl (Qyj (dt.ext be) (ms:=g0.2) (ba.ok g0.2 (List.mem_map_of_mem aa)) bq (ba.ne g0.2 (List.mem_map_of_mem aa)) (by simpa using gq.c4) ⟨_,rfl,eo⟩) ?_;rintro u w6 ⟨hw,x,jx,kf,pf,BB,tot,rfl,hX,_,_⟩;obtain⟨_,_,_,_,_,_,_,_,tv,_,_,rfl,_,_,_,_,_,_,i2,_⟩:=id hX.ix.ex;obtain⟨_,_,rfl,_⟩:=id i2;refine Jv Ih ?_;intro w7 b9 hv ig iz;refine Qp iz ?_;intro w8 dx ka hl
 have eh:Ext w6 w8:=hl w6 hv ig;have d6:=hw.trans eh;have br:=hX.ext eh;obtain⟨L,ea⟩:∃ L,L=Xl g0.2:=⟨_,rfl⟩;have kd:L.length<=5000:=by rw[ea];exact Jnq (ba.ok g0.2 (List.mem_map_of_mem aa))
 have im:∀ y∈L,y.length=f:=λy hy=>Qvp (ba.ok g0.2 (List.mem_map_of_mem aa)) (ea ▸ hy);have ca:D1.U=L:=by rw[iy,ea];exact Xyw (ba.ok g0.2 (List.mem_map_of_mem aa))
 rw[<-ea]at br;have ej:tot=L.length:=br.ip.len;refine Jl dx ?_;refine clR (Jzv br.ix br.ip.nbT) ?_;rintro n1 w9 ⟨fy,_,d3⟩;rw[ej]at fy;refine clR (Qxd fy om) ?_;rintro _ f4 ⟨rfl,rfl⟩;have gk:=(fe.ext (d9.trans d6)).ext d3;have d2:Ext f4 f4.drew:=(Ext.refl f4).drew;refine drR [(0,0),(0,1),(0,2),(0,3),(0,4),(0,5),(0,6),(0,7),(0,8),(0,9),(0,10),(0,11),(0,13),(1,12),(1,14),(1,15),(0,16),(0,17)] ?_;refine Qz (λj u hu=>((ew.ext (d6.trans d3)).ext d2).at hu) ?_;refine Qz (λj u hu=>((dx.ext d3).ext d2).at hu) ?_;refine Jh (Jwf (gk.ext d2)) ?_;rintro n2 jw ⟨fx,de⟩;refine⟨de,?_⟩;rw[ca]at fx;refine Jh (Jzv (((br.ix.ext d3).ext d2).ext de) br.ip.nbT) ?_;rintro n3 jv ⟨fw,_,dd⟩;rw[ej]at fw;refine⟨dd,?_⟩;refine Jh (Gg (fx.ext dd) fw) ?_;rintro _ ha ⟨rfl,ei⟩;rw[show Vq L.length L.length=0 from cmpN_z.2 rfl];refine⟨ei,?_⟩;have d5:=((d3.trans d2).trans de).trans (dd.trans ei)
 have d8:=d6.trans d5;have f7:=be.trans d8;refine ρd ?_;refine ρ ?_;refine Qr (fun (i:Nat)=>[(2,.bool false),(3,.slice IA its.length ic),(6,.pointer (some ⟨b6,0,none⟩)),(9,.pointer (some ⟨b9,0,none⟩)),(90,.int .u64 (L.length:Int)),(91,.int .u64 (i:Int))])
  (λi w'=>i<=L.length/\Ext ha w') (λi=>L.length-i) 0 sB ⟨Nat.zero_le _,Ext.refl _⟩ ?_
 rintro i e4 ⟨hi,c5⟩;refine ciR (λh=>?_) (λh=>?_)
 .have li:i<L.length:=by have:=oT h;omega
  clear h;have f6:Ext e4 e4.drew:=(Ext.refl e4).drew;have d7:=d8.trans c5;refine drR (scq 11 [2,3]) ?_;refine Qz (λj u hu=>((ew.ext d7).ext f6).at hu) ?_;refine Jh (Kw i om _) ?_;rintro o f3 ⟨ho,_,ag⟩;refine⟨ag,?_⟩;refine ρd ?_;have fd:=(((fe.ext d9).ext d7).ext f6).ext ag;refine dcl (Jbh fd ho fd.sz (nR _) fd.f32) ?_;rintro u e3 ⟨c1,_,ii⟩;obtain⟨RA,rc,j6,rfl,hR,fr,_⟩:=ii (by rw[ca];exact li);rw[ca]at hR fr;refine⟨c1,?_⟩;rw[ca];have bo:=(f6.trans ag).trans c1;have f5:Ext e3 e3.drew:=(Ext.refl e3).drew;have d4:=d5.trans c5;refine ρd ?_;refine drR (scq 11 [2,3]) ?_;refine Qz (λj u hu=>(((dx.ext d4).ext bo).ext f5).at hu) ?_;refine Jh (Kw i om _) ?_;rintro o2 f2 ⟨ad,_,bd⟩;refine⟨bd,?_⟩;refine Jh (Xyj ((((br.ext d4).ext bo).ext f5).ext bd) ad) ?_;rintro u ez ⟨bc,dm⟩;unfold AtR at dm;rw[getD_some li]at dm;obtain⟨GA,gc,j5,rfl,hG,ia,_⟩:=dm
  refine⟨bc,?_⟩;have dc:=(f5.trans bd).trans bc;have k6:=im _ (getD_mem' [] L li);refine ρd ?_;refine clR (Jwp (a:=L.getD i []) (b:=L.getD i []) ⟨RA,rc,rfl,fr,om,Rd.ext hR dc⟩ ⟨GA,gc,rfl,ia,om,hG⟩) ?_;rintro _ h9 ⟨rfl,db⟩;rw[decide_eq_true rfl];refine ρ ?_;rw[Kj (z:=(i:Int)+1) om];exact Qn (i+1) sO ⟨li,((c5.trans bo).trans dc).trans db⟩ om
 clear h
 -- the meet,the union
 have ao:=f7.trans c5;have f9:∀ p∈git,Off N e4 λW=>InC W (Zq f ds (Qd f (Jr p.2))) p.1:=λp hp=>(bh p hp).ext ao;have fz:=ba.hs.meetN_any (c:=ic) bq (λk hk=>nM (du k hk).2 ao.size) (by rw[dj];exact dg.ext ao) f9;rw[dj,ae,Jtv]at fz;refine clR fz ?_;rintro u f3 ⟨ag,k5,rfl,g4⟩;obtain⟨mn,mf,MD,MQ,MT,md,mq,mt,ck,cj,ch,em⟩:=g4.here.five;subst em;refine Jv Yo ?_;intro e3 cv c1 gg gx;refine Qp gx ?_;intro f2 ee ja bd;have c2:Ext f3 f2:=bd f3 c1 gg;have c3:=ag.trans c2;have an:=ao.trans c3;have gb:=bldP (c:=ic) (dt.ext an) ba bq (by rw[dj];exact dg.ext an) (λp hp=>((bh p hp).ext an).here);rw[dj]at gb;refine clR gb ?_;rintro u ez ⟨bc,kh,jz,D2,rfl,il,iw,gj⟩;obtain⟨A2,a2,M2,m2,S2,s2,hb,gz,_⟩:=id il.ex;subst gz;refine Jv Vc ?_;intro h9 cr db gf gw;refine Qp gw ?_;intro fi ec j8 fq;have bz:Ext ez fi:=fq ez db gf;have ay:=bc.trans bz;have az:=an.trans ay
 -- the inputs turned round
 have j1:Fiv its:=λp hp=>by
  have i3:(p.1,[p.2])∈git:=by rw[ap];exact List.mem_map.2 ⟨p,hp,rfl⟩
  obtain⟨n',f',A',B',C',a',b',c',kn,km,kk,e⟩:=(bh _ i3).here.five;exact⟨_,_,_,_,_,e,Ko⟩
 refine clR (Qmq (Jk dh az) j1 e7 om) ?_;rintro u ai ⟨i7,f8⟩;have cn:GrN N fi ai:=GrN.by i7 λk hk=>by rw[hN];exact hk
 have b1:Ext w ai:=cn.old (cm.trans az) λk hk=>(du k hk).1;have b8:=hTB.ext b1;have z1:=ao.size;have jd:=c3.size;have jc:=bc.size;have j2:=az.size;have je:=ag.size;have ke:=hTB.le;have dn:UnV ai D2 [.int .i64 (D2.k:Int),.int .i64 (D2.f:Int),.slice A2 D2.f a2,.slice M2 D2.n m2,.slice S2 s2 hb] :=
  gj ai ((GrN.ext bz).trans (cn.mono λk _ hk=>by have h:=du k hk;have h3:=an.size;show B0<=k/\k<f2.heap.size;omega))
 have bb:=Jb ec cn λh=>by have:=(du _ h).2;omega
 have ed:=Jb (ee.ext ay) cn λh=>by have:=(du _ h).2;omega
 have g5:InC ai (Zq f ds (Qd f (Jr ps))) [.int .i64 mn,.int .i64 mf,.slice MD md ck,.slice MQ mq cj,.slice MT mt ch]:=g4 ai ((GrN.ext (c2.trans ay)).trans cn);have g9:git.reverse=its.reverse.map λp=>(p.1,[p.2]):=by rw[ap,List.map_reverse]
 have ga:Jd git.reverse=Jd its.reverse:=by rw[g9];unfold Jd;rw[List.flatMap_map]
 have c7:git.reverse.length=its.length:=by rw[List.length_reverse,dj]
 have a8:Rd ai 5 IA its.length (Jd git.reverse):=by rw[ga];exact Rd.own f8
 have aq:GiOk ai f ds git.reverse:=λp hp=>bh p (List.mem_reverse.1 hp) ai ((GrN.ext az).trans cn);have bg:git.reverse.map (·.2)=sgl ps.reverse:=by rw[List.map_reverse,ae,sgl,sgl,List.map_reverse]
 have ft:∀ p∈ps.reverse,CsM f ds p:=λp hp=>hps p (List.mem_reverse.1 hp);have dw:CsU (git.reverse.map (·.2)) f ds:=by rw[bg];exact Jdp (by rw[List.length_reverse];exact g1) (by rw[List.length_reverse];exact g3) ft
 have b4:∀ g,g∈git.reverse.map (·.2)↔g∈sgl ps:=λg=>by rw[List.map_reverse,List.mem_reverse,ae]
 have au:D2.U=Zl ds (sgl ps):=by rw[iw,ae]
 have gd:=bldP (c:=ic) b8 dw bq (by rw[c7];exact a8) aq;rw[c7]at gd;refine clR gd ?_;rintro u fh ⟨fp,kg,jy,D3,rfl,gi,iu,_⟩;obtain⟨A3,a3,M3,m3,S3,s3,k3,gy,_⟩:=id gi.ex;subst gy;refine Jv Vc ?_;intro ju cq fo ge gu;refine Qp gu ?_;intro a6 eb j7 fl;have bw:Ext fh a6:=fl fh fo ge;have ax:=fp.trans bw;have gn:D3.U=D2.U:=by rw[iu,au];exact anyL_set' b4
 have gh:=gi.ext bw;refine ρ ?_
 -- the first input again
 obtain⟨h0,g8⟩:∃ h0,h0=git.reverse.getD 0 ([],[]):=⟨_,rfl⟩;have c6:h0∈git.reverse:=by rw[g8];exact getD_mem' ([],[]) git.reverse om
 obtain⟨n1,f1,cy,cx,cw,cp,cg,cd,co,ce,cb,e1⟩:=(aq h0 c6).five;have e9:∀ {W:World} (hx:Ext ai W) (j:Nat) (u:Value),[Value.int .i64 n1,.int .i64 f1,.slice cy cp co,.slice cx cg ce,.slice cw cd cb][j]?=some u->W.cell? ((adr IA (0*5)).add j)=some u:=λhx j u hu=>by
  rw[<-e1]at hu;rw[Xx];refine(a8.ext hx).cell ?_;have hj:j<5:=by have:=(List.getElem?_eq_some_iff.1 hu).1;rw[e1]at this;exact this
  rw[Kd (p:=h0) (λp hp=>?_) (by rw[g8,List.getD,List.getElem?_eq_getElem om];rfl) hj]
  .exact hu
  obtain⟨_,_,_,_,_,_,_,_,_,_,_,e⟩:=(aq p hp).five;rw[e];rfl
 have a5:∀ u∈Jd git.reverse,u.oneCell'=true:=λu hu=>by
  obtain⟨p,hp,hu⟩:=List.mem_flatMap.1 hu;obtain⟨_,_,_,_,_,_,_,_,_,_,_,e⟩:=(aq p hp).five;rw[e]at hu;exact Ko u hu
 have dv:∀ g:List CsA,g≠[]->g.length<=2->(∀ p∈g,CsM f ds p)->∀ cs:List Value,CsU ((git.reverse++[(cs,g)]).map (·.2)) f ds:=λg e8 j9 i8 cs=>by
  rw[List.map_append,bg];have ib:(sgl ps.reverse++[g]).flatten=ps.reverse++g:=by simp[Jtv]
  refine⟨by simp,by simp[Jxs];omega,by rw[show List.map (λx:GI=>x.2) [(cs,g)]=[g] from rfl,ib,List.length_append,List.length_reverse];omega,λg' fa=>?_,λg' fa=>?_⟩
  .rcases List.mem_append.1 fa with h|h
   .exact(bg ▸ dw).ne g' h
   rw[List.mem_singleton.1 h];exact e8
  rcases List.mem_append.1 fa with h|h
  .exact(bg ▸ dw).ok g' h
  rw[List.mem_singleton.1 h];exact i8
 have di:h0.2≠[]/\h0.2.length<=2/\∀ p∈h0.2,CsM f ds p:=by
  have hm:h0.2∈git.reverse.map (·.2):=List.mem_map_of_mem c6
  refine⟨dw.ne _ hm,?_,dw.ok _ hm⟩;rw[bg]at hm;obtain⟨q,_,e⟩:=List.mem_map.1 hm;rw[<-e];exact Nat.le_succ 1
 have fg:∀(v:World) (A9:Option Addr) (c9:Nat),Ext a6.drew v->Rd v 5 A9 (its.length+1) (Jd git.reverse++[Value.int .i64 n1,.int .i64 f1,.slice cy cp co,.slice cx cg ce,.slice cw cd cb])->Ret Tryz.prog 6 [.slice A9 (its.length+1) c9] v λu w'=>Ext v w'/\∃ y:UY,u=.tuple #[.agg y.cs.toArray,.int .i64 y.st,.int .i64 0]/\UnV w' y.D y.cs/\Off (λk=>B0<=k/\k<v.heap.size) w' (λW=>UnV W y.D y.cs)/\y.D.U=Zl ds (git.reverse.map (·.2)++[h0.2]):=λv A9 c9 hy hr=>by
  have bl:=(ax.trans (Ext.refl a6).drew).trans hy;refine bldY (git:=git.reverse) (p:=([.int .i64 n1,.int .i64 f1,.slice cy cp co,.slice cx cg ce,.slice cw cd cb],h0.2)) (b8.ext bl) c7 (dv h0.2 di.1 di.2.1 di.2.2 _) bq hr λp hp=>?_;rcases List.mem_append.1 hp with h|h
  .exact(aq p h).ext bl
  rw[List.mem_singleton.1 h,<-e1];exact(aq h0 c6).ext bl
 have e2:B0<=a6.drew.heap.size:=by have h1:=ax.size;have h2:a6.drew.heap.size=a6.heap.size:=rfl;have h3:=b1.size;omega
 -- region a
 have d1:Ext a6 a6.drew:=(Ext.refl a6).drew;have ah:Ext ai a6.drew:=ax.trans d1;refine drM (λk=>a6.drew.heap.size<=k) ?_;refine Zo (fuel':=12) [(0,0),(0,2),(0,3),(0,4)] #[true,false,true,true,true,false,false,false,false,false,false,false,false,false,false,false] kr kr rfl ?_;refine ρn ?_;refine Uz 5 0 (a8.ext ah) e7 ?_;refine ρn ?_;refine Xn (cs:=[.int .i64 n1,.int .i64 f1,.slice cy cp co,.slice cx cg ce,.slice cw cd cb]) (λw' hg j u hu=>e9 (ah.trans (hg.old (Ext.refl _) λk hk=>hk)) j u hu) ?_;refine ρn ?_;refine Zu ?_;refine Iz 3 (lst 16 13) (fun (y:UY)=>[(29,.pointer (some ⟨y.b,0,none⟩)),(151,.agg y.cs.toArray),(152,.int .i64 y.st),(153,.int .i64 0),(2,.bool false),(3,.slice IA its.length ic),(21,.pointer (some ⟨cv,0,none⟩)),(22,.int .i64 0),(23,.pointer (some ⟨cr,0,none⟩)),(25,.int .i64 0),(26,.pointer (some ⟨cq,0,none⟩)),(28,.int .i64 0)])
  (λy W=>Ext a6.drew W/\Blk W y.b 33 [.int .i64 0,.int .i64 0,.slice none 0 0,.slice none 0 0,.slice none 0 0]/\a6.drew.heap.size<=y.b/\Off (λk=>k=y.b) W (λW=>UnV W y.D y.cs)/\y.D.U=Zl ds (git.reverse.map (·.2)++[h0.2])) ?_ ?_
 rotate_left
 .intro ab;refine Iz 9 #[true,true,true,true,true,true,false,false,false,false,false,false,true,false,false,false] (fun (y:Option Addr×Nat×Nat×Nat)=>[(29,.pointer (some ⟨y.2.2.2,0,none⟩)),(144,.slice y.1 its.length y.2.1),(148,.slice (some ⟨y.2.2.1,0,none⟩) 1 1),(2,.bool false),(3,.slice IA its.length ic),(21,.pointer (some ⟨cv,0,none⟩)),(22,.int .i64 0),(23,.pointer (some ⟨cr,0,none⟩)),(25,.int .i64 0),(26,.pointer (some ⟨cq,0,none⟩)),(28,.int .i64 0)])
   (λy W=>Ext a6.drew W/\W.ownsRow a6.drew.heap.size 40 5 (.slice y.1 its.length y.2.1) its.length (Jd git.reverse)/\Blk W y.2.2.1 40 [Value.int .i64 n1,.int .i64 f1,.slice cy cp co,.slice cx cg ce,.slice cw cd cb]/\Blk W y.2.2.2 33 [.int .i64 0,.int .i64 0,.slice none 0 0,.slice none 0 0,.slice none 0 0]/\a6.drew.heap.size<=y.2.2.2) ?_ ?_
  .rintro⟨CA,cc,b2,b3⟩ v1 ⟨J,ho,Z,O,ar⟩;simp only at ho Z O ar;obtain⟨_,_,_,_,bp⟩:=Jy ho;refine Xp 6 kr rfl rfl ?_;refine apo (a:=a6.drew) J Jjr ho (Z.rd (n:=1) rfl) Ko (by unfold maxLen;omega) om ?_;intro v' v2 ad C ae _;have bf:=Jb O (GrN.by ae λk hk=>hk) λe=>O.ne_own ho rfl e.symm;obtain⟨A9,c9,rfl,fb,_⟩:=Jy ad;refine Jw (Ju (GrN.by ae λj hj=>(bp j hj).1) ?_);refine Xp 7 kr rfl rfl ?_;refine cl (fg v2 A9 c9 C (Rd.own ad)) ?_;rintro u v3 ⟨G,y,rfl,bj,aw,ak⟩;refine Jw (Ju (GrN.ext G) ?_);refine Zo (fuel':=3) [(0,8),(0,9),(0,10),(0,11)] (lst 16 13) kr kr rfl ?_;refine ρn ?_;refine Zu ?_;have bi:=bf.lt;exact ab { y with b:=b3 } _ _ ⟨C.trans G,bf.ext G,ar,aw.mono (λk _ hk=>by rw[hk];exact⟨nL e2 ar,bi⟩),ak⟩ sB
  intro a7;refine Iz 10 (lst 16 6) (fun (y:Option Addr×Nat×Nat)=>[(144,.slice y.1 its.length y.2.1),(148,.slice (some ⟨y.2.2,0,none⟩) 1 1),(2,.bool false),(3,.slice IA its.length ic),(21,.pointer (some ⟨cv,0,none⟩)),(22,.int .i64 0),(23,.pointer (some ⟨cr,0,none⟩)),(25,.int .i64 0),(26,.pointer (some ⟨cq,0,none⟩)),(28,.int .i64 0)])
   (λy W=>Ext a6.drew W/\W.ownsRow a6.drew.heap.size 40 5 (.slice y.1 its.length y.2.1) its.length (Jd git.reverse)/\Blk W y.2.2 40 [Value.int .i64 n1,.int .i64 f1,.slice cy cp co,.slice cx cg ce,.slice cw cd cb]) ?_ ?_
  .rintro⟨CA,cc,b2⟩ v1 ⟨J,ho,Z⟩;simp only at ho Z;obtain⟨_,_,_,_,bp⟩:=Jy ho;refine Yr 6 12 kr rfl rfl rfl ?_ ?_
   .refine apo (a:=a6.drew) J Jjr ho (Z.rd (n:=1) rfl) Ko (by unfold maxLen;omega) om ?_;intro v' v2 ad C ae _;obtain⟨A9,c9,rfl,fb,_⟩:=Jy ad;refine Jw (Ju (GrN.by ae λj hj=>(bp j hj).1) ?_);refine Yr 7 12 kr rfl rfl rfl ?_ ?_
    .refine cl (fg v2 A9 c9 C (Rd.own ad)) ?_;rintro u v3 ⟨G,y,rfl,bj,aw,ak⟩;refine Jw (Ju (GrN.ext G) ?_);refine Zo (fuel':=4) [(0,8),(0,9),(0,10),(0,11)] #[true,true,true,true,true,true,true,true,true,true,true,true,false,false,false,false] kr kr rfl ?_;refine ρn ?_;refine Zu ?_;refine Xp 12 kr rfl rfl ?_;refine alc Vc ?_;intro v4 b3 ac a4 O;refine Jw (Ju (GrN.ext ac) ?_);refine Zw (listed':=lst 16 13) kr ?_;exact ab { y with b:=b3 } _ _ ⟨(C.trans G).trans ac,O,Nat.le_trans (C.trans G).size a4,Off.old (λu hu=>bj.ext hu) ac (λk hk=>by rw[hk];exact a4),ak⟩ sB
    refine alc Vc ?_;intro v3 b3 G a4 O;refine Jw (Ju (GrN.ext G) ?_);refine Xp 7 kr rfl rfl ?_;refine cl (fg v3 A9 c9 (C.trans G) (Rd.own (Jk ad G))) ?_;rintro u v4 ⟨ac,y,rfl,bj,aw,ak⟩;refine Jw (Ju (GrN.ext ac) ?_);refine Zo (fuel':=3) [(0,8),(0,9),(0,10),(0,11)] (lst 16 13) kr kr rfl ?_;refine ρn ?_;refine Zu ?_;have bi:=O.lt;have cz:=nL C.size a4;exact ab { y with b:=b3 } _ _ ⟨(C.trans G).trans ac,O.ext ac,cz,aw.mono (λk _ hk=>by rw[hk];exact⟨nL e2 cz,bi⟩),ak⟩ sB
   refine alc Vc ?_;intro v2 b3 C a4 O;refine Jw (Ju (GrN.ext C) ?_);refine Zw (listed':=#[true,true,true,true,true,true,false,false,false,false,false,false,true,false,false,false]) kr ?_;exact a7 (CA,cc,b2,b3) _ _ ⟨J.trans C,Jk ho C,Z.ext C,O,Nat.le_trans J.size a4⟩ sB
  intro aj;refine Qxj 1 5 12 kr rfl rfl rfl rfl ?_ ?_ ?_
  .refine cl (Kg (a:=a6.drew) (Ext.refl _) (a8.ext ah) a5 om) ?_;rintro u v1 ⟨ho,J⟩;obtain⟨CA,cc,rfl,b5,_⟩:=Jy ho;refine Jw (Ju (GrN.ext J) ?_);refine Yr 5 12 kr rfl rfl rfl ?_ ?_
   .refine bsl (Uw _ _ _ _ _ _ _ _ _ _ _) ?_;intro v2 b2 C b7 Z;refine Jw (Ju (GrN.ext C) ?_);refine Zw (listed':=lst 16 6) kr ?_;exact aj (CA,cc,b2) _ _ ⟨J.trans C,Jk ho C,Z⟩ sB
   refine alc Vc ?_;intro v2 b3 C a4 O;refine Jw (Ju (GrN.ext C) ?_);refine Xp 5 kr rfl rfl ?_;refine bsl (Uw _ _ _ _ _ _ _ _ _ _ _) ?_;intro v3 b2 G b7 Z;refine Jw (Ju (GrN.ext G) ?_);refine Zw (listed':=#[true,true,true,true,true,true,false,false,false,false,false,false,true,false,false,false]) kr ?_;exact a7 (CA,cc,b2,b3) _ _ ⟨(J.trans C).trans G,Jk (Jk ho C) G,Z,O.ext G,Nat.le_trans J.size a4⟩ sB
  .refine bsl (Uw _ _ _ _ _ _ _ _ _ _ _) ?_;intro v1 b2 J b7 Z;refine Jw (Ju (GrN.ext J) ?_);refine Yr 1 12 kr rfl rfl rfl ?_ ?_
   .refine cl (Kg J (a8.ext (ah.trans J)) a5 om) ?_;rintro u v2 ⟨ho,C⟩;obtain⟨CA,cc,rfl,b5,_⟩:=Jy ho;refine Jw (Ju (GrN.ext C) ?_);refine Zw (listed':=lst 16 6) kr ?_;exact aj (CA,cc,b2) _ _ ⟨J.trans C,ho,Z.ext C⟩ sB
   refine alc Vc ?_;intro v2 b3 C a4 O;refine Jw (Ju (GrN.ext C) ?_);refine Xp 1 kr rfl rfl ?_;refine cl (Kg (J.trans C) (a8.ext (ah.trans (J.trans C))) a5 om) ?_;rintro u v3 ⟨ho,G⟩;obtain⟨CA,cc,rfl,b5,_⟩:=Jy ho;refine Jw (Ju (GrN.ext G) ?_);refine Zw (listed':=#[true,true,true,true,true,true,false,false,false,false,false,false,true,false,false,false]) kr ?_;exact a7 (CA,cc,b2,b3) _ _ ⟨(J.trans C).trans G,ho,(Z.ext C).ext G,O.ext G,Nat.le_trans J.size a4⟩ sB
  refine alc Vc ?_;intro v1 b3 J a4 O;refine Jw (Ju (GrN.ext J) ?_);refine Yr 1 5 kr rfl rfl rfl ?_ ?_
  .refine cl (Kg J (a8.ext (ah.trans J)) a5 om) ?_;rintro u v2 ⟨ho,C⟩;obtain⟨CA,cc,rfl,b5,_⟩:=Jy ho;refine Jw (Ju (GrN.ext C) ?_);refine Xp 5 kr rfl rfl ?_;refine bsl (Uw _ _ _ _ _ _ _ _ _ _ _) ?_;intro v3 b2 G b7 Z;refine Jw (Ju (GrN.ext G) ?_);refine Zw (listed':=#[true,true,true,true,true,true,false,false,false,false,false,false,true,false,false,false]) kr ?_;exact a7 (CA,cc,b2,b3) _ _ ⟨(J.trans C).trans G,Jk ho G,Z,(O.ext C).ext G,a4⟩ sB
  refine bsl (Uw _ _ _ _ _ _ _ _ _ _ _) ?_;intro v2 b2 C b7 Z;refine Jw (Ju (GrN.ext C) ?_);refine Xp 1 kr rfl rfl ?_;refine cl (Kg (J.trans C) (a8.ext (ah.trans (J.trans C))) a5 om) ?_;rintro u v3 ⟨ho,G⟩;obtain⟨CA,cc,rfl,b5,_⟩:=Jy ho;refine Jw (Ju (GrN.ext G) ?_);refine Zw (listed':=#[true,true,true,true,true,true,false,false,false,false,false,false,true,false,false,false]) kr ?_;exact a7 (CA,cc,b2,b3) _ _ ⟨(J.trans C).trans G,ho,Z.ext G,(O.ext C).ext G,a4⟩ sB
 rintro h6 va ⟨hh,en,dl,gm,eu⟩;obtain⟨ey,h8,j4,jt,jn,jr,jk,jp,ji,jg⟩:=h6;simp only[UY.cs]at en dl gm eu ⊢;refine Xp 13 kr rfl rfl ?_;refine stW en ?_;intro xa g7 er fk;have df:Ext a6.drew xa:=fk a6.drew hh dl;have ik:=gm xa (GrN.by er λk hk=>by injection hk with hk;exact hk.symm);refine Jw (Ju (GrN.by er λk hk=>by injection hk with hk;rw[<-hk];exact dl) ?_);refine Zo (fuel':=0) [(0,14),(0,15)] (lst 16 16) kr kr rfl ?_;refine ρn ?_;refine Zu ?_;refine Jzr kr ?_
 -- end a
 -- the meet beside the members
 have bm:=ah.trans df;have ff:∀(v:World) (A9:Option Addr) (c9:Nat),Ext xa.drew v->Rd v 5 A9 (its.length+1) (Jd git.reverse++[Value.int .i64 mn,.int .i64 mf,.slice MD md ck,.slice MQ mq cj,.slice MT mt ch])->Ret Tryz.prog 6 [.slice A9 (its.length+1) c9] v λu w'=>Ext v w'/\∃ y:UY,u=.tuple #[.agg y.cs.toArray,.int .i64 y.st,.int .i64 0]/\UnV w' y.D y.cs/\Off (λk=>B0<=k/\k<v.heap.size) w' (λW=>UnV W y.D y.cs)/\y.D.U=Zl ds (git.reverse.map (·.2)++[ps]):=λv A9 c9 hy hr=>by
  have bl:=(bm.trans (Ext.refl xa).drew).trans hy;refine bldY (git:=git.reverse) (p:=([.int .i64 mn,.int .i64 mf,.slice MD md ck,.slice MQ mq cj,.slice MT mt ch],ps)) (b8.ext bl) c7 (dv ps fu g2 hps _) bq hr λp hp=>?_;rcases List.mem_append.1 hp with h|h
  .exact(aq p h).ext bl
  rw[List.mem_singleton.1 h];exact g5.ext bl
 have dz:B0<=xa.drew.heap.size:=by have h1:=bm.size;have h2:xa.drew.heap.size=xa.heap.size:=rfl;have h3:=b1.size;omega
 refine ρ ?_
 -- region b
 have eg:Ext xa xa.drew:=(Ext.refl xa).drew;have am:Ext ai xa.drew:=bm.trans eg;refine drM (λk=>xa.drew.heap.size<=k) ?_;refine Zo (fuel':=12) [(0,0),(0,2)] #[true,false,true,false,false,false,false,false,false,false,false,false,false,false] kr kr rfl ?_;refine ρn ?_;refine Xn (cs:=[.int .i64 mn,.int .i64 mf,.slice MD md ck,.slice MQ mq cj,.slice MT mt ch]) (λw' hg j u hu=>((ed.ext am).ext (hg.old (Ext.refl _) λk hk=>hk)).at hu) ?_;refine ρn ?_;refine Zu ?_;refine Iz 3 (lst 14 11) (fun (y:UY)=>[(32,.pointer (some ⟨y.b,0,none⟩)),(161,.agg y.cs.toArray),(162,.int .i64 y.st),(163,.int .i64 0),(2,.bool false),(3,.slice IA its.length ic),(21,.pointer (some ⟨cv,0,none⟩)),(22,.int .i64 0),(23,.pointer (some ⟨cr,0,none⟩)),(25,.int .i64 0),(26,.pointer (some ⟨cq,0,none⟩)),(28,.int .i64 0),(29,.pointer (some ⟨ey,0,none⟩)),(31,.int .i64 0)])
  (λy W=>Ext xa.drew W/\Blk W y.b 33 [.int .i64 0,.int .i64 0,.slice none 0 0,.slice none 0 0,.slice none 0 0]/\xa.drew.heap.size<=y.b/\Off (λk=>k=y.b) W (λW=>UnV W y.D y.cs)/\y.D.U=Zl ds (git.reverse.map (·.2)++[ps])) ?_ ?_
 rotate_left
 .intro ab;refine Iz 9 #[true,true,true,true,false,false,false,false,false,false,true,false,false,false] (fun (y:Option Addr×Nat×Nat×Nat)=>[(32,.pointer (some ⟨y.2.2.2,0,none⟩)),(156,.slice y.1 its.length y.2.1),(158,.slice (some ⟨y.2.2.1,0,none⟩) 1 1),(2,.bool false),(3,.slice IA its.length ic),(21,.pointer (some ⟨cv,0,none⟩)),(22,.int .i64 0),(23,.pointer (some ⟨cr,0,none⟩)),(25,.int .i64 0),(26,.pointer (some ⟨cq,0,none⟩)),(28,.int .i64 0),(29,.pointer (some ⟨ey,0,none⟩)),(31,.int .i64 0)])
   (λy W=>Ext xa.drew W/\W.ownsRow xa.drew.heap.size 40 5 (.slice y.1 its.length y.2.1) its.length (Jd git.reverse)/\Blk W y.2.2.1 40 [Value.int .i64 mn,.int .i64 mf,.slice MD md ck,.slice MQ mq cj,.slice MT mt ch]/\Blk W y.2.2.2 33 [.int .i64 0,.int .i64 0,.slice none 0 0,.slice none 0 0,.slice none 0 0]/\xa.drew.heap.size<=y.2.2.2) ?_ ?_
  .rintro⟨CA,cc,b2,b3⟩ v1 ⟨J,ho,Z,O,ar⟩;simp only at ho Z O ar;obtain⟨_,_,_,_,bp⟩:=Jy ho;refine Xp 4 kr rfl rfl ?_;refine apo (a:=xa.drew) J Jjr ho (Z.rd (n:=1) rfl) Ko (by unfold maxLen;omega) om ?_;intro v' v2 ad C ae _;have bf:=Jb O (GrN.by ae λk hk=>hk) λe=>O.ne_own ho rfl e.symm;obtain⟨A9,c9,rfl,fb,_⟩:=Jy ad;refine Jw (Ju (GrN.by ae λj hj=>(bp j hj).1) ?_);refine Xp 5 kr rfl rfl ?_;refine cl (ff v2 A9 c9 C (Rd.own ad)) ?_;rintro u v3 ⟨G,y,rfl,bj,aw,ak⟩;refine Jw (Ju (GrN.ext G) ?_);refine Zo (fuel':=3) [(0,6),(0,7),(0,8),(0,9)] (lst 14 11) kr kr rfl ?_;refine ρn ?_;refine Zu ?_;have bi:=bf.lt;exact ab { y with b:=b3 } _ _ ⟨C.trans G,bf.ext G,ar,aw.mono (λk _ hk=>by rw[hk];exact⟨nL dz ar,bi⟩),ak⟩ sB
  intro a7;refine Iz 10 (lst 14 4) (fun (y:Option Addr×Nat×Nat)=>[(156,.slice y.1 its.length y.2.1),(158,.slice (some ⟨y.2.2,0,none⟩) 1 1),(2,.bool false),(3,.slice IA its.length ic),(21,.pointer (some ⟨cv,0,none⟩)),(22,.int .i64 0),(23,.pointer (some ⟨cr,0,none⟩)),(25,.int .i64 0),(26,.pointer (some ⟨cq,0,none⟩)),(28,.int .i64 0),(29,.pointer (some ⟨ey,0,none⟩)),(31,.int .i64 0)])
   (λy W=>Ext xa.drew W/\W.ownsRow xa.drew.heap.size 40 5 (.slice y.1 its.length y.2.1) its.length (Jd git.reverse)/\Blk W y.2.2 40 [Value.int .i64 mn,.int .i64 mf,.slice MD md ck,.slice MQ mq cj,.slice MT mt ch]) ?_ ?_
  .rintro⟨CA,cc,b2⟩ v1 ⟨J,ho,Z⟩;simp only at ho Z;obtain⟨_,_,_,_,bp⟩:=Jy ho;refine Yr 4 10 kr rfl rfl rfl ?_ ?_
   .refine apo (a:=xa.drew) J Jjr ho (Z.rd (n:=1) rfl) Ko (by unfold maxLen;omega) om ?_;intro v' v2 ad C ae _;obtain⟨A9,c9,rfl,fb,_⟩:=Jy ad;refine Jw (Ju (GrN.by ae λj hj=>(bp j hj).1) ?_);refine Yr 5 10 kr rfl rfl rfl ?_ ?_
    .refine cl (ff v2 A9 c9 C (Rd.own ad)) ?_;rintro u v3 ⟨G,y,rfl,bj,aw,ak⟩;refine Jw (Ju (GrN.ext G) ?_);refine Zo (fuel':=4) [(0,6),(0,7),(0,8),(0,9)] #[true,true,true,true,true,true,true,true,true,true,false,false,false,false] kr kr rfl ?_;refine ρn ?_;refine Zu ?_;refine Xp 10 kr rfl rfl ?_;refine alc Vc ?_;intro v4 b3 ac a4 O;refine Jw (Ju (GrN.ext ac) ?_);refine Zw (listed':=lst 14 11) kr ?_;exact ab { y with b:=b3 } _ _ ⟨(C.trans G).trans ac,O,Nat.le_trans (C.trans G).size a4,Off.old (λu hu=>bj.ext hu) ac (λk hk=>by rw[hk];exact a4),ak⟩ sB
    refine alc Vc ?_;intro v3 b3 G a4 O;refine Jw (Ju (GrN.ext G) ?_);refine Xp 5 kr rfl rfl ?_;refine cl (ff v3 A9 c9 (C.trans G) (Rd.own (Jk ad G))) ?_;rintro u v4 ⟨ac,y,rfl,bj,aw,ak⟩;refine Jw (Ju (GrN.ext ac) ?_);refine Zo (fuel':=3) [(0,6),(0,7),(0,8),(0,9)] (lst 14 11) kr kr rfl ?_;refine ρn ?_;refine Zu ?_;have bi:=O.lt;have cz:=nL C.size a4;exact ab { y with b:=b3 } _ _ ⟨(C.trans G).trans ac,O.ext ac,cz,aw.mono (λk _ hk=>by rw[hk];exact⟨nL dz cz,bi⟩),ak⟩ sB
   refine alc Vc ?_;intro v2 b3 C a4 O;refine Jw (Ju (GrN.ext C) ?_);refine Zw (listed':=#[true,true,true,true,false,false,false,false,false,false,true,false,false,false]) kr ?_;exact a7 (CA,cc,b2,b3) _ _ ⟨J.trans C,Jk ho C,Z.ext C,O,Nat.le_trans J.size a4⟩ sB
  intro aj;refine Qxj 1 3 10 kr rfl rfl rfl rfl ?_ ?_ ?_
  .refine cl (Kg (a:=xa.drew) (Ext.refl _) (a8.ext am) a5 om) ?_;rintro u v1 ⟨ho,J⟩;obtain⟨CA,cc,rfl,b5,_⟩:=Jy ho;refine Jw (Ju (GrN.ext J) ?_);refine Yr 3 10 kr rfl rfl rfl ?_ ?_
   .refine bsl (Uw _ _ _ _ _ _ _ _ _ _ _) ?_;intro v2 b2 C b7 Z;refine Jw (Ju (GrN.ext C) ?_);refine Zw (listed':=lst 14 4) kr ?_;exact aj (CA,cc,b2) _ _ ⟨J.trans C,Jk ho C,Z⟩ sB
   refine alc Vc ?_;intro v2 b3 C a4 O;refine Jw (Ju (GrN.ext C) ?_);refine Xp 3 kr rfl rfl ?_;refine bsl (Uw _ _ _ _ _ _ _ _ _ _ _) ?_;intro v3 b2 G b7 Z;refine Jw (Ju (GrN.ext G) ?_);refine Zw (listed':=#[true,true,true,true,false,false,false,false,false,false,true,false,false,false]) kr ?_;exact a7 (CA,cc,b2,b3) _ _ ⟨(J.trans C).trans G,Jk (Jk ho C) G,Z,O.ext G,Nat.le_trans J.size a4⟩ sB
  .refine bsl (Uw _ _ _ _ _ _ _ _ _ _ _) ?_;intro v1 b2 J b7 Z;refine Jw (Ju (GrN.ext J) ?_);refine Yr 1 10 kr rfl rfl rfl ?_ ?_
   .refine cl (Kg J (a8.ext (am.trans J)) a5 om) ?_;rintro u v2 ⟨ho,C⟩;obtain⟨CA,cc,rfl,b5,_⟩:=Jy ho;refine Jw (Ju (GrN.ext C) ?_);refine Zw (listed':=lst 14 4) kr ?_;exact aj (CA,cc,b2) _ _ ⟨J.trans C,ho,Z.ext C⟩ sB
   refine alc Vc ?_;intro v2 b3 C a4 O;refine Jw (Ju (GrN.ext C) ?_);refine Xp 1 kr rfl rfl ?_;refine cl (Kg (J.trans C) (a8.ext (am.trans (J.trans C))) a5 om) ?_;rintro u v3 ⟨ho,G⟩;obtain⟨CA,cc,rfl,b5,_⟩:=Jy ho;refine Jw (Ju (GrN.ext G) ?_);refine Zw (listed':=#[true,true,true,true,false,false,false,false,false,false,true,false,false,false]) kr ?_;exact a7 (CA,cc,b2,b3) _ _ ⟨(J.trans C).trans G,ho,(Z.ext C).ext G,O.ext G,Nat.le_trans J.size a4⟩ sB
  refine alc Vc ?_;intro v1 b3 J a4 O;refine Jw (Ju (GrN.ext J) ?_);refine Yr 1 3 kr rfl rfl rfl ?_ ?_
  .refine cl (Kg J (a8.ext (am.trans J)) a5 om) ?_;rintro u v2 ⟨ho,C⟩;obtain⟨CA,cc,rfl,b5,_⟩:=Jy ho;refine Jw (Ju (GrN.ext C) ?_);refine Xp 3 kr rfl rfl ?_;refine bsl (Uw _ _ _ _ _ _ _ _ _ _ _) ?_;intro v3 b2 G b7 Z;refine Jw (Ju (GrN.ext G) ?_);refine Zw (listed':=#[true,true,true,true,false,false,false,false,false,false,true,false,false,false]) kr ?_;exact a7 (CA,cc,b2,b3) _ _ ⟨(J.trans C).trans G,Jk ho G,Z,(O.ext C).ext G,a4⟩ sB
  refine bsl (Uw _ _ _ _ _ _ _ _ _ _ _) ?_;intro v2 b2 C b7 Z;refine Jw (Ju (GrN.ext C) ?_);refine Xp 1 kr rfl rfl ?_;refine cl (Kg (J.trans C) (a8.ext (am.trans (J.trans C))) a5 om) ?_;rintro u v3 ⟨ho,G⟩;obtain⟨CA,cc,rfl,b5,_⟩:=Jy ho;refine Jw (Ju (GrN.ext G) ?_);refine Zw (listed':=#[true,true,true,true,false,false,false,false,false,false,true,false,false,false]) kr ?_;exact a7 (CA,cc,b2,b3) _ _ ⟨(J.trans C).trans G,ho,Z.ext G,(O.ext C).ext G,a4⟩ sB
 rintro h5 vb ⟨he,el,dk,gl,et⟩;obtain⟨jl,h7,j3,js,jm,jq,jj,jo,jh,jf⟩:=h5;simp only[UY.cs]at el dk gl et ⊢;refine Xp 11 kr rfl rfl ?_;refine stW el ?_;intro xb g6 ep fj;have ek:Ext xa.drew xb:=fj xa.drew he dk;have ij:=gl xb (GrN.by ep λk hk=>by injection hk with hk;exact hk.symm);refine Jw (Ju (GrN.by ep λk hk=>by injection hk with hk;rw[<-hk];exact dk) ?_);refine Zo (fuel':=0) [(0,12),(0,13)] (lst 14 14) kr kr rfl ?_;refine ρn ?_;refine Zu ?_;refine Jzr kr ?_
 -- end b
 -- the four unions are the same
 have a9:=am.trans ek;have bs:=eg.trans ek;have dq:D2.U.length<=15000:=by rw[au];exact Xyv hps g3
 have fc:∀ y∈D2.U,y.length<=32:=λy hy=>by rw[au]at hy;rw[Xyt hps hy];omega
 have ir:h8.U=D2.U:=by
  rw[eu,au];refine anyL_set' λg=>?_;rw[List.mem_append,b4];refine⟨λh=>h.elim id λh=>?_,.inl⟩;rw[List.mem_singleton.1 h,<-b4];exact List.mem_map_of_mem c6
 have iq:h7.U=D2.U:=by rw[et,au];exact Xyx fu b4
 refine clR (Jpd (b8.ext a9)) ?_;rintro _ z1 ⟨rfl,af⟩;refine Jl ((bb.ext a9).ext af) ?_;refine Jl (((eb.ext d1).ext (df.trans bs)).ext af) ?_;refine clR (Jgs ((dn.ext a9).ext af) (((gh.ext d1).ext (df.trans bs)).ext af) gn dq fc) ?_;rintro _ z2 ⟨rfl,av⟩;refine Jl ((bb.ext a9).ext (af.trans av)) ?_;refine Jl ((g7.ext bs).ext (af.trans av)) ?_;refine clR (Jgs ((dn.ext a9).ext (af.trans av)) ((ik.ext bs).ext (af.trans av)) ir dq fc) ?_;rintro _ z3 ⟨rfl,d0⟩;refine Jl ((bb.ext a9).ext ((af.trans av).trans d0)) ?_;refine Jl (g6.ext ((af.trans av).trans d0)) ?_;refine clR (Jgs ((dn.ext a9).ext ((af.trans av).trans d0)) (ij.ext ((af.trans av).trans d0)) iq dq fc) ?_;rintro _ z4 ⟨rfl,hc⟩;refine ρ ?_;exact Jq ⟨rfl,(b1.trans a9).trans (((af.trans av).trans d0).trans hc)⟩
end Go.Proofs.YtcdccafgdnblaaaGreatDoor
namespace Go.Proofs.YtcdccafgdnblaaaGreatDoor
open Go.RowKit Pl Go.Wk Go.ChangeShapes Go.WideShapes
theorem Qfr{B0:Nat}{w:World}{v:Value}(hTB:TB B0 w)(h:Qct w v): Ret Tryz.prog 3 [v] w λu w'=>u=.bool true/\Ext w w':=by
 obtain⟨A,c,l,o,rfl,j,i⟩:=h;exact Qfs hTB j i
end Go.Proofs.YtcdccafgdnblaaaGreatDoor
