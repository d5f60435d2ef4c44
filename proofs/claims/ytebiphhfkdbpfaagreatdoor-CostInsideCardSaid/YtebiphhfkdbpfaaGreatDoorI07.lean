/- Part 7. -/
import Derived.Test.YtebiphhfkdbpfaaGreatDoorI06
import Derived.ProofKit
import Derived.OpenShut
import Derived.ShutString
import Derived.ChangeOld
import Derived.Deep.Slices
import Derived.Deep.Fields
import Derived.Test.YtebiphhfkdbpfaaGreatDoorRows
import Derived.LaidSub
import Derived.Lib.LaidTab
set_option linter.unusedVariables false
set_option maxRecDepth 100000
set_option maxHeartbeats 40000000
namespace Go.Proofs.YtebiphhfkdbpfaaGreatDoor
open Go.RowKit Pl Go.Wk
attribute [local irreducible] WC WL QX WD WDB WP WN WG WH WM
variable {c:Cse}{cs:List Value}{w w0:World}
def MkR(w:World)(c:Cse)(u:Value)(P:Prop): Prop:=∃(dA pA aA:Option Addr) (dc pc ac an:Nat) (ok:Bool),u=.tuple #[.agg #[.int .i64 c.n,.int .i64 c.f,.slice dA c.ds.length dc,.slice pA c.pm.length pc,.slice aA an ac],.bool ok] /\
 BoolsV w (.slice dA c.ds.length dc) c.ds/\IntsV w (.slice pA c.pm.length pc) c.pm/\(ok=true->c.vs.length=c.rss.length/\∃ ats:List Atm,ats.length=c.vs.length/\GV 3 AtG w (.slice aA an ac) ats/\(∀ i,i<c.vs.length->MkA (ats.getD i a0) (c.vs.getD i []) (c.rss.getD i []))/\(P->Ya ⟨c.n,c.f,c.ds,c.pm,ats⟩))/\(MkS c->(∀ ats:List Atm,ats.length=c.vs.length->(∀ i,i<c.vs.length->MkA (ats.getD i a0) (c.vs.getD i []) (c.rss.getD i []))->Ya ⟨c.n,c.f,c.ds,c.pm,ats⟩)->ok=true)
def MkO(w0:World)(N:Nat->Prop)(w:World)(c:Cse)(u:Value)(P:Prop): Prop:=∃(dA pA aA:Option Addr) (dc pc ac an:Nat) (ok:Bool),u=.tuple #[.agg #[.int .i64 c.n,.int .i64 c.f,.slice dA c.ds.length dc,.slice pA c.pm.length pc,.slice aA an ac],.bool ok] /\
 BoolsV w0 (.slice dA c.ds.length dc) c.ds/\IntsV w0 (.slice pA c.pm.length pc) c.pm/\(ok=true->c.vs.length=c.rss.length/\∃ ats:List Atm,ats.length=c.vs.length/\Off N w (λu=>GV 3 AtG u (.slice aA an ac) ats)/\(∀ i,i<c.vs.length->MkA (ats.getD i a0) (c.vs.getD i []) (c.rss.getD i []))/\(P->Ya ⟨c.n,c.f,c.ds,c.pm,ats⟩))/\(MkS c->(∀ ats:List Atm,ats.length=c.vs.length->(∀ i,i<c.vs.length->MkA (ats.getD i a0) (c.vs.getD i []) (c.rss.getD i []))->Ya ⟨c.n,c.f,c.ds,c.pm,ats⟩)->ok=true)
theorem Qqt(h:CseV w0 cs c)(hF:FewP c)(h00:Ext w0 w): Ret Tryz.prog 28 [.agg cs.toArray] w λu w'=>Ext w w'/\MkO w0 (λk=>w0.heap.size<=k/\k<w.heap.size) w' c u True:=by
 obtain⟨b6,b5,b1,az,vA,vc,rA,rc,ay,_,_,_,_,hn,hf⟩:=id h;subst ay;refine Jz Tryz.func28 Tryz.ntmps28 rfl kr rfl ?_;refine ρ ?_;refine bx ?_;intro w1 b G hb hB;refine ρ ?_;refine alc Ij ?_;intro w2 b2 Z ae a8;have aw:=hB.ext Z;refine ρ ?_;refine ldW aw ?_;refine ρ ?_;refine cl (Qcr h hF (h00.trans (G.trans Z))) ?_;rintro u w3 ⟨a4,dA,pA,aA,dc,pc,ac,an,ok,rfl,hD,hP,ap,aa⟩;refine ρ ?_;refine alc Ij ?_;intro w4 b4 aj au av;refine ρ ?_;refine stW av ?_;intro w5 a7 b3 ai;have D:Ext w3 w5:=ai w3 aj au;have a1:=(a8.ext a4).ext D;have a9:=((G.trans Z).trans a4).trans D;refine ρ ?_;have y:Ext w5 w5.drew:=(Ext.refl w5).drew;have a2:¬ b4=b2:=λe=>by have:=a8.lt;have:=a4.size;omega
 have a3:=a9.trans y;have ag:∀ {W:World},GrN (λk=>k=b2) w5.drew W->Ext w W:=λhg=>hg.old a3 λk B=>by rw[B];exact nL G.size ae
 have ar:=a8.lt;cases ok with
 | true=>
  obtain⟨ad,ats,af,ab,hmk⟩:=ap rfl;have O:=(ab.ext D).ext y;have hG:=O.here;obtain⟨ts,A,cc,ax,eA,aq,ak,ao,am⟩:=Jdz hG;refine drN (λk=>k=b2) 10 [(0,0),(0,1),(0,2),(0,3),(1,4),(0,5),(0,6),(1,7),(0,8)] kr ?_;refine ρn ?_;refine Jxd (cs:=[.int .i64 c.n,.int .i64 c.f,.slice dA c.ds.length dc,.slice pA c.pm.length pc,.slice aA an ac]) (λw' hg j u hu=>(Qr (a7.ext y) hg a2).at hu) ?_;refine ρn ?_;refine Jxd (cs:=[.int .i64 c.n,.int .i64 c.f,.slice dA c.ds.length dc,.slice pA c.pm.length pc,.slice aA an ac]) (λw' hg j u hu=>(Qr (a7.ext y) hg a2).at hu) ?_;refine ρn ?_;refine nop ?_;refine cl (Jpl (inp:=⟨c.n,c.f,c.ds,c.pm,ats⟩) ⟨_,rfl,_,_,_,rfl,hD.ext (h00.trans a3),hP.ext (h00.trans a3),⟨ts,A,cc,ax,eA,aq,ak,ao,am⟩⟩ hn hf) ?_;rintro u w6 ⟨U,e,rfl,he⟩;refine ρ ?_;refine Vy (GrN.ext U) ?_;refine ρn ?_;refine nop ?_;refine stW ((a1.ext y).ext U) ?_;intro w7 a6 hg7 ah
  have i:GrN (λk=>k=b2) w6 w7:=GrN.by hg7 λk B=>by injection B with B;exact B.symm
  refine Jp (Vy i ?_);have J:=ag ((GrN.ext U).trans i);refine ρn ?_;refine ρ ?_;refine Zf a6 ⟨J,dA,pA,aA,dc,pc,ac,an,_,rfl,hD,hP,λh=>⟨ad,ats,af,?_,hmk,λ_=>he.1 (Uf h)⟩,λ_ hC=>?_⟩;rotate_left
  .have:=he.2 (hC ats af hmk);rw[this];rfl
  have a5:=(O.ext U).gr (i.mono λk _ B=>by rw[B];exact⟨nL (h00.trans G).size ae,ar⟩);exactλW hW=>a5 W (hW.mono λk _ B=>⟨B.1,Nat.lt_of_lt_of_le B.2 (G.trans Z).size⟩)
 | false=>
  refine drN (λk=>k=b2) 10 [(0,0),(0,1),(0,2),(0,3),(1,4),(0,5),(0,6),(1,7),(0,8)] kr ?_;refine ρn ?_;refine Jxd (cs:=[.int .i64 c.n,.int .i64 c.f,.slice dA c.ds.length dc,.slice pA c.pm.length pc,.slice aA an ac]) (λw' hg j u hu=>(Qr (a7.ext y) hg a2).at hu) ?_;refine ρn ?_;refine nop ?_;refine stW (a1.ext y) ?_;intro w7 a6 hg7 ah;have i:GrN (λk=>k=b2) w5.drew w7:=GrN.by hg7 λk B=>by injection B with B;exact B.symm
  refine Jp (Vy i ?_);have J:=ag i;refine ρn ?_;refine ρ ?_;exact Zf a6 ⟨J,dA,pA,aA,dc,pc,ac,an,false,rfl,hD,hP,λh=>(by cases h),λhS _=>aa hS⟩
theorem Jnl(h:CseV w cs c)(hF:FewP c): Ret Tryz.prog 28 [.agg cs.toArray] w λu w'=>Ext w w'/\MkR w' c u True:=(Qqt h hF (Ext.refl w)).mono λu w' ⟨i,dA,y,aA,dc,j,ac,an,B,e,h1,h2,Z,U⟩=>⟨i,dA,y,aA,dc,j,ac,an,B,e,h1.ext i,h2.ext i,λh=>by
 obtain⟨O,ats,J,G,D⟩:=Z h;exact⟨O,ats,J,G.here,D⟩,U⟩
end Go.Proofs.YtebiphhfkdbpfaaGreatDoor
namespace Go.Proofs.YtebiphhfkdbpfaaGreatDoor
open Pl Go.Wk Bl Nw
variable {l:List Int}{i n u v:Nat}{pf:Nat->Int}
def toN(l:List Int): List Nat:=l.map Int.toNat
theorem Jkr(h:∀ v∈l,0<=v): nz (toN l)=l:=by
 unfold nz toN;rw[List.map_map];conv=>rhs;rw[<-List.map_id l]
 grind [List.map_congr_left]
theorem Jvx(h:∀ v∈l,0<=v): u∈toN l↔(u:Int)∈l:=by grind [Jkr,nz]
theorem Qnw{l:List Nat}(h:Ko (nz l)): Ua l:=by
 unfold Ua;rw[List.pairwise_iff_getElem];intro i j hi y B;have step:∀ k,0<k->k<l.length->l.getD (k-1) 0<l.getD k 0:=λk h0 u=>by
  have:=h k h0 (by rw[Jbl];exact u);grind [Qbf]
 have key:∀ d,i+1+d<l.length->l.getD i 0<l.getD (i+1+d) 0:=by
  intro d;induction d with
  | zero=>intro D;have:=step (i+1) om D;simpa using this
  | succ d ih=>
   grind
 have:=key (j-(i+1)) om;rw[show i+1+(j-(i+1))=j by omega,Xy 0 _ hi,Xy 0 _ y]at this;exact this
structure CseOk(c:Cse)(ats:List Atm): Prop where
 few:FewP c
 len:c.vs.length=c.rss.length
 al:ats.length=c.vs.length
 mka:∀ i,i<c.vs.length->MkA (ats.getD i a0) (c.vs.getD i []) (c.rss.getD i [])
 chk:Ya ⟨c.n,c.f,c.ds,c.pm,ats⟩
def Cse.N(c:Cse): Nat:=c.n.toNat
def Cse.F(c:Cse): Nat:=c.f.toNat
def Cse.m(c:Cse): Nat:=c.vs.length
def Cse.vars(c:Cse)(i:Nat): List Nat:=toN (c.vs.getD i [])
def Cse.crs(c:Cse)(i:Nat): List Row:=c.rss.getD i []
def rsA(ats:List Atm)(i:Nat): List Row:=(ats.getD i a0).rows
section
variable {c:Cse} {ats:List Atm}
theorem CseOk.nN(h:CseOk c ats): c.n=(c.N:Int)/\c.N<=6:=by
 have u:=h.chk.1;have j:=h.chk.2.1;have i:=h.few.n6;grind [Cse.N]
theorem CseOk.fF(h:CseOk c ats): c.f=(c.F:Int)/\c.F<=c.N:=by
 obtain⟨u,_,j,i,_⟩:=h.chk;grind [Cse.F,Cse.N]
theorem CseOk.at_(h:CseOk c ats)(hi:i<c.m): Yu c.n (ats.getD i a0):=by
 obtain⟨_,_,_,_,_,_,_,_,_,_,_,j,_⟩:=h.chk;exact j _ (getD_mem' a0 _ (by rw[h.al];exact hi))
theorem CseOk.vars(h:CseOk c ats){i:Nat}(hi:i<c.m): nz (c.vars i)=c.vs.getD i []/\Ua (c.vars i)/\(∀ v∈c.vars i,v<c.N)/\(c.vars i).length=(c.vs.getD i []).length:=by
 obtain⟨B,u,D⟩:=h.at_ hi;have y:=(h.mka i hi).vars;rw[y]at B u;have h0:∀ v∈c.vs.getD i [],0<=v:=λv j=>(u v j).1;refine⟨Jkr h0,Qnw (by grind [Cse.vars,Jkr]),λv j=>?_,by simp[Cse.vars,toN]⟩;have:=(u v ((Jvx h0).1 j)).2;have:=h.nN.1;omega
theorem CseOk.cov(h:CseOk c ats)(hv:v<c.N): ∃ i,i<c.m/\v∈c.vars i:=by
 obtain⟨_,_,_,_,_,_,_,_,_,_,_,_,O⟩:=h.chk;obtain⟨a,J,y⟩:=O v (by have:=h.nN.1;simp only;omega);obtain⟨i,hi,e⟩:=List.getElem_of_mem J;have j:i<c.m:=by have:=h.al;grind [Cse.m]
 have D:ats.getD i a0=a:=by grind
 have B:=(h.mka i j).vars;rw[D]at B;refine⟨i,j,(Jvx λu G=>?_).2 (B ▸ y)⟩;have:=(h.at_ j).2.1 u (by rw[D,B];exact G);exact this.1
theorem CseOk.set(h:CseOk c ats){i:Nat}(hi:i<c.m): Yx [] (c.crs i) (rsA ats i):=(h.mka i hi).set (by have:=h.few.row i (by rw[<-h.len];exact hi);grind)
theorem CseOk.clen(h:CseOk c ats)(hi:i<c.m): ∀ r∈c.crs i,r.length=(c.vars i).length:=λr j=>by rw[(h.vars hi).2.2.2];exact((h.mka i hi).ok r j).1
theorem CseOk.slen(h:CseOk c ats)(hi:i<c.m): ∀ r∈rsA ats i,r.length=(c.vars i).length:=λr j=>h.clen hi r (((h.set hi).2 r).1 j)
theorem Qww{g g':Nat->Nat}(h:∀ c,c<n->g c<=g' c): Xc n g<=Xc n g':=by
 induction n with
 | zero=>exact Nat.le_refl _
 | succ n ih=>rw[Xc,Xc];exact Nat.mul_le_mul (ih λc i=>h c om) (h n om)
theorem CseOk.cnt(h:CseOk c ats): max 1 (Xc c.m λi=>(c.crs i).length)<=5000:=by
 have j:=h.few.cnt;rw[<-h.len]at j;have u:Xc c.m (λi=>(c.crs i).length)<=Xc c.vs.length λi=>max 1 (c.rss.getD i []).length:=Qww λi _=>Nat.le_max_right _ _;omega
theorem CseOk.pm(h:CseOk c ats): PermOk c.N c.F (toN c.pm)/\nz (toN c.pm)=c.pm:=by
 obtain⟨_,_,_,_,_,u,j,i,_⟩:=h.chk;simp only at u j i;have hn:=h.nN.1;have B:=h.fF.1;have h0:∀ v∈c.pm,0<=v:=by grind
 refine⟨⟨h.fF.2,by simp[toN];omega,λv y=>?_,?_⟩,Jkr h0⟩;repeat grind [Jvx,toN,List.Nodup,List.Pairwise.imp_of_mem]
theorem CseOk.run(h:CseOk c ats){ts:List TA}(hts:ats=ts.map (·.2)): RunOk c.N ts c.vars (rsA ats):=by
 have O:=h.nN.2;have j:ts.length=c.m:=by have:=h.al;rw[hts,List.length_map]at this;exact this
 refine⟨om,by have:=h.few.v5;grind [Cse.m],λi hi=>?_,λi hi=>(h.vars (j ▸ hi)).2.1,λi hi=>(h.vars (j ▸ hi)).2.2.1,λv G=>by rw[j];exact h.cov G,λi hi=>(h.set (j ▸ hi)).1,λi hi=>h.slen (j ▸ hi),λi hi=>(h.mka i (show i<c.m from j ▸ hi)).len⟩;have u:i<c.m:=j ▸ hi;have e:(ts.getD i ta0).2=ats.getD i a0:=by grind
 have y:=h.mka i u;obtain⟨D,_,_,B⟩:=h.vars u;rw[e];have J:ats.getD i a0=⟨(ats.getD i a0).vars,(ats.getD i a0).ar,(ats.getD i a0).rows⟩:=rfl;rw[J,y.vars,y.ar,D,B];rfl
def Cse.vss(c:Cse): List (List Nat):=(List.range c.m).map c.vars
def Cse.es(c:Cse): List Nat:=c.vss.map Xj
def szA(ats:List Atm): List Nat:=ats.map λa=>a.rows.length
theorem Cse.esl(c:Cse): c.es.length=c.m:=by simp[Cse.es,Cse.vss]
theorem Cse.esg{c:Cse}(hi:i<c.m): c.es.getD i 0=Xj (c.vars i):=by
 simp[Cse.es,Cse.vss,List.getD,hi]
theorem CseOk.elt(h:CseOk c ats): ∀ e∈c.es,e<2^c.N:=λe u=>by
 obtain⟨vs,j,rfl⟩:=List.mem_map.1 u;obtain⟨i,hi,rfl⟩:=List.mem_map.1 j;exact Jdc (h.vars (List.mem_range.1 hi)).2.2.1
theorem CseOk.bagset(h:CseOk c ats){kf:Nat->Nat}(hb:Ga c.N c.es (Zo (toN c.pm) c.F) kf pf)(hv:v<c.N): kf v ||| 2^v<2^c.N/\kf v ||| 2^v≠0/\(kf v ||| 2^v).testBit v=true:=by
 have j:(kf v ||| 2^v).testBit v=true:=by rw[Nat.testBit_or,Nat.testBit_two_pow];simp
 refine⟨?_,λe=>by rw[e]at j;simp at j,j⟩;refine Nat.lt_pow_two_of_testBit _ λi hi=>?_;cases hbt:(kf v ||| 2^v).testBit i with
 | false=>rfl
 | true=>
  rw[Nat.testBit_or,Nat.testBit_two_pow,Bool.or_eq_true,decide_eq_true_eq]at hbt;rcases hbt with hbt|hbt
  .rw[(hb v hv).2.1]at hbt;have:=Jpb (nb:=nb0 c.N c.es) (ord:=Zo (toN c.pm) c.F) (N:=c.N) (λa b u=>(Jkw h.elt u).2.1) hbt;omega
  omega
theorem CseOk.covd(h:CseOk c ats)(set:Nat): Uj c.N c.es set:=λv j _=>by
 obtain⟨i,hi,u⟩:=h.cov j;exact⟨i,by rw[Cse.esl];exact hi,by rw[Cse.esg hi];exact edgeOf_bit.2 u⟩
theorem CseOk.five(h:CseOk c ats): c.es.length<=5:=by rw[Cse.esl];exact h.few.v5
def Jjw(c:Cse)(kf:Nat->Nat)(sizes:List Nat)(v:Nat): Nat:=Up c.N c.es sizes (kf v ||| 2^v)
theorem CseOk.bagB(h:CseOk c ats)(hdiv:Ut KQ){sizes:List Nat}(hl:sizes.length=c.es.length)(hs:∀ s∈sizes,s<2048){kf:Nat->Nat}(hb:Ga c.N c.es (Zo (toN c.pm) c.F) kf pf)(hv:v<c.N): BagB c.N c.es sizes (kf v ||| 2^v) (Jjw c kf sizes v):=by
 obtain⟨j,i,_⟩:=h.bagset hb hv;exact Qnt hdiv h.five hl hs j i (h.covd _)
open Classical in
noncomputable def dsts (l:List V):List V:=l.foldl (λs v=>if v∈s then s else s++[v]) []
noncomputable def cntD(l:List V): Nat:=(dsts l).length
noncomputable def dA(x:Nat)(a:Atm): Nat:=cntD (a.rows.map λr=>r.getD (a.vars.idxOf (x:Int)) V0)
end
end Go.Proofs.YtebiphhfkdbpfaaGreatDoor
namespace Go.Wk
open Go.RowKit
theorem finC4{P:Program}{n:Nat}{al:AL}{w:World}{tt:TT}[h:Tab P tt]{fn:Func}{Φ:Value->World->Prop}{c t t1 t2 t3 b:Nat}{k:TK}{cs:List Value}{x y z:Value}(hb:Blk w b t cs)(hp:Φ (.tuple #[.agg cs.toArray,x,y,z]) w)(hr:fn.results = #[.cell c t,.tmp t1,.tmp t2,.tmp t3]:=by rfl)(ht:tk tt t=some k:=by rfl)(hk:k.desc=.invalid:=by rfl)(hs:k.size=cs.length:=by rfl)(hc:lk al c=some (.pointer (some ⟨b,0,none⟩)):=by rfl)(h1:lk al t1=some x:=by rfl)(h2:lk al t2=some y:=by rfl)(h3:lk al t3=some z:=by rfl):
  QX n (Vq P fn Φ) .ret al w :=
 Jjr (rs:=[.cell c t,.tmp t1,.tmp t2,.tmp t3]) (vs:=[.agg cs.toArray,x,y,z]) hr ⟨⟨_,hc,Kk h.ok ht hk hs (λj u i=>hb.at i)⟩,h1,h2,h3,trivial⟩ rfl hp
end Go.Wk
namespace Go.Proofs.YtebiphhfkdbpfaaGreatDoor
open Go.RowKit Pl Go.Wk Bl Nw
attribute [local irreducible] WC WL QX WD WDB WP WN WG WH
variable {inp:Inp}{vss:List (List Nat)}{es perm sizes:List Nat}{f n:Nat}{w w':World}
structure GraI(n f:Nat)(perm:List Nat)(vss:List (List Nat))(sizes:List Nat)(inp:Inp): Prop where
 en:inp.n=(n:Int)
 ef:inp.free=(f:Int)
 ep:inp.perm=nz perm
 ev:inp.ats.map (·.vars)=vss.map nz
 es:inp.ats.map (λa=>a.rows.length)=sizes
 five:inp.ats.length<=5
 pok:PermOk n f perm
 n32:n<=32
 vlt:∀ vs∈vss,∀ x∈vs,x<n
theorem CostI.gra{d:Nat->Atm->Nat}{r:Nat->Nat}(h:CostI n f perm vss sizes d r inp): GraI n f perm vss sizes inp:=⟨h.en,h.ef,h.ep,h.ev,h.es,h.five,h.pok,h.n32,h.vlt⟩
theorem GrV.off{b t c:Nat}{cs:List Value}{A:Option Addr}(h:GrV w A c n es)(hB:Blk w b t cs)(hcs:∀ u∈cs,∀ x,u≠.int .u32 x)(hg:w.grownBy w' (some b)): GrV w' A c n es:=by
 refine⟨?_,h.cap,h.n32,h.few,h.lt⟩;rcases Nat.eq_zero_or_pos es.length with h0|h0
 .have:es=[]:=List.eq_nil_of_length_eq_zero h0;subst this;exact Rd.nil
 refine Rd.grown h.rd hg λad e i=>?_;subst e;have B:(Uc es)[0]?=some (.int .u32 (es[0]:Int)):=by simp[Uc,h0]
 have y:=h.rd.cell B;have j:ad.block=b:=by injection i with i;exact i.symm
 exact hcs _ (List.mem_of_getElem? (Jvd hB (ad:=adr (some ad) 0) j y)) _ rfl
theorem Qfq{v:Value}(hC:GraI n f perm vss sizes inp)(h:InV w v inp):
  Ret Tryz.prog 19 [v] w λu w'=>∃ GA gc B SA sc kf pf,u=.tuple #[.agg (grC GA gc n (vss.map Xj)).toArray,.slice B n n,.slice SA sizes.length sc,.bool true]/\GrV w' GA gc n (vss.map Xj)/\w'.ownsRow w.heap.size 66 3 (.slice B n n) n (Qg n (Zv kf pf))/\Ga n (vss.map Xj) (Zo perm f) kf pf/\w'.ownsRow w.heap.size 3 1 (.slice SA sizes.length sc) sizes.length (Jh (nz sizes))/\Ext w w':=by
 have d0:=h;obtain⟨cs,rfl,vd,vp,va,rfl,hD,hP,c2⟩:=h;obtain⟨ts,A,c,bf,rfl,da,d9,hR,ck⟩:=id c2;obtain⟨DA,dc,rfl,_⟩:=id hD;obtain⟨PA,pc,rfl,d8,d7,cc⟩:=id hP;have bq:=hC.n32;have de:=hC.pok.fn;have br:inp.ats.length=ts.length:=by rw[bf,List.length_map]
 have az:vss.length=ts.length:=by have:=congrArg List.length hC.ev;simp only[List.length_map]at this;omega
 have ce:sizes.length=ts.length:=by rw[<-hC.es,List.length_map,br]
 have h5:ts.length<=5:=by have:=hC.five;omega
 refine Jz Tryz.func19 Tryz.ntmps19 rfl kr rfl ?_;refine ρ ?_;refine bx ?_;intro w1 b1 bm df cu;refine ρ ?_;refine alc Iq ?_;intro w3 b2 bj cj bd;have ao:=cu.ext bj;have G:=bm.trans bj;have co:OX 22 1 NtC (λq=>w3.heap.size<=q) w3 w3.heap.size (.slice none 0 0) ([]:List (List Nat)):=⟨[],rfl,Zc _ _ _ _,λp hp=>by cases hp⟩;have cm:w3.ownsRow w3.heap.size 3 1 (.slice none 0 0) 0 (Jh (nz [])):=Zc _ _ _ _;refine ρ ?_;refine Xh (fun (k:Nat) (vs vz:Value)=>[(1,.pointer (some ⟨b1,0,none⟩)),(2,.pointer (some ⟨b2,0,none⟩)),(6,vs),(7,vz),(8,.int .i64 (k:Int))])
  (λk vs vz w'=>k<=ts.length/\Ext w3 w'/\OX 22 1 NtC (λq=>w3.heap.size<=q) w' w3.heap.size vs (vss.take k)/\w'.ownsRow w3.heap.size 3 1 vz k (Jh (nz (sizes.take k)))) (λk _ _=>ts.length-k) 0 (.slice none 0 0) (.slice none 0 0) sB
  ⟨Nat.zero_le _,Ext.refl _,by rw[List.take_zero];exact co,by rw[List.take_zero];exact cm⟩ ?_
 rintro k vs vz w6 ⟨hk,O,aa,ae⟩;have a3:=G.trans O;have Z:=ao.ext O;obtain⟨SA,sc,rfl,cb,ay⟩:=aa.form;obtain⟨ZA,zc,rfl,d3,bi⟩:=Jd ae;have bn:(vss.take k).length=k:=by rw[List.length_take];omega
 rw[bn]at aa cb ay ⊢;refine ρ ?_;refine ld (Z.at (i:=4) rfl) ?_;refine ρ ?_;refine ci (λh=>?_) (λh=>?_)
 .have lk:k<ts.length:=by have:=oT h;omega
  clear h;have bh:k<vss.length:=om
  have bg:k<sizes.length:=om
  have hp:=ck _ (Jzq rfl lk);have bs:∀ j u,(ts.getD k ta0).1.cells[j]?=some u->w6.cell? ((adr A (k*3)).add j)=some u:=λj u hu=>Jzb (hR.ext a3) rfl lk hu;have ad:(ts.getD k ta0).2.vars=nz (vss.getD k []):=by
   have e1:(inp.ats.map (·.vars))[k]?=(vss.map nz)[k]?:=by rw[hC.ev]
   rw[bf]at e1;simpa [List.getElem?_eq_getElem lk,List.getElem?_eq_getElem bh,List.getD] using e1
  have b4:(ts.getD k ta0).2.rows.length=sizes.getD k 0:=by
   have e1:(inp.ats.map λa=>a.rows.length)[k]?=sizes[k]?:=by rw[hC.es]
   rw[bf]at e1;simpa [List.getElem?_eq_getElem lk,List.getElem?_eq_getElem bg,List.getD] using e1
  generalize hq:ts.getD k ta0=q at hp bs ad b4
  obtain⟨⟨t1,t2,t3⟩,a⟩:=q;simp only at ad b4;obtain⟨⟨QA,qc,c6,d6,d5,d4⟩,c5,ac⟩:=id hp;simp only at c6 c5;obtain⟨aq,PG,au,dg,c4,_⟩:=id ac;simp only at c4;subst c6;subst c5;subst c4;refine ρ ?_;refine ld (Z.at (i:=4) rfl) ?_;refine ρ ?_;refine ixq 3 k (hR.ext a3) lk ?_;refine ρ ?_;refine ld (bs 0 _ rfl) ?_;refine ρ ?_;refine bsl (Jtn _ _ _) ?_;intro w9 di ax cz c1;have y:=ax;have a5:=O.trans y;have cp:∀ u,Ext w3 u->IntsV u (.slice QA a.vars.length qc) (nz (vss.getD k [])):=λu hu=>by
   have:=(hp.ext (G.trans hu)).1;rw[ad]at this;rwa [ad]
  have ak:=aa.ext NtC.sta y;obtain⟨_,_,bt⟩:=id ak.own;have ai:=Je ae y;refine ρ ?_;refine apX EIs NtC.sta ak c1 rfl (λu hu=>by rw[List.mem_singleton.1 hu];rfl) ⟨_,rfl,Off.old cp a5 λq hq=>hq⟩ (λg hg=>(ay g hg).1) om (by decide) a5.size ?_;intro c8 a1 ba ah _;have D:Ext w3 a1:=Js a5 ah λg eg=>(ay g eg).1;have b6:=Qf ai (GrN.by (N:=λq=>(Value.slice SA k sc).ownBlock=some q) ah λq e=>e) λg eg e=>Ud bt ai kr e eg;have be:=ao.ext D;have b3:∀ j u,(V3.cells ⟨.slice QA a.vars.length qc,.int .i64 (a.ar:Int),.slice PG aq.length au⟩)[j]?=some u->a1.cell? ((adr A (k*3)).add j)=some u:=λj u hu=>Jzb (hR.ext (G.trans D)) rfl lk (by rw[hq];exact hu);refine ρ ?_;refine ld (be.at (i:=4) rfl) ?_;refine ρ ?_;refine ixq 3 k (hR.ext (G.trans D)) lk ?_;refine ρ ?_;refine lds (cs:=[.int .i64 (a.ar:Int),.slice PG aq.length au]) (λj u hu=>by rw[Jvl];exact b3 (1+j) u (by rw[Nat.add_comm];exact hu)) ?_
  have bu:RelV a1 (.agg #[.int .i64 (a.ar:Int),.slice PG aq.length au]) a.ar a.rows:=(hp.ext (G.trans D)).rel;refine ρ ?_;refine cl (Jqt bu) ?_;rintro u ap ⟨rfl,a7⟩;refine ρ ?_;refine bsl (Ka _) ?_;intro d2 dh bl cy c0;have J:=a7.trans bl;have a6:=D.trans J;have a8:=Je b6 J;have a9:=ba.ext NtC.sta J;obtain⟨_,_,b7⟩:=id a9.own;refine ρ ?_;refine apb (m':=1) (news:=[.int .i64 (a.rows.length:Int)]) EI a8 (c0.rd (n:=1) rfl) (by simp[Value.oneCell']) (by unfold maxLen;omega) om a6.size ?_;intro c7 d1 b5 af _;have b8:=a9.gr NtC.sta (GrN.by (N:=λq=>(Value.slice ZA k zc).ownBlock=some q) af λq e=>e) λq e=>⟨(bi q e).1,λe'=>Ud a8 b7 kr e e'⟩;have cx:vss.take (k+1)=vss.take k++[vss.getD k []]:=Qa [] bh;have cw:Jh (nz (sizes.take (k+1)))=Jh (nz (sizes.take k))++[.int .i64 (a.rows.length:Int)]:=by
   rw[Qa 0 bg,b4];simp[Jh,nz]
  refine ρ ?_;exact Qm (k+1) c8 c7 sO ⟨lk,Js a6 af λg eg=>(bi g eg).1,by rw[cx];exact b8,by rw[cw];exact b5⟩ om
 have cg:k=ts.length:=by have:=oF h;omega
 subst cg;have db:ts.length=vss.length:=az.symm;rw[<-az,List.take_length]at aa;rw[<-ce,List.take_length]at ae;have cn:=aa.gx (N':=Nn) NtC.sta om λk hk=>hk.elim;refine ρ ?_;refine ld (Z.at (i:=0) rfl) ?_;rw[hC.en,<-az];refine ρ ?_;refine cl (Jpp cn bq om hC.vlt) ?_;rintro u w7 ⟨GA,gc,rfl,hG,ca⟩;refine ρ ?_;refine alc Iq ?_;intro w8 b9 c9 ch cr;refine ρ ?_;refine stW cr ?_;intro w9 am dd ax;have a4:Ext w7 w9:=ax w7 c9 ch;have y:=ca.trans a4;have an:=Z.ext y;have bp:inp.perm.length=perm.length:=by rw[hC.ep,nzl]
 have bo:Rd w 1 PA perm.length (Jh (nz perm)):=by rw[<-bp,<-hC.ep];exact cc
 refine ρ ?_;refine ldW am ?_;refine ρ ?_;refine ld (an.at (i:=1) rfl) ?_;rw[hC.ef];refine ρ ?_;refine ld (an.at (i:=3) rfl) ?_;rw[bp];refine ρ ?_;have a2:=a3.trans y;refine cl (Jrv (pc:=pc) (hG.ext a4) hC.pok (bo.ext a2)) ?_;rintro u a1 ⟨U,B,kf,pf,rfl,bz,cq⟩;refine ρ ?_;have aw:=a2.trans U;have bb:=am.ext U;refine ldW bb ?_;refine ρ ?_;have ab:=(bd.ext O).ext (y.trans U);refine stW ab ?_;intro ap bc ag a7;have av:Ext w ap:=a7 w aw (nL bm.size cj);have bw:GrN (λk=>k=b2) a1 ap:=GrN.by ag λk hk=>by injection hk with hk;exact hk.symm
 have aj:=Je ae (y.trans U);refine ρ ?_;have cd:sizes.length=vss.length:=om
 refine finC4 bc ⟨GA,gc,B,ZA,zc,kf,pf,by rw[cd],?_,?_,cq,?_,av⟩
 .refine((hG.ext a4).ext U).off ab (λu hu x e=>?_) ag;simp only[List.mem_cons,List.not_mem_nil,or_false]at hu;rcases hu with rfl|rfl<;>cases e
 .have h1:=Qf bz bw λg eg e=>by
   obtain⟨_,_,_,_,hf⟩:=Jd bz;have:=(hf g eg).1;have:=bd.lt;have:=(O.trans y).size;omega
  exact Il h1 a2.size
 have h1:=Qf aj bw λg eg e=>by
  have h2:=bd.lt;obtain⟨_,_,_,_,hf⟩:=Jd aj;have:=(hf g eg).1;omega
 have h2:=Il h1 G.size;exact h2
open Go.RowKit Pl Go.Wk Bl Nw
variable {c n:Nat}{v:Value}{w:World}
theorem Qcg(hv:NatV w v n)(hs:(Jj n).length<=1000): Ret Tryz.prog 73 [v] w λr w'=>(∃ A c,r=.slice A (Jj n).length c/\w'.ownsRow w.heap.size 63 1 r (Jj n).length (Nc (Jj n)))/\Ext w w':=by
 refine Jz Tryz.func73 Tryz.ntmps73 rfl kr rfl ?_;refine ρ ?_;refine cl (Zq hv) ?_;rintro j w' ⟨⟨A,rfl,y⟩,rfl⟩;refine ρ ?_;refine cl (Jxw y (Jqb _) om) ?_;rintro j w1 ⟨i,u⟩;obtain⟨D,B,rfl,J,G⟩:=Jd i;refine ρ ?_;exact Jq ⟨⟨D,B,rfl,i⟩,u⟩
theorem Qkz{A:Option Addr}(w:World): Ret Tryz.prog 75 [.slice A 1 c] w λu w'=>w'=w:=by
 refine Jz Tryz.func75 Tryz.ntmps75 rfl kr rfl ?_;refine ρ ?_;refine Jr (fun (_:Nat)=>[(3,.int .i64 ((1:Nat)-1:Int)),(2,.int .i64 0)]) (λ_ w'=>w'=w) (λ_=>0) 0 sB rfl ?_;rintro _ _ rfl;refine ρ ?_;exact Vb rfl
theorem EU8: ElT Tryz.prog 74 5 1 1 (.int .u8 0):=⟨Tryz.underlying74,info_parts kr,rfl,by decide⟩
theorem bs1By(z:Int)(w:World): (Instr.buildSlice 74 1 #[(0,.int .u8 z)]).run Tryz.prog w=.ok (.slice (some ⟨w.heap.size,0,none⟩) 1 1) (w.alloc (.cells [.int .u8 z].toArray 5)):=kr
theorem Qcc(hv:NatV w v 8): Ret Tryz.prog 37 [v] w λr w'=>r=.string ⟨#[56]⟩/\Ext w w':=by
 have el:Jj 8=[8]:=Jcf (by decide) (by decide);refine Jz Tryz.func37 Tryz.ntmps37 rfl kr rfl ?_;refine ρ ?_;refine cl (Qcg hv (by rw[el];decide)) ?_;rintro u w1 ⟨⟨A,c,rfl,ho⟩,a2⟩;rw[el]at ho ⊢;refine ρ ?_;refine Xh (fun (j:Nat) (y:Option Addr×Nat) (z:Nat)=>[(3,.slice A (1-j) z),(4,.slice y.1 j y.2)])
  (λj y z w'=>(j=0/\y=(none,0)/\z=c/\w'=w1)∨(j=1/\Ext w w'/\Rd w' 1 y.1 1 (Bc [56]))) (λj _ _=>1-j) 0 (none,0) c sB (.inl ⟨rfl,rfl,rfl,rfl⟩) ?_
 rintro j y z w2 (⟨rfl,rfl,rfl,rfl⟩|⟨rfl,a1,hr⟩)
 .obtain⟨_,_,e0,U,a5⟩:=Jd ho;injection e0 with _ _ e0
  subst e0;have U:1<=z:=U;refine ρ ?_;refine cl (Jsb (A:=A) (L:=1) (c:=z) (d:=1000000000) (l:=[8]) rfl (by decide) ho (by decide) (by decide)) ?_;rintro u w3 ⟨rfl,⟨os,J,a4,a6⟩,a7⟩;have a3:val os=0:=by rw[a4];decide
  have e8:val [8] % 1000000000=8:=by decide
  have D:Ext w w3:=Js a2 a7 λg eg=>(a5 g eg).1;have G:=Yh (A:=A) (l:=os) (c:=z) (by rw[J];exact Rd.own a6) om om;rw[J,a3,limbs_0]at G;rw[e8];refine ρ ?_;refine cl G ?_;rintro u w4 ⟨rfl,rfl⟩;refine ρ ?_;refine Ju (fun (i:Nat) (y:Option Addr×Nat)=>[(5,.int .u32 ((8*(1-i):Nat):Int)),(19,.int .i64 (i:Int)),(3,.slice A 0 0),(4,.slice y.1 i y.2)])
   (λi y w'=>(i=0/\y=(none,0)/\w'=w4)∨(i=1/\Ext w w'/\Rd w' 1 y.1 1 (Bc [56]))) (λi _=>1-i) 0 (none,0) sB (.inl ⟨rfl,rfl,rfl⟩) ?_
  rintro i y w5 (⟨rfl,rfl,rfl⟩|⟨rfl,Z,hr⟩)
  .refine ρ ?_;refine kv 34 (u:=.int .u32 8) rfl ?_;refine kv 5 (u:=.int .u32 8) rfl ?_;refine rem (b:=10) (by decide) ?_;refine kv 35 (show Value.int .u32 (Int.tmod 8 10)=.int .u32 8 from rfl) ?_;refine ρ ?_;refine kv 37 (show Value.int .u8 (IntKind.u8.wrap (IntKind.u32.wrap (48+8)))=.int .u8 56 from rfl) ?_;refine bsl (bs1By 56) ?_;intro w6 b6 B ab a8;refine ρ ?_;refine apb (m':=1) (base:=w.heap.size) (news:=[.int .u8 56]) EU8 (Zc _ _ _ _) (a8.rd (n:=1) rfl) (by simp[Value.oneCell']) (by unfold maxLen;omega) om (D.trans B).size ?_;intro v7 w7 O hg7 a9;obtain⟨BA,bc,rfl,_,aa⟩:=Jd O;refine ρ ?_;refine Ge rfl rfl (by decide) rfl ?_;refine ρ ?_;exact Jt 1 (BA,bc) sO (.inr ⟨rfl,Js (D.trans B) hg7 (λg eg=>by cases eg),Rd.own O⟩) (by decide)
  refine ρ ?_;exact Qm 1 y 0 sB (.inr ⟨rfl,Z,hr⟩) (by decide)
 refine ρ ?_;refine cl (Qkz w2) ?_;rintro u w3 rfl;refine ρ ?_;refine sb hr ?_;refine ρ ?_;exact Jq ⟨rfl,a1⟩
end Go.Proofs.YtebiphhfkdbpfaaGreatDoor
namespace Go.Proofs.YtebiphhfkdbpfaaGreatDoor
open Go.RowKit Pl Go.Wk Bl Nw
variable {ats:List Atm}{m:List Row}{c n set v:Nat}{pf:Nat->Int}
def nV(n:Int): V:=⟨1,n,⟨#[]⟩⟩
def nR(a b:Int): Row:=[nV a,nV b]
def rw4: List Row:=[nR 1 1,nR 1 2,nR 2 1,nR 2 2]
def v3: List (List Nat):=[[0,1],[1,2],[0,2]]
def rB(v:Nat): Nat:=if v=2 then 8 else 4
abbrev Gf: PR:=⟨false,1,1⟩
abbrev Vx: PR:=⟨false,0,1⟩
theorem es3: v3.map Xj=[3,6,5]:=by decide
theorem bag7: BagB 3 [3,6,5] [4,4,4] 7 8:=by
 have u:∀ q∈[hlf,hlf,hlf],q=hlf:=λq j=>by
  simp only[List.mem_cons,List.not_mem_nil,or_false,or_self]at j;exact j
 refine⟨by decide,by decide,Jgs,216,_,32,32,by decide +kernel,Qxj,(λq j=>by rw[u q j];decide),(λq j=>by rw[u q j];decide +kernel),(λi hi=>?_),(λq j=>by rw[u q j];decide +kernel),by rw[Jql];decide,by rw[Jql];decide,by rw[Jql];exact Qxh,by decide,by decide,by rw[Jql,Jgr];decide,Jsc,λx y=>?_⟩
 .have hi:i<=3:=hi;rcases(show i=0∨i=1∨i=2∨i=3 by omega) with rfl|rfl|rfl|rfl<;>decide +kernel
 rw[Jql,Jgr]at y;exact Jyt y ⟨by decide,by decide⟩
theorem Jxb: dnm [Gf,Vx,Vx]=1:=by decide +kernel
theorem Jmp: Ze [Gf,Vx,Vx] [4,4,4] 1=4:=by decide +kernel
theorem Jkp{q:PR}(h:q∈[Gf,Vx,Vx]): q=Gf∨q=Vx:=by
 simp only[List.mem_cons,List.not_mem_nil,or_false,or_self]at h;exact h
theorem Qyv: PrOk [Gf,Vx,Vx] [4,4,4] 1 32:=by
 refine⟨by decide,rfl,λq B=>?_,λs j=>?_,λi hi=>?_,λi u G=>?_⟩
 .rcases Jkp B with rfl|rfl
  .exact⟨by decide,by decide,by decide,by decide +kernel,by decide +kernel,by decide +kernel,by decide +kernel,by decide +kernel,by decide +kernel⟩
  exact⟨by decide,by decide,by decide,by decide +kernel,by decide +kernel,by decide +kernel,by decide +kernel,by decide +kernel,by decide +kernel⟩
 .simp only[List.mem_cons,List.not_mem_nil,or_false,or_self]at j;rw[j];decide
 .have hi:i<=3:=hi;rcases(show i=0∨i=1∨i=2∨i=3 by omega) with rfl|rfl|rfl|rfl<;>decide +kernel
 have u:i<3:=u;have D:4^Zr Gf 1<2^32:=by decide +kernel
 have y:4^Zr Vx 1<2^32:=by decide +kernel
 rcases(show i=0∨i=1∨i=2 by omega) with rfl|rfl|rfl
 .exact D
 .exact y
 exact y
theorem bagS(h0:set<2^3)(h1:set≠0)(hf:((Jv 3 set).length+(Jb [3,6,5] set [3,6,5].length).length)^(Jb [3,6,5] set [3,6,5].length).length<=125)(hcv:cvr 125 3 [3,6,5] set=some ⟨[Gf,Vx,Vx],[Gf,Vx,Vx],⟨false,1,1⟩⟩): BagB 3 [3,6,5] [4,4,4] set 4:=by
 refine⟨h0,h1,λv y B=>?_,125,_,32,32,hf,hcv,(λq j=>?_),(λq j=>?_),(λi hi=>?_),(λq j=>?_),by rw[Jxb];decide,by rw[Jxb];decide,by rw[Jxb];exact Qyv,by decide,by decide,by rw[Jxb,Jmp];decide,Jsc,λx u=>?_⟩
 .exact Jgs v y (by rcases(show v=0∨v=1∨v=2 by omega) with rfl|rfl|rfl<;>decide)
 .rcases Jkp j with rfl|rfl<;>decide
 .rcases Jkp j with rfl|rfl<;>decide +kernel
 .have hi:i<=3:=hi;rcases(show i=0∨i=1∨i=2∨i=3 by omega) with rfl|rfl|rfl|rfl<;>decide +kernel
 .rcases Jkp j with rfl|rfl<;>decide +kernel
 rw[Jxb,Jmp]at u;exact Jyt u ⟨by decide,by decide⟩
theorem Jck{kf:Nat->Nat}(h:Ga 3 [3,6,5] [2,1,0] kf pf)(hv:v<3)(hc:c<4294967296)(hk:∀ x,x<32->Va (nb0 3 [3,6,5]) [2,1,0] v x=c.testBit x): kf v=c:=by
 obtain⟨u,j,_⟩:=h v hv;refine Nat.eq_of_testBit_eq λx=>?_;by_cases hx:x<32
 .rw[j,hk x hx]
 have i:4294967296<=2^x:=Nat.pow_le_pow_right (n:=2) (by decide) (show 32<=x by omega);rw[Nat.testBit_lt_two_pow (nM u i),Nat.testBit_lt_two_pow (nM hc i)]
theorem Qgk{kf:Nat->Nat}(h:Ga 3 (v3.map Xj) (Zo [] 3) kf pf)(v:Nat)(hv:v<3): BagB 3 (v3.map Xj) [4,4,4] (kf v ||| 2^v) (rB v):=by
 rw[es3]at h ⊢;have h:Ga 3 [3,6,5] [2,1,0] kf pf:=h;rcases(show v=0∨v=1∨v=2 by omega) with rfl|rfl|rfl
 .rw[Jck h (by decide) (c:=0) (by decide) (by decide +kernel)];exact bagS (by decide) (by decide) (by decide +kernel) (by decide +kernel)
 .rw[Jck h (by decide) (c:=1) (by decide) (by decide +kernel)];exact bagS (by decide) (by decide) (by decide +kernel) (by decide +kernel)
 rw[Jck h (by decide) (c:=3) (by decide) (by decide +kernel)];exact bag7
theorem Qkb: Lt [] rw4:=by unfold Lt;decide +kernel
theorem Qmk: Lt [] [[nV 1],[nV 2]]:=by unfold Lt;decide +kernel
theorem Jkb(h:Yx [] rw4 m): m=rw4:=Jyg h.1 Qkb h.2
theorem Qlq(hc:c<2)(h:Yx [] (rw4.map (pmR [c])) m): m=[[nV 1],[nV 2]]:=by
 refine Jyg h.1 Qmk λx=>(h.2 x).trans ?_;have j:rw4.map (pmR [0])=[[nV 1],[nV 1],[nV 2],[nV 2]]:=rfl;have i:rw4.map (pmR [1])=[[nV 1],[nV 2],[nV 1],[nV 2]]:=rfl;rcases(show c=0∨c=1 by omega) with rfl|rfl
 .rw[j];simp only[List.mem_cons,List.not_mem_nil,or_false];grind
 rw[i];simp only[List.mem_cons,List.not_mem_nil,or_false];grind
theorem Jbp(h:n<4294967296): Nb n:=nM h (Nat.le_self_pow (show bK≠0 by rw[Qjc];decide) _)
theorem hg2: hgt 2=2:=by decide +kernel
def c3: Cse:=⟨3,3,[false,false,false],[],[[0,1],[1,2],[0,2]],[rw4,rw4,rw4]⟩
theorem asc2{p q:Int}(h:p<q): Ko [p,q]:=λj u i=>by
 have i:j<2:=i;obtain rfl:j=1:=om
 exact h
theorem Jcx(hl:ats.length=3)(h:∀ i,i<3->MkA (ats.getD i a0) (c3.vs.getD i []) (c3.rss.getD i [])): ∃ a b c,ats=[a,b,c]/\MkA a [0,1] rw4/\MkA b [1,2] rw4/\MkA c [0,2] rw4:=by
 match ats,hl with
 | [a,b,c],_=>exact⟨a,b,c,rfl,h 0 (by decide),h 1 (by decide),h 2 (by decide)⟩
theorem Jrp(hl:ats.length=3)(h:∀ i,i<3->MkA (ats.getD i a0) (c3.vs.getD i []) (c3.rss.getD i [])): Ya ⟨3,3,[false,false,false],[],ats⟩:=by
 obtain⟨a,b,c,rfl,y,D,G⟩:=Jcx hl h;have u:∀ {a:Atm} {p q:Int},MkA a [p,q] rw4->p<q->0<=p->q<3->Yu 3 a:=fun {a p q} h h1 h2 h3=>by
  refine⟨by rw[h.vars];exact asc2 h1,λv j=>?_,by rw[h.vars,h.ar]⟩;rw[h.vars]at j;simp only[List.mem_cons,List.not_mem_nil,or_false]at j;rcases j with rfl|rfl<;>omega
 refine⟨(show(0:Int)<=3 by decide),(show(3:Int)<=32 by decide),(show(0:Int)<=3 by decide),(show(3:Int)<=3 by decide),rfl,rfl,(λv j=>by cases j),List.nodup_nil,(show(0:Int)<=3 by decide),(show(3:Int)<=32 by decide),by simp,λx B=>?_,λv j=>?_⟩
 .simp only[List.mem_cons,List.not_mem_nil,or_false]at B;rcases B with rfl|rfl|rfl
  .exact u y (by decide) (by decide) (by decide)
  .exact u D (by decide) (by decide) (by decide)
  exact u G (by decide) (by decide) (by decide)
 have j:(v:Int)<3:=j;rcases(show v=0∨v=1∨v=2 by omega) with rfl|rfl|rfl
 .exact⟨a,by simp,by rw[y.vars];simp⟩
 .exact⟨a,by simp,by rw[y.vars];simp⟩
 exact⟨b,by simp,by rw[D.vars];simp⟩
theorem Jcw{a:Atm}{zs:List Int}{x:Int}(h:MkA a zs rw4)(h2:zs.length=2)(ha:Ko zs): CntA (λ_=>2) x a:=by
 have j:a.rows=rw4:=Jkb (h.set (by decide));refine⟨by rw[h.vars];exact ha,by rw[h.vars,h.ar],λr i=>?_,by rw[j];decide,λB m y D u=>?_⟩
 .rw[h.ar];exact(h.ok r (h.sub r i)).1
 rw[j]at u;rw[Qlq (by rw[h.vars,h2]at y;exact y) u];rfl
theorem Qgj(hl:ats.length=3)(h:∀ i,i<3->MkA (ats.getD i a0) (c3.vs.getD i []) (c3.rss.getD i [])): CostI 3 3 [] v3 [4,4,4] (λ_ _=>2) rB ⟨3,3,[false,false,false],[],ats⟩:=by
 have j:=Jrp hl h;obtain⟨a,b,c,rfl,Z,U,O⟩:=Jcx hl h;have J:a.rows=rw4:=Jkb (Z.set (by decide));have G:b.rows=rw4:=Jkb (U.set (by decide));have D:c.rows=rw4:=Jkb (O.set (by decide));have er:(List.range 3).map rB=[4,4,8]:=rfl;refine⟨j,rfl,rfl,rfl,?_,?_,by simp,⟨Nat.le_refl _,rfl,(λv B=>by cases B),List.nodup_nil⟩,by decide,by decide,λx y a' u=>?_,λkf pf h v B=>Qgk h v B,?_,λi hi=>?_,λx y=>?_⟩
 .show[a.vars,b.vars,c.vars]=_;rw[Z.vars,U.vars,O.vars];rfl
 .show[a.rows.length,b.rows.length,c.rows.length]=_;rw[J,G,D];rfl
 .simp only[List.mem_cons,List.not_mem_nil,or_false]at u;rcases u with rfl|rfl|rfl
  .exact Jcw Z rfl (asc2 (by decide))
  .exact Jcw U rfl (asc2 (by decide))
  exact Jcw O rfl (asc2 (by decide))
 .rw[er];exact Jbp (by decide)
 .rw[er];rcases(show i=0∨i=1∨i=2∨i=3 by omega) with rfl|rfl|rfl|rfl<;>exact Jbp (by decide)
 rw[er]at y;simp only[List.mem_cons,List.not_mem_nil,or_false]at y;rcases y with rfl|rfl|rfl<;>exact Jbp (by decide)
theorem Qgh(hl:ats.length=3)(h:∀ i,i<3->MkA (ats.getD i a0) (c3.vs.getD i []) (c3.rss.getD i [])): Jyc 3 (λ_ _=>2) ⟨3,3,[false,false,false],[],ats⟩=6:=by
 obtain⟨a,b,c,rfl,y,u,j⟩:=Jcx hl h;have D:max (Qh (λ_=>2) ((0:Nat):Int) [a,b,c]) 0=2:=by simp[Qh,Gp,y.vars,u.vars,j.vars];rfl
 have f1:max (Qh (λ_=>2) ((1:Nat):Int) [a,b,c]) 0=2:=by simp[Qh,Gp,y.vars,u.vars,j.vars];rfl
 have B:max (Qh (λ_=>2) ((2:Nat):Int) [a,b,c]) 0=2:=by simp[Qh,Gp,y.vars,u.vars,j.vars];rfl
 have e:(List.range 3).map (λx:Nat=>max (Qh (λ_=>2) (x:Int) [a,b,c]) 0)=[2,2,2]:=by
  show[max (Qh (λ_=>2) ((0:Nat):Int) [a,b,c]) 0,max (Qh (λ_=>2) ((1:Nat):Int) [a,b,c]) 0,max (Qh (λ_=>2) ((2:Nat):Int) [a,b,c]) 0]=_;rw[D,f1,B]
 show hgS ((List.range 3).map (λx:Nat=>max (Qh (λ_=>2) (x:Int) [a,b,c]) 0))=6;rw[e];show[hgt 2,hgt 2,hgt 2].sum=6;rw[hg2];rfl
open Go.RowKit Pl Go.Wk Bl Nw
attribute [local irreducible] WC WL QX WD WDB WP WN WG WH
variable {B0 b:Nat}{w:World}
theorem Qmz(n:Int)(w:World): (Instr.build 102 #[(0,.int .i64 1),(1,.int .i64 n)]).run Tryz.prog w=.ok (nV n).val w:=kr
theorem Gg(n:Int)(w:World): Ret Tryz.prog 36 [.int .i64 n] w λx w'=>x=(nV n).val/\Ext w w':=by
 refine Jz Tryz.func36 Tryz.ntmps36 rfl kr rfl ?_;refine ρ ?_;refine alc zVal ?_;intro w1 b j B y;refine ρ ?_;refine bld (Qmz n _) ?_;refine ρ ?_;refine stb y (cs':=(nV n).cells) ?_ (V.one _);intro w2 u hg2 i;refine ρ ?_;exact Vc u ⟨rfl,i w j B⟩
theorem bs2V(a b:V)(w:World): (Instr.buildSlice 85 2 #[(0,a.val),(1,b.val)]).run Tryz.prog w=.ok (.slice (some ⟨w.heap.size,0,none⟩) 2 2) (w.alloc (.cells (Qw [a,b]).toArray 102)):=kr
theorem bs4R(A1 A2 A3 A4:Option Addr)(n1 n2 n3 n4 c1 c2 c3 c4:Nat)(w:World): (Instr.buildSlice 78 4 #[(0,.slice A1 n1 c1),(1,.slice A2 n2 c2),(2,.slice A3 n3 c3),(3,.slice A4 n4 c4)]).run Tryz.prog w=.ok (.slice (some ⟨w.heap.size,0,none⟩) 4 4) (w.alloc (.cells [.slice A1 n1 c1,.slice A2 n2 c2,.slice A3 n3 c3,.slice A4 n4 c4].toArray 85)):=kr
theorem bs3RR(A1 A2 A3:Option Addr)(n1 n2 n3 c1 c2 c3:Nat)(w:World): (Instr.buildSlice 29 3 #[(0,.slice A1 n1 c1),(1,.slice A2 n2 c2),(2,.slice A3 n3 c3)]).run Tryz.prog w=.ok (.slice (some ⟨w.heap.size,0,none⟩) 3 3) (w.alloc (.cells [.slice A1 n1 c1,.slice A2 n2 c2,.slice A3 n3 c3].toArray 78)):=kr
theorem bs3II(A1 A2 A3:Option Addr)(n1 n2 n3 c1 c2 c3:Nat)(w:World): (Instr.buildSlice 28 3 #[(0,.slice A1 n1 c1),(1,.slice A2 n2 c2),(2,.slice A3 n3 c3)]).run Tryz.prog w=.ok (.slice (some ⟨w.heap.size,0,none⟩) 3 3) (w.alloc (.cells [.slice A1 n1 c1,.slice A2 n2 c2,.slice A3 n3 c3].toArray 22)):=kr
theorem bs2I(a b:Int)(w:World): (Instr.buildSlice 22 2 #[(0,.int .i64 a),(1,.int .i64 b)]).run Tryz.prog w=.ok (.slice (some ⟨w.heap.size,0,none⟩) 2 2) (w.alloc (.cells [Value.int .i64 a,.int .i64 b].toArray 3)):=kr
theorem Qnf(A B C:Option Addr)(a b c a' b' c':Nat)(w:World): (Instr.build 31 #[(0,.int .i64 3),(1,.int .i64 3),(2,.slice A a a'),(4,.slice B b b'),(5,.slice C c c')]).run Tryz.prog w=.ok (.agg #[.int .i64 3,.int .i64 3,.slice A a a',.slice none 0 0,.slice B b b',.slice C c c']) w:=kr
theorem Jwg{r:Row}(h:Blk w b 102 (Qw r))(hl:r.length<=1100000): RowV w (.slice (some ⟨b,0,none⟩) r.length r.length) r:=⟨some ⟨b,0,none⟩,r.length,rfl,Nat.le_refl _,hl,h.rd (Jlg r)⟩
theorem Qdd(ps:List Pr)(h:Blk w b 85 (ps.map (·.1)))(hr:∀ p∈ps,RowV w p.1 p.2)(hl:ps.length<=1100000): RowsV w (.slice (some ⟨b,0,none⟩) ps.length ps.length) (ps.map (·.2)):=⟨ps,some ⟨b,0,none⟩,ps.length,rfl,rfl,Nat.le_refl _,hl,h.rd (by simp),hr⟩
theorem hg7: hgt 7=4:=by decide +kernel
theorem hg6: hgt 6=3:=by decide +kernel
theorem few3: FewP c3:=⟨by decide,by decide,.inl (by decide),by decide,by decide,by decide,by decide,by decide⟩
theorem mks3: MkS c3:=by
 have j:∀ r∈rw4,r.length=2/\r.all Xe=true:=by decide +kernel
 refine⟨rfl,λi hi=>?_,λi hi=>?_,λi hi=>?_⟩<;>(have hi:i<3:=hi;rcases(show i=0∨i=1∨i=2 by omega) with rfl|rfl|rfl)
 .decide
 .decide
 .decide
 .exact j
 .exact j
 .exact j
 .decide
 .decide
 decide
theorem Qnv(hT:FB B0 w): Ret Tryz.prog 10 [] w λu w'=>u=.bool true/\Ext w w':=by
 refine Jz Tryz.func10 Tryz.ntmps10 rfl kr rfl ?_;refine ρ ?_;refine cl (Gg 1 _) ?_;rintro _ w1 ⟨rfl,bz⟩;refine ρ ?_;refine cl (Gg 1 _) ?_;rintro _ w2 ⟨rfl,bw⟩;refine ρ ?_;refine bsl (bs2V _ _) ?_;intro w3 b3 bu dh c6;refine ρ ?_;refine cl (Gg 1 _) ?_;rintro _ w4 ⟨rfl,bt⟩;refine ρ ?_;refine cl (Gg 2 _) ?_;rintro _ w5 ⟨rfl,bs⟩;refine ρ ?_;refine bsl (bs2V _ _) ?_;intro w6 b6 br dg c5;refine ρ ?_;refine cl (Gg 2 _) ?_;rintro _ w7 ⟨rfl,bq⟩;refine ρ ?_;refine cl (Gg 1 _) ?_;rintro _ w8 ⟨rfl,bp⟩;refine ρ ?_;refine bsl (bs2V _ _) ?_;intro w9 b9 bo df c4;refine ρ ?_;refine cl (Gg 2 _) ?_;rintro _ de ⟨rfl,b7⟩;refine ρ ?_;refine cl (Gg 2 _) ?_;rintro _ dd ⟨rfl,b5⟩;refine ρ ?_;refine bsl (bs2V _ _) ?_;intro db co b1 d0 bf;refine ρ ?_;refine bsl (bs4R _ _ _ _ _ _ _ _ _ _ _ _) ?_;intro da cn az cz be;refine ρ ?_;refine mkn EB 3 (by decide) (by unfold maxLen;decide) ?_
 intro d9 a5 ay a1 _;have e0:(madeCells (Value.bool false).cells (3*1)).toList=[false,false,false].map Value.bool:=kr
 rw[e0]at a1;refine ρ ?_;refine bsl (bs2I _ _) ?_;intro d8 cm ax cy bd;refine ρ ?_;refine bsl (bs2I _ _) ?_;intro d7 ck aw cx bc;refine ρ ?_;refine bsl (bs2I _ _) ?_;intro d6 cj av cw bb;refine ρ ?_;refine bsl (bs3II _ _ _ _ _ _ _ _ _) ?_;intro d5 a4 au cu ba;refine ρ ?_;refine bsl (bs3RR _ _ _ _ _ _ _ _ _) ?_;intro ag a3 ar cr b8;refine ρ ?_;refine bld (Qnf _ _ _ _ _ _ _ _ _ _) ?_;have a7:=ar;have a8:=au.trans a7;have a9:=av.trans a8;have aa:=aw.trans a9;have ab:=ax.trans aa;have ad:=ay.trans ab;have ae:=az.trans ad;have bi:=b1.trans ae;have bj:=b5.trans bi;have y9:=b7.trans bj;have y8:=bo.trans y9;have y7:=bp.trans y8;have y6:=bq.trans y7;have y5:=br.trans y6;have y4:=bs.trans y5;have y3:=bt.trans y4;have y2:=bu.trans y3;have y1:=bw.trans y2;have y0:=bz.trans y1;have ca:RowsV ag (.slice (some ⟨cn,0,none⟩) 4 4) rw4:=by
  refine Qdd [(.slice (some ⟨b3,0,none⟩) 2 2,nR 1 1),(.slice (some ⟨b6,0,none⟩) 2 2,nR 1 2),(.slice (some ⟨b9,0,none⟩) 2 2,nR 2 1),(.slice (some ⟨co,0,none⟩) 2 2,nR 2 2)] (be.ext ad) (λp hp=>?_) (by simp);simp only[List.mem_cons,List.not_mem_nil,or_false]at hp;rcases hp with rfl|rfl|rfl|rfl
  .exact Jwg (r:=nR 1 1) (c6.ext y3) (by decide)
  .exact Jwg (r:=nR 1 2) (c5.ext y6) (by decide)
  .exact Jwg (r:=nR 2 1) (c4.ext y9) (by decide)
  exact Jwg (r:=nR 2 2) (bf.ext ae) (by decide)
 have hC:CseV ag [.int .i64 3,.int .i64 3,.slice a5 3 3,.slice none 0 0,.slice (some ⟨a4,0,none⟩) 3 3,.slice (some ⟨a3,0,none⟩) 3 3] c3:=by
  refine⟨a5,3,none,0,some ⟨a4,0,none⟩,3,some ⟨a3,0,none⟩,3,rfl,⟨a5,3,rfl,by decide,Rd.own (Je a1 ab)⟩,⟨none,0,rfl,Nat.le_refl _,Rd.nil⟩,⟨some ⟨a4,0,none⟩,3,_,rfl,by decide,(ba.ext a7).rd rfl,λi hi=>?_⟩,⟨some ⟨a3,0,none⟩,3,_,rfl,by decide,b8.rd rfl,λi hi=>?_⟩,by decide,by decide⟩
  .have hi:i<3:=hi;rcases(show i=0∨i=1∨i=2 by omega) with rfl|rfl|rfl
   .exact⟨_,rfl,some ⟨cm,0,none⟩,2,rfl,by decide,(bd.ext aa).rd rfl⟩
   .exact⟨_,rfl,some ⟨ck,0,none⟩,2,rfl,by decide,(bc.ext a9).rd rfl⟩
   exact⟨_,rfl,some ⟨cj,0,none⟩,2,rfl,by decide,(bb.ext a8).rd rfl⟩
  have hi:i<3:=hi;rcases(show i=0∨i=1∨i=2 by omega) with rfl|rfl|rfl<;>exact⟨_,rfl,ca.m⟩
 refine ρ ?_;refine cl (Jnl hC few3) ?_;rintro u a2 ⟨aq,dA,pA,aA,dc,pc,ac,an,ok,rfl,cd,cb,c2,c7⟩;obtain rfl:ok=true:=c7 mks3 λats hl h=>Jrp hl h;obtain⟨_,ats,hl,hG,hA,_⟩:=c2 rfl;have hl:ats.length=3:=hl;have hA:∀ i,i<3->MkA (ats.getD i a0) (c3.vs.getD i []) (c3.rss.getD i []):=hA;have cc:InV a2 (.agg #[.int .i64 3,.int .i64 3,.slice dA 3 dc,.slice pA 0 pc,.slice aA an ac]) ⟨3,3,[false,false,false],[],ats⟩:=⟨_,rfl,_,_,_,rfl,cd,cb,Jdz hG⟩;have a6:=y0.trans aq;show WL _ _ _ _ _ ((30,.tuple #[.agg #[.int .i64 3,.int .i64 3,.slice dA 3 dc,.slice pA 0 pc,.slice aA an ac],.bool true])::_) _;refine ρ ?_;refine alc Ij ?_;intro d4 b2 ap c9 ch;refine ρ ?_;refine stW ch ?_;intro bn bh cq ao;have y:Ext a2 bn:=ao a2 ap c9;refine ρ ?_;refine ldW bh ?_;refine ρ ?_;refine cl (Qhz (hT.ext (a6.trans y)) (Qgj hl hA) (cc.ext y)) ?_;rintro u af ⟨O,us,VS,vn,vc,rfl,ce,hv,am⟩;rw[Qgh hl hA]
 refine ρ ?_;refine alc zEst ?_;intro d3 b4 ak c8 cg;refine ρ ?_;refine stW cg ?_;intro bm bg cp aj;have D:Ext af bm:=aj af ak c8;have B:=a6.trans (y.trans (am.trans D));have J:=ce.ext D;obtain⟨u2,e2,c1⟩:=J.2.2.2 2 (by decide);refine ρ ?_;refine cl (Jds (hT.ext B) 7) ?_;rintro u d2 ⟨rfl,Z⟩;rw[hg7];refine ρ ?_;refine cl (Jds (hT.ext (B.trans Z)) 6) ?_;rintro u bl ⟨rfl,ai⟩;rw[hg6];have j:=Z.trans ai;have U:=bg.ext j;have G:=J.ext j;refine ρ ?_;refine ld (U.at (i:=0) rfl) ?_;refine ρ ?_;refine ld (U.at (i:=2) rfl) ?_;refine ρ ?_;refine ld (U.at (i:=2) rfl) ?_;refine ρ ?_;refine ix 2 (Rd.own G.2.1) (by decide) ?_;refine ρ ?_;refine ld ((Rd.own G.2.1).cell e2) ?_;have c0:NatV bl u2 8:=c1.ext j;refine ρ ?_;refine cl (Qcc c0) ?_;rintro u d1 ⟨rfl,ah⟩;refine ρ ?_;exact Jq ⟨congrArg Value.bool (beq_self_eq_true _),B.trans (j.trans ah)⟩
open Go.RowKit Pl Go.Wk Bl Nw
variable {c:Cse}
theorem divCQ: Ut KQ:=divCL (by unfold KQ;decide)
theorem CseOk.gra{ats:List Atm}(h:CseOk c ats): GraI c.N c.F (toN c.pm) c.vss (szA ats) ⟨c.n,c.f,c.ds,c.pm,ats⟩:=by
 have B:=h.nN;refine⟨B.1,h.fF.1,h.pm.2.symm,?_,rfl,by show ats.length<=5;rw[h.al];exact h.few.v5,h.pm.1,om,λvs j x y=>?_⟩
 .refine List.ext_getElem (by simp[Cse.vss,h.al];rfl) λi G D=>?_;have hi:i<c.m:=by simpa [Cse.vss] using D
  have u:i<ats.length:=by rw[h.al];exact hi
  simp only[List.getElem_map,Cse.vss,List.getElem_range];rw[(h.vars hi).1,<-(h.mka i hi).vars,Qj a0 u]
 obtain⟨i,hi,rfl⟩:=List.mem_map.1 j;exact(h.vars (List.mem_range.1 hi)).2.2.1 x y
theorem Qhv{w:World}{u:Value}(hF:FewP c)(h:MkR w c u True): ∃(dA pA aA:Option Addr) (dc pc ac an:Nat) (ok:Bool),u=.tuple #[.agg #[.int .i64 c.n,.int .i64 c.f,.slice dA c.ds.length dc,.slice pA c.pm.length pc,.slice aA an ac],.bool ok]/\(ok=true->∃ ats:List Atm,an=ats.length/\CseOk c ats/\GV 3 AtG w (.slice aA an ac) ats/\InV w (.agg #[.int .i64 c.n,.int .i64 c.f,.slice dA c.ds.length dc,.slice pA c.pm.length pc,.slice aA an ac]) ⟨c.n,c.f,c.ds,c.pm,ats⟩):=by
 obtain⟨dA,pA,aA,dc,pc,ac,an,ok,rfl,Z,U,j,_⟩:=h;refine⟨dA,pA,aA,dc,pc,ac,an,ok,rfl,λe=>?_⟩;obtain⟨J,ats,B,D,hmk,i⟩:=j e;obtain⟨ps,A',c',e1,e2,O,hm,hr,G⟩:=id D;have y:an=ats.length:=by
  injection e2 with _ e3 _
  rw[e3,e1,List.length_map]
 exact⟨ats,y,⟨hF,J,B,hmk,i trivial⟩,D,⟨_,rfl,_,_,_,rfl,Z,U,Jdz D⟩⟩
open Go.RowKit Pl Go.Wk Bl Nw
variable {B0 bc:Nat}
def mst(es sizes:List Nat)(set:Nat): Nat->Int
 | 0=>-1
 | i+1=>if es.getD i 0 &&& set=set then(if mst es sizes set i<(sizes.getD i 0:Int) then(sizes.getD i 0:Int) else mst es sizes set i) else mst es sizes set i
theorem Jnc{es sizes:List Nat}{set:Nat}: ∀ i,(mst es sizes set i = -1/\∀ k,k<i->es.getD k 0 &&& set≠set)∨(0<=mst es sizes set i/\(∃ k,k<i/\es.getD k 0 &&& set=set)/\∀ k,k<i->es.getD k 0 &&& set=set->(sizes.getD k 0:Int)<=mst es sizes set i)
 | 0=>.inl ⟨rfl,λk hk=>absurd hk (Nat.not_lt_zero k)⟩
 | i+1=>by
  have ih:=Jnc (es:=es) (sizes:=sizes) (set:=set) i;by_cases h:es.getD i 0 &&& set=set
  .right
   have e:mst es sizes set (i+1)=if mst es sizes set i<(sizes.getD i 0:Int) then(sizes.getD i 0:Int) else mst es sizes set i:=by rw[mst,if_pos h]
   refine⟨?_,⟨i,om,h⟩,λk hk hk2=>?_⟩
   .rw[e];split<;>omega
   rcases Nat.lt_or_ge k i with h1|h1
   .rcases ih with⟨_,h2⟩|⟨_,_,h2⟩
    .exact absurd hk2 (h2 k h1)
    have:=h2 k h1 hk2;rw[e];split<;>omega
   obtain rfl:k=i:=om
   rw[e];split<;>omega
  have e:mst es sizes set (i+1)=mst es sizes set i:=by rw[mst,if_neg h]
  rw[e];rcases ih with⟨h1,h2⟩|⟨h1,⟨k0,hk0,h2⟩,h3⟩
  .refine .inl ⟨h1,λk hk hk2=>?_⟩;rcases Nat.lt_or_ge k i with h4|h4
   .exact h2 k h4 hk2
   obtain rfl:k=i:=om
   exact h hk2
  refine .inr ⟨h1,⟨k0,om,h2⟩,λk hk hk2=>?_⟩;rcases Nat.lt_or_ge k i with h4|h4
  .exact h3 k h4 hk2
  obtain rfl:k=i:=om
  exact absurd hk2 h
theorem Jnd{es sizes:List Nat}{set:Nat}(h:∀ s∈sizes,s<2048): ∀ i,mst es sizes set i<2048
 | 0=>by rw[mst];decide
 | i+1=>by
  have ih:=Jnd (es:=es) (set:=set) h i;have hs:sizes.getD i 0<2048:=by
   by_cases hk:i<sizes.length
   .rw[Qj 0 hk];exact h _ (List.getElem_mem _)
   rw[List.getD,List.getElem?_eq_none om];decide
  rw[mst];split
  .split<;>omega
  exact ih
theorem Qlc{w:World}{cs:List Value}{c:Cse}{BA:Option Addr}{bs:List UInt8}(hT:FB B0 w)(hC:CseV w cs c)(hBs:Rd w 1 BA bs.length (Bc bs)):
  Ret Tryz.prog 7 [.agg cs.toArray,.slice BA bs.length bc] w λu w'=>u=.bool true/\Ext w w':=by
 have ak:∀ {w':World},Ext w w'->Ret Tryz.prog 10 [] w' λu c7=>u=.bool true/\Ext w' c7:=λhx=>Qnv (hT.ext hx);obtain⟨du,dt,da,d9,d6,d5,d8,d7,cy,_,_,_,_,d0,d1⟩:=id hC;refine Jz Tryz.func7 Tryz.ntmps7 rfl kr rfl ?_;refine ρ ?_;refine bx ?_;intro w1 b1 bm dl c5;refine ρ ?_;subst cy;refine ldW c5 ?_;refine ρ ?_;refine cl (Qgd (hC.ext bm)) ?_;rintro u w2 ⟨bl,bf,rfl,hF,_⟩;have a4:=bm.trans bl;have c2:=c5.ext bl;cases bf with
 | false=>
  refine ρ ?_;refine cl (ak a4) ?_;rintro _ w3 ⟨rfl,b4⟩;refine ρ ?_;exact Jq ⟨rfl,a4.trans b4⟩
 | true=>
  have hF:=hF rfl;refine ρ ?_;refine ldW c2 ?_;refine ρ ?_;refine cl (Jnl (hC.ext a4) hF) ?_;rintro u w3 ⟨b4,cp⟩;obtain⟨dA,pA,aA,dc,pc,ac,an,ok,rfl,ce⟩:=Qhv hF cp;have bh:=a4.trans b4;refine ρ ?_;refine alc Ij ?_;intro w4 b5 ca co cx;refine ρ ?_;refine stW cx ?_;intro w5 af dj bj;have aq:Ext w3 w5:=bj w3 ca co;have a1:=bh.trans aq;cases ok with
  | false=>
   refine ρ ?_;refine cl (ak a1) ?_;rintro _ w6 ⟨rfl,a8⟩;refine ρ ?_;exact Jq ⟨rfl,a1.trans a8⟩
  | true=>
   obtain⟨ats,rfl,hO,ds,cq⟩:=ce rfl;have dm:ats.length=c.m:=hO.al;refine ρ ?_;refine ld (af.at (i:=4) rfl) ?_;refine ρ ?_;refine ci (λh=>?_) (λh=>?_)
   .refine ρ ?_;refine cl (ak a1) ?_;rintro _ w6 ⟨rfl,a8⟩;refine ρ ?_;exact Jq ⟨rfl,a1.trans a8⟩
   have de:c.m<=bs.length:=by have:=oF h;omega
   clear h;refine ρ ?_;refine ldW af ?_;refine ρ ?_;refine cl (Qfq hO.gra (cq.ext aq)) ?_;rintro u w6 ⟨GA,gc,B,SA,sc,kf,pf,rfl,hG,bw,aj,dn,a8⟩;refine ρ ?_;refine alc Iq ?_;intro w7 b7 c9 cn cw;refine ρ ?_;refine stW cw ?_;intro w8 au di bi;have a6:Ext w6 w8:=bi w6 c9 cn;have ap:=a8.trans a6;have am:=a1.trans ap;have c1:=af.ext ap;have db:=hO.few.v5;have dk:c.m=c.vs.length:=rfl;refine ρ ?_;refine Ju (fun (i:Nat) (vl:Value)=>[(1,.slice BA bs.length bc),(2,.pointer (some ⟨b1,0,none⟩)),(5,.pointer (some ⟨b5,0,none⟩)),(7,.pointer (some ⟨b7,0,none⟩)),(8,.slice B c.N c.N),(10,.bool true),(11,vl),(12,.int .i64 (i:Int))])
    (λi vl w'=>i<=c.m/\Ext w8 w'/\w'.ownsRow w8.heap.size 3 1 vl i (Jh (nz ((bs.take i).map UInt8.toNat)))) (λi _=>c.m-i) 0 (.slice none 0 0) sB ⟨Nat.zero_le _,Ext.refl _,Zc _ _ _ _⟩ ?_
   rintro i vl w9 ⟨hi,G,ai⟩;have bg:=am.trans G;have c0:=c1.ext G;obtain⟨LA,lc,rfl,ch,hlf⟩:=Jd ai;refine ρ ?_;refine ld (c0.at (i:=4) rfl) ?_;refine ρ ?_;refine ci (λh=>?_) (λh=>?_)
   .have li:i<c.m:=by have:=oT h;omega
    clear h;have bp:=hBs.ext bg;refine ρ ?_;refine ix i bp om ?_;refine ρ ?_;refine ld (bp.cell (Jff (show i<bs.length by omega))) ?_;refine ρ ?_;have cz:(bs.getD i 0).toNat<256:=(bs.getD i 0).toNat_lt;rw[Zd (z:=((bs.getD i 0).toNat:Int)) om];refine bsl (Ka _) ?_;intro be dw Z d2 c4;refine ρ ?_;refine apb (m':=1) (news:=[.int .i64 ((bs.getD i 0).toNat:Int)]) EI (Je ai Z) (c4.rd (n:=1) rfl) (by simp[Value.oneCell']) (by unfold maxLen;omega) om (G.trans Z).size ?_;intro v2 bd ba bq _;have e:Jh (nz ((bs.take (i+1)).map UInt8.toNat))=Jh (nz ((bs.take i).map UInt8.toNat))++[.int .i64 ((bs.getD i 0).toNat:Int)]:=by
     rw[Qa 0 (show i<bs.length by omega)];simp[Jh,nz]
    refine ρ ?_;exact Jt (i+1) v2 sO ⟨li,Js (G.trans Z) bq λg eg=>(hlf g eg).1,by rw[e];exact ba⟩ om
   have b8:i=c.m:=by have:=oF h;omega
   subst b8;clear h hi;generalize hlz:(bs.take c.m).map UInt8.toNat=lz at ai
   have a5:lz.length=c.m:=by rw[<-hlz];simp;omega
   have ab:(c.vss.map Xj).length=c.m:=c.esl;have bn:∀ s∈lz,s<2048:=λs hs=>by
    rw[<-hlz]at hs;obtain⟨x,_,rfl⟩:=List.mem_map.1 hs;have:x.toNat<256:=x.toNat_lt;omega
   have ao:=a6.trans G;have cu:=Rd.own (Je bw ao);have bu:=Rd.own ai;have dq:=hO.nN.2;have br:=Jsq (w:=w9) (A:=GA) (c:=gc) (cb:=c.N) (SA:=LA) (sc:=lc) (sizes:=lz) (r:=Jjw c kf lz) (hG.ext ao) cu (λv hv=>(aj v hv).1) (by rw[a5];exact bu) (by rw[a5];exact ch) (by rw[ab];exact a5) (by rw[ab,<-c.esl];exact hO.five) (λv hv=>hO.bagB divCQ (by rw[c.esl];exact a5) bn aj hv);rw[a5]at br;refine ρ ?_;refine ldW (au.ext G) ?_;refine ρ ?_;refine cl br ?_;rintro _ be ⟨O,us,rfl,bz,Z⟩;refine ρ ?_;refine cf ?_ ?_
   .exact Jtr rfl
   refine ρ ?_;have a3:=G.trans Z;have ay:=am.trans a3;refine Jr (fun (v:Nat)=>[(7,.pointer (some ⟨b7,0,none⟩)),(8,.slice B c.N c.N),(11,.slice LA c.m lc),(13,.slice O c.N c.N),(15,.int .i64 (v:Int))])
    (λv w'=>v<=c.N/\Ext be w') (λv=>c.N-v) 0 sB ⟨Nat.zero_le _,Ext.refl _⟩ ?_
   rintro v bd ⟨hv,J⟩;have a2:=ay.trans J;have a7:=a6.trans (a3.trans J);refine ρ ?_;refine ci (λh=>?_) (λh=>?_)
   .have lv:v<c.N:=by have:=oT h;omega
    clear h;have av:=Rd.own (Je bw a7);have b9:∀ j u,(Zv kf pf v)[j]?=some u->bd.cell? ((adr B (v*3)).add j)=some u:=λj u hu=>by
     have hj:j<3:=by grind [Nat.lt_or_ge,List.getElem?_eq_none,Zv]
     rw[Gt];exact av.cell ((Jcq (sz:=3) (λ_ _=>rfl) lv hj).trans hu)
    refine ρ ?_;refine ixq 3 v av lv ?_;refine ρ ?_;refine lds (cs:=Zv kf pf v) b9 ?_;refine ρ ?_;refine cl (Jrt om (aj v lv).1 _) ?_;rintro _ ax ⟨rfl,D⟩;obtain⟨bo,cd,dd⟩:=hO.bagset aj lv;generalize hS:kf v ||| 2^v=set at *
    have ah:set<4294967296:=nM bo (Nat.pow_le_pow_right (n:=2) (by decide) (show c.N<=32 by omega));have c8:=a2.trans D;have b3:=a7.trans D;have b2:Ext w8 ax:=(a3.trans J).trans D;have cr:Jjw c kf lz v=Up c.N c.es lz set:=by unfold Jjw;rw[hS]
    refine ρ ?_;refine Ju (fun (i:Nat) (y:Int)=>[(7,.pointer (some ⟨b7,0,none⟩)),(8,.slice B c.N c.N),(11,.slice LA c.m lc),(13,.slice O c.N c.N),(15,.int .i64 (v:Int)),(16,.int .u32 (set:Int)),(17,.int .i64 y),(18,.int .i64 (i:Int))])
     (λi y w'=>i<=c.m/\w'=ax/\y=mst c.es lz set i) (λi _=>c.m-i) 0 (-1) sB ⟨Nat.zero_le _,rfl,rfl⟩ ?_
    rintro i y c6 ⟨hi,rfl,U⟩;have ae:=au.ext b2;have bb:=hG.rd.ext b3;have ad:=bu.ext ((Z.trans J).trans D);refine ρ ?_;refine ld (ae.at (i:=1) rfl) ?_;rw[ab];refine ρ ?_;refine Yz (fun (t:Bool)=>[(7,.pointer (some ⟨b7,0,none⟩)),(8,.slice B c.N c.N),(11,.slice LA c.m lc),(13,.slice O c.N c.N),(15,.int .i64 (v:Int)),(16,.int .u32 (set:Int)),(17,.int .i64 y),(18,.int .i64 (i:Int)),(102,.bool t)])
     (λt w'=>w'=c6/\t=decide (i<c.m)) ?_ ?_
    .refine ki 97 (λh=>?_) (λh=>?_)
     .have h1:=oT h;refine ρ ?_;refine Jc _ sB ⟨rfl,?_⟩;exact decide_eq_decide.2 om
     have h1:=oF h;refine ρ ?_;refine Jc false sB ⟨rfl,?_⟩;exact(dF om).symm
    rintro t aw ⟨rfl,rfl⟩;refine ρ ?_;refine ci (λh=>?_) (λh=>?_)
    .have li:i<c.m:=oT h;clear h;have ck:c.es.getD i 0<4294967296:=nM (hO.elt _ (getD_mem' 0 _ (by rw[c.esl];exact li))) (Nat.pow_le_pow_right (n:=2) (by decide) (show c.N<=32 by omega));refine ρ ?_;refine ld (ae.at (i:=1) rfl) ?_;rw[ab];refine ρ ?_;rw[ab]at bb;refine ix i bb li ?_;refine ρ ?_;refine ld (bb.cell (Jzd (show i<(c.vss.map Xj).length by omega))) ?_;refine ρ ?_;have ea:bits .and .u32 ((c.es.getD i 0:Nat):Int) (set:Int)=((c.es.getD i 0 &&& set:Nat):Int):=u32_and_nat _ _ ck ah;refine ci (λh=>?_) (λh=>?_)
     .have h':(bits .and .u32 ((c.es.getD i 0:Nat):Int) (set:Int) == (set:Int))=true:=h;rw[ea]at h';have b6:c.es.getD i 0 &&& set=set:=by have:=Uf h';omega
      refine ρ ?_;refine ix i ad li ?_;refine ρ ?_;refine ld (ad.cell (Xw (show i<lz.length by omega))) ?_;refine ρ ?_;refine Jt (i+1) (mst c.es lz set (i+1)) ?_ ⟨li,rfl,rfl⟩ om;rw[mst,if_pos b6,<-U];exact sO
     have h':(bits .and .u32 ((c.es.getD i 0:Nat):Int) (set:Int) == (set:Int))=false:=h;rw[ea]at h';have b6:c.es.getD i 0 &&& set≠set:=by have:=Yr h';omega
     refine ρ ?_;exact Jt (i+1) y sO ⟨li,rfl,by rw[mst,if_neg b6];exact U⟩ om
    have b8:i=c.m:=by have:=oF h;omega
    subst b8;clear h;have df:y<2048:=by rw[U];exact Jnd bn _
    have ag:=J.trans D;have az:Ext aw aw.drew:=(Ext.refl aw).drew;have aa:=ag.trans az;obtain⟨u,hu,cc⟩:=bz.2.2.2 v lv;have bt:=(Rd.own bz.2.1).ext aa;refine ρ ?_;refine dr [(0,0),(0,1),(0,2),(0,3),(0,4),(0,5),(0,6),(0,7),(0,8),(1,9),(1,10),(0,11),(0,12)] kr ?_;refine ρd ?_;refine dki 122 (λh=>?_) (λh=>?_)
    .have dh:0<=y:=by have:=oT h;omega
     obtain⟨mm,rfl⟩:∃ mm:Nat,y=mm:=⟨y.toNat,om⟩;have dg:Jjw c kf lz v<=mm:=by
      rcases Jnc (es:=c.es) (sizes:=lz) (set:=set) c.m with⟨h1,_⟩|⟨_,⟨k0,hk0,h2⟩,h3⟩
      .rw[<-U]at h1;omega
      rw[cr];exact Qmv hO.five cd bo (hO.covd _) (by rw[c.esl];exact a5) (by rw[c.esl];exact hk0) h2 λk hk cj=>by
       have:=h3 k (by rw[c.esl]at hk;exact hk) cj;rw[<-U]at this;omega
     refine ρd ?_;refine dix v bt lv ?_;refine ρd ?_;refine dld (bt.cell hu) ?_;refine ρd ?_;rw[Zj (z:=(mm:Int)) om];refine dcl (Qcf mm om _) ?_;rintro n1 d4 ⟨cg,a9⟩;refine⟨a9,?_⟩;refine ρd ?_;refine dcl (Jjf ((cc.ext aa).ext a9) cg) ?_;rintro _ d3 ⟨rfl,ar⟩;refine⟨ar,?_⟩;have cm:decide (0<Zs (Jjw c kf lz v) mm)=false:=by
      refine dF ?_;unfold Zs;split
      .decide
      rw[if_neg om];decide
     refine ρd ?_;refine ρ ?_;refine cf ?_ ?_
     .exact cm
     refine ρ ?_;exact Jm (v+1) sO ⟨lv,((J.trans D).trans az).trans (a9.trans ar)⟩ om
    refine ρd ?_;refine ρ ?_;exact Jm (v+1) sO ⟨lv,(J.trans D).trans az⟩ om
   refine ρ ?_;refine cl (ak a2) ?_;rintro _ ax ⟨rfl,D⟩;refine ρ ?_;exact Jq ⟨rfl,a2.trans D⟩
end Go.Proofs.YtebiphhfkdbpfaaGreatDoor
namespace Go.Wk
open Go.RowKit Go.ChangeShapes Go.WideShapes
variable {cap fuel len:Nat}{A:Option Addr}{α:Type}
section
variable {H:Type} {enc:TypeId×Value->H} {P:Program} {w:World} {base:Nat} {spare:Nat->Bool} {held:Bool}
theorem Jlj{sz:Nat}{cs:List Value}{ad:Addr}(hA:A=some ad)(hl:cs.length=len*sz)(hc:∀ j u,cs[j]?=some u->w.cell? (ad.add j)=some u): Rd w sz A len cs :=
 ⟨hl,λh0=>⟨ad,hA,by
  have i:=hc 0 cs[0] (gE h0);rw[add_zero]at i;exact World.block_lt_of_cell? w ad i,hc⟩⟩
theorem wf_u8{n:Int}(h:(Lit.int .u8 n).wf=true): 0<=n/\n<=255:=bounds_u8 h
theorem Qys{t e:TypeId}{x:DataW H×List MemPlace}(ht:P.underlying t=some (.slice e))(he:P.underlying e=some (.int .u8))(hc:P.cellsOf e=1)(h:DataW.trod enc P w base spare held fuel t [.slice A len cap]=some x): ∃ l:List UInt8,l.length=len/\Rd w 1 A len (Bc l)/\len<=cap/\cap<=maxLen:=by
 rcases open_ints ht he hc h with⟨i,_⟩|⟨a,len',cap',zs,i,_,hl,hm,hz,_,hcell,hwz⟩
 .simp only[List.cons.injEq,Value.slice.injEq,and_true]at i;obtain⟨rfl,rfl,rfl⟩:=i;exact⟨[],rfl,Rd.nil,Nat.le_refl _,Nat.zero_le _⟩
 simp only[List.cons.injEq,Value.slice.injEq,and_true]at i;obtain⟨rfl,rfl,rfl⟩:=i;have D:len<=zs.length:=by grind
 refine⟨(zs.take len).map λn=>UInt8.ofNat n.toNat,by simp;omega,Jlj rfl (by simp[Bc];omega) λj u B=>?_,hl,hm⟩;have G:j<len:=by grind [List.getElem?_eq_some_iff.1,Bc]
 have y:j<zs.length:=om
 rw[hcell j y];rw[<-B];have J:=wf_u8 (hwz zs[j] (List.getElem_mem y));grind [List.getD,List.getElem?_eq_getElem,Bc,List.map_map,UInt8.toNat_ofNat']
theorem Qyp{t e sz:Nat}{x:DataW H×List MemPlace}(X:α->List Value)(R:α->Prop)(ht:P.underlying t=some (.slice e))(hc:P.cellsOf e=sz)(hX:∀(n:Nat) (cs':List Value) (y:DataW H×List MemPlace),DataW.trod enc P w base spare held n e cs'=some y->∃ z:α,cs'=X z/\R z)(h:DataW.trod enc P w base spare held fuel t [.slice A len cap]=some x): ∃ l:List α,l.length=len/\Rd w sz A len (l.flatMap X)/\(∀ z∈l,R z)/\len<=cap/\cap<=maxLen:=by
 rcases Go.Deep.open_slice ht h with⟨i,_⟩|⟨a,len',cap',m,n,D,Pl,i,_,hl,hm,hmm,_,hel⟩
 .simp only[List.cons.injEq,Value.slice.injEq,and_true]at i;obtain⟨rfl,rfl,rfl⟩:=i;exact⟨[],rfl,Rd.nil,(λz J=>by cases J),Nat.le_refl _,Nat.zero_le _⟩
 simp only[List.cons.injEq,Value.slice.injEq,and_true]at i;obtain⟨rfl,rfl,rfl⟩:=i;have a1:len<=m:=by grind
 have key:∀ k,k<=len->∃ l:List α,l.length=k/\(l.flatMap X).length=k*sz/\(∀ j u,(l.flatMap X)[j]?=some u->w.cell? (a.add j)=some u)/\∀ z∈l,R z:=by
  intro k;induction k with
  | zero=>intro _;exact⟨[],rfl,by simp,(λj u G=>by simp at G),(λz J=>by cases J)⟩
  | succ k ih=>
   intro hk;obtain⟨l,h1,h2,h3,h4⟩:=ih om;obtain⟨cs',B,O⟩:=hel k om;obtain⟨z,rfl,J⟩:=hX n cs' _ O;rw[hc]at B;obtain⟨_,Z,U⟩:=World.cells?_some B;refine⟨l++[z],by simp[h1],?_,?_,?_⟩
   .grind
   .intro j u G;rw[List.flatMap_append]at G;simp only[List.flatMap_cons,List.flatMap_nil,List.append_nil]at G;rcases Nat.lt_or_ge j (k*sz) with hj|hj
    .grind
    rw[List.getElem?_append_right om,h2]at G;have hb:j-k*sz<sz:=by grind
    have:=U (j-k*sz) hb;rw[Jvl]at this;grind
   repeat grind
 obtain⟨l,h1,h2,h3,h4⟩:=key len (Nat.le_refl _);grind [Jlj]
theorem Jxq(f:α->Value)(l:List α): l.flatMap (λz=>[f z])=l.map f:=by induction l<;>simp_all
end
end Go.Wk
namespace Go.Proofs.YtebiphhfkdbpfaaGreatDoor
open Go.RowKit Pl Go.Wk Go.ChangeShapes Go.WideShapes
section
variable {H:Type} {enc:TypeId×Value->H} {P:Program} {w:World} {base:Nat} {spare:Nat->Bool} {held:Bool}
theorem Ip{α:Type}{t e sz:Nat}{fuel:Nat}{cs:List Value}{x:DataW H×List MemPlace}(X:α->List Value)(R:α->Prop)(ht:P.underlying t=some (.slice e))(hc:P.cellsOf e=sz)(hX:∀(n:Nat) (cs':List Value) (y:DataW H×List MemPlace),DataW.trod enc P w base spare held n e cs'=some y->∃ z:α,cs'=X z/\R z)(h:DataW.trod enc P w base spare held fuel t cs=some x): ∃(l:List α) (A:Option Addr) (cap:Nat),cs=[.slice A l.length cap]/\Rd w sz A l.length (l.flatMap X)/\(∀ z∈l,R z)/\l.length<=cap:=by
 have key:∀(A:Option Addr) (len cap:Nat),cs=[.slice A len cap]->∃(l:List α) (A:Option Addr) (cap:Nat),cs=[.slice A l.length cap]/\Rd w sz A l.length (l.flatMap X)/\(∀ z∈l,R z)/\l.length<=cap:=λA len cap e=>by
  subst e;obtain⟨l,G,B,u,j,_⟩:=Qyp X R ht hc hX h;subst G;exact⟨l,A,cap,rfl,B,u,j⟩
 rcases Go.Deep.open_slice ht h with⟨i,_⟩|⟨a,len,cap,m,n,D,Pl,i,_⟩
 .exact key _ _ _ i
 exact key _ _ _ i
end
section
variable {H:Type} {enc:TypeId×Value->H} {w:World} {base b0:Nat} {spare:Nat->Bool} {held:Bool}
end
theorem gFibT: (Tryz.prog.globals[0]?).map (·.type)=some 105:=kr
theorem fb_of{W:World}(h:laidMetH Tryz.prog [("ordinal/cost.fibonacci",Rows.laid_ordinal_cost_fibonacci)] W): FB W.heap.size W:=by
 refine⟨Nat.le_refl _,Lib.tabBelow_of_tabIs ?_⟩;have i:=h.filter (λx=>x.1 == "ordinal/cost.fibonacci");exact Lib.tabIs_of_head (rest:=[]) gFib gFibT Tryz.underlying105 Tryz.underlying3 kr kr i
def layOn(d:DataW Unit): Obj->Obj
 | .cells _ t z=>.cells (match d with
  | .agg ps=>(ps.map fun
   | .lit (.int k z)=>Value.int k z
   | _=>Value.bool false).toArray
  | _=>#[]) t z
 | o=>o
open Go.RowKit Pl Go.Wk Go.ChangeShapes Go.WideShapes
variable {p:List MemPlace}{cs:List Value}{n:Nat}{v:Value}
def Ks(v:V): Prop:=(-9223372036854775808<=v.kind/\v.kind<=9223372036854775807)/\(-9223372036854775808<=v.num/\v.num<=9223372036854775807)
section
variable {H:Type} {enc:TypeId×Value->H} {w:World} {base b0:Nat} {spare:Nat->Bool} {held:Bool}
theorem Qyh{y:DataW H×List MemPlace}(h:DataW.trod enc Tryz.prog w base spare held n 102 cs=some y): ∃ v:V,cs=v.cells/\Ks v:=by
 obtain⟨u,m,_,_,j,B,G⟩:=DataW.trod_struct Tryz.underlying102 h;have D:cs.length=3:=by rw[j];kernel_rfl
 have a1:u.length=3:=B;match cs,D with
 | [c0,c1,c2],_=>
  have O:DataW.trod enc Tryz.prog w base spare held m 3 (([c0,c1,c2].drop 0).take (Tryz.prog.cellsOf 3))=u[0]?:=G 0 _ rfl;have f1:DataW.trod enc Tryz.prog w base spare held m 2 (([c0,c1,c2].drop 1).take (Tryz.prog.cellsOf 2))=u[1]?:=G 1 _ rfl;have J:DataW.trod enc Tryz.prog w base spare held m 9 (([c0,c1,c2].drop 2).take (Tryz.prog.cellsOf 9))=u[2]?:=G 2 _ rfl;rw[show Tryz.prog.cellsOf 3=1 by kernel_rfl,List.getElem?_eq_getElem om]at O;rw[show Tryz.prog.cellsOf 2=1 by kernel_rfl,List.getElem?_eq_getElem om]at f1;rw[show Tryz.prog.cellsOf 9=1 by kernel_rfl,List.getElem?_eq_getElem om]at J;obtain⟨k,e0,_,wk⟩:=DataW.trod_int Tryz.underlying3 O;obtain⟨i,Z,_,wi⟩:=DataW.trod_int Tryz.underlying2 f1;obtain⟨s,U,_,_⟩:=DataW.trod_string Tryz.underlying9 J;simp at e0 Z U;subst e0;subst Z;subst U;exact⟨⟨k,i,s⟩,rfl,bounds_i64 wk,bounds_i64 wi⟩
def RowE(w:World)(v:Value)(r:Row): Prop:=RowM w v r/\∀ u∈r,Ks u
theorem Qym{y:DataW H×List MemPlace}(h:DataW.trod enc Tryz.prog w base spare held n 85 cs=some y): ∃ p:Pr,cs=[p.1]/\RowE w p.1 p.2:=by
 obtain⟨l,A,i,e,D,B,u⟩:=Ip (sz:=3) V.cells Ks Tryz.underlying85 kr (λn G y j=>Qyh j) h;exact⟨(.slice A l.length i,l),e,⟨A,i,rfl,u,D⟩,B⟩
def Qjk(w:World)(v:Value)(ls:List Row): Prop:=RowsM w v ls/\∀ r∈ls,∀ u∈r,Ks u
theorem Qyl{y:DataW H×List MemPlace}(h:DataW.trod enc Tryz.prog w base spare held n 78 cs=some y): ∃ p:Value×List Row,cs=[p.1]/\Qjk w p.1 p.2:=by
 obtain⟨ps,A,i,e,D,B,U⟩:=Ip (sz:=1) (λp:Pr=>[p.1]) (λp=>RowE w p.1 p.2) Tryz.underlying78 kr (λn Z y G=>Qym G) h;rw[Jxq]at D;exact⟨(.slice A ps.length i,ps.map (·.2)),e,⟨ps,A,i,rfl,rfl,U,D,λp j=>(B p j).1⟩,λr O u J=>by
  obtain⟨p,j,rfl⟩:=List.mem_map.1 O;exact(B p j).2 u J⟩
theorem Qyk{y:DataW H×List MemPlace}(h:DataW.trod enc Tryz.prog w base spare held n 29 cs=some y):
  ∃(A:Option Addr) (c:Nat) (rss:List (List Row)),cs=[.slice A rss.length c]/\RowssV w (.slice A rss.length c) rss/\∀ i,i<rss.length->∀ r∈rss.getD i [],∀ u∈r,Ks u:=by
 obtain⟨ps,A,B,e,O,J,h3⟩:=Ip (sz:=1) (λp:Value×List Row=>[p.1]) (λp=>Qjk w p.1 p.2) Tryz.underlying29 kr (λn Z y U=>Qyl U) h;rw[Jxq]at O;have D:(ps.map (·.2)).length=ps.length:=List.length_map _
 have G:∀ i,i<ps.length->(ps.map (·.2)).getD i []=(ps.getD i (.bool false,[])).2:=by grind
 refine⟨A,B,ps.map (·.2),by rw[D];exact e,⟨A,B,ps.map (·.1),rfl,om,by rw[D];exact O,λi hi=>?_⟩,λi hi=>?_⟩
 .have j:i<ps.length:=om
  rw[G i j];exact⟨(ps.getD i (.bool false,[])).1,by grind,(J _ (getD_mem' _ _ j)).1⟩
 have j:i<ps.length:=om
 rw[G i j];exact(J _ (getD_mem' _ _ j)).2
theorem Jmn{y:DataW H×List MemPlace}(h:DataW.trod enc Tryz.prog w base spare held n 22 cs=some y): ∃ p:Value×List Int,cs=[p.1]/\IntsM w p.1 p.2/\∃ A c,p.1=.slice A p.2.length c:=by
 obtain⟨l,A,i,e,j,G,B⟩:=Ip (sz:=1) (λz:Int=>[Value.int .i64 z]) (λ_=>True) Tryz.underlying22 kr (λn D y u=>by obtain⟨z,e,_,_⟩:=DataW.trod_int Tryz.underlying3 u;exact⟨z,e,trivial⟩) h;rw[Jxq]at j;exact⟨(.slice A l.length i,l),e,⟨A,i,rfl,B,j⟩,A,i,rfl⟩
theorem Qyn{y:DataW H×List MemPlace}(h:DataW.trod enc Tryz.prog w base spare held n 28 cs=some y):
  ∃(A:Option Addr) (c:Nat) (zss:List (List Int)),cs=[.slice A zss.length c]/\IntssV w (.slice A zss.length c) zss:=by
 obtain⟨ps,A,j,e,B,U,O⟩:=Ip (sz:=1) (λp:Value×List Int=>[p.1]) (λp=>IntsM w p.1 p.2) Tryz.underlying28 kr (λn J y D=>by obtain⟨p,e,G,_⟩:=Jmn D;exact⟨p,e,G⟩) h;rw[Jxq]at B;have u:(ps.map (·.2)).length=ps.length:=List.length_map _
 refine⟨A,j,ps.map (·.2),by rw[u];exact e,⟨A,j,ps.map (·.1),rfl,om,by rw[u];exact B,λi hi=>?_⟩⟩
 grind
theorem Qyt{y:DataW H×List MemPlace}(h:DataW.trod enc Tryz.prog w base spare held n 27 cs=some y): ∃(A:Option Addr) (c:Nat) (l:List Bool),cs=[.slice A l.length c]/\BoolsM w (.slice A l.length c) l:=by
 obtain⟨l,A,i,e,j,G,B⟩:=Ip (sz:=1) (λz:Bool=>[Value.bool z]) (λ_=>True) Tryz.underlying27 kr (λn D y u=>by obtain⟨z,e,_⟩:=DataW.trod_bool Tryz.underlying4 u;exact⟨z,e,trivial⟩) h;rw[Jxq]at j;exact⟨A,i,l,e,⟨A,i,rfl,B,j⟩⟩
def Qjn(w:World)(v:Value): Prop:=∃(cs:List Value) (c:Cse),v=.agg cs.toArray/\CseV w cs c/\∀ i,i<c.rss.length->∀ r∈c.rss.getD i [],∀ u∈r,Ks u
set_option linter.constructorNameAsVariable false in
theorem Qyq{y:DataW H×List MemPlace}(h:DataW.trod enc Tryz.prog w base spare held n 31 cs=some y): ∃ c:Cse,CseV w cs c/\∀ i,i<c.rss.length->∀ r∈c.rss.getD i [],∀ u∈r,Ks u:=by
 obtain⟨j,m,_,hx,D,O,B⟩:=DataW.trod_struct Tryz.underlying31 h;have U:cs.length=6:=by rw[D];kernel_rfl
 match cs,U with
 | [c0,c1,c2,c3,c4,c5],_=>
  have a1:j.length=6:=O;subst hx;have f0:DataW.trod enc Tryz.prog w base spare held m 3 (([c0,c1,c2,c3,c4,c5].drop 0).take (Tryz.prog.cellsOf 3))=j[0]?:=B 0 _ rfl;have f1:DataW.trod enc Tryz.prog w base spare held m 3 (([c0,c1,c2,c3,c4,c5].drop 1).take (Tryz.prog.cellsOf 3))=j[1]?:=B 1 _ rfl;have f2:DataW.trod enc Tryz.prog w base spare held m 27 (([c0,c1,c2,c3,c4,c5].drop 2).take (Tryz.prog.cellsOf 27))=j[2]?:=B 2 _ rfl;have f3:DataW.trod enc Tryz.prog w base spare held m 22 (([c0,c1,c2,c3,c4,c5].drop 3).take (Tryz.prog.cellsOf 22))=j[3]?:=B 3 _ rfl;have f4:DataW.trod enc Tryz.prog w base spare held m 28 (([c0,c1,c2,c3,c4,c5].drop 4).take (Tryz.prog.cellsOf 28))=j[4]?:=B 4 _ rfl;have f5:DataW.trod enc Tryz.prog w base spare held m 29 (([c0,c1,c2,c3,c4,c5].drop 5).take (Tryz.prog.cellsOf 29))=j[5]?:=B 5 _ rfl;rw[show Tryz.prog.cellsOf 3=1 by kernel_rfl,List.getElem?_eq_getElem om]at f0 f1
  rw[show Tryz.prog.cellsOf 27=1 by kernel_rfl,List.getElem?_eq_getElem om]at f2;rw[show Tryz.prog.cellsOf 22=1 by kernel_rfl,List.getElem?_eq_getElem om]at f3;rw[show Tryz.prog.cellsOf 28=1 by kernel_rfl,List.getElem?_eq_getElem om]at f4;rw[show Tryz.prog.cellsOf 29=1 by kernel_rfl,List.getElem?_eq_getElem om]at f5;obtain⟨n,e0,_,w0⟩:=DataW.trod_int Tryz.underlying3 f0;obtain⟨f,e1,_,w1⟩:=DataW.trod_int Tryz.underlying3 f1;obtain⟨A2,k2,ds,e2,g2⟩:=Qyt f2;obtain⟨⟨p3,pm⟩,Z,g3,A3,k3,J⟩:=Jmn f3;simp only at J g3 Z;subst J;obtain⟨A4,k4,vs,e4,g4⟩:=Qyn f4;obtain⟨A5,k5,rss,e5,g5,G⟩:=Qyk f5;simp at e0 e1 e2 Z e4 e5;subst e0;subst e1;subst e2;subst Z;subst e4;subst e5;exact⟨⟨n,f,ds,pm,vs,rss⟩,⟨A2,k2,A3,k3,A4,k4,A5,k5,rfl,g2,g3,g4,g5,bounds_i64 w0,bounds_i64 w1⟩,G⟩
theorem Qyr{d:DataW H}(hv:Value.okWide Tryz.prog w .any b0 31 v)(h:DataW.Trod enc Tryz.prog w base spare held 31 v d p): Qjn w v:=by
 simp only[Value.okWide,Tryz.underlying31]at hv;obtain⟨⟨l⟩,rfl,_,_⟩:=hv;obtain⟨i,h⟩:=h;obtain⟨c,u,j⟩:=Qyq h;exact⟨l,c,rfl,u,j⟩
def U8sE(w:World)(v:Value): Prop:=∃(l:List UInt8) (A:Option Addr) (c:Nat),v=.slice A l.length c/\Rd w 1 A l.length (Bc l)/\l.length<=c/\c<=maxLen
theorem Qyj{d:DataW H}(hv:Value.okWide Tryz.prog w .any b0 74 v)(h:DataW.Trod enc Tryz.prog w base spare held 74 v d p): U8sE w v:=by
 obtain⟨A,len,i,rfl⟩:=okWide_slice Tryz.underlying74 hv;obtain⟨j,u⟩:=h;obtain⟨l,G,D,B,y⟩:=Qys Tryz.underlying74 Tryz.underlying5 kr u;subst G;exact⟨l,A,i,rfl,D,B,y⟩
end
open Go.RowKit Pl Go.Wk
theorem Qlb{B0:Nat}{w:World}{v u:Value}(hT:FB B0 w)(hc:Qjn w v)(hb:U8sE w u): Ret Tryz.prog 7 [v,u] w λu w'=>u=.bool true/\Ext w w':=by
 obtain⟨cs,c,rfl,j,_⟩:=hc;obtain⟨l,A,k,rfl,i,_⟩:=hb;exact Qlc hT j i
end Go.Proofs.YtebiphhfkdbpfaaGreatDoor
