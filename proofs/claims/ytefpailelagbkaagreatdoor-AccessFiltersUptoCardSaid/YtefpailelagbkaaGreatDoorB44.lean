/- Part 44 of the proof: Qb, Qc, Lw4, Qd. -/
import Derived.Test.YtefpailelagbkaaGreatDoorB43
set_option linter.unusedVariables false
set_option maxRecDepth 100000
set_option maxHeartbeats 40000000
namespace Go.Proofs.YtefpailelagbkaaGreatDoor
open Pl Go.Wk
noncomputable def BBx(tot n f:Nat)(kf:Nat->Nat)(pf:Nat->Int)(R:Nat->List Row)(ds:List Bool)(pl:Nat->Nat)(u:Nat): List BkT:=if u<f then (if tot=0 then [] else BBo n f kf pf R ds pl u) else []
section
variable {n f m:Nat} {es perm:List Nat} {vars:Nat->List Nat} {rs:Nat->List Row} {kf:Nat->Nat} {pf:Nat->Int} {R:Nat->List Row} {ds:List Bool} {ats:List Atm} {tot:Nat} {L:List Row} {BB:Nat->List BkT}
theorem Xqb(hat:ats.length=m)(hae:∀ i,i<m->(ats.getD i a0).rows=rs i){T:Nat->Row->Nat}: Jtz n pf T ats≠0↔(∀ i,i<m->rs i≠[])/\∀ v,v<n->pf v = -1->0<T v []:=by
 unfold Jtz;have j:ats.any (λa=>a.rows.isEmpty)=true↔∃ i,i<m/\rs i=[]:=by
  rw [List.any_eq_true];constructor
  ·rintro ⟨a,C,h⟩;obtain ⟨i,hi,rfl⟩:=List.getElem_of_mem C;refine ⟨i,by omega,?_⟩;rw [<-hae i (by omega)];have:ats.getD i a0=ats[i]:=by simp [List.getD,hi]
   rw [this];exact List.isEmpty_iff.1 h
  ·rintro ⟨i,hi,h⟩;refine ⟨ats.getD i a0,getD_mem' a0 _ (by omega),?_⟩;rw [hae i hi,h];rfl
 split
 ·rename_i h;obtain ⟨i,hi,e⟩:=j.1 h;exact ⟨λh=>absurd rfl h,λh=>absurd e (h.1 i hi)⟩
 ·rename_i h;have G:∀ i,i<m->rs i≠[]:=λi hi e=>h (j.2 ⟨i,hi,e⟩);rw [<-Nat.pos_iff_ne_zero,prodR_pos];refine ⟨λh=>⟨G,λv u o=>?_⟩,λh v u=>?_⟩
  ·have:=h v u;rwa [if_pos o]at this
  ·by_cases o:pf v = -1
   ·rw [if_pos o];exact h.2 v u o
   ·rw [if_neg o];exact Nat.one_pos
theorem ElR.ixP(h:ElR n f m es perm vars rs kf pf R)(hfit:∀ v,v<f->∀ x∈R v,∀ u∈x,Qyf u/\u.bytes.length<=24)(hat:ats.length=m)(hae:∀ i,i<m->(ats.getD i a0).rows=rs i)(htot:tot=Jtz n pf (TV n f kf pf R ds (plO perm f)) ats)(hL:Lt ds L)(hLm:∀ y,y∈L↔∃ z,Jtv n m vars rs z/\z.take f=y):
  IxP f ds kf pf (BBx tot n f kf pf R ds (plO perm f)) tot L:=by
 have ac:=h.pm.fn;have hn:=h.n32;have o:=h.ok (ds:=ds);have G:tot≠0↔(Xkj n f m perm vars rs kf pf R ds).Roots:=by
  rw [htot,Xqb hat hae];constructor
  ·rintro ⟨U,h2⟩;refine ⟨λv j Z=>h2 v j Z,λa ha=>?_⟩;obtain ⟨i,hi,rfl⟩:=List.mem_map.1 ha;exact U i (List.mem_range.1 hi)
  ·rintro ⟨U,h2⟩;exact ⟨λi hi=>h2 (vars i,rs i) (List.mem_map.2 ⟨i,List.mem_range.2 hi,rfl⟩),λv j Z=>U v j Z⟩
 have a3:∀ z,(Xkj n f m perm vars rs kf pf R ds).Join z↔Jtv n m vars rs z:=λz=>by
  constructor
  ·rintro ⟨U,h2⟩;exact ⟨U,λi hi=>h2 (vars i,rs i) (List.mem_map.2 ⟨i,List.mem_range.2 hi,rfl⟩)⟩
  ·rintro ⟨U,h2⟩;refine ⟨U,λa ha=>?_⟩;obtain ⟨i,hi,rfl⟩:=List.mem_map.1 ha;exact h2 i (List.mem_range.1 hi)
 have hE:tot≠0->∀ v,v<f->∀ k,entK (BBx tot n f kf pf R ds (plO perm f) v) k=(Xkj n f m perm vars rs kf pf R ds).E v k:=λh0 v j k=>by
  unfold BBx;rw [if_pos j,if_neg h0];rfl
 obtain ⟨X,hX⟩:∃ X:BX V,X=⟨V0,n,f,λv=>bk (kf v) 32,pf,plO perm f,(List.range m).map λi=>(vars i,rs i),TV n f kf pf R ds (plO perm f),λv k=>entK (BBx tot n f kf pf R ds (plO perm f) v) k⟩:=⟨_,rfl⟩;have C:tot≠0->X.Ok:=λh0=>by
  subst hX;exact ⟨o.FN,o.plN,o.inj,o.k1,o.k2,o.k3,o.k4,o.k5,o.k6,o.al,o.t1,λv j k=>by
   have:=o.t2 v j k;rw [<-hE h0 v j k]at this;exact this⟩
 have aj:tot≠0↔X.Roots:=by subst hX;exact G
 have ad:∀ z,X.Join z↔Jtv n m vars rs z:=λz=>by subst hX;exact a3 z
 have a4:Jhj f kf pf (BBx tot n f kf pf R ds (plO perm f))=X.ix:=by subst hX;rfl
 have J:X.F=f:=by subst hX;rfl
 have ak:X.N=n:=by subst hX;rfl
 have an:X.d0=V0:=by subst hX;rfl
 have a7:tot≠0->X.ix.Srt ds:=λh0=>by
  have hs:=h.srt (ds:=ds);subst hX;refine ⟨rfl,λv j k=>?_⟩;have:=hs.srt v j k;show Xzx _ (entK _ k);rw [hE h0 v j k];exact this
 have a6:tot=0->L=[]:=λh0=>by
  refine List.eq_nil_iff_forall_not_mem.2 λy hy=>?_;obtain ⟨z,hz,e⟩:=(hLm y).1 hy;have ae:=(a3 z).2 hz;have a1:y.length=f:=by rw [<-e,List.length_take,hz.1];omega
  have:=(o.answers (y:=y) a1).2 ⟨z,ae,e⟩;exact absurd h0 (G.2 this.2)
 have a8:tot≠0->L=X.ix.ext f []:=λh0=>by
  refine Jyz hL ((a7 h0).ext f [] (by show 0+f=X.F;omega)) λy=>?_;rw [hLm y];have O:=(C h0).ixOk;constructor
  ·rintro ⟨z,hz,e⟩;have a1:y.length=X.F:=by rw [<-e,List.length_take,hz.1];omega
   have:=((C h0).answers a1).2 ⟨z,(ad z).2 hz,by rw [J];exact e⟩;refine (AX.ext_mem f [] y).2 ⟨by rw [a1,J];simp,rfl,λv _ j=>?_⟩;have a9:v<X.F:=by rw [J];simpa using j
   have U:=this.1 v a9;have hk:X.ix.key v (y.take v)=X.ix.key v y:=by
    have:=O.key_pre (c:=v) (y:=y.take v) (z:=y.drop v) a9 (by rw [List.length_take,Nat.min_eq_left (by omega)];exact (O.pl v a9).2);rw [List.take_append_drop]at this;exact this.symm
   show y.getD v X.d0∈(X.E v (X.ix.key v (y.take v))).map (·.1)
   rw [hk];exact U
  ·intro hy;obtain ⟨U,_,h3⟩:=(AX.ext_mem f [] y).1 hy;have a1:y.length=X.F:=by rw [U,J];simp
   have af:∀ v,v<X.F->y.getD v X.d0∈(X.E v (prj X.d0 (X.K v) y)).map (·.1):=λv j=>by
    have h4:=h3 v (Nat.zero_le _) (by simpa [J] using j);have hk:X.ix.key v (y.take v)=X.ix.key v y:=by
     have:=O.key_pre (c:=v) (y:=y.take v) (z:=y.drop v) j (by rw [List.length_take,Nat.min_eq_left (by omega)];exact (O.pl v j).2);rw [List.take_append_drop]at this;exact this.symm
    rw [hk]at h4;exact h4
   obtain ⟨z,hz,e⟩:=((C h0).answers a1).1 ⟨af,aj.1 h0⟩;exact ⟨z,(ad z).1 hz,by rw [J]at e;exact e⟩
 have aa:∀ v,v<f->GInv (ds.getD v false) (λx=>wtL (TV n f kf pf R ds (plO perm f)) x (chK kf pf v n)) (Go.Proofs.YtefpailelagbkaaGreatDoor.lastC kf v) (R v) (BBo n f kf pf R ds (plO perm f) v):=λv j=>Jts h j;have ab:∀ v k,(trK (BBx tot n f kf pf R ds (plO perm f) v) k).toL=[]∨(v<f/\(trK (BBx tot n f kf pf R ds (plO perm f) v) k).toL=Qxq (ds.getD v false) (Jbl (λx=>wtL (TV n f kf pf R ds (plO perm f)) x (chK kf pf v n)) (Go.Proofs.YtefpailelagbkaaGreatDoor.lastC kf v) (R v) k)):=λv k=>by
  rw [Qxx];unfold BBx;by_cases j:v<f
  ·rw [if_pos j];by_cases h0:tot=0
   ·rw [if_pos h0];exact .inl rfl
   ·rw [if_neg h0];exact .inr ⟨j,(aa v j).entK k⟩
  ·rw [if_neg j];exact .inl rfl
 refine ⟨?_,λh0 v=>?_,λh0=>a4 ▸ (C h0).ixOk,λh0=>a4 ▸ a7 h0,λh0=>a4 ▸ a8 h0,λv k=>?_,λv k=>?_,λv b hb p Z=>?_,by omega,λv j=>(h.bags v (by omega)).1⟩
 ·by_cases h0:tot=0
  ·rw [a6 h0,h0];rfl
  ·have O:=(C h0).ixOk;rw [a8 h0,O.ext_len f [] (by show 0+f=X.F;omega)];have e1:tot=Jjz n λv=>if pf v = -1 then TV n f kf pf R ds (plO perm f) v [] else 1:=by
    have a5:=h0;rw [htot]at a5 ⊢;unfold Jtz at a5 ⊢;split
    ·rename_i hc;rw [if_pos hc]at a5;exact absurd rfl a5
    ·rfl
   rw [e1,Qvf ac λc U h2=>?_]
   ·show Jjz f _=Jjz X.F _;rw [J];refine Jxm λc hc=>?_;have ag:=O.pl c (by rw [show X.ix.F=X.F from rfl,J];exact hc);have a2:X.ix.par c=pf c:=by subst hX;rfl
    rw [a2]at ag;by_cases Z:pf c = -1
    ·rw [if_pos Z,if_pos ⟨Nat.zero_le _,by rw [a2];simp;omega⟩];have ah:X.ix.key c []=[]:=by
      have ai:X.K c=[]:=(C h0).kroot (by rw [ak];omega) (by subst hX;exact Z);show prj X.d0 (X.K c) []=[];rw [ai];rfl
     have:=((C h0).t2 c (by rw [J];exact hc) []).1;have hT:X.T c []=TV n f kf pf R ds (plO perm f) c []:=by subst hX;rfl
     rw [hT]at this;rw [this];show _=Pl.tot (X.E c (X.ix.key c []));rw [ah]
    ·rw [if_neg Z,if_neg];rintro ⟨_,h2⟩;rw [a2]at h2;simp at h2;omega
   ·by_cases Z:pf c = -1
    ·rw [if_pos Z];have h3:=(G.1 h0).1 c h2 Z;have h4:=Qnh (n:=n) (R:=R) (ds:=ds) (kf:=kf) h.chf c U [];have h5:0<TV n f kf pf R ds (plO perm f) c []:=h3;omega
    ·rw [if_neg Z]
 ·unfold BBx;rw [if_pos h0];split<;>rfl
 ·rw [Tr.sum_eq];rcases ab v k with e|⟨j,e⟩
  ·rw [e];exact Nat.zero_le _
  ·rw [e,Jhf];have:=h.big (ds:=ds) v k;rw [Jtp h.chf ac j,Qxz]at this;have e2:=(aa v j).entK k;unfold BBo at e2;rw [e2,Jhf]at this;exact this
 ·rw [Tr.sz_eq];rcases ab v k with e|⟨j,e⟩
  ·rw [e];exact Nat.zero_le _
  ·rw [e];have U:(Qxq (ds.getD v false) (Jbl (λx=>wtL (TV n f kf pf R ds (plO perm f)) x (chK kf pf v n)) (Go.Proofs.YtefpailelagbkaaGreatDoor.lastC kf v) (R v) k)).length<=(R v).length:=by
    have:(Jbl (λx=>wtL (TV n f kf pf R ds (plO perm f)) x (chK kf pf v n)) (Go.Proofs.YtefpailelagbkaaGreatDoor.lastC kf v) (R v) k).length<=(R v).length:=by
     unfold Jbl;rw [List.length_map];exact List.length_filter_le _ _
    unfold Qxq;split<;>simpa using this
   exact nL U (h.rows v (by omega)).2.2
 ·unfold BBx at hb;by_cases j:v<f
  ·rw [if_pos j]at hb;by_cases h0:tot=0
   ·rw [if_pos h0]at hb;cases hb
   ·rw [if_neg h0]at hb;rw [((aa v j).con b hb).1,Qyk,entL_mem]at Z;obtain ⟨x,hx,_,h2,_⟩:=Z;rw [<-h2];have am:=h.rl j x hx;have:x.getD (Go.Proofs.YtefpailelagbkaaGreatDoor.lastC kf v) V0∈x:=getD_mem' V0 x (by omega);exact hfit v j x hx _ this
  ·rw [if_neg j]at hb;cases hb
theorem IxP.few(h:IxP f ds kf pf BB tot L)(hl:L.length<4294967296): tot≠0->∀ z,(Jhj f kf pf BB).Gp z->z.length<f->0<(Jhj f kf pf BB).pend z.length z->(Jhj f kf pf BB).others z.length z<4294967296:=λh0 z o i j=>by
 have C:=((h.ok h0).others_le i j).2;have u:=(h.ok h0).pend_le z.length z rfl (Nat.le_of_lt i) o;rw [h.pend0 h0,h.len]at u;omega
end
open Pl Go.Wk
def toN(l:List Int): List Nat:=l.map Int.toNat
theorem Qvp{l:List Int}(h:∀ v∈l,0<=v): nz (toN l)=l:=by
 unfold nz toN;rw [List.map_map];conv=>rhs;rw [<-List.map_id l]
 exact List.map_congr_left λv i=>by simp only [Function.comp,id];have:=h v i;omega
theorem Qzb{l:List Int}(h:∀ v∈l,0<=v){u:Nat}: u∈toN l↔(u:Int)∈l:=by
 conv=>rhs;rw [<-Qvp h]
 unfold nz;rw [List.mem_map];exact ⟨λj=>⟨u,j,rfl⟩,λ⟨v,i,e⟩=>by (have:v=u:=by omega);(exact this ▸ i)⟩
theorem Qwb{l:List Nat}(h:ascB (nz l)): Jch l:=by
 unfold Jch;rw [List.pairwise_iff_getElem];intro i j hi C G;have step:∀ k,0<k->k<l.length->l.getD (k-1) 0<l.getD k 0:=λk h0 u=>by
  have:=h k h0 (by rw [Jqc];exact u);rw [Jsg (by omega),Jsg u]at this;omega
 have key:∀ d,i+1+d<l.length->l.getD i 0<l.getD (i+1+d) 0:=by
  intro d;induction d with
  | zero=>intro o;have:=step (i+1) (by omega) o;simpa using this
  | succ d ih=>
   intro o;have O:=ih (by omega);have J:=step (i+1+(d+1)) (by omega) o;have e:i+1+(d+1)-1=i+1+d:=by omega
   rw [e]at J;omega
 have:=key (j-(i+1)) (by omega);rw [show i+1+(j-(i+1))=j by omega,Jjh 0 _ hi,Jjh 0 _ C]at this;exact this
structure CseOk(c:Cse)(ats:List Atm): Prop where
 few:FewP c
 len:c.vs.length=c.rss.length
 al:ats.length=c.vs.length
 mka:∀ i,i<c.vs.length->MkA (ats.getD i a0) (c.vs.getD i []) (c.rss.getD i [])
 chk:Xkh ⟨c.n,c.f,c.ds,c.pm,ats⟩
 fit:∀ i,i<c.rss.length->∀ r∈c.rss.getD i [],∀ u∈r,Qyf u
def Cse.N(c:Cse): Nat:=c.n.toNat
def Cse.F(c:Cse): Nat:=c.f.toNat
def Cse.m(c:Cse): Nat:=c.vs.length
def Cse.vars(c:Cse)(i:Nat): List Nat:=toN (c.vs.getD i [])
def Cse.crs(c:Cse)(i:Nat): List Row:=c.rss.getD i []
def rsA(ats:List Atm)(i:Nat): List Row:=(ats.getD i a0).rows
def Cse.ans(c:Cse): List Row:=ansF c.m c.vars c.crs c.N c.F c.ds
section
variable {c:Cse} {ats:List Atm}
theorem CseOk.nN(h:CseOk c ats): c.n=(c.N:Int)/\c.N<=6:=by
 have j:=h.chk.1;have i:=h.chk.2.1;have o:=h.few.n6;simp only at j i;unfold Cse.N;omega
theorem CseOk.fF(h:CseOk c ats): c.f=(c.F:Int)/\c.F<=c.N:=by
 obtain ⟨o,_,j,i,_⟩:=h.chk;simp only at o j i;unfold Cse.F Cse.N;omega
theorem CseOk.at_(h:CseOk c ats){i:Nat}(hi:i<c.m): Xbp c.n (ats.getD i a0):=by
 obtain ⟨_,_,_,_,_,_,_,_,_,_,_,j,_⟩:=h.chk;exact j _ (getD_mem' a0 _ (by rw [h.al];exact hi))
theorem CseOk.vars(h:CseOk c ats){i:Nat}(hi:i<c.m): nz (c.vars i)=c.vs.getD i []/\Jch (c.vars i)/\(∀ v∈c.vars i,v<c.N)/\(c.vars i).length=(c.vs.getD i []).length:=by
 obtain ⟨u,o,G⟩:=h.at_ hi;have C:=(h.mka i hi).vars;rw [C]at u o;have h0:∀ v∈c.vs.getD i [],0<=v:=λv j=>(o v j).1;refine ⟨Qvp h0,Qwb (by unfold Cse.vars;rw [Qvp h0];exact u),λv j=>?_,by simp [Cse.vars,toN]⟩;have:=(o v ((Qzb h0).1 j)).2;have:=h.nN.1;omega
theorem CseOk.cov(h:CseOk c ats){v:Nat}(hv:v<c.N): ∃ i,i<c.m/\v∈c.vars i:=by
 obtain ⟨_,_,_,_,_,_,_,_,_,_,_,_,U⟩:=h.chk;obtain ⟨a,O,o⟩:=U v (by have:=h.nN.1;simp only;omega);obtain ⟨i,hi,e⟩:=List.getElem_of_mem O;have j:i<c.m:=by have:=h.al;unfold Cse.m;simp only at hi;omega
 have G:ats.getD i a0=a:=by rw [Jjh a0 _ hi,e]
 have C:=(h.mka i j).vars;rw [G]at C;refine ⟨i,j,(Qzb λu J=>?_).2 (C ▸ o)⟩;have:=(h.at_ j).2.1 u (by rw [G,C];exact J);exact this.1
theorem CseOk.set(h:CseOk c ats){i:Nat}(hi:i<c.m): IsSet [] (c.crs i) (rsA ats i):=(h.mka i hi).set (by have:=h.few.row i (by rw [<-h.len];exact hi);unfold Cse.m at hi;omega)
theorem CseOk.clen(h:CseOk c ats){i:Nat}(hi:i<c.m): ∀ r∈c.crs i,r.length=(c.vars i).length:=λr j=>by rw [(h.vars hi).2.2.2];exact ((h.mka i hi).ok r j).1
theorem CseOk.slen(h:CseOk c ats){i:Nat}(hi:i<c.m): ∀ r∈rsA ats i,r.length=(c.vars i).length:=λr j=>h.clen hi r (((h.set hi).2 r).1 j)
theorem Jpl{n:Nat}{g g':Nat->Nat}(h:∀ c,c<n->g c<=g' c): Jjz n g<=Jjz n g':=by
 induction n with
 | zero=>exact Nat.le_refl _
 | succ n ih=>rw [Jjz,Jjz];exact Nat.mul_le_mul (ih λc i=>h c (by omega)) (h n (by omega))
theorem CseOk.cnt(h:CseOk c ats): max 1 (Jjz c.m λi=>(c.crs i).length)<=5000:=by
 have j:=h.few.cnt;rw [<-h.len]at j;have o:Jjz c.m (λi=>(c.crs i).length)<=Jjz c.vs.length λi=>max 1 (c.rss.getD i []).length:=Jpl λi _=>Nat.le_max_right _ _;omega
theorem CseOk.refP(h:CseOk c ats): RefP c.N c.m c.vars c.crs:=by
 have o:=h.nN.2;refine ⟨by omega,by have:=h.few.v5;unfold Cse.m;omega,λi hi=>(h.vars hi).2.1,λi hi=>(h.vars hi).2.2.1,λi hi=>h.clen hi,λv j=>h.cov j,h.cnt,λi hi=>h.few.row i (by rw [<-h.len];exact hi)⟩
theorem Qzh{ds:List Bool}{ls m:List Row}(h:IsSet ds ls m): m.length<=ls.length:=Jsh (Qhx h.1) λx i=>(h.2 x).1 i
theorem CseOk.pm(h:CseOk c ats): PermOk c.N c.F (toN c.pm)/\nz (toN c.pm)=c.pm:=by
 obtain ⟨_,_,_,_,_,u,j,o,_⟩:=h.chk;simp only at u j o;have hn:=h.nN.1;have C:=h.fF.1;have h0:∀ v∈c.pm,0<=v:=λv i=>by have:=(j v i).1;omega
 refine ⟨⟨h.fF.2,by simp [toN];omega,λv i=>?_,?_⟩,Qvp h0⟩
 ·have:=j v ((Qzb h0).1 i);omega
 ·unfold toN List.Nodup;rw [List.pairwise_map];exact List.Pairwise.imp_of_mem (fun {a b} ha hb hab e=>hab (by have:=h0 a ha;have:=h0 b hb;omega)) o
theorem CseOk.bldI(h:CseOk c ats){ts:List TA}(hts:ats=ts.map (·.2)): BldI c.N c.F c.ds (toN c.pm) ts c.vars (rsA ats):=by
 have hN:=h.nN.2;have j:ts.length=c.m:=by have:=h.al;rw [hts,List.length_map]at this;exact this
 have o:RunOk c.N ts c.vars (rsA ats):=by
  refine ⟨by omega,by have:=h.few.v5;unfold Cse.m at j;omega,λi hi=>?_,λi hi=>(h.vars (j ▸ hi)).2.1,λi hi=>(h.vars (j ▸ hi)).2.2.1,λv G=>by rw [j];exact h.cov G,λi hi=>(h.set (j ▸ hi)).1,λi hi=>h.slen (j ▸ hi),λi hi=>(h.mka i (show i<c.m from j ▸ hi)).len⟩;have C:i<c.m:=j ▸ hi;have e:(ts.getD i ta0).2=ats.getD i a0:=by rw [hts];simp [List.getD,hi]
  have hm:=h.mka i C;obtain ⟨v1,_,_,v4⟩:=h.vars C;rw [e];have e2:ats.getD i a0=⟨(ats.getD i a0).vars,(ats.getD i a0).ar,(ats.getD i a0).rows⟩:=rfl;rw [e2,hm.vars,hm.ar,v1,v4];rfl
 refine ⟨o,h.pm.1,?_,λi hi r hr u hu=>?_,λkf pf hb v G=>⟨λl hl hx=>?_,λi hi=>.inl ?_⟩⟩
 ·obtain ⟨_,_,_,_,O,_⟩:=h.chk;simp only at O;unfold Cse.F;omega
 ·have C:i<c.m:=j ▸ hi;have J:=((h.set C).2 r).1 hr;have O:=((h.mka i C).ok r J).2;exact ⟨List.all_eq_true.1 O u hu,h.fit i (by rw [<-h.len];exact C) r J u hu⟩
 ·have hs:kf v ||| 2^v<2^c.N:=by
   refine Nat.lt_pow_two_of_testBit _ λi hi=>?_;cases hbt:(kf v ||| 2^v).testBit i with
   | false=>rfl
   | true=>
    rw [Nat.testBit_or,Nat.testBit_two_pow,Bool.or_eq_true,decide_eq_true_eq]at hbt;rcases hbt with hbt|hbt
    ·rw [(hb v G).2.1]at hbt;have U:∀ e∈Jrb ts.length c.vars,e<2^c.N:=λe he=>by
      obtain ⟨i,hi,rfl⟩:=List.mem_map.1 he;exact Jvm (o.lt i (List.mem_range.1 hi))
     have:=Qvz (nb:=nb0 c.N (Jrb ts.length c.vars)) (ord:=Jzq (toN c.pm) c.F) (N:=c.N) (λa b Z=>(Jpn U Z).2.1) hbt;omega
    ·omega
  have O:=Qnb (m:=ts.length) (vars:=c.vars) (rs:=rsA ats) (l:=l) (λi hi=>o.asc i hi) (λv G=>o.cov v G) hs hl hx;have h2:Jjz ts.length (λi=>(rsA ats i).length)<=Jjz ts.length λi=>(c.crs i).length:=Jpl λi hi=>Qzh (h.set (j ▸ hi));have h3:=h.cnt;rw [j]at h2;rw [j]at O;omega
 ·have:=Qzh (h.set (j ▸ hi));have h2:=h.few.row i (by rw [<-h.len];exact (show i<c.m from j ▸ hi));unfold Cse.crs at this;omega
theorem CseOk.ansJ(h:CseOk c ats)(z:Row): Jtv c.N c.m c.vars (rsA ats) z↔Jtv c.N c.m c.vars c.crs z:=by
 unfold Jtv;refine and_congr_right λ_=>forall_congr' λi=>forall_congr' λhi=>?_;exact (h.set hi).2 _
theorem CseOk.ans(h:CseOk c ats): Lt c.ds c.ans/\∀ y,y∈c.ans↔∃ z,Jtv c.N c.m c.vars (rsA ats) z/\z.take c.F=y:=by
 have o:=Qbd c.m c.vars c.crs c.N c.F c.ds;have i:=h.refP;refine ⟨o.1,λy=>?_⟩;rw [show c.ans=ansF c.m c.vars c.crs c.N c.F c.ds from rfl,o.2 y,List.mem_map];constructor
 ·rintro ⟨z,j,e⟩;exact ⟨z,(h.ansJ z).2 ((Jmf i.asc i.len i.lt i.cov z).1 j),e⟩
 ·rintro ⟨z,j,e⟩;exact ⟨z,(Jmf i.asc i.len i.lt i.cov z).2 ((h.ansJ z).1 j),e⟩
theorem CseOk.anl(h:CseOk c ats): c.ans.length<=5000:=by
 have i:=h.refP;have j:=Qzh (Qbd c.m c.vars c.crs c.N c.F c.ds);have o:=Qqd i.asc i.len i.cov;rw [List.length_map]at j;exact nL j (nL o i.cnt)
end
open Go.RowKit Pl Go.Wk
attribute [local irreducible] WC WL QX WD WDB WP WN WG WH WM
theorem IxV.congr{w:World}{x:Value}{f:Nat}{ds:List Bool}{kf:Nat->Nat}{pf:Nat->Int}{BB BB':Nat->List BkT}{tot:Nat}(h:IxV w x f ds kf pf BB tot)(he:∀ v,v<f->BB v=BB' v): IxV w x f ds kf pf BB' tot:=by
 obtain ⟨DA,dc,BA,cb,KA,ck,PA,cp,u,j,i,h1,h2,h3,Z,U,O,J,G,C⟩:=h.ex;exact ⟨⟨DA,dc,BA,cb,KA,ck,PA,cp,u,j,i,h1,h2,h3,Z,U,O,J,G,λv o=>he v o ▸ C v o⟩,h.dl,h.f32⟩
theorem Xbg(w:World): (Instr.build 34 #[]).run Tryz.prog w=.ok (.agg #[.slice none 0 0,.slice none 0 0,.slice none 0 0,.slice none 0 0,.slice none 0 0]) w:=by kernel_rfl
theorem ElR.fits{n f:Nat}{ds:List Bool}{perm:List Nat}{ts:List TA}{vars:Nat->List Nat}{rs:Nat->List Row}{es:List Nat}{kf:Nat->Nat}{pf:Nat->Int}{R:Nat->List Row}(h:ElR n f ts.length es perm vars rs kf pf R)(hI:BldI n f ds perm ts vars rs):
  ∀ v,v<f->∀ x∈R v,∀ u∈x,Qyf u/\u.bytes.length<=24:=λv o x j u C=>by
 have i:v<n:=nM o h.pm.fn;obtain ⟨z,_,e,G⟩:=((h.rows v i).2.1 x).1 j;subst e;exact (hI.fit (h.sb i) G).1.2 u C
theorem ElR.htb{n f m:Nat}{es perm:List Nat}{vars:Nat->List Nat}{rs:Nat->List Row}{kf:Nat->Nat}{pf:Nat->Int}{R:Nat->List Row}{ds:List Bool}{tot:Nat}(h:ElR n f m es perm vars rs kf pf R){v:Nat}{b:BkT}(hb:b∈BBx tot n f kf pf R ds (plO perm f) v): b.2.ht<=65536:=by
 unfold BBx at hb;by_cases hv:v<f
 ·rw [if_pos hv]at hb;by_cases h0:tot=0
  ·rw [if_pos h0]at hb;cases hb
  ·rw [if_neg h0]at hb;have e:=((Jts (ds:=ds) h hv).con b hb).1;have o:b.2.toL.length<=(R v).length:=by
    rw [e];have:(Jbl (λx=>wtL (TV n f kf pf R ds (plO perm f)) x (chK kf pf v n)) (Go.Proofs.YtefpailelagbkaaGreatDoor.lastC kf v) (R v) b.1).length<=(R v).length:=by
     unfold Jbl;rw [List.length_map];exact List.length_filter_le _ _
    unfold Qxq;split<;>simpa using this
   have i:=Tr.ht_le b.2;rw [Tr.sz_eq]at i;have j:=(h.rows v (nM hv h.pm.fn)).2.2;omega
 ·rw [if_neg hv]at hb;cases hb
theorem ixA_of{w:World}{x:Value}{n f:Nat}{ds:List Bool}{perm:List Nat}{ts:List TA}{vars:Nat->List Nat}{rs:Nat->List Row}{es:List Nat}{kf:Nat->Nat}{pf:Nat->Int}{R:Nat->List Row}{L:List Row}(hTB:∃ B0,TB B0 w)(hI:BldI n f ds perm ts vars rs)(hats:∀ i,i<ts.length->((ts.map (·.2)).getD i a0).rows=rs i)(hE:ElR n f ts.length es perm vars rs kf pf R)(hV:IxV w x f ds kf pf (λu=>if Jtz n pf (TV n f kf pf R ds (plO perm f)) (ts.map (·.2))=0 then [] else BBo n f kf pf R ds (plO perm f) u) (Jtz n pf (TV n f kf pf R ds (plO perm f)) (ts.map (·.2))))(hL:Lt ds L)(hLm:∀ y,y∈L↔∃ z,Jtv n ts.length vars rs z/\z.take f=y)(hl:L.length<4294967296):
  IxA w x f ds kf pf (BBx (Jtz n pf (TV n f kf pf R ds (plO perm f)) (ts.map (·.2))) n f kf pf R ds (plO perm f)) (Jtz n pf (TV n f kf pf R ds (plO perm f)) (ts.map (·.2))) L:=by
 have j:=hE.ixP (ds:=ds) (tot:=Jtz n pf (TV n f kf pf R ds (plO perm f)) (ts.map (·.2))) (hE.fits hI) (ats:=ts.map (·.2)) (by rw [List.length_map]) hats rfl hL hLm
 exact ⟨hTB,hV.congr λv o=>by unfold BBx;rw [if_pos o],j,j.few hl,λv b C=>hE.htb C⟩
def Xbz(c:Cse): Prop:=FewS c/\MkS c/\∀ ats:List Atm,ats.length=c.vs.length->(∀ i,i<c.vs.length->MkA (ats.getD i a0) (c.vs.getD i []) (c.rss.getD i []))->Xkh ⟨c.n,c.f,c.ds,c.pm,ats⟩
theorem rsA_ts{ts:List TA}{ats:List Atm}(h:ats=ts.map (·.2)): ∀ i,i<ts.length->((ts.map (·.2)).getD i a0).rows=rsA ats i:=λi hi=>by rw [rsA,h]
theorem CseV.rin{w:World}{c:Cse}{ats:List Atm}{vA rA:Option Addr}{vc rc:Nat}(hV:IntssV w (.slice vA c.vs.length vc) c.vs)(hR:RowssV w (.slice rA c.rss.length rc) c.rss)(h:CseOk c ats): RInM w vA rA c.m c.vars c.crs:=by
 obtain ⟨_,_,o,j,_,_,G,C⟩:=hV;injection j with j e2 e3
 subst j;subst e3;obtain ⟨_,_,u,j,_,_,O,J⟩:=hR;injection j with j e2 e3
 subst j;subst e3;refine ⟨⟨o,G,λi hi=>?_⟩,⟨u,?_,λi hi=>J i (by rw [<-h.len];exact hi)⟩⟩
 ·rw [(h.vars hi).1];exact C i hi
 ·have:=h.len;unfold Cse.m;rw [this];exact O
theorem bldV_of{w:World}{c:Cse}{ats:List Atm}{dA pA aA:Option Addr}{dc pc ac an:Nat}(h:CseOk c ats)(hD:BoolsV w (.slice dA c.ds.length dc) c.ds)(hP:IntsV w (.slice pA c.pm.length pc) c.pm)(hG:GV 3 AtG w (.slice aA an ac) ats):
  ∃ ts:List TA,ats=ts.map (·.2)/\BldV w (.agg #[.int .i64 c.n,.int .i64 c.f,.slice dA c.ds.length dc,.slice pA c.pm.length pc,.slice aA an ac]) c.N c.F c.ds (toN c.pm) ts:=by
 obtain ⟨ts,A,cc,u,eA,J,O,G,C⟩:=Jnm hG;injection eA with i e2 e3
 subst i;subst e2;subst e3;obtain ⟨D,d',i,h1,h2,h3⟩:=hD;injection i with i e2 e3
 subst i;subst e3;obtain ⟨Q,q',i,Z,h5,U⟩:=hP;injection i with i e2 e3
 subst i;subst e3;have o:=(h.bldI u).dl;have j:(toN c.pm).length=c.pm.length:=by simp [toN]
 refine ⟨ts,u,dA,dc,pA,pc,aA,ac,?_,by rw [<-o];exact h1,h3,?_,by rw [j];exact Z,G,J,C⟩
 ·rw [h.nN.1.symm,h.fF.1.symm,j,<-o]
 ·rw [h.pm.2,j];exact U
end Go.Proofs.YtefpailelagbkaaGreatDoor
namespace Go.Proofs.YtefpailelagbkaaGreatDoor
open Pl Go.Wk
def nV(n:Int): V:=⟨1,n,⟨#[]⟩⟩
def nR(a b:Int): Row:=[nV a,nV b]
theorem nV_ok(n:Int): Jxc (nV n)=true:=rfl
theorem Xvp{n:Int}(h:-9223372036854775808<=n/\n<=9223372036854775807): Qyf (nV n):=⟨by show _<=(1:Int)/\(1:Int)<=_;omega,h⟩
def Jzw(ds:List Bool)(r1 r2 r3:Row): Cse:=⟨2,2,ds,[],[[0,1]],[[r1,r2,r3]]⟩
theorem goodE{ds:List Bool}{r1 r2 r3:Row}(hd:ds.length=2)(h1:r1.length=2/\r1.all Jxc=true)(h2:r2.length=2/\r2.all Jxc=true)(h3:r3.length=2/\r3.all Jxc=true): Xbz (Jzw ds r1 r2 r3):=by
 refine ⟨⟨λi hi=>?_,by simp [Jzw,Jjz],by simp [Jzw],by simp [Jzw],by simp [Jzw],λi hi=>?_,by show ds.length<=10;omega,by simp [Jzw]⟩,⟨rfl,λi hi=>?_,λi hi r J=>?_,λi hi=>?_⟩,λats G hmk=>?_⟩
 ·have:i=0:=by simp [Jzw]at hi;exact hi
  subst this;simp [Jzw]
 ·have:i=0:=by simp [Jzw]at hi;exact hi
  subst this;simp [Jzw]
 ·have:i=0:=by simp [Jzw]at hi;exact hi
  subst this;simp [Jzw]
 ·have:i=0:=by simp [Jzw]at hi;exact hi
  subst this;simp only [Jzw,List.getD_cons_zero,List.mem_cons,List.not_mem_nil,or_false]at J;rcases J with rfl|rfl|rfl
  ·exact h1
  ·exact h2
  ·exact h3
 ·have:i=0:=by simp [Jzw]at hi;exact hi
  subst this;simp [Jzw]
 ·have u:ats.length=1:=G;obtain ⟨a,rfl⟩:∃ a,ats=[a]:=List.length_eq_one_iff.1 u;have O:=hmk 0 (by simp [Jzw]);have o:a.vars=[0,1]:=O.vars;have ha:a.ar=2:=O.ar;refine ⟨by simp [Jzw],by simp [Jzw],by simp [Jzw],by simp [Jzw],by show (ds.length:Int)=2;omega,by simp [Jzw],λv o=>(by cases o),by simp [Jzw],by simp [Jzw],by simp [Jzw],by simp,λb U=>?_,λv C=>⟨a,by simp,?_⟩⟩
  ·rw [List.mem_singleton]at U;subst U;refine ⟨?_,?_,by rw [o,ha];rfl⟩
   ·rw [o];intro j h0 hj;have:j=1:=by simp at hj;omega
    subst this;decide
   ·rw [o];intro v h;simp only [List.mem_cons,List.not_mem_nil,or_false]at h;rcases h with rfl|rfl<;>simp [Jzw]
  ·rw [o];have Z:(v:Int)<2:=C;simp only [List.mem_cons,List.not_mem_nil,or_false];omega
def exA(d:Bool): Cse:=Jzw [d,false] (nR 1 2) (nR 1 3) (nR 2 3)
theorem exA_good(d:Bool): Xbz (exA d):=goodE rfl ⟨rfl,rfl⟩ ⟨rfl,rfl⟩ ⟨rfl,rfl⟩
theorem exA_ans: (exA false).ans=[nR 1 2,nR 1 3,nR 2 3]/\(exA true).ans=[nR 2 3,nR 1 2,nR 1 3]:=by decide
theorem exA_ans'(d:Bool): (exA d).ans.length=3/\(exA d).ans[1]?=some (if d then nR 1 2 else nR 1 3)/\(wiL (exA d).ans [nV 1])[1]?=some (nR 1 3)/\(wiL (exA d).ans [nV 2])[1]?=none:=by
 cases d with
 | false=>rw [exA_ans.1];decide
 | true=>rw [exA_ans.2];decide
theorem exA_fit(d:Bool): ∀ i,i<(exA d).rss.length->∀ r∈(exA d).rss.getD i [],∀ u∈r,Qyf u:=λi hi r o u j=>by
 have:i=0:=by simp [exA,Jzw]at hi;exact hi
 subst this;simp only [exA,Jzw,List.getD_cons_zero,List.mem_cons,List.not_mem_nil,or_false]at o;rcases o with rfl|rfl|rfl <;>
 ·simp only [nR,List.mem_cons,List.not_mem_nil,or_false]at j;rcases j with rfl|rfl<;>exact Xvp (by decide)
end Go.Proofs.YtefpailelagbkaaGreatDoor
