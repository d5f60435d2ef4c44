/- Part 45 of the proof: Qb, Qc, Lw4, Qd. -/
import Derived.Test.YtefpailelagbkaaGreatDoorJ44
set_option linter.unusedVariables false
set_option maxRecDepth 100000
set_option maxHeartbeats 40000000
namespace Go.Proofs.YtefpailelagbkaaGreatDoor
open Pl Go.Wk
noncomputable def BBx(tot n f:Nat)(kf:Nat->Nat)(pf:Nat->Int)(R:Nat->List Row)(ds:List Bool)(pl:Nat->Nat)(u:Nat): List BkT:=if u<f then (if tot=0 then [] else BBo n f kf pf R ds pl u) else []
section
variable {n f m:Nat} {es perm:List Nat} {vars:Nat->List Nat} {rs:Nat->List Row} {kf:Nat->Nat} {pf:Nat->Int} {R:Nat->List Row} {ds:List Bool} {ats:List Atm} {tot:Nat} {L:List Row} {BB:Nat->List BkT}
theorem Xqw(hat:ats.length=m)(hae:∀ i,i<m->(ats.getD i a0).rows=rs i){T:Nat->Row->Nat}: Qjq n pf T ats≠0↔(∀ i,i<m->rs i≠[])/\∀ v,v<n->pf v = -1->0<T v []:=by
 unfold Qjq;have hany:ats.any (λa=>a.rows.isEmpty)=true↔∃ i,i<m/\rs i=[]:=by
  rw [List.any_eq_true];constructor
  ·rintro ⟨a,ha,h⟩;obtain ⟨i,hi,rfl⟩:=List.getElem_of_mem ha;refine ⟨i,by omega,?_⟩;rw [<-hae i (by omega)];have:ats.getD i a0=ats[i]:=by simp [List.getD,hi]
   rw [this];exact List.isEmpty_iff.1 h
  ·rintro ⟨i,hi,h⟩;refine ⟨ats.getD i a0,getD_mem' a0 _ (by omega),?_⟩;rw [hae i hi,h];rfl
 split
 ·rename_i h;obtain ⟨i,hi,e⟩:=hany.1 h;exact ⟨λh=>absurd rfl h,λh=>absurd e (h.1 i hi)⟩
 ·rename_i h;have h1:∀ i,i<m->rs i≠[]:=λi hi e=>h (hany.2 ⟨i,hi,e⟩);rw [<-Nat.pos_iff_ne_zero,prodR_pos];refine ⟨λh=>⟨h1,λv hv hp=>?_⟩,λh v hv=>?_⟩
  ·have:=h v hv;rwa [if_pos hp]at this
  ·by_cases hp:pf v = -1
   ·rw [if_pos hp];exact h.2 v hv hp
   ·rw [if_neg hp];exact Nat.one_pos
theorem ElR.ixP(h:ElR n f m es perm vars rs kf pf R)(hfit:∀ v,v<f->∀ x∈R v,∀ u∈x,Qwc u/\u.bytes.length<=24)(hat:ats.length=m)(hae:∀ i,i<m->(ats.getD i a0).rows=rs i)(htot:tot=Qjq n pf (TV n f kf pf R ds (plO perm f)) ats)(hL:Lt ds L)(hLm:∀ y,y∈L↔∃ z,Qjl n m vars rs z/\z.take f=y):
  IxP f ds kf pf (BBx tot n f kf pf R ds (plO perm f)) tot L:=by
 have hfn:=h.pm.fn;have hn:=h.n32;have hok:=h.ok (ds:=ds);have hroots:tot≠0↔(Xwp n f m perm vars rs kf pf R ds).Roots:=by
  rw [htot,Xqw hat hae];constructor
  ·rintro ⟨h1,h2⟩;refine ⟨λv hv hp=>h2 v hv hp,λa ha=>?_⟩;obtain ⟨i,hi,rfl⟩:=List.mem_map.1 ha;exact h1 i (List.mem_range.1 hi)
  ·rintro ⟨h1,h2⟩;exact ⟨λi hi=>h2 (vars i,rs i) (List.mem_map.2 ⟨i,List.mem_range.2 hi,rfl⟩),λv hv hp=>h1 v hv hp⟩
 have hjoin:∀ z,(Xwp n f m perm vars rs kf pf R ds).Join z↔Qjl n m vars rs z:=λz=>by
  constructor
  ·rintro ⟨h1,h2⟩;exact ⟨h1,λi hi=>h2 (vars i,rs i) (List.mem_map.2 ⟨i,List.mem_range.2 hi,rfl⟩)⟩
  ·rintro ⟨h1,h2⟩;refine ⟨h1,λa ha=>?_⟩;obtain ⟨i,hi,rfl⟩:=List.mem_map.1 ha;exact h2 i (List.mem_range.1 hi)
 have hE:tot≠0->∀ v,v<f->∀ k,entK (BBx tot n f kf pf R ds (plO perm f) v) k=(Xwp n f m perm vars rs kf pf R ds).E v k:=λh0 v hv k=>by
  unfold BBx;rw [if_pos hv,if_neg h0];rfl
 obtain ⟨X,hX⟩:∃ X:BX V,X=⟨V0,n,f,λv=>bk (kf v) 32,pf,plO perm f,(List.range m).map λi=>(vars i,rs i),TV n f kf pf R ds (plO perm f),λv k=>entK (BBx tot n f kf pf R ds (plO perm f) v) k⟩:=⟨_,rfl⟩;have hXok:tot≠0->X.Ok:=λh0=>by
  subst hX;exact ⟨hok.FN,hok.plN,hok.inj,hok.k1,hok.k2,hok.k3,hok.k4,hok.k5,hok.k6,hok.al,hok.t1,λv hv k=>by
   have:=hok.t2 v hv k;rw [<-hE h0 v hv k]at this;exact this⟩
 have hXr:tot≠0↔X.Roots:=by subst hX;exact hroots
 have hXj:∀ z,X.Join z↔Qjl n m vars rs z:=λz=>by subst hX;exact hjoin z
 have hXix:Jhw f kf pf (BBx tot n f kf pf R ds (plO perm f))=X.ix:=by subst hX;rfl
 have hXF:X.F=f:=by subst hX;rfl
 have hXN:X.N=n:=by subst hX;rfl
 have hXd:X.d0=V0:=by subst hX;rfl
 have hsrt:tot≠0->X.ix.Srt ds:=λh0=>by
  have hs:=h.srt (ds:=ds);subst hX;refine ⟨rfl,λv hv k=>?_⟩;have:=hs.srt v hv k;show Xwd _ (entK _ k);rw [hE h0 v hv k];exact this
 have hempty:tot=0->L=[]:=λh0=>by
  refine List.eq_nil_iff_forall_not_mem.2 λy hy=>?_;obtain ⟨z,hz,e⟩:=(hLm y).1 hy;have hz':=(hjoin z).2 hz;have hyl:y.length=f:=by rw [<-e,List.length_take,hz.1];omega
  have:=(hok.answers (y:=y) hyl).2 ⟨z,hz',e⟩;exact absurd h0 (hroots.2 this.2)
 have hans:tot≠0->L=X.ix.ext f []:=λh0=>by
  refine Jbg hL ((hsrt h0).ext f [] (by show 0+f=X.F;omega)) λy=>?_;rw [hLm y];have hxo:=(hXok h0).ixOk;constructor
  ·rintro ⟨z,hz,e⟩;have hyl:y.length=X.F:=by rw [<-e,List.length_take,hz.1];omega
   have:=((hXok h0).answers hyl).2 ⟨z,(hXj z).2 hz,by rw [hXF];exact e⟩;refine (AX.ext_mem f [] y).2 ⟨by rw [hyl,hXF];simp,rfl,λv _ hv=>?_⟩;have hv':v<X.F:=by rw [hXF];simpa using hv
   have h1:=this.1 v hv';have hk:X.ix.key v (y.take v)=X.ix.key v y:=by
    have:=hxo.key_pre (c:=v) (y:=y.take v) (z:=y.drop v) hv' (by rw [List.length_take,Nat.min_eq_left (by omega)];exact (hxo.pl v hv').2);rw [List.take_append_drop]at this;exact this.symm
   show y.getD v X.d0∈(X.E v (X.ix.key v (y.take v))).map (·.1)
   rw [hk];exact h1
  ·intro hy;obtain ⟨h1,_,h3⟩:=(AX.ext_mem f [] y).1 hy;have hyl:y.length=X.F:=by rw [h1,hXF];simp
   have hvs:∀ v,v<X.F->y.getD v X.d0∈(X.E v (prj X.d0 (X.K v) y)).map (·.1):=λv hv=>by
    have h4:=h3 v (Nat.zero_le _) (by simpa [hXF] using hv);have hk:X.ix.key v (y.take v)=X.ix.key v y:=by
     have:=hxo.key_pre (c:=v) (y:=y.take v) (z:=y.drop v) hv (by rw [List.length_take,Nat.min_eq_left (by omega)];exact (hxo.pl v hv).2);rw [List.take_append_drop]at this;exact this.symm
    rw [hk]at h4;exact h4
   obtain ⟨z,hz,e⟩:=((hXok h0).answers hyl).1 ⟨hvs,hXr.1 h0⟩;exact ⟨z,(hXj z).1 hz,by rw [hXF]at e;exact e⟩
 have hgi:∀ v,v<f->GInv (ds.getD v false) (λx=>wtL (TV n f kf pf R ds (plO perm f)) x (chK kf pf v n)) (Go.Proofs.YtefpailelagbkaaGreatDoor.lastC kf v) (R v) (BBo n f kf pf R ds (plO perm f) v):=λv hv=>Qjg h hv;have htr:∀ v k,(trK (BBx tot n f kf pf R ds (plO perm f) v) k).toL=[]∨(v<f/\(trK (BBx tot n f kf pf R ds (plO perm f) v) k).toL=Qzp (ds.getD v false) (Jbs (λx=>wtL (TV n f kf pf R ds (plO perm f)) x (chK kf pf v n)) (Go.Proofs.YtefpailelagbkaaGreatDoor.lastC kf v) (R v) k)):=λv k=>by
  rw [Qzv];unfold BBx;by_cases hv:v<f
  ·rw [if_pos hv];by_cases h0:tot=0
   ·rw [if_pos h0];exact .inl rfl
   ·rw [if_neg h0];exact .inr ⟨hv,(hgi v hv).entK k⟩
  ·rw [if_neg hv];exact .inl rfl
 refine ⟨?_,λh0 v=>?_,λh0=>hXix ▸ (hXok h0).ixOk,λh0=>hXix ▸ hsrt h0,λh0=>hXix ▸ hans h0,λv k=>?_,λv k=>?_,λv b hb p hp=>?_,by omega,λv hv=>(h.bags v (by omega)).1⟩
 ·by_cases h0:tot=0
  ·rw [hempty h0,h0];rfl
  ·have hxo:=(hXok h0).ixOk;rw [hans h0,hxo.ext_len f [] (by show 0+f=X.F;omega)];have e1:tot=Jjz n λv=>if pf v = -1 then TV n f kf pf R ds (plO perm f) v [] else 1:=by
    have hne:=h0;rw [htot]at hne ⊢;unfold Qjq at hne ⊢;split
    ·rename_i hc;rw [if_pos hc]at hne;exact absurd rfl hne
    ·rfl
   rw [e1,Qyb hfn λc h1 h2=>?_]
   ·show Jjz f _=Jjz X.F _;rw [hXF];refine Jxn λc hc=>?_;have hpl:=hxo.pl c (by rw [show X.ix.F=X.F from rfl,hXF];exact hc);have hpar:X.ix.par c=pf c:=by subst hX;rfl
    rw [hpar]at hpl;by_cases hp:pf c = -1
    ·rw [if_pos hp,if_pos ⟨Nat.zero_le _,by rw [hpar];simp;omega⟩];have hks:X.ix.key c []=[]:=by
      have hkk:X.K c=[]:=(hXok h0).kroot (by rw [hXN];omega) (by subst hX;exact hp);show prj X.d0 (X.K c) []=[];rw [hkk];rfl
     have:=((hXok h0).t2 c (by rw [hXF];exact hc) []).1;have hT:X.T c []=TV n f kf pf R ds (plO perm f) c []:=by subst hX;rfl
     rw [hT]at this;rw [this];show _=Pl.tot (X.E c (X.ix.key c []));rw [hks]
    ·rw [if_neg hp,if_neg];rintro ⟨_,h2⟩;rw [hpar]at h2;simp at h2;omega
   ·by_cases hp:pf c = -1
    ·rw [if_pos hp];have h3:=(hroots.1 h0).1 c h2 hp;have h4:=Qpc (n:=n) (R:=R) (ds:=ds) (kf:=kf) h.chf c h1 [];have h5:0<TV n f kf pf R ds (plO perm f) c []:=h3;omega
    ·rw [if_neg hp]
 ·unfold BBx;rw [if_pos h0];split<;>rfl
 ·rw [Tr.sum_eq];rcases htr v k with e|⟨hv,e⟩
  ·rw [e];exact Nat.zero_le _
  ·rw [e,Jhs];have:=h.big (ds:=ds) v k;rw [Qjc h.chf hfn hv,Qzw]at this;have e2:=(hgi v hv).entK k;unfold BBo at e2;rw [e2,Jhs]at this;exact this
 ·rw [Tr.sz_eq];rcases htr v k with e|⟨hv,e⟩
  ·rw [e];exact Nat.zero_le _
  ·rw [e];have h1:(Qzp (ds.getD v false) (Jbs (λx=>wtL (TV n f kf pf R ds (plO perm f)) x (chK kf pf v n)) (Go.Proofs.YtefpailelagbkaaGreatDoor.lastC kf v) (R v) k)).length<=(R v).length:=by
    have:(Jbs (λx=>wtL (TV n f kf pf R ds (plO perm f)) x (chK kf pf v n)) (Go.Proofs.YtefpailelagbkaaGreatDoor.lastC kf v) (R v) k).length<=(R v).length:=by
     unfold Jbs;rw [List.length_map];exact List.length_filter_le _ _
    unfold Qzp;split<;>simpa using this
   exact Nat.le_trans h1 (h.rows v (by omega)).2.2
 ·unfold BBx at hb;by_cases hv:v<f
  ·rw [if_pos hv]at hb;by_cases h0:tot=0
   ·rw [if_pos h0]at hb;cases hb
   ·rw [if_neg h0]at hb;rw [((hgi v hv).con b hb).1,Qbd,entL_mem]at hp;obtain ⟨x,hx,_,h2,_⟩:=hp;rw [<-h2];have hxl:=h.rl hv x hx;have:x.getD (Go.Proofs.YtefpailelagbkaaGreatDoor.lastC kf v) V0∈x:=getD_mem' V0 x (by omega);exact hfit v hv x hx _ this
  ·rw [if_neg hv]at hb;cases hb
theorem IxP.few(h:IxP f ds kf pf BB tot L)(hl:L.length<4294967296): tot≠0->∀ z,(Jhw f kf pf BB).Gp z->z.length<f->0<(Jhw f kf pf BB).pend z.length z->(Jhw f kf pf BB).others z.length z<4294967296:=λh0 z hg hz hp=>by
 have h1:=((h.ok h0).others_le hz hp).2;have h2:=(h.ok h0).pend_le z.length z rfl (Nat.le_of_lt hz) hg;rw [h.pend0 h0,h.len]at h2;omega
end
open Pl Go.Wk
def toN(l:List Int): List Nat:=l.map Int.toNat
theorem Qyl{l:List Int}(h:∀ v∈l,0<=v): nz (toN l)=l:=by
 unfold nz toN;rw [List.map_map];conv=>rhs;rw [<-List.map_id l]
 exact List.map_congr_left λv hv=>by simp only [Function.comp,id];have:=h v hv;omega
theorem Qzx{l:List Int}(h:∀ v∈l,0<=v){u:Nat}: u∈toN l↔(u:Int)∈l:=by
 conv=>rhs;rw [<-Qyl h]
 unfold nz;rw [List.mem_map];exact ⟨λhu=>⟨u,hu,rfl⟩,λ⟨v,hv,e⟩=>by (have:v=u:=by omega);(exact this ▸ hv)⟩
theorem Qwx{l:List Nat}(h:ascB (nz l)): Jcn l:=by
 unfold Jcn;rw [List.pairwise_iff_getElem];intro i j hi hj hij;have step:∀ k,0<k->k<l.length->l.getD (k-1) 0<l.getD k 0:=λk h0 hk=>by
  have:=h k h0 (by rw [Jqc];exact hk);rw [Jst (by omega),Jst hk]at this;omega
 have key:∀ d,i+1+d<l.length->l.getD i 0<l.getD (i+1+d) 0:=by
  intro d;induction d with
  | zero=>intro hd;have:=step (i+1) (by omega) hd;simpa using this
  | succ d ih=>
   intro hd;have h1:=ih (by omega);have h2:=step (i+1+(d+1)) (by omega) hd;have e:i+1+(d+1)-1=i+1+d:=by omega
   rw [e]at h2;omega
 have:=key (j-(i+1)) (by omega);rw [show i+1+(j-(i+1))=j by omega,Jjh 0 _ hi,Jjh 0 _ hj]at this;exact this
structure CseOk(c:Cse)(ats:List Atm): Prop where
 few:FewP c
 len:c.vs.length=c.rss.length
 al:ats.length=c.vs.length
 mka:∀ i,i<c.vs.length->MkA (ats.getD i a0) (c.vs.getD i []) (c.rss.getD i [])
 chk:Xwn ⟨c.n,c.f,c.ds,c.pm,ats⟩
 fit:∀ i,i<c.rss.length->∀ r∈c.rss.getD i [],∀ u∈r,Qwc u
def Cse.N(c:Cse): Nat:=c.n.toNat
def Cse.F(c:Cse): Nat:=c.f.toNat
def Cse.m(c:Cse): Nat:=c.vs.length
def Cse.vars(c:Cse)(i:Nat): List Nat:=toN (c.vs.getD i [])
def Cse.crs(c:Cse)(i:Nat): List Row:=c.rss.getD i []
def rsA(ats:List Atm)(i:Nat): List Row:=(ats.getD i a0).rows
def Cse.ans(c:Cse): List Row:=Xdh c.m c.vars c.crs c.N c.F c.ds
section
variable {c:Cse} {ats:List Atm}
theorem CseOk.nN(h:CseOk c ats): c.n=(c.N:Int)/\c.N<=6:=by
 have h1:=h.chk.1;have h2:=h.chk.2.1;have h3:=h.few.n6;simp only at h1 h2;unfold Cse.N;omega
theorem CseOk.fF(h:CseOk c ats): c.f=(c.F:Int)/\c.F<=c.N:=by
 obtain ⟨h1,_,h3,h4,_⟩:=h.chk;simp only at h1 h3 h4;unfold Cse.F Cse.N;omega
theorem CseOk.at_(h:CseOk c ats){i:Nat}(hi:i<c.m): Xdg c.n (ats.getD i a0):=by
 obtain ⟨_,_,_,_,_,_,_,_,_,_,_,h1,_⟩:=h.chk;exact h1 _ (getD_mem' a0 _ (by rw [h.al];exact hi))
theorem CseOk.vars(h:CseOk c ats){i:Nat}(hi:i<c.m): nz (c.vars i)=c.vs.getD i []/\Jcn (c.vars i)/\(∀ v∈c.vars i,v<c.N)/\(c.vars i).length=(c.vs.getD i []).length:=by
 obtain ⟨h1,h2,h3⟩:=h.at_ hi;have hm:=(h.mka i hi).vars;rw [hm]at h1 h2;have h0:∀ v∈c.vs.getD i [],0<=v:=λv hv=>(h2 v hv).1;refine ⟨Qyl h0,Qwx (by unfold Cse.vars;rw [Qyl h0];exact h1),λv hv=>?_,by simp [Cse.vars,toN]⟩;have:=(h2 v ((Qzx h0).1 hv)).2;have:=h.nN.1;omega
theorem CseOk.cov(h:CseOk c ats){v:Nat}(hv:v<c.N): ∃ i,i<c.m/\v∈c.vars i:=by
 obtain ⟨_,_,_,_,_,_,_,_,_,_,_,_,h1⟩:=h.chk;obtain ⟨a,ha,hva⟩:=h1 v (by have:=h.nN.1;simp only;omega);obtain ⟨i,hi,e⟩:=List.getElem_of_mem ha;have hi':i<c.m:=by have:=h.al;unfold Cse.m;simp only at hi;omega
 have e2:ats.getD i a0=a:=by rw [Jjh a0 _ hi,e]
 have hm:=(h.mka i hi').vars;rw [e2]at hm;refine ⟨i,hi',(Qzx λu hu=>?_).2 (hm ▸ hva)⟩;have:=(h.at_ hi').2.1 u (by rw [e2,hm];exact hu);exact this.1
theorem CseOk.set(h:CseOk c ats){i:Nat}(hi:i<c.m): Jvh [] (c.crs i) (rsA ats i):=(h.mka i hi).set (by have:=h.few.row i (by rw [<-h.len];exact hi);unfold Cse.m at hi;omega)
theorem CseOk.clen(h:CseOk c ats){i:Nat}(hi:i<c.m): ∀ r∈c.crs i,r.length=(c.vars i).length:=λr hr=>by rw [(h.vars hi).2.2.2];exact ((h.mka i hi).ok r hr).1
theorem CseOk.slen(h:CseOk c ats){i:Nat}(hi:i<c.m): ∀ r∈rsA ats i,r.length=(c.vars i).length:=λr hr=>h.clen hi r (((h.set hi).2 r).1 hr)
theorem Jpw{n:Nat}{g g':Nat->Nat}(h:∀ c,c<n->g c<=g' c): Jjz n g<=Jjz n g':=by
 induction n with
 | zero=>exact Nat.le_refl _
 | succ n ih=>rw [Jjz,Jjz];exact Nat.mul_le_mul (ih λc hc=>h c (by omega)) (h n (by omega))
theorem CseOk.cnt(h:CseOk c ats): max 1 (Jjz c.m λi=>(c.crs i).length)<=5000:=by
 have h1:=h.few.cnt;rw [<-h.len]at h1;have h2:Jjz c.m (λi=>(c.crs i).length)<=Jjz c.vs.length λi=>max 1 (c.rss.getD i []).length:=Jpw λi _=>Nat.le_max_right _ _;omega
theorem CseOk.refP(h:CseOk c ats): RefP c.N c.m c.vars c.crs:=by
 have hN:=h.nN.2;refine ⟨by omega,by have:=h.few.v5;unfold Cse.m;omega,λi hi=>(h.vars hi).2.1,λi hi=>(h.vars hi).2.2.1,λi hi=>h.clen hi,λv hv=>h.cov hv,h.cnt,λi hi=>h.few.row i (by rw [<-h.len];exact hi)⟩
theorem Qkf{ds:List Bool}{ls m:List Row}(h:Jvh ds ls m): m.length<=ls.length:=Jsv (Qlp h.1) λx hx=>(h.2 x).1 hx
theorem CseOk.pm(h:CseOk c ats): PermOk c.N c.F (toN c.pm)/\nz (toN c.pm)=c.pm:=by
 obtain ⟨_,_,_,_,_,h1,h2,h3,_⟩:=h.chk;simp only at h1 h2 h3;have hn:=h.nN.1;have hf:=h.fF.1;have h0:∀ v∈c.pm,0<=v:=λv hv=>by have:=(h2 v hv).1;omega
 refine ⟨⟨h.fF.2,by simp [toN];omega,λv hv=>?_,?_⟩,Qyl h0⟩
 ·have:=h2 v ((Qzx h0).1 hv);omega
 ·unfold toN List.Nodup;rw [List.pairwise_map];exact List.Pairwise.imp_of_mem (fun {a b} ha hb hab e=>hab (by have:=h0 a ha;have:=h0 b hb;omega)) h3
theorem CseOk.bldI(h:CseOk c ats){ts:List TA}(hts:ats=ts.map (·.2)): BldI c.N c.F c.ds (toN c.pm) ts c.vars (rsA ats):=by
 have hN:=h.nN.2;have htl:ts.length=c.m:=by have:=h.al;rw [hts,List.length_map]at this;exact this
 have hrun:RunOk c.N ts c.vars (rsA ats):=by
  refine ⟨by omega,by have:=h.few.v5;unfold Cse.m at htl;omega,λi hi=>?_,λi hi=>(h.vars (htl ▸ hi)).2.1,λi hi=>(h.vars (htl ▸ hi)).2.2.1,λv hv=>by rw [htl];exact h.cov hv,λi hi=>(h.set (htl ▸ hi)).1,λi hi=>h.slen (htl ▸ hi),λi hi=>(h.mka i (show i<c.m from htl ▸ hi)).len⟩;have hi':i<c.m:=htl ▸ hi;have e:(ts.getD i ta0).2=ats.getD i a0:=by rw [hts];simp [List.getD,hi]
  have hm:=h.mka i hi';obtain ⟨v1,_,_,v4⟩:=h.vars hi';rw [e];have e2:ats.getD i a0=⟨(ats.getD i a0).vars,(ats.getD i a0).ar,(ats.getD i a0).rows⟩:=rfl;rw [e2,hm.vars,hm.ar,v1,v4];rfl
 refine ⟨hrun,h.pm.1,?_,λi hi r hr u hu=>?_,λkf pf hb v hv=>⟨λl hl hx=>?_,λi hi=>.inl ?_⟩⟩
 ·obtain ⟨_,_,_,_,h1,_⟩:=h.chk;simp only at h1;unfold Cse.F;omega
 ·have hi':i<c.m:=htl ▸ hi;have hrc:=((h.set hi').2 r).1 hr;have h1:=((h.mka i hi').ok r hrc).2;exact ⟨List.all_eq_true.1 h1 u hu,h.fit i (by rw [<-h.len];exact hi') r hrc u hu⟩
 ·have hs:kf v ||| 2^v<2^c.N:=by
   refine Nat.lt_pow_two_of_testBit _ λi hi=>?_;cases hbt:(kf v ||| 2^v).testBit i with
   | false=>rfl
   | true=>
    rw [Nat.testBit_or,Nat.testBit_two_pow,Bool.or_eq_true,decide_eq_true_eq]at hbt;rcases hbt with hbt|hbt
    ·rw [(hb v hv).2.1]at hbt;have hlt:∀ e∈Jrm ts.length c.vars,e<2^c.N:=λe he=>by
      obtain ⟨i,hi,rfl⟩:=List.mem_map.1 he;exact Jvr (hrun.lt i (List.mem_range.1 hi))
     have:=Qyv (nb:=nb0 c.N (Jrm ts.length c.vars)) (ord:=Jzt (toN c.pm) c.F) (N:=c.N) (λa b hab=>(Jpz hlt hab).2.1) hbt;omega
    ·omega
  have h1:=Qns (m:=ts.length) (vars:=c.vars) (rs:=rsA ats) (l:=l) (λi hi=>hrun.asc i hi) (λv hv=>hrun.cov v hv) hs hl hx;have h2:Jjz ts.length (λi=>(rsA ats i).length)<=Jjz ts.length λi=>(c.crs i).length:=Jpw λi hi=>Qkf (h.set (htl ▸ hi));have h3:=h.cnt;rw [htl]at h2;rw [htl]at h1;omega
 ·have:=Qkf (h.set (htl ▸ hi));have h2:=h.few.row i (by rw [<-h.len];exact (show i<c.m from htl ▸ hi));unfold Cse.crs at this;omega
theorem CseOk.ansJ(h:CseOk c ats)(z:Row): Qjl c.N c.m c.vars (rsA ats) z↔Qjl c.N c.m c.vars c.crs z:=by
 unfold Qjl;refine and_congr_right λ_=>forall_congr' λi=>forall_congr' λhi=>?_;exact (h.set hi).2 _
theorem CseOk.ans(h:CseOk c ats): Lt c.ds c.ans/\∀ y,y∈c.ans↔∃ z,Qjl c.N c.m c.vars (rsA ats) z/\z.take c.F=y:=by
 have hs:=Qbw c.m c.vars c.crs c.N c.F c.ds;have hP:=h.refP;refine ⟨hs.1,λy=>?_⟩;rw [show c.ans=Xdh c.m c.vars c.crs c.N c.F c.ds from rfl,hs.2 y,List.mem_map];constructor
 ·rintro ⟨z,hz,e⟩;exact ⟨z,(h.ansJ z).2 ((Jms hP.asc hP.len hP.lt hP.cov z).1 hz),e⟩
 ·rintro ⟨z,hz,e⟩;exact ⟨z,(Jms hP.asc hP.len hP.lt hP.cov z).2 ((h.ansJ z).1 hz),e⟩
theorem CseOk.anl(h:CseOk c ats): c.ans.length<=5000:=by
 have hP:=h.refP;have h1:=Qkf (Qbw c.m c.vars c.crs c.N c.F c.ds);have h2:=Qqx hP.asc hP.len hP.cov;rw [List.length_map]at h1;exact Nat.le_trans h1 (Nat.le_trans h2 hP.cnt)
theorem CseOk.arow(h:CseOk c ats){y:Row}(hy:y∈c.ans): y.length=c.F:=by
 obtain ⟨z,hz,e⟩:=(h.ans.2 y).1 hy;rw [<-e,List.length_take,hz.1];have:=h.fF.2;omega
end
open Go.RowKit Pl Go.Wk
attribute [local irreducible] WC WL QX WD WDB WP WN WG WH WM
theorem IxV.congr{w:World}{x:Value}{f:Nat}{ds:List Bool}{kf:Nat->Nat}{pf:Nat->Int}{BB BB':Nat->List BkT}{tot:Nat}(h:IxV w x f ds kf pf BB tot)(he:∀ v,v<f->BB v=BB' v): IxV w x f ds kf pf BB' tot:=by
 obtain ⟨DA,dc,BA,cb,KA,ck,PA,cp,tv,kvs,pvs,h1,h2,h3,h4,h5,h6,h7,h8,h9⟩:=h.ex;exact ⟨⟨DA,dc,BA,cb,KA,ck,PA,cp,tv,kvs,pvs,h1,h2,h3,h4,h5,h6,h7,h8,λv hv=>he v hv ▸ h9 v hv⟩,h.dl,h.f32⟩
theorem Qsx{w w':World}{b t:Nat}{cs:List Value}(h:Blk w b t cs)(h':Blk w' b t cs)(hg:GrN (λk=>k=b) w w'): Ext w w':=⟨hg.os,hg.tape,hg.output,hg.size,λk hk=>if e:k=b then by subst e;exact h'.trans h.symm else hg.block k hk e⟩
theorem Qnp(w:World): (Instr.build 34 #[]).run Tryz.prog w=.ok (.agg #[.slice none 0 0,.slice none 0 0,.slice none 0 0,.slice none 0 0,.slice none 0 0]) w:=by kernel_rfl
theorem ElR.fits{n f:Nat}{ds:List Bool}{perm:List Nat}{ts:List TA}{vars:Nat->List Nat}{rs:Nat->List Row}{es:List Nat}{kf:Nat->Nat}{pf:Nat->Int}{R:Nat->List Row}(h:ElR n f ts.length es perm vars rs kf pf R)(hI:BldI n f ds perm ts vars rs):
  ∀ v,v<f->∀ x∈R v,∀ u∈x,Qwc u/\u.bytes.length<=24:=λv hv x hx u hu=>by
 have hv':v<n:=Nat.lt_of_lt_of_le hv h.pm.fn;obtain ⟨z,_,e,hb⟩:=((h.rows v hv').2.1 x).1 hx;subst e;exact (hI.fit (h.sb hv') hb).1.2 u hu
theorem ElR.htb{n f m:Nat}{es perm:List Nat}{vars:Nat->List Nat}{rs:Nat->List Row}{kf:Nat->Nat}{pf:Nat->Int}{R:Nat->List Row}{ds:List Bool}{tot:Nat}(h:ElR n f m es perm vars rs kf pf R){v:Nat}{b:BkT}(hb:b∈BBx tot n f kf pf R ds (plO perm f) v): b.2.ht<=65536:=by
 unfold BBx at hb;by_cases hv:v<f
 ·rw [if_pos hv]at hb;by_cases h0:tot=0
  ·rw [if_pos h0]at hb;cases hb
  ·rw [if_neg h0]at hb;have e:=((Qjg (ds:=ds) h hv).con b hb).1;have h1:b.2.toL.length<=(R v).length:=by
    rw [e];have:(Jbs (λx=>wtL (TV n f kf pf R ds (plO perm f)) x (chK kf pf v n)) (Go.Proofs.YtefpailelagbkaaGreatDoor.lastC kf v) (R v) b.1).length<=(R v).length:=by
     unfold Jbs;rw [List.length_map];exact List.length_filter_le _ _
    unfold Qzp;split<;>simpa using this
   have h2:=Tr.ht_le b.2;rw [Tr.sz_eq]at h2;have h3:=(h.rows v (Nat.lt_of_lt_of_le hv h.pm.fn)).2.2;omega
 ·rw [if_neg hv]at hb;cases hb
theorem Xbj{w:World}{x:Value}{n f:Nat}{ds:List Bool}{perm:List Nat}{ts:List TA}{vars:Nat->List Nat}{rs:Nat->List Row}{es:List Nat}{kf:Nat->Nat}{pf:Nat->Int}{R:Nat->List Row}{L:List Row}(hTB:∃ B0,TB B0 w)(hI:BldI n f ds perm ts vars rs)(hats:∀ i,i<ts.length->((ts.map (·.2)).getD i a0).rows=rs i)(hE:ElR n f ts.length es perm vars rs kf pf R)(hV:IxV w x f ds kf pf (λu=>if Qjq n pf (TV n f kf pf R ds (plO perm f)) (ts.map (·.2))=0 then [] else BBo n f kf pf R ds (plO perm f) u) (Qjq n pf (TV n f kf pf R ds (plO perm f)) (ts.map (·.2))))(hL:Lt ds L)(hLm:∀ y,y∈L↔∃ z,Qjl n ts.length vars rs z/\z.take f=y)(hl:L.length<4294967296):
  IxA w x f ds kf pf (BBx (Qjq n pf (TV n f kf pf R ds (plO perm f)) (ts.map (·.2))) n f kf pf R ds (plO perm f)) (Qjq n pf (TV n f kf pf R ds (plO perm f)) (ts.map (·.2))) L:=by
 have hip:=hE.ixP (ds:=ds) (tot:=Qjq n pf (TV n f kf pf R ds (plO perm f)) (ts.map (·.2))) (hE.fits hI) (ats:=ts.map (·.2)) (by rw [List.length_map]) hats rfl hL hLm
 exact ⟨hTB,hV.congr λv hv=>by unfold BBx;rw [if_pos hv],hip,hip.few hl,λv b hb=>hE.htb hb⟩
def Xwh(c:Cse): Prop:=FewS c/\MkS c/\∀ ats:List Atm,ats.length=c.vs.length->(∀ i,i<c.vs.length->MkA (ats.getD i a0) (c.vs.getD i []) (c.rss.getD i []))->Xwn ⟨c.n,c.f,c.ds,c.pm,ats⟩
theorem Xyg{ts:List TA}{ats:List Atm}(h:ats=ts.map (·.2)): ∀ i,i<ts.length->((ts.map (·.2)).getD i a0).rows=rsA ats i:=λi hi=>by rw [rsA,h]
theorem CseV.rin{w:World}{c:Cse}{ats:List Atm}{vA rA:Option Addr}{vc rc:Nat}(hV:IntssV w (.slice vA c.vs.length vc) c.vs)(hR:RowssV w (.slice rA c.rss.length rc) c.rss)(h:CseOk c ats): RInM w vA rA c.m c.vars c.crs:=by
 obtain ⟨_,_,vcs,e1,_,_,hVR,hVe⟩:=hV;injection e1 with e1 e2 e3
 subst e1;subst e3;obtain ⟨_,_,rcs,e1,_,_,hRR,hRe⟩:=hR;injection e1 with e1 e2 e3
 subst e1;subst e3;refine ⟨⟨vcs,hVR,λi hi=>?_⟩,⟨rcs,?_,λi hi=>hRe i (by rw [<-h.len];exact hi)⟩⟩
 ·rw [(h.vars hi).1];exact hVe i hi
 ·have:=h.len;unfold Cse.m;rw [this];exact hRR
theorem Xkh{w:World}{c:Cse}{ats:List Atm}{dA pA aA:Option Addr}{dc pc ac an:Nat}(h:CseOk c ats)(hD:BoolsV w (.slice dA c.ds.length dc) c.ds)(hP:IntsV w (.slice pA c.pm.length pc) c.pm)(hG:GV 3 AtG w (.slice aA an ac) ats):
  ∃ ts:List TA,ats=ts.map (·.2)/\BldV w (.agg #[.int .i64 c.n,.int .i64 c.f,.slice dA c.ds.length dc,.slice pA c.pm.length pc,.slice aA an ac]) c.N c.F c.ds (toN c.pm) ts:=by
 obtain ⟨ts,A,cc,ets,eA,hcc,htm,htR,hte⟩:=Jnz hG;injection eA with e1 e2 e3
 subst e1;subst e2;subst e3;obtain ⟨D,d',e1,h1,h2,h3⟩:=hD;injection e1 with e1 e2 e3
 subst e1;subst e3;obtain ⟨Q,q',e1,h4,h5,h6⟩:=hP;injection e1 with e1 e2 e3
 subst e1;subst e3;have hdl:=(h.bldI ets).dl;have hpl:(toN c.pm).length=c.pm.length:=by simp [toN]
 refine ⟨ts,ets,dA,dc,pA,pc,aA,ac,?_,by rw [<-hdl];exact h1,h3,?_,by rw [hpl];exact h4,htR,hcc,hte⟩
 ·rw [h.nN.1.symm,h.fF.1.symm,hpl,<-hdl]
 ·rw [h.pm.2,hpl];exact h6
theorem Qng{B0:Nat}{w:World}{cs:List Value}{c:Cse}(hTB:TB B0 w)(h:CseV w cs c)(hfit:∀ i,i<c.rss.length->∀ r∈c.rss.getD i [],∀ u∈r,Qwc u):
  Ret Tryz.prog 15 [.agg cs.toArray] w λu w'=>Ext w w'/\((u=.tuple #[.agg #[.slice none 0 0,.slice none 0 0,.slice none 0 0,.slice none 0 0,.slice none 0 0],.slice none 0 0,.bool true,.bool true]/\¬ Xwh c) ∨
   ∃ (ats:List Atm) (x av:Value) (kf:Nat->Nat) (pf:Nat->Int) (BB:Nat->List BkT) (tot:Nat),CseOk c ats/\u=.tuple #[x,av,.bool false,.bool true]/\IxA w' x c.F c.ds kf pf BB tot c.ans/\RowsV w' av c.ans):=by
 obtain ⟨dA,dc,pA,pc,vA,vc,rA,rc,rfl,hD,hP,hV,hR,hn,hf⟩:=id h;refine Jjb Tryz.func15 Tryz.ntmps15 rfl (by kernel_rfl) rfl ?_;refine ρ ?_;refine bx (cs:=[.int .i64 c.n,.int .i64 c.f,.slice dA c.ds.length dc,.slice pA c.pm.length pc,.slice vA c.vs.length vc,.slice rA c.rss.length rc]) ?_;intro w1 b hx1 hb hB;refine ρ ?_;refine alc (cs:=[.slice none 0 0,.slice none 0 0,.slice none 0 0,.slice none 0 0,.slice none 0 0]) Qjm ?_;intro w2 b2 hx2 hb2 hB2;have hB':=hB.ext hx2;refine ρ ?_;refine lds (cs:=[.int .i64 c.n,.int .i64 c.f,.slice dA c.ds.length dc,.slice pA c.pm.length pc,.slice vA c.vs.length vc,.slice rA c.rss.length rc]) (λj u hu=>hB'.at hu) ?_;refine ρ ?_;refine cl (Qgg (h.ext (hx1.trans hx2))) ?_;rintro u w3 ⟨hx3,dA',pA',aA,dc',pc',ac,an,ok,rfl,hD',hP',hok,hsuf⟩;refine ρ ?_;refine alc (cs:=[.int .i64 0,.int .i64 0,.slice none 0 0,.slice none 0 0,.slice none 0 0]) Xwt ?_;intro w4 b4 hx4 hb4 hB4
 refine ρ ?_;refine stb (cs':=[.int .i64 c.n,.int .i64 c.f,.slice dA' c.ds.length dc',.slice pA' c.pm.length pc',.slice aA an ac]) hB4 ?_ Jgs;intro w5 hB5 hg5 hx5;have hx35:Ext w3 w5:=hx5 w3 hx4 hb4;have hB25:=(hB2.ext hx3).ext hx35;have hB15:=(hB'.ext hx3).ext hx35;have hxw5:=((hx1.trans hx2).trans hx3).trans hx35;refine ρ ?_;refine lds (cs:=[.int .i64 c.n,.int .i64 c.f,.slice dA c.ds.length dc,.slice pA c.pm.length pc,.slice vA c.vs.length vc,.slice rA c.rss.length rc]) (λj u hu=>hB15.at hu) ?_;refine ρ ?_;refine cl (Xkb (h.ext hxw5)) ?_;rintro u w6 ⟨hx6,fw,rfl,hfew,hfs⟩;have hx36:=hx35.trans hx6;have hxw6:=hxw5.trans hx6;have hB26:=hB25.ext hx6;refine ρ ?_;refine Jzm (fun (t:Bool)=>[(21,.bool t),(1,.pointer (some ⟨b,0,none⟩)),(2,.pointer (some ⟨b2,0,none⟩)),(3,.slice none 0 0),(4,.bool false),(5,.bool false),(6,.pointer (some ⟨b4,0,none⟩)),(7,.bool ok)]) (λt w7=>w7=w6/\t = !(fw && ok)) ?_ ?_
 ·cases fw with
  | false=>
   refine ρ ?_;exact Jjn true sB ⟨rfl,rfl⟩
  | true=>
   refine ρ ?_;exact Jjn (!ok) sB ⟨rfl,by simp⟩
 rintro t w7 ⟨rfl,ht⟩;refine ρ ?_;refine ci (λh=>?_) (λh=>?_)
 ·subst h;refine ρ ?_;refine bld (Qnp _) ?_;refine ρ ?_;refine stb (cs':=[.slice none 0 0,.slice none 0 0,.slice none 0 0,.slice none 0 0,.slice none 0 0]) hB26 ?_ Jgt;intro w8 hB8 hg8 hx8;have hxf:Ext w w8:=hx8 w hxw6 (Nat.le_trans hx1.size hb2);refine ρ ?_;refine Xzz hB8 ⟨hxf,.inl ⟨rfl,λhG=>?_⟩⟩;have h1:=hfs hG.1;have h2:=hsuf hG.2.1 hG.2.2;rw [h1,h2]at ht;cases ht
 ·subst h;obtain ⟨efw,eok⟩:fw=true/\ok=true:=by
   cases fw<;>cases ok<;>simp at ht ⊢
  subst efw;subst eok;obtain ⟨hlen,ats,hal,hG,hmk,hchk⟩:=hok rfl;have hC:CseOk c ats:=⟨hfew rfl,hlen,hal,hmk,hchk trivial,hfit⟩;have hB46:=hB5.ext hx6;refine ρ ?_;refine lds (cs:=[.int .i64 c.n,.int .i64 c.f,.slice dA' c.ds.length dc',.slice pA' c.pm.length pc',.slice aA an ac]) (λj u hu=>hB46.at hu) ?_;obtain ⟨ts,hts,hBV⟩:=Xkh hC (hD'.ext hx36) (hP'.ext hx36) (hG.ext hx36 λcs a ⟨t,e,h⟩=>⟨t,e,h.ext hx36⟩);have htl:ts.length=c.m:=by have:=hC.al;rw [hts,List.length_map]at this;exact this
  refine ρ ?_;refine cl (Qkw (hTB.ext hxw6) (hC.bldI hts) hBV) ?_;rintro u w8 ⟨hx8,x,st,kf,pf,R,rfl,hE,hoff⟩;obtain ⟨XA,xd,YA,yd,ZA,zd,UA,ud,tv,kvs,pvs,rfl,_,_,_,_,_,_,htv,_⟩:=id hoff.here.ex;obtain ⟨TA,tc,rfl,_⟩:=id htv;have hB28:=hB26.ext hx8;refine ρ ?_;refine stb (cs':=[.slice XA c.F xd,.slice YA c.F yd,.slice ZA c.F zd,.slice UA c.F ud,.slice TA _ tc]) hB28 ?_ Jgt;intro w9 hB9 hg9 hx9;have hxw9:Ext w w9:=hx9 w (hxw6.trans hx8) (Nat.le_trans hx1.size hb2);have hgr9:GrN (λk=>k=b2) w8 w9:=GrN.by hg9 λk hk=>by injection hk with hk;exact hk.symm
  have hbl:=hB26.lt;have hoff9:=hoff.gr (hgr9.mono λk _ hk=>by rw [hk];exact hbl);have n12:¬ b=b2:=λe=>by have:=hB.lt;omega
  have hB19:=Jqb ((hB15.ext hx6).ext hx8) hgr9 n12;have hxd:Ext w9 w9.drew:=(Ext.refl w9).drew;have hxe:=hxw9.trans hxd;have hBd:=hB9.ext hxd;have hB1d:=hB19.ext hxd;have hR':=CseV.rin (hV.ext hxe) (hR.ext hxe) hC;have hvl:c.vs.length=c.m:=rfl;have hrl:c.rss.length=c.m:=by rw [<-hC.len];rfl
  refine ρ ?_;refine drN (λ_=>False) 13 [(0,0),(0,1),(0,3),(0,4),(0,6),(0,7),(1,2),(1,5),(1,8),(0,9),(0,10),(0,11)] (by kernel_rfl) ?_;refine ρn ?_;refine Jfd (cs:=[.slice XA c.F xd,.slice YA c.F yd,.slice ZA c.F zd,.slice UA c.F ud,.slice TA _ tc]) (λw' hg j u hu=>(hBd.ext hg.toExt).at hu) ?_;refine ρn ?_;refine Jfd (cs:=[.int .i64 c.n,.int .i64 c.f,.slice dA c.ds.length dc,.slice pA c.pm.length pc,.slice vA c.vs.length vc,.slice rA c.rss.length rc]) (λw' hg j u hu=>(hB1d.ext hg.toExt).at hu) ?_;refine ρn ?_;refine nld (Jjg (hB1d.at (i:=2) rfl) (λe=>e)) ?_;refine ρn ?_;refine nop ?_;refine cl Xxr ?_;rintro u w10 ⟨rfl,hx10⟩;refine ρ ?_;refine Jqm (GrN.ext hx10) ?_;refine ρn ?_;refine nop ?_;have hA:Ret Tryz.prog 55 [.agg #[.int .i64 c.n,.int .i64 c.f,.slice pA c.pm.length pc,.slice vA c.vs.length vc,.slice rA c.rss.length rc],.slice dA c.ds.length dc] w10 λu w'=>RowsV w' u c.ans/\Ext w10 w':=by
   rw [hC.nN.1,hC.fF.1,hrl];exact Qqg (pA:=pA) (pn:=c.pm.length) (pc:=pc) (vc:=vc) (rc:=rc) hC.refP (hR'.ext hx10) (by have:=hC.nN.2;omega) hC.fF.2 (hD.ext (hxe.trans hx10))
  refine cl hA ?_;rintro av w11 ⟨hav,hx11⟩;refine ρ ?_;refine Jqm (GrN.ext hx11) ?_;refine ρn ?_;refine nop ?_;refine stb (cs':=[.slice XA c.F xd,.slice YA c.F yd,.slice ZA c.F zd,.slice UA c.F ud,.slice TA _ tc]) ((hBd.ext hx10).ext hx11) ?_ Jgt;intro w12 hB12 hg12 hx12;have hgr12:GrN (λk=>k=b2) w11 w12:=GrN.by hg12 λk hk=>by injection hk with hk;exact hk.symm
  have hy12:Ext w11 w12:=Qsx ((hBd.ext hx10).ext hx11) hB12 hgr12;have hxw12:Ext w w12:=((hxe.trans hx10).trans hx11).trans hy12;refine Jxz (Jqm (GrN.ext hy12) ?_);refine ρn ?_;refine ρ ?_;have hoff12:=(hoff9.here.ext (((hxd.trans hx10).trans hx11).trans hy12));refine Xzz hB12 ⟨hxw12,.inr ⟨ats,_,av,kf,pf,_,_,hC,rfl,Xbj ⟨B0,hTB.ext hxw12⟩ (hC.bldI hts) (Xyg hts) hE hoff12 hC.ans.1 (λy=>by rw [htl];exact hC.ans.2 y) (by have:=hC.anl;omega),hav.ext hy12⟩⟩
end Go.Proofs.YtefpailelagbkaaGreatDoor
namespace Go.Proofs.YtefpailelagbkaaGreatDoor
open Pl Go.Wk
def nV(n:Int): V:=⟨1,n,⟨#[]⟩⟩
def nR(a b:Int): Row:=[nV a,nV b]
theorem Xbc{n:Int}(h:-9223372036854775808<=n/\n<=9223372036854775807): Qwc (nV n):=⟨by show _<=(1:Int)/\(1:Int)<=_;omega,h⟩
def Jxr(ds:List Bool)(r1 r2 r3:Row): Cse:=⟨2,2,ds,[],[[0,1]],[[r1,r2,r3]]⟩
theorem goodE{ds:List Bool}{r1 r2 r3:Row}(hd:ds.length=2)(h1:r1.length=2/\r1.all Jxd=true)(h2:r2.length=2/\r2.all Jxd=true)(h3:r3.length=2/\r3.all Jxd=true): Xwh (Jxr ds r1 r2 r3):=by
 refine ⟨⟨λi hi=>?_,by simp [Jxr,Jjz],by simp [Jxr],by simp [Jxr],by simp [Jxr],λi hi=>?_,by show ds.length<=10;omega,by simp [Jxr]⟩,⟨rfl,λi hi=>?_,λi hi r hr=>?_,λi hi=>?_⟩,λats hal hmk=>?_⟩
 ·have:i=0:=by simp [Jxr]at hi;exact hi
  subst this;simp [Jxr]
 ·have:i=0:=by simp [Jxr]at hi;exact hi
  subst this;simp [Jxr]
 ·have:i=0:=by simp [Jxr]at hi;exact hi
  subst this;simp [Jxr]
 ·have:i=0:=by simp [Jxr]at hi;exact hi
  subst this;simp only [Jxr,List.getD_cons_zero,List.mem_cons,List.not_mem_nil,or_false]at hr;rcases hr with rfl|rfl|rfl
  ·exact h1
  ·exact h2
  ·exact h3
 ·have:i=0:=by simp [Jxr]at hi;exact hi
  subst this;simp [Jxr]
 ·have hal1:ats.length=1:=hal;obtain ⟨a,rfl⟩:∃ a,ats=[a]:=List.length_eq_one_iff.1 hal1;have hm:=hmk 0 (by simp [Jxr]);have hv:a.vars=[0,1]:=hm.vars;have ha:a.ar=2:=hm.ar;refine ⟨by simp [Jxr],by simp [Jxr],by simp [Jxr],by simp [Jxr],by show (ds.length:Int)=2;omega,by simp [Jxr],λv hv=>(by cases hv),by simp [Jxr],by simp [Jxr],by simp [Jxr],by simp,λb hb=>?_,λv hv'=>⟨a,by simp,?_⟩⟩
  ·rw [List.mem_singleton]at hb;subst hb;refine ⟨?_,?_,by rw [hv,ha];rfl⟩
   ·rw [hv];intro j h0 hj;have:j=1:=by simp at hj;omega
    subst this;decide
   ·rw [hv];intro v h;simp only [List.mem_cons,List.not_mem_nil,or_false]at h;rcases h with rfl|rfl<;>simp [Jxr]
  ·rw [hv];have hv2:(v:Int)<2:=hv';simp only [List.mem_cons,List.not_mem_nil,or_false];omega
def exA(d:Bool): Cse:=Jxr [d,false] (nR 1 2) (nR 1 3) (nR 2 3)
theorem Qsh(d:Bool): Xwh (exA d):=goodE rfl ⟨rfl,rfl⟩ ⟨rfl,rfl⟩ ⟨rfl,rfl⟩
theorem exA_ans: (exA false).ans=[nR 1 2,nR 1 3,nR 2 3]/\(exA true).ans=[nR 2 3,nR 1 2,nR 1 3]:=by decide
theorem exA_ans'(d:Bool): (exA d).ans.length=3/\(exA d).ans[1]?=some (if d then nR 1 2 else nR 1 3)/\(wiL (exA d).ans [nV 1])[1]?=some (nR 1 3)/\(wiL (exA d).ans [nV 2])[1]?=none:=by
 cases d with
 | false=>rw [exA_ans.1];decide
 | true=>rw [exA_ans.2];decide
theorem Xkc(d:Bool): ∀ i,i<(exA d).rss.length->∀ r∈(exA d).rss.getD i [],∀ u∈r,Qwc u:=λi hi r hr u hu=>by
 have:i=0:=by simp [exA,Jxr]at hi;exact hi
 subst this;simp only [exA,Jxr,List.getD_cons_zero,List.mem_cons,List.not_mem_nil,or_false]at hr;rcases hr with rfl|rfl|rfl <;>
 ·simp only [nR,List.mem_cons,List.not_mem_nil,or_false]at hu;rcases hu with rfl|rfl<;>exact Xbc (by decide)
end Go.Proofs.YtefpailelagbkaaGreatDoor
