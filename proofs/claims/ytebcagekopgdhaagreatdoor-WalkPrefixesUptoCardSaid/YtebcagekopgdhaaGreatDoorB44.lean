/- Part 44. -/
import Derived.Test.YtebcagekopgdhaaGreatDoorB43
set_option linter.unusedVariables false
set_option maxRecDepth 100000
set_option maxHeartbeats 40000000
namespace Go.Proofs.YtebcagekopgdhaaGreatDoor
open Pl Go.Wk
def toN(l:List Int): List Nat:=l.map Int.toNat
theorem Jwt{l:List Int}(h:∀ v∈l,0<=v): nz (toN l)=l:=by
 unfold nz toN;rw [List.map_map];conv=>rhs;rw [<-List.map_id l]
 exact List.map_congr_left λv o=>by simp only [Function.comp,id];have:=h v o;omega
theorem Jbc{l:List Int}(h:∀ v∈l,0<=v){u:Nat}: u∈toN l↔(u:Int)∈l:=by
 conv=>rhs;rw [<-Jwt h]
 unfold nz;rw [List.mem_map];exact ⟨λC=>⟨u,C,rfl⟩,λ⟨v,o,e⟩=>by (have:v=u:=by omega);(exact this ▸ o)⟩
theorem Qpr{l:List Nat}(h:ascB (nz l)): Qo l:=by
 unfold Qo;rw [List.pairwise_iff_getElem];intro i j hi C G;have step:∀ k,0<k->k<l.length->l.getD (k-1) 0<l.getD k 0:=λk h0 u=>by
  have:=h k h0 (by rw [Qq];exact u);rw [Jwv om,Jwv u]at this;omega
 have key:∀ d,i+1+d<l.length->l.getD i 0<l.getD (i+1+d) 0:=by
  intro d;induction d with
  | zero=>intro o;have:=step (i+1) om o;simpa using this
  | succ d ih=>
   intro o;have O:=ih om;have J:=step (i+1+(d+1)) om o;have e:i+1+(d+1)-1=i+1+d:=om
   rw [e]at J;omega
 have:=key (j-(i+1)) om;rw [show i+1+(j-(i+1))=j by omega,Jp 0 _ hi,Jp 0 _ C]at this;exact this
structure CseOk(c:Cse)(ats:List Atm): Prop where
 few:FewP c
 len:c.vs.length=c.rss.length
 al:ats.length=c.vs.length
 mka:∀ i,i<c.vs.length->MkA (ats.getD i a0) (c.vs.getD i []) (c.rss.getD i [])
 chk:Jxf ⟨c.n,c.f,c.ds,c.pm,ats⟩
 fit:∀ i,i<c.rss.length->∀ r∈c.rss.getD i [],∀ u∈r,Va u
def Cse.N(c:Cse): Nat:=c.n.toNat
def Cse.F(c:Cse): Nat:=c.f.toNat
def Cse.m(c:Cse): Nat:=c.vs.length
def Cse.vars(c:Cse)(i:Nat): List Nat:=toN (c.vs.getD i [])
def Cse.crs(c:Cse)(i:Nat): List Row:=c.rss.getD i []
def rsA(ats:List Atm)(i:Nat): List Row:=(ats.getD i a0).rows
def Cse.ans(c:Cse): List Row:=ansF c.m c.vars c.crs c.N c.F c.ds
section
variable {c:Cse} {ats:List Atm}
theorem CseOk.nN(h:CseOk c ats): c.n=(c.N:Int)/\c.N<=6:=by
 have u:=h.chk.1;have o:=h.chk.2.1;have C:=h.few.n6;simp only at u o;unfold Cse.N;omega
theorem CseOk.fF(h:CseOk c ats): c.f=(c.F:Int)/\c.F<=c.N:=by
 obtain ⟨C,_,u,o,_⟩:=h.chk;simp only at C u o;unfold Cse.F Cse.N;omega
theorem CseOk.at_(h:CseOk c ats){i:Nat}(hi:i<c.m): Jkh c.n (ats.getD i a0):=by
 obtain ⟨_,_,_,_,_,_,_,_,_,_,_,o,_⟩:=h.chk;exact o _ (getD_mem' a0 _ (by rw [h.al];exact hi))
theorem CseOk.vars(h:CseOk c ats){i:Nat}(hi:i<c.m): nz (c.vars i)=c.vs.getD i []/\Qo (c.vars i)/\(∀ v∈c.vars i,v<c.N)/\(c.vars i).length=(c.vs.getD i []).length:=by
 obtain ⟨C,u,J⟩:=h.at_ hi;have G:=(h.mka i hi).vars;rw [G]at C u;have h0:∀ v∈c.vs.getD i [],0<=v:=λv o=>(u v o).1;refine ⟨Jwt h0,Qpr (by unfold Cse.vars;rw [Jwt h0];exact C),λv o=>?_,by simp [Cse.vars,toN]⟩;have:=(u v ((Jbc h0).1 o)).2;have:=h.nN.1;omega
theorem CseOk.cov(h:CseOk c ats){v:Nat}(hv:v<c.N): ∃ i,i<c.m/\v∈c.vars i:=by
 obtain ⟨_,_,_,_,_,_,_,_,_,_,_,_,Z⟩:=h.chk;obtain ⟨a,U,C⟩:=Z v (by have:=h.nN.1;simp only;omega);obtain ⟨i,hi,e⟩:=List.getElem_of_mem U;have o:i<c.m:=by have:=h.al;unfold Cse.m;simp only at hi;omega
 have J:ats.getD i a0=a:=by rw [Jp a0 _ hi,e]
 have G:=(h.mka i o).vars;rw [J]at G;refine ⟨i,o,(Jbc λu O=>?_).2 (G ▸ C)⟩;have:=(h.at_ o).2.1 u (by rw [J,G];exact O);exact this.1
theorem CseOk.set(h:CseOk c ats){i:Nat}(hi:i<c.m): IsSet [] (c.crs i) (rsA ats i):=(h.mka i hi).set (by have:=h.few.row i (by rw [<-h.len];exact hi);unfold Cse.m at hi;omega)
theorem CseOk.clen(h:CseOk c ats){i:Nat}(hi:i<c.m): ∀ r∈c.crs i,r.length=(c.vars i).length:=λr o=>by rw [(h.vars hi).2.2.2];exact ((h.mka i hi).ok r o).1
theorem CseOk.slen(h:CseOk c ats){i:Nat}(hi:i<c.m): ∀ r∈rsA ats i,r.length=(c.vars i).length:=λr o=>h.clen hi r (((h.set hi).2 r).1 o)
theorem Jnw{n:Nat}{g g':Nat->Nat}(h:∀ c,c<n->g c<=g' c): Jc n g<=Jc n g':=by
 induction n with
 | zero=>exact Nat.le_refl _
 | succ n ih=>rw [Jc,Jc];exact Nat.mul_le_mul (ih λc o=>h c om) (h n om)
theorem CseOk.cnt(h:CseOk c ats): max 1 (Jc c.m λi=>(c.crs i).length)<=5000:=by
 have o:=h.few.cnt;rw [<-h.len]at o;have u:Jc c.m (λi=>(c.crs i).length)<=Jc c.vs.length λi=>max 1 (c.rss.getD i []).length:=Jnw λi _=>Nat.le_max_right _ _;omega
theorem CseOk.refP(h:CseOk c ats): RefP c.N c.m c.vars c.crs:=by
 have u:=h.nN.2;refine ⟨om,by have:=h.few.v5;unfold Cse.m;omega,λi hi=>(h.vars hi).2.1,λi hi=>(h.vars hi).2.2.1,λi hi=>h.clen hi,λv o=>h.cov o,h.cnt,λi hi=>h.few.row i (by rw [<-h.len];exact hi)⟩
theorem Jbl{ds:List Bool}{ls m:List Row}(h:IsSet ds ls m): m.length<=ls.length:=Jcn (Jrl h.1) λx o=>(h.2 x).1 o
theorem CseOk.pm(h:CseOk c ats): PermOk c.N c.F (toN c.pm)/\nz (toN c.pm)=c.pm:=by
 obtain ⟨_,_,_,_,_,G,u,C,_⟩:=h.chk;simp only at G u C;have hn:=h.nN.1;have J:=h.fF.1;have h0:∀ v∈c.pm,0<=v:=λv o=>by have:=(u v o).1;omega
 refine ⟨⟨h.fF.2,by simp [toN];omega,λv o=>?_,?_⟩,Jwt h0⟩
 .have:=u v ((Jbc h0).1 o);omega
 .unfold toN List.Nodup;rw [List.pairwise_map];exact List.Pairwise.imp_of_mem (fun {a b} ha hb hab e=>hab (by have:=h0 a ha;have:=h0 b hb;omega)) C
theorem CseOk.bldI(h:CseOk c ats){ts:List TA}(hts:ats=ts.map (·.2)): BldI c.N c.F c.ds (toN c.pm) ts c.vars (rsA ats):=by
 have hN:=h.nN.2;have o:ts.length=c.m:=by have:=h.al;rw [hts,List.length_map]at this;exact this
 have C:RunOk c.N ts c.vars (rsA ats):=by
  refine ⟨om,by have:=h.few.v5;unfold Cse.m at o;omega,λi hi=>?_,λi hi=>(h.vars (o ▸ hi)).2.1,λi hi=>(h.vars (o ▸ hi)).2.2.1,λv J=>by rw [o];exact h.cov J,λi hi=>(h.set (o ▸ hi)).1,λi hi=>h.slen (o ▸ hi),λi hi=>(h.mka i (show i<c.m from o ▸ hi)).len⟩;have G:i<c.m:=o ▸ hi;have e:(ts.getD i ta0).2=ats.getD i a0:=by rw [hts];simp [List.getD,hi]
  have hm:=h.mka i G;obtain ⟨v1,_,_,v4⟩:=h.vars G;rw [e];have e2:ats.getD i a0=⟨(ats.getD i a0).vars,(ats.getD i a0).ar,(ats.getD i a0).rows⟩:=rfl;rw [e2,hm.vars,hm.ar,v1,v4];rfl
 refine ⟨C,h.pm.1,?_,λi hi r hr u hu=>?_,λkf pf hb v J=>⟨λl hl hx=>?_,λi hi=>.inl ?_⟩⟩
 .obtain ⟨_,_,_,_,U,_⟩:=h.chk;simp only at U;unfold Cse.F;omega
 .have G:i<c.m:=o ▸ hi;have O:=((h.set G).2 r).1 hr;have U:=((h.mka i G).ok r O).2;exact ⟨List.all_eq_true.1 U u hu,h.fit i (by rw [<-h.len];exact G) r O u hu⟩
 .have hs:kf v ||| 2^v<2^c.N:=by
   refine Nat.lt_pow_two_of_testBit _ λi hi=>?_;cases hbt:(kf v ||| 2^v).testBit i with
   | false=>rfl
   | true=>
    rw [Nat.testBit_or,Nat.testBit_two_pow,Bool.or_eq_true,decide_eq_true_eq]at hbt;rcases hbt with hbt|hbt
    .rw [(hb v J).2.1]at hbt;have Z:∀ e∈Zw ts.length c.vars,e<2^c.N:=λe he=>by
      obtain ⟨i,hi,rfl⟩:=List.mem_map.1 he;exact Jqx (C.lt i (List.mem_range.1 hi))
     have:=Jvc (nb:=nb0 c.N (Zw ts.length c.vars)) (ord:=Xj (toN c.pm) c.F) (N:=c.N) (λa b a1=>(Jqg Z a1).2.1) hbt;omega
    .omega
  have U:=Qpk (m:=ts.length) (vars:=c.vars) (rs:=rsA ats) (l:=l) (λi hi=>C.asc i hi) (λv J=>C.cov v J) hs hl hx;have h2:Jc ts.length (λi=>(rsA ats i).length)<=Jc ts.length λi=>(c.crs i).length:=Jnw λi hi=>Jbl (h.set (o ▸ hi));have h3:=h.cnt;rw [o]at h2;rw [o]at U;omega
 .have:=Jbl (h.set (o ▸ hi));have h2:=h.few.row i (by rw [<-h.len];exact (show i<c.m from o ▸ hi));unfold Cse.crs at this;omega
theorem CseOk.ansJ(h:CseOk c ats)(z:Row): Zr c.N c.m c.vars (rsA ats) z↔Zr c.N c.m c.vars c.crs z:=by
 unfold Zr;refine and_congr_right λ_=>forall_congr' λi=>forall_congr' λhi=>?_;exact (h.set hi).2 _
theorem CseOk.ans(h:CseOk c ats): Lt c.ds c.ans/\∀ y,y∈c.ans↔∃ z,Zr c.N c.m c.vars (rsA ats) z/\z.take c.F=y:=by
 have C:=Qxh c.m c.vars c.crs c.N c.F c.ds;have o:=h.refP;refine ⟨C.1,λy=>?_⟩;rw [show c.ans=ansF c.m c.vars c.crs c.N c.F c.ds from rfl,C.2 y,List.mem_map];constructor
 .rintro ⟨z,u,e⟩;exact ⟨z,(h.ansJ z).2 ((Jdl o.asc o.len o.lt o.cov z).1 u),e⟩
 .rintro ⟨z,u,e⟩;exact ⟨z,(Jdl o.asc o.len o.lt o.cov z).2 ((h.ansJ z).1 u),e⟩
theorem CseOk.anl(h:CseOk c ats): c.ans.length<=5000:=by
 have o:=h.refP;have u:=Jbl (Qxh c.m c.vars c.crs c.N c.F c.ds);have C:=Jrt o.asc o.len o.cov;rw [List.length_map]at u;exact nL u (nL C o.cnt)
end
open Go.RowKit Pl Go.Wk
attribute [local irreducible] WC WL QX WD WDB WP WN WG WH WM
theorem IxV.congr{w:World}{x:Value}{f:Nat}{ds:List Bool}{kf:Nat->Nat}{pf:Nat->Int}{BB BB':Nat->List BkT}{tot:Nat}(h:IxV w x f ds kf pf BB tot)(he:∀ v,v<f->BB v=BB' v): IxV w x f ds kf pf BB' tot:=by
 obtain ⟨DA,dc,BA,cb,KA,ck,PA,cp,G,u,o,h1,h2,h3,h4,h5,Z,U,O,J⟩:=h.ex;exact ⟨⟨DA,dc,BA,cb,KA,ck,PA,cp,G,u,o,h1,h2,h3,h4,h5,Z,U,O,λv C=>he v C ▸ J v C⟩,h.dl,h.f32⟩
theorem Qrt(w:World): (Instr.build 31 #[]).run Tryz.prog w=.ok (.agg #[.slice none 0 0,.slice none 0 0,.slice none 0 0,.slice none 0 0,.slice none 0 0]) w:=kr
theorem ElR.fits{n f:Nat}{ds:List Bool}{perm:List Nat}{ts:List TA}{vars:Nat->List Nat}{rs:Nat->List Row}{es:List Nat}{kf:Nat->Nat}{pf:Nat->Int}{R:Nat->List Row}(h:ElR n f ts.length es perm vars rs kf pf R)(hI:BldI n f ds perm ts vars rs):
  ∀ v,v<f->∀ x∈R v,∀ u∈x,Va u/\u.bytes.length<=24:=λv G x C u J=>by
 have o:v<n:=nM G h.pm.fn;obtain ⟨z,_,e,O⟩:=((h.rows v o).2.1 x).1 C;subst e;exact (hI.fit (h.sb o) O).1.2 u J
theorem ElR.htb{n f m:Nat}{es perm:List Nat}{vars:Nat->List Nat}{rs:Nat->List Row}{kf:Nat->Nat}{pf:Nat->Int}{R:Nat->List Row}{ds:List Bool}{tot:Nat}(h:ElR n f m es perm vars rs kf pf R){v:Nat}{b:BkT}(hb:b∈BBx tot n f kf pf R ds (plO perm f) v): b.2.ht<=65536:=by
 unfold BBx at hb;by_cases hv:v<f
 .rw [if_pos hv]at hb;by_cases h0:tot=0
  .rw [if_pos h0]at hb;cases hb
  .rw [if_neg h0]at hb;have e:=((Jyg (ds:=ds) h hv).con b hb).1;have C:b.2.toL.length<=(R v).length:=by
    rw [e];have:(Qp (λx=>wtL (TV n f kf pf R ds (plO perm f)) x (chK kf pf v n)) (Go.Proofs.YtebcagekopgdhaaGreatDoor.lastC kf v) (R v) b.1).length<=(R v).length:=by
     unfold Qp;rw [List.length_map];exact List.length_filter_le _ _
    unfold Vq;split<;>simpa using this
   have o:=Tr.ht_le b.2;rw [Tr.sz_eq]at o;have u:=(h.rows v (nM hv h.pm.fn)).2.2;omega
 .rw [if_neg hv]at hb;cases hb
theorem ixA_of{w:World}{x:Value}{n f:Nat}{ds:List Bool}{perm:List Nat}{ts:List TA}{vars:Nat->List Nat}{rs:Nat->List Row}{es:List Nat}{kf:Nat->Nat}{pf:Nat->Int}{R:Nat->List Row}{L:List Row}(hTB:∃ B0,TB B0 w)(hI:BldI n f ds perm ts vars rs)(hats:∀ i,i<ts.length->((ts.map (·.2)).getD i a0).rows=rs i)(hE:ElR n f ts.length es perm vars rs kf pf R)(hV:IxV w x f ds kf pf (λu=>if Zs n pf (TV n f kf pf R ds (plO perm f)) (ts.map (·.2))=0 then [] else BBo n f kf pf R ds (plO perm f) u) (Zs n pf (TV n f kf pf R ds (plO perm f)) (ts.map (·.2))))(hL:Lt ds L)(hLm:∀ y,y∈L↔∃ z,Zr n ts.length vars rs z/\z.take f=y)(hl:L.length<4294967296):
  IxA w x f ds kf pf (BBx (Zs n pf (TV n f kf pf R ds (plO perm f)) (ts.map (·.2))) n f kf pf R ds (plO perm f)) (Zs n pf (TV n f kf pf R ds (plO perm f)) (ts.map (·.2))) L:=by
 have o:=hE.ixP (ds:=ds) (tot:=Zs n pf (TV n f kf pf R ds (plO perm f)) (ts.map (·.2))) (hE.fits hI) (ats:=ts.map (·.2)) (by rw [List.length_map]) hats rfl hL hLm
 exact ⟨hTB,hV.congr λv C=>by unfold BBx;rw [if_pos C],o,o.few hl,λv b G=>hE.htb G⟩
def Qxz(c:Cse): Prop:=FewS c/\MkS c/\∀ ats:List Atm,ats.length=c.vs.length->(∀ i,i<c.vs.length->MkA (ats.getD i a0) (c.vs.getD i []) (c.rss.getD i []))->Jxf ⟨c.n,c.f,c.ds,c.pm,ats⟩
theorem rsA_ts{ts:List TA}{ats:List Atm}(h:ats=ts.map (·.2)): ∀ i,i<ts.length->((ts.map (·.2)).getD i a0).rows=rsA ats i:=λi hi=>by rw [rsA,h]
theorem CseV.rin{w:World}{c:Cse}{ats:List Atm}{vA rA:Option Addr}{vc rc:Nat}(hV:IntssV w (.slice vA c.vs.length vc) c.vs)(hR:RowssV w (.slice rA c.rss.length rc) c.rss)(h:CseOk c ats): RInM w vA rA c.m c.vars c.crs:=by
 obtain ⟨_,_,u,o,_,_,J,G⟩:=hV;injection o with o e2 e3
 subst o;subst e3;obtain ⟨_,_,C,o,_,_,U,O⟩:=hR;injection o with o e2 e3
 subst o;subst e3;refine ⟨⟨u,J,λi hi=>?_⟩,⟨C,?_,λi hi=>O i (by rw [<-h.len];exact hi)⟩⟩
 .rw [(h.vars hi).1];exact G i hi
 .have:=h.len;unfold Cse.m;rw [this];exact U
theorem bldV_of{w:World}{c:Cse}{ats:List Atm}{dA pA aA:Option Addr}{dc pc ac an:Nat}(h:CseOk c ats)(hD:BoolsV w (.slice dA c.ds.length dc) c.ds)(hP:IntsV w (.slice pA c.pm.length pc) c.pm)(hG:GV 3 AtG w (.slice aA an ac) ats):
  ∃ ts:List TA,ats=ts.map (·.2)/\BldV w (.agg #[.int .i64 c.n,.int .i64 c.f,.slice dA c.ds.length dc,.slice pA c.pm.length pc,.slice aA an ac]) c.N c.F c.ds (toN c.pm) ts:=by
 obtain ⟨ts,A,cc,G,eA,U,Z,O,J⟩:=Jfx hG;injection eA with o e2 e3
 subst o;subst e2;subst e3;obtain ⟨D,d',o,h1,h2,h3⟩:=hD;injection o with o e2 e3
 subst o;subst e3;obtain ⟨Q,q',o,h4,h5,h6⟩:=hP;injection o with o e2 e3
 subst o;subst e3;have C:=(h.bldI G).dl;have u:(toN c.pm).length=c.pm.length:=by simp [toN]
 refine ⟨ts,G,dA,dc,pA,pc,aA,ac,?_,by rw [<-C];exact h1,h3,?_,by rw [u];exact h4,O,U,J⟩
 .rw [h.nN.1.symm,h.fF.1.symm,u,<-C]
 .rw [h.pm.2,u];exact h6
end Go.Proofs.YtebcagekopgdhaaGreatDoor
namespace Go.Proofs.YtebcagekopgdhaaGreatDoor
open Pl Go.Wk
def nV(n:Int): V:=⟨1,n,⟨#[]⟩⟩
def nR(a b:Int): Row:=[nV a,nV b]
theorem nV_ok(n:Int): Qr (nV n)=true:=rfl
theorem Qdn{n:Int}(h:-9223372036854775808<=n/\n<=9223372036854775807): Va (nV n):=⟨by show _<=(1:Int)/\(1:Int)<=_;omega,h⟩
def Xz(ds:List Bool)(r1 r2 r3:Row): Cse:=⟨2,2,ds,[],[[0,1]],[[r1,r2,r3]]⟩
theorem goodE{ds:List Bool}{r1 r2 r3:Row}(hd:ds.length=2)(h1:r1.length=2/\r1.all Qr=true)(h2:r2.length=2/\r2.all Qr=true)(h3:r3.length=2/\r3.all Qr=true): Qxz (Xz ds r1 r2 r3):=by
 refine ⟨⟨λi hi=>?_,by simp [Xz,Jc],by simp [Xz],by simp [Xz],by simp [Xz],λi hi=>?_,by show ds.length<=10;omega,by simp [Xz]⟩,⟨rfl,λi hi=>?_,λi hi r J=>?_,λi hi=>?_⟩,λats G hmk=>?_⟩
 .have:i=0:=by simp [Xz]at hi;exact hi
  subst this;simp [Xz]
 .have:i=0:=by simp [Xz]at hi;exact hi
  subst this;simp [Xz]
 .have:i=0:=by simp [Xz]at hi;exact hi
  subst this;simp [Xz]
 .have:i=0:=by simp [Xz]at hi;exact hi
  subst this;simp only [Xz,List.getD_cons_zero,List.mem_cons,List.not_mem_nil,or_false]at J;rcases J with rfl|rfl|rfl
  .exact h1
  .exact h2
  .exact h3
 .have:i=0:=by simp [Xz]at hi;exact hi
  subst this;simp [Xz]
 .have u:ats.length=1:=G;obtain ⟨a,rfl⟩:∃ a,ats=[a]:=List.length_eq_one_iff.1 u;have O:=hmk 0 (by simp [Xz]);have o:a.vars=[0,1]:=O.vars;have ha:a.ar=2:=O.ar;refine ⟨by simp [Xz],by simp [Xz],by simp [Xz],by simp [Xz],by show (ds.length:Int)=2;omega,by simp [Xz],λv o=>(by cases o),by simp [Xz],by simp [Xz],by simp [Xz],by simp,λb U=>?_,λv C=>⟨a,by simp,?_⟩⟩
  .rw [List.mem_singleton]at U;subst U;refine ⟨?_,?_,by rw [o,ha];rfl⟩
   .rw [o];intro j h0 hj;have:j=1:=by simp at hj;omega
    subst this;decide
   .rw [o];intro v h;simp only [List.mem_cons,List.not_mem_nil,or_false]at h;rcases h with rfl|rfl<;>simp [Xz]
  .rw [o];have Z:(v:Int)<2:=C;simp only [List.mem_cons,List.not_mem_nil,or_false];omega
def exA(d:Bool): Cse:=Xz [d,false] (nR 1 2) (nR 1 3) (nR 2 3)
theorem exA_good(d:Bool): Qxz (exA d):=goodE rfl ⟨rfl,rfl⟩ ⟨rfl,rfl⟩ ⟨rfl,rfl⟩
theorem exA_ans: (exA false).ans=[nR 1 2,nR 1 3,nR 2 3]/\(exA true).ans=[nR 2 3,nR 1 2,nR 1 3]:=by decide
theorem exA_ans'(d:Bool): (exA d).ans.length=3/\(exA d).ans[1]?=some (if d then nR 1 2 else nR 1 3)/\(wiL (exA d).ans [nV 1])[1]?=some (nR 1 3)/\(wiL (exA d).ans [nV 2])[1]?=none:=by
 cases d with
 | false=>rw [exA_ans.1];decide
 | true=>rw [exA_ans.2];decide
theorem exA_fit(d:Bool): ∀ i,i<(exA d).rss.length->∀ r∈(exA d).rss.getD i [],∀ u∈r,Va u:=λi hi r C u o=>by
 have:i=0:=by simp [exA,Xz]at hi;exact hi
 subst this;simp only [exA,Xz,List.getD_cons_zero,List.mem_cons,List.not_mem_nil,or_false]at C;rcases C with rfl|rfl|rfl <;>
 .simp only [nR,List.mem_cons,List.not_mem_nil,or_false]at o;rcases o with rfl|rfl<;>exact Qdn (by decide)
end Go.Proofs.YtebcagekopgdhaaGreatDoor
