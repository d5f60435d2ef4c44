/- Part 8. -/
import Derived.Test.YtebiphhfkdbpfaaGreatC07
import Derived.ProofKit
import Derived.OpenShut
import Derived.ShutString
import Derived.ChangeOld
import Derived.Deep.Slices
import Derived.Deep.Fields
import Derived.Test.YtebiphhfkdbpfaaGreatRows
set_option linter.unusedVariables false
set_option maxRecDepth 100000
set_option maxHeartbeats 40000000
namespace Go.Wk
open Go.RowKit
variable {c c' e m m' t:Nat}{x y:Operand}{A A':Option Addr}
section
variable {P:Program} {n:Nat} {al:AL} {w:World} {Q:Exit->Act->World->Prop} {ops:Array Oper} {rest:List Oper} {d ty:Nat} {pos:String} {aft:Array Edge} {tt:TT}
theorem sl00[hT:Tab P tt]{k:TK}(kk:WL P n ops Q rest ((d,.slice A 0 0)::al) w)(ht:tk tt t=some k:=by rfl)(hk:k.desc=.slice e:=by rfl)(hx:ev al x=some (.slice A m c):=by rfl)(hd:Nat.blt d n=true:=by rfl):
  WL P n ops Q (⟨some d,.slice t x none (some (.const (.int .i64 0))) (some (.const (.int .i64 0))),ty,pos,aft,none⟩::rest) al w :=
 Jjw hT.ok 0 0 0 A 0 0 ht hk rfl hx rfl ⟨.i64,0,rfl,rfl⟩ ⟨.i64,0,rfl,rfl⟩ (.inr (by simp)) (nR _) (nR _) (Nat.zero_le _) (Jxw A _ _) rfl rfl hd kk
theorem ap00{sz bytes:Nat}{z:Value}(hE:ElT P t e sz bytes z){news:List Value}(hr:Rd w sz A' m' news)(h1:∀ u∈news,u.oneCell'=true)(h0:0<m')(h63:m'<=maxLen)(hby:m'*bytes<=140737488355328)(kk:∀ v' w',Ext w w'->w'.ownsRow w.heap.size e sz v' m' news->WL P n ops Q rest ((d,v')::al) w')(hx:ev al x=some (.slice A 0 0):=by rfl)(hy:ev al y=some (.slice A' m' c'):=by rfl)(hd:Nat.blt d n=true:=by rfl):
  WL P n ops Q (⟨some d,.call { callee:=.builtin .append,args:=#[x,y],argTypes:=#[t,t] },ty,pos,aft,none⟩::rest) al w:=by
 obtain⟨v',w',i,_,D,_,G,_⟩:=Jyt hE w.heap.size ty (v:=.slice A 0 0) (m:=0) (xs:=[]) (.inr ⟨A,rfl,Rd.nil⟩) (c':=c') hr h1 om (by rw[Nat.zero_add];exact hby) (nR _);have D:=D h0;rw[Nat.zero_add,List.nil_append]at D;have F:Ext w w':=G.elim (λ⟨J,O⟩=>Jh (Ext.refl w) O λk e=>by
  obtain⟨_,_,_,_,U⟩:=Jy J;exact(U k e).1) id
 exact wop hd (λa j=>by simp[execOp,resolve,invoke,builtin,j.ev hx,j.ev hy,i]) (kk v' w' F D)
end
end Go.Wk
namespace Go.Proofs.YtebiphhfkdbpfaaGreat
open Go.RowKit Pl Go.Wk Bl Nw
attribute [local irreducible] WC WL QX WD WDB WP WN WG WH
variable {vs:List Nat}{A B rs:List Row}{base n s0:Nat}{v v1 v2 vl vr:Value}{w:World}
theorem fldR(A B:Option Addr)(m c m' c':Nat)(w:World): (Instr.field 46 (.agg #[.slice A m c,.slice B m' c']) 1).run Tryz.prog w=.ok (.slice B m' c') w:=kr
def AgV(vs:List Int)(rs:List Row)(v:Value)(w:World): Prop:=∃ A n c B m d,v=.agg #[.slice A n c,.slice B m d]/\IntsV w (.slice A n c) vs/\RowsV w (.slice B m d) rs
theorem AgV.ext{vs:List Int}{rs:List Row}{v:Value}{w w':World}(h:AgV vs rs v w)(hx:Ext w w'): AgV vs rs v w':=by
 obtain⟨A,n,c,B,m,d,e,j,i⟩:=h;exact⟨A,n,c,B,m,d,e,j.ext hx,i.ext hx⟩
theorem agV{vs:List Int}(h1:IntsV w v1 vs)(h2:RowsV w v2 rs): AgV vs rs (.agg #[v1,v2]) w:=by
 obtain⟨A,c,rfl,_⟩:=id h1;obtain⟨ps,B,d,_,rfl,_⟩:=id h2;exact⟨_,_,_,_,_,_,rfl,h1,h2⟩
def SF.ag(vs:List Int)(rs:List Row): SF:=⟨AgV vs rs,λh hx=>h.ext hx⟩
def SF.rws(rs:List Row): SF:=⟨λv w=>RowsV w v rs,λh hx=>h.ext hx⟩
def SF.s00: SF:=⟨λv _=>∃ A,v=.slice A 0 0,λh _=>h⟩
def SF.b1(vr:Value): SF:=⟨λv w=>∃ b,v=.slice (some ⟨b,0,none⟩) 1 1/\Blk w b 54 [vr],λ⟨b,e,h⟩ hx=>⟨b,e,h.ext hx⟩⟩
def SF.ab(vs:List Int)(rs:List Row): SF:=⟨λv w=>∃ b A n c B m d,v=.slice (some ⟨b,0,none⟩) 1 1/\Blk w b 46 [.slice A n c,.slice B m d]/\IntsV w (.slice A n c) vs/\RowsV w (.slice B m d) rs,λ⟨b,A,n,c,B,m,d,e,h,h1,h2⟩ hx=>⟨b,A,n,c,B,m,d,e,h.ext hx,h1.ext hx,h2.ext hx⟩⟩
theorem Qvm{r:Row}(h:w.ownsRow base 54 1 v 1 [vr])(hr:RowV w vr r): RowsV w v [r]:=by
 obtain⟨A,c,rfl,j,_⟩:=Jy h;exact⟨[(vr,r)],A,c,rfl,rfl,j,by show 1<=1100000;decide,Rd.own h,λp i=>by rw[List.mem_singleton.1 i];exact hr⟩
theorem gxOne{b A n c B m d}{a:PA}(hB:Blk w b 46 [.slice A n c,.slice B m d])(h1:IntsV w (.slice A n c) (nz a.vs))(h2:RowsV w (.slice B m d) a.rs): GX 2 RaC Nn w (.slice (some ⟨b,0,none⟩) 1 1) ([a].map raP) :=
 Jjh (ps:=[([.slice A n c,.slice B m d],raP a)]) (hB.rd (n:=1) rfl) (nR 1) (by show 1<=1100000;decide) λp j=>by
  rw[List.mem_singleton.1 j];exact⟨rfl,_,_,rfl,λx i=>⟨h1.ext (Jjk i),h2.ext (Jjk i)⟩⟩
theorem Jfm: ∀ {l:List LA} {ms:List (List Row)},ms.length=l.length->(l.map λa=>(lvs a).length)=(l.zipWith atm ms).map (·.ar)
 | [],[],_=>rfl
 | a::l,m::ms,h=>by
  rw[List.zipWith_cons_cons,List.map_cons,List.map_cons,Jfm (by simpa using h)];rfl
theorem Jvk: ∀ {l:List LA} {ms:List (List Row)},l.zipWith rat' ms=(l.zipWith atm ms).map raO
 | [],_=>rfl
 | _::_,[]=>rfl
 | a::l,m::ms=>by
  rw[List.zipWith_cons_cons,List.zipWith_cons_cons,List.map_cons,Jvk];rfl
theorem smL2(hn:n<=8)(h1:∀ v∈vs,v<n)(hA:∀ r∈A,r.length=vs.length/\∀ y∈r,D4 y)(hB:∀ r∈B,r.length=vs.length/\∀ y∈r,D4 y)(cA:A.length<=1000000)(cB:B.length<=1000000): SmL [⟨vs,A⟩,⟨vs,B⟩]:=by
 have i:∀ {P:PA->Prop},P ⟨vs,A⟩->P ⟨vs,B⟩->∀ a∈[(⟨vs,A⟩:PA),⟨vs,B⟩],P a:=λh1 F a D=>by
  simp only[List.mem_cons,List.not_mem_nil,or_false]at D;rcases D with rfl|rfl<;>assumption
 exact⟨i (λv u=>nM (h1 v u) hn) λv u=>nM (h1 v u) hn,i (λr j=>(hA r j).1) λr j=>(hB r j).1,i (λr j=>(hA r j).2) λr j=>(hB r j).2,i cA cB⟩
theorem smL1(hn:n<=8)(h1:∀ v∈vs,v<n)(hA:∀ r∈A,r.length=vs.length/\∀ y∈r,D4 y)(cA:A.length<=1000000): SmL [⟨vs,A⟩]:=by
 have one:∀ {P:PA->Prop},P ⟨vs,A⟩->∀ a∈[(⟨vs,A⟩:PA)],P a:=λh1 a u=>by rw[List.mem_singleton.1 u];exact h1
 exact⟨one λv j=>nM (h1 v j) hn,one λr i=>(hA r i).1,one λr i=>(hA r i).2,one cA⟩
theorem Qsg{l:List LA}(hl:GX 3 LaC Nn w vl l)(hll:l.length<=1048576)(hn256:n<256)(hs0:s0<4294967296):
  Ret Tryz.prog 4 [.int .u8 (n:Int),vl,.int .u32 (s0:Int)] w λu w'=>u=.bool true/\Ext w w':=by
 refine Jz Tryz.func4 Tryz.ntmps4 rfl kr rfl ?_;refine ρ ?_;refine cl (Jnw hl hll) ?_;rintro u w1 ⟨an,h3⟩;rcases h3 with⟨hf,vo,vm,va,ms,rfl,co,ei,hO,hM,hI⟩|⟨hno,rfl⟩
 case inr=>
  refine ρ ?_;refine cl (Qjz _) ?_;rintro x w4 ⟨rfl,a3⟩;refine ρ ?_;exact Jq ⟨rfl,an.trans a3⟩
 have aw:∀ {w2:World},Ext w w2->Ret Tryz.prog 8 [] w2 λu w'=>u=.bool true/\Ext w w':=λh=>(Qjz _).mono λu w' ⟨e,hx⟩=>⟨e,h.trans hx⟩;refine ρ ?_;by_cases h6:l.length<=6
 case neg=>
  refine kt 29 ?_ ?_
  .rw[decide_eq_false h6];rfl
  refine ρ ?_;refine cl (aw an) ?_;rintro x w4 ⟨rfl,a3⟩;refine ρ ?_;exact Jq ⟨rfl,a3⟩
 refine kf 29 ?_ ?_
 .rw[decide_eq_true h6];rfl
 refine ρ ?_;by_cases h5:n<=5
 case neg=>
  refine kt 33 ?_ ?_
  .exact decide_eq_true om
  refine ρ ?_;refine cl (aw an) ?_;rintro x w4 ⟨rfl,a3⟩;refine ρ ?_;exact Jq ⟨rfl,a3⟩
 refine kf 33 ?_ ?_
 .exact dF om
 rw[Jvk]at hM;rw[Jfm co]at hI;have dq:IntKind.i64.wrap (n:Int)=(n:Int):=Vw om;refine ρ ?_;refine kv 35 (congrArg (Value.int .i64) dq) ?_;refine cl (Qyk (n:=n) hM hI) ?_;rintro u w2 ⟨⟨e,rfl,he⟩,bh⟩;have b6:=an.trans bh;by_cases h0:e=0
 case neg=>
  refine ρ ?_;refine ct ?_ ?_
  .simpa using h0
  refine ρ ?_;refine cl (aw b6) ?_;rintro x w4 ⟨rfl,a3⟩;refine ρ ?_;exact Jq ⟨rfl,a3⟩
 have cv:=he.1 h0;subst h0;clear he;obtain⟨U,eA,eR,fh,hC⟩:=Qng co hf ei cv;rw[eA]at hO;rw[<-Jvk,eR]at hM;have ae:n<=8:=om
 have ck:=hC.sm ae;have hS:s0 % 2^n<2^n:=Nat.mod_lt _ (Nat.two_pow_pos n);have au:s0 % 2^n<4294967296:=nN (Nat.mod_le _ _) hs0;have b8:=Qwr hs0 (by omega:n<=31);generalize s0 % 2^n=S at *
 refine ρ ?_;refine sl32b (v:=n) om ?_;refine ρ ?_;refine kv 2 (congrArg (Value.int .u32) b8) ?_;refine kv 50 (congrArg (Value.int .u32) b8) ?_;refine kv 49 (congrArg (Value.int .i64) dq) ?_;refine cl (Qfx hC ae (hO.ext AtC.sta (by decide) bh) hS) ?_;rintro u w3 ⟨c9,t',st,M,rfl,ef,ax⟩;have f2:=b6.trans c9;have cc:=bh.trans c9;have hG:=ef.here;have av:=ax.d4 hC hS;have fq:=ax.cnt hC hS ae;have fp:=bk_n hS (by omega:n<=32);obtain⟨t1,t2,t3⟩:=t';obtain⟨⟨E,ec,eE,_⟩,e2,a8,F,fc,ft,eF,_,f3,_⟩:=id hG;simp only at eE e2 eF;subst eE;subst e2;subst eF;refine ρ ?_;refine alc Vy ?_;intro w4 ds a3 eg ew;refine ρ ?_;refine stb (cs':=[.slice E (atP ⟨bk S 32,M⟩).vars.length ec,.int .i64 ((atP ⟨bk S 32,M⟩).ar:Int),.slice F a8.length fc]) ew ?_ (Jxb rfl);intro w5 eu fo e8;have b4:Ext w3 w5:=e8 w3 a3 eg;have es:=hG.ext b4;have b5:=cc.trans b4;refine ρ ?_;refine cl (Jbg ck (hM.ext RaC.sta (by decide) b5) om) ?_
 rintro u w6 ⟨j1,j2,vs,J,rfl,ee,hJ,eo,fr,e7⟩;have da:=ee.here;have e9:∀ v∈vs,v<n:=λv hv=>by
  obtain⟨p,hp,bl⟩:=(hJ.2.1 v).1 hv;exact hC.lt p hp v bl
 have d0:∀ v,S.testBit v=true->v∈vs:=λv hv=>by
  obtain⟨p,hp,bl⟩:=hC.cov v (Yx hS hv);exact(hJ.2.1 v).2 ⟨p,hp,bl⟩
 have ao:∀ v∈vs,v<32:=λv hv=>by have:=e9 v hv;omega
 have en:∀ r∈J,r.length=vs.length:=λr hr=>by
  obtain⟨x,rfl,_⟩:=(hJ.2.2.2 r).1 hr;simp
 refine ρ ?_;refine cl (Qyj da.1 da.2 au hJ.1 ao en (λr hr x hx=>(eo r hr x hx).noS) om) ?_;rintro u w7 ⟨q1,q2,fz,rfl,eb,ej,e6⟩;have hQ:=eb.here;have fu:inS vs S=bk S 32:=Jwh hJ.1 ao d0;have cj:=Qnm ck.len hJ ao d0 ej ax;obtain⟨Q1,fb,ey,_⟩:=id hQ.1;obtain⟨a2,f0,pc,ex,ez,fi,fg,d7,bp⟩:=id hQ.2;subst ey;subst ez;subst ex;refine ρ ?_;refine fld (λw=>fldR _ _ _ _ _ _ w) ?_;refine ρ ?_;have c8:=e7.trans e6;refine Jl (fun (i:Nat)=>[(0,.int .u8 (n:Int)),(2,.int .u32 (S:Int)),(7,vo),(8,vm),(11,.pointer (some ⟨ds,0,none⟩)),(62,.slice f0 a2.length pc),(63,.int .i64 (a2.length:Int)),(64,.int .i64 (i:Int))])
  (λi w'=>i<=a2.length/\Ext w7 w') (λi=>a2.length-i) 0 sB ⟨Nat.zero_le _,Ext.refl _⟩ ?_
 rintro i w8 ⟨hi,aj⟩;have ak:=c8.trans aj;have de:=eu.ext ak;have dd:=es.ext ak;refine ρ ?_;refine ci (λh=>?_) (λh=>?_)
 .have li:i<a2.length:=by have:=oT h;omega
  clear h;have m1:=getD_mem' z0 a2 li;have c7:(a2.getD i z0).2∈a2.map (·.2):=List.mem_map.2 ⟨_,m1,rfl⟩
  have ap:=(bp _ m1).ext aj;have cm:=cj _ c7;have bo:=av _ cm;obtain⟨R,rc,eR,ff,fe,hR⟩:=id ap;generalize hre:(a2.getD i z0).2=r at *
  rw[eR]at ap;refine ρ ?_;refine ix i (d7.ext aj) li ?_;refine ρ ?_;refine ld (v:=.slice R r.length rc) (((d7.ext aj).cell (Ya li)).trans (by rw[eR])) ?_;refine ρ ?_;have a5:Ext w8 w8.drew:=(Ext.refl w8).drew;have c3:=de.ext a5;have c0:=dd.ext a5;have bn:=ap.ext a5;refine drH (λ_=>false) ?_;refine Uj (fuel':=11) 20 [(0,0),(0,2),(0,3),(0,4),(0,8)] #[true,false,true,true,true,false,false,false,true,false,false,false,false,false,false,false] kr kr rfl ?_;refine ρd ?_;refine Qq (cs:=[.slice E (atP ⟨bk S 32,M⟩).vars.length ec,.int .i64 ((atP ⟨bk S 32,M⟩).ar:Int),.slice F a8.length fc]) (λj u hu=>c3.at hu) ?_;refine ρd ?_;refine dld (c3.at (i:=0) rfl) ?_;refine ρd ?_;refine Qq (cs:=[.slice E (atP ⟨bk S 32,M⟩).vars.length ec,.int .i64 ((atP ⟨bk S 32,M⟩).ar:Int),.slice F a8.length fc]) (λj u hu=>c3.at hu) ?_;refine ρd ?_;refine Uq ?_;refine hmkS 20 2 _ #[true,true,true,true,true,true,true,true,true,true,true,true,true,true,false,false] [1,5,6,7,9,10,11,12,13] [69,73,74,75,77,78,79,80,81] [SF.ag (nz (bk S 32)) M,SF.ag (nz (bk S 32)) M,SF.rws M,SF.s00,SF.b1 (.slice R r.length rc),SF.rws [r],SF.ag (nz (bk S 32)) [r],SF.ab (nz (bk S 32)) [r],SF.ag (nz (bk S 32)) [r]] kr (by rfl) ?_ ?_
  .have db:∀ {x:World},Ext w8.drew x->AtV x (.slice E (atP ⟨bk S 32,M⟩).vars.length ec,.int .i64 ((atP ⟨bk S 32,M⟩).ar:Int),.slice F a8.length fc) (atP ⟨bk S 32,M⟩):=λh=>c0.ext h;have cn:∀ {x:World},Ext w8.drew x->Ret Tryz.prog 18 [.agg #[.slice E (atP ⟨bk S 32,M⟩).vars.length ec,.int .i64 ((atP ⟨bk S 32,M⟩).ar:Int),.slice F a8.length fc]] x λu w'=>AgV (nz (bk S 32)) M u w'/\Ext x w':=λh=>(Jbz (db h) (λr hr=>by have:=(av r hr).1;omega) (by show M.length<=1100000;omega)).mono λu w' ⟨y1,y2,e,h1,h2,h3⟩=>⟨by rw[e];exact agV h1 h2,h3⟩;refine gsc (λZ v1 O hd=>?_) ?_
   .simp only[slM];refine cl (cn O) ?_;rintro u v2 ⟨bu,G⟩;refine ρ ?_;exact Xk G bu
   refine gsc (λZ v1 O hd=>?_) ?_
   .simp only[slM];refine cl (cn O) ?_;rintro u v2 ⟨bu,G⟩;refine ρ ?_;exact Xk G bu
   refine gsc (λZ v1 O hd=>?_) ?_
   .obtain⟨A,n',c,B,m,d,e,h1,h2⟩:=hd 1;simp only[slM,e];refine fld (λw=>fldR _ _ _ _ _ _ w) ?_;refine ρ ?_;exact Xk (Ext.refl _) h2
   refine gsc (λZ v1 O hd=>?_) ?_
   .have h2:RowsV v1 (Z 2) M:=hd 2;obtain⟨_,A,c,_,e,_⟩:=h2;simp only[slM,e];refine sl00 ?_;refine ρ ?_;exact Xk (Ext.refl _) ⟨A,rfl⟩
   refine gsc (λZ v1 O hd=>?_) ?_
   .simp only[slM];refine bsl (Qjf _ _ _) ?_;intro v2 b2 G aq br;refine ρ ?_;exact Xk G ⟨b2,rfl,br⟩
   refine gsc (λZ v1 O hd=>?_) ?_
   .obtain⟨A,e0⟩:=hd 3;obtain⟨b,e1,hk⟩:=hd 4;simp only[slM,e0,e1];refine ap00 Jjt (hk.rd (n:=1) rfl) (λu hu=>by rw[List.mem_singleton.1 hu];rfl) (by decide) (by decide) (by decide) ?_;intro v' v2 G ho;refine ρ ?_;exact Xk G (Qvm ho (bn.ext (O.trans G)))
   refine gsc (λZ v1 O hd=>?_) ?_
   .have h5:RowsV v1 (Z 5) [r]:=hd 5;obtain⟨fd,A,c,_,e,_⟩:=id h5;rw[e]at h5;simp only[slM,e];refine bld (Jwx _ _ _ _ _ _ _) ?_;refine ρ ?_;exact Xk (Ext.refl _) (agV (db O).1 h5)
   refine gsc (λZ v1 O hd=>?_) ?_
   .obtain⟨A,n',c,B,m,d,e,h1,h2⟩:=hd 6;simp only[slM,e];refine bsl (Jdv _ _ _ _ _ _) ?_;intro v2 b2 G aq br;refine ρ ?_;exact Xk G ⟨b2,A,n',c,B,m,d,rfl,br,h1.ext G,h2.ext G⟩
   refine gsc (λZ v1 O hd=>?_) gse
   obtain⟨b,A,n',c,B,m,d,e,hk,h1,h2⟩:=hd 7;simp only[slM,e];refine cl (Jbg (smL1 (vs:=bk S 32) (A:=[r]) ae (λv hv=>Yx hS (bk_mem.1 hv).2) (λy hy=>by rw[List.mem_singleton.1 hy];exact bo) (by simp)) (gxOne (a:=⟨bk S 32,[r]⟩) hk h1 h2) (by simp)) ?_;rintro u v2 ⟨y1,y2,fa,dx,rfl,e4,e5,_,_,G⟩;obtain⟨ev,er⟩:=Qhh (a:=⟨bk S 32,[r]⟩) (Yz S 32) (λy hy=>by rw[List.mem_singleton.1 hy];exact bo.1) (List.pairwise_singleton _ _) e5;have bf:=e4.here;rw[ev,er]at bf;refine ρ ?_;exact Xk G (agV bf.1 bf.2)
  intro Z v1 O hd;obtain⟨A1,n1,c1,B1,e3,d1,e1,bw,bv⟩:=hd 0;obtain⟨A2,n2,c2,B2,dz,d2,e2,bs,aq⟩:=hd 8;simp only[slM,e1,e2];refine Uj (fuel':=0) 20 [(1,14),(0,15)] #[true,true,true,true,true,true,true,true,true,true,true,true,true,true,true,true] kr kr rfl ?_;refine dcl (Jrf (a:=⟨bk S 32,M⟩) (b:=⟨bk S 32,[r]⟩) bw bv bs aq (smL2 ae (λv hv=>Yx hS (bk_mem.1 hv).2) av (λy hy=>by rw[List.mem_singleton.1 hy];exact bo) om (by simp)) (Yz S 32) rfl (List.pairwise_singleton _ _) (λy hy=>by rw[List.mem_singleton.1 hy];exact cm)) ?_;rintro u v2 ⟨rfl,G⟩;refine⟨G,?_⟩;refine ρd ?_;refine Uq ?_;refine Xg kr ?_;refine ρ ?_;exact Jf (i+1) sO ⟨om,aj.trans (a5.trans (O.trans G))⟩ om
 have fn:i=a2.length:=by have:=oF h;omega
 clear h;obtain⟨MA,mc,_,rfl,fm,fl,d9,_,em⟩:=id hM.el;obtain⟨OA,oc,_,rfl,fk,fj,d8,_,ek⟩:=id hO.el;have cp:(U.map raP).length=U.length:=List.length_map ..;have cq:(U.map atP).length=U.length:=List.length_map ..;have ca:=b5.trans ak;refine ρ ?_;rw[cp,cq];rw[cp]at d9;rw[cq]at d8;refine Jl (fun (k:Nat)=>[(2,.int .u32 (S:Int)),(7,.slice OA U.length oc),(11,.pointer (some ⟨ds,0,none⟩)),(85,.slice MA U.length mc),(86,.int .i64 (U.length:Int)),(87,.int .i64 (k:Int))])
  (λk w'=>k<=U.length/\Ext w8 w') (λk=>U.length-k) 0 sB ⟨Nat.zero_le _,Ext.refl _⟩ ?_
 rintro k w9 ⟨hk,ai⟩;have a6:=ca.trans ai;have et:=de.ext ai;have ep:=dd.ext ai;refine ρ ?_;refine ci (λh=>?_) (λh=>?_)
 .have lk:k<U.length:=by have:=oT h;omega
  clear h;obtain⟨ce,_,⟨v1,v2,rfl,b7⟩,b3⟩:=em k om;obtain⟨fw,_,⟨dw,rfl,bq⟩,cu⟩:=ek k om;have bz:=b7.here.1;have dj:=bq.here;have a1:U[k]∈U:=List.getElem_mem lk;have eh:(U.map raP)[k].vars=nz (U[k]).vs:=by simp[raP]
  have cz:(U.map atP)[k]=atP U[k]:=by simp
  have ea:=b7.here.2;rw[eh]at bz;rw[cz]at dj;generalize hga:U[k]=a at *
  obtain⟨D,dc,rfl,_⟩:=id bz;obtain⟨dk,GG,gc,_,rfl,_⟩:=id ea;have ad:=hC.asc a a1;have a7:∀ v∈a.vs,v<32:=λv hv=>by have:=hC.lt a a1 v hv;omega
  refine ρ ?_;refine ixq 2 k (d9.ext a6) lk ?_;refine ρ ?_;refine lds (cs:=[.slice D (nz a.vs).length dc,.slice GG dk.length gc]) (λj u hu=>Qp a6 (b3 j u hu)) ?_;refine ρ ?_;refine alc zRA ?_;intro du fy am cy dg;refine ρ ?_;refine stb (cs':=[.slice D (nz a.vs).length dc,.slice GG dk.length gc]) dg ?_ Jqz;intro dt di f5 cg;have ah:Ext w9 dt:=cg w9 am cy;refine ρ ?_;refine ldW di ?_;refine ρ ?_;refine cl (Qbb (bz.ext (a6.trans ah)) ad a7 rfl) ?_;rintro u f9 ⟨rfl,cd⟩;have az:Xf a.vs<4294967296:=Jym (n:=32) a7;have bt:=u32_and_nat (Xf a.vs) S az au;have a9:=ah.trans cd;refine ρ ?_;refine ci (λh=>?_) (λh=>?_)
  .refine ρ ?_;exact Jf (k+1) sO ⟨om,ai.trans a9⟩ om
  have ch:Xf a.vs &&& S=S:=by
   have h1:=h;rw[bt]at h1;simp at h1;omega
  have d3:∀ v,S.testBit v=true->v∈a.vs:=λv hv=>by
   have:=congrArg (λz=>z.testBit v) ch;simp only[Nat.testBit_and]at this;rw[hv,Bool.and_true]at this;exact setB_bit.1 this
  have b9:inS a.vs S=bk S 32:=Jwh ad a7 d3;have aa:=a6.trans a9;obtain⟨p1,p2,p3⟩:=dw;have cr:=hC.cnt a a1;have cw:a.rs.length<=65536:=om
  refine ρ ?_;refine ixq 3 k (d8.ext aa) lk ?_;refine ρ ?_;refine lds (cs:=[p1,p2,p3]) (λj u hu=>Qp aa (cu j u hu)) ?_;refine ρ ?_;refine cl (Qjw (vars:=a.vs) (rs:=a.rs) (dj.ext aa) au ad a7 (hC.len a a1) cw) ?_;rintro u c6 ⟨bj,t',rfl,P2,ed,f6,_,a4⟩;have a4:=a4 (.inl cr);have hP:=ed.here;rw[b9]at hP;obtain⟨y1,y2,y3⟩:=t';obtain⟨⟨Y1,bb,dn,_⟩,dm,bc,Y3,ba,f7,dl,_⟩:=id hP;simp only at dn dm dl;subst dn;subst dm;subst dl;have d6:∀ r∈P2,r.length=(bk S 32).length/\∀ y∈r,D4 y:=λr hr=>by
   obtain⟨y,hy,rfl⟩:=List.mem_map.1 ((a4.2 r).1 hr);refine⟨?_,λz hz=>?_⟩
   .have:=Kg a.vs S a.vs.length (nR _);rw[List.take_length,b9]at this;show(List.map _ (Qa a.vs S)).length=_;rw[List.length_map];exact this
   obtain⟨c,hc,rfl⟩:=List.mem_map.1 hz;have b3:c<y.length:=by rw[hC.len a a1 y hy];exact Jxx hc
   rw[List.getD,List.getElem?_eq_getElem b3];exact hC.d4 a a1 y hy _ (List.getElem_mem b3)
  have bm:=Qnn a1 ad a7 d3 a4 ax;refine ρ ?_;refine alc Vy ?_;intro f8 fx cb cx df;refine ρ ?_;refine stb (cs':=[.slice Y1 (nz (bk S 32)).length bb,.int .i64 ((bk S 32).length:Int),.slice Y3 bc.length ba]) df ?_ (Jxb rfl);intro ay dh f4 bi;have ac:Ext c6 ay:=bi c6 cb cx;have a5:Ext ay ay.drew:=(Ext.refl ay).drew;have bg:=a9.trans (bj.trans ac);have af:=bg.trans a5;have c4:=dh.ext a5;have c5:=et.ext af;have c0:=ep.ext af;have d5:=hP.ext (ac.trans a5);refine ρ ?_;refine drH (λ_=>false) ?_;refine Uj (fuel':=5) 20 [(0,0),(0,1),(0,2),(0,3),(0,5)] #[true,true,true,true,false,true,false,false,false,false] kr kr rfl ?_;refine ρd ?_;refine Qq (cs:=[.slice Y1 (nz (bk S 32)).length bb,.int .i64 ((bk S 32).length:Int),.slice Y3 bc.length ba]) (λj u hu=>c4.at hu) ?_;refine ρd ?_;refine Qq (cs:=[.slice E (atP ⟨bk S 32,M⟩).vars.length ec,.int .i64 ((atP ⟨bk S 32,M⟩).ar:Int),.slice F a8.length fc]) (λj u hu=>c5.at hu) ?_
  refine ρd ?_;refine Uq ?_;refine hmkS 20 3 _ #[true,true,true,true,true,true,true,false,false,false] [4,6] [111,113] [SF.ag (nz (bk S 32)) P2,SF.ag (nz (bk S 32)) M] kr (by rfl) ?_ ?_
  .refine gsc (λZ v1 O hd=>?_) ?_
   .simp only[slM];refine ρ ?_;refine cl (Jbz (t:=(.slice Y1 (nz (bk S 32)).length bb,.int .i64 ((bk S 32).length:Int),.slice Y3 bc.length ba)) (d5.ext O) (λr hr=>by have:=(d6 r hr).1;omega) (by show P2.length<=1100000;omega)) ?_;rintro u v2 ⟨z1,z2,rfl,be,bd,G⟩;refine ρ ?_;exact Xk G (agV be bd)
   refine gsc (λZ v1 O hd=>?_) gse
   simp only[slM];refine ρ ?_;refine cl (Jbz (t:=(.slice E (atP ⟨bk S 32,M⟩).vars.length ec,.int .i64 ((atP ⟨bk S 32,M⟩).ar:Int),.slice F a8.length fc)) (c0.ext O) (λr hr=>by have:=(av r hr).1;omega) (by show M.length<=1100000;omega)) ?_;rintro u v2 ⟨z1,z2,rfl,be,bd,G⟩;refine ρ ?_;exact Xk G (agV be bd)
  intro Z v1 O hd;obtain⟨A1,n1,c1,B1,e3,d1,e1,bw,bv⟩:=hd 0;obtain⟨A2,n2,c2,B2,dz,d2,e2,bs,aq⟩:=hd 1;simp only[slM,e1,e2];refine Uj (fuel':=0) 20 [(1,7),(0,8),(0,9)] #[true,true,true,true,true,true,true,true,true,true] kr kr rfl ?_;refine ρd ?_;refine dcl (Jrf (a:=⟨bk S 32,P2⟩) (b:=⟨bk S 32,M⟩) bw bv bs aq (smL2 ae (λv hv=>Yx hS (bk_mem.1 hv).2) d6 av om om) (Yz S 32) rfl ax.1 bm) ?_;rintro u v2 ⟨rfl,G⟩;refine⟨G,?_⟩;refine ρd ?_;refine Uq ?_;refine Xg kr ?_;refine ρ ?_;exact Jf (k+1) sO ⟨om,ai.trans (af.trans (O.trans G))⟩ om
 refine ρ ?_;refine cl (aw (an.trans a6)) ?_;rintro x du ⟨rfl,am⟩;refine ρ ?_;exact Jq ⟨rfl,am⟩
end Go.Proofs.YtebiphhfkdbpfaaGreat
namespace Go.Wk
open Go.RowKit Go.ChangeShapes Go.WideShapes
section
variable {H:Type} {enc:TypeId×Value->H} {P:Program} {w:World} {base:Nat} {spare:Nat->Bool} {held:Bool}
theorem rd_of{A:Option Addr}{sz len:Nat}{cs:List Value}{ad:Addr}(hA:A=some ad)(hl:cs.length=len*sz)(hc:∀ j u,cs[j]?=some u->w.cell? (ad.add j)=some u): Rd w sz A len cs :=
 ⟨hl,λh0=>⟨ad,hA,by
  have i:=hc 0 cs[0] (gE h0);rw[add_zero]at i;exact World.block_lt_of_cell? w ad i,hc⟩⟩
end
end Go.Wk
namespace Go.Proofs.YtebiphhfkdbpfaaGreat
open Go.RowKit Pl Go.Wk Go.ChangeShapes Go.WideShapes
variable {cs:List Value}{fuel n:Nat}{H α:Type}
theorem Qpx(d:DataW H): 1<=Rows.uptoBulk d:=by
 cases d with
 | lit l=>cases l<;>simp[Rows.uptoBulk]
 | nil=>simp[Rows.uptoBulk]
 | ptr d=>simp[Rows.uptoBulk]
 | slice elems spare=>simp[Rows.uptoBulk]
 | agg parts=>simp[Rows.uptoBulk]
 | iface t d=>simp[Rows.uptoBulk]
 | map entries=>simp[Rows.uptoBulk]
 | held h=>simp[Rows.uptoBulk]
theorem Qjc{d:DataW H}{l:List (DataW H)}(h:d∈l): Rows.uptoBulk d<=Rows.uptoBulkAll l:=by
 induction l with
 | nil=>cases h
 | cons x r ih=>
  simp only[Rows.uptoBulkAll];grind
theorem Qpz(l:List (DataW H)): l.length<=Rows.uptoBulkAll l:=by
 induction l with
 | nil=>simp[Rows.uptoBulkAll]
 | cons x r ih=>have:=Qpx x;simp only[Rows.uptoBulkAll,List.length_cons];omega
section
variable {H:Type} {enc:TypeId×Value->H} {P:Program} {w:World} {base:Nat} {spare:Nat->Bool} {held:Bool} {B:Nat}
theorem Jnd{t e sz:Nat}{x:DataW H×List MemPlace}(X:α->List Value)(R:α->Prop)(ht:P.underlying t=some (.slice e))(hc:P.cellsOf e=sz)(hb:Rows.uptoBulk x.1<=B)(hX:∀(n:Nat) (cs':List Value) (y:DataW H×List MemPlace),DataW.trod enc P w base spare held n e cs'=some y->Rows.uptoBulk y.1<=B->∃ z:α,cs'=X z/\R z)(h:DataW.trod enc P w base spare held fuel t cs=some x): ∃(l:List α) (A:Option Addr) (cap:Nat),cs=[.slice A l.length cap]/\Rd w sz A l.length (l.flatMap X)/\(∀ z∈l,R z)/\l.length<=cap/\l.length<=B:=by
 rcases Go.Deep.open_slice ht h with⟨F,_⟩|⟨a,len,cap,m,n,D,Pl,F,_,hl,hm,hmm,hx,hel⟩
 .exact⟨[],none,0,F,Rd.nil,(λz J=>by cases J),Nat.le_refl _,Nat.zero_le _⟩
 subst F;subst hx;have a3:len<=m:=by grind
 have U:Rows.uptoBulkAll ((List.range len).map D)<=B:=by
  simp only[Rows.uptoBulk]at hb;omega
 have a4:len<=B:=by
  have:=Qpz ((List.range len).map D);simp at this;omega
 have key:∀ k,k<=len->∃ l:List α,l.length=k/\(l.flatMap X).length=k*sz/\(∀ j u,(l.flatMap X)[j]?=some u->w.cell? (a.add j)=some u)/\∀ z∈l,R z:=by
  intro k;induction k with
  | zero=>intro _;exact⟨[],rfl,by simp,(λj u G=>by simp at G),(λz J=>by cases J)⟩
  | succ k ih=>
   intro hk;obtain⟨l,h1,h2,h3,h4⟩:=ih om;obtain⟨cs',i,O⟩:=hel k om;have a1:D k∈(List.range len).map D:=by grind
   obtain⟨z,rfl,J⟩:=hX n cs' _ O (nL (Qjc a1) U);rw[hc]at i;obtain⟨_,a2,Z⟩:=World.cells?_some i;refine⟨l++[z],by simp[h1],?_,?_,?_⟩
   .grind
   .intro j u G;rw[List.flatMap_append]at G;simp only[List.flatMap_cons,List.flatMap_nil,List.append_nil]at G;rcases Nat.lt_or_ge j (k*sz) with hj|hj
    .grind
    rw[List.getElem?_append_right om,h2]at G;have hb:j-k*sz<sz:=by grind
    have:=Z (j-k*sz) hb;rw[Jfh]at this;grind
   repeat grind
 obtain⟨l,h1,h2,h3,h4⟩:=key len (nR _);grind [rd_of]
theorem Qzr{t e:TypeId}{x:DataW H×List MemPlace}(ht:P.underlying t=some (.array 4 e))(hce:P.cellsOf e=1)(hct:P.cellsOf t=4)(h:DataW.trod enc P w base spare held fuel t cs=some x):
  ∃ c0 c1 c2 c3 y0 y1 y2 y3 n,cs=[c0,c1,c2,c3]/\DataW.trod enc P w base spare held n e [c0]=some y0/\DataW.trod enc P w base spare held n e [c1]=some y1/\DataW.trod enc P w base spare held n e [c2]=some y2/\DataW.trod enc P w base spare held n e [c3]=some y3:=by
 cases fuel with
 | zero=>simp[DataW.trod]at h
 | succ n=>
  unfold DataW.trod at h;rw[ht]at h;have i:List.range 4=[0,1,2,3]:=rfl;simp[i,hce,hct]at h;obtain⟨j,h⟩:=h;match cs,j with
  | [c0,c1,c2,c3],_=>
   simp at h;cases h0:DataW.trod enc P w base spare held n e [c0] with
   | none=>simp[h0]at h
   | some y0=>
    cases h1:DataW.trod enc P w base spare held n e [c1] with
    | none=>simp[h0,h1]at h
    | some y1=>
     cases h2:DataW.trod enc P w base spare held n e [c2] with
     | none=>simp[h0,h1,h2]at h
     | some y2=>
      cases h3:DataW.trod enc P w base spare held n e [c3] with
      | none=>simp[h0,h1,h2,h3]at h
      | some y3=>exact⟨c0,c1,c2,c3,y0,y1,y2,y3,n,rfl,h0,h1,h2,h3⟩
end
section
variable {H:Type} {enc:TypeId×Value->H} {w:World} {base b0:Nat} {spare:Nat->Bool} {held:Bool}
theorem Iq{n:Int}(h:0<=n/\n<=255): ∃ x:Nat,n=(x:Int)/\x<256:=⟨n.toNat,om,om⟩
theorem Qdg{y:DataW H×List MemPlace}(h:DataW.trod enc Tryz.prog w base spare held n 71 cs=some y): ∃ l:List Nat,cs=u8C l/\l.length=4/\∀ x∈l,x<256:=by
 obtain⟨c0,c1,c2,c3,y0,y1,y2,y3,n,rfl,f0,f1,f2,f3⟩:=Qzr Tryz.underlying71 kr kr h;obtain⟨a0,F,_,w0⟩:=DataW.trod_int Tryz.underlying5 f0;obtain⟨a1,D,_,w1⟩:=DataW.trod_int Tryz.underlying5 f1;obtain⟨a2,u,_,w2⟩:=DataW.trod_int Tryz.underlying5 f2;obtain⟨a3,j,_,Z⟩:=DataW.trod_int Tryz.underlying5 f3;simp at F D u j;subst F;subst D;subst u;subst j;obtain⟨U,rfl,l0⟩:=Iq (bounds_u8 w0);obtain⟨O,rfl,l1⟩:=Iq (bounds_u8 w1);obtain⟨J,rfl,l2⟩:=Iq (bounds_u8 w2);obtain⟨G,rfl,l3⟩:=Iq (bounds_u8 Z);exact⟨[U,O,J,G],rfl,rfl,λx i=>by
  simp only[List.mem_cons,List.not_mem_nil,or_false]at i;rcases i with rfl|rfl|rfl|rfl<;>assumption⟩
def Qqr(w:World)(cs:List Value)(a:LA): Prop:=LaC (λ_=>False) w cs a
theorem Qdj{y:DataW H×List MemPlace}(h:DataW.trod enc Tryz.prog w base spare held n 24 cs=some y)(hb:Rows.uptoBulk y.1<=1048576): ∃ a:LA,Qqr w cs a:=by
 obtain⟨j,m,_,hx,u,D,J⟩:=DataW.trod_struct Tryz.underlying24 h;have G:cs.length=3:=by rw[u];kernel_rfl
 match cs,G with
 | [c0,c1,c2],_=>
  have a1:j.length=3:=D;subst hx;have hB:∀ i (hi:i<j.length),Rows.uptoBulk j[i].1<=1048576:=λi hi=>by
   have O:j[i].1∈j.map (·.1):=by grind
   have h2:=Qjc O;simp only[Rows.uptoBulk]at hb;omega
  have f0:DataW.trod enc Tryz.prog w base spare held m 5 (([c0,c1,c2].drop 0).take (Tryz.prog.cellsOf 5))=j[0]?:=J 0 _ rfl;have f1:DataW.trod enc Tryz.prog w base spare held m 22 (([c0,c1,c2].drop 1).take (Tryz.prog.cellsOf 22))=j[1]?:=J 1 _ rfl;have f2:DataW.trod enc Tryz.prog w base spare held m 5 (([c0,c1,c2].drop 2).take (Tryz.prog.cellsOf 5))=j[2]?:=J 2 _ rfl;rw[show Tryz.prog.cellsOf 5=1 by kernel_rfl,List.getElem?_eq_getElem om]at f0 f2;rw[show Tryz.prog.cellsOf 22=1 by kernel_rfl,List.getElem?_eq_getElem om]at f1;obtain⟨n0,e0,_,w0⟩:=DataW.trod_int Tryz.underlying5 f0;obtain⟨n2,e2,_,w2⟩:=DataW.trod_int Tryz.underlying5 f2;obtain⟨l,A,Z,e1,g1,U,g3,g4⟩:=Jnd (sz:=4) u8C (λl=>l.length=4/\∀ x∈l,x<256) Tryz.underlying22 kr (hB 1 om) (λn a2 y hy _=>by obtain⟨l,O,h2⟩:=Qdg hy;exact⟨l,O,h2⟩) f1;simp at e0 e1 e2;subst e0;subst e1;subst e2;obtain⟨x0,rfl,l0⟩:=Iq (bounds_u8 w0)
  obtain⟨x2,rfl,l2⟩:=Iq (bounds_u8 w2);have ef:Jd (l.map λr=>(u8C r,r))=l.flatMap u8C:=by simp only[Jd,List.flatMap_map]
  have em:(l.map λr=>(u8C r,r)).map (·.2)=l:=by rw[List.map_map];exact List.map_id l
  have el:(l.map λr=>(u8C r,r)).length=l.length:=by simp
  have hG:=Jjh (sz:=4) (Φ:=U8R) (ps:=l.map λr=>(u8C r,r)) (c:=Z) (A:=A) (w:=w) (by rw[el,ef];exact g1) (by rw[el];exact g3) (by rw[el];omega) (λp hp=>by
   obtain⟨r,F,rfl⟩:=List.mem_map.1 hp;exact⟨by simp[u8C,(U r F).1],rfl,(U r F).1,(U r F).2⟩)
  rw[em,el]at hG;exact⟨⟨x0,l,x2⟩,l0,l2,_,rfl,hG⟩
def Qqq(w:World)(v:Value)(l:List LA): Prop:=GX 3 LaC (λ_=>False) w v l/\l.length<=1048576
theorem Qdh{v:Value}{d:DataW H}{p:List MemPlace}(hv:Value.okWide Tryz.prog w .any b0 31 v)(h:DataW.Trod enc Tryz.prog w base spare held 31 v d p)(hb:Rows.uptoBulk d<=1048576): ∃ l,Qqq w v l:=by
 obtain⟨a,len,a1,rfl⟩:=okWide_slice Tryz.underlying31 hv;obtain⟨D,J⟩:=h;obtain⟨l,A,F,i,Z,U,O,g4⟩:=Jnd (sz:=3) (λp:List Value×LA=>p.1) (λp=>p.1.length=3/\Qqr w p.1 p.2) Tryz.underlying31 kr hb (λn j y G hb=>by
  obtain⟨a,u⟩:=Qdj G om;refine⟨(j,a),rfl,?_,u⟩;obtain⟨_,_,v,e,_⟩:=u;rw[e];rfl) J
 injection i with i _
 injection i with i e2 e3
 subst i;subst e2;subst e3;exact⟨l.map (·.2),Jjh (sz:=3) (Φ:=LaC) Z O om U,by rw[List.length_map];omega⟩
end
open Go.RowKit Pl Go.Wk
theorem Qsf{w:World}{n z:Int}{v:Value}(hn:0<=n/\n<=255)(h:∃ l,Qqq w v l)(hz:0<=z/\z<=4294967295): Ret Tryz.prog 4 [.int .u8 n,v,.int .u32 z] w λu w'=>u=.bool true/\Ext w w':=by
 obtain⟨l,j,i⟩:=h;obtain⟨s,rfl⟩:∃ s:Nat,z=(s:Int):=⟨z.toNat,om⟩;obtain⟨m,rfl⟩:∃ s:Nat,n=(s:Int):=⟨n.toNat,om⟩;exact Qsg j i om om
end Go.Proofs.YtebiphhfkdbpfaaGreat
