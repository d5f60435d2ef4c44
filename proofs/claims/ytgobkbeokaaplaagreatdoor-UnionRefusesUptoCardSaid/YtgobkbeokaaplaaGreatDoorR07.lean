/- Part 7. -/
import Derived.Test.YtgobkbeokaaplaaGreatDoorR06
import Derived.ProofKit
import Derived.OpenShut
import Derived.ShutString
import Derived.ChangeOld
import Derived.Deep.Slices
import Derived.Deep.Fields
import Derived.Test.YtgobkbeokaaplaaGreatDoorRows
import Derived.LaidSub
import Derived.Lib.LaidTab
set_option linter.unusedVariables false
set_option maxRecDepth 100000
set_option maxHeartbeats 40000000
namespace Go.Proofs.YtgobkbeokaaplaaGreatDoor
open Go.RowKit Pl Go.Wk
attribute [local irreducible] WC WL QX WD WDB WP WN WG WH WM
variable {ds:List Bool}{F N m:Nat}{dv:Value}
theorem Xbr(hN:N<=32): bk (2^N-1) 32=List.range N:=by
 have key:∀ k,bk (2^N-1) k=List.range (min k N):=by
  intro k;induction k with
  | zero=>rfl
  | succ k ih=>
   grind [Ge,Nat.testBit_two_pow_sub_one,Nat.min_eq_left,List.range_succ,Nat.min_eq_right]
 grind
theorem Xqv{vars:Nat->List Nat}{rs:Nat->List Row}(hP:RefP N m vars rs){z:Row}(hz:z∈Zy m vars rs N): z.length=N:=((Jls hP.asc hP.len hP.lt hP.cov z).1 hz).1
section
variable {pA VA RA:Option Addr} {pn pc vc rc N m:Nat} {f:Int} {vars:Nat->List Nat} {rs:Nat->List Row} {w:World}
theorem Qpr(hP:RefP N m vars rs)(hM:RInM w VA RA m vars rs)(hN:N<=31):
  Ret Tryz.prog 102 [.agg (Vu (N:Int) f pA pn pc VA vc RA rc m).toArray] w λu w'=>RowsV w' u (Zy m vars rs N)/\Ext w w':=by
 refine enE Tryz.func102 Tryz.ntmps102 ?_;refine bxR (cs:=Vu (N:Int) f pA pn pc VA vc RA rc m) ?_;intro O b o Z G;refine Jh (cs:=Vu (N:Int) f pA pn pc VA vc RA rc m) (λj u D=>G.at D) ?_;refine ldR (G.at (i:=0) rfl) ?_;refine ρ ?_;refine Go.Wk.kv 6 (congrArg (λz=>Value.int .u64 z) (Kh (z:=(N:Int)) om)) ?_;refine Jtj (v:=N) om ?_;refine ρ ?_;have h1:1<=2^N:=Nat.pow_pos (by decide);have h2:=Ko (show N<32 by omega);have e:IntKind.u32.wrap (((2^N:Nat):Int)-1)=((2^N-1:Nat):Int):=by rw[IntKind.wrap_u32];omega
 refine Go.Wk.kv 8 (congrArg (λz=>Value.int .u32 z) e) ?_;refine cl (Qps hP (hM.ext o) om (Xbr om)) ?_;rintro u J ⟨D,C⟩;refine ρ ?_;exact Jj ⟨D,o.trans C⟩
theorem Qpv(hP:RefP N m vars rs)(hM:RInM w VA RA m vars rs)(hN:N<=31)(hF:F<=N)(hd:BoolsV w dv ds):
  Ret Tryz.prog 50 [.agg (Vu (N:Int) (F:Int) pA pn pc VA vc RA rc m).toArray,dv] w λu w'=>RowsV w' u (Jkk m vars rs N F ds)/\Ext w w'/\Fresh w u:=by
 have an:(Zy m vars rs N).length<=5000:=nL (Qzz hP.asc hP.len hP.cov) hP.cnt;refine enE Tryz.func50 Tryz.ntmps50 ?_;refine bxR (cs:=Vu (N:Int) (F:Int) pA pn pc VA vc RA rc m) ?_;intro w1 b G hb hB;refine Jh (cs:=Vu (N:Int) (F:Int) pA pn pc VA vc RA rc m) (λj u hu=>hB.at hu) ?_;refine clR (Qpr hP (hM.ext G) hN) ?_;rintro jv w2 ⟨hj,a3⟩;obtain⟨JA,jc,rfl,ao,am,ai,ac,ab⟩:=hj.parts;refine ρ ?_;refine Jo (fun (i:Nat) (Z:Value)=>[(1,dv),(2,.pointer (some ⟨b,0,none⟩)),(5,Z),(6,.slice JA (Zy m vars rs N).length jc),(7,.int .i64 (i:Int))])
  (λi Z w'=>i<=(Zy m vars rs N).length/\Ext w2 w'/\Fresh w2 Z/\RowsV w' Z ((((Zy m vars rs N).take i).map (List.take F)).foldl (Za ds) [])/\((((Zy m vars rs N).take i).map (List.take F)).foldl (Za ds) []).length<=i) (λi _=>(Zy m vars rs N).length-i) 0 (.slice none 0 0) sB
  ⟨Nat.zero_le _,Ext.refl _,(λad n c e=>by cases e),⟨[],none,0,rfl,rfl,Nat.le_refl _,Nat.zero_le _,Rd.nil,λp hp=>by cases hp⟩,Nat.le_refl _⟩ ?_
 rintro i Z w3 ⟨hi,C,J,O,ak⟩;have D:=a3.trans C;refine ciR (λh=>?_) (λh=>?_)
 .have li:i<(Zy m vars rs N).length:=by have:=oT h;omega
  clear h;obtain⟨xv,a7,a1⟩:=ab i li;obtain⟨z,hz⟩:∃ z,z=(Zy m vars rs N).getD i []:=⟨_,rfl⟩;have aj:z.length=N:=by grind [Xqv,getD_mem']
  rw[<-hz]at a1;obtain⟨XA,xc,rfl,ah,ag,aa⟩:=id a1;have o:Ext w3 w3.drew:=(Ext.refl w3).drew;have a4:=Jzq (ds:=ds) (((Zy m vars rs N).take i).map (List.take F)) (done:=[]) (l:=[]) ⟨List.Pairwise.nil,λx=>Iff.rfl⟩;refine ρ ?_;refine drN (λ_=>False) 10 (scq 11 [9]) kr ?_;have a5:=ac.ext (C.trans o);have ae:=(hB.ext D).ext o;refine ρn ?_;refine nix i a5 li ?_;refine ρn ?_;refine nld (λw' hg=>(a5.ext hg.toExt).cell a7) ?_;refine ρn ?_;refine nld (Jr (ae.at (i:=1) rfl) (λe=>e)) ?_;refine ρn ?_;refine nslh (A:=XA) (m:=z.length) (c:=xc) F ?_ om;refine ρn ?_;refine nop ?_;have a8:RowV w3.drew (.slice XA F xc) (z.take F):=by
   have hl:(z.take F).length=F:=by rw[List.length_take];omega
   refine⟨XA,xc,by rw[hl],by rw[hl];omega,by rw[hl];omega,?_⟩;have:=(Rd.ext aa (C.trans o)).take (m:=F) om;rw[Jhd z om]at this;grind
  refine cl (Qjs (O.ext o) a8 (hd.ext ((G.trans D).trans o)) a4.1 om) ?_;rintro a6 w4 ⟨h4,a2,af⟩;refine ρ ?_;refine Ju (GrN.ext a2) ?_;refine ρn ?_;have e:(((Zy m vars rs N).take (i+1)).map (List.take F)).foldl (Za ds) []=Za ds ((((Zy m vars rs N).take i).map (List.take F)).foldl (Za ds) []) (z.take F):=by grind [Qr]
  refine ρ ?_;refine Jf (i+1) a6 sO ⟨li,(C.trans o).trans a2,?_,by rw[e];exact h4,?_⟩ om
  .rcases af with h'|h'
   .rw[h'];exact J
   exactλad n c e=>nL (C.trans o).size (h' ad n c e)
  grind [Qrh,Zy,List.take,Za]
 have a9:i=(Zy m vars rs N).length:=by have:=oF h;omega
 rw[a9,List.take_length]at O;refine ρ ?_;exact Jj ⟨O,G.trans D,λad n c e=>nL (G.trans a3).size (J ad n c e)⟩
theorem Qpt(hP:RefP N m vars rs)(hM:RInM w VA RA m vars rs)(hN:N<=31)(hF:F<=N)(hd:BoolsV w dv ds):
  Ret Tryz.prog 50 [.agg (Vu (N:Int) (F:Int) pA pn pc VA vc RA rc m).toArray,dv] w λu w'=>RowsV w' u (Jkk m vars rs N F ds)/\Ext w w':=(Qpv hP hM hN hF hd).mono λu w' h=>⟨h.1,h.2.1⟩
end
open Go.RowKit Pl Go.Wk
def IntssV(w:World)(v:Value)(zss:List (List Int)): Prop:=∃ A c cs,v=.slice A zss.length c/\zss.length<=c/\zss.length<=1100000/\Rd w 1 A zss.length cs/\∀ i,i<zss.length->∃ u,cs[i]?=some u/\IntsV w u (zss.getD i [])
def RowssV(w:World)(v:Value)(rss:List (List Row)): Prop:=∃ A c cs,v=.slice A rss.length c/\rss.length<=c/\rss.length<=1100000/\Rd w 1 A rss.length cs/\∀ i,i<rss.length->∃ u,cs[i]?=some u/\RowsV w u (rss.getD i [])
theorem IntssV.ext{w w':World}{v:Value}{zss:List (List Int)}(h:IntssV w v zss)(hx:Ext w w'): IntssV w' v zss:=by
 obtain⟨A,c,cs,J,G,D,C,o⟩:=h;exact⟨A,c,cs,J,G,D,C.ext hx,λi hi=>by obtain⟨u,e,j⟩:=o i hi;exact⟨u,e,j.ext hx⟩⟩
theorem RowssV.ext{w w':World}{v:Value}{zss:List (List Row)}(h:RowssV w v zss)(hx:Ext w w'): RowssV w' v zss:=by
 obtain⟨A,c,cs,J,G,D,C,o⟩:=h;exact⟨A,c,cs,J,G,D,C.ext hx,λi hi=>by obtain⟨u,e,j⟩:=o i hi;exact⟨u,e,j.ext hx⟩⟩
structure Cse where
 n: Int
 f:Int
 ds:List Bool
 pm:List Int
 vs:List (List Int)
 rss:List (List Row)
def CseV(w:World)(cs:List Value)(c:Cse): Prop:=∃ dA dc pA pc vA vc rA rc,cs=[.int .i64 c.n,.int .i64 c.f,.slice dA c.ds.length dc,.slice pA c.pm.length pc,.slice vA c.vs.length vc,.slice rA c.rss.length rc] /\
 BoolsV w (.slice dA c.ds.length dc) c.ds/\IntsV w (.slice pA c.pm.length pc) c.pm/\IntssV w (.slice vA c.vs.length vc) c.vs/\RowssV w (.slice rA c.rss.length rc) c.rss/\(-9223372036854775808<=c.n/\c.n<=9223372036854775807)/\(-9223372036854775808<=c.f/\c.f<=9223372036854775807)
theorem CseV.ext{w w':World}{cs:List Value}{c:Cse}(h:CseV w cs c)(hx:Ext w w'): CseV w' cs c:=by
 obtain⟨Z,O,pA,pc,i,vc,j,rc,J,G,D,C,u,o⟩:=h;exact⟨Z,O,pA,pc,i,vc,j,rc,J,G.ext hx,D.ext hx,C.ext hx,u.ext hx,o⟩
structure FewP(c:Cse): Prop where
 row:∀ i,i<c.rss.length->(c.rss.getD i []).length<=10
 cnt:(Jg c.rss.length λi=>max 1 (c.rss.getD i []).length)<=5000
 n6:c.n<=6∨32<c.n
 v5:c.vs.length<=5
 r5:c.rss.length<=5
structure FewS(c:Cse): Prop where
 row:∀ i,i<c.rss.length->(c.rss.getD i []).length<=10
 cnt:(Jg c.rss.length λi=>max 1 (c.rss.getD i []).length)<=5000
 n6:c.n<=6
 v5:c.vs.length<=5
 r5:c.rss.length<=5
 v8:∀ i,i<c.vs.length->(c.vs.getD i []).length<=8
 d10:c.ds.length<=10
 p10:c.pm.length<=10
theorem Xkf{w:World}{cs:List Value}{c:Cse}(h:CseV w cs c): Ret Tryz.prog 10 [.agg cs.toArray] w λu w'=>Ext w w'/\∃ b:Bool,u=.bool b/\(b=true->FewP c)/\(FewS c->b=true):=by
 obtain⟨dA,dc,pA,pc,vA,vc,rA,rc,rfl,hD,hP,hV,hR,hn,hf⟩:=h;obtain⟨_,_,ad,e1,_,_,a1,ab⟩:=id hR;injection e1 with e1 e2 e3
 subst e1;subst e3;obtain⟨_,_,ac,e1,_,_,a6,aa⟩:=id hV;injection e1 with e1 e2 e3
 subst e1;subst e3;refine enE Tryz.func10 Tryz.ntmps10 ?_;refine bxR ?_;intro w1 b C hb G;refine ρ ?_;refine Jo (fun (i:Nat) (o:Nat)=>[(1,.pointer (some ⟨b,0,none⟩)),(2,.bool false),(3,.int .i64 (o:Int)),(4,.int .i64 (i:Int))])
  (λi o w'=>i<=6/\i<=c.rss.length/\w'=w1/\o=(Jg i λi=>max 1 (c.rss.getD i []).length)/\o<=10^i/\∀ j,j<i->(c.rss.getD j []).length<=10) (λi _=>6-i) 0 1 sB ⟨om,Nat.zero_le _,rfl,rfl,by simp,λj hj=>om⟩ ?_
 rintro i o w2 ⟨h6,hi,rfl,O,a5,a2⟩;refine ldR (G.at (i:=5) rfl) ?_;refine ρ ?_;refine Ve (fun (t:Bool)=>[(14,.bool t),(1,.pointer (some ⟨b,0,none⟩)),(2,.bool false),(3,.int .i64 (o:Int)),(4,.int .i64 (i:Int))]) (λt w3=>w3=w2/\(t=true↔i<c.rss.length/\i<6)) ?_ ?_
 .refine ki 11 (λh=>?_) (λh=>?_)
  .have:=oT h;refine ρ ?_;refine Jc (decide ((i:Int)<6)) sB ⟨rfl,?_⟩;rw[decide_eq_true_eq];omega
  have:=oF h;refine ρ ?_;refine Jc false sB ⟨rfl,?_⟩;grind
 rintro t w3 ⟨rfl,ht⟩;refine ciR (λh=>?_) (λh=>?_)
 .obtain⟨li,l6⟩:=ht.1 h;clear h;obtain⟨ru,a4,a9⟩:=ab i li;obtain⟨TA,tc,rfl,_,_,_⟩:=id (a9.ext C).parts;refine ldR (G.at (i:=5) rfl) ?_;refine ixR i (a1.ext C) li ?_;refine ldR ((a1.ext C).cell a4) ?_;refine ciR (λh=>?_) (λh=>?_)
  .refine ρ ?_;exact Jj ⟨C,false,rfl,λh=>(by cases h),λD=>by have h1:=D.row i li;grind⟩
  have ae:(c.rss.getD i []).length<=10:=by have:=oF h;omega
  clear h;refine ldR (G.at (i:=5) rfl) ?_;refine ixR i (a1.ext C) li ?_;refine ldR ((a1.ext C).cell a4) ?_;refine ρ ?_;have af:(if(1:Int)<((c.rss.getD i []).length:Int) then((c.rss.getD i []).length:Int) else 1)=((max 1 (c.rss.getD i []).length:Nat):Int):=by
   split<;>omega
  have a3:o<=100000:=nL a5 (Nat.pow_le_pow_right (by decide) (show i<=5 by omega));have ag:o*max 1 (c.rss.getD i []).length<=o*10:=Nat.mul_le_mul_left _ om;have e:IntKind.i64.wrap ((o:Int)*(if(1:Int)<((c.rss.getD i []).length:Int) then((c.rss.getD i []).length:Int) else 1))=((o*max 1 (c.rss.getD i []).length:Nat):Int):=by grind [Int.natCast_mul,Jjg]
  rw[e];refine Jf (i+1) (o*max 1 (c.rss.getD i []).length) sO ⟨om,om,rfl,?_,?_,λj hj=>?_⟩ om;repeat grind [Jg,Nat.pow_succ,Nat.mul_le_mul]
 have ah:¬ (i<c.rss.length/\i<6):=by grind
 clear h ht;refine ciR (λh=>?_) (λh=>?_)
 .refine ρ ?_;exact Jj ⟨C,false,rfl,λh=>(by cases h),λD=>by
   have h1:=D.cnt;have h2:=D.r5;grind⟩
 have a3:o<=5000:=by grind
 clear h;refine ρ ?_;refine Qs (fun (k:Nat)=>[(1,.pointer (some ⟨b,0,none⟩)),(2,.bool false),(5,.int .i64 (k:Int))])
  (λk w'=>k<=6/\k<=c.vs.length/\w'=w3) (λk=>6-k) 0 sB ⟨om,Nat.zero_le _,rfl⟩ ?_
 rintro k w4 ⟨k6,hk,rfl⟩;refine ldR (G.at (i:=4) rfl) ?_;refine ρ ?_;refine Ve (fun (t:Bool)=>[(43,.bool t),(1,.pointer (some ⟨b,0,none⟩)),(2,.bool false),(5,.int .i64 (k:Int))]) (λt w5=>w5=w4/\(t=true->k<c.vs.length/\k<6)) ?_ ?_
 .refine ki 40 (λh=>?_) (λh=>?_)
  .have:=oT h;refine ρ ?_;refine Jc (decide ((k:Int)<6)) sB ⟨rfl,?_⟩;rw[decide_eq_true_eq];omega
  refine ρ ?_;exact Jc false sB ⟨rfl,λh=>by cases h⟩
 rintro t w5 ⟨rfl,ht⟩;refine ciR (λh=>?_) (λh=>?_)
 .obtain⟨lk,l6⟩:=ht h;clear h;obtain⟨vu,a7,a8⟩:=aa k lk;obtain⟨QA,qc,rfl,_⟩:=id a8;refine ldR (G.at (i:=4) rfl) ?_;refine ixR k (a6.ext C) lk ?_;refine ldR ((a6.ext C).cell a7) ?_;refine ciR (λh=>?_) (λh=>?_)
  .refine ρ ?_;exact Jj ⟨C,false,rfl,λh=>(by cases h),λD=>by have h1:=D.v8 k lk;grind⟩
  refine ρ ?_;exact Qm (k+1) sO ⟨om,om,rfl⟩ om
 clear h ht;refine ldR (G.at (i:=0) rfl) ?_;refine ρ ?_;refine ki 56 (λh=>?_) (λh=>?_)
 .have hN:c.n<=6:=oT h;clear h;refine ldR (G.at (i:=4) rfl) ?_;refine ρ ?_;refine ki 67 (λh4=>?_) (λh4=>?_)
  .refine ldR (G.at (i:=5) rfl) ?_;refine ρ ?_;refine ki 73 (λh5=>?_) (λh5=>?_)
   .have r5:c.rss.length<=5:=by have:=oT h5;omega
    have v5:c.vs.length<=5:=by grind
    have ir:i=c.rss.length:=om
    have Z:FewP c:=⟨λj hj=>a2 j om,by rw[<-ir,<-O];exact a3,.inl hN,v5,r5⟩;refine ldR (G.at (i:=2) rfl) ?_;refine ρ ?_;refine ki 79 (λh6=>?_) (λh6=>?_)
    .refine ldR (G.at (i:=3) rfl) ?_;refine ρ ?_;exact Jj ⟨C,decide ((c.pm.length:Int)<=10),rfl,λ_=>Z,λD=>by have:=D.p10;grind⟩
    refine ρ ?_;exact Jj ⟨C,false,rfl,λh=>(by cases h),λD=>by have h1:=D.d10;grind⟩
   refine ρ ?_;exact Jj ⟨C,false,rfl,λh=>(by cases h),λD=>by have h1:=D.r5;grind⟩
  refine ρ ?_;exact Jj ⟨C,false,rfl,λh=>(by cases h),λD=>by have h1:=D.v5;grind⟩
 have J:¬ c.n<=6:=oF h;clear h;refine ldR (G.at (i:=0) rfl) ?_;refine ρ ?_;refine ki 61 (λh=>?_) (λh=>?_)
 .have hN:32<c.n:=oT h;clear h;refine ldR (G.at (i:=4) rfl) ?_;refine ρ ?_;refine ki 67 (λh4=>?_) (λh4=>?_)
  .refine ldR (G.at (i:=5) rfl) ?_;refine ρ ?_;refine ki 73 (λh5=>?_) (λh5=>?_)
   .have r5:c.rss.length<=5:=by have:=oT h5;omega
    have v5:c.vs.length<=5:=by grind
    have ir:i=c.rss.length:=om
    have Z:FewP c:=⟨λj hj=>a2 j om,by rw[<-ir,<-O];exact a3,.inr hN,v5,r5⟩;refine ldR (G.at (i:=2) rfl) ?_;refine ρ ?_;refine ki 79 (λh6=>?_) (λh6=>?_)
    .refine ldR (G.at (i:=3) rfl) ?_;refine ρ ?_;exact Jj ⟨C,decide ((c.pm.length:Int)<=10),rfl,λ_=>Z,λD=>absurd D.n6 J⟩
    refine ρ ?_;exact Jj ⟨C,false,rfl,λh=>(by cases h),λD=>absurd D.n6 J⟩
   refine ρ ?_;exact Jj ⟨C,false,rfl,λh=>(by cases h),λD=>absurd D.n6 J⟩
  refine ρ ?_;exact Jj ⟨C,false,rfl,λh=>(by cases h),λD=>absurd D.n6 J⟩
 refine ρ ?_;exact Jj ⟨C,false,rfl,λh=>(by cases h),λD=>absurd D.n6 J⟩
end Go.Proofs.YtgobkbeokaaplaaGreatDoor
namespace Go.Wk
open Go.RowKit
variable {b bytes d n t ty:Nat}
section
variable {α:Type} {E:TypeId} {sz base:Nat} {Φ:World->List Value->α->Prop} {N0:Nat->Prop} {w w':World} {v:Value} {ls:List α}
def OwnM(E:TypeId)(sz:Nat)(Φ:World->List Value->α->Prop)(N0:Nat->Prop)(w:World)(base:Nat)(v:Value)(ls:List α): Prop :=
 ∃ ps:List (List Value×α),ls=ps.map (·.2)/\w.ownsRow base E sz v ps.length (Qw ps)/\∀ p∈ps,p.1.length=sz/\Off (λk=>N0 k∨v.ownBlock=some k) w (λu=>Φ u p.1 p.2)
theorem OwnM.nil(w:World)(base:Nat): OwnM E sz Φ N0 w base (.slice none 0 0) []:=⟨[],rfl,Zd _ _ _ _,λp hp=>by cases hp⟩
theorem OwnM.gr(h:OwnM E sz Φ N0 w base v ls)(hg:GrN N0 w w')(hN:∀ g,v.ownBlock=some g->¬ N0 g): OwnM E sz Φ N0 w' base v ls:=by
 obtain⟨ps,u,o,i⟩:=h;exact⟨ps,u,Je o hg hN,λp hp=>⟨(i p hp).1,(i p hp).2.gr (hg.mono λk _ j=>.inl j)⟩⟩
theorem OwnM.ext(h:OwnM E sz Φ N0 w base v ls)(hx:Ext w w'): OwnM E sz Φ N0 w' base v ls:=by
 obtain⟨ps,o,j,i⟩:=h;exact⟨ps,o,Jk j hx,λp hp=>⟨(i p hp).1,(i p hp).2.ext hx⟩⟩
theorem OwnM.form(h:OwnM E sz Φ N0 w base v ls): ∃ A c,v=.slice A ls.length c/\ls.length<=c/\∀ g,v.ownBlock=some g->base<=g/\g<w.heap.size:=by
 obtain⟨ps,rfl,j,i⟩:=h;grind [Jb]
theorem OwnM.gv(h:OwnM E sz Φ N0 w base v ls)(hm:ls.length<=1100000): GV sz Φ w v ls:=by
 obtain⟨ps,rfl,j,i⟩:=h;obtain⟨A,c,rfl,o,u⟩:=Jb j;exact⟨ps,A,c,rfl,rfl,o,by simpa using hm,Rd.own j,λp hp=>⟨(i p hp).1,(i p hp).2.here⟩⟩
theorem apM{P:Program}{al:AL}{Q:Exit->Act->World->Prop}{ops:Array Oper}{rest:List Oper}{pos:String}{aft:Array Edge}{z:Value}(hE:ElT P t E sz bytes z){x y:Operand}{cs:List Value}{a:α}(ho:OwnM E sz Φ N0 w base v ls)(hb:Blk w b E cs)(hl:cs.length=sz)(h1:∀ u∈cs,u.oneCell'=true)(hΦ:Off (λk=>N0 k∨v.ownBlock=some k) w (λu=>Φ u cs a))(hm:ls.length<=1100000)(hby:bytes<=128)(hbase:base<=w.heap.size)(kk:∀ v' w',OwnM E sz Φ N0 w' base v' (ls++[a])->w.grownBy w' v.ownBlock->(∀ g,v'.ownBlock=some g->v.ownBlock=some g∨w.heap.size<=g)->WL P n ops Q rest ((d,v')::al) w')(hx:ev al x=some v:=by rfl)(hy:ev al y=some (.slice (some ⟨b,0,none⟩) 1 1):=by rfl)(hd:Nat.blt d n=true:=by rfl):
  WL P n ops Q (⟨some d,.call { callee:=.builtin .append,args:=#[x,y],argTypes:=#[t,t] },ty,pos,aft,none⟩::rest) al w:=by
 obtain⟨ps,e,Z,hp⟩:=ho;have O:ps.length<=1100000:=by rw[e,List.length_map]at hm;exact hm
 have a1:(ps.length+1)*bytes<=1100001*128:=Nat.mul_le_mul om hby;refine apb hE Z (hb.rd (n:=1) om) h1 (by unfold maxLen;omega) om hbase ?_ hx hy hd;intro v' w' J D C;have j:∀ {Ψ:World->Prop},Off (λk=>N0 k∨v.ownBlock=some k) w Ψ->Off (λk=>N0 k∨v'.ownBlock=some k) w' Ψ:=fun {Ψ} h W hW=>by
  refine h W ?_;have h1:GrN (λk=>(N0 k∨v.ownBlock=some k)∨w.heap.size<=k) w W:=(GrN.by D λk o=>.inl (.inr o)).trans (hW.mono λk _ o=>by
   rcases o with o|o
   .exact .inl (.inl o)
   rcases C k o with i|i
   .exact .inl (.inr i)
   exact .inr i)
  exact h1.mono λk o h=>h.elim id λi=>by omega
 refine kk v' w' ⟨ps++[(cs,a)],by rw[e];simp,?_,λp G=>?_⟩ D C
 .have e2:Qw (ps++[(cs,a)])=Qw ps++cs:=by simp[Qw]
  rw[List.length_append,e2];exact J
 rcases List.mem_append.1 G with i|i
 .exact⟨(hp p i).1,j (hp p i).2⟩
 rw[List.mem_singleton.1 i];exact⟨hl,j hΦ⟩
end
end Go.Wk
namespace Go.Proofs.YtgobkbeokaaplaaGreatDoor
open Go.RowKit Pl Go.Wk
attribute [local irreducible] WC WL QX WD WDB WP WN WG WH WM
theorem Vm: Qu Tryz.prog 33=some (.agg #[.int .i64 0,.int .i64 0,.slice none 0 0,.slice none 0 0,.slice none 0 0]):=kr
theorem Xbb(n f:Int)(A B:Option Addr)(a a' b b':Nat)(w:World): (Instr.build 33 #[(0,.int .i64 n),(1,.int .i64 f),(2,.slice A a a'),(3,.slice B b b')]).run Tryz.prog w=.ok (.agg #[.int .i64 n,.int .i64 f,.slice A a a',.slice B b b',.slice none 0 0]) w:=kr
structure MkA(a:Atm)(zs:List Int)(rows:List Row): Prop where
 vars:a.vars=zs
 ar:a.ar=zs.length
 l32:zs.length<=32
 ok:∀ r∈rows,r.length=zs.length/\r.all Xl=true
 len:a.rows.length<=65536
 sub:∀ x∈a.rows,x∈rows
 set:rows.length<=12->Zn [] rows a.rows
structure MkS(c:Cse): Prop where
 len:c.vs.length=c.rss.length
 l32:∀ i,i<c.vs.length->(c.vs.getD i []).length<=32
 ok:∀ i,i<c.vs.length->∀ r∈c.rss.getD i [],r.length=(c.vs.getD i []).length/\r.all Xl=true
 row:∀ i,i<c.vs.length->(c.rss.getD i []).length<=65536
theorem Xjr{w0 w:World}{cs:List Value}{c:Cse}(h:CseV w0 cs c)(h00:Ext w0 w): Ret Tryz.prog 9 [.agg cs.toArray] w λu w'=>Ext w w'/\∃(dA pA aA:Option Addr) (dc pc ac an:Nat) (ok:Bool),u=.tuple #[.agg #[.int .i64 c.n,.int .i64 c.f,.slice dA c.ds.length dc,.slice pA c.pm.length pc,.slice aA an ac],.bool ok] /\
  BoolsV w0 (.slice dA c.ds.length dc) c.ds/\IntsV w0 (.slice pA c.pm.length pc) c.pm/\(ok=true->c.vs.length=c.rss.length/\∃ ats:List Atm,ats.length=c.vs.length/\Off (λk=>w0.heap.size<=k/\k<w.heap.size) w' (λu=>GV 3 AtG u (.slice aA an ac) ats)/\∀ i,i<c.vs.length->MkA (ats.getD i a0) (c.vs.getD i []) (c.rss.getD i []))/\(MkS c->ok=true):=by
 obtain⟨dA,dc,pA,pc,vA,vc,rA,rc,rfl,hD,hP,d4,hR,hn,hf⟩:=h;have hV:=d4;obtain⟨_,_,cv,e1,_,di,cg,cd⟩:=id hR;injection e1 with e1 e2 e3
 subst e1;subst e3;obtain⟨_,_,de,e1,_,dh,cc,d3⟩:=id hV;injection e1 with e1 e2 e3
 subst e1;subst e3;have d6:=cg.ext h00;have bj:=cc.ext h00;have d5:∀ i,i<c.rss.length->∃ u,cv[i]?=some u/\RowsV w u (c.rss.getD i []):=λi hi=>by obtain⟨u,e,hu⟩:=cd i hi;exact⟨u,e,hu.ext h00⟩
 refine enE Tryz.func9 Tryz.ntmps9 ?_;refine bxR ?_;intro w1 b aa hb hB;refine Jw Vm ?_;intro w2 b2 aw bi cq;have ab:=hB.ext aw;refine ldR (ab.at (i:=0) rfl) ?_;refine ldR (ab.at (i:=1) rfl) ?_;refine ldR (ab.at (i:=2) rfl) ?_;refine ldR (ab.at (i:=3) rfl) ?_;refine Xh (Xbb _ _ _ _ _ _ _ _ _) ?_;refine Jw Vm ?_;intro w3 G cy c5 da;refine Qg da ?_;intro w4 a8 du cx;have ae:Ext w2 w4:=cx w2 cy c5;have a2:=(aa.trans aw).trans ae;have c6:¬ b=G:=λe=>by have:=ab.lt;omega
 have az:¬ b2=G:=λe=>by have:=cq.lt;omega
 have b9:=ab.ext ae;have ap:=cq.ext ae;refine ρ ?_;refine Jo (fun (i:Nat) (av:Value)=>[(1,.pointer (some ⟨b,0,none⟩)),(2,.pointer (some ⟨b2,0,none⟩)),(3,.bool false),(4,.pointer (some ⟨G,0,none⟩)),(5,.int .i64 (i:Int))])
  (λi av w'=>i<=c.vs.length/\i<=c.rss.length/\GrN (λk=>k=G) w4 w'/\Blk w' G 33 [.int .i64 c.n,.int .i64 c.f,.slice dA c.ds.length dc,.slice pA c.pm.length pc,av]/\∃ ats:List Atm,ats.length=i/\OwnM 134 3 AtG (λk=>(k=b2∨k=G)∨(w0.heap.size<=k/\k<w.heap.size)) w' w4.heap.size av ats/\∀ j,j<i->MkA (ats.getD j a0) (c.vs.getD j []) (c.rss.getD j [])) (λi _=>c.vs.length-i) 0 (.slice none 0 0) sB
  ⟨Nat.zero_le _,Nat.zero_le _,GrN.refl _ _,a8,[],rfl,OwnM.nil _ _,λj hj=>om⟩ ?_
 rintro i av w5 ⟨dn,dq,ah,am,ats,c8,aj,hmk⟩;have a1:=Jy b9 ah c6;have ao:=Jy ap ah az;have au:Ext w w5:=ah.old a2 λk o=>by rw[o];have:=(aa.trans aw).size;omega
 refine ldR (a1.at (i:=4) rfl) ?_;refine ρ ?_;refine Ve (fun (t:Bool)=>[(28,.bool t),(1,.pointer (some ⟨b,0,none⟩)),(2,.pointer (some ⟨b2,0,none⟩)),(3,.bool false),(4,.pointer (some ⟨G,0,none⟩)),(5,.int .i64 (i:Int))]) (λt w6=>w6=w5/\(t=true↔i<c.vs.length/\i<c.rss.length)) ?_ ?_
 .refine ki 22 (λh=>?_) (λh=>?_)
  .have:=oT h;refine ldR (a1.at (i:=5) rfl) ?_;refine ρ ?_;refine Jc (decide ((i:Int)<(c.rss.length:Int))) sB ⟨rfl,?_⟩;rw[decide_eq_true_eq];omega
  have:=oF h;refine ρ ?_;refine Jc false sB ⟨rfl,?_⟩;constructor
  .intro h;cases h
  omega
 rintro t w6 ⟨rfl,ht⟩;refine ciR (λh=>?_) (λh=>?_)
 .obtain⟨lv,lr⟩:=ht.1 h;clear h;obtain⟨vu,bo,bp⟩:=d3 i lv;obtain⟨ru,cz,bb⟩:=d5 i lr;obtain⟨QA,qc,rfl,dk,dj,dl⟩:=id bp;have D:Ext w6 w6.drew:=(Ext.refl w6).drew;have J:=au.trans D;have cm:=a1.ext D;have cb:=bj.ext J;have ce:=d6.ext J;obtain⟨TA,tc,rfl,_,_,_⟩:=id (bb.ext J).parts;refine ρ ?_;refine drH (λi=>Nat.ble 16 i) ?_;refine Zr (fuel':=7) 8 [(0,0),(0,1),(0,2),(0,3),(0,4),(0,5),(0,6),(0,7),(0,8),(0,9),(0,10)] (lst 18 11) kr kr rfl ?_;refine Jz (cm.at (i:=4) rfl) ?_;refine Jd i cb lv ?_;refine Jz (cb.cell bo) ?_;refine Jz (cm.at (i:=5) rfl) ?_;refine Jd i ce lr ?_;refine Jz (ce.cell cz) ?_;refine ρd ?_;refine Xa ?_;refine Jvl 2 (lst 18 16) (fun (q:Value×Int×Nat)=>[(44,q.1),(45,.int .i64 q.2.1),(6,.pointer (some ⟨q.2.2,0,none⟩)),(1,.pointer (some ⟨b,0,none⟩)),(2,.pointer (some ⟨b2,0,none⟩)),(3,.bool false),(4,.pointer (some ⟨G,0,none⟩)),(5,.int .i64 (i:Int))])
   (λq W=>Ext w6.drew W/\Blk W q.2.2 130 [.int .i64 0,.slice none 0 0]/\w6.drew.heap.size<=q.2.2/\(∃ z B m d,q.1=.agg #[.int .i64 z,.slice B m d])/\((c.vs.getD i []).length<=32->(∀ r∈c.rss.getD i [],r.length=(c.vs.getD i []).length/\r.all Xl=true)->(c.rss.getD i []).length<=65536->q.2.1=0) /\
    (q.2.1=0->(c.vs.getD i []).length<=32/\(∀ r∈c.rss.getD i [],r.length=(c.vs.getD i []).length/\r.all Xl=true)/\∃ m,Off (λk=>k<w6.drew.heap.size∨k=q.2.2) W (λu=>RelV u q.1 (c.vs.getD i []).length m)/\m.length<=65536/\(∀ x∈m,x∈c.rss.getD i [])/\(((c.rss.getD i []).length<=12∨Srt [] (c.rss.getD i []))->Zn [] (c.rss.getD i []) m))) ?_ ?_
  .rintro⟨rv,e,b6⟩ W ⟨cw,co,c4,⟨z,B,mm,dd,cr⟩,O,Z⟩;simp only at co c4 O Z cr;subst cr;refine Zr (fuel':=0) 8 [(2,16),(2,17)] (lst 18 18) kr kr rfl ?_;refine Qv ?_;refine stb (cs':=[.int .i64 z,.slice B mm dd]) co ?_ Uw;intro W2 cn bz bn;refine Jl (Xz ?_);refine Qv ?_;refine ρ ?_;refine Xz ?_;refine Iw (Xa ?_);refine Yx kr ?_;have C:Ext w6 W2:=bn w6 (D.trans cw) (nL D.size c4);have bg:GrN (λk=>k=b6) W W2:=GrN.by bz λk o=>by injection o with o;exact o.symm
   have b7:=am.ext C;refine ciR (λh=>?_) (λh=>?_)
   .refine Ja b7 ?_;obtain⟨AA,ac,aq,_,_⟩:=aj.form;subst aq;refine Qg (ao.ext C) ?_;intro W3 bl c2 ad;have ba:Ext w W3:=ad w (au.trans C) (nL aa.size bi);refine ρ ?_;exact Zk bl ⟨ba,dA,pA,AA,dc,pc,ac,ats.length,false,rfl,hD,hP,λh=>(by cases h),λhS=>absurd (O (hS.l32 i lv) (hS.ok i lv) (hS.row i lv)) (Yh h)⟩
   have he:e=0:=Uv h;clear h;obtain⟨bq,br,m,bs,d1,be,bf⟩:=Z he;have bd:=bs.gr (bg.mono λk _ o=>(.inr o:k<w6.drew.heap.size∨k=b6));obtain⟨AA,ac,aq,ca,a4⟩:=aj.form;subst aq;have ag:∀ g,(Value.slice AA ats.length ac).ownBlock=some g->w4.heap.size<=g:=λg e=>(a4 g e).1;have a3:Ext W2 W2.drew:=(Ext.refl W2).drew;have b5:=b7.ext a3;have cj:=(aj.ext C).ext a3;have af:Ext w W2.drew:=(au.trans C).trans a3;have d8:=(a1.ext C).ext a3;have cp:=cn.ext a3;obtain⟨dg,_,d0,_⟩:=id cj;have n4:¬ (Value.slice AA ats.length ac).ownBlock=some G:=λe=>by have:=ag G e;have:=a8.lt;omega
   have n1:¬ (Value.slice AA ats.length ac).ownBlock=some b:=λe=>by have:=ag b e;have:=b9.lt;omega
   have n6:¬ (Value.slice AA ats.length ac).ownBlock=some b6:=λe=>by have:=(a4 b6 e).2;have:=D.size;omega
   have d7:∀ {W'},GrN (λk=>(Value.slice AA ats.length ac).ownBlock=some k) W2.drew W'->Ext w W':=λhg=>hg.old af λk o=>by have:=ag k o;have:=a2.size;omega
   refine ρ ?_;refine drN (λk=>(Value.slice AA ats.length ac).ownBlock=some k) 10 (scq 13 [9,10,112]) kr ?_;refine ρn ?_;refine nld (Jr (b5.at (i:=4) rfl) n4) ?_;refine ρn ?_;refine nld (Jr (d8.at (i:=4) rfl) n1) ?_;refine ρn ?_;refine nix i (bj.ext af) lv ?_;refine ρn ?_;refine nld (λw' hg=>(bj.ext (d7 hg)).cell bo) ?_;refine ρn ?_;refine Zh (cs:=[.int .i64 z,.slice B mm dd]) (λw' hg j u hu=>(Jy cp hg n6).at hu) ?_;refine ρn ?_;refine Jjb (λw=>Jdt _ _ _ _ _ _ _ w) ?_;refine ρn ?_;refine nop ?_;refine bsl (λw=>Jyd _ _ _ QA B _ qc _ dd _ rfl rfl rfl w) ?_;intro W3 b8 a5 dx d9;refine ρ ?_;refine Ju (GrN.ext a5) ?_;refine nop ?_;have bc:=(bd.ext a3).ext a5;have hΦ:Off (λk=>((k=b2∨k=G)∨(w0.heap.size<=k/\k<w.heap.size))∨(Value.slice AA ats.length ac).ownBlock=some k) W3 (λu=>AtG u [.slice QA (c.vs.getD i []).length qc,.int .i64 z,.slice B mm dd] ⟨c.vs.getD i [],(c.vs.getD i []).length,m⟩):=by
    intro W' c3;have h1:IntsV W' (.slice QA (c.vs.getD i []).length qc) (c.vs.getD i []):=bp.ext (c3.old (h00.trans (af.trans a5)) λk o=>by
     rcases o with((o|o)|o)|o
     .rw[o];exact nL (h00.trans aa).size bi
     .rw[o];exact nL (h00.trans (aa.trans aw)).size c5
     .exact o.1
     have:=ag k o;have:=(h00.trans a2).size;omega)
    obtain⟨df,er,h2⟩:=bc W' (c3.mono λk _ o=>.inl (by
     rcases o with((o|o)|o)|o
     .have:=ao.lt;have:=D.size;omega
     .have:=am.lt;have:=D.size;omega
     .have:=J.size;omega
     have:=(a4 k o).2;have:=D.size;omega))
    have bm:=congrArg (λv:Value=>match v with | .agg xs=>xs.toList|_=>[]) er;simp only[List.cons.injEq,Value.int.injEq,true_and,and_true]at bm;refine⟨(.slice QA (c.vs.getD i []).length qc,.int .i64 z,.slice B mm dd),rfl,h1,?_,?_⟩
    .simp only;rw[bm.1]
    simp only;rw[bm.2];exact h2
   refine apM EA (Φ:=AtG) (cj.ext a5) d9 rfl (Ij rfl) hΦ om om (nL ah.size (nL (C.trans a3).size a5.size)) ?_;intro a7 W4 ck c1 dm;refine ρ ?_;refine Ju (GrN.by c1 λk o=>o) ?_;have ay:GrN (λk=>(Value.slice AA ats.length ac).ownBlock=some k) W3 W4:=GrN.by c1 λk o=>o
   have ak:=Jy (b5.ext a5) ay n4;obtain⟨A9,c9,db,dw,c7⟩:=ck.form;refine ρn ?_;refine Xu ?_;refine sto (ak.at (i:=4) rfl) (ak.frozen 4) ?_ (hv:=by rw[db];rfl);have ai:GrN (λk=>k=G) W4 (W4.setCell ((⟨G,0,none⟩:Addr).add 4) a7):=GrN.set _ rfl;have b3:Blk (W4.setCell ((⟨G,0,none⟩:Addr).add 4) a7) G 33 [.int .i64 c.n,.int .i64 c.f,.slice dA c.ds.length dc,.slice pA c.pm.length pc,a7]:=ak.set 4 _;have b1:OwnM 134 3 AtG (λk=>(k=b2∨k=G)∨(w0.heap.size<=k/\k<w.heap.size)) (W4.setCell ((⟨G,0,none⟩:Addr).add 4) a7) w4.heap.size a7 (ats++[⟨c.vs.getD i [],(c.vs.getD i []).length,m⟩]):=ck.gr (ai.mono λk _ h=>.inl (.inr h)) λg eg e=>by have:=(c7 g eg).1;have:=a8.lt;have:=ap.lt;have:=a2.size;rcases e with(e|e)|e<;>omega
   generalize (W4.setCell ((⟨G,0,none⟩:Addr).add 4) a7)=W5 at ai b3 b1
   have d2:GrN (λk=>k=G) w4 W5:=by
    have h1:GrN (λk=>k=G∨w4.heap.size<=k) w4 W5:=(((ah.mono λk _ h=>(.inl h:k=G∨w4.heap.size<=k)).trans (GrN.ext ((C.trans a3).trans a5))).trans (ay.mono λk _ h=>.inr (ag k h))).trans (ai.mono λk _ h=>.inl h);exact h1.mono λk o h=>h.elim id λh'=>by omega
   refine Jl (Uu ?_);refine ρn ?_;refine ρ ?_;refine Jf (i+1) a7 sO ⟨om,om,d2,b3,_,by rw[List.length_append,c8];rfl,b1,λj hj=>?_⟩ om;by_cases ej:j=i
   .subst ej;have:(ats++[(⟨c.vs.getD j [],(c.vs.getD j []).length,m⟩:Atm)]).getD j a0=⟨c.vs.getD j [],(c.vs.getD j []).length,m⟩:=by simp[List.getD,<-c8]
    rw[this];exact⟨rfl,rfl,bq,br,d1,be,λh=>bf (.inl h)⟩
   have:(ats++[(⟨c.vs.getD i [],(c.vs.getD i []).length,m⟩:Atm)]).getD j a0=ats.getD j a0:=by simp[List.getD,List.getElem?_append_left (show j<ats.length by omega)]
   rw[this];exact hmk j om
  intro rest;refine htwo 11 15 kr rfl rfl rfl ?_ ?_
  .refine clR (Jbr (ar:=(c.vs.getD i []).length) (bb.ext J)) ?_;rintro u W ⟨hy,rv,e,rfl,a6,O,Z⟩;refine Jl (Jcn hy ?_);refine Zr (fuel':=4) 8 [(0,12),(0,13)] (lst 18 14) kr kr rfl ?_;refine ρd ?_;refine Xa ?_;refine Gn (fuel':=3) 14 kr kr rfl rfl ?_;refine ρp ?_;refine ρd ?_;refine Xa ?_;refine Zr (fuel':=2) 8 [(1,15)] (lst 18 16) kr kr rfl ?_;refine dalc' (cs:=[.int .i64 0,.slice none 0 0]) Kz ?_;intro W2 b6 a9 bh ax;refine Iw (Xa ?_);refine rest (rv,e,b6) _ _ ⟨hy.trans a9,ax,Nat.le_trans hy.size bh,a6,O,λhe=>?_⟩ sB;obtain⟨q1,q2,m,q3,q4,q5,q6⟩:=Z he;exact⟨q1,q2,m,(q3.mono λk o h=>h.elim id fun (h:k=b6)=>om).ext a9,q4,q5,q6⟩
  refine Jw Kz ?_;intro W b6 hy bh ax;refine Jl (Jcn hy ?_);refine Zr (fuel':=3) 8 [(1,11),(0,12),(0,13)] ((lst 18 14).setIfInBounds 15 true) kr kr rfl ?_;refine Qq (Jbr (ar:=(c.vs.getD i []).length) (bb.ext (J.trans hy))) ?_;rintro u W2 ⟨a9,rv,e,rfl,a6,O,Z⟩;refine⟨a9,?_⟩;refine ρd ?_;refine Xa ?_;refine Gn (fuel':=2) 14 kr kr rfl rfl ?_;refine ρp ?_;refine ρd ?_;refine Xa ?_;refine hlist (listed':=lst 18 16) kr ?_;refine rest (rv,e,b6) _ _ ⟨hy.trans a9,ax.ext a9,bh,a6,O,λhe=>?_⟩ sB;obtain⟨q1,q2,m,q3,q4,q5,q6⟩:=Z he;refine⟨q1,q2,m,q3.mono λk o h=>?_,q4,q5,q6⟩;have:=ax.lt;have:=hy.size;rcases h with h|(h:k=b6)<;>omega
 have dv:¬ (i<c.vs.length/\i<c.rss.length):=λh'=>by have:=ht.2 h';rw[h]at this;cases this
 clear h ht;obtain⟨AA,ac,aq,ca,a4⟩:=aj.form;subst aq;have D:Ext w6 w6.drew:=(Ext.refl w6).drew;refine ρ ?_;have n2:¬ b=b2:=λe=>by have:=hB.lt;omega
 refine drN (λk=>k=b2) 10 (scq 10 [8]) kr ?_;refine ρn ?_;refine Zh (cs:=[.int .i64 c.n,.int .i64 c.f,.slice dA c.ds.length dc,.slice pA c.pm.length pc,.slice AA ats.length ac]) (λw' hg j u hu=>(Jy (am.ext D) hg (λe=>az e.symm)).at hu) ?_;refine ρn ?_;refine nld (Jr ((a1.ext D).at (i:=4) rfl) n2) ?_;refine ρn ?_;refine nld (Jr ((a1.ext D).at (i:=5) rfl) n2) ?_;refine ρn ?_;refine nop ?_;refine stW (ao.ext D) ?_;intro W3 bl c2 ad;have ba:Ext w W3:=ad w (au.trans D) (nL aa.size bi);have bw:GrN (λk=>k=b2) w6.drew W3:=GrN.by c2 λk o=>by injection o with o;exact o.symm
 refine Jl (Ju bw ?_);refine ρn ?_;refine ρ ?_;refine Zk bl ⟨ba,dA,pA,AA,dc,pc,ac,ats.length,((c.vs.length:Int) == (c.rss.length:Int)),rfl,hD,hP,λh=>?_,λhS=>by rw[hS.len];exact beq_self_eq_true _⟩;have he:c.vs.length=c.rss.length:=by have:=Zv h;omega
 have dt:i=c.vs.length:=om
 refine⟨he,ats,om,?_,λj hj=>hmk j om⟩;have ch:∀ g,(Value.slice AA ats.length ac).ownBlock=some g->¬ ((g=b2∨g=G)∨(w0.heap.size<=g/\g<w.heap.size)):=λg eg e=>by have:=(a4 g eg).1;have:=a8.lt;have:=ap.lt;have:=a2.size;rcases e with(e|e)|e<;>omega
 intro W hW;exact(((aj.ext D).gr (bw.mono λk _ h=>.inl (.inl h)) ch).gr (hW.mono λk _ h=>.inr h) ch).gv om
end Go.Proofs.YtgobkbeokaaplaaGreatDoor
namespace Go.Proofs.YtgobkbeokaaplaaGreatDoor
open Pl Go.Wk
noncomputable def BBx(tot n f:Nat)(kf:Nat->Nat)(pf:Nat->Int)(R:Nat->List Row)(ds:List Bool)(pl:Nat->Nat)(u:Nat): List BkT:=if u<f then(if tot=0 then[] else BBo n f kf pf R ds pl u) else[]
section
variable {n f m:Nat} {es perm:List Nat} {vars:Nat->List Nat} {rs:Nat->List Row} {kf:Nat->Nat} {pf:Nat->Int} {R:Nat->List Row} {ds:List Bool} {ats:List Atm} {tot:Nat} {L:List Row} {BB:Nat->List BkT}
theorem Qll(hat:ats.length=m)(hae:∀ i,i<m->(ats.getD i a0).rows=rs i){T:Nat->Row->Nat}: Vo n pf T ats≠0↔(∀ i,i<m->rs i≠[])/\∀ v,v<n->pf v = -1->0<T v []:=by
 unfold Vo;have j:ats.any (λa=>a.rows.isEmpty)=true↔∃ i,i<m/\rs i=[]:=by grind [List.any_eq_true,List.getElem_of_mem,a0,List.getD,List.isEmpty_iff.1,getD_mem']
 split
 .grind
 rename_i h;have o:∀ i,i<m->rs i≠[]:=by grind
 rw[<-Nat.pos_iff_ne_zero,prodR_pos];grind
theorem ElR.ixP(h:ElR n f m es perm vars rs kf pf R)(hfit:∀ v,v<f->∀ x∈R v,∀ u∈x,Xs u/\u.bytes.length<=24)(hat:ats.length=m)(hae:∀ i,i<m->(ats.getD i a0).rows=rs i)(htot:tot=Vo n pf (TV n f kf pf R ds (plO perm f)) ats)(hL:Lt ds L)(hLm:∀ y,y∈L↔∃ z,Zt n m vars rs z/\z.take f=y):
  IxP f ds kf pf (BBx tot n f kf pf R ds (plO perm f)) tot L:=by
 have ac:=h.pm.fn;have hn:=h.n32;have o:=h.ok (ds:=ds);have Z:tot≠0↔(Jkd n f m perm vars rs kf pf R ds).Roots:=by
  rw[htot,Qll hat hae];constructor
  .rintro⟨D,O⟩;refine⟨λv j hp=>O v j hp,λa ha=>?_⟩;obtain⟨i,hi,rfl⟩:=List.mem_map.1 ha;grind
  rintro⟨D,O⟩;exact⟨λi hi=>O (vars i,rs i) (List.mem_map.2 ⟨i,List.mem_range.2 hi,rfl⟩),λv j hp=>D v j hp⟩
 have a2:∀ z,(Jkd n f m perm vars rs kf pf R ds).Join z↔Zt n m vars rs z:=λz=>by
  constructor
  .rintro⟨D,O⟩;exact⟨D,λi hi=>O (vars i,rs i) (List.mem_map.2 ⟨i,List.mem_range.2 hi,rfl⟩)⟩
  rintro⟨D,O⟩;refine⟨D,λa ha=>?_⟩;obtain⟨i,hi,rfl⟩:=List.mem_map.1 ha;exact O i (List.mem_range.1 hi)
 have hE:tot≠0->∀ v,v<f->∀ k,entK (BBx tot n f kf pf R ds (plO perm f) v) k=(Jkd n f m perm vars rs kf pf R ds).E v k:=λh0 v j k=>by
  unfold BBx;rw[if_pos j,if_neg h0];rfl
 obtain⟨X,hX⟩:∃ X:BX V,X=⟨V0,n,f,λv=>bk (kf v) 32,pf,plO perm f,(List.range m).map λi=>(vars i,rs i),TV n f kf pf R ds (plO perm f),λv k=>entK (BBx tot n f kf pf R ds (plO perm f) v) k⟩:=⟨_,rfl⟩;have C:tot≠0->X.Ok:=λh0=>by
  subst hX;exact⟨o.FN,o.plN,o.inj,o.k1,o.k2,o.k3,o.k4,o.k5,o.k6,o.al,o.t1,λv j k=>by
   have:=o.t2 v j k;rw[<-hE h0 v j k]at this;exact this⟩
 have aj:tot≠0↔X.Roots:=by subst hX;exact Z
 have ak:∀ z,X.Join z↔Zt n m vars rs z:=λz=>by subst hX;exact a2 z
 have a3:Xp f kf pf (BBx tot n f kf pf R ds (plO perm f))=X.ix:=by subst hX;rfl
 have J:X.F=f:=by subst hX;rfl
 have am:X.N=n:=by subst hX;rfl
 have ao:X.d0=V0:=by subst hX;rfl
 have ag:∀ v,v<f->kf v<2^v:=λv j=>by
  refine Nat.lt_pow_two_of_testBit _ λi hi=>?_;cases hb:(kf v).testBit i with
  | false=>rfl
  | true=>
   exfalso
   have D:=h.kbit om hb;rcases Nat.lt_or_ge i f with O|O
   .rcases Nat.eq_or_lt_of_le hi with h3|h3
    .subst h3;omega
    have:plO perm f i<plO perm f v:=o.k5 i v O h3;omega
   have:plO perm f i<plO perm f v:=o.k6 v i j O D.1;omega
 have a5:tot≠0->X.ix.Srt ds:=λh0=>by
  have hs:=h.srt (ds:=ds);subst hX;refine⟨rfl,λv j k=>?_⟩;have:=hs.srt v j k;show Us _ (entK _ k);rw[hE h0 v j k];exact this
 have a4:tot=0->L=[]:=λh0=>by
  refine List.eq_nil_iff_forall_not_mem.2 λy hy=>?_;obtain⟨z,hz,e⟩:=(hLm y).1 hy;have ad:=(a2 z).2 hz;have a1:y.length=f:=by rw[<-e,List.length_take,hz.1];omega
  have:=(o.answers (y:=y) a1).2 ⟨z,ad,e⟩;grind
 have a7:tot≠0->L=X.ix.ext f []:=λh0=>by
  refine Ie hL ((a5 h0).ext f [] (by show 0+f=X.F;omega)) λy=>?_;rw[hLm y];have G:=(C h0).ixOk;constructor
  .rintro⟨z,hz,e⟩;have a1:y.length=X.F:=by rw[<-e,List.length_take,hz.1];omega
   have:=((C h0).answers a1).2 ⟨z,(ak z).2 hz,by rw[J];exact e⟩;refine(AX.ext_mem f [] y).2 ⟨by rw[a1,J];simp,rfl,λv _ j=>?_⟩;have a8:v<X.F:=by grind
   have D:=this.1 v a8;have hk:X.ix.key v (y.take v)=X.ix.key v y:=by
    have:=G.key_pre (c:=v) (y:=y.take v) (z:=y.drop v) a8 (by rw[List.length_take,Nat.min_eq_left om];exact(G.pl v a8).2);grind [List.take_append_drop]
   show y.getD v X.d0∈(X.E v (X.ix.key v (y.take v))).map (·.1)
   rw[hk];exact D
  intro hy;obtain⟨D,_,h3⟩:=(AX.ext_mem f [] y).1 hy;have a1:y.length=X.F:=by rw[D,J];simp
  have ae:∀ v,v<X.F->y.getD v X.d0∈(X.E v (prj X.d0 (X.K v) y)).map (·.1):=λv j=>by
   have h4:=h3 v (Nat.zero_le _) (by simpa [J] using j);have hk:X.ix.key v (y.take v)=X.ix.key v y:=by
    have:=G.key_pre (c:=v) (y:=y.take v) (z:=y.drop v) j (by rw[List.length_take,Nat.min_eq_left om];exact(G.pl v j).2);grind [List.take_append_drop]
   rw[hk]at h4;exact h4
  obtain⟨z,hz,e⟩:=((C h0).answers a1).1 ⟨ae,aj.1 h0⟩;grind
 have a9:∀ v,v<f->GInv (ds.getD v false) (λx=>wtL (TV n f kf pf R ds (plO perm f)) x (chK kf pf v n)) (Go.Proofs.YtgobkbeokaaplaaGreatDoor.lastC kf v) (R v) (BBo n f kf pf R ds (plO perm f) v):=λv j=>Jym h j;have aa:∀ v k,(trK (BBx tot n f kf pf R ds (plO perm f) v) k).toL=[]∨(v<f/\(trK (BBx tot n f kf pf R ds (plO perm f) v) k).toL=Yv (ds.getD v false) (Xy (λx=>wtL (TV n f kf pf R ds (plO perm f)) x (chK kf pf v n)) (Go.Proofs.YtgobkbeokaaplaaGreatDoor.lastC kf v) (R v) k)):=λv k=>by
  rw[Jgb];unfold BBx;by_cases j:v<f
  .rw[if_pos j];by_cases h0:tot=0
   .rw[if_pos h0];exact .inl rfl
   rw[if_neg h0];exact .inr ⟨j,(a9 v j).entK k⟩
  rw[if_neg j];exact .inl rfl
 refine⟨?_,λh0 v=>?_,λh0=>a3 ▸ (C h0).ixOk,λh0=>a3 ▸ a5 h0,λh0=>a3 ▸ a7 h0,λv k=>?_,λv k=>?_,λv b hb p hp=>?_,om,ag⟩
 .by_cases h0:tot=0
  .rw[a4 h0,h0];rfl
  have G:=(C h0).ixOk;rw[a7 h0,G.ext_len f [] (by show 0+f=X.F;omega)];have e1:tot=Jg n λv=>if pf v = -1 then TV n f kf pf R ds (plO perm f) v [] else 1:=by
   have ab:=h0;rw[htot]at ab ⊢;unfold Vo at ab ⊢;grind
  rw[e1,Qqj ac λc D O=>?_]
  .show Jg f _=Jg X.F _;rw[J];refine Gf λc hc=>?_;have af:=G.pl c (by rw[show X.ix.F=X.F from rfl,J];exact hc);have a6:X.ix.par c=pf c:=by subst hX;rfl
   rw[a6]at af;by_cases hp:pf c = -1
   .rw[if_pos hp,if_pos ⟨Nat.zero_le _,by rw[a6];simp;omega⟩];have ah:X.ix.key c []=[]:=by
     have ai:X.K c=[]:=(C h0).kroot (by rw[am];omega) (by subst hX;exact hp);show prj X.d0 (X.K c) []=[];rw[ai];rfl
    have:=((C h0).t2 c (by rw[J];exact hc) []).1;have hT:X.T c []=TV n f kf pf R ds (plO perm f) c []:=by subst hX;rfl
    rw[hT]at this;rw[this];show _=Pl.tot (X.E c (X.ix.key c []));rw[ah]
   repeat grind
  by_cases hp:pf c = -1
  .rw[if_pos hp];have h3:=(Z.1 h0).1 c O hp;have h4:=Jpf (n:=n) (R:=R) (ds:=ds) (kf:=kf) h.chf c D [];have h5:0<TV n f kf pf R ds (plO perm f) c []:=h3;omega
  rw[if_neg hp]
 .unfold BBx;rw[if_pos h0];split<;>rfl
 .rw[Tr.sum_eq];rcases aa v k with e|⟨j,e⟩
  .rw[e];exact Nat.zero_le _
  rw[e,Jdl];have:=h.big (ds:=ds) v k;rw[Jff h.chf ac j,Jgc]at this;have e2:=(a9 v j).entK k;grind [BBo,Jdl]
 .rw[Tr.sz_eq];rcases aa v k with e|⟨j,e⟩
  .grind
  rw[e];have D:(Yv (ds.getD v false) (Xy (λx=>wtL (TV n f kf pf R ds (plO perm f)) x (chK kf pf v n)) (Go.Proofs.YtgobkbeokaaplaaGreatDoor.lastC kf v) (R v) k)).length<=(R v).length:=by
   have:(Xy (λx=>wtL (TV n f kf pf R ds (plO perm f)) x (chK kf pf v n)) (Go.Proofs.YtgobkbeokaaplaaGreatDoor.lastC kf v) (R v) k).length<=(R v).length:=by grind [Xy,List.length_map,List.length_filter_le]
   unfold Yv;split<;>simpa using this
  exact nL D (h.rows v om).2.2
 unfold BBx at hb;by_cases j:v<f
 .rw[if_pos j]at hb;by_cases h0:tot=0
  .grind
  rw[if_neg h0]at hb;rw[((a9 v j).con b hb).1,Qvj,entL_mem]at hp;obtain⟨x,hx,_,O,_⟩:=hp;rw[<-O];have an:=h.rl j x hx;grind [kf,V0,getD_mem']
 repeat grind
theorem IxP.few(h:IxP f ds kf pf BB tot L)(hl:L.length<4294967296): tot≠0->∀ z,(Xp f kf pf BB).Gp z->z.length<f->0<(Xp f kf pf BB).pend z.length z->(Xp f kf pf BB).others z.length z<4294967296:=λh0 z j i hp=>by
 have u:=((h.ok h0).others_le i hp).2;have o:=(h.ok h0).pend_le z.length z rfl (Nat.le_of_lt i) j;rw[h.pend0 h0,h.len]at o;omega
end
open Pl Go.Wk
variable {l:List Int}{i n u v:Nat}
def toN(l:List Int): List Nat:=l.map Int.toNat
theorem Jcc(h:∀ v∈l,0<=v): nz (toN l)=l:=by
 unfold nz toN;rw[List.map_map];conv=>rhs;rw[<-List.map_id l]
 grind [List.map_congr_left]
theorem Jgd(h:∀ v∈l,0<=v): u∈toN l↔(u:Int)∈l:=by grind [Jcc,nz]
theorem Xcl{l:List Nat}(h:Jkh (nz l)): Qo l:=by
 unfold Qo;rw[List.pairwise_iff_getElem];intro i j hi u C;have step:∀ k,0<k->k<l.length->l.getD (k-1) 0<l.getD k 0:=λk h0 o=>by
  have:=h k h0 (by rw[Qk];exact o);grind [Jwn]
 have key:∀ d,i+1+d<l.length->l.getD i 0<l.getD (i+1+d) 0:=by
  intro d;induction d with
  | zero=>intro hd;have:=step (i+1) om hd;simpa using this
  | succ d ih=>
   grind
 have:=key (j-(i+1)) om;rw[show i+1+(j-(i+1))=j by omega,Qd 0 _ hi,Qd 0 _ u]at this;exact this
structure CseOk(c:Cse)(ats:List Atm): Prop where
 few:FewP c
 len:c.vs.length=c.rss.length
 al:ats.length=c.vs.length
 mka:∀ i,i<c.vs.length->MkA (ats.getD i a0) (c.vs.getD i []) (c.rss.getD i [])
 chk:Gk ⟨c.n,c.f,c.ds,c.pm,ats⟩
 fit:∀ i,i<c.rss.length->∀ r∈c.rss.getD i [],∀ u∈r,Xs u
def Cse.N(c:Cse): Nat:=c.n.toNat
def Cse.F(c:Cse): Nat:=c.f.toNat
def Cse.m(c:Cse): Nat:=c.vs.length
def Cse.vars(c:Cse)(i:Nat): List Nat:=toN (c.vs.getD i [])
def Cse.crs(c:Cse)(i:Nat): List Row:=c.rss.getD i []
def rsA(ats:List Atm)(i:Nat): List Row:=(ats.getD i a0).rows
def Cse.ans(c:Cse): List Row:=Jkk c.m c.vars c.crs c.N c.F c.ds
section
variable {c:Cse} {ats:List Atm}
theorem CseOk.nN(h:CseOk c ats): c.n=(c.N:Int)/\c.N<=6:=by
 have o:=h.chk.1;have j:=h.chk.2.1;have i:=h.few.n6;grind [Cse.N]
theorem CseOk.fF(h:CseOk c ats): c.f=(c.F:Int)/\c.F<=c.N:=by
 obtain⟨o,_,j,i,_⟩:=h.chk;grind [Cse.F,Cse.N]
theorem CseOk.at_(h:CseOk c ats)(hi:i<c.m): Ib c.n (ats.getD i a0):=by
 obtain⟨_,_,_,_,_,_,_,_,_,_,_,j,_⟩:=h.chk;exact j _ (getD_mem' a0 _ (by rw[h.al];exact hi))
theorem CseOk.vars(h:CseOk c ats){i:Nat}(hi:i<c.m): nz (c.vars i)=c.vs.getD i []/\Qo (c.vars i)/\(∀ v∈c.vars i,v<c.N)/\(c.vars i).length=(c.vs.getD i []).length:=by
 obtain⟨C,o,D⟩:=h.at_ hi;have u:=(h.mka i hi).vars;rw[u]at C o;have h0:∀ v∈c.vs.getD i [],0<=v:=λv j=>(o v j).1;refine⟨Jcc h0,Xcl (by grind [Cse.vars,Jcc]),λv j=>?_,by simp[Cse.vars,toN]⟩;have:=(o v ((Jgd h0).1 j)).2;have:=h.nN.1;omega
theorem CseOk.cov(h:CseOk c ats)(hv:v<c.N): ∃ i,i<c.m/\v∈c.vars i:=by
 obtain⟨_,_,_,_,_,_,_,_,_,_,_,_,O⟩:=h.chk;obtain⟨a,J,o⟩:=O v (by have:=h.nN.1;simp only;omega);obtain⟨i,hi,e⟩:=List.getElem_of_mem J;have j:i<c.m:=by have:=h.al;grind [Cse.m]
 have D:ats.getD i a0=a:=by grind
 have C:=(h.mka i j).vars;rw[D]at C;refine⟨i,j,(Jgd λu G=>?_).2 (C ▸ o)⟩;have:=(h.at_ j).2.1 u (by rw[D,C];exact G);exact this.1
theorem CseOk.set(h:CseOk c ats){i:Nat}(hi:i<c.m): Zn [] (c.crs i) (rsA ats i):=(h.mka i hi).set (by have:=h.few.row i (by rw[<-h.len];exact hi);grind)
theorem CseOk.clen(h:CseOk c ats)(hi:i<c.m): ∀ r∈c.crs i,r.length=(c.vars i).length:=λr j=>by rw[(h.vars hi).2.2.2];exact((h.mka i hi).ok r j).1
theorem CseOk.slen(h:CseOk c ats)(hi:i<c.m): ∀ r∈rsA ats i,r.length=(c.vars i).length:=λr j=>h.clen hi r (((h.set hi).2 r).1 j)
theorem Qqh{g g':Nat->Nat}(h:∀ c,c<n->g c<=g' c): Jg n g<=Jg n g':=by
 induction n with
 | zero=>exact nR _
 | succ n ih=>rw[Jg,Jg];exact Nat.mul_le_mul (ih λc i=>h c om) (h n om)
theorem CseOk.cnt(h:CseOk c ats): max 1 (Jg c.m λi=>(c.crs i).length)<=5000:=by
 have j:=h.few.cnt;rw[<-h.len]at j;have o:Jg c.m (λi=>(c.crs i).length)<=Jg c.vs.length λi=>max 1 (c.rss.getD i []).length:=Qqh λi _=>Nat.le_max_right _ _;omega
theorem CseOk.refP(h:CseOk c ats): RefP c.N c.m c.vars c.crs:=by
 have o:=h.nN.2;refine⟨om,by have:=h.few.v5;unfold Cse.m;omega,λi hi=>(h.vars hi).2.1,λi hi=>(h.vars hi).2.2.1,λi hi=>h.clen hi,λv j=>h.cov j,h.cnt,λi hi=>h.few.row i (by rw[<-h.len];exact hi)⟩
theorem Jgn{ds:List Bool}{ls m:List Row}(h:Zn ds ls m): m.length<=ls.length:=Jlb (Qzf h.1) λx i=>(h.2 x).1 i
theorem CseOk.pm(h:CseOk c ats): PermOk c.N c.F (toN c.pm)/\nz (toN c.pm)=c.pm:=by
 obtain⟨_,_,_,_,_,o,j,i,_⟩:=h.chk;simp only at o j i;have hn:=h.nN.1;have C:=h.fF.1;have h0:∀ v∈c.pm,0<=v:=by grind
 refine⟨⟨h.fF.2,by simp[toN];omega,λv u=>?_,?_⟩,Jcc h0⟩;repeat grind [Jgd,toN,List.Nodup,List.Pairwise.imp_of_mem]
theorem CseOk.ansJ(h:CseOk c ats)(z:Row): Zt c.N c.m c.vars (rsA ats) z↔Zt c.N c.m c.vars c.crs z:=by
 unfold Zt;refine and_congr_right λ_=>forall_congr' λi=>forall_congr' λhi=>?_;exact(h.set hi).2 _
theorem CseOk.ans(h:CseOk c ats): Lt c.ds c.ans/\∀ y,y∈c.ans↔∃ z,Zt c.N c.m c.vars (rsA ats) z/\z.take c.F=y:=by
 have hs:=Qdb c.m c.vars c.crs c.N c.F c.ds;have i:=h.refP;refine⟨hs.1,λy=>?_⟩;rw[show c.ans=Jkk c.m c.vars c.crs c.N c.F c.ds from rfl,hs.2 y,List.mem_map];constructor
 .rintro⟨z,j,e⟩;exact⟨z,(h.ansJ z).2 ((Jls i.asc i.len i.lt i.cov z).1 j),e⟩
 rintro⟨z,j,e⟩;exact⟨z,(Jls i.asc i.len i.lt i.cov z).2 ((h.ansJ z).1 j),e⟩
theorem CseOk.anl(h:CseOk c ats): c.ans.length<=5000:=by
 have i:=h.refP;have j:=Jgn (Qdb c.m c.vars c.crs c.N c.F c.ds);have o:=Qzz i.asc i.len i.cov;rw[List.length_map]at j;exact nL j (nL o i.cnt)
theorem CseOk.arow(h:CseOk c ats){y:Row}(hy:y∈c.ans): y.length=c.F:=by
 obtain⟨z,i,e⟩:=(h.ans.2 y).1 hy;rw[<-e,List.length_take,i.1];have:=h.fF.2;omega
end
open Go.RowKit Pl Go.Wk
attribute [local irreducible] WC WL QX WD WDB WP WN WG WH WM
variable {ds:List Bool}{es perm:List Nat}{ts:List TA}{f m n v:Nat}{pf:Nat->Int}{vars:Nat->List Nat}{R rs:Nat->List Row}{x:Value}{w:World}
theorem IxV.congr{kf:Nat->Nat}{BB BB':Nat->List BkT}{tot:Nat}(h:IxV w x f ds kf pf BB tot)(he:∀ v,v<f->BB v=BB' v): IxV w x f ds kf pf BB' tot:=by
 obtain⟨DA,dc,BA,cb,KA,ck,PA,cp,u,j,i,h1,h2,h3,Z,O,J,G,D,C⟩:=h.ex;exact⟨⟨DA,dc,BA,cb,KA,ck,PA,cp,u,j,i,h1,h2,h3,Z,O,J,G,D,λv o=>he v o ▸ C v o⟩,h.dl,h.f32⟩
theorem Xbf(w:World): (Instr.build 55 #[]).run Tryz.prog w=.ok (.agg #[.slice none 0 0,.slice none 0 0,.slice none 0 0,.slice none 0 0,.slice none 0 0]) w:=kr
theorem ElR.fits{kf:Nat->Nat}(h:ElR n f ts.length es perm vars rs kf pf R)(hI:BldI n f ds perm ts vars rs):
  ∀ v,v<f->∀ x∈R v,∀ u∈x,Xs u/\u.bytes.length<=24:=λv o x j u C=>by
 have i:v<n:=nM o h.pm.fn;obtain⟨z,_,e,D⟩:=((h.rows v i).2.1 x).1 j;subst e;exact(hI.fit (h.sb i) D).1.2 u C
theorem ElR.htb{kf:Nat->Nat}{tot:Nat}(h:ElR n f m es perm vars rs kf pf R){b:BkT}(hb:b∈BBx tot n f kf pf R ds (plO perm f) v): b.2.ht<=65536:=by
 unfold BBx at hb;by_cases hv:v<f
 .rw[if_pos hv]at hb;by_cases h0:tot=0
  .grind
  rw[if_neg h0]at hb;have e:=((Jym (ds:=ds) h hv).con b hb).1;have o:b.2.toL.length<=(R v).length:=by
   rw[e];have:(Xy (λx=>wtL (TV n f kf pf R ds (plO perm f)) x (chK kf pf v n)) (Go.Proofs.YtgobkbeokaaplaaGreatDoor.lastC kf v) (R v) b.1).length<=(R v).length:=by grind [Xy,List.length_map,List.length_filter_le]
   unfold Yv;split<;>simpa using this
  have i:=Tr.ht_le b.2;rw[Tr.sz_eq]at i;have j:=(h.rows v (nM hv h.pm.fn)).2.2;omega
 repeat grind
theorem Xxf{kf:Nat->Nat}{L:List Row}(hTB:∃ B0,TB B0 w)(hI:BldI n f ds perm ts vars rs)(hats:∀ i,i<ts.length->((ts.map (·.2)).getD i a0).rows=rs i)(hE:ElR n f ts.length es perm vars rs kf pf R)(hV:IxV w x f ds kf pf (λu=>if Vo n pf (TV n f kf pf R ds (plO perm f)) (ts.map (·.2))=0 then[] else BBo n f kf pf R ds (plO perm f) u) (Vo n pf (TV n f kf pf R ds (plO perm f)) (ts.map (·.2))))(hL:Lt ds L)(hLm:∀ y,y∈L↔∃ z,Zt n ts.length vars rs z/\z.take f=y)(hl:L.length<4294967296):
  IxA w x f ds kf pf (BBx (Vo n pf (TV n f kf pf R ds (plO perm f)) (ts.map (·.2))) n f kf pf R ds (plO perm f)) (Vo n pf (TV n f kf pf R ds (plO perm f)) (ts.map (·.2))) L:=by
 have j:=hE.ixP (ds:=ds) (tot:=Vo n pf (TV n f kf pf R ds (plO perm f)) (ts.map (·.2))) (hE.fits hI) (ats:=ts.map (·.2)) (by rw[List.length_map]) hats rfl hL hLm
 exact⟨hTB,hV.congr λv C=>by grind [BBx],j,j.few hl,λv b o=>hE.htb o⟩
end Go.Proofs.YtgobkbeokaaplaaGreatDoor
namespace Go.Proofs.YtgobkbeokaaplaaGreatDoor
open Pl Go.Wk
def nV(n:Int): V:=⟨1,n,⟨#[]⟩⟩
theorem Xjd{n:Int}(h:-9223372036854775808<=n/\n<=9223372036854775807): Xs (nV n):=⟨by show _<=(1:Int)/\(1:Int)<=_;omega,h⟩
open Go.RowKit Pl Go.Wk
attribute [local irreducible] WC WL QX WD WDB WP WN WG WH WM
variable {b:Nat}{w:World}
theorem Xys(n:Int)(w:World): (Instr.build 147 #[(0,.int .i64 1),(1,.int .i64 n)]).run Tryz.prog w=.ok (nV n).val w:=kr
theorem Jlj{r:Row}(h:Blk w b 147 (Jp r))(hl:r.length<=1100000): RowV w (.slice (some ⟨b,0,none⟩) r.length r.length) r:=⟨some ⟨b,0,none⟩,r.length,rfl,Nat.le_refl _,hl,h.rd (Jhg r)⟩
theorem Xqc(ps:List Pr)(h:Blk w b 59 (ps.map (·.1)))(hr:∀ p∈ps,RowV w p.1 p.2)(hl:ps.length<=1100000): RowsV w (.slice (some ⟨b,0,none⟩) ps.length ps.length) (ps.map (·.2)):=⟨ps,some ⟨b,0,none⟩,ps.length,rfl,rfl,Nat.le_refl _,hl,h.rd (by simp),hr⟩
open Go.RowKit Pl Go.Wk
variable {L:List Row}{c i n:Nat}
theorem RowsV.one{w:World}{A:Option Addr}(h:RowsV w (.slice A n c) L)(hi:i<L.length): ∃(v:Value) (cs:List Value),Rd w 1 A n cs/\n=L.length/\cs[i]?=some v/\RowV w v (L.getD i []):=by
 obtain⟨C,j,e,_,_,cs,o,u⟩:=h.parts;grind
theorem getD_some(h:i<L.length): L[i]?=some (L.getD i []):=by grind
end Go.Proofs.YtgobkbeokaaplaaGreatDoor
namespace Go.Wk
open Go.RowKit Go.ChangeShapes Go.WideShapes
section
variable {H:Type} {enc:TypeId×Value->H} {P:Program} {w:World} {base:Nat} {spare:Nat->Bool} {held:Bool}
theorem rd_of{A:Option Addr}{sz len:Nat}{cs:List Value}{ad:Addr}(hA:A=some ad)(hl:cs.length=len*sz)(hc:∀ j u,cs[j]?=some u->w.cell? (ad.add j)=some u): Rd w sz A len cs :=
 ⟨hl,λh0=>⟨ad,hA,by
  have i:=hc 0 cs[0] (gE h0);rw[add_zero]at i;exact World.block_lt_of_cell? w ad i,hc⟩⟩
theorem Jvq{α:Type}(f:α->Value)(l:List α): l.flatMap (λz=>[f z])=l.map f:=by induction l<;>simp_all
end
end Go.Wk
namespace Go.Proofs.YtgobkbeokaaplaaGreatDoor
open Go.RowKit Pl Go.Wk Go.ChangeShapes Go.WideShapes
variable {cs:List Value}{e fuel i n t:Nat}{H α β:Type}
theorem Xvv(d:DataW H): 1<=Rows.uptoBulk d:=by
 cases d with
 | lit l=>cases l<;>simp[Rows.uptoBulk]
 | nil=>simp[Rows.uptoBulk]
 | ptr d=>simp[Rows.uptoBulk]
 | slice elems spare=>simp[Rows.uptoBulk]
 | agg parts=>simp[Rows.uptoBulk]
 | iface t d=>simp[Rows.uptoBulk]
 | map entries=>simp[Rows.uptoBulk]
 | held h=>simp[Rows.uptoBulk]
theorem Qbm{d:DataW H}{l:List (DataW H)}(h:d∈l): Rows.uptoBulk d<=Rows.uptoBulkAll l:=by
 induction l with
 | nil=>cases h
 | cons x r ih=>
  simp only[Rows.uptoBulkAll];grind
theorem Xvw(l:List (DataW H)): l.length<=Rows.uptoBulkAll l:=by
 induction l with
 | nil=>simp[Rows.uptoBulkAll]
 | cons x r ih=>have:=Xvv x;simp only[Rows.uptoBulkAll,List.length_cons];omega
section
variable {H:Type} {enc:TypeId×Value->H} {P:Program} {w:World} {base:Nat} {spare:Nat->Bool} {held:Bool} {B:Nat}
theorem Jqj{sz:Nat}{x:DataW H×List MemPlace}(X:α->List Value)(R:α->Prop)(ht:P.underlying t=some (.slice e))(hc:P.cellsOf e=sz)(hb:Rows.uptoBulk x.1<=B)(hX:∀(n:Nat) (cs':List Value) (y:DataW H×List MemPlace),DataW.trod enc P w base spare held n e cs'=some y->Rows.uptoBulk y.1<=B->∃ z:α,cs'=X z/\R z)(h:DataW.trod enc P w base spare held fuel t cs=some x): ∃(l:List α) (A:Option Addr) (cap:Nat),cs=[.slice A l.length cap]/\Rd w sz A l.length (l.flatMap X)/\(∀ z∈l,R z)/\l.length<=cap/\l.length<=B:=by
 rcases Go.Deep.open_slice ht h with⟨o,_⟩|⟨a,len,cap,m,n,D,Pl,o,_,hl,hm,hmm,hx,hel⟩
 .exact⟨[],none,0,o,Rd.nil,(λz G=>by cases G),Nat.le_refl _,Nat.zero_le _⟩
 subst o;subst hx;have a3:len<=m:=by grind
 have O:Rows.uptoBulkAll ((List.range len).map D)<=B:=by
  simp only[Rows.uptoBulk]at hb;omega
 have a4:len<=B:=by
  have:=Xvw ((List.range len).map D);simp at this;omega
 have key:∀ k,k<=len->∃ l:List α,l.length=k/\(l.flatMap X).length=k*sz/\(∀ j u,(l.flatMap X)[j]?=some u->w.cell? (a.add j)=some u)/\∀ z∈l,R z:=by
  intro k;induction k with
  | zero=>intro _;exact⟨[],rfl,by simp,(λj u C=>by simp at C),(λz G=>by cases G)⟩
  | succ k ih=>
   intro hk;obtain⟨l,h1,h2,h3,h4⟩:=ih om;obtain⟨cs',i,J⟩:=hel k om;have a1:D k∈(List.range len).map D:=by grind
   obtain⟨z,rfl,G⟩:=hX n cs' _ J (nL (Qbm a1) O);rw[hc]at i;obtain⟨_,a2,Z⟩:=World.cells?_some i;refine⟨l++[z],by simp[h1],?_,?_,?_⟩
   .grind
   .intro j u C;rw[List.flatMap_append]at C;simp only[List.flatMap_cons,List.flatMap_nil,List.append_nil]at C;rcases Nat.lt_or_ge j (k*sz) with hj|hj
    .grind
    rw[List.getElem?_append_right om,h2]at C;have hb:j-k*sz<sz:=by grind
    have:=Z (j-k*sz) hb;rw[Jpd]at this;grind
   repeat grind
 obtain⟨l,h1,h2,h3,h4⟩:=key len (nR _);grind [rd_of]
end
section
variable {H:Type} {enc:TypeId×Value->H} {w:World} {base b0:Nat} {spare:Nat->Bool} {held:Bool}
theorem Qsq{y:DataW H×List MemPlace}(h:DataW.trod enc Tryz.prog w base spare held n 147 cs=some y): ∃ v:V,cs=v.cells/\Xs v:=by
 obtain⟨o,m,_,_,j,u,D⟩:=DataW.trod_struct Tryz.underlying147 h;have C:cs.length=3:=by rw[j];kernel_rfl
 have a1:o.length=3:=u;match cs,C with
 | [c0,c1,c2],_=>
  have J:DataW.trod enc Tryz.prog w base spare held m 3 (([c0,c1,c2].drop 0).take (Tryz.prog.cellsOf 3))=o[0]?:=D 0 _ rfl;have f1:DataW.trod enc Tryz.prog w base spare held m 2 (([c0,c1,c2].drop 1).take (Tryz.prog.cellsOf 2))=o[1]?:=D 1 _ rfl;have G:DataW.trod enc Tryz.prog w base spare held m 9 (([c0,c1,c2].drop 2).take (Tryz.prog.cellsOf 9))=o[2]?:=D 2 _ rfl;rw[show Tryz.prog.cellsOf 3=1 by kernel_rfl,List.getElem?_eq_getElem om]at J;rw[show Tryz.prog.cellsOf 2=1 by kernel_rfl,List.getElem?_eq_getElem om]at f1;rw[show Tryz.prog.cellsOf 9=1 by kernel_rfl,List.getElem?_eq_getElem om]at G;obtain⟨k,e0,_,wk⟩:=DataW.trod_int Tryz.underlying3 J;obtain⟨i,Z,_,wi⟩:=DataW.trod_int Tryz.underlying2 f1;obtain⟨s,O,_,_⟩:=DataW.trod_string Tryz.underlying9 G;simp at e0 Z O;subst e0;subst Z;subst O;exact⟨⟨k,i,s⟩,rfl,bounds_i64 wk,bounds_i64 wi⟩
def RowE(w:World)(v:Value)(r:Row): Prop:=RowV w v r/\∀ u∈r,Xs u
theorem Qst{y:DataW H×List MemPlace}(h:DataW.trod enc Tryz.prog w base spare held n 59 cs=some y)(hb:Rows.uptoBulk y.1<=1048576): ∃ p:Pr,cs=[p.1]/\RowE w p.1 p.2:=by
 obtain⟨l,A,i,e,D,C,u,J⟩:=Jqj (sz:=3) V.cells Xs Tryz.underlying59 kr hb (λn G y j _=>Qsq j) h;have o:l.length<=1100000:=om
 exact⟨(.slice A l.length i,l),e,⟨A,i,rfl,u,o,D⟩,C⟩
def Qdn(w:World)(v:Value)(ls:List Row): Prop:=RowsV w v ls/\∀ r∈ls,∀ u∈r,Xs u
theorem Qss{y:DataW H×List MemPlace}(h:DataW.trod enc Tryz.prog w base spare held n 95 cs=some y)(hb:Rows.uptoBulk y.1<=1048576): ∃ p:Value×List Row,cs=[p.1]/\Qdn w p.1 p.2:=by
 obtain⟨ps,A,i,e,o,j,J,Z⟩:=Jqj (sz:=1) (λp:Pr=>[p.1]) (λp=>RowE w p.1 p.2) Tryz.underlying95 kr hb (λn O y C hb=>Qst C hb) h;rw[Jvq]at o;exact⟨(.slice A ps.length i,ps.map (·.2)),e,⟨ps,A,i,rfl,rfl,J,om,o,λp hp=>(j p hp).1⟩,λr G u D=>by
  obtain⟨p,hp,rfl⟩:=List.mem_map.1 G;exact(j p hp).2 u D⟩
theorem Xzs(f:α->β)(l:List α)(a:α)(b:β)(h:i<l.length): (l.map f).getD i b=f (l.getD i a):=by grind
theorem Qsr{y:DataW H×List MemPlace}(h:DataW.trod enc Tryz.prog w base spare held n 28 cs=some y)(hb:Rows.uptoBulk y.1<=1048576):
  ∃(A:Option Addr) (c:Nat) (rss:List (List Row)),cs=[.slice A rss.length c]/\RowssV w (.slice A rss.length c) rss/\∀ i,i<rss.length->∀ r∈rss.getD i [],∀ u∈r,Xs u:=by
 obtain⟨ps,A,o,e,J,G,h3,h4⟩:=Jqj (sz:=1) (λp:Value×List Row=>[p.1]) (λp=>Qdn w p.1 p.2) Tryz.underlying28 kr hb (λn Z y O hb=>Qss O hb) h;rw[Jvq]at J;have C:(ps.map (·.2)).length=ps.length:=List.length_map _
 have D:∀ i,i<ps.length->(ps.map (·.2)).getD i []=(ps.getD i (.bool false,[])).2:=by grind
 refine⟨A,o,ps.map (·.2),by rw[C];exact e,⟨A,o,ps.map (·.1),rfl,om,om,by rw[C];exact J,λi hi=>?_⟩,λi hi=>?_⟩
 .have j:i<ps.length:=om
  rw[D i j];exact⟨(ps.getD i (.bool false,[])).1,by grind,(G _ (getD_mem' _ _ j)).1⟩
 have j:i<ps.length:=om
 rw[D i j];exact(G _ (getD_mem' _ _ j)).2
theorem Qxc{y:DataW H×List MemPlace}(h:DataW.trod enc Tryz.prog w base spare held n 26 cs=some y)(hb:Rows.uptoBulk y.1<=1048576): ∃ p:Value×List Int,cs=[p.1]/\IntsV w p.1 p.2/\∃ A c,p.1=.slice A p.2.length c:=by
 obtain⟨l,A,i,e,j,J,C,G⟩:=Jqj (sz:=1) (λz:Int=>[Value.int .i64 z]) (λ_=>True) Tryz.underlying26 kr hb (λn D y o _=>by obtain⟨z,e,_,_⟩:=DataW.trod_int Tryz.underlying3 o;exact⟨z,e,trivial⟩) h;rw[Jvq]at j;have u:l.length<=1100000:=om
 exact⟨(.slice A l.length i,l),e,⟨A,i,rfl,C,u,j⟩,A,i,rfl⟩
theorem Qsv{y:DataW H×List MemPlace}(h:DataW.trod enc Tryz.prog w base spare held n 27 cs=some y)(hb:Rows.uptoBulk y.1<=1048576):
  ∃(A:Option Addr) (c:Nat) (zss:List (List Int)),cs=[.slice A zss.length c]/\IntssV w (.slice A zss.length c) zss:=by
 obtain⟨ps,A,j,e,u,O,J,G⟩:=Jqj (sz:=1) (λp:Value×List Int=>[p.1]) (λp=>IntsV w p.1 p.2) Tryz.underlying27 kr hb (λn D y C hb=>by obtain⟨p,e,hp,_⟩:=Qxc C hb;exact⟨p,e,hp⟩) h;rw[Jvq]at u;have o:(ps.map (·.2)).length=ps.length:=List.length_map _
 refine⟨A,j,ps.map (·.2),by rw[o];exact e,⟨A,j,ps.map (·.1),rfl,om,om,by rw[o];exact u,λi hi=>?_⟩⟩
 grind
theorem Qsz{y:DataW H×List MemPlace}(h:DataW.trod enc Tryz.prog w base spare held n 25 cs=some y)(hb:Rows.uptoBulk y.1<=1048576): ∃(A:Option Addr) (c:Nat) (l:List Bool),cs=[.slice A l.length c]/\BoolsV w (.slice A l.length c) l:=by
 obtain⟨l,A,i,e,j,G,u,D⟩:=Jqj (sz:=1) (λz:Bool=>[Value.bool z]) (λ_=>True) Tryz.underlying25 kr hb (λn C y o _=>by obtain⟨z,e,_⟩:=DataW.trod_bool Tryz.underlying4 o;exact⟨z,e,trivial⟩) h;rw[Jvq]at j;exact⟨A,i,l,e,⟨A,i,rfl,u,om,j⟩⟩
set_option linter.constructorNameAsVariable false in
theorem Qsx{y:DataW H×List MemPlace}(h:DataW.trod enc Tryz.prog w base spare held n 30 cs=some y)(hb:Rows.uptoBulk y.1<=1048576): ∃ c:Cse,CseV w cs c/\∀ i,i<c.rss.length->∀ r∈c.rss.getD i [],∀ u∈r,Xs u:=by
 obtain⟨j,m,_,hx,C,O,o⟩:=DataW.trod_struct Tryz.underlying30 h;have Z:cs.length=6:=by rw[C];kernel_rfl
 match cs,Z with
 | [c0,c1,c2,c3,c4,c5],_=>
  have a1:j.length=6:=O;subst hx;have J:∀ i (hi:i<j.length),Rows.uptoBulk j[i].1<=1048576:=λi hi=>by
   have h1:j[i].1∈j.map (·.1):=by grind
   have h2:=Qbm h1;simp only[Rows.uptoBulk]at hb;omega
  have f0:DataW.trod enc Tryz.prog w base spare held m 3 (([c0,c1,c2,c3,c4,c5].drop 0).take (Tryz.prog.cellsOf 3))=j[0]?:=o 0 _ rfl;have f1:DataW.trod enc Tryz.prog w base spare held m 3 (([c0,c1,c2,c3,c4,c5].drop 1).take (Tryz.prog.cellsOf 3))=j[1]?:=o 1 _ rfl;have f2:DataW.trod enc Tryz.prog w base spare held m 25 (([c0,c1,c2,c3,c4,c5].drop 2).take (Tryz.prog.cellsOf 25))=j[2]?:=o 2 _ rfl;have f3:DataW.trod enc Tryz.prog w base spare held m 26 (([c0,c1,c2,c3,c4,c5].drop 3).take (Tryz.prog.cellsOf 26))=j[3]?:=o 3 _ rfl;have f4:DataW.trod enc Tryz.prog w base spare held m 27 (([c0,c1,c2,c3,c4,c5].drop 4).take (Tryz.prog.cellsOf 27))=j[4]?:=o 4 _ rfl;have f5:DataW.trod enc Tryz.prog w base spare held m 28 (([c0,c1,c2,c3,c4,c5].drop 5).take (Tryz.prog.cellsOf 28))=j[5]?:=o 5 _ rfl;rw[show Tryz.prog.cellsOf 3=1 by kernel_rfl,List.getElem?_eq_getElem om]at f0 f1;rw[show Tryz.prog.cellsOf 25=1 by kernel_rfl,List.getElem?_eq_getElem om]at f2
  rw[show Tryz.prog.cellsOf 26=1 by kernel_rfl,List.getElem?_eq_getElem om]at f3;rw[show Tryz.prog.cellsOf 27=1 by kernel_rfl,List.getElem?_eq_getElem om]at f4;rw[show Tryz.prog.cellsOf 28=1 by kernel_rfl,List.getElem?_eq_getElem om]at f5;obtain⟨n,e0,_,w0⟩:=DataW.trod_int Tryz.underlying3 f0;obtain⟨f,e1,_,w1⟩:=DataW.trod_int Tryz.underlying3 f1;obtain⟨A2,k2,ds,e2,g2⟩:=Qsz f2 (J 2 om);obtain⟨⟨p3,pm⟩,e3,g3,A3,k3,G⟩:=Qxc f3 (J 3 om);simp only at G g3 e3;subst G;obtain⟨A4,k4,vs,e4,g4⟩:=Qsv f4 (J 4 om);obtain⟨A5,k5,rss,e5,g5,D⟩:=Qsr f5 (J 5 om);simp at e0 e1 e2 e3 e4 e5;subst e0;subst e1;subst e2;subst e3;subst e4;subst e5;exact⟨⟨n,f,ds,pm,vs,rss⟩,⟨A2,k2,A3,k3,A4,k4,A5,k5,rfl,g2,g3,g4,g5,bounds_i64 w0,bounds_i64 w1⟩,D⟩
end
theorem gPow: Tryz.prog.globalNamed "internal/strconv.uint64pow10" = some 1:=kr
theorem gPowT: (Tryz.prog.globals[1]?).map (·.type)=some 355:=kr
theorem Qlq{W:World}(h:laidMetH Tryz.prog Rows.unionStepsUptoRow.laid W): TB W.heap.size W:=by
 refine⟨nR _,Lib.tabBelow_of_tabIs ?_⟩;have i:=h.filter (λx=>x.1 == "internal/strconv.uint64pow10");exact Lib.tabIs_of_head (rest:=[]) gPow gPowT Tryz.underlying355 Tryz.underlying80 kr kr i
def Jln(d:DataW Unit): Obj->Obj
 | .cells _ t z=>.cells (match d with
  | .agg ps=>(ps.map fun
   | .lit (.int k z)=>Value.int k z
   | _=>Value.bool false).toArray
  | _=>#[]) t z
 | o=>o
end Go.Proofs.YtgobkbeokaaplaaGreatDoor
namespace Go.Wk
variable {id n:Nat}
theorem Qft{P:Program}{al:AL}{w:World}{Q Q':Exit->Act->World->Prop}{α:Type}{c d:Code}(fr:α->AL)(I:α->World->Prop)(h1:WC P n c (Exit.inBlock id (Exit.then (λa w=>∃ x,Fr n (fr x) a/\I x w) Q)) al w)(h2:∀ x w,I x w->WC P n d Q' (fr x) w):
  WC P n c (Exit.inBlock id (Exit.then (d.wp P Q') Q)) al w:=by
 intro a C;refine wp_mono (h1 a C) ?_;intro e u w' i;cases e with
 | normal=>obtain⟨x,o,j⟩:=i;exact h2 x w' j u o
 | exit id'=>
  by_cases e:id'=id
  .simp only[Exit.inBlock,e,if_true]at i ⊢;obtain⟨x,o,j⟩:=i;exact h2 x w' j u o
  simp only[Exit.inBlock,e,if_false]at i ⊢;exact i
 | goto l=>exact i
 | ret=>exact i
 | panic c=>exact i
 | outgrown=>exact i
end Go.Wk
namespace Go.Proofs.YtgobkbeokaaplaaGreatDoor
open Go.RowKit Pl Go.Wk
attribute [local irreducible] WC WL QX WD WDB WP WN WG WH WM
theorem Qym: ∀(a b:Row) (ds:List Bool) (l:Nat),Jv a b ds<=0->Jv (a.take l) (b.take l) ds<=0
 | _,_,_,0,_=>by simp[Jv]
 | [],[],_,_+1,_=>by simp[Jv]
 | [],_::_,_,_+1,_=>by simp[Jv]
 | _::_,[],_,_+1,h=>by simp[Jv]at h
 | x::a,y::b,ds,l+1,h=>by
  simp only[List.take_succ_cons,Jv]at h ⊢;by_cases e:cmpV x y=0
  .rw[if_pos e]at h ⊢;exact Qym a b _ l h
  repeat grind
theorem Xjz{ds:List Bool}{L:List Row}(h:Lt ds L){i j:Nat}(hij:i<j)(hj:j<L.length): Jv (L.getD i []) (L.getD j []) ds<0:=by
 have hi:i<L.length:=om
 have:=List.pairwise_iff_getElem.1 h i j hi hj hij;grind
open Go.RowKit Pl Go.Wk
theorem Xzg{bs:List BkT}{B:Nat}(h:∀ b∈bs,b.2.ht<=B): hmB bs<=B:=by
 have key:∀(l:List BkT) (m:Nat),m<=B->(∀ b∈l,b.2.ht<=B)->l.foldl (λm b=>max m b.2.ht) m<=B:=by
  intro l;induction l with
  | nil=>intro m i _;exact i
  | cons b l ih=>intro m i j;exact ih _ (Nat.max_le.2 ⟨i,j b mC⟩) λc o=>j c (List.mem_cons_of_mem _ o)
 exact key bs 0 (Nat.zero_le _) h
open Go.RowKit Pl Go.Wk
def CuV(w:World)(x cu:Value)(p st:Nat): Prop:=∃(A1 A2 A3 A4 A5:Option Addr) (n1 n2 n3 n4 n5 c1 c2 c3 c4 c5:Nat) (pv:Value),x=.agg #[.slice A1 n1 c1,.slice A2 n2 c2,.slice A3 n3 c3,.slice A4 n4 c4,.slice A5 n5 c5]/\cu=.agg #[.slice A1 n1 c1,.slice A2 n2 c2,.slice A3 n3 c3,.slice A4 n4 c4,.slice A5 n5 c5,pv,.int .i64 (st:Int)]/\NatV w pv p
theorem CuV.ext{w w':World}{x cu:Value}{p st:Nat}(h:CuV w x cu p st)(hx:Ext w w'): CuV w' x cu p st:=by
 obtain⟨A1,A2,A3,A4,A5,C,u,o,j,i,c1,c2,c3,Z,O,pv,J,G,D⟩:=h;exact⟨A1,A2,A3,A4,A5,C,u,o,j,i,c1,c2,c3,Z,O,pv,J,G,D.ext hx⟩
theorem Qnr{w:World}{A:Option Addr}{r:Row}{b t:Nat}{cs:List Value}(hR:RdR w A r)(hB:Blk w b t cs)(hs:∀ u∈cs,∀ s,u≠.string s): Off (λk=>k=b) w λu=>RdR u A r:=Iu hR λh0 j e (e2:j.block=b)=>by
 obtain⟨J,o,D,i⟩:=hR.2 h0;rw[e]at o;injection o with o
 subst o;cases r with
 | nil=>simp[Jp]at h0
 | cons v r=>
  have C:w.cell? (j.add 2)=some (.string v.str):=i 2 _ rfl;have h3:=World.cell?_spot C;have h4:(j.add 2).block=b:=by grind [Ud]
  have G:j.add 2=⟨b,(j.add 2).off,none⟩:=by
   generalize hq:j.add 2=q at *
   obtain⟨qb,Z,O⟩:=q;grind
  rw[G,hB.cell]at C;grind
section
variable {w:World} {x cu:Value} {f:Nat} {ds:List Bool} {kf:Nat->Nat} {pf:Nat->Int} {BB:Nat->List BkT} {tot:Nat} {L:List Row} {p st:Nat}
end
end Go.Proofs.YtgobkbeokaaplaaGreatDoor
namespace Go.Wk
open Go.RowKit
variable {ds:List Nat}{l:List Oper}{b d i k t:Nat}{T:Nat->Bool}{v:Value}{w w' w0:World}
structure SF where
 p: Value->World->Prop
 st:∀ {v:Value} {w w':World},p v w->Ext w w'->p v w'
def SF.bk{cs:List Value}(h:Blk w b t cs): SF:=⟨λv _=>v=.agg cs.toArray,λh _=>h⟩
def SF.eq(c:Value): SF:=⟨λv _=>v=c,λh _=>h⟩
def Jzw(o:Oper)(k:Nat): Bool:=o.after.any λe=>Region.binds .any e && e.on == k
def accB(l:List Oper): Bool:=(List.range l.length).all λi=>match nth l i with
 | some o=>o.after.all λe=>!Region.binds .any e || Nat.blt e.on i
 | none=>true
def slM(vs:Nat->Value)(al:AL): List Nat->Nat->AL
 | [],_=>al
 | d::r,i=>(d,vs i)::slM vs al r (i+1)
theorem Jqp{vs:Nat->Value}{al:AL}{t:Nat}: ∀ {ds:List Nat} {i:Nat},t ∉ ds->lk (slM vs al ds i) t=lk al t
 | [],_,_=>rfl
 | d::r,i,h=>by
  unfold slM;rw[Gh _ _ (λe=>h (by grind))];exact Jqp λh'=>h (List.mem_cons_of_mem _ h')
theorem Iq{vs:Nat->Value}{al:AL}: ∀ {ds:List Nat} {i j:Nat},ds.Nodup->j<ds.length->lk (slM vs al ds i) (ds.getD j 0)=some (vs (i+j))
 | [],_,_,_,h=>by simp at h
 | d::r,i,0,_,_=>by unfold slM;simp[Jqq]
 | d::r,i,j+1,hn,hj=>by
  have hn':=List.nodup_cons.1 hn;have hj':j<r.length:=by simpa using hj
  unfold slM;have e:(d::r).getD (j+1) 0=r.getD j 0:=by simp
  rw[e];have hm:r.getD j 0∈r:=by grind
  rw[Gh _ _ (λe=>hn'.1 (by rw[e];exact hm)),Iq hn'.2 hj'];congr 2;omega
theorem Jww(h:t∈ds): ∃ j,j<ds.length/\ds.getD j 0=t:=by
 obtain⟨j,i,e⟩:=List.getElem_of_mem h;exact⟨j,i,by grind⟩
section
variable {P:Program} {n:Nat} {al:AL} {w:World} {Q:Exit->Act->World->Prop} {ops:Array Oper}
def toM(G:Act->World->Prop): Exit->Act->World->Prop
 | .normal,a,w=>G a w
 | _,_,_=>False
theorem Jfp{o:Oper}{G:Act->World->Prop}(ho:ops[i]?=some o)(h:WL P n ops (toM G) [o] al w): ∀ a,Fr n al a->wpOp P ops (QF Q) i G a w:=λa C=>by
 have j:=h a C;unfold wpList at j;unfold wpOp;simp only[ho];have u:¬ LetsOut (toM G):=by rintro⟨a,w,h⟩;exact h
 split
 .rename_i hw;simp only[hw,if_true]at j;rcases j with j|⟨_,j⟩
  .left
   refine Oper.wp_mono (K:=wpList P ops (toM G) []) (λJ w' D=>D) ?_;unfold Oper.wp at j ⊢;grind [Ux,toM]
  exact absurd j u
 rename_i hw;simp only[hw]at j;exact j
def PM(n:Nat)(al:AL)(w:World)(d:Nat)(F:SF)(a:Act)(w':World): Prop:=∃ v,Fr n ((d,v)::al) a/\Ext w w'/\F.p v w'
theorem Zf{F:SF}(hx:Ext w w')(h:F.p v w'): QX n (toM (PM n al w d F)) .normal ((d,v)::al) w':=λa i=>⟨v,i,hx,h⟩
def fiM(Fs:List SF)(k:Nat)(v:Value)(w:World): Prop:=(Fs.getD k ⟨λ_ _=>True,λ_ _=>trivial⟩).p v w
theorem fiM.ext{Fs:List SF}{w:World}(h:fiM Fs k v w)(hx:Ext w w'): fiM Fs k v w':=SF.st _ h hx
def OpM(P:Program)(n:Nat)(ops:Array Oper)(al:AL)(w0:World)(ds:List Nat)(Fs:List SF)(i:Nat)(o:Oper): Prop :=
 ∀ vs w1,Ext w0 w1->(∀ k,Jzw o k=true->fiM Fs k (vs k) w1)->WL P n ops (toM (PM n (slM vs al ds 0) w1 (ds.getD i 0) (Fs.getD i ⟨λ_ _=>True,λ_ _=>trivial⟩))) [o] (slM vs al ds 0) w1
def GoM(P:Program)(n:Nat)(ops:Array Oper)(al:AL)(w0:World)(ds:List Nat)(Fs:List SF): Nat->Nat->List Oper->Prop
 | 0,_,_=>True
 | _+1,_,[]=>True
 | m+1,i,o::r=>OpM P n ops al w0 ds Fs i o/\GoM P n ops al w0 ds Fs m (i+1) r
theorem GoM.get{w0:World}{ds:List Nat}{Fs:List SF}: ∀ {l:List Oper} {m s i:Nat} {o:Oper},GoM P n ops al w0 ds Fs m s l->i<m->l[i]?=some o->OpM P n ops al w0 ds Fs (s+i) o
 | [],_,_,_,_,_,_,h=>by simp at h
 | x::r,0,_,_,_,_,h0,_=>by omega
 | x::r,m+1,s,0,o,h,_,e=>by
  simp only[List.getElem?_cons_zero,Option.some.injEq]at e;subst e;exact h.1
 | x::r,m+1,s,i+1,o,h,h0,e=>by
  have:=GoM.get h.2 (by omega:i<m) (by simpa using e);grind
def ndB: List Nat->Bool
 | []=>true
 | d::r=>!(r.any λx=>Nat.beq d x) && ndB r
theorem Jzh: ∀ {ds:List Nat},ndB ds=true->ds.Nodup
 | [],_=>List.nodup_nil
 | d::r,h=>by
  simp only[ndB,Bool.and_eq_true,Bool.not_eq_true']at h;refine List.nodup_cons.2 ⟨λhm=>?_,Jzh h.2⟩;have:=List.any_eq_false.1 h.1 d hm;simp at this
def behB(ops:Array Oper)(F m q:Nat): Bool:=(List.range ops.size).all λi=>Nat.blt i m || (List.range m).all λj=>Nat.beq j q || Uh ops F i j
theorem Qzg(m k i:Nat): (lst m k)[i]?=if i<m then some (Nat.blt i k) else none:=by grind [lst]
theorem Qfq{m q F fuel':Nat}{Fs:List SF}(hml:m<=l.length)(hacc:accB l=true)(hbeh:behB l.toArray F m q=true)(hnd:ndB ds=true)(hlen:ds.length=m)(hfree:∀ d∈ds,lk al d=none)(hop:GoM P n l.toArray al w0 ds Fs m 0 l)(Yx:∀ vs w1,Ext w0 w1->(∀ k,k<m->fiM Fs k (vs k) w1)->WH P n l.toArray Q T fuel' (lst l.length m) (slM vs al ds 0) w1)(hend2:q<m->∀ vs w1,Ext w0 w1->(∀ k,k<m->k≠q->fiM Fs k (vs k) w1)->WH P n l.toArray Q T (fuel'+1) ((lst l.length m).setIfInBounds q false) (slM vs al ds 0) w1):
  ∀(us:List Nat) (listed:Array Bool) (a:Act) (w:World),us.Nodup->(∀ k,k<m->(listed.getD k true=false↔k∈us))->(∀ k,m<=k->k<l.length->listed.getD k true=false)->(∀ k∈us,k<m)->listed.size=l.length->Closed l.toArray listed->Fr n al a->Ext w0 w ->
   (∀ k,k<m->k ∉ us->fiM Fs k (a.tmps.getD (ds.getD k 0) undef) w)->Vn P l.toArray Q T (us.length+fuel') listed a w:=by
 have hN:=Jzh hnd;have G:∀ a:Act,Fr n al a->Fr n (slM (λj=>a.tmps.getD (ds.getD j 0) undef) al ds 0) a:=λa ha=>⟨ha.size,ha.defers,λt v h=>by
  by_cases hm:t∈ds
  .obtain⟨j,hj,e⟩:=Jww hm;rw[<-e,Iq hN hj]at h;grind
  rw[Jqp hm]at h;exact ha.has t v h⟩
 intro us;generalize hL:us.length=L
 induction L generalizing us with
 | zero=>
  intro listed a w hu O a4 a1 aa Z ha hx hf;have ad:us=[]:=List.length_eq_zero_iff.1 hL;subst ad;have e:listed=lst l.length m:=by
   refine Array.ext_getElem? λi=>?_;rw[Qzg];by_cases hi:i<l.length
   .rw[if_pos hi];have D:i<listed.size:=om
    by_cases a3:i<m
    .have J:=O i a3;have C:listed.getD i true=true:=by grind
     simp[D]at C;simp[D,C,Nat.blt];omega
    have C:=a4 i om hi;simp[D]at C;have h3:Nat.blt i m=false:=by
     cases hh:Nat.blt i m with
     | false=>rfl
     | true=>exact absurd (show i+1<=m by simpa [Nat.blt] using hh) om
    simp[D,C,h3]
   repeat grind
  rw[Nat.zero_add,e];rw[e]at Z;exact Yx _ w hx (λk hk=>hf k hk (by simp)) Z a (G a ha)
 | succ L ih=>
  intro listed a w hu O a4 a1 aa Z ha hx hf;rw[show L+1+fuel'=(L+fuel')+1 by omega];have a7:us≠[]:=by grind
  by_cases hq:us=[q]
  .have ab:q<m:=a1 q (by rw[hq];simp);have ak:L=0:=by grind
   have e:listed=(lst l.length m).setIfInBounds q false:=by
    refine Array.ext_getElem? λi=>?_;by_cases hqi:q=i
    .subst hqi;have J:=(O q ab).2 (by rw[hq];simp);have C:q<listed.size:=om
     simp[C]at J;grind [lst]
    rw[Array.getElem?_setIfInBounds_ne hqi,Qzg];by_cases hi:i<l.length
    .rw[if_pos hi];have D:i<listed.size:=om
     by_cases a3:i<m
     .have J:=O i a3;have C:listed.getD i true=true:=by grind
      simp[D]at C;simp[D,C,Nat.blt];omega
     have C:=a4 i om hi;simp[D]at C;have h3:Nat.blt i m=false:=by
      cases hh:Nat.blt i m with
      | false=>rfl
      | true=>exact absurd (show i+1<=m by simpa [Nat.blt] using hh) om
     simp[D,C,h3]
    repeat grind
   rw[ak,e,show 0+fuel'+1=fuel'+1 by omega];rw[e]at Z;exact hend2 ab _ w hx (λk hk av=>hf k hk (by grind)) Z a (G a ha)
  obtain⟨k0,ah,ao⟩:∃ k,k∈us/\k≠q:=by
   refine Classical.byContradiction λau=>?_;have G:∀ k∈us,k=q:=by grind
   apply hq
   match us,hu,a7,G with
   | [x],_,_,h=>rw[h x (by simp)]
   | x::y::r,hu,_,h=>
    have J:=h x (by simp);have C:=h y (by simp);grind
  refine⟨λhr=>?_,λi hi=>?_⟩
  .exfalso
   obtain⟨k,hk,an⟩:∃ k,k∈us/\∀ j,j<k->j ∉ us:=by
    have:∀ s k,k∈us->k<s->∃ k,k∈us/\∀ j,j<k->j ∉ us:=by
     intro s;induction s with
     | zero=>intro k _ h;omega
     | succ s ihs=>
      grind
    grind
   have a8:=a1 k hk;have ag:=(O k a8).2 hk;have a9:k<l.length:=om
   have ar:k∈Region.ready .any l.toArray listed:=by
    refine mem_ready.2 ⟨ag,l[k],by simp[a9],λe he hb=>?_⟩;have J:=List.all_eq_true.1 hacc k (List.mem_range.2 a9);have hn:nth l k=some l[k]:=by rw[Xm];simp[a9]
    rw[hn]at J;simp only[Array.all_eq_true_iff_forall_mem,Bool.or_eq_true,Bool.not_eq_true']at J;have C:=(J e he).resolve_left (by rw[hb];simp);have h3:e.on<k:=by(have:e.on+1<=k:=by simpa [Nat.blt] using C);(omega)
    grind
   grind
  obtain⟨ae,o,ho,ap⟩:=mem_ready.1 hi;have ac:l[i]?=some o:=by simpa using ho
  have ai:i<l.length:=by grind
  have a5:i<m:=by
   rcases Nat.lt_or_ge i m with h|h
   .exact h
   exfalso
   have J:=List.all_eq_true.1 hbeh i (List.mem_range.2 (by simpa using ai));simp only[Bool.or_eq_true]at J;have C:=J.resolve_left (by
    intro hh;have:i+1<=m:=by simpa [Nat.blt] using hh
    omega)
   have am:=List.all_eq_true.1 C k0 (List.mem_range.2 (a1 k0 ah));simp only[Bool.or_eq_true]at am;grind [Nat.eq_of_beq_eq_true,Jqc,Jqb]
  have a3:=(O i a5).1 ae;have hO:=GoM.get hop a5 ac;rw[Nat.zero_add]at hO;have hW:=hO (λj=>a.tmps.getD (ds.getD j 0) undef) w hx λk hk=>by
   unfold Jzw at hk;grind
  have J:=Jfp (Q:=Q) (ops:=l.toArray) (by simpa using ac) hW a (G a ha);refine wpOp_mono (λa' w' h=>?_) J;obtain⟨v,a2,a6,hF⟩:=h;have aj:lk ((ds.getD i 0,v)::slM (λj=>a.tmps.getD (ds.getD j 0) undef) al ds 0) (ds.getD i 0)=some v:=Jqq _ _ _;have ax:ds.getD i 0∈ds:=by grind
  refine⟨λ_=>a6,ih (us.erase i) (by grind) _ a' w' (hu.erase i) (λk a8=>?_) (λk J C=>?_) (λk hk=>a1 k (hu.mem_erase_iff.1 hk).2) (by simp[aa]) (Z.step hi) ?_ (hx.trans a6) λk hk aw=>?_⟩
  .by_cases e:i=k
   .subst e;have:i<listed.size:=om
    simp only[hu.mem_erase_iff];simp[this]
   rw[getD_set_ne true e,O k a8,hu.mem_erase_iff];grind
  .rw[getD_set_ne true om];exact a4 k J C
  .refine⟨a2.size,a2.defers,λt u aq=>?_⟩;have hm:t ∉ ds:=by grind
   exact a2.has t u (by grind [Gh,Jqp])
  by_cases e:k=i
  .subst e;rw[a2.has _ _ aj];exact hF
  have af:k ∉ us:=by grind
  have a7:ds.getD i 0≠ds.getD k 0:=λh=>by
   have J:=Iq (vs:=λj=>Value.int .i64 (j:Int)) (al:=[]) (i:=0) hN (j:=i) om;have C:=Iq (vs:=λj=>Value.int .i64 (j:Int)) (al:=[]) (i:=0) hN (j:=k) om;grind
  have h3:=a2.has (ds.getD k 0) _ (by rw[Gh _ _ a7];exact Iq hN om);simp only[Nat.zero_add]at h3;rw[h3];exact(hf k hk af).ext a6
theorem hmkq(m q F fuel':Nat)(ds:List Nat)(Fs:List SF)(hc:(accB l && behB l.toArray F m q && ndB ds && Nat.beq ds.length m && Nat.beq (m+fuel') l.length)=true)(hfree:(ds.all λd=>(lk al d).isNone)=true)(hop:GoM P n l.toArray al w ds Fs m 0 l)(Yx:∀ vs w1,Ext w w1->(∀ k,(hk:k<m:=by decide)->fiM Fs k (vs k) w1)->WH P n l.toArray Q T fuel' (lst l.length m) (slM vs al ds 0) w1)(hend2:q<m->∀ vs w1,Ext w w1->(∀ k,(hk:k<m:=by decide)->(hq:k≠q:=by decide)->fiM Fs k (vs k) w1)->WH P n l.toArray Q T (fuel'+1) ((lst l.length m).setIfInBounds q false) (slM vs al ds 0) w1): WH P n l.toArray Q T l.toArray.size (Array.replicate l.toArray.size false) al w:=λj a C=>by
 simp only[Bool.and_eq_true]at hc;obtain⟨⟨⟨⟨Z,O⟩,J⟩,G⟩,D⟩:=hc;have u:ds.length=m:=Nat.eq_of_beq_eq_true G;have o:m+fuel'=l.length:=Nat.eq_of_beq_eq_true D;have:=Qfq (Q:=Q) (T:=T) (F:=F) (q:=q) (fuel':=fuel') om Z O J u (λd hd=>by simpa using List.all_eq_true.1 hfree d hd) hop Yx hend2 (List.range m) (Array.replicate l.length false) a w List.nodup_range (λk hk=>?_) (λk _ h=>by simp[h]) (λk hk=>List.mem_range.1 hk) (by simp) (by simpa using j) C (Ext.refl w) λk hk i=>absurd (List.mem_range.2 hk) i
 .grind
 have:k<l.length:=om
 simp[this,hk]
theorem hmk(m F fuel':Nat)(ds:List Nat)(Fs:List SF)(hc:(accB l && behB l.toArray F m m && ndB ds && Nat.beq ds.length m && Nat.beq (m+fuel') l.length)=true)(hfree:(ds.all λd=>(lk al d).isNone)=true)(hop:GoM P n l.toArray al w ds Fs m 0 l)(Yx:∀ vs w1,Ext w w1->(∀ k,(hk:k<m:=by decide)->fiM Fs k (vs k) w1)->WH P n l.toArray Q T fuel' (lst l.length m) (slM vs al ds 0) w1): WH P n l.toArray Q T l.toArray.size (Array.replicate l.toArray.size false) al w :=
 hmkq m m F fuel' ds Fs hc hfree hop Yx λh=>absurd h (Nat.lt_irrefl m)
end
end Go.Wk
namespace Go.Wk
open Go.RowKit
variable {ds r us:List Nat}{l:List Oper}{Fs:List SF}{fuel i j k:Nat}{w0:World}
section
variable {P:Program} {n:Nat} {al:AL} {w:World} {Q:Exit->Act->World->Prop} {ops:Array Oper}
def stgB(l:List Oper)(F:Nat)(st st':Array Bool)(us:List Nat): Bool :=
 Nat.beq st.size l.length && Nat.beq st'.size l.length && ndB us && (us.all λk=>Nat.blt k l.length && !(st.getD k true)) &&
 (us.all λi=>match nth l i with
  | some o=>o.after.all λe=>!Region.binds .any e || (Nat.blt e.on l.length && st.getD e.on true) || (us.any (λj=>Nat.beq j e.on) && Nat.blt e.on i)
  | none=>false) &&
 ((List.range l.length).all λi=>st.getD i true || us.any (λj=>Nat.beq j i) || us.all λj=>Uh l.toArray F i j) &&
 ((List.range l.length).all λi=>st'.getD i true == (st.getD i true || us.any λj=>Nat.beq j i))
def OpS(P:Program)(n:Nat)(ops:Array Oper)(al:AL)(w0:World)(us ds:List Nat)(Fs:List SF)(i:Nat)(o:Oper): Prop :=
 ∀ vs w1,Ext w0 w1->(∀ j,j<us.length->Jzw o (us.getD j 0)=true->fiM Fs j (vs j) w1)->WL P n ops (toM (PM n (slM vs al ds 0) w1 (ds.getD i 0) (Fs.getD i ⟨λ_ _=>True,λ_ _=>trivial⟩))) [o] (slM vs al ds 0) w1
def GoS(P:Program)(n:Nat)(l:List Oper)(al:AL)(w0:World)(us ds:List Nat)(Fs:List SF): Nat->List Nat->Prop
 | _,[]=>True
 | i,k::r=>(∀ o,nth l k=some o->OpS P n l.toArray al w0 us ds Fs i o)/\GoS P n l al w0 us ds Fs (i+1) r
theorem GoS.get{w0:World}{l:List Oper}{us ds:List Nat}{Fs:List SF}: ∀ {r:List Nat} {s i:Nat} {o:Oper},GoS P n l al w0 us ds Fs s r->i<r.length->nth l (r.getD i 0)=some o->OpS P n l.toArray al w0 us ds Fs (s+i) o
 | [],_,_,_,_,h,_=>by simp at h
 | x::r,s,0,o,h,_,e=>h.1 o e
 | x::r,s,i+1,o,h,h0,e=>by
  have:=GoS.get h.2 (by simpa using h0:i<r.length) (by simpa using e);rwa [show s+(i+1)=s+1+i by omega]
theorem gsc{o:Oper}(h:∀ vs w1,Ext w0 w1->(∀ j,(hj:j<us.length:=by decide)->(hk:Jzw o (us.getD j 0)=true:=by kernel_rfl)->fiM Fs j (vs j) w1)->WL P n l.toArray (toM (PM n (slM vs al ds 0) w1 (ds.getD i 0) (Fs.getD i ⟨λ_ _=>True,λ_ _=>trivial⟩))) [o] (slM vs al ds 0) w1)(h2:GoS P n l al w0 us ds Fs (i+1) r)(ho:nth l k=some o:=by rfl): GoS P n l al w0 us ds Fs i (k::r):=⟨λC u=>by rw[ho]at u;injection u with u;subst u;exact h,h2⟩
theorem gse: GoS P n l al w0 us ds Fs i []:=trivial
theorem Jwq(h:us.Nodup)(hi:i<us.length)(hj:j<us.length)(e:us.getD i 0=us.getD j 0): i=j:=by grind [List.getElem?_eq_getElem,List.pairwise_iff_getElem.1,Nat.lt_trichotomy]
theorem hmkS{T:Nat->Bool}(F fuel':Nat)(st st':Array Bool)(us ds:List Nat)(Fs:List SF)(hc:(stgB l F st st' us && ndB ds && Nat.beq ds.length us.length && Nat.beq (us.length+fuel') fuel)=true)(hfree:(ds.all λd=>(lk al d).isNone)=true)(hop:GoS P n l al w us ds Fs 0 us)(Yx:∀ vs w1,Ext w w1->(∀ j,(hj:j<us.length:=by decide)->fiM Fs j (vs j) w1)->WH P n l.toArray Q T fuel' st' (slM vs al ds 0) w1): WH P n l.toArray Q T fuel st al w:=λa3 a ha=>by
 simp only[Bool.and_eq_true]at hc;obtain⟨⟨⟨h0,h4⟩,h5⟩,h6⟩:=hc;unfold stgB at h0;simp only[Bool.and_eq_true]at h0;obtain⟨⟨⟨⟨⟨⟨c1,c2⟩,c3⟩,c4⟩,c5⟩,c6⟩,c7⟩:=h0;have ap:st.size=l.length:=Nat.eq_of_beq_eq_true c1;have b2:st'.size=l.length:=Nat.eq_of_beq_eq_true c2;have hU:=Jzh c3;have hN:=Jzh h4;have hl:ds.length=us.length:=Nat.eq_of_beq_eq_true h5;have ay:us.length+fuel'=fuel:=Nat.eq_of_beq_eq_true h6;have az:∀ d∈ds,lk al d=none:=λd hd=>by simpa using List.all_eq_true.1 hfree d hd
 have a2:∀ j,j<us.length->us.getD j 0<l.length/\st.getD (us.getD j 0) true=false:=λj hj=>by
  have Z:us.getD j 0∈us:=by rw[List.getD_eq_getElem?_getD,List.getElem?_eq_getElem hj];exact List.getElem_mem _
  have:=List.all_eq_true.1 c4 _ Z;simp only[Bool.and_eq_true,Bool.not_eq_true']at this;exact⟨by(have h:us.getD j 0+1<=l.length:=by simpa [Nat.blt] using this.1);omega,this.2⟩
 have a6:∀ k,(us.any λj=>Nat.beq j k)=true->∃ j,j<us.length/\us.getD j 0=k:=λk hk=>by
  rw[List.any_eq_true]at hk;obtain⟨u,hu,e⟩:=hk;have e:=Nat.eq_of_beq_eq_true e;subst e;exact Jww hu
 have a8:∀ a:Act,Fr n al a->Fr n (slM (λj=>a.tmps.getD (ds.getD j 0) undef) al ds 0) a:=λa ha=>⟨ha.size,ha.defers,λt v h=>by
  by_cases Z:t∈ds
  .obtain⟨j,hj,e⟩:=Jww Z;rw[<-e,Iq hN hj]at h;simp only[Nat.zero_add,Option.some.injEq]at h;rw[<-e];exact h
  rw[Jqp Z]at h;exact ha.has t v h⟩
 suffices key:∀(L:Nat) (ps:List Nat) (C:Array Bool) (a:Act) (w1:World),ps.length=L->ps.Nodup->(∀ j∈ps,j<us.length)->(∀ j,j<us.length->(C.getD (us.getD j 0) true=false↔j∈ps))->(∀ k,k<l.length->(∀ j,j<us.length->us.getD j 0≠k)->C.getD k true=st.getD k true)->C.size=l.length->Closed l.toArray C->Fr n al a->Ext w w1 ->
   (∀ j,j<us.length->j ∉ ps->fiM Fs j (a.tmps.getD (ds.getD j 0) undef) w1)->Vn P l.toArray Q T (L+fuel') C a w1 by
  have:=key us.length (List.range us.length) st a w List.length_range List.nodup_range (λj hj=>List.mem_range.1 hj) (λj hj=>⟨λ_=>List.mem_range.2 hj,λ_=>(a2 j hj).2⟩) (λk _ _=>rfl) ap a3 ha (Ext.refl w) λj hj h=>absurd (List.mem_range.2 hj) h;rwa [ay]at this
 intro L;induction L with
 | zero=>
  intro ps C a w1 hL hu a4 J a7 ae a3 ha hx hf;have ai:ps=[]:=List.length_eq_zero_iff.1 hL;subst ai;have e:C=st':=by
   refine Array.ext_getElem? λi=>?_;by_cases hi:i<l.length
   .have h7:=List.all_eq_true.1 c7 i (List.mem_range.2 hi);rw[beq_iff_eq]at h7;have h8:C.getD i true=st'.getD i true:=by
     rw[h7];by_cases Z:∃ j,j<us.length/\us.getD j 0=i
     .obtain⟨j,hj,e⟩:=Z;have D:=J j hj;rw[e]at D;have G:C.getD i true=true:=by
       cases hh:C.getD i true with
       | true=>rfl
       | false=>exact absurd (D.1 hh) (by simp)
      rw[G];symm
      rw[Bool.or_eq_true];right
      rw[List.any_eq_true];refine⟨us.getD j 0,?_,by rw[e];simp⟩;rw[List.getD_eq_getElem?_getD,List.getElem?_eq_getElem hj];exact List.getElem_mem _
     have D:∀ j,j<us.length->us.getD j 0≠i:=λj hj e=>Z ⟨j,hj,e⟩;rw[a7 i hi D];have G:(us.any λj=>Nat.beq j i)=false:=by
      cases hh:us.any λj=>Nat.beq j i with
      | false=>rfl
      | true=>exact absurd (a6 i hh) Z
     rw[G,Bool.or_false]
    have h9:i<C.size:=om
    have ao:i<st'.size:=om
    simp[h9,ao]at h8;simp[h9,ao,h8]
   rw[Array.getElem?_eq_none om,Array.getElem?_eq_none om]
  rw[Nat.zero_add,e];rw[e]at a3;exact Yx _ w1 hx (λj hj=>hf j hj (by simp)) a3 a (a8 a ha)
 | succ L ih=>
  intro ps C a w1 hL hu a4 J a7 ae a3 ha hx hf;rw[show L+1+fuel'=(L+fuel')+1 by omega];have ad:ps≠[]:=λe=>by rw[e]at hL;cases hL
  obtain⟨p0,a5⟩:∃ p,p∈ps:=by
   cases ps with
   | nil=>exact absurd rfl ad
   | cons p r=>exact⟨p,List.mem_cons_self⟩
  refine⟨λhr=>?_,λi hi=>?_⟩
  .exfalso
   obtain⟨p,hp,aj⟩:∃ p,p∈ps/\∀ q∈ps,us.getD p 0<=us.getD q 0:=by
    have:∀ s p,p∈ps->us.getD p 0<s->∃ p,p∈ps/\∀ q∈ps,us.getD p 0<=us.getD q 0:=by
     intro s;induction s with
     | zero=>intro p _ h;omega
     | succ s ihs=>
      intro p hp ag;by_cases h:∃ q,q∈ps/\us.getD q 0<us.getD p 0
      .obtain⟨q,hq,b3⟩:=h;exact ihs q hq om
      exact⟨p,hp,λq hq=>by
       rcases Nat.lt_or_ge (us.getD q 0) (us.getD p 0) with h'|h'
       .exact absurd ⟨q,hq,h'⟩ h
       exact h'⟩
    exact this (us.getD p0 0+1) p0 a5 om
   have O:=a4 p hp;obtain⟨b4,_⟩:=a2 p O;have au:=(J p O).2 hp;have af:us.getD p 0∈Region.ready .any l.toArray C:=by
    refine mem_ready.2 ⟨au,l[us.getD p 0],by simp,λe he hb=>?_⟩;have Z:us.getD p 0∈us:=by rw[List.getD_eq_getElem?_getD,List.getElem?_eq_getElem O];exact List.getElem_mem _
    have D:=List.all_eq_true.1 c5 _ Z;have hn:nth l (us.getD p 0)=some l[us.getD p 0]:=by rw[Xm];simp
    rw[hn]at D;simp only[Array.all_eq_true_iff_forall_mem,Bool.or_eq_true,Bool.not_eq_true',Bool.and_eq_true]at D;have G:=D e he;rw[hb]at G;have h5:C.getD e.on true=true/\e.on<C.size:=by
     rcases G with(G|⟨h3,G⟩)|⟨G,h3⟩
     .cases G
     .have an:e.on<l.length:=by(have:e.on+1<=l.length:=by simpa [Nat.blt] using h3);omega
      refine⟨?_,om⟩;by_cases hm2:∃ j,j<us.length/\us.getD j 0=e.on
      .obtain⟨j,hj,e2⟩:=hm2;have:=(a2 j hj).2;rw[e2,G]at this;cases this
      rw[a7 _ an λj hj e2=>hm2 ⟨j,hj,e2⟩];exact G
     obtain⟨j,hj,e2⟩:=a6 _ G;have an:e.on<us.getD p 0:=by(have:e.on+1<=us.getD p 0:=by simpa [Nat.blt] using h3);(omega)
     refine⟨?_,om⟩;cases hh:C.getD e.on true with
     | true=>rfl
     | false=>
      rw[<-e2]at hh;have h6:=(J j hj).1 hh;have:=aj j h6;omega
    have h6:=h5.2;have h7:=h5.1;simp[h6]at h7 ⊢;exact h7
   rw[hr]at af;cases af
  obtain⟨aa,o,ho,am⟩:=mem_ready.1 hi;have ac:l[i]?=some o:=by simpa using ho
  have ak:i<l.length:=(List.getElem?_eq_some_iff.1 ac).1;obtain⟨p,O,aq⟩:∃ j,j<us.length/\us.getD j 0=i:=by
   refine Classical.byContradiction λah=>?_;have D:=List.all_eq_true.1 c6 i (List.mem_range.2 ak);simp only[Bool.or_eq_true]at D;have G:=a7 i ak λj hj e=>ah ⟨j,hj,e⟩;rcases D with(D|D)|D
   .rw[D]at G;rw[G]at aa;cases aa
   .exact ah (a6 i D)
   have Z:us.getD p0 0∈us:=by rw[List.getD_eq_getElem?_getD,List.getElem?_eq_getElem (a4 p0 a5)];exact List.getElem_mem _
   have h3:=List.all_eq_true.1 D _ Z;have h4:=Jqc a3 F i (us.getD p0 0) o ho (Jqb ho hi) h3;have h5:=(J p0 (a4 p0 a5)).2 a5;have h6:us.getD p0 0<C.size:=by have:=(a2 p0 (a4 p0 a5)).1;omega
   generalize us.getD p0 0=k0 at h4 h5 h6
   simp[h6]at h4 h5;rw[h4]at h5;cases h5
  subst aq;have ag:=(J p O).1 aa;have hO:=GoS.get hop O (by rw[Xm];exact ac);rw[Nat.zero_add]at hO;have hW:=hO (λj=>a.tmps.getD (ds.getD j 0) undef) w1 hx λj hj hk=>by
   unfold Jzw at hk;rw[Array.any_eq_true']at hk;obtain⟨e,he,D⟩:=hk;simp only[Bool.and_eq_true,beq_iff_eq]at D;have G:=am e he D.1;rw[D.2]at G;have h3:us.getD j 0<C.size:=by have:=(a2 j hj).1;omega
   refine hf j hj λav=>?_;have h4:=(J j hj).2 av;generalize us.getD j 0=k0 at G h3 h4
   simp[h3]at G h4;rw[G]at h4;cases h4
  have D:=Jfp (Q:=Q) (ops:=l.toArray) (by simpa using ac) hW a (a8 a ha);refine wpOp_mono (λa' w' h=>?_) D;obtain⟨v,a1,a9,hF⟩:=h;have b1:lk ((ds.getD p 0,v)::slM (λj=>a.tmps.getD (ds.getD j 0) undef) al ds 0) (ds.getD p 0)=some v:=Jqq _ _ _;have ax:ds.getD p 0∈ds:=by rw[List.getD_eq_getElem?_getD,List.getElem?_eq_getElem om];exact List.getElem_mem _
  refine⟨λ_=>a9,ih (ps.erase p) _ a' w' (by rw[List.length_erase_of_mem ag,hL];omega) (hu.erase p) (λj hj=>a4 j (hu.mem_erase_iff.1 hj).2) (λj hj=>?_) (λk D G=>?_) (by simp[ae]) (a3.step hi) ?_ (hx.trans a9) λj hj aw=>?_⟩
  .by_cases e:p=j
   .subst e;have:us.getD p 0<C.size:=om
    simp only[hu.mem_erase_iff];simp
   rw[getD_set_ne true (λe2=>e (Jwq hU O hj e2)),J j hj,hu.mem_erase_iff];exact⟨λh=>⟨λh'=>e h'.symm,h⟩,λh=>h.2⟩
  .rw[getD_set_ne true (G p O)];exact a7 k D G
  .refine⟨a1.size,a1.defers,λt u ab=>?_⟩;have Z:t ∉ ds:=λZ=>by rw[az t Z]at ab;cases ab
   exact a1.has t u (by rw[Gh _ _ (λe=>Z (by rw[<-e];exact ax)),Jqp Z];exact ab)
  by_cases e:j=p
  .subst e;rw[a1.has _ _ b1];exact hF
  have ar:j ∉ ps:=λh=>aw (hu.mem_erase_iff.2 ⟨e,h⟩);have ad:ds.getD p 0≠ds.getD j 0:=λh=>e (Jwq hN om om h.symm);have h3:=a1.has (ds.getD j 0) _ (by rw[Gh _ _ ad];exact Iq hN om);simp only[Nat.zero_add]at h3;rw[h3];exact(hf j hj ar).ext a9
end
end Go.Wk
namespace Go.Wk
open Go.RowKit
section
variable {P:Program} {n:Nat} {al:AL} {w:World} {Q:Exit->Act->World->Prop} {ops:Array Oper}
def stgQ(l:List Oper)(F q:Nat)(st st':Array Bool)(us:List Nat): Bool :=
 Nat.beq st.size l.length && Nat.beq st'.size l.length && ndB us && (us.all λk=>Nat.blt k l.length && !(st.getD k true)) &&
 (us.all λi=>match nth l i with
  | some o=>o.after.all λe=>!Region.binds .any e || (Nat.blt e.on l.length && st.getD e.on true) || (us.any (λj=>Nat.beq j e.on) && Nat.blt e.on i)
  | none=>false) &&
 ((List.range l.length).all λi=>st.getD i true || us.any (λj=>Nat.beq j i) || us.all λj=>Nat.beq j q || Uh l.toArray F i j) &&
 ((List.range l.length).all λi=>st'.getD i true == (st.getD i true || us.any λj=>Nat.beq j i))
theorem Qwf{T:Nat->Bool}{l:List Oper}(F q fuel':Nat)(st st':Array Bool)(us ds:List Nat)(Fs:List SF){fuel:Nat}(hc:(stgQ l F q st st' us && ndB ds && Nat.beq ds.length us.length && Nat.beq (us.length+fuel') fuel)=true)(hfree:(ds.all λd=>(lk al d).isNone)=true)(hop:GoS P n l al w us ds Fs 0 us)(Yx:∀ vs w1,Ext w w1->(∀ j,(hj:j<us.length:=by decide)->fiM Fs j (vs j) w1)->WH P n l.toArray Q T fuel' st' (slM vs al ds 0) w1)(hend2:q<l.length->∀ vs w1,Ext w w1->(∀ j,(hj:j<us.length:=by decide)->(hq:us.getD j 0≠q:=by decide)->fiM Fs j (vs j) w1)->WH P n l.toArray Q T (fuel'+1) (st'.setIfInBounds q false) (slM vs al ds 0) w1): WH P n l.toArray Q T fuel st al w:=λa2 a ha=>by
 simp only[Bool.and_eq_true]at hc;obtain⟨⟨⟨h0,h4⟩,h5⟩,h6⟩:=hc;unfold stgQ at h0;simp only[Bool.and_eq_true]at h0;obtain⟨⟨⟨⟨⟨⟨c1,c2⟩,c3⟩,c4⟩,c5⟩,c6⟩,c7⟩:=h0;have au:st.size=l.length:=Nat.eq_of_beq_eq_true c1;have b7:st'.size=l.length:=Nat.eq_of_beq_eq_true c2;have hU:=Jzh c3;have hN:=Jzh h4;have hl:ds.length=us.length:=Nat.eq_of_beq_eq_true h5;have b3:us.length+fuel'=fuel:=Nat.eq_of_beq_eq_true h6;have b4:∀ d∈ds,lk al d=none:=λd hd=>by simpa using List.all_eq_true.1 hfree d hd
 have Z:∀ j,j<us.length->us.getD j 0<l.length/\st.getD (us.getD j 0) true=false:=λj hj=>by
  have O:us.getD j 0∈us:=by rw[List.getD_eq_getElem?_getD,List.getElem?_eq_getElem hj];exact List.getElem_mem _
  have:=List.all_eq_true.1 c4 _ O;simp only[Bool.and_eq_true,Bool.not_eq_true']at this;exact⟨by(have h:us.getD j 0+1<=l.length:=by simpa [Nat.blt] using this.1);omega,this.2⟩
 have a6:∀ k,(us.any λj=>Nat.beq j k)=true->∃ j,j<us.length/\us.getD j 0=k:=λk hk=>by
  rw[List.any_eq_true]at hk;obtain⟨u,hu,e⟩:=hk;have e:=Nat.eq_of_beq_eq_true e;subst e;exact Jww hu
 have a9:∀ a:Act,Fr n al a->Fr n (slM (λj=>a.tmps.getD (ds.getD j 0) undef) al ds 0) a:=λa ha=>⟨ha.size,ha.defers,λt v h=>by
  by_cases O:t∈ds
  .obtain⟨j,hj,e⟩:=Jww O;rw[<-e,Iq hN hj]at h;simp only[Nat.zero_add,Option.some.injEq]at h;rw[<-e];exact h
  rw[Jqp O]at h;exact ha.has t v h⟩
 suffices key:∀(L:Nat) (ps:List Nat) (C:Array Bool) (a:Act) (w1:World),ps.length=L->ps.Nodup->(∀ j∈ps,j<us.length)->(∀ j,j<us.length->(C.getD (us.getD j 0) true=false↔j∈ps))->(∀ k,k<l.length->(∀ j,j<us.length->us.getD j 0≠k)->C.getD k true=st.getD k true)->C.size=l.length->Closed l.toArray C->Fr n al a->Ext w w1 ->
   (∀ j,j<us.length->j ∉ ps->fiM Fs j (a.tmps.getD (ds.getD j 0) undef) w1)->Vn P l.toArray Q T (L+fuel') C a w1 by
  have:=key us.length (List.range us.length) st a w List.length_range List.nodup_range (λj hj=>List.mem_range.1 hj) (λj hj=>⟨λ_=>List.mem_range.2 hj,λ_=>(Z j hj).2⟩) (λk _ _=>rfl) au a2 ha (Ext.refl w) λj hj h=>absurd (List.mem_range.2 hj) h;rwa [b3]at this
 intro L;induction L with
 | zero=>
  intro ps C a w1 hL hu a1 J a7 af a2 ha hx hf;have an:ps=[]:=List.length_eq_zero_iff.1 hL;subst an;have e:C=st':=by
   refine Array.ext_getElem? λi=>?_;by_cases hi:i<l.length
   .have h7:=List.all_eq_true.1 c7 i (List.mem_range.2 hi);rw[beq_iff_eq]at h7;have h8:C.getD i true=st'.getD i true:=by
     rw[h7];by_cases O:∃ j,j<us.length/\us.getD j 0=i
     .obtain⟨j,hj,e⟩:=O;have D:=J j hj;rw[e]at D;have G:C.getD i true=true:=by
       cases hh:C.getD i true with
       | true=>rfl
       | false=>exact absurd (D.1 hh) (by simp)
      rw[G];symm
      rw[Bool.or_eq_true];right
      rw[List.any_eq_true];refine⟨us.getD j 0,?_,by rw[e];simp⟩;rw[List.getD_eq_getElem?_getD,List.getElem?_eq_getElem hj];exact List.getElem_mem _
     have D:∀ j,j<us.length->us.getD j 0≠i:=λj hj e=>O ⟨j,hj,e⟩;rw[a7 i hi D];have G:(us.any λj=>Nat.beq j i)=false:=by
      cases hh:us.any λj=>Nat.beq j i with
      | false=>rfl
      | true=>exact absurd (a6 i hh) O
     rw[G,Bool.or_false]
    have h9:i<C.size:=om
    have a5:i<st'.size:=om
    simp[h9,a5]at h8;simp[h9,a5,h8]
   rw[Array.getElem?_eq_none om,Array.getElem?_eq_none om]
  rw[Nat.zero_add,e];rw[e]at a2;exact Yx _ w1 hx (λj hj=>hf j hj (by simp)) a2 a (a9 a ha)
 | succ L ih=>
  intro ps C a w1 hL hu a1 J a7 af a2 ha hx hf;by_cases hq0:∀ p∈ps,us.getD p 0=q
  .have b6:L=0:=by
    rcases Nat.eq_zero_or_pos L with h|h
    .exact h
    exfalso
    obtain⟨x,y,r,rfl⟩:∃ x y r,ps=x::y::r:=by
     match ps,hL with
     | [],h'=>simp at h'
     | [x],h'=>simp at h';omega
     | x::y::r,_=>exact⟨x,y,r,rfl⟩
    have D:=hq0 x (by simp);have G:=hq0 y (by simp);have h3:=Jwq hU (a1 x (by simp)) (a1 y (by simp)) (by rw[D,G]);have:=(List.nodup_cons.1 hu).1;rw[h3]at this;exact this (by simp)
   subst b6;obtain⟨p,rfl⟩:∃ p,ps=[p]:=List.length_eq_one_iff.1 om;have aa:=hq0 p (by simp);have ak:=a1 p (by simp);have ah:=(Z p ak).1;rw[aa]at ah;have e:C=st'.setIfInBounds q false:=by
    refine Array.ext_getElem? λi=>?_;by_cases hi:i<l.length
    .have h7:=List.all_eq_true.1 c7 i (List.mem_range.2 hi);rw[beq_iff_eq]at h7;have h8:C.getD i true=(st'.setIfInBounds q false).getD i true:=by
      by_cases hiq:i=q
      .have D:=(J p ak).2 (by simp);rw[aa]at D;rw[hiq,D];have:q<st'.size:=om
       simp[this]
      have a5:(st'.setIfInBounds q false).getD i true=st'.getD i true:=by
       have h9:i<st'.size:=om
       simp[h9,Ne.symm hiq]
      rw[a5,h7];by_cases O:∃ j,j<us.length/\us.getD j 0=i
      .obtain⟨j,hj,e⟩:=O;have D:=J j hj;rw[e]at D;have G:C.getD i true=true:=by
        cases hh:C.getD i true with
        | true=>rfl
        | false=>
         have:=List.mem_singleton.1 (D.1 hh);rw[this,aa]at e;exact absurd e.symm hiq
       rw[G];symm
       rw[Bool.or_eq_true];right
       rw[List.any_eq_true];refine⟨us.getD j 0,?_,by rw[e];simp⟩;rw[List.getD_eq_getElem?_getD,List.getElem?_eq_getElem hj];exact List.getElem_mem _
      have D:∀ j,j<us.length->us.getD j 0≠i:=λj hj e=>O ⟨j,hj,e⟩;rw[a7 i hi D];have G:(us.any λj=>Nat.beq j i)=false:=by
       cases hh:us.any λj=>Nat.beq j i with
       | false=>rfl
       | true=>exact absurd (a6 i hh) O
      rw[G,Bool.or_false]
     have h9:i<C.size:=om
     have a5:i<(st'.setIfInBounds q false).size:=by rw[Array.size_setIfInBounds];omega
     rw[Array.getElem?_eq_getElem h9,Array.getElem?_eq_getElem a5];rw[Array.getD,Array.getD,dif_pos h9,dif_pos a5]at h8;exact congrArg some h8
    rw[Array.getElem?_eq_none om,Array.getElem?_eq_none (by rw[Array.size_setIfInBounds];omega)]
   rw[show 0+1+fuel'=fuel'+1 by omega,e];rw[e]at a2;exact hend2 ah _ w1 hx (λj hj hq=>hf j hj (λh=>hq (by rw[List.mem_singleton.1 h];exact aa))) a2 a (a9 a ha)
  obtain⟨p0,a8,aj⟩:∃ p,p∈ps/\us.getD p 0≠q:=by
   refine Classical.byContradiction λh=>hq0 λp hp=>Classical.byContradiction λG=>h ⟨p,hp,G⟩
  rw[show L+1+fuel'=(L+fuel')+1 by omega];refine⟨λhr=>?_,λi hi=>?_⟩
  .exfalso
   obtain⟨p,hp,ao⟩:∃ p,p∈ps/\∀ q∈ps,us.getD p 0<=us.getD q 0:=by
    have:∀ s p,p∈ps->us.getD p 0<s->∃ p,p∈ps/\∀ q∈ps,us.getD p 0<=us.getD q 0:=by
     intro s;induction s with
     | zero=>intro p _ h;omega
     | succ s ihs=>
      intro p hp ai;by_cases h:∃ q,q∈ps/\us.getD q 0<us.getD p 0
      .obtain⟨q,hq,b8⟩:=h;exact ihs q hq om
      exact⟨p,hp,λq hq=>by
       rcases Nat.lt_or_ge (us.getD q 0) (us.getD p 0) with h'|h'
       .exact absurd ⟨q,hq,h'⟩ h
       exact h'⟩
    exact this (us.getD p0 0+1) p0 a8 om
   have a3:=a1 p hp;obtain⟨b9,_⟩:=Z p a3;have ay:=(J p a3).2 hp;have ag:us.getD p 0∈Region.ready .any l.toArray C:=by
    refine mem_ready.2 ⟨ay,l[us.getD p 0],by simp,λe he hb=>?_⟩;have O:us.getD p 0∈us:=by rw[List.getD_eq_getElem?_getD,List.getElem?_eq_getElem a3];exact List.getElem_mem _
    have D:=List.all_eq_true.1 c5 _ O;have hn:nth l (us.getD p 0)=some l[us.getD p 0]:=by rw[Xm];simp
    rw[hn]at D;simp only[Array.all_eq_true_iff_forall_mem,Bool.or_eq_true,Bool.not_eq_true',Bool.and_eq_true]at D;have G:=D e he;rw[hb]at G;have h5:C.getD e.on true=true/\e.on<C.size:=by
     rcases G with(G|⟨h3,G⟩)|⟨G,h3⟩
     .cases G
     .have ar:e.on<l.length:=by(have:e.on+1<=l.length:=by simpa [Nat.blt] using h3);omega
      refine⟨?_,om⟩;by_cases hm2:∃ j,j<us.length/\us.getD j 0=e.on
      .obtain⟨j,hj,e2⟩:=hm2;have:=(Z j hj).2;rw[e2,G]at this;cases this
      rw[a7 _ ar λj hj e2=>hm2 ⟨j,hj,e2⟩];exact G
     obtain⟨j,hj,e2⟩:=a6 _ G;have ar:e.on<us.getD p 0:=by(have:e.on+1<=us.getD p 0:=by simpa [Nat.blt] using h3);(omega)
     refine⟨?_,om⟩;cases hh:C.getD e.on true with
     | true=>rfl
     | false=>
      rw[<-e2]at hh;have h6:=(J j hj).1 hh;have:=ao j h6;omega
    have h6:=h5.2;have h7:=h5.1;simp[h6]at h7 ⊢;exact h7
   rw[hr]at ag;cases ag
  obtain⟨ac,o,ho,aq⟩:=mem_ready.1 hi;have ae:l[i]?=some o:=by simpa using ho
  have ap:i<l.length:=(List.getElem?_eq_some_iff.1 ae).1;obtain⟨p,a3,av⟩:∃ j,j<us.length/\us.getD j 0=i:=by
   refine Classical.byContradiction λam=>?_;have D:=List.all_eq_true.1 c6 i (List.mem_range.2 ap);simp only[Bool.or_eq_true]at D;have G:=a7 i ap λj hj e=>am ⟨j,hj,e⟩;rcases D with(D|D)|D
   .rw[D]at G;rw[G]at ac;cases ac
   .exact am (a6 i D)
   have O:us.getD p0 0∈us:=by rw[List.getD_eq_getElem?_getD,List.getElem?_eq_getElem (a1 p0 a8)];exact List.getElem_mem _
   have h3:=List.all_eq_true.1 D _ O;rw[Bool.or_eq_true]at h3;have h3:=h3.resolve_left λh=>aj (Nat.eq_of_beq_eq_true h);have h4:=Jqc a2 F i (us.getD p0 0) o ho (Jqb ho hi) h3;have h5:=(J p0 (a1 p0 a8)).2 a8;have h6:us.getD p0 0<C.size:=by have:=(Z p0 (a1 p0 a8)).1;omega
   generalize us.getD p0 0=k0 at h4 h5 h6
   simp[h6]at h4 h5;rw[h4]at h5;cases h5
  subst av;have ai:=(J p a3).1 ac;have hO:=GoS.get hop a3 (by rw[Xm];exact ae);rw[Nat.zero_add]at hO;have hW:=hO (λj=>a.tmps.getD (ds.getD j 0) undef) w1 hx λj hj hk=>by
   unfold Jzw at hk;rw[Array.any_eq_true']at hk;obtain⟨e,he,D⟩:=hk;simp only[Bool.and_eq_true,beq_iff_eq]at D;have G:=aq e he D.1;rw[D.2]at G;have h3:us.getD j 0<C.size:=by have:=(Z j hj).1;omega
   refine hf j hj λaz=>?_;have h4:=(J j hj).2 az;generalize us.getD j 0=k0 at G h3 h4
   simp[h3]at G h4;rw[G]at h4;cases h4
  have D:=Jfp (Q:=Q) (ops:=l.toArray) (by simpa using ae) hW a (a9 a ha);refine wpOp_mono (λa' w' h=>?_) D;obtain⟨v,a4,ab,hF⟩:=h;have b5:lk ((ds.getD p 0,v)::slM (λj=>a.tmps.getD (ds.getD j 0) undef) al ds 0) (ds.getD p 0)=some v:=Jqq _ _ _;have b2:ds.getD p 0∈ds:=by rw[List.getD_eq_getElem?_getD,List.getElem?_eq_getElem om];exact List.getElem_mem _
  refine⟨λ_=>ab,ih (ps.erase p) _ a' w' (by rw[List.length_erase_of_mem ai,hL];omega) (hu.erase p) (λj hj=>a1 j (hu.mem_erase_iff.1 hj).2) (λj hj=>?_) (λk D G=>?_) (by simp[af]) (a2.step hi) ?_ (hx.trans ab) λj hj b1=>?_⟩
  .by_cases e:p=j
   .subst e;have:us.getD p 0<C.size:=om
    simp only[hu.mem_erase_iff];simp
   rw[getD_set_ne true (λe2=>e (Jwq hU a3 hj e2)),J j hj,hu.mem_erase_iff];exact⟨λh=>⟨λh'=>e h'.symm,h⟩,λh=>h.2⟩
  .rw[getD_set_ne true (G p a3)];exact a7 k D G
  .refine⟨a4.size,a4.defers,λt u ad=>?_⟩;have O:t ∉ ds:=λO=>by rw[b4 t O]at ad;cases ad
   exact a4.has t u (by rw[Gh _ _ (λe=>O (by rw[<-e];exact b2)),Jqp O];exact ad)
  by_cases e:j=p
  .subst e;rw[a4.has _ _ b5];exact hF
  have ax:j ∉ ps:=λh=>b1 (hu.mem_erase_iff.2 ⟨e,h⟩);have aw:ds.getD p 0≠ds.getD j 0:=λh=>e (Jwq hN om om h.symm);have h3:=a4.has (ds.getD j 0) _ (by rw[Gh _ _ aw];exact Iq hN om);simp only[Nat.zero_add]at h3;rw[h3];exact(hf j hj ax).ext ab
end
end Go.Wk
namespace Go.Proofs.YtgobkbeokaaplaaGreatDoor
open Go.RowKit Pl Go.Wk
attribute [local irreducible] WC WL QX WD WDB WP WN WG WH WM
variable {cs:List Value}{b n st t:Nat}{cu v x:Value}{w:World}
theorem Xjb(h:NatV w v n)(hB:Blk w b t cs)(hs:∀ u∈cs,∀ z,u≠.int .u32 z): Off (λk=>k=b) w λu=>NatV u v n:=by
 obtain⟨A,c,rfl,j,G,D⟩:=h;refine(Iu D λh0 C e (e2:C.block=b)=>?_).imp λu J=>⟨A,c,rfl,j,G,J⟩;obtain⟨a1,o,O,i⟩:=D.2 h0;rw[e]at o;injection o with o
 subst o;rw[Qds]at h0;have j:=i 0 _ (Va h0);rw[add_zero]at j;have G:=World.cell?_spot j;have Z:C=⟨b,C.off,none⟩:=by
  obtain⟨qb,qo,qs⟩:=C;grind
 rw[Z,hB.cell]at j;grind
theorem CuV.off{p:Nat}(h:CuV w x cu p st)(hB:Blk w b t cs)(hs:∀ u∈cs,∀ z,u≠.int .u32 z): Off (λk=>k=b) w λu=>CuV u x cu p st:=by
 obtain⟨A1,A2,A3,A4,A5,D,C,o,j,i,c1,c2,c3,c4,c5,pv,Z,O,J⟩:=h;exact(Xjb J hB hs).imp λu G=>⟨A1,A2,A3,A4,A5,D,C,o,j,i,c1,c2,c3,c4,c5,pv,Z,O,G⟩
theorem CuV.parts{A B C D E:Option Addr}{a c d e a' b' c' d' e':Nat}{p:Nat}(h:CuV w (.agg #[.slice A a a',.slice B b b',.slice C c c',.slice D d d',.slice E e e']) cu p st):
  ∃ Q q,cu=.agg #[.slice A a a',.slice B b b',.slice C c c',.slice D d d',.slice E e e',.slice Q (Jq p).length q,.int .i64 (st:Int)]:=by
 obtain⟨A1,A2,A3,A4,A5,J,G,u,o,j,c1,c2,c3,c4,c5,pv,Z,O,i⟩:=h;obtain⟨Q,q,rfl,_⟩:=id i;grind
theorem FewS.p{c:Cse}(h:FewS c): FewP c:=⟨h.row,h.cnt,.inl h.n6,h.v5,h.r5⟩
def SF.of(b n:Nat)(p:World->Value->Prop): SF:=⟨λv w=>∃ A c,v=.slice A n c/\Off (λk=>k=b) w λu=>p u v,λ⟨A,c,e,h1⟩ hx=>⟨A,c,e,h1.ext hx⟩⟩
theorem RowsV.off{L:List Row}(h:RowsV w v L)(hf:∀ ad m c,v=.slice (some ad) m c->ad.block≠b)(hB:Blk w b t cs)(hs:∀ u∈cs,∀ s,u≠.string s): Off (λk=>k=b) w λu=>RowsV u v L:=by
 obtain⟨ps,A,c,rfl,rfl,D,C,o,j⟩:=h;exactλW i=>⟨ps,A,c,rfl,rfl,D,C,Yj o i (λ_ ad e=>hf ad _ _ (by rw[e])),λp hp=>by
  obtain⟨A',c',Z,O,J,G⟩:=j p hp;exact⟨A',c',Z,O,J,(Qnr G hB hs) W i⟩⟩
end Go.Proofs.YtgobkbeokaaplaaGreatDoor
namespace Go.Proofs.YtgobkbeokaaplaaGreatDoor
open Go.RowKit Pl Go.Wk
namespace Pl
variable {m:Nat}
def rkS(X:IX)(ds:List Bool)(q:Row): Nat->Nat
 | 0=>0
 | m+1=>rkS X ds q m+bef (ds.getD m false) (q.getD m V0) (X.E m (X.key m (q.take m)))*X.others m (q.take m)
section
variable {X:IX} {ds:List Bool} {q:Row}
theorem Jhj(h:X.Srt ds)(hm:m<q.length)(hg:X.Gp (q.take m)): X.Gp (q.take (m+1))↔q.getD m V0∈(X.E m (X.key m (q.take m))).map (·.1):=by
 have j:(q.take m).length=m:=by grind
 have e:q.take (m+1)=q.take m++[q.getD m V0]:=by grind [List.take_succ_eq_append_getElem,List.getD]
 constructor
 .intro i;have o:=i m (by grind);grind
 repeat grind [AX.Gp.snoc]
theorem rk_inv(h:X.Srt ds)(hok:X.Ok)(hq:q.length<=X.F): ∀ m,m<=q.length->X.Gp (q.take m)->Qc ds (X.ext X.F []) q=rkS X ds q m+Qc ds (X.ext (X.F-m) (q.take m)) q
 | 0,_,_=>by simp[rkS]
 | m+1,hm,hg=>by
  have hg':X.Gp (q.take m):=by
   have:=hg.pre m;grind
  have hl:(q.take m).length=m:=by grind
  have ih:=rk_inv h hok hq m om hg';have hmem:=(Jhj h om hg').1 hg;have e:X.F-m=(X.F-(m+1))+1:=om
  have h1:=h.cnt_step hok (n:=X.F-(m+1)) (y:=q.take m) (q:=q) (by rw[hl];omega) hq (by rw[hl];omega) (by rw[hl]);grind [V0,List.take_succ_eq_append_getElem,List.getD,rkS]
theorem rk_stop(h:X.Srt ds)(hok:X.Ok)(hq:q.length<=X.F)(hm:m<q.length)(hg:X.Gp (q.take m))(hn:¬ X.Gp (q.take (m+1))): Qc ds (X.ext X.F []) q=rkS X ds q (m+1):=by
 have j:(q.take m).length=m:=by grind
 have e:X.F-m=(X.F-(m+1))+1:=om
 have o:=h.cnt_step hok (n:=X.F-(m+1)) (y:=q.take m) (q:=q) (by rw[j];omega) hq (by rw[j];omega) (by rw[j]);rw[j]at o;rw[if_neg λi=>hn ((Jhj h hm hg).2 i)]at o;rw[rk_inv h hok hq m om hg,e,o,rkS,Nat.add_zero]
theorem rk_end(h:X.Srt ds)(hok:X.Ok)(hq:q.length<=X.F)(hg:X.Gp q): Qc ds (X.ext X.F []) q=rkS X ds q q.length:=by
 have:=rk_inv h hok hq q.length (nR _) (by grind);rw[this,List.take_length,AX.cnt_end,Nat.add_zero]
end
end Pl
theorem Jyb(ds:List Bool)(L:List Row)(q:Row): Qc ds L q<=L.length:=List.length_filter_le _ _
section
variable {f:Nat} {ds:List Bool} {kf:Nat->Nat} {pf:Nat->Int} {BB:Nat->List BkT} {tot:Nat} {L:List Row}
theorem IxP.rk_inv(ip:IxP f ds kf pf BB tot L)(ne:tot≠0){q:Row}(hq:q.length<=f){m:Nat}(hm:m<=q.length)(hg:(Xp f kf pf BB).Gp (q.take m)): rkS (Xp f kf pf BB) ds q m<=L.length:=by
 have j:=Pl.rk_inv (ip.srt ne) (ip.ok ne) (q:=q) hq m hm hg;have i:=Jyb ds L q;rw[ip.ans ne]at i ⊢;grind [Xp,kf]
theorem IxP.rk_stop(ip:IxP f ds kf pf BB tot L)(ne:tot≠0){q:Row}(hq:q.length<=f){m:Nat}(hm:m<q.length)(hg:(Xp f kf pf BB).Gp (q.take m))(hn:¬ (Xp f kf pf BB).Gp (q.take (m+1))): Qc ds L q=rkS (Xp f kf pf BB) ds q (m+1):=by
 rw[ip.ans ne];exact Pl.rk_stop (ip.srt ne) (ip.ok ne) hq hm hg hn
theorem IxP.rk_end(ip:IxP f ds kf pf BB tot L)(ne:tot≠0){q:Row}(hq:q.length<=f)(hg:(Xp f kf pf BB).Gp q): Qc ds L q=rkS (Xp f kf pf BB) ds q q.length:=by
 rw[ip.ans ne];exact Pl.rk_end (ip.srt ne) (ip.ok ne) hq hg
theorem IxP.wi_len(ip:IxP f ds kf pf BB tot L)(ne:tot≠0){y:Row}(hy:y.length<=f)(hg:(Xp f kf pf BB).Gp y): (wiL L y).length=(Xp f kf pf BB).pend y.length y:=by
 rw[ip.wi_some ne hy hg];exact(ip.ok ne).ext_len _ y (by show y.length+(f-y.length)=f;omega)
end
open Go.RowKit Pl Go.Wk
attribute [local irreducible] WC WL QX WD WDB WP WN WG WH WM
variable {M' b b2 b3 b5 b6 k pc:Nat}{PA:Option Addr}{q:Row}
structure RkM(K:SeK)(w:World)(y:Row)(S:Nat->Bool)(M m:Nat)(fm:Lit->Option Value): Prop where
 gr:GrN (λk=>k=K.mb) K.w1 w
 map:MapS Tryz.prog 3 w K.mb m fm
 mle:m<=M
 pd:PdF K y S fm
def RkV(K:SeK)(w:World)(y:Row)(S:Nat->Bool)(M:Nat): Prop:=∃ m fm,RkM K w y S M m fm
structure RkB(K:SeK)(b2 b3 b5 b6:Nat)(PA:Option Addr)(pc:Nat)(q:Row): Prop where
 x:Blk K.w1 b2 55 [K.x0,K.x1,K.x2,K.x3,K.x4]
 p:Blk K.w1 b3 59 [.slice PA q.length pc]
 b:Blk K.w1 b5 51 [.slice K.BA K.f K.bc]
 m:Blk K.w1 b6 239 [.map (some K.mb)]
 n2:b2≠K.mb
 n3:b3≠K.mb
 n5:b5≠K.mb
 n6:b6≠K.mb
 row:RdR K.w0 PA q
 le:q.length<=pc
section
variable {K:SeK} {w w':World} {y:Row} {S:Nat->Bool} {M m:Nat} {fm:Lit->Option Value}
theorem RkM.ext(h:RkM K w y S M m fm)(hx:Ext w w'): RkM K w' y S M m fm:=⟨h.gr.trans (GrN.ext hx),h.map.ext hx,h.mle,h.pd⟩
theorem RkV.ext(h:RkV K w y S M)(hx:Ext w w'): RkV K w' y S M:=by obtain⟨m,fm,h⟩:=h;exact⟨m,fm,h.ext hx⟩
theorem RkV.same{S':Nat->Bool}(h:RkV K w y S M)(e:∀ c,c<K.f->S c=S' c): RkV K w y S' M:=by
 obtain⟨m,fm,h⟩:=h;refine⟨m,fm,⟨h.gr,h.map,h.mle,λc i hs=>h.pd.1 c i ((e c i).trans hs),λj o=>?_⟩⟩;obtain⟨c,D,C,u⟩:=h.pd.2 j o;grind
theorem RkV.more(h:RkV K w y S M)(hM:M<=M'): RkV K w y S M':=by
 obtain⟨m,fm,h⟩:=h;exact⟨m,fm,h.gr,h.map,Nat.le_trans h.mle hM,h.pd⟩
theorem RkV.gr(h:RkV K w y S M): GrN (λk=>k=K.mb) K.w1 w:=by obtain⟨m,fm,h⟩:=h;exact h.gr
theorem RkV.off(h:RkV K w y S M)(hg:GrN (λk=>k=b) w w')(hb:K.w1.heap.size<=b)(hF:SeF K): RkV K w' y S M:=by
 obtain⟨m,fm,h⟩:=h;refine⟨m,fm,?_,h.map.gr hg λe=>by have:=hF.m2;omega,h.mle,h.pd⟩;exact((h.gr.mono λk _ h=>(.inl h:k=K.mb∨k=b)).trans (hg.mono λk _ h=>.inr h)).mono λk i h=>h.elim id λe=>by omega
theorem RkV.app(h:RkV K w y S M)(hF:SeF K)(hS:∀ c,c<K.f->S c=true->K.pf c<(y.length:Int))(z:Row): RkV K w (y++z) S M:=by
 obtain⟨m,fm,h⟩:=h;exact⟨m,fm,h.gr,h.map,h.mle,h.pd.app hF hS z⟩
theorem Qzv(hq:k<=q.length): (q.take k).length=k:=by grind
def SF.key(K:SeK)(c:Nat)(y:Row): SF:=⟨λv w=>RowV w v (pmR (bk (K.kf c) 32) y),λh hx=>h.ext hx⟩
def SF.tr(K:SeK)(c:Nat)(y:Row): SF:=⟨λv _=>∃ d p,v=.tuple #[.agg #[.bool d,.pointer p],.bool (Zo (K.BB c) (pmR (bk (K.kf c) 32) y)).isSome]/\TrV (λ_=>False) K.w0 (K.t c y) (.pointer p)/\(K.t c y≠.nil->d=K.ds.getD c false),λh _=>h⟩
def SF.tr2(K:SeK)(c:Nat)(y:Row): SF:=⟨λv _=>∃ d p,v=.agg #[.bool d,.pointer p]/\TrV (λ_=>False) K.w0 (K.t c y) (.pointer p)/\(K.t c y≠.nil->d=K.ds.getD c false),λh _=>h⟩
def SF.tbox(s:Nat): SF:=⟨λv w=>∃ b,v=.pointer (some ⟨b,0,none⟩)/\s<=b/\Blk w b 76 [.bool false,.pointer none],λ⟨b,e,h1,h2⟩ hx=>⟨b,e,h1,h2.ext hx⟩⟩
theorem Qjn(hF:SeF K)(hb:RkB K b2 b3 b5 b6 PA pc q)(hV:RkV K w (q.take k) S M)(hM:M<=4096)(hg:K.X.Gp (q.take k))(hkq:k<=q.length)(hkf:k<=K.f){v:Int}(hv:v+1=(k:Int)):
  Ret Tryz.prog 148 [.int .i64 v,.pointer (some ⟨b5,0,none⟩),.pointer (some ⟨b2,0,none⟩),.pointer (some ⟨b3,0,none⟩),.pointer (some ⟨b6,0,none⟩)] w λu w'=>u=.tuple #[]/\GrN (λk=>k=K.mb) w w'/\RkV K w' (q.take k) (λc=>S c || decide (K.pf c=v)) (M+K.f):=by
 have f32:=hF.ip.f32;have a6:=Qzv hkq;refine enE Tryz.func148 Tryz.ntmps148 ?_;refine ldR ((Jy hb.b hV.gr hb.n5).at (i:=0) rfl) ?_;refine ρ ?_;refine Qs (fun (c:Nat)=>[(0,.int .i64 v),(2,.pointer (some ⟨b2,0,none⟩)),(3,.pointer (some ⟨b3,0,none⟩)),(4,.pointer (some ⟨b6,0,none⟩)),(10,.slice K.BA K.f K.bc),(11,.int .i64 (K.f:Int)),(12,.int .i64 (c:Int))])
  (λc w'=>c<=K.f/\GrN (λk=>k=K.mb) w w'/\RkV K w' (q.take k) (λj=>S j || (decide (j<c) && decide (K.pf j=v))) (M+c)) (λc=>K.f-c) 0 sB
  ⟨Nat.zero_le _,GrN.refl _ _,hV.same λc _=>by simp⟩ ?_
 rintro c w1 ⟨hc,a9,a2⟩;refine ciR (λh=>?_) (λh=>?_)
 .have lc:c<K.f:=by have:=oT h;omega
  clear h;have am:=hF.bg w1 a2.gr;refine Qp 3 c am lc ?_;refine Jh (cs:=Xq K.kf K.pf c) (Xcf am lc) ?_;refine Jw zBag ?_;intro w2 bb ax b1 bd;refine Qh (cs':=Xq K.kf K.pf c) bd ?_ Jwl;intro w3 au ai aw;have D:Ext w1 w3:=aw w1 ax b1;refine ldR (au.at (i:=2) rfl) ?_;refine ciR (λh=>?_) (λh=>?_)
  .have hp:K.pf c=v:=Zv h;clear h;have a7:Ext w3 w3.drew:=(Ext.refl w3).drew;have ap:=a2.ext D;have aa:=ap.ext a7;have G:=hF.ext aa.gr;have a3:=Jy hb.x aa.gr hb.n2;have ba:=Jy hb.p aa.gr hb.n3;have ae:RdR w3.drew PA (q.take k):=by
    have:=(Rd.ext hb.row G).take (m:=k) hkq;rw[Jhd q hkq]at this;show Rd _ 3 PA (q.take k).length _;rw[a6];exact this
   have ay:=hF.ip.keyb hF.ne lc (m:=k) (by rw[hp];omega);have aj:=hF.ip.fitK hg c;have ak:∀ {d:Bool},((Zo (K.BB c) (pmR (bk (K.kf c) 32) (q.take k))).isSome=true->d=K.ds.getD c false)->K.t c (q.take k)≠.nil->d=K.ds.getD c false:=fun {d} h hne=>h (by
    cases hi:Zo (K.BB c) (pmR (bk (K.kf c) 32) (q.take k)) with
    | none=>exact absurd (Jmj hi) hne
    | some i=>rfl)
   refine ρ ?_;refine drH (λi=>Nat.ble 14 i) ?_;refine Jvl 2 (lst 16 14) (fun (y:Bool×Option Addr×Nat)=>[(32,.agg #[.bool y.1,.pointer y.2.1]),(33,.bool (Zo (K.BB c) (pmR (bk (K.kf c) 32) (q.take k))).isSome),(8,.pointer (some ⟨y.2.2,0,none⟩)),(0,.int .i64 v),(2,.pointer (some ⟨b2,0,none⟩)),(3,.pointer (some ⟨b3,0,none⟩)),(4,.pointer (some ⟨b6,0,none⟩)),(6,.int .i64 (c:Int)),(10,.slice K.BA K.f K.bc),(11,.int .i64 (K.f:Int)),(12,.int .i64 (c:Int))])
    (λy W=>Ext w3.drew W/\Blk W y.2.2 76 [.bool false,.pointer none]/\w3.drew.heap.size<=y.2.2/\TrV (λ_=>False) K.w0 (K.t c (q.take k)) (.pointer y.2.1)/\(K.t c (q.take k)≠.nil->y.1=K.ds.getD c false)) ?_ ?_
   rotate_left
   .intro rest;refine Qwf 17 12 2 _ (lst 16 14) [0,1,2,3,4,5,6,7,8,9,10,11,12,13] [22,23,24,25,26,27,28,29,30,31,21,32,33,8] [SF.bk a3,SF.eq (.int .i64 (c:Int)),SF.bk a3,SF.eq (.int .i64 (c:Int)),SF.eq (.slice PA q.length pc),SF.eq (.int .i64 v),SF.eq (.int .i64 (k:Int)),SF.eq (.slice PA k pc),SF.key K c (q.take k),SF.tr K c (q.take k),SF.tr K c (q.take k),SF.tr2 K c (q.take k),SF.eq (.bool (Zo (K.BB c) (pmR (bk (K.kf c) 32) (q.take k))).isSome),SF.tbox w3.drew.heap.size] kr (by rfl) ?_ ?_ ?_
    .refine gsc (λvs J o hd=>?_) ?_
     .simp only[slM];refine ldW (a3.ext o) ?_;refine ρ ?_;exact Zf (Ext.refl _) rfl
     refine gsc (λvs J o hd=>?_) ?_
     .simp only[slM];refine ρ ?_;exact Zf (Ext.refl _) rfl
     refine gsc (λvs J o hd=>?_) ?_
     .simp only[slM];refine ldW (a3.ext o) ?_;refine ρ ?_;exact Zf (Ext.refl _) rfl
     refine gsc (λvs J o hd=>?_) ?_
     .simp only[slM];refine ρ ?_;exact Zf (Ext.refl _) rfl
     refine gsc (λvs J o hd=>?_) ?_
     .simp only[slM];refine ld ((ba.ext o).at (i:=0) rfl) ?_;refine ρ ?_;exact Zf (Ext.refl _) rfl
     refine gsc (λvs J o hd=>?_) ?_
     .simp only[slM];refine ρ ?_;exact Zf (Ext.refl _) rfl
     refine gsc (λvs J o hd=>?_) ?_
     .have e5:vs 5=_:=hd 5;simp only[slM,e5];refine ρ ?_;exact Zf (Ext.refl _) (congrArg (Value.int .i64) hv)
     refine gsc (λvs J o hd=>?_) ?_
     .have e4:vs 4=_:=hd 4;have e6:vs 6=_:=hd 6;have:=hb.le;simp only[slM,e4,e6];refine slh k ?_;refine ρ ?_;exact Zf (Ext.refl _) rfl
     refine gsc (λvs J o hd=>?_) ?_
     .have e2:vs 2=_:=hd 2;have e3:vs 3=_:=hd 3;have e7:vs 7=_:=hd 7;simp only[slM,e2,e3,e7];have ah:=Qkj (hF.ix.ext (G.trans o)) lc (c:=pc) (Rd.ext ae o) (by have:=hb.le;omega) om (by rw[a6];exact ay);rw[a6]at ah;refine cl ah ?_;rintro uk W ⟨⟨KA,kc,rfl,ag,af,a8,_⟩,hy⟩;exact Jl (Zf hy ⟨KA,kc,rfl,ag,af,a8⟩)
     refine gsc (λvs J o hd=>?_) ?_
     .have e0:vs 0=_:=hd 0;have e1:vs 1=_:=hd 1;obtain⟨KA,kc,e8,ag,af,a8⟩:=hd 8;simp only[slM,e0,e1,e8];refine cl (Qkl (hF.tb.ext (G.trans o)) (G.trans o) hF.ix lc a8 aj) ?_;rintro u W ⟨d,p,rfl,O,C,hy⟩;exact Jl (Zf hy ⟨d,p,rfl,O,ak C⟩)
     refine gsc (λvs J o hd=>?_) ?_
     .obtain⟨d,p,e9,O,C⟩:=hd 9;simp only[slM,e9];refine ρ ?_;exact Zf (Ext.refl _) ⟨d,p,rfl,O,C⟩
     refine gsc (λvs J o hd=>?_) ?_
     .obtain⟨d,p,a1,O,C⟩:=hd 10;simp only[slM,a1];refine ρ ?_;exact Zf (Ext.refl _) ⟨d,p,rfl,O,C⟩
     refine gsc (λvs J o hd=>?_) ?_
     .obtain⟨d,p,a1,O,C⟩:=hd 10;simp only[slM,a1];refine ρ ?_;exact Zf (Ext.refl _) rfl
     refine gsc (λvs J o hd=>?_) gse
     simp only[slM];refine alc Kx ?_;intro W b9 hy b4 Z;exact Jl (Zf hy ⟨b9,rfl,Nat.le_trans o.size b4,Z⟩)
    .intro vs W hy hf;obtain⟨b9,ab,h9,Z⟩:=hf 13;obtain⟨d,p,ac,O,C⟩:=hf 11;have be:vs 12=_:=hf 12;simp only[slM,ab,be,ac];exact rest (d,p,b9) _ _ ⟨hy,Z,h9,O,C⟩ sB
    intro _ vs W hy hf;obtain⟨b9,ab,h9,Z⟩:=hf 13;obtain⟨d,p,ac,O,C⟩:=hf 11;obtain⟨d2,p2,a1,_,_⟩:=hf 10;simp only[slM,ab,ac,a1];refine Gn (fuel':=2) 12 kr kr rfl rfl ?_;refine ρp ?_;refine ρd ?_;refine Xa ?_;refine hlist (listed':=lst 16 14) kr ?_;exact rest (d,p,b9) _ _ ⟨hy,Z,h9,O,C⟩ sB
   rintro⟨d,p,b9⟩ W ⟨av,ar,an,O,hd⟩;simp only at ar an O hd;refine Zr (fuel':=0) 17 [(2,14),(2,15)] (lst 16 16) kr kr rfl ?_;refine Qv ?_;refine stW ar ?_;intro W2 aq bf ad;refine Jl (Xz ?_);refine Qv ?_;refine ρ ?_;refine Xz ?_;refine Iw (Xa ?_);refine Yx kr ?_;have a4:Ext w3 W2:=ad w3 (a7.trans av) (nL a7.size an);have b7:=ap.ext a4;obtain⟨m,fm,HW⟩:=id b7;refine ldR ((Jy hb.m HW.gr hb.n6).at (i:=0) rfl) ?_;refine Ja aq ?_;refine ρ ?_;refine mup KI HW.map (by have:=HW.mle;unfold maxLen;omega) (keyI (c:=c) om) ?_;intro W3 b8 ai;have a5:GrN (λk=>k=K.mb) W2 W3:=GrN.by ai λk hk=>by injection hk with hk;exact hk.symm
   have ao:RkV K W3 (q.take k) (λj=>(S j || (decide (j<c) && decide (K.pf j=v))) || decide (j=c)) (M+(c+1)):=⟨_,_,HW.gr.trans a5,b8,by have:=HW.mle;omega,HW.pd.put f32 lc O hd⟩;refine ρ ?_;refine Qm (c+1) sO ⟨lc,(a9.trans (GrN.ext (D.trans a4))).trans a5,ao.same λj _=>?_⟩ om;by_cases e:j=c
   .subst e;simp[hp]
   have:(decide (j<c+1))=decide (j<c):=by by_cases h1:j<c<;>simp[h1]<;>omega
   rw[this];simp[e]
  have hp:¬ K.pf c=v:=Zz h;clear h;refine ρ ?_;refine Qm (c+1) sO ⟨lc,a9.trans (GrN.ext D),((a2.ext D).same λj _=>?_).more om⟩ om;by_cases e:j=c
  .subst e;simp[hp]
  have:(decide (j<c+1))=decide (j<c):=by by_cases h1:j<c<;>simp[h1]<;>omega
  rw[this]
 have az:c=K.f:=by have:=oF h;omega
 subst az;clear h;refine ρ ?_;refine Kc ⟨rfl,a9,a2.same λj hj=>?_⟩;simp[hj]
theorem Qjl(hF:SeF K)(hb:RkB K b2 b3 b5 b6 PA pc q)(hV:RkV K w y S M):
  Ret Tryz.prog 149 [.pointer (some ⟨b6,0,none⟩)] w λu w'=>NatV w' u (K.X.prodS S y)/\Fresh w u/\Ext w w':=by
 have f32:=hF.ip.f32;obtain⟨m,fm,H⟩:=id hV;have a2:=Jy hb.m H.gr hb.n6;obtain⟨g,hg⟩:∃ g:(Lit->Bool)->Nat->Nat,g=λleft c=>if S c=true/\left (.int .i64 (c:Int))=false then K.X.T c y else 1:=⟨_,rfl⟩
 have aq:∀ left c,g left c<=4294967296^20:=λleft c=>by
  rw[hg];simp only;split
  .rw[K.T];exact hF.ip.big _ _
  repeat grind
 have ao:∀ left,Nb (Jg K.f (g left)):=λleft=>Nb.pow (k:=K.f) (Jxv (Nat.pow_pos (by decide)) λc _=>aq left c) om;refine enE Tryz.func149 Tryz.ntmps149 ?_;refine clR (Jwr 1 (by decide) _) ?_;rintro G w1 ⟨a8,ac,D⟩;refine ldR ((a2.ext D).at (i:=0) rfl) ?_;refine ρ ?_;refine rngm KI (H.map.ext D) ?_;intro w2 r cnt Z a7 af;have lr:w.heap.size<=r:=nL D.size a7;refine ρ ?_;refine Zj (fun (left:Lit->Bool) (cnt:Nat) (G:Value)=>[(2,G),(7,.pointer (some ⟨r,0,none⟩))])
  (λleft cnt G w'=>Ext w w'/\RgS Tryz.prog 3 w' K.mb r m fm left cnt/\NatX (λk=>k=r) w' G (Jg K.f (g left))/\Fresh w G) (λ_ cnt _=>cnt) _ cnt G sB ⟨D.trans Z,af,?_,ac⟩ ?_
 .have e:Jg K.f (g λkl=>(fm kl).isSome)=1:=Qqg λc hc=>by
   rw[hg];simp only;rw[if_neg];rintro⟨h1,h2⟩;obtain⟨d,p,h3,_⟩:=H.pd.1 c hc h1;rw[h3]at h2;cases h2
  rw[e];exact(NatX.old (N:=λ_=>False) ⟨a8,λ_ _ _ _ _ h=>h⟩ λk hk=>.inr (by rw[hk];exact a7)).ext Z
 clear a8 ac af Z D G cnt;rintro left cnt G w3 ⟨a4,aw,a1,ar⟩;refine ρ ?_;refine nxtm KI aw (λhl=>?_) (λkey v kl w4 ag ay az ab ae ap a9 au=>?_)
 .refine ρ ?_;have e:Jg K.f (g left)=K.X.prodS S y:=Gf λc hc=>by grind
  rw[e]at a1;exact Jj ⟨a1.1,ar,a4⟩
 obtain⟨c,hc,a6,rfl⟩:=H.pd.2 kl (by rw[ab];simp);obtain⟨d,p,J,ht,_⟩:=H.pd.1 c hc a6;rw[ab]at J;injection J with J
 subst J;have O:Ext w w4:=a9.old a4 λk hk=>by rw[hk];exact lr
 refine ρ ?_;refine entm au ?_;refine Jw Kx ?_;intro w5 b5 aj av ax;refine Qg ax ?_;intro w6 a2 b1 ai;have o:Ext w4 w6:=ai w4 aj av;refine Ja a2 ?_;refine ρ ?_;have a5:Ext K.w0 w6:=(hF.ext H.gr).trans (O.trans o);refine cl (Jsk (ht.ext a5) (by rw[<-K.T];exact Nb.pow (k:=1) (by rw[Nat.pow_one,K.T];exact hF.ip.big _ _) om)) ?_;rintro ut w7 ⟨ak,b4,C⟩;have an:NatV w7 G (Jg K.f (g left)):=(((a1.gr a9).ext o).ext C).1;refine clR (Jcd an ak (ao left).len (Nb.len (Nb.pow (k:=1) (by rw[Nat.pow_one];exact hF.ip.big _ _) om))) ?_;rintro ur w8 ⟨am,aa,a3⟩;refine ρ ?_;refine Qe _ ag ur sO ⟨((O.trans o).trans C).trans a3,((ae.ext o).ext C).ext a3,?_,λad m c e=>?_⟩ ap
 .have ah:r<w7.heap.size:=nM (ae.lt) (o.trans C).size;have e:Jg K.f (g λz=>left z && !z.sameKey (.int .i64 (c:Int)))=Jg K.f (g left)*(K.t c y).sum:=by
   rw[Jhp hc,Jhp (g:=g left) hc];have h1:g left c=1:=by grind
   have h2:g (λz=>left z && !z.sameKey (.int .i64 (c:Int))) c=(K.t c y).sum:=by
    rw[hg];simp only;rw[if_pos ⟨a6,by rw[WideAt.sameKey_self (Jlr om)];simp⟩,K.T]
   rw[h1,h2,Nat.one_mul,Nat.mul_comm];congr 1
   refine Gf λj hj=>?_;by_cases ej:j=c
   .rw[if_pos ej,if_pos ej]
   rw[if_neg ej,if_neg ej,hg];simp only;have:(Lit.int .i64 (j:Int)).sameKey (.int .i64 (c:Int))=false:=Maps.sameKey_ne λe'=>ej (Jlk e');grind
  rw[e];exact aa.x am λk hk=>by rw[hk];exact ah
 exact nL (((O.trans o).trans C).size) (aa ad m c e)
end
open Go.RowKit Pl Go.Wk
variable {B0 c m n pc:Nat}{q z:Row}{K:SeK}
def tt2: TT:=(173,{ desc:=.invalid,size:=4,offs:=[0,1,2,3] })::tt
theorem Qht: TOk Tryz.prog tt2:=⟨⟨_,Tryz.underlying173,kr,kr⟩,Il⟩
instance (priority:=2000):Tab Tryz.prog tt2:=⟨Qht,mixed⟩
theorem Jyp: Qu Tryz.prog 173=some (.agg #[.slice none 0 0,.slice none 0 0,.bool false,.int .i64 0]):=kr
theorem zBags: Qu Tryz.prog 51=some (.slice none 0 0):=kr
theorem zMapT: Qu Tryz.prog 239=some (.map none):=kr
theorem Jst{g:Nat->Nat}(h:n<=m): Ql n g<=Ql m g:=by
 induction h with
 | refl=>exact nR _
 | step h ih=>rw[Ql];omega
theorem Jdw(d:Bool)(v:V): ∀ t:Tr,Tr.befT d v t<=t.sum
 | .nil=>nR _
 | .node l a y r=>by
  have h1:=Jdw d v l;have h2:=Jdw d v r;rw[Tr.befT,Tr.sum];grind
theorem SeF.bef(hF:SeF K)(hc:c<K.f){d:Bool}(hd:K.t c z≠.nil->d=K.ds.getD c false)(v:V):
  Tr.befT d v (K.t c z)=bef (K.ds.getD c false) v (K.X.E c (K.X.key c z)):=by
 rw[K.E];by_cases h:K.t c z=.nil
 .rw[h];rfl
 have hs:Us d (K.t c z).toL:=by
  rw[hd h,<-K.E];exact(hF.ip.srt hF.ne).srt c hc _
 rw[(Tr.befT_eq hs).1,hd h]
theorem SeF.onb(hF:SeF K)(m:Nat)(z:Row): Nb (K.X.others m z):=by
 refine Nb.pow (k:=K.f) (Jxv (Nat.pow_pos (by decide)) λc _=>?_) hF.ip.f32;split
 .rw[K.T];exact hF.ip.big _ _
 repeat grind
theorem SeF.rk_le(hF:SeF K)(hq:q.length<=K.f)(hm:m<=q.length)(hg:K.X.Gp (q.take m)): Nb (rkS K.X K.ds q m) :=
 hF.ip.nbT.le (by have:=hF.ip.rk_inv hF.ne hq hm hg;rw[hF.ip.len];exact this)
section
variable {f:Nat} {ds:List Bool} {kf:Nat->Nat} {pf:Nat->Int} {BB:Nat->List BkT} {tot:Nat} {L:List Row}
theorem Qvm{w:World}{x:Value}{PA:Option Addr}(tb:TB B0 w)(ix:IxV w x f ds kf pf BB tot)(ip:IxP f ds kf pf BB tot L)(ne:tot≠0)(hq:RdR w PA q)(hqc:q.length<=pc)(hqf:q.length<=f):
  Ret Tryz.prog 92 [x,.slice PA q.length pc] w λu w'=>∃(bv cv:Value) (st:Nat),u=.agg #[bv,cv,.bool (decide (0<(wiL L q).length)),.int .i64 (st:Int)]/\NatV w' bv (Qc ds L q)/\NatV w' cv (wiL L q).length/\(st<=Ql f λv=>hmB (BB v))/\Ext w w':=by
 obtain⟨DA,dc,BA,cb,KA,ck,g3,cp,tv,gj,ge,rfl,gu,gw,hD,hB,hK,hP,f4,gk⟩:=id ix.ex;obtain⟨TA,tc,rfl,_⟩:=id f4;have f32:=ip.f32;refine enE Tryz.func92 Tryz.ntmps92 ?_;refine bxR ?_;intro w1 b2 f2 gz cx;refine bxR ?_;intro w2 b3 b8 gy ei;refine Jw Jyp ?_;intro w3 b4 af gx eg;have d8:=f2.trans b8;have ak:=d8.trans af;refine Ja ((cx.ext b8).ext af) ?_;refine clR (Xxd (ix.ext ak)) ?_;rintro u w4 ⟨⟨A,c,rfl,hc,hR,hf⟩,a5⟩;refine Jw zBags ?_;intro w5 b5 f0 fl fz;refine ρ ?_;refine Vb fz ?_ rfl;intro w6 bs gn ez;have O:Ext w4 w6:=ez w4 f0 fl;refine ρ ?_;refine mkm 3 ?_;intro w7 mb d6 gm hM;refine Jw zMapT ?_;intro w8 b6 ey fk fy;refine ρ ?_;refine Vb fy ?_ rfl;intro w9 ed dn ew;have ai:Ext w7 w9:=ew w7 ey fk;have be:=d6.trans ai;have a4:=O.trans be;have bf:=ak.trans (a5.trans a4);have e9:=hM.ext ai;have ej:=((cx.ext b8).ext af).ext (a5.trans a4);have eh:=(ei.ext af).ext (a5.trans a4)
 have ef:=eg.ext (a5.trans a4);have ee:=bs.ext be;have gf:=hM.lt;have l1:=cx.lt;have l2:=ei.lt;have l3:=eg.lt;have l5:=bs.lt;have z1:=(b8.trans (af.trans (a5.trans O))).size;have z2:=(af.trans (a5.trans O)).size;have z3:=(a5.trans O).size;have z4:=O.size;have z7:=d6.size;have g5:=ai.size;have z0:=(ak.trans (a5.trans O)).size;have g7:=bf.size;obtain⟨K,ay⟩:∃ K:SeK,K=⟨B0,w,w9,mb,w9.heap.size,.slice DA f dc,.slice BA f cb,.slice KA f ck,.slice g3 f cp,.slice TA (Jq tot).length tc,A,c,f,ds,kf,pf,BB,tot,L⟩:=⟨_,rfl⟩;have e0:Off (λk=>k=mb) w9 (λu=>Rd u 3 A f (Qy f (Xq kf pf))):=Iu (hR.ext a4) λh0 ad e (e2:ad.block=mb)=>by
  obtain⟨h4,e',fa⟩:=hR.2 h0;rw[e]at e';injection e' with e'
  have:=fa.1;rw[<-e']at this;omega
 have o:SeF K:=by
  subst ay;exact⟨tb,ix,ip,ne,bf,by show w.heap.size<=mb;omega,e9.lt,Nat.le_refl _,hc,e0,Qxf⟩
 have G:RkB K b2 b3 b5 b6 PA pc q:=by
  subst ay;exact⟨ej,eh,ee,ed,by show b2≠mb;omega,by show b3≠mb;omega,by show b5≠mb;omega,by show b6≠mb;omega,hq,hqc⟩
 have fq:RkV K w9 (q.take 0) (λ_=>false) 0:=by
  subst ay;exact⟨0,λ_=>none,GrN.refl _ _,e9,Nat.le_refl _,λc _ h=>(by cases h),λkl h=>absurd rfl h⟩
 have g0:K.f=f/\K.ds=ds/\K.kf=kf/\K.pf=pf/\K.BB=BB/\K.tot=tot/\K.L=L/\K.w1=w9/\K.w0=w/\K.mb=mb:=by subst ay;exact⟨rfl,rfl,rfl,rfl,rfl,rfl,rfl,rfl,rfl,rfl⟩
 obtain⟨rfl,rfl,rfl,rfl,rfl,rfl,rfl,f3,c7,bj⟩:=g0;clear ay;have dg:∀ c,c<K.f->K.pf c<(c:Int):=λc hc=>(o.ip.par ne hc).2;have fd:K.X.Ok:=o.ip.ok ne;have fc:∀ v z,(K.t v z).ht<=hmB (K.BB v):=λv z=>Qlf _ _;have dk:∀ v z,(K.t v z).ht<=65536:=λv z=>nL (Tr.ht_le _) (o.ip.siz _ _);have bh:∀ v z,Nb (K.t v z).sum:=λv z=>Nb.pow (k:=1) (by rw[Nat.pow_one];exact o.ip.big _ _) om;have db:∀ v z,(K.t v z).sz<=1000000:=λv z=>nL (o.ip.siz _ _) (by decide);refine Jw Jyp ?_;intro gb C aj fj ec;refine ρ ?_;refine clv (Qjn (k:=0) o G (fq.ext aj) om (AX.Gp.nil) (Nat.zero_le _) (Nat.zero_le _) (v:=-1) rfl) ?_;rintro u ga ⟨rfl,av,ax⟩;have l9:=ec.lt;have g6:=aj.size;have n9:¬ C=K.mb:=by rw[bj];omega
 have n4:¬ b4=K.mb:=by rw[bj];omega
 have b1:=Jy ec av n9;have b7:=Jy (ef.ext aj) av n4;have d0:b4≠C:=om
 have cz:K.w1.heap.size<=C:=by rw[f3];exact fj
 refine ldR ((Jy G.p ax.gr G.n3).at (i:=0) rfl) ?_;refine ρ ?_;refine Zj (fun (i:Nat) (bv:Value) (st:Nat)=>[(4,.pointer (some ⟨b4,0,none⟩)),(6,.pointer (some ⟨b6,0,none⟩)),(7,.func (.func 148) #[] #[.pointer (some ⟨b5,0,none⟩),.pointer (some ⟨b2,0,none⟩),.pointer (some ⟨b3,0,none⟩),.pointer (some ⟨b6,0,none⟩)]),(8,.func (.func 149) #[] #[.pointer (some ⟨b6,0,none⟩)]),(9,.pointer (some ⟨C,0,none⟩)),(23,.slice PA q.length pc),(24,.int .i64 (q.length:Int)),(25,.int .i64 (i:Int))])
  (λi bv st w'=>i<=q.length/\K.X.Gp (q.take i)/\RkV K w' (q.take i) (pS K.pf i i) (32*(i+1))/\Blk w' C 173 [bv,.slice none 0 0,.bool false,.int .i64 (st:Int)]/\Blk w' b4 173 [.slice none 0 0,.slice none 0 0,.bool false,.int .i64 0]/\NatX (λk=>k=K.mb∨k=C∨k=b4) w' bv (rkS K.X K.ds q i)/\(st<=Ql i λv=>hmB (K.BB v))/\st<=65536*i) (λi _ _=>q.length-i) 0 (.slice none 0 0) 0 sB
  ⟨Nat.zero_le _,AX.Gp.nil,?_,b1,b7,NatX.nil _,Nat.le_refl _,Nat.le_refl _⟩ ?_
 .refine(ax.same λc hc=>?_).more om;have:=o.ip.par ne hc;unfold pS;rw[Bool.eq_iff_iff];simp only[Bool.or_eq_true,Bool.and_eq_true,decide_eq_true_eq];constructor
  .rintro(h|h)
   .cases h
   exact⟨Nat.zero_le _,om⟩
  rintro⟨_,h⟩;right;omega
 clear b1 b7 ax av;rintro i bv st v5 ⟨hi,ag,a9,cw,co,aw,f7,gl⟩;have cg:(q.take i).length=i:=Qzv hi;have d7:=o.ext a9.gr;refine ciR (λh=>?_) (λh=>?_)
 .have li:i<q.length:=by have:=oT h;omega
  have a8:i<K.f:=om
  clear h;have df:=Rd.ext hq (c7 ▸ d7);refine Qp 3 i df li ?_;refine Jh (cs:=(q.getD i V0).cells) (λj u' cd=>RdR.cell df li cd) ?_;refine Jw (cs:=V0.cells) Yp ?_;intro v6 g2 ae e3 bz;refine Qh (cs':=(q.getD i V0).cells) bz ?_ (V.one _);intro v7 fx dq eu;have ah:Ext v5 v7:=eu v5 ae e3;have fo:=a9.ext ah;obtain⟨m0,fm,H⟩:=id fo;obtain⟨d,p,fg,hT,hd⟩:=H.pd.1 i a8 (by unfold pS;simp[dg i a8]);refine ldR ((Jy G.m H.gr G.n6).at (i:=0) rfl) ?_;refine ρ ?_;refine mlk KI H.map Qfc (keyI (c:=i) om) ?_;rw[fg];refine Jw Kx ?_;intro v8 g1 et e1 bw;refine Qg bw ?_;intro v9 cy bm c4;have aa:Ext v7 v9:=c4 v7 et e1;have H9:=H.ext aa;refine ldR ((Jy G.m H9.gr G.n6).at (i:=0) rfl) ?_;refine ρ ?_;refine mdn KI H9.map (keyI (c:=i) om) ?_;intro c2 ea dt;have a1:GrN (λk=>k=K.mb) v9 c2:=GrN.by dt λk hk=>by injection hk with hk;exact hk.symm
  have g4:K.mb<v7.heap.size:=H.map.lt;have bl:K.mb<v5.heap.size:=nM o.m2 a9.gr.size;have gi:=bz.lt;have g9:=ah.size;have g8:=aa.size;have gh:=bw.lt;have ep:¬ g2=K.mb:=om
  have eo:¬ g1=K.mb:=om
  have bo:RkV K c2 (q.take i) (pS K.pf (i+1) i) (32*(i+1)):=RkV.same ⟨_,_,H9.gr.trans a1,ea,H9.mle,H9.pd.drop o.ip.f32 a8⟩ λc _=>Qsh;have bc:=Jy (fx.ext aa) a1 ep;have bb:=Jy cy a1 eo;have a2:GrN (λk=>k=K.mb) v5 c2:=((GrN.ext ah).trans (GrN.ext aa)).trans a1;have eb:=Jy cw a2 n9;have bq:=Jy co a2 n4;have cm:=aw.gr (a2.mono λk _ h=>.inl h);refine Ja bb ?_;refine Jh (cs:=(q.getD i V0).cells) (λj u' cd=>bc.at cd) ?_;refine ρ ?_;have c6:=o.ext bo.gr;refine cl (Xbt (hT.ext c6) (bh _ _) (db _ _)) ?_;rintro u c1 ⟨sv,e,rfl,he,f6,d5⟩;have c3:Ext c1 c1.drew:=(Ext.refl c1).drew;have J:=d5.trans c3;have e4:=bo.ext J;have cq:=eb.ext J;have dw:=cm.ext J;have gt:=fc i (q.take i);have gq:=dk i (q.take i);refine ρ ?_;refine drN (λ_=>False) 10 (scq 9 [4,5,6,108]) kr ?_;refine ρn ?_;refine nld (λw' hg=>(cq.ext hg.toExt).at (i:=0) rfl) ?_;refine ρn ?_;refine nop ?_;refine clv (Qjl o G e4) ?_
  rw[Qrk];rintro pv en ⟨f9,_,D⟩;refine ρ ?_;refine Ju (GrN.ext D) ?_;refine ρn ?_;refine nop ?_;have dd:=(f6.ext c3).ext D;refine cl (Jcd dd f9 ((bh i (q.take i)).le (Jdw _ _ _)).len (o.onb _ _).len) ?_;rintro mv gc ⟨dj,_,ab⟩;rw[o.bef a8 hd]at dj;refine ρ ?_;refine Ju (GrN.ext ab) ?_;refine ρn ?_;refine nop ?_;have cj:=((dw.ext D).ext ab).1;have ce:Nb (bef (K.ds.getD i false) (q.getD i V0) (K.X.E i (K.X.key i (q.take i)))*K.X.others i (q.take i)):=by
   refine(o.pnb i (q.take i)).le ?_;have h1:=fd.pend_split (y:=q.take i) (by rw[cg];exact a8);rw[cg]at h1;rw[h1,<-o.bef a8 hd,K.T];exact nO _ (Jdw _ _ _)
  refine cl (Jqk cj dj (o.rk_le hqf hi ag).len ce.len) ?_;rintro gd d2 ⟨ao,du,bd⟩;have f8:rkS K.X K.ds q i+bef (K.ds.getD i false) (q.getD i V0) (K.X.E i (K.X.key i (q.take i)))*K.X.others i (q.take i)=rkS K.X K.ds q (i+1):=rfl;rw[f8]at ao;obtain⟨ZA,zc,rfl,_⟩:=id ao;refine ρ ?_;refine Ju (GrN.ext bd) ?_;refine ρn ?_;have Z:=(D.trans ab).trans bd;have em:=c3.trans Z;have az:=cq.ext Z;refine Xu ?_;refine sto (az.at (i:=0) rfl) (az.frozen 0) ?_;obtain⟨a3,an⟩:∃ a3,a3=d2.setCell ((⟨C,0,none⟩:Addr).add 0) (.slice ZA (Jq (rkS K.X K.ds q (i+1))).length zc):=⟨_,rfl⟩;rw[<-an];have au:GrN (λk=>k=C) d2 a3:=by rw[an];exact GrN.set _ rfl
  have ac:Blk a3 C 173 [.slice ZA (Jq (rkS K.X K.ds q (i+1))).length zc,.slice none 0 0,.bool false,.int .i64 (st:Int)]:=by rw[an];exact az.set 0 _
  have e6:=(e4.ext Z).off au cz o;have e8:=Jy ((bq.ext J).ext Z) au d0;have er:C<en.heap.size:=(cq.ext D).lt;have di:NatX (λk=>k=K.mb∨k=C∨k=b4) a3 (.slice ZA (Jq (rkS K.X K.ds q (i+1))).length zc) (rkS K.X K.ds q (i+1)):=by
   refine NatX.gr (N:=λk=>k=K.mb∨k=C∨k=b4) ⟨ao,λh0 ad m c e=>?_⟩ (au.mono λk _ h=>.inr (.inl h));have h1:=du ad m c e;have h2:=ab.size;have h3:=(bq.ext (J.trans D)).lt;rintro(h|h|h)
   .have:=nM bl (a2.size);have:=(J.trans D).size;omega
   .omega
   omega
  refine ω5 ?_;refine Uu ?_;refine ρn ?_;refine ldR (ac.at (i:=3) rfl) ?_;refine Xo (ac.at (i:=3) rfl) (ac.frozen 3) ?_;obtain⟨a7,am⟩:∃ a7,a7=a3.setCell ((⟨C,0,none⟩:Addr).add 3) (.int .i64 ((st+e:Nat):Int)):=⟨_,rfl⟩;have ca:a3.setCell ((⟨C,0,none⟩:Addr).add 3) (.int .i64 ((st:Int)+(e:Int)))=a7:=am.symm;refine Eq.mpr (congrArg _ ca) ?_;have ar:GrN (λk=>k=C) a3 a7:=by rw[am];exact GrN.set _ rfl
  have br:Blk a7 C 173 [.slice ZA (Jq (rkS K.X K.ds q (i+1))).length zc,.slice none 0 0,.bool false,.int .i64 ((st+e:Nat):Int)]:=by rw[am];exact ac.set 3 _
  have bn:=e6.off ar cz o;have bp:=Jy e8 ar d0;have bi:=di.gr (ar.mono λk _ h=>.inr (.inl h));have dz:=o.has a8 (z:=q.take i) hd (q.getD i V0);have de:(st+e<=Ql (i+1) λv=>hmB (K.BB v)):=by rw[Ql];omega
  have dm:K.X.Gp (q.take (i+1))↔Tr.hasT d (q.getD i V0) (K.t i (q.take i))=true:=(Jhj (o.ip.srt ne) li ag).trans dz.symm;refine ciR (λh=>?_) (λh=>?_)
  .have dh:¬ K.X.Gp (q.take (i+1)):=λhg=>by
    rw[dm.1 hg]at h;cases h
   clear h;have bg:wiL K.L q=[]:=o.ip.wi_none ne λhg=>dh (hg.pre (i+1));refine Ja br ?_;refine Qg bp ?_;intro d1 e7 a6 d4;refine ρ ?_;have c5:=d4 w (c7 ▸ o.ext bn.gr) om;have ch:GrN (λk=>k=b4) a7 d1:=GrN.by a6 λk hk=>by injection hk with hk;exact hk.symm
   refine Jzr e7 ⟨_,_,st+e,by rw[bg];rfl,?_,?_,Nat.le_trans de (Jst om),c5⟩
   .rw[o.ip.rk_stop ne hqf li ag dh];exact(bi.gr (ch.mono λk _ h=>.inr (.inr h))).1
   rw[bg];exact NatV.nil _
  have d3:Tr.hasT d (q.getD i V0) (K.t i (q.take i))=true:=by
   cases hh:Tr.hasT d (q.getD i V0) (K.t i (q.take i)) with
   | true=>rfl
   | false=>rw[hh]at h;cases h
  clear h;have dl:=dm.2 d3;have f5:q.take (i+1)=q.take i++[q.getD i V0]:=Qr V0 li;have cn:RkV K a7 (q.take (i+1)) (pS K.pf (i+1) i) (32*(i+1)):=by
   rw[f5];exact bn.app o (λc _ hs=>by
    rw[cg];unfold pS at hs;simp only[Bool.and_eq_true,decide_eq_true_eq]at hs;exact hs.2) _
  refine ρ ?_;refine clv (Qjn (k:=i+1) o G cn om dl om om (v:=(i:Int)) om) ?_;rintro u d1 ⟨rfl,a6,e5⟩;refine ρ ?_;exact Qe (i+1) _ (st+e) sO ⟨li,dl,(e5.same λc hc=>Qsj (dg c hc)).more om,Jy br a6 n9,Jy bp a6 n4,bi.gr (a6.mono λk _ h=>.inl h),de,om⟩ om
 have fb:i=q.length:=by have:=oF h;omega
 clear h;subst fb;rw[List.take_length]at ag a9;refine ρ ?_;refine clv (Qjl o G a9) ?_;rw[Qrj];rintro cv v6 ⟨dv,fh,ae⟩;obtain⟨el,ek,rfl,_⟩:=id aw.1;obtain⟨CA,cc,rfl,_⟩:=id dv;have cr:=cw.ext ae;have fu:=co.ext ae;have fp:=a9.ext ae;have dx:=aw.ext ae;have er:=cw.lt;have gg:=co.lt;have bl:K.mb<v5.heap.size:=nM o.m2 a9.gr.size;have fi:NatX (λk=>k=K.mb∨k=C∨k=b4) v6 (.slice CA (Jq (K.X.pend q.length q)).length cc) (K.X.pend q.length q):=⟨dv,λ_ ad m c e=>by
  have:=fh ad m c e;rintro(h|h|h)<;>omega⟩
 refine Xo (cr.at (i:=1) rfl) (cr.frozen 1) ?_;obtain⟨v7,c9⟩:∃ v7,v7=v6.setCell ((⟨C,0,none⟩:Addr).add 1) (.slice CA (Jq (K.X.pend q.length q)).length cc):=⟨_,rfl⟩;rw[<-c9];have dq:GrN (λk=>k=C) v6 v7:=by rw[c9];exact GrN.set _ rfl
 have ba:Blk v7 C 173 [.slice el (Jq (rkS K.X K.ds q q.length)).length ek,.slice CA (Jq (K.X.pend q.length q)).length cc,.bool false,.int .i64 (st:Int)]:=by rw[c9];exact cr.set 1 _
 refine ldR (ba.at (i:=1) rfl) ?_;refine Xo (ba.at (i:=2) rfl) (ba.frozen 2) ?_;have d9:=o.ip.wi_len ne hqf ag;have ff:decide (0<((Jq (K.X.pend q.length q)).length:Int))=decide (0<(wiL K.L q).length):=by
  rw[d9];show decide _=decide (0<K.X.pend q.length q);rcases Nat.eq_zero_or_pos (K.X.pend q.length q) with h0|h0
  .rw[h0,limbs_0];rfl
  rw[decide_eq_true h0,decide_eq_true (by have:=limbs_pos' (show K.X.pend q.length q≠0 by omega);omega)]
 obtain⟨v8,c8⟩:∃ v8,v8=v7.setCell ((⟨C,0,none⟩:Addr).add 2) (.bool (decide (0<(wiL K.L q).length))):=⟨_,rfl⟩;have da:v7.setCell ((⟨C,0,none⟩:Addr).add 2) (.bool (decide (0<((Jq (K.X.pend q.length q)).length:Int))))=v8:=by rw[ff];exact c8.symm
 refine Eq.mpr (congrArg _ da) ?_;have fe:GrN (λk=>k=C) v7 v8:=by rw[c8];exact GrN.set _ rfl
 have fw:Blk v8 C 173 [.slice el (Jq (rkS K.X K.ds q q.length)).length ek,.slice CA (Jq (K.X.pend q.length q)).length cc,.bool (decide (0<(wiL K.L q).length)),.int .i64 (st:Int)]:=by rw[c8];exact ba.set 2 _
 have aq:=dq.trans fe;have fn:=fp.off aq cz o;have ft:=Jy fu aq d0;refine Ja fw ?_;refine Qg ft ?_;intro v9 fr bm c4;have c5:=c4 w (c7 ▸ o.ext fn.gr) om;have dn:GrN (λk=>k=b4) v8 v9:=GrN.by bm λk hk=>by injection hk with hk;exact hk.symm
 have ap:GrN (λk=>k=K.mb∨k=C∨k=b4) v6 v9:=(aq.mono λk _ h=>.inr (.inl h)).trans (dn.mono λk _ h=>.inr (.inr h));refine ρ ?_;refine Jzr fr ⟨_,_,st,rfl,?_,?_,Nat.le_trans f7 (Jst hqf),c5⟩
 .rw[o.ip.rk_end ne hqf ag];exact(dx.gr ap).1
 rw[d9];exact(fi.gr ap).1
end
open Go.RowKit Pl Go.Wk
variable {B0 pc:Nat}
section
variable {w:World} {x:Value} {f:Nat} {ds:List Bool} {kf:Nat->Nat} {pf:Nat->Int} {BB:Nat->List BkT} {tot:Nat} {L:List Row}
theorem Qnw(tb:TB B0 w)(h:IxA w x f ds kf pf BB tot L){PA:Option Addr}{q:Row}(hq:RdR w PA q)(hqc:q.length<=pc):
  Ret Tryz.prog 192 [x,.slice PA q.length pc] w λu w'=>Ext w w'/\(f<q.length->u=.tuple #[.slice none 0 0,.slice none 0 0,.int .i64 0,.int .i64 6]) /\
   (q.length<=f->∃(lv hv:Value) (st:Nat),u=.tuple #[lv,hv,.int .i64 (st:Int),.int .i64 0]/\NatV w' lv (Qc ds L q)/\NatV w' hv (Qc ds L q+(wiL L q).length)/\st<=Ql f λv=>hmB (BB v)):=by
 have ix:=h.ix;have O:=h.ip;obtain⟨DA,dc,BA,cb,KA,ck,ar,cp,tv,ak,aj,rfl,ap,aq,hD,hB,hK,hP,ab,am⟩:=id ix.ex;obtain⟨TA,tc,rfl,_⟩:=id ab;refine enE Tryz.func192 Tryz.ntmps192 ?_;refine bxR ?_;intro w1 b J hb a2;refine Ja a2 ?_;refine clR (Jcw (ix.ext J)) ?_;rintro u w2 ⟨rfl,D⟩;refine ciR (λh=>?_) (λh=>?_)
 .have an:f<q.length:=by have:=oT h;omega
  refine ρ ?_;exact Ik ⟨J.trans D,λ_=>rfl,λh=>om⟩
 have ad:q.length<=f:=by grind
 clear h;refine Ja (a2.ext D) ?_;refine clR (Jmb (ix.ext (J.trans D)) O.nbT) ?_;rintro u w3 ⟨aa,_,a5⟩;have j:=(J.trans D).trans a5;obtain⟨UA,uc,rfl,_⟩:=id aa;refine ciR (λh=>?_) (λh=>?_)
 .have h0:tot=0:=by
   have:=Zv h;grind [Nat.eq_zero_or_pos,tot,limbs_pos']
  have hL:L=[]:=List.eq_nil_of_length_eq_zero (by rw[<-O.len];exact h0);refine ρ ?_;refine Ik ⟨j,λh=>om,λ_=>⟨_,_,0,rfl,?_,?_,Nat.zero_le _⟩⟩
  .rw[hL];exact NatV.nil _
  rw[hL];exact NatV.nil _
 have ne:tot≠0:=λe=>by
  have:=Zz h;grind [limbs_0]
 clear h;refine Ja ((a2.ext D).ext a5) ?_;refine clR (Qvm (tb.ext j) (ix.ext j) O ne (Rd.ext hq j) hqc ad) ?_;rintro u w4 ⟨bv,cv,st,rfl,a1,a6,ac,a9⟩;obtain⟨XA,xc,rfl,_⟩:=id a1;obtain⟨YA,yc,rfl,_⟩:=id a6;refine Jw Jyp ?_;intro w5 b8 a8 ag ah;refine Qg ah ?_;intro w6 ai ao a7;have a4:Ext w4 w6:=a7 w4 a8 ag;have a3:Ext w6 w6.drew:=(Ext.refl w6).drew;have o:=a4.trans a3;have C:=ai.ext a3;have n1:(Jq (Qc ds L q)).length<=1000:=(O.nbT.le (by rw[O.len];exact Jyb ds L q)).len;have n2:(Jq (wiL L q).length).length<=1000:=(O.nbT.le (by rw[O.len];exact List.length_filter_le _ _)).len;refine ρ ?_;refine drN (λ_=>False) 15 [(0,0),(0,1),(0,3),(0,4),(0,5),(0,6),(0,8),(0,9),(1,2),(1,7),(0,10),(0,11),(0,12),(0,13)] kr ?_;refine ρn ?_;refine nld (λw' hg=>(C.ext hg.toExt).at (i:=0) rfl) ?_;refine ρn ?_;refine nld (λw' hg=>(C.ext hg.toExt).at (i:=0) rfl) ?_;refine ρn ?_
 refine nld (λw' hg=>(C.ext hg.toExt).at (i:=1) rfl) ?_;refine ρn ?_;refine nld (λw' hg=>(C.ext hg.toExt).at (i:=3) rfl) ?_;refine ρn ?_;refine nop ?_;refine cl (Jws (a1.ext o) n1) ?_;rintro lv w7 ⟨ae,_,G⟩;refine ρ ?_;refine Ju (GrN.ext G) ?_;refine ρn ?_;refine nop ?_;refine cl (Xjc ((a1.ext o).ext G) ((a6.ext o).ext G) n1 n2) ?_;rintro hv w8 ⟨af,Z⟩;refine ρ ?_;refine Ju (GrN.ext Z) ?_;refine ρn ?_;refine ρ ?_;exact Ik ⟨((j.trans a9).trans o).trans (G.trans Z),λh=>om,λ_=>⟨lv,hv,st,rfl,ae.ext Z,af,ac⟩⟩
end
open Go.RowKit Pl Go.Wk
variable {B0 f pc:Nat}
theorem Qjm{w:World}{x:Value}{ds:List Bool}{kf:Nat->Nat}{pf:Nat->Int}{BB:Nat->List BkT}{tot:Nat}{L:List Row}(tb:TB B0 w)(h:IxA w x f ds kf pf BB tot L){PA:Option Addr}{q:Row}(hq:RdR w PA q)(hqc:q.length<=pc):
  Ret Tryz.prog 40 [x,.slice PA q.length pc] w λu w'=>Ext w w'/\(q.length≠f->u=.tuple #[.slice none 0 0,.bool false,.int .i64 0,.int .i64 6]) /\
   (q.length=f->∃(kv:Value) (st:Nat),u=.tuple #[kv,.bool (decide (0<(wiL L q).length)),.int .i64 (st:Int),.int .i64 0]/\NatV w' kv (Qc ds L q)/\st<=Ql f λv=>hmB (BB v)):=by
 have ix:=h.ix;have ip:=h.ip;obtain⟨DA,dc,BA,cb,KA,ck,ak,cp,tv,af,ae,rfl,ai,aj,hD,hB,hK,hP,a7,ag⟩:=id ix.ex;obtain⟨TA,tc,rfl,_⟩:=id a7;refine enE Tryz.func40 Tryz.ntmps40 ?_;refine bxR ?_;intro w1 b D hb O;refine Ja O ?_;refine clR (Jcw (ix.ext D)) ?_;rintro u w2 ⟨rfl,o⟩;refine ciR (λh=>?_) (λh=>?_)
 .have a9:q.length≠f:=λe=>by rw[e]at h;simp at h
  refine ρ ?_;exact Ik ⟨D.trans o,λ_=>rfl,λh=>absurd h a9⟩
 have a1:q.length=f:=by grind
 clear h;refine Ja (O.ext o) ?_;refine clR (Jmb (ix.ext (D.trans o)) ip.nbT) ?_;rintro u w3 ⟨a6,_,Z⟩;have j:=(D.trans o).trans Z;obtain⟨UA,uc,rfl,_⟩:=id a6;refine ciR (λh=>?_) (λh=>?_)
 .have h0:tot=0:=by
   have:=Zv h;grind [Nat.eq_zero_or_pos,tot,limbs_pos']
  have hL:L=[]:=List.eq_nil_of_length_eq_zero (by rw[<-ip.len];exact h0);refine ρ ?_;refine Ik ⟨j,λh=>absurd a1 h,λ_=>⟨.slice none 0 0,0,by subst hL;rfl,?_,Nat.zero_le _⟩⟩;rw[hL];exact NatV.nil _
 have ne:tot≠0:=λe=>by
  have:=Zz h;grind [limbs_0]
 clear h;refine Ja ((O.ext o).ext Z) ?_;refine clR (Qvm (tb.ext j) (ix.ext j) ip ne (Rd.ext hq j) hqc om) ?_;rintro u w4 ⟨bv,cv,st,rfl,a2,aa,a8,a5⟩;obtain⟨XA,xc,rfl,_⟩:=id a2;obtain⟨YA,yc,rfl,_⟩:=id aa;refine Jw Jyp ?_;intro w5 b8 a4 ab ac;refine Qg ac ?_;intro w6 ad ah a3;have G:Ext w4 w6:=a3 w4 a4 ab;have J:Ext w6 w6.drew:=(Ext.refl w6).drew;have C:=ad.ext J;refine ρ ?_;refine drN (λ_=>False) 11 (scq 10 []) kr ?_;refine ρn ?_;refine nld (λw' hg=>(C.ext hg.toExt).at (i:=0) rfl) ?_;refine ρn ?_;refine nld (λw' hg=>(C.ext hg.toExt).at (i:=2) rfl) ?_;refine ρn ?_;refine nld (λw' hg=>(C.ext hg.toExt).at (i:=3) rfl) ?_;refine ρn ?_;refine ρ ?_;exact Ik ⟨((j.trans a5).trans G).trans J,λh=>absurd a1 h,λ_=>⟨_,st,rfl,(a2.ext G).ext J,a8⟩⟩
open Go.RowKit Pl Go.Wk
section
variable {w:World} {x:Value} {f:Nat} {ds:List Bool} {kf:Nat->Nat} {pf:Nat->Int} {BB:Nat->List BkT} {tot:Nat} {L:List Row}
theorem Qkk(h:IxV w x f ds kf pf BB tot): Ret Tryz.prog 66 [x] w λu w'=>BoolsV w' u ds/\Ext w w':=by
 obtain⟨DA,dc,BA,cb,KA,ck,PA,cp,tv,a1,Z,rfl,a2,a3,hD,hB,hK,hP,G,hv⟩:=h.ex;obtain⟨TA,tc,rfl,_⟩:=id G;have o:=h.dl;have O:=h.f32;refine enE Tryz.func66 Tryz.ntmps66 ?_;refine bxR ?_;intro w1 b j hb J;refine ldR (J.at (i:=0) rfl) ?_;refine ρ ?_;have C:=Rd.ext hD j;rw[o]at C;refine cl (Xvr C (λu hu=>?_) om) ?_
 .obtain⟨b,_,rfl⟩:=List.mem_map.1 hu;rfl
 rintro u w2 ⟨⟨A',c',rfl,a4,hR⟩,D⟩;refine ρ ?_;refine Jj ⟨⟨A',c',by rw[o],om,om,?_⟩,j.trans D⟩;grind
end
end Go.Proofs.YtgobkbeokaaplaaGreatDoor
