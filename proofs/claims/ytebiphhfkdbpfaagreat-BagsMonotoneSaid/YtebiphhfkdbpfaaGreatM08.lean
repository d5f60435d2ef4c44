/- Part 8. -/
import Derived.Test.YtebiphhfkdbpfaaGreatM07
import Derived.ProofKit
import Derived.OpenShut
import Derived.ShutString
import Derived.ChangeOld
import Derived.Deep.Slices
import Derived.Deep.Fields
import Derived.Test.YtebiphhfkdbpfaaGreatRows
import Derived.SizedLaws
set_option linter.unusedVariables false
set_option maxRecDepth 100000
set_option maxHeartbeats 40000000
namespace Go.Wk
variable {d n ty v:Nat}
theorem sl32b{P:Program}{al:AL}{w:World}{Q:Exit->Act->World->Prop}{ops:Array Oper}{rest:List Oper}{pos:String}{aft:Array Edge}{y:Operand}{t yt:TypeId}{k2:IntKind}(hv:v<32)(kk:WL P n ops Q rest ((d,.int .u32 ((2^v:Nat):Int))::al) w)(hy:ev al y=some (.int k2 (v:Int)):=by rfl)(hd:Nat.blt d n=true:=by rfl):
  WL P n ops Q (⟨some d,.binOp .shl t (.const (.int .u32 1)) y yt,ty,pos,aft,none⟩::rest) al w:=by
 rw[<-Jhz hv]at kk;exact wop hd (λa u=>Jyt (x:=.const (.int .u32 1)) rfl hy om u (some d) w) kk
end Go.Wk
namespace Go.Proofs.YtebiphhfkdbpfaaGreat
open Go.RowKit Pl Go.Wk Bl Nw
attribute [local irreducible] WC WL QX WD WDB WP WN WG WH
variable {l:List PA}{n s:Nat}
def atP(p:PA): Atm:=⟨nz p.vs,p.vs.length,p.rs⟩
structure CtxP(n:Nat)(l:List PA): Prop where
 asc:∀ p∈l,Qf p.vs
 lt:∀ p∈l,∀ v∈p.vs,v<n
 len:∀ p∈l,∀ r∈p.rs,r.length=p.vs.length
 d4:∀ p∈l,∀ r∈p.rs,∀ x∈r,D4 x
 cnt:∀ p∈l,p.rs.length<=12
 srt:∀ p∈l,Lt [] p.rs
 cov:∀ v,v<n->∃ p∈l,v∈p.vs
 few:l.length<=32
theorem CtxP.sm(h:CtxP n l)(hn:n<=8): SmL l :=
 ⟨λa u v y=>nM (h.lt a u v y) hn,h.len,h.d4,λa u=>nL (h.cnt a u) (by decide)⟩
theorem Jfn{n:Nat}: ∀ {l:List LA} {ms:List (List Row)},ms.length=l.length->(∀ a∈l,a.fits)->(∀ i (h1:i<l.length) (h2:i<ms.length),Rl l[i] ms[i])->n<=32->(∀ a∈l.zipWith atm ms,Zp (n:Int) a) ->
  ∃ pas:List PA,l.zipWith atm ms=pas.map atP/\l.zipWith rat' ms=pas.map raP/\pas.length=l.length/\(l.map λa=>(lvs a).length)=pas.map (λp=>p.vs.length) /\
   ∀ p∈pas,Qf p.vs/\(∀ v∈p.vs,v<n)/\(∀ r∈p.rs,r.length=p.vs.length)/\(∀ r∈p.rs,∀ x∈r,D4 x)/\p.rs.length<=12/\Lt [] p.rs
 | [],[],_,_,_,_,_=>⟨[],rfl,rfl,rfl,rfl,λp hp=>by cases hp⟩
 | a::l,m::ms,hl,hf,hR,hn,hok=>by
  obtain⟨pas,h1,h2,h3,h4,h5⟩:=Jfn (n:=n) (l:=l) (ms:=ms) (by simpa using hl) (λb hb=>hf b (List.mem_cons_of_mem _ hb)) (λi g1 g2=>hR (i+1) (by simp;omega) (by simp;omega)) hn (λb hb=>hok b (by rw[List.zipWith_cons_cons];exact List.mem_cons_of_mem _ hb));have hk:=hok (atm a m) (by rw[List.zipWith_cons_cons];exact mC);have hk32:Zp 32 (atm a m):=⟨hk.1,λv hv=>⟨(hk.2.1 v hv).1,by have:=(hk.2.1 v hv).2;omega⟩,hk.2.2⟩;have ok:=okA hk32;have hmr:MadeR a m:=Qvz (hR 0 (by simp) (by simp)) (hf a mC);refine⟨⟨vsO a,m⟩::pas,?_,?_,by simp[h3],?_,λp hp=>?_⟩
  .rw[List.zipWith_cons_cons,List.map_cons,h1,ok.atm];rfl
  .rw[List.zipWith_cons_cons,List.map_cons,h2];show(⟨Qj a,m⟩:RA)::_=_;rw[ok.nz];rfl
  .rw[List.map_cons,List.map_cons,h4,ok.len]
  rcases List.mem_cons.1 hp with rfl|hp
  .refine⟨ok.asc,λv hv=>?_,λr hr=>by rw[hmr.len r hr,ok.len],hmr.d4,hmr.cnt,hmr.lt⟩;have:=(hk.2.1 (v:Int) (by rw[show(atm a m).vars=Qj a from rfl,ok.nz];exact List.mem_map.2 ⟨v,hv,rfl⟩)).2;omega
  exact h5 p hp
theorem Qnt{l:List LA}{ms:List (List Row)}(hl:ms.length=l.length)(hf:∀ a∈l,a.fits)(hR:∀ i (h1:i<l.length) (h2:i<ms.length),Rl l[i] ms[i])(hc:Gh (n:Int) (l.zipWith atm ms)):
  ∃ pas:List PA,l.zipWith atm ms=pas.map atP/\l.zipWith rat' ms=pas.map raP/\pas.length=l.length/\CtxP n pas:=by
 obtain⟨pas,h1,h2,O,_,D⟩:=Jfn hl hf hR (by have:=hc.2.1;omega) hc.2.2.2.1;refine⟨pas,h1,h2,O,λp y=>(D p y).1,λp y=>(D p y).2.1,λp y=>(D p y).2.2.1,λp y=>(D p y).2.2.2.1,λp y=>(D p y).2.2.2.2.1,λp y=>(D p y).2.2.2.2.2,λv U=>?_,?_⟩
 .obtain⟨a,F,J⟩:=hc.2.2.2.2 v om;rw[h1]at F;obtain⟨p,y,rfl⟩:=List.mem_map.1 F;obtain⟨u,G,e⟩:=List.mem_map.1 J;have:u=v:=by
   have e:(u:Int)=(v:Int):=e;omega
  subst this;exact⟨p,y,G⟩
 have:=hc.2.2.1;rw[h1,List.length_map]at this;exact this
def p0: PA:=⟨[],[]⟩
theorem Qdb(l:List PA): paR l.length (λi=>(l.getD i p0).vs) (λi=>(l.getD i p0).rs)=l:=by
 unfold paR;refine List.ext_getElem (by simp) λi y u=>?_;simp[List.getD,List.getElem?_eq_getElem u]
theorem MatS.d4{l:List PA}{n s:Nat}{M:List Row}(h:CtxP n l)(hs:s<2^n)(hM:MatS l s M): ∀ r∈M,r.length=(bk s 32).length/\∀ y∈r,D4 y:=by
 intro r hr;obtain⟨x,rfl,hx⟩:=(hM.2 r).1 hr;refine⟨by simp,λy Z=>?_⟩;obtain⟨u,hu,rfl⟩:=List.mem_map.1 Z;have O:=(bk_mem.1 hu).2;obtain⟨p,F,hv⟩:=h.cov u (Uw hs O);obtain⟨j,G,e⟩:=List.getElem_of_mem hv;have U:p.vs.getD j 0=u:=by rw[List.getD,List.getElem?_eq_getElem G];exact e
 obtain⟨q,J,hg⟩:=hx p F;have:=hg j G (by rw[U];exact O);rw[U]at this;have D:j<q.length:=by rw[h.len p F q J];exact G
 rw[<-this,List.getD,List.getElem?_eq_getElem D];exact h.d4 p F q J _ (List.getElem_mem D)
theorem bk_n(hs:s<2^n)(hn:n<=32): (bk s 32).length<=n:=by
 have:=Jjc ((Yz s 32).imp λh=>om) (m:=List.range n) λu y=>List.mem_range.2 (Uw hs (bk_mem.1 y).2);rw[List.length_range]at this;exact this
theorem MatS.cnt{M:List Row}(h:CtxP n l)(hs:s<2^n)(hn:n<=8)(hM:MatS l s M): M.length<=65536 :=
 nL (Jkr hM.1 (hM.d4 h hs)) (Jql (nL (bk_n hs om) hn))
theorem Jbv{vo:Value}{w:World}(hC:CtxP n l)(hn:n<=8)(hG:GX 3 AtC Nn w vo (l.map atP))(hs:s<2^n):
  Ret Tryz.prog 15 [.int .i64 (n:Int),.int .u32 (s:Int),vo] w λu w'=>Ext w w'/\∃(t':V3) (st:Int) (M:List Row),u=.tuple #[.agg t'.cells.toArray,.int .i64 st,.int .i64 0]/\Off (Ol w) w' (λx=>AtV x t' (atP ⟨bk s 32,M⟩))/\MatS l s M:=by
 obtain⟨J,A,c,G,rfl,hc,_,hR,aa⟩:=Jfg (hG.1.imp (Ψ:=AtG) (f:=λa=>a) λcs a _ ⟨t,e,h⟩=>⟨t,e,h.here⟩);rw[List.map_id']at G;have F:J.length=l.length:=by
  have:=congrArg List.length G;rw[List.length_map,List.length_map]at this;exact this.symm
 have D:∀ i,i<J.length->l.getD i p0∈l:=λi hi=>getD_mem' p0 l om;have a4:∀ i,i<J.length->(J.getD i ta0).2=⟨nz (l.getD i p0).vs,(l.getD i p0).vs.length,(l.getD i p0).rs⟩:=λi hi=>by
  rw[<-Jqg,<-G];have a9:i<l.length:=om
  simp[List.getD,List.getElem?_eq_getElem a9,atP]
 have a7:MOk n J (λi=>(l.getD i p0).vs) (λi=>(l.getD i p0).rs) s:=by
  refine⟨⟨om,by rw[F];exact hC.few,a4,λi hi=>hC.asc _ (D i hi),λi hi=>hC.lt _ (D i hi),λv U=>?_,λi hi=>hC.srt _ (D i hi),λi hi=>hC.len _ (D i hi),λi hi=>nL (hC.cnt _ (D i hi)) (by decide)⟩,hs,λi hi r hr=>List.all_eq_true.2 λx O=>(hC.d4 _ (D i hi) r hr x O).valid,λi hi=>.inl (nL (hC.cnt _ (D i hi)) (by decide))⟩;obtain⟨p,hp,U⟩:=hC.cov v U;obtain⟨j,hj,rfl⟩:=List.getElem_of_mem hp;exact⟨j,om,by rw[List.getD,List.getElem?_eq_getElem hj];exact U⟩
 have a6:paR J.length (λi=>(l.getD i p0).vs) (λi=>(l.getD i p0).rs)=l:=by rw[F];exact Qdb l
 refine(Jpd a7 hR hc aa λL hL O=>?_).mono λu w' ⟨O,t',st,M,e,a1,a8,hm,_⟩=>⟨O,t',st,M,e,a1,by
  have:=Qgf hs a8 hm;rw[a6]at this;exact this⟩
 refine nL (Jkr hL λz hz=>?_) (Jql (nL (bk_n hs om) hn));obtain⟨y,hy,rfl,hb⟩:=O z hz;refine⟨by simp[pmR],λv U=>?_⟩;obtain⟨u,hu,rfl⟩:=List.mem_map.1 U;have a3:=(bk_mem.1 hu).2;obtain⟨p,hp,a5⟩:=hC.cov u (Uw hs a3);obtain⟨i,hi,rfl⟩:=List.getElem_of_mem hp;have ac:l.getD i p0=l[i]:=by rw[List.getD,List.getElem?_eq_getElem hi];rfl
 obtain⟨j,hj,e⟩:=List.getElem_of_mem a5;have e2:(l[i]).vs.getD j 0=u:=by rw[List.getD,List.getElem?_eq_getElem hj];exact e
 obtain⟨q,Z,hg⟩:=hb i om;have Z:q∈(l.getD i p0).rs:=Z;have hg:∀ j,j<(l.getD i p0).vs.length->s.testBit ((l.getD i p0).vs.getD j 0)=true->q.getD j V0=y.getD ((l.getD i p0).vs.getD j 0) V0:=hg;rw[ac]at Z hg;have:=hg j hj (by rw[e2];exact a3);rw[e2]at this;have a2:j<q.length:=by rw[hC.len _ (List.getElem_mem hi) q Z];exact hj
 rw[<-this,List.getD,List.getElem?_eq_getElem a2];exact hC.d4 _ (List.getElem_mem hi) q Z _ (List.getElem_mem a2)
theorem Qws(hs:s<4294967296)(hn:n<=31): bits .and .u32 (s:Int) (IntKind.u32.wrap (((2^n:Nat):Int)-1))=((s % 2^n:Nat):Int):=by
 have u:0<2^n:=Nat.two_pow_pos n;have y:2^n<=2147483648:=Nat.pow_le_pow_right (by decide:0<2) hn;rw[show((2^n:Nat):Int)-1=((2^n-1:Nat):Int) by omega,u32w om,u32_and_nat s (2^n-1) hs om,Nat.and_two_pow_sub_one_eq_mod]
end Go.Proofs.YtebiphhfkdbpfaaGreat
namespace Go.Wk
open Go.RowKit
section
variable {P:Program} {n:Nat} {al:AL} {w:World} {Q:Exit->Act->World->Prop} {ops:Array Oper} {rest:List Oper} {d ty:Nat} {pos:String} {aft:Array Edge} {tt:TT}
end
end Go.Wk
namespace Go.Proofs.YtebiphhfkdbpfaaGreat
open Go.RowKit Pl Go.Wk Bl Nw
attribute [local irreducible] WC WL QX WD WDB WP WN WG WH
variable {A B rs:List Row}
def AgV(vs:List Int)(rs:List Row)(v:Value)(w:World): Prop:=∃ A n c B m d,v=.agg #[.slice A n c,.slice B m d]/\IntsV w (.slice A n c) vs/\RowsV w (.slice B m d) rs
theorem AgV.ext{vs:List Int}{rs:List Row}{v:Value}{w w':World}(h:AgV vs rs v w)(hx:Ext w w'): AgV vs rs v w':=by
 obtain⟨A,n,c,B,m,d,e,y,u⟩:=h;exact⟨A,n,c,B,m,d,e,y.ext hx,u.ext hx⟩
theorem agV{vs:List Int}{v1 v2:Value}{w:World}(h1:IntsV w v1 vs)(h2:RowsV w v2 rs): AgV vs rs (.agg #[v1,v2]) w:=by
 obtain⟨A,c,rfl,_⟩:=id h1;obtain⟨ps,B,d,_,rfl,_⟩:=id h2;exact⟨_,_,_,_,_,_,rfl,h1,h2⟩
def SF.ag(vs:List Int)(rs:List Row): SF:=⟨AgV vs rs,λh hx=>h.ext hx⟩
def SF.b1(vr:Value): SF:=⟨λv w=>∃ b,v=.slice (some ⟨b,0,none⟩) 1 1/\Blk w b 54 [vr],λ⟨b,e,h⟩ hx=>⟨b,e,h.ext hx⟩⟩
def SF.ab(vs:List Int)(rs:List Row): SF:=⟨λv w=>∃ b A n c B m d,v=.slice (some ⟨b,0,none⟩) 1 1/\Blk w b 46 [.slice A n c,.slice B m d]/\IntsV w (.slice A n c) vs/\RowsV w (.slice B m d) rs,λ⟨b,A,n,c,B,m,d,e,h,h1,h2⟩ hx=>⟨b,A,n,c,B,m,d,e,h.ext hx,h1.ext hx,h2.ext hx⟩⟩
theorem Jfp: ∀ {l:List LA} {ms:List (List Row)},ms.length=l.length->(l.map λa=>(lvs a).length)=(l.zipWith atm ms).map (·.ar)
 | [],[],_=>rfl
 | a::l,m::ms,h=>by
  rw[List.zipWith_cons_cons,List.map_cons,List.map_cons,Jfp (by simpa using h)];rfl
theorem Jfm: ∀ {l:List LA} {ms:List (List Row)},l.zipWith rat' ms=(l.zipWith atm ms).map raO
 | [],_=>rfl
 | _::_,[]=>rfl
 | a::l,m::ms=>by
  rw[List.zipWith_cons_cons,List.zipWith_cons_cons,List.map_cons,Jfm];rfl
theorem smL2{n:Nat}{vs:List Nat}(hn:n<=8)(h1:∀ v∈vs,v<n)(hA:∀ r∈A,r.length=vs.length/\∀ y∈r,D4 y)(hB:∀ r∈B,r.length=vs.length/\∀ y∈r,D4 y)(cA:A.length<=1000000)(cB:B.length<=1000000): SmL [⟨vs,A⟩,⟨vs,B⟩]:=by
 have u:∀ {P:PA->Prop},P ⟨vs,A⟩->P ⟨vs,B⟩->∀ a∈[(⟨vs,A⟩:PA),⟨vs,B⟩],P a:=λh1 J a G=>by
  simp only[List.mem_cons,List.not_mem_nil,or_false]at G;rcases G with rfl|rfl<;>assumption
 exact⟨u (λv F=>nM (h1 v F) hn) λv F=>nM (h1 v F) hn,u (λr D=>(hA r D).1) λr D=>(hB r D).1,u (λr D=>(hA r D).2) λr D=>(hB r D).2,u cA cB⟩
open Go.RowKit Pl Go.Wk Bl Nw
variable {M:List Row}{a b n s sa:Nat}{t:V3}{w:World}
theorem Qns{l:List PA}(h:CtxP n l)(hl:l.length<=6): CtxP n (l++l):=by
 have key:∀ {P:PA->Prop},(∀ p∈l,P p)->∀ p∈l++l,P p:=λh p y=>(List.mem_append.1 y).elim (h p) (h p);refine⟨key h.asc,key h.lt,key h.len,key h.d4,key h.cnt,key h.srt,λv u=>?_,by rw[List.length_append];omega⟩;obtain⟨p,y,u⟩:=h.cov v u;exact⟨p,List.mem_append_left _ y,u⟩
theorem bs0At(w:World): (Instr.buildSlice 26 0 #[]).run Tryz.prog w=.ok (.slice (some ⟨w.heap.size,0,none⟩) 0 0) (w.alloc (.cells ([]:List Value).toArray 37)):=kr
theorem AtC.one{N:Nat->Prop}{w:World}{cs:List Value}{a:Atm}(h:AtC N w cs a): ∀ u∈cs,u.oneCell'=true:=by
 obtain⟨t,rfl,h⟩:=h;exact h.here.one
theorem Qdh(ha:a<4294967296)(hb:b<4294967296)(hn:n<=31): bits .and .u32 (bits .or .u32 (a:Int) (b:Int)) (IntKind.u32.wrap (((2^n:Nat):Int)-1))=(((a ||| b) % 2^n:Nat):Int):=by
 rw[Qjr ha hb];exact Qws (Jbp ha hb) hn
theorem Jkj(h:AtV w t (atP ⟨bk s 32,M⟩))(hl:∀ r∈M,r.length=(bk s 32).length)(hm:M.length<=65536): Ret Tryz.prog 18 [.agg t.cells.toArray] w λu w'=>AgV (nz (bk s 32)) M u w'/\Ext w w' :=
 (Qhl h (λr y=>by
  have:=hl r y;have:=Jvd s 32;omega) (by show M.length<=1100000;omega)).mono λu w' ⟨O,J,e,G,F,D⟩=>⟨by rw[e];exact agV G F,D⟩
theorem Jvh(h:AtV w t (atP ⟨bk s 32,M⟩)): ∃ A c B m d,t=(.slice A (nz (bk s 32)).length c,.int .i64 ((bk s 32).length:Int),.slice B m d):=by
 obtain⟨Z,U,O⟩:=t;obtain⟨⟨E,ec,y,_⟩,D,G,F,fc,J,u,_⟩:=h;simp only at y D u;subst y;subst D;subst u;exact⟨_,_,_,_,_,rfl⟩
theorem Qsm{vl:Value}{l:List LA}{sb:Nat}(hl:GX 3 LaC Nn w vl l)(hll:l.length<=1048576)(hn256:n<256)(hsa:sa<4294967296)(hsb:sb<4294967296):
  Ret Tryz.prog 5 [.int .u8 (n:Int),vl,.agg #[.int .u32 (sa:Int),.int .u32 (sb:Int)]] w λu w'=>u=.bool true/\Ext w w':=by
 refine Jz Tryz.func5 Tryz.ntmps5 rfl kr rfl ?_;refine ρ ?_;refine bx (cs:=[.int .u32 (sa:Int),.int .u32 (sb:Int)]) ?_;intro w0 b5 c7 fe en;refine ρ ?_;refine cl (Jpf (hl.ext LaC.sta (by decide) c7) hll) ?_;rintro u w1 ⟨b9,h3⟩;have ae:=c7.trans b9;rcases h3 with⟨hf,vo,vm,va,ms,rfl,cb,eh,hO,hM,hI⟩|⟨hno,rfl⟩
 case inr=>
  refine ρ ?_;refine cl (Jvg _) ?_;rintro x w4 ⟨rfl,F⟩;refine ρ ?_;exact Jq ⟨rfl,ae.trans F⟩
 have aw:∀ {w2:World},Ext w w2->Ret Tryz.prog 8 [] w2 λu w'=>u=.bool true/\Ext w w':=λh=>(Jvg _).mono λu w' ⟨e,hx⟩=>⟨e,h.trans hx⟩;refine ρ ?_;by_cases h6:l.length<=6
 case neg=>
  refine kt 33 ?_ ?_
  .rw[decide_eq_false h6];rfl
  refine ρ ?_;refine cl (aw ae) ?_;rintro x w4 ⟨rfl,F⟩;refine ρ ?_;exact Jq ⟨rfl,F⟩
 refine kf 33 ?_ ?_
 .rw[decide_eq_true h6];rfl
 refine ρ ?_;by_cases h5:n<=5
 case neg=>
  refine kt 37 ?_ ?_
  .exact decide_eq_true om
  refine ρ ?_;refine cl (aw ae) ?_;rintro x w4 ⟨rfl,F⟩;refine ρ ?_;exact Jq ⟨rfl,F⟩
 refine kf 37 ?_ ?_
 .exact dF om
 rw[Jfm]at hM;rw[Jfp cb]at hI;have ax:IntKind.i64.wrap (n:Int)=(n:Int):=Ze om;refine ρ ?_;refine kv 39 (congrArg (Value.int .i64) ax) ?_;refine cl (Qyh (n:=n) hM hI) ?_;rintro u w2 ⟨⟨e,rfl,he⟩,ap⟩;have c6:=ae.trans ap;by_cases h0:e=0
 case neg=>
  refine ρ ?_;refine ct ?_ ?_
  .simpa using h0
  refine ρ ?_;refine cl (aw c6) ?_;rintro x w4 ⟨rfl,F⟩;refine ρ ?_;exact Jq ⟨rfl,F⟩
 have ce:=he.1 h0;subst h0;clear he;obtain⟨a7,eA,eR,fb,hC⟩:=Qnt cb hf eh ce;rw[eA]at hO;have a6:n<=8:=om
 have hS:(sa ||| sb) % 2^n<2^n:=Nat.mod_lt _ (Nat.two_pow_pos n);have bb:(sa ||| sb) % 2^n<4294967296:=nN (Nat.mod_le _ _) (Jbp hsa hsb);have cm:=Qdh hsa hsb (by omega:n<=31);generalize (sa ||| sb) % 2^n=S at *
 have bf:=u32_and_nat sa S hsa bb;have hs:sa &&& S<2^n:=nN Nat.and_le_right hS;have c9:sa &&& S<4294967296:=nN Nat.and_le_right bb;have c8:∀ v,(sa &&& S).testBit v=true->S.testBit v=true/\v<32:=λv hv=>by
  rw[Nat.testBit_and,Bool.and_eq_true]at hv;refine⟨hv.2,?_⟩;have:=Uw hS hv.2;omega
 generalize sa &&& S=T at *
 have ak:=(en.ext b9).ext ap;refine ρ ?_;refine ixb 0 (m:=2) (by decide) ?_;refine ρ ?_;refine ld (ak.atc (i:=0) rfl) ?_;refine ρ ?_;refine ixb 1 (m:=2) (by decide) ?_;refine ρ ?_;refine ld (ak.atc (i:=1) rfl) ?_;refine ρ ?_;refine sl32b (v:=n) om ?_;refine ρ ?_;refine kv 11 (congrArg (Value.int .u32) cm) ?_;refine ixb 0 (m:=2) (by decide) ?_;refine ρ ?_;refine ld (ak.atc (i:=0) rfl) ?_;refine ρ ?_;refine kv 12 (congrArg (Value.int .u32) bf) ?_;refine kv 61 (congrArg (Value.int .i64) ax) ?_;refine cl (Jbv hC a6 (hO.ext AtC.sta (by decide) ap) hS) ?_;rintro u w3 ⟨dt,tX,stX,X,rfl,dx,av⟩;have hX:=dx.here;have bh:=av.d4 hC hS;have au:=av.cnt hC hS a6;obtain⟨X1,bp,X3,bn,bo,rfl⟩:=Jvh hX;refine ρ ?_;refine alc Zr ?_;intro w4 fi F e7 eo;refine ρ ?_;refine stb (cs':=[.slice X1 (nz (bk S 32)).length bp,.int .i64 ((bk S 32).length:Int),.slice X3 bn bo]) eo ?_ (Ky rfl);intro w5 d6 fd dq
 have b3:Ext w3 w5:=dq w3 F e7;have b8:=ap.trans (dt.trans b3);refine ρ ?_;refine kv 70 (congrArg (Value.int .i64) ax) ?_;refine cl (Jbv hC a6 (hO.ext AtC.sta (by decide) b8) hs) ?_;rintro u w6 ⟨dn,tY,f6,Y,rfl,dw,bi⟩;have hY:=dw.here;have bg:=bi.d4 hC hs;have eg:=bi.cnt hC hs a6;obtain⟨Y1,dd,Y3,db,dc,rfl⟩:=Jvh hY;refine ρ ?_;refine alc Zr ?_;intro w7 fh dm e6 em;refine ρ ?_;refine stb (cs':=[.slice Y1 (nz (bk T 32)).length dd,.int .i64 ((bk T 32).length:Int),.slice Y3 db dc]) em ?_ (Ky rfl);intro w8 d5 fc dl;have b2:Ext w6 w8:=dl w6 dm e6;have aa:=dn.trans b2;have am:=d6.ext aa;have cq:=hX.ext (b3.trans aa);have ch:∀ v∈bk S 32,v<32:=λv hv=>(bk_mem.1 hv).1;refine ρ ?_;refine lds (cs:=[.slice X1 (nz (bk S 32)).length bp,.int .i64 ((bk S 32).length:Int),.slice X3 bn bo]) (λj u hu=>am.at hu) ?_;refine ρ ?_;refine cl (Qjw (vars:=bk S 32) (rs:=X) cq c9 (Yz S 32) ch (λr hr=>(bh r hr).1) au) ?_
 rintro u w9 ⟨dk,tP,rfl,P,dz,ei,_,a5⟩;have a5:=a5 (.inl au);obtain⟨ep,cu⟩:=Qfw c8 av a5 bi;have hP:=dz.here;rw[ep]at hP;obtain⟨P1,dg,P3,de,df,rfl⟩:=Jvh hP;have cr:∀ r∈P,r.length=(bk T 32).length/\∀ y∈r,D4 y:=λr hr=>bg r (cu r hr);refine ρ ?_;refine alc Zr ?_;intro f2 fg c5 ck d7;refine ρ ?_;refine stb (cs':=[.slice P1 (nz (bk T 32)).length dg,.int .i64 ((bk T 32).length:Int),.slice P3 de df]) d7 ?_ (Ky rfl);intro G d0 eu c0;have a8:Ext w9 G:=c0 w9 c5 ck;have U:=dk.trans a8;have a1:=b8.trans (aa.trans U);refine ρ ?_;refine bsl bs0At ?_;intro di er a4 ai cy;have cx:=hO.ext AtC.sta (by decide) (a1.trans a4);obtain⟨OA,oc,_,rfl,_⟩:=id cx.el;have e0:OX 37 3 AtC (λq=>G.heap.size<=q) di G.heap.size (.slice (some ⟨er,0,none⟩) 0 0) ([]:List Atm):=⟨[],rfl,cy.own (n:=0) ai rfl (Nat.zero_le _),λp hp=>by cases hp⟩;have cw:∀ {x:World},Ext G x->GX 3 AtC (λq=>G.heap.size<=q) x (.slice OA (a7.map atP).length oc) (a7.map atP):=λh=>((hO.ext AtC.sta (by decide) a1).old AtC.sta (by decide) λk hk=>.inr hk).ext AtC.sta (by decide) h
 refine ρ ?_;refine Jxr EA AtC.sta e0 (cw a4) (λcs a h=>AtC.one h) (λk hk=>.inl hk) (λg hg=>by
  injection hg with hg
  subst hg;exact ai) (by simp) (by decide) a4.size ?_
 intro f4 dh ah cd _;rw[List.nil_append]at ah;have ac:Ext G dh:=Jf a4 cd λq e=>by
  injection e with e
  subst e;exact ai
 obtain⟨_,_,_,_,af⟩:=id ah.form;have es:(a7.map atP).length<=6:=by rw[List.length_map];omega
 refine ρ ?_;refine Jxr EA AtC.sta ah (cw ac) (λcs a h=>AtC.one h) (λk hk=>.inl hk) (λg hg=>(af g hg).1) om (by decide) ac.size ?_;intro dj br ca cc _;have bz:Ext G br:=Jf ac cc λq e=>(af q e).1;have ek:GX 3 AtC Nn br dj ((a7++a7).map atP):=by
  rw[List.map_append];exact ca.gx AtC.sta (by rw[List.length_append];omega) λk hk=>hk.elim
 refine ρ ?_;refine kv 85 (congrArg (Value.int .i64) ax) ?_;refine cl (Jbv (Qns hC om) a6 ek hS) ?_;rintro u bq ⟨be,tZ,f5,Z,rfl,du,ej⟩;have ef:Z=X:=(Qgd ej).uniq av;subst ef;have hZ:=du.here;obtain⟨Z1,da,Z3,d8,d9,rfl⟩:=Jvh hZ;refine ρ ?_;refine alc Zr ?_;intro f0 ff bw cj bl;refine ρ ?_;refine stb (cs':=[.slice Z1 (nz (bk S 32)).length da,.int .i64 ((bk S 32).length:Int),.slice Z3 d8 d9]) bl ?_ (Ky rfl);intro an cz et bv;have a3:Ext bq an:=bv bq bw cj;have ar:=bz.trans (be.trans a3);have bd:Ext an an.drew:=(Ext.refl an).drew;have ad:=ar.trans bd;have ay:=U.trans ad;have bj:=cz.ext bd;have bm:=am.ext ay;have cp:=cq.ext ay;have cn:=hZ.ext (a3.trans bd);have aj:∀ r∈Z,r.length=(bk S 32).length:=λr hr=>(bh r hr).1;have ba:∀ r∈Z,NoS r:=λr hr x hx=>((bh r hr).2 x hx).noS;refine ρ ?_;refine drH (λ_=>false) ?_;refine Uj (fuel':=5) 24 [(0,0),(0,1),(0,2),(0,3),(0,4),(0,5),(0,6),(0,7),(0,8),(0,9),(0,10),(0,11),(0,12),(0,13),(0,14),(0,15),(0,17)] #[true,true,true,true,true,true,true,true,true,true,true,true,true,true,true,true,false,true,false,false,false,false] kr kr rfl ?_
 refine ρd ?_;refine Qq (cs:=[.slice Z1 (nz (bk S 32)).length da,.int .i64 ((bk S 32).length:Int),.slice Z3 d8 d9]) (λj u hu=>bj.at hu) ?_;refine ρd ?_;refine Qq (cs:=[.slice X1 (nz (bk S 32)).length bp,.int .i64 ((bk S 32).length:Int),.slice X3 bn bo]) (λj u hu=>bm.at hu) ?_;refine ρd ?_;refine Uq ?_;refine hmkS 24 3 _ #[true,true,true,true,true,true,true,true,true,true,true,true,true,true,true,true,true,true,true,false,false,false] [16,18] [112,114] [SF.ag (nz (bk S 32)) Z,SF.ag (nz (bk S 32)) Z] kr (by rfl) ?_ ?_
 .refine gsc (λao v1 O hd=>?_) ?_
  .simp only[slM];refine ρ ?_;refine cl (Jkj (cn.ext O) aj au) ?_;rintro u v2 ⟨a2,J⟩;refine ρ ?_;exact Zz J a2
  refine gsc (λao v1 O hd=>?_) gse
  simp only[slM];refine ρ ?_;refine cl (Jkj (cp.ext O) aj au) ?_;rintro u v2 ⟨a2,J⟩;refine ρ ?_;exact Zz J a2
 intro ao ez bu hd;obtain⟨A1,n1,c1,B1,fa,d1,e1,ee,ed⟩:=hd 0;obtain⟨A2,n2,c2,B2,f9,d2,e2,ea,e9⟩:=hd 1;simp only[slM,e1,e2];refine Uj (fuel':=0) 24 [(1,19),(0,20),(0,21)] #[true,true,true,true,true,true,true,true,true,true,true,true,true,true,true,true,true,true,true,true,true,true] kr kr rfl ?_;refine ρd ?_;refine dcl (Jlx ee ed ea e9 ba ba) ?_;rintro u bc ⟨rfl,b7⟩;refine⟨b7,?_⟩;have e5:decide (nz (bk S 32)=nz (bk S 32)/\Z=Z)=true:=decide_eq_true ⟨rfl,rfl⟩;refine ρd ?_;refine Uq ?_;refine Xf kr ?_;have aq:=ad.trans (bu.trans b7);refine ρ ?_;refine cf ?_ ?_
 .rw[e5];rfl
 have bs:Ext bc bc.drew:=(Ext.refl bc).drew;refine ρ ?_;refine drH (λ_=>false) ?_;refine Uj (fuel':=5) 24 [(1,0),(0,1),(0,2),(0,4)] #[true,true,true,false,true,false,false,false,false] kr kr rfl ?_;refine dcl (Jvg _) ?_;rintro x ey ⟨rfl,b6⟩;refine⟨b6,?_⟩;have D:=aq.trans (bs.trans b6);have a9:=U.trans D;refine ρd ?_;refine Qq (cs:=[.slice Y1 (nz (bk T 32)).length dd,.int .i64 ((bk T 32).length:Int),.slice Y3 db dc]) (λj u hu=>(d5.ext a9).at hu) ?_;refine ρd ?_;refine Qq (cs:=[.slice P1 (nz (bk T 32)).length dg,.int .i64 ((bk T 32).length:Int),.slice P3 de df]) (λj u hu=>(d0.ext D).at hu) ?_;refine ρd ?_;refine Uq ?_;have co:=hY.ext (b2.trans a9);have cv:=hP.ext (a8.trans D);refine hmkS 24 3 _ #[true,true,true,true,true,true,false,false,false] [3,5] [121,123] [SF.ag (nz (bk T 32)) Y,SF.ag (nz (bk T 32)) P] kr (by rfl) ?_ ?_
 .refine gsc (λao v1 O hd=>?_) ?_
  .simp only[slM];refine ρ ?_;refine cl (Jkj (co.ext O) (λr hr=>(bg r hr).1) eg) ?_;rintro u v2 ⟨a2,J⟩;refine ρ ?_;exact Zz J a2
  refine gsc (λao v1 O hd=>?_) gse
  simp only[slM];refine ρ ?_;refine cl (Jkj (cv.ext O) (λr hr=>(cr r hr).1) ei) ?_;rintro u v2 ⟨a2,J⟩;refine ρ ?_;exact Zz J a2
 intro f3 ex bt hd;obtain⟨A3,n3,c3,B3,f8,d3,e3,ec,eb⟩:=hd 0;obtain⟨A4,n4,c4,B4,f7,d4,e4,e8,cg⟩:=hd 1;simp only[slM,e3,e4];refine Uj (fuel':=0) 24 [(1,6),(0,7),(0,8)] #[true,true,true,true,true,true,true,true,true] kr kr rfl ?_;refine ρd ?_;refine dcl (Qlt (a:=⟨bk T 32,Y⟩) (b:=⟨bk T 32,P⟩) ec eb e8 cg (smL2 a6 (λv hv=>Uw hs (bk_mem.1 hv).2) bg cr om om) (Yz T 32) rfl a5.1 cu) ?_;rintro u ew ⟨rfl,b4⟩;refine⟨b4,?_⟩;refine ρd ?_;refine Uq ?_;refine Xf kr ?_;refine ρ ?_;exact Jq ⟨rfl,ae.trans (a1.trans (D.trans (bt.trans b4)))⟩
end Go.Proofs.YtebiphhfkdbpfaaGreat
namespace Go.Wk
open Go.RowKit Go.ChangeShapes Go.WideShapes
variable {cap e fuel len t:Nat}{A:Option Addr}
section
variable {H:Type} {enc:TypeId×Value->H} {P:Program} {w:World} {base:Nat} {spare:Nat->Bool} {held:Bool}
theorem rd_of{sz:Nat}{cs:List Value}{ad:Addr}(hA:A=some ad)(hl:cs.length=len*sz)(hc:∀ j u,cs[j]?=some u->w.cell? (ad.add j)=some u): Rd w sz A len cs :=
 ⟨hl,λh0=>⟨ad,hA,by
  have y:=hc 0 cs[0] (gE h0);rw[add_zero]at y;exact World.block_lt_of_cell? w ad y,hc⟩⟩
theorem Jnk{α:Type}{sz:Nat}{x:DataW H×List MemPlace}(X:α->List Value)(R:α->Prop)(ht:P.underlying t=some (.slice e))(hc:P.cellsOf e=sz)(hX:∀(n:Nat) (cs':List Value) (y:DataW H×List MemPlace),DataW.trod enc P w base spare held n e cs'=some y->∃ z:α,cs'=X z/\R z)(h:DataW.trod enc P w base spare held fuel t [.slice A len cap]=some x): ∃ l:List α,l.length=len/\Rd w sz A len (l.flatMap X)/\(∀ z∈l,R z)/\len<=cap/\cap<=maxLen:=by
 rcases Go.Deep.open_slice ht h with⟨F,_⟩|⟨a,len',cap',m,n,D,Pl,F,_,hl,hm,hmm,_,hel⟩
 .simp only[List.cons.injEq,Value.slice.injEq,and_true]at F;obtain⟨rfl,rfl,rfl⟩:=F;exact⟨[],rfl,Rd.nil,(λz O=>by cases O),Nat.le_refl _,Nat.zero_le _⟩
 simp only[List.cons.injEq,Value.slice.injEq,and_true]at F;obtain⟨rfl,rfl,rfl⟩:=F;have a2:len<=m:=by grind
 have key:∀ k,k<=len->∃ l:List α,l.length=k/\(l.flatMap X).length=k*sz/\(∀ j u,(l.flatMap X)[j]?=some u->w.cell? (a.add j)=some u)/\∀ z∈l,R z:=by
  intro k;induction k with
  | zero=>intro _;exact⟨[],rfl,by simp,(λj u J=>by simp at J),(λz O=>by cases O)⟩
  | succ k ih=>
   intro hk;obtain⟨l,h1,h2,h3,h4⟩:=ih om;obtain⟨cs',G,U⟩:=hel k om;obtain⟨z,rfl,O⟩:=hX n cs' _ U;rw[hc]at G;obtain⟨_,a1,Z⟩:=World.cells?_some G;refine⟨l++[z],by simp[h1],?_,?_,?_⟩
   .grind
   .intro j u J;rw[List.flatMap_append]at J;simp only[List.flatMap_cons,List.flatMap_nil,List.append_nil]at J;rcases Nat.lt_or_ge j (k*sz) with hj|hj
    .grind
    rw[List.getElem?_append_right om,h2]at J;have hb:j-k*sz<sz:=by grind
    have:=Z (j-k*sz) hb;rw[Jfj]at this;grind
   repeat grind
 obtain⟨l,h1,h2,h3,h4⟩:=key len (nR _);grind [rd_of]
end
end Go.Wk
namespace Go.Proofs.YtebiphhfkdbpfaaGreat
open Go.RowKit Pl Go.Wk Go.ChangeShapes Go.WideShapes
variable {cs:List Value}
section
variable {H:Type} {enc:TypeId×Value->H} {P:Program} {w:World} {base:Nat} {spare:Nat->Bool} {held:Bool} {B:Nat}
theorem Qzp{t e:TypeId}{fuel:Nat}{x:DataW H×List MemPlace}(ht:P.underlying t=some (.array 4 e))(hce:P.cellsOf e=1)(hct:P.cellsOf t=4)(h:DataW.trod enc P w base spare held fuel t cs=some x):
  ∃ c0 c1 c2 c3 y0 y1 y2 y3 n,cs=[c0,c1,c2,c3]/\DataW.trod enc P w base spare held n e [c0]=some y0/\DataW.trod enc P w base spare held n e [c1]=some y1/\DataW.trod enc P w base spare held n e [c2]=some y2/\DataW.trod enc P w base spare held n e [c3]=some y3:=by
 cases fuel with
 | zero=>simp[DataW.trod]at h
 | succ n=>
  unfold DataW.trod at h;rw[ht]at h;have u:List.range 4=[0,1,2,3]:=rfl;simp[u,hce,hct]at h;obtain⟨y,h⟩:=h;match cs,y with
  | [c0,c1,c2,c3],_=>
   simp at h;cases h0:DataW.trod enc P w base spare held n e [c0] with
   | none=>simp[h0]at h
   | some y0=>
    cases h1:DataW.trod enc P w base spare held n e [c1] with
    | none=>simp[h0,h1]at h
    | some y1=>
     cases h2:DataW.trod enc P w base spare held n e [c2] with
     | none=>simp[h0,h1,h2]at h
     | some y2=>
      cases h3:DataW.trod enc P w base spare held n e [c3] with
      | none=>simp[h0,h1,h2,h3]at h
      | some y3=>exact⟨c0,c1,c2,c3,y0,y1,y2,y3,n,rfl,h0,h1,h2,h3⟩
end
section
variable {H:Type} {enc:TypeId×Value->H} {w:World} {base b0:Nat} {spare:Nat->Bool} {held:Bool}
theorem Iz{n:Int}(h:0<=n/\n<=255): ∃ x:Nat,n=(x:Int)/\x<256:=⟨n.toNat,om,om⟩
theorem Qdm{n:Nat}{y:DataW H×List MemPlace}(h:DataW.trod enc Tryz.prog w base spare held n 71 cs=some y): ∃ l:List Nat,cs=u8C l/\l.length=4/\∀ x∈l,x<256:=by
 obtain⟨c0,c1,c2,c3,y0,y1,y2,y3,n,rfl,f0,f1,f2,f3⟩:=Qzp Tryz.underlying71 kr kr h;obtain⟨a0,J,_,w0⟩:=DataW.trod_int Tryz.underlying5 f0;obtain⟨a1,G,_,w1⟩:=DataW.trod_int Tryz.underlying5 f1;obtain⟨a2,F,_,w2⟩:=DataW.trod_int Tryz.underlying5 f2;obtain⟨a3,D,_,w3⟩:=DataW.trod_int Tryz.underlying5 f3;simp at J G F D;subst J;subst G;subst F;subst D;obtain⟨x0,rfl,l0⟩:=Iz (bounds_u8 w0);obtain⟨Z,rfl,l1⟩:=Iz (bounds_u8 w1);obtain⟨U,rfl,l2⟩:=Iz (bounds_u8 w2);obtain⟨O,rfl,l3⟩:=Iz (bounds_u8 w3);exact⟨[x0,Z,U,O],rfl,rfl,λx u=>by
  simp only[List.mem_cons,List.not_mem_nil,or_false]at u;rcases u with rfl|rfl|rfl|rfl<;>assumption⟩
end
open Go.RowKit Pl Go.Wk Go.ChangeShapes Go.WideShapes
section
variable {H:Type} {enc:TypeId×Value->H} {w:World} {base b0:Nat} {spare:Nat->Bool} {held:Bool}
theorem Qzq{P:Program}{t e:TypeId}{fuel:Nat}{cs:List Value}{x:DataW H×List MemPlace}(ht:P.underlying t=some (.array 2 e))(hce:P.cellsOf e=1)(hct:P.cellsOf t=2)(h:DataW.trod enc P w base spare held fuel t cs=some x):
  ∃ c0 c1 y0 y1 n,cs=[c0,c1]/\DataW.trod enc P w base spare held n e [c0]=some y0/\DataW.trod enc P w base spare held n e [c1]=some y1:=by
 cases fuel with
 | zero=>simp[DataW.trod]at h
 | succ n=>
  unfold DataW.trod at h;rw[ht]at h;have u:List.range 2=[0,1]:=rfl;simp[u,hce,hct]at h;obtain⟨y,h⟩:=h;match cs,y with
  | [c0,c1],_=>
   simp at h;cases h0:DataW.trod enc P w base spare held n e [c0] with
   | none=>simp[h0]at h
   | some y0=>
    cases h1:DataW.trod enc P w base spare held n e [c1] with
    | none=>simp[h0,h1]at h
    | some y1=>exact⟨c0,c1,y0,y1,n,rfl,h0,h1⟩
theorem Qdk{v:Value}{d:DataW H}{p:List MemPlace}(hv:Value.okWide Tryz.prog w .any b0 59 v)(h:DataW.Trod enc Tryz.prog w base spare held 59 v d p): ∃ a b:Nat,v=.agg #[.int .u32 (a:Int),.int .u32 (b:Int)]/\a<4294967296/\b<4294967296:=by
 simp only[Value.okWide,Tryz.underlying59]at hv;obtain⟨⟨l⟩,rfl,_,_⟩:=hv;obtain⟨u,h⟩:=h;obtain⟨O,J,y0,Z,n,e,F,f1⟩:=Qzq Tryz.underlying59 kr kr h;obtain⟨a0,D,_,w0⟩:=DataW.trod_int Tryz.underlying25 F;obtain⟨U,y,_,w1⟩:=DataW.trod_int Tryz.underlying25 f1;have b0:=bounds_u32 w0;have b1:=bounds_u32 w1;have G:l=[O,J]:=e;simp at D y;subst G;subst D;subst y;refine⟨a0.toNat,U.toNat,?_,om,om⟩;rw[Int.toNat_of_nonneg b0.1,Int.toNat_of_nonneg b1.1]
end
open Go.RowKit Pl Go.Wk Bl
attribute [local irreducible] WC WL QX WD WDB WP WN WG WH WM
variable {l:List LA}{α:Type}{v vl:Value}{w:World}
def GM(sz:Nat)(Φ:World->List Value->α->Prop)(w:World)(v:Value)(ls:List α): Prop :=
 ∃(ps:List (List Value×α)) (A:Option Addr) (c:Nat),ls=ps.map (·.2)/\v=.slice A ps.length c/\ps.length<=c/\Rd w sz A ps.length (Jd ps)/\∀ p∈ps,p.1.length=sz/\Φ w p.1 p.2
theorem GM.parts{sz:Nat}{Φ:World->List Value->α->Prop}{ls:List α}(h:GM sz Φ w v ls): ∃ A c cs,v=.slice A ls.length c/\ls.length<=c/\Rd w sz A ls.length cs/\∀ i (hi:i<ls.length),∃ ce,ce.length=sz/\Φ w ce ls[i]/\∀ j u,ce[j]?=some u->w.cell? ((adr A (i*sz)).add j)=some u:=by
 obtain⟨ps,A,c,e,Z,U,G,D⟩:=h;subst e;refine⟨A,c,Jd ps,by grind,by grind,by grind,λi hi=>?_⟩;rw[List.length_map]at hi;have J:=D ps[i] (List.getElem_mem hi);refine⟨ps[i].1,J.1,by grind,λj u F=>?_⟩;have O:j<sz:=by grind
 rw[Gm];exact G.cell ((Jwk (λp y=>(D p y).1) (gE hi) O).trans F)
theorem GM.ext{α:Type}{sz:Nat}{Φ:World->List Value->α->Prop}{w w':World}{v:Value}{ls:List α}(h:GM sz Φ w v ls)(hx:Ext w w')(hΦ:∀ cs a,Φ w cs a->Φ w' cs a): GM sz Φ w' v ls:=by
 obtain⟨ps,A,c,e,G,F,D,u⟩:=h;exact⟨ps,A,c,e,G,F,D.ext hx,λp y=>⟨(u p y).1,hΦ _ _ (u p y).2⟩⟩
def LaM(w:World)(cs:List Value)(a:LA): Prop:=a.vars<256/\a.bad<256/\∃ v,cs=[.int .u8 (a.vars:Int),v,.int .u8 (a.bad:Int)]/\GM 4 (U8R Nn) w v a.rows
theorem LaM.ext{w w':World}(hx:Ext w w')(cs:List Value)(a:LA)(h:LaM w cs a): LaM w' cs a:=by
 obtain⟨D,y,v,e,u⟩:=h;exact⟨D,y,v,e,u.ext hx λ_ _ h=>h⟩
theorem LaM.c{w:World}{cs:List Value}{a:LA}(h:LaM w cs a)(hl:a.rows.length<=12): LaC Nn w cs a:=by
 obtain⟨O,J,v,e,ps,A,c,u,ev,G,y,D⟩:=h;have F:ps.length<=12:=by rw[u,List.length_map]at hl;exact hl
 have:=Jqz (Φ:=U8R) y G om D;rw[<-u,<-ev]at this;exact⟨O,J,v,e,this⟩
theorem GM.c{w:World}{v:Value}{l:List LA}(h:GM 3 LaM w v l)(h6:l.length<=6)(h12:∀ a∈l,a.rows.length<=12): GX 3 LaC Nn w v l:=by
 obtain⟨ps,A,c,y,ev,J,F,D⟩:=h;have G:ps.length<=6:=by rw[y,List.length_map]at h6;exact h6
 have:=Jqz (Φ:=LaC) F J om λp u=>⟨(D p u).1,(D p u).2.c (h12 _ (by rw[y];exact List.mem_map.2 ⟨p,u,rfl⟩))⟩;rw[<-y,<-ev]at this;exact this
theorem Qgm(hl:GM 3 LaM w vl l)(hn:l.length<=3518437208780)(hno:¬ (l.length<=6/\∀ a∈l,a.rows.length<=12)): Ret Tryz.prog 7 [vl] w λu w'=>Ext w w'/\∃ vo vm va,u=.tuple #[vo,vm,va,.bool false]:=by
 obtain⟨A,c,_,rfl,hc,hR,he⟩:=hl.parts;refine Jz Tryz.func7 Tryz.ntmps7 rfl kr rfl ?_;refine ρ ?_;refine Gp (fun (k:Nat) (vo vm va:Value)=>[(0,.slice A l.length c),(6,vo),(7,vm),(8,va),(21,.slice A l.length c),(22,.int .i64 (l.length:Int)),(23,.int .i64 (k:Int))])
  (λk vo vm va w'=>k<=l.length/\Ext w w'/\(∀ i (h:i<l.length),i<k->(l[i]).rows.length<=12)/\(∃ xs,w'.ownsRow w.heap.size 3 1 va k xs)/\(∃ xs,w'.ownsRow w.heap.size 37 3 vo k xs)/\∃ xs,w'.ownsRow w.heap.size 46 2 vm k xs)
  (λk _ _ _=>l.length-k) 0 (.slice none 0 0) (.slice none 0 0) (.slice none 0 0) sB ⟨Nat.zero_le _,Ext.refl _,λi _ h=>absurd h (Nat.not_lt_zero _),⟨_,Qt _ _ _ _⟩,⟨_,Qt _ _ _ _⟩,_,Qt _ _ _ _⟩ ?_
 rintro k vo vm va w1 ⟨hk,a4,bj,⟨xa,ch⟩,⟨xo,c1⟩,xm,cg⟩;refine ρ ?_;refine ci (λD=>?_) (λD=>?_)
 .have lk:k<l.length:=by have:=oT D;omega
  clear D;obtain⟨ce,_,⟨d7,du,vR,rfl,hG⟩,dm⟩:=he k lk;obtain⟨c9,rc,_,rfl,f8,e1,e2⟩:=hG.parts;generalize ha:l[k]=a at *
  refine ρ ?_;refine ixq 3 k (hR.ext a4) lk ?_;refine ρ ?_;refine lds (λj u O=>Qp a4 (dm j u O)) ?_;refine ρ ?_;refine alc zLaw ?_;intro w2 b2 d5 dw e7;refine ρ ?_;refine stb (cs':=[.int .u8 (a.vars:Int),.slice c9 a.rows.length rc,.int .u8 (a.bad:Int)]) e7 ?_ (λu O=>by
   simp only[List.mem_cons,List.not_mem_nil,or_false]at O;rcases O with rfl|rfl|rfl<;>rfl)
  intro w3 ba fh d3;have aq:Ext w1 w3:=d3 w1 d5 dw;refine ρ ?_;refine Qz (fun (v:Nat) (vv:Value)=>[(0,.slice A l.length c),(6,vo),(7,vm),(8,va),(10,.pointer (some ⟨b2,0,none⟩)),(11,vv),(21,.slice A l.length c),(22,.int .i64 (l.length:Int)),(23,.int .i64 (k:Int)),(27,.int .i64 (v:Int))])
   (λv vv w'=>v<=8/\Ext w3 w'/\Qy w' w3.heap.size vv (Jy v a.vars)) (λv _=>8-v) 0 (.slice none 0 0) sB ⟨Nat.zero_le _,Ext.refl _,Qt _ _ _ _⟩ ?_
  rintro v vv w4 ⟨hv,a3,an⟩;refine ρ ?_;refine ci (λD=>?_) (λD=>?_)
  .have lv:v<8:=by have:=oT D;omega
   clear D;refine ρ ?_;refine ld ((ba.ext a3).at (i:=0) rfl) ?_;refine ρ ?_;refine Zs rfl rfl om rfl ?_;refine ρ ?_;refine Ko rfl rfl (by decide) rfl ?_;refine ρ ?_;refine ci (λD=>?_) (λD=>?_)
   .have bu:a.vars.testBit v=true:=by rw[<-Jww lv];exact D
    have hmk:Jy (v+1) a.vars=Jy v a.vars++[v]:=by rw[Jjh,if_pos bu]
    have fb:=Kc v a.vars;refine ρ ?_;refine bsl (Vl _) ?_;intro w5 b5 G fj e5;refine ρ ?_;refine apI (z:=v) (Jw an G) e5 om (nL a3.size G.size) ?_;intro cw w6 cj dl f9;rw[<-hmk]at cj;refine ρ ?_;exact Jr (v+1) cw sO ⟨om,Jf (a3.trans G) dl (Up (Jw an G)),cj⟩ om
   have bu:¬ a.vars.testBit v=true:=λe=>by rw[<-Jww lv]at e;exact absurd (D.symm.trans e) (by decide)
   have hmk:Jy (v+1) a.vars=Jy v a.vars:=by rw[Jjh,if_neg bu]
   refine ρ ?_;exact Jr (v+1) vv sO ⟨om,a3,by rw[hmk];exact an⟩ om
  have d6:v=8:=by have:=oF D;omega
  subst d6;clear D hv;have dg:Jy 8 a.vars=lvs a:=rfl;rw[dg]at an;obtain⟨VA,vc,eV,f7,dz⟩:=Jv an;subst eV;have fe:(lvs a).length<=8:=Kc 8 a.vars;have a1:Ext w1 w4:=aq.trans a3;refine ρ ?_;by_cases h4:4<(lvs a).length
  .refine kt 44 ?_ ?_
   .exact decide_eq_true om
   refine ρ ?_;exact Jjn ⟨a4.trans a1,_,_,_,rfl⟩
  refine kf 44 ?_ ?_
  .exact dF om
  refine ρ ?_;refine ld ((ba.ext a3).at (i:=1) rfl) ?_;refine ρ ?_;refine ci (λD=>?_) (λD=>?_)
  .have cr:12<a.rows.length:=by have:=oT D;omega
   refine ρ ?_;exact Jjn ⟨a4.trans a1,_,_,_,rfl⟩
  have cr:a.rows.length<=12:=by have:=oF D;omega
  clear D;refine ρ ?_;refine ld ((ba.ext a3).at (i:=1) rfl) ?_;refine ρ ?_;refine Qz (fun (j:Nat) (vr:Value)=>[(0,.slice A l.length c),(6,vo),(7,vm),(8,va),(10,.pointer (some ⟨b2,0,none⟩)),(11,.slice VA (lvs a).length vc),(13,vr),(21,.slice A l.length c),(22,.int .i64 (l.length:Int)),(23,.int .i64 (k:Int)),(51,.slice c9 a.rows.length rc),(52,.int .i64 (a.rows.length:Int)),(53,.int .i64 (j:Int))])
   (λj vr w'=>j<=a.rows.length/\Ext w4 w'/\OX 73 1 RfC (Ov w4 vr) w' w4.heap.size vr ((a.rows.map (Qo (lvs a).length)).take j)) (λj _=>a.rows.length-j) 0 (.slice none 0 0) sB ⟨Nat.zero_le _,Ext.refl _,OX.nil _ _⟩ ?_
  rintro j vr w5 ⟨hj,G,aw⟩;have bf:=a4.trans (a1.trans G);refine ρ ?_;refine ci (λD=>?_) (λD=>?_)
  .have lj:j<a.rows.length:=by have:=oT D;omega
   clear D;obtain⟨fl,_,⟨rfl,d1,d2⟩,cd⟩:=e2 j lj;generalize hy:a.rows[j]=y at *
   obtain⟨y0,y1,y2,y3,rfl⟩:∃ y0 y1 y2 y3,y=[y0,y1,y2,y3]:=by
    match y,d1 with
    | [y0,y1,y2,y3],_=>exact⟨y0,y1,y2,y3,rfl⟩
   refine ρ ?_;refine ixq 4 j (e1.ext bf) lj ?_;refine ρ ?_;refine lda (cs:=[.int .u8 (y0:Int),.int .u8 (y1:Int),.int .u8 (y2:Int),.int .u8 (y3:Int)]) (λj u O=>Qp bf (cd j u O)) rfl ?_;refine ρ ?_;refine alc Jfr ?_;intro w6 b6 a6 dt e4;refine ρ ?_;refine sta (cs':=[.int .u8 (y0:Int),.int .u8 (y1:Int),.int .u8 (y2:Int),.int .u8 (y3:Int)]) e4 ?_ (λu O=>by
    simp only[List.mem_cons,List.not_mem_nil,or_false]at O;rcases O with rfl|rfl|rfl|rfl<;>rfl) rfl rfl
   intro w7 c8 fg bp;have bb:Ext w5 w7:=bp w5 a6 dt;refine ρ ?_;refine bsl Jdx ?_;intro w8 b8 bo dn c7;refine ρ ?_;refine Qz (fun (i:Nat) (vx:Value)=>[(0,.slice A l.length c),(6,vo),(7,vm),(8,va),(10,.pointer (some ⟨b2,0,none⟩)),(11,.slice VA (lvs a).length vc),(13,vr),(15,.pointer (some ⟨b6,0,none⟩)),(16,vx),(21,.slice A l.length c),(22,.int .i64 (l.length:Int)),(23,.int .i64 (k:Int)),(51,.slice c9 a.rows.length rc),(52,.int .i64 (a.rows.length:Int)),(53,.int .i64 (j:Int)),(58,.slice VA (lvs a).length vc),(59,.int .i64 ((lvs a).length:Int)),(60,.int .i64 (i:Int))])
    (λi vx w'=>i<=(lvs a).length/\Ext w7 w'/\w'.ownsRow w7.heap.size 75 3 vx (Qo i [y0,y1,y2,y3]).length (Je (Qo i [y0,y1,y2,y3]))) (λi _=>(lvs a).length-i) 0 (.slice (some ⟨b8,0,none⟩) 0 0) sB ⟨Nat.zero_le _,bo,c7.own (n:=0) dn rfl (Nat.zero_le _)⟩ ?_
   rintro i vx w9 ⟨hi,J,b3⟩;refine ρ ?_;refine ci (λD=>?_) (λD=>?_)
   .have li:i<(lvs a).length:=by have:=oT D;omega
    clear D;have d0:([.int .u8 (y0:Int),.int .u8 (y1:Int),.int .u8 (y2:Int),.int .u8 (y3:Int)]:List Value)[i]?=some (.int .u8 (([y0,y1,y2,y3].getD i 0:Nat):Int)):=by
     rcases(show i=0∨i=1∨i=2∨i=3 by omega) with rfl|rfl|rfl|rfl<;>rfl
    generalize hz:[y0,y1,y2,y3].getD i 0=z at *
    refine ρ ?_;refine ixb i (show i<4 by omega) ?_;refine ρ ?_;refine ld ((c8.ext J).atc d0) ?_;refine ρ ?_;refine Ko rfl rfl (by decide) rfl ?_;refine ρ ?_;have ez:IntKind.i64.wrap ((z:Int).tmod 4)=((z % 4:Nat):Int):=by
     rw[show(z:Int).tmod 4=((z % 4:Nat):Int) from rfl,Ze om]
    rw[ez];refine bld (Qjn _ _) ?_;refine ρ ?_;refine bsl (Qjh _) ?_;intro ad cu F bl ac;have dh:=Ua i [y0,y1,y2,y3];refine ρ ?_;refine apb (m':=1) (news:=V.cells ⟨1,((z % 4:Nat):Int),⟨#[]⟩⟩) EV (Jw b3 F) (ac.rd (n:=1) rfl) (V.one _) (by unfold maxLen;omega) om (J.trans F).size ?_;intro v3 bn dc cc fa;refine ρ ?_;refine Jr (i+1) v3 sO ⟨li,Jf (J.trans F) cc (Up (Jw b3 F)),?_⟩ om;rw[Jps,hz,List.length_append,Ig,Ic];exact dc
   have dk:i=(lvs a).length:=by have:=oF D;omega
   subst dk;clear D hi;have dh:=Ua (lvs a).length [y0,y1,y2,y3];have dx:=ownX b3 om;obtain⟨XA,xc,eX,_,_⟩:=Jv b3;subst eX;have ao:=bb.trans J;refine ρ ?_;refine bsl (λw=>Jds _ w _ _ _ rfl) ?_;intro ad cu F bl ac;have a2:=((aw.ext RfC.sta ao).ext RfC.sta F).old RfC.sta (N':=λq=>Ov w4 vr q∨ad.heap.size<=q) λq U=>U;obtain⟨_,_,_,_,av⟩:=id aw.form;have cx:=G.size;have ea:=bb.size;refine ρ ?_;refine apX ERo RfC.sta a2 ac rfl (λu O=>by rw[List.mem_singleton.1 O];rfl) ⟨_,rfl,(dx.grN (GrN.ext F)).oldN λq U=>?_⟩ (λg hg=>.inl (.inr hg)) (by simp;omega) (by decide) (nL cx (ao.trans F).size) ?_
   .rcases U with(U|U)|U
    .exact .inl (show q<w7.heap.size by omega)
    .exact .inl (show q<w7.heap.size by have:=(av q U).2;omega)
    exact .inr U
   intro vr' bn bm Z bh;have d8:(a.rows.map (Qo (lvs a).length)).take j++[Qo (lvs a).length [y0,y1,y2,y3]]=(a.rows.map (Qo (lvs a).length)).take (j+1):=by rw[List.take_add_one,List.getElem?_map,List.getElem?_eq_getElem lj,hy];rfl
   rw[d8]at bm;refine ρ ?_;exact Jr (j+1) vr' sO ⟨lj,Jf (G.trans (ao.trans F)) Z λq e=>(av q e).1,bm.old RfC.sta λq U=>.inl (U.elim (λU=>.inl (.inl U)) λU=>(bh q U).elim (λU=>.inl (.inr U)) .inr)⟩ om
  have dj:j=a.rows.length:=by have:=oF D;omega
  subst dj;clear D hj;rw[show a.rows.length=(a.rows.map (Qo (lvs a).length)).length by simp,List.take_length]at aw;obtain⟨RR,f6,eR,_,av⟩:=id aw.form;subst eR;have d9:(a.rows.map (Qo (lvs a).length)).length<=12:=by simp;omega
  have e3:=Jkc aw om;have ej:Ext w1 w5:=a1.trans G;refine ρ ?_;refine cl (Jbd e3) ?_;rintro _ w6 ⟨a6,rv,e,rfl,⟨z,B,m',d',rfl⟩,db,da⟩;obtain rfl:e=0:=db om (λr hr=>by
   obtain⟨y,hy,rfl⟩:=List.mem_map.1 hr;exact⟨Ua _ _,Jpr _ _⟩) om
  obtain⟨_,_,m,df,fd,de,dd⟩:=da rfl;have em:=dd (.inl om);refine ρ ?_;refine alc Ym ?_;intro w7 b7 bp dq c8;refine ρ ?_;refine stb (cs':=[.int .i64 z,.slice B m' d']) c8 ?_ (λu O=>by
   simp only[List.mem_cons,List.not_mem_nil,or_false]at O;rcases O with rfl|rfl<;>rfl)
  intro w8 c7 ff bo;have a5:Ext w6 w8:=bo w6 bp dq;refine ρ ?_;refine ld ((((ba.ext a3).ext G).ext (a6.trans a5)).at (i:=2) rfl) ?_;refine ρ ?_;refine Jgh (fun (v':Value)=>[(0,.slice A l.length c),(6,vo),(7,vm),(8,va),(11,v'),(18,.pointer (some ⟨b7,0,none⟩)),(20,.int .i64 ((lvs a).length:Int)),(21,.slice A l.length c),(22,.int .i64 (l.length:Int)),(23,.int .i64 (k:Int))])
   (λv' w'=>GrN (λq=>(Value.slice VA (lvs a).length vc).ownBlock=some q) w8 w'/\w'.ownsRow w3.heap.size 3 1 v' (Qj a).length (Ja (Qj a))) ?_ ?_
  .have b4:Qy w8 w3.heap.size (.slice VA (lvs a).length vc) (lvs a):=Jw an (G.trans (a6.trans a5));have aj:w3.heap.size<=w8.heap.size:=(a3.trans (G.trans (a6.trans a5))).size;have ca:∀(ls:List Nat) (x:Nat),nz (ls++[x])=nz ls++[(x:Int)]:=λls x=>by simp[nz]
   refine ρ ?_;refine ci (λD=>?_) (λD=>?_)
   .have h0:a.bad=0:=by have:=eq_of_beq D;omega
    have ae:Qj a=nz (lvs a):=by rw[Qj,if_pos h0]
    refine ρ ?_;exact Js _ sB ⟨GrN.refl _ _,by rw[ae,Jm];exact b4⟩
   have h0:a.bad≠0:=λe=>by rw[e]at D;revert D;decide
   clear D;refine ρ ?_;refine ci (λD=>?_) (λD=>?_)
   .have h1:a.bad=1:=by have:=eq_of_beq D;omega
    have ae:Qj a=nz (lvs a++[9]):=by rw[Qj,if_neg h0,if_pos h1,ca];rfl
    refine ρ ?_;refine bsl (Vl _) ?_;intro w9 b9 J ay aa;refine ρ ?_;refine apI (z:=9) (Jw b4 J) aa om (nL aj J.size) ?_;intro v' ad a2 a9 bi;refine ρ ?_;exact Js v' sB ⟨(GrN.ext J).trans (GrN.by a9 λq e=>e),by rw[ae,Jm];exact a2⟩
   have h1:a.bad≠1:=λe=>by rw[e]at D;revert D;decide
   clear D;refine ρ ?_;refine ci (λD=>?_) (λD=>?_)
   .have h2:a.bad=2:=by have:=eq_of_beq D;omega
    have ae:Qj a=nz (lvs a++[0]):=by rw[Qj,if_neg h0,if_neg h1,if_pos h2,ca];rfl
    refine ρ ?_;refine bsl (Vl _) ?_;intro w9 b9 J ay aa;refine ρ ?_;refine apI (z:=0) (Jw b4 J) aa om (nL aj J.size) ?_;intro v' ad a2 a9 bi;refine ρ ?_;exact Js v' sB ⟨(GrN.ext J).trans (GrN.by a9 λq e=>e),by rw[ae,Jm];exact a2⟩
   have h2:a.bad≠2:=λe=>by rw[e]at D;revert D;decide
   clear D;have ae:Qj a = -1::nz (lvs a):=by rw[Qj,if_neg h0,if_neg h1,if_neg h2]
   refine ρ ?_;refine bsl (Vl _) ?_;intro w9 b9 J ay aa;refine ρ ?_;refine apb (base:=w3.heap.size) (m:=1) (m':=(lvs a).length) (xs:=[.int .i64 (-1)]) (news:=Ja (nz (lvs a))) EI (aa.own (n:=1) (nL aj ay) rfl (by decide)) (Rd.own (Jw b4 J)) (λu O=>by
    obtain⟨x,_,rfl⟩:=List.mem_map.1 O;rfl) (by unfold maxLen;omega) om (nL aj J.size) ?_
   intro v' ad a2 a9 bi;refine ρ ?_;exact Js v' sB ⟨(GrN.ext J).by2 a9 λq e=>.inl (by injection e with e;rw[<-e];exact ay),by
    rw[ae,List.length_cons,Jm,Nat.add_comm];exact a2⟩
  rintro vv w9 ⟨bs,e0⟩;have ax:∀ q,(Value.slice VA (lvs a).length vc).ownBlock=some q->w3.heap.size<=q/\q<w4.heap.size:=λq e=>dz q e;have bc:Ext w3 w9:=bs.old (a3.trans (G.trans (a6.trans a5))) λq e=>(ax q e).1;have aa:=Ju c7 bs λe=>by
   have:=(ax b7 e).2;have:=G.size;have:=a6.size;omega
  have ep:(Qj a).length<=9:=by
   unfold Qj;split
   .rw[Jm];omega
   split
   .rw[List.length_append,Jm];simp;omega
   split
   .rw[List.length_append,Jm];simp;omega
   rw[List.length_cons,Jm];omega
  obtain⟨VV,f2,e8,ek,et⟩:=Jv e0;subst e8;have a7:Ext w1 w9:=aq.trans bc;have ef:=aq.size;have ec:=bc.size;have bg:∀ q,vo.ownBlock=some q->q<w1.heap.size:=λq e=>by
   obtain⟨_,_,_,_,h3⟩:=Jv c1;exact(h3 q e).2
  have cb:GrN (λq=>q<w5.heap.size) w6 w9:=(GrN.ext a5).trans (bs.mono λq _ e=>by have:=(ax q e).2;have:=G.size;omega);have eb:=G.size;have ee:=a1.size;have br:∀ {v:World} {N':Nat->Prop},Ext w9 v->(∀ q,N' q->q<w1.heap.size∨v.heap.size<=q)->Off N' v λu=>RelV u (.agg #[.int .i64 z,.slice B m' d']) (lvs a).length m:=λhy hN=>(df.gr (cb.trans (GrN.ext hy))).old' λq U=>(hN q U).imp (λh=>om) id;refine ρ ?_;refine lds (cs:=[.int .i64 z,.slice B m' d']) (λj u O=>aa.at O) ?_;refine ρ ?_;refine bld (Jfb _ _ _ _ _ _ _ _) ?_;refine ρ ?_;refine bsl (λw=>Jdw _ _ _ _ _ _ _ _ _ _ rfl rfl rfl w) ?_;intro ad cu F bl ac;have af:=Jw c1 (a7.trans F);refine ρ ?_;refine apbW EA af ac rfl (λu O=>by
   simp only[List.mem_cons,List.not_mem_nil,or_false]at O;rcases O with rfl|rfl|rfl<;>rfl) (by unfold maxLen;omega) om (nL a4.size (a7.trans F).size) ?_
  intro f3 bn c0 Z bh;have bt:GrN (λq=>q<w1.heap.size) ad bn:=GrN.by Z bg
  have ck:=(br (N':=λq=>q<w1.heap.size) F λq U=>.inl U).gr bt;have ei:=F.size;have eh:=Z.size;have cq:=(aa.ext F).grown Z λe=>by
   have:=bg b7 e.symm;have:=G.size;have:=a6.size;omega
  refine ρ ?_;refine lds (cs:=[.int .i64 z,.slice B m' d']) (λj u O=>cq.at O) ?_;refine ρ ?_;refine cl (Jzr ck.here) ?_;rintro e9 f0 ⟨be,cm⟩;refine ρ ?_;refine cl (Jbc cm.off.here (λr hr=>by
   obtain⟨y,_,rfl⟩:=List.mem_map.1 (de r hr);rw[Ua];omega)) ?_
  rintro rf ey ⟨cn,ap⟩;obtain⟨FA,fc,eF,fi,fk⟩:=id cn.form;subst eF;refine ρ ?_;refine bld (Jwx _ _ _ _ _ _ _) ?_;refine ρ ?_;refine bsl (Jdv _ _ _ _ _ _) ?_;intro ex fn bd es cp;have ak:=be.trans (ap.trans bd);have eg:=be.size;have cz:=ap.size;have cy:=bd.size;have c6:=Jw (Xk (Jw ch (a7.trans F)) af Z rfl) ak;have ah:=Jw (Xk (Jw cg (a7.trans F)) af Z rfl) ak;have bz:=Jw c0 ak;refine ρ ?_;refine apbW ERA ah cp rfl (λu O=>by
   simp only[List.mem_cons,List.not_mem_nil,or_false]at O;rcases O with rfl|rfl<;>rfl) (by unfold maxLen;omega) om (by have:=a4.size;omega) ?_
  intro f4 ew c3 am eo;have c5:=Xk c6 ah am rfl;have bw:=Xk bz ah am rfl;have ed:=am.size;refine ρ ?_;refine bsl (Vl _) ?_;intro eu fm a8 er co;have ai:=Jw c5 a8;refine ρ ?_;refine apbW EI ai co rfl (λu O=>by rw[List.mem_singleton.1 O];rfl) (by unfold maxLen;omega) om (by have:=a4.size;have:=a8.size;omega) ?_;intro f5 cv c4 au en;have bv:=Xk (Jw bw a8) ai au rfl;have c2:=Xk (Jw c3 a8) ai au rfl;have ar:∀ q,(vo.ownBlock=some q∨vm.ownBlock=some q∨va.ownBlock=some q)->w.heap.size<=q:=λq U=>by
   rcases U with U|U|U
   .obtain⟨_,_,_,_,h3⟩:=Jv c1;exact(h3 q U).1
   .obtain⟨_,_,_,_,h3⟩:=Jv cg;exact(h3 q U).1
   obtain⟨_,_,_,_,h3⟩:=Jv ch;exact(h3 q U).1
  have bq:Ext w cv:=Jf ((Jf ((Jf (a4.trans (a7.trans F)) Z λq e=>ar q (.inl e)).trans ak) am λq e=>ar q (.inr (.inl e))).trans a8) au λq e=>ar q (.inr (.inr e));refine ρ ?_;refine Vr (k+1) _ _ _ sO ⟨lk,bq,λi h hi=>?_,⟨_,c4⟩,⟨_,bv⟩,_,c2⟩ om;by_cases e:i=k
  .subst e;rw[ha];exact cr
  exact bj i h om
 have di:k=l.length:=by have:=oF D;omega
 clear D;subst di;have h6:¬ l.length<=6:=λh=>hno ⟨h,λa ha=>by
  obtain⟨i,hi,rfl⟩:=List.getElem_of_mem ha;exact bj i hi hi⟩
 have e6:decide ((l.length:Int)<=6)=false:=dF om;refine ρ ?_;rw[e6];exact Jjn ⟨a4,vo,vm,va,rfl⟩
theorem Qsl{n sa sb:Nat}(hl:GM 3 LaM w vl l)(hn:l.length<=3518437208780)(hno:¬ (l.length<=6/\∀ a∈l,a.rows.length<=12)):
  Ret Tryz.prog 5 [.int .u8 (n:Int),vl,.agg #[.int .u32 (sa:Int),.int .u32 (sb:Int)]] w λu w'=>u=.bool true/\Ext w w':=by
 refine Jz Tryz.func5 Tryz.ntmps5 rfl kr rfl ?_;refine ρ ?_;refine bx (cs:=[.int .u32 (sa:Int),.int .u32 (sb:Int)]) ?_;intro w0 b5 y G J;refine ρ ?_;refine cl (Qgm (hl.ext y (LaM.ext y)) hn hno) ?_;rintro u w1 ⟨F,U,Z,va,rfl⟩;refine ρ ?_;refine cl (Jvg _) ?_;rintro x O ⟨rfl,D⟩;refine ρ ?_;exact Jq ⟨rfl,(y.trans F).trans D⟩
end Go.Proofs.YtebiphhfkdbpfaaGreat
namespace Go.Proofs.YtebiphhfkdbpfaaGreat
open Go.RowKit Pl Go.Wk Go.ChangeShapes Go.WideShapes
variable {p:List MemPlace}{cap fuel len n:Nat}{v z:Value}
section
variable {H:Type} {enc:TypeId×Value->H} {w:World} {base b0:Nat} {spare:Nat->Bool} {held:Bool}
theorem Qdl{P:Program}{t e:TypeId}{A:Option Addr}{d:DataW H}(ht:P.underlying t=some (.slice e))(h:DataW.trod enc P w base spare held fuel t [.slice A len cap]=some (d,p))(hw:∀ n∈d.weights P t,n<=reachBytes): len*P.bytesOf e<=reachBytes:=by
 rcases Go.Deep.open_slice ht h with⟨u,_⟩|⟨a,len',cap',m,n,D,Pl,u,_,hl,hm,hmm,hx,hel⟩
 .simp only[List.cons.injEq,Value.slice.injEq,and_true]at u;obtain⟨rfl,rfl,rfl⟩:=u;rw[Nat.zero_mul];exact Nat.zero_le _
 simp only[List.cons.injEq,Value.slice.injEq,and_true]at u;obtain⟨rfl,rfl,rfl⟩:=u;injection hx with hx _
 subst hx;have:=hw ((((List.range len).map D).length+((List.range (m-len)).map λj=>D (len+j)).length)*P.bytesOf e) (by simp[DataW.weights,ht]);rw[List.length_map,List.length_range]at this;exact nL (nO _ (Nat.le_add_right _ _)) this
theorem Qdp{cs:List Value}{y:DataW H×List MemPlace}(h:DataW.trod enc Tryz.prog w base spare held n 24 cs=some y): ∃ a:LA,LaM w cs a:=by
 obtain⟨G,m,_,hx,J,U,hf⟩:=DataW.trod_struct Tryz.underlying24 h;have a1:cs.length=3:=by rw[J];kernel_rfl
 match cs,a1 with
 | [c0,c1,c2],_=>
  have a2:G.length=3:=U;have f0:DataW.trod enc Tryz.prog w base spare held m 5 (([c0,c1,c2].drop 0).take (Tryz.prog.cellsOf 5))=G[0]?:=hf 0 _ rfl;have f1:DataW.trod enc Tryz.prog w base spare held m 22 (([c0,c1,c2].drop 1).take (Tryz.prog.cellsOf 22))=G[1]?:=hf 1 _ rfl;have f2:DataW.trod enc Tryz.prog w base spare held m 5 (([c0,c1,c2].drop 2).take (Tryz.prog.cellsOf 5))=G[2]?:=hf 2 _ rfl;rw[show Tryz.prog.cellsOf 5=1 by kernel_rfl,List.getElem?_eq_getElem om]at f0 f2;rw[show Tryz.prog.cellsOf 22=1 by kernel_rfl,List.getElem?_eq_getElem om]at f1;obtain⟨n0,e0,_,w0⟩:=DataW.trod_int Tryz.underlying5 f0;obtain⟨n2,e2,_,w2⟩:=DataW.trod_int Tryz.underlying5 f2;have O:DataW.trod enc Tryz.prog w base spare held m 22 [c1]=some G[1]:=f1;simp at e0 e2;subst e0;subst e2;obtain⟨x0,rfl,l0⟩:=Iz (bounds_u8 w0);obtain⟨x2,rfl,l2⟩:=Iz (bounds_u8 w2);have key:∀(A:Option Addr) (len F:Nat),c1=.slice A len F->∃ a:LA,LaM w [.int .u8 (x0:Int),c1,.int .u8 (x2:Int)] a:=λA len F e=>by
   subst e;obtain⟨l,h1,g1,g2,g3,_⟩:=Jnk (sz:=4) u8C (λl=>l.length=4/\∀ x∈l,x<256) Tryz.underlying22 kr (λn a3 y hy=>by obtain⟨l,h1,h2⟩:=Qdm hy;exact⟨l,h1,h2⟩) O;subst h1;have ef:Jd (l.map λr=>(u8C r,r))=l.flatMap u8C:=by simp only[Jd,List.flatMap_map]
   have em:(l.map λr=>(u8C r,r)).map (·.2)=l:=by rw[List.map_map];exact List.map_id l
   have el:(l.map λr=>(u8C r,r)).length=l.length:=by simp
   exact⟨⟨x0,l,x2⟩,l0,l2,_,rfl,l.map λr=>(u8C r,r),A,F,em.symm,by rw[el],by rw[el];exact g3,by rw[el,ef];exact g1,λp hp=>by
    obtain⟨r,Z,rfl⟩:=List.mem_map.1 hp;exact⟨by simp[u8C,(g2 r Z).1],rfl,(g2 r Z).1,(g2 r Z).2⟩⟩
  rcases Go.Deep.open_slice Tryz.underlying22 O with⟨u,_⟩|⟨a,len,F,m',n',D,Pl,u,_⟩
  .injection u with u _
   exact key _ _ _ u
  injection u with u _
  exact key _ _ _ u
def Qqq(w:World)(v:Value)(l:List LA): Prop:=GM 3 LaM w v l/\l.length<=3518437208780
theorem Qdn{d:DataW H}(hv:Value.okWide Tryz.prog w .any b0 31 v)(h:DataW.Trod enc Tryz.prog w base spare held 31 v d p)(hw:∀ n∈d.weights Tryz.prog 31,n<=reachBytes): ∃ l,Qqq w v l:=by
 obtain⟨a,len,D,rfl⟩:=okWide_slice Tryz.underlying31 hv;obtain⟨J,F⟩:=h;have O:=Qdl Tryz.underlying31 F hw;rw[show Tryz.prog.bytesOf 24=40 by kernel_rfl,show reachBytes=140737488351232 by rfl]at O;obtain⟨l,Z,g1,g2,g3,_⟩:=Jnk (sz:=3) (λp:List Value×LA=>p.1) (λp=>p.1.length=3/\LaM w p.1 p.2) Tryz.underlying31 kr (λn u y U=>by
  obtain⟨a,G⟩:=Qdp U;refine⟨(u,a),rfl,?_,G⟩;obtain⟨_,_,v,e,_⟩:=G;rw[e];rfl) F
 subst Z;exact⟨l.map (·.2),⟨l,a,D,rfl,rfl,g3,g1,g2⟩,by rw[List.length_map];omega⟩
end
theorem Qsk{w:World}{n:Int}(hn:0<=n/\n<=255)(h:∃ l,Qqq w v l)(hz:∃ a b:Nat,z=.agg #[.int .u32 (a:Int),.int .u32 (b:Int)]/\a<4294967296/\b<4294967296): Ret Tryz.prog 5 [.int .u8 n,v,z] w λu w'=>u=.bool true/\Ext w w':=by
 obtain⟨l,D,y⟩:=h;obtain⟨a,b,rfl,G,F⟩:=hz;obtain⟨m,rfl⟩:∃ s:Nat,n=(s:Int):=⟨n.toNat,om⟩;by_cases hf:l.length<=6/\∀ a∈l,a.rows.length<=12
 .exact Qsm (D.c hf.1 hf.2) om om G F
 exact Qsl D y hf
end Go.Proofs.YtebiphhfkdbpfaaGreat
