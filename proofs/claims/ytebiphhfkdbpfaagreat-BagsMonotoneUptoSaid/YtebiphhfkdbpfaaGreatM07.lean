/- Part 7. -/
import Derived.Test.YtebiphhfkdbpfaaGreatM06
import Derived.ProofKit
import Derived.OpenShut
import Derived.ShutString
import Derived.ChangeOld
import Derived.Deep.Slices
import Derived.Deep.Fields
set_option linter.unusedVariables false
set_option maxRecDepth 100000
set_option maxHeartbeats 40000000
namespace Go.Proofs.YtebiphhfkdbpfaaGreat
open Go.RowKit Pl Go.Wk Bl
attribute [local irreducible] WC WL QX WD WDB WP WN WG WH
variable {v vl:Value}{w w':World}
theorem ERo: ElT Tryz.prog 33 73 1 24 (.slice none 0 0):=⟨Tryz.underlying33,info_parts kr,rfl,by decide⟩
theorem ERA: ElT Tryz.prog 27 46 2 48 (.agg #[.slice none 0 0,.slice none 0 0]):=⟨Tryz.underlying27,info_parts kr,rfl,by decide⟩
theorem Jdl(A B:Option Addr)(n c m d:Nat)(w:World): (Instr.build 46 #[(0,.slice A n c),(1,.slice B m d)]).run Tryz.prog w=.ok (.agg #[.slice A n c,.slice B m d]) w:=kr
theorem Jtw(A B:Option Addr)(n c m d:Nat)(w:World): (Instr.buildSlice 27 1 #[(0,.agg #[.slice A n c,.slice B m d])]).run Tryz.prog w=.ok (.slice (some ⟨w.heap.size,0,none⟩) 1 1) (w.alloc (.cells #[.slice A n c,.slice B m d] 46)):=kr
theorem zLaw: Xj Tryz.prog 24=some (.agg #[.int .u8 0,.slice none 0 0,.int .u8 0]):=kr
theorem zArr4: Xj Tryz.prog 71=some (.agg #[.int .u8 0,.int .u8 0,.int .u8 0,.int .u8 0]):=kr
theorem Jbc{E base:Nat}{N:Nat->Prop}{ls:List Row}(h:OX E 1 RfC N w base v ls)(hl:ls.length<=1100000): RowsV w v ls:=by
 obtain⟨ps,e,ho,F⟩:=h;obtain⟨A,c,e1,hc,_⟩:=Jy ho;have J:∀ D:List (List Value×Row),(∀ p∈D,p.1.length=1/\RfC N w p.1 p.2)->∃ y:List Pr,D.map (·.2)=y.map (·.2)/\y.length=D.length/\Jd D=y.map (·.1)/\∀ p∈y,RowV w p.1 p.2:=λD=>by
  induction D with
  | nil=>exactλ_=>⟨[],rfl,rfl,rfl,λp h=>by cases h⟩
  | cons q D ih=>
   intro h;obtain⟨y,Z,G,U,O⟩:=ih λp F=>h p (List.mem_cons_of_mem _ F);obtain⟨_,u,eu,hu⟩:=h q (mC ..);refine⟨(u,q.2)::y,by simp[Z],by simp[G],?_,λp F=>?_⟩
   .show q.1++Jd D=_;rw[eu,U];rfl
   rcases List.mem_cons.1 F with rfl|F
   .exact hu.v
   exact O p F
 obtain⟨y,Z,G,U,O⟩:=J ps F;have a1:ls.length=ps.length:=by rw[e,List.length_map]
 refine⟨y,A,c,by rw[e,Z],by rw[G];exact e1,om,om,?_,O⟩;subst e1;rw[G,<-U];exact Rd.own ho
theorem Qgl(i:Nat)(y:List Nat): (Xs i y).all Xu=true:=by
 unfold Xs;rw[List.all_eq_true];intro v u;obtain⟨j,_,rfl⟩:=List.mem_map.1 u;have:y.getD j 0 % 4<4:=Nat.mod_lt _ (by decide);generalize y.getD j 0 % 4=z at *
 rcases(show z=0∨z=1∨z=2∨z=3 by omega) with rfl|rfl|rfl|rfl<;>decide
theorem bs1VR(v:V)(w:World): (Instr.buildSlice 73 1 #[(0,v.val)]).run Tryz.prog w=.ok (.slice (some ⟨w.heap.size,0,none⟩) 1 1) (w.alloc (.cells v.cells.toArray 75)):=kr
theorem ownX{r:Row}(h:w'.ownsRow w.heap.size 75 3 v r.length (Jr r))(hl:r.length<=1100000): RowX w' (Ol w) v r:=by
 obtain⟨A,c,e,F,D⟩:=Jy h;subst e;refine⟨A,c,rfl,F,hl,Rd.own h,λh0 u G y=>?_⟩;have:=(D u.block (by rw[G];rfl)).1;exact absurd (show u.block<w.heap.size from y) om
theorem bldV4(z:Int)(w:World): (Instr.build 75 #[(0,.int .i64 1),(1,.int .i64 z)]).run Tryz.prog w=.ok (V.val ⟨1,z,⟨#[]⟩⟩) w:=kr
theorem Qgm(i:Nat)(y:List Nat): Xs (i+1) y=Xs i y++[⟨1,((y.getD i 0 % 4:Nat):Int),⟨#[]⟩⟩]:=by unfold Xs;rw[List.range_succ,List.map_append];rfl
theorem Jqs(i:Nat)(y:List Nat): (Xs i y).length=i:=by simp[Xs]
def Rl(a:LA)(m:List Row): Prop:=IsSet [] (a.rows.map (Xs (lvs a).length)) m/\m.length<=65536
def atm(a:LA)(m:List Row): Atm:=⟨Qd a,(lvs a).length,m⟩
def rat'(a:LA)(m:List Row): RA:=⟨Qd a,m⟩
abbrev NM(s:Nat)(vo vm va:Value): Nat->Prop:=λk=>k<s∨vo.ownBlock=some k∨vm.ownBlock=some k∨va.ownBlock=some k
theorem Jnr{l:List LA}(hl:GX 3 LaC Nn w vl l)(hn:l.length<=1048576): Ret Tryz.prog 7 [vl] w λu w'=>Ext w w' /\
  (((∀ a∈l,a.fits)/\∃ vo vm va,∃ ms:List (List Row),u=.tuple #[vo,vm,va,.bool (decide (l.length<=6))]/\ms.length=l.length/\(∀ i (h1:i<l.length) (h2:i<ms.length),Rl l[i] ms[i])/\GX 3 AtC Nn w' vo (l.zipWith atm ms)/\GX 2 RaC Nn w' vm (l.zipWith rat' ms)/\IntsV w' va (nz (l.map λa=>(lvs a).length))) ∨
   ((¬ ∀ a∈l,a.fits)/\u=.tuple #[.slice none 0 0,.slice none 0 0,.slice none 0 0,.bool false])):=by
 obtain⟨A,c,_,rfl,hc,_,hR,_,he⟩:=id hl.el;refine Jz Tryz.func7 Tryz.ntmps7 rfl kr rfl ?_;refine ρ ?_;refine Ke (fun (k:Nat) (vo vm va:Value)=>[(0,.slice A l.length c),(6,vo),(7,vm),(8,va),(21,.slice A l.length c),(22,.int .i64 (l.length:Int)),(23,.int .i64 (k:Int))])
  (λk vo vm va w'=>k<=l.length/\Ext w w'/\(∀ i (h:i<l.length),i<k->(l[i]).fits)/\Qb w' w.heap.size va ((l.map λa=>(lvs a).length).take k)/\∃ ms:List (List Row),ms.length=k/\(∀ i (h1:i<l.length) (h2:i<ms.length),Rl l[i] ms[i])/\OX 37 3 AtC (NM w.heap.size vo vm va) w' w.heap.size vo (l.zipWith atm ms)/\OX 46 2 RaC (NM w.heap.size vo vm va) w' w.heap.size vm (l.zipWith rat' ms))
  (λk _ _ _=>l.length-k) 0 (.slice none 0 0) (.slice none 0 0) (.slice none 0 0) sB ⟨Nat.zero_le _,Ext.refl _,λi _ h=>absurd h (Nat.not_lt_zero _),Xq _ _ _ _,[],rfl,λi _ h=>absurd h (Nat.not_lt_zero _),by rw[List.zipWith_nil_right];exact OX.nil _ _,by rw[List.zipWith_nil_right];exact OX.nil _ _⟩ ?_
 rintro k vo vm va w1 ⟨hk,a4,cc,ax,ms,cq,dj,bo,bq⟩;refine ρ ?_;refine ci (λF=>?_) (λF=>?_)
 .have lk:k<l.length:=by have:=oT F;omega
  clear F;obtain⟨ce,_,⟨ei,f8,vR,rfl,hG⟩,f4⟩:=he k lk;obtain⟨d9,rc,_,rfl,ga,_,fd,_,fe⟩:=id hG.el;generalize ha:l[k]=a at *
  refine ρ ?_;refine ixq 3 k (hR.ext a4) lk ?_;refine ρ ?_;refine lds (λj u Z=>Qs a4 (f4 j u Z)) ?_;refine ρ ?_;refine alc zLaw ?_;intro w2 b2 eg f9 fj;refine ρ ?_;refine stb (cs':=[.int .u8 (a.vars:Int),.slice d9 a.rows.length rc,.int .u8 (a.bad:Int)]) fj ?_ (λu Z=>by
   simp only[List.mem_cons,List.not_mem_nil,or_false]at Z;rcases Z with rfl|rfl|rfl<;>rfl)
  intro w3 c3 gh ef;have bb:Ext w1 w3:=ef w1 eg f9;refine ρ ?_;refine Qz (fun (v:Nat) (vv:Value)=>[(0,.slice A l.length c),(6,vo),(7,vm),(8,va),(10,.pointer (some ⟨b2,0,none⟩)),(11,vv),(21,.slice A l.length c),(22,.int .i64 (l.length:Int)),(23,.int .i64 (k:Int)),(27,.int .i64 (v:Int))])
   (λv vv w'=>v<=8/\Ext w3 w'/\Qb w' w3.heap.size vv (Jv v a.vars)) (λv _=>8-v) 0 (.slice none 0 0) sB ⟨Nat.zero_le _,Ext.refl _,Xq _ _ _ _⟩ ?_
  rintro v vv w4 ⟨hv,a8,ay⟩;refine ρ ?_;refine ci (λF=>?_) (λF=>?_)
  .have lv:v<8:=by have:=oT F;omega
   clear F;refine ρ ?_;refine ld ((c3.ext a8).at (i:=0) rfl) ?_;refine ρ ?_;refine Vj rfl rfl om rfl ?_;refine ρ ?_;refine wrem rfl rfl (by decide) rfl ?_;refine ρ ?_;refine ci (λF=>?_) (λF=>?_)
   .have cu:a.vars.testBit v=true:=by rw[<-Jtq lv];exact F
    have hmk:Jv (v+1) a.vars=Jv v a.vars++[v]:=by rw[Jkk,if_pos cu]
    have gd:=Jqq v a.vars;refine ρ ?_;refine bsl (Gg _) ?_;intro w5 b5 J gj fi;refine ρ ?_;refine apI (z:=v) (Jc ay J) fi om (nL a8.size J.size) ?_;intro e7 w6 di f3 gb;rw[<-hmk]at di;refine ρ ?_;exact Jt (v+1) e7 sO ⟨om,Jh (a8.trans J) f3 (Kz (Jc ay J)),di⟩ om
   have cu:¬ a.vars.testBit v=true:=λe=>by rw[<-Jtq lv]at e;exact absurd (F.symm.trans e) (by decide)
   have hmk:Jv (v+1) a.vars=Jv v a.vars:=by rw[Jkk,if_neg cu]
   refine ρ ?_;exact Jt (v+1) vv sO ⟨om,a8,by rw[hmk];exact ay⟩ om
  have eh:v=8:=by have:=oF F;omega
  subst eh;clear F hv;have ew:Jv 8 a.vars=lvs a:=rfl;rw[ew]at ay;obtain⟨VA,vc,eV,g9,fb⟩:=Jy ay;subst eV;have ge:(lvs a).length<=8:=Jqq 8 a.vars;have a3:Ext w1 w4:=bb.trans a8;have cp:¬ a.fits->¬ ∀ a∈l,a.fits:=λh h'=>h (h' a (by rw[<-ha];exact List.getElem_mem lk));refine ρ ?_;by_cases h4:4<(lvs a).length
  .refine kt 44 ?_ ?_
   .exact decide_eq_true om
   refine ρ ?_;exact fin4 ⟨a4.trans a3,.inr ⟨cp λh=>by have:=h.1;omega,rfl⟩⟩
  refine kf 44 ?_ ?_
  .exact dF om
  refine ρ ?_;refine ld ((c3.ext a8).at (i:=1) rfl) ?_;refine ρ ?_;refine ci (λF=>?_) (λF=>?_)
  .have e0:12<a.rows.length:=by have:=oT F;omega
   refine ρ ?_;exact fin4 ⟨a4.trans a3,.inr ⟨cp λh=>by have:=h.2;omega,rfl⟩⟩
  have e0:a.rows.length<=12:=by have:=oF F;omega
  clear F cp;refine ρ ?_;refine ld ((c3.ext a8).at (i:=1) rfl) ?_;refine ρ ?_;refine Qz (fun (j:Nat) (vr:Value)=>[(0,.slice A l.length c),(6,vo),(7,vm),(8,va),(10,.pointer (some ⟨b2,0,none⟩)),(11,.slice VA (lvs a).length vc),(13,vr),(21,.slice A l.length c),(22,.int .i64 (l.length:Int)),(23,.int .i64 (k:Int)),(51,.slice d9 a.rows.length rc),(52,.int .i64 (a.rows.length:Int)),(53,.int .i64 (j:Int))])
   (λj vr w'=>j<=a.rows.length/\Ext w4 w'/\OX 73 1 RfC (Ov w4 vr) w' w4.heap.size vr ((a.rows.map (Xs (lvs a).length)).take j)) (λj _=>a.rows.length-j) 0 (.slice none 0 0) sB ⟨Nat.zero_le _,Ext.refl _,OX.nil _ _⟩ ?_
  rintro j vr w5 ⟨hj,J,bl⟩;have c8:=a4.trans (a3.trans J);refine ρ ?_;refine ci (λF=>?_) (λF=>?_)
  .have lj:j<a.rows.length:=by have:=oT F;omega
   clear F;obtain⟨gk,_,⟨rfl,ed,ee⟩,dg⟩:=fe j lj;generalize hy:a.rows[j]=y at *
   obtain⟨y0,y1,y2,y3,rfl⟩:∃ y0 y1 y2 y3,y=[y0,y1,y2,y3]:=by
    match y,ed with
    | [y0,y1,y2,y3],_=>exact⟨y0,y1,y2,y3,rfl⟩
   refine ρ ?_;refine ixq 4 j (fd.ext c8) lj ?_;refine ρ ?_;refine lda (cs:=[.int .u8 (y0:Int),.int .u8 (y1:Int),.int .u8 (y2:Int),.int .u8 (y3:Int)]) (λj u Z=>Qs c8 (dg j u Z)) rfl ?_;refine ρ ?_;refine alc zArr4 ?_;intro w6 b6 aa f7 fh;refine ρ ?_;refine sta (cs':=[.int .u8 (y0:Int),.int .u8 (y1:Int),.int .u8 (y2:Int),.int .u8 (y3:Int)]) fh ?_ (λu Z=>by
    simp only[List.mem_cons,List.not_mem_nil,or_false]at Z;rcases Z with rfl|rfl|rfl|rfl<;>rfl) rfl rfl
   intro w7 d8 gg cm;have c5:Ext w5 w7:=cm w5 aa f7;refine ρ ?_;refine bsl Qjc ?_;intro w8 b8 ck f5 d7;refine ρ ?_;refine Qz (fun (i:Nat) (vx:Value)=>[(0,.slice A l.length c),(6,vo),(7,vm),(8,va),(10,.pointer (some ⟨b2,0,none⟩)),(11,.slice VA (lvs a).length vc),(13,vr),(15,.pointer (some ⟨b6,0,none⟩)),(16,vx),(21,.slice A l.length c),(22,.int .i64 (l.length:Int)),(23,.int .i64 (k:Int)),(51,.slice d9 a.rows.length rc),(52,.int .i64 (a.rows.length:Int)),(53,.int .i64 (j:Int)),(58,.slice VA (lvs a).length vc),(59,.int .i64 ((lvs a).length:Int)),(60,.int .i64 (i:Int))])
    (λi vx w'=>i<=(lvs a).length/\Ext w7 w'/\w'.ownsRow w7.heap.size 75 3 vx (Xs i [y0,y1,y2,y3]).length (Jr (Xs i [y0,y1,y2,y3]))) (λi _=>(lvs a).length-i) 0 (.slice (some ⟨b8,0,none⟩) 0 0) sB ⟨Nat.zero_le _,ck,d7.own (n:=0) f5 rfl (Nat.zero_le _)⟩ ?_
   rintro i vx w9 ⟨hi,O,bw⟩;refine ρ ?_;refine ci (λF=>?_) (λF=>?_)
   .have li:i<(lvs a).length:=by have:=oT F;omega
    clear F;have ec:([.int .u8 (y0:Int),.int .u8 (y1:Int),.int .u8 (y2:Int),.int .u8 (y3:Int)]:List Value)[i]?=some (.int .u8 (([y0,y1,y2,y3].getD i 0:Nat):Int)):=by
     rcases(show i=0∨i=1∨i=2∨i=3 by omega) with rfl|rfl|rfl|rfl<;>rfl
    generalize hz:[y0,y1,y2,y3].getD i 0=z at *
    refine ρ ?_;refine ixb i (show i<4 by omega) ?_;refine ρ ?_;refine ld ((d8.ext O).atc ec) ?_;refine ρ ?_;refine wrem rfl rfl (by decide) rfl ?_;refine ρ ?_;have ez:IntKind.i64.wrap ((z:Int).tmod 4)=((z % 4:Nat):Int):=by
     rw[show(z:Int).tmod 4=((z % 4:Nat):Int) from rfl,Vz om]
    rw[ez];refine bld (bldV4 _ _) ?_;refine ρ ?_;refine bsl (bs1VR _) ?_;intro a7 e4 G cd ai;have ex:=Jqs i [y0,y1,y2,y3];refine ρ ?_;refine apb (m':=1) (news:=V.cells ⟨1,((z % 4:Nat):Int),⟨#[]⟩⟩) EV (Jc bw G) (ai.rd (n:=1) rfl) (V.one _) (by unfold maxLen;omega) om (O.trans G).size ?_;intro v3 bt eo df gc;refine ρ ?_;refine Jt (i+1) v3 sO ⟨li,Jh (O.trans G) df (Kz (Jc bw G)),?_⟩ om;rw[Qgm,hz,List.length_append,Jqc,Jqb];exact eo
   have f2:i=(lvs a).length:=by have:=oF F;omega
   subst f2;clear F hi;have ex:=Jqs (lvs a).length [y0,y1,y2,y3];have fa:=ownX bw om;obtain⟨XA,xc,eX,_,_⟩:=Jy bw;subst eX;have b3:=c5.trans O;refine ρ ?_;refine bsl (λw=>Jtt _ w _ _ _ rfl) ?_;intro a7 e4 G cd ai;have a5:=((bl.ext RfC.sta b3).ext RfC.sta G).old RfC.sta (N':=λq=>Ov w4 vr q∨a7.heap.size<=q) λq D=>D;obtain⟨_,_,_,_,bj⟩:=id bl.form;have e9:=J.size;have fo:=c5.size;refine ρ ?_;refine apX ERo RfC.sta a5 ai rfl (λu Z=>by rw[List.mem_singleton.1 Z];rfl) ⟨_,rfl,(fa.grN (GrN.ext G)).oldN λq D=>?_⟩ (λg hg=>.inl (.inr hg)) (by simp;omega) (by decide) (nL e9 (b3.trans G).size) ?_
   .rcases D with(D|D)|D
    .exact .inl (show q<w7.heap.size by omega)
    .exact .inl (show q<w7.heap.size by have:=(bj q D).2;omega)
    exact .inr D
   intro vr' bt cg U ae;have co:(a.rows.map (Xs (lvs a).length)).take j++[Xs (lvs a).length [y0,y1,y2,y3]]=(a.rows.map (Xs (lvs a).length)).take (j+1):=by rw[List.take_add_one,List.getElem?_map,List.getElem?_eq_getElem lj,hy];rfl
   rw[co]at cg;refine ρ ?_;exact Jt (j+1) vr' sO ⟨lj,Jh (J.trans (b3.trans G)) U λq e=>(bj q e).1,cg.old RfC.sta λq D=>.inl (D.elim (λD=>.inl (.inl D)) λD=>(ae q D).elim (λD=>.inl (.inr D)) .inr)⟩ om
  have f0:j=a.rows.length:=by have:=oF F;omega
  subst f0;clear F hj;rw[show a.rows.length=(a.rows.map (Xs (lvs a).length)).length by simp,List.take_length]at bl;obtain⟨RR,g7,eR,_,bj⟩:=id bl.form;subst eR;have ek:(a.rows.map (Xs (lvs a).length)).length<=12:=by simp;omega
  have ff:=Jbc bl om;have fz:Ext w1 w5:=a3.trans J;refine ρ ?_;refine cl (Jlk ff) ?_;rintro _ w6 ⟨aa,rv,e,rfl,⟨z,B,m',d',rfl⟩,en,em⟩;obtain rfl:e=0:=en om (λr hr=>by
   obtain⟨y,hy,rfl⟩:=List.mem_map.1 hr;exact⟨Jqs _ _,Qgl _ _⟩) om
  obtain⟨_,_,m,eu,et,es,er⟩:=em rfl;have db:=er (.inl om);refine ρ ?_;refine alc Uk ?_;intro w7 b7 cm f6 d8;refine ρ ?_;refine stb (cs':=[.int .i64 z,.slice B m' d']) d8 ?_ (λu Z=>by
   simp only[List.mem_cons,List.not_mem_nil,or_false]at Z;rcases Z with rfl|rfl<;>rfl)
  intro w8 d7 gf ck;have a9:Ext w6 w8:=ck w6 cm f6;refine ρ ?_;refine ld ((((c3.ext a8).ext J).ext (aa.trans a9)).at (i:=2) rfl) ?_;refine ρ ?_;refine Qqw (fun (v':Value)=>[(0,.slice A l.length c),(6,vo),(7,vm),(8,va),(11,v'),(18,.pointer (some ⟨b7,0,none⟩)),(20,.int .i64 ((lvs a).length:Int)),(21,.slice A l.length c),(22,.int .i64 (l.length:Int)),(23,.int .i64 (k:Int))])
   (λv' w'=>GrN (λq=>(Value.slice VA (lvs a).length vc).ownBlock=some q) w8 w'/\w'.ownsRow w3.heap.size 3 1 v' (Qd a).length (Js (Qd a))) ?_ ?_
  .have c2:Qb w8 w3.heap.size (.slice VA (lvs a).length vc) (lvs a):=Jc ay (J.trans (aa.trans a9));have an:w3.heap.size<=w8.heap.size:=(a8.trans (J.trans (aa.trans a9))).size;have dc:∀(ls:List Nat) (x:Nat),nz (ls++[x])=nz ls++[(x:Int)]:=λls x=>by simp[nz]
   refine ρ ?_;refine ci (λF=>?_) (λF=>?_)
   .have h0:a.bad=0:=by have:=eq_of_beq F;omega
    have aj:Qd a=nz (lvs a):=by rw[Qd,if_pos h0]
    refine ρ ?_;exact Ja _ sB ⟨GrN.refl _ _,by rw[aj,Jo];exact c2⟩
   have h0:a.bad≠0:=λe=>by rw[e]at F;revert F;decide
   clear F;refine ρ ?_;refine ci (λF=>?_) (λF=>?_)
   .have h1:a.bad=1:=by have:=eq_of_beq F;omega
    have aj:Qd a=nz (lvs a++[9]):=by rw[Qd,if_neg h0,if_pos h1,dc];rfl
    refine ρ ?_;refine bsl (Gg _) ?_;intro w9 b9 O bv ah;refine ρ ?_;refine apI (z:=9) (Jc c2 O) ah om (nL an O.size) ?_;intro v' a7 a5 af cb;refine ρ ?_;exact Ja v' sB ⟨(GrN.ext O).trans (GrN.by af λq e=>e),by rw[aj,Jo];exact a5⟩
   have h1:a.bad≠1:=λe=>by rw[e]at F;revert F;decide
   clear F;refine ρ ?_;refine ci (λF=>?_) (λF=>?_)
   .have h2:a.bad=2:=by have:=eq_of_beq F;omega
    have aj:Qd a=nz (lvs a++[0]):=by rw[Qd,if_neg h0,if_neg h1,if_pos h2,dc];rfl
    refine ρ ?_;refine bsl (Gg _) ?_;intro w9 b9 O bv ah;refine ρ ?_;refine apI (z:=0) (Jc c2 O) ah om (nL an O.size) ?_;intro v' a7 a5 af cb;refine ρ ?_;exact Ja v' sB ⟨(GrN.ext O).trans (GrN.by af λq e=>e),by rw[aj,Jo];exact a5⟩
   have h2:a.bad≠2:=λe=>by rw[e]at F;revert F;decide
   clear F;have aj:Qd a = -1::nz (lvs a):=by rw[Qd,if_neg h0,if_neg h1,if_neg h2]
   refine ρ ?_;refine bsl (Gg _) ?_;intro w9 b9 O bv ah;refine ρ ?_;refine apb (base:=w3.heap.size) (m:=1) (m':=(lvs a).length) (xs:=[.int .i64 (-1)]) (news:=Js (nz (lvs a))) EI (ah.own (n:=1) (nL an bv) rfl (by decide)) (Rd.own (Jc c2 O)) (λu Z=>by
    obtain⟨x,_,rfl⟩:=List.mem_map.1 Z;rfl) (by unfold maxLen;omega) om (nL an O.size) ?_
   intro v' a7 a5 af cb;refine ρ ?_;exact Ja v' sB ⟨(GrN.ext O).by2 af λq e=>.inl (by injection e with e;rw[<-e];exact bv),by
    rw[aj,List.length_cons,Jo,Nat.add_comm];exact a5⟩
  rintro vv w9 ⟨cr,cv⟩;have br:∀ q,(Value.slice VA (lvs a).length vc).ownBlock=some q->w3.heap.size<=q/\q<w4.heap.size:=λq e=>fb q e;have c6:Ext w3 w9:=cr.old (a8.trans (J.trans (aa.trans a9))) λq e=>(br q e).1;have ah:=Ju d7 cr λe=>by
   have:=(br b7 e).2;have:=J.size;have:=aa.size;omega
  have g0:(Qd a).length<=9:=by
   unfold Qd;split
   .rw[Jo];omega
   split
   .rw[List.length_append,Jo];simp;omega
   split
   .rw[List.length_append,Jo];simp;omega
   rw[List.length_cons,Jo];omega
  obtain⟨VV,aw,fl,c9,bi⟩:=Jy cv;subst fl;have a2:Ext w1 w9:=bb.trans c6;have fu:=bb.size;have fq:=c6.size;have ao:∀ q,NM w.heap.size vo vm va q->q<w1.heap.size:=λq D=>by
   rcases D with D|D|D|D
   .exact nM D a4.size
   .obtain⟨_,_,_,_,h3⟩:=id bo.form;exact(h3 q D).2
   .obtain⟨_,_,_,_,h3⟩:=id bq.form;exact(h3 q D).2
   obtain⟨_,_,_,_,h3⟩:=Jy ax;exact(h3 q D).2
  have de:GrN (λq=>q<w5.heap.size) w6 w9:=(GrN.ext a9).trans (cr.mono λq _ e=>by have:=(br q e).2;have:=J.size;omega);have fp:=J.size;have ft:=a3.size;have bc:∀ {v:World} {N':Nat->Prop},Ext w9 v->(∀ q,N' q->q<w1.heap.size∨v.heap.size<=q)->Off N' v λu=>RelV u (.agg #[.int .i64 z,.slice B m' d']) (lvs a).length m:=λhy hN=>(eu.gr (de.trans (GrN.ext hy))).old' λq D=>(hN q D).imp (λh=>om) id;have be:∀ {v:World} {N':Nat->Prop},Ext w9 v->(∀ q,N' q->q<w1.heap.size∨v.heap.size<=q)->Off N' v λu=>IntsV u (.slice VV (Qd a).length aw) (Qd a):=fun {v N'} hy hN v' hg=>by
   refine⟨VV,aw,rfl,c9,om,Rd.own (Qk (Jc cv hy) hg λg bf hk=>?_)⟩;have h1:=bi g bf;have h2:=hy.size;rcases hN g hk with h|h
   .omega
   omega
  refine ρ ?_;refine lds (cs:=[.int .i64 z,.slice B m' d']) (λj u Z=>ah.at Z) ?_;refine ρ ?_;refine bld (Qjg _ _ _ _ _ _ _ _) ?_;refine ρ ?_;refine bsl (λw=>Qjb _ _ _ _ _ _ _ _ _ _ rfl rfl rfl w) ?_;intro a7 e4 G cd ai;have cz:=(bo.ext AtC.sta (a2.trans G)).old AtC.sta (N':=λq=>NM w.heap.size vo vm va q∨a7.heap.size<=q) λq D=>D;have g8:(l.zipWith atm ms).length<=1048576:=by simp;omega
  refine ρ ?_;refine apX EA AtC.sta cz ai rfl (λu Z=>by
   simp only[List.mem_cons,List.not_mem_nil,or_false]at Z;rcases Z with rfl|rfl|rfl<;>rfl) (a:=atm a m) ⟨(.slice VV (Qd a).length aw,.int .i64 z,.slice B m' d'),rfl,λv' hg=>?_⟩ (λg hg=>.inl (.inr (.inl hg))) om (by decide) (nL a4.size (a2.trans G).size) ?_
  .have dn:∀ q,(NM w.heap.size vo vm va q∨a7.heap.size<=q)->q<w1.heap.size∨a7.heap.size<=q:=λq D=>D.imp (ao q) id;obtain⟨rv,am,ej⟩:=bc G dn v' hg;injection am with am
   injection am with am
   injection am with e1 am
   injection am with e2 _
   exact⟨be G dn v' hg,e1,by rw[e2];exact ej⟩
  intro a1 bt bn U ae;have ap:∀ q,vo.ownBlock=some q->q<w1.heap.size:=λq e=>ao q (.inr (.inl e));have bh:GrN (λq=>q<w1.heap.size) a7 bt:=GrN.by U ap
  have dk:=(bc (N':=λq=>q<w1.heap.size) G λq D=>.inl D).gr bh;have g3:=(be (N':=λq=>q<w1.heap.size) G λq D=>.inl D).gr bh;have fy:=G.size;have fx:=U.size;have dz:=(ah.ext G).grown U λe=>by
   have:=ap b7 e.symm;have:=J.size;have:=aa.size;omega
  refine ρ ?_;refine lds (cs:=[.int .i64 z,.slice B m' d']) (λj u Z=>dz.at Z) ?_;refine ρ ?_;refine cl (Jyr dk.here) ?_;rintro fm da ⟨c7,dl⟩;refine ρ ?_;refine cl (Jlh dl.off.here (λr hr=>by
   obtain⟨y,_,rfl⟩:=List.mem_map.1 (es r hr);rw[Jqs];omega)) ?_
  rintro rf g6 ⟨cj,ba⟩;obtain⟨FA,fc,eF,gi,dt⟩:=id cj.form;subst eF;refine ρ ?_;refine bld (Jdl _ _ _ _ _ _ _) ?_;refine ρ ?_;refine bsl (Jtw _ _ _ _ _ _) ?_;intro a6 gm b4 g2 dx;have ad:=c7.trans (ba.trans b4);have fw:=c7.size;have eb:=ba.size;have ea:=b4.size;obtain⟨_,_,ch⟩:=(bo.ext AtC.sta (a2.trans G)).own;obtain⟨_,_,dh⟩:=(bq.ext RaC.sta (a2.trans G)).own;have d6:=Jc ax (a2.trans G);have d5:=Jc (Zq d6 ch U rfl) ad;have d2:=((((bq.ext RaC.sta (a2.trans G)).old RaC.sta (N':=λq=>NM w.heap.size vo vm va q∨a1.ownBlock=some q) λq D=>D.elim .inl λD=>(ae q D).imp (λh=>.inr (.inl h)) id).gr RaC.sta (GrN.by U λq e=>e) (M:=λq=>vo.ownBlock=some q) λq D=>⟨.inl (.inr (.inl D)),Um ch dh rfl D⟩).ext RaC.sta ad);have cy:=(bn.old AtC.sta (N':=λq=>NM w.heap.size vo vm va q∨a1.ownBlock=some q) λq D=>.inl (D.elim .inl λD=>(ae q D).imp (λh=>.inr (.inl h)) id)).ext AtC.sta ad;have fg:∀ q,(NM w.heap.size vo vm va q∨a1.ownBlock=some q)->q<bt.heap.size:=λq D=>by
   rcases D with D|D
   .have:=ao q D;omega
   obtain⟨_,_,_,_,h3⟩:=id bn.form;exact(h3 q D).2
  have av:=d2.old RaC.sta (N':=λq=>(NM w.heap.size vo vm va q∨a1.ownBlock=some q)∨a6.heap.size<=q) λq D=>D;have ar:=cy.old AtC.sta (N':=λq=>(NM w.heap.size vo vm va q∨a1.ownBlock=some q)∨a6.heap.size<=q) λq D=>D;have fn:(l.zipWith rat' ms).length<=1048576:=by simp;omega
  have dq:Off (λq=>(NM w.heap.size vo vm va q∨a1.ownBlock=some q)∨a6.heap.size<=q) a6 λu=>IntsV u (.slice VV (Qd a).length aw) (Qd a):=λv' hg=>by
   have fk:=Qk (Jc cv G) (GrN.by U λq e=>e) λg bf hk=>by
    have:=(bi g bf).1;have:=ap g hk;omega
   refine⟨VV,aw,rfl,c9,om,Rd.own (Qk (Jc fk ad) hg λg bf hk=>?_)⟩;have h1:=bi g bf;rcases hk with(hk|hk)|hk
   .have:=ao g hk;omega
   .rcases ae g hk with h|h
    .have:=ap g h;omega
    omega
   omega
  have du:Off (λq=>(NM w.heap.size vo vm va q∨a1.ownBlock=some q)∨a6.heap.size<=q) a6 λu=>RowsV u (.slice FA m.length fc) m:=λv' hg=>by
   refine Jbc (((cj.ext RfC.sta b4).old RfC.sta (N':=λq=>Ov da (.slice FA m.length fc) q∨a6.heap.size<=q) λq D=>D).gr RfC.sta hg λq D=>?_) om;rcases D with D|D
   .have:=fg q D;exact⟨.inl (.inl (show q<da.heap.size by omega)),λe=>by have:=(dt q e).1;omega⟩
   exact⟨.inr D,λe=>by have:=(dt q e).2;omega⟩
  refine ρ ?_;refine apX ERA RaC.sta av dx rfl (λu Z=>by
   simp only[List.mem_cons,List.not_mem_nil,or_false]at Z;rcases Z with rfl|rfl<;>rfl) (a:=rat' a m) ⟨.slice VV (Qd a).length aw,.slice FA m.length fc,rfl,λv' hg=>⟨dq v' hg,du v' hg⟩⟩ (λg hg=>.inl (.inl (.inr (.inr (.inl hg))))) om (by decide) (by have:=a4.size;omega) ?_
  intro e8 g5 d1 aq dd;obtain⟨_,_,au⟩:=av.own;obtain⟨_,_,c0⟩:=ar.own;have d3:=Zq d5 au aq rfl;have cx:=ar.gr AtC.sta (GrN.by aq λq e=>e) (M:=λq=>vm.ownBlock=some q) λq D=>⟨.inl (.inl (.inr (.inr (.inl D)))),Um au c0 rfl D⟩;have fr:=aq.size;refine ρ ?_;refine bsl (Gg _) ?_;intro g4 gl ac g1 dw;have ak:=Jc d3 ac;refine ρ ?_;refine apI (z:=(lvs a).length) ak dw (by rw[List.length_take];omega) (by have:=a4.size;have:=ac.size;omega) ?_;intro bu e5 bs bg ca;have co:(l.map λa=>(lvs a).length).take k++[(lvs a).length]=(l.map λa=>(lvs a).length).take (k+1):=by rw[List.take_add_one,List.getElem?_map,List.getElem?_eq_getElem lk,ha];rfl
  rw[co]at bs;have bm:=(cx.ext AtC.sta ac).old AtC.sta (N':=λq=>((NM w.heap.size vo vm va q∨a1.ownBlock=some q)∨a6.heap.size<=q)∨bu.ownBlock=some q) λq D=>D.elim .inl λD=>(ca q D).imp (λh=>.inl (.inl (.inr (.inr (.inr h))))) id;have bp:=(d1.ext RaC.sta ac).old RaC.sta (N':=λq=>((NM w.heap.size vo vm va q∨a1.ownBlock=some q)∨a6.heap.size<=q)∨bu.ownBlock=some q) λq D=>D.elim .inl λD=>(ca q D).imp (λh=>.inl (.inl (.inr (.inr (.inr h))))) id;obtain⟨_,_,bz⟩:=bm.own;obtain⟨_,_,c1⟩:=bp.own;have cw:=bm.gr AtC.sta (GrN.by bg λq e=>e) (M:=λq=>va.ownBlock=some q) λq D=>⟨.inl (.inl (.inl (.inr (.inr (.inr D))))),Um ak bz rfl D⟩;have d0:=bp.gr RaC.sta (GrN.by bg λq e=>e) (M:=λq=>va.ownBlock=some q) λq D=>⟨.inl (.inl (.inl (.inr (.inr (.inr D))))),Um ak c1 rfl D⟩;have dm:∀ q,NM w.heap.size a1 e8 bu q->(((NM w.heap.size vo vm va q∨a1.ownBlock=some q)∨a6.heap.size<=q)∨bu.ownBlock=some q):=λq D=>by
   rcases D with D|D|D|D
   .exact .inl (.inl (.inl (.inl D)))
   .exact .inl (.inl (.inr D))
   .exact .inl ((dd q D).imp (λh=>.inl (.inr (.inr (.inl h)))) id)
   exact .inr D
  have bd:∀ q,(vo.ownBlock=some q∨vm.ownBlock=some q∨va.ownBlock=some q)->w.heap.size<=q:=λq D=>by
   rcases D with D|D|D
   .obtain⟨_,_,_,_,h3⟩:=id bo.form;exact(h3 q D).1
   .obtain⟨_,_,_,_,h3⟩:=id bq.form;exact(h3 q D).1
   obtain⟨_,_,_,_,h3⟩:=Jy ax;exact(h3 q D).1
  have cn:Ext w e5:=Jh ((Jh ((Jh (a4.trans (a2.trans G)) U λq e=>bd q (.inl e)).trans ad) aq λq e=>bd q (.inr (.inl e))).trans ac) bg λq e=>bd q (.inr (.inr e));have c4:∀ {β:Type} (f:LA->List Row->β),l.zipWith f (ms++[m])=l.zipWith f ms++[f a m]:=λf=>by
   have e1:l=l.take k++l[k]::l.drop (k+1):=by rw[<-List.drop_eq_getElem_cons lk,List.take_append_drop]
   have e2:(l.take k).length=ms.length:=by rw[List.length_take];omega
   have e3:l.zipWith f ms=(l.take k).zipWith f ms:=by
    conv=>lhs;rw[e1]
    have:=List.zipWith_append (f:=f) (l₁:=l.take k) (l₁':=l[k]::l.drop (k+1)) (l₂:=ms) (l₂':=[]) e2;rw[List.append_nil,List.zipWith_nil_right,List.append_nil]at this;exact this
   rw[e3];conv=>lhs;rw[e1]
   rw[List.zipWith_append e2,ha];simp
  refine ρ ?_;refine Yv (k+1) _ _ _ sO ⟨lk,cn,λi h hi=>?_,bs,ms++[m],by simp[cq],λi h1 h2=>?_,by rw[c4];exact cw.old AtC.sta λq D=>.inl (dm q D),by rw[c4];exact d0.old RaC.sta λq D=>.inl (dm q D)⟩ om
  .by_cases e:i=k
   .subst e;rw[ha];exact⟨om,e0⟩
   exact cc i h om
  by_cases e:i=k
  .subst e;rw[ha,List.getElem_append_right om];simp only[cq,Nat.sub_self,List.getElem_cons_zero];exact⟨db,et⟩
  rw[List.getElem_append_left (by simp at h2;omega)];exact dj i h1 (by simp at h2;omega)
 have ey:k=l.length:=by have:=oF F;omega
 clear F;subst ey;rw[show l.length=(l.map λa=>(lvs a).length).length by simp,List.take_length]at ax;obtain⟨NA,nc,eN,ep,_⟩:=Jy ax;subst eN;have e6:decide ((l.length:Int)<=6)=decide (l.length<=6):=decide_eq_decide.2 om;refine ρ ?_;rw[e6];refine fin4 ⟨a4,.inl ⟨λa ha=>?_,vo,vm,_,ms,rfl,cq,dj,bo.gx AtC.sta (by simp;omega) λq D=>False.elim D,bq.gx RaC.sta (by simp;omega) λq D=>False.elim D,?_⟩⟩
 .obtain⟨i,hi,rfl⟩:=List.getElem_of_mem ha;exact cc i hi hi
 refine⟨NA,nc,by rw[Jo],by rw[Jo];exact ep,by rw[Jo];simp;omega,?_⟩;have:=Rd.own ax;rwa [Jo]
open Go.RowKit Pl Go.Wk Bl
variable {w:World}
theorem Jls{v:Value}{zs:List Int}{z:Int}(hv:IntsV w v zs): Ret Tryz.prog 39 [v,.int .i64 z] w λu w'=>w'=w/\((∃ i,i<zs.length/\zs.getD i 0=z/\(∀ j,j<i->zs.getD j 0≠z)/\u=.tuple #[.int .i64 (i:Int),.bool true])∨((∀ j,j<zs.length->zs.getD j 0≠z)/\u=.tuple #[.int .i64 0,.bool false])):=by
 obtain⟨A,c,rfl,O,J,F⟩:=hv;refine Jz Tryz.func39 Tryz.ntmps39 rfl kr rfl ?_;refine ρ ?_;refine Jl (fun (i:Nat)=>[(0,.slice A zs.length c),(1,.int .i64 z),(6,.int .i64 (i:Int))]) (λi w'=>i<=zs.length/\w'=w/\∀ j,j<i->zs.getD j 0≠z) (λi=>zs.length-i) 0 sB ⟨Nat.zero_le _,rfl,λj h=>absurd h (Nat.not_lt_zero _)⟩ ?_;rintro i w1 ⟨hi,rfl,D⟩;refine ρ ?_;refine ci (λy=>?_) (λy=>?_)
 .have lt:i<zs.length:=by have:=oT y;omega
  clear y;refine ρ ?_;refine ix i F lt ?_;refine ρ ?_;refine ld (F.cell (Ve lt)) ?_;refine ρ ?_;refine ci (λy=>?_) (λy=>?_)
  .have e:=eq_of_beq y;refine ρ ?_;exact Qu ⟨rfl,.inl ⟨i,lt,e,D,rfl⟩⟩
  have e:zs.getD i 0≠z:=λe=>by rw[e]at y;simp at y
  refine ρ ?_;exact Jg (i+1) sO ⟨om,rfl,λj G=>by
   by_cases h:j=i
   .rw[h];exact e
   exact D j om⟩ om
 have e:i=zs.length:=by have:=oF y;omega
 subst e;refine ρ ?_;exact Qu ⟨rfl,.inr ⟨D,rfl⟩⟩
theorem zRA: Xj Tryz.prog 46=some (.agg #[.slice none 0 0,.slice none 0 0]):=kr
theorem Qhd{t:V3}{a:Atm}(h:AtV w t a)(hl:∀ r∈a.rows,r.length<=100000)(hm:a.rows.length<=1100000): Ret Tryz.prog 18 [.agg t.cells.toArray] w λu w'=>∃ v1 v2,u=.agg #[v1,v2]/\IntsV w' v1 a.vars/\RowsV w' v2 a.rows/\Ext w w':=by
 obtain⟨v1,v2,v3⟩:=t;obtain⟨hv,e2,hr⟩:=h;simp only at hv e2 hr;subst e2;obtain⟨A,c,rfl,_⟩:=id hv;obtain⟨ps,B,d,eL,rfl,_⟩:=id hr;refine Jz Tryz.func18 Tryz.ntmps18 rfl kr rfl ?_;refine ρ ?_;refine bx (cs:=[.slice A a.vars.length c,.int .i64 (a.ar:Int),.slice B ps.length d]) ?_;intro w1 b1 a1 af ac;refine ρ ?_;refine alc zRA ?_;intro w2 b2 Z a7 a4;have F:Ext w2 w2.drew:=(Ext.refl w2).drew;have J:=a1.trans (Z.trans F);have D:=(ac.ext Z).ext F;refine ρ ?_;refine dr [(0,0),(0,1),(0,2),(0,3),(1,4),(1,5),(0,6),(2,7)] kr ?_;refine ρd ?_;refine dld (D.at (i:=0) rfl) ?_;refine ρd ?_;refine Qj (cs:=[.int .i64 (a.ar:Int),.slice B ps.length d]) (λj u y=>match j,y with
  | 0,y=>by injection y with y;subst y;exact D.at (i:=1) rfl
  | 1,y=>by injection y with y;subst y;exact D.at (i:=2) rfl
  | j+2,y=>by cases y) ?_
 refine ρd ?_;refine dcl (Jyr (ar:=a.ar) (ls:=a.rows) ⟨.slice B ps.length d,rfl,hr.ext J⟩) ?_;rintro ad w3 ⟨G,a8⟩;refine⟨G,?_⟩;refine ρd ?_;refine dcl (Jlh a8.off.here hl) ?_;rintro rf w4 ⟨a2,U⟩;refine⟨U,?_⟩;obtain⟨FA,fc,eF,_,a9⟩:=id a2.form;subst eF;refine ρd ?_;refine dbld (λw=>Jdl _ _ _ _ _ _ w) ?_;refine ρd ?_;refine Jf ?_;have a3:=(a4.ext F).ext (G.trans U);refine stb (cs':=[.slice A a.vars.length c,.slice FA a.rows.length fc]) a3 ?_ (λu y=>by
  simp only[List.mem_cons,List.not_mem_nil,or_false]at y;rcases y with rfl|rfl<;>rfl)
 intro w5 aa a6 a5;have O:Ext w w5:=a5 w (J.trans (G.trans U)) (nL a1.size a7);have ae:=a4.lt;have z1:=F.size;have z3:=G.size;refine ρ ?_;refine Zy aa ⟨_,_,rfl,hv.ext O,Jbc (a2.gr RfC.sta (GrN.by a6 λq e=>e) (M:=λq=>some b2=some q) λq hq=>?_) hm,O⟩;injection hq with hq
 subst hq;exact⟨.inl om,λe=>by have:=(a9 b2 e).1;omega⟩
end Go.Proofs.YtebiphhfkdbpfaaGreat
namespace Go.Proofs.YtebiphhfkdbpfaaGreat
open Pl Go.Wk
variable {a b v1 v2 vs:List Nat}{P X Y Z l out r1 r2 res rows:List Row}{vals:List V}{big i j m n s small:Nat}{x:Nat->V}{kn r z:Row}
structure PA where
 vs: List Nat
 rs:List Row
def Agr1(vs:List Nat)(x kn:Row): Prop:=∀ j,j<vs.length->vs.getD j 0<kn.length->x.getD j V0=kn.getD (vs.getD j 0) V0
def Alw(a:PA)(kn:Row): Prop:=∃ x∈a.rs,Agr1 a.vs x kn
def Jxt(l:List PA)(n:Nat)(kn z:Row): Prop:=z.length=n/\kn <+: z/\∀ a∈l,Alw a z
def JnS(l:List PA)(n:Nat)(kn:Row)(out:List Row): Prop:=Lt [] out/\∀ z,z∈out↔Jxt l n kn z
theorem Qbl(h:kn <+: z)(hi:i<kn.length): z.getD i V0=kn.getD i V0:=by
 obtain⟨s,rfl⟩:=h;simp[List.getD,List.getElem?_append_left hi]
theorem Qsm{a:PA}(h:kn <+: z)(ha:Alw a z): Alw a kn:=by
 obtain⟨x,D,y⟩:=ha;refine⟨x,D,λj F u=>?_⟩;rw[y j F (nM u h.length_le),Qbl h u]
theorem Qhm{l:List PA}{a:PA}(ha:a∈l)(hn:¬ Alw a kn): JnS l n kn [] :=
 ⟨List.Pairwise.nil,λz=>⟨λh=>(by cases h),λh=>absurd (Qsm h.2.1 (h.2.2 a ha)) hn⟩⟩
theorem Qhn{l:List PA}(hk:kn.length=n)(h:∀ a∈l,Alw a kn): JnS l n kn [kn] :=
 ⟨List.pairwise_singleton _ _,λz=>by
  rw[List.mem_singleton];constructor
  .rintro rfl;exact⟨hk,List.prefix_rfl,h⟩
  rintro⟨y,u,_⟩;exact(u.eq_of_length om).symm⟩
def JnK(l:List PA)(n:Nat)(kn:Row)(vals:List V)(out:List Row): Prop:=Lt [] out/\∀ z,z∈out↔∃ x∈vals,Jxt l n (kn++[x]) z
theorem Qhj(l:List PA)(n:Nat)(kn:Row): JnK l n kn [] []:=⟨List.Pairwise.nil,λz=>by simp⟩
theorem Qhl{l:List PA}{x:V}(hk:JnK l n kn vals out)(hr:JnS l n (kn++[x]) res)(hx:∀ y∈vals,cmpV y x<0): JnK l n kn (vals++[x]) (out++res):=by
 refine⟨List.pairwise_append.2 ⟨hk.1,hr.1,λa G b F=>?_⟩,λz=>?_⟩
 .obtain⟨y,u,O⟩:=(hk.2 a).1 G;have J:=(hr.2 b).1 F;obtain⟨s,D⟩:=O.2.1;obtain⟨t,ht⟩:=J.2.1;refine Jtc (m:=kn.length) ?_ ?_ ?_ ?_
  .rw[<-D,<-ht];simp
  .rw[<-D];simp
  .rw[<-ht];simp
  have Z:a.getD kn.length V0=y:=by rw[<-D];simp[List.getD]
  have U:b.getD kn.length V0=x:=by rw[<-ht];simp[List.getD]
  rw[Z,U];exact hx y u
 rw[List.mem_append,hk.2,hr.2];constructor
 .rintro(⟨y,u,h⟩|h)
  .exact⟨y,List.mem_append_left _ u,h⟩
  exact⟨x,by simp,h⟩
 rintro⟨y,u,h⟩;rcases List.mem_append.1 u with u|u
 .exact .inl ⟨y,u,h⟩
 rw[List.mem_singleton.1 u]at h;exact .inr h
theorem Qbk(h:kn <+: z)(hl:kn.length<z.length): kn++[z.getD kn.length V0] <+: z:=by
 obtain⟨s,rfl⟩:=h;cases s with
 | nil=>simp at hl
 | cons y s=>exact⟨s,by simp[List.getD]⟩
theorem Qhk{l:List PA}(hk:JnK l n kn vals out)(hn:kn.length<n)(hc:∀ z,Jxt l n kn z->z.getD kn.length V0∈vals): JnS l n kn out :=
 ⟨hk.1,λz=>by
  rw[hk.2];constructor
  .rintro⟨x,_,D,y,u⟩;exact⟨D,(List.prefix_append _ _).trans y,u⟩
  intro h;exact⟨_,hc z h,h.1,Qbk h.2.1 (by rw[h.1];exact hn),h.2.2⟩⟩
theorem Ia{α:Type}: ∀ {l m:List α},l.Nodup->(∀ x∈l,x∈m)->l.length<=m.length
 | [],_,_,_=>Nat.zero_le _
 | x::l,m,hn,hs=>by
  obtain⟨a,b,rfl⟩:=List.append_of_mem (hs x mC);have hn':=List.nodup_cons.1 hn;have:=Ia (l:=l) (m:=a++b) hn'.2 λy hy=>by grind
  grind
theorem Jbp{ds:List Bool}(h:Lt ds l): l.Nodup:=h.imp fun {a b} hab e=>by grind [Yj]
def D4(x:V): Prop:=x∈([⟨1,0,⟨#[]⟩⟩,⟨1,1,⟨#[]⟩⟩,⟨1,2,⟨#[]⟩⟩,⟨1,3,⟨#[]⟩⟩]:List V)
def Gr: Nat->List Row
 | 0=>[[]]
 | n+1=>(Gr n).flatMap λr=>[(⟨1,0,⟨#[]⟩⟩:V)::r,⟨1,1,⟨#[]⟩⟩::r,⟨1,2,⟨#[]⟩⟩::r,⟨1,3,⟨#[]⟩⟩::r]
theorem Jlc: ∀ n,(Gr n).length=4^n
 | 0=>rfl
 | n+1=>by
  rw[Gr,Nat.pow_succ,<-Jlc n];generalize Gr n=l
  induction l with
  | nil=>rfl
  | cons r l ih=>rw[List.flatMap_cons,List.length_append,ih,List.length_cons];simp;omega
theorem Jlb: ∀(n:Nat) (z:Row),z.length=n->(∀ x∈z,D4 x)->z∈Gr n
 | 0,[],_,_=>by simp[Gr]
 | n+1,x::z,h,hd=>by
  have ih:=Jlb n z (by simpa using h) λy hy=>hd y (List.mem_cons_of_mem _ hy);have hx:=hd x mC;rw[Gr,List.mem_flatMap];refine⟨z,ih,?_⟩;unfold D4 at hx;simp only[List.mem_cons,List.not_mem_nil,or_false]at hx ⊢;rcases hx with rfl|rfl|rfl|rfl<;>simp
theorem Jkm(h:Lt [] l)(hl:∀ z∈l,z.length=n/\∀ x∈z,D4 x): l.length<=4^n:=by
 rw[<-Jlc n];exact Ia (Jbp h) λz u=>Jlb n z (hl z u).1 (hl z u).2
structure SmP(l:List PA)(n:Nat): Prop where
 lt:∀ a∈l,∀ v∈a.vs,v<n
 len:∀ a∈l,∀ r∈a.rs,r.length=a.vs.length
 d4:∀ a∈l,∀ r∈a.rs,∀ x∈r,D4 x
 cov:∀ v,v<n->∃ a∈l,v∈a.vs
theorem SmP.ans{l:List PA}(h:SmP l n)(hz:Jxt l n kn z): ∀ x∈z,D4 x:=by
 intro x U;obtain⟨i,hi,rfl⟩:=List.getElem_of_mem U;obtain⟨a,F,Z⟩:=h.cov i (by rw[<-hz.1];exact hi);obtain⟨j,D,e⟩:=List.getElem_of_mem Z;obtain⟨y,J,hg⟩:=hz.2.2 a F;have O:a.vs.getD j 0=i:=by rw[List.getD,List.getElem?_eq_getElem D];exact e
 have G:=hg j D (by rw[O];exact hi);have u:j<y.length:=by rw[h.len a F y J];exact D
 rw[O,List.getD,List.getD,List.getElem?_eq_getElem hi,List.getElem?_eq_getElem u]at G;simp only[Option.getD_some]at G;rw[<-G];exact h.d4 a F y J _ (List.getElem_mem u)
theorem SmP.cnt{l:List PA}(h:SmP l n)(hj:JnS l n kn out): out.length<=4^n:=Jkm hj.1 λz u=>⟨((hj.2 z).1 u).1,h.ans ((hj.2 z).1 u)⟩
theorem SmP.cntK{l:List PA}(h:SmP l n)(hj:JnK l n kn vals out): out.length<=4^n:=Jkm hj.1 λz y=>by
 obtain⟨x,_,u⟩:=(hj.2 z).1 y;exact⟨u.1,h.ans u⟩
def JoinS(l:List PA)(vs:List Nat)(rows:List Row): Prop:=Qf vs/\(∀ v,v∈vs↔∃ a∈l,v∈a.vs)/\Lt [] rows/\∀ z,z∈rows↔∃ x:Nat->V,z=vs.map x/\∀ a∈l,a.vs.map x∈a.rs
def MatS(l:List PA)(s:Nat)(rows:List Row): Prop:=Lt [] rows/\∀ z,z∈rows↔∃ x:Nat->V,z=(bk s 32).map x/\∀ a∈l,∃ r∈a.rs,∀ j,j<a.vs.length->s.testBit (a.vs.getD j 0)=true->r.getD j V0=x (a.vs.getD j 0)
theorem MatS.uniq{l:List PA}(h1:MatS l s r1)(h2:MatS l s r2): r1=r2:=Yn h1.1 h2.1 λz=>(h1.2 z).trans (h2.2 z).symm
theorem Jdt(ha:Qf a)(hb:Qf b)(h:∀ u,u∈a↔u∈b): a=b:=by
 induction a generalizing b with
 | nil=>
  cases b with
  | nil=>rfl
  | cons y b=>exact absurd ((h y).2 mC) (by simp)
 | cons x a ih=>
  cases b with
  | nil=>exact absurd ((h x).1 mC) (by simp)
  | cons y b=>
   have G:=List.pairwise_cons.1 ha;have F:=List.pairwise_cons.1 hb;have J:x=y:=by
    rcases List.mem_cons.1 ((h x).1 mC) with e|e
    .exact e
    rcases List.mem_cons.1 ((h y).2 mC) with e2|e2
    .exact e2.symm
    have:=G.1 _ e2;have:=F.1 _ e;omega
   subst J;rw[ih G.2 F.2 λu=>?_];have:=h u;constructor
   .intro D;rcases List.mem_cons.1 (this.1 (List.mem_cons_of_mem _ D)) with e|e
    .have:=G.1 _ D;omega
    exact e
   intro D;rcases List.mem_cons.1 (this.2 (List.mem_cons_of_mem _ D)) with e|e
   .have:=F.1 _ D;omega
   exact e
theorem JoinS.vuniq{l m:List PA}(h1:JoinS l v1 r1)(h2:JoinS m v2 r2)(h:∀ v,(∃ a∈l,v∈a.vs)↔∃ a∈m,v∈a.vs): v1=v2:=Jdt h1.1 h2.1 λv=>by rw[h1.2.1,h2.2.1,h]
theorem JoinS.uniq{l m:List PA}(h1:JoinS l v1 r1)(h2:JoinS m v2 r2)(h:∀ v,(∃ a∈l,v∈a.vs)↔∃ a∈m,v∈a.vs)(hx:∀ x:Nat->V,(∀ a∈l,a.vs.map x∈a.rs)↔∀ a∈m,a.vs.map x∈a.rs): v1=v2/\r1=r2:=by
 have e:=h1.vuniq h2 h;subst e;refine⟨rfl,Yn h1.2.2.1 h2.2.2.1 λz=>?_⟩;rw[h1.2.2.2,h2.2.2.2];exact exists_congr λx=>and_congr Iff.rfl (hx x)
theorem Qjs(ha:Qf vs)(r:Row)(hr:r.length=vs.length): ∃ x:Nat->V,vs.map x=r:=by
 refine⟨λv=>r.getD (lv vs v) V0,?_⟩;refine List.ext_getElem (by simp[hr]) λi y u=>?_;have hi:i<vs.length:=by simpa using y
 rw[List.getElem_map];have e:vs.getD i 0=vs[i]:=by rw[List.getD,List.getElem?_eq_getElem hi];rfl
 rw[<-e,Ur ha hi,List.getD,List.getElem?_eq_getElem u];rfl
theorem Qhg{a b:PA}(ha:Qf a.vs)(e:b.vs=a.vs)(hl:∀ r∈b.rs,r.length=a.vs.length)(hb:Lt [] b.rs)(h:JoinS [a,b] vs rows): vs=a.vs/\(rows=b.rs↔∀ r∈b.rs,r∈a.rs):=by
 have ev:vs=a.vs:=Jdt h.1 ha λv=>by rw[h.2.1];simp[e]
 subst ev;refine⟨rfl,?_⟩;have F:∀ z,z∈rows↔z∈a.rs/\z∈b.rs:=λz=>by
  rw[h.2.2.2];constructor
  .rintro⟨x,rfl,u⟩;have G:=u a (by simp);have y:=u b (by simp);rw[e]at y;exact⟨G,y⟩
  rintro⟨G,y⟩;obtain⟨x,u⟩:=Qjs ha z (hl z y);refine⟨x,u.symm,λc J=>?_⟩;simp only[List.mem_cons,List.not_mem_nil,or_false]at J;rcases J with rfl|rfl
  .rw[u];exact G
  rw[e,u];exact y
 constructor
 .rintro rfl r U;exact((F r).1 U).1
 intro O;exact Yn h.2.2.1 hb λz=>⟨λD=>((F z).1 D).2,λD=>(F z).2 ⟨O z D,D⟩⟩
def dns(vs:List Nat)(a:PA): PA:=⟨a.vs.map (lv vs),a.rs⟩
theorem Jcf{f:Nat->Nat}{l:List Nat}(h:j<l.length): (l.map f).getD j 0=f (l.getD j 0):=by
 simp[List.getD,List.getElem?_eq_getElem h]
theorem Qhh{l:List PA}(hv:Qf vs)(hm:∀ v,v∈vs↔∃ a∈l,v∈a.vs)(hlen:∀ a∈l,∀ r∈a.rs,r.length=a.vs.length)(h:JnS (l.map (dns vs)) vs.length [] rows): JoinS l vs rows:=by
 refine⟨hv,hm,h.1,λz=>?_⟩;rw[h.2];have key:∀ x:Nat->V,∀ a∈l,(Alw (dns vs a) (vs.map x)↔a.vs.map x∈a.rs):=λx a y=>by
  have D:∀ j,j<a.vs.length->a.vs.getD j 0∈vs:=λj u=>(hm _).2 ⟨a,y,by rw[List.getD,List.getElem?_eq_getElem u];exact List.getElem_mem u⟩;have F:∀ j,j<a.vs.length->(vs.map x).getD (lv vs (a.vs.getD j 0)) V0=x (a.vs.getD j 0):=λj u=>by
   obtain⟨i,hi,e⟩:=List.getElem_of_mem (D j u);have U:vs.getD i 0=a.vs.getD j 0:=by rw[List.getD,List.getElem?_eq_getElem hi];exact e
   rw[<-U,Ur hv hi];simp[List.getD,List.getElem?_eq_getElem hi]
  have J:∀ j,j<a.vs.length->lv vs (a.vs.getD j 0)<vs.length:=λj u=>by
   obtain⟨i,hi,e⟩:=List.getElem_of_mem (D j u);have U:vs.getD i 0=a.vs.getD j 0:=by rw[List.getD,List.getElem?_eq_getElem hi];exact e
   rw[<-U,Ur hv hi];exact hi
  constructor
  .rintro⟨r,G,hg⟩;have e:a.vs.map x=r:=by
    refine List.ext_getElem (by rw[List.length_map,hlen a y r G]) λj O h2=>?_;have u:j<a.vs.length:=by simpa using O
    have:=hg j (by simpa [dns] using u) (by
     show(a.vs.map (lv vs)).getD j 0<_;rw[Jcf u,List.length_map];exact J j u)
    rw[show(dns vs a).vs.getD j 0=lv vs (a.vs.getD j 0) from Jcf u,F j u]at this;rw[List.getElem_map];rw[List.getD,List.getElem?_eq_getElem h2,List.getD,List.getElem?_eq_getElem u]at this;exact this.symm
   rw[e];exact G
  intro G;refine⟨_,G,λj u _=>?_⟩;have u:j<a.vs.length:=by simpa [dns] using u
  rw[show(dns vs a).vs.getD j 0=lv vs (a.vs.getD j 0) from Jcf u,F j u];simp[List.getD,List.getElem?_eq_getElem u]
 constructor
 .rintro⟨O,_,h3⟩;obtain⟨x,rfl⟩:=Qjs hv z O;exact⟨x,rfl,λa y=>(key x a y).1 (h3 _ (List.mem_map.2 ⟨a,y,rfl⟩))⟩
 rintro⟨x,rfl,Z⟩;refine⟨by simp,List.nil_prefix,λb hb=>?_⟩;obtain⟨a,y,rfl⟩:=List.mem_map.1 hb;exact(key x a y).2 (Z a y)
theorem pm_fn(h:∀ j,j<vs.length->s.testBit (vs.getD j 0)=true->r.getD j V0=x (vs.getD j 0)): pmR (Xv vs s) r=(inS vs s).map x:=by
 have e:inS vs s=(Xv vs s).map λi=>vs.getD i 0:=by
  have D:vs=(List.range vs.length).map λi=>vs.getD i 0:=by
   refine List.ext_getElem (by simp) λi u F=>?_;rw[List.getElem_map,List.getElem_range,List.getD,List.getElem?_eq_getElem u];rfl
  unfold inS Xv;conv=>lhs;rw[D]
  rw[List.filter_map];rfl
 rw[e,List.map_map];unfold pmR;refine List.map_congr_left λc y=>?_;have u:=Jdc y;exact h c u (List.mem_filter.1 y).2
theorem Qbv: pmR (Xv vs s) (vs.map x)=(inS vs s).map x:=pm_fn λj u _=>by simp[List.getD,List.getElem?_eq_getElem u]
theorem Qlg(ha:Qf vs)(hl:∀ v∈vs,v<32)(hs:∀ v,s.testBit v=true->v∈vs): inS vs s=bk s 32:=Jdt (Jpw ha) (Yq s 32) λv=>by
 rw[inS_mem,bk_mem];exact⟨λh=>⟨hl v h.1,h.2⟩,λh=>⟨hs v h.2,h.2⟩⟩
def paR(m:Nat)(vars:Nat->List Nat)(rs:Nat->List Row): List PA:=(List.range m).map λi=>⟨vars i,rs i⟩
theorem Qfv{vars:Nat->List Nat}{rs:Nat->List Row}(hs:s<2^n)(hl:Lt [] l)(h:∀ x,x∈l↔∃ z:Row,z.length=n/\x=pmR (bk s 32) z/\Kp m vars rs s z): MatS (paR m vars rs) s l:=by
 refine⟨hl,λy=>?_⟩;rw[h];constructor
 .rintro⟨z,hz,rfl,U⟩;refine⟨λv=>z.getD v V0,rfl,λa Z=>?_⟩;obtain⟨i,hi,rfl⟩:=List.mem_map.1 Z;exact U i (List.mem_range.1 hi)
 rintro⟨x,rfl,G⟩;have D:∀ v,v<n->((List.range n).map x).getD v V0=x v:=λv u=>by simp[List.getD,u]
 refine⟨(List.range n).map x,by simp,?_,λi hi=>?_⟩
 .unfold pmR;exact List.map_congr_left λv u=>(D v (Uz hs (bk_mem.1 u).2)).symm
 obtain⟨r,J,O⟩:=G ⟨vars i,rs i⟩ (List.mem_map.2 ⟨i,List.mem_range.2 hi,rfl⟩);exact⟨r,J,λj h1 F=>by rw[O j h1 F,D _ (Uz hs F)]⟩
theorem Qfn{l:List PA}(hb:∀ v,small.testBit v=true->big.testBit v=true/\v<32)(hX:MatS l big X)(hP:IsSet [] (X.map (pmR (Xv (bk big 32) small))) P)(hY:MatS l small Y): inS (bk big 32) small=bk small 32/\∀ r∈P,r∈Y:=by
 have e:inS (bk big 32) small=bk small 32:=Qlg (Yq big 32) (λv u=>(bk_mem.1 u).1) λv u=>bk_mem.2 ⟨(hb v u).2,(hb v u).1⟩;refine⟨e,λr J=>?_⟩;obtain⟨z,D,rfl⟩:=List.mem_map.1 ((hP.2 r).1 J);obtain⟨x,rfl,G⟩:=(hX.2 z).1 D;rw[Qbv,e,hY.2];refine⟨x,rfl,λa U=>?_⟩;obtain⟨y,F,O⟩:=G a U;exact⟨y,F,λj h1 Z=>O j h1 (hb _ Z).1⟩
theorem Qft{l:List PA}(h:MatS (l++l) s Z): MatS l s Z:=⟨h.1,λz=>by
 rw[h.2];refine exists_congr λx=>and_congr Iff.rfl ?_;exact⟨λh a u=>h a (List.mem_append_left _ u),λh a u=>h a ((List.mem_append.1 u).elim id id)⟩⟩
end Go.Proofs.YtebiphhfkdbpfaaGreat
namespace Go.Wk
open Go.RowKit
variable {c' d m' n ty:Nat}{v z:Value}
theorem Jxn{P:Program}{al:AL}{w:World}{Q:Exit->Act->World->Prop}{ops:Array Oper}{rest:List Oper}{pos:String}{aft:Array Edge}{α:Type}{t E sz bytes base:Nat}(hE:ElT P t E sz bytes z){Φ:(Nat->Prop)->World->List Value->α->Prop}(hΦ:Sta Φ){N N':Nat->Prop}{x y:Operand}{ls ms:List α}{A:Option Addr}(ho:OX E sz Φ N w base v ls)(hs:GX sz Φ N' w (.slice A m' c') ms)(h1:∀ cs a,Φ N' w cs a->∀ u∈cs,u.oneCell'=true)(hN:∀ k,N k->N' k∨w.heap.size<=k)(hv:∀ g,v.ownBlock=some g->N g)(hm:ls.length<=1100000)(hby:bytes<=64)(hbase:base<=w.heap.size)(kk:∀ v' w',OX E sz Φ N w' base v' (ls++ms)->w.grownBy w' v.ownBlock->(∀ g,v'.ownBlock=some g->v.ownBlock=some g∨w.heap.size<=g)->WL P n ops Q rest ((d,v')::al) w')(hx:ev al x=some v:=by rfl)(hy:ev al y=some (.slice A m' c'):=by rfl)(hd:Nat.blt d n=true:=by rfl):
  WL P n ops Q (⟨some d,.call { callee:=.builtin .append,args:=#[x,y],argTypes:=#[t,t] },ty,pos,aft,none⟩::rest) al w:=by
 obtain⟨ps,e,hr,hp⟩:=ho;obtain⟨⟨F,A2,c2,e2,e3,e4,e5,J,O⟩,hn⟩:=hs;injection e3 with e6 e7 e8
 subst e6;subst e7;subst e8;have a2:ps.length<=1100000:=by
  have:=congrArg List.length e;rw[List.length_map]at this;omega
 have a3:(ps.length+F.length)*bytes<=2200000*64:=Nat.mul_le_mul om hby;refine apb hE hr J (λu hu=>?_) (by unfold maxLen;omega) om hbase ?_ hx hy hd
 .obtain⟨p,U,G⟩:=List.mem_flatMap.1 hu;exact h1 _ _ (O p U).2 u G
 intro v' w' Z hg a1;refine kk v' w' ⟨ps++F,by rw[e,e2];simp,?_,λp hm=>?_⟩ hg a1
 .have e9:Jd (ps++F)=Jd ps++Jd F:=by simp[Jd]
  rw[List.length_append,e9];exact Z
 have D:GrN N w w':=GrN.by hg hv
 rcases List.mem_append.1 hm with h'|h'
 .exact⟨(hp p h').1,hΦ.gr (hp p h').2 D⟩
 exact⟨(O p h').1,hΦ.gr (hΦ.old (O p h').2 hN) D⟩
end Go.Wk
namespace Go.Proofs.YtebiphhfkdbpfaaGreat
open Go.RowKit Pl Go.Wk Bl
attribute [local irreducible] WC WL QX WD WDB WP WN WG WH
variable {l ls m:List Row}{N:Nat->Prop}{r x:Row}{a b:V}{v va vb:Value}{w:World}
def NoS(r:Row): Prop:=∀ x∈r,x.str=⟨#[]⟩
theorem NoS.at(h:NoS r)(i:Nat): (r.getD i V0).str=⟨#[]⟩:=by
 rcases Nat.lt_or_ge i r.length with hi|hi
 .rw[List.getD,List.getElem?_eq_getElem hi];exact h _ (List.getElem_mem hi)
 rw[List.getD,List.getElem?_eq_none hi];rfl
theorem Qyg(w:World): Ret Tryz.prog 145 [.string ⟨#[]⟩,.string ⟨#[]⟩] w λu w'=>u=.int .i64 0/\w'=w:=by
 refine Jz Tryz.func145 Tryz.ntmps145 rfl kr rfl ?_;refine ρ ?_;refine Jl (fun (i:Nat)=>[(0,.string ⟨#[]⟩),(1,.string ⟨#[]⟩),(5,.int .i64 0)]) (λi w'=>w'=w) (λi=>i) 0 sB rfl ?_;rintro i w1 rfl;refine ρ ?_;exact Jq ⟨rfl,rfl⟩
theorem Qpn(ha:a.str=⟨#[]⟩)(hb:b.str=⟨#[]⟩): cmpV a b=if a.kind≠b.kind then(if a.kind<b.kind then -1 else 1) else if a.num≠b.num then(if a.num<b.num then -1 else 1) else 0:=by
 have y:a.bytes=[]:=by unfold V.bytes;rw[ha]
 have u:b.bytes=[]:=by unfold V.bytes;rw[hb]
 unfold cmpV sgn;rw[y,u];have:Lib.compareBytes [] []=0:=rfl;rw[this];grind
theorem Jln(ha:a.str=⟨#[]⟩)(hb:b.str=⟨#[]⟩)(w:World): Ret Tryz.prog 116 [.agg a.cells.toArray,.agg b.cells.toArray] w λu w'=>u=.int .i64 (cmpV a b)/\Ext w w':=by
 refine Jz Tryz.func116 Tryz.ntmps116 rfl kr rfl ?_;refine ρ ?_;refine bx (cs:=a.cells) ?_;intro w1 b1 U a2 y;refine ρ ?_;refine bx (cs:=b.cells) ?_;intro w2 b2 J a1 D;have y:=y.ext J;have O:=U.trans J;have F:=Qpn ha hb;refine ρ ?_;refine ld (y.at (i:=0) rfl) ?_;refine ρ ?_;refine ld (D.at (i:=0) rfl) ?_;refine ρ ?_;refine ci (λh=>?_) (λh=>?_)
 .have G:a.kind≠b.kind:=by simpa using h
  rw[if_pos G]at F;refine ρ ?_;refine ld (y.at (i:=0) rfl) ?_;refine ρ ?_;refine ld (D.at (i:=0) rfl) ?_;refine ρ ?_;refine ci (λh=>?_) (λh=>?_)
  .have:=oT h;refine ρ ?_;exact Jq ⟨by rw[F,if_pos this],O⟩
  have:=oF h;refine ρ ?_;exact Jq ⟨by rw[F,if_neg this],O⟩
 have he:¬ a.kind≠b.kind:=by simpa using h
 rw[if_neg he]at F;refine ρ ?_;refine ld (y.at (i:=1) rfl) ?_;refine ρ ?_;refine ld (D.at (i:=1) rfl) ?_;refine ρ ?_;refine ci (λh=>?_) (λh=>?_)
 .have G:a.num≠b.num:=by simpa using h
  rw[if_pos G]at F;refine ρ ?_;refine ld (y.at (i:=1) rfl) ?_;refine ρ ?_;refine ld (D.at (i:=1) rfl) ?_;refine ρ ?_;refine ci (λh=>?_) (λh=>?_)
  .have:=oT h;refine ρ ?_;exact Jq ⟨by rw[F,if_pos this],O⟩
  have:=oF h;refine ρ ?_;exact Jq ⟨by rw[F,if_neg this],O⟩
 have Z:¬ a.num≠b.num:=by simpa using h
 rw[if_neg Z]at F;refine ρ ?_;refine ld (v:=.string ⟨#[]⟩) (y.at (i:=2) (by rw[<-ha];rfl)) ?_;refine ρ ?_;refine ld (v:=.string ⟨#[]⟩) (D.at (i:=2) (by rw[<-hb];rfl)) ?_;refine ρ ?_;refine cl (Qyg w2) ?_;rintro x w3 ⟨rfl,rfl⟩;refine ρ ?_;exact Jq ⟨by rw[F],O⟩
theorem Jlm{a b:Row}(ha:RowV w va a)(hb:RowV w vb b)(hna:NoS a)(hnb:NoS b): Ret Tryz.prog 70 [va,vb] w λu w'=>u=.int .i64 (Jk a b [])/\Ext w w':=by
 obtain⟨A,ac,rfl,aa,a9,ha⟩:=ha;obtain⟨B,bc,rfl,a8,a7,hb⟩:=hb;refine Jz Tryz.func70 Tryz.ntmps70 rfl kr rfl ?_;refine ρ ?_;refine Jl (fun (k:Nat)=>[(0,.slice A a.length ac),(1,.slice B b.length bc),(5,.int .i64 (k:Int))])
  (λk w'=>Ext w w'/\k<=a.length/\k<=b.length/\Jk a b []=Jk (a.drop k) (b.drop k) []) (λk=>a.length-k) 0 sB ⟨Ext.refl w,Nat.zero_le _,Nat.zero_le _,rfl⟩ ?_
 rintro k w1 ⟨G,a3,a2,he⟩;have a6:=ha.ext G;have a5:=hb.ext G;have out:(a.length<=k∨b.length<=k)->Jk a b []=if a.length<b.length then -1 else if b.length<a.length then 1 else 0:=λh=>by
  have:=Jtf (ds:=[]) h a3 a2;rw[List.drop_nil,<-he]at this;exact this
 refine ρ ?_;refine Jjn (fun (t:Bool)=>[(0,.slice A a.length ac),(1,.slice B b.length bc),(5,.int .i64 (k:Int)),(16,.bool t)])
  (λt w2=>w2=w1/\t=decide (k<a.length/\k<b.length)) ?_ ?_
 .refine ki 11 (λh=>?_) (λh=>?_)
  .have:=oT h;refine ρ ?_;exact Ja (decide ((k:Int)<(b.length:Int))) sB ⟨rfl,by grind⟩
  have:=oF h;refine ρ ?_;exact Ja false sB ⟨rfl,by grind⟩
 rintro t w2 ⟨rfl,rfl⟩;refine ρ ?_;refine ci (λh=>?_) (λh=>?_)
 .obtain⟨F,D⟩:=oT h;refine ρ ?_;refine dr [(0,0),(0,1),(0,2),(0,3),(0,4),(0,5),(0,6),(0,7),(1,8),(0,9)] kr ?_;have y:Ext w2 w2.drew:=(Ext.refl w2).drew;have Z:=a6.ext y;have U:=a5.ext y;refine ρd ?_;refine Qp 3 k Z F ?_;refine ρd ?_;refine Qj (cs:=(a.getD k V0).cells) (λj u hu=>RdR.cell Z F hu) ?_;refine ρd ?_;refine Qp 3 k U D ?_;refine ρd ?_;refine Qj (cs:=(b.getD k V0).cells) (λj u hu=>RdR.cell U D hu) ?_;refine ρd ?_;refine dcl (Jln (hna.at k) (hnb.at k) _) ?_;rintro x w3 ⟨rfl,O⟩;refine⟨O,?_⟩;have J:Ext w w3:=(G.trans y).trans O;refine ρd ?_;refine ρ ?_;have step:=Jtj (ds:=[]) F D;rw[List.drop_nil,List.drop_nil,<-he]at step;refine ci (λh=>?_) (λh=>?_)
  .have a1:cmpV (a.getD k V0) (b.getD k V0)≠0:=by simpa using h
   rw[if_neg a1]at step;refine ρ ?_;exact Jq ⟨by rw[step],J⟩
  have a4:cmpV (a.getD k V0) (b.getD k V0)=0:=by simpa using h
  rw[if_pos a4]at step;refine ρ ?_;exact Jg (k+1) sO ⟨J,om,om,step⟩ om
 have Xc:a.length<=k∨b.length<=k:=by have:=oF h;omega
 have e:=out Xc;refine ρ ?_;refine ci (λh1=>?_) (λh1=>?_)
 .have h1:=oT h1;refine ρ ?_;exact Jq ⟨by rw[e,if_pos om],G⟩
 have h1:=oF h1;rw[if_neg om]at e;refine ρ ?_;refine ci (λh2=>?_) (λh2=>?_)
 .have h2:=oT h2;refine ρ ?_;exact Jq ⟨by rw[e,if_pos om],G⟩
 have h2:=oF h2;refine ρ ?_;exact Jq ⟨by rw[e,if_neg om],G⟩
theorem Jkn{ps:List Pr}{i:Nat}: (ps.map (·.2)).getD i []=(ps.getD i z0).2:=by
 simp only[List.getD,List.getElem?_map];cases ps[i]?<;>rfl
theorem Qyc(hl:RowsV w va l)(hm:RowsV w vb m)(hnl:∀ r∈l,NoS r)(hnm:∀ r∈m,NoS r): Ret Tryz.prog 41 [va,vb] w λu w'=>u=.bool (decide (l=m))/\Ext w w':=by
 obtain⟨ps,A,ac,rfl,rfl,a8,a7,ha,a2⟩:=hl;obtain⟨D,B,bc,rfl,rfl,a6,a5,hb,a1⟩:=hm;refine Jz Tryz.func41 Tryz.ntmps41 rfl kr rfl ?_;refine ρ ?_;refine ci (λh=>?_) (λh=>?_)
 .have J:ps.length≠D.length:=by
   intro e;rw[e]at h;simp at h
  refine ρ ?_;exact Jq ⟨by rw[decide_eq_false λe=>J (by have:=congrArg List.length e;simpa using this)],Ext.refl _⟩
 have O:ps.length=D.length:=by
  have:=h;simp at this;omega
 refine ρ ?_;refine Jl (fun (k:Nat)=>[(0,.slice A ps.length ac),(1,.slice B D.length bc),(5,.int .i64 (k:Int))])
  (λk w'=>Ext w w'/\k<=ps.length/\∀ j,j<k->(ps.getD j z0).2=(D.getD j z0).2) (λk=>ps.length-k) 0 sB ⟨Ext.refl w,Nat.zero_le _,λj U=>absurd U (Nat.not_lt_zero _)⟩ ?_
 rintro k w1 ⟨hx,hk,he⟩;refine ρ ?_;refine ci (λh=>?_) (λh=>?_)
 .have lk:k<ps.length:=by have:=oT h;omega
  have F:k<D.length:=om
  refine ρ ?_;refine dr [(0,0),(0,1),(0,2),(0,3),(0,4),(0,5),(0,6),(0,7),(1,8),(0,9)] kr ?_;have Z:Ext w1 w1.drew:=(Ext.refl w1).drew;have y:=hx.trans Z;refine ρd ?_;refine dix k (ha.ext y) lk ?_;refine ρd ?_;refine dld ((ha.ext y).cell (Uh lk)) ?_;refine ρd ?_;refine dix k (hb.ext y) F ?_;refine ρd ?_;refine dld ((hb.ext y).cell (Uh F)) ?_;refine ρd ?_;have m1:=getD_mem' z0 ps lk;have m2:=getD_mem' z0 D F;refine dcl (Jlm ((a2 _ m1).ext y) ((a1 _ m2).ext y) (hnl _ (List.mem_map.2 ⟨_,m1,rfl⟩)) (hnm _ (List.mem_map.2 ⟨_,m2,rfl⟩))) ?_;rintro x w2 ⟨rfl,G⟩;refine⟨G,?_⟩;refine ρd ?_;refine ρ ?_;refine ci (λh=>?_) (λh=>?_)
  .have J:Jk (ps.getD k z0).2 (D.getD k z0).2 []≠0:=by simpa using h
   refine ρ ?_;exact Jq ⟨by rw[decide_eq_false λe=>J (by rw[<-Jkn,<-Jkn,e];exact Yj _ _)],y.trans G⟩
  have a4:Jk (ps.getD k z0).2 (D.getD k z0).2 []=0:=by simpa using h
  refine ρ ?_;exact Jg (k+1) sO ⟨y.trans G,om,λj U=>by
   rcases Nat.lt_or_ge j k with h|h
   .exact he j h
   have:j=k:=om
   subst this;exact Jjj _ _ _ a4⟩ om
 have a3:k=ps.length:=by have:=oF h;omega
 subst a3;refine ρ ?_;refine Jq ⟨?_,hx⟩;rw[decide_eq_true];refine List.ext_getElem (by simpa using O) λj h1 h2=>?_;have U:j<ps.length:=by simpa using h1
 have:=he j U;rw[<-Jkn,<-Jkn,List.getD,List.getElem?_eq_getElem h1,List.getD,List.getElem?_eq_getElem h2]at this;exact this
theorem Qph(l:List Row)(y r:Row): cnt [] (l++[y]) r=cnt [] l r+if Jk y r []<0 then 1 else 0:=by
 unfold cnt;rw[List.filter_append,List.length_append];by_cases h:Jk y r []<0<;>simp[h]
theorem Qyb(hl:RowsV w va l)(hx:RowV w vb x)(hnl:∀ r∈l,NoS r)(hnx:NoS x): Ret Tryz.prog 110 [va,vb] w λu w'=>u=.tuple #[.int .i64 (cnt [] l x:Int),.bool (decide (x∈l))]/\Ext w w':=by
 obtain⟨ps,A,ac,rfl,rfl,a6,a5,ha,a1⟩:=hl;obtain⟨B,bc,rfl,_⟩:=id hx;refine Jz Tryz.func110 Tryz.ntmps110 rfl kr rfl ?_;refine ρ ?_;refine Jl (fun (k:Nat)=>[(0,.slice A ps.length ac),(1,.slice B x.length bc),(6,.int .i64 (cnt [] ((ps.map (·.2)).take k) x:Int)),(7,.bool (decide (x∈(ps.map (·.2)).take k))),(8,.int .i64 (k:Int))])
  (λk w'=>Ext w w'/\k<=ps.length) (λk=>ps.length-k) 0 sB ⟨Ext.refl w,Nat.zero_le _⟩ ?_
 rintro k w1 ⟨y,hk⟩;refine ρ ?_;refine ci (λh=>?_) (λh=>?_)
 .have lk:k<ps.length:=by have:=oT h;omega
  refine ρ ?_;refine ix k (ha.ext y) lk ?_;refine ρ ?_;refine ld ((ha.ext y).cell (Uh lk)) ?_;refine ρ ?_;have m1:=getD_mem' z0 ps lk;refine cl (Jlm ((a1 _ m1).ext y) (hx.ext y) (hnl _ (List.mem_map.2 ⟨_,m1,rfl⟩)) hnx) ?_;rintro x' w2 ⟨rfl,O⟩;have G:(ps.map (·.2)).take (k+1)=(ps.map (·.2)).take k++[(ps.getD k z0).2]:=by
   rw[List.take_add_one,List.getElem?_map,List.getElem?_eq_getElem lk];simp[List.getD,List.getElem?_eq_getElem lk]
  have D:=Qph ((ps.map (·.2)).take k) (ps.getD k z0).2 x
  rw[<-G]at D;have a4:=cnt_le [] ((ps.map (·.2)).take k) x
  have a3:((ps.map (·.2)).take k).length<=1100000:=by simp;omega
  refine ρ ?_;refine ci (λh=>?_) (λh=>?_)
  .have Z:=oT h;rw[if_pos Z]at D;have J:¬ x=(ps.getD k z0).2:=λe=>by rw[<-e,Yj]at Z;omega
   have F:decide (x∈(ps.map (·.2)).take (k+1))=decide (x∈(ps.map (·.2)).take k):=by rw[G];exact decide_eq_decide.2 (by rw[List.mem_append,List.mem_singleton];exact⟨λh=>h.resolve_right J,.inl⟩)
   refine ρ ?_;refine cf ?_ ?_
   .have:Jk (ps.getD k z0).2 x []≠0:=om
    simpa using this
   refine ρ ?_;refine Jg (k+1) ?_ ⟨y.trans O,om⟩ om;rw[F,D];exact sO
  have U:=oF h;rw[if_neg U]at D;refine ρ ?_;refine ci (λh=>?_) (λh=>?_)
  .have e0:Jk (ps.getD k z0).2 x []=0:=by simpa using h
   have F:decide (x∈(ps.map (·.2)).take (k+1))=true:=by rw[G,<-Jjj _ _ _ e0];simp
   refine ρ ?_;refine Jg (k+1) ?_ ⟨y.trans O,om⟩ om;rw[F,D];exact sO
  have e0:¬ Jk (ps.getD k z0).2 x []=0:=by simpa using h
  have J:¬ x=(ps.getD k z0).2:=λe=>by rw[<-e,Yj]at e0;omega
  have F:decide (x∈(ps.map (·.2)).take (k+1))=decide (x∈(ps.map (·.2)).take k):=by rw[G];exact decide_eq_decide.2 (by rw[List.mem_append,List.mem_singleton];exact⟨λh=>h.resolve_right J,.inl⟩)
  refine ρ ?_;refine Jg (k+1) ?_ ⟨y.trans O,om⟩ om;rw[F,D];exact sO
 have a2:k=ps.length:=by have:=oF h;omega
 subst a2;refine ρ ?_;refine Qu ⟨?_,y⟩;rw[show ps.length=(ps.map (·.2)).length by simp,List.take_length]
theorem RfC.one{cs:List Value}(h:RfC N w cs r): ∀ u∈cs,u.oneCell'=true:=by
 obtain⟨v,rfl,A,c,rfl,_⟩:=h;intro u y;rw[List.mem_singleton.1 y];rfl
theorem Jbz(h:GX 1 RfC N w v ls): RowsV w v ls:=by
 obtain⟨⟨ps,A,c,e,e1,e2,e3,hr,F⟩,hn⟩:=h;have J:∀ D:List (List Value×Row),(∀ p∈D,p.1.length=1/\RfC N w p.1 p.2)->∃ y:List Pr,D.map (·.2)=y.map (·.2)/\y.length=D.length/\Jd D=y.map (·.1)/\∀ p∈y,RowV w p.1 p.2:=λD=>by
  induction D with
  | nil=>exactλ_=>⟨[],rfl,rfl,rfl,λp h=>by cases h⟩
  | cons q D ih=>
   intro h;obtain⟨y,Z,G,U,O⟩:=ih λp F=>h p (List.mem_cons_of_mem _ F);obtain⟨_,u,eu,hu⟩:=h q (mC ..);refine⟨(u,q.2)::y,by simp[Z],by simp[G],?_,λp F=>?_⟩
   .show q.1++Jd D=_;rw[eu,U];rfl
   rcases List.mem_cons.1 F with rfl|F
   .exact hu.v
   exact O p F
 obtain⟨y,Z,G,U,O⟩:=J ps F;exact⟨y,A,c,by rw[e,Z],by rw[G];exact e1,om,om,by rw[G,<-U];exact hr,O⟩
theorem Qyf(hN:∀ k,N k->k<w.heap.size)(hl:GX 1 RfC N w va l)(hx:RowX w N vb x)(hnl:∀ r∈l,NoS r)(hnx:NoS x)(hlen:l.length<=1000000): Ret Tryz.prog 64 [va,vb] w λu w'=>GX 1 RfC N w' u (Iy [] l x)/\Ext w w':=by
 obtain⟨A,c,_,rfl,hc,hm,hR,_⟩:=id hl.el;obtain⟨B,bc,rfl,_⟩:=id hx;refine Jz Tryz.func64 Tryz.ntmps64 rfl kr rfl ?_;refine ρ ?_;refine cl (Qyb (Jbz hl) hx.v hnl hnx) ?_;rintro u w1 ⟨rfl,D⟩;have a7:=cnt_le [] l x;generalize hi:cnt [] l x=i at *
 refine ρ ?_;refine ci (λh=>?_) (λh=>?_)
 .have J:=oT h;refine ρ ?_;exact Jq ⟨by unfold Iy;rw[if_pos J];exact hl.ext RfC.sta (by decide) D,D⟩
 have J:=oF h;have a3:=(hl.old RfC.sta (N':=λk=>N k∨w.heap.size<=k) (by decide) λk F=>F).ext RfC.sta (by decide) D;have a8:=(hx.oldN (N':=λk=>N k∨w.heap.size<=k) λk F=>F).grN (GrN.ext D);have c1:=a3.cut (k:=0) (m:=i) (by decide) (Nat.zero_le _) a7;have c2:=a3.cut (k:=i) (m:=l.length) (by decide) a7 (nR _);rw[cut0,Nat.sub_zero,Nat.sub_zero,List.drop_zero]at c1;rw[List.take_of_length_le (by simp)]at c2;have z1:=D.size;refine ρ ?_;refine slh i ?_;refine ρ ?_;refine Jxn (base:=w.heap.size) Jxs RfC.sta (N:=λk=>N k∨w.heap.size<=k) (OX.nil _ _) c1 (λcs a h=>h.one) (λk F=>.inl F) (λg hg=>by cases hg) (by simp) (by decide) z1 ?_;intro v2 w2 G ae _;rw[List.nil_append]at G;have aa:Ext w1 w2:=Jh (Ext.refl w1) ae λk e=>by cases e
 refine ρ ?_;refine bsl (Jtv _ _ _) ?_;intro w3 b3 Z aj ah;obtain⟨_,_,_,_,O⟩:=id G.form;have ac:=G.ext RfC.sta Z;have y:=aa.trans Z;refine ρ ?_;refine apX Jxs RfC.sta ac ah rfl (λu hu=>by rw[List.mem_singleton.1 hu];rfl) ⟨_,rfl,a8.grN (GrN.ext y)⟩ (λg hg=>.inr (O g hg).1) (by simp;omega) (by decide) (nL z1 y.size) ?_;intro v4 w4 a2 a4 ai;have U:Ext w w4:=Jh (D.trans y) a4 λq e=>(O q e).1;have a5:GrN (λk=>N k∨w.heap.size<=k) w1 w4:=(GrN.ext y).trans (GrN.by a4 λk e=>.inr (O k e).1);obtain⟨_,_,_,_,a6⟩:=id a2.form;refine ρ ?_;refine sll i ?_;refine ρ ?_;refine Jxn Jxs RfC.sta a2 (c2.gr RfC.sta (by decide) a5) (λcs a h=>h.one) (λk F=>.inl F) (λg hg=>.inr (a6 g hg).1) (by simp;omega) (by decide) U.size ?_;intro v5 w5 a1 ad _;have a9:Ext w w5:=Jh U ad λq e=>(a6 q e).1;have e0:Iy [] l x=l.take i++[x]++l.drop i:=by
  unfold Iy;rw[if_neg J,hi];simp
 obtain⟨_,_,_,_,af⟩:=id a1.form;refine ρ ?_;refine Jq ⟨?_,a9⟩;rw[e0];exact a1.gx RfC.sta (by simp;omega) λk F=>⟨.inl F,λe=>by have:=(af k e).1;have:=hN k F;omega⟩
end Go.Proofs.YtebiphhfkdbpfaaGreat
namespace Go.Wk
open Go.RowKit
variable {α:Type}{w:World}
theorem Jcb{sz:Nat}{Φ:(Nat->Prop)->World->List Value->α->Prop}{N:Nat->Prop}: GX sz Φ N w (.slice none 0 0) [] :=
 ⟨⟨[],none,0,rfl,rfl,Nat.le_refl _,Nat.zero_le _,Rd.nil,λp u=>by cases u⟩,λh=>absurd rfl h⟩
theorem Jqv{sz:Nat}{Φ:(Nat->Prop)->World->List Value->α->Prop}{A:Option Addr}{c:Nat}{ps:List (List Value×α)}(hR:Rd w sz A ps.length (Jd ps))(hc:ps.length<=c)(hm:ps.length<=1100000)(hp:∀ p∈ps,p.1.length=sz/\Φ (λ_=>False) w p.1 p.2): GX sz Φ (λ_=>False) w (.slice A ps.length c) (ps.map (·.2)) :=
 ⟨⟨ps,A,c,rfl,rfl,hc,hm,hR,hp⟩,λ_ _ _ _ _ h=>h⟩
end Go.Wk
namespace Go.Proofs.YtebiphhfkdbpfaaGreat
open Go.RowKit Pl Go.Wk Bl
attribute [local irreducible] WC WL QX WD WDB WP WN WG WH
variable {cols cs:List Nat}{ls m ms rs:List Row}{v va vc:Value}{w w' w0:World}
theorem Jyd(h:IsSet [] ls m): m.length<=ls.length:=Ia (Jbp h.1) λx u=>(h.2 x).1 u
theorem NoS.pm{r:Row}(h:NoS r)(cs:List Nat): NoS (pmR cs r):=λx u=>by
 obtain⟨c,_,rfl⟩:=List.mem_map.1 u;exact h.at c
theorem Qyd(hl:RowsV w va ls)(hc:IntsV w vc (nz cols))(hlt:∀ r∈ls,∀ c∈cols,c<r.length)(hn:∀ r∈ls,NoS r)(hcl:cols.length<=1000)(hll:ls.length<=1000000): Ret Tryz.prog 33 [va,vc] w λu w'=>∃ m,GX 1 RfC (Ol w) w' u m/\IsSet [] (ls.map (pmR cols)) m/\Ext w w':=by
 obtain⟨ps,A,ac,rfl,rfl,be,bd,ha,ar⟩:=hl;obtain⟨C,cc,rfl,bb,ba,hC⟩:=hc;have af:=Jo cols;rw[af]at hC;rw[List.length_map]at hll;refine Jz Tryz.func33 Tryz.ntmps33 rfl kr rfl ?_;refine ρ ?_;rw[af];refine Qz (fun (k:Nat) (vo:Value)=>[(0,.slice A ps.length ac),(1,.slice C cols.length cc),(5,vo),(6,.int .i64 (k:Int))])
  (λk vo w'=>k<=ps.length/\Ext w w'/\∃ m,GX 1 RfC (Ol w) w' vo m/\IsSet [] (((ps.map (·.2)).map (pmR cols)).take k) m) (λk _=>ps.length-k) 0 (.slice none 0 0) sB
  ⟨Nat.zero_le _,Ext.refl _,[],Jcb,List.Pairwise.nil,λx=>by simp⟩ ?_
 rintro k vo w1 ⟨hk,D,m,hm,F⟩;refine ρ ?_;refine ci (λh=>?_) (λh=>?_)
 .have lk:k<ps.length:=by have:=oT h;omega
  clear h;have m1:=getD_mem' z0 ps lk;have a2:(ps.getD k z0).2∈ps.map (·.2):=List.mem_map.2 ⟨_,m1,rfl⟩
  have ae:=ar _ m1;have aq:=hlt _ a2;have ap:=hn _ a2;obtain⟨R,rc,eR,b7,b6,hR⟩:=id ae;generalize hr:(ps.getD k z0).2=r at *
  refine ρ ?_;refine Qz (fun (j:Nat) (vx:Value)=>[(0,.slice A ps.length ac),(1,.slice C cols.length cc),(5,vo),(6,.int .i64 (k:Int)),(7,vx),(8,.int .i64 (j:Int))])
   (λj vx w'=>j<=cols.length/\Ext w1 w'/\OwnF w' w1.heap.size vx ((cols.take j).map λc=>r.getD c V0)) (λj _=>cols.length-j) 0 (.slice none 0 0) sB
   ⟨Nat.zero_le _,Ext.refl _,Xq _ _ _ _⟩ ?_
  rintro j vx w2 ⟨hj,a1,ho⟩;refine ρ ?_;refine ci (λh=>?_) (λh=>?_)
  .have lj:j<cols.length:=by have:=oT h;omega
   clear h;have aj:cols.getD j 0<r.length:=aq _ (getD_mem' 0 _ lj);obtain⟨own,Z⟩:∃ own,own=vx.ownBlock:=⟨_,rfl⟩;have ah:∀ j,own=some j->w1.heap.size<=j:=λj ej=>by
    obtain⟨_,_,_,_,hf⟩:=Jy ho;exact(hf j (by rw[<-Z];exact ej)).1
   have b5:((cols.take j).map λc=>r.getD c V0).length=j:=by simp;omega
   refine ρ ?_;refine drN (one own) 20 [(0,0),(0,1),(0,2),(0,3),(0,4),(0,5),(0,6),(0,7),(0,8),(0,9),(0,10),(1,11),(1,12),(0,13)] kr ?_;have aa:Ext w2 w2.drew:=(Ext.refl w2).drew;have a4:=a1.trans aa;have a5:=D.trans a4;have av:=Jc ho aa;have O:∀ {g:Nat},g<w1.heap.size->¬ one own g:=λhg e=>by have:=ah _ e;omega
   have ak:=ha.ext a5;have an:=hC.ext a5;have am:Rd w2.drew 3 R r.length (Jr r):=Rd.ext hR a5;have a9:∀ G,A=some G->G.block<w1.heap.size:=λG ea=>by
    obtain⟨ao,J,hb⟩:=ha.isome om (by decide);rw[ea]at J;injection J with J;subst J;have:=D.size;omega
   have a8:∀ G,C=some G->G.block<w1.heap.size:=λG ea=>by
    obtain⟨ao,J,hb⟩:=hC.isome om (by decide);rw[ea]at J;injection J with J;subst J;have:=D.size;omega
   have a7:∀ G,R=some G->G.block<w1.heap.size:=λG ea=>by
    obtain⟨ao,J,hb⟩:=Rd.isome hR om (by decide);rw[ea]at J;injection J with J;subst J;have:=D.size;omega
   refine ρn ?_;refine nix k ak lk ?_;refine ρn ?_;refine nld (v:=.slice R r.length rc) (λw' hg=>((Zt ak hg λh0 G e=>O (a9 G e)).cell (Uh lk)).trans (by rw[eR])) ?_;refine ρn ?_;refine nix j an lj ?_;refine ρn ?_;refine nld (λw' hg=>(Zt an hg λh0 G e=>O (a8 G e)).cell (Qh lj)) ?_;refine ρn ?_;refine Vt 3 (cols.getD j 0) am aj ?_;refine ρn ?_;refine Yy (cs:=(r.getD (cols.getD j 0) V0).cells) (λw' hg j u hu=>RdR.cell (Zt am hg λh0 G e=>O (a7 G e)) aj hu) ?_;refine ρn ?_;refine nop ?_;refine bsl (Jdk _) ?_;intro w3 b3 U bc b4;refine ρ ?_;refine Qn (GrN.ext U) ?_;refine nop ?_;have a3:=a4.trans U;refine apb (m':=1) (news:=(r.getD (cols.getD j 0) V0).cells) ERf (Jc av U) (b4.rd (n:=1) rfl) (V.one _) (by unfold maxLen;omega) om a3.size ?_;intro v4 w4 aw ai b9;refine ρ ?_;refine Qn (GrN.by ai λj ej=>by rw[<-Z]at ej;exact ej) ?_;refine ρn ?_;refine ρ ?_;have a6:((cols.take (j+1)).map λc=>r.getD c V0)=((cols.take j).map λc=>r.getD c V0)++[r.getD (cols.getD j 0) V0]:=by rw[Xw 0 lj,List.map_append];rfl
   refine Jt (j+1) v4 sO ⟨lj,Jh a3 ai λq e=>ah q (by rw[Z];exact e),?_⟩ om;rw[OwnF,a6,List.length_append,Jqc,Jqb];exact aw
  have b2:j=cols.length:=by have:=oF h;omega
  subst b2;rw[List.take_length]at ho;have b8:(pmR cols r).length=cols.length:=by simp[pmR]
  have au:RowX w2 (Ol w) vx (pmR cols r):=(OwnF.x ho (by simp;omega)).oldN λq hq=>.inl (nM hq D.size);have ax:=Jyd F;rw[List.length_take]at ax;have a6:((ps.map (·.2)).map (pmR cols)).take (k+1)=((ps.map (·.2)).map (pmR cols)).take k++[pmR cols r]:=by
   rw[List.take_add_one,List.getElem?_map,List.getElem?_map,List.getElem?_eq_getElem lk,<-hr];simp[List.getD,List.getElem?_eq_getElem lk]
  refine ρ ?_;refine cl (Qyf (N:=Ol w) (λq hq=>nM hq (D.trans a1).size) (hm.ext RfC.sta (by decide) a1) au (λy hy=>?_) (ap.pm cols) om) ?_
  .have h1:=(F.2 y).1 hy;obtain⟨z,hz,rfl⟩:=List.mem_map.1 (List.mem_of_mem_take h1);exact(hn z hz).pm cols
  rintro u w3 ⟨hu,U⟩;refine ρ ?_;exact Jt (k+1) u sO ⟨lk,(D.trans a1).trans U,_,hu,by rw[a6];exact Qbb F⟩ om
 have ay:k=ps.length:=by have:=oF h;omega
 subst ay;refine ρ ?_;refine Jq ⟨m,hm,?_,D⟩;rw[List.take_of_length_le (by simp)]at F;exact F
theorem oneT{A B:Option Addr}{n c m d:Nat}: ∀ u∈[Value.slice A n c,.slice B m d],u.oneCell'=true:=λu y=>by
 simp only[List.mem_cons,List.not_mem_nil,or_false]at y;rcases y with rfl|rfl<;>rfl
theorem Qcv(ho:Qb w' w.heap.size v cs): ∀ g,v.ownBlock=some g->w.heap.size<=g/\g<w'.heap.size:=λg y=>by
 obtain⟨_,_,_,_,u⟩:=Jy ho;exact u g y
theorem Jmr{base:Nat}(h:Qb w base v cs)(hm:cs.length<=1100000): IntsV w v (nz cs):=by
 obtain⟨A,c,e,u,_⟩:=Jy h;subst e;exact⟨A,c,by rw[Jo],by rw[Jo];exact u,by rw[Jo];exact hm,by rw[Jo];exact Rd.own h⟩
theorem Jms(h:Qb w w0.heap.size v cs)(hm:cs.length<=1100000): Off (Ol w0) w λx=>IntsV x v (nz cs):=λw2 y=>
 Jmr (Qk h y λg D u=>by have:=(Qcv h g D).1;exact absurd (show g<w0.heap.size from u) om) hm
theorem Qln{N:Nat->Prop}(h:GX 1 RfC N w v ls): Off N w λx=>RowsV x v ls:=λw2 u=>Jbz (h.gr RfC.sta (by decide) u)
theorem Jll{v1 v2 u1 u2:Value}{vs us:List Int}(hv1:IntsV w v1 vs)(hv2:RowsV w v2 rs)(hu1:IntsV w u1 us)(hu2:RowsV w u2 ms)(hnr:∀ r∈rs,NoS r)(hnm:∀ r∈ms,NoS r):
  Ret Tryz.prog 20 [.agg #[v1,v2],.agg #[u1,u2]] w λu w'=>u=.bool (decide (vs=us/\rs=ms))/\Ext w w':=by
 obtain⟨D,d,e1,hd,an,aj⟩:=id hv1;obtain⟨E,e,e3,he,am,ah⟩:=id hu1;obtain⟨ps,G,gc,_,e2,_⟩:=id hv2;obtain⟨qs,F,fc,_,e4,_⟩:=id hu2;subst e1;subst e2;subst e3;subst e4;refine Jz Tryz.func20 Tryz.ntmps20 rfl kr rfl ?_;refine ρ ?_;refine bx (cs:=[.slice D vs.length d,.slice G ps.length gc]) ?_;intro w1 b1 ae ap ak;refine ρ ?_;refine bx (cs:=[.slice E us.length e,.slice F qs.length fc]) ?_;intro w2 b2 a5 ao ac;have a2:=ak.ext a5;have Z:=ae.trans a5;refine ρ ?_;refine ld (a2.at (i:=0) rfl) ?_;refine ρ ?_;refine ld (ac.at (i:=0) rfl) ?_;refine ρ ?_;refine ci (λh=>?_) (λh=>?_)
 .have a3:¬ vs=us:=λe=>by rw[e]at h;simp at h
  refine ρ ?_;exact Jq ⟨by rw[decide_eq_false λe=>a3 e.1],Z⟩
 have a7:vs.length=us.length:=by simp at h;omega
 refine ρ ?_;refine Jl (fun (k:Nat)=>[(2,.pointer (some ⟨b1,0,none⟩)),(3,.pointer (some ⟨b2,0,none⟩)),(5,.int .i64 (k:Int))])
  (λk w'=>Ext w2 w'/\k<=vs.length/\∀ j,j<k->vs.getD j 0=us.getD j 0) (λk=>vs.length-k) 0 sB ⟨Ext.refl _,Nat.zero_le _,λj hj=>absurd hj (Nat.not_lt_zero _)⟩ ?_
 rintro k w3 ⟨U,hk,a8⟩;have O:=a2.ext U;have a1:=ac.ext U;have y:=Z.trans U;refine ρ ?_;refine ld (O.at (i:=0) rfl) ?_;refine ρ ?_;refine ci (λh=>?_) (λh=>?_)
 .have lk:k<vs.length:=by have:=oT h;omega
  have a4:k<us.length:=om
  refine ρ ?_;refine dr [(0,0),(0,1),(0,2),(0,3),(0,4),(0,5),(0,6),(0,7),(0,8),(0,9),(0,10)] kr ?_;have J:Ext w3 w3.drew:=(Ext.refl w3).drew;have aa:=aj.ext (y.trans J);have a9:=ah.ext (y.trans J);refine ρd ?_;refine dld ((O.ext J).at (i:=0) rfl) ?_;refine ρd ?_;refine dix k aa lk ?_;refine ρd ?_;refine dld (aa.cell (Ve lk)) ?_;refine ρd ?_;refine dld ((a1.ext J).at (i:=0) rfl) ?_;refine ρd ?_;refine dix k a9 a4 ?_;refine ρd ?_;refine dld (a9.cell (Ve a4)) ?_;refine ρd ?_;refine ρ ?_;refine ci (λh=>?_) (λh=>?_)
  .have a3:¬ vs=us:=λe=>by rw[e]at h;simp at h
   refine ρ ?_;exact Jq ⟨by rw[decide_eq_false λe=>a3 e.1],y.trans J⟩
  have ai:vs.getD k 0=us.getD k 0:=by simpa using h
  refine ρ ?_;exact Jg (k+1) sO ⟨U.trans J,om,λj hj=>by
   rcases Nat.lt_or_ge j k with h|h
   .exact a8 j h
   have:j=k:=om
   subst this;exact ai⟩ om
 have af:k=vs.length:=by have:=oF h;omega
 subst af;have a6:vs=us:=by
  refine List.ext_getElem a7 λj h1 h2=>?_;have:=a8 j h1;rw[List.getD,List.getElem?_eq_getElem h1,List.getD,List.getElem?_eq_getElem h2]at this;exact this
 refine ρ ?_;refine ld (O.at (i:=1) rfl) ?_;refine ρ ?_;refine ld (a1.at (i:=1) rfl) ?_;refine ρ ?_;refine cl (Qyc (hv2.ext y) (hu2.ext y) hnr hnm) ?_;rintro u w4 ⟨rfl,ad⟩;refine ρ ?_;exact Jq ⟨congrArg Value.bool (decide_eq_decide.2 ⟨λh=>⟨a6,h⟩,λh=>h.2⟩),y.trans ad⟩
open Go.RowKit Pl Go.Wk Bl
def raO(a:Atm): RA:=⟨a.vars,a.rows⟩
theorem mem_getD{l:List Int}{P:Int->Prop}(h:∀ k,k<l.length->P (l.getD k 0)): ∀ v∈l,P v:=by
 intro v u;obtain⟨i,hi,rfl⟩:=List.getElem_of_mem u;have:=h i hi;rw[List.getD,List.getElem?_eq_getElem hi]at this;exact this
open Go.RowKit Pl Go.Wk Bl Nw
variable {l m:List Row}{x:V}
theorem D4.noS(h:D4 x): x.str=⟨#[]⟩:=by
 unfold D4 at h;simp only[List.mem_cons,List.not_mem_nil,or_false]at h;rcases h with rfl|rfl|rfl|rfl<;>rfl
theorem D4.valid(h:D4 x): Xu x=true:=by
 unfold D4 at h;simp only[List.mem_cons,List.not_mem_nil,or_false]at h;rcases h with rfl|rfl|rfl|rfl<;>decide
theorem Qgn(i:Nat)(y:List Nat): ∀ x∈Xs i y,D4 x:=by
 intro x u;obtain⟨j,_,rfl⟩:=List.mem_map.1 u;have:y.getD j 0 % 4<4:=Nat.mod_lt _ (by decide);generalize y.getD j 0 % 4=z at *
 unfold D4;simp only[List.mem_cons,List.not_mem_nil,or_false];rcases(show z=0∨z=1∨z=2∨z=3 by omega) with rfl|rfl|rfl|rfl
 .exact .inl rfl
 .exact .inr (.inl rfl)
 .exact .inr (.inr (.inl rfl))
 exact .inr (.inr (.inr rfl))
structure MadeR(a:LA)(m:List Row): Prop where
 len:∀ r∈m,r.length=(lvs a).length
 d4:∀ r∈m,∀ x∈r,D4 x
 cnt:m.length<=12
 lt:Lt [] m
theorem Qvr{a:LA}(h:Rl a m)(hf:a.fits): MadeR a m:=by
 have D:∀ r∈m,∃ y∈a.rows,r=Xs (lvs a).length y:=λr u=>by
  obtain⟨y,F,e⟩:=List.mem_map.1 ((h.1.2 r).1 u);exact⟨y,F,e.symm⟩
 refine⟨λr u=>?_,λr u=>?_,?_,h.1.1⟩
 .obtain⟨y,_,rfl⟩:=D r u;exact Jqs _ _
 .obtain⟨y,_,rfl⟩:=D r u;exact Qgn _ _
 have:=Jyd h.1;rw[List.length_map]at this;have:=hf.2;omega
theorem MadeR.noS{a:LA}{m:List Row}(h:MadeR a m): ∀ r∈m,NoS r:=λr y x u=>(h.d4 r y x u).noS
theorem MadeR.valid{a:LA}{m:List Row}(h:MadeR a m): ∀ r∈m,r.all Xu=true:=λr y=>List.all_eq_true.2 λx u=>(h.d4 r y x u).valid
def all4: List (List Nat):=[[0,0,0,0],[0,1,0,0],[1,0,0,0],[1,1,0,0]]
def n01(i:Nat): V:=⟨1,(i:Int),⟨#[]⟩⟩
def L4: List Row:=[[n01 0,n01 0],[n01 0,n01 1],[n01 1,n01 0],[n01 1,n01 1]]
theorem Qsp: all4.map (Xs 2)=L4:=rfl
theorem Qqc: Lt [] L4:=by unfold Lt;decide +kernel
def exA(v:Nat): LA:=⟨v,all4,0⟩
theorem Jcn: lvs (exA 3)=[0,1]:=by decide +kernel
theorem Jcl: lvs (exA 6)=[1,2]:=by decide +kernel
theorem Jcm: lvs (exA 5)=[0,2]:=by decide +kernel
theorem Jck{v:Nat}(h:Rl (exA v) m)(hl:(lvs (exA v)).length=2): m=L4:=by
 have u:=h.1;rw[hl]at u;exact Yn u.1 Qqc λx=>(u.2 x).trans (by rw[<-Qsp];rfl)
def exV(i:Nat): List Nat:=[[0,1],[1,2],[0,2]].getD i []
def L8: List Row:=[[n01 0,n01 0,n01 0],[n01 0,n01 0,n01 1],[n01 0,n01 1,n01 0],[n01 0,n01 1,n01 1],[n01 1,n01 0,n01 0],[n01 1,n01 0,n01 1],[n01 1,n01 1,n01 0],[n01 1,n01 1,n01 1]]
theorem L8_lt: Lt [] L8:=by unfold Lt;decide +kernel
theorem Jsc{x:Row}(h:∃ z:Row,z.length=3/\x=pmR (bk 7 32) z/\Kp 3 exV (λ_=>L4) 7 z): x∈L8:=by
 have G:bk 7 32=[0,1,2]:=by decide +kernel
 obtain⟨z,F,rfl,D⟩:=h;match z,F with
 | [a,b,c],_=>
  rw[G];have e:pmR [0,1,2] [a,b,c]=[a,b,c]:=rfl;rw[e];obtain⟨r,u,h0⟩:=D 0 (by decide);obtain⟨q,y,J⟩:=D 1 (by decide);have Z:r.getD 0 V0=a:=h0 0 (by decide) (by decide);have U:r.getD 1 V0=b:=h0 1 (by decide) (by decide);have O:q.getD 1 V0=c:=J 1 (by decide) (by decide);unfold L4 at u y;simp only[List.mem_cons,List.not_mem_nil,or_false]at u y;rcases u with rfl|rfl|rfl|rfl<;>rcases y with rfl|rfl|rfl|rfl<;>subst Z<;>subst U<;>subst O<;>simp[L8,List.getD]
theorem Qmd(hl:Lt [] l)(h:∀ x,x∈l↔∃ z:Row,z.length=3/\x=pmR (bk 7 32) z/\Kp 3 exV (λ_=>L4) 7 z): l=L8:=by
 have J:bk 7 32=[0,1,2]:=by decide +kernel
 refine Yn hl L8_lt λx=>?_;rw[h];constructor
 .exact Jsc
 intro y;have key:∀ i j k:Nat,i<2->j<2->k<2->∃ z:Row,z.length=3/\[n01 i,n01 j,n01 k]=pmR (bk 7 32) z/\Kp 3 exV (λ_=>L4) 7 z:=λi j k hi G F=>by
  have D:∀ p q:Nat,p<2->q<2->[n01 p,n01 q]∈L4:=λp q u U=>by
   rcases(show p=0∨p=1 by omega) with rfl|rfl<;>rcases(show q=0∨q=1 by omega) with rfl|rfl<;>simp[L4]
  refine⟨[n01 i,n01 j,n01 k],rfl,by rw[J];rfl,λv O=>?_⟩;rcases(show v=0∨v=1∨v=2 by omega) with rfl|rfl|rfl
  .refine⟨_,D i j hi G,λp u _=>?_⟩;have u:p<2:=u;rcases(show p=0∨p=1 by omega) with rfl|rfl<;>rfl
  .refine⟨_,D j k G F,λp u _=>?_⟩;have u:p<2:=u;rcases(show p=0∨p=1 by omega) with rfl|rfl<;>rfl
  refine⟨_,D i k hi F,λp u _=>?_⟩;have u:p<2:=u;rcases(show p=0∨p=1 by omega) with rfl|rfl<;>rfl
 unfold L8 at y;simp only[List.mem_cons,List.not_mem_nil,or_false]at y;rcases y with rfl|rfl|rfl|rfl|rfl|rfl|rfl|rfl<;>exact key _ _ _ (by decide) (by decide) (by decide)
theorem Jnf{N:Nat->Prop}{w:World}{v:Value}{n:Nat}(h:NatX N w v n): ∃ A m c,v=.slice A m c:=by obtain⟨⟨A,c,e,_⟩,_⟩:=h;exact⟨A,_,c,e⟩
theorem Jwr(a b:Int)(w:World): (Instr.build 71 #[(0,.int .u8 a),(1,.int .u8 b)]).run Tryz.prog w=.ok (.agg #[.int .u8 a,.int .u8 b,.int .u8 0,.int .u8 0]) w:=kr
theorem bs4B(a0 a1 b0 b1 c0 c1 d0 d1:Int)(w:World): (Instr.buildSlice 22 4 #[(0,.agg #[.int .u8 a0,.int .u8 a1,.int .u8 0,.int .u8 0]),(1,.agg #[.int .u8 b0,.int .u8 b1,.int .u8 0,.int .u8 0]),(2,.agg #[.int .u8 c0,.int .u8 c1,.int .u8 0,.int .u8 0]),(3,.agg #[.int .u8 d0,.int .u8 d1,.int .u8 0,.int .u8 0])]).run Tryz.prog w=.ok (.slice (some ⟨w.heap.size,0,none⟩) 4 4) (w.alloc (.cells ([.int .u8 a0,.int .u8 a1,.int .u8 0,.int .u8 0,.int .u8 b0,.int .u8 b1,.int .u8 0,.int .u8 0,.int .u8 c0,.int .u8 c1,.int .u8 0,.int .u8 0,.int .u8 d0,.int .u8 d1,.int .u8 0,.int .u8 0]:List Value).toArray 71)):=kr
theorem Jdm(v:Int)(A:Option Addr)(n c:Nat)(w:World): (Instr.build 24 #[(0,.int .u8 v),(1,.slice A n c)]).run Tryz.prog w=.ok (.agg #[.int .u8 v,.slice A n c,.int .u8 0]) w:=kr
theorem bs3LA(x y z:Int)(A B C:Option Addr)(n c m d k e:Nat)(w:World): (Instr.buildSlice 31 3 #[(0,.agg #[.int .u8 x,.slice A n c,.int .u8 0]),(1,.agg #[.int .u8 y,.slice B m d,.int .u8 0]),(2,.agg #[.int .u8 z,.slice C k e,.int .u8 0])]).run Tryz.prog w=.ok (.slice (some ⟨w.heap.size,0,none⟩) 3 3) (w.alloc (.cells ([.int .u8 x,.slice A n c,.int .u8 0,.int .u8 y,.slice B m d,.int .u8 0,.int .u8 z,.slice C k e,.int .u8 0]:List Value).toArray 24)):=kr
theorem bs3U(w:World): (Instr.buildSlice 81 3 #[(0,.int .u32 3),(1,.int .u32 6),(2,.int .u32 5)]).run Tryz.prog w=.ok (.slice (some ⟨w.heap.size,0,none⟩) 3 3) (w.alloc (.cells ([.int .u32 3,.int .u32 6,.int .u32 5]:List Value).toArray 25)):=kr
theorem bldGr(z:Int)(A:Option Addr)(n c:Nat)(w:World): (Instr.build 90 #[(0,.int .i64 z),(1,.slice A n c)]).run Tryz.prog w=.ok (.agg #[.int .i64 z,.slice A n c]) w:=kr
theorem bs3I(w:World): (Instr.buildSlice 28 3 #[(0,.int .i64 4),(1,.int .i64 4),(2,.int .i64 4)]).run Tryz.prog w=.ok (.slice (some ⟨w.heap.size,0,none⟩) 3 3) (w.alloc (.cells ([.int .i64 4,.int .i64 4,.int .i64 4]:List Value).toArray 3)):=kr
theorem Jdr(w:World): Ret Tryz.prog 8 [] w λu w'=>u=.bool true/\Ext w w':=by
 refine Jz Tryz.func8 Tryz.ntmps8 rfl kr rfl ?_;refine ρ ?_;refine bld (Jwr _ _ _) ?_;refine ρ ?_;refine bld (Jwr _ _ _) ?_;refine ρ ?_;refine bld (Jwr _ _ _) ?_;refine ρ ?_;refine bld (Jwr _ _ _) ?_;refine ρ ?_;refine bsl (bs4B _ _ _ _ _ _ _ _) ?_;intro w1 b1 b6 c5 bp;refine ρ ?_;refine bld (Jdm _ _ _ _ _) ?_;refine ρ ?_;refine bld (Jdm _ _ _ _ _) ?_;refine ρ ?_;refine bld (Jdm _ _ _ _ _) ?_;refine ρ ?_;refine bsl (bs3LA _ _ _ _ _ _ _ _ _ _ _ _) ?_;intro w2 b2 a9 c4 bo;have ak:=bp.ext a9;have a5:GX 4 U8R Nn w2 (.slice (some ⟨b1,0,none⟩) 4 4) all4:=by
  refine Jqv (ps:=all4.map λr=>(u8C r,r)) (ak.rd (n:=4) rfl) (nR 4) (by show 4<=1100000;decide) λp hp=>?_;obtain⟨r,hr,rfl⟩:=List.mem_map.1 hp;unfold all4 at hr;simp only[List.mem_cons,List.not_mem_nil,or_false]at hr;rcases hr with rfl|rfl|rfl|rfl<;>exact⟨rfl,rfl,rfl,by decide⟩
 have bj:GX 3 LaC Nn w2 (.slice (some ⟨b2,0,none⟩) 3 3) [exA 3,exA 6,exA 5]:=by
  refine Jqv (ps:=[exA 3,exA 6,exA 5].map λa=>([.int .u8 (a.vars:Int),.slice (some ⟨b1,0,none⟩) 4 4,.int .u8 0],a)) (bo.rd (n:=3) rfl) (nR 3) (by show 3<=1100000;decide) λp hp=>?_;obtain⟨a,ha,rfl⟩:=List.mem_map.1 hp;simp only[List.mem_cons,List.not_mem_nil,or_false]at ha;have y:∀ v,v<7->(exA v).vars<256/\(exA v).bad<256:=λv h=>⟨Nat.lt_trans h (by decide),show 0<256 by decide⟩;rcases ha with rfl|rfl|rfl
  .exact⟨rfl,(y 3 (by decide)).1,(y 3 (by decide)).2,_,rfl,a5⟩
  .exact⟨rfl,(y 6 (by decide)).1,(y 6 (by decide)).2,_,rfl,a5⟩
  exact⟨rfl,(y 5 (by decide)).1,(y 5 (by decide)).2,_,rfl,a5⟩
 refine ρ ?_;refine cl (Jnr bj (by decide)) ?_;rintro u w3 ⟨b4,h3⟩;have a3:∀ a∈[exA 3,exA 6,exA 5],a.fits:=λa ha=>by
  simp only[List.mem_cons,List.not_mem_nil,or_false]at ha;rcases ha with rfl|rfl|rfl
  .exact⟨by rw[Jcn];decide,by decide⟩
  .exact⟨by rw[Jcl];decide,by decide⟩
  exact⟨by rw[Jcm];decide,by decide⟩
 rcases h3 with⟨_,vo,vm,va,ms,rfl,be,a4,hO,_,_⟩|⟨hno,_⟩
 case inr=>exact absurd a3 hno
 match ms,be with
 | [m0,m1,m2],_=>
 have e0:m0=L4:=Jck (a4 0 (by simp) (by simp)) (by rw[Jcn];rfl);have e1:m1=L4:=Jck (a4 1 (by simp) (by simp)) (by rw[Jcl];rfl);have e2:m2=L4:=Jck (a4 2 (by simp) (by simp)) (by rw[Jcm];rfl);subst e0;subst e1;subst e2;obtain⟨ts,A,c,ap,rfl,hc,_,hR,bi⟩:=Jds (hO.1.imp (Ψ:=AtG) (f:=λa=>a) λcs a _ ⟨t,e,h⟩=>⟨t,e,h.here⟩);have ah:ts.length=3:=by
  have:=congrArg List.length ap;rw[List.length_map,List.length_map]at this;exact this.symm
 have ai:∀ i,i<ts.length->(ts.getD i ta0).2=⟨nz (exV i),(exV i).length,L4⟩:=λi hi=>by
  rw[<-Jjw,<-ap];have hb:∀ v,Qd (exA v)=nz (lvs (exA v)):=λv=>by unfold Qd;rw[if_pos (show(exA v).bad=0 from rfl)]
  rcases(show i=0∨i=1∨i=2 by omega) with rfl|rfl|rfl
  .show(⟨Qd (exA 3),(lvs (exA 3)).length,L4⟩:Atm)=_;rw[hb,Jcn];rfl
  .show(⟨Qd (exA 6),(lvs (exA 6)).length,L4⟩:Atm)=_;rw[hb,Jcl];rfl
  show(⟨Qd (exA 5),(lvs (exA 5)).length,L4⟩:Atm)=_;rw[hb,Jcm];rfl
 have i3:∀ {p:Nat->Prop},p 0->p 1->p 2->∀ i,i<ts.length->p i:=λh0 h1 h2 i hi=>by
  rcases(show i=0∨i=1∨i=2 by omega) with rfl|rfl|rfl<;>assumption
 have bd:MOk 3 ts exV (λ_=>L4) 7:=by
  refine⟨⟨by decide,om,ai,i3 ?_ ?_ ?_,i3 ?_ ?_ ?_,λv hv=>?_,λi _=>Qqc,i3 ?_ ?_ ?_,λi _=>by decide⟩,by decide,λi _=>by decide +kernel,λi _=>.inl (by decide)⟩
  .unfold Qf;decide
  .unfold Qf;decide
  .unfold Qf;decide
  .decide
  .decide
  .decide
  .rcases(show v=0∨v=1∨v=2 by omega) with rfl|rfl|rfl
   .exact⟨0,om,by decide⟩
   .exact⟨0,om,by decide⟩
   exact⟨1,om,by decide⟩
  .decide
  .decide
  decide
 refine ρ ?_;refine cl (Jnq (n:=3) (s:=7) bd hR hc bi λl hl h=>?_) ?_
 .rw[ah]at h;exact nL (Ia (Jbp hl) (m:=L8) λx hx=>Jsc (h x hx)) (by decide)
 rintro u w4 ⟨b3,t',st,l,rfl,af,bf,a1,_⟩;rw[ah]at a1;have el:l=L8:=Qmd bf a1;subst el;have ao:AtV w4 t' ⟨nz (bk 7 32),(bk 7 32).length,L8⟩:=af.here;obtain⟨t1,t2,t3⟩:=t';obtain⟨⟨E,ec,eE,_⟩,e2,a7,F,fc,c6,eF,_⟩:=id ao;simp only at eE e2 eF;subst eE;subst e2;subst eF;refine ρ ?_;refine alc Zr ?_;intro w5 b5 ay bh bn;refine ρ ?_;refine stb (cs':=[.slice E (nz (bk 7 32)).length ec,.int .i64 ((bk 7 32).length:Int),.slice F a7.length fc]) bn ?_ (Kk rfl);intro w6 aj c0 ax;have a8:Ext w4 w6:=ax w4 ay bh;refine ρ ?_;refine bsl bs3U ?_;intro w7 b7 aw c3 bm;refine ρ ?_;refine bld (bldGr _ _ _ _ _) ?_;refine ρ ?_;refine cl (Qzs (A:=some ⟨b7,0,none⟩) (c:=3) ⟨bm.rd (n:=3) rfl,Nat.le_refl 3,by decide,by decide,by decide⟩) ?_;rintro u w8 ⟨W,P,q1,q2,rfl,hW,hP,bc,bb,av⟩;obtain⟨WA,Wc,_,rfl,_⟩:=id hW.el;obtain⟨bq,Pc,_,rfl,_⟩:=id hP.el;obtain⟨Q1,m1,c1,rfl⟩:=Jnf bc;obtain⟨Q2,m2,c2,rfl⟩:=Jnf bb
 have O:=aw.trans av;have bt:=aj.ext O;refine ρ ?_;refine alc Kr ?_;intro w9 b9 au bg bl;refine ρ ?_;refine stb (cs':=[.slice WA 3 Wc,.slice bq 3 Pc,.bool false,.slice Q1 m1 c1,.slice Q2 m2 c2]) bl ?_ (λu hu=>by
  simp only[List.mem_cons,List.not_mem_nil,or_false]at hu;rcases hu with rfl|rfl|rfl|rfl|rfl<;>rfl)
 intro ar an br ae;have a2:Ext w8 ar:=ae w8 au bg;refine ρ ?_;refine ldW an ?_;refine ρ ?_;refine bsl bs3I ?_;intro bz c7 ad bs am;have D:=a2.trans ad;refine ρ ?_;refine cl (Qzw (hW.ext RtC.sta (by decide) D) (am.rd (n:=3) rfl)) ?_;rintro u bw ⟨⟨vb,rfl,b8⟩,ac⟩;have G:=O.trans (D.trans ac);have a6:=aj.ext G;have J:=a8.trans G;refine ρ ?_;refine lds (cs:=[.int .i64 ((bk 7 32).length:Int),.slice F a7.length fc]) (a6.sub2 (i:=1) rfl rfl) ?_;refine ρ ?_;refine cl (Jzn ((ao.ext J).rel)) ?_;rintro u aq ⟨rfl,Z⟩;refine ρ ?_;refine cl (Qfh 8 (by decide) aq) ?_;rintro v8 bv ⟨ba,U⟩;refine ρ ?_;refine cl (Jqn (b8.ext (Z.trans U)) ba) ?_;rintro u bu ⟨rfl,aa⟩;refine ρ ?_;have e8:(Vf 8 8 == 0)=true:=by decide +kernel
 refine Jq ⟨congrArg Value.bool e8,?_⟩;exact b6.trans (a9.trans (b4.trans (b3.trans (J.trans (Z.trans (U.trans aa))))))
open Go.RowKit Pl Go.Wk Bl Nw
variable {a:LA}{m:List Row}
def vsO(a:LA): List Nat:=(Qd a).map Int.toNat
theorem Qxp(h:Zp 32 (atm a m)): Qd a=nz (vsO a):=by
 unfold vsO nz;rw[List.map_map];refine(List.map_id _).symm.trans (List.map_congr_left λv u=>?_);have:=(h.2.1 v u).1;simp[Function.comp];omega
structure OkA(a:LA)(m:List Row): Prop where
 nz:Qd a=nz (vsO a)
 asc:Qf (vsO a)
 lt:∀ v∈vsO a,v<32
 len:(vsO a).length=(lvs a).length
theorem okA(h:Zp 32 (atm a m)): OkA a m:=by
 have e:=Qxp h;refine⟨e,?_,λv y=>?_,?_⟩
 .refine List.pairwise_iff_getElem.2 λi j hi D F=>?_;have key:∀ k,k+1<(vsO a).length->(vsO a).getD k 0<(vsO a).getD (k+1) 0:=λk u=>by
   have G:k+1<(Qd a).length:=by rw[e,Jo];exact u
   have:=h.1 (k+1) om G;have g:∀ i,i<(vsO a).length->(Qd a).getD i 0=((vsO a).getD i 0:Int):=λi hi=>by
    rw[e];simp[Go.Proofs.YtebiphhfkdbpfaaGreat.nz,List.getD,List.getElem?_eq_getElem hi]
   rw[show(atm a m).vars=Qd a from rfl,show k+1-1=k by omega,g k om,g (k+1) u]at this;omega
  have mono:∀ d i,i+d+1<(vsO a).length->(vsO a).getD i 0<(vsO a).getD (i+d+1) 0:=λd=>by
   induction d with
   | zero=>exactλi hi=>key i hi
   | succ d ih=>exactλi hi=>Nat.lt_trans (ih i om) (key (i+d+1) om)
  have:=mono (j-i-1) i om;rw[show i+(j-i-1)+1=j by omega]at this;simpa [List.getD,List.getElem?_eq_getElem hi,List.getElem?_eq_getElem D] using this
 .have:=(h.2.1 (v:Int) (by rw[show(atm a m).vars=Qd a from rfl,e];exact List.mem_map.2 ⟨v,y,rfl⟩)).2;omega
 have:=h.2.2;rw[show(atm a m).vars=Qd a from rfl,e,Jo]at this;exact this
theorem OkA.atm(h:OkA a m): atm a m=⟨Go.Proofs.YtebiphhfkdbpfaaGreat.nz (vsO a),(vsO a).length,m⟩:=by
 show(⟨Qd a,(lvs a).length,m⟩:Atm)=_;rw[h.nz,h.len]
open Go.RowKit Pl Go.Wk Bl Nw
variable {v1 v2 vk vl:Value}{w:World}
def raP(a:PA): RA:=⟨nz a.vs,a.rs⟩
theorem Qyt{a:PA}{kn:Row}(hv:IntsV w v1 (nz a.vs))(hr:RowsV w v2 a.rs)(hk:RowV w vk kn)(hlen:∀ r∈a.rs,r.length=a.vs.length)(hn:∀ r∈a.rs,NoS r)(hnk:NoS kn):
  Ret Tryz.prog 68 [.agg #[v1,v2],vk] w λu w'=>(∃ b:Bool,u=.bool b/\(b=true↔Alw a kn))/\Ext w w':=by
 obtain⟨D,d,e1,hd,ar,hD⟩:=id hv;obtain⟨ps,G,gc,e3,e2,hg,b2,hG,ak⟩:=id hr;obtain⟨K,kc,rfl,ay,ax,hK⟩:=hk;subst e1;subst e2;have ac:=Jo a.vs;rw[ac]at hD ar;refine Jz Tryz.func68 Tryz.ntmps68 rfl kr rfl ?_;rw[ac];refine ρ ?_;refine bx (cs:=[.slice D a.vs.length d,.slice G ps.length gc]) ?_;intro w1 b a5 hb hB;refine ρ ?_;refine Jl (fun (i:Nat)=>[(1,.slice K kn.length kc),(2,.pointer (some ⟨b,0,none⟩)),(5,.int .i64 (i:Int))])
  (λi w'=>Ext w1 w'/\i<=ps.length/\∀ j,j<i->¬ Agr1 a.vs (ps.getD j z0).2 kn) (λi=>ps.length-i) 0 sB ⟨Ext.refl _,Nat.zero_le _,λj Z=>absurd Z (Nat.not_lt_zero _)⟩ ?_
 rintro i w2 ⟨O,hi,aa⟩;have ai:=hB.ext O;refine ρ ?_;refine ld (ai.at (i:=1) rfl) ?_;refine ρ ?_;refine ci (λh=>?_) (λh=>?_)
 .have li:i<ps.length:=by have:=oT h;omega
  clear h;have m1:=getD_mem' z0 ps li;have J:(ps.getD i z0).2∈a.rs:=by rw[e3];exact List.mem_map.2 ⟨_,m1,rfl⟩
  have av:=hlen _ J;have aj:=hn _ J;obtain⟨R,rc,eR,aw,au,hR⟩:=id (ak _ m1);generalize hre:(ps.getD i z0).2=r at *
  refine ρ ?_;refine Qz (fun (k:Nat) (t:Bool)=>[(1,.slice K kn.length kc),(2,.pointer (some ⟨b,0,none⟩)),(5,.int .i64 (i:Int)),(6,.bool t),(7,.int .i64 (k:Int))])
   (λk t w'=>Ext w2 w'/\k<=a.vs.length/\(t=true↔∀ j,j<k->a.vs.getD j 0<kn.length->r.getD j V0=kn.getD (a.vs.getD j 0) V0)) (λk _=>a.vs.length-k) 0 true sB ⟨Ext.refl _,Nat.zero_le _,⟨λ_ j Z=>absurd Z (Nat.not_lt_zero _),λ_=>rfl⟩⟩ ?_
  rintro k t w3 ⟨F,hk,ht⟩;have ah:=ai.ext F;refine ρ ?_;refine ld (ah.at (i:=0) rfl) ?_;refine ρ ?_;refine ci (λh=>?_) (λh=>?_)
  .have lk:k<a.vs.length:=by have:=oT h;omega
   clear h;have a7:k<r.length:=om
   have a2:Ext w3 w3.drew:=(Ext.refl w3).drew;have a6:=ah.ext a2;have a9:=O.trans (F.trans a2);have a1:=a5.trans a9;have a3:=hD.ext a1;have af:=hG.ext a1;have ad:Rd w3.drew 3 R r.length (Jr r):=Rd.ext hR a1;have ae:Rd w3.drew 3 K kn.length (Jr kn):=Rd.ext hK a1;refine ρ ?_;refine dr [(0,0),(0,1),(0,2),(0,3),(0,4),(0,5),(0,6),(0,7),(0,8),(0,9),(0,10),(0,11),(0,12),(0,13),(0,14),(0,15),(0,16),(0,17),(0,18),(0,19),(0,20),(0,21),(0,22),(0,23),(0,24),(1,25),(0,26),(0,27)] kr ?_;refine ρd ?_;refine dld (a6.at (i:=0) rfl) ?_;refine ρd ?_;refine dix k a3 lk ?_;refine ρd ?_;refine dld (a3.cell (Qh lk)) ?_;refine ρd ?_;refine dki 30 (λh=>?_) (λh=>?_)
   .have U:a.vs.getD k 0<kn.length:=by have:=oT h;omega
    refine ρd ?_;refine dld (a6.at (i:=1) rfl) ?_;refine ρd ?_;refine dix i af li ?_;refine ρd ?_;refine dld (v:=.slice R r.length rc) ((af.cell (Uh li)).trans (by rw[eR])) ?_;refine ρd ?_;refine Qp 3 k ad a7 ?_;refine ρd ?_;refine Qj (cs:=(r.getD k V0).cells) (λj u hu=>RdR.cell ad a7 hu) ?_;refine ρd ?_;refine dld (a6.at (i:=0) rfl) ?_;refine ρd ?_;refine dix k a3 lk ?_;refine ρd ?_;refine dld (a3.cell (Qh lk)) ?_;refine ρd ?_;refine Qp 3 (a.vs.getD k 0) ae U ?_;refine ρd ?_;refine Qj (cs:=(kn.getD (a.vs.getD k 0) V0).cells) (λj u hu=>RdR.cell ae U hu) ?_;refine ρd ?_;refine dcl (Jln (aj.at k) (hnk.at _) _) ?_;rintro x w4 ⟨rfl,a8⟩;refine⟨a8,?_⟩;have a4:=(F.trans a2).trans a8;refine ρd ?_;refine ρ ?_;refine ci (λh=>?_) (λh=>?_)
    .have am:cmpV (r.getD k V0) (kn.getD (a.vs.getD k 0) V0)≠0:=by simpa using h
     refine ρ ?_;exact Jt (k+1) false sO ⟨a4,om,⟨λe=>(by cases e),λy=>absurd (by rw[y k om U];exact Zc _) am⟩⟩ om
    have aq:cmpV (r.getD k V0) (kn.getD (a.vs.getD k 0) V0)=0:=by simpa using h
    have ap:=cmp_V.zero _ _ aq;refine ρ ?_;exact Jt (k+1) t sO ⟨a4,om,ht.trans ⟨λy j Z hv=>by
     rcases Nat.lt_or_ge j k with h4|h4
     .exact y j h4 hv
     have:j=k:=om
     subst this;exact ap,λy j Z hv=>y j om hv⟩⟩ om
   have U:¬ a.vs.getD k 0<kn.length:=by have:=oF h;omega
   refine ρd ?_;refine ρ ?_;exact Jt (k+1) t sO ⟨F.trans a2,om,ht.trans ⟨λy j Z hv=>by
     rcases Nat.lt_or_ge j k with h4|h4
     .exact y j h4 hv
     have:j=k:=om
     subst this;exact absurd hv U,λy j Z hv=>y j om hv⟩⟩ om
  have an:k=a.vs.length:=by have:=oF h;omega
  subst an;refine ρ ?_;refine ci (λh=>?_) (λh=>?_)
  .refine ρ ?_;exact Jq ⟨⟨true,rfl,λ_=>⟨r,J,ht.1 h⟩,λ_=>rfl⟩,a5.trans (O.trans F)⟩
  refine ρ ?_;exact Jg (i+1) sO ⟨O.trans F,om,λj Z hg=>by
   rcases Nat.lt_or_ge j i with h4|h4
   .exact aa j h4 hg
   have:j=i:=om
   subst this;rw[hre]at hg;have:=ht.2 hg;rw[h]at this;cases this⟩ om
 have ao:i=ps.length:=by have:=oF h;omega
 subst ao;refine ρ ?_;refine Jq ⟨⟨false,rfl,λh=>(by cases h),λ⟨x,hx,hg⟩=>?_⟩,a5.trans O⟩;rw[e3]at hx;obtain⟨p,hp,rfl⟩:=List.mem_map.1 hx;obtain⟨j,Z,rfl⟩:=List.getElem_of_mem hp;refine absurd hg ?_;have:=aa j Z;rw[List.getD,List.getElem?_eq_getElem Z]at this;exact this
theorem ERv: ElT Tryz.prog 53 141 3 32 (.agg #[.int .i64 0,.int .i64 0,.string ⟨#[]⟩]):=⟨Tryz.underlying53,info_parts kr,rfl,by decide⟩
theorem bs1Rv(v:V)(w:World): (Instr.buildSlice 53 1 #[(0,v.val)]).run Tryz.prog w=.ok (.slice (some ⟨w.heap.size,0,none⟩) 1 1) (w.alloc (.cells v.cells.toArray 141)):=kr
def Jxq(l:List PA)(v:Nat)(vals:Row): Prop:=(∃ a∈l,∃ k,k<a.vs.length/\a.vs.getD k 0=v/\∃ m,IsSet [] (a.rs.map (pmR [k])) m/\vals=m.map λr=>r.getD 0 V0)∨((∀ a∈l,v ∉ a.vs)/\vals=[])
theorem Qyq{l:List PA}{v:Nat}(hl:GX 2 RaC Nn w vl (l.map raP))(hlen:∀ a∈l,∀ r∈a.rs,r.length=a.vs.length)(hn:∀ a∈l,∀ r∈a.rs,NoS r)(hbig:∀ a∈l,a.rs.length<=1000000):
  Ret Tryz.prog 69 [.int .i64 (v:Int),vl] w λu w'=>∃ vals,OwnF w' w.heap.size u vals/\Jxq l v vals/\vals.length<=1000000/\Ext w w':=by
 obtain⟨A,c,_,rfl,hc,av,hR,_,he⟩:=id hl.el;have ai:(l.map raP).length=l.length:=List.length_map ..;rw[ai]at hR av;refine Jz Tryz.func69 Tryz.ntmps69 rfl kr rfl ?_;rw[ai];refine ρ ?_;refine Qz (fun (i:Nat) (vo:Value)=>[(0,.int .i64 (v:Int)),(1,.slice A l.length c),(5,vo),(6,.int .i64 (i:Int))])
  (λi vo w'=>Ext w w'/\i<=l.length+1/\((i<=l.length/\vo=.slice none 0 0/\∀ j (h:j<l.length),j<i->v ∉ (l[j]).vs)∨(i=l.length+1/\∃ a∈l,∃ k,k<a.vs.length/\a.vs.getD k 0=v/\∃ m,GX 1 RfC (Ol w) w' vo m/\IsSet [] (a.rs.map (pmR [k])) m)))
  (λi _=>l.length+1-i) 0 (.slice none 0 0) sB ⟨Ext.refl _,Nat.zero_le _,.inl ⟨Nat.zero_le _,rfl,λj _ hj=>absurd hj (Nat.not_lt_zero _)⟩⟩ ?_
 rintro i vo w1 ⟨a4,hi,a8⟩;refine ρ ?_;refine ci (λh=>?_) (λh=>?_)
 .have li:i<l.length:=by have:=oT h;omega
  clear h;rcases a8 with⟨_,rfl,a5⟩|⟨h,_⟩
  case inr=>omega
  obtain⟨ce,_,⟨v1,v2,rfl,a9⟩,af⟩:=he i om;obtain⟨hI,aj⟩:=a9.here;have ax:(l.map raP)[i].vars=nz (l[i]).vs:=by simp[raP]
  have ah:(l.map raP)[i].rows=(l[i]).rs:=by simp[raP]
  rw[ax]at hI;rw[ah]at aj;have O:l[i]∈l:=List.getElem_mem li;generalize hga:l[i]=a at *
  obtain⟨D,d,rfl,hd,au,hD⟩:=id hI;rw[Jo]at hD au;have c0:∀ {w':World},Ext w w'->w'.cell? ((adr A (i*2)).add 0)=some (.slice D (nz a.vs).length d):=λhx=>Qs hx (af 0 _ rfl);have c1:∀ {w':World},Ext w w'->w'.cell? ((adr A (i*2)).add 1)=some v2:=λhx=>Qs hx (af 1 _ rfl);rw[Jo]at c0;refine ρ ?_;refine Jl (fun (k:Nat)=>[(0,.int .i64 (v:Int)),(1,.slice A l.length c),(5,.slice none 0 0),(6,.int .i64 (i:Int)),(7,.int .i64 (k:Int))])
   (λk w'=>Ext w w'/\k<=a.vs.length/\∀ j,j<k->a.vs.getD j 0≠v) (λk=>a.vs.length-k) 0 sB ⟨a4,Nat.zero_le _,λj hj=>absurd hj (Nat.not_lt_zero _)⟩ ?_
  rintro k w2 ⟨F,hk,aa⟩;refine ρ ?_;refine ixq 2 i (hR.ext F) li ?_;refine ρ ?_;refine ld (c0 F) ?_;refine ρ ?_;refine ci (λh=>?_) (λh=>?_)
  .have lk:k<a.vs.length:=by have:=oT h;omega
   clear h;refine ρ ?_;refine ixq 2 i (hR.ext F) li ?_;refine ρ ?_;refine ld (c0 F) ?_;refine ρ ?_;refine ix k (hD.ext F) lk ?_;refine ρ ?_;refine ld ((hD.ext F).cell (Qh lk)) ?_;refine ρ ?_;refine ci (λh=>?_) (λh=>?_)
   .have ar:a.vs.getD k 0=v:=by have:=eq_of_beq h;omega
    refine ρ ?_;refine ixq 2 i (hR.ext F) li ?_;refine ρ ?_;refine ld (c1 F) ?_;refine ρ ?_;refine bsl (bs1Int'' _) ?_;intro w3 b3 U aw a7;have Z:=F.trans U;have ae:IntsV w3 (.slice (some ⟨b3,0,none⟩) 1 1) (nz [k]):=⟨_,_,rfl,Nat.le_refl _,by simp[nz],a7.one⟩;refine ρ ?_;refine cl (Qyd (cols:=[k]) (aj.ext Z) ae (λr hr c hc=>by rw[List.mem_singleton.1 hc,hlen a O r hr];exact lk) (hn a O) (by simp) (hbig a O)) ?_;rintro u w4 ⟨m,hm,J,ak⟩;refine ρ ?_;exact Jt (l.length+1) u sO ⟨Z.trans ak,Nat.le_refl _,.inr ⟨rfl,a,O,k,lk,ar,m,hm.old RfC.sta (by decide) λq hq=>.inl (nM hq Z.size),J⟩⟩ om
   have ap:a.vs.getD k 0≠v:=λe=>by rw[e]at h;simp at h
   refine ρ ?_;exact Jg (k+1) sO ⟨F,om,λj hj=>by
    rcases Nat.lt_or_ge j k with h4|h4
    .exact aa j h4
    have:j=k:=om
    rw[this];exact ap⟩ om
  have ad:k=a.vs.length:=by have:=oF h;omega
  refine ρ ?_;exact Jt (i+1) (.slice none 0 0) sO ⟨F,om,.inl ⟨om,rfl,λj hj b9 hv=>by
   rcases Nat.lt_or_ge j i with h4|h4
   .exact a5 j hj h4 hv
   have:j=i:=om
   subst this;rw[hga]at hv;obtain⟨q,hq,e⟩:=List.getElem_of_mem hv;exact aa q om (by rw[List.getD,List.getElem?_eq_getElem hq];exact e)⟩⟩ om
 have b2:l.length<=i:=by have:=oF h;omega
 clear h;obtain⟨m,hm,a1,ac,a6⟩:∃ m:List Row,GX 1 RfC (Ol w) w1 vo m/\Jxq l v (m.map λr=>r.getD 0 V0)/\m.length<=1000000/\∀ r∈m,r.length=1:=by
  rcases a8 with⟨_,rfl,a5⟩|⟨_,a,ha,k,lk,ek,m,hm,J⟩
  .exact⟨[],Jcb,.inr ⟨λa ha hv=>by
    obtain⟨j,hj,rfl⟩:=List.getElem_of_mem ha;exact a5 j hj om hv,rfl⟩,by simp,λr hr=>by cases hr⟩
  refine⟨m,hm,.inl ⟨a,ha,k,lk,ek,m,J,rfl⟩,?_,λr hr=>?_⟩
  .have:=Jyd J;rw[List.length_map]at this;have:=hbig a ha;omega
  obtain⟨y,_,rfl⟩:=List.mem_map.1 ((J.2 r).1 hr);rfl
 obtain⟨ps,G,gc,rfl,rfl,hg,ba,hG,an⟩:=Jbz hm;have ac:ps.length<=1000000:=by simpa using ac
 refine ρ ?_;refine Qz (fun (k:Nat) (vv:Value)=>[(5,.slice G ps.length gc),(8,vv),(9,.int .i64 (k:Int))])
  (λk vv w'=>k<=ps.length/\Ext w1 w'/\OwnF w' w1.heap.size vv ((ps.take k).map λp=>p.2.getD 0 V0)) (λk _=>ps.length-k) 0 (.slice none 0 0) sB
  ⟨Nat.zero_le _,Ext.refl _,Xq _ _ _ _⟩ ?_
 rintro k vv w2 ⟨hk,F,ho⟩;refine ρ ?_;refine ci (λh=>?_) (λh=>?_)
 .have lk:k<ps.length:=by have:=oT h;omega
  clear h;have m1:=getD_mem' z0 ps lk;have b7:(ps.getD k z0).2.length=1:=a6 _ (List.mem_map.2 ⟨_,m1,rfl⟩);obtain⟨R,rc,eR,b6,b5,ay⟩:=id (an _ m1);have a3:Rd w2 3 R (ps.getD k z0).2.length (Jr (ps.getD k z0).2):=Rd.ext ay F;have b4:((ps.take k).map λp=>p.2.getD 0 V0).length=k:=by simp;omega
  have am:((ps.take (k+1)).map λp=>p.2.getD 0 V0)=((ps.take k).map λp=>p.2.getD 0 V0)++[(ps.getD k z0).2.getD 0 V0]:=by
   rw[Xw z0 lk,List.map_append];rfl
  generalize (ps.getD k z0).2=r at *
  refine ρ ?_;refine ix k (hG.ext F) lk ?_;refine ρ ?_;refine ld (v:=.slice R r.length rc) (((hG.ext F).cell (Uh lk)).trans (by rw[eR])) ?_;refine ρ ?_;refine ixq 3 0 a3 om ?_;refine ρ ?_;refine lds (cs:=(r.getD 0 V0).cells) (λj u hu=>RdR.cell a3 om hu) ?_;refine ρ ?_;refine bsl (bs1Rv _) ?_;intro w3 b3 U aw a7;have a2:=F.trans U;refine ρ ?_;refine apb (m':=1) (news:=(r.getD 0 V0).cells) ERv (Jc ho U) (a7.rd (n:=1) rfl) (V.one _) (by unfold maxLen;omega) om a2.size ?_;intro v4 w4 ao aq b8;refine ρ ?_;refine Jt (k+1) v4 sO ⟨lk,Jh a2 aq (Kz (Jc ho U)),?_⟩ om;rw[OwnF,am,List.length_append,Jqc,Jqb];exact ao
 have ad:k=ps.length:=by have:=oF h;omega
 subst ad;rw[List.take_length]at ho;refine ρ ?_;refine Jq ⟨_,Jqk ho a4.size,?_,by simp;omega,a4.trans F⟩;rw[List.map_map]at a1;exact a1
open Go.RowKit Pl Go.Wk Bl Nw
variable {l:List PA}{n v:Nat}{kn vals z:Row}
theorem Qpm{x y:V}(h:Jk [x] [y] []<0): cmpV x y<0:=by
 unfold Jk at h;split at h
 .simp[Jk]at h
 exact h
theorem Qxx(h:Jxq l v vals): vals.Pairwise λx y=>cmpV x y<0:=by
 rcases h with⟨a,D,k,lk,F,m,u,rfl⟩|⟨_,rfl⟩
 .rw[List.pairwise_map];refine u.1.imp_of_mem fun {x y} hx hy hxy=>?_
  obtain⟨p,_,rfl⟩:=List.mem_map.1 ((u.2 x).1 hx);obtain⟨q,_,rfl⟩:=List.mem_map.1 ((u.2 y).1 hy);exact Qpm hxy
 exact List.Pairwise.nil
theorem Qzb(hs:SmP l n)(h:Jxq l kn.length vals)(hkn:kn.length<n)(hz:Jxt l n kn z): z.getD kn.length V0∈vals:=by
 rcases h with⟨a,y,k,lk,D,m,u,rfl⟩|⟨hno,_⟩
 .obtain⟨x,F,J⟩:=hz.2.2 a y;have:=J k lk (by rw[D,hz.1];exact hkn);rw[D]at this;refine List.mem_map.2 ⟨pmR [k] x,(u.2 _).2 (List.mem_map.2 ⟨x,F,rfl⟩),?_⟩;exact this
 obtain⟨a,y,G⟩:=hs.cov kn.length hkn;exact absurd G (hno a y)
theorem Qxz(hs:SmP l n)(h:Jxq l v vals): ∀ x∈vals,D4 x:=by
 rcases h with⟨a,J,k,lk,U,m,u,rfl⟩|⟨hno,rfl⟩
 .intro x D;obtain⟨r,O,rfl⟩:=List.mem_map.1 D;obtain⟨y,F,rfl⟩:=List.mem_map.1 ((u.2 r).1 O);have G:k<y.length:=by rw[hs.len a J y F];exact lk
  have e:(pmR [k] y).getD 0 V0=y[k]:=by simp[pmR,List.getD,List.getElem?_eq_getElem G]
  rw[e];exact hs.d4 a J y F _ (List.getElem_mem G)
 intro x D;cases D
theorem bs1Rw(A:Option Addr)(n c:Nat)(w:World): (Instr.buildSlice 44 1 #[(0,.slice A n c)]).run Tryz.prog w=.ok (.slice (some ⟨w.heap.size,0,none⟩) 1 1) (w.alloc (.cells ([.slice A n c]:List Value).toArray 54)):=kr
theorem Jqf(h:n<=8): 4^n<=65536:=Nat.pow_le_pow_right (by decide:0<4) h
theorem Qyr(hs:SmP l n)(hn8:n<=8)(hbig:∀ a∈l,a.rs.length<=1000000): ∀(d:Nat) (kn:Row) (N:Nat->Prop) (vk vl:Value) (w:World),kn.length+d=n->(∀ x∈kn,D4 x)->GX 2 RaC Nn w vl (l.map raP)->RowX w N vk kn->(∀ k,N k->k<w.heap.size) ->
  Ret Tryz.prog 40 [.int .i64 (n:Int),vk,vl] w λu w'=>∃ out,GX 1 RfC N w' u out/\JnS l n kn out/\Ext w w':=by
 intro d;induction d with
 | zero=>?_
 | succ d ih=>?_
 all_goals
  intro kn N vk vl w hd ax hl hk hN;have au:∀ a∈l,∀ r∈a.rs,NoS r:=λa ha r hr x hx=>(hs.d4 a ha r hr x hx).noS;have bn:NoS kn:=λx hx=>(ax x hx).noS;obtain⟨A,c,_,rfl,hc,bt,hR,_,he⟩:=id hl.el;have ao:(l.map raP).length=l.length:=List.length_map ..;rw[ao]at hR bt;have aw:GX 2 RaC Nn w (.slice A l.length c) (l.map raP):=by have h:=hl;rw[ao]at h;exact h
  obtain⟨K,kc,rfl,cb,c9,bz,ch⟩:=id hk;refine Jz Tryz.func40 Tryz.ntmps40 rfl kr rfl ?_;rw[ao];refine ρ ?_;refine Jl (fun (i:Nat)=>[(0,.int .i64 (n:Int)),(1,.slice K kn.length kc),(2,.slice A l.length c),(7,.int .i64 (i:Int))])
   (λi w'=>Ext w w'/\i<=l.length/\∀ j (h:j<l.length),j<i->Alw l[j] kn) (λi=>l.length-i) 0 sB ⟨Ext.refl _,Nat.zero_le _,λj _ hj=>absurd hj (Nat.not_lt_zero _)⟩ ?_
  rintro i w1 ⟨G,hi,af⟩;refine ρ ?_;refine ci (λh=>?_) (λh=>?_)
  .have li:i<l.length:=by have:=oT h;omega
   clear h;obtain⟨ce,_,⟨v1,v2,rfl,ar⟩,bu⟩:=he i om;obtain⟨hI,b7⟩:=ar.here;have bv:(l.map raP)[i].vars=nz (l[i]).vs:=by simp[raP]
   have b4:(l.map raP)[i].rows=(l[i]).rs:=by simp[raP]
   rw[bv]at hI;rw[b4]at b7;have a5:l[i]∈l:=List.getElem_mem li;refine ρ ?_;refine ixq 2 i (hR.ext G) li ?_;refine ρ ?_;refine lds (cs:=[v1,v2]) (λj u hu=>Qs G (bu j u hu)) ?_;refine ρ ?_;refine cl (Qyt (a:=l[i]) (hI.ext G) (b7.ext G) (hk.v.ext G) (hs.len _ a5) (au _ a5) bn) ?_;rintro u w2 ⟨⟨t,rfl,ht⟩,a8⟩;refine ρ ?_;refine ci (λh=>?_) (λh=>?_)
   .have bg:¬ Alw l[i] kn:=λe=>by rw[ht.2 e]at h;cases h
    refine ρ ?_;exact Jq ⟨[],Jcb,Qhm a5 bg,G.trans a8⟩
   have bf:Alw l[i] kn:=ht.1 (by cases t<;>simp_all);refine ρ ?_;exact Jg (i+1) sO ⟨G.trans a8,om,λj hj cc=>by
    rcases Nat.lt_or_ge j i with h4|h4
    .exact af j hj h4
    have:j=i:=om
    subst this;exact bf⟩ om
  have bp:i=l.length:=by have:=oF h;omega
  subst bp;clear h;have b6:∀ a∈l,Alw a kn:=λa ha=>by
   obtain⟨j,hj,rfl⟩:=List.getElem_of_mem ha;exact af j hj hj
  refine ρ ?_
 .have a6:kn.length=n:=om
  refine ct ?_ ?_
  .rw[a6];simp
  refine ρ ?_;refine bsl (bs1Rw _ _ _) ?_;intro w3 b3 J cg c2;refine ρ ?_;have aa:=G.trans J;have c0:GX 1 RfC N w3 (.slice (some ⟨b3,0,none⟩) 1 1) ([([Value.slice K kn.length kc],kn)].map (·.2)) :=
   ⟨⟨[([.slice K kn.length kc],kn)],_,1,rfl,rfl,Nat.le_refl 1,by show 1<=1100000;decide,c2.rd (n:=1) rfl,λp hp=>by rw[List.mem_singleton.1 hp];exact⟨rfl,_,rfl,hk.grN (GrN.ext aa)⟩⟩,λ_ ad m c' e an=>by
    injection e with e _ _
    injection e with e
    subst e;have h1:b3<w.heap.size:=hN _ an;have:=G.size;omega⟩
  exact Jq ⟨[kn],c0,Qhn a6 b6,aa⟩
 have a6:kn.length<n:=om
 refine cf ?_ ?_
 .simp;omega
 refine ρ ?_;refine cl (Qyq (v:=kn.length) (aw.ext RaC.sta (by decide) G) hs.len au hbig) ?_;rintro u w2 ⟨D,a2,a3,c4,a8⟩;obtain⟨VA,vc,rfl,c5,c3⟩:=Jy a2;have bw:Rd w2 3 VA D.length (Jr D):=Rd.own a2;have bd:=Qxz hs a3;have bc:=Qxx a3;have a1:=G.trans a8;refine ρ ?_;refine Qz (fun (k:Nat) (vo:Value)=>[(0,.int .i64 (n:Int)),(1,.slice K kn.length kc),(2,.slice A l.length c),(8,vo),(9,.slice VA D.length vc),(10,.int .i64 (k:Int))])
  (λk vo w'=>k<=D.length/\Ext w2 w'/\∃ out,OX 54 1 RfC (λq=>N q∨vo.ownBlock=some q) w' w2.heap.size vo out/\JnK l n kn (D.take k) out) (λk _=>D.length-k) 0 (.slice none 0 0) sB
  ⟨Nat.zero_le _,Ext.refl _,[],OX.nil _ _,by rw[List.take_zero];exact Qhj _ _ _⟩ ?_
 rintro k vo w3 ⟨ca,J,out,ho,a7⟩;refine ρ ?_;refine ci (λh=>?_) (λh=>?_)
 .have lk:k<D.length:=by have:=oT h;omega
  clear h;have Z:=a1.trans J;have aq:=hs.cntK a7;have bh:=Jqf hn8;obtain⟨_,_,_,_,a4⟩:=id ho.form;refine ρ ?_;refine apb (base:=w3.heap.size) (m:=0) (xs:=[]) (news:=Jr kn) ERf (Xq _ _ _ _) (Rd.ext bz Z) (Jlf kn) (by unfold maxLen;omega) om (nR _) ?_;intro v4 w4 ak bs c8;rw[List.nil_append,Nat.zero_add]at ak;have ap:Ext w3 w4:=Jh (Ext.refl w3) bs λq e=>by cases e
  have ah:=bw.ext (J.trans ap);refine ρ ?_;refine ixq 3 k ah lk ?_;refine ρ ?_;refine lds (cs:=(D.getD k V0).cells) (λj u hu=>RdR.cell ah lk hu) ?_;refine ρ ?_;refine bsl (Jdk _) ?_;intro w5 b5 ai cd c1;have a9:=ap.trans ai;refine ρ ?_;refine apb (m':=1) (news:=(D.getD k V0).cells) ERf (Jc ak ai) (c1.rd (n:=1) rfl) (V.one _) (by unfold maxLen;omega) om a9.size ?_;intro v6 w6 bl br c7;have U:Ext w3 w6:=Jh a9 br (Kz (Jc ak ai));have ac:=Z.trans U;have am:OwnF w6 w3.heap.size v6 (kn++[D.getD k V0]):=by
   rw[OwnF,List.length_append,Jqc,Jqb];exact bl
  have bm:=OwnF.x am (by simp;omega);have b9:D.getD k V0∈D:=getD_mem' V0 D lk;have bo:=ih (kn++[D.getD k V0]) (λq=>N q∨vo.ownBlock=some q) v6 (.slice A l.length c) w6 (by simp;omega) (λx hx=>by
   rcases List.mem_append.1 hx with h4|h4
   .exact ax x h4
   rw[List.mem_singleton.1 h4];exact bd _ b9) (aw.ext RaC.sta (by decide) ac) (bm.oldN λq F=>.inl (F.elim (λF=>nM (hN q F) Z.size) λF=>(a4 q F).2)) (λq F=>F.elim (λF=>nM (hN q F) ac.size) λF=>nM (a4 q F).2 U.size)
  refine ρ ?_;refine cl bo ?_;rintro u w7 ⟨b8,ae,ay,bb⟩;have O:=U.trans bb;have c6:=hs.cnt ay;obtain⟨cj,rc,_,rfl,_⟩:=id ae.el;have bj:=(ho.ext RfC.sta O).old RfC.sta (N':=λq=>(N q∨vo.ownBlock=some q)∨w7.heap.size<=q) λq F=>F;have aj:=ae.old RfC.sta (N':=λq=>(N q∨vo.ownBlock=some q)∨w7.heap.size<=q) (by decide) λq F=>F;refine ρ ?_;refine Jxn Jxs RfC.sta bj aj (λcs a h=>h.one) (λq F=>.inl F) (λg hg=>.inl (.inr hg)) om (by decide) (J.trans O).size ?_;intro v8 w8 bi bq av;have ba:Ext w2 w8:=Jh (J.trans O) bq λq e=>(a4 q e).1;have be:D.take (k+1)=D.take k++[D.getD k V0]:=Xw V0 lk;refine ρ ?_;refine Jt (k+1) v8 sO ⟨lk,ba,out++b8,bi.old RfC.sta λq F=>.inl (F.elim (λF=>.inl (.inl F)) λF=>(av q F).elim (λF=>.inl (.inr F)) .inr),?_⟩ om;rw[be];refine Qhl a7 ay λy hy=>?_;obtain⟨j,hj,rfl⟩:=List.getElem_of_mem hy;have b2:j<k:=by rw[List.length_take]at hj;omega
  have:=List.pairwise_iff_getElem.1 bc j k om lk b2;rw[List.getElem_take,List.getD,List.getElem?_eq_getElem lk];exact this
 have an:k=D.length:=by have:=oF h;omega
 subst an;rw[List.take_length]at a7;have aq:=hs.cntK a7;have bh:=Jqf hn8;obtain⟨_,_,_,_,a4⟩:=id ho.form;refine ρ ?_;refine Jq ⟨out,ho.gx RfC.sta om λq F=>⟨.inl F,λe=>?_⟩,Qhk a7 a6 λz hz=>Qzb hs a3 a6 hz,a1.trans J⟩;have:=(a4 q e).1;have:=hN q F;have:=a1.size;omega
open Go.RowKit Pl Go.Wk Bl Nw
variable {vs:List Nat}{l:List PA}{k v:Nat}{vl:Value}{w:World}
def Gv(l:List PA)(v:Nat): Bool:=l.any λa=>decide (v∈a.vs)
def uvN(l:List PA)(k:Nat): List Nat:=(List.range k).filter (Gv l)
theorem hasV_iff: Gv l v=true↔∃ a∈l,v∈a.vs:=by simp[Gv]
theorem Jgh(l:List PA)(k:Nat): uvN l (k+1)=uvN l k++if Gv l k then[k] else[]:=by
 unfold uvN;rw[List.range_succ,List.filter_append];by_cases h:Gv l k=true
 .simp[h]
 simp[h]
theorem Qzd(l:List PA)(k:Nat): (uvN l k).length<=k:=by
 have:=List.length_filter_le (Gv l) (List.range k);rw[List.length_range]at this;exact this
theorem Jvn(l:List PA)(k:Nat): Qf (uvN l k):=List.Pairwise.sublist List.filter_sublist List.pairwise_lt_range
theorem Qzc(h:∀ a∈l,∀ u∈a.vs,u<k): v∈uvN l k↔∃ a∈l,v∈a.vs:=by
 unfold uvN;rw[List.mem_filter,List.mem_range,hasV_iff];exact⟨λh=>h.2,λ⟨a,D,y⟩=>⟨h a D v y,a,D,y⟩⟩
theorem nz_mem: (∀ j,j<(nz vs).length->(nz vs).getD j 0≠(v:Int))↔v ∉ vs:=by
 constructor
 .intro h y;obtain⟨j,u,rfl⟩:=List.getElem_of_mem y;refine h j (by rw[Jo];exact u) ?_;simp[nz,List.getD,List.getElem?_eq_getElem u]
 intro h j u e;rw[Jo]at u;refine h ?_;have:(nz vs).getD j 0=(vs[j]:Int):=by simp[nz,List.getD,List.getElem?_eq_getElem u]
 rw[this]at e;have:vs[j]=v:=om
 rw[<-this];exact List.getElem_mem u
theorem Qyp(hl:GX 2 RaC Nn w vl (l.map raP)): Ret Tryz.prog 38 [vl] w λu w'=>Qb w' w.heap.size u (uvN l 32)/\Ext w w':=by
 obtain⟨A,c,_,rfl,hc,a8,hR,_,he⟩:=id hl.el;have a2:(l.map raP).length=l.length:=List.length_map ..;rw[a2]at hR a8;refine Jz Tryz.func38 Tryz.ntmps38 rfl kr rfl ?_;rw[a2];refine ρ ?_;refine Qz (fun (v:Nat) (J:Value)=>[(0,.slice A l.length c),(3,J),(4,.int .i64 (v:Int))])
  (λv J w'=>v<=32/\Ext w w'/\Qb w' w.heap.size J (uvN l v)) (λv _=>32-v) 0 (.slice none 0 0) sB ⟨Nat.zero_le _,Ext.refl _,Xq _ _ _ _⟩ ?_
 rintro v J w1 ⟨hv,y,ho⟩;refine ρ ?_;refine ci (λh=>?_) (λh=>?_)
 .have lv:v<32:=by have:=oT h;omega
  clear h;have ad:=Qzd l v;refine ρ ?_;refine Jl (fun (i:Nat)=>[(0,.slice A l.length c),(3,J),(4,.int .i64 (v:Int)),(5,.int .i64 (i:Int))])
   (λi w'=>i<=l.length/\w'=w1/\∀ j (h:j<l.length),j<i->v ∉ (l[j]).vs) (λi=>l.length-i) 0 sB ⟨Nat.zero_le _,rfl,λj _ F=>absurd F (Nat.not_lt_zero _)⟩ ?_
  rintro i w2 ⟨hi,rfl,Z⟩;refine ρ ?_;refine ci (λh=>?_) (λh=>?_)
  .have li:i<l.length:=by have:=oT h;omega
   clear h;obtain⟨ce,_,⟨v1,v2,rfl,U⟩,a9⟩:=he i om;obtain⟨hI,_⟩:=U.here;have aa:(l.map raP)[i].vars=nz (l[i]).vs:=by simp[raP]
   rw[aa]at hI;have a1:l[i]∈l:=List.getElem_mem li;refine ρ ?_;refine ixq 2 i (hR.ext y) li ?_;refine ρ ?_;refine ld (Qs y (a9 0 _ rfl)) ?_;refine ρ ?_;refine cl (Jls (z:=(v:Int)) (hI.ext y)) ?_;rintro u w3 ⟨rfl,hu⟩;rcases hu with⟨j,F,ej,_,rfl⟩|⟨hne,rfl⟩
   .have O:v∈(l[i]).vs:=by
     refine Classical.byContradiction λh=>?_;exact nz_mem.2 h j F ej
    have G:Gv l v=true:=hasV_iff.2 ⟨_,a1,O⟩;refine ρ ?_;refine bsl (bs1Int'' _) ?_;intro w4 b4 D ah ac;refine ρ ?_;refine apI (z:=v) (Jc ho D) ac om (y.trans D).size ?_;intro v5 w5 a5 a7 ae;refine ρ ?_;refine Jt (v+1) v5 sO ⟨om,Jh (y.trans D) a7 (Kz (Jc ho D)),?_⟩ om;rw[Jgh,if_pos G];exact a5
   refine ρ ?_;exact Jg (i+1) sO ⟨om,rfl,λj F af=>by
    rcases Nat.lt_or_ge j i with h4|h4
    .exact Z j F h4
    have:j=i:=om
    subst this;exact nz_mem.1 hne⟩ om
  have a6:i=l.length:=by have:=oF h;omega
  subst a6;have G:¬ Gv l v=true:=λe=>by
   obtain⟨a,ha,a3⟩:=hasV_iff.1 e;obtain⟨j,F,rfl⟩:=List.getElem_of_mem ha;exact Z j F F a3
  refine ρ ?_;refine Jt (v+1) J sO ⟨om,y,?_⟩ om;rw[Jgh,if_neg G,List.append_nil];exact ho
 have a4:v=32:=by have:=oF h;omega
 subst a4;refine ρ ?_;exact Jq ⟨ho,y⟩
structure SmL(l:List PA): Prop where
 lt:∀ a∈l,∀ v∈a.vs,v<8
 len:∀ a∈l,∀ r∈a.rs,r.length=a.vs.length
 d4:∀ a∈l,∀ r∈a.rs,∀ x∈r,D4 x
 big:∀ a∈l,a.rs.length<=1000000
theorem SmL.mem(h:SmL l): v∈uvN l 32↔∃ a∈l,v∈a.vs:=Qzc λa D u y=>Nat.lt_trans (h.lt a D u y) (by decide)
theorem SmL.u8(h:SmL l): (uvN l 32).length<=8:=by
 have G:∀ u∈uvN l 32,u∈List.range 8:=λu D=>by
  obtain⟨a,F,y⟩:=h.mem.1 D;exact List.mem_range.2 (h.lt a F u y)
 have:=Ia ((Jvn l 32).imp λh=>om) G;rw[List.length_range]at this;exact this
theorem lv_lt(ha:Qf vs)(h:v∈vs): lv vs v<vs.length/\vs.getD (lv vs v) 0=v:=by
 obtain⟨i,hi,e⟩:=List.getElem_of_mem h;have u:vs.getD i 0=v:=by rw[List.getD,List.getElem?_eq_getElem hi];exact e
 rw[<-u,Ur ha hi];exact⟨hi,rfl⟩
theorem SmL.dense(h:SmL l): SmP (l.map (dns (uvN l 32))) (uvN l 32).length:=by
 have J:=Jvn l 32;refine⟨λa F v D=>?_,λa F r U=>?_,λa F=>?_,λv D=>?_⟩
 .obtain⟨b,y,rfl⟩:=List.mem_map.1 F;obtain⟨u,O,rfl⟩:=List.mem_map.1 D;exact(lv_lt J (h.mem.2 ⟨b,y,O⟩)).1
 .obtain⟨b,y,rfl⟩:=List.mem_map.1 F;show r.length=(b.vs.map _).length;rw[List.length_map];exact h.len b y r U
 .obtain⟨b,y,rfl⟩:=List.mem_map.1 F;exact h.d4 b y
 have Z:(uvN l 32)[v]∈uvN l 32:=List.getElem_mem D;obtain⟨b,y,G⟩:=h.mem.1 Z;refine⟨_,List.mem_map.2 ⟨b,y,rfl⟩,List.mem_map.2 ⟨_,G,?_⟩⟩;have e:(uvN l 32).getD v 0=(uvN l 32)[v]:=by rw[List.getD,List.getElem?_eq_getElem D];rfl
 rw[<-e,Ur J D]
theorem Qrq(A:Option Addr)(n c:Nat)(w:World): (Instr.build 46 #[(1,.slice A n c)]).run Tryz.prog w=.ok (.agg #[.slice none 0 0,.slice A n c]) w:=kr
theorem Qys(hs:SmL l)(hl:GX 2 RaC Nn w vl (l.map raP))(hl2:l.length<=1000):
  Ret Tryz.prog 16 [vl] w λu w'=>∃ u1 u2 vs rows,u=.agg #[u1,u2]/\Off (Ol w) w' (λx=>IntsV x u1 (nz vs)/\RowsV x u2 rows)/\JoinS l vs rows/\(∀ r∈rows,∀ x∈r,D4 x)/\rows.length<=65536/\Ext w w':=by
 have b4:=hs.u8;have af:=Jvn l 32;obtain⟨A,c,_,rfl,hc,bw,hR,_,he⟩:=id hl.el;have aq:(l.map raP).length=l.length:=List.length_map ..;have br:GX 2 RaC Nn w (.slice A l.length c) (l.map raP):=by have h:=hl;rw[aq]at h;exact h
 rw[aq]at hR bw;refine Jz Tryz.func16 Tryz.ntmps16 rfl kr rfl ?_;rw[aq];refine ρ ?_;refine alc zRA ?_;intro w1 b2 ai ch bg;refine ρ ?_;refine cl (Qyp (br.ext RaC.sta (by decide) ai)) ?_;rintro vV w2 ⟨hV,ah⟩;have c3:=Jmr hV om;obtain⟨VA,vc,rfl,cc,bl⟩:=Jy hV;have a8:=ai.trans ah;generalize hU:uvN l 32=U at *
 refine ρ ?_;refine Qz (fun (i:Nat) (vd:Value)=>[(0,.slice A l.length c),(2,.pointer (some ⟨b2,0,none⟩)),(3,.slice VA U.length vc),(4,vd),(5,.int .i64 (i:Int))])
  (λi vd w'=>i<=l.length/\Ext w2 w'/\OX 46 2 RaC (λq=>vd.ownBlock=some q) w' w2.heap.size vd ((l.take i).map λa=>raP (dns U a))) (λi _=>l.length-i) 0 (.slice none 0 0) sB ⟨Nat.zero_le _,Ext.refl _,OX.nil _ _⟩ ?_
 rintro i vd w3 ⟨hi,Z,hD⟩;have y:=a8.trans Z;refine ρ ?_;refine ci (λh=>?_) (λh=>?_)
 .have li:i<l.length:=by have:=oT h;omega
  clear h;obtain⟨ce,_,⟨v1,v2,rfl,aa⟩,ba⟩:=he i om;obtain⟨hI,bd⟩:=aa.here;have c2:(l.map raP)[i].vars=nz (l[i]).vs:=by simp[raP]
  have ae:(l.map raP)[i].rows=(l[i]).rs:=by simp[raP]
  rw[c2]at hI;rw[ae]at bd;have ak:Off Nn w λx=>RowsV x v2 (l[i]).rs:=λx hg=>by have:=(aa x hg).2;rw[ae]at this;exact this
  have ac:l[i]∈l:=List.getElem_mem li;have bt:∀ u∈(l[i]).vs,u∈U:=λu hu=>by rw[<-hU];exact hs.mem.2 ⟨_,ac,hu⟩
  have cj:∀ u∈(l[i]).vs,u<8:=hs.lt _ ac;have bp:((l.take (i+1)).map λa=>raP (dns U a))=((l.take i).map λa=>raP (dns U a))++[raP (dns U l[i])]:=by
   rw[List.take_add_one,List.getElem?_eq_getElem li,List.map_append];rfl
  generalize hga:l[i]=a at *
  obtain⟨D,dc,rfl,hd,b9,ar⟩:=id hI;obtain⟨aw,G,gc,_,eG,_⟩:=id bd;rw[Jo]at ar b9;have c0:∀ {w':World},Ext w w'->w'.cell? ((adr A (i*2)).add 0)=some (.slice D a.vs.length dc):=λhx=>by
   have:=Qs hx (ba 0 _ rfl);rw[Jo]at this;exact this
  have c1:∀ {w':World},Ext w w'->w'.cell? ((adr A (i*2)).add 1)=some v2:=λhx=>Qs hx (ba 1 _ rfl);subst eG;refine ρ ?_;refine ixq 2 i (hR.ext y) li ?_;refine ρ ?_;refine ld (c1 y) ?_;refine ρ ?_;refine bld (Qrq _ _ _ _) ?_;refine ρ ?_;refine alc zRA ?_;intro w4 b6 a5 bb a3;refine ρ ?_;refine stb (cs':=[.slice none 0 0,.slice G aw.length gc]) a3 ?_ oneT;intro w5 av a7 bj;have ax:Ext w3 w5:=bj w3 a5 bb;refine ρ ?_;refine Qz (fun (k:Nat) (vv:Value)=>[(0,.slice A l.length c),(2,.pointer (some ⟨b2,0,none⟩)),(3,.slice VA U.length vc),(4,vd),(5,.int .i64 (i:Int)),(6,.pointer (some ⟨b6,0,none⟩)),(7,.int .i64 (k:Int))])
   (λk vv w'=>k<=a.vs.length/\Ext w3 w'/\Blk w' b6 46 [vv,.slice G aw.length gc]/\Qb w' w3.heap.size vv ((a.vs.take k).map (lv U))) (λk _=>a.vs.length-k) 0 (.slice none 0 0) sB ⟨Nat.zero_le _,ax,av,Xq _ _ _ _⟩ ?_
  rintro k vv w6 ⟨hk,a4,a3,a2⟩;have J:=y.trans a4;refine ρ ?_;refine ixq 2 i (hR.ext J) li ?_;refine ρ ?_;refine ld (c0 J) ?_;refine ρ ?_;refine ci (λh=>?_) (λh=>?_)
  .have lk:k<a.vs.length:=by have:=oT h;omega
   clear h;have bn:=getD_mem' 0 _ lk;refine ρ ?_;refine ixq 2 i (hR.ext J) li ?_;refine ρ ?_;refine ld (c0 J) ?_;refine ρ ?_;refine ix k (ar.ext J) lk ?_;refine ρ ?_;refine ld ((ar.ext J).cell (Qh lk)) ?_;refine ρ ?_;have bc:=(c3.ext (Z.trans a4));refine cl (Jls (z:=((a.vs.getD k 0:Nat):Int)) bc) ?_;rintro u w7 ⟨rfl,hu⟩;rcases hu with⟨j,hj,ej,_,rfl⟩|⟨hne,rfl⟩
   case inr=>exact absurd (bt _ bn) (nz_mem.1 hne)
   have b7:j<U.length:=by rw[Jo]at hj;exact hj
   have c7:j=lv U (a.vs.getD k 0):=by
    have e2:(nz U).getD j 0=((U.getD j 0:Nat):Int):=by simp[nz,List.getD,List.getElem?_eq_getElem b7]
    rw[e2]at ej;have:U.getD j 0=a.vs.getD k 0:=om
    rw[<-this,Ur af b7]
   have cd:((a.vs.take k).map (lv U)).length=k:=by simp;omega
   refine ρ ?_;refine ld (a3.at (i:=0) rfl) ?_;refine ρ ?_;refine bsl (bs1Int'' _) ?_;intro w8 b8 F bz au;refine ρ ?_;refine apI (z:=j) (Jc a2 F) au om (a4.trans F).size ?_;intro v9 w9 a1 a6 b5;have bi:Ext w3 w9:=Jh (a4.trans F) a6 (Kz (Jc a2 F));have be:=(a3.ext F).grown a6 ((a3.ext F).ne_own (Jc a2 F) rfl);have c6:v9.oneCell'=true:=by obtain⟨_,_,e,_⟩:=Jy a1;rw[e];rfl
   refine ρ ?_;refine stF (i:=0) be rfl ?_ (hv:=c6);intro cb bh ad;have c9:w3.heap.size<=b6:=bb;refine ρ ?_;refine Jt (k+1) v9 sO ⟨lk,Jh bi ad (λg e=>by injection e with e;omega),bh,?_⟩ om;rw[Xw 0 lk,List.map_append];refine Qk ?_ (GrN.by ad λq e=>e) (λg eg e=>by injection e with e;subst e;exact be.ne_own a1 rfl eg.symm);rw[c7]at a1;exact a1
  have bs:k=a.vs.length:=by have:=oF h;omega
  subst bs;rw[List.take_length]at a2;obtain⟨WA,wc,eW,_,_⟩:=Jy a2;obtain⟨_,_,_,_,an⟩:=id hD.form;have bm:(a.vs.map (lv U)).length<=1100000:=by rw[List.length_map];exact b9
  have bo:=Jms a2 bm;subst eW;refine ρ ?_;refine ldW a3 ?_;refine ρ ?_;refine bsl (Jtw _ _ _ _ _ _) ?_;intro w8 b8 F bz au;have O:=a4.trans F;have bq:=(hD.ext RaC.sta O).old RaC.sta (N':=λq=>vd.ownBlock=some q∨w8.heap.size<=q) λq hq=>hq;have bv:RaC (λq=>vd.ownBlock=some q∨w8.heap.size<=q) w8 [.slice WA (a.vs.map (lv U)).length wc,.slice G aw.length gc] (raP (dns U a)):=by
   refine⟨_,_,rfl,λx hg=>⟨?_,?_⟩⟩
   .refine bo x ((GrN.ext F).trans (hg.mono λq hq hn=>?_));rcases hn with hn|hn
    .exact(an q hn).2
    exact absurd hq (Nat.not_lt.2 hn)
   refine ak.old' (N':=λq=>w.heap.size<=q) (λk hk=>.inr hk) x ((GrN.ext (y.trans O)).trans (hg.mono λq hq hn=>?_));have z2:=a8.size;have z8:=(y.trans O).size;rcases hn with hn|hn
   .exact nL z2 (an q hn).1
   exact nL z8 hn
  refine ρ ?_;refine apX ERA RaC.sta bq au rfl oneT bv (λg hg=>.inl hg) (by simp;omega) (by decide) (Z.trans O).size ?_;intro v9 w9 a1 a6 b5;rw[<-bp]at a1;refine ρ ?_;exact Jt (i+1) v9 sO ⟨li,Jh (Z.trans O) a6 λq e=>(an q e).1,a1.old RaC.sta λq hq=>.inl ((b5 q hq).imp id id)⟩ om
 have bu:i=l.length:=by have:=oF h;omega
 subst bu;rw[List.take_length]at hD;have c5:GX 2 RaC Nn w3 vd ((l.map (dns U)).map raP):=by
  rw[List.map_map];exact hD.gx RaC.sta (by simp;omega) λq hq=>hq.elim
 have aj:SmP (l.map (dns U)) U.length:=by rw[<-hU];exact hs.dense
 refine ρ ?_;refine cl (Qyr aj b4 (λa ha=>by
  obtain⟨b,hb,rfl⟩:=List.mem_map.1 ha;exact hs.big b hb) U.length [] (Ol w3) (.slice none 0 0) vd w3 (by simp) (λx hx=>by cases hx) c5 ⟨none,0,rfl,Nat.le_refl _,Nat.zero_le _,Rd.nil,λh=>absurd rfl h⟩ λq hq=>hq) ?_
 rintro u w4 ⟨out,a9,ao,a5⟩;obtain⟨OA,oc,_,rfl,_⟩:=id a9.el;have c8:=aj.cnt ao;have cg:=Jqf b4;have bf:=bg.ext (ah.trans (Z.trans a5));refine ρ ?_;refine bld (Jdl _ _ _ _ _ _ _) ?_;refine ρ ?_;refine stb (cs':=[.slice VA U.length vc,.slice OA out.length oc]) bf ?_ oneT;intro w5 av a7 _;refine ρ ?_;have ca:=bg.lt;have ay:=Z.trans a5;have c4:Qb w5 w1.heap.size (.slice VA U.length vc) U:=Qk (Jc hV ay) (GrN.by a7 λq e=>e) (λg eg e=>by injection e with e;subst e;have:=(bl _ eg).1;omega);have b3:Ext w w5:=Jh (y.trans a5) a7 λg e=>by injection e with e;omega
 have am:=(a9.gr RfC.sta (by decide) (GrN.by a7 λq e=>by
  injection e with e
  subst e;show b2<w3.heap.size;have:=(ah.trans Z).size;omega)).old RfC.sta (N':=Ol w) (by decide) λq hq=>.inl (nM hq y.size)
 have ap:JoinS l U out:=Qhh af (λv=>by rw[<-hU];exact hs.mem) hs.len ao;refine Zy av ⟨_,_,U,out,rfl,λx hg=>⟨Jms (Jqk c4 ai.size) om x hg,Qln am x hg⟩,ap,λr hr=>aj.ans ((ao.2 r).1 hr),om,b3⟩
open Go.RowKit Pl Go.Wk Bl Nw
variable {w w':World}
theorem u32w{n:Nat}(h:n<4294967296): IntKind.u32.wrap (n:Int)=(n:Int):=by
 rw[Vl,UInt32.toNat_ofNat',Nat.mod_eq_of_lt h]
theorem grNn(h:GrN Nn w w'): Ext w w':=h.toExt
theorem bs2RA(A B C D:Option Addr)(n c m d n' c' m' d':Nat)(w:World): (Instr.buildSlice 27 2 #[(0,.agg #[.slice A n c,.slice B m d]),(1,.agg #[.slice C n' c',.slice D m' d'])]).run Tryz.prog w=.ok (.slice (some ⟨w.heap.size,0,none⟩) 2 2) (w.alloc (.cells ([.slice A n c,.slice B m d,.slice C n' c',.slice D m' d']:List Value).toArray 46)):=kr
theorem Qlm{v1 v2 u1 u2:Value}{a b:PA}(hv1:IntsV w v1 (nz a.vs))(hv2:RowsV w v2 a.rs)(hu1:IntsV w u1 (nz b.vs))(hu2:RowsV w u2 b.rs)(hs:SmL [a,b])(ha:Qf a.vs)(e:b.vs=a.vs)(hb:Lt [] b.rs)(hsub:∀ r∈b.rs,r∈a.rs):
  Ret Tryz.prog 17 [.agg #[v1,v2],.agg #[u1,u2]] w λu w'=>u=.bool true/\Ext w w':=by
 obtain⟨D,d,e1,_⟩:=id hv1;obtain⟨E,ec,e3,_⟩:=id hu1;obtain⟨ps,G,gc,_,e2,_⟩:=id hv2;obtain⟨qs,F,fc,_,e4,_⟩:=id hu2;subst e1;subst e2;subst e3;subst e4;have ad:∀ r∈b.rs,NoS r:=λr hr x hx=>(hs.d4 b (by simp) r hr x hx).noS;refine Jz Tryz.func17 Tryz.ntmps17 rfl kr rfl ?_;refine ρ ?_;refine bx (cs:=[.slice D (nz a.vs).length d,.slice G ps.length gc]) ?_;intro w1 b1 a9 ap am;refine ρ ?_;refine bx (cs:=[.slice E (nz b.vs).length ec,.slice F qs.length fc]) ?_;intro w2 b2 a5 ao ak;have a7:=am.ext a5;have a2:=a9.trans a5;refine ρ ?_;refine dr [(0,0),(0,1),(0,4),(1,2),(1,3),(1,5),(0,6)] kr ?_;have U:Ext w2 w2.drew:=(Ext.refl w2).drew;have ai:=a7.ext U;have O:=ak.ext U;have a1:=a2.trans U;refine ρd ?_;refine Qj (cs:=[.slice D (nz a.vs).length d,.slice G ps.length gc]) (λj u hu=>ai.at hu) ?_;refine ρd ?_;refine Qj (cs:=[.slice E (nz b.vs).length ec,.slice F qs.length fc]) (λj u hu=>O.at hu) ?_
 refine ρd ?_;refine Qj (cs:=[.slice E (nz b.vs).length ec,.slice F qs.length fc]) (λj u hu=>O.at hu) ?_;refine ρd ?_;refine dbsl (bs2RA _ _ _ _ _ _ _ _ _ _ _ _) ?_;intro w3 b3 a8 an aj;have J:=a1.trans a8;have ac:Off Nn w λx=>IntsV x (.slice D (nz a.vs).length d) (nz a.vs)/\RowsV x (.slice G ps.length gc) a.rs:=λx hg=>⟨hv1.ext (grNn hg),hv2.ext (grNn hg)⟩;have aa:Off Nn w λx=>IntsV x (.slice E (nz b.vs).length ec) (nz b.vs)/\RowsV x (.slice F qs.length fc) b.rs:=λx hg=>⟨hu1.ext (grNn hg),hu2.ext (grNn hg)⟩;have ah:GX 2 RaC Nn w3 (.slice (some ⟨b3,0,none⟩) 2 2) ([a,b].map raP):=Jqv (ps:=[([.slice D (nz a.vs).length d,.slice G ps.length gc],raP a),([.slice E (nz b.vs).length ec,.slice F qs.length fc],raP b)]) (aj.rd (n:=2) rfl) (nR 2) (by show 2<=1100000;decide) λp hp=>by
  simp only[List.mem_cons,List.not_mem_nil,or_false]at hp;rcases hp with rfl|rfl
  .exact⟨rfl,_,_,rfl,ac.gr (GrN.ext J)⟩
  exact⟨rfl,_,_,rfl,aa.gr (GrN.ext J)⟩
 refine ρd ?_;refine dcl (Qys hs ah (by simp)) ?_;rintro u w4 ⟨x1,x2,vs,rows,rfl,a6,hj,af,_,a4⟩;refine⟨a4,?_⟩;obtain⟨ev,Z⟩:=Qhg ha e (λr hr=>by rw[hs.len b (by simp) r hr,e]) hb hj;have er:=Z.2 hsub;refine ρd ?_;have hX:=a6.here;have y:=J.trans a4;refine dcl (Jll hX.1 hX.2 (hu1.ext y) (hu2.ext y) (λr hr x hx=>(af r hr x hx).noS) ad) ?_;rintro u w5 ⟨rfl,a3⟩;refine⟨a3,?_⟩;have ae:decide (nz vs=nz b.vs/\rows=b.rs)=true:=decide_eq_true ⟨by rw[ev,e],er⟩;refine ρd ?_;refine ρ ?_;exact Jq ⟨congrArg Value.bool ae,y.trans a3⟩
open Go.RowKit Pl Go.Wk Bl Nw
theorem zB32: Xj Tryz.prog 98=some (.agg ((List.replicate 32 false).map Value.bool).toArray):=kr
theorem Qvw(n v:Nat): (List.replicate n false).getD v false=false:=by
 rw[List.getD,List.getElem?_replicate];split<;>rfl
theorem Qvz{vl va:Value}{bs:List Atm}{n:Nat}{w:World}(hl:GX 2 RaC Nn w vl (bs.map raO))(ha:IntsV w va (nz (bs.map (·.ar)))):
  Ret Tryz.prog 14 [.int .i64 (n:Int),vl,va] w λu w'=>(∃ e,u=.int .i64 e/\(e=0↔Gd (n:Int) bs))/\Ext w w':=by
 obtain⟨A,c,_,rfl,hc,bd,hR,_,he⟩:=id hl.el;obtain⟨B,bc,rfl,_,_,ah⟩:=ha;have av:(bs.map raO).length=bs.length:=List.length_map ..;have ao:(nz (bs.map (·.ar))).length=bs.length:=by rw[Jo,List.length_map]
 rw[av]at hR bd;rw[ao]at ah;refine Jz Tryz.func14 Tryz.ntmps14 rfl kr rfl ?_;rw[av,ao];refine ρ ?_;refine ci (λh=>?_) (λh=>?_)
 .have h:=oT h;refine ρ ?_;exact Jq ⟨⟨3,rfl,λe=>absurd e (by decide),λhc=>by have:=hc.2.1;omega⟩,Ext.refl _⟩
 have bm:n<=32:=by have:=oF h;omega
 clear h;refine ρ ?_;refine ci (λh=>?_) (λh=>?_)
 .have h:=oT h;refine ρ ?_;exact Jq ⟨⟨12,rfl,λe=>absurd e (by decide),λhc=>by have:=hc.2.2.1;omega⟩,Ext.refl _⟩
 have bl:bs.length<=32:=by have:=oF h;omega
 clear h;refine ρ ?_;refine alc zB32 ?_;intro w0 b7 b2 bf bj;refine ρ ?_;refine Qz (fun (i:Nat) (ss:List Bool)=>[(0,.int .i64 (n:Int)),(1,.slice A bs.length c),(2,.slice B bs.length bc),(7,.pointer (some ⟨b7,0,none⟩)),(8,.int .i64 (i:Int))])
  (λi ss w'=>Ext w w'/\i<=bs.length/\(∀ j,j<i->Zp (n:Int) (bs.getD j a0))/\Blk w' b7 98 (ss.map Value.bool)/\ss.length=32/\∀ v,v<32->(ss.getD v false=true↔∃ j,j<i/\(v:Int)∈(bs.getD j a0).vars)) (λi _=>bs.length-i) 0 (List.replicate 32 false) sB
  ⟨b2,Nat.zero_le _,λj J=>absurd J (Nat.not_lt_zero _),bj,by simp,λv hv=>⟨λe=>(by rw[Qvw]at e;cases e),λ⟨j,J,_⟩=>absurd J (Nat.not_lt_zero _)⟩⟩ ?_
 rintro i ss w1 ⟨ae,hi,am,hS,ai,a3⟩;refine ρ ?_;refine ci (λh=>?_) (λh=>?_)
 .have li:i<bs.length:=by have:=oT h;omega
  clear h;obtain⟨ce,_,⟨v1,v2,rfl,an⟩,be⟩:=he i om;have hA:=an.here.1;have bg:(bs.map raO)[i].vars=(bs.getD i a0).vars:=by simp[List.getD,List.getElem?_eq_getElem li,raO]
  rw[bg]at hA;have bh:(bs.map (·.ar)).getD i 0=(bs.getD i a0).ar:=by simp[List.getD,List.getElem?_eq_getElem li]
  have ap:bs.getD i a0∈bs:=getD_mem' a0 bs li;have a8:¬ Zp (n:Int) (bs.getD i a0)->∀ e:Int,e≠0->(e=0↔Gd (n:Int) bs):=λh e he=>⟨λh'=>absurd h' he,λh'=>absurd (h'.2.2.2.1 _ ap) h⟩;generalize hga:bs.getD i a0=a at *
  obtain⟨D,d,rfl,hd,bp,hD⟩:=hA;have c0:∀ {w':World},Ext w w'->w'.cell? ((adr A (i*2)).add 0)=some (.slice D a.vars.length d):=λhx=>Qs hx (be 0 _ rfl);refine ρ ?_;refine Jl (fun (k:Nat)=>[(0,.int .i64 (n:Int)),(1,.slice A bs.length c),(2,.slice B bs.length bc),(7,.pointer (some ⟨b7,0,none⟩)),(8,.int .i64 (i:Int)),(9,.int .i64 (k:Int))])
   (λk w'=>Ext w w'/\Ext w1 w'/\1<=k/\(k=1∨k<=a.vars.length)/\∀ j,0<j->j<k->j<a.vars.length->a.vars.getD (j-1) 0<a.vars.getD j 0) (λk=>a.vars.length+1-k) 1 sB ⟨ae,Ext.refl _,Nat.le_refl _,.inl rfl,λj h1 h2=>om⟩ ?_
  rintro k w2 ⟨a7,ac,b9,b8,Z⟩;refine ρ ?_;refine ixq 2 i (hR.ext a7) li ?_;refine ρ ?_;refine ld (c0 a7) ?_;refine ρ ?_;refine ci (λh=>?_) (λh=>?_)
  .have lk:k<a.vars.length:=by have:=oT h;omega
   clear h;have a1:Ext w2 w2.drew:=(Ext.refl w2).drew;have y:=a7.trans a1;refine ρ ?_;refine dr [(0,0),(0,1),(0,2),(0,3),(0,4),(0,5),(0,6),(0,7),(0,8),(0,9),(0,10),(0,11),(0,12),(0,13),(0,14),(0,15),(0,16),(0,17)] kr ?_;refine ρd ?_;refine Qp 2 i (hR.ext y) li ?_;refine ρd ?_;refine dld (c0 y) ?_;refine ρd ?_;refine dix (k-1) (hD.ext y) om ?_;refine ρd ?_;refine dld ((hD.ext y).cell (Ve (by omega:k-1<a.vars.length))) ?_;refine ρd ?_;refine Qp 2 i (hR.ext y) li ?_;refine ρd ?_;refine dld (c0 y) ?_;refine ρd ?_;refine dix k (hD.ext y) lk ?_;refine ρd ?_;refine dld ((hD.ext y).cell (Ve lk)) ?_;refine ρd ?_;refine ρ ?_;refine ci (λh=>?_) (λh=>?_)
   .have h:=oT h;refine ρ ?_;exact Jq ⟨⟨16,rfl,a8 (λhk=>by have:=hk.1 k om lk;omega) 16 (by decide)⟩,y⟩
   have h:=oF h;refine ρ ?_;exact Jg (k+1) sO ⟨y,ac.trans a1,om,.inr om,λj h1 h2 h3=>by
    rcases Nat.lt_or_ge j k with h4|h4
    .exact Z j h1 h4 h3
    have:j=k:=om
    subst this;omega⟩ om
  have au:Jxm a.vars:=λj h1 h2=>Z j h1 (by have:=oF h;omega) h2;clear h Z b9 b8;refine ρ ?_;refine Jl (fun (k:Nat)=>[(0,.int .i64 (n:Int)),(1,.slice A bs.length c),(2,.slice B bs.length bc),(7,.pointer (some ⟨b7,0,none⟩)),(8,.int .i64 (i:Int)),(10,.int .i64 (k:Int))])
   (λk w'=>Ext w w'/\Ext w1 w'/\k<=a.vars.length/\∀ j,j<k->0<=a.vars.getD j 0/\a.vars.getD j 0<(n:Int)) (λk=>a.vars.length-k) 0 sB ⟨a7,ac,Nat.zero_le _,λj J=>absurd J (Nat.not_lt_zero _)⟩ ?_
  rintro q w3 ⟨F,aa,hq,a5⟩;refine ρ ?_;refine ixq 2 i (hR.ext F) li ?_;refine ρ ?_;refine ld (c0 F) ?_;refine ρ ?_;refine ci (λh=>?_) (λh=>?_)
  .have lq:q<a.vars.length:=by have:=oT h;omega
   clear h;have a6:¬ (0<=a.vars.getD q 0/\a.vars.getD q 0<(n:Int))->¬ Zp (n:Int) a:=λh hk=>h (hk.2.1 _ (getD_mem' 0 _ lq));refine ρ ?_;refine ixq 2 i (hR.ext F) li ?_;refine ρ ?_;refine ld (c0 F) ?_;refine ρ ?_;refine ix q (hD.ext F) lq ?_;refine ρ ?_;refine ld ((hD.ext F).cell (Ve lq)) ?_;refine ρ ?_;refine ki 75 (λh=>?_) (λh=>?_)
   .have h:=oT h;refine ρ ?_;exact Jq ⟨⟨3,rfl,a8 (a6 om) 3 (by decide)⟩,F⟩
   have bo:=oF h;refine ρ ?_;refine ixq 2 i (hR.ext F) li ?_;refine ρ ?_;refine ld (c0 F) ?_;refine ρ ?_;refine ix q (hD.ext F) lq ?_;refine ρ ?_;refine ld ((hD.ext F).cell (Ve lq)) ?_;refine ρ ?_;refine ci (λh=>?_) (λh=>?_)
   .have h:=oT h;refine ρ ?_;exact Jq ⟨⟨3,rfl,a8 (a6 om) 3 (by decide)⟩,F⟩
   have h:=oF h;refine ρ ?_;exact Jg (q+1) sO ⟨F,aa,om,λj J=>by
    rcases Nat.lt_or_ge j q with h4|h4
    .exact a5 j h4
    have:j=q:=om
    subst this;omega⟩ om
  have aj:∀ v∈a.vars,0<=v/\v<(n:Int):=mem_getD λj J=>a5 j (by have:=oF h;omega);clear h a5;have a1:Ext w3 w3.drew:=(Ext.refl w3).drew;have G:=F.trans a1;refine ρ ?_;refine dr [(0,0),(0,1),(0,2),(0,3),(0,4),(0,5),(0,6),(0,7),(0,8),(0,9),(0,10)] kr ?_;refine ρd ?_;refine Qp 2 i (hR.ext G) li ?_;refine ρd ?_;refine dld (c0 G) ?_;refine ρd ?_;refine dix i (ah.ext G) li ?_;refine ρd ?_;refine dld (v:=.int .i64 (a.ar:Int)) (((ah.ext G).cell (Qh (by rw[List.length_map];exact li))).trans (by rw[bh])) ?_;refine ρd ?_;refine ρ ?_;refine ci (λh=>?_) (λh=>?_)
  .have b6:a.vars.length≠a.ar:=λe=>by rw[e]at h;simp at h
   refine ρ ?_;exact Jq ⟨⟨6,rfl,a8 (λhk=>b6 hk.2.2) 6 (by decide)⟩,G⟩
  have bb:a.vars.length=a.ar:=by simp at h;omega
  clear h;have bi:=hS.ext (aa.trans a1);refine ρ ?_;refine Qz (fun (k:Nat) (s2:List Bool)=>[(0,.int .i64 (n:Int)),(1,.slice A bs.length c),(2,.slice B bs.length bc),(7,.pointer (some ⟨b7,0,none⟩)),(8,.int .i64 (i:Int)),(11,.int .i64 (k:Int))])
   (λk s2 w'=>Ext w w'/\k<=a.vars.length/\Blk w' b7 98 (s2.map Value.bool)/\s2.length=32/\∀ v,v<32->(s2.getD v false=true↔(∃ j,j<i/\(v:Int)∈(bs.getD j a0).vars)∨(v:Int)∈a.vars.take k)) (λk _=>a.vars.length-k) 0 ss sB
   ⟨G,Nat.zero_le _,bi,ai,λv hv=>by rw[a3 v hv];simp⟩ ?_
  rintro r s2 w4 ⟨O,hr,a9,a4,a2⟩;refine ρ ?_;refine ixq 2 i (hR.ext O) li ?_;refine ρ ?_;refine ld (c0 O) ?_;refine ρ ?_;refine ci (λh=>?_) (λh=>?_)
  .have lr:r<a.vars.length:=by have:=oT h;omega
   clear h;have bn:=aj _ (getD_mem' 0 a.vars lr);obtain⟨v,hv⟩:∃ v:Nat,a.vars.getD r 0=(v:Int):=⟨(a.vars.getD r 0).toNat,om⟩;have U:v<32:=om
   refine ρ ?_;refine ixq 2 i (hR.ext O) li ?_;refine ρ ?_;refine ld (c0 O) ?_;refine ρ ?_;refine ix r (hD.ext O) lr ?_;refine ρ ?_;refine ld (v:=.int .i64 (v:Int)) (((hD.ext O).cell (Ve lr)).trans (by rw[hv])) ?_;refine ρ ?_;refine ixb v U ?_;refine ρ ?_;refine sto (p:=⟨b7,v,none⟩) (v:=.bool true) (a9.atc (v:=.bool (s2.getD v false)) (by simp[List.getD,a4,U])) (a9.frozen _) ?_;have aw:=a9.set v (.bool true);have aq:w.heap.size<=b7:=bf;have ay:Ext w (w4.setCell ⟨b7,v,none⟩ (.bool true)):=O.setCell aq _;have ax:(s2.map Value.bool).set v (.bool true)=(s2.set v true).map Value.bool:=by rw[List.map_set]
   rw[ax]at aw;have b4:a.vars.take (r+1)=a.vars.take r++[(v:Int)]:=by rw[Xw 0 lr,hv]
   refine ρ ?_;refine Jt (r+1) (s2.set v true) sO ⟨ay,lr,aw,by simp[a4],λu hu=>?_⟩ om;rw[Qlr _ _ _ _ om,b4];by_cases e:u=v
   .subst e;simp
   rw[if_neg e,a2 u hu];have:¬ (u:Int)=(v:Int):=om
   simp[this]
  have b5:r=a.vars.length:=by have:=oF h;omega
  subst b5;clear h;refine ρ ?_;refine Jt (i+1) s2 sO ⟨O,om,λj J=>?_,a9,a4,λv hv=>?_⟩ om
  .rcases Nat.lt_or_ge j i with h4|h4
   .exact am j h4
   have:j=i:=om
   subst this;rw[hga];exact⟨au,aj,bb⟩
  rw[a2 v hv,List.take_length];constructor
  .rintro(⟨j,J,hm⟩|hm)
   .exact⟨j,om,hm⟩
   exact⟨i,om,by rw[hga];exact hm⟩
  rintro⟨j,J,hm⟩;rcases Nat.lt_or_ge j i with h4|h4
  .exact .inl ⟨j,h4,hm⟩
  have:j=i:=om
  subst this;rw[hga]at hm;exact .inr hm
 have ba:i=bs.length:=by have:=oF h;omega
 subst ba;clear h;have af:∀ j,j<bs.length->bs.getD j a0∈bs:=λj J=>getD_mem' a0 bs J;have ak:∀ a∈bs,Zp (n:Int) a:=λa ha=>by
  obtain⟨j,J,rfl⟩:=List.getElem_of_mem ha;have:=am j J;rw[List.getD,List.getElem?_eq_getElem J]at this;exact this
 refine ρ ?_;refine Jl (fun (v:Nat)=>[(0,.int .i64 (n:Int)),(7,.pointer (some ⟨b7,0,none⟩)),(12,.int .i64 (v:Int))])
  (λv w'=>w'=w1/\v<=n/\∀ u,u<v->ss.getD u false=true) (λv=>n-v) 0 sB ⟨rfl,Nat.zero_le _,λu hu=>absurd hu (Nat.not_lt_zero _)⟩ ?_
 rintro v w2 ⟨rfl,hv,ad⟩;refine ρ ?_;refine ci (λh=>?_) (λh=>?_)
 .have lv:v<n:=by have:=oT h;omega
  clear h;have U:v<32:=om
  refine ρ ?_;refine ixb v U ?_;refine ρ ?_;refine ld (hS.atc (i:=v) (v:=.bool (ss.getD v false)) (by simp[List.getD,ai,U])) ?_;refine ρ ?_;refine ci (λh=>?_) (λh=>?_)
  .have hf:¬ ss.getD v false=true:=λe=>by rw[e]at h;simp at h
   refine ρ ?_;refine Jq ⟨⟨22,rfl,λe=>absurd e (by decide),λhc=>?_⟩,ae⟩;obtain⟨a,ha,hm⟩:=hc.2.2.2.2 v om;obtain⟨j,J,rfl⟩:=List.getElem_of_mem ha;refine absurd ((a3 v om).2 ⟨j,J,?_⟩) hf;rw[List.getD,List.getElem?_eq_getElem J];exact hm
  have ht:ss.getD v false=true:=by revert h;cases ss.getD v false<;>simp
  refine ρ ?_;exact Jg (v+1) sO ⟨rfl,lv,λu hu=>by
   rcases Nat.lt_or_ge u v with h4|h4
   .exact ad u h4
   have:u=v:=om
   subst this;exact ht⟩ om
 have b3:v=n:=by have:=oF h;omega
 subst b3;refine ρ ?_;refine Jq ⟨⟨0,rfl,λ_=>⟨om,om,bl,ak,λu hu=>?_⟩,λ_=>rfl⟩,ae⟩;obtain⟨j,J,hm⟩:=(a3 u om).1 (ad u om);exact⟨_,af j J,hm⟩
end Go.Proofs.YtebiphhfkdbpfaaGreat
namespace Go.Wk
variable {d n ty v:Nat}
theorem sl32b{P:Program}{al:AL}{w:World}{Q:Exit->Act->World->Prop}{ops:Array Oper}{rest:List Oper}{pos:String}{aft:Array Edge}{y:Operand}{t yt:TypeId}{k2:IntKind}(hv:v<32)(kk:WL P n ops Q rest ((d,.int .u32 ((2^v:Nat):Int))::al) w)(hy:ev al y=some (.int k2 (v:Int)):=by rfl)(hd:Nat.blt d n=true:=by rfl):
  WL P n ops Q (⟨some d,.binOp .shl t (.const (.int .u32 1)) y yt,ty,pos,aft,none⟩::rest) al w:=by
 rw[<-Jhk hv]at kk;exact wop hd (λa u=>Jyk (x:=.const (.int .u32 1)) rfl hy om u (some d) w) kk
end Go.Wk
namespace Go.Proofs.YtebiphhfkdbpfaaGreat
open Go.RowKit Pl Go.Wk Bl Nw
attribute [local irreducible] WC WL QX WD WDB WP WN WG WH
variable {l:List PA}{n s:Nat}
def atP(p:PA): Atm:=⟨nz p.vs,p.vs.length,p.rs⟩
structure CtxP(n:Nat)(l:List PA): Prop where
 asc:∀ p∈l,Qf p.vs
 lt:∀ p∈l,∀ v∈p.vs,v<n
 len:∀ p∈l,∀ r∈p.rs,r.length=p.vs.length
 d4:∀ p∈l,∀ r∈p.rs,∀ x∈r,D4 x
 cnt:∀ p∈l,p.rs.length<=12
 srt:∀ p∈l,Lt [] p.rs
 cov:∀ v,v<n->∃ p∈l,v∈p.vs
 few:l.length<=32
theorem CtxP.sm(h:CtxP n l)(hn:n<=8): SmL l :=
 ⟨λa u v y=>nM (h.lt a u v y) hn,h.len,h.d4,λa u=>nL (h.cnt a u) (by decide)⟩
theorem Jfb{n:Nat}: ∀ {l:List LA} {ms:List (List Row)},ms.length=l.length->(∀ a∈l,a.fits)->(∀ i (h1:i<l.length) (h2:i<ms.length),Rl l[i] ms[i])->n<=32->(∀ a∈l.zipWith atm ms,Zp (n:Int) a) ->
  ∃ pas:List PA,l.zipWith atm ms=pas.map atP/\l.zipWith rat' ms=pas.map raP/\pas.length=l.length/\(l.map λa=>(lvs a).length)=pas.map (λp=>p.vs.length) /\
   ∀ p∈pas,Qf p.vs/\(∀ v∈p.vs,v<n)/\(∀ r∈p.rs,r.length=p.vs.length)/\(∀ r∈p.rs,∀ x∈r,D4 x)/\p.rs.length<=12/\Lt [] p.rs
 | [],[],_,_,_,_,_=>⟨[],rfl,rfl,rfl,rfl,λp hp=>by cases hp⟩
 | a::l,m::ms,hl,hf,hR,hn,hok=>by
  obtain⟨pas,h1,h2,h3,h4,h5⟩:=Jfb (n:=n) (l:=l) (ms:=ms) (by simpa using hl) (λb hb=>hf b (List.mem_cons_of_mem _ hb)) (λi g1 g2=>hR (i+1) (by simp;omega) (by simp;omega)) hn (λb hb=>hok b (by rw[List.zipWith_cons_cons];exact List.mem_cons_of_mem _ hb));have hk:=hok (atm a m) (by rw[List.zipWith_cons_cons];exact mC);have hk32:Zp 32 (atm a m):=⟨hk.1,λv hv=>⟨(hk.2.1 v hv).1,by have:=(hk.2.1 v hv).2;omega⟩,hk.2.2⟩;have ok:=okA hk32;have hmr:MadeR a m:=Qvr (hR 0 (by simp) (by simp)) (hf a mC);refine⟨⟨vsO a,m⟩::pas,?_,?_,by simp[h3],?_,λp hp=>?_⟩
  .rw[List.zipWith_cons_cons,List.map_cons,h1,ok.atm];rfl
  .rw[List.zipWith_cons_cons,List.map_cons,h2];show(⟨Qd a,m⟩:RA)::_=_;rw[ok.nz];rfl
  .rw[List.map_cons,List.map_cons,h4,ok.len]
  rcases List.mem_cons.1 hp with rfl|hp
  .refine⟨ok.asc,λv hv=>?_,λr hr=>by rw[hmr.len r hr,ok.len],hmr.d4,hmr.cnt,hmr.lt⟩;have:=(hk.2.1 (v:Int) (by rw[show(atm a m).vars=Qd a from rfl,ok.nz];exact List.mem_map.2 ⟨v,hv,rfl⟩)).2;omega
  exact h5 p hp
theorem Qnm{l:List LA}{ms:List (List Row)}(hl:ms.length=l.length)(hf:∀ a∈l,a.fits)(hR:∀ i (h1:i<l.length) (h2:i<ms.length),Rl l[i] ms[i])(hc:Gd (n:Int) (l.zipWith atm ms)):
  ∃ pas:List PA,l.zipWith atm ms=pas.map atP/\l.zipWith rat' ms=pas.map raP/\pas.length=l.length/\CtxP n pas:=by
 obtain⟨pas,h1,h2,O,_,D⟩:=Jfb hl hf hR (by have:=hc.2.1;omega) hc.2.2.2.1;refine⟨pas,h1,h2,O,λp y=>(D p y).1,λp y=>(D p y).2.1,λp y=>(D p y).2.2.1,λp y=>(D p y).2.2.2.1,λp y=>(D p y).2.2.2.2.1,λp y=>(D p y).2.2.2.2.2,λv U=>?_,?_⟩
 .obtain⟨a,F,J⟩:=hc.2.2.2.2 v om;rw[h1]at F;obtain⟨p,y,rfl⟩:=List.mem_map.1 F;obtain⟨u,G,e⟩:=List.mem_map.1 J;have:u=v:=by
   have e:(u:Int)=(v:Int):=e;omega
  subst this;exact⟨p,y,G⟩
 have:=hc.2.2.1;rw[h1,List.length_map]at this;exact this
def p0: PA:=⟨[],[]⟩
theorem Qcs(l:List PA): paR l.length (λi=>(l.getD i p0).vs) (λi=>(l.getD i p0).rs)=l:=by
 unfold paR;refine List.ext_getElem (by simp) λi y u=>?_;simp[List.getD,List.getElem?_eq_getElem u]
theorem MatS.d4{l:List PA}{n s:Nat}{M:List Row}(h:CtxP n l)(hs:s<2^n)(hM:MatS l s M): ∀ r∈M,r.length=(bk s 32).length/\∀ y∈r,D4 y:=by
 intro r hr;obtain⟨x,rfl,hx⟩:=(hM.2 r).1 hr;refine⟨by simp,λy Z=>?_⟩;obtain⟨u,hu,rfl⟩:=List.mem_map.1 Z;have O:=(bk_mem.1 hu).2;obtain⟨p,F,hv⟩:=h.cov u (Uz hs O);obtain⟨j,G,e⟩:=List.getElem_of_mem hv;have U:p.vs.getD j 0=u:=by rw[List.getD,List.getElem?_eq_getElem G];exact e
 obtain⟨q,J,hg⟩:=hx p F;have:=hg j G (by rw[U];exact O);rw[U]at this;have D:j<q.length:=by rw[h.len p F q J];exact G
 rw[<-this,List.getD,List.getElem?_eq_getElem D];exact h.d4 p F q J _ (List.getElem_mem D)
theorem bk_n(hs:s<2^n)(hn:n<=32): (bk s 32).length<=n:=by
 have:=Ia ((Yq s 32).imp λh=>om) (m:=List.range n) λu y=>List.mem_range.2 (Uz hs (bk_mem.1 y).2);rw[List.length_range]at this;exact this
theorem MatS.cnt{M:List Row}(h:CtxP n l)(hs:s<2^n)(hn:n<=8)(hM:MatS l s M): M.length<=65536 :=
 nL (Jkm hM.1 (hM.d4 h hs)) (Jqf (nL (bk_n hs om) hn))
theorem Jbl{vo:Value}{w:World}(hC:CtxP n l)(hn:n<=8)(hG:GX 3 AtC Nn w vo (l.map atP))(hs:s<2^n):
  Ret Tryz.prog 15 [.int .i64 (n:Int),.int .u32 (s:Int),vo] w λu w'=>Ext w w'/\∃(t':V3) (st:Int) (M:List Row),u=.tuple #[.agg t'.cells.toArray,.int .i64 st,.int .i64 0]/\Off (Ol w) w' (λx=>AtV x t' (atP ⟨bk s 32,M⟩))/\MatS l s M:=by
 obtain⟨J,A,c,G,rfl,hc,_,hR,aa⟩:=Jds (hG.1.imp (Ψ:=AtG) (f:=λa=>a) λcs a _ ⟨t,e,h⟩=>⟨t,e,h.here⟩);rw[List.map_id']at G;have F:J.length=l.length:=by
  have:=congrArg List.length G;rw[List.length_map,List.length_map]at this;exact this.symm
 have D:∀ i,i<J.length->l.getD i p0∈l:=λi hi=>getD_mem' p0 l om;have a4:∀ i,i<J.length->(J.getD i ta0).2=⟨nz (l.getD i p0).vs,(l.getD i p0).vs.length,(l.getD i p0).rs⟩:=λi hi=>by
  rw[<-Jjw,<-G];have a9:i<l.length:=om
  simp[List.getD,List.getElem?_eq_getElem a9,atP]
 have a7:MOk n J (λi=>(l.getD i p0).vs) (λi=>(l.getD i p0).rs) s:=by
  refine⟨⟨om,by rw[F];exact hC.few,a4,λi hi=>hC.asc _ (D i hi),λi hi=>hC.lt _ (D i hi),λv U=>?_,λi hi=>hC.srt _ (D i hi),λi hi=>hC.len _ (D i hi),λi hi=>nL (hC.cnt _ (D i hi)) (by decide)⟩,hs,λi hi r hr=>List.all_eq_true.2 λx O=>(hC.d4 _ (D i hi) r hr x O).valid,λi hi=>.inl (nL (hC.cnt _ (D i hi)) (by decide))⟩;obtain⟨p,hp,U⟩:=hC.cov v U;obtain⟨j,hj,rfl⟩:=List.getElem_of_mem hp;exact⟨j,om,by rw[List.getD,List.getElem?_eq_getElem hj];exact U⟩
 have a6:paR J.length (λi=>(l.getD i p0).vs) (λi=>(l.getD i p0).rs)=l:=by rw[F];exact Qcs l
 refine(Jnq a7 hR hc aa λL hL O=>?_).mono λu w' ⟨O,t',st,M,e,a1,a8,hm,_⟩=>⟨O,t',st,M,e,a1,by
  have:=Qfv hs a8 hm;rw[a6]at this;exact this⟩
 refine nL (Jkm hL λz hz=>?_) (Jqf (nL (bk_n hs om) hn));obtain⟨y,hy,rfl,hb⟩:=O z hz;refine⟨by simp[pmR],λv U=>?_⟩;obtain⟨u,hu,rfl⟩:=List.mem_map.1 U;have a3:=(bk_mem.1 hu).2;obtain⟨p,hp,a5⟩:=hC.cov u (Uz hs a3);obtain⟨i,hi,rfl⟩:=List.getElem_of_mem hp;have ac:l.getD i p0=l[i]:=by rw[List.getD,List.getElem?_eq_getElem hi];rfl
 obtain⟨j,hj,e⟩:=List.getElem_of_mem a5;have e2:(l[i]).vs.getD j 0=u:=by rw[List.getD,List.getElem?_eq_getElem hj];exact e
 obtain⟨q,Z,hg⟩:=hb i om;have Z:q∈(l.getD i p0).rs:=Z;have hg:∀ j,j<(l.getD i p0).vs.length->s.testBit ((l.getD i p0).vs.getD j 0)=true->q.getD j V0=y.getD ((l.getD i p0).vs.getD j 0) V0:=hg;rw[ac]at Z hg;have:=hg j hj (by rw[e2];exact a3);rw[e2]at this;have a2:j<q.length:=by rw[hC.len _ (List.getElem_mem hi) q Z];exact hj
 rw[<-this,List.getD,List.getElem?_eq_getElem a2];exact hC.d4 _ (List.getElem_mem hi) q Z _ (List.getElem_mem a2)
theorem Qwm(hs:s<4294967296)(hn:n<=31): bits .and .u32 (s:Int) (IntKind.u32.wrap (((2^n:Nat):Int)-1))=((s % 2^n:Nat):Int):=by
 have u:0<2^n:=Nat.two_pow_pos n;have y:2^n<=2147483648:=Nat.pow_le_pow_right (by decide:0<2) hn;rw[show((2^n:Nat):Int)-1=((2^n-1:Nat):Int) by omega,u32w om,u32_and_nat s (2^n-1) hs om,Nat.and_two_pow_sub_one_eq_mod]
end Go.Proofs.YtebiphhfkdbpfaaGreat
namespace Go.Wk
open Go.RowKit
section
variable {P:Program} {n:Nat} {al:AL} {w:World} {Q:Exit->Act->World->Prop} {ops:Array Oper} {rest:List Oper} {d ty:Nat} {pos:String} {aft:Array Edge} {tt:TT}
end
end Go.Wk
namespace Go.Proofs.YtebiphhfkdbpfaaGreat
open Go.RowKit Pl Go.Wk Bl Nw
attribute [local irreducible] WC WL QX WD WDB WP WN WG WH
variable {A B rs:List Row}
def AgV(vs:List Int)(rs:List Row)(v:Value)(w:World): Prop:=∃ A n c B m d,v=.agg #[.slice A n c,.slice B m d]/\IntsV w (.slice A n c) vs/\RowsV w (.slice B m d) rs
theorem AgV.ext{vs:List Int}{rs:List Row}{v:Value}{w w':World}(h:AgV vs rs v w)(hx:Ext w w'): AgV vs rs v w':=by
 obtain⟨A,n,c,B,m,d,e,y,u⟩:=h;exact⟨A,n,c,B,m,d,e,y.ext hx,u.ext hx⟩
theorem agV{vs:List Int}{v1 v2:Value}{w:World}(h1:IntsV w v1 vs)(h2:RowsV w v2 rs): AgV vs rs (.agg #[v1,v2]) w:=by
 obtain⟨A,c,rfl,_⟩:=id h1;obtain⟨ps,B,d,_,rfl,_⟩:=id h2;exact⟨_,_,_,_,_,_,rfl,h1,h2⟩
def SF.ag(vs:List Int)(rs:List Row): SF:=⟨AgV vs rs,λh hx=>h.ext hx⟩
def SF.b1(vr:Value): SF:=⟨λv w=>∃ b,v=.slice (some ⟨b,0,none⟩) 1 1/\Blk w b 54 [vr],λ⟨b,e,h⟩ hx=>⟨b,e,h.ext hx⟩⟩
def SF.ab(vs:List Int)(rs:List Row): SF:=⟨λv w=>∃ b A n c B m d,v=.slice (some ⟨b,0,none⟩) 1 1/\Blk w b 46 [.slice A n c,.slice B m d]/\IntsV w (.slice A n c) vs/\RowsV w (.slice B m d) rs,λ⟨b,A,n,c,B,m,d,e,h,h1,h2⟩ hx=>⟨b,A,n,c,B,m,d,e,h.ext hx,h1.ext hx,h2.ext hx⟩⟩
theorem Jfc: ∀ {l:List LA} {ms:List (List Row)},ms.length=l.length->(l.map λa=>(lvs a).length)=(l.zipWith atm ms).map (·.ar)
 | [],[],_=>rfl
 | a::l,m::ms,h=>by
  rw[List.zipWith_cons_cons,List.map_cons,List.map_cons,Jfc (by simpa using h)];rfl
theorem Jdz: ∀ {l:List LA} {ms:List (List Row)},l.zipWith rat' ms=(l.zipWith atm ms).map raO
 | [],_=>rfl
 | _::_,[]=>rfl
 | a::l,m::ms=>by
  rw[List.zipWith_cons_cons,List.zipWith_cons_cons,List.map_cons,Jdz];rfl
theorem smL2{n:Nat}{vs:List Nat}(hn:n<=8)(h1:∀ v∈vs,v<n)(hA:∀ r∈A,r.length=vs.length/\∀ y∈r,D4 y)(hB:∀ r∈B,r.length=vs.length/\∀ y∈r,D4 y)(cA:A.length<=1000000)(cB:B.length<=1000000): SmL [⟨vs,A⟩,⟨vs,B⟩]:=by
 have u:∀ {P:PA->Prop},P ⟨vs,A⟩->P ⟨vs,B⟩->∀ a∈[(⟨vs,A⟩:PA),⟨vs,B⟩],P a:=λh1 J a G=>by
  simp only[List.mem_cons,List.not_mem_nil,or_false]at G;rcases G with rfl|rfl<;>assumption
 exact⟨u (λv F=>nM (h1 v F) hn) λv F=>nM (h1 v F) hn,u (λr D=>(hA r D).1) λr D=>(hB r D).1,u (λr D=>(hA r D).2) λr D=>(hB r D).2,u cA cB⟩
open Go.RowKit Pl Go.Wk Bl Nw
variable {M:List Row}{a b n s sa:Nat}{t:V3}{w:World}
theorem Qnl{l:List PA}(h:CtxP n l)(hl:l.length<=6): CtxP n (l++l):=by
 have key:∀ {P:PA->Prop},(∀ p∈l,P p)->∀ p∈l++l,P p:=λh p y=>(List.mem_append.1 y).elim (h p) (h p);refine⟨key h.asc,key h.lt,key h.len,key h.d4,key h.cnt,key h.srt,λv u=>?_,by rw[List.length_append];omega⟩;obtain⟨p,y,u⟩:=h.cov v u;exact⟨p,List.mem_append_left _ y,u⟩
theorem bs0At(w:World): (Instr.buildSlice 26 0 #[]).run Tryz.prog w=.ok (.slice (some ⟨w.heap.size,0,none⟩) 0 0) (w.alloc (.cells ([]:List Value).toArray 37)):=kr
theorem AtC.one{N:Nat->Prop}{w:World}{cs:List Value}{a:Atm}(h:AtC N w cs a): ∀ u∈cs,u.oneCell'=true:=by
 obtain⟨t,rfl,h⟩:=h;exact h.here.one
theorem Qcz(ha:a<4294967296)(hb:b<4294967296)(hn:n<=31): bits .and .u32 (bits .or .u32 (a:Int) (b:Int)) (IntKind.u32.wrap (((2^n:Nat):Int)-1))=(((a ||| b) % 2^n:Nat):Int):=by
 rw[Qjj ha hb];exact Qwm (Jbf ha hb) hn
theorem Jkc(h:AtV w t (atP ⟨bk s 32,M⟩))(hl:∀ r∈M,r.length=(bk s 32).length)(hm:M.length<=65536): Ret Tryz.prog 18 [.agg t.cells.toArray] w λu w'=>AgV (nz (bk s 32)) M u w'/\Ext w w' :=
 (Qhd h (λr y=>by
  have:=hl r y;have:=Jwt s 32;omega) (by show M.length<=1100000;omega)).mono λu w' ⟨O,J,e,G,F,D⟩=>⟨by rw[e];exact agV G F,D⟩
theorem Jww(h:AtV w t (atP ⟨bk s 32,M⟩)): ∃ A c B m d,t=(.slice A (nz (bk s 32)).length c,.int .i64 ((bk s 32).length:Int),.slice B m d):=by
 obtain⟨Z,U,O⟩:=t;obtain⟨⟨E,ec,y,_⟩,D,G,F,fc,J,u,_⟩:=h;simp only at y D u;subst y;subst D;subst u;exact⟨_,_,_,_,_,rfl⟩
theorem Qsg{vl:Value}{l:List LA}{sb:Nat}(hl:GX 3 LaC Nn w vl l)(hll:l.length<=1048576)(hn256:n<256)(hsa:sa<4294967296)(hsb:sb<4294967296):
  Ret Tryz.prog 5 [.int .u8 (n:Int),vl,.agg #[.int .u32 (sa:Int),.int .u32 (sb:Int)]] w λu w'=>u=.bool true/\Ext w w':=by
 refine Jz Tryz.func5 Tryz.ntmps5 rfl kr rfl ?_;refine ρ ?_;refine bx (cs:=[.int .u32 (sa:Int),.int .u32 (sb:Int)]) ?_;intro w0 b5 c7 fe en;refine ρ ?_;refine cl (Jnr (hl.ext LaC.sta (by decide) c7) hll) ?_;rintro u w1 ⟨b9,h3⟩;have ae:=c7.trans b9;rcases h3 with⟨hf,vo,vm,va,ms,rfl,cb,eh,hO,hM,hI⟩|⟨hno,rfl⟩
 case inr=>
  refine ρ ?_;refine cl (Jdr _) ?_;rintro x w4 ⟨rfl,F⟩;refine ρ ?_;exact Jq ⟨rfl,ae.trans F⟩
 have aw:∀ {w2:World},Ext w w2->Ret Tryz.prog 8 [] w2 λu w'=>u=.bool true/\Ext w w':=λh=>(Jdr _).mono λu w' ⟨e,hx⟩=>⟨e,h.trans hx⟩;refine ρ ?_;by_cases h6:l.length<=6
 case neg=>
  refine kt 33 ?_ ?_
  .rw[decide_eq_false h6];rfl
  refine ρ ?_;refine cl (aw ae) ?_;rintro x w4 ⟨rfl,F⟩;refine ρ ?_;exact Jq ⟨rfl,F⟩
 refine kf 33 ?_ ?_
 .rw[decide_eq_true h6];rfl
 refine ρ ?_;by_cases h5:n<=5
 case neg=>
  refine kt 37 ?_ ?_
  .exact decide_eq_true om
  refine ρ ?_;refine cl (aw ae) ?_;rintro x w4 ⟨rfl,F⟩;refine ρ ?_;exact Jq ⟨rfl,F⟩
 refine kf 37 ?_ ?_
 .exact dF om
 rw[Jdz]at hM;rw[Jfc cb]at hI;have ax:IntKind.i64.wrap (n:Int)=(n:Int):=Vz om;refine ρ ?_;refine kv 39 (congrArg (Value.int .i64) ax) ?_;refine cl (Qvz (n:=n) hM hI) ?_;rintro u w2 ⟨⟨e,rfl,he⟩,ap⟩;have c6:=ae.trans ap;by_cases h0:e=0
 case neg=>
  refine ρ ?_;refine ct ?_ ?_
  .simpa using h0
  refine ρ ?_;refine cl (aw c6) ?_;rintro x w4 ⟨rfl,F⟩;refine ρ ?_;exact Jq ⟨rfl,F⟩
 have ce:=he.1 h0;subst h0;clear he;obtain⟨a7,eA,eR,fb,hC⟩:=Qnm cb hf eh ce;rw[eA]at hO;have a6:n<=8:=om
 have hS:(sa ||| sb) % 2^n<2^n:=Nat.mod_lt _ (Nat.two_pow_pos n);have bb:(sa ||| sb) % 2^n<4294967296:=nN (Nat.mod_le _ _) (Jbf hsa hsb);have cm:=Qcz hsa hsb (by omega:n<=31);generalize (sa ||| sb) % 2^n=S at *
 have bf:=u32_and_nat sa S hsa bb;have hs:sa &&& S<2^n:=nN Nat.and_le_right hS;have c9:sa &&& S<4294967296:=nN Nat.and_le_right bb;have c8:∀ v,(sa &&& S).testBit v=true->S.testBit v=true/\v<32:=λv hv=>by
  rw[Nat.testBit_and,Bool.and_eq_true]at hv;refine⟨hv.2,?_⟩;have:=Uz hS hv.2;omega
 generalize sa &&& S=T at *
 have ak:=(en.ext b9).ext ap;refine ρ ?_;refine ixb 0 (m:=2) (by decide) ?_;refine ρ ?_;refine ld (ak.atc (i:=0) rfl) ?_;refine ρ ?_;refine ixb 1 (m:=2) (by decide) ?_;refine ρ ?_;refine ld (ak.atc (i:=1) rfl) ?_;refine ρ ?_;refine sl32b (v:=n) om ?_;refine ρ ?_;refine kv 11 (congrArg (Value.int .u32) cm) ?_;refine ixb 0 (m:=2) (by decide) ?_;refine ρ ?_;refine ld (ak.atc (i:=0) rfl) ?_;refine ρ ?_;refine kv 12 (congrArg (Value.int .u32) bf) ?_;refine kv 61 (congrArg (Value.int .i64) ax) ?_;refine cl (Jbl hC a6 (hO.ext AtC.sta (by decide) ap) hS) ?_;rintro u w3 ⟨dt,tX,stX,X,rfl,dx,av⟩;have hX:=dx.here;have bh:=av.d4 hC hS;have au:=av.cnt hC hS a6;obtain⟨X1,bp,X3,bn,bo,rfl⟩:=Jww hX;refine ρ ?_;refine alc Zr ?_;intro w4 fi F e7 eo;refine ρ ?_;refine stb (cs':=[.slice X1 (nz (bk S 32)).length bp,.int .i64 ((bk S 32).length:Int),.slice X3 bn bo]) eo ?_ (Kk rfl);intro w5 d6 fd dq
 have b3:Ext w3 w5:=dq w3 F e7;have b8:=ap.trans (dt.trans b3);refine ρ ?_;refine kv 70 (congrArg (Value.int .i64) ax) ?_;refine cl (Jbl hC a6 (hO.ext AtC.sta (by decide) b8) hs) ?_;rintro u w6 ⟨dn,tY,f6,Y,rfl,dw,bi⟩;have hY:=dw.here;have bg:=bi.d4 hC hs;have eg:=bi.cnt hC hs a6;obtain⟨Y1,dd,Y3,db,dc,rfl⟩:=Jww hY;refine ρ ?_;refine alc Zr ?_;intro w7 fh dm e6 em;refine ρ ?_;refine stb (cs':=[.slice Y1 (nz (bk T 32)).length dd,.int .i64 ((bk T 32).length:Int),.slice Y3 db dc]) em ?_ (Kk rfl);intro w8 d5 fc dl;have b2:Ext w6 w8:=dl w6 dm e6;have aa:=dn.trans b2;have am:=d6.ext aa;have cq:=hX.ext (b3.trans aa);have ch:∀ v∈bk S 32,v<32:=λv hv=>(bk_mem.1 hv).1;refine ρ ?_;refine lds (cs:=[.slice X1 (nz (bk S 32)).length bp,.int .i64 ((bk S 32).length:Int),.slice X3 bn bo]) (λj u hu=>am.at hu) ?_;refine ρ ?_;refine cl (Qjn (vars:=bk S 32) (rs:=X) cq c9 (Yq S 32) ch (λr hr=>(bh r hr).1) au) ?_
 rintro u w9 ⟨dk,tP,rfl,P,dz,ei,_,a5⟩;have a5:=a5 (.inl au);obtain⟨ep,cu⟩:=Qfn c8 av a5 bi;have hP:=dz.here;rw[ep]at hP;obtain⟨P1,dg,P3,de,df,rfl⟩:=Jww hP;have cr:∀ r∈P,r.length=(bk T 32).length/\∀ y∈r,D4 y:=λr hr=>bg r (cu r hr);refine ρ ?_;refine alc Zr ?_;intro f2 fg c5 ck d7;refine ρ ?_;refine stb (cs':=[.slice P1 (nz (bk T 32)).length dg,.int .i64 ((bk T 32).length:Int),.slice P3 de df]) d7 ?_ (Kk rfl);intro G d0 eu c0;have a8:Ext w9 G:=c0 w9 c5 ck;have U:=dk.trans a8;have a1:=b8.trans (aa.trans U);refine ρ ?_;refine bsl bs0At ?_;intro di er a4 ai cy;have cx:=hO.ext AtC.sta (by decide) (a1.trans a4);obtain⟨OA,oc,_,rfl,_⟩:=id cx.el;have e0:OX 37 3 AtC (λq=>G.heap.size<=q) di G.heap.size (.slice (some ⟨er,0,none⟩) 0 0) ([]:List Atm):=⟨[],rfl,cy.own (n:=0) ai rfl (Nat.zero_le _),λp hp=>by cases hp⟩;have cw:∀ {x:World},Ext G x->GX 3 AtC (λq=>G.heap.size<=q) x (.slice OA (a7.map atP).length oc) (a7.map atP):=λh=>((hO.ext AtC.sta (by decide) a1).old AtC.sta (by decide) λk hk=>.inr hk).ext AtC.sta (by decide) h
 refine ρ ?_;refine Jxn EA AtC.sta e0 (cw a4) (λcs a h=>AtC.one h) (λk hk=>.inl hk) (λg hg=>by
  injection hg with hg
  subst hg;exact ai) (by simp) (by decide) a4.size ?_
 intro f4 dh ah cd _;rw[List.nil_append]at ah;have ac:Ext G dh:=Jh a4 cd λq e=>by
  injection e with e
  subst e;exact ai
 obtain⟨_,_,_,_,af⟩:=id ah.form;have es:(a7.map atP).length<=6:=by rw[List.length_map];omega
 refine ρ ?_;refine Jxn EA AtC.sta ah (cw ac) (λcs a h=>AtC.one h) (λk hk=>.inl hk) (λg hg=>(af g hg).1) om (by decide) ac.size ?_;intro dj br ca cc _;have bz:Ext G br:=Jh ac cc λq e=>(af q e).1;have ek:GX 3 AtC Nn br dj ((a7++a7).map atP):=by
  rw[List.map_append];exact ca.gx AtC.sta (by rw[List.length_append];omega) λk hk=>hk.elim
 refine ρ ?_;refine kv 85 (congrArg (Value.int .i64) ax) ?_;refine cl (Jbl (Qnl hC om) a6 ek hS) ?_;rintro u bq ⟨be,tZ,f5,Z,rfl,du,ej⟩;have ef:Z=X:=(Qft ej).uniq av;subst ef;have hZ:=du.here;obtain⟨Z1,da,Z3,d8,d9,rfl⟩:=Jww hZ;refine ρ ?_;refine alc Zr ?_;intro f0 ff bw cj bl;refine ρ ?_;refine stb (cs':=[.slice Z1 (nz (bk S 32)).length da,.int .i64 ((bk S 32).length:Int),.slice Z3 d8 d9]) bl ?_ (Kk rfl);intro an cz et bv;have a3:Ext bq an:=bv bq bw cj;have ar:=bz.trans (be.trans a3);have bd:Ext an an.drew:=(Ext.refl an).drew;have ad:=ar.trans bd;have ay:=U.trans ad;have bj:=cz.ext bd;have bm:=am.ext ay;have cp:=cq.ext ay;have cn:=hZ.ext (a3.trans bd);have aj:∀ r∈Z,r.length=(bk S 32).length:=λr hr=>(bh r hr).1;have ba:∀ r∈Z,NoS r:=λr hr x hx=>((bh r hr).2 x hx).noS;refine ρ ?_;refine drH (λ_=>false) ?_;refine Yo (fuel':=5) 24 [(0,0),(0,1),(0,2),(0,3),(0,4),(0,5),(0,6),(0,7),(0,8),(0,9),(0,10),(0,11),(0,12),(0,13),(0,14),(0,15),(0,17)] #[true,true,true,true,true,true,true,true,true,true,true,true,true,true,true,true,false,true,false,false,false,false] kr kr rfl ?_
 refine ρd ?_;refine Qj (cs:=[.slice Z1 (nz (bk S 32)).length da,.int .i64 ((bk S 32).length:Int),.slice Z3 d8 d9]) (λj u hu=>bj.at hu) ?_;refine ρd ?_;refine Qj (cs:=[.slice X1 (nz (bk S 32)).length bp,.int .i64 ((bk S 32).length:Int),.slice X3 bn bo]) (λj u hu=>bm.at hu) ?_;refine ρd ?_;refine Yu ?_;refine hmkS 24 3 _ #[true,true,true,true,true,true,true,true,true,true,true,true,true,true,true,true,true,true,true,false,false,false] [16,18] [112,114] [SF.ag (nz (bk S 32)) Z,SF.ag (nz (bk S 32)) Z] kr (by rfl) ?_ ?_
 .refine gsc (λao v1 O hd=>?_) ?_
  .simp only[slM];refine ρ ?_;refine cl (Jkc (cn.ext O) aj au) ?_;rintro u v2 ⟨a2,J⟩;refine ρ ?_;exact Zz J a2
  refine gsc (λao v1 O hd=>?_) gse
  simp only[slM];refine ρ ?_;refine cl (Jkc (cp.ext O) aj au) ?_;rintro u v2 ⟨a2,J⟩;refine ρ ?_;exact Zz J a2
 intro ao ez bu hd;obtain⟨A1,n1,c1,B1,fa,d1,e1,ee,ed⟩:=hd 0;obtain⟨A2,n2,c2,B2,f9,d2,e2,ea,e9⟩:=hd 1;simp only[slM,e1,e2];refine Yo (fuel':=0) 24 [(1,19),(0,20),(0,21)] #[true,true,true,true,true,true,true,true,true,true,true,true,true,true,true,true,true,true,true,true,true,true] kr kr rfl ?_;refine ρd ?_;refine dcl (Jll ee ed ea e9 ba ba) ?_;rintro u bc ⟨rfl,b7⟩;refine⟨b7,?_⟩;have e5:decide (nz (bk S 32)=nz (bk S 32)/\Z=Z)=true:=decide_eq_true ⟨rfl,rfl⟩;refine ρd ?_;refine Yu ?_;refine Xc kr ?_;have aq:=ad.trans (bu.trans b7);refine ρ ?_;refine cf ?_ ?_
 .rw[e5];rfl
 have bs:Ext bc bc.drew:=(Ext.refl bc).drew;refine ρ ?_;refine drH (λ_=>false) ?_;refine Yo (fuel':=5) 24 [(1,0),(0,1),(0,2),(0,4)] #[true,true,true,false,true,false,false,false,false] kr kr rfl ?_;refine dcl (Jdr _) ?_;rintro x ey ⟨rfl,b6⟩;refine⟨b6,?_⟩;have D:=aq.trans (bs.trans b6);have a9:=U.trans D;refine ρd ?_;refine Qj (cs:=[.slice Y1 (nz (bk T 32)).length dd,.int .i64 ((bk T 32).length:Int),.slice Y3 db dc]) (λj u hu=>(d5.ext a9).at hu) ?_;refine ρd ?_;refine Qj (cs:=[.slice P1 (nz (bk T 32)).length dg,.int .i64 ((bk T 32).length:Int),.slice P3 de df]) (λj u hu=>(d0.ext D).at hu) ?_;refine ρd ?_;refine Yu ?_;have co:=hY.ext (b2.trans a9);have cv:=hP.ext (a8.trans D);refine hmkS 24 3 _ #[true,true,true,true,true,true,false,false,false] [3,5] [121,123] [SF.ag (nz (bk T 32)) Y,SF.ag (nz (bk T 32)) P] kr (by rfl) ?_ ?_
 .refine gsc (λao v1 O hd=>?_) ?_
  .simp only[slM];refine ρ ?_;refine cl (Jkc (co.ext O) (λr hr=>(bg r hr).1) eg) ?_;rintro u v2 ⟨a2,J⟩;refine ρ ?_;exact Zz J a2
  refine gsc (λao v1 O hd=>?_) gse
  simp only[slM];refine ρ ?_;refine cl (Jkc (cv.ext O) (λr hr=>(cr r hr).1) ei) ?_;rintro u v2 ⟨a2,J⟩;refine ρ ?_;exact Zz J a2
 intro f3 ex bt hd;obtain⟨A3,n3,c3,B3,f8,d3,e3,ec,eb⟩:=hd 0;obtain⟨A4,n4,c4,B4,f7,d4,e4,e8,cg⟩:=hd 1;simp only[slM,e3,e4];refine Yo (fuel':=0) 24 [(1,6),(0,7),(0,8)] #[true,true,true,true,true,true,true,true,true] kr kr rfl ?_;refine ρd ?_;refine dcl (Qlm (a:=⟨bk T 32,Y⟩) (b:=⟨bk T 32,P⟩) ec eb e8 cg (smL2 a6 (λv hv=>Uz hs (bk_mem.1 hv).2) bg cr om om) (Yq T 32) rfl a5.1 cu) ?_;rintro u ew ⟨rfl,b4⟩;refine⟨b4,?_⟩;refine ρd ?_;refine Yu ?_;refine Xc kr ?_;refine ρ ?_;exact Jq ⟨rfl,ae.trans (a1.trans (D.trans (bt.trans b4)))⟩
end Go.Proofs.YtebiphhfkdbpfaaGreat
namespace Go.Wk
open Go.RowKit Go.ChangeShapes Go.WideShapes
section
variable {H:Type} {enc:TypeId×Value->H} {P:Program} {w:World} {base:Nat} {spare:Nat->Bool} {held:Bool}
theorem rd_of{A:Option Addr}{sz len:Nat}{cs:List Value}{ad:Addr}(hA:A=some ad)(hl:cs.length=len*sz)(hc:∀ j u,cs[j]?=some u->w.cell? (ad.add j)=some u): Rd w sz A len cs :=
 ⟨hl,λh0=>⟨ad,hA,by
  have y:=hc 0 cs[0] (gE h0);rw[add_zero]at y;exact World.block_lt_of_cell? w ad y,hc⟩⟩
end
end Go.Wk
