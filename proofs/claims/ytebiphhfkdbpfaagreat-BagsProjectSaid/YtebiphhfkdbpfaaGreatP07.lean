/- Part 7. -/
import Derived.Test.YtebiphhfkdbpfaaGreatP06
import Derived.ProofKit
import Derived.OpenShut
import Derived.ShutString
import Derived.ChangeOld
import Derived.Deep.Slices
import Derived.Deep.Fields
import Derived.Test.YtebiphhfkdbpfaaGreatRows
set_option linter.unusedVariables false
set_option maxRecDepth 100000
set_option maxHeartbeats 40000000
namespace Go.Proofs.YtebiphhfkdbpfaaGreat
open Go.RowKit Pl Go.Wk Bl
attribute [local irreducible] WC WL QX WD WDB WP WN WG WH
variable {v vl:Value}{w w':World}
theorem ERo: ElT Tryz.prog 33 73 1 24 (.slice none 0 0):=⟨Tryz.underlying33,info_parts kr,rfl,by decide⟩
theorem ERA: ElT Tryz.prog 27 46 2 48 (.agg #[.slice none 0 0,.slice none 0 0]):=⟨Tryz.underlying27,info_parts kr,rfl,by decide⟩
theorem Jsv(A B:Option Addr)(n c m d:Nat)(w:World): (Instr.build 46 #[(0,.slice A n c),(1,.slice B m d)]).run Tryz.prog w=.ok (.agg #[.slice A n c,.slice B m d]) w:=kr
theorem bs1RA(A B:Option Addr)(n c m d:Nat)(w:World): (Instr.buildSlice 27 1 #[(0,.agg #[.slice A n c,.slice B m d])]).run Tryz.prog w=.ok (.slice (some ⟨w.heap.size,0,none⟩) 1 1) (w.alloc (.cells #[.slice A n c,.slice B m d] 46)):=kr
theorem zLaw: Qu Tryz.prog 24=some (.agg #[.int .u8 0,.slice none 0 0,.int .u8 0]):=kr
theorem zArr4: Qu Tryz.prog 71=some (.agg #[.int .u8 0,.int .u8 0,.int .u8 0,.int .u8 0]):=kr
theorem Jyn{E base:Nat}{N:Nat->Prop}{ls:List Row}(h:OX E 1 RfC N w base v ls)(hl:ls.length<=1100000): RowsV w v ls:=by
 obtain⟨ps,e,ho,F⟩:=h;obtain⟨A,c,e1,hc,_⟩:=Jy ho;have J:∀ D:List (List Value×Row),(∀ p∈D,p.1.length=1/\RfC N w p.1 p.2)->∃ y:List Pr,D.map (·.2)=y.map (·.2)/\y.length=D.length/\Jd D=y.map (·.1)/\∀ p∈y,RowV w p.1 p.2:=λD=>by
  induction D with
  | nil=>exactλ_=>⟨[],rfl,rfl,rfl,λp h=>by cases h⟩
  | cons q D ih=>
   intro h;obtain⟨y,Z,G,U,O⟩:=ih λp F=>h p (List.mem_cons_of_mem _ F);obtain⟨_,u,eu,hu⟩:=h q (mC ..);refine⟨(u,q.2)::y,by simp[Z],by simp[G],?_,λp F=>?_⟩
   .show q.1++Jd D=_;rw[eu,U];rfl
   rcases List.mem_cons.1 F with rfl|F
   .exact hu.v
   exact O p F
 obtain⟨y,Z,G,U,O⟩:=J ps F;have a1:ls.length=ps.length:=by rw[e,List.length_map]
 refine⟨y,A,c,by rw[e,Z],by rw[G];exact e1,om,om,?_,O⟩;subst e1;rw[G,<-U];exact Rd.own ho
theorem Qdl(i:Nat)(y:List Nat): (Xr i y).all Xo=true:=by
 unfold Xr;rw[List.all_eq_true];intro v u;obtain⟨j,_,rfl⟩:=List.mem_map.1 u;have:y.getD j 0 % 4<4:=Nat.mod_lt _ (by decide);generalize y.getD j 0 % 4=z at *
 rcases(show z=0∨z=1∨z=2∨z=3 by omega) with rfl|rfl|rfl|rfl<;>decide
theorem bs1VR(v:V)(w:World): (Instr.buildSlice 73 1 #[(0,v.val)]).run Tryz.prog w=.ok (.slice (some ⟨w.heap.size,0,none⟩) 1 1) (w.alloc (.cells v.cells.toArray 75)):=kr
theorem ownX{r:Row}(h:w'.ownsRow w.heap.size 75 3 v r.length (Je r))(hl:r.length<=1100000): RowX w' (Ol w) v r:=by
 obtain⟨A,c,e,F,D⟩:=Jy h;subst e;refine⟨A,c,rfl,F,hl,Rd.own h,λh0 u G y=>?_⟩;have:=(D u.block (by rw[G];rfl)).1;exact absurd (show u.block<w.heap.size from y) om
theorem bldV4(z:Int)(w:World): (Instr.build 75 #[(0,.int .i64 1),(1,.int .i64 z)]).run Tryz.prog w=.ok (V.val ⟨1,z,⟨#[]⟩⟩) w:=kr
theorem Qdm(i:Nat)(y:List Nat): Xr (i+1) y=Xr i y++[⟨1,((y.getD i 0 % 4:Nat):Int),⟨#[]⟩⟩]:=by unfold Xr;rw[List.range_succ,List.map_append];rfl
theorem Jqs(i:Nat)(y:List Nat): (Xr i y).length=i:=by simp[Xr]
def Rl(a:LA)(m:List Row): Prop:=IsSet [] (a.rows.map (Xr (lvs a).length)) m/\m.length<=65536
def atm(a:LA)(m:List Row): Atm:=⟨Qc a,(lvs a).length,m⟩
def rat'(a:LA)(m:List Row): RA:=⟨Qc a,m⟩
abbrev NM(s:Nat)(vo vm va:Value): Nat->Prop:=λk=>k<s∨vo.ownBlock=some k∨vm.ownBlock=some k∨va.ownBlock=some k
theorem Jmm{l:List LA}(hl:GX 3 LaC Nn w vl l)(hn:l.length<=1048576): Ret Tryz.prog 7 [vl] w λu w'=>Ext w w' /\
  (((∀ a∈l,a.fits)/\∃ vo vm va,∃ ms:List (List Row),u=.tuple #[vo,vm,va,.bool (decide (l.length<=6))]/\ms.length=l.length/\(∀ i (h1:i<l.length) (h2:i<ms.length),Rl l[i] ms[i])/\GX 3 AtC Nn w' vo (l.zipWith atm ms)/\GX 2 RaC Nn w' vm (l.zipWith rat' ms)/\IntsV w' va (nz (l.map λa=>(lvs a).length))) ∨
   ((¬ ∀ a∈l,a.fits)/\u=.tuple #[.slice none 0 0,.slice none 0 0,.slice none 0 0,.bool false])):=by
 obtain⟨A,c,_,rfl,hc,_,hR,_,he⟩:=id hl.el;refine Jz Tryz.func7 Tryz.ntmps7 rfl kr rfl ?_;refine ρ ?_;refine Gb (fun (k:Nat) (vo vm va:Value)=>[(0,.slice A l.length c),(6,vo),(7,vm),(8,va),(21,.slice A l.length c),(22,.int .i64 (l.length:Int)),(23,.int .i64 (k:Int))])
  (λk vo vm va w'=>k<=l.length/\Ext w w'/\(∀ i (h:i<l.length),i<k->(l[i]).fits)/\Qq w' w.heap.size va ((l.map λa=>(lvs a).length).take k)/\∃ ms:List (List Row),ms.length=k/\(∀ i (h1:i<l.length) (h2:i<ms.length),Rl l[i] ms[i])/\OX 37 3 AtC (NM w.heap.size vo vm va) w' w.heap.size vo (l.zipWith atm ms)/\OX 46 2 RaC (NM w.heap.size vo vm va) w' w.heap.size vm (l.zipWith rat' ms))
  (λk _ _ _=>l.length-k) 0 (.slice none 0 0) (.slice none 0 0) (.slice none 0 0) sB ⟨Nat.zero_le _,Ext.refl _,λi _ h=>absurd h (Nat.not_lt_zero _),Xj _ _ _ _,[],rfl,λi _ h=>absurd h (Nat.not_lt_zero _),by rw[List.zipWith_nil_right];exact OX.nil _ _,by rw[List.zipWith_nil_right];exact OX.nil _ _⟩ ?_
 rintro k vo vm va w1 ⟨hk,a4,cc,ax,ms,cq,dj,bo,bq⟩;refine ρ ?_;refine ci (λF=>?_) (λF=>?_)
 .have lk:k<l.length:=by have:=oT F;omega
  clear F;obtain⟨ce,_,⟨ei,f8,vR,rfl,hG⟩,f4⟩:=he k lk;obtain⟨d9,rc,_,rfl,ga,_,fd,_,fe⟩:=id hG.el;generalize ha:l[k]=a at *
  refine ρ ?_;refine ixq 3 k (hR.ext a4) lk ?_;refine ρ ?_;refine lds (λj u Z=>Xz a4 (f4 j u Z)) ?_;refine ρ ?_;refine alc zLaw ?_;intro w2 b2 eg f9 fj;refine ρ ?_;refine stb (cs':=[.int .u8 (a.vars:Int),.slice d9 a.rows.length rc,.int .u8 (a.bad:Int)]) fj ?_ (λu Z=>by
   simp only[List.mem_cons,List.not_mem_nil,or_false]at Z;rcases Z with rfl|rfl|rfl<;>rfl)
  intro w3 c3 gh ef;have bb:Ext w1 w3:=ef w1 eg f9;refine ρ ?_;refine Qd (fun (v:Nat) (vv:Value)=>[(0,.slice A l.length c),(6,vo),(7,vm),(8,va),(10,.pointer (some ⟨b2,0,none⟩)),(11,vv),(21,.slice A l.length c),(22,.int .i64 (l.length:Int)),(23,.int .i64 (k:Int)),(27,.int .i64 (v:Int))])
   (λv vv w'=>v<=8/\Ext w3 w'/\Qq w' w3.heap.size vv (Jw v a.vars)) (λv _=>8-v) 0 (.slice none 0 0) sB ⟨Nat.zero_le _,Ext.refl _,Xj _ _ _ _⟩ ?_
  rintro v vv w4 ⟨hv,a8,ay⟩;refine ρ ?_;refine ci (λF=>?_) (λF=>?_)
  .have lv:v<8:=by have:=oT F;omega
   clear F;refine ρ ?_;refine ld ((c3.ext a8).at (i:=0) rfl) ?_;refine ρ ?_;refine Zs rfl rfl om rfl ?_;refine ρ ?_;refine Kl rfl rfl (by decide) rfl ?_;refine ρ ?_;refine ci (λF=>?_) (λF=>?_)
   .have cu:a.vars.testBit v=true:=by rw[<-Jwg lv];exact F
    have hmk:Jw (v+1) a.vars=Jw v a.vars++[v]:=by rw[Ir,if_pos cu]
    have gd:=Kj v a.vars;refine ρ ?_;refine bsl (Um _) ?_;intro w5 b5 J gj fi;refine ρ ?_;refine apI (z:=v) (Jb ay J) fi om (nL a8.size J.size) ?_;intro e7 w6 di f3 gb;rw[<-hmk]at di;refine ρ ?_;exact Qv (v+1) e7 sO ⟨om,Jr (a8.trans J) f3 (Jzp (Jb ay J)),di⟩ om
   have cu:¬ a.vars.testBit v=true:=λe=>by rw[<-Jwg lv]at e;exact absurd (F.symm.trans e) (by decide)
   have hmk:Jw (v+1) a.vars=Jw v a.vars:=by rw[Ir,if_neg cu]
   refine ρ ?_;exact Qv (v+1) vv sO ⟨om,a8,by rw[hmk];exact ay⟩ om
  have eh:v=8:=by have:=oF F;omega
  subst eh;clear F hv;have ew:Jw 8 a.vars=lvs a:=rfl;rw[ew]at ay;obtain⟨VA,vc,eV,g9,fb⟩:=Jy ay;subst eV;have ge:(lvs a).length<=8:=Kj 8 a.vars;have a3:Ext w1 w4:=bb.trans a8;have cp:¬ a.fits->¬ ∀ a∈l,a.fits:=λh h'=>h (h' a (by rw[<-ha];exact List.getElem_mem lk));refine ρ ?_;by_cases h4:4<(lvs a).length
  .refine kt 44 ?_ ?_
   .exact decide_eq_true om
   refine ρ ?_;exact Jqx ⟨a4.trans a3,.inr ⟨cp λh=>by have:=h.1;omega,rfl⟩⟩
  refine kf 44 ?_ ?_
  .exact dF om
  refine ρ ?_;refine ld ((c3.ext a8).at (i:=1) rfl) ?_;refine ρ ?_;refine ci (λF=>?_) (λF=>?_)
  .have e0:12<a.rows.length:=by have:=oT F;omega
   refine ρ ?_;exact Jqx ⟨a4.trans a3,.inr ⟨cp λh=>by have:=h.2;omega,rfl⟩⟩
  have e0:a.rows.length<=12:=by have:=oF F;omega
  clear F cp;refine ρ ?_;refine ld ((c3.ext a8).at (i:=1) rfl) ?_;refine ρ ?_;refine Qd (fun (j:Nat) (vr:Value)=>[(0,.slice A l.length c),(6,vo),(7,vm),(8,va),(10,.pointer (some ⟨b2,0,none⟩)),(11,.slice VA (lvs a).length vc),(13,vr),(21,.slice A l.length c),(22,.int .i64 (l.length:Int)),(23,.int .i64 (k:Int)),(51,.slice d9 a.rows.length rc),(52,.int .i64 (a.rows.length:Int)),(53,.int .i64 (j:Int))])
   (λj vr w'=>j<=a.rows.length/\Ext w4 w'/\OX 73 1 RfC (Ov w4 vr) w' w4.heap.size vr ((a.rows.map (Xr (lvs a).length)).take j)) (λj _=>a.rows.length-j) 0 (.slice none 0 0) sB ⟨Nat.zero_le _,Ext.refl _,OX.nil _ _⟩ ?_
  rintro j vr w5 ⟨hj,J,bl⟩;have c8:=a4.trans (a3.trans J);refine ρ ?_;refine ci (λF=>?_) (λF=>?_)
  .have lj:j<a.rows.length:=by have:=oT F;omega
   clear F;obtain⟨gk,_,⟨rfl,ed,ee⟩,dg⟩:=fe j lj;generalize hy:a.rows[j]=y at *
   obtain⟨y0,y1,y2,y3,rfl⟩:∃ y0 y1 y2 y3,y=[y0,y1,y2,y3]:=by
    match y,ed with
    | [y0,y1,y2,y3],_=>exact⟨y0,y1,y2,y3,rfl⟩
   refine ρ ?_;refine ixq 4 j (fd.ext c8) lj ?_;refine ρ ?_;refine lda (cs:=[.int .u8 (y0:Int),.int .u8 (y1:Int),.int .u8 (y2:Int),.int .u8 (y3:Int)]) (λj u Z=>Xz c8 (dg j u Z)) rfl ?_;refine ρ ?_;refine alc zArr4 ?_;intro w6 b6 aa f7 fh;refine ρ ?_;refine sta (cs':=[.int .u8 (y0:Int),.int .u8 (y1:Int),.int .u8 (y2:Int),.int .u8 (y3:Int)]) fh ?_ (λu Z=>by
    simp only[List.mem_cons,List.not_mem_nil,or_false]at Z;rcases Z with rfl|rfl|rfl|rfl<;>rfl) rfl rfl
   intro w7 d8 gg cm;have c5:Ext w5 w7:=cm w5 aa f7;refine ρ ?_;refine bsl Jss ?_;intro w8 b8 ck f5 d7;refine ρ ?_;refine Qd (fun (i:Nat) (vx:Value)=>[(0,.slice A l.length c),(6,vo),(7,vm),(8,va),(10,.pointer (some ⟨b2,0,none⟩)),(11,.slice VA (lvs a).length vc),(13,vr),(15,.pointer (some ⟨b6,0,none⟩)),(16,vx),(21,.slice A l.length c),(22,.int .i64 (l.length:Int)),(23,.int .i64 (k:Int)),(51,.slice d9 a.rows.length rc),(52,.int .i64 (a.rows.length:Int)),(53,.int .i64 (j:Int)),(58,.slice VA (lvs a).length vc),(59,.int .i64 ((lvs a).length:Int)),(60,.int .i64 (i:Int))])
    (λi vx w'=>i<=(lvs a).length/\Ext w7 w'/\w'.ownsRow w7.heap.size 75 3 vx (Xr i [y0,y1,y2,y3]).length (Je (Xr i [y0,y1,y2,y3]))) (λi _=>(lvs a).length-i) 0 (.slice (some ⟨b8,0,none⟩) 0 0) sB ⟨Nat.zero_le _,ck,d7.own (n:=0) f5 rfl (Nat.zero_le _)⟩ ?_
   rintro i vx w9 ⟨hi,O,bw⟩;refine ρ ?_;refine ci (λF=>?_) (λF=>?_)
   .have li:i<(lvs a).length:=by have:=oT F;omega
    clear F;have ec:([.int .u8 (y0:Int),.int .u8 (y1:Int),.int .u8 (y2:Int),.int .u8 (y3:Int)]:List Value)[i]?=some (.int .u8 (([y0,y1,y2,y3].getD i 0:Nat):Int)):=by
     rcases(show i=0∨i=1∨i=2∨i=3 by omega) with rfl|rfl|rfl|rfl<;>rfl
    generalize hz:[y0,y1,y2,y3].getD i 0=z at *
    refine ρ ?_;refine ixb i (show i<4 by omega) ?_;refine ρ ?_;refine ld ((d8.ext O).atc ec) ?_;refine ρ ?_;refine Kl rfl rfl (by decide) rfl ?_;refine ρ ?_;have ez:IntKind.i64.wrap ((z:Int).tmod 4)=((z % 4:Nat):Int):=by
     rw[show(z:Int).tmod 4=((z % 4:Nat):Int) from rfl,Vf om]
    rw[ez];refine bld (bldV4 _ _) ?_;refine ρ ?_;refine bsl (bs1VR _) ?_;intro a7 e4 G cd ai;have ex:=Jqs i [y0,y1,y2,y3];refine ρ ?_;refine apb (m':=1) (news:=V.cells ⟨1,((z % 4:Nat):Int),⟨#[]⟩⟩) EV (Jb bw G) (ai.rd (n:=1) rfl) (V.one _) (by unfold maxLen;omega) om (O.trans G).size ?_;intro v3 bt eo df gc;refine ρ ?_;refine Qv (i+1) v3 sO ⟨li,Jr (O.trans G) df (Jzp (Jb bw G)),?_⟩ om;rw[Qdm,hz,List.length_append,Jyd,Jyb];exact eo
   have f2:i=(lvs a).length:=by have:=oF F;omega
   subst f2;clear F hi;have ex:=Jqs (lvs a).length [y0,y1,y2,y3];have fa:=ownX bw om;obtain⟨XA,xc,eX,_,_⟩:=Jy bw;subst eX;have b3:=c5.trans O;refine ρ ?_;refine bsl (λw=>Jsk _ w _ _ _ rfl) ?_;intro a7 e4 G cd ai;have a5:=((bl.ext RfC.sta b3).ext RfC.sta G).old RfC.sta (N':=λq=>Ov w4 vr q∨a7.heap.size<=q) λq D=>D;obtain⟨_,_,_,_,bj⟩:=id bl.form;have e9:=J.size;have fo:=c5.size;refine ρ ?_;refine apX ERo RfC.sta a5 ai rfl (λu Z=>by rw[List.mem_singleton.1 Z];rfl) ⟨_,rfl,(fa.grN (GrN.ext G)).oldN λq D=>?_⟩ (λg hg=>.inl (.inr hg)) (by simp;omega) (by decide) (nL e9 (b3.trans G).size) ?_
   .rcases D with(D|D)|D
    .exact .inl (show q<w7.heap.size by omega)
    .exact .inl (show q<w7.heap.size by have:=(bj q D).2;omega)
    exact .inr D
   intro vr' bt cg U ae;have co:(a.rows.map (Xr (lvs a).length)).take j++[Xr (lvs a).length [y0,y1,y2,y3]]=(a.rows.map (Xr (lvs a).length)).take (j+1):=by rw[List.take_add_one,List.getElem?_map,List.getElem?_eq_getElem lj,hy];rfl
   rw[co]at cg;refine ρ ?_;exact Qv (j+1) vr' sO ⟨lj,Jr (J.trans (b3.trans G)) U λq e=>(bj q e).1,cg.old RfC.sta λq D=>.inl (D.elim (λD=>.inl (.inl D)) λD=>(ae q D).elim (λD=>.inl (.inr D)) .inr)⟩ om
  have f0:j=a.rows.length:=by have:=oF F;omega
  subst f0;clear F hj;rw[show a.rows.length=(a.rows.map (Xr (lvs a).length)).length by simp,List.take_length]at bl;obtain⟨RR,g7,eR,_,bj⟩:=id bl.form;subst eR;have ek:(a.rows.map (Xr (lvs a).length)).length<=12:=by simp;omega
  have ff:=Jyn bl om;have fz:Ext w1 w5:=a3.trans J;refine ρ ?_;refine cl (Jhl ff) ?_;rintro _ w6 ⟨aa,rv,e,rfl,⟨z,B,m',d',rfl⟩,en,em⟩;obtain rfl:e=0:=en om (λr hr=>by
   obtain⟨y,hy,rfl⟩:=List.mem_map.1 hr;exact⟨Jqs _ _,Qdl _ _⟩) om
  obtain⟨_,_,m,eu,et,es,er⟩:=em rfl;have db:=er (.inl om);refine ρ ?_;refine alc Yu ?_;intro w7 b7 cm f6 d8;refine ρ ?_;refine stb (cs':=[.int .i64 z,.slice B m' d']) d8 ?_ (λu Z=>by
   simp only[List.mem_cons,List.not_mem_nil,or_false]at Z;rcases Z with rfl|rfl<;>rfl)
  intro w8 d7 gf ck;have a9:Ext w6 w8:=ck w6 cm f6;refine ρ ?_;refine ld ((((c3.ext a8).ext J).ext (aa.trans a9)).at (i:=2) rfl) ?_;refine ρ ?_;refine Qjq (fun (v':Value)=>[(0,.slice A l.length c),(6,vo),(7,vm),(8,va),(11,v'),(18,.pointer (some ⟨b7,0,none⟩)),(20,.int .i64 ((lvs a).length:Int)),(21,.slice A l.length c),(22,.int .i64 (l.length:Int)),(23,.int .i64 (k:Int))])
   (λv' w'=>GrN (λq=>(Value.slice VA (lvs a).length vc).ownBlock=some q) w8 w'/\w'.ownsRow w3.heap.size 3 1 v' (Qc a).length (Jp (Qc a))) ?_ ?_
  .have c2:Qq w8 w3.heap.size (.slice VA (lvs a).length vc) (lvs a):=Jb ay (J.trans (aa.trans a9));have an:w3.heap.size<=w8.heap.size:=(a8.trans (J.trans (aa.trans a9))).size;have dc:∀(ls:List Nat) (x:Nat),nz (ls++[x])=nz ls++[(x:Int)]:=λls x=>by simp[nz]
   refine ρ ?_;refine ci (λF=>?_) (λF=>?_)
   .have h0:a.bad=0:=by have:=eq_of_beq F;omega
    have aj:Qc a=nz (lvs a):=by rw[Qc,if_pos h0]
    refine ρ ?_;exact Js _ sB ⟨GrN.refl _ _,by rw[aj,Ju];exact c2⟩
   have h0:a.bad≠0:=λe=>by rw[e]at F;revert F;decide
   clear F;refine ρ ?_;refine ci (λF=>?_) (λF=>?_)
   .have h1:a.bad=1:=by have:=eq_of_beq F;omega
    have aj:Qc a=nz (lvs a++[9]):=by rw[Qc,if_neg h0,if_pos h1,dc];rfl
    refine ρ ?_;refine bsl (Um _) ?_;intro w9 b9 O bv ah;refine ρ ?_;refine apI (z:=9) (Jb c2 O) ah om (nL an O.size) ?_;intro v' a7 a5 af cb;refine ρ ?_;exact Js v' sB ⟨(GrN.ext O).trans (GrN.by af λq e=>e),by rw[aj,Ju];exact a5⟩
   have h1:a.bad≠1:=λe=>by rw[e]at F;revert F;decide
   clear F;refine ρ ?_;refine ci (λF=>?_) (λF=>?_)
   .have h2:a.bad=2:=by have:=eq_of_beq F;omega
    have aj:Qc a=nz (lvs a++[0]):=by rw[Qc,if_neg h0,if_neg h1,if_pos h2,dc];rfl
    refine ρ ?_;refine bsl (Um _) ?_;intro w9 b9 O bv ah;refine ρ ?_;refine apI (z:=0) (Jb c2 O) ah om (nL an O.size) ?_;intro v' a7 a5 af cb;refine ρ ?_;exact Js v' sB ⟨(GrN.ext O).trans (GrN.by af λq e=>e),by rw[aj,Ju];exact a5⟩
   have h2:a.bad≠2:=λe=>by rw[e]at F;revert F;decide
   clear F;have aj:Qc a = -1::nz (lvs a):=by rw[Qc,if_neg h0,if_neg h1,if_neg h2]
   refine ρ ?_;refine bsl (Um _) ?_;intro w9 b9 O bv ah;refine ρ ?_;refine apb (base:=w3.heap.size) (m:=1) (m':=(lvs a).length) (xs:=[.int .i64 (-1)]) (news:=Jp (nz (lvs a))) EI (ah.own (n:=1) (nL an bv) rfl (by decide)) (Rd.own (Jb c2 O)) (λu Z=>by
    obtain⟨x,_,rfl⟩:=List.mem_map.1 Z;rfl) (by unfold maxLen;omega) om (nL an O.size) ?_
   intro v' a7 a5 af cb;refine ρ ?_;exact Js v' sB ⟨(GrN.ext O).by2 af λq e=>.inl (by injection e with e;rw[<-e];exact bv),by
    rw[aj,List.length_cons,Ju,Nat.add_comm];exact a5⟩
  rintro vv w9 ⟨cr,cv⟩;have br:∀ q,(Value.slice VA (lvs a).length vc).ownBlock=some q->w3.heap.size<=q/\q<w4.heap.size:=λq e=>fb q e;have c6:Ext w3 w9:=cr.old (a8.trans (J.trans (aa.trans a9))) λq e=>(br q e).1;have ah:=Ja d7 cr λe=>by
   have:=(br b7 e).2;have:=J.size;have:=aa.size;omega
  have g0:(Qc a).length<=9:=by
   unfold Qc;split
   .rw[Ju];omega
   split
   .rw[List.length_append,Ju];simp;omega
   split
   .rw[List.length_append,Ju];simp;omega
   rw[List.length_cons,Ju];omega
  obtain⟨VV,aw,fl,c9,bi⟩:=Jy cv;subst fl;have a2:Ext w1 w9:=bb.trans c6;have fu:=bb.size;have fq:=c6.size;have ao:∀ q,NM w.heap.size vo vm va q->q<w1.heap.size:=λq D=>by
   rcases D with D|D|D|D
   .exact nM D a4.size
   .obtain⟨_,_,_,_,h3⟩:=id bo.form;exact(h3 q D).2
   .obtain⟨_,_,_,_,h3⟩:=id bq.form;exact(h3 q D).2
   obtain⟨_,_,_,_,h3⟩:=Jy ax;exact(h3 q D).2
  have de:GrN (λq=>q<w5.heap.size) w6 w9:=(GrN.ext a9).trans (cr.mono λq _ e=>by have:=(br q e).2;have:=J.size;omega);have fp:=J.size;have ft:=a3.size;have bc:∀ {v:World} {N':Nat->Prop},Ext w9 v->(∀ q,N' q->q<w1.heap.size∨v.heap.size<=q)->Off N' v λu=>RelV u (.agg #[.int .i64 z,.slice B m' d']) (lvs a).length m:=λhy hN=>(eu.gr (de.trans (GrN.ext hy))).old' λq D=>(hN q D).imp (λh=>om) id;have be:∀ {v:World} {N':Nat->Prop},Ext w9 v->(∀ q,N' q->q<w1.heap.size∨v.heap.size<=q)->Off N' v λu=>IntsV u (.slice VV (Qc a).length aw) (Qc a):=fun {v N'} hy hN v' hg=>by
   refine⟨VV,aw,rfl,c9,om,Rd.own (Jo (Jb cv hy) hg λg bf hk=>?_)⟩;have h1:=bi g bf;have h2:=hy.size;rcases hN g hk with h|h
   .omega
   omega
  refine ρ ?_;refine lds (cs:=[.int .i64 z,.slice B m' d']) (λj u Z=>ah.at Z) ?_;refine ρ ?_;refine bld (Jsx _ _ _ _ _ _ _ _) ?_;refine ρ ?_;refine bsl (λw=>Jsr _ _ _ _ _ _ _ _ _ _ rfl rfl rfl w) ?_;intro a7 e4 G cd ai;have cz:=(bo.ext AtC.sta (a2.trans G)).old AtC.sta (N':=λq=>NM w.heap.size vo vm va q∨a7.heap.size<=q) λq D=>D;have g8:(l.zipWith atm ms).length<=1048576:=by simp;omega
  refine ρ ?_;refine apX EA AtC.sta cz ai rfl (λu Z=>by
   simp only[List.mem_cons,List.not_mem_nil,or_false]at Z;rcases Z with rfl|rfl|rfl<;>rfl) (a:=atm a m) ⟨(.slice VV (Qc a).length aw,.int .i64 z,.slice B m' d'),rfl,λv' hg=>?_⟩ (λg hg=>.inl (.inr (.inl hg))) om (by decide) (nL a4.size (a2.trans G).size) ?_
  .have dn:∀ q,(NM w.heap.size vo vm va q∨a7.heap.size<=q)->q<w1.heap.size∨a7.heap.size<=q:=λq D=>D.imp (ao q) id;obtain⟨rv,am,ej⟩:=bc G dn v' hg;injection am with am
   injection am with am
   injection am with e1 am
   injection am with e2 _
   exact⟨be G dn v' hg,e1,by rw[e2];exact ej⟩
  intro a1 bt bn U ae;have ap:∀ q,vo.ownBlock=some q->q<w1.heap.size:=λq e=>ao q (.inr (.inl e));have bh:GrN (λq=>q<w1.heap.size) a7 bt:=GrN.by U ap
  have dk:=(bc (N':=λq=>q<w1.heap.size) G λq D=>.inl D).gr bh;have g3:=(be (N':=λq=>q<w1.heap.size) G λq D=>.inl D).gr bh;have fy:=G.size;have fx:=U.size;have dz:=(ah.ext G).grown U λe=>by
   have:=ap b7 e.symm;have:=J.size;have:=aa.size;omega
  refine ρ ?_;refine lds (cs:=[.int .i64 z,.slice B m' d']) (λj u Z=>dz.at Z) ?_;refine ρ ?_;refine cl (Jyf dk.here) ?_;rintro fm da ⟨c7,dl⟩;refine ρ ?_;refine cl (Jhj dl.off.here (λr hr=>by
   obtain⟨y,_,rfl⟩:=List.mem_map.1 (es r hr);rw[Jqs];omega)) ?_
  rintro rf g6 ⟨cj,ba⟩;obtain⟨FA,fc,eF,gi,dt⟩:=id cj.form;subst eF;refine ρ ?_;refine bld (Jsv _ _ _ _ _ _ _) ?_;refine ρ ?_;refine bsl (bs1RA _ _ _ _ _ _) ?_;intro a6 gm b4 g2 dx;have ad:=c7.trans (ba.trans b4);have fw:=c7.size;have eb:=ba.size;have ea:=b4.size;obtain⟨_,_,ch⟩:=(bo.ext AtC.sta (a2.trans G)).own;obtain⟨_,_,dh⟩:=(bq.ext RaC.sta (a2.trans G)).own;have d6:=Jb ax (a2.trans G);have d5:=Jb (Zq d6 ch U rfl) ad;have d2:=((((bq.ext RaC.sta (a2.trans G)).old RaC.sta (N':=λq=>NM w.heap.size vo vm va q∨a1.ownBlock=some q) λq D=>D.elim .inl λD=>(ae q D).imp (λh=>.inr (.inl h)) id).gr RaC.sta (GrN.by U λq e=>e) (M:=λq=>vo.ownBlock=some q) λq D=>⟨.inl (.inr (.inl D)),Ud ch dh rfl D⟩).ext RaC.sta ad);have cy:=(bn.old AtC.sta (N':=λq=>NM w.heap.size vo vm va q∨a1.ownBlock=some q) λq D=>.inl (D.elim .inl λD=>(ae q D).imp (λh=>.inr (.inl h)) id)).ext AtC.sta ad;have fg:∀ q,(NM w.heap.size vo vm va q∨a1.ownBlock=some q)->q<bt.heap.size:=λq D=>by
   rcases D with D|D
   .have:=ao q D;omega
   obtain⟨_,_,_,_,h3⟩:=id bn.form;exact(h3 q D).2
  have av:=d2.old RaC.sta (N':=λq=>(NM w.heap.size vo vm va q∨a1.ownBlock=some q)∨a6.heap.size<=q) λq D=>D;have ar:=cy.old AtC.sta (N':=λq=>(NM w.heap.size vo vm va q∨a1.ownBlock=some q)∨a6.heap.size<=q) λq D=>D;have fn:(l.zipWith rat' ms).length<=1048576:=by simp;omega
  have dq:Off (λq=>(NM w.heap.size vo vm va q∨a1.ownBlock=some q)∨a6.heap.size<=q) a6 λu=>IntsV u (.slice VV (Qc a).length aw) (Qc a):=λv' hg=>by
   have fk:=Jo (Jb cv G) (GrN.by U λq e=>e) λg bf hk=>by
    have:=(bi g bf).1;have:=ap g hk;omega
   refine⟨VV,aw,rfl,c9,om,Rd.own (Jo (Jb fk ad) hg λg bf hk=>?_)⟩;have h1:=bi g bf;rcases hk with(hk|hk)|hk
   .have:=ao g hk;omega
   .rcases ae g hk with h|h
    .have:=ap g h;omega
    omega
   omega
  have du:Off (λq=>(NM w.heap.size vo vm va q∨a1.ownBlock=some q)∨a6.heap.size<=q) a6 λu=>RowsV u (.slice FA m.length fc) m:=λv' hg=>by
   refine Jyn (((cj.ext RfC.sta b4).old RfC.sta (N':=λq=>Ov da (.slice FA m.length fc) q∨a6.heap.size<=q) λq D=>D).gr RfC.sta hg λq D=>?_) om;rcases D with D|D
   .have:=fg q D;exact⟨.inl (.inl (show q<da.heap.size by omega)),λe=>by have:=(dt q e).1;omega⟩
   exact⟨.inr D,λe=>by have:=(dt q e).2;omega⟩
  refine ρ ?_;refine apX ERA RaC.sta av dx rfl (λu Z=>by
   simp only[List.mem_cons,List.not_mem_nil,or_false]at Z;rcases Z with rfl|rfl<;>rfl) (a:=rat' a m) ⟨.slice VV (Qc a).length aw,.slice FA m.length fc,rfl,λv' hg=>⟨dq v' hg,du v' hg⟩⟩ (λg hg=>.inl (.inl (.inr (.inr (.inl hg))))) om (by decide) (by have:=a4.size;omega) ?_
  intro e8 g5 d1 aq dd;obtain⟨_,_,au⟩:=av.own;obtain⟨_,_,c0⟩:=ar.own;have d3:=Zq d5 au aq rfl;have cx:=ar.gr AtC.sta (GrN.by aq λq e=>e) (M:=λq=>vm.ownBlock=some q) λq D=>⟨.inl (.inl (.inr (.inr (.inl D)))),Ud au c0 rfl D⟩;have fr:=aq.size;refine ρ ?_;refine bsl (Um _) ?_;intro g4 gl ac g1 dw;have ak:=Jb d3 ac;refine ρ ?_;refine apI (z:=(lvs a).length) ak dw (by rw[List.length_take];omega) (by have:=a4.size;have:=ac.size;omega) ?_;intro bu e5 bs bg ca;have co:(l.map λa=>(lvs a).length).take k++[(lvs a).length]=(l.map λa=>(lvs a).length).take (k+1):=by rw[List.take_add_one,List.getElem?_map,List.getElem?_eq_getElem lk,ha];rfl
  rw[co]at bs;have bm:=(cx.ext AtC.sta ac).old AtC.sta (N':=λq=>((NM w.heap.size vo vm va q∨a1.ownBlock=some q)∨a6.heap.size<=q)∨bu.ownBlock=some q) λq D=>D.elim .inl λD=>(ca q D).imp (λh=>.inl (.inl (.inr (.inr (.inr h))))) id;have bp:=(d1.ext RaC.sta ac).old RaC.sta (N':=λq=>((NM w.heap.size vo vm va q∨a1.ownBlock=some q)∨a6.heap.size<=q)∨bu.ownBlock=some q) λq D=>D.elim .inl λD=>(ca q D).imp (λh=>.inl (.inl (.inr (.inr (.inr h))))) id;obtain⟨_,_,bz⟩:=bm.own;obtain⟨_,_,c1⟩:=bp.own;have cw:=bm.gr AtC.sta (GrN.by bg λq e=>e) (M:=λq=>va.ownBlock=some q) λq D=>⟨.inl (.inl (.inl (.inr (.inr (.inr D))))),Ud ak bz rfl D⟩;have d0:=bp.gr RaC.sta (GrN.by bg λq e=>e) (M:=λq=>va.ownBlock=some q) λq D=>⟨.inl (.inl (.inl (.inr (.inr (.inr D))))),Ud ak c1 rfl D⟩;have dm:∀ q,NM w.heap.size a1 e8 bu q->(((NM w.heap.size vo vm va q∨a1.ownBlock=some q)∨a6.heap.size<=q)∨bu.ownBlock=some q):=λq D=>by
   rcases D with D|D|D|D
   .exact .inl (.inl (.inl (.inl D)))
   .exact .inl (.inl (.inr D))
   .exact .inl ((dd q D).imp (λh=>.inl (.inr (.inr (.inl h)))) id)
   exact .inr D
  have bd:∀ q,(vo.ownBlock=some q∨vm.ownBlock=some q∨va.ownBlock=some q)->w.heap.size<=q:=λq D=>by
   rcases D with D|D|D
   .obtain⟨_,_,_,_,h3⟩:=id bo.form;exact(h3 q D).1
   .obtain⟨_,_,_,_,h3⟩:=id bq.form;exact(h3 q D).1
   obtain⟨_,_,_,_,h3⟩:=Jy ax;exact(h3 q D).1
  have cn:Ext w e5:=Jr ((Jr ((Jr (a4.trans (a2.trans G)) U λq e=>bd q (.inl e)).trans ad) aq λq e=>bd q (.inr (.inl e))).trans ac) bg λq e=>bd q (.inr (.inr e));have c4:∀ {β:Type} (f:LA->List Row->β),l.zipWith f (ms++[m])=l.zipWith f ms++[f a m]:=λf=>by
   have e1:l=l.take k++l[k]::l.drop (k+1):=by rw[<-List.drop_eq_getElem_cons lk,List.take_append_drop]
   have e2:(l.take k).length=ms.length:=by rw[List.length_take];omega
   have e3:l.zipWith f ms=(l.take k).zipWith f ms:=by
    conv=>lhs;rw[e1]
    have:=List.zipWith_append (f:=f) (l₁:=l.take k) (l₁':=l[k]::l.drop (k+1)) (l₂:=ms) (l₂':=[]) e2;rw[List.append_nil,List.zipWith_nil_right,List.append_nil]at this;exact this
   rw[e3];conv=>lhs;rw[e1]
   rw[List.zipWith_append e2,ha];simp
  refine ρ ?_;refine Yk (k+1) _ _ _ sO ⟨lk,cn,λi h hi=>?_,bs,ms++[m],by simp[cq],λi h1 h2=>?_,by rw[c4];exact cw.old AtC.sta λq D=>.inl (dm q D),by rw[c4];exact d0.old RaC.sta λq D=>.inl (dm q D)⟩ om
  .by_cases e:i=k
   .subst e;rw[ha];exact⟨om,e0⟩
   exact cc i h om
  by_cases e:i=k
  .subst e;rw[ha,List.getElem_append_right om];simp only[cq,Nat.sub_self,List.getElem_cons_zero];exact⟨db,et⟩
  rw[List.getElem_append_left (by simp at h2;omega)];exact dj i h1 (by simp at h2;omega)
 have ey:k=l.length:=by have:=oF F;omega
 clear F;subst ey;rw[show l.length=(l.map λa=>(lvs a).length).length by simp,List.take_length]at ax;obtain⟨NA,nc,eN,ep,_⟩:=Jy ax;subst eN;have e6:decide ((l.length:Int)<=6)=decide (l.length<=6):=decide_eq_decide.2 om;refine ρ ?_;rw[e6];refine Jqx ⟨a4,.inl ⟨λa ha=>?_,vo,vm,_,ms,rfl,cq,dj,bo.gx AtC.sta (by simp;omega) λq D=>False.elim D,bq.gx RaC.sta (by simp;omega) λq D=>False.elim D,?_⟩⟩
 .obtain⟨i,hi,rfl⟩:=List.getElem_of_mem ha;exact cc i hi hi
 refine⟨NA,nc,by rw[Ju],by rw[Ju];exact ep,by rw[Ju];simp;omega,?_⟩;have:=Rd.own ax;rwa [Ju]
open Go.RowKit Pl Go.Wk Bl
theorem zRA: Qu Tryz.prog 46=some (.agg #[.slice none 0 0,.slice none 0 0]):=kr
theorem Qfd{w:World}{t:V3}{a:Atm}(h:AtV w t a)(hl:∀ r∈a.rows,r.length<=100000)(hm:a.rows.length<=1100000): Ret Tryz.prog 18 [.agg t.cells.toArray] w λu w'=>∃ v1 v2,u=.agg #[v1,v2]/\IntsV w' v1 a.vars/\RowsV w' v2 a.rows/\Ext w w':=by
 obtain⟨v1,v2,v3⟩:=t;obtain⟨hv,e2,hr⟩:=h;simp only at hv e2 hr;subst e2;obtain⟨A,c,rfl,_⟩:=id hv;obtain⟨ps,B,d,eL,rfl,_⟩:=id hr;refine Jz Tryz.func18 Tryz.ntmps18 rfl kr rfl ?_;refine ρ ?_;refine bx (cs:=[.slice A a.vars.length c,.int .i64 (a.ar:Int),.slice B ps.length d]) ?_;intro w1 b1 a1 af ac;refine ρ ?_;refine alc zRA ?_;intro w2 b2 Z a7 a4;have F:Ext w2 w2.drew:=(Ext.refl w2).drew;have J:=a1.trans (Z.trans F);have D:=(ac.ext Z).ext F;refine ρ ?_;refine dr [(0,0),(0,1),(0,2),(0,3),(1,4),(1,5),(0,6),(2,7)] kr ?_;refine ρd ?_;refine dld (D.at (i:=0) rfl) ?_;refine ρd ?_;refine Qj (cs:=[.int .i64 (a.ar:Int),.slice B ps.length d]) (λj u y=>match j,y with
  | 0,y=>by injection y with y;subst y;exact D.at (i:=1) rfl
  | 1,y=>by injection y with y;subst y;exact D.at (i:=2) rfl
  | j+2,y=>by cases y) ?_
 refine ρd ?_;refine dcl (Jyf (ar:=a.ar) (ls:=a.rows) ⟨.slice B ps.length d,rfl,hr.ext J⟩) ?_;rintro ad w3 ⟨G,a8⟩;refine⟨G,?_⟩;refine ρd ?_;refine dcl (Jhj a8.off.here hl) ?_;rintro rf w4 ⟨a2,U⟩;refine⟨U,?_⟩;obtain⟨FA,fc,eF,_,a9⟩:=id a2.form;subst eF;refine ρd ?_;refine dbld (λw=>Jsv _ _ _ _ _ _ w) ?_;refine ρd ?_;refine Jf ?_;have a3:=(a4.ext F).ext (G.trans U);refine stb (cs':=[.slice A a.vars.length c,.slice FA a.rows.length fc]) a3 ?_ (λu y=>by
  simp only[List.mem_cons,List.not_mem_nil,or_false]at y;rcases y with rfl|rfl<;>rfl)
 intro w5 aa a6 a5;have O:Ext w w5:=a5 w (J.trans (G.trans U)) (nL a1.size a7);have ae:=a4.lt;have z1:=F.size;have z3:=G.size;refine ρ ?_;refine Zb aa ⟨_,_,rfl,hv.ext O,Jyn (a2.gr RfC.sta (GrN.by a6 λq e=>e) (M:=λq=>some b2=some q) λq hq=>?_) hm,O⟩;injection hq with hq
 subst hq;exact⟨.inl om,λe=>by have:=(a9 b2 e).1;omega⟩
end Go.Proofs.YtebiphhfkdbpfaaGreat
namespace Go.Proofs.YtebiphhfkdbpfaaGreat
open Pl Go.Wk
variable {a b v1 v2:List Nat}{l out r1 r2:List Row}{n s:Nat}{kn z:Row}
structure PA where
 vs: List Nat
 rs:List Row
def Agr1(vs:List Nat)(x kn:Row): Prop:=∀ j,j<vs.length->vs.getD j 0<kn.length->x.getD j V0=kn.getD (vs.getD j 0) V0
def Alw(a:PA)(kn:Row): Prop:=∃ x∈a.rs,Agr1 a.vs x kn
def AnsP(l:List PA)(n:Nat)(kn z:Row): Prop:=z.length=n/\kn <+: z/\∀ a∈l,Alw a z
def JnS(l:List PA)(n:Nat)(kn:Row)(out:List Row): Prop:=Lt [] out/\∀ z,z∈out↔AnsP l n kn z
theorem Jzx{α:Type}: ∀ {l m:List α},l.Nodup->(∀ x∈l,x∈m)->l.length<=m.length
 | [],_,_,_=>Nat.zero_le _
 | x::l,m,hn,hs=>by
  obtain⟨a,b,rfl⟩:=List.append_of_mem (hs x mC);have hn':=List.nodup_cons.1 hn;have:=Jzx (l:=l) (m:=a++b) hn'.2 λy hy=>by grind
  grind
theorem Jbb{ds:List Bool}(h:Lt ds l): l.Nodup:=h.imp fun {a b} hab e=>by grind [Vo]
def D4(x:V): Prop:=x∈([⟨1,0,⟨#[]⟩⟩,⟨1,1,⟨#[]⟩⟩,⟨1,2,⟨#[]⟩⟩,⟨1,3,⟨#[]⟩⟩]:List V)
def Gh: Nat->List Row
 | 0=>[[]]
 | n+1=>(Gh n).flatMap λr=>[(⟨1,0,⟨#[]⟩⟩:V)::r,⟨1,1,⟨#[]⟩⟩::r,⟨1,2,⟨#[]⟩⟩::r,⟨1,3,⟨#[]⟩⟩::r]
theorem Jhf: ∀ n,(Gh n).length=4^n
 | 0=>rfl
 | n+1=>by
  rw[Gh,Nat.pow_succ,<-Jhf n];generalize Gh n=l
  induction l with
  | nil=>rfl
  | cons r l ih=>rw[List.flatMap_cons,List.length_append,ih,List.length_cons];simp;omega
theorem Jhd: ∀(n:Nat) (z:Row),z.length=n->(∀ x∈z,D4 x)->z∈Gh n
 | 0,[],_,_=>by simp[Gh]
 | n+1,x::z,h,hd=>by
  have ih:=Jhd n z (by simpa using h) λy hy=>hd y (List.mem_cons_of_mem _ hy);have hx:=hd x mC;rw[Gh,List.mem_flatMap];refine⟨z,ih,?_⟩;unfold D4 at hx;simp only[List.mem_cons,List.not_mem_nil,or_false]at hx ⊢;rcases hx with rfl|rfl|rfl|rfl<;>simp
theorem Qdk(h:Lt [] l)(hl:∀ z∈l,z.length=n/\∀ x∈z,D4 x): l.length<=4^n:=by
 rw[<-Jhf n];exact Jzx (Jbb h) λz u=>Jhd n z (hl z u).1 (hl z u).2
structure SmP(l:List PA)(n:Nat): Prop where
 lt:∀ a∈l,∀ v∈a.vs,v<n
 len:∀ a∈l,∀ r∈a.rs,r.length=a.vs.length
 d4:∀ a∈l,∀ r∈a.rs,∀ x∈r,D4 x
 cov:∀ v,v<n->∃ a∈l,v∈a.vs
theorem SmP.ans{l:List PA}(h:SmP l n)(hz:AnsP l n kn z): ∀ x∈z,D4 x:=by
 intro x U;obtain⟨i,hi,rfl⟩:=List.getElem_of_mem U;obtain⟨a,F,Z⟩:=h.cov i (by rw[<-hz.1];exact hi);obtain⟨j,D,e⟩:=List.getElem_of_mem Z;obtain⟨y,J,hg⟩:=hz.2.2 a F;have O:a.vs.getD j 0=i:=by rw[List.getD,List.getElem?_eq_getElem D];exact e
 have G:=hg j D (by rw[O];exact hi);have u:j<y.length:=by rw[h.len a F y J];exact D
 rw[O,List.getD,List.getD,List.getElem?_eq_getElem hi,List.getElem?_eq_getElem u]at G;simp only[Option.getD_some]at G;rw[<-G];exact h.d4 a F y J _ (List.getElem_mem u)
theorem SmP.cnt{l:List PA}(h:SmP l n)(hj:JnS l n kn out): out.length<=4^n:=Qdk hj.1 λz u=>⟨((hj.2 z).1 u).1,h.ans ((hj.2 z).1 u)⟩
def JoinS(l:List PA)(vs:List Nat)(rows:List Row): Prop:=Qo vs/\(∀ v,v∈vs↔∃ a∈l,v∈a.vs)/\Lt [] rows/\∀ z,z∈rows↔∃ x:Nat->V,z=vs.map x/\∀ a∈l,a.vs.map x∈a.rs
def MatS(l:List PA)(s:Nat)(rows:List Row): Prop:=Lt [] rows/\∀ z,z∈rows↔∃ x:Nat->V,z=(bk s 32).map x/\∀ a∈l,∃ r∈a.rs,∀ j,j<a.vs.length->s.testBit (a.vs.getD j 0)=true->r.getD j V0=x (a.vs.getD j 0)
theorem MatS.uniq{l:List PA}(h1:MatS l s r1)(h2:MatS l s r2): r1=r2:=Uz h1.1 h2.1 λz=>(h1.2 z).trans (h2.2 z).symm
theorem Qnx(ha:Qo a)(hb:Qo b)(h:∀ u,u∈a↔u∈b): a=b:=by
 induction a generalizing b with
 | nil=>
  cases b with
  | nil=>rfl
  | cons y b=>exact absurd ((h y).2 mC) (by simp)
 | cons x a ih=>
  cases b with
  | nil=>exact absurd ((h x).1 mC) (by simp)
  | cons y b=>
   have G:=List.pairwise_cons.1 ha;have F:=List.pairwise_cons.1 hb;have J:x=y:=by
    rcases List.mem_cons.1 ((h x).1 mC) with e|e
    .exact e
    rcases List.mem_cons.1 ((h y).2 mC) with e2|e2
    .exact e2.symm
    have:=G.1 _ e2;have:=F.1 _ e;omega
   subst J;rw[ih G.2 F.2 λu=>?_];have:=h u;constructor
   .intro D;rcases List.mem_cons.1 (this.1 (List.mem_cons_of_mem _ D)) with e|e
    .have:=G.1 _ D;omega
    exact e
   intro D;rcases List.mem_cons.1 (this.2 (List.mem_cons_of_mem _ D)) with e|e
   .have:=F.1 _ D;omega
   exact e
theorem JoinS.vuniq{l m:List PA}(h1:JoinS l v1 r1)(h2:JoinS m v2 r2)(h:∀ v,(∃ a∈l,v∈a.vs)↔∃ a∈m,v∈a.vs): v1=v2:=Qnx h1.1 h2.1 λv=>by rw[h1.2.1,h2.2.1,h]
theorem JoinS.uniq{l m:List PA}(h1:JoinS l v1 r1)(h2:JoinS m v2 r2)(h:∀ v,(∃ a∈l,v∈a.vs)↔∃ a∈m,v∈a.vs)(hx:∀ x:Nat->V,(∀ a∈l,a.vs.map x∈a.rs)↔∀ a∈m,a.vs.map x∈a.rs): v1=v2/\r1=r2:=by
 have e:=h1.vuniq h2 h;subst e;refine⟨rfl,Uz h1.2.2.1 h2.2.2.1 λz=>?_⟩;rw[h1.2.2.2,h2.2.2.2];exact exists_congr λx=>and_congr Iff.rfl (hx x)
end Go.Proofs.YtebiphhfkdbpfaaGreat
namespace Go.Wk
open Go.RowKit
variable {c' d m' n ty:Nat}{v z:Value}
theorem apXs{P:Program}{al:AL}{w:World}{Q:Exit->Act->World->Prop}{ops:Array Oper}{rest:List Oper}{pos:String}{aft:Array Edge}{α:Type}{t E sz bytes base:Nat}(hE:ElT P t E sz bytes z){Φ:(Nat->Prop)->World->List Value->α->Prop}(hΦ:Sta Φ){N N':Nat->Prop}{x y:Operand}{ls ms:List α}{A:Option Addr}(ho:OX E sz Φ N w base v ls)(hs:GX sz Φ N' w (.slice A m' c') ms)(h1:∀ cs a,Φ N' w cs a->∀ u∈cs,u.oneCell'=true)(hN:∀ k,N k->N' k∨w.heap.size<=k)(hv:∀ g,v.ownBlock=some g->N g)(hm:ls.length<=1100000)(hby:bytes<=64)(hbase:base<=w.heap.size)(kk:∀ v' w',OX E sz Φ N w' base v' (ls++ms)->w.grownBy w' v.ownBlock->(∀ g,v'.ownBlock=some g->v.ownBlock=some g∨w.heap.size<=g)->WL P n ops Q rest ((d,v')::al) w')(hx:ev al x=some v:=by rfl)(hy:ev al y=some (.slice A m' c'):=by rfl)(hd:Nat.blt d n=true:=by rfl):
  WL P n ops Q (⟨some d,.call { callee:=.builtin .append,args:=#[x,y],argTypes:=#[t,t] },ty,pos,aft,none⟩::rest) al w:=by
 obtain⟨ps,e,hr,hp⟩:=ho;obtain⟨⟨F,A2,c2,e2,e3,e4,e5,J,O⟩,hn⟩:=hs;injection e3 with e6 e7 e8
 subst e6;subst e7;subst e8;have a2:ps.length<=1100000:=by
  have:=congrArg List.length e;rw[List.length_map]at this;omega
 have a3:(ps.length+F.length)*bytes<=2200000*64:=Nat.mul_le_mul om hby;refine apb hE hr J (λu hu=>?_) (by unfold maxLen;omega) om hbase ?_ hx hy hd
 .obtain⟨p,U,G⟩:=List.mem_flatMap.1 hu;exact h1 _ _ (O p U).2 u G
 intro v' w' Z hg a1;refine kk v' w' ⟨ps++F,by rw[e,e2];simp,?_,λp hm=>?_⟩ hg a1
 .have e9:Jd (ps++F)=Jd ps++Jd F:=by simp[Jd]
  rw[List.length_append,e9];exact Z
 have D:GrN N w w':=GrN.by hg hv
 rcases List.mem_append.1 hm with h'|h'
 .exact⟨(hp p h').1,hΦ.gr (hp p h').2 D⟩
 exact⟨(O p h').1,hΦ.gr (hΦ.old (O p h').2 hN) D⟩
end Go.Wk
namespace Go.Proofs.YtebiphhfkdbpfaaGreat
open Go.RowKit Pl Go.Wk Bl
attribute [local irreducible] WC WL QX WD WDB WP WN WG WH
variable {l ls m:List Row}{N:Nat->Prop}{r x:Row}{a b:V}{v va vb:Value}{w:World}
def NoS(r:Row): Prop:=∀ x∈r,x.str=⟨#[]⟩
theorem NoS.at(h:NoS r)(i:Nat): (r.getD i V0).str=⟨#[]⟩:=by
 rcases Nat.lt_or_ge i r.length with hi|hi
 .rw[List.getD,List.getElem?_eq_getElem hi];exact h _ (List.getElem_mem hi)
 rw[List.getD,List.getElem?_eq_none hi];rfl
theorem Qwr(w:World): Ret Tryz.prog 145 [.string ⟨#[]⟩,.string ⟨#[]⟩] w λu w'=>u=.int .i64 0/\w'=w:=by
 refine Jz Tryz.func145 Tryz.ntmps145 rfl kr rfl ?_;refine ρ ?_;refine Jl (fun (i:Nat)=>[(0,.string ⟨#[]⟩),(1,.string ⟨#[]⟩),(5,.int .i64 0)]) (λi w'=>w'=w) (λi=>i) 0 sB rfl ?_;rintro i w1 rfl;refine ρ ?_;exact Jq ⟨rfl,rfl⟩
theorem Qmb(ha:a.str=⟨#[]⟩)(hb:b.str=⟨#[]⟩): cmpV a b=if a.kind≠b.kind then(if a.kind<b.kind then -1 else 1) else if a.num≠b.num then(if a.num<b.num then -1 else 1) else 0:=by
 have y:a.bytes=[]:=by unfold V.bytes;rw[ha]
 have u:b.bytes=[]:=by unfold V.bytes;rw[hb]
 unfold cmpV sgn;rw[y,u];have:Lib.compareBytes [] []=0:=rfl;rw[this];grind
theorem Qws(ha:a.str=⟨#[]⟩)(hb:b.str=⟨#[]⟩)(w:World): Ret Tryz.prog 116 [.agg a.cells.toArray,.agg b.cells.toArray] w λu w'=>u=.int .i64 (cmpV a b)/\Ext w w':=by
 refine Jz Tryz.func116 Tryz.ntmps116 rfl kr rfl ?_;refine ρ ?_;refine bx (cs:=a.cells) ?_;intro w1 b1 U a2 y;refine ρ ?_;refine bx (cs:=b.cells) ?_;intro w2 b2 J a1 D;have y:=y.ext J;have O:=U.trans J;have F:=Qmb ha hb;refine ρ ?_;refine ld (y.at (i:=0) rfl) ?_;refine ρ ?_;refine ld (D.at (i:=0) rfl) ?_;refine ρ ?_;refine ci (λh=>?_) (λh=>?_)
 .have G:a.kind≠b.kind:=by simpa using h
  rw[if_pos G]at F;refine ρ ?_;refine ld (y.at (i:=0) rfl) ?_;refine ρ ?_;refine ld (D.at (i:=0) rfl) ?_;refine ρ ?_;refine ci (λh=>?_) (λh=>?_)
  .have:=oT h;refine ρ ?_;exact Jq ⟨by rw[F,if_pos this],O⟩
  have:=oF h;refine ρ ?_;exact Jq ⟨by rw[F,if_neg this],O⟩
 have he:¬ a.kind≠b.kind:=by simpa using h
 rw[if_neg he]at F;refine ρ ?_;refine ld (y.at (i:=1) rfl) ?_;refine ρ ?_;refine ld (D.at (i:=1) rfl) ?_;refine ρ ?_;refine ci (λh=>?_) (λh=>?_)
 .have G:a.num≠b.num:=by simpa using h
  rw[if_pos G]at F;refine ρ ?_;refine ld (y.at (i:=1) rfl) ?_;refine ρ ?_;refine ld (D.at (i:=1) rfl) ?_;refine ρ ?_;refine ci (λh=>?_) (λh=>?_)
  .have:=oT h;refine ρ ?_;exact Jq ⟨by rw[F,if_pos this],O⟩
  have:=oF h;refine ρ ?_;exact Jq ⟨by rw[F,if_neg this],O⟩
 have Z:¬ a.num≠b.num:=by simpa using h
 rw[if_neg Z]at F;refine ρ ?_;refine ld (v:=.string ⟨#[]⟩) (y.at (i:=2) (by rw[<-ha];rfl)) ?_;refine ρ ?_;refine ld (v:=.string ⟨#[]⟩) (D.at (i:=2) (by rw[<-hb];rfl)) ?_;refine ρ ?_;refine cl (Qwr w2) ?_;rintro x w3 ⟨rfl,rfl⟩;refine ρ ?_;exact Jq ⟨by rw[F],O⟩
theorem Jhn{a b:Row}(ha:RowV w va a)(hb:RowV w vb b)(hna:NoS a)(hnb:NoS b): Ret Tryz.prog 70 [va,vb] w λu w'=>u=.int .i64 (Jk a b [])/\Ext w w':=by
 obtain⟨A,ac,rfl,aa,a9,ha⟩:=ha;obtain⟨B,bc,rfl,a8,a7,hb⟩:=hb;refine Jz Tryz.func70 Tryz.ntmps70 rfl kr rfl ?_;refine ρ ?_;refine Jl (fun (k:Nat)=>[(0,.slice A a.length ac),(1,.slice B b.length bc),(5,.int .i64 (k:Int))])
  (λk w'=>Ext w w'/\k<=a.length/\k<=b.length/\Jk a b []=Jk (a.drop k) (b.drop k) []) (λk=>a.length-k) 0 sB ⟨Ext.refl w,Nat.zero_le _,Nat.zero_le _,rfl⟩ ?_
 rintro k w1 ⟨G,a3,a2,he⟩;have a6:=ha.ext G;have a5:=hb.ext G;have out:(a.length<=k∨b.length<=k)->Jk a b []=if a.length<b.length then -1 else if b.length<a.length then 1 else 0:=λh=>by
  have:=Jrw (ds:=[]) h a3 a2;rw[List.drop_nil,<-he]at this;exact this
 refine ρ ?_;refine Kp (fun (t:Bool)=>[(0,.slice A a.length ac),(1,.slice B b.length bc),(5,.int .i64 (k:Int)),(16,.bool t)])
  (λt w2=>w2=w1/\t=decide (k<a.length/\k<b.length)) ?_ ?_
 .refine ki 11 (λh=>?_) (λh=>?_)
  .have:=oT h;refine ρ ?_;exact Js (decide ((k:Int)<(b.length:Int))) sB ⟨rfl,by grind⟩
  have:=oF h;refine ρ ?_;exact Js false sB ⟨rfl,by grind⟩
 rintro t w2 ⟨rfl,rfl⟩;refine ρ ?_;refine ci (λh=>?_) (λh=>?_)
 .obtain⟨F,D⟩:=oT h;refine ρ ?_;refine dr [(0,0),(0,1),(0,2),(0,3),(0,4),(0,5),(0,6),(0,7),(1,8),(0,9)] kr ?_;have y:Ext w2 w2.drew:=(Ext.refl w2).drew;have Z:=a6.ext y;have U:=a5.ext y;refine ρd ?_;refine Qp 3 k Z F ?_;refine ρd ?_;refine Qj (cs:=(a.getD k V0).cells) (λj u hu=>RdR.cell Z F hu) ?_;refine ρd ?_;refine Qp 3 k U D ?_;refine ρd ?_;refine Qj (cs:=(b.getD k V0).cells) (λj u hu=>RdR.cell U D hu) ?_;refine ρd ?_;refine dcl (Qws (hna.at k) (hnb.at k) _) ?_;rintro x w3 ⟨rfl,O⟩;refine⟨O,?_⟩;have J:Ext w w3:=(G.trans y).trans O;refine ρd ?_;refine ρ ?_;have step:=Jsb (ds:=[]) F D;rw[List.drop_nil,List.drop_nil,<-he]at step;refine ci (λh=>?_) (λh=>?_)
  .have a1:cmpV (a.getD k V0) (b.getD k V0)≠0:=by simpa using h
   rw[if_neg a1]at step;refine ρ ?_;exact Jq ⟨by rw[step],J⟩
  have a4:cmpV (a.getD k V0) (b.getD k V0)=0:=by simpa using h
  rw[if_pos a4]at step;refine ρ ?_;exact Jg (k+1) sO ⟨J,om,om,step⟩ om
 have Zx:a.length<=k∨b.length<=k:=by have:=oF h;omega
 have e:=out Zx;refine ρ ?_;refine ci (λh1=>?_) (λh1=>?_)
 .have h1:=oT h1;refine ρ ?_;exact Jq ⟨by rw[e,if_pos om],G⟩
 have h1:=oF h1;rw[if_neg om]at e;refine ρ ?_;refine ci (λh2=>?_) (λh2=>?_)
 .have h2:=oT h2;refine ρ ?_;exact Jq ⟨by rw[e,if_pos om],G⟩
 have h2:=oF h2;refine ρ ?_;exact Jq ⟨by rw[e,if_neg om],G⟩
theorem Jkd{ps:List Pr}{i:Nat}: (ps.map (·.2)).getD i []=(ps.getD i z0).2:=by
 simp only[List.getD,List.getElem?_map];cases ps[i]?<;>rfl
theorem Qwn(hl:RowsV w va l)(hm:RowsV w vb m)(hnl:∀ r∈l,NoS r)(hnm:∀ r∈m,NoS r): Ret Tryz.prog 41 [va,vb] w λu w'=>u=.bool (decide (l=m))/\Ext w w':=by
 obtain⟨ps,A,ac,rfl,rfl,a8,a7,ha,a2⟩:=hl;obtain⟨D,B,bc,rfl,rfl,a6,a5,hb,a1⟩:=hm;refine Jz Tryz.func41 Tryz.ntmps41 rfl kr rfl ?_;refine ρ ?_;refine ci (λh=>?_) (λh=>?_)
 .have J:ps.length≠D.length:=by
   intro e;rw[e]at h;simp at h
  refine ρ ?_;exact Jq ⟨by rw[decide_eq_false λe=>J (by have:=congrArg List.length e;simpa using this)],Ext.refl _⟩
 have O:ps.length=D.length:=by
  have:=h;simp at this;omega
 refine ρ ?_;refine Jl (fun (k:Nat)=>[(0,.slice A ps.length ac),(1,.slice B D.length bc),(5,.int .i64 (k:Int))])
  (λk w'=>Ext w w'/\k<=ps.length/\∀ j,j<k->(ps.getD j z0).2=(D.getD j z0).2) (λk=>ps.length-k) 0 sB ⟨Ext.refl w,Nat.zero_le _,λj U=>absurd U (Nat.not_lt_zero _)⟩ ?_
 rintro k w1 ⟨hx,hk,he⟩;refine ρ ?_;refine ci (λh=>?_) (λh=>?_)
 .have lk:k<ps.length:=by have:=oT h;omega
  have F:k<D.length:=om
  refine ρ ?_;refine dr [(0,0),(0,1),(0,2),(0,3),(0,4),(0,5),(0,6),(0,7),(1,8),(0,9)] kr ?_;have Z:Ext w1 w1.drew:=(Ext.refl w1).drew;have y:=hx.trans Z;refine ρd ?_;refine dix k (ha.ext y) lk ?_;refine ρd ?_;refine dld ((ha.ext y).cell (Gs lk)) ?_;refine ρd ?_;refine dix k (hb.ext y) F ?_;refine ρd ?_;refine dld ((hb.ext y).cell (Gs F)) ?_;refine ρd ?_;have m1:=getD_mem' z0 ps lk;have m2:=getD_mem' z0 D F;refine dcl (Jhn ((a2 _ m1).ext y) ((a1 _ m2).ext y) (hnl _ (List.mem_map.2 ⟨_,m1,rfl⟩)) (hnm _ (List.mem_map.2 ⟨_,m2,rfl⟩))) ?_;rintro x w2 ⟨rfl,G⟩;refine⟨G,?_⟩;refine ρd ?_;refine ρ ?_;refine ci (λh=>?_) (λh=>?_)
  .have J:Jk (ps.getD k z0).2 (D.getD k z0).2 []≠0:=by simpa using h
   refine ρ ?_;exact Jq ⟨by rw[decide_eq_false λe=>J (by rw[<-Jkd,<-Jkd,e];exact Vo _ _)],y.trans G⟩
  have a4:Jk (ps.getD k z0).2 (D.getD k z0).2 []=0:=by simpa using h
  refine ρ ?_;exact Jg (k+1) sO ⟨y.trans G,om,λj U=>by
   rcases Nat.lt_or_ge j k with h|h
   .exact he j h
   have:j=k:=om
   subst this;exact Jjl _ _ _ a4⟩ om
 have a3:k=ps.length:=by have:=oF h;omega
 subst a3;refine ρ ?_;refine Jq ⟨?_,hx⟩;rw[decide_eq_true];refine List.ext_getElem (by simpa using O) λj h1 h2=>?_;have U:j<ps.length:=by simpa using h1
 have:=he j U;rw[<-Jkd,<-Jkd,List.getD,List.getElem?_eq_getElem h1,List.getD,List.getElem?_eq_getElem h2]at this;exact this
theorem Qlv(l:List Row)(y r:Row): cnt [] (l++[y]) r=cnt [] l r+if Jk y r []<0 then 1 else 0:=by
 unfold cnt;rw[List.filter_append,List.length_append];by_cases h:Jk y r []<0<;>simp[h]
theorem Qwm(hl:RowsV w va l)(hx:RowV w vb x)(hnl:∀ r∈l,NoS r)(hnx:NoS x): Ret Tryz.prog 110 [va,vb] w λu w'=>u=.tuple #[.int .i64 (cnt [] l x:Int),.bool (decide (x∈l))]/\Ext w w':=by
 obtain⟨ps,A,ac,rfl,rfl,a6,a5,ha,a1⟩:=hl;obtain⟨B,bc,rfl,_⟩:=id hx;refine Jz Tryz.func110 Tryz.ntmps110 rfl kr rfl ?_;refine ρ ?_;refine Jl (fun (k:Nat)=>[(0,.slice A ps.length ac),(1,.slice B x.length bc),(6,.int .i64 (cnt [] ((ps.map (·.2)).take k) x:Int)),(7,.bool (decide (x∈(ps.map (·.2)).take k))),(8,.int .i64 (k:Int))])
  (λk w'=>Ext w w'/\k<=ps.length) (λk=>ps.length-k) 0 sB ⟨Ext.refl w,Nat.zero_le _⟩ ?_
 rintro k w1 ⟨y,hk⟩;refine ρ ?_;refine ci (λh=>?_) (λh=>?_)
 .have lk:k<ps.length:=by have:=oT h;omega
  refine ρ ?_;refine ix k (ha.ext y) lk ?_;refine ρ ?_;refine ld ((ha.ext y).cell (Gs lk)) ?_;refine ρ ?_;have m1:=getD_mem' z0 ps lk;refine cl (Jhn ((a1 _ m1).ext y) (hx.ext y) (hnl _ (List.mem_map.2 ⟨_,m1,rfl⟩)) hnx) ?_;rintro x' w2 ⟨rfl,O⟩;have G:(ps.map (·.2)).take (k+1)=(ps.map (·.2)).take k++[(ps.getD k z0).2]:=by
   rw[List.take_add_one,List.getElem?_map,List.getElem?_eq_getElem lk];simp[List.getD,List.getElem?_eq_getElem lk]
  have D:=Qlv ((ps.map (·.2)).take k) (ps.getD k z0).2 x
  rw[<-G]at D;have a4:=cnt_le [] ((ps.map (·.2)).take k) x
  have a3:((ps.map (·.2)).take k).length<=1100000:=by simp;omega
  refine ρ ?_;refine ci (λh=>?_) (λh=>?_)
  .have Z:=oT h;rw[if_pos Z]at D;have J:¬ x=(ps.getD k z0).2:=λe=>by rw[<-e,Vo]at Z;omega
   have F:decide (x∈(ps.map (·.2)).take (k+1))=decide (x∈(ps.map (·.2)).take k):=by rw[G];exact decide_eq_decide.2 (by rw[List.mem_append,List.mem_singleton];exact⟨λh=>h.resolve_right J,.inl⟩)
   refine ρ ?_;refine cf ?_ ?_
   .have:Jk (ps.getD k z0).2 x []≠0:=om
    simpa using this
   refine ρ ?_;refine Jg (k+1) ?_ ⟨y.trans O,om⟩ om;rw[F,D];exact sO
  have U:=oF h;rw[if_neg U]at D;refine ρ ?_;refine ci (λh=>?_) (λh=>?_)
  .have e0:Jk (ps.getD k z0).2 x []=0:=by simpa using h
   have F:decide (x∈(ps.map (·.2)).take (k+1))=true:=by rw[G,<-Jjl _ _ _ e0];simp
   refine ρ ?_;refine Jg (k+1) ?_ ⟨y.trans O,om⟩ om;rw[F,D];exact sO
  have e0:¬ Jk (ps.getD k z0).2 x []=0:=by simpa using h
  have J:¬ x=(ps.getD k z0).2:=λe=>by rw[<-e,Vo]at e0;omega
  have F:decide (x∈(ps.map (·.2)).take (k+1))=decide (x∈(ps.map (·.2)).take k):=by rw[G];exact decide_eq_decide.2 (by rw[List.mem_append,List.mem_singleton];exact⟨λh=>h.resolve_right J,.inl⟩)
  refine ρ ?_;refine Jg (k+1) ?_ ⟨y.trans O,om⟩ om;rw[F,D];exact sO
 have a2:k=ps.length:=by have:=oF h;omega
 subst a2;refine ρ ?_;refine Xx ⟨?_,y⟩;rw[show ps.length=(ps.map (·.2)).length by simp,List.take_length]
theorem RfC.one{cs:List Value}(h:RfC N w cs r): ∀ u∈cs,u.oneCell'=true:=by
 obtain⟨v,rfl,A,c,rfl,_⟩:=h;intro u y;rw[List.mem_singleton.1 y];rfl
theorem Jnr(h:GX 1 RfC N w v ls): RowsV w v ls:=by
 obtain⟨⟨ps,A,c,e,e1,e2,e3,hr,F⟩,hn⟩:=h;have J:∀ D:List (List Value×Row),(∀ p∈D,p.1.length=1/\RfC N w p.1 p.2)->∃ y:List Pr,D.map (·.2)=y.map (·.2)/\y.length=D.length/\Jd D=y.map (·.1)/\∀ p∈y,RowV w p.1 p.2:=λD=>by
  induction D with
  | nil=>exactλ_=>⟨[],rfl,rfl,rfl,λp h=>by cases h⟩
  | cons q D ih=>
   intro h;obtain⟨y,Z,G,U,O⟩:=ih λp F=>h p (List.mem_cons_of_mem _ F);obtain⟨_,u,eu,hu⟩:=h q (mC ..);refine⟨(u,q.2)::y,by simp[Z],by simp[G],?_,λp F=>?_⟩
   .show q.1++Jd D=_;rw[eu,U];rfl
   rcases List.mem_cons.1 F with rfl|F
   .exact hu.v
   exact O p F
 obtain⟨y,Z,G,U,O⟩:=J ps F;exact⟨y,A,c,by rw[e,Z],by rw[G];exact e1,om,om,by rw[G,<-U];exact hr,O⟩
theorem Qwq(hN:∀ k,N k->k<w.heap.size)(hl:GX 1 RfC N w va l)(hx:RowX w N vb x)(hnl:∀ r∈l,NoS r)(hnx:NoS x)(hlen:l.length<=1000000): Ret Tryz.prog 64 [va,vb] w λu w'=>GX 1 RfC N w' u (Iq [] l x)/\Ext w w':=by
 obtain⟨A,c,_,rfl,hc,hm,hR,_⟩:=id hl.el;obtain⟨B,bc,rfl,_⟩:=id hx;refine Jz Tryz.func64 Tryz.ntmps64 rfl kr rfl ?_;refine ρ ?_;refine cl (Qwm (Jnr hl) hx.v hnl hnx) ?_;rintro u w1 ⟨rfl,D⟩;have a7:=cnt_le [] l x;generalize hi:cnt [] l x=i at *
 refine ρ ?_;refine ci (λh=>?_) (λh=>?_)
 .have J:=oT h;refine ρ ?_;exact Jq ⟨by unfold Iq;rw[if_pos J];exact hl.ext RfC.sta (by decide) D,D⟩
 have J:=oF h;have a3:=(hl.old RfC.sta (N':=λk=>N k∨w.heap.size<=k) (by decide) λk F=>F).ext RfC.sta (by decide) D;have a8:=(hx.oldN (N':=λk=>N k∨w.heap.size<=k) λk F=>F).grN (GrN.ext D);have c1:=a3.cut (k:=0) (m:=i) (by decide) (Nat.zero_le _) a7;have c2:=a3.cut (k:=i) (m:=l.length) (by decide) a7 (nR _);rw[cut0,Nat.sub_zero,Nat.sub_zero,List.drop_zero]at c1;rw[List.take_of_length_le (by simp)]at c2;have z1:=D.size;refine ρ ?_;refine slh i ?_;refine ρ ?_;refine apXs (base:=w.heap.size) ERfs RfC.sta (N:=λk=>N k∨w.heap.size<=k) (OX.nil _ _) c1 (λcs a h=>h.one) (λk F=>.inl F) (λg hg=>by cases hg) (by simp) (by decide) z1 ?_;intro v2 w2 G ae _;rw[List.nil_append]at G;have aa:Ext w1 w2:=Jr (Ext.refl w1) ae λk e=>by cases e
 refine ρ ?_;refine bsl (Jsl _ _ _) ?_;intro w3 b3 Z aj ah;obtain⟨_,_,_,_,O⟩:=id G.form;have ac:=G.ext RfC.sta Z;have y:=aa.trans Z;refine ρ ?_;refine apX ERfs RfC.sta ac ah rfl (λu hu=>by rw[List.mem_singleton.1 hu];rfl) ⟨_,rfl,a8.grN (GrN.ext y)⟩ (λg hg=>.inr (O g hg).1) (by simp;omega) (by decide) (nL z1 y.size) ?_;intro v4 w4 a2 a4 ai;have U:Ext w w4:=Jr (D.trans y) a4 λq e=>(O q e).1;have a5:GrN (λk=>N k∨w.heap.size<=k) w1 w4:=(GrN.ext y).trans (GrN.by a4 λk e=>.inr (O k e).1);obtain⟨_,_,_,_,a6⟩:=id a2.form;refine ρ ?_;refine sll i ?_;refine ρ ?_;refine apXs ERfs RfC.sta a2 (c2.gr RfC.sta (by decide) a5) (λcs a h=>h.one) (λk F=>.inl F) (λg hg=>.inr (a6 g hg).1) (by simp;omega) (by decide) U.size ?_;intro v5 w5 a1 ad _;have a9:Ext w w5:=Jr U ad λq e=>(a6 q e).1;have e0:Iq [] l x=l.take i++[x]++l.drop i:=by
  unfold Iq;rw[if_neg J,hi];simp
 obtain⟨_,_,_,_,af⟩:=id a1.form;refine ρ ?_;refine Jq ⟨?_,a9⟩;rw[e0];exact a1.gx RfC.sta (by simp;omega) λk F=>⟨.inl F,λe=>by have:=(af k e).1;have:=hN k F;omega⟩
end Go.Proofs.YtebiphhfkdbpfaaGreat
namespace Go.Wk
open Go.RowKit
variable {α:Type}{w:World}
theorem gxNil{sz:Nat}{Φ:(Nat->Prop)->World->List Value->α->Prop}{N:Nat->Prop}: GX sz Φ N w (.slice none 0 0) [] :=
 ⟨⟨[],none,0,rfl,rfl,Nat.le_refl _,Nat.zero_le _,Rd.nil,λp u=>by cases u⟩,λh=>absurd rfl h⟩
theorem gxOf{sz:Nat}{Φ:(Nat->Prop)->World->List Value->α->Prop}{A:Option Addr}{c:Nat}{ps:List (List Value×α)}(hR:Rd w sz A ps.length (Jd ps))(hc:ps.length<=c)(hm:ps.length<=1100000)(hp:∀ p∈ps,p.1.length=sz/\Φ (λ_=>False) w p.1 p.2): GX sz Φ (λ_=>False) w (.slice A ps.length c) (ps.map (·.2)) :=
 ⟨⟨ps,A,c,rfl,rfl,hc,hm,hR,hp⟩,λ_ _ _ _ _ h=>h⟩
end Go.Wk
namespace Go.Proofs.YtebiphhfkdbpfaaGreat
open Go.RowKit Pl Go.Wk Bl
attribute [local irreducible] WC WL QX WD WDB WP WN WG WH
variable {cols cs vs:List Nat}{ls m ms rs:List Row}{base s:Nat}{v v1 v2 va vc:Value}{w w' w0:World}
theorem Jgm(h:IsSet [] ls m): m.length<=ls.length:=Jzx (Jbb h.1) λx u=>(h.2 x).1 u
theorem NoS.pm{r:Row}(h:NoS r)(cs:List Nat): NoS (pmR cs r):=λx u=>by
 obtain⟨c,_,rfl⟩:=List.mem_map.1 u;exact h.at c
theorem Qwp(hl:RowsV w va ls)(hc:IntsV w vc (nz cols))(hlt:∀ r∈ls,∀ c∈cols,c<r.length)(hn:∀ r∈ls,NoS r)(hcl:cols.length<=1000)(hll:ls.length<=1000000): Ret Tryz.prog 33 [va,vc] w λu w'=>∃ m,GX 1 RfC (Ol w) w' u m/\IsSet [] (ls.map (pmR cols)) m/\Ext w w':=by
 obtain⟨ps,A,ac,rfl,rfl,be,bd,ha,ar⟩:=hl;obtain⟨C,cc,rfl,bb,ba,hC⟩:=hc;have af:=Ju cols;rw[af]at hC;rw[List.length_map]at hll;refine Jz Tryz.func33 Tryz.ntmps33 rfl kr rfl ?_;refine ρ ?_;rw[af];refine Qd (fun (k:Nat) (vo:Value)=>[(0,.slice A ps.length ac),(1,.slice C cols.length cc),(5,vo),(6,.int .i64 (k:Int))])
  (λk vo w'=>k<=ps.length/\Ext w w'/\∃ m,GX 1 RfC (Ol w) w' vo m/\IsSet [] (((ps.map (·.2)).map (pmR cols)).take k) m) (λk _=>ps.length-k) 0 (.slice none 0 0) sB
  ⟨Nat.zero_le _,Ext.refl _,[],gxNil,List.Pairwise.nil,λx=>by simp⟩ ?_
 rintro k vo w1 ⟨hk,D,m,hm,F⟩;refine ρ ?_;refine ci (λh=>?_) (λh=>?_)
 .have lk:k<ps.length:=by have:=oT h;omega
  clear h;have m1:=getD_mem' z0 ps lk;have a2:(ps.getD k z0).2∈ps.map (·.2):=List.mem_map.2 ⟨_,m1,rfl⟩
  have ae:=ar _ m1;have aq:=hlt _ a2;have ap:=hn _ a2;obtain⟨R,rc,eR,b7,b6,hR⟩:=id ae;generalize hr:(ps.getD k z0).2=r at *
  refine ρ ?_;refine Qd (fun (j:Nat) (vx:Value)=>[(0,.slice A ps.length ac),(1,.slice C cols.length cc),(5,vo),(6,.int .i64 (k:Int)),(7,vx),(8,.int .i64 (j:Int))])
   (λj vx w'=>j<=cols.length/\Ext w1 w'/\OwnF w' w1.heap.size vx ((cols.take j).map λc=>r.getD c V0)) (λj _=>cols.length-j) 0 (.slice none 0 0) sB
   ⟨Nat.zero_le _,Ext.refl _,Xj _ _ _ _⟩ ?_
  rintro j vx w2 ⟨hj,a1,ho⟩;refine ρ ?_;refine ci (λh=>?_) (λh=>?_)
  .have lj:j<cols.length:=by have:=oT h;omega
   clear h;have aj:cols.getD j 0<r.length:=aq _ (getD_mem' 0 _ lj);obtain⟨own,Z⟩:∃ own,own=vx.ownBlock:=⟨_,rfl⟩;have ah:∀ j,own=some j->w1.heap.size<=j:=λj ej=>by
    obtain⟨_,_,_,_,hf⟩:=Jy ho;exact(hf j (by rw[<-Z];exact ej)).1
   have b5:((cols.take j).map λc=>r.getD c V0).length=j:=by simp;omega
   refine ρ ?_;refine drN (one own) 20 [(0,0),(0,1),(0,2),(0,3),(0,4),(0,5),(0,6),(0,7),(0,8),(0,9),(0,10),(1,11),(1,12),(0,13)] kr ?_;have aa:Ext w2 w2.drew:=(Ext.refl w2).drew;have a4:=a1.trans aa;have a5:=D.trans a4;have av:=Jb ho aa;have O:∀ {g:Nat},g<w1.heap.size->¬ one own g:=λhg e=>by have:=ah _ e;omega
   have ak:=ha.ext a5;have an:=hC.ext a5;have am:Rd w2.drew 3 R r.length (Je r):=Rd.ext hR a5;have a9:∀ G,A=some G->G.block<w1.heap.size:=λG ea=>by
    obtain⟨ao,J,hb⟩:=ha.isome om (by decide);rw[ea]at J;injection J with J;subst J;have:=D.size;omega
   have a8:∀ G,C=some G->G.block<w1.heap.size:=λG ea=>by
    obtain⟨ao,J,hb⟩:=hC.isome om (by decide);rw[ea]at J;injection J with J;subst J;have:=D.size;omega
   have a7:∀ G,R=some G->G.block<w1.heap.size:=λG ea=>by
    obtain⟨ao,J,hb⟩:=Rd.isome hR om (by decide);rw[ea]at J;injection J with J;subst J;have:=D.size;omega
   refine ρn ?_;refine nix k ak lk ?_;refine ρn ?_;refine nld (v:=.slice R r.length rc) (λw' hg=>((Zg ak hg λh0 G e=>O (a9 G e)).cell (Gs lk)).trans (by rw[eR])) ?_;refine ρn ?_;refine nix j an lj ?_;refine ρn ?_;refine nld (λw' hg=>(Zg an hg λh0 G e=>O (a8 G e)).cell (Qn lj)) ?_;refine ρn ?_;refine Vt 3 (cols.getD j 0) am aj ?_;refine ρn ?_;refine Yw (cs:=(r.getD (cols.getD j 0) V0).cells) (λw' hg j u hu=>RdR.cell (Zg am hg λh0 G e=>O (a7 G e)) aj hu) ?_;refine ρn ?_;refine nop ?_;refine bsl (Jsm _) ?_;intro w3 b3 U bc b4;refine ρ ?_;refine Qg (GrN.ext U) ?_;refine nop ?_;have a3:=a4.trans U;refine apb (m':=1) (news:=(r.getD (cols.getD j 0) V0).cells) ERf (Jb av U) (b4.rd (n:=1) rfl) (V.one _) (by unfold maxLen;omega) om a3.size ?_;intro v4 w4 aw ai b9;refine ρ ?_;refine Qg (GrN.by ai λj ej=>by rw[<-Z]at ej;exact ej) ?_;refine ρn ?_;refine ρ ?_;have a6:((cols.take (j+1)).map λc=>r.getD c V0)=((cols.take j).map λc=>r.getD c V0)++[r.getD (cols.getD j 0) V0]:=by rw[Xu 0 lj,List.map_append];rfl
   refine Qv (j+1) v4 sO ⟨lj,Jr a3 ai λq e=>ah q (by rw[Z];exact e),?_⟩ om;rw[OwnF,a6,List.length_append,Jyd,Jyb];exact aw
  have b2:j=cols.length:=by have:=oF h;omega
  subst b2;rw[List.take_length]at ho;have b8:(pmR cols r).length=cols.length:=by simp[pmR]
  have au:RowX w2 (Ol w) vx (pmR cols r):=(OwnF.x ho (by simp;omega)).oldN λq hq=>.inl (nM hq D.size);have ax:=Jgm F;rw[List.length_take]at ax;have a6:((ps.map (·.2)).map (pmR cols)).take (k+1)=((ps.map (·.2)).map (pmR cols)).take k++[pmR cols r]:=by
   rw[List.take_add_one,List.getElem?_map,List.getElem?_map,List.getElem?_eq_getElem lk,<-hr];simp[List.getD,List.getElem?_eq_getElem lk]
  refine ρ ?_;refine cl (Qwq (N:=Ol w) (λq hq=>nM hq (D.trans a1).size) (hm.ext RfC.sta (by decide) a1) au (λy hy=>?_) (ap.pm cols) om) ?_
  .have h1:=(F.2 y).1 hy;obtain⟨z,hz,rfl⟩:=List.mem_map.1 (List.mem_of_mem_take h1);exact(hn z hz).pm cols
  rintro u w3 ⟨hu,U⟩;refine ρ ?_;exact Qv (k+1) u sO ⟨lk,(D.trans a1).trans U,_,hu,by rw[a6];exact Qvh F⟩ om
 have ay:k=ps.length:=by have:=oF h;omega
 subst ay;refine ρ ?_;refine Jq ⟨m,hm,?_,D⟩;rw[List.take_of_length_le (by simp)]at F;exact F
theorem Qnm(s v:Nat): ((((s / 2^v:Nat):Int)).tmod 2 == 1)=s.testBit v:=by
 have u:(((s / 2^v:Nat):Int)).tmod 2=((s / 2^v % 2:Nat):Int):=rfl;rw[u,Nat.testBit_eq_decide_div_mod_eq];by_cases h:s / 2^v % 2=1
 .rw[h];rfl
 have:s / 2^v % 2=0:=om
 rw[this];rfl
theorem Qnc(w:World): (Instr.build 46 #[]).run Tryz.prog w=.ok (.agg #[.slice none 0 0,.slice none 0 0]) w:=kr
theorem oneT{A B:Option Addr}{n c m d:Nat}: ∀ u∈[Value.slice A n c,.slice B m d],u.oneCell'=true:=λu y=>by
 simp only[List.mem_cons,List.not_mem_nil,or_false]at y;rcases y with rfl|rfl<;>rfl
theorem Jql(ho:Qq w' w.heap.size v cs): ∀ g,v.ownBlock=some g->w.heap.size<=g/\g<w'.heap.size:=λg y=>by
 obtain⟨_,_,_,_,u⟩:=Jy ho;exact u g y
theorem Jlq(h:Qq w base v cs)(hm:cs.length<=1100000): IntsV w v (nz cs):=by
 obtain⟨A,c,e,u,_⟩:=Jy h;subst e;exact⟨A,c,by rw[Ju],by rw[Ju];exact u,by rw[Ju];exact hm,by rw[Ju];exact Rd.own h⟩
theorem Qyz(h:Qq w w0.heap.size v cs)(hm:cs.length<=1100000): Off (Ol w0) w λx=>IntsV x v (nz cs):=λw2 y=>
 Jlq (Jo h y λg D u=>by have:=(Jql h g D).1;exact absurd (show g<w0.heap.size from u) om) hm
theorem Qgg{N:Nat->Prop}(h:GX 1 RfC N w v ls): Off N w λx=>RowsV x v ls:=λw2 u=>Jnr (h.gr RfC.sta (by decide) u)
theorem Qwl(hv:IntsV w v1 (nz vs))(hr:RowsV w v2 rs)(hs:s<4294967296)(hasc:Qo vs)(hlt:∀ v∈vs,v<32)(hlen:∀ r∈rs,r.length=vs.length)(hn:∀ r∈rs,NoS r)(hll:rs.length<=1000000):
  Ret Tryz.prog 13 [.agg #[v1,v2],.int .u32 (s:Int)] w λu w'=>∃ u1 u2 m,u=.agg #[u1,u2]/\Off (Ol w) w' (λx=>IntsV x u1 (nz (inS vs s))/\RowsV x u2 m)/\IsSet [] (rs.map (pmR (Xw vs s))) m/\Ext w w':=by
 obtain⟨D,d,e1,hd,cy,ay⟩:=id hv;obtain⟨ps,G,gc,_,e2,_⟩:=id hr;subst e1;subst e2;have bl:=Ju vs;have cp:=Jjm hasc hlt;rw[bl]at ay;have bh:∀ i,i<vs.length->vs.getD i 0<32:=λi hi=>hlt _ (getD_mem' 0 _ hi);refine Jz Tryz.func13 Tryz.ntmps13 rfl kr rfl ?_;rw[bl];refine ρ ?_;refine bx (cs:=[.slice D vs.length d,.slice G ps.length gc]) ?_;intro w1 b am hb hB;refine ρ ?_;refine alc zRA ?_;intro w2 br aw d1 bz;refine ρ ?_;refine bld (Qnc _) ?_;refine ρ ?_;refine alc zRA ?_;intro w3 bq c7 ch ck;refine ρ ?_;refine stb (cs':=[.slice none 0 0,.slice none 0 0]) ck ?_ oneT;intro w4 c3 cx c6;have ae:Ext w2 w4:=c6 w2 c7 ch;have bb:Ext w w4:=(am.trans aw).trans ae;have ar:=(hB.ext aw).ext ae;have au:=bz.ext ae;have zb:=hB.lt;have zr:=bz.lt;have z2:=aw.size;refine ρ ?_;refine Zk (fun (k:Nat) (vv vc:Value)=>[(1,.int .u32 (s:Int)),(2,.pointer (some ⟨b,0,none⟩)),(4,.pointer (some ⟨br,0,none⟩)),(5,.pointer (some ⟨bq,0,none⟩)),(6,vc),(7,.int .i64 (k:Int))])
  (λk vv vc w'=>k<=vs.length/\Ext w w'/\Blk w' b 46 [.slice D vs.length d,.slice G ps.length gc]/\Blk w' br 46 [.slice none 0 0,.slice none 0 0]/\Blk w' bq 46 [vv,.slice none 0 0] /\
   Qq w' w.heap.size vv (inS (vs.take k) s)/\Qq w' w.heap.size vc (Zp vs s k)/\∀ g,vv.ownBlock=some g->vc.ownBlock≠some g) (λk _ _=>vs.length-k) 0 (.slice none 0 0) (.slice none 0 0) sB
  ⟨Nat.zero_le _,bb,ar,au,c3,Xj _ _ _ _,Xj _ _ _ _,λg e=>(by cases e)⟩ ?_
 clear ar au c3;rintro k vv vc w7 ⟨hk,a8,aj,a1,a5,a3,aa,af⟩;refine ρ ?_;refine ld (aj.at (i:=0) rfl) ?_;refine ρ ?_;refine ci (λh=>?_) (λh=>?_)
 .have lk:k<vs.length:=by have:=oT h;omega
  clear h;have b4:=ay.ext a8;have cz:=Jjj vs s k om;have cw:(inS (vs.take k) s).length<=32:=by
   have:=List.length_filter_le (λv=>s.testBit v) (vs.take k);rw[List.length_take]at this;unfold inS;omega
  refine ρ ?_;refine ld (aj.at (i:=0) rfl) ?_;refine ρ ?_;refine ix k b4 lk ?_;refine ρ ?_;refine ld (b4.cell (Qn lk)) ?_;refine ρ ?_;refine sr32 (s:=s) (v:=vs.getD k 0) (by have:=bh k lk;omega) ?_;refine ρ ?_;refine Kl rfl rfl (by decide) rfl ?_;refine ρ ?_;rw[Qnm];refine ci (λh=>?_) (λh=>?_)
  .refine ρ ?_;obtain⟨own,a4⟩:∃ own,own=vv.ownBlock:=⟨_,rfl⟩;have bp:∀ j,own=some j->w.heap.size<=j:=λj ej=>(Jql a3 j (by rw[<-a4];exact ej)).1;refine drN (one own) 20 [(0,0),(0,1),(0,2),(0,3),(0,4),(0,5),(0,6),(1,7),(1,8),(0,9),(2,10)] kr ?_;have a2:Ext w7 w7.drew:=(Ext.refl w7).drew;have a7:=a5.ext a2;have ao:=aj.ext a2;have bv:=b4.ext a2;have a9:=Jb a3 a2;have nq:¬ one own bq:=λe=>a7.ne_own a9 rfl (by rw[<-a4];exact e.symm);have nb:¬ one own b:=λe=>ao.ne_own a9 rfl (by rw[<-a4];exact e.symm);have ba:∀ {g:Nat},g<w.heap.size->¬ one own g:=λhg e=>by have:=bp _ e;omega
   have b9:∀ ad,D=some ad->ad.block<w.heap.size:=λad ea=>by
    obtain⟨d7,e',hb⟩:=ay.isome om (by decide);rw[ea]at e';injection e' with e';subst e';exact hb
   refine ρn ?_;refine nld (Qf (a7.at (i:=0) rfl) nq) ?_;refine ρn ?_;refine nld (Qf (ao.at (i:=0) rfl) nb) ?_;refine ρn ?_;refine nix k bv lk ?_;refine ρn ?_;refine nld (λw' hg=>(Zg bv hg λh0 ad e=>ba (b9 ad e)).cell (Qn lk)) ?_;refine ρn ?_;refine nop ?_;refine bsl (bs1Int'' _) ?_;intro w8 b8 y d2 cm;refine ρ ?_;refine Qg (GrN.ext y) ?_;refine nop ?_;have ap:=(a8.trans a2).trans y;refine apI (Jb a9 y) cm om ap.size ?_;intro U w9 an Z bm;refine ρ ?_;refine Qg (GrN.by Z λj ej=>by rw[<-a4]at ej;exact ej) ?_;refine ρn ?_;refine Xm ?_;have ak:Ext w w9:=Jr ap Z (λg J=>bp g (by rw[a4];exact J));have F:=(a7.ext y).grown Z ((a7.ext y).ne_own (Jb a9 y) rfl);have c2:=(ao.ext y).grown Z ((ao.ext y).ne_own (Jb a9 y) rfl);have a6:=((a1.ext a2).ext y).grown Z (((a1.ext a2).ext y).ne_own (Jb a9 y) rfl);have b3:Qq w9 w.heap.size vc (Zp vs s k):=Jo (Jb (Jb aa a2) y) (GrN.by Z λg J=>J) (λg J e=>af g e J)
   have aq:∀ g,U.ownBlock=some g->vc.ownBlock≠some g:=λg J e=>by
    rcases bm g J with h'|h'
    .exact af g h' e
    have:=(Jql aa g e).2;have:=a2.size;have:=y.size;omega
   have cn:U.oneCell'=true:=by obtain⟨_,_,e,_⟩:=Jy an;rw[e];rfl
   refine sto (p:=⟨bq,0,none⟩) (F.cell 0) (F.frozen _) ?_ (hv:=cn);have ax:w9.grownBy (w9.setCell ⟨bq,0,none⟩ U) (some bq):=Jgn _;have c0:=F.set 0 U;have bc:Ext w (w9.setCell ⟨bq,0,none⟩ U):=ak.setCell (by simp only;have:=am.size;omega) _;have bf:Qq (w9.setCell ⟨bq,0,none⟩ U) w.heap.size U (inS (vs.take k) s++[vs.getD k 0]):=Jo an (GrN.by ax λg J=>J) (λg J e=>by injection e with e;subst e;exact F.ne_own an rfl J.symm);have b2:Qq (w9.setCell ⟨bq,0,none⟩ U) w.heap.size vc (Zp vs s k):=Jo b3 (GrN.by ax λg J=>J) (λg J e=>by injection e with e;subst e;exact F.ne_own b3 rfl J.symm);have cj:Blk (w9.setCell ⟨bq,0,none⟩ U) b 46 _:=c2.far (by simp only;omega) _;have bw:Blk (w9.setCell ⟨bq,0,none⟩ U) br 46 _:=a6.far (by simp only;omega) _;refine ω5 ?_;refine Uf ?_;generalize w9.setCell ⟨bq,0,none⟩ U=ac at *
   clear F c2 a6 b3 ak Z ax an bm;refine ρn ?_;refine ρ ?_;refine bsl (bs1Int'' _) ?_;intro cr d6 O cq c4;refine ρ ?_;refine apI (z:=k) (Jb b2 O) c4 om (bc.trans O).size ?_;intro b7 b6 bt ah bn;have bd:Ext w b6:=Jr (bc.trans O) ah (λg J=>(Jql b2 g J).1);have av:∀ {g:Nat} {cs:List Value},Blk ac g 46 cs->Blk b6 g 46 cs:=λh=>(h.ext O).grown ah ((h.ext O).ne_own (Jb b2 O) rfl);refine ρ ?_;refine Qa (k+1) U b7 sO ⟨om,bd,av cj,av bw,av c0,?_,?_,λg J e=>?_⟩ om
   .rw[Iu lk,if_pos h];exact Jo (Jb bf O) (GrN.by ah λg J=>J) (λg J e=>aq g J e)
   .rw[Jjk,if_pos h];exact bt
   rcases bn g e with h'|h'
   .exact aq g J h'
   have:=(Jql bf g J).2;have:=O.size;omega
  have hf:¬ s.testBit (vs.getD k 0)=true:=by rw[h];simp
  refine ρ ?_;refine Qa (k+1) vv vc sO ⟨om,a8,aj,a1,a5,?_,?_,af⟩ om
  .rw[Iu lk,if_neg hf,List.append_nil];exact a3
  rw[Jjk,if_neg hf,List.append_nil];exact aa
 have cb:k=vs.length:=by have:=oF h;omega
 subst cb;clear h;rw[List.take_length]at a3;have cg:Zp vs s vs.length=Xw vs s:=rfl;rw[cg]at aa;obtain⟨VA,cu,co,cv,_⟩:=Jy a3;obtain⟨CA,d5,d3,d0,_⟩:=Jy aa;have ce:(Xw vs s).length<=32:=by
  have:=List.length_filter_le (λi=>s.testBit (vs.getD i 0)) (List.range vs.length);rw[List.length_range]at this;unfold Xw;omega
 have cc:(inS vs s).length<=32:=by
  have:=List.length_filter_le (λv=>s.testBit v) vs;unfold inS;omega
 refine ρ ?_;refine ld (aj.at (i:=1) rfl) ?_;refine ρ ?_;refine cl (Qwp (hr.ext a8) (Jlq aa om) (λr c9 c hc=>by rw[hlen r c9];exact Jcj hc) hn om hll) ?_;rintro u2 w8 ⟨m,hm,bj,y⟩;have c5:u2.oneCell'=true:=by obtain⟨_,_,_,e,_⟩:=hm.el;rw[e];rfl
 have c1:=a5.ext y;refine ρ ?_;refine stF (i:=1) c1 rfl ?_ (hv:=c5);intro w9 F Z;have F:Blk w9 bq 46 [vv,u2]:=F;have bu:br≠bq:=om
 have a6:=(a1.ext y).grown Z (λe=>by injection e with e;exact bu e);refine ρ ?_;refine ldW F ?_;refine ρ ?_;refine stb (cs':=[vv,u2]) a6 ?_ (λu hu=>by
  simp only[List.mem_cons,List.not_mem_nil,or_false]at hu;rcases hu with rfl|rfl
  .rw[co];rfl
  exact c5)
 intro ac b5 ai _;refine ρ ?_;have ca:=a5.lt;have c8:=a1.lt;have z7:=a8.size;have ak:Ext w w9:=Jr (a8.trans y) Z (λg e=>by injection e with e;have:=am.size;omega);have be:Ext w ac:=Jr ak ai (λg e=>by injection e with e;have:=am.size;omega);have cd:GrN (Ol w7) w8 ac:=(GrN.by Z λk e=>(by injection e with e;rw[<-e];exact ca)).trans (GrN.by ai λk e=>(by injection e with e;rw[<-e];exact c8));have bo:=(hm.gr RfC.sta (by decide) cd).old RfC.sta (N':=Ol w) (by decide) λk hk=>.inl (nM hk z7);have bg:∀ g,vv.ownBlock=some g->g≠bq/\g≠br:=λg J=>⟨λe=>by subst e;exact a5.ne_own a3 rfl J.symm,λe=>by subst e;exact a1.ne_own a3 rfl J.symm⟩;have bi:Qq ac w.heap.size vv (inS vs s):=Jo (Jo (Jb a3 y) (GrN.by Z λk e=>e) λg J e=>(bg g J).1 (by injection e with e;exact e.symm)) (GrN.by ai λk e=>e) λg J e=>(bg g J).2 (by injection e with e;exact e.symm);refine Zb b5 ⟨_,_,m,rfl,λw' bs=>⟨Qyz bi om w' bs,Qgg bo w' bs⟩,bj,be⟩
theorem Qwk{u1 u2:Value}{vs us:List Int}(hv1:IntsV w v1 vs)(hv2:RowsV w v2 rs)(hu1:IntsV w u1 us)(hu2:RowsV w u2 ms)(hnr:∀ r∈rs,NoS r)(hnm:∀ r∈ms,NoS r):
  Ret Tryz.prog 20 [.agg #[v1,v2],.agg #[u1,u2]] w λu w'=>u=.bool (decide (vs=us/\rs=ms))/\Ext w w':=by
 obtain⟨D,d,e1,hd,an,aj⟩:=id hv1;obtain⟨E,e,e3,he,am,ah⟩:=id hu1;obtain⟨ps,G,gc,_,e2,_⟩:=id hv2;obtain⟨qs,F,fc,_,e4,_⟩:=id hu2;subst e1;subst e2;subst e3;subst e4;refine Jz Tryz.func20 Tryz.ntmps20 rfl kr rfl ?_;refine ρ ?_;refine bx (cs:=[.slice D vs.length d,.slice G ps.length gc]) ?_;intro w1 b1 ae ap ak;refine ρ ?_;refine bx (cs:=[.slice E us.length e,.slice F qs.length fc]) ?_;intro w2 b2 a5 ao ac;have a2:=ak.ext a5;have Z:=ae.trans a5;refine ρ ?_;refine ld (a2.at (i:=0) rfl) ?_;refine ρ ?_;refine ld (ac.at (i:=0) rfl) ?_;refine ρ ?_;refine ci (λh=>?_) (λh=>?_)
 .have a3:¬ vs=us:=λe=>by rw[e]at h;simp at h
  refine ρ ?_;exact Jq ⟨by rw[decide_eq_false λe=>a3 e.1],Z⟩
 have a7:vs.length=us.length:=by simp at h;omega
 refine ρ ?_;refine Jl (fun (k:Nat)=>[(2,.pointer (some ⟨b1,0,none⟩)),(3,.pointer (some ⟨b2,0,none⟩)),(5,.int .i64 (k:Int))])
  (λk w'=>Ext w2 w'/\k<=vs.length/\∀ j,j<k->vs.getD j 0=us.getD j 0) (λk=>vs.length-k) 0 sB ⟨Ext.refl _,Nat.zero_le _,λj hj=>absurd hj (Nat.not_lt_zero _)⟩ ?_
 rintro k w3 ⟨U,hk,a8⟩;have O:=a2.ext U;have a1:=ac.ext U;have y:=Z.trans U;refine ρ ?_;refine ld (O.at (i:=0) rfl) ?_;refine ρ ?_;refine ci (λh=>?_) (λh=>?_)
 .have lk:k<vs.length:=by have:=oT h;omega
  have a4:k<us.length:=om
  refine ρ ?_;refine dr [(0,0),(0,1),(0,2),(0,3),(0,4),(0,5),(0,6),(0,7),(0,8),(0,9),(0,10)] kr ?_;have J:Ext w3 w3.drew:=(Ext.refl w3).drew;have aa:=aj.ext (y.trans J);have a9:=ah.ext (y.trans J);refine ρd ?_;refine dld ((O.ext J).at (i:=0) rfl) ?_;refine ρd ?_;refine dix k aa lk ?_;refine ρd ?_;refine dld (aa.cell (Vd lk)) ?_;refine ρd ?_;refine dld ((a1.ext J).at (i:=0) rfl) ?_;refine ρd ?_;refine dix k a9 a4 ?_;refine ρd ?_;refine dld (a9.cell (Vd a4)) ?_;refine ρd ?_;refine ρ ?_;refine ci (λh=>?_) (λh=>?_)
  .have a3:¬ vs=us:=λe=>by rw[e]at h;simp at h
   refine ρ ?_;exact Jq ⟨by rw[decide_eq_false λe=>a3 e.1],y.trans J⟩
  have ai:vs.getD k 0=us.getD k 0:=by simpa using h
  refine ρ ?_;exact Jg (k+1) sO ⟨U.trans J,om,λj hj=>by
   rcases Nat.lt_or_ge j k with h|h
   .exact a8 j h
   have:j=k:=om
   subst this;exact ai⟩ om
 have af:k=vs.length:=by have:=oF h;omega
 subst af;have a6:vs=us:=by
  refine List.ext_getElem a7 λj h1 h2=>?_;have:=a8 j h1;rw[List.getD,List.getElem?_eq_getElem h1,List.getD,List.getElem?_eq_getElem h2]at this;exact this
 refine ρ ?_;refine ld (O.at (i:=1) rfl) ?_;refine ρ ?_;refine ld (a1.at (i:=1) rfl) ?_;refine ρ ?_;refine cl (Qwn (hv2.ext y) (hu2.ext y) hnr hnm) ?_;rintro u w4 ⟨rfl,ad⟩;refine ρ ?_;exact Jq ⟨congrArg Value.bool (decide_eq_decide.2 ⟨λh=>⟨a6,h⟩,λh=>h.2⟩),y.trans ad⟩
open Go.RowKit Pl Go.Wk Bl
variable {a:Atm}{n s:Int}{l us:List Int}{k:Nat}{t:V3}{u1 u2 va vl:Value}{w:World}
def raO(a:Atm): RA:=⟨a.vars,a.rows⟩
theorem Jtl(h1:1<=k)(h2:k<a.vars.length)(h:a.vars.getD k 0<=a.vars.getD (k-1) 0): atE n a=16:=by
 unfold atE;rw[if_pos λu:Un a.vars=>by have:=u k om h2;omega]
theorem Jcz(hb:Un a.vars)(h2:k<a.vars.length)(h:a.vars.getD k 0<0∨n<=a.vars.getD k 0): atE n a=3:=by
 unfold atE;rw[if_neg (not_not_intro hb),if_pos λhb:∀ v∈a.vars,0<=v/\v<n=>by have:=hb _ (getD_mem' 0 _ h2);omega]
theorem Jtk(hb:Un a.vars)(hr:∀ v∈a.vars,0<=v/\v<n)(h:a.vars.length≠a.ar): atE n a=6:=by
 unfold atE;rw[if_neg (not_not_intro hb),if_neg (not_not_intro hr),if_pos h]
theorem mem_getD{P:Int->Prop}(h:∀ k,k<l.length->P (l.getD k 0)): ∀ v∈l,P v:=by
 intro v u;obtain⟨i,hi,rfl⟩:=List.getElem_of_mem u;have:=h i hi;rw[List.getD,List.getElem?_eq_getElem hi]at this;exact this
theorem Jhm{bs:List Atm}(hl:GX 2 RaC Nn w vl (bs.map raO))(ha:IntsV w va (nz (bs.map (·.ar)))):
  Ret Tryz.prog 10 [vl,va] w λu w'=>u=.int .i64 (if 32<bs.length then 12 else frE 32 bs)/\Ext w w':=by
 obtain⟨A,c,_,rfl,hc,aj,hR,_,he⟩:=id hl.el;obtain⟨B,bc,rfl,_,_,a5⟩:=ha;have ac:(bs.map raO).length=bs.length:=List.length_map ..;have a9:(nz (bs.map (·.ar))).length=bs.length:=by rw[Ju,List.length_map]
 rw[ac]at hR aj;rw[a9]at a5;refine Jz Tryz.func10 Tryz.ntmps10 rfl kr rfl ?_;rw[ac,a9];refine ρ ?_;refine ci (λh=>?_) (λh=>?_)
 .have:=oT h;refine ρ ?_;exact Jq ⟨by rw[if_pos om],Ext.refl _⟩
 have aq:bs.length<=32:=by have:=oF h;omega
 clear h;rw[if_neg om];refine ρ ?_;refine Jl (fun (i:Nat)=>[(0,.slice A bs.length c),(1,.slice B bs.length bc),(5,.int .i64 (i:Int))])
  (λi w'=>Ext w w'/\i<=bs.length/\∀ j,j<i->Yf 32 (bs.getD j a0)) (λi=>bs.length-i) 0 sB ⟨Ext.refl _,Nat.zero_le _,λj hj=>absurd hj (Nat.not_lt_zero _)⟩ ?_
 rintro i w1 ⟨a6,hi,a4⟩;refine ρ ?_;refine ci (λh=>?_) (λh=>?_)
 .have Z:i<bs.length:=by have:=oT h;omega
  clear h;obtain⟨ce,_,⟨v1,v2,rfl,a8⟩,ak⟩:=he i om;have hA:=a8.here.1;have am:(bs.map raO)[i].vars=(bs.getD i a0).vars:=by simp[List.getD,List.getElem?_eq_getElem Z,raO]
  rw[am]at hA;have an:(bs.map (·.ar)).getD i 0=(bs.getD i a0).ar:=by simp[List.getD,List.getElem?_eq_getElem Z]
  have O:=Jkr (n:=32) a4 Z;generalize hga:bs.getD i a0=a at *
  obtain⟨D,d,rfl,hd,ap,hD⟩:=hA;have c0:∀ {w':World},Ext w w'->w'.cell? ((adr A (i*2)).add 0)=some (.slice D a.vars.length d):=λhx=>Xz hx (ak 0 _ rfl);refine ρ ?_;refine Jl (fun (k:Nat)=>[(0,.slice A bs.length c),(1,.slice B bs.length bc),(5,.int .i64 (i:Int)),(6,.int .i64 (k:Int))])
   (λk w'=>Ext w w'/\1<=k/\(k=1∨k<=a.vars.length)/\∀ j,0<j->j<k->j<a.vars.length->a.vars.getD (j-1) 0<a.vars.getD j 0) (λk=>a.vars.length+1-k) 1 sB ⟨a6,Nat.le_refl _,.inl rfl,λj h1 h2=>om⟩ ?_
  rintro k w2 ⟨a2,aa,af,J⟩;refine ρ ?_;refine ixq 2 i (hR.ext a2) Z ?_;refine ρ ?_;refine ld (c0 a2) ?_;refine ρ ?_;refine ci (λh=>?_) (λh=>?_)
  .have lk:k<a.vars.length:=by have:=oT h;omega
   clear h;have a3:Ext w2 w2.drew:=(Ext.refl w2).drew;have y:=a2.trans a3;refine ρ ?_;refine dr [(0,0),(0,1),(0,2),(0,3),(0,4),(0,5),(0,6),(0,7),(0,8),(0,9),(0,10),(0,11),(0,12),(0,13),(0,14),(0,15),(0,16),(0,17)] kr ?_;refine ρd ?_;refine Qp 2 i (hR.ext y) Z ?_;refine ρd ?_;refine dld (c0 y) ?_;refine ρd ?_;refine dix (k-1) (hD.ext y) om ?_;refine ρd ?_;refine dld ((hD.ext y).cell (Vd (by omega:k-1<a.vars.length))) ?_;refine ρd ?_;refine Qp 2 i (hR.ext y) Z ?_;refine ρd ?_;refine dld (c0 y) ?_;refine ρd ?_;refine dix k (hD.ext y) lk ?_;refine ρd ?_;refine dld ((hD.ext y).cell (Vd lk)) ?_;refine ρd ?_;refine ρ ?_;refine ci (λh=>?_) (λh=>?_)
   .have h:=oT h;have ad:=Jtl (n:=32) aa lk h;refine ρ ?_;exact Jq ⟨by rw[O (by rw[ad];decide),ad],y⟩
   have h:=oF h;refine ρ ?_;exact Jg (k+1) sO ⟨y,om,.inr om,λj h1 h2 h3=>by
    rcases Nat.lt_or_ge j k with h4|h4
    .exact J j h1 h4 h3
    have:j=k:=om
    subst this;omega⟩ om
  have U:Un a.vars:=λj h1 h2=>J j h1 (by have:=oF h;omega) h2;clear h J aa af;refine ρ ?_;refine Jl (fun (k:Nat)=>[(0,.slice A bs.length c),(1,.slice B bs.length bc),(5,.int .i64 (i:Int)),(7,.int .i64 (k:Int))])
   (λk w'=>Ext w w'/\k<=a.vars.length/\∀ j,j<k->0<=a.vars.getD j 0/\a.vars.getD j 0<32) (λk=>a.vars.length-k) 0 sB ⟨a2,Nat.zero_le _,λj hj=>absurd hj (Nat.not_lt_zero _)⟩ ?_
  rintro q w3 ⟨F,hq,a1⟩;refine ρ ?_;refine ixq 2 i (hR.ext F) Z ?_;refine ρ ?_;refine ld (c0 F) ?_;refine ρ ?_;refine ci (λh=>?_) (λh=>?_)
  .have lq:q<a.vars.length:=by have:=oT h;omega
   clear h;refine ρ ?_;refine ixq 2 i (hR.ext F) Z ?_;refine ρ ?_;refine ld (c0 F) ?_;refine ρ ?_;refine ix q (hD.ext F) lq ?_;refine ρ ?_;refine ld ((hD.ext F).cell (Vd lq)) ?_;refine ρ ?_;refine ki 64 (λh=>?_) (λh=>?_)
   .have h:=oT h;have e3:=Jcz (n:=32) U lq (.inl h);refine ρ ?_;exact Jq ⟨by rw[O (by rw[e3];decide),e3],F⟩
   have ao:=oF h;refine ρ ?_;refine ixq 2 i (hR.ext F) Z ?_;refine ρ ?_;refine ld (c0 F) ?_;refine ρ ?_;refine ix q (hD.ext F) lq ?_;refine ρ ?_;refine ld ((hD.ext F).cell (Vd lq)) ?_;refine ρ ?_;refine ci (λh=>?_) (λh=>?_)
   .have h:=oT h;have e3:=Jcz (n:=32) U lq (.inr om);refine ρ ?_;exact Jq ⟨by rw[O (by rw[e3];decide),e3],F⟩
   have h:=oF h;refine ρ ?_;exact Jg (q+1) sO ⟨F,om,λj hj=>by
    rcases Nat.lt_or_ge j q with h4|h4
    .exact a1 j h4
    have:j=q:=om
    subst this;omega⟩ om
  have a7:∀ v∈a.vars,0<=v/\v<32:=mem_getD λj hj=>a1 j (by have:=oF h;omega);clear h a1;have a3:Ext w3 w3.drew:=(Ext.refl w3).drew;have G:=F.trans a3;refine ρ ?_;refine dr [(0,0),(0,1),(0,2),(0,3),(0,4),(0,5),(0,6),(0,7),(0,8),(0,9),(0,10)] kr ?_;refine ρd ?_;refine Qp 2 i (hR.ext G) Z ?_;refine ρd ?_;refine dld (c0 G) ?_;refine ρd ?_;refine dix i (a5.ext G) Z ?_;refine ρd ?_;refine dld (v:=.int .i64 (a.ar:Int)) (((a5.ext G).cell (Qn (by rw[List.length_map];exact Z))).trans (by rw[an])) ?_;refine ρd ?_;refine ρ ?_;refine ci (λh=>?_) (λh=>?_)
  .have ae:a.vars.length≠a.ar:=λe=>by rw[e]at h;simp at h
   have e6:=Jtk (n:=32) U a7 ae;refine ρ ?_;exact Jq ⟨by rw[O (by rw[e6];decide),e6],G⟩
  have ai:a.vars.length=a.ar:=by simp at h;omega
  refine ρ ?_;exact Jg (i+1) sO ⟨G,om,λj hj=>by
   rcases Nat.lt_or_ge j i with h4|h4
   .exact a4 j h4
   have:j=i:=om
   subst this;rw[hga];exact⟨U,a7,ai⟩⟩ om
 have ah:i=bs.length:=by have:=oF h;omega
 subst ah;refine ρ ?_;refine Jq ⟨?_,a6⟩;rw[Jjf λa ha=>?_];obtain⟨j,hj,rfl⟩:=List.getElem_of_mem ha;have:=a4 j hj;rw[List.getD,List.getElem?_eq_getElem hj]at this;exact this
theorem Qnv(hA:AtV w t a)(hne:atE 32 a≠0):
  Ret Tryz.prog 9 [.agg t.cells.toArray,.int .u32 s] w λu w'=>Ext w w'/\u=.tuple #[.agg #[.slice none 0 0,.int .i64 0,.slice none 0 0],.int .i64 (atE 32 a)]:=by
 obtain⟨t1,t2,t3⟩:=t;obtain⟨⟨D,d,e1,hd,ay,hD⟩,e2,ad⟩:=id hA;simp only at e1 e2;subst e1;subst e2;obtain⟨ps,G,gc,_,ai,_⟩:=id ad;simp only at ai;subst ai;refine Jz Tryz.func9 Tryz.ntmps9 rfl kr rfl ?_;refine ρ ?_;refine bx ?_;intro w1 b a6 hb hB;refine ρ ?_;refine alc Zu ?_;intro w2 br ah b2 ae;have av:=hB.ext ah;have a1:=a6.trans ah;have F:∀ u∈[Value.slice none 0 0,.int .i64 0,.slice none 0 0],u.oneCell'=true:=Ib rfl;refine ρ ?_;refine Jl (fun (i:Nat)=>[(1,.int .u32 s),(2,.pointer (some ⟨b,0,none⟩)),(4,.pointer (some ⟨br,0,none⟩)),(6,.int .i64 (i:Int))])
  (λi w'=>1<=i/\(i=1∨i<=a.vars.length)/\(∀ j,0<j->j<i->j<a.vars.length->a.vars.getD (j-1) 0<a.vars.getD j 0)/\Ext w2 w') (λi=>a.vars.length+1-i) 1 sB ⟨nR _,.inl rfl,λj h1 h2=>om,Ext.refl _⟩ ?_
 rintro i w3 ⟨ak,ap,O,y⟩;have a8:=av.ext y;refine ρ ?_;refine ld (a8.at (i:=0) rfl) ?_;refine ρ ?_;refine ci (λh=>?_) (λh=>?_)
 .have li:i<a.vars.length:=by have:=oT h;omega
  clear h;have a2:Ext w3 w3.drew:=(Ext.refl w3).drew;have ao:=a8.ext a2;have a7:Rd w3.drew 1 D a.vars.length (Jp a.vars):=hD.ext ((a1.trans y).trans a2);refine ρ ?_;refine dr [(0,0),(0,1),(0,2),(0,3),(0,4),(0,5),(0,6),(0,7),(0,8),(0,9),(0,10),(0,11)] kr ?_;refine ρd ?_;refine dld (ao.at (i:=0) rfl) ?_;refine ρd ?_;refine dix (i-1) a7 om ?_;refine ρd ?_;refine dld (a7.cell (Vd (show i-1<a.vars.length by omega))) ?_;refine ρd ?_;refine dld (ao.at (i:=0) rfl) ?_;refine ρd ?_;refine dix i a7 li ?_;refine ρd ?_;refine dld (a7.cell (Vd li)) ?_;refine ρd ?_;refine ρ ?_;refine ci (λh=>?_) (λh=>?_)
  .have h:=oT h;have aw:=Jtl (n:=32) ak li h;refine ρ ?_;refine bld (Jcr _) ?_;refine ρ ?_;refine stb (cs':=[.slice none 0 0,.int .i64 0,.slice none 0 0]) (ae.ext (y.trans a2)) ?_ F;intro w4 an ax J;refine ρ ?_;exact Zz an ⟨J w ((a1.trans y).trans a2) (by have:=a6.size;omega),by rw[aw]⟩
  have h:=oF h;refine ρ ?_;exact Jg (i+1) sO ⟨om,.inr om,λj h1 h2 h3=>by
   rcases Nat.lt_or_ge j i with h4|h4
   .exact O j h1 h4 h3
   have:j=i:=om
   subst this;omega,y.trans a2⟩ om
 have a4:Un a.vars:=λj h1 h2=>O j h1 (by have:=oF h;omega) h2;clear h O ak ap;refine ρ ?_;refine ld (a8.at (i:=0) rfl) ?_;refine ρ ?_;refine Jl (fun (i:Nat)=>[(1,.int .u32 s),(2,.pointer (some ⟨b,0,none⟩)),(4,.pointer (some ⟨br,0,none⟩)),(36,.slice D a.vars.length d),(37,.int .i64 (a.vars.length:Int)),(38,.int .i64 (i:Int))])
  (λi w'=>i<=a.vars.length/\(∀ j,j<i->0<=a.vars.getD j 0/\a.vars.getD j 0<32)/\Ext w3 w') (λi=>a.vars.length-i) 0 sB ⟨Nat.zero_le _,λj hj=>absurd hj (Nat.not_lt_zero _),Ext.refl _⟩ ?_
 rintro q w4 ⟨hq,a3,J⟩;have U:=(a1.trans y).trans J;have au:=a8.ext J;refine ρ ?_;refine ci (λh=>?_) (λh=>?_)
 .have lq:q<a.vars.length:=by have:=oT h;omega
  clear h;have am:Rd w4 1 D a.vars.length (Jp a.vars):=hD.ext U;have af:(a.vars.getD q 0<0∨32<=a.vars.getD q 0)->atE 32 a=3:=λh=>Jcz a4 lq h;refine ρ ?_;refine ix q am lq ?_;refine ρ ?_;refine ld (am.cell (Vd lq)) ?_;refine ρ ?_;refine Kp (fun (t:Bool)=>[(1,.int .u32 s),(2,.pointer (some ⟨b,0,none⟩)),(4,.pointer (some ⟨br,0,none⟩)),(36,.slice D a.vars.length d),(37,.int .i64 (a.vars.length:Int)),(38,.int .i64 (q:Int)),(47,.bool t)])
   (λt w5=>w5=w4/\t=decide (a.vars.getD q 0<0∨32<=a.vars.getD q 0)) ?_ ?_
  .refine ki 44 (λh=>?_) (λh=>?_)
   .have:=oT h;refine ρ ?_;exact Js _ sB ⟨rfl,by grind⟩
   have:=oF h;refine ρ ?_;exact Js _ sB ⟨rfl,by grind⟩
  rintro t w5 ⟨rfl,rfl⟩;refine ρ ?_;refine ci (λh=>?_) (λh=>?_)
  .have e3:=af (oT h);refine ρ ?_;refine bld (Jcr _) ?_;refine ρ ?_;refine stb (cs':=[.slice none 0 0,.int .i64 0,.slice none 0 0]) (ae.ext (y.trans J)) ?_ F;intro w6 a5 aq aa;refine ρ ?_;exact Zz a5 ⟨aa w U (by have:=a6.size;omega),by rw[e3]⟩
  have h:=oF h;refine ρ ?_;exact Jg (q+1) sO ⟨om,λj hj=>by
   rcases Nat.lt_or_ge j q with h4|h4
   .exact a3 j h4
   have:j=q:=om
   subst this;omega,J⟩ om
 have aj:∀ v∈a.vars,0<=v/\v<32:=mem_getD λj hj=>a3 j (by have:=oF h;omega);clear h a3;have e6:a.vars.length≠a.ar:=λe=>hne (atE_ok.2 ⟨a4,aj,e⟩);have Z:Ext w4 w4.drew:=(Ext.refl w4).drew;have a9:=au.ext Z;refine ρ ?_;refine dr [(0,0),(0,1),(0,2),(0,3),(0,4),(1,5),(0,6)] kr ?_;refine ρd ?_;refine dld (a9.at (i:=0) rfl) ?_;refine ρd ?_;refine Qj (cs:=[.int .i64 (a.ar:Int),.slice G ps.length gc]) (a9.sub2 (i:=1) rfl rfl) ?_;refine ρd ?_;refine dcl (Jqf ((hA.ext (U.trans Z)).rel)) ?_;rintro u w5 ⟨rfl,ac⟩;refine⟨ac,?_⟩;refine ρd ?_;refine ρ ?_;refine ct ?_ ?_
 .have:¬ (a.vars.length:Int)=(a.ar:Int):=λe=>e6 om;simpa using this
 refine ρ ?_;refine bld (Jcr _) ?_;refine ρ ?_;refine stb (cs':=[.slice none 0 0,.int .i64 0,.slice none 0 0]) (ae.ext (((y.trans J).trans Z).trans ac)) ?_ F;intro w6 a5 aq aa;refine ρ ?_;exact Zz a5 ⟨aa w ((U.trans Z).trans ac) (by have:=a6.size;omega),by rw[Jtk a4 aj e6]⟩
theorem Qfs{ms:List Row}(hA:AtV w t a)(har:a.vars.length=a.ar)(hl:∀ r∈a.rows,r.length<=100000)(hnl:∀ r∈a.rows,NoS r)(hu1:IntsV w u1 us)(hu2:RowsV w u2 ms)(hnm:∀ r∈ms,NoS r):
  Ret Tryz.prog 12 [.agg t.cells.toArray,.agg #[u1,u2]] w λu w'=>u=.bool (decide (a.vars=us/\a.rows=ms))/\Ext w w':=by
 obtain⟨t1,t2,t3⟩:=t;obtain⟨hv,e2,hr⟩:=id hA;simp only at hv e2 hr;subst e2;obtain⟨D,d,rfl,_⟩:=id hv;obtain⟨ps,G,gc,a8,rfl,ai,aa,_⟩:=id hr;obtain⟨E,e,rfl,_⟩:=id hu1;obtain⟨qs,F,fc,_,rfl,_⟩:=id hu2;refine Jz Tryz.func12 Tryz.ntmps12 rfl kr rfl ?_;refine ρ ?_;refine bx (cs:=[.slice D a.vars.length d,.int .i64 (a.ar:Int),.slice G ps.length gc]) ?_;intro w1 b1 a7 ak ah;refine ρ ?_;refine bx (cs:=[.slice E us.length e,.slice F qs.length fc]) ?_;intro w2 b2 a4 aj af;have a6:=ah.ext a4;have a1:=a7.trans a4;refine ρ ?_;refine dr [(0,0),(0,1),(0,3),(0,4),(0,5),(1,2),(0,6),(0,7),(0,8),(0,10),(1,9),(1,11),(0,12),(0,13)] kr ?_;have U:Ext w2 w2.drew:=(Ext.refl w2).drew;have Z:=a6.ext U;have a5:=af.ext U;have y:=a1.trans U;refine ρd ?_;refine Qj (cs:=[.int .i64 (a.ar:Int),.slice G ps.length gc]) (Z.sub2 (i:=1) rfl rfl) ?_;refine ρd ?_;refine dld (Z.at (i:=0) rfl) ?_;refine ρd ?_
 refine dcl (Jqf ((hA.ext y).rel)) ?_;rintro u w3 ⟨rfl,J⟩;refine⟨J,?_⟩;have ac:((a.ar:Int) == (a.vars.length:Int))=true:=by rw[har];simp
 refine ρd ?_;refine dkt 12 ac ?_;refine ρd ?_;refine Qj (cs:=[.slice D a.vars.length d,.int .i64 (a.ar:Int),.slice G ps.length gc]) (λj u hu=>(Z.ext J).at hu) ?_;refine ρd ?_;refine Qj (cs:=[.slice E us.length e,.slice F qs.length fc]) (λj u hu=>(a5.ext J).at hu) ?_;refine ρd ?_;have a9:a.rows.length<=1100000:=by rw[a8,List.length_map];exact aa
 refine dcl (Qfd (hA.ext (y.trans J)) hl a9) ?_;rintro u w4 ⟨x1,x2,rfl,ae,ad,a3⟩;refine⟨a3,?_⟩;refine ρd ?_;have O:=(y.trans J).trans a3;refine dcl (Qwk ae ad (hu1.ext O) (hu2.ext O) hnl hnm) ?_;rintro u w5 ⟨rfl,a2⟩;refine⟨a2,?_⟩;refine ρd ?_;refine ρ ?_;exact Jq ⟨rfl,O.trans a2⟩
open Go.RowKit Pl Go.Wk Bl Nw
variable {l m:List Row}{x:V}
theorem D4.noS(h:D4 x): x.str=⟨#[]⟩:=by
 unfold D4 at h;simp only[List.mem_cons,List.not_mem_nil,or_false]at h;rcases h with rfl|rfl|rfl|rfl<;>rfl
theorem D4.valid(h:D4 x): Xo x=true:=by
 unfold D4 at h;simp only[List.mem_cons,List.not_mem_nil,or_false]at h;rcases h with rfl|rfl|rfl|rfl<;>decide
theorem Qdn(i:Nat)(y:List Nat): ∀ x∈Xr i y,D4 x:=by
 intro x u;obtain⟨j,_,rfl⟩:=List.mem_map.1 u;have:y.getD j 0 % 4<4:=Nat.mod_lt _ (by decide);generalize y.getD j 0 % 4=z at *
 unfold D4;simp only[List.mem_cons,List.not_mem_nil,or_false];rcases(show z=0∨z=1∨z=2∨z=3 by omega) with rfl|rfl|rfl|rfl
 .exact .inl rfl
 .exact .inr (.inl rfl)
 .exact .inr (.inr (.inl rfl))
 exact .inr (.inr (.inr rfl))
structure MadeR(a:LA)(m:List Row): Prop where
 len:∀ r∈m,r.length=(lvs a).length
 d4:∀ r∈m,∀ x∈r,D4 x
 cnt:m.length<=12
 lt:Lt [] m
theorem Qwd{a:LA}(h:Rl a m)(hf:a.fits): MadeR a m:=by
 have D:∀ r∈m,∃ y∈a.rows,r=Xr (lvs a).length y:=λr u=>by
  obtain⟨y,F,e⟩:=List.mem_map.1 ((h.1.2 r).1 u);exact⟨y,F,e.symm⟩
 refine⟨λr u=>?_,λr u=>?_,?_,h.1.1⟩
 .obtain⟨y,_,rfl⟩:=D r u;exact Jqs _ _
 .obtain⟨y,_,rfl⟩:=D r u;exact Qdn _ _
 have:=Jgm h.1;rw[List.length_map]at this;have:=hf.2;omega
theorem MadeR.noS{a:LA}{m:List Row}(h:MadeR a m): ∀ r∈m,NoS r:=λr y x u=>(h.d4 r y x u).noS
theorem MadeR.valid{a:LA}{m:List Row}(h:MadeR a m): ∀ r∈m,r.all Xo=true:=λr y=>List.all_eq_true.2 λx u=>(h.d4 r y x u).valid
def all4: List (List Nat):=[[0,0,0,0],[0,1,0,0],[1,0,0,0],[1,1,0,0]]
def n01(i:Nat): V:=⟨1,(i:Int),⟨#[]⟩⟩
def L4: List Row:=[[n01 0,n01 0],[n01 0,n01 1],[n01 1,n01 0],[n01 1,n01 1]]
theorem Qpg: all4.map (Xr 2)=L4:=rfl
theorem Jtv: Lt [] L4:=by unfold Lt;decide +kernel
def exA(v:Nat): LA:=⟨v,all4,0⟩
theorem Jbt: lvs (exA 3)=[0,1]:=by decide +kernel
theorem Jbr: lvs (exA 6)=[1,2]:=by decide +kernel
theorem Jbs: lvs (exA 5)=[0,2]:=by decide +kernel
theorem Jbq{v:Nat}(h:Rl (exA v) m)(hl:(lvs (exA v)).length=2): m=L4:=by
 have u:=h.1;rw[hl]at u;exact Uz u.1 Jtv λx=>(u.2 x).trans (by rw[<-Qpg];rfl)
def exV(i:Nat): List Nat:=[[0,1],[1,2],[0,2]].getD i []
def L8: List Row:=[[n01 0,n01 0,n01 0],[n01 0,n01 0,n01 1],[n01 0,n01 1,n01 0],[n01 0,n01 1,n01 1],[n01 1,n01 0,n01 0],[n01 1,n01 0,n01 1],[n01 1,n01 1,n01 0],[n01 1,n01 1,n01 1]]
theorem L8_lt: Lt [] L8:=by unfold Lt;decide +kernel
theorem Jpv{x:Row}(h:∃ z:Row,z.length=3/\x=pmR (bk 7 32) z/\Jjp 3 exV (λ_=>L4) 7 z): x∈L8:=by
 have G:bk 7 32=[0,1,2]:=by decide +kernel
 obtain⟨z,F,rfl,D⟩:=h;match z,F with
 | [a,b,c],_=>
  rw[G];have e:pmR [0,1,2] [a,b,c]=[a,b,c]:=rfl;rw[e];obtain⟨r,u,h0⟩:=D 0 (by decide);obtain⟨q,y,J⟩:=D 1 (by decide);have Z:r.getD 0 V0=a:=h0 0 (by decide) (by decide);have U:r.getD 1 V0=b:=h0 1 (by decide) (by decide);have O:q.getD 1 V0=c:=J 1 (by decide) (by decide);unfold L4 at u y;simp only[List.mem_cons,List.not_mem_nil,or_false]at u y;rcases u with rfl|rfl|rfl|rfl<;>rcases y with rfl|rfl|rfl|rfl<;>subst Z<;>subst U<;>subst O<;>simp[L8,List.getD]
theorem Qgt(hl:Lt [] l)(h:∀ x,x∈l↔∃ z:Row,z.length=3/\x=pmR (bk 7 32) z/\Jjp 3 exV (λ_=>L4) 7 z): l=L8:=by
 have J:bk 7 32=[0,1,2]:=by decide +kernel
 refine Uz hl L8_lt λx=>?_;rw[h];constructor
 .exact Jpv
 intro y;have key:∀ i j k:Nat,i<2->j<2->k<2->∃ z:Row,z.length=3/\[n01 i,n01 j,n01 k]=pmR (bk 7 32) z/\Jjp 3 exV (λ_=>L4) 7 z:=λi j k hi G F=>by
  have D:∀ p q:Nat,p<2->q<2->[n01 p,n01 q]∈L4:=λp q u U=>by
   rcases(show p=0∨p=1 by omega) with rfl|rfl<;>rcases(show q=0∨q=1 by omega) with rfl|rfl<;>simp[L4]
  refine⟨[n01 i,n01 j,n01 k],rfl,by rw[J];rfl,λv O=>?_⟩;rcases(show v=0∨v=1∨v=2 by omega) with rfl|rfl|rfl
  .refine⟨_,D i j hi G,λp u _=>?_⟩;have u:p<2:=u;rcases(show p=0∨p=1 by omega) with rfl|rfl<;>rfl
  .refine⟨_,D j k G F,λp u _=>?_⟩;have u:p<2:=u;rcases(show p=0∨p=1 by omega) with rfl|rfl<;>rfl
  refine⟨_,D i k hi F,λp u _=>?_⟩;have u:p<2:=u;rcases(show p=0∨p=1 by omega) with rfl|rfl<;>rfl
 unfold L8 at y;simp only[List.mem_cons,List.not_mem_nil,or_false]at y;rcases y with rfl|rfl|rfl|rfl|rfl|rfl|rfl|rfl<;>exact key _ _ _ (by decide) (by decide) (by decide)
theorem Jmb{N:Nat->Prop}{w:World}{v:Value}{n:Nat}(h:NatX N w v n): ∃ A m c,v=.slice A m c:=by obtain⟨⟨A,c,e,_⟩,_⟩:=h;exact⟨A,_,c,e⟩
theorem Jwj(a b:Int)(w:World): (Instr.build 71 #[(0,.int .u8 a),(1,.int .u8 b)]).run Tryz.prog w=.ok (.agg #[.int .u8 a,.int .u8 b,.int .u8 0,.int .u8 0]) w:=kr
theorem bs4B(a0 a1 b0 b1 c0 c1 d0 d1:Int)(w:World): (Instr.buildSlice 22 4 #[(0,.agg #[.int .u8 a0,.int .u8 a1,.int .u8 0,.int .u8 0]),(1,.agg #[.int .u8 b0,.int .u8 b1,.int .u8 0,.int .u8 0]),(2,.agg #[.int .u8 c0,.int .u8 c1,.int .u8 0,.int .u8 0]),(3,.agg #[.int .u8 d0,.int .u8 d1,.int .u8 0,.int .u8 0])]).run Tryz.prog w=.ok (.slice (some ⟨w.heap.size,0,none⟩) 4 4) (w.alloc (.cells ([.int .u8 a0,.int .u8 a1,.int .u8 0,.int .u8 0,.int .u8 b0,.int .u8 b1,.int .u8 0,.int .u8 0,.int .u8 c0,.int .u8 c1,.int .u8 0,.int .u8 0,.int .u8 d0,.int .u8 d1,.int .u8 0,.int .u8 0]:List Value).toArray 71)):=kr
theorem Jcq(v:Int)(A:Option Addr)(n c:Nat)(w:World): (Instr.build 24 #[(0,.int .u8 v),(1,.slice A n c)]).run Tryz.prog w=.ok (.agg #[.int .u8 v,.slice A n c,.int .u8 0]) w:=kr
theorem bs3LA(x y z:Int)(A B C:Option Addr)(n c m d k e:Nat)(w:World): (Instr.buildSlice 31 3 #[(0,.agg #[.int .u8 x,.slice A n c,.int .u8 0]),(1,.agg #[.int .u8 y,.slice B m d,.int .u8 0]),(2,.agg #[.int .u8 z,.slice C k e,.int .u8 0])]).run Tryz.prog w=.ok (.slice (some ⟨w.heap.size,0,none⟩) 3 3) (w.alloc (.cells ([.int .u8 x,.slice A n c,.int .u8 0,.int .u8 y,.slice B m d,.int .u8 0,.int .u8 z,.slice C k e,.int .u8 0]:List Value).toArray 24)):=kr
theorem bs3U(w:World): (Instr.buildSlice 81 3 #[(0,.int .u32 3),(1,.int .u32 6),(2,.int .u32 5)]).run Tryz.prog w=.ok (.slice (some ⟨w.heap.size,0,none⟩) 3 3) (w.alloc (.cells ([.int .u32 3,.int .u32 6,.int .u32 5]:List Value).toArray 25)):=kr
theorem bldGr(z:Int)(A:Option Addr)(n c:Nat)(w:World): (Instr.build 90 #[(0,.int .i64 z),(1,.slice A n c)]).run Tryz.prog w=.ok (.agg #[.int .i64 z,.slice A n c]) w:=kr
theorem bs3I(w:World): (Instr.buildSlice 28 3 #[(0,.int .i64 4),(1,.int .i64 4),(2,.int .i64 4)]).run Tryz.prog w=.ok (.slice (some ⟨w.heap.size,0,none⟩) 3 3) (w.alloc (.cells ([.int .i64 4,.int .i64 4,.int .i64 4]:List Value).toArray 3)):=kr
theorem Jwm(w:World): Ret Tryz.prog 8 [] w λu w'=>u=.bool true/\Ext w w':=by
 refine Jz Tryz.func8 Tryz.ntmps8 rfl kr rfl ?_;refine ρ ?_;refine bld (Jwj _ _ _) ?_;refine ρ ?_;refine bld (Jwj _ _ _) ?_;refine ρ ?_;refine bld (Jwj _ _ _) ?_;refine ρ ?_;refine bld (Jwj _ _ _) ?_;refine ρ ?_;refine bsl (bs4B _ _ _ _ _ _ _ _) ?_;intro w1 b1 b6 c5 bp;refine ρ ?_;refine bld (Jcq _ _ _ _ _) ?_;refine ρ ?_;refine bld (Jcq _ _ _ _ _) ?_;refine ρ ?_;refine bld (Jcq _ _ _ _ _) ?_;refine ρ ?_;refine bsl (bs3LA _ _ _ _ _ _ _ _ _ _ _ _) ?_;intro w2 b2 a9 c4 bo;have ak:=bp.ext a9;have a5:GX 4 U8R Nn w2 (.slice (some ⟨b1,0,none⟩) 4 4) all4:=by
  refine gxOf (ps:=all4.map λr=>(u8C r,r)) (ak.rd (n:=4) rfl) (nR 4) (by show 4<=1100000;decide) λp hp=>?_;obtain⟨r,hr,rfl⟩:=List.mem_map.1 hp;unfold all4 at hr;simp only[List.mem_cons,List.not_mem_nil,or_false]at hr;rcases hr with rfl|rfl|rfl|rfl<;>exact⟨rfl,rfl,rfl,by decide⟩
 have bj:GX 3 LaC Nn w2 (.slice (some ⟨b2,0,none⟩) 3 3) [exA 3,exA 6,exA 5]:=by
  refine gxOf (ps:=[exA 3,exA 6,exA 5].map λa=>([.int .u8 (a.vars:Int),.slice (some ⟨b1,0,none⟩) 4 4,.int .u8 0],a)) (bo.rd (n:=3) rfl) (nR 3) (by show 3<=1100000;decide) λp hp=>?_;obtain⟨a,ha,rfl⟩:=List.mem_map.1 hp;simp only[List.mem_cons,List.not_mem_nil,or_false]at ha;have y:∀ v,v<7->(exA v).vars<256/\(exA v).bad<256:=λv h=>⟨Nat.lt_trans h (by decide),show 0<256 by decide⟩;rcases ha with rfl|rfl|rfl
  .exact⟨rfl,(y 3 (by decide)).1,(y 3 (by decide)).2,_,rfl,a5⟩
  .exact⟨rfl,(y 6 (by decide)).1,(y 6 (by decide)).2,_,rfl,a5⟩
  exact⟨rfl,(y 5 (by decide)).1,(y 5 (by decide)).2,_,rfl,a5⟩
 refine ρ ?_;refine cl (Jmm bj (by decide)) ?_;rintro u w3 ⟨b4,h3⟩;have a3:∀ a∈[exA 3,exA 6,exA 5],a.fits:=λa ha=>by
  simp only[List.mem_cons,List.not_mem_nil,or_false]at ha;rcases ha with rfl|rfl|rfl
  .exact⟨by rw[Jbt];decide,by decide⟩
  .exact⟨by rw[Jbr];decide,by decide⟩
  exact⟨by rw[Jbs];decide,by decide⟩
 rcases h3 with⟨_,vo,vm,va,ms,rfl,be,a4,hO,_,_⟩|⟨hno,_⟩
 case inr=>exact absurd a3 hno
 match ms,be with
 | [m0,m1,m2],_=>
 have e0:m0=L4:=Jbq (a4 0 (by simp) (by simp)) (by rw[Jbt];rfl);have e1:m1=L4:=Jbq (a4 1 (by simp) (by simp)) (by rw[Jbr];rfl);have e2:m2=L4:=Jbq (a4 2 (by simp) (by simp)) (by rw[Jbs];rfl);subst e0;subst e1;subst e2;obtain⟨ts,A,c,ap,rfl,hc,_,hR,bi⟩:=Jtj (hO.1.imp (Ψ:=AtG) (f:=λa=>a) λcs a _ ⟨t,e,h⟩=>⟨t,e,h.here⟩);have ah:ts.length=3:=by
  have:=congrArg List.length ap;rw[List.length_map,List.length_map]at this;exact this.symm
 have ai:∀ i,i<ts.length->(ts.getD i ta0).2=⟨nz (exV i),(exV i).length,L4⟩:=λi hi=>by
  rw[<-Jxz,<-ap];have hb:∀ v,Qc (exA v)=nz (lvs (exA v)):=λv=>by unfold Qc;rw[if_pos (show(exA v).bad=0 from rfl)]
  rcases(show i=0∨i=1∨i=2 by omega) with rfl|rfl|rfl
  .show(⟨Qc (exA 3),(lvs (exA 3)).length,L4⟩:Atm)=_;rw[hb,Jbt];rfl
  .show(⟨Qc (exA 6),(lvs (exA 6)).length,L4⟩:Atm)=_;rw[hb,Jbr];rfl
  show(⟨Qc (exA 5),(lvs (exA 5)).length,L4⟩:Atm)=_;rw[hb,Jbs];rfl
 have i3:∀ {p:Nat->Prop},p 0->p 1->p 2->∀ i,i<ts.length->p i:=λh0 h1 h2 i hi=>by
  rcases(show i=0∨i=1∨i=2 by omega) with rfl|rfl|rfl<;>assumption
 have bd:MOk 3 ts exV (λ_=>L4) 7:=by
  refine⟨⟨by decide,om,ai,i3 ?_ ?_ ?_,i3 ?_ ?_ ?_,λv hv=>?_,λi _=>Jtv,i3 ?_ ?_ ?_,λi _=>by decide⟩,by decide,λi _=>by decide +kernel,λi _=>.inl (by decide)⟩
  .unfold Qo;decide
  .unfold Qo;decide
  .unfold Qo;decide
  .decide
  .decide
  .decide
  .rcases(show v=0∨v=1∨v=2 by omega) with rfl|rfl|rfl
   .exact⟨0,om,by decide⟩
   .exact⟨0,om,by decide⟩
   exact⟨1,om,by decide⟩
  .decide
  .decide
  decide
 refine ρ ?_;refine cl (Qcs (n:=3) (s:=7) bd hR hc bi λl hl h=>?_) ?_
 .rw[ah]at h;exact nL (Jzx (Jbb hl) (m:=L8) λx hx=>Jpv (h x hx)) (by decide)
 rintro u w4 ⟨b3,t',st,l,rfl,af,bf,a1,_⟩;rw[ah]at a1;have el:l=L8:=Qgt bf a1;subst el;have ao:AtV w4 t' ⟨nz (bk 7 32),(bk 7 32).length,L8⟩:=af.here;obtain⟨t1,t2,t3⟩:=t';obtain⟨⟨E,ec,eE,_⟩,e2,a7,F,fc,c6,eF,_⟩:=id ao;simp only at eE e2 eF;subst eE;subst e2;subst eF;refine ρ ?_;refine alc Zu ?_;intro w5 b5 ay bh bn;refine ρ ?_;refine stb (cs':=[.slice E (nz (bk 7 32)).length ec,.int .i64 ((bk 7 32).length:Int),.slice F a7.length fc]) bn ?_ (Ib rfl);intro w6 aj c0 ax;have a8:Ext w4 w6:=ax w4 ay bh;refine ρ ?_;refine bsl bs3U ?_;intro w7 b7 aw c3 bm;refine ρ ?_;refine bld (bldGr _ _ _ _ _) ?_;refine ρ ?_;refine cl (Qxf (A:=some ⟨b7,0,none⟩) (c:=3) ⟨bm.rd (n:=3) rfl,Nat.le_refl 3,by decide,by decide,by decide⟩) ?_;rintro u w8 ⟨W,P,q1,q2,rfl,hW,hP,bc,bb,av⟩;obtain⟨WA,Wc,_,rfl,_⟩:=id hW.el;obtain⟨bq,Pc,_,rfl,_⟩:=id hP.el;obtain⟨Q1,m1,c1,rfl⟩:=Jmb bc;obtain⟨Q2,m2,c2,rfl⟩:=Jmb bb
 have O:=aw.trans av;have bt:=aj.ext O;refine ρ ?_;refine alc Kg ?_;intro w9 b9 au bg bl;refine ρ ?_;refine stb (cs':=[.slice WA 3 Wc,.slice bq 3 Pc,.bool false,.slice Q1 m1 c1,.slice Q2 m2 c2]) bl ?_ (λu hu=>by
  simp only[List.mem_cons,List.not_mem_nil,or_false]at hu;rcases hu with rfl|rfl|rfl|rfl|rfl<;>rfl)
 intro ar an br ae;have a2:Ext w8 ar:=ae w8 au bg;refine ρ ?_;refine ldW an ?_;refine ρ ?_;refine bsl bs3I ?_;intro bz c7 ad bs am;have D:=a2.trans ad;refine ρ ?_;refine cl (Qxj (hW.ext RtC.sta (by decide) D) (am.rd (n:=3) rfl)) ?_;rintro u bw ⟨⟨vb,rfl,b8⟩,ac⟩;have G:=O.trans (D.trans ac);have a6:=aj.ext G;have J:=a8.trans G;refine ρ ?_;refine lds (cs:=[.int .i64 ((bk 7 32).length:Int),.slice F a7.length fc]) (a6.sub2 (i:=1) rfl rfl) ?_;refine ρ ?_;refine cl (Jqd ((ao.ext J).rel)) ?_;rintro u aq ⟨rfl,Z⟩;refine ρ ?_;refine cl (Qch 8 (by decide) aq) ?_;rintro v8 bv ⟨ba,U⟩;refine ρ ?_;refine cl (Jqp (b8.ext (Z.trans U)) ba) ?_;rintro u bu ⟨rfl,aa⟩;refine ρ ?_;have e8:(Vg 8 8 == 0)=true:=by decide +kernel
 refine Jq ⟨congrArg Value.bool e8,?_⟩;exact b6.trans (a9.trans (b4.trans (b3.trans (J.trans (Z.trans (U.trans aa))))))
open Go.RowKit Pl Go.Wk Bl Nw
variable {a:LA}{m:List Row}
theorem Jsp(x y:Int)(A:Option Addr)(n c:Nat)(w:World): (Instr.buildSlice 31 1 #[(0,.agg #[.int .u8 x,.slice A n c,.int .u8 y])]).run Tryz.prog w=.ok (.slice (some ⟨w.heap.size,0,none⟩) 1 1) (w.alloc (.cells ([.int .u8 x,.slice A n c,.int .u8 y]:List Value).toArray 24)):=kr
def vsO(a:LA): List Nat:=(Qc a).map Int.toNat
theorem Qqj(h:Yf 32 (atm a m)): Qc a=nz (vsO a):=by
 unfold vsO nz;rw[List.map_map];refine(List.map_id _).symm.trans (List.map_congr_left λv u=>?_);have:=(h.2.1 v u).1;simp[Function.comp];omega
structure OkA(a:LA)(m:List Row): Prop where
 nz:Qc a=nz (vsO a)
 asc:Qo (vsO a)
 lt:∀ v∈vsO a,v<32
 len:(vsO a).length=(lvs a).length
theorem okA(h:Yf 32 (atm a m)): OkA a m:=by
 have e:=Qqj h;refine⟨e,?_,λv y=>?_,?_⟩
 .refine List.pairwise_iff_getElem.2 λi j hi D F=>?_;have key:∀ k,k+1<(vsO a).length->(vsO a).getD k 0<(vsO a).getD (k+1) 0:=λk u=>by
   have G:k+1<(Qc a).length:=by rw[e,Ju];exact u
   have:=h.1 (k+1) om G;have g:∀ i,i<(vsO a).length->(Qc a).getD i 0=((vsO a).getD i 0:Int):=λi hi=>by
    rw[e];simp[Go.Proofs.YtebiphhfkdbpfaaGreat.nz,List.getD,List.getElem?_eq_getElem hi]
   rw[show(atm a m).vars=Qc a from rfl,show k+1-1=k by omega,g k om,g (k+1) u]at this;omega
  have mono:∀ d i,i+d+1<(vsO a).length->(vsO a).getD i 0<(vsO a).getD (i+d+1) 0:=λd=>by
   induction d with
   | zero=>exactλi hi=>key i hi
   | succ d ih=>exactλi hi=>Nat.lt_trans (ih i om) (key (i+d+1) om)
  have:=mono (j-i-1) i om;rw[show i+(j-i-1)+1=j by omega]at this;simpa [List.getD,List.getElem?_eq_getElem hi,List.getElem?_eq_getElem D] using this
 .have:=(h.2.1 (v:Int) (by rw[show(atm a m).vars=Qc a from rfl,e];exact List.mem_map.2 ⟨v,y,rfl⟩)).2;omega
 have:=h.2.2;rw[show(atm a m).vars=Qc a from rfl,e,Ju]at this;exact this
theorem OkA.atm(h:OkA a m): atm a m=⟨Go.Proofs.YtebiphhfkdbpfaaGreat.nz (vsO a),(vsO a).length,m⟩:=by
 show(⟨Qc a,(lvs a).length,m⟩:Atm)=_;rw[h.nz,h.len]
theorem Qnt{w:World}{cs:List Value}{s:Nat}(ha:LaC Nn w cs a)(hs:s<4294967296): Ret Tryz.prog 3 [.agg cs.toArray,.int .u32 (s:Int)] w λu w'=>u=.bool true/\Ext w w':=by
 obtain⟨bm,bt,v,rfl,hG⟩:=id ha;obtain⟨G,gc,_,rfl,_⟩:=id hG.el;refine Jz Tryz.func3 Tryz.ntmps3 rfl kr rfl ?_;refine ρ ?_;refine bx (cs:=[.int .u8 (a.vars:Int),.slice G a.rows.length gc,.int .u8 (a.bad:Int)]) ?_;intro w1 b1 bl c6 c1;refine ρ ?_;refine ldW c1 ?_;refine ρ ?_;refine bsl (Jsp _ _ _ _ _) ?_;intro w2 b2 bj c5 c0;have a9:=bl.trans bj;have bz:GX 3 LaC Nn w2 (.slice (some ⟨b2,0,none⟩) 1 1) [a]:=gxOf (ps:=[([.int .u8 (a.vars:Int),.slice G a.rows.length gc,.int .u8 (a.bad:Int)],a)]) (c0.rd (n:=1) rfl) (nR 1) (by show 1<=1100000;decide) λp hp=>by
  rw[List.mem_singleton.1 hp];exact⟨rfl,LaC.sta.gr ha (GrN.ext a9)⟩
 refine ρ ?_;refine cl (Jmm bz (by show 1<=1048576;decide)) ?_;rintro u w3 ⟨bi,h3⟩;have a5:=a9.trans bi;rcases h3 with⟨hf,vo,vm,va,ms,rfl,bo,bv,hO,hM,hI⟩|⟨hno,rfl⟩
 case inr=>
  refine ρ ?_;refine cl (Jwm _) ?_;rintro x w4 ⟨rfl,a4⟩;refine ρ ?_;exact Jq ⟨rfl,a5.trans a4⟩
 match ms,bo with
 | [m],_=>
 have af:MadeR a m:=Qwd (bv 0 (by simp) (by simp)) (hf a (by simp));obtain⟨A,c,_,rfl,hc,_,hR,_,he⟩:=id hO.el;obtain⟨ce,_,⟨t,rfl,bu⟩,bs⟩:=he 0 (by simp);have bb:AtV w3 t (atm a m):=bu.here;obtain⟨B,bc,_,rfl,_,_,ai,_,br⟩:=id hM.el;obtain⟨c8,_,⟨r1,r2,rfl,bn⟩,ay⟩:=br 0 (by simp);have a6:IntsV w3 r1 (Qc a)/\RowsV w3 r2 m:=bn.here;obtain⟨t1,t2,t3⟩:=t;obtain⟨E,ec,eE,_⟩:=id a6.1;obtain⟨bg,F,fc,_,eF,_⟩:=id a6.2;subst eE;subst eF;have hR:Rd w3 3 A 1 _:=hR;have ai:Rd w3 2 B 1 _:=ai;have b8:GX 2 RaC Nn w3 (.slice B 1 bc) ([atm a m].map raO):=hM;have b9:IntsV w3 va (nz ([atm a m].map (·.ar))):=hI
 refine ρ ?_;refine ixq 3 0 hR (by decide) ?_;refine ρ ?_;refine lds (cs:=[t1,t2,t3]) bs ?_;by_cases hok:atE 32 (atm a m)=0
 .have ok:=okA (atE_ok.1 hok);have ba:AtV w3 (t1,t2,t3) ⟨nz (vsO a),(vsO a).length,m⟩:=by rw[<-ok.atm];exact bb
  have aa:∀ r∈m,r.length=(vsO a).length:=λr hr=>by rw[ok.len];exact af.len r hr
  have c2:=af.cnt;have b3:m.length<=65536:=om
  have bp:m.length<=1000000:=om
  refine ρ ?_;refine cl (Jtf ba hs ok.asc ok.lt aa b3) ?_;rintro u w4 ⟨a4,t',rfl,P,av,c7,_,O⟩;have O:=O (.inl om);have hP:=av.here;obtain⟨p1,p2,p3⟩:=t';obtain⟨⟨P1,ap,bf,_⟩,be,an,P3,ao,c3,bd,_⟩:=id hP;simp only at bf be bd;subst bf;subst be;subst bd;refine ρ ?_;refine alc Zu ?_;intro w5 b5 ad ah am;refine ρ ?_;refine stb (cs':=[.slice P1 (nz (inS (vsO a) s)).length ap,.int .i64 ((inS (vsO a) s).length:Int),.slice P3 an.length ao]) am ?_ (Ib rfl);intro w6 ak bq ac;have U:Ext w4 w6:=ac w4 ad ah;have D:=a4.trans U;have ae:(if 32<[atm a m].length then(12:Int) else frE 32 [atm a m])=0:=by
   rw[if_neg (by simp),Jjf λb hb=>by rw[List.mem_singleton.1 hb];exact atE_ok.1 hok]
  refine ρ ?_;refine cl (Jhm (b8.ext RaC.sta (by decide) D) (b9.ext D)) ?_;rintro u w7 ⟨e,Z⟩;rw[ae]at e;subst e;have au:=D.trans Z;have b4:IntsV w3 (.slice E (Qc a).length ec) (nz (vsO a)):=by rw[<-ok.nz];exact a6.1
  refine ρ ?_;refine dr [(1,0),(0,1),(0,2),(0,3),(0,4),(0,5),(0,6),(0,7),(0,8),(0,9),(0,10),(1,11),(1,12),(0,13),(0,14)] kr ?_;have bh:Ext w7 w7.drew:=(Ext.refl w7).drew;refine dcl (Jwm _) ?_;rintro x w8 ⟨rfl,a2⟩;refine⟨a2,?_⟩;have a3:=bh.trans a2;have J:=au.trans a3;have a7:=ak.ext (Z.trans a3);refine ρd ?_;refine Qj (cs:=[.slice P1 (nz (inS (vsO a) s)).length ap,.int .i64 ((inS (vsO a) s).length:Int),.slice P3 an.length ao]) (λj u hu=>a7.at hu) ?_;refine ρd ?_;refine Qp 2 0 (ai.ext J) (by decide) ?_;refine ρd ?_;refine Qj (cs:=[.slice E (Qc a).length ec,.slice F bg.length fc]) (λj u hu=>Xz J (ay j u hu)) ?_;refine ρd ?_;have ax:=af.noS;have b6:∀ r∈P,NoS r:=λr hr=>by
   obtain⟨y,hy,rfl⟩:=List.mem_map.1 ((O.2 r).1 hr);exact(ax y hy).pm _
  have b7:∀ r∈P,r.length<=100000:=λr hr=>by
   obtain⟨y,hy,rfl⟩:=List.mem_map.1 ((O.2 r).1 hr);have h1:=Jjm ok.asc ok.lt;have h2:(Xw (vsO a) s).length<=(vsO a).length:=by
    have:=List.length_filter_le (λi=>s.testBit ((vsO a).getD i 0)) (List.range (vsO a).length);rw[List.length_range]at this;exact this
   simp only[pmR,List.length_map];omega
  refine dcl (Qwl (b4.ext J) (a6.2.ext J) hs ok.asc ok.lt aa ax bp) ?_;rintro u w9 ⟨x1,x2,Q,rfl,aw,aj,a1⟩;refine⟨a1,?_⟩;have bw:Q=P:=aj.uniq O;subst bw;refine ρd ?_;have aq:=U.trans (Z.trans (a3.trans a1));refine dcl (Qfs (hP.ext aq) (by simp only;rw[Ju]) b7 b6 aw.here.1 aw.here.2 b6) ?_;rintro u c4 ⟨rfl,a8⟩;refine⟨a8,?_⟩;refine ρd ?_;refine ρ ?_;have hd:decide (nz (inS (vsO a) s)=nz (inS (vsO a) s)/\Q=Q)=true:=decide_eq_true ⟨rfl,rfl⟩;exact Jq ⟨congrArg Value.bool hd,a5.trans (J.trans (a1.trans a8))⟩
 have ae:(if 32<[atm a m].length then(12:Int) else frE 32 [atm a m])=atE 32 (atm a m):=by
  rw[if_neg (by simp)];exact Jkr (n:=32) (l:=[atm a m]) (i:=0) (λj hj=>absurd hj (Nat.not_lt_zero _)) (by simp) hok
 refine ρ ?_;refine cl (Qnv bb hok) ?_;rintro u w4 ⟨a4,rfl⟩;refine ρ ?_;refine alc Zu ?_;intro w5 b5 ad ah am;refine ρ ?_;refine stb (cs':=[.slice none 0 0,.int .i64 0,.slice none 0 0]) am ?_ (Ib rfl);intro w6 ak bq ac;have U:Ext w4 w6:=ac w4 ad ah;have D:=a4.trans U;refine ρ ?_;refine cl (Jhm (b8.ext RaC.sta (by decide) D) (b9.ext D)) ?_;rintro u w7 ⟨e,Z⟩;rw[ae]at e;subst e;refine ρ ?_;refine ct ?_ ?_
 .simpa using hok
 refine ρ ?_;refine cl (Jwm _) ?_;rintro x w8 ⟨rfl,a2⟩;have a7:=ak.ext (Z.trans a2);refine ρ ?_;refine kt 42 ?_ ?_
 .simp
 refine ρ ?_;refine ld (a7.at (i:=0) rfl) ?_;refine ρ ?_;refine lds (cs:=[.int .i64 0,.slice none 0 0]) (a7.sub2 (i:=1) rfl rfl) ?_;refine ρ ?_;refine cl (Jqd (ar:=0) (ls:=[]) ⟨_,rfl,RowsV.nil _ _ _⟩) ?_;rintro u w9 ⟨rfl,a1⟩;refine ρ ?_;exact Jq ⟨rfl,a5.trans (D.trans (Z.trans (a2.trans a1)))⟩
end Go.Proofs.YtebiphhfkdbpfaaGreat
namespace Go.Wk
open Go.RowKit Go.ChangeShapes Go.WideShapes
variable {cap e fuel len t:Nat}{A:Option Addr}
section
variable {H:Type} {enc:TypeId×Value->H} {P:Program} {w:World} {base:Nat} {spare:Nat->Bool} {held:Bool}
theorem rd_of{sz:Nat}{cs:List Value}{ad:Addr}(hA:A=some ad)(hl:cs.length=len*sz)(hc:∀ j u,cs[j]?=some u->w.cell? (ad.add j)=some u): Rd w sz A len cs :=
 ⟨hl,λh0=>⟨ad,hA,by
  have y:=hc 0 cs[0] (gE h0);rw[add_zero]at y;exact World.block_lt_of_cell? w ad y,hc⟩⟩
theorem Qbf{α:Type}{sz:Nat}{x:DataW H×List MemPlace}(X:α->List Value)(R:α->Prop)(ht:P.underlying t=some (.slice e))(hc:P.cellsOf e=sz)(hX:∀(n:Nat) (cs':List Value) (y:DataW H×List MemPlace),DataW.trod enc P w base spare held n e cs'=some y->∃ z:α,cs'=X z/\R z)(h:DataW.trod enc P w base spare held fuel t [.slice A len cap]=some x): ∃ l:List α,l.length=len/\Rd w sz A len (l.flatMap X)/\(∀ z∈l,R z)/\len<=cap/\cap<=maxLen:=by
 rcases Go.Deep.open_slice ht h with⟨F,_⟩|⟨a,len',cap',m,n,D,Pl,F,_,hl,hm,hmm,_,hel⟩
 .simp only[List.cons.injEq,Value.slice.injEq,and_true]at F;obtain⟨rfl,rfl,rfl⟩:=F;exact⟨[],rfl,Rd.nil,(λz O=>by cases O),Nat.le_refl _,Nat.zero_le _⟩
 simp only[List.cons.injEq,Value.slice.injEq,and_true]at F;obtain⟨rfl,rfl,rfl⟩:=F;have a2:len<=m:=by grind
 have key:∀ k,k<=len->∃ l:List α,l.length=k/\(l.flatMap X).length=k*sz/\(∀ j u,(l.flatMap X)[j]?=some u->w.cell? (a.add j)=some u)/\∀ z∈l,R z:=by
  intro k;induction k with
  | zero=>intro _;exact⟨[],rfl,by simp,(λj u J=>by simp at J),(λz O=>by cases O)⟩
  | succ k ih=>
   intro hk;obtain⟨l,h1,h2,h3,h4⟩:=ih om;obtain⟨cs',G,U⟩:=hel k om;obtain⟨z,rfl,O⟩:=hX n cs' _ U;rw[hc]at G;obtain⟨_,a1,Z⟩:=World.cells?_some G;refine⟨l++[z],by simp[h1],?_,?_,?_⟩
   .grind
   .intro j u J;rw[List.flatMap_append]at J;simp only[List.flatMap_cons,List.flatMap_nil,List.append_nil]at J;rcases Nat.lt_or_ge j (k*sz) with hj|hj
    .grind
    rw[List.getElem?_append_right om,h2]at J;have hb:j-k*sz<sz:=by grind
    have:=Z (j-k*sz) hb;rw[Jdb]at this;grind
   repeat grind
 obtain⟨l,h1,h2,h3,h4⟩:=key len (nR _);grind [rd_of]
end
end Go.Wk
namespace Go.Proofs.YtebiphhfkdbpfaaGreat
open Go.RowKit Pl Go.Wk Go.ChangeShapes Go.WideShapes
variable {cs:List Value}
section
variable {H:Type} {enc:TypeId×Value->H} {P:Program} {w:World} {base:Nat} {spare:Nat->Bool} {held:Bool} {B:Nat}
theorem Qqv{t e:TypeId}{fuel:Nat}{x:DataW H×List MemPlace}(ht:P.underlying t=some (.array 4 e))(hce:P.cellsOf e=1)(hct:P.cellsOf t=4)(h:DataW.trod enc P w base spare held fuel t cs=some x):
  ∃ c0 c1 c2 c3 y0 y1 y2 y3 n,cs=[c0,c1,c2,c3]/\DataW.trod enc P w base spare held n e [c0]=some y0/\DataW.trod enc P w base spare held n e [c1]=some y1/\DataW.trod enc P w base spare held n e [c2]=some y2/\DataW.trod enc P w base spare held n e [c3]=some y3:=by
 cases fuel with
 | zero=>simp[DataW.trod]at h
 | succ n=>
  unfold DataW.trod at h;rw[ht]at h;have u:List.range 4=[0,1,2,3]:=rfl;simp[u,hce,hct]at h;obtain⟨y,h⟩:=h;match cs,y with
  | [c0,c1,c2,c3],_=>
   simp at h;cases h0:DataW.trod enc P w base spare held n e [c0] with
   | none=>simp[h0]at h
   | some y0=>
    cases h1:DataW.trod enc P w base spare held n e [c1] with
    | none=>simp[h0,h1]at h
    | some y1=>
     cases h2:DataW.trod enc P w base spare held n e [c2] with
     | none=>simp[h0,h1,h2]at h
     | some y2=>
      cases h3:DataW.trod enc P w base spare held n e [c3] with
      | none=>simp[h0,h1,h2,h3]at h
      | some y3=>exact⟨c0,c1,c2,c3,y0,y1,y2,y3,n,rfl,h0,h1,h2,h3⟩
end
section
variable {H:Type} {enc:TypeId×Value->H} {w:World} {base b0:Nat} {spare:Nat->Bool} {held:Bool}
theorem Ks{n:Int}(h:0<=n/\n<=255): ∃ x:Nat,n=(x:Int)/\x<256:=⟨n.toNat,om,om⟩
theorem Qbd{n:Nat}{y:DataW H×List MemPlace}(h:DataW.trod enc Tryz.prog w base spare held n 71 cs=some y): ∃ l:List Nat,cs=u8C l/\l.length=4/\∀ x∈l,x<256:=by
 obtain⟨c0,c1,c2,c3,y0,y1,y2,y3,n,rfl,f0,f1,f2,f3⟩:=Qqv Tryz.underlying71 kr kr h;obtain⟨a0,J,_,w0⟩:=DataW.trod_int Tryz.underlying5 f0;obtain⟨a1,G,_,w1⟩:=DataW.trod_int Tryz.underlying5 f1;obtain⟨a2,F,_,w2⟩:=DataW.trod_int Tryz.underlying5 f2;obtain⟨a3,D,_,w3⟩:=DataW.trod_int Tryz.underlying5 f3;simp at J G F D;subst J;subst G;subst F;subst D;obtain⟨x0,rfl,l0⟩:=Ks (bounds_u8 w0);obtain⟨Z,rfl,l1⟩:=Ks (bounds_u8 w1);obtain⟨U,rfl,l2⟩:=Ks (bounds_u8 w2);obtain⟨O,rfl,l3⟩:=Ks (bounds_u8 w3);exact⟨[x0,Z,U,O],rfl,rfl,λx u=>by
  simp only[List.mem_cons,List.not_mem_nil,or_false]at u;rcases u with rfl|rfl|rfl|rfl<;>assumption⟩
def Qjc(w:World)(cs:List Value)(a:LA): Prop:=LaC (λ_=>False) w cs a
end
open Go.RowKit Pl Go.Wk Bl Nw
attribute [local irreducible] WC WL QX WD WDB WP WN WG WH
variable {gc n x y:Nat}{A G:Option Addr}{w:World}
theorem Qdb{c:Nat}(hR:Rd w 3 A 1 [.int .u8 (x:Int),.slice G n gc,.int .u8 (y:Int)])(hx256:x<256)(hn:12<n): Ret Tryz.prog 7 [.slice A 1 c] w λu w'=>Ext w w'/\u=.tuple #[.slice none 0 0,.slice none 0 0,.slice none 0 0,.bool false]:=by
 refine Jz Tryz.func7 Tryz.ntmps7 rfl kr rfl ?_;refine ρ ?_;refine Gb (fun (k:Nat) (vo vm va:Value)=>[(0,.slice A 1 c),(6,vo),(7,vm),(8,va),(21,.slice A 1 c),(22,.int .i64 (1:Int)),(23,.int .i64 (k:Int))])
  (λk vo vm va w'=>k=0/\w'=w) (λk _ _ _=>1-k) 0 (.slice none 0 0) (.slice none 0 0) (.slice none 0 0) sB ⟨rfl,rfl⟩ ?_
 rintro k vo vm va w1 ⟨hk,rfl⟩;refine ρ ?_;refine ci (λD=>?_) (λD=>?_)
 .clear D;refine ρ ?_;have a8:∀(j:Nat) (u:Value),([.int .u8 (x:Int),.slice G n gc,.int .u8 (y:Int)]:List Value)[j]?=some u->w1.cell? ((adr A (k*3)).add j)=some u:=λj u hu=>by rw[hk,Gv,Nat.zero_mul,Nat.zero_add];exact hR.cell hu
  refine ixq 3 k hR om ?_;refine ρ ?_;refine lds (cs:=[.int .u8 (x:Int),.slice G n gc,.int .u8 (y:Int)]) a8 ?_;refine ρ ?_;refine alc zLaw ?_;intro w2 b2 a5 a9 ac;refine ρ ?_;refine stb (cs':=[.int .u8 (x:Int),.slice G n gc,.int .u8 (y:Int)]) ac ?_ (λu hu=>by
   simp only[List.mem_cons,List.not_mem_nil,or_false]at hu;rcases hu with rfl|rfl|rfl<;>rfl)
  intro w3 a2 ai a4;have U:Ext w1 w3:=a4 w1 a5 a9;refine ρ ?_;refine Qd (fun (v:Nat) (vv:Value)=>[(0,.slice A 1 c),(6,vo),(7,vm),(8,va),(10,.pointer (some ⟨b2,0,none⟩)),(11,vv),(21,.slice A 1 c),(22,.int .i64 (1:Int)),(23,.int .i64 (k:Int)),(27,.int .i64 (v:Int))])
   (λv vv w'=>v<=8/\Ext w3 w'/\Qq w' w3.heap.size vv (Jw v x)) (λv _=>8-v) 0 (.slice none 0 0) sB ⟨Nat.zero_le _,Ext.refl _,Xj _ _ _ _⟩ ?_
  rintro v vv w4 ⟨hv,F,O⟩;refine ρ ?_;refine ci (λD=>?_) (λD=>?_)
  .have lv:v<8:=by have:=oT D;omega
   clear D;refine ρ ?_;refine ld ((a2.ext F).at (i:=0) rfl) ?_;refine ρ ?_;refine Zs rfl rfl om rfl ?_;refine ρ ?_;refine Kl rfl rfl (by decide) rfl ?_;refine ρ ?_;refine ci (λD=>?_) (λD=>?_)
   .have Z:x.testBit v=true:=by rw[<-Jwg lv];exact D
    have hmk:Jw (v+1) x=Jw v x++[v]:=by rw[Ir,if_pos Z]
    have af:=Kj v x;refine ρ ?_;refine bsl (Um _) ?_;intro w5 b5 J aj aa;refine ρ ?_;refine apI (z:=v) (Jb O J) aa om (nL F.size J.size) ?_;intro a3 w6 a1 a7 ae;rw[<-hmk]at a1;refine ρ ?_;exact Qv (v+1) a3 sO ⟨om,Jr (F.trans J) a7 (Jzp (Jb O J)),a1⟩ om
   have Z:¬ x.testBit v=true:=λe=>by rw[<-Jwg lv]at e;exact absurd (D.symm.trans e) (by decide)
   have hmk:Jw (v+1) x=Jw v x:=by rw[Ir,if_neg Z]
   refine ρ ?_;exact Qv (v+1) vv sO ⟨om,F,by rw[hmk];exact O⟩ om
  have a6:v=8:=by have:=oF D;omega
  subst a6;clear D hv;have ah:(Jw 8 x).length<=8:=Kj 8 x;obtain⟨VA,vc,eV,ad,ak⟩:=Jy O;subst eV;refine ρ ?_;by_cases h4:4<(Jw 8 x).length
  .refine kt 44 ?_ ?_
   .exact decide_eq_true om
   refine ρ ?_;exact Jqx ⟨U.trans F,rfl⟩
  refine kf 44 ?_ ?_
  .exact dF om
  refine ρ ?_;refine ld ((a2.ext F).at (i:=1) rfl) ?_;refine ρ ?_;refine ci (λD=>?_) (λD=>?_)
  .refine ρ ?_;exact Jqx ⟨U.trans F,rfl⟩
  have:=oF D;omega
 have:=oF D;omega
theorem Qnw{s:Nat}(hx256:x<256)(hn:12<n): Ret Tryz.prog 3 [.agg #[.int .u8 (x:Int),.slice G n gc,.int .u8 (y:Int)],.int .u32 (s:Int)] w λu w'=>u=.bool true/\Ext w w':=by
 refine Jz Tryz.func3 Tryz.ntmps3 rfl kr rfl ?_;refine ρ ?_;refine bx (cs:=[.int .u8 (x:Int),.slice G n gc,.int .u8 (y:Int)]) ?_;intro w1 b1 O a2 Z;refine ρ ?_;refine ldW Z ?_;refine ρ ?_;refine bsl (Jsp _ _ _ _ _) ?_;intro w2 b2 J a1 U;refine ρ ?_;refine cl (Qdb (U.rd (n:=1) rfl) hx256 hn) ?_;rintro u w3 ⟨F,rfl⟩;refine ρ ?_;refine cl (Jwm _) ?_;rintro z w4 ⟨rfl,D⟩;refine ρ ?_;exact Jq ⟨rfl,(O.trans J).trans (F.trans D)⟩
end Go.Proofs.YtebiphhfkdbpfaaGreat
namespace Go.Proofs.YtebiphhfkdbpfaaGreat
open Go.RowKit Pl Go.Wk Go.ChangeShapes Go.WideShapes
variable {v:Value}
section
variable {H:Type} {enc:TypeId×Value->H} {w:World} {base b0:Nat} {spare:Nat->Bool} {held:Bool}
def Qjb(w:World)(v:Value): Prop:=∃ cs,v=.agg cs.toArray/\((∃ a,Qjc w cs a)∨∃(x y:Nat) (G:Option Addr) (n gc:Nat),cs=[.int .u8 (x:Int),.slice G n gc,.int .u8 (y:Int)]/\x<256/\12<n)
theorem Qbg{d:DataW H}{p:List MemPlace}(hv:Value.okWide Tryz.prog w .any b0 24 v)(h:DataW.Trod enc Tryz.prog w base spare held 24 v d p): Qjb w v:=by
 simp only[Value.okWide,Tryz.underlying24]at hv;obtain⟨⟨cs⟩,rfl,_,_⟩:=hv;obtain⟨U,h⟩:=h;have h:DataW.trod enc Tryz.prog w base spare held U 24 cs=some (d,p):=h;refine⟨cs,rfl,?_⟩;obtain⟨J,m,_,hx,O,a1,hf⟩:=DataW.trod_struct Tryz.underlying24 h;have a2:cs.length=3:=by rw[O];kernel_rfl
 match cs,a2 with
 | [c0,c1,c2],_=>
  have a3:J.length=3:=a1;have f0:DataW.trod enc Tryz.prog w base spare held m 5 (([c0,c1,c2].drop 0).take (Tryz.prog.cellsOf 5))=J[0]?:=hf 0 _ rfl;have f1:DataW.trod enc Tryz.prog w base spare held m 22 (([c0,c1,c2].drop 1).take (Tryz.prog.cellsOf 22))=J[1]?:=hf 1 _ rfl;have f2:DataW.trod enc Tryz.prog w base spare held m 5 (([c0,c1,c2].drop 2).take (Tryz.prog.cellsOf 5))=J[2]?:=hf 2 _ rfl;rw[show Tryz.prog.cellsOf 5=1 by kernel_rfl,List.getElem?_eq_getElem om]at f0 f2;rw[show Tryz.prog.cellsOf 22=1 by kernel_rfl,List.getElem?_eq_getElem om]at f1;obtain⟨n0,e0,_,w0⟩:=DataW.trod_int Tryz.underlying5 f0;obtain⟨n2,e2,_,w2⟩:=DataW.trod_int Tryz.underlying5 f2;have Z:DataW.trod enc Tryz.prog w base spare held m 22 [c1]=some J[1]:=f1;simp at e0 e2;subst e0;subst e2;obtain⟨x0,rfl,l0⟩:=Ks (bounds_u8 w0);obtain⟨x2,rfl,l2⟩:=Ks (bounds_u8 w2);have key:∀(A:Option Addr) (len F:Nat),c1=.slice A len F->((∃ a,Qjc w [.int .u8 (x0:Int),c1,.int .u8 (x2:Int)] a)∨∃(x y:Nat) (G:Option Addr) (n gc:Nat),[.int .u8 (x0:Int),c1,.int .u8 (x2:Int)]=[Value.int .u8 (x:Int),.slice G n gc,.int .u8 (y:Int)]/\x<256/\12<n):=λA len F e=>by
   subst e;by_cases h12:len<=12
   .obtain⟨l,h1,g1,g2,g3,_⟩:=Qbf (sz:=4) u8C (λl=>l.length=4/\∀ x∈l,x<256) Tryz.underlying22 kr (λn a4 y hy=>by obtain⟨l,h1,h2⟩:=Qbd hy;exact⟨l,h1,h2⟩) Z;subst h1;have ef:Jd (l.map λr=>(u8C r,r))=l.flatMap u8C:=by simp only[Jd,List.flatMap_map]
    have em:(l.map λr=>(u8C r,r)).map (·.2)=l:=by rw[List.map_map];exact List.map_id l
    have el:(l.map λr=>(u8C r,r)).length=l.length:=by simp
    have hG:=gxOf (sz:=4) (Φ:=U8R) (ps:=l.map λr=>(u8C r,r)) (c:=F) (A:=A) (w:=w) (by rw[el,ef];exact g1) (by rw[el];exact g3) (by rw[el];omega) (λp hp=>by
     obtain⟨r,hr,rfl⟩:=List.mem_map.1 hp;exact⟨by simp[u8C,(g2 r hr).1],rfl,(g2 r hr).1,(g2 r hr).2⟩)
    rw[em,el]at hG;exact .inl ⟨⟨x0,l,x2⟩,l0,l2,_,rfl,hG⟩
   exact .inr ⟨x0,x2,A,len,F,rfl,l0,om⟩
  rcases Go.Deep.open_slice Tryz.underlying22 Z with⟨u,_⟩|⟨a,len,F,m',n',D,Pl,u,_⟩
  .injection u with u _
   exact key _ _ _ u
  injection u with u _
  exact key _ _ _ u
end
theorem Qns{w:World}{z:Int}(h:Qjb w v)(hz:0<=z/\z<=4294967295): Ret Tryz.prog 3 [v,.int .u32 z] w λu w'=>u=.bool true/\Ext w w':=by
 obtain⟨cs,rfl,D⟩:=h;obtain⟨s,rfl⟩:∃ s:Nat,z=(s:Int):=⟨z.toNat,om⟩;rcases D with⟨a,D⟩|⟨x,y,G,n,gc,rfl,h1,h2⟩
 .exact Qnt D om
 exact Qnw h1 h2
end Go.Proofs.YtebiphhfkdbpfaaGreat
