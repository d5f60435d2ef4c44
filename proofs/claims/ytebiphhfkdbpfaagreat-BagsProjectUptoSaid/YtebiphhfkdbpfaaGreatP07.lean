/- Part 7. -/
import Derived.Test.YtebiphhfkdbpfaaGreatP06
import Derived.ProofKit
import Derived.OpenShut
import Derived.ShutString
import Derived.ChangeOld
import Derived.Deep.Slices
import Derived.Deep.Fields
import Derived.Test.YtebiphhfkdbpfaaGreatRows
set_option linter.unusedVariables false
set_option maxRecDepth 100000
set_option maxHeartbeats 40000000
namespace Go.Proofs.YtebiphhfkdbpfaaGreat
open Go.RowKit Pl Go.Wk Bl
attribute [local irreducible] WC WL QX WD WDB WP WN WG WH
variable {v vl:Value}{w w':World}
theorem ERo: ElT Tryz.prog 33 73 1 24 (.slice none 0 0):=⟨Tryz.underlying33,info_parts kr,rfl,by decide⟩
theorem ERA: ElT Tryz.prog 27 46 2 48 (.agg #[.slice none 0 0,.slice none 0 0]):=⟨Tryz.underlying27,info_parts kr,rfl,by decide⟩
theorem Jsq(A B:Option Addr)(n c m d:Nat)(w:World): (Instr.build 46 #[(0,.slice A n c),(1,.slice B m d)]).run Tryz.prog w=.ok (.agg #[.slice A n c,.slice B m d]) w:=kr
theorem bs1RA(A B:Option Addr)(n c m d:Nat)(w:World): (Instr.buildSlice 27 1 #[(0,.agg #[.slice A n c,.slice B m d])]).run Tryz.prog w=.ok (.slice (some ⟨w.heap.size,0,none⟩) 1 1) (w.alloc (.cells #[.slice A n c,.slice B m d] 46)):=kr
theorem zLaw: Qu Tryz.prog 24=some (.agg #[.int .u8 0,.slice none 0 0,.int .u8 0]):=kr
theorem zArr4: Qu Tryz.prog 71=some (.agg #[.int .u8 0,.int .u8 0,.int .u8 0,.int .u8 0]):=kr
theorem Jyd{E base:Nat}{N:Nat->Prop}{ls:List Row}(h:OX E 1 RfC N w base v ls)(hl:ls.length<=1100000): RowsV w v ls:=by
 obtain⟨ps,e,U,y⟩:=h;obtain⟨A,c,e1,hc,_⟩:=Jy U;have F:∀ j:List (List Value×Row),(∀ p∈j,p.1.length=1/\RfC N w p.1 p.2)->∃ i:List Pr,j.map (·.2)=i.map (·.2)/\i.length=j.length/\Jd j=i.map (·.1)/\∀ p∈i,RowV w p.1 p.2:=λj=>by
  induction j with
  | nil=>exactλ_=>⟨[],rfl,rfl,rfl,λp h=>by cases h⟩
  | cons q j ih=>
   intro h;obtain⟨i,O,D,J,G⟩:=ih λp y=>h p (List.mem_cons_of_mem _ y);obtain⟨_,u,eu,hu⟩:=h q (mC ..);refine⟨(u,q.2)::i,by simp[O],by simp[D],?_,λp y=>?_⟩
   .show q.1++Jd j=_;rw[eu,J];rfl
   rcases List.mem_cons.1 y with rfl|y
   .exact hu.v
   exact G p y
 obtain⟨i,O,D,J,G⟩:=F ps y;have Z:ls.length=ps.length:=by rw[e,List.length_map]
 refine⟨i,A,c,by rw[e,O],by rw[D];exact e1,om,om,?_,G⟩;subst e1;rw[D,<-J];exact Rd.own U
theorem Qcw(i:Nat)(y:List Nat): (Xr i y).all Xo=true:=by
 unfold Xr;rw[List.all_eq_true];intro v u;obtain⟨j,_,rfl⟩:=List.mem_map.1 u;have:y.getD j 0 % 4<4:=Nat.mod_lt _ (by decide);generalize y.getD j 0 % 4=z at *
 rcases(show z=0∨z=1∨z=2∨z=3 by omega) with rfl|rfl|rfl|rfl<;>decide
theorem bs1VR(v:V)(w:World): (Instr.buildSlice 73 1 #[(0,v.val)]).run Tryz.prog w=.ok (.slice (some ⟨w.heap.size,0,none⟩) 1 1) (w.alloc (.cells v.cells.toArray 75)):=kr
theorem ownX{r:Row}(h:w'.ownsRow w.heap.size 75 3 v r.length (Je r))(hl:r.length<=1100000): RowX w' (Ol w) v r:=by
 obtain⟨A,c,e,y,u⟩:=Jy h;subst e;refine⟨A,c,rfl,y,hl,Rd.own h,λh0 i D j=>?_⟩;have:=(u i.block (by rw[D];rfl)).1;exact absurd (show i.block<w.heap.size from j) om
theorem bldV4(z:Int)(w:World): (Instr.build 75 #[(0,.int .i64 1),(1,.int .i64 z)]).run Tryz.prog w=.ok (V.val ⟨1,z,⟨#[]⟩⟩) w:=kr
theorem Qcx(i:Nat)(y:List Nat): Xr (i+1) y=Xr i y++[⟨1,((y.getD i 0 % 4:Nat):Int),⟨#[]⟩⟩]:=by unfold Xr;rw[List.range_succ,List.map_append];rfl
theorem Jqr(i:Nat)(y:List Nat): (Xr i y).length=i:=by simp[Xr]
def Rl(a:LA)(m:List Row): Prop:=IsSet [] (a.rows.map (Xr (lvs a).length)) m/\m.length<=65536
def atm(a:LA)(m:List Row): Atm:=⟨Qc a,(lvs a).length,m⟩
def rat'(a:LA)(m:List Row): RA:=⟨Qc a,m⟩
abbrev NM(s:Nat)(vo vm va:Value): Nat->Prop:=λk=>k<s∨vo.ownBlock=some k∨vm.ownBlock=some k∨va.ownBlock=some k
theorem Jmd{l:List LA}(hl:GX 3 LaC Nn w vl l)(hn:l.length<=1048576): Ret Tryz.prog 7 [vl] w λu w'=>Ext w w' /\
  (((∀ a∈l,a.fits)/\∃ vo vm va,∃ ms:List (List Row),u=.tuple #[vo,vm,va,.bool (decide (l.length<=6))]/\ms.length=l.length/\(∀ i (h1:i<l.length) (h2:i<ms.length),Rl l[i] ms[i])/\GX 3 AtC Nn w' vo (l.zipWith atm ms)/\GX 2 RaC Nn w' vm (l.zipWith rat' ms)/\IntsV w' va (nz (l.map λa=>(lvs a).length))) ∨
   ((¬ ∀ a∈l,a.fits)/\u=.tuple #[.slice none 0 0,.slice none 0 0,.slice none 0 0,.bool false])):=by
 obtain⟨A,c,_,rfl,hc,_,hR,_,he⟩:=id hl.el;refine Jz Tryz.func7 Tryz.ntmps7 rfl kr rfl ?_;refine ρ ?_;refine Kl (fun (k:Nat) (vo vm va:Value)=>[(0,.slice A l.length c),(6,vo),(7,vm),(8,va),(21,.slice A l.length c),(22,.int .i64 (l.length:Int)),(23,.int .i64 (k:Int))])
  (λk vo vm va w'=>k<=l.length/\Ext w w'/\(∀ i (h:i<l.length),i<k->(l[i]).fits)/\Qz w' w.heap.size va ((l.map λa=>(lvs a).length).take k)/\∃ ms:List (List Row),ms.length=k/\(∀ i (h1:i<l.length) (h2:i<ms.length),Rl l[i] ms[i])/\OX 37 3 AtC (NM w.heap.size vo vm va) w' w.heap.size vo (l.zipWith atm ms)/\OX 46 2 RaC (NM w.heap.size vo vm va) w' w.heap.size vm (l.zipWith rat' ms))
  (λk _ _ _=>l.length-k) 0 (.slice none 0 0) (.slice none 0 0) (.slice none 0 0) sB ⟨Nat.zero_le _,Ext.refl _,λi _ h=>absurd h (Nat.not_lt_zero _),Xk _ _ _ _,[],rfl,λi _ h=>absurd h (Nat.not_lt_zero _),by rw[List.zipWith_nil_right];exact OX.nil _ _,by rw[List.zipWith_nil_right];exact OX.nil _ _⟩ ?_
 rintro k vo vm va w1 ⟨hk,a4,c8,av,ms,cn,df,bj,bm⟩;refine ρ ?_;refine ci (λF=>?_) (λF=>?_)
 .have lk:k<l.length:=by have:=oT F;omega
  clear F;obtain⟨ce,_,⟨ed,f2,vR,rfl,hG⟩,ew⟩:=he k lk;obtain⟨d5,rc,_,rfl,g4,_,f6,_,f7⟩:=id hG.el;generalize ha:l[k]=a at *
  refine ρ ?_;refine ixq 3 k (hR.ext a4) lk ?_;refine ρ ?_;refine lds (λj u Z=>Xx a4 (ew j u Z)) ?_;refine ρ ?_;refine alc zLaw ?_;intro w2 b2 eb f3 fd;refine ρ ?_;refine stb (cs':=[.int .u8 (a.vars:Int),.slice d5 a.rows.length rc,.int .u8 (a.bad:Int)]) fd ?_ (λu Z=>by
   simp only[List.mem_cons,List.not_mem_nil,or_false]at Z;rcases Z with rfl|rfl|rfl<;>rfl)
  intro w3 bz gb ea;have b1:Ext w1 w3:=ea w1 eb f3;refine ρ ?_;refine Qd (fun (v:Nat) (vv:Value)=>[(0,.slice A l.length c),(6,vo),(7,vm),(8,va),(10,.pointer (some ⟨b2,0,none⟩)),(11,vv),(21,.slice A l.length c),(22,.int .i64 (l.length:Int)),(23,.int .i64 (k:Int)),(27,.int .i64 (v:Int))])
   (λv vv w'=>v<=8/\Ext w3 w'/\Qz w' w3.heap.size vv (Jv v a.vars)) (λv _=>8-v) 0 (.slice none 0 0) sB ⟨Nat.zero_le _,Ext.refl _,Xk _ _ _ _⟩ ?_
  rintro v vv w4 ⟨hv,a8,aw⟩;refine ρ ?_;refine ci (λF=>?_) (λF=>?_)
  .have lv:v<8:=by have:=oT F;omega
   clear F;refine ρ ?_;refine ld ((bz.ext a8).at (i:=0) rfl) ?_;refine ρ ?_;refine Zu rfl rfl om rfl ?_;refine ρ ?_;refine Jjn rfl rfl (by decide) rfl ?_;refine ρ ?_;refine ci (λF=>?_) (λF=>?_)
   .have cp:a.vars.testBit v=true:=by rw[<-Jsc lv];exact F
    have hmk:Jv (v+1) a.vars=Jv v a.vars++[v]:=by rw[Jzv,if_pos cp]
    have g7:=Jqp v a.vars;refine ρ ?_;refine bsl (Gk _) ?_;intro w5 b5 J gd fb;refine ρ ?_;refine apI (z:=v) (Jc aw J) fb om (nL a8.size J.size) ?_;intro dx w6 de eu g5;rw[<-hmk]at de;refine ρ ?_;exact Qy (v+1) dx sO ⟨om,Js (a8.trans J) eu (Jyg (Jc aw J)),de⟩ om
   have cp:¬ a.vars.testBit v=true:=λe=>by rw[<-Jsc lv]at e;exact absurd (F.symm.trans e) (by decide)
   have hmk:Jv (v+1) a.vars=Jv v a.vars:=by rw[Jzv,if_neg cp]
   refine ρ ?_;exact Qy (v+1) vv sO ⟨om,a8,by rw[hmk];exact aw⟩ om
  have ec:v=8:=by have:=oF F;omega
  subst ec;clear F hv;have eo:Jv 8 a.vars=lvs a:=rfl;rw[eo]at aw;obtain⟨VA,vc,eV,g3,f5⟩:=Jy aw;subst eV;have g8:(lvs a).length<=8:=Jqp 8 a.vars;have a3:Ext w1 w4:=b1.trans a8;have cm:¬ a.fits->¬ ∀ a∈l,a.fits:=λh h'=>h (h' a (by rw[<-ha];exact List.getElem_mem lk));refine ρ ?_;by_cases h4:4<(lvs a).length
  .refine kt 44 ?_ ?_
   .exact decide_eq_true om
   refine ρ ?_;exact fin4 ⟨a4.trans a3,.inr ⟨cm λh=>by have:=h.1;omega,rfl⟩⟩
  refine kf 44 ?_ ?_
  .exact dF om
  refine ρ ?_;refine ld ((bz.ext a8).at (i:=1) rfl) ?_;refine ρ ?_;refine ci (λF=>?_) (λF=>?_)
  .have dt:12<a.rows.length:=by have:=oT F;omega
   refine ρ ?_;exact fin4 ⟨a4.trans a3,.inr ⟨cm λh=>by have:=h.2;omega,rfl⟩⟩
  have dt:a.rows.length<=12:=by have:=oF F;omega
  clear F cm;refine ρ ?_;refine ld ((bz.ext a8).at (i:=1) rfl) ?_;refine ρ ?_;refine Qd (fun (j:Nat) (vr:Value)=>[(0,.slice A l.length c),(6,vo),(7,vm),(8,va),(10,.pointer (some ⟨b2,0,none⟩)),(11,.slice VA (lvs a).length vc),(13,vr),(21,.slice A l.length c),(22,.int .i64 (l.length:Int)),(23,.int .i64 (k:Int)),(51,.slice d5 a.rows.length rc),(52,.int .i64 (a.rows.length:Int)),(53,.int .i64 (j:Int))])
   (λj vr w'=>j<=a.rows.length/\Ext w4 w'/\OX 73 1 RfC (Ov w4 vr) w' w4.heap.size vr ((a.rows.map (Xr (lvs a).length)).take j)) (λj _=>a.rows.length-j) 0 (.slice none 0 0) sB ⟨Nat.zero_le _,Ext.refl _,OX.nil _ _⟩ ?_
  rintro j vr w5 ⟨hj,J,bg⟩;have c4:=a4.trans (a3.trans J);refine ρ ?_;refine ci (λF=>?_) (λF=>?_)
  .have lj:j<a.rows.length:=by have:=oT F;omega
   clear F;obtain⟨ge,_,⟨rfl,e8,e9⟩,dc⟩:=f7 j lj;generalize hy:a.rows[j]=y at *
   obtain⟨y0,y1,y2,y3,rfl⟩:∃ y0 y1 y2 y3,y=[y0,y1,y2,y3]:=by
    match y,e8 with
    | [y0,y1,y2,y3],_=>exact⟨y0,y1,y2,y3,rfl⟩
   refine ρ ?_;refine ixq 4 j (f6.ext c4) lj ?_;refine ρ ?_;refine lda (cs:=[.int .u8 (y0:Int),.int .u8 (y1:Int),.int .u8 (y2:Int),.int .u8 (y3:Int)]) (λj u Z=>Xx c4 (dc j u Z)) rfl ?_;refine ρ ?_;refine alc zArr4 ?_;intro w6 b6 aa f0 fa;refine ρ ?_;refine sta (cs':=[.int .u8 (y0:Int),.int .u8 (y1:Int),.int .u8 (y2:Int),.int .u8 (y3:Int)]) fa ?_ (λu Z=>by
    simp only[List.mem_cons,List.not_mem_nil,or_false]at Z;rcases Z with rfl|rfl|rfl|rfl<;>rfl) rfl rfl
   intro w7 d4 ga cg;have c1:Ext w5 w7:=cg w5 aa f0;refine ρ ?_;refine bsl Jsn ?_;intro w8 b8 cd ex d3;refine ρ ?_;refine Qd (fun (i:Nat) (vx:Value)=>[(0,.slice A l.length c),(6,vo),(7,vm),(8,va),(10,.pointer (some ⟨b2,0,none⟩)),(11,.slice VA (lvs a).length vc),(13,vr),(15,.pointer (some ⟨b6,0,none⟩)),(16,vx),(21,.slice A l.length c),(22,.int .i64 (l.length:Int)),(23,.int .i64 (k:Int)),(51,.slice d5 a.rows.length rc),(52,.int .i64 (a.rows.length:Int)),(53,.int .i64 (j:Int)),(58,.slice VA (lvs a).length vc),(59,.int .i64 ((lvs a).length:Int)),(60,.int .i64 (i:Int))])
    (λi vx w'=>i<=(lvs a).length/\Ext w7 w'/\w'.ownsRow w7.heap.size 75 3 vx (Xr i [y0,y1,y2,y3]).length (Je (Xr i [y0,y1,y2,y3]))) (λi _=>(lvs a).length-i) 0 (.slice (some ⟨b8,0,none⟩) 0 0) sB ⟨Nat.zero_le _,cd,d3.own (n:=0) ex rfl (Nat.zero_le _)⟩ ?_
   rintro i vx w9 ⟨hi,O,bs⟩;refine ρ ?_;refine ci (λF=>?_) (λF=>?_)
   .have li:i<(lvs a).length:=by have:=oT F;omega
    clear F;have e7:([.int .u8 (y0:Int),.int .u8 (y1:Int),.int .u8 (y2:Int),.int .u8 (y3:Int)]:List Value)[i]?=some (.int .u8 (([y0,y1,y2,y3].getD i 0:Nat):Int)):=by
     rcases(show i=0∨i=1∨i=2∨i=3 by omega) with rfl|rfl|rfl|rfl<;>rfl
    generalize hz:[y0,y1,y2,y3].getD i 0=z at *
    refine ρ ?_;refine ixb i (show i<4 by omega) ?_;refine ρ ?_;refine ld ((d4.ext O).atc e7) ?_;refine ρ ?_;refine Jjn rfl rfl (by decide) rfl ?_;refine ρ ?_;have ez:IntKind.i64.wrap ((z:Int).tmod 4)=((z % 4:Nat):Int):=by
     rw[show(z:Int).tmod 4=((z % 4:Nat):Int) from rfl,Vf om]
    rw[ez];refine bld (bldV4 _ _) ?_;refine ρ ?_;refine bsl (bs1VR _) ?_;intro a7 du G c9 ag;have ep:=Jqr i [y0,y1,y2,y3];refine ρ ?_;refine apb (m':=1) (news:=V.cells ⟨1,((z % 4:Nat):Int),⟨#[]⟩⟩) EV (Jc bs G) (ag.rd (n:=1) rfl) (V.one _) (by unfold maxLen;omega) om (O.trans G).size ?_;intro v3 bp eh db g6;refine ρ ?_;refine Qy (i+1) v3 sO ⟨li,Js (O.trans G) db (Jyg (Jc bs G)),?_⟩ om;rw[Qcx,hz,List.length_append,Jvs,Jvq];exact eh
   have et:i=(lvs a).length:=by have:=oF F;omega
   subst et;clear F hi;have ep:=Jqr (lvs a).length [y0,y1,y2,y3];have f4:=ownX bs om;obtain⟨XA,xc,eX,_,_⟩:=Jy bs;subst eX;have ax:=c1.trans O;refine ρ ?_;refine bsl (λw=>Jsg _ w _ _ _ rfl) ?_;intro a7 du G c9 ag;have a5:=((bg.ext RfC.sta ax).ext RfC.sta G).old RfC.sta (N':=λq=>Ov w4 vr q∨a7.heap.size<=q) λq D=>D;obtain⟨_,_,_,_,bf⟩:=id bg.form;have e0:=J.size;have fi:=c1.size;refine ρ ?_;refine apX ERo RfC.sta a5 ag rfl (λu Z=>by rw[List.mem_singleton.1 Z];rfl) ⟨_,rfl,(f4.grN (GrN.ext G)).oldN λq D=>?_⟩ (λg hg=>.inl (.inr hg)) (by simp;omega) (by decide) (nL e0 (ax.trans G).size) ?_
   .rcases D with(D|D)|D
    .exact .inl (show q<w7.heap.size by omega)
    .exact .inl (show q<w7.heap.size by have:=(bf q D).2;omega)
    exact .inr D
   intro vr' bp ca U ad;have cj:(a.rows.map (Xr (lvs a).length)).take j++[Xr (lvs a).length [y0,y1,y2,y3]]=(a.rows.map (Xr (lvs a).length)).take (j+1):=by rw[List.take_add_one,List.getElem?_map,List.getElem?_eq_getElem lj,hy];rfl
   rw[cj]at ca;refine ρ ?_;exact Qy (j+1) vr' sO ⟨lj,Js (J.trans (ax.trans G)) U λq e=>(bf q e).1,ca.old RfC.sta λq D=>.inl (D.elim (λD=>.inl (.inl D)) λD=>(ad q D).elim (λD=>.inl (.inr D)) .inr)⟩ om
  have es:j=a.rows.length:=by have:=oF F;omega
  subst es;clear F hj;rw[show a.rows.length=(a.rows.map (Xr (lvs a).length)).length by simp,List.take_length]at bg;obtain⟨RR,g1,eR,_,bf⟩:=id bg.form;subst eR;have ck:(a.rows.map (Xr (lvs a).length)).length<=12:=by simp;omega
  have f8:=Jyd bg om;have fr:Ext w1 w5:=a3.trans J;refine ρ ?_;refine cl (Jhd f8) ?_;rintro _ w6 ⟨aa,rv,e,rfl,⟨z,B,m',d',rfl⟩,eg,ef⟩;obtain rfl:e=0:=eg om (λr hr=>by
   obtain⟨y,hy,rfl⟩:=List.mem_map.1 hr;exact⟨Jqr _ _,Qcw _ _⟩) om
  obtain⟨_,_,m,en,em,ek,ej⟩:=ef rfl;have d7:=ej (.inl ck);refine ρ ?_;refine alc Yo ?_;intro w7 b7 cg ey d4;refine ρ ?_;refine stb (cs':=[.int .i64 z,.slice B m' d']) d4 ?_ (λu Z=>by
   simp only[List.mem_cons,List.not_mem_nil,or_false]at Z;rcases Z with rfl|rfl<;>rfl)
  intro w8 d3 g9 cd;have a9:Ext w6 w8:=cd w6 cg ey;refine ρ ?_;refine ld ((((bz.ext a8).ext J).ext (aa.trans a9)).at (i:=2) rfl) ?_;refine ρ ?_;refine Qjj (fun (v':Value)=>[(0,.slice A l.length c),(6,vo),(7,vm),(8,va),(11,v'),(18,.pointer (some ⟨b7,0,none⟩)),(20,.int .i64 ((lvs a).length:Int)),(21,.slice A l.length c),(22,.int .i64 (l.length:Int)),(23,.int .i64 (k:Int))])
   (λv' w'=>GrN (λq=>(Value.slice VA (lvs a).length vc).ownBlock=some q) w8 w'/\w'.ownsRow w3.heap.size 3 1 v' (Qc a).length (Jp (Qc a))) ?_ ?_
  .have bw:Qz w8 w3.heap.size (.slice VA (lvs a).length vc) (lvs a):=Jc aw (J.trans (aa.trans a9));have ak:w3.heap.size<=w8.heap.size:=(a8.trans (J.trans (aa.trans a9))).size;have d8:∀(ls:List Nat) (x:Nat),nz (ls++[x])=nz ls++[(x:Int)]:=λls x=>by simp[nz]
   refine ρ ?_;refine ci (λF=>?_) (λF=>?_)
   .have h0:a.bad=0:=by have:=eq_of_beq F;omega
    have ah:Qc a=nz (lvs a):=by rw[Qc,if_pos h0]
    refine ρ ?_;exact Jr _ sB ⟨GrN.refl _ _,by rw[ah,Ju];exact bw⟩
   have h0:a.bad≠0:=λe=>by rw[e]at F;revert F;decide
   clear F;refine ρ ?_;refine ci (λF=>?_) (λF=>?_)
   .have h1:a.bad=1:=by have:=eq_of_beq F;omega
    have ah:Qc a=nz (lvs a++[9]):=by rw[Qc,if_neg h0,if_pos h1,d8];rfl
    refine ρ ?_;refine bsl (Gk _) ?_;intro w9 b9 O br af;refine ρ ?_;refine apI (z:=9) (Jc bw O) af om (nL ak O.size) ?_;intro v' a7 a5 ae c7;refine ρ ?_;exact Jr v' sB ⟨(GrN.ext O).trans (GrN.by ae λq e=>e),by rw[ah,Ju];exact a5⟩
   have h1:a.bad≠1:=λe=>by rw[e]at F;revert F;decide
   clear F;refine ρ ?_;refine ci (λF=>?_) (λF=>?_)
   .have h2:a.bad=2:=by have:=eq_of_beq F;omega
    have ah:Qc a=nz (lvs a++[0]):=by rw[Qc,if_neg h0,if_neg h1,if_pos h2,d8];rfl
    refine ρ ?_;refine bsl (Gk _) ?_;intro w9 b9 O br af;refine ρ ?_;refine apI (z:=0) (Jc bw O) af om (nL ak O.size) ?_;intro v' a7 a5 ae c7;refine ρ ?_;exact Jr v' sB ⟨(GrN.ext O).trans (GrN.by ae λq e=>e),by rw[ah,Ju];exact a5⟩
   have h2:a.bad≠2:=λe=>by rw[e]at F;revert F;decide
   clear F;have ah:Qc a = -1::nz (lvs a):=by rw[Qc,if_neg h0,if_neg h1,if_neg h2]
   refine ρ ?_;refine bsl (Gk _) ?_;intro w9 b9 O br af;refine ρ ?_;refine apb (base:=w3.heap.size) (m:=1) (m':=(lvs a).length) (xs:=[.int .i64 (-1)]) (news:=Jp (nz (lvs a))) EI (af.own (n:=1) (nL ak br) rfl (by decide)) (Rd.own (Jc bw O)) (λu Z=>by
    obtain⟨x,_,rfl⟩:=List.mem_map.1 Z;rfl) (by unfold maxLen;omega) om (nL ak O.size) ?_
   intro v' a7 a5 ae c7;refine ρ ?_;exact Jr v' sB ⟨(GrN.ext O).by2 ae λq e=>.inl (by injection e with e;rw[<-e];exact br),by
    rw[ah,List.length_cons,Ju,Nat.add_comm];exact a5⟩
  rintro vv w9 ⟨co,cq⟩;have bn:∀ q,(Value.slice VA (lvs a).length vc).ownBlock=some q->w3.heap.size<=q/\q<w4.heap.size:=λq e=>f5 q e;have c2:Ext w3 w9:=co.old (a8.trans (J.trans (aa.trans a9))) λq e=>(bn q e).1;have af:=Ja d3 co λe=>by
   have:=(bn b7 e).2;have:=J.size;have:=aa.size;omega
  have ft:(Qc a).length<=9:=by
   unfold Qc;split
   .rw[Ju];omega
   split
   .rw[List.length_append,Ju];simp;omega
   split
   .rw[List.length_append,Ju];simp;omega
   rw[List.length_cons,Ju];omega
  obtain⟨VV,au,ff,c5,be⟩:=Jy cq;subst ff;have a2:Ext w1 w9:=b1.trans c2;have fn:=b1.size;have fk:=c2.size;have am:∀ q,NM w.heap.size vo vm va q->q<w1.heap.size:=λq D=>by
   rcases D with D|D|D|D
   .exact nM D a4.size
   .obtain⟨_,_,_,_,h3⟩:=id bj.form;exact(h3 q D).2
   .obtain⟨_,_,_,_,h3⟩:=id bm.form;exact(h3 q D).2
   obtain⟨_,_,_,_,h3⟩:=Jy av;exact(h3 q D).2
  have da:GrN (λq=>q<w5.heap.size) w6 w9:=(GrN.ext a9).trans (co.mono λq _ e=>by have:=(bn q e).2;have:=J.size;omega);have fj:=J.size;have fm:=a3.size;have b3:∀ {v:World} {N':Nat->Prop},Ext w9 v->(∀ q,N' q->q<w1.heap.size∨v.heap.size<=q)->Off N' v λu=>RelV u (.agg #[.int .i64 z,.slice B m' d']) (lvs a).length m:=λhy hN=>(en.gr (da.trans (GrN.ext hy))).old' λq D=>(hN q D).imp (λh=>om) id;have ba:∀ {v:World} {N':Nat->Prop},Ext w9 v->(∀ q,N' q->q<w1.heap.size∨v.heap.size<=q)->Off N' v λu=>IntsV u (.slice VV (Qc a).length au) (Qc a):=fun {v N'} hy hN v' hg=>by
   refine⟨VV,au,rfl,c5,om,Rd.own (Jo (Jc cq hy) hg λg bb hk=>?_)⟩;have h1:=be g bb;have h2:=hy.size;rcases hN g hk with h|h
   .omega
   omega
  refine ρ ?_;refine lds (cs:=[.int .i64 z,.slice B m' d']) (λj u Z=>af.at Z) ?_;refine ρ ?_;refine bld (Jss _ _ _ _ _ _ _ _) ?_;refine ρ ?_;refine bsl (λw=>Jsm _ _ _ _ _ _ _ _ _ _ rfl rfl rfl w) ?_;intro a7 du G c9 ag;have cw:=(bj.ext AtC.sta (a2.trans G)).old AtC.sta (N':=λq=>NM w.heap.size vo vm va q∨a7.heap.size<=q) λq D=>D;have g2:(l.zipWith atm ms).length<=1048576:=by simp;omega
  refine ρ ?_;refine apX EA AtC.sta cw ag rfl (λu Z=>by
   simp only[List.mem_cons,List.not_mem_nil,or_false]at Z;rcases Z with rfl|rfl|rfl<;>rfl) (a:=atm a m) ⟨(.slice VV (Qc a).length au,.int .i64 z,.slice B m' d'),rfl,λv' hg=>?_⟩ (λg hg=>.inl (.inr (.inl hg))) om (by decide) (nL a4.size (a2.trans G).size) ?_
  .have dj:∀ q,(NM w.heap.size vo vm va q∨a7.heap.size<=q)->q<w1.heap.size∨a7.heap.size<=q:=λq D=>D.imp (am q) id;obtain⟨rv,aj,ee⟩:=b3 G dj v' hg;injection aj with aj
   injection aj with aj
   injection aj with e1 aj
   injection aj with e2 _
   exact⟨ba G dj v' hg,e1,by rw[e2];exact ee⟩
  intro a1 bp bi U ad;have an:∀ q,vo.ownBlock=some q->q<w1.heap.size:=λq e=>am q (.inr (.inl e));have bd:GrN (λq=>q<w1.heap.size) a7 bp:=GrN.by U an
  have dg:=(b3 (N':=λq=>q<w1.heap.size) G λq D=>.inl D).gr bd;have fx:=(ba (N':=λq=>q<w1.heap.size) G λq D=>.inl D).gr bd;have fq:=G.size;have fp:=U.size;have ds:=(af.ext G).grown U λe=>by
   have:=an b7 e.symm;have:=J.size;have:=aa.size;omega
  refine ρ ?_;refine lds (cs:=[.int .i64 z,.slice B m' d']) (λj u Z=>ds.at Z) ?_;refine ρ ?_;refine cl (Jvt dg.here) ?_;rintro fg d6 ⟨c3,dh⟩;refine ρ ?_;refine cl (Jhb dh.off.here (λr hr=>by
   obtain⟨y,_,rfl⟩:=List.mem_map.1 (ek r hr);rw[Jqr];omega)) ?_
  rintro rf g0 ⟨cc,az⟩;obtain⟨FA,fc,eF,gc,dl⟩:=id cc.form;subst eF;refine ρ ?_;refine bld (Jsq _ _ _ _ _ _ _) ?_;refine ρ ?_;refine bsl (bs1RA _ _ _ _ _ _) ?_;intro a6 gg ay fw dq;have ac:=c3.trans (az.trans ay);have fo:=c3.size;have e5:=az.size;have e4:=ay.size;obtain⟨_,_,cb⟩:=(bj.ext AtC.sta (a2.trans G)).own;obtain⟨_,_,dd⟩:=(bm.ext RaC.sta (a2.trans G)).own;have d2:=Jc av (a2.trans G);have d1:=Jc (Zq d2 cb U rfl) ac;have cz:=((((bm.ext RaC.sta (a2.trans G)).old RaC.sta (N':=λq=>NM w.heap.size vo vm va q∨a1.ownBlock=some q) λq D=>D.elim .inl λD=>(ad q D).imp (λh=>.inr (.inl h)) id).gr RaC.sta (GrN.by U λq e=>e) (M:=λq=>vo.ownBlock=some q) λq D=>⟨.inl (.inr (.inl D)),Ub cb dd rfl D⟩).ext RaC.sta ac);have cv:=(bi.old AtC.sta (N':=λq=>NM w.heap.size vo vm va q∨a1.ownBlock=some q) λq D=>.inl (D.elim .inl λD=>(ad q D).imp (λh=>.inr (.inl h)) id)).ext AtC.sta ac;have f9:∀ q,(NM w.heap.size vo vm va q∨a1.ownBlock=some q)->q<bp.heap.size:=λq D=>by
   rcases D with D|D
   .have:=am q D;omega
   obtain⟨_,_,_,_,h3⟩:=id bi.form;exact(h3 q D).2
  have ar:=cz.old RaC.sta (N':=λq=>(NM w.heap.size vo vm va q∨a1.ownBlock=some q)∨a6.heap.size<=q) λq D=>D;have ap:=cv.old AtC.sta (N':=λq=>(NM w.heap.size vo vm va q∨a1.ownBlock=some q)∨a6.heap.size<=q) λq D=>D;have fh:(l.zipWith rat' ms).length<=1048576:=by simp;omega
  have dk:Off (λq=>(NM w.heap.size vo vm va q∨a1.ownBlock=some q)∨a6.heap.size<=q) a6 λu=>IntsV u (.slice VV (Qc a).length au) (Qc a):=λv' hg=>by
   have fe:=Jo (Jc cq G) (GrN.by U λq e=>e) λg bb hk=>by
    have:=(be g bb).1;have:=an g hk;omega
   refine⟨VV,au,rfl,c5,om,Rd.own (Jo (Jc fe ac) hg λg bb hk=>?_)⟩;have h1:=be g bb;rcases hk with(hk|hk)|hk
   .have:=am g hk;omega
   .rcases ad g hk with h|h
    .have:=an g h;omega
    omega
   omega
  have dm:Off (λq=>(NM w.heap.size vo vm va q∨a1.ownBlock=some q)∨a6.heap.size<=q) a6 λu=>RowsV u (.slice FA m.length fc) m:=λv' hg=>by
   refine Jyd (((cc.ext RfC.sta ay).old RfC.sta (N':=λq=>Ov d6 (.slice FA m.length fc) q∨a6.heap.size<=q) λq D=>D).gr RfC.sta hg λq D=>?_) om;rcases D with D|D
   .have:=f9 q D;exact⟨.inl (.inl (show q<d6.heap.size by omega)),λe=>by have:=(dl q e).1;omega⟩
   exact⟨.inr D,λe=>by have:=(dl q e).2;omega⟩
  refine ρ ?_;refine apX ERA RaC.sta ar dq rfl (λu Z=>by
   simp only[List.mem_cons,List.not_mem_nil,or_false]at Z;rcases Z with rfl|rfl<;>rfl) (a:=rat' a m) ⟨.slice VV (Qc a).length au,.slice FA m.length fc,rfl,λv' hg=>⟨dk v' hg,dm v' hg⟩⟩ (λg hg=>.inl (.inl (.inr (.inr (.inl hg))))) om (by decide) (by have:=a4.size;omega) ?_
  intro dz fz cy ao d9;obtain⟨_,_,aq⟩:=ar.own;obtain⟨_,_,bu⟩:=ap.own;have d0:=Zq d1 aq ao rfl;have cu:=ap.gr AtC.sta (GrN.by ao λq e=>e) (M:=λq=>vm.ownBlock=some q) λq D=>⟨.inl (.inl (.inr (.inr (.inl D)))),Ub aq bu rfl D⟩;have fl:=ao.size;refine ρ ?_;refine bsl (Gk _) ?_;intro fy gf ab fu dn;have ai:=Jc d0 ab;refine ρ ?_;refine apI (z:=(lvs a).length) ai dn (by rw[List.length_take];omega) (by have:=a4.size;have:=ab.size;omega) ?_;intro bq dw bo bc c6;have cj:(l.map λa=>(lvs a).length).take k++[(lvs a).length]=(l.map λa=>(lvs a).length).take (k+1):=by rw[List.take_add_one,List.getElem?_map,List.getElem?_eq_getElem lk,ha];rfl
  rw[cj]at bo;have bh:=(cu.ext AtC.sta ab).old AtC.sta (N':=λq=>((NM w.heap.size vo vm va q∨a1.ownBlock=some q)∨a6.heap.size<=q)∨bq.ownBlock=some q) λq D=>D.elim .inl λD=>(c6 q D).imp (λh=>.inl (.inl (.inr (.inr (.inr h))))) id;have bl:=(cy.ext RaC.sta ab).old RaC.sta (N':=λq=>((NM w.heap.size vo vm va q∨a1.ownBlock=some q)∨a6.heap.size<=q)∨bq.ownBlock=some q) λq D=>D.elim .inl λD=>(c6 q D).imp (λh=>.inl (.inl (.inr (.inr (.inr h))))) id;obtain⟨_,_,bt⟩:=bh.own;obtain⟨_,_,bv⟩:=bl.own;have cr:=bh.gr AtC.sta (GrN.by bc λq e=>e) (M:=λq=>va.ownBlock=some q) λq D=>⟨.inl (.inl (.inl (.inr (.inr (.inr D))))),Ub ai bt rfl D⟩;have cx:=bl.gr RaC.sta (GrN.by bc λq e=>e) (M:=λq=>va.ownBlock=some q) λq D=>⟨.inl (.inl (.inl (.inr (.inr (.inr D))))),Ub ai bv rfl D⟩;have di:∀ q,NM w.heap.size a1 dz bq q->(((NM w.heap.size vo vm va q∨a1.ownBlock=some q)∨a6.heap.size<=q)∨bq.ownBlock=some q):=λq D=>by
   rcases D with D|D|D|D
   .exact .inl (.inl (.inl (.inl D)))
   .exact .inl (.inl (.inr D))
   .exact .inl ((d9 q D).imp (λh=>.inl (.inr (.inr (.inl h)))) id)
   exact .inr D
  have b4:∀ q,(vo.ownBlock=some q∨vm.ownBlock=some q∨va.ownBlock=some q)->w.heap.size<=q:=λq D=>by
   rcases D with D|D|D
   .obtain⟨_,_,_,_,h3⟩:=id bj.form;exact(h3 q D).1
   .obtain⟨_,_,_,_,h3⟩:=id bm.form;exact(h3 q D).1
   obtain⟨_,_,_,_,h3⟩:=Jy av;exact(h3 q D).1
  have ch:Ext w dw:=Js ((Js ((Js (a4.trans (a2.trans G)) U λq e=>b4 q (.inl e)).trans ac) ao λq e=>b4 q (.inr (.inl e))).trans ab) bc λq e=>b4 q (.inr (.inr e));have c0:∀ {β:Type} (f:LA->List Row->β),l.zipWith f (ms++[m])=l.zipWith f ms++[f a m]:=λf=>by
   have e1:l=l.take k++l[k]::l.drop (k+1):=by rw[<-List.drop_eq_getElem_cons lk,List.take_append_drop]
   have e2:(l.take k).length=ms.length:=by rw[List.length_take];omega
   have e3:l.zipWith f ms=(l.take k).zipWith f ms:=by
    conv=>lhs;rw[e1]
    have:=List.zipWith_append (f:=f) (l₁:=l.take k) (l₁':=l[k]::l.drop (k+1)) (l₂:=ms) (l₂':=[]) e2;rw[List.append_nil,List.zipWith_nil_right,List.append_nil]at this;exact this
   rw[e3];conv=>lhs;rw[e1]
   rw[List.zipWith_append e2,ha];simp
  refine ρ ?_;refine Yz (k+1) _ _ _ sO ⟨lk,ch,λi h hi=>?_,bo,ms++[m],by simp[cn],λi h1 h2=>?_,by rw[c0];exact cr.old AtC.sta λq D=>.inl (di q D),by rw[c0];exact cx.old RaC.sta λq D=>.inl (di q D)⟩ om
  .by_cases e:i=k
   .subst e;rw[ha];exact⟨om,dt⟩
   exact c8 i h om
  by_cases e:i=k
  .subst e;rw[ha,List.getElem_append_right om];simp only[cn,Nat.sub_self,List.getElem_cons_zero];exact⟨d7,em⟩
  rw[List.getElem_append_left (by simp at h2;omega)];exact df i h1 (by simp at h2;omega)
 have er:k=l.length:=by have:=oF F;omega
 clear F;subst er;rw[show l.length=(l.map λa=>(lvs a).length).length by simp,List.take_length]at av;obtain⟨NA,nc,eN,ei,_⟩:=Jy av;subst eN;have e6:decide ((l.length:Int)<=6)=decide (l.length<=6):=decide_eq_decide.2 om;refine ρ ?_;rw[e6];refine fin4 ⟨a4,.inl ⟨λa ha=>?_,vo,vm,_,ms,rfl,cn,df,bj.gx AtC.sta (by simp;omega) λq D=>False.elim D,bm.gx RaC.sta (by simp;omega) λq D=>False.elim D,?_⟩⟩
 .obtain⟨i,hi,rfl⟩:=List.getElem_of_mem ha;exact c8 i hi hi
 refine⟨NA,nc,by rw[Ju],by rw[Ju];exact ei,by rw[Ju];simp;omega,?_⟩;have:=Rd.own av;rwa [Ju]
open Go.RowKit Pl Go.Wk Bl
theorem zRA: Qu Tryz.prog 46=some (.agg #[.slice none 0 0,.slice none 0 0]):=kr
theorem Qdn{w:World}{t:V3}{a:Atm}(h:AtV w t a)(hl:∀ r∈a.rows,r.length<=100000)(hm:a.rows.length<=1100000): Ret Tryz.prog 18 [.agg t.cells.toArray] w λu w'=>∃ v1 v2,u=.agg #[v1,v2]/\IntsV w' v1 a.vars/\RowsV w' v2 a.rows/\Ext w w':=by
 obtain⟨v1,v2,v3⟩:=t;obtain⟨hv,e2,hr⟩:=h;simp only at hv e2 hr;subst e2;obtain⟨A,c,rfl,_⟩:=id hv;obtain⟨ps,B,d,eL,rfl,_⟩:=id hr;refine Jz Tryz.func18 Tryz.ntmps18 rfl kr rfl ?_;refine ρ ?_;refine bx (cs:=[.slice A a.vars.length c,.int .i64 (a.ar:Int),.slice B ps.length d]) ?_;intro w1 b1 a1 ae ab;refine ρ ?_;refine alc zRA ?_;intro w2 b2 Z a7 a4;have F:Ext w2 w2.drew:=(Ext.refl w2).drew;have J:=a1.trans (Z.trans F);have D:=(ab.ext Z).ext F;refine ρ ?_;refine dr [(0,0),(0,1),(0,2),(0,3),(1,4),(1,5),(0,6),(2,7)] kr ?_;refine ρd ?_;refine dld (D.at (i:=0) rfl) ?_;refine ρd ?_;refine Qj (cs:=[.int .i64 (a.ar:Int),.slice B ps.length d]) (λj u y=>match j,y with
  | 0,y=>by injection y with y;subst y;exact D.at (i:=1) rfl
  | 1,y=>by injection y with y;subst y;exact D.at (i:=2) rfl
  | j+2,y=>by cases y) ?_
 refine ρd ?_;refine dcl (Jvt (ar:=a.ar) (ls:=a.rows) ⟨.slice B ps.length d,rfl,hr.ext J⟩) ?_;rintro ac w3 ⟨G,a8⟩;refine⟨G,?_⟩;refine ρd ?_;refine dcl (Jhb a8.off.here hl) ?_;rintro rf w4 ⟨a2,U⟩;refine⟨U,?_⟩;obtain⟨FA,fc,eF,_,a9⟩:=id a2.form;subst eF;refine ρd ?_;refine dbld (λw=>Jsq _ _ _ _ _ _ w) ?_;refine ρd ?_;refine Jf ?_;have a3:=(a4.ext F).ext (G.trans U);refine stb (cs':=[.slice A a.vars.length c,.slice FA a.rows.length fc]) a3 ?_ (λu y=>by
  simp only[List.mem_cons,List.not_mem_nil,or_false]at y;rcases y with rfl|rfl<;>rfl)
 intro w5 aa a6 a5;have O:Ext w w5:=a5 w (J.trans (G.trans U)) (nL a1.size a7);have ad:=a4.lt;have z1:=F.size;have z3:=G.size;refine ρ ?_;refine Zb aa ⟨_,_,rfl,hv.ext O,Jyd (a2.gr RfC.sta (GrN.by a6 λq e=>e) (M:=λq=>some b2=some q) λq hq=>?_) hm,O⟩;injection hq with hq
 subst hq;exact⟨.inl om,λe=>by have:=(a9 b2 e).1;omega⟩
end Go.Proofs.YtebiphhfkdbpfaaGreat
namespace Go.Proofs.YtebiphhfkdbpfaaGreat
open Pl Go.Wk
variable {a b v1 v2:List Nat}{l out r1 r2:List Row}{n s:Nat}{kn z:Row}
structure PA where
 vs: List Nat
 rs:List Row
def Agr1(vs:List Nat)(x kn:Row): Prop:=∀ j,j<vs.length->vs.getD j 0<kn.length->x.getD j V0=kn.getD (vs.getD j 0) V0
def Alw(a:PA)(kn:Row): Prop:=∃ x∈a.rs,Agr1 a.vs x kn
def AnsP(l:List PA)(n:Nat)(kn z:Row): Prop:=z.length=n/\kn <+: z/\∀ a∈l,Alw a z
def JnS(l:List PA)(n:Nat)(kn:Row)(out:List Row): Prop:=Lt [] out/\∀ z,z∈out↔AnsP l n kn z
theorem Jzr{α:Type}: ∀ {l m:List α},l.Nodup->(∀ x∈l,x∈m)->l.length<=m.length
 | [],_,_,_=>Nat.zero_le _
 | x::l,m,hn,hs=>by
  obtain⟨a,b,rfl⟩:=List.append_of_mem (hs x mC);have hn':=List.nodup_cons.1 hn;have:=Jzr (l:=l) (m:=a++b) hn'.2 λy hy=>by grind
  grind
theorem Jyq{ds:List Bool}(h:Lt ds l): l.Nodup:=h.imp fun {a b} hab e=>by grind [Yc]
def D4(x:V): Prop:=x∈([⟨1,0,⟨#[]⟩⟩,⟨1,1,⟨#[]⟩⟩,⟨1,2,⟨#[]⟩⟩,⟨1,3,⟨#[]⟩⟩]:List V)
def Gd: Nat->List Row
 | 0=>[[]]
 | n+1=>(Gd n).flatMap λr=>[(⟨1,0,⟨#[]⟩⟩:V)::r,⟨1,1,⟨#[]⟩⟩::r,⟨1,2,⟨#[]⟩⟩::r,⟨1,3,⟨#[]⟩⟩::r]
theorem Jgw: ∀ n,(Gd n).length=4^n
 | 0=>rfl
 | n+1=>by
  rw[Gd,Nat.pow_succ,<-Jgw n];generalize Gd n=l
  induction l with
  | nil=>rfl
  | cons r l ih=>rw[List.flatMap_cons,List.length_append,ih,List.length_cons];simp;omega
theorem Jgv: ∀(n:Nat) (z:Row),z.length=n->(∀ x∈z,D4 x)->z∈Gd n
 | 0,[],_,_=>by simp[Gd]
 | n+1,x::z,h,hd=>by
  have ih:=Jgv n z (by simpa using h) λy hy=>hd y (List.mem_cons_of_mem _ hy);have hx:=hd x mC;rw[Gd,List.mem_flatMap];refine⟨z,ih,?_⟩;unfold D4 at hx;simp only[List.mem_cons,List.not_mem_nil,or_false]at hx ⊢;rcases hx with rfl|rfl|rfl|rfl<;>simp
theorem Qcv(h:Lt [] l)(hl:∀ z∈l,z.length=n/\∀ x∈z,D4 x): l.length<=4^n:=by
 rw[<-Jgw n];exact Jzr (Jyq h) λz i=>Jgv n z (hl z i).1 (hl z i).2
structure SmP(l:List PA)(n:Nat): Prop where
 lt:∀ a∈l,∀ v∈a.vs,v<n
 len:∀ a∈l,∀ r∈a.rs,r.length=a.vs.length
 d4:∀ a∈l,∀ r∈a.rs,∀ x∈r,D4 x
 cov:∀ v,v<n->∃ a∈l,v∈a.vs
theorem SmP.ans{l:List PA}(h:SmP l n)(hz:AnsP l n kn z): ∀ x∈z,D4 x:=by
 intro x U;obtain⟨i,hi,rfl⟩:=List.getElem_of_mem U;obtain⟨a,F,Z⟩:=h.cov i (by rw[<-hz.1];exact hi);obtain⟨j,D,e⟩:=List.getElem_of_mem Z;obtain⟨y,J,hg⟩:=hz.2.2 a F;have O:a.vs.getD j 0=i:=by rw[List.getD,List.getElem?_eq_getElem D];exact e
 have G:=hg j D (by rw[O];exact hi);have u:j<y.length:=by rw[h.len a F y J];exact D
 rw[O,List.getD,List.getD,List.getElem?_eq_getElem hi,List.getElem?_eq_getElem u]at G;simp only[Option.getD_some]at G;rw[<-G];exact h.d4 a F y J _ (List.getElem_mem u)
theorem SmP.cnt{l:List PA}(h:SmP l n)(hj:JnS l n kn out): out.length<=4^n:=Qcv hj.1 λz i=>⟨((hj.2 z).1 i).1,h.ans ((hj.2 z).1 i)⟩
def JoinS(l:List PA)(vs:List Nat)(rows:List Row): Prop:=Qo vs/\(∀ v,v∈vs↔∃ a∈l,v∈a.vs)/\Lt [] rows/\∀ z,z∈rows↔∃ x:Nat->V,z=vs.map x/\∀ a∈l,a.vs.map x∈a.rs
def MatS(l:List PA)(s:Nat)(rows:List Row): Prop:=Lt [] rows/\∀ z,z∈rows↔∃ x:Nat->V,z=(bk s 32).map x/\∀ a∈l,∃ r∈a.rs,∀ j,j<a.vs.length->s.testBit (a.vs.getD j 0)=true->r.getD j V0=x (a.vs.getD j 0)
theorem MatS.uniq{l:List PA}(h1:MatS l s r1)(h2:MatS l s r2): r1=r2:=Ux h1.1 h2.1 λz=>(h1.2 z).trans (h2.2 z).symm
theorem Qnh(ha:Qo a)(hb:Qo b)(h:∀ u,u∈a↔u∈b): a=b:=by
 induction a generalizing b with
 | nil=>
  cases b with
  | nil=>rfl
  | cons y b=>exact absurd ((h y).2 mC) (by simp)
 | cons x a ih=>
  cases b with
  | nil=>exact absurd ((h x).1 mC) (by simp)
  | cons y b=>
   have D:=List.pairwise_cons.1 ha;have j:=List.pairwise_cons.1 hb;have F:x=y:=by
    rcases List.mem_cons.1 ((h x).1 mC) with e|e
    .exact e
    rcases List.mem_cons.1 ((h y).2 mC) with e2|e2
    .exact e2.symm
    have:=D.1 _ e2;have:=j.1 _ e;omega
   subst F;rw[ih D.2 j.2 λu=>?_];have:=h u;constructor
   .intro i;rcases List.mem_cons.1 (this.1 (List.mem_cons_of_mem _ i)) with e|e
    .have:=D.1 _ i;omega
    exact e
   intro i;rcases List.mem_cons.1 (this.2 (List.mem_cons_of_mem _ i)) with e|e
   .have:=j.1 _ i;omega
   exact e
theorem JoinS.vuniq{l m:List PA}(h1:JoinS l v1 r1)(h2:JoinS m v2 r2)(h:∀ v,(∃ a∈l,v∈a.vs)↔∃ a∈m,v∈a.vs): v1=v2:=Qnh h1.1 h2.1 λv=>by rw[h1.2.1,h2.2.1,h]
theorem JoinS.uniq{l m:List PA}(h1:JoinS l v1 r1)(h2:JoinS m v2 r2)(h:∀ v,(∃ a∈l,v∈a.vs)↔∃ a∈m,v∈a.vs)(hx:∀ x:Nat->V,(∀ a∈l,a.vs.map x∈a.rs)↔∀ a∈m,a.vs.map x∈a.rs): v1=v2/\r1=r2:=by
 have e:=h1.vuniq h2 h;subst e;refine⟨rfl,Ux h1.2.2.1 h2.2.2.1 λz=>?_⟩;rw[h1.2.2.2,h2.2.2.2];exact exists_congr λx=>and_congr Iff.rfl (hx x)
end Go.Proofs.YtebiphhfkdbpfaaGreat
namespace Go.Wk
open Go.RowKit
variable {c' d m' n ty:Nat}{v z:Value}
theorem apXs{P:Program}{al:AL}{w:World}{Q:Exit->Act->World->Prop}{ops:Array Oper}{rest:List Oper}{pos:String}{aft:Array Edge}{α:Type}{t E sz bytes base:Nat}(hE:ElT P t E sz bytes z){Φ:(Nat->Prop)->World->List Value->α->Prop}(hΦ:Sta Φ){N N':Nat->Prop}{x y:Operand}{ls ms:List α}{A:Option Addr}(ho:OX E sz Φ N w base v ls)(hs:GX sz Φ N' w (.slice A m' c') ms)(h1:∀ cs a,Φ N' w cs a->∀ u∈cs,u.oneCell'=true)(hN:∀ k,N k->N' k∨w.heap.size<=k)(hv:∀ g,v.ownBlock=some g->N g)(hm:ls.length<=1100000)(hby:bytes<=64)(hbase:base<=w.heap.size)(kk:∀ v' w',OX E sz Φ N w' base v' (ls++ms)->w.grownBy w' v.ownBlock->(∀ g,v'.ownBlock=some g->v.ownBlock=some g∨w.heap.size<=g)->WL P n ops Q rest ((d,v')::al) w')(hx:ev al x=some v:=by rfl)(hy:ev al y=some (.slice A m' c'):=by rfl)(hd:Nat.blt d n=true:=by rfl):
  WL P n ops Q (⟨some d,.call { callee:=.builtin .append,args:=#[x,y],argTypes:=#[t,t] },ty,pos,aft,none⟩::rest) al w:=by
 obtain⟨ps,e,hr,Z⟩:=ho;obtain⟨⟨j,A2,c2,e2,e3,e4,e5,F,G⟩,hn⟩:=hs;injection e3 with e6 e7 e8
 subst e6;subst e7;subst e8;have a1:ps.length<=1100000:=by
  have:=congrArg List.length e;rw[List.length_map]at this;omega
 have a2:(ps.length+j.length)*bytes<=2200000*64:=Nat.mul_le_mul om hby;refine apb hE hr F (λu hu=>?_) (by unfold maxLen;omega) om hbase ?_ hx hy hd
 .obtain⟨p,J,D⟩:=List.mem_flatMap.1 hu;exact h1 _ _ (G p J).2 u D
 intro v' w' O hg U;refine kk v' w' ⟨ps++j,by rw[e,e2];simp,?_,λp hm=>?_⟩ hg U
 .have e9:Jd (ps++j)=Jd ps++Jd j:=by simp[Jd]
  rw[List.length_append,e9];exact O
 have i:GrN N w w':=GrN.by hg hv
 rcases List.mem_append.1 hm with h'|h'
 .exact⟨(Z p h').1,hΦ.gr (Z p h').2 i⟩
 exact⟨(G p h').1,hΦ.gr (hΦ.old (G p h').2 hN) i⟩
end Go.Wk
namespace Go.Proofs.YtebiphhfkdbpfaaGreat
open Go.RowKit Pl Go.Wk Bl
attribute [local irreducible] WC WL QX WD WDB WP WN WG WH
variable {l ls m:List Row}{N:Nat->Prop}{r x:Row}{a b:V}{v va vb:Value}{w:World}
def NoS(r:Row): Prop:=∀ x∈r,x.str=⟨#[]⟩
theorem NoS.at(h:NoS r)(i:Nat): (r.getD i V0).str=⟨#[]⟩:=by
 rcases Nat.lt_or_ge i r.length with hi|hi
 .rw[List.getD,List.getElem?_eq_getElem hi];exact h _ (List.getElem_mem hi)
 rw[List.getD,List.getElem?_eq_none hi];rfl
theorem Qwh(w:World): Ret Tryz.prog 145 [.string ⟨#[]⟩,.string ⟨#[]⟩] w λu w'=>u=.int .i64 0/\w'=w:=by
 refine Jz Tryz.func145 Tryz.ntmps145 rfl kr rfl ?_;refine ρ ?_;refine Jh (fun (i:Nat)=>[(0,.string ⟨#[]⟩),(1,.string ⟨#[]⟩),(5,.int .i64 0)]) (λi w'=>w'=w) (λi=>i) 0 sB rfl ?_;rintro i w1 rfl;refine ρ ?_;exact Jq ⟨rfl,rfl⟩
theorem Qlj(ha:a.str=⟨#[]⟩)(hb:b.str=⟨#[]⟩): cmpV a b=if a.kind≠b.kind then(if a.kind<b.kind then -1 else 1) else if a.num≠b.num then(if a.num<b.num then -1 else 1) else 0:=by
 have j:a.bytes=[]:=by unfold V.bytes;rw[ha]
 have i:b.bytes=[]:=by unfold V.bytes;rw[hb]
 unfold cmpV sgn;rw[j,i];have:Lib.compareBytes [] []=0:=rfl;rw[this];grind
theorem Qwj(ha:a.str=⟨#[]⟩)(hb:b.str=⟨#[]⟩)(w:World): Ret Tryz.prog 116 [.agg a.cells.toArray,.agg b.cells.toArray] w λu w'=>u=.int .i64 (cmpV a b)/\Ext w w':=by
 refine Jz Tryz.func116 Tryz.ntmps116 rfl kr rfl ?_;refine ρ ?_;refine bx (cs:=a.cells) ?_;intro w1 b1 O a2 j;refine ρ ?_;refine bx (cs:=b.cells) ?_;intro w2 b2 G a1 y;have j:=j.ext G;have J:=O.trans G;have D:=Qlj ha hb;refine ρ ?_;refine ld (j.at (i:=0) rfl) ?_;refine ρ ?_;refine ld (y.at (i:=0) rfl) ?_;refine ρ ?_;refine ci (λh=>?_) (λh=>?_)
 .have F:a.kind≠b.kind:=by simpa using h
  rw[if_pos F]at D;refine ρ ?_;refine ld (j.at (i:=0) rfl) ?_;refine ρ ?_;refine ld (y.at (i:=0) rfl) ?_;refine ρ ?_;refine ci (λh=>?_) (λh=>?_)
  .have:=oT h;refine ρ ?_;exact Jq ⟨by rw[D,if_pos this],J⟩
  have:=oF h;refine ρ ?_;exact Jq ⟨by rw[D,if_neg this],J⟩
 have Z:¬ a.kind≠b.kind:=by simpa using h
 rw[if_neg Z]at D;refine ρ ?_;refine ld (j.at (i:=1) rfl) ?_;refine ρ ?_;refine ld (y.at (i:=1) rfl) ?_;refine ρ ?_;refine ci (λh=>?_) (λh=>?_)
 .have F:a.num≠b.num:=by simpa using h
  rw[if_pos F]at D;refine ρ ?_;refine ld (j.at (i:=1) rfl) ?_;refine ρ ?_;refine ld (y.at (i:=1) rfl) ?_;refine ρ ?_;refine ci (λh=>?_) (λh=>?_)
  .have:=oT h;refine ρ ?_;exact Jq ⟨by rw[D,if_pos this],J⟩
  have:=oF h;refine ρ ?_;exact Jq ⟨by rw[D,if_neg this],J⟩
 have U:¬ a.num≠b.num:=by simpa using h
 rw[if_neg U]at D;refine ρ ?_;refine ld (v:=.string ⟨#[]⟩) (j.at (i:=2) (by rw[<-ha];rfl)) ?_;refine ρ ?_;refine ld (v:=.string ⟨#[]⟩) (y.at (i:=2) (by rw[<-hb];rfl)) ?_;refine ρ ?_;refine cl (Qwh w2) ?_;rintro x w3 ⟨rfl,rfl⟩;refine ρ ?_;exact Jq ⟨by rw[D],J⟩
theorem Jhg{a b:Row}(ha:RowV w va a)(hb:RowV w vb b)(hna:NoS a)(hnb:NoS b): Ret Tryz.prog 70 [va,vb] w λu w'=>u=.int .i64 (Jw a b [])/\Ext w w':=by
 obtain⟨A,ac,rfl,aa,a9,ha⟩:=ha;obtain⟨B,bc,rfl,a8,a7,hb⟩:=hb;refine Jz Tryz.func70 Tryz.ntmps70 rfl kr rfl ?_;refine ρ ?_;refine Jh (fun (k:Nat)=>[(0,.slice A a.length ac),(1,.slice B b.length bc),(5,.int .i64 (k:Int))])
  (λk w'=>Ext w w'/\k<=a.length/\k<=b.length/\Jw a b []=Jw (a.drop k) (b.drop k) []) (λk=>a.length-k) 0 sB ⟨Ext.refl w,Nat.zero_le _,Nat.zero_le _,rfl⟩ ?_
 rintro k w1 ⟨F,a3,a2,he⟩;have a6:=ha.ext F;have a5:=hb.ext F;have out:(a.length<=k∨b.length<=k)->Jw a b []=if a.length<b.length then -1 else if b.length<a.length then 1 else 0:=λh=>by
  have:=Jrq (ds:=[]) h a3 a2;rw[List.drop_nil,<-he]at this;exact this
 refine ρ ?_;refine Km (fun (t:Bool)=>[(0,.slice A a.length ac),(1,.slice B b.length bc),(5,.int .i64 (k:Int)),(16,.bool t)])
  (λt w2=>w2=w1/\t=decide (k<a.length/\k<b.length)) ?_ ?_
 .refine ki 11 (λh=>?_) (λh=>?_)
  .have:=oT h;refine ρ ?_;exact Jr (decide ((k:Int)<(b.length:Int))) sB ⟨rfl,by grind⟩
  have:=oF h;refine ρ ?_;exact Jr false sB ⟨rfl,by grind⟩
 rintro t w2 ⟨rfl,rfl⟩;refine ρ ?_;refine ci (λh=>?_) (λh=>?_)
 .obtain⟨D,y⟩:=oT h;refine ρ ?_;refine dr [(0,0),(0,1),(0,2),(0,3),(0,4),(0,5),(0,6),(0,7),(1,8),(0,9)] kr ?_;have i:Ext w2 w2.drew:=(Ext.refl w2).drew;have U:=a6.ext i;have O:=a5.ext i;refine ρd ?_;refine Qp 3 k U D ?_;refine ρd ?_;refine Qj (cs:=(a.getD k V0).cells) (λj u hu=>RdR.cell U D hu) ?_;refine ρd ?_;refine Qp 3 k O y ?_;refine ρd ?_;refine Qj (cs:=(b.getD k V0).cells) (λj u hu=>RdR.cell O y hu) ?_;refine ρd ?_;refine dcl (Qwj (hna.at k) (hnb.at k) _) ?_;rintro x w3 ⟨rfl,J⟩;refine⟨J,?_⟩;have G:Ext w w3:=(F.trans i).trans J;refine ρd ?_;refine ρ ?_;have step:=Jrt (ds:=[]) D y;rw[List.drop_nil,List.drop_nil,<-he]at step;refine ci (λh=>?_) (λh=>?_)
  .have a1:cmpV (a.getD k V0) (b.getD k V0)≠0:=by simpa using h
   rw[if_neg a1]at step;refine ρ ?_;exact Jq ⟨by rw[step],G⟩
  have a4:cmpV (a.getD k V0) (b.getD k V0)=0:=by simpa using h
  rw[if_pos a4]at step;refine ρ ?_;exact Jg (k+1) sO ⟨G,om,om,step⟩ om
 have Zx:a.length<=k∨b.length<=k:=by have:=oF h;omega
 have e:=out Zx;refine ρ ?_;refine ci (λh1=>?_) (λh1=>?_)
 .have h1:=oT h1;refine ρ ?_;exact Jq ⟨by rw[e,if_pos om],F⟩
 have h1:=oF h1;rw[if_neg om]at e;refine ρ ?_;refine ci (λZ=>?_) (λZ=>?_)
 .have Z:=oT Z;refine ρ ?_;exact Jq ⟨by rw[e,if_pos om],F⟩
 have Z:=oF Z;refine ρ ?_;exact Jq ⟨by rw[e,if_neg om],F⟩
theorem Jzx{ps:List Pr}{i:Nat}: (ps.map (·.2)).getD i []=(ps.getD i z0).2:=by
 simp only[List.getD,List.getElem?_map];cases ps[i]?<;>rfl
theorem Qwd(hl:RowsV w va l)(hm:RowsV w vb m)(hnl:∀ r∈l,NoS r)(hnm:∀ r∈m,NoS r): Ret Tryz.prog 41 [va,vb] w λu w'=>u=.bool (decide (l=m))/\Ext w w':=by
 obtain⟨ps,A,ac,rfl,rfl,a7,a6,ha,a1⟩:=hl;obtain⟨y,B,bc,rfl,rfl,a5,a4,hb,Z⟩:=hm;refine Jz Tryz.func41 Tryz.ntmps41 rfl kr rfl ?_;refine ρ ?_;refine ci (λh=>?_) (λh=>?_)
 .have G:ps.length≠y.length:=by
   intro e;rw[e]at h;simp at h
  refine ρ ?_;exact Jq ⟨by rw[decide_eq_false λe=>G (by have:=congrArg List.length e;simpa using this)],Ext.refl _⟩
 have J:ps.length=y.length:=by
  have:=h;simp at this;omega
 refine ρ ?_;refine Jh (fun (k:Nat)=>[(0,.slice A ps.length ac),(1,.slice B y.length bc),(5,.int .i64 (k:Int))])
  (λk w'=>Ext w w'/\k<=ps.length/\∀ j,j<k->(ps.getD j z0).2=(y.getD j z0).2) (λk=>ps.length-k) 0 sB ⟨Ext.refl w,Nat.zero_le _,λj O=>absurd O (Nat.not_lt_zero _)⟩ ?_
 rintro k w1 ⟨hx,hk,he⟩;refine ρ ?_;refine ci (λh=>?_) (λh=>?_)
 .have lk:k<ps.length:=by have:=oT h;omega
  have D:k<y.length:=om
  refine ρ ?_;refine dr [(0,0),(0,1),(0,2),(0,3),(0,4),(0,5),(0,6),(0,7),(1,8),(0,9)] kr ?_;have U:Ext w1 w1.drew:=(Ext.refl w1).drew;have i:=hx.trans U;refine ρd ?_;refine dix k (ha.ext i) lk ?_;refine ρd ?_;refine dld ((ha.ext i).cell (Gn lk)) ?_;refine ρd ?_;refine dix k (hb.ext i) D ?_;refine ρd ?_;refine dld ((hb.ext i).cell (Gn D)) ?_;refine ρd ?_;have m1:=getD_mem' z0 ps lk;have m2:=getD_mem' z0 y D;refine dcl (Jhg ((a1 _ m1).ext i) ((Z _ m2).ext i) (hnl _ (List.mem_map.2 ⟨_,m1,rfl⟩)) (hnm _ (List.mem_map.2 ⟨_,m2,rfl⟩))) ?_;rintro x w2 ⟨rfl,F⟩;refine⟨F,?_⟩;refine ρd ?_;refine ρ ?_;refine ci (λh=>?_) (λh=>?_)
  .have G:Jw (ps.getD k z0).2 (y.getD k z0).2 []≠0:=by simpa using h
   refine ρ ?_;exact Jq ⟨by rw[decide_eq_false λe=>G (by rw[<-Jzx,<-Jzx,e];exact Yc _ _)],i.trans F⟩
  have a3:Jw (ps.getD k z0).2 (y.getD k z0).2 []=0:=by simpa using h
  refine ρ ?_;exact Jg (k+1) sO ⟨i.trans F,om,λj O=>by
   rcases Nat.lt_or_ge j k with h|h
   .exact he j h
   have:j=k:=om
   subst this;exact Jjh _ _ _ a3⟩ om
 have a2:k=ps.length:=by have:=oF h;omega
 subst a2;refine ρ ?_;refine Jq ⟨?_,hx⟩;rw[decide_eq_true];refine List.ext_getElem (by simpa using J) λj h1 h2=>?_;have O:j<ps.length:=by simpa using h1
 have:=he j O;rw[<-Jzx,<-Jzx,List.getD,List.getElem?_eq_getElem h1,List.getD,List.getElem?_eq_getElem h2]at this;exact this
theorem Qld(l:List Row)(y r:Row): cnt [] (l++[y]) r=cnt [] l r+if Jw y r []<0 then 1 else 0:=by
 unfold cnt;rw[List.filter_append,List.length_append];by_cases h:Jw y r []<0<;>simp[h]
theorem Qwc(hl:RowsV w va l)(hx:RowV w vb x)(hnl:∀ r∈l,NoS r)(hnx:NoS x): Ret Tryz.prog 110 [va,vb] w λu w'=>u=.tuple #[.int .i64 (cnt [] l x:Int),.bool (decide (x∈l))]/\Ext w w':=by
 obtain⟨ps,A,ac,rfl,rfl,a4,a3,ha,U⟩:=hl;obtain⟨B,bc,rfl,_⟩:=id hx;refine Jz Tryz.func110 Tryz.ntmps110 rfl kr rfl ?_;refine ρ ?_;refine Jh (fun (k:Nat)=>[(0,.slice A ps.length ac),(1,.slice B x.length bc),(6,.int .i64 (cnt [] ((ps.map (·.2)).take k) x:Int)),(7,.bool (decide (x∈(ps.map (·.2)).take k))),(8,.int .i64 (k:Int))])
  (λk w'=>Ext w w'/\k<=ps.length) (λk=>ps.length-k) 0 sB ⟨Ext.refl w,Nat.zero_le _⟩ ?_
 rintro k w1 ⟨i,hk⟩;refine ρ ?_;refine ci (λh=>?_) (λh=>?_)
 .have lk:k<ps.length:=by have:=oT h;omega
  refine ρ ?_;refine ix k (ha.ext i) lk ?_;refine ρ ?_;refine ld ((ha.ext i).cell (Gn lk)) ?_;refine ρ ?_;have m1:=getD_mem' z0 ps lk;refine cl (Jhg ((U _ m1).ext i) (hx.ext i) (hnl _ (List.mem_map.2 ⟨_,m1,rfl⟩)) hnx) ?_;rintro x' w2 ⟨rfl,G⟩;have D:(ps.map (·.2)).take (k+1)=(ps.map (·.2)).take k++[(ps.getD k z0).2]:=by
   rw[List.take_add_one,List.getElem?_map,List.getElem?_eq_getElem lk];simp[List.getD,List.getElem?_eq_getElem lk]
  have j:=Qld ((ps.map (·.2)).take k) (ps.getD k z0).2 x
  rw[<-D]at j;have a2:=cnt_le [] ((ps.map (·.2)).take k) x
  have a1:((ps.map (·.2)).take k).length<=1100000:=by simp;omega
  refine ρ ?_;refine ci (λh=>?_) (λh=>?_)
  .have O:=oT h;rw[if_pos O]at j;have F:¬ x=(ps.getD k z0).2:=λe=>by rw[<-e,Yc]at O;omega
   have y:decide (x∈(ps.map (·.2)).take (k+1))=decide (x∈(ps.map (·.2)).take k):=by rw[D];exact decide_eq_decide.2 (by rw[List.mem_append,List.mem_singleton];exact⟨λh=>h.resolve_right F,.inl⟩)
   refine ρ ?_;refine cf ?_ ?_
   .have:Jw (ps.getD k z0).2 x []≠0:=om
    simpa using this
   refine ρ ?_;refine Jg (k+1) ?_ ⟨i.trans G,om⟩ om;rw[y,j];exact sO
  have J:=oF h;rw[if_neg J]at j;refine ρ ?_;refine ci (λh=>?_) (λh=>?_)
  .have e0:Jw (ps.getD k z0).2 x []=0:=by simpa using h
   have y:decide (x∈(ps.map (·.2)).take (k+1))=true:=by rw[D,<-Jjh _ _ _ e0];simp
   refine ρ ?_;refine Jg (k+1) ?_ ⟨i.trans G,om⟩ om;rw[y,j];exact sO
  have e0:¬ Jw (ps.getD k z0).2 x []=0:=by simpa using h
  have F:¬ x=(ps.getD k z0).2:=λe=>by rw[<-e,Yc]at e0;omega
  have y:decide (x∈(ps.map (·.2)).take (k+1))=decide (x∈(ps.map (·.2)).take k):=by rw[D];exact decide_eq_decide.2 (by rw[List.mem_append,List.mem_singleton];exact⟨λh=>h.resolve_right F,.inl⟩)
  refine ρ ?_;refine Jg (k+1) ?_ ⟨i.trans G,om⟩ om;rw[y,j];exact sO
 have Z:k=ps.length:=by have:=oF h;omega
 subst Z;refine ρ ?_;refine Xq ⟨?_,i⟩;rw[show ps.length=(ps.map (·.2)).length by simp,List.take_length]
theorem RfC.one{cs:List Value}(h:RfC N w cs r): ∀ u∈cs,u.oneCell'=true:=by
 obtain⟨v,rfl,A,c,rfl,_⟩:=h;intro u i;rw[List.mem_singleton.1 i];rfl
theorem Jnk(h:GX 1 RfC N w v ls): RowsV w v ls:=by
 obtain⟨⟨ps,A,c,e,e1,e2,e3,Z,y⟩,hn⟩:=h;have F:∀ j:List (List Value×Row),(∀ p∈j,p.1.length=1/\RfC N w p.1 p.2)->∃ i:List Pr,j.map (·.2)=i.map (·.2)/\i.length=j.length/\Jd j=i.map (·.1)/\∀ p∈i,RowV w p.1 p.2:=λj=>by
  induction j with
  | nil=>exactλ_=>⟨[],rfl,rfl,rfl,λp h=>by cases h⟩
  | cons q j ih=>
   intro h;obtain⟨i,O,D,J,G⟩:=ih λp y=>h p (List.mem_cons_of_mem _ y);obtain⟨_,u,eu,U⟩:=h q (mC ..);refine⟨(u,q.2)::i,by simp[O],by simp[D],?_,λp y=>?_⟩
   .show q.1++Jd j=_;rw[eu,J];rfl
   rcases List.mem_cons.1 y with rfl|y
   .exact U.v
   exact G p y
 obtain⟨i,O,D,J,G⟩:=F ps y;exact⟨i,A,c,by rw[e,O],by rw[D];exact e1,om,om,by rw[D,<-J];exact Z,G⟩
theorem Qwg(hN:∀ k,N k->k<w.heap.size)(hl:GX 1 RfC N w va l)(hx:RowX w N vb x)(hnl:∀ r∈l,NoS r)(hnx:NoS x)(hlen:l.length<=1000000): Ret Tryz.prog 64 [va,vb] w λu w'=>GX 1 RfC N w' u (Ku [] l x)/\Ext w w':=by
 obtain⟨A,c,_,rfl,hc,hm,hR,_⟩:=id hl.el;obtain⟨B,bc,rfl,_⟩:=id hx;refine Jz Tryz.func64 Tryz.ntmps64 rfl kr rfl ?_;refine ρ ?_;refine cl (Qwc (Jnk hl) hx.v hnl hnx) ?_;rintro u w1 ⟨rfl,y⟩;have a6:=cnt_le [] l x;generalize hi:cnt [] l x=i at *
 refine ρ ?_;refine ci (λh=>?_) (λh=>?_)
 .have G:=oT h;refine ρ ?_;exact Jq ⟨by unfold Ku;rw[if_pos G];exact hl.ext RfC.sta (by decide) y,y⟩
 have G:=oF h;have a2:=(hl.old RfC.sta (N':=λk=>N k∨w.heap.size<=k) (by decide) λk D=>D).ext RfC.sta (by decide) y;have a7:=(hx.oldN (N':=λk=>N k∨w.heap.size<=k) λk D=>D).grN (GrN.ext y);have c1:=a2.cut (k:=0) (m:=i) (by decide) (Nat.zero_le _) a6;have c2:=a2.cut (k:=i) (m:=l.length) (by decide) a6 (nR _);rw[cut0,Nat.sub_zero,Nat.sub_zero,List.drop_zero]at c1;rw[List.take_of_length_le (by simp)]at c2;have z1:=y.size;refine ρ ?_;refine slh i ?_;refine ρ ?_;refine apXs (base:=w.heap.size) ERfs RfC.sta (N:=λk=>N k∨w.heap.size<=k) (OX.nil _ _) c1 (λcs a h=>h.one) (λk D=>.inl D) (λg hg=>by cases hg) (by simp) (by decide) z1 ?_;intro v2 w2 F ac _;rw[List.nil_append]at F;have a9:Ext w1 w2:=Js (Ext.refl w1) ac λk e=>by cases e
 refine ρ ?_;refine bsl (Jsh _ _ _) ?_;intro w3 b3 U ag ae;obtain⟨_,_,_,_,J⟩:=id F.form;have aa:=F.ext RfC.sta U;have j:=a9.trans U;refine ρ ?_;refine apX ERfs RfC.sta aa ae rfl (λu hu=>by rw[List.mem_singleton.1 hu];rfl) ⟨_,rfl,a7.grN (GrN.ext j)⟩ (λg hg=>.inr (J g hg).1) (by simp;omega) (by decide) (nL z1 j.size) ?_;intro v4 w4 a1 a3 af;have O:Ext w w4:=Js (y.trans j) a3 λq e=>(J q e).1;have a4:GrN (λk=>N k∨w.heap.size<=k) w1 w4:=(GrN.ext j).trans (GrN.by a3 λk e=>.inr (J k e).1);obtain⟨_,_,_,_,a5⟩:=id a1.form;refine ρ ?_;refine sll i ?_;refine ρ ?_;refine apXs ERfs RfC.sta a1 (c2.gr RfC.sta (by decide) a4) (λcs a h=>h.one) (λk D=>.inl D) (λg hg=>.inr (a5 g hg).1) (by simp;omega) (by decide) O.size ?_;intro v5 w5 Z ab _;have a8:Ext w w5:=Js O ab λq e=>(a5 q e).1;have e0:Ku [] l x=l.take i++[x]++l.drop i:=by
  unfold Ku;rw[if_neg G,hi];simp
 obtain⟨_,_,_,_,ad⟩:=id Z.form;refine ρ ?_;refine Jq ⟨?_,a8⟩;rw[e0];exact Z.gx RfC.sta (by simp;omega) λk D=>⟨.inl D,λe=>by have:=(ad k e).1;have:=hN k D;omega⟩
end Go.Proofs.YtebiphhfkdbpfaaGreat
namespace Go.Wk
open Go.RowKit
variable {α:Type}{w:World}
theorem gxNil{sz:Nat}{Φ:(Nat->Prop)->World->List Value->α->Prop}{N:Nat->Prop}: GX sz Φ N w (.slice none 0 0) [] :=
 ⟨⟨[],none,0,rfl,rfl,Nat.le_refl _,Nat.zero_le _,Rd.nil,λp i=>by cases i⟩,λh=>absurd rfl h⟩
theorem gxOf{sz:Nat}{Φ:(Nat->Prop)->World->List Value->α->Prop}{A:Option Addr}{c:Nat}{ps:List (List Value×α)}(hR:Rd w sz A ps.length (Jd ps))(hc:ps.length<=c)(hm:ps.length<=1100000)(hp:∀ p∈ps,p.1.length=sz/\Φ (λ_=>False) w p.1 p.2): GX sz Φ (λ_=>False) w (.slice A ps.length c) (ps.map (·.2)) :=
 ⟨⟨ps,A,c,rfl,rfl,hc,hm,hR,hp⟩,λ_ _ _ _ _ h=>h⟩
end Go.Wk
namespace Go.Proofs.YtebiphhfkdbpfaaGreat
open Go.RowKit Pl Go.Wk Bl
attribute [local irreducible] WC WL QX WD WDB WP WN WG WH
variable {cols cs vs:List Nat}{ls m ms rs:List Row}{base s:Nat}{v v1 v2 va vc:Value}{w w' w0:World}
theorem Jgf(h:IsSet [] ls m): m.length<=ls.length:=Jzr (Jyq h.1) λx i=>(h.2 x).1 i
theorem NoS.pm{r:Row}(h:NoS r)(cs:List Nat): NoS (pmR cs r):=λx i=>by
 obtain⟨c,_,rfl⟩:=List.mem_map.1 i;exact h.at c
theorem Qwf(hl:RowsV w va ls)(hc:IntsV w vc (nz cols))(hlt:∀ r∈ls,∀ c∈cols,c<r.length)(hn:∀ r∈ls,NoS r)(hcl:cols.length<=1000)(hll:ls.length<=1000000): Ret Tryz.prog 33 [va,vc] w λu w'=>∃ m,GX 1 RfC (Ol w) w' u m/\IsSet [] (ls.map (pmR cols)) m/\Ext w w':=by
 obtain⟨ps,A,ac,rfl,rfl,b9,b8,ha,ao⟩:=hl;obtain⟨C,cc,rfl,b6,b5,hC⟩:=hc;have ab:=Ju cols;rw[ab]at hC;rw[List.length_map]at hll;refine Jz Tryz.func33 Tryz.ntmps33 rfl kr rfl ?_;refine ρ ?_;rw[ab];refine Qd (fun (k:Nat) (vo:Value)=>[(0,.slice A ps.length ac),(1,.slice C cols.length cc),(5,vo),(6,.int .i64 (k:Int))])
  (λk vo w'=>k<=ps.length/\Ext w w'/\∃ m,GX 1 RfC (Ol w) w' vo m/\IsSet [] (((ps.map (·.2)).map (pmR cols)).take k) m) (λk _=>ps.length-k) 0 (.slice none 0 0) sB
  ⟨Nat.zero_le _,Ext.refl _,[],gxNil,List.Pairwise.nil,λx=>by simp⟩ ?_
 rintro k vo w1 ⟨hk,i,m,hm,D⟩;refine ρ ?_;refine ci (λh=>?_) (λh=>?_)
 .have lk:k<ps.length:=by have:=oT h;omega
  clear h;have m1:=getD_mem' z0 ps lk;have a1:(ps.getD k z0).2∈ps.map (·.2):=List.mem_map.2 ⟨_,m1,rfl⟩
  have aa:=ao _ m1;have an:=hlt _ a1;have am:=hn _ a1;obtain⟨R,rc,eR,b1,az,hR⟩:=id aa;generalize hr:(ps.getD k z0).2=r at *
  refine ρ ?_;refine Qd (fun (j:Nat) (vx:Value)=>[(0,.slice A ps.length ac),(1,.slice C cols.length cc),(5,vo),(6,.int .i64 (k:Int)),(7,vx),(8,.int .i64 (j:Int))])
   (λj vx w'=>j<=cols.length/\Ext w1 w'/\OwnF w' w1.heap.size vx ((cols.take j).map λc=>r.getD c V0)) (λj _=>cols.length-j) 0 (.slice none 0 0) sB
   ⟨Nat.zero_le _,Ext.refl _,Xk _ _ _ _⟩ ?_
  rintro j vx w2 ⟨hj,Z,ho⟩;refine ρ ?_;refine ci (λh=>?_) (λh=>?_)
  .have lj:j<cols.length:=by have:=oT h;omega
   clear h;have ag:cols.getD j 0<r.length:=an _ (getD_mem' 0 _ lj);obtain⟨own,U⟩:∃ own,own=vx.ownBlock:=⟨_,rfl⟩;have ae:∀ j,own=some j->w1.heap.size<=j:=λj ej=>by
    obtain⟨_,_,_,_,hf⟩:=Jy ho;exact(hf j (by rw[<-U];exact ej)).1
   have ay:((cols.take j).map λc=>r.getD c V0).length=j:=by simp;omega
   refine ρ ?_;refine drN (one own) 20 [(0,0),(0,1),(0,2),(0,3),(0,4),(0,5),(0,6),(0,7),(0,8),(0,9),(0,10),(1,11),(1,12),(0,13)] kr ?_;have a9:Ext w2 w2.drew:=(Ext.refl w2).drew;have a3:=Z.trans a9;have a4:=i.trans a3;have aq:=Jc ho a9;have J:∀ {g:Nat},g<w1.heap.size->¬ one own g:=λhg e=>by have:=ae _ e;omega
   have ah:=ha.ext a4;have aj:=hC.ext a4;have ai:Rd w2.drew 3 R r.length (Je r):=Rd.ext hR a4;have a8:∀ F,A=some F->F.block<w1.heap.size:=λF ea=>by
    obtain⟨ak,G,hb⟩:=ha.isome om (by decide);rw[ea]at G;injection G with G;subst G;have:=i.size;omega
   have a7:∀ F,C=some F->F.block<w1.heap.size:=λF ea=>by
    obtain⟨ak,G,hb⟩:=hC.isome om (by decide);rw[ea]at G;injection G with G;subst G;have:=i.size;omega
   have a6:∀ F,R=some F->F.block<w1.heap.size:=λF ea=>by
    obtain⟨ak,G,hb⟩:=Rd.isome hR om (by decide);rw[ea]at G;injection G with G;subst G;have:=i.size;omega
   refine ρn ?_;refine nix k ah lk ?_;refine ρn ?_;refine nld (v:=.slice R r.length rc) (λw' hg=>((Zg ah hg λh0 F e=>J (a8 F e)).cell (Gn lk)).trans (by rw[eR])) ?_;refine ρn ?_;refine nix j aj lj ?_;refine ρn ?_;refine nld (λw' hg=>(Zg aj hg λh0 F e=>J (a7 F e)).cell (Qn lj)) ?_;refine ρn ?_;refine Va 3 (cols.getD j 0) ai ag ?_;refine ρn ?_;refine Yk (cs:=(r.getD (cols.getD j 0) V0).cells) (λw' hg j u hu=>RdR.cell (Zg ai hg λh0 F e=>J (a6 F e)) ag hu) ?_;refine ρn ?_;refine nop ?_;refine bsl (Jsj _) ?_;intro w3 b3 O b7 ax;refine ρ ?_;refine Qg (GrN.ext O) ?_;refine nop ?_;have a2:=a3.trans O;refine apb (m':=1) (news:=(r.getD (cols.getD j 0) V0).cells) ERf (Jc aq O) (ax.rd (n:=1) rfl) (V.one _) (by unfold maxLen;omega) om a2.size ?_;intro v4 w4 ar af b4;refine ρ ?_;refine Qg (GrN.by af λj ej=>by rw[<-U]at ej;exact ej) ?_;refine ρn ?_;refine ρ ?_;have a5:((cols.take (j+1)).map λc=>r.getD c V0)=((cols.take j).map λc=>r.getD c V0)++[r.getD (cols.getD j 0) V0]:=by rw[Xu 0 lj,List.map_append];rfl
   refine Qy (j+1) v4 sO ⟨lj,Js a2 af λq e=>ae q (by rw[U];exact e),?_⟩ om;rw[OwnF,a5,List.length_append,Jvs,Jvq];exact ar
  have aw:j=cols.length:=by have:=oF h;omega
  subst aw;rw[List.take_length]at ho;have b2:(pmR cols r).length=cols.length:=by simp[pmR]
  have ap:RowX w2 (Ol w) vx (pmR cols r):=(OwnF.x ho (by simp;omega)).oldN λq hq=>.inl (nM hq i.size);have au:=Jgf D;rw[List.length_take]at au;have a5:((ps.map (·.2)).map (pmR cols)).take (k+1)=((ps.map (·.2)).map (pmR cols)).take k++[pmR cols r]:=by
   rw[List.take_add_one,List.getElem?_map,List.getElem?_map,List.getElem?_eq_getElem lk,<-hr];simp[List.getD,List.getElem?_eq_getElem lk]
  refine ρ ?_;refine cl (Qwg (N:=Ol w) (λq hq=>nM hq (i.trans Z).size) (hm.ext RfC.sta (by decide) Z) ap (λy hy=>?_) (am.pm cols) om) ?_
  .have h1:=(D.2 y).1 hy;obtain⟨z,hz,rfl⟩:=List.mem_map.1 (List.mem_of_mem_take h1);exact(hn z hz).pm cols
  rintro u w3 ⟨hu,O⟩;refine ρ ?_;exact Qy (k+1) u sO ⟨lk,(i.trans Z).trans O,_,hu,by rw[a5];exact Qww D⟩ om
 have av:k=ps.length:=by have:=oF h;omega
 subst av;refine ρ ?_;refine Jq ⟨m,hm,?_,i⟩;rw[List.take_of_length_le (by simp)]at D;exact D
theorem Qmw(s v:Nat): ((((s / 2^v:Nat):Int)).tmod 2 == 1)=s.testBit v:=by
 have i:(((s / 2^v:Nat):Int)).tmod 2=((s / 2^v % 2:Nat):Int):=rfl;rw[i,Nat.testBit_eq_decide_div_mod_eq];by_cases h:s / 2^v % 2=1
 .rw[h];rfl
 have:s / 2^v % 2=0:=om
 rw[this];rfl
theorem Qmm(w:World): (Instr.build 46 #[]).run Tryz.prog w=.ok (.agg #[.slice none 0 0,.slice none 0 0]) w:=kr
theorem oneT{A B:Option Addr}{n c m d:Nat}: ∀ u∈[Value.slice A n c,.slice B m d],u.oneCell'=true:=λu i=>by
 simp only[List.mem_cons,List.not_mem_nil,or_false]at i;rcases i with rfl|rfl<;>rfl
theorem Jqj(ho:Qz w' w.heap.size v cs): ∀ g,v.ownBlock=some g->w.heap.size<=g/\g<w'.heap.size:=λg j=>by
 obtain⟨_,_,_,_,i⟩:=Jy ho;exact i g j
theorem Jlj(h:Qz w base v cs)(hm:cs.length<=1100000): IntsV w v (nz cs):=by
 obtain⟨A,c,e,i,_⟩:=Jy h;subst e;exact⟨A,c,by rw[Ju],by rw[Ju];exact i,by rw[Ju];exact hm,by rw[Ju];exact Rd.own h⟩
theorem Qyl(h:Qz w w0.heap.size v cs)(hm:cs.length<=1100000): Off (Ol w0) w λx=>IntsV x v (nz cs):=λw2 j=>
 Jlj (Jo h j λg u i=>by have:=(Jqj h g u).1;exact absurd (show g<w0.heap.size from i) om) hm
theorem Qfp{N:Nat->Prop}(h:GX 1 RfC N w v ls): Off N w λx=>RowsV x v ls:=λw2 i=>Jnk (h.gr RfC.sta (by decide) i)
theorem Qwb(hv:IntsV w v1 (nz vs))(hr:RowsV w v2 rs)(hs:s<4294967296)(hasc:Qo vs)(hlt:∀ v∈vs,v<32)(hlen:∀ r∈rs,r.length=vs.length)(hn:∀ r∈rs,NoS r)(hll:rs.length<=1000000):
  Ret Tryz.prog 13 [.agg #[v1,v2],.int .u32 (s:Int)] w λu w'=>∃ u1 u2 m,u=.agg #[u1,u2]/\Off (Ol w) w' (λx=>IntsV x u1 (nz (inS vs s))/\RowsV x u2 m)/\IsSet [] (rs.map (pmR (Xw vs s))) m/\Ext w w':=by
 obtain⟨D,d,e1,hd,cu,aw⟩:=id hv;obtain⟨ps,G,gc,_,e2,_⟩:=id hr;subst e1;subst e2;have bg:=Ju vs;have ck:=Jjj hasc hlt;rw[bg]at aw;have bd:∀ i,i<vs.length->vs.getD i 0<32:=λi hi=>hlt _ (getD_mem' 0 _ hi);refine Jz Tryz.func13 Tryz.ntmps13 rfl kr rfl ?_;rw[bg];refine ρ ?_;refine bx (cs:=[.slice D vs.length d,.slice G ps.length gc]) ?_;intro w1 b aj hb hB;refine ρ ?_;refine alc zRA ?_;intro w2 br au cx bt;refine ρ ?_;refine bld (Qmm _) ?_;refine ρ ?_;refine alc zRA ?_;intro w3 bq c3 cc ce;refine ρ ?_;refine stb (cs':=[.slice none 0 0,.slice none 0 0]) ce ?_ oneT;intro w4 bz cr c2;have ac:Ext w2 w4:=c2 w2 c3 cc;have b6:Ext w w4:=(aj.trans au).trans ac;have ap:=(hB.ext au).ext ac;have aq:=bt.ext ac;have zb:=hB.lt;have zr:=bt.lt;have z2:=au.size;refine ρ ?_;refine Zk (fun (k:Nat) (vv vc:Value)=>[(1,.int .u32 (s:Int)),(2,.pointer (some ⟨b,0,none⟩)),(4,.pointer (some ⟨br,0,none⟩)),(5,.pointer (some ⟨bq,0,none⟩)),(6,vc),(7,.int .i64 (k:Int))])
  (λk vv vc w'=>k<=vs.length/\Ext w w'/\Blk w' b 46 [.slice D vs.length d,.slice G ps.length gc]/\Blk w' br 46 [.slice none 0 0,.slice none 0 0]/\Blk w' bq 46 [vv,.slice none 0 0] /\
   Qz w' w.heap.size vv (inS (vs.take k) s)/\Qz w' w.heap.size vc (Zp vs s k)/\∀ g,vv.ownBlock=some g->vc.ownBlock≠some g) (λk _ _=>vs.length-k) 0 (.slice none 0 0) (.slice none 0 0) sB
  ⟨Nat.zero_le _,b6,ap,aq,bz,Xk _ _ _ _,Xk _ _ _ _,λg e=>(by cases e)⟩ ?_
 clear ap aq bz;rintro k vv vc w7 ⟨hk,a8,ah,a1,a5,a3,aa,ae⟩;refine ρ ?_;refine ld (ah.at (i:=0) rfl) ?_;refine ρ ?_;refine ci (λh=>?_) (λh=>?_)
 .have lk:k<vs.length:=by have:=oT h;omega
  clear h;have az:=aw.ext a8;have cv:=Jjf vs s k om;have cq:(inS (vs.take k) s).length<=32:=by
   have:=List.length_filter_le (λv=>s.testBit v) (vs.take k);rw[List.length_take]at this;unfold inS;omega
  refine ρ ?_;refine ld (ah.at (i:=0) rfl) ?_;refine ρ ?_;refine ix k az lk ?_;refine ρ ?_;refine ld (az.cell (Qn lk)) ?_;refine ρ ?_;refine sr32 (s:=s) (v:=vs.getD k 0) (by have:=bd k lk;omega) ?_;refine ρ ?_;refine Jjn rfl rfl (by decide) rfl ?_;refine ρ ?_;rw[Qmw];refine ci (λh=>?_) (λh=>?_)
  .refine ρ ?_;obtain⟨own,a4⟩:∃ own,own=vv.ownBlock:=⟨_,rfl⟩;have bl:∀ j,own=some j->w.heap.size<=j:=λj ej=>(Jqj a3 j (by rw[<-a4];exact ej)).1;refine drN (one own) 20 [(0,0),(0,1),(0,2),(0,3),(0,4),(0,5),(0,6),(1,7),(1,8),(0,9),(2,10)] kr ?_;have a2:Ext w7 w7.drew:=(Ext.refl w7).drew;have a7:=a5.ext a2;have am:=ah.ext a2;have bp:=az.ext a2;have a9:=Jc a3 a2;have nq:¬ one own bq:=λe=>a7.ne_own a9 rfl (by rw[<-a4];exact e.symm);have nb:¬ one own b:=λe=>am.ne_own a9 rfl (by rw[<-a4];exact e.symm);have b5:∀ {g:Nat},g<w.heap.size->¬ one own g:=λhg e=>by have:=bl _ e;omega
   have b4:∀ ad,D=some ad->ad.block<w.heap.size:=λad ea=>by
    obtain⟨d2,e',hb⟩:=aw.isome om (by decide);rw[ea]at e';injection e' with e';subst e';exact hb
   refine ρn ?_;refine nld (Qf (a7.at (i:=0) rfl) nq) ?_;refine ρn ?_;refine nld (Qf (am.at (i:=0) rfl) nb) ?_;refine ρn ?_;refine nix k bp lk ?_;refine ρn ?_;refine nld (λw' hg=>(Zg bp hg λh0 ad e=>b5 (b4 ad e)).cell (Qn lk)) ?_;refine ρn ?_;refine nop ?_;refine bsl (bs1Int'' _) ?_;intro w8 b8 y cy cg;refine ρ ?_;refine Qg (GrN.ext y) ?_;refine nop ?_;have an:=(a8.trans a2).trans y;refine apI (Jc a9 y) cg om an.size ?_;intro U w9 ak Z bh;refine ρ ?_;refine Qg (GrN.by Z λj ej=>by rw[<-a4]at ej;exact ej) ?_;refine ρn ?_;refine Xm ?_;have ai:Ext w w9:=Js an Z (λg J=>bl g (by rw[a4];exact J));have F:=(a7.ext y).grown Z ((a7.ext y).ne_own (Jc a9 y) rfl);have bw:=(am.ext y).grown Z ((am.ext y).ne_own (Jc a9 y) rfl);have a6:=((a1.ext a2).ext y).grown Z (((a1.ext a2).ext y).ne_own (Jc a9 y) rfl);have ay:Qz w9 w.heap.size vc (Zp vs s k):=Jo (Jc (Jc aa a2) y) (GrN.by Z λg J=>J) (λg J e=>ae g e J)
   have ao:∀ g,U.ownBlock=some g->vc.ownBlock≠some g:=λg J e=>by
    rcases bh g J with h'|h'
    .exact ae g h' e
    have:=(Jqj aa g e).2;have:=a2.size;have:=y.size;omega
   have ch:U.oneCell'=true:=by obtain⟨_,_,e,_⟩:=Jy ak;rw[e];rfl
   refine sto (p:=⟨bq,0,none⟩) (F.cell 0) (F.frozen _) ?_ (hv:=ch);have av:w9.grownBy (w9.setCell ⟨bq,0,none⟩ U) (some bq):=Jgg _;have bu:=F.set 0 U;have b7:Ext w (w9.setCell ⟨bq,0,none⟩ U):=ai.setCell (by simp only;have:=aj.size;omega) _;have bb:Qz (w9.setCell ⟨bq,0,none⟩ U) w.heap.size U (inS (vs.take k) s++[vs.getD k 0]):=Jo ak (GrN.by av λg J=>J) (λg J e=>by injection e with e;subst e;exact F.ne_own ak rfl J.symm);have ax:Qz (w9.setCell ⟨bq,0,none⟩ U) w.heap.size vc (Zp vs s k):=Jo ay (GrN.by av λg J=>J) (λg J e=>by injection e with e;subst e;exact F.ne_own ay rfl J.symm);have cd:Blk (w9.setCell ⟨bq,0,none⟩ U) b 46 _:=bw.far (by simp only;omega) _;have bs:Blk (w9.setCell ⟨bq,0,none⟩ U) br 46 _:=a6.far (by simp only;omega) _;refine ω5 ?_;refine Uf ?_;generalize w9.setCell ⟨bq,0,none⟩ U=ab at *
   clear F bw a6 ay ai Z av ak bh;refine ρn ?_;refine ρ ?_;refine bsl (bs1Int'' _) ?_;intro cn d1 O cm c0;refine ρ ?_;refine apI (z:=k) (Jc ax O) c0 om (b7.trans O).size ?_;intro b3 b2 bn af bi;have b9:Ext w b2:=Js (b7.trans O) af (λg J=>(Jqj ax g J).1);have ar:∀ {g:Nat} {cs:List Value},Blk ab g 46 cs->Blk b2 g 46 cs:=λh=>(h.ext O).grown af ((h.ext O).ne_own (Jc ax O) rfl);refine ρ ?_;refine Qa (k+1) U b3 sO ⟨om,b9,ar cd,ar bs,ar bu,?_,?_,λg J e=>?_⟩ om
   .rw[Ir lk,if_pos h];exact Jo (Jc bb O) (GrN.by af λg J=>J) (λg J e=>ao g J e)
   .rw[Jjg,if_pos h];exact bn
   rcases bi g e with h'|h'
   .exact ao g J h'
   have:=(Jqj bb g J).2;have:=O.size;omega
  have hf:¬ s.testBit (vs.getD k 0)=true:=by rw[h];simp
  refine ρ ?_;refine Qa (k+1) vv vc sO ⟨om,a8,ah,a1,a5,?_,?_,ae⟩ om
  .rw[Ir lk,if_neg hf,List.append_nil];exact a3
  rw[Jjg,if_neg hf,List.append_nil];exact aa
 have c7:k=vs.length:=by have:=oF h;omega
 subst c7;clear h;rw[List.take_length]at a3;have cb:Zp vs s vs.length=Xw vs s:=rfl;rw[cb]at aa;obtain⟨VA,co,cj,cp,_⟩:=Jy a3;obtain⟨CA,d0,cz,cw,_⟩:=Jy aa;have ca:(Xw vs s).length<=32:=by
  have:=List.length_filter_le (λi=>s.testBit (vs.getD i 0)) (List.range vs.length);rw[List.length_range]at this;unfold Xw;omega
 have c8:(inS vs s).length<=32:=by
  have:=List.length_filter_le (λv=>s.testBit v) vs;unfold inS;omega
 refine ρ ?_;refine ld (ah.at (i:=1) rfl) ?_;refine ρ ?_;refine cl (Qwf (hr.ext a8) (Jlj aa om) (λr c5 c hc=>by rw[hlen r c5];exact Jbx hc) hn om hll) ?_;rintro u2 w8 ⟨m,hm,bf,y⟩;have c1:u2.oneCell'=true:=by obtain⟨_,_,_,e,_⟩:=hm.el;rw[e];rfl
 have bv:=a5.ext y;refine ρ ?_;refine stF (i:=1) bv rfl ?_ (hv:=c1);intro w9 F Z;have F:Blk w9 bq 46 [vv,u2]:=F;have bo:br≠bq:=om
 have a6:=(a1.ext y).grown Z (λe=>by injection e with e;exact bo e);refine ρ ?_;refine ldW F ?_;refine ρ ?_;refine stb (cs':=[vv,u2]) a6 ?_ (λu hu=>by
  simp only[List.mem_cons,List.not_mem_nil,or_false]at hu;rcases hu with rfl|rfl
  .rw[cj];rfl
  exact c1)
 intro ab b1 ag _;refine ρ ?_;have c6:=a5.lt;have c4:=a1.lt;have z7:=a8.size;have ai:Ext w w9:=Js (a8.trans y) Z (λg e=>by injection e with e;have:=aj.size;omega);have ba:Ext w ab:=Js ai ag (λg e=>by injection e with e;have:=aj.size;omega);have c9:GrN (Ol w7) w8 ab:=(GrN.by Z λk e=>(by injection e with e;rw[<-e];exact c6)).trans (GrN.by ag λk e=>(by injection e with e;rw[<-e];exact c4));have bj:=(hm.gr RfC.sta (by decide) c9).old RfC.sta (N':=Ol w) (by decide) λk hk=>.inl (nM hk z7);have bc:∀ g,vv.ownBlock=some g->g≠bq/\g≠br:=λg J=>⟨λe=>by subst e;exact a5.ne_own a3 rfl J.symm,λe=>by subst e;exact a1.ne_own a3 rfl J.symm⟩;have be:Qz ab w.heap.size vv (inS vs s):=Jo (Jo (Jc a3 y) (GrN.by Z λk e=>e) λg J e=>(bc g J).1 (by injection e with e;exact e.symm)) (GrN.by ag λk e=>e) λg J e=>(bc g J).2 (by injection e with e;exact e.symm);refine Zb b1 ⟨_,_,m,rfl,λw' bm=>⟨Qyl be om w' bm,Qfp bj w' bm⟩,bf,ba⟩
theorem Qkz{u1 u2:Value}{vs us:List Int}(hv1:IntsV w v1 vs)(hv2:RowsV w v2 rs)(hu1:IntsV w u1 us)(hu2:RowsV w u2 ms)(hnr:∀ r∈rs,NoS r)(hnm:∀ r∈ms,NoS r):
  Ret Tryz.prog 20 [.agg #[v1,v2],.agg #[u1,u2]] w λu w'=>u=.bool (decide (vs=us/\rs=ms))/\Ext w w':=by
 obtain⟨D,d,e1,hd,ak,ah⟩:=id hv1;obtain⟨E,e,e3,he,aj,af⟩:=id hu1;obtain⟨ps,G,gc,_,e2,_⟩:=id hv2;obtain⟨qs,F,fc,_,e4,_⟩:=id hu2;subst e1;subst e2;subst e3;subst e4;refine Jz Tryz.func20 Tryz.ntmps20 rfl kr rfl ?_;refine ρ ?_;refine bx (cs:=[.slice D vs.length d,.slice G ps.length gc]) ?_;intro w1 b1 ad an ai;refine ρ ?_;refine bx (cs:=[.slice E us.length e,.slice F qs.length fc]) ?_;intro w2 b2 a5 am ab;have a2:=ai.ext a5;have Z:=ad.trans a5;refine ρ ?_;refine ld (a2.at (i:=0) rfl) ?_;refine ρ ?_;refine ld (ab.at (i:=0) rfl) ?_;refine ρ ?_;refine ci (λh=>?_) (λh=>?_)
 .have a3:¬ vs=us:=λe=>by rw[e]at h;simp at h
  refine ρ ?_;exact Jq ⟨by rw[decide_eq_false λe=>a3 e.1],Z⟩
 have a7:vs.length=us.length:=by simp at h;omega
 refine ρ ?_;refine Jh (fun (k:Nat)=>[(2,.pointer (some ⟨b1,0,none⟩)),(3,.pointer (some ⟨b2,0,none⟩)),(5,.int .i64 (k:Int))])
  (λk w'=>Ext w2 w'/\k<=vs.length/\∀ j,j<k->vs.getD j 0=us.getD j 0) (λk=>vs.length-k) 0 sB ⟨Ext.refl _,Nat.zero_le _,λj hj=>absurd hj (Nat.not_lt_zero _)⟩ ?_
 rintro k w3 ⟨U,hk,a8⟩;have O:=a2.ext U;have a1:=ab.ext U;have y:=Z.trans U;refine ρ ?_;refine ld (O.at (i:=0) rfl) ?_;refine ρ ?_;refine ci (λh=>?_) (λh=>?_)
 .have lk:k<vs.length:=by have:=oT h;omega
  have a4:k<us.length:=om
  refine ρ ?_;refine dr [(0,0),(0,1),(0,2),(0,3),(0,4),(0,5),(0,6),(0,7),(0,8),(0,9),(0,10)] kr ?_;have J:Ext w3 w3.drew:=(Ext.refl w3).drew;have aa:=ah.ext (y.trans J);have a9:=af.ext (y.trans J);refine ρd ?_;refine dld ((O.ext J).at (i:=0) rfl) ?_;refine ρd ?_;refine dix k aa lk ?_;refine ρd ?_;refine dld (aa.cell (Vd lk)) ?_;refine ρd ?_;refine dld ((a1.ext J).at (i:=0) rfl) ?_;refine ρd ?_;refine dix k a9 a4 ?_;refine ρd ?_;refine dld (a9.cell (Vd a4)) ?_;refine ρd ?_;refine ρ ?_;refine ci (λh=>?_) (λh=>?_)
  .have a3:¬ vs=us:=λe=>by rw[e]at h;simp at h
   refine ρ ?_;exact Jq ⟨by rw[decide_eq_false λe=>a3 e.1],y.trans J⟩
  have ag:vs.getD k 0=us.getD k 0:=by simpa using h
  refine ρ ?_;exact Jg (k+1) sO ⟨U.trans J,om,λj hj=>by
   rcases Nat.lt_or_ge j k with h|h
   .exact a8 j h
   have:j=k:=om
   subst this;exact ag⟩ om
 have ae:k=vs.length:=by have:=oF h;omega
 subst ae;have a6:vs=us:=by
  refine List.ext_getElem a7 λj h1 h2=>?_;have:=a8 j h1;rw[List.getD,List.getElem?_eq_getElem h1,List.getD,List.getElem?_eq_getElem h2]at this;exact this
 refine ρ ?_;refine ld (O.at (i:=1) rfl) ?_;refine ρ ?_;refine ld (a1.at (i:=1) rfl) ?_;refine ρ ?_;refine cl (Qwd (hv2.ext y) (hu2.ext y) hnr hnm) ?_;rintro u w4 ⟨rfl,ac⟩;refine ρ ?_;exact Jq ⟨congrArg Value.bool (decide_eq_decide.2 ⟨λh=>⟨a6,h⟩,λh=>h.2⟩),y.trans ac⟩
open Go.RowKit Pl Go.Wk Bl
variable {a:Atm}{n s:Int}{l us:List Int}{k:Nat}{t:V3}{u1 u2 va vl:Value}{w:World}
def raO(a:Atm): RA:=⟨a.vars,a.rows⟩
theorem Jtg(h1:1<=k)(h2:k<a.vars.length)(h:a.vars.getD k 0<=a.vars.getD (k-1) 0): atE n a=16:=by
 unfold atE;rw[if_pos λi:Um a.vars=>by have:=i k om h2;omega]
theorem Jcr(hb:Um a.vars)(h2:k<a.vars.length)(h:a.vars.getD k 0<0∨n<=a.vars.getD k 0): atE n a=3:=by
 unfold atE;rw[if_neg (not_not_intro hb),if_pos λhb:∀ v∈a.vars,0<=v/\v<n=>by have:=hb _ (getD_mem' 0 _ h2);omega]
theorem Jtf(hb:Um a.vars)(hr:∀ v∈a.vars,0<=v/\v<n)(h:a.vars.length≠a.ar): atE n a=6:=by
 unfold atE;rw[if_neg (not_not_intro hb),if_neg (not_not_intro hr),if_pos h]
theorem mem_getD{P:Int->Prop}(h:∀ k,k<l.length->P (l.getD k 0)): ∀ v∈l,P v:=by
 intro v j;obtain⟨i,hi,rfl⟩:=List.getElem_of_mem j;have:=h i hi;rw[List.getD,List.getElem?_eq_getElem hi]at this;exact this
theorem Jhf{bs:List Atm}(hl:GX 2 RaC Nn w vl (bs.map raO))(ha:IntsV w va (nz (bs.map (·.ar)))):
  Ret Tryz.prog 10 [vl,va] w λu w'=>u=.int .i64 (if 32<bs.length then 12 else frE 32 bs)/\Ext w w':=by
 obtain⟨A,c,_,rfl,hc,ah,hR,_,he⟩:=id hl.el;obtain⟨B,bc,rfl,_,_,a5⟩:=ha;have ab:(bs.map raO).length=bs.length:=List.length_map ..;have a9:(nz (bs.map (·.ar))).length=bs.length:=by rw[Ju,List.length_map]
 rw[ab]at hR ah;rw[a9]at a5;refine Jz Tryz.func10 Tryz.ntmps10 rfl kr rfl ?_;rw[ab,a9];refine ρ ?_;refine ci (λh=>?_) (λh=>?_)
 .have:=oT h;refine ρ ?_;exact Jq ⟨by rw[if_pos om],Ext.refl _⟩
 have ao:bs.length<=32:=by have:=oF h;omega
 clear h;rw[if_neg om];refine ρ ?_;refine Jh (fun (i:Nat)=>[(0,.slice A bs.length c),(1,.slice B bs.length bc),(5,.int .i64 (i:Int))])
  (λi w'=>Ext w w'/\i<=bs.length/\∀ j,j<i->Yf 32 (bs.getD j a0)) (λi=>bs.length-i) 0 sB ⟨Ext.refl _,Nat.zero_le _,λj hj=>absurd hj (Nat.not_lt_zero _)⟩ ?_
 rintro i w1 ⟨a6,hi,a4⟩;refine ρ ?_;refine ci (λh=>?_) (λh=>?_)
 .have Z:i<bs.length:=by have:=oT h;omega
  clear h;obtain⟨ce,_,⟨v1,v2,rfl,a8⟩,ai⟩:=he i om;have hA:=a8.here.1;have aj:(bs.map raO)[i].vars=(bs.getD i a0).vars:=by simp[List.getD,List.getElem?_eq_getElem Z,raO]
  rw[aj]at hA;have ak:(bs.map (·.ar)).getD i 0=(bs.getD i a0).ar:=by simp[List.getD,List.getElem?_eq_getElem Z]
  have O:=Jkm (n:=32) a4 Z;generalize hga:bs.getD i a0=a at *
  obtain⟨D,d,rfl,hd,an,hD⟩:=hA;have c0:∀ {w':World},Ext w w'->w'.cell? ((adr A (i*2)).add 0)=some (.slice D a.vars.length d):=λhx=>Xx hx (ai 0 _ rfl);refine ρ ?_;refine Jh (fun (k:Nat)=>[(0,.slice A bs.length c),(1,.slice B bs.length bc),(5,.int .i64 (i:Int)),(6,.int .i64 (k:Int))])
   (λk w'=>Ext w w'/\1<=k/\(k=1∨k<=a.vars.length)/\∀ j,0<j->j<k->j<a.vars.length->a.vars.getD (j-1) 0<a.vars.getD j 0) (λk=>a.vars.length+1-k) 1 sB ⟨a6,Nat.le_refl _,.inl rfl,λj h1 h2=>om⟩ ?_
  rintro k w2 ⟨a2,aa,ae,J⟩;refine ρ ?_;refine ixq 2 i (hR.ext a2) Z ?_;refine ρ ?_;refine ld (c0 a2) ?_;refine ρ ?_;refine ci (λh=>?_) (λh=>?_)
  .have lk:k<a.vars.length:=by have:=oT h;omega
   clear h;have a3:Ext w2 w2.drew:=(Ext.refl w2).drew;have y:=a2.trans a3;refine ρ ?_;refine dr [(0,0),(0,1),(0,2),(0,3),(0,4),(0,5),(0,6),(0,7),(0,8),(0,9),(0,10),(0,11),(0,12),(0,13),(0,14),(0,15),(0,16),(0,17)] kr ?_;refine ρd ?_;refine Qp 2 i (hR.ext y) Z ?_;refine ρd ?_;refine dld (c0 y) ?_;refine ρd ?_;refine dix (k-1) (hD.ext y) om ?_;refine ρd ?_;refine dld ((hD.ext y).cell (Vd (by omega:k-1<a.vars.length))) ?_;refine ρd ?_;refine Qp 2 i (hR.ext y) Z ?_;refine ρd ?_;refine dld (c0 y) ?_;refine ρd ?_;refine dix k (hD.ext y) lk ?_;refine ρd ?_;refine dld ((hD.ext y).cell (Vd lk)) ?_;refine ρd ?_;refine ρ ?_;refine ci (λh=>?_) (λh=>?_)
   .have h:=oT h;have ac:=Jtg (n:=32) aa lk h;refine ρ ?_;exact Jq ⟨by rw[O (by rw[ac];decide),ac],y⟩
   have h:=oF h;refine ρ ?_;exact Jg (k+1) sO ⟨y,om,.inr om,λj h1 h2 h3=>by
    rcases Nat.lt_or_ge j k with h4|h4
    .exact J j h1 h4 h3
    have:j=k:=om
    subst this;omega⟩ om
  have U:Um a.vars:=λj h1 h2=>J j h1 (by have:=oF h;omega) h2;clear h J aa ae;refine ρ ?_;refine Jh (fun (k:Nat)=>[(0,.slice A bs.length c),(1,.slice B bs.length bc),(5,.int .i64 (i:Int)),(7,.int .i64 (k:Int))])
   (λk w'=>Ext w w'/\k<=a.vars.length/\∀ j,j<k->0<=a.vars.getD j 0/\a.vars.getD j 0<32) (λk=>a.vars.length-k) 0 sB ⟨a2,Nat.zero_le _,λj hj=>absurd hj (Nat.not_lt_zero _)⟩ ?_
  rintro q w3 ⟨F,hq,a1⟩;refine ρ ?_;refine ixq 2 i (hR.ext F) Z ?_;refine ρ ?_;refine ld (c0 F) ?_;refine ρ ?_;refine ci (λh=>?_) (λh=>?_)
  .have lq:q<a.vars.length:=by have:=oT h;omega
   clear h;refine ρ ?_;refine ixq 2 i (hR.ext F) Z ?_;refine ρ ?_;refine ld (c0 F) ?_;refine ρ ?_;refine ix q (hD.ext F) lq ?_;refine ρ ?_;refine ld ((hD.ext F).cell (Vd lq)) ?_;refine ρ ?_;refine ki 64 (λh=>?_) (λh=>?_)
   .have h:=oT h;have e3:=Jcr (n:=32) U lq (.inl h);refine ρ ?_;exact Jq ⟨by rw[O (by rw[e3];decide),e3],F⟩
   have am:=oF h;refine ρ ?_;refine ixq 2 i (hR.ext F) Z ?_;refine ρ ?_;refine ld (c0 F) ?_;refine ρ ?_;refine ix q (hD.ext F) lq ?_;refine ρ ?_;refine ld ((hD.ext F).cell (Vd lq)) ?_;refine ρ ?_;refine ci (λh=>?_) (λh=>?_)
   .have h:=oT h;have e3:=Jcr (n:=32) U lq (.inr om);refine ρ ?_;exact Jq ⟨by rw[O (by rw[e3];decide),e3],F⟩
   have h:=oF h;refine ρ ?_;exact Jg (q+1) sO ⟨F,om,λj hj=>by
    rcases Nat.lt_or_ge j q with h4|h4
    .exact a1 j h4
    have:j=q:=om
    subst this;omega⟩ om
  have a7:∀ v∈a.vars,0<=v/\v<32:=mem_getD λj hj=>a1 j (by have:=oF h;omega);clear h a1;have a3:Ext w3 w3.drew:=(Ext.refl w3).drew;have G:=F.trans a3;refine ρ ?_;refine dr [(0,0),(0,1),(0,2),(0,3),(0,4),(0,5),(0,6),(0,7),(0,8),(0,9),(0,10)] kr ?_;refine ρd ?_;refine Qp 2 i (hR.ext G) Z ?_;refine ρd ?_;refine dld (c0 G) ?_;refine ρd ?_;refine dix i (a5.ext G) Z ?_;refine ρd ?_;refine dld (v:=.int .i64 (a.ar:Int)) (((a5.ext G).cell (Qn (by rw[List.length_map];exact Z))).trans (by rw[ak])) ?_;refine ρd ?_;refine ρ ?_;refine ci (λh=>?_) (λh=>?_)
  .have ad:a.vars.length≠a.ar:=λe=>by rw[e]at h;simp at h
   have e6:=Jtf (n:=32) U a7 ad;refine ρ ?_;exact Jq ⟨by rw[O (by rw[e6];decide),e6],G⟩
  have ag:a.vars.length=a.ar:=by simp at h;omega
  refine ρ ?_;exact Jg (i+1) sO ⟨G,om,λj hj=>by
   rcases Nat.lt_or_ge j i with h4|h4
   .exact a4 j h4
   have:j=i:=om
   subst this;rw[hga];exact⟨U,a7,ag⟩⟩ om
 have af:i=bs.length:=by have:=oF h;omega
 subst af;refine ρ ?_;refine Jq ⟨?_,a6⟩;rw[Iu λa ha=>?_];obtain⟨j,hj,rfl⟩:=List.getElem_of_mem ha;have:=a4 j hj;rw[List.getD,List.getElem?_eq_getElem hj]at this;exact this
theorem Qng(hA:AtV w t a)(hne:atE 32 a≠0):
  Ret Tryz.prog 9 [.agg t.cells.toArray,.int .u32 s] w λu w'=>Ext w w'/\u=.tuple #[.agg #[.slice none 0 0,.int .i64 0,.slice none 0 0],.int .i64 (atE 32 a)]:=by
 obtain⟨t1,t2,t3⟩:=t;obtain⟨⟨D,d,e1,hd,aw,hD⟩,e2,ac⟩:=id hA;simp only at e1 e2;subst e1;subst e2;obtain⟨ps,G,gc,_,ag,_⟩:=id ac;simp only at ag;subst ag;refine Jz Tryz.func9 Tryz.ntmps9 rfl kr rfl ?_;refine ρ ?_;refine bx ?_;intro w1 b a6 hb hB;refine ρ ?_;refine alc Zo ?_;intro w2 br af ax ad;have aq:=hB.ext af;have a1:=a6.trans af;have F:∀ u∈[Value.slice none 0 0,.int .i64 0,.slice none 0 0],u.oneCell'=true:=Iv rfl;refine ρ ?_;refine Jh (fun (i:Nat)=>[(1,.int .u32 s),(2,.pointer (some ⟨b,0,none⟩)),(4,.pointer (some ⟨br,0,none⟩)),(6,.int .i64 (i:Int))])
  (λi w'=>1<=i/\(i=1∨i<=a.vars.length)/\(∀ j,0<j->j<i->j<a.vars.length->a.vars.getD (j-1) 0<a.vars.getD j 0)/\Ext w2 w') (λi=>a.vars.length+1-i) 1 sB ⟨nR _,.inl rfl,λj h1 h2=>om,Ext.refl _⟩ ?_
 rintro i w3 ⟨ai,an,O,y⟩;have a8:=aq.ext y;refine ρ ?_;refine ld (a8.at (i:=0) rfl) ?_;refine ρ ?_;refine ci (λh=>?_) (λh=>?_)
 .have li:i<a.vars.length:=by have:=oT h;omega
  clear h;have a2:Ext w3 w3.drew:=(Ext.refl w3).drew;have am:=a8.ext a2;have a7:Rd w3.drew 1 D a.vars.length (Jp a.vars):=hD.ext ((a1.trans y).trans a2);refine ρ ?_;refine dr [(0,0),(0,1),(0,2),(0,3),(0,4),(0,5),(0,6),(0,7),(0,8),(0,9),(0,10),(0,11)] kr ?_;refine ρd ?_;refine dld (am.at (i:=0) rfl) ?_;refine ρd ?_;refine dix (i-1) a7 om ?_;refine ρd ?_;refine dld (a7.cell (Vd (show i-1<a.vars.length by omega))) ?_;refine ρd ?_;refine dld (am.at (i:=0) rfl) ?_;refine ρd ?_;refine dix i a7 li ?_;refine ρd ?_;refine dld (a7.cell (Vd li)) ?_;refine ρd ?_;refine ρ ?_;refine ci (λh=>?_) (λh=>?_)
  .have h:=oT h;have au:=Jtg (n:=32) ai li h;refine ρ ?_;refine bld (Jcj _) ?_;refine ρ ?_;refine stb (cs':=[.slice none 0 0,.int .i64 0,.slice none 0 0]) (ad.ext (y.trans a2)) ?_ F;intro w4 ak av J;refine ρ ?_;exact Zz ak ⟨J w ((a1.trans y).trans a2) (by have:=a6.size;omega),by rw[au]⟩
  have h:=oF h;refine ρ ?_;exact Jg (i+1) sO ⟨om,.inr om,λj h1 h2 h3=>by
   rcases Nat.lt_or_ge j i with h4|h4
   .exact O j h1 h4 h3
   have:j=i:=om
   subst this;omega,y.trans a2⟩ om
 have a4:Um a.vars:=λj h1 h2=>O j h1 (by have:=oF h;omega) h2;clear h O ai an;refine ρ ?_;refine ld (a8.at (i:=0) rfl) ?_;refine ρ ?_;refine Jh (fun (i:Nat)=>[(1,.int .u32 s),(2,.pointer (some ⟨b,0,none⟩)),(4,.pointer (some ⟨br,0,none⟩)),(36,.slice D a.vars.length d),(37,.int .i64 (a.vars.length:Int)),(38,.int .i64 (i:Int))])
  (λi w'=>i<=a.vars.length/\(∀ j,j<i->0<=a.vars.getD j 0/\a.vars.getD j 0<32)/\Ext w3 w') (λi=>a.vars.length-i) 0 sB ⟨Nat.zero_le _,λj hj=>absurd hj (Nat.not_lt_zero _),Ext.refl _⟩ ?_
 rintro q w4 ⟨hq,a3,J⟩;have U:=(a1.trans y).trans J;have ap:=a8.ext J;refine ρ ?_;refine ci (λh=>?_) (λh=>?_)
 .have lq:q<a.vars.length:=by have:=oT h;omega
  clear h;have aj:Rd w4 1 D a.vars.length (Jp a.vars):=hD.ext U;have ae:(a.vars.getD q 0<0∨32<=a.vars.getD q 0)->atE 32 a=3:=λh=>Jcr a4 lq h;refine ρ ?_;refine ix q aj lq ?_;refine ρ ?_;refine ld (aj.cell (Vd lq)) ?_;refine ρ ?_;refine Km (fun (t:Bool)=>[(1,.int .u32 s),(2,.pointer (some ⟨b,0,none⟩)),(4,.pointer (some ⟨br,0,none⟩)),(36,.slice D a.vars.length d),(37,.int .i64 (a.vars.length:Int)),(38,.int .i64 (q:Int)),(47,.bool t)])
   (λt w5=>w5=w4/\t=decide (a.vars.getD q 0<0∨32<=a.vars.getD q 0)) ?_ ?_
  .refine ki 44 (λh=>?_) (λh=>?_)
   .have:=oT h;refine ρ ?_;exact Jr _ sB ⟨rfl,by grind⟩
   have:=oF h;refine ρ ?_;exact Jr _ sB ⟨rfl,by grind⟩
  rintro t w5 ⟨rfl,rfl⟩;refine ρ ?_;refine ci (λh=>?_) (λh=>?_)
  .have e3:=ae (oT h);refine ρ ?_;refine bld (Jcj _) ?_;refine ρ ?_;refine stb (cs':=[.slice none 0 0,.int .i64 0,.slice none 0 0]) (ad.ext (y.trans J)) ?_ F;intro w6 a5 ao aa;refine ρ ?_;exact Zz a5 ⟨aa w U (by have:=a6.size;omega),by rw[e3]⟩
  have h:=oF h;refine ρ ?_;exact Jg (q+1) sO ⟨om,λj hj=>by
   rcases Nat.lt_or_ge j q with h4|h4
   .exact a3 j h4
   have:j=q:=om
   subst this;omega,J⟩ om
 have ah:∀ v∈a.vars,0<=v/\v<32:=mem_getD λj hj=>a3 j (by have:=oF h;omega);clear h a3;have e6:a.vars.length≠a.ar:=λe=>hne (atE_ok.2 ⟨a4,ah,e⟩);have Z:Ext w4 w4.drew:=(Ext.refl w4).drew;have a9:=ap.ext Z;refine ρ ?_;refine dr [(0,0),(0,1),(0,2),(0,3),(0,4),(1,5),(0,6)] kr ?_;refine ρd ?_;refine dld (a9.at (i:=0) rfl) ?_;refine ρd ?_;refine Qj (cs:=[.int .i64 (a.ar:Int),.slice G ps.length gc]) (a9.sub2 (i:=1) rfl rfl) ?_;refine ρd ?_;refine dcl (Jqc ((hA.ext (U.trans Z)).rel)) ?_;rintro u w5 ⟨rfl,ab⟩;refine⟨ab,?_⟩;refine ρd ?_;refine ρ ?_;refine ct ?_ ?_
 .have:¬ (a.vars.length:Int)=(a.ar:Int):=λe=>e6 om;simpa using this
 refine ρ ?_;refine bld (Jcj _) ?_;refine ρ ?_;refine stb (cs':=[.slice none 0 0,.int .i64 0,.slice none 0 0]) (ad.ext (((y.trans J).trans Z).trans ab)) ?_ F;intro w6 a5 ao aa;refine ρ ?_;exact Zz a5 ⟨aa w ((U.trans Z).trans ab) (by have:=a6.size;omega),by rw[Jtf a4 ah e6]⟩
theorem Qfd{ms:List Row}(hA:AtV w t a)(har:a.vars.length=a.ar)(hl:∀ r∈a.rows,r.length<=100000)(hnl:∀ r∈a.rows,NoS r)(hu1:IntsV w u1 us)(hu2:RowsV w u2 ms)(hnm:∀ r∈ms,NoS r):
  Ret Tryz.prog 12 [.agg t.cells.toArray,.agg #[u1,u2]] w λu w'=>u=.bool (decide (a.vars=us/\a.rows=ms))/\Ext w w':=by
 obtain⟨t1,t2,t3⟩:=t;obtain⟨hv,e2,hr⟩:=id hA;simp only at hv e2 hr;subst e2;obtain⟨D,d,rfl,_⟩:=id hv;obtain⟨ps,G,gc,a8,rfl,ag,aa,_⟩:=id hr;obtain⟨E,e,rfl,_⟩:=id hu1;obtain⟨qs,F,fc,_,rfl,_⟩:=id hu2;refine Jz Tryz.func12 Tryz.ntmps12 rfl kr rfl ?_;refine ρ ?_;refine bx (cs:=[.slice D a.vars.length d,.int .i64 (a.ar:Int),.slice G ps.length gc]) ?_;intro w1 b1 a7 ai af;refine ρ ?_;refine bx (cs:=[.slice E us.length e,.slice F qs.length fc]) ?_;intro w2 b2 a4 ah ae;have a6:=af.ext a4;have a1:=a7.trans a4;refine ρ ?_;refine dr [(0,0),(0,1),(0,3),(0,4),(0,5),(1,2),(0,6),(0,7),(0,8),(0,10),(1,9),(1,11),(0,12),(0,13)] kr ?_;have U:Ext w2 w2.drew:=(Ext.refl w2).drew;have Z:=a6.ext U;have a5:=ae.ext U;have y:=a1.trans U;refine ρd ?_;refine Qj (cs:=[.int .i64 (a.ar:Int),.slice G ps.length gc]) (Z.sub2 (i:=1) rfl rfl) ?_;refine ρd ?_;refine dld (Z.at (i:=0) rfl) ?_;refine ρd ?_
 refine dcl (Jqc ((hA.ext y).rel)) ?_;rintro u w3 ⟨rfl,J⟩;refine⟨J,?_⟩;have ab:((a.ar:Int) == (a.vars.length:Int))=true:=by rw[har];simp
 refine ρd ?_;refine dkt 12 ab ?_;refine ρd ?_;refine Qj (cs:=[.slice D a.vars.length d,.int .i64 (a.ar:Int),.slice G ps.length gc]) (λj u hu=>(Z.ext J).at hu) ?_;refine ρd ?_;refine Qj (cs:=[.slice E us.length e,.slice F qs.length fc]) (λj u hu=>(a5.ext J).at hu) ?_;refine ρd ?_;have a9:a.rows.length<=1100000:=by rw[a8,List.length_map];exact aa
 refine dcl (Qdn (hA.ext (y.trans J)) hl a9) ?_;rintro u w4 ⟨x1,x2,rfl,ad,ac,a3⟩;refine⟨a3,?_⟩;refine ρd ?_;have O:=(y.trans J).trans a3;refine dcl (Qkz ad ac (hu1.ext O) (hu2.ext O) hnl hnm) ?_;rintro u w5 ⟨rfl,a2⟩;refine⟨a2,?_⟩;refine ρd ?_;refine ρ ?_;exact Jq ⟨rfl,O.trans a2⟩
open Go.RowKit Pl Go.Wk Bl Nw
variable {l m:List Row}{x:V}
theorem D4.noS(h:D4 x): x.str=⟨#[]⟩:=by
 unfold D4 at h;simp only[List.mem_cons,List.not_mem_nil,or_false]at h;rcases h with rfl|rfl|rfl|rfl<;>rfl
theorem D4.valid(h:D4 x): Xo x=true:=by
 unfold D4 at h;simp only[List.mem_cons,List.not_mem_nil,or_false]at h;rcases h with rfl|rfl|rfl|rfl<;>decide
theorem Qcz(i:Nat)(y:List Nat): ∀ x∈Xr i y,D4 x:=by
 intro x u;obtain⟨j,_,rfl⟩:=List.mem_map.1 u;have:y.getD j 0 % 4<4:=Nat.mod_lt _ (by decide);generalize y.getD j 0 % 4=z at *
 unfold D4;simp only[List.mem_cons,List.not_mem_nil,or_false];rcases(show z=0∨z=1∨z=2∨z=3 by omega) with rfl|rfl|rfl|rfl
 .exact .inl rfl
 .exact .inr (.inl rfl)
 .exact .inr (.inr (.inl rfl))
 exact .inr (.inr (.inr rfl))
structure MadeR(a:LA)(m:List Row): Prop where
 len:∀ r∈m,r.length=(lvs a).length
 d4:∀ r∈m,∀ x∈r,D4 x
 cnt:m.length<=12
 lt:Lt [] m
theorem Qkt{a:LA}(h:Rl a m)(hf:a.fits): MadeR a m:=by
 have j:∀ r∈m,∃ y∈a.rows,r=Xr (lvs a).length y:=λr i=>by
  obtain⟨y,u,e⟩:=List.mem_map.1 ((h.1.2 r).1 i);exact⟨y,u,e.symm⟩
 refine⟨λr i=>?_,λr i=>?_,?_,h.1.1⟩
 .obtain⟨y,_,rfl⟩:=j r i;exact Jqr _ _
 .obtain⟨y,_,rfl⟩:=j r i;exact Qcz _ _
 have:=Jgf h.1;rw[List.length_map]at this;have:=hf.2;omega
theorem MadeR.noS{a:LA}{m:List Row}(h:MadeR a m): ∀ r∈m,NoS r:=λr j x i=>(h.d4 r j x i).noS
theorem MadeR.valid{a:LA}{m:List Row}(h:MadeR a m): ∀ r∈m,r.all Xo=true:=λr j=>List.all_eq_true.2 λx i=>(h.d4 r j x i).valid
def all4: List (List Nat):=[[0,0,0,0],[0,1,0,0],[1,0,0,0],[1,1,0,0]]
def n01(i:Nat): V:=⟨1,(i:Int),⟨#[]⟩⟩
def L4: List Row:=[[n01 0,n01 0],[n01 0,n01 1],[n01 1,n01 0],[n01 1,n01 1]]
theorem Qnp: all4.map (Xr 2)=L4:=rfl
theorem Jtq: Lt [] L4:=by unfold Lt;decide +kernel
def exA(v:Nat): LA:=⟨v,all4,0⟩
theorem Jbk: lvs (exA 3)=[0,1]:=by decide +kernel
theorem Jbh: lvs (exA 6)=[1,2]:=by decide +kernel
theorem Jbj: lvs (exA 5)=[0,2]:=by decide +kernel
theorem Jbg{v:Nat}(h:Rl (exA v) m)(hl:(lvs (exA v)).length=2): m=L4:=by
 have i:=h.1;rw[hl]at i;exact Ux i.1 Jtq λx=>(i.2 x).trans (by rw[<-Qnp];rfl)
def exV(i:Nat): List Nat:=[[0,1],[1,2],[0,2]].getD i []
def L8: List Row:=[[n01 0,n01 0,n01 0],[n01 0,n01 0,n01 1],[n01 0,n01 1,n01 0],[n01 0,n01 1,n01 1],[n01 1,n01 0,n01 0],[n01 1,n01 0,n01 1],[n01 1,n01 1,n01 0],[n01 1,n01 1,n01 1]]
theorem L8_lt: Lt [] L8:=by unfold Lt;decide +kernel
theorem Jpn{x:Row}(h:∃ z:Row,z.length=3/\x=pmR (bk 7 32) z/\Jjl 3 exV (λ_=>L4) 7 z): x∈L8:=by
 have D:bk 7 32=[0,1,2]:=by decide +kernel
 obtain⟨z,y,rfl,u⟩:=h;match z,y with
 | [a,b,c],_=>
  rw[D];have e:pmR [0,1,2] [a,b,c]=[a,b,c]:=rfl;rw[e];obtain⟨r,i,h0⟩:=u 0 (by decide);obtain⟨q,j,F⟩:=u 1 (by decide);have O:r.getD 0 V0=a:=h0 0 (by decide) (by decide);have J:r.getD 1 V0=b:=h0 1 (by decide) (by decide);have G:q.getD 1 V0=c:=F 1 (by decide) (by decide);unfold L4 at i j;simp only[List.mem_cons,List.not_mem_nil,or_false]at i j;rcases i with rfl|rfl|rfl|rfl<;>rcases j with rfl|rfl|rfl|rfl<;>subst O<;>subst J<;>subst G<;>simp[L8,List.getD]
theorem Qgd(hl:Lt [] l)(h:∀ x,x∈l↔∃ z:Row,z.length=3/\x=pmR (bk 7 32) z/\Jjl 3 exV (λ_=>L4) 7 z): l=L8:=by
 have J:bk 7 32=[0,1,2]:=by decide +kernel
 refine Ux hl L8_lt λx=>?_;rw[h];constructor
 .exact Jpn
 intro y;have key:∀ i j k:Nat,i<2->j<2->k<2->∃ z:Row,z.length=3/\[n01 i,n01 j,n01 k]=pmR (bk 7 32) z/\Jjl 3 exV (λ_=>L4) 7 z:=λi j k hi G F=>by
  have D:∀ p q:Nat,p<2->q<2->[n01 p,n01 q]∈L4:=λp q u U=>by
   rcases(show p=0∨p=1 by omega) with rfl|rfl<;>rcases(show q=0∨q=1 by omega) with rfl|rfl<;>simp[L4]
  refine⟨[n01 i,n01 j,n01 k],rfl,by rw[J];rfl,λv O=>?_⟩;rcases(show v=0∨v=1∨v=2 by omega) with rfl|rfl|rfl
  .refine⟨_,D i j hi G,λp u _=>?_⟩;have u:p<2:=u;rcases(show p=0∨p=1 by omega) with rfl|rfl<;>rfl
  .refine⟨_,D j k G F,λp u _=>?_⟩;have u:p<2:=u;rcases(show p=0∨p=1 by omega) with rfl|rfl<;>rfl
  refine⟨_,D i k hi F,λp u _=>?_⟩;have u:p<2:=u;rcases(show p=0∨p=1 by omega) with rfl|rfl<;>rfl
 unfold L8 at y;simp only[List.mem_cons,List.not_mem_nil,or_false]at y;rcases y with rfl|rfl|rfl|rfl|rfl|rfl|rfl|rfl<;>exact key _ _ _ (by decide) (by decide) (by decide)
theorem Jls{N:Nat->Prop}{w:World}{v:Value}{n:Nat}(h:NatX N w v n): ∃ A m c,v=.slice A m c:=by obtain⟨⟨A,c,e,_⟩,_⟩:=h;exact⟨A,_,c,e⟩
theorem Jkz(a b:Int)(w:World): (Instr.build 71 #[(0,.int .u8 a),(1,.int .u8 b)]).run Tryz.prog w=.ok (.agg #[.int .u8 a,.int .u8 b,.int .u8 0,.int .u8 0]) w:=kr
theorem bs4B(a0 a1 b0 b1 c0 c1 d0 d1:Int)(w:World): (Instr.buildSlice 22 4 #[(0,.agg #[.int .u8 a0,.int .u8 a1,.int .u8 0,.int .u8 0]),(1,.agg #[.int .u8 b0,.int .u8 b1,.int .u8 0,.int .u8 0]),(2,.agg #[.int .u8 c0,.int .u8 c1,.int .u8 0,.int .u8 0]),(3,.agg #[.int .u8 d0,.int .u8 d1,.int .u8 0,.int .u8 0])]).run Tryz.prog w=.ok (.slice (some ⟨w.heap.size,0,none⟩) 4 4) (w.alloc (.cells ([.int .u8 a0,.int .u8 a1,.int .u8 0,.int .u8 0,.int .u8 b0,.int .u8 b1,.int .u8 0,.int .u8 0,.int .u8 c0,.int .u8 c1,.int .u8 0,.int .u8 0,.int .u8 d0,.int .u8 d1,.int .u8 0,.int .u8 0]:List Value).toArray 71)):=kr
theorem Jch(v:Int)(A:Option Addr)(n c:Nat)(w:World): (Instr.build 24 #[(0,.int .u8 v),(1,.slice A n c)]).run Tryz.prog w=.ok (.agg #[.int .u8 v,.slice A n c,.int .u8 0]) w:=kr
theorem bs3LA(x y z:Int)(A B C:Option Addr)(n c m d k e:Nat)(w:World): (Instr.buildSlice 31 3 #[(0,.agg #[.int .u8 x,.slice A n c,.int .u8 0]),(1,.agg #[.int .u8 y,.slice B m d,.int .u8 0]),(2,.agg #[.int .u8 z,.slice C k e,.int .u8 0])]).run Tryz.prog w=.ok (.slice (some ⟨w.heap.size,0,none⟩) 3 3) (w.alloc (.cells ([.int .u8 x,.slice A n c,.int .u8 0,.int .u8 y,.slice B m d,.int .u8 0,.int .u8 z,.slice C k e,.int .u8 0]:List Value).toArray 24)):=kr
theorem bs3U(w:World): (Instr.buildSlice 81 3 #[(0,.int .u32 3),(1,.int .u32 6),(2,.int .u32 5)]).run Tryz.prog w=.ok (.slice (some ⟨w.heap.size,0,none⟩) 3 3) (w.alloc (.cells ([.int .u32 3,.int .u32 6,.int .u32 5]:List Value).toArray 25)):=kr
theorem bldGr(z:Int)(A:Option Addr)(n c:Nat)(w:World): (Instr.build 90 #[(0,.int .i64 z),(1,.slice A n c)]).run Tryz.prog w=.ok (.agg #[.int .i64 z,.slice A n c]) w:=kr
theorem bs3I(w:World): (Instr.buildSlice 28 3 #[(0,.int .i64 4),(1,.int .i64 4),(2,.int .i64 4)]).run Tryz.prog w=.ok (.slice (some ⟨w.heap.size,0,none⟩) 3 3) (w.alloc (.cells ([.int .i64 4,.int .i64 4,.int .i64 4]:List Value).toArray 3)):=kr
theorem Jcq(w:World): Ret Tryz.prog 8 [] w λu w'=>u=.bool true/\Ext w w':=by
 refine Jz Tryz.func8 Tryz.ntmps8 rfl kr rfl ?_;refine ρ ?_;refine bld (Jkz _ _ _) ?_;refine ρ ?_;refine bld (Jkz _ _ _) ?_;refine ρ ?_;refine bld (Jkz _ _ _) ?_;refine ρ ?_;refine bld (Jkz _ _ _) ?_;refine ρ ?_;refine bsl (bs4B _ _ _ _ _ _ _ _) ?_;intro w1 b1 ay bz bl;refine ρ ?_;refine bld (Jch _ _ _ _ _) ?_;refine ρ ?_;refine bld (Jch _ _ _ _ _) ?_;refine ρ ?_;refine bld (Jch _ _ _ _ _) ?_;refine ρ ?_;refine bsl (bs3LA _ _ _ _ _ _ _ _ _ _ _ _) ?_;intro w2 b2 a8 bw bj;have ah:=bl.ext a8;have a4:GX 4 U8R Nn w2 (.slice (some ⟨b1,0,none⟩) 4 4) all4:=by
  refine gxOf (ps:=all4.map λr=>(u8C r,r)) (ah.rd (n:=4) rfl) (nR 4) (by show 4<=1100000;decide) λp hp=>?_;obtain⟨r,hr,rfl⟩:=List.mem_map.1 hp;unfold all4 at hr;simp only[List.mem_cons,List.not_mem_nil,or_false]at hr;rcases hr with rfl|rfl|rfl|rfl<;>exact⟨rfl,rfl,rfl,by decide⟩
 have bf:GX 3 LaC Nn w2 (.slice (some ⟨b2,0,none⟩) 3 3) [exA 3,exA 6,exA 5]:=by
  refine gxOf (ps:=[exA 3,exA 6,exA 5].map λa=>([.int .u8 (a.vars:Int),.slice (some ⟨b1,0,none⟩) 4 4,.int .u8 0],a)) (bj.rd (n:=3) rfl) (nR 3) (by show 3<=1100000;decide) λp hp=>?_;obtain⟨a,ha,rfl⟩:=List.mem_map.1 hp;simp only[List.mem_cons,List.not_mem_nil,or_false]at ha;have j:∀ v,v<7->(exA v).vars<256/\(exA v).bad<256:=λv h=>⟨Nat.lt_trans h (by decide),show 0<256 by decide⟩;rcases ha with rfl|rfl|rfl
  .exact⟨rfl,(j 3 (by decide)).1,(j 3 (by decide)).2,_,rfl,a4⟩
  .exact⟨rfl,(j 6 (by decide)).1,(j 6 (by decide)).2,_,rfl,a4⟩
  exact⟨rfl,(j 5 (by decide)).1,(j 5 (by decide)).2,_,rfl,a4⟩
 refine ρ ?_;refine cl (Jmd bf (by decide)) ?_;rintro u w3 ⟨ax,h3⟩;have a2:∀ a∈[exA 3,exA 6,exA 5],a.fits:=λa ha=>by
  simp only[List.mem_cons,List.not_mem_nil,or_false]at ha;rcases ha with rfl|rfl|rfl
  .exact⟨by rw[Jbk];decide,by decide⟩
  .exact⟨by rw[Jbh];decide,by decide⟩
  exact⟨by rw[Jbj];decide,by decide⟩
 rcases h3 with⟨_,vo,vm,va,ms,rfl,ba,a3,hO,_,_⟩|⟨hno,_⟩
 case inr=>exact absurd a2 hno
 match ms,ba with
 | [m0,m1,m2],_=>
 have e0:m0=L4:=Jbg (a3 0 (by simp) (by simp)) (by rw[Jbk];rfl);have e1:m1=L4:=Jbg (a3 1 (by simp) (by simp)) (by rw[Jbh];rfl);have e2:m2=L4:=Jbg (a3 2 (by simp) (by simp)) (by rw[Jbj];rfl);subst e0;subst e1;subst e2;obtain⟨ts,A,c,am,rfl,hc,_,hR,be⟩:=Jtd (hO.1.imp (Ψ:=AtG) (f:=λa=>a) λcs a _ ⟨t,e,h⟩=>⟨t,e,h.here⟩);have ae:ts.length=3:=by
  have:=congrArg List.length am;rw[List.length_map,List.length_map]at this;exact this.symm
 have af:∀ i,i<ts.length->(ts.getD i ta0).2=⟨nz (exV i),(exV i).length,L4⟩:=λi hi=>by
  rw[<-Jxt,<-am];have hb:∀ v,Qc (exA v)=nz (lvs (exA v)):=λv=>by unfold Qc;rw[if_pos (show(exA v).bad=0 from rfl)]
  rcases(show i=0∨i=1∨i=2 by omega) with rfl|rfl|rfl
  .show(⟨Qc (exA 3),(lvs (exA 3)).length,L4⟩:Atm)=_;rw[hb,Jbk];rfl
  .show(⟨Qc (exA 6),(lvs (exA 6)).length,L4⟩:Atm)=_;rw[hb,Jbh];rfl
  show(⟨Qc (exA 5),(lvs (exA 5)).length,L4⟩:Atm)=_;rw[hb,Jbj];rfl
 have i3:∀ {p:Nat->Prop},p 0->p 1->p 2->∀ i,i<ts.length->p i:=λh0 h1 h2 i hi=>by
  rcases(show i=0∨i=1∨i=2 by omega) with rfl|rfl|rfl<;>assumption
 have b8:MOk 3 ts exV (λ_=>L4) 7:=by
  refine⟨⟨by decide,om,af,i3 ?_ ?_ ?_,i3 ?_ ?_ ?_,λv hv=>?_,λi _=>Jtq,i3 ?_ ?_ ?_,λi _=>by decide⟩,by decide,λi _=>by decide +kernel,λi _=>.inl (by decide)⟩
  .unfold Qo;decide
  .unfold Qo;decide
  .unfold Qo;decide
  .decide
  .decide
  .decide
  .rcases(show v=0∨v=1∨v=2 by omega) with rfl|rfl|rfl
   .exact⟨0,om,by decide⟩
   .exact⟨0,om,by decide⟩
   exact⟨1,om,by decide⟩
  .decide
  .decide
  decide
 refine ρ ?_;refine cl (Qcg (n:=3) (s:=7) b8 hR hc be λl hl h=>?_) ?_
 .rw[ae]at h;exact nL (Jzr (Jyq hl) (m:=L8) λx hx=>Jpn (h x hx)) (by decide)
 rintro u w4 ⟨aw,t',st,l,rfl,ad,bb,Z,_⟩;rw[ae]at Z;have el:l=L8:=Qgd bb Z;subst el;have ak:AtV w4 t' ⟨nz (bk 7 32),(bk 7 32).length,L8⟩:=ad.here;obtain⟨t1,t2,t3⟩:=t';obtain⟨⟨E,ec,eE,_⟩,e2,a6,F,fc,c0,eF,_⟩:=id ak;simp only at eE e2 eF;subst eE;subst e2;subst eF;refine ρ ?_;refine alc Zo ?_;intro w5 b5 av bd bi;refine ρ ?_;refine stb (cs':=[.slice E (nz (bk 7 32)).length ec,.int .i64 ((bk 7 32).length:Int),.slice F a6.length fc]) bi ?_ (Iv rfl);intro w6 ag bu au;have a7:Ext w4 w6:=au w4 av bd;refine ρ ?_;refine bsl bs3U ?_;intro w7 b7 ar bv bh;refine ρ ?_;refine bld (bldGr _ _ _ _ _) ?_;refine ρ ?_;refine cl (Qqw (A:=some ⟨b7,0,none⟩) (c:=3) ⟨bh.rd (n:=3) rfl,Nat.le_refl 3,by decide,by decide,by decide⟩) ?_;rintro u w8 ⟨W,P,q1,q2,rfl,hW,hP,b6,b4,aq⟩;obtain⟨WA,Wc,_,rfl,_⟩:=id hW.el;obtain⟨bm,Pc,_,rfl,_⟩:=id hP.el;obtain⟨Q1,m1,c1,rfl⟩:=Jls b6;obtain⟨Q2,m2,c2,rfl⟩:=Jls b4
 have J:=ar.trans aq;have bp:=ag.ext J;refine ρ ?_;refine alc Kd ?_;intro w9 b9 ap bc bg;refine ρ ?_;refine stb (cs':=[.slice WA 3 Wc,.slice bm 3 Pc,.bool false,.slice Q1 m1 c1,.slice Q2 m2 c2]) bg ?_ (λu hu=>by
  simp only[List.mem_cons,List.not_mem_nil,or_false]at hu;rcases hu with rfl|rfl|rfl|rfl|rfl<;>rfl)
 intro ao aj bn ac;have a1:Ext w8 ao:=ac w8 ap bc;refine ρ ?_;refine ldW aj ?_;refine ρ ?_;refine bsl bs3I ?_;intro bt c3 ab bo ai;have y:=a1.trans ab;refine ρ ?_;refine cl (Qxb (hW.ext RtC.sta (by decide) y) (ai.rd (n:=3) rfl)) ?_;rintro u bs ⟨⟨vb,rfl,az⟩,aa⟩;have D:=J.trans (y.trans aa);have a5:=ag.ext D;have G:=a7.trans D;refine ρ ?_;refine lds (cs:=[.int .i64 ((bk 7 32).length:Int),.slice F a6.length fc]) (a5.sub2 (i:=1) rfl rfl) ?_;refine ρ ?_;refine cl (Jqb ((ak.ext G).rel)) ?_;rintro u an ⟨rfl,U⟩;refine ρ ?_;refine cl (Qbt 8 (by decide) an) ?_;rintro v8 br ⟨b3,O⟩;refine ρ ?_;refine cl (Jqm (az.ext (U.trans O)) b3) ?_;rintro u bq ⟨rfl,a9⟩;refine ρ ?_;have e8:(Vh 8 8 == 0)=true:=by decide +kernel
 refine Jq ⟨congrArg Value.bool e8,?_⟩;exact ay.trans (a8.trans (ax.trans (aw.trans (G.trans (U.trans (O.trans a9))))))
open Go.RowKit Pl Go.Wk Bl Nw
variable {a:LA}{m:List Row}
theorem bs1LA(x y:Int)(A:Option Addr)(n c:Nat)(w:World): (Instr.buildSlice 31 1 #[(0,.agg #[.int .u8 x,.slice A n c,.int .u8 y])]).run Tryz.prog w=.ok (.slice (some ⟨w.heap.size,0,none⟩) 1 1) (w.alloc (.cells ([.int .u8 x,.slice A n c,.int .u8 y]:List Value).toArray 24)):=kr
def vsO(a:LA): List Nat:=(Qc a).map Int.toNat
theorem Qqb(h:Yf 32 (atm a m)): Qc a=nz (vsO a):=by
 unfold vsO nz;rw[List.map_map];refine(List.map_id _).symm.trans (List.map_congr_left λv i=>?_);have:=(h.2.1 v i).1;simp[Function.comp];omega
structure OkA(a:LA)(m:List Row): Prop where
 nz:Qc a=nz (vsO a)
 asc:Qo (vsO a)
 lt:∀ v∈vsO a,v<32
 len:(vsO a).length=(lvs a).length
theorem okA(h:Yf 32 (atm a m)): OkA a m:=by
 have e:=Qqb h;refine⟨e,?_,λv y=>?_,?_⟩
 .refine List.pairwise_iff_getElem.2 λi j hi D F=>?_;have key:∀ k,k+1<(vsO a).length->(vsO a).getD k 0<(vsO a).getD (k+1) 0:=λk u=>by
   have G:k+1<(Qc a).length:=by rw[e,Ju];exact u
   have:=h.1 (k+1) om G;have g:∀ i,i<(vsO a).length->(Qc a).getD i 0=((vsO a).getD i 0:Int):=λi hi=>by
    rw[e];simp[Go.Proofs.YtebiphhfkdbpfaaGreat.nz,List.getD,List.getElem?_eq_getElem hi]
   rw[show(atm a m).vars=Qc a from rfl,show k+1-1=k by omega,g k om,g (k+1) u]at this;omega
  have mono:∀ d i,i+d+1<(vsO a).length->(vsO a).getD i 0<(vsO a).getD (i+d+1) 0:=λd=>by
   induction d with
   | zero=>exactλi hi=>key i hi
   | succ d ih=>exactλi hi=>Nat.lt_trans (ih i om) (key (i+d+1) om)
  have:=mono (j-i-1) i om;rw[show i+(j-i-1)+1=j by omega]at this;simpa [List.getD,List.getElem?_eq_getElem hi,List.getElem?_eq_getElem D] using this
 .have:=(h.2.1 (v:Int) (by rw[show(atm a m).vars=Qc a from rfl,e];exact List.mem_map.2 ⟨v,y,rfl⟩)).2;omega
 have:=h.2.2;rw[show(atm a m).vars=Qc a from rfl,e,Ju]at this;exact this
theorem OkA.atm(h:OkA a m): atm a m=⟨Go.Proofs.YtebiphhfkdbpfaaGreat.nz (vsO a),(vsO a).length,m⟩:=by
 show(⟨Qc a,(lvs a).length,m⟩:Atm)=_;rw[h.nz,h.len]
theorem Qnf{w:World}{cs:List Value}{s:Nat}(ha:LaC Nn w cs a)(hs:s<4294967296): Ret Tryz.prog 3 [.agg cs.toArray,.int .u32 (s:Int)] w λu w'=>u=.bool true/\Ext w w':=by
 obtain⟨bj,br,v,rfl,hG⟩:=id ha;obtain⟨G,gc,_,rfl,_⟩:=id hG.el;refine Jz Tryz.func3 Tryz.ntmps3 rfl kr rfl ?_;refine ρ ?_;refine bx (cs:=[.int .u8 (a.vars:Int),.slice G a.rows.length gc,.int .u8 (a.bad:Int)]) ?_;intro w1 b1 bi c3 bz;refine ρ ?_;refine ldW bz ?_;refine ρ ?_;refine bsl (bs1LA _ _ _ _ _) ?_;intro w2 b2 bh c2 bw;have a9:=bi.trans bh;have bv:GX 3 LaC Nn w2 (.slice (some ⟨b2,0,none⟩) 1 1) [a]:=gxOf (ps:=[([.int .u8 (a.vars:Int),.slice G a.rows.length gc,.int .u8 (a.bad:Int)],a)]) (bw.rd (n:=1) rfl) (nR 1) (by show 1<=1100000;decide) λp hp=>by
  rw[List.mem_singleton.1 hp];exact⟨rfl,LaC.sta.gr ha (GrN.ext a9)⟩
 refine ρ ?_;refine cl (Jmd bv (by show 1<=1048576;decide)) ?_;rintro u w3 ⟨bg,h3⟩;have a5:=a9.trans bg;rcases h3 with⟨hf,vo,vm,va,ms,rfl,bm,bt,hO,hM,hI⟩|⟨hno,rfl⟩
 case inr=>
  refine ρ ?_;refine cl (Jcq _) ?_;rintro x w4 ⟨rfl,a4⟩;refine ρ ?_;exact Jq ⟨rfl,a5.trans a4⟩
 match ms,bm with
 | [m],_=>
 have ae:MadeR a m:=Qkt (bt 0 (by simp) (by simp)) (hf a (by simp));obtain⟨A,c,_,rfl,hc,_,hR,_,he⟩:=id hO.el;obtain⟨ce,_,⟨t,rfl,bs⟩,bq⟩:=he 0 (by simp);have b9:AtV w3 t (atm a m):=bs.here;obtain⟨B,bc,_,rfl,_,_,ag,_,bp⟩:=id hM.el;obtain⟨c5,_,⟨r1,r2,rfl,bl⟩,ax⟩:=bp 0 (by simp);have a6:IntsV w3 r1 (Qc a)/\RowsV w3 r2 m:=bl.here;obtain⟨t1,t2,t3⟩:=t;obtain⟨E,ec,eE,_⟩:=id a6.1;obtain⟨be,F,fc,_,eF,_⟩:=id a6.2;subst eE;subst eF;have hR:Rd w3 3 A 1 _:=hR;have ag:Rd w3 2 B 1 _:=ag;have b6:GX 2 RaC Nn w3 (.slice B 1 bc) ([atm a m].map raO):=hM;have b7:IntsV w3 va (nz ([atm a m].map (·.ar))):=hI
 refine ρ ?_;refine ixq 3 0 hR (by decide) ?_;refine ρ ?_;refine lds (cs:=[t1,t2,t3]) bq ?_;by_cases hok:atE 32 (atm a m)=0
 .have ok:=okA (atE_ok.1 hok);have b8:AtV w3 (t1,t2,t3) ⟨nz (vsO a),(vsO a).length,m⟩:=by rw[<-ok.atm];exact b9
  have aa:∀ r∈m,r.length=(vsO a).length:=λr hr=>by rw[ok.len];exact ae.len r hr
  have aw:=ae.cnt;have ay:m.length<=65536:=om
  have bn:m.length<=1000000:=om
  refine ρ ?_;refine cl (Jsz b8 hs ok.asc ok.lt aa ay) ?_;rintro u w4 ⟨a4,t',rfl,P,aq,c4,_,O⟩;have O:=O (.inl aw);have hP:=aq.here;obtain⟨p1,p2,p3⟩:=t';obtain⟨⟨P1,an,bd,_⟩,bb,ak,P3,am,c0,ba,_⟩:=id hP;simp only at bd bb ba;subst bd;subst bb;subst ba;refine ρ ?_;refine alc Zo ?_;intro w5 b5 ac af aj;refine ρ ?_;refine stb (cs':=[.slice P1 (nz (inS (vsO a) s)).length an,.int .i64 ((inS (vsO a) s).length:Int),.slice P3 ak.length am]) aj ?_ (Iv rfl);intro w6 ai bo ab;have U:Ext w4 w6:=ab w4 ac af;have D:=a4.trans U;have ad:(if 32<[atm a m].length then(12:Int) else frE 32 [atm a m])=0:=by
   rw[if_neg (by simp),Iu λb hb=>by rw[List.mem_singleton.1 hb];exact atE_ok.1 hok]
  refine ρ ?_;refine cl (Jhf (b6.ext RaC.sta (by decide) D) (b7.ext D)) ?_;rintro u w7 ⟨e,Z⟩;rw[ad]at e;subst e;have ap:=D.trans Z;have az:IntsV w3 (.slice E (Qc a).length ec) (nz (vsO a)):=by rw[<-ok.nz];exact a6.1
  refine ρ ?_;refine dr [(1,0),(0,1),(0,2),(0,3),(0,4),(0,5),(0,6),(0,7),(0,8),(0,9),(0,10),(1,11),(1,12),(0,13),(0,14)] kr ?_;have bf:Ext w7 w7.drew:=(Ext.refl w7).drew;refine dcl (Jcq _) ?_;rintro x w8 ⟨rfl,a2⟩;refine⟨a2,?_⟩;have a3:=bf.trans a2;have J:=ap.trans a3;have a7:=ai.ext (Z.trans a3);refine ρd ?_;refine Qj (cs:=[.slice P1 (nz (inS (vsO a) s)).length an,.int .i64 ((inS (vsO a) s).length:Int),.slice P3 ak.length am]) (λj u hu=>a7.at hu) ?_;refine ρd ?_;refine Qp 2 0 (ag.ext J) (by decide) ?_;refine ρd ?_;refine Qj (cs:=[.slice E (Qc a).length ec,.slice F be.length fc]) (λj u hu=>Xx J (ax j u hu)) ?_;refine ρd ?_;have av:=ae.noS;have b3:∀ r∈P,NoS r:=λr hr=>by
   obtain⟨y,hy,rfl⟩:=List.mem_map.1 ((O.2 r).1 hr);exact(av y hy).pm _
  have b4:∀ r∈P,r.length<=100000:=λr hr=>by
   obtain⟨y,hy,rfl⟩:=List.mem_map.1 ((O.2 r).1 hr);have h1:=Jjj ok.asc ok.lt;have h2:(Xw (vsO a) s).length<=(vsO a).length:=by
    have:=List.length_filter_le (λi=>s.testBit ((vsO a).getD i 0)) (List.range (vsO a).length);rw[List.length_range]at this;exact this
   simp only[pmR,List.length_map];omega
  refine dcl (Qwb (az.ext J) (a6.2.ext J) hs ok.asc ok.lt aa av bn) ?_;rintro u w9 ⟨x1,x2,Q,rfl,au,ah,a1⟩;refine⟨a1,?_⟩;have bu:Q=P:=ah.uniq O;subst bu;refine ρd ?_;have ao:=U.trans (Z.trans (a3.trans a1));refine dcl (Qfd (hP.ext ao) (by simp only;rw[Ju]) b4 b3 au.here.1 au.here.2 b3) ?_;rintro u c1 ⟨rfl,a8⟩;refine⟨a8,?_⟩;refine ρd ?_;refine ρ ?_;have hd:decide (nz (inS (vsO a) s)=nz (inS (vsO a) s)/\Q=Q)=true:=decide_eq_true ⟨rfl,rfl⟩;exact Jq ⟨congrArg Value.bool hd,a5.trans (J.trans (a1.trans a8))⟩
 have ad:(if 32<[atm a m].length then(12:Int) else frE 32 [atm a m])=atE 32 (atm a m):=by
  rw[if_neg (by simp)];exact Jkm (n:=32) (l:=[atm a m]) (i:=0) (λj hj=>absurd hj (Nat.not_lt_zero _)) (by simp) hok
 refine ρ ?_;refine cl (Qng b9 hok) ?_;rintro u w4 ⟨a4,rfl⟩;refine ρ ?_;refine alc Zo ?_;intro w5 b5 ac af aj;refine ρ ?_;refine stb (cs':=[.slice none 0 0,.int .i64 0,.slice none 0 0]) aj ?_ (Iv rfl);intro w6 ai bo ab;have U:Ext w4 w6:=ab w4 ac af;have D:=a4.trans U;refine ρ ?_;refine cl (Jhf (b6.ext RaC.sta (by decide) D) (b7.ext D)) ?_;rintro u w7 ⟨e,Z⟩;rw[ad]at e;subst e;refine ρ ?_;refine ct ?_ ?_
 .simpa using hok
 refine ρ ?_;refine cl (Jcq _) ?_;rintro x w8 ⟨rfl,a2⟩;have a7:=ai.ext (Z.trans a2);refine ρ ?_;refine kt 42 ?_ ?_
 .simp
 refine ρ ?_;refine ld (a7.at (i:=0) rfl) ?_;refine ρ ?_;refine lds (cs:=[.int .i64 0,.slice none 0 0]) (a7.sub2 (i:=1) rfl rfl) ?_;refine ρ ?_;refine cl (Jqb (ar:=0) (ls:=[]) ⟨_,rfl,RowsV.nil _ _ _⟩) ?_;rintro u w9 ⟨rfl,a1⟩;refine ρ ?_;exact Jq ⟨rfl,a5.trans (D.trans (Z.trans (a2.trans a1)))⟩
end Go.Proofs.YtebiphhfkdbpfaaGreat
namespace Go.Wk
open Go.RowKit Go.ChangeShapes Go.WideShapes
section
variable {H:Type} {enc:TypeId×Value->H} {P:Program} {w:World} {base:Nat} {spare:Nat->Bool} {held:Bool}
theorem rd_of{A:Option Addr}{sz len:Nat}{cs:List Value}{ad:Addr}(hA:A=some ad)(hl:cs.length=len*sz)(hc:∀ j u,cs[j]?=some u->w.cell? (ad.add j)=some u): Rd w sz A len cs :=
 ⟨hl,λh0=>⟨ad,hA,by
  have i:=hc 0 cs[0] (gE h0);rw[add_zero]at i;exact World.block_lt_of_cell? w ad i,hc⟩⟩
end
end Go.Wk
namespace Go.Proofs.YtebiphhfkdbpfaaGreat
open Go.RowKit Pl Go.Wk Go.ChangeShapes Go.WideShapes
variable {cs:List Value}{fuel n:Nat}{H α:Type}
theorem Qlx(d:DataW H): 1<=Rows.uptoBulk d:=by
 cases d with
 | lit l=>cases l<;>simp[Rows.uptoBulk]
 | nil=>simp[Rows.uptoBulk]
 | ptr d=>simp[Rows.uptoBulk]
 | slice elems spare=>simp[Rows.uptoBulk]
 | agg parts=>simp[Rows.uptoBulk]
 | iface t d=>simp[Rows.uptoBulk]
 | map entries=>simp[Rows.uptoBulk]
 | held h=>simp[Rows.uptoBulk]
theorem Jsd{d:DataW H}{l:List (DataW H)}(h:d∈l): Rows.uptoBulk d<=Rows.uptoBulkAll l:=by
 induction l with
 | nil=>cases h
 | cons x r ih=>
  simp only[Rows.uptoBulkAll];grind
theorem Qlz(l:List (DataW H)): l.length<=Rows.uptoBulkAll l:=by
 induction l with
 | nil=>simp[Rows.uptoBulkAll]
 | cons x r ih=>have:=Qlx x;simp only[Rows.uptoBulkAll,List.length_cons];omega
section
variable {H:Type} {enc:TypeId×Value->H} {P:Program} {w:World} {base:Nat} {spare:Nat->Bool} {held:Bool} {B:Nat}
theorem Qyq{t e sz:Nat}{x:DataW H×List MemPlace}(X:α->List Value)(R:α->Prop)(ht:P.underlying t=some (.slice e))(hc:P.cellsOf e=sz)(hb:Rows.uptoBulk x.1<=B)(hX:∀(n:Nat) (cs':List Value) (y:DataW H×List MemPlace),DataW.trod enc P w base spare held n e cs'=some y->Rows.uptoBulk y.1<=B->∃ z:α,cs'=X z/\R z)(h:DataW.trod enc P w base spare held fuel t cs=some x): ∃(l:List α) (A:Option Addr) (cap:Nat),cs=[.slice A l.length cap]/\Rd w sz A l.length (l.flatMap X)/\(∀ z∈l,R z)/\l.length<=cap/\l.length<=B:=by
 rcases Go.Deep.open_slice ht h with⟨F,_⟩|⟨a,len,cap,m,n,D,Pl,F,_,hl,hm,hmm,hx,hel⟩
 .exact⟨[],none,0,F,Rd.nil,(λz J=>by cases J),Nat.le_refl _,Nat.zero_le _⟩
 subst F;subst hx;have a3:len<=m:=by grind
 have U:Rows.uptoBulkAll ((List.range len).map D)<=B:=by
  simp only[Rows.uptoBulk]at hb;omega
 have a4:len<=B:=by
  have:=Qlz ((List.range len).map D);simp at this;omega
 have key:∀ k,k<=len->∃ l:List α,l.length=k/\(l.flatMap X).length=k*sz/\(∀ j u,(l.flatMap X)[j]?=some u->w.cell? (a.add j)=some u)/\∀ z∈l,R z:=by
  intro k;induction k with
  | zero=>intro _;exact⟨[],rfl,by simp,(λj u G=>by simp at G),(λz J=>by cases J)⟩
  | succ k ih=>
   intro hk;obtain⟨l,h1,h2,h3,h4⟩:=ih om;obtain⟨cs',i,O⟩:=hel k om;have a1:D k∈(List.range len).map D:=by grind
   obtain⟨z,rfl,J⟩:=hX n cs' _ O (nL (Jsd a1) U);rw[hc]at i;obtain⟨_,a2,Z⟩:=World.cells?_some i;refine⟨l++[z],by simp[h1],?_,?_,?_⟩
   .grind
   .intro j u G;rw[List.flatMap_append]at G;simp only[List.flatMap_cons,List.flatMap_nil,List.append_nil]at G;rcases Nat.lt_or_ge j (k*sz) with hj|hj
    .grind
    rw[List.getElem?_append_right om,h2]at G;have hb:j-k*sz<sz:=by grind
    have:=Z (j-k*sz) hb;rw[Jcs]at this;grind
   repeat grind
 obtain⟨l,h1,h2,h3,h4⟩:=key len (nR _);grind [rd_of]
theorem Qqn{t e:TypeId}{x:DataW H×List MemPlace}(ht:P.underlying t=some (.array 4 e))(hce:P.cellsOf e=1)(hct:P.cellsOf t=4)(h:DataW.trod enc P w base spare held fuel t cs=some x):
  ∃ c0 c1 c2 c3 y0 y1 y2 y3 n,cs=[c0,c1,c2,c3]/\DataW.trod enc P w base spare held n e [c0]=some y0/\DataW.trod enc P w base spare held n e [c1]=some y1/\DataW.trod enc P w base spare held n e [c2]=some y2/\DataW.trod enc P w base spare held n e [c3]=some y3:=by
 cases fuel with
 | zero=>simp[DataW.trod]at h
 | succ n=>
  unfold DataW.trod at h;rw[ht]at h;have i:List.range 4=[0,1,2,3]:=rfl;simp[i,hce,hct]at h;obtain⟨j,h⟩:=h;match cs,j with
  | [c0,c1,c2,c3],_=>
   simp at h;cases h0:DataW.trod enc P w base spare held n e [c0] with
   | none=>simp[h0]at h
   | some y0=>
    cases h1:DataW.trod enc P w base spare held n e [c1] with
    | none=>simp[h0,h1]at h
    | some y1=>
     cases h2:DataW.trod enc P w base spare held n e [c2] with
     | none=>simp[h0,h1,h2]at h
     | some y2=>
      cases h3:DataW.trod enc P w base spare held n e [c3] with
      | none=>simp[h0,h1,h2,h3]at h
      | some y3=>exact⟨c0,c1,c2,c3,y0,y1,y2,y3,n,rfl,h0,h1,h2,h3⟩
end
section
variable {H:Type} {enc:TypeId×Value->H} {w:World} {base b0:Nat} {spare:Nat->Bool} {held:Bool}
theorem Kp{n:Int}(h:0<=n/\n<=255): ∃ x:Nat,n=(x:Int)/\x<256:=⟨n.toNat,om,om⟩
theorem Qyp{y:DataW H×List MemPlace}(h:DataW.trod enc Tryz.prog w base spare held n 71 cs=some y): ∃ l:List Nat,cs=u8C l/\l.length=4/\∀ x∈l,x<256:=by
 obtain⟨c0,c1,c2,c3,y0,y1,y2,y3,n,rfl,f0,f1,f2,f3⟩:=Qqn Tryz.underlying71 kr kr h;obtain⟨a0,F,_,w0⟩:=DataW.trod_int Tryz.underlying5 f0;obtain⟨a1,D,_,w1⟩:=DataW.trod_int Tryz.underlying5 f1;obtain⟨a2,u,_,w2⟩:=DataW.trod_int Tryz.underlying5 f2;obtain⟨a3,j,_,Z⟩:=DataW.trod_int Tryz.underlying5 f3;simp at F D u j;subst F;subst D;subst u;subst j;obtain⟨U,rfl,l0⟩:=Kp (bounds_u8 w0);obtain⟨O,rfl,l1⟩:=Kp (bounds_u8 w1);obtain⟨J,rfl,l2⟩:=Kp (bounds_u8 w2);obtain⟨G,rfl,l3⟩:=Kp (bounds_u8 Z);exact⟨[U,O,J,G],rfl,rfl,λx i=>by
  simp only[List.mem_cons,List.not_mem_nil,or_false]at i;rcases i with rfl|rfl|rfl|rfl<;>assumption⟩
def Jcw(w:World)(cs:List Value)(a:LA): Prop:=LaC (λ_=>False) w cs a
theorem Qys{y:DataW H×List MemPlace}(h:DataW.trod enc Tryz.prog w base spare held n 24 cs=some y)(hb:Rows.uptoBulk y.1<=1048576): ∃ a:LA,Jcw w cs a:=by
 obtain⟨j,m,_,hx,u,D,J⟩:=DataW.trod_struct Tryz.underlying24 h;have G:cs.length=3:=by rw[u];kernel_rfl
 match cs,G with
 | [c0,c1,c2],_=>
  have a1:j.length=3:=D;subst hx;have hB:∀ i (hi:i<j.length),Rows.uptoBulk j[i].1<=1048576:=λi hi=>by
   have O:j[i].1∈j.map (·.1):=by grind
   have h2:=Jsd O;simp only[Rows.uptoBulk]at hb;omega
  have f0:DataW.trod enc Tryz.prog w base spare held m 5 (([c0,c1,c2].drop 0).take (Tryz.prog.cellsOf 5))=j[0]?:=J 0 _ rfl;have f1:DataW.trod enc Tryz.prog w base spare held m 22 (([c0,c1,c2].drop 1).take (Tryz.prog.cellsOf 22))=j[1]?:=J 1 _ rfl;have f2:DataW.trod enc Tryz.prog w base spare held m 5 (([c0,c1,c2].drop 2).take (Tryz.prog.cellsOf 5))=j[2]?:=J 2 _ rfl;rw[show Tryz.prog.cellsOf 5=1 by kernel_rfl,List.getElem?_eq_getElem om]at f0 f2;rw[show Tryz.prog.cellsOf 22=1 by kernel_rfl,List.getElem?_eq_getElem om]at f1;obtain⟨n0,e0,_,w0⟩:=DataW.trod_int Tryz.underlying5 f0;obtain⟨n2,e2,_,w2⟩:=DataW.trod_int Tryz.underlying5 f2;obtain⟨l,A,Z,e1,g1,U,g3,g4⟩:=Qyq (sz:=4) u8C (λl=>l.length=4/\∀ x∈l,x<256) Tryz.underlying22 kr (hB 1 om) (λn a2 y hy _=>by obtain⟨l,O,h2⟩:=Qyp hy;exact⟨l,O,h2⟩) f1;simp at e0 e1 e2;subst e0;subst e1;subst e2;obtain⟨x0,rfl,l0⟩:=Kp (bounds_u8 w0)
  obtain⟨x2,rfl,l2⟩:=Kp (bounds_u8 w2);have ef:Jd (l.map λr=>(u8C r,r))=l.flatMap u8C:=by simp only[Jd,List.flatMap_map]
  have em:(l.map λr=>(u8C r,r)).map (·.2)=l:=by rw[List.map_map];exact List.map_id l
  have el:(l.map λr=>(u8C r,r)).length=l.length:=by simp
  have hG:=gxOf (sz:=4) (Φ:=U8R) (ps:=l.map λr=>(u8C r,r)) (c:=Z) (A:=A) (w:=w) (by rw[el,ef];exact g1) (by rw[el];exact g3) (by rw[el];omega) (λp hp=>by
   obtain⟨r,F,rfl⟩:=List.mem_map.1 hp;exact⟨by simp[u8C,(U r F).1],rfl,(U r F).1,(U r F).2⟩)
  rw[em,el]at hG;exact⟨⟨x0,l,x2⟩,l0,l2,_,rfl,hG⟩
theorem Qyr{v:Value}{d:DataW H}{p:List MemPlace}(hv:Value.okWide Tryz.prog w .any b0 24 v)(h:DataW.Trod enc Tryz.prog w base spare held 24 v d p)(hb:Rows.uptoBulk d<=1048576): ∃ cs a,v=.agg cs.toArray/\Jcw w cs a:=by
 simp only[Value.okWide,Tryz.underlying24]at hv;obtain⟨⟨l⟩,rfl,_,_⟩:=hv;obtain⟨i,h⟩:=h;obtain⟨a,j⟩:=Qys h hb;exact⟨l,a,rfl,j⟩
end
open Go.RowKit Pl Go.Wk
theorem Qnd{w:World}{v:Value}{z:Int}(h:∃ cs a,v=.agg cs.toArray/\Jcw w cs a)(hz:0<=z/\z<=4294967295): Ret Tryz.prog 3 [v,.int .u32 z] w λu w'=>u=.bool true/\Ext w w':=by
 obtain⟨cs,a,rfl,i⟩:=h;obtain⟨s,rfl⟩:∃ s:Nat,z=(s:Int):=⟨z.toNat,om⟩;exact Qnf i om
end Go.Proofs.YtebiphhfkdbpfaaGreat
