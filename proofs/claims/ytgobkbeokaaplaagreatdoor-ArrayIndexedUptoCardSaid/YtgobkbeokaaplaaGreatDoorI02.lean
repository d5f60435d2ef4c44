/- Part 2. -/
import Derived.Test.YtgobkbeokaaplaaGreatDoorI01
import Derived.Laws.CopyRow
set_option linter.unusedVariables false
set_option maxRecDepth 100000
set_option maxHeartbeats 40000000
namespace Go.Proofs.YtgobkbeokaaplaaGreatDoor
open Go.RowKit Pl Go.Wk
attribute [local irreducible] WC WL QX WD WDB WP
variable {r:List V}{N N':Nat->Prop}{w:World}
def RowX(w:World)(N:Nat->Prop)(v:Value)(r:List V): Prop:=∃ A c,v=.slice A r.length c/\r.length<=c/\r.length<=1100000/\RdR w A r/\(r≠[]->∀ ad,A=some ad->¬ N ad.block)
def one(g:Option Nat)(k:Nat): Prop:=g=some k
theorem RowX.v{v:Value}(h:RowX w N v r): RowV w v r:=by
 obtain⟨A,c,u,o,j,i,_⟩:=h;exact⟨A,c,u,o,j,i⟩
theorem RowX.ext{w w':World}{N:Nat->Prop}{v:Value}{r:List V}(h:RowX w N v r)(hx:Ext w w'): RowX w' N v r:=by
 obtain⟨A,c,C,u,o,j,i⟩:=h;exact⟨A,c,C,u,o,j.ext hx,i⟩
theorem RowX.mono{v:Value}(h:RowX w N v r)(hN:∀ k,k<w.heap.size->N' k->N k): RowX w N' v r:=by
 obtain⟨A,c,C,u,o,j,i⟩:=h;refine⟨A,c,C,u,o,j,λh0 D e hn=>i h0 D e (hN _ ?_ hn)⟩;grind [Rd.isome,List.length_pos_iff.2]
theorem RowX.grown{w w':World}{N:Nat->Prop}{g:Option Nat}{v:Value}{r:List V}(h:RowX w N v r)(hg:w.grownBy w' g)(hN:∀ k,g=some k->N k): RowX w' N v r:=by
 obtain⟨A,c,u,o,j,C,i⟩:=h;refine⟨A,c,u,o,j,?_,i⟩;by_cases h0:r=[]
 .subst h0;exact Rd.nil
 repeat grind [Rd.grown]
theorem RowX.nil(w:World)(N:Nat->Prop): RowX w N (.slice none 0 0) []:=⟨none,0,rfl,by simp,by simp,Rd.nil,λh=>absurd rfl h⟩
theorem RowV.off{v:Value}(h:RowV w v r)(hg:∀ k,N k->w.heap.size<=k): RowX w N v r:=by
 obtain⟨A,c,u,o,j,i⟩:=h;refine⟨A,c,u,o,j,i,λh0 D e C=>?_⟩;grind [Rd.isome,List.length_pos_iff.2]
def RowsV(w:World)(v:Value)(ls:List (List V)): Prop:=∃(ps:List Pr) (A:Option Addr) (c:Nat),ls=ps.map (·.2)/\v=.slice A ps.length c/\ps.length<=c/\ps.length<=1100000/\Rd w 1 A ps.length (ps.map (·.1))/\∀ p∈ps,RowV w p.1 p.2
theorem RowsV.ext{w w':World}{v:Value}{ls:List (List V)}(h:RowsV w v ls)(hx:Ext w w'): RowsV w' v ls:=by
 obtain⟨ps,A,c,G,D,C,u,o,j⟩:=h;exact⟨ps,A,c,G,D,C,u,o.ext hx,λp i=>(j p i).ext hx⟩
theorem RowsV.nil(w:World)(A:Option Addr)(c:Nat): RowsV w (.slice A 0 c) []:=⟨[],A,c,rfl,rfl,by simp,by simp,Rd.nil,λp i=>by cases i⟩
theorem RowV.one{v:Value}(h:RowV w v r): v.oneCell'=true:=by obtain⟨A,c,rfl,_⟩:=h;rfl
theorem Gd{v:Value}(h:RowV w v r)(N:Nat->Prop)(hg:∀ k,N k->k<w.heap.size):
  Ret Tryz.prog 131 [v] w λv' w'=>RowX w' N v' r/\Ext w w':=by
 obtain⟨A,c,rfl,J,h3,G⟩:=h;refine enE Tryz.func131 Tryz.ntmps131 ?_;refine ρ ?_;refine Jjr ?_;refine ciR (λh=>?_) (λh=>?_)
 .have Z:A=none:=by simpa using h
  subst Z;have hn:r.length=0:=by
   rcases Nat.eq_zero_or_pos r.length with h0|h0
   .exact h0
   obtain⟨O,J,_⟩:=G.isome h0 om;cases J
  obtain rfl:=List.eq_nil_of_length_eq_zero hn;refine ρ ?_;exact Jj ⟨RowX.nil w N,Ext.refl w⟩
 refine Qk Jqt ?_;intro w1 b j D C;refine ρ ?_;refine apo j EV (C.own (n:=0) D rfl (Nat.zero_le _)) (G.ext j) (Jyr r) (by unfold maxLen;omega) om ?_;intro v2 w2 i u _ _;obtain⟨A2,c2,rfl,o,U⟩:=Jy i;refine ρ ?_;rw[Nat.zero_add]at i o ⊢;refine Jj ⟨⟨A2,c2,rfl,o,h3,Rd.own i,λ_ O e=>?_⟩,u⟩;subst e;intro e2;have h4:=hg _ e2;have h5:=(U O.block rfl).1;omega
theorem Pr.rep(n:Nat): (List.replicate n ((.slice none 0 0,[]):Pr)).map (·.1)=List.replicate n (.slice none 0 0):=by simp
def Srt(ds:List Bool)(ls:List (List V)): Prop:=ls.Pairwise λa b=>Jw a b ds<=0
theorem Jdp{ds:List Bool}{ps:List Pr}(h:SOn z0 (fP ds) ps 0 ps.length): Srt ds (ps.map (·.2)):=by
 unfold Srt;rw[List.pairwise_map,List.pairwise_iff_getElem];intro i j hi u o;have:=h i j (Nat.zero_le _) o u;rw[Qv z0 ps hi,Qv z0 ps u]at this;exact this
end Go.Proofs.YtgobkbeokaaplaaGreatDoor
namespace Go.Proofs.YtgobkbeokaaplaaGreatDoor
open Pl
variable {ds:List Bool}{i j k:Nat}
abbrev Row:= List V
def Lt(ds:List Bool)(ls:List Row): Prop:=ls.Pairwise λa b=>Jw a b ds<0
def IsSet(ds:List Bool)(ls m:List Row): Prop:=Lt ds m/\∀ x,x∈m↔x∈ls
theorem Jwl(ds:List Bool)(a:Row): ¬ Jw a a ds<0:=by rw[Yt];omega
theorem Qpx{a b:Row}(h:Jw a b ds<0): ¬ Jw b a ds<0:=by grind [Jlq]
theorem Jjs{ds:List Bool}: ∀ {l m:List Row},Lt ds l->Lt ds m->(∀ x,x∈l↔x∈m)->l=m
 | [],[],_,_,_=>rfl
 | [],b::m,_,_,h=>absurd ((h b).2 (mC ..)) (by simp)
 | a::l,[],_,_,h=>absurd ((h a).1 (mC ..)) (by simp)
 | a::l,b::m,h1,h2,h=>by
  have p1:=List.pairwise_cons.1 h1;have p2:=List.pairwise_cons.1 h2;have hab:a=b:=by
   rcases List.mem_cons.1 ((h a).1 (mC ..)) with e|e
   .exact e
   rcases List.mem_cons.1 ((h b).2 (mC ..)) with e2|e2
   .exact e2.symm
   exact absurd (p1.1 _ e2) (Qpx (p2.1 _ e))
  subst hab;congr 1
  refine Jjs p1.2 p2.2 λx=>?_;have hx:=h x;constructor
  .intro hm;rcases List.mem_cons.1 (hx.1 (List.mem_cons_of_mem _ hm)) with e|e
   .subst e;exact absurd (p1.1 _ hm) (Jwl ds x)
   exact e
  intro hm;rcases List.mem_cons.1 (hx.2 (List.mem_cons_of_mem _ hm)) with e|e
  .subst e;exact absurd (p2.1 _ hm) (Jwl ds x)
  exact e
theorem IsSet.uniq{ls m m':List Row}(h:IsSet ds ls m)(h':IsSet ds ls m'): m=m':=Jjs h.1 h'.1 λx=>(h.2 x).trans (h'.2 x).symm
def ddS(out:List Row)(x:Row): List Row:=if out.getLast?=some x then out else out++[x]
def ddF(l:List Row): List Row:=l.foldl ddS []
theorem Jlg(l:List Row)(x:Row): ddF (l++[x])=ddS (ddF l) x:=by simp[ddF,List.foldl_append]
theorem Qzp(out:List Row)(x:Row): (ddS out x).getLast?=some x:=by
 unfold ddS;split
 .assumption
 simp
theorem getLast_mem'{l:List Row}{x:Row}(h:l.getLast?=some x): x∈l:=by grind
theorem Jld{ds:List Bool}: ∀(l out:List Row),Lt ds out->(∀ a∈out,∀ b∈l,Jw a b ds<=0)->Srt ds l->Lt ds (l.foldl ddS out)/\∀ x,x∈l.foldl ddS out↔(x∈out∨x∈l)
 | [],out,h,_,_=>⟨h,λx=>by simp⟩
 | y::l,out,h,hle,hs=>by
  have p:=List.pairwise_cons.1 hs;simp only[List.foldl_cons];by_cases e:out.getLast?=some y
  .have hy:=getLast_mem' e;have e1:ddS out y=out:=by grind [ddS]
   rw[e1];obtain⟨k1,k2⟩:=Jld l out h (λa ha b hb=>hle a ha b (List.mem_cons_of_mem _ hb)) p.2;grind
  have e1:ddS out y=out++[y]:=by unfold ddS;rw[if_neg e]
  rw[e1];have hlt:∀ a∈out,Jw a y ds<0:=by
   intro a ha;have h1:=hle a ha y (mC ..);rcases Int.lt_or_eq_of_le h1 with h2|h2
   .exact h2
   exfalso
   have:=Jzx _ _ _ h2;subst this
   -- a is in out,and everything in out is below a;so a is the last
   obtain⟨z,hz⟩:∃ z,out.getLast?=some z:=by grind
   rw[List.getLast?_eq_some_iff]at hz;obtain⟨ys,rfl⟩:=hz;rcases List.mem_append.1 ha with h3|h3
   .have h4:=(List.pairwise_append.1 h).2.2 _ h3 z (by simp);have h5:=hle z (by simp) a (mC ..);exact absurd ((Ke ds).lt_le h4 h5) (Jwl ds a)
   repeat grind
  obtain⟨k1,k2⟩:=Jld l (out++[y]) (List.pairwise_append.2 ⟨h,List.pairwise_singleton _ _,λa ha b hb=>by grind⟩) (λa ha b hb=>by grind) p.2;grind
theorem Qzn: ∀(l out:List Row),(l.foldl ddS out).length<=out.length+l.length
 | [],out=>by simp
 | y::l,out=>by
  simp only[List.foldl_cons];have:=Qzn l (ddS out y);have h2:(ddS out y).length<=out.length+1:=by unfold ddS;split<;>simp
  grind
theorem Jqs(l:List Row): (ddF l).length<=l.length:=by grind [Qzn,ddF]
theorem Jlh{l:List Row}(h:Srt ds l): IsSet ds l (ddF l):=by
 obtain⟨o,j⟩:=Jld l [] List.Pairwise.nil (λa i=>by cases i) h;exact⟨o,λx=>(j x).trans (by simp)⟩
theorem Jlf{l:List Row}(hk:k<l.length): ddF (l.take (k+1))=if k≠0/\l.getD (k-1) []=l.getD k [] then ddF (l.take k) else ddF (l.take k)++[l.getD k []]:=by
 rw[List.take_succ_eq_append_getElem hk,Jlg,<-Qv [] l hk];unfold ddS;by_cases h0:k=0
 .grind [ddF]
 have i:k-1<l.length:=om
 have e:ddF (l.take k)=ddS (ddF (l.take (k-1))) (l.getD (k-1) []):=by
  have:=List.take_succ_eq_append_getElem i;grind [Jlg,Qv]
 grind [Qzp]
def cnt(ds:List Bool)(l:List Row)(r:Row): Nat:=(l.filter λx=>decide (Jw x r ds<0)).length
theorem Qzz(ds:List Bool)(l:List Row)(r:Row): cnt ds l r<=l.length:=List.length_filter_le _ _
theorem Lt.at{l:List Row}(h:Lt ds l)(hij:i<j)(hj:j<l.length): Jw (l.getD i []) (l.getD j []) ds<0:=by
 have:=List.pairwise_iff_getElem.1 h i j om hj hij;grind
theorem Qzx{l:List Row}{r:Row}(hk:k<=l.length)(hlo:∀ i,i<k->Jw (l.getD i []) r ds<0)(hhi:∀ i,k<=i->i<l.length->¬ Jw (l.getD i []) r ds<0): cnt ds l r=k:=by
 unfold cnt;have e:l=l.take k++l.drop k:=(List.take_append_drop k l).symm;rw[e,List.filter_append,List.length_append];have C:(l.take k).filter (λx=>decide (Jw x r ds<0))=l.take k:=by grind [List.filter_eq_self,List.getElem_of_mem,Qv]
 have u:(l.drop k).filter (λx=>decide (Jw x r ds<0))=[]:=by
  rw[List.filter_eq_nil_iff];intro x j;obtain⟨i,hi,rfl⟩:=List.getElem_of_mem j;have o:k+i<l.length:=by simp at hi;omega
  grind
 grind
theorem Jfr{l:List Row}(h:Lt ds l){r:Row}(hk:k<=l.length)(hlo:k=0∨Jw (l.getD (k-1) []) r ds<0)(hhi:k=l.length∨¬ Jw (l.getD k []) r ds<0):
  cnt ds l r=k/\(r∈l↔k<l.length/\l.getD k []=r):=by
 have lo:∀ i,i<k->Jw (l.getD i []) r ds<0:=λi hi=>by
  rcases hlo with h0|h0
  .omega
  by_cases e:i=k-1
  .rw[e];exact h0
  exact(Ke ds).lt_trans (h.at (i:=i) (j:=k-1) om om) h0
 have hi:∀ i,k<=i->i<l.length->¬ Jw (l.getD i []) r ds<0:=λi o D=>by
  rcases hhi with h0|h0
  .omega
  by_cases e:i=k
  .rw[e];exact h0
  exactλO=>h0 ((Ke ds).lt_trans (h.at (i:=k) (j:=i) om D) O)
 refine⟨Qzx hk lo hi,λG=>?_,λ⟨o,D⟩=>?_⟩
 .obtain⟨j,u,C⟩:=List.getElem_of_mem G;rw[<-Qv [] l u]at C;have J:k<=j:=by grind [Nat.lt_or_ge,Jwl]
  have:j=k:=by
   rcases Nat.lt_or_ge k j with o|o
   .exact absurd (C ▸ h.at o u) (hi k (nR _) om)
   omega
  grind
 repeat grind
theorem Qkb{l:List Row}(h:Lt ds l)(hi:i<l.length): cnt ds l (l.getD i [])=i:=by
 refine(Jfr h (Nat.le_of_lt hi) ?_ (.inr (Jwl _ _))).1;by_cases h0:i=0
 .exact .inl h0
 exact .inr (h.at om hi)
def Zm(ds:List Bool)(l:List Row)(r:Row): List Row:=if r∈l then l else l.take (cnt ds l r)++r::l.drop (cnt ds l r)
theorem Qhv{l ls:List Row}{r:Row}(h:IsSet ds ls l): IsSet ds (ls++[r]) (Zm ds l r):=by
 unfold Zm;split
 .rename_i hm;refine⟨h.1,λx=>?_⟩;rw[List.mem_append,List.mem_singleton,<-h.2 x];grind
 rename_i hm;have Z:=Qzz ds l r
 -- what is below the place is smaller,what is above is greater
 have G:∃ k,cnt ds l r=k/\k<=l.length/\(∀ i,i<k->Jw (l.getD i []) r ds<0)/\(∀ i,k<=i->i<l.length->¬ Jw (l.getD i []) r ds<0):=by
  have ex:∀ n,n<=l.length->∃ k,k<=n/\(∀ i,i<k->Jw (l.getD i []) r ds<0)/\(k=n∨¬ Jw (l.getD k []) r ds<0):=by
   intro n;induction n with
   | zero=>exactλ_=>⟨0,Nat.le_refl _,λi hi=>om,.inl rfl⟩
   | succ n ih=>
    grind
  obtain⟨k,k1,U,u⟩:=ex l.length (nR _);have hi:∀ i,k<=i->i<l.length->¬ Jw (l.getD i []) r ds<0:=λi O h2=>by
   rcases u with u|u
   .omega
   by_cases e:i=k
   .rw[e];exact u
   exactλh3=>u ((Ke ds).lt_trans (h.1.at (i:=k) (j:=i) om h2) h3)
  grind [Qzx]
 obtain⟨k,hk,k1,U,u⟩:=G;rw[hk];have C:=h.1;refine⟨?_,λx=>?_⟩
 .unfold Lt at C ⊢;rw[List.pairwise_append];refine⟨C.sublist (List.take_sublist _ _),List.pairwise_cons.2 ⟨λb D=>?_,C.sublist (List.drop_sublist _ _)⟩,λa ha b D=>?_⟩
  .obtain⟨i,hi,rfl⟩:=List.getElem_of_mem D;have o:k+i<l.length:=by simp at hi;omega
   have:=u (k+i) om o;rw[Qv [] l o]at this;rw[List.getElem_drop];rcases(Ke ds).tot l[k+i] r with e|e|e
   repeat grind
  obtain⟨i,hi,rfl⟩:=List.getElem_of_mem ha;have o:i<k:=by simp at hi;omega
  have O:=U i o;rw[Qv [] l om]at O;rw[List.getElem_take];rcases List.mem_cons.1 D with rfl|D
  .exact O
  obtain⟨j,hj,rfl⟩:=List.getElem_of_mem D;have J:k+j<l.length:=by simp at hj;omega
  rw[List.getElem_drop];have:=h.1.at (i:=i) (j:=k+j) om J;grind
 rw[List.mem_append,List.mem_cons,List.mem_append,List.mem_singleton,<-h.2 x];grind [List.take_append_drop]
open Go.RowKit Pl Go.Wk _root_.Go.Proofs.Tryz
attribute [local irreducible] WC WL QX WD WDB WP
variable {ds:List Bool}{ls:List Row}{b b1 b2 b3 base d i n ty:Nat}{r:Row}{fv v vd vr vs:Value}{a w:World}
theorem Jkd(v:Value)(w:World)(A:Option Addr)(n c:Nat)(hv:v=.slice A n c): (Instr.buildSlice 95 1 #[(0,v)]).run prog w=.ok (.slice (some ⟨w.heap.size,0,none⟩) 1 1) (w.alloc (.cells [v].toArray 59)):=by
 subst hv;kernel_rfl
theorem Jqj{ps:List Pr}: (ps.map (·.2)).getD i []=(ps.getD i z0).2:=by
 simp only[List.getD,List.getElem?_map];cases ps[i]?<;>rfl
def own(base:Nat)(v:Value)(k:Nat): Prop:=k<base∨v.ownBlock=some k
def OwnR(w:World)(base:Nat)(v:Value)(ls:List Row): Prop:=∃ ps:List Pr,ls=ps.map (·.2)/\w.ownsRow base 59 1 v ps.length (ps.map (·.1))/\∀ p∈ps,RowX w (own base v) p.1 p.2
theorem OwnR.nil(w:World)(base:Nat): OwnR w base (.slice none 0 0) []:=⟨[],rfl,Zy _ _ _ _,λp i=>by cases i⟩
theorem OwnR.ext{w w':World}{base:Nat}{v:Value}{ls:List Row}(h:OwnR w base v ls)(hx:Ext w w'): OwnR w' base v ls:=by
 obtain⟨ps,u,o,j⟩:=h;exact⟨ps,u,Jk o hx,λp i=>(j p i).ext hx⟩
theorem OwnR.rows(h:OwnR w base v ls)(hm:ls.length<=1100000): RowsV w v ls:=by
 obtain⟨ps,rfl,i,u⟩:=h;obtain⟨A,c,rfl,o,_⟩:=Jy i;exact⟨ps,A,c,rfl,rfl,o,by simpa using hm,Rd.own i,λp j=>(u p j).v⟩
theorem OwnR.form(h:OwnR w base v ls): ∃ A c,v=.slice A ls.length c:=by
 obtain⟨ps,rfl,j,i⟩:=h;grind [Jy]
theorem OwnR.lt(h:OwnR w base v ls): ∀ k,v.ownBlock=some k->base<=k/\k<w.heap.size:=by
 obtain⟨ps,rfl,j,i⟩:=h;grind [Jy]
theorem OwnR.grown{w w':World}{base g:Nat}{v:Value}{ls:List Row}(h:OwnR w base v ls)(hg:w.grownBy w' (some g))(hb:g<base): OwnR w' base v ls:=by
 obtain⟨ps,u,o,j⟩:=id h;refine⟨ps,u,World.ownsRow.kept o hg ?_,λp i=>(j p i).grown hg (λk C=>.inl (by grind))⟩;cases hv:v.ownBlock with
 | none=>exact .inl rfl
 | some k=>exact .inr (λe=>by injection e with e;have:=(h.lt k hv).1;omega)
theorem appR{P:Program}{al:AL}{Q:Exit->Act->World->Prop}{ops:Array Oper}{rest:List Oper}{pos:String}{aft:Array Edge}(hxa:Ext a w){x y:Operand}(hE:ElT P 95 59 1 24 (.slice none 0 0))(ho:OwnR w a.heap.size v ls)(hb:Blk w b 59 [vr])(hr:RowX w (own a.heap.size v) vr r)(hm:ls.length<=1100000)(kk:∀ v' w',OwnR w' a.heap.size v' (ls++[r])->Ext a w'->w.grownBy w' v.ownBlock->WL P n ops Q rest ((d,v')::al) w')(hx:ev al x=some v:=by rfl)(hy:ev al y=some (.slice (some ⟨b,0,none⟩) 1 1):=by rfl)(hd:Nat.blt d n=true:=by rfl):
  WL P n ops Q (⟨some d,.call { callee:=.builtin .append,args:=#[x,y],argTypes:=#[95,95] },ty,pos,aft,none⟩::rest) al w:=by
 obtain⟨ps,rfl,U,h3⟩:=ho;have D:vr.oneCell'=true:=hr.v.one;refine apo hxa hE U hb.one (λu hu=>by grind) (by unfold maxLen;simp at hm;omega) (by simp at hm;omega) ?_ hx hy hd;intro v' w' O j i o;have G:∀(p:Pr),RowX w (own a.heap.size v) p.1 p.2->RowX w' (own a.heap.size v') p.1 p.2:=λp C=>by
  have Z:=C.mono (N':=λk=>own a.heap.size v k∨own a.heap.size v' k) (λk J h=>by
   rcases h with h|h|h
   .exact h
   .exact .inl h
   rcases o k h with h4|h4
   .exact .inr h4
   omega)
  obtain⟨A,c,e1,e2,e3,e4,e5⟩:=Z.grown i (λk J=>.inl (.inr J));exact⟨A,c,e1,e2,e3,e4,λh0 ad e hn=>e5 h0 ad e (.inr hn)⟩
 refine kk v' w' ⟨ps++[(vr,r)],by simp,?_,λp C=>?_⟩ j i;repeat grind
theorem half(i j:Nat)(h:i+j<=4400000): IntKind.i64.wrap ((IntKind.u64.wrap ((i:Int)+(j:Int))).fdiv (2^min (1:Int).toNat IntKind.u64.bits))=(((i+j) / 2:Nat):Int):=by
 have e:(2:Int)^min (1:Int).toNat IntKind.u64.bits=((2:Nat):Int):=by decide
 have o:IntKind.u64.wrap ((i:Int)+(j:Int))=((i+j:Nat):Int):=by rw[IntKind.wrap_u64];omega
 rw[e,o,Int.fdiv_eq_ediv_of_nonneg _ om,IntKind.wrap_i64];omega
def TestF(w:World)(fv:Value)(n:Nat)(pr:Nat->Bool): Prop:=∃ fid first cap,fv=.func (.func fid) first cap /\
 ∀ w',Ext w w'->∀ i:Nat,i<n->Ret prog fid (first.toList++[.int .i64 (i:Int)]++cap.toList) w' λr w''=>r=.bool (pr i)/\Ext w' w''
theorem Qfb{pr:Nat->Bool}(hT:TestF w fv n pr)(hn:n<=1100000):
  Ret prog 286 [.int .i64 (n:Int),fv] w λv w'=>(∃ k:Nat,v=.int .i64 (k:Int)/\k<=n/\(k=0∨pr (k-1)=false)/\(k=n∨pr k=true))/\Ext w w':=by
 obtain⟨G,first,J,rfl,hT⟩:=hT;refine enE func286 ntmps286 ?_;refine ρ ?_;refine Jo (fun (i j:Nat)=>[(1,.func (.func G) first J),(5,.int .i64 (i:Int)),(6,.int .i64 (j:Int))])
  (λi j w'=>i<=j/\j<=n/\(i=0∨pr (i-1)=false)/\(j=n∨pr j=true)/\Ext w w') (λi j=>j-i) 0 n sB ⟨Nat.zero_le _,Nat.le_refl _,.inl rfl,.inl rfl,Ext.refl w⟩ ?_
 rintro i j w1 ⟨h1,Z,U,O,o⟩;refine ciR (λh=>?_) (λh=>?_)
 .have C:i<j:=by have:=oT h;omega
  refine ρ ?_;refine Yo rfl rfl (by decide) rfl ?_;refine ρ ?_;rw[half i j om];generalize hc:(i+j) / 2=k
  refine clv (hT _ o k om) ?_;rintro r w2 ⟨rfl,u⟩;refine ciR (λh=>?_) (λh=>?_)
  .have D:pr k=false:=by simpa using h
   refine ρ ?_;exact Jl (k+1) j sO ⟨om,Z,.inr (by rw[Nat.add_sub_cancel];exact D),O,o.trans u⟩ om
  have D:pr k=true:=by simpa using h
  refine ρ ?_;exact Jl i k sO ⟨om,om,U,.inr D,o.trans u⟩ om
 have C:i=j:=by have:=oF h;omega
 subst C;refine ρ ?_;exact Jj ⟨⟨i,rfl,Z,U,O⟩,o⟩
theorem RowsV.parts(h:RowsV w v ls): ∃ A c,v=.slice A ls.length c/\ls.length<=c/\ls.length<=1100000/\∃ cs:List Value,Rd w 1 A ls.length cs/\∀ i,i<ls.length->∃ u,cs[i]?=some u/\RowV w u (ls.getD i []):=by
 obtain⟨ps,A,c,rfl,rfl,C,o,j,D⟩:=h;refine⟨A,c,by simp,by simpa using C,by simpa using o,ps.map (·.1),by simpa using j,λi hi=>?_⟩
 grind [Gs,Jqj,getD_mem',z0]
theorem Qfk(hs:RowsV w vs ls)(hr:RowV w vr r)(hd:BoolsV w vd ds)(hk1:Blk w b1 95 [vs])(hk2:Blk w b2 59 [vr])(hk3:Blk w b3 25 [vd])(hi:i<ls.length):
  Ret prog 287 [.int .i64 (i:Int),.pointer (some ⟨b1,0,none⟩),.pointer (some ⟨b2,0,none⟩),.pointer (some ⟨b3,0,none⟩)] w λv w'=>v=.bool (decide (0<=Jw (ls.getD i []) r ds))/\Ext w w':=by
 have j:Ext w w.drew:=(Ext.refl w).drew;obtain⟨A,c,rfl,Z,U,cs,C,G⟩:=(hs.ext j).parts;obtain⟨u,J,D⟩:=G i hi;refine enE func287 ntmps287 ?_;refine drR (scq 9 [6]) ?_;refine dld ((hk1.ext j).at (i:=0) rfl) ?_;refine Jc i C hi ?_;refine Jz (C.cell J) ?_;refine Jz ((hk2.ext j).at (i:=0) rfl) ?_;refine Jz ((hk3.ext j).at (i:=0) rfl) ?_;refine Jh (Jlk D (hr.ext j) (hd.ext j)) ?_;rintro x O ⟨rfl,o⟩;refine⟨o,?_⟩;refine ρd ?_;refine ρ ?_;exact Jj ⟨rfl,j.trans o⟩
theorem Qgl(hs:RowsV w vs ls)(hr:RowV w vr r)(hd:BoolsV w vd ds)(hlt:Lt ds ls):
  Ret prog 285 [vs,vr,vd] w λv w'=>v=.tuple #[.int .i64 (cnt ds ls r:Int),.bool (decide (r∈ls))]/\Ext w w':=by
 refine enE func285 ntmps285 ?_;obtain⟨A,c,rfl,hc,hm,cs,a5,ac⟩:=hs.parts;obtain⟨B,bc,rfl,_⟩:=id hr;obtain⟨D,dc,rfl,_⟩:=id hd;refine bxR ?_;intro w1 b1 a6 af j;refine bxR ?_;intro w2 b2 a4 ae G;refine bxR ?_;intro w3 b3 a2 ad aa;have j:=(j.ext a4).ext a2;have G:=G.ext a2;have hx:=(a6.trans a4).trans a2;refine ldR (j.at (i:=0) rfl) ?_;refine clR (Qfb (n:=ls.length) (pr:=λi=>decide (0<=Jw (ls.getD i []) r ds)) ⟨_,_,_,rfl,λw' C i hi=>Qfk (hs.ext (hx.trans C)) (hr.ext (hx.trans C)) (hd.ext (hx.trans C)) (j.ext C) (G.ext C) (aa.ext C) hi⟩ hm) ?_;rintro v w4 ⟨⟨k,rfl,a9,a8,ab⟩,a1⟩;obtain⟨Z,U⟩:=Jfr hlt a9 (r:=r) (a8.imp id λh=>by have:=oF h;omega) (ab.imp id λh=>by have:=oT h;omega);have j:=j.ext a1;have G:=G.ext a1;refine drR (scq 15 [11]) ?_;have O:Ext w4 w4.drew:=(Ext.refl w4).drew;have o:=(hx.trans a1).trans O;refine Jz ((j.ext O).at (i:=0) rfl) ?_
 refine ρd ?_;refine dki 18 (λh=>?_) (λh=>?_)
 .have J:k<ls.length:=by have:=oT h;omega
  obtain⟨u,hu,a7⟩:=ac k J;refine Jz ((j.ext O).at (i:=0) rfl) ?_;refine Jc k (a5.ext o) J ?_;refine Jz ((a5.ext o).cell hu) ?_;refine Jz ((G.ext O).at (i:=0) rfl) ?_;refine Jh (Jyq (a7.ext o) (hr.ext o)) ?_;rintro x w5 ⟨rfl,a3⟩;refine⟨a3,?_⟩;refine ρd ?_;refine ρ ?_;refine Vc ⟨?_,o.trans a3⟩;have e:decide (r∈ls)=decide (ls.getD k []=r):=by rw[Bool.eq_iff_iff,decide_eq_true_iff,decide_eq_true_iff,U];simp[J]
  rw[Z,e]
 have J:¬ k<ls.length:=by have:=oF h;omega
 refine ρd ?_;refine ρ ?_;refine Vc ⟨?_,o⟩;have e:decide (r∈ls)=false:=by rw[decide_eq_false_iff_not,U];exactλh=>J h.1
 rw[Z,e]
open Go.RowKit Pl Go.Wk _root_.Go.Proofs.Tryz
variable {cap first:Array Value}{fid:FuncId}{ds:List Bool}{ps:List Pr}{base c i n:Nat}{A:Option Addr}{row:Option Nat}{w w':World}
theorem Qls(hD:Dat w base (.slice A n c) ps)(hn:ps.length=n)(hC:CF w (Value.slice A n c).ownBlock fid first cap ps ds)(h12:n<=12){lim:Int}:
  Ret prog 189 [.slice A n c,.int .i64 0,.int .i64 (n:Int),.int .i64 lim,.func (.func fid) first cap] w λv w'=>∃ ps',DP w w' base A n c ps ps'/\SOn z0 (fP ds) ps' 0 n:=by
 refine enE func189 ntmps189 ?_;refine ρ ?_;refine Qy (fun (_:Unit)=>[(0,.slice A n c),(1,.int .i64 0),(2,.int .i64 (n:Int)),(3,.int .i64 lim),(4,.func (.func fid) first cap)]) (λ_ w'=>w'=w) (λ_=>0) () sB rfl ?_;rintro _ w' rfl;refine ctR ?_ ?_
 .exact decide_eq_true om
 refine clR (Jhq (a:=0) (ai:=0) (bi:=(n:Int)) hD hn rfl rfl (nR _) om om hC.pack) ?_;rintro v D ⟨i,C,u,o,j⟩;refine ρ ?_;exact Jzp ⟨i,(DP.start hD hn).ins C u j,o⟩
theorem Qfc(hD:Dat w base (.slice A n c) ps)(hn:ps.length=n)(hmx:n<=1100000)(hC:CF w (Value.slice A n c).ownBlock fid first cap ps ds):
  Ret prog 160 [.slice A n c,.func (.func fid) first cap] w λv w'=>∃ ps',DP w w' base A n c ps ps'/\(n<=12->SOn z0 (fP ds) ps' 0 n):=by
 refine enE func160 ntmps160 ?_;refine ρ ?_;refine kv 10 (u:=.int .u64 (n:Int)) (congrArg (Value.int .u64) (Uu om)) ?_;refine cl (Jlx n om w) ?_;rintro v w' ⟨rfl,rfl⟩;refine ρ ?_;have o:Qz n<=48:=Jql om;by_cases h12:n<=12
 .refine cl (Qls hD hn hC h12) ?_;rintro v i ⟨q,H,j⟩;refine ρ ?_;exact Ys ⟨q,H,λ_=>j⟩
 refine cl (Qlr n (a:=0) (b:=n) (ai:=0) (bi:=(n:Int)) (lim:=(Qz n:Int)) hD hn om hC rfl rfl om (nR _) om om) ?_;rintro v i ⟨q,H⟩;refine ρ ?_;exact Ys ⟨q,H,λh=>absurd h h12⟩
theorem Jrl{α:Type}{z:α}{f:α->α->Int}(hf:PreC f){q:List α}: SOn z f q 0 n↔∀ k,0<k->k<n->¬ f (q.getD k z) (q.getD (k-1) z)<0:=by
 constructor
 .intro h k h0 u o;have:=h (k-1) k om om u;have:=hf.anti (q.getD k z) (q.getD (k-1) z);omega
 intro h i j _ D C;induction j with
 | zero=>omega
 | succ j ih=>
  have G:=h (j+1) om C;have J:=hf.anti (q.getD (j+1) z) (q.getD j z);simp only[Nat.add_sub_cancel]at G;by_cases e:i=j
  .subst e;omega
  exact hf.trans _ _ _ (ih om om) om
theorem Jxp(hR:Rd w 1 A n (ps.map (·.1)))(hn:ps.length=n)(hi:i<n): w.cell? (adr A i)=some (ps.getD i z0).1:=hR.cell (Gs (hn.symm ▸ hi))
theorem Ye(hn:ps.length=n)(hi:i<n): ps.getD i z0∈ps:=getD_mem' z0 ps (hn.symm ▸ hi)
theorem CF.none(h:CF w row fid first cap ps ds)(hx:Ext w w'){p q:Pr}(hp:p∈ps)(hq:q∈ps):
  Ret prog fid (first.toList++[p.1,q.1]++cap.toList) w' λr w''=>r=.int .i64 (fP ds p q)/\Ext w' w'':=h w' (Za hx _) p q hp hq
theorem Qsc(hR:Rd w 1 A n (ps.map (·.1)))(hn:ps.length=n)(hmx:n<=1100000)(hC:CF w row fid first cap ps ds):
  Ret prog 159 [.slice A n c,.func (.func fid) first cap] w λv w'=>Ext w w'/\∃ t:Bool,v=.bool t/\(t=true↔SOn z0 (fP ds) ps 0 n):=by
 refine enE func159 ntmps159 ?_;refine ρ ?_;refine Qy (fun (j:Nat)=>[(0,.slice A n c),(1,.func (.func fid) first cap),(5,.int .i64 ((j:Int)-1))]) (λj w'=>Ext w w'/\j<=n/\∀ k,j<=k->0<k->k<n->¬ fP ds (ps.getD k z0) (ps.getD (k-1) z0)<0) (λj=>j) n sO ⟨Ext.refl w,Nat.le_refl _,λk h1 _ h2=>om⟩ ?_;rintro j U ⟨O,hj,Z⟩;refine ciR (λh=>?_) (λh=>?_)
 .have h2:2<=j:=by have:=oT h;omega
  have D:j-1<n:=om
  have u:j-2<n:=om
  refine drR (scq 12 [10]) ?_;have i:Ext w U.drew:=O.drew;have o:=hR.ext i;refine Jc (j-1) o D ?_;refine Jz (Jxp o hn D) ?_;refine Jc (j-2) o u ?_;refine Jz (Jxp o hn u) ?_;refine ρd ?_;refine Vt (hC.none i (Ye hn D) (Ye hn u)) ?_;rintro r w2 ⟨rfl,C⟩;refine⟨C,?_⟩;refine ρd ?_;refine ciR (λh=>?_) (λh=>?_)
  .refine ρ ?_;refine Jj ⟨i.trans C,false,rfl,⟨λe=>(by cases e),λe=>?_⟩⟩;grind [Jrl,preP]
  refine ρ ?_;refine Qw (j-1) sO ⟨i.trans C,om,λk J G k3=>?_⟩ om;grind
 refine ρ ?_;have h1:j<=1:=by grind
 exact Jj ⟨O,true,rfl,⟨λ_=>(Jrl (preP ds)).2 λk J G=>Z k om J G,λ_=>rfl⟩⟩
theorem Qmd{P:Program}{t e k bytes:Nat}{z:Value}{xs:List Value}(hE:ElT P t e 1 bytes z)(hz1:z.cells = #[z])(hz2:z.oneCell'=true)(h:w.ownsRow base e 1 (.slice A n c) n xs)(hk:k<=n)(ty:TypeId):
  ∃ w',(Builtin.clear_ #[t] ty #[.slice (if c=k then A else A.map (·.add (k*1))) (n-k) (c-k)]).run P w=.ok (.tuple #[]) w'/\w'.ownsRow base e 1 (.slice A k c) k (xs.take k)/\w.grownBy w' (Value.slice A n c).ownBlock:=by
 obtain⟨i,hi,O,U,a2⟩:=hE.info;obtain⟨hl,J⟩:=h;have a1:xs.length=n:=om
 rcases Nat.eq_or_lt_of_le hk with e0|hlt
 .subst e0;refine⟨w,?_,?_,Za (Ext.refl w) _⟩
  .rw[Nat.sub_self];generalize (if c=k then A else A.map (·.add (k*1)))=B
   cases B<;>simp[Builtin.clear_,run_underlying hE.sl]
  rw[List.take_of_length_le om];exact⟨hl,J⟩
 rcases J with⟨C,h0⟩|⟨g,cap,cur,C,hb,hg,hle,hmx,hcs,hcur⟩
 .omega
 injection C with e1 e2 e3
 subst e1;subst e3;have G:¬ c=k:=om
 rw[if_neg G];have e4:(some (⟨g,0,none⟩:Addr)).map (·.add (k*1))=some ⟨g,k,none⟩:=by simp[Yf]
 rw[e4];have j:=run_storeCells_at (P:=P) g k e (List.replicate (n-k) z) 0 cur w hg (by simp;omega) (λv C=>by grind);refine⟨w.setRow g (cur.toList.take (k+0)++List.replicate (n-k) z++cur.toList.drop (k+0+(List.replicate (n-k) z).length)).toArray,?_,?_,Jqp w g _⟩
 .have D:∃ m,n-k=m+1:=⟨n-k-1,om⟩;obtain⟨m,Z⟩:=D;have o:(Builtin.zeroCells z.cells (n-k)).toList=List.replicate (n-k) z:=by
   rw[hz1];simp only[Builtin.zeroCells];apply List.ext_getElem
   repeat grind
  rw[Z]at j o ⊢;have u:(zeroValue e).run P w=.ok z w:=by simp[zeroValue,typeInfo,hi,O]
  simp only[Nat.add_zero,List.length_replicate,List.append_assoc]at j ⊢;simp[Builtin.clear_,run_underlying hE.sl,u,o,j]
 simp only[Nat.add_zero,List.length_replicate];refine⟨by grind,.inr ⟨g,c,_,rfl,hb,setRow_heap w g cur _ e _ hg,om,hmx,?_,?_⟩⟩;repeat grind
end Go.Proofs.YtgobkbeokaaplaaGreatDoor
namespace Go.Wk
section
variable {P:Program} {n:Nat} {al:AL} {w:World} {Q:Exit->Act->World->Prop} {ops:Array Oper} {rest:List Oper}
variable {ty:Nat} {pos:String} {aft:Array Edge}
theorem clr{x:Operand}{t:Nat}{v:Value}{w':World}(h:∀ ty,(Builtin.clear_ #[t] ty #[v]).run P w=.ok (.tuple #[]) w')(k:WL P n ops Q rest al w')(hx:ev al x=some v:=by rfl):
  WL P n ops Q (⟨none,.call { callee:=.builtin .clear,args:=#[x],argTypes:=#[t] },ty,pos,aft,none⟩::rest) al w:=λa i=>
 wpList_plain rfl λK j=>by
  unfold Oper.wp;have e:(execOp a.eval ⟨none,.call { callee:=.builtin .clear,args:=#[x],argTypes:=#[t] },ty,pos,aft,none⟩).run P w=.ok (.value (.tuple #[])) w':=by
   simp[execOp,resolve,invoke,builtin,i.ev hx,h ty]
  rw[e,Oper.upon_value];exact j _ _ (k _ i)
end
end Go.Wk
namespace Go.Proofs.YtgobkbeokaaplaaGreatDoor
open Go.RowKit Pl Go.Wk
attribute [local irreducible] WC WL QX WD WDB WP
variable {ps q:List Pr}{base c k n:Nat}{A:Option Addr}{w:World}
def EqF(w:World)(row:Option Nat)(fid:FuncId)(first cap:Array Value)(M:List Pr): Prop :=
 ∀ w',w.grownBy w' row->∀ p q,p∈M->q∈M->Ret Tryz.prog fid (first.toList++[p.1,q.1]++cap.toList) w' λr w''=>r=.bool (decide (p.2=q.2))/\Ext w' w''
theorem Qzq{l:List Row}(h:l.length<2): ddF l=l:=by
 match l with
 | []=>rfl
 | [a]=>rfl
 | _::_::_=>exact absurd h (by simp)
theorem Qt{α:Type}(z:α){l:List α}(h:k<l.length): l.take (k+1)=l.take k++[l.getD k z]:=by grind [List.take_add_one,List.getElem?_eq_getElem,Qv]
theorem Dat.take(hq:q.length=n)(h1:∀ p∈q,p.1.oneCell'=true)(hk:k<=n)(h:w.ownsRow base 59 1 (.slice A k c) k ((q.map (·.1)).take k)): Dat w base (.slice A k c) (q.take k):=by
 refine⟨?_,λp i=>h1 p (List.mem_of_mem_take i)⟩;grind [List.length_take,Nat.min_eq_left,List.map_take]
theorem Xqk{fid:FuncId}{first cap:Array Value}(hD:Dat w base (.slice A n c) ps)(hn:ps.length=n)(hmx:n<=1100000)(hnc:n<=c)(hC:EqF w (Value.slice A n c).ownBlock fid first cap ps):
  Ret Tryz.prog 161 [.slice A n c,.func (.func fid) first cap] w λv w'=>∃ ps':List Pr,v=.slice A ps'.length c/\Dat w' base (.slice A ps'.length c) ps'/\ps'.map (·.2)=ddF (ps.map (·.2))/\(∀ p∈ps',p∈ps)/\w.grownBy w' (Value.slice A n c).ownBlock:=by
 refine enE Tryz.func161 Tryz.ntmps161 ?_;obtain⟨ls,aa⟩:∃ ls:List Row,ls=ps.map (·.2):=⟨_,rfl⟩
 have ar:ls.length=n:=by rw[aa];simpa using hn
 have o:∀ i,ls.getD i []=(ps.getD i z0).2:=λi=>by rw[aa];exact Jqj
 refine ciR (λh=>?_) (λh=>?_)
 .refine ρ ?_;refine Jj ⟨ps,by rw[hn],by rw[hn];exact hD,?_,λp Z=>Z,Za (Ext.refl w) _⟩;grind [Qzq]
 have h2:2<=n:=by grind
 clear h;refine ρ ?_;refine Qy (fun (j:Nat)=>[(0,.slice A n c),(1,.func (.func fid) first cap),(5,.int .i64 (j:Int))]) (λj w'=>Ext w w'/\1<=j/\j<=n/\ddF (ls.take j)=ls.take j) (λj=>n-j) 1 sB ⟨Ext.refl w,om,om,Qzq (by rw[List.length_take];omega)⟩ ?_;rintro j w1 ⟨hx,av,hj,hI⟩;refine ciR (λh=>?_) (λh=>?_);rotate_left
 .have e:j=n:=by have:=oF h;omega
  refine ρ ?_;refine Jj ⟨ps,by rw[hn],by rw[hn];exact hD.ext hx,?_,λp Z=>Z,Za hx _⟩;grind
 have lj:j<n:=by grind
 have a3:j-1<n:=om
 clear h;refine drR (scq 11 [10]) ?_;have a5:Ext w w1.drew:=hx.drew;have J:=hD.ext a5;refine Jc j (J.rd hn) lj ?_;refine Jz (J.cell hn lj) ?_;refine Jc (j-1) (J.rd hn) a3 ?_;refine Jz (J.cell hn a3) ?_;refine ρd ?_;refine Vt (hC _ (Za a5 _) (ps.getD j z0) (ps.getD (j-1) z0) (Ye hn lj) (Ye hn a3)) ?_;rintro r w2 ⟨rfl,a8⟩;refine⟨a8,?_⟩;have a4:=a5.trans a8;refine ρd ?_;refine ρ ?_;have u:=Jlf (l:=ls) (k:=j) om;rw[o,o]at u;refine ci (λh=>?_) (λh=>?_);rotate_left
 .have a9:=oF h;refine ρ ?_;refine Qw (j+1) sO ⟨a4,om,om,?_⟩ om;grind [Qt]
 have ae:=oT h;clear h;rw[if_pos ⟨om,ae.symm⟩,hI]at u;have ap:=hD.ext a4;refine ρ ?_;refine sll j ?_;refine ρ ?_;refine Zq (fun (k m:Nat) (q:List Pr)=>[(0,.slice A n c),(1,.func (.func fid) first cap),(5,.int .i64 (k:Int)),(6,.slice (if c=j then A else A.map (·.add (j*1))) (n-j) (c-j)),(7,.int .i64 ((m:Int)-(j:Int)))])
  (λk m q w'=>Dat w' base (.slice A n c) q/\q.length=n/\w.grownBy w' (Value.slice A n c).ownBlock/\j<m/\m<=n/\k<m/\(∀ i,k<=i->q.getD i z0=ps.getD i z0)/\(q.take k).map (·.2)=ddF (ls.take m)/\∀ p∈q,p∈ps) (λ_ m _=>n-m) j (j+1) ps sO
  ⟨ap,hn,Za a4 _,om,om,om,λ_ _=>rfl,by grind [List.map_take],λp Z=>Z⟩ ?_
 rintro k m q w3 ⟨a6,U,ad,au,hm,hk,an,am,O⟩;refine ciR (λh=>?_) (λh=>?_)
 .have ak:m<n:=by have:=oT h;omega
  have lm:m-j<n-j:=om
  have ah:m-j-1<n-j:=om
  clear h;refine drR (scq 12 [10]) ?_;have a7:Ext w3 w3.drew:=(Ext.refl w3).drew;have ag:=a6.ext a7;have ac:=Zh ad (Za a7 _);have C:=(ag.rd U).drop (k:=j) (c:=c) om hnc;have c1:((q.map (·.1)).drop (j*1))[m-j]?=some (ps.getD m z0).1:=by grind
  have c2:((q.map (·.1)).drop (j*1))[m-j-1]?=some (ps.getD (m-1) z0).1:=by grind
  refine Jc (m-j) C lm ?_;refine Jz (C.cell c1) ?_;refine Jc (m-j-1) C ah ?_;refine Jz (C.cell c2) ?_;refine ρd ?_;refine Vt (hC _ ac (ps.getD m z0) (ps.getD (m-1) z0) (Ye hn ak) (Ye hn om)) ?_;rintro r w7 ⟨rfl,D⟩;refine⟨D,?_⟩;have G:=ag.ext D;have ab:=Zh ac (Za D _);have af:=C.ext D;refine ρd ?_;refine ρ ?_;have u:=Jlf (l:=ls) (k:=m) om;rw[o,o]at u;refine ci (λh=>?_) (λh=>?_)
  .have a9:(ps.getD m z0).2≠(ps.getD (m-1) z0).2:=by simpa using h
   have lk:k<n:=om
   have aq:(q.take k).length=k:=by rw[List.length_take];omega
   refine ixR (m-j) af lm ?_;refine ldR (af.cell c1) ?_;refine ixR k (G.rd U) lk ?_;refine ρ ?_;obtain⟨s1,s2,s3⟩:=G.store U lk (p:=ps.getD m z0) (hD.one om);refine sto (G.cell U lk) s1 ?_ (hv:=hD.one om);refine ρ ?_;refine Xq (k+1) (m+1) (q.set k (ps.getD m z0)) sO ⟨s2,by simpa using U,Zh ab s3,om,om,om,λi hi=>?_,?_,λp Z=>?_⟩ om
   .grind
   .rw[u,if_neg (λe=>a9 e.2.symm),<-am,Qt z0 (by simp;omega),Jhs z0 _ _ _ _ om,if_pos rfl,List.take_set_of_le (nR _),List.map_append];rfl
   repeat grind
  have ae:(ps.getD m z0).2=(ps.getD (m-1) z0).2:=by simpa using h
  refine ρ ?_;refine Xq k (m+1) q sO ⟨G,U,ab,om,om,om,an,?_,O⟩ om;grind
 have e:m=n:=by have:=oF h;omega
 subst e;have a2:=a6.1;rw[U]at a2;obtain⟨w8,ai,aj,ao⟩:=Qmd (P:=Tryz.prog) (k:=k) ER rfl rfl a2 om 0;refine ρ ?_;refine sll k ?_;refine ρ ?_;refine clr (w':=w8) (λty=>ai) ?_;refine ρ ?_;refine slh k ?_;refine ρ ?_;have a1:(q.take k).length=k:=by rw[List.length_take];omega
 refine Jj ⟨q.take k,by rw[a1],by rw[a1];exact Dat.take U a6.2 om aj,?_,λp Z=>O p (List.mem_of_mem_take Z),Zh ad ao⟩;grind
open Go.RowKit Pl Go.Wk _root_.Go.Proofs.Tryz
variable {ar z:Int}{c n:Nat}{A:Option Addr}{r:Row}{sv v:Value}{w:World}
def Xf(v:V): Bool:=if v.kind=1 then(v.bytes == []) else if v.kind=2 then decide (v.num=0) && decide (v.bytes.length<=24) else false
theorem Jkq(v:V): v.str.size=v.bytes.length:=(Array.length_toList (xs:=v.str.data)).symm
theorem Qdn(v:V): (v.str.toList == (⟨#[]⟩:ByteArray).toList)=(v.bytes == []):=by rw[ByteArray.toList_eq,ByteArray.toList_eq];rfl
theorem Jph(v:V)(w:World): Ret prog 174 [v.val] w λr w'=>r=.bool (Xf v)/\Ext w w':=by
 refine enE func174 ntmps174 ?_;refine bxR (cs:=v.cells) ?_;intro D b j G o;refine ldR (o.at (i:=0) rfl) ?_;refine ciR (λh=>?_) (λh=>?_)
 .refine ldR (o.at (i:=2) rfl) ?_;refine ρ ?_;refine Jj ⟨?_,j⟩;rw[Xf,if_pos (Zx h),Qdn]
 refine ciR (λu=>?_) (λu=>?_)
 .refine ldR (o.at (i:=1) rfl) ?_;refine ρ ?_;refine ki 15 (λC=>?_) (λC=>?_)
  .refine ldR (o.at (i:=2) rfl) ?_;refine ρ ?_;refine Jj ⟨?_,j⟩;rw[Xf,if_neg (Xu h),if_pos (Zx u),decide_eq_true (Zx C),Jkq,Bool.true_and];congr 1
   grind
  refine ρ ?_;refine Jj ⟨?_,j⟩;rw[Xf,if_neg (Xu h),if_pos (Zx u),decide_eq_false (Xu C)];rfl
 refine ρ ?_;refine Jj ⟨?_,j⟩;rw[Xf,if_neg (Xu h),if_neg (Xu u)]
theorem Qgj(h:RowV w v r): Ret prog 158 [v] w λu w'=>u=.bool (r.all Xf)/\Ext w w':=by
 obtain⟨A,c,rfl,h2,h3,G⟩:=h;refine enE func158 ntmps158 ?_;refine ρ ?_;refine Qy (fun (k:Nat)=>[(0,.slice A r.length c),(5,.int .i64 (r.length:Int)),(6,.int .i64 (k:Int))]) (λk w'=>Ext w w'/\k<=r.length/\(r.take k).all Xf=true) (λk=>r.length-k) 0 sB ⟨Ext.refl w,Nat.zero_le _,rfl⟩ ?_;rintro k O ⟨C,U,Z⟩;refine ciR (λh=>?_) (λh=>?_)
 .have lk:k<r.length:=by have:=oT h;omega
  have o:=G.ext C;refine Qp 3 k o lk ?_;refine Js (λj u D=>RdR.cell o lk D) ?_;refine clR (Jph (r.getD k V0) _) ?_;rintro u J ⟨rfl,i⟩;refine ciR (λh=>?_) (λh=>?_)
  .refine ρ ?_;refine Jj ⟨?_,C.trans i⟩;grind
  refine ρ ?_;have h':Xf (r.getD k V0)=true:=by simpa using h
  refine Qw (k+1) sO ⟨C.trans i,om,?_⟩ om;grind [Qt,V0,lk]
 refine ρ ?_;refine Jj ⟨?_,C⟩;grind
def RelV(w:World)(v:Value)(ar:Nat)(ls:List Row): Prop:=∃ rv,v=.agg #[.int .i64 (ar:Int),rv]/\RowsV w rv ls
theorem RelV.ext{w w':World}{v:Value}{ar:Nat}{ls:List Row}(h:RelV w v ar ls)(hx:Ext w w'): RelV w' v ar ls:=by
 obtain⟨i,e,h⟩:=h;exact⟨i,e,h.ext hx⟩
theorem Gm: Qa prog 130=some (.agg #[.int .i64 0,.slice none 0 0]):=kr
theorem Jcg(w:World): (Instr.build 130 #[]).run prog w=.ok (.agg #[.int .i64 0,.slice none 0 0]) w:=kr
theorem Xkk(z:Int)(w:World): (Instr.build 130 #[(0,.int .i64 z)]).run prog w=.ok (.agg #[.int .i64 z,.slice none 0 0]) w:=kr
theorem Xkh(z:Int)(A:Option Addr)(n c:Nat)(w:World): (Instr.build 130 #[(0,.int .i64 z),(1,.slice A n c)]).run prog w=.ok (.agg #[.int .i64 z,.slice A n c]) w:=kr
theorem Yn: ∀ u∈[Value.int .i64 z,.slice A n c],u.oneCell'=true:=by
 intro u i;simp at i;rcases i with rfl|rfl<;>rfl
theorem Qhb(z:Int)(w:World): Ret prog 108 [.int .i64 z] w λv w'=>Ext w w'/\∃ z' e,v=.tuple #[.agg #[.int .i64 z',.slice none 0 0],.int .i64 e]/\(e=0->z'=z)/\(e=0↔0<=z/\z<=32):=by
 refine enE func108 ntmps108 ?_;refine Jv Gm ?_;intro G b o u C;refine ρ ?_;refine Yw (fun (t:Bool)=>[(0,.int .i64 z),(2,.pointer (some ⟨b,0,none⟩)),(9,.bool t)]) (λt w'=>w'=G/\(t=true↔¬ (0<=z/\z<=32))) ?_ ?_
 .refine ki 6 (λh=>?_) (λh=>?_)
  .refine ρ ?_;exact Jf true sB ⟨rfl,by grind⟩
  refine ρ ?_;refine Jf _ sB ⟨rfl,?_⟩;grind
 rintro t w' ⟨rfl,ht⟩;refine ci (λh=>?_) (λh=>?_)
 .refine Zj (Jcg _) ?_;refine Qb C ?_ Yn;intro D j _ i;refine ρ ?_;exact Vz j ⟨i w o u,0,3,rfl,λe=>(by cases e),⟨λe=>(by cases e),λe=>absurd e (ht.1 h)⟩⟩
 refine Zj (Xkk z _) ?_;refine Qb C ?_ (Yn (z:=z) (A:=none) (n:=0) (c:=0));intro D j _ i;refine ρ ?_;refine Vz j ⟨i w o u,z,0,rfl,λ_=>rfl,⟨λ_=>?_,λ_=>rfl⟩⟩;grind
theorem Xwm(hs:sv=.slice A n c)(h:RowV w v r): Ret prog 109 [.agg #[.int .i64 ar,sv],v] w λu w'=>Ext w w'/\∃ e,u=.int .i64 e/\(e=0↔(r.length:Int)=ar/\r.all Xf=true):=by
 subst hs;obtain⟨B,c',rfl,C,h3,Z⟩:=id h;refine enE func109 ntmps109 ?_;refine bxR ?_;intro U b j hb D;refine ldR (D.at (i:=0) rfl) ?_;refine ciR (λh=>?_) (λG=>?_)
 .refine ρ ?_;exact Jj ⟨j,6,rfl,⟨λe=>(by cases e),λe=>absurd e.1 (Kl h)⟩⟩
 have J:=Jqc G;refine clR (Qgj (h.ext j)) ?_;rintro u O ⟨rfl,o⟩;refine ciR (λh=>?_) (λC=>?_)
 .refine ρ ?_;refine Jj ⟨j.trans o,4,rfl,⟨λe=>(by cases e),λe=>?_⟩⟩;rw[e.2]at h;cases h
 refine ρ ?_;refine Jj ⟨j.trans o,0,rfl,⟨λ_=>⟨J,by simpa using C⟩,λ_=>rfl⟩⟩
open Go.RowKit Pl Go.Wk
variable {ps:List Pr}{ar base c n:Nat}{N:Nat->Prop}{A:Option Addr}{row:Option Nat}{v:Value}{w:World}
theorem RowX.off{r:Row}(h:RowX w N v r): Off N w (λu=>RowV u v r):=by
 obtain⟨A,c,G,D,C,o,j⟩:=h;intro w' i;refine⟨A,c,G,D,C,Vn o i λh0 J e=>j (λO=>?_) J e⟩;grind [Jp]
theorem Qkv(h:∀ p∈ps,Off (one row) w (λu=>RowV u p.1 p.2)): CF w row 90 #[] #[] ps []:=λw' i p q o j=>
 Jsp (h p o w' (GrN.by i λk e=>e)) (h q j w' (GrN.by i λk e=>e))
theorem eqRow(h:∀ p∈ps,Off (one row) w (λu=>RowV u p.1 p.2)): EqF w row 32 #[] #[] ps:=λw' i p q o j=>
 Jyq (h p o w' (GrN.by i λk e=>e)) (h q j w' (GrN.by i λk e=>e))
theorem ownB(A:Option Addr)(n c m d:Nat): (Value.slice A n c).ownBlock=(Value.slice A m d).ownBlock:=by cases A<;>rfl
theorem Qgf(hD:Dat w base (.slice A n c) ps)(hn:ps.length=n)(hmx:n<=1100000)(hnc:n<=c)(hN:∀ k,(Value.slice A n c).ownBlock=some k->¬ N k)(hr:∀ p∈ps,Off N w (λu=>RowV u p.1 p.2)): Off N w (λu=>RowsV u (.slice A n c) (ps.map (·.2))):=by
 intro w' i;refine⟨ps,A,c,rfl,by rw[hn],om,om,?_,λp j=>hr p j w' i⟩;rw[hn];refine Vn (hD.rd hn) i λ_ o e=>?_;subst e;exact hN _ rfl
def RowsP(N:Nat->Prop)(w:World)(v:Value)(ls:List Row): Prop:=∃(ps:List Pr) (A:Option Addr) (c:Nat),ls=ps.map (·.2)/\v=.slice A ps.length c/\ps.length<=c/\ps.length<=1100000/\Off N w (λu=>Rd u 1 A ps.length (ps.map (·.1)))/\∀ p∈ps,Off N w (λu=>RowV u p.1 p.2)
theorem RowsP.off{ls:List Row}(h:RowsP N w v ls): Off N w (λu=>RowsV u v ls):=by
 obtain⟨ps,A,c,O,J,G,D,C,o⟩:=h;exactλu i=>⟨ps,A,c,O,J,G,D,C u i,λp j=>o p j u i⟩
theorem rowsP(hD:Dat w base (.slice A n c) ps)(hn:ps.length=n)(hmx:n<=1100000)(hnc:n<=c)(hN:∀ k,(Value.slice A n c).ownBlock=some k->¬ N k)(hr:∀ p∈ps,Off N w (λu=>RowV u p.1 p.2)): RowsP N w (.slice A n c) (ps.map (·.2)):=by
 refine⟨ps,A,c,rfl,by rw[hn],om,om,λw' i=>?_,hr⟩;rw[hn];refine Vn (hD.rd hn) i λ_ j e=>?_;subst e;exact hN _ rfl
theorem Qwd(hD:Dat w base (.slice A n c) ps)(hn:ps.length=n)(hmx:n<=1100000)(hnc:n<=c)(hr:∀ p∈ps,Off (one (Value.slice A n c).ownBlock) w (λu=>RowV u p.1 p.2)):
  Ret Tryz.prog 110 [.int .i64 (ar:Int),.slice A n c] w λv w'=>w.grownBy w' (Value.slice A n c).ownBlock/\∃ rv e,v=.tuple #[rv,.int .i64 e]/\(∃ z B m d,rv=.agg #[.int .i64 z,.slice B m d])/\(n<=65536->e=0) /\
   (e=0->∃ m,Off (λk=>k<w.heap.size/\(Value.slice A n c).ownBlock≠some k) w' (λu=>RelV u rv ar m)/\m.length<=65536/\(∀ x∈m,x∈ps.map (·.2))/\((n<=12∨Srt [] (ps.map (·.2)))->IsSet [] (ps.map (·.2)) m)):=by
 refine enE Tryz.func110 Tryz.ntmps110 ?_;refine Jv Gm ?_;intro w1 b a2 hb hB;have au:=hD.ext a2;have aa:∀ p∈ps,Off (one (Value.slice A n c).ownBlock) w1 (λu=>RowV u p.1 p.2):=λp Z=>(hr p Z).ext a2;obtain⟨own,D⟩:∃ own,own=(Value.slice A n c).ownBlock:=⟨_,rfl⟩;have a6:∀ k,own=some k->k<w.heap.size:=λk e=>by
  obtain⟨_,_,_,_,hf⟩:=Jy hD.1;grind
 refine clR (Qsc (au.rd hn) hn hmx (Qkv aa)) ?_;rintro v w2 ⟨a5,t,rfl,ht⟩;refine ρ ?_;refine Zv (fun (q:List Pr)=>[(0,.int .i64 (ar:Int)),(1,.slice A n c),(4,.pointer (some ⟨b,0,none⟩))]) (λq w'=>DP w1 w' base A n c ps q/\Blk w' b 130 [.int .i64 0,.slice none 0 0]/\((n<=12∨Srt [] (ps.map (·.2)))->Srt [] (q.map (·.2)))) ?_ ?_
 .have H2:=(DP.start au hn).ext a5;refine ci (λh=>?_) (λh=>?_)
  .have ax:¬ SOn z0 (fP []) ps 0 n:=by grind
   refine clR (Qfc H2.d H2.l hmx ((Qkv aa).step H2)) ?_;rintro v w3 ⟨q,H3,hs⟩;refine ρ ?_;refine Jf q sB ⟨H2.after H3,(hB.ext a5).grown H3.g ((hB.ext a5).ne_own H2.d.1 rfl),λe=>?_⟩;rcases e with e|e
   .exact Jdp (by rw[H3.l];exact hs e)
   exfalso
   apply ax
   intro i j _ b9 hj;have e':=(List.pairwise_map.1 e);grind [List.pairwise_iff_getElem,fP,Qv,z0]
  have ay:t=true:=by simpa using h
  refine ρ ?_;exact Jf ps sB ⟨H2,hB.ext a5,λ_=>Jdp (by rw[hn];exact ht.1 ay)⟩
 rintro q w3 ⟨H3,av,az⟩;have ai:∀ p∈q,Off (one (Value.slice A n c).ownBlock) w3 (λu=>RowV u p.1 p.2):=λp Z=>(aa p (H3.p.mem_iff.1 Z)).grown H3.g λk e=>e;refine clR (Xqk H3.d H3.l hmx hnc (eqRow ai)) ?_;rintro v w4 ⟨o,rfl,aq,ac,af,ab⟩;have b8:o.length<=n:=by
  have:=Jqs (q.map (·.2))
  rw[<-ac,List.length_map,List.length_map,H3.l]at this;exact this
 have ae:=av.grown ab (av.ne_own H3.d.1 rfl);have ah:∀ p∈o,Off (one own) w4 (λu=>RowV u p.1 p.2):=λp Z=>by rw[D];exact(ai p (af p Z)).grown ab λk e=>e
 have a3:w1.grownBy w4 own:=by rw[D];exact Zh H3.g ab
 have b3:((n<=12∨Srt [] (ps.map (·.2)))->IsSet [] (ps.map (·.2)) (o.map (·.2))):=λe=>by
  have h1:=Jlh (az e);rw[<-ac]at h1;exact⟨h1.1,λx=>(h1.2 x).trans ((H3.p.map (·.2)).mem_iff)⟩
 generalize hm:o.length=m at *
 refine ciR (λh=>?_) (λh=>?_)
 .have b4:65536<m:=by have:=oT h;omega
  refine Zj (Jcg _) ?_;refine Qb ae ?_ Yn;intro w5 a4 C b6;refine ρ ?_;refine Vz a4 ⟨?_,_,11,rfl,⟨0,none,0,0,rfl⟩,λe=>(by omega),λe=>(by cases e)⟩;have g1:=Zh (Za a2 own) a3;rw[<-D];exact⟨C.os.trans g1.os,C.tape.trans g1.tape,C.output.trans g1.output,Nat.le_trans g1.size C.size,λk hk hn=>(C.block k (nM hk g1.size) (λe=>by injection e with e;omega)).trans (g1.block k hk hn)⟩
 have b7:m<=65536:=by grind
 clear h;obtain⟨N',a7⟩:∃ N':Nat->Prop,N'=λk=>k<w1.heap.size∨own=some k:=⟨_,rfl⟩;have an:(Value.slice A m c).ownBlock=own:=by grind [ownB]
 refine ρ ?_;refine Jo (fun (k:Nat) (U:List Pr)=>[(0,.int .i64 (ar:Int)),(1,.slice A m c),(4,.pointer (some ⟨b,0,none⟩)),(19,.int .i64 (m:Int)),(20,.int .i64 (k:Int))])
  (λk U w'=>k<=m/\U.length=k/\U.map (·.2)=(o.take k).map (·.2)/\Dat w' base (.slice A m c) (U++o.drop k)/\(∀ p∈U,Off N' w' (λu=>RowV u p.1 p.2))/\(∀ p∈o,Off (one own) w' (λu=>RowV u p.1 p.2))/\Blk w' b 130 [.int .i64 0,.slice none 0 0]/\w1.grownBy w' own) (λk _=>m-k) 0 [] sB
  ⟨Nat.zero_le _,rfl,rfl,by simpa using aq,λp Z=>(by cases Z),ah,ae,a3⟩ ?_
 clear aq ah ae a3;rintro k U w5 ⟨hk,ak,aj,O,a8,ag,a4,C⟩;refine ρ ?_;have G:(U++o.drop k).length=m:=by simp;omega
 refine ci (λh=>?_) (λh=>?_)
 .have lk:k<m:=by have:=oT h;omega
  have ap:(U++o.drop k).getD k z0=o.getD k z0:=by grind
  have ao:o.getD k z0∈o:=Ye hm lk;refine ixR k (O.rd G) lk ?_;refine ldR (O.cell G lk) ?_;rw[ap];refine clR (Gd (ag _ ao).here N' (λj hj=>?_)) ?_
  .subst a7;rcases hj with h'|h'
   .exact nM h' C.size
   exact nM (a6 j h') (nL a2.size C.size)
  rintro v6 w6 ⟨a9,a1⟩;have ad:=O.ext a1;obtain⟨s1,s2,s3⟩:=ad.store G lk (p:=(v6,(o.getD k z0).2)) a9.v.one;refine ixR k (ad.rd G) lk ?_;refine Xv (ad.cell G lk) s1 ?_ (hv:=a9.v.one);refine ρ ?_;have e:(U++o.drop k).set k (v6,(o.getD k z0).2)=(U++[(v6,(o.getD k z0).2)])++o.drop (k+1):=by
   rw[List.set_append_right _ _ om,ak,Nat.sub_self,List.drop_eq_getElem_cons om,List.set_cons_zero,List.append_assoc];rfl
  rw[e]at s2;rw[an]at s3;refine Jl (k+1) (U++[(v6,(o.getD k z0).2)]) sO ⟨om,by simp[ak],?_,s2,λp Z=>?_,λp Z=>?_,?_,?_⟩ om
  .grind [Qt,z0]
  .rcases List.mem_append.1 Z with h'|h'
   .exact((a8 p h').ext a1).grown s3 (λk e=>by rw[a7];exact .inr e)
   rw[List.mem_singleton.1 h'];exact a9.off.grown s3 (λk e=>by rw[a7];exact .inr e)
  .exact((ag p Z).ext a1).grown s3 (λk e=>e)
  .have h7:=a4.ext a1;refine h7.grown s3 ?_;grind
  exact Zh C (Zh (Za a1 _) s3)
 have e:k=m:=by have:=oF h;omega
 subst e;rw[List.drop_of_length_le om,List.append_nil]at O G;rw[List.take_of_length_le om]at aj;refine Zj (Xkh (ar:Int) A k c _) ?_;refine Qb a4 ?_ (Yn (z:=(ar:Int)) (A:=A) (n:=k) (c:=c));intro w7 b2 J b5;refine ρ ?_;have ba:N' b:=by rw[a7];exact .inl hB.lt
 have b1:Dat w7 base (.slice A k c) U:=⟨O.1.kept J (.inr (λe=>a4.ne_own O.1 rfl e.symm)),O.2⟩;have am:=Qgf (N:=λj=>j<w.heap.size/\own≠some j) b1 G om om (λj ej hj=>hj.2 (by rw[<-ej,an])) (λp Z=>((a8 p Z).grown J (λj ej=>by grind)).mono λj _ hj=>by grind);refine Vz b2 ⟨?_,_,0,rfl,⟨_,_,_,_,rfl⟩,λ_=>rfl,λ_=>⟨U.map (·.2),?_,by rw[List.length_map];omega,?_,?_⟩⟩
 .have g1:=Zh (Za a2 own) C;rw[<-D];exact⟨J.os.trans g1.os,J.tape.trans g1.tape,J.output.trans g1.output,Nat.le_trans g1.size J.size,λj hj hn=>(J.block j (nM hj g1.size) (λe=>by injection e with e;omega)).trans (g1.block j hj hn)⟩
 .rw[<-D];exact am.imp λu hu=>⟨_,rfl,hu⟩
 .intro x hx;rw[aj,ac]at hx;have:x∈q.map (·.2):=by grind
  exact(H3.p.map (·.2)).mem_iff.1 this
 repeat grind
open Go.RowKit Pl Go.Wk _root_.Go.Proofs.Tryz
variable {ar b c n:Nat}{a w w':World}
theorem Qwh(w:World): (Instr.buildSlice 95 0 #[]).run prog w=.ok (.slice (some ⟨w.heap.size,0,none⟩) 0 0) (w.alloc (.cells [].toArray 59)):=kr
theorem Xxj{A:Option Addr}{ps:List Pr}(hR:Rd w 1 A n (ps.map (·.1)))(hn:ps.length=n)(hmx:n<=1100000)(h1:∀ p∈ps,p.1.oneCell'=true):
  Ret prog 111 [.slice A n c] w λv' w'=>Ext w w'/\∃ B d,v'=.slice B n d/\n<=d/\Dat w' w.heap.size (.slice B n d) ps:=by
 refine enE func111 ntmps111 ?_;refine ρ ?_;refine Jjr ?_;refine ciR (λh=>?_) (λh=>?_)
 .have U:A=none:=by simpa using h
  subst U;have D:n=0:=by
   rcases Nat.eq_zero_or_pos n with h0|h0
   .exact h0
   obtain⟨ad,Z,_⟩:=hR.isome h0 om;cases Z
  subst D;obtain rfl:=List.eq_nil_of_length_eq_zero hn;refine ρ ?_;exact Jj ⟨Ext.refl w,none,0,rfl,Nat.le_refl _,⟨Zy _ _ _ _,λp O=>by cases O⟩⟩
 refine Qk Qwh ?_;intro w1 b j J G;refine ρ ?_;refine apo j ER (G.own (n:=0) J rfl (Nat.zero_le _)) (hR.ext j) (λu hu=>by grind) (by unfold maxLen;omega) om ?_;intro v2 w2 i C _ _;obtain⟨A2,c2,rfl,o,hf⟩:=Jy i;refine ρ ?_;rw[Nat.zero_add]at i o ⊢;refine Jj ⟨C,A2,c2,rfl,o,⟨?_,h1⟩⟩;rw[hn];exact i
theorem Jbv(hx:Ext a w)(hg:w.grownBy w' (some b))(hb:a.heap.size<=b): Ext a w':=by grind [Qg]
theorem Jfp{v:Value}{ls:List Row}(h:RowsV w v ls):
  Ret prog 58 [.int .i64 (ar:Int),v] w λu w'=>Ext w w'/\∃ rv e,u=.tuple #[rv,.int .i64 e]/\(∃ z B m d,rv=.agg #[.int .i64 z,.slice B m d])/\(ar<=32->(∀ r∈ls,r.length=ar/\r.all Xf=true)->ls.length<=65536->e=0) /\
   (e=0->ar<=32/\(∀ r∈ls,r.length=ar/\r.all Xf=true)/\∃ m,Off (λk=>k<w.heap.size) w' (λu=>RelV u rv ar m)/\m.length<=65536/\(∀ x∈m,x∈ls)/\((ls.length<=12∨Srt [] ls)->IsSet [] ls m)):=by
 obtain⟨ps,A,c,rfl,rfl,b7,ag,hR,a1⟩:=h;generalize hn:ps.length=n at *
 have b5:∀ i,(ps.map (·.2)).getD i []=(ps.getD i z0).2:=λi=>Jqj
 have ae:∀ p∈ps,p.1.oneCell'=true:=λp hp=>(a1 p hp).one;refine enE func58 ntmps58 ?_;refine Jv Gm ?_;intro w1 b aq hb hB;refine clR (Qhb (ar:Int) w1) ?_;rintro v2 w2 ⟨ad,z',e2,rfl,ai,C⟩;refine Jv Gm ?_;intro w3 b3 ap ay b4;refine Qb b4 ?_ (Yn (z:=z') (A:=none) (n:=0) (c:=0));intro w4 b2 b9 ao;have a6:Ext w1 w4:=ao w1 (ad.trans ap) (nL ad.size ay);have J:=aq.trans a6;have ab:=hB.ext a6;refine ciR (λh=>?_) (λh=>?_)
 .have a7:=Kl h;refine Zj (Jcg _) ?_;refine Qb ab ?_ Yn;intro w5 aa b8 U;refine ρ ?_;refine Vz aa ⟨U w J hb,_,e2,rfl,⟨0,none,0,0,rfl⟩,λh1 _ _=>C.2 om,λe=>absurd e a7⟩
 have hz:=Jqc h;subst hz;have az:ar<=32:=by have:=C.1 rfl;omega
 have ak:=ai rfl;subst ak;clear h ai C;refine ρ ?_;refine Qy (fun (k:Nat)=>[(0,.int .i64 (ar:Int)),(1,.slice A n c),(4,.pointer (some ⟨b,0,none⟩)),(6,.pointer (some ⟨b3,0,none⟩)),(20,.int .i64 (n:Int)),(21,.int .i64 (k:Int))])
  (λk w'=>Ext w4 w'/\k<=n/\∀ i,i<k->(ps.getD i z0).2.length=ar/\(ps.getD i z0).2.all Xf=true) (λk=>n-k) 0 sB ⟨Ext.refl _,Nat.zero_le _,λi hi=>om⟩ ?_
 rintro k w5 ⟨U,hk,hI⟩;have o:=J.trans U;refine ciR (λh=>?_) (λh=>?_)
 .have lk:k<n:=by have:=oT h;omega
  clear h;refine drR (scq 7 [5]) ?_;have a5:=U.drew;have aa:=b2.ext a5;have aj:=hR.ext o.drew;refine Qh (cs:=[.int .i64 (ar:Int),.slice none 0 0]) (λj u hu=>aa.at hu) ?_;refine Jc k aj lk ?_;refine Jz (Jxp aj hn lk) ?_;refine Jh (Xwm (A:=none) (n:=0) (c:=0) rfl ((a1 _ (Ye hn lk)).ext o.drew)) ?_;rintro u w6 ⟨O,e,rfl,C⟩;refine⟨O,?_⟩;refine ρd ?_;refine ρ ?_;have Z:=a5.trans O;refine ci (λh=>?_) (λh=>?_)
  .have a7:=Kl h;refine Zj (Jcg _) ?_;refine Qb (ab.ext Z) ?_ Yn;intro w7 a9 a8 an;refine ρ ?_;refine Vz a9 ⟨an w (J.trans Z) hb,_,e,rfl,⟨0,none,0,0,rfl⟩,λ_ h2 _=>?_,λe=>absurd e a7⟩;grind
  have hz:=Jqc h;have b6:=C.1 hz;refine ρ ?_;refine Qw (k+1) sO ⟨Z,om,λi hi=>?_⟩ om;grind
 have e:k=n:=by have:=oF h;omega
 subst e;refine clR (Xxj (hR.ext o) hn ag ae) ?_;rintro u w6 ⟨O,D,d,rfl,hd,a3⟩;have G:=o.trans O;have a2:∀ j,(Value.slice D k d).ownBlock=some j->w5.heap.size<=j/\j<w6.heap.size:=by
  obtain⟨_,_,_,_,hf⟩:=Jy a3.1;grind
 have af:∀ p∈ps,Off (one (Value.slice D k d).ownBlock) w6 (λu=>RowV u p.1 p.2):=λp hp=>Off.old (a:=w) (λu hu=>(a1 p hp).ext hu) G (λj ej=>nL o.size (a2 j ej).1);refine clR (Qwd (ar:=ar) a3 hn ag hd af) ?_;rintro u w7 ⟨a8,rv,e,rfl,⟨z,B,m,d',au⟩,ah,av⟩;have ac:Ext w w7:=Qg G a8 (λj ej=>nL o.size (a2 j ej).1);have a4:=(ab.ext U).ext O;have a9:=a4.grown a8 (a4.ne_own a3.1 rfl);subst au;refine Qb a9 ?_ (Yn (z:=z) (A:=B) (n:=m) (c:=d'));intro w8 b1 ax am;refine ρ ?_;refine Vz b1 ⟨am w ac hb,_,e,rfl,⟨z,B,m,d',rfl⟩,λ_ _ h3=>ah (by grind),λe0=>⟨az,λr hr=>?_,?_⟩⟩
 .grind [List.mem_map.1,List.getElem_of_mem,Qv,z0]
 obtain⟨ms,m1,m2,m3,m4⟩:=av e0;refine⟨ms,?_,m2,m3,λhc=>m4 (by grind)⟩;have ba:b<w6.heap.size/\(Value.slice D k d).ownBlock≠some b:=⟨a4.lt,λe=>a4.ne_own a3.1 rfl e.symm⟩;refine(m1.grown ax (λj ej=>by grind)).mono λj _ hj=>⟨nM hj G.size,λe=>?_⟩;have:=(a2 j e).1;have:=o.size;omega
open Go.RowKit Pl Go.Wk _root_.Go.Proofs.Tryz
variable {cs:List Nat}{ls:List Row}{ar i k:Nat}{v:Value}{w:World}
theorem Jkz: ∀(q:Row) (i:Nat) (x:V),i<q.length->Jp (q.set i x)=(Jp q).take (i*3)++x.cells++(Jp q).drop (i*3+3)
 | [],i,x,h=>by simp at h
 | v::q,0,x,_=>by
  have e:Jp (v::q)=v.cells++Jp q:=by simp[Jp]
  have e2:Jp (x::q)=x.cells++Jp q:=by simp[Jp]
  rw[List.set_cons_zero,e,e2,Nat.zero_mul,List.take_zero,List.nil_append,Nat.zero_add];congr 1
 | v::q,i+1,x,h=>by
  have ih:=Jkz q i x (by simpa using h);have e:Jp (v::q)=v.cells++Jp q:=by simp[Jp]
  have e2:Jp (v::q.set i x)=v.cells++Jp (q.set i x):=by simp[Jp]
  have hl:v.cells.length=3:=rfl;rw[List.set_cons_succ,e,e2,ih];have e3:(v.cells++Jp q).take ((i+1)*3)=v.cells++(Jp q).take (i*3):=by grind [List.take_append,List.take_of_length_le]
  grind [Jp,List.drop_append,List.drop_of_length_le,List.append_assoc]
theorem Jkx(n:Nat): (madeCells (Value.agg #[.int .i64 0,.int .i64 0,.string ⟨#[]⟩]).cells (n*3)).toList=Jp (List.replicate n V0):=by
 apply List.ext_getElem?
 intro k;have j:(Value.agg #[.int .i64 0,.int .i64 0,.string ⟨#[]⟩]).cells = #[.int .i64 0,.int .i64 0,.string ⟨#[]⟩]:=rfl;rw[j];by_cases hk:k<n*3
 .have i:=Jfk (List.replicate n V0) (k / 3) (k % 3) (by simp;omega) om;rw[show k / 3*3+k % 3=k by omega]at i;rw[i];have e:(List.replicate n V0).getD (k / 3) V0=V0:=by grind
  rw[e];have o:k % 3<3:=om
  simp only[madeCells,Array.getElem?_toList,Array.getElem?_map,Array.getElem?_range,hk,if_true,Option.map_some];generalize k % 3=r at *
  have:r=0∨r=1∨r=2:=om
  rcases this with rfl|rfl|rfl<;>rfl
 rw[List.getElem?_eq_none (by simp[madeCells];omega),List.getElem?_eq_none (by grind [Jfj])]
def Je(zs:List Int): List Value:=zs.map (Value.int .i64)
def IntsV(w:World)(v:Value)(zs:List Int): Prop:=∃ A c,v=.slice A zs.length c/\zs.length<=c/\zs.length<=1100000/\Rd w 1 A zs.length (Je zs)
theorem IntsV.ext{w w':World}{v:Value}{zs:List Int}(h:IntsV w v zs)(hx:Ext w w'): IntsV w' v zs:=by obtain⟨A,c,u,o,j,i⟩:=h;exact⟨A,c,u,o,j,i.ext hx⟩
theorem Jwq{zs:List Int}(h:i<zs.length): (Je zs)[i]?=some (.int .i64 (zs.getD i 0)):=by simp[Je,List.getD,List.getElem?_eq_getElem h]
def nz(cs:List Nat): List Int:=cs.map fun (c:Nat)=>(c:Int)
theorem Xg(h:i<cs.length): (Je (nz cs))[i]?=some (.int .i64 (cs.getD i 0:Int)):=by simp[Je,nz,List.getD,List.getElem?_eq_getElem h]
theorem Qf(cs:List Nat): (nz cs).length=cs.length:=by simp[nz]
def pmR(cs:List Nat)(r:Row): Row:=cs.map λc=>r.getD c V0
abbrev Xl(w:World)(base:Nat)(v:Value)(q:Row): Prop:=w.ownsRow base 147 3 v q.length (Jp q)
theorem Qn(cs:List Nat)(r:Row): (pmR cs r).length=cs.length:=by simp[pmR]
theorem Jfw{r:Row}(hk:k<cs.length): (pmR cs r).getD k V0=r.getD (cs.getD k 0) V0:=by grind [Qv,V0,pmR]
theorem Jwb(h:RelV w v ar ls): Ret prog 74 [v] w λu w'=>u=.int .i64 (ls.length:Int)/\Ext w w':=by
 obtain⟨O,rfl,ps,A,c,rfl,rfl,D,C,Z,o⟩:=h;refine enE func74 ntmps74 ?_;refine bxR ?_;intro J b j U G;refine ldR (G.at (i:=1) rfl) ?_;refine ρ ?_;exact Jj ⟨by rw[List.length_map],j⟩
theorem Jfq(h:RelV w v ar ls): Ret prog 112 [v] w λu w'=>u=.int .i64 (ar:Int)/\Ext w w':=by
 obtain⟨O,rfl,ps,A,c,rfl,rfl,D,C,Z,o⟩:=h;refine enE func112 ntmps112 ?_;refine bxR ?_;intro J b j U G;refine ldR (G.at (i:=0) rfl) ?_;refine ρ ?_;exact Jj ⟨rfl,j⟩
theorem Jfn(h:RelV w v ar ls): Ret prog 127 [v] w λu w'=>Ext w w'/\RowsP (λk=>k<w.heap.size) w' u ls:=by
 obtain⟨rv,rfl,ps,A,c,rfl,rfl,af,ad,hR,a6⟩:=h;generalize hn:ps.length=n at *
 refine enE func127 ntmps127 ?_;refine bxR ?_;intro w0 b U hb hB;refine ldR (hB.at (i:=1) rfl) ?_;refine ρ ?_;refine mkn ER n om (by unfold maxLen;omega) ?_;intro w1 O ac a8 hO;have a9:∀ k,(Value.slice O n n).ownBlock=some k->w0.heap.size<=k/\k<w1.heap.size:=by grind [Jy]
 have ae:Dat w1 w0.heap.size (.slice O n n) ([]++List.replicate n (.slice none 0 0,[])):=by
  refine⟨?_,λp J=>?_⟩
  .rw[List.nil_append,List.length_replicate,Pr.rep];have e:(madeCells (Value.slice none 0 0).cells (n*1)).toList=List.replicate n (.slice none 0 0):=by rw[Nat.mul_one];exact Ux _ _
   rw[e]at a8;exact a8
  rw[List.nil_append]at J;rw[(List.mem_replicate.1 J).2];rfl
 obtain⟨N,hN⟩:∃ N:Nat->Prop,N=λk=>k<w0.heap.size∨(Value.slice O n n).ownBlock=some k:=⟨_,rfl⟩;refine ρ ?_;refine Jo (fun (k:Nat) (C:List Pr)=>[(1,.pointer (some ⟨b,0,none⟩)),(3,.slice O n n),(10,.int .i64 (n:Int)),(11,.int .i64 (k:Int))])
  (λk C w2=>k<=n/\C.length=k/\C.map (·.2)=(ps.take k).map (·.2)/\Ext w0 w2/\w1.heap.size<=w2.heap.size/\Dat w2 w0.heap.size (.slice O n n) (C++List.replicate (n-k) (.slice none 0 0,[]))/\(∀ p∈C,Off N w2 (λu=>RowV u p.1 p.2))) (λk _=>n-k) 0 [] sB
  ⟨Nat.zero_le _,rfl,rfl,ac,Nat.le_refl _,ae,λp J=>(by cases J)⟩ ?_
 rintro k C w2 ⟨hk,a1,a7,G,a5,a4,aa⟩;have o:=U.trans G;refine ciR (λh=>?_) (λh=>?_)
 .have lk:k<n:=by have:=oT h;omega
  refine ldR ((hB.ext G).at (i:=1) rfl) ?_;refine ixR k (hR.ext o) lk ?_;refine ldR (Jxp (hR.ext o) hn lk) ?_;refine clR (Gd ((a6 _ (Ye hn lk)).ext o) N (λj hj=>?_)) ?_
  .subst hN;rcases hj with h'|h'
   .exact nM h' G.size
   repeat grind
  rintro v3 w3 ⟨Z,D⟩;have a3:=a4.ext D;have a2:(C++List.replicate (n-k) ((.slice none 0 0,[]):Pr)).length=n:=by simp;omega
  obtain⟨s1,s2,s3⟩:=a3.store a2 lk (p:=(v3,(ps.getD k z0).2)) Z.v.one;refine ixR k (a3.rd a2) lk ?_;refine Xv (a3.cell a2 lk) s1 ?_ (hv:=Z.v.one);refine ρ ?_;have e:(C++List.replicate (n-k) ((.slice none 0 0,[]):Pr)).set k (v3,(ps.getD k z0).2)=(C++[(v3,(ps.getD k z0).2)])++List.replicate (n-(k+1)) (.slice none 0 0,[]):=by
   rw[show n-k=(n-(k+1))+1 by omega,List.replicate_succ,List.set_append_right _ _ om,a1,Nat.sub_self,List.set_cons_zero,List.append_assoc];rfl
  rw[e]at s2;have ab:∀ j,(Value.slice O n n).ownBlock=some j->N j:=λj ej=>by rw[hN];exact .inr ej
  refine Jl (k+1) (C++[(v3,(ps.getD k z0).2)]) sO ⟨om,by simp[a1],?_,Qg (G.trans D) s3 (λj hj=>(a9 j hj).1),Nat.le_trans a5 (nL D.size s3.size),s2,λp J=>?_⟩ om
  .grind [Qt,z0]
  rcases List.mem_append.1 J with h'|h'
  .exact((aa p h').ext D).grown s3 ab
  rw[List.mem_singleton.1 h'];exact Z.off.grown s3 ab
 have e:k=n:=by have:=oF h;omega
 subst e;rw[Nat.sub_self,List.replicate_zero,List.append_nil]at a4;rw[List.take_of_length_le om]at a7;refine ρ ?_;refine Jj ⟨o,?_⟩;rw[<-a7];refine rowsP a4 a1 ad (nR _) (λj ej hj=>?_) λp J=>(aa p J).mono λj _ hj=>by rw[hN];exact .inl (nM hj U.size)
 have:=(a9 j ej).1;have:=U.size;omega
open Go.RowKit Pl Go.Wk
variable {cs:List Nat}{v vc:Value}{w:World}
theorem Qgm{r:Row}(h:RowV w v r)(hc:IntsV w vc (nz cs))(hlt:∀ c∈cs,c<r.length): Ret Tryz.prog 221 [v,vc] w λu w'=>Ext w w'/\∃ x,u=.tuple #[x,.int .i64 0]/\Off (λk=>k<w.heap.size) w' (λy=>RowV y x (pmR cs r)):=by
 obtain⟨A,ac,rfl,ag,af,a9⟩:=h;obtain⟨C,cc,rfl,ab,aa,G⟩:=hc;rw[Qf]at *;refine enE Tryz.func221 Tryz.ntmps221 ?_;refine ρ ?_;refine Qy (fun (k:Nat)=>[(0,.slice A r.length ac),(1,.slice C cs.length cc),(10,.int .i64 (cs.length:Int)),(11,.int .i64 (k:Int))]) (λk w'=>w'=w/\k<=cs.length) (λk=>cs.length-k) 0 sB ⟨rfl,Nat.zero_le _⟩ ?_;rintro k w' ⟨rfl,hk⟩;refine ciR (λh=>?_) (λh=>?_)
 .have lk:k<cs.length:=by have:=oT h;omega
  have ae:=hlt _ (getD_mem' 0 cs lk);refine ixR k G lk ?_;refine ldR (G.cell (Xg lk)) ?_;refine kfR 19 ?_ ?_
  .grind
  refine ixR k G lk ?_;refine ldR (G.cell (Xg lk)) ?_;refine cfR ?_ ?_
  .grind
  refine ρ ?_;exact Qw (k+1) sO ⟨rfl,om⟩ om
 refine ρ ?_;refine mkn EV cs.length om (by unfold maxLen;omega) ?_;intro w4 O a4 a6 hO;rw[Jkx]at a6;have a2:Xl w4 w'.heap.size (.slice O cs.length cs.length) ([]++List.replicate cs.length V0):=by grind
 refine ρ ?_;refine Qy (fun (i:Nat)=>[(0,.slice A r.length ac),(1,.slice C cs.length cc),(7,.slice O cs.length cs.length),(33,.int .i64 (cs.length:Int)),(34,.int .i64 (i:Int))])
  (λi w5=>i<=cs.length/\Ext w' w5/\Xl w5 w'.heap.size (.slice O cs.length cs.length) ((pmR cs r).take i++List.replicate (cs.length-i) V0)) (λi=>cs.length-i) 0 sB
  ⟨Nat.zero_le _,a4,a2⟩ ?_
 rintro i w5 ⟨hi,J,o⟩;have D:((pmR cs r).take i++List.replicate (cs.length-i) V0).length=cs.length:=by simp[Qn];omega
 rw[Xl,D]at o;refine ciR (λh0=>?_) (λh0=>?_)
 .have li:i<cs.length:=by have:=oT h0;omega
  have U:=G.ext J;have Z:RdR w5 A r:=Rd.ext a9 J;have lc:=hlt _ (getD_mem' 0 cs li);refine ixR i U li ?_;refine ldR (U.cell (Xg li)) ?_;refine Qp 3 (cs.getD i 0) Z lc ?_;refine Js (λj u hu=>RdR.cell Z lc hu) ?_;refine Qp 3 i (Rd.own o) li ?_;refine ρ ?_;refine Jkr (cs:=(r.getD (cs.getD i 0) V0).cells) o li ?_ (V.one _);intro w6 a5 a8;have a3:Ext w' w6:=Qg J a8 (λk hk=>by grind [Jy]);refine ρ ?_;refine Qw (i+1) sO ⟨om,a3,?_⟩ om;have e:((pmR cs r).take i++List.replicate (cs.length-i) V0).set i (r.getD (cs.getD i 0) V0)=(pmR cs r).take (i+1)++List.replicate (cs.length-(i+1)) V0:=by
   have hl:((pmR cs r).take i).length=i:=by simp[Qn];omega
   rw[List.set_append_right _ _ om,hl,Nat.sub_self,show cs.length-i=(cs.length-(i+1))+1 by omega,List.replicate_succ,List.set_cons_zero,List.take_succ_eq_append_getElem (by rw[Qn];omega),List.append_assoc];rw[<-Jfw li,Qv V0 _ (by rw[Qn];omega)];rfl
  have a1:((pmR cs r).take (i+1)++List.replicate (cs.length-(i+1)) V0).length=cs.length:=by grind
  rw[Xl,a1,<-e,Jkz _ _ _ (by rw[D];omega)];exact a5
 have a7:i=cs.length:=by have:=oF h0;omega
 subst a7;rw[Nat.sub_self,List.replicate_zero,List.append_nil,List.take_of_length_le (by rw[Qn];omega)]at o;refine ρ ?_;refine Vc ⟨J,_,rfl,?_⟩;obtain⟨_,_,_,_,hf⟩:=Jy o;intro y hg;refine⟨O,cs.length,by rw[Qn],by rw[Qn];omega,by rw[Qn];omega,?_⟩;rw[RdR,Qn];refine Vn (Rd.own o) hg λ_ ad e=>?_;grind
theorem Jsv{ar:Nat}{ls:List Row}(h:RelV w v ar ls)(hc:IntsV w vc (nz cs))(hlen:∀ r∈ls,r.length=ar)(hlt:∀ c∈cs,c<ar)(h32:cs.length<=32)(hbig:ls.length<=65536):
  Ret Tryz.prog 195 [v,vc] w λu w'=>Ext w w'/\∃ rv,u=.tuple #[rv,.int .i64 0]/\(∃ z B m d,rv=.agg #[.int .i64 z,.slice B m d])/\∃ m,Off (λk=>k<w.heap.size) w' (λx=>RelV x rv cs.length m)/\m.length<=65536/\(∀ x∈m,x∈ls.map (pmR cs))/\((ls.length<=12∨Srt [] (ls.map (pmR cs)))->IsSet [] (ls.map (pmR cs)) m):=by
 obtain⟨rv,rfl,ps,A,c,rfl,rfl,bd,b3,hR,ah⟩:=h;obtain⟨C,cc,rfl,bf,be,b6⟩:=id hc;generalize hn:ps.length=n at *
 rw[List.length_map,hn]at hbig;have aa:∀ p∈ps,p.2.length=ar:=by grind
 rw[Qf]at *;refine enE Tryz.func195 Tryz.ntmps195 ?_;refine bxR ?_;intro w1 b1 Z bh bc;refine Jv Gm ?_;intro w2 b2 af b7 bb;have a5:=Z.trans af;have a7:=bc.ext af;refine cfR ?_ ?_
 .grind
 refine ρ ?_;refine Qy (fun (k:Nat)=>[(1,.slice C cs.length cc),(2,.pointer (some ⟨b1,0,none⟩)),(4,.pointer (some ⟨b2,0,none⟩)),(14,.int .i64 (cs.length:Int)),(15,.int .i64 (k:Int))]) (λk w'=>Ext w2 w'/\k<=cs.length) (λk=>cs.length-k) 0 sB ⟨Ext.refl _,Nat.zero_le _⟩ ?_;rintro k w3 ⟨a3,hk⟩;refine ciR (λh=>?_) (λh=>?_)
 .have lk:k<cs.length:=by have:=oT h;omega
  have ao:=hlt _ (getD_mem' 0 cs lk);clear h;refine drR (scq 14 []) ?_;have a8:=a3.drew;have D:=b6.ext (a5.trans a8);refine Jc k D lk ?_;refine Jz (D.cell (Xg lk)) ?_;refine ρd ?_;refine dkf 23 ?_ ?_
  .grind
  refine Jc k D lk ?_;refine Jz (D.cell (Xg lk)) ?_;refine Jz ((a7.ext a8).at (i:=0) rfl) ?_;refine ρd ?_;refine cfR ?_ ?_
  .grind
  refine ρ ?_;exact Qw (k+1) sO ⟨a8,om⟩ om
 clear h hk;have J:=a5.trans a3;have a6:=a7.ext a3;refine ldR (a6.at (i:=1) rfl) ?_;refine ρ ?_;refine mkn ER n om (by unfold maxLen;omega) ?_;intro w4 O av ak hO;have ac:∀ k,(Value.slice O n n).ownBlock=some k->w3.heap.size<=k/\k<w4.heap.size:=by grind [Jy]
 have b8:Dat w4 w3.heap.size (.slice O n n) ([]++List.replicate n (.slice none 0 0,[])):=by
  refine⟨?_,λp hp=>?_⟩
  .rw[List.nil_append,List.length_replicate,Pr.rep];have e:(madeCells (Value.slice none 0 0).cells (n*1)).toList=List.replicate n (.slice none 0 0):=by rw[Nat.mul_one];exact Ux _ _
   rw[e]at ak;exact ak
  rw[List.nil_append]at hp;rw[(List.mem_replicate.1 hp).2];rfl
 obtain⟨N,hN⟩:∃ N:Nat->Prop,N=λk=>k<w3.heap.size∨(Value.slice O n n).ownBlock=some k:=⟨_,rfl⟩;refine ρ ?_;refine Jo (fun (k:Nat) (G:List Pr)=>[(1,.slice C cs.length cc),(2,.pointer (some ⟨b1,0,none⟩)),(4,.pointer (some ⟨b2,0,none⟩)),(7,.slice O n n),(39,.int .i64 (n:Int)),(40,.int .i64 (k:Int))])
  (λk G w5=>k<=n/\G.length=k/\G.map (·.2)=(ps.take k).map (λp=>pmR cs p.2)/\Ext w3 w5/\w4.heap.size<=w5.heap.size/\Dat w5 w3.heap.size (.slice O n n) (G++List.replicate (n-k) (.slice none 0 0,[]))/\(∀ p∈G,Off N w5 (λu=>RowV u p.1 p.2))) (λk _=>n-k) 0 [] sB
  ⟨Nat.zero_le _,rfl,rfl,av,Nat.le_refl _,b8,λp hp=>(by cases hp)⟩ ?_
 rintro k G w5 ⟨hk,a9,aj,U,ag,a1,ap⟩;have o:=J.trans U;refine ciR (λh=>?_) (λh=>?_)
 .have lk:k<n:=by have:=oT h;omega
  have ay:(ps.getD k z0).2.length=ar:=aa _ (Ye hn lk);refine ldR ((a6.ext U).at (i:=1) rfl) ?_;refine ixR k (hR.ext o) lk ?_;refine ldR (Jxp (hR.ext o) hn lk) ?_;refine clR (Qgm ((ah _ (Ye hn lk)).ext o) (hc.ext o) (λc ao=>by rw[ay];exact hlt c ao)) ?_;rintro u w6 ⟨a2,x,rfl,ai⟩;have ad:=a1.ext a2;have ab:(G++List.replicate (n-k) ((.slice none 0 0,[]):Pr)).length=n:=by simp;omega
  have Z:x.oneCell'=true:=ai.here.one;obtain⟨s1,s2,s3⟩:=ad.store ab lk (p:=(x,pmR cs (ps.getD k z0).2)) Z;refine ixR k (ad.rd ab) lk ?_;refine Xv (ad.cell ab lk) s1 ?_ (hv:=Z);refine ρ ?_;have e:(G++List.replicate (n-k) ((.slice none 0 0,[]):Pr)).set k (x,pmR cs (ps.getD k z0).2)=(G++[(x,pmR cs (ps.getD k z0).2)])++List.replicate (n-(k+1)) (.slice none 0 0,[]):=by
   rw[show n-k=(n-(k+1))+1 by omega,List.replicate_succ,List.set_append_right _ _ om,a9,Nat.sub_self,List.set_cons_zero,List.append_assoc];rfl
  rw[e]at s2;have aq:∀ j,(Value.slice O n n).ownBlock=some j->N j:=λj ej=>by rw[hN];exact .inr ej
  refine Jl (k+1) (G++[(x,pmR cs (ps.getD k z0).2)]) sO ⟨om,by simp[a9],?_,Qg (U.trans a2) s3 (λj hj=>(ac j hj).1),Nat.le_trans ag (nL a2.size s3.size),s2,λp hp=>?_⟩ om
  .grind [Qt,z0]
  rcases List.mem_append.1 hp with h'|h'
  .exact((ap p h').ext a2).grown s3 aq
  rw[List.mem_singleton.1 h'];refine(ai.mono λj _ hj=>?_).grown s3 aq;rw[hN]at hj;rcases hj with h'|h'
  .exact nM h' U.size
  repeat grind
 have e:k=n:=by have:=oF h;omega
 subst e;rw[Nat.sub_self,List.replicate_zero,List.append_nil]at a1;rw[List.take_of_length_le om]at aj;have b4:G.map (·.2)=(ps.map (·.2)).map (pmR cs):=by rw[aj,List.map_map];rfl
 refine clR (Qwd (ar:=cs.length) a1 a9 b3 (nR _) (λp hp=>(ap p hp).mono λj _ hj=>by rw[hN];exact .inr hj)) ?_;rintro u w7 ⟨am,rv,e,rfl,⟨z,B,m,d',ax⟩,an,az⟩;have he:=an hbig;subst he;have ae:Ext w w7:=Qg o am (λj ej=>nL J.size (ac j ej).1);have a4:=(bb.ext a3).ext U;have ba:=a4.grown am (a4.ne_own a1.1 rfl);subst ax;refine Qb ba ?_ (Yn (z:=z) (A:=B) (n:=m) (c:=d'));intro w8 b9 b5 au;refine ρ ?_;obtain⟨ms,m1,m2,m3,m4⟩:=az rfl;rw[b4]at m3 m4;refine Vz b9 ⟨au w ae (nL Z.size b7),_,rfl,⟨z,B,m,d',rfl⟩,ms,?_,m2,m3,λhc=>m4 (by grind)⟩;have bg:b2<w5.heap.size/\(Value.slice O k k).ownBlock≠some b2:=⟨a4.lt,λe=>a4.ne_own a1.1 rfl e.symm⟩;refine(m1.grown b5 (λj ej=>by grind)).mono λj _ hj=>⟨nM hj o.size,λe=>?_⟩;have:=(ac j e).1;have:=J.size;omega
open Go.RowKit Pl Go.Wk _root_.Go.Proofs.Tryz
variable {t:Bool}{n:Int}{bs:List Bool}{c g i j:Nat}{A:Option Addr}{u v:Value}{w:World}
structure Atm where
 vars: List Int
 ar:Nat
 rows:List Row
abbrev V3:= Value×Value×Value
def V3.cells(t:V3): List Value:=[t.1,t.2.1,t.2.2]
def AtV(w:World)(t:V3)(a:Atm): Prop:=IntsV w t.1 a.vars/\t.2.1=.int .i64 (a.ar:Int)/\RowsV w t.2.2 a.rows
theorem AtV.ext{w w':World}{t:V3}{a:Atm}(h:AtV w t a)(hx:Ext w w'): AtV w' t a:=⟨h.1.ext hx,h.2.1,h.2.2.ext hx⟩
theorem AtV.rel{t:V3}{a:Atm}(h:AtV w t a): RelV w (.agg #[t.2.1,t.2.2]) a.ar a.rows:=⟨t.2.2,by rw[h.2.1],h.2.2⟩
theorem AtV.one{t:V3}{a:Atm}(h:AtV w t a): ∀ u∈t.cells,u.oneCell'=true:=by
 obtain⟨⟨A,c,C,_⟩,o,⟨ps,B,d,_,j,_⟩⟩:=h;intro u i;simp only[V3.cells,List.mem_cons,List.not_mem_nil,or_false]at i;rcases i with rfl|rfl|rfl
 .rw[C];rfl
 .rw[o];rfl
 rw[j];rfl
def v30: V3:=(undef,undef,undef)
def a0: Atm:=⟨[],0,[]⟩
abbrev TA:= V3×Atm
def ta0: TA:=(v30,a0)
def atC(ts:List TA): List Value:=ts.flatMap λp=>p.1.cells
theorem Qvj: ∀(r:List TA) (i j:Nat),i<r.length->j<3->(atC r)[i*3+j]?=(r.getD i ta0).1.cells[j]?
 | [],i,j,h,_=>by simp at h
 | v::r,0,j,_,hj=>by
  simp only[atC,List.flatMap_cons,Nat.zero_mul,Nat.zero_add,List.getD_cons_zero];grind [List.getElem?_append_left,V3.cells]
 | v::r,i+1,j,h,hj=>by
  have ih:=Qvj r i j (by simpa using h) hj;grind [atC,List.getD_cons_succ,List.getElem?_append_right,V3.cells]
def AtsV(w:World)(v:Value)(ats:List Atm): Prop:=∃(ts:List TA) (A:Option Addr) (c:Nat),ats=ts.map (·.2)/\v=.slice A ts.length c/\ts.length<=c/\ts.length<=1100000/\Rd w 3 A ts.length (atC ts)/\∀ p∈ts,AtV w p.1 p.2
theorem AtsV.ext{w w':World}{v:Value}{ats:List Atm}(h:AtsV w v ats)(hx:Ext w w'): AtsV w' v ats:=by
 obtain⟨ts,A,c,G,D,C,u,o,j⟩:=h;exact⟨ts,A,c,G,D,C,u,o.ext hx,λp i=>(j p i).ext hx⟩
theorem Jvk{n:Nat}{ts:List TA}(hR:Rd w 3 A n (atC ts))(hn:ts.length=n)(hi:i<n)(hu:(ts.getD i ta0).1.cells[j]?=some u): w.cell? ((adr A (i*3)).add j)=some u:=by
 have o:j<3:=by grind [List.getElem?_eq_some_iff.1,V3.cells]
 rw[Xe];exact hR.cell (by grind [Qvj])
theorem Jyj{ts:List TA}{n:Nat}(hn:ts.length=n)(hi:i<n): ts.getD i ta0∈ts:=getD_mem' ta0 ts (hn.symm ▸ hi)
def Jvm(zs:List Int): Prop:=∀ j,0<j->j<zs.length->zs.getD (j-1) 0<zs.getD j 0
def Ko(n:Int)(a:Atm): Prop:=Jvm a.vars/\(∀ v∈a.vars,0<=v/\v<n)/\a.vars.length=a.ar
def Jzz(n:Int)(ats:List Atm): Prop:=0<=n/\n<=32/\ats.length<=32/\(∀ a∈ats,Ko n a)/\∀ v:Nat,(v:Int)<n->∃ a∈ats,(v:Int)∈a.vars
theorem Qsl(hR:RdB w A bs)(hm:bs.length<=1100000): Ret prog 162 [.slice A bs.length c,.bool t] w λu w'=>w'=w/\∃ z,u=.int .i64 z/\(0<=z↔t∈bs):=by
 refine enE func162 ntmps162 ?_;refine ρ ?_;refine Qy (fun (k:Nat)=>[(0,.slice A bs.length c),(1,.bool t),(7,.int .i64 (bs.length:Int)),(8,.int .i64 (k:Int))]) (λk w'=>w'=w/\k<=bs.length/\t ∉ bs.take k) (λk=>bs.length-k) 0 sB ⟨rfl,Nat.zero_le _,by simp⟩ ?_;rintro k w' ⟨rfl,i,j⟩;refine ciR (λh=>?_) (λh=>?_)
 .have lk:k<bs.length:=by have:=oT h;omega
  refine ixR k hR lk ?_;refine ldR (RdB.cell hR lk) ?_;refine eqb ?_;refine ciR (λh=>?_) (λh=>?_)
  .refine ρ ?_;refine Jj ⟨rfl,(k:Int),rfl,⟨λ_=>?_,λ_=>om⟩⟩;grind
  refine ρ ?_;refine Qw (k+1) sO ⟨rfl,om,?_⟩ om;grind [Qt,lk,List.mem_singleton]
 refine ρ ?_;refine Jj ⟨rfl,-1,rfl,⟨λe=>om,λe=>?_⟩⟩;grind
theorem Xqf(hR:RdB w A bs)(hm:bs.length<=1100000): Ret prog 113 [.slice A bs.length c,.bool t] w λu w'=>w'=w/\∃ b:Bool,u=.bool b/\(b=true↔t∈bs):=by
 refine enE func113 ntmps113 ?_;refine clR (Qsl hR hm) ?_;rintro u w' ⟨rfl,z,rfl,i⟩;refine ρ ?_;exact Jj ⟨rfl,decide (0<=z),rfl,by grind⟩
theorem Blk.at2{t:TypeId}{cs:List Value}(h:Blk w g t cs)(hv:cs[i+j]?=some v): w.cell? ((⟨g,i,none⟩:Addr).add j)=some v:=by rw[Yf,h.cell];exact hv
theorem Yg: Qa prog 134=some (.agg #[.slice none 0 0,.int .i64 0,.slice none 0 0]):=kr
abbrev Us(w:World)(base:Nat)(v:Value)(bs:List Bool): Prop:=w.ownsRow base 4 1 v bs.length (bs.map Value.bool)
theorem Jlr(h:i<bs.length): (bs.map Value.bool)[i]?=some (.bool (bs.getD i false)):=by grind
theorem Qtm(bs:List Bool)(i k:Nat)(x:Bool)(hi:i<bs.length): (bs.set i x).getD k false=if k=i then x else bs.getD k false:=Jhs false bs i k x hi
open Classical in
noncomputable def atE (n:Int) (a:Atm):Int:=if¬ Jvm a.vars then 16 else if¬ (∀ v∈a.vars,0<=v/\v<n) then 3 else if a.vars.length≠a.ar then 6 else 0
theorem atE_ok{a:Atm}: atE n a=0↔Ko n a:=by unfold atE Ko;grind
noncomputable def frE(n:Int): List Atm->Int
 | []=>0
 | a::r=>if atE n a=0 then frE n r else atE n a
open Classical in
noncomputable def lfE (n:Int) (ats:List Atm):Int:=if¬ (0<=n/\n<=32) then 3 else if 32<ats.length then 12 else if frE n ats=0 then(if ∀ v:Nat,(v:Int)<n->∃ a∈ats,(v:Int)∈a.vars then 0 else 22) else frE n ats
theorem Jbx{n:Int}: ∀ {l:List Atm},(∀ a∈l,Ko n a)->frE n l=0
 | [],_=>rfl
 | a::r,h=>by rw[frE,if_pos (atE_ok.2 (h a mC))];exact Jbx λb hb=>h b (List.mem_cons_of_mem _ hb)
theorem Qxr{n:Int}: ∀ {l:List Atm},frE n l=0->∀ a∈l,Ko n a
 | [],_,a,ha=>by cases ha
 | b::r,h,a,ha=>by
  rw[frE]at h;by_cases e:atE n b=0
  .rw[if_pos e]at h;rcases List.mem_cons.1 ha with rfl|ha
   .exact atE_ok.1 e
   exact Qxr h a ha
  rw[if_neg e]at h;exact absurd h e
theorem Qxs{n:Int}: ∀ {l:List Atm} {i:Nat},(∀ j,j<i->Ko n (l.getD j a0))->i<l.length->atE n (l.getD i a0)≠0->frE n l=atE n (l.getD i a0)
 | [],i,_,h,_=>by simp at h
 | a::r,0,_,_,h=>by rw[frE,if_neg (by simpa using h)];simp
 | a::r,i+1,h,hi,he=>by
  rw[frE,if_pos (atE_ok.2 (by simpa using h 0 om)),List.getD_cons_succ];exact Qxs (λj hj=>by have:=h (j+1) om;rwa [List.getD_cons_succ]at this) (by simpa using hi) (by rwa [List.getD_cons_succ]at he)
theorem Jdl(ts:List TA)(j:Nat): (ts.map (·.2)).getD j a0=(ts.getD j ta0).2:=by
 simp only[List.getD,List.getElem?_map];cases ts[j]?<;>rfl
theorem Qqk{ats:List Atm}: lfE n ats=0↔Jzz n ats:=by
 unfold lfE Jzz;refine⟨λh=>?_,λ⟨u,o,C,j,i⟩=>?_⟩
 .by_cases c1:0<=n/\n<=32
  .rw[if_neg (λh=>h c1)]at h;by_cases c2:32<ats.length
   .rw[if_pos c2]at h;cases h
   rw[if_neg c2]at h;by_cases c3:frE n ats=0
   .rw[if_pos c3]at h;by_cases c4:∀ v:Nat,(v:Int)<n->∃ a∈ats,(v:Int)∈a.vars
    .exact⟨c1.1,c1.2,om,Qxr c3,c4⟩
    rw[if_neg c4]at h;cases h
   rw[if_neg c3]at h;exact absurd h c3
  rw[if_pos c1]at h;cases h
 rw[if_neg (λh=>h ⟨u,o⟩),if_neg om,if_pos (Jbx j),if_pos i]
theorem Qqm{ats:List Atm}(h:AtsV w v ats): Ret prog 61 [.int .i64 n,v] w λu w'=>Ext w w'/\u=.int .i64 (lfE n ats):=by
 obtain⟨ts,A,c,rfl,rfl,bl,bj,hR,bp⟩:=h;generalize hm:ts.length=m at *
 refine enE func61 ntmps61 ?_;refine ρ ?_;refine Yw (fun (t:Bool)=>[(0,.int .i64 n),(1,.slice A m c),(16,.bool t)]) (λt w'=>w'=w/\(t=true↔¬ (0<=n/\n<=32))) ?_ ?_
 .refine ki 13 (λh=>?_) (λh=>?_)
  .refine ρ ?_;exact Jf true sB ⟨rfl,by grind⟩
  refine ρ ?_;refine Jf _ sB ⟨rfl,?_⟩;grind
 rintro t w' ⟨rfl,ht⟩;refine ci (λh=>?_) (λh=>?_)
 .refine ρ ?_;exact Jj ⟨Ext.refl _,congrArg _ (by rw[lfE,if_pos (ht.1 h)])⟩
 have hn:0<=n/\n<=32:=by grind
 obtain⟨ah,ay⟩:=hn;obtain⟨N,rfl⟩:=Int.eq_ofNat_of_zero_le ah;clear h ht;refine ciR (λh=>?_) (λh=>?_)
 .refine ρ ?_;have be:32<(ts.map (·.2)).length:=by rw[List.length_map];have:=oT h;omega
  exact Jj ⟨Ext.refl _,congrArg _ (by rw[lfE,if_neg (λh=>h ⟨ah,ay⟩),if_pos be])⟩
 have bg:m<=32:=by grind
 clear h;refine ρ ?_;refine mkn EB N om (by unfold maxLen;omega) ?_;intro w1 O b7 ax hO;have av:Us w1 w'.heap.size (.slice O N N) (List.replicate N false):=by
  rw[Us,List.length_replicate,List.map_replicate];have e:(madeCells (Value.bool false).cells (N*1)).toList=List.replicate N (Value.bool false):=by rw[Nat.mul_one];exact Ux _ _
  rw[e]at ax;exact ax
 refine ρ ?_;refine Jo (fun (i:Nat) (C:List Bool)=>[(0,.int .i64 (N:Int)),(5,.slice O N N),(22,.slice A m c),(23,.int .i64 (m:Int)),(24,.int .i64 (i:Int))])
  (λi C w2=>i<=m/\Ext w' w2/\C.length=N/\Us w2 w'.heap.size (.slice O N N) C/\(∀ j,j<i->Ko N (ts.getD j ta0).2)/\∀ v:Nat,v<N->(C.getD v false=true↔∃ j,j<i/\(v:Int)∈(ts.getD j ta0).2.vars)) (λi _=>m-i) 0 (List.replicate N false) sB
  ⟨Nat.zero_le _,b7,by simp,av,λj hj=>om,λv hv=>⟨λe=>by simp[List.getD,hv]at e,λ⟨j,hj,_⟩=>om⟩⟩ ?_
 rintro i C w2 ⟨hi,a9,J,ag,ap,a1⟩;refine ciR (λh=>?_) (λh=>?_)
 .have li:i<m:=by have:=oT h;omega
  have b2:=hR.ext a9;obtain⟨t1,t2,t3,a,hp⟩:∃ t1 t2 t3 a,ts.getD i ta0=((t1,t2,t3),a):=⟨_,_,_,_,rfl⟩;have ak:AtV w' (t1,t2,t3) a:=by grind
  have bf:a∈ts.map (·.2):=by grind
  clear h;obtain⟨⟨D,d,e1,hd,bo,az⟩,e2,af⟩:=id ak;simp only at e1 e2;subst e1;subst e2;obtain⟨ps,G,gc,_,ao,_⟩:=id af;simp only at ao;subst ao;refine Qp 3 i b2 li ?_;refine Js (cs:=[.slice D a.vars.length d,.int .i64 (a.ar:Int),.slice G ps.length gc]) (λj u hu=>Jvk b2 hm li (by rw[hp];exact hu)) ?_;refine Jv Yg ?_;intro w3 b b6 hb hB;refine Qb hB ?_ ak.one;intro w4 aj bn b5;have ab:Ext w2 w4:=b5 w2 b6 hb;have a3:=a9.trans ab;have au:=Jk ag ab;have ai:∀ z:Int,z≠0->atE N a=z->Value.int .i64 z=.int .i64 (lfE N (ts.map (·.2))):=λz hz e=>by
   have h1:frE N (ts.map (·.2))=z:=by
    have:=Qxs (n:=(N:Int)) (l:=ts.map (·.2)) (i:=i) (λj hj=>by rw[Jdl];exact ap j hj) (by rw[List.length_map];omega) (by rw[Jdl,hp,e];exact hz)
    rw[this,Jdl,hp,e]
   rw[lfE,if_neg (λh=>h ⟨ah,ay⟩),if_neg (by rw[List.length_map];omega),if_neg (by rw[h1];exact hz),h1]
  refine ρ ?_;refine Qy (fun (k:Nat)=>[(0,.int .i64 (N:Int)),(5,.slice O N N),(22,.slice A m c),(23,.int .i64 (m:Int)),(24,.int .i64 (i:Int)),(7,.pointer (some ⟨b,0,none⟩)),(8,.int .i64 (k:Int))])
   (λk w5=>Ext w4 w5/\1<=k/\(k<=a.vars.length∨k=1)/\∀ j,0<j->j<k->a.vars.getD (j-1) 0<a.vars.getD j 0) (λk=>a.vars.length-k) 1 sB ⟨Ext.refl _,Nat.le_refl _,.inr rfl,λj h1 h2=>om⟩ ?_
  rintro k w5 ⟨a8,ba,b9,ad⟩;have aa:=aj.ext a8;refine ldR (aa.at (i:=0) rfl) ?_;refine ciR (λh=>?_) (λh=>?_)
  .have lk:k<a.vars.length:=by have:=oT h;omega
   have am:k-1<a.vars.length:=om
   clear h;refine drR (scq 12 []) ?_;have Z:=a8.drew;have a2:=aj.ext Z;have o:=az.ext (a3.trans Z);refine Jz (a2.at (i:=0) rfl) ?_;refine Jc (k-1) o am ?_;refine Jz (o.cell (Jwq am)) ?_;refine Jz (a2.at (i:=0) rfl) ?_;refine Jc k o lk ?_;refine Jz (o.cell (Jwq lk)) ?_;refine ρd ?_;refine ciR (λh=>?_) (λh=>?_)
   .refine ρ ?_;refine Jj ⟨a3.trans Z,ai 16 (by decide) ?_⟩;rw[atE,if_pos];intro h1;have:=h1 k om lk;grind
   refine ρ ?_;refine Qw (k+1) sO ⟨Z,om,om,λj h1 h2=>?_⟩ om;grind
  have U:Jvm a.vars:=λj h1 h2=>ad j h1 (by grind);clear h ad ba b9;have an:=a3.trans a8;have aq:=Jk au a8;refine ldR (aa.at (i:=0) rfl) ?_;refine ρ ?_;refine Jo (fun (q:Nat) (C:List Bool)=>[(0,.int .i64 (N:Int)),(5,.slice O N N),(22,.slice A m c),(23,.int .i64 (m:Int)),(24,.int .i64 (i:Int)),(7,.pointer (some ⟨b,0,none⟩)),(48,.slice D a.vars.length d),(49,.int .i64 (a.vars.length:Int)),(50,.int .i64 (q:Int))])
   (λq C w6=>q<=a.vars.length/\Ext w' w6/\C.length=N/\Us w6 w'.heap.size (.slice O N N) C/\Blk w6 b 134 [.slice D a.vars.length d,.int .i64 (a.ar:Int),.slice G ps.length gc]/\(∀ j,j<q->0<=a.vars.getD j 0/\a.vars.getD j 0<N)/\∀ v:Nat,v<N->(C.getD v false=true↔(∃ j,j<i/\(v:Int)∈(ts.getD j ta0).2.vars)∨∃ j,j<q/\a.vars.getD j 0=(v:Int))) (λq _=>a.vars.length-q) 0 C sB
   ⟨Nat.zero_le _,an,J,aq,aa,λj hj=>om,λv hv=>⟨λe=>.inl ((a1 v hv).1 e),λe=>(a1 v hv).2 (e.elim id λ⟨j,hj,_⟩=>om)⟩⟩ ?_
  clear ag au aq aa aj a1 J;rintro q C w6 ⟨hq,a7,J,a5,a2,bm,a1⟩;refine ciR (λh=>?_) (λh=>?_)
  .have lq:q<a.vars.length:=by have:=oT h;omega
   have o:=az.ext a7;have b8:a.vars.getD q 0∈a.vars:=getD_mem' 0 _ lq;clear h;refine ixR q o lq ?_;refine ldR (o.cell (Jwq lq)) ?_;refine ρ ?_;generalize hz:a.vars.getD q 0=z at *
   refine Yw (fun (t:Bool)=>[(0,.int .i64 (N:Int)),(5,.slice O N N),(22,.slice A m c),(23,.int .i64 (m:Int)),(24,.int .i64 (i:Int)),(7,.pointer (some ⟨b,0,none⟩)),(48,.slice D a.vars.length d),(49,.int .i64 (a.vars.length:Int)),(50,.int .i64 (q:Int)),(10,.int .i64 z),(60,.bool t)]) (λt w7=>w7=w6/\(t=true↔¬ (0<=z/\z<N))) ?_ ?_
   .refine ki 56 (λh=>?_) (λh=>?_)
    .refine ρ ?_;exact Jf true sB ⟨rfl,by grind⟩
    refine ρ ?_;refine Jf _ sB ⟨rfl,?_⟩;grind
   rintro t w7 ⟨rfl,ht⟩;refine ci (λh=>?_) (λh=>?_)
   .refine ρ ?_;exact Jj ⟨a7,ai 3 (by decide) (by rw[atE,if_neg (λh=>h U),if_pos (λh1=>ht.1 h (h1 z b8))])⟩
   have b4:0<=z/\z<N:=by grind
   obtain⟨x,rfl⟩:=Int.eq_ofNat_of_zero_le b4.1;have lx:x<N:=om
   rw[Us,J]at a5;obtain⟨s1,s2,s3,s4,s5⟩:=Zn a5 (q:=x) om (.bool true);refine ixR x (Rd.own a5) lx ?_;refine Xv (s1.trans (Jlr om)) s2 ?_;refine ρ ?_;refine Jl (q+1) (C.set x true) sO ⟨om,Qg a7 s5 (λk hk=>by grind [Jy]),by simpa using J,?_,a2.grown s5 (a2.ne_own a5 rfl),λj hj=>?_,λv hv=>?_⟩ om
   .rw[Us,List.length_set,J,List.map_set];exact s3
   repeat grind
  have eq:q=a.vars.length:=by have:=oF h;omega
  clear h;have ac:∀ v∈a.vars,0<=v/\v<N:=λv hv=>by grind [List.getElem_of_mem,Qv]
  refine drR (scq 7 [5]) ?_;have a4:=a7.drew;have b3:=a2.ext (Ext.refl w6).drew;have bd:=ak.ext a4;refine Jz (b3.at (i:=0) rfl) ?_;refine Qh (cs:=[.int .i64 (a.ar:Int),.slice G ps.length gc]) (λj u hu=>Blk.at2 b3 (i:=0+1) (by grind)) ?_;refine Jh (Jfq bd.rel) ?_;rintro u w8 ⟨rfl,a6⟩;refine⟨a6,?_⟩;refine ρd ?_;refine ciR (λh=>?_) (λh=>?_)
  .refine ρ ?_;refine Jj ⟨a4.trans a6,ai 6 (by decide) ?_⟩;rw[atE,if_neg (λh=>h U),if_neg (λh=>h ac),if_pos];have:=Kl h;omega
  refine ρ ?_;have bb:a.vars.length=a.ar:=by have:=Jqc h;omega
  refine Jl (i+1) C sO ⟨om,a4.trans a6,J,Jk (Jk a5 (Ext.refl w6).drew) a6,λj hj=>?_,λv hv=>?_⟩ om
  .by_cases ej:j=i
   .subst ej;rw[hp];exact⟨U,ac,bb⟩
   exact ap j om
  repeat grind [getD_mem',List.getElem_of_mem,Qv]
 have ei:i=m:=by have:=oF h;omega
 clear h;subst J;have bc:RdB w2 O C:=Rd.own ag;have ae:∀ a∈ts.map (·.2),Ko C.length a:=λa ha=>by grind [List.mem_map.1,List.getElem_of_mem,Qv,ta0]
 refine clR (Xqf bc om) ?_;rintro u w3 ⟨rfl,t,rfl,ht⟩;refine ciR (λh=>?_) (λh=>?_)
 .refine ρ ?_;refine Jj ⟨a9,congrArg _ ?_⟩;rw[lfE,if_neg (λh=>h ⟨om,om⟩),if_neg (by rw[List.length_map];omega),if_pos (Jbx ae),if_neg];intro b1;obtain⟨x,hx,ex⟩:=List.getElem_of_mem (ht.1 h);obtain⟨a,ha,bh⟩:=b1 x om;grind [List.mem_map.1,List.getElem_of_mem,Qv,ta0]
 refine ρ ?_;refine Jj ⟨a9,congrArg _ ?_⟩;rw[lfE,if_neg (λh=>h ⟨om,om⟩),if_neg (by rw[List.length_map];omega),if_pos (Jbx ae),if_pos];intro v hv;have bi:v<C.length:=om
 grind
theorem Qql{ats:List Atm}(h:AtsV w v ats): Ret prog 61 [.int .i64 n,v] w λu w'=>Ext w w'/\∃ e,u=.int .i64 e/\(e=0↔Jzz n ats):=(Qqm h).mono λu w' h=>⟨h.1,_,h.2,Qqk⟩
open Go.RowKit Pl Go.Wk
variable {v:Value}{w:World}
structure Inp where
 n: Int
 free:Int
 desc:List Bool
 perm:List Int
 ats:List Atm
def InC(w:World)(i:Inp)(cs:List Value): Prop:=∃ vd vp va,cs=[.int .i64 i.n,.int .i64 i.free,vd,vp,va]/\BoolsV w vd i.desc/\IntsV w vp i.perm/\AtsV w va i.ats
theorem InC.ext{w w':World}{i:Inp}{cs:List Value}(h:InC w i cs)(hx:Ext w w'): InC w' i cs:=by
 obtain⟨o,j,u,e,G,D,C⟩:=h;exact⟨o,j,u,e,G.ext hx,D.ext hx,C.ext hx⟩
def InV(w:World)(v:Value)(i:Inp): Prop:=∃ cs,v=.agg cs.toArray/\InC w i cs
theorem InV.ext{w w':World}{v:Value}{i:Inp}(h:InV w v i)(hx:Ext w w'): InV w' v i:=by
 obtain⟨cs,e,h⟩:=h;exact⟨cs,e,h.ext hx⟩
def Kj(i:Inp): Prop:=0<=i.n/\i.n<=32/\0<=i.free/\i.free<=i.n/\(i.desc.length:Int)=i.free/\(i.perm.length:Int)=i.n-i.free/\(∀ v∈i.perm,i.free<=v/\v<i.n)/\i.perm.Nodup/\Jzz i.n i.ats
open Classical in
noncomputable def Jqn (i:Inp):Int:=if¬ (0<=i.n/\i.n<=32/\0<=i.free/\i.free<=i.n) then 3 else if¬ ((i.desc.length:Int)=i.free/\(i.perm.length:Int)=i.n-i.free) then 1 else if¬ ((∀ v∈i.perm,i.free<=v/\v<i.n)/\i.perm.Nodup) then 1 else lfE i.n i.ats
theorem Qsw{i:Inp}: Jqn i=0↔Kj i:=by
 unfold Jqn Kj;by_cases c1:0<=i.n/\i.n<=32/\0<=i.free/\i.free<=i.n
 .rw[if_neg (λh=>h c1)];by_cases c2:(i.desc.length:Int)=i.free/\(i.perm.length:Int)=i.n-i.free
  .rw[if_neg (λh=>h c2)];by_cases c3:(∀ v∈i.perm,i.free<=v/\v<i.n)/\i.perm.Nodup
   .rw[if_neg (λh=>h c3),Qqk];exact⟨λh=>⟨c1.1,c1.2.1,c1.2.2.1,c1.2.2.2,c2.1,c2.2,c3.1,c3.2,h⟩,λh=>h.2.2.2.2.2.2.2.2⟩
   rw[if_pos c3];exact⟨λh=>(by cases h),λh=>absurd ⟨h.2.2.2.2.2.2.1,h.2.2.2.2.2.2.2.1⟩ c3⟩
  rw[if_pos c2];exact⟨λh=>(by cases h),λh=>absurd ⟨h.2.2.2.2.1,h.2.2.2.2.2.1⟩ c2⟩
 rw[if_pos c1];exact⟨λh=>(by cases h),λh=>absurd ⟨h.1,h.2.1,h.2.2.1,h.2.2.2.1⟩ c1⟩
theorem Qsx{inp:Inp}(h:InV w v inp)(hn64:-9223372036854775808<=inp.n/\inp.n<=9223372036854775807)(hf64:-9223372036854775808<=inp.free/\inp.free<=9223372036854775807): Ret Tryz.prog 12 [v] w λu w'=>Ext w w'/\u=.int .i64 (Jqn inp):=by
 obtain⟨_,rfl,vd,vp,va,rfl,ae,ad,a7⟩:=h;obtain⟨n,free,a4,perm,ats⟩:=inp;simp only at ae ad a7 hn64 hf64 ⊢;obtain⟨D,dc,rfl,b1,az,ay⟩:=id ae;obtain⟨G,gc,rfl,ax,av,ao⟩:=id ad;obtain⟨ts,A,c,_,rfl,_⟩:=id a7;refine enE Tryz.func12 Tryz.ntmps12 ?_;refine bxR ?_;intro w1 b a6 hb o;refine ρ ?_;refine Yw (fun (t:Bool)=>[(1,.pointer (some ⟨b,0,none⟩)),(25,.bool t)]) (λt w'=>w'=w1/\(t=true↔¬ (0<=n/\n<=32/\0<=free/\free<=n))) ?_ ?_
 .refine ld (o.at (i:=0) rfl) ?_;refine ρ ?_;refine ki 9 (λh=>?_) (λh=>?_)
  .have:=oT h;refine ρ ?_;exact Jf true sB ⟨rfl,by simp;omega⟩
  have h1:=oF h;refine ldR (o.at (i:=0) rfl) ?_;refine ρ ?_;refine ki 14 (λh=>?_) (λh=>?_)
  .have:=oT h;refine ρ ?_;exact Jf true sB ⟨rfl,by simp;omega⟩
  have h2:=oF h;refine ldR (o.at (i:=1) rfl) ?_;refine ρ ?_;refine ki 19 (λh=>?_) (λh=>?_)
  .have:=oT h;refine ρ ?_;exact Jf true sB ⟨rfl,by simp;omega⟩
  have h3:=oF h;refine ldR (o.at (i:=1) rfl) ?_;refine ldR (o.at (i:=0) rfl) ?_;refine ρ ?_;refine Jf _ sB ⟨rfl,?_⟩;grind
 rintro t w' ⟨rfl,ht⟩;refine ci (λh=>?_) (λh=>?_)
 .refine ρ ?_;exact Jj ⟨a6,congrArg _ (by rw[Jqn,if_pos (ht.1 h)])⟩
 have hn:0<=n/\n<=32/\0<=free/\free<=n:=by grind
 obtain⟨Z,a9,a1,aa⟩:=hn;obtain⟨N,rfl⟩:=Int.eq_ofNat_of_zero_le Z;obtain⟨F,rfl⟩:=Int.eq_ofNat_of_zero_le a1;clear h ht;refine ldR (o.at (i:=2) rfl) ?_;refine ldR (o.at (i:=1) rfl) ?_;refine ρ ?_;refine Yw (fun (t:Bool)=>[(1,.pointer (some ⟨b,0,none⟩)),(42,.bool t)]) (λt w2=>w2=w'/\(t=true↔¬ (a4.length=F/\perm.length+F=N))) ?_ ?_
 .refine ki 32 (λh=>?_) (λh=>?_)
  .have:=Kl h;refine ρ ?_;exact Jf true sB ⟨rfl,by simp;omega⟩
  have h1:=Jqc h;refine ldR (o.at (i:=3) rfl) ?_;refine ldR (o.at (i:=0) rfl) ?_;refine ldR (o.at (i:=1) rfl) ?_;refine ρ ?_;refine Jf _ sB ⟨rfl,?_⟩;rw[bne_iff_ne];omega
 rintro t2 w2 ⟨rfl,ht⟩;refine ci (λh=>?_) (λh=>?_)
 .refine ρ ?_;refine Jj ⟨a6,congrArg _ ?_⟩;rw[Jqn,if_neg (λh=>h ⟨Z,a9,a1,aa⟩),if_pos];intro e;have h5:=e.1;have h6:=e.2;simp only at h5 h6;exact ht.1 h om
 have ap:a4.length=F/\perm.length+F=N:=by grind
 obtain⟨b2,au⟩:=ap;clear h ht;refine ldR (o.at (i:=0) rfl) ?_;refine ρ ?_;refine mkn EB N om (by unfold maxLen;omega) ?_;intro w3 O ac ag hO;have af:Us w3 w2.heap.size (.slice O N N) (List.replicate N false):=by
  rw[Us,List.length_replicate,List.map_replicate];have e:(madeCells (Value.bool false).cells (N*1)).toList=List.replicate N (Value.bool false):=by rw[Nat.mul_one];exact Ux _ _
  rw[e]at ag;exact ag
 refine ldR ((o.ext ac).at (i:=3) rfl) ?_;refine ρ ?_;refine Jo (fun (i:Nat) (us:List Bool)=>[(1,.pointer (some ⟨b,0,none⟩)),(3,.slice O N N),(47,.slice G perm.length gc),(48,.int .i64 (perm.length:Int)),(49,.int .i64 (i:Int))])
  (λi us w4=>i<=perm.length/\Ext w2 w4/\us.length=N/\Us w4 w2.heap.size (.slice O N N) us/\(∀ v∈perm.take i,(F:Int)<=v/\v<N)/\(perm.take i).Nodup/\∀ v:Nat,v<N->(us.getD v false=true↔(v:Int)∈perm.take i)) (λi _=>perm.length-i) 0 (List.replicate N false) sB
  ⟨Nat.zero_le _,ac,by simp,af,λv hv=>by simp at hv,by simp,λv hv=>⟨λe=>by simp[List.getD,hv]at e,λe=>by simp at e⟩⟩ ?_
 rintro i us w4 ⟨hi,a5,J,C,ah,a8,aq⟩;have a2:=o.ext a5;have j:=a6.trans a5;refine ciR (λh=>?_) (λh=>?_)
 .have li:i<perm.length:=by have:=oT h;omega
  have a3:=ao.ext j;clear h;have ab:perm.getD i 0∈perm:=getD_mem' 0 perm li;have an:perm.take (i+1)=perm.take i++[perm.getD i 0]:=Qt 0 li;have U:perm.Nodup->perm.getD i 0 ∉ perm.take i:=λa8 hm=>by grind [List.take_sublist,List.nodup_append,List.mem_singleton.2]
  refine ixR i a3 li ?_;refine ldR (a3.cell (Jwq li)) ?_;refine ldR (a2.at (i:=1) rfl) ?_;refine ρ ?_;generalize hz:perm.getD i 0=z at *
  refine Yw (fun (t:Bool)=>[(1,.pointer (some ⟨b,0,none⟩)),(3,.slice O N N),(47,.slice G perm.length gc),(48,.int .i64 (perm.length:Int)),(49,.int .i64 (i:Int)),(5,.int .i64 z),(68,.bool t)]) (λt w5=>w5=w4/\(t=true↔¬ ((F:Int)<=z/\z<N/\z ∉ perm.take i))) ?_ ?_
  .refine ki 57 (λh=>?_) (λh=>?_)
   .have:=oT h;refine ρ ?_;exact Jf true sB ⟨rfl,by simp;omega⟩
   have h1:=oF h;refine ldR (a2.at (i:=0) rfl) ?_;refine ρ ?_;refine ki 63 (λh=>?_) (λh=>?_)
   .have:=oT h;refine ρ ?_;exact Jf true sB ⟨rfl,by simp;omega⟩
   have h2:=oF h;have aj:0<=z:=om
   obtain⟨x,rfl⟩:=Int.eq_ofNat_of_zero_le aj;have lx:x<N:=om
   have ai:Rd w4 1 O N (us.map Value.bool):=by rw[Us,J]at C;exact Rd.own C
   refine ixR x ai lx ?_;refine ρ ?_;have ak:x<us.length:=om
   refine ld (ai.cell (Jlr ak)) ?_;refine ρ ?_;refine Jf _ sB ⟨rfl,?_⟩;grind
  rintro t5 w5 ⟨rfl,ht⟩;refine ci (λh=>?_) (λh=>?_)
  .refine ρ ?_;refine Jj ⟨j,congrArg _ ?_⟩;rw[Jqn,if_neg (λh=>h ⟨Z,a9,a1,aa⟩),if_neg (λh=>h ⟨by simp only;omega,by simp only;omega⟩),if_pos];intro e;exact ht.1 h ⟨(e.1 z ab).1,(e.1 z ab).2,U e.2⟩
  have ar:(F:Int)<=z/\z<N/\z ∉ perm.take i:=by grind
  obtain⟨x,rfl⟩:=Int.eq_ofNat_of_zero_le (show 0<=z by omega);have lx:x<N:=om
  rw[Us,J]at C;obtain⟨s1,s2,s3,s4,s5⟩:=Zn C (q:=x) om (.bool true);refine ixR x (Rd.own C) lx ?_;refine Xv (s1.trans (Jlr om)) s2 ?_;refine ρ ?_;refine Jl (i+1) (us.set x true) sO ⟨om,Qg a5 s5 (λk hk=>by grind [Jy]),by simpa using J,?_,λv hv=>?_,?_,λv hv=>?_⟩ om
  .rw[Us,List.length_set,J,List.map_set];exact s3
  .grind
  .grind [List.nodup_append,List.mem_singleton]
  rw[Qtm _ _ _ _ om,an,List.mem_append,List.mem_singleton];grind
 have ei:i=perm.length:=by have:=oF h;omega
 clear h;rw[ei,List.take_of_length_le (nR _)]at ah a8;refine ldR (a2.at (i:=0) rfl) ?_;refine ldR (a2.at (i:=4) rfl) ?_;refine clR (Qqm (a7.ext j)) ?_;rintro u w5 ⟨am,rfl⟩;refine ρ ?_;refine Jj ⟨j.trans am,congrArg _ ?_⟩;rw[Jqn,if_neg (λh=>h ⟨Z,a9,a1,aa⟩),if_neg (λh=>h ⟨by simp only;omega,by simp only;omega⟩),if_neg (λh=>h ⟨ah,a8⟩)]
theorem Qxg{inp:Inp}(h:InV w v inp)(hn64:-9223372036854775808<=inp.n/\inp.n<=9223372036854775807)(hf64:-9223372036854775808<=inp.free/\inp.free<=9223372036854775807): Ret Tryz.prog 12 [v] w λu w'=>Ext w w'/\∃ e,u=.int .i64 e/\(e=0↔Kj inp):=(Qsx h hn64 hf64).mono λu w' h=>⟨h.1,_,h.2,Qsw⟩
end Go.Proofs.YtgobkbeokaaplaaGreatDoor
namespace Go.Proofs.YtgobkbeokaaplaaGreatDoor
open Pl
variable {f:List Nat}{rs:List Row}{d i j l:Nat}{q x:Row}
def pfx(rs:List Row)(l:Nat): List Row:=ddF (rs.map (List.take l))
theorem Jtw(rs:List Row)(x:Row)(l:Nat): pfx (rs++[x]) l=ddS (pfx rs l) (x.take l):=by
 unfold pfx;rw[List.map_append,List.map_cons,List.map_nil,Jlg]
theorem Qkj: ∀(a b:Row) (l:Nat),Jw a b []<=0->Jw (a.take l) (b.take l) []<=0
 | _,_,0,_=>by simp[Jw]
 | [],[],_+1,_=>by simp[Jw]
 | [],_::_,_+1,_=>by simp[Jw]
 | _::_,[],_+1,h=>by simp[Jw]at h
 | x::a,y::b,l+1,h=>by
  simp only[List.take_succ_cons,Jw,List.drop_nil]at h ⊢;by_cases e:cmpV x y=0
  .rw[if_pos e]at h ⊢;exact Qkj a b l h
  repeat grind
theorem Qdx(h:Srt [] rs)(l:Nat): Srt [] (rs.map (List.take l)):=by grind [Srt,Qkj]
theorem Gt(h:Lt [] rs): Srt [] rs:=h.imp λi=>by omega
theorem Jwh(h:Srt [] rs)(l:Nat): IsSet [] (rs.map (List.take l)) (pfx rs l):=Jlh (Qdx h l)
theorem Jwj(h:Srt [] rs): q∈pfx rs l↔∃ r∈rs,r.take l=q:=by
 rw[(Jwh h l).2,List.mem_map]
theorem Qlm(h:Lt [] rs)(hl:∀ r∈rs,r.length=d): pfx rs d=rs:=by
 have e:rs.map (List.take d)=rs:=by
  conv=>rhs;rw[<-List.map_id rs]
  exact List.map_congr_left λr j=>by grind
 have i:=Jwh (Gt h) d;rw[e]at i;exact Jjs i.1 h i.2
theorem Jtx: (pfx (rs++[x]) l).getLast?=some (x.take l):=by grind [Jtw,Qzp]
def shr: Row->Row->Nat
 | a::x,b::y=>if a=b then shr x y+1 else 0
 | _,_=>0
theorem Jdq(y:Row): shr [] y=0:=by cases y<;>rfl
theorem Jrt: ∀ x y:Row,shr x y<=x.length/\shr x y<=y.length
 | [],y=>by rw[Jdq];simp
 | _::_,[]=>by simp[shr]
 | a::x,b::y=>by
  have:=Jrt x y;simp only[shr,List.length_cons];split<;>omega
theorem Jrs: ∀(x y:Row) (l:Nat),x.length=y.length->(x.take l=y.take l↔l<=shr x y∨x=y)
 | [],[],l,_=>by simp
 | [],_::_,_,h=>by simp at h
 | _::_,[],_,h=>by simp at h
 | a::x,b::y,0,_=>by simp
 | a::x,b::y,l+1,h=>by
  have ih:=Jrs x y l (by simpa using h);grind [List.cons.injEq,shr]
def lvl(rs:List Row)(l:Nat): Row:=(pfx rs (l+1)).map λq=>q.getD l V0
theorem Jzk(rs:List Row)(l:Nat): (lvl rs l).length=(pfx rs (l+1)).length:=by simp[lvl]
theorem Qps(h:i<(pfx rs (l+1)).length): (lvl rs l).getD i V0=((pfx rs (l+1)).getD i []).getD l V0:=by grind [Qv,V0,Jzk,lvl]
def Fst(rs:List Row)(l:Nat)(f:List Nat): Prop:=f.length=(pfx rs (l+1)).length/\(∀ j,j<f.length->f.getD j 0<=(pfx rs (l+2)).length) /\
 ∀ j i,j<f.length->i<(pfx rs (l+2)).length->(((pfx rs (l+2)).getD i []).take (l+1)=(pfx rs (l+1)).getD j []↔f.getD j 0<=i/\(j+1<f.length->i<f.getD (j+1) 0))
def stp(rs:List Row)(x:Row): Nat:=match rs.getLast? with
 | some y=>shr y x
 | none=>0
theorem Jqb(h:Lt [] (rs++[x]))(hl:∀ r∈rs++[x],r.length=d)(h0:0<l): pfx (rs++[x]) l=if l<=stp rs x then pfx rs l else pfx rs l++[x.take l]:=by
 rw[Jtw];rcases List.eq_nil_or_concat rs with rfl|⟨r,y,rfl⟩
 .rw[if_neg (by simp[stp];omega)];rfl
 rw[List.concat_eq_append]at *;have j:(r++[y]).getLast?=some y:=by simp
 have i:Jw y x []<0:=(List.pairwise_append.1 h).2.2 y (by simp) x (by simp);grind [Yt,stp,shr,ddS,Jtx,Jrs]
theorem Qlk(h:Lt [] (rs++[x]))(hl:∀ r∈rs++[x],r.length=d)(h0:0<l)(hs:stp rs x<l): x.take l ∉ pfx rs l:=by
 have e:=Jqb h hl h0;rw[if_neg om]at e;have i:=(Jwh (Gt h) l).1;rw[e]at i;intro j;have:=(List.pairwise_append.1 i).2.2 _ j (x.take l) (by simp);grind [Yt]
theorem Qpw{l:List Row}(h:Lt [] l)(hi:i<l.length)(hj:j<l.length)(e:l.getD i []=l.getD j []): i=j:=by
 rcases Nat.lt_trichotomy i j with h'|h'|h'
 .have:=h.at h' hj;rw[e,Yt]at this;omega
 .exact h'
 have:=h.at h' hi;rw[e,Yt]at this;omega
theorem Qxq{α:Type}(z:α)(l:List α)(x:α)(k:Nat): (l++[x]).getD k z=if k<l.length then l.getD k z else if k=l.length then x else z:=by grind
theorem take_take'(q:Row)(l:Nat): (q.take (l+2)).take (l+1)=q.take (l+1):=by grind
theorem Qlj(h:Srt [] rs)(hi:i<(pfx rs (l+2)).length): ((pfx rs (l+2)).getD i []).take (l+1)∈pfx rs (l+1):=by grind [Jwj,getD_mem',take_take']
theorem Fst.keep(hF:Fst rs l f)(h:Lt [] (rs++[x]))(hl:∀ r∈rs++[x],r.length=d)(hs:l+1<=stp rs x): Fst (rs++[x]) l f:=by
 obtain⟨J,Z,U⟩:=hF;have O:pfx (rs++[x]) (l+1)=pfx rs (l+1):=by rw[Jqb h hl om,if_pos hs]
 have o:Lt [] rs:=(List.pairwise_append.1 h).1;have u:0<(pfx rs (l+1)).length/\(pfx rs (l+1)).getD ((pfx rs (l+1)).length-1) []=x.take (l+1):=by grind [Jtx,List.getElem?_eq_some_iff.1,Qv]
 have D:Lt [] (pfx rs (l+1)):=(Jwh (Gt o) _).1;by_cases hs2:l+2<=stp rs x
 .have C:pfx (rs++[x]) (l+2)=pfx rs (l+2):=by rw[Jqb h hl om,if_pos hs2]
  grind [Fst]
 have C:pfx (rs++[x]) (l+2)=pfx rs (l+2)++[x.take (l+2)]:=by rw[Jqb h hl om,if_neg hs2]
 unfold Fst;rw[O,C];refine⟨J,λj G=>?_,λj i G hi=>?_⟩;repeat grind [List.length_append,List.length_singleton,Qxq,pfx,take_take',Qpw]
theorem Fst.more(hF:Fst rs l f)(h:Lt [] (rs++[x]))(hl:∀ r∈rs++[x],r.length=d)(hs:stp rs x<=l): Fst (rs++[x]) l (f++[(pfx rs (l+2)).length]):=by
 obtain⟨C,O,J⟩:=hF;have o:Lt [] rs:=(List.pairwise_append.1 h).1;have G:pfx (rs++[x]) (l+1)=pfx rs (l+1)++[x.take (l+1)]:=by rw[Jqb h hl om,if_neg om]
 have D:pfx (rs++[x]) (l+2)=pfx rs (l+2)++[x.take (l+2)]:=by rw[Jqb h hl om,if_neg om]
 have hn:=Qlk h hl (l:=l+1) om om;unfold Fst;rw[G,D];refine⟨by simp[C],λj u=>?_,λj i u hi=>?_⟩
 .grind
 repeat grind [List.length_append,List.length_singleton,Qxq,pfx,take_take',getD_mem',Qlj,Gt]
def Chl(rs:List Row)(l:Nat)(f:List Nat): Prop:=f.length=(pfx rs (l+1)).length+1/\(∀ j,j<f.length->f.getD j 0<=(pfx rs (l+2)).length) /\
 ∀ j i,j+1<f.length->i<(pfx rs (l+2)).length->(((pfx rs (l+2)).getD i []).take (l+1)=(pfx rs (l+1)).getD j []↔f.getD j 0<=i/\i<f.getD (j+1) 0)
theorem Fst.close(hF:Fst rs l f): Chl rs l (f++[(pfx rs (l+2)).length]):=by
 obtain⟨u,D,C⟩:=hF;refine⟨by simp[u],λj o=>?_,λj i o hi=>?_⟩;repeat grind
theorem Fst.nil(l:Nat): Fst [] l []:=⟨rfl,λj o=>by simp at o,λj i o=>by simp at o⟩
theorem Qjv(h:Lt [] (rs++[x]))(hl:∀ r∈rs++[x],r.length=d)(hd:l<d): lvl (rs++[x]) l=if l+1<=stp rs x then lvl rs l else lvl rs l++[x.getD l V0]:=by
 unfold lvl;rw[Jqb h hl om];grind
end Go.Proofs.YtgobkbeokaaplaaGreatDoor
namespace Go.Wk
open Go.RowKit
variable {c' cs news xs:List Value}{d g i k l m m' n t ty:Nat}{α:Type}{v v' z:Value}
def upd(f:Nat->α)(i:Nat)(x:α): Nat->α:=λk=>if k=i then x else f k
theorem Ju(f:Nat->α)(i:Nat)(x:α): upd f i x i=x:=by simp[upd]
theorem Jm(f:Nat->α)(x:α)(h:k≠i): upd f i x k=f k:=by simp[upd,h]
structure Fam(w:World)(base e sz n:Nat)(v:Nat->Value)(m:Nat->Nat)(c:Nat->List Value): Prop where
 own:∀ i,i<n->w.ownsRow base e sz (v i) (m i) (c i)
 dis:∀ i j g,i<n->j<n->i≠j->(v i).ownBlock=some g->(v j).ownBlock≠some g
section
variable {w w':World} {base e sz n:Nat} {v:Nat->Value} {m:Nat->Nat} {c:Nat->List Value}
theorem Fam.ext(h:Fam w base e sz n v m c)(hx:Ext w w'): Fam w' base e sz n v m c:=⟨λi hi=>Jk (h.own i hi) hx,h.dis⟩
theorem Fam.gr{N:Nat->Prop}(h:Fam w base e sz n v m c)(hg:GrN N w w')(hN:∀ i g,i<n->(v i).ownBlock=some g->¬ N g): Fam w' base e sz n v m c:=⟨λi hi=>Jt (h.own i hi) hg (hN i · hi),h.dis⟩
theorem Fam.other{base' e' sz':Nat}(h:Fam w base e sz n v m c)(h':w.ownsRow base' e' sz' v' m' xs)(hg:w.grownBy w' v'.ownBlock)(hne:Nat.beq e e'=false): Fam w' base e sz n v m c :=
 ⟨λi hi=>Zg (h.own i hi) h' hg hne,h.dis⟩
theorem Fam.box(h:Fam w base e sz n v m c)(hB:Blk w g t cs)(hg:w.grownBy w' (some g))(hne:Nat.beq e t=false): Fam w' base e sz n v m c :=
 ⟨λi hi=>(h.own i hi).kept hg (.inr (λj=>hB.ne_own (h.own i hi) hne j.symm)),h.dis⟩
theorem Fam.lt(h:Fam w base e sz n v m c)(hi:i<n)(hg:(v i).ownBlock=some g): base<=g/\g<w.heap.size:=by
 obtain⟨_,_,_,_,j⟩:=Jy (h.own i hi);exact j g hg
theorem Fam.upd(h:Fam w base e sz n v m c)(hi:i<n)(ho:w'.ownsRow base e sz v' m' c')(hg:w.grownBy w' (v i).ownBlock)(hb:∀ g,v'.ownBlock=some g->(v i).ownBlock=some g∨w.heap.size<=g):
  Fam w' base e sz n (upd v i v') (upd m i m') (upd c i c'):=by
 refine⟨λk u=>?_,λk j g u G o D C=>?_⟩
 .by_cases e:k=i
  .grind [Ju]
  rw[Jm _ _ e,Jm _ _ e,Jm _ _ e];refine(h.own k u).kept hg ?_;cases hb2:(v k).ownBlock with
  | none=>exact .inl rfl
  | some g=>exact .inr (λJ=>h.dis k i g u hi e hb2 J.symm)
 by_cases ek:k=i<;>by_cases ej:j=i
 .omega
 .subst ek;rw[Ju]at D;rw[Jm _ _ ej]at C;rcases hb g D with h'|h'
  .exact h.dis k j g u G o h' C
  have:=(h.lt G C).2;omega
 .subst ej;rw[Ju]at C;rw[Jm _ _ ek]at D;rcases hb g C with h'|h'
  .exact h.dis k j g u G o D h'
  have:=(h.lt u D).2;omega
 rw[Jm _ _ ek]at D;rw[Jm _ _ ej]at C;exact h.dis k j g u G o D C
theorem Fam.grown(h:Fam w base e sz n v m c)(hi:i<n): ∀ g,(v i).ownBlock=some g->base<=g:=λg j=>(h.lt hi j).1
end
def Zt(d:Nat)(f g:Nat->Value): List Value:=(List.range d).flatMap λl=>[f l,g l]
theorem Jjb(d:Nat)(f g:Nat->Value): Zt (d+1) f g=Zt d f g++[f d,g d]:=by simp[Zt,List.range_succ,List.flatMap_append]
theorem Vs(d:Nat)(f g:Nat->Value): (Zt d f g).length=d*2:=by
 induction d with
 | zero=>rfl
 | succ d ih=>rw[Jjb,List.length_append,ih];simp;omega
theorem Ge(d:Nat)(f g:Nat->Value)(h:l<d): (Zt d f g)[l*2]?=some (f l)/\(Zt d f g)[l*2+1]?=some (g l):=by
 induction d with
 | zero=>omega
 | succ d ih=>
  rw[Jjb];by_cases e:l=d
  .subst e;rw[List.getElem?_append_right (by rw[Vs];omega),List.getElem?_append_right (by rw[Vs];omega),Vs];grind
  repeat grind
theorem Qxx{f g f' g':Nat->Value}(h1:∀ l,l<d->f l=f' l)(h2:∀ l,l<d->g l=g' l): Zt d f g=Zt d f' g':=by
 induction d with
 | zero=>rfl
 | succ d ih=>rw[Jjb,Jjb,ih (λl i=>h1 l om) (λl i=>h2 l om),h1 d om,h2 d om]
theorem Qxw(d:Nat)(f g:Nat->Value)(h:l<d)(u:Value): (Zt d f g).set (l*2) u=Zt d (upd f l u) g:=by
 induction d with
 | zero=>omega
 | succ d ih=>
  rw[Jjb,Jjb];by_cases e:l=d
  .subst e;rw[List.set_append_right _ _ (by rw[Vs];omega),Vs,Nat.sub_self,List.set_cons_zero,Ju];congr 1
   grind [Qxx,Jm]
  repeat grind [List.set_append_left,Vs,Jm]
theorem Qxv(d:Nat)(f g:Nat->Value)(h:l<d)(u:Value): (Zt d f g).set (l*2+1) u=Zt d f (upd g l u):=by
 induction d with
 | zero=>omega
 | succ d ih=>
  rw[Jjb,Jjb];by_cases e:l=d
  .subst e;rw[List.set_append_right _ _ (by rw[Vs];omega),Vs,Nat.add_sub_cancel_left,List.set_cons_succ,List.set_cons_zero,Ju];congr 1
   exact Qxx (λk i=>rfl) (λk i=>(Jm _ _ om).symm)
  repeat grind [List.set_append_left,Vs,Jm]
theorem apb{P:Program}{al:AL}{w:World}{Q:Exit->Act->World->Prop}{ops:Array Oper}{rest:List Oper}{pos:String}{aft:Array Edge}{e sz bytes base:Nat}(hE:ElT P t e sz bytes z){x y:Operand}{A':Option Addr}{c':Nat}(ha:w.ownsRow base e sz v m xs)(hr:Rd w sz A' m' news)(h1:∀ u∈news,u.oneCell'=true)(h63:m+m'<=maxLen)(hby:(m+m')*bytes<=140737488355328)(hbase:base<=w.heap.size)(kk:∀ v' w',w'.ownsRow base e sz v' (m+m') (xs++news)->w.grownBy w' v.ownBlock->(∀ g,v'.ownBlock=some g->v.ownBlock=some g∨w.heap.size<=g)->WL P n ops Q rest ((d,v')::al) w')(hx:ev al x=some v:=by rfl)(hy:ev al y=some (.slice A' m' c'):=by rfl)(hd:Nat.blt d n=true:=by rfl):
  WL P n ops Q (⟨some d,.call { callee:=.builtin .append,args:=#[x,y],argTypes:=#[t,t] },ty,pos,aft,none⟩::rest) al w:=by
 obtain⟨v',w',i,J,G,D,C,o⟩:=Jsm hE base ty (.inl ha) (c':=c') hr h1 h63 hby hbase;refine wop hd (λa j=>?_) (kk v' w' (D ha) (C.elim (·.2) (λh=>Za h _)) o)
 simp[execOp,resolve,invoke,builtin,j.ev hx,j.ev hy,i]
end Go.Wk
namespace Go.Wk
open Go.RowKit
variable {p:Addr}{b c:Bool}{a z:Int}{kd:IntKind}{l:List Oper}{cs:List Value}{e id j m s t:Nat}{o oi:Oper}{i x y:Operand}{A:Option Addr}{dst:Option Nat}{k:TK}{yt:TypeId}{v:Value}
section
variable {N:Nat->Prop} {P:Program} {ops:Array Oper} {Q:Exit->Act->World->Prop} {T:Nat->Bool}
def Ue(N:Nat->Prop)(P:Program)(ops:Array Oper)(Q:Exit->Act->World->Prop)(k:Nat)(o:Oper)(K:Act->World->Prop)(a:Act)(w:World): Prop :=
 match k with
 | 0=>∃ v,YieldsIf P ops (GrN N w) o v a/\K (a.put o.dst v) w
 | 1=>if Region.wanted o (yielded ops a.tmps) then o.wp P a w (λa' w'=>GrN N w w'/\K a' w') (QF Q) else K (a.put o.dst undef) w
 | _=>if Region.wanted o (yielded ops a.tmps) then o.wp P a w K (QF Q) else K (a.put o.dst undef) w
def Zw(N:Nat->Prop)(P:Program)(ops:Array Oper)(Q:Exit->Act->World->Prop): List (Nat×Oper)->Act->World->Prop
 | [],a,w=>Q .normal a w
 | p::r,a,w=>Ue N P ops Q p.1 p.2 (Zw N P ops Q r) a w
def Uy(N:Nat->Prop)(P:Program)(ops:Array Oper)(Q:Exit->Act->World->Prop)(T:Nat->Bool): Nat->Array Bool->Act->World->Prop
 | 0,listed,a,w=>Region.ready .any ops listed=[]/\Q .normal a w
 | fuel+1,listed,a,w=>
  (Region.ready .any ops listed=[]->Q .normal a w) /\
   ∀ i∈Region.ready .any ops listed,wpOp P ops (QF Q) i (λa' w'=>(T i=false->GrN N w w')/\Uy N P ops Q T fuel (listed.setIfInBounds i true) a' w') a w
theorem Jcz: ∀(fuel:Nat) (listed:Array Bool) (a:Act) (w:World),Uy N P ops Q T fuel listed a w->wpAny P .any ops Q fuel listed a w
 | 0,_,_,_,h=>h
 | fuel+1,_,_,_,h=>⟨h.1,λi hi=>wpOp_mono (λa' w' h'=>Jcz fuel _ a' w' h'.2) (Jvv (h.2 i hi))⟩
theorem Jnp(S:World->World->Prop)(hS0:∀ w,S w w)(hSt:∀ {a b c},S a b->S b c->S a c){i:Nat}(hi:ops[i]?=some oi)(hsel:∀(j:Nat) (o:Oper) cs b,ops[j]?=some o->o.op≠.select cs b)(hSx:∀ listed j,Closed ops listed->i∈Region.ready .any ops listed->j∈Region.ready .any ops listed->∀ w w',(T j=false->GrN N w w')->S w w'):
  ∀(fuel:Nat) (listed:Array Bool) (a:Act) (w:World),Closed ops listed ->
   (∀ j oj,ops[j]?=some oj->j≠i->listed.getD j true=false->(∀ e∈oj.after,Region.binds .any e=true->e.on≠i)->oi.apart ops oj=true) ->
   i∈Region.ready .any ops listed->YieldsIf P ops (S w) oi v a ->
   Uy N P ops Q T fuel (listed.setIfInBounds i true) (a.put oi.dst v) w->Uy N P ops Q T (fuel+1) listed a w:=by
 intro fuel;induction fuel with
 | zero=>
  intro listed a w O _ D hy H;refine⟨λh=>(by rw[h]at D;cases D),λj U=>?_⟩;by_cases hji:j=i
  .subst hji;exact hy.wpOp hi (hS0 w) ⟨λ_=>GrN.refl N w,H⟩
  have:=ready_mono U hji;rw[H.1]at this;cases this
 | succ fuel ih=>
  intro listed a w O u D hy H;refine⟨λh=>(by rw[h]at D;cases D),λj U=>?_⟩;by_cases hji:j=i
  .subst hji;exact hy.wpOp hi (hS0 w) ⟨λ_=>GrN.refl N w,H⟩
  obtain⟨G,oj,J,a2⟩:=mem_ready.1 U;have h1:=H.2 j (ready_mono U hji);have a1:∀ e∈oj.after,Region.binds .any e=true->e.on≠i:=λe he hb a6=>by
   have h1:=a2 e he hb;have h0:=(mem_ready.1 D).1;grind
  have h2:=wpOp_putIf J (u j oj J hji G a1) (λcs b=>hsel i oi cs b hi) (λcs b=>hsel j oj cs b J) (λc a w h=>h) hy h1;have C:∀ k ok,ops[k]?=some ok->k≠i->(listed.setIfInBounds j true).getD k true=false ->
    (∀ e∈ok.after,Region.binds .any e=true->e.on≠i)->oi.apart ops ok=true:=λk ok hk a5 Z a4=>by
   refine u k ok hk a5 ?_ a4;by_cases hjk:j=k
   .subst hjk;exact G
   rw[getD_set_ne true hjk]at Z;exact Z
  refine wpOp_mono (λa' w' h3=>⟨h3.2.1,ih (listed.setIfInBounds j true) a' w' (O.step U) C (ready_mono D (Ne.symm hji)) ?_ ?_⟩) h2
  .exact h3.1.imp (λ⟨h4,h5⟩=>⟨h4,λa3 hx=>h5 a3 (hSt (hSx listed j O D U w w' h3.2.1) hx)⟩) id
  rw[Array.setIfInBounds_comm _ _ hji];exact h3.2.2
theorem Jnn(hsel:Region.noSelect ops=true)(F:Nat): ∀(s:List (Nat×Nat)) (listed:Array Bool) (a:Act) (w:World),Closed ops listed->(∀ p∈s,Nat.ble p.1 2=true)->(∀ p∈s,p.2<ops.size)->(∀ p∈s,(p.1 == 2)=T p.2) ->
  (∀ t,T t=true->t<ops.size->∀ p∈s,p.1=0->Ug ops F t p.2=true)->Xa ops s listed=true->Zw N P ops Q (Qd ops.toList s) a w->Uy N P ops Q T s.length listed a w
 | [],listed,a,w,_,_,_,_,_,hB,h=>⟨by simpa [Xa] using hB,h⟩
 | (k,i)::r,listed,a,w,hcl,hk,hlt,hKT,hR,hB,h=>by
  have hi:i<ops.size:=hlt _ (mC ..);have ho:ops[i]?=some ops[i]:=Array.getElem?_eq_getElem hi;have hn:nth ops.toList i=some ops[i]:=by rw[Xb];simp[hi]
  have hTi:=hKT _ (mC ..);have hk0:=hk _ (mC ..);simp only at hTi hk0;have hrec:Closed ops (listed.setIfInBounds i true)->Xa ops r (listed.setIfInBounds i true)=true->∀ a w,Zw N P ops Q (Qd ops.toList r) a w->Uy N P ops Q T r.length (listed.setIfInBounds i true) a w:=λhc' hB' a w h'=>
   Jnn hsel F r _ a w hc' (λp hp=>hk p (List.mem_cons_of_mem _ hp)) (λp hp=>hlt p (List.mem_cons_of_mem _ hp)) (λp hp=>hKT p (List.mem_cons_of_mem _ hp)) (λt ht htl p hp=>hR t ht htl p (List.mem_cons_of_mem _ hp)) hB' h'
  have one:Xa ops r (listed.setIfInBounds i true)=true->Region.ready .any ops listed=[i]->(T i=false->if Region.wanted ops[i] (yielded ops a.tmps) then ops[i].wp P a w (λa' w'=>GrN N w w'/\Zw N P ops Q (Qd ops.toList r) a' w') (QF Q) else Zw N P ops Q (Qd ops.toList r) (a.put ops[i].dst undef) w) ->
    (T i=true->if Region.wanted ops[i] (yielded ops a.tmps) then ops[i].wp P a w (Zw N P ops Q (Qd ops.toList r)) (QF Q) else Zw N P ops Q (Qd ops.toList r) (a.put ops[i].dst undef) w)->Uy N P ops Q T (r.length+1) listed a w:=λhB' hr hf ht=>by
   have hcl':Closed ops (listed.setIfInBounds i true):=hcl.step (by grind);refine⟨λh0=>(by rw[hr]at h0;cases h0),λj hj=>?_⟩;rw[hr]at hj;obtain rfl:j=i:=by simpa using hj
   unfold wpOp;simp only[ho];cases hT:T j with
   | false=>
    have h:=hf hT;split
    .rename_i hw;simp only[hw,if_true]at h;exact .inl (Oper.wp_mono (λa' w' h'=>⟨λ_=>h'.1,hrec hcl' hB' _ _ h'.2⟩) h)
    repeat grind [GrN.refl]
   | true=>
    have h:=ht hT;split
    .rename_i hw;simp only[hw,if_true]at h;exact .inl (Oper.wp_mono (λa' w' h'=>⟨λh0=>(by cases h0),hrec hcl' hB' _ _ h'⟩) h)
    repeat grind
  match k,hTi,hk0,hR,hB,h with
  | 0,hTi,_,hR,hB,h=>
   simp only[Xa,Bool.and_eq_true]at hB;obtain⟨⟨hr,hf⟩,hB'⟩:=hB;have hr':i∈Region.ready .any ops listed:=by simpa using hr
   simp only[Qd,hn,Zw,Ue]at h;obtain⟨v,hy,h⟩:=h;refine Jnp (GrN N) (GrN.refl N) (λh k=>GrN.trans h k) ho (Region.noSelect_spec hsel) ?_ r.length listed a w hcl (Region.free_spec ho hf) hr' hy (hrec (hcl.step hr') hB' _ _ h);intro listed' j hcl' hri hrj w w' hx;cases hT:T j with
   | false=>exact hx hT
   | true=>
    obtain⟨_,oj,hoj,_⟩:=mem_ready.1 hrj;have h1:=Jxn hcl' F j i oj hoj (Jxm hoj hrj) (hR j hT (Array.getElem?_eq_some_iff.1 hoj).1 _ (mC ..) rfl);have h0:=(mem_ready.1 hri).1;grind
  | 1,hTi,_,hR,hB,h=>
   simp only[Xa,Bool.and_eq_true,beq_iff_eq]at hB;simp only[Qd,hn,Zw,Ue]at h;grind
  | 2,hTi,_,hR,hB,h=>
   simp only[Xa,Bool.and_eq_true,beq_iff_eq]at hB;simp only[Qd,hn,Zw,Ue]at h;grind
  | k+3,_,hk0,_,_,_=>simp at hk0
def Jdz(ops:Array Oper)(F:Nat)(s:List (Nat×Nat)): Bool :=
 Region.noSelect ops && (s.length == ops.size) && (s.all λp=>Nat.ble p.1 2) && (s.all λp=>Nat.blt p.2 ops.size) && (s.all λp=>(p.1 == 2) == Kk s p.2) &&
 ((List.range ops.size).all λt=>!Kk s t || s.all λp=>p.1 != 0 || Ug ops F t p.2) && Xa ops s (Array.replicate ops.size false)
end
section
variable {N:Nat->Prop} {P:Program} {n:Nat} {al al':AL} {w:World} {Q:Exit->Act->World->Prop} {ops:Array Oper} {rest:List (Nat×Oper)} {drest:List (Nat×Oper)}
variable {d ty:Nat} {op:Op} {pos:String} {aft:Array Edge} {tt:TT}
def WN(N:Nat->Prop)(P:Program)(n:Nat)(ops:Array Oper)(Q:Exit->Act->World->Prop)(l:List (Nat×Oper))(al:AL)(w:World): Prop:=∀ a,Fr n al a->Zw N P ops Q l a w
theorem WN.sub{l:List (Nat×Oper)}(hs:Sub al' al)(h:WN N P n ops Q l al' w): WN N P n ops Q l al w:=λa i=>h a (i.sub hs)
theorem Qbg(N:Nat->Prop)(F:Nat)(s:List (Nat×Nat))(hm:P.follows .mixedOrders=true)(hB:Jdz l.toArray F s=true)(h:WN N P n l.toArray Q (Qd l s) al w.drew): WC P n (.region id l.toArray true) Q al w:=by
 intro a D;simp only[Jdz,Bool.and_eq_true,beq_iff_eq,List.all_eq_true,List.mem_range,Bool.or_eq_true,Bool.not_eq_true',bne_iff_ne]at hB;obtain⟨⟨⟨⟨⟨⟨Z,j⟩,U⟩,O⟩,J⟩,h6⟩,G⟩:=hB;refine wp_region_any hm ?_;rw[<-j];refine Jcz (T:=Kk s) _ _ _ _ (Jnn (N:=N) Z F s _ a _ ?_ (λp i=>U p i) (λp i=>?_) (λp i=>?_) (λt ht u p i h0=>?_) (by rw[j];exact G) ?_)
 .intro k o ho C e he hb;exfalso
  simp only[Array.getD_eq_getD_getElem?,Array.getElem?_replicate]at C;grind
 .have:=O p i;have h':p.2+1<=l.toArray.size:=by simpa [Nat.blt] using this
  omega
 .simpa using J p i
 .grind
 have:=h a D;simpa using this
theorem drN[h:Tab P tt](N:Nat->Prop)(F:Nat)(s:List (Nat×Nat))(hB:Jdz l.toArray F s=true)(k:WN N P n l.toArray Q (Qd l s) al w.drew): WC P n (.region id l.toArray true) Q al w:=Qbg N F s h.mixed hB k
def YldN(N:Nat->Prop)(P:Program)(n:Nat)(al:AL)(w:World)(o:Oper)(v:Value): Prop:=∀ w',GrN N w w'->∀ a,Fr n al a->(execOp a.eval o).run P w'=.ok (.value v) w'
theorem nnil_(h:QX n Q .normal al w): WN N P n ops Q [] al w:=λa i=>h a i
theorem ny_(hy:YldN N P n al w ⟨some d,op,ty,pos,aft,none⟩ v)(hd:Nat.blt d n=true)(k:WN N P n ops Q rest ((d,v)::al) w): WN N P n ops Q ((0,⟨some d,op,ty,pos,aft,none⟩)::rest) al w:=λa j=>by
 have i:d<n:=by(have:d+1<=n:=by simpa [Nat.blt] using hd);(omega)
 exact⟨v,.inl ⟨rfl,λw' o=>hy w' o a j⟩,k _ (j.put i v)⟩
theorem np_{tt:TT}(hT:TOk P tt)(hv:pv tt (ev al) op=some v)(hd:Nat.blt d n=true)(k:WN N P n ops Q rest ((d,v)::al) w): WN N P n ops Q ((0,⟨some d,op,ty,pos,aft,none⟩)::rest) al w :=
 ny_ (λw' _ a j=>Kf w' hT (λx u i=>j.ev i) hv) hd k
theorem npn_{tt:TT}(hT:TOk P tt)(hv:pv tt (ev al) op=some v)(k:WN N P n ops Q rest al w): WN N P n ops Q ((0,⟨none,op,ty,pos,aft,none⟩)::rest) al w:=λa j=>
 ⟨v,.inl ⟨rfl,λw' i=>Kf w' hT (λx u i=>j.ev i) hv⟩,k _ j⟩
theorem Qnh{kd:Nat}(hj:Vj ops j=some s)(hs:lk al s=some (.bool b))(k:WN N P n ops Q ((kd,⟨dst,op,ty,pos,aft,none⟩)::rest) al w):
  WN N P n ops Q ((kd,⟨dst,op,ty,pos,aft,some (j,b)⟩)::rest) al w:=λa u=>by
 have h:=k a u;have D:=Jxb (ops:=ops) u hj hs;have C:Region.wanted (⟨dst,op,ty,pos,aft,none⟩:Oper) (yielded ops a.tmps)=true:=rfl;have o:Region.wanted (⟨dst,op,ty,pos,aft,some (j,b)⟩:Oper) (yielded ops a.tmps)=true:=by simp[Region.wanted,D]
 unfold Zw Ue at h ⊢;match kd,h with
 | 0,h=>
  obtain⟨v,i,G⟩:=h;refine⟨v,?_,G⟩;rcases i with i|i
  .exact .inl ⟨o,i.2⟩
  repeat grind
 | 1,h=>simp only[C,if_true]at h;simp only[o,if_true];exact h
 | k+2,h=>simp only[C,if_true]at h;simp only[o,if_true];exact h
theorem Qnc{kd:Nat}(hj:Vj ops j=some s)(hs:lk al s=some (.bool b))(hne:(b == c)=false)(hd:Nat.blt d n=true)(k:WN N P n ops Q rest ((d,undef)::al) w):
  WN N P n ops Q ((kd,⟨some d,op,ty,pos,aft,some (j,c)⟩)::rest) al w:=λa C=>by
 have i:d<n:=by(have:d+1<=n:=by simpa [Nat.blt] using hd);(omega)
 have D:=Jxb (ops:=ops) C hj hs;have u:Region.wanted (⟨some d,op,ty,pos,aft,some (j,c)⟩:Oper) (yielded ops a.tmps)=false:=by
  simp[Region.wanted,D];simpa using hne
 have o:=k _ (C.put i undef);unfold Zw Ue;match kd with
 | 0=>exact⟨undef,.inr ⟨u,rfl⟩,o⟩
 | 1=>simp only[u];exact o
 | m+2=>simp only[u];exact o
theorem ν9{kd:Nat}(k:WN N P n ops Q drest ((d,undef)::al) w)(hj:Vj ops j=some s:=by rfl)(hs:lk al s=some undef:=by rfl)(hd:Nat.blt d n=true:=by rfl):
  WN N P n ops Q ((kd,⟨some d,op,ty,pos,aft,some (j,c)⟩)::drest) al w:=λa C=>by
 have i:d<n:=by(have:d+1<=n:=by simpa [Nat.blt] using hd);(omega)
 have D:=Jct (ops:=ops) C hj hs;have u:Region.wanted (⟨some d,op,ty,pos,aft,some (j,c)⟩:Oper) (yielded ops a.tmps)=false:=by simp[Region.wanted,D]
 have o:=k _ (C.put i undef);unfold Zw Ue;match kd with
 | 0=>exact⟨undef,.inr ⟨u,rfl⟩,o⟩
 | 1=>simp only[u];exact o
 | m+2=>simp only[u];exact o
theorem ν4[h:Tab P tt](k:WN N P n ops Q drest ((d,v)::al) w)(hv:pv tt (ev al) op=some v:=by rfl)(hd:Nat.blt d n=true:=by rfl): WN N P n ops Q ((0,⟨some d,op,ty,pos,aft,none⟩)::drest) al w:=np_ h.ok hv hd k
theorem ν5(h:QX n Q .normal al w): WN N P n ops Q [] al w:=nnil_ h
theorem ν6{kd:Nat}(k:WN N P n ops Q ((kd,⟨dst,op,ty,pos,aft,none⟩)::drest) al w)(hj:Vj ops j=some s:=by rfl)(hs:lk al s=some (.bool b):=by rfl): WN N P n ops Q ((kd,⟨dst,op,ty,pos,aft,some (j,b)⟩)::drest) al w:=Qnh hj hs k
theorem ν7{kd:Nat}(k:WN N P n ops Q drest ((d,undef)::al) w)(hj:Vj ops j=some s:=by rfl)(hs:lk al s=some (.bool b):=by rfl)(hne:(b == c)=false:=by rfl)(hd:Nat.blt d n=true:=by rfl):
  WN N P n ops Q ((kd,⟨some d,op,ty,pos,aft,some (j,c)⟩)::drest) al w:=Qnc hj hs hne hd k
theorem ν8[h:Tab P tt](k:WN N P n ops Q drest al w)(hv:pv tt (ev al) op=some v:=by rfl): WN N P n ops Q ((0,⟨none,op,ty,pos,aft,none⟩)::drest) al w:=npn_ h.ok hv k
theorem nadd_{t:TypeId}{b:Int}(hx:ev al x=some (.int .i64 a))(hy:ev al y=some (.int .i64 b))(hc:-9223372036854775808<=a+b/\a+b<=9223372036854775807)(hd:Nat.blt d n=true)(k:WN N P n ops Q rest ((d,.int .i64 (a+b))::al) w): WN N P n ops Q ((0,⟨some d,.binOp .add t x y yt,ty,pos,aft,none⟩)::rest) al w:=by
 have e:IntKind.i64.wrap (a+b)=a+b:=by rw[IntKind.wrap_i64];omega
 exact np_ (tt:=[]) trivial (v:=.int .i64 (a+b)) (by grind [pv,bop]) hd k
theorem nsub_{t:TypeId}{b:Int}(hx:ev al x=some (.int .i64 a))(hy:ev al y=some (.int .i64 b))(hc:-9223372036854775808<=a-b/\a-b<=9223372036854775807)(hd:Nat.blt d n=true)(k:WN N P n ops Q rest ((d,.int .i64 (a-b))::al) w): WN N P n ops Q ((0,⟨some d,.binOp .sub t x y yt,ty,pos,aft,none⟩)::rest) al w:=by
 have e:IntKind.i64.wrap (a-b)=a-b:=by rw[IntKind.wrap_i64];omega
 exact np_ (tt:=[]) trivial (v:=.int .i64 (a-b)) (by grind [pv,bop]) hd k
theorem ν1{t:TypeId}{b:Int}(k:WN N P n ops Q drest ((d,.int .i64 (a+b))::al) w)(hx:ev al x=some (.int .i64 a):=by rfl)(hy:ev al y=some (.int .i64 b):=by rfl)(hd:Nat.blt d n=true:=by rfl)(hc:-9223372036854775808<=a+b/\a+b<=9223372036854775807:=by omega):
  WN N P n ops Q ((0,⟨some d,.binOp .add t x y yt,ty,pos,aft,none⟩)::drest) al w:=nadd_ hx hy hc hd k
theorem ν2{t:TypeId}{b:Int}(k:WN N P n ops Q drest ((d,.int .i64 (a-b))::al) w)(hx:ev al x=some (.int .i64 a):=by rfl)(hy:ev al y=some (.int .i64 b):=by rfl)(hd:Nat.blt d n=true:=by rfl)(hc:-9223372036854775808<=a-b/\a-b<=9223372036854775807:=by omega):
  WN N P n ops Q ((0,⟨some d,.binOp .sub t x y yt,ty,pos,aft,none⟩)::drest) al w:=nsub_ hx hy hc hd k
theorem nload(hT:TOk P tt)(ht:tk tt t=some k)(hk:Vy k.desc=true)(hx:ev al x=some (.pointer (some p)))(hc:∀ w',GrN N w w'->w'.cell? p=some v)(hd:Nat.blt d n=true)(kk:WN N P n ops Q rest ((d,v)::al) w): WN N P n ops Q ((0,⟨some d,.load t x,ty,pos,aft,none⟩)::rest) al w :=
 ny_ (λw' i a j=>by simp[execOp,j.ev hx,Instr.loadAt,Instr.sureAddr,Jsj (w:=w') hT ht hk (hc w' i)]) hd kk
theorem Qnf(hT:TOk P tt)(ht:tk tt t=some k)(hk:k.desc=.invalid)(hl:k.size=cs.length)(hx:ev al x=some (.pointer (some p)))(hc:∀ w',GrN N w w'->∀ j u,cs[j]?=some u->w'.cell? (p.add j)=some u)(hd:Nat.blt d n=true)(kk:WN N P n ops Q rest ((d,.agg cs.toArray)::al) w): WN N P n ops Q ((0,⟨some d,.load t x,ty,pos,aft,none⟩)::rest) al w :=
 ny_ (λw' i a o=>by simp[execOp,o.ev hx,Instr.loadAt,Instr.sureAddr,Jjt (w:=w') hT ht hk hl (hc w' i)]) hd kk
theorem Qjj(hT:TOk P tt){sz:Nat}{c:Nat}(q:Nat)(j:Nat)(ht:tk tt t=some k)(hk:k.desc=.slice e)(hz:k.esz=sz)(hx:ev al x=some (.slice A m c))(hi:ev al i=some (.int kd z))(hr:Rd w sz A m cs)(hj:z=(j:Int))(hlt:j<m)(h0:0<sz)(hq:j*sz=q)(hd:Nat.blt d n=true)(kk:WN N P n ops Q rest ((d,.pointer (some (adr A q)))::al) w): WN N P n ops Q ((0,⟨some d,.indexAddr t x i,ty,pos,aft,none⟩)::rest) al w:=by
 obtain⟨u,C⟩:=Iy hT ht hk hz;obtain⟨J,rfl,G⟩:=hr.isome om h0;subst hj;subst hq;refine ny_ (λw' D a o=>?_) hd kk;simp[execOp,o.ev hx,o.ev hi,Instr.indexAt,asIntOf,run_underlying u,Vo w' C,adr];intro h;omega
theorem Qng(hT:TOk P tt){c:Nat}(j:Nat)(ht:tk tt t=some k)(hk:k.desc=.slice e)(hz:k.esz=1)(hx:ev al x=some (.slice A m c))(hi:ev al i=some (.int kd z))(hr:Rd w 1 A m cs)(hj:z=(j:Int))(hlt:j<m)(hd:Nat.blt d n=true)(kk:WN N P n ops Q rest ((d,.pointer (some (adr A j)))::al) w): WN N P n ops Q ((0,⟨some d,.indexAddr t x i,ty,pos,aft,none⟩)::rest) al w :=
 Qjj hT j j ht hk hz hx hi hr hj hlt om om hd kk
theorem nld[h:Tab P tt](hc:∀ w',GrN N w w'->w'.cell? p=some v)(kk:WN N P n ops Q drest ((d,v)::al) w)(ht:tk tt t=some k:=by rfl)(hk:Vy k.desc=true:=by rfl)(hx:ev al x=some (.pointer (some p)):=by rfl)(hd:Nat.blt d n=true:=by rfl): WN N P n ops Q ((0,⟨some d,.load t x,ty,pos,aft,none⟩)::drest) al w:=nload h.ok ht hk hx hc hd kk
theorem Xr[h:Tab P tt](hc:∀ w',GrN N w w'->∀ j u,cs[j]?=some u->w'.cell? (p.add j)=some u)(kk:WN N P n ops Q drest ((d,.agg cs.toArray)::al) w)(ht:tk tt t=some k:=by rfl)(hk:k.desc=.invalid:=by rfl)(hl:k.size=cs.length:=by rfl)(hx:ev al x=some (.pointer (some p)):=by rfl)(hd:Nat.blt d n=true:=by rfl): WN N P n ops Q ((0,⟨some d,.load t x,ty,pos,aft,none⟩)::drest) al w:=Qnf h.ok ht hk hl hx hc hd kk
theorem nix[h:Tab P tt]{c:Nat}(j:Nat)(hr:Rd w 1 A m cs)(hlt:j<m)(kk:WN N P n ops Q drest ((d,.pointer (some (adr A j)))::al) w)(ht:tk tt t=some k:=by rfl)(hk:k.desc=.slice e:=by rfl)(hz:k.esz=1:=by rfl)(hx:ev al x=some (.slice A m c):=by rfl)(hi:ev al i=some (.int kd z):=by rfl)(hj:z=(j:Int):=by first|rfl|omega)(hd:Nat.blt d n=true:=by rfl):
  WN N P n ops Q ((0,⟨some d,.indexAddr t x i,ty,pos,aft,none⟩)::drest) al w:=Qng h.ok j ht hk hz hx hi hr hj hlt hd kk
theorem Yp[h:Tab P tt]{c:Nat}(sz j:Nat)(hr:Rd w sz A m cs)(hlt:j<m)(kk:WN N P n ops Q drest ((d,.pointer (some (adr A (j*sz))))::al) w)(ht:tk tt t=some k:=by rfl)(hk:k.desc=.slice e:=by rfl)(hz:k.esz=sz:=by rfl)(hx:ev al x=some (.slice A m c):=by rfl)(hi:ev al i=some (.int kd z):=by rfl)(hj:z=(j:Int):=by first|rfl|omega)(h0:0<sz:=by omega)(hd:Nat.blt d n=true:=by rfl):
  WN N P n ops Q ((0,⟨some d,.indexAddr t x i,ty,pos,aft,none⟩)::drest) al w:=Qjj h.ok (j*sz) j ht hk hz hx hi hr hj hlt h0 rfl hd kk
def toN(N:Nat->Prop)(P:Program)(ops:Array Oper)(Q:Exit->Act->World->Prop)(w0:World)(rest:List (Nat×Oper)): Exit->Act->World->Prop
 | .normal,a,w=>GrN N w0 w/\Zw N P ops Q rest a w
 | _,_,_=>False
theorem Ja{w0:World}(hx:GrN N w0 w)(h:WN N P n ops Q drest al w): QX n (toN N P ops Q w0 drest) .normal al w:=λa i=>⟨hx,h a i⟩
theorem nop(h:WL P n ops (toN N P ops Q w drest) [o] al w): WN N P n ops Q ((1,o)::drest) al w:=λa u=>by
 have i:=h a u;unfold wpList at i;unfold Zw Ue;simp only;have j:¬ LetsOut (toN N P ops Q w drest):=by rintro⟨a,w,h⟩;exact h
 split
 .rename_i hw;simp only[hw,if_true]at i;rcases i with i|⟨_,i⟩
  .refine Oper.wp_mono (K:=wpList P ops (toN N P ops Q w drest) []) (λD w' C=>C) ?_;unfold Oper.wp at i ⊢;grind [Yh,toN]
  exact absurd i j
 rename_i hw;simp only[hw]at i;exact i.2
def toT(N:Nat->Prop)(P:Program)(ops:Array Oper)(Q:Exit->Act->World->Prop)(rest:List (Nat×Oper)): Exit->Act->World->Prop
 | .normal,a,w=>Zw N P ops Q rest a w
 | _,_,_=>False
theorem Gz(h:WN N P n ops Q drest al w): QX n (toT N P ops Q drest) .normal al w:=h
theorem Xh(h:WL P n ops (toT N P ops Q drest) [o] al w): WN N P n ops Q ((2,o)::drest) al w:=λa C=>by
 have i:=h a C;unfold wpList at i;unfold Zw Ue;simp only;have j:¬ LetsOut (toT N P ops Q drest):=by rintro⟨a,w,h⟩;exact h
 split
 .rename_i hw;simp only[hw,if_true]at i;rcases i with i|⟨_,i⟩
  .refine Oper.wp_mono (K:=Zw N P ops Q drest) (λG w' D=>D) ?_;unfold Oper.wp at i ⊢;exact Yh (Q:=toT N P ops Q drest) (λc a w u=>u.elim) (λu=>absurd u j) i
  exact absurd i j
 rename_i hw;simp only[hw]at i;exact i
theorem Jr(hc:w.cell? p=some v)(hn:¬ N p.block): ∀ w',GrN N w w'->w'.cell? p=some v:=λw' i=>by
 rw[<-hc];exact World.cell?_of_block (i.block _ (World.block_lt_of_cell? w p hc) hn)
end
end Go.Wk
namespace Go.Wk
theorem ρn{p q:Prop}(h:p)(t:Hold p->q:=by intro h;(repeat first|refine ν1 ?_|refine ν2 ?_|refine ν4 ?_|refine ν5 ?_|refine ν6 ?_|refine ν7 ?_|refine ν9 ?_|refine ν8 ?_|refine χ1 ?_|refine χ2 ?_|refine χ3 ?_|refine χ4 ?_|refine χ5 ?_|refine χ6 ?_|refine χ7 ?_);exact h.of): q:=t ⟨h⟩
end Go.Wk
namespace Go.Proofs.YtgobkbeokaaplaaGreatDoor
open Go.RowKit Pl Go.Wk
attribute [local irreducible] WC WL QX WD WDB WP
variable {cs xs xs':List Value}{base c d g k l s t:Nat}{fs fs':Nat->List Nat}{M:Nat->Prop}{vs vs':Nat->Row}{fv vv:Nat->Value}{A:Option Addr}{a b x:Row}{v' v4 va vb vx:Value}{w w4:World}
structure TriB(w:World)(base:Nat)(A:Option Addr)(d:Nat)(vv fv:Nat->Value)(vs:Nat->Row)(fs:Nat->List Nat): Prop where
 lev:w.ownsRow base 334 2 (.slice A d d) d (Zt d vv fv)
 vals:Fam w base 147 3 d vv (λl=>(vs l).length) (λl=>Jp (vs l))
 fst:Fam w base 3 1 d fv (λl=>(fs l).length) (λl=>Je (nz (fs l)))
section
variable {w w':World} {base:Nat} {A:Option Addr} {d:Nat} {vv fv:Nat->Value} {vs:Nat->Row} {fs:Nat->List Nat}
theorem TriB.ext(h:TriB w base A d vv fv vs fs)(hx:Ext w w'): TriB w' base A d vv fv vs fs:=⟨Jk h.lev hx,h.vals.ext hx,h.fst.ext hx⟩
theorem TriB.vform(h:TriB w base A d vv fv vs fs)(hl:l<d): ∃ B c,vv l=.slice B (vs l).length c/\(vs l).length<=c/\Rd w 3 B (vs l).length (Jp (vs l)):=by
 obtain⟨B,c,e,i,_⟩:=Jy (h.vals.own l hl);refine⟨B,c,e,i,?_⟩;have:=h.vals.own l hl;rw[e]at this;exact Rd.own this
theorem TriB.fform(h:TriB w base A d vv fv vs fs)(hl:l<d): ∃ B c,fv l=.slice B (fs l).length c/\(fs l).length<=c/\Rd w 1 B (fs l).length (Je (nz (fs l))):=by
 obtain⟨B,c,e,i,_⟩:=Jy (h.fst.own l hl);refine⟨B,c,e,i,?_⟩;have:=h.fst.own l hl;rw[e]at this;exact Rd.own this
theorem TriB.rd(h:TriB w base A d vv fv vs fs): Rd w 2 A d (Zt d vv fv):=Rd.own h.lev
theorem TriB.v(h:TriB w base A d vv fv vs fs)(hl:l<d): w.cell? (adr A (l*2))=some (vv l):=h.rd.cell (Ge d vv fv hl).1
theorem TriB.v0(h:TriB w base A d vv fv vs fs)(hl:l<d): w.cell? ((adr A (l*2)).add 0)=some (vv l):=by rw[add_zero];exact h.v hl
theorem TriB.f1(h:TriB w base A d vv fv vs fs)(hl:l<d): w.cell? ((adr A (l*2)).add 1)=some (fv l):=by rw[Xe];exact h.rd.cell (Ge d vv fv hl).2
theorem TriB.f(h:TriB w base A d vv fv vs fs)(hl:l<d): w.cell? (adr A (l*2+1))=some (fv l):=h.rd.cell (Ge d vv fv hl).2
end
theorem Jdf{li:Int}(hR:Rd w 2 A d (Zt d vv fv))(hv:∀ l,l<d->∃ B c,vv l=.slice B (vs l).length c)(hli:li=(l:Int))(hd:d<=32):
  Ret Tryz.prog 239 [.agg #[.slice A d c],.int .i64 li] w λu w'=>u=.int .i64 (if l<d then(vs l).length else 0:Nat)/\Ext w w':=by
 subst hli;refine enE Tryz.func239 Tryz.ntmps239 ?_;refine bxR ?_;intro G b j O D;refine ldR (D.at (i:=0) rfl) ?_;refine ciR (λh=>?_) (λh=>?_)
 .refine ρ ?_;refine Jj ⟨?_,j⟩;grind
 have C:l<d:=by grind
 have o:=hR.ext j;obtain⟨B,U,e⟩:=hv l C;refine ldR (D.at (i:=0) rfl) ?_;refine Qp 2 l o C ?_;have J:G.cell? ((adr A (l*2)).add 0)=some (vv l):=by rw[add_zero];exact o.cell (Ge d vv fv C).1
 refine ldR J ?_;rw[e];refine ρ ?_;refine Jj ⟨?_,j⟩;rw[if_pos C]
theorem Qcj(ha:RowV w va a)(hb:RowV w vb b)(hlen:a=[]∨a.length=b.length): Ret Tryz.prog 238 [va,vb] w λu w'=>u=.int .i64 (shr a b:Int)/\Ext w w':=by
 obtain⟨A,ac,rfl,a6,a5,Z⟩:=ha;obtain⟨B,bc,rfl,a4,a3,U⟩:=hb;refine enE Tryz.func238 Tryz.ntmps238 ?_;refine ρ ?_;refine Qy (fun (k:Nat)=>[(0,.slice A a.length ac),(1,.slice B b.length bc),(5,.int .i64 (k:Int))]) (λk w'=>Ext w w'/\k<=a.length/\k<=b.length/\shr a b=k+shr (a.drop k) (b.drop k)) (λk=>a.length-k) 0 sB ⟨Ext.refl w,Nat.zero_le _,Nat.zero_le _,by simp⟩ ?_;rintro k w1 ⟨hx,a2,a1,he⟩;refine ρ ?_;refine Zv (fun (t:Bool)=>[(0,.slice A a.length ac),(1,.slice B b.length bc),(5,.int .i64 (k:Int)),(21,.bool t)]) (λt w'=>Ext w w'/\(t=true->k<a.length/\k<b.length/\a.getD k V0=b.getD k V0)/\(t=false->shr (a.drop k) (b.drop k)=0)) ?_ ?_
 .refine dr (scq 16 [13]) kr ?_;have o:=hx.drew;have J:RdR _ A a:=Rd.ext Z o;have G:RdR _ B b:=Rd.ext U o;refine ρd ?_;refine dki 10 (λh=>?_) (λh=>?_)
  .have D:k<a.length:=by have:=oT h;omega
   have C:k<b.length:=by grind
   refine Kt 3 k J D ?_;refine Qh (λj u O=>RdR.cell J D O) ?_;refine Kt 3 k G C ?_;refine Qh (λj u O=>RdR.cell G C O) ?_;refine Jh (Jxf (a.getD k V0) (b.getD k V0) _) ?_;rintro x w2 ⟨rfl,i⟩;refine⟨i,?_⟩;refine ρd ?_;refine ρ ?_;refine Jf _ sB ⟨o.trans i,λh=>⟨D,C,cmp_V.zero _ _ (Zx h)⟩,λh=>?_⟩;rw[List.drop_eq_getElem_cons D,List.drop_eq_getElem_cons C,shr,if_neg];intro e;have:=Xu h;grind [Qv,V0,Vd]
  refine ρd ?_;refine ρ ?_;refine Jf false sB ⟨o,λe=>(by cases e),λ_=>?_⟩;grind [List.drop_of_length_le,Jdq]
 rintro t w2 ⟨i,h1,h2⟩;refine ci (λh=>?_) (λh=>?_)
 .obtain⟨D,C,e⟩:=h1 h;refine ρ ?_;refine Qw (k+1) sO ⟨i,om,om,?_⟩ om;grind [List.drop_eq_getElem_cons,shr,Qv,V0]
 refine ρ ?_;refine Jj ⟨?_,i⟩;rw[he,h2 h];rfl
def Yj(A:Option Addr)(d:Nat)(vv fv:Nat->Value)(k:Nat): Prop:=(Value.slice A d d).ownBlock=some k∨∃ l,l<d/\((vv l).ownBlock=some k∨(fv l).ownBlock=some k)
theorem Jxv{e sz m base' e' sz' m':Nat}{v:Value}(h:w.ownsRow base e sz v m xs)(h':w.ownsRow base' e' sz' v' m' xs')(hne:Nat.beq e e'=false)(hg:v.ownBlock=some g): v'.ownBlock≠some g:=by
 have o:e≠e':=by intro j;subst j;simp at hne
 intro i;rcases h.2 with⟨rfl,_⟩|⟨g1,cap,cur,rfl,_,hh,_⟩
 .simp[Value.ownBlock]at hg
 rcases h'.2 with⟨rfl,_⟩|⟨g2,cap',cur',rfl,_,hh',_⟩
 .simp[Value.ownBlock]at i
 have C:g1=g:=by simpa [Value.ownBlock] using hg
 have u:g2=g:=by simpa [Value.ownBlock] using i
 grind
theorem TriB.box(h:TriB w base A d vv fv vs fs){b:Nat}(hB:Blk w b t cs)(h1:Nat.beq 334 t=false)(h2:Nat.beq 147 t=false)(h3:Nat.beq 3 t=false): ¬ Yj A d vv fv b:=by
 rintro(e|⟨l,i,e|e⟩)
 .exact hB.ne_own h.lev h1 e.symm
 .exact hB.ne_own (h.vals.own l i) h2 e.symm
 exact hB.ne_own (h.fst.own l i) h3 e.symm
theorem TriB.congr(h:TriB w base A d vv fv vs fs)(h1:∀ l,l<d->vs' l=vs l)(h2:∀ l,l<d->fs' l=fs l): TriB w base A d vv fv vs' fs' :=
 ⟨h.lev,⟨λi hi=>by rw[h1 i hi];exact h.vals.own i hi,h.vals.dis⟩,⟨λi hi=>by rw[h2 i hi];exact h.fst.own i hi,h.fst.dis⟩⟩
theorem Qfg{p:Addr}(u:Value): w.grownBy (w.setCell p u) (some p.block):=⟨rfl,rfl,rfl,by simp[World.setCell],λk i hn=>Below.heap_setCell w p u k (λe=>hn (by rw[e]))⟩
theorem TriB.setV{vv fv : Nat → Value}{vs : Nat → Row}{fs : Nat → List Nat}{r : Row}(H : TriB w base A d vv fv vs fs)(lk : k < d)(ho : w4.ownsRow base 147 3 v4 r.length (Jp r))(hg : w.grownBy w4 (vv k).ownBlock)(hn : ∀ g, v4.ownBlock = some g → (vv k).ownBlock = some g ∨ w.heap.size ≤ g): w4.cell? ((adr A (k * 2)).add 0) = some (vv k) ∧ w4.frozen? ((adr A (k * 2)).add 0) = false ∧ v4.oneCell' = true ∧ TriB (w4.setCell ((adr A (k * 2)).add 0) v4) base A d (upd vv k v4) fv (upd vs k r) fs ∧
      w4.grownBy (w4.setCell ((adr A (k * 2)).add 0) v4) (Value.slice A d d).ownBlock := by
  have F4 := H.vals.upd lk ho hg hn
  have L4 := Zg H.lev (H.vals.own k lk) hg rfl
  have f4 := H.fst.other (H.vals.own k lk) hg rfl
  obtain ⟨s1, s2, s3, s4, s5⟩ := Zn L4 (q := k * 2) om v4
  rw [add_zero]
  have h1 : v4.oneCell' = true := by obtain ⟨B, c, e, _⟩ := Jy ho; rw [e]; rfl
  refine ⟨s1.trans (Ge d vv fv lk).1, s2, h1, ⟨?_, ?_, ?_⟩, s5⟩
  . grind [Qxw,lk]
  . have F5 := F4.other L4 s5 rfl
    refine ⟨fun i hi => ?_, F5.dis⟩
    have := F5.own i hi
    grind [Ju,Jm]
  . exact f4.other L4 s5 rfl
theorem TriB.setF{vv fv : Nat → Value}{vs : Nat → Row}{fs : Nat → List Nat}{r : List Nat}(H : TriB w base A d vv fv vs fs)(lk : k < d)(ho : w4.ownsRow base 3 1 v4 r.length (Je (nz r)))(hg : w.grownBy w4 (fv k).ownBlock)(hn : ∀ g, v4.ownBlock = some g → (fv k).ownBlock = some g ∨ w.heap.size ≤ g): w4.cell? ((adr A (k * 2)).add 1) = some (fv k) ∧ w4.frozen? ((adr A (k * 2)).add 1) = false ∧ v4.oneCell' = true ∧ TriB (w4.setCell ((adr A (k * 2)).add 1) v4) base A d vv (upd fv k v4) vs (upd fs k r) ∧
      w4.grownBy (w4.setCell ((adr A (k * 2)).add 1) v4) (Value.slice A d d).ownBlock := by
  have F4 := H.fst.upd lk ho hg hn
  have L4 := Zg H.lev (H.fst.own k lk) hg rfl
  have f4 := H.vals.other (H.fst.own k lk) hg rfl
  obtain ⟨s1, s2, s3, s4, s5⟩ := Zn L4 (q := k * 2 + 1) om v4
  rw [Xe]
  have h1 : v4.oneCell' = true := by obtain ⟨B, c, e, _⟩ := Jy ho; rw [e]; rfl
  refine ⟨s1.trans (Ge d vv fv lk).2, s2, h1, ⟨?_, ?_, ?_⟩, s5⟩
  . grind [Qxv,lk]
  . exact f4.other L4 s5 rfl
  . have F5 := F4.other L4 s5 rfl
    refine ⟨fun i hi => ?_, F5.dis⟩
    have := F5.own i hi
    grind [Ju,Jm]
theorem Qmf(h:∀ j,Yj A d vv fv j->M j)(lk:k<d)(hn:∀ g,v4.ownBlock=some g->M g): ∀ j,Yj A d (upd vv k v4) fv j->M j:=by
 rintro j (e|⟨l,i,e|e⟩)
 .exact h j (.inl e)
 .by_cases el:l=k
  .grind [Ju]
  rw[Jm _ _ el]at e;exact h j (.inr ⟨l,i,.inl e⟩)
 exact h j (.inr ⟨l,i,.inr e⟩)
theorem Jtz(h:∀ j,Yj A d vv fv j->M j)(lk:k<d)(hn:∀ g,v4.ownBlock=some g->M g): ∀ j,Yj A d vv (upd fv k v4) j->M j:=by
 rintro j (e|⟨l,i,e|e⟩)
 .exact h j (.inl e)
 .exact h j (.inr ⟨l,i,.inl e⟩)
 by_cases el:l=k
 .grind [Ju]
 rw[Jm _ _ el]at e;exact h j (.inr ⟨l,i,.inr e⟩)
theorem Xxr(v:V)(w:World): (Instr.buildSlice 58 1 #[(0,v.val)]).run Tryz.prog w=.ok (.slice (some ⟨w.heap.size,0,none⟩) 1 1) (w.alloc (.cells v.cells.toArray 147)):=kr
theorem EVs: ElT Tryz.prog 58 147 3 32 (.agg #[.int .i64 0,.int .i64 0,.string ⟨#[]⟩]):=⟨Tryz.underlying58,info_parts kr,rfl,by decide⟩
theorem bs1Int'(z:Int)(w:World): (Instr.buildSlice 26 1 #[(0,.int .i64 z)]).run Tryz.prog w=.ok (.slice (some ⟨w.heap.size,0,none⟩) 1 1) (w.alloc (.cells [.int .i64 z].toArray 3)):=kr
theorem rowC_one'(v:V): Jp [v]=v.cells:=by simp[Jp]
theorem Qcm(H:TriB w base A d vv fv vs fs)(hx:Off (Yj A d vv fv) w (λu=>RowV u vx x))(hlen:x.length=d)(hd:d<=32)(hs:s<=d)(hbase:base<=w.heap.size)(hsm:∀ l,l<d->(vs l).length<=1000000/\(fs l).length<=1000000):
  Ret Tryz.prog 237 [.agg #[.slice A d d],vx,.int .i64 (s:Int)] w λu w'=>∃ vv' fv',TriB w' base A d vv' fv' (λl=>if s<=l then vs l++[x.getD l V0] else vs l) (λl=>if s<=l then fs l++[if l+1<d then(vs (l+1)).length else 0] else fs l) /\
   GrN (Yj A d vv fv) w w'/\∀ j,Yj A d vv' fv' j->Yj A d vv fv j∨w.heap.size<=j:=by
 obtain⟨X,xc,az,bc,bb,ba⟩:=hx.here;subst az;refine enE Tryz.func237 Tryz.ntmps237 ?_;refine bxR ?_;intro w1 b C hb hB;obtain⟨M,hM⟩:∃ M:Nat->Prop,M=λj=>Yj A d vv fv j∨w.heap.size<=j/\j≠b:=⟨_,rfl⟩;have aa:¬ M b:=by
  rw[hM];rintro(D|D)
  .exact(H.ext C).box hB rfl rfl rfl D
  exact D.2 rfl
 have ai:Off M w1 (λu=>RowV u (.slice X x.length xc) x):=λu hg=>hx u ⟨hg.os.trans C.os,hg.tape.trans C.tape,hg.output.trans C.output,Nat.le_trans C.size hg.size,λk hk hn=>(hg.block k (nM hk C.size) (λe=>by rw[hM]at e;rcases e with e|e;exact hn e;omega)).trans (C.block k hk)⟩;refine ρ ?_;refine Zq (fun (k:Nat) (vv' fv':Nat->Value)=>[(1,.slice X x.length xc),(3,.pointer (some ⟨b,0,none⟩)),(6,.int .i64 (k:Int))])
  (λk vv' fv' w'=>s<=k/\k<=d/\TriB w' base A d vv' fv' (λl=>if s<=l/\l<k then vs l++[x.getD l V0] else vs l) (λl=>if s<=l/\l<k then fs l++[if l+1<d then(vs (l+1)).length else 0] else fs l)/\GrN M w1 w'/\∀ j,Yj A d vv' fv' j->M j) (λk _ _=>d-k) s vv fv sB
  ⟨nR _,hs,?_,GrN.refl _ _,λj hj=>by rw[hM];exact .inl hj⟩ ?_
 .have e1:(λl=>if s<=l/\l<s then vs l++[x.getD l V0] else vs l)=vs:=by funext l;rw[if_neg om]
  have e2:(λl=>if s<=l/\l<s then fs l++[if l+1<d then(vs (l+1)).length else 0] else fs l)=fs:=by funext l;rw[if_neg om]
  rw[e1,e2];exact H.ext C
 rintro k vv' fv' w2 ⟨bg,bf,H2,a1,a7⟩;refine ciR (λh=>?_) (λh=>?_)
 .have lk:k<d:=by have:=oT h;omega
  have lx:k<x.length:=om
  have bd:=hsm k lk;clear h;obtain⟨B,c,b1,b8,b2⟩:=H2.vform lk;obtain⟨own,o⟩:∃ own,own=(vv' k).ownBlock:=⟨_,rfl⟩;have J:∀ j,own=some j->M j:=λj O=>a7 j (.inr ⟨k,lk,.inl (by rw[<-o];exact O)⟩);refine ρ ?_;refine Zv (fun (a5:Nat->Value)=>[(1,.slice X x.length xc),(3,.pointer (some ⟨b,0,none⟩)),(6,.int .i64 (k:Int))])
   (λa5 w5=>TriB w5 base A d a5 fv' (upd (λl=>if s<=l/\l<k then vs l++[x.getD l V0] else vs l) k (vs k++[x.getD k V0])) (λl=>if s<=l/\l<k then fs l++[if l+1<d then(vs (l+1)).length else 0] else fs l)/\GrN M w1 w5/\∀ j,Yj A d a5 fv' j->M j) ?_ ?_
  .refine drN (one own) 4 (scq 18 [13,14,117]) kr ?_;have a6:Ext w2 w2.drew:=(Ext.refl w2).drew;have a4:=H2.ext a6;have G:=a1.trans (GrN.ext a6);have ah:=Jb hB G aa;have ax:RdR w2.drew X x:=by
    obtain⟨X',av,e1,_,_,e4⟩:=ai _ G;injection e1 with e1 _ _;subst e1;exact e4
   have nb:¬ one own b:=λe=>aa (J b e);have nA:∀ ad,A=some ad->¬ one own ad.block:=λad e D=>by
    subst e;exact Jxv a4.lev (a4.vals.own k lk) rfl rfl (by rw[<-o];exact D)
   have ac:¬ one own (adr A (k*2)).block:=by
    obtain⟨ad,e,_⟩:=a4.rd.isome om om;subst e;simp only[adr,Option.getD_some,Ur];exact nA ad rfl
   have ay:∀ w',GrN (one own) w2.drew w'->RdR w' X x:=λw' hg=>by
    obtain⟨X',av,e1,_,_,e4⟩:=ai _ (G.trans (hg.mono λj _ O=>J j O));injection e1 with e1 _ _;subst e1;exact e4
   refine ρn ?_;refine nld (Jr (ah.at (i:=0) rfl) nb) ?_;refine ρn ?_;refine nld (Jr (ah.at (i:=0) rfl) nb) ?_;refine ρn ?_;refine Yp 2 k a4.rd lk ?_;refine ρn ?_;refine nld (Jr (a4.v0 lk) (by rw[Ur];exact ac)) ?_;refine ρn ?_;refine Yp 3 k ax lx ?_;refine ρn ?_;refine Xr (cs:=(x.getD k V0).cells) (λw' hg j u hu=>RdR.cell (ay w' hg) lx hu) ?_;refine ρn ?_;refine nop ?_;refine bsl (Xxr (x.getD k V0)) ?_;intro w3 b3 a3 bi b5;refine ρ ?_;refine Ja (GrN.ext a3) ?_;have H3:=a4.ext a3;have ap:=H3.vals.own k lk;rw[if_neg (show¬ (s<=k/\k<k) by omega)]at ap;have be:(vs k).length+1<=1000001:=om
   refine nop ?_;refine apb (base:=base) EVs ap (b5.rd (n:=1) rfl) (V.one _) (by unfold maxLen;omega) om (nL hbase (nL C.size (nL G.size a3.size))) ?_;intro v4 w4 ao a9 au;refine ρ ?_;refine Ja (GrN.by a9 λj O=>by rw[<-o]at O;exact O) ?_;have er:Jp (vs k)++(x.getD k V0).cells=Jp (vs k++[x.getD k V0]):=by rw[Qgq,rowC_one']
   have el:(vs k).length+1=(vs k++[x.getD k V0]).length:=by simp
   rw[er,el]at ao;obtain⟨c1,c2,c3,H5,ae⟩:=H3.setV lk ao a9 au;have bj:b<w2.drew.heap.size:=ah.lt;have L4:=Zg H3.lev (H3.vals.own k lk) a9 rfl;refine ρn ?_;refine Yp 2 k (Rd.own L4) lk ?_;refine ρn ?_;refine Xh ?_;refine sto c1 c2 ?_ (hv:=c3);refine ρ ?_;have af:∀ g,v4.ownBlock=some g->M g:=λg eg=>by
    rcases au g eg with D|D
    .exact J g (by rw[o];exact D)
    rw[hM];exact .inr ⟨nL C.size (nL G.size (nL a3.size D)),λe=>by have:=a3.size;omega⟩
   refine Jf (upd vv' k v4) sB ⟨H5,?_,Qmf (M:=M) a7 lk af⟩;exact((G.trans (GrN.ext a3)).trans (GrN.by a9 λj O=>J j (by rw[o];exact O))).trans (GrN.by ae λj O=>a7 j (.inl O))
  clear J o b1 b8 b2 H2 a1 a7;rintro a5 w5 ⟨H5,ae,ag⟩;obtain⟨own,o⟩:∃ own,own=(fv' k).ownBlock:=⟨_,rfl⟩;have J:∀ j,own=some j->M j:=λj O=>ag j (.inr ⟨k,lk,.inr (by rw[<-o];exact O)⟩);refine drN (one own) 4 (scq 18 [12,13,14,117]) kr ?_;have a6:Ext w5 w5.drew:=(Ext.refl w5).drew;have Z:=H5.ext a6;have a2:=ae.trans (GrN.ext a6);have ab:=Jb hB a2 aa;have nb:¬ one own b:=λe=>aa (J b e);have ac:¬ one own (adr A (k*2)).block:=by
   obtain⟨ad,e,_⟩:=Z.rd.isome om om;subst e;simp only[adr,Option.getD_some,Ur];intro D;exact Jxv Z.lev (Z.fst.own k lk) rfl rfl (by rw[<-o];exact D)
  refine ρn ?_;refine nld (Jr (ab.at (i:=0) rfl) nb) ?_;refine ρn ?_;refine nld (Jr (ab.at (i:=0) rfl) nb) ?_;refine ρn ?_;refine Yp 2 k Z.rd lk ?_;refine ρn ?_;refine nld (Jr (Z.f1 lk) (by rw[Ur];exact ac)) ?_;refine ρn ?_;refine Xr (cs:=[.slice A d d]) (λw' hg j u hu=>(Jb ab hg nb).at hu) ?_;refine ρn ?_;refine nop ?_;refine cl (Jdf (l:=k+1) (li:=(k:Int)+1) Z.rd (λl hl=>by obtain⟨B,c,e,_⟩:=Z.vform hl;exact⟨B,c,e⟩) om hd) ?_;rintro u w6 ⟨rfl,ak⟩;refine ρ ?_;refine Ja (GrN.ext ak) ?_;obtain⟨nn,aq⟩:∃ nn:Nat,nn=if k+1<d then(vs (k+1)).length else 0:=⟨_,rfl⟩
  have b9:(if k+1<d then List.length (upd (λl=>if s<=l/\l<k then vs l++[x.getD l V0] else vs l) k (vs k++[x.getD k V0]) (k+1)) else 0)=nn:=by
   rw[aq,Jm _ _ om,if_neg (show¬ (s<=k+1/\k+1<k) by omega)]
  rw[b9];refine nop ?_;refine bsl (bs1Int' (nn:Int)) ?_;intro w7 b7 aj bh b4;refine ρ ?_;refine Ja (GrN.ext aj) ?_;have U:=ak.trans aj;have H7:=Z.ext U;have an:=H7.fst.own k lk;rw[if_neg (show¬ (s<=k/\k<k) by omega)]at an;refine nop ?_;refine apb (base:=base) EI an (b4.rd (n:=1) rfl) (λu hu=>by rw[List.mem_singleton.1 hu];rfl) (by unfold maxLen;omega) om (nL hbase (nL C.size (nL a2.size U.size))) ?_;intro v8 w8 am a8 ar;refine ρ ?_;refine Ja (GrN.by a8 λj O=>by rw[<-o]at O;exact O) ?_;have er:Je (nz (fs k))++[.int .i64 (nn:Int)]=Je (nz (fs k++[nn])):=by simp[Je,nz]
  have el:(fs k).length+1=(fs k++[nn]).length:=by simp
  rw[er,el]at am;obtain⟨c1,c2,c3,H9,b6⟩:=H7.setF lk am a8 ar;have L8:=Zg H7.lev (H7.fst.own k lk) a8 rfl;refine ρn ?_;refine Yp 2 k (Rd.own L8) lk ?_;refine ρn ?_;refine Xh ?_;refine sto c1 c2 ?_ (hv:=c3);refine ρ ?_;have af:∀ g,v8.ownBlock=some g->M g:=λg eg=>by
   rcases ar g eg with D|D
   .exact J g (by rw[o];exact D)
   rw[hM];exact .inr ⟨nL C.size (nL a2.size (nL U.size D)),λe=>by have:=U.size;have:=ab.lt;omega⟩
  refine Xq (k+1) a5 (upd fv' k v8) sO ⟨om,om,H9.congr (λl hl=>?_) (λl hl=>?_),?_,Jtz (M:=M) ag lk af⟩ om
  .by_cases e:l=k
   .subst e;rw[Ju,if_pos om]
   rw[Jm _ _ e];by_cases e2:s<=l/\l<k
   .rw[if_pos e2,if_pos om]
   rw[if_neg e2,if_neg om]
  .by_cases e:l=k
   .subst e;rw[Ju,if_pos om,aq]
   rw[Jm _ _ e];by_cases e2:s<=l/\l<k
   .rw[if_pos e2,if_pos om]
   rw[if_neg e2,if_neg om]
  exact((a2.trans (GrN.ext U)).trans (GrN.by a8 λj O=>J j (by rw[o];exact O))).trans (GrN.by b6 λj O=>ag j (.inl O))
 have ek:k=d:=by have:=oF h;omega
 subst ek;refine ρ ?_;refine Ys ⟨vv',fv',H2.congr (λl hl=>?_) (λl hl=>?_),?_,λj hj=>?_⟩
 .by_cases e:s<=l
  .rw[if_pos e,if_pos ⟨e,hl⟩]
  rw[if_neg e,if_neg (λD=>e D.1)]
 .by_cases e:s<=l
  .rw[if_pos e,if_pos (show s<=l/\l<k from⟨e,hl⟩)]
  rw[if_neg e,if_neg (λD=>e D.1)]
 .exact⟨a1.os.trans C.os,a1.tape.trans C.tape,a1.output.trans C.output,Nat.le_trans C.size a1.size,λj hj hn=>(a1.block j (nM hj C.size) (λe=>by rw[hM]at e;rcases e with e|e;exact hn e;omega)).trans (C.block j hj)⟩
 have:=a7 j hj;rw[hM]at this;exact this.imp id λD=>D.1
open Go.RowKit Pl Go.Wk _root_.Go.Proofs.Tryz
attribute [local irreducible] WN
variable {t:Int}{zs:List Int}{base c d n:Nat}{A:Option Addr}{w:World}
theorem Qsj(hR:Rd w 1 A n (Je zs))(hn:zs.length=n)(hm:n<=1100000): Ret prog 252 [.slice A n c,.int .i64 t] w λu w'=>w'=w/\∃ z,u=.int .i64 z/\(0<=z↔t∈zs):=by
 refine enE func252 ntmps252 ?_;refine ρ ?_;refine Qy (fun (k:Nat)=>[(0,.slice A n c),(1,.int .i64 t),(7,.int .i64 (n:Int)),(8,.int .i64 (k:Int))]) (λk w'=>w'=w/\k<=n/\t ∉ zs.take k) (λk=>n-k) 0 sB ⟨rfl,Nat.zero_le _,by simp⟩ ?_;rintro k w' ⟨rfl,j,o⟩;refine ciR (λh=>?_) (λh=>?_)
 .have lk:k<n:=by have:=oT h;omega
  have i:k<zs.length:=om
  refine ixR k hR lk ?_;refine ldR (hR.cell (Jwq i)) ?_;refine ciR (λh=>?_) (λh=>?_)
  .refine ρ ?_;refine Jj ⟨rfl,(k:Int),rfl,⟨λ_=>?_,λ_=>om⟩⟩;grind
  refine ρ ?_;refine Qw (k+1) sO ⟨rfl,om,?_⟩ om;rw[Qt 0 i,List.mem_append,List.mem_singleton];grind
 refine ρ ?_;refine Jj ⟨rfl,-1,rfl,⟨λe=>om,λe=>?_⟩⟩;grind
theorem Xqc(hR:Rd w 1 A n (Je zs))(hn:zs.length=n)(hm:n<=1100000): Ret prog 236 [.slice A n c,.int .i64 t] w λu w'=>w'=w/\∃ b:Bool,u=.bool b/\(b=true↔t∈zs):=by
 refine enE func236 ntmps236 ?_;refine clR (Qsj hR hn hm) ?_;rintro u w' ⟨rfl,z,rfl,i⟩;refine ρ ?_;exact Jj ⟨rfl,decide (0<=z),rfl,by grind⟩
def TriV(w:World)(v:Value)(d:Nat)(rs:List Row): Prop:=∃(A:Option Addr) (vv fv:Nat->Value) (fs:Nat->List Nat),v=.agg #[.slice A d d]/\Rd w 2 A d (Zt d vv fv)/\(∀ l,l<d->∃ B c,vv l=.slice B (lvl rs l).length c/\RdR w B (lvl rs l)) /\
 (∀ l,l<d->∃ B c,fv l=.slice B (fs l).length c/\Rd w 1 B (fs l).length (Je (nz (fs l))))/\∀ l,l+1<d->Chl rs l (fs l)
theorem TriV.ext{w w':World}{v:Value}{d:Nat}{rs:List Row}(h:TriV w v d rs)(hx:Ext w w'): TriV w' v d rs:=by
 obtain⟨A,vv,fv,fs,u,o,D,C,j⟩:=h;refine⟨A,vv,fv,fs,u,o.ext hx,λl i=>?_,λl i=>?_,j⟩;repeat grind [Rd.ext]
theorem TriB.off{vv fv:Nat->Value}{rs:List Row}{fs:Nat->List Nat}{N:Nat->Prop}(h:TriB w base A d vv fv (lvl rs) fs)(hc:∀ l,l+1<d->Chl rs l (fs l))(hN:∀ j,Yj A d vv fv j->¬ N j): Off N w (λu=>TriV u (.agg #[.slice A d d]) d rs):=by
 intro u C;refine⟨A,vv,fv,fs,rfl,Vn h.rd C (λ_ G e=>?_),λl i=>?_,λl i=>?_,hc⟩
 .subst e;exact hN _ (.inl rfl)
 .obtain⟨B,c,e,_,o⟩:=h.vform i;refine⟨B,c,e,Vn o C λ_ G D=>hN _ (.inr ⟨l,i,.inl ?_⟩)⟩;rw[e,D];rfl
 obtain⟨B,c,e,_,o⟩:=h.fform i;refine⟨B,c,e,Vn o C λ_ G D=>hN _ (.inr ⟨l,i,.inr ?_⟩)⟩;rw[e,D];rfl
theorem Jcq: Qa prog 317=some (.agg #[.slice none 0 0]):=kr
theorem Xkj(A:Option Addr)(n c:Nat)(w:World): (Instr.build 317 #[(0,.slice A n c)]).run prog w=.ok (.agg #[.slice A n c]) w:=kr
theorem EL: ElT prog 315 334 2 48 (.agg #[.slice none 0 0,.slice none 0 0]):=⟨underlying315,info_parts kr,rfl,by decide⟩
theorem one1: ∀ u∈[Value.slice A n c],u.oneCell'=true:=by intro u i;rw[List.mem_singleton.1 i];rfl
theorem made2(d:Nat): (madeCells (Value.agg #[.slice none 0 0,.slice none 0 0]).cells (d*2)).toList=Zt d (λ_=>.slice none 0 0) (λ_=>.slice none 0 0):=by
 apply List.ext_getElem?
 intro k;have o:(Value.agg #[.slice none 0 0,.slice none 0 0]).cells = #[.slice none 0 0,.slice none 0 0]:=rfl;rw[o];by_cases hk:k<d*2
 .have i:=Ge d (λ_=>Value.slice none 0 0) (λ_=>Value.slice none 0 0) (l:=k / 2) om;have j:k % 2=0∨k % 2=1:=om
  rcases j with j|j
  .have e:k / 2*2=k:=om
   rw[e]at i;rw[i.1];simp only[madeCells,Array.getElem?_toList,Array.getElem?_map,Array.getElem?_range,hk,if_true,Option.map_some];grind
  have e:k / 2*2+1=k:=om
  rw[e]at i;rw[i.2];simp only[madeCells,Array.getElem?_toList,Array.getElem?_map,Array.getElem?_range,hk,if_true,Option.map_some];grind
 rw[List.getElem?_eq_none (by simp[madeCells];omega),List.getElem?_eq_none (by rw[Vs];omega)]
open Go.RowKit Pl Go.Wk
variable {ls rs:List Row}{d:Nat}{r x:Row}
theorem Qlg(h:r.length=d): pmR (List.range d) r=r:=by
 apply List.ext_getElem
 repeat grind [pmR,List.getD,List.getElem?_eq_getElem]
theorem TriB.nil(w:World)(base:Nat){A:Option Addr}(hl:w.ownsRow base 334 2 (.slice A d d) d (Zt d (λ_=>.slice none 0 0) (λ_=>.slice none 0 0))): TriB w base A d (λ_=>.slice none 0 0) (λ_=>.slice none 0 0) (λ_=>[]) (λ_=>[]) :=
 ⟨hl,⟨λi hi=>Zy _ _ _ _,λi j g _ _ _ e=>by cases e⟩,⟨λi hi=>Zy _ _ _ _,λi j g _ _ _ e=>by cases e⟩⟩
theorem Qjw(l:Nat): (lvl rs l).length<=rs.length:=by
 rw[Jzk];have:=Jqs (rs.map (List.take (l+1)));rw[List.length_map]at this;exact this
theorem Qdp: stp rs x<=x.length:=by
 unfold stp;split
 .exact(Jrt _ _).2
 exact Nat.zero_le _
theorem Qck{w:World}{v vc:Value}(hrel:RelV w v d ls)(hlt:Lt [] ls)(hlen:∀ r∈ls,r.length=d)(hc:IntsV w vc (nz (List.range d)))(hd:d<=32)(hbig:ls.length<=65536):
  Ret Tryz.prog 222 [v,vc] w λu w'=>Ext w w'/\∃ t,u=.tuple #[t,.int .i64 0]/\(∃ A,t=.agg #[.slice A d d])/\Off (λk=>k<w.heap.size) w' (λx=>TriV x t d ls):=by
 obtain⟨C,cc,rfl,dg,df,co⟩:=id hc;obtain⟨rv,rfl,bo⟩:=id hrel;obtain⟨eb,A0,c0,_,rfl,_⟩:=id bo;have ba:(nz (List.range d)).length=d:=by rw[Qf,List.length_range]
 rw[ba]at hc dg df co ⊢;have d0:∀ {k:Nat},k<d->(List.range d).getD k 0=k:=fun {k} hk=>by simp[List.getD,hk]
 have bs:∀ {k:Nat},k<d->(Je (nz (List.range d)))[k]?=some (.int .i64 (k:Int)):=fun {k} hk=>by
  have:=Xg (cs:=List.range d) (i:=k) (by rw[List.length_range];exact hk);rw[d0 hk]at this;exact this
 refine enE Tryz.func222 Tryz.ntmps222 ?_;refine bxR ?_;intro w1 b1 cb em e0;refine Jv Jcq ?_;intro w2 b2 ca dj cz;have c8:=cb.trans ca;refine ρ ?_;refine Qy (fun (k:Nat)=>[(1,.slice C d cc),(2,.pointer (some ⟨b1,0,none⟩)),(4,.pointer (some ⟨b2,0,none⟩)),(15,.slice C d cc),(16,.int .i64 (d:Int)),(17,.int .i64 (k:Int))]) (λk w'=>Ext w2 w'/\k<=d) (λk=>d-k) 0 sB ⟨Ext.refl _,Nat.zero_le _⟩ ?_;rintro k w3 ⟨ar,hk⟩;have a7:=c8.trans ar;have bj:=(e0.ext ca).ext ar;refine ciR (λh=>?_) (λh=>?_)
 .have lk:k<d:=by have:=oT h;omega
  have b3:=co.ext a7;refine ixR k b3 lk ?_;refine ldR (b3.cell (bs lk)) ?_;refine kfR 24 ?_ ?_
  .exact dF om
  refine Qq bj ?_;refine clR (Jfq (hrel.ext a7)) ?_;rintro u w4 ⟨rfl,ao⟩;refine cfR ?_ ?_
  .exact dF om
  refine ρ ?_;refine slh k ?_;refine ρ ?_;have dl:Rd w4 1 C k (Je ((nz (List.range d)).take k)):=by
   have:=(b3.ext ao).take (m:=k) om;rw[Nat.mul_one]at this;have e:Je ((nz (List.range d)).take k)=(Je (nz (List.range d))).take k:=by simp[Je]
   rw[e];exact this
  refine cl (Xqc (t:=(k:Int)) dl (by rw[List.length_take,ba];omega) om) ?_;rintro u w5 ⟨rfl,t,rfl,ht⟩;have dc:t=false:=by
   cases t with
   | false=>rfl
   | true=>
    exfalso
    have hm:=ht.1 rfl;obtain⟨i,hi,e⟩:=List.getElem_of_mem hm;rw[List.length_take,ba]at hi;have:((nz (List.range d)).take k)[i]'(by rw[List.length_take,ba];exact hi)=(i:Int):=by simp[nz]
    rw[this]at e;omega
  refine cfR dc ?_;refine ρ ?_;exact Qw (k+1) sO ⟨ar.trans ao,om⟩ om
 clear h;have ch:ls.map (pmR (List.range d))=ls:=by
  conv=>rhs;rw[<-List.map_id ls]
  exact List.map_congr_left λr hr=>by rw[Qlg (hlen r hr)];rfl
 refine Qq bj ?_;refine clR (Jsv (cs:=List.range d) (hrel.ext a7) (hc.ext a7) hlen (λc hc=>List.mem_range.1 hc) (by rw[List.length_range];exact hd) hbig) ?_;rintro u w4 ⟨ao,pv,rfl,⟨pz,pB,pm,pd,rfl⟩,m,cg,ee,ed,de⟩;have dd:m=ls:=by
  have:=de (.inr (by rw[ch];exact Gt hlt));rw[ch]at this;exact Jjs this.1 hlt this.2
 subst dd;rw[List.length_range]at cg;have c7:=a7.trans ao;refine Jv Gm ?_;intro w5 b5 db di dz;refine Qb dz ?_ (Yn (z:=pz) (A:=pB) (n:=pm) (c:=pd));intro w6 dx eh da;have ac:Ext w4 w6:=da w4 db di;have ap:=c7.trans ac;have dt:RelV w6 (.agg #[.int .i64 pz,.slice pB pm pd]) d m:=cg.here.ext ac;refine ρ ?_;refine mkn EL d om (by unfold maxLen;omega) ?_;intro w7 A d9 bq hO;rw[made2]at bq;refine Zj (Xkj A d d _) ?_;refine Jv Jcq ?_;intro w8 b8 d8 dh dw;refine Qb dw ?_ (one1 (A:=A) (n:=d) (c:=d));intro w9 dv ef d7;have aq:Ext w7 w9:=d7 w7 d8 dh;have D:=d9.trans aq;have c6:=ap.trans D;have dk:=TriB.nil w9 w6.heap.size (Jk bq aq);have ck:∀ j,(Value.slice A d d).ownBlock=some j->w6.heap.size<=j/\j<w7.heap.size:=by
  obtain⟨_,_,_,_,hf⟩:=Jy bq;exact hf
 refine Qq (dx.ext D) ?_;refine clR (Jfn (dt.ext D)) ?_;rintro u an ⟨G,b9⟩;obtain⟨ps,R,rc,cj,rfl,e6,e5,dn,dm⟩:=b9;have ec:ps.length=m.length:=by rw[cj,List.length_map]
 generalize hn:ps.length=n at *
 have ax:∀ i,m.getD i []=(ps.getD i z0).2:=λi=>by rw[cj];exact Jqj
 have bm:=c6.trans G;obtain⟨Ar,b7⟩:∃ Ar:Nat->Prop,Ar=λj=>j<w9.heap.size∨an.heap.size<=j:=⟨_,rfl⟩;have dq:Off Ar an (λu=>Rd u 1 R n (ps.map (·.1))):=dn.mono λj Z av=>by rw[b7]at av;omega
 have bt:∀ p∈ps,Off Ar an (λu=>RowV u p.1 p.2):=λp hp=>(dm p hp).mono λj Z av=>by rw[b7]at av;omega
 have a2:=dv.ext G;have cy:=(((((cz.ext ar).ext ao).ext ac).ext D).ext G);obtain⟨M,hM⟩:∃ M:Nat->Prop,M=λj=>w6.heap.size<=j/\Ar j/\j≠b8:=⟨_,rfl⟩;have bu:∀ j,M j->Ar j:=λj Z=>by rw[hM]at Z;exact Z.2.1
 have b4:¬ M b8:=λe=>by rw[hM]at e;exact e.2.2 rfl
 have cq:¬ M b2:=λe=>by
  rw[hM]at e;have h1:=cz.lt;have h2:=ar.size;have h3:=ao.size;have h4:=ac.size;omega
 refine ρ ?_;refine Zq (fun (k:Nat) (vv fv:Nat->Value)=>[(4,.pointer (some ⟨b2,0,none⟩)),(10,.pointer (some ⟨b8,0,none⟩)),(11,if k=0 then .slice none 0 0 else(ps.getD (k-1) z0).1),(53,.slice R n rc),(54,.int .i64 (n:Int)),(55,.int .i64 (k:Int))])
  (λk vv fv w'=>k<=n/\(∃ fs,TriB w' w6.heap.size A d vv fv (lvl (m.take k)) fs/\(∀ l,l<d->(fs l).length=(lvl (m.take k) l).length)/\∀ l,l+1<d->Fst (m.take k) l (fs l))/\GrN M an w'/\∀ j,Yj A d vv fv j->M j) (λk _ _=>n-k) 0 (λ_=>.slice none 0 0) (λ_=>.slice none 0 0) sB
  ⟨Nat.zero_le _,⟨λ_=>[],(dk.ext G).congr (λl O=>rfl) (λl O=>rfl),λl O=>rfl,λl O=>Fst.nil l⟩,GrN.refl _ _,λj Z=>?_⟩ ?_
 .rcases Z with e|⟨l,_,e|e⟩
  .have:=ck j e;rw[hM];refine⟨this.1,by rw[b7];exact .inl (nM this.2 aq.size),λe2=>?_⟩;subst e2;omega
  .cases e
  cases e
 rintro k vv fv a3 ⟨hk,⟨fs,bw,az,aj⟩,a1,a9⟩;have a6:GrN Ar an a3:=a1.mono λj _ Z=>bu j Z;refine ciR (λh=>?_) (λh=>?_)
 .have lk:k<n:=by have:=oT h;omega
  have c5:k<m.length:=om
  clear h;have bi:=dq a3 a6;have cp:RowV a3 (ps.getD k z0).1 (m.getD k []):=by rw[ax];exact bt _ (Ye hn lk) a3 a6
  have c9:(m.getD k []).length=d:=hlen _ (getD_mem' [] m c5);have cv:∃ y,RowV a3 (if k=0 then .slice none 0 0 else(ps.getD (k-1) z0).1) y/\(y=[]∨y.length=(m.getD k []).length)/\shr y (m.getD k [])=stp (m.take k) (m.getD k []):=by
   by_cases e:k=0
   .subst e;rw[if_pos rfl];exact⟨[],RowV.nil _ _ _,.inl rfl,by rw[Jdq];rfl⟩
   rw[if_neg e];have d3:k-1<n:=om
   refine⟨m.getD (k-1) [],by rw[ax];exact bt _ (Ye hn d3) a3 a6,.inr (by rw[c9];exact hlen _ (getD_mem' [] m om)),?_⟩;have e2:(m.take k).getLast?=some (m.getD (k-1) []):=by
    rw[List.getLast?_eq_getElem?,List.length_take,Nat.min_eq_left om,List.getElem?_take,if_pos om,Qv [] m om,List.getElem?_eq_getElem om]
   unfold stp;rw[e2]
  obtain⟨y,d6,d5,d4⟩:=cv;have au:m.take (k+1)=m.take k++[m.getD k []]:=Qt [] c5;have ag:Lt [] (m.take k++[m.getD k []]):=by rw[<-au];exact List.Pairwise.sublist (List.take_sublist _ _) hlt
  have a4:∀ r∈m.take k++[m.getD k []],r.length=d:=by rw[<-au];exactλr hr=>hlen r (List.mem_of_mem_take hr)
  refine ixR k bi lk ?_;refine ldR (Jxp bi hn lk) ?_;refine ρ ?_;refine drN (λ_=>False) 4 (scq 6 [4,105]) kr ?_;have aa:Ext a3 a3.drew:=(Ext.refl a3).drew;have br:=a1.trans (GrN.ext aa);have ak:=Jb a2 br b4;refine ρn ?_;refine Xr (cs:=[.slice A d d]) (λw' hg j u hu=>(Jb ak hg (λe=>e)).at hu) ?_;refine ρn ?_;refine nop ?_;refine cl (Qcj (d6.ext aa) (cp.ext aa) d5) ?_;rintro u am ⟨rfl,be⟩;refine ρ ?_;refine Ja (GrN.ext be) ?_;rw[d4];have af:=aa.trans be;have bc:=bw.ext af;have o:=a1.trans (GrN.ext af);have bn:Off (Yj A d vv fv) am (λu=>RowV u (ps.getD k z0).1 (m.getD k [])):=λu hu=>by
   rw[ax];exact bt _ (Ye hn lk) u ((o.mono λj _ Z=>bu j Z).trans (hu.mono λj _ Z=>bu j (a9 j Z)))
  refine Xh ?_;refine cl (Qcm (s:=stp (m.take k) (m.getD k [])) bc bn c9 hd (by have:=Qdp (rs:=m.take k) (x:=m.getD k []);omega) ?_ ?_) ?_
  .have h1:=D.size;have h2:=G.size;have h3:=o.size;omega
  .intro l O;have h1:=Qjw (rs:=m.take k) l;rw[List.length_take]at h1;have h2:=az l O;omega
  rintro u bz ⟨d1,ab,e4,ay,cr⟩;refine ρ ?_;refine Xq (k+1) d1 ab (by repeat' (first|exact Sub.nil|refine Sub.cons (by first|rfl|(refine congrArg (λz=>some (Value.int .i64 z)) ?_;omega)|(rw[if_neg (Nat.succ_ne_zero k)];rfl)) ?_)) ⟨om,⟨_,e4.congr (vs':=lvl (m.take (k+1))) (λl O=>?_) (λl O=>rfl),λl O=>?_,λl O=>?_⟩,o.trans (ay.mono λj _ Z=>a9 j Z),λj Z=>?_⟩ om
  .rw[au,Qjv ag a4 O];by_cases e:stp (m.take k) (m.getD k [])<=l
   .rw[if_pos e,if_neg om]
   rw[if_neg e,if_pos om]
  .rw[au,Qjv ag a4 O];by_cases e:stp (m.take k) (m.getD k [])<=l
   .rw[if_pos e,if_neg (show¬ l+1<=stp (m.take k) (m.getD k []) by omega),List.length_append,List.length_append,az l O];rfl
   rw[if_neg e,if_pos om];exact az l O
  .rw[au];by_cases e:stp (m.take k) (m.getD k [])<=l
   .rw[if_pos e,if_pos O,Jzk];exact(aj l O).more ag a4 e
   rw[if_neg e];exact(aj l O).keep ag a4 om
  rcases cr j Z with h'|h'
  .exact a9 j h'
  rw[hM];have h1:=D.size;have h2:=G.size;have h3:=o.size;have h4:=a2.lt;exact⟨om,by rw[b7];exact .inr om,om⟩
 have ek:k=n:=by have:=oF h;omega
 subst ek;rw[List.take_of_length_le om]at bw az aj;have ak:=Jb a2 a1 b4;refine ldR (ak.at (i:=0) rfl) ?_;refine ρ ?_;refine Jo (fun (k:Nat) (fv:Nat->Value)=>[(4,.pointer (some ⟨b2,0,none⟩)),(10,.pointer (some ⟨b8,0,none⟩)),(69,.int .i64 (d:Int)),(70,.int .i64 (k:Int))])
  (λq ab w'=>q<=d/\TriB w' w6.heap.size A d vv ab (lvl m) (λl=>if l<q then fs l++[if l+1<d then(lvl m (l+1)).length else 0] else fs l)/\GrN M an w'/\∀ j,Yj A d vv ab j->M j) (λq _=>d-q) 0 fv sB
  ⟨Nat.zero_le _,bw.congr (λl O=>rfl) (λl O=>by rw[if_neg om]),a1,a9⟩ ?_
 clear ak a9 a6 a1;rintro q ab am ⟨hq,bc,o,ai⟩;refine ciR (λh=>?_) (λh=>?_)
 .have lq:q<d:=by have:=oT h;omega
  clear h;have e7:=az q lq;have ei:=Qjw (rs:=m) q;obtain⟨own,a8⟩:∃ own,own=(ab q).ownBlock:=⟨_,rfl⟩;have bp:∀ j,own=some j->M j:=λj ej=>ai j (.inr ⟨q,lq,.inr (by rw[<-a8];exact ej)⟩);refine ρ ?_;refine drN (one own) 4 (scq 18 [12,13,14,117]) kr ?_;have aa:Ext am am.drew:=(Ext.refl am).drew;have J:=bc.ext aa;have a5:=o.trans (GrN.ext aa);have b6:=Jb a2 a5 b4;have nb:¬ one own b8:=λe=>b4 (bp b8 e);have d2:¬ one own (adr A (q*2)).block:=by
   obtain⟨ad,e,_⟩:=J.rd.isome om om;subst e;simp only[adr,Option.getD_some,Ur];intro h';exact Jxv J.lev (J.fst.own q lq) rfl rfl (by rw[<-a8];exact h')
  refine ρn ?_;refine nld (Jr (b6.at (i:=0) rfl) nb) ?_;refine ρn ?_;refine nld (Jr (b6.at (i:=0) rfl) nb) ?_;refine ρn ?_;refine Yp 2 q J.rd lq ?_;refine ρn ?_;refine nld (Jr (J.f1 lq) (by rw[Ur];exact d2)) ?_;refine ρn ?_;refine Xr (cs:=[.slice A d d]) (λw' hg j u hu=>(Jb b6 hg nb).at hu) ?_;refine ρn ?_;refine nop ?_;refine cl (Jdf (l:=q+1) (li:=(q:Int)+1) J.rd (λl O=>by obtain⟨B,c,e,_⟩:=J.vform O;exact⟨B,c,e⟩) om hd) ?_;rintro u bz ⟨rfl,ae⟩;refine ρ ?_;refine Ja (GrN.ext ae) ?_;obtain⟨nn,ce⟩:∃ nn:Nat,nn=if q+1<d then(lvl m (q+1)).length else 0:=⟨_,rfl⟩
  rw[<-ce];refine nop ?_;refine bsl (bs1Int' (nn:Int)) ?_;intro ea en bd e8 cm;refine ρ ?_;refine Ja (GrN.ext bd) ?_;have U:=ae.trans bd;have bb:=J.ext U;have bg:=bb.fst.own q lq;rw[if_neg (show¬ q<q by omega)]at bg;refine nop ?_;refine apb (base:=w6.heap.size) EI bg (cm.rd (n:=1) rfl) (λu hu=>by rw[List.mem_singleton.1 hu];rfl) (by unfold maxLen;omega) om ?_ ?_
  .have h1:=D.size;have h2:=G.size;have h3:=a5.size;have h4:=U.size;omega
  intro c4 e9 bf ah bh;refine ρ ?_;refine Ja (GrN.by ah λj ej=>by rw[<-a8]at ej;exact ej) ?_;have er:Je (nz (fs q))++[.int .i64 (nn:Int)]=Je (nz (fs q++[nn])):=by simp[Je,nz]
  have el:(fs q).length+1=(fs q++[nn]).length:=by simp
  rw[er,el]at bf;obtain⟨c1,c2,c3,e3,cn⟩:=bb.setF lq bf ah bh;have e1:=Zg bb.lev (bb.fst.own q lq) ah rfl;refine ρn ?_;refine Yp 2 q (Rd.own e1) lq ?_;refine ρn ?_;refine Xh ?_;refine sto c1 c2 ?_ (hv:=c3);refine ρ ?_;have du:∀ g,c4.ownBlock=some g->M g:=λg eg=>by
   rcases bh g eg with h'|h'
   .exact bp g (by rw[a8];exact h')
   rw[hM];have h1:=D.size;have h2:=G.size;have h3:=a5.size;have h4:=U.size;have h5:=a2.lt;exact⟨om,by rw[b7];exact .inr om,om⟩
  refine Jl (q+1) (upd ab q c4) sO ⟨om,e3.congr (λl O=>rfl) (λl O=>?_),?_,Jtz (M:=M) ai lq du⟩ om
  .by_cases e:l=q
   .subst e;rw[Ju,if_pos (show l<l+1 by omega),ce]
   rw[Jm _ _ e];by_cases e2:l<q
   .rw[if_pos e2,if_pos (show l<q+1 by omega)]
   rw[if_neg e2,if_neg (show¬ l<q+1 by omega)]
  exact((a5.trans (GrN.ext U)).trans (GrN.by ah λj ej=>bp j (by rw[a8];exact ej))).trans (GrN.by cn λj ej=>ai j (.inl ej))
 have eq:q=d:=by have:=oF h;omega
 subst eq;have cw:=Jb a2 o b4;have cx:=Jb cy o cq;refine Qq cw ?_;refine Qb cx ?_ (one1 (A:=A) (n:=q) (c:=q));intro bz bv ay ae;refine ρ ?_;have bl:Ext w am:=o.old bm λj Z=>by rw[hM]at Z;exact nL ap.size Z.1
 refine Vz bv ⟨ae w bl (nL cb.size dj),_,rfl,⟨A,rfl⟩,?_⟩;have cd:=bc.off (N:=λj=>j<w.heap.size∨j=b2) (λl O=>?_) (λj Z av=>?_)
 .refine(cd.grown ay (λj ej=>.inr (by injection ej with ej;exact ej.symm))).mono λj _ Z=>.inl Z
 .rw[if_pos (show l<q by omega),if_pos O,Jzk];exact(aj l O).close
 have h1:=ai j Z;rcases av with h'|h'
 .rw[hM]at h1;have:=ap.size;omega
 subst h';exact cq h1
end Go.Proofs.YtgobkbeokaaplaaGreatDoor
