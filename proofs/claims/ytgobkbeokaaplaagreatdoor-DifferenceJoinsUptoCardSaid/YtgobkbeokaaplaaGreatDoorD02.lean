/- Part 2. -/
import Derived.Test.YtgobkbeokaaplaaGreatDoorD01
import Derived.Laws.CopyRow
set_option linter.unusedVariables false
set_option maxRecDepth 100000
set_option maxHeartbeats 40000000
namespace Go.Proofs.YtgobkbeokaaplaaGreatDoor
open Go.RowKit Pl Go.Wk
attribute [local irreducible] WC WL QX WD WDB WP
variable {r:List V}{N N':Nat->Prop}{w:World}
def RowX(w:World)(N:Nat->Prop)(v:Value)(r:List V): Prop:=∃ A c,v=.slice A r.length c/\r.length<=c/\r.length<=1100000/\RdR w A r/\(r≠[]->∀ ad,A=some ad->¬ N ad.block)
def one(g:Option Nat)(k:Nat): Prop:=g=some k
theorem RowX.v{v:Value}(h:RowX w N v r): RowV w v r:=by
 obtain⟨A,c,D,u,j,i,_⟩:=h;exact⟨A,c,D,u,j,i⟩
theorem RowX.ext{w w':World}{N:Nat->Prop}{v:Value}{r:List V}(h:RowX w N v r)(hx:Ext w w'): RowX w' N v r:=by
 obtain⟨A,c,G,D,u,j,i⟩:=h;exact⟨A,c,G,D,u,j.ext hx,i⟩
theorem RowX.mono{v:Value}(h:RowX w N v r)(hN:∀ k,k<w.heap.size->N' k->N k): RowX w N' v r:=by
 obtain⟨A,c,G,D,u,j,i⟩:=h;refine⟨A,c,G,D,u,j,λh0 J e hn=>i h0 J e (hN _ ?_ hn)⟩;grind [Rd.isome,List.length_pos_iff.2]
theorem RowX.grown{w w':World}{N:Nat->Prop}{g:Option Nat}{v:Value}{r:List V}(h:RowX w N v r)(hg:w.grownBy w' g)(hN:∀ k,g=some k->N k): RowX w' N v r:=by
 obtain⟨A,c,D,u,j,G,i⟩:=h;refine⟨A,c,D,u,j,?_,i⟩;by_cases h0:r=[]
 .subst h0;exact Rd.nil
 repeat grind [Rd.grown]
theorem RowX.nil(w:World)(N:Nat->Prop): RowX w N (.slice none 0 0) []:=⟨none,0,rfl,by simp,by simp,Rd.nil,λh=>absurd rfl h⟩
theorem RowV.off{v:Value}(h:RowV w v r)(hg:∀ k,N k->w.heap.size<=k): RowX w N v r:=by
 obtain⟨A,c,D,u,j,i⟩:=h;refine⟨A,c,D,u,j,i,λh0 J e G=>?_⟩;grind [Rd.isome,List.length_pos_iff.2]
def RowsV(w:World)(v:Value)(ls:List (List V)): Prop:=∃(ps:List Pr) (A:Option Addr) (c:Nat),ls=ps.map (·.2)/\v=.slice A ps.length c/\ps.length<=c/\ps.length<=1100000/\Rd w 1 A ps.length (ps.map (·.1))/\∀ p∈ps,RowV w p.1 p.2
theorem RowsV.ext{w w':World}{v:Value}{ls:List (List V)}(h:RowsV w v ls)(hx:Ext w w'): RowsV w' v ls:=by
 obtain⟨ps,A,c,J,G,D,u,j,i⟩:=h;exact⟨ps,A,c,J,G,D,u,j.ext hx,λp hp=>(i p hp).ext hx⟩
theorem RowsV.nil(w:World)(A:Option Addr)(c:Nat): RowsV w (.slice A 0 c) []:=⟨[],A,c,rfl,rfl,by simp,by simp,Rd.nil,λp hp=>by cases hp⟩
theorem RowV.one{v:Value}(h:RowV w v r): v.oneCell'=true:=by obtain⟨A,c,rfl,_⟩:=h;rfl
theorem Ye{v:Value}(h:RowV w v r)(N:Nat->Prop)(hg:∀ k,N k->k<w.heap.size):
  Ret Tryz.prog 131 [v] w λv' w'=>RowX w' N v' r/\Ext w w':=by
 obtain⟨A,c,rfl,Z,h3,O⟩:=h;refine enE Tryz.func131 Tryz.ntmps131 ?_;refine ρ ?_;refine Jxn ?_;refine ciR (λh=>?_) (λh=>?_)
 .have hA:A=none:=by simpa using h
  subst hA;have hn:r.length=0:=by
   rcases Nat.eq_zero_or_pos r.length with h0|h0
   .exact h0
   obtain⟨ad,Z,_⟩:=O.isome h0 om;cases Z
  obtain rfl:=List.eq_nil_of_length_eq_zero hn;refine ρ ?_;exact Jj ⟨RowX.nil w N,Ext.refl w⟩
 refine Qv Jqx ?_;intro w1 b j J G;refine ρ ?_;refine apo j EV (G.own (n:=0) J rfl (Nat.zero_le _)) (O.ext j) (Jbf r) (by unfold maxLen;omega) om ?_;intro v2 w2 i D _ _;obtain⟨A2,c2,rfl,u,hf⟩:=Jy i;refine ρ ?_;rw[Nat.zero_add]at i u ⊢;refine Jj ⟨⟨A2,c2,rfl,u,h3,Rd.own i,λ_ ad e=>?_⟩,D⟩;subst e;intro e2;have h4:=hg _ e2;have h5:=(hf ad.block rfl).1;omega
theorem Pr.rep(n:Nat): (List.replicate n ((.slice none 0 0,[]):Pr)).map (·.1)=List.replicate n (.slice none 0 0):=by simp
def Srt(ds:List Bool)(ls:List (List V)): Prop:=ls.Pairwise λa b=>Jw a b ds<=0
theorem Jff{ds:List Bool}{ps:List Pr}(h:SOn z0 (fP ds) ps 0 ps.length): Srt ds (ps.map (·.2)):=by
 unfold Srt;rw[List.pairwise_map,List.pairwise_iff_getElem];intro i j hi D u;have:=h i j (Nat.zero_le _) u D;rw[Qd z0 ps hi,Qd z0 ps D]at this;exact this
end Go.Proofs.YtgobkbeokaaplaaGreatDoor
namespace Go.Proofs.YtgobkbeokaaplaaGreatDoor
open Pl
variable {ds:List Bool}{i j k:Nat}
abbrev Row:= List V
def Lt(ds:List Bool)(ls:List Row): Prop:=ls.Pairwise λa b=>Jw a b ds<0
def IsSet(ds:List Bool)(ls m:List Row): Prop:=Lt ds m/\∀ x,x∈m↔x∈ls
theorem Jqj(ds:List Bool)(a:Row): ¬ Jw a a ds<0:=by rw[Ya];omega
theorem Qxf{a b:Row}(h:Jw a b ds<0): ¬ Jw b a ds<0:=by grind [Jmm]
theorem Jjv{ds:List Bool}: ∀ {l m:List Row},Lt ds l->Lt ds m->(∀ x,x∈l↔x∈m)->l=m
 | [],[],_,_,_=>rfl
 | [],b::m,_,_,h=>absurd ((h b).2 (List.mem_cons_self ..)) (by simp)
 | a::l,[],_,_,h=>absurd ((h a).1 (List.mem_cons_self ..)) (by simp)
 | a::l,b::m,h1,h2,h=>by
  have p1:=List.pairwise_cons.1 h1;have p2:=List.pairwise_cons.1 h2;have hab:a=b:=by
   rcases List.mem_cons.1 ((h a).1 (List.mem_cons_self ..)) with e|e
   .exact e
   rcases List.mem_cons.1 ((h b).2 (List.mem_cons_self ..)) with e2|e2
   .exact e2.symm
   exact absurd (p1.1 _ e2) (Qxf (p2.1 _ e))
  subst hab;congr 1
  refine Jjv p1.2 p2.2 λx=>?_;have hx:=h x;constructor
  .intro hm;rcases List.mem_cons.1 (hx.1 (List.mem_cons_of_mem _ hm)) with e|e
   .subst e;exact absurd (p1.1 _ hm) (Jqj ds x)
   exact e
  intro hm;rcases List.mem_cons.1 (hx.2 (List.mem_cons_of_mem _ hm)) with e|e
  .subst e;exact absurd (p2.1 _ hm) (Jqj ds x)
  exact e
theorem IsSet.uniq{ls m m':List Row}(h:IsSet ds ls m)(h':IsSet ds ls m'): m=m':=Jjv h.1 h'.1 λx=>(h.2 x).trans (h'.2 x).symm
def ddS(out:List Row)(x:Row): List Row:=if out.getLast?=some x then out else out++[x]
def ddF(l:List Row): List Row:=l.foldl ddS []
theorem Jmb(l:List Row)(x:Row): ddF (l++[x])=ddS (ddF l) x:=by simp[ddF,List.foldl_append]
theorem Qkq(out:List Row)(x:Row): (ddS out x).getLast?=some x:=by
 unfold ddS;split
 .assumption
 simp
theorem getLast_mem'{l:List Row}{x:Row}(h:l.getLast?=some x): x∈l:=by grind
theorem Jlx{ds:List Bool}: ∀(l out:List Row),Lt ds out->(∀ a∈out,∀ b∈l,Jw a b ds<=0)->Srt ds l->Lt ds (l.foldl ddS out)/\∀ x,x∈l.foldl ddS out↔(x∈out∨x∈l)
 | [],out,h,_,_=>⟨h,λx=>by simp⟩
 | y::l,out,h,hle,hs=>by
  have p:=List.pairwise_cons.1 hs;simp only[List.foldl_cons];by_cases e:out.getLast?=some y
  .have hy:=getLast_mem' e;have e1:ddS out y=out:=by grind [ddS]
   rw[e1];obtain⟨k1,k2⟩:=Jlx l out h (λa ha b hb=>hle a ha b (List.mem_cons_of_mem _ hb)) p.2;grind
  have e1:ddS out y=out++[y]:=by unfold ddS;rw[if_neg e]
  rw[e1];have hlt:∀ a∈out,Jw a y ds<0:=by
   intro a ha;have h1:=hle a ha y (List.mem_cons_self ..);rcases Int.lt_or_eq_of_le h1 with h2|h2
   .exact h2
   exfalso
   have:=Jkd _ _ _ h2;subst this
   -- a is in out,and everything in out is below a;so a is the last
   obtain⟨z,hz⟩:∃ z,out.getLast?=some z:=by grind
   rw[List.getLast?_eq_some_iff]at hz;obtain⟨ys,rfl⟩:=hz;rcases List.mem_append.1 ha with h3|h3
   .have h4:=(List.pairwise_append.1 h).2.2 _ h3 z (by simp);have h5:=hle z (by simp) a (List.mem_cons_self ..);exact absurd ((Ka ds).lt_le h4 h5) (Jqj ds a)
   repeat grind
  obtain⟨k1,k2⟩:=Jlx l (out++[y]) (List.pairwise_append.2 ⟨h,List.pairwise_singleton _ _,λa ha b hb=>by grind⟩) (λa ha b hb=>by grind) p.2;grind
theorem Qkp: ∀(l out:List Row),(l.foldl ddS out).length<=out.length+l.length
 | [],out=>by simp
 | y::l,out=>by
  simp only[List.foldl_cons];have:=Qkp l (ddS out y);have h2:(ddS out y).length<=out.length+1:=by unfold ddS;split<;>simp
  grind
theorem Jqt(l:List Row): (ddF l).length<=l.length:=by grind [Qkp,ddF]
theorem Jmc{l:List Row}(h:Srt ds l): IsSet ds l (ddF l):=by
 obtain⟨u,j⟩:=Jlx l [] List.Pairwise.nil (λa i=>by cases i) h;exact⟨u,λx=>(j x).trans (by simp)⟩
theorem Jlz{l:List Row}(hk:k<l.length): ddF (l.take (k+1))=if k≠0/\l.getD (k-1) []=l.getD k [] then ddF (l.take k) else ddF (l.take k)++[l.getD k []]:=by
 rw[List.take_succ_eq_append_getElem hk,Jmb,<-Qd [] l hk];unfold ddS;by_cases h0:k=0
 .grind [ddF]
 have i:k-1<l.length:=om
 have e:ddF (l.take k)=ddS (ddF (l.take (k-1))) (l.getD (k-1) []):=by
  have:=List.take_succ_eq_append_getElem i;grind [Jmb,Qd]
 grind [Qkq]
def cnt(ds:List Bool)(l:List Row)(r:Row): Nat:=(l.filter λx=>decide (Jw x r ds<0)).length
theorem Jcq(ds:List Bool)(l:List Row)(r:Row): cnt ds l r<=l.length:=List.length_filter_le _ _
theorem Lt.at{l:List Row}(h:Lt ds l)(hij:i<j)(hj:j<l.length): Jw (l.getD i []) (l.getD j []) ds<0:=by
 have:=List.pairwise_iff_getElem.1 h i j om hj hij;grind
theorem Qwb{l:List Row}{r:Row}(hk:k<=l.length)(hlo:∀ i,i<k->Jw (l.getD i []) r ds<0)(hhi:∀ i,k<=i->i<l.length->¬ Jw (l.getD i []) r ds<0): cnt ds l r=k:=by
 unfold cnt;have e:l=l.take k++l.drop k:=(List.take_append_drop k l).symm;rw[e,List.filter_append,List.length_append];have G:(l.take k).filter (λx=>decide (Jw x r ds<0))=l.take k:=by grind [List.filter_eq_self,List.getElem_of_mem,Qd]
 have D:(l.drop k).filter (λx=>decide (Jw x r ds<0))=[]:=by
  rw[List.filter_eq_nil_iff];intro x j;obtain⟨i,hi,rfl⟩:=List.getElem_of_mem j;have u:k+i<l.length:=by simp at hi;omega
  grind
 grind
theorem Jgj{l:List Row}(h:Lt ds l){r:Row}(hk:k<=l.length)(hlo:k=0∨Jw (l.getD (k-1) []) r ds<0)(hhi:k=l.length∨¬ Jw (l.getD k []) r ds<0):
  cnt ds l r=k/\(r∈l↔k<l.length/\l.getD k []=r):=by
 have lo:∀ i,i<k->Jw (l.getD i []) r ds<0:=λi hi=>by
  rcases hlo with h0|h0
  .omega
  by_cases e:i=k-1
  .rw[e];exact h0
  exact(Ka ds).lt_trans (h.at (i:=i) (j:=k-1) om om) h0
 have hi:∀ i,k<=i->i<l.length->¬ Jw (l.getD i []) r ds<0:=λi u J=>by
  rcases hhi with h0|h0
  .omega
  by_cases e:i=k
  .rw[e];exact h0
  exactλh3=>h0 ((Ka ds).lt_trans (h.at (i:=k) (j:=i) om J) h3)
 refine⟨Qwb hk lo hi,λO=>?_,λ⟨u,J⟩=>?_⟩
 .obtain⟨j,D,G⟩:=List.getElem_of_mem O;rw[<-Qd [] l D]at G;have Z:k<=j:=by grind [Nat.lt_or_ge,Jqj]
  have:j=k:=by
   rcases Nat.lt_or_ge k j with u|u
   .exact absurd (G ▸ h.at u D) (hi k (nR _) om)
   omega
  grind
 repeat grind
theorem Jvq{l:List Row}(h:Lt ds l)(hi:i<l.length): cnt ds l (l.getD i [])=i:=by
 refine(Jgj h (Nat.le_of_lt hi) ?_ (.inr (Jqj _ _))).1;by_cases h0:i=0
 .exact .inl h0
 exact .inr (h.at om hi)
def Zs(ds:List Bool)(l:List Row)(r:Row): List Row:=if r∈l then l else l.take (cnt ds l r)++r::l.drop (cnt ds l r)
theorem Qlv{l ls:List Row}{r:Row}(h:IsSet ds ls l): IsSet ds (ls++[r]) (Zs ds l r):=by
 unfold Zs;split
 .rename_i hm;refine⟨h.1,λx=>?_⟩;rw[List.mem_append,List.mem_singleton,<-h.2 x];grind
 rename_i hm;have a1:=Jcq ds l r
 -- what is below the place is smaller,what is above is greater
 have O:∃ k,cnt ds l r=k/\k<=l.length/\(∀ i,i<k->Jw (l.getD i []) r ds<0)/\(∀ i,k<=i->i<l.length->¬ Jw (l.getD i []) r ds<0):=by
  have ex:∀ n,n<=l.length->∃ k,k<=n/\(∀ i,i<k->Jw (l.getD i []) r ds<0)/\(k=n∨¬ Jw (l.getD k []) r ds<0):=by
   intro n;induction n with
   | zero=>exactλ_=>⟨0,Nat.le_refl _,λi hi=>om,.inl rfl⟩
   | succ n ih=>
    grind
  obtain⟨k,k1,k2,D⟩:=ex l.length (nR _);have hi:∀ i,k<=i->i<l.length->¬ Jw (l.getD i []) r ds<0:=λi h1 h2=>by
   rcases D with D|D
   .omega
   by_cases e:i=k
   .rw[e];exact D
   exactλh3=>D ((Ka ds).lt_trans (h.1.at (i:=k) (j:=i) om h2) h3)
  grind [Qwb]
 obtain⟨k,hk,k1,k2,D⟩:=O;rw[hk];have G:=h.1;refine⟨?_,λx=>?_⟩
 .unfold Lt at G ⊢;rw[List.pairwise_append];refine⟨G.sublist (List.take_sublist _ _),List.pairwise_cons.2 ⟨λb J=>?_,G.sublist (List.drop_sublist _ _)⟩,λa ha b J=>?_⟩
  .obtain⟨i,hi,rfl⟩:=List.getElem_of_mem J;have u:k+i<l.length:=by simp at hi;omega
   have:=D (k+i) om u;rw[Qd [] l u]at this;rw[List.getElem_drop];rcases(Ka ds).tot l[k+i] r with e|e|e
   repeat grind
  obtain⟨i,hi,rfl⟩:=List.getElem_of_mem ha;have u:i<k:=by simp at hi;omega
  have h1:=k2 i u;rw[Qd [] l om]at h1;rw[List.getElem_take];rcases List.mem_cons.1 J with rfl|J
  .exact h1
  obtain⟨j,hj,rfl⟩:=List.getElem_of_mem J;have Z:k+j<l.length:=by simp at hj;omega
  rw[List.getElem_drop];have:=h.1.at (i:=i) (j:=k+j) om Z;grind
 rw[List.mem_append,List.mem_cons,List.mem_append,List.mem_singleton,<-h.2 x];grind [List.take_append_drop]
open Go.RowKit Pl Go.Wk _root_.Go.Proofs.Tryz
attribute [local irreducible] WC WL QX WD WDB WP
variable {ds:List Bool}{ls:List Row}{b b1 b2 b3 base d i n ty:Nat}{r:Row}{fv v vd vr vs:Value}{a w:World}
theorem Jjj(v:Value)(w:World)(A:Option Addr)(n c:Nat)(hv:v=.slice A n c): (Instr.buildSlice 95 1 #[(0,v)]).run prog w=.ok (.slice (some ⟨w.heap.size,0,none⟩) 1 1) (w.alloc (.cells [v].toArray 59)):=by
 subst hv;kernel_rfl
theorem Jqk{ps:List Pr}: (ps.map (·.2)).getD i []=(ps.getD i z0).2:=by
 simp only[List.getD,List.getElem?_map];cases ps[i]?<;>rfl
def own(base:Nat)(v:Value)(k:Nat): Prop:=k<base∨v.ownBlock=some k
def OwnR(w:World)(base:Nat)(v:Value)(ls:List Row): Prop:=∃ ps:List Pr,ls=ps.map (·.2)/\w.ownsRow base 59 1 v ps.length (ps.map (·.1))/\∀ p∈ps,RowX w (own base v) p.1 p.2
theorem OwnR.nil(w:World)(base:Nat): OwnR w base (.slice none 0 0) []:=⟨[],rfl,Zw _ _ _ _,λp hp=>by cases hp⟩
theorem OwnR.ext{w w':World}{base:Nat}{v:Value}{ls:List Row}(h:OwnR w base v ls)(hx:Ext w w'): OwnR w' base v ls:=by
 obtain⟨ps,u,j,i⟩:=h;exact⟨ps,u,Jk j hx,λp hp=>(i p hp).ext hx⟩
theorem OwnR.rows(h:OwnR w base v ls)(hm:ls.length<=1100000): RowsV w v ls:=by
 obtain⟨ps,rfl,i,u⟩:=h;obtain⟨A,c,rfl,j,_⟩:=Jy i;exact⟨ps,A,c,rfl,rfl,j,by simpa using hm,Rd.own i,λp hp=>(u p hp).v⟩
theorem OwnR.form(h:OwnR w base v ls): ∃ A c,v=.slice A ls.length c:=by
 obtain⟨ps,rfl,j,i⟩:=h;grind [Jy]
theorem OwnR.lt(h:OwnR w base v ls): ∀ k,v.ownBlock=some k->base<=k/\k<w.heap.size:=by
 obtain⟨ps,rfl,j,i⟩:=h;grind [Jy]
theorem OwnR.grown{w w':World}{base g:Nat}{v:Value}{ls:List Row}(h:OwnR w base v ls)(hg:w.grownBy w' (some g))(hb:g<base): OwnR w' base v ls:=by
 obtain⟨ps,u,j,i⟩:=id h;refine⟨ps,u,World.ownsRow.kept j hg ?_,λp hp=>(i p hp).grown hg (λk D=>.inl (by grind))⟩;cases hv:v.ownBlock with
 | none=>exact .inl rfl
 | some k=>exact .inr (λe=>by injection e with e;have:=(h.lt k hv).1;omega)
theorem appR{P:Program}{al:AL}{Q:Exit->Act->World->Prop}{ops:Array Oper}{rest:List Oper}{pos:String}{aft:Array Edge}(hxa:Ext a w){x y:Operand}(hE:ElT P 95 59 1 24 (.slice none 0 0))(ho:OwnR w a.heap.size v ls)(hb:Blk w b 59 [vr])(hr:RowX w (own a.heap.size v) vr r)(hm:ls.length<=1100000)(kk:∀ v' w',OwnR w' a.heap.size v' (ls++[r])->Ext a w'->w.grownBy w' v.ownBlock->WL P n ops Q rest ((d,v')::al) w')(hx:ev al x=some v:=by rfl)(hy:ev al y=some (.slice (some ⟨b,0,none⟩) 1 1):=by rfl)(hd:Nat.blt d n=true:=by rfl):
  WL P n ops Q (⟨some d,.call { callee:=.builtin .append,args:=#[x,y],argTypes:=#[95,95] },ty,pos,aft,none⟩::rest) al w:=by
 obtain⟨ps,rfl,h2,h3⟩:=ho;have G:vr.oneCell'=true:=hr.v.one;refine apo hxa hE h2 hb.one (λu hu=>by grind) (by unfold maxLen;simp at hm;omega) (by simp at hm;omega) ?_ hx hy hd;intro v' w' Z j i D;have J:∀(p:Pr),RowX w (own a.heap.size v) p.1 p.2->RowX w' (own a.heap.size v') p.1 p.2:=λp hp=>by
  have h1:=hp.mono (N':=λk=>own a.heap.size v k∨own a.heap.size v' k) (λk O h=>by
   rcases h with h|h|h
   .exact h
   .exact .inl h
   rcases D k h with h4|h4
   .exact .inr h4
   omega)
  obtain⟨A,c,e1,e2,e3,e4,e5⟩:=h1.grown i (λk O=>.inl (.inr O));exact⟨A,c,e1,e2,e3,e4,λh0 ad e hn=>e5 h0 ad e (.inr hn)⟩
 refine kk v' w' ⟨ps++[(vr,r)],by simp,?_,λp hp=>?_⟩ j i;repeat grind
theorem half(i j:Nat)(h:i+j<=4400000): IntKind.i64.wrap ((IntKind.u64.wrap ((i:Int)+(j:Int))).fdiv (2^min (1:Int).toNat IntKind.u64.bits))=(((i+j) / 2:Nat):Int):=by
 have e:(2:Int)^min (1:Int).toNat IntKind.u64.bits=((2:Nat):Int):=by decide
 have u:IntKind.u64.wrap ((i:Int)+(j:Int))=((i+j:Nat):Int):=by rw[IntKind.wrap_u64];omega
 rw[e,u,Int.fdiv_eq_ediv_of_nonneg _ om,IntKind.wrap_i64];omega
def TestF(w:World)(fv:Value)(n:Nat)(pr:Nat->Bool): Prop:=∃ fid first cap,fv=.func (.func fid) first cap /\
 ∀ w',Ext w w'->∀ i:Nat,i<n->Ret prog fid (first.toList++[.int .i64 (i:Int)]++cap.toList) w' λr w''=>r=.bool (pr i)/\Ext w' w''
theorem Qgf{pr:Nat->Bool}(hT:TestF w fv n pr)(hn:n<=1100000):
  Ret prog 286 [.int .i64 (n:Int),fv] w λv w'=>(∃ k:Nat,v=.int .i64 (k:Int)/\k<=n/\(k=0∨pr (k-1)=false)/\(k=n∨pr k=true))/\Ext w w':=by
 obtain⟨J,first,O,rfl,hT⟩:=hT;refine enE func286 ntmps286 ?_;refine ρ ?_;refine Jo (fun (i j:Nat)=>[(1,.func (.func J) first O),(5,.int .i64 (i:Int)),(6,.int .i64 (j:Int))])
  (λi j w'=>i<=j/\j<=n/\(i=0∨pr (i-1)=false)/\(j=n∨pr j=true)/\Ext w w') (λi j=>j-i) 0 n sB ⟨Nat.zero_le _,Nat.le_refl _,.inl rfl,.inl rfl,Ext.refl w⟩ ?_
 rintro i j w1 ⟨h1,h2,h3,Z,u⟩;refine ciR (λh=>?_) (λh=>?_)
 .have G:i<j:=by have:=oT h;omega
  refine ρ ?_;refine Uj rfl rfl (by decide) rfl ?_;refine ρ ?_;rw[half i j om];generalize hc:(i+j) / 2=k
  refine clv (hT _ u k om) ?_;rintro r w2 ⟨rfl,D⟩;refine ciR (λh=>?_) (λh=>?_)
  .have hp:pr k=false:=by simpa using h
   refine ρ ?_;exact Jl (k+1) j sO ⟨om,h2,.inr (by rw[Nat.add_sub_cancel];exact hp),Z,u.trans D⟩ om
  have hp:pr k=true:=by simpa using h
  refine ρ ?_;exact Jl i k sO ⟨om,om,h3,.inr hp,u.trans D⟩ om
 have G:i=j:=by have:=oF h;omega
 subst G;refine ρ ?_;exact Jj ⟨⟨i,rfl,h2,h3,Z⟩,u⟩
theorem RowsV.parts(h:RowsV w v ls): ∃ A c,v=.slice A ls.length c/\ls.length<=c/\ls.length<=1100000/\∃ cs:List Value,Rd w 1 A ls.length cs/\∀ i,i<ls.length->∃ u,cs[i]?=some u/\RowV w u (ls.getD i []):=by
 obtain⟨ps,A,c,rfl,rfl,G,D,j,J⟩:=h;refine⟨A,c,by simp,by simpa using G,by simpa using D,ps.map (·.1),by simpa using j,λi hi=>?_⟩
 grind [Uk,Jqk,getD_mem',z0]
theorem Qgn(hs:RowsV w vs ls)(hr:RowV w vr r)(hd:BoolsV w vd ds)(hk1:Blk w b1 95 [vs])(hk2:Blk w b2 59 [vr])(hk3:Blk w b3 25 [vd])(hi:i<ls.length):
  Ret prog 287 [.int .i64 (i:Int),.pointer (some ⟨b1,0,none⟩),.pointer (some ⟨b2,0,none⟩),.pointer (some ⟨b3,0,none⟩)] w λv w'=>v=.bool (decide (0<=Jw (ls.getD i []) r ds))/\Ext w w':=by
 have j:Ext w w.drew:=(Ext.refl w).drew;obtain⟨A,c,rfl,hc,hm,cs,G,O⟩:=(hs.ext j).parts;obtain⟨u,Z,J⟩:=O i hi;refine enE func287 ntmps287 ?_;refine drR (scq 9 [6]) ?_;refine dld ((hk1.ext j).at (i:=0) rfl) ?_;refine Jb i G hi ?_;refine Jz (G.cell Z) ?_;refine Jz ((hk2.ext j).at (i:=0) rfl) ?_;refine Jz ((hk3.ext j).at (i:=0) rfl) ?_;refine Jh (Jmg J (hr.ext j) (hd.ext j)) ?_;rintro x w1 ⟨rfl,D⟩;refine⟨D,?_⟩;refine ρd ?_;refine ρ ?_;exact Jj ⟨rfl,j.trans D⟩
theorem Qhq(hs:RowsV w vs ls)(hr:RowV w vr r)(hd:BoolsV w vd ds)(hlt:Lt ds ls):
  Ret prog 285 [vs,vr,vd] w λv w'=>v=.tuple #[.int .i64 (cnt ds ls r:Int),.bool (decide (r∈ls))]/\Ext w w':=by
 refine enE func285 ntmps285 ?_;obtain⟨A,c,rfl,hc,hm,cs,a8,af⟩:=hs.parts;obtain⟨B,bc,rfl,_⟩:=id hr;obtain⟨D,dc,rfl,_⟩:=id hd;refine bxR ?_;intro w1 b1 a9 ai j;refine bxR ?_;intro w2 b2 a7 ah O;refine bxR ?_;intro w3 b3 a5 ag ad;have j:=(j.ext a7).ext a5;have O:=O.ext a5;have hx:=(a9.trans a7).trans a5;refine ldR (j.at (i:=0) rfl) ?_;refine clR (Qgf (n:=ls.length) (pr:=λi=>decide (0<=Jw (ls.getD i []) r ds)) ⟨_,_,_,rfl,λw' J i hi=>Qgn (hs.ext (hx.trans J)) (hr.ext (hx.trans J)) (hd.ext (hx.trans J)) (j.ext J) (O.ext J) (ad.ext J) hi⟩ hm) ?_;rintro v w4 ⟨⟨k,rfl,ac,ab,ae⟩,a4⟩;obtain⟨a3,a2⟩:=Jgj hlt ac (r:=r) (ab.imp id λh=>by have:=oF h;omega) (ae.imp id λh=>by have:=oT h;omega);have j:=j.ext a4;have O:=O.ext a4;refine drR (scq 15 [11]) ?_;have a1:Ext w4 w4.drew:=(Ext.refl w4).drew;have G:=(hx.trans a4).trans a1;refine Jz ((j.ext a1).at (i:=0) rfl) ?_
 refine ρd ?_;refine dki 18 (λh=>?_) (λh=>?_)
 .have Z:k<ls.length:=by have:=oT h;omega
  obtain⟨u,hu,aa⟩:=af k Z;refine Jz ((j.ext a1).at (i:=0) rfl) ?_;refine Jb k (a8.ext G) Z ?_;refine Jz ((a8.ext G).cell hu) ?_;refine Jz ((O.ext a1).at (i:=0) rfl) ?_;refine Jh (Jbd (aa.ext G) (hr.ext G)) ?_;rintro x w5 ⟨rfl,a6⟩;refine⟨a6,?_⟩;refine ρd ?_;refine ρ ?_;refine Vx ⟨?_,G.trans a6⟩;have e:decide (r∈ls)=decide (ls.getD k []=r):=by rw[Bool.eq_iff_iff,decide_eq_true_iff,decide_eq_true_iff,a2];simp[Z]
  rw[a3,e]
 have Z:¬ k<ls.length:=by have:=oF h;omega
 refine ρd ?_;refine ρ ?_;refine Vx ⟨?_,G⟩;have e:decide (r∈ls)=false:=by rw[decide_eq_false_iff_not,a2];exactλh=>Z h.1
 rw[a3,e]
open Go.RowKit Pl Go.Wk _root_.Go.Proofs.Tryz
variable {cap first:Array Value}{fid:FuncId}{ds:List Bool}{ps:List Pr}{base c i n:Nat}{A:Option Addr}{row:Option Nat}{w w':World}
theorem Qmp(hD:Dat w base (.slice A n c) ps)(hn:ps.length=n)(hC:CF w (Value.slice A n c).ownBlock fid first cap ps ds)(h12:n<=12){lim:Int}:
  Ret prog 189 [.slice A n c,.int .i64 0,.int .i64 (n:Int),.int .i64 lim,.func (.func fid) first cap] w λv w'=>∃ ps',DP w w' base A n c ps ps'/\SOn z0 (fP ds) ps' 0 n:=by
 refine enE func189 ntmps189 ?_;refine ρ ?_;refine Qf (fun (_:Unit)=>[(0,.slice A n c),(1,.int .i64 0),(2,.int .i64 (n:Int)),(3,.int .i64 lim),(4,.func (.func fid) first cap)]) (λ_ w'=>w'=w) (λ_=>0) () sB rfl ?_;rintro _ w' rfl;refine ctR ?_ ?_
 .exact decide_eq_true om
 refine clR (Jll (a:=0) (ai:=0) (bi:=(n:Int)) hD hn rfl rfl (nR _) om om hC.pack) ?_;rintro v J ⟨i,G,D,u,j⟩;refine ρ ?_;exact Jzv ⟨i,(DP.start hD hn).ins G D j,u⟩
theorem Qgg(hD:Dat w base (.slice A n c) ps)(hn:ps.length=n)(hmx:n<=1100000)(hC:CF w (Value.slice A n c).ownBlock fid first cap ps ds):
  Ret prog 160 [.slice A n c,.func (.func fid) first cap] w λv w'=>∃ ps',DP w w' base A n c ps ps'/\(n<=12->SOn z0 (fP ds) ps' 0 n):=by
 refine enE func160 ntmps160 ?_;refine ρ ?_;refine kv 10 (u:=.int .u64 (n:Int)) (congrArg (Value.int .u64) (Uq om)) ?_;refine cl (Jmx n om w) ?_;rintro v w' ⟨rfl,rfl⟩;refine ρ ?_;have j:Jp n<=48:=Jqn om;by_cases h12:n<=12
 .refine cl (Qmp hD hn hC h12) ?_;rintro v i ⟨q,H,hs⟩;refine ρ ?_;exact Yt ⟨q,H,λ_=>hs⟩
 refine cl (Qmn n (a:=0) (b:=n) (ai:=0) (bi:=(n:Int)) (lim:=(Jp n:Int)) hD hn om hC rfl rfl om (nR _) om om) ?_;rintro v i ⟨q,H⟩;refine ρ ?_;exact Yt ⟨q,H,λh=>absurd h h12⟩
theorem Jsj{α:Type}{z:α}{f:α->α->Int}(hf:PreC f){q:List α}: SOn z f q 0 n↔∀ k,0<k->k<n->¬ f (q.getD k z) (q.getD (k-1) z)<0:=by
 constructor
 .intro h k h0 D u;have:=h (k-1) k om om D;have:=hf.anti (q.getD k z) (q.getD (k-1) z);omega
 intro h i j _ J G;induction j with
 | zero=>omega
 | succ j ih=>
  have O:=h (j+1) om G;have Z:=hf.anti (q.getD (j+1) z) (q.getD j z);simp only[Nat.add_sub_cancel]at O;by_cases e:i=j
  .subst e;omega
  exact hf.trans _ _ _ (ih om om) om
theorem Jxr(hR:Rd w 1 A n (ps.map (·.1)))(hn:ps.length=n)(hi:i<n): w.cell? (adr A i)=some (ps.getD i z0).1:=hR.cell (Uk (hn.symm ▸ hi))
theorem Yu(hn:ps.length=n)(hi:i<n): ps.getD i z0∈ps:=getD_mem' z0 ps (hn.symm ▸ hi)
theorem CF.none(h:CF w row fid first cap ps ds)(hx:Ext w w'){p q:Pr}(hp:p∈ps)(hq:q∈ps):
  Ret prog fid (first.toList++[p.1,q.1]++cap.toList) w' λr w''=>r=.int .i64 (fP ds p q)/\Ext w' w'':=h w' (Vz hx _) p q hp hq
theorem Qsx(hR:Rd w 1 A n (ps.map (·.1)))(hn:ps.length=n)(hmx:n<=1100000)(hC:CF w row fid first cap ps ds):
  Ret prog 159 [.slice A n c,.func (.func fid) first cap] w λv w'=>Ext w w'/\∃ t:Bool,v=.bool t/\(t=true↔SOn z0 (fP ds) ps 0 n):=by
 refine enE func159 ntmps159 ?_;refine ρ ?_;refine Qf (fun (j:Nat)=>[(0,.slice A n c),(1,.func (.func fid) first cap),(5,.int .i64 ((j:Int)-1))]) (λj w'=>Ext w w'/\j<=n/\∀ k,j<=k->0<k->k<n->¬ fP ds (ps.getD k z0) (ps.getD (k-1) z0)<0) (λj=>j) n sO ⟨Ext.refl w,Nat.le_refl _,λk h1 _ h2=>om⟩ ?_;rintro j w1 ⟨hx,hj,hI⟩;refine ciR (λh=>?_) (λh=>?_)
 .have h2:2<=j:=by have:=oT h;omega
  have J:j-1<n:=om
  have D:j-2<n:=om
  refine drR (scq 12 [10]) ?_;have i:Ext w w1.drew:=hx.drew;have u:=hR.ext i;refine Jb (j-1) u J ?_;refine Jz (Jxr u hn J) ?_;refine Jb (j-2) u D ?_;refine Jz (Jxr u hn D) ?_;refine ρd ?_;refine Va (hC.none i (Yu hn J) (Yu hn D)) ?_;rintro r w2 ⟨rfl,G⟩;refine⟨G,?_⟩;refine ρd ?_;refine ciR (λh=>?_) (λh=>?_)
  .refine ρ ?_;refine Jj ⟨i.trans G,false,rfl,⟨λe=>(by cases e),λe=>?_⟩⟩;grind [Jsj,preP]
  refine ρ ?_;refine Qy (j-1) sO ⟨i.trans G,om,λk Z O k3=>?_⟩ om;grind
 refine ρ ?_;have h1:j<=1:=by grind
 exact Jj ⟨hx,true,rfl,⟨λ_=>(Jsj (preP ds)).2 λk Z O=>hI k om Z O,λ_=>rfl⟩⟩
theorem Qmz{P:Program}{t e k bytes:Nat}{z:Value}{xs:List Value}(hE:ElT P t e 1 bytes z)(hz1:z.cells = #[z])(hz2:z.oneCell'=true)(h:w.ownsRow base e 1 (.slice A n c) n xs)(hk:k<=n)(ty:TypeId):
  ∃ w',(Builtin.clear_ #[t] ty #[.slice (if c=k then A else A.map (·.add (k*1))) (n-k) (c-k)]).run P w=.ok (.tuple #[]) w'/\w'.ownsRow base e 1 (.slice A k c) k (xs.take k)/\w.grownBy w' (Value.slice A n c).ownBlock:=by
 obtain⟨i,hi,hz,a1,a3⟩:=hE.info;obtain⟨hl,Z⟩:=h;have a2:xs.length=n:=om
 rcases Nat.eq_or_lt_of_le hk with e0|hlt
 .subst e0;refine⟨w,?_,?_,Vz (Ext.refl w) _⟩
  .rw[Nat.sub_self];generalize (if c=k then A else A.map (·.add (k*1)))=B
   cases B<;>simp[Builtin.clear_,run_underlying hE.sl]
  rw[List.take_of_length_le om];exact⟨hl,Z⟩
 rcases Z with⟨G,h0⟩|⟨g,cap,cur,G,hb,hg,hle,hmx,hcs,hcur⟩
 .omega
 injection G with e1 e2 e3
 subst e1;subst e3;have O:¬ c=k:=om
 rw[if_neg O];have e4:(some (⟨g,0,none⟩:Addr)).map (·.add (k*1))=some ⟨g,k,none⟩:=by simp[Yc]
 rw[e4];have j:=run_storeCells_at (P:=P) g k e (List.replicate (n-k) z) 0 cur w hg (by simp;omega) (λv G=>by grind);refine⟨w.setRow g (cur.toList.take (k+0)++List.replicate (n-k) z++cur.toList.drop (k+0+(List.replicate (n-k) z).length)).toArray,?_,?_,Jqq w g _⟩
 .have J:∃ m,n-k=m+1:=⟨n-k-1,om⟩;obtain⟨m,hm⟩:=J;have u:(Builtin.zeroCells z.cells (n-k)).toList=List.replicate (n-k) z:=by
   rw[hz1];simp only[Builtin.zeroCells];apply List.ext_getElem
   repeat grind
  rw[hm]at j u ⊢;have D:(zeroValue e).run P w=.ok z w:=by simp[zeroValue,typeInfo,hi,hz]
  simp only[Nat.add_zero,List.length_replicate,List.append_assoc]at j ⊢;simp[Builtin.clear_,run_underlying hE.sl,D,u,j]
 simp only[Nat.add_zero,List.length_replicate];refine⟨by grind,.inr ⟨g,c,_,rfl,hb,setRow_heap w g cur _ e _ hg,om,hmx,?_,?_⟩⟩;repeat grind
end Go.Proofs.YtgobkbeokaaplaaGreatDoor
namespace Go.Wk
section
variable {P:Program} {n:Nat} {al:AL} {w:World} {Q:Exit->Act->World->Prop} {ops:Array Oper} {rest:List Oper}
variable {ty:Nat} {pos:String} {aft:Array Edge}
theorem clr{x:Operand}{t:Nat}{v:Value}{w':World}(h:∀ ty,(Builtin.clear_ #[t] ty #[v]).run P w=.ok (.tuple #[]) w')(k:WL P n ops Q rest al w')(hx:ev al x=some v:=by rfl):
  WL P n ops Q (⟨none,.call { callee:=.builtin .clear,args:=#[x],argTypes:=#[t] },ty,pos,aft,none⟩::rest) al w:=λa i=>
 wpList_plain rfl λK j=>by
  unfold Oper.wp;have e:(execOp a.eval ⟨none,.call { callee:=.builtin .clear,args:=#[x],argTypes:=#[t] },ty,pos,aft,none⟩).run P w=.ok (.value (.tuple #[])) w':=by
   simp[execOp,resolve,invoke,builtin,i.ev hx,h ty]
  rw[e,Oper.upon_value];exact j _ _ (k _ i)
end
end Go.Wk
namespace Go.Proofs.YtgobkbeokaaplaaGreatDoor
open Go.RowKit Pl Go.Wk
attribute [local irreducible] WC WL QX WD WDB WP
variable {ps q:List Pr}{base c k n:Nat}{A:Option Addr}{w:World}
def EqF(w:World)(row:Option Nat)(fid:FuncId)(first cap:Array Value)(M:List Pr): Prop :=
 ∀ w',w.grownBy w' row->∀ p q,p∈M->q∈M->Ret Tryz.prog fid (first.toList++[p.1,q.1]++cap.toList) w' λr w''=>r=.bool (decide (p.2=q.2))/\Ext w' w''
theorem Qkr{l:List Row}(h:l.length<2): ddF l=l:=by
 match l with
 | []=>rfl
 | [a]=>rfl
 | _::_::_=>exact absurd h (by simp)
theorem Qs{α:Type}(z:α){l:List α}(h:k<l.length): l.take (k+1)=l.take k++[l.getD k z]:=by grind [List.take_add_one,List.getElem?_eq_getElem,Qd]
theorem Dat.take(hq:q.length=n)(h1:∀ p∈q,p.1.oneCell'=true)(hk:k<=n)(h:w.ownsRow base 59 1 (.slice A k c) k ((q.map (·.1)).take k)): Dat w base (.slice A k c) (q.take k):=by
 refine⟨?_,λp hp=>h1 p (List.mem_of_mem_take hp)⟩;grind [List.length_take,Nat.min_eq_left,List.map_take]
theorem Xxg{fid:FuncId}{first cap:Array Value}(hD:Dat w base (.slice A n c) ps)(hn:ps.length=n)(hmx:n<=1100000)(hnc:n<=c)(hC:EqF w (Value.slice A n c).ownBlock fid first cap ps):
  Ret Tryz.prog 161 [.slice A n c,.func (.func fid) first cap] w λv w'=>∃ ps':List Pr,v=.slice A ps'.length c/\Dat w' base (.slice A ps'.length c) ps'/\ps'.map (·.2)=ddF (ps.map (·.2))/\(∀ p∈ps',p∈ps)/\w.grownBy w' (Value.slice A n c).ownBlock:=by
 refine enE Tryz.func161 Tryz.ntmps161 ?_;obtain⟨ls,ab⟩:∃ ls:List Row,ls=ps.map (·.2):=⟨_,rfl⟩
 have au:ls.length=n:=by rw[ab];simpa using hn
 have u:∀ i,ls.getD i []=(ps.getD i z0).2:=λi=>by rw[ab];exact Jqk
 refine ciR (λh=>?_) (λh=>?_)
 .refine ρ ?_;refine Jj ⟨ps,by rw[hn],by rw[hn];exact hD,?_,λp hp=>hp,Vz (Ext.refl w) _⟩;grind [Qkr]
 have h2:2<=n:=by grind
 clear h;refine ρ ?_;refine Qf (fun (j:Nat)=>[(0,.slice A n c),(1,.func (.func fid) first cap),(5,.int .i64 (j:Int))]) (λj w'=>Ext w w'/\1<=j/\j<=n/\ddF (ls.take j)=ls.take j) (λj=>n-j) 1 sB ⟨Ext.refl w,om,om,Qkr (by rw[List.length_take];omega)⟩ ?_;rintro j w1 ⟨hx,ax,hj,hI⟩;refine ciR (λh=>?_) (λh=>?_);rotate_left
 .have e:j=n:=by have:=oF h;omega
  refine ρ ?_;refine Jj ⟨ps,by rw[hn],by rw[hn];exact hD.ext hx,?_,λp hp=>hp,Vz hx _⟩;grind
 have lj:j<n:=by grind
 have a4:j-1<n:=om
 clear h;refine drR (scq 11 [10]) ?_;have a6:Ext w w1.drew:=hx.drew;have Z:=hD.ext a6;refine Jb j (Z.rd hn) lj ?_;refine Jz (Z.cell hn lj) ?_;refine Jb (j-1) (Z.rd hn) a4 ?_;refine Jz (Z.cell hn a4) ?_;refine ρd ?_;refine Va (hC _ (Vz a6 _) (ps.getD j z0) (ps.getD (j-1) z0) (Yu hn lj) (Yu hn a4)) ?_;rintro r w2 ⟨rfl,a9⟩;refine⟨a9,?_⟩;have a5:=a6.trans a9;refine ρd ?_;refine ρ ?_;have D:=Jlz (l:=ls) (k:=j) om;rw[u,u]at D;refine ci (λh=>?_) (λh=>?_);rotate_left
 .have aa:=oF h;refine ρ ?_;refine Qy (j+1) sO ⟨a5,om,om,?_⟩ om;grind [Qs]
 have af:=oT h;clear h;rw[if_pos ⟨om,af.symm⟩,hI]at D;have aq:=hD.ext a5;refine ρ ?_;refine sll j ?_;refine ρ ?_;refine Xn (fun (k m:Nat) (q:List Pr)=>[(0,.slice A n c),(1,.func (.func fid) first cap),(5,.int .i64 (k:Int)),(6,.slice (if c=j then A else A.map (·.add (j*1))) (n-j) (c-j)),(7,.int .i64 ((m:Int)-(j:Int)))])
  (λk m q w'=>Dat w' base (.slice A n c) q/\q.length=n/\w.grownBy w' (Value.slice A n c).ownBlock/\j<m/\m<=n/\k<m/\(∀ i,k<=i->q.getD i z0=ps.getD i z0)/\(q.take k).map (·.2)=ddF (ls.take m)/\∀ p∈q,p∈ps) (λ_ m _=>n-m) j (j+1) ps sO
  ⟨aq,hn,Vz a5 _,om,om,om,λ_ _=>rfl,by grind [List.map_take],λp hp=>hp⟩ ?_
 rintro k m q w3 ⟨a7,hq,ae,av,hm,hk,ao,an,a1⟩;refine ciR (λh=>?_) (λh=>?_)
 .have am:m<n:=by have:=oT h;omega
  have lm:m-j<n-j:=om
  have ai:m-j-1<n-j:=om
  clear h;refine drR (scq 12 [10]) ?_;have a8:Ext w3 w3.drew:=(Ext.refl w3).drew;have ah:=a7.ext a8;have ad:=Zm ae (Vz a8 _);have G:=(ah.rd hq).drop (k:=j) (c:=c) om hnc;have c1:((q.map (·.1)).drop (j*1))[m-j]?=some (ps.getD m z0).1:=by grind
  have c2:((q.map (·.1)).drop (j*1))[m-j-1]?=some (ps.getD (m-1) z0).1:=by grind
  refine Jb (m-j) G lm ?_;refine Jz (G.cell c1) ?_;refine Jb (m-j-1) G ai ?_;refine Jz (G.cell c2) ?_;refine ρd ?_;refine Va (hC _ ad (ps.getD m z0) (ps.getD (m-1) z0) (Yu hn am) (Yu hn om)) ?_;rintro r w7 ⟨rfl,J⟩;refine⟨J,?_⟩;have O:=ah.ext J;have ac:=Zm ad (Vz J _);have ag:=G.ext J;refine ρd ?_;refine ρ ?_;have D:=Jlz (l:=ls) (k:=m) om;rw[u,u]at D;refine ci (λh=>?_) (λh=>?_)
  .have aa:(ps.getD m z0).2≠(ps.getD (m-1) z0).2:=by simpa using h
   have lk:k<n:=om
   have ar:(q.take k).length=k:=by rw[List.length_take];omega
   refine ixR (m-j) ag lm ?_;refine ldR (ag.cell c1) ?_;refine ixR k (O.rd hq) lk ?_;refine ρ ?_;obtain⟨s1,s2,s3⟩:=O.store hq lk (p:=ps.getD m z0) (hD.one om);refine sto (O.cell hq lk) s1 ?_ (hv:=hD.one om);refine ρ ?_;refine Qt (k+1) (m+1) (q.set k (ps.getD m z0)) sO ⟨s2,by simpa using hq,Zm ac s3,om,om,om,λi hi=>?_,?_,λp hp=>?_⟩ om
   .grind
   .rw[D,if_neg (λe=>aa e.2.symm),<-an,Qs z0 (by simp;omega),Jln z0 _ _ _ _ om,if_pos rfl,List.take_set_of_le (nR _),List.map_append];rfl
   repeat grind
  have af:(ps.getD m z0).2=(ps.getD (m-1) z0).2:=by simpa using h
  refine ρ ?_;refine Qt k (m+1) q sO ⟨O,hq,ac,om,om,om,ao,?_,a1⟩ om;grind
 have e:m=n:=by have:=oF h;omega
 subst e;have a3:=a7.1;rw[hq]at a3;obtain⟨w8,aj,ak,ap⟩:=Qmz (P:=Tryz.prog) (k:=k) ER rfl rfl a3 om 0;refine ρ ?_;refine sll k ?_;refine ρ ?_;refine clr (w':=w8) (λty=>aj) ?_;refine ρ ?_;refine slh k ?_;refine ρ ?_;have a2:(q.take k).length=k:=by rw[List.length_take];omega
 refine Jj ⟨q.take k,by rw[a2],by rw[a2];exact Dat.take hq a7.2 om ak,?_,λp hp=>a1 p (List.mem_of_mem_take hp),Zm ae ap⟩;grind
open Go.RowKit Pl Go.Wk _root_.Go.Proofs.Tryz
variable {ar z:Int}{c n:Nat}{A:Option Addr}{r:Row}{sv v:Value}{w:World}
def Xl(v:V): Bool:=if v.kind=1 then(v.bytes == []) else if v.kind=2 then decide (v.num=0) && decide (v.bytes.length<=24) else false
theorem Jkx(v:V): v.str.size=v.bytes.length:=(Array.length_toList (xs:=v.str.data)).symm
theorem Qfr(v:V): (v.str.toList == (⟨#[]⟩:ByteArray).toList)=(v.bytes == []):=by rw[ByteArray.toList_eq,ByteArray.toList_eq];rfl
theorem Jpz(v:V)(w:World): Ret prog 174 [v.val] w λr w'=>r=.bool (Xl v)/\Ext w w':=by
 refine enE func174 ntmps174 ?_;refine bxR (cs:=v.cells) ?_;intro J b j O u;refine ldR (u.at (i:=0) rfl) ?_;refine ciR (λh=>?_) (λh=>?_)
 .refine ldR (u.at (i:=2) rfl) ?_;refine ρ ?_;refine Jj ⟨?_,j⟩;rw[Xl,if_pos (Zv h),Qfr]
 refine ciR (λD=>?_) (λD=>?_)
 .refine ldR (u.at (i:=1) rfl) ?_;refine ρ ?_;refine ki 15 (λG=>?_) (λG=>?_)
  .refine ldR (u.at (i:=2) rfl) ?_;refine ρ ?_;refine Jj ⟨?_,j⟩;rw[Xl,if_neg (Xo h),if_pos (Zv D),decide_eq_true (Zv G),Jkx,Bool.true_and];congr 1
   grind
  refine ρ ?_;refine Jj ⟨?_,j⟩;rw[Xl,if_neg (Xo h),if_pos (Zv D),decide_eq_false (Xo G)];rfl
 refine ρ ?_;refine Jj ⟨?_,j⟩;rw[Xl,if_neg (Xo h),if_neg (Xo D)]
theorem Qhn(h:RowV w v r): Ret prog 158 [v] w λu w'=>u=.bool (r.all Xl)/\Ext w w':=by
 obtain⟨A,c,rfl,h2,h3,O⟩:=h;refine enE func158 ntmps158 ?_;refine ρ ?_;refine Qf (fun (k:Nat)=>[(0,.slice A r.length c),(5,.int .i64 (r.length:Int)),(6,.int .i64 (k:Int))]) (λk w'=>Ext w w'/\k<=r.length/\(r.take k).all Xl=true) (λk=>r.length-k) 0 sB ⟨Ext.refl w,Nat.zero_le _,rfl⟩ ?_;rintro k w1 ⟨G,hk,hI⟩;refine ciR (λh=>?_) (λh=>?_)
 .have lk:k<r.length:=by have:=oT h;omega
  have D:=O.ext G;refine Qu 3 k D lk ?_;refine Jt (λj u J=>RdR.cell D lk J) ?_;refine clR (Jpz (r.getD k V0) _) ?_;rintro u Z ⟨rfl,i⟩;refine ciR (λh=>?_) (λh=>?_)
  .refine ρ ?_;refine Jj ⟨?_,G.trans i⟩;grind
  refine ρ ?_;have h':Xl (r.getD k V0)=true:=by simpa using h
  refine Qy (k+1) sO ⟨G.trans i,om,?_⟩ om;grind [Qs,V0,lk]
 refine ρ ?_;refine Jj ⟨?_,G⟩;grind
def RelV(w:World)(v:Value)(ar:Nat)(ls:List Row): Prop:=∃ rv,v=.agg #[.int .i64 (ar:Int),rv]/\RowsV w rv ls
theorem RelV.ext{w w':World}{v:Value}{ar:Nat}{ls:List Row}(h:RelV w v ar ls)(hx:Ext w w'): RelV w' v ar ls:=by
 obtain⟨rv,e,h⟩:=h;exact⟨rv,e,h.ext hx⟩
theorem Gm: Qr prog 130=some (.agg #[.int .i64 0,.slice none 0 0]):=kr
theorem Jcv(w:World): (Instr.build 130 #[]).run prog w=.ok (.agg #[.int .i64 0,.slice none 0 0]) w:=kr
theorem Xwc(z:Int)(w:World): (Instr.build 130 #[(0,.int .i64 z)]).run prog w=.ok (.agg #[.int .i64 z,.slice none 0 0]) w:=kr
theorem Xkz(z:Int)(A:Option Addr)(n c:Nat)(w:World): (Instr.build 130 #[(0,.int .i64 z),(1,.slice A n c)]).run prog w=.ok (.agg #[.int .i64 z,.slice A n c]) w:=kr
theorem Yp: ∀ u∈[Value.int .i64 z,.slice A n c],u.oneCell'=true:=by
 intro u i;simp at i;rcases i with rfl|rfl<;>rfl
theorem Qlb(z:Int)(w:World): Ret prog 108 [.int .i64 z] w λv w'=>Ext w w'/\∃ z' e,v=.tuple #[.agg #[.int .i64 z',.slice none 0 0],.int .i64 e]/\(e=0->z'=z)/\(e=0↔0<=z/\z<=32):=by
 refine enE func108 ntmps108 ?_;refine Jv Gm ?_;intro O b u D G;refine ρ ?_;refine Yg (fun (t:Bool)=>[(0,.int .i64 z),(2,.pointer (some ⟨b,0,none⟩)),(9,.bool t)]) (λt w'=>w'=O/\(t=true↔¬ (0<=z/\z<=32))) ?_ ?_
 .refine ki 6 (λh=>?_) (λh=>?_)
  .refine ρ ?_;exact Jf true sB ⟨rfl,by grind⟩
  refine ρ ?_;refine Jf _ sB ⟨rfl,?_⟩;grind
 rintro t w' ⟨rfl,ht⟩;refine ci (λh=>?_) (λh=>?_)
 .refine Zz (Jcv _) ?_;refine Qw G ?_ Yp;intro J j _ i;refine ρ ?_;exact Zn j ⟨i w u D,0,3,rfl,λe=>(by cases e),⟨λe=>(by cases e),λe=>absurd e (ht.1 h)⟩⟩
 refine Zz (Xwc z _) ?_;refine Qw G ?_ (Yp (z:=z) (A:=none) (n:=0) (c:=0));intro J j _ i;refine ρ ?_;refine Zn j ⟨i w u D,z,0,rfl,λ_=>rfl,⟨λ_=>?_,λ_=>rfl⟩⟩;grind
theorem Xvd(hs:sv=.slice A n c)(h:RowV w v r): Ret prog 109 [.agg #[.int .i64 ar,sv],v] w λu w'=>Ext w w'/\∃ e,u=.int .i64 e/\(e=0↔(r.length:Int)=ar/\r.all Xl=true):=by
 subst hs;obtain⟨B,c',rfl,G,h3,hr⟩:=id h;refine enE func109 ntmps109 ?_;refine bxR ?_;intro w1 b j hb J;refine ldR (J.at (i:=0) rfl) ?_;refine ciR (λh=>?_) (λO=>?_)
 .refine ρ ?_;exact Jj ⟨j,6,rfl,⟨λe=>(by cases e),λe=>absurd e.1 (Km h)⟩⟩
 have Z:=Jqf O;refine clR (Qhn (h.ext j)) ?_;rintro u w2 ⟨rfl,D⟩;refine ciR (λh=>?_) (λG=>?_)
 .refine ρ ?_;refine Jj ⟨j.trans D,4,rfl,⟨λe=>(by cases e),λe=>?_⟩⟩;rw[e.2]at h;cases h
 refine ρ ?_;refine Jj ⟨j.trans D,0,rfl,⟨λ_=>⟨Z,by simpa using G⟩,λ_=>rfl⟩⟩
open Go.RowKit Pl Go.Wk
variable {ps:List Pr}{ar base c n:Nat}{N:Nat->Prop}{A:Option Addr}{row:Option Nat}{v:Value}{w:World}
theorem RowX.off{r:Row}(h:RowX w N v r): Off N w (λu=>RowV u v r):=by
 obtain⟨A,c,O,J,G,D,j⟩:=h;intro w' i;refine⟨A,c,O,J,G,Vb D i λh0 Z e=>j (λe'=>?_) Z e⟩;grind [Js]
theorem Qwt(h:∀ p∈ps,Off (one row) w (λu=>RowV u p.1 p.2)): CF w row 90 #[] #[] ps []:=λw' i p q hp j=>
 Jtn (h p hp w' (GrN.by i λk e=>e)) (h q j w' (GrN.by i λk e=>e))
theorem eqRow(h:∀ p∈ps,Off (one row) w (λu=>RowV u p.1 p.2)): EqF w row 32 #[] #[] ps:=λw' i p q hp j=>
 Jbd (h p hp w' (GrN.by i λk e=>e)) (h q j w' (GrN.by i λk e=>e))
theorem ownB(A:Option Addr)(n c m d:Nat): (Value.slice A n c).ownBlock=(Value.slice A m d).ownBlock:=by cases A<;>rfl
theorem Qhh(hD:Dat w base (.slice A n c) ps)(hn:ps.length=n)(hmx:n<=1100000)(hnc:n<=c)(hN:∀ k,(Value.slice A n c).ownBlock=some k->¬ N k)(hr:∀ p∈ps,Off N w (λu=>RowV u p.1 p.2)): Off N w (λu=>RowsV u (.slice A n c) (ps.map (·.2))):=by
 intro w' i;refine⟨ps,A,c,rfl,by rw[hn],om,om,?_,λp hp=>hr p hp w' i⟩;rw[hn];refine Vb (hD.rd hn) i λ_ j e=>?_;subst e;exact hN _ rfl
def RowsP(N:Nat->Prop)(w:World)(v:Value)(ls:List Row): Prop:=∃(ps:List Pr) (A:Option Addr) (c:Nat),ls=ps.map (·.2)/\v=.slice A ps.length c/\ps.length<=c/\ps.length<=1100000/\Off N w (λu=>Rd u 1 A ps.length (ps.map (·.1)))/\∀ p∈ps,Off N w (λu=>RowV u p.1 p.2)
theorem RowsP.off{ls:List Row}(h:RowsP N w v ls): Off N w (λu=>RowsV u v ls):=by
 obtain⟨ps,A,c,Z,O,J,G,D,j⟩:=h;exactλu i=>⟨ps,A,c,Z,O,J,G,D u i,λp hp=>j p hp u i⟩
theorem rowsP(hD:Dat w base (.slice A n c) ps)(hn:ps.length=n)(hmx:n<=1100000)(hnc:n<=c)(hN:∀ k,(Value.slice A n c).ownBlock=some k->¬ N k)(hr:∀ p∈ps,Off N w (λu=>RowV u p.1 p.2)): RowsP N w (.slice A n c) (ps.map (·.2)):=by
 refine⟨ps,A,c,rfl,by rw[hn],om,om,λw' i=>?_,hr⟩;rw[hn];refine Vb (hD.rd hn) i λ_ j e=>?_;subst e;exact hN _ rfl
theorem Qvc(hD:Dat w base (.slice A n c) ps)(hn:ps.length=n)(hmx:n<=1100000)(hnc:n<=c)(hr:∀ p∈ps,Off (one (Value.slice A n c).ownBlock) w (λu=>RowV u p.1 p.2)):
  Ret Tryz.prog 110 [.int .i64 (ar:Int),.slice A n c] w λv w'=>w.grownBy w' (Value.slice A n c).ownBlock/\∃ rv e,v=.tuple #[rv,.int .i64 e]/\(∃ z B m d,rv=.agg #[.int .i64 z,.slice B m d])/\(n<=65536->e=0) /\
   (e=0->∃ m,Off (λk=>k<w.heap.size/\(Value.slice A n c).ownBlock≠some k) w' (λu=>RelV u rv ar m)/\m.length<=65536/\(∀ x∈m,x∈ps.map (·.2))/\((n<=12∨Srt [] (ps.map (·.2)))->IsSet [] (ps.map (·.2)) m)):=by
 refine enE Tryz.func110 Tryz.ntmps110 ?_;refine Jv Gm ?_;intro w1 b a3 hb hB;have av:=hD.ext a3;have ab:∀ p∈ps,Off (one (Value.slice A n c).ownBlock) w1 (λu=>RowV u p.1 p.2):=λp hp=>(hr p hp).ext a3;obtain⟨own,J⟩:∃ own,own=(Value.slice A n c).ownBlock:=⟨_,rfl⟩;have a7:∀ k,own=some k->k<w.heap.size:=λk e=>by
  obtain⟨_,_,_,_,hf⟩:=Jy hD.1;grind
 refine clR (Qsx (av.rd hn) hn hmx (Qwt ab)) ?_;rintro v w2 ⟨a6,t,rfl,ht⟩;refine ρ ?_;refine Zb (fun (q:List Pr)=>[(0,.int .i64 (ar:Int)),(1,.slice A n c),(4,.pointer (some ⟨b,0,none⟩))]) (λq w'=>DP w1 w' base A n c ps q/\Blk w' b 130 [.int .i64 0,.slice none 0 0]/\((n<=12∨Srt [] (ps.map (·.2)))->Srt [] (q.map (·.2)))) ?_ ?_
 .have H2:=(DP.start av hn).ext a6;refine ci (λh=>?_) (λh=>?_)
  .have ay:¬ SOn z0 (fP []) ps 0 n:=by grind
   refine clR (Qgg H2.d H2.l hmx ((Qwt ab).step H2)) ?_;rintro v w3 ⟨q,H3,hs⟩;refine ρ ?_;refine Jf q sB ⟨H2.after H3,(hB.ext a6).grown H3.g ((hB.ext a6).ne_own H2.d.1 rfl),λe=>?_⟩;rcases e with e|e
   .exact Jff (by rw[H3.l];exact hs e)
   exfalso
   apply ay
   intro i j _ ba hj;have e':=(List.pairwise_map.1 e);grind [List.pairwise_iff_getElem,fP,Qd,z0]
  have az:t=true:=by simpa using h
  refine ρ ?_;exact Jf ps sB ⟨H2,hB.ext a6,λ_=>Jff (by rw[hn];exact ht.1 az)⟩
 rintro q w3 ⟨H3,ax,b1⟩;have aj:∀ p∈q,Off (one (Value.slice A n c).ownBlock) w3 (λu=>RowV u p.1 p.2):=λp hp=>(ab p (H3.p.mem_iff.1 hp)).grown H3.g λk e=>e;refine clR (Xxg H3.d H3.l hmx hnc (eqRow aj)) ?_;rintro v w4 ⟨D,rfl,au,ad,ag,ac⟩;have b9:D.length<=n:=by
  have:=Jqt (q.map (·.2))
  rw[<-ad,List.length_map,List.length_map,H3.l]at this;exact this
 have af:=ax.grown ac (ax.ne_own H3.d.1 rfl);have ai:∀ p∈D,Off (one own) w4 (λu=>RowV u p.1 p.2):=λp hp=>by rw[J];exact(aj p (ag p hp)).grown ac λk e=>e
 have a4:w1.grownBy w4 own:=by rw[J];exact Zm H3.g ac
 have b4:((n<=12∨Srt [] (ps.map (·.2)))->IsSet [] (ps.map (·.2)) (D.map (·.2))):=λe=>by
  have h1:=Jmc (b1 e);rw[<-ad]at h1;exact⟨h1.1,λx=>(h1.2 x).trans ((H3.p.map (·.2)).mem_iff)⟩
 generalize hm:D.length=m at *
 refine ciR (λh=>?_) (λh=>?_)
 .have b5:65536<m:=by have:=oT h;omega
  refine Zz (Jcv _) ?_;refine Qw af ?_ Yp;intro w5 a5 G b7;refine ρ ?_;refine Zn a5 ⟨?_,_,11,rfl,⟨0,none,0,0,rfl⟩,λe=>(by omega),λe=>(by cases e)⟩;have g1:=Zm (Vz a3 own) a4;rw[<-J];exact⟨G.os.trans g1.os,G.tape.trans g1.tape,G.output.trans g1.output,Nat.le_trans g1.size G.size,λk hk hn=>(G.block k (nM hk g1.size) (λe=>by injection e with e;omega)).trans (g1.block k hk hn)⟩
 have b8:m<=65536:=by grind
 clear h;obtain⟨N',a8⟩:∃ N':Nat->Prop,N'=λk=>k<w1.heap.size∨own=some k:=⟨_,rfl⟩;have ao:(Value.slice A m c).ownBlock=own:=by grind [ownB]
 refine ρ ?_;refine Jo (fun (k:Nat) (qs:List Pr)=>[(0,.int .i64 (ar:Int)),(1,.slice A m c),(4,.pointer (some ⟨b,0,none⟩)),(19,.int .i64 (m:Int)),(20,.int .i64 (k:Int))])
  (λk qs w'=>k<=m/\qs.length=k/\qs.map (·.2)=(D.take k).map (·.2)/\Dat w' base (.slice A m c) (qs++D.drop k)/\(∀ p∈qs,Off N' w' (λu=>RowV u p.1 p.2))/\(∀ p∈D,Off (one own) w' (λu=>RowV u p.1 p.2))/\Blk w' b 130 [.int .i64 0,.slice none 0 0]/\w1.grownBy w' own) (λk _=>m-k) 0 [] sB
  ⟨Nat.zero_le _,rfl,rfl,by simpa using au,λp hp=>(by cases hp),ai,af,a4⟩ ?_
 clear au ai af a4;rintro k qs w5 ⟨hk,am,ak,a1,a9,ah,a5,G⟩;refine ρ ?_;have O:(qs++D.drop k).length=m:=by simp;omega
 refine ci (λh=>?_) (λh=>?_)
 .have lk:k<m:=by have:=oT h;omega
  have aq:(qs++D.drop k).getD k z0=D.getD k z0:=by grind
  have ap:D.getD k z0∈D:=Yu hm lk;refine ixR k (a1.rd O) lk ?_;refine ldR (a1.cell O lk) ?_;rw[aq];refine clR (Ye (ah _ ap).here N' (λj hj=>?_)) ?_
  .subst a8;rcases hj with h'|h'
   .exact nM h' G.size
   exact nM (a7 j h') (nL a3.size G.size)
  rintro v6 w6 ⟨aa,a2⟩;have ae:=a1.ext a2;obtain⟨s1,s2,s3⟩:=ae.store O lk (p:=(v6,(D.getD k z0).2)) aa.v.one;refine ixR k (ae.rd O) lk ?_;refine Xq (ae.cell O lk) s1 ?_ (hv:=aa.v.one);refine ρ ?_;have e:(qs++D.drop k).set k (v6,(D.getD k z0).2)=(qs++[(v6,(D.getD k z0).2)])++D.drop (k+1):=by
   rw[List.set_append_right _ _ om,am,Nat.sub_self,List.drop_eq_getElem_cons om,List.set_cons_zero,List.append_assoc];rfl
  rw[e]at s2;rw[ao]at s3;refine Jl (k+1) (qs++[(v6,(D.getD k z0).2)]) sO ⟨om,by simp[am],?_,s2,λp hp=>?_,λp hp=>?_,?_,?_⟩ om
  .grind [Qs,z0]
  .rcases List.mem_append.1 hp with h'|h'
   .exact((a9 p h').ext a2).grown s3 (λk e=>by rw[a8];exact .inr e)
   rw[List.mem_singleton.1 h'];exact aa.off.grown s3 (λk e=>by rw[a8];exact .inr e)
  .exact((ah p hp).ext a2).grown s3 (λk e=>e)
  .have h7:=a5.ext a2;refine h7.grown s3 ?_;grind
  exact Zm G (Zm (Vz a2 _) s3)
 have e:k=m:=by have:=oF h;omega
 subst e;rw[List.drop_of_length_le om,List.append_nil]at a1 O;rw[List.take_of_length_le om]at ak;refine Zz (Xkz (ar:Int) A k c _) ?_;refine Qw a5 ?_ (Yp (z:=(ar:Int)) (A:=A) (n:=k) (c:=c));intro w7 b3 Z b6;refine ρ ?_;have bb:N' b:=by rw[a8];exact .inl hB.lt
 have b2:Dat w7 base (.slice A k c) qs:=⟨a1.1.kept Z (.inr (λe=>a5.ne_own a1.1 rfl e.symm)),a1.2⟩;have an:=Qhh (N:=λj=>j<w.heap.size/\own≠some j) b2 O om om (λj ej hj=>hj.2 (by rw[<-ej,ao])) (λp hp=>((a9 p hp).grown Z (λj ej=>by grind)).mono λj _ hj=>by grind);refine Zn b3 ⟨?_,_,0,rfl,⟨_,_,_,_,rfl⟩,λ_=>rfl,λ_=>⟨qs.map (·.2),?_,by rw[List.length_map];omega,?_,?_⟩⟩
 .have g1:=Zm (Vz a3 own) G;rw[<-J];exact⟨Z.os.trans g1.os,Z.tape.trans g1.tape,Z.output.trans g1.output,Nat.le_trans g1.size Z.size,λj hj hn=>(Z.block j (nM hj g1.size) (λe=>by injection e with e;omega)).trans (g1.block j hj hn)⟩
 .rw[<-J];exact an.imp λu hu=>⟨_,rfl,hu⟩
 .intro x hx;rw[ak,ad]at hx;have:x∈q.map (·.2):=by grind
  exact(H3.p.map (·.2)).mem_iff.1 this
 repeat grind
open Go.RowKit Pl Go.Wk _root_.Go.Proofs.Tryz
variable {ar b c n:Nat}{a w w':World}
theorem Qvg(w:World): (Instr.buildSlice 95 0 #[]).run prog w=.ok (.slice (some ⟨w.heap.size,0,none⟩) 0 0) (w.alloc (.cells [].toArray 59)):=kr
theorem Xzd{A:Option Addr}{ps:List Pr}(hR:Rd w 1 A n (ps.map (·.1)))(hn:ps.length=n)(hmx:n<=1100000)(h1:∀ p∈ps,p.1.oneCell'=true):
  Ret prog 111 [.slice A n c] w λv' w'=>Ext w w'/\∃ B d,v'=.slice B n d/\n<=d/\Dat w' w.heap.size (.slice B n d) ps:=by
 refine enE func111 ntmps111 ?_;refine ρ ?_;refine Jxn ?_;refine ciR (λh=>?_) (λh=>?_)
 .have hA:A=none:=by simpa using h
  subst hA;have J:n=0:=by
   rcases Nat.eq_zero_or_pos n with h0|h0
   .exact h0
   obtain⟨ad,h2,_⟩:=hR.isome h0 om;cases h2
  subst J;obtain rfl:=List.eq_nil_of_length_eq_zero hn;refine ρ ?_;exact Jj ⟨Ext.refl w,none,0,rfl,Nat.le_refl _,⟨Zw _ _ _ _,λp hp=>by cases hp⟩⟩
 refine Qv Qvg ?_;intro w1 b j Z O;refine ρ ?_;refine apo j ER (O.own (n:=0) Z rfl (Nat.zero_le _)) (hR.ext j) (λu hu=>by grind) (by unfold maxLen;omega) om ?_;intro v2 w2 i G _ _;obtain⟨A2,c2,rfl,D,hf⟩:=Jy i;refine ρ ?_;rw[Nat.zero_add]at i D ⊢;refine Jj ⟨G,A2,c2,rfl,D,⟨?_,h1⟩⟩;rw[hn];exact i
theorem Jch(hx:Ext a w)(hg:w.grownBy w' (some b))(hb:a.heap.size<=b): Ext a w':=by grind [Ql]
theorem Jgg{v:Value}{ls:List Row}(h:RowsV w v ls):
  Ret prog 58 [.int .i64 (ar:Int),v] w λu w'=>Ext w w'/\∃ rv e,u=.tuple #[rv,.int .i64 e]/\(∃ z B m d,rv=.agg #[.int .i64 z,.slice B m d])/\(ar<=32->(∀ r∈ls,r.length=ar/\r.all Xl=true)->ls.length<=65536->e=0) /\
   (e=0->ar<=32/\(∀ r∈ls,r.length=ar/\r.all Xl=true)/\∃ m,Off (λk=>k<w.heap.size) w' (λu=>RelV u rv ar m)/\m.length<=65536/\(∀ x∈m,x∈ls)/\((ls.length<=12∨Srt [] ls)->IsSet [] ls m)):=by
 obtain⟨ps,A,c,rfl,rfl,ba,aj,hR,a4⟩:=h;generalize hn:ps.length=n at *
 have b8:∀ i,(ps.map (·.2)).getD i []=(ps.getD i z0).2:=λi=>Jqk
 have ah:∀ p∈ps,p.1.oneCell'=true:=λp hp=>(a4 p hp).one;refine enE func58 ntmps58 ?_;refine Jv Gm ?_;intro w1 b ax hb hB;refine clR (Qlb (ar:Int) w1) ?_;rintro v2 w2 ⟨ag,z',e2,rfl,am,J⟩;refine Jv Gm ?_;intro w3 b3 av b2 b7;refine Qw b7 ?_ (Yp (z:=z') (A:=none) (n:=0) (c:=0));intro w4 b6 bc au;have a9:Ext w1 w4:=au w1 (ag.trans av) (nL ag.size b2);have Z:=ax.trans a9;have ae:=hB.ext a9;refine ciR (λh=>?_) (λh=>?_)
 .have aa:=Km h;refine Zz (Jcv _) ?_;refine Qw ae ?_ Yp;intro w5 ad bb a2;refine ρ ?_;refine Zn ad ⟨a2 w Z hb,_,e2,rfl,⟨0,none,0,0,rfl⟩,λh1 _ _=>J.2 om,λe=>absurd e aa⟩
 have hz:=Jqf h;subst hz;have b4:ar<=32:=by have:=J.1 rfl;omega
 have ao:=am rfl;subst ao;clear h am J;refine ρ ?_;refine Qf (fun (k:Nat)=>[(0,.int .i64 (ar:Int)),(1,.slice A n c),(4,.pointer (some ⟨b,0,none⟩)),(6,.pointer (some ⟨b3,0,none⟩)),(20,.int .i64 (n:Int)),(21,.int .i64 (k:Int))])
  (λk w'=>Ext w4 w'/\k<=n/\∀ i,i<k->(ps.getD i z0).2.length=ar/\(ps.getD i z0).2.all Xl=true) (λk=>n-k) 0 sB ⟨Ext.refl _,Nat.zero_le _,λi hi=>om⟩ ?_
 rintro k w5 ⟨a2,hk,hI⟩;have G:=Z.trans a2;refine ciR (λh=>?_) (λh=>?_)
 .have lk:k<n:=by have:=oT h;omega
  clear h;refine drR (scq 7 [5]) ?_;have a8:=a2.drew;have ad:=b6.ext a8;have an:=hR.ext G.drew;refine Qz (cs:=[.int .i64 (ar:Int),.slice none 0 0]) (λj u hu=>ad.at hu) ?_;refine Jb k an lk ?_;refine Jz (Jxr an hn lk) ?_;refine Jh (Xvd (A:=none) (n:=0) (c:=0) rfl ((a4 _ (Yu hn lk)).ext G.drew)) ?_;rintro u w6 ⟨a1,e,rfl,J⟩;refine⟨a1,?_⟩;refine ρd ?_;refine ρ ?_;have a3:=a8.trans a1;refine ci (λh=>?_) (λh=>?_)
  .have aa:=Km h;refine Zz (Jcv _) ?_;refine Qw (ae.ext a3) ?_ Yp;intro w7 ac ab aq;refine ρ ?_;refine Zn ac ⟨aq w (Z.trans a3) hb,_,e,rfl,⟨0,none,0,0,rfl⟩,λ_ h2 _=>?_,λe=>absurd e aa⟩;grind
  have hz:=Jqf h;have b9:=J.1 hz;refine ρ ?_;refine Qy (k+1) sO ⟨a3,om,λi hi=>?_⟩ om;grind
 have e:k=n:=by have:=oF h;omega
 subst e;refine clR (Xzd (hR.ext G) hn aj ah) ?_;rintro u w6 ⟨a1,D,d,rfl,hd,a6⟩;have O:=G.trans a1;have a5:∀ j,(Value.slice D k d).ownBlock=some j->w5.heap.size<=j/\j<w6.heap.size:=by
  obtain⟨_,_,_,_,hf⟩:=Jy a6.1;grind
 have ai:∀ p∈ps,Off (one (Value.slice D k d).ownBlock) w6 (λu=>RowV u p.1 p.2):=λp hp=>Off.old (a:=w) (λu hu=>(a4 p hp).ext hu) O (λj ej=>nL G.size (a5 j ej).1);refine clR (Qvc (ar:=ar) a6 hn aj hd ai) ?_;rintro u w7 ⟨ab,rv,e,rfl,⟨z,B,m,d',ay⟩,ak,az⟩;have af:Ext w w7:=Ql O ab (λj ej=>nL G.size (a5 j ej).1);have a7:=(ae.ext a2).ext a1;have ac:=a7.grown ab (a7.ne_own a6.1 rfl);subst ay;refine Qw ac ?_ (Yp (z:=z) (A:=B) (n:=m) (c:=d'));intro w8 b5 b1 ap;refine ρ ?_;refine Zn b5 ⟨ap w af hb,_,e,rfl,⟨z,B,m,d',rfl⟩,λ_ _ h3=>ak (by grind),λe0=>⟨b4,λr hr=>?_,?_⟩⟩
 .grind [List.mem_map.1,List.getElem_of_mem,Qd,z0]
 obtain⟨ms,m1,m2,m3,m4⟩:=az e0;refine⟨ms,?_,m2,m3,λhc=>m4 (by grind)⟩;have bd:b<w6.heap.size/\(Value.slice D k d).ownBlock≠some b:=⟨a7.lt,λe=>a7.ne_own a6.1 rfl e.symm⟩;refine(m1.grown b1 (λj ej=>by grind)).mono λj _ hj=>⟨nM hj O.size,λe=>?_⟩;have:=(a5 j e).1;have:=G.size;omega
open Go.RowKit Pl Go.Wk _root_.Go.Proofs.Tryz
variable {cs:List Nat}{ls:List Row}{ar i k:Nat}{v:Value}{w:World}
theorem Jgb: ∀(q:Row) (i:Nat) (x:V),i<q.length->Js (q.set i x)=(Js q).take (i*3)++x.cells++(Js q).drop (i*3+3)
 | [],i,x,h=>by simp at h
 | v::q,0,x,_=>by
  have e:Js (v::q)=v.cells++Js q:=by simp[Js]
  have e2:Js (x::q)=x.cells++Js q:=by simp[Js]
  rw[List.set_cons_zero,e,e2,Nat.zero_mul,List.take_zero,List.nil_append,Nat.zero_add];congr 1
 | v::q,i+1,x,h=>by
  have ih:=Jgb q i x (by simpa using h);have e:Js (v::q)=v.cells++Js q:=by simp[Js]
  have e2:Js (v::q.set i x)=v.cells++Js (q.set i x):=by simp[Js]
  have hl:v.cells.length=3:=rfl;rw[List.set_cons_succ,e,e2,ih];have e3:(v.cells++Js q).take ((i+1)*3)=v.cells++(Js q).take (i*3):=by grind [List.take_append,List.take_of_length_le]
  grind [Js,List.drop_append,List.drop_of_length_le,List.append_assoc]
theorem Jfx(n:Nat): (madeCells (Value.agg #[.int .i64 0,.int .i64 0,.string ⟨#[]⟩]).cells (n*3)).toList=Js (List.replicate n V0):=by
 apply List.ext_getElem?
 intro k;have j:(Value.agg #[.int .i64 0,.int .i64 0,.string ⟨#[]⟩]).cells = #[.int .i64 0,.int .i64 0,.string ⟨#[]⟩]:=rfl;rw[j];by_cases hk:k<n*3
 .have i:=Jgc (List.replicate n V0) (k / 3) (k % 3) (by simp;omega) om;rw[show k / 3*3+k % 3=k by omega]at i;rw[i];have e:(List.replicate n V0).getD (k / 3) V0=V0:=by grind
  rw[e];have u:k % 3<3:=om
  simp only[madeCells,Array.getElem?_toList,Array.getElem?_map,Array.getElem?_range,hk,if_true,Option.map_some];generalize k % 3=r at *
  have:r=0∨r=1∨r=2:=om
  rcases this with rfl|rfl|rfl<;>rfl
 rw[List.getElem?_eq_none (by simp[madeCells];omega),List.getElem?_eq_none (by grind [Jtp])]
def Je(zs:List Int): List Value:=zs.map (Value.int .i64)
def IntsV(w:World)(v:Value)(zs:List Int): Prop:=∃ A c,v=.slice A zs.length c/\zs.length<=c/\zs.length<=1100000/\Rd w 1 A zs.length (Je zs)
theorem IntsV.ext{w w':World}{v:Value}{zs:List Int}(h:IntsV w v zs)(hx:Ext w w'): IntsV w' v zs:=by obtain⟨A,c,D,u,j,i⟩:=h;exact⟨A,c,D,u,j,i.ext hx⟩
theorem Jwv{zs:List Int}(h:i<zs.length): (Je zs)[i]?=some (.int .i64 (zs.getD i 0)):=by simp[Je,List.getD,List.getElem?_eq_getElem h]
def nz(cs:List Nat): List Int:=cs.map fun (c:Nat)=>(c:Int)
theorem Zy(h:i<cs.length): (Je (nz cs))[i]?=some (.int .i64 (cs.getD i 0:Int)):=by simp[Je,nz,List.getD,List.getElem?_eq_getElem h]
theorem Qg(cs:List Nat): (nz cs).length=cs.length:=by simp[nz]
def pmR(cs:List Nat)(r:Row): Row:=cs.map λc=>r.getD c V0
abbrev Vh(w:World)(base:Nat)(v:Value)(q:Row): Prop:=w.ownsRow base 147 3 v q.length (Js q)
theorem Xw(cs:List Nat)(r:Row): (pmR cs r).length=cs.length:=by simp[pmR]
theorem Qjr{r:Row}(hk:k<cs.length): (pmR cs r).getD k V0=r.getD (cs.getD k 0) V0:=by grind [Qd,V0,pmR]
theorem Jwd(h:RelV w v ar ls): Ret prog 74 [v] w λu w'=>u=.int .i64 (ls.length:Int)/\Ext w w':=by
 obtain⟨rv,rfl,ps,A,c,rfl,rfl,J,G,hR,D⟩:=h;refine enE func74 ntmps74 ?_;refine bxR ?_;intro Z b j hb O;refine ldR (O.at (i:=1) rfl) ?_;refine ρ ?_;exact Jj ⟨by rw[List.length_map],j⟩
theorem Jgh(h:RelV w v ar ls): Ret prog 112 [v] w λu w'=>u=.int .i64 (ar:Int)/\Ext w w':=by
 obtain⟨rv,rfl,ps,A,c,rfl,rfl,J,G,hR,D⟩:=h;refine enE func112 ntmps112 ?_;refine bxR ?_;intro Z b j hb O;refine ldR (O.at (i:=0) rfl) ?_;refine ρ ?_;exact Jj ⟨rfl,j⟩
theorem Jgf(h:RelV w v ar ls): Ret prog 127 [v] w λu w'=>Ext w w'/\RowsP (λk=>k<w.heap.size) w' u ls:=by
 obtain⟨rv,rfl,ps,A,c,rfl,rfl,ah,af,hR,a8⟩:=h;generalize hn:ps.length=n at *
 refine enE func127 ntmps127 ?_;refine bxR ?_;intro w0 b a1 hb hB;refine ldR (hB.at (i:=1) rfl) ?_;refine ρ ?_;refine mkn ER n om (by unfold maxLen;omega) ?_;intro w1 O ae aa hO;have ab:∀ k,(Value.slice O n n).ownBlock=some k->w0.heap.size<=k/\k<w1.heap.size:=by grind [Jy]
 have ag:Dat w1 w0.heap.size (.slice O n n) ([]++List.replicate n (.slice none 0 0,[])):=by
  refine⟨?_,λp hp=>?_⟩
  .rw[List.nil_append,List.length_replicate,Pr.rep];have e:(madeCells (Value.slice none 0 0).cells (n*1)).toList=List.replicate n (.slice none 0 0):=by rw[Nat.mul_one];exact Us _ _
   rw[e]at aa;exact aa
  rw[List.nil_append]at hp;rw[(List.mem_replicate.1 hp).2];rfl
 obtain⟨N,hN⟩:∃ N:Nat->Prop,N=λk=>k<w0.heap.size∨(Value.slice O n n).ownBlock=some k:=⟨_,rfl⟩;refine ρ ?_;refine Jo (fun (k:Nat) (G:List Pr)=>[(1,.pointer (some ⟨b,0,none⟩)),(3,.slice O n n),(10,.int .i64 (n:Int)),(11,.int .i64 (k:Int))])
  (λk G w2=>k<=n/\G.length=k/\G.map (·.2)=(ps.take k).map (·.2)/\Ext w0 w2/\w1.heap.size<=w2.heap.size/\Dat w2 w0.heap.size (.slice O n n) (G++List.replicate (n-k) (.slice none 0 0,[]))/\(∀ p∈G,Off N w2 (λu=>RowV u p.1 p.2))) (λk _=>n-k) 0 [] sB
  ⟨Nat.zero_le _,rfl,rfl,ae,Nat.le_refl _,ag,λp hp=>(by cases hp)⟩ ?_
 rintro k G w2 ⟨hk,a3,a9,Z,a7,a6,ac⟩;have D:=a1.trans Z;refine ciR (λh=>?_) (λh=>?_)
 .have lk:k<n:=by have:=oT h;omega
  refine ldR ((hB.ext Z).at (i:=1) rfl) ?_;refine ixR k (hR.ext D) lk ?_;refine ldR (Jxr (hR.ext D) hn lk) ?_;refine clR (Ye ((a8 _ (Yu hn lk)).ext D) N (λj hj=>?_)) ?_
  .subst hN;rcases hj with h'|h'
   .exact nM h' Z.size
   repeat grind
  rintro v3 w3 ⟨a2,J⟩;have a5:=a6.ext J;have a4:(G++List.replicate (n-k) ((.slice none 0 0,[]):Pr)).length=n:=by simp;omega
  obtain⟨s1,s2,s3⟩:=a5.store a4 lk (p:=(v3,(ps.getD k z0).2)) a2.v.one;refine ixR k (a5.rd a4) lk ?_;refine Xq (a5.cell a4 lk) s1 ?_ (hv:=a2.v.one);refine ρ ?_;have e:(G++List.replicate (n-k) ((.slice none 0 0,[]):Pr)).set k (v3,(ps.getD k z0).2)=(G++[(v3,(ps.getD k z0).2)])++List.replicate (n-(k+1)) (.slice none 0 0,[]):=by
   rw[show n-k=(n-(k+1))+1 by omega,List.replicate_succ,List.set_append_right _ _ om,a3,Nat.sub_self,List.set_cons_zero,List.append_assoc];rfl
  rw[e]at s2;have ad:∀ j,(Value.slice O n n).ownBlock=some j->N j:=λj ej=>by rw[hN];exact .inr ej
  refine Jl (k+1) (G++[(v3,(ps.getD k z0).2)]) sO ⟨om,by simp[a3],?_,Ql (Z.trans J) s3 (λj hj=>(ab j hj).1),Nat.le_trans a7 (nL J.size s3.size),s2,λp hp=>?_⟩ om
  .grind [Qs,z0]
  rcases List.mem_append.1 hp with h'|h'
  .exact((ac p h').ext J).grown s3 ad
  rw[List.mem_singleton.1 h'];exact a2.off.grown s3 ad
 have e:k=n:=by have:=oF h;omega
 subst e;rw[Nat.sub_self,List.replicate_zero,List.append_nil]at a6;rw[List.take_of_length_le om]at a9;refine ρ ?_;refine Jj ⟨D,?_⟩;rw[<-a9];refine rowsP a6 a3 af (nR _) (λj ej hj=>?_) λp hp=>(ac p hp).mono λj _ hj=>by rw[hN];exact .inl (nM hj a1.size)
 have:=(ab j ej).1;have:=a1.size;omega
open Go.RowKit Pl Go.Wk
variable {cs:List Nat}{v vc:Value}{w:World}
theorem Qhr{r:Row}(h:RowV w v r)(hc:IntsV w vc (nz cs))(hlt:∀ c∈cs,c<r.length): Ret Tryz.prog 221 [v,vc] w λu w'=>Ext w w'/\∃ x,u=.tuple #[x,.int .i64 0]/\Off (λk=>k<w.heap.size) w' (λy=>RowV y x (pmR cs r)):=by
 obtain⟨A,ac,rfl,ai,ah,ab⟩:=h;obtain⟨C,cc,rfl,af,ae,J⟩:=hc;rw[Qg]at *;refine enE Tryz.func221 Tryz.ntmps221 ?_;refine ρ ?_;refine Qf (fun (k:Nat)=>[(0,.slice A r.length ac),(1,.slice C cs.length cc),(10,.int .i64 (cs.length:Int)),(11,.int .i64 (k:Int))]) (λk w'=>w'=w/\k<=cs.length) (λk=>cs.length-k) 0 sB ⟨rfl,Nat.zero_le _⟩ ?_;rintro k w' ⟨rfl,hk⟩;refine ciR (λh=>?_) (λh=>?_)
 .have lk:k<cs.length:=by have:=oT h;omega
  have ag:=hlt _ (getD_mem' 0 cs lk);refine ixR k J lk ?_;refine ldR (J.cell (Zy lk)) ?_;refine kfR 19 ?_ ?_
  .grind
  refine ixR k J lk ?_;refine ldR (J.cell (Zy lk)) ?_;refine cfR ?_ ?_
  .grind
  refine ρ ?_;exact Qy (k+1) sO ⟨rfl,om⟩ om
 refine ρ ?_;refine mkn EV cs.length om (by unfold maxLen;omega) ?_;intro w4 O a6 a8 hO;rw[Jfx]at a8;have a4:Vh w4 w'.heap.size (.slice O cs.length cs.length) ([]++List.replicate cs.length V0):=by grind
 refine ρ ?_;refine Qf (fun (i:Nat)=>[(0,.slice A r.length ac),(1,.slice C cs.length cc),(7,.slice O cs.length cs.length),(33,.int .i64 (cs.length:Int)),(34,.int .i64 (i:Int))])
  (λi w5=>i<=cs.length/\Ext w' w5/\Vh w5 w'.heap.size (.slice O cs.length cs.length) ((pmR cs r).take i++List.replicate (cs.length-i) V0)) (λi=>cs.length-i) 0 sB
  ⟨Nat.zero_le _,a6,a4⟩ ?_
 rintro i w5 ⟨hi,Z,D⟩;have G:((pmR cs r).take i++List.replicate (cs.length-i) V0).length=cs.length:=by simp[Xw];omega
 rw[Vh,G]at D;refine ciR (λh0=>?_) (λh0=>?_)
 .have li:i<cs.length:=by have:=oT h0;omega
  have a1:=J.ext Z;have a2:RdR w5 A r:=Rd.ext ab Z;have lc:=hlt _ (getD_mem' 0 cs li);refine ixR i a1 li ?_;refine ldR (a1.cell (Zy li)) ?_;refine Qu 3 (cs.getD i 0) a2 lc ?_;refine Jt (λj u hu=>RdR.cell a2 lc hu) ?_;refine Qu 3 i (Rd.own D) li ?_;refine ρ ?_;refine stoE (cs:=(r.getD (cs.getD i 0) V0).cells) D li ?_ (V.one _);intro w6 a7 aa;have a5:Ext w' w6:=Ql Z aa (λk hk=>by grind [Jy]);refine ρ ?_;refine Qy (i+1) sO ⟨om,a5,?_⟩ om;have e:((pmR cs r).take i++List.replicate (cs.length-i) V0).set i (r.getD (cs.getD i 0) V0)=(pmR cs r).take (i+1)++List.replicate (cs.length-(i+1)) V0:=by
   have hl:((pmR cs r).take i).length=i:=by simp[Xw];omega
   rw[List.set_append_right _ _ om,hl,Nat.sub_self,show cs.length-i=(cs.length-(i+1))+1 by omega,List.replicate_succ,List.set_cons_zero,List.take_succ_eq_append_getElem (by rw[Xw];omega),List.append_assoc];rw[<-Qjr li,Qd V0 _ (by rw[Xw];omega)];rfl
  have a3:((pmR cs r).take (i+1)++List.replicate (cs.length-(i+1)) V0).length=cs.length:=by grind
  rw[Vh,a3,<-e,Jgb _ _ _ (by rw[G];omega)];exact a7
 have a9:i=cs.length:=by have:=oF h0;omega
 subst a9;rw[Nat.sub_self,List.replicate_zero,List.append_nil,List.take_of_length_le (by rw[Xw];omega)]at D;refine ρ ?_;refine Vx ⟨Z,_,rfl,?_⟩;obtain⟨_,_,_,_,hf⟩:=Jy D;intro y hg;refine⟨O,cs.length,by rw[Xw],by rw[Xw];omega,by rw[Xw];omega,?_⟩;rw[RdR,Xw];refine Vb (Rd.own D) hg λ_ ad e=>?_;grind
theorem Jtt{ar:Nat}{ls:List Row}(h:RelV w v ar ls)(hc:IntsV w vc (nz cs))(hlen:∀ r∈ls,r.length=ar)(hlt:∀ c∈cs,c<ar)(h32:cs.length<=32)(hbig:ls.length<=65536):
  Ret Tryz.prog 195 [v,vc] w λu w'=>Ext w w'/\∃ rv,u=.tuple #[rv,.int .i64 0]/\(∃ z B m d,rv=.agg #[.int .i64 z,.slice B m d])/\∃ m,Off (λk=>k<w.heap.size) w' (λx=>RelV x rv cs.length m)/\m.length<=65536/\(∀ x∈m,x∈ls.map (pmR cs))/\((ls.length<=12∨Srt [] (ls.map (pmR cs)))->IsSet [] (ls.map (pmR cs)) m):=by
 obtain⟨rv,rfl,ps,A,c,rfl,rfl,bf,b5,hR,aj⟩:=h;obtain⟨C,cc,rfl,bh,bg,b8⟩:=id hc;generalize hn:ps.length=n at *
 rw[List.length_map,hn]at hbig;have ac:∀ p∈ps,p.2.length=ar:=by grind
 rw[Qg]at *;refine enE Tryz.func195 Tryz.ntmps195 ?_;refine bxR ?_;intro w1 b1 a2 bj be;refine Jv Gm ?_;intro w2 b2 ah b9 bd;have a7:=a2.trans ah;have a9:=be.ext ah;refine cfR ?_ ?_
 .grind
 refine ρ ?_;refine Qf (fun (k:Nat)=>[(1,.slice C cs.length cc),(2,.pointer (some ⟨b1,0,none⟩)),(4,.pointer (some ⟨b2,0,none⟩)),(14,.int .i64 (cs.length:Int)),(15,.int .i64 (k:Int))]) (λk w'=>Ext w2 w'/\k<=cs.length) (λk=>cs.length-k) 0 sB ⟨Ext.refl _,Nat.zero_le _⟩ ?_;rintro k w3 ⟨a5,hk⟩;refine ciR (λh=>?_) (λh=>?_)
 .have lk:k<cs.length:=by have:=oT h;omega
  have aq:=hlt _ (getD_mem' 0 cs lk);clear h;refine drR (scq 14 []) ?_;have aa:=a5.drew;have G:=b8.ext (a7.trans aa);refine Jb k G lk ?_;refine Jz (G.cell (Zy lk)) ?_;refine ρd ?_;refine dkf 23 ?_ ?_
  .grind
  refine Jb k G lk ?_;refine Jz (G.cell (Zy lk)) ?_;refine Jz ((a9.ext aa).at (i:=0) rfl) ?_;refine ρd ?_;refine cfR ?_ ?_
  .grind
  refine ρ ?_;exact Qy (k+1) sO ⟨aa,om⟩ om
 clear h hk;have Z:=a7.trans a5;have a8:=a9.ext a5;refine ldR (a8.at (i:=1) rfl) ?_;refine ρ ?_;refine mkn ER n om (by unfold maxLen;omega) ?_;intro w4 O ay an hO;have ae:∀ k,(Value.slice O n n).ownBlock=some k->w3.heap.size<=k/\k<w4.heap.size:=by grind [Jy]
 have ba:Dat w4 w3.heap.size (.slice O n n) ([]++List.replicate n (.slice none 0 0,[])):=by
  refine⟨?_,λp hp=>?_⟩
  .rw[List.nil_append,List.length_replicate,Pr.rep];have e:(madeCells (Value.slice none 0 0).cells (n*1)).toList=List.replicate n (.slice none 0 0):=by rw[Nat.mul_one];exact Us _ _
   rw[e]at an;exact an
  rw[List.nil_append]at hp;rw[(List.mem_replicate.1 hp).2];rfl
 obtain⟨N,hN⟩:∃ N:Nat->Prop,N=λk=>k<w3.heap.size∨(Value.slice O n n).ownBlock=some k:=⟨_,rfl⟩;refine ρ ?_;refine Jo (fun (k:Nat) (J:List Pr)=>[(1,.slice C cs.length cc),(2,.pointer (some ⟨b1,0,none⟩)),(4,.pointer (some ⟨b2,0,none⟩)),(7,.slice O n n),(39,.int .i64 (n:Int)),(40,.int .i64 (k:Int))])
  (λk J w5=>k<=n/\J.length=k/\J.map (·.2)=(ps.take k).map (λp=>pmR cs p.2)/\Ext w3 w5/\w4.heap.size<=w5.heap.size/\Dat w5 w3.heap.size (.slice O n n) (J++List.replicate (n-k) (.slice none 0 0,[]))/\(∀ p∈J,Off N w5 (λu=>RowV u p.1 p.2))) (λk _=>n-k) 0 [] sB
  ⟨Nat.zero_le _,rfl,rfl,ay,Nat.le_refl _,ba,λp hp=>(by cases hp)⟩ ?_
 rintro k J w5 ⟨hk,ab,am,a1,ai,a3,au⟩;have D:=Z.trans a1;refine ciR (λh=>?_) (λh=>?_)
 .have lk:k<n:=by have:=oT h;omega
  have b3:(ps.getD k z0).2.length=ar:=ac _ (Yu hn lk);refine ldR ((a8.ext a1).at (i:=1) rfl) ?_;refine ixR k (hR.ext D) lk ?_;refine ldR (Jxr (hR.ext D) hn lk) ?_;refine clR (Qhr ((aj _ (Yu hn lk)).ext D) (hc.ext D) (λc aq=>by rw[b3];exact hlt c aq)) ?_;rintro u w6 ⟨a4,x,rfl,ak⟩;have af:=a3.ext a4;have ad:(J++List.replicate (n-k) ((.slice none 0 0,[]):Pr)).length=n:=by simp;omega
  have a2:x.oneCell'=true:=ak.here.one;obtain⟨s1,s2,s3⟩:=af.store ad lk (p:=(x,pmR cs (ps.getD k z0).2)) a2;refine ixR k (af.rd ad) lk ?_;refine Xq (af.cell ad lk) s1 ?_ (hv:=a2);refine ρ ?_;have e:(J++List.replicate (n-k) ((.slice none 0 0,[]):Pr)).set k (x,pmR cs (ps.getD k z0).2)=(J++[(x,pmR cs (ps.getD k z0).2)])++List.replicate (n-(k+1)) (.slice none 0 0,[]):=by
   rw[show n-k=(n-(k+1))+1 by omega,List.replicate_succ,List.set_append_right _ _ om,ab,Nat.sub_self,List.set_cons_zero,List.append_assoc];rfl
  rw[e]at s2;have av:∀ j,(Value.slice O n n).ownBlock=some j->N j:=λj ej=>by rw[hN];exact .inr ej
  refine Jl (k+1) (J++[(x,pmR cs (ps.getD k z0).2)]) sO ⟨om,by simp[ab],?_,Ql (a1.trans a4) s3 (λj hj=>(ae j hj).1),Nat.le_trans ai (nL a4.size s3.size),s2,λp hp=>?_⟩ om
  .grind [Qs,z0]
  rcases List.mem_append.1 hp with h'|h'
  .exact((au p h').ext a4).grown s3 av
  rw[List.mem_singleton.1 h'];refine(ak.mono λj _ hj=>?_).grown s3 av;rw[hN]at hj;rcases hj with h'|h'
  .exact nM h' a1.size
  repeat grind
 have e:k=n:=by have:=oF h;omega
 subst e;rw[Nat.sub_self,List.replicate_zero,List.append_nil]at a3;rw[List.take_of_length_le om]at am;have b6:J.map (·.2)=(ps.map (·.2)).map (pmR cs):=by rw[am,List.map_map];rfl
 refine clR (Qvc (ar:=cs.length) a3 ab b5 (nR _) (λp hp=>(au p hp).mono λj _ hj=>by rw[hN];exact .inr hj)) ?_;rintro u w7 ⟨ao,rv,e,rfl,⟨z,B,m,d',az⟩,ap,b4⟩;have he:=ap hbig;subst he;have ag:Ext w w7:=Ql D ao (λj ej=>nL Z.size (ae j ej).1);have a6:=(bd.ext a5).ext a1;have bc:=a6.grown ao (a6.ne_own a3.1 rfl);subst az;refine Qw bc ?_ (Yp (z:=z) (A:=B) (n:=m) (c:=d'));intro w8 bb b7 ax;refine ρ ?_;obtain⟨ms,m1,m2,m3,m4⟩:=b4 rfl;rw[b6]at m3 m4;refine Zn bb ⟨ax w ag (nL a2.size b9),_,rfl,⟨z,B,m,d',rfl⟩,ms,?_,m2,m3,λhc=>m4 (by grind)⟩;have bi:b2<w5.heap.size/\(Value.slice O k k).ownBlock≠some b2:=⟨a6.lt,λe=>a6.ne_own a3.1 rfl e.symm⟩;refine(m1.grown b7 (λj ej=>by grind)).mono λj _ hj=>⟨nM hj D.size,λe=>?_⟩;have:=(ae j e).1;have:=Z.size;omega
open Go.RowKit Pl Go.Wk _root_.Go.Proofs.Tryz
variable {t:Bool}{bs:List Bool}{c g i j n:Nat}{A:Option Addr}{u v:Value}{w:World}
structure Atm where
 vars: List Int
 ar:Nat
 rows:List Row
abbrev V3:= Value×Value×Value
def V3.cells(t:V3): List Value:=[t.1,t.2.1,t.2.2]
def AtV(w:World)(t:V3)(a:Atm): Prop:=IntsV w t.1 a.vars/\t.2.1=.int .i64 (a.ar:Int)/\RowsV w t.2.2 a.rows
theorem AtV.ext{w w':World}{t:V3}{a:Atm}(h:AtV w t a)(hx:Ext w w'): AtV w' t a:=⟨h.1.ext hx,h.2.1,h.2.2.ext hx⟩
theorem AtV.rel{t:V3}{a:Atm}(h:AtV w t a): RelV w (.agg #[t.2.1,t.2.2]) a.ar a.rows:=⟨t.2.2,by rw[h.2.1],h.2.2⟩
theorem AtV.one{t:V3}{a:Atm}(h:AtV w t a): ∀ u∈t.cells,u.oneCell'=true:=by
 obtain⟨⟨A,c,G,_⟩,D,⟨ps,B,d,_,j,_⟩⟩:=h;intro u i;simp only[V3.cells,List.mem_cons,List.not_mem_nil,or_false]at i;rcases i with rfl|rfl|rfl
 .rw[G];rfl
 .rw[D];rfl
 rw[j];rfl
def v30: V3:=(undef,undef,undef)
def a0: Atm:=⟨[],0,[]⟩
abbrev TA:= V3×Atm
def ta0: TA:=(v30,a0)
def atC(ts:List TA): List Value:=ts.flatMap λp=>p.1.cells
theorem Qyh: ∀(r:List TA) (i j:Nat),i<r.length->j<3->(atC r)[i*3+j]?=(r.getD i ta0).1.cells[j]?
 | [],i,j,h,_=>by simp at h
 | v::r,0,j,_,hj=>by
  simp only[atC,List.flatMap_cons,Nat.zero_mul,Nat.zero_add,List.getD_cons_zero];grind [List.getElem?_append_left,V3.cells]
 | v::r,i+1,j,h,hj=>by
  have ih:=Qyh r i j (by simpa using h) hj;grind [atC,List.getD_cons_succ,List.getElem?_append_right,V3.cells]
def AtsV(w:World)(v:Value)(ats:List Atm): Prop:=∃(ts:List TA) (A:Option Addr) (c:Nat),ats=ts.map (·.2)/\v=.slice A ts.length c/\ts.length<=c/\ts.length<=1100000/\Rd w 3 A ts.length (atC ts)/\∀ p∈ts,AtV w p.1 p.2
theorem AtsV.ext{w w':World}{v:Value}{ats:List Atm}(h:AtsV w v ats)(hx:Ext w w'): AtsV w' v ats:=by
 obtain⟨ts,A,c,J,G,D,u,j,i⟩:=h;exact⟨ts,A,c,J,G,D,u,j.ext hx,λp hp=>(i p hp).ext hx⟩
theorem Jvv{ts:List TA}(hR:Rd w 3 A n (atC ts))(hn:ts.length=n)(hi:i<n)(hu:(ts.getD i ta0).1.cells[j]?=some u): w.cell? ((adr A (i*3)).add j)=some u:=by
 have D:j<3:=by grind [List.getElem?_eq_some_iff.1,V3.cells]
 rw[Xh];exact hR.cell (by grind [Qyh])
theorem Jyv{ts:List TA}(hn:ts.length=n)(hi:i<n): ts.getD i ta0∈ts:=getD_mem' ta0 ts (hn.symm ▸ hi)
def ascB(zs:List Int): Prop:=∀ j,0<j->j<zs.length->zs.getD (j-1) 0<zs.getD j 0
def Jvw(n:Int)(a:Atm): Prop:=ascB a.vars/\(∀ v∈a.vars,0<=v/\v<n)/\a.vars.length=a.ar
def Jvs(n:Int)(ats:List Atm): Prop:=0<=n/\n<=32/\ats.length<=32/\(∀ a∈ats,Jvw n a)/\∀ v:Nat,(v:Int)<n->∃ a∈ats,(v:Int)∈a.vars
theorem Qtf(hR:RdB w A bs)(hm:bs.length<=1100000): Ret prog 162 [.slice A bs.length c,.bool t] w λu w'=>w'=w/\∃ z,u=.int .i64 z/\(0<=z↔t∈bs):=by
 refine enE func162 ntmps162 ?_;refine ρ ?_;refine Qf (fun (k:Nat)=>[(0,.slice A bs.length c),(1,.bool t),(7,.int .i64 (bs.length:Int)),(8,.int .i64 (k:Int))]) (λk w'=>w'=w/\k<=bs.length/\t ∉ bs.take k) (λk=>bs.length-k) 0 sB ⟨rfl,Nat.zero_le _,by simp⟩ ?_;rintro k w' ⟨rfl,i,j⟩;refine ciR (λh=>?_) (λh=>?_)
 .have lk:k<bs.length:=by have:=oT h;omega
  refine ixR k hR lk ?_;refine ldR (RdB.cell hR lk) ?_;refine eqb ?_;refine ciR (λh=>?_) (λh=>?_)
  .refine ρ ?_;refine Jj ⟨rfl,(k:Int),rfl,⟨λ_=>?_,λ_=>om⟩⟩;grind
  refine ρ ?_;refine Qy (k+1) sO ⟨rfl,om,?_⟩ om;grind [Qs,lk,List.mem_singleton]
 refine ρ ?_;refine Jj ⟨rfl,-1,rfl,⟨λe=>om,λe=>?_⟩⟩;grind
theorem Xxb(hR:RdB w A bs)(hm:bs.length<=1100000): Ret prog 113 [.slice A bs.length c,.bool t] w λu w'=>w'=w/\∃ b:Bool,u=.bool b/\(b=true↔t∈bs):=by
 refine enE func113 ntmps113 ?_;refine clR (Qtf hR hm) ?_;rintro u w' ⟨rfl,z,rfl,i⟩;refine ρ ?_;exact Jj ⟨rfl,decide (0<=z),rfl,by grind⟩
theorem Blk.at2{t:TypeId}{cs:List Value}(h:Blk w g t cs)(hv:cs[i+j]?=some v): w.cell? ((⟨g,i,none⟩:Addr).add j)=some v:=by rw[Yc,h.cell];exact hv
theorem Yf: Qr prog 134=some (.agg #[.slice none 0 0,.int .i64 0,.slice none 0 0]):=kr
abbrev Uu(w:World)(base:Nat)(v:Value)(bs:List Bool): Prop:=w.ownsRow base 4 1 v bs.length (bs.map Value.bool)
theorem Jmq(h:i<bs.length): (bs.map Value.bool)[i]?=some (.bool (bs.getD i false)):=by grind
theorem Qtz(bs:List Bool)(i k:Nat)(x:Bool)(hi:i<bs.length): (bs.set i x).getD k false=if k=i then x else bs.getD k false:=Jln false bs i k x hi
theorem Jhp{n:Int}{ats:List Atm}(h:AtsV w v ats): Ret prog 61 [.int .i64 n,v] w λu w'=>Ext w w'/\∃ e,u=.int .i64 e/\(e=0↔Jvs n ats):=by
 obtain⟨ts,A,c,rfl,rfl,bm,bl,hR,bq⟩:=h;generalize hm:ts.length=m at *
 refine enE func61 ntmps61 ?_;refine ρ ?_;refine Yg (fun (t:Bool)=>[(0,.int .i64 n),(1,.slice A m c),(16,.bool t)]) (λt w'=>w'=w/\(t=true↔¬ (0<=n/\n<=32))) ?_ ?_
 .refine ki 13 (λh=>?_) (λh=>?_)
  .refine ρ ?_;exact Jf true sB ⟨rfl,by grind⟩
  refine ρ ?_;refine Jf _ sB ⟨rfl,?_⟩;grind
 rintro t w' ⟨rfl,ht⟩;refine ci (λh=>?_) (λh=>?_)
 .refine ρ ?_;exact Jj ⟨Ext.refl _,3,rfl,⟨λe=>(by cases e),λe=>absurd ⟨e.1,e.2.1⟩ (ht.1 h)⟩⟩
 have hn:0<=n/\n<=32:=by grind
 obtain⟨ba,bj⟩:=hn;obtain⟨N,rfl⟩:=Int.eq_ofNat_of_zero_le ba;clear h ht;refine ciR (λh=>?_) (λh=>?_)
 .refine ρ ?_;refine Jj ⟨Ext.refl _,12,rfl,⟨λe=>(by cases e),λe=>?_⟩⟩;have h1:=e.2.2.1;grind
 have bg:m<=32:=by grind
 clear h;refine ρ ?_;refine mkn EB N om (by unfold maxLen;omega) ?_;intro w1 O b7 av hO;have au:Uu w1 w'.heap.size (.slice O N N) (List.replicate N false):=by
  rw[Uu,List.length_replicate,List.map_replicate];have e:(madeCells (Value.bool false).cells (N*1)).toList=List.replicate N (Value.bool false):=by rw[Nat.mul_one];exact Us _ _
  rw[e]at av;exact av
 refine ρ ?_;refine Jo (fun (i:Nat) (Z:List Bool)=>[(0,.int .i64 (N:Int)),(5,.slice O N N),(22,.slice A m c),(23,.int .i64 (m:Int)),(24,.int .i64 (i:Int))])
  (λi Z w2=>i<=m/\Ext w' w2/\Z.length=N/\Uu w2 w'.heap.size (.slice O N N) Z/\(∀ j,j<i->Jvw N (ts.getD j ta0).2)/\∀ v:Nat,v<N->(Z.getD v false=true↔∃ j,j<i/\(v:Int)∈(ts.getD j ta0).2.vars)) (λi _=>m-i) 0 (List.replicate N false) sB
  ⟨Nat.zero_le _,b7,by simp,au,λj hj=>om,λv hv=>⟨λe=>by simp[List.getD,hv]at e,λ⟨j,hj,_⟩=>om⟩⟩ ?_
 rintro i Z w2 ⟨hi,ac,a1,ah,b9,a4⟩;refine ciR (λh=>?_) (λh=>?_)
 .have li:i<m:=by have:=oT h;omega
  have b2:=hR.ext ac;obtain⟨t1,t2,t3,a,hp⟩:∃ t1 t2 t3 a,ts.getD i ta0=((t1,t2,t3),a):=⟨_,_,_,_,rfl⟩;have ak:AtV w' (t1,t2,t3) a:=by grind
  have ax:a∈ts.map (·.2):=by grind
  clear h;obtain⟨⟨D,d,e1,hd,bp,az⟩,e2,ag⟩:=id ak;simp only at e1 e2;subst e1;subst e2;obtain⟨ps,G,gc,_,ao,_⟩:=id ag;simp only at ao;subst ao;refine Qu 3 i b2 li ?_;refine Jt (cs:=[.slice D a.vars.length d,.int .i64 (a.ar:Int),.slice G ps.length gc]) (λj u hu=>Jvv b2 hm li (by rw[hp];exact hu)) ?_;refine Jv Yf ?_;intro w3 b b6 hb hB;refine Qw hB ?_ ak.one;intro w4 aj bo b5;have ae:Ext w2 w4:=b5 w2 b6 hb;have a6:=ac.trans ae;have aq:=Jk ah ae;have a2:¬ Jvw N a->¬ Jvs N (ts.map (·.2)):=λh1 h2=>h1 (h2.2.2.2.1 a ax)
  refine ρ ?_;refine Qf (fun (k:Nat)=>[(0,.int .i64 (N:Int)),(5,.slice O N N),(22,.slice A m c),(23,.int .i64 (m:Int)),(24,.int .i64 (i:Int)),(7,.pointer (some ⟨b,0,none⟩)),(8,.int .i64 (k:Int))])
   (λk w5=>Ext w4 w5/\1<=k/\(k<=a.vars.length∨k=1)/\∀ j,0<j->j<k->a.vars.getD (j-1) 0<a.vars.getD j 0) (λk=>a.vars.length-k) 1 sB ⟨Ext.refl _,Nat.le_refl _,.inr rfl,λj h1 h2=>om⟩ ?_
  rintro k w5 ⟨ab,bc,bb,af⟩;have ad:=aj.ext ab;refine ldR (ad.at (i:=0) rfl) ?_;refine ciR (λh=>?_) (λh=>?_)
  .have lk:k<a.vars.length:=by have:=oT h;omega
   have am:k-1<a.vars.length:=om
   clear h;refine drR (scq 12 []) ?_;have a3:=ab.drew;have a5:=aj.ext a3;have J:=az.ext (a6.trans a3);refine Jz (a5.at (i:=0) rfl) ?_;refine Jb (k-1) J am ?_;refine Jz (J.cell (Jwv am)) ?_;refine Jz (a5.at (i:=0) rfl) ?_;refine Jb k J lk ?_;refine Jz (J.cell (Jwv lk)) ?_;refine ρd ?_;refine ciR (λh=>?_) (λh=>?_)
   .refine ρ ?_;refine Jj ⟨a6.trans a3,16,rfl,⟨λe=>(by cases e),λe=>absurd e (a2 λh1=>?_)⟩⟩;have:=h1.1 k om lk;grind
   refine ρ ?_;refine Qy (k+1) sO ⟨a3,om,om,λj h1 h2=>?_⟩ om;grind
  have ai:ascB a.vars:=λj h1 h2=>af j h1 (by grind);clear h af bc bb;have an:=a6.trans ab;have ap:=Jk aq ab;refine ldR (ad.at (i:=0) rfl) ?_;refine ρ ?_;refine Jo (fun (q:Nat) (Z:List Bool)=>[(0,.int .i64 (N:Int)),(5,.slice O N N),(22,.slice A m c),(23,.int .i64 (m:Int)),(24,.int .i64 (i:Int)),(7,.pointer (some ⟨b,0,none⟩)),(48,.slice D a.vars.length d),(49,.int .i64 (a.vars.length:Int)),(50,.int .i64 (q:Int))])
   (λq Z w6=>q<=a.vars.length/\Ext w' w6/\Z.length=N/\Uu w6 w'.heap.size (.slice O N N) Z/\Blk w6 b 134 [.slice D a.vars.length d,.int .i64 (a.ar:Int),.slice G ps.length gc]/\(∀ j,j<q->0<=a.vars.getD j 0/\a.vars.getD j 0<N)/\∀ v:Nat,v<N->(Z.getD v false=true↔(∃ j,j<i/\(v:Int)∈(ts.getD j ta0).2.vars)∨∃ j,j<q/\a.vars.getD j 0=(v:Int))) (λq _=>a.vars.length-q) 0 Z sB
   ⟨Nat.zero_le _,an,a1,ap,ad,λj hj=>om,λv hv=>⟨λe=>.inl ((a4 v hv).1 e),λe=>(a4 v hv).2 (e.elim id λ⟨j,hj,_⟩=>om)⟩⟩ ?_
  clear ah aq ap ad aj a4 a1;rintro q Z w6 ⟨hq,aa,a1,a8,a5,bn,a4⟩;refine ciR (λh=>?_) (λh=>?_)
  .have lq:q<a.vars.length:=by have:=oT h;omega
   have J:=az.ext aa;have b8:a.vars.getD q 0∈a.vars:=getD_mem' 0 _ lq;clear h;refine ixR q J lq ?_;refine ldR (J.cell (Jwv lq)) ?_;refine ρ ?_;generalize hz:a.vars.getD q 0=z at *
   refine Yg (fun (t:Bool)=>[(0,.int .i64 (N:Int)),(5,.slice O N N),(22,.slice A m c),(23,.int .i64 (m:Int)),(24,.int .i64 (i:Int)),(7,.pointer (some ⟨b,0,none⟩)),(48,.slice D a.vars.length d),(49,.int .i64 (a.vars.length:Int)),(50,.int .i64 (q:Int)),(10,.int .i64 z),(60,.bool t)]) (λt w7=>w7=w6/\(t=true↔¬ (0<=z/\z<N))) ?_ ?_
   .refine ki 56 (λh=>?_) (λh=>?_)
    .refine ρ ?_;exact Jf true sB ⟨rfl,by grind⟩
    refine ρ ?_;refine Jf _ sB ⟨rfl,?_⟩;grind
   rintro t w7 ⟨rfl,ht⟩;refine ci (λh=>?_) (λh=>?_)
   .refine ρ ?_;exact Jj ⟨aa,3,rfl,⟨λe=>(by cases e),λe=>absurd e (a2 λh1=>ht.1 h (h1.2.1 z b8))⟩⟩
   have b4:0<=z/\z<N:=by grind
   obtain⟨x,rfl⟩:=Int.eq_ofNat_of_zero_le b4.1;have lx:x<N:=om
   rw[Uu,a1]at a8;obtain⟨s1,s2,s3,s4,s5⟩:=Zt a8 (q:=x) om (.bool true);refine ixR x (Rd.own a8) lx ?_;refine Xq (s1.trans (Jmq om)) s2 ?_;refine ρ ?_;refine Jl (q+1) (Z.set x true) sO ⟨om,Ql aa s5 (λk hk=>by grind [Jy]),by simpa using a1,?_,a5.grown s5 (a5.ne_own a8 rfl),λj hj=>?_,λv hv=>?_⟩ om
   .rw[Uu,List.length_set,a1,List.map_set];exact s3
   repeat grind
  have eq:q=a.vars.length:=by have:=oF h;omega
  clear h;have ay:∀ v∈a.vars,0<=v/\v<N:=λv hv=>by grind [List.getElem_of_mem,Qd]
  refine drR (scq 7 [5]) ?_;have a7:=aa.drew;have b3:=a5.ext (Ext.refl w6).drew;have bf:=ak.ext a7;refine Jz (b3.at (i:=0) rfl) ?_;refine Qz (cs:=[.int .i64 (a.ar:Int),.slice G ps.length gc]) (λj u hu=>Blk.at2 b3 (i:=0+1) (by grind)) ?_;refine Jh (Jgh bf.rel) ?_;rintro u w8 ⟨rfl,a9⟩;refine⟨a9,?_⟩;refine ρd ?_;refine ciR (λh=>?_) (λh=>?_)
  .refine ρ ?_;refine Jj ⟨a7.trans a9,6,rfl,⟨λe=>(by cases e),λe=>absurd e (a2 λh1=>?_)⟩⟩;have:=Km h;have:=h1.2.2;omega
  refine ρ ?_;have bd:a.vars.length=a.ar:=by have:=Jqf h;omega
  refine Jl (i+1) Z sO ⟨om,a7.trans a9,a1,Jk (Jk a8 (Ext.refl w6).drew) a9,λj hj=>?_,λv hv=>?_⟩ om
  .by_cases ej:j=i
   .subst ej;rw[hp];exact⟨ai,ay,bd⟩
   exact b9 j om
  repeat grind [getD_mem',List.getElem_of_mem,Qd]
 have ei:i=m:=by have:=oF h;omega
 clear h;subst a1;have be:RdB w2 O Z:=Rd.own ah;have b1:∀ a∈ts.map (·.2),Jvw Z.length a:=λa ha=>by grind [List.mem_map.1,List.getElem_of_mem,Qd,ta0]
 refine clR (Xxb be om) ?_;rintro u w3 ⟨rfl,t,rfl,ht⟩;refine ciR (λh=>?_) (λh=>?_)
 .refine ρ ?_;refine Jj ⟨ac,22,rfl,⟨λe=>(by cases e),λe=>?_⟩⟩;obtain⟨x,hx,ex⟩:=List.getElem_of_mem (ht.1 h);obtain⟨a,ha,bh⟩:=e.2.2.2.2 x om;grind [List.mem_map.1,List.getElem_of_mem,Qd,ta0]
 refine ρ ?_;refine Jj ⟨ac,0,rfl,⟨λ_=>⟨om,om,by rw[List.length_map];omega,b1,λv hv=>?_⟩,λ_=>rfl⟩⟩;have bi:v<Z.length:=om
 grind
open Go.RowKit Pl Go.Wk
structure Inp where
 n: Int
 free:Int
 desc:List Bool
 perm:List Int
 ats:List Atm
def InC(w:World)(i:Inp)(cs:List Value): Prop:=∃ vd vp va,cs=[.int .i64 i.n,.int .i64 i.free,vd,vp,va]/\BoolsV w vd i.desc/\IntsV w vp i.perm/\AtsV w va i.ats
theorem InC.ext{w w':World}{i:Inp}{cs:List Value}(h:InC w i cs)(hx:Ext w w'): InC w' i cs:=by
 obtain⟨u,j,D,e,O,J,G⟩:=h;exact⟨u,j,D,e,O.ext hx,J.ext hx,G.ext hx⟩
def InV(w:World)(v:Value)(i:Inp): Prop:=∃ cs,v=.agg cs.toArray/\InC w i cs
theorem InV.ext{w w':World}{v:Value}{i:Inp}(h:InV w v i)(hx:Ext w w'): InV w' v i:=by
 obtain⟨cs,e,h⟩:=h;exact⟨cs,e,h.ext hx⟩
def Jqv(i:Inp): Prop:=0<=i.n/\i.n<=32/\0<=i.free/\i.free<=i.n/\(i.desc.length:Int)=i.free/\(i.perm.length:Int)=i.n-i.free/\(∀ v∈i.perm,i.free<=v/\v<i.n)/\i.perm.Nodup/\Jvs i.n i.ats
theorem Qzd{w:World}{v:Value}{inp:Inp}(h:InV w v inp)(hn64:-9223372036854775808<=inp.n/\inp.n<=9223372036854775807)(hf64:-9223372036854775808<=inp.free/\inp.free<=9223372036854775807): Ret Tryz.prog 12 [v] w λu w'=>Ext w w'/\∃ e,u=.int .i64 e/\(e=0↔Jqv inp):=by
 obtain⟨_,rfl,vd,vp,va,rfl,ac,ab,a8⟩:=h;obtain⟨n,free,a5,perm,ats⟩:=inp;simp only at ac ab a8 hn64 hf64 ⊢;obtain⟨D,dc,rfl,b4,b3,b2⟩:=id ac;obtain⟨G,gc,rfl,az,ay,ao⟩:=id ab;obtain⟨ts,A,c,_,rfl,_⟩:=id a8;refine enE Tryz.func12 Tryz.ntmps12 ?_;refine bxR ?_;intro w1 b a7 hb J;refine ρ ?_;refine Yg (fun (t:Bool)=>[(1,.pointer (some ⟨b,0,none⟩)),(25,.bool t)]) (λt w'=>w'=w1/\(t=true↔¬ (0<=n/\n<=32/\0<=free/\free<=n))) ?_ ?_
 .refine ld (J.at (i:=0) rfl) ?_;refine ρ ?_;refine ki 9 (λh=>?_) (λh=>?_)
  .have:=oT h;refine ρ ?_;exact Jf true sB ⟨rfl,by simp;omega⟩
  have h1:=oF h;refine ldR (J.at (i:=0) rfl) ?_;refine ρ ?_;refine ki 14 (λh=>?_) (λh=>?_)
  .have:=oT h;refine ρ ?_;exact Jf true sB ⟨rfl,by simp;omega⟩
  have h2:=oF h;refine ldR (J.at (i:=1) rfl) ?_;refine ρ ?_;refine ki 19 (λh=>?_) (λh=>?_)
  .have:=oT h;refine ρ ?_;exact Jf true sB ⟨rfl,by simp;omega⟩
  have h3:=oF h;refine ldR (J.at (i:=1) rfl) ?_;refine ldR (J.at (i:=0) rfl) ?_;refine ρ ?_;refine Jf _ sB ⟨rfl,?_⟩;grind
 rintro t w' ⟨rfl,ht⟩;refine ci (λh=>?_) (λh=>?_)
 .refine ρ ?_;exact Jj ⟨a7,3,rfl,⟨λe=>(by cases e),λe=>absurd ⟨e.1,e.2.1,e.2.2.1,e.2.2.2.1⟩ (ht.1 h)⟩⟩
 have hn:0<=n/\n<=32/\0<=free/\free<=n:=by grind
 obtain⟨an,ax,ap,b1⟩:=hn;obtain⟨N,rfl⟩:=Int.eq_ofNat_of_zero_le an;obtain⟨F,rfl⟩:=Int.eq_ofNat_of_zero_le ap;clear h ht;refine ldR (J.at (i:=2) rfl) ?_;refine ldR (J.at (i:=1) rfl) ?_;refine ρ ?_;refine Yg (fun (t:Bool)=>[(1,.pointer (some ⟨b,0,none⟩)),(42,.bool t)]) (λt w2=>w2=w'/\(t=true↔¬ (a5.length=F/\perm.length+F=N))) ?_ ?_
 .refine ki 32 (λh=>?_) (λh=>?_)
  .have:=Km h;refine ρ ?_;exact Jf true sB ⟨rfl,by simp;omega⟩
  have h1:=Jqf h;refine ldR (J.at (i:=3) rfl) ?_;refine ldR (J.at (i:=0) rfl) ?_;refine ldR (J.at (i:=1) rfl) ?_;refine ρ ?_;refine Jf _ sB ⟨rfl,?_⟩;rw[bne_iff_ne];omega
 rintro t2 w2 ⟨rfl,ht⟩;refine ci (λh=>?_) (λh=>?_)
 .refine ρ ?_;refine Jj ⟨a7,1,rfl,⟨λe=>(by cases e),λe=>absurd ?_ (ht.1 h)⟩⟩;have h5:=e.2.2.2.2.1;have h6:=e.2.2.2.2.2.1;simp only at h5 h6;omega
 have aq:a5.length=F/\perm.length+F=N:=by grind
 obtain⟨b5,av⟩:=aq;clear h ht;refine ldR (J.at (i:=0) rfl) ?_;refine ρ ?_;refine mkn EB N om (by unfold maxLen;omega) ?_;intro w3 O aa ae hO;have ad:Uu w3 w2.heap.size (.slice O N N) (List.replicate N false):=by
  rw[Uu,List.length_replicate,List.map_replicate];have e:(madeCells (Value.bool false).cells (N*1)).toList=List.replicate N (Value.bool false):=by rw[Nat.mul_one];exact Us _ _
  rw[e]at ae;exact ae
 refine ldR ((J.ext aa).at (i:=3) rfl) ?_;refine ρ ?_;refine Jo (fun (i:Nat) (us:List Bool)=>[(1,.pointer (some ⟨b,0,none⟩)),(3,.slice O N N),(47,.slice G perm.length gc),(48,.int .i64 (perm.length:Int)),(49,.int .i64 (i:Int))])
  (λi us w4=>i<=perm.length/\Ext w2 w4/\us.length=N/\Uu w4 w2.heap.size (.slice O N N) us/\(∀ v∈perm.take i,(F:Int)<=v/\v<N)/\(perm.take i).Nodup/\∀ v:Nat,v<N->(us.getD v false=true↔(v:Int)∈perm.take i)) (λi _=>perm.length-i) 0 (List.replicate N false) sB
  ⟨Nat.zero_le _,aa,by simp,ad,λv hv=>by simp at hv,by simp,λv hv=>⟨λe=>by simp[List.getD,hv]at e,λe=>by simp at e⟩⟩ ?_
 rintro i us w4 ⟨hi,a6,a1,Z,af,a9,ar⟩;have a3:=J.ext a6;have j:=a7.trans a6;refine ciR (λh=>?_) (λh=>?_)
 .have li:i<perm.length:=by have:=oT h;omega
  have a4:=ao.ext j;clear h;have ah:perm.getD i 0∈perm:=getD_mem' 0 perm li;have am:perm.take (i+1)=perm.take i++[perm.getD i 0]:=Qs 0 li;have a2:perm.Nodup->perm.getD i 0 ∉ perm.take i:=λa9 hm=>by grind [List.take_sublist,List.nodup_append,List.mem_singleton.2]
  refine ixR i a4 li ?_;refine ldR (a4.cell (Jwv li)) ?_;refine ldR (a3.at (i:=1) rfl) ?_;refine ρ ?_;generalize hz:perm.getD i 0=z at *
  refine Yg (fun (t:Bool)=>[(1,.pointer (some ⟨b,0,none⟩)),(3,.slice O N N),(47,.slice G perm.length gc),(48,.int .i64 (perm.length:Int)),(49,.int .i64 (i:Int)),(5,.int .i64 z),(68,.bool t)]) (λt w5=>w5=w4/\(t=true↔¬ ((F:Int)<=z/\z<N/\z ∉ perm.take i))) ?_ ?_
  .refine ki 57 (λh=>?_) (λh=>?_)
   .have:=oT h;refine ρ ?_;exact Jf true sB ⟨rfl,by simp;omega⟩
   have h1:=oF h;refine ldR (a3.at (i:=0) rfl) ?_;refine ρ ?_;refine ki 63 (λh=>?_) (λh=>?_)
   .have:=oT h;refine ρ ?_;exact Jf true sB ⟨rfl,by simp;omega⟩
   have h2:=oF h;have ai:0<=z:=om
   obtain⟨x,rfl⟩:=Int.eq_ofNat_of_zero_le ai;have lx:x<N:=om
   have ag:Rd w4 1 O N (us.map Value.bool):=by rw[Uu,a1]at Z;exact Rd.own Z
   refine ixR x ag lx ?_;refine ρ ?_;have aj:x<us.length:=om
   refine ld (ag.cell (Jmq aj)) ?_;refine ρ ?_;refine Jf _ sB ⟨rfl,?_⟩;grind
  rintro t5 w5 ⟨rfl,ht⟩;refine ci (λh=>?_) (λh=>?_)
  .refine ρ ?_;refine Jj ⟨j,1,rfl,⟨λe=>(by cases e),λe=>absurd ?_ (ht.1 h)⟩⟩;have h7:=e.2.2.2.2.2.2.1 z ah;have h8:=a2 e.2.2.2.2.2.2.2.1;exact⟨h7.1,h7.2,h8⟩
  have au:(F:Int)<=z/\z<N/\z ∉ perm.take i:=by grind
  obtain⟨x,rfl⟩:=Int.eq_ofNat_of_zero_le (show 0<=z by omega);have lx:x<N:=om
  rw[Uu,a1]at Z;obtain⟨s1,s2,s3,s4,s5⟩:=Zt Z (q:=x) om (.bool true);refine ixR x (Rd.own Z) lx ?_;refine Xq (s1.trans (Jmq om)) s2 ?_;refine ρ ?_;refine Jl (i+1) (us.set x true) sO ⟨om,Ql a6 s5 (λk hk=>by grind [Jy]),by simpa using a1,?_,λv hv=>?_,?_,λv hv=>?_⟩ om
  .rw[Uu,List.length_set,a1,List.map_set];exact s3
  .grind
  .grind [List.nodup_append,List.mem_singleton]
  rw[Qtz _ _ _ _ om,am,List.mem_append,List.mem_singleton];grind
 have ei:i=perm.length:=by have:=oF h;omega
 clear h;rw[ei,List.take_of_length_le (nR _)]at af a9;refine ldR (a3.at (i:=0) rfl) ?_;refine ldR (a3.at (i:=4) rfl) ?_;refine clR (Jhp (a8.ext j)) ?_;rintro u w5 ⟨ak,e,rfl,he⟩;refine ρ ?_;refine Jj ⟨j.trans ak,e,rfl,he.trans ⟨λh'=>⟨by simp only;omega,by simp only;omega,by simp only;omega,by simp only;omega,by simp only;omega,by simp only;omega,af,a9,h'⟩,λh'=>h'.2.2.2.2.2.2.2.2⟩⟩
end Go.Proofs.YtgobkbeokaaplaaGreatDoor
namespace Go.Proofs.YtgobkbeokaaplaaGreatDoor
open Pl
variable {f:List Nat}{rs:List Row}{d i j l:Nat}{q x:Row}
def pfx(rs:List Row)(l:Nat): List Row:=ddF (rs.map (List.take l))
theorem Qqb(rs:List Row)(x:Row)(l:Nat): pfx (rs++[x]) l=ddS (pfx rs l) (x.take l):=by
 unfold pfx;rw[List.map_append,List.map_cons,List.map_nil,Jmb]
theorem Qwj: ∀(a b:Row) (l:Nat),Jw a b []<=0->Jw (a.take l) (b.take l) []<=0
 | _,_,0,_=>by simp[Jw]
 | [],[],_+1,_=>by simp[Jw]
 | [],_::_,_+1,_=>by simp[Jw]
 | _::_,[],_+1,h=>by simp[Jw]at h
 | x::a,y::b,l+1,h=>by
  simp only[List.take_succ_cons,Jw,List.drop_nil]at h ⊢;by_cases e:cmpV x y=0
  .rw[if_pos e]at h ⊢;exact Qwj a b l h
  repeat grind
theorem Qgc(h:Srt [] rs)(l:Nat): Srt [] (rs.map (List.take l)):=by grind [Srt,Qwj]
theorem Ge(h:Lt [] rs): Srt [] rs:=h.imp λi=>by omega
theorem Jwk(h:Srt [] rs)(l:Nat): IsSet [] (rs.map (List.take l)) (pfx rs l):=Jmc (Qgc h l)
theorem Jwl(h:Srt [] rs): q∈pfx rs l↔∃ r∈rs,r.take l=q:=by
 rw[(Jwk h l).2,List.mem_map]
theorem Qmm(h:Lt [] rs)(hl:∀ r∈rs,r.length=d): pfx rs d=rs:=by
 have e:rs.map (List.take d)=rs:=by
  conv=>rhs;rw[<-List.map_id rs]
  exact List.map_congr_left λr j=>by grind
 have i:=Jwk (Ge h) d;rw[e]at i;exact Jjv i.1 h i.2
theorem Qqc: (pfx (rs++[x]) l).getLast?=some (x.take l):=by grind [Qqb,Qkq]
def shr: Row->Row->Nat
 | a::x,b::y=>if a=b then shr x y+1 else 0
 | _,_=>0
theorem Jfh(y:Row): shr [] y=0:=by cases y<;>rfl
theorem Jsq: ∀ x y:Row,shr x y<=x.length/\shr x y<=y.length
 | [],y=>by rw[Jfh];simp
 | _::_,[]=>by simp[shr]
 | a::x,b::y=>by
  have:=Jsq x y;simp only[shr,List.length_cons];split<;>omega
theorem Jsp: ∀(x y:Row) (l:Nat),x.length=y.length->(x.take l=y.take l↔l<=shr x y∨x=y)
 | [],[],l,_=>by simp
 | [],_::_,_,h=>by simp at h
 | _::_,[],_,h=>by simp at h
 | a::x,b::y,0,_=>by simp
 | a::x,b::y,l+1,h=>by
  have ih:=Jsp x y l (by simpa using h);grind [List.cons.injEq,shr]
def lvl(rs:List Row)(l:Nat): Row:=(pfx rs (l+1)).map λq=>q.getD l V0
theorem Jzp(rs:List Row)(l:Nat): (lvl rs l).length=(pfx rs (l+1)).length:=by simp[lvl]
theorem Qrn(h:i<(pfx rs (l+1)).length): (lvl rs l).getD i V0=((pfx rs (l+1)).getD i []).getD l V0:=by grind [Qd,V0,Jzp,lvl]
def Fst(rs:List Row)(l:Nat)(f:List Nat): Prop:=f.length=(pfx rs (l+1)).length/\(∀ j,j<f.length->f.getD j 0<=(pfx rs (l+2)).length) /\
 ∀ j i,j<f.length->i<(pfx rs (l+2)).length->(((pfx rs (l+2)).getD i []).take (l+1)=(pfx rs (l+1)).getD j []↔f.getD j 0<=i/\(j+1<f.length->i<f.getD (j+1) 0))
def stp(rs:List Row)(x:Row): Nat:=match rs.getLast? with
 | some y=>shr y x
 | none=>0
theorem Jqd(h:Lt [] (rs++[x]))(hl:∀ r∈rs++[x],r.length=d)(h0:0<l): pfx (rs++[x]) l=if l<=stp rs x then pfx rs l else pfx rs l++[x.take l]:=by
 rw[Qqb];rcases List.eq_nil_or_concat rs with rfl|⟨r,y,rfl⟩
 .rw[if_neg (by simp[stp];omega)];rfl
 rw[List.concat_eq_append]at *;have j:(r++[y]).getLast?=some y:=by simp
 have i:Jw y x []<0:=(List.pairwise_append.1 h).2.2 y (by simp) x (by simp);grind [Ya,stp,shr,ddS,Qqc,Jsp]
theorem Qmk(h:Lt [] (rs++[x]))(hl:∀ r∈rs++[x],r.length=d)(h0:0<l)(hs:stp rs x<l): x.take l ∉ pfx rs l:=by
 have e:=Jqd h hl h0;rw[if_neg om]at e;have i:=(Jwk (Ge h) l).1;rw[e]at i;intro j;have:=(List.pairwise_append.1 i).2.2 _ j (x.take l) (by simp);grind [Ya]
theorem Qrr{l:List Row}(h:Lt [] l)(hi:i<l.length)(hj:j<l.length)(e:l.getD i []=l.getD j []): i=j:=by
 rcases Nat.lt_trichotomy i j with h'|h'|h'
 .have:=h.at h' hj;rw[e,Ya]at this;omega
 .exact h'
 have:=h.at h' hi;rw[e,Ya]at this;omega
theorem Qzp{α:Type}(z:α)(l:List α)(x:α)(k:Nat): (l++[x]).getD k z=if k<l.length then l.getD k z else if k=l.length then x else z:=by grind
theorem take_take'(q:Row)(l:Nat): (q.take (l+2)).take (l+1)=q.take (l+1):=by grind
theorem Qmj(h:Srt [] rs)(hi:i<(pfx rs (l+2)).length): ((pfx rs (l+2)).getD i []).take (l+1)∈pfx rs (l+1):=by grind [Jwl,getD_mem',take_take']
theorem Fst.keep(hF:Fst rs l f)(h:Lt [] (rs++[x]))(hl:∀ r∈rs++[x],r.length=d)(hs:l+1<=stp rs x): Fst (rs++[x]) l f:=by
 obtain⟨Z,h2,h3⟩:=hF;have e1:pfx (rs++[x]) (l+1)=pfx rs (l+1):=by rw[Jqd h hl om,if_pos hs]
 have u:Lt [] rs:=(List.pairwise_append.1 h).1;have D:0<(pfx rs (l+1)).length/\(pfx rs (l+1)).getD ((pfx rs (l+1)).length-1) []=x.take (l+1):=by grind [Qqc,List.getElem?_eq_some_iff.1,Qd]
 have J:Lt [] (pfx rs (l+1)):=(Jwk (Ge u) _).1;by_cases hs2:l+2<=stp rs x
 .have G:pfx (rs++[x]) (l+2)=pfx rs (l+2):=by rw[Jqd h hl om,if_pos hs2]
  grind [Fst]
 have G:pfx (rs++[x]) (l+2)=pfx rs (l+2)++[x.take (l+2)]:=by rw[Jqd h hl om,if_neg hs2]
 unfold Fst;rw[e1,G];refine⟨Z,λj O=>?_,λj i O hi=>?_⟩;repeat grind [List.length_append,List.length_singleton,Qzp,pfx,take_take',Qrr]
theorem Fst.more(hF:Fst rs l f)(h:Lt [] (rs++[x]))(hl:∀ r∈rs++[x],r.length=d)(hs:stp rs x<=l): Fst (rs++[x]) l (f++[(pfx rs (l+2)).length]):=by
 obtain⟨G,h2,Z⟩:=hF;have u:Lt [] rs:=(List.pairwise_append.1 h).1;have O:pfx (rs++[x]) (l+1)=pfx rs (l+1)++[x.take (l+1)]:=by rw[Jqd h hl om,if_neg om]
 have J:pfx (rs++[x]) (l+2)=pfx rs (l+2)++[x.take (l+2)]:=by rw[Jqd h hl om,if_neg om]
 have hn:=Qmk h hl (l:=l+1) om om;unfold Fst;rw[O,J];refine⟨by simp[G],λj D=>?_,λj i D hi=>?_⟩
 .grind
 repeat grind [List.length_append,List.length_singleton,Qzp,pfx,take_take',getD_mem',Qmj,Ge]
def Chl(rs:List Row)(l:Nat)(f:List Nat): Prop:=f.length=(pfx rs (l+1)).length+1/\(∀ j,j<f.length->f.getD j 0<=(pfx rs (l+2)).length) /\
 ∀ j i,j+1<f.length->i<(pfx rs (l+2)).length->(((pfx rs (l+2)).getD i []).take (l+1)=(pfx rs (l+1)).getD j []↔f.getD j 0<=i/\i<f.getD (j+1) 0)
theorem Fst.close(hF:Fst rs l f): Chl rs l (f++[(pfx rs (l+2)).length]):=by
 obtain⟨D,J,G⟩:=hF;refine⟨by simp[D],λj u=>?_,λj i u hi=>?_⟩;repeat grind
theorem Fst.nil(l:Nat): Fst [] l []:=⟨rfl,λj u=>by simp at u,λj i u=>by simp at u⟩
theorem Qqt(h:Lt [] (rs++[x]))(hl:∀ r∈rs++[x],r.length=d)(hd:l<d): lvl (rs++[x]) l=if l+1<=stp rs x then lvl rs l else lvl rs l++[x.getD l V0]:=by
 unfold lvl;rw[Jqd h hl om];grind
end Go.Proofs.YtgobkbeokaaplaaGreatDoor
namespace Go.Wk
open Go.RowKit
variable {c' cs news xs:List Value}{d g i k l m m' n t ty:Nat}{α:Type}{v v' z:Value}
def upd(f:Nat->α)(i:Nat)(x:α): Nat->α:=λk=>if k=i then x else f k
theorem Ju(f:Nat->α)(i:Nat)(x:α): upd f i x i=x:=by simp[upd]
theorem Jm(f:Nat->α)(x:α)(h:k≠i): upd f i x k=f k:=by simp[upd,h]
structure Fam(w:World)(base e sz n:Nat)(v:Nat->Value)(m:Nat->Nat)(c:Nat->List Value): Prop where
 own:∀ i,i<n->w.ownsRow base e sz (v i) (m i) (c i)
 dis:∀ i j g,i<n->j<n->i≠j->(v i).ownBlock=some g->(v j).ownBlock≠some g
section
variable {w w':World} {base e sz n:Nat} {v:Nat->Value} {m:Nat->Nat} {c:Nat->List Value}
theorem Fam.ext(h:Fam w base e sz n v m c)(hx:Ext w w'): Fam w' base e sz n v m c:=⟨λi hi=>Jk (h.own i hi) hx,h.dis⟩
theorem Fam.gr{N:Nat->Prop}(h:Fam w base e sz n v m c)(hg:GrN N w w')(hN:∀ i g,i<n->(v i).ownBlock=some g->¬ N g): Fam w' base e sz n v m c:=⟨λi hi=>Ja (h.own i hi) hg (hN i · hi),h.dis⟩
theorem Fam.other{base' e' sz':Nat}(h:Fam w base e sz n v m c)(h':w.ownsRow base' e' sz' v' m' xs)(hg:w.grownBy w' v'.ownBlock)(hne:Nat.beq e e'=false): Fam w' base e sz n v m c :=
 ⟨λi hi=>Zl (h.own i hi) h' hg hne,h.dis⟩
theorem Fam.box(h:Fam w base e sz n v m c)(hB:Blk w g t cs)(hg:w.grownBy w' (some g))(hne:Nat.beq e t=false): Fam w' base e sz n v m c :=
 ⟨λi hi=>(h.own i hi).kept hg (.inr (λj=>hB.ne_own (h.own i hi) hne j.symm)),h.dis⟩
theorem Fam.lt(h:Fam w base e sz n v m c)(hi:i<n)(hg:(v i).ownBlock=some g): base<=g/\g<w.heap.size:=by
 obtain⟨_,_,_,_,j⟩:=Jy (h.own i hi);exact j g hg
theorem Fam.upd(h:Fam w base e sz n v m c)(hi:i<n)(ho:w'.ownsRow base e sz v' m' c')(hg:w.grownBy w' (v i).ownBlock)(hb:∀ g,v'.ownBlock=some g->(v i).ownBlock=some g∨w.heap.size<=g):
  Fam w' base e sz n (upd v i v') (upd m i m') (upd c i c'):=by
 refine⟨λk D=>?_,λk j g D O u J G=>?_⟩
 .by_cases e:k=i
  .grind [Ju]
  rw[Jm _ _ e,Jm _ _ e,Jm _ _ e];refine(h.own k D).kept hg ?_;cases hb2:(v k).ownBlock with
  | none=>exact .inl rfl
  | some g=>exact .inr (λZ=>h.dis k i g D hi e hb2 Z.symm)
 by_cases ek:k=i<;>by_cases ej:j=i
 .omega
 .subst ek;rw[Ju]at J;rw[Jm _ _ ej]at G;rcases hb g J with h'|h'
  .exact h.dis k j g D O u h' G
  have:=(h.lt O G).2;omega
 .subst ej;rw[Ju]at G;rw[Jm _ _ ek]at J;rcases hb g G with h'|h'
  .exact h.dis k j g D O u J h'
  have:=(h.lt D J).2;omega
 rw[Jm _ _ ek]at J;rw[Jm _ _ ej]at G;exact h.dis k j g D O u J G
theorem Fam.grown(h:Fam w base e sz n v m c)(hi:i<n): ∀ g,(v i).ownBlock=some g->base<=g:=λg j=>(h.lt hi j).1
end
def Zu(d:Nat)(f g:Nat->Value): List Value:=(List.range d).flatMap λl=>[f l,g l]
theorem Jjb(d:Nat)(f g:Nat->Value): Zu (d+1) f g=Zu d f g++[f d,g d]:=by simp[Zu,List.range_succ,List.flatMap_append]
theorem Vt(d:Nat)(f g:Nat->Value): (Zu d f g).length=d*2:=by
 induction d with
 | zero=>rfl
 | succ d ih=>rw[Jjb,List.length_append,ih];simp;omega
theorem Kj(d:Nat)(f g:Nat->Value)(h:l<d): (Zu d f g)[l*2]?=some (f l)/\(Zu d f g)[l*2+1]?=some (g l):=by
 induction d with
 | zero=>omega
 | succ d ih=>
  rw[Jjb];by_cases e:l=d
  .subst e;rw[List.getElem?_append_right (by rw[Vt];omega),List.getElem?_append_right (by rw[Vt];omega),Vt];grind
  repeat grind
theorem Qzt{f g f' g':Nat->Value}(h1:∀ l,l<d->f l=f' l)(h2:∀ l,l<d->g l=g' l): Zu d f g=Zu d f' g':=by
 induction d with
 | zero=>rfl
 | succ d ih=>rw[Jjb,Jjb,ih (λl i=>h1 l om) (λl i=>h2 l om),h1 d om,h2 d om]
theorem Qzs(d:Nat)(f g:Nat->Value)(h:l<d)(u:Value): (Zu d f g).set (l*2) u=Zu d (upd f l u) g:=by
 induction d with
 | zero=>omega
 | succ d ih=>
  rw[Jjb,Jjb];by_cases e:l=d
  .subst e;rw[List.set_append_right _ _ (by rw[Vt];omega),Vt,Nat.sub_self,List.set_cons_zero,Ju];congr 1
   grind [Qzt,Jm]
  repeat grind [List.set_append_left,Vt,Jm]
theorem Qzr(d:Nat)(f g:Nat->Value)(h:l<d)(u:Value): (Zu d f g).set (l*2+1) u=Zu d f (upd g l u):=by
 induction d with
 | zero=>omega
 | succ d ih=>
  rw[Jjb,Jjb];by_cases e:l=d
  .subst e;rw[List.set_append_right _ _ (by rw[Vt];omega),Vt,Nat.add_sub_cancel_left,List.set_cons_succ,List.set_cons_zero,Ju];congr 1
   exact Qzt (λk i=>rfl) (λk i=>(Jm _ _ om).symm)
  repeat grind [List.set_append_left,Vt,Jm]
theorem apb{P:Program}{al:AL}{w:World}{Q:Exit->Act->World->Prop}{ops:Array Oper}{rest:List Oper}{pos:String}{aft:Array Edge}{e sz bytes base:Nat}(hE:ElT P t e sz bytes z){x y:Operand}{A':Option Addr}{c':Nat}(ha:w.ownsRow base e sz v m xs)(hr:Rd w sz A' m' news)(h1:∀ u∈news,u.oneCell'=true)(h63:m+m'<=maxLen)(hby:(m+m')*bytes<=140737488355328)(hbase:base<=w.heap.size)(kk:∀ v' w',w'.ownsRow base e sz v' (m+m') (xs++news)->w.grownBy w' v.ownBlock->(∀ g,v'.ownBlock=some g->v.ownBlock=some g∨w.heap.size<=g)->WL P n ops Q rest ((d,v')::al) w')(hx:ev al x=some v:=by rfl)(hy:ev al y=some (.slice A' m' c'):=by rfl)(hd:Nat.blt d n=true:=by rfl):
  WL P n ops Q (⟨some d,.call { callee:=.builtin .append,args:=#[x,y],argTypes:=#[t,t] },ty,pos,aft,none⟩::rest) al w:=by
 obtain⟨v',w',i,Z,O,J,G,D⟩:=Jtk hE base ty (.inl ha) (c':=c') hr h1 h63 hby hbase;refine wop hd (λa j=>?_) (kk v' w' (J ha) (G.elim (·.2) (λh=>Vz h _)) D)
 simp[execOp,resolve,invoke,builtin,j.ev hx,j.ev hy,i]
end Go.Wk
namespace Go.Wk
open Go.RowKit
variable {p:Addr}{b c:Bool}{a z:Int}{kd:IntKind}{l:List Oper}{cs:List Value}{e id j m s t:Nat}{o oi:Oper}{i x y:Operand}{A:Option Addr}{dst:Option Nat}{k:TK}{yt:TypeId}{v:Value}
section
variable {N:Nat->Prop} {P:Program} {ops:Array Oper} {Q:Exit->Act->World->Prop} {T:Nat->Bool}
def Gx(N:Nat->Prop)(P:Program)(ops:Array Oper)(Q:Exit->Act->World->Prop)(k:Nat)(o:Oper)(K:Act->World->Prop)(a:Act)(w:World): Prop :=
 match k with
 | 0=>∃ v,YieldsIf P ops (GrN N w) o v a/\K (a.put o.dst v) w
 | 1=>if Region.wanted o (yielded ops a.tmps) then o.wp P a w (λa' w'=>GrN N w w'/\K a' w') (QF Q) else K (a.put o.dst undef) w
 | _=>if Region.wanted o (yielded ops a.tmps) then o.wp P a w K (QF Q) else K (a.put o.dst undef) w
def Zf(N:Nat->Prop)(P:Program)(ops:Array Oper)(Q:Exit->Act->World->Prop): List (Nat×Oper)->Act->World->Prop
 | [],a,w=>Q .normal a w
 | p::r,a,w=>Gx N P ops Q p.1 p.2 (Zf N P ops Q r) a w
def Uh(N:Nat->Prop)(P:Program)(ops:Array Oper)(Q:Exit->Act->World->Prop)(T:Nat->Bool): Nat->Array Bool->Act->World->Prop
 | 0,listed,a,w=>Region.ready .any ops listed=[]/\Q .normal a w
 | fuel+1,listed,a,w=>
  (Region.ready .any ops listed=[]->Q .normal a w) /\
   ∀ i∈Region.ready .any ops listed,wpOp P ops (QF Q) i (λa' w'=>(T i=false->GrN N w w')/\Uh N P ops Q T fuel (listed.setIfInBounds i true) a' w') a w
theorem Jdq: ∀(fuel:Nat) (listed:Array Bool) (a:Act) (w:World),Uh N P ops Q T fuel listed a w->wpAny P .any ops Q fuel listed a w
 | 0,_,_,_,h=>h
 | fuel+1,_,_,_,h=>⟨h.1,λi hi=>wpOp_mono (λa' w' h'=>Jdq fuel _ a' w' h'.2) (Jyk (h.2 i hi))⟩
theorem Jpj(S:World->World->Prop)(hS0:∀ w,S w w)(hSt:∀ {a b c},S a b->S b c->S a c){i:Nat}(hi:ops[i]?=some oi)(hsel:∀(j:Nat) (o:Oper) cs b,ops[j]?=some o->o.op≠.select cs b)(hSx:∀ listed j,Closed ops listed->i∈Region.ready .any ops listed->j∈Region.ready .any ops listed->∀ w w',(T j=false->GrN N w w')->S w w'):
  ∀(fuel:Nat) (listed:Array Bool) (a:Act) (w:World),Closed ops listed ->
   (∀ j oj,ops[j]?=some oj->j≠i->listed.getD j true=false->(∀ e∈oj.after,Region.binds .any e=true->e.on≠i)->oi.apart ops oj=true) ->
   i∈Region.ready .any ops listed->YieldsIf P ops (S w) oi v a ->
   Uh N P ops Q T fuel (listed.setIfInBounds i true) (a.put oi.dst v) w->Uh N P ops Q T (fuel+1) listed a w:=by
 intro fuel;induction fuel with
 | zero=>
  intro listed a w Z _ G hy H;refine⟨λh=>(by rw[h]at G;cases G),λj hj=>?_⟩;by_cases hji:j=i
  .subst hji;exact hy.wpOp hi (hS0 w) ⟨λ_=>GrN.refl N w,H⟩
  have:=ready_mono hj hji;rw[H.1]at this;cases this
 | succ fuel ih=>
  intro listed a w Z u G hy H;refine⟨λh=>(by rw[h]at G;cases G),λj hj=>?_⟩;by_cases hji:j=i
  .subst hji;exact hy.wpOp hi (hS0 w) ⟨λ_=>GrN.refl N w,H⟩
  obtain⟨J,oj,O,a3⟩:=mem_ready.1 hj;have h1:=H.2 j (ready_mono hj hji);have a2:∀ e∈oj.after,Region.binds .any e=true->e.on≠i:=λe he hb a7=>by
   have h1:=a3 e he hb;have h0:=(mem_ready.1 G).1;grind
  have h2:=wpOp_putIf O (u j oj O hji J a2) (λcs b=>hsel i oi cs b hi) (λcs b=>hsel j oj cs b O) (λc a w h=>h) hy h1;have D:∀ k ok,ops[k]?=some ok->k≠i->(listed.setIfInBounds j true).getD k true=false ->
    (∀ e∈ok.after,Region.binds .any e=true->e.on≠i)->oi.apart ops ok=true:=λk ok hk a6 a1 a5=>by
   refine u k ok hk a6 ?_ a5;by_cases hjk:j=k
   .subst hjk;exact J
   rw[getD_set_ne true hjk]at a1;exact a1
  refine wpOp_mono (λa' w' h3=>⟨h3.2.1,ih (listed.setIfInBounds j true) a' w' (Z.step hj) D (ready_mono G (Ne.symm hji)) ?_ ?_⟩) h2
  .exact h3.1.imp (λ⟨h4,h5⟩=>⟨h4,λa4 hx=>h5 a4 (hSt (hSx listed j Z G hj w w' h3.2.1) hx)⟩) id
  rw[Array.setIfInBounds_comm _ _ hji];exact h3.2.2
theorem Jph(hsel:Region.noSelect ops=true)(F:Nat): ∀(s:List (Nat×Nat)) (listed:Array Bool) (a:Act) (w:World),Closed ops listed->(∀ p∈s,Nat.ble p.1 2=true)->(∀ p∈s,p.2<ops.size)->(∀ p∈s,(p.1 == 2)=T p.2) ->
  (∀ t,T t=true->t<ops.size->∀ p∈s,p.1=0->Up ops F t p.2=true)->Xt ops s listed=true->Zf N P ops Q (Qb ops.toList s) a w->Uh N P ops Q T s.length listed a w
 | [],listed,a,w,_,_,_,_,_,hB,h=>⟨by simpa [Xt] using hB,h⟩
 | (k,i)::r,listed,a,w,hcl,hk,hlt,hKT,hR,hB,h=>by
  have hi:i<ops.size:=hlt _ (List.mem_cons_self ..);have ho:ops[i]?=some ops[i]:=Array.getElem?_eq_getElem hi;have hn:nth ops.toList i=some ops[i]:=by rw[Xc];simp[hi]
  have hTi:=hKT _ (List.mem_cons_self ..);have hk0:=hk _ (List.mem_cons_self ..);simp only at hTi hk0;have hrec:Closed ops (listed.setIfInBounds i true)->Xt ops r (listed.setIfInBounds i true)=true->∀ a w,Zf N P ops Q (Qb ops.toList r) a w->Uh N P ops Q T r.length (listed.setIfInBounds i true) a w:=λhc' hB' a w h'=>
   Jph hsel F r _ a w hc' (λp hp=>hk p (List.mem_cons_of_mem _ hp)) (λp hp=>hlt p (List.mem_cons_of_mem _ hp)) (λp hp=>hKT p (List.mem_cons_of_mem _ hp)) (λt ht htl p hp=>hR t ht htl p (List.mem_cons_of_mem _ hp)) hB' h'
  have one:Xt ops r (listed.setIfInBounds i true)=true->Region.ready .any ops listed=[i]->(T i=false->if Region.wanted ops[i] (yielded ops a.tmps) then ops[i].wp P a w (λa' w'=>GrN N w w'/\Zf N P ops Q (Qb ops.toList r) a' w') (QF Q) else Zf N P ops Q (Qb ops.toList r) (a.put ops[i].dst undef) w) ->
    (T i=true->if Region.wanted ops[i] (yielded ops a.tmps) then ops[i].wp P a w (Zf N P ops Q (Qb ops.toList r)) (QF Q) else Zf N P ops Q (Qb ops.toList r) (a.put ops[i].dst undef) w)->Uh N P ops Q T (r.length+1) listed a w:=λhB' hr hf ht=>by
   have hcl':Closed ops (listed.setIfInBounds i true):=hcl.step (by grind);refine⟨λh0=>(by rw[hr]at h0;cases h0),λj hj=>?_⟩;rw[hr]at hj;obtain rfl:j=i:=by simpa using hj
   unfold wpOp;simp only[ho];cases hT:T j with
   | false=>
    have h:=hf hT;split
    .rename_i hw;simp only[hw,if_true]at h;exact .inl (Oper.wp_mono (λa' w' h'=>⟨λ_=>h'.1,hrec hcl' hB' _ _ h'.2⟩) h)
    repeat grind [GrN.refl]
   | true=>
    have h:=ht hT;split
    .rename_i hw;simp only[hw,if_true]at h;exact .inl (Oper.wp_mono (λa' w' h'=>⟨λh0=>(by cases h0),hrec hcl' hB' _ _ h'⟩) h)
    repeat grind
  match k,hTi,hk0,hR,hB,h with
  | 0,hTi,_,hR,hB,h=>
   simp only[Xt,Bool.and_eq_true]at hB;obtain⟨⟨hr,hf⟩,hB'⟩:=hB;have hr':i∈Region.ready .any ops listed:=by simpa using hr
   simp only[Qb,hn,Zf,Gx]at h;obtain⟨v,hy,h⟩:=h;refine Jpj (GrN N) (GrN.refl N) (λh k=>GrN.trans h k) ho (Region.noSelect_spec hsel) ?_ r.length listed a w hcl (Region.free_spec ho hf) hr' hy (hrec (hcl.step hr') hB' _ _ h);intro listed' j hcl' hri hrj w w' hx;cases hT:T j with
   | false=>exact hx hT
   | true=>
    obtain⟨_,oj,hoj,_⟩:=mem_ready.1 hrj;have h1:=Jxq hcl' F j i oj hoj (Jxp hoj hrj) (hR j hT (Array.getElem?_eq_some_iff.1 hoj).1 _ (List.mem_cons_self ..) rfl);have h0:=(mem_ready.1 hri).1;grind
  | 1,hTi,_,hR,hB,h=>
   simp only[Xt,Bool.and_eq_true,beq_iff_eq]at hB;simp only[Qb,hn,Zf,Gx]at h;grind
  | 2,hTi,_,hR,hB,h=>
   simp only[Xt,Bool.and_eq_true,beq_iff_eq]at hB;simp only[Qb,hn,Zf,Gx]at h;grind
  | k+3,_,hk0,_,_,_=>simp at hk0
def Jfp(ops:Array Oper)(F:Nat)(s:List (Nat×Nat)): Bool :=
 Region.noSelect ops && (s.length == ops.size) && (s.all λp=>Nat.ble p.1 2) && (s.all λp=>Nat.blt p.2 ops.size) && (s.all λp=>(p.1 == 2) == Ky s p.2) &&
 ((List.range ops.size).all λt=>!Ky s t || s.all λp=>p.1 != 0 || Up ops F t p.2) && Xt ops s (Array.replicate ops.size false)
end
section
variable {N:Nat->Prop} {P:Program} {n:Nat} {al al':AL} {w:World} {Q:Exit->Act->World->Prop} {ops:Array Oper} {rest:List (Nat×Oper)} {drest:List (Nat×Oper)}
variable {d ty:Nat} {op:Op} {pos:String} {aft:Array Edge} {tt:TT}
def WN(N:Nat->Prop)(P:Program)(n:Nat)(ops:Array Oper)(Q:Exit->Act->World->Prop)(l:List (Nat×Oper))(al:AL)(w:World): Prop:=∀ a,Fr n al a->Zf N P ops Q l a w
theorem WN.sub{l:List (Nat×Oper)}(hs:Sub al' al)(h:WN N P n ops Q l al' w): WN N P n ops Q l al w:=λa i=>h a (i.sub hs)
theorem Qcj(N:Nat->Prop)(F:Nat)(s:List (Nat×Nat))(hm:P.follows .mixedOrders=true)(hB:Jfp l.toArray F s=true)(h:WN N P n l.toArray Q (Qb l s) al w.drew): WC P n (.region id l.toArray true) Q al w:=by
 intro a D;simp only[Jfp,Bool.and_eq_true,beq_iff_eq,List.all_eq_true,List.mem_range,Bool.or_eq_true,Bool.not_eq_true',bne_iff_ne]at hB;obtain⟨⟨⟨⟨⟨⟨h1,i⟩,Z⟩,O⟩,J⟩,h6⟩,G⟩:=hB;refine wp_region_any hm ?_;rw[<-i];refine Jdq (T:=Ky s) _ _ _ _ (Jph (N:=N) h1 F s _ a _ ?_ (λp hp=>Z p hp) (λp hp=>?_) (λp hp=>?_) (λt ht j p hp h0=>?_) (by rw[i];exact G) ?_)
 .intro k o ho u e he hb;exfalso
  simp only[Array.getD_eq_getD_getElem?,Array.getElem?_replicate]at u;grind
 .have:=O p hp;have h':p.2+1<=l.toArray.size:=by simpa [Nat.blt] using this
  omega
 .simpa using J p hp
 .grind
 have:=h a D;simpa using this
theorem drN[h:Tab P tt](N:Nat->Prop)(F:Nat)(s:List (Nat×Nat))(hB:Jfp l.toArray F s=true)(k:WN N P n l.toArray Q (Qb l s) al w.drew): WC P n (.region id l.toArray true) Q al w:=Qcj N F s h.mixed hB k
def YldN(N:Nat->Prop)(P:Program)(n:Nat)(al:AL)(w:World)(o:Oper)(v:Value): Prop:=∀ w',GrN N w w'->∀ a,Fr n al a->(execOp a.eval o).run P w'=.ok (.value v) w'
theorem nnil_(h:QX n Q .normal al w): WN N P n ops Q [] al w:=λa i=>h a i
theorem ny_(hy:YldN N P n al w ⟨some d,op,ty,pos,aft,none⟩ v)(hd:Nat.blt d n=true)(k:WN N P n ops Q rest ((d,v)::al) w): WN N P n ops Q ((0,⟨some d,op,ty,pos,aft,none⟩)::rest) al w:=λa j=>by
 have i:d<n:=by(have:d+1<=n:=by simpa [Nat.blt] using hd);(omega)
 exact⟨v,.inl ⟨rfl,λw' u=>hy w' u a j⟩,k _ (j.put i v)⟩
theorem np_{tt:TT}(hT:TOk P tt)(hv:pv tt (ev al) op=some v)(hd:Nat.blt d n=true)(k:WN N P n ops Q rest ((d,v)::al) w): WN N P n ops Q ((0,⟨some d,op,ty,pos,aft,none⟩)::rest) al w :=
 ny_ (λw' _ a j=>Kg w' hT (λx u i=>j.ev i) hv) hd k
theorem npn_{tt:TT}(hT:TOk P tt)(hv:pv tt (ev al) op=some v)(k:WN N P n ops Q rest al w): WN N P n ops Q ((0,⟨none,op,ty,pos,aft,none⟩)::rest) al w:=λa j=>
 ⟨v,.inl ⟨rfl,λw' i=>Kg w' hT (λx u i=>j.ev i) hv⟩,k _ j⟩
theorem Qph{kd:Nat}(hj:Vw ops j=some s)(hs:lk al s=some (.bool b))(k:WN N P n ops Q ((kd,⟨dst,op,ty,pos,aft,none⟩)::rest) al w):
  WN N P n ops Q ((kd,⟨dst,op,ty,pos,aft,some (j,b)⟩)::rest) al w:=λa D=>by
 have h:=k a D;have J:=Jxd (ops:=ops) D hj hs;have G:Region.wanted (⟨dst,op,ty,pos,aft,none⟩:Oper) (yielded ops a.tmps)=true:=rfl;have u:Region.wanted (⟨dst,op,ty,pos,aft,some (j,b)⟩:Oper) (yielded ops a.tmps)=true:=by simp[Region.wanted,J]
 unfold Zf Gx at h ⊢;match kd,h with
 | 0,h=>
  obtain⟨v,i,O⟩:=h;refine⟨v,?_,O⟩;rcases i with i|i
  .exact .inl ⟨u,i.2⟩
  repeat grind
 | 1,h=>simp only[G,if_true]at h;simp only[u,if_true];exact h
 | k+2,h=>simp only[G,if_true]at h;simp only[u,if_true];exact h
theorem Qpc{kd:Nat}(hj:Vw ops j=some s)(hs:lk al s=some (.bool b))(hne:(b == c)=false)(hd:Nat.blt d n=true)(k:WN N P n ops Q rest ((d,undef)::al) w):
  WN N P n ops Q ((kd,⟨some d,op,ty,pos,aft,some (j,c)⟩)::rest) al w:=λa G=>by
 have i:d<n:=by(have:d+1<=n:=by simpa [Nat.blt] using hd);(omega)
 have J:=Jxd (ops:=ops) G hj hs;have D:Region.wanted (⟨some d,op,ty,pos,aft,some (j,c)⟩:Oper) (yielded ops a.tmps)=false:=by
  simp[Region.wanted,J];simpa using hne
 have u:=k _ (G.put i undef);unfold Zf Gx;match kd with
 | 0=>exact⟨undef,.inr ⟨D,rfl⟩,u⟩
 | 1=>simp only[D];exact u
 | m+2=>simp only[D];exact u
theorem ν9{kd:Nat}(k:WN N P n ops Q drest ((d,undef)::al) w)(hj:Vw ops j=some s:=by rfl)(hs:lk al s=some undef:=by rfl)(hd:Nat.blt d n=true:=by rfl):
  WN N P n ops Q ((kd,⟨some d,op,ty,pos,aft,some (j,c)⟩)::drest) al w:=λa G=>by
 have i:d<n:=by(have:d+1<=n:=by simpa [Nat.blt] using hd);(omega)
 have J:=Jdl (ops:=ops) G hj hs;have D:Region.wanted (⟨some d,op,ty,pos,aft,some (j,c)⟩:Oper) (yielded ops a.tmps)=false:=by simp[Region.wanted,J]
 have u:=k _ (G.put i undef);unfold Zf Gx;match kd with
 | 0=>exact⟨undef,.inr ⟨D,rfl⟩,u⟩
 | 1=>simp only[D];exact u
 | m+2=>simp only[D];exact u
theorem ν4[h:Tab P tt](k:WN N P n ops Q drest ((d,v)::al) w)(hv:pv tt (ev al) op=some v:=by rfl)(hd:Nat.blt d n=true:=by rfl): WN N P n ops Q ((0,⟨some d,op,ty,pos,aft,none⟩)::drest) al w:=np_ h.ok hv hd k
theorem ν5(h:QX n Q .normal al w): WN N P n ops Q [] al w:=nnil_ h
theorem ν6{kd:Nat}(k:WN N P n ops Q ((kd,⟨dst,op,ty,pos,aft,none⟩)::drest) al w)(hj:Vw ops j=some s:=by rfl)(hs:lk al s=some (.bool b):=by rfl): WN N P n ops Q ((kd,⟨dst,op,ty,pos,aft,some (j,b)⟩)::drest) al w:=Qph hj hs k
theorem ν7{kd:Nat}(k:WN N P n ops Q drest ((d,undef)::al) w)(hj:Vw ops j=some s:=by rfl)(hs:lk al s=some (.bool b):=by rfl)(hne:(b == c)=false:=by rfl)(hd:Nat.blt d n=true:=by rfl):
  WN N P n ops Q ((kd,⟨some d,op,ty,pos,aft,some (j,c)⟩)::drest) al w:=Qpc hj hs hne hd k
theorem ν8[h:Tab P tt](k:WN N P n ops Q drest al w)(hv:pv tt (ev al) op=some v:=by rfl): WN N P n ops Q ((0,⟨none,op,ty,pos,aft,none⟩)::drest) al w:=npn_ h.ok hv k
theorem nadd_{t:TypeId}{b:Int}(hx:ev al x=some (.int .i64 a))(hy:ev al y=some (.int .i64 b))(hc:-9223372036854775808<=a+b/\a+b<=9223372036854775807)(hd:Nat.blt d n=true)(k:WN N P n ops Q rest ((d,.int .i64 (a+b))::al) w): WN N P n ops Q ((0,⟨some d,.binOp .add t x y yt,ty,pos,aft,none⟩)::rest) al w:=by
 have e:IntKind.i64.wrap (a+b)=a+b:=by rw[IntKind.wrap_i64];omega
 exact np_ (tt:=[]) trivial (v:=.int .i64 (a+b)) (by grind [pv,bop]) hd k
theorem nsub_{t:TypeId}{b:Int}(hx:ev al x=some (.int .i64 a))(hy:ev al y=some (.int .i64 b))(hc:-9223372036854775808<=a-b/\a-b<=9223372036854775807)(hd:Nat.blt d n=true)(k:WN N P n ops Q rest ((d,.int .i64 (a-b))::al) w): WN N P n ops Q ((0,⟨some d,.binOp .sub t x y yt,ty,pos,aft,none⟩)::rest) al w:=by
 have e:IntKind.i64.wrap (a-b)=a-b:=by rw[IntKind.wrap_i64];omega
 exact np_ (tt:=[]) trivial (v:=.int .i64 (a-b)) (by grind [pv,bop]) hd k
theorem ν1{t:TypeId}{b:Int}(k:WN N P n ops Q drest ((d,.int .i64 (a+b))::al) w)(hx:ev al x=some (.int .i64 a):=by rfl)(hy:ev al y=some (.int .i64 b):=by rfl)(hd:Nat.blt d n=true:=by rfl)(hc:-9223372036854775808<=a+b/\a+b<=9223372036854775807:=by omega):
  WN N P n ops Q ((0,⟨some d,.binOp .add t x y yt,ty,pos,aft,none⟩)::drest) al w:=nadd_ hx hy hc hd k
theorem ν2{t:TypeId}{b:Int}(k:WN N P n ops Q drest ((d,.int .i64 (a-b))::al) w)(hx:ev al x=some (.int .i64 a):=by rfl)(hy:ev al y=some (.int .i64 b):=by rfl)(hd:Nat.blt d n=true:=by rfl)(hc:-9223372036854775808<=a-b/\a-b<=9223372036854775807:=by omega):
  WN N P n ops Q ((0,⟨some d,.binOp .sub t x y yt,ty,pos,aft,none⟩)::drest) al w:=nsub_ hx hy hc hd k
theorem nload(hT:TOk P tt)(ht:tk tt t=some k)(hk:Vd k.desc=true)(hx:ev al x=some (.pointer (some p)))(hc:∀ w',GrN N w w'->w'.cell? p=some v)(hd:Nat.blt d n=true)(kk:WN N P n ops Q rest ((d,v)::al) w): WN N P n ops Q ((0,⟨some d,.load t x,ty,pos,aft,none⟩)::rest) al w :=
 ny_ (λw' i a j=>by simp[execOp,j.ev hx,Instr.loadAt,Instr.sureAddr,Jtg (w:=w') hT ht hk (hc w' i)]) hd kk
theorem Qpf(hT:TOk P tt)(ht:tk tt t=some k)(hk:k.desc=.invalid)(hl:k.size=cs.length)(hx:ev al x=some (.pointer (some p)))(hc:∀ w',GrN N w w'->∀ j u,cs[j]?=some u->w'.cell? (p.add j)=some u)(hd:Nat.blt d n=true)(kk:WN N P n ops Q rest ((d,.agg cs.toArray)::al) w): WN N P n ops Q ((0,⟨some d,.load t x,ty,pos,aft,none⟩)::rest) al w :=
 ny_ (λw' i a D=>by simp[execOp,D.ev hx,Instr.loadAt,Instr.sureAddr,Jjw (w:=w') hT ht hk hl (hc w' i)]) hd kk
theorem Qql(hT:TOk P tt){sz:Nat}{c:Nat}(q:Nat)(j:Nat)(ht:tk tt t=some k)(hk:k.desc=.slice e)(hz:k.esz=sz)(hx:ev al x=some (.slice A m c))(hi:ev al i=some (.int kd z))(hr:Rd w sz A m cs)(hj:z=(j:Int))(hlt:j<m)(h0:0<sz)(hq:j*sz=q)(hd:Nat.blt d n=true)(kk:WN N P n ops Q rest ((d,.pointer (some (adr A q)))::al) w): WN N P n ops Q ((0,⟨some d,.indexAddr t x i,ty,pos,aft,none⟩)::rest) al w:=by
 obtain⟨D,hs⟩:=Iw hT ht hk hz;obtain⟨O,rfl,J⟩:=hr.isome om h0;subst hj;subst hq;refine ny_ (λw' G a u=>?_) hd kk;simp[execOp,u.ev hx,u.ev hi,Instr.indexAt,asIntOf,run_underlying D,Yj w' hs,adr];intro h;omega
theorem Qpg(hT:TOk P tt){c:Nat}(j:Nat)(ht:tk tt t=some k)(hk:k.desc=.slice e)(hz:k.esz=1)(hx:ev al x=some (.slice A m c))(hi:ev al i=some (.int kd z))(hr:Rd w 1 A m cs)(hj:z=(j:Int))(hlt:j<m)(hd:Nat.blt d n=true)(kk:WN N P n ops Q rest ((d,.pointer (some (adr A j)))::al) w): WN N P n ops Q ((0,⟨some d,.indexAddr t x i,ty,pos,aft,none⟩)::rest) al w :=
 Qql hT j j ht hk hz hx hi hr hj hlt om om hd kk
theorem nld[h:Tab P tt](hc:∀ w',GrN N w w'->w'.cell? p=some v)(kk:WN N P n ops Q drest ((d,v)::al) w)(ht:tk tt t=some k:=by rfl)(hk:Vd k.desc=true:=by rfl)(hx:ev al x=some (.pointer (some p)):=by rfl)(hd:Nat.blt d n=true:=by rfl): WN N P n ops Q ((0,⟨some d,.load t x,ty,pos,aft,none⟩)::drest) al w:=nload h.ok ht hk hx hc hd kk
theorem Xs[h:Tab P tt](hc:∀ w',GrN N w w'->∀ j u,cs[j]?=some u->w'.cell? (p.add j)=some u)(kk:WN N P n ops Q drest ((d,.agg cs.toArray)::al) w)(ht:tk tt t=some k:=by rfl)(hk:k.desc=.invalid:=by rfl)(hl:k.size=cs.length:=by rfl)(hx:ev al x=some (.pointer (some p)):=by rfl)(hd:Nat.blt d n=true:=by rfl): WN N P n ops Q ((0,⟨some d,.load t x,ty,pos,aft,none⟩)::drest) al w:=Qpf h.ok ht hk hl hx hc hd kk
theorem nix[h:Tab P tt]{c:Nat}(j:Nat)(hr:Rd w 1 A m cs)(hlt:j<m)(kk:WN N P n ops Q drest ((d,.pointer (some (adr A j)))::al) w)(ht:tk tt t=some k:=by rfl)(hk:k.desc=.slice e:=by rfl)(hz:k.esz=1:=by rfl)(hx:ev al x=some (.slice A m c):=by rfl)(hi:ev al i=some (.int kd z):=by rfl)(hj:z=(j:Int):=by first|rfl|omega)(hd:Nat.blt d n=true:=by rfl):
  WN N P n ops Q ((0,⟨some d,.indexAddr t x i,ty,pos,aft,none⟩)::drest) al w:=Qpg h.ok j ht hk hz hx hi hr hj hlt hd kk
theorem Yr[h:Tab P tt]{c:Nat}(sz j:Nat)(hr:Rd w sz A m cs)(hlt:j<m)(kk:WN N P n ops Q drest ((d,.pointer (some (adr A (j*sz))))::al) w)(ht:tk tt t=some k:=by rfl)(hk:k.desc=.slice e:=by rfl)(hz:k.esz=sz:=by rfl)(hx:ev al x=some (.slice A m c):=by rfl)(hi:ev al i=some (.int kd z):=by rfl)(hj:z=(j:Int):=by first|rfl|omega)(h0:0<sz:=by omega)(hd:Nat.blt d n=true:=by rfl):
  WN N P n ops Q ((0,⟨some d,.indexAddr t x i,ty,pos,aft,none⟩)::drest) al w:=Qql h.ok (j*sz) j ht hk hz hx hi hr hj hlt h0 rfl hd kk
def toN(N:Nat->Prop)(P:Program)(ops:Array Oper)(Q:Exit->Act->World->Prop)(w0:World)(rest:List (Nat×Oper)): Exit->Act->World->Prop
 | .normal,a,w=>GrN N w0 w/\Zf N P ops Q rest a w
 | _,_,_=>False
theorem Qj{w0:World}(hx:GrN N w0 w)(h:WN N P n ops Q drest al w): QX n (toN N P ops Q w0 drest) .normal al w:=λa i=>⟨hx,h a i⟩
theorem nop(h:WL P n ops (toN N P ops Q w drest) [o] al w): WN N P n ops Q ((1,o)::drest) al w:=λa u=>by
 have i:=h a u;unfold wpList at i;unfold Zf Gx;simp only;have j:¬ LetsOut (toN N P ops Q w drest):=by rintro⟨a,w,h⟩;exact h
 split
 .rename_i hw;simp only[hw,if_true]at i;rcases i with i|⟨_,i⟩
  .refine Oper.wp_mono (K:=wpList P ops (toN N P ops Q w drest) []) (λG w' D=>D) ?_;unfold Oper.wp at i ⊢;grind [Yh,toN]
  exact absurd i j
 rename_i hw;simp only[hw]at i;exact i.2
def toT(N:Nat->Prop)(P:Program)(ops:Array Oper)(Q:Exit->Act->World->Prop)(rest:List (Nat×Oper)): Exit->Act->World->Prop
 | .normal,a,w=>Zf N P ops Q rest a w
 | _,_,_=>False
theorem Gv(h:WN N P n ops Q drest al w): QX n (toT N P ops Q drest) .normal al w:=h
theorem Xm(h:WL P n ops (toT N P ops Q drest) [o] al w): WN N P n ops Q ((2,o)::drest) al w:=λa D=>by
 have i:=h a D;unfold wpList at i;unfold Zf Gx;simp only;have j:¬ LetsOut (toT N P ops Q drest):=by rintro⟨a,w,h⟩;exact h
 split
 .rename_i hw;simp only[hw,if_true]at i;rcases i with i|⟨_,i⟩
  .refine Oper.wp_mono (K:=Zf N P ops Q drest) (λJ w' G=>G) ?_;unfold Oper.wp at i ⊢;exact Yh (Q:=toT N P ops Q drest) (λc a w u=>u.elim) (λu=>absurd u j) i
  exact absurd i j
 rename_i hw;simp only[hw]at i;exact i
theorem Jr(hc:w.cell? p=some v)(hn:¬ N p.block): ∀ w',GrN N w w'->w'.cell? p=some v:=λw' i=>by
 rw[<-hc];exact World.cell?_of_block (i.block _ (World.block_lt_of_cell? w p hc) hn)
end
end Go.Wk
namespace Go.Wk
theorem ρn{p q:Prop}(h:p)(t:Hold p->q:=by intro h;(repeat first|refine ν1 ?_|refine ν2 ?_|refine ν4 ?_|refine ν5 ?_|refine ν6 ?_|refine ν7 ?_|refine ν9 ?_|refine ν8 ?_|refine χ1 ?_|refine χ2 ?_|refine χ3 ?_|refine χ4 ?_|refine χ5 ?_|refine χ6 ?_|refine χ7 ?_);exact h.of): q:=t ⟨h⟩
end Go.Wk
namespace Go.Proofs.YtgobkbeokaaplaaGreatDoor
open Go.RowKit Pl Go.Wk
attribute [local irreducible] WC WL QX WD WDB WP
variable {cs xs xs':List Value}{base c d g k l s t:Nat}{fs fs':Nat->List Nat}{M:Nat->Prop}{vs vs':Nat->Row}{fv vv:Nat->Value}{A:Option Addr}{a b x:Row}{v' v4 va vb vx:Value}{w w4:World}
structure TriB(w:World)(base:Nat)(A:Option Addr)(d:Nat)(vv fv:Nat->Value)(vs:Nat->Row)(fs:Nat->List Nat): Prop where
 lev:w.ownsRow base 334 2 (.slice A d d) d (Zu d vv fv)
 vals:Fam w base 147 3 d vv (λl=>(vs l).length) (λl=>Js (vs l))
 fst:Fam w base 3 1 d fv (λl=>(fs l).length) (λl=>Je (nz (fs l)))
section
variable {w w':World} {base:Nat} {A:Option Addr} {d:Nat} {vv fv:Nat->Value} {vs:Nat->Row} {fs:Nat->List Nat}
theorem TriB.ext(h:TriB w base A d vv fv vs fs)(hx:Ext w w'): TriB w' base A d vv fv vs fs:=⟨Jk h.lev hx,h.vals.ext hx,h.fst.ext hx⟩
theorem TriB.vform(h:TriB w base A d vv fv vs fs)(hl:l<d): ∃ B c,vv l=.slice B (vs l).length c/\(vs l).length<=c/\Rd w 3 B (vs l).length (Js (vs l)):=by
 obtain⟨B,c,e,i,_⟩:=Jy (h.vals.own l hl);refine⟨B,c,e,i,?_⟩;have:=h.vals.own l hl;rw[e]at this;exact Rd.own this
theorem TriB.fform(h:TriB w base A d vv fv vs fs)(hl:l<d): ∃ B c,fv l=.slice B (fs l).length c/\(fs l).length<=c/\Rd w 1 B (fs l).length (Je (nz (fs l))):=by
 obtain⟨B,c,e,i,_⟩:=Jy (h.fst.own l hl);refine⟨B,c,e,i,?_⟩;have:=h.fst.own l hl;rw[e]at this;exact Rd.own this
theorem TriB.rd(h:TriB w base A d vv fv vs fs): Rd w 2 A d (Zu d vv fv):=Rd.own h.lev
theorem TriB.v(h:TriB w base A d vv fv vs fs)(hl:l<d): w.cell? (adr A (l*2))=some (vv l):=h.rd.cell (Kj d vv fv hl).1
theorem TriB.v0(h:TriB w base A d vv fv vs fs)(hl:l<d): w.cell? ((adr A (l*2)).add 0)=some (vv l):=by rw[add_zero];exact h.v hl
theorem TriB.f1(h:TriB w base A d vv fv vs fs)(hl:l<d): w.cell? ((adr A (l*2)).add 1)=some (fv l):=by rw[Xh];exact h.rd.cell (Kj d vv fv hl).2
theorem TriB.f(h:TriB w base A d vv fv vs fs)(hl:l<d): w.cell? (adr A (l*2+1))=some (fv l):=h.rd.cell (Kj d vv fv hl).2
end
theorem Jdv{li:Int}(hR:Rd w 2 A d (Zu d vv fv))(hv:∀ l,l<d->∃ B c,vv l=.slice B (vs l).length c)(hli:li=(l:Int))(hd:d<=32):
  Ret Tryz.prog 239 [.agg #[.slice A d c],.int .i64 li] w λu w'=>u=.int .i64 (if l<d then(vs l).length else 0:Nat)/\Ext w w':=by
 subst hli;refine enE Tryz.func239 Tryz.ntmps239 ?_;refine bxR ?_;intro O b j hb J;refine ldR (J.at (i:=0) rfl) ?_;refine ciR (λh=>?_) (λh=>?_)
 .refine ρ ?_;refine Jj ⟨?_,j⟩;grind
 have G:l<d:=by grind
 have D:=hR.ext j;obtain⟨B,c',e⟩:=hv l G;refine ldR (J.at (i:=0) rfl) ?_;refine Qu 2 l D G ?_;have Z:O.cell? ((adr A (l*2)).add 0)=some (vv l):=by rw[add_zero];exact D.cell (Kj d vv fv G).1
 refine ldR Z ?_;rw[e];refine ρ ?_;refine Jj ⟨?_,j⟩;rw[if_pos G]
theorem Qdm(ha:RowV w va a)(hb:RowV w vb b)(hlen:a=[]∨a.length=b.length): Ret Tryz.prog 238 [va,vb] w λu w'=>u=.int .i64 (shr a b:Int)/\Ext w w':=by
 obtain⟨A,ac,rfl,a8,a7,a2⟩:=ha;obtain⟨B,bc,rfl,a6,a5,a1⟩:=hb;refine enE Tryz.func238 Tryz.ntmps238 ?_;refine ρ ?_;refine Qf (fun (k:Nat)=>[(0,.slice A a.length ac),(1,.slice B b.length bc),(5,.int .i64 (k:Int))]) (λk w'=>Ext w w'/\k<=a.length/\k<=b.length/\shr a b=k+shr (a.drop k) (b.drop k)) (λk=>a.length-k) 0 sB ⟨Ext.refl w,Nat.zero_le _,Nat.zero_le _,by simp⟩ ?_;rintro k w1 ⟨hx,a4,a3,he⟩;refine ρ ?_;refine Zb (fun (t:Bool)=>[(0,.slice A a.length ac),(1,.slice B b.length bc),(5,.int .i64 (k:Int)),(21,.bool t)]) (λt w'=>Ext w w'/\(t=true->k<a.length/\k<b.length/\a.getD k V0=b.getD k V0)/\(t=false->shr (a.drop k) (b.drop k)=0)) ?_ ?_
 .refine dr (scq 16 [13]) kr ?_;have D:=hx.drew;have Z:RdR _ A a:=Rd.ext a2 D;have O:RdR _ B b:=Rd.ext a1 D;refine ρd ?_;refine dki 10 (λh=>?_) (λh=>?_)
  .have J:k<a.length:=by have:=oT h;omega
   have G:k<b.length:=by grind
   refine Uf 3 k Z J ?_;refine Qz (λj u hu=>RdR.cell Z J hu) ?_;refine Uf 3 k O G ?_;refine Qz (λj u hu=>RdR.cell O G hu) ?_;refine Jh (Jxh (a.getD k V0) (b.getD k V0) _) ?_;rintro x w2 ⟨rfl,i⟩;refine⟨i,?_⟩;refine ρd ?_;refine ρ ?_;refine Jf _ sB ⟨D.trans i,λh=>⟨J,G,cmp_V.zero _ _ (Zv h)⟩,λh=>?_⟩;rw[List.drop_eq_getElem_cons J,List.drop_eq_getElem_cons G,shr,if_neg];intro e;have:=Xo h;grind [Qd,V0,Vg]
  refine ρd ?_;refine ρ ?_;refine Jf false sB ⟨D,λe=>(by cases e),λ_=>?_⟩;grind [List.drop_of_length_le,Jfh]
 rintro t w2 ⟨i,h1,h2⟩;refine ci (λh=>?_) (λh=>?_)
 .obtain⟨J,G,e⟩:=h1 h;refine ρ ?_;refine Qy (k+1) sO ⟨i,om,om,?_⟩ om;grind [List.drop_eq_getElem_cons,shr,Qd,V0]
 refine ρ ?_;refine Jj ⟨?_,i⟩;rw[he,h2 h];rfl
def Yx(A:Option Addr)(d:Nat)(vv fv:Nat->Value)(k:Nat): Prop:=(Value.slice A d d).ownBlock=some k∨∃ l,l<d/\((vv l).ownBlock=some k∨(fv l).ownBlock=some k)
theorem Jxz{e sz m base' e' sz' m':Nat}{v:Value}(h:w.ownsRow base e sz v m xs)(h':w.ownsRow base' e' sz' v' m' xs')(hne:Nat.beq e e'=false)(hg:v.ownBlock=some g): v'.ownBlock≠some g:=by
 have u:e≠e':=by intro j;subst j;simp at hne
 intro i;rcases h.2 with⟨rfl,_⟩|⟨g1,cap,cur,rfl,_,hh,_⟩
 .simp[Value.ownBlock]at hg
 rcases h'.2 with⟨rfl,_⟩|⟨g2,cap',cur',rfl,_,hh',_⟩
 .simp[Value.ownBlock]at i
 have G:g1=g:=by simpa [Value.ownBlock] using hg
 have D:g2=g:=by simpa [Value.ownBlock] using i
 grind
theorem TriB.box(h:TriB w base A d vv fv vs fs){b:Nat}(hB:Blk w b t cs)(h1:Nat.beq 334 t=false)(h2:Nat.beq 147 t=false)(h3:Nat.beq 3 t=false): ¬ Yx A d vv fv b:=by
 rintro(e|⟨l,i,e|e⟩)
 .exact hB.ne_own h.lev h1 e.symm
 .exact hB.ne_own (h.vals.own l i) h2 e.symm
 exact hB.ne_own (h.fst.own l i) h3 e.symm
theorem TriB.congr(h:TriB w base A d vv fv vs fs)(h1:∀ l,l<d->vs' l=vs l)(h2:∀ l,l<d->fs' l=fs l): TriB w base A d vv fv vs' fs' :=
 ⟨h.lev,⟨λi hi=>by rw[h1 i hi];exact h.vals.own i hi,h.vals.dis⟩,⟨λi hi=>by rw[h2 i hi];exact h.fst.own i hi,h.fst.dis⟩⟩
theorem Qgk{p:Addr}(u:Value): w.grownBy (w.setCell p u) (some p.block):=⟨rfl,rfl,rfl,by simp[World.setCell],λk i hn=>Below.heap_setCell w p u k (λe=>hn (by rw[e]))⟩
theorem TriB.setV{vv fv : Nat → Value}{vs : Nat → Row}{fs : Nat → List Nat}{r : Row}(H : TriB w base A d vv fv vs fs)(lk : k < d)(ho : w4.ownsRow base 147 3 v4 r.length (Js r))(hg : w.grownBy w4 (vv k).ownBlock)(hn : ∀ g, v4.ownBlock = some g → (vv k).ownBlock = some g ∨ w.heap.size ≤ g): w4.cell? ((adr A (k * 2)).add 0) = some (vv k) ∧ w4.frozen? ((adr A (k * 2)).add 0) = false ∧ v4.oneCell' = true ∧ TriB (w4.setCell ((adr A (k * 2)).add 0) v4) base A d (upd vv k v4) fv (upd vs k r) fs ∧
      w4.grownBy (w4.setCell ((adr A (k * 2)).add 0) v4) (Value.slice A d d).ownBlock := by
  have F4 := H.vals.upd lk ho hg hn
  have L4 := Zl H.lev (H.vals.own k lk) hg rfl
  have f4 := H.fst.other (H.vals.own k lk) hg rfl
  obtain ⟨s1, s2, s3, s4, s5⟩ := Zt L4 (q := k * 2) om v4
  rw [add_zero]
  have h1 : v4.oneCell' = true := by obtain ⟨B, c, e, _⟩ := Jy ho; rw [e]; rfl
  refine ⟨s1.trans (Kj d vv fv lk).1, s2, h1, ⟨?_, ?_, ?_⟩, s5⟩
  . grind [Qzs,lk]
  . have F5 := F4.other L4 s5 rfl
    refine ⟨fun i hi => ?_, F5.dis⟩
    have := F5.own i hi
    grind [Ju,Jm]
  . exact f4.other L4 s5 rfl
theorem TriB.setF{vv fv : Nat → Value}{vs : Nat → Row}{fs : Nat → List Nat}{r : List Nat}(H : TriB w base A d vv fv vs fs)(lk : k < d)(ho : w4.ownsRow base 3 1 v4 r.length (Je (nz r)))(hg : w.grownBy w4 (fv k).ownBlock)(hn : ∀ g, v4.ownBlock = some g → (fv k).ownBlock = some g ∨ w.heap.size ≤ g): w4.cell? ((adr A (k * 2)).add 1) = some (fv k) ∧ w4.frozen? ((adr A (k * 2)).add 1) = false ∧ v4.oneCell' = true ∧ TriB (w4.setCell ((adr A (k * 2)).add 1) v4) base A d vv (upd fv k v4) vs (upd fs k r) ∧
      w4.grownBy (w4.setCell ((adr A (k * 2)).add 1) v4) (Value.slice A d d).ownBlock := by
  have F4 := H.fst.upd lk ho hg hn
  have L4 := Zl H.lev (H.fst.own k lk) hg rfl
  have f4 := H.vals.other (H.fst.own k lk) hg rfl
  obtain ⟨s1, s2, s3, s4, s5⟩ := Zt L4 (q := k * 2 + 1) om v4
  rw [Xh]
  have h1 : v4.oneCell' = true := by obtain ⟨B, c, e, _⟩ := Jy ho; rw [e]; rfl
  refine ⟨s1.trans (Kj d vv fv lk).2, s2, h1, ⟨?_, ?_, ?_⟩, s5⟩
  . grind [Qzr,lk]
  . exact f4.other L4 s5 rfl
  . have F5 := F4.other L4 s5 rfl
    refine ⟨fun i hi => ?_, F5.dis⟩
    have := F5.own i hi
    grind [Ju,Jm]
theorem Qnb(h:∀ j,Yx A d vv fv j->M j)(lk:k<d)(hn:∀ g,v4.ownBlock=some g->M g): ∀ j,Yx A d (upd vv k v4) fv j->M j:=by
 rintro j (e|⟨l,i,e|e⟩)
 .exact h j (.inl e)
 .by_cases el:l=k
  .grind [Ju]
  rw[Jm _ _ el]at e;exact h j (.inr ⟨l,i,.inl e⟩)
 exact h j (.inr ⟨l,i,.inr e⟩)
theorem Qqd(h:∀ j,Yx A d vv fv j->M j)(lk:k<d)(hn:∀ g,v4.ownBlock=some g->M g): ∀ j,Yx A d vv (upd fv k v4) j->M j:=by
 rintro j (e|⟨l,i,e|e⟩)
 .exact h j (.inl e)
 .exact h j (.inr ⟨l,i,.inl e⟩)
 by_cases el:l=k
 .grind [Ju]
 rw[Jm _ _ el]at e;exact h j (.inr ⟨l,i,.inr e⟩)
theorem Xzl(v:V)(w:World): (Instr.buildSlice 58 1 #[(0,v.val)]).run Tryz.prog w=.ok (.slice (some ⟨w.heap.size,0,none⟩) 1 1) (w.alloc (.cells v.cells.toArray 147)):=kr
theorem EVs: ElT Tryz.prog 58 147 3 32 (.agg #[.int .i64 0,.int .i64 0,.string ⟨#[]⟩]):=⟨Tryz.underlying58,info_parts kr,rfl,by decide⟩
theorem bs1Int'(z:Int)(w:World): (Instr.buildSlice 26 1 #[(0,.int .i64 z)]).run Tryz.prog w=.ok (.slice (some ⟨w.heap.size,0,none⟩) 1 1) (w.alloc (.cells [.int .i64 z].toArray 3)):=kr
theorem rowC_one'(v:V): Js [v]=v.cells:=by simp[Js]
theorem Qdq(H:TriB w base A d vv fv vs fs)(hx:Off (Yx A d vv fv) w (λu=>RowV u vx x))(hlen:x.length=d)(hd:d<=32)(hs:s<=d)(hbase:base<=w.heap.size)(hsm:∀ l,l<d->(vs l).length<=1000000/\(fs l).length<=1000000):
  Ret Tryz.prog 237 [.agg #[.slice A d d],vx,.int .i64 (s:Int)] w λu w'=>∃ vv' fv',TriB w' base A d vv' fv' (λl=>if s<=l then vs l++[x.getD l V0] else vs l) (λl=>if s<=l then fs l++[if l+1<d then(vs (l+1)).length else 0] else fs l) /\
   GrN (Yx A d vv fv) w w'/\∀ j,Yx A d vv' fv' j->Yx A d vv fv j∨w.heap.size<=j:=by
 obtain⟨X,xc,b2,be,bd,bc⟩:=hx.here;subst b2;refine enE Tryz.func237 Tryz.ntmps237 ?_;refine bxR ?_;intro w1 b G hb hB;obtain⟨M,hM⟩:∃ M:Nat->Prop,M=λj=>Yx A d vv fv j∨w.heap.size<=j/\j≠b:=⟨_,rfl⟩;have ac:¬ M b:=by
  rw[hM];rintro(J|J)
  .exact(H.ext G).box hB rfl rfl rfl J
  exact J.2 rfl
 have ak:Off M w1 (λu=>RowV u (.slice X x.length xc) x):=λu hg=>hx u ⟨hg.os.trans G.os,hg.tape.trans G.tape,hg.output.trans G.output,Nat.le_trans G.size hg.size,λk hk hn=>(hg.block k (nM hk G.size) (λe=>by rw[hM]at e;rcases e with e|e;exact hn e;omega)).trans (G.block k hk)⟩;refine ρ ?_;refine Xn (fun (k:Nat) (vv' fv':Nat->Value)=>[(1,.slice X x.length xc),(3,.pointer (some ⟨b,0,none⟩)),(6,.int .i64 (k:Int))])
  (λk vv' fv' w'=>s<=k/\k<=d/\TriB w' base A d vv' fv' (λl=>if s<=l/\l<k then vs l++[x.getD l V0] else vs l) (λl=>if s<=l/\l<k then fs l++[if l+1<d then(vs (l+1)).length else 0] else fs l)/\GrN M w1 w'/\∀ j,Yx A d vv' fv' j->M j) (λk _ _=>d-k) s vv fv sB
  ⟨nR _,hs,?_,GrN.refl _ _,λj hj=>by rw[hM];exact .inl hj⟩ ?_
 .have e1:(λl=>if s<=l/\l<s then vs l++[x.getD l V0] else vs l)=vs:=by funext l;rw[if_neg om]
  have e2:(λl=>if s<=l/\l<s then fs l++[if l+1<d then(vs (l+1)).length else 0] else fs l)=fs:=by funext l;rw[if_neg om]
  rw[e1,e2];exact H.ext G
 rintro k vv' fv' w2 ⟨bi,bh,H2,a3,a9⟩;refine ciR (λh=>?_) (λh=>?_)
 .have lk:k<d:=by have:=oT h;omega
  have lx:k<x.length:=om
  have bf:=hsm k lk;clear h;obtain⟨B,c,b4,ba,b5⟩:=H2.vform lk;obtain⟨own,D⟩:∃ own,own=(vv' k).ownBlock:=⟨_,rfl⟩;have Z:∀ j,own=some j->M j:=λj ej=>a9 j (.inr ⟨k,lk,.inl (by rw[<-D];exact ej)⟩);refine ρ ?_;refine Zb (fun (a7:Nat->Value)=>[(1,.slice X x.length xc),(3,.pointer (some ⟨b,0,none⟩)),(6,.int .i64 (k:Int))])
   (λa7 w5=>TriB w5 base A d a7 fv' (upd (λl=>if s<=l/\l<k then vs l++[x.getD l V0] else vs l) k (vs k++[x.getD k V0])) (λl=>if s<=l/\l<k then fs l++[if l+1<d then(vs (l+1)).length else 0] else fs l)/\GrN M w1 w5/\∀ j,Yx A d a7 fv' j->M j) ?_ ?_
  .refine drN (one own) 4 (scq 18 [13,14,117]) kr ?_;have a8:Ext w2 w2.drew:=(Ext.refl w2).drew;have a6:=H2.ext a8;have O:=a3.trans (GrN.ext a8);have aj:=Jc hB O ac;have az:RdR w2.drew X x:=by
    obtain⟨X',ay,e1,_,_,e4⟩:=ak _ O;injection e1 with e1 _ _;subst e1;exact e4
   have nb:¬ one own b:=λe=>ac (Z b e);have nA:∀ ad,A=some ad->¬ one own ad.block:=λad e J=>by
    subst e;exact Jxz a6.lev (a6.vals.own k lk) rfl rfl (by rw[<-D];exact J)
   have af:¬ one own (adr A (k*2)).block:=by
    obtain⟨ad,e,_⟩:=a6.rd.isome om om;subst e;simp only[adr,Option.getD_some,Ug];exact nA ad rfl
   have b1:∀ w',GrN (one own) w2.drew w'->RdR w' X x:=λw' hg=>by
    obtain⟨X',ay,e1,_,_,e4⟩:=ak _ (O.trans (hg.mono λj _ ej=>Z j ej));injection e1 with e1 _ _;subst e1;exact e4
   refine ρn ?_;refine nld (Jr (aj.at (i:=0) rfl) nb) ?_;refine ρn ?_;refine nld (Jr (aj.at (i:=0) rfl) nb) ?_;refine ρn ?_;refine Yr 2 k a6.rd lk ?_;refine ρn ?_;refine nld (Jr (a6.v0 lk) (by rw[Ug];exact af)) ?_;refine ρn ?_;refine Yr 3 k az lx ?_;refine ρn ?_;refine Xs (cs:=(x.getD k V0).cells) (λw' hg j u hu=>RdR.cell (b1 w' hg) lx hu) ?_;refine ρn ?_;refine nop ?_;refine bsl (Xzl (x.getD k V0)) ?_;intro w3 b3 a5 bl b8;refine ρ ?_;refine Qj (GrN.ext a5) ?_;have H3:=a6.ext a5;have ar:=H3.vals.own k lk;rw[if_neg (show¬ (s<=k/\k<k) by omega)]at ar;have bg:(vs k).length+1<=1000001:=om
   refine nop ?_;refine apb (base:=base) EVs ar (b8.rd (n:=1) rfl) (V.one _) (by unfold maxLen;omega) om (nL hbase (nL G.size (nL O.size a5.size))) ?_;intro v4 w4 aq ab ax;refine ρ ?_;refine Qj (GrN.by ab λj ej=>by rw[<-D]at ej;exact ej) ?_;have er:Js (vs k)++(x.getD k V0).cells=Js (vs k++[x.getD k V0]):=by rw[Qht,rowC_one']
   have el:(vs k).length+1=(vs k++[x.getD k V0]).length:=by simp
   rw[er,el]at aq;obtain⟨c1,c2,c3,H5,ag⟩:=H3.setV lk aq ab ax;have bm:b<w2.drew.heap.size:=aj.lt;have L4:=Zl H3.lev (H3.vals.own k lk) ab rfl;refine ρn ?_;refine Yr 2 k (Rd.own L4) lk ?_;refine ρn ?_;refine Xm ?_;refine sto c1 c2 ?_ (hv:=c3);refine ρ ?_;have ah:∀ g,v4.ownBlock=some g->M g:=λg eg=>by
    rcases ax g eg with J|J
    .exact Z g (by rw[D];exact J)
    rw[hM];exact .inr ⟨nL G.size (nL O.size (nL a5.size J)),λe=>by have:=a5.size;omega⟩
   refine Jf (upd vv' k v4) sB ⟨H5,?_,Qnb (M:=M) a9 lk ah⟩;exact((O.trans (GrN.ext a5)).trans (GrN.by ab λj ej=>Z j (by rw[D];exact ej))).trans (GrN.by ag λj ej=>a9 j (.inl ej))
  clear Z D b4 ba b5 H2 a3 a9;rintro a7 w5 ⟨H5,ag,ai⟩;obtain⟨own,D⟩:∃ own,own=(fv' k).ownBlock:=⟨_,rfl⟩;have Z:∀ j,own=some j->M j:=λj ej=>ai j (.inr ⟨k,lk,.inr (by rw[<-D];exact ej)⟩);refine drN (one own) 4 (scq 18 [12,13,14,117]) kr ?_;have a8:Ext w5 w5.drew:=(Ext.refl w5).drew;have a2:=H5.ext a8;have a4:=ag.trans (GrN.ext a8);have ae:=Jc hB a4 ac;have nb:¬ one own b:=λe=>ac (Z b e);have af:¬ one own (adr A (k*2)).block:=by
   obtain⟨ad,e,_⟩:=a2.rd.isome om om;subst e;simp only[adr,Option.getD_some,Ug];intro J;exact Jxz a2.lev (a2.fst.own k lk) rfl rfl (by rw[<-D];exact J)
  refine ρn ?_;refine nld (Jr (ae.at (i:=0) rfl) nb) ?_;refine ρn ?_;refine nld (Jr (ae.at (i:=0) rfl) nb) ?_;refine ρn ?_;refine Yr 2 k a2.rd lk ?_;refine ρn ?_;refine nld (Jr (a2.f1 lk) (by rw[Ug];exact af)) ?_;refine ρn ?_;refine Xs (cs:=[.slice A d d]) (λw' hg j u hu=>(Jc ae hg nb).at hu) ?_;refine ρn ?_;refine nop ?_;refine cl (Jdv (l:=k+1) (li:=(k:Int)+1) a2.rd (λl hl=>by obtain⟨B,c,e,_⟩:=a2.vform hl;exact⟨B,c,e⟩) om hd) ?_;rintro u w6 ⟨rfl,an⟩;refine ρ ?_;refine Qj (GrN.ext an) ?_;obtain⟨nn,au⟩:∃ nn:Nat,nn=if k+1<d then(vs (k+1)).length else 0:=⟨_,rfl⟩
  have bb:(if k+1<d then List.length (upd (λl=>if s<=l/\l<k then vs l++[x.getD l V0] else vs l) k (vs k++[x.getD k V0]) (k+1)) else 0)=nn:=by
   rw[au,Jm _ _ om,if_neg (show¬ (s<=k+1/\k+1<k) by omega)]
  rw[bb];refine nop ?_;refine bsl (bs1Int' (nn:Int)) ?_;intro w7 b7 am bj b6;refine ρ ?_;refine Qj (GrN.ext am) ?_;have a1:=an.trans am;have H7:=a2.ext a1;have ap:=H7.fst.own k lk;rw[if_neg (show¬ (s<=k/\k<k) by omega)]at ap;refine nop ?_;refine apb (base:=base) EI ap (b6.rd (n:=1) rfl) (λu hu=>by rw[List.mem_singleton.1 hu];rfl) (by unfold maxLen;omega) om (nL hbase (nL G.size (nL a4.size a1.size))) ?_;intro v8 w8 ao aa av;refine ρ ?_;refine Qj (GrN.by aa λj ej=>by rw[<-D]at ej;exact ej) ?_;have er:Je (nz (fs k))++[.int .i64 (nn:Int)]=Je (nz (fs k++[nn])):=by simp[Je,nz]
  have el:(fs k).length+1=(fs k++[nn]).length:=by simp
  rw[er,el]at ao;obtain⟨c1,c2,c3,H9,b9⟩:=H7.setF lk ao aa av;have L8:=Zl H7.lev (H7.fst.own k lk) aa rfl;refine ρn ?_;refine Yr 2 k (Rd.own L8) lk ?_;refine ρn ?_;refine Xm ?_;refine sto c1 c2 ?_ (hv:=c3);refine ρ ?_;have ah:∀ g,v8.ownBlock=some g->M g:=λg eg=>by
   rcases av g eg with J|J
   .exact Z g (by rw[D];exact J)
   rw[hM];exact .inr ⟨nL G.size (nL a4.size (nL a1.size J)),λe=>by have:=a1.size;have:=ae.lt;omega⟩
  refine Qt (k+1) a7 (upd fv' k v8) sO ⟨om,om,H9.congr (λl hl=>?_) (λl hl=>?_),?_,Qqd (M:=M) ai lk ah⟩ om
  .by_cases e:l=k
   .subst e;rw[Ju,if_pos om]
   rw[Jm _ _ e];by_cases e2:s<=l/\l<k
   .rw[if_pos e2,if_pos om]
   rw[if_neg e2,if_neg om]
  .by_cases e:l=k
   .subst e;rw[Ju,if_pos om,au]
   rw[Jm _ _ e];by_cases e2:s<=l/\l<k
   .rw[if_pos e2,if_pos om]
   rw[if_neg e2,if_neg om]
  exact((a4.trans (GrN.ext a1)).trans (GrN.by aa λj ej=>Z j (by rw[D];exact ej))).trans (GrN.by b9 λj ej=>ai j (.inl ej))
 have ek:k=d:=by have:=oF h;omega
 subst ek;refine ρ ?_;refine Yt ⟨vv',fv',H2.congr (λl hl=>?_) (λl hl=>?_),?_,λj hj=>?_⟩
 .by_cases e:s<=l
  .rw[if_pos e,if_pos ⟨e,hl⟩]
  rw[if_neg e,if_neg (λJ=>e J.1)]
 .by_cases e:s<=l
  .rw[if_pos e,if_pos (show s<=l/\l<k from⟨e,hl⟩)]
  rw[if_neg e,if_neg (λJ=>e J.1)]
 .exact⟨a3.os.trans G.os,a3.tape.trans G.tape,a3.output.trans G.output,Nat.le_trans G.size a3.size,λj hj hn=>(a3.block j (nM hj G.size) (λe=>by rw[hM]at e;rcases e with e|e;exact hn e;omega)).trans (G.block j hj)⟩
 have:=a9 j hj;rw[hM]at this;exact this.imp id λJ=>J.1
open Go.RowKit Pl Go.Wk _root_.Go.Proofs.Tryz
attribute [local irreducible] WN
variable {t:Int}{zs:List Int}{base c d n:Nat}{A:Option Addr}{w:World}
theorem Qtd(hR:Rd w 1 A n (Je zs))(hn:zs.length=n)(hm:n<=1100000): Ret prog 252 [.slice A n c,.int .i64 t] w λu w'=>w'=w/\∃ z,u=.int .i64 z/\(0<=z↔t∈zs):=by
 refine enE func252 ntmps252 ?_;refine ρ ?_;refine Qf (fun (k:Nat)=>[(0,.slice A n c),(1,.int .i64 t),(7,.int .i64 (n:Int)),(8,.int .i64 (k:Int))]) (λk w'=>w'=w/\k<=n/\t ∉ zs.take k) (λk=>n-k) 0 sB ⟨rfl,Nat.zero_le _,by simp⟩ ?_;rintro k w' ⟨rfl,j,D⟩;refine ciR (λh=>?_) (λh=>?_)
 .have lk:k<n:=by have:=oT h;omega
  have i:k<zs.length:=om
  refine ixR k hR lk ?_;refine ldR (hR.cell (Jwv i)) ?_;refine ciR (λh=>?_) (λh=>?_)
  .refine ρ ?_;refine Jj ⟨rfl,(k:Int),rfl,⟨λ_=>?_,λ_=>om⟩⟩;grind
  refine ρ ?_;refine Qy (k+1) sO ⟨rfl,om,?_⟩ om;rw[Qs 0 i,List.mem_append,List.mem_singleton];grind
 refine ρ ?_;refine Jj ⟨rfl,-1,rfl,⟨λe=>om,λe=>?_⟩⟩;grind
theorem Xqz(hR:Rd w 1 A n (Je zs))(hn:zs.length=n)(hm:n<=1100000): Ret prog 236 [.slice A n c,.int .i64 t] w λu w'=>w'=w/\∃ b:Bool,u=.bool b/\(b=true↔t∈zs):=by
 refine enE func236 ntmps236 ?_;refine clR (Qtd hR hn hm) ?_;rintro u w' ⟨rfl,z,rfl,i⟩;refine ρ ?_;exact Jj ⟨rfl,decide (0<=z),rfl,by grind⟩
def TriV(w:World)(v:Value)(d:Nat)(rs:List Row): Prop:=∃(A:Option Addr) (vv fv:Nat->Value) (fs:Nat->List Nat),v=.agg #[.slice A d d]/\Rd w 2 A d (Zu d vv fv)/\(∀ l,l<d->∃ B c,vv l=.slice B (lvl rs l).length c/\RdR w B (lvl rs l)) /\
 (∀ l,l<d->∃ B c,fv l=.slice B (fs l).length c/\Rd w 1 B (fs l).length (Je (nz (fs l))))/\∀ l,l+1<d->Chl rs l (fs l)
theorem TriV.ext{w w':World}{v:Value}{d:Nat}{rs:List Row}(h:TriV w v d rs)(hx:Ext w w'): TriV w' v d rs:=by
 obtain⟨A,vv,fv,fs,D,u,J,G,j⟩:=h;refine⟨A,vv,fv,fs,D,u.ext hx,λl i=>?_,λl i=>?_,j⟩;repeat grind [Rd.ext]
theorem TriB.off{vv fv:Nat->Value}{rs:List Row}{fs:Nat->List Nat}{N:Nat->Prop}(h:TriB w base A d vv fv (lvl rs) fs)(hc:∀ l,l+1<d->Chl rs l (fs l))(hN:∀ j,Yx A d vv fv j->¬ N j): Off N w (λu=>TriV u (.agg #[.slice A d d]) d rs):=by
 intro u G;refine⟨A,vv,fv,fs,rfl,Vb h.rd G (λ_ O e=>?_),λl i=>?_,λl i=>?_,hc⟩
 .subst e;exact hN _ (.inl rfl)
 .obtain⟨B,c,e,_,D⟩:=h.vform i;refine⟨B,c,e,Vb D G λ_ O J=>hN _ (.inr ⟨l,i,.inl ?_⟩)⟩;rw[e,J];rfl
 obtain⟨B,c,e,_,D⟩:=h.fform i;refine⟨B,c,e,Vb D G λ_ O J=>hN _ (.inr ⟨l,i,.inr ?_⟩)⟩;rw[e,J];rfl
theorem Jdg: Qr prog 317=some (.agg #[.slice none 0 0]):=kr
theorem Xwb(A:Option Addr)(n c:Nat)(w:World): (Instr.build 317 #[(0,.slice A n c)]).run prog w=.ok (.agg #[.slice A n c]) w:=kr
theorem EL: ElT prog 315 334 2 48 (.agg #[.slice none 0 0,.slice none 0 0]):=⟨underlying315,info_parts kr,rfl,by decide⟩
theorem one1: ∀ u∈[Value.slice A n c],u.oneCell'=true:=by intro u i;rw[List.mem_singleton.1 i];rfl
theorem made2(d:Nat): (madeCells (Value.agg #[.slice none 0 0,.slice none 0 0]).cells (d*2)).toList=Zu d (λ_=>.slice none 0 0) (λ_=>.slice none 0 0):=by
 apply List.ext_getElem?
 intro k;have u:(Value.agg #[.slice none 0 0,.slice none 0 0]).cells = #[.slice none 0 0,.slice none 0 0]:=rfl;rw[u];by_cases hk:k<d*2
 .have i:=Kj d (λ_=>Value.slice none 0 0) (λ_=>Value.slice none 0 0) (l:=k / 2) om;have j:k % 2=0∨k % 2=1:=om
  rcases j with j|j
  .have e:k / 2*2=k:=om
   rw[e]at i;rw[i.1];simp only[madeCells,Array.getElem?_toList,Array.getElem?_map,Array.getElem?_range,hk,if_true,Option.map_some];grind
  have e:k / 2*2+1=k:=om
  rw[e]at i;rw[i.2];simp only[madeCells,Array.getElem?_toList,Array.getElem?_map,Array.getElem?_range,hk,if_true,Option.map_some];grind
 rw[List.getElem?_eq_none (by simp[madeCells];omega),List.getElem?_eq_none (by rw[Vt];omega)]
open Go.RowKit Pl Go.Wk
variable {ls rs:List Row}{d:Nat}{r x:Row}
theorem Qmg(h:r.length=d): pmR (List.range d) r=r:=by
 apply List.ext_getElem
 repeat grind [pmR,List.getD,List.getElem?_eq_getElem]
theorem TriB.nil(w:World)(base:Nat){A:Option Addr}(hl:w.ownsRow base 334 2 (.slice A d d) d (Zu d (λ_=>.slice none 0 0) (λ_=>.slice none 0 0))): TriB w base A d (λ_=>.slice none 0 0) (λ_=>.slice none 0 0) (λ_=>[]) (λ_=>[]) :=
 ⟨hl,⟨λi hi=>Zw _ _ _ _,λi j g _ _ _ e=>by cases e⟩,⟨λi hi=>Zw _ _ _ _,λi j g _ _ _ e=>by cases e⟩⟩
theorem Qqv(l:Nat): (lvl rs l).length<=rs.length:=by
 rw[Jzp];have:=Jqt (rs.map (List.take (l+1)));rw[List.length_map]at this;exact this
theorem Qfs: stp rs x<=x.length:=by
 unfold stp;split
 .exact(Jsq _ _).2
 exact Nat.zero_le _
theorem Qdn{w:World}{v vc:Value}(hrel:RelV w v d ls)(hlt:Lt [] ls)(hlen:∀ r∈ls,r.length=d)(hc:IntsV w vc (nz (List.range d)))(hd:d<=32)(hbig:ls.length<=65536):
  Ret Tryz.prog 222 [v,vc] w λu w'=>Ext w w'/\∃ t,u=.tuple #[t,.int .i64 0]/\(∃ A,t=.agg #[.slice A d d])/\Off (λk=>k<w.heap.size) w' (λx=>TriV x t d ls):=by
 obtain⟨C,cc,rfl,dk,dj,cv⟩:=id hc;obtain⟨rv,rfl,bp⟩:=id hrel;obtain⟨ef,A0,c0,_,rfl,_⟩:=id bp;have bb:(nz (List.range d)).length=d:=by rw[Qg,List.length_range]
 rw[bb]at hc dk dj cv ⊢;have d4:∀ {k:Nat},k<d->(List.range d).getD k 0=k:=fun {k} hk=>by simp[List.getD,hk]
 have bw:∀ {k:Nat},k<d->(Je (nz (List.range d)))[k]?=some (.int .i64 (k:Int)):=fun {k} hk=>by
  have:=Zy (cs:=List.range d) (i:=k) (by rw[List.length_range];exact hk);rw[d4 hk]at this;exact this
 refine enE Tryz.func222 Tryz.ntmps222 ?_;refine bxR ?_;intro w1 b1 ch et e5;refine Jv Jdg ?_;intro w2 b2 cg dn d3;have cd:=ch.trans cg;refine ρ ?_;refine Qf (fun (k:Nat)=>[(1,.slice C d cc),(2,.pointer (some ⟨b1,0,none⟩)),(4,.pointer (some ⟨b2,0,none⟩)),(15,.slice C d cc),(16,.int .i64 (d:Int)),(17,.int .i64 (k:Int))]) (λk w'=>Ext w2 w'/\k<=d) (λk=>d-k) 0 sB ⟨Ext.refl _,Nat.zero_le _⟩ ?_;rintro k w3 ⟨au,hk⟩;have a8:=cd.trans au;have bl:=(e5.ext cg).ext au;refine ciR (λh=>?_) (λh=>?_)
 .have lk:k<d:=by have:=oT h;omega
  have b4:=cv.ext a8;refine ixR k b4 lk ?_;refine ldR (b4.cell (bw lk)) ?_;refine kfR 24 ?_ ?_
  .exact decide_eq_false om
  refine Qk bl ?_;refine clR (Jgh (hrel.ext a8)) ?_;rintro u w4 ⟨rfl,ap⟩;refine cfR ?_ ?_
  .exact decide_eq_false om
  refine ρ ?_;refine slh k ?_;refine ρ ?_;have dt:Rd w4 1 C k (Je ((nz (List.range d)).take k)):=by
   have:=(b4.ext ap).take (m:=k) om;rw[Nat.mul_one]at this;have e:Je ((nz (List.range d)).take k)=(Je (nz (List.range d))).take k:=by simp[Je]
   rw[e];exact this
  refine cl (Xqz (t:=(k:Int)) dt (by rw[List.length_take,bb];omega) om) ?_;rintro u w5 ⟨rfl,t,rfl,ht⟩;have dg:t=false:=by
   cases t with
   | false=>rfl
   | true=>
    exfalso
    have hm:=ht.1 rfl;obtain⟨i,hi,e⟩:=List.getElem_of_mem hm;rw[List.length_take,bb]at hi;have:((nz (List.range d)).take k)[i]'(by rw[List.length_take,bb];exact hi)=(i:Int):=by simp[nz]
    rw[this]at e;omega
  refine cfR dg ?_;refine ρ ?_;exact Qy (k+1) sO ⟨au.trans ap,om⟩ om
 clear h;have cn:ls.map (pmR (List.range d))=ls:=by
  conv=>rhs;rw[<-List.map_id ls]
  exact List.map_congr_left λr hr=>by rw[Qmg (hlen r hr)];rfl
 refine Qk bl ?_;refine clR (Jtt (cs:=List.range d) (hrel.ext a8) (hc.ext a8) hlen (λc hc=>List.mem_range.1 hc) (by rw[List.length_range];exact hd) hbig) ?_;rintro u w4 ⟨ap,pv,rfl,⟨pz,pB,pm,pd,rfl⟩,m,cm,em,ei,di⟩;have dh:m=ls:=by
  have:=di (.inr (by rw[cn];exact Ge hlt));rw[cn]at this;exact Jjv this.1 hlt this.2
 subst dh;rw[List.length_range]at cm;have cb:=a8.trans ap;refine Jv Gm ?_;intro w5 b5 df dm e4;refine Qw e4 ?_ (Yp (z:=pz) (A:=pB) (n:=pm) (c:=pd));intro w6 e3 eo de;have ae:Ext w4 w6:=de w4 df dm;have aq:=cb.trans ae;have dx:RelV w6 (.agg #[.int .i64 pz,.slice pB pm pd]) d m:=cm.here.ext ae;refine ρ ?_;refine mkn EL d om (by unfold maxLen;omega) ?_;intro w7 A dd br hO;rw[made2]at br;refine Zz (Xwb A d d _) ?_;refine Jv Jdg ?_;intro w8 b8 dc dl e1;refine Qw e1 ?_ (one1 (A:=A) (n:=d) (c:=d));intro w9 e0 en db;have ar:Ext w7 w9:=db w7 dc dl;have G:=dd.trans ar;have ca:=aq.trans G;have dq:=TriB.nil w9 w6.heap.size (Jk br ar);have cp:∀ j,(Value.slice A d d).ownBlock=some j->w6.heap.size<=j/\j<w7.heap.size:=by
  obtain⟨_,_,_,_,hf⟩:=Jy br;exact hf
 refine Qk (e3.ext G) ?_;refine clR (Jgf (dx.ext G)) ?_;rintro u ao ⟨J,ba⟩;obtain⟨ps,R,rc,co,rfl,ea,e9,dv,du⟩:=ba;have eh:ps.length=m.length:=by rw[co,List.length_map]
 generalize hn:ps.length=n at *
 have ay:∀ i,m.getD i []=(ps.getD i z0).2:=λi=>by rw[co];exact Jqk
 have bn:=ca.trans J;obtain⟨Ar,b9⟩:∃ Ar:Nat->Prop,Ar=λj=>j<w9.heap.size∨ao.heap.size<=j:=⟨_,rfl⟩;have dw:Off Ar ao (λu=>Rd u 1 R n (ps.map (·.1))):=dv.mono λj hj ax=>by rw[b9]at ax;omega
 have bz:∀ p∈ps,Off Ar ao (λu=>RowV u p.1 p.2):=λp hp=>(du p hp).mono λj hj ax=>by rw[b9]at ax;omega
 have a3:=e0.ext J;have d2:=(((((d3.ext au).ext ap).ext ae).ext G).ext J);obtain⟨M,hM⟩:∃ M:Nat->Prop,M=λj=>w6.heap.size<=j/\Ar j/\j≠b8:=⟨_,rfl⟩;have c4:∀ j,M j->Ar j:=λj hj=>by rw[hM]at hj;exact hj.2.1
 have b6:¬ M b8:=λe=>by rw[hM]at e;exact e.2.2 rfl
 have cx:¬ M b2:=λe=>by
  rw[hM]at e;have h1:=d3.lt;have h2:=au.size;have h3:=ap.size;have h4:=ae.size;omega
 refine ρ ?_;refine Xn (fun (k:Nat) (vv fv:Nat->Value)=>[(4,.pointer (some ⟨b2,0,none⟩)),(10,.pointer (some ⟨b8,0,none⟩)),(11,if k=0 then .slice none 0 0 else(ps.getD (k-1) z0).1),(53,.slice R n rc),(54,.int .i64 (n:Int)),(55,.int .i64 (k:Int))])
  (λk vv fv w'=>k<=n/\(∃ fs,TriB w' w6.heap.size A d vv fv (lvl (m.take k)) fs/\(∀ l,l<d->(fs l).length=(lvl (m.take k) l).length)/\∀ l,l+1<d->Fst (m.take k) l (fs l))/\GrN M ao w'/\∀ j,Yx A d vv fv j->M j) (λk _ _=>n-k) 0 (λ_=>.slice none 0 0) (λ_=>.slice none 0 0) sB
  ⟨Nat.zero_le _,⟨λ_=>[],(dq.ext J).congr (λl Z=>rfl) (λl Z=>rfl),λl Z=>rfl,λl Z=>Fst.nil l⟩,GrN.refl _ _,λj hj=>?_⟩ ?_
 .rcases hj with e|⟨l,_,e|e⟩
  .have:=cp j e;rw[hM];refine⟨this.1,by rw[b9];exact .inl (nM this.2 ar.size),λe2=>?_⟩;subst e2;omega
  .cases e
  cases e
 rintro k vv fv a4 ⟨hk,⟨fs,c6,b3,ak⟩,a2,aa⟩;have a7:GrN Ar ao a4:=a2.mono λj _ hj=>c4 j hj;refine ciR (λh=>?_) (λh=>?_)
 .have lk:k<n:=by have:=oT h;omega
  have c9:k<m.length:=om
  clear h;have bj:=dw a4 a7;have cw:RowV a4 (ps.getD k z0).1 (m.getD k []):=by rw[ay];exact bz _ (Yu hn lk) a4 a7
  have ce:(m.getD k []).length=d:=hlen _ (getD_mem' [] m c9);have cz:∃ y,RowV a4 (if k=0 then .slice none 0 0 else(ps.getD (k-1) z0).1) y/\(y=[]∨y.length=(m.getD k []).length)/\shr y (m.getD k [])=stp (m.take k) (m.getD k []):=by
   by_cases e:k=0
   .subst e;rw[if_pos rfl];exact⟨[],RowV.nil _ _ _,.inl rfl,by rw[Jfh];rfl⟩
   rw[if_neg e];have d7:k-1<n:=om
   refine⟨m.getD (k-1) [],by rw[ay];exact bz _ (Yu hn d7) a4 a7,.inr (by rw[ce];exact hlen _ (getD_mem' [] m om)),?_⟩;have e2:(m.take k).getLast?=some (m.getD (k-1) []):=by
    rw[List.getLast?_eq_getElem?,List.length_take,Nat.min_eq_left om,List.getElem?_take,if_pos om,Qd [] m om,List.getElem?_eq_getElem om]
   unfold stp;rw[e2]
  obtain⟨y,da,d9,d8⟩:=cz;have av:m.take (k+1)=m.take k++[m.getD k []]:=Qs [] c9;have ah:Lt [] (m.take k++[m.getD k []]):=by rw[<-av];exact List.Pairwise.sublist (List.take_sublist _ _) hlt
  have a5:∀ r∈m.take k++[m.getD k []],r.length=d:=by rw[<-av];exactλr hr=>hlen r (List.mem_of_mem_take hr)
  refine ixR k bj lk ?_;refine ldR (Jxr bj hn lk) ?_;refine ρ ?_;refine drN (λ_=>False) 4 (scq 6 [4,105]) kr ?_;have ab:Ext a4 a4.drew:=(Ext.refl a4).drew;have bs:=a2.trans (GrN.ext ab);have am:=Jc a3 bs b6;refine ρn ?_;refine Xs (cs:=[.slice A d d]) (λw' hg j u hu=>(Jc am hg (λe=>e)).at hu) ?_;refine ρn ?_;refine nop ?_;refine cl (Qdm (da.ext ab) (cw.ext ab) d9) ?_;rintro u an ⟨rfl,bf⟩;refine ρ ?_;refine Qj (GrN.ext bf) ?_;rw[d8];have ag:=ab.trans bf;have bd:=c6.ext ag;have D:=a2.trans (GrN.ext ag);have bo:Off (Yx A d vv fv) an (λu=>RowV u (ps.getD k z0).1 (m.getD k [])):=λu hu=>by
   rw[ay];exact bz _ (Yu hn lk) u ((D.mono λj _ hj=>c4 j hj).trans (hu.mono λj _ hj=>c4 j (aa j hj)))
  refine Xm ?_;refine cl (Qdq (s:=stp (m.take k) (m.getD k [])) bd bo ce hd (by have:=Qfs (rs:=m.take k) (x:=m.getD k []);omega) ?_ ?_) ?_
  .have h1:=G.size;have h2:=J.size;have h3:=D.size;omega
  .intro l Z;have h1:=Qqv (rs:=m.take k) l;rw[List.length_take]at h1;have h2:=b3 l Z;omega
  rintro u c7 ⟨d5,ac,e8,az,cy⟩;refine ρ ?_;refine Qt (k+1) d5 ac (by repeat' (first|exact Sub.nil|refine Sub.cons (by first|rfl|(refine congrArg (λz=>some (Value.int .i64 z)) ?_;omega)|(rw[if_neg (Nat.succ_ne_zero k)];rfl)) ?_)) ⟨om,⟨_,e8.congr (vs':=lvl (m.take (k+1))) (λl Z=>?_) (λl Z=>rfl),λl Z=>?_,λl Z=>?_⟩,D.trans (az.mono λj _ hj=>aa j hj),λj hj=>?_⟩ om
  .rw[av,Qqt ah a5 Z];by_cases e:stp (m.take k) (m.getD k [])<=l
   .rw[if_pos e,if_neg om]
   rw[if_neg e,if_pos om]
  .rw[av,Qqt ah a5 Z];by_cases e:stp (m.take k) (m.getD k [])<=l
   .rw[if_pos e,if_neg (show¬ l+1<=stp (m.take k) (m.getD k []) by omega),List.length_append,List.length_append,b3 l Z];rfl
   rw[if_neg e,if_pos om];exact b3 l Z
  .rw[av];by_cases e:stp (m.take k) (m.getD k [])<=l
   .rw[if_pos e,if_pos Z,Jzp];exact(ak l Z).more ah a5 e
   rw[if_neg e];exact(ak l Z).keep ah a5 om
  rcases cy j hj with h'|h'
  .exact aa j h'
  rw[hM];have h1:=G.size;have h2:=J.size;have h3:=D.size;have h4:=a3.lt;exact⟨om,by rw[b9];exact .inr om,om⟩
 have ek:k=n:=by have:=oF h;omega
 subst ek;rw[List.take_of_length_le om]at c6 b3 ak;have am:=Jc a3 a2 b6;refine ldR (am.at (i:=0) rfl) ?_;refine ρ ?_;refine Jo (fun (k:Nat) (fv:Nat->Value)=>[(4,.pointer (some ⟨b2,0,none⟩)),(10,.pointer (some ⟨b8,0,none⟩)),(69,.int .i64 (d:Int)),(70,.int .i64 (k:Int))])
  (λq ac w'=>q<=d/\TriB w' w6.heap.size A d vv ac (lvl m) (λl=>if l<q then fs l++[if l+1<d then(lvl m (l+1)).length else 0] else fs l)/\GrN M ao w'/\∀ j,Yx A d vv ac j->M j) (λq _=>d-q) 0 fv sB
  ⟨Nat.zero_le _,c6.congr (λl Z=>rfl) (λl Z=>by rw[if_neg om]),a2,aa⟩ ?_
 clear am aa a7 a2;rintro q ac an ⟨hq,bd,D,aj⟩;refine ciR (λh=>?_) (λh=>?_)
 .have lq:q<d:=by have:=oT h;omega
  clear h;have eb:=b3 q lq;have ep:=Qqv (rs:=m) q;obtain⟨own,a9⟩:∃ own,own=(ac q).ownBlock:=⟨_,rfl⟩;have bq:∀ j,own=some j->M j:=λj ej=>aj j (.inr ⟨q,lq,.inr (by rw[<-a9];exact ej)⟩);refine ρ ?_;refine drN (one own) 4 (scq 18 [12,13,14,117]) kr ?_;have ab:Ext an an.drew:=(Ext.refl an).drew;have O:=bd.ext ab;have a6:=D.trans (GrN.ext ab);have b7:=Jc a3 a6 b6;have nb:¬ one own b8:=λe=>b6 (bq b8 e);have d6:¬ one own (adr A (q*2)).block:=by
   obtain⟨ad,e,_⟩:=O.rd.isome om om;subst e;simp only[adr,Option.getD_some,Ug];intro h';exact Jxz O.lev (O.fst.own q lq) rfl rfl (by rw[<-a9];exact h')
  refine ρn ?_;refine nld (Jr (b7.at (i:=0) rfl) nb) ?_;refine ρn ?_;refine nld (Jr (b7.at (i:=0) rfl) nb) ?_;refine ρn ?_;refine Yr 2 q O.rd lq ?_;refine ρn ?_;refine nld (Jr (O.f1 lq) (by rw[Ug];exact d6)) ?_;refine ρn ?_;refine Xs (cs:=[.slice A d d]) (λw' hg j u hu=>(Jc b7 hg nb).at hu) ?_;refine ρn ?_;refine nop ?_;refine cl (Jdv (l:=q+1) (li:=(q:Int)+1) O.rd (λl Z=>by obtain⟨B,c,e,_⟩:=O.vform Z;exact⟨B,c,e⟩) om hd) ?_;rintro u c7 ⟨rfl,af⟩;refine ρ ?_;refine Qj (GrN.ext af) ?_;obtain⟨nn,ck⟩:∃ nn:Nat,nn=if q+1<d then(lvl m (q+1)).length else 0:=⟨_,rfl⟩
  rw[<-ck];refine nop ?_;refine bsl (bs1Int' (nn:Int)) ?_;intro ee eu be ec cq;refine ρ ?_;refine Qj (GrN.ext be) ?_;have a1:=af.trans be;have bc:=O.ext a1;have bh:=bc.fst.own q lq;rw[if_neg (show¬ q<q by omega)]at bh;refine nop ?_;refine apb (base:=w6.heap.size) EI bh (cq.rd (n:=1) rfl) (λu hu=>by rw[List.mem_singleton.1 hu];rfl) (by unfold maxLen;omega) om ?_ ?_
  .have h1:=G.size;have h2:=J.size;have h3:=a6.size;have h4:=a1.size;omega
  intro c8 ed bg ai bi;refine ρ ?_;refine Qj (GrN.by ai λj ej=>by rw[<-a9]at ej;exact ej) ?_;have er:Je (nz (fs q))++[.int .i64 (nn:Int)]=Je (nz (fs q++[nn])):=by simp[Je,nz]
  have el:(fs q).length+1=(fs q++[nn]).length:=by simp
  rw[er,el]at bg;obtain⟨c1,c2,c3,e7,cr⟩:=bc.setF lq bg ai bi;have e6:=Zl bc.lev (bc.fst.own q lq) ai rfl;refine ρn ?_;refine Yr 2 q (Rd.own e6) lq ?_;refine ρn ?_;refine Xm ?_;refine sto c1 c2 ?_ (hv:=c3);refine ρ ?_;have dz:∀ g,c8.ownBlock=some g->M g:=λg eg=>by
   rcases bi g eg with h'|h'
   .exact bq g (by rw[a9];exact h')
   rw[hM];have h1:=G.size;have h2:=J.size;have h3:=a6.size;have h4:=a1.size;have h5:=a3.lt;exact⟨om,by rw[b9];exact .inr om,om⟩
  refine Jl (q+1) (upd ac q c8) sO ⟨om,e7.congr (λl Z=>rfl) (λl Z=>?_),?_,Qqd (M:=M) aj lq dz⟩ om
  .by_cases e:l=q
   .subst e;rw[Ju,if_pos (show l<l+1 by omega),ck]
   rw[Jm _ _ e];by_cases e2:l<q
   .rw[if_pos e2,if_pos (show l<q+1 by omega)]
   rw[if_neg e2,if_neg (show¬ l<q+1 by omega)]
  exact((a6.trans (GrN.ext a1)).trans (GrN.by ai λj ej=>bq j (by rw[a9];exact ej))).trans (GrN.by cr λj ej=>aj j (.inl ej))
 have eq:q=d:=by have:=oF h;omega
 subst eq;have d0:=Jc a3 D b6;have d1:=Jc d2 D cx;refine Qk d0 ?_;refine Qw d1 ?_ (one1 (A:=A) (n:=q) (c:=q));intro c7 c5 az af;refine ρ ?_;have bm:Ext w an:=D.old bn λj hj=>by rw[hM]at hj;exact nL aq.size hj.1
 refine Zn c5 ⟨af w bm (nL ch.size dn),_,rfl,⟨A,rfl⟩,?_⟩;have cj:=bd.off (N:=λj=>j<w.heap.size∨j=b2) (λl Z=>?_) (λj hj ax=>?_)
 .refine(cj.grown az (λj ej=>.inr (by injection ej with ej;exact ej.symm))).mono λj _ hj=>.inl hj
 .rw[if_pos (show l<q by omega),if_pos Z,Jzp];exact(ak l Z).close
 have h1:=aj j hj;rcases ax with h'|h'
 .rw[hM]at h1;have:=aq.size;omega
 subst h';exact cx h1
end Go.Proofs.YtgobkbeokaaplaaGreatDoor
