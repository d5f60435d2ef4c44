/- Part 18. -/
import Derived.Test.YtebcagekopgdhaaGreatDoorB17
import Derived.Maps.RangeWalk
set_option linter.unusedVariables false
set_option maxRecDepth 100000
set_option maxHeartbeats 40000000
namespace Go.Proofs.YtebcagekopgdhaaGreatDoor
open Go.RowKit Pl Go.Wk
attribute [local irreducible] WC WL QX WD WDB WP WN
structure JC where
 F: Fix
 n:Nat
 m:Nat
 vars:Nat->List Nat
 J:Nat
 Ra:Option Addr
 base:Nat
 ja:Value
 yv:Value
 vat:Nat->Value
 N:Nat->Prop
def JC.I(c:JC)(v:Nat): List Nat:=(List.range c.m).filter λi=>decide (v∈c.vars i)
theorem JC.mem_I{c:JC}{v i:Nat}: i∈c.I v↔i<c.m/\v∈c.vars i:=by simp [JC.I]
theorem JC.nodup_I(c:JC)(v:Nat): (c.I v).Nodup:=List.Nodup.sublist List.filter_sublist List.nodup_range
theorem JC.len_I(c:JC)(v:Nat): (c.I v).length<=c.m:=by have:=List.length_filter_le (λi=>decide (v∈c.vars i)) (List.range c.m);rw [List.length_range]at this;exact this
def JC.rowv(c:JC): Value:=.slice c.Ra c.n c.n
abbrev JC.Ans(c:JC)(z:Row): Prop:=Zr c.n c.m c.vars c.F.rs z
def JC.NI(c:JC)(k:Nat): Prop:=k=c.J∨(∃ i,i<c.m/\k=c.F.G i)∨c.rowv.ownBlock=some k
structure JOk(c:JC): Prop where
 n32:c.n<=32
 m32:c.m<=32
 asc:∀ i,i<c.m->Qo (c.vars i)
 lt:∀ i,i<c.m->∀ u∈c.vars i,u<c.n
 d:∀ i,i<c.m->c.F.d i=(c.vars i).length
 d32:∀ i,i<c.m->c.F.d i<=32
 ne:∀ i,i<c.m->c.F.rs i≠[]
 srt:∀ i,i<c.m->Lt [] (c.F.rs i)
 len:∀ i,i<c.m->∀ r∈c.F.rs i,r.length=c.F.d i
 big:∀ i,i<c.m->(c.F.rs i).length<=65536
 inj:∀ i j,i<c.m->j<c.m->c.F.G i=c.F.G j->i=j
 gj:∀ i,i<c.m->c.F.G i≠c.J
 cov:∀ v,v<c.n->∃ i,i<c.m/\v∈c.vars i
 sub:∀ k,c.NI k->c.N k
structure JEnv(c:JC)(w:World): Prop where
 tri:∀ i,i<c.m->Off c.N w (λu=>TriA u (c.F.A i) (c.F.d i) (c.F.rs i))
 at_:∃ B cc,c.ja=.slice B c.n cc/\Off c.N w (λu=>Rd u 1 B c.n ((List.range c.n).map c.vat))
 lists:∀ v,v<c.n->∃ B cc,c.vat v=.slice B (c.I v).length cc/\Off c.N w (λu=>Rd u 1 B (c.I v).length (Jjt c.F (c.I v)))
theorem JEnv.gr{c:JC}{w w':World}(h:JEnv c w)(hg:GrN c.N w w'): JEnv c w':=by
 refine ⟨λi hi=>(h.tri i hi).gr hg,?_,λv C=>?_⟩
 .obtain ⟨B,u,e,o⟩:=h.at_;exact ⟨B,u,e,o.gr hg⟩
 .obtain ⟨B,u,e,o⟩:=h.lists v C;exact ⟨B,u,e,o.gr hg⟩
def AllIt(c:JC)(w:World)(L p e:Nat->Nat)(f h:Nat->Nat->Nat): Prop:=∀ i,i<c.m->∃ st,ItB w (c.F.G i) (c.F.A i) (c.F.d i) (L i) (p i) (e i) (f i) (h i) st
structure YC(c:JC)(Y:List Row->World->Prop)(NY:Nat->Prop): Prop where
 sub:∀ k,NY k->c.N k
 off:∀ k,NY k->¬ c.NI k
 keep:∀ l w w',Y l w->GrN c.NI w w'->Y l w'
 call:∃ fid first cap,c.yv=.func (.func fid) first cap/\∀ l w vr z,Y l w->RowV w vr z->l.length<65536->Ret Tryz.prog fid (first.toList++[vr]++cap.toList) w λr w'=>r=.bool true/\Y (l++[z]) w'/\GrN NY w w'
structure Cfg(c:JC)(Y:List Row->World->Prop)(w:World)(z:Row)(L p e:Nat->Nat)(f h:Nat->Nat->Nat)(l:List Row): Prop where
 env:JEnv c w
 its:AllIt c w L p e f h
 row:Zm w c.base c.rowv z
 zl:z.length=c.n
 jb:JB w c.J c.rowv c.ja c.yv
 y:Y l w
section
variable {c:JC} {Y:List Row->World->Prop} {NY:Nat->Prop} {w w':World} {z:Row} {L p e:Nat->Nat} {f h:Nat->Nat->Nat} {l:List Row}
theorem Cfg.ext(H:Cfg c Y w z L p e f h l)(hY:YC c Y NY)(hx:Ext w w'): Cfg c Y w' z L p e f h l :=
 ⟨H.env.gr (GrN.ext hx),λi hi=>by obtain ⟨st,o⟩:=H.its i hi;exact ⟨st,o.ext hx⟩,Jk H.row hx,H.zl,by obtain ⟨st,o⟩:=H.jb;exact ⟨st,o.ext hx⟩,hY.keep _ _ _ H.y (GrN.ext hx)⟩
theorem Cfg.rowG(H:Cfg c Y w z L p e f h l){i:Nat}(hi:i<c.m){k:Nat}(hk:c.rowv.ownBlock=some k): k≠c.F.G i:=λu=>by
 obtain ⟨st,o⟩:=H.its i hi;exact o.ne_own H.row rfl (by rw [hk,u])
theorem Cfg.rowJ(H:Cfg c Y w z L p e f h l){k:Nat}(hk:c.rowv.ownBlock=some k): k≠c.J:=λu=>by
 obtain ⟨st,o⟩:=H.jb;exact o.ne_own H.row rfl (by rw [hk,u])
theorem Cfg.it(H:Cfg c Y w z L p e f h l)(hok:JOk c)(hY:YC c Y NY){i:Nat}(hi:i<c.m)(hg:GrN (λk=>k=c.F.G i) w w'){L' p' e':Nat}{f' h':Nat->Nat}{st:Int}(hI:ItB w' (c.F.G i) (c.F.A i) (c.F.d i) L' p' e' f' h' st):
  Cfg c Y w' z (upd L i L') (upd p i p') (upd e i e') (upd f i f') (upd h i h') l:=by
 have o:GrN c.NI w w':=hg.mono λk _ u=>.inr (.inl ⟨i,hi,u⟩);refine ⟨H.env.gr (o.mono λk _ O=>hok.sub k O),λj J=>?_,Jr H.row hg (λg U=>H.rowG hi U),H.zl,?_,hY.keep _ _ _ H.y o⟩
 .by_cases ej:j=i
  .subst ej;rw [Jf,Jf,Jf,Jf,Jf];exact ⟨st,hI⟩
  .rw [Jy _ _ ej,Jy _ _ ej,Jy _ _ ej,Jy _ _ ej,Jy _ _ ej];obtain ⟨st,C⟩:=H.its j J;exact ⟨st,Jd C hg (λu=>ej (hok.inj j i J hi u))⟩
 .obtain ⟨st,C⟩:=H.jb;exact ⟨st,Jd C hg (λu=>hok.gj i hi u.symm)⟩
theorem Cfg.mt(H:Cfg c Y w z L p e f h l)(hok:JOk c)(hY:YC c Y NY){v:Nat}(hg:GrN (NG c.F (c.I v) c.J) w w')(hJ:JB w' c.J c.rowv c.ja c.yv){p':Nat->Nat}(hI:Its c.F ⟨L,λ_=>0,e,f,h⟩ (c.I v) w' p'):
  Cfg c Y w' z L (λi=>if i∈c.I v then p' i else p i) e f h l:=by
 have u:GrN c.NI w w':=hg.mono λk _ o=>by
  rcases o with o|⟨i,hi,o⟩
  .exact .inl o
  .exact .inr (.inl ⟨i,(JC.mem_I.1 hi).1,o⟩)
 refine ⟨H.env.gr (u.mono λk _ O=>hok.sub k O),λj C=>?_,Jr H.row hg (λg G=>?_),H.zl,hJ,hY.keep _ _ _ H.y u⟩
 .by_cases ej:j∈c.I v
  .simp only [if_pos ej];exact hI j ej
  .simp only [if_neg ej];obtain ⟨st,U⟩:=H.its j C;refine ⟨st,Jd U hg ?_⟩;rintro (o|⟨i,hi,o⟩)
   .exact hok.gj j C o
   .have:=hok.inj j i C (JC.mem_I.1 hi).1 o;subst this;exact ej hi
 .rintro (o|⟨i,hi,o⟩)
  .exact H.rowJ G o
  .exact H.rowG (JC.mem_I.1 hi).1 G o
end
end Go.Proofs.YtebcagekopgdhaaGreatDoor
namespace Go.Wk
open Go.RowKit
open Go.Maps (Keyed)
abbrev DV:= DataW Value
def RT(v:Value): Option (DV×List MemPlace):=some (.held v,[])
theorem Qxw{v u:Value}{ps:List MemPlace}(h:RT v=some (.held u,ps)): v=u:=by
 simp only [RT,Option.some.injEq,Prod.mk.injEq,DataW.held.injEq]at h;exact h.1
def MapS(P:Program)(k:TypeId)(w:World)(b n:Nat)(f:Lit->Option Value): Prop :=
 ∃ D:DV,w.ownsMap P k RT b n D/\(∀ kl,Maps.has D kl=(f kl).isSome)/\∀ kl zd,D.atKey kl zd=(match f kl with|some v=>.held v|none=>zd)
def upL(f:Lit->Option Value)(kl:Lit)(x:Option Value): Lit->Option Value:=λz=>if z.sameKey kl=true then x else f z
section
variable {P:Program} {k:TypeId} {w w':World} {b n:Nat} {f:Lit->Option Value}
theorem MapS.lt(h:MapS P k w b n f): b<w.heap.size:=by obtain ⟨D,o,_⟩:=h;exact o.lt
theorem MapS.kept{row:Option Nat}(h:MapS P k w b n f)(hg:w.grownBy w' row)(hne:some b≠row): MapS P k w' b n f:=by
 obtain ⟨D,u,o⟩:=h;exact ⟨D,u.kept hg hne,o⟩
theorem MapS.gr{N:Nat->Prop}(h:MapS P k w b n f)(hg:GrN N w w')(hn:¬ N b): MapS P k w' b n f:=by
 obtain ⟨D,⟨es,o,C,J⟩,G⟩:=h;have u:b<w.heap.size:=by
  rcases Nat.lt_or_ge b w.heap.size with h'|h'
  .exact h'
  .rw [Array.getElem?_eq_none h']at C;cases C
 exact ⟨D,⟨es,o,(hg.block b u hn).trans C,J⟩,G⟩
theorem MapS.ext(h:MapS P k w b n f)(hx:Ext w w'): MapS P k w' b n f:=h.gr (N:=λ_=>False) (GrN.ext hx) (λe=>e)
theorem MapS.made(w:World)(P:Program)(k:TypeId): MapS P k (w.alloc (.map #[] 0)) w.heap.size 0 (λ_=>none) :=
 ⟨.map [],World.ownsMap_made w P k RT,λo=>rfl,λo u=>rfl⟩
theorem Gx{kl:Lit}(hk:WideAt.IsKeyLit kl)(x:Option Value): upL f kl x kl=x:=by unfold upL;rw [if_pos (WideAt.sameKey_self hk)]
theorem Yy{kl z:Lit}(h:z≠kl)(x:Option Value): upL f kl x z=f z:=by
 unfold upL;rw [if_neg (by rw [Maps.sameKey_ne h];simp)]
theorem MapS.look(h:MapS P k w b n f)(K:Keyed P k){t e:TypeId}(ht:P.underlying t=some (.map k e)){z:Value}(hz:(zeroValue e).run P w=.ok z w){key:Value}{kl:Lit}(hkey:keyOf P k key=some kl):
  (Instr.lookup t (.map (some b)) key true).run P w=.ok (.tuple #[(f kl).getD z,.bool (f kl).isSome]) w/\(Instr.lookup t (.map (some b)) key false).run P w=.ok ((f kl).getD z) w:=by
 obtain ⟨D,C,O,J⟩:=h;have G:D.atKey kl (.held z)=.held ((f kl).getD z):=by rw [J];cases f kl<;>rfl
 constructor
 .obtain ⟨v,ps,u,o⟩:=C.look_ok K ht hz (zd:=.held z) (zp:=[]) rfl hkey;rw [G]at o;rw [u,Qxw o,O]
 .obtain ⟨v,ps,u,o⟩:=C.lookup K ht hz (zd:=.held z) (zp:=[]) rfl hkey;rw [G]at o;rw [u,Qxw o]
theorem MapS.put(h:MapS P k w b n f)(K:Keyed P k){t e:TypeId}(ht:P.underlying t=some (.map k e))(hn:n<maxLen){key:Value}{kl:Lit}(hkey:keyOf P k key=some kl)(v:Value):
  ∃ w',(Instr.mapUpdate t (.map (some b)) key v).run P w=.ok () w'/\MapS P k w' b (n+1) (upL f kl (some v))/\w.grownBy w' (some b):=by
 obtain ⟨D,u,U,O⟩:=h;obtain ⟨w',C,G,J⟩:=u.update K ht hn hkey (val:=v) (d:=.held v) (ps:=[]) rfl;have o:=K.key hkey;refine ⟨w',C,⟨_,G,λx=>?_,λx Z=>?_⟩,J⟩
 .by_cases e:x=kl
  .subst e;rw [Gx o,Maps.has_put_same u.isMap o];rfl
  .rw [Yy e,Maps.has_put_other e,U]
 .by_cases e:x=kl
  .subst e;rw [Gx o,Maps.atKey_put_same u.isMap o]
  .rw [Yy e,Maps.atKey_put_other e,O]
theorem MapS.drop(h:MapS P k w b n f)(K:Keyed P k){t e:TypeId}(ht:P.underlying t=some (.map k e)){key:Value}{kl:Lit}(hkey:keyOf P k key=some kl)(ty:TypeId):
  ∃ w',(Builtin.delete_ #[t,k] ty #[.map (some b),key]).run P w=.ok (.tuple #[]) w'/\MapS P k w' b n (upL f kl none)/\w.grownBy w' (some b):=by
 obtain ⟨D,U,O,J⟩:=h;obtain ⟨w',u,C,G⟩:=U.drop K ht hkey ty;have o:=K.key hkey;refine ⟨w',u,⟨_,C,λx=>?_,λx Z=>?_⟩,G.grown⟩
 .by_cases e:x=kl
  .subst e;rw [Gx o,Maps.has_del_same];rfl
  .rw [Yy e,Maps.has_del_other e,O]
 .by_cases e:x=kl
  .subst e;rw [Gx o,Maps.atKey_del_same]
  .rw [Yy e,Maps.atKey_del_other e,J]
theorem MapS.len0(h:MapS P k w b n f){t e:TypeId}(ht:P.underlying t=some (.map k e))(K:Keyed P k)(ty:TypeId): ∃ m:Nat,(Builtin.len_ #[t] ty #[.map (some b)]).run P w=.ok (.int .i64 (m:Int)) w/\(m=0↔∀ kl,f kl=none):=by
 obtain ⟨D,C,u,G⟩:=h;refine ⟨Maps.size D,C.len ht ty,?_⟩;obtain ⟨es,rfl,_,o⟩:=C.entries K;constructor
 .intro h0 kl;have:es=[]:=List.eq_nil_of_length_eq_zero h0;subst this;have:=u kl;cases hf:f kl with
  | none=>rfl
  | some v=>rw [hf]at this;cases this
 .intro hn;cases es with
  | nil=>rfl
  | cons p es=>
   have:=u p.1;rw [hn p.1,Maps.has_eq,List.any_cons,WideAt.sameKey_self (o p (mC ..))]at this;cases this
theorem Jbr{t:TypeId}{z:Value}(hz:Qt P t=some z)(w:World): (zeroValue t).run P w=.ok z w:=by
 unfold Qt at hz;obtain ⟨i,u,o⟩:=Option.bind_eq_some_iff.1 hz;simp [zeroValue,typeInfo,u,o]
end
section
variable {N:Nat->Prop} {P:Program} {n:Nat} {al:AL} {w:World} {Q:Exit->Act->World->Prop} {ops:Array Oper} {rest:List Oper} {drest:List (Nat×Oper)}
variable {d ty:Nat} {pos:String} {aft:Array Edge} {tt:TT}
theorem mkm{t:Nat}(k:TypeId)(kk:∀ w1 b,Ext w w1->w.heap.size<=b->MapS P k w1 b 0 (λ_=>none)->WL P n ops Q rest ((d,.map (some b))::al) w1)(hd:Nat.blt d n=true:=by rfl):
  WL P n ops Q (⟨some d,.makeMap t none,ty,pos,aft,none⟩::rest) al w :=
 wop hd (λa o=>by
  show _=Result.ok (Next.value (.map (some w.heap.size))) (w.alloc (.map #[] 0));simp [execOp,run_makeMap]) (kk _ _ ((Ext.refl w).alloc _) (Nat.le_refl _) (MapS.made w P k))
theorem mlk[hT:Tab P tt]{t k e b m:Nat}{kd:TK}{f:Lit->Option Value}{x y:Operand}{key z:Value}{kl:Lit}(K:Keyed P k)(hM:MapS P k w b m f)(hz:Qt P e=some z)(hkey:keyOf P k key=some kl)(kk:WL P n ops Q rest ((d,(f kl).getD z)::al) w)(ht:tk tt t=some kd:=by rfl)(hk:kd.desc=.map k e:=by rfl)(hx:ev al x=some (.map (some b)):=by rfl)(hy:ev al y=some key:=by rfl)(hd:Nat.blt d n=true:=by rfl):
  WL P n ops Q (⟨some d,.lookup t x y false,ty,pos,aft,none⟩::rest) al w :=
 wop hd (λa o=>by
  have:=(hM.look K (Vw hT.ok ht hk rfl) (Jbr hz w) hkey).2;simp [execOp,o.ev hx,o.ev hy,this]) kk
theorem mup[hT:Tab P tt]{t k e b m:Nat}{kd:TK}{f:Lit->Option Value}{x y z:Operand}{key v:Value}{kl:Lit}(K:Keyed P k)(hM:MapS P k w b m f)(hm:m<maxLen)(hkey:keyOf P k key=some kl)(kk:∀ w1,MapS P k w1 b (m+1) (upL f kl (some v))->w.grownBy w1 (some b)->WL P n ops Q rest al w1)(ht:tk tt t=some kd:=by rfl)(hk:kd.desc=.map k e:=by rfl)(hx:ev al x=some (.map (some b)):=by rfl)(hy:ev al y=some key:=by rfl)(hv:ev al z=some v:=by rfl):
  WL P n ops Q (⟨none,.mapUpdate t x y z,ty,pos,aft,none⟩::rest) al w:=by
 obtain ⟨w',u,G,C⟩:=hM.put K (Vw hT.ok ht hk rfl) hm hkey v;exact Kp (λa o=>by simp [execOp,o.ev hx,o.ev hy,o.ev hv,u]) (kk w' G C)
theorem mln[hT:Tab P tt]{t k e b m:Nat}{kd:TK}{f:Lit->Option Value}{x:Operand}(K:Keyed P k)(hM:MapS P k w b m f)(kk:∀ q:Nat,(q=0↔∀ kl,f kl=none)->WL P n ops Q rest ((d,.int .i64 (q:Int))::al) w)(ht:tk tt t=some kd:=by rfl)(hk:kd.desc=.map k e:=by rfl)(hx:ev al x=some (.map (some b)):=by rfl)(hd:Nat.blt d n=true:=by rfl):
  WL P n ops Q (⟨some d,.call { callee:=.builtin .len,args:=#[x],argTypes:=#[t] },ty,pos,aft,none⟩::rest) al w:=by
 obtain ⟨q,o,u⟩:=hM.len0 (Vw hT.ok ht hk rfl) K ty;exact wop hd (λa C=>by simp [execOp,resolve,invoke,builtin,C.ev hx,o]) (kk q u)
end
end Go.Wk
namespace Go.Wk
open Go.RowKit
def Qn(base:Nat)(v:Value)(k:Nat): Prop:=k<base∨v.ownBlock=some k
def Qj{α:Type}(ps:List (List Value×α)): List Value:=ps.flatMap (·.1)
theorem Jdw{α:Type}{sz:Nat}: ∀ {ps:List (List Value×α)},(∀ p∈ps,p.1.length=sz)->(Qj ps).length=ps.length*sz
 | [],_=>by simp [Qj]
 | p::ps,h=>by
  have:=Jdw (ps:=ps) λq hq=>h q (List.mem_cons_of_mem _ hq);simp only [Qj,List.flatMap_cons,List.length_append,List.length_cons,h p (mC ..),Nat.succ_mul]at this ⊢;omega
theorem Kg{α:Type}{sz:Nat}: ∀ {ps:List (List Value×α)} {i j:Nat} {p:List Value×α},(∀ p∈ps,p.1.length=sz)->ps[i]?=some p->j<sz->(Qj ps)[i*sz+j]?=p.1[j]?
 | [],_,_,_,_,h,_=>by cases h
 | q::ps,0,j,p,hl,h,hj=>by
  simp only [List.getElem?_cons_zero,Option.some.injEq]at h;subst h;simp only [Qj,List.flatMap_cons,Nat.zero_mul,Nat.zero_add];rw [List.getElem?_append_left (by rw [hl q (mC ..)];exact hj)]
 | q::ps,i+1,j,p,hl,h,hj=>by
  simp only [List.getElem?_cons_succ]at h;have ih:=Kg (i:=i) (j:=j) (λp hp=>hl p (List.mem_cons_of_mem _ hp)) h hj;simp only [Qj,List.flatMap_cons]at ih ⊢;rw [List.getElem?_append_right (by rw [hl q (mC ..),Nat.succ_mul];omega),<-ih,hl q (mC ..)];congr 1
  rw [Nat.succ_mul];omega
section
variable {α:Type} {E:TypeId} {sz:Nat} {Φ:World->List Value->α->Prop} {w w':World} {base:Nat} {v:Value} {ls:List α}
def OwnG(E:TypeId)(sz:Nat)(Φ:World->List Value->α->Prop)(w:World)(base:Nat)(v:Value)(ls:List α): Prop :=
 ∃ ps:List (List Value×α),ls=ps.map (·.2)/\w.ownsRow base E sz v ps.length (Qj ps)/\∀ p∈ps,p.1.length=sz/\Off (Qn base v) w (λu=>Φ u p.1 p.2)
def GV(sz:Nat)(Φ:World->List Value->α->Prop)(w:World)(v:Value)(ls:List α): Prop :=
 ∃ (ps:List (List Value×α)) (A:Option Addr) (c:Nat),ls=ps.map (·.2)/\v=.slice A ps.length c/\ps.length<=c/\ps.length<=1100000/\Rd w sz A ps.length (Qj ps)/\∀ p∈ps,p.1.length=sz/\Φ w p.1 p.2
theorem OwnG.nil(w:World)(base:Nat): OwnG E sz Φ w base (.slice none 0 0) []:=⟨[],rfl,Xs _ _ _ _,λp o=>by cases o⟩
theorem OwnG.gr{N:Nat->Prop}(h:OwnG E sz Φ w base v ls)(hg:GrN N w w')(hN:∀ k,N k->k<base): OwnG E sz Φ w' base v ls:=by
 obtain ⟨ps,e,u,o⟩:=h;refine ⟨ps,e,Jr u hg (λg O hn=>?_),λp C=>⟨(o p C).1,(o p C).2.gr (hg.mono λk _ G=>.inl (hN k G))⟩⟩;obtain ⟨_,_,_,_,J⟩:=Jv u;have:=(J g O).1;have:=hN g hn;omega
theorem OwnG.ext(h:OwnG E sz Φ w base v ls)(hx:Ext w w'): OwnG E sz Φ w' base v ls:=h.gr (N:=λ_=>False) (GrN.ext hx) (λk e=>e.elim)
theorem OwnG.form(h:OwnG E sz Φ w base v ls): ∃ A c,v=.slice A ls.length c/\ls.length<=c/\∀ g,v.ownBlock=some g->base<=g/\g<w.heap.size:=by
 obtain ⟨ps,e,o,J⟩:=h;obtain ⟨A,c,G,C,u⟩:=Jv o;rw [e,List.length_map];exact ⟨A,c,G,C,u⟩
theorem OwnG.gv(h:OwnG E sz Φ w base v ls)(hm:ls.length<=1100000): GV sz Φ w v ls:=by
 obtain ⟨ps,e,u,o⟩:=h;obtain ⟨A,c,G,C,J⟩:=Jv u;subst G;exact ⟨ps,A,c,e,rfl,C,by rw [e,List.length_map]at hm;exact hm,Rd.own u,λp hm=>⟨(o p hm).1,(o p hm).2.here⟩⟩
theorem OwnG.off(h:OwnG E sz Φ w base v ls)(hm:ls.length<=1100000): Off (λk=>k<base) w (λu=>GV sz Φ u v ls):=λw' C=>(h.gr C λk o=>o).gv hm
theorem GV.ext(h:GV sz Φ w v ls)(hx:Ext w w')(hΦ:∀ cs a,Φ w cs a->Φ w' cs a): GV sz Φ w' v ls:=by
 obtain ⟨ps,A,c,e,O,J,G,C,o⟩:=h;exact ⟨ps,A,c,e,O,J,G,C.ext hx,λp u=>⟨(o p u).1,hΦ _ _ (o p u).2⟩⟩
theorem GV.parts(h:GV sz Φ w v ls): ∃ A c cs,v=.slice A ls.length c/\ls.length<=c/\ls.length<=1100000/\Rd w sz A ls.length cs/\∀ i (hi:i<ls.length),∃ ce,ce.length=sz/\Φ w ce ls[i]/\∀ j u,ce[j]?=some u->w.cell? ((adr A (i*sz)).add j)=some u:=by
 obtain ⟨ps,A,c,e,e1,e2,Z,J,O⟩:=h;subst e;refine ⟨A,c,Qj ps,by rw [List.length_map];exact e1,by rw [List.length_map];exact e2,by rw [List.length_map];exact Z,by rw [List.length_map];exact J,λi hi=>?_⟩;rw [List.length_map]at hi;have G:=O ps[i] (List.getElem_mem hi);refine ⟨ps[i].1,G.1,by rw [List.getElem_map];exact G.2,λj u o=>?_⟩;have U:j<sz:=by
  rcases Nat.lt_or_ge j sz with h'|h'
  .exact h'
  .rw [List.getElem?_eq_none (by rw [G.1];exact h')]at o;cases o
 rw [Xb];exact J.cell ((Kg (λp C=>(O p C).1) (List.getElem?_eq_getElem hi) U).trans o)
theorem OwnG.after{ps:List (List Value×α)}(e:ls=ps.map (·.2))(hp:∀ p∈ps,p.1.length=sz/\Off (Qn base v) w (λu=>Φ u p.1 p.2)){v':Value}{w':World}{cs:List Value}{x:α}(hl:cs.length=sz)(hx:Off (Qn base v) w (λu=>Φ u cs x))(ho:w'.ownsRow base E sz v' (ps.length+1) (Qj ps++cs))(hg:w.grownBy w' v.ownBlock)(hn:∀ g,v'.ownBlock=some g->v.ownBlock=some g∨w.heap.size<=g): OwnG E sz Φ w' base v' (ls++[x]):=by
 have o:∀ (cs:List Value) (x:α),Off (Qn base v) w (λu=>Φ u cs x)->Off (Qn base v') w' (λu=>Φ u cs x):=λcs x G=>by
  have Z:Off (Qn base v) w' (λu=>Φ u cs x):=G.gr (GrN.by hg λk C=>.inr C);have O:Off (λk=>Qn base v k∨Qn base v' k) w (λu=>Φ u cs x):=G.mono λk C h=>by
   rcases h with h|h|h
   .exact h
   .exact .inl h
   .rcases hn k h with h4|h4
    .exact .inr h4
    .omega
  exact (O.gr (GrN.by hg λk C=>.inl (.inr C))).mono λk _ h=>.inr h
 refine ⟨ps++[(cs,x)],by rw [e];simp,?_,λp J=>?_⟩
 .have U:Qj (ps++[(cs,x)])=Qj ps++cs:=by simp [Qj]
  rw [List.length_append,U];exact ho
 .rcases List.mem_append.1 J with h'|h'
  .exact ⟨(hp p h').1,o _ _ (hp p h').2⟩
  .rw [List.mem_singleton.1 h'];exact ⟨hl,o _ _ hx⟩
end
theorem apG{P:Program}{n:Nat}{al:AL}{w:World}{Q:Exit->Act->World->Prop}{ops:Array Oper}{rest:List Oper}{d ty:Nat}{pos:String}{aft:Array Edge}{α:Type}{t E sz bytes base:Nat}{z:Value}(hE:ElT P t E sz bytes z){Φ:World->List Value->α->Prop}{x y:Operand}{v:Value}{ls:List α}{b:Nat}{cs:List Value}{a:α}(ho:OwnG E sz Φ w base v ls)(hb:Blk w b E cs)(hl:cs.length=sz)(h1:∀ u∈cs,u.oneCell'=true)(hΦ:Off (Qn base v) w (λu=>Φ u cs a))(hm:ls.length<=1100000)(hby:bytes<=64)(hbase:base<=w.heap.size)(kk:∀ v' w',OwnG E sz Φ w' base v' (ls++[a])->w.grownBy w' v.ownBlock->(∀ g,v'.ownBlock=some g->v.ownBlock=some g∨w.heap.size<=g)->WL P n ops Q rest ((d,v')::al) w')(hx:ev al x=some v:=by rfl)(hy:ev al y=some (.slice (some ⟨b,0,none⟩) 1 1):=by rfl)(hd:Nat.blt d n=true:=by rfl):
  WL P n ops Q (⟨some d,.call { callee:=.builtin .append,args:=#[x,y],argTypes:=#[t,t] },ty,pos,aft,none⟩::rest) al w:=by
 obtain ⟨ps,e,O,U⟩:=ho;have J:ps.length<=1100000:=by rw [e,List.length_map]at hm;exact hm
 have Z:(ps.length+1)*bytes<=1100001*64:=Nat.mul_le_mul om hby;refine apb hE O (hb.rd (n:=1) om) h1 (by unfold maxLen;omega) om hbase ?_ hx hy hd;intro v' w' G C o;exact kk v' w' (OwnG.after e U hl hΦ G C o) C o
end Go.Wk
