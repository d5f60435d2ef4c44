/- Part 23. -/
import Derived.Test.YtebcagekopgdhaaGreatDoorB22
set_option linter.unusedVariables false
set_option maxRecDepth 100000
set_option maxHeartbeats 40000000
namespace Go.Proofs.YtebcagekopgdhaaGreatDoor
open Go.RowKit Pl Go.Wk
attribute [local irreducible] WC WL QX WD WDB WP WN WG
structure YS(s:Nat)(yv:Value)(bx:Nat->Prop)(Y:Nat->List Row->World->Prop): Prop where
 keep:∀ base l w w',Y base l w->GrN (λk=>s<=k/\k<base) w w'->Y base l w'
 call:∃ fid first cap,yv=.func (.func fid) first cap/\∀ base l w vr z,base<=w.heap.size->Y base l w->RowV w vr z->l.length<65536->Ret Tryz.prog fid (first.toList++[vr]++cap.toList) w λr w'=>r=.bool true/\Y base (l++[z]) w'/\GrN (λk=>bx k∨base<=k) w w'
theorem Jkj{vs:List Nat}{n:Nat}(ha:Qo vs)(hl:∀ u∈vs,u<n): vs.length<=n:=by
 have key:∀ k,lv vs k<=k:=by
  intro k;induction k with
  | zero=>rw [Jzf];exact Nat.le_refl _
  | succ k ih=>
   by_cases h:k∈vs
   .rw [(Vd ha h).1];omega
   .rw [Ih h];omega
 have:=key n;rwa [Jrk hl]at this
theorem Jwv{cs:List Nat}{i:Nat}(h:i<cs.length): (nz cs).getD i 0=(cs.getD i 0:Int):=by
 simp [nz,List.getD,List.getElem?_eq_getElem h]
structure RunOk(n:Nat)(ts:List TA)(vars:Nat->List Nat)(rs:Nat->List Row): Prop where
 n32:n<=32
 m32:ts.length<=32
 at_:∀ i,i<ts.length->(ts.getD i ta0).2=⟨nz (vars i),(vars i).length,rs i⟩
 asc:∀ i,i<ts.length->Qo (vars i)
 lt:∀ i,i<ts.length->∀ u∈vars i,u<n
 cov:∀ v,v<n->∃ i,i<ts.length/\v∈vars i
 srt:∀ i,i<ts.length->Lt [] (rs i)
 len:∀ i,i<ts.length->∀ r∈rs i,r.length=(vars i).length
 big:∀ i,i<ts.length->(rs i).length<=65536
theorem Jwp{w:World}{base base' e sz:Nat}{v:Value}{m:Nat}{xs:List Value}(h:w.ownsRow base e sz v m xs)(hb:base'<=base): w.ownsRow base' e sz v m xs:=by
 rcases h with ⟨C,⟨rfl,rfl⟩|⟨g,u,cur,rfl,o,G⟩⟩
 .exact ⟨C,.inl ⟨rfl,rfl⟩⟩
 .exact ⟨C,.inr ⟨g,u,cur,rfl,Nat.le_trans hb o,G⟩⟩
theorem _root_.Go.Wk.Blk.sub2{w:World}{g:Nat}{t:TypeId}{cs:List Value}(h:Blk w g t cs){i:Nat}{x y:Value}(h0:cs[i]?=some x)(h1:cs[i+1]?=some y): ∀ j u,[x,y][j]?=some u->w.cell? ((⟨g,i,none⟩:Addr).add j)=some u:=λj u o=>by
 match j,o with
 | 0,o=>simp only [List.getElem?_cons_zero,Option.some.injEq]at o;subst o;exact h.sub h0
 | 1,o=>simp only [List.getElem?_cons_succ,List.getElem?_cons_zero,Option.some.injEq]at o;subst o;exact h.sub h1
 | j+2,o=>simp at o
def Yk(d t:Nat): List Value:=(List.range d).map λj=>.int .i64 ((if j<t then j else 0:Nat):Int)
theorem Qmb(d:Nat): (madeCells (Value.int .i64 0).cells (d*1)).toList=Yk d 0:=by
 rw [Nat.mul_one];have e:(madeCells (Value.int .i64 0).cells d).toList=List.replicate d (Value.int .i64 0):=Uj _ _;rw [e];simp [Yk,List.map_const']
theorem Qlz(d:Nat): Yk d d=Js (nz (List.range d)):=by
 simp only [Yk,Js,nz,List.map_map];refine List.map_congr_left λj o=>?_;simp [List.mem_range.1 o]
theorem Qlw{d t:Nat}(h:t<d): (Yk d t).set t (.int .i64 (t:Int))=Yk d (t+1):=by
 apply List.ext_getElem?
 intro i;rw [List.getElem?_set];by_cases e:t=i
 .subst e;simp [Yk,h]
 .rw [if_neg e];by_cases hi:i<d
  .simp only [Yk,List.getElem?_map,List.getElem?_range hi,Option.map_some];congr 2
   by_cases h1:i<t
   .rw [if_pos h1,if_pos om]
   .rw [if_neg h1,if_neg om]
  .simp [Yk,hi]
theorem Qlx(d t:Nat): (Yk d t).length=d:=by simp [Yk]
theorem Qcs(A:Option Addr)(n c:Nat): ∀ u∈[Value.slice A n c],u.oneCell'=true:=λu o=>by rw [List.mem_singleton.1 o];rfl
def itp(g:Nat): Value:=.pointer (some ⟨g,0,none⟩)
def Zl(vars:Nat->List Nat)(G:Nat->Nat)(q:Nat)(v:Nat): List Value:=((List.range q).filter λi=>decide (v∈vars i)).map λi=>itp (G i)
theorem Qmd(vars:Nat->List Nat)(G:Nat->Nat)(q v:Nat): (Zl vars G q v).length<=q:=by
 unfold Zl;rw [List.length_map];have:=List.length_filter_le (λi=>decide (v∈vars i)) (List.range q);rw [List.length_range]at this;exact this
theorem Qmc(vars:Nat->List Nat)(G:Nat->Nat)(q v:Nat): Zl vars G (q+1) v=Zl vars G q v++if v∈vars q then [itp (G q)] else []:=by
 unfold Zl;rw [List.range_succ,List.filter_append,List.map_append];congr 1
 by_cases h:v∈vars q
 .rw [if_pos h,List.filter_cons_of_pos (by simpa using h)];rfl
 .rw [if_neg h,List.filter_cons_of_neg (by simpa using h)];rfl
theorem Qmf{vars:Nat->List Nat}{G G':Nat->Nat}{q:Nat}(h:∀ j,j<q->G j=G' j)(v:Nat): Zl vars G q v=Zl vars G' q v:=by
 unfold Zl;refine List.map_congr_left λi hi=>?_;rw [h i (List.mem_range.1 (List.mem_filter.1 hi).1)]
theorem _root_.Go.Wk.GrN.cut{N N':Nat->Prop}{w w1 w2:World}(hx:Ext w w1)(hg:GrN N w1 w2)(hN:∀ k,k<w.heap.size->N k->N' k): GrN N' w w2 :=
 ⟨hg.os.trans hx.os,hg.tape.trans hx.tape,hg.output.trans hx.output,Nat.le_trans hx.size hg.size,λk o hn=>(hg.block k (nM o hx.size) (λe=>hn (hN k o e))).trans (hx.block k o)⟩
theorem Cfg.steps{c:JC}{Y:List Row->World->Prop}{NY:Nat->Prop}{w:World}{z:Row}{L p e:Nat->Nat}{f h:Nat->Nat->Nat}{l:List Row}(H:Cfg c Y w z L p e f h l)(hok:JOk c)(hY:YC c Y NY){st:Int}(hJ:Blk w c.J 281 [c.rowv,c.ja,.int .i64 st,c.yv])(st':Int):
  Cfg c Y (w.setCell ⟨c.J,2,none⟩ (.int .i64 st')) z L p e f h l/\GrN c.NI w (w.setCell ⟨c.J,2,none⟩ (.int .i64 st')):=by
 have u:GrN (λk=>k=c.J) w (w.setCell ⟨c.J,2,none⟩ (.int .i64 st')):=GrN.set _ rfl;have o:GrN c.NI w (w.setCell ⟨c.J,2,none⟩ (.int .i64 st')):=GrN.set _ (.inl rfl);refine ⟨⟨H.env.gr (o.mono λk _ C=>hok.sub k C),λi hi=>?_,Jr H.row u (λg O=>H.rowJ O),H.zl,⟨_,hJ.set 2 _⟩,hY.keep _ _ _ H.y o⟩,o⟩;obtain ⟨st,G⟩:=H.its i hi;exact ⟨st,Jd G u (hok.gj i hi)⟩
theorem Qxg{vs:List Nat}(h:Qo vs): vs.Nodup:=h.imp λh e=>by omega
theorem Jgk(n:Nat): (madeCells (Value.slice none 0 0).cells (n*1)).toList=List.replicate n (Value.slice none 0 0):=by rw [Nat.mul_one];exact Uj _ _
set_option maxRecDepth 100000 in
set_option maxHeartbeats 2000000 in
theorem Qvz{w : World}{n : Nat}{ts : List TA}{Aa : Option Addr}{ca : Nat}{vars : Nat → List Nat}{rs : Nat → List Row}{yv : Value}{bx' : Nat → Prop}{Y : Nat → List Row → World → Prop}(hok : RunOk n ts vars rs)(hR : Rd w 3 Aa ts.length (atC ts))(hat : ∀ p ∈ ts, AtV w p.1 p.2)(hbx : ∀ k, bx' k → k < w.heap.size)(hY : YS w.heap.size yv bx' Y)(hY0 : ∀ w', Ext w w' → Y w'.heap.size [] w')(hcap : ∀ l : List Row, Lt [] l → (∀ x ∈ l, Zr n ts.length vars rs x) → l.length ≤ 65536):
    Ret Tryz.prog 187 [.int .i64 (n : Int), .slice Aa ts.length ca, yv] w fun u w' => GrN bx' w w' ∧ ∃ st base l, u = .tuple #[.int .i64 st, .int .i64 0] ∧ base ≤ w'.heap.size ∧ Y base l w' ∧ Lt [] l ∧ ∀ x, x ∈ l ↔ Zr n ts.length vars rs x := by
  have hn32 := hok.n32
  have hm32 := hok.m32
  obtain ⟨m, hm⟩ : ∃ m, m = ts.length := ⟨_, rfl⟩
  obtain ⟨fid, first, cap, hyv, hcall⟩ := hY.call
  subst hyv
  refine Jz Tryz.func187 Tryz.ntmps187 rfl kr rfl ?_
  refine ρ ?_
  have hxd : Ext w w.drew := (Ext.refl w).drew
  refine drG kr ?_
  refine Kd (fuel' := 5) [(0, 0), (0, 2), (0, 4)] #[true, false, true, false, true, false, false, false] kr kr rfl ?_
  refine ρd ?_
  refine Kf ?_
  refine gcut 3 #[true, true, true, true, true, false, false, false] (fun (x : Option Addr × Option Addr) => [(0, .int .i64 (n : Int)), (1, .slice Aa ts.length ca), (2, .func (.func fid) first cap), (24, .slice x.1 n n), (26, .slice x.2 n n), (27, .func (.func fid) first cap)])
    (fun x w' => Ext w.drew w' ∧ Zm w' w.heap.size (.slice x.1 n n) (List.replicate n V0) ∧ w'.ownsRow w.heap.size 282 1 (.slice x.2 n n) n (List.replicate n (.slice none 0 0))) ?_ ?_
  . rintro ⟨Ra, Ba⟩ w1 ⟨hx1, hrow1, hat1⟩
    refine Kd (fuel' := 0) [(1, 5), (1, 6), (0, 7)] #[true, true, true, true, true, true, true, true] kr kr rfl ?_
    refine Uk ?_
    refine bld (Qnk _ _ _ _ _ _ _) ?_
    refine Jh (Uz (Ext.refl _) ?_)
    refine Uk ?_
    refine bx ?_
    intro w2 J hx2 hJ hkJ
    refine Jh (Uz hx2 ?_)
    refine ρd ?_
    refine Kf ?_
    refine gend kr ?_
    refine ρ ?_
    have hxw2 : Ext w w2 := (hxd.trans hx1).trans hx2
    have hbJ : w.heap.size ≤ J := nL (hxd.trans hx1).size hJ
    obtain ⟨K, hK⟩ : ∃ K : RK, K = ⟨n, vars, rs, w.heap.size, J, Ra, Ba, .func (.func fid) first cap⟩ := ⟨_, rfl⟩
    have H2 : RB K 0 ⟨fun _ => 0, fun _ => none, fun _ => 0, fun _ => 0, .slice none 0 0, fun _ => .slice none 0 0⟩ (fun _ => []) [] w2 := by
      subst hK
      refine ⟨hkJ, Jk hrow1 hx2, ?_, ⟨fun i hi => Xs _ _ _ _, fun i j g _ _ _ e => (by cases e)⟩, Xs _ _ _ _, fun v g _ e => (by cases e), fun j hj => by omega, fun j hj => by omega, fun j k hj => by omega, fun i j hi => by omega, fun i j _ hj => by omega, fun j hj => by omega, fun j hj => by omega, hbJ⟩
      have := Jk hat1 hx2
      have e : List.replicate n (Value.slice none 0 0) = (List.range n).map fun _ => Value.slice none 0 0 := by simp [List.map_const']
      rw [e] at this; exact this
    clear hrow1 hat1
    refine Qd (fun (i : Nat) => [(0, .int .i64 (n : Int)), (1, .slice Aa ts.length ca), (8, .pointer (some ⟨J, 0, none⟩)), (30, .slice Aa ts.length ca), (31, .int .i64 (ts.length : Int)), (32, .int .i64 (i : Int))])
      (fun i w' => i ≤ ts.length ∧ Ext w2 w' ∧ ∀ j, j < i → rs j ≠ []) (fun i => ts.length - i) 0 sB ⟨Nat.zero_le _, Ext.refl _, fun j hj => by omega⟩ ?_
    rintro i w3 ⟨hi, hx3, hne3⟩
    refine ρ ?_
    refine ci (fun h => ?_) (fun h => ?_)
    . have li : i < ts.length := by have := oT h; omega
      have hR3 := hR.ext (hxw2.trans hx3)
      obtain ⟨t1, t2, t3, a, hp⟩ : ∃ t1 t2 t3 a, ts.getD i ta0 = ((t1, t2, t3), a) := ⟨_, _, _, _, rfl⟩
      have hA0 : AtV w (t1, t2, t3) a := by have := hat _ (Ko rfl li); rw [hp] at this; exact this
      have ea : a = ⟨nz (vars i), (vars i).length, rs i⟩ := by have := hok.at_ i li; rw [hp] at this; exact this
      clear h
      obtain ⟨⟨D, d, e1, hd, hdm, hdr⟩, e2, hrows⟩ := id hA0
      simp only at e1 e2
      subst e1; subst e2
      obtain ⟨ps, G, gc, _, hv3, _⟩ := id hrows
      simp only at hv3
      subst hv3
      refine ρ ?_
      refine ixq 3 i hR3 li ?_
      refine ρ ?_
      refine lds (cs := [.slice D a.vars.length d, .int .i64 (a.ar : Int), .slice G ps.length gc]) (fun j u hu => Jkg hR3 rfl li (by rw [hp]; exact hu)) ?_
      refine ρ ?_
      refine alc Vl ?_
      intro w4 b hx4 hb hB
      refine ρ ?_
      refine stb hB ?_ hA0.one
      intro w5 hB5 hg5 hx5
      have hx35 : Ext w3 w5 := hx5 w3 hx4 hb
      refine ρ ?_
      refine lds (cs := [.int .i64 (a.ar : Int), .slice G ps.length gc]) (hB5.sub2 (i := 1) rfl rfl) ?_
      refine ρ ?_
      refine cl (Jxx ((hA0.ext (((hxw2.trans hx3).trans hx35))).rel)) ?_
      rintro u w6 ⟨rfl, hx6⟩
      refine ρ ?_
      refine ci (fun h => ?_) (fun h => ?_)
      . refine ρ ?_
        have hxw6 : Ext w w6 := ((hxw2.trans hx3).trans hx35).trans hx6
        refine Ve ⟨(GrN.ext hxw6), 0, w6.heap.size, [], rfl, Nat.le_refl _, hY0 w6 hxw6, List.Pairwise.nil, fun x => ⟨fun hx => (by cases hx), fun hx => ?_⟩⟩
        have h1 := hx.2 i li
        have h2 : a.rows.length = 0 := by have := Xf h; omega
        rw [ea] at h2
        have h3 : rs i = [] := List.eq_nil_of_length_eq_zero h2
        rw [h3] at h1; cases h1
      . have h2 : rs i ≠ [] := fun e => by
          have h3 := Xg h
          rw [ea, e] at h3; exact h3 rfl
        refine ρ ?_
        refine Qw (i + 1) sO ⟨om, (hx3.trans hx35).trans hx6, fun j hj => ?_⟩ om
        by_cases e : j = i
        . rw [e]; exact h2
        . exact hne3 j om
    . have hi' : i = ts.length := by have := oF h; omega
      subst hi'
      refine ρ ?_
      refine Jt (fun (q : Nat) (S : RS) => [(0, .int .i64 (n : Int)), (8, .pointer (some ⟨J, 0, none⟩)), (11, S.va), (41, .slice Aa ts.length ca), (42, .int .i64 (ts.length : Int)), (43, .int .i64 (q : Int))])
        (fun q S w' => q ≤ ts.length ∧ Ext w w' ∧ RB K q S (Zl vars S.G q) ((List.range q).map fun j => itp (S.G j)) w') (fun q _ => ts.length - q) 0 ⟨fun _ => 0, fun _ => none, fun _ => 0, fun _ => 0, .slice none 0 0, fun _ => .slice none 0 0⟩ sB
        ⟨Nat.zero_le _, hxw2.trans hx3, H2.ext hx3⟩ ?_
      rintro q S w4 ⟨hq, hx4, H4⟩
      refine ρ ?_
      refine ci (fun h => ?_) (fun h => ?_)
      . have lq : q < ts.length := by have := oT h; omega
        have hR4 := hR.ext hx4
        obtain ⟨t1, t2, t3, a, hp⟩ : ∃ t1 t2 t3 a, ts.getD q ta0 = ((t1, t2, t3), a) := ⟨_, _, _, _, rfl⟩
        have hA0 : AtV w (t1, t2, t3) a := by have := hat _ (Ko rfl lq); rw [hp] at this; exact this
        have ea : a = ⟨nz (vars q), (vars q).length, rs q⟩ := by have := hok.at_ q lq; rw [hp] at this; exact this
        subst ea
        clear h
        obtain ⟨⟨D, d, e1, hd, hdm, hdr⟩, e2, hrows⟩ := id hA0
        simp only at e1 e2
        subst e1; subst e2
        obtain ⟨ps, G, gc, _, hv3, _⟩ := id hrows
        simp only at hv3
        subst hv3
        have hnl := Qq (vars q)
        have hdl : (vars q).length ≤ n := Jkj (hok.asc q lq) (hok.lt q lq)
        refine ρ ?_
        refine ixq 3 q hR4 lq ?_
        refine ρ ?_
        refine lds (cs := [.slice D (nz (vars q)).length d, .int .i64 ((vars q).length : Int), .slice G ps.length gc]) (fun j u hu => Jkg hR4 rfl lq (by rw [hp]; exact hu)) ?_
        refine ρ ?_
        refine alc Vl ?_
        intro w5 b hx5 hb hB
        refine ρ ?_
        refine stb hB ?_ hA0.one
        intro w6 hB6 hg6 hx6
        have hx46 : Ext w4 w6 := hx6 w4 hx5 hb
        have H6 := H4.ext hx46
        refine ρ ?_
        refine ld (hB6.at (i := 0) rfl) ?_
        refine ρ ?_
        rw [hnl]
        refine mkn EI (vars q).length om (by unfold maxLen; omega) ?_
        intro w7 O hx7 ho7 hO7
        rw [Qmb] at ho7
        refine ρ ?_
        refine Qd (fun (t : Nat) => [(0, .int .i64 (n : Int)), (8, .pointer (some ⟨J, 0, none⟩)), (11, S.va), (41, .slice Aa ts.length ca), (42, .int .i64 (ts.length : Int)), (43, .int .i64 (q : Int)), (13, .pointer (some ⟨b, 0, none⟩)), (14, .slice O (vars q).length (vars q).length), (51, .slice O (vars q).length (vars q).length), (52, .int .i64 ((vars q).length : Int)), (53, .int .i64 (t : Int))])
          (fun t w' => t ≤ (vars q).length ∧ Ext w6 w' ∧ w'.ownsRow w6.heap.size 3 1 (.slice O (vars q).length (vars q).length) (vars q).length (Yk (vars q).length t)) (fun t => (vars q).length - t) 0 sB
          ⟨Nat.zero_le _, hx7, ho7⟩ ?_
        clear ho7 hx7
        rintro t w8 ⟨ht, hx8, ho8⟩
        refine ρ ?_
        refine ci (fun h => ?_) (fun h => ?_)
        . have lt : t < (vars q).length := by have := oT h; omega
          clear h
          refine ρ ?_
          refine ix t (Rd.own ho8) lt ?_
          obtain ⟨s1, s2, s3, s4, s5⟩ := Zd ho8 (q := t) om (.int .i64 (t : Int))
          have hcl : t < (Yk (vars q).length t).length := by rw [Qlx]; exact lt
          refine ρ ?_
          refine sto (s1.trans (List.getElem?_eq_getElem hcl)) s2 ?_
          rw [Qlw lt] at s3
          have hx9 : Ext w6 (w8.setCell (adr O t) (.int .i64 (t : Int))) := Qv hx8 s5 (fun k hk => by
            obtain ⟨_, _, _, _, hf⟩ := Jv ho8
            exact (hf k hk).1)
          refine ρ ?_
          exact Qw (t + 1) sO ⟨om, hx9, s3⟩ om
        . have ht' : t = (vars q).length := by have := oF h; omega
          subst ht'
          clear h
          rw [Qlz] at ho8
          have hB8 := hB6.ext hx8
          have hxw8 : Ext w w8 := (hx4.trans hx46).trans hx8
          have hcols : IntsV w8 (.slice O (vars q).length (vars q).length) (nz (List.range (vars q).length)) := by
            have e : (nz (List.range (vars q).length)).length = (vars q).length := by rw [Qq, List.length_range]
            exact ⟨O, (vars q).length, by rw [e], by rw [e]; exact Nat.le_refl _, by rw [e]; omega, by rw [e]; exact Rd.own ho8⟩
          refine ρ ?_
          refine lds (cs := [.int .i64 ((vars q).length : Int), .slice G ps.length gc]) (hB8.sub2 (i := 1) rfl rfl) ?_
          refine ρ ?_
          refine cl (Qkv (hA0.ext hxw8).rel (hok.srt q lq) (hok.len q lq) hcols (show (vars q).length ≤ 32 by omega) (hok.big q lq)) ?_
          rintro u w9 ⟨hx9, tv, rfl, ⟨TA0, rfl⟩, hT9⟩
          refine ρ ?_
          refine alc Jyh ?_
          intro w10 b2 hx10 hb2 hBt
          refine ρ ?_
          refine stb (cs' := [.slice TA0 (vars q).length (vars q).length]) hBt ?_ (Qcs _ _ _)
          intro w11 hB11 hg11 hx11
          have hx9b : Ext w9 w11 := hx11 w9 hx10 hb2
          refine ρ ?_
          refine ldW hB11 ?_
          refine ρ ?_
          refine cl (Qkw w11) ?_
          rintro u w12 ⟨hx12, g, rfl, hg12, hI12⟩
          have H8 := H6.ext hx8
          have hTA : Off (fun k => k < w8.heap.size) w9 (fun u => TriA u TA0 (K.vars q).length (K.rs q)) := by
            subst hK; exact hT9.imp fun u h => h.a
          have hI12' : ItB w12 g TA0 (K.vars q).length 0 0 0 (fun _ => 0) (fun _ => 0) 0 := by subst hK; exact hI12
          have H12 := H8.iter hx9 hTA (hx9b.trans hx12) (nL hx9b.size hg12) hI12'
          have hB12 := hB8.ext (((hx9.trans hx9b)).trans hx12)
          have hKn : K.n = n := by rw [hK]
          have hKb : K.base = w.heap.size := by rw [hK]
          have hKJ : K.J = J := by rw [hK]
          have hKB : K.Ba = Ba := by rw [hK]
          have hxw12 : Ext w w12 := (hxw8.trans hx9).trans (hx9b.trans hx12)
          have hnw : ∀ {w' : World} {e sz m' : Nat} {v : Value} {xs : List Value}, w'.ownsRow K.base e sz v m' xs → ∀ k, v.ownBlock = some k → w.heap.size ≤ k := fun ho k ek => by
            obtain ⟨_, _, _, _, hf⟩ := Jv ho
            rw [← hKb]; exact (hf k ek).1
          refine ρ ?_
          refine bsl (Qjz (some ⟨g, 0, none⟩)) ?_
          intro w13 b3 hx13 hb3 hB3
          have H13 := H12.ext hx13
          refine ρ ?_
          refine apb (base := K.base) EIt H13.all (hB3.rd (n := 1) rfl) (fun u hu => by rw [List.mem_singleton.1 hu]; rfl) (by unfold maxLen; simp; omega) (by simp; omega) (by rw [hKb]; exact (hxw12.trans hx13).size) ?_
          intro va' w14 ho14 hg14 hn14
          have H14 := H13.pushAll ho14 hg14 hn14
          have hB14 := (hB12.ext hx13).grown hg14 ((hB12.ext hx13).ne_own H13.all rfl)
          have hx14 : Ext w w14 := Qv (hxw12.trans hx13) hg14 (hnw H13.all)
          refine ρ ?_
          refine ld (hB14.at (i := 0) rfl) ?_
          refine ρ ?_
          refine Jt (fun (t : Nat) (vt : Nat → Value) => [(0, .int .i64 (n : Int)), (8, .pointer (some ⟨J, 0, none⟩)), (11, va'), (41, .slice Aa ts.length ca), (42, .int .i64 (ts.length : Int)), (43, .int .i64 (q : Int)), (18, .pointer (some ⟨g, 0, none⟩)), (78, .slice D (nz (vars q)).length d), (79, .int .i64 ((nz (vars q)).length : Int)), (80, .int .i64 (t : Int))])
            (fun t vt w' => t ≤ (vars q).length ∧ Ext w w' ∧ RB K (q + 1) { G := upd S.G q g, A := upd S.A q TA0, lo := upd S.lo q w8.heap.size, hi := upd S.hi q w9.heap.size, va := va', vat := vt } (fun v => Zl vars S.G q v ++ if v ∈ (vars q).take t then [itp g] else []) (((List.range q).map fun j => itp (S.G j)) ++ [itp g]) w') (fun t _ => (vars q).length - t) 0 S.vat sB
            ⟨Nat.zero_le _, hx14, ?_⟩ ?_
          . have e : (fun v => Zl vars S.G q v ++ if v ∈ (vars q).take 0 then [itp g] else []) = Zl vars S.G q := by funext v; simp
            rw [e]; exact H14
          clear H14 H13 ho14 hg14 hn14 hB14 hx14 H12 hB12 hI12 hI12' hT9 hTA
          rintro t vt w15 ⟨ht, hx15, H15⟩
          refine ρ ?_
          refine ci (fun h => ?_) (fun h => ?_)
          . have lt : t < (vars q).length := by have := oT h; omega
            clear h
            obtain ⟨vi, hvi⟩ : ∃ vi, vi = (vars q).getD t 0 := ⟨_, rfl⟩
            have hvm : vi ∈ vars q := by rw [hvi]; exact getD_mem' 0 _ lt
            have hvn : vi < n := hok.lt q lq vi hvm
            have hvK : vi < K.n := by rw [hKn]; exact hvn
            have hD15 := hdr.ext hx15
            refine ρ ?_
            refine ix t hD15 (by rw [hnl]; exact lt) ?_
            refine ρ ?_
            refine ld (hD15.cell (Xh lt)) ?_
            rw [← hvi]
            obtain ⟨own, hown⟩ : ∃ own, own = (vt vi).ownBlock := ⟨_, rfl⟩
            have hJ15 := H15.jb
            rw [hKJ, hKB, hKn] at hJ15
            have hat15 := H15.at_
            rw [hKn, hKB] at hat15
            have hov15 := H15.lists.own vi hvK
            have nJ : ¬ one own J := fun e => by
              have h1 : own = some J := e
              exact hJ15.ne_own hov15 rfl (by rw [← h1]; exact hown)
            have nA : ∀ ad, Ba = some ad → ¬ one own ad.block := fun ad e h' => by
              subst e
              exact Jjz hat15 hov15 rfl rfl (by have h1 : own = some ad.block := h'; rw [← h1]; exact hown.symm)
            refine ρ ?_
            refine drN (one own) 8 [(0, 0), (0, 1), (0, 2), (0, 3), (0, 4), (0, 5), (0, 6), (0, 7), (0, 8), (0, 9), (0, 10), (0, 11), (0, 12), (1, 13), (1, 14), (0, 15), (2, 16)] kr ?_
            have hxd15 : Ext w15 w15.drew := (Ext.refl w15).drew
            have H15d := H15.ext hxd15
            have hJ15d := hJ15.ext hxd15
            have hat15d := Jk hat15 hxd15
            have hcell : ((List.range n).map vt)[vi]? = some (vt vi) := by simp [hvn]
            refine ρn ?_
            refine nld (Jm (hJ15d.at (i := 1) rfl) nJ) ?_
            refine ρn ?_
            refine nld (Jm (hJ15d.at (i := 1) rfl) nJ) ?_
            refine ρn ?_
            refine nix vi (Rd.own hat15d) hvn ?_
            refine ρn ?_
            refine nld (fun w' hg => (Zo (Rd.own hat15d) hg (fun _ ad e => nA ad e)).cell hcell) ?_
            refine ρn ?_
            refine nop ?_
            refine bsl (Qjz (some ⟨g, 0, none⟩)) ?_
            intro w16 b4 hx16 hb4 hB4
            refine ρ ?_
            refine Je (GrN.ext hx16) ?_
            have H16 := H15d.ext hx16
            refine nop ?_
            have hcl := Qmd vars S.G q vi
            refine apb (base := K.base) EIt (H16.lists.own vi hvK) (hB4.rd (n := 1) rfl) (fun u hu => by rw [List.mem_singleton.1 hu]; rfl) ?_ ?_ (by rw [hKb]; exact ((hx15.trans hxd15).trans hx16).size) ?_
            . rw [List.length_append]; unfold maxLen; split <;> simp <;> omega
            . rw [List.length_append]; split <;> simp <;> omega
            intro v4 w17 ho17 hg17 hn17
            refine ρ ?_
            refine Je (GrN.by hg17 fun j ej => by rw [← hown] at ej; exact ej) ?_
            obtain ⟨c1, c2, c3, H18, hg18⟩ := H16.pushAt hvK ho17 hg17 hn17
            rw [hKB] at c1 c2 H18 hg18
            have at17 := Xe H16.at_ (H16.lists.own vi hvK) hg17 rfl
            rw [hKn, hKB] at at17
            refine ρn ?_
            refine nix vi (Rd.own at17) hvn ?_
            refine ρn ?_
            refine Xv ?_
            refine sto c1 c2 ?_ (hv := c3)
            have hx18 : Ext w (w17.setCell (adr Ba vi) v4) := hg18.old ((hx15.trans hxd15).trans hx16) (fun k hk => by
              rcases hk with hk | hk
              . exact hnw (H16.lists.own vi hvK) k hk
              . exact hnw H16.at_ k (by rw [hKB]; exact hk))
            refine ω5 ?_
            refine Us ?_
            refine ρn ?_
            refine ρ ?_
            refine Jg (t + 1) (upd vt vi v4) sO ⟨om, hx18, ?_⟩ om
            have htk : (vars q).take (t + 1) = (vars q).take t ++ [vi] := by rw [Qy 0 lt, hvi]
            have hnt : vi ∉ (vars q).take t := fun hm => by
              have h1 : ((vars q).take (t + 1)).Nodup := (Qxg (hok.asc q lq)).sublist (List.take_sublist _ _)
              rw [htk, List.nodup_append] at h1
              exact h1.2.2 _ hm _ (List.mem_singleton.2 rfl) rfl
            have e : upd (fun v => Zl vars S.G q v ++ if v ∈ (vars q).take t then [itp g] else []) vi ((Zl vars S.G q vi ++ if vi ∈ (vars q).take t then [itp g] else []) ++ [.pointer (some ⟨g, 0, none⟩)]) = (fun v => Zl vars S.G q v ++ if v ∈ (vars q).take (t + 1) then [itp g] else []) := by
              funext v
              rw [htk]
              by_cases e : v = vi
              . subst e; rw [Jf, if_neg hnt, if_pos (by simp)]; simp [itp]
              . rw [Jy _ _ e]
                congr 1
                by_cases h1 : v ∈ (vars q).take t
                . rw [if_pos h1, if_pos (by simp [h1])]
                . rw [if_neg h1, if_neg (by simp [h1, e])]
            rw [← e]; exact H18
          . have ht' : t = (vars q).length := by have := oF h; omega
            subst ht'
            clear h
            refine ρ ?_
            refine Jg (q + 1) ⟨upd S.G q g, upd S.A q TA0, upd S.lo q w8.heap.size, upd S.hi q w9.heap.size, va', vt⟩ sO ⟨om, hx15, ?_⟩ om
            have e1 : (fun v => Zl vars S.G q v ++ if v ∈ (vars q).take (vars q).length then [itp g] else []) = Zl vars (upd S.G q g) (q + 1) := by
              funext v
              rw [Qmc, List.take_length, Jf, Qmf (G' := upd S.G q g) (fun j hj => (Jy _ _ om).symm)]
            have e2 : ((List.range q).map fun j => itp (S.G j)) ++ [itp g] = (List.range (q + 1)).map fun j => itp (upd S.G q g j) := by
              rw [List.range_succ, List.map_append, List.map_singleton, Jf]
              congr 1
              refine List.map_congr_left fun j hj => ?_
              have := List.mem_range.1 hj
              rw [Jy _ _ om]
            rw [e1, e2] at H15; exact H15
      . have hq' : q = ts.length := by have := oF h; omega
        subst hq'
        clear h
        subst hK
        obtain ⟨h0, hh0⟩ : ∃ h0, h0 = w4.heap.size := ⟨_, rfl⟩
        obtain ⟨NIx, hNIx⟩ : ∃ NIx : Nat → Prop, NIx = fun k => k = J ∨ (∃ i, i < ts.length ∧ k = S.G i) ∨ (Value.slice Ra n n).ownBlock = some k := ⟨_, rfl⟩
        obtain ⟨c, hc⟩ : ∃ c : JC, c = ⟨⟨S.G, S.A, fun i => (vars i).length, rs⟩, n, ts.length, vars, J, Ra, w.heap.size, .slice Ba n n, .func (.func fid) first cap, S.vat, fun k => bx' k ∨ h0 ≤ k ∨ NIx k⟩ := ⟨_, rfl⟩
        have hNI : ∀ k, c.NI k ↔ NIx k := fun k => by subst hc; subst hNIx; exact Iff.rfl
        have hNN : ∀ k, c.N k ↔ bx' k ∨ h0 ≤ k ∨ NIx k := fun k => by subst hc; exact Iff.rfl
        have hJlt : J < h0 := by rw [hh0]; exact H4.jb.lt
        have hrng : ∀ {e sz m' : Nat} {v : Value} {xs : List Value}, w4.ownsRow w.heap.size e sz v m' xs → ∀ k, v.ownBlock = some k → w.heap.size ≤ k ∧ k < h0 := fun ho k ek => by
          obtain ⟨_, _, _, _, hf⟩ := Jv ho
          rw [hh0]; exact hf k ek
        have hNIr : ∀ k, NIx k → w.heap.size ≤ k ∧ k < h0 := fun k hk => by
          subst hNIx
          rcases hk with hk | ⟨i, hi, hk⟩ | hk
          . subst hk; exact ⟨hbJ, hJlt⟩
          . subst hk
            have h1 := (H4.its i hi).lt
            have h2 := H4.jg i hi
            simp only at h2; omega
          . exact hrng H4.row k hk
        have hNr : ∀ k, k < h0 → ¬ bx' k → ¬ NIx k → ¬ c.N k := fun k h1 h2 h3 h4 => by
          rcases (hNN k).1 h4 with h5 | h5 | h5
          . exact h2 h5
          . omega
          . exact h3 h5
        have hbxo : ∀ k, w.heap.size ≤ k → ¬ bx' k := fun k hk hb => by have := hbx k hb; omega
        have offG : ∀ {e sz m' : Nat} {v : Value} {xs : List Value}, w4.ownsRow w.heap.size e sz v m' xs → Nat.beq e 281 = false → Nat.beq e 303 = false → Nat.beq 47 e = false → ∀ k, v.ownBlock = some k → ¬ c.N k := fun ho e1 e2 e3 k ek => by
          have h1 := hrng ho k ek
          refine hNr k h1.2 (hbxo k h1.1) fun h2 => ?_
          subst hNIx
          rcases h2 with h2 | ⟨i, hi, h2⟩ | h2
          . subst h2; exact H4.jb.ne_own ho e1 ek.symm
          . subst h2; exact (H4.its i hi).ne_own ho e2 ek.symm
          . exact Jjz H4.row ho e3 h2 ek
        have hIc : ∀ v, c.I v = (List.range ts.length).filter fun i => decide (v ∈ vars i) := fun v => by subst hc; rfl
        have hptr : ∀ v, Jjt c.F (c.I v) = Zl vars S.G ts.length v := fun v => by rw [hIc]; subst hc; rfl
        have hIl : ∀ v, (c.I v).length = (Zl vars S.G ts.length v).length := fun v => by rw [← hptr]; simp [Jjt]
        have hJok : JOk c := by
          have hinj : ∀ i j, i < ts.length → j < ts.length → S.G i = S.G j → i = j := fun i j hi hj e => by
            rcases Nat.lt_trichotomy i j with h1 | h1 | h1
            . have := H4.ginj i j h1 hj; omega
            . exact h1
            . have := H4.ginj j i h1 hi; omega
          have hgJ : ∀ i, i < ts.length → S.G i ≠ J := fun i hi e => by have := H4.jg i hi; simp only at this; omega
          have hd32 : ∀ i, i < ts.length → (vars i).length ≤ 32 := fun i hi => by have := Jkj (hok.asc i hi) (hok.lt i hi); omega
          subst hc
          exact ⟨hn32, hm32, hok.asc, hok.lt, fun i _ => rfl, hd32, hne3, hok.srt, hok.len, hok.big, hinj, hgJ, hok.cov, fun k hk => .inr (.inr ((hNI k).1 hk))⟩
        have hJenv : JEnv c w4 := by
          refine ⟨fun i hi => ?_, ⟨Ba, n, by subst hc; rfl, ?_⟩, fun v hv => ?_⟩
          . have him : i < ts.length := by subst hc; exact hi
            have h1 := H4.tri i him
            have h2 : Off c.N w4 (fun u => TriA u (S.A i) (vars i).length (rs i)) := h1.mono fun k hk h => by
              have h3 := (H4.jlo i him)
              have h4 := H4.iv i k him
              simp only at h3
              rcases (hNN k).1 h with h5 | h5 | h5
              . have := hbx k h5; exact .inl om
              . omega
              . subst hNIx
                rcases h5 with h5 | ⟨i', hi', h5⟩ | h5
                . exact h4 (.inl h5)
                . subst h5; exact H4.gi i' i hi' him
                . exact h4 (.inr (.inl h5))
            subst hc; exact h2
          . have h1 := Jjx H4.at_ (offG H4.at_ rfl rfl rfl)
            have h2 := h1.imp (Ψ := fun u => Rd u 1 Ba n ((List.range n).map S.vat)) fun u h => Rd.own h
            have : c.n = n ∧ c.vat = S.vat := by subst hc; exact ⟨rfl, rfl⟩
            rw [this.1, this.2]; exact h2
          . have hvn : v < n := by subst hc; exact hv
            have ho := H4.lists.own v hvn
            obtain ⟨B, cc, e1, e2, e3⟩ := Jv ho
            have : c.vat v = S.vat v := by subst hc; rfl
            refine ⟨B, cc, by rw [this, e1, hIl], ?_⟩
            rw [hptr, hIl]
            refine (Jjx ho (offG ho rfl rfl rfl)).imp fun u h => ?_
            rw [e1] at h; exact Rd.own h
        have hYC : YC c (fun l u => Y h0 l u ∧ h0 ≤ u.heap.size) (fun k => bx' k ∨ h0 ≤ k) := by
          refine ⟨fun k hk => (hNN k).2 (by rcases hk with h | h; · exact .inl h
                                            exact .inr (.inl h)), fun k hk h => ?_, fun l u u' h hg => ⟨hY.keep _ _ _ _ h.1 (hg.mono fun k _ hk => ?_), nL h.2 hg.size⟩, fid, first, cap, by subst hc; rfl, fun l u vr z h hr hl => ?_⟩
          . have h1 := hNIr k ((hNI k).1 h)
            rcases hk with h2 | h2
            . exact hbxo k h1.1 h2
            . omega
          . have h1 := hNIr k ((hNI k).1 hk)
            exact h1
          . refine (hcall h0 l u vr z h.2 h.1 hr hl).mono ?_
            rintro r u' ⟨h1, h2, h3⟩
            exact ⟨h1, ⟨h2, nL h.2 h3.size⟩, h3⟩
        have hcn : c.n = n := by subst hc; rfl
        have hcm : c.m = ts.length := by subst hc; rfl
        have hCfg : Cfg c (fun l u => Y h0 l u ∧ h0 ≤ u.heap.size) w4 (List.replicate n V0) (fun i => lv (c.vars i) 0) (fun _ => 0) (fun _ => 0) (fun _ _ => 0) (fun _ _ => 0) [] := by
          refine ⟨hJenv, fun i hi => ⟨0, ?_⟩, ?_, by rw [hcn]; simp, ⟨0, ?_⟩, by rw [hh0]; exact hY0 w4 hx4, by rw [hh0]; exact Nat.le_refl _⟩
          . simp only [Jzf]
            rw [hcm] at hi
            have := H4.its i hi
            subst hc; exact this
          . have := H4.row
            subst hc; exact this
          . have := H4.jb
            subst hc; exact this
        have hAns : ∀ x, c.Ans x ↔ Zr n ts.length vars rs x := fun x => by subst hc; exact Iff.rfl
        have hPth : Pth c 0 (List.replicate n V0) (fun _ => 0) (fun _ => 0) := by
          refine ⟨fun i hi => ?_, fun i hi h => ?_⟩
          . rw [Jzf, Yx, if_pos rfl, List.take_zero]
          . rw [Jzf] at h; omega
        have hcJ : c.J = J := by subst hc; rfl
        refine ρ ?_
        have hext := Qhq hJok hYC (fun l h1 h2 => hcap l h1 fun x hx => (hAns x).1 (h2 x hx)) n 0 (List.replicate n V0) (fun _ => 0) (fun _ => 0) (fun _ _ => 0) (fun _ _ => 0) [] w4 (by rw [hcn]; omega) hCfg hPth List.Pairwise.nil (fun x hx => by cases hx) (fun x hx => by cases hx)
        rw [hcJ] at hext
        refine cl hext ?_
        rintro u w5 ⟨rfl, hg5, z5, f5, h5, l5, H5, _, _, hlt5, hl5⟩
        have hall : w5.ownsRow w.heap.size 288 1 S.va ts.length ((List.range ts.length).map fun j => itp (S.G j)) := by
          have h1 := H4.all
          rw [List.length_map, List.length_range] at h1
          exact Jr h1 hg5 (offG H4.all rfl rfl rfl)
        obtain ⟨VA, vc, eva, _, _⟩ := Jv hall
        rw [eva] at hall ⊢
        have hoff5 : Off c.N w5 (fun u => Rd u 1 VA ts.length ((List.range ts.length).map fun j => itp (S.G j))) := by
          refine (Jjx hall fun g eg => ?_).imp fun u h => Rd.own h
          exact offG H4.all rfl rfl rfl g (by rw [eva]; exact eg)
        refine ρ ?_
        refine Qd (fun (i : Nat) => [(8, .pointer (some ⟨J, 0, none⟩)), (104, .slice VA ts.length vc), (105, .int .i64 (ts.length : Int)), (106, .int .i64 (i : Int))])
          (fun i w' => i ≤ ts.length ∧ GrN c.N w5 w' ∧ Cfg c (fun l u => Y h0 l u ∧ h0 ≤ u.heap.size) w' z5 (fun i => lv (c.vars i) 0) (fun _ => 0) (fun _ => 0) f5 h5 l5) (fun i => ts.length - i) 0 sB ⟨Nat.zero_le _, GrN.refl _ _, H5⟩ ?_
        rintro i w6 ⟨hi, hg6, H6⟩
        refine ρ ?_
        refine ci (fun h => ?_) (fun h => ?_)
        . have li : i < ts.length := by have := oT h; omega
          clear h
          have hR6 := hoff5 w6 hg6
          refine ρ ?_
          refine ix i hR6 li ?_
          refine ρ ?_
          refine ld (hR6.cell (show ((List.range ts.length).map fun j => itp (S.G j))[i]? = some (.pointer (some ⟨S.G i, 0, none⟩)) by simp [li, itp])) ?_
          obtain ⟨sj, hJ6⟩ := H6.jb
          rw [hcJ] at hJ6
          refine ρ ?_
          refine drN (fun _ => False) 10 [(0, 0), (0, 1), (0, 2), (0, 3), (0, 4), (1, 5), (0, 6), (0, 7), (0, 8), (2, 9)] kr ?_
          have hxd6 : Ext w6 w6.drew := (Ext.refl w6).drew
          have H6d := H6.ext hYC hxd6
          have hJ6d := hJ6.ext hxd6
          obtain ⟨si, hI6⟩ := H6d.its i (by rw [hcm]; exact li)
          have hGi : c.F.G i = S.G i := by subst hc; rfl
          rw [hGi] at hI6
          refine ρn ?_
          refine nld (Jm (hJ6d.at (i := 2) rfl) (fun e => e)) ?_
          refine ρn ?_
          refine nop ?_
          refine cl (Qfz hI6) ?_
          rintro u w7 ⟨rfl, rfl⟩
          refine ρ ?_
          refine Je (GrN.refl _ _) ?_
          refine ρn ?_
          refine Xv ?_
          refine sto (p := ⟨J, 2, none⟩) (hJ6d.cell 2) (hJ6d.frozen _) ?_
          rw [← hcJ] at hJ6d
          obtain ⟨H8, hg8⟩ := H6d.steps hJok hYC hJ6d (IntKind.i64.wrap (sj + si))
          rw [hcJ] at H8 hg8
          refine ω5 ?_
          refine Us ?_
          refine ρn ?_
          refine ρ ?_
          exact Qw (i + 1) sO ⟨om, (hg6.trans (GrN.ext hxd6)).trans (hg8.mono fun k _ hk => hJok.sub k hk), H8⟩ om
        . clear h
          obtain ⟨sj, hJ6⟩ := H6.jb
          rw [hcJ] at hJ6
          refine ρ ?_
          refine ld (hJ6.at (i := 2) rfl) ?_
          refine ρ ?_
          refine Ve ⟨GrN.cut hx4 (hg5.trans hg6) fun k hk h => ?_, sj, h0, l5, rfl, H6.y.2, H6.y.1, hlt5, fun x => ?_⟩
          . rcases (hNN k).1 h with h1 | h1 | h1
            . exact h1
            . have := hx4.size; omega
            . have := (hNIr k h1).1; omega
          . rw [hl5, ← hAns x]
            constructor
            . rintro (h1 | h1)
              . cases h1
              . exact h1.1
            . intro h1; exact .inr ⟨h1, rfl⟩
  . intro rest
    refine gtwo 1 3 kr rfl rfl rfl ?_ ?_
    . refine ρ ?_
      refine mkn EV n om (by unfold maxLen; omega) ?_
      intro w2 A2 hx2 ho2 _
      refine Jh (Jvd hx2 ?_)
      refine Kd (fuel' := 3) [(1, 3)] #[true, true, true, true, true, false, false, false] kr kr rfl ?_
      refine Uk ?_
      refine mkn EIts n om (by unfold maxLen; omega) ?_
      intro w3 A3 hx3 ho3 _
      refine Jh (Uz hx3 ?_)
      refine Uw (Kf ?_)
      refine rest (A2, A3) _ _ ⟨hx2.trans hx3, ?_, ?_⟩ sB
      . rw [Zm, List.length_replicate, ← Jbw]; exact Jk ho2 hx3
      . rw [Jgk] at ho3; exact Jwp ho3 hx2.size
    . refine ρ ?_
      refine mkn EIts n om (by unfold maxLen; omega) ?_
      intro w2 A2 hx2 ho2 _
      refine Jh (Jvd hx2 ?_)
      refine Kd (fuel' := 3) [(1, 1)] #[true, true, true, true, true, false, false, false] kr kr rfl ?_
      refine Uk ?_
      refine mkn EV n om (by unfold maxLen; omega) ?_
      intro w3 A3 hx3 ho3 _
      refine Jh (Uz hx3 ?_)
      refine Uw (Kf ?_)
      refine rest (A3, A2) _ _ ⟨hx2.trans hx3, ?_, ?_⟩ sB
      . rw [Zm, List.length_replicate, ← Jbw]; exact Jwp ho3 hx2.size
      . rw [Jgk] at ho2; exact Jk ho2 hx3
end Go.Proofs.YtebcagekopgdhaaGreatDoor
