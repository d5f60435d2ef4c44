/- Part 43 of the proof: Lw2, Lw3. -/
import Derived.Test.YtefpailelagbkaaGreatDoorB42
set_option linter.unusedVariables false
set_option maxRecDepth 100000
set_option maxHeartbeats 40000000
namespace Go.Wk
open Go.RowKit
section
variable {α:Type} {E:TypeId} {sz base:Nat} {Φ:World->List Value->α->Prop} {N0:Nat->Prop} {w w':World} {v:Value} {ls:List α}
def OwnM(E:TypeId)(sz:Nat)(Φ:World->List Value->α->Prop)(N0:Nat->Prop)(w:World)(base:Nat)(v:Value)(ls:List α): Prop :=
 ∃ ps:List (List Value×α),ls=ps.map (·.2)/\w.ownsRow base E sz v ps.length (Jxh ps)/\∀ p∈ps,p.1.length=sz/\Off (λk=>N0 k∨v.ownBlock=some k) w (λu=>Φ u p.1 p.2)
theorem OwnM.nil(w:World)(base:Nat): OwnM E sz Φ N0 w base (.slice none 0 0) []:=⟨[],rfl,Jxj _ _ _ _,λp i=>by cases i⟩
theorem OwnM.gr(h:OwnM E sz Φ N0 w base v ls)(hg:GrN N0 w w')(hN:∀ g,v.ownBlock=some g->¬ N0 g): OwnM E sz Φ N0 w' base v ls:=by
 obtain ⟨ps,C,u,j⟩:=h;exact ⟨ps,C,Jjr u hg hN,λp i=>⟨(j p i).1,(j p i).2.gr (hg.mono λk _ o=>.inl o)⟩⟩
theorem OwnM.ext(h:OwnM E sz Φ N0 w base v ls)(hx:Ext w w'): OwnM E sz Φ N0 w' base v ls:=by
 obtain ⟨ps,u,o,j⟩:=h;exact ⟨ps,u,Jjb o hx,λp i=>⟨(j p i).1,(j p i).2.ext hx⟩⟩
theorem OwnM.form(h:OwnM E sz Φ N0 w base v ls): ∃ A c,v=.slice A ls.length c/\ls.length<=c/\∀ g,v.ownBlock=some g->base<=g/\g<w.heap.size:=by
 obtain ⟨ps,rfl,o,u⟩:=h;obtain ⟨A,c,rfl,j,i⟩:=Jjd o;exact ⟨A,c,by simp,by simpa using j,i⟩
theorem OwnM.gv(h:OwnM E sz Φ N0 w base v ls)(hm:ls.length<=1100000): GV sz Φ w v ls:=by
 obtain ⟨ps,rfl,o,j⟩:=h;obtain ⟨A,c,rfl,u,C⟩:=Jjd o;exact ⟨ps,A,c,rfl,rfl,u,by simpa using hm,Rd.own o,λp i=>⟨(j p i).1,(j p i).2.here⟩⟩
theorem apM{P:Program}{n:Nat}{al:AL}{Q:Exit->Act->World->Prop}{ops:Array Oper}{rest:List Oper}{d ty:Nat}{pos:String}{aft:Array Edge}{t bytes:Nat}{z:Value}(hE:ElT P t E sz bytes z){x y:Operand}{b:Nat}{cs:List Value}{a:α}(ho:OwnM E sz Φ N0 w base v ls)(hb:Blk w b E cs)(hl:cs.length=sz)(h1:∀ u∈cs,u.oneCell'=true)(hΦ:Off (λk=>N0 k∨v.ownBlock=some k) w (λu=>Φ u cs a))(hm:ls.length<=1100000)(hby:bytes<=64)(hbase:base<=w.heap.size)(kk:∀ v' w',OwnM E sz Φ N0 w' base v' (ls++[a])->w.grownBy w' v.ownBlock->(∀ g,v'.ownBlock=some g->v.ownBlock=some g∨w.heap.size<=g)->WL P n ops Q rest ((d,v')::al) w')(hx:ev al x=some v:=by rfl)(hy:ev al y=some (.slice (some ⟨b,0,none⟩) 1 1):=by rfl)(hd:Nat.blt d n=true:=by rfl):
  WL P n ops Q (⟨some d,.call { callee:=.builtin .append,args:=#[x,y],argTypes:=#[t,t] },ty,pos,aft,none⟩::rest) al w:=by
 obtain ⟨ps,e,hr,U⟩:=ho;have Z:ps.length<=1100000:=by rw [e,List.length_map]at hm;exact hm
 have a1:(ps.length+1)*bytes<=1100001*64:=Nat.mul_le_mul (by omega) hby;refine apb hE hr (hb.rd (n:=1) (by omega)) h1 (by unfold maxLen;omega) (by omega) hbase ?_ hx hy hd;intro v' w' O G C;have j:∀ {Ψ:World->Prop},Off (λk=>N0 k∨v.ownBlock=some k) w Ψ->Off (λk=>N0 k∨v'.ownBlock=some k) w' Ψ:=fun {Ψ} h W hW=>by
  refine h W ?_;have h1:GrN (λk=>(N0 k∨v.ownBlock=some k)∨w.heap.size<=k) w W:=(GrN.by G λk o=>.inl (.inr o)).trans (hW.mono λk _ o=>by
   rcases o with o|o
   ·exact .inl (.inl o)
   ·rcases C k o with i|i
    ·exact .inl (.inr i)
    ·exact .inr i)
  exact h1.mono λk o h=>h.elim id λi=>by omega
 refine kk v' w' ⟨ps++[(cs,a)],by rw [e];simp,?_,λp J=>?_⟩ G C
 ·have e2:Jxh (ps++[(cs,a)])=Jxh ps++cs:=by simp [Jxh]
  rw [List.length_append,e2];exact O
 ·rcases List.mem_append.1 J with i|i
  ·exact ⟨(U p i).1,j (U p i).2⟩
  ·rw [List.mem_singleton.1 i];exact ⟨hl,j hΦ⟩
end
end Go.Wk
namespace Go.Proofs.YtefpailelagbkaaGreatDoor
open Go.RowKit Pl Go.Wk
attribute [local irreducible] WC WL QX WD WDB WP WN WG WH WM
theorem zRin: Jxd Tryz.prog 114=some (.agg #[.int .i64 0,.int .i64 0,.slice none 0 0,.slice none 0 0,.slice none 0 0]):=by kernel_rfl
theorem Xbf(n f:Int)(A B C:Option Addr)(a a' b b' c c':Nat)(w:World): (Instr.build 114 #[(0,.int .i64 n),(1,.int .i64 f),(2,.slice A a a'),(3,.slice B b b'),(4,.slice C c c')]).run Tryz.prog w=.ok (.agg #[.int .i64 n,.int .i64 f,.slice A a a',.slice B b b',.slice C c c']) w:=by kernel_rfl
theorem zInp: Jxd Tryz.prog 62=some (.agg #[.int .i64 0,.int .i64 0,.slice none 0 0,.slice none 0 0,.slice none 0 0]):=by kernel_rfl
theorem Xzk(n f:Int)(A B:Option Addr)(a a' b b':Nat)(w:World): (Instr.build 62 #[(0,.int .i64 n),(1,.int .i64 f),(2,.slice A a a'),(3,.slice B b b')]).run Tryz.prog w=.ok (.agg #[.int .i64 n,.int .i64 f,.slice A a a',.slice B b b',.slice none 0 0]) w:=by kernel_rfl
theorem ref_any{w:World}{n f:Int}{dA pA vA rA:Option Addr}{d dc p pc v vc r rc:Nat}:
  Ret Tryz.prog 56 [.agg #[.int .i64 n,.int .i64 f,.slice dA d dc,.slice pA p pc,.slice vA v vc,.slice rA r rc]] w λu w'=>u=.agg #[.int .i64 n,.int .i64 f,.slice pA p pc,.slice vA v vc,.slice rA r rc]/\Ext w w':=by
 refine Jjc Tryz.func56 Tryz.ntmps56 rfl (by kernel_rfl) rfl ?_;refine ρ ?_;refine bx ?_;intro w1 b C hb hB;refine ρ ?_;refine alc zRin ?_;intro w2 b2 o J U;have j:=hB.ext o;refine ρ ?_;refine ld (j.at (i:=0) rfl) ?_;refine ρ ?_;refine ld (j.at (i:=1) rfl) ?_;refine ρ ?_;refine ld (j.at (i:=3) rfl) ?_;refine ρ ?_;refine ld (j.at (i:=4) rfl) ?_;refine ρ ?_;refine ld (j.at (i:=5) rfl) ?_;refine ρ ?_;refine bld (Xbf _ _ _ _ _ _ _ _ _ _ _ _) ?_;refine ρ ?_;refine stW U ?_;intro w3 O Z G;refine ρ ?_;exact Qdc O ⟨rfl,G w (C.trans o) (nL C.size J)⟩
structure MkA(a:Atm)(zs:List Int)(rows:List Row): Prop where
 vars:a.vars=zs
 ar:a.ar=zs.length
 l32:zs.length<=32
 ok:∀ r∈rows,r.length=zs.length/\r.all Jxc=true
 len:a.rows.length<=65536
 sub:∀ x∈a.rows,x∈rows
 set:rows.length<=12->IsSet [] rows a.rows
structure MkS(c:Cse): Prop where
 len:c.vs.length=c.rss.length
 l32:∀ i,i<c.vs.length->(c.vs.getD i []).length<=32
 ok:∀ i,i<c.vs.length->∀ r∈c.rss.getD i [],r.length=(c.vs.getD i []).length/\r.all Jxc=true
 row:∀ i,i<c.vs.length->(c.rss.getD i []).length<=65536
set_option maxRecDepth 100000 in
set_option maxHeartbeats 4000000 in
theorem Qrc{w0 w : World}{cs : List Value}{c : Cse}(h : CseV w0 cs c)(h00 : Ext w0 w): Ret Tryz.prog 72 [.agg cs.toArray] w fun u w' => Ext w w' ∧ ∃ (dA pA aA : Option Addr) (dc pc ac an : Nat) (ok : Bool), u = .tuple #[.agg #[.int .i64 c.n, .int .i64 c.f, .slice dA c.ds.length dc, .slice pA c.pm.length pc, .slice aA an ac], .bool ok] ∧
      BoolsV w0 (.slice dA c.ds.length dc) c.ds ∧ IntsV w0 (.slice pA c.pm.length pc) c.pm ∧ (ok = true → c.vs.length = c.rss.length ∧ ∃ ats : List Atm, ats.length = c.vs.length ∧ Off (fun k => w0.heap.size ≤ k ∧ k < w.heap.size) w' (fun u => GV 3 AtG u (.slice aA an ac) ats) ∧ ∀ i, i < c.vs.length → MkA (ats.getD i a0) (c.vs.getD i []) (c.rss.getD i [])) ∧ (MkS c → ok = true) := by
  obtain ⟨dA, dc, pA, pc, vA, vc, rA, rc, rfl, hD, hP, hV0, hR, hn, hf⟩ := h
  have hV := hV0
  obtain ⟨_, _, rcs, e1, _, hrm, hRR0, hRe0⟩ := id hR
  injection e1 with e1 e2 e3
  subst e1; subst e3
  obtain ⟨_, _, vcs, e1, _, hvm, hVR0, hVe⟩ := id hV
  injection e1 with e1 e2 e3
  subst e1; subst e3
  have hRR := hRR0.ext h00
  have hVR := hVR0.ext h00
  have hRe : ∀ i, i < c.rss.length → ∃ u, rcs[i]? = some u ∧ RowsV w u (c.rss.getD i []) := fun i hi => by obtain ⟨u, e, hu⟩ := hRe0 i hi; exact ⟨u, e, hu.ext h00⟩
  refine Jjc Tryz.func72 Tryz.ntmps72 rfl (by kernel_rfl) rfl ?_
  refine ρ ?_
  refine bx ?_
  intro w1 b hx1 hb hB
  refine ρ ?_
  refine alc zInp ?_
  intro w2 b2 hx2 hb2 hB2
  have hB' := hB.ext hx2
  refine ρ ?_
  refine ld (hB'.at (i := 0) rfl) ?_
  refine ρ ?_
  refine ld (hB'.at (i := 1) rfl) ?_
  refine ρ ?_
  refine ld (hB'.at (i := 2) rfl) ?_
  refine ρ ?_
  refine ld (hB'.at (i := 3) rfl) ?_
  refine ρ ?_
  refine bld (Xzk _ _ _ _ _ _ _ _ _) ?_
  refine ρ ?_
  refine alc zInp ?_
  intro w3 b4 hx3 hb4 hB4
  refine ρ ?_
  refine stW hB4 ?_
  intro w4 hB44 hg4 hx4
  have hx24 : Ext w2 w4 := hx4 w2 hx3 hb4
  have hxw4 := (hx1.trans hx2).trans hx24
  have hb14 : ¬ b = b4 := fun e => by have := hB'.lt; omega
  have hb24 : ¬ b2 = b4 := fun e => by have := hB2.lt; omega
  have hB04 := hB'.ext hx24
  have hB24 := hB2.ext hx24
  refine ρ ?_
  refine Jjt (fun (i : Nat) (av : Value) => [(1, .pointer (some ⟨b, 0, none⟩)), (2, .pointer (some ⟨b2, 0, none⟩)), (3, .bool false), (4, .pointer (some ⟨b4, 0, none⟩)), (5, .int .i64 (i : Int))])
    (fun i av w' => i ≤ c.vs.length ∧ i ≤ c.rss.length ∧ GrN (fun k => k = b4) w4 w' ∧ Blk w' b4 62 [.int .i64 c.n, .int .i64 c.f, .slice dA c.ds.length dc, .slice pA c.pm.length pc, av] ∧ ∃ ats : List Atm, ats.length = i ∧ OwnM 69 3 AtG (fun k => (k = b2 ∨ k = b4) ∨ (w0.heap.size ≤ k ∧ k < w.heap.size)) w' w4.heap.size av ats ∧ ∀ j, j < i → MkA (ats.getD j a0) (c.vs.getD j []) (c.rss.getD j [])) (fun i _ => c.vs.length - i) 0 (.slice none 0 0) sB
    ⟨Nat.zero_le _, Nat.zero_le _, GrN.refl _ _, hB44, [], rfl, OwnM.nil _ _, fun j hj => by omega⟩ ?_
  rintro i av w5 ⟨hiv, hir, hg5, hB45, ats, hal, hG5, hmk⟩
  have hB05 := Jqb hB04 hg5 hb14
  have hB25 := Jqb hB24 hg5 hb24
  have hx5 : Ext w w5 := hg5.old hxw4 fun k hk => by rw [hk]; have := (hx1.trans hx2).size; omega
  refine ρ ?_
  refine ld (hB05.at (i := 4) rfl) ?_
  refine ρ ?_
  refine Jzn (fun (t : Bool) => [(28, .bool t), (1, .pointer (some ⟨b, 0, none⟩)), (2, .pointer (some ⟨b2, 0, none⟩)), (3, .bool false), (4, .pointer (some ⟨b4, 0, none⟩)), (5, .int .i64 (i : Int))]) (fun t w6 => w6 = w5 ∧ (t = true ↔ i < c.vs.length ∧ i < c.rss.length)) ?_ ?_
  · refine ki 22 (fun h => ?_) (fun h => ?_)
    · have := oT h
      refine ρ ?_
      refine ld (hB05.at (i := 5) rfl) ?_
      refine ρ ?_
      refine Jjn (decide ((i : Int) < (c.rss.length : Int))) sB ⟨rfl, ?_⟩
      rw [decide_eq_true_eq]; omega
    · have := oF h
      refine ρ ?_
      refine Jjn false sB ⟨rfl, ?_⟩
      constructor
      · intro h; cases h
      · omega
  rintro t w6 ⟨rfl, ht⟩
  refine ρ ?_
  refine ci (fun h => ?_) (fun h => ?_)
  · obtain ⟨lv, lr⟩ := ht.1 h
    clear h
    obtain ⟨vu, hvc, hvV⟩ := hVe i lv
    obtain ⟨ru, hrc, hrV⟩ := hRe i lr
    obtain ⟨QA, qc, rfl, hqc, hqm, hqR⟩ := id hvV
    have hxd : Ext w6 w6.drew := (Ext.refl w6).drew
    have hx0d := hx5.trans hxd
    have hBd := hB05.ext hxd
    have hVd := hVR.ext hx0d
    have hRd := hRR.ext hx0d
    obtain ⟨TA, tc, rfl, _, _, _⟩ := id (hrV.ext hx0d).parts
    refine ρ ?_
    refine drH (fun i => Nat.ble 16 i) ?_
    refine Jst (fuel' := 7) 8 [(0, 0), (0, 1), (0, 2), (0, 3), (0, 4), (0, 5), (0, 6), (0, 7), (0, 8), (0, 9), (0, 10)] (lst 18 11) (by kernel_rfl) (by kernel_rfl) rfl ?_
    refine ρd ?_
    refine dld (hBd.at (i := 4) rfl) ?_
    refine ρd ?_
    refine dix i hVd lv ?_
    refine ρd ?_
    refine dld (hVd.cell hvc) ?_
    refine ρd ?_
    refine dld (hBd.at (i := 5) rfl) ?_
    refine ρd ?_
    refine dix i hRd lr ?_
    refine ρd ?_
    refine dld (hRd.cell hrc) ?_
    refine ρd ?_
    refine Jzt ?_
    refine hcut 2 (lst 18 16) (fun (q : Value × Int × Nat) => [(44, q.1), (45, .int .i64 q.2.1), (6, .pointer (some ⟨q.2.2, 0, none⟩)), (1, .pointer (some ⟨b, 0, none⟩)), (2, .pointer (some ⟨b2, 0, none⟩)), (3, .bool false), (4, .pointer (some ⟨b4, 0, none⟩)), (5, .int .i64 (i : Int))])
      (fun q W => Ext w6.drew W ∧ Blk W q.2.2 67 [.int .i64 0, .slice none 0 0] ∧ w6.drew.heap.size ≤ q.2.2 ∧ (∃ z B m d, q.1 = .agg #[.int .i64 z, .slice B m d]) ∧ ((c.vs.getD i []).length ≤ 32 → (∀ r ∈ c.rss.getD i [], r.length = (c.vs.getD i []).length ∧ r.all Jxc = true) → (c.rss.getD i []).length ≤ 65536 → q.2.1 = 0) ∧
        (q.2.1 = 0 → (c.vs.getD i []).length ≤ 32 ∧ (∀ r ∈ c.rss.getD i [], r.length = (c.vs.getD i []).length ∧ r.all Jxc = true) ∧ ∃ m, Off (fun k => k < w6.drew.heap.size ∨ k = q.2.2) W (fun u => RelV u q.1 (c.vs.getD i []).length m) ∧ m.length ≤ 65536 ∧ (∀ x ∈ m, x ∈ c.rss.getD i []) ∧ (((c.rss.getD i []).length ≤ 12 ∨ Srt [] (c.rss.getD i [])) → IsSet [] (c.rss.getD i []) m))) ?_ ?_
    · rintro ⟨rv, e, b6⟩ W ⟨hxW, hBW, hbW, ⟨z, B, mm, dd, erv⟩, hsuf, hrel⟩
      simp only at hBW hbW hsuf hrel erv
      subst erv
      refine Jst (fuel' := 0) 8 [(2, 16), (2, 17)] (lst 18 18) (by kernel_rfl) (by kernel_rfl) rfl ?_
      refine Jqz ?_
      refine stb (cs' := [.int .i64 z, .slice B mm dd]) hBW ?_ Qvn
      intro W2 hBW2 hgW2 hxW2
      refine Jzd (Jxt ?_)
      refine Jqz ?_
      refine ρ ?_
      refine Jxt ?_
      refine Qmd (Jzt ?_)
      refine hend (by kernel_rfl) ?_
      have hx6W2 : Ext w6 W2 := hxW2 w6 (hxd.trans hxW) (nL hxd.size hbW)
      have hgW2' : GrN (fun k => k = b6) W W2 := GrN.by hgW2 fun k hk => by injection hk with hk; exact hk.symm
      have hB4W := hB45.ext hx6W2
      refine ρ ?_
      refine ci (fun h => ?_) (fun h => ?_)
      · refine ρ ?_
        refine ldW hB4W ?_
        obtain ⟨AA, ac, eav, _, _⟩ := hG5.form
        subst eav
        refine ρ ?_
        refine stW (hB25.ext hx6W2) ?_
        intro W3 hB3 hg3 hx3'
        have hxf : Ext w W3 := hx3' w (hx5.trans hx6W2) (nL hx1.size hb2)
        refine ρ ?_
        exact Jyb hB3 ⟨hxf, dA, pA, AA, dc, pc, ac, ats.length, false, rfl, hD, hP, fun h => (by cases h), fun hS => absurd (hsuf (hS.l32 i lv) (hS.ok i lv) (hS.row i lv)) (Jkx h)⟩
      · have he : e = 0 := Jkz h
        clear h
        obtain ⟨hv32, hrok, m, hoff, hm6, hmsub, hmset⟩ := hrel he
        have hoff2 := hoff.gr (hgW2'.mono fun k _ hk => (.inr hk : k < w6.drew.heap.size ∨ k = b6))
        obtain ⟨AA, ac, eav, hacl, hal2⟩ := hG5.form
        subst eav
        have hlo : ∀ g, (Value.slice AA ats.length ac).ownBlock = some g → w4.heap.size ≤ g := fun g e => (hal2 g e).1
        have hxe : Ext W2 W2.drew := (Ext.refl W2).drew
        have hB4e := hB4W.ext hxe
        have hGe := (hG5.ext hx6W2).ext hxe
        have hx0e : Ext w W2.drew := (hx5.trans hx6W2).trans hxe
        have hBe := (hB05.ext hx6W2).ext hxe
        have hB6e := hBW2.ext hxe
        obtain ⟨ps0, _, hown0, _⟩ := id hGe
        have n4 : ¬ (Value.slice AA ats.length ac).ownBlock = some b4 := fun e => by have := hlo b4 e; have := hB44.lt; omega
        have n1 : ¬ (Value.slice AA ats.length ac).ownBlock = some b := fun e => by have := hlo b e; have := hB04.lt; omega
        have n6 : ¬ (Value.slice AA ats.length ac).ownBlock = some b6 := fun e => by have := (hal2 b6 e).2; have := hxd.size; omega
        have hNx : ∀ {W'}, GrN (fun k => (Value.slice AA ats.length ac).ownBlock = some k) W2.drew W' → Ext w W' := fun hg => hg.old hx0e fun k hk => by have := hlo k hk; have := hxw4.size; omega
        refine ρ ?_
        refine drN (fun k => (Value.slice AA ats.length ac).ownBlock = some k) 10 [(0, 0), (0, 1), (0, 2), (0, 3), (0, 4), (0, 5), (0, 6), (0, 7), (0, 8), (1, 9), (1, 10), (0, 11), (2, 12)] (by kernel_rfl) ?_
        refine ρn ?_
        refine nld (Jjg (hB4e.at (i := 4) rfl) n4) ?_
        refine ρn ?_
        refine nld (Jjg (hBe.at (i := 4) rfl) n1) ?_
        refine ρn ?_
        refine nix i (hVR.ext hx0e) lv ?_
        refine ρn ?_
        refine nld (fun w' hg => (hVR.ext (hNx hg)).cell hvc) ?_
        refine ρn ?_
        refine Jgr (cs := [.int .i64 z, .slice B mm dd]) (fun w' hg j u hu => (Jqb hB6e hg n6).at hu) ?_
        refine ρn ?_
        refine Xxl (fun w => Qbb _ _ _ _ _ _ _ w) ?_
        refine ρn ?_
        refine nop ?_
        refine bsl (fun w => Qkt _ _ _ QA B _ qc _ dd _ rfl rfl rfl w) ?_
        intro W3 b8 hx8 hb8 hB8
        refine ρ ?_
        refine Jqv (GrN.ext hx8) ?_
        refine nop ?_
        have hoff3 := (hoff2.ext hxe).ext hx8
        have hΦ : Off (fun k => ((k = b2 ∨ k = b4) ∨ (w0.heap.size ≤ k ∧ k < w.heap.size)) ∨ (Value.slice AA ats.length ac).ownBlock = some k) W3 (fun u => AtG u [.slice QA (c.vs.getD i []).length qc, .int .i64 z, .slice B mm dd] ⟨c.vs.getD i [], (c.vs.getD i []).length, m⟩) := by
          intro W' hg'
          have h1 : IntsV W' (.slice QA (c.vs.getD i []).length qc) (c.vs.getD i []) := hvV.ext (hg'.old (h00.trans (hx0e.trans hx8)) fun k hk => by
            rcases hk with ((hk | hk) | hk) | hk
            · rw [hk]; exact nL (h00.trans hx1).size hb2
            · rw [hk]; exact nL (h00.trans (hx1.trans hx2)).size hb4
            · exact hk.1
            · have := hlo k hk; have := (h00.trans hxw4).size; omega)
          obtain ⟨rv', er, h2⟩ := hoff3 W' (hg'.mono fun k _ hk => .inl (by
            rcases hk with ((hk | hk) | hk) | hk
            · have := hB25.lt; have := hxd.size; omega
            · have := hB45.lt; have := hxd.size; omega
            · have := hx0d.size; omega
            · have := (hal2 k hk).2; have := hxd.size; omega))
          have er2 := congrArg (fun v : Value => match v with | .agg xs => xs.toList | _ => []) er
          simp only [List.cons.injEq, Value.int.injEq, true_and, and_true] at er2
          refine ⟨(.slice QA (c.vs.getD i []).length qc, .int .i64 z, .slice B mm dd), rfl, h1, ?_, ?_⟩
          · simp only; rw [er2.1]
          · simp only; rw [er2.2]; exact h2
        refine apM EA (Φ := AtG) (hGe.ext hx8) hB8 rfl (Qtn rfl) hΦ (by omega) (by omega) (nL hg5.size (nL (hx6W2.trans hxe).size hx8.size)) ?_
        intro av9 W4 hG9 hg9 hn9
        refine ρ ?_
        refine Jqv (GrN.by hg9 fun k hk => hk) ?_
        have hg39 : GrN (fun k => (Value.slice AA ats.length ac).ownBlock = some k) W3 W4 := GrN.by hg9 fun k hk => hk
        have hB4f := Jqb (hB4e.ext hx8) hg39 n4
        obtain ⟨A9, c9, ev9, hc9, hal9⟩ := hG9.form
        refine ρn ?_
        refine Jkf ?_
        refine sto (hB4f.at (i := 4) rfl) (hB4f.frozen 4) ?_ (hv := by rw [ev9]; rfl)
        have hg40 : GrN (fun k => k = b4) W4 (W4.setCell ((⟨b4, 0, none⟩ : Addr).add 4) av9) := GrN.set _ rfl
        have hB4g : Blk (W4.setCell ((⟨b4, 0, none⟩ : Addr).add 4) av9) b4 62 [.int .i64 c.n, .int .i64 c.f, .slice dA c.ds.length dc, .slice pA c.pm.length pc, av9] := hB4f.set 4 _
        have hG10 : OwnM 69 3 AtG (fun k => (k = b2 ∨ k = b4) ∨ (w0.heap.size ≤ k ∧ k < w.heap.size)) (W4.setCell ((⟨b4, 0, none⟩ : Addr).add 4) av9) w4.heap.size av9 (ats ++ [⟨c.vs.getD i [], (c.vs.getD i []).length, m⟩]) := hG9.gr (hg40.mono fun k _ h => .inl (.inr h)) fun g eg e => by have := (hal9 g eg).1; have := hB44.lt; have := hB24.lt; have := hxw4.size; rcases e with (e | e) | e <;> omega
        generalize (W4.setCell ((⟨b4, 0, none⟩ : Addr).add 4) av9) = W5 at hg40 hB4g hG10
        have hgt : GrN (fun k => k = b4) w4 W5 := by
          have h1 : GrN (fun k => k = b4 ∨ w4.heap.size ≤ k) w4 W5 := (((hg5.mono fun k _ h => (.inl h : k = b4 ∨ w4.heap.size ≤ k)).trans (GrN.ext ((hx6W2.trans hxe).trans hx8))).trans (hg39.mono fun k _ h => .inr (hlo k h))).trans (hg40.mono fun k _ h => .inl h)
          exact h1.mono fun k hk h => h.elim id fun h' => by omega
        refine Jzd (Jcb ?_)
        refine ρn ?_
        refine ρ ?_
        refine Jjj (i + 1) av9 sO ⟨by omega, by omega, hgt, hB4g, _, by rw [List.length_append, hal]; rfl, hG10, fun j hj => ?_⟩ (by omega)
        by_cases ej : j = i
        · subst ej
          have : (ats ++ [(⟨c.vs.getD j [], (c.vs.getD j []).length, m⟩ : Atm)]).getD j a0 = ⟨c.vs.getD j [], (c.vs.getD j []).length, m⟩ := by simp [List.getD, ← hal]
          rw [this]
          exact ⟨rfl, rfl, hv32, hrok, hm6, hmsub, fun h => hmset (.inl h)⟩
        · have : (ats ++ [(⟨c.vs.getD i [], (c.vs.getD i []).length, m⟩ : Atm)]).getD j a0 = ats.getD j a0 := by simp [List.getD, List.getElem?_append_left (show j < ats.length by omega)]
          rw [this]; exact hmk j (by omega)
    · intro rest
      refine htwo 11 15 (by kernel_rfl) rfl rfl rfl ?_ ?_
      · refine ρ ?_
        refine cl (Jlj (ar := (c.vs.getD i []).length) (hrV.ext hx0d)) ?_
        rintro u W ⟨hy, rv, e, rfl, hform, hsuf, hrel⟩
        refine Jzd (Jgh hy ?_)
        refine Jst (fuel' := 4) 8 [(0, 12), (0, 13)] (lst 18 14) (by kernel_rfl) (by kernel_rfl) rfl ?_
        refine ρd ?_
        refine Jzt ?_
        refine Qdz (fuel' := 3) 14 (by kernel_rfl) (by kernel_rfl) rfl rfl ?_
        refine ρp ?_
        refine ρd ?_
        refine Jzt ?_
        refine Jst (fuel' := 2) 8 [(1, 15)] (lst 18 16) (by kernel_rfl) (by kernel_rfl) rfl ?_
        refine dalc' (cs := [.int .i64 0, .slice none 0 0]) Qnq ?_
        intro W2 b6 hy2 hb6 hB6
        refine Qmd (Jzt ?_)
        refine rest (rv, e, b6) _ _ ⟨hy.trans hy2, hB6, nL hy.size hb6, hform, hsuf, fun he => ?_⟩ sB
        obtain ⟨q1, q2, m, q3, q4, q5, q6⟩ := hrel he
        exact ⟨q1, q2, m, (q3.mono fun k hk h => h.elim id fun (h : k = b6) => by omega).ext hy2, q4, q5, q6⟩
      · refine ρ ?_
        refine alc Qnq ?_
        intro W b6 hy hb6 hB6
        refine Jzd (Jgh hy ?_)
        refine Jst (fuel' := 3) 8 [(1, 11), (0, 12), (0, 13)] ((lst 18 14).setIfInBounds 15 true) (by kernel_rfl) (by kernel_rfl) rfl ?_
        refine ρd ?_
        refine dcl (Jlj (ar := (c.vs.getD i []).length) (hrV.ext (hx0d.trans hy))) ?_
        rintro u W2 ⟨hy2, rv, e, rfl, hform, hsuf, hrel⟩
        refine ⟨hy2, ?_⟩
        refine ρd ?_
        refine Jzt ?_
        refine Qdz (fuel' := 2) 14 (by kernel_rfl) (by kernel_rfl) rfl rfl ?_
        refine ρp ?_
        refine ρd ?_
        refine Jzt ?_
        refine hlist (listed' := lst 18 16) (by kernel_rfl) ?_
        refine rest (rv, e, b6) _ _ ⟨hy.trans hy2, hB6.ext hy2, hb6, hform, hsuf, fun he => ?_⟩ sB
        obtain ⟨q1, q2, m, q3, q4, q5, q6⟩ := hrel he
        refine ⟨q1, q2, m, q3.mono fun k hk h => ?_, q4, q5, q6⟩
        have := hB6.lt
        have := hy.size
        rcases h with h | (h : k = b6) <;> omega
  · have hex : ¬ (i < c.vs.length ∧ i < c.rss.length) := fun h' => by have := ht.2 h'; rw [h] at this; cases this
    clear h ht
    obtain ⟨AA, ac, eav, hacl, hal2⟩ := hG5.form
    subst eav
    have hxd : Ext w6 w6.drew := (Ext.refl w6).drew
    refine ρ ?_
    have n2 : ¬ b = b2 := fun e => by have := hB.lt; omega
    refine drN (fun k => k = b2) 10 [(0, 0), (0, 1), (0, 2), (0, 3), (0, 4), (0, 5), (0, 6), (0, 7), (1, 8), (0, 9)] (by kernel_rfl) ?_
    refine ρn ?_
    refine Jgr (cs := [.int .i64 c.n, .int .i64 c.f, .slice dA c.ds.length dc, .slice pA c.pm.length pc, .slice AA ats.length ac]) (fun w' hg j u hu => (Jqb (hB45.ext hxd) hg (fun e => hb24 e.symm)).at hu) ?_
    refine ρn ?_
    refine nld (Jjg ((hB05.ext hxd).at (i := 4) rfl) n2) ?_
    refine ρn ?_
    refine nld (Jjg ((hB05.ext hxd).at (i := 5) rfl) n2) ?_
    refine ρn ?_
    refine nop ?_
    refine stW (hB25.ext hxd) ?_
    intro W3 hB3 hg3 hx3'
    have hxf : Ext w W3 := hx3' w (hx5.trans hxd) (nL hx1.size hb2)
    have hgg : GrN (fun k => k = b2) w6.drew W3 := GrN.by hg3 fun k hk => by injection hk with hk; exact hk.symm
    refine Jzd (Jqv hgg ?_)
    refine ρn ?_
    refine ρ ?_
    refine Jyb hB3 ⟨hxf, dA, pA, AA, dc, pc, ac, ats.length, ((c.vs.length : Int) == (c.rss.length : Int)), rfl, hD, hP, fun h => ?_, fun hS => by rw [hS.len]; exact beq_self_eq_true _⟩
    have he : c.vs.length = c.rss.length := by have := Jqn h; omega
    have hi' : i = c.vs.length := by omega
    refine ⟨he, ats, by omega, ?_, fun j hj => hmk j (by omega)⟩
    have hN0 : ∀ g, (Value.slice AA ats.length ac).ownBlock = some g → ¬ ((g = b2 ∨ g = b4) ∨ (w0.heap.size ≤ g ∧ g < w.heap.size)) := fun g eg e => by have := (hal2 g eg).1; have := hB44.lt; have := hB24.lt; have := hxw4.size; rcases e with (e | e) | e <;> omega
    intro W hW
    exact (((hG5.ext hxd).gr (hgg.mono fun k _ h => .inl (.inl h)) hN0).gr (hW.mono fun k _ h => .inr h) hN0).gv (by omega)
open Go.RowKit Pl Go.Wk
def MkR(w:World)(c:Cse)(u:Value)(P:Prop): Prop:=∃ (dA pA aA:Option Addr) (dc pc ac an:Nat) (ok:Bool),u=.tuple #[.agg #[.int .i64 c.n,.int .i64 c.f,.slice dA c.ds.length dc,.slice pA c.pm.length pc,.slice aA an ac],.bool ok] /\
 BoolsV w (.slice dA c.ds.length dc) c.ds/\IntsV w (.slice pA c.pm.length pc) c.pm/\(ok=true->c.vs.length=c.rss.length/\∃ ats:List Atm,ats.length=c.vs.length/\GV 3 AtG w (.slice aA an ac) ats/\(∀ i,i<c.vs.length->MkA (ats.getD i a0) (c.vs.getD i []) (c.rss.getD i []))/\(P->Xkh ⟨c.n,c.f,c.ds,c.pm,ats⟩))/\(MkS c->(∀ ats:List Atm,ats.length=c.vs.length->(∀ i,i<c.vs.length->MkA (ats.getD i a0) (c.vs.getD i []) (c.rss.getD i []))->Xkh ⟨c.n,c.f,c.ds,c.pm,ats⟩)->ok=true)
theorem Xwg{w:World}{cs:List Value}{c:Cse}(h:CseV w cs c): Ret Tryz.prog 28 [.agg cs.toArray] w λu w'=>Ext w w'/\MkR w' c u True:=by
 obtain ⟨b9,b8,b6,b5,vA,vc,rA,rc,b3,_,_,_,_,hn,hf⟩:=id h;subst b3;refine Jjc Tryz.func28 Tryz.ntmps28 rfl (by kernel_rfl) rfl ?_;refine ρ ?_;refine bx ?_;intro w1 b Z hb hB;refine ρ ?_;refine alc zInp ?_;intro w2 b2 a5 ag aa;have ay:=hB.ext a5;refine ρ ?_;refine ldW ay ?_;refine ρ ?_;refine cl (Qrc h (Z.trans a5)) ?_;rintro u w3 ⟨a4,dA,pA,aA,dc,pc,ac,an,ok,rfl,hD,hP,ar,ad⟩;refine ρ ?_;refine alc zInp ?_;intro w4 b4 am aw ax;refine ρ ?_;refine stW ax ?_;intro w5 a9 b7 ak;have G:Ext w3 w5:=ak w3 am aw;have a1:=(aa.ext a4).ext G;have ab:=((Z.trans a5).trans a4).trans G;refine ρ ?_;have C:Ext w5 w5.drew:=(Ext.refl w5).drew;have a2:¬ b4=b2:=λe=>by have:=aa.lt;have:=a4.size;omega
 have a3:=ab.trans C;have ai:∀ {W:World},GrN (λk=>k=b2) w5.drew W->Ext w W:=λhg=>hg.old a3 λk O=>by rw [O];exact nL Z.size ag
 have av:=aa.lt;cases ok with
 | true=>
  obtain ⟨af,ats,ah,ae,hmk⟩:=ar rfl;have J:=(ae.ext G).ext C;have hG:=J.here;obtain ⟨ts,A,cc,b1,eA,au,ao,aq,ap⟩:=Jnm hG;refine drN (λk=>k=b2) 10 [(0,0),(0,1),(0,2),(0,3),(1,4),(0,5),(0,6),(1,7),(0,8)] (by kernel_rfl) ?_;refine ρn ?_;refine Jgr (cs:=[.int .i64 c.n,.int .i64 c.f,.slice dA c.ds.length dc,.slice pA c.pm.length pc,.slice aA an ac]) (λw' hg j u hu=>(Jqb (a9.ext C) hg a2).at hu) ?_;refine ρn ?_;refine Jgr (cs:=[.int .i64 c.n,.int .i64 c.f,.slice dA c.ds.length dc,.slice pA c.pm.length pc,.slice aA an ac]) (λw' hg j u hu=>(Jqb (a9.ext C) hg a2).at hu) ?_;refine ρn ?_;refine nop ?_;refine cl (Jgj (inp:=⟨c.n,c.f,c.ds,c.pm,ats⟩) ⟨_,rfl,_,_,_,rfl,hD.ext a3,hP.ext a3,⟨ts,A,cc,b1,eA,au,ao,aq,ap⟩⟩ hn hf) ?_;rintro u w6 ⟨U,e,rfl,he⟩;refine ρ ?_;refine Jqv (GrN.ext U) ?_;refine ρn ?_;refine nop ?_;refine stW ((a1.ext C).ext U) ?_;intro w7 a8 a7 aj;have o:GrN (λk=>k=b2) w6 w7:=GrN.by a7 λk O=>by injection O with O;exact O.symm
  refine Jzd (Jqv o ?_);have i:=ai ((GrN.ext U).trans o);refine ρn ?_;refine ρ ?_;refine Jyb a8 ⟨i,dA,pA,aA,dc,pc,ac,an,_,rfl,hD.ext i,hP.ext i,λh=>⟨af,ats,ah,?_,hmk,λ_=>he.1 (Jqn h)⟩,λ_ hC=>?_⟩;rotate_left
  ·have:=he.2 (hC ats ah hmk);rw [this];rfl
  have a6:=(J.ext U).gr (o.mono λk _ O=>by rw [O];exact ⟨nL Z.size ag,av⟩);exact a6.here
 | false=>
  refine drN (λk=>k=b2) 10 [(0,0),(0,1),(0,2),(0,3),(1,4),(0,5),(0,6),(1,7),(0,8)] (by kernel_rfl) ?_;refine ρn ?_;refine Jgr (cs:=[.int .i64 c.n,.int .i64 c.f,.slice dA c.ds.length dc,.slice pA c.pm.length pc,.slice aA an ac]) (λw' hg j u hu=>(Jqb (a9.ext C) hg a2).at hu) ?_;refine ρn ?_;refine nop ?_;refine stW (a1.ext C) ?_;intro w7 a8 a7 aj;have o:GrN (λk=>k=b2) w5.drew w7:=GrN.by a7 λk O=>by injection O with O;exact O.symm
  refine Jzd (Jqv o ?_);have i:=ai o;refine ρn ?_;refine ρ ?_;exact Jyb a8 ⟨i,dA,pA,aA,dc,pc,ac,an,false,rfl,hD.ext i,hP.ext i,λh=>(by cases h),λhS _=>ad hS⟩
end Go.Proofs.YtefpailelagbkaaGreatDoor
