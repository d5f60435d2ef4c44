/- Part 21. -/
import Derived.Test.YtebcagekopgdhaaGreatDoorB20
set_option linter.unusedVariables false
set_option maxRecDepth 100000
set_option maxHeartbeats 40000000
namespace Go.Proofs.YtebcagekopgdhaaGreatDoor
open Go.RowKit Pl Go.Wk
attribute [local irreducible] WC WL QX WD WDB WP WN
structure ES where
 t: Bool
 z:Row
 p:Nat->Nat
 f:Nat->Nat->Nat
 h:Nat->Nat->Nat
 l:List Row
theorem Jjk{α:Type}(f:Nat->α)(i:Nat): upd f i (f i)=f:=by
 funext k;unfold upd;split
 .rename_i e;rw [e]
 .rfl
set_option maxRecDepth 100000 in
set_option maxHeartbeats 2000000 in
theorem Qhq{c : JC}{Y : List Row → World → Prop}{NY : Nat → Prop}(hok : JOk c)(hY : YC c Y NY)(hcap : ∀ l : List Row, Lt [] l → (∀ x ∈ l, c.Ans x) → l.length ≤ 65536): ∀ (k v : Nat) (z : Row) (p e : Nat → Nat) (f h : Nat → Nat → Nat) (l : List Row) (w : World), v + k = c.n →
    Cfg c Y w z (fun i => lv (c.vars i) v) p e f h l → Pth c v z p e → Lt [] l → (∀ x ∈ l, c.Ans x) → (∀ x ∈ l, ∀ z', c.Ans z' → z'.take v = z.take v → Jw x z' [] < 0) →
    Ret Tryz.prog 205 [.pointer (some ⟨c.J, 0, none⟩), .int .i64 (v : Int)] w (Qzb c Y v z p e f h l w) := by
  intro k
  induction k with
  | zero =>
    intro v z p e f h l w hvk H hP hl hla hls
    have : v = c.n := by omega
    subst this
    exact Qhp hok hY hcap H hP hl hla hls
  | succ k ih =>
  intro v z p e f h l w hvk H hP hl hla hls
  have hv : v < c.n := by omega
  have hvz : v < z.length := by rw [H.zl]; exact hv
  have hn32 := hok.n32
  obtain ⟨B, cc, hja, hat⟩ := H.env.at_
  obtain ⟨B2, cc2, hvat, hlist⟩ := H.env.lists v hv
  have hI32 : (c.I v).length ≤ 32 := nL (c.len_I v) hok.m32
  have hI0 : 0 < (c.I v).length := by
    obtain ⟨i, h1, h2⟩ := hok.cov v hv
    exact List.length_pos_of_mem (JC.mem_I.2 ⟨h1, h2⟩)
  have hI0m : (c.I v).getD 0 0 ∈ c.I v := getD_mem' 0 _ hI0
  have hrv : c.rowv = .slice c.Ra c.n c.n := rfl
  have hNIN : ∀ k, c.NI k → c.N k := hok.sub
  refine Jz Tryz.func205 Tryz.ntmps205 rfl kr rfl ?_
  refine ρ ?_
  obtain ⟨st, hJ⟩ := H.jb
  rw [hrv, hja] at hJ
  refine ld (hJ.at (i := 0) rfl) ?_
  refine ρ ?_
  refine cf ?_ ?_
  . exact Jxk om
  refine ρ ?_
  refine ld (hJ.at (i := 1) rfl) ?_
  refine ρ ?_
  refine ix v hat.here hv ?_
  refine ρ ?_
  have hcv : w.cell? (adr B v) = some (.slice B2 (c.I v).length cc2) := hat.here.cell (by simp [hv, hvat])
  refine ld hcv ?_
  clear hJ hcv
  refine ρ ?_
  refine Jt (fun (q : Nat) (S : LS) => [(0, .pointer (some ⟨c.J, 0, none⟩)), (1, .int .i64 (v : Int)), (5, .slice B2 (c.I v).length cc2), (42, .slice B2 (c.I v).length cc2), (43, .int .i64 ((c.I v).length : Int)), (44, .int .i64 (q : Int))])
    (fun q S w' => q ≤ (c.I v).length ∧ GrN c.N w w' ∧ Cfg c Y w' z S.L S.p S.e S.f S.h l ∧
      (∀ i ∈ (c.I v).take q, S.L i = lv (c.vars i) v + 1 ∧ S.p i < S.e i ∧ S.e i ≤ (pfx (c.F.rs i) (lv (c.vars i) v + 1)).length ∧ (∀ a, a < (pfx (c.F.rs i) (lv (c.vars i) v + 1)).length → (((pfx (c.F.rs i) (lv (c.vars i) v + 1)).getD a []).take (lv (c.vars i) v) = (pmR (c.vars i) z).take (lv (c.vars i) v) ↔ S.p i ≤ a ∧ a < S.e i)) ∧ S.f i = upd (f i) (lv (c.vars i) v) (p i) ∧ S.h i = upd (h i) (lv (c.vars i) v) (e i)) ∧
      (∀ i, i < c.m → i ∉ (c.I v).take q → S.L i = lv (c.vars i) v ∧ S.p i = p i ∧ S.e i = e i ∧ S.f i = f i ∧ S.h i = h i)) (fun q _ => (c.I v).length - q) 0 ⟨fun i => lv (c.vars i) v, p, e, f, h⟩ sB
    ⟨Nat.zero_le _, GrN.refl _ _, H, fun i hi => by simp at hi, fun i _ _ => ⟨rfl, rfl, rfl, rfl, rfl⟩⟩ ?_
  rintro q S w1 ⟨hq, hg1, H1, ha1, hb1⟩
  refine ρ ?_
  refine ci (fun h1 => ?_) (fun h1 => ?_)
  . have lq : q < (c.I v).length := by have := oT h1; omega
    clear h1
    have hR1 := hlist w1 hg1
    refine ρ ?_
    refine ix q hR1 lq ?_
    refine ρ ?_
    refine ld (hR1.cell (Jjs lq)) ?_
    refine ρ ?_
    obtain ⟨i, hi⟩ : ∃ i, i = (c.I v).getD q 0 := ⟨_, rfl⟩
    rw [← hi]
    have him : i ∈ c.I v := by rw [hi]; exact getD_mem' 0 _ lq
    obtain ⟨him1, him2⟩ := JC.mem_I.1 him
    have htk : (c.I v).take (q + 1) = (c.I v).take q ++ [i] := by rw [Qy 0 lq, hi]
    have hnq : i ∉ (c.I v).take q := fun hm => by
      have h1 : ((c.I v).take (q + 1)).Nodup := (c.nodup_I v).sublist (List.take_sublist _ _)
      rw [htk, List.nodup_append] at h1
      exact h1.2.2 _ hm _ (List.mem_singleton.2 rfl) rfl
    obtain ⟨e1, e2, e3, e4, e5⟩ := hb1 i him1 hnq
    obtain ⟨sti, hIi⟩ := H1.its i him1
    rw [e1, e2, e3, e4, e5] at hIi
    have hTi : Off (fun k => k = c.F.G i) w1 (fun u => TriA u (c.F.A i) (c.F.d i) (c.F.rs i)) := (H1.env.tri i him1).mono fun j _ ej => hNIN j (.inr (.inl ⟨i, him1, ej⟩))
    have hbig := hok.big i him1
    refine cl (Qgc hIi hTi (hok.lvd him) (hok.d32 i him1) (hP.rng i him1) (hok.ne i him1) (Ut (hok.srt i him1)) om (hok.len i him1)) ?_
    rintro u w2 ⟨rfl, hg2, lo, hi', h2, h3, h4, hI2⟩
    have H2 := H1.it hok hY him1 hg2 hI2
    refine ρ ?_
    refine Jg (q + 1) (S.upd i (lv (c.vars i) v + 1) lo hi' (upd (f i) (lv (c.vars i) v) (p i)) (upd (h i) (lv (c.vars i) v) (e i))) sO ⟨om, hg1.trans (hg2.mono fun j _ ej => hNIN j (.inr (.inl ⟨i, him1, ej⟩))), H2, fun j hj => ?_, fun j hj hjn => ?_⟩ om
    . rw [htk, List.mem_append, List.mem_singleton] at hj
      by_cases ej : j = i
      . subst ej
        simp only [LS.upd, Jf]
        rw [← hP.path j him1]
        exact ⟨trivial, h2, h3, h4, trivial, trivial⟩
      . simp only [LS.upd, Jy _ _ ej]
        exact ha1 j (hj.resolve_right ej)
    . rw [htk, List.mem_append, List.mem_singleton, not_or] at hjn
      simp only [LS.upd, Jy _ _ hjn.2]
      exact hb1 j hj hjn.1
  have eq : q = (c.I v).length := by have := oF h1; omega
  clear h1
  rw [eq, List.take_of_length_le (Nat.le_refl _)] at ha1 hb1
  have hS : Sib c v z S.p S.e := ⟨fun i hi => ⟨(ha1 i hi).2.1, (ha1 i hi).2.2.1⟩, fun i hi => (ha1 i hi).2.2.2.1⟩
  obtain ⟨lo, hlo⟩ : ∃ lo, lo = S.p := ⟨_, rfl⟩
  have hS' : Sib c v z lo S.e := by rw [hlo]; exact hS
  have hval : ∀ (f' h' : Nat → Nat → Nat), ∀ i ∈ c.I v, ∀ a, c.F.val ⟨S.L, lo, S.e, f', h'⟩ i a = c.vl v i a := fun f' h' i hi a => by
    unfold Fix.val JC.vl; simp only; rw [(ha1 i hi).1, Nat.add_sub_cancel]
  have hOn : ∀ (f' h' : Nat → Nat → Nat), OnS c.F ⟨S.L, lo, S.e, f', h'⟩ (c.I v) := fun f' h' => by
    refine ⟨fun i hi => ?_, fun i hi => ?_, fun i hi a b h1 h2 h3 => ?_, fun i hi j hj e' => hok.inj i j (JC.mem_I.1 hi).1 (JC.mem_I.1 hj).1 e', hI32⟩
    . simp only; rw [(ha1 i hi).1]; exact ⟨om, hok.lvd hi, hok.d32 i (JC.mem_I.1 hi).1⟩
    . simp only; rw [(ha1 i hi).1, Nat.add_sub_cancel, Jql]
      have h1 := (ha1 i hi).2.2.1
      have h2 := Jzx ((c.F.rs i).map (List.take (lv (c.vars i) v + 1)))
      rw [List.length_map] at h2
      have h3 : (pfx (c.F.rs i) (lv (c.vars i) v + 1)).length ≤ (c.F.rs i).length := h2
      have h4 := hok.big i (JC.mem_I.1 hi).1
      exact ⟨h1, by omega⟩
    . rw [hval f' h' i hi, hval f' h' i hi]; exact hS'.srt hok hi h1 h2 h3
  have hNGN : ∀ k, NG c.F (c.I v) c.J k → c.N k := fun k hk => by
    rcases hk with hk | ⟨i, hi, hk⟩
    . exact hNIN k (.inl hk)
    . exact hNIN k (.inr (.inl ⟨i, (JC.mem_I.1 hi).1, hk⟩))
  have hNGI : ∀ k, NG c.F (c.I v) c.J k → c.NI k := fun k hk => by
    rcases hk with hk | ⟨i, hi, hk⟩
    . exact .inl hk
    . exact .inr (.inl ⟨i, (JC.mem_I.1 hi).1, hk⟩)
  have hSL : ∀ i, i < c.m → S.L i = lv (c.vars i) (v + 1) := fun i hi => by
    by_cases him : i ∈ c.I v
    . rw [(ha1 i him).1, (Vd (hok.asc i hi) (JC.mem_I.1 him).2).1]
    . rw [(hb1 i hi him).1, Ih (fun h' => him (JC.mem_I.2 ⟨hi, h'⟩))]
  have he6 : ∀ i ∈ c.I v, S.e i ≤ 1000000 := fun i hi => ((hOn S.f S.h).rng i hi).2
  have hgj : ∀ i ∈ c.I v, c.F.G i ≠ c.J := fun i hi => hok.gj i (JC.mem_I.1 hi).1
  have hlow : ∀ y, c.Ans y → y.take v = z.take v → ∀ i ∈ c.I v, ∃ a, lo i ≤ a ∧ a < S.e i ∧ c.vl v i a = y.getD v V0 := fun y hy ht i hi => hS'.ans hok hy ht hi
  have hcmn : ∀ (f' h' : Nat → Nat → Nat) y, c.Ans y → y.take v = z.take v → Cmn c.F ⟨S.L, lo, S.e, f', h'⟩ (c.I v) (y.getD v V0) := fun f' h' y hy ht i hi => by
    obtain ⟨a, h1, h2, h3⟩ := hlow y hy ht i hi
    exact ⟨a, h1, h2, by rw [hval f' h' i hi]; exact h3⟩
  refine ρ ?_
  refine cl (Jrc (F := c.F) (V' := ⟨S.L, lo, S.e, S.f, S.h⟩) (I := c.I v) (J := c.J) (p := lo) (jr := c.rowv) (ja := c.ja) (yv := c.yv) (B := B2) (c := cc2) (hOn _ _) hI0 (c.nodup_I v) (fun i hi => by rw [hlo]; exact H1.its i (JC.mem_I.1 hi).1) H1.jb hgj (fun i hi => (H1.env.tri i (JC.mem_I.1 hi).1).mono fun k _ hk => hNGN k hk) ((hlist.gr hg1).mono fun k _ hk => hNGN k hk)
    (fun i hi => ⟨Nat.le_refl _, (hS'.lt i hi).1⟩) (fun i hi a h1 h2 => absurd h2 (by simp only at h1; omega))) ?_
  rintro u w2 ⟨hg2, hJ2, p2, t, rfl, hIts2, hp2, ht, hf⟩
  have H2 := H1.mt hok hY hg2 hJ2 (p' := p2) hIts2
  have hv0 : ∀ f' h', c.F.val ⟨S.L, lo, S.e, f', h'⟩ ((c.I v).getD 0 0) (lo ((c.I v).getD 0 0)) = c.vl v ((c.I v).getD 0 0) (lo ((c.I v).getD 0 0)) := fun f' h' => hval f' h' _ hI0m _
  have hlo0 : ∀ y, c.Ans y → y.take v = z.take v → cmpV (c.vl v ((c.I v).getD 0 0) (lo ((c.I v).getD 0 0))) (y.getD v V0) ≤ 0 := fun y hy ht => by
    obtain ⟨a, h1, h2, h3⟩ := hlow y hy ht _ hI0m
    rw [← h3]
    by_cases e : a = lo ((c.I v).getD 0 0)
    . rw [e, Zv]; omega
    . have := hS'.srt hok hI0m (Nat.le_refl _) (show lo ((c.I v).getD 0 0) < a by omega) h2; omega
  refine ρ ?_
  refine Qd (fun (s : ES) => [(0, .pointer (some ⟨c.J, 0, none⟩)), (1, .int .i64 (v : Int)), (5, .slice B2 (c.I v).length cc2), (8, .bool true), (9, .bool s.t)])
    (fun s w' => GrN c.N w w' ∧ Cfg c Y w' s.z S.L s.p S.e s.f s.h s.l ∧ s.z.take v = z.take v ∧ (∀ i, i < c.m → i ∉ c.I v → s.p i = p i) ∧ (∀ i, i < c.m → ∀ k, k < S.L i → s.f i k = S.f i k ∧ s.h i k = S.h i k) ∧ Lt [] s.l ∧ (∀ x ∈ s.l, c.Ans x) ∧
      (s.t = true → ∃ x, (∀ i ∈ c.I v, lo i ≤ s.p i ∧ s.p i < S.e i ∧ c.vl v i (s.p i) = x) ∧ ∀ y, y ∈ s.l ↔ y ∈ l ∨ (c.Ans y ∧ y.take v = z.take v ∧ cmpV (y.getD v V0) x < 0)) ∧
      (s.t = false → ∀ y, y ∈ s.l ↔ y ∈ l ∨ (c.Ans y ∧ y.take v = z.take v))) (fun s => if s.t then S.e ((c.I v).getD 0 0) - s.p ((c.I v).getD 0 0) else 0) ⟨t, z, fun i => if i ∈ c.I v then p2 i else S.p i, S.f, S.h, l⟩ sB
    ⟨hg1.trans (hg2.mono fun k _ hk => hNGN k hk), H2, rfl, fun i hi hin => ?_, fun i hi k hk => ⟨rfl, rfl⟩, hl, hla, fun e => ?_, fun e y => ?_⟩ ?_
  . simp only [if_neg hin]; exact (hb1 i hi hin).2.1
  . obtain ⟨x, hx1, hx2, hx3⟩ := ht e
    refine ⟨x, fun i hi => ?_, fun y => ⟨.inl, fun hy => ?_⟩⟩
    . simp only [if_pos hi]
      refine ⟨(hp2 i hi).1, (hx1 i hi).1, ?_⟩
      rw [← hval S.f S.h i hi]; exact (hx1 i hi).2
    . rcases hy with hy | ⟨h1, h2, h3⟩
      . exact hy
      . exfalso
        have h4 := hx3 _ (hcmn S.f S.h y h1 h2) (by rw [hv0]; exact hlo0 y h1 h2)
        have := cmp_V.anti x (y.getD v V0)
        omega
  . refine ⟨.inl, fun hy => ?_⟩
    rcases hy with hy | ⟨h1, h2⟩
    . exact hy
    . exact absurd (show cmpV _ _ ≤ 0 by rw [hv0]; exact hlo0 y h1 h2) (hf e _ (hcmn S.f S.h y h1 h2))
  clear hIts2 hp2 ht hf H2 hJ2 hg2 H1 hg1
  rintro s w2 ⟨hg2, H2, hz2, hpn, hfh, hls2, hla2, htr, hfa⟩
  refine ρ ?_
  refine ci (fun h1 => ?_) (fun h1 => ?_)
  . obtain ⟨x, hx1, hx2⟩ := htr h1
    have hx0 := hx1 _ hI0m
    have hx01 := hx0.1
    have hx02 := hx0.2.1
    obtain ⟨stj, hJ2⟩ := H2.jb
    rw [hrv] at hJ2
    refine ρ ?_
    refine drN (fun k => c.rowv.ownBlock = some k) 14 [(0, 0), (0, 1), (0, 2), (0, 3), (0, 4), (0, 5), (0, 6), (0, 7), (1, 8), (0, 9), (0, 10), (0, 11), (0, 12), (1, 13)] kr ?_
    have hxd : Ext w2 w2.drew := (Ext.refl w2).drew
    have hJ3 := hJ2.ext hxd
    have H3 := H2.ext hY hxd
    have hB3 := (hlist.gr hg2).ext hxd
    obtain ⟨st0, hI3⟩ := H3.its _ (JC.mem_I.1 hI0m).1
    refine ρn ?_
    refine nld (Jm (hJ3.at (i := 0) rfl) (fun e => H2.rowJ e rfl)) ?_
    refine ρn ?_
    refine nix 0 hB3.here hI0 ?_
    refine ρn ?_
    refine nld (fun w' hg => (hB3 w' (hg.mono fun k _ ek => hNIN k (.inr (.inr ek)))).cell (Jjs hI0)) ?_
    refine ρn ?_
    refine nop ?_
    refine cl (Jdr hI3 (H3.env.tri _ (JC.mem_I.1 hI0m).1).here (by rw [(ha1 _ hI0m).1]; exact hok.lvd hI0m) (hok.d32 _ (JC.mem_I.1 hI0m).1) (fun _ => ((hOn s.f s.h).rng _ hI0m).1)) ?_
    rintro u w4 ⟨hx4, vv, rfl, hvv⟩
    have hvx : vv = x := by
      rw [hvv ⟨by rw [(ha1 _ hI0m).1]; omega, hx0.2.1⟩, ← hx0.2.2, JC.vl, (ha1 _ hI0m).1, Nat.add_sub_cancel]
    subst hvx
    refine ρ ?_
    refine Je (GrN.ext hx4) ?_
    have H4 := H3.ext hY hx4
    have hrow4 : w4.ownsRow c.base 47 3 (.slice c.Ra c.n c.n) c.n (Jl s.z) := by
      have := H4.row
      rw [Zm, H4.zl, hrv] at this; exact this
    refine ρn ?_
    refine Vt 3 v (Rd.own hrow4) hv ?_
    refine ρn ?_
    refine nop ?_
    refine stoE (cs := vv.cells) hrow4 hv ?_ (V.one _)
    intro w5 ho5 hg5
    refine ω5 ?_
    refine Je (GrN.by hg5 fun k ek => ek) ?_
    refine ρn ?_
    have hvz2 : v < s.z.length := by rw [H2.zl]; exact hv
    rw [← Jbx s.z v vv hvz2] at ho5
    have hgo5 : w4.grownBy w5 c.rowv.ownBlock := hg5
    have hg5N : GrN c.NI w4 w5 := GrN.by hgo5 fun k ek => .inr (.inr ek)
    obtain ⟨z2, ez2⟩ : ∃ z2, z2 = s.z.set v vv := ⟨_, rfl⟩
    rw [← ez2] at ho5
    have hz2l : z2.length = c.n := by rw [ez2, List.length_set]; exact H2.zl
    have hz2t : z2.take v = z.take v := by rw [ez2, Qvm]; exact hz2
    have hz2v : z2.getD v V0 = vv := by rw [ez2]; exact Qvp vv hvz2
    have H5 : Cfg c Y w5 z2 S.L s.p S.e s.f s.h s.l := by
      refine ⟨H4.env.gr (hg5N.mono fun k _ hk => hNIN k hk), fun i hi => ?_, by rw [Zm, hz2l, hrv]; exact ho5, hz2l, ?_, hY.keep _ _ _ H4.y hg5N⟩
      . obtain ⟨st, h1⟩ := H4.its i hi
        exact ⟨st, h1.grown hgo5 (fun e => H4.rowG hi e.symm rfl)⟩
      . obtain ⟨st, h1⟩ := H4.jb
        exact ⟨st, h1.grown hgo5 (fun e => H4.rowJ e.symm rfl)⟩
    have hg25 : GrN c.N w2 w5 := (GrN.ext (hxd.trans hx4)).trans (hg5N.mono fun k _ hk => hNIN k hk)
    refine ρ ?_
    have hP2 : Pth c (v + 1) z2 s.p S.e := Pth.step hok hP hS' hvz hx1 hz2t hz2v (fun i hi hin => ⟨hpn i hi hin, (hb1 i hi hin).2.2.1⟩) (fun i _ => rfl)
    have htk : ∀ y : Row, c.Ans y → (y.take (v + 1) = z2.take (v + 1) ↔ y.take v = z.take v ∧ y.getD v V0 = vv) := fun y hy => by
      have hyl : v < y.length := by rw [hy.1]; exact hv
      have hz2l' : v < z2.length := by rw [hz2l]; exact hv
      constructor
      . intro h
        have h5 := Jlk h (Nat.le_succ v)
        refine ⟨h5.trans hz2t, ?_⟩
        rw [← hz2v]; exact Jll h (Nat.lt_succ_self v)
      . rintro ⟨h5, h6⟩
        exact Qwl (h5.trans hz2t.symm) hyl hz2l' (h6.trans hz2v.symm)
    refine cl (ih (v + 1) z2 s.p S.e s.f s.h s.l w5 om (H5.congr fun i hi => ⟨(hSL i hi).symm, rfl, rfl, rfl, rfl⟩) hP2 hls2 hla2 (fun y hy z' hz' ht => ?_)) ?_
    . obtain ⟨h5, h6⟩ := (htk z' hz').1 ht
      rcases (hx2 y).1 hy with h7 | ⟨h7, h8, h9⟩
      . exact hls y h7 z' hz' h5
      . exact Qjk v y z' (h8.trans h5.symm) (by rw [h7.1]; exact hv) (by rw [hz'.1]; exact hv) (by rw [h6]; exact h9)
    rintro u w6 ⟨rfl, hg6, z6, f6, h6, l6, H6, hz6, hfh6, hls6, hl6⟩
    have H6' : Cfg c Y w6 z6 S.L s.p S.e f6 h6 l6 := H6.congr fun i hi => ⟨hSL i hi, rfl, rfl, rfl, rfl⟩
    have hz6t : z6.take v = z.take v := (Jlk hz6 (Nat.le_succ v)).trans hz2t
    have hla6 : ∀ y ∈ l6, c.Ans y := fun y hy => by
      rcases (hl6 y).1 hy with h7 | h7
      . exact hla2 y h7
      . exact h7.1
    have hl6' : ∀ y, y ∈ l6 ↔ y ∈ l ∨ (c.Ans y ∧ y.take v = z.take v ∧ cmpV (y.getD v V0) vv ≤ 0) := fun y => by
      rw [hl6, hx2]
      constructor
      . rintro ((h7 | ⟨h7, h8, h9⟩) | ⟨h7, h8⟩)
        . exact .inl h7
        . exact .inr ⟨h7, h8, by omega⟩
        . obtain ⟨h9, h10⟩ := (htk y h7).1 h8
          exact .inr ⟨h7, h9, by rw [h10, Zv]; omega⟩
      . rintro (h7 | ⟨h7, h8, h9⟩)
        . exact .inl (.inl h7)
        . by_cases e : cmpV (y.getD v V0) vv = 0
          . exact .inr ⟨h7, (htk y h7).2 ⟨h8, cmp_V.zero _ _ e⟩⟩
          . exact .inl (.inr ⟨h7, h8, by omega⟩)
    have hfh7 : ∀ i, i < c.m → ∀ k, k < S.L i → f6 i k = S.f i k ∧ h6 i k = S.h i k := fun i hi k hk => by
      have h7 := hfh6 i hi k (by rw [← hSL i hi]; exact hk)
      have h8 := hfh i hi k hk
      exact ⟨h7.1.trans h8.1, h7.2.trans h8.2⟩
    refine ρ ?_
    obtain ⟨st6, hI6⟩ := H6'.its _ (JC.mem_I.1 hI0m).1
    have hB6 := hlist.gr (hg2.trans (hg25.trans hg6))
    refine ix 0 hB6.here hI0 ?_
    refine ρ ?_
    refine ld (hB6.here.cell (Jjs hI0)) ?_
    refine ρ ?_
    refine cl (Qgd hI6 (by rw [(ha1 _ hI0m).1]; omega) hx0.2.1 (he6 _ hI0m)) ?_
    rintro u w7 ⟨rfl, hg7, hI7⟩
    have hg7N : GrN c.N w6 w7 := hg7.mono fun k _ ek => hNIN k (.inr (.inl ⟨_, (JC.mem_I.1 hI0m).1, ek⟩))
    have H7 := H6'.it hok hY (JC.mem_I.1 hI0m).1 hg7 hI7
    have H7' : Cfg c Y w7 z6 S.L (upd s.p ((c.I v).getD 0 0) (s.p ((c.I v).getD 0 0) + 1)) S.e f6 h6 l6 := by
      rw [Jjk, Jjk, Jjk, Jjk] at H7; exact H7
    obtain ⟨p7, ep7⟩ : ∃ p7, p7 = upd s.p ((c.I v).getD 0 0) (s.p ((c.I v).getD 0 0) + 1) := ⟨_, rfl⟩
    rw [← ep7] at H7'
    have p7a : p7 ((c.I v).getD 0 0) = s.p ((c.I v).getD 0 0) + 1 := by rw [ep7, Jf]
    have p7n : ∀ i, i ≠ (c.I v).getD 0 0 → p7 i = s.p i := fun i hi => by rw [ep7, Jy _ _ hi]
    have hgw7 : GrN c.N w w7 := (hg2.trans hg25).trans (hg6.trans hg7N)
    have hafter : ∀ y, c.Ans y → y.take v = z.take v → ¬ cmpV (y.getD v V0) vv ≤ 0 → ∃ a, s.p ((c.I v).getD 0 0) + 1 ≤ a ∧ a < S.e ((c.I v).getD 0 0) ∧ c.vl v ((c.I v).getD 0 0) a = y.getD v V0 := fun y hy ht hgt => by
      obtain ⟨a, h7, h8, h9⟩ := hlow y hy ht _ hI0m
      refine ⟨a, ?_, h8, h9⟩
      rcases Nat.lt_trichotomy a (s.p ((c.I v).getD 0 0)) with h10 | h10 | h10
      . have := hS'.srt hok hI0m h7 h10 hx0.2.1
        rw [hx0.2.2, h9] at this; omega
      . rw [h10, hx0.2.2] at h9
        rw [← h9, Zv] at hgt; omega
      . omega
    refine ρ ?_
    refine ki 59 (fun h5 => ?_) (fun h5 => ?_)
    . have hlt : s.p ((c.I v).getD 0 0) + 1 < S.e ((c.I v).getD 0 0) := oT h5
      clear h5
      have hnx : cmpV vv (c.vl v ((c.I v).getD 0 0) (s.p ((c.I v).getD 0 0) + 1)) < 0 := by
        have := hS'.srt hok hI0m hx0.1 (Nat.lt_succ_self _) hlt
        rw [hx0.2.2] at this; exact this
      have hv7 : c.F.val ⟨S.L, lo, S.e, f6, h6⟩ ((c.I v).getD 0 0) (p7 ((c.I v).getD 0 0)) = c.vl v ((c.I v).getD 0 0) (s.p ((c.I v).getD 0 0) + 1) := by rw [p7a]; exact hval f6 h6 _ hI0m _
      refine ρ ?_
      refine cl (Jrc (F := c.F) (V' := ⟨S.L, lo, S.e, f6, h6⟩) (I := c.I v) (J := c.J) (p := p7) (jr := c.rowv) (ja := c.ja) (yv := c.yv) (B := B2) (c := cc2) (hOn _ _) hI0 (c.nodup_I v) (fun i hi => H7'.its i (JC.mem_I.1 hi).1) H7'.jb hgj (fun i hi => (H7'.env.tri i (JC.mem_I.1 hi).1).mono fun k _ hk => hNGN k hk) ((hlist.gr hgw7).mono fun k _ hk => hNGN k hk)
        (fun i hi => ?_) (fun i hi a h7 h8 => ?_)) ?_
      . have h9 := hx1 i hi
        by_cases e : i = (c.I v).getD 0 0
        . rw [e, p7a]; simp only; omega
        . rw [p7n i e]; simp only; omega
      . rw [hv7, hval f6 h6 i hi]
        have h9 := hx1 i hi
        simp only at h7
        by_cases e : i = (c.I v).getD 0 0
        . rw [e] at h7 h8 ⊢
          rw [p7a] at h8
          exact hS'.srt hok hI0m h7 h8 hlt
        . rw [p7n i e] at h8
          have h10 := hS'.srt hok hi h7 h8 h9.2.1
          rw [h9.2.2] at h10
          exact cmp_V.lt_trans h10 hnx
      rintro u w8 ⟨hg8, hJ8, p8, t8, rfl, hIts8, hp8, ht8, hf8⟩
      have H8 := H7'.mt hok hY hg8 hJ8 (p' := p8) hIts8
      rw [hv7] at ht8 hf8
      refine ρ ?_
      have hmeas : t8 = true → s.p ((c.I v).getD 0 0) < p8 ((c.I v).getD 0 0) ∧ p8 ((c.I v).getD 0 0) < S.e ((c.I v).getD 0 0) := fun e => by
        obtain ⟨x', h7, h8, h9⟩ := ht8 e
        have h10 := h7 _ hI0m
        rw [hval f6 h6 _ hI0m] at h10
        refine ⟨?_, h10.1⟩
        rcases Nat.lt_or_ge (s.p ((c.I v).getD 0 0)) (p8 ((c.I v).getD 0 0)) with h11 | h11
        . exact h11
        . exfalso
          have h12 := (hp8 _ hI0m).1
          simp only at h12
          have h13 : cmpV x' (c.vl v ((c.I v).getD 0 0) (s.p ((c.I v).getD 0 0) + 1)) < 0 := by
            rw [← h10.2]; exact hS'.srt hok hI0m h12 om hlt
          have := cmp_V.anti x' (c.vl v ((c.I v).getD 0 0) (s.p ((c.I v).getD 0 0) + 1))
          omega
      refine Qw ⟨t8, z6, fun i => if i ∈ c.I v then p8 i else p7 i, f6, h6, l6⟩ sB
        ⟨hgw7.trans (hg8.mono fun k _ hk => hNGN k hk), H8, hz6t, fun i hi hin => ?_, hfh7, hls6, hla6, fun e => ?_, fun e y => ?_⟩ ?_
      . simp only [if_neg hin]
        rw [p7n i (fun e => hin (e ▸ hI0m))]; exact hpn i hi hin
      . obtain ⟨x', h7, h8, h9⟩ := ht8 e
        refine ⟨x', fun i hi => ?_, fun y => ?_⟩
        . simp only [if_pos hi]
          refine ⟨(hp8 i hi).1, (h7 i hi).1, ?_⟩
          rw [← hval f6 h6 i hi]; exact (h7 i hi).2
        . rw [hl6']
          have hxx : cmpV vv x' < 0 := cmp_V.lt_le hnx h8
          constructor
          . rintro (h10 | ⟨h10, h11, h12⟩)
            . exact .inl h10
            . exact .inr ⟨h10, h11, cmp_V.le_lt h12 hxx⟩
          . rintro (h10 | ⟨h10, h11, h12⟩)
            . exact .inl h10
            . refine .inr ⟨h10, h11, Classical.byContradiction fun hgt => ?_⟩
              obtain ⟨a, h13, h14, h15⟩ := hafter y h10 h11 hgt
              have h16 : cmpV (c.vl v ((c.I v).getD 0 0) (s.p ((c.I v).getD 0 0) + 1)) (y.getD v V0) ≤ 0 := by
                rw [← h15]
                by_cases e : a = s.p ((c.I v).getD 0 0) + 1
                . rw [e, Zv]; omega
                . have := hS'.srt hok hI0m (show lo ((c.I v).getD 0 0) ≤ s.p ((c.I v).getD 0 0) + 1 by omega) (show s.p ((c.I v).getD 0 0) + 1 < a by omega) h14; omega
              have h17 := h9 _ (hcmn f6 h6 y h10 h11) h16
              have := cmp_V.anti x' (y.getD v V0)
              omega
      . rw [hl6']
        constructor
        . rintro (h10 | ⟨h10, h11, h12⟩)
          . exact .inl h10
          . exact .inr ⟨h10, h11⟩
        . rintro (h10 | ⟨h10, h11⟩)
          . exact .inl h10
          . refine .inr ⟨h10, h11, Classical.byContradiction fun hgt => ?_⟩
            obtain ⟨a, h13, h14, h15⟩ := hafter y h10 h11 hgt
            refine hf8 e _ (hcmn f6 h6 y h10 h11) ?_
            rw [← h15]
            by_cases e : a = s.p ((c.I v).getD 0 0) + 1
            . rw [e, Zv]; omega
            . have := hS'.srt hok hI0m (show lo ((c.I v).getD 0 0) ≤ s.p ((c.I v).getD 0 0) + 1 by omega) (show s.p ((c.I v).getD 0 0) + 1 < a by omega) h14; omega
      . simp only [h1, if_true, if_pos hI0m]
        by_cases e : t8 = true
        . have := hmeas e
          rw [if_pos e]; omega
        . rw [if_neg e]; omega
    . have hge : ¬ s.p ((c.I v).getD 0 0) + 1 < S.e ((c.I v).getD 0 0) := oF h5
      clear h5
      refine ρ ?_
      refine Qw ⟨false, z6, p7, f6, h6, l6⟩ sB
        ⟨hgw7, H7', hz6t, fun i hi hin => ?_, hfh7, hls6, hla6, fun e => (by cases e), fun _ y => ?_⟩ ?_
      . simp only
        rw [p7n i (fun e => hin (e ▸ hI0m))]; exact hpn i hi hin
      . rw [hl6']
        constructor
        . rintro (h10 | ⟨h10, h11, h12⟩)
          . exact .inl h10
          . exact .inr ⟨h10, h11⟩
        . rintro (h10 | ⟨h10, h11⟩)
          . exact .inl h10
          . refine .inr ⟨h10, h11, Classical.byContradiction fun hgt => ?_⟩
            obtain ⟨a, h13, h14, h15⟩ := hafter y h10 h11 hgt
            omega
      . simp only [h1, if_true, Bool.false_eq_true, if_false]; omega
  . have hfin := hfa h1
    clear htr hfa
    refine ρ ?_
    refine Jt (fun (q : Nat) (R : LS) => [(0, .pointer (some ⟨c.J, 0, none⟩)), (1, .int .i64 (v : Int)), (8, .bool true), (83, .slice B2 (c.I v).length cc2), (84, .int .i64 ((c.I v).length : Int)), (85, .int .i64 (q : Int))])
      (fun q R w' => q ≤ (c.I v).length ∧ GrN c.N w w' ∧ Cfg c Y w' s.z R.L R.p R.e s.f s.h s.l ∧
        (∀ i ∈ (c.I v).take q, R.L i = lv (c.vars i) v ∧ R.p i = p i ∧ R.e i = e i) ∧
        (∀ i, i < c.m → i ∉ (c.I v).take q → R.L i = S.L i ∧ R.p i = s.p i ∧ R.e i = S.e i)) (fun q _ => (c.I v).length - q) 0 ⟨S.L, s.p, S.e, s.f, s.h⟩ sB
      ⟨Nat.zero_le _, hg2, H2, fun i hi => by simp at hi, fun i _ _ => ⟨rfl, rfl, rfl⟩⟩ ?_
    rintro q R w3 ⟨hq, hg3, H3, ha3, hb3⟩
    refine ρ ?_
    refine ci (fun h2 => ?_) (fun h2 => ?_)
    . have lq : q < (c.I v).length := by have := oT h2; omega
      clear h2
      have hR3 := hlist w3 hg3
      refine ρ ?_
      refine ix q hR3 lq ?_
      refine ρ ?_
      refine ld (hR3.cell (Jjs lq)) ?_
      refine ρ ?_
      obtain ⟨i, hi⟩ : ∃ i, i = (c.I v).getD q 0 := ⟨_, rfl⟩
      rw [← hi]
      have him : i ∈ c.I v := by rw [hi]; exact getD_mem' 0 _ lq
      obtain ⟨him1, him2⟩ := JC.mem_I.1 him
      have htk : (c.I v).take (q + 1) = (c.I v).take q ++ [i] := by rw [Qy 0 lq, hi]
      have hnq : i ∉ (c.I v).take q := fun hm => by
        have h1 : ((c.I v).take (q + 1)).Nodup := (c.nodup_I v).sublist (List.take_sublist _ _)
        rw [htk, List.nodup_append] at h1
        exact h1.2.2 _ hm _ (List.mem_singleton.2 rfl) rfl
      obtain ⟨e1, e2, e3⟩ := hb3 i him1 hnq
      obtain ⟨sti, hIi⟩ := H3.its i him1
      rw [e1, (ha1 i him).1] at hIi
      have hdl := hok.lvd him
      have hd32 := hok.d32 i him1
      refine cl (Qfx hIi om) ?_
      rintro u w4 ⟨hg4, hI4⟩
      have hfk := hfh i him1 (lv (c.vars i) v) (by rw [(ha1 i him).1]; omega)
      have hsf : S.f i (lv (c.vars i) v) = p i := by rw [(ha1 i him).2.2.2.2.1, Jf]
      have hsh : S.h i (lv (c.vars i) v) = e i := by rw [(ha1 i him).2.2.2.2.2, Jf]
      rw [hfk.1, hfk.2, hsf, hsh] at hI4
      have H4 := H3.it hok hY him1 hg4 hI4
      have H4' : Cfg c Y w4 s.z (upd R.L i (lv (c.vars i) v)) (upd R.p i (p i)) (upd R.e i (e i)) s.f s.h s.l := by
        rw [Jjk, Jjk] at H4; exact H4
      refine ρ ?_
      refine Jg (q + 1) ⟨upd R.L i (lv (c.vars i) v), upd R.p i (p i), upd R.e i (e i), s.f, s.h⟩ sO ⟨om, hg3.trans (hg4.mono fun j _ ej => hNIN j (.inr (.inl ⟨i, him1, ej⟩))), H4', fun j hj => ?_, fun j hj hjn => ?_⟩ om
      . rw [htk, List.mem_append, List.mem_singleton] at hj
        by_cases ej : j = i
        . subst ej; simp only [Jf]; exact ⟨trivial, trivial, trivial⟩
        . simp only [Jy _ _ ej]; exact ha3 j (hj.resolve_right ej)
      . rw [htk, List.mem_append, List.mem_singleton, not_or] at hjn
        simp only [Jy _ _ hjn.2]
        exact hb3 j hj hjn.1
    . have eq : q = (c.I v).length := by have := oF h2; omega
      rw [eq, List.take_of_length_le (Nat.le_refl _)] at ha3 hb3
      have H5 : Cfg c Y w3 s.z (fun i => lv (c.vars i) v) p e s.f s.h s.l := H3.congr fun i hi => by
        by_cases him : i ∈ c.I v
        . have := ha3 i him
          exact ⟨this.1.symm, this.2.1.symm, this.2.2.symm, rfl, rfl⟩
        . have h5 := hb3 i hi him
          have h6 := hb1 i hi him
          exact ⟨(h5.1.trans h6.1).symm, (h5.2.1.trans (hpn i hi him)).symm, (h5.2.2.trans h6.2.2.1).symm, rfl, rfl⟩
      refine ρ ?_
      refine Jj ⟨rfl, hg3, s.z, s.f, s.h, s.l, H5, hz2, fun i hi k hk => ?_, hls2, hfin⟩
      have h5 := hfh i hi k (by rw [hSL i hi]; have := Jrh (c.vars i) v; by_cases him : i ∈ c.I v
                                . rw [(Vd (hok.asc i hi) (JC.mem_I.1 him).2).1]; omega
                                . rw [Ih (fun h' => him (JC.mem_I.2 ⟨hi, h'⟩))]; exact hk)
      by_cases him : i ∈ c.I v
      . obtain ⟨_, _, _, _, h8, h9⟩ := ha1 i him
        rw [h5.1, h5.2, h8, h9, Jy _ _ om, Jy _ _ om]; exact ⟨rfl, rfl⟩
      . obtain ⟨_, _, _, h8, h9⟩ := hb1 i hi him
        rw [h5.1, h5.2, h8, h9]; exact ⟨rfl, rfl⟩
end Go.Proofs.YtebcagekopgdhaaGreatDoor
