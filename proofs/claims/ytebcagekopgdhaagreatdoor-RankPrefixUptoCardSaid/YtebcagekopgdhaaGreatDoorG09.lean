/- Part 9. -/
import Derived.Test.YtebcagekopgdhaaGreatDoorG08
set_option linter.unusedVariables false
set_option maxRecDepth 100000
set_option maxHeartbeats 40000000
namespace Go.Proofs.YtebcagekopgdhaaGreatDoor
open Go.RowKit Pl Go.Wk
attribute [local irreducible] WC WL QX WD WDB WP WN
structure ES where
 t: Bool
 z:Row
 p:Nat->Nat
 f:Nat->Nat->Nat
 h:Nat->Nat->Nat
 l:List Row
theorem Jqj{α:Type}(f:Nat->α)(i:Nat): upd f i (f i)=f:=by
 funext k;unfold upd;split
 .rename_i e;rw [e]
 .rfl
set_option maxRecDepth 100000 in
set_option maxHeartbeats 2000000 in
theorem Qnr{c : JC}{Y : List Row → World → Prop}{NY : Nat → Prop}(hok : JOk c)(hY : YC c Y NY)(hcap : ∀ l : List Row, Lt [] l → (∀ x ∈ l, c.Ans x) → l.length ≤ 65536): ∀ (k v : Nat) (z : Row) (p e : Nat → Nat) (f h : Nat → Nat → Nat) (l : List Row) (w : World), v + k = c.n →
    Cfg c Y w z (fun i => lv (c.vars i) v) p e f h l → Pth c v z p e → Lt [] l → (∀ x ∈ l, c.Ans x) → (∀ x ∈ l, ∀ z', c.Ans z' → z'.take v = z.take v → Jw x z' [] < 0) →
    Ret Tryz.prog 205 [.pointer (some ⟨c.J, 0, none⟩), .int .i64 (v : Int)] w (Qws c Y v z p e f h l w) := by
  intro k
  induction k with
  | zero =>
    intro v z p e f h l w hvk H hP hl hla hls
    have : v = c.n := by omega
    subst this
    exact Qnq hok hY hcap H hP hl hla hls
  | succ k ih =>
  intro v z p e f h l w hvk H hP hl hla hls
  have hv : v < c.n := by omega
  have hvz : v < z.length := by rw [H.zl]; exact hv
  have hn32 := hok.n32
  obtain ⟨B, cc, hja, hat⟩ := H.env.at_
  obtain ⟨B2, cc2, hvat, hlist⟩ := H.env.lists v hv
  have hI32 : (c.I v).length ≤ 32 := nL (c.len_I v) hok.m32
  have hI0 : 0 < (c.I v).length := by
    obtain ⟨i, h1, h2⟩ := hok.cov v hv
    exact List.length_pos_of_mem (JC.mem_I.2 ⟨h1, h2⟩)
  have hI0m : (c.I v).getD 0 0 ∈ c.I v := getD_mem' 0 _ hI0
  have hrv : c.rowv = .slice c.Ra c.n c.n := rfl
  have hNIN : ∀ k, c.NI k → c.N k := hok.sub
  refine Jz Tryz.func205 Tryz.ntmps205 rfl kr rfl ?_
  refine ρ ?_
  obtain ⟨st, hJ⟩ := H.jb
  rw [hrv, hja] at hJ
  refine ld (hJ.at (i := 0) rfl) ?_
  refine ρ ?_
  refine cf ?_ ?_
  . exact Jzl om
  refine ρ ?_
  refine ld (hJ.at (i := 1) rfl) ?_
  refine ρ ?_
  refine ix v hat.here hv ?_
  refine ρ ?_
  have hcv : w.cell? (adr B v) = some (.slice B2 (c.I v).length cc2) := hat.here.cell (by simp [hv, hvat])
  refine ld hcv ?_
  clear hJ hcv
  refine ρ ?_
  refine Je (fun (q : Nat) (S : LS) => [(0, .pointer (some ⟨c.J, 0, none⟩)), (1, .int .i64 (v : Int)), (5, .slice B2 (c.I v).length cc2), (42, .slice B2 (c.I v).length cc2), (43, .int .i64 ((c.I v).length : Int)), (44, .int .i64 (q : Int))])
    (fun q S w' => q ≤ (c.I v).length ∧ GrN c.N w w' ∧ Cfg c Y w' z S.L S.p S.e S.f S.h l ∧
      (∀ i ∈ (c.I v).take q, S.L i = lv (c.vars i) v + 1 ∧ S.p i < S.e i ∧ S.e i ≤ (pfx (c.F.rs i) (lv (c.vars i) v + 1)).length ∧ (∀ a, a < (pfx (c.F.rs i) (lv (c.vars i) v + 1)).length → (((pfx (c.F.rs i) (lv (c.vars i) v + 1)).getD a []).take (lv (c.vars i) v) = (pmR (c.vars i) z).take (lv (c.vars i) v) ↔ S.p i ≤ a ∧ a < S.e i)) ∧ S.f i = upd (f i) (lv (c.vars i) v) (p i) ∧ S.h i = upd (h i) (lv (c.vars i) v) (e i)) ∧
      (∀ i, i < c.m → i ∉ (c.I v).take q → S.L i = lv (c.vars i) v ∧ S.p i = p i ∧ S.e i = e i ∧ S.f i = f i ∧ S.h i = h i)) (fun q _ => (c.I v).length - q) 0 ⟨fun i => lv (c.vars i) v, p, e, f, h⟩ sB
    ⟨Nat.zero_le _, GrN.refl _ _, H, fun i hi => by simp at hi, fun i _ _ => ⟨rfl, rfl, rfl, rfl, rfl⟩⟩ ?_
  rintro q S w1 ⟨hq, hg1, H1, ha1, hb1⟩
  refine ρ ?_
  refine ci (fun h1 => ?_) (fun h1 => ?_)
  . have lq : q < (c.I v).length := by have := oT h1; omega
    clear h1
    have hR1 := hlist w1 hg1
    refine ρ ?_
    refine ix q hR1 lq ?_
    refine ρ ?_
    refine ld (hR1.cell (Jqs lq)) ?_
    refine ρ ?_
    obtain ⟨i, hi⟩ : ∃ i, i = (c.I v).getD q 0 := ⟨_, rfl⟩
    rw [← hi]
    have him : i ∈ c.I v := by rw [hi]; exact getD_mem' 0 _ lq
    obtain ⟨him1, him2⟩ := JC.mem_I.1 him
    have htk : (c.I v).take (q + 1) = (c.I v).take q ++ [i] := by rw [Qb 0 lq, hi]
    have hnq : i ∉ (c.I v).take q := fun hm => by
      have h1 : ((c.I v).take (q + 1)).Nodup := (c.nodup_I v).sublist (List.take_sublist _ _)
      rw [htk, List.nodup_append] at h1
      exact h1.2.2 _ hm _ (List.mem_singleton.2 rfl) rfl
    obtain ⟨e1, e2, e3, e4, e5⟩ := hb1 i him1 hnq
    obtain ⟨sti, hIi⟩ := H1.its i him1
    rw [e1, e2, e3, e4, e5] at hIi
    have hTi : Off (fun k => k = c.F.G i) w1 (fun u => TriA u (c.F.A i) (c.F.d i) (c.F.rs i)) := (H1.env.tri i him1).mono fun j _ ej => hNIN j (.inr (.inl ⟨i, him1, ej⟩))
    have hbig := hok.big i him1
    refine cl (Qmc hIi hTi (hok.lvd him) (hok.d32 i him1) (hP.rng i him1) (hok.ne i him1) (Uu (hok.srt i him1)) om (hok.len i him1)) ?_
    rintro u w2 ⟨rfl, hg2, lo, hi', h2, h3, h4, hI2⟩
    have H2 := H1.it hok hY him1 hg2 hI2
    refine ρ ?_
    refine Jl (q + 1) (S.upd i (lv (c.vars i) v + 1) lo hi' (upd (f i) (lv (c.vars i) v) (p i)) (upd (h i) (lv (c.vars i) v) (e i))) sO ⟨om, hg1.trans (hg2.mono fun j _ ej => hNIN j (.inr (.inl ⟨i, him1, ej⟩))), H2, fun j hj => ?_, fun j hj hjn => ?_⟩ om
    . rw [htk, List.mem_append, List.mem_singleton] at hj
      by_cases ej : j = i
      . subst ej
        simp only [LS.upd, Jh]
        rw [← hP.path j him1]
        exact ⟨trivial, h2, h3, h4, trivial, trivial⟩
      . simp only [LS.upd, Jc _ _ ej]
        exact ha1 j (hj.resolve_right ej)
    . rw [htk, List.mem_append, List.mem_singleton, not_or] at hjn
      simp only [LS.upd, Jc _ _ hjn.2]
      exact hb1 j hj hjn.1
  have eq : q = (c.I v).length := by have := oF h1; omega
  clear h1
  rw [eq, List.take_of_length_le (Nat.le_refl _)] at ha1 hb1
  have hS : Sib c v z S.p S.e := ⟨fun i hi => ⟨(ha1 i hi).2.1, (ha1 i hi).2.2.1⟩, fun i hi => (ha1 i hi).2.2.2.1⟩
  obtain ⟨lo, hlo⟩ : ∃ lo, lo = S.p := ⟨_, rfl⟩
  have hS' : Sib c v z lo S.e := by rw [hlo]; exact hS
  have hval : ∀ (f' h' : Nat → Nat → Nat), ∀ i ∈ c.I v, ∀ a, c.F.val ⟨S.L, lo, S.e, f', h'⟩ i a = c.vl v i a := fun f' h' i hi a => by
    unfold Fix.val JC.vl; simp only; rw [(ha1 i hi).1, Nat.add_sub_cancel]
  have hOn : ∀ (f' h' : Nat → Nat → Nat), OnS c.F ⟨S.L, lo, S.e, f', h'⟩ (c.I v) := fun f' h' => by
    refine ⟨fun i hi => ?_, fun i hi => ?_, fun i hi a b h1 h2 h3 => ?_, fun i hi j hj e' => hok.inj i j (JC.mem_I.1 hi).1 (JC.mem_I.1 hj).1 e', hI32⟩
    . simp only; rw [(ha1 i hi).1]; exact ⟨om, hok.lvd hi, hok.d32 i (JC.mem_I.1 hi).1⟩
    . simp only; rw [(ha1 i hi).1, Nat.add_sub_cancel, Jxl]
      have h1 := (ha1 i hi).2.2.1
      have h2 := Jwg ((c.F.rs i).map (List.take (lv (c.vars i) v + 1)))
      rw [List.length_map] at h2
      have h3 : (pfx (c.F.rs i) (lv (c.vars i) v + 1)).length ≤ (c.F.rs i).length := h2
      have h4 := hok.big i (JC.mem_I.1 hi).1
      exact ⟨h1, by omega⟩
    . rw [hval f' h' i hi, hval f' h' i hi]; exact hS'.srt hok hi h1 h2 h3
  have hNGN : ∀ k, NG c.F (c.I v) c.J k → c.N k := fun k hk => by
    rcases hk with hk | ⟨i, hi, hk⟩
    . exact hNIN k (.inl hk)
    . exact hNIN k (.inr (.inl ⟨i, (JC.mem_I.1 hi).1, hk⟩))
  have hNGI : ∀ k, NG c.F (c.I v) c.J k → c.NI k := fun k hk => by
    rcases hk with hk | ⟨i, hi, hk⟩
    . exact .inl hk
    . exact .inr (.inl ⟨i, (JC.mem_I.1 hi).1, hk⟩)
  have hSL : ∀ i, i < c.m → S.L i = lv (c.vars i) (v + 1) := fun i hi => by
    by_cases him : i ∈ c.I v
    . rw [(ha1 i him).1, (Vs (hok.asc i hi) (JC.mem_I.1 him).2).1]
    . rw [(hb1 i hi him).1, Jjl (fun h' => him (JC.mem_I.2 ⟨hi, h'⟩))]
  have he6 : ∀ i ∈ c.I v, S.e i ≤ 1000000 := fun i hi => ((hOn S.f S.h).rng i hi).2
  have hgj : ∀ i ∈ c.I v, c.F.G i ≠ c.J := fun i hi => hok.gj i (JC.mem_I.1 hi).1
  have hlow : ∀ y, c.Ans y → y.take v = z.take v → ∀ i ∈ c.I v, ∃ a, lo i ≤ a ∧ a < S.e i ∧ c.vl v i a = y.getD v V0 := fun y hy ht i hi => hS'.ans hok hy ht hi
  have hcmn : ∀ (f' h' : Nat → Nat → Nat) y, c.Ans y → y.take v = z.take v → Cmn c.F ⟨S.L, lo, S.e, f', h'⟩ (c.I v) (y.getD v V0) := fun f' h' y hy ht i hi => by
    obtain ⟨a, h1, h2, h3⟩ := hlow y hy ht i hi
    exact ⟨a, h1, h2, by rw [hval f' h' i hi]; exact h3⟩
  refine ρ ?_
  refine cl (Jtp (F := c.F) (V' := ⟨S.L, lo, S.e, S.f, S.h⟩) (I := c.I v) (J := c.J) (p := lo) (jr := c.rowv) (ja := c.ja) (yv := c.yv) (B := B2) (c := cc2) (hOn _ _) hI0 (c.nodup_I v) (fun i hi => by rw [hlo]; exact H1.its i (JC.mem_I.1 hi).1) H1.jb hgj (fun i hi => (H1.env.tri i (JC.mem_I.1 hi).1).mono fun k _ hk => hNGN k hk) ((hlist.gr hg1).mono fun k _ hk => hNGN k hk)
    (fun i hi => ⟨Nat.le_refl _, (hS'.lt i hi).1⟩) (fun i hi a h1 h2 => absurd h2 (by simp only at h1; omega))) ?_
  rintro u w2 ⟨hg2, hJ2, p2, t, rfl, hIts2, hp2, ht, hf⟩
  have H2 := H1.mt hok hY hg2 hJ2 (p' := p2) hIts2
  have hv0 : ∀ f' h', c.F.val ⟨S.L, lo, S.e, f', h'⟩ ((c.I v).getD 0 0) (lo ((c.I v).getD 0 0)) = c.vl v ((c.I v).getD 0 0) (lo ((c.I v).getD 0 0)) := fun f' h' => hval f' h' _ hI0m _
  have hlo0 : ∀ y, c.Ans y → y.take v = z.take v → cmpV (c.vl v ((c.I v).getD 0 0) (lo ((c.I v).getD 0 0))) (y.getD v V0) ≤ 0 := fun y hy ht => by
    obtain ⟨a, h1, h2, h3⟩ := hlow y hy ht _ hI0m
    rw [← h3]
    by_cases e : a = lo ((c.I v).getD 0 0)
    . rw [e, Xe]; omega
    . have := hS'.srt hok hI0m (Nat.le_refl _) (show lo ((c.I v).getD 0 0) < a by omega) h2; omega
  refine ρ ?_
  refine Qh (fun (s : ES) => [(0, .pointer (some ⟨c.J, 0, none⟩)), (1, .int .i64 (v : Int)), (5, .slice B2 (c.I v).length cc2), (8, .bool true), (9, .bool s.t)])
    (fun s w' => GrN c.N w w' ∧ Cfg c Y w' s.z S.L s.p S.e s.f s.h s.l ∧ s.z.take v = z.take v ∧ (∀ i, i < c.m → i ∉ c.I v → s.p i = p i) ∧ (∀ i, i < c.m → ∀ k, k < S.L i → s.f i k = S.f i k ∧ s.h i k = S.h i k) ∧ Lt [] s.l ∧ (∀ x ∈ s.l, c.Ans x) ∧
      (s.t = true → ∃ x, (∀ i ∈ c.I v, lo i ≤ s.p i ∧ s.p i < S.e i ∧ c.vl v i (s.p i) = x) ∧ ∀ y, y ∈ s.l ↔ y ∈ l ∨ (c.Ans y ∧ y.take v = z.take v ∧ cmpV (y.getD v V0) x < 0)) ∧
      (s.t = false → ∀ y, y ∈ s.l ↔ y ∈ l ∨ (c.Ans y ∧ y.take v = z.take v))) (fun s => if s.t then S.e ((c.I v).getD 0 0) - s.p ((c.I v).getD 0 0) else 0) ⟨t, z, fun i => if i ∈ c.I v then p2 i else S.p i, S.f, S.h, l⟩ sB
    ⟨hg1.trans (hg2.mono fun k _ hk => hNGN k hk), H2, rfl, fun i hi hin => ?_, fun i hi k hk => ⟨rfl, rfl⟩, hl, hla, fun e => ?_, fun e y => ?_⟩ ?_
  . simp only [if_neg hin]; exact (hb1 i hi hin).2.1
  . obtain ⟨x, hx1, hx2, hx3⟩ := ht e
    refine ⟨x, fun i hi => ?_, fun y => ⟨.inl, fun hy => ?_⟩⟩
    . simp only [if_pos hi]
      refine ⟨(hp2 i hi).1, (hx1 i hi).1, ?_⟩
      rw [← hval S.f S.h i hi]; exact (hx1 i hi).2
    . rcases hy with hy | ⟨h1, h2, h3⟩
      . exact hy
      . exfalso
        have h4 := hx3 _ (hcmn S.f S.h y h1 h2) (by rw [hv0]; exact hlo0 y h1 h2)
        have := cmp_V.anti x (y.getD v V0)
        omega
  . refine ⟨.inl, fun hy => ?_⟩
    rcases hy with hy | ⟨h1, h2⟩
    . exact hy
    . exact absurd (show cmpV _ _ ≤ 0 by rw [hv0]; exact hlo0 y h1 h2) (hf e _ (hcmn S.f S.h y h1 h2))
  clear hIts2 hp2 ht hf H2 hJ2 hg2 H1 hg1
  rintro s w2 ⟨hg2, H2, hz2, hpn, hfh, hls2, hla2, htr, hfa⟩
  refine ρ ?_
  refine ci (fun h1 => ?_) (fun h1 => ?_)
  . obtain ⟨x, hx1, hx2⟩ := htr h1
    have hx0 := hx1 _ hI0m
    have hx01 := hx0.1
    have hx02 := hx0.2.1
    obtain ⟨stj, hJ2⟩ := H2.jb
    rw [hrv] at hJ2
    refine ρ ?_
    refine drN (fun k => c.rowv.ownBlock = some k) 14 [(0, 0), (0, 1), (0, 2), (0, 3), (0, 4), (0, 5), (0, 6), (0, 7), (1, 8), (0, 9), (0, 10), (0, 11), (0, 12), (1, 13)] kr ?_
    have hxd : Ext w2 w2.drew := (Ext.refl w2).drew
    have hJ3 := hJ2.ext hxd
    have H3 := H2.ext hY hxd
    have hB3 := (hlist.gr hg2).ext hxd
    obtain ⟨st0, hI3⟩ := H3.its _ (JC.mem_I.1 hI0m).1
    refine ρn ?_
    refine nld (Jp (hJ3.at (i := 0) rfl) (fun e => H2.rowJ e rfl)) ?_
    refine ρn ?_
    refine nix 0 hB3.here hI0 ?_
    refine ρn ?_
    refine nld (fun w' hg => (hB3 w' (hg.mono fun k _ ek => hNIN k (.inr (.inr ek)))).cell (Jqs hI0)) ?_
    refine ρn ?_
    refine nop ?_
    refine cl (Jgq hI3 (H3.env.tri _ (JC.mem_I.1 hI0m).1).here (by rw [(ha1 _ hI0m).1]; exact hok.lvd hI0m) (hok.d32 _ (JC.mem_I.1 hI0m).1) (fun _ => ((hOn s.f s.h).rng _ hI0m).1)) ?_
    rintro u w4 ⟨hx4, vv, rfl, hvv⟩
    have hvx : vv = x := by
      rw [hvv ⟨by rw [(ha1 _ hI0m).1]; omega, hx0.2.1⟩, ← hx0.2.2, JC.vl, (ha1 _ hI0m).1, Nat.add_sub_cancel]
    subst hvx
    refine ρ ?_
    refine Jb (GrN.ext hx4) ?_
    have H4 := H3.ext hY hx4
    have hrow4 : w4.ownsRow c.base 47 3 (.slice c.Ra c.n c.n) c.n (Jm s.z) := by
      have := H4.row
      rw [Zs, H4.zl, hrv] at this; exact this
    refine ρn ?_
    refine Yk 3 v (Rd.own hrow4) hv ?_
    refine ρn ?_
    refine nop ?_
    refine stoE (cs := vv.cells) hrow4 hv ?_ (V.one _)
    intro w5 ho5 hg5
    refine ω5 ?_
    refine Jb (GrN.by hg5 fun k ek => ek) ?_
    refine ρn ?_
    have hvz2 : v < s.z.length := by rw [H2.zl]; exact hv
    rw [← Jdt s.z v vv hvz2] at ho5
    have hgo5 : w4.grownBy w5 c.rowv.ownBlock := hg5
    have hg5N : GrN c.NI w4 w5 := GrN.by hgo5 fun k ek => .inr (.inr ek)
    obtain ⟨z2, ez2⟩ : ∃ z2, z2 = s.z.set v vv := ⟨_, rfl⟩
    rw [← ez2] at ho5
    have hz2l : z2.length = c.n := by rw [ez2, List.length_set]; exact H2.zl
    have hz2t : z2.take v = z.take v := by rw [ez2, Qcj]; exact hz2
    have hz2v : z2.getD v V0 = vv := by rw [ez2]; exact Qcl vv hvz2
    have H5 : Cfg c Y w5 z2 S.L s.p S.e s.f s.h s.l := by
      refine ⟨H4.env.gr (hg5N.mono fun k _ hk => hNIN k hk), fun i hi => ?_, by rw [Zs, hz2l, hrv]; exact ho5, hz2l, ?_, hY.keep _ _ _ H4.y hg5N⟩
      . obtain ⟨st, h1⟩ := H4.its i hi
        exact ⟨st, h1.grown hgo5 (fun e => H4.rowG hi e.symm rfl)⟩
      . obtain ⟨st, h1⟩ := H4.jb
        exact ⟨st, h1.grown hgo5 (fun e => H4.rowJ e.symm rfl)⟩
    have hg25 : GrN c.N w2 w5 := (GrN.ext (hxd.trans hx4)).trans (hg5N.mono fun k _ hk => hNIN k hk)
    refine ρ ?_
    have hP2 : Pth c (v + 1) z2 s.p S.e := Pth.step hok hP hS' hvz hx1 hz2t hz2v (fun i hi hin => ⟨hpn i hi hin, (hb1 i hi hin).2.2.1⟩) (fun i _ => rfl)
    have htk : ∀ y : Row, c.Ans y → (y.take (v + 1) = z2.take (v + 1) ↔ y.take v = z.take v ∧ y.getD v V0 = vv) := fun y hy => by
      have hyl : v < y.length := by rw [hy.1]; exact hv
      have hz2l' : v < z2.length := by rw [hz2l]; exact hv
      constructor
      . intro h
        have h5 := Jnp h (Nat.le_succ v)
        refine ⟨h5.trans hz2t, ?_⟩
        rw [← hz2v]; exact Jnq h (Nat.lt_succ_self v)
      . rintro ⟨h5, h6⟩
        exact Qbh (h5.trans hz2t.symm) hyl hz2l' (h6.trans hz2v.symm)
    refine cl (ih (v + 1) z2 s.p S.e s.f s.h s.l w5 om (H5.congr fun i hi => ⟨(hSL i hi).symm, rfl, rfl, rfl, rfl⟩) hP2 hls2 hla2 (fun y hy z' hz' ht => ?_)) ?_
    . obtain ⟨h5, h6⟩ := (htk z' hz').1 ht
      rcases (hx2 y).1 hy with h7 | ⟨h7, h8, h9⟩
      . exact hls y h7 z' hz' h5
      . exact Qzb v y z' (h8.trans h5.symm) (by rw [h7.1]; exact hv) (by rw [hz'.1]; exact hv) (by rw [h6]; exact h9)
    rintro u w6 ⟨rfl, hg6, z6, f6, h6, l6, H6, hz6, hfh6, hls6, hl6⟩
    have H6' : Cfg c Y w6 z6 S.L s.p S.e f6 h6 l6 := H6.congr fun i hi => ⟨hSL i hi, rfl, rfl, rfl, rfl⟩
    have hz6t : z6.take v = z.take v := (Jnp hz6 (Nat.le_succ v)).trans hz2t
    have hla6 : ∀ y ∈ l6, c.Ans y := fun y hy => by
      rcases (hl6 y).1 hy with h7 | h7
      . exact hla2 y h7
      . exact h7.1
    have hl6' : ∀ y, y ∈ l6 ↔ y ∈ l ∨ (c.Ans y ∧ y.take v = z.take v ∧ cmpV (y.getD v V0) vv ≤ 0) := fun y => by
      rw [hl6, hx2]
      constructor
      . rintro ((h7 | ⟨h7, h8, h9⟩) | ⟨h7, h8⟩)
        . exact .inl h7
        . exact .inr ⟨h7, h8, by omega⟩
        . obtain ⟨h9, h10⟩ := (htk y h7).1 h8
          exact .inr ⟨h7, h9, by rw [h10, Xe]; omega⟩
      . rintro (h7 | ⟨h7, h8, h9⟩)
        . exact .inl (.inl h7)
        . by_cases e : cmpV (y.getD v V0) vv = 0
          . exact .inr ⟨h7, (htk y h7).2 ⟨h8, cmp_V.zero _ _ e⟩⟩
          . exact .inl (.inr ⟨h7, h8, by omega⟩)
    have hfh7 : ∀ i, i < c.m → ∀ k, k < S.L i → f6 i k = S.f i k ∧ h6 i k = S.h i k := fun i hi k hk => by
      have h7 := hfh6 i hi k (by rw [← hSL i hi]; exact hk)
      have h8 := hfh i hi k hk
      exact ⟨h7.1.trans h8.1, h7.2.trans h8.2⟩
    refine ρ ?_
    obtain ⟨st6, hI6⟩ := H6'.its _ (JC.mem_I.1 hI0m).1
    have hB6 := hlist.gr (hg2.trans (hg25.trans hg6))
    refine ix 0 hB6.here hI0 ?_
    refine ρ ?_
    refine ld (hB6.here.cell (Jqs hI0)) ?_
    refine ρ ?_
    refine cl (Qmd hI6 (by rw [(ha1 _ hI0m).1]; omega) hx0.2.1 (he6 _ hI0m)) ?_
    rintro u w7 ⟨rfl, hg7, hI7⟩
    have hg7N : GrN c.N w6 w7 := hg7.mono fun k _ ek => hNIN k (.inr (.inl ⟨_, (JC.mem_I.1 hI0m).1, ek⟩))
    have H7 := H6'.it hok hY (JC.mem_I.1 hI0m).1 hg7 hI7
    have H7' : Cfg c Y w7 z6 S.L (upd s.p ((c.I v).getD 0 0) (s.p ((c.I v).getD 0 0) + 1)) S.e f6 h6 l6 := by
      rw [Jqj, Jqj, Jqj, Jqj] at H7; exact H7
    obtain ⟨p7, ep7⟩ : ∃ p7, p7 = upd s.p ((c.I v).getD 0 0) (s.p ((c.I v).getD 0 0) + 1) := ⟨_, rfl⟩
    rw [← ep7] at H7'
    have p7a : p7 ((c.I v).getD 0 0) = s.p ((c.I v).getD 0 0) + 1 := by rw [ep7, Jh]
    have p7n : ∀ i, i ≠ (c.I v).getD 0 0 → p7 i = s.p i := fun i hi => by rw [ep7, Jc _ _ hi]
    have hgw7 : GrN c.N w w7 := (hg2.trans hg25).trans (hg6.trans hg7N)
    have hafter : ∀ y, c.Ans y → y.take v = z.take v → ¬ cmpV (y.getD v V0) vv ≤ 0 → ∃ a, s.p ((c.I v).getD 0 0) + 1 ≤ a ∧ a < S.e ((c.I v).getD 0 0) ∧ c.vl v ((c.I v).getD 0 0) a = y.getD v V0 := fun y hy ht hgt => by
      obtain ⟨a, h7, h8, h9⟩ := hlow y hy ht _ hI0m
      refine ⟨a, ?_, h8, h9⟩
      rcases Nat.lt_trichotomy a (s.p ((c.I v).getD 0 0)) with h10 | h10 | h10
      . have := hS'.srt hok hI0m h7 h10 hx0.2.1
        rw [hx0.2.2, h9] at this; omega
      . rw [h10, hx0.2.2] at h9
        rw [← h9, Xe] at hgt; omega
      . omega
    refine ρ ?_
    refine ki 59 (fun h5 => ?_) (fun h5 => ?_)
    . have hlt : s.p ((c.I v).getD 0 0) + 1 < S.e ((c.I v).getD 0 0) := oT h5
      clear h5
      have hnx : cmpV vv (c.vl v ((c.I v).getD 0 0) (s.p ((c.I v).getD 0 0) + 1)) < 0 := by
        have := hS'.srt hok hI0m hx0.1 (Nat.lt_succ_self _) hlt
        rw [hx0.2.2] at this; exact this
      have hv7 : c.F.val ⟨S.L, lo, S.e, f6, h6⟩ ((c.I v).getD 0 0) (p7 ((c.I v).getD 0 0)) = c.vl v ((c.I v).getD 0 0) (s.p ((c.I v).getD 0 0) + 1) := by rw [p7a]; exact hval f6 h6 _ hI0m _
      refine ρ ?_
      refine cl (Jtp (F := c.F) (V' := ⟨S.L, lo, S.e, f6, h6⟩) (I := c.I v) (J := c.J) (p := p7) (jr := c.rowv) (ja := c.ja) (yv := c.yv) (B := B2) (c := cc2) (hOn _ _) hI0 (c.nodup_I v) (fun i hi => H7'.its i (JC.mem_I.1 hi).1) H7'.jb hgj (fun i hi => (H7'.env.tri i (JC.mem_I.1 hi).1).mono fun k _ hk => hNGN k hk) ((hlist.gr hgw7).mono fun k _ hk => hNGN k hk)
        (fun i hi => ?_) (fun i hi a h7 h8 => ?_)) ?_
      . have h9 := hx1 i hi
        by_cases e : i = (c.I v).getD 0 0
        . rw [e, p7a]; simp only; omega
        . rw [p7n i e]; simp only; omega
      . rw [hv7, hval f6 h6 i hi]
        have h9 := hx1 i hi
        simp only at h7
        by_cases e : i = (c.I v).getD 0 0
        . rw [e] at h7 h8 ⊢
          rw [p7a] at h8
          exact hS'.srt hok hI0m h7 h8 hlt
        . rw [p7n i e] at h8
          have h10 := hS'.srt hok hi h7 h8 h9.2.1
          rw [h9.2.2] at h10
          exact cmp_V.lt_trans h10 hnx
      rintro u w8 ⟨hg8, hJ8, p8, t8, rfl, hIts8, hp8, ht8, hf8⟩
      have H8 := H7'.mt hok hY hg8 hJ8 (p' := p8) hIts8
      rw [hv7] at ht8 hf8
      refine ρ ?_
      have hmeas : t8 = true → s.p ((c.I v).getD 0 0) < p8 ((c.I v).getD 0 0) ∧ p8 ((c.I v).getD 0 0) < S.e ((c.I v).getD 0 0) := fun e => by
        obtain ⟨x', h7, h8, h9⟩ := ht8 e
        have h10 := h7 _ hI0m
        rw [hval f6 h6 _ hI0m] at h10
        refine ⟨?_, h10.1⟩
        rcases Nat.lt_or_ge (s.p ((c.I v).getD 0 0)) (p8 ((c.I v).getD 0 0)) with h11 | h11
        . exact h11
        . exfalso
          have h12 := (hp8 _ hI0m).1
          simp only at h12
          have h13 : cmpV x' (c.vl v ((c.I v).getD 0 0) (s.p ((c.I v).getD 0 0) + 1)) < 0 := by
            rw [← h10.2]; exact hS'.srt hok hI0m h12 om hlt
          have := cmp_V.anti x' (c.vl v ((c.I v).getD 0 0) (s.p ((c.I v).getD 0 0) + 1))
          omega
      refine Qv ⟨t8, z6, fun i => if i ∈ c.I v then p8 i else p7 i, f6, h6, l6⟩ sB
        ⟨hgw7.trans (hg8.mono fun k _ hk => hNGN k hk), H8, hz6t, fun i hi hin => ?_, hfh7, hls6, hla6, fun e => ?_, fun e y => ?_⟩ ?_
      . simp only [if_neg hin]
        rw [p7n i (fun e => hin (e ▸ hI0m))]; exact hpn i hi hin
      . obtain ⟨x', h7, h8, h9⟩ := ht8 e
        refine ⟨x', fun i hi => ?_, fun y => ?_⟩
        . simp only [if_pos hi]
          refine ⟨(hp8 i hi).1, (h7 i hi).1, ?_⟩
          rw [← hval f6 h6 i hi]; exact (h7 i hi).2
        . rw [hl6']
          have hxx : cmpV vv x' < 0 := cmp_V.lt_le hnx h8
          constructor
          . rintro (h10 | ⟨h10, h11, h12⟩)
            . exact .inl h10
            . exact .inr ⟨h10, h11, cmp_V.le_lt h12 hxx⟩
          . rintro (h10 | ⟨h10, h11, h12⟩)
            . exact .inl h10
            . refine .inr ⟨h10, h11, Classical.byContradiction fun hgt => ?_⟩
              obtain ⟨a, h13, h14, h15⟩ := hafter y h10 h11 hgt
              have h16 : cmpV (c.vl v ((c.I v).getD 0 0) (s.p ((c.I v).getD 0 0) + 1)) (y.getD v V0) ≤ 0 := by
                rw [← h15]
                by_cases e : a = s.p ((c.I v).getD 0 0) + 1
                . rw [e, Xe]; omega
                . have := hS'.srt hok hI0m (show lo ((c.I v).getD 0 0) ≤ s.p ((c.I v).getD 0 0) + 1 by omega) (show s.p ((c.I v).getD 0 0) + 1 < a by omega) h14; omega
              have h17 := h9 _ (hcmn f6 h6 y h10 h11) h16
              have := cmp_V.anti x' (y.getD v V0)
              omega
      . rw [hl6']
        constructor
        . rintro (h10 | ⟨h10, h11, h12⟩)
          . exact .inl h10
          . exact .inr ⟨h10, h11⟩
        . rintro (h10 | ⟨h10, h11⟩)
          . exact .inl h10
          . refine .inr ⟨h10, h11, Classical.byContradiction fun hgt => ?_⟩
            obtain ⟨a, h13, h14, h15⟩ := hafter y h10 h11 hgt
            refine hf8 e _ (hcmn f6 h6 y h10 h11) ?_
            rw [← h15]
            by_cases e : a = s.p ((c.I v).getD 0 0) + 1
            . rw [e, Xe]; omega
            . have := hS'.srt hok hI0m (show lo ((c.I v).getD 0 0) ≤ s.p ((c.I v).getD 0 0) + 1 by omega) (show s.p ((c.I v).getD 0 0) + 1 < a by omega) h14; omega
      . simp only [h1, if_true, if_pos hI0m]
        by_cases e : t8 = true
        . have := hmeas e
          rw [if_pos e]; omega
        . rw [if_neg e]; omega
    . have hge : ¬ s.p ((c.I v).getD 0 0) + 1 < S.e ((c.I v).getD 0 0) := oF h5
      clear h5
      refine ρ ?_
      refine Qv ⟨false, z6, p7, f6, h6, l6⟩ sB
        ⟨hgw7, H7', hz6t, fun i hi hin => ?_, hfh7, hls6, hla6, fun e => (by cases e), fun _ y => ?_⟩ ?_
      . simp only
        rw [p7n i (fun e => hin (e ▸ hI0m))]; exact hpn i hi hin
      . rw [hl6']
        constructor
        . rintro (h10 | ⟨h10, h11, h12⟩)
          . exact .inl h10
          . exact .inr ⟨h10, h11⟩
        . rintro (h10 | ⟨h10, h11⟩)
          . exact .inl h10
          . refine .inr ⟨h10, h11, Classical.byContradiction fun hgt => ?_⟩
            obtain ⟨a, h13, h14, h15⟩ := hafter y h10 h11 hgt
            omega
      . simp only [h1, if_true, Bool.false_eq_true, if_false]; omega
  . have hfin := hfa h1
    clear htr hfa
    refine ρ ?_
    refine Je (fun (q : Nat) (R : LS) => [(0, .pointer (some ⟨c.J, 0, none⟩)), (1, .int .i64 (v : Int)), (8, .bool true), (83, .slice B2 (c.I v).length cc2), (84, .int .i64 ((c.I v).length : Int)), (85, .int .i64 (q : Int))])
      (fun q R w' => q ≤ (c.I v).length ∧ GrN c.N w w' ∧ Cfg c Y w' s.z R.L R.p R.e s.f s.h s.l ∧
        (∀ i ∈ (c.I v).take q, R.L i = lv (c.vars i) v ∧ R.p i = p i ∧ R.e i = e i) ∧
        (∀ i, i < c.m → i ∉ (c.I v).take q → R.L i = S.L i ∧ R.p i = s.p i ∧ R.e i = S.e i)) (fun q _ => (c.I v).length - q) 0 ⟨S.L, s.p, S.e, s.f, s.h⟩ sB
      ⟨Nat.zero_le _, hg2, H2, fun i hi => by simp at hi, fun i _ _ => ⟨rfl, rfl, rfl⟩⟩ ?_
    rintro q R w3 ⟨hq, hg3, H3, ha3, hb3⟩
    refine ρ ?_
    refine ci (fun h2 => ?_) (fun h2 => ?_)
    . have lq : q < (c.I v).length := by have := oT h2; omega
      clear h2
      have hR3 := hlist w3 hg3
      refine ρ ?_
      refine ix q hR3 lq ?_
      refine ρ ?_
      refine ld (hR3.cell (Jqs lq)) ?_
      refine ρ ?_
      obtain ⟨i, hi⟩ : ∃ i, i = (c.I v).getD q 0 := ⟨_, rfl⟩
      rw [← hi]
      have him : i ∈ c.I v := by rw [hi]; exact getD_mem' 0 _ lq
      obtain ⟨him1, him2⟩ := JC.mem_I.1 him
      have htk : (c.I v).take (q + 1) = (c.I v).take q ++ [i] := by rw [Qb 0 lq, hi]
      have hnq : i ∉ (c.I v).take q := fun hm => by
        have h1 : ((c.I v).take (q + 1)).Nodup := (c.nodup_I v).sublist (List.take_sublist _ _)
        rw [htk, List.nodup_append] at h1
        exact h1.2.2 _ hm _ (List.mem_singleton.2 rfl) rfl
      obtain ⟨e1, e2, e3⟩ := hb3 i him1 hnq
      obtain ⟨sti, hIi⟩ := H3.its i him1
      rw [e1, (ha1 i him).1] at hIi
      have hdl := hok.lvd him
      have hd32 := hok.d32 i him1
      refine cl (Qlx hIi om) ?_
      rintro u w4 ⟨hg4, hI4⟩
      have hfk := hfh i him1 (lv (c.vars i) v) (by rw [(ha1 i him).1]; omega)
      have hsf : S.f i (lv (c.vars i) v) = p i := by rw [(ha1 i him).2.2.2.2.1, Jh]
      have hsh : S.h i (lv (c.vars i) v) = e i := by rw [(ha1 i him).2.2.2.2.2, Jh]
      rw [hfk.1, hfk.2, hsf, hsh] at hI4
      have H4 := H3.it hok hY him1 hg4 hI4
      have H4' : Cfg c Y w4 s.z (upd R.L i (lv (c.vars i) v)) (upd R.p i (p i)) (upd R.e i (e i)) s.f s.h s.l := by
        rw [Jqj, Jqj] at H4; exact H4
      refine ρ ?_
      refine Jl (q + 1) ⟨upd R.L i (lv (c.vars i) v), upd R.p i (p i), upd R.e i (e i), s.f, s.h⟩ sO ⟨om, hg3.trans (hg4.mono fun j _ ej => hNIN j (.inr (.inl ⟨i, him1, ej⟩))), H4', fun j hj => ?_, fun j hj hjn => ?_⟩ om
      . rw [htk, List.mem_append, List.mem_singleton] at hj
        by_cases ej : j = i
        . subst ej; simp only [Jh]; exact ⟨trivial, trivial, trivial⟩
        . simp only [Jc _ _ ej]; exact ha3 j (hj.resolve_right ej)
      . rw [htk, List.mem_append, List.mem_singleton, not_or] at hjn
        simp only [Jc _ _ hjn.2]
        exact hb3 j hj hjn.1
    . have eq : q = (c.I v).length := by have := oF h2; omega
      rw [eq, List.take_of_length_le (Nat.le_refl _)] at ha3 hb3
      have H5 : Cfg c Y w3 s.z (fun i => lv (c.vars i) v) p e s.f s.h s.l := H3.congr fun i hi => by
        by_cases him : i ∈ c.I v
        . have := ha3 i him
          exact ⟨this.1.symm, this.2.1.symm, this.2.2.symm, rfl, rfl⟩
        . have h5 := hb3 i hi him
          have h6 := hb1 i hi him
          exact ⟨(h5.1.trans h6.1).symm, (h5.2.1.trans (hpn i hi him)).symm, (h5.2.2.trans h6.2.2.1).symm, rfl, rfl⟩
      refine ρ ?_
      refine Jq ⟨rfl, hg3, s.z, s.f, s.h, s.l, H5, hz2, fun i hi k hk => ?_, hls2, hfin⟩
      have h5 := hfh i hi k (by rw [hSL i hi]; have := Jtt (c.vars i) v; by_cases him : i ∈ c.I v
                                . rw [(Vs (hok.asc i hi) (JC.mem_I.1 him).2).1]; omega
                                . rw [Jjl (fun h' => him (JC.mem_I.2 ⟨hi, h'⟩))]; exact hk)
      by_cases him : i ∈ c.I v
      . obtain ⟨_, _, _, _, h8, h9⟩ := ha1 i him
        rw [h5.1, h5.2, h8, h9, Jc _ _ om, Jc _ _ om]; exact ⟨rfl, rfl⟩
      . obtain ⟨_, _, _, h8, h9⟩ := hb1 i hi him
        rw [h5.1, h5.2, h8, h9]; exact ⟨rfl, rfl⟩
open Go.RowKit Pl Go.Wk
variable {g j k v:Nat}{p v4 va':Value}{w1 w2 w4:World}
theorem EIt: ElT Tryz.prog 282 288 1 8 (.pointer none):=⟨Tryz.underlying282,info_parts kr,rfl,by decide⟩
theorem EIts: ElT Tryz.prog 279 282 1 24 (.slice none 0 0):=⟨Tryz.underlying279,info_parts kr,rfl,by decide⟩
theorem Qzq(p:Option Addr)(w:World): (Instr.buildSlice 282 1 #[(0,.pointer p)]).run Tryz.prog w=.ok (.slice (some ⟨w.heap.size,0,none⟩) 1 1) (w.alloc (.cells [.pointer p].toArray 288)):=kr
theorem Qsr(A B:Option Addr)(n:Nat)(fid:FuncId)(first cap:Array Value)(w:World): (Instr.build 281 #[(0,.slice A n n),(1,.slice B n n),(3,.func (.func fid) first cap)]).run Tryz.prog w=.ok (.agg #[.slice A n n,.slice B n n,.int .i64 0,.func (.func fid) first cap]) w:=kr
structure RK where
 n: Nat
 vars:Nat->List Nat
 rs:Nat->List Row
 base:Nat
 J:Nat
 Ra:Option Addr
 Ba:Option Addr
 yv:Value
structure RS where
 G: Nat->Nat
 A:Nat->Option Addr
 lo:Nat->Nat
 hi:Nat->Nat
 va:Value
 vat:Nat->Value
def OB(K:RK)(S:RS)(k:Nat): Prop:=k=K.J∨(Value.slice K.Ra K.n K.n).ownBlock=some k∨(Value.slice K.Ba K.n K.n).ownBlock=some k∨S.va.ownBlock=some k∨∃ v,v<K.n/\(S.vat v).ownBlock=some k
structure RB(K:RK)(q:Nat)(S:RS)(cont:Nat->List Value)(alls:List Value)(w:World): Prop where
 jb:Blk w K.J 281 [.slice K.Ra K.n K.n,.slice K.Ba K.n K.n,.int .i64 0,K.yv]
 row:Zs w K.base (.slice K.Ra K.n K.n) (List.replicate K.n V0)
 at_:w.ownsRow K.base 282 1 (.slice K.Ba K.n K.n) K.n ((List.range K.n).map S.vat)
 lists:Fam w K.base 288 1 K.n S.vat (λv=>(cont v).length) cont
 all:w.ownsRow K.base 288 1 S.va alls.length alls
 alld:∀ v g,v<K.n->(S.vat v).ownBlock=some g->S.va.ownBlock≠some g
 its:∀ j,j<q->ItB w (S.G j) (S.A j) (K.vars j).length 0 0 0 (λ_=>0) (λ_=>0) 0
 tri:∀ j,j<q->Off (λk=>k<S.lo j∨S.hi j<=k) w (λu=>TriA u (S.A j) (K.vars j).length (K.rs j))
 iv:∀ j k,j<q->OB K S k->k<S.lo j∨S.hi j<=k
 gi:∀ i j,i<q->j<q->S.G i<S.lo j∨S.hi j<=S.G i
 ginj:∀ i j,i<j->j<q->S.G i<S.G j
 jlo:∀ j,j<q->K.J<S.lo j/\S.hi j<=w.heap.size
 jg:∀ j,j<q->K.J<S.G j
 bj:K.base<=K.J
section
variable {K:RK} {q:Nat} {S:RS} {cont:Nat->List Value} {alls:List Value} {w w':World}
theorem RB.ext(H:RB K q S cont alls w)(hx:Ext w w'): RB K q S cont alls w' :=
 ⟨H.jb.ext hx,Jk H.row hx,Jk H.at_ hx,H.lists.ext hx,Jk H.all hx,H.alld,λj o=>(H.its j o).ext hx,λj o=>(H.tri j o).ext hx,H.iv,H.gi,H.ginj,λj o=>⟨(H.jlo j o).1,Nat.le_trans (H.jlo j o).2 hx.size⟩,H.jg,H.bj⟩
theorem RB.oblt(H:RB K q S cont alls w)(h:OB K S k): k<w.heap.size:=by
 have o:∀ {base e sz m:Nat} {v:Value} {xs:List Value},w.ownsRow base e sz v m xs->∀ g,v.ownBlock=some g->g<w.heap.size:=λu g G=>by
  obtain ⟨_,_,_,_,C⟩:=Jy u;exact (C g G).2
 rcases h with h|h|h|h|⟨v,hv,h⟩
 .rw [h];exact H.jb.lt
 .exact o H.row k h
 .exact o H.at_ k h
 .exact o H.all k h
 .exact o (H.lists.own v hv) k h
theorem RB.iter(H:RB K q S cont alls w){A:Option Addr}(hx1:Ext w w1)(hT:Off (λk=>k<w.heap.size) w1 (λu=>TriA u A (K.vars q).length (K.rs q)))(hx2:Ext w1 w2)(hg:w1.heap.size<=g)(hI:ItB w2 g A (K.vars q).length 0 0 0 (λ_=>0) (λ_=>0) 0):
  RB K (q+1) { S with G:=upd S.G q g,A:=upd S.A q A,lo:=upd S.lo q w.heap.size,hi:=upd S.hi q w1.heap.size } cont alls w2:=by
 have O:=H.ext (hx1.trans hx2);have a3:=hI.lt;have J:∀ {j},j<q->j≠q:=λh e=>by omega
 have C:∀ {j},j<q+1->j<q∨j=q:=λh=>by omega
 have a2:=hx1.size;have a1:=hx2.size;refine ⟨O.jb,O.row,O.at_,O.lists,O.all,O.alld,λj o=>?_,λj o=>?_,λj k o hk=>?_,λi j hi o=>?_,λi j U o=>?_,λj o=>?_,λj o=>?_,O.bj⟩
 .rcases C o with o|rfl
  .simp only [Jc _ _ (J o)];exact O.its j o
  .simp only [Jh];exact hI
 .rcases C o with o|rfl
  .simp only [Jc _ _ (J o)];exact O.tri j o
  .simp only [Jh];exact (hT.mono λk hk h=>by
    rcases h with h|h
    .exact h
    .omega).ext hx2
 .have Z:OB K S k:=hk;rcases C o with o|rfl
  .simp only [Jc _ _ (J o)];exact H.iv j k o Z
  .simp only [Jh];exact .inl (H.oblt Z)
 .rcases C o with o|rfl
  .simp only [Jc _ _ (J o)];have h5:=(H.jlo j o).2;rcases C hi with hi|rfl
   .simp only [Jc _ _ (J hi)];exact H.gi i j hi o
   .simp only [Jh];exact .inr om
  .simp only [Jh];rcases C hi with hi|rfl
   .simp only [Jc _ _ (J hi)];exact .inl (H.its i hi).lt
   .simp only [Jh];exact .inr hg
 .rcases C o with o|rfl
  .simp only [Jc _ _ (J o),Jc _ _ (J (show i<q by omega))];exact H.ginj i j U o
  .simp only [Jh,Jc _ _ (J U)];have:=(H.its i U).lt;omega
 .rcases C o with o|rfl
  .simp only [Jc _ _ (J o)];exact O.jlo j o
  .simp only [Jh];exact ⟨H.jb.lt,a1⟩
 .rcases C o with o|rfl
  .simp only [Jc _ _ (J o)];exact O.jg j o
  .simp only [Jh];have:=H.jb.lt;omega
theorem RB.trig(H:RB K q S cont alls w){N:Nat->Prop}(hg:GrN N w w')(hN:∀ k,k<w.heap.size->N k->OB K S k)(hj:j<q): Off (λk=>k<S.lo j∨S.hi j<=k) w' (λu=>TriA u (S.A j) (K.vars j).length (K.rs j)) :=
 (H.tri j hj).gr (hg.mono λk o h=>H.iv j k hj (hN k o h))
theorem RB.pushAll(H:RB K q S cont alls w)(ho:w'.ownsRow K.base 288 1 va' (alls.length+1) (alls++[p]))(hg:w.grownBy w' S.va.ownBlock)(hn:∀ g,va'.ownBlock=some g->S.va.ownBlock=some g∨w.heap.size<=g):
  RB K q { S with va:=va' } cont (alls++[p]) w':=by
 have u:GrN (λk=>S.va.ownBlock=some k) w w':=GrN.by hg λk Z=>Z
 have O:∀ g,S.va.ownBlock=some g->g≠K.J:=λg G e=>(H.jb.ne_own H.all rfl) (by rw [G,e]);have C:∀ k,OB K { S with va:=va' } k->OB K S k∨w.heap.size<=k:=λk U=>by
  rcases U with h|h|h|h|h
  .exact .inl (.inl h)
  .exact .inl (.inr (.inl h))
  .exact .inl (.inr (.inr (.inl h)))
  .rcases hn k h with h'|h'
   .exact .inl (.inr (.inr (.inr (.inl h'))))
   .exact .inr h'
  .exact .inl (.inr (.inr (.inr (.inr h))))
 refine ⟨Jv H.jb u (λe=>O _ e rfl),Xu H.row H.all hg rfl,Xu H.at_ H.all hg rfl,H.lists.gr u (λi g hi G e=>H.alld i g hi G e),by rw [List.length_append];exact ho,λv g hv G e=>?_,λj o=>?_,λj o=>?_,λj k o U=>?_,H.gi,H.ginj,λj o=>⟨(H.jlo j o).1,Nat.le_trans (H.jlo j o).2 hg.size⟩,H.jg,H.bj⟩
 .rcases hn g e with h'|h'
  .exact H.alld v g hv G h'
  .have:=(H.lists.lt hv G).2;omega
 .exact Jv (H.its j o) u (λe=>(H.its j o).ne_own H.all rfl e.symm)
 .exact H.trig u (λk _ Z=>.inr (.inr (.inr (.inl Z)))) o
 .rcases C k U with h'|h'
  .exact H.iv j k o h'
  .have:=(H.jlo j o).2;exact .inr (by simp only;omega)
theorem RB.pushAt(H:RB K q S cont alls w)(hv:v<K.n)(ho:w4.ownsRow K.base 288 1 v4 ((cont v).length+1) (cont v++[p]))(hg:w.grownBy w4 (S.vat v).ownBlock)(hn:∀ g,v4.ownBlock=some g->(S.vat v).ownBlock=some g∨w.heap.size<=g):
  w4.cell? (adr K.Ba v)=some (S.vat v)/\w4.frozen? (adr K.Ba v)=false/\v4.oneCell'=true/\RB K q { S with vat:=upd S.vat v v4 } (upd cont v (cont v++[p])) alls (w4.setCell (adr K.Ba v) v4)/\GrN (λk=>(S.vat v).ownBlock=some k∨(Value.slice K.Ba K.n K.n).ownBlock=some k) w (w4.setCell (adr K.Ba v) v4):=by
 have G:=H.lists.own v hv;have a1:w4.ownsRow K.base 282 1 (.slice K.Ba K.n K.n) K.n ((List.range K.n).map S.vat):=Xu H.at_ G hg rfl;have F4:=H.lists.upd hv ho hg hn;obtain ⟨s1,s2,s3,s4,s5⟩:=Zl a1 (q:=v) om v4;have h1:v4.oneCell'=true:=by obtain ⟨B,c,e,_⟩:=Jy ho;rw [e];rfl
 have o:GrN (λk=>(S.vat v).ownBlock=some k∨(Value.slice K.Ba K.n K.n).ownBlock=some k) w (w4.setCell (adr K.Ba v) v4):=(GrN.by hg λk ek=>.inl ek).trans (GrN.by s5 λk ek=>.inr ek);have a2:∀ k,(S.vat v).ownBlock=some k∨(Value.slice K.Ba K.n K.n).ownBlock=some k->OB K S k:=λk U=>by
  rcases U with h|h
  .exact .inr (.inr (.inr (.inr ⟨v,hv,h⟩)))
  .exact .inr (.inr (.inl h))
 have O:∀ k,OB K { S with vat:=upd S.vat v v4 } k->OB K S k∨w.heap.size<=k:=λk U=>by
  rcases U with h|h|h|h|⟨u,hu,h⟩
  .exact .inl (.inl h)
  .exact .inl (.inr (.inl h))
  .exact .inl (.inr (.inr (.inl h)))
  .exact .inl (.inr (.inr (.inr (.inl h))))
  .by_cases e:u=v
   .subst e;simp only [Jh]at h;rcases hn k h with h'|h'
    .exact .inl (.inr (.inr (.inr (.inr ⟨u,hu,h'⟩))))
    .exact .inr h'
   .simp only [Jc _ _ e]at h;exact .inl (.inr (.inr (.inr (.inr ⟨u,hu,h⟩))))
 have a3:((List.range K.n).map S.vat).set v v4=(List.range K.n).map (upd S.vat v v4):=by
  apply List.ext_getElem?
  intro i;rw [List.getElem?_set];by_cases e:v=i
  .subst e;simp [hv,Jh]
  .rw [if_neg e];by_cases hi:i<K.n
   .simp [hi,Jc S.vat v4 (λe'=>e e'.symm)]
   .simp [hi]
 rw [a3]at s3;have F5:=F4.other a1 s5 rfl;have nJ:¬ ((S.vat v).ownBlock=some K.J∨(Value.slice K.Ba K.n K.n).ownBlock=some K.J):=by
  rintro (h|h)
  .exact H.jb.ne_own G rfl h.symm
  .exact H.jb.ne_own H.at_ rfl h.symm
 refine ⟨s1.trans (by simp [hv]),s2,h1,⟨Jv H.jb o nJ,Xu (Xu H.row G hg rfl) a1 s5 rfl,s3,⟨λi hi=>?_,F5.dis⟩,Js H.all o (λg Z=>?_),λu g hu Z e=>?_,λj C=>?_,λj C=>H.trig o (λk _ U=>a2 k U) C,λj k C U=>?_,H.gi,H.ginj,λj C=>⟨(H.jlo j C).1,Nat.le_trans (H.jlo j C).2 o.size⟩,H.jg,H.bj⟩,o⟩
 .have:=F5.own i hi;by_cases e:i=v
  .subst e;rw [Jh,Jh,Jh]at this;simp only [Jh,List.length_append,List.length_singleton];exact this
  .rw [Jc _ _ e,Jc _ _ e,Jc _ _ e]at this;simp only [Jc _ _ e];exact this
 .rintro (h|h)
  .exact H.alld v g hv h Z
  .exact Jqz H.at_ H.all rfl h Z
 .by_cases e':u=v
  .subst e';simp only [Jh]at Z;rcases hn g Z with h'|h'
   .exact H.alld u g hu h' e
   .obtain ⟨_,_,_,_,hf⟩:=Jy H.all;have:=(hf g e).2;omega
  .simp only [Jc _ _ e']at Z;exact H.alld u g hu Z e
 .refine Jv (H.its j C) o ?_;rintro (h|h)
  .exact (H.its j C).ne_own G rfl h.symm
  .exact (H.its j C).ne_own H.at_ rfl h.symm
 .rcases O k U with h'|h'
  .exact H.iv j k C h'
  .have:=(H.jlo j C).2;exact .inr (by simp only;omega)
end
open Go.RowKit Pl Go.Wk
attribute [local irreducible] WG
variable {vs:List Nat}{cs xs:List Value}{ca d g i m n q:Nat}{G G' L e p:Nat->Nat}{N N' NY:Nat->Prop}{v x y yv:Value}{w w1 w2:World}
structure YS(s:Nat)(yv:Value)(bx:Nat->Prop)(Y:Nat->List Row->World->Prop): Prop where
 keep:∀ base l w w',Y base l w->GrN (λk=>s<=k/\k<base) w w'->Y base l w'
 call:∃ fid first cap,yv=.func (.func fid) first cap/\∀ base l w vr z,base<=w.heap.size->Y base l w->RowV w vr z->l.length<65536->Ret Tryz.prog fid (first.toList++[vr]++cap.toList) w λr w'=>r=.bool true/\Y base (l++[z]) w'/\GrN (λk=>bx k∨base<=k) w w'
theorem Jwq(ha:Xx vs)(hl:∀ u∈vs,u<n): vs.length<=n:=by
 have key:∀ k,lv vs k<=k:=by
  intro k;induction k with
  | zero=>rw [Jkk];exact Nat.le_refl _
  | succ k ih=>
   by_cases h:k∈vs
   .rw [(Vs ha h).1];omega
   .rw [Jjl h];omega
 have:=key n;rwa [Jtw hl]at this
theorem Jyg{cs:List Nat}(h:i<cs.length): (nz cs).getD i 0=(cs.getD i 0:Int):=by
 simp [nz,List.getD,List.getElem?_eq_getElem h]
structure RunOk(n:Nat)(ts:List TA)(vars:Nat->List Nat)(rs:Nat->List Row): Prop where
 n32:n<=32
 m32:ts.length<=32
 at_:∀ i,i<ts.length->(ts.getD i ta0).2=⟨nz (vars i),(vars i).length,rs i⟩
 asc:∀ i,i<ts.length->Xx (vars i)
 lt:∀ i,i<ts.length->∀ u∈vars i,u<n
 cov:∀ v,v<n->∃ i,i<ts.length/\v∈vars i
 srt:∀ i,i<ts.length->Lt [] (rs i)
 len:∀ i,i<ts.length->∀ r∈rs i,r.length=(vars i).length
 big:∀ i,i<ts.length->(rs i).length<=65536
theorem Jvz{base base' e sz:Nat}(h:w.ownsRow base e sz v m xs)(hb:base'<=base): w.ownsRow base' e sz v m xs:=by
 rcases h with ⟨C,⟨rfl,rfl⟩|⟨g,u,cur,rfl,o,G⟩⟩
 .exact ⟨C,.inl ⟨rfl,rfl⟩⟩
 .exact ⟨C,.inr ⟨g,u,cur,rfl,Nat.le_trans hb o,G⟩⟩
theorem _root_.Go.Wk.Blk.sub2{t:TypeId}(h:Blk w g t cs)(h0:cs[i]?=some x)(h1:cs[i+1]?=some y): ∀ j u,[x,y][j]?=some u->w.cell? ((⟨g,i,none⟩:Addr).add j)=some u:=λj u o=>by
 match j,o with
 | 0,o=>simp only [List.getElem?_cons_zero,Option.some.injEq]at o;subst o;exact h.sub h0
 | 1,o=>simp only [List.getElem?_cons_succ,List.getElem?_cons_zero,Option.some.injEq]at o;subst o;exact h.sub h1
 | j+2,o=>simp at o
def Yc(d t:Nat): List Value:=(List.range d).map λj=>.int .i64 ((if j<t then j else 0:Nat):Int)
theorem Qrf(d:Nat): (madeCells (Value.int .i64 0).cells (d*1)).toList=Yc d 0:=by
 rw [Nat.mul_one];have e:(madeCells (Value.int .i64 0).cells d).toList=List.replicate d (Value.int .i64 0):=Yp _ _;rw [e];simp [Yc,List.map_const']
theorem Qrd(d:Nat): Yc d d=Jt (nz (List.range d)):=by
 simp only [Yc,Jt,nz,List.map_map];refine List.map_congr_left λj o=>?_;simp [List.mem_range.1 o]
theorem Qrb{t:Nat}(h:t<d): (Yc d t).set t (.int .i64 (t:Int))=Yc d (t+1):=by
 apply List.ext_getElem?
 intro i;rw [List.getElem?_set];by_cases e:t=i
 .subst e;simp [Yc,h]
 .rw [if_neg e];by_cases hi:i<d
  .simp only [Yc,List.getElem?_map,List.getElem?_range hi,Option.map_some];congr 2
   by_cases h1:i<t
   .rw [if_pos h1,if_pos om]
   .rw [if_neg h1,if_neg om]
  .simp [Yc,hi]
theorem Qrc(d t:Nat): (Yc d t).length=d:=by simp [Yc]
theorem Qgs(A:Option Addr)(n c:Nat): ∀ u∈[Value.slice A n c],u.oneCell'=true:=λu o=>by rw [List.mem_singleton.1 o];rfl
def itp(g:Nat): Value:=.pointer (some ⟨g,0,none⟩)
def Zr(vars:Nat->List Nat)(G:Nat->Nat)(q:Nat)(v:Nat): List Value:=((List.range q).filter λi=>decide (v∈vars i)).map λi=>itp (G i)
theorem Qrk(vars:Nat->List Nat)(G:Nat->Nat)(q v:Nat): (Zr vars G q v).length<=q:=by
 unfold Zr;rw [List.length_map];have:=List.length_filter_le (λi=>decide (v∈vars i)) (List.range q);rw [List.length_range]at this;exact this
theorem Qrj(vars:Nat->List Nat)(G:Nat->Nat)(q v:Nat): Zr vars G (q+1) v=Zr vars G q v++if v∈vars q then [itp (G q)] else []:=by
 unfold Zr;rw [List.range_succ,List.filter_append,List.map_append];congr 1
 by_cases h:v∈vars q
 .rw [if_pos h,List.filter_cons_of_pos (by simpa using h)];rfl
 .rw [if_neg h,List.filter_cons_of_neg (by simpa using h)];rfl
theorem Qrl{vars:Nat->List Nat}(h:∀ j,j<q->G j=G' j)(v:Nat): Zr vars G q v=Zr vars G' q v:=by
 unfold Zr;refine List.map_congr_left λi hi=>?_;rw [h i (List.mem_range.1 (List.mem_filter.1 hi).1)]
theorem _root_.Go.Wk.GrN.cut(hx:Ext w w1)(hg:GrN N w1 w2)(hN:∀ k,k<w.heap.size->N k->N' k): GrN N' w w2 :=
 ⟨hg.os.trans hx.os,hg.tape.trans hx.tape,hg.output.trans hx.output,Nat.le_trans hx.size hg.size,λk o hn=>(hg.block k (nM o hx.size) (λe=>hn (hN k o e))).trans (hx.block k o)⟩
theorem Cfg.steps{c:JC}{Y:List Row->World->Prop}{z:Row}{f h:Nat->Nat->Nat}{l:List Row}(H:Cfg c Y w z L p e f h l)(hok:JOk c)(hY:YC c Y NY){st:Int}(hJ:Blk w c.J 281 [c.rowv,c.ja,.int .i64 st,c.yv])(st':Int):
  Cfg c Y (w.setCell ⟨c.J,2,none⟩ (.int .i64 st')) z L p e f h l/\GrN c.NI w (w.setCell ⟨c.J,2,none⟩ (.int .i64 st')):=by
 have u:GrN (λk=>k=c.J) w (w.setCell ⟨c.J,2,none⟩ (.int .i64 st')):=GrN.set _ rfl;have o:GrN c.NI w (w.setCell ⟨c.J,2,none⟩ (.int .i64 st')):=GrN.set _ (.inl rfl);refine ⟨⟨H.env.gr (o.mono λk _ C=>hok.sub k C),λi hi=>?_,Js H.row u (λg O=>H.rowJ O),H.zl,⟨_,hJ.set 2 _⟩,hY.keep _ _ _ H.y o⟩,o⟩;obtain ⟨st,G⟩:=H.its i hi;exact ⟨st,Jv G u (hok.gj i hi)⟩
theorem Qkz(h:Xx vs): vs.Nodup:=h.imp λh e=>by omega
theorem Jln(n:Nat): (madeCells (Value.slice none 0 0).cells (n*1)).toList=List.replicate n (Value.slice none 0 0):=by rw [Nat.mul_one];exact Yp _ _
set_option maxRecDepth 100000 in
set_option maxHeartbeats 2000000 in
theorem Qcv{ts : List TA}{Aa : Option Addr}{vars : Nat → List Nat}{rs : Nat → List Row}{bx' : Nat → Prop}{Y : Nat → List Row → World → Prop}(hok : RunOk n ts vars rs)(hR : Rd w 3 Aa ts.length (atC ts))(hat : ∀ p ∈ ts, AtV w p.1 p.2)(hbx : ∀ k, bx' k → k < w.heap.size)(hY : YS w.heap.size yv bx' Y)(hY0 : ∀ w', Ext w w' → Y w'.heap.size [] w')(hcap : ∀ l : List Row, Lt [] l → (∀ x ∈ l, Ze n ts.length vars rs x) → l.length ≤ 65536):
    Ret Tryz.prog 187 [.int .i64 (n : Int), .slice Aa ts.length ca, yv] w fun u w' => GrN bx' w w' ∧ ∃ st base l, u = .tuple #[.int .i64 st, .int .i64 0] ∧ base ≤ w'.heap.size ∧ Y base l w' ∧ Lt [] l ∧ ∀ x, x ∈ l ↔ Ze n ts.length vars rs x := by
  have hn32 := hok.n32
  have hm32 := hok.m32
  obtain ⟨m, hm⟩ : ∃ m, m = ts.length := ⟨_, rfl⟩
  obtain ⟨fid, first, cap, hyv, hcall⟩ := hY.call
  subst hyv
  refine Jz Tryz.func187 Tryz.ntmps187 rfl kr rfl ?_
  refine ρ ?_
  have hxd : Ext w w.drew := (Ext.refl w).drew
  refine drG kr ?_
  refine Ke (fuel' := 5) [(0, 0), (0, 2), (0, 4)] #[true, false, true, false, true, false, false, false] kr kr rfl ?_
  refine ρd ?_
  refine Ko ?_
  refine gcut 3 #[true, true, true, true, true, false, false, false] (fun (x : Option Addr × Option Addr) => [(0, .int .i64 (n : Int)), (1, .slice Aa ts.length ca), (2, .func (.func fid) first cap), (24, .slice x.1 n n), (26, .slice x.2 n n), (27, .func (.func fid) first cap)])
    (fun x w' => Ext w.drew w' ∧ Zs w' w.heap.size (.slice x.1 n n) (List.replicate n V0) ∧ w'.ownsRow w.heap.size 282 1 (.slice x.2 n n) n (List.replicate n (.slice none 0 0))) ?_ ?_
  . rintro ⟨Ra, Ba⟩ w1 ⟨hx1, hrow1, hat1⟩
    refine Ke (fuel' := 0) [(1, 5), (1, 6), (0, 7)] #[true, true, true, true, true, true, true, true] kr kr rfl ?_
    refine Uh ?_
    refine bld (Qsr _ _ _ _ _ _ _) ?_
    refine Jg (Ug (Ext.refl _) ?_)
    refine Uh ?_
    refine bx ?_
    intro w2 J hx2 hJ hkJ
    refine Jg (Ug hx2 ?_)
    refine ρd ?_
    refine Ko ?_
    refine gend kr ?_
    refine ρ ?_
    have hxw2 : Ext w w2 := (hxd.trans hx1).trans hx2
    have hbJ : w.heap.size ≤ J := nL (hxd.trans hx1).size hJ
    obtain ⟨K, hK⟩ : ∃ K : RK, K = ⟨n, vars, rs, w.heap.size, J, Ra, Ba, .func (.func fid) first cap⟩ := ⟨_, rfl⟩
    have H2 : RB K 0 ⟨fun _ => 0, fun _ => none, fun _ => 0, fun _ => 0, .slice none 0 0, fun _ => .slice none 0 0⟩ (fun _ => []) [] w2 := by
      subst hK
      refine ⟨hkJ, Jk hrow1 hx2, ?_, ⟨fun i hi => Xa _ _ _ _, fun i j g _ _ _ e => (by cases e)⟩, Xa _ _ _ _, fun v g _ e => (by cases e), fun j hj => by omega, fun j hj => by omega, fun j k hj => by omega, fun i j hi => by omega, fun i j _ hj => by omega, fun j hj => by omega, fun j hj => by omega, hbJ⟩
      have := Jk hat1 hx2
      have e : List.replicate n (Value.slice none 0 0) = (List.range n).map fun _ => Value.slice none 0 0 := by simp [List.map_const']
      rw [e] at this; exact this
    clear hrow1 hat1
    refine Qh (fun (i : Nat) => [(0, .int .i64 (n : Int)), (1, .slice Aa ts.length ca), (8, .pointer (some ⟨J, 0, none⟩)), (30, .slice Aa ts.length ca), (31, .int .i64 (ts.length : Int)), (32, .int .i64 (i : Int))])
      (fun i w' => i ≤ ts.length ∧ Ext w2 w' ∧ ∀ j, j < i → rs j ≠ []) (fun i => ts.length - i) 0 sB ⟨Nat.zero_le _, Ext.refl _, fun j hj => by omega⟩ ?_
    rintro i w3 ⟨hi, hx3, hne3⟩
    refine ρ ?_
    refine ci (fun h => ?_) (fun h => ?_)
    . have li : i < ts.length := by have := oT h; omega
      have hR3 := hR.ext (hxw2.trans hx3)
      obtain ⟨t1, t2, t3, a, hp⟩ : ∃ t1 t2 t3 a, ts.getD i ta0 = ((t1, t2, t3), a) := ⟨_, _, _, _, rfl⟩
      have hA0 : AtV w (t1, t2, t3) a := by have := hat _ (Im rfl li); rw [hp] at this; exact this
      have ea : a = ⟨nz (vars i), (vars i).length, rs i⟩ := by have := hok.at_ i li; rw [hp] at this; exact this
      clear h
      obtain ⟨⟨D, d, e1, hd, hdm, hdr⟩, e2, hrows⟩ := id hA0
      simp only at e1 e2
      subst e1; subst e2
      obtain ⟨ps, G, gc, _, hv3, _⟩ := id hrows
      simp only at hv3
      subst hv3
      refine ρ ?_
      refine ixq 3 i hR3 li ?_
      refine ρ ?_
      refine lds (cs := [.slice D a.vars.length d, .int .i64 (a.ar : Int), .slice G ps.length gc]) (fun j u hu => Jwn hR3 rfl li (by rw [hp]; exact hu)) ?_
      refine ρ ?_
      refine alc Vu ?_
      intro w4 b hx4 hb hB
      refine ρ ?_
      refine stb hB ?_ hA0.one
      intro w5 hB5 hg5 hx5
      have hx35 : Ext w3 w5 := hx5 w3 hx4 hb
      refine ρ ?_
      refine lds (cs := [.int .i64 (a.ar : Int), .slice G ps.length gc]) (hB5.sub2 (i := 1) rfl rfl) ?_
      refine ρ ?_
      refine cl (Jkc ((hA0.ext (((hxw2.trans hx3).trans hx35))).rel)) ?_
      rintro u w6 ⟨rfl, hx6⟩
      refine ρ ?_
      refine ci (fun h => ?_) (fun h => ?_)
      . refine ρ ?_
        have hxw6 : Ext w w6 := ((hxw2.trans hx3).trans hx35).trans hx6
        refine Yw ⟨(GrN.ext hxw6), 0, w6.heap.size, [], rfl, Nat.le_refl _, hY0 w6 hxw6, List.Pairwise.nil, fun x => ⟨fun hx => (by cases hx), fun hx => ?_⟩⟩
        have h1 := hx.2 i li
        have h2 : a.rows.length = 0 := by have := Xd h; omega
        rw [ea] at h2
        have h3 : rs i = [] := List.eq_nil_of_length_eq_zero h2
        rw [h3] at h1; cases h1
      . have h2 : rs i ≠ [] := fun e => by
          have h3 := Xf h
          rw [ea, e] at h3; exact h3 rfl
        refine ρ ?_
        refine Qv (i + 1) sO ⟨om, (hx3.trans hx35).trans hx6, fun j hj => ?_⟩ om
        by_cases e : j = i
        . rw [e]; exact h2
        . exact hne3 j om
    . have hi' : i = ts.length := by have := oF h; omega
      subst hi'
      refine ρ ?_
      refine Je (fun (q : Nat) (S : RS) => [(0, .int .i64 (n : Int)), (8, .pointer (some ⟨J, 0, none⟩)), (11, S.va), (41, .slice Aa ts.length ca), (42, .int .i64 (ts.length : Int)), (43, .int .i64 (q : Int))])
        (fun q S w' => q ≤ ts.length ∧ Ext w w' ∧ RB K q S (Zr vars S.G q) ((List.range q).map fun j => itp (S.G j)) w') (fun q _ => ts.length - q) 0 ⟨fun _ => 0, fun _ => none, fun _ => 0, fun _ => 0, .slice none 0 0, fun _ => .slice none 0 0⟩ sB
        ⟨Nat.zero_le _, hxw2.trans hx3, H2.ext hx3⟩ ?_
      rintro q S w4 ⟨hq, hx4, H4⟩
      refine ρ ?_
      refine ci (fun h => ?_) (fun h => ?_)
      . have lq : q < ts.length := by have := oT h; omega
        have hR4 := hR.ext hx4
        obtain ⟨t1, t2, t3, a, hp⟩ : ∃ t1 t2 t3 a, ts.getD q ta0 = ((t1, t2, t3), a) := ⟨_, _, _, _, rfl⟩
        have hA0 : AtV w (t1, t2, t3) a := by have := hat _ (Im rfl lq); rw [hp] at this; exact this
        have ea : a = ⟨nz (vars q), (vars q).length, rs q⟩ := by have := hok.at_ q lq; rw [hp] at this; exact this
        subst ea
        clear h
        obtain ⟨⟨D, d, e1, hd, hdm, hdr⟩, e2, hrows⟩ := id hA0
        simp only at e1 e2
        subst e1; subst e2
        obtain ⟨ps, G, gc, _, hv3, _⟩ := id hrows
        simp only at hv3
        subst hv3
        have hnl := Qq (vars q)
        have hdl : (vars q).length ≤ n := Jwq (hok.asc q lq) (hok.lt q lq)
        refine ρ ?_
        refine ixq 3 q hR4 lq ?_
        refine ρ ?_
        refine lds (cs := [.slice D (nz (vars q)).length d, .int .i64 ((vars q).length : Int), .slice G ps.length gc]) (fun j u hu => Jwn hR4 rfl lq (by rw [hp]; exact hu)) ?_
        refine ρ ?_
        refine alc Vu ?_
        intro w5 b hx5 hb hB
        refine ρ ?_
        refine stb hB ?_ hA0.one
        intro w6 hB6 hg6 hx6
        have hx46 : Ext w4 w6 := hx6 w4 hx5 hb
        have H6 := H4.ext hx46
        refine ρ ?_
        refine ld (hB6.at (i := 0) rfl) ?_
        refine ρ ?_
        rw [hnl]
        refine mkn EI (vars q).length om (by unfold maxLen; omega) ?_
        intro w7 O hx7 ho7 hO7
        rw [Qrf] at ho7
        refine ρ ?_
        refine Qh (fun (t : Nat) => [(0, .int .i64 (n : Int)), (8, .pointer (some ⟨J, 0, none⟩)), (11, S.va), (41, .slice Aa ts.length ca), (42, .int .i64 (ts.length : Int)), (43, .int .i64 (q : Int)), (13, .pointer (some ⟨b, 0, none⟩)), (14, .slice O (vars q).length (vars q).length), (51, .slice O (vars q).length (vars q).length), (52, .int .i64 ((vars q).length : Int)), (53, .int .i64 (t : Int))])
          (fun t w' => t ≤ (vars q).length ∧ Ext w6 w' ∧ w'.ownsRow w6.heap.size 3 1 (.slice O (vars q).length (vars q).length) (vars q).length (Yc (vars q).length t)) (fun t => (vars q).length - t) 0 sB
          ⟨Nat.zero_le _, hx7, ho7⟩ ?_
        clear ho7 hx7
        rintro t w8 ⟨ht, hx8, ho8⟩
        refine ρ ?_
        refine ci (fun h => ?_) (fun h => ?_)
        . have lt : t < (vars q).length := by have := oT h; omega
          clear h
          refine ρ ?_
          refine ix t (Rd.own ho8) lt ?_
          obtain ⟨s1, s2, s3, s4, s5⟩ := Zl ho8 (q := t) om (.int .i64 (t : Int))
          have hcl : t < (Yc (vars q).length t).length := by rw [Qrc]; exact lt
          refine ρ ?_
          refine sto (s1.trans (List.getElem?_eq_getElem hcl)) s2 ?_
          rw [Qrb lt] at s3
          have hx9 : Ext w6 (w8.setCell (adr O t) (.int .i64 (t : Int))) := Qf hx8 s5 (fun k hk => by
            obtain ⟨_, _, _, _, hf⟩ := Jy ho8
            exact (hf k hk).1)
          refine ρ ?_
          exact Qv (t + 1) sO ⟨om, hx9, s3⟩ om
        . have ht' : t = (vars q).length := by have := oF h; omega
          subst ht'
          clear h
          rw [Qrd] at ho8
          have hB8 := hB6.ext hx8
          have hxw8 : Ext w w8 := (hx4.trans hx46).trans hx8
          have hcols : IntsV w8 (.slice O (vars q).length (vars q).length) (nz (List.range (vars q).length)) := by
            have e : (nz (List.range (vars q).length)).length = (vars q).length := by rw [Qq, List.length_range]
            exact ⟨O, (vars q).length, by rw [e], by rw [e]; exact Nat.le_refl _, by rw [e]; omega, by rw [e]; exact Rd.own ho8⟩
          refine ρ ?_
          refine lds (cs := [.int .i64 ((vars q).length : Int), .slice G ps.length gc]) (hB8.sub2 (i := 1) rfl rfl) ?_
          refine ρ ?_
          refine cl (Qys (hA0.ext hxw8).rel (hok.srt q lq) (hok.len q lq) hcols (show (vars q).length ≤ 32 by omega) (hok.big q lq)) ?_
          rintro u w9 ⟨hx9, tv, rfl, ⟨TA0, rfl⟩, hT9⟩
          refine ρ ?_
          refine alc Jcc ?_
          intro w10 b2 hx10 hb2 hBt
          refine ρ ?_
          refine stb (cs' := [.slice TA0 (vars q).length (vars q).length]) hBt ?_ (Qgs _ _ _)
          intro w11 hB11 hg11 hx11
          have hx9b : Ext w9 w11 := hx11 w9 hx10 hb2
          refine ρ ?_
          refine ldW hB11 ?_
          refine ρ ?_
          refine cl (Qyt w11) ?_
          rintro u w12 ⟨hx12, g, rfl, hg12, hI12⟩
          have H8 := H6.ext hx8
          have hTA : Off (fun k => k < w8.heap.size) w9 (fun u => TriA u TA0 (K.vars q).length (K.rs q)) := by
            subst hK; exact hT9.imp fun u h => h.a
          have hI12' : ItB w12 g TA0 (K.vars q).length 0 0 0 (fun _ => 0) (fun _ => 0) 0 := by subst hK; exact hI12
          have H12 := H8.iter hx9 hTA (hx9b.trans hx12) (nL hx9b.size hg12) hI12'
          have hB12 := hB8.ext (((hx9.trans hx9b)).trans hx12)
          have hKn : K.n = n := by rw [hK]
          have hKb : K.base = w.heap.size := by rw [hK]
          have hKJ : K.J = J := by rw [hK]
          have hKB : K.Ba = Ba := by rw [hK]
          have hxw12 : Ext w w12 := (hxw8.trans hx9).trans (hx9b.trans hx12)
          have hnw : ∀ {w' : World} {e sz m' : Nat} {v : Value} {xs : List Value}, w'.ownsRow K.base e sz v m' xs → ∀ k, v.ownBlock = some k → w.heap.size ≤ k := fun ho k ek => by
            obtain ⟨_, _, _, _, hf⟩ := Jy ho
            rw [← hKb]; exact (hf k ek).1
          refine ρ ?_
          refine bsl (Qzq (some ⟨g, 0, none⟩)) ?_
          intro w13 b3 hx13 hb3 hB3
          have H13 := H12.ext hx13
          refine ρ ?_
          refine apb (base := K.base) EIt H13.all (hB3.rd (n := 1) rfl) (fun u hu => by rw [List.mem_singleton.1 hu]; rfl) (by unfold maxLen; simp; omega) (by simp; omega) (by rw [hKb]; exact (hxw12.trans hx13).size) ?_
          intro va' w14 ho14 hg14 hn14
          have H14 := H13.pushAll ho14 hg14 hn14
          have hB14 := (hB12.ext hx13).grown hg14 ((hB12.ext hx13).ne_own H13.all rfl)
          have hx14 : Ext w w14 := Qf (hxw12.trans hx13) hg14 (hnw H13.all)
          refine ρ ?_
          refine ld (hB14.at (i := 0) rfl) ?_
          refine ρ ?_
          refine Je (fun (t : Nat) (vt : Nat → Value) => [(0, .int .i64 (n : Int)), (8, .pointer (some ⟨J, 0, none⟩)), (11, va'), (41, .slice Aa ts.length ca), (42, .int .i64 (ts.length : Int)), (43, .int .i64 (q : Int)), (18, .pointer (some ⟨g, 0, none⟩)), (78, .slice D (nz (vars q)).length d), (79, .int .i64 ((nz (vars q)).length : Int)), (80, .int .i64 (t : Int))])
            (fun t vt w' => t ≤ (vars q).length ∧ Ext w w' ∧ RB K (q + 1) { G := upd S.G q g, A := upd S.A q TA0, lo := upd S.lo q w8.heap.size, hi := upd S.hi q w9.heap.size, va := va', vat := vt } (fun v => Zr vars S.G q v ++ if v ∈ (vars q).take t then [itp g] else []) (((List.range q).map fun j => itp (S.G j)) ++ [itp g]) w') (fun t _ => (vars q).length - t) 0 S.vat sB
            ⟨Nat.zero_le _, hx14, ?_⟩ ?_
          . have e : (fun v => Zr vars S.G q v ++ if v ∈ (vars q).take 0 then [itp g] else []) = Zr vars S.G q := by funext v; simp
            rw [e]; exact H14
          clear H14 H13 ho14 hg14 hn14 hB14 hx14 H12 hB12 hI12 hI12' hT9 hTA
          rintro t vt w15 ⟨ht, hx15, H15⟩
          refine ρ ?_
          refine ci (fun h => ?_) (fun h => ?_)
          . have lt : t < (vars q).length := by have := oT h; omega
            clear h
            obtain ⟨vi, hvi⟩ : ∃ vi, vi = (vars q).getD t 0 := ⟨_, rfl⟩
            have hvm : vi ∈ vars q := by rw [hvi]; exact getD_mem' 0 _ lt
            have hvn : vi < n := hok.lt q lq vi hvm
            have hvK : vi < K.n := by rw [hKn]; exact hvn
            have hD15 := hdr.ext hx15
            refine ρ ?_
            refine ix t hD15 (by rw [hnl]; exact lt) ?_
            refine ρ ?_
            refine ld (hD15.cell (Xn lt)) ?_
            rw [← hvi]
            obtain ⟨own, hown⟩ : ∃ own, own = (vt vi).ownBlock := ⟨_, rfl⟩
            have hJ15 := H15.jb
            rw [hKJ, hKB, hKn] at hJ15
            have hat15 := H15.at_
            rw [hKn, hKB] at hat15
            have hov15 := H15.lists.own vi hvK
            have nJ : ¬ one own J := fun e => by
              have h1 : own = some J := e
              exact hJ15.ne_own hov15 rfl (by rw [← h1]; exact hown)
            have nA : ∀ ad, Ba = some ad → ¬ one own ad.block := fun ad e h' => by
              subst e
              exact Jqz hat15 hov15 rfl rfl (by have h1 : own = some ad.block := h'; rw [← h1]; exact hown.symm)
            refine ρ ?_
            refine drN (one own) 8 [(0, 0), (0, 1), (0, 2), (0, 3), (0, 4), (0, 5), (0, 6), (0, 7), (0, 8), (0, 9), (0, 10), (0, 11), (0, 12), (1, 13), (1, 14), (0, 15), (2, 16)] kr ?_
            have hxd15 : Ext w15 w15.drew := (Ext.refl w15).drew
            have H15d := H15.ext hxd15
            have hJ15d := hJ15.ext hxd15
            have hat15d := Jk hat15 hxd15
            have hcell : ((List.range n).map vt)[vi]? = some (vt vi) := by simp [hvn]
            refine ρn ?_
            refine nld (Jp (hJ15d.at (i := 1) rfl) nJ) ?_
            refine ρn ?_
            refine nld (Jp (hJ15d.at (i := 1) rfl) nJ) ?_
            refine ρn ?_
            refine nix vi (Rd.own hat15d) hvn ?_
            refine ρn ?_
            refine nld (fun w' hg => (Vj (Rd.own hat15d) hg (fun _ ad e => nA ad e)).cell hcell) ?_
            refine ρn ?_
            refine nop ?_
            refine bsl (Qzq (some ⟨g, 0, none⟩)) ?_
            intro w16 b4 hx16 hb4 hB4
            refine ρ ?_
            refine Jb (GrN.ext hx16) ?_
            have H16 := H15d.ext hx16
            refine nop ?_
            have hcl := Qrk vars S.G q vi
            refine apb (base := K.base) EIt (H16.lists.own vi hvK) (hB4.rd (n := 1) rfl) (fun u hu => by rw [List.mem_singleton.1 hu]; rfl) ?_ ?_ (by rw [hKb]; exact ((hx15.trans hxd15).trans hx16).size) ?_
            . rw [List.length_append]; unfold maxLen; split <;> simp <;> omega
            . rw [List.length_append]; split <;> simp <;> omega
            intro v4 w17 ho17 hg17 hn17
            refine ρ ?_
            refine Jb (GrN.by hg17 fun j ej => by rw [← hown] at ej; exact ej) ?_
            obtain ⟨c1, c2, c3, H18, hg18⟩ := H16.pushAt hvK ho17 hg17 hn17
            rw [hKB] at c1 c2 H18 hg18
            have at17 := Xu H16.at_ (H16.lists.own vi hvK) hg17 rfl
            rw [hKn, hKB] at at17
            refine ρn ?_
            refine nix vi (Rd.own at17) hvn ?_
            refine ρn ?_
            refine Xy ?_
            refine sto c1 c2 ?_ (hv := c3)
            have hx18 : Ext w (w17.setCell (adr Ba vi) v4) := hg18.old ((hx15.trans hxd15).trans hx16) (fun k hk => by
              rcases hk with hk | hk
              . exact hnw (H16.lists.own vi hvK) k hk
              . exact hnw H16.at_ k (by rw [hKB]; exact hk))
            refine ω5 ?_
            refine Uv ?_
            refine ρn ?_
            refine ρ ?_
            refine Jl (t + 1) (upd vt vi v4) sO ⟨om, hx18, ?_⟩ om
            have htk : (vars q).take (t + 1) = (vars q).take t ++ [vi] := by rw [Qb 0 lt, hvi]
            have hnt : vi ∉ (vars q).take t := fun hm => by
              have h1 : ((vars q).take (t + 1)).Nodup := (Qkz (hok.asc q lq)).sublist (List.take_sublist _ _)
              rw [htk, List.nodup_append] at h1
              exact h1.2.2 _ hm _ (List.mem_singleton.2 rfl) rfl
            have e : upd (fun v => Zr vars S.G q v ++ if v ∈ (vars q).take t then [itp g] else []) vi ((Zr vars S.G q vi ++ if vi ∈ (vars q).take t then [itp g] else []) ++ [.pointer (some ⟨g, 0, none⟩)]) = (fun v => Zr vars S.G q v ++ if v ∈ (vars q).take (t + 1) then [itp g] else []) := by
              funext v
              rw [htk]
              by_cases e : v = vi
              . subst e; rw [Jh, if_neg hnt, if_pos (by simp)]; simp [itp]
              . rw [Jc _ _ e]
                congr 1
                by_cases h1 : v ∈ (vars q).take t
                . rw [if_pos h1, if_pos (by simp [h1])]
                . rw [if_neg h1, if_neg (by simp [h1, e])]
            rw [← e]; exact H18
          . have ht' : t = (vars q).length := by have := oF h; omega
            subst ht'
            clear h
            refine ρ ?_
            refine Jl (q + 1) ⟨upd S.G q g, upd S.A q TA0, upd S.lo q w8.heap.size, upd S.hi q w9.heap.size, va', vt⟩ sO ⟨om, hx15, ?_⟩ om
            have e1 : (fun v => Zr vars S.G q v ++ if v ∈ (vars q).take (vars q).length then [itp g] else []) = Zr vars (upd S.G q g) (q + 1) := by
              funext v
              rw [Qrj, List.take_length, Jh, Qrl (G' := upd S.G q g) (fun j hj => (Jc _ _ om).symm)]
            have e2 : ((List.range q).map fun j => itp (S.G j)) ++ [itp g] = (List.range (q + 1)).map fun j => itp (upd S.G q g j) := by
              rw [List.range_succ, List.map_append, List.map_singleton, Jh]
              congr 1
              refine List.map_congr_left fun j hj => ?_
              have := List.mem_range.1 hj
              rw [Jc _ _ om]
            rw [e1, e2] at H15; exact H15
      . have hq' : q = ts.length := by have := oF h; omega
        subst hq'
        clear h
        subst hK
        obtain ⟨h0, hh0⟩ : ∃ h0, h0 = w4.heap.size := ⟨_, rfl⟩
        obtain ⟨NIx, hNIx⟩ : ∃ NIx : Nat → Prop, NIx = fun k => k = J ∨ (∃ i, i < ts.length ∧ k = S.G i) ∨ (Value.slice Ra n n).ownBlock = some k := ⟨_, rfl⟩
        obtain ⟨c, hc⟩ : ∃ c : JC, c = ⟨⟨S.G, S.A, fun i => (vars i).length, rs⟩, n, ts.length, vars, J, Ra, w.heap.size, .slice Ba n n, .func (.func fid) first cap, S.vat, fun k => bx' k ∨ h0 ≤ k ∨ NIx k⟩ := ⟨_, rfl⟩
        have hNI : ∀ k, c.NI k ↔ NIx k := fun k => by subst hc; subst hNIx; exact Iff.rfl
        have hNN : ∀ k, c.N k ↔ bx' k ∨ h0 ≤ k ∨ NIx k := fun k => by subst hc; exact Iff.rfl
        have hJlt : J < h0 := by rw [hh0]; exact H4.jb.lt
        have hrng : ∀ {e sz m' : Nat} {v : Value} {xs : List Value}, w4.ownsRow w.heap.size e sz v m' xs → ∀ k, v.ownBlock = some k → w.heap.size ≤ k ∧ k < h0 := fun ho k ek => by
          obtain ⟨_, _, _, _, hf⟩ := Jy ho
          rw [hh0]; exact hf k ek
        have hNIr : ∀ k, NIx k → w.heap.size ≤ k ∧ k < h0 := fun k hk => by
          subst hNIx
          rcases hk with hk | ⟨i, hi, hk⟩ | hk
          . subst hk; exact ⟨hbJ, hJlt⟩
          . subst hk
            have h1 := (H4.its i hi).lt
            have h2 := H4.jg i hi
            simp only at h2; omega
          . exact hrng H4.row k hk
        have hNr : ∀ k, k < h0 → ¬ bx' k → ¬ NIx k → ¬ c.N k := fun k h1 h2 h3 h4 => by
          rcases (hNN k).1 h4 with h5 | h5 | h5
          . exact h2 h5
          . omega
          . exact h3 h5
        have hbxo : ∀ k, w.heap.size ≤ k → ¬ bx' k := fun k hk hb => by have := hbx k hb; omega
        have offG : ∀ {e sz m' : Nat} {v : Value} {xs : List Value}, w4.ownsRow w.heap.size e sz v m' xs → Nat.beq e 281 = false → Nat.beq e 303 = false → Nat.beq 47 e = false → ∀ k, v.ownBlock = some k → ¬ c.N k := fun ho e1 e2 e3 k ek => by
          have h1 := hrng ho k ek
          refine hNr k h1.2 (hbxo k h1.1) fun h2 => ?_
          subst hNIx
          rcases h2 with h2 | ⟨i, hi, h2⟩ | h2
          . subst h2; exact H4.jb.ne_own ho e1 ek.symm
          . subst h2; exact (H4.its i hi).ne_own ho e2 ek.symm
          . exact Jqz H4.row ho e3 h2 ek
        have hIc : ∀ v, c.I v = (List.range ts.length).filter fun i => decide (v ∈ vars i) := fun v => by subst hc; rfl
        have hptr : ∀ v, Jqt c.F (c.I v) = Zr vars S.G ts.length v := fun v => by rw [hIc]; subst hc; rfl
        have hIl : ∀ v, (c.I v).length = (Zr vars S.G ts.length v).length := fun v => by rw [← hptr]; simp [Jqt]
        have hJok : JOk c := by
          have hinj : ∀ i j, i < ts.length → j < ts.length → S.G i = S.G j → i = j := fun i j hi hj e => by
            rcases Nat.lt_trichotomy i j with h1 | h1 | h1
            . have := H4.ginj i j h1 hj; omega
            . exact h1
            . have := H4.ginj j i h1 hi; omega
          have hgJ : ∀ i, i < ts.length → S.G i ≠ J := fun i hi e => by have := H4.jg i hi; simp only at this; omega
          have hd32 : ∀ i, i < ts.length → (vars i).length ≤ 32 := fun i hi => by have := Jwq (hok.asc i hi) (hok.lt i hi); omega
          subst hc
          exact ⟨hn32, hm32, hok.asc, hok.lt, fun i _ => rfl, hd32, hne3, hok.srt, hok.len, hok.big, hinj, hgJ, hok.cov, fun k hk => .inr (.inr ((hNI k).1 hk))⟩
        have hJenv : JEnv c w4 := by
          refine ⟨fun i hi => ?_, ⟨Ba, n, by subst hc; rfl, ?_⟩, fun v hv => ?_⟩
          . have him : i < ts.length := by subst hc; exact hi
            have h1 := H4.tri i him
            have h2 : Off c.N w4 (fun u => TriA u (S.A i) (vars i).length (rs i)) := h1.mono fun k hk h => by
              have h3 := (H4.jlo i him)
              have h4 := H4.iv i k him
              simp only at h3
              rcases (hNN k).1 h with h5 | h5 | h5
              . have := hbx k h5; exact .inl om
              . omega
              . subst hNIx
                rcases h5 with h5 | ⟨i', hi', h5⟩ | h5
                . exact h4 (.inl h5)
                . subst h5; exact H4.gi i' i hi' him
                . exact h4 (.inr (.inl h5))
            subst hc; exact h2
          . have h1 := Jqx H4.at_ (offG H4.at_ rfl rfl rfl)
            have h2 := h1.imp (Ψ := fun u => Rd u 1 Ba n ((List.range n).map S.vat)) fun u h => Rd.own h
            have : c.n = n ∧ c.vat = S.vat := by subst hc; exact ⟨rfl, rfl⟩
            rw [this.1, this.2]; exact h2
          . have hvn : v < n := by subst hc; exact hv
            have ho := H4.lists.own v hvn
            obtain ⟨B, cc, e1, e2, e3⟩ := Jy ho
            have : c.vat v = S.vat v := by subst hc; rfl
            refine ⟨B, cc, by rw [this, e1, hIl], ?_⟩
            rw [hptr, hIl]
            refine (Jqx ho (offG ho rfl rfl rfl)).imp fun u h => ?_
            rw [e1] at h; exact Rd.own h
        have hYC : YC c (fun l u => Y h0 l u ∧ h0 ≤ u.heap.size) (fun k => bx' k ∨ h0 ≤ k) := by
          refine ⟨fun k hk => (hNN k).2 (by rcases hk with h | h; · exact .inl h
                                            exact .inr (.inl h)), fun k hk h => ?_, fun l u u' h hg => ⟨hY.keep _ _ _ _ h.1 (hg.mono fun k _ hk => ?_), nL h.2 hg.size⟩, fid, first, cap, by subst hc; rfl, fun l u vr z h hr hl => ?_⟩
          . have h1 := hNIr k ((hNI k).1 h)
            rcases hk with h2 | h2
            . exact hbxo k h1.1 h2
            . omega
          . have h1 := hNIr k ((hNI k).1 hk)
            exact h1
          . refine (hcall h0 l u vr z h.2 h.1 hr hl).mono ?_
            rintro r u' ⟨h1, h2, h3⟩
            exact ⟨h1, ⟨h2, nL h.2 h3.size⟩, h3⟩
        have hcn : c.n = n := by subst hc; rfl
        have hcm : c.m = ts.length := by subst hc; rfl
        have hCfg : Cfg c (fun l u => Y h0 l u ∧ h0 ≤ u.heap.size) w4 (List.replicate n V0) (fun i => lv (c.vars i) 0) (fun _ => 0) (fun _ => 0) (fun _ _ => 0) (fun _ _ => 0) [] := by
          refine ⟨hJenv, fun i hi => ⟨0, ?_⟩, ?_, by rw [hcn]; simp, ⟨0, ?_⟩, by rw [hh0]; exact hY0 w4 hx4, by rw [hh0]; exact Nat.le_refl _⟩
          . simp only [Jkk]
            rw [hcm] at hi
            have := H4.its i hi
            subst hc; exact this
          . have := H4.row
            subst hc; exact this
          . have := H4.jb
            subst hc; exact this
        have hAns : ∀ x, c.Ans x ↔ Ze n ts.length vars rs x := fun x => by subst hc; exact Iff.rfl
        have hPth : Pth c 0 (List.replicate n V0) (fun _ => 0) (fun _ => 0) := by
          refine ⟨fun i hi => ?_, fun i hi h => ?_⟩
          . rw [Jkk, Yy, if_pos rfl, List.take_zero]
          . rw [Jkk] at h; omega
        have hcJ : c.J = J := by subst hc; rfl
        refine ρ ?_
        have hext := Qnr hJok hYC (fun l h1 h2 => hcap l h1 fun x hx => (hAns x).1 (h2 x hx)) n 0 (List.replicate n V0) (fun _ => 0) (fun _ => 0) (fun _ _ => 0) (fun _ _ => 0) [] w4 (by rw [hcn]; omega) hCfg hPth List.Pairwise.nil (fun x hx => by cases hx) (fun x hx => by cases hx)
        rw [hcJ] at hext
        refine cl hext ?_
        rintro u w5 ⟨rfl, hg5, z5, f5, h5, l5, H5, _, _, hlt5, hl5⟩
        have hall : w5.ownsRow w.heap.size 288 1 S.va ts.length ((List.range ts.length).map fun j => itp (S.G j)) := by
          have h1 := H4.all
          rw [List.length_map, List.length_range] at h1
          exact Js h1 hg5 (offG H4.all rfl rfl rfl)
        obtain ⟨VA, vc, eva, _, _⟩ := Jy hall
        rw [eva] at hall ⊢
        have hoff5 : Off c.N w5 (fun u => Rd u 1 VA ts.length ((List.range ts.length).map fun j => itp (S.G j))) := by
          refine (Jqx hall fun g eg => ?_).imp fun u h => Rd.own h
          exact offG H4.all rfl rfl rfl g (by rw [eva]; exact eg)
        refine ρ ?_
        refine Qh (fun (i : Nat) => [(8, .pointer (some ⟨J, 0, none⟩)), (104, .slice VA ts.length vc), (105, .int .i64 (ts.length : Int)), (106, .int .i64 (i : Int))])
          (fun i w' => i ≤ ts.length ∧ GrN c.N w5 w' ∧ Cfg c (fun l u => Y h0 l u ∧ h0 ≤ u.heap.size) w' z5 (fun i => lv (c.vars i) 0) (fun _ => 0) (fun _ => 0) f5 h5 l5) (fun i => ts.length - i) 0 sB ⟨Nat.zero_le _, GrN.refl _ _, H5⟩ ?_
        rintro i w6 ⟨hi, hg6, H6⟩
        refine ρ ?_
        refine ci (fun h => ?_) (fun h => ?_)
        . have li : i < ts.length := by have := oT h; omega
          clear h
          have hR6 := hoff5 w6 hg6
          refine ρ ?_
          refine ix i hR6 li ?_
          refine ρ ?_
          refine ld (hR6.cell (show ((List.range ts.length).map fun j => itp (S.G j))[i]? = some (.pointer (some ⟨S.G i, 0, none⟩)) by simp [li, itp])) ?_
          obtain ⟨sj, hJ6⟩ := H6.jb
          rw [hcJ] at hJ6
          refine ρ ?_
          refine drN (fun _ => False) 10 [(0, 0), (0, 1), (0, 2), (0, 3), (0, 4), (1, 5), (0, 6), (0, 7), (0, 8), (2, 9)] kr ?_
          have hxd6 : Ext w6 w6.drew := (Ext.refl w6).drew
          have H6d := H6.ext hYC hxd6
          have hJ6d := hJ6.ext hxd6
          obtain ⟨si, hI6⟩ := H6d.its i (by rw [hcm]; exact li)
          have hGi : c.F.G i = S.G i := by subst hc; rfl
          rw [hGi] at hI6
          refine ρn ?_
          refine nld (Jp (hJ6d.at (i := 2) rfl) (fun e => e)) ?_
          refine ρn ?_
          refine nop ?_
          refine cl (Qlz hI6) ?_
          rintro u w7 ⟨rfl, rfl⟩
          refine ρ ?_
          refine Jb (GrN.refl _ _) ?_
          refine ρn ?_
          refine Xy ?_
          refine sto (p := ⟨J, 2, none⟩) (hJ6d.cell 2) (hJ6d.frozen _) ?_
          rw [← hcJ] at hJ6d
          obtain ⟨H8, hg8⟩ := H6d.steps hJok hYC hJ6d (IntKind.i64.wrap (sj + si))
          rw [hcJ] at H8 hg8
          refine ω5 ?_
          refine Uv ?_
          refine ρn ?_
          refine ρ ?_
          exact Qv (i + 1) sO ⟨om, (hg6.trans (GrN.ext hxd6)).trans (hg8.mono fun k _ hk => hJok.sub k hk), H8⟩ om
        . clear h
          obtain ⟨sj, hJ6⟩ := H6.jb
          rw [hcJ] at hJ6
          refine ρ ?_
          refine ld (hJ6.at (i := 2) rfl) ?_
          refine ρ ?_
          refine Yw ⟨GrN.cut hx4 (hg5.trans hg6) fun k hk h => ?_, sj, h0, l5, rfl, H6.y.2, H6.y.1, hlt5, fun x => ?_⟩
          . rcases (hNN k).1 h with h1 | h1 | h1
            . exact h1
            . have := hx4.size; omega
            . have := (hNIr k h1).1; omega
          . rw [hl5, ← hAns x]
            constructor
            . rintro (h1 | h1)
              . cases h1
              . exact h1.1
            . intro h1; exact .inr ⟨h1, rfl⟩
  . intro rest
    refine gtwo 1 3 kr rfl rfl rfl ?_ ?_
    . refine ρ ?_
      refine mkn EV n om (by unfold maxLen; omega) ?_
      intro w2 A2 hx2 ho2 _
      refine Jg (Jyq hx2 ?_)
      refine Ke (fuel' := 3) [(1, 3)] #[true, true, true, true, true, false, false, false] kr kr rfl ?_
      refine Uh ?_
      refine mkn EIts n om (by unfold maxLen; omega) ?_
      intro w3 A3 hx3 ho3 _
      refine Jg (Ug hx3 ?_)
      refine Vb (Ko ?_)
      refine rest (A2, A3) _ _ ⟨hx2.trans hx3, ?_, ?_⟩ sB
      . rw [Zs, List.length_replicate, ← Jdr]; exact Jk ho2 hx3
      . rw [Jln] at ho3; exact Jvz ho3 hx2.size
    . refine ρ ?_
      refine mkn EIts n om (by unfold maxLen; omega) ?_
      intro w2 A2 hx2 ho2 _
      refine Jg (Jyq hx2 ?_)
      refine Ke (fuel' := 3) [(1, 1)] #[true, true, true, true, true, false, false, false] kr kr rfl ?_
      refine Uh ?_
      refine mkn EV n om (by unfold maxLen; omega) ?_
      intro w3 A3 hx3 ho3 _
      refine Jg (Ug hx3 ?_)
      refine Vb (Ko ?_)
      refine rest (A3, A2) _ _ ⟨hx2.trans hx3, ?_, ?_⟩ sB
      . rw [Zs, List.length_replicate, ← Jdr]; exact Jvz ho3 hx2.size
      . rw [Jln] at ho2; exact Jk ho2 hx3
end Go.Proofs.YtebcagekopgdhaaGreatDoor
namespace Go.Wk
open Go.RowKit
variable {d n t t2 ty:Nat}
theorem fnl{P:Program}{al:AL}{w:World}{Q:Exit->Act->World->Prop}{ops:Array Oper}{rest:List Oper}{pos:String}{aft:Array Edge}{tt:TT}[h:Tab P tt]{x:Operand}{k:TK}{ps rs:Array TypeId}{va:Bool}{f:Fn}{first cap:Array Value}(kk:WL P n ops Q rest ((d,.bool false)::al) w)(ht:tk tt t=some k:=by rfl)(hk:k.desc=.func ps rs va:=by rfl)(hx:ev al x=some (.func f first cap):=by rfl)(hd:Nat.blt d n=true:=by rfl):
  WL P n ops Q (⟨some d,.binOp .eql t x (.const .nilFunc) t2,ty,pos,aft,none⟩::rest) al w :=
 wop hd (λa u=>by
  have o:=Vh h.ok ht hk rfl;have G:a.eval (.const .nilFunc)=.nilFunc:=rfl;have C:∀ d:Nat,(Op.equalIn (d+1) t (.func f first cap) .nilFunc).run P w=.ok false w:=λd=>by simp [Op.equalIn,run_underlying o]
  simp [execOp,u.ev hx,G,eqGuard,binOp,Op.equal,Op.maxDepth,C 9999]) kk
end Go.Wk
namespace Go.Proofs.YtebcagekopgdhaaGreatDoor
open Go.RowKit Pl Go.Wk
attribute [local irreducible] WC WL QX WD WDB WP WN WG
variable {b ca n s:Nat}{Y:Nat->List Row->World->Prop}{yv:Value}
structure YZ(s:Nat)(yv:Value)(bx:Nat->Prop)(Y:Nat->List Row->World->Prop): Prop where
 keep:∀ base l w w',Y base l w->GrN (λk=>s<=k/\k<base) w w'->Y base l w'
 call:∃ fid first cap,yv=.func (.func fid) first cap/\∀ base l w w1 vr z,base<=w.heap.size->Y base l w->Ext w w1->RowX w1 (λk=>k<w.heap.size) vr z->l.length<65536->Ret Tryz.prog fid (first.toList++[vr]++cap.toList) w1 λr w'=>r=.bool true/\Y base (l++[z]) w'/\GrN (λk=>bx k∨base<=k) w1 w'
theorem Qpf{bx:Nat->Prop}(hY:YZ s yv bx Y)(hb:s<=b)(hbx:∀ k,bx k->k<s):
  YS (b+1) (.func (.func 188) #[] #[.pointer (some ⟨b,0,none⟩)]) bx (λbase l w=>(Y base l w/\Blk w b 193 [yv])/\b<base):=by
 obtain ⟨a6,first,a7,a1,G⟩:=hY.call;subst a1;refine ⟨λbase l w w' h U=>⟨⟨hY.keep _ _ _ _ h.1.1 (U.mono λk _ hk=>⟨om,hk.2⟩),Jv h.1.2 U (λhk=>om)⟩,h.2⟩,_,_,_,rfl,λbase l w vr z J h hr hl=>?_⟩;obtain ⟨⟨hy,hB⟩,a4⟩:=h;have Z:¬ (bx b∨base<=b):=by
  rintro (e|e)
  .have:=hbx b e;omega
  .omega
 refine Jz Tryz.func188 Tryz.ntmps188 rfl kr rfl ?_;refine ρ ?_;refine drN (λk=>bx k∨base<=k) 8 [(0,0),(0,1),(1,2),(1,3),(0,4)] kr ?_;have o:Ext w w.drew:=(Ext.refl w).drew;have a5:=hB.ext o;have a2:=hY.keep _ _ _ _ hy (GrN.ext o);refine ρn ?_;refine nld (Jp (a5.at (i:=0) rfl) Z) ?_;refine ρn ?_;refine nop ?_;refine cl (Jzf (hr.ext o) (λk=>k<w.drew.heap.size) (λk hk=>hk)) ?_;rintro u w1 ⟨hu,C⟩;refine ρ ?_;refine Jb (GrN.ext C) ?_;refine nop ?_;refine clv (G base l w.drew w1 u z J a2 C hu hl) ?_;rintro r w2 ⟨rfl,a3,O⟩;refine ρ ?_;refine Jb O ?_;refine ρn ?_;refine ρ ?_;have U:GrN (λk=>bx k∨base<=k) w w2:=(GrN.ext (o.trans C)).trans O;exact Jq ⟨rfl,⟨⟨a3,Jv hB U Z⟩,a4⟩,U⟩
theorem Qpd{w:World}{ts:List TA}{Aa:Option Addr}{vars:Nat->List Nat}{rs:Nat->List Row}{bx':Nat->Prop}(hok:RunOk n ts vars rs)(hR:Rd w 3 Aa ts.length (atC ts))(hle:ts.length<=ca)(hat:∀ p∈ts,AtV w p.1 p.2)(hchk:Jwl n (ts.map (·.2)))(hbx:∀ k,bx' k->k<w.heap.size)(hY:YZ w.heap.size yv bx' Y)(hY0:∀ w',Ext w w'->Y w'.heap.size [] w')(hcap:∀ l:List Row,Lt [] l->(∀ x∈l,Ze n ts.length vars rs x)->l.length<=65536):
  Ret Tryz.prog 165 [.int .i64 (n:Int),yv,.slice Aa ts.length ca] w λu w'=>GrN bx' w w'/\∃ st base l,u=.tuple #[.int .i64 st,.int .i64 0]/\w.heap.size<=base/\base<=w'.heap.size/\Y base l w'/\Lt [] l/\∀ x,x∈l↔Ze n ts.length vars rs x:=by
 have a5:=hok.m32;obtain ⟨a3,first,a4,a1,_⟩:=hY.call;subst a1;refine Jz Tryz.func165 Tryz.ntmps165 rfl kr rfl ?_;refine ρ ?_;refine bx ?_;intro w1 b C hb hB;refine ρ ?_;refine cl (Jgb (n:=(n:Int)) (ats:=ts.map (·.2)) ⟨ts,Aa,ca,rfl,rfl,hle,om,hR.ext C,λp hp=>(hat p hp).ext C⟩) ?_
 rintro u w2 ⟨O,e,rfl,he⟩;have e0:=he.2 hchk;subst e0;have J:=hB.ext O;refine ρ ?_;refine ld (J.at (i:=0) rfl) ?_;refine ρ ?_;refine fnl ?_;have o:=C.trans O;have a6:b+1<=w2.heap.size:=J.lt;refine ρ ?_;refine cl (Qcv (bx':=bx') (Y:=λbase l w=>(Y base l w/\Blk w b 193 [.func (.func a3) first a4])/\b<base) hok (hR.ext o) (λp hp=>(hat p hp).ext o) (λk U=>nM (hbx k U) o.size) ?_ (λw' G=>⟨⟨hY0 w' (o.trans G),J.ext G⟩,by have:=G.size;omega⟩) hcap) ?_
 .have Z:=Qpf hY hb hbx;exact ⟨λbase l u u' h hg=>Z.keep base l u u' h (hg.mono λk _ U=>⟨om,U.2⟩),Z.call⟩
 rintro u w3 ⟨a2,st,base,l,rfl,Z,⟨⟨h2,_⟩,h3⟩,h4,h5⟩;refine ρ ?_;exact Yw ⟨GrN.cut o a2 λk _ U=>U,st,base,l,rfl,om,Z,h2,h4,h5⟩
end Go.Proofs.YtebcagekopgdhaaGreatDoor
