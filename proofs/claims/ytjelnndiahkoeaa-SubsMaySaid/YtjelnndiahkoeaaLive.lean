/-
  live: some answers that the document gives: it answers true.
-/
import Derived.Test.YtjelnndiahkoeaaAct
import Derived.Test.YtjelnndiahkoeaaName

namespace Go.Proofs.Ytjelnndiahkoeaa
open Go.RowKit

/-- A box that holds an item. -/
structure C5 (t f o i b : Bool) (B : Nat) (w : World) : Prop where
  c0 : w.cell? ⟨B, 0, none⟩ = some (.bool t)
  c1 : w.cell? ⟨B, 1, none⟩ = some (.bool f)
  c2 : w.cell? ⟨B, 2, none⟩ = some (.bool o)
  c3 : w.cell? ⟨B, 3, none⟩ = some (.bool i)
  c4 : w.cell? ⟨B, 4, none⟩ = some (.bool b)
  lt : B < w.heap.size

theorem C5.kept {t f o i b : Bool} {B : Nat} {w w' : World} (h : C5 t f o i b B w) (hb : Below w.heap.size w w') : C5 t f o i b B w' := by
  have hz := hb.size
  have hl := h.lt
  exact ⟨(hb.cell (p := ⟨B, 0, none⟩) hl).trans h.c0, (hb.cell (p := ⟨B, 1, none⟩) hl).trans h.c1, (hb.cell (p := ⟨B, 2, none⟩) hl).trans h.c2, (hb.cell (p := ⟨B, 3, none⟩) hl).trans h.c3, (hb.cell (p := ⟨B, 4, none⟩) hl).trans h.c4, by omega⟩

theorem C5.fresh (t f o i b : Bool) (w : World) : C5 t f o i b w.heap.size (w.alloc (.cells #[.bool t, .bool f, .bool o, .bool i, .bool b] 23)) := by
  constructor
  case lt => simp
  all_goals exact nb _ rfl _ _ _ _ rfl

theorem C5.laid {t f o i b : Bool} {B : Nat} {w : World} (h : C5 t f o i b B w) (O : Obj) : C5 t f o i b B (w.alloc O) := h.kept (Below.alloc (Below.refl _ _) (Nat.le_refl _) O)

theorem act_lit {x y x' y' : It} {k c : Int} {X Y : It} {C : Int} (h : act x y k = (x', y', c)) (e : act x y k = (X, Y, C)) : x' = X ∧ y' = Y ∧ c = C := by
  rw [e] at h
  simp only [Prod.mk.injEq] at h
  exact ⟨h.1.symm, h.2.1.symm, h.2.2.symm⟩

/-- One box, and a call behind it. -/
theorem box1 {t f o i b : Bool} {w w1 : World} (hb : Below (w.alloc (.cells #[.bool t, .bool f, .bool o, .bool i, .bool b] 23)).heap.size (w.alloc (.cells #[.bool t, .bool f, .bool o, .bool i, .bool b] 23)) w1) :
    C5 t f o i b w.heap.size w1 ∧ Below w.heap.size w w1 :=
  ⟨(C5.fresh _ _ _ _ _ _).kept hb, (Below.alloc (Below.refl _ _) (Nat.le_refl _) _).trans (hb.mono (by simp))⟩

/-- Two boxes, and a call behind them. -/
theorem box2 {t f o i b t' f' o' i' b' : Bool} {w w1 : World} (hb : Below ((w.alloc (.cells #[.bool t, .bool f, .bool o, .bool i, .bool b] 23)).alloc (.cells #[.bool t', .bool f', .bool o', .bool i', .bool b'] 23)).heap.size ((w.alloc (.cells #[.bool t, .bool f, .bool o, .bool i, .bool b] 23)).alloc (.cells #[.bool t', .bool f', .bool o', .bool i', .bool b'] 23)) w1) :
    C5 t f o i b w.heap.size w1 ∧ C5 t' f' o' i' b' (w.heap.size + 1) w1 ∧ Below w.heap.size w w1 := by
  refine ⟨((C5.fresh _ _ _ _ _ _).laid _).kept hb, ?_, ((Below.alloc (Below.refl _ _) (Nat.le_refl _) _).alloc (by simp) _).trans (hb.mono (by simp; omega))⟩
  have h := (C5.fresh t' f' o' i' b' (w.alloc (.cells #[.bool t, .bool f, .bool o, .bool i, .bool b] 23))).kept hb
  simpa using h


set_option maxRecDepth 100000 in
set_option maxHeartbeats 8000000 in
theorem live_any (w : World) : Calls Try.prog 16 #[] w fun e w' => e = .returned (.bool true) ∧ Below w.heap.size w w' := by
  go_enter Try.func16, Try.ntmps16
  go_wp2_with fail
  refine (act_any _ (by decide) (by decide) _ _ _ _ _ _ _ _ _ _ _).mono ?_
  rintro e w1 ⟨x, y, c, ha, rfl, hb⟩
  obtain ⟨N1, BB⟩ := box1 (by simpa using hb)
  have Hn := Lib.hid N1
  clear N1
  have HB := Lib.hid BB
  clear BB hb
  obtain ⟨n0, n1, n2, n3, n4, nl⟩ := Hn.out
  obtain ⟨rfl, rfl, rfl⟩ := act_lit ha (X := ⟨false, false, true, false, false⟩) (Y := ⟨false, false, false, true, false⟩) (C := 0) (by decide)
  clear ha
  simp only
  go_wp2_with fail
  refine (act_any _ (by decide) (by decide) _ _ _ _ _ _ _ _ _ _ _).mono ?_
  rintro e w2 ⟨x, y, c, ha, rfl, hb⟩
  clear n0 n1 n2 n3 n4 nl
  obtain ⟨N1, N2, BB⟩ := box2 (by simpa using hb)
  have Ha := Lib.hid N1
  have Hb := Lib.hid N2
  clear N1 N2
  replace Hn := Lib.hid (Hn.out.kept BB)
  replace HB := Lib.hid (HB.out.trans (BB.mono HB.out.size))
  clear BB hb
  obtain ⟨n0, n1, n2, n3, n4, nl⟩ := Hn.out
  obtain ⟨a0, a1, a2, a3, a4, al⟩ := Ha.out
  obtain ⟨b0, b1, b2, b3, b4, bl⟩ := Hb.out
  obtain ⟨rfl, rfl, rfl⟩ := act_lit ha (X := ⟨false, false, true, false, false⟩) (Y := ⟨false, false, false, true, false⟩) (C := 7) (by decide)
  clear ha
  simp only
  go_wp2_with fail
  refine (act_any _ (by decide) (by decide) _ _ _ _ _ _ _ _ _ _ _).mono ?_
  rintro e w3 ⟨x, y, c, ha, rfl, hb⟩
  clear n0 n1 n2 n3 n4 nl a0 a1 a2 a3 a4 al b0 b1 b2 b3 b4 bl
  obtain ⟨N1, N2, BB⟩ := box2 (by simpa using hb)
  have Hp := Lib.hid N1
  have Hq := Lib.hid N2
  clear N1 N2
  replace Hn := Lib.hid (Hn.out.kept BB)
  replace Ha := Lib.hid (Ha.out.kept BB)
  replace Hb := Lib.hid (Hb.out.kept BB)
  replace HB := Lib.hid (HB.out.trans (BB.mono HB.out.size))
  clear BB hb
  obtain ⟨n0, n1, n2, n3, n4, nl⟩ := Hn.out
  obtain ⟨a0, a1, a2, a3, a4, al⟩ := Ha.out
  obtain ⟨b0, b1, b2, b3, b4, bl⟩ := Hb.out
  obtain ⟨p0, p1, p2, p3, p4, pl⟩ := Hp.out
  obtain ⟨q0, q1, q2, q3, q4, ql⟩ := Hq.out
  obtain ⟨rfl, rfl, rfl⟩ := act_lit ha (X := ⟨false, true, false, false, false⟩) (Y := ⟨true, false, false, false, false⟩) (C := 0) (by decide)
  clear ha
  simp only
  go_wp2_with fail
  refine (act_any _ (by decide) (by decide) _ _ _ _ _ _ _ _ _ _ _).mono ?_
  rintro e w4 ⟨x, y, c, ha, rfl, hb⟩
  clear n0 n1 n2 n3 n4 nl a0 a1 a2 a3 a4 al b0 b1 b2 b3 b4 bl p0 p1 p2 p3 p4 pl q0 q1 q2 q3 q4 ql
  obtain ⟨N1, N2, BB⟩ := box2 (by simpa using hb)
  have Hc := Lib.hid N1
  have Hf := Lib.hid N2
  clear N1 N2
  replace Hn := Lib.hid (Hn.out.kept BB)
  replace Ha := Lib.hid (Ha.out.kept BB)
  replace Hb := Lib.hid (Hb.out.kept BB)
  replace Hp := Lib.hid (Hp.out.kept BB)
  replace Hq := Lib.hid (Hq.out.kept BB)
  replace HB := Lib.hid (HB.out.trans (BB.mono HB.out.size))
  clear BB hb
  obtain ⟨n0, n1, n2, n3, n4, nl⟩ := Hn.out
  obtain ⟨a0, a1, a2, a3, a4, al⟩ := Ha.out
  obtain ⟨b0, b1, b2, b3, b4, bl⟩ := Hb.out
  obtain ⟨p0, p1, p2, p3, p4, pl⟩ := Hp.out
  obtain ⟨q0, q1, q2, q3, q4, ql⟩ := Hq.out
  obtain ⟨c0, c1, c2, c3, c4, cl⟩ := Hc.out
  obtain ⟨f0, f1, f2, f3, f4, fl⟩ := Hf.out
  obtain ⟨rfl, rfl, rfl⟩ := act_lit ha (X := ⟨false, false, false, false, false⟩) (Y := ⟨false, false, false, false, false⟩) (C := 1) (by decide)
  clear ha
  simp only
  go_wp2_with fail
  refine (act_any _ (by decide) (by decide) _ _ _ _ _ _ _ _ _ _ _).mono ?_
  rintro e w5 ⟨x, y, c, ha, rfl, hb⟩
  clear n0 n1 n2 n3 n4 nl a0 a1 a2 a3 a4 al b0 b1 b2 b3 b4 bl p0 p1 p2 p3 p4 pl q0 q1 q2 q3 q4 ql c0 c1 c2 c3 c4 cl f0 f1 f2 f3 f4 fl
  obtain ⟨N1, N2, BB⟩ := box2 (by simpa using hb)
  have Hr := Lib.hid N1
  have Hs := Lib.hid N2
  clear N1 N2
  replace Hn := Lib.hid (Hn.out.kept BB)
  replace Ha := Lib.hid (Ha.out.kept BB)
  replace Hb := Lib.hid (Hb.out.kept BB)
  replace Hp := Lib.hid (Hp.out.kept BB)
  replace Hq := Lib.hid (Hq.out.kept BB)
  replace Hc := Lib.hid (Hc.out.kept BB)
  replace Hf := Lib.hid (Hf.out.kept BB)
  replace HB := Lib.hid (HB.out.trans (BB.mono HB.out.size))
  clear BB hb
  obtain ⟨n0, n1, n2, n3, n4, nl⟩ := Hn.out
  obtain ⟨a0, a1, a2, a3, a4, al⟩ := Ha.out
  obtain ⟨b0, b1, b2, b3, b4, bl⟩ := Hb.out
  obtain ⟨p0, p1, p2, p3, p4, pl⟩ := Hp.out
  obtain ⟨q0, q1, q2, q3, q4, ql⟩ := Hq.out
  obtain ⟨c0, c1, c2, c3, c4, cl⟩ := Hc.out
  obtain ⟨f0, f1, f2, f3, f4, fl⟩ := Hf.out
  obtain ⟨r0, r1, r2, r3, r4, rl⟩ := Hr.out
  obtain ⟨s0, s1, s2, s3, s4, sl⟩ := Hs.out
  obtain ⟨rfl, rfl, rfl⟩ := act_lit ha (X := ⟨false, true, false, false, true⟩) (Y := ⟨true, false, false, false, false⟩) (C := 0) (by decide)
  clear ha
  simp only
  go_wp2_with fail
  refine (sees_any _ _ _ _ _ _ _ _ _ _ _).mono ?_
  rintro e w6 ⟨rfl, hb⟩
  clear n0 n1 n2 n3 n4 nl a0 a1 a2 a3 a4 al b0 b1 b2 b3 b4 bl p0 p1 p2 p3 p4 pl q0 q1 q2 q3 q4 ql c0 c1 c2 c3 c4 cl f0 f1 f2 f3 f4 fl r0 r1 r2 r3 r4 rl s0 s1 s2 s3 s4 sl
  obtain ⟨N1, N2, BB⟩ := box2 (by simpa using hb)
  have Hk := Lib.hid N1
  have Hz := Lib.hid N2
  clear N1 N2
  replace Hn := Lib.hid (Hn.out.kept BB)
  replace Ha := Lib.hid (Ha.out.kept BB)
  replace Hb := Lib.hid (Hb.out.kept BB)
  replace Hp := Lib.hid (Hp.out.kept BB)
  replace Hq := Lib.hid (Hq.out.kept BB)
  replace Hc := Lib.hid (Hc.out.kept BB)
  replace Hf := Lib.hid (Hf.out.kept BB)
  replace Hr := Lib.hid (Hr.out.kept BB)
  replace Hs := Lib.hid (Hs.out.kept BB)
  replace HB := Lib.hid (HB.out.trans (BB.mono HB.out.size))
  clear BB hb
  obtain ⟨n0, n1, n2, n3, n4, nl⟩ := Hn.out
  obtain ⟨a0, a1, a2, a3, a4, al⟩ := Ha.out
  obtain ⟨b0, b1, b2, b3, b4, bl⟩ := Hb.out
  obtain ⟨p0, p1, p2, p3, p4, pl⟩ := Hp.out
  obtain ⟨q0, q1, q2, q3, q4, ql⟩ := Hq.out
  obtain ⟨c0, c1, c2, c3, c4, cl⟩ := Hc.out
  obtain ⟨f0, f1, f2, f3, f4, fl⟩ := Hf.out
  obtain ⟨r0, r1, r2, r3, r4, rl⟩ := Hr.out
  obtain ⟨s0, s1, s2, s3, s4, sl⟩ := Hs.out
  obtain ⟨k0, k1, k2, k3, k4, kl⟩ := Hk.out
  obtain ⟨z0, z1, z2, z3, z4, zl⟩ := Hz.out
  go_wp2_with fail
  refine (sees_any _ _ _ _ _ _ _ _ _ _ _).mono ?_
  rintro e w7 ⟨rfl, hb⟩
  clear n0 n1 n2 n3 n4 nl a0 a1 a2 a3 a4 al b0 b1 b2 b3 b4 bl p0 p1 p2 p3 p4 pl q0 q1 q2 q3 q4 ql c0 c1 c2 c3 c4 cl f0 f1 f2 f3 f4 fl r0 r1 r2 r3 r4 rl s0 s1 s2 s3 s4 sl k0 k1 k2 k3 k4 kl z0 z1 z2 z3 z4 zl
  have BB := hb
  replace Hn := Lib.hid (Hn.out.kept BB)
  replace Ha := Lib.hid (Ha.out.kept BB)
  replace Hb := Lib.hid (Hb.out.kept BB)
  replace Hp := Lib.hid (Hp.out.kept BB)
  replace Hq := Lib.hid (Hq.out.kept BB)
  replace Hc := Lib.hid (Hc.out.kept BB)
  replace Hf := Lib.hid (Hf.out.kept BB)
  replace Hr := Lib.hid (Hr.out.kept BB)
  replace Hs := Lib.hid (Hs.out.kept BB)
  replace Hk := Lib.hid (Hk.out.kept BB)
  replace Hz := Lib.hid (Hz.out.kept BB)
  replace HB := Lib.hid (HB.out.trans (BB.mono HB.out.size))
  clear BB hb
  obtain ⟨n0, n1, n2, n3, n4, nl⟩ := Hn.out
  obtain ⟨a0, a1, a2, a3, a4, al⟩ := Ha.out
  obtain ⟨b0, b1, b2, b3, b4, bl⟩ := Hb.out
  obtain ⟨p0, p1, p2, p3, p4, pl⟩ := Hp.out
  obtain ⟨q0, q1, q2, q3, q4, ql⟩ := Hq.out
  obtain ⟨c0, c1, c2, c3, c4, cl⟩ := Hc.out
  obtain ⟨f0, f1, f2, f3, f4, fl⟩ := Hf.out
  obtain ⟨r0, r1, r2, r3, r4, rl⟩ := Hr.out
  obtain ⟨s0, s1, s2, s3, s4, sl⟩ := Hs.out
  obtain ⟨k0, k1, k2, k3, k4, kl⟩ := Hk.out
  obtain ⟨z0, z1, z2, z3, z4, zl⟩ := Hz.out
  go_wp2_with fail
  refine (sees_any _ _ _ _ _ _ _ _ _ _ _).mono ?_
  rintro e w8 ⟨rfl, hb⟩
  clear n0 n1 n2 n3 n4 nl a0 a1 a2 a3 a4 al b0 b1 b2 b3 b4 bl p0 p1 p2 p3 p4 pl q0 q1 q2 q3 q4 ql c0 c1 c2 c3 c4 cl f0 f1 f2 f3 f4 fl r0 r1 r2 r3 r4 rl s0 s1 s2 s3 s4 sl k0 k1 k2 k3 k4 kl z0 z1 z2 z3 z4 zl
  have BB := hb
  replace Hn := Lib.hid (Hn.out.kept BB)
  replace Ha := Lib.hid (Ha.out.kept BB)
  replace Hb := Lib.hid (Hb.out.kept BB)
  replace Hp := Lib.hid (Hp.out.kept BB)
  replace Hq := Lib.hid (Hq.out.kept BB)
  replace Hc := Lib.hid (Hc.out.kept BB)
  replace Hf := Lib.hid (Hf.out.kept BB)
  replace Hr := Lib.hid (Hr.out.kept BB)
  replace Hs := Lib.hid (Hs.out.kept BB)
  replace Hk := Lib.hid (Hk.out.kept BB)
  replace Hz := Lib.hid (Hz.out.kept BB)
  replace HB := Lib.hid (HB.out.trans (BB.mono HB.out.size))
  clear BB hb
  obtain ⟨n0, n1, n2, n3, n4, nl⟩ := Hn.out
  obtain ⟨a0, a1, a2, a3, a4, al⟩ := Ha.out
  obtain ⟨b0, b1, b2, b3, b4, bl⟩ := Hb.out
  obtain ⟨p0, p1, p2, p3, p4, pl⟩ := Hp.out
  obtain ⟨q0, q1, q2, q3, q4, ql⟩ := Hq.out
  obtain ⟨c0, c1, c2, c3, c4, cl⟩ := Hc.out
  obtain ⟨f0, f1, f2, f3, f4, fl⟩ := Hf.out
  obtain ⟨r0, r1, r2, r3, r4, rl⟩ := Hr.out
  obtain ⟨s0, s1, s2, s3, s4, sl⟩ := Hs.out
  obtain ⟨k0, k1, k2, k3, k4, kl⟩ := Hk.out
  obtain ⟨z0, z1, z2, z3, z4, zl⟩ := Hz.out
  go_wp2_with fail
  refine (may_any _ _ _ _ _ _ _ _ _ _ _).mono ?_
  rintro e w9 ⟨rfl, hb⟩
  clear n0 n1 n2 n3 n4 nl a0 a1 a2 a3 a4 al b0 b1 b2 b3 b4 bl p0 p1 p2 p3 p4 pl q0 q1 q2 q3 q4 ql c0 c1 c2 c3 c4 cl f0 f1 f2 f3 f4 fl r0 r1 r2 r3 r4 rl s0 s1 s2 s3 s4 sl k0 k1 k2 k3 k4 kl z0 z1 z2 z3 z4 zl
  have BB := hb
  replace Hn := Lib.hid (Hn.out.kept BB)
  replace Ha := Lib.hid (Ha.out.kept BB)
  replace Hb := Lib.hid (Hb.out.kept BB)
  replace Hp := Lib.hid (Hp.out.kept BB)
  replace Hq := Lib.hid (Hq.out.kept BB)
  replace Hc := Lib.hid (Hc.out.kept BB)
  replace Hf := Lib.hid (Hf.out.kept BB)
  replace Hr := Lib.hid (Hr.out.kept BB)
  replace Hs := Lib.hid (Hs.out.kept BB)
  replace Hk := Lib.hid (Hk.out.kept BB)
  replace Hz := Lib.hid (Hz.out.kept BB)
  replace HB := Lib.hid (HB.out.trans (BB.mono HB.out.size))
  clear BB hb
  obtain ⟨n0, n1, n2, n3, n4, nl⟩ := Hn.out
  obtain ⟨a0, a1, a2, a3, a4, al⟩ := Ha.out
  obtain ⟨b0, b1, b2, b3, b4, bl⟩ := Hb.out
  obtain ⟨p0, p1, p2, p3, p4, pl⟩ := Hp.out
  obtain ⟨q0, q1, q2, q3, q4, ql⟩ := Hq.out
  obtain ⟨c0, c1, c2, c3, c4, cl⟩ := Hc.out
  obtain ⟨f0, f1, f2, f3, f4, fl⟩ := Hf.out
  obtain ⟨r0, r1, r2, r3, r4, rl⟩ := Hr.out
  obtain ⟨s0, s1, s2, s3, s4, sl⟩ := Hs.out
  obtain ⟨k0, k1, k2, k3, k4, kl⟩ := Hk.out
  obtain ⟨z0, z1, z2, z3, z4, zl⟩ := Hz.out
  simp only [fitsB]
  go_wp2_with fail
  refine (may_any _ _ _ _ _ _ _ _ _ _ _).mono ?_
  rintro e w10 ⟨rfl, hb⟩
  clear n0 n1 n2 n3 n4 nl a0 a1 a2 a3 a4 al b0 b1 b2 b3 b4 bl p0 p1 p2 p3 p4 pl q0 q1 q2 q3 q4 ql c0 c1 c2 c3 c4 cl f0 f1 f2 f3 f4 fl r0 r1 r2 r3 r4 rl s0 s1 s2 s3 s4 sl k0 k1 k2 k3 k4 kl z0 z1 z2 z3 z4 zl
  have BB := hb
  replace Hn := Lib.hid (Hn.out.kept BB)
  replace Ha := Lib.hid (Ha.out.kept BB)
  replace Hb := Lib.hid (Hb.out.kept BB)
  replace Hp := Lib.hid (Hp.out.kept BB)
  replace Hq := Lib.hid (Hq.out.kept BB)
  replace Hc := Lib.hid (Hc.out.kept BB)
  replace Hf := Lib.hid (Hf.out.kept BB)
  replace Hr := Lib.hid (Hr.out.kept BB)
  replace Hs := Lib.hid (Hs.out.kept BB)
  replace Hk := Lib.hid (Hk.out.kept BB)
  replace Hz := Lib.hid (Hz.out.kept BB)
  replace HB := Lib.hid (HB.out.trans (BB.mono HB.out.size))
  clear BB hb
  obtain ⟨n0, n1, n2, n3, n4, nl⟩ := Hn.out
  obtain ⟨a0, a1, a2, a3, a4, al⟩ := Ha.out
  obtain ⟨b0, b1, b2, b3, b4, bl⟩ := Hb.out
  obtain ⟨p0, p1, p2, p3, p4, pl⟩ := Hp.out
  obtain ⟨q0, q1, q2, q3, q4, ql⟩ := Hq.out
  obtain ⟨c0, c1, c2, c3, c4, cl⟩ := Hc.out
  obtain ⟨f0, f1, f2, f3, f4, fl⟩ := Hf.out
  obtain ⟨r0, r1, r2, r3, r4, rl⟩ := Hr.out
  obtain ⟨s0, s1, s2, s3, s4, sl⟩ := Hs.out
  obtain ⟨k0, k1, k2, k3, k4, kl⟩ := Hk.out
  obtain ⟨z0, z1, z2, z3, z4, zl⟩ := Hz.out
  simp only [fitsB]
  go_wp2_with fail
  refine (empty_any _ _ _ _ _ _).mono ?_
  rintro e w11 ⟨rfl, hb⟩
  clear n0 n1 n2 n3 n4 nl a0 a1 a2 a3 a4 al b0 b1 b2 b3 b4 bl p0 p1 p2 p3 p4 pl q0 q1 q2 q3 q4 ql c0 c1 c2 c3 c4 cl f0 f1 f2 f3 f4 fl r0 r1 r2 r3 r4 rl s0 s1 s2 s3 s4 sl k0 k1 k2 k3 k4 kl z0 z1 z2 z3 z4 zl
  have BB := hb
  replace Hn := Lib.hid (Hn.out.kept BB)
  replace Ha := Lib.hid (Ha.out.kept BB)
  replace Hb := Lib.hid (Hb.out.kept BB)
  replace Hp := Lib.hid (Hp.out.kept BB)
  replace Hq := Lib.hid (Hq.out.kept BB)
  replace Hc := Lib.hid (Hc.out.kept BB)
  replace Hf := Lib.hid (Hf.out.kept BB)
  replace Hr := Lib.hid (Hr.out.kept BB)
  replace Hs := Lib.hid (Hs.out.kept BB)
  replace Hk := Lib.hid (Hk.out.kept BB)
  replace Hz := Lib.hid (Hz.out.kept BB)
  replace HB := Lib.hid (HB.out.trans (BB.mono HB.out.size))
  clear BB hb
  obtain ⟨n0, n1, n2, n3, n4, nl⟩ := Hn.out
  obtain ⟨a0, a1, a2, a3, a4, al⟩ := Ha.out
  obtain ⟨b0, b1, b2, b3, b4, bl⟩ := Hb.out
  obtain ⟨p0, p1, p2, p3, p4, pl⟩ := Hp.out
  obtain ⟨q0, q1, q2, q3, q4, ql⟩ := Hq.out
  obtain ⟨c0, c1, c2, c3, c4, cl⟩ := Hc.out
  obtain ⟨f0, f1, f2, f3, f4, fl⟩ := Hf.out
  obtain ⟨r0, r1, r2, r3, r4, rl⟩ := Hr.out
  obtain ⟨s0, s1, s2, s3, s4, sl⟩ := Hs.out
  obtain ⟨k0, k1, k2, k3, k4, kl⟩ := Hk.out
  obtain ⟨z0, z1, z2, z3, z4, zl⟩ := Hz.out
  simp only [emptyB]
  go_wp2_with fail
  refine (empty_any _ _ _ _ _ _).mono ?_
  rintro e w12 ⟨rfl, hb⟩
  clear n0 n1 n2 n3 n4 nl a0 a1 a2 a3 a4 al b0 b1 b2 b3 b4 bl p0 p1 p2 p3 p4 pl q0 q1 q2 q3 q4 ql c0 c1 c2 c3 c4 cl f0 f1 f2 f3 f4 fl r0 r1 r2 r3 r4 rl s0 s1 s2 s3 s4 sl k0 k1 k2 k3 k4 kl z0 z1 z2 z3 z4 zl
  have BB := hb
  replace Hn := Lib.hid (Hn.out.kept BB)
  replace Ha := Lib.hid (Ha.out.kept BB)
  replace Hb := Lib.hid (Hb.out.kept BB)
  replace Hp := Lib.hid (Hp.out.kept BB)
  replace Hq := Lib.hid (Hq.out.kept BB)
  replace Hc := Lib.hid (Hc.out.kept BB)
  replace Hf := Lib.hid (Hf.out.kept BB)
  replace Hr := Lib.hid (Hr.out.kept BB)
  replace Hs := Lib.hid (Hs.out.kept BB)
  replace Hk := Lib.hid (Hk.out.kept BB)
  replace Hz := Lib.hid (Hz.out.kept BB)
  replace HB := Lib.hid (HB.out.trans (BB.mono HB.out.size))
  clear BB hb
  obtain ⟨n0, n1, n2, n3, n4, nl⟩ := Hn.out
  obtain ⟨a0, a1, a2, a3, a4, al⟩ := Ha.out
  obtain ⟨b0, b1, b2, b3, b4, bl⟩ := Hb.out
  obtain ⟨p0, p1, p2, p3, p4, pl⟩ := Hp.out
  obtain ⟨q0, q1, q2, q3, q4, ql⟩ := Hq.out
  obtain ⟨c0, c1, c2, c3, c4, cl⟩ := Hc.out
  obtain ⟨f0, f1, f2, f3, f4, fl⟩ := Hf.out
  obtain ⟨r0, r1, r2, r3, r4, rl⟩ := Hr.out
  obtain ⟨s0, s1, s2, s3, s4, sl⟩ := Hs.out
  obtain ⟨k0, k1, k2, k3, k4, kl⟩ := Hk.out
  obtain ⟨z0, z1, z2, z3, z4, zl⟩ := Hz.out
  simp only [emptyB]
  go_wp2_with fail
  refine (name_any _ _ _ _ _ _).mono ?_
  rintro e w13 ⟨rfl, hb⟩
  clear n0 n1 n2 n3 n4 nl a0 a1 a2 a3 a4 al b0 b1 b2 b3 b4 bl p0 p1 p2 p3 p4 pl q0 q1 q2 q3 q4 ql c0 c1 c2 c3 c4 cl f0 f1 f2 f3 f4 fl r0 r1 r2 r3 r4 rl s0 s1 s2 s3 s4 sl k0 k1 k2 k3 k4 kl z0 z1 z2 z3 z4 zl
  have BB := hb
  replace Hn := Lib.hid (Hn.out.kept BB)
  replace Ha := Lib.hid (Ha.out.kept BB)
  replace Hb := Lib.hid (Hb.out.kept BB)
  replace Hp := Lib.hid (Hp.out.kept BB)
  replace Hq := Lib.hid (Hq.out.kept BB)
  replace Hc := Lib.hid (Hc.out.kept BB)
  replace Hf := Lib.hid (Hf.out.kept BB)
  replace Hr := Lib.hid (Hr.out.kept BB)
  replace Hs := Lib.hid (Hs.out.kept BB)
  replace Hk := Lib.hid (Hk.out.kept BB)
  replace Hz := Lib.hid (Hz.out.kept BB)
  replace HB := Lib.hid (HB.out.trans (BB.mono HB.out.size))
  clear BB hb
  obtain ⟨n0, n1, n2, n3, n4, nl⟩ := Hn.out
  obtain ⟨a0, a1, a2, a3, a4, al⟩ := Ha.out
  obtain ⟨b0, b1, b2, b3, b4, bl⟩ := Hb.out
  obtain ⟨p0, p1, p2, p3, p4, pl⟩ := Hp.out
  obtain ⟨q0, q1, q2, q3, q4, ql⟩ := Hq.out
  obtain ⟨c0, c1, c2, c3, c4, cl⟩ := Hc.out
  obtain ⟨f0, f1, f2, f3, f4, fl⟩ := Hf.out
  obtain ⟨r0, r1, r2, r3, r4, rl⟩ := Hr.out
  obtain ⟨s0, s1, s2, s3, s4, sl⟩ := Hs.out
  obtain ⟨k0, k1, k2, k3, k4, kl⟩ := Hk.out
  obtain ⟨z0, z1, z2, z3, z4, zl⟩ := Hz.out
  simp only [nameB]
  go_wp2_with fail
  refine (name_any _ _ _ _ _ _).mono ?_
  rintro e w14 ⟨rfl, hb⟩
  clear n0 n1 n2 n3 n4 nl a0 a1 a2 a3 a4 al b0 b1 b2 b3 b4 bl p0 p1 p2 p3 p4 pl q0 q1 q2 q3 q4 ql c0 c1 c2 c3 c4 cl f0 f1 f2 f3 f4 fl r0 r1 r2 r3 r4 rl s0 s1 s2 s3 s4 sl k0 k1 k2 k3 k4 kl z0 z1 z2 z3 z4 zl
  have BB := hb
  replace Hn := Lib.hid (Hn.out.kept BB)
  replace Ha := Lib.hid (Ha.out.kept BB)
  replace Hb := Lib.hid (Hb.out.kept BB)
  replace Hp := Lib.hid (Hp.out.kept BB)
  replace Hq := Lib.hid (Hq.out.kept BB)
  replace Hc := Lib.hid (Hc.out.kept BB)
  replace Hf := Lib.hid (Hf.out.kept BB)
  replace Hr := Lib.hid (Hr.out.kept BB)
  replace Hs := Lib.hid (Hs.out.kept BB)
  replace Hk := Lib.hid (Hk.out.kept BB)
  replace Hz := Lib.hid (Hz.out.kept BB)
  replace HB := Lib.hid (HB.out.trans (BB.mono HB.out.size))
  clear BB hb
  obtain ⟨n0, n1, n2, n3, n4, nl⟩ := Hn.out
  obtain ⟨a0, a1, a2, a3, a4, al⟩ := Ha.out
  obtain ⟨b0, b1, b2, b3, b4, bl⟩ := Hb.out
  obtain ⟨p0, p1, p2, p3, p4, pl⟩ := Hp.out
  obtain ⟨q0, q1, q2, q3, q4, ql⟩ := Hq.out
  obtain ⟨c0, c1, c2, c3, c4, cl⟩ := Hc.out
  obtain ⟨f0, f1, f2, f3, f4, fl⟩ := Hf.out
  obtain ⟨r0, r1, r2, r3, r4, rl⟩ := Hr.out
  obtain ⟨s0, s1, s2, s3, s4, sl⟩ := Hs.out
  obtain ⟨k0, k1, k2, k3, k4, kl⟩ := Hk.out
  obtain ⟨z0, z1, z2, z3, z4, zl⟩ := Hz.out
  simp only [nameB]
  go_wp2_with fail
  go_ret
  exact ⟨rfl, HB.out⟩

end Go.Proofs.Ytjelnndiahkoeaa
