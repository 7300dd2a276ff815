/-
  What '[]byte(s)' lays, as a world of which only facts are kept: a row that the call owns, its cells, nothing older turned. No program.
-/
import Derived.WalkKit
import Derived.Lib.ConvBytes
import Derived.Laws.IdiomStrings
namespace Go.Proofs.Ytogficnmbfpbjaa
open Go.RowKit

/-- A row of one-cell elements that the call owns; a stretch behind its cells may be marked. -/
def ownsB (w : World) (base : Nat) (e : TypeId) (v : Value) (xs : List Value) : Prop :=
  ∃ g cap cur fz, v = .slice (some ⟨g, 0, none⟩) xs.length cap ∧ base ≤ g ∧ w.heap[g]? = some (.cells cur e fz) ∧ (fz = (0, 0) ∨ cur.size ≤ fz.1) ∧ xs.length ≤ cap ∧ cap ≤ maxLen ∧ cur.size = cap ∧ cur.toList.take xs.length = xs

theorem ownsB.kept {w w' : World} {base : Nat} {e : TypeId} {v : Value} {xs : List Value} {B : Nat} (h : ownsB w base e v xs) (hb : Below B w w') (hlt : ∀ k, v.ownBlock = some k → k < B) : ownsB w' base e v xs := by
  obtain ⟨g, cap, cur, fz, rfl, h1, h2, h3⟩ := h
  exact ⟨g, cap, cur, fz, rfl, h1, by rw [hb.block g (hlt g rfl)]; exact h2, h3⟩

theorem ownsB.lt {w : World} {base : Nat} {e : TypeId} {v : Value} {xs : List Value} (h : ownsB w base e v xs) : ∀ k, v.ownBlock = some k → base ≤ k ∧ k < w.heap.size := by
  obtain ⟨g, cap, cur, fz, rfl, h1, h2, _⟩ := h
  intro k hk
  simp [Value.ownBlock] at hk
  subst hk
  exact ⟨h1, (Array.getElem?_eq_some_iff.1 h2).1⟩

theorem ownsB.alloc {w : World} {base : Nat} {e : TypeId} {v : Value} {xs : List Value} (h : ownsB w base e v xs) (o : Obj) : ownsB (w.alloc o) base e v xs :=
  h.kept (Below.alloc (B := w.heap.size) (Below.refl _ _) (Nat.le_refl _) o) fun k hk => (h.lt k hk).2

theorem ownsB.drew {w : World} {base : Nat} {e : TypeId} {v : Value} {xs : List Value} (h : ownsB w base e v xs) : ownsB w.drew base e v xs := h

/-- Its cells. -/
theorem ownsB.cellAt {w : World} {base : Nat} {e : TypeId} {g n cap : Nat} {xs : List Value} (h : ownsB w base e (.slice (some ⟨g, 0, none⟩) n cap) xs) (j : Nat) (hj : j < xs.length) : w.cell? ⟨g, j, none⟩ = some (xs[j]) := by
  obtain ⟨g', cap', cur, fz, hv, _, h2, _, h4, _, h6, h7⟩ := h
  simp at hv
  obtain ⟨rfl, rfl, rfl⟩ := hv
  have hc : j < cur.size := by omega
  have e : cur[j] = xs[j] := by
    have : (cur.toList.take xs.length)[j]? = xs[j]? := by rw [h7]
    rw [List.getElem?_take, if_pos hj, List.getElem?_eq_getElem hj] at this
    have hc2 : j < cur.toList.length := by simpa using hc
    rw [List.getElem?_eq_getElem hc2] at this
    simpa using this
  simp [World.cell?, h2, hc, e]

theorem ownsB.frozenAt {w : World} {base : Nat} {e : TypeId} {g n cap : Nat} {xs : List Value} (h : ownsB w base e (.slice (some ⟨g, 0, none⟩) n cap) xs) (j : Nat) (hj : j < xs.length) : w.frozen? ⟨g, j, none⟩ = false := by
  obtain ⟨g', cap', cur, fz, hv, _, h2, h3, h4, _, h6, h7⟩ := h
  simp at hv
  obtain ⟨rfl, rfl, rfl⟩ := hv
  obtain ⟨lo, hi⟩ := fz
  simp only [World.frozen?, h2]
  rcases h3 with h3 | h3
  · simp at h3; simp [h3]
  · simp at h3
    have : ¬ lo ≤ j := by omega
    simp [this]

/-- A store into it. -/
theorem ownsB.stored {w : World} {base : Nat} {e : TypeId} {g n cap : Nat} {xs : List Value} (h : ownsB w base e (.slice (some ⟨g, 0, none⟩) n cap) xs) (j : Nat) (u : Value) :
    ownsB (w.setCell ⟨g, j, none⟩ u) base e (.slice (some ⟨g, 0, none⟩) n cap) (xs.set j u) := by
  obtain ⟨g', cap', cur, fz, hv, h1, h2, h3, h4, h5, h6, h7⟩ := h
  simp at hv
  obtain ⟨rfl, rfl, rfl⟩ := hv
  refine ⟨g, cap, cur.setIfInBounds j u, fz, by simp, h1, ?_, by simpa using h3, by simpa using h4, h5, by simpa using h6, ?_⟩
  · simp [World.setCell, Array.getElem?_modify, h2]
  · rw [Array.toList_setIfInBounds, List.length_set, List.take_set, h7]

def byteVal (b : UInt8) : Value := .int .u8 (b.toNat : Int)

/-- The row behind '[]byte(s)'. -/
theorem bytes_row {P : Program} (w : World) (src dst e : TypeId) (s : ByteArray) (hs : P.underlying src = some .string) (hd : P.underlying dst = some (.slice e)) (he : P.underlying e = some (.int .u8)) (hl : s.size ≤ maxLen) :
    ∃ W1 cap, (convert src dst (.string s)).run P w = .ok (.slice (some ⟨w.heap.size, 0, none⟩) s.size cap) W1 ∧ ownsB W1 w.heap.size e (.slice (some ⟨w.heap.size, 0, none⟩) s.size cap) (s.data.toList.map byteVal) ∧ Below w.heap.size w W1 ∧ W1.heap.size = w.heap.size + 1 := by
  have hc := run_bytes_of_string (P := P) w src dst e s hs hd he
  have hge := grownCap_ge w s.size 0 e
  have hle := grownCap_le_maxLen w s.size 0 e hl
  have hz : s.data.size = s.size := rfl
  refine ⟨_, _, hc, ⟨w.heap.size, _, _, _, ?_, Nat.le_refl _, heap_alloc_new w.drew _, .inr (Nat.le_refl _), ?_, hle, ?_, ?_⟩, ?_, ?_⟩
  · simp [hz]
  · simpa using hge
  · simp [bytesRow, hz]; omega
  · simp [bytesRow, hz, byteVal]
  · exact Below.alloc (Below.drew (Below.refl _ _)) (Nat.le_refl _) _
  · simp

theorem storeCells_M (P : Program) (g o : Nat) (t : TypeId) (fz : Nat × Nat) : ∀ (vs : List Value) (i : Nat) (cur : Array Value) (w : World), w.heap[g]? = some (.cells cur t fz) → (fz = (0, 0) ∨ cur.size ≤ fz.1) → o + i + vs.length ≤ cur.size → (∀ v ∈ vs, v.oneCell' = true) →
    (storeCells ⟨g, o, none⟩ vs i).run P w = .ok () (w.setRow g (cur.toList.take (o + i) ++ vs ++ cur.toList.drop (o + i + vs.length)).toArray)
  | [], i, cur, w, hg, _, _, _ => by
    simp only [storeCells, List.append_nil, List.length_nil, Nat.add_zero, List.take_append_drop, Array.toArray_toList]
    rw [setRow_self w g cur t fz hg]
    rfl
  | v :: rest, i, cur, w, hg, hfz, hl, h1 => by
    have hi : o + i < cur.size := by simp at hl; omega
    have hadd : (⟨g, o, none⟩ : Addr).add i = ⟨g, o + i, none⟩ := by unfold Addr.add; split <;> simp_all
    have hcell : w.cell? ⟨g, o + i, none⟩ = some cur[o + i] := by simp [World.cell?, hg, hi]
    have hfro : w.frozen? ⟨g, o + i, none⟩ = false := by
      obtain ⟨lo, hi'⟩ := fz
      simp only [World.frozen?, hg]
      rcases hfz with hfz | hfz
      · simp at hfz; simp [hfz]
      · simp at hfz
        have : ¬ lo ≤ o + i := by omega
        simp [this]
    have hst : (store ((⟨g, o, none⟩ : Addr).add i) v).run P w = .ok () (w.setRow g (cur.setIfInBounds (o + i) v)) := by
      rw [hadd, run_store P w _ v _ (h1 v (by simp)), hcell]
      simp [hfro, setCell_eq_setRow w g (o + i) cur t fz v hg]
    have ih := storeCells_M P g o t fz rest (i + 1) (cur.setIfInBounds (o + i) v) (w.setRow g (cur.setIfInBounds (o + i) v)) (setRow_heap w g cur _ t _ hg) (by simpa using hfz) (by simp at hl ⊢; omega) (fun x hx => h1 x (by simp [hx]))
    simp only [storeCells, Sem.run_bind, hst, Result.andThen_ok, ih, setRow_setRow]
    congr 3
    have e := list_seg_step cur.toList (o + i) v rest (by simp at hl ⊢; omega)
    simpa [Array.toList_setIfInBounds, Nat.add_assoc] using e

section
variable {P : Program} (w : World)

/-- The arm with room. -/
theorem append_room_M (t ty e : TypeId) (i : TypeInfo) (ht : P.underlying t = some (.slice e)) (hi : P.info? e = some i) (hs1 : i.size = 1)
    (g sLen sCap : Nat) (cur : Array Value) (fz : Nat × Nat) (hg : w.heap[g]? = some (.cells cur e fz)) (hfz : fz = (0, 0) ∨ cur.size ≤ fz.1)
    (a : Addr) (c : Nat) (news : List Value) (hnews : ∀ j u, news[j]? = some u → w.cell? (a.add j) = some u) (h1 : ∀ u ∈ news, u.oneCell' = true)
    (hroom : sLen + news.length ≤ sCap) (hfit : sLen + news.length ≤ cur.size) :
    (Builtin.append_ #[t, t] ty #[.slice (some ⟨g, 0, none⟩) sLen sCap, .slice (some a) news.length c]).run P w =
      .ok (.slice (some ⟨g, 0, none⟩) (sLen + news.length) sCap) (w.setRow g (cur.toList.take sLen ++ news ++ cur.toList.drop (sLen + news.length)).toArray) := by
  have hf := run_firstCells_some (P := P) w 1 news.length a news.length c news (by omega) hnews
  have hst := storeCells_M P g sLen e fz news 0 cur w hg hfz (by simpa using hfit) h1
  simp only [Nat.add_zero] at hst
  simp [Builtin.append_, run_underlying ht, sizeOf, typeInfo, hi, hs1, Builtin.lenOf, hroom, hf, Addr.add_lit, hst]

theorem run_append_ownB (base : Nat) (t ty e : TypeId) (i : TypeInfo) (z : Value) (ht : P.underlying t = some (.slice e)) (hi : P.info? e = some i) (hz : i.zero = some z)
    (hsize : i.size = 1) (hby : i.bytes = 1) (hzs : z.cells.size = 1)
    (v : Value) (xs : List Value) (hown : ownsB w base e v xs)
    (a : Addr) (c : Nat) (news : List Value) (hnews : ∀ j u, news[j]? = some u → w.cell? (a.add j) = some u) (h1 : ∀ u ∈ news, u.oneCell' = true)
    (hb : xs.length + news.length ≤ 140737488355328) (hbase : base ≤ w.heap.size) :
    ∃ v' w', (Builtin.append_ #[t, t] ty #[v, .slice (some a) news.length c]).run P w = .ok v' w' ∧ ownsB w' base e v' (xs ++ news) ∧ w.grownBy w' v.ownBlock := by
  obtain ⟨g, cap, cur, fz, rfl, hbg, hg, hfz, hnc, hcm, hcs, htake⟩ := hown
  have h63 : xs.length + news.length ≤ maxLen := by unfold maxLen; omega
  by_cases hroom : xs.length + news.length ≤ cap
  · have hr := append_room_M (P := P) w t ty e i ht hi hsize g xs.length cap cur fz hg hfz a c news hnews h1 hroom (by omega)
    refine ⟨_, _, hr, ⟨g, cap, _, fz, by simp, hbg, setRow_heap w g cur _ e _ hg, ?_, by simpa using hroom, hcm, ?_, ?_⟩, ⟨rfl, rfl, rfl, by simp, fun k _ hk => setRow_other w g k _ (fun e => hk (by simp [Value.ownBlock, e]))⟩⟩
    · rcases hfz with h | h
      · exact .inl h
      · right; simp; omega
    · simp; omega
    · simp only [List.length_append]
      rw [htake, ← List.length_append]
      exact List.take_left
  · have holds : ∀ j u, xs[j]? = some u → w.cell? ((⟨g, 0, none⟩ : Addr).add j) = some u := by
      intro j u hu
      have hj : j < xs.length := (List.getElem?_eq_some_iff.1 hu).1
      have := ownsB.cellAt (w := w) (base := base) (e := e) (g := g) (n := xs.length) (cap := cap) (xs := xs) ⟨g, cap, cur, fz, rfl, hbg, hg, hfz, hnc, hcm, hcs, htake⟩ j hj
      have hadd : (⟨g, 0, none⟩ : Addr).add j = ⟨g, j, none⟩ := by unfold Addr.add; split <;> simp_all
      rw [hadd, this, ← hu, List.getElem?_eq_getElem hj]
    have hr := run_append_grow (P := P) w t ty e i z ht hi hz ⟨g, 0, none⟩ xs.length cap xs (by rw [hsize, Nat.mul_one]) holds a news.length c news (by rw [hsize, Nat.mul_one]) hnews (by omega) (by unfold maxLen at h63; omega) (by rw [hby]; exact growslice_fits (by omega) (by omega))
    have hge := grownCap_ge w (xs.length + news.length) cap e
    have hcm2 : grownCap w (xs.length + news.length) cap e ≤ maxLen := grownCap_le_maxLen w (xs.length + news.length) cap e h63
    refine ⟨_, _, hr, ⟨w.heap.size, _, _, (0, 0), by simp, hbase, heap_alloc_new w.drew _, .inl rfl, by simpa using hge, hcm2, ?_, ?_⟩, ⟨rfl, rfl, rfl, by simp, fun k hk _ => Below.heap_alloc w.drew _ k hk⟩⟩
    · simp only [Array.size_append, List.size_toArray, size_zeroCells, hzs]
      omega
    · simp only [Array.toList_append, List.append_assoc]
      rw [← List.append_assoc]
      exact List.take_left

theorem wpList_append_ownB {ops : Array Oper} {rest : List Oper} {o : Oper} {a : Act} {Q : Exit → Act → World → Prop} (hgd : o.guard = none) (s x : Operand) (t : TypeId)
    (ho : o.op = .call { callee := .builtin .append, args := #[s, x], argTypes := #[t, t] })
    (base : Nat) (e : TypeId) (i : TypeInfo) (z : Value) (ht : P.underlying t = some (.slice e)) (hi : P.info? e = some i) (hz : i.zero = some z)
    (hsize : i.size = 1) (hby : i.bytes = 1) (hzs : z.cells.size = 1)
    (v : Value) (xs : List Value) (hs : a.eval s = v) (hown : ownsB w base e v xs)
    (ad : Addr) (c : Nat) (news : List Value) (hx : a.eval x = .slice (some ad) news.length c) (hnews : ∀ j u, news[j]? = some u → w.cell? (ad.add j) = some u) (h1 : ∀ u ∈ news, u.oneCell' = true)
    (hb : xs.length + news.length ≤ 140737488355328) (hbase : base ≤ w.heap.size)
    (h : ∀ v' w', ownsB w' base e v' (xs ++ news) → w.grownBy w' v.ownBlock → wpList P ops Q rest (a.put o.dst v') w') : wpList P ops Q (o :: rest) a w := by
  refine wpList_plain hgd fun K hK => ?_
  obtain ⟨v', w', hr, h2, h3⟩ := run_append_ownB (P := P) w base t o.type e i z ht hi hz hsize hby hzs v xs hown ad c news hnews h1 hb hbase
  unfold Oper.wp execOp
  simp only [ho, resolve, invoke, builtin, Sem.run_bind, Sem.run_pure, Result.andThen_ok, List.map_toArray, List.map_cons, List.map_nil, hs, hx, hr]
  exact hK _ _ (h v' w' h2 h3)
end


/-- 'string(b)' of such a row. -/
theorem bytes_back {P : Program} (w : World) (src dst e : TypeId) {base : Nat} {v : Value} (l : List UInt8) (hs : P.underlying src = some (.slice e)) (he : P.underlying e = some (.int .u8)) (hd : P.underlying dst = some .string)
    (h : ownsB w base e v (l.map byteVal)) : (convert src dst v).run P w = .ok (.string ⟨l.toArray⟩) w := by
  have h' := h
  obtain ⟨g, cap, cur, fz, rfl, _⟩ := h'
  have := run_convert_bytes_back (P := P) w src dst e ⟨g, 0, none⟩ cap l hs he hd (fun j hj => by
    have hadd : (⟨g, 0, none⟩ : Addr).add j = ⟨g, j, none⟩ := by unfold Addr.add; split <;> simp_all
    rw [hadd, h.cellAt j (by simpa using hj)]
    simp [byteVal])
  simpa using this

end Go.Proofs.Ytogficnmbfpbjaa
