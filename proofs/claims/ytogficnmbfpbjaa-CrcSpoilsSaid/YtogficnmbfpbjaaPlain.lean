/-
  The sum of layer 2 as plain arithmetic on natural numbers: a bit's step is linear and loses nothing, so a burst of up to four bytes is always told. No program, no condition.
-/
namespace Go.Proofs.Ytogficnmbfpbjaa.Crcm

/-- One bit's step of the sum. -/
def lsh (x : Nat) : Nat := if x % 2 = 1 then (x / 2) ^^^ 3988292384 else x / 2

def iter : Nat → Nat → Nat
  | 0, x => x
  | k + 1, x => iter k (lsh x)

/-- A byte's step. -/
def step (c b : Nat) : Nat := iter 8 (c ^^^ b)

/-- All bytes of a text. -/
def run (c : Nat) (l : List Nat) : Nat := l.foldl step c

theorem xor_lt {x y : Nat} (hx : x < 4294967296) (hy : y < 4294967296) : x ^^^ y < 4294967296 :=
  Nat.xor_lt_two_pow (n := 32) hx hy

theorem lsh_lt {x : Nat} (hx : x < 4294967296) : lsh x < 4294967296 := by
  unfold lsh
  split
  · exact xor_lt (by omega) (by omega)
  · omega

theorem iter_lt (k : Nat) : ∀ {x : Nat}, x < 4294967296 → iter k x < 4294967296 := by
  induction k with
  | zero => intro x h; exact h
  | succ k ih => intro x h; exact ih (lsh_lt h)

theorem step_lt {c b : Nat} (hc : c < 4294967296) (hb : b < 256) : step c b < 4294967296 :=
  iter_lt 8 (xor_lt hc (by omega))

theorem run_lt (l : List Nat) : ∀ {c : Nat}, c < 4294967296 → (∀ b ∈ l, b < 256) → run c l < 4294967296 := by
  induction l with
  | nil => intro c hc _; exact hc
  | cons b l ih => intro c hc hb; exact ih (step_lt hc (hb b (by simp))) (fun x hx => hb x (by simp [hx]))

theorem xor_half (x y : Nat) : (x ^^^ y) / 2 = (x / 2) ^^^ (y / 2) := by
  have := Nat.xor_div_two_pow (a := x) (b := y) (n := 1); simpa using this

theorem xor_odd (x y : Nat) : (x ^^^ y) % 2 = (x % 2 + y % 2) % 2 := by
  have := Nat.xor_mod_two_pow (a := x) (b := y) (n := 1)
  simp only [Nat.pow_one] at this
  rw [this]
  rcases Nat.mod_two_eq_zero_or_one x with h | h <;> rcases Nat.mod_two_eq_zero_or_one y with g | g <;> simp [h, g]

theorem lsh_xor (x y : Nat) : lsh (x ^^^ y) = lsh x ^^^ lsh y := by
  unfold lsh
  rw [xor_odd, xor_half]
  rcases Nat.mod_two_eq_zero_or_one x with h | h <;> rcases Nat.mod_two_eq_zero_or_one y with g | g <;> simp [h, g]
  · rw [Nat.xor_assoc]
  · rw [Nat.xor_assoc, Nat.xor_assoc, Nat.xor_comm _ (y / 2)]
  · rw [Nat.xor_assoc, Nat.xor_comm _ (y / 2 ^^^ _), Nat.xor_assoc, Nat.xor_self, Nat.xor_zero]

theorem iter_xor (k : Nat) : ∀ x y, iter k (x ^^^ y) = iter k x ^^^ iter k y := by
  induction k with
  | zero => intro x y; rfl
  | succ k ih => intro x y; show iter k (lsh (x ^^^ y)) = _; rw [lsh_xor, ih]; rfl

theorem lsh_zero {x : Nat} (hx : x < 4294967296) (h : lsh x = 0) : x = 0 := by
  unfold lsh at h
  split at h
  · have : x / 2 = 3988292384 := by
      have h2 : (x / 2 ^^^ 3988292384) ^^^ 3988292384 = 0 ^^^ 3988292384 := by rw [h]
      rw [Nat.xor_assoc, Nat.xor_self, Nat.xor_zero, Nat.zero_xor] at h2
      exact h2
    omega
  · omega

theorem iter_zero (k : Nat) : ∀ {x : Nat}, x < 4294967296 → iter k x = 0 → x = 0 := by
  induction k with
  | zero => intro x _ h; exact h
  | succ k ih => intro x hx h; exact lsh_zero hx (ih (lsh_lt hx) h)

theorem xor_eq_zero {x y : Nat} : x ^^^ y = 0 ↔ x = y := by
  constructor
  · intro h
    have h2 : (x ^^^ y) ^^^ y = 0 ^^^ y := by rw [h]
    rwa [Nat.xor_assoc, Nat.xor_self, Nat.xor_zero, Nat.zero_xor] at h2
  · rintro rfl; exact Nat.xor_self _

theorem iter_inj {k x y : Nat} (hx : x < 4294967296) (hy : y < 4294967296) (h : iter k x = iter k y) : x = y := by
  have : iter k (x ^^^ y) = 0 := by rw [iter_xor, h, Nat.xor_self]
  exact xor_eq_zero.1 (iter_zero k (xor_lt hx hy) this)

theorem lsh_even (v : Nat) : lsh (2 * v) = v := by unfold lsh; rw [if_neg (by omega)]; omega

theorem iter8_shift (v : Nat) : iter 8 (256 * v) = v := by
  have e : 256 * v = 2 * (2 * (2 * (2 * (2 * (2 * (2 * (2 * v))))))) := by omega
  rw [e]; simp only [iter, lsh_even]

/-- Two states stepped by two bytes part by the step of what they part by. -/
theorem step_xor (c d b e : Nat) : step c b ^^^ step d e = step (c ^^^ d) (b ^^^ e) := by
  unfold step
  rw [← iter_xor]
  congr 1
  rw [Nat.xor_assoc, Nat.xor_assoc, ← Nat.xor_assoc b, Nat.xor_comm b d, Nat.xor_assoc d]

theorem xor4 (a b c d : Nat) : (a ^^^ b) ^^^ (c ^^^ d) = (a ^^^ c) ^^^ (b ^^^ d) := by
  rw [Nat.xor_assoc, Nat.xor_assoc, ← Nat.xor_assoc b, Nat.xor_comm b c, Nat.xor_assoc c]

/-- The sums of two texts of one length part as that of their difference from nought. -/
theorem run_xor (l : List Nat) : ∀ (m : List Nat) (c d : Nat), l.length = m.length → run c l ^^^ run d m = run (c ^^^ d) (List.zipWith (· ^^^ ·) l m) := by
  induction l with
  | nil => intro m c d h; cases m with
    | nil => rfl
    | cons => simp at h
  | cons b l ih => intro m c d h; cases m with
    | nil => simp at h
    | cons e m =>
      show run (step c b) l ^^^ run (step d e) m = _
      rw [ih m _ _ (by simpa using h), step_xor]
      rfl

/-- Four bytes, the lowest first, of a number. -/
def le4 (c : Nat) : List Nat := [c % 256, c / 256 % 256, c / 65536 % 256, c / 16777216 % 256]

/-- What stands behind a text when it is sealed. -/
def sum (l : List Nat) : Nat := run 4294967295 l ^^^ 4294967295
def sealed (l : List Nat) : List Nat := l ++ le4 (sum l)

def Bytes (l : List Nat) : Prop := ∀ b ∈ l, b < 256

theorem sum_lt {l : List Nat} (h : Bytes l) : sum l < 4294967296 := xor_lt (run_lt l (by omega) h) (by omega)

theorem le4_bytes (c : Nat) : Bytes (le4 c) := by
  intro b hb; simp only [le4, List.mem_cons, List.not_mem_nil, or_false] at hb
  rcases hb with rfl | rfl | rfl | rfl <;> exact Nat.mod_lt _ (by decide)

theorem sealed_bytes {l : List Nat} (h : Bytes l) : Bytes (sealed l) := by
  intro b hb
  rcases List.mem_append.1 hb with h' | h'
  · exact h b h'
  · exact le4_bytes _ b h'

theorem run_append (c : Nat) (l m : List Nat) : run c (l ++ m) = run (run c l) m := List.foldl_append

theorem iter_add (j k : Nat) : ∀ x, iter j (iter k x) = iter (k + j) x := by
  induction k with
  | zero => intro x; simp [iter]
  | succ k ih => intro x; rw [Nat.succ_add]; exact ih (lsh x)

theorem step_iter (k c b : Nat) : step (iter k c) b = iter (k + 8) c ^^^ iter 8 b := by
  unfold step; rw [iter_xor, iter_add]

/-- Four bytes at once. -/
theorem run4 (c b0 b1 b2 b3 : Nat) : run c [b0, b1, b2, b3] = iter 32 (c ^^^ b0 ^^^ (256 * b1) ^^^ (65536 * b2) ^^^ (16777216 * b3)) := by
  have e2 : 65536 * b2 = 256 * (256 * b2) := by omega
  have e3 : 16777216 * b3 = 256 * (256 * (256 * b3)) := by omega
  have s8 : ∀ v, iter 32 (256 * v) = iter 24 v := fun v => by rw [← iter_add 24 8, iter8_shift]
  have s16 : ∀ v, iter 24 (256 * v) = iter 16 v := fun v => by rw [← iter_add 16 8, iter8_shift]
  have s24 : ∀ v, iter 16 (256 * v) = iter 8 v := fun v => by rw [← iter_add 8 8, iter8_shift]
  simp only [run, List.foldl_cons, List.foldl_nil, e2, e3, iter_xor, s8, s16, s24]
  unfold step
  simp only [iter_xor, iter_add]

theorem join2 (x b : Nat) (k : Nat) (hb : b < 2 ^ k) : (2 ^ k * x) ^^^ b = 2 ^ k * x + b := by
  rw [Nat.two_pow_add_eq_or_of_lt hb]
  apply Nat.eq_of_testBit_eq
  intro i
  rw [Nat.testBit_xor, Nat.testBit_or]
  by_cases h : i < k
  · rw [Nat.testBit_two_pow_mul]; simp [show ¬ k ≤ i by omega]
  · have : b.testBit i = false := Nat.testBit_lt_two_pow (Nat.lt_of_lt_of_le hb (Nat.pow_le_pow_right (by decide) (by omega)))
    simp [this]

theorem le_join (b0 b1 b2 b3 : Nat) (h0 : b0 < 256) (h1 : b1 < 256) (h2 : b2 < 256) : b0 ^^^ (256 * b1) ^^^ (65536 * b2) ^^^ (16777216 * b3) = b0 + 256 * b1 + 65536 * b2 + 16777216 * b3 := by
  have a1 : b0 ^^^ (256 * b1) = 256 * b1 + b0 := by rw [Nat.xor_comm]; exact join2 b1 b0 8 h0
  have a2 : (256 * b1 + b0) ^^^ (65536 * b2) = 65536 * b2 + (256 * b1 + b0) := by rw [Nat.xor_comm]; exact join2 b2 _ 16 (by omega)
  have a3 : (65536 * b2 + (256 * b1 + b0)) ^^^ (16777216 * b3) = 16777216 * b3 + (65536 * b2 + (256 * b1 + b0)) := by rw [Nat.xor_comm]; exact join2 b3 _ 24 (by omega)
  rw [a1, a2, a3]; omega

theorem run_le4 (c v : Nat) (hv : v < 4294967296) : run c (le4 v) = iter 32 (c ^^^ v) := by
  have hj := le_join (v % 256) (v / 256 % 256) (v / 65536 % 256) (v / 16777216 % 256) (by omega) (by omega) (by omega)
  rw [le4, run4, Nat.xor_assoc c, Nat.xor_assoc c, Nat.xor_assoc c, hj]
  congr 2
  omega

/-- What is left of a sealed text: always the same. -/
theorem run_sealed {l : List Nat} (h : Bytes l) : run 4294967295 (sealed l) = iter 32 4294967295 := by
  unfold sealed
  rw [run_append, run_le4 _ _ (sum_lt h)]
  unfold sum
  rw [← Nat.xor_assoc, Nat.xor_self, Nat.zero_xor]

theorem run_zeros (n : Nat) : ∀ x, run x (List.replicate n 0) = iter (8 * n) x := by
  induction n with
  | zero => intro x; rfl
  | succ n ih =>
    intro x
    show run (step x 0) (List.replicate n 0) = _
    rw [ih, show step x 0 = iter 8 x by simp [step], iter_add]
    congr 1; omega

/-- Nought, but for four bytes from a place on. -/
def burst (n at_ : Nat) (m : List Nat) : List Nat := List.replicate at_ 0 ++ m ++ List.replicate (n - at_ - m.length) 0

/-- Up to four bytes that are not all nought leave something. -/
theorem run_short {m : List Nat} (hm : Bytes m) (hl : m.length ≤ 4) (h : run 0 m = 0) : ∀ b ∈ m, b = 0 := by
  obtain ⟨b0, b1, b2, b3, h0, h1, h2, h3, hz, hmem⟩ : ∃ b0 b1 b2 b3, b0 < 256 ∧ b1 < 256 ∧ b2 < 256 ∧ b3 < 256 ∧ run 0 [b0, b1, b2, b3] = 0 ∧ ∀ b ∈ m, b = b0 ∨ b = b1 ∨ b = b2 ∨ b = b3 := by
    have hp : run 0 (m ++ List.replicate (4 - m.length) 0) = 0 := by
      rw [run_append, h, run_zeros]
      generalize 8 * (4 - m.length) = k
      induction k with
      | zero => rfl
      | succ k ih => exact ih
    match m, hl with
    | [], _ => exact ⟨0, 0, 0, 0, by omega, by omega, by omega, by omega, hp, by simp⟩
    | [a], _ => exact ⟨a, 0, 0, 0, hm a (by simp), by omega, by omega, by omega, hp, by simp⟩
    | [a, b], _ => exact ⟨a, b, 0, 0, hm a (by simp), hm b (by simp), by omega, by omega, hp, by simp⟩
    | [a, b, c], _ => exact ⟨a, b, c, 0, hm a (by simp), hm b (by simp), hm c (by simp), by omega, hp, by simp⟩
    | [a, b, c, d], _ => exact ⟨a, b, c, d, hm a (by simp), hm b (by simp), hm c (by simp), hm d (by simp), hp, by simp⟩
    | a :: b :: c :: d :: e :: r, hl => simp at hl
  rw [run4, Nat.zero_xor, le_join b0 b1 b2 b3 h0 h1 h2] at hz
  have hv := iter_zero 32 (by omega) hz
  intro b hb
  rcases hmem b hb with rfl | rfl | rfl | rfl <;> omega

/-- THE THEOREM: of two sealed texts that part by a burst of at most four bytes none parts. -/
theorem burst_none {l k : List Nat} (hl : Bytes l) (hk : Bytes k) (n at_ : Nat) (m : List Nat) (hm : Bytes m) (h4 : m.length ≤ 4)
    (hlen : (sealed l).length = (sealed k).length) (hz : List.zipWith (· ^^^ ·) (sealed l) (sealed k) = burst n at_ m) : ∀ b ∈ m, b = 0 := by
  have h1 := run_xor (sealed l) (sealed k) 4294967295 4294967295 hlen
  rw [run_sealed hl, run_sealed hk, Nat.xor_self, Nat.xor_self, hz] at h1
  unfold burst at h1
  rw [run_append, run_append, run_zeros, run_zeros] at h1
  have z : ∀ k, iter k 0 = 0 := by
    intro k
    induction k with
    | zero => rfl
    | succ k ih => exact ih
  rw [z] at h1
  exact run_short hm h4 (iter_zero _ (run_lt m (by omega) hm) h1.symm)

end Go.Proofs.Ytogficnmbfpbjaa.Crcm
