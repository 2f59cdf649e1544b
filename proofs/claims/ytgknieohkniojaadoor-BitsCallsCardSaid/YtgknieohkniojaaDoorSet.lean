/- The table of the Bits cut; what is listed; alive. Plain laws of words: bits of a number, words of a set, how many there are. The parts of the functions: names for the places of their code. The walks of the set's small functions. The walks: how many there are; a new set. The walk: a new set. The rows of the set's laws, out of their runs: what is common. -/
import Derived.Test.YtgknieohkniojaaDoorRows
import Derived.Test.YtgknieohkniojaaDoorFwF
set_option linter.unusedVariables false
set_option linter.unusedSimpArgs false
set_option linter.unnecessarySimpa false
set_option linter.all false
namespace Go.Proofs.YtgknieohkniojaaDoor
open Go.Abs
set_option maxRecDepth 1000000

def tabNs : List Int := [0, 1, 56, 2, 57, 49, 28, 3, 61, 58, 42, 50, 38, 29, 17, 4, 62, 47, 59, 36, 45, 43, 51, 22, 53, 39, 33, 30, 24, 18, 12, 5, 63, 55, 48, 27, 60, 41, 37, 16, 46, 35, 44, 21, 52, 32, 23, 11, 54, 26, 40, 15, 34, 20, 31, 10, 25, 14, 19, 9, 13, 8, 7, 6]
/-- The table; shut, so that nothing unfolds it by chance. -/
noncomputable def tb0 : Tab := Tab.of Tryd.prog (fun g => if g = 0 then some (tabNs.map (V.int .u8)) else .none) (fun _ => .open_) (fun _ => .none)

theorem tb_is : ∃ T : Tab, T = tb0 := ⟨tb0, rfl⟩
noncomputable def tb : Tab := Classical.choose tb_is
theorem tb_eq : tb = tb0 := Classical.choose_spec tb_is

theorem names_ok : Tryd.prog.funcs.toList.all (fun F => F.name != "runtime.NumGoroutine") = true := by kernel_rfl

theorem tb_fits : tb.Fits Tryd.prog := tb_eq ▸ Tab.of_fits (fun f F h => by
    have := List.all_eq_true.1 names_ok F (List.mem_of_getElem? (i := f) (by simpa using h))
    simpa using this) (fun _ _ h => by cases h) (by kernel_rfl)

theorem global0 : Tryd.prog.globalNamed "math/bits.deBruijn64tab" = some 0 := by kernel_rfl

theorem glob_ok {W : World} (h : laidMetH Tryd.prog [("math/bits.deBruijn64tab", Rows.laid_math_bits_deBruijn64tab)] W) : GlobOk tb (k0 W) := by
  intro g cs hg
  rw [tb_eq] at hg
  simp only [tb0, Tab.of] at hg
  split at hg
  · rename_i e
    subst e; cases hg
    obtain ⟨ps, ⟨g, t, cs, fuel, p, q, h1, h2, h3, h4, _⟩, _⟩ := h
    rw [global0] at h1; cases h1
    have ht : t = 70 := by
      have h5 : (Tryd.prog.globals[0]?).map (·.type) = some 70 := by kernel_rfl
      rw [h5] at h2; exact (Option.some.inj h2).symm
    subst ht
    exact glob_ints global0 h3 (ints_of_trod (n := 64) Tryd.underlying70 (e := 5) (by kernel_rfl) (by kernel_rfl) (by kernel_rfl) h4)
  · cases hg

/-- alive: by the kernel. -/
def aliveOk : Option (V × St) → Bool
  | some (.bool true, st) => st.base == 0 && st.prot.isEmpty
  | _ => false
theorem alive_run : aliveOk ((ev tb 2000).call 8 [] st0) = true := by rw [tb_eq]; kernel_rfl
theorem alive_st : ∃ st, (ev tb 2000).call 8 [] st0 = some (.bool true, st) ∧ st.base = 0 ∧ st.prot = [] := by
  have h := alive_run
  unfold aliveOk at h
  split at h
  · rename_i st e
    simp only [Bool.and_eq_true, beq_iff_eq, List.isEmpty_iff] at h
    exact ⟨st, e, h⟩
  · cases h
theorem tbmode (f : Nat) : tb.mode f = .open_ := by rw [tb_eq]; rfl
theorem tbext (f : Nat) : tb.ext f = Option.none := by rw [tb_eq]; rfl

end Go.Proofs.YtgknieohkniojaaDoor
namespace Go.Abs
set_option linter.unusedSimpArgs false

/-- The number whose bits are those of S from off on. -/
def bitsN (S : Nat → Bool) (off : Nat) : Nat → Nat
  | 0 => 0
  | n + 1 => bitsN S off n + (if S (off + n) then 2 ^ n else 0)
theorem bitsN_lt (S : Nat → Bool) (off n : Nat) : bitsN S off n < 2 ^ n := by
  induction n with
  | zero => simp [bitsN]
  | succ n ih => simp only [bitsN]; rw [Nat.pow_succ]; split <;> omega
theorem bitsN_testBit (S : Nat → Bool) (off n j : Nat) : (bitsN S off n).testBit j = (decide (j < n) && S (off + j)) := by
  induction n with
  | zero => simp [bitsN]
  | succ n ih =>
    have hl := bitsN_lt S off n
    simp only [bitsN]
    by_cases hs : S (off + n) = true
    · rw [if_pos hs, Nat.add_comm]
      by_cases hj : j < n
      · rw [Nat.testBit_two_pow_add_gt hj, ih]; simp [hj, Nat.lt_succ_of_lt hj]
      · by_cases hj' : j = n
        · subst hj'; rw [Nat.testBit_two_pow_add_eq, Nat.testBit_lt_two_pow hl]; simp [hs]
        · have : ¬ j < n + 1 := by omega
          have h2 : 2 ^ n + bitsN S off n < 2 ^ j := by
            have : 2 ^ (n + 1) ≤ 2 ^ j := Nat.pow_le_pow_right (by decide) (by omega)
            rw [Nat.pow_succ] at this; omega
          rw [Nat.testBit_lt_two_pow h2]; simp [this]
    · rw [if_neg hs, Nat.add_zero, ih]
      by_cases hj : j < n
      · simp [hj, Nat.lt_succ_of_lt hj]
      · by_cases hj' : j = n
        · subst hj'; simp at hs; simp [hs]
        · have : ¬ j < n + 1 := by omega
          simp [hj, this]

/-- A word of a set. -/
def wd (S : Nat → Bool) (k : Nat) : Nat := bitsN S (64 * k) 64
theorem wd_lt (S : Nat → Bool) (k : Nat) : wd S k < 2 ^ 64 := bitsN_lt _ _ _
theorem wd_testBit (S : Nat → Bool) (k j : Nat) : (wd S k).testBit j = (decide (j < 64) && S (64 * k + j)) := bitsN_testBit _ _ _ _
theorem eq_of_bits64 {x y : Nat} (hx : x < 2 ^ 64) (hy : y < 2 ^ 64) (h : ∀ j, j < 64 → x.testBit j = y.testBit j) : x = y := by
  apply Nat.eq_of_testBit_eq
  intro j
  by_cases hj : j < 64
  · exact h j hj
  · have hp : 2 ^ 64 ≤ 2 ^ j := Nat.pow_le_pow_right (by decide) (by omega)
    rw [Nat.testBit_lt_two_pow (by omega), Nat.testBit_lt_two_pow (by omega)]
theorem wd_eq {S S' : Nat → Bool} {k k' : Nat} (h : ∀ j, j < 64 → S (64 * k + j) = S' (64 * k' + j)) : wd S k = wd S' k' := by
  apply eq_of_bits64 (wd_lt _ _) (wd_lt _ _)
  intro j hj
  rw [wd_testBit, wd_testBit, h j hj]

/-- How many words a bound has. -/
def nw (b : Nat) : Nat := (b + 63) / 64
/-- The words of a set. -/
def words (b : Nat) (S : Nat → Bool) : List V := (List.range (nw b)).map fun k => V.int .u64 (wd S k : Nat)
theorem words_len (b : Nat) (S : Nat → Bool) : (words b S).length = nw b := by simp [words]
theorem words_get {b k : Nat} (S : Nat → Bool) (h : k < nw b) : (words b S)[k]? = some (.int .u64 (wd S k : Nat)) := by simp [words, h]
theorem words_none {b k : Nat} (S : Nat → Bool) (h : ¬ k < nw b) : (words b S)[k]? = none := by simp [words]; omega
theorem words_congr {b : Nat} {S S' : Nat → Bool} (h : ∀ i, S i = S' i) : words b S = words b S' := by rw [funext h]
/-- One word is turned. -/
theorem words_set {b k x : Nat} {S S' : Nat → Bool} (hx : x < 2 ^ 64) (h1 : ∀ j, j < 64 → x.testBit j = S' (64 * k + j)) (h2 : ∀ i, i / 64 ≠ k → S i = S' i) :
    (words b S).set k (.int .u64 (x : Nat)) = words b S' := by
  apply List.ext_getElem?
  intro i
  rw [List.getElem?_set, words_len]
  by_cases hi : i < nw b
  · by_cases hk : k = i
    · subst hk
      rw [if_pos rfl, if_pos hi, words_get _ hi]
      have : x = wd S' k := eq_of_bits64 hx (wd_lt _ _) (fun j hj => by rw [h1 j hj, wd_testBit]; simp [hj])
      rw [this]
    · rw [if_neg hk, words_get _ hi, words_get _ hi]
      have : wd S i = wd S' i := wd_eq fun j hj => h2 _ (by omega)
      rw [this]
  · by_cases hk : k = i
    · subst hk; rw [if_pos rfl, if_neg hi, words_none _ hi]
    · rw [if_neg hk, words_none _ hi, words_none _ hi]

def flipAt (S : Nat → Bool) (i : Nat) : Nat → Bool := fun j => if j = i then !S j else S j
def putAt (S : Nat → Bool) (i : Nat) (v : Bool) : Nat → Bool := fun j => if j = i then v else S j
theorem xor_lt64 {x i : Nat} (hx : x < 2 ^ 64) : x ^^^ 2 ^ (i % 64) < 2 ^ 64 := Nat.xor_lt_two_pow hx (Nat.pow_lt_pow_right (by decide) (Nat.mod_lt _ (by decide)))
theorem words_flip (b i : Nat) (S : Nat → Bool) : (words b S).set (i / 64) (.int .u64 ((wd S (i / 64) ^^^ 2 ^ (i % 64) : Nat) : Int)) = words b (flipAt S i) := by
  apply words_set (xor_lt64 (wd_lt _ _))
  · intro j hj
    rw [Nat.testBit_xor, wd_testBit, Nat.testBit_two_pow]
    simp only [hj, decide_true, Bool.true_and, flipAt]
    by_cases h : 64 * (i / 64) + j = i
    · have : i % 64 = j := by omega
      rw [if_pos h]; simp [this]
    · have : ¬ i % 64 = j := by omega
      rw [if_neg h]; simp [this]
  · intro j hj
    unfold flipAt
    rw [if_neg]
    intro h; subst h; exact hj rfl
theorem flip_put {S : Nat → Bool} {i : Nat} {v : Bool} (h : S i = !v) : flipAt S i = putAt S i v := by
  funext j
  unfold flipAt putAt
  by_cases hj : j = i
  · subst hj; simp [h]
  · simp [hj]

/-- How many of S are below n. -/
def cnt (S : Nat → Bool) : Nat → Nat
  | 0 => 0
  | n + 1 => cnt S n + (if S n then 1 else 0)
theorem cnt_congr {S S' : Nat → Bool} {n : Nat} (h : ∀ i, i < n → S i = S' i) : cnt S n = cnt S' n := by
  induction n with
  | zero => rfl
  | succ n ih => simp only [cnt]; rw [ih (fun i hi => h i (by omega)), h n (by omega)]
theorem cnt_le (S : Nat → Bool) (n : Nat) : cnt S n ≤ n := by
  induction n with
  | zero => exact Nat.le_refl _
  | succ n ih => simp only [cnt]; split <;> omega
theorem cnt_add (S : Nat → Bool) (m n : Nat) : cnt S (m + n) = cnt S m + cnt (fun j => S (m + j)) n := by
  induction n with
  | zero => rfl
  | succ n ih => rw [← Nat.add_assoc]; simp only [cnt]; rw [ih]; omega
theorem cnt_none {S : Nat → Bool} {n m : Nat} (h : ∀ i, n ≤ i → S i = false) (hm : n ≤ m) : cnt S m = cnt S n := by
  obtain ⟨d, rfl⟩ : ∃ d, m = n + d := ⟨m - n, by omega⟩
  rw [cnt_add]
  have : ∀ d, cnt (fun j => S (n + j)) d = 0 := fun d => by
    induction d with
    | zero => rfl
    | succ d ih => simp only [cnt, ih, h (n + d) (by omega)]; rfl
  rw [this]; rfl
theorem cnt_put_false {S : Nat → Bool} {i n : Nat} (h : S i = false) (hi : i < n) : cnt (putAt S i true) n = cnt S n + 1 := by
  induction n with
  | zero => omega
  | succ n ih =>
    simp only [cnt]
    by_cases hn : n = i
    · subst hn
      rw [cnt_congr (S := putAt S n true) (S' := S) (fun j hj => by simp [putAt, Nat.ne_of_lt hj])]
      simp [putAt, h]
    · rw [ih (by omega)]
      have : putAt S i true n = S n := by simp [putAt, hn]
      rw [this]; omega
theorem cnt_put_true {S : Nat → Bool} {i n : Nat} (h : S i = true) (hi : i < n) : cnt (putAt S i false) n + 1 = cnt S n := by
  have h1 : cnt (putAt (putAt S i false) i true) n = cnt (putAt S i false) n + 1 := cnt_put_false (by simp [putAt]) hi
  rw [← h1]
  apply cnt_congr
  intro j _
  unfold putAt
  by_cases hj : j = i
  · subst hj; simp [h]
  · simp [hj]

/- The count of ones of a word, as the machine's library has it. -/
/-- The same byte, n times. -/
def rep (c : Nat) : Nat → Nat
  | 0 => 0
  | n + 1 => c + 256 * rep c n
def mapB (g : Nat → Nat) : Nat → Nat → Nat
  | 0, _ => 0
  | n + 1, x => g (x % 256) + 256 * mapB g n (x / 256)
theorem and_chunk (b c y m : Nat) (hb : b < 256) (hc : c < 256) : (b + 256 * y) &&& (c + 256 * m) = (b &&& c) + 256 * (y &&& m) := by
  have h1 : ((b + 256 * y) &&& (c + 256 * m)) % 2 ^ 8 = (b &&& c) % 2 ^ 8 := by
    rw [Nat.and_mod_two_pow, Nat.and_mod_two_pow (a := b)]
    have e1 : (b + 256 * y) % 2 ^ 8 = b % 2 ^ 8 := by omega
    have e2 : (c + 256 * m) % 2 ^ 8 = c % 2 ^ 8 := by omega
    rw [e1, e2]
  have h2 : ((b + 256 * y) &&& (c + 256 * m)) / 2 ^ 8 = y &&& m := by
    rw [Nat.and_div_two_pow]
    have e1 : (b + 256 * y) / 2 ^ 8 = y := by omega
    have e2 : (c + 256 * m) / 2 ^ 8 = m := by omega
    rw [e1, e2]
  have h3 : b &&& c ≤ b := Nat.and_le_left
  omega
def p1 (b : Nat) : Nat := ((b / 2) &&& 85) + (b &&& 85)
def p2 (b : Nat) : Nat := ((b / 4) &&& 51) + (b &&& 51)
def p3 (b : Nat) : Nat := b / 16 + b % 16
theorem step1b : ∀ b, b < 256 → (∀ t, t < 2 → ((b / 2 + 128 * t) &&& 85) = (b / 2) &&& 85) ∧ p1 b < 256 := by decide +kernel
theorem step2b : ∀ b, b < 256 → (∀ t, t < 4 → ((b / 4 + 64 * t) &&& 51) = (b / 4) &&& 51) ∧ p2 b < 256 := by decide +kernel
theorem step3b : ∀ b, b < 256 → p2 (p1 b) % 16 ≤ 4 ∧ p2 (p1 b) / 16 ≤ 4 ∧ p3 (p2 (p1 b)) = cnt (fun j => b.testBit j) 8 := by decide +kernel
theorem sum1 : ∀ n x, ((x / 2) &&& rep 85 n) + (x &&& rep 85 n) = mapB p1 n x
  | 0, x => by simp [rep, mapB]
  | n + 1, x => by
    have hb : x % 256 < 256 := Nat.mod_lt _ (by decide)
    have e0 : x = x % 256 + 256 * (x / 256) := by omega
    have e1 : x / 2 = (x % 256 / 2 + 128 * (x / 256 % 2)) + 256 * (x / 256 / 2) := by omega
    have h1 := (step1b (x % 256) hb).1 (x / 256 % 2) (Nat.mod_lt _ (by decide))
    have ih := sum1 n (x / 256)
    simp only [rep, mapB]
    have a1 : x / 2 &&& (85 + 256 * rep 85 n) = ((x % 256 / 2 + 128 * (x / 256 % 2)) &&& 85) + 256 * (x / 256 / 2 &&& rep 85 n) := by
      rw [e1]; exact and_chunk _ _ _ _ (by omega) (by decide)
    have a2 : x &&& (85 + 256 * rep 85 n) = (x % 256 &&& 85) + 256 * (x / 256 &&& rep 85 n) := by
      have := and_chunk (x % 256) 85 (x / 256) (rep 85 n) hb (by decide)
      rw [← e0] at this; exact this
    rw [a1, a2, h1, ← ih]
    unfold p1
    omega
theorem sum2 : ∀ n x, ((x / 4) &&& rep 51 n) + (x &&& rep 51 n) = mapB p2 n x
  | 0, x => by simp [rep, mapB]
  | n + 1, x => by
    have hb : x % 256 < 256 := Nat.mod_lt _ (by decide)
    have e0 : x = x % 256 + 256 * (x / 256) := by omega
    have e1 : x / 4 = (x % 256 / 4 + 64 * (x / 256 % 4)) + 256 * (x / 256 / 4) := by omega
    have h1 := (step2b (x % 256) hb).1 (x / 256 % 4) (Nat.mod_lt _ (by decide))
    have ih := sum2 n (x / 256)
    simp only [rep, mapB]
    have a1 : x / 4 &&& (51 + 256 * rep 51 n) = ((x % 256 / 4 + 64 * (x / 256 % 4)) &&& 51) + 256 * (x / 256 / 4 &&& rep 51 n) := by
      rw [e1]; exact and_chunk _ _ _ _ (by omega) (by decide)
    have a2 : x &&& (51 + 256 * rep 51 n) = (x % 256 &&& 51) + 256 * (x / 256 &&& rep 51 n) := by
      have := and_chunk (x % 256) 51 (x / 256) (rep 51 n) hb (by decide)
      rw [← e0] at this; exact this
    rw [a1, a2, h1, ← ih]
    unfold p2
    omega
/-- All bytes' halves are at most 4. -/
def low4 : Nat → Nat → Prop
  | 0, _ => True
  | n + 1, x => x % 256 % 16 ≤ 4 ∧ x % 256 / 16 ≤ 4 ∧ low4 n (x / 256)
theorem sum3 : ∀ n x, low4 n x → ((x / 16 + x) &&& rep 15 n) = mapB p3 n x
  | 0, x, _ => by simp [rep, mapB]
  | n + 1, x, ⟨h1, h2, h3⟩ => by
    have hb : x % 256 < 256 := Nat.mod_lt _ (by decide)
    have h4 : x / 256 % 16 ≤ 4 ∨ n = 0 := by
      cases n with
      | zero => exact .inr rfl
      | succ n => left; have := h3.1; omega
    have ih := sum3 n (x / 256) h3
    simp only [rep, mapB]
    cases h4 with
    | inl h4 =>
      have e1 : x / 16 + x = (x % 256 / 16 + 16 * (x / 256 % 16) + x % 256) + 256 * (x / 256 / 16 + x / 256) := by omega
      rw [e1, and_chunk _ _ _ _ (by omega) (by decide), ih]
      have e2 : (x % 256 / 16 + 16 * (x / 256 % 16) + x % 256) &&& 15 = (x % 256 / 16 + 16 * (x / 256 % 16) + x % 256) % 16 := Nat.and_two_pow_sub_one_eq_mod _ 4
      rw [e2]; unfold p3; omega
    | inr h4 =>
      subst h4
      have e1 : x / 16 + x = (x / 16 + x) % 256 + 256 * ((x / 16 + x) / 256) := by omega
      rw [e1, and_chunk _ _ _ _ (by omega) (by decide)]
      have e2 : ((x / 16 + x) % 256) &&& 15 = (x / 16 + x) % 256 % 16 := Nat.and_two_pow_sub_one_eq_mod _ 4
      rw [e2]; simp only [rep, mapB, Nat.and_zero]; unfold p3; omega
theorem mapB_lt (g : Nat → Nat) (hg : ∀ b, b < 256 → g b < 256) : ∀ n x, mapB g n x < 256 ^ n
  | 0, _ => by simp [mapB]
  | n + 1, x => by
    have h1 := mapB_lt g hg n (x / 256)
    have h2 := hg (x % 256) (Nat.mod_lt _ (by decide))
    simp only [mapB]; rw [Nat.pow_succ]; omega
theorem mapB_map (g h : Nat → Nat) (hg : ∀ b, b < 256 → g b < 256) : ∀ n x, mapB h n (mapB g n x) = mapB (fun b => h (g b)) n x
  | 0, _ => rfl
  | n + 1, x => by
    have h2 := hg (x % 256) (Nat.mod_lt _ (by decide))
    simp only [mapB]
    have e1 : (g (x % 256) + 256 * mapB g n (x / 256)) % 256 = g (x % 256) := by omega
    have e2 : (g (x % 256) + 256 * mapB g n (x / 256)) / 256 = mapB g n (x / 256) := by omega
    rw [e1, e2, mapB_map g h hg n]
theorem mapB_congr {g h : Nat → Nat} (e : ∀ b, b < 256 → g b = h b) : ∀ n x, mapB g n x = mapB h n x
  | 0, _ => rfl
  | n + 1, x => by simp only [mapB]; rw [e _ (Nat.mod_lt _ (by decide)), mapB_congr e n]
theorem low4_map (g : Nat → Nat) (hg : ∀ b, b < 256 → g b < 256 ∧ g b % 16 ≤ 4 ∧ g b / 16 ≤ 4) : ∀ n x, low4 n (mapB g n x)
  | 0, _ => trivial
  | n + 1, x => by
    have h2 := hg (x % 256) (Nat.mod_lt _ (by decide))
    have e1 : (g (x % 256) + 256 * mapB g n (x / 256)) % 256 = g (x % 256) := by omega
    have e2 : (g (x % 256) + 256 * mapB g n (x / 256)) / 256 = mapB g n (x / 256) := by omega
    simp only [mapB, low4]
    rw [e1, e2]
    exact ⟨h2.2.1, h2.2.2, low4_map g hg n _⟩
/-- The three first sums make the count of each byte. -/
theorem ones_bytes (x : Nat) : mapB p3 8 (mapB p2 8 (mapB p1 8 x)) = mapB (fun b => cnt (fun j => b.testBit j) 8) 8 x := by
  rw [mapB_map p2 p3 (fun b h => (step2b b h).2), mapB_map p1 _ (fun b h => (step1b b h).2)]
  exact mapB_congr (fun b h => (step3b b h).2.2) 8 x
theorem low4_ones (x : Nat) : low4 8 (mapB p2 8 (mapB p1 8 x)) := by
  rw [mapB_map p1 p2 (fun b h => (step1b b h).2)]
  exact low4_map _ (fun b h => ⟨(step2b _ (step1b b h).2).2, (step3b b h).1, (step3b b h).2.1⟩) 8 x
/-- The sum of the bytes' counts. -/
def sumB (g : Nat → Nat) : Nat → Nat → Nat
  | 0, _ => 0
  | n + 1, x => g (x % 256) + sumB g n (x / 256)
theorem sumB_cnt : ∀ n x, sumB (fun b => cnt (fun j => b.testBit j) 8) n x = cnt (fun j => x.testBit j) (8 * n)
  | 0, _ => rfl
  | n + 1, x => by
    have e : 8 * (n + 1) = 8 + 8 * n := by omega
    rw [e, cnt_add]
    simp only [sumB]
    rw [sumB_cnt n]
    congr 1
    · apply cnt_congr
      intro j hj
      show (x % 2 ^ 8).testBit j = _
      rw [Nat.testBit_mod_two_pow]; simp [hj]
    · apply cnt_congr
      intro j _
      show (x / 2 ^ 8).testBit j = _
      rw [Nat.testBit_div_two_pow, Nat.add_comm]
/-- The last four steps. -/
theorem div_two (u v z : Nat) (hu : u ≤ 16) (hv : v ≤ 16) : (u + 256 * (v + 256 * z)) / 65536 = z := by omega
theorem div_four (u v p q z : Nat) (hu : u ≤ 32) (hv : v ≤ 32) (hp : p ≤ 32) (hq : q ≤ 32) : (u + 256 * (v + 256 * (p + 256 * (q + 256 * z)))) / 4294967296 = z := by omega
theorem fold_sum (a b c d e f g h : Nat) (ha : a ≤ 8) (hb : b ≤ 8) (hc : c ≤ 8) (hd : d ≤ 8) (he : e ≤ 8) (hf : f ≤ 8) (hg : g ≤ 8) (hh : h ≤ 8) (y1 y2 y3 x : Nat)
    (hx : x = a + 256 * (b + 256 * (c + 256 * (d + 256 * (e + 256 * (f + 256 * (g + 256 * h)))))))
    (h1 : y1 = x + x / 256) (h2 : y2 = y1 + y1 / 65536) (h3 : y3 = y2 + y2 / 4294967296) : y3 % 128 = a + b + c + d + e + f + g + h ∧ y3 < 2 ^ 63 := by
  have e1 : x / 256 = b + 256 * (c + 256 * (d + 256 * (e + 256 * (f + 256 * (g + 256 * h))))) := by
    rw [hx]; exact (by intro z; omega : ∀ z, (a + 256 * z) / 256 = z) _
  rw [e1, hx] at h1
  have k1 : y1 = (a + b) + 256 * ((b + c) + 256 * ((c + d) + 256 * ((d + e) + 256 * ((e + f) + 256 * ((f + g) + 256 * ((g + h) + 256 * h)))))) := by rw [h1]; omega
  have e2 : y1 / 65536 = (c + d) + 256 * ((d + e) + 256 * ((e + f) + 256 * ((f + g) + 256 * ((g + h) + 256 * h)))) := by
    rw [k1]; exact div_two _ _ _ (by omega) (by omega)
  rw [e2, k1] at h2
  have k2 : y2 = (a + b + c + d) + 256 * ((b + c + d + e) + 256 * ((c + d + e + f) + 256 * ((d + e + f + g) + 256 * ((e + f + g + h) + 256 * ((f + g + h) + 256 * ((g + h) + 256 * h)))))) := by rw [h2]; omega
  have e3 : y2 / 4294967296 = (e + f + g + h) + 256 * ((f + g + h) + 256 * ((g + h) + 256 * h)) := by
    rw [k2]; exact div_four _ _ _ _ _ (by omega) (by omega) (by omega) (by omega)
  rw [e3, k2] at h3
  clear e1 h1 k1 e2 h2 k2 e3 hx
  constructor
  · have : y3 = (a + b + c + d + e + f + g + h) + 128 * (2 * ((b + c + d + e) + (f + g + h) + 256 * ((c + d + e + f) + (g + h) + 256 * ((d + e + f + g) + h + 256 * ((e + f + g + h) + 256 * ((f + g + h) + 256 * ((g + h) + 256 * h))))))) := by rw [h3]; omega
    rw [this]
    exact (by intro u z hu; omega : ∀ u z, u ≤ 64 → (u + 128 * z) % 128 = u) _ _ (by omega)
  · omega
theorem cnt8_le (b : Nat) : cnt (fun j => b.testBit j) 8 ≤ 8 := cnt_le _ _
theorem fold_sumB (g : Nat → Nat) (hg : ∀ b, g b ≤ 8) (x y1 y2 y3 : Nat) (h1 : y1 = mapB g 8 x + mapB g 8 x / 256) (h2 : y2 = y1 + y1 / 65536) (h3 : y3 = y2 + y2 / 4294967296) :
    y3 % 128 = sumB g 8 x ∧ y3 < 2 ^ 63 := by
  have := fold_sum _ _ _ _ _ _ _ _ (hg (x % 256)) (hg (x / 256 % 256)) (hg (x / 256 / 256 % 256)) (hg (x / 256 / 256 / 256 % 256)) (hg (x / 256 / 256 / 256 / 256 % 256)) (hg (x / 256 / 256 / 256 / 256 / 256 % 256)) (hg (x / 256 / 256 / 256 / 256 / 256 / 256 % 256)) (hg (x / 256 / 256 / 256 / 256 / 256 / 256 / 256 % 256)) y1 y2 y3 (mapB g 8 x) (by simp only [mapB, Nat.mul_zero, Nat.add_zero]) h1 h2 h3
  refine ⟨?_, this.2⟩
  rw [this.1]
  simp only [sumB, Nat.add_zero, Nat.add_assoc]
/-- What the library's function reckons. -/
theorem ones64 (x y1 y2 y3 : Nat) (h1 : y1 = mapB p3 8 (mapB p2 8 (mapB p1 8 x)) + mapB p3 8 (mapB p2 8 (mapB p1 8 x)) / 256) (h2 : y2 = y1 + y1 / 65536) (h3 : y3 = y2 + y2 / 4294967296) :
    y3 % 128 = cnt (fun j => x.testBit j) 64 ∧ y3 < 2 ^ 63 := by
  rw [ones_bytes] at h1
  have := fold_sumB _ cnt8_le x y1 y2 y3 h1 h2 h3
  rw [sumB_cnt 8 x] at this
  exact this
end Go.Abs
namespace Go.Proofs.YtgknieohkniojaaDoor
open Go.Abs
set_option maxRecDepth 1000000
set_option linter.unusedSimpArgs false
variable {rd : Option Nat} {f : Nat → V} {m : List Nat} {st : St}
noncomputable def c10_0 : Code := bodyOf Tryd.f10
theorem b10 : Tryd.f10.body = some c10_0 := rfl
theorem n10 : Tryd.f10.ntmps = 30 := rfl
theorem r10 : Tryd.f10.results = #[.tmp 4] := rfl
theorem fn10 : tb.fn 10 = some Tryd.f10 := by rw [tb_eq]; exact Tryd.func10
theorem run10 {args : List V} {st : St} (ha : args.length ≤ 30) : (run tb).call 10 args st = leave tb [.tmp 4] ((run tb).code none c10_0 (mk 30 (argF args) []) st) := call_run fn10 (tbmode 10) b10 n10 r10 ha
noncomputable def c10_1 : Code := kid c10_0 0
noncomputable def c10_2 : Code := kid c10_0 1
noncomputable def c10_3 : Code := kid c10_2 0
noncomputable def c10_4 : Code := kid c10_2 1
noncomputable def c10_5 : Code := kid c10_4 0
noncomputable def c10_6 : Code := kid c10_4 1
noncomputable def c10_7 : Code := kid c10_6 0
noncomputable def c10_8 : Code := kid c10_7 0
noncomputable def c10_9 : Code := kid c10_7 1
noncomputable def c10_10 : Code := kid c10_9 0
noncomputable def c10_11 : Code := kid c10_10 0
noncomputable def c10_12 : Code := kid c10_11 0
noncomputable def c10_13 : Code := kid c10_11 1
noncomputable def c10_14 : Code := kid c10_13 0
noncomputable def c10_15 : Code := kid c10_14 0
noncomputable def c10_16 : Code := kid c10_14 1
noncomputable def c10_17 : Code := kid c10_13 1
noncomputable def c10_18 : Code := kid c10_17 0
noncomputable def c10_19 : Code := kid c10_18 0
noncomputable def c10_20 : Code := kid c10_19 0
noncomputable def c10_21 : Code := kid c10_19 1
noncomputable def c10_22 : Code := kid c10_17 1
noncomputable def c10_23 : Code := kid c10_6 1
noncomputable def c10_24 : Code := kid c10_23 0
noncomputable def c10_25 : Code := kid c10_23 1
noncomputable def o10_1 : Array Oper := opsOf (kid (bodyOf Tryd.f10) 0)
noncomputable def o10_3 : Array Oper := opsOf (kid (kid (bodyOf Tryd.f10) 1) 0)
noncomputable def o10_5 : Array Oper := opsOf (kid (kid (kid (bodyOf Tryd.f10) 1) 1) 0)
noncomputable def o10_8 : Array Oper := opsOf (kid (kid (kid (kid (kid (bodyOf Tryd.f10) 1) 1) 1) 0) 0)
noncomputable def o10_12 : Array Oper := opsOf (kid (kid (kid (kid (kid (kid (kid (kid (bodyOf Tryd.f10) 1) 1) 1) 0) 1) 0) 0) 0)
noncomputable def o10_20 : Array Oper := opsOf (kid (kid (kid (kid (kid (kid (kid (kid (kid (kid (kid (kid (bodyOf Tryd.f10) 1) 1) 1) 0) 1) 0) 0) 1) 1) 0) 0) 0)
noncomputable def o10_21 : Array Oper := opsOf (kid (kid (kid (kid (kid (kid (kid (kid (kid (kid (kid (kid (bodyOf Tryd.f10) 1) 1) 1) 0) 1) 0) 0) 1) 1) 0) 0) 1)
noncomputable def o10_22 : Array Oper := opsOf (kid (kid (kid (kid (kid (kid (kid (kid (kid (kid (bodyOf Tryd.f10) 1) 1) 1) 0) 1) 0) 0) 1) 1) 1)
noncomputable def o10_24 : Array Oper := opsOf (kid (kid (kid (kid (kid (bodyOf Tryd.f10) 1) 1) 1) 1) 0)
theorem e10_0 : c10_0 = .seq c10_1 c10_2 := rfl
theorem e10_1 : c10_1 = .region 0 o10_1 false := rfl
theorem e10_2 : c10_2 = .seq c10_3 c10_4 := rfl
theorem e10_3 : c10_3 = .region 1 o10_3 false := rfl
theorem e10_4 : c10_4 = .seq c10_5 c10_6 := rfl
theorem e10_5 : c10_5 = .region 2 o10_5 false := rfl
theorem e10_6 : c10_6 = .seq c10_7 c10_23 := rfl
theorem e10_7 : c10_7 = .seq c10_8 c10_9 := rfl
theorem e10_8 : c10_8 = .region 3 o10_8 false := rfl
theorem e10_9 : c10_9 = .block 0 c10_10 := rfl
theorem e10_10 : c10_10 = .loop c10_11 := rfl
theorem e10_11 : c10_11 = .seq c10_12 c10_13 := rfl
theorem e10_12 : c10_12 = .region 4 o10_12 false := rfl
theorem e10_13 : c10_13 = .seq c10_14 c10_17 := rfl
theorem e10_14 : c10_14 = .cond (.tmp 22) c10_15 c10_16 := rfl
theorem e10_15 : c10_15 = .skip := rfl
theorem e10_16 : c10_16 = .exit 0 := rfl
theorem e10_17 : c10_17 = .seq c10_18 c10_22 := rfl
theorem e10_18 : c10_18 = .block 1 c10_19 := rfl
theorem e10_19 : c10_19 = .seq c10_20 c10_21 := rfl
theorem e10_20 : c10_20 = .region 5 o10_20 false := rfl
theorem e10_21 : c10_21 = .region 6 o10_21 false := rfl
theorem e10_22 : c10_22 = .region 7 o10_22 false := rfl
theorem e10_23 : c10_23 = .seq c10_24 c10_25 := rfl
theorem e10_24 : c10_24 = .region 8 o10_24 false := rfl
theorem e10_25 : c10_25 = .ret := rfl
theorem g10_0 : (run tb).code rd c10_0 (mk 30 f m) st = andThen ((run tb).code rd c10_1 (mk 30 f m) st) (fun fr st => (run tb).code rd c10_2 fr st) := gx_seq e10_0
noncomputable def l10_1 : { l : List Step // lightOf o10_1 = l } := by refine ⟨?_, ?h⟩; case h => simp only [lightOf, o10_1, opsOf, kid, bodyOf, Tryd.f10, Option.getD_some, List.map, stepOf, Option.map, List.getElem?_toArray, List.getElem?_cons_succ, List.getElem?_cons_zero, Option.bind_some]; rfl
theorem g10_1 : (run tb).code rd c10_1 (mk 30 f m) st = regB (evSteps tb (run tb) l10_1.1 (mk 30 f m) st) := gx_region e10_1 l10_1.2
theorem g10_2 : (run tb).code rd c10_2 (mk 30 f m) st = andThen ((run tb).code rd c10_3 (mk 30 f m) st) (fun fr st => (run tb).code rd c10_4 fr st) := gx_seq e10_2
noncomputable def l10_3 : { l : List Step // lightOf o10_3 = l } := by refine ⟨?_, ?h⟩; case h => simp only [lightOf, o10_3, opsOf, kid, bodyOf, Tryd.f10, Option.getD_some, List.map, stepOf, Option.map, List.getElem?_toArray, List.getElem?_cons_succ, List.getElem?_cons_zero, Option.bind_some]; rfl
theorem g10_3 : (run tb).code rd c10_3 (mk 30 f m) st = regB (evSteps tb (run tb) l10_3.1 (mk 30 f m) st) := gx_region e10_3 l10_3.2
theorem g10_4 : (run tb).code rd c10_4 (mk 30 f m) st = andThen ((run tb).code rd c10_5 (mk 30 f m) st) (fun fr st => (run tb).code rd c10_6 fr st) := gx_seq e10_4
noncomputable def l10_5 : { l : List Step // lightOf o10_5 = l } := by refine ⟨?_, ?h⟩; case h => simp only [lightOf, o10_5, opsOf, kid, bodyOf, Tryd.f10, Option.getD_some, List.map, stepOf, Option.map, List.getElem?_toArray, List.getElem?_cons_succ, List.getElem?_cons_zero, Option.bind_some]; rfl
theorem g10_5 : (run tb).code rd c10_5 (mk 30 f m) st = regB (evSteps tb (run tb) l10_5.1 (mk 30 f m) st) := gx_region e10_5 l10_5.2
theorem g10_6 : (run tb).code rd c10_6 (mk 30 f m) st = andThen ((run tb).code rd c10_7 (mk 30 f m) st) (fun fr st => (run tb).code rd c10_23 fr st) := gx_seq e10_6
theorem g10_7 : (run tb).code rd c10_7 (mk 30 f m) st = andThen ((run tb).code rd c10_8 (mk 30 f m) st) (fun fr st => (run tb).code rd c10_9 fr st) := gx_seq e10_7
noncomputable def l10_8 : { l : List Step // lightOf o10_8 = l } := by refine ⟨?_, ?h⟩; case h => simp only [lightOf, o10_8, opsOf, kid, bodyOf, Tryd.f10, Option.getD_some, List.map, stepOf, Option.map, List.getElem?_toArray, List.getElem?_cons_succ, List.getElem?_cons_zero, Option.bind_some]; rfl
theorem g10_8 : (run tb).code rd c10_8 (mk 30 f m) st = regB (evSteps tb (run tb) l10_8.1 (mk 30 f m) st) := gx_region e10_8 l10_8.2
theorem g10_9 : (run tb).code rd c10_9 (mk 30 f m) st = closeB 0 ((run tb).code rd c10_10 (mk 30 f m) st) := gx_block e10_9
theorem g10_11 : (run tb).code rd c10_11 (mk 30 f m) st = andThen ((run tb).code rd c10_12 (mk 30 f m) st) (fun fr st => (run tb).code rd c10_13 fr st) := gx_seq e10_11
noncomputable def l10_12 : { l : List Step // lightOf o10_12 = l } := by refine ⟨?_, ?h⟩; case h => simp only [lightOf, o10_12, opsOf, kid, bodyOf, Tryd.f10, Option.getD_some, List.map, stepOf, Option.map, List.getElem?_toArray, List.getElem?_cons_succ, List.getElem?_cons_zero, Option.bind_some]; rfl
theorem g10_12 : (run tb).code rd c10_12 (mk 30 f m) st = regB (evSteps tb (run tb) l10_12.1 (mk 30 f m) st) := gx_region e10_12 l10_12.2
theorem g10_13 : (run tb).code rd c10_13 (mk 30 f m) st = andThen ((run tb).code rd c10_14 (mk 30 f m) st) (fun fr st => (run tb).code rd c10_17 fr st) := gx_seq e10_13
theorem g10_14 : (run tb).code rd c10_14 (mk 30 f m) st = branch (f 22) (fun x => (run tb).code rd (sel x c10_15 c10_16) (mk 30 f m) st) := gx_cond e10_14 (by decide)
theorem g10_15 : (run tb).code rd c10_15 (mk 30 f m) st = some (.normal, mk 30 f m, st) := gx_skip e10_15
theorem g10_16 : (run tb).code rd c10_16 (mk 30 f m) st = some (.exit 0, mk 30 f m, st) := gx_exit e10_16
theorem g10_17 : (run tb).code rd c10_17 (mk 30 f m) st = andThen ((run tb).code rd c10_18 (mk 30 f m) st) (fun fr st => (run tb).code rd c10_22 fr st) := gx_seq e10_17
theorem g10_18 : (run tb).code rd c10_18 (mk 30 f m) st = closeB 1 ((run tb).code rd c10_19 (mk 30 f m) st) := gx_block e10_18
theorem g10_19 : (run tb).code rd c10_19 (mk 30 f m) st = andThen ((run tb).code rd c10_20 (mk 30 f m) st) (fun fr st => (run tb).code rd c10_21 fr st) := gx_seq e10_19
noncomputable def l10_20 : { l : List Step // lightOf o10_20 = l } := by refine ⟨?_, ?h⟩; case h => simp only [lightOf, o10_20, opsOf, kid, bodyOf, Tryd.f10, Option.getD_some, List.map, stepOf, Option.map, List.getElem?_toArray, List.getElem?_cons_succ, List.getElem?_cons_zero, Option.bind_some]; rfl
theorem g10_20 : (run tb).code rd c10_20 (mk 30 f m) st = regB (evSteps tb (run tb) l10_20.1 (mk 30 f m) st) := gx_region e10_20 l10_20.2
noncomputable def l10_21 : { l : List Step // lightOf o10_21 = l } := by refine ⟨?_, ?h⟩; case h => simp only [lightOf, o10_21, opsOf, kid, bodyOf, Tryd.f10, Option.getD_some, List.map, stepOf, Option.map, List.getElem?_toArray, List.getElem?_cons_succ, List.getElem?_cons_zero, Option.bind_some]; rfl
theorem g10_21 : (run tb).code rd c10_21 (mk 30 f m) st = regB (evSteps tb (run tb) l10_21.1 (mk 30 f m) st) := gx_region e10_21 l10_21.2
noncomputable def l10_22 : { l : List Step // lightOf o10_22 = l } := by refine ⟨?_, ?h⟩; case h => simp only [lightOf, o10_22, opsOf, kid, bodyOf, Tryd.f10, Option.getD_some, List.map, stepOf, Option.map, List.getElem?_toArray, List.getElem?_cons_succ, List.getElem?_cons_zero, Option.bind_some]; rfl
theorem g10_22 : (run tb).code rd c10_22 (mk 30 f m) st = regB (evSteps tb (run tb) l10_22.1 (mk 30 f m) st) := gx_region e10_22 l10_22.2
theorem g10_23 : (run tb).code rd c10_23 (mk 30 f m) st = andThen ((run tb).code rd c10_24 (mk 30 f m) st) (fun fr st => (run tb).code rd c10_25 fr st) := gx_seq e10_23
noncomputable def l10_24 : { l : List Step // lightOf o10_24 = l } := by refine ⟨?_, ?h⟩; case h => simp only [lightOf, o10_24, opsOf, kid, bodyOf, Tryd.f10, Option.getD_some, List.map, stepOf, Option.map, List.getElem?_toArray, List.getElem?_cons_succ, List.getElem?_cons_zero, Option.bind_some]; rfl
theorem g10_24 : (run tb).code rd c10_24 (mk 30 f m) st = regB (evSteps tb (run tb) l10_24.1 (mk 30 f m) st) := gx_region e10_24 l10_24.2
theorem g10_25 : (run tb).code rd c10_25 (mk 30 f m) st = some (.ret, mk 30 f m, st) := gx_ret e10_25
noncomputable def c16_0 : Code := bodyOf Tryd.f16
theorem b16 : Tryd.f16.body = some c16_0 := rfl
theorem n16 : Tryd.f16.ntmps = 21 := rfl
theorem r16 : Tryd.f16.results = #[.tmp 2] := rfl
theorem fn16 : tb.fn 16 = some Tryd.f16 := by rw [tb_eq]; exact Tryd.func16
theorem run16 {args : List V} {st : St} (ha : args.length ≤ 21) : (run tb).call 16 args st = leave tb [.tmp 2] ((run tb).code none c16_0 (mk 21 (argF args) []) st) := call_run fn16 (tbmode 16) b16 n16 r16 ha
noncomputable def c16_1 : Code := kid c16_0 0
noncomputable def c16_2 : Code := kid c16_0 1
noncomputable def c16_3 : Code := kid c16_2 0
noncomputable def c16_4 : Code := kid c16_2 1
noncomputable def c16_5 : Code := kid c16_4 0
noncomputable def c16_6 : Code := kid c16_5 0
noncomputable def c16_7 : Code := kid c16_5 1
noncomputable def c16_8 : Code := kid c16_7 0
noncomputable def c16_9 : Code := kid c16_8 0
noncomputable def c16_10 : Code := kid c16_9 0
noncomputable def c16_11 : Code := kid c16_9 1
noncomputable def c16_12 : Code := kid c16_11 0
noncomputable def c16_13 : Code := kid c16_12 0
noncomputable def c16_14 : Code := kid c16_12 1
noncomputable def c16_15 : Code := kid c16_11 1
noncomputable def c16_16 : Code := kid c16_15 0
noncomputable def c16_17 : Code := kid c16_16 0
noncomputable def c16_18 : Code := kid c16_17 0
noncomputable def c16_19 : Code := kid c16_17 1
noncomputable def c16_20 : Code := kid c16_15 1
noncomputable def c16_21 : Code := kid c16_4 1
noncomputable def c16_22 : Code := kid c16_21 0
noncomputable def c16_23 : Code := kid c16_21 1
noncomputable def o16_1 : Array Oper := opsOf (kid (bodyOf Tryd.f16) 0)
noncomputable def o16_3 : Array Oper := opsOf (kid (kid (bodyOf Tryd.f16) 1) 0)
noncomputable def o16_6 : Array Oper := opsOf (kid (kid (kid (kid (bodyOf Tryd.f16) 1) 1) 0) 0)
noncomputable def o16_10 : Array Oper := opsOf (kid (kid (kid (kid (kid (kid (kid (bodyOf Tryd.f16) 1) 1) 0) 1) 0) 0) 0)
noncomputable def o16_18 : Array Oper := opsOf (kid (kid (kid (kid (kid (kid (kid (kid (kid (kid (kid (bodyOf Tryd.f16) 1) 1) 0) 1) 0) 0) 1) 1) 0) 0) 0)
noncomputable def o16_19 : Array Oper := opsOf (kid (kid (kid (kid (kid (kid (kid (kid (kid (kid (kid (bodyOf Tryd.f16) 1) 1) 0) 1) 0) 0) 1) 1) 0) 0) 1)
noncomputable def o16_20 : Array Oper := opsOf (kid (kid (kid (kid (kid (kid (kid (kid (kid (bodyOf Tryd.f16) 1) 1) 0) 1) 0) 0) 1) 1) 1)
noncomputable def o16_22 : Array Oper := opsOf (kid (kid (kid (kid (bodyOf Tryd.f16) 1) 1) 1) 0)
theorem e16_0 : c16_0 = .seq c16_1 c16_2 := rfl
theorem e16_1 : c16_1 = .region 0 o16_1 false := rfl
theorem e16_2 : c16_2 = .seq c16_3 c16_4 := rfl
theorem e16_3 : c16_3 = .region 1 o16_3 false := rfl
theorem e16_4 : c16_4 = .seq c16_5 c16_21 := rfl
theorem e16_5 : c16_5 = .seq c16_6 c16_7 := rfl
theorem e16_6 : c16_6 = .region 2 o16_6 false := rfl
theorem e16_7 : c16_7 = .block 0 c16_8 := rfl
theorem e16_8 : c16_8 = .loop c16_9 := rfl
theorem e16_9 : c16_9 = .seq c16_10 c16_11 := rfl
theorem e16_10 : c16_10 = .region 3 o16_10 false := rfl
theorem e16_11 : c16_11 = .seq c16_12 c16_15 := rfl
theorem e16_12 : c16_12 = .cond (.tmp 12) c16_13 c16_14 := rfl
theorem e16_13 : c16_13 = .skip := rfl
theorem e16_14 : c16_14 = .exit 0 := rfl
theorem e16_15 : c16_15 = .seq c16_16 c16_20 := rfl
theorem e16_16 : c16_16 = .block 1 c16_17 := rfl
theorem e16_17 : c16_17 = .seq c16_18 c16_19 := rfl
theorem e16_18 : c16_18 = .region 4 o16_18 false := rfl
theorem e16_19 : c16_19 = .region 5 o16_19 false := rfl
theorem e16_20 : c16_20 = .region 6 o16_20 false := rfl
theorem e16_21 : c16_21 = .seq c16_22 c16_23 := rfl
theorem e16_22 : c16_22 = .region 7 o16_22 false := rfl
theorem e16_23 : c16_23 = .ret := rfl
theorem g16_0 : (run tb).code rd c16_0 (mk 21 f m) st = andThen ((run tb).code rd c16_1 (mk 21 f m) st) (fun fr st => (run tb).code rd c16_2 fr st) := gx_seq e16_0
noncomputable def l16_1 : { l : List Step // lightOf o16_1 = l } := by refine ⟨?_, ?h⟩; case h => simp only [lightOf, o16_1, opsOf, kid, bodyOf, Tryd.f16, Option.getD_some, List.map, stepOf, Option.map, List.getElem?_toArray, List.getElem?_cons_succ, List.getElem?_cons_zero, Option.bind_some]; rfl
theorem g16_1 : (run tb).code rd c16_1 (mk 21 f m) st = regB (evSteps tb (run tb) l16_1.1 (mk 21 f m) st) := gx_region e16_1 l16_1.2
theorem g16_2 : (run tb).code rd c16_2 (mk 21 f m) st = andThen ((run tb).code rd c16_3 (mk 21 f m) st) (fun fr st => (run tb).code rd c16_4 fr st) := gx_seq e16_2
noncomputable def l16_3 : { l : List Step // lightOf o16_3 = l } := by refine ⟨?_, ?h⟩; case h => simp only [lightOf, o16_3, opsOf, kid, bodyOf, Tryd.f16, Option.getD_some, List.map, stepOf, Option.map, List.getElem?_toArray, List.getElem?_cons_succ, List.getElem?_cons_zero, Option.bind_some]; rfl
theorem g16_3 : (run tb).code rd c16_3 (mk 21 f m) st = regB (evSteps tb (run tb) l16_3.1 (mk 21 f m) st) := gx_region e16_3 l16_3.2
theorem g16_4 : (run tb).code rd c16_4 (mk 21 f m) st = andThen ((run tb).code rd c16_5 (mk 21 f m) st) (fun fr st => (run tb).code rd c16_21 fr st) := gx_seq e16_4
theorem g16_5 : (run tb).code rd c16_5 (mk 21 f m) st = andThen ((run tb).code rd c16_6 (mk 21 f m) st) (fun fr st => (run tb).code rd c16_7 fr st) := gx_seq e16_5
noncomputable def l16_6 : { l : List Step // lightOf o16_6 = l } := by refine ⟨?_, ?h⟩; case h => simp only [lightOf, o16_6, opsOf, kid, bodyOf, Tryd.f16, Option.getD_some, List.map, stepOf, Option.map, List.getElem?_toArray, List.getElem?_cons_succ, List.getElem?_cons_zero, Option.bind_some]; rfl
theorem g16_6 : (run tb).code rd c16_6 (mk 21 f m) st = regB (evSteps tb (run tb) l16_6.1 (mk 21 f m) st) := gx_region e16_6 l16_6.2
theorem g16_7 : (run tb).code rd c16_7 (mk 21 f m) st = closeB 0 ((run tb).code rd c16_8 (mk 21 f m) st) := gx_block e16_7
theorem g16_9 : (run tb).code rd c16_9 (mk 21 f m) st = andThen ((run tb).code rd c16_10 (mk 21 f m) st) (fun fr st => (run tb).code rd c16_11 fr st) := gx_seq e16_9
noncomputable def l16_10 : { l : List Step // lightOf o16_10 = l } := by refine ⟨?_, ?h⟩; case h => simp only [lightOf, o16_10, opsOf, kid, bodyOf, Tryd.f16, Option.getD_some, List.map, stepOf, Option.map, List.getElem?_toArray, List.getElem?_cons_succ, List.getElem?_cons_zero, Option.bind_some]; rfl
theorem g16_10 : (run tb).code rd c16_10 (mk 21 f m) st = regB (evSteps tb (run tb) l16_10.1 (mk 21 f m) st) := gx_region e16_10 l16_10.2
theorem g16_11 : (run tb).code rd c16_11 (mk 21 f m) st = andThen ((run tb).code rd c16_12 (mk 21 f m) st) (fun fr st => (run tb).code rd c16_15 fr st) := gx_seq e16_11
theorem g16_12 : (run tb).code rd c16_12 (mk 21 f m) st = branch (f 12) (fun x => (run tb).code rd (sel x c16_13 c16_14) (mk 21 f m) st) := gx_cond e16_12 (by decide)
theorem g16_13 : (run tb).code rd c16_13 (mk 21 f m) st = some (.normal, mk 21 f m, st) := gx_skip e16_13
theorem g16_14 : (run tb).code rd c16_14 (mk 21 f m) st = some (.exit 0, mk 21 f m, st) := gx_exit e16_14
theorem g16_15 : (run tb).code rd c16_15 (mk 21 f m) st = andThen ((run tb).code rd c16_16 (mk 21 f m) st) (fun fr st => (run tb).code rd c16_20 fr st) := gx_seq e16_15
theorem g16_16 : (run tb).code rd c16_16 (mk 21 f m) st = closeB 1 ((run tb).code rd c16_17 (mk 21 f m) st) := gx_block e16_16
theorem g16_17 : (run tb).code rd c16_17 (mk 21 f m) st = andThen ((run tb).code rd c16_18 (mk 21 f m) st) (fun fr st => (run tb).code rd c16_19 fr st) := gx_seq e16_17
noncomputable def l16_18 : { l : List Step // lightOf o16_18 = l } := by refine ⟨?_, ?h⟩; case h => simp only [lightOf, o16_18, opsOf, kid, bodyOf, Tryd.f16, Option.getD_some, List.map, stepOf, Option.map, List.getElem?_toArray, List.getElem?_cons_succ, List.getElem?_cons_zero, Option.bind_some]; rfl
theorem g16_18 : (run tb).code rd c16_18 (mk 21 f m) st = regB (evSteps tb (run tb) l16_18.1 (mk 21 f m) st) := gx_region e16_18 l16_18.2
noncomputable def l16_19 : { l : List Step // lightOf o16_19 = l } := by refine ⟨?_, ?h⟩; case h => simp only [lightOf, o16_19, opsOf, kid, bodyOf, Tryd.f16, Option.getD_some, List.map, stepOf, Option.map, List.getElem?_toArray, List.getElem?_cons_succ, List.getElem?_cons_zero, Option.bind_some]; rfl
theorem g16_19 : (run tb).code rd c16_19 (mk 21 f m) st = regB (evSteps tb (run tb) l16_19.1 (mk 21 f m) st) := gx_region e16_19 l16_19.2
noncomputable def l16_20 : { l : List Step // lightOf o16_20 = l } := by refine ⟨?_, ?h⟩; case h => simp only [lightOf, o16_20, opsOf, kid, bodyOf, Tryd.f16, Option.getD_some, List.map, stepOf, Option.map, List.getElem?_toArray, List.getElem?_cons_succ, List.getElem?_cons_zero, Option.bind_some]; rfl
theorem g16_20 : (run tb).code rd c16_20 (mk 21 f m) st = regB (evSteps tb (run tb) l16_20.1 (mk 21 f m) st) := gx_region e16_20 l16_20.2
theorem g16_21 : (run tb).code rd c16_21 (mk 21 f m) st = andThen ((run tb).code rd c16_22 (mk 21 f m) st) (fun fr st => (run tb).code rd c16_23 fr st) := gx_seq e16_21
noncomputable def l16_22 : { l : List Step // lightOf o16_22 = l } := by refine ⟨?_, ?h⟩; case h => simp only [lightOf, o16_22, opsOf, kid, bodyOf, Tryd.f16, Option.getD_some, List.map, stepOf, Option.map, List.getElem?_toArray, List.getElem?_cons_succ, List.getElem?_cons_zero, Option.bind_some]; rfl
theorem g16_22 : (run tb).code rd c16_22 (mk 21 f m) st = regB (evSteps tb (run tb) l16_22.1 (mk 21 f m) st) := gx_region e16_22 l16_22.2
theorem g16_23 : (run tb).code rd c16_23 (mk 21 f m) st = some (.ret, mk 21 f m, st) := gx_ret e16_23
noncomputable def c19_0 : Code := bodyOf Tryd.f19
theorem b19 : Tryd.f19.body = some c19_0 := rfl
theorem n19 : Tryd.f19.ntmps = 23 := rfl
theorem r19 : Tryd.f19.results = #[.tmp 4] := rfl
theorem fn19 : tb.fn 19 = some Tryd.f19 := by rw [tb_eq]; exact Tryd.func19
theorem run19 {args : List V} {st : St} (ha : args.length ≤ 23) : (run tb).call 19 args st = leave tb [.tmp 4] ((run tb).code none c19_0 (mk 23 (argF args) []) st) := call_run fn19 (tbmode 19) b19 n19 r19 ha
noncomputable def c19_1 : Code := kid c19_0 0
noncomputable def c19_2 : Code := kid c19_0 1
noncomputable def c19_3 : Code := kid c19_2 0
noncomputable def c19_4 : Code := kid c19_2 1
noncomputable def o19_1 : Array Oper := opsOf (kid (bodyOf Tryd.f19) 0)
noncomputable def o19_3 : Array Oper := opsOf (kid (kid (bodyOf Tryd.f19) 1) 0)
theorem e19_0 : c19_0 = .seq c19_1 c19_2 := rfl
theorem e19_1 : c19_1 = .region 0 o19_1 false := rfl
theorem e19_2 : c19_2 = .seq c19_3 c19_4 := rfl
theorem e19_3 : c19_3 = .region 1 o19_3 false := rfl
theorem e19_4 : c19_4 = .ret := rfl
theorem g19_0 : (run tb).code rd c19_0 (mk 23 f m) st = andThen ((run tb).code rd c19_1 (mk 23 f m) st) (fun fr st => (run tb).code rd c19_2 fr st) := gx_seq e19_0
noncomputable def l19_1 : { l : List Step // lightOf o19_1 = l } := by refine ⟨?_, ?h⟩; case h => simp only [lightOf, o19_1, opsOf, kid, bodyOf, Tryd.f19, Option.getD_some, List.map, stepOf, Option.map, List.getElem?_toArray, List.getElem?_cons_succ, List.getElem?_cons_zero, Option.bind_some]; rfl
theorem g19_1 : (run tb).code rd c19_1 (mk 23 f m) st = regB (evSteps tb (run tb) l19_1.1 (mk 23 f m) st) := gx_region e19_1 l19_1.2
theorem g19_2 : (run tb).code rd c19_2 (mk 23 f m) st = andThen ((run tb).code rd c19_3 (mk 23 f m) st) (fun fr st => (run tb).code rd c19_4 fr st) := gx_seq e19_2
noncomputable def l19_3 : { l : List Step // lightOf o19_3 = l } := by refine ⟨?_, ?h⟩; case h => simp only [lightOf, o19_3, opsOf, kid, bodyOf, Tryd.f19, Option.getD_some, List.map, stepOf, Option.map, List.getElem?_toArray, List.getElem?_cons_succ, List.getElem?_cons_zero, Option.bind_some]; rfl
theorem g19_3 : (run tb).code rd c19_3 (mk 23 f m) st = regB (evSteps tb (run tb) l19_3.1 (mk 23 f m) st) := gx_region e19_3 l19_3.2
theorem g19_4 : (run tb).code rd c19_4 (mk 23 f m) st = some (.ret, mk 23 f m, st) := gx_ret e19_4
noncomputable def c28_0 : Code := bodyOf Tryd.f28
theorem b28 : Tryd.f28.body = some c28_0 := rfl
theorem n28 : Tryd.f28.ntmps = 17 := rfl
theorem r28 : Tryd.f28.results = #[.tmp 4] := rfl
theorem fn28 : tb.fn 28 = some Tryd.f28 := by rw [tb_eq]; exact Tryd.func28
theorem run28 {args : List V} {st : St} (ha : args.length ≤ 17) : (run tb).call 28 args st = leave tb [.tmp 4] ((run tb).code none c28_0 (mk 17 (argF args) []) st) := call_run fn28 (tbmode 28) b28 n28 r28 ha
noncomputable def c28_1 : Code := kid c28_0 0
noncomputable def c28_2 : Code := kid c28_0 1
noncomputable def c28_3 : Code := kid c28_2 0
noncomputable def c28_4 : Code := kid c28_3 0
noncomputable def c28_5 : Code := kid c28_3 1
noncomputable def c28_6 : Code := kid c28_5 0
noncomputable def c28_7 : Code := kid c28_6 0
noncomputable def c28_8 : Code := kid c28_6 1
noncomputable def c28_9 : Code := kid c28_5 1
noncomputable def c28_10 : Code := kid c28_2 1
noncomputable def c28_11 : Code := kid c28_10 0
noncomputable def c28_12 : Code := kid c28_10 1
noncomputable def c28_13 : Code := kid c28_12 0
noncomputable def c28_14 : Code := kid c28_12 1
noncomputable def o28_1 : Array Oper := opsOf (kid (bodyOf Tryd.f28) 0)
noncomputable def o28_4 : Array Oper := opsOf (kid (kid (kid (bodyOf Tryd.f28) 1) 0) 0)
noncomputable def o28_7 : Array Oper := opsOf (kid (kid (kid (kid (kid (bodyOf Tryd.f28) 1) 0) 1) 0) 0)
noncomputable def o28_11 : Array Oper := opsOf (kid (kid (kid (bodyOf Tryd.f28) 1) 1) 0)
noncomputable def o28_13 : Array Oper := opsOf (kid (kid (kid (kid (bodyOf Tryd.f28) 1) 1) 1) 0)
theorem e28_0 : c28_0 = .seq c28_1 c28_2 := rfl
theorem e28_1 : c28_1 = .region 0 o28_1 false := rfl
theorem e28_2 : c28_2 = .seq c28_3 c28_10 := rfl
theorem e28_3 : c28_3 = .seq c28_4 c28_5 := rfl
theorem e28_4 : c28_4 = .region 1 o28_4 false := rfl
theorem e28_5 : c28_5 = .cond (.tmp 13) c28_6 c28_9 := rfl
theorem e28_6 : c28_6 = .seq c28_7 c28_8 := rfl
theorem e28_7 : c28_7 = .region 2 o28_7 false := rfl
theorem e28_8 : c28_8 = .ret := rfl
theorem e28_9 : c28_9 = .skip := rfl
theorem e28_10 : c28_10 = .seq c28_11 c28_12 := rfl
theorem e28_11 : c28_11 = .region 3 o28_11 false := rfl
theorem e28_12 : c28_12 = .seq c28_13 c28_14 := rfl
theorem e28_13 : c28_13 = .region 4 o28_13 false := rfl
theorem e28_14 : c28_14 = .ret := rfl
theorem g28_0 : (run tb).code rd c28_0 (mk 17 f m) st = andThen ((run tb).code rd c28_1 (mk 17 f m) st) (fun fr st => (run tb).code rd c28_2 fr st) := gx_seq e28_0
noncomputable def l28_1 : { l : List Step // lightOf o28_1 = l } := by refine ⟨?_, ?h⟩; case h => simp only [lightOf, o28_1, opsOf, kid, bodyOf, Tryd.f28, Option.getD_some, List.map, stepOf, Option.map, List.getElem?_toArray, List.getElem?_cons_succ, List.getElem?_cons_zero, Option.bind_some]; rfl
theorem g28_1 : (run tb).code rd c28_1 (mk 17 f m) st = regB (evSteps tb (run tb) l28_1.1 (mk 17 f m) st) := gx_region e28_1 l28_1.2
theorem g28_2 : (run tb).code rd c28_2 (mk 17 f m) st = andThen ((run tb).code rd c28_3 (mk 17 f m) st) (fun fr st => (run tb).code rd c28_10 fr st) := gx_seq e28_2
theorem g28_3 : (run tb).code rd c28_3 (mk 17 f m) st = andThen ((run tb).code rd c28_4 (mk 17 f m) st) (fun fr st => (run tb).code rd c28_5 fr st) := gx_seq e28_3
noncomputable def l28_4 : { l : List Step // lightOf o28_4 = l } := by refine ⟨?_, ?h⟩; case h => simp only [lightOf, o28_4, opsOf, kid, bodyOf, Tryd.f28, Option.getD_some, List.map, stepOf, Option.map, List.getElem?_toArray, List.getElem?_cons_succ, List.getElem?_cons_zero, Option.bind_some]; rfl
theorem g28_4 : (run tb).code rd c28_4 (mk 17 f m) st = regB (evSteps tb (run tb) l28_4.1 (mk 17 f m) st) := gx_region e28_4 l28_4.2
theorem g28_5 : (run tb).code rd c28_5 (mk 17 f m) st = branch (f 13) (fun x => (run tb).code rd (sel x c28_6 c28_9) (mk 17 f m) st) := gx_cond e28_5 (by decide)
theorem g28_6 : (run tb).code rd c28_6 (mk 17 f m) st = andThen ((run tb).code rd c28_7 (mk 17 f m) st) (fun fr st => (run tb).code rd c28_8 fr st) := gx_seq e28_6
noncomputable def l28_7 : { l : List Step // lightOf o28_7 = l } := by refine ⟨?_, ?h⟩; case h => simp only [lightOf, o28_7, opsOf, kid, bodyOf, Tryd.f28, Option.getD_some, List.map, stepOf, Option.map, List.getElem?_toArray, List.getElem?_cons_succ, List.getElem?_cons_zero, Option.bind_some]; rfl
theorem g28_7 : (run tb).code rd c28_7 (mk 17 f m) st = regB (evSteps tb (run tb) l28_7.1 (mk 17 f m) st) := gx_region e28_7 l28_7.2
theorem g28_8 : (run tb).code rd c28_8 (mk 17 f m) st = some (.ret, mk 17 f m, st) := gx_ret e28_8
theorem g28_9 : (run tb).code rd c28_9 (mk 17 f m) st = some (.normal, mk 17 f m, st) := gx_skip e28_9
theorem g28_10 : (run tb).code rd c28_10 (mk 17 f m) st = andThen ((run tb).code rd c28_11 (mk 17 f m) st) (fun fr st => (run tb).code rd c28_12 fr st) := gx_seq e28_10
noncomputable def l28_11 : { l : List Step // lightOf o28_11 = l } := by refine ⟨?_, ?h⟩; case h => simp only [lightOf, o28_11, opsOf, kid, bodyOf, Tryd.f28, Option.getD_some, List.map, stepOf, Option.map, List.getElem?_toArray, List.getElem?_cons_succ, List.getElem?_cons_zero, Option.bind_some]; rfl
theorem g28_11 : (run tb).code rd c28_11 (mk 17 f m) st = regB (evSteps tb (run tb) l28_11.1 (mk 17 f m) st) := gx_region e28_11 l28_11.2
theorem g28_12 : (run tb).code rd c28_12 (mk 17 f m) st = andThen ((run tb).code rd c28_13 (mk 17 f m) st) (fun fr st => (run tb).code rd c28_14 fr st) := gx_seq e28_12
noncomputable def l28_13 : { l : List Step // lightOf o28_13 = l } := by refine ⟨?_, ?h⟩; case h => simp only [lightOf, o28_13, opsOf, kid, bodyOf, Tryd.f28, Option.getD_some, List.map, stepOf, Option.map, List.getElem?_toArray, List.getElem?_cons_succ, List.getElem?_cons_zero, Option.bind_some]; rfl
theorem g28_13 : (run tb).code rd c28_13 (mk 17 f m) st = regB (evSteps tb (run tb) l28_13.1 (mk 17 f m) st) := gx_region e28_13 l28_13.2
theorem g28_14 : (run tb).code rd c28_14 (mk 17 f m) st = some (.ret, mk 17 f m, st) := gx_ret e28_14
noncomputable def c29_0 : Code := bodyOf Tryd.f29
theorem b29 : Tryd.f29.body = some c29_0 := rfl
theorem n29 : Tryd.f29.ntmps = 12 := rfl
theorem r29 : Tryd.f29.results = #[.tmp 4] := rfl
theorem fn29 : tb.fn 29 = some Tryd.f29 := by rw [tb_eq]; exact Tryd.func29
theorem run29 {args : List V} {st : St} (ha : args.length ≤ 12) : (run tb).call 29 args st = leave tb [.tmp 4] ((run tb).code none c29_0 (mk 12 (argF args) []) st) := call_run fn29 (tbmode 29) b29 n29 r29 ha
noncomputable def c29_1 : Code := kid c29_0 0
noncomputable def c29_2 : Code := kid c29_0 1
noncomputable def c29_3 : Code := kid c29_2 0
noncomputable def c29_4 : Code := kid c29_3 0
noncomputable def c29_5 : Code := kid c29_3 1
noncomputable def c29_6 : Code := kid c29_5 0
noncomputable def c29_7 : Code := kid c29_6 0
noncomputable def c29_8 : Code := kid c29_6 1
noncomputable def c29_9 : Code := kid c29_5 1
noncomputable def c29_10 : Code := kid c29_2 1
noncomputable def c29_11 : Code := kid c29_10 0
noncomputable def c29_12 : Code := kid c29_10 1
noncomputable def c29_13 : Code := kid c29_12 0
noncomputable def c29_14 : Code := kid c29_12 1
noncomputable def o29_1 : Array Oper := opsOf (kid (bodyOf Tryd.f29) 0)
noncomputable def o29_4 : Array Oper := opsOf (kid (kid (kid (bodyOf Tryd.f29) 1) 0) 0)
noncomputable def o29_7 : Array Oper := opsOf (kid (kid (kid (kid (kid (bodyOf Tryd.f29) 1) 0) 1) 0) 0)
noncomputable def o29_11 : Array Oper := opsOf (kid (kid (kid (bodyOf Tryd.f29) 1) 1) 0)
noncomputable def o29_13 : Array Oper := opsOf (kid (kid (kid (kid (bodyOf Tryd.f29) 1) 1) 1) 0)
theorem e29_0 : c29_0 = .seq c29_1 c29_2 := rfl
theorem e29_1 : c29_1 = .region 0 o29_1 false := rfl
theorem e29_2 : c29_2 = .seq c29_3 c29_10 := rfl
theorem e29_3 : c29_3 = .seq c29_4 c29_5 := rfl
theorem e29_4 : c29_4 = .region 1 o29_4 false := rfl
theorem e29_5 : c29_5 = .cond (.tmp 8) c29_6 c29_9 := rfl
theorem e29_6 : c29_6 = .seq c29_7 c29_8 := rfl
theorem e29_7 : c29_7 = .region 2 o29_7 false := rfl
theorem e29_8 : c29_8 = .ret := rfl
theorem e29_9 : c29_9 = .skip := rfl
theorem e29_10 : c29_10 = .seq c29_11 c29_12 := rfl
theorem e29_11 : c29_11 = .region 3 o29_11 false := rfl
theorem e29_12 : c29_12 = .seq c29_13 c29_14 := rfl
theorem e29_13 : c29_13 = .region 4 o29_13 false := rfl
theorem e29_14 : c29_14 = .ret := rfl
theorem g29_0 : (run tb).code rd c29_0 (mk 12 f m) st = andThen ((run tb).code rd c29_1 (mk 12 f m) st) (fun fr st => (run tb).code rd c29_2 fr st) := gx_seq e29_0
noncomputable def l29_1 : { l : List Step // lightOf o29_1 = l } := by refine ⟨?_, ?h⟩; case h => simp only [lightOf, o29_1, opsOf, kid, bodyOf, Tryd.f29, Option.getD_some, List.map, stepOf, Option.map, List.getElem?_toArray, List.getElem?_cons_succ, List.getElem?_cons_zero, Option.bind_some]; rfl
theorem g29_1 : (run tb).code rd c29_1 (mk 12 f m) st = regB (evSteps tb (run tb) l29_1.1 (mk 12 f m) st) := gx_region e29_1 l29_1.2
theorem g29_2 : (run tb).code rd c29_2 (mk 12 f m) st = andThen ((run tb).code rd c29_3 (mk 12 f m) st) (fun fr st => (run tb).code rd c29_10 fr st) := gx_seq e29_2
theorem g29_3 : (run tb).code rd c29_3 (mk 12 f m) st = andThen ((run tb).code rd c29_4 (mk 12 f m) st) (fun fr st => (run tb).code rd c29_5 fr st) := gx_seq e29_3
noncomputable def l29_4 : { l : List Step // lightOf o29_4 = l } := by refine ⟨?_, ?h⟩; case h => simp only [lightOf, o29_4, opsOf, kid, bodyOf, Tryd.f29, Option.getD_some, List.map, stepOf, Option.map, List.getElem?_toArray, List.getElem?_cons_succ, List.getElem?_cons_zero, Option.bind_some]; rfl
theorem g29_4 : (run tb).code rd c29_4 (mk 12 f m) st = regB (evSteps tb (run tb) l29_4.1 (mk 12 f m) st) := gx_region e29_4 l29_4.2
theorem g29_5 : (run tb).code rd c29_5 (mk 12 f m) st = branch (f 8) (fun x => (run tb).code rd (sel x c29_6 c29_9) (mk 12 f m) st) := gx_cond e29_5 (by decide)
theorem g29_6 : (run tb).code rd c29_6 (mk 12 f m) st = andThen ((run tb).code rd c29_7 (mk 12 f m) st) (fun fr st => (run tb).code rd c29_8 fr st) := gx_seq e29_6
noncomputable def l29_7 : { l : List Step // lightOf o29_7 = l } := by refine ⟨?_, ?h⟩; case h => simp only [lightOf, o29_7, opsOf, kid, bodyOf, Tryd.f29, Option.getD_some, List.map, stepOf, Option.map, List.getElem?_toArray, List.getElem?_cons_succ, List.getElem?_cons_zero, Option.bind_some]; rfl
theorem g29_7 : (run tb).code rd c29_7 (mk 12 f m) st = regB (evSteps tb (run tb) l29_7.1 (mk 12 f m) st) := gx_region e29_7 l29_7.2
theorem g29_8 : (run tb).code rd c29_8 (mk 12 f m) st = some (.ret, mk 12 f m, st) := gx_ret e29_8
theorem g29_9 : (run tb).code rd c29_9 (mk 12 f m) st = some (.normal, mk 12 f m, st) := gx_skip e29_9
theorem g29_10 : (run tb).code rd c29_10 (mk 12 f m) st = andThen ((run tb).code rd c29_11 (mk 12 f m) st) (fun fr st => (run tb).code rd c29_12 fr st) := gx_seq e29_10
noncomputable def l29_11 : { l : List Step // lightOf o29_11 = l } := by refine ⟨?_, ?h⟩; case h => simp only [lightOf, o29_11, opsOf, kid, bodyOf, Tryd.f29, Option.getD_some, List.map, stepOf, Option.map, List.getElem?_toArray, List.getElem?_cons_succ, List.getElem?_cons_zero, Option.bind_some]; rfl
theorem g29_11 : (run tb).code rd c29_11 (mk 12 f m) st = regB (evSteps tb (run tb) l29_11.1 (mk 12 f m) st) := gx_region e29_11 l29_11.2
theorem g29_12 : (run tb).code rd c29_12 (mk 12 f m) st = andThen ((run tb).code rd c29_13 (mk 12 f m) st) (fun fr st => (run tb).code rd c29_14 fr st) := gx_seq e29_12
noncomputable def l29_13 : { l : List Step // lightOf o29_13 = l } := by refine ⟨?_, ?h⟩; case h => simp only [lightOf, o29_13, opsOf, kid, bodyOf, Tryd.f29, Option.getD_some, List.map, stepOf, Option.map, List.getElem?_toArray, List.getElem?_cons_succ, List.getElem?_cons_zero, Option.bind_some]; rfl
theorem g29_13 : (run tb).code rd c29_13 (mk 12 f m) st = regB (evSteps tb (run tb) l29_13.1 (mk 12 f m) st) := gx_region e29_13 l29_13.2
theorem g29_14 : (run tb).code rd c29_14 (mk 12 f m) st = some (.ret, mk 12 f m, st) := gx_ret e29_14
noncomputable def c33_0 : Code := bodyOf Tryd.f33
theorem b33 : Tryd.f33.body = some c33_0 := rfl
theorem n33 : Tryd.f33.ntmps = 35 := rfl
theorem r33 : Tryd.f33.results = #[.tmp 2] := rfl
theorem fn33 : tb.fn 33 = some Tryd.f33 := by rw [tb_eq]; exact Tryd.func33
theorem run33 {args : List V} {st : St} (ha : args.length ≤ 35) : (run tb).call 33 args st = leave tb [.tmp 2] ((run tb).code none c33_0 (mk 35 (argF args) []) st) := call_run fn33 (tbmode 33) b33 n33 r33 ha
noncomputable def c33_1 : Code := kid c33_0 0
noncomputable def c33_2 : Code := kid c33_0 1
noncomputable def c33_3 : Code := kid c33_2 0
noncomputable def c33_4 : Code := kid c33_2 1
noncomputable def c33_5 : Code := kid c33_4 0
noncomputable def c33_6 : Code := kid c33_4 1
noncomputable def c33_7 : Code := kid c33_6 0
noncomputable def c33_8 : Code := kid c33_6 1
noncomputable def c33_9 : Code := kid c33_8 0
noncomputable def c33_10 : Code := kid c33_8 1
noncomputable def c33_11 : Code := kid c33_10 0
noncomputable def c33_12 : Code := kid c33_10 1
noncomputable def c33_13 : Code := kid c33_12 0
noncomputable def c33_14 : Code := kid c33_12 1
noncomputable def c33_15 : Code := kid c33_14 0
noncomputable def c33_16 : Code := kid c33_14 1
noncomputable def o33_1 : Array Oper := opsOf (kid (bodyOf Tryd.f33) 0)
noncomputable def o33_3 : Array Oper := opsOf (kid (kid (bodyOf Tryd.f33) 1) 0)
noncomputable def o33_5 : Array Oper := opsOf (kid (kid (kid (bodyOf Tryd.f33) 1) 1) 0)
noncomputable def o33_7 : Array Oper := opsOf (kid (kid (kid (kid (bodyOf Tryd.f33) 1) 1) 1) 0)
noncomputable def o33_9 : Array Oper := opsOf (kid (kid (kid (kid (kid (bodyOf Tryd.f33) 1) 1) 1) 1) 0)
noncomputable def o33_11 : Array Oper := opsOf (kid (kid (kid (kid (kid (kid (bodyOf Tryd.f33) 1) 1) 1) 1) 1) 0)
noncomputable def o33_13 : Array Oper := opsOf (kid (kid (kid (kid (kid (kid (kid (bodyOf Tryd.f33) 1) 1) 1) 1) 1) 1) 0)
noncomputable def o33_15 : Array Oper := opsOf (kid (kid (kid (kid (kid (kid (kid (kid (bodyOf Tryd.f33) 1) 1) 1) 1) 1) 1) 1) 0)
theorem e33_0 : c33_0 = .seq c33_1 c33_2 := rfl
theorem e33_1 : c33_1 = .region 0 o33_1 false := rfl
theorem e33_2 : c33_2 = .seq c33_3 c33_4 := rfl
theorem e33_3 : c33_3 = .region 1 o33_3 false := rfl
theorem e33_4 : c33_4 = .seq c33_5 c33_6 := rfl
theorem e33_5 : c33_5 = .region 2 o33_5 false := rfl
theorem e33_6 : c33_6 = .seq c33_7 c33_8 := rfl
theorem e33_7 : c33_7 = .region 3 o33_7 false := rfl
theorem e33_8 : c33_8 = .seq c33_9 c33_10 := rfl
theorem e33_9 : c33_9 = .region 4 o33_9 false := rfl
theorem e33_10 : c33_10 = .seq c33_11 c33_12 := rfl
theorem e33_11 : c33_11 = .region 5 o33_11 false := rfl
theorem e33_12 : c33_12 = .seq c33_13 c33_14 := rfl
theorem e33_13 : c33_13 = .region 6 o33_13 false := rfl
theorem e33_14 : c33_14 = .seq c33_15 c33_16 := rfl
theorem e33_15 : c33_15 = .region 7 o33_15 false := rfl
theorem e33_16 : c33_16 = .ret := rfl
theorem g33_0 : (run tb).code rd c33_0 (mk 35 f m) st = andThen ((run tb).code rd c33_1 (mk 35 f m) st) (fun fr st => (run tb).code rd c33_2 fr st) := gx_seq e33_0
noncomputable def l33_1 : { l : List Step // lightOf o33_1 = l } := by refine ⟨?_, ?h⟩; case h => simp only [lightOf, o33_1, opsOf, kid, bodyOf, Tryd.f33, Option.getD_some, List.map, stepOf, Option.map, List.getElem?_toArray, List.getElem?_cons_succ, List.getElem?_cons_zero, Option.bind_some]; rfl
theorem g33_1 : (run tb).code rd c33_1 (mk 35 f m) st = regB (evSteps tb (run tb) l33_1.1 (mk 35 f m) st) := gx_region e33_1 l33_1.2
theorem g33_2 : (run tb).code rd c33_2 (mk 35 f m) st = andThen ((run tb).code rd c33_3 (mk 35 f m) st) (fun fr st => (run tb).code rd c33_4 fr st) := gx_seq e33_2
noncomputable def l33_3 : { l : List Step // lightOf o33_3 = l } := by refine ⟨?_, ?h⟩; case h => simp only [lightOf, o33_3, opsOf, kid, bodyOf, Tryd.f33, Option.getD_some, List.map, stepOf, Option.map, List.getElem?_toArray, List.getElem?_cons_succ, List.getElem?_cons_zero, Option.bind_some]; rfl
theorem g33_3 : (run tb).code rd c33_3 (mk 35 f m) st = regB (evSteps tb (run tb) l33_3.1 (mk 35 f m) st) := gx_region e33_3 l33_3.2
theorem g33_4 : (run tb).code rd c33_4 (mk 35 f m) st = andThen ((run tb).code rd c33_5 (mk 35 f m) st) (fun fr st => (run tb).code rd c33_6 fr st) := gx_seq e33_4
noncomputable def l33_5 : { l : List Step // lightOf o33_5 = l } := by refine ⟨?_, ?h⟩; case h => simp only [lightOf, o33_5, opsOf, kid, bodyOf, Tryd.f33, Option.getD_some, List.map, stepOf, Option.map, List.getElem?_toArray, List.getElem?_cons_succ, List.getElem?_cons_zero, Option.bind_some]; rfl
theorem g33_5 : (run tb).code rd c33_5 (mk 35 f m) st = regB (evSteps tb (run tb) l33_5.1 (mk 35 f m) st) := gx_region e33_5 l33_5.2
theorem g33_6 : (run tb).code rd c33_6 (mk 35 f m) st = andThen ((run tb).code rd c33_7 (mk 35 f m) st) (fun fr st => (run tb).code rd c33_8 fr st) := gx_seq e33_6
noncomputable def l33_7 : { l : List Step // lightOf o33_7 = l } := by refine ⟨?_, ?h⟩; case h => simp only [lightOf, o33_7, opsOf, kid, bodyOf, Tryd.f33, Option.getD_some, List.map, stepOf, Option.map, List.getElem?_toArray, List.getElem?_cons_succ, List.getElem?_cons_zero, Option.bind_some]; rfl
theorem g33_7 : (run tb).code rd c33_7 (mk 35 f m) st = regB (evSteps tb (run tb) l33_7.1 (mk 35 f m) st) := gx_region e33_7 l33_7.2
theorem g33_8 : (run tb).code rd c33_8 (mk 35 f m) st = andThen ((run tb).code rd c33_9 (mk 35 f m) st) (fun fr st => (run tb).code rd c33_10 fr st) := gx_seq e33_8
noncomputable def l33_9 : { l : List Step // lightOf o33_9 = l } := by refine ⟨?_, ?h⟩; case h => simp only [lightOf, o33_9, opsOf, kid, bodyOf, Tryd.f33, Option.getD_some, List.map, stepOf, Option.map, List.getElem?_toArray, List.getElem?_cons_succ, List.getElem?_cons_zero, Option.bind_some]; rfl
theorem g33_9 : (run tb).code rd c33_9 (mk 35 f m) st = regB (evSteps tb (run tb) l33_9.1 (mk 35 f m) st) := gx_region e33_9 l33_9.2
theorem g33_10 : (run tb).code rd c33_10 (mk 35 f m) st = andThen ((run tb).code rd c33_11 (mk 35 f m) st) (fun fr st => (run tb).code rd c33_12 fr st) := gx_seq e33_10
noncomputable def l33_11 : { l : List Step // lightOf o33_11 = l } := by refine ⟨?_, ?h⟩; case h => simp only [lightOf, o33_11, opsOf, kid, bodyOf, Tryd.f33, Option.getD_some, List.map, stepOf, Option.map, List.getElem?_toArray, List.getElem?_cons_succ, List.getElem?_cons_zero, Option.bind_some]; rfl
theorem g33_11 : (run tb).code rd c33_11 (mk 35 f m) st = regB (evSteps tb (run tb) l33_11.1 (mk 35 f m) st) := gx_region e33_11 l33_11.2
theorem g33_12 : (run tb).code rd c33_12 (mk 35 f m) st = andThen ((run tb).code rd c33_13 (mk 35 f m) st) (fun fr st => (run tb).code rd c33_14 fr st) := gx_seq e33_12
noncomputable def l33_13 : { l : List Step // lightOf o33_13 = l } := by refine ⟨?_, ?h⟩; case h => simp only [lightOf, o33_13, opsOf, kid, bodyOf, Tryd.f33, Option.getD_some, List.map, stepOf, Option.map, List.getElem?_toArray, List.getElem?_cons_succ, List.getElem?_cons_zero, Option.bind_some]; rfl
theorem g33_13 : (run tb).code rd c33_13 (mk 35 f m) st = regB (evSteps tb (run tb) l33_13.1 (mk 35 f m) st) := gx_region e33_13 l33_13.2
theorem g33_14 : (run tb).code rd c33_14 (mk 35 f m) st = andThen ((run tb).code rd c33_15 (mk 35 f m) st) (fun fr st => (run tb).code rd c33_16 fr st) := gx_seq e33_14
noncomputable def l33_15 : { l : List Step // lightOf o33_15 = l } := by refine ⟨?_, ?h⟩; case h => simp only [lightOf, o33_15, opsOf, kid, bodyOf, Tryd.f33, Option.getD_some, List.map, stepOf, Option.map, List.getElem?_toArray, List.getElem?_cons_succ, List.getElem?_cons_zero, Option.bind_some]; rfl
theorem g33_15 : (run tb).code rd c33_15 (mk 35 f m) st = regB (evSteps tb (run tb) l33_15.1 (mk 35 f m) st) := gx_region e33_15 l33_15.2
theorem g33_16 : (run tb).code rd c33_16 (mk 35 f m) st = some (.ret, mk 35 f m, st) := gx_ret e33_16
noncomputable def c34_0 : Code := bodyOf Tryd.f34
theorem b34 : Tryd.f34.body = some c34_0 := rfl
theorem n34 : Tryd.f34.ntmps = 15 := rfl
theorem r34 : Tryd.f34.results = #[.tmp 4] := rfl
theorem fn34 : tb.fn 34 = some Tryd.f34 := by rw [tb_eq]; exact Tryd.func34
theorem run34 {args : List V} {st : St} (ha : args.length ≤ 15) : (run tb).call 34 args st = leave tb [.tmp 4] ((run tb).code none c34_0 (mk 15 (argF args) []) st) := call_run fn34 (tbmode 34) b34 n34 r34 ha
noncomputable def c34_1 : Code := kid c34_0 0
noncomputable def c34_2 : Code := kid c34_0 1
noncomputable def c34_3 : Code := kid c34_2 0
noncomputable def c34_4 : Code := kid c34_2 1
noncomputable def o34_1 : Array Oper := opsOf (kid (bodyOf Tryd.f34) 0)
noncomputable def o34_3 : Array Oper := opsOf (kid (kid (bodyOf Tryd.f34) 1) 0)
theorem e34_0 : c34_0 = .seq c34_1 c34_2 := rfl
theorem e34_1 : c34_1 = .region 0 o34_1 false := rfl
theorem e34_2 : c34_2 = .seq c34_3 c34_4 := rfl
theorem e34_3 : c34_3 = .region 1 o34_3 false := rfl
theorem e34_4 : c34_4 = .ret := rfl
theorem g34_0 : (run tb).code rd c34_0 (mk 15 f m) st = andThen ((run tb).code rd c34_1 (mk 15 f m) st) (fun fr st => (run tb).code rd c34_2 fr st) := gx_seq e34_0
noncomputable def l34_1 : { l : List Step // lightOf o34_1 = l } := by refine ⟨?_, ?h⟩; case h => simp only [lightOf, o34_1, opsOf, kid, bodyOf, Tryd.f34, Option.getD_some, List.map, stepOf, Option.map, List.getElem?_toArray, List.getElem?_cons_succ, List.getElem?_cons_zero, Option.bind_some]; rfl
theorem g34_1 : (run tb).code rd c34_1 (mk 15 f m) st = regB (evSteps tb (run tb) l34_1.1 (mk 15 f m) st) := gx_region e34_1 l34_1.2
theorem g34_2 : (run tb).code rd c34_2 (mk 15 f m) st = andThen ((run tb).code rd c34_3 (mk 15 f m) st) (fun fr st => (run tb).code rd c34_4 fr st) := gx_seq e34_2
noncomputable def l34_3 : { l : List Step // lightOf o34_3 = l } := by refine ⟨?_, ?h⟩; case h => simp only [lightOf, o34_3, opsOf, kid, bodyOf, Tryd.f34, Option.getD_some, List.map, stepOf, Option.map, List.getElem?_toArray, List.getElem?_cons_succ, List.getElem?_cons_zero, Option.bind_some]; rfl
theorem g34_3 : (run tb).code rd c34_3 (mk 15 f m) st = regB (evSteps tb (run tb) l34_3.1 (mk 15 f m) st) := gx_region e34_3 l34_3.2
theorem g34_4 : (run tb).code rd c34_4 (mk 15 f m) st = some (.ret, mk 15 f m, st) := gx_ret e34_4
noncomputable def c43_0 : Code := bodyOf Tryd.f43
theorem b43 : Tryd.f43.body = some c43_0 := rfl
theorem n43 : Tryd.f43.ntmps = 17 := rfl
theorem r43 : Tryd.f43.results = #[] := rfl
theorem fn43 : tb.fn 43 = some Tryd.f43 := by rw [tb_eq]; exact Tryd.func43
theorem run43 {args : List V} {st : St} (ha : args.length ≤ 17) : (run tb).call 43 args st = leave tb [] ((run tb).code none c43_0 (mk 17 (argF args) []) st) := call_run fn43 (tbmode 43) b43 n43 r43 ha
noncomputable def o43_0 : Array Oper := opsOf (bodyOf Tryd.f43)
theorem e43_0 : c43_0 = .region 0 o43_0 true := rfl
noncomputable def l43_0 : { l : List DStep // drawAt o43_0 [(0, 0), (1, 1), (2, 3), (3, 7), (4, 0), (5, 16), (6, 63), (7, 127), (8, 0), (9, 256), (10, 768), (11, 2047), (12, 4095), (13, 8191)] = l } := by refine ⟨?_, ?h⟩; case h => simp only [drawAt, entsAt, o43_0, opsOf, kid, bodyOf, Tryd.f43, Option.getD_some, List.map, stepOf, Option.map, List.getElem?_toArray, List.getElem?_cons_succ, List.getElem?_cons_zero, Option.bind_some]; rfl
theorem g43_0 : (run tb).code rd c43_0 (mk 17 f m) st = regB (evDraws tb (run tb) l43_0.1 [] (mk 17 f m) st) := gx_draw [(0, 0), (1, 1), (2, 3), (3, 7), (4, 0), (5, 16), (6, 63), (7, 127), (8, 0), (9, 256), (10, 768), (11, 2047), (12, 4095), (13, 8191)] e43_0 (by kernel_rfl) l43_0.2
end Go.Proofs.YtgknieohkniojaaDoor
namespace Go.Proofs.YtgknieohkniojaaDoor
open Go.Abs
set_option maxRecDepth 100000
set_option linter.unusedSimpArgs false
set_option maxHeartbeats 1000000
theorem m_inv {S : Go.Abs.S} {g : FuncId} {fs args cs : List V} {st : St} : evInvoke tb S (V.func (Fn.func g) fs cs) args st = S.call g (fs ++ args ++ cs) st := by
  show (match tb.ext g with | some e => evExt e (fs ++ args ++ cs) st | Option.none => S.call g (fs ++ args ++ cs) st) = _
  rw [tbext]
theorem ty3 : tb.ty 3 = some { size := 1, bytes := 8, agg := false, zero := .int .i64 0, und := .int .i64, plain := true } := by rw [tb_eq]; kernel_rfl
theorem ty4 : tb.ty 4 = some { size := 1, bytes := 1, agg := false, zero := .bool false, und := .bool, plain := true } := by rw [tb_eq]; kernel_rfl
theorem ty22 : tb.ty 22 = some { size := 1, bytes := 24, agg := false, zero := .list true (some true) [], und := .slice 3, plain := true } := by rw [tb_eq]; kernel_rfl
theorem ty58 : tb.ty 58 = some { size := 1, bytes := 8, agg := false, zero := .int .u64 0, und := .int .u64, plain := true } := by rw [tb_eq]; kernel_rfl
theorem ty53 : tb.ty 53 = some { size := 1, bytes := 24, agg := false, zero := .list true (some true) [], und := .slice 58, plain := true } := by rw [tb_eq]; kernel_rfl
theorem und55 : tb.und 55 = some (.struct (match Tryd.prog.underlying 55 with | some (.struct fs) => fs | _ => #[])) := by rw [tb_eq]; kernel_rfl
theorem und53 : tb.und 53 = some (.slice 58) := by rw [tb_eq]; kernel_rfl
theorem und22 : tb.und 22 = some (.slice 3) := by rw [tb_eq]; kernel_rfl
theorem und4 : tb.und 4 = some .bool := by rw [tb_eq]; kernel_rfl
theorem eq_bool (x y : Bool) : eqVal tb 4 (.bool x) (.bool y) = some (x == y) := by unfold eqVal; rw [ty4]
theorem ty28 : ∃ ti e, tb.ty 28 = some ti ∧ ti.und = .pointer e := by
  have h : (match tb.ty 28 with | some ti => (match ti.und with | .pointer _ => true | _ => false) | .none => false) = true := by rw [tb_eq]; kernel_rfl
  cases e : tb.ty 28 with
  | none => rw [e] at h; cases h
  | some ti =>
    rw [e] at h
    cases e2 : ti.und with
    | pointer x => exact ⟨ti, x, rfl, e2⟩
    | _ => simp only [e2] at h; cases h
theorem eq_nil28 (r o : Nat) : eqVal tb 28 (.ptr r o) .nilp = some false := by
  obtain ⟨ti, e, h, h2⟩ := ty28
  unfold eqVal; simp only [h, h2]
theorem size3 : tb.size 3 = some 1 := by rw [tb_eq]; kernel_rfl
theorem size53 : tb.size 53 = some 1 := by rw [tb_eq]; kernel_rfl
theorem size58 : tb.size 58 = some 1 := by rw [tb_eq]; kernel_rfl
theorem size22 : tb.size 22 = some 1 := by rw [tb_eq]; kernel_rfl

/-- A set lies in the store: its box, its words. -/
structure SetAt (st : St) (r rv b : Nat) (S : Nat → Bool) : Prop where
  hb : st.store[r]? = some (.box [.int .i64 (b : Int), .slice rv 1 0 (nw b)])
  hv : st.store[rv]? = some (.vec false (words b S))
  hz : ∀ i, b ≤ i → S i = false
  hm : b ≤ 65536
/-- May it be changed? -/
def Free (st : St) (rv : Nat) : Prop := st.base ≤ rv ∧ ¬ rv ∈ st.prot
def putW (st : St) (rv b : Nat) (S : Nat → Bool) : St := { st with store := st.store.set rv (.vec false (words b S)) }
theorem SetAt.ne {st : St} {r rv b : Nat} {S : Nat → Bool} (h : SetAt st r rv b S) : rv ≠ r := fun e => by have := h.hv; rw [e, h.hb] at this; cases this
theorem SetAt.put {st : St} {r rv b : Nat} {S S' : Nat → Bool} (h : SetAt st r rv b S) (hz : ∀ i, b ≤ i → S' i = false) : SetAt (putW st rv b S') r rv b S' where
  hb := by
    show (st.store.set rv _)[r]? = _
    rw [List.getElem?_set_ne h.ne]; exact h.hb
  hv := by
    have h1 := h.hv
    have : rv < st.store.length := by
      by_cases hh : rv < st.store.length
      · exact hh
      · rw [List.getElem?_eq_none (by omega)] at h1; cases h1
    show (st.store.set rv _)[rv]? = _
    rw [List.getElem?_set_self this]
  hz := hz
  hm := h.hm
theorem set_same {α : Type} {l : List α} {i : Nat} {x : α} (h : l[i]? = some x) : l.set i x = l := by
  apply List.ext_getElem?
  intro j
  rw [List.getElem?_set]
  by_cases hj : i = j
  · subst hj
    have : i < l.length := by
      by_cases hh : i < l.length
      · exact hh
      · rw [List.getElem?_eq_none (by omega)] at h; cases h
    rw [if_pos rfl, if_pos this, h]
  · rw [if_neg hj]
theorem putW_self {st : St} {r rv b : Nat} {S S' : Nat → Bool} (h : SetAt st r rv b S) (e : ∀ i, S' i = S i) : putW st rv b S' = st := by
  have : S' = S := funext e
  subst this
  unfold putW; rw [set_same h.hv]
theorem putW_putW {st : St} {rv b : Nat} {S S' : Nat → Bool} : putW (putW st rv b S) rv b S' = putW st rv b S' := by
  unfold putW; simp

theorem within_run (st : St) (r : Nat) (i b : Int) (ws : List V) (h : st.store[r]? = some (.box (.int .i64 b :: ws))) :
    (run tb).call 34 [.ptr r 0, .int .i64 i] st = some (.bool (decide (0 ≤ i) && decide (i < b)), st) := by
  rw [run34 (by simp)]
  simp only [e34_0, e34_1, e34_2, e34_3, e34_4, go_seq, run_region, run_cond, go_block, run_exit, run_ret, run_skip0, region_steps]
  simp only [lightOf, drawAt, entsAt, opsOf, o34_1, o34_3, kid, bodyOf, Tryd.f34, Option.getD_some, List.map, stepOf, Option.map, List.getElem?_toArray, List.getElem?_cons_succ, List.getElem?_cons_zero, Option.bind_some]
  by_cases hi : 0 ≤ i
  all_goals
    simp [evSteps, evStep, wanted_none, wanted_some, asB, mk_put, mk_put_none, arg_tmp, arg_const, arg_func, arg_global, upd_same, upd_ne, evPure, evArgs, m_load, m_store, m_alloc, m_box, m_call, m_lookup, m_mapUpdate, evInvoke, tbext, evLoad, readCells, evFieldAddr, evIndexAddr, asIdx, ofValue, isPure, evBin, ib_lss, ib_leq, ib_gtr, ib_geq, ib_eql, ib_neq, evUn, leave_normal, leave_ret, finish, then_normal, then_exit, then_ret, close_normal, close_exit, close_ret, evConv, mk_marks, dropMarks, resOf, resList, mk_getD, argF, List.getD_cons_zero, List.getD_cons_succ, V.cells, evLen, -List.getD_eq_getElem?_getD, -getElem?_pos, und55, und53, und22, size3, size53, size58, size22, ty3, ty4, ty53, ty58, ty22, hi, h]
/-- Is a number in a set? -/
def inS (S : Nat → Bool) (i : Int) : Bool := decide (0 ≤ i) && S i.toNat
theorem has_aux (st : St) (r rv m q : Nat) (i b t w s a : Int) (x : Bool) (ws : List V) (h : st.store[r]? = some (.box [.int .i64 b, .slice rv 1 0 m])) (hv : st.store[rv]? = some (.vec false ws))
    (h0 : 0 ≤ i) (hi : i < b) (hq : q < m) (hw : ws[q]? = some (.int .u64 w)) (e1 : intBin .quo .i64 i 64 = some (.int .i64 (q : Int))) (e2 : intBin .rem .i64 i 64 = some (.int .i64 t))
    (e3 : shiftBin .shr .u64 w t = some (.int .u64 s)) (e4 : intBin .and .u64 s 1 = some (.int .u64 a)) (e5 : (a != 0) = x) :
    (run tb).call 19 [.ptr r 0, .int .i64 i] st = some (.bool x, st) := by
  have hw' := within_run st r i b _ h
  rw [run19 (by simp)]
  simp only [e19_0, e19_1, e19_2, e19_3, e19_4, go_seq, run_region, run_cond, go_block, run_exit, run_ret, run_skip0, region_steps]
  simp only [lightOf, drawAt, entsAt, opsOf, o19_1, o19_3, kid, bodyOf, Tryd.f19, Option.getD_some, List.map, stepOf, Option.map, List.getElem?_toArray, List.getElem?_cons_succ, List.getElem?_cons_zero, Option.bind_some]
  simp [evSteps, evStep, wanted_none, wanted_some, asB, mk_put, mk_put_none, arg_tmp, arg_const, arg_func, arg_global, upd_same, upd_ne, evPure, evArgs, m_load, m_store, m_alloc, m_box, m_call, m_lookup, m_mapUpdate, evInvoke, tbext, evLoad, readCells, evFieldAddr, evIndexAddr, asIdx, ofValue, isPure, evBin, ib_lss, ib_leq, ib_gtr, ib_geq, ib_eql, ib_neq, evUn, leave_normal, leave_ret, finish, then_normal, then_exit, then_ret, close_normal, close_exit, close_ret, evConv, mk_marks, dropMarks, resOf, resList, mk_getD, argF, List.getD_cons_zero, List.getD_cons_succ, V.cells, evLen, -List.getD_eq_getElem?_getD, -getElem?_pos, und55, und53, und22, size3, size53, size58, size22, ty3, ty4, ty53, ty58, ty22, hw', h, hv, hi, h0, e1, e2, e3, e4, e5, hw, hq]
theorem has_out (st : St) (r rv m : Nat) (i b : Int) (h : st.store[r]? = some (.box [.int .i64 b, .slice rv 1 0 m])) (hi : ¬ (0 ≤ i ∧ i < b)) :
    (run tb).call 19 [.ptr r 0, .int .i64 i] st = some (.bool false, st) := by
  have hw' := within_run st r i b _ h
  have : (decide (0 ≤ i) && decide (i < b)) = false := by
    rw [← Bool.decide_and]; exact decide_eq_false hi
  rw [this] at hw'
  rw [run19 (by simp)]
  simp only [e19_0, e19_1, e19_2, e19_3, e19_4, go_seq, run_region, run_cond, go_block, run_exit, run_ret, run_skip0, region_steps]
  simp only [lightOf, drawAt, entsAt, opsOf, o19_1, o19_3, kid, bodyOf, Tryd.f19, Option.getD_some, List.map, stepOf, Option.map, List.getElem?_toArray, List.getElem?_cons_succ, List.getElem?_cons_zero, Option.bind_some]
  simp [evSteps, evStep, wanted_none, wanted_some, asB, mk_put, mk_put_none, arg_tmp, arg_const, arg_func, arg_global, upd_same, upd_ne, evPure, evArgs, m_load, m_store, m_alloc, m_box, m_call, m_lookup, m_mapUpdate, evInvoke, tbext, evLoad, readCells, evFieldAddr, evIndexAddr, asIdx, ofValue, isPure, evBin, ib_lss, ib_leq, ib_gtr, ib_geq, ib_eql, ib_neq, evUn, leave_normal, leave_ret, finish, then_normal, then_exit, then_ret, close_normal, close_exit, close_ret, evConv, mk_marks, dropMarks, resOf, resList, mk_getD, argF, List.getD_cons_zero, List.getD_cons_succ, V.cells, evLen, -List.getD_eq_getElem?_getD, -getElem?_pos, und55, und53, und22, size3, size53, size58, size22, ty3, ty4, ty53, ty58, ty22, hw', h]
theorem bit_of (x n : Nat) (hn : n < 64) : (((x >>> n &&& 1 : Nat) : Int) != 0) = x.testBit n := by
  rw [Nat.testBit, Nat.and_comm]
  cases h : (1 &&& x >>> n) with
  | zero => rfl
  | succ k => simp; omega
theorem has_run (st : St) (r rv b : Nat) (S : Nat → Bool) (i : Int) (h : SetAt st r rv b S) : (run tb).call 19 [.ptr r 0, .int .i64 i] st = some (.bool (inS S i), st) := by
  have hm := h.hm
  by_cases hi : 0 ≤ i ∧ i < b
  · obtain ⟨h0, hi⟩ := hi
    obtain ⟨k, rfl⟩ : ∃ k : Nat, i = k := ⟨i.toNat, by omega⟩
    have hk : k < b := by omega
    have hx := wd_lt S (k / 64)
    have hs : wd S (k / 64) >>> (k % 64) < 2 ^ 64 := Nat.lt_of_le_of_lt (Nat.shiftRight_le _ _) hx
    refine has_aux st r rv (nw b) (k / 64) k b (k % 64 : Nat) (wd S (k / 64) : Nat) (wd S (k / 64) >>> (k % 64) : Nat) (wd S (k / 64) >>> (k % 64) &&& 1 : Nat) _ _ h.hb h.hv h0 hi (by unfold nw; omega) (words_get _ (by unfold nw; omega)) (quo64 64 rfl (by omega) (by decide)) (rem64 64 rfl (by decide)) (shr64 _ _ (Nat.mod_lt _ (by decide))) (and64 _ 1 hs (by decide)) ?_
    rw [bit_of _ _ (Nat.mod_lt _ (by decide)), wd_testBit]
    have e : 64 * (k / 64) + k % 64 = k := by omega
    rw [e]
    simp [inS, Nat.mod_lt]
  · rw [has_out st r rv (nw b) i b h.hb hi]
    have : inS S i = false := by
      unfold inS
      by_cases h0 : 0 ≤ i
      · rw [h.hz _ (by omega)]; simp
      · simp [h0]
    rw [this]
theorem flip_aux (st : St) (r rv m q : Nat) (i b t w s a : Int) (ws : List V) (h : st.store[r]? = some (.box [.int .i64 b, .slice rv 1 0 m])) (hv : st.store[rv]? = some (.vec false ws)) (hl : st.base ≤ rv ∧ ¬ rv ∈ st.prot)
    (h0 : 0 ≤ i) (hq : q < m) (hw : ws[q]? = some (.int .u64 w)) (e1 : intBin .quo .i64 i 64 = some (.int .i64 (q : Int))) (e2 : intBin .rem .i64 i 64 = some (.int .i64 t))
    (e3 : shiftBin .shl .u64 1 t = some (.int .u64 s)) (e4 : intBin .xor .u64 w s = some (.int .u64 a)) :
    (run tb).call 43 [.ptr r 0, .int .i64 i] st = some (.tup [], { st with store := st.store.set rv (.vec false (ws.set q (.int .u64 a))) }) := by
  rw [run43 (by simp)]
  rw [e43_0, run_region]
  rw [region_draws [(0, 0), (1, 1), (2, 3), (3, 7), (4, 0), (5, 16), (6, 63), (7, 127), (8, 0), (9, 256), (10, 768), (11, 2047), (12, 4095), (13, 8191)] (by kernel_rfl)]
  simp only [drawAt, entsAt, opsOf, o43_0, kid, bodyOf, Tryd.f43, Option.getD_some, List.map, stepOf, Option.map, List.getElem?_toArray, List.getElem?_cons_succ, List.getElem?_cons_zero, Option.bind_some]
  simp (config := { decide := true }) [evDraws, kdOp, kdOf, readsOf, protS, evStep, wanted_none, mk_put, mk_put_none, arg_tmp, arg_const, upd_same, upd_ne, evPure, evArgs, m_load, m_store, evLoad, readCells, evFieldAddr, evIndexAddr, asIdx, ofValue, isPure, evBin, leave_normal, leave_ret, finish, mk_marks, dropMarks, resOf, resList, mk_getD, argF, V.cells, und55, und53, size3, size53, size58, ty3, ty53, ty58, h, hv, hl, h0, e1, e2, e3, e4, hw, hq, evStore, V.oneCell, putElem, splice, St.locked, Nat.not_lt.2 hl.1, List.getD_cons_zero, List.getD_cons_succ, -List.getD_eq_getElem?_getD]
theorem flip_run (st : St) (r rv b k : Nat) (S : Nat → Bool) (h : SetAt st r rv b S) (hl : Free st rv) (hk : k < b) :
    (run tb).call 43 [.ptr r 0, .int .i64 (k : Int)] st = some (.tup [], putW st rv b (flipAt S k)) := by
  have hm := h.hm
  have hx := wd_lt S (k / 64)
  have := flip_aux st r rv (nw b) (k / 64) k b (k % 64 : Nat) (wd S (k / 64) : Nat) (2 ^ (k % 64) : Nat) ((wd S (k / 64) ^^^ 2 ^ (k % 64) : Nat)) _ h.hb h.hv hl (by omega) (by unfold nw; omega) (words_get _ (by unfold nw; omega)) (quo64 64 rfl (by omega) (by decide)) (rem64 64 rfl (by decide)) (shl1 _ (Nat.mod_lt _ (by decide))) (xor64 _ _ hx (Nat.pow_lt_pow_right (by decide) (Nat.mod_lt _ (by decide))))
  rw [words_flip] at this
  exact this

/-- A number is added; a number is cut. -/
def addS (b : Nat) (S : Nat → Bool) (i : Int) : Nat → Bool := fun j => S j || (decide (j < b) && decide ((j : Int) = i))
def cutS (S : Nat → Bool) (i : Int) : Nat → Bool := fun j => S j && !decide ((j : Int) = i)
theorem addS_z {b : Nat} {S : Nat → Bool} {i : Int} (h : ∀ j, b ≤ j → S j = false) : ∀ j, b ≤ j → addS b S i j = false := fun j hj => by
  unfold addS; rw [h j hj]; simp; omega
theorem cutS_z {b : Nat} {S : Nat → Bool} {i : Int} (h : ∀ j, b ≤ j → S j = false) : ∀ j, b ≤ j → cutS S i j = false := fun j hj => by
  unfold cutS; rw [h j hj]; rfl
theorem add_run (st : St) (r rv b : Nat) (S : Nat → Bool) (i : Int) (h : SetAt st r rv b S) (hl : Free st rv) :
    (run tb).call 28 [.ptr r 0, .int .i64 i] st = some (.bool (decide (0 ≤ i) && decide (i < b) && !inS S i), putW st rv b (addS b S i)) := by
  have hw := within_run st r i b _ h.hb
  have hh := has_run st r rv b S i h
  by_cases hi : (decide (0 ≤ i) && decide (i < b)) = true
  · rw [hi] at hw ⊢
    have h0 : 0 ≤ i ∧ i < b := by simpa using hi
    obtain ⟨k, rfl⟩ : ∃ k : Nat, i = k := ⟨i.toNat, by omega⟩
    have hk : k < b := by omega
    cases hs : inS S k with
    | true =>
      rw [hs] at hh
      rw [putW_self h (fun j => by
        unfold addS inS at *
        by_cases hj : j = k
        · subst hj; simp at hs; simp [hs]
        · have : ¬ ((j : Int) = k) := by omega
          simp [this])]
      rw [run28 (by simp)]
      simp only [e28_0, e28_1, e28_2, e28_3, e28_4, e28_5, e28_6, e28_7, e28_8, e28_9, e28_10, e28_11, e28_12, e28_13, e28_14, go_seq, run_region, run_cond, go_block, run_exit, run_ret, run_skip0, region_steps]
      simp only [lightOf, drawAt, entsAt, opsOf, o28_1, o28_4, o28_7, o28_11, o28_13, kid, bodyOf, Tryd.f28, Option.getD_some, List.map, stepOf, Option.map, List.getElem?_toArray, List.getElem?_cons_succ, List.getElem?_cons_zero, Option.bind_some]
      simp [evSteps, evStep, wanted_none, wanted_some, asB, mk_put, mk_put_none, arg_tmp, arg_const, arg_func, arg_global, upd_same, upd_ne, evPure, evArgs, m_load, m_store, m_alloc, m_box, m_call, m_lookup, m_mapUpdate, evInvoke, tbext, evLoad, readCells, evFieldAddr, evIndexAddr, asIdx, ofValue, isPure, evBin, ib_lss, ib_leq, ib_gtr, ib_geq, ib_eql, ib_neq, evUn, leave_normal, leave_ret, finish, then_normal, then_exit, then_ret, close_normal, close_exit, close_ret, evConv, mk_marks, dropMarks, resOf, resList, mk_getD, argF, List.getD_cons_zero, List.getD_cons_succ, V.cells, evLen, -List.getD_eq_getElem?_getD, -getElem?_pos, und55, und53, und22, size3, size53, size58, size22, ty3, ty4, ty53, ty58, ty22, hw, hh]
    | false =>
      rw [hs] at hh
      have hf := flip_run st r rv b k S h hl hk
      have e : flipAt S k = addS b S k := by
        funext j
        unfold flipAt addS inS at *
        by_cases hj : j = k
        · subst hj; simp at hs; simp [hs, hk]
        · have : ¬ ((j : Int) = k) := by omega
          simp [this, hj]
      rw [e] at hf
      rw [run28 (by simp)]
      simp only [e28_0, e28_1, e28_2, e28_3, e28_4, e28_5, e28_6, e28_7, e28_8, e28_9, e28_10, e28_11, e28_12, e28_13, e28_14, go_seq, run_region, run_cond, go_block, run_exit, run_ret, run_skip0, region_steps]
      simp only [lightOf, drawAt, entsAt, opsOf, o28_1, o28_4, o28_7, o28_11, o28_13, kid, bodyOf, Tryd.f28, Option.getD_some, List.map, stepOf, Option.map, List.getElem?_toArray, List.getElem?_cons_succ, List.getElem?_cons_zero, Option.bind_some]
      simp [evSteps, evStep, wanted_none, wanted_some, asB, mk_put, mk_put_none, arg_tmp, arg_const, arg_func, arg_global, upd_same, upd_ne, evPure, evArgs, m_load, m_store, m_alloc, m_box, m_call, m_lookup, m_mapUpdate, evInvoke, tbext, evLoad, readCells, evFieldAddr, evIndexAddr, asIdx, ofValue, isPure, evBin, ib_lss, ib_leq, ib_gtr, ib_geq, ib_eql, ib_neq, evUn, leave_normal, leave_ret, finish, then_normal, then_exit, then_ret, close_normal, close_exit, close_ret, evConv, mk_marks, dropMarks, resOf, resList, mk_getD, argF, List.getD_cons_zero, List.getD_cons_succ, V.cells, evLen, -List.getD_eq_getElem?_getD, -getElem?_pos, und55, und53, und22, size3, size53, size58, size22, ty3, ty4, ty53, ty58, ty22, hw, hh, hf]
  · have hi' : (decide (0 ≤ i) && decide (i < b)) = false := by simpa using hi
    rw [hi'] at hw ⊢
    rw [putW_self h (fun j => by
        unfold addS
        by_cases hj : (j : Int) = i
        · subst hj; simp at hi'; simp; intro hb; omega
        · simp [hj])]
    rw [run28 (by simp)]
    simp only [e28_0, e28_1, e28_2, e28_3, e28_4, e28_5, e28_6, e28_7, e28_8, e28_9, e28_10, e28_11, e28_12, e28_13, e28_14, go_seq, run_region, run_cond, go_block, run_exit, run_ret, run_skip0, region_steps]
    simp only [lightOf, drawAt, entsAt, opsOf, o28_1, o28_4, o28_7, o28_11, o28_13, kid, bodyOf, Tryd.f28, Option.getD_some, List.map, stepOf, Option.map, List.getElem?_toArray, List.getElem?_cons_succ, List.getElem?_cons_zero, Option.bind_some]
    simp [evSteps, evStep, wanted_none, wanted_some, asB, mk_put, mk_put_none, arg_tmp, arg_const, arg_func, arg_global, upd_same, upd_ne, evPure, evArgs, m_load, m_store, m_alloc, m_box, m_call, m_lookup, m_mapUpdate, evInvoke, tbext, evLoad, readCells, evFieldAddr, evIndexAddr, asIdx, ofValue, isPure, evBin, ib_lss, ib_leq, ib_gtr, ib_geq, ib_eql, ib_neq, evUn, leave_normal, leave_ret, finish, then_normal, then_exit, then_ret, close_normal, close_exit, close_ret, evConv, mk_marks, dropMarks, resOf, resList, mk_getD, argF, List.getD_cons_zero, List.getD_cons_succ, V.cells, evLen, -List.getD_eq_getElem?_getD, -getElem?_pos, und55, und53, und22, size3, size53, size58, size22, ty3, ty4, ty53, ty58, ty22, hw]
theorem cut_run (st : St) (r rv b : Nat) (S : Nat → Bool) (i : Int) (h : SetAt st r rv b S) (hl : Free st rv) :
    (run tb).call 29 [.ptr r 0, .int .i64 i] st = some (.bool (inS S i), putW st rv b (cutS S i)) := by
  have hh := has_run st r rv b S i h
  cases hs : inS S i with
  | true =>
    rw [hs] at hh
    have h0 : 0 ≤ i ∧ S i.toNat = true := by simpa [inS] using hs
    obtain ⟨k, rfl⟩ : ∃ k : Nat, i = k := ⟨i.toNat, by omega⟩
    have h1 : S k = true := h0.2
    have hk : k < b := by
      by_cases hk : k < b
      · exact hk
      · rw [h.hz k (by omega)] at h1; cases h1
    have hf := flip_run st r rv b k S h hl hk
    have e : flipAt S k = cutS S k := by
      funext j
      unfold flipAt cutS
      by_cases hj : j = k
      · subst hj; simp [h1]
      · have : ¬ ((j : Int) = k) := by omega
        simp [this, hj]
    rw [e] at hf
    rw [run29 (by simp)]
    simp only [e29_0, e29_1, e29_2, e29_3, e29_4, e29_5, e29_6, e29_7, e29_8, e29_9, e29_10, e29_11, e29_12, e29_13, e29_14, go_seq, run_region, run_cond, go_block, run_exit, run_ret, run_skip0, region_steps]
    simp only [lightOf, drawAt, entsAt, opsOf, o29_1, o29_4, o29_7, o29_11, o29_13, kid, bodyOf, Tryd.f29, Option.getD_some, List.map, stepOf, Option.map, List.getElem?_toArray, List.getElem?_cons_succ, List.getElem?_cons_zero, Option.bind_some]
    simp [evSteps, evStep, wanted_none, wanted_some, asB, mk_put, mk_put_none, arg_tmp, arg_const, arg_func, arg_global, upd_same, upd_ne, evPure, evArgs, m_load, m_store, m_alloc, m_box, m_call, m_lookup, m_mapUpdate, evInvoke, tbext, evLoad, readCells, evFieldAddr, evIndexAddr, asIdx, ofValue, isPure, evBin, ib_lss, ib_leq, ib_gtr, ib_geq, ib_eql, ib_neq, evUn, leave_normal, leave_ret, finish, then_normal, then_exit, then_ret, close_normal, close_exit, close_ret, evConv, mk_marks, dropMarks, resOf, resList, mk_getD, argF, List.getD_cons_zero, List.getD_cons_succ, V.cells, evLen, -List.getD_eq_getElem?_getD, -getElem?_pos, und55, und53, und22, size3, size53, size58, size22, ty3, ty4, ty53, ty58, ty22, hh, hf]
  | false =>
    rw [hs] at hh
    rw [putW_self h (fun j => by
        unfold cutS
        unfold inS at hs
        by_cases hj : (j : Int) = i
        · subst hj; simp at hs; simp [hs]
        · simp [hj])]
    rw [run29 (by simp)]
    simp only [e29_0, e29_1, e29_2, e29_3, e29_4, e29_5, e29_6, e29_7, e29_8, e29_9, e29_10, e29_11, e29_12, e29_13, e29_14, go_seq, run_region, run_cond, go_block, run_exit, run_ret, run_skip0, region_steps]
    simp only [lightOf, drawAt, entsAt, opsOf, o29_1, o29_4, o29_7, o29_11, o29_13, kid, bodyOf, Tryd.f29, Option.getD_some, List.map, stepOf, Option.map, List.getElem?_toArray, List.getElem?_cons_succ, List.getElem?_cons_zero, Option.bind_some]
    simp [evSteps, evStep, wanted_none, wanted_some, asB, mk_put, mk_put_none, arg_tmp, arg_const, arg_func, arg_global, upd_same, upd_ne, evPure, evArgs, m_load, m_store, m_alloc, m_box, m_call, m_lookup, m_mapUpdate, evInvoke, tbext, evLoad, readCells, evFieldAddr, evIndexAddr, asIdx, ofValue, isPure, evBin, ib_lss, ib_leq, ib_gtr, ib_geq, ib_eql, ib_neq, evUn, leave_normal, leave_ret, finish, then_normal, then_exit, then_ret, close_normal, close_exit, close_ret, evConv, mk_marks, dropMarks, resOf, resList, mk_getD, argF, List.getD_cons_zero, List.getD_cons_succ, V.cells, evLen, -List.getD_eq_getElem?_getD, -getElem?_pos, und55, und53, und22, size3, size53, size58, size22, ty3, ty4, ty53, ty58, ty22, hh]
end Go.Proofs.YtgknieohkniojaaDoor
namespace Go.Proofs.YtgknieohkniojaaDoor
open Go.Abs
set_option maxRecDepth 100000
set_option linter.unusedSimpArgs false
set_option maxHeartbeats 1000000
theorem und58 : tb.und 58 = some (.int .u64) := by rw [tb_eq]; kernel_rfl
theorem und3 : tb.und 3 = some (.int .i64) := by rw [tb_eq]; kernel_rfl
theorem ones_aux (st : St) (x s1 t1 u1 x1 s2 t2 u2 x2 s3 v3 x3 s4 x4 s5 x5 s6 x6 y : Int)
    (a1 : shiftBin .shr .u64 x 1 = some (.int .u64 s1)) (a2 : intBin .and .u64 s1 6148914691236517205 = some (.int .u64 t1)) (a3 : intBin .and .u64 x 6148914691236517205 = some (.int .u64 u1)) (a4 : intBin .add .u64 t1 u1 = some (.int .u64 x1))
    (b1 : shiftBin .shr .u64 x1 2 = some (.int .u64 s2)) (b2 : intBin .and .u64 s2 3689348814741910323 = some (.int .u64 t2)) (b3 : intBin .and .u64 x1 3689348814741910323 = some (.int .u64 u2)) (b4 : intBin .add .u64 t2 u2 = some (.int .u64 x2))
    (c1 : shiftBin .shr .u64 x2 4 = some (.int .u64 s3)) (c2 : intBin .add .u64 s3 x2 = some (.int .u64 v3)) (c3 : intBin .and .u64 v3 1085102592571150095 = some (.int .u64 x3))
    (d1 : shiftBin .shr .u64 x3 8 = some (.int .u64 s4)) (d2 : intBin .add .u64 x3 s4 = some (.int .u64 x4))
    (e1 : shiftBin .shr .u64 x4 16 = some (.int .u64 s5)) (e2 : intBin .add .u64 x4 s5 = some (.int .u64 x5))
    (f1 : shiftBin .shr .u64 x5 32 = some (.int .u64 s6)) (f2 : intBin .add .u64 x5 s6 = some (.int .u64 x6))
    (g1 : IntKind.i64.wrap x6 = x6) (g2 : intBin .and .i64 x6 127 = some (.int .i64 y)) :
    (run tb).call 33 [.int .u64 x] st = some (.int .i64 y, st) := by
  rw [run33 (by simp)]
  simp only [e33_0, e33_1, e33_2, e33_3, e33_4, e33_5, e33_6, e33_7, e33_8, e33_9, e33_10, e33_11, e33_12, e33_13, e33_14, e33_15, e33_16, go_seq, run_region, run_cond, go_block, run_exit, run_ret, run_skip0, region_steps]
  simp only [lightOf, drawAt, entsAt, opsOf, o33_1, o33_3, o33_5, o33_7, o33_9, o33_11, o33_13, o33_15, kid, bodyOf, Tryd.f33, Option.getD_some, List.map, stepOf, Option.map, List.getElem?_toArray, List.getElem?_cons_succ, List.getElem?_cons_zero, Option.bind_some]
  simp [evSteps, evStep, wanted_none, wanted_some, asB, mk_put, mk_put_none, arg_tmp, arg_const, arg_func, arg_global, upd_same, upd_ne, evPure, evArgs, m_load, m_store, m_alloc, m_box, m_call, m_lookup, m_mapUpdate, evInvoke, tbext, evLoad, readCells, evFieldAddr, evIndexAddr, asIdx, ofValue, isPure, evBin, ib_lss, ib_leq, ib_gtr, ib_geq, ib_eql, ib_neq, evUn, leave_normal, leave_ret, finish, then_normal, then_exit, then_ret, close_normal, close_exit, close_ret, evConv, mk_marks, dropMarks, resOf, resList, mk_getD, argF, List.getD_cons_zero, List.getD_cons_succ, V.cells, evLen, -List.getD_eq_getElem?_getD, -getElem?_pos, und55, und53, und22, size3, size53, size58, size22, ty3, ty4, ty53, ty58, ty22, a1, a2, a3, a4, b1, b2, b3, b4, c1, c2, c3, d1, d2, e1, e2, f1, f2, g1, g2, und58, und3]
theorem low4_le : ∀ n x, x < 256 ^ n → low4 n x → x ≤ rep 68 n
  | 0, x, h, _ => by simp at h; simp [h]
  | n + 1, x, h, ⟨h1, h2, h3⟩ => by
    have h4 : x / 256 < 256 ^ n := by rw [Nat.pow_succ] at h; omega
    have := low4_le n (x / 256) h4 h3
    simp only [rep]; omega
theorem mapB_le (g : Nat → Nat) (c : Nat) (hg : ∀ b, b < 256 → g b ≤ c) : ∀ n x, mapB g n x ≤ rep c n
  | 0, _ => Nat.le_refl _
  | n + 1, x => by
    have h1 := mapB_le g c hg n (x / 256)
    have h2 := hg (x % 256) (Nat.mod_lt _ (by decide))
    simp only [mapB, rep]; omega
theorem ones_run (st : St) (x : Nat) (hx : x < 2 ^ 64) : (run tb).call 33 [.int .u64 (x : Int)] st = some (.int .i64 (cnt (fun j => x.testBit j) 64 : Nat), st) := by
  have m1 : rep 85 8 = 6148914691236517205 := by decide
  have m2 : rep 51 8 = 3689348814741910323 := by decide
  have m3 : rep 15 8 = 1085102592571150095 := by decide
  have q1 := sum1 8 x
  have l1 : mapB p1 8 x < 256 ^ 8 := mapB_lt p1 (fun b h => (step1b b h).2) 8 x
  have q2 := sum2 8 (mapB p1 8 x)
  have l2 : mapB p2 8 (mapB p1 8 x) < 256 ^ 8 := mapB_lt p2 (fun b h => (step2b b h).2) 8 _
  have q3 := sum3 8 _ (low4_ones x)
  have l3 := low4_le 8 _ l2 (low4_ones x)
  have l4 : mapB p3 8 (mapB p2 8 (mapB p1 8 x)) ≤ rep 8 8 := by rw [ones_bytes]; exact mapB_le _ 8 (fun b _ => cnt8_le b) 8 x
  have k1 : rep 68 8 = 4919131752989213764 := by decide
  have k2 : rep 8 8 = 578721382704613384 := by decide
  rw [m1] at q1; rw [m2] at q2; rw [m3] at q3; rw [k1] at l3; rw [k2] at l4
  generalize hx1 : mapB p1 8 x = x1 at *
  generalize hx2 : mapB p2 8 x1 = x2 at *
  generalize hx3 : mapB p3 8 x2 = x3 at *
  have l1' : x1 < 2 ^ 64 := l1
  have l2' : x2 < 2 ^ 64 := l2
  have fin := ones64 x (x3 + x3 / 256) (x3 + x3 / 256 + (x3 + x3 / 256) / 65536) _ (by rw [hx1, hx2, hx3]) rfl rfl
  generalize hx6 : x3 + x3 / 256 + (x3 + x3 / 256) / 65536 + (x3 + x3 / 256 + (x3 + x3 / 256) / 65536) / 4294967296 = x6 at fin
  refine ones_aux st x (x / 2 : Nat) (x / 2 &&& 6148914691236517205 : Nat) (x &&& 6148914691236517205 : Nat) x1 (x1 / 4 : Nat) (x1 / 4 &&& 3689348814741910323 : Nat) (x1 &&& 3689348814741910323 : Nat) x2 (x2 / 16 : Nat) (x2 / 16 + x2 : Nat) x3 (x3 / 256 : Nat) (x3 + x3 / 256 : Nat) ((x3 + x3 / 256) / 65536 : Nat) (x3 + x3 / 256 + (x3 + x3 / 256) / 65536 : Nat) ((x3 + x3 / 256 + (x3 + x3 / 256) / 65536) / 4294967296 : Nat) x6 _
    (shrD x 1 2 (by decide) (by decide)) (and64 _ 6148914691236517205 (by omega) (by decide)) (and64 _ 6148914691236517205 hx (by decide)) ?_
    (shrD x1 2 4 (by decide) (by decide)) (and64 _ 3689348814741910323 (by omega) (by decide)) (and64 _ 3689348814741910323 l1' (by decide)) ?_
    (shrD x2 4 16 (by decide) (by decide)) (addU _ _ (by omega)) ?_
    (shrD x3 8 256 (by decide) (by decide)) (addU _ _ (by omega)) (shrD _ 16 65536 (by decide) (by decide)) (addU _ _ (by omega)) (shrD _ 32 4294967296 (by decide) (by decide)) ?_ (wrap64 _ (by omega) (by omega)) ?_
  · rw [addU _ _ (by rw [q1]; exact l1'), q1]
  · rw [addU _ _ (by rw [q2]; exact l2'), q2]
  · have := and64 (x2 / 16 + x2) 1085102592571150095 (by omega) (by decide)
    rw [q3] at this; exact this
  · rw [addU _ _ (by rw [hx6]; omega), hx6]
  · have := andI x6 127 (by omega) (by decide)
    rw [Nat.and_two_pow_sub_one_eq_mod _ 7] at this
    rw [← fin.1]; exact this
theorem len_loop (st : St) (rv b : Nat) (S : Nat → Bool) (hv : st.store[rv]? = some (.vec false (words b S))) (hb : b ≤ 65536) : ∀ (d k : Nat) (f : Nat → V), k + d = nw b → f 3 = .int .i64 (cnt S (64 * k) : Nat) → f 9 = .slice rv 1 0 (nw b) → f 10 = .int .i64 (nw b : Nat) → f 11 = .int .i64 (k : Nat) →
    Out 21 [] (fun e f' st' => e = .exit 0 ∧ st' = st ∧ f' 3 = .int .i64 (cnt S (64 * nw b) : Nat)) ((run tb).code none c16_8 (mk 21 f []) st)
  | 0, k, f, hk, h3, h9, h10, h11 => by
    have hk : k = nw b := hk
    subst hk
    rw [go_loop_of e16_8]
    simp only [e16_9, e16_10, e16_11, e16_12, e16_13, e16_14, e16_15, e16_16, e16_17, e16_18, e16_19, e16_20, go_seq, run_region, run_cond, go_block, run_exit, run_ret, run_skip0, region_steps]
    simp only [lightOf, drawAt, entsAt, opsOf, o16_10, o16_18, o16_19, o16_20, kid, bodyOf, Tryd.f16, Option.getD_some, List.map, stepOf, Option.map, List.getElem?_toArray, List.getElem?_cons_succ, List.getElem?_cons_zero, Option.bind_some]
    simp [evSteps, evStep, wanted_none, wanted_some, asB, mk_put, mk_put_none, arg_tmp, arg_const, arg_func, arg_global, upd_same, upd_ne, evPure, evArgs, m_load, m_store, m_alloc, m_box, m_call, m_lookup, m_mapUpdate, evInvoke, tbext, evLoad, readCells, evFieldAddr, evIndexAddr, asIdx, ofValue, isPure, evBin, ib_lss, ib_leq, ib_gtr, ib_geq, ib_eql, ib_neq, evUn, leave_normal, leave_ret, finish, then_normal, then_exit, then_ret, close_normal, close_exit, close_ret, evConv, mk_marks, dropMarks, resOf, resList, mk_getD, argF, List.getD_cons_zero, List.getD_cons_succ, V.cells, evLen, -List.getD_eq_getElem?_getD, -getElem?_pos, und55, und53, und22, size3, size53, size58, size22, ty3, ty4, ty53, ty58, ty22, h3, h9, h10, h11]
    exact .one ⟨rfl, rfl, by simp [upd_ne, h3]⟩
  | d + 1, k, f, hk, h3, h9, h10, h11 => by
    have ih := len_loop st rv b S hv hb d (k + 1)
    have hlt : k < nw b := by omega
    have hnw : nw b ≤ 1025 := by unfold nw; omega
    have hw := words_get S hlt
    have ho := ones_run st (wd S k) (wd_lt S k)
    have ec : cnt (fun j => (wd S k).testBit j) 64 = cnt (fun j => S (64 * k + j)) 64 := cnt_congr fun j hj => by rw [wd_testBit]; simp [hj]
    have c1 := cnt_le S (64 * k)
    have c2 := cnt_le (fun j => S (64 * k + j)) 64
    have e0 : cnt S (64 * (k + 1)) = cnt S (64 * k) + cnt (fun j => S (64 * k + j)) 64 := cnt_add S (64 * k) 64
    rw [ec] at ho
    have a1 : intBin .add .i64 (cnt S (64 * k) : Nat) (cnt (fun j => S (64 * k + j)) 64 : Nat) = some (.int .i64 (cnt S (64 * (k + 1)) : Nat)) := by
      rw [add64 (by omega) (by omega), e0]; simp
    have a2 : intBin .add .i64 (k : Int) 1 = some (.int .i64 ((k + 1 : Nat) : Int)) := by rw [add64 (by omega) (by omega)]; simp
    generalize cnt S (64 * k) = n0 at *
    generalize cnt (fun j => S (64 * k + j)) 64 = n1 at *
    generalize hn2 : cnt S (64 * (k + 1)) = n2 at *
    generalize wd S k = w at *
    rw [go_loop_of e16_8]
    simp only [e16_9, e16_10, e16_11, e16_12, e16_13, e16_14, e16_15, e16_16, e16_17, e16_18, e16_19, e16_20, go_seq, run_region, run_cond, go_block, run_exit, run_ret, run_skip0, region_steps]
    simp only [lightOf, drawAt, entsAt, opsOf, o16_10, o16_18, o16_19, o16_20, kid, bodyOf, Tryd.f16, Option.getD_some, List.map, stepOf, Option.map, List.getElem?_toArray, List.getElem?_cons_succ, List.getElem?_cons_zero, Option.bind_some]
    simp [evSteps, evStep, wanted_none, wanted_some, asB, mk_put, mk_put_none, arg_tmp, arg_const, arg_func, arg_global, upd_same, upd_ne, evPure, evArgs, m_load, m_store, m_alloc, m_box, m_call, m_lookup, m_mapUpdate, evInvoke, tbext, evLoad, readCells, evFieldAddr, evIndexAddr, asIdx, ofValue, isPure, evBin, ib_lss, ib_leq, ib_gtr, ib_geq, ib_eql, ib_neq, evUn, leave_normal, leave_ret, finish, then_normal, then_exit, then_ret, close_normal, close_exit, close_ret, evConv, mk_marks, dropMarks, resOf, resList, mk_getD, argF, List.getD_cons_zero, List.getD_cons_succ, V.cells, evLen, -List.getD_eq_getElem?_getD, -getElem?_pos, und55, und53, und22, size3, size53, size58, size22, ty3, ty4, ty53, ty58, ty22, h3, h9, h10, h11, hv, hw, ho, a1, a2, hlt]
    exact ih _ (by omega) (by simp [upd_same, upd_ne]) (by simp [upd_same, upd_ne, h9]) (by simp [upd_same, upd_ne, h10]) (by simp [upd_same, upd_ne])
theorem len_run (st : St) (r rv b : Nat) (S : Nat → Bool) (h : SetAt st r rv b S) : (run tb).call 16 [.ptr r 0] st = some (.int .i64 (cnt S b : Nat), st) := by
  have hb := h.hb
  have hv := h.hv
  rw [run16 (by simp)]
  simp only [e16_0, e16_1, e16_2, e16_3, e16_4, e16_5, e16_6, e16_7, e16_21, e16_22, e16_23, go_seq, run_region, run_cond, go_block, run_exit, run_ret, run_skip0, region_steps]
  simp only [lightOf, drawAt, entsAt, opsOf, o16_1, o16_3, o16_6, o16_22, kid, bodyOf, Tryd.f16, Option.getD_some, List.map, stepOf, Option.map, List.getElem?_toArray, List.getElem?_cons_succ, List.getElem?_cons_zero, Option.bind_some]
  simp [evSteps, evStep, wanted_none, wanted_some, asB, mk_put, mk_put_none, arg_tmp, arg_const, arg_func, arg_global, upd_same, upd_ne, evPure, evArgs, m_load, m_store, m_alloc, m_box, m_call, m_lookup, m_mapUpdate, evInvoke, tbext, evLoad, readCells, evFieldAddr, evIndexAddr, asIdx, ofValue, isPure, evBin, ib_lss, ib_leq, ib_gtr, ib_geq, ib_eql, ib_neq, evUn, leave_normal, leave_ret, finish, then_normal, then_exit, then_ret, close_normal, close_exit, close_ret, evConv, mk_marks, dropMarks, resOf, resList, mk_getD, argF, List.getD_cons_zero, List.getD_cons_succ, V.cells, evLen, -List.getD_eq_getElem?_getD, -getElem?_pos, und55, und53, und22, size3, size53, size58, size22, ty3, ty4, ty53, ty58, ty22, hb, hv]
  refine Out.use (C := fun o => leave tb _ (andThen (closeB 0 o) _) = _) (len_loop st rv b S hv h.hm (nw b) 0 _ (by omega) (by simp [upd_same, upd_ne, cnt]) (by simp [upd_same, upd_ne]) (by simp [upd_same, upd_ne]) (by simp [upd_same, upd_ne])) ?_
  rintro e f st' ⟨rfl, rfl, hf⟩
  simp [evSteps, evStep, wanted_none, wanted_some, asB, mk_put, mk_put_none, arg_tmp, arg_const, arg_func, arg_global, upd_same, upd_ne, evPure, evArgs, m_load, m_store, m_alloc, m_box, m_call, m_lookup, m_mapUpdate, evInvoke, tbext, evLoad, readCells, evFieldAddr, evIndexAddr, asIdx, ofValue, isPure, evBin, ib_lss, ib_leq, ib_gtr, ib_geq, ib_eql, ib_neq, evUn, leave_normal, leave_ret, finish, then_normal, then_exit, then_ret, close_normal, close_exit, close_ret, evConv, mk_marks, dropMarks, resOf, resList, mk_getD, argF, List.getD_cons_zero, List.getD_cons_succ, V.cells, evLen, -List.getD_eq_getElem?_getD, -getElem?_pos, und55, und53, und22, size3, size53, size58, size22, ty3, ty4, ty53, ty58, ty22, hf]
  rw [cnt_none h.hz (by unfold nw; omega)]
end Go.Proofs.YtgknieohkniojaaDoor
namespace Go.Proofs.YtgknieohkniojaaDoor
open Go.Abs
set_option maxRecDepth 100000
set_option linter.unusedSimpArgs false
set_option maxHeartbeats 1000000
theorem min_int {k : IntKind} {x y : Int} : minmax false (.int k x) (.int k y) = some (.int k (min x y)) := by
  simp [minmax]; omega
theorem max_int {k : IntKind} {x y : Int} : minmax true (.int k x) (.int k y) = some (.int k (max x y)) := by
  simp [minmax]; omega
theorem ty55 : tb.ty 55 = some { size := 2, bytes := 32, agg := true, zero := .agg [.int .i64 0, .list true (some true) []], und := .struct (match Tryd.prog.underlying 55 with | some (.struct fs) => fs | _ => #[]), plain := true } := by rw [tb_eq]; kernel_rfl
theorem places55 : placesOf tb (match Tryd.prog.underlying 55 with | some (.struct fs) => fs | _ => #[]).toList = some [(0, 1), (1, 1)] := by rw [tb_eq]; kernel_rfl
theorem build55 (x y : V) (hx : x.cells = [x]) (hy : y.cells = [y]) : evBuild tb 55 [(0, x), (1, y)] = some (.agg [x, y]) := by
  unfold evBuild
  rw [ty55]
  simp only [places55]
  simp [fill, hx, hy]
  simp [V.cells, hx, hy]
theorem build55i (n : Int) (r s o l : Nat) : evBuild tb 55 [(0, .int .i64 n), (1, .slice r s o l)] = some (.agg [.int .i64 n, .slice r s o l]) := build55 _ _ rfl rfl
theorem make53 {fr : Fr} {st : St} {l c : Operand} {n : Nat} (hl : evArg tb fr l = some (.int .i64 n)) (hc : evArg tb fr c = some (.int .i64 n)) (hn : n < 1048576) {S : Go.Abs.S} :
    evMem tb S fr st (.makeSlice 53 l c) = some (.slice st.store.length 1 0 n, { st with store := st.store ++ [.vec false (List.replicate n (.int .u64 0))] }) :=
  m_makeSlice und53 ty58 (by decide) rfl hl hc (by show n * 8 < 2 ^ 40; omega) (by omega)
def emptyS : Nat → Bool := fun _ => false
theorem wd_empty (k : Nat) : wd emptyS k = 0 := by
  apply eq_of_bits64 (wd_lt _ _) (by decide)
  intro j _
  rw [wd_testBit]; simp [emptyS]
theorem words_empty (b : Nat) : List.replicate (nw b) (V.int .u64 0) = words b emptyS := by
  apply List.ext_getElem?
  intro i
  by_cases hi : i < nw b
  · rw [words_get _ hi, wd_empty]; simp [hi]
  · rw [words_none _ hi]; simp; omega
def ints (is : List Int) : List V := is.map (V.int .i64)
theorem ints_get {is : List Int} {k : Nat} (h : k < is.length) : (ints is)[k]? = some (.int .i64 is[k]) := by simp [ints, h]
theorem ints_len (is : List Int) : (ints is).length = is.length := by simp [ints]
def addAll (b : Nat) (S : Nat → Bool) (is : List Int) : Nat → Bool := is.foldl (addS b) S
theorem addAll_z {b : Nat} : ∀ (is : List Int) {S : Nat → Bool}, (∀ j, b ≤ j → S j = false) → ∀ j, b ≤ j → addAll b S is j = false
  | [], _, h => h
  | i :: is, _, h => addAll_z is (addS_z (i := i) h)
def okSt (st : St) : Prop := st.base ≤ st.store.length ∧ ∀ r ∈ st.prot, r < st.store.length
/-- The state with a new set. -/
def newSt (st : St) (b : Nat) (S : Nat → Bool) : St := { st with store := st.store ++ [.vec false (words b S), .box [.int .i64 (b : Int), .slice st.store.length 1 0 (nw b)]] }
theorem newSt_set {st : St} {b : Nat} {S : Nat → Bool} (hb : b ≤ 65536) (hz : ∀ j, b ≤ j → S j = false) : SetAt (newSt st b S) (st.store.length + 1) st.store.length b S where
  hb := by unfold newSt; rw [List.getElem?_append_right (by omega)]; simp
  hv := by unfold newSt; rw [List.getElem?_append_right (by omega)]; simp
  hz := hz
  hm := hb
theorem newSt_free {st : St} {b : Nat} {S : Nat → Bool} (h : okSt st) : Free (newSt st b S) st.store.length := ⟨h.1, fun hm => by have := h.2 _ hm; omega⟩
theorem newSt_put {st : St} {b : Nat} {S S' : Nat → Bool} : putW (newSt st b S) st.store.length b S' = newSt st b S' := by
  unfold putW newSt
  simp
theorem new_loop (r rv b : Nat) (full : Bool) (nl : Option Bool) (is : List Int) (hlen : is.length < 2 ^ 40) : ∀ (d k : Nat) (S : Nat → Bool) (st : St) (f : Nat → V), k + d = is.length → SetAt st r rv b S → Free st rv →
    f 19 = .list full nl (ints is) → f 20 = .int .i64 (is.length : Nat) → f 21 = .int .i64 (k : Nat) → f 5 = .ptr r 0 →
    Out 30 [] (fun e f' st' => e = .exit 0 ∧ st' = putW st rv b (addAll b S (is.drop k)) ∧ f' 5 = .ptr r 0) ((run tb).code none c10_10 (mk 30 f []) st)
  | 0, k, S, st, f, hk, hs, hl, h19, h20, h21, h5 => by
    have hk : k = is.length := hk
    subst hk
    rw [go_loop_of e10_10]
    simp only [e10_11, e10_12, e10_13, e10_14, e10_15, e10_16, e10_17, e10_18, e10_19, e10_20, e10_21, e10_22, go_seq, run_region, run_cond, go_block, run_exit, run_ret, run_skip0, region_steps]
    simp only [lightOf, drawAt, entsAt, opsOf, o10_12, o10_20, o10_21, o10_22, kid, bodyOf, Tryd.f10, Option.getD_some, List.map, stepOf, Option.map, List.getElem?_toArray, List.getElem?_cons_succ, List.getElem?_cons_zero, Option.bind_some]
    simp [evSteps, evStep, wanted_none, wanted_some, asB, mk_put, mk_put_none, arg_tmp, arg_const, arg_func, arg_global, upd_same, upd_ne, evPure, evArgs, m_load, m_store, m_alloc, m_box, m_call, m_lookup, m_mapUpdate, evInvoke, tbext, evLoad, readCells, evFieldAddr, evIndexAddr, asIdx, ofValue, isPure, evBin, ib_lss, ib_leq, ib_gtr, ib_geq, ib_eql, ib_neq, evUn, leave_normal, leave_ret, finish, then_normal, then_exit, then_ret, close_normal, close_exit, close_ret, evConv, mk_marks, dropMarks, resOf, resList, mk_getD, argF, List.getD_cons_zero, List.getD_cons_succ, V.cells, evLen, -List.getD_eq_getElem?_getD, -getElem?_pos, und55, und53, und22, size3, size53, size58, size22, ty3, ty4, ty53, ty58, ty22, h19, h20, h21, h5]
    refine .one ⟨rfl, ?_, by simp [upd_ne, h5]⟩
    first | (rw [List.drop_length]) | skip
    exact (putW_self hs fun _ => rfl).symm
  | d + 1, k, S, st, f, hk, hs, hl, h19, h20, h21, h5 => by
    have hlt : k < is.length := by omega
    have hi := ints_get hlt
    have ha := add_run st r rv b S is[k] hs hl
    have ih := new_loop r rv b full nl is hlen d (k + 1) (addS b S is[k]) (putW st rv b (addS b S is[k]))
    have ed : is.drop k = is[k] :: is.drop (k + 1) := List.drop_eq_getElem_cons hlt
    have a2 : intBin .add .i64 (k : Int) 1 = some (.int .i64 ((k + 1 : Nat) : Int)) := by rw [add64 (by omega) (by omega)]; simp
    have hs' : SetAt (putW st rv b (addS b S is[k])) r rv b (addS b S is[k]) := hs.put (addS_z hs.hz)
    rw [ed]
    generalize is[k] = i at *
    rw [go_loop_of e10_10]
    simp only [e10_11, e10_12, e10_13, e10_14, e10_15, e10_16, e10_17, e10_18, e10_19, e10_20, e10_21, e10_22, go_seq, run_region, run_cond, go_block, run_exit, run_ret, run_skip0, region_steps]
    simp only [lightOf, drawAt, entsAt, opsOf, o10_12, o10_20, o10_21, o10_22, kid, bodyOf, Tryd.f10, Option.getD_some, List.map, stepOf, Option.map, List.getElem?_toArray, List.getElem?_cons_succ, List.getElem?_cons_zero, Option.bind_some]
    simp [evSteps, evStep, wanted_none, wanted_some, asB, mk_put, mk_put_none, arg_tmp, arg_const, arg_func, arg_global, upd_same, upd_ne, evPure, evArgs, m_load, m_store, m_alloc, m_box, m_call, m_lookup, m_mapUpdate, evInvoke, tbext, evLoad, readCells, evFieldAddr, evIndexAddr, asIdx, ofValue, isPure, evBin, ib_lss, ib_leq, ib_gtr, ib_geq, ib_eql, ib_neq, evUn, leave_normal, leave_ret, finish, then_normal, then_exit, then_ret, close_normal, close_exit, close_ret, evConv, mk_marks, dropMarks, resOf, resList, mk_getD, argF, List.getD_cons_zero, List.getD_cons_succ, V.cells, evLen, -List.getD_eq_getElem?_getD, -getElem?_pos, und55, und53, und22, size3, size53, size58, size22, ty3, ty4, ty53, ty58, ty22, h19, h20, h21, h5, hi, ha, a2, hlt]
    refine (ih _ (by omega) hs' hl ?_ ?_ ?_ ?_).mono ?_
    · simp [upd_same, upd_ne, h19]
    · simp [upd_same, upd_ne, h20]
    · simp [upd_same, upd_ne]
    · simp [upd_same, upd_ne, h5]
    · rintro e f' st' ⟨h1, h2, h3⟩
      rw [putW_putW] at h2
      exact ⟨h1, h2, h3⟩
theorem new_run (st : St) (bd : Int) (b : Nat) (full : Bool) (nl : Option Bool) (is : List Int) (hlen : is.length < 2 ^ 40) (hok : okSt st) (hb : max 0 (min bd 65536) = (b : Int)) :
    (run tb).call 10 [.int .i64 bd, .list full nl (ints is)] st = some (.ptr (st.store.length + 1) 0, newSt st b (addAll b emptyS is)) := by
  have hb1 : b ≤ 65536 := by omega
  have hn : nw b ≤ 1025 := by unfold nw; omega
  have a1 : intBin .add .i64 (b : Int) 64 = some (.int .i64 ((b + 64 : Nat) : Int)) := by rw [add64 (by omega) (by omega)]; simp
  have a2 : intBin .sub .i64 ((b + 64 : Nat) : Int) 1 = some (.int .i64 ((b + 63 : Nat) : Int)) := by rw [sub64 (by omega) (by omega)]; congr 2; omega
  have a3 : intBin .quo .i64 ((b + 63 : Nat) : Int) 64 = some (.int .i64 (nw b : Nat)) := quo64 64 rfl (by omega) (by decide)
  have hs := newSt_set (st := st) (S := emptyS) hb1 (fun _ _ => rfl)
  have hw := words_empty b
  generalize hm : nw b = m at *
  generalize b + 64 = b64 at *
  generalize b + 63 = b63 at *
  have hm2 : m < 1048576 := by omega
  rw [run10 (by simp)]
  simp only [e10_0, e10_1, e10_2, e10_3, e10_4, e10_5, e10_6, e10_7, e10_8, e10_9, e10_23, e10_24, e10_25, go_seq, run_region, run_cond, go_block, run_exit, run_ret, run_skip0, region_steps]
  simp only [lightOf, drawAt, entsAt, opsOf, o10_1, o10_3, o10_5, o10_8, o10_24, kid, bodyOf, Tryd.f10, Option.getD_some, List.map, stepOf, Option.map, List.getElem?_toArray, List.getElem?_cons_succ, List.getElem?_cons_zero, Option.bind_some]
  simp [evSteps, evStep, wanted_none, wanted_some, asB, mk_put, mk_put_none, arg_tmp, arg_const, arg_func, arg_global, upd_same, upd_ne, evPure, evArgs, m_load, m_store, m_alloc, m_box, m_call, m_lookup, m_mapUpdate, evInvoke, tbext, evLoad, readCells, evFieldAddr, evIndexAddr, asIdx, ofValue, isPure, evBin, ib_lss, ib_leq, ib_gtr, ib_geq, ib_eql, ib_neq, evUn, leave_normal, leave_ret, finish, then_normal, then_exit, then_ret, close_normal, close_exit, close_ret, evConv, mk_marks, dropMarks, resOf, resList, mk_getD, argF, List.getD_cons_zero, List.getD_cons_succ, V.cells, evLen, -List.getD_eq_getElem?_getD, -getElem?_pos, und55, und53, und22, size3, size53, size58, size22, ty3, ty4, ty53, ty58, ty22, min_int, max_int, hb, a1, a2, a3, make53 (n := m), hm2, build55i, ints_len, St.new, hw, V.oneCell]
  subst hm
  refine Out.use (C := fun o => leave tb _ (andThen (closeB 0 o) _) = _) (new_loop (st.store.length + 1) st.store.length b full nl is hlen is.length 0 emptyS (newSt st b emptyS) _ (by omega) hs (newSt_free hok) ?_ ?_ ?_ ?_) ?_
  · simp [upd_same, upd_ne]
  · simp [upd_same, upd_ne]
  · simp [upd_same, upd_ne]
  · simp [upd_same, upd_ne]
  · rintro e f st' ⟨rfl, rfl, h5⟩
    rw [newSt_put]
    simp [evSteps, evStep, wanted_none, wanted_some, asB, mk_put, mk_put_none, arg_tmp, arg_const, arg_func, arg_global, upd_same, upd_ne, evPure, evArgs, m_load, m_store, m_alloc, m_box, m_call, m_lookup, m_mapUpdate, evInvoke, tbext, evLoad, readCells, evFieldAddr, evIndexAddr, asIdx, ofValue, isPure, evBin, ib_lss, ib_leq, ib_gtr, ib_geq, ib_eql, ib_neq, evUn, leave_normal, leave_ret, finish, then_normal, then_exit, then_ret, close_normal, close_exit, close_ret, evConv, mk_marks, dropMarks, resOf, resList, mk_getD, argF, List.getD_cons_zero, List.getD_cons_succ, V.cells, evLen, -List.getD_eq_getElem?_getD, -getElem?_pos, und55, und53, und22, size3, size53, size58, size22, ty3, ty4, ty53, ty58, ty22, h5]
end Go.Proofs.YtgknieohkniojaaDoor
namespace Go.Proofs.YtgknieohkniojaaDoor
open Go.Abs Go.ChangeShapes Go.WideShapes Go.RowKit
theorem Tryd.own : ownKnob Tryd.prog.godebug = none := by kernel_rfl
theorem Tryd.laidOut : laidOutB Tryd.prog = true := by kernel_rfl
/-- A world in which what is listed lies. -/
noncomputable def laidWorld (os : Os) : World :=
  let w0 := World.holding Tryd.prog os ⟨#[], #[], []⟩
  { w0 with heap := w0.heap.modify 0 fun
      | .cells _ t frozen => .cells (tabNs.map (Value.int .u8)).toArray t frozen
      | o => o }
theorem laidWorld_met (os : Os) (args : Array Value) : laidMetH Tryd.prog [("math/bits.deBruijn64tab", Rows.laid_math_bits_deBruijn64tab)] ((laidWorld os).forCall (fun _ _ => 0) ⟨#[], args, []⟩).memory :=
  laidMetH_of_parts (laidMet_of_run' 8 (by kernel_rfl) (by kernel_rfl)) (by kernel_rfl)
theorem types_ok : [3, 22, 25, 23].all (tyIn Tryd.prog [3, 22, 25, 23]) = true := by kernel_rfl
end Go.Proofs.YtgknieohkniojaaDoor
