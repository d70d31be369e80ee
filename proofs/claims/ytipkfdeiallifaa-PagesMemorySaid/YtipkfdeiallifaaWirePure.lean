/-
  Plain facts on the wire's numbers: what 'put' lays down (pb) and what 'take' reads (tk), over lists of whole numbers. No program in sight.
-/
namespace Go.Proofs.Ytipkfdeiallifaa.WirePure

/-- A number's bytes, seven bits a byte, the lowest first. -/
def pb (n : Nat) : List Int := if h : n < 128 then [(n : Int)] else ((n % 128 + 128 : Nat) : Int) :: pb (n / 128)
termination_by n
decreasing_by omega

theorem pb_small {n : Nat} (h : n < 128) : pb n = [(n : Int)] := by rw [pb, dif_pos h]
theorem pb_big {n : Nat} (h : ¬ n < 128) : pb n = ((n % 128 + 128 : Nat) : Int) :: pb (n / 128) := by rw [pb, dif_neg h]

theorem pb_pos (n : Nat) : 1 ≤ (pb n).length := by
  by_cases h : n < 128
  · rw [pb_small h]; simp
  · rw [pb_big h]; simp

theorem pb_len_le : ∀ (d n : Nat), n < 128 ^ (d + 1) → (pb n).length ≤ d + 1 := by
  intro d
  induction d with
  | zero => intro n h; rw [pb_small (by omega)]; simp
  | succ d ih =>
    intro n h
    by_cases hs : n < 128
    · rw [pb_small hs]; simp
    · rw [pb_big hs]
      have := ih (n / 128) (by rw [Nat.pow_succ] at h; omega)
      simp only [List.length_cons]
      omega

theorem pb_len10 {n : Nat} (h : n < 18446744073709551616) : (pb n).length ≤ 10 :=
  pb_len_le 9 n (by have : (128 : Nat) ^ 10 = 1180591620717411303424 := by decide
                    omega)

theorem pb_byte : ∀ (n : Nat), ∀ x ∈ pb n, 0 ≤ x ∧ x ≤ 255 := by
  intro n
  induction n using Nat.strongRecOn with
  | ind n ih =>
    intro x hx
    by_cases h : n < 128
    · rw [pb_small h] at hx
      simp at hx
      omega
    · rw [pb_big h] at hx
      rcases List.mem_cons.1 hx with hx | hx
      · omega
      · exact ih (n / 128) (by omega) x hx

theorem pb_len_mono : ∀ (n m : Nat), n ≤ m → (pb n).length ≤ (pb m).length := by
  intro n
  induction n using Nat.strongRecOn with
  | ind n ih =>
    intro m hm
    by_cases h : n < 128
    · rw [pb_small h]; have := pb_pos m; simpa using this
    · rw [pb_big h, pb_big (n := m) (by omega)]
      have := ih (n / 128) (by omega) (m / 128) (by omega)
      simp only [List.length_cons]
      omega

theorem pb_len_shift (n : Nat) (h : 0 < n) : (pb (n * 128)).length = (pb n).length + 1 := by
  rw [pb_big (n := n * 128) (by omega), Nat.mul_div_cancel n (by omega)]
  simp

/-- What 'take' answers at a list: from place i on, acc read so far. -/
def tk (i : Nat) (acc : Int) : List Int → Int × Int × Int
  | [] => (0, 0, 3)
  | c :: r =>
    if i = 9 ∧ 1 < c then (0, 0, 4)
    else if 128 ≤ c then tk (i + 1) (acc + (c % 128) * (128 ^ i : Nat)) r
    else if c = 0 ∧ 0 < i then (0, 0, 4)
    else (acc + c * (128 ^ i : Nat), (i : Int) + 1, 0)

theorem tk_nil (i : Nat) (acc : Int) : tk i acc [] = (0, 0, 3) := rfl
theorem tk_cons (i : Nat) (acc c : Int) (r : List Int) : tk i acc (c :: r) =
    if i = 9 ∧ 1 < c then (0, 0, 4)
    else if 128 ≤ c then tk (i + 1) (acc + (c % 128) * (128 ^ i : Nat)) r
    else if c = 0 ∧ 0 < i then (0, 0, 4)
    else (acc + c * (128 ^ i : Nat), (i : Int) + 1, 0) := rfl

/-- The room that is left at place i: numbers below 2^64 in all. -/
def room : Nat → Nat
  | 0 => 18446744073709551616
  | i + 1 => room i / 128

theorem room9 : room 9 = 2 := by decide
theorem room_anti {i : Nat} (h : i < 9) : room i = 128 * room (i + 1) := by
  have : i = 0 ∨ i = 1 ∨ i = 2 ∨ i = 3 ∨ i = 4 ∨ i = 5 ∨ i = 6 ∨ i = 7 ∨ i = 8 := by omega
  rcases this with rfl | rfl | rfl | rfl | rfl | rfl | rfl | rfl | rfl <;> decide
theorem room_big : ∀ i, 9 < i → room i = 0 := by
  intro i h
  obtain ⟨k, rfl⟩ : ∃ k, i = k + 10 := ⟨i - 10, by omega⟩
  clear h
  induction k with
  | zero => decide
  | succ k ih => show room (k + 10) / 128 = 0; rw [ih]

theorem room_le9 {i n : Nat} (h : n < room i) (hn : 128 ≤ n) : i < 9 := by
  rcases Nat.lt_or_ge i 9 with h' | h'
  · exact h'
  · rcases Nat.lt_or_ge 9 i with h2 | h2
    · rw [room_big i h2] at h; omega
    · have : i = 9 := by omega
      subst this
      rw [room9] at h
      omega

theorem pow_succ128 (i : Nat) (a : Int) : a * ((128 ^ (i + 1) : Nat) : Int) = (a * 128) * ((128 ^ i : Nat) : Int) := by
  rw [Nat.pow_succ, Int.natCast_mul, Int.mul_assoc, Int.mul_comm ((128 ^ i : Nat) : Int)]
  simp

/-- What put lays down is read again, whatever stands behind it. -/
theorem tk_pb : ∀ (n i : Nat) (acc : Int) (rest : List Int), n < room i → (0 < i → 0 < n) → tk i acc (pb n ++ rest) = (acc + (n : Int) * ((128 ^ i : Nat) : Int), (i : Int) + ((pb n).length : Int), 0) := by
  intro n
  induction n using Nat.strongRecOn with
  | ind n ih =>
    intro i acc rest hr h0
    by_cases h : n < 128
    · rw [pb_small h]
      simp only [List.cons_append, List.nil_append, tk_cons]
      rw [if_neg, if_neg (by omega), if_neg]
      · simp
      · rintro ⟨h1, h2⟩; have := h0 h2; omega
      · rintro ⟨rfl, h1⟩; rw [room9] at hr; omega
    · have hi := room_le9 hr (by omega)
      rw [pb_big h]
      simp only [List.cons_append, tk_cons]
      rw [if_neg (by omega), if_pos (by omega), ih (n / 128) (by omega) (i + 1) _ rest (by have := room_anti hi; omega) (fun _ => by omega)]
      rw [pow_succ128]
      simp only [List.length_cons, Prod.mk.injEq]
      refine ⟨?_, by omega, trivial⟩
      rw [Int.add_assoc, ← Int.add_mul]
      congr 2
      omega

/-- Cut short, it is too short. -/
theorem tk_short : ∀ (n i : Nat) (acc : Int) (k : Nat), n < room i → k < (pb n).length → tk i acc ((pb n).take k) = (0, 0, 3) := by
  intro n
  induction n using Nat.strongRecOn with
  | ind n ih =>
    intro i acc k hr hk
    cases k with
    | zero => rfl
    | succ k =>
      by_cases h : n < 128
      · rw [pb_small h] at hk; simp at hk
      · have hi := room_le9 hr (by omega)
        rw [pb_big h] at hk ⊢
        simp only [List.take_succ_cons, tk_cons]
        rw [if_neg (by omega), if_pos (by omega)]
        exact ih (n / 128) (by omega) (i + 1) _ k (by have := room_anti hi; omega) (by simpa using hk)

/-- What take takes is what put lays down. -/
theorem tk_form : ∀ (l : List Int) (i : Nat) (acc x a : Int), (∀ c ∈ l, 0 ≤ c ∧ c ≤ 255) → i ≤ 9 → tk i acc l = (x, a, 0) →
    ∃ (n : Nat) (rest : List Int), n < room i ∧ (0 < i → 0 < n) ∧ x = acc + (n : Int) * ((128 ^ i : Nat) : Int) ∧ l = pb n ++ rest ∧ a = (i : Int) + ((pb n).length : Int) := by
  intro l
  induction l with
  | nil => intro i acc x a _ _ h; simp [tk_nil] at h
  | cons c r ih =>
    intro i acc x a hb hi h
    have hc := hb c (by simp)
    rw [tk_cons] at h
    by_cases h1 : i = 9 ∧ 1 < c
    · rw [if_pos h1] at h; simp at h
    · rw [if_neg h1] at h
      by_cases h2 : 128 ≤ c
      · rw [if_pos h2] at h
        have hi' : i < 9 := by omega
        obtain ⟨m, rest, hm, hm0, hx, hl, ha⟩ := ih (i + 1) _ x a (fun y hy => hb y (by simp [hy])) (by omega) h
        have hm0 := hm0 (by omega)
        have hra := room_anti hi'
        obtain ⟨cn, rfl⟩ : ∃ cn : Nat, c = (cn : Int) := ⟨c.toNat, by omega⟩
        refine ⟨m * 128 + (cn - 128), rest, by omega, fun _ => by omega, ?_, ?_, ?_⟩
        · have e : ((m * 128 + (cn - 128) : Nat) : Int) = (cn : Int) % 128 + (m : Int) * 128 := by omega
          rw [hx, pow_succ128, Int.add_assoc, ← Int.add_mul, e]
        · rw [pb_big (by omega), hl]
          have e1 : (m * 128 + (cn - 128)) % 128 + 128 = cn := by omega
          have e2 : (m * 128 + (cn - 128)) / 128 = m := by omega
          rw [e1, e2]; rfl
        · rw [pb_big (by omega)]
          have e2 : (m * 128 + (cn - 128)) / 128 = m := by omega
          rw [e2, ha]
          simp only [List.length_cons]
          omega
      · rw [if_neg h2] at h
        by_cases h3 : c = 0 ∧ 0 < i
        · rw [if_pos h3] at h; simp at h
        · rw [if_neg h3] at h
          obtain ⟨cn, rfl⟩ : ∃ cn : Nat, c = (cn : Int) := ⟨c.toNat, by omega⟩
          simp only [Prod.mk.injEq, and_true] at h
          have hroom : 2 ≤ room i := by
            have : i = 0 ∨ i = 1 ∨ i = 2 ∨ i = 3 ∨ i = 4 ∨ i = 5 ∨ i = 6 ∨ i = 7 ∨ i = 8 ∨ i = 9 := by omega
            rcases this with rfl | rfl | rfl | rfl | rfl | rfl | rfl | rfl | rfl | rfl <;> decide
          have hroom' : i < 9 → 128 ≤ room i := by
            intro h9
            have : i = 0 ∨ i = 1 ∨ i = 2 ∨ i = 3 ∨ i = 4 ∨ i = 5 ∨ i = 6 ∨ i = 7 ∨ i = 8 := by omega
            rcases this with rfl | rfl | rfl | rfl | rfl | rfl | rfl | rfl | rfl <;> decide
          refine ⟨cn, r, ?_, ?_, h.1.symm, ?_, ?_⟩
          · by_cases h9 : i = 9
            · omega
            · have := hroom' (by omega); omega
          · intro hi0; omega
          · rw [pb_small (by omega)]; rfl
          · rw [pb_small (by omega)]; simp only [List.length_cons, List.length_nil]; omega

/-- Beside an error all else is nothing. -/
theorem tk_err : ∀ (l : List Int) (i : Nat) (acc x a e : Int), tk i acc l = (x, a, e) → e ≠ 0 → x = 0 ∧ a = 0 := by
  intro l
  induction l with
  | nil => intro i acc x a e h _; simp [tk_nil] at h; omega
  | cons c r ih =>
    intro i acc x a e h he
    rw [tk_cons] at h
    split at h
    · simp at h; omega
    · split at h
      · exact ih _ _ _ _ _ h he
      · split at h <;> · simp at h; omega

theorem tk_at : ∀ (l : List Int) (i : Nat) (acc x a e : Int), tk i acc l = (x, a, e) → 0 ≤ a ∧ (a = 0 ∨ a ≤ (i : Int) + (l.length : Int)) ∧ (e = 0 ∨ e = 3 ∨ e = 4) := by
  intro l
  induction l with
  | nil => intro i acc x a e h; simp [tk_nil] at h; omega
  | cons c r ih =>
    intro i acc x a e h
    rw [tk_cons] at h
    split at h
    · simp at h; omega
    · split at h
      · have := ih _ _ _ _ _ h; simp only [List.length_cons]; omega
      · split at h <;> · simp at h; simp only [List.length_cons]; omega

/-- What is read is a number below 2^64. -/
theorem tk_range {l : List Int} {x a : Int} (hb : ∀ c ∈ l, 0 ≤ c ∧ c ≤ 255) (h : tk 0 0 l = (x, a, 0)) : 0 ≤ x ∧ x < 18446744073709551616 ∧ 1 ≤ a ∧ a ≤ 10 ∧ a ≤ (l.length : Int) ∧ l.take a.toNat = pb x.toNat := by
  obtain ⟨n, rest, hn, _, hx, hl, ha⟩ := tk_form l 0 0 x a hb (by omega) h
  have hn' : n < 18446744073709551616 := hn
  have h10 := pb_len10 hn'
  have h1 := pb_pos n
  simp at hx ha
  subst hx ha hl
  refine ⟨by omega, by omega, by omega, by omega, by simp; omega, ?_⟩
  simp

theorem pb_300 : pb 300 = [172, 2] := by rw [pb_big (by omega), pb_small (by omega)]; rfl
theorem pb_5 : pb 5 = [5] := by rw [pb_small (by omega)]; rfl
theorem pb_2 : pb 2 = [2] := by rw [pb_small (by omega)]; rfl
/-- A list of numbers: how many, then each. -/
def nmB (list : List Int) : List Int := list.flatMap fun x => pb x.toNat
def nm (list : List Int) : List Int := pb list.length ++ nmB list
theorem nmB_take_succ (list : List Int) (i : Nat) (hi : i < list.length) : nmB (list.take (i + 1)) = nmB (list.take i) ++ pb (list.getD i 0).toNat := by
  unfold nmB
  rw [List.take_succ_eq_append_getElem hi, List.flatMap_append]
  simp [List.getD_eq_getElem?_getD, hi]
theorem nmB_len {list : List Int} (h : ∀ x ∈ list, x < 18446744073709551616) : (nmB list).length ≤ 10 * list.length := by
  induction list with
  | nil => simp [nmB]
  | cons x l ih =>
    have h1 := ih (fun y hy => h y (by simp [hy]))
    have hx := h x (by simp)
    have h2 : (pb x.toNat).length ≤ 10 := pb_len10 (by omega)
    have e : nmB (x :: l) = pb x.toNat ++ nmB l := by simp [nmB]
    rw [e, List.length_append, List.length_cons]
    omega
theorem pb_bytes (n : Nat) : ∀ x ∈ pb n, 0 ≤ x ∧ x ≤ 255 := pb_byte n
theorem nm_bytes (list : List Int) : ∀ x ∈ nm list, 0 ≤ x ∧ x ≤ 255 := by
  intro x hx
  rcases List.mem_append.1 hx with h | h
  · exact pb_byte _ x h
  · simp only [nmB, List.mem_flatMap] at h
    obtain ⟨y, _, h⟩ := h
    exact pb_byte _ x h
/-- The numbers up to the first that is below 0. -/
def anyNeg (list : List Int) : Prop := ∃ x ∈ list, x < 0
/-- A word's bytes, and a word out of bytes: the lowest first. -/
def wd : Nat → Nat → List Int
  | 0, _ => []
  | k + 1, x => ((x % 256 : Nat) : Int) :: wd k (x / 256)
theorem wd_len : ∀ (k x : Nat), (wd k x).length = k
  | 0, _ => rfl
  | k + 1, x => by simp [wd, wd_len k]
theorem wd_bytes : ∀ (k x : Nat), ∀ c ∈ wd k x, 0 ≤ c ∧ c ≤ 255
  | 0, _, c, hc => by simp [wd] at hc
  | k + 1, x, c, hc => by
    simp only [wd, List.mem_cons] at hc
    rcases hc with rfl | hc
    · omega
    · exact wd_bytes k _ c hc
theorem wd_snoc : ∀ (k x : Nat), wd (k + 1) x = wd k x ++ [((x / 256 ^ k % 256 : Nat) : Int)]
  | 0, x => by simp [wd]
  | k + 1, x => by
    have ih := wd_snoc k (x / 256)
    show ((x % 256 : Nat) : Int) :: wd (k + 1) (x / 256) = _
    rw [ih, Nat.div_div_eq_div_mul]
    have : 256 * 256 ^ k = 256 ^ (k + 1) := by rw [Nat.pow_succ, Nat.mul_comm]
    rw [this]
    simp [wd]
theorem wd_get (k x i : Nat) (h : i < k) : (wd k x).getD i 0 = ((x / 256 ^ i % 256 : Nat) : Int) := by
  induction k generalizing x i with
  | zero => omega
  | succ k ih =>
    cases i with
    | zero => simp [wd]
    | succ i =>
      have := ih (x / 256) i (by omega)
      simp only [wd, List.getD_cons_succ]
      rw [this, Nat.div_div_eq_div_mul, Nat.pow_succ, Nat.mul_comm 256]
/-- The number of the first k bytes. -/
def tw : List Int → Nat
  | [] => 0
  | c :: l => c.toNat + 256 * tw l
theorem tw_wd : ∀ (k x : Nat), x < 256 ^ k → tw (wd k x) = x
  | 0, x, h => by simp at h; subst h; rfl
  | k + 1, x, h => by
    have ih := tw_wd k (x / 256) (by rw [Nat.pow_succ] at h; omega)
    simp only [wd, tw, ih]
    omega
theorem tw_snoc : ∀ (l : List Int) (c : Int), tw (l ++ [c]) = tw l + c.toNat * 256 ^ l.length
  | [], c => by simp [tw]
  | d :: l, c => by
    have ih := tw_snoc l c
    simp only [List.cons_append, tw, ih, List.length_cons, Nat.pow_succ, Nat.mul_add]
    have : 256 * (c.toNat * 256 ^ l.length) = c.toNat * (256 ^ l.length * 256) := by
      rw [Nat.mul_comm 256, Nat.mul_assoc]
    omega
theorem tw_lt : ∀ (l : List Int), (∀ c ∈ l, 0 ≤ c ∧ c ≤ 255) → tw l < 256 ^ l.length
  | [], _ => by simp [tw]
  | c :: l, h => by
    have ih := tw_lt l (fun d hd => h d (by simp [hd]))
    have hc := h c (by simp)
    simp only [tw, List.length_cons, Nat.pow_succ]
    omega
/-- What TakeRun answers. -/
def trun (l : List Int) : List Int × Int × Int :=
  if (tk 0 0 l).2.2 ≠ 0 then ([], 0, (tk 0 0 l).2.2)
  else if (tk 0 0 l).1 > (l.length : Int) - (tk 0 0 l).2.1 then ([], 0, 3)
  else ((l.drop (tk 0 0 l).2.1.toNat).take (tk 0 0 l).1.toNat, (tk 0 0 l).2.1 + (tk 0 0 l).1, 0)
/-- The numbers that are taken one behind the other. -/
def tnl (l : List Int) : Nat → Nat → List Int → List Int × Int × Int
  | 0, at_, acc => (acc, (at_ : Int), 0)
  | k + 1, at_, acc =>
    if (tk 0 0 (l.drop at_)).2.2 ≠ 0 then ([], 0, (tk 0 0 (l.drop at_)).2.2)
    else if (tk 0 0 (l.drop at_)).1 > 4611686018427387904 then ([], 0, 4)
    else tnl l k (at_ + (tk 0 0 (l.drop at_)).2.1.toNat) (acc ++ [(tk 0 0 (l.drop at_)).1])
def tnum (l : List Int) (most : Int) : List Int × Int × Int :=
  if (tk 0 0 l).2.2 ≠ 0 then ([], 0, (tk 0 0 l).2.2)
  else if most < 0 ∨ (tk 0 0 l).1 > most then ([], 0, 6)
  else tnl l (tk 0 0 l).1.toNat (tk 0 0 l).2.1.toNat []
theorem tnl_succ (l : List Int) (k at_ : Nat) (acc : List Int) : tnl l (k + 1) at_ acc =
    if (tk 0 0 (l.drop at_)).2.2 ≠ 0 then ([], 0, (tk 0 0 (l.drop at_)).2.2)
    else if (tk 0 0 (l.drop at_)).1 > 4611686018427387904 then ([], 0, 4)
    else tnl l k (at_ + (tk 0 0 (l.drop at_)).2.1.toNat) (acc ++ [(tk 0 0 (l.drop at_)).1]) := rfl
end Go.Proofs.Ytipkfdeiallifaa.WirePure
