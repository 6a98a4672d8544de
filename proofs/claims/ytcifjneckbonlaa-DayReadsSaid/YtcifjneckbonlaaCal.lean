/- The calendar as plain mathematics: no program in sight. -/
namespace Go.Proofs.Ytcifjneckbonlaa.Cal

def lp (y : Int) : Int := if y % 4 = 0 ∧ (y % 100 ≠ 0 ∨ y % 400 = 0) then 1 else 0
def leapB (y : Int) : Bool := decide (lp y = 1)
def ylen (y : Int) : Int := 365 + lp y
def dby (y : Int) : Int := 365 * (y - 2000) + (y + 3) / 4 - (y + 99) / 100 + (y + 399) / 400 - 485
def mlen (y m : Int) : Int :=
  if m = 1 then 28 + lp y else if m = 3 ∨ m = 5 ∨ m = 8 ∨ m = 10 then 30 else 31
def cum (y m : Int) : Int :=
  if m = 0 then 0 else if m = 1 then 31 else if m = 2 then 59 + lp y else if m = 3 then 90 + lp y
  else if m = 4 then 120 + lp y else if m = 5 then 151 + lp y else if m = 6 then 181 + lp y else if m = 7 then 212 + lp y
  else if m = 8 then 243 + lp y else if m = 9 then 273 + lp y else if m = 10 then 304 + lp y else if m = 11 then 334 + lp y
  else 365 + lp y

theorem lp_01 (y : Int) : 0 ≤ lp y ∧ lp y ≤ 1 := by unfold lp; split <;> omega
theorem lp_400 (y q : Int) : lp (y + 400 * q) = lp y := by
  unfold lp
  have h1 : (y + 400 * q) % 4 = y % 4 := by omega
  have h2 : (y + 400 * q) % 100 = y % 100 := by omega
  have h3 : (y + 400 * q) % 400 = y % 400 := by omega
  rw [h1, h2, h3]
theorem dby_succ (y : Int) : dby (y + 1) = dby y + ylen y := by
  unfold dby ylen lp; split <;> omega
theorem dby_400 (y q : Int) : dby (y + 400 * q) = dby y + 146097 * q := by unfold dby; omega
theorem dby_mono (a b : Int) (h : a ≤ b) : dby a ≤ dby b := by unfold dby; omega
theorem dby_2000 : dby 2000 = 0 := by decide
theorem dby_2400 : dby 2400 = 146097 := by decide
theorem m_cases (m : Int) (h0 : 0 ≤ m) (h1 : m ≤ 11) : m = 0 ∨ m = 1 ∨ m = 2 ∨ m = 3 ∨ m = 4 ∨ m = 5 ∨ m = 6 ∨ m = 7 ∨ m = 8 ∨ m = 9 ∨ m = 10 ∨ m = 11 := by omega
theorem cum_succ (y m : Int) (h0 : 0 ≤ m) (h1 : m ≤ 11) : cum y (m + 1) = cum y m + mlen y m := by
  rcases m_cases m h0 h1 with rfl | rfl | rfl | rfl | rfl | rfl | rfl | rfl | rfl | rfl | rfl | rfl <;> simp [cum, mlen] <;> omega
theorem cum_0 (y : Int) : cum y 0 = 0 := by simp [cum]
theorem cum_12 (y : Int) : cum y 12 = ylen y := by simp [cum, ylen]
theorem mlen_bd (y m : Int) : 28 ≤ mlen y m ∧ mlen y m ≤ 31 := by
  have := lp_01 y; unfold mlen; repeat' split <;> omega
theorem cum_mono (y a b : Int) (h0 : 0 ≤ a) (h : a ≤ b) (hb : b ≤ 12) : cum y a ≤ cum y b := by
  obtain ⟨n, hn⟩ : ∃ n : Nat, b = a + n := ⟨(b - a).toNat, by omega⟩
  subst hn
  clear h
  induction n with
  | zero => simp
  | succ n ih =>
    have i := ih (by omega)
    have s := cum_succ y (a + n) (by omega) (by omega)
    have l := mlen_bd y (a + n)
    rw [show a + ((n + 1 : Nat) : Int) = a + n + 1 from by omega, s]; omega
theorem cum_bd (y m : Int) (h0 : 0 ≤ m) (h1 : m ≤ 12) : 0 ≤ cum y m ∧ cum y m ≤ ylen y := by
  have a := cum_mono y 0 m (by omega) h0 h1
  have b := cum_mono y m 12 h0 h1 (by omega)
  rw [cum_0] at a; rw [cum_12] at b; exact ⟨a, b⟩
theorem mlen_400 (y q m : Int) : mlen (y + 400 * q) m = mlen y m := by unfold mlen; rw [lp_400]
theorem cum_400 (y q m : Int) : cum (y + 400 * q) m = cum y m := by unfold cum; rw [lp_400]

/-- the day d is the day i (from 0 on) of the month m (from 0 on) of the year y -/
structure IsDate (d y m i : Int) : Prop where
  m0 : 0 ≤ m
  m1 : m ≤ 11
  i0 : 0 ≤ i
  i1 : i < mlen y m
  eq : d = dby y + cum y m + i

theorem IsDate.year {d y m i : Int} (h : IsDate d y m i) : dby y ≤ d ∧ d < dby (y + 1) := by
  have a := cum_bd y m h.m0 (by have := h.m1; omega)
  have b := cum_succ y m h.m0 h.m1
  have c := cum_bd y (m + 1) (by have := h.m0; omega) (by have := h.m1; omega)
  have e := h.eq; have i0 := h.i0; have i1 := h.i1
  rw [dby_succ]; omega
theorem IsDate.shift {d y m i : Int} (h : IsDate d y m i) (q : Int) : IsDate (d + 146097 * q) (y + 400 * q) m i :=
  ⟨h.m0, h.m1, h.i0, by rw [mlen_400]; exact h.i1, by rw [dby_400, cum_400, h.eq]; omega⟩
theorem year_le {d d' y m i y' m' i' : Int} (h : IsDate d y m i) (h' : IsDate d' y' m' i') (hd : d ≤ d') : y ≤ y' := by
  have a := h.year; have b := h'.year
  rcases Int.lt_or_le y' y with c | c
  · have := dby_mono (y' + 1) y (by omega); omega
  · exact c
theorem month_le {d d' y m i m' i' : Int} (h : IsDate d y m i) (h' : IsDate d' y m' i') (hd : d ≤ d') : m ≤ m' := by
  rcases Int.lt_or_le m' m with c | c
  · have a := cum_mono y (m' + 1) m (by have := h'.m0; omega) (by omega) (by have := h.m1; omega)
    have b := cum_succ y m' h'.m0 h'.m1
    have e := h.eq; have e' := h'.eq; have i0 := h.i0; have i1 := h'.i1; omega
  · exact c
theorem date_unique {d y m i y' m' i' : Int} (h : IsDate d y m i) (h' : IsDate d y' m' i') : y = y' ∧ m = m' ∧ i = i' := by
  have a := year_le h h' (Int.le_refl _); have b := year_le h' h (Int.le_refl _)
  obtain rfl : y = y' := by omega
  have a := month_le h h' (Int.le_refl _); have b := month_le h' h (Int.le_refl _)
  obtain rfl : m = m' := by omega
  have e := h.eq; have e' := h'.eq
  exact ⟨rfl, rfl, by omega⟩
/-- a rising row of numbers holds any number in one of its gaps -/
theorem gap (f : Int → Int) (r : Int) (h0 : f 0 ≤ r) : ∀ n : Nat, r < f n → ∃ k : Int, 0 ≤ k ∧ k < n ∧ f k ≤ r ∧ r < f (k + 1) := by
  intro n
  induction n with
  | zero => intro h; exact absurd h (by simp; omega)
  | succ n ih =>
    intro h
    rcases Int.lt_or_le r (f n) with c | c
    · obtain ⟨k, a, b, e⟩ := ih c
      exact ⟨k, a, by omega, e⟩
    · exact ⟨n, by omega, by omega, c, by have : ((n : Int) + 1) = ((n + 1 : Nat) : Int) := by omega
                                          rw [this]; exact h⟩
theorem date_exists (d : Int) : ∃ y m i, IsDate d y m i := by
  have hr0 : 0 ≤ d % 146097 := Int.emod_nonneg _ (by omega)
  have hr1 : d % 146097 < 146097 := Int.emod_lt_of_pos _ (by omega)
  obtain ⟨k, hk0, hk1, hk2, hk3⟩ := gap (fun k => dby (2000 + k)) (d % 146097) (by show dby (2000 + 0) ≤ _; rw [show (2000 : Int) + 0 = 2000 from rfl, dby_2000]; exact hr0) 400 (by show _ < dby (2000 + (400 : Nat)); rw [show (2000 : Int) + (400 : Nat) = 2400 from rfl, dby_2400]; exact hr1)
  obtain ⟨m, hm0, hm1, hm2, hm3⟩ := gap (fun m => cum (2000 + k) m) (d % 146097 - dby (2000 + k)) (by show cum _ 0 ≤ _; rw [cum_0]; have : dby (2000 + k) ≤ d % 146097 := hk2; omega) 12 (by
    show _ < cum _ 12
    rw [cum_12]; have := dby_succ (2000 + k); have e : 2000 + k + 1 = 2000 + (k + 1) := by omega
    rw [e] at this; have h3 : d % 146097 < dby (2000 + (k + 1)) := hk3; omega)
  have hm1' : m ≤ 11 := by omega
  have hs := cum_succ (2000 + k) m hm0 hm1'
  have h : IsDate (d % 146097) (2000 + k) m (d % 146097 - dby (2000 + k) - cum (2000 + k) m) :=
    ⟨hm0, hm1', by have : cum (2000 + k) m ≤ d % 146097 - dby (2000 + k) := hm2; omega, by have : d % 146097 - dby (2000 + k) < cum (2000 + k) (m + 1) := hm3; omega, by omega⟩
  have hd : d = d % 146097 + 146097 * (d / 146097) := by omega
  rw [hd]
  exact ⟨_, _, _, h.shift (d / 146097)⟩
end Go.Proofs.Ytcifjneckbonlaa.Cal
