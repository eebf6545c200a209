/- Billing periods over slots, in plain numbers: a moment's date does not go back; a period's number goes up by at most one from a day to the next. -/
import Derived.Test.YtddkckpfmleffaaFpA
import Derived.Test.YtddkckpfmleffaaFzA
namespace Go.Proofs.Ytddkckpfmleffaa.PX
open Go.RowKit Go.Proofs.YtddkckpfmleffaaW.PrintWords Go.Proofs.YtddkckpfmleffaaW.PrintLast Go.Proofs.YtddkckpfmleffaaW.PrintMore
set_option linter.unusedVariables false
set_option linter.unusedSimpArgs false
theorem mono_day {z : Civ.Zn} (c : Civ.zok z) {t t' : Int} (sn : Civ.seen z t) (sn' : Civ.seen z t') (h : t ≤ t') : (t + 60 * Civ.off z t) / 86400 ≤ (t' + 60 * Civ.off z t') / 86400 := by
  obtain ⟨s1, s2, s3⟩ := zok_s c
  obtain ⟨_, _, o1⟩ := Civ.off_bd c t
  obtain ⟨_, _, o2⟩ := Civ.off_bd c t'
  by_cases d : Civ.dl z (t + 60 * z.o)
  · have e : Civ.off z t = z.o + z.s := by unfold Civ.off; rw [if_pos d]
    by_cases d' : Civ.dl z (t' + 60 * z.o)
    · have e' : Civ.off z t' = z.o + z.s := by unfold Civ.off; rw [if_pos d']
      rw [e, e']; omega
    · have e' : Civ.off z t' = z.o := by unfold Civ.off; rw [if_neg d']
      rw [e, e']
      by_cases q : (t + 60 * (z.o + z.s)) / 86400 ≤ (t' + 60 * z.o) / 86400
      · exact q
      · exfalso
        have i := sn'.1
        refine d' (Civ.dl_on c (n := (t + 60 * (z.o + z.s)) / 86400) (L := t + 60 * z.o) ?_ (by omega) (by omega) (by omega) d)
        rw [show (t + 60 * (z.o + z.s)) / 86400 - 1 = (t' + 60 * z.o) / 86400 by omega]
        exact i
  · have e : Civ.off z t = z.o := by unfold Civ.off; rw [if_neg d]
    rw [e]; omega
theorem step_day {z : Civ.Zn} (c : Civ.zok z) {t t' : Int} (h : t' ≤ t + 3600) : (t' + 60 * Civ.off z t') / 86400 ≤ (t + 60 * Civ.off z t) / 86400 + 1 := by
  obtain ⟨s1, s2, s3⟩ := zok_s c
  obtain ⟨_, _, o1⟩ := Civ.off_bd c t
  obtain ⟨_, _, o2⟩ := Civ.off_bd c t'
  omega
/-- the date behind a date -/
theorem next_date {y m d y' m' d' : Int} (h : Civ.ok y m d) (h' : Civ.ok y' m' d') (e : Civ.dn y' m' d' = Civ.dn y m d + 1) :
    (y' = y ∧ m' = m ∧ d' = d + 1) ∨ (d = Civ.len y m ∧ d' = 1 ∧ ((m < 12 ∧ y' = y ∧ m' = m + 1) ∨ (m = 12 ∧ y' = y + 1 ∧ m' = 1))) := by
  obtain ⟨h1, h2, h3, h4, h5, h6⟩ := id h
  by_cases c : d < Civ.len y m
  · have o : Civ.ok y m (d + 1) := ⟨h1, h2, h3, h4, by omega, by omega⟩
    obtain ⟨a, b, c⟩ := Civ.dn_inj h' o (by rw [e]; unfold Civ.dn; omega)
    exact .inl ⟨a, b, c⟩
  · have dl : d = Civ.len y m := by omega
    have cs := Civ.cum_succ y m h3 h4
    by_cases c2 : m < 12
    · have l := Civ.len_bd y (m + 1)
      have o : Civ.ok y (m + 1) 1 := ⟨h1, h2, by omega, by omega, by omega, by omega⟩
      obtain ⟨a, b, c⟩ := Civ.dn_inj h' o (by rw [e]; unfold Civ.dn; omega)
      exact .inr ⟨dl, c, .inl ⟨c2, a, b⟩⟩
    · have m12 : m = 12 := by omega
      subst m12
      have c13 := Civ.cum_13 y
      have hs := Civ.ahead_succ y
      have rg := Civ.dn_range h'
      have l := Civ.len_bd (y + 1) 1
      have c1 : Civ.cum (y + 1) 1 = 0 := by simp [Civ.cum]
      have y9 : y + 1 ≤ 9999 := by
        by_cases q : y = 9999
        · subst q
          have a9 : Civ.ahead 9999 = 3651694 := by decide
          have l9 : Civ.lp 9999 = 0 := by decide
          rw [e] at rg
          unfold Civ.dn at rg
          rw [show (12 : Int) + 1 = 13 from rfl] at cs
          omega
        · omega
      have o : Civ.ok (y + 1) 1 1 := ⟨by omega, y9, by omega, by omega, by omega, by omega⟩
      rw [show (12 : Int) + 1 = 13 from rfl] at cs
      obtain ⟨a, b, c⟩ := Civ.dn_inj h' o (by rw [e]; unfold Civ.dn; omega)
      exact .inr ⟨dl, c, .inr ⟨rfl, a, b⟩⟩
/-- the number of a day's period -/
def pn (day n : Int) : Int := perNo (Civ.ofY n) (Civ.ofM n) (Civ.ofD n) day
theorem pn_step {day n : Int} (hd : 1 ≤ day ∧ day ≤ 28) (h : Civ.inr n) (h' : Civ.inr (n + 1)) : pn day (n + 1) = pn day n ∨ pn day (n + 1) = pn day n + 1 := by
  obtain ⟨k1, k2⟩ := Civ.of_ok h.1 h.2
  obtain ⟨g1, g2⟩ := Civ.of_ok h'.1 h'.2
  have nd := next_date k1 g1 (by rw [k2, g2])
  have l := Civ.len_bd (Civ.ofY n) (Civ.ofM n)
  unfold pn perNo
  obtain ⟨a, b, c⟩ | ⟨a, b, ⟨p, q, r⟩ | ⟨p, q, r⟩⟩ := nd
  · rw [a, b, c]; split <;> split <;> omega
  · rw [b, q, r]; split <;> split <;> omega
  · rw [b, q, r, p]; split <;> split <;> omega
theorem pn_mono {day : Int} (hd : 1 ≤ day ∧ day ≤ 28) (j : Nat) : ∀ n, Civ.inr n → Civ.inr (n + j) → pn day n ≤ pn day (n + j) := by
  induction j with
  | zero => intro n _ _; simp
  | succ j ih =>
    intro n h1 h2
    have h3 : Civ.inr (n + j) := by unfold Civ.inr at *; omega
    have s := pn_step hd h3 (by rw [show n + (j : Int) + 1 = n + ((j + 1 : Nat) : Int) by omega]; exact h2)
    rw [show n + (j : Int) + 1 = n + ((j + 1 : Nat) : Int) by omega] at s
    have := ih n h1 h3
    omega
end Go.Proofs.Ytddkckpfmleffaa.PX
