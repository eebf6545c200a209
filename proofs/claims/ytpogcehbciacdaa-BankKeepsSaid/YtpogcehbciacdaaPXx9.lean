/- Functions of the program as plain Lean functions, each with a proof that the call in the machine answers just what the plain function says; condition: the plain function answers at all. -/
import Derived.Test.YtpogcehbciacdaaPXx0
import Derived.Test.YtpogcehbciacdaaPXx2
import Derived.Test.YtpogcehbciacdaaPXx3
import Derived.Test.YtpogcehbciacdaaPXx4
import Derived.Test.YtpogcehbciacdaaPXx5
import Derived.Test.YtpogcehbciacdaaPXx6
namespace Go.Proofs.Ytpogcehbciacdaa.PX
open Go.RowKit Go.Proofs.YtpogcehbciacdaaW.PrintWords Go.Proofs.YtpogcehbciacdaaW.PrintLast Go.Proofs.YtpogcehbciacdaaW.PrintMore
attribute [local go_sem] max2_int min2_int max_two min_two max_three min_three max_four min_four   -- for this text's walks alone
set_option linter.unusedVariables false
set_option linter.unusedSimpArgs false

/-! ### pylonlaw19_BankKeeps: function 5 -/
/-- all calls answer, the program's as the document's -/
def pylonlaw19_BankKeeps.Good (k : Nat) (l0 : List S32) (a1 a2 : Int) : Prop :=
  pylonlaw19_awake.f k = some true ∧ l0.length ≤ 8796093021952 ∧ pylonlaw19_copyLots.f l0 = some l0 ∧ pylonref19_SameLots.f k l0 l0 = some true ∧
  ∃ (LA : List S32) (x1 x2 : Int) (LB : List S32) (y2 : Int) (LC : List S32) (z1 z2 : Int), bank_Age.f k l0 a2 = some (LA, x1, x2) ∧ pylonref19_Age.f k l0 a2 = some (LA, x1, x2) ∧ bank_Put.f k l0 a1 = some (LB, y2) ∧ pylonref19_Put.f k l0 a1 = some (LB, y2) ∧
    bank_Take.f k l0 a1 = some (LC, z1, z2) ∧ pylonref19_Take.f k l0 a1 = some (LC, z1, z2) ∧ LA.length ≤ 8796093021953 ∧ LB.length ≤ 8796093021953 ∧ pylonref19_SameLots.f k LA LA = some true ∧ pylonref19_SameLots.f k LB LB = some true ∧ pylonref19_SameLots.f k LC LC = some true
open Classical in
noncomputable def pylonlaw19_BankKeeps.f (k : Nat) (l0 : List S32) (a1 a2 : Int) : Option Bool := if pylonlaw19_BankKeeps.Good k l0 a1 a2 then some true else none
theorem bk_K {w w' : World} {x : S32} {cs : List Value} (h : k32.K w x cs) : k32.K w' x cs := by rw [k32_open h]; exact k32_mk w' x
theorem bk_C {w w' : World} {A : Option Addr} {n : Nat} {xs : List S32} (h : Kd.C k32 w A n xs) (hc : ∀ (p ad : Addr) (u : Value), A = some ad → p.block = ad.block → w.cell? p = some u → w'.cell? p = some u) : Kd.C k32 w' A n xs :=
  ⟨h.1, h.2.1, fun hn => by
    obtain ⟨ad, e, hh⟩ := h.2.2 hn
    exact ⟨ad, e, fun j p hp => by
      obtain ⟨c, hl, hK, hcells⟩ := hh j p hp
      exact ⟨c, hl, bk_K hK, fun i u hi => hc _ ad u e (by unfold Addr.add; split <;> rfl) (hcells i u hi)⟩⟩⟩
theorem bk_heap {w w' : World} {A : Option Addr} {n : Nat} {xs : List S32} (h : Kd.C k32 w A n xs) (hw : w'.heap = w.heap) : Kd.C k32 w' A n xs :=
  bk_C h fun p _ u _ _ hu => (World.cell?_of_block (by rw [hw])).trans hu
theorem bk_grown {w w' : World} {o : Option Nat} {A : Option Addr} {n : Nat} {xs : List S32} (h : Kd.C k32 w A n xs) (hg : w.grownBy w' o) (hA : ∀ ad, A = some ad → some ad.block ≠ o) : Kd.C k32 w' A n xs :=
  bk_C h fun p ad u e hp hu => hg.cell hu (by rw [hp]; exact hA ad e)
theorem bk_V {w : World} {A : Option Addr} {c : Nat} {xs : List S32} (h : Kd.C k32 w A xs.length xs) (hc : xs.length ≤ c) : Kd.V k32 32 w w.heap.size (fun _ => True) (.slice A xs.length c) xs :=
  Kd.V_mk hc fun w' hw => bk_C h fun p _ u _ _ hu => (World.cell?_of_block (hw _ trivial (World.block_lt_of_cell? _ _ hu))).trans hu
theorem bk_pre {w : World} {A : Option Addr} {n : Nat} {xs : List S32} {x : S32} (h : Kd.C k32 w A n (xs ++ [x])) : Kd.C k32 w A xs.length xs := by
  have h1 : xs.length + 1 = n := by have := h.1; simpa using this
  refine ⟨rfl, by have := h.2.1; omega, fun hn => ?_⟩
  obtain ⟨ad, e, hh⟩ := h.2.2 (by omega)
  exact ⟨ad, e, fun j p hp => hh j p (by
    have hj : j < xs.length := by
      rcases Nat.lt_or_ge j xs.length with c | c
      · exact c
      · rw [List.getElem?_eq_none c] at hp; cases hp
    rw [List.getElem?_append_left hj]; exact hp)⟩
theorem bk_trans {a b c : World} {r : Option Nat} (h : a.grownBy b r) (k : b.grownBy c r) : a.grownBy c r :=
  ⟨k.os.trans h.os, k.tape.trans h.tape, k.output.trans h.output, Nat.le_trans h.size k.size, fun i hi hne => (k.block i (Nat.lt_of_lt_of_le hi h.size) hne).trans (h.block i hi hne)⟩
theorem bk_of_below {w w' : World} {r : Option Nat} (h : Below w.heap.size w w') : w.grownBy w' r := ⟨h.os, h.tape, h.output, h.size, fun k hk _ => h.block k hk⟩
/-- a row and its change: it is w9's row o, or a newer one -/
theorem bk_app {w9 wr w1 : World} {o v v' : Option Nat} (h : w9.grownBy wr o) (hv : v = o ∨ ∃ b, v = some b ∧ w9.heap.size ≤ b) (g : wr.grownBy w1 v) (hv' : v' = v ∨ ∃ b, v' = some b ∧ wr.heap.size ≤ b) : w9.grownBy w1 o ∧ (v' = o ∨ ∃ b, v' = some b ∧ w9.heap.size ≤ b) := by
  have hs := h.size
  refine ⟨?_, ?_⟩
  · refine ⟨g.os.trans h.os, g.tape.trans h.tape, g.output.trans h.output, Nat.le_trans hs g.size, fun i hi hne => ?_⟩
    refine (g.block i (by omega) fun e => ?_).trans (h.block i hi hne)
    rcases hv with e2 | ⟨b, e2, hb⟩
    · exact hne (e.trans e2)
    · rw [e2] at e; cases e; omega
  · rcases hv' with e | ⟨b, e, hb⟩
    · rcases hv with e2 | ⟨b, e2, hb⟩
      · exact .inl (e.trans e2)
      · exact .inr ⟨b, e.trans e2, hb⟩
    · exact .inr ⟨b, e, by omega⟩
/-- what a call hands back: a row of its own, between the heap's two sizes -/
theorem bk_row {w w' : World} {ok : Nat → Prop} {v : Value} {xs : List S32} (h : Kd.R k32 32 w' w.heap.size ok v xs) : ∃ A c inner, v = .slice A xs.length c ∧ xs.length ≤ c ∧ Kd.C k32 w' A xs.length xs ∧ (∀ ad, A = some ad → w.heap.size ≤ ad.block ∧ ad.block < w'.heap.size) ∧ w'.ownsRow w.heap.size 32 2 (.slice A xs.length c) xs.length inner := by
  obtain ⟨A, c, rfl, hc, hC⟩ := Kd.R_reads h
  obtain ⟨inner, ho⟩ := Kd.R_own h
  exact ⟨A, c, inner, rfl, hc, hC, fun ad e => by subst e; exact ho.lt ad.block rfl, ho⟩
/-- the first cell of an element of a row of one's own -/
theorem bk_cell {w : World} {base n c : Nat} {A : Option Addr} {inner : List Value} (h : w.ownsRow base 32 2 (.slice A n c) n inner) {i : Nat} (hi : i < n) :
    ∃ g u, A = some ⟨g, 0, none⟩ ∧ base ≤ g ∧ n ≤ c ∧ w.cell? ⟨g, i * 2, none⟩ = some u ∧ w.frozen? ⟨g, i * 2, none⟩ = false := by
  rcases h.2 with ⟨e, h0⟩ | ⟨g, cap, cur, e, hb, hg, hnc, hcm, hcs, ht⟩
  · omega
  · injection e with e1 e2 e3
    subst e3
    have : i * 2 < cur.size := by rw [hcs]; omega
    exact ⟨g, cur[i * 2], e1, hb, hnc, by simp [World.cell?, hg, this], by simp [World.frozen?, hg]⟩
theorem bk_bt {w a b : World} (h : Below w.heap.size w a) (k : Below a.heap.size a b) : Below w.heap.size w b := h.trans (k.mono h.size)
theorem bk_same {k : Nat} {w9 : World} {A A' : Option Addr} {c c' : Nat} {xs : List S32} (h1 : Kd.C k32 w9 A xs.length xs) (hc : xs.length ≤ c) (h2 : Kd.C k32 w9 A' xs.length xs) (hc' : xs.length ≤ c') (hS : pylonref19_SameLots.f k xs xs = some true) :
    ∀ w', w'.heap = w9.heap → Calls Try.prog 12 #[.slice A xs.length c, .slice A' xs.length c'] w' fun e w'' => e = .returned (.bool true) ∧ ∃ q, w'' = w'.drewN q := fun w' hw =>
  (pylonref19_SameLots.calls k A c xs A' c' xs true w' (bk_heap h1 hw) hc (bk_heap h2 hw) hc' hS).mono fun e w'' ⟨he, q, hq⟩ => ⟨he, q, hq⟩
theorem bk_77 {w : World} {g n : Nat} {xs : List S32} {x : S32} (h : Kd.C k32 w (some ⟨g, 0, none⟩) n (xs ++ [x])) : w.cell? ⟨g, xs.length * 2, none⟩ = some (.int .i64 x.f0) := by
  have h1 : xs.length + 1 = n := by have := h.1; simpa using this
  obtain ⟨ad, e, hh⟩ := h.2.2 (by omega)
  cases e
  obtain ⟨c, hl, hK, hcells⟩ := hh xs.length x (by simp)
  have e2 := k32_open hK
  subst e2
  have h3 := hcells 0 _ rfl
  have hsz : k32.sz = 2 := rfl
  rw [hsz, Nat.add_zero] at h3
  have e4 : (⟨g, 0, none⟩ : Addr).add (xs.length * 2) = ⟨g, xs.length * 2, none⟩ := by unfold Addr.add; split <;> simp_all
  rwa [e4] at h3
theorem own_move_b {w w1 : World} {base : Nat} {v : Value} {n : Nat} {xs : List Value} (h : w.ownsRow base 32 2 v n xs) (hB : Below w.heap.size w w1) : w1.ownsRow base 32 2 v n xs := own_move h fun k hk => hB.block k (h.lt k hk).2
theorem bk_one : ∀ u ∈ [Value.int .i64 (-7), .int .i64 0], u.oneCell' = true := by
  intro u hu
  simp only [List.mem_cons, List.not_mem_nil, or_false] at hu
  rcases hu with rfl | rfl <;> rfl
theorem bk_dr (w : World) (q : Nat) : Below w.heap.size w (w.drewN q) := ⟨rfl, rfl, rfl, Nat.le_refl _, fun _ _ => rfl⟩
theorem bk_ne {A B : Option Addr} {n c la ha lb hb : Nat} (h1 : ∀ ad, A = some ad → la ≤ ad.block ∧ ad.block < ha) (h2 : ∀ ad, B = some ad → lb ≤ ad.block ∧ ad.block < hb) (h : ha ≤ lb ∨ hb ≤ la) : ∀ ad, B = some ad → some ad.block ≠ (Value.slice A n c).ownBlock := by
  intro ad e he
  have hb2 := h2 ad e
  cases A with
  | none => simp [Value.ownBlock] at he
  | some x =>
    have ha2 := h1 x rfl
    simp only [Value.ownBlock, Option.some.injEq] at he
    omega
theorem bk_ge {A : Option Addr} {n c la ha b : Nat} (h1 : ∀ ad, A = some ad → la ≤ ad.block ∧ ad.block < ha) (hb : b ≤ la) : ∀ k, (Value.slice A n c).ownBlock = some k → b ≤ k := by
  intro k hk
  cases A with
  | none => simp [Value.ownBlock] at hk
  | some x =>
    have ha2 := h1 x rfl
    simp only [Value.ownBlock, Option.some.injEq] at hk
    omega
theorem bk_keep {w a b : World} {o : Option Nat} (h : Below w.heap.size w a) (g : a.grownBy b o) (ho : ∀ k, o = some k → w.heap.size ≤ k) : Below w.heap.size w b :=
  h.trans ⟨g.os, g.tape, g.output, g.size, fun k hk => g.block k (Nat.lt_of_lt_of_le hk h.size) fun e => by have := ho k e.symm; omega⟩
theorem bk_ownkeep {w a : World} {o : Option Nat} {base : Nat} {v : Value} {n : Nat} {xs : List Value} (h : w.ownsRow base 32 2 v n xs) (g : w.grownBy a o) (ho : ∀ k, v.ownBlock = some k → some k ≠ o) : a.ownsRow base 32 2 v n xs := own_move h fun k hk => g.block k (h.lt k hk).2 (ho k hk)
theorem bk_okne {A B : Option Addr} {n c n' c' la ha lb hb : Nat} (h1 : ∀ ad, A = some ad → la ≤ ad.block ∧ ad.block < ha) (h2 : ∀ ad, B = some ad → lb ≤ ad.block ∧ ad.block < hb) (h : ha ≤ lb ∨ hb ≤ la) : ∀ k, (Value.slice B n' c').ownBlock = some k → some k ≠ (Value.slice A n c).ownBlock := by
  intro k hk
  cases B with
  | none => simp [Value.ownBlock] at hk
  | some x =>
    simp only [Value.ownBlock, Option.some.injEq] at hk
    subst hk
    exact bk_ne h1 h2 h x rfl
set_option maxHeartbeats 16000000 in
set_option maxRecDepth 100000 in
theorem pylonlaw19_BankKeeps.calls (k : Nat) (A0 : Option Addr) (c0 : Nat) (l0 : List (S32)) (a1 : Int) (a2 : Int) (r : Bool) (w : World) (hr0 : Kd.C k32 w A0 l0.length l0) (hc0 : l0.length ≤ c0) (h : pylonlaw19_BankKeeps.f k l0 a1 a2 = some r) :
  Calls Try.prog 5 #[.slice A0 l0.length c0, .int .i64 a1, .int .i64 a2] w fun e w' => e = .returned (.bool r) ∧ Below w.heap.size w w' := by
  unfold pylonlaw19_BankKeeps.f at h
  split at h
  case isFalse => exact absurd h (by simp)
  case isTrue hgood =>
  cases h
  obtain ⟨hAw, hlen, hCo, hS0, LA, x1, x2, LB, y2, LC, z1, z2, hA, hX, hB, hY, hC, hZ, hlA, hlB, hSA, hSB, hSC⟩ := hgood
  have HA := AX hA; have HX := AX hX; have HB := AX hB; have HY := AX hY; have HC := AX hC; have HZ := AX hZ; have HAw := AX hAw; have HCo := AX hCo
  have HSS := AX (And.intro hS0 (And.intro hSA (And.intro hSB hSC)))
  have HR0 := AX hr0
  have HC0 := AX hc0
  have HLEN := AX (And.intro hlen (And.intro hlA hlB))
  clear hA hX hB hY hC hZ hAw hCo hS0 hSA hSB hSC hr0 hc0 hlA hlB
  go_enter Try.func5, Try.ntmps5
  go_upto_region 4 with (first
    | (go_at_call 8; refine (pylonlaw19_awake.calls k true _ HAw.out).mono ?_; rintro e w1 ⟨rfl, hB1⟩; have HB1 := AX hB1; clear hB1)
    | (go_at_call 10; refine (pylonlaw19_copyLots.calls A0 c0 l0 l0 _ (Kd.C_below HR0.out HB1.out) HC0.out HCo.out).mono ?_; rintro e w2 ⟨v2, rfl, hR2, hB2⟩; obtain ⟨A2, c2, in2, rfl, hc2, hC2, hr2, ho2⟩ := bk_row hR2; have HR2 := AX hR2; have HB2 := AX hB2; clear hR2 hB2 hc2 hC2 hr2 ho2)
    | (at_builtin; refine Kd.R_append k32 (w0 := w2) w1.heap.size rfl (.tmp 30) (.tmp 32) 22 32 (.agg #[(.int .i64 0), (.int .i64 0)]) 16 rfl Try.underlying22 info32 rfl (by decide) (by decide) (.slice A2 l0.length c2) l0 (⟨77, 0⟩ : S32) [.int .i64 77, .int .i64 0] (fun _ => True) (fun _ => False) rfl rfl (k32_mkM _ _ _ _) (fun _ h => h.elim) (fun _ _ => trivial) HR2.out (Below.refl _ _) HB2.out.size ?hl1 ?_; (case hl1 => have := HLEN.out; omega); intro v3 w3 hR3 hB3 hg3 hat3; have HR3 := AX hR3; have HG3 := AX (And.intro hg3 (And.intro hB3 hat3)); clear hR3 hB3 hg3 hat3))
  obtain ⟨g3, cap3, e3, hb3, hs3, cel3, hh3⟩ := Kd.R_form HR3.out (by simp)
  have e3' : v3 = .slice (some ⟨g3, 0, none⟩) (l0.length + 1) cap3 := by rw [e3]; simp
  clear e3
  subst e3'
  obtain ⟨hl3, hcap3, hC3⟩ := Kd.R_reads' HR3.out
  have HRM := AX (And.intro (bk_pre hC3) (And.intro (bk_77 hC3) (And.intro (show l0.length + 1 ≤ cap3 from hcap3) (And.intro hb3 hs3))))
  have HBW := AX (Below.trans (bk_bt HB1.out HB2.out) (HG3.out.2.1.mono HB1.out.size))
  have hcap : (l0.length : Int) ≤ cap3 := by omega
  clear HR3 HG3 HR2 HCo HAw hl3 hcap3 hC3 hb3 hs3 hh3 cel3
  go_upto_region 11 with (first
    | (go_at_call 14; refine (bank_Age.calls k (fun _ => True) (some ⟨g3, 0, none⟩) cap3 l0 a2 LA x1 x2 _ (bk_V HRM.out.1 (by have := HRM.out.2.2.1; omega)) HA.out).mono ?_; rintro e w4 ⟨v4, rfl, hR4, hB4⟩; obtain ⟨Aa, ca, ia, rfl, hca, hCa, hra, hoa⟩ := bk_row hR4; have Ha := AX (And.intro hca (And.intro hCa (And.intro hra hoa))); have HB4 := AX hB4; clear hR4 hB4 hca hCa hra hoa)
    | (go_at_call 15; refine (bank_Put.calls k (some ⟨g3, 0, none⟩) cap3 l0 a1 LB y2 _ (Kd.C_below HRM.out.1 HB4.out) (by have := HRM.out.2.2.1; omega) HB.out).mono ?_; rintro e w5 ⟨v5, rfl, hR5, hB5⟩; obtain ⟨Ab, cb, ib, rfl, hcb, hCb, hrb, hob⟩ := bk_row hR5; have Hb := AX (And.intro hcb (And.intro hCb (And.intro hrb hob))); have HB5 := AX hB5; clear hR5 hB5 hcb hCb hrb hob)
    | (go_at_call 9; refine (bank_Take.calls k (fun _ => True) (some ⟨g3, 0, none⟩) cap3 l0 a1 LC z1 z2 _ (bk_V (Kd.C_below (Kd.C_below HRM.out.1 HB4.out) HB5.out) (by have := HRM.out.2.2.1; omega)) HC.out).mono ?_; rintro e w6 ⟨v6, rfl, hR6, hB6⟩; obtain ⟨Ac, cc, ic, rfl, hcc, hCc, hrc, hoc⟩ := bk_row hR6; have Hc := AX (And.intro hcc (And.intro hCc hrc)); have HB6 := AX hB6; clear hR6 hB6 hcc hCc hrc hoc)
    | (go_at_call 16; refine (pylonref19_Age.calls k A0 c0 l0 a2 LA x1 x2 _ (Kd.C_below HR0.out (bk_bt (bk_bt (bk_bt HBW.out HB4.out) HB5.out) HB6.out)) HC0.out HX.out).mono ?_; rintro e w7 ⟨v7, rfl, hR7, hB7⟩; obtain ⟨Ax, cx, ix, rfl, hcx, hCx, hrx, hox⟩ := bk_row hR7; have Hx := AX (And.intro hcx (And.intro hCx hrx)); have HB7 := AX hB7; clear hR7 hB7 hcx hCx hrx hox)
    | (go_at_call 17; refine (pylonref19_Put.calls k A0 c0 l0 a1 LB y2 _ (Kd.C_below HR0.out (bk_bt (bk_bt (bk_bt (bk_bt HBW.out HB4.out) HB5.out) HB6.out) HB7.out)) HC0.out HY.out).mono ?_; rintro e w8 ⟨v8, rfl, hR8, hB8⟩; obtain ⟨Ay, cy, iy, rfl, hcy, hCy, hry, hoy⟩ := bk_row hR8; have Hy := AX (And.intro hcy (And.intro hCy hry)); have HB8 := AX hB8; clear hR8 hB8 hcy hCy hry hoy)
    | (go_at_call 18; refine (pylonref19_Take.calls k A0 c0 l0 a1 LC z1 z2 _ (Kd.C_below HR0.out (bk_bt (bk_bt (bk_bt (bk_bt (bk_bt HBW.out HB4.out) HB5.out) HB6.out) HB7.out) HB8.out)) HC0.out HZ.out).mono ?_; rintro e w9 ⟨v9, rfl, hR9, hB9⟩; obtain ⟨Az, cz, iz, rfl, hcz, hCz, hrz, hoz⟩ := bk_row hR9; have Hz := AX (And.intro hcz (And.intro hCz hrz)); have HB9 := AX hB9; clear hR9 hB9 hcz hCz hrz hoz))
  have D89 := AX HB9.out
  have D79 := AX (bk_bt HB8.out D89.out)
  have D69 := AX (bk_bt HB7.out D79.out)
  have D59 := AX (bk_bt HB6.out D69.out)
  have D49 := AX (bk_bt HB5.out D59.out)
  have D39 := AX (bk_bt HB4.out D49.out)
  have DW9 := AX (bk_bt HBW.out D39.out)
  have Kin := AX (Kd.C_below HRM.out.1 D39.out)
  have Kl := AX (Kd.C_below HR0.out DW9.out)
  have Ka := AX (Kd.C_below Ha.out.2.1 D49.out)
  have Kb := AX (Kd.C_below Hb.out.2.1 D59.out)
  have Kc := AX (Kd.C_below Hc.out.2.1 D69.out)
  have Kx := AX (Kd.C_below Hx.out.2.1 D79.out)
  have Ky := AX (Kd.C_below Hy.out.2.1 D89.out)
  have Kz := AX Hz.out.2.1
  have h77 : w9.cell? ⟨g3, l0.length * 2, none⟩ = some (.int .i64 77) := (D39.out.cell (p := ⟨g3, l0.length * 2, none⟩) HRM.out.2.2.2.2).trans HRM.out.2.1
  have S1 := AX (bk_same (c := cap3) Kin.out (by have := HRM.out.2.2.1; omega) Kl.out HC0.out HSS.out.1)
  have S2 := AX (bk_same Ka.out Ha.out.1 Kx.out Hx.out.1 HSS.out.2.1)
  have S3 := AX (bk_same Kb.out Hb.out.1 Ky.out Hy.out.1 HSS.out.2.2.1)
  have S4 := AX (bk_same Kc.out Hc.out.1 Kz.out Hz.out.1 HSS.out.2.2.2)
  go_wp2_with (first
    | (go_at_call_of 12 (Value.slice (some ⟨g3, 0, none⟩) l0.length cap3); (with_reducible refine (S1.out _ ?hq1).mono ?_); (case hq1 => rfl); rintro e w' ⟨rfl, q, rfl⟩)
    | (go_at_call_of 12 (Value.slice Aa LA.length ca); (with_reducible refine (S2.out _ ?hq2).mono ?_); (case hq2 => rfl); rintro e w' ⟨rfl, q, rfl⟩)
    | (go_at_call_of 12 (Value.slice Ab LB.length cb); (with_reducible refine (S3.out _ ?hq3).mono ?_); (case hq3 => rfl); rintro e w' ⟨rfl, q, rfl⟩)
    | (go_at_call_of 12 (Value.slice Ac LC.length cc); (with_reducible refine (S4.out _ ?hq4).mono ?_); (case hq4 => rfl); rintro e w' ⟨rfl, q, rfl⟩))
  have H77 := AX h77
  have HSZ := AX (And.intro HBW.out.size (And.intro HB4.out.size (And.intro HB5.out.size (And.intro HB6.out.size (And.intro HB7.out.size (And.intro HB8.out.size HB9.out.size))))))
  have hA9 : LA.length ≤ 8796093021953 := HLEN.out.2.1
  have hB9 : LB.length ≤ 8796093021953 := HLEN.out.2.2
  clear S1 S2 S3 S4 h77
  go_loopw [111] (fun vi wr => ∃ i : Nat, vi = .int .i64 i ∧ i ≤ LA.length ∧ Aside0 ((∃ inner, wr.ownsRow w3.heap.size 32 2 (.slice Aa LA.length ca) LA.length inner) ∧ w9.grownBy wr (.slice Aa LA.length ca : Value).ownBlock)) (fun vi _ => LA.length - (intOf vi).toNat)
  case atStart => exact ⟨0, rfl, by omega, ⟨⟨_, own_move_b (own_move_b Ha.out.2.2.2 D49.out) (bk_dr _ _)⟩, bk_of_below (bk_dr _ _)⟩⟩
  case round =>
    obtain ⟨i, rfl, hi, HL⟩ := hrel
    by_cases hlt : i < LA.length
    · obtain ⟨⟨inner, hin⟩, hgr⟩ := HL.out
      obtain ⟨ga, u, eA, hgb, hnc, hcell, hfr⟩ := bk_cell hin hlt
      have HIN := AX (And.intro hin hgr)
      have hlc : (LA.length : Int) ≤ ca := by omega
      subst eA
      clear hin hgr hgb hnc HL
      go_wp2
      go_roundw
      case rel =>
        have st := HIN.out.1.stored (i * 2) (.int .i64 (-7))
        exact ⟨i + 1, by go_num, by omega, ⟨⟨_, st.1⟩, bk_trans HIN.out.2 st.2⟩⟩
      case measure => simp [intOf]; omega
    · have HL0 := HL
      clear HL
      go_wp2
      clear hlt hi
      go_loopw [9, 119] (fun vv vi wr => ∃ (i n : Nat) (va : Value) (inner : List Value), vv = va ∧ vi = .int .i64 i ∧ i ≤ 20 ∧ n ≤ LA.length + i ∧ Aside0 (wr.ownsRow w3.heap.size 32 2 va n inner ∧ w9.grownBy wr (.slice Aa LA.length ca : Value).ownBlock ∧ (va.ownBlock = (.slice Aa LA.length ca : Value).ownBlock ∨ ∃ b, va.ownBlock = some b ∧ w9.heap.size ≤ b))) (fun _ vi _ => 20 - (intOf vi).toNat)
      case atStart =>
        obtain ⟨⟨inner, hin⟩, hgr⟩ := HL0.out
        exact ⟨0, LA.length, _, inner, rfl, rfl, by omega, by omega, ⟨hin, hgr, .inl rfl⟩⟩
      case round =>
        clear HL0
        obtain ⟨i, n, va, inner, rfl, rfl, hi, hn, HL⟩ := hrel
        by_cases hlt : i < 20
        · go_wp2_with (at_builtin; refine print_append_cells (w0 := wr) w3.heap.size rfl (.tmp 121) (.tmp 123) 22 32 (.agg #[(.int .i64 0), (.int .i64 0)]) 2 16 rfl Try.underlying22 info32 rfl (by decide) (by decide) _ n inner [.int .i64 (-7), .int .i64 0] rfl rfl rfl bk_one HL.out.1 (Below.refl _ _) ?hl2b ?hl2 ?_; (case hl2b => have := HSZ.out; have := HL.out.2.1.size; omega); (case hl2 => omega); intro v1 wn ho hb hg hat; have HN := AX (And.intro ho (bk_app HL.out.2.1 HL.out.2.2 hg hat)); clear ho hb hg hat)
          go_roundw
          case rel => exact ⟨i + 1, n + 1, v1, _, rfl, by go_num, by omega, by omega, ⟨HN.out.1, HN.out.2.1, HN.out.2.2⟩⟩
          case measure => simp [intOf]; omega
        · obtain ⟨w10, rfl⟩ : ∃ w10 : World, w10 = wr := ⟨_, rfl⟩
          have HG := AX HL.out.2.1
          clear HL hn
          have DWA := AX (bk_keep DW9.out HG.out (bk_ge Ha.out.2.2.1 (by have := HSZ.out; omega)))
          have Kin2 := AX (bk_grown Kin.out HG.out (bk_ne Ha.out.2.2.1 (fun ad e => by cases e; exact ⟨HRM.out.2.2.2.1, HRM.out.2.2.2.2⟩) (by have := HSZ.out; omega)))
          have Kb2 := AX (bk_grown Kb.out HG.out (bk_ne Ha.out.2.2.1 Hb.out.2.2.1 (by have := HSZ.out; omega)))
          have Kc2 := AX (bk_grown Kc.out HG.out (bk_ne Ha.out.2.2.1 Hc.out.2.2 (by have := HSZ.out; omega)))
          have Ky2 := AX (bk_grown Ky.out HG.out (bk_ne Ha.out.2.2.1 Hy.out.2.2 (by have := HSZ.out; omega)))
          have Kz2 := AX (bk_grown Kz.out HG.out (bk_ne Ha.out.2.2.1 Hz.out.2.2 (by have := HSZ.out; omega)))
          have H77b := AX (HG.out.cell H77.out (bk_ne Ha.out.2.2.1 (A := Aa) (B := some ⟨g3, l0.length * 2, none⟩) (fun ad e => by cases e; exact ⟨HRM.out.2.2.2.1, HRM.out.2.2.2.2⟩) (by have := HSZ.out; omega) _ rfl))
          have OB := AX (bk_ownkeep (own_move_b Hb.out.2.2.2 D59.out) HG.out (bk_okne Ha.out.2.2.1 Hb.out.2.2.1 (by have := HSZ.out; omega)))
          have S5 := AX (bk_same Kb2.out Hb.out.1 Ky2.out Hy.out.1 HSS.out.2.2.1)
          have S6 := AX (bk_same Kc2.out Hc.out.1 Kz2.out Hz.out.1 HSS.out.2.2.2)
          have HSZ9 := HSZ
          clear HSZ
          have HSZ := AX (And.intro HSZ9.out HG.out.size)
          clear HSZ9
          go_wp2_with (first
            | (go_at_call_of 12 (Value.slice Ab LB.length cb); (with_reducible refine (S5.out _ ?hq5).mono ?_); (case hq5 => rfl); rintro e w' ⟨rfl, q, rfl⟩)
            | (go_at_call_of 12 (Value.slice Ac LC.length cc); (with_reducible refine (S6.out _ ?hq6).mono ?_); (case hq6 => rfl); rintro e w' ⟨rfl, q, rfl⟩))
          clear S5 S6
          go_loopw [138] (fun vi wr => ∃ i : Nat, vi = .int .i64 i ∧ i ≤ LB.length ∧ Aside0 ((∃ inner, wr.ownsRow w4.heap.size 32 2 (.slice Ab LB.length cb) LB.length inner) ∧ w10.grownBy wr (.slice Ab LB.length cb : Value).ownBlock)) (fun vi _ => LB.length - (intOf vi).toNat)
          case atStart => exact ⟨0, rfl, by omega, ⟨⟨_, own_move_b OB.out (bk_dr _ _)⟩, bk_of_below (bk_dr _ _)⟩⟩
          case round =>
            obtain ⟨i, rfl, hi, HL⟩ := hrel
            by_cases hlt : i < LB.length
            · obtain ⟨⟨inner, hin⟩, hgr⟩ := HL.out
              obtain ⟨ga, u, eA, hgb, hnc, hcell, hfr⟩ := bk_cell hin hlt
              have HIN := AX (And.intro hin hgr)
              have hlc : (LB.length : Int) ≤ cb := by omega
              subst eA
              clear hin hgr hgb hnc HL
              go_wp2
              go_roundw
              case rel =>
                have st := HIN.out.1.stored (i * 2) (.int .i64 (-7))
                exact ⟨i + 1, by go_num, by omega, ⟨⟨_, st.1⟩, bk_trans HIN.out.2 st.2⟩⟩
              case measure => simp [intOf]; omega
            · have HL0 := HL
              clear HL
              go_wp2
              clear hlt hi
              go_loopw [12, 146] (fun vv vi wr => ∃ (i n : Nat) (va : Value) (inner : List Value), vv = va ∧ vi = .int .i64 i ∧ i ≤ 20 ∧ n ≤ LB.length + i ∧ Aside0 (wr.ownsRow w4.heap.size 32 2 va n inner ∧ w10.grownBy wr (.slice Ab LB.length cb : Value).ownBlock ∧ (va.ownBlock = (.slice Ab LB.length cb : Value).ownBlock ∨ ∃ b, va.ownBlock = some b ∧ w10.heap.size ≤ b))) (fun _ vi _ => 20 - (intOf vi).toNat)
              case atStart =>
                obtain ⟨⟨inner, hin⟩, hgr⟩ := HL0.out
                exact ⟨0, LB.length, _, inner, rfl, rfl, by omega, by omega, ⟨hin, hgr, .inl rfl⟩⟩
              case round =>
                clear HL0
                obtain ⟨i, n, va, inner, rfl, rfl, hi, hn, HL⟩ := hrel
                by_cases hlt : i < 20
                · go_wp2_with (at_builtin; refine print_append_cells (w0 := wr) w4.heap.size rfl (.tmp 148) (.tmp 150) 22 32 (.agg #[(.int .i64 0), (.int .i64 0)]) 2 16 rfl Try.underlying22 info32 rfl (by decide) (by decide) _ n inner [.int .i64 (-7), .int .i64 0] rfl rfl rfl bk_one HL.out.1 (Below.refl _ _) ?hl4b ?hl4 ?_; (case hl4b => have := HSZ.out; have := HL.out.2.1.size; omega); (case hl4 => omega); intro v1 wn ho hb hg hat; have HN := AX (And.intro ho (bk_app HL.out.2.1 HL.out.2.2 hg hat)); clear ho hb hg hat)
                  go_roundw
                  case rel => exact ⟨i + 1, n + 1, v1, _, rfl, by go_num, by omega, by omega, ⟨HN.out.1, HN.out.2.1, HN.out.2.2⟩⟩
                  case measure => simp [intOf]; omega
                · obtain ⟨w12, rfl⟩ : ∃ w12 : World, w12 = wr := ⟨_, rfl⟩
                  have HGB := AX HL.out.2.1
                  clear HL hn
                  have R_ := AX (bk_keep DWA.out HGB.out (bk_ge Hb.out.2.2.1 (by have := HSZ.out; omega)))
                  have Kin3 := AX (bk_grown Kin2.out HGB.out (bk_ne Hb.out.2.2.1 (fun ad e => by cases e; exact ⟨HRM.out.2.2.2.1, HRM.out.2.2.2.2⟩) (by have := HSZ.out; omega)))
                  have Kc3 := AX (bk_grown Kc2.out HGB.out (bk_ne Hb.out.2.2.1 Hc.out.2.2 (by have := HSZ.out; omega)))
                  have Kz3 := AX (bk_grown Kz2.out HGB.out (bk_ne Hb.out.2.2.1 Hz.out.2.2 (by have := HSZ.out; omega)))
                  have Kl3 := AX (Kd.C_below HR0.out R_.out)
                  have h77 : w12.cell? ⟨g3, l0.length * 2, none⟩ = some (.int .i64 77) := HGB.out.cell H77b.out (bk_ne Hb.out.2.2.1 (A := Ab) (B := some ⟨g3, l0.length * 2, none⟩) (fun ad e => by cases e; exact ⟨HRM.out.2.2.2.1, HRM.out.2.2.2.2⟩) (by have := HSZ.out; omega) _ rfl)
                  have S7 := AX (bk_same Kc3.out Hc.out.1 Kz3.out Hz.out.1 HSS.out.2.2.2)
                  have S8 := AX (bk_same (c := cap3) Kin3.out (by have := HRM.out.2.2.1; omega) Kl3.out HC0.out HSS.out.1)
                  have hcap : (l0.length : Int) + 1 ≤ cap3 := by have := HRM.out.2.2.1; omega
                  go_wp2_with (first
                    | (go_at_call_of 12 (Value.slice Ac LC.length cc); (with_reducible refine (S7.out _ ?hq7).mono ?_); (case hq7 => rfl); rintro e w' ⟨rfl, q, rfl⟩)
                    | (go_at_call_of 12 (Value.slice (some ⟨g3, 0, none⟩) l0.length cap3); (with_reducible refine (S8.out _ ?hq8).mono ?_); (case hq8 => rfl); rintro e w' ⟨rfl, q, rfl⟩))
                  go_ret
                  exact ⟨rfl, bk_bt R_.out (bk_dr _ _)⟩

end Go.Proofs.Ytpogcehbciacdaa.PX
