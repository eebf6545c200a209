/- Functions of the program as plain Lean functions, each with a proof that the call in the machine answers just what the plain function says; condition: the plain function answers at all. -/
import Derived.Test.YthhifeefkmaeiaaPXx0
import Derived.Test.YthhifeefkmaeiaaPXx1
import Derived.Test.YthhifeefkmaeiaaPXx7
namespace Go.Proofs.Ythhifeefkmaeiaa.PX
open Go.RowKit Go.Proofs.YthhifeefkmaeiaaW.PrintWords Go.Proofs.YthhifeefkmaeiaaW.PrintLast Go.Proofs.YthhifeefkmaeiaaW.PrintMore
attribute [local go_sem] max2_int min2_int max_two min_two max_three min_three max_four min_four   -- for this text's walks alone
set_option linter.unusedVariables false
set_option linter.unusedSimpArgs false

attribute [local go_sem high] eqA43
/-! ### fill_Gaps: function 15 -/
def fill_Gaps.good (r : S45) : Bool := r.f4 == 65 || r.f4 == 69
def fill_Gaps.nr (x : Int) : Bool := decide (-10000000 ≤ x ∧ x ≤ 10000000)
/-- the good reads, each in its slot; none: the file is not in order -/
def fill_Gaps.lay (n : Int) : List S45 → Int → (Nat → Option S45) → Option (Nat → Option S45)
  | [], _, L => some L
  | r :: t, b, L => if r.f0 ≤ b ∨ n ≤ r.f0 then none else if fill_Gaps.good r then (if fill_Gaps.nr r.f1 && (fill_Gaps.nr r.f2 && fill_Gaps.nr r.f3) then fill_Gaps.lay n t r.f0 (fun s => if (s : Int) = r.f0 then some r else L s) else none) else fill_Gaps.lay n t r.f0 L
def fill_Gaps.slots (n : Int) (rs : List S45) : Option (Nat → Option S45) := if n < 1 ∨ 40000 < n then none else fill_Gaps.lay n rs (-1) (fun _ => none)
/-- the runs of slots without a read: d slots are left, a run may be open -/
def fill_Gaps.hs (L : Nat → Option S45) : Nat → Nat → Option Nat → List S43
  | 0, _, none => []
  | 0, s, some f => [⟨f, s⟩]
  | d + 1, s, none => if (L s).isNone then fill_Gaps.hs L d (s + 1) (some s) else fill_Gaps.hs L d (s + 1) none
  | d + 1, s, some f => if (L s).isNone then fill_Gaps.hs L d (s + 1) (some f) else ⟨f, s⟩ :: fill_Gaps.hs L d (s + 1) none
def fill_Gaps.f (a0_0 : ByteArray) (a0_1 : Int) (a0_2 : Int) (a0_3 : Int) (a0_4 : Int) (a0_5 : Int) (l0_6 : List (S45)) : Option ((List (S43)) × Int) :=
  match fill_Gaps.slots a0_3 l0_6 with
  | none => some ([], 8)
  | some L => some (fill_Gaps.hs L a0_3.toNat 0 none, 0)
/-! ### the row of pointers -/
def fill_Gaps.pv : Option Nat → Value
  | none => .pointer none
  | some b => .pointer (some ⟨b, 0, none⟩)
def fill_Gaps.pa (ps : Nat → Option Nat) (n : Nat) : Array Value := ((List.range n).map fun t => fill_Gaps.pv (ps t)).toArray
def fill_Gaps.rb (w : World) (b : Nat) (r : S45) : Prop := w.heap[b]? = some (.cells #[.int .i64 r.f0, .int .i64 r.f1, .int .i64 r.f2, .int .i64 r.f3, .int .u8 r.f4] 45 (0, 0))
/-- block B holds a pointer for each slot: to the slot's read, or none -/
structure fill_Gaps.PL (w : World) (B n : Nat) (L : Nat → Option S45) (ps : Nat → Option Nat) : Prop where
  row : w.heap[B]? = some (.cells (fill_Gaps.pa ps n) 59 (0, 0))
  no : ∀ t, t < n → ps t = none → L t = none
  yes : ∀ t b, t < n → ps t = some b → ∃ r, L t = some r ∧ fill_Gaps.rb w b r
theorem fill_Gaps.pa_get (ps : Nat → Option Nat) {n k : Nat} (hk : k < n) : (fill_Gaps.pa ps n)[k]? = some (fill_Gaps.pv (ps k)) := by simp [fill_Gaps.pa, hk]
theorem fill_Gaps.pa_set (ps : Nat → Option Nat) (n k b : Nat) : (fill_Gaps.pa ps n).setIfInBounds k (fill_Gaps.pv (some b)) = fill_Gaps.pa (fun t => if t = k then some b else ps t) n := by
  apply Array.ext_getElem?
  intro t
  rw [Array.getElem?_setIfInBounds]
  by_cases c : k = t
  · subst c
    by_cases c2 : k < n
    · rw [fill_Gaps.pa_get _ c2]; simp [fill_Gaps.pa, c2]
    · simp [fill_Gaps.pa, c2]
  · simp only [c, if_false]
    by_cases c2 : t < n
    · rw [fill_Gaps.pa_get _ c2, fill_Gaps.pa_get _ c2, if_neg (fun e => c e.symm)]
    · simp [fill_Gaps.pa, c2]
theorem fill_Gaps.pa_none (n : Nat) : madeCells #[Value.pointer none] n = fill_Gaps.pa (fun _ => none) n := by
  apply Array.ext_getElem?
  intro t
  by_cases c : t < n
  · rw [fill_Gaps.pa_get _ c]; simp [madeCells, c, Nat.mod_one, fill_Gaps.pv]
  · simp [madeCells, fill_Gaps.pa, c]
theorem fill_Gaps.mk (n : Nat) (hn : n ≤ 40000) (w : World) : (Instr.makeSlice 55 (.int .i64 (n : Int)) (.int .i64 (n : Int))).run Try.prog w = .ok (.slice (some ⟨w.heap.size, 0, none⟩) n n) (w.alloc (.cells (fill_Gaps.pa (fun _ => none) n) 59 (0, 0))) := by
  have hr := run_make (P := Try.prog) w 55 59 ((Try.prog.info? 59).get (by kernel_rfl)) (.pointer none) (by kernel_rfl) (by kernel_rfl) (by kernel_rfl) .i64 .i64 (n : Int) (n : Int) (by omega) (Int.le_refl _) (by rw [show ((Try.prog.info? 59).get (by kernel_rfl)).bytes = 8 by kernel_rfl]; omega) (by omega)
  simp only [Int.toNat_natCast] at hr
  rw [hr, show ((Try.prog.info? 59).get (by kernel_rfl)).size = 1 by kernel_rfl, Nat.mul_one, ← fill_Gaps.pa_none]
  rfl
section
variable {w w' : World} {B n : Nat} {L : Nat → Option S45} {ps : Nat → Option Nat}
theorem fill_Gaps.PL.below (h : fill_Gaps.PL w B n L ps) (hB : Below w.heap.size w w') : fill_Gaps.PL w' B n L ps :=
  ⟨(hB.block B (Array.getElem?_eq_some_iff.1 h.row).1).trans h.row, h.no, fun t b ht hb => by
    obtain ⟨r, h1, h2⟩ := h.yes t b ht hb
    exact ⟨r, h1, (hB.block b (Array.getElem?_eq_some_iff.1 h2).1).trans h2⟩⟩
theorem fill_Gaps.PL.cell (h : fill_Gaps.PL w B n L ps) {t : Nat} (ht : t < n) : w.cell? ⟨B, t, none⟩ = some (fill_Gaps.pv (ps t)) := by simp [World.cell?, h.row, fill_Gaps.pa_get ps ht]
theorem fill_Gaps.PL.frozen (h : fill_Gaps.PL w B n L ps) (t : Nat) : w.frozen? ⟨B, t, none⟩ = false := by simp [World.frozen?, h.row]
theorem fill_Gaps.PL.set (h : fill_Gaps.PL w B n L ps) {k b : Nat} {r : S45} (hr : fill_Gaps.rb w b r) : fill_Gaps.PL (w.setCell ⟨B, k, none⟩ (.pointer (some ⟨b, 0, none⟩))) B n (fun s => if s = k then some r else L s) (fun s => if s = k then some b else ps s) := by
  have hlt := (Array.getElem?_eq_some_iff.1 h.row).1
  have far : ∀ b' r', fill_Gaps.rb w b' r' → fill_Gaps.rb (w.setCell ⟨B, k, none⟩ (.pointer (some ⟨b, 0, none⟩))) b' r' := fun b' r' hb => by
    refine (Below.heap_setCell w _ _ b' fun e => ?_).trans hb
    have e2 : b' = B := e
    subst e2
    have := h.row.symm.trans hb
    injection this with this
    injection this with _ this
    exact absurd this (by decide)
  refine ⟨?_, fun t ht hp => ?_, fun t b' ht hp => ?_⟩
  · simp only [World.setCell, Array.getElem?_modify, if_true, h.row, Option.map_some]
    rw [← fill_Gaps.pa_set]
    rfl
  · by_cases c : t = k
    · simp [c] at hp
    · simp only [c, if_false] at hp ⊢; exact h.no t ht hp
  · by_cases c : t = k
    · simp only [c, if_true, Option.some.injEq] at hp ⊢; subst hp; exact ⟨r, rfl, far _ _ hr⟩
    · simp only [c, if_false] at hp ⊢
      obtain ⟨r', h1, h2⟩ := h.yes t b' ht hp
      exact ⟨r', h1, far _ _ h2⟩
theorem fill_Gaps.PL.set' (h : fill_Gaps.PL w B n L ps) {k b : Nat} {r : S45} (hr : fill_Gaps.rb w b r) : fill_Gaps.PL (w.setCell ⟨B, k, none⟩ (.pointer (some ⟨b, 0, none⟩))) B n (fun s => if (s : Int) = (k : Int) then some r else L s) (fun s => if s = k then some b else ps s) := by
  have e : (fun s : Nat => if (s : Int) = (k : Int) then some r else L s) = fun s : Nat => if s = k then some r else L s := by funext s; by_cases c : s = k <;> simp [c]; omega
  rw [e]; exact h.set hr
end
theorem fill_Gaps.good_f (r : S45) : vee_Good.f r.f0 r.f1 r.f2 r.f3 r.f4 = some (fill_Gaps.good r) := by
  unfold vee_Good.f fill_Gaps.good
  by_cases c : r.f4 = 65 <;> simp [c]
theorem fill_Gaps.near_c (x : Int) (w : World) : Calls Try.prog 25 #[.int .i64 x] w fun e w' => e = .returned (.bool (fill_Gaps.nr x)) ∧ ∃ q, w' = w.drewN q := by
  unfold fill_Gaps.nr
  by_cases c : -10000000 ≤ x ∧ x ≤ 10000000
  · rw [decide_eq_true c]; exact Srw.near_yes x w c.1 c.2
  · rw [decide_eq_false c]; exact Srw.near_no x w (by omega)
theorem fill_Gaps.at0 (w : World) (o o' : Obj) : ((w.alloc o).alloc o').heap[w.heap.size]? = some o := by
  have e : ((w.alloc o).alloc o').heap = (w.heap.push o).push o' := rfl
  rw [e]; simp [Array.getElem?_push]
theorem fill_Gaps.at1 (w : World) (o o' : Obj) : ((w.alloc o).alloc o').heap[w.heap.size + 1]? = some o' := by
  have e : ((w.alloc o).alloc o').heap = (w.heap.push o).push o' := rfl
  rw [e]; simp only [Array.getElem?_push, Array.size_push, if_true]
theorem fill_Gaps.drs1 {b : Nat} {w w' : World} (h : Below b w w') (q : Nat) : Below b w (w'.drewN q) := h.trans ⟨rfl, rfl, rfl, Nat.le_refl _, fun _ _ => rfl⟩
/-- what the call of slots leaves -/
def fill_Gaps.Post (w : World) (R : Option (Nat → Option S45)) (n : Nat) (e : Ending) (w' : World) : Prop :=
  Below w.heap.size w w' ∧ match R with
    | none => e = .returned (.tuple #[.slice none 0 0, .bool false])
    | some L => ∃ B ps, e = .returned (.tuple #[.slice (some ⟨B, 0, none⟩) n n, .bool true]) ∧ fill_Gaps.PL w' B n L ps
theorem fill_Gaps.drop (rs : List S45) (i : Nat) (h : i < rs.length) : rs.drop i = rd_T45 rs (i : Int) :: rs.drop (i + 1) := by
  unfold rd_T45
  rw [List.drop_eq_getElem_cons h]
  simp [List.getD_eq_getElem?_getD, h]
set_option maxHeartbeats 16000000 in
set_option maxRecDepth 100000 in
theorem fill_Gaps.slots_no (m : ByteArray) (st sp n mu tu : Int) (A : Option Addr) (c : Nat) (rs : List S45) (w : World) (h : n < 1 ∨ 40000 < n) :
    Calls Try.prog 31 #[.agg #[.string m, .int .i64 st, .int .i64 sp, .int .i64 n, .int .i64 mu, .int .i64 tu, .slice A rs.length c]] w fun e w' => e = .returned (.tuple #[.slice none 0 0, .bool false]) ∧ Below w.heap.size w w' := by
  have HB := Lib.hid ((Below.refl w.heap.size w).alloc (Nat.le_refl _) (.cells #[.string m, .int .i64 st, .int .i64 sp, .int .i64 n, .int .i64 mu, .int .i64 tu, .slice A rs.length c] 31))
  by_cases h1 : n < 1
  · have c0 : decide (n < 1) = true := decide_eq_true h1
    go_enter Try.func31, Try.ntmps31
    go_wp2
    go_ret2
    exact ⟨rfl, HB.out⟩
  · have c0 : decide (n < 1) = false := decide_eq_false h1
    have c1 : decide (40000 < n) = true := decide_eq_true (by omega)
    go_enter Try.func31, Try.ntmps31
    go_wp2
    go_ret2
    exact ⟨rfl, HB.out⟩
set_option maxHeartbeats 16000000 in
set_option maxRecDepth 100000 in
theorem fill_Gaps.slots_yes (m : ByteArray) (st sp mu tu : Int) (n : Nat) (A : Option Addr) (c : Nat) (rs : List S45) (w : World) (hr0 : Kd.C k45 w A rs.length rs) (h1 : 1 ≤ n) (h2 : n ≤ 40000) :
    Calls Try.prog 31 #[.agg #[.string m, .int .i64 st, .int .i64 sp, .int .i64 n, .int .i64 mu, .int .i64 tu, .slice A rs.length c]] w (fill_Gaps.Post w (fill_Gaps.lay n rs (-1) fun _ => none) n) := by
  have hl := hr0.2.1
  have HR0 := Lib.hid hr0
  have HB0 := Lib.hid ((Below.refl w.heap.size w).alloc (Nat.le_refl _) (.cells #[.string m, .int .i64 st, .int .i64 sp, .int .i64 n, .int .i64 mu, .int .i64 tu, .slice A rs.length c] 31))
  have c0 : decide (n < 1) = false := decide_eq_false (by omega)
  have c1 : decide (40000 < n) = false := decide_eq_false (by omega)
  have HK := fill_Gaps.mk n h2
  obtain ⟨R, hR⟩ : ∃ R, fill_Gaps.lay n rs (-1) (fun _ => none) = R := ⟨_, rfl⟩
  rw [hR]
  have HR := Lib.hid hR
  clear hR hr0
  go_enter Try.func31, Try.ntmps31
  go_wp2
  have f3c := HB0
  go_loopw [5, 22] (fun vb vi wr => ∃ (i : Nat) (b : Int), vb = .int .i64 b ∧ vi = .int .i64 i ∧ i ≤ rs.length ∧ -1 ≤ b ∧ Hid (∃ L ps, fill_Gaps.lay n (rs.drop i) b L = R ∧ fill_Gaps.PL wr (w.heap.size + 1) n L ps ∧ wr.heap[w.heap.size]? = some (.cells #[.string m, .int .i64 st, .int .i64 sp, .int .i64 n, .int .i64 mu, .int .i64 tu, .slice A rs.length c] 31) ∧ Below w.heap.size w wr)) (fun _ vi _ => rs.length - (intOf vi).toNat)
  case atStart => exact ⟨0, -1, rfl, rfl, by omega, by omega, ⟨_, fun _ => none, by rw [List.drop_zero]; exact HR.out, ⟨fill_Gaps.at1 _ _ _, fun _ _ _ => rfl, fun t b _ h => by cases h⟩, fill_Gaps.at0 _ _ _, HB0.out.alloc (by simp) _⟩⟩
  case round =>
    clear f3c HB0 HR HK
    obtain ⟨i, b, rfl, rfl, hi, hb, HL⟩ := hrel
    have hbox : wr.heap[w.heap.size]? = some (.cells #[.string m, .int .i64 st, .int .i64 sp, .int .i64 n, .int .i64 mu, .int .i64 tu, .slice A rs.length c] 31) := by obtain ⟨L, ps, _, _, h3, _⟩ := HL.out; exact h3
    have e3 : wr.cell? ⟨w.heap.size, 3, none⟩ = some (.int .i64 n) := by simp [World.cell?, hbox]
    have e6 : wr.cell? ⟨w.heap.size, 6, none⟩ = some (.slice A rs.length c) := by simp [World.cell?, hbox]
    have HBX := Lib.hid hbox
    clear hbox
    by_cases hlt : i < rs.length
    · obtain ⟨⟨f0, f1, f2, f3, f4⟩, hrd⟩ : ∃ r, rd_T45 rs (i : Int) = r := ⟨_, rfl⟩
      have hdr := fill_Gaps.drop rs i hlt
      rw [hrd] at hdr
      have hC : Kd.C k45 wr A rs.length rs := by obtain ⟨L, ps, _, _, _, h4⟩ := HL.out; exact Kd.C_below HR0.out h4
      obtain ⟨ad, eA, x0, x1, x2, x3, x4⟩ := at_T45 hC (i : Int) (by omega) (by omega)
      rw [hrd] at x0 x1 x2 x3 x4
      simp only [Int.toNat_natCast] at x0 x1 x2 x3 x4
      have HA := Lib.hid (show A = some ad from eA)
      have HDR := Lib.hid (And.intro hdr hrd)
      clear hdr hrd hC
      subst eA
      by_cases cA : f0 ≤ b
      · have dA : decide (f0 ≤ b) = true := decide_eq_true cA
        have HBW : Hid (Below w.heap.size w (wr.alloc (.cells #[.int .i64 f0, .int .i64 f1, .int .i64 f2, .int .i64 f3, .int .u8 f4] 45))) := by obtain ⟨L, ps, _, _, _, h4⟩ := HL.out; exact h4.alloc h4.size _
        go_wp2
        go_ret2
        refine ⟨HBW.out, ?_⟩
        obtain ⟨L, ps, h1, _⟩ := HL.out
        rw [HDR.out.1, fill_Gaps.lay, if_pos (.inl cA)] at h1
        rw [← h1]; rfl
      · have dA : decide (f0 ≤ b) = false := decide_eq_false cA
        have hbxa : (wr.alloc (.cells #[.int .i64 f0, .int .i64 f1, .int .i64 f2, .int .i64 f3, .int .u8 f4] 45)).heap[w.heap.size]? = _ := (((Below.refl wr.heap.size wr).alloc (Nat.le_refl _) (.cells #[.int .i64 f0, .int .i64 f1, .int .i64 f2, .int .i64 f3, .int .u8 f4] 45)).block _ (Array.getElem?_eq_some_iff.1 HBX.out).1).trans HBX.out
        have e3a : (wr.alloc (.cells #[.int .i64 f0, .int .i64 f1, .int .i64 f2, .int .i64 f3, .int .u8 f4] 45)).cell? ⟨w.heap.size, 3, none⟩ = some (.int .i64 n) := by simp [World.cell?, hbxa]
        clear hbxa
        by_cases cB : (n : Int) ≤ f0
        · have dB : decide ((n : Int) ≤ f0) = true := decide_eq_true cB
          have HBW : Hid (Below w.heap.size w (wr.alloc (.cells #[.int .i64 f0, .int .i64 f1, .int .i64 f2, .int .i64 f3, .int .u8 f4] 45))) := by obtain ⟨L, ps, _, _, _, h4⟩ := HL.out; exact h4.alloc h4.size _
          go_wp2
          go_ret2
          refine ⟨HBW.out, ?_⟩
          obtain ⟨L, ps, h1, _⟩ := HL.out
          rw [HDR.out.1, fill_Gaps.lay, if_pos (.inr cB)] at h1
          rw [← h1]; rfl
        · have dB : decide ((n : Int) ≤ f0) = false := decide_eq_false cB
          obtain ⟨p, rfl⟩ : ∃ p : Nat, f0 = p := ⟨f0.toNat, by omega⟩
          have hpn : p < n := by omega
          obtain ⟨gd, hgd⟩ : ∃ gd, fill_Gaps.good ⟨p, f1, f2, f3, f4⟩ = gd := ⟨_, rfl⟩
          have HG := Lib.hid (show vee_Good.f p f1 f2 f3 f4 = some gd from hgd ▸ fill_Gaps.good_f ⟨p, f1, f2, f3, f4⟩)
          have HGD := Lib.hid hgd
          have HNO := Lib.hid (show ¬ ((p : Int) ≤ b ∨ (n : Int) ≤ p) from fun h => by omega)
          clear hgd
          obtain ⟨L, ps, hl1, hl2, hl3, hl4⟩ := HL.out
          rw [HDR.out.1, fill_Gaps.lay, if_neg HNO.out] at hl1
          have HL1 := Lib.hid hl1
          have HL2 := Lib.hid (And.intro hl2 (And.intro hl3 hl4))
          have HCL : Hid (∀ w1, Below (wr.alloc (.cells #[.int .i64 p, .int .i64 f1, .int .i64 f2, .int .i64 f3, .int .u8 f4] 45)).heap.size (wr.alloc (.cells #[.int .i64 p, .int .i64 f1, .int .i64 f2, .int .i64 f3, .int .u8 f4] 45)) w1 → w1.cell? ⟨wr.heap.size, 0, none⟩ = some (.int .i64 p) ∧ w1.cell? ⟨wr.heap.size, 1, none⟩ = some (.int .i64 f1) ∧ w1.cell? ⟨wr.heap.size, 2, none⟩ = some (.int .i64 f2) ∧ w1.cell? ⟨wr.heap.size, 3, none⟩ = some (.int .i64 f3) ∧ w1.cell? ⟨w.heap.size + 1, p, none⟩ = some (fill_Gaps.pv (ps p)) ∧ w1.frozen? ⟨w.heap.size + 1, p, none⟩ = false) := fun w1 hB => by
            have hn : w1.heap[wr.heap.size]? = some (.cells #[.int .i64 p, .int .i64 f1, .int .i64 f2, .int .i64 f3, .int .u8 f4] 45) := (hB.block _ (by simp)).trans (heap_alloc_new wr _)
            have hP := (hl2.below ((Below.refl _ _).alloc (Nat.le_refl _) (.cells #[.int .i64 p, .int .i64 f1, .int .i64 f2, .int .i64 f3, .int .u8 f4] 45))).below hB
            exact ⟨by simp [World.cell?, hn], by simp [World.cell?, hn], by simp [World.cell?, hn], by simp [World.cell?, hn], hP.cell hpn, hP.frozen p⟩
          have HDN : Hid (∀ w1, Below (wr.alloc (.cells #[.int .i64 p, .int .i64 f1, .int .i64 f2, .int .i64 f3, .int .u8 f4] 45)).heap.size (wr.alloc (.cells #[.int .i64 p, .int .i64 f1, .int .i64 f2, .int .i64 f3, .int .u8 f4] 45)) w1 → Below w.heap.size w w1 ∧ w1.heap[w.heap.size]? = some (.cells #[.string m, .int .i64 st, .int .i64 sp, .int .i64 n, .int .i64 mu, .int .i64 tu, .slice (some ad) rs.length c] 31) ∧ fill_Gaps.PL w1 (w.heap.size + 1) n L ps ∧ fill_Gaps.rb w1 wr.heap.size ⟨p, f1, f2, f3, f4⟩) := fun w1 hB => by
            have hA := (Below.refl wr.heap.size wr).alloc (Nat.le_refl _) (.cells #[.int .i64 p, .int .i64 f1, .int .i64 f2, .int .i64 f3, .int .u8 f4] 45)
            have hB2 := hA.trans (hB.mono hA.size)
            exact ⟨hl4.trans (hB2.mono hl4.size), (hB2.block _ (Array.getElem?_eq_some_iff.1 hl3).1).trans hl3, hl2.below hB2, (hB.block _ (by simp)).trans (heap_alloc_new wr _)⟩
          clear hl1 hl2 hl3 hl4 HL
          cases gd with
          | false =>
            go_wp2_with (go_at_call 39; refine (vee_Good.calls _ _ _ _ _ _ _ HG.out).mono ?_; rintro e w1 ⟨rfl, hB⟩; obtain ⟨k0, k1, k2, k3, kB, kf⟩ := HCL.out w1 hB; have HBG := Lib.hid hB; clear hB)
            go_roundw
            case rel =>
              obtain ⟨u1, u2, u3, u4⟩ := HDN.out _ HBG.out
              exact ⟨i + 1, p, rfl, by go_num, by omega, by omega, ⟨L, ps, by have := HL1.out; rw [HGD.out] at this; simpa using this, u3, u2, u1⟩⟩
            case measure => simp [intOf]; omega
          | true =>
            have hl1' : (if (fill_Gaps.nr f1 && (fill_Gaps.nr f2 && fill_Gaps.nr f3)) = true then fill_Gaps.lay n (rs.drop (i + 1)) p (fun s => if (s : Int) = p then some ⟨p, f1, f2, f3, f4⟩ else L s) else none) = R := by have := HL1.out; rw [HGD.out] at this; simpa using this
            have HL3 := Lib.hid hl1'
            clear hl1' HL1
            obtain ⟨n1, hn1⟩ : ∃ n1, fill_Gaps.nr f1 = n1 := ⟨_, rfl⟩
            obtain ⟨n2, hn2⟩ : ∃ n2, fill_Gaps.nr f2 = n2 := ⟨_, rfl⟩
            obtain ⟨n3, hn3⟩ : ∃ n3, fill_Gaps.nr f3 = n3 := ⟨_, rfl⟩
            have HN1 := Lib.hid (show ∀ w, Calls Try.prog 25 #[.int .i64 f1] w fun e w' => e = .returned (.bool n1) ∧ ∃ q, w' = w.drewN q from fun w => hn1 ▸ fill_Gaps.near_c f1 w)
            have HN2 := Lib.hid (show ∀ w, Calls Try.prog 25 #[.int .i64 f2] w fun e w' => e = .returned (.bool n2) ∧ ∃ q, w' = w.drewN q from fun w => hn2 ▸ fill_Gaps.near_c f2 w)
            have HN3 := Lib.hid (show ∀ w, Calls Try.prog 25 #[.int .i64 f3] w fun e w' => e = .returned (.bool n3) ∧ ∃ q, w' = w.drewN q from fun w => hn3 ▸ fill_Gaps.near_c f3 w)
            have HNN := Lib.hid (And.intro hn1 (And.intro hn2 hn3))
            clear hn1 hn2 hn3
            rcases n1 with _ | _
            · go_wp2_with (first | (go_at_call 39; refine (vee_Good.calls _ _ _ _ _ _ _ HG.out).mono ?_; rintro e w1 ⟨rfl, hB⟩; obtain ⟨k0, k1, k2, k3, kB, kf⟩ := HCL.out w1 hB; have HBG := Lib.hid hB; clear hB) | (go_at_call 25; refine (HN1.out _).mono ?_; rintro e w2 ⟨rfl, q1, rfl⟩))
              go_ret2
              refine ⟨(HDN.out _ (fill_Gaps.drs1 HBG.out _)).1, ?_⟩
              have hR := HL3.out
              rw [HNN.out.1] at hR
              rw [← hR]; rfl
            · rcases n2 with _ | _
              · go_wp2_with (first | (go_at_call 39; refine (vee_Good.calls _ _ _ _ _ _ _ HG.out).mono ?_; rintro e w1 ⟨rfl, hB⟩; obtain ⟨k0, k1, k2, k3, kB, kf⟩ := HCL.out w1 hB; have HBG := Lib.hid hB; clear hB) | (go_at_call 25; refine (HN1.out _).mono ?_; rintro e w2 ⟨rfl, q1, rfl⟩) | (go_at_call 25; refine (HN2.out _).mono ?_; rintro e w3 ⟨rfl, q2, rfl⟩))
                go_ret2
                refine ⟨(HDN.out _ (fill_Gaps.drs1 HBG.out _)).1, ?_⟩
                have hR := HL3.out
                rw [HNN.out.1, HNN.out.2.1] at hR
                rw [← hR]; rfl
              · rcases n3 with _ | _
                · go_wp2_with (first | (go_at_call 39; refine (vee_Good.calls _ _ _ _ _ _ _ HG.out).mono ?_; rintro e w1 ⟨rfl, hB⟩; obtain ⟨k0, k1, k2, k3, kB, kf⟩ := HCL.out w1 hB; have HBG := Lib.hid hB; clear hB) | (go_at_call 25; refine (HN1.out _).mono ?_; rintro e w2 ⟨rfl, q1, rfl⟩) | (go_at_call 25; refine (HN2.out _).mono ?_; rintro e w3 ⟨rfl, q2, rfl⟩) | (go_at_call 25; refine (HN3.out _).mono ?_; rintro e w4 ⟨rfl, q3, rfl⟩))
                  go_ret2
                  refine ⟨(HDN.out _ (fill_Gaps.drs1 HBG.out _)).1, ?_⟩
                  have hR := HL3.out
                  rw [HNN.out.1, HNN.out.2.1, HNN.out.2.2] at hR
                  rw [← hR]; rfl
                · go_wp2_with (first | (go_at_call 39; refine (vee_Good.calls _ _ _ _ _ _ _ HG.out).mono ?_; rintro e w1 ⟨rfl, hB⟩; obtain ⟨k0, k1, k2, k3, kB, kf⟩ := HCL.out w1 hB; have HBG := Lib.hid hB; clear hB) | (go_at_call 25; refine (HN1.out _).mono ?_; rintro e w2 ⟨rfl, q1, rfl⟩) | (go_at_call 25; refine (HN2.out _).mono ?_; rintro e w3 ⟨rfl, q2, rfl⟩) | (go_at_call 25; refine (HN3.out _).mono ?_; rintro e w4 ⟨rfl, q3, rfl⟩))
                  go_roundw
                  case rel =>
                    obtain ⟨u1, u2, u3, u4⟩ := HDN.out _ (fill_Gaps.drs1 HBG.out (q1 + q2 + q3))
                    have hR := HL3.out
                    rw [HNN.out.1, HNN.out.2.1, HNN.out.2.2] at hR
                    exact ⟨i + 1, p, rfl, by go_num, by omega, by omega, ⟨_, _, by simpa using hR, u3.set' u4, ((Below.heap_setCell _ _ _ _ (by simp)).trans u2), u1.setCell (by simp) _⟩⟩
                  case measure => simp [intOf]; omega
    · have hie : i = rs.length := by omega
      subst hie
      go_wp2
      go_ret2
      obtain ⟨L, ps, h1, h2, h3, h4⟩ := HL.out
      refine ⟨h4, ?_⟩
      rw [List.drop_length, fill_Gaps.lay] at h1
      rw [← h1]
      exact ⟨_, ps, rfl, h2⟩
/-- the outer loop's state: out so far, the slot -/
def fill_Gaps.HR (L : Nat → Option S45) (n : Nat) (w : World) (vo vs : Value) (wr : World) : Prop := ∃ (s : Nat) (outs : List S43) (v : Value), v = vo ∧ vs = .int .i64 s ∧ s ≤ n + 1 ∧ Hid (outs.length ≤ s ∧ Kd.R k43 43 wr w.heap.size (fun _ => True) v outs ∧ outs ++ fill_Gaps.hs L (n - s) s none = fill_Gaps.hs L n 0 none ∧ Below w.heap.size w wr)
/-- the inner loop's: a run is open since s -/
def fill_Gaps.HI (L : Nat → Option S45) (n : Nat) (wr : World) (outs : List S43) (s : Nat) (vs : Value) (wi : World) : Prop := ∃ s2 : Nat, vs = .int .i64 s2 ∧ s ≤ s2 ∧ s2 ≤ n ∧ Hid (wi = wr ∧ outs ++ fill_Gaps.hs L (n - s2) s2 (some s) = fill_Gaps.hs L n 0 none)
set_option maxHeartbeats 16000000 in
set_option maxRecDepth 100000 in
theorem fill_Gaps.holes (B n : Nat) (L : Nat → Option S45) (ps : Nat → Option Nat) (w : World) (hP : fill_Gaps.PL w B n L ps) (h2 : n ≤ 40000) :
    Calls Try.prog 32 #[.slice (some ⟨B, 0, none⟩) n n] w fun e w' => ∃ v : Value, e = .returned v ∧ Kd.R k43 43 w' w.heap.size (fun _ => True) v (fill_Gaps.hs L n 0 none) ∧ Below w.heap.size w w' := by
  have HP := Lib.hid hP
  clear hP
  go_enter Try.func32, Try.ntmps32
  go_wp2
  go_loopw [3, 4] (fun vo vs wr => fill_Gaps.HR L n w vo vs wr) (fun _ vs _ => n + 1 - (intOf vs).toNat)
  case atStart => exact ⟨0, [], _, rfl, rfl, by omega, ⟨Nat.le_refl _, Kd.R_nil _ _ _ _ _, rfl, Below.refl _ _⟩⟩
  case round =>
    obtain ⟨s, outs, vo, rfl, rfl, hs, HS⟩ := hrel
    by_cases hlt : s < n
    · have e1 : wr.cell? ⟨B, s, none⟩ = some (fill_Gaps.pv (ps s)) := (HP.out.below HS.out.2.2.2).cell hlt
      have hd : n - s = n - (s + 1) + 1 := by omega
      have HD := Lib.hid hd
      clear hd
      rcases hp : ps s with _ | b
      · have HL := Lib.hid (HP.out.no s hlt hp)
        rw [hp] at e1
        simp only [fill_Gaps.pv] at e1
        clear hp
        go_wp2
        go_loopw [4] (fun vs wi => fill_Gaps.HI L n wr outs s vs wi) (fun vs _ => n - (intOf vs).toNat)
        case atStart =>
          refine ⟨s, rfl, by omega, by omega, ⟨rfl, ?_⟩⟩
          have := HS.out.2.2.1
          rw [HD.out, fill_Gaps.hs, HL.out] at this
          rw [HD.out, fill_Gaps.hs, HL.out]
          exact this
        case round =>
          clear e1
          obtain ⟨s2, rfl, hs2, hs3, HI⟩ := hrel
          have hww := HI.out.1
          subst hww
          by_cases hlt2 : s2 < n
          · have e2 : wr.cell? ⟨B, s2, none⟩ = some (fill_Gaps.pv (ps s2)) := (HP.out.below HS.out.2.2.2).cell hlt2
            have hd2 : n - s2 = n - (s2 + 1) + 1 := by omega
            have HD2 := Lib.hid hd2
            clear hd2
            rcases hp : ps s2 with _ | b
            · have HL2 := Lib.hid (HP.out.no s2 hlt2 hp)
              rw [hp] at e2
              simp only [fill_Gaps.pv] at e2
              clear hp
              go_wp2
              go_roundw
              case rel =>
                refine ⟨s2 + 1, by go_num, by omega, by omega, ⟨rfl, ?_⟩⟩
                have := HI.out.2
                rw [HD2.out, fill_Gaps.hs, HL2.out] at this
                exact this
              case measure => simp [intOf]; omega
            · have HX := Lib.hid (show fill_Gaps.hs L (n - s2) s2 (some s) = (⟨s, s2⟩ : S43) :: fill_Gaps.hs L (n - (s2 + 1)) (s2 + 1) none from by
                obtain ⟨r, hr, _⟩ := HP.out.yes s2 b hlt2 hp
                rw [HD2.out, fill_Gaps.hs, hr]; rfl)
              rw [hp] at e2
              simp only [fill_Gaps.pv] at e2
              clear hp
              go_wp2_with ((with_reducible refine gate_builtin (b := .append) (xs := #[.tmp 31, .tmp 35]) rfl ?_); at_builtin; refine Kd.R_append k43 (w0 := w) w.heap.size rfl (.tmp 31) (.tmp 35) 32 43 (.agg #[(.int .i64 0), (.int .i64 0)]) 16 rfl Try.underlying32 info43 rfl (by decide) (by decide) vo outs (⟨s, s2⟩ : S43) [.int .i64 s, .int .i64 s2] (fun _ => True) (fun _ => False) rfl rfl (k43_mkM _ _ _ (⟨s, s2⟩ : S43)) (fun _ hk => hk.elim) (fun _ _ => trivial) HS.out.2.1 HS.out.2.2.2 HS.out.2.2.2.size ?aL ?_; (case aL => have := HS.out.1; omega); intro v1 w1 ho hb hg hat; have HO1 := Lib.hid (And.intro ho hb); clear ho hb hg hat)
              go_roundw
              case rel => exact ⟨s2 + 1, outs ++ [⟨s, s2⟩], _, rfl, by go_num, by omega, ⟨by have := HS.out.1; simp; omega, HO1.out.1, by rw [List.append_assoc, List.singleton_append, ← HX.out]; exact HI.out.2, HO1.out.2⟩⟩
              case measure => simp [intOf]; omega

          · have HX := Lib.hid (show fill_Gaps.hs L (n - s2) s2 (some s) = (⟨s, s2⟩ : S43) :: fill_Gaps.hs L (n - (s2 + 1)) (s2 + 1) none from by
              rw [show n - s2 = 0 by omega, show n - (s2 + 1) = 0 by omega]; rfl)
            go_wp2_with ((with_reducible refine gate_builtin (b := .append) (xs := #[.tmp 31, .tmp 35]) rfl ?_); at_builtin; refine Kd.R_append k43 (w0 := w) w.heap.size rfl (.tmp 31) (.tmp 35) 32 43 (.agg #[(.int .i64 0), (.int .i64 0)]) 16 rfl Try.underlying32 info43 rfl (by decide) (by decide) vo outs (⟨s, s2⟩ : S43) [.int .i64 s, .int .i64 s2] (fun _ => True) (fun _ => False) rfl rfl (k43_mkM _ _ _ (⟨s, s2⟩ : S43)) (fun _ hk => hk.elim) (fun _ _ => trivial) HS.out.2.1 HS.out.2.2.2 HS.out.2.2.2.size ?aL ?_; (case aL => have := HS.out.1; omega); intro v1 w1 ho hb hg hat; have HO1 := Lib.hid (And.intro ho hb); clear ho hb hg hat)
            go_roundw
            case rel => exact ⟨s2 + 1, outs ++ [⟨s, s2⟩], _, rfl, by go_num, by omega, ⟨by have := HS.out.1; simp; omega, HO1.out.1, by rw [List.append_assoc, List.singleton_append, ← HX.out]; exact HI.out.2, HO1.out.2⟩⟩
            case measure => simp [intOf]; omega

      · have HN := Lib.hid (show fill_Gaps.hs L (n - s) s none = fill_Gaps.hs L (n - (s + 1)) (s + 1) none from by
          obtain ⟨r, hr, _⟩ := HP.out.yes s b hlt hp
          rw [HD.out, fill_Gaps.hs, hr]; rfl)
        rw [hp] at e1
        simp only [fill_Gaps.pv] at e1
        clear hp
        go_wp2
        go_roundw
        case rel => exact ⟨s + 1, outs, _, rfl, by go_num, by omega, ⟨by have := HS.out.1; omega, HS.out.2.1, by rw [← HN.out]; exact HS.out.2.2.1, HS.out.2.2.2⟩⟩
        case measure => simp [intOf]; omega
    · go_wp2
      go_ret
      refine ⟨vo, rfl, ?_, HS.out.2.2.2⟩
      have h3 := HS.out.2.2.1
      rw [show n - s = 0 by omega, fill_Gaps.hs, List.append_nil] at h3
      rw [← h3]
      exact HS.out.2.1
theorem fill_Gaps.calls (a0_0 : ByteArray) (a0_1 : Int) (a0_2 : Int) (a0_3 : Int) (a0_4 : Int) (a0_5 : Int) (A0_6 : Option Addr) (c0_6 : Nat) (l0_6 : List (S45)) (r1 : List (S43)) (r2 : Int) (w : World) (hr0_6 : Kd.C k45 w A0_6 l0_6.length l0_6) (hc0_6 : l0_6.length ≤ c0_6) (h : fill_Gaps.f a0_0 a0_1 a0_2 a0_3 a0_4 a0_5 l0_6 = some (r1, r2)) :
  Calls Try.prog 15 #[.agg #[.string a0_0, .int .i64 a0_1, .int .i64 a0_2, .int .i64 a0_3, .int .i64 a0_4, .int .i64 a0_5, .slice A0_6 l0_6.length c0_6]] w fun e w' => ∃ v0_ : Value, e = .returned (.tuple #[v0_, .int .i64 r2]) ∧ Kd.R k43 43 w' w.heap.size (fun _ => True) v0_ r1 ∧ Below w.heap.size w w' := by
  by_cases c : a0_3 < 1 ∨ 40000 < a0_3
  · have hS := fun w => fill_Gaps.slots_no a0_0 a0_1 a0_2 a0_3 a0_4 a0_5 A0_6 c0_6 l0_6 w c
    unfold fill_Gaps.f fill_Gaps.slots at h
    rw [if_pos c] at h
    simp only [Option.some.injEq, Prod.mk.injEq] at h
    obtain ⟨rfl, rfl⟩ := h
    have HS := Lib.hid hS
    have HB0 := Lib.hid ((Below.refl w.heap.size w).alloc (Nat.le_refl _) (.cells #[.string a0_0, .int .i64 a0_1, .int .i64 a0_2, .int .i64 a0_3, .int .i64 a0_4, .int .i64 a0_5, .slice A0_6 l0_6.length c0_6] 31))
    clear hS c hr0_6
    go_enter Try.func15, Try.ntmps15
    go_wp2_with (go_at_call 31; refine (HS.out _).mono ?_; rintro e w1 ⟨rfl, hB⟩; have HB1 := Lib.hid (HB0.out.trans (hB.mono HB0.out.size)); clear hB)
    go_ret2
    exact ⟨_, rfl, Kd.R_nil _ _ _ _ _, HB1.out⟩
  · obtain ⟨n, rfl⟩ : ∃ n : Nat, a0_3 = n := ⟨a0_3.toNat, by omega⟩
    have HB0 := Lib.hid ((Below.refl w.heap.size w).alloc (Nat.le_refl _) (.cells #[.string a0_0, .int .i64 a0_1, .int .i64 a0_2, .int .i64 (n : Int), .int .i64 a0_4, .int .i64 a0_5, .slice A0_6 l0_6.length c0_6] 31))
    have HS := Lib.hid (fill_Gaps.slots_yes a0_0 a0_1 a0_2 a0_4 a0_5 n A0_6 c0_6 l0_6 (w.alloc (.cells #[.string a0_0, .int .i64 a0_1, .int .i64 a0_2, .int .i64 (n : Int), .int .i64 a0_4, .int .i64 a0_5, .slice A0_6 l0_6.length c0_6] 31)) (Kd.C_below hr0_6 HB0.out) (by omega) (by omega))
    unfold fill_Gaps.f fill_Gaps.slots at h
    rw [if_neg c] at h
    have hn : n ≤ 40000 := by omega
    clear c hr0_6
    cases hl : fill_Gaps.lay n l0_6 (-1) (fun _ => none) with
    | none =>
      rw [hl] at h HS
      simp only [Option.some.injEq, Prod.mk.injEq] at h
      obtain ⟨rfl, rfl⟩ := h
      clear hl
      go_enter Try.func15, Try.ntmps15
      go_wp2_with (go_at_call 31; refine HS.out.mono ?_; rintro e w1 ⟨hB, rfl⟩; have HB1 := Lib.hid (HB0.out.trans (hB.mono HB0.out.size)); clear hB)
      go_ret2
      exact ⟨_, rfl, Kd.R_nil _ _ _ _ _, HB1.out⟩
    | some L =>
      rw [hl] at h HS
      simp only [Option.some.injEq, Prod.mk.injEq, Int.toNat_natCast] at h
      obtain ⟨rfl, rfl⟩ := h
      clear hl
      go_enter Try.func15, Try.ntmps15
      go_wp2_with (first | (go_at_call 31; refine HS.out.mono ?_; rintro e w1 ⟨hB, B, ps, rfl, hP⟩; have HP := Lib.hid hP; have HB1 := Lib.hid (HB0.out.trans (hB.mono HB0.out.size)); clear hB hP) | (go_at_call 32; refine (fill_Gaps.holes B n L ps _ HP.out hn).mono ?_; rintro e w2 ⟨v, rfl, hR, hB⟩; have HR := Lib.hid hR; have HB2 := Lib.hid (HB1.out.trans (hB.mono HB1.out.size)); clear hR hB))
      go_ret2
      exact ⟨_, rfl, Kd.R_lower HR.out HB1.out.size, HB2.out⟩

/-! ### pylonlaw11_copyFile: function 16 -/
def pylonlaw11_copyFile.f (a0_0 : ByteArray) (a0_1 : Int) (a0_2 : Int) (a0_3 : Int) (a0_4 : Int) (a0_5 : Int) (l0_6 : List (S45)) : Option (ByteArray × Int × Int × Int × Int × Int × (List (S45))) := (some (([] : List (S45)) : List (S45))).bind fun y204 => (if y204.length + l0_6.length < 3518437208883 then (some (a0_0, a0_1, a0_2, a0_3, a0_4, a0_5, (y204 ++ l0_6))) else (none))
set_option maxHeartbeats 8000000 in
set_option maxRecDepth 100000 in
theorem pylonlaw11_copyFile.calls (a0_0 : ByteArray) (a0_1 : Int) (a0_2 : Int) (a0_3 : Int) (a0_4 : Int) (a0_5 : Int) (A0_6 : Option Addr) (c0_6 : Nat) (l0_6 : List (S45)) (r1 : ByteArray) (r2 : Int) (r3 : Int) (r4 : Int) (r5 : Int) (r6 : Int) (r7 : List (S45)) (w : World) (hr0_6 : Kd.C k45 w A0_6 l0_6.length l0_6) (hc0_6 : l0_6.length ≤ c0_6) (h : pylonlaw11_copyFile.f a0_0 a0_1 a0_2 a0_3 a0_4 a0_5 l0_6 = some (r1, r2, r3, r4, r5, r6, r7)) :
  Calls Try.prog 16 #[.agg #[.string a0_0, .int .i64 a0_1, .int .i64 a0_2, .int .i64 a0_3, .int .i64 a0_4, .int .i64 a0_5, .slice A0_6 l0_6.length c0_6]] w fun e w' => ∃ v6_ : Value, e = .returned (.agg #[.string r1, .int .i64 r2, .int .i64 r3, .int .i64 r4, .int .i64 r5, .int .i64 r6, v6_]) ∧ Kd.R k45 45 w' w.heap.size (fun _ => True) v6_ r7 ∧ Below w.heap.size w w' := by
 have hu31 := Try.underlying31
 have HR0_6 := AX hr0_6
 have HC0_6 := AX hc0_6
 clear hr0_6 hc0_6
 have HB := AX (Below.refl w.heap.size w)
 have H : ((some (([] : List (S45)) : List (S45))).bind fun y204 => (if y204.length + l0_6.length < 3518437208883 then (some (a0_0, a0_1, a0_2, a0_3, a0_4, a0_5, (y204 ++ l0_6))) else (none))) = some (r1, r2, r3, r4, r5, r6, r7) := h
 clear h
 obtain ⟨y204, hy204⟩ : ∃ y_ : List (S45), y_ = (([] : List (S45))) := ⟨_, rfl⟩
 replace H : (if y204.length + l0_6.length < 3518437208883 then (some (a0_0, a0_1, a0_2, a0_3, a0_4, a0_5, (y204 ++ l0_6))) else (none)) = some (r1, r2, r3, r4, r5, r6, r7) := by first | (rw [hy204]; with_reducible exact H) | (have H2_ := (Option.bind_some _ _).symm.trans H; rw [hy204]; with_reducible exact H2_) | (have H2_ := (Option.bind_some _ _).symm.trans H; with_reducible exact H2_) | with_reducible exact H | (rw [hy204]; exact H) | exact H
 have Ny204 := AX hy204
 clear hy204
 by_cases c2 : y204.length + l0_6.length < 3518437208883
 ·rw [if_pos c2] at H
  have LMc2 := AX c2
  clear c2
  obtain ⟨y207, hy207⟩ : ∃ y_ : List (S45), y_ = (y204 ++ l0_6) := ⟨_, rfl⟩
  replace H : (some (a0_0, a0_1, a0_2, a0_3, a0_4, a0_5, y207)) = some (r1, r2, r3, r4, r5, r6, r7) := by first | (rw [hy207]; with_reducible exact H) | (have H2_ := (Option.bind_some _ _).symm.trans H; rw [hy207]; with_reducible exact H2_) | (have H2_ := (Option.bind_some _ _).symm.trans H; with_reducible exact H2_) | with_reducible exact H | (rw [hy207]; exact H) | exact H
  have Ny207 := AX hy207
  clear hy207
  simp only [Option.some.injEq, Prod.mk.injEq] at H
  obtain ⟨rfl, rfl, rfl, rfl, rfl, rfl, rfl⟩ := H
  go_enter Try.func16, Try.ntmps16
  go_wp2_with (first | ((with_reducible refine gate_dst (N := 1) rfl ?_); refine bx 1 #[.string a0_0, .int .i64 a0_1, .int .i64 a0_2, .int .i64 a0_3, .int .i64 a0_4, .int .i64 a0_5, .slice A0_6 l0_6.length c0_6] 31 ?_; intro gb202 hg w3 hbox hb; have BK202 := AX (hbox); have GW202 := gwl (w := w) hg bw; have GE202 := GW202; replace HB := AX (below_step bw hb); clear hb hbox hg) | ((with_reducible refine gate_dst (N := 2) rfl ?_); refine bx 2 #[.string (⟨#[]⟩ : ByteArray), .int .i64 0, .int .i64 0, .int .i64 0, .int .i64 0, .int .i64 0, .slice none 0 0] 31 ?_; intro gb203 hg w4 hbox hb; have BK203 := AX (hbox); have GW203 := gwl (w := w) hg bw; have GE203 := GW203; have NB202_203 := nbl hg (bkn BK202); have NB203_202 := nbg hg (bkn BK202); replace BK202 := AX (bkb BK202 hb); replace HB := AX (below_step bw hb); clear hb hbox hg) | ((with_reducible refine gate_dst (N := 3) rfl ?_); refine Kd.R_lit k45 _ 45 ?hg (N := 3) ?hd (xs := ([] : List (S45))) (inner := []) (ok := fun _ => True) (okp := fun _ => True) ?hr ?hp (fun _ hk => hk) trivial (Below.refl _ _) (Nat.le_refl _) (by simp) ?_; (case hd => rfl); (case hg => rfl); (case hr => first | (go_simp; done) | (go_simp; rfl)); (case hp => exact (Reps.none _ _)); intro v205 w5 ho6 hb hg_ hnew_; clear hg_ hnew_; (first | rw [← Ny204.out] at ho6 | (simp only [Int.reduceToNat] at ho6; rw [← Ny204.out] at ho6)); have HO206 := AX (Kd.R_lower ho6 (below_size bw)); replace BK202 := AX (bkb BK202 hb); replace BK203 := AX (blk_below (g := gb203) (o := .cells #[.string (⟨#[]⟩ : ByteArray), .int .i64 0, .int .i64 0, .int .i64 0, .int .i64 0, .int .i64 0, .slice none 0 0] 31 (0, 0)) (bkn BK203) hb); replace HB := AX (below_step bw hb); clear hb ho6; have hnb7 := NB202_203.out; have hnc7 := NB203_202.out; obtain ⟨hcz8_0, hcz8_1, hcz8_2, hcz8_3, hcz8_4, hcz8_5, hcz8_6⟩ := blkC7 (w := w5) BK202.out; obtain ⟨hfz8_0, hfz8_1, hfz8_2, hfz8_3, hfz8_4, hfz8_5, hfz8_6⟩ := blkF7 BK202.out) | ((with_reducible refine gate_builtin (b := .append) (xs := #[.tmp 3, .tmp 5]) rfl ?_); at_builtin; refine Kd.R_append_rows k45 (w0 := w) w.heap.size rfl (.tmp 3) (.tmp 5) 29 45 (.agg #[(.int .i64 0), (.int .i64 0), (.int .i64 0), (.int .i64 0), (.int .u8 0)]) 40 rfl Try.underlying29 info45 rfl (by decide) (by omega) v205 y204 l0_6 _ _ _ (fun _ => True) (fun _ => False) rfl rfl ?aO ?aR (fun _ _ h => h) (fun _ h => h.elim) ?aF ?aB ?aS ?aL ?_; (case aR => repeat (first | exact (Kd.C_below HR0_6.out HB.out) | (with_reducible refine Kd.C_alloc ?_ _) | (with_reducible refine Kd.C_drewN ?_ _) | (with_reducible refine Kd.C_drew ?_))); (case aB => exact bw); (case aF => exact (fun _ _ => trivial)); (case aO => exact (kr HO206)); (case aS => exact (below_size bw)); (case aL => have := LMc2.out; omega); intro v208 w9 ho hb hg hat; rw [← Ny207.out] at ho; have n0_ := AX (blk_grown (g := gb202) (o := .cells #[.string a0_0, .int .i64 a0_1, .int .i64 a0_2, .int .i64 a0_3, .int .i64 a0_4, .int .i64 a0_5, .slice A0_6 l0_6.length c0_6] 31 (0, 0)) (bkn BK202) hg (Kd.R_ne HO206.out BK202.out (by decide))); have n1_ := AX (blk_grown (g := gb203) (o := .cells #[.string (⟨#[]⟩ : ByteArray), .int .i64 0, .int .i64 0, .int .i64 0, .int .i64 0, .int .i64 0, .slice none 0 0] 31 (0, 0)) (bkn BK203) hg (Kd.R_ne HO206.out BK203.out (by decide))); have n2_ := AX (hb); have n3_ := AX (ho); clear BK202; clear BK203; clear HB; clear HO206; have BK202 := n0_; have BK203 := n1_; have HB := n2_; have HO209 := n3_; clear n0_ n1_ n2_ n3_; clear ho hb hg hat; obtain ⟨Ao10, co10, eo10⟩ := Kd.R_slice HO209.out; subst eo10; obtain ⟨hcz11_0, hcz11_1, hcz11_2, hcz11_3, hcz11_4, hcz11_5, hcz11_6⟩ := blkC7 (w := w9) BK202.out; obtain ⟨hfz11_0, hfz11_1, hfz11_2, hfz11_3, hfz11_4, hfz11_5, hfz11_6⟩ := blkF7 BK202.out; obtain ⟨hcz12_0, hcz12_1, hcz12_2, hcz12_3, hcz12_4, hcz12_5, hcz12_6⟩ := blkC7 (w := w9) BK203.out; obtain ⟨hfz12_0, hfz12_1, hfz12_2, hfz12_3, hfz12_4, hfz12_5, hfz12_6⟩ := blkF7 BK203.out))
  refine bodyPost_ret (results_cell_row rfl _ _ gb203 31 #[.string a0_0, .int .i64 a0_1, .int .i64 a0_2, .int .i64 a0_3, .int .i64 a0_4, .int .i64 a0_5, .slice Ao10 y207.length co10] (0, 0) _ rfl (by (with_reducible repeat first|refine blk_drewN ?_ _|refine blk_drew ?_|refine blk_alloc ?_ _); refine blk_put (cs := #[.string a0_0, .int .i64 a0_1, .int .i64 a0_2, .int .i64 a0_3, .int .i64 a0_4, .int .i64 a0_5, .slice none 0 0]) ?_ 6 _ rfl; (with_reducible repeat first|refine blk_drewN ?_ _|refine blk_drew ?_|refine blk_alloc ?_ _); refine blk_put (cs := #[.string a0_0, .int .i64 a0_1, .int .i64 a0_2, .int .i64 a0_3, .int .i64 a0_4, .int .i64 0, .slice none 0 0]) ?_ 5 _ rfl; (with_reducible repeat first|refine blk_drewN ?_ _|refine blk_drew ?_|refine blk_alloc ?_ _); refine blk_put (cs := #[.string a0_0, .int .i64 a0_1, .int .i64 a0_2, .int .i64 a0_3, .int .i64 0, .int .i64 0, .slice none 0 0]) ?_ 4 _ rfl; (with_reducible repeat first|refine blk_drewN ?_ _|refine blk_drew ?_|refine blk_alloc ?_ _); refine blk_put (cs := #[.string a0_0, .int .i64 a0_1, .int .i64 a0_2, .int .i64 0, .int .i64 0, .int .i64 0, .slice none 0 0]) ?_ 3 _ rfl; (with_reducible repeat first|refine blk_drewN ?_ _|refine blk_drew ?_|refine blk_alloc ?_ _); refine blk_put (cs := #[.string a0_0, .int .i64 a0_1, .int .i64 0, .int .i64 0, .int .i64 0, .int .i64 0, .slice none 0 0]) ?_ 2 _ rfl; (with_reducible repeat first|refine blk_drewN ?_ _|refine blk_drew ?_|refine blk_alloc ?_ _); refine blk_put (cs := #[.string a0_0, .int .i64 0, .int .i64 0, .int .i64 0, .int .i64 0, .int .i64 0, .slice none 0 0]) ?_ 1 _ rfl; (with_reducible repeat first|refine blk_drewN ?_ _|refine blk_drew ?_|refine blk_alloc ?_ _); refine blk_put (cs := #[.string (⟨#[]⟩ : ByteArray), .int .i64 0, .int .i64 0, .int .i64 0, .int .i64 0, .int .i64 0, .slice none 0 0]) ?_ 0 _ rfl; (with_reducible repeat first|refine blk_drewN ?_ _|refine blk_drew ?_|refine blk_alloc ?_ _); refine blk_far ?_ NB203_202.out _; (with_reducible repeat first|refine blk_drewN ?_ _|refine blk_drew ?_|refine blk_alloc ?_ _); exact BK203.out) Try.underlying31 rfl (by kernel_rfl)) rfl ?_
  exact ⟨_, by first | rfl | (simp [errW_none, errW_some] <;> rfl) | (simp [*, errW_none, errW_some] <;> rfl), by (with_reducible repeat (first | apply Kd.R_alloc | apply Kd.R_drewN | apply Kd.R_drew)); exact Kd.R_mono (Kd.R_far (p := ⟨gb203, 6, none⟩) (Kd.R_far (p := ⟨gb203, 5, none⟩) (Kd.R_far (p := ⟨gb203, 4, none⟩) (Kd.R_far (p := ⟨gb203, 3, none⟩) (Kd.R_far (p := ⟨gb203, 2, none⟩) (Kd.R_far (p := ⟨gb203, 1, none⟩) (Kd.R_far (p := ⟨gb203, 0, none⟩) (Kd.R_far (p := ⟨gb202, 6, none⟩) (Kd.R_types (Kd.R_types HO209.out BK202.out (by decide)) BK203.out (by decide)) (fun _ hk => hk.1.2) (.slice Ao10 y207.length co10)) (fun _ hk => hk.2) (.string a0_0)) (fun _ hk => hk.2) (.int .i64 a0_1)) (fun _ hk => hk.2) (.int .i64 a0_2)) (fun _ hk => hk.2) (.int .i64 a0_3)) (fun _ hk => hk.2) (.int .i64 a0_4)) (fun _ hk => hk.2) (.int .i64 a0_5)) (fun _ hk => hk.2) (.slice Ao10 y207.length co10)) (fun _ hk => trivial), bw⟩
 ·rw [if_neg c2] at H
  exact absurd H (by simp)

/-! ### pylonref11_SameSpans: function 17 -/
def pylonref11_SameSpans.l0 : Nat → List (S43) → List (S43) → Int → Int → Option (Bool)
 | 0, _, _, _, _ => none
 | k + 1, x0, x1, x12, x13 => if x13 < x12 then (if 0 ≤ x13 then (if x13 < (x0.length : Int) then (if x13 < (x1.length : Int) then (if (!(((rd_T43 x0 x13).f0) == ((rd_T43 x1 x13).f0)) || (!(((rd_T43 x0 x13).f1) == ((rd_T43 x1 x13).f1)))) = true then (some false) else (pylonref11_SameSpans.l0 k x0 x1 x12 (wrap64 (x13 + 1)))) else (none)) else (none)) else (none)) else (some true)
def pylonref11_SameSpans.f (k : Nat) (l0 : List (S43)) (l1 : List (S43)) : Option (Bool) := if (l0.length : Int) = (l1.length : Int) then (pylonref11_SameSpans.l0 k l0 l1 (l0.length : Int) 0) else (some false)
theorem pylonref11_SameSpans.mono_l : ∀ k, (∀ y0 y1 y2 y3, LeO (pylonref11_SameSpans.l0 k y0 y1 y2 y3) (pylonref11_SameSpans.l0 (k + 1) y0 y1 y2 y3))
 | 0 => fun _ _ _ _ r h => by simp [pylonref11_SameSpans.l0] at h
 | k + 1 => by
  have ih0 := pylonref11_SameSpans.mono_l k
  ·intro y0 y1 y2 y3
   unfold pylonref11_SameSpans.l0
   repeat' first
   | (with_reducible exact ih0 _ _ _ _)
   | (with_reducible exact LeO.refl _)
   | (with_reducible exact LeO.none _)
   | (with_reducible refine LeO.ite ?_ ?_)
   | (with_reducible refine LeO.bind ?_ (fun _ => ?_))
theorem pylonref11_SameSpans.mono : ∀ a0 a1 k, LeO (pylonref11_SameSpans.f k a0 a1) (pylonref11_SameSpans.f (k + 1) a0 a1) := by
 intro a0 a1 k
 have ih0 := pylonref11_SameSpans.mono_l k
 unfold pylonref11_SameSpans.f
 repeat' first
   | (with_reducible exact ih0 _ _ _ _)
   | (with_reducible exact LeO.refl _)
   | (with_reducible exact LeO.none _)
   | (with_reducible refine LeO.ite ?_ ?_)
   | (with_reducible refine LeO.bind ?_ (fun _ => ?_))
set_option maxHeartbeats 8000000 in
set_option maxRecDepth 100000 in
theorem pylonref11_SameSpans.calls (k : Nat) (A0 : Option Addr) (c0 : Nat) (l0 : List (S43)) (A1 : Option Addr) (c1 : Nat) (l1 : List (S43)) (r : Bool) (w : World) (hr0 : Kd.C k43 w A0 l0.length l0) (hc0 : l0.length ≤ c0) (hr1 : Kd.C k43 w A1 l1.length l1) (hc1 : l1.length ≤ c1) (h : pylonref11_SameSpans.f k l0 l1 = some r) :
  Calls Try.prog 17 #[.slice A0 l0.length c0, .slice A1 l1.length c1] w fun e w' => e = .returned (.bool r) ∧ Drawn0 w w' := by
 have hu43 := Try.underlying43
 have HR0 := AX hr0
 have HC0 := AX hc0
 clear hr0 hc0
 have HR1 := AX hr1
 have HC1 := AX hc1
 clear hr1 hc1
 have H : (if (l0.length : Int) = (l1.length : Int) then (pylonref11_SameSpans.l0 k l0 l1 (l0.length : Int) 0) else (some false)) = some r := h
 clear h
 by_cases c3 : (l0.length : Int) = (l1.length : Int)
 ·rw [if_pos c3] at H
  have c3b0 : ((l0.length : Int) == (l1.length : Int)) = true := beq_iff_eq.mpr c3
  have c3b1 : ((l0.length : Int) != (l1.length : Int)) = false := bne_eq_false_iff_eq.mpr c3
  have c3b2 : (l0.length == l1.length) = true := by first | simpa using c3 | (simp at c3 ⊢; omega)
  clear c3
  have H' := AX H
  clear H
  go_enter Try.func17, Try.ntmps17
  go_wp2
  repeat (go_quiet (fail); try go_wp2)
  go_loopg [13] k (fun kq v13 w' => ∃ (x13_1 : Int), v13 = .int .i64 x13_1 ∧ Aside0 (pylonref11_SameSpans.l0 kq l0 l1 (l0.length : Int) x13_1 = some r) ∧ Aside0 (kq ≤ k) ∧ Drawn0 w w')
  case atStart => exact ⟨(0), (by first | rfl | (simp; done) | (simp [*]; done)), H', ⟨Nat.le_refl _⟩, by repeat (first | exact Drawn0.refl _ | apply Drawn0.step)⟩
  case round =>
   clear H'
   try clear c1
   try clear c3b0 c3b1 c3b2
   obtain ⟨x13_1, rfl, HA, HK1, ⟨m1, rfl⟩⟩ := hrel
   cases gk with
   | zero => exact absurd HA.out (by simp [pylonref11_SameSpans.l0])
   | succ k1 =>
    have H := HA.out
    clear HA
    simp only [pylonref11_SameSpans.l0] at H
    by_cases c4 : x13_1 < (l0.length : Int)
    ·rw [if_pos c4] at H
     have c4b0 : decide (x13_1 < (l0.length : Int)) = true := decide_eq_true c4
     clear c4
     by_cases c5 : 0 ≤ x13_1
     ·rw [if_pos c5] at H
      have c5b0 : decide (0 ≤ x13_1) = true := decide_eq_true c5
      clear c5
      by_cases c6 : x13_1 < (l0.length : Int)
      ·rw [if_pos c6] at H
       have c6b0 : decide (x13_1 < (l0.length : Int)) = true := decide_eq_true c6
       clear c6
       by_cases c7 : x13_1 < (l1.length : Int)
       ·rw [if_pos c7] at H
        have c7b0 : decide (x13_1 < (l1.length : Int)) = true := decide_eq_true c7
        clear c7
        by_cases c8 : (!(((rd_T43 l0 x13_1).f0) == ((rd_T43 l1 x13_1).f0)) || (!(((rd_T43 l0 x13_1).f1) == ((rd_T43 l1 x13_1).f1)))) = true
        ·rw [if_pos c8] at H
         have c8b0 : (!(((rd_T43 l0 x13_1).f0) == ((rd_T43 l1 x13_1).f0)) || (!(((rd_T43 l0 x13_1).f1) == ((rd_T43 l1 x13_1).f1)))) = true := c8
         clear c8
         obtain rfl := Option.some.inj H
         have p210 : 0 ≤ (x13_1 : Int) := of_decide_eq_true (by first | (with_reducible assumption) | assumption)
         have q210 : x13_1 < (l0.length : Int) := of_decide_eq_true (by first | (with_reducible assumption) | assumption)
         obtain ⟨ad210, e210, hx210_0, hx210_1⟩ := at_T43 HR0.out x13_1 p210 q210
         cases e210
         replace p210 := eq_true p210
         replace q210 := eq_true q210
         have p211 : 0 ≤ (x13_1 : Int) := of_decide_eq_true (by first | (with_reducible assumption) | assumption)
         have q211 : x13_1 < (l1.length : Int) := of_decide_eq_true (by first | (with_reducible assumption) | assumption)
         obtain ⟨ad211, e211, hx211_0, hx211_1⟩ := at_T43 HR1.out x13_1 p211 q211
         cases e211
         replace p211 := eq_true p211
         replace q211 := eq_true q211
         go_wp2
         repeat (go_quiet (fail); try go_wp2)
         go_ret
         exact ⟨by first | rfl | (simp; done) | (simp [*]; done), by repeat (first | exact Drawn0.refl _ | apply Drawn0.step)⟩
        ·rw [if_neg c8] at H
         have c8b0 : (!(((rd_T43 l0 x13_1).f0) == ((rd_T43 l1 x13_1).f0)) || (!(((rd_T43 l0 x13_1).f1) == ((rd_T43 l1 x13_1).f1)))) = false := by simpa using c8
         clear c8
         have H' := AX H
         clear H
         have p210 : 0 ≤ (x13_1 : Int) := of_decide_eq_true (by first | (with_reducible assumption) | assumption)
         have q210 : x13_1 < (l0.length : Int) := of_decide_eq_true (by first | (with_reducible assumption) | assumption)
         obtain ⟨ad210, e210, hx210_0, hx210_1⟩ := at_T43 HR0.out x13_1 p210 q210
         cases e210
         replace p210 := eq_true p210
         replace q210 := eq_true q210
         have p211 : 0 ≤ (x13_1 : Int) := of_decide_eq_true (by first | (with_reducible assumption) | assumption)
         have q211 : x13_1 < (l1.length : Int) := of_decide_eq_true (by first | (with_reducible assumption) | assumption)
         obtain ⟨ad211, e211, hx211_0, hx211_1⟩ := at_T43 HR1.out x13_1 p211 q211
         cases e211
         replace p211 := eq_true p211
         replace q211 := eq_true q211
         go_wp2
         repeat (go_quiet (fail); try go_wp2)
         go_roundg k1
         case measure => have := HK1.out; omega
         case rel => exact ⟨(wrap64 (x13_1 + 1)), (by first | rfl | (simp; done) | (simp [*]; done)), H', ⟨by have := HK1.out; omega⟩, by repeat (first | exact Drawn0.refl _ | apply Drawn0.step)⟩
       ·rw [if_neg c7] at H
        exact absurd H (by simp)
      ·rw [if_neg c6] at H
       exact absurd H (by simp)
     ·rw [if_neg c5] at H
      exact absurd H (by simp)
    ·rw [if_neg c4] at H
     have c4b0 : decide (x13_1 < (l0.length : Int)) = false := decide_eq_false c4
     clear c4
     obtain rfl := Option.some.inj H
     go_wp2
     repeat (go_quiet (fail); try go_wp2)
     go_ret
     exact ⟨by first | rfl | (simp; done) | (simp [*]; done), by repeat (first | exact Drawn0.refl _ | apply Drawn0.step)⟩
 ·rw [if_neg c3] at H
  have c3b0 : ((l0.length : Int) == (l1.length : Int)) = false := beq_eq_false_iff_ne.mpr c3
  have c3b1 : ((l0.length : Int) != (l1.length : Int)) = true := bne_iff_ne.mpr c3
  have c3b2 : (l0.length == l1.length) = false := by first | simpa using c3 | (simp at c3 ⊢; omega)
  obtain rfl := Option.some.inj H
  go_enter Try.func17, Try.ntmps17
  go_wp2
  repeat (go_quiet (fail); try go_wp2)
  go_ret
  exact ⟨by first | rfl | (simp; done) | (simp [*]; done), by repeat (first | exact Drawn0.refl _ | apply Drawn0.step)⟩

end Go.Proofs.Ythhifeefkmaeiaa.PX
