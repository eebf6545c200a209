/- The numbers of a line as the program reckons them: one walk of its code; conditions: ends of at most ten million, at most 40000 places. -/
import Derived.Test.YthhifeefkmaeiaaSrs
import Derived.Test.YthhifeefkmaeiaaLin
import Derived.Test.YthhifeefkmaeiaaSrk
import Derived.BigQuiet
import Derived.Deep.QuietTactic
import Derived.Deep.DeepCutAuto
import Derived.StillTailTactics
import Derived.Outline
import Derived.IntWalk
namespace Go.Proofs.Ythhifeefkmaeiaa.Srw
open Go.Shelf Go.RowKit Go.Lib Go.Sort Go.Proofs.Ythhifeefkmaeiaa.Stb Go.Proofs.Ythhifeefkmaeiaa.Lin
set_option linter.unusedVariables false
set_option linter.unusedSimpArgs false
theorem at_new (w : World) (o : Obj) : (w.alloc o).heap[w.heap.size]? = some o := heap_alloc_new w o
theorem alloc5 (w : World) (o1 o2 o3 o4 o5 : Obj) (q : Nat) : ((((((w.alloc o1).alloc o2).alloc o3).alloc o4).alloc o5).drewN q).heap[w.heap.size]? = some o1 ∧ ((((((w.alloc o1).alloc o2).alloc o3).alloc o4).alloc o5).drewN q).heap[w.heap.size + 1]? = some o2 ∧ ((((((w.alloc o1).alloc o2).alloc o3).alloc o4).alloc o5).drewN q).heap[w.heap.size + 1 + 1]? = some o3 ∧
    ((((((w.alloc o1).alloc o2).alloc o3).alloc o4).alloc o5).drewN q).heap[w.heap.size + 1 + 1 + 1]? = some o4 ∧ ((((((w.alloc o1).alloc o2).alloc o3).alloc o4).alloc o5).drewN q).heap[w.heap.size + 1 + 1 + 1 + 1]? = some o5 := by
  have e : ((((((w.alloc o1).alloc o2).alloc o3).alloc o4).alloc o5).drewN q).heap = ((((w.heap.push o1).push o2).push o3).push o4).push o5 := rfl
  rw [e]
  refine ⟨?_, ?_, ?_, ?_, ?_⟩ <;> simp only [Array.getElem?_push, Array.size_push] <;> (repeat (first | rw [if_pos trivial] | rw [if_pos rfl] | rw [if_neg (by omega)]))
/-- where the loop stands behind k rounds: the three rows, the two variables that the closure holds -/
structure At (a b : Int) (n : Nat) (w : World) (k k2 : Nat) (wr : World) : Prop where
  rl : Rw wr w.heap.size 2 (fun t => if t < k then lq a b n t else 0) n
  rr : Rw wr (w.heap.size + 1) 2 (fun t => if t < k then lr a b n t else 0) n
  x1 : wr.heap[w.heap.size + 1 + 1]? = some (.cells #[.slice (some ⟨w.heap.size + 1, 0, none⟩) n n] 23 (0, 0))
  ro : Rw wr (w.heap.size + 1 + 1 + 1) 3 (fun t => if t < k2 then t else 0) n
  x2 : wr.heap[w.heap.size + 1 + 1 + 1 + 1]? = some (.cells #[.slice (some ⟨w.heap.size + 1 + 1 + 1, 0, none⟩) n n] 51 (0, 0))
  bl : Below w.heap.size w wr
theorem At.bx1 {a b : Int} {n k k2 : Nat} {w wr : World} (h : At a b n w k k2 wr) : wr.cell? ⟨w.heap.size + 1 + 1, 0, none⟩ = some (.slice (some ⟨w.heap.size + 1, 0, none⟩) n n) := by simp [World.cell?, h.x1]
theorem At.bx2 {a b : Int} {n k k2 : Nat} {w wr : World} (h : At a b n w k k2 wr) : wr.cell? ⟨w.heap.size + 1 + 1 + 1 + 1, 0, none⟩ = some (.slice (some ⟨w.heap.size + 1 + 1 + 1, 0, none⟩) n n) := by simp [World.cell?, h.x2]
theorem At.start (a b : Int) (n : Nat) (w : World) (q q' : Nat) : At a b n w 0 0 ((((((w.drewN q).alloc (.cells (arr (fun _ => 0) n) 2 (0, 0))).alloc (.cells (arr (fun _ => 0) n) 2 (0, 0))).alloc (.cells #[.slice (some ⟨w.heap.size + 1, 0, none⟩) n n] 23)).alloc (.cells (arr (fun _ => 0) n) 3 (0, 0))).alloc (.cells #[.slice (some ⟨w.heap.size + 1 + 1 + 1, 0, none⟩) n n] 51) |>.drewN q') := by
  obtain ⟨h1, h2, h3, h4, h5⟩ := alloc5 (w.drewN q) (.cells (arr (fun _ => 0) n) 2 (0, 0)) (.cells (arr (fun _ => 0) n) 2 (0, 0)) (.cells #[.slice (some ⟨w.heap.size + 1, 0, none⟩) n n] 23) (.cells (arr (fun _ => 0) n) 3 (0, 0)) (.cells #[.slice (some ⟨w.heap.size + 1 + 1 + 1, 0, none⟩) n n] 51) q'
  exact ⟨by simpa [Rw] using h1, by simpa [Rw] using h2, h3, by simpa [Rw] using h4, h5, by
    refine Below.trans (b := w.drewN q) ⟨rfl, rfl, rfl, Nat.le_refl _, fun _ _ => rfl⟩ ?_
    refine Below.trans ((((((Below.refl (w.drewN q).heap.size (w.drewN q)).alloc (Nat.le_refl _) _).alloc (by simp) _).alloc (by simp; omega) _).alloc (by simp; omega) _).alloc (by simp; omega) _) ⟨rfl, rfl, rfl, Nat.le_refl _, fun _ _ => rfl⟩⟩
theorem At.drewN {a b : Int} {n k k2 : Nat} {w wr : World} (h : At a b n w k k2 wr) (q : Nat) : At a b n w k k2 (wr.drewN q) :=
  ⟨h.rl, h.rr, h.x1, h.ro, h.x2, h.bl.trans ⟨rfl, rfl, rfl, Nat.le_refl _, fun _ _ => rfl⟩⟩
theorem At.below {a b : Int} {n k k2 : Nat} {w wr w' : World} (h : At a b n w k k2 wr) (hB : Below wr.heap.size wr w') : At a b n w k k2 w' :=
  ⟨h.rl.below hB, h.rr.below hB, (hB.block _ (Array.getElem?_eq_some_iff.1 h.x1).1).trans h.x1, h.ro.below hB, (hB.block _ (Array.getElem?_eq_some_iff.1 h.x2).1).trans h.x2, h.bl.trans (hB.mono h.bl.size)⟩
theorem nb {i j o : Nat} (h : i ≠ j) : i ≠ (⟨j, o, none⟩ : Addr).block := h
theorem nl {i j o : Nat} (h : i ≤ j) : i ≤ (⟨j, o, none⟩ : Addr).block := h
theorem At.set1 {a b : Int} {n k : Nat} {w wr : World} (h : At a b n w k k wr) (q : Nat) :
    At a b n w (k + 1) k (((wr.drewN q).setCell ⟨w.heap.size, k, none⟩ (.int .i64 (num a b n k / ((n : Int) + 1)))).setCell ⟨w.heap.size + 1, k, none⟩ (.int .i64 (num a b n k % ((n : Int) + 1)))) := by
  have h := h.drewN q
  refine ⟨?_, ?_, ?_, ?_, ?_, ?_⟩
  · exact (h.rl.set (f' := fun t => if t < k + 1 then lq a b n t else 0) _ (by simp [lq]) (fun t _ ht => by by_cases c : t < k <;> by_cases c2 : t < k + 1 <;> simp [c, c2] <;> omega)).far (nb (by omega)) _
  · exact (h.rr.far (nb (by omega)) _).set (f' := fun t => if t < k + 1 then lr a b n t else 0) _ (by simp [lr]) (fun t _ ht => by by_cases c : t < k <;> by_cases c2 : t < k + 1 <;> simp [c, c2] <;> omega)
  · exact (Below.heap_setCell _ _ _ _ (nb (by omega))).trans ((Below.heap_setCell _ _ _ _ (nb (by omega))).trans h.x1)
  · exact (h.ro.far (nb (by omega)) _).far (nb (by omega)) _
  · exact (Below.heap_setCell _ _ _ _ (nb (by omega))).trans ((Below.heap_setCell _ _ _ _ (nb (by omega))).trans h.x2)
  · exact (h.bl.setCell (nl (by omega)) _).setCell (nl (by omega)) _
theorem At.set2 {a b : Int} {n k : Nat} {w wr : World} (h : At a b n w (k + 1) k wr) (q : Nat) :
    At a b n w (k + 1) (k + 1) ((wr.drewN q).setCell ⟨w.heap.size + 1 + 1 + 1, k, none⟩ (.int .i64 k)) := by
  have h := h.drewN q
  refine ⟨?_, ?_, ?_, ?_, ?_, ?_⟩
  · exact h.rl.far (nb (by omega)) _
  · exact h.rr.far (nb (by omega)) _
  · exact (Below.heap_setCell _ _ _ _ (nb (by omega))).trans h.x1
  · exact h.ro.set (f' := fun t => if t < k + 1 then t else 0) _ (by simp) (fun t _ ht => by by_cases c : t < k <;> by_cases c2 : t < k + 1 <;> simp [c, c2] <;> omega)
  · exact (Below.heap_setCell _ _ _ _ (nb (by omega))).trans h.x2
  · exact h.bl.setCell (nl (by omega)) _
theorem less_of {a b : Int} {n : Nat} {w wr : World} (h : At a b n w n n wr) (hn : n ≤ 40000) :
    Less 28 #[.pointer (some ⟨w.heap.size + 1 + 1, 0, none⟩), .pointer (some ⟨w.heap.size + 1 + 1 + 1 + 1, 0, none⟩)] (lr a b n) (w.heap.size + 1 + 1 + 1) 0 n wr := by
  intro W d hg hH hd hok i j hi hj
  obtain ⟨p, hp⟩ : ∃ p : Nat, d[i]! = p := ⟨d[i]!.toNat, by have := hok i hi; omega⟩
  obtain ⟨q, hq⟩ : ∃ q : Nat, d[j]! = q := ⟨d[j]!.toNat, by have := hok j hj; omega⟩
  have hpn : p < n := by have := hok i hi; omega
  have hqn : q < n := by have := hok j hj; omega
  have l1 := (Array.getElem?_eq_some_iff.1 h.x1).1
  have l2 := (Array.getElem?_eq_some_iff.1 h.x2).1
  have ci := (hH i (by omega)).1
  have cj := (hH j (by omega)).1
  rw [Nat.zero_add, hp] at ci
  rw [Nat.zero_add, hq] at cj
  have hc := less_line W (w.heap.size + 1) (w.heap.size + 1 + 1 + 1) (w.heap.size + 1 + 1) (w.heap.size + 1 + 1 + 1 + 1) i j p q n (lr a b n p) (lr a b n q) hn hi hj hpn hqn ((gb_cell hg l1 (by omega)).trans h.bx1) ((gb_cell hg l2 (by omega)).trans h.bx2) ci cj
    ((gb_cell hg h.rr.lt (by omega)).trans (by have := h.rr.cell hpn; simpa [hpn] using this)) ((gb_cell hg h.rr.lt (by omega)).trans (by have := h.rr.cell hqn; simpa [hqn] using this))
  rw [hp, hq]
  exact hc.mono fun e w' ⟨he, r, hw⟩ => ⟨he, by rw [hw]; exact ⟨rfl, rfl, rfl, Nat.le_refl _, fun _ _ => rfl⟩⟩
theorem cell_far' {W : World} {p a : Addr} {u : Value} (h : a.block ≠ p.block) : (W.setCell p u).cell? a = W.cell? a := World.cell?_of_block (Below.heap_setCell W p u a.block h)
theorem frozen_far' {W : World} {p a : Addr} {u : Value} (h : a.block ≠ p.block) : (W.setCell p u).frozen? a = W.frozen? a := World.frozen?_of_block (Below.heap_setCell W p u a.block h)
theorem mul_bd {n s : Int} (h0 : 0 ≤ n) (h1 : n ≤ 40001) (s1 : -20000000 ≤ s) (s2 : s ≤ 20000000) : n * s ≤ 1000000000000 ∧ -1000000000000 ≤ n * s := by
  have a := Int.mul_le_mul_of_nonneg_left s2 h0
  have b := Int.mul_le_mul_of_nonneg_left s1 h0
  omega
set_option maxHeartbeats 4000000 in
set_option maxRecDepth 100000 in
theorem line_ok (a b : Int) (n : Nat) (w : World) (ha1 : -10000000 ≤ a) (ha2 : a ≤ 10000000) (hb1 : -10000000 ≤ b) (hb2 : b ≤ 10000000) (hn : n ≤ 40000) :
    Calls Try.prog 12 #[.int .i64 a, .int .i64 b, .int .i64 n] w fun e w' => ∃ B, e = .returned (.tuple #[.slice (some ⟨B, 0, none⟩) n n, .int .i64 0]) ∧ w.heap.size ≤ B ∧ Rw w' B 2 (fun t => out a b n (miss a b n n) t) n ∧ Below w.heap.size w w' := by
  have hn0 : decide ((n : Int) < 0) = false := decide_eq_false (by omega)
  have HK := mk n hn
  have HKI := mkI n hn
  have hn1 : decide ((40000 : Int) < (n : Int)) = false := decide_eq_false (by omega)
  have HNA := Lib.hid (fun w => near_yes a w ha1 ha2)
  have HNB := Lib.hid (fun w => near_yes b w hb1 hb2)
  go_enter Try.func12, Try.ntmps12
  have hm : (n : Int) * (a + b) ≤ 1000000000000 ∧ -1000000000000 ≤ (n : Int) * (a + b) := mul_bd (by omega) (by omega) (by omega) (by omega)
  have hm1 := hm.1
  have hm2 := hm.2
  clear hm
  have HDV := Lib.hid (fun w => div_pos ((n : Int) * (a + b)) 2 w hm2 hm1 (by omega) (by omega))
  go_wp2_with (first | (go_at_call 26; refine (HDV.out _).mono ?_; rintro e w' ⟨rfl, q, rfl⟩) | (go_at_call_of 25 (Value.int .i64 a); refine (HNA.out _).mono ?_; rintro e w' ⟨rfl, q, rfl⟩) | (go_at_call_of 25 (Value.int .i64 b); refine (HNB.out _).mono ?_; rintro e w' ⟨rfl, q, rfl⟩))
  clear HK HKI hn0 hn1 HNA HNB HDV
  go_loopw [11, 52] (fun vm vk wr => ∃ k : Nat, vm = .int .i64 ((n : Int) * (a + b) / 2 - sumq a b n k) ∧ vk = .int .i64 k ∧ k ≤ n ∧ Hid (At a b n w k k wr)) (fun _ vk _ => n - (intOf vk).toNat)
  case atStart => exact ⟨0, by simp [sumq], rfl, by omega, At.start _ _ _ _ _ _⟩
  case round =>
    obtain ⟨k, rfl, rfl, hk, HA⟩ := hrel
    have hsb := sumq_bd (g := (n : Int)) ha1 ha2 hb1 hb2 k (by omega)
    by_cases hkn : k < n
    · have hq := lq_bd (g := (n : Int)) (k := k) ha1 ha2 hb1 hb2 (by omega) (by omega)
      have x1 := mul_bd (n := (n : Int) + 1 - (k + 1)) (s := a) (by omega) (by omega) (by omega) (by omega)
      have x2 := mul_bd (n := (k : Int) + 1) (s := b) (by omega) (by omega) (by omega) (by omega)
      rw [Int.mul_comm] at x1 x2
      have hnb := num_bd (g := (n : Int)) (k := k) ha1 ha2 hb1 hb2 (by omega) (by omega)
      have HDV := Lib.hid (fun w => div_pos (num a b n k) ((n : Int) + 1) w (by omega) (by omega) (by omega) (by omega))
      have b1 : wr.cell? ⟨w.heap.size + 1 + 1, 0, none⟩ = some (.slice (some ⟨w.heap.size + 1, 0, none⟩) n n) := HA.out.bx1
      have cL : wr.cell? ⟨w.heap.size, k, none⟩ = some (.int .i64 0) := by have := HA.out.rl.cell hkn; simpa using this
      have fL : wr.frozen? ⟨w.heap.size, k, none⟩ = false := HA.out.rl.frozen
      have cR : wr.cell? ⟨w.heap.size + 1, k, none⟩ = some (.int .i64 0) := by have := HA.out.rr.cell hkn; simpa using this
      have fR : wr.frozen? ⟨w.heap.size + 1, k, none⟩ = false := HA.out.rr.frozen
      go_upto_region 11 with (fail)
      go_cut [57] (fun _ wc => Hid (At a b n w (k + 1) k wc))
      case first =>
        have w1 : IntKind.i64.wrap ((n : Int) + 1) = (n : Int) + 1 := IntWalk.i64_in _ (by omega)
        have w2 : IntKind.i64.wrap ((n : Int) + 1 - ((k : Int) + 1)) = (n : Int) + 1 - ((k : Int) + 1) := IntWalk.i64_in _ (by omega)
        have w3 : IntKind.i64.wrap (a * ((n : Int) + 1 - ((k : Int) + 1))) = a * ((n : Int) + 1 - ((k : Int) + 1)) := IntWalk.i64_in _ (by omega)
        have w4 : IntKind.i64.wrap (b * ((k : Int) + 1)) = b * ((k : Int) + 1) := IntWalk.i64_in _ (by omega)
        have w5 : IntKind.i64.wrap (a * ((n : Int) + 1 - ((k : Int) + 1)) + b * ((k : Int) + 1)) = num a b n k := IntWalk.i64_in _ (by omega)
        go_region_with ((go_at_call 26; refine (HDV.out _).mono ?_; rintro e w' ⟨rfl, q, rfl⟩))
        all_goals
          go_wp2
          go_meet
          case rel => exact HA.out.set1 _
      case rest =>
        clear b1 cL fL cR fR
        have HA2 := hcut
        clear hcut HA
        have b2 := HA2.out.bx2
        have cL : wc.cell? ⟨w.heap.size, k, none⟩ = some (.int .i64 (lq a b n k)) := by have := HA2.out.rl.cell hkn; simpa using this
        have cO : wc.cell? ⟨w.heap.size + 1 + 1 + 1, k, none⟩ = some (.int .i64 0) := by have := HA2.out.ro.cell hkn; simpa using this
        have fO : wc.frozen? ⟨w.heap.size + 1 + 1 + 1, k, none⟩ = false := HA2.out.ro.frozen
        have hs1 : sumq a b n (k + 1) = sumq a b n k + lq a b n k := rfl
        have HS1 := Lib.hid hs1
        clear hs1
        go_wp2
        go_roundw
        case rel =>
          exact ⟨k + 1, by rw [HS1.out]; congr 1; omega, by go_num, by omega, HA2.out.set2 0⟩
        case measure => simp [intOf]; omega
    · obtain rfl : n = k := by omega
      clear hk hkn hsb
      have hmb := miss_bounds a b n (by omega)
      unfold miss at hmb
      simp only [Int.toNat_natCast] at hmb
      obtain ⟨m, hm⟩ : ∃ m : Nat, (n : Int) * (a + b) / 2 - sumq a b n n = m := ⟨((n : Int) * (a + b) / 2 - sumq a b n n).toNat, by omega⟩
      have hmn : m ≤ n := by omega
      rw [hm]
      have HM := Lib.hid hm
      clear hm hmb hm1 hm2
      have b2 := HA.out.bx2
      have HL : Less 28 #[.pointer (some ⟨w.heap.size + 1 + 1, 0, none⟩), .pointer (some ⟨w.heap.size + 1 + 1 + 1 + 1, 0, none⟩)] (lr a b n) (w.heap.size + 1 + 1 + 1) 0 n wr := less_of HA.out hn
      have hH := HA.out.ro.holds
      have hc := sliceStable (n := n) HL (enters_of Try.func28 (by kernel_rfl) rfl) (by omega) n wr _ (gb_refl _ _) hH (by simp) HA.out.ro.lt (fun t ht => by simp [ht])
      have HC := Lib.hid hc
      clear hc HL hH
      go_wp2_with (go_at_call 27; refine HC.out.mono ?_; rintro e w1 ⟨rfl, d', hD, hs', hP, hS⟩; have b3 : w1.cell? ⟨w.heap.size + 1 + 1 + 1 + 1, 0, none⟩ = some (.slice (some ⟨w.heap.size + 1 + 1 + 1, 0, none⟩) n n) := (gb_cell hD.2 (Array.getElem?_eq_some_iff.1 HA.out.x2).1 (by omega)).trans HA.out.bx2)
      have HR := Lib.hid (fun j (hj : j < n) => rank_of (key := lr a b n) (d := ((List.range n).map (fun t => if t < n then (t : Int) else 0)).toArray) (by simp) (fun t ht => by simp [ht]) hP hS hj)
      have HJ := Lib.hid (fun i j (hi : i < n) (hj : j < n) he => inj_of (d := ((List.range n).map (fun t => if t < n then (t : Int) else 0)).toArray) (d' := d') (by simp) (fun t ht => by simp [ht]) hP hi hj he)
      have HSJ := Lib.hid (fun t (ht : t < n) => surj_of (d := ((List.range n).map (fun t => if t < n then (t : Int) else 0)).toArray) (d' := d') (by simp) (fun t ht => by simp [ht]) hP ht)
      have HRG := Lib.hid (fun i (hi : i < n) => permIn_all _ d' 0 n (fun x => (0 : Int) ≤ x ∧ x < n) (by simp) hP (fun t _ ht => by simp [ht]) i (Nat.zero_le _) hi)
      have HLR : Hid (Rw w1 w.heap.size 2 (fun t => lq a b n t + if rank (lr a b n) n t < 0 then 1 else 0) n) := by
        have h := HA.out.rl
        unfold Rw at *
        rw [hD.2.block _ (Array.getElem?_eq_some_iff.1 h).1 (fun e => by have := Option.some.inj e; omega), h]
        congr 2
        exact arr_congr fun t ht => by simp [ht]
      have HB1 : Hid (Below w.heap.size w w1) := HA.out.bl.trans ⟨hD.2.os, hD.2.tape, hD.2.output, hD.2.size, fun i hi => hD.2.block i (by have := HA.out.bl.size; omega) (by simp; omega)⟩
      have HO : Hid (Holds enc w1 (w.heap.size + 1 + 1 + 1) 0 d' ∧ d'.size = n) := ⟨hD.1, hs'⟩
      clear hP hS hD hs' HC HA b2 b3
      go_loopw [99] (fun vi wr => ∃ i : Nat, vi = .int .i64 i ∧ i ≤ m ∧ Hid (Rw wr w.heap.size 2 (fun t => lq a b n t + if rank (lr a b n) n t < i then 1 else 0) n ∧ Holds enc wr (w.heap.size + 1 + 1 + 1) 0 d' ∧ Below w.heap.size w wr)) (fun vi _ => m - (intOf vi).toNat)
      case atStart => exact ⟨0, rfl, by omega, ⟨HLR.out, HO.out.1, HB1.out⟩⟩
      case round =>
        obtain ⟨i, rfl, him, HF⟩ := hrel
        by_cases hlt : i < m
        · obtain ⟨v, hv⟩ : ∃ v : Nat, d'[i]! = v := ⟨d'[i]!.toNat, by have := HRG.out i (by omega); omega⟩
          have hvn : v < n := by have := HRG.out i (by omega); omega
          have hrk : rank (lr a b n) n v = i := by rw [← hv]; exact HR.out i (by omega)
          have hq := lq_bd (g := (n : Int)) (k := v) ha1 ha2 hb1 hb2 (by omega) (by omega)
          have c1 := (HF.out.2.1 i (by rw [HO.out.2]; omega)).1
          rw [Nat.zero_add, hv] at c1
          have c2 : wr.cell? ⟨w.heap.size, v, none⟩ = some (.int .i64 (lq a b n v)) := by have := HF.out.1.cell hvn; simpa [hrk] using this
          have c3 : wr.frozen? ⟨w.heap.size, v, none⟩ = false := HF.out.1.frozen
          have HV := Lib.hid (And.intro hv hrk)
          clear hv hrk
          go_wp2
          go_roundw
          case rel =>
            refine ⟨i + 1, by go_num, by omega, ⟨HF.out.1.set _ (by simp [HV.out.2]) (fun t ht htv => ?_), fun j hj => ?_, HF.out.2.2.setCell (nl (by omega)) _⟩⟩
            · have : rank (lr a b n) n t ≠ i := fun e => by
                obtain ⟨j, hj, hje⟩ := HSJ.out t ht
                have := HR.out j hj
                rw [hje, e] at this
                subst this
                rw [HV.out.1] at hje
                exact htv (by omega)
              have e : rank (lr a b n) n t < i + 1 ↔ rank (lr a b n) n t < i := by omega
              simp only [e]
            · have := HF.out.2.1 j hj
              exact ⟨by rw [cell_far' (show w.heap.size + 1 + 1 + 1 ≠ w.heap.size by omega)]; exact this.1, by rw [frozen_far' (show w.heap.size + 1 + 1 + 1 ≠ w.heap.size by omega)]; exact this.2⟩
          case measure => simp [intOf]; omega
        · obtain rfl : m = i := by omega
          go_wp2
          go_ret2
          refine ⟨w.heap.size, rfl, Nat.le_refl _, ?_, HF.out.2.2⟩
          have h := HF.out.1
          unfold Rw at *
          rw [h]
          congr 2
          refine arr_congr fun t ht => ?_
          unfold out miss
          rw [Int.toNat_natCast, HM.out]
          simp
set_option maxHeartbeats 4000000 in
set_option maxRecDepth 100000 in
theorem line_bad (a b g : Int) (w : World) (h : g < 0 ∨ 40000 < g ∨ (a < -10000000 ∨ 10000000 < a) ∨ (b < -10000000 ∨ 10000000 < b)) :
    Calls Try.prog 12 #[.int .i64 a, .int .i64 b, .int .i64 g] w fun e w' => e = .returned (.tuple #[.slice none 0 0, .int .i64 8]) ∧ Below w.heap.size w w' := by
  have dn : ∀ q, Below w.heap.size w (w.drewN q) := fun q => ⟨rfl, rfl, rfl, Nat.le_refl _, fun _ _ => rfl⟩
  have HD := Lib.hid dn
  clear dn
  by_cases h0 : g < 0
  · have c0 : decide (g < 0) = true := decide_eq_true h0
    go_enter Try.func12, Try.ntmps12
    go_wp2
    repeat (go_quiet (fail); try go_wp2)
    go_ret2
    exact ⟨rfl, by first | exact Below.refl _ _ | exact HD.out _⟩
  · have c0 : decide (g < 0) = false := decide_eq_false h0
    by_cases h1 : 40000 < g
    · have c1 : decide (40000 < g) = true := decide_eq_true h1
      go_enter Try.func12, Try.ntmps12
      go_wp2
      repeat (go_quiet (fail); try go_wp2)
      go_ret2
      exact ⟨rfl, by first | exact Below.refl _ _ | exact HD.out _⟩
    · have c1 : decide (40000 < g) = false := decide_eq_false h1
      by_cases h2 : a < -10000000 ∨ 10000000 < a
      · have HNA := Lib.hid (fun w => near_no a w h2)
        clear h
        go_enter Try.func12, Try.ntmps12
        go_wp2_with (go_at_call_of 25 (Value.int .i64 a); refine (HNA.out _).mono ?_; rintro e w' ⟨rfl, q, rfl⟩)
        go_ret2
        exact ⟨rfl, HD.out _⟩
      · have HNA := Lib.hid (fun w => near_yes a w (by omega) (by omega))
        have HNB := Lib.hid (fun w => near_no b w (by omega))
        clear h h2
        go_enter Try.func12, Try.ntmps12
        go_wp2_with (first | (go_at_call_of 25 (Value.int .i64 a); refine (HNA.out _).mono ?_; rintro e w' ⟨rfl, q, rfl⟩) | (go_at_call_of 25 (Value.int .i64 b); refine (HNB.out _).mono ?_; rintro e w' ⟨rfl, q, rfl⟩))
        go_ret2
        exact ⟨rfl, HD.out _⟩
end Go.Proofs.Ythhifeefkmaeiaa.Srw
