/- Functions of the program as plain Lean functions, each with a proof that the call in the machine answers just what the plain function says; condition: the plain function answers at all. -/
import Derived.Test.YtkggjjggcbcdiaaPXx0
import Derived.Test.YtkggjjggcbcdiaaPXx10
namespace Go.Proofs.Ytkggjjggcbcdiaa.PX
open Go.RowKit Go.Proofs.YtkggjjggcbcdiaaW.PrintWords Go.Proofs.YtkggjjggcbcdiaaW.PrintLast Go.Proofs.YtkggjjggcbcdiaaW.PrintMore
attribute [local go_sem] max2_int min2_int max_two min_two max_three min_three max_four min_four   -- for this text's walks alone
set_option linter.unusedVariables false
set_option linter.unusedSimpArgs false

/-! ### pylonref14_Window: function 20 -/
def pylonref14_Window.l0 : Nat → List (S60) → ByteArray → Int → Int → Int → Int → Option (Int × Int)
 | 0, _, _, _, _, _, _ => none
 | k + 1, x0, x1, x2, x3, x13, x14 => if x14 < x13 then (if 0 ≤ x14 then (if x14 < (x0.length : Int) then (if ((rd_T60 x0 x14).f0).toList = x1.toList then (if ((rd_T60 x0 x14).f1) = x2 then (if ((rd_T60 x0 x14).f2) ≤ x3 then (if x3 < ((rd_T60 x0 x14).f3) then (some (x14, 0)) else (pylonref14_Window.l0 k x0 x1 x2 x3 x13 (wrap64 (x14 + 1)))) else (pylonref14_Window.l0 k x0 x1 x2 x3 x13 (wrap64 (x14 + 1)))) else (pylonref14_Window.l0 k x0 x1 x2 x3 x13 (wrap64 (x14 + 1)))) else (pylonref14_Window.l0 k x0 x1 x2 x3 x13 (wrap64 (x14 + 1)))) else (none)) else (none)) else (some (0, 7))
def pylonref14_Window.f (k : Nat) (l0 : List (S60)) (a1 : ByteArray) (a2 : Int) (a3 : Int) : Option (Int × Int) := pylonref14_Window.l0 k l0 a1 a2 a3 (l0.length : Int) 0
theorem pylonref14_Window.mono_l : ∀ k, (∀ y0 y1 y2 y3 y4 y5, LeO (pylonref14_Window.l0 k y0 y1 y2 y3 y4 y5) (pylonref14_Window.l0 (k + 1) y0 y1 y2 y3 y4 y5))
 | 0 => fun _ _ _ _ _ _ r h => by simp [pylonref14_Window.l0] at h
 | k + 1 => by
  have ih0 := pylonref14_Window.mono_l k
  ·intro y0 y1 y2 y3 y4 y5
   unfold pylonref14_Window.l0
   repeat' first
   | (with_reducible exact ih0 _ _ _ _ _ _)
   | (with_reducible exact LeO.refl _)
   | (with_reducible exact LeO.none _)
   | (with_reducible refine LeO.ite ?_ ?_)
   | (with_reducible refine LeO.bind ?_ (fun _ => ?_))
   | exact ih0 _ _ _ _ _ _
   | exact LeO.none _
   | refine LeO.ite ?_ ?_
   | refine LeO.bind ?_ (fun _ => ?_)
theorem pylonref14_Window.mono : ∀ a0 a1 a2 a3 k, LeO (pylonref14_Window.f k a0 a1 a2 a3) (pylonref14_Window.f (k + 1) a0 a1 a2 a3) := by
 intro a0 a1 a2 a3 k
 have ih0 := pylonref14_Window.mono_l k
 unfold pylonref14_Window.f
 repeat' first
   | (with_reducible exact ih0 _ _ _ _ _ _)
   | (with_reducible exact LeO.refl _)
   | (with_reducible exact LeO.none _)
   | (with_reducible refine LeO.ite ?_ ?_)
   | (with_reducible refine LeO.bind ?_ (fun _ => ?_))
   | exact ih0 _ _ _ _ _ _
   | exact LeO.none _
   | refine LeO.ite ?_ ?_
   | refine LeO.bind ?_ (fun _ => ?_)
set_option maxHeartbeats 8000000 in
set_option maxRecDepth 100000 in
theorem pylonref14_Window.calls (k : Nat) (A0 : Option Addr) (c0 : Nat) (l0 : List (S60)) (a1 : ByteArray) (a2 : Int) (a3 : Int) (r1 : Int) (r2 : Int) (w : World) (hr0 : Kd.C k60 w A0 l0.length l0) (hc0 : l0.length ≤ c0) (h : pylonref14_Window.f k l0 a1 a2 a3 = some (r1, r2)) :
  Calls Try.prog 20 #[.slice A0 l0.length c0, .string a1, .int .i64 a2, .int .i64 a3] w fun e w' => e = .returned (.tuple #[.int .i64 r1, .int .i64 r2]) ∧ Below w.heap.size w w' := by
 have hu60 := Try.underlying60
 have HR0 := AX hr0
 have HC0 := AX hc0
 clear hr0 hc0
 have HB := AX (Below.refl w.heap.size w)
 have H : (pylonref14_Window.l0 k l0 a1 a2 a3 (l0.length : Int) 0) = some (r1, r2) := h
 clear h
 have H' := AX H
 clear H
 go_enter Try.func20, Try.ntmps20
 go_wp2
 go_loopg [14] k (fun kq v14 w' => ∃ (x14_1 : Int), v14 = .int .i64 x14_1 ∧ Aside0 (pylonref14_Window.l0 kq l0 a1 a2 a3 (l0.length : Int) x14_1 = some (r1, r2)) ∧ Aside0 (kq ≤ k) ∧ Aside0 (Below w.heap.size w w'))
 case atStart => exact ⟨(0), (by first | rfl | (simp; done) | (simp [*]; done)), H', ⟨Nat.le_refl _⟩, ⟨bw⟩⟩
 case round =>
  clear H'
  obtain ⟨x14_1, rfl, HA, HK1, HB⟩ := hrel
  cases gk with
  | zero => exact absurd HA.out (by simp [pylonref14_Window.l0])
  | succ k1 =>
   have H := HA.out
   clear HA
   simp only [pylonref14_Window.l0] at H
   by_cases c5 : x14_1 < (l0.length : Int)
   ·rw [if_pos c5] at H
    have c5b0 : decide (x14_1 < (l0.length : Int)) = true := decide_eq_true c5
    clear c5
    by_cases c6 : 0 ≤ x14_1
    ·rw [if_pos c6] at H
     have c6b0 : decide (0 ≤ x14_1) = true := decide_eq_true c6
     clear c6
     by_cases c7 : x14_1 < (l0.length : Int)
     ·rw [if_pos c7] at H
      have c7b0 : decide (x14_1 < (l0.length : Int)) = true := decide_eq_true c7
      clear c7
      by_cases c8 : ((rd_T60 l0 x14_1).f0).toList = a1.toList
      ·rw [if_pos c8] at H
       have c8b0 : (((rd_T60 l0 x14_1).f0).toList == a1.toList) = true := beq_iff_eq.mpr c8
       have c8b1 : (((rd_T60 l0 x14_1).f0).toList != a1.toList) = false := bne_eq_false_iff_eq.mpr c8
       clear c8
       by_cases c9 : ((rd_T60 l0 x14_1).f1) = a2
       ·rw [if_pos c9] at H
        have c9b0 : (((rd_T60 l0 x14_1).f1) == a2) = true := beq_iff_eq.mpr c9
        have c9b1 : (((rd_T60 l0 x14_1).f1) != a2) = false := bne_eq_false_iff_eq.mpr c9
        clear c9
        by_cases c10 : ((rd_T60 l0 x14_1).f2) ≤ a3
        ·rw [if_pos c10] at H
         have c10b0 : decide (((rd_T60 l0 x14_1).f2) ≤ a3) = true := decide_eq_true c10
         clear c10
         by_cases c11 : a3 < ((rd_T60 l0 x14_1).f3)
         ·rw [if_pos c11] at H
          have c11b0 : decide (a3 < ((rd_T60 l0 x14_1).f3)) = true := decide_eq_true c11
          clear c11
          simp only [Option.some.injEq, Prod.mk.injEq] at H
          obtain ⟨rfl, rfl⟩ := H
          have p267 : 0 ≤ (x14_1 : Int) := of_decide_eq_true (by first | (with_reducible assumption) | assumption)
          have q267 : x14_1 < (l0.length : Int) := of_decide_eq_true (by first | (with_reducible assumption) | assumption)
          obtain ⟨ad267, e267, hx267_0, hx267_1, hx267_2, hx267_3, hx267_4⟩ := at_T60 HR0.out x14_1 p267 q267
          cases e267
          replace hx267_0 := (HB.out.cell (World.block_lt_of_cell? w _ hx267_0)).trans hx267_0
          replace hx267_1 := (HB.out.cell (World.block_lt_of_cell? w _ hx267_1)).trans hx267_1
          replace hx267_2 := (HB.out.cell (World.block_lt_of_cell? w _ hx267_2)).trans hx267_2
          replace hx267_3 := (HB.out.cell (World.block_lt_of_cell? w _ hx267_3)).trans hx267_3
          replace hx267_4 := (HB.out.cell (World.block_lt_of_cell? w _ hx267_4)).trans hx267_4
          replace p267 := eq_true p267
          replace q267 := eq_true q267
          go_wp2_with (first | ((with_reducible refine gate_dst (N := 11) rfl ?_); refine box_event ?hg (N := 11) ?hd (cs := #[.string (⟨#[]⟩ : ByteArray), .int .i64 0, .int .i64 0, .int .i64 0, .string (⟨#[]⟩ : ByteArray)]) (t := 60) ?hr ?_; (case hd => rfl); (case hg => rfl); (case hr => first | (go_simp; done) | (go_simp; rfl)); intro gb268 hg w12 hbox hb; have n0_ := AX (below_step bw hb); have n1_ := AX (hbox); have n2_ := AX ((by rw [hg]; exact (below_size bw) : w.heap.size ≤ gb268)); have n3_ := AX ((by rw [hg]; exact (below_size bw) : w.heap.size ≤ gb268)); clear HB; have HB := n0_; have BK268 := n1_; have GW268 := n2_; have GE268 := n3_; clear n0_ n1_ n2_ n3_; clear hb hbox hg; obtain ⟨hcz13_0, hcz13_1, hcz13_2, hcz13_3, hcz13_4⟩ := blkC5 (w := w12) BK268.out; obtain ⟨hfz13_0, hfz13_1, hfz13_2, hfz13_3, hfz13_4⟩ := blkF5 BK268.out))
          go_ret2
          exact ⟨by first | rfl | (simp [errW_none, errW_some] <;> rfl) | (simp [*, errW_none, errW_some] <;> rfl), bw⟩
         ·rw [if_neg c11] at H
          have c11b0 : decide (a3 < ((rd_T60 l0 x14_1).f3)) = false := decide_eq_false c11
          clear c11
          have H' := AX H
          clear H
          have p267 : 0 ≤ (x14_1 : Int) := of_decide_eq_true (by first | (with_reducible assumption) | assumption)
          have q267 : x14_1 < (l0.length : Int) := of_decide_eq_true (by first | (with_reducible assumption) | assumption)
          obtain ⟨ad267, e267, hx267_0, hx267_1, hx267_2, hx267_3, hx267_4⟩ := at_T60 HR0.out x14_1 p267 q267
          cases e267
          replace hx267_0 := (HB.out.cell (World.block_lt_of_cell? w _ hx267_0)).trans hx267_0
          replace hx267_1 := (HB.out.cell (World.block_lt_of_cell? w _ hx267_1)).trans hx267_1
          replace hx267_2 := (HB.out.cell (World.block_lt_of_cell? w _ hx267_2)).trans hx267_2
          replace hx267_3 := (HB.out.cell (World.block_lt_of_cell? w _ hx267_3)).trans hx267_3
          replace hx267_4 := (HB.out.cell (World.block_lt_of_cell? w _ hx267_4)).trans hx267_4
          replace p267 := eq_true p267
          replace q267 := eq_true q267
          go_wp2_with (first | ((with_reducible refine gate_dst (N := 11) rfl ?_); refine box_event ?hg (N := 11) ?hd (cs := #[.string (⟨#[]⟩ : ByteArray), .int .i64 0, .int .i64 0, .int .i64 0, .string (⟨#[]⟩ : ByteArray)]) (t := 60) ?hr ?_; (case hd => rfl); (case hg => rfl); (case hr => first | (go_simp; done) | (go_simp; rfl)); intro gb268 hg w14 hbox hb; have n0_ := AX (below_step bw hb); have n1_ := AX (hbox); have n2_ := AX ((by rw [hg]; exact (below_size bw) : w.heap.size ≤ gb268)); have n3_ := AX ((by rw [hg]; exact (below_size bw) : w.heap.size ≤ gb268)); clear HB; have HB := n0_; have BK268 := n1_; have GW268 := n2_; have GE268 := n3_; clear n0_ n1_ n2_ n3_; clear hb hbox hg; obtain ⟨hcz15_0, hcz15_1, hcz15_2, hcz15_3, hcz15_4⟩ := blkC5 (w := w14) BK268.out; obtain ⟨hfz15_0, hfz15_1, hfz15_2, hfz15_3, hfz15_4⟩ := blkF5 BK268.out))
          go_roundg k1
          case measure => have := HK1.out; omega
          case rel => exact ⟨(wrap64 (x14_1 + 1)), (by first | rfl | (simp; done) | (simp [*]; done)), H', ⟨by have := HK1.out; omega⟩, ⟨bw⟩⟩
        ·rw [if_neg c10] at H
         have c10b0 : decide (((rd_T60 l0 x14_1).f2) ≤ a3) = false := decide_eq_false c10
         clear c10
         have H' := AX H
         clear H
         have p267 : 0 ≤ (x14_1 : Int) := of_decide_eq_true (by first | (with_reducible assumption) | assumption)
         have q267 : x14_1 < (l0.length : Int) := of_decide_eq_true (by first | (with_reducible assumption) | assumption)
         obtain ⟨ad267, e267, hx267_0, hx267_1, hx267_2, hx267_3, hx267_4⟩ := at_T60 HR0.out x14_1 p267 q267
         cases e267
         replace hx267_0 := (HB.out.cell (World.block_lt_of_cell? w _ hx267_0)).trans hx267_0
         replace hx267_1 := (HB.out.cell (World.block_lt_of_cell? w _ hx267_1)).trans hx267_1
         replace hx267_2 := (HB.out.cell (World.block_lt_of_cell? w _ hx267_2)).trans hx267_2
         replace hx267_3 := (HB.out.cell (World.block_lt_of_cell? w _ hx267_3)).trans hx267_3
         replace hx267_4 := (HB.out.cell (World.block_lt_of_cell? w _ hx267_4)).trans hx267_4
         replace p267 := eq_true p267
         replace q267 := eq_true q267
         go_wp2_with (first | ((with_reducible refine gate_dst (N := 11) rfl ?_); refine box_event ?hg (N := 11) ?hd (cs := #[.string (⟨#[]⟩ : ByteArray), .int .i64 0, .int .i64 0, .int .i64 0, .string (⟨#[]⟩ : ByteArray)]) (t := 60) ?hr ?_; (case hd => rfl); (case hg => rfl); (case hr => first | (go_simp; done) | (go_simp; rfl)); intro gb268 hg w16 hbox hb; have n0_ := AX (below_step bw hb); have n1_ := AX (hbox); have n2_ := AX ((by rw [hg]; exact (below_size bw) : w.heap.size ≤ gb268)); have n3_ := AX ((by rw [hg]; exact (below_size bw) : w.heap.size ≤ gb268)); clear HB; have HB := n0_; have BK268 := n1_; have GW268 := n2_; have GE268 := n3_; clear n0_ n1_ n2_ n3_; clear hb hbox hg; obtain ⟨hcz17_0, hcz17_1, hcz17_2, hcz17_3, hcz17_4⟩ := blkC5 (w := w16) BK268.out; obtain ⟨hfz17_0, hfz17_1, hfz17_2, hfz17_3, hfz17_4⟩ := blkF5 BK268.out))
         go_roundg k1
         case measure => have := HK1.out; omega
         case rel => exact ⟨(wrap64 (x14_1 + 1)), (by first | rfl | (simp; done) | (simp [*]; done)), H', ⟨by have := HK1.out; omega⟩, ⟨bw⟩⟩
       ·rw [if_neg c9] at H
        have c9b0 : (((rd_T60 l0 x14_1).f1) == a2) = false := beq_eq_false_iff_ne.mpr c9
        have c9b1 : (((rd_T60 l0 x14_1).f1) != a2) = true := bne_iff_ne.mpr c9
        have H' := AX H
        clear H
        have p267 : 0 ≤ (x14_1 : Int) := of_decide_eq_true (by first | (with_reducible assumption) | assumption)
        have q267 : x14_1 < (l0.length : Int) := of_decide_eq_true (by first | (with_reducible assumption) | assumption)
        obtain ⟨ad267, e267, hx267_0, hx267_1, hx267_2, hx267_3, hx267_4⟩ := at_T60 HR0.out x14_1 p267 q267
        cases e267
        replace hx267_0 := (HB.out.cell (World.block_lt_of_cell? w _ hx267_0)).trans hx267_0
        replace hx267_1 := (HB.out.cell (World.block_lt_of_cell? w _ hx267_1)).trans hx267_1
        replace hx267_2 := (HB.out.cell (World.block_lt_of_cell? w _ hx267_2)).trans hx267_2
        replace hx267_3 := (HB.out.cell (World.block_lt_of_cell? w _ hx267_3)).trans hx267_3
        replace hx267_4 := (HB.out.cell (World.block_lt_of_cell? w _ hx267_4)).trans hx267_4
        replace p267 := eq_true p267
        replace q267 := eq_true q267
        go_wp2_with (first | ((with_reducible refine gate_dst (N := 11) rfl ?_); refine box_event ?hg (N := 11) ?hd (cs := #[.string (⟨#[]⟩ : ByteArray), .int .i64 0, .int .i64 0, .int .i64 0, .string (⟨#[]⟩ : ByteArray)]) (t := 60) ?hr ?_; (case hd => rfl); (case hg => rfl); (case hr => first | (go_simp; done) | (go_simp; rfl)); intro gb268 hg w18 hbox hb; have n0_ := AX (below_step bw hb); have n1_ := AX (hbox); have n2_ := AX ((by rw [hg]; exact (below_size bw) : w.heap.size ≤ gb268)); have n3_ := AX ((by rw [hg]; exact (below_size bw) : w.heap.size ≤ gb268)); clear HB; have HB := n0_; have BK268 := n1_; have GW268 := n2_; have GE268 := n3_; clear n0_ n1_ n2_ n3_; clear hb hbox hg; obtain ⟨hcz19_0, hcz19_1, hcz19_2, hcz19_3, hcz19_4⟩ := blkC5 (w := w18) BK268.out; obtain ⟨hfz19_0, hfz19_1, hfz19_2, hfz19_3, hfz19_4⟩ := blkF5 BK268.out))
        go_roundg k1
        case measure => have := HK1.out; omega
        case rel => exact ⟨(wrap64 (x14_1 + 1)), (by first | rfl | (simp; done) | (simp [*]; done)), H', ⟨by have := HK1.out; omega⟩, ⟨bw⟩⟩
      ·rw [if_neg c8] at H
       have c8b0 : (((rd_T60 l0 x14_1).f0).toList == a1.toList) = false := beq_eq_false_iff_ne.mpr c8
       have c8b1 : (((rd_T60 l0 x14_1).f0).toList != a1.toList) = true := bne_iff_ne.mpr c8
       have H' := AX H
       clear H
       have p267 : 0 ≤ (x14_1 : Int) := of_decide_eq_true (by first | (with_reducible assumption) | assumption)
       have q267 : x14_1 < (l0.length : Int) := of_decide_eq_true (by first | (with_reducible assumption) | assumption)
       obtain ⟨ad267, e267, hx267_0, hx267_1, hx267_2, hx267_3, hx267_4⟩ := at_T60 HR0.out x14_1 p267 q267
       cases e267
       replace hx267_0 := (HB.out.cell (World.block_lt_of_cell? w _ hx267_0)).trans hx267_0
       replace hx267_1 := (HB.out.cell (World.block_lt_of_cell? w _ hx267_1)).trans hx267_1
       replace hx267_2 := (HB.out.cell (World.block_lt_of_cell? w _ hx267_2)).trans hx267_2
       replace hx267_3 := (HB.out.cell (World.block_lt_of_cell? w _ hx267_3)).trans hx267_3
       replace hx267_4 := (HB.out.cell (World.block_lt_of_cell? w _ hx267_4)).trans hx267_4
       replace p267 := eq_true p267
       replace q267 := eq_true q267
       go_wp2_with (first | ((with_reducible refine gate_dst (N := 11) rfl ?_); refine box_event ?hg (N := 11) ?hd (cs := #[.string (⟨#[]⟩ : ByteArray), .int .i64 0, .int .i64 0, .int .i64 0, .string (⟨#[]⟩ : ByteArray)]) (t := 60) ?hr ?_; (case hd => rfl); (case hg => rfl); (case hr => first | (go_simp; done) | (go_simp; rfl)); intro gb268 hg w20 hbox hb; have n0_ := AX (below_step bw hb); have n1_ := AX (hbox); have n2_ := AX ((by rw [hg]; exact (below_size bw) : w.heap.size ≤ gb268)); have n3_ := AX ((by rw [hg]; exact (below_size bw) : w.heap.size ≤ gb268)); clear HB; have HB := n0_; have BK268 := n1_; have GW268 := n2_; have GE268 := n3_; clear n0_ n1_ n2_ n3_; clear hb hbox hg; obtain ⟨hcz21_0, hcz21_1, hcz21_2, hcz21_3, hcz21_4⟩ := blkC5 (w := w20) BK268.out; obtain ⟨hfz21_0, hfz21_1, hfz21_2, hfz21_3, hfz21_4⟩ := blkF5 BK268.out))
       go_roundg k1
       case measure => have := HK1.out; omega
       case rel => exact ⟨(wrap64 (x14_1 + 1)), (by first | rfl | (simp; done) | (simp [*]; done)), H', ⟨by have := HK1.out; omega⟩, ⟨bw⟩⟩
     ·rw [if_neg c7] at H
      exact absurd H (by simp)
    ·rw [if_neg c6] at H
     exact absurd H (by simp)
   ·rw [if_neg c5] at H
    have c5b0 : decide (x14_1 < (l0.length : Int)) = false := decide_eq_false c5
    clear c5
    simp only [Option.some.injEq, Prod.mk.injEq] at H
    obtain ⟨rfl, rfl⟩ := H
    go_wp2
    go_ret2
    exact ⟨by first | rfl | (simp [errW_none, errW_some] <;> rfl) | (simp [*, errW_none, errW_some] <;> rfl), bw⟩

/-! ### pylonref09_Day: function 73 -/
def pylonref09_Day.j0 : Nat → Int → Bool → Option (Int × Int)
 | 0, _, _ => none
 | k + 1, x0, x11 => if x11 = true then (some (0, 8)) else ((pylonref03_YearDay.f k 2000 (wrap64 (Int.tdiv x0 100)) (Int.tmod x0 100)).bind fun bt274 => (if bt274.2 = 0 then (some (bt274.1, 0)) else (some (0, 8))))
def pylonref09_Day.f (k : Nat) (a0 : Int) : Option (Int × Int) := if a0 < 101 then (pylonref09_Day.j0 k a0 true) else (pylonref09_Day.j0 k a0 (decide (a0 > 1231)))
theorem pylonref09_Day.mono_l : ∀ k, (∀ y0 y1, LeO (pylonref09_Day.j0 k y0 y1) (pylonref09_Day.j0 (k + 1) y0 y1))
 | 0 => fun _ _ r h => by simp [pylonref09_Day.j0] at h
 | k + 1 => by
  have ih0 := pylonref09_Day.mono_l k
  ·intro y0 y1
   unfold pylonref09_Day.j0
   repeat' first
   | (with_reducible exact ih0 _ _)
   | (with_reducible exact pylonref03_YearDay.mono _ _ _ _)
   | (with_reducible exact LeO.refl _)
   | (with_reducible exact LeO.none _)
   | (with_reducible refine LeO.ite ?_ ?_)
   | (with_reducible refine LeO.bind ?_ (fun _ => ?_))
   | exact ih0 _ _
   | exact pylonref03_YearDay.mono _ _ _ _
   | exact LeO.none _
   | refine LeO.ite ?_ ?_
   | refine LeO.bind ?_ (fun _ => ?_)
theorem pylonref09_Day.mono : ∀ a0 k, LeO (pylonref09_Day.f k a0) (pylonref09_Day.f (k + 1) a0) := by
 intro a0 k
 have ih0 := pylonref09_Day.mono_l k
 unfold pylonref09_Day.f
 repeat' first
   | (with_reducible exact ih0 _ _)
   | (with_reducible exact pylonref03_YearDay.mono _ _ _ _)
   | (with_reducible exact LeO.refl _)
   | (with_reducible exact LeO.none _)
   | (with_reducible refine LeO.ite ?_ ?_)
   | (with_reducible refine LeO.bind ?_ (fun _ => ?_))
   | exact ih0 _ _
   | exact pylonref03_YearDay.mono _ _ _ _
   | exact LeO.none _
   | refine LeO.ite ?_ ?_
   | refine LeO.bind ?_ (fun _ => ?_)
set_option maxHeartbeats 8000000 in
set_option maxRecDepth 100000 in
theorem pylonref09_Day.calls (k : Nat) (a0 : Int) (r1 : Int) (r2 : Int) (w : World) (h : pylonref09_Day.f k a0 = some (r1, r2)) :
  Calls Try.prog 73 #[.int .i64 a0] w fun e w' => e = .returned (.tuple #[.int .i64 r1, .int .i64 r2]) ∧ Below w.heap.size w w' := by
 have hu24 := Try.underlying24
 have HB := AX (Below.refl w.heap.size w)
 have H : (if a0 < 101 then (pylonref09_Day.j0 k a0 true) else (pylonref09_Day.j0 k a0 (decide (a0 > 1231)))) = some (r1, r2) := h
 clear h
 have HC2 := AX H
 clear H
 go_enter Try.func73, Try.ntmps73
 go_upto_region 1 with (fail)
 go_cut [11] (fun v11 wc => ∃ (kq : Nat) (x11_1 : Bool), v11 = .bool x11_1 ∧ Aside0 (pylonref09_Day.j0 kq a0 x11_1 = some (r1, r2)) ∧ Aside0 (kq ≤ k) ∧ Aside0 (Below w.heap.size w wc))
 case first =>
  have H := HC2.out
  clear HC2
  by_cases c3 : a0 < 101
  ·rw [if_pos c3] at H
   have c3b0 : decide (a0 < 101) = true := decide_eq_true c3
   clear c3
   (first | rw [c3b0] | (simp only [i64_w, i32_w]; rw [c3b0]) | skip)
   have H' := AX H
   clear H
   go_wp2
   go_meet
   case rel => exact ⟨_, (true), (by first | rfl | (simp; done) | (simp [*]; done)), H', ⟨by first | omega | exact Nat.le_refl _⟩, ⟨bw⟩⟩
  ·rw [if_neg c3] at H
   have c3b0 : decide (a0 < 101) = false := decide_eq_false c3
   clear c3
   (first | rw [c3b0] | (simp only [i64_w, i32_w]; rw [c3b0]) | skip)
   have H' := AX H
   clear H
   go_wp2
   go_meet
   case rel => exact ⟨_, (decide (a0 > 1231)), (by first | rfl | (simp; done) | (simp [*]; done)), H', ⟨by first | omega | exact Nat.le_refl _⟩, ⟨bw⟩⟩
 case rest =>
  clear HC2
  obtain ⟨kq, x11_1, rfl, HA, HJ1, HB⟩ := hcut
  cases kq with
  | zero => exact absurd HA.out (by simp [pylonref09_Day.j0])
  | succ kj1 =>
   have H := HA.out
   clear HA
   simp only [pylonref09_Day.j0] at H
   by_cases c4 : x11_1 = true
   ·subst c4
    have H1 : (some (0, 8)) = some (r1, r2) := by rw [if_pos rfl] at H; exact H
    clear H
    have H := H1
    clear H1
    simp only [Option.some.injEq, Prod.mk.injEq] at H
    obtain ⟨rfl, rfl⟩ := H
    go_wp2
    go_ret2
    exact ⟨by first | rfl | (simp [errW_none, errW_some] <;> rfl) | (simp [*, errW_none, errW_some] <;> rfl), bw⟩
   ·replace c4 := Bool.eq_false_iff.mpr c4
    subst c4
    have H1 : ((pylonref03_YearDay.f kj1 2000 (wrap64 (Int.tdiv a0 100)) (Int.tmod a0 100)).bind fun bt274 => (if bt274.2 = 0 then (some (bt274.1, 0)) else (some (0, 8)))) = some (r1, r2) := by rw [if_neg (show ¬ (false = true) by decide)] at H; exact H
    clear H
    have H := H1
    clear H1
    replace H := Option.bind_eq_some_iff.mp H
    obtain ⟨⟨t274, t275⟩, A50, H⟩ := H
    replace H : (if t275 = 0 then (some (t274, 0)) else (some (0, 8))) = some (r1, r2) := H
    have A5 := AX A50
    clear A50
    by_cases c6 : t275 = 0
    ·rw [if_pos c6] at H
     have c6b0 : (t275 == 0) = true := beq_iff_eq.mpr c6
     have c6b1 : (t275 != 0) = false := bne_eq_false_iff_eq.mpr c6
     clear c6
     simp only [Option.some.injEq, Prod.mk.injEq] at H
     obtain ⟨rfl, rfl⟩ := H
     go_wp2_with (first | ((with_reducible refine gate_callee (f := 71) rfl ?_); refine goesL_ (some 18) rfl rfl Try.func71 (by kernel_rfl) rfl #[.agg #[.int .i64 2000, .int .i64 (wrap64 (Int.tdiv a0 100)), .int .i64 (Int.tmod a0 100)]] rfl (by (try simp only [List.map_toArray, List.map_cons, List.map_nil]); first | done | rfl | (simp only [List.length_drop, List.length_take]; rfl)) ?_; (with_reducible refine (pylonref03_YearDay.calls kj1 2000 (wrap64 (Int.tdiv a0 100)) (Int.tmod a0 100) t274 t275 _ A5.out).mono ?_); rintro e w7 ⟨rfl, hb⟩; refine ⟨_, rfl, ?_⟩; have n0_ := AX (below_step bw hb); clear HB; have HB := n0_; clear n0_; (try clear hb)))
     go_ret2
     exact ⟨by first | rfl | (simp [errW_none, errW_some] <;> rfl) | (simp [*, errW_none, errW_some] <;> rfl), bw⟩
    ·rw [if_neg c6] at H
     have c6b0 : (t275 == 0) = false := beq_eq_false_iff_ne.mpr c6
     have c6b1 : (t275 != 0) = true := bne_iff_ne.mpr c6
     simp only [Option.some.injEq, Prod.mk.injEq] at H
     obtain ⟨rfl, rfl⟩ := H
     go_wp2_with (first | ((with_reducible refine gate_callee (f := 71) rfl ?_); refine goesL_ (some 18) rfl rfl Try.func71 (by kernel_rfl) rfl #[.agg #[.int .i64 2000, .int .i64 (wrap64 (Int.tdiv a0 100)), .int .i64 (Int.tmod a0 100)]] rfl (by (try simp only [List.map_toArray, List.map_cons, List.map_nil]); first | done | rfl | (simp only [List.length_drop, List.length_take]; rfl)) ?_; (with_reducible refine (pylonref03_YearDay.calls kj1 2000 (wrap64 (Int.tdiv a0 100)) (Int.tmod a0 100) t274 t275 _ A5.out).mono ?_); rintro e w8 ⟨rfl, hb⟩; refine ⟨_, rfl, ?_⟩; have n0_ := AX (below_step bw hb); clear HB; have HB := n0_; clear n0_; (try clear hb)))
     go_ret2
     exact ⟨by first | rfl | (simp [errW_none, errW_some] <;> rfl) | (simp [*, errW_none, errW_some] <;> rfl), bw⟩

/-! ### pylonref09_Holds: function 47 -/
def pylonref09_Holds.j0 : Nat → Int → Int → Int → Bool → Option (Bool)
 | 0, _, _, _, _ => none
 | k + 1, x5, x7, x9, x37 => if x37 = true then (some false) else (if x7 ≤ x9 then (if x5 ≥ x7 then (some (decide (x5 ≤ x9))) else (some false)) else (if x5 ≥ x7 then (some true) else (some (decide (x5 ≤ x9)))))
def pylonref09_Holds.f (k : Nat) (a0_0 : ByteArray) (a0_1 : Int) (a0_2 : Int) (a1 : Int) : Option (Bool) := (pylonref09_Day.f k a1).bind fun bt277 => ((pylonref09_Day.f k a0_1).bind fun bt279 => ((pylonref09_Day.f k a0_2).bind fun bt281 => (if bt277.2 = 0 then (if bt279.2 = 0 then (pylonref09_Holds.j0 k bt277.1 bt279.1 bt281.1 (bt281.2 != 0)) else (pylonref09_Holds.j0 k bt277.1 bt279.1 bt281.1 true)) else (pylonref09_Holds.j0 k bt277.1 bt279.1 bt281.1 true))))
theorem pylonref09_Holds.mono_l : ∀ k, (∀ y0 y1 y2 y3, LeO (pylonref09_Holds.j0 k y0 y1 y2 y3) (pylonref09_Holds.j0 (k + 1) y0 y1 y2 y3))
 | 0 => fun _ _ _ _ r h => by simp [pylonref09_Holds.j0] at h
 | k + 1 => by
  have ih0 := pylonref09_Holds.mono_l k
  ·intro y0 y1 y2 y3
   unfold pylonref09_Holds.j0
   repeat' first
   | (with_reducible exact ih0 _ _ _ _)
   | (with_reducible exact pylonref09_Day.mono _ _)
   | (with_reducible exact LeO.refl _)
   | (with_reducible exact LeO.none _)
   | (with_reducible refine LeO.ite ?_ ?_)
   | (with_reducible refine LeO.bind ?_ (fun _ => ?_))
   | exact ih0 _ _ _ _
   | exact pylonref09_Day.mono _ _
   | exact LeO.none _
   | refine LeO.ite ?_ ?_
   | refine LeO.bind ?_ (fun _ => ?_)
theorem pylonref09_Holds.mono : ∀ a0 a1 a2 a3 k, LeO (pylonref09_Holds.f k a0 a1 a2 a3) (pylonref09_Holds.f (k + 1) a0 a1 a2 a3) := by
 intro a0 a1 a2 a3 k
 have ih0 := pylonref09_Holds.mono_l k
 unfold pylonref09_Holds.f
 repeat' first
   | (with_reducible exact ih0 _ _ _ _)
   | (with_reducible exact pylonref09_Day.mono _ _)
   | (with_reducible exact LeO.refl _)
   | (with_reducible exact LeO.none _)
   | (with_reducible refine LeO.ite ?_ ?_)
   | (with_reducible refine LeO.bind ?_ (fun _ => ?_))
   | exact ih0 _ _ _ _
   | exact pylonref09_Day.mono _ _
   | exact LeO.none _
   | refine LeO.ite ?_ ?_
   | refine LeO.bind ?_ (fun _ => ?_)
set_option maxHeartbeats 8000000 in
set_option maxRecDepth 100000 in
theorem pylonref09_Holds.calls (k : Nat) (a0_0 : ByteArray) (a0_1 : Int) (a0_2 : Int) (a1 : Int) (r : Bool) (w : World) (h : pylonref09_Holds.f k a0_0 a0_1 a0_2 a1 = some r) :
  Calls Try.prog 47 #[.agg #[.string a0_0, .int .i64 a0_1, .int .i64 a0_2], .int .i64 a1] w fun e w' => e = .returned (.bool r) ∧ Below w.heap.size w w' := by
 have hu58 := Try.underlying58
 have HB := AX (Below.refl w.heap.size w)
 have H : ((pylonref09_Day.f k a1).bind fun bt277 => ((pylonref09_Day.f k a0_1).bind fun bt279 => ((pylonref09_Day.f k a0_2).bind fun bt281 => (if bt277.2 = 0 then (if bt279.2 = 0 then (pylonref09_Holds.j0 k bt277.1 bt279.1 bt281.1 (bt281.2 != 0)) else (pylonref09_Holds.j0 k bt277.1 bt279.1 bt281.1 true)) else (pylonref09_Holds.j0 k bt277.1 bt279.1 bt281.1 true))))) = some r := h
 clear h
 replace H := Option.bind_eq_some_iff.mp H
 obtain ⟨⟨t277, t278⟩, A30, H⟩ := H
 replace H : ((pylonref09_Day.f k a0_1).bind fun bt279 => ((pylonref09_Day.f k a0_2).bind fun bt281 => (if t278 = 0 then (if bt279.2 = 0 then (pylonref09_Holds.j0 k t277 bt279.1 bt281.1 (bt281.2 != 0)) else (pylonref09_Holds.j0 k t277 bt279.1 bt281.1 true)) else (pylonref09_Holds.j0 k t277 bt279.1 bt281.1 true)))) = some r := H
 have A3 := AX A30
 clear A30
 replace H := Option.bind_eq_some_iff.mp H
 obtain ⟨⟨t279, t280⟩, A40, H⟩ := H
 replace H : ((pylonref09_Day.f k a0_2).bind fun bt281 => (if t278 = 0 then (if t280 = 0 then (pylonref09_Holds.j0 k t277 t279 bt281.1 (bt281.2 != 0)) else (pylonref09_Holds.j0 k t277 t279 bt281.1 true)) else (pylonref09_Holds.j0 k t277 t279 bt281.1 true))) = some r := H
 have A4 := AX A40
 clear A40
 replace H := Option.bind_eq_some_iff.mp H
 obtain ⟨⟨t281, t282⟩, A50, H⟩ := H
 replace H : (if t278 = 0 then (if t280 = 0 then (pylonref09_Holds.j0 k t277 t279 t281 (t282 != 0)) else (pylonref09_Holds.j0 k t277 t279 t281 true)) else (pylonref09_Holds.j0 k t277 t279 t281 true)) = some r := H
 have A5 := AX A50
 clear A50
 have HC6 := AX H
 clear H
 go_enter Try.func47, Try.ntmps47
 go_upto_region 4 with (first | ((with_reducible refine gate_dst (N := 2) rfl ?_); refine box_event ?hg (N := 2) ?hd (cs := #[.string a0_0, .int .i64 a0_1, .int .i64 a0_2]) (t := 58) ?hr ?_; (case hd => rfl); (case hg => rfl); (case hr => first | (go_simp; done) | (go_simp; rfl)); intro gb276 hg w7 hbox hb; have n0_ := AX (below_step bw hb); have n1_ := AX (hbox); have n2_ := AX ((by rw [hg]; exact (below_size bw) : w.heap.size ≤ gb276)); have n3_ := AX ((by rw [hg]; exact (below_size bw) : w.heap.size ≤ gb276)); clear HB; have HB := n0_; have BK276 := n1_; have GW276 := n2_; have GE276 := n3_; clear n0_ n1_ n2_ n3_; clear hb hbox hg) | ((with_reducible refine gate_callee (f := 73) rfl ?_); refine goesL_ (some 13) rfl rfl Try.func73 (by kernel_rfl) rfl #[.int .i64 a1] rfl (by (try simp only [List.map_toArray, List.map_cons, List.map_nil]); first | done | rfl | (simp only [List.length_drop, List.length_take]; rfl)) ?_; (with_reducible refine (pylonref09_Day.calls k a1 t277 t278 _ A3.out).mono ?_); rintro e w8 ⟨rfl, hb⟩; refine ⟨_, rfl, ?_⟩; have n0_ := AX (bkb BK276 hb); have n1_ := AX (below_step bw hb); clear BK276; clear HB; have BK276 := n0_; have HB := n1_; clear n0_ n1_; (try clear hb); obtain ⟨hcz9_0, hcz9_1, hcz9_2⟩ := blkC3 (w := w8) BK276.out; obtain ⟨hfz9_0, hfz9_1, hfz9_2⟩ := blkF3 BK276.out) | ((with_reducible refine gate_callee (f := 73) rfl ?_); refine goesL_ (some 19) rfl rfl Try.func73 (by kernel_rfl) rfl #[.int .i64 a0_1] rfl (by (try simp only [List.map_toArray, List.map_cons, List.map_nil]); first | done | rfl | (simp only [List.length_drop, List.length_take]; rfl)) ?_; (with_reducible refine (pylonref09_Day.calls k a0_1 t279 t280 _ A4.out).mono ?_); rintro e w10 ⟨rfl, hb⟩; refine ⟨_, rfl, ?_⟩; have n0_ := AX (bkb BK276 hb); have n1_ := AX (below_step bw hb); clear BK276; clear HB; have BK276 := n0_; have HB := n1_; clear n0_ n1_; (try clear hb); obtain ⟨hcz11_0, hcz11_1, hcz11_2⟩ := blkC3 (w := w10) BK276.out; obtain ⟨hfz11_0, hfz11_1, hfz11_2⟩ := blkF3 BK276.out) | ((with_reducible refine gate_callee (f := 73) rfl ?_); refine goesL_ (some 25) rfl rfl Try.func73 (by kernel_rfl) rfl #[.int .i64 a0_2] rfl (by (try simp only [List.map_toArray, List.map_cons, List.map_nil]); first | done | rfl | (simp only [List.length_drop, List.length_take]; rfl)) ?_; (with_reducible refine (pylonref09_Day.calls k a0_2 t281 t282 _ A5.out).mono ?_); rintro e w12 ⟨rfl, hb⟩; refine ⟨_, rfl, ?_⟩; have n0_ := AX (bkb BK276 hb); have n1_ := AX (below_step bw hb); clear BK276; clear HB; have BK276 := n0_; have HB := n1_; clear n0_ n1_; (try clear hb)))
 (try simp only [Act.put, List.setIfInBounds_toArray, List.set_cons_zero, List.set_cons_succ])
 go_cut [37] (fun v37 wc => ∃ (kq : Nat) (x37_5 : Bool), v37 = .bool x37_5 ∧ Aside0 (pylonref09_Holds.j0 kq t277 t279 t281 x37_5 = some r) ∧ Aside0 (kq ≤ k) ∧ Aside0 (wc.heap[gb276]? = some (.cells #[.string a0_0, .int .i64 a0_1, .int .i64 a0_2] 58 (0, 0))) ∧ Aside0 (Below w.heap.size w wc))
 case first =>
  have H := HC6.out
  clear HC6
  by_cases c13 : t278 = 0
  ·rw [if_pos c13] at H
   have c13b0 : (t278 == 0) = true := beq_iff_eq.mpr c13
   have c13b1 : (t278 != 0) = false := bne_eq_false_iff_eq.mpr c13
   clear c13
   (first | rw [c13b0] | (simp only [i64_w, i32_w]; rw [c13b0]) | skip)
   by_cases c14 : t280 = 0
   ·rw [if_pos c14] at H
    have c14b0 : (t280 == 0) = true := beq_iff_eq.mpr c14
    have c14b1 : (t280 != 0) = false := bne_eq_false_iff_eq.mpr c14
    clear c14
    have H' := AX H
    clear H
    go_wp2
    go_meet
    case rel => exact ⟨_, ((t282 != 0)), (by first | rfl | (simp; done) | (simp [*]; done)), H', ⟨by first | omega | exact Nat.le_refl _⟩, ⟨bkn BK276⟩, ⟨bw⟩⟩
   ·rw [if_neg c14] at H
    have c14b0 : (t280 == 0) = false := beq_eq_false_iff_ne.mpr c14
    have c14b1 : (t280 != 0) = true := bne_iff_ne.mpr c14
    have H' := AX H
    clear H
    go_wp2
    go_meet
    case rel => exact ⟨_, (true), (by first | rfl | (simp; done) | (simp [*]; done)), H', ⟨by first | omega | exact Nat.le_refl _⟩, ⟨bkn BK276⟩, ⟨bw⟩⟩
  ·rw [if_neg c13] at H
   have c13b0 : (t278 == 0) = false := beq_eq_false_iff_ne.mpr c13
   have c13b1 : (t278 != 0) = true := bne_iff_ne.mpr c13
   (first | rw [c13b0] | (simp only [i64_w, i32_w]; rw [c13b0]) | skip)
   have H' := AX H
   clear H
   go_wp2
   go_meet
   case rel => exact ⟨_, (true), (by first | rfl | (simp; done) | (simp [*]; done)), H', ⟨by first | omega | exact Nat.le_refl _⟩, ⟨bkn BK276⟩, ⟨bw⟩⟩
 case rest =>
  clear HC6
  try clear hcz11_0
  try clear hcz11_1
  try clear hcz11_2
  try clear hcz9_0
  try clear hcz9_1
  try clear hcz9_2
  try clear hfz11_0
  try clear hfz11_1
  try clear hfz11_2
  try clear hfz9_0
  try clear hfz9_1
  try clear hfz9_2
  obtain ⟨kq, x37_5, rfl, HA, HJ5, BK276, HB⟩ := hcut
  cases kq with
  | zero => exact absurd HA.out (by simp [pylonref09_Holds.j0])
  | succ kj5 =>
   have H := HA.out
   clear HA
   simp only [pylonref09_Holds.j0] at H
   by_cases c15 : x37_5 = true
   ·subst c15
    have H1 : (some false) = some r := by rw [if_pos rfl] at H; exact H
    clear H
    have H := H1
    clear H1
    obtain rfl := Option.some.inj H
    go_wp2
    go_ret
    exact ⟨by first | rfl | (simp [errW_none, errW_some] <;> rfl) | (simp [*, errW_none, errW_some] <;> rfl), bw⟩
   ·replace c15 := Bool.eq_false_iff.mpr c15
    subst c15
    have H1 : (if t279 ≤ t281 then (if t277 ≥ t279 then (some (decide (t277 ≤ t281))) else (some false)) else (if t277 ≥ t279 then (some true) else (some (decide (t277 ≤ t281))))) = some r := by rw [if_neg (show ¬ (false = true) by decide)] at H; exact H
    clear H
    have H := H1
    clear H1
    by_cases c16 : t279 ≤ t281
    ·rw [if_pos c16] at H
     have c16b0 : decide (t279 ≤ t281) = true := decide_eq_true c16
     clear c16
     by_cases c17 : t277 ≥ t279
     ·rw [if_pos c17] at H
      have c17b0 : decide (t279 ≤ t277) = true := decide_eq_true c17
      clear c17
      obtain rfl := Option.some.inj H
      go_wp2
      go_ret
      exact ⟨by first | rfl | (simp [errW_none, errW_some] <;> rfl) | (simp [*, errW_none, errW_some] <;> rfl), bw⟩
     ·rw [if_neg c17] at H
      have c17b0 : decide (t279 ≤ t277) = false := decide_eq_false c17
      clear c17
      obtain rfl := Option.some.inj H
      go_wp2
      go_ret
      exact ⟨by first | rfl | (simp [errW_none, errW_some] <;> rfl) | (simp [*, errW_none, errW_some] <;> rfl), bw⟩
    ·rw [if_neg c16] at H
     have c16b0 : decide (t279 ≤ t281) = false := decide_eq_false c16
     clear c16
     by_cases c18 : t277 ≥ t279
     ·rw [if_pos c18] at H
      have c18b0 : decide (t279 ≤ t277) = true := decide_eq_true c18
      clear c18
      obtain rfl := Option.some.inj H
      go_wp2
      go_ret
      exact ⟨by first | rfl | (simp [errW_none, errW_some] <;> rfl) | (simp [*, errW_none, errW_some] <;> rfl), bw⟩
     ·rw [if_neg c18] at H
      have c18b0 : decide (t279 ≤ t277) = false := decide_eq_false c18
      clear c18
      obtain rfl := Option.some.inj H
      go_wp2
      go_ret
      exact ⟨by first | rfl | (simp [errW_none, errW_some] <;> rfl) | (simp [*, errW_none, errW_some] <;> rfl), bw⟩

end Go.Proofs.Ytkggjjggcbcdiaa.PX
