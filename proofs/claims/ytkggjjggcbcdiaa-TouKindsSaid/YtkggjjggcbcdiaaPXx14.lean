/- Functions of the program as plain Lean functions, each with a proof that the call in the machine answers just what the plain function says; condition: the plain function answers at all. -/
import Derived.Test.YtkggjjggcbcdiaaPXx0
import Derived.Test.YtkggjjggcbcdiaaPXx1
import Derived.Test.YtkggjjggcbcdiaaPXx10
import Derived.Test.YtkggjjggcbcdiaaPXx11
import Derived.Test.YtkggjjggcbcdiaaPXx13
namespace Go.Proofs.Ytkggjjggcbcdiaa.PX
open Go.RowKit Go.Proofs.YtkggjjggcbcdiaaW.PrintWords Go.Proofs.YtkggjjggcbcdiaaW.PrintLast Go.Proofs.YtkggjjggcbcdiaaW.PrintMore
attribute [local go_sem] max2_int min2_int max_two min_two max_three min_three max_four min_four   -- for this text's walks alone
set_option linter.unusedVariables false
set_option linter.unusedSimpArgs false

attribute [local go_sem high] eqA24
/-! ### pylonref05_falls: function 46 -/
mutual
def pylonref05_falls.l0 : Nat → List (S65) → Int → Int → Int → Int → Int → Option (Bool)
 | 0, _, _, _, _, _, _ => none
 | k + 1, x0, x10, x11, x242000, x242001, x242002 => if x11 < x10 then (pylonref05_falls.l1 k x0 x11 (wrap64 (x242000 - 1)) x10 x11 x242000 x242001 x242002) else (some false)
def pylonref05_falls.l1 : Nat → List (S65) → Int → Int → Int → Int → Int → Int → Int → Option (Bool)
 | 0, _, _, _, _, _, _, _, _ => none
 | k + 1, x0, x5, x6, x10, x11, x242000, x242001, x242002 => if x6 ≤ (wrap64 (x242000 + 1)) then (if 0 ≤ x5 then (if x5 < (x0.length : Int) then ((pylonref05_On.f k ((rd_T65 x0 x5).f0) ((rd_T65 x0 x5).f1) ((rd_T65 x0 x5).f2) ((rd_T65 x0 x5).f3) x6).bind fun bt243 => (if bt243.2.2.2 = 0 then (if (bt243.1 == x242000 && (bt243.2.1 == x242001 && (bt243.2.2.1 == x242002))) = true then (some true) else (pylonref05_falls.l1 k x0 x5 (wrap64 (x6 + 1)) x10 x11 x242000 x242001 x242002)) else (pylonref05_falls.l1 k x0 x5 (wrap64 (x6 + 1)) x10 x11 x242000 x242001 x242002))) else (none)) else (none)) else (pylonref05_falls.l0 k x0 x10 (wrap64 (x11 + 1)) x242000 x242001 x242002)
end
def pylonref05_falls.f (k : Nat) (l0 : List (S65)) (a1_0 : Int) (a1_1 : Int) (a1_2 : Int) : Option (Bool) := pylonref05_falls.l0 k l0 (l0.length : Int) 0 a1_0 a1_1 a1_2
theorem pylonref05_falls.mono_l : ∀ k, (∀ y0 y1 y2 y3 y4 y5, LeO (pylonref05_falls.l0 k y0 y1 y2 y3 y4 y5) (pylonref05_falls.l0 (k + 1) y0 y1 y2 y3 y4 y5)) ∧ (∀ y0 y1 y2 y3 y4 y5 y6 y7, LeO (pylonref05_falls.l1 k y0 y1 y2 y3 y4 y5 y6 y7) (pylonref05_falls.l1 (k + 1) y0 y1 y2 y3 y4 y5 y6 y7))
 | 0 => ⟨fun _ _ _ _ _ _ r h => by simp [pylonref05_falls.l0] at h, fun _ _ _ _ _ _ _ _ r h => by simp [pylonref05_falls.l1] at h⟩
 | k + 1 => by
  obtain ⟨ih0, ih1⟩ := pylonref05_falls.mono_l k
  refine ⟨?_, ?_⟩
  ·intro y0 y1 y2 y3 y4 y5
   unfold pylonref05_falls.l0
   repeat' first
   | (with_reducible exact ih0 _ _ _ _ _ _)
   | (with_reducible exact ih1 _ _ _ _ _ _ _ _)
   | (with_reducible exact pylonref05_On.mono _ _ _ _ _ _)
   | (with_reducible exact LeO.refl _)
   | (with_reducible exact LeO.none _)
   | (with_reducible refine LeO.ite ?_ ?_)
   | (with_reducible refine LeO.bind ?_ (fun _ => ?_))
   | exact ih0 _ _ _ _ _ _
   | exact ih1 _ _ _ _ _ _ _ _
   | exact pylonref05_On.mono _ _ _ _ _ _
   | exact LeO.none _
   | refine LeO.ite ?_ ?_
   | refine LeO.bind ?_ (fun _ => ?_)
  ·intro y0 y1 y2 y3 y4 y5 y6 y7
   unfold pylonref05_falls.l1
   repeat' first
   | (with_reducible exact ih0 _ _ _ _ _ _)
   | (with_reducible exact ih1 _ _ _ _ _ _ _ _)
   | (with_reducible exact pylonref05_On.mono _ _ _ _ _ _)
   | (with_reducible exact LeO.refl _)
   | (with_reducible exact LeO.none _)
   | (with_reducible refine LeO.ite ?_ ?_)
   | (with_reducible refine LeO.bind ?_ (fun _ => ?_))
   | exact ih0 _ _ _ _ _ _
   | exact ih1 _ _ _ _ _ _ _ _
   | exact pylonref05_On.mono _ _ _ _ _ _
   | exact LeO.none _
   | refine LeO.ite ?_ ?_
   | refine LeO.bind ?_ (fun _ => ?_)
theorem pylonref05_falls.mono : ∀ a0 a1 a2 a3 k, LeO (pylonref05_falls.f k a0 a1 a2 a3) (pylonref05_falls.f (k + 1) a0 a1 a2 a3) := by
 intro a0 a1 a2 a3 k
 obtain ⟨ih0, ih1⟩ := pylonref05_falls.mono_l k
 unfold pylonref05_falls.f
 repeat' first
   | (with_reducible exact ih0 _ _ _ _ _ _)
   | (with_reducible exact ih1 _ _ _ _ _ _ _ _)
   | (with_reducible exact pylonref05_On.mono _ _ _ _ _ _)
   | (with_reducible exact LeO.refl _)
   | (with_reducible exact LeO.none _)
   | (with_reducible refine LeO.ite ?_ ?_)
   | (with_reducible refine LeO.bind ?_ (fun _ => ?_))
   | exact ih0 _ _ _ _ _ _
   | exact ih1 _ _ _ _ _ _ _ _
   | exact pylonref05_On.mono _ _ _ _ _ _
   | exact LeO.none _
   | refine LeO.ite ?_ ?_
   | refine LeO.bind ?_ (fun _ => ?_)
set_option maxHeartbeats 8000000 in
set_option maxRecDepth 100000 in
theorem pylonref05_falls.calls (k : Nat) (A0 : Option Addr) (c0 : Nat) (l0 : List (S65)) (a1_0 : Int) (a1_1 : Int) (a1_2 : Int) (r : Bool) (w : World) (hr0 : Kd.C k65 w A0 l0.length l0) (hc0 : l0.length ≤ c0) (h : pylonref05_falls.f k l0 a1_0 a1_1 a1_2 = some r) :
  Calls Try.prog 46 #[.slice A0 l0.length c0, .agg #[.int .i64 a1_0, .int .i64 a1_1, .int .i64 a1_2]] w fun e w' => e = .returned (.bool r) ∧ Below w.heap.size w w' := by
 have hu24 := Try.underlying24
 have hu65 := Try.underlying65
 have HR0 := AX hr0
 have HC0 := AX hc0
 clear hr0 hc0
 have HB := AX (Below.refl w.heap.size w)
 have H : (pylonref05_falls.l0 k l0 (l0.length : Int) 0 a1_0 a1_1 a1_2) = some r := h
 clear h
 have H' := AX H
 clear H
 go_enter Try.func46, Try.ntmps46
 go_wp2_with (first | ((with_reducible refine gate_dst (N := 3) rfl ?_); refine box_event ?hg (N := 3) ?hd (cs := #[.int .i64 a1_0, .int .i64 a1_1, .int .i64 a1_2]) (t := 24) ?hr ?_; (case hd => rfl); (case hg => rfl); (case hr => first | (go_simp; done) | (go_simp; rfl)); intro gb241 hg w3 hbox hb; have n0_ := AX (below_step bw hb); have n1_ := AX (hbox); have n2_ := AX ((by rw [hg]; exact (below_size bw) : w.heap.size ≤ gb241)); have n3_ := AX ((by rw [hg]; exact (below_size bw) : w.heap.size ≤ gb241)); clear HB; have HB := n0_; have BK241 := n1_; have GW241 := n2_; have GE241 := n3_; clear n0_ n1_ n2_ n3_; clear hb hbox hg))
 go_loopg [11] k (fun kq v11 w' => ∃ (x11_1 : Int), v11 = .int .i64 x11_1 ∧ Aside0 (pylonref05_falls.l0 kq l0 (l0.length : Int) x11_1 a1_0 a1_1 a1_2 = some r) ∧ Aside0 (kq ≤ k) ∧ Aside0 (w'.heap[gb241]? = some (.cells #[.int .i64 a1_0, .int .i64 a1_1, .int .i64 a1_2] 24 (0, 0))) ∧ Aside0 (Below w.heap.size w w'))
 case atStart => exact ⟨(0), (by first | rfl | (simp; done) | (simp [*]; done)), H', ⟨Nat.le_refl _⟩, ⟨bkn BK241⟩, ⟨bw⟩⟩
 case round =>
  clear H'
  obtain ⟨x11_1, rfl, HA, HK1, BK241, HB⟩ := hrel
  cases gk with
  | zero => exact absurd HA.out (by simp [pylonref05_falls.l0])
  | succ k1 =>
   have H := HA.out
   clear HA
   simp only [pylonref05_falls.l0] at H
   by_cases c4 : x11_1 < (l0.length : Int)
   ·rw [if_pos c4] at H
    have c4b0 : decide (x11_1 < (l0.length : Int)) = true := decide_eq_true c4
    clear c4
    have H' := AX H
    clear H
    obtain ⟨hcz5_0, hcz5_1, hcz5_2⟩ := blkC3 (w := wr) BK241.out
    obtain ⟨hfz5_0, hfz5_1, hfz5_2⟩ := blkF3 BK241.out
    go_wp2
    go_loopg [6] k1 (fun kq v6 w' => ∃ (x6_2 : Int), v6 = .int .i64 x6_2 ∧ Aside0 (pylonref05_falls.l1 kq l0 x11_1 x6_2 (l0.length : Int) x11_1 a1_0 a1_1 a1_2 = some r) ∧ Aside0 (kq ≤ k1) ∧ Aside0 (w'.heap[gb241]? = some (.cells #[.int .i64 a1_0, .int .i64 a1_1, .int .i64 a1_2] 24 (0, 0))) ∧ Aside0 (Below w.heap.size w w'))
    case atStart => exact ⟨(wrap64 (a1_0 - 1)), (by first | rfl | (simp; done) | (simp [*]; done)), H', ⟨Nat.le_refl _⟩, ⟨bkn BK241⟩, ⟨bw⟩⟩
    case round =>
     clear H'
     try clear c4
     try clear c4b0
     try clear hcz5_0
     try clear hcz5_1
     try clear hcz5_2
     try clear hfz5_0
     try clear hfz5_1
     try clear hfz5_2
     obtain ⟨x6_2, rfl, HA, HK2, BK241, HB⟩ := hrel
     cases gk with
     | zero => exact absurd HA.out (by simp [pylonref05_falls.l1])
     | succ k2 =>
      have H := HA.out
      clear HA
      simp only [pylonref05_falls.l1] at H
      by_cases c6 : x6_2 ≤ (wrap64 (a1_0 + 1))
      ·rw [if_pos c6] at H
       have c6b0 : decide (x6_2 ≤ (wrap64 (a1_0 + 1))) = true := decide_eq_true c6
       clear c6
       by_cases c7 : 0 ≤ x11_1
       ·rw [if_pos c7] at H
        have c7b0 : decide (0 ≤ x11_1) = true := decide_eq_true c7
        clear c7
        by_cases c8 : x11_1 < (l0.length : Int)
        ·rw [if_pos c8] at H
         have c8b0 : decide (x11_1 < (l0.length : Int)) = true := decide_eq_true c8
         clear c8
         replace H := Option.bind_eq_some_iff.mp H
         obtain ⟨⟨t243, t244, t245, t246⟩, A90, H⟩ := H
         replace H : (if t246 = 0 then (if (t243 == a1_0 && (t244 == a1_1 && (t245 == a1_2))) = true then (some true) else (pylonref05_falls.l1 k2 l0 x11_1 (wrap64 (x6_2 + 1)) (l0.length : Int) x11_1 a1_0 a1_1 a1_2)) else (pylonref05_falls.l1 k2 l0 x11_1 (wrap64 (x6_2 + 1)) (l0.length : Int) x11_1 a1_0 a1_1 a1_2)) = some r := H
         have A9 := AX A90
         clear A90
         by_cases c10 : t246 = 0
         ·rw [if_pos c10] at H
          have c10b0 : (t246 == 0) = true := beq_iff_eq.mpr c10
          have c10b1 : (t246 != 0) = false := bne_eq_false_iff_eq.mpr c10
          clear c10
          by_cases c11 : (t243 == a1_0 && (t244 == a1_1 && (t245 == a1_2))) = true
          ·rw [if_pos c11] at H
           have c11b0 : (t243 == a1_0 && (t244 == a1_1 && (t245 == a1_2))) = true := c11
           (try (have c11b1 : decide (t243 = a1_0 && (t244 == a1_1 && (t245 == a1_2))) = true := by simpa using c11))
           (try (have c11b2 : (t243 == a1_0 && (t244 == a1_1 && (t245 == a1_2))) = true := by simpa using c11))
           clear c11
           obtain rfl := Option.some.inj H
           obtain ⟨hcz12_0, hcz12_1, hcz12_2⟩ := blkC3 (w := wr) BK241.out
           obtain ⟨hfz12_0, hfz12_1, hfz12_2⟩ := blkF3 BK241.out
           have p242 : 0 ≤ (x11_1 : Int) := of_decide_eq_true (by first | (with_reducible assumption) | assumption)
           have q242 : x11_1 < (l0.length : Int) := of_decide_eq_true (by first | (with_reducible assumption) | assumption)
           obtain ⟨ad242, e242, hx242_0, hx242_1, hx242_2, hx242_3⟩ := at_T65 HR0.out x11_1 p242 q242
           cases e242
           replace hx242_0 := (HB.out.cell (World.block_lt_of_cell? w _ hx242_0)).trans hx242_0
           replace hx242_1 := (HB.out.cell (World.block_lt_of_cell? w _ hx242_1)).trans hx242_1
           replace hx242_2 := (HB.out.cell (World.block_lt_of_cell? w _ hx242_2)).trans hx242_2
           replace hx242_3 := (HB.out.cell (World.block_lt_of_cell? w _ hx242_3)).trans hx242_3
           replace p242 := eq_true p242
           replace q242 := eq_true q242
           go_wp2_with (first | ((with_reducible refine gate_callee (f := 69) rfl ?_); refine goesL_ (some 30) rfl rfl Try.func69 (by kernel_rfl) rfl #[.agg #[.int .i64 ((rd_T65 l0 x11_1).f0), .int .i64 ((rd_T65 l0 x11_1).f1), .int .i64 ((rd_T65 l0 x11_1).f2), .int .i64 ((rd_T65 l0 x11_1).f3)], .int .i64 x6_2] rfl (by (try simp only [List.map_toArray, List.map_cons, List.map_nil]); first | done | rfl | (simp only [List.length_drop, List.length_take]; rfl)) ?_; (with_reducible refine (pylonref05_On.calls k2 ((rd_T65 l0 x11_1).f0) ((rd_T65 l0 x11_1).f1) ((rd_T65 l0 x11_1).f2) ((rd_T65 l0 x11_1).f3) x6_2 t243 t244 t245 t246 _ A9.out).mono ?_); rintro e w13 ⟨rfl, hb⟩; refine ⟨_, rfl, ?_⟩; have n0_ := AX (bkb BK241 hb); have n1_ := AX (below_step bw hb); clear BK241; clear HB; have BK241 := n0_; have HB := n1_; clear n0_ n1_; (try clear hb)) | ((with_reducible refine gate_dst (N := 7) rfl ?_); refine box_event ?hg (N := 7) ?hd (cs := #[.int .i64 0, .int .i64 0, .int .i64 0]) (t := 24) ?hr ?_; (case hd => rfl); (case hg => rfl); (case hr => first | (go_simp; done) | (go_simp; rfl)); intro gb247 hg w14 hbox hb; have n0_ := AX (bkb BK241 hb); have n1_ := AX (below_step bw hb); have n2_ := AX (hbox); have n3_ := AX ((by rw [hg]; exact (below_size bw) : w.heap.size ≤ gb247)); have n4_ := AX ((by rw [hg]; exact (below_size bw) : w.heap.size ≤ gb247)); have n5_ := AX ((by rw [hg]; exact Nat.ne_of_lt (blk_lt (g := gb241) (o := .cells #[.int .i64 a1_0, .int .i64 a1_1, .int .i64 a1_2] 24 (0, 0)) (bkn BK241)) : gb241 ≠ gb247)); have n6_ := AX ((by rw [hg]; exact Nat.ne_of_gt (blk_lt (g := gb241) (o := .cells #[.int .i64 a1_0, .int .i64 a1_1, .int .i64 a1_2] 24 (0, 0)) (bkn BK241)) : gb247 ≠ gb241)); clear BK241; clear HB; have BK241 := n0_; have HB := n1_; have BK247 := n2_; have GW247 := n3_; have GE247 := n4_; have NB241_247 := n5_; have NB247_241 := n6_; clear n0_ n1_ n2_ n3_ n4_ n5_ n6_; clear hb hbox hg; have hnb15 := NB247_241.out; have hnc15 := NB241_247.out; obtain ⟨hcz16_0, hcz16_1, hcz16_2⟩ := blkC3 (w := w14) BK247.out; obtain ⟨hfz16_0, hfz16_1, hfz16_2⟩ := blkF3 BK247.out; obtain ⟨hcz17_0, hcz17_1, hcz17_2⟩ := blkC3 (w := w14) BK241.out; obtain ⟨hfz17_0, hfz17_1, hfz17_2⟩ := blkF3 BK241.out))
           go_ret
           exact ⟨by first | rfl | (simp [errW_none, errW_some] <;> rfl) | (simp [*, errW_none, errW_some] <;> rfl), bw⟩
          ·rw [if_neg c11] at H
           have c11b0 : (t243 == a1_0 && (t244 == a1_1 && (t245 == a1_2))) = false := by simpa using c11
           (try (have c11b1 : decide (t243 = a1_0 && (t244 == a1_1 && (t245 == a1_2))) = false := by simpa using c11))
           (try (have c11b2 : (t243 == a1_0 && (t244 == a1_1 && (t245 == a1_2))) = false := by simpa using c11))
           (try (have c11b3 : ¬ (t243 = a1_0 && (t244 == a1_1 && (t245 == a1_2))) := by simpa using c11))
           clear c11
           have H' := AX H
           clear H
           obtain ⟨hcz18_0, hcz18_1, hcz18_2⟩ := blkC3 (w := wr) BK241.out
           obtain ⟨hfz18_0, hfz18_1, hfz18_2⟩ := blkF3 BK241.out
           have p242 : 0 ≤ (x11_1 : Int) := of_decide_eq_true (by first | (with_reducible assumption) | assumption)
           have q242 : x11_1 < (l0.length : Int) := of_decide_eq_true (by first | (with_reducible assumption) | assumption)
           obtain ⟨ad242, e242, hx242_0, hx242_1, hx242_2, hx242_3⟩ := at_T65 HR0.out x11_1 p242 q242
           cases e242
           replace hx242_0 := (HB.out.cell (World.block_lt_of_cell? w _ hx242_0)).trans hx242_0
           replace hx242_1 := (HB.out.cell (World.block_lt_of_cell? w _ hx242_1)).trans hx242_1
           replace hx242_2 := (HB.out.cell (World.block_lt_of_cell? w _ hx242_2)).trans hx242_2
           replace hx242_3 := (HB.out.cell (World.block_lt_of_cell? w _ hx242_3)).trans hx242_3
           replace p242 := eq_true p242
           replace q242 := eq_true q242
           go_wp2_with (first | ((with_reducible refine gate_callee (f := 69) rfl ?_); refine goesL_ (some 30) rfl rfl Try.func69 (by kernel_rfl) rfl #[.agg #[.int .i64 ((rd_T65 l0 x11_1).f0), .int .i64 ((rd_T65 l0 x11_1).f1), .int .i64 ((rd_T65 l0 x11_1).f2), .int .i64 ((rd_T65 l0 x11_1).f3)], .int .i64 x6_2] rfl (by (try simp only [List.map_toArray, List.map_cons, List.map_nil]); first | done | rfl | (simp only [List.length_drop, List.length_take]; rfl)) ?_; (with_reducible refine (pylonref05_On.calls k2 ((rd_T65 l0 x11_1).f0) ((rd_T65 l0 x11_1).f1) ((rd_T65 l0 x11_1).f2) ((rd_T65 l0 x11_1).f3) x6_2 t243 t244 t245 t246 _ A9.out).mono ?_); rintro e w19 ⟨rfl, hb⟩; refine ⟨_, rfl, ?_⟩; have n0_ := AX (bkb BK241 hb); have n1_ := AX (below_step bw hb); clear BK241; clear HB; have BK241 := n0_; have HB := n1_; clear n0_ n1_; (try clear hb)) | ((with_reducible refine gate_dst (N := 7) rfl ?_); refine box_event ?hg (N := 7) ?hd (cs := #[.int .i64 0, .int .i64 0, .int .i64 0]) (t := 24) ?hr ?_; (case hd => rfl); (case hg => rfl); (case hr => first | (go_simp; done) | (go_simp; rfl)); intro gb247 hg w20 hbox hb; have n0_ := AX (bkb BK241 hb); have n1_ := AX (below_step bw hb); have n2_ := AX (hbox); have n3_ := AX ((by rw [hg]; exact (below_size bw) : w.heap.size ≤ gb247)); have n4_ := AX ((by rw [hg]; exact (below_size bw) : w.heap.size ≤ gb247)); have n5_ := AX ((by rw [hg]; exact Nat.ne_of_lt (blk_lt (g := gb241) (o := .cells #[.int .i64 a1_0, .int .i64 a1_1, .int .i64 a1_2] 24 (0, 0)) (bkn BK241)) : gb241 ≠ gb247)); have n6_ := AX ((by rw [hg]; exact Nat.ne_of_gt (blk_lt (g := gb241) (o := .cells #[.int .i64 a1_0, .int .i64 a1_1, .int .i64 a1_2] 24 (0, 0)) (bkn BK241)) : gb247 ≠ gb241)); clear BK241; clear HB; have BK241 := n0_; have HB := n1_; have BK247 := n2_; have GW247 := n3_; have GE247 := n4_; have NB241_247 := n5_; have NB247_241 := n6_; clear n0_ n1_ n2_ n3_ n4_ n5_ n6_; clear hb hbox hg; have hnb21 := NB247_241.out; have hnc21 := NB241_247.out; obtain ⟨hcz22_0, hcz22_1, hcz22_2⟩ := blkC3 (w := w20) BK247.out; obtain ⟨hfz22_0, hfz22_1, hfz22_2⟩ := blkF3 BK247.out; obtain ⟨hcz23_0, hcz23_1, hcz23_2⟩ := blkC3 (w := w20) BK241.out; obtain ⟨hfz23_0, hfz23_1, hfz23_2⟩ := blkF3 BK241.out))
           go_roundg k2
           case measure => have := HK1.out; have := HK2.out; omega
           case rel => exact ⟨(wrap64 (x6_2 + 1)), (by first | rfl | (simp; done) | (simp [*]; done)), H', ⟨by have := HK1.out; have := HK2.out; omega⟩, ⟨by (with_reducible repeat first|refine blk_drewN ?_ _|refine blk_drew ?_|refine blk_alloc ?_ _); refine blk_far ?_ NB241_247.out _; (with_reducible repeat first|refine blk_drewN ?_ _|refine blk_drew ?_|refine blk_alloc ?_ _); refine blk_far ?_ NB241_247.out _; (with_reducible repeat first|refine blk_drewN ?_ _|refine blk_drew ?_|refine blk_alloc ?_ _); refine blk_far ?_ NB241_247.out _; (with_reducible repeat first|refine blk_drewN ?_ _|refine blk_drew ?_|refine blk_alloc ?_ _); exact BK241.out⟩, ⟨bw⟩⟩
         ·rw [if_neg c10] at H
          have c10b0 : (t246 == 0) = false := beq_eq_false_iff_ne.mpr c10
          have c10b1 : (t246 != 0) = true := bne_iff_ne.mpr c10
          have H' := AX H
          clear H
          obtain ⟨hcz24_0, hcz24_1, hcz24_2⟩ := blkC3 (w := wr) BK241.out
          obtain ⟨hfz24_0, hfz24_1, hfz24_2⟩ := blkF3 BK241.out
          have p242 : 0 ≤ (x11_1 : Int) := of_decide_eq_true (by first | (with_reducible assumption) | assumption)
          have q242 : x11_1 < (l0.length : Int) := of_decide_eq_true (by first | (with_reducible assumption) | assumption)
          obtain ⟨ad242, e242, hx242_0, hx242_1, hx242_2, hx242_3⟩ := at_T65 HR0.out x11_1 p242 q242
          cases e242
          replace hx242_0 := (HB.out.cell (World.block_lt_of_cell? w _ hx242_0)).trans hx242_0
          replace hx242_1 := (HB.out.cell (World.block_lt_of_cell? w _ hx242_1)).trans hx242_1
          replace hx242_2 := (HB.out.cell (World.block_lt_of_cell? w _ hx242_2)).trans hx242_2
          replace hx242_3 := (HB.out.cell (World.block_lt_of_cell? w _ hx242_3)).trans hx242_3
          replace p242 := eq_true p242
          replace q242 := eq_true q242
          go_wp2_with (first | ((with_reducible refine gate_callee (f := 69) rfl ?_); refine goesL_ (some 30) rfl rfl Try.func69 (by kernel_rfl) rfl #[.agg #[.int .i64 ((rd_T65 l0 x11_1).f0), .int .i64 ((rd_T65 l0 x11_1).f1), .int .i64 ((rd_T65 l0 x11_1).f2), .int .i64 ((rd_T65 l0 x11_1).f3)], .int .i64 x6_2] rfl (by (try simp only [List.map_toArray, List.map_cons, List.map_nil]); first | done | rfl | (simp only [List.length_drop, List.length_take]; rfl)) ?_; (with_reducible refine (pylonref05_On.calls k2 ((rd_T65 l0 x11_1).f0) ((rd_T65 l0 x11_1).f1) ((rd_T65 l0 x11_1).f2) ((rd_T65 l0 x11_1).f3) x6_2 t243 t244 t245 t246 _ A9.out).mono ?_); rintro e w25 ⟨rfl, hb⟩; refine ⟨_, rfl, ?_⟩; have n0_ := AX (bkb BK241 hb); have n1_ := AX (below_step bw hb); clear BK241; clear HB; have BK241 := n0_; have HB := n1_; clear n0_ n1_; (try clear hb)) | ((with_reducible refine gate_dst (N := 7) rfl ?_); refine box_event ?hg (N := 7) ?hd (cs := #[.int .i64 0, .int .i64 0, .int .i64 0]) (t := 24) ?hr ?_; (case hd => rfl); (case hg => rfl); (case hr => first | (go_simp; done) | (go_simp; rfl)); intro gb247 hg w26 hbox hb; have n0_ := AX (bkb BK241 hb); have n1_ := AX (below_step bw hb); have n2_ := AX (hbox); have n3_ := AX ((by rw [hg]; exact (below_size bw) : w.heap.size ≤ gb247)); have n4_ := AX ((by rw [hg]; exact (below_size bw) : w.heap.size ≤ gb247)); have n5_ := AX ((by rw [hg]; exact Nat.ne_of_lt (blk_lt (g := gb241) (o := .cells #[.int .i64 a1_0, .int .i64 a1_1, .int .i64 a1_2] 24 (0, 0)) (bkn BK241)) : gb241 ≠ gb247)); have n6_ := AX ((by rw [hg]; exact Nat.ne_of_gt (blk_lt (g := gb241) (o := .cells #[.int .i64 a1_0, .int .i64 a1_1, .int .i64 a1_2] 24 (0, 0)) (bkn BK241)) : gb247 ≠ gb241)); clear BK241; clear HB; have BK241 := n0_; have HB := n1_; have BK247 := n2_; have GW247 := n3_; have GE247 := n4_; have NB241_247 := n5_; have NB247_241 := n6_; clear n0_ n1_ n2_ n3_ n4_ n5_ n6_; clear hb hbox hg; have hnb27 := NB247_241.out; have hnc27 := NB241_247.out; obtain ⟨hcz28_0, hcz28_1, hcz28_2⟩ := blkC3 (w := w26) BK247.out; obtain ⟨hfz28_0, hfz28_1, hfz28_2⟩ := blkF3 BK247.out))
          go_roundg k2
          case measure => have := HK1.out; have := HK2.out; omega
          case rel => exact ⟨(wrap64 (x6_2 + 1)), (by first | rfl | (simp; done) | (simp [*]; done)), H', ⟨by have := HK1.out; have := HK2.out; omega⟩, ⟨by (with_reducible repeat first|refine blk_drewN ?_ _|refine blk_drew ?_|refine blk_alloc ?_ _); refine blk_far ?_ NB241_247.out _; (with_reducible repeat first|refine blk_drewN ?_ _|refine blk_drew ?_|refine blk_alloc ?_ _); refine blk_far ?_ NB241_247.out _; (with_reducible repeat first|refine blk_drewN ?_ _|refine blk_drew ?_|refine blk_alloc ?_ _); refine blk_far ?_ NB241_247.out _; (with_reducible repeat first|refine blk_drewN ?_ _|refine blk_drew ?_|refine blk_alloc ?_ _); exact BK241.out⟩, ⟨bw⟩⟩
        ·rw [if_neg c8] at H
         exact absurd H (by simp)
       ·rw [if_neg c7] at H
        exact absurd H (by simp)
      ·rw [if_neg c6] at H
       have c6b0 : decide (x6_2 ≤ (wrap64 (a1_0 + 1))) = false := decide_eq_false c6
       clear c6
       have H' := AX H
       clear H
       obtain ⟨hcz29_0, hcz29_1, hcz29_2⟩ := blkC3 (w := wr) BK241.out
       obtain ⟨hfz29_0, hfz29_1, hfz29_2⟩ := blkF3 BK241.out
       go_wp2
       go_roundg k2
       case measure => have := HK1.out; have := HK2.out; omega
       case rel => exact ⟨(wrap64 (x11_1 + 1)), (by first | rfl | (simp; done) | (simp [*]; done)), H', ⟨by have := HK1.out; have := HK2.out; omega⟩, ⟨bkn BK241⟩, ⟨bw⟩⟩
   ·rw [if_neg c4] at H
    have c4b0 : decide (x11_1 < (l0.length : Int)) = false := decide_eq_false c4
    clear c4
    obtain rfl := Option.some.inj H
    go_wp2
    go_ret
    exact ⟨by first | rfl | (simp [errW_none, errW_some] <;> rfl) | (simp [*, errW_none, errW_some] <;> rfl), bw⟩

/-! ### pylonref05_Is: function 18 -/
def pylonref05_Is.f (k : Nat) (l0 : List (S65)) (a1_0 : Int) (a1_1 : Int) (a1_2 : Int) : Option (Bool × Int) := (pylonref05_all.f k l0).bind fun t249 => (if t249 = true then ((pylonref03_Is.f k a1_0 a1_1 a1_2).bind fun t250 => (if t250 = true then ((pylonref05_falls.f k l0 a1_0 a1_1 a1_2).bind fun t251 => (some (t251, 0))) else (some (false, 5)))) else (some (false, 8)))
theorem pylonref05_Is.mono : ∀ a0 a1 a2 a3 k, LeO (pylonref05_Is.f k a0 a1 a2 a3) (pylonref05_Is.f (k + 1) a0 a1 a2 a3) := by
 intro a0 a1 a2 a3 k
 unfold pylonref05_Is.f
 repeat' first
   | (with_reducible exact pylonref03_Is.mono _ _ _ _)
   | (with_reducible exact pylonref05_all.mono _ _)
   | (with_reducible exact pylonref05_falls.mono _ _ _ _ _)
   | (with_reducible exact LeO.refl _)
   | (with_reducible exact LeO.none _)
   | (with_reducible refine LeO.ite ?_ ?_)
   | (with_reducible refine LeO.bind ?_ (fun _ => ?_))
   | exact pylonref03_Is.mono _ _ _ _
   | exact pylonref05_all.mono _ _
   | exact pylonref05_falls.mono _ _ _ _ _
   | exact LeO.none _
   | refine LeO.ite ?_ ?_
   | refine LeO.bind ?_ (fun _ => ?_)
set_option maxHeartbeats 8000000 in
set_option maxRecDepth 100000 in
theorem pylonref05_Is.calls (k : Nat) (A0 : Option Addr) (c0 : Nat) (l0 : List (S65)) (a1_0 : Int) (a1_1 : Int) (a1_2 : Int) (r1 : Bool) (r2 : Int) (w : World) (hr0 : Kd.C k65 w A0 l0.length l0) (hc0 : l0.length ≤ c0) (h : pylonref05_Is.f k l0 a1_0 a1_1 a1_2 = some (r1, r2)) :
  Calls Try.prog 18 #[.slice A0 l0.length c0, .agg #[.int .i64 a1_0, .int .i64 a1_1, .int .i64 a1_2]] w fun e w' => e = .returned (.tuple #[.bool r1, .int .i64 r2]) ∧ Below w.heap.size w w' := by
 have hu24 := Try.underlying24
 have HR0 := AX hr0
 have HC0 := AX hc0
 clear hr0 hc0
 have HB := AX (Below.refl w.heap.size w)
 have H : ((pylonref05_all.f k l0).bind fun t249 => (if t249 = true then ((pylonref03_Is.f k a1_0 a1_1 a1_2).bind fun t250 => (if t250 = true then ((pylonref05_falls.f k l0 a1_0 a1_1 a1_2).bind fun t251 => (some (t251, 0))) else (some (false, 5)))) else (some (false, 8)))) = some (r1, r2) := h
 clear h
 replace H := Option.bind_eq_some_iff.mp H
 obtain ⟨t249, A30, H⟩ := H
 replace H : (if t249 = true then ((pylonref03_Is.f k a1_0 a1_1 a1_2).bind fun t250 => (if t250 = true then ((pylonref05_falls.f k l0 a1_0 a1_1 a1_2).bind fun t251 => (some (t251, 0))) else (some (false, 5)))) else (some (false, 8))) = some (r1, r2) := H
 have A3 := AX A30
 clear A30
 by_cases c4 : t249 = true
 ·subst c4
  have H1 : ((pylonref03_Is.f k a1_0 a1_1 a1_2).bind fun t250 => (if t250 = true then ((pylonref05_falls.f k l0 a1_0 a1_1 a1_2).bind fun t251 => (some (t251, 0))) else (some (false, 5)))) = some (r1, r2) := by rw [if_pos rfl] at H; exact H
  clear H
  have H := H1
  clear H1
  replace H := Option.bind_eq_some_iff.mp H
  obtain ⟨t250, A50, H⟩ := H
  replace H : (if t250 = true then ((pylonref05_falls.f k l0 a1_0 a1_1 a1_2).bind fun t251 => (some (t251, 0))) else (some (false, 5))) = some (r1, r2) := H
  have A5 := AX A50
  clear A50
  by_cases c6 : t250 = true
  ·subst c6
   have H1 : ((pylonref05_falls.f k l0 a1_0 a1_1 a1_2).bind fun t251 => (some (t251, 0))) = some (r1, r2) := by rw [if_pos rfl] at H; exact H
   clear H
   have H := H1
   clear H1
   replace H := Option.bind_eq_some_iff.mp H
   obtain ⟨t251, A70, H⟩ := H
   replace H : (some (t251, 0)) = some (r1, r2) := H
   have A7 := AX A70
   clear A70
   simp only [Option.some.injEq, Prod.mk.injEq] at H
   obtain ⟨rfl, rfl⟩ := H
   go_enter Try.func18, Try.ntmps18
   go_wp2_with (first | ((with_reducible refine gate_dst (N := 3) rfl ?_); refine box_event ?hg (N := 3) ?hd (cs := #[.int .i64 a1_0, .int .i64 a1_1, .int .i64 a1_2]) (t := 24) ?hr ?_; (case hd => rfl); (case hg => rfl); (case hr => first | (go_simp; done) | (go_simp; rfl)); intro gb248 hg w8 hbox hb; have n0_ := AX (below_step bw hb); have n1_ := AX (hbox); have n2_ := AX ((by rw [hg]; exact (below_size bw) : w.heap.size ≤ gb248)); have n3_ := AX ((by rw [hg]; exact (below_size bw) : w.heap.size ≤ gb248)); clear HB; have HB := n0_; have BK248 := n1_; have GW248 := n2_; have GE248 := n3_; clear n0_ n1_ n2_ n3_; clear hb hbox hg) | ((with_reducible refine gate_callee (f := 44) rfl ?_); refine goesL_ (some 7) rfl rfl Try.func44 (by kernel_rfl) rfl #[.slice A0 l0.length c0] rfl (by (try simp only [List.map_toArray, List.map_cons, List.map_nil]); first | done | rfl | (simp only [List.length_drop, List.length_take]; rfl)) ?_; (with_reducible refine (pylonref05_all.calls k _ _ l0 true _ ?side1 ?side2 A3.out).mono ?_); (case side1 => repeat (first | exact (Kd.C_below HR0.out HB.out) | (with_reducible refine Kd.C_alloc ?_ _) | (with_reducible refine Kd.C_drewN ?_ _) | (with_reducible refine Kd.C_drew ?_))); (case side2 => exact HC0.out); rintro e w9 ⟨rfl, hb⟩; refine ⟨_, rfl, ?_⟩; have n0_ := AX (bkb BK248 hb); have n1_ := AX (below_step bw hb); clear BK248; clear HB; have BK248 := n0_; have HB := n1_; clear n0_ n1_; (try clear hb); (try clear hb2); (try clear hk); (try clear hi); obtain ⟨hcz10_0, hcz10_1, hcz10_2⟩ := blkC3 (w := w9) BK248.out; obtain ⟨hfz10_0, hfz10_1, hfz10_2⟩ := blkF3 BK248.out) | ((with_reducible refine gate_callee (f := 45) rfl ?_); refine goesL_ (some 10) rfl rfl Try.func45 (by kernel_rfl) rfl #[.agg #[.int .i64 a1_0, .int .i64 a1_1, .int .i64 a1_2]] rfl (by (try simp only [List.map_toArray, List.map_cons, List.map_nil]); first | done | rfl | (simp only [List.length_drop, List.length_take]; rfl)) ?_; (with_reducible refine (pylonref03_Is.calls k a1_0 a1_1 a1_2 true _ A5.out).mono ?_); rintro e w11 ⟨rfl, hb⟩; refine ⟨_, rfl, ?_⟩; have n0_ := AX (bkb BK248 hb); have n1_ := AX (below_step bw hb); clear BK248; clear HB; have BK248 := n0_; have HB := n1_; clear n0_ n1_; (try clear hb); obtain ⟨hcz12_0, hcz12_1, hcz12_2⟩ := blkC3 (w := w11) BK248.out; obtain ⟨hfz12_0, hfz12_1, hfz12_2⟩ := blkF3 BK248.out) | ((with_reducible refine gate_callee (f := 46) rfl ?_); refine goesL_ (some 14) rfl rfl Try.func46 (by kernel_rfl) rfl #[.slice A0 l0.length c0, .agg #[.int .i64 a1_0, .int .i64 a1_1, .int .i64 a1_2]] rfl (by (try simp only [List.map_toArray, List.map_cons, List.map_nil]); first | done | rfl | (simp only [List.length_drop, List.length_take]; rfl)) ?_; (with_reducible refine (pylonref05_falls.calls k _ _ l0 a1_0 a1_1 a1_2 t251 _ ?side1 ?side2 A7.out).mono ?_); (case side1 => repeat (first | exact (Kd.C_below HR0.out HB.out) | (with_reducible refine Kd.C_alloc ?_ _) | (with_reducible refine Kd.C_drewN ?_ _) | (with_reducible refine Kd.C_drew ?_))); (case side2 => exact HC0.out); rintro e w13 ⟨rfl, hb⟩; refine ⟨_, rfl, ?_⟩; have n0_ := AX (bkb BK248 hb); have n1_ := AX (below_step bw hb); clear BK248; clear HB; have BK248 := n0_; have HB := n1_; clear n0_ n1_; (try clear hb); (try clear hb2); (try clear hk); (try clear hi)))
   go_ret2
   exact ⟨by first | rfl | (simp [errW_none, errW_some] <;> rfl) | (simp [*, errW_none, errW_some] <;> rfl), bw⟩
  ·replace c6 := Bool.eq_false_iff.mpr c6
   subst c6
   have H1 : (some (false, 5)) = some (r1, r2) := by rw [if_neg (show ¬ (false = true) by decide)] at H; exact H
   clear H
   have H := H1
   clear H1
   simp only [Option.some.injEq, Prod.mk.injEq] at H
   obtain ⟨rfl, rfl⟩ := H
   go_enter Try.func18, Try.ntmps18
   go_wp2_with (first | ((with_reducible refine gate_dst (N := 3) rfl ?_); refine box_event ?hg (N := 3) ?hd (cs := #[.int .i64 a1_0, .int .i64 a1_1, .int .i64 a1_2]) (t := 24) ?hr ?_; (case hd => rfl); (case hg => rfl); (case hr => first | (go_simp; done) | (go_simp; rfl)); intro gb248 hg w14 hbox hb; have n0_ := AX (below_step bw hb); have n1_ := AX (hbox); have n2_ := AX ((by rw [hg]; exact (below_size bw) : w.heap.size ≤ gb248)); have n3_ := AX ((by rw [hg]; exact (below_size bw) : w.heap.size ≤ gb248)); clear HB; have HB := n0_; have BK248 := n1_; have GW248 := n2_; have GE248 := n3_; clear n0_ n1_ n2_ n3_; clear hb hbox hg) | ((with_reducible refine gate_callee (f := 44) rfl ?_); refine goesL_ (some 7) rfl rfl Try.func44 (by kernel_rfl) rfl #[.slice A0 l0.length c0] rfl (by (try simp only [List.map_toArray, List.map_cons, List.map_nil]); first | done | rfl | (simp only [List.length_drop, List.length_take]; rfl)) ?_; (with_reducible refine (pylonref05_all.calls k _ _ l0 true _ ?side1 ?side2 A3.out).mono ?_); (case side1 => repeat (first | exact (Kd.C_below HR0.out HB.out) | (with_reducible refine Kd.C_alloc ?_ _) | (with_reducible refine Kd.C_drewN ?_ _) | (with_reducible refine Kd.C_drew ?_))); (case side2 => exact HC0.out); rintro e w15 ⟨rfl, hb⟩; refine ⟨_, rfl, ?_⟩; have n0_ := AX (bkb BK248 hb); have n1_ := AX (below_step bw hb); clear BK248; clear HB; have BK248 := n0_; have HB := n1_; clear n0_ n1_; (try clear hb); (try clear hb2); (try clear hk); (try clear hi); obtain ⟨hcz16_0, hcz16_1, hcz16_2⟩ := blkC3 (w := w15) BK248.out; obtain ⟨hfz16_0, hfz16_1, hfz16_2⟩ := blkF3 BK248.out) | ((with_reducible refine gate_callee (f := 45) rfl ?_); refine goesL_ (some 10) rfl rfl Try.func45 (by kernel_rfl) rfl #[.agg #[.int .i64 a1_0, .int .i64 a1_1, .int .i64 a1_2]] rfl (by (try simp only [List.map_toArray, List.map_cons, List.map_nil]); first | done | rfl | (simp only [List.length_drop, List.length_take]; rfl)) ?_; (with_reducible refine (pylonref03_Is.calls k a1_0 a1_1 a1_2 false _ A5.out).mono ?_); rintro e w17 ⟨rfl, hb⟩; refine ⟨_, rfl, ?_⟩; have n0_ := AX (bkb BK248 hb); have n1_ := AX (below_step bw hb); clear BK248; clear HB; have BK248 := n0_; have HB := n1_; clear n0_ n1_; (try clear hb)))
   go_ret2
   exact ⟨by first | rfl | (simp [errW_none, errW_some] <;> rfl) | (simp [*, errW_none, errW_some] <;> rfl), bw⟩
 ·replace c4 := Bool.eq_false_iff.mpr c4
  subst c4
  have H1 : (some (false, 8)) = some (r1, r2) := by rw [if_neg (show ¬ (false = true) by decide)] at H; exact H
  clear H
  have H := H1
  clear H1
  simp only [Option.some.injEq, Prod.mk.injEq] at H
  obtain ⟨rfl, rfl⟩ := H
  go_enter Try.func18, Try.ntmps18
  go_wp2_with (first | ((with_reducible refine gate_dst (N := 3) rfl ?_); refine box_event ?hg (N := 3) ?hd (cs := #[.int .i64 a1_0, .int .i64 a1_1, .int .i64 a1_2]) (t := 24) ?hr ?_; (case hd => rfl); (case hg => rfl); (case hr => first | (go_simp; done) | (go_simp; rfl)); intro gb248 hg w18 hbox hb; have n0_ := AX (below_step bw hb); have n1_ := AX (hbox); have n2_ := AX ((by rw [hg]; exact (below_size bw) : w.heap.size ≤ gb248)); have n3_ := AX ((by rw [hg]; exact (below_size bw) : w.heap.size ≤ gb248)); clear HB; have HB := n0_; have BK248 := n1_; have GW248 := n2_; have GE248 := n3_; clear n0_ n1_ n2_ n3_; clear hb hbox hg) | ((with_reducible refine gate_callee (f := 44) rfl ?_); refine goesL_ (some 7) rfl rfl Try.func44 (by kernel_rfl) rfl #[.slice A0 l0.length c0] rfl (by (try simp only [List.map_toArray, List.map_cons, List.map_nil]); first | done | rfl | (simp only [List.length_drop, List.length_take]; rfl)) ?_; (with_reducible refine (pylonref05_all.calls k _ _ l0 false _ ?side1 ?side2 A3.out).mono ?_); (case side1 => repeat (first | exact (Kd.C_below HR0.out HB.out) | (with_reducible refine Kd.C_alloc ?_ _) | (with_reducible refine Kd.C_drewN ?_ _) | (with_reducible refine Kd.C_drew ?_))); (case side2 => exact HC0.out); rintro e w19 ⟨rfl, hb⟩; refine ⟨_, rfl, ?_⟩; have n0_ := AX (bkb BK248 hb); have n1_ := AX (below_step bw hb); clear BK248; clear HB; have BK248 := n0_; have HB := n1_; clear n0_ n1_; (try clear hb); (try clear hb2); (try clear hk); (try clear hi)))
  go_ret2
  exact ⟨by first | rfl | (simp [errW_none, errW_some] <;> rfl) | (simp [*, errW_none, errW_some] <;> rfl), bw⟩

/-! ### pylonref14_Kind: function 16 -/
def pylonref14_Kind.f (k : Nat) (l0 : List (S65)) (a1_0 : Int) (a1_1 : Int) (a1_2 : Int) : Option (Int × Int) := (pylonref05_Is.f k l0 a1_0 a1_1 a1_2).bind fun bt253 => (if bt253.2 = 0 then ((pylonref03_Weekday.f k a1_0 a1_1 a1_2).bind fun bt255 => (if bt253.1 = true then (some (3, 0)) else (if bt255.1 = 6 then (some (2, 0)) else (if bt255.1 = 5 then (some (1, 0)) else (some (0, 0)))))) else (some (0, bt253.2)))
theorem pylonref14_Kind.mono : ∀ a0 a1 a2 a3 k, LeO (pylonref14_Kind.f k a0 a1 a2 a3) (pylonref14_Kind.f (k + 1) a0 a1 a2 a3) := by
 intro a0 a1 a2 a3 k
 unfold pylonref14_Kind.f
 repeat' first
   | (with_reducible exact pylonref03_Weekday.mono _ _ _ _)
   | (with_reducible exact pylonref05_Is.mono _ _ _ _ _)
   | (with_reducible exact LeO.refl _)
   | (with_reducible exact LeO.none _)
   | (with_reducible refine LeO.ite ?_ ?_)
   | (with_reducible refine LeO.bind ?_ (fun _ => ?_))
   | exact pylonref03_Weekday.mono _ _ _ _
   | exact pylonref05_Is.mono _ _ _ _ _
   | exact LeO.none _
   | refine LeO.ite ?_ ?_
   | refine LeO.bind ?_ (fun _ => ?_)
set_option maxHeartbeats 8000000 in
set_option maxRecDepth 100000 in
theorem pylonref14_Kind.calls (k : Nat) (A0 : Option Addr) (c0 : Nat) (l0 : List (S65)) (a1_0 : Int) (a1_1 : Int) (a1_2 : Int) (r1 : Int) (r2 : Int) (w : World) (hr0 : Kd.C k65 w A0 l0.length l0) (hc0 : l0.length ≤ c0) (h : pylonref14_Kind.f k l0 a1_0 a1_1 a1_2 = some (r1, r2)) :
  Calls Try.prog 16 #[.slice A0 l0.length c0, .agg #[.int .i64 a1_0, .int .i64 a1_1, .int .i64 a1_2]] w fun e w' => e = .returned (.tuple #[.int .i64 r1, .int .i64 r2]) ∧ Below w.heap.size w w' := by
 have hu24 := Try.underlying24
 have HR0 := AX hr0
 have HC0 := AX hc0
 clear hr0 hc0
 have HB := AX (Below.refl w.heap.size w)
 have H : ((pylonref05_Is.f k l0 a1_0 a1_1 a1_2).bind fun bt253 => (if bt253.2 = 0 then ((pylonref03_Weekday.f k a1_0 a1_1 a1_2).bind fun bt255 => (if bt253.1 = true then (some (3, 0)) else (if bt255.1 = 6 then (some (2, 0)) else (if bt255.1 = 5 then (some (1, 0)) else (some (0, 0)))))) else (some (0, bt253.2)))) = some (r1, r2) := h
 clear h
 replace H := Option.bind_eq_some_iff.mp H
 obtain ⟨⟨t253, t254⟩, A30, H⟩ := H
 replace H : (if t254 = 0 then ((pylonref03_Weekday.f k a1_0 a1_1 a1_2).bind fun bt255 => (if t253 = true then (some (3, 0)) else (if bt255.1 = 6 then (some (2, 0)) else (if bt255.1 = 5 then (some (1, 0)) else (some (0, 0)))))) else (some (0, t254))) = some (r1, r2) := H
 have A3 := AX A30
 clear A30
 by_cases c4 : t254 = 0
 ·rw [if_pos c4] at H
  have c4b0 : (t254 == 0) = true := beq_iff_eq.mpr c4
  have c4b1 : (t254 != 0) = false := bne_eq_false_iff_eq.mpr c4
  clear c4
  replace H := Option.bind_eq_some_iff.mp H
  obtain ⟨⟨t255, t256⟩, A50, H⟩ := H
  replace H : (if t253 = true then (some (3, 0)) else (if t255 = 6 then (some (2, 0)) else (if t255 = 5 then (some (1, 0)) else (some (0, 0))))) = some (r1, r2) := H
  have A5 := AX A50
  clear A50
  by_cases c6 : t253 = true
  ·subst c6
   have H1 : (some (3, 0)) = some (r1, r2) := by rw [if_pos rfl] at H; exact H
   clear H
   have H := H1
   clear H1
   simp only [Option.some.injEq, Prod.mk.injEq] at H
   obtain ⟨rfl, rfl⟩ := H
   go_enter Try.func16, Try.ntmps16
   go_wp2_with (first | ((with_reducible refine gate_dst (N := 3) rfl ?_); refine box_event ?hg (N := 3) ?hd (cs := #[.int .i64 a1_0, .int .i64 a1_1, .int .i64 a1_2]) (t := 24) ?hr ?_; (case hd => rfl); (case hg => rfl); (case hr => first | (go_simp; done) | (go_simp; rfl)); intro gb252 hg w7 hbox hb; have n0_ := AX (below_step bw hb); have n1_ := AX (hbox); have n2_ := AX ((by rw [hg]; exact (below_size bw) : w.heap.size ≤ gb252)); have n3_ := AX ((by rw [hg]; exact (below_size bw) : w.heap.size ≤ gb252)); clear HB; have HB := n0_; have BK252 := n1_; have GW252 := n2_; have GE252 := n3_; clear n0_ n1_ n2_ n3_; clear hb hbox hg; obtain ⟨hcz8_0, hcz8_1, hcz8_2⟩ := blkC3 (w := w7) BK252.out; obtain ⟨hfz8_0, hfz8_1, hfz8_2⟩ := blkF3 BK252.out) | ((with_reducible refine gate_callee (f := 18) rfl ?_); refine goesL_ (some 13) rfl rfl Try.func18 (by kernel_rfl) rfl #[.slice A0 l0.length c0, .agg #[.int .i64 a1_0, .int .i64 a1_1, .int .i64 a1_2]] rfl (by (try simp only [List.map_toArray, List.map_cons, List.map_nil]); first | done | rfl | (simp only [List.length_drop, List.length_take]; rfl)) ?_; (with_reducible refine (pylonref05_Is.calls k _ _ l0 a1_0 a1_1 a1_2 true t254 _ ?side1 ?side2 A3.out).mono ?_); (case side1 => repeat (first | exact (Kd.C_below HR0.out HB.out) | (with_reducible refine Kd.C_alloc ?_ _) | (with_reducible refine Kd.C_drewN ?_ _) | (with_reducible refine Kd.C_drew ?_))); (case side2 => exact HC0.out); rintro e w9 ⟨rfl, hb⟩; refine ⟨_, rfl, ?_⟩; have n0_ := AX (bkb BK252 hb); have n1_ := AX (below_step bw hb); clear BK252; clear HB; have BK252 := n0_; have HB := n1_; clear n0_ n1_; (try clear hb); (try clear hb2); (try clear hk); (try clear hi); obtain ⟨hcz10_0, hcz10_1, hcz10_2⟩ := blkC3 (w := w9) BK252.out; obtain ⟨hfz10_0, hfz10_1, hfz10_2⟩ := blkF3 BK252.out) | ((with_reducible refine gate_callee (f := 19) rfl ?_); refine goesL_ (some 21) rfl rfl Try.func19 (by kernel_rfl) rfl #[.agg #[.int .i64 a1_0, .int .i64 a1_1, .int .i64 a1_2]] rfl (by (try simp only [List.map_toArray, List.map_cons, List.map_nil]); first | done | rfl | (simp only [List.length_drop, List.length_take]; rfl)) ?_; (with_reducible refine (pylonref03_Weekday.calls k a1_0 a1_1 a1_2 t255 t256 _ A5.out).mono ?_); rintro e w11 ⟨rfl, hb⟩; refine ⟨_, rfl, ?_⟩; have n0_ := AX (bkb BK252 hb); have n1_ := AX (below_step bw hb); clear BK252; clear HB; have BK252 := n0_; have HB := n1_; clear n0_ n1_; (try clear hb)))
   go_ret2
   exact ⟨by first | rfl | (simp [errW_none, errW_some] <;> rfl) | (simp [*, errW_none, errW_some] <;> rfl), bw⟩
  ·replace c6 := Bool.eq_false_iff.mpr c6
   subst c6
   have H1 : (if t255 = 6 then (some (2, 0)) else (if t255 = 5 then (some (1, 0)) else (some (0, 0)))) = some (r1, r2) := by rw [if_neg (show ¬ (false = true) by decide)] at H; exact H
   clear H
   have H := H1
   clear H1
   by_cases c12 : t255 = 6
   ·rw [if_pos c12] at H
    have c12b0 : (t255 == 6) = true := beq_iff_eq.mpr c12
    have c12b1 : (t255 != 6) = false := bne_eq_false_iff_eq.mpr c12
    clear c12
    simp only [Option.some.injEq, Prod.mk.injEq] at H
    obtain ⟨rfl, rfl⟩ := H
    go_enter Try.func16, Try.ntmps16
    go_wp2_with (first | ((with_reducible refine gate_dst (N := 3) rfl ?_); refine box_event ?hg (N := 3) ?hd (cs := #[.int .i64 a1_0, .int .i64 a1_1, .int .i64 a1_2]) (t := 24) ?hr ?_; (case hd => rfl); (case hg => rfl); (case hr => first | (go_simp; done) | (go_simp; rfl)); intro gb252 hg w13 hbox hb; have n0_ := AX (below_step bw hb); have n1_ := AX (hbox); have n2_ := AX ((by rw [hg]; exact (below_size bw) : w.heap.size ≤ gb252)); have n3_ := AX ((by rw [hg]; exact (below_size bw) : w.heap.size ≤ gb252)); clear HB; have HB := n0_; have BK252 := n1_; have GW252 := n2_; have GE252 := n3_; clear n0_ n1_ n2_ n3_; clear hb hbox hg; obtain ⟨hcz14_0, hcz14_1, hcz14_2⟩ := blkC3 (w := w13) BK252.out; obtain ⟨hfz14_0, hfz14_1, hfz14_2⟩ := blkF3 BK252.out) | ((with_reducible refine gate_callee (f := 18) rfl ?_); refine goesL_ (some 13) rfl rfl Try.func18 (by kernel_rfl) rfl #[.slice A0 l0.length c0, .agg #[.int .i64 a1_0, .int .i64 a1_1, .int .i64 a1_2]] rfl (by (try simp only [List.map_toArray, List.map_cons, List.map_nil]); first | done | rfl | (simp only [List.length_drop, List.length_take]; rfl)) ?_; (with_reducible refine (pylonref05_Is.calls k _ _ l0 a1_0 a1_1 a1_2 false t254 _ ?side1 ?side2 A3.out).mono ?_); (case side1 => repeat (first | exact (Kd.C_below HR0.out HB.out) | (with_reducible refine Kd.C_alloc ?_ _) | (with_reducible refine Kd.C_drewN ?_ _) | (with_reducible refine Kd.C_drew ?_))); (case side2 => exact HC0.out); rintro e w15 ⟨rfl, hb⟩; refine ⟨_, rfl, ?_⟩; have n0_ := AX (bkb BK252 hb); have n1_ := AX (below_step bw hb); clear BK252; clear HB; have BK252 := n0_; have HB := n1_; clear n0_ n1_; (try clear hb); (try clear hb2); (try clear hk); (try clear hi); obtain ⟨hcz16_0, hcz16_1, hcz16_2⟩ := blkC3 (w := w15) BK252.out; obtain ⟨hfz16_0, hfz16_1, hfz16_2⟩ := blkF3 BK252.out) | ((with_reducible refine gate_callee (f := 19) rfl ?_); refine goesL_ (some 21) rfl rfl Try.func19 (by kernel_rfl) rfl #[.agg #[.int .i64 a1_0, .int .i64 a1_1, .int .i64 a1_2]] rfl (by (try simp only [List.map_toArray, List.map_cons, List.map_nil]); first | done | rfl | (simp only [List.length_drop, List.length_take]; rfl)) ?_; (with_reducible refine (pylonref03_Weekday.calls k a1_0 a1_1 a1_2 t255 t256 _ A5.out).mono ?_); rintro e w17 ⟨rfl, hb⟩; refine ⟨_, rfl, ?_⟩; have n0_ := AX (bkb BK252 hb); have n1_ := AX (below_step bw hb); clear BK252; clear HB; have BK252 := n0_; have HB := n1_; clear n0_ n1_; (try clear hb)))
    go_ret2
    exact ⟨by first | rfl | (simp [errW_none, errW_some] <;> rfl) | (simp [*, errW_none, errW_some] <;> rfl), bw⟩
   ·rw [if_neg c12] at H
    have c12b0 : (t255 == 6) = false := beq_eq_false_iff_ne.mpr c12
    have c12b1 : (t255 != 6) = true := bne_iff_ne.mpr c12
    by_cases c18 : t255 = 5
    ·rw [if_pos c18] at H
     have c18b0 : (t255 == 5) = true := beq_iff_eq.mpr c18
     have c18b1 : (t255 != 5) = false := bne_eq_false_iff_eq.mpr c18
     clear c18
     simp only [Option.some.injEq, Prod.mk.injEq] at H
     obtain ⟨rfl, rfl⟩ := H
     go_enter Try.func16, Try.ntmps16
     go_wp2_with (first | ((with_reducible refine gate_dst (N := 3) rfl ?_); refine box_event ?hg (N := 3) ?hd (cs := #[.int .i64 a1_0, .int .i64 a1_1, .int .i64 a1_2]) (t := 24) ?hr ?_; (case hd => rfl); (case hg => rfl); (case hr => first | (go_simp; done) | (go_simp; rfl)); intro gb252 hg w19 hbox hb; have n0_ := AX (below_step bw hb); have n1_ := AX (hbox); have n2_ := AX ((by rw [hg]; exact (below_size bw) : w.heap.size ≤ gb252)); have n3_ := AX ((by rw [hg]; exact (below_size bw) : w.heap.size ≤ gb252)); clear HB; have HB := n0_; have BK252 := n1_; have GW252 := n2_; have GE252 := n3_; clear n0_ n1_ n2_ n3_; clear hb hbox hg; obtain ⟨hcz20_0, hcz20_1, hcz20_2⟩ := blkC3 (w := w19) BK252.out; obtain ⟨hfz20_0, hfz20_1, hfz20_2⟩ := blkF3 BK252.out) | ((with_reducible refine gate_callee (f := 18) rfl ?_); refine goesL_ (some 13) rfl rfl Try.func18 (by kernel_rfl) rfl #[.slice A0 l0.length c0, .agg #[.int .i64 a1_0, .int .i64 a1_1, .int .i64 a1_2]] rfl (by (try simp only [List.map_toArray, List.map_cons, List.map_nil]); first | done | rfl | (simp only [List.length_drop, List.length_take]; rfl)) ?_; (with_reducible refine (pylonref05_Is.calls k _ _ l0 a1_0 a1_1 a1_2 false t254 _ ?side1 ?side2 A3.out).mono ?_); (case side1 => repeat (first | exact (Kd.C_below HR0.out HB.out) | (with_reducible refine Kd.C_alloc ?_ _) | (with_reducible refine Kd.C_drewN ?_ _) | (with_reducible refine Kd.C_drew ?_))); (case side2 => exact HC0.out); rintro e w21 ⟨rfl, hb⟩; refine ⟨_, rfl, ?_⟩; have n0_ := AX (bkb BK252 hb); have n1_ := AX (below_step bw hb); clear BK252; clear HB; have BK252 := n0_; have HB := n1_; clear n0_ n1_; (try clear hb); (try clear hb2); (try clear hk); (try clear hi); obtain ⟨hcz22_0, hcz22_1, hcz22_2⟩ := blkC3 (w := w21) BK252.out; obtain ⟨hfz22_0, hfz22_1, hfz22_2⟩ := blkF3 BK252.out) | ((with_reducible refine gate_callee (f := 19) rfl ?_); refine goesL_ (some 21) rfl rfl Try.func19 (by kernel_rfl) rfl #[.agg #[.int .i64 a1_0, .int .i64 a1_1, .int .i64 a1_2]] rfl (by (try simp only [List.map_toArray, List.map_cons, List.map_nil]); first | done | rfl | (simp only [List.length_drop, List.length_take]; rfl)) ?_; (with_reducible refine (pylonref03_Weekday.calls k a1_0 a1_1 a1_2 t255 t256 _ A5.out).mono ?_); rintro e w23 ⟨rfl, hb⟩; refine ⟨_, rfl, ?_⟩; have n0_ := AX (bkb BK252 hb); have n1_ := AX (below_step bw hb); clear BK252; clear HB; have BK252 := n0_; have HB := n1_; clear n0_ n1_; (try clear hb)))
     go_ret2
     exact ⟨by first | rfl | (simp [errW_none, errW_some] <;> rfl) | (simp [*, errW_none, errW_some] <;> rfl), bw⟩
    ·rw [if_neg c18] at H
     have c18b0 : (t255 == 5) = false := beq_eq_false_iff_ne.mpr c18
     have c18b1 : (t255 != 5) = true := bne_iff_ne.mpr c18
     simp only [Option.some.injEq, Prod.mk.injEq] at H
     obtain ⟨rfl, rfl⟩ := H
     go_enter Try.func16, Try.ntmps16
     go_wp2_with (first | ((with_reducible refine gate_dst (N := 3) rfl ?_); refine box_event ?hg (N := 3) ?hd (cs := #[.int .i64 a1_0, .int .i64 a1_1, .int .i64 a1_2]) (t := 24) ?hr ?_; (case hd => rfl); (case hg => rfl); (case hr => first | (go_simp; done) | (go_simp; rfl)); intro gb252 hg w24 hbox hb; have n0_ := AX (below_step bw hb); have n1_ := AX (hbox); have n2_ := AX ((by rw [hg]; exact (below_size bw) : w.heap.size ≤ gb252)); have n3_ := AX ((by rw [hg]; exact (below_size bw) : w.heap.size ≤ gb252)); clear HB; have HB := n0_; have BK252 := n1_; have GW252 := n2_; have GE252 := n3_; clear n0_ n1_ n2_ n3_; clear hb hbox hg; obtain ⟨hcz25_0, hcz25_1, hcz25_2⟩ := blkC3 (w := w24) BK252.out; obtain ⟨hfz25_0, hfz25_1, hfz25_2⟩ := blkF3 BK252.out) | ((with_reducible refine gate_callee (f := 18) rfl ?_); refine goesL_ (some 13) rfl rfl Try.func18 (by kernel_rfl) rfl #[.slice A0 l0.length c0, .agg #[.int .i64 a1_0, .int .i64 a1_1, .int .i64 a1_2]] rfl (by (try simp only [List.map_toArray, List.map_cons, List.map_nil]); first | done | rfl | (simp only [List.length_drop, List.length_take]; rfl)) ?_; (with_reducible refine (pylonref05_Is.calls k _ _ l0 a1_0 a1_1 a1_2 false t254 _ ?side1 ?side2 A3.out).mono ?_); (case side1 => repeat (first | exact (Kd.C_below HR0.out HB.out) | (with_reducible refine Kd.C_alloc ?_ _) | (with_reducible refine Kd.C_drewN ?_ _) | (with_reducible refine Kd.C_drew ?_))); (case side2 => exact HC0.out); rintro e w26 ⟨rfl, hb⟩; refine ⟨_, rfl, ?_⟩; have n0_ := AX (bkb BK252 hb); have n1_ := AX (below_step bw hb); clear BK252; clear HB; have BK252 := n0_; have HB := n1_; clear n0_ n1_; (try clear hb); (try clear hb2); (try clear hk); (try clear hi); obtain ⟨hcz27_0, hcz27_1, hcz27_2⟩ := blkC3 (w := w26) BK252.out; obtain ⟨hfz27_0, hfz27_1, hfz27_2⟩ := blkF3 BK252.out) | ((with_reducible refine gate_callee (f := 19) rfl ?_); refine goesL_ (some 21) rfl rfl Try.func19 (by kernel_rfl) rfl #[.agg #[.int .i64 a1_0, .int .i64 a1_1, .int .i64 a1_2]] rfl (by (try simp only [List.map_toArray, List.map_cons, List.map_nil]); first | done | rfl | (simp only [List.length_drop, List.length_take]; rfl)) ?_; (with_reducible refine (pylonref03_Weekday.calls k a1_0 a1_1 a1_2 t255 t256 _ A5.out).mono ?_); rintro e w28 ⟨rfl, hb⟩; refine ⟨_, rfl, ?_⟩; have n0_ := AX (bkb BK252 hb); have n1_ := AX (below_step bw hb); clear BK252; clear HB; have BK252 := n0_; have HB := n1_; clear n0_ n1_; (try clear hb)))
     go_ret2
     exact ⟨by first | rfl | (simp [errW_none, errW_some] <;> rfl) | (simp [*, errW_none, errW_some] <;> rfl), bw⟩
 ·rw [if_neg c4] at H
  have c4b0 : (t254 == 0) = false := beq_eq_false_iff_ne.mpr c4
  have c4b1 : (t254 != 0) = true := bne_iff_ne.mpr c4
  simp only [Option.some.injEq, Prod.mk.injEq] at H
  obtain ⟨rfl, rfl⟩ := H
  go_enter Try.func16, Try.ntmps16
  go_wp2_with (first | ((with_reducible refine gate_dst (N := 3) rfl ?_); refine box_event ?hg (N := 3) ?hd (cs := #[.int .i64 a1_0, .int .i64 a1_1, .int .i64 a1_2]) (t := 24) ?hr ?_; (case hd => rfl); (case hg => rfl); (case hr => first | (go_simp; done) | (go_simp; rfl)); intro gb252 hg w29 hbox hb; have n0_ := AX (below_step bw hb); have n1_ := AX (hbox); have n2_ := AX ((by rw [hg]; exact (below_size bw) : w.heap.size ≤ gb252)); have n3_ := AX ((by rw [hg]; exact (below_size bw) : w.heap.size ≤ gb252)); clear HB; have HB := n0_; have BK252 := n1_; have GW252 := n2_; have GE252 := n3_; clear n0_ n1_ n2_ n3_; clear hb hbox hg; obtain ⟨hcz30_0, hcz30_1, hcz30_2⟩ := blkC3 (w := w29) BK252.out; obtain ⟨hfz30_0, hfz30_1, hfz30_2⟩ := blkF3 BK252.out) | ((with_reducible refine gate_callee (f := 18) rfl ?_); refine goesL_ (some 13) rfl rfl Try.func18 (by kernel_rfl) rfl #[.slice A0 l0.length c0, .agg #[.int .i64 a1_0, .int .i64 a1_1, .int .i64 a1_2]] rfl (by (try simp only [List.map_toArray, List.map_cons, List.map_nil]); first | done | rfl | (simp only [List.length_drop, List.length_take]; rfl)) ?_; (with_reducible refine (pylonref05_Is.calls k _ _ l0 a1_0 a1_1 a1_2 t253 t254 _ ?side1 ?side2 A3.out).mono ?_); (case side1 => repeat (first | exact (Kd.C_below HR0.out HB.out) | (with_reducible refine Kd.C_alloc ?_ _) | (with_reducible refine Kd.C_drewN ?_ _) | (with_reducible refine Kd.C_drew ?_))); (case side2 => exact HC0.out); rintro e w31 ⟨rfl, hb⟩; refine ⟨_, rfl, ?_⟩; have n0_ := AX (bkb BK252 hb); have n1_ := AX (below_step bw hb); clear BK252; clear HB; have BK252 := n0_; have HB := n1_; clear n0_ n1_; (try clear hb); (try clear hb2); (try clear hk); (try clear hi)))
  go_ret2
  exact ⟨by first | rfl | (simp [errW_none, errW_some] <;> rfl) | (simp [*, errW_none, errW_some] <;> rfl), bw⟩

end Go.Proofs.Ytkggjjggcbcdiaa.PX
