/- Functions of the program as plain Lean functions, each with a proof that the call in the machine answers just what the plain function says; condition: the plain function answers at all. -/
import Derived.Test.YtkggjjggcbcdiaaPXx0
import Derived.IntWalk
namespace Go.Proofs.Ytkggjjggcbcdiaa.PX
open Go.RowKit Go.Proofs.YtkggjjggcbcdiaaW.PrintWords Go.Proofs.YtkggjjggcbcdiaaW.PrintLast Go.Proofs.YtkggjjggcbcdiaaW.PrintMore
attribute [local go_sem] max2_int min2_int max_two min_two max_three min_three max_four min_four   -- for this text's walks alone
set_option linter.unusedVariables false
set_option linter.unusedSimpArgs false

/-! ### tou_Window: function 21 -/
def tou_Window.l : List S60 → ByteArray → Int → Int → Int → Int × Int
  | [], _, _, _, _ => (0, 7)
  | x :: xs, s, k, m, i => if x.f0.toList = s.toList ∧ x.f1 = k ∧ x.f2 ≤ m ∧ m < x.f3 then (i, 0) else tou_Window.l xs s k m (i + 1)
def tou_Window.f (l0 : List (S60)) (a1 : ByteArray) (a2 : Int) (a3 : Int) : Option (Int × Int) := some (tou_Window.l l0 a1 a2 a3 0)
theorem tou_Window.drop (l0 : List (S60)) (i : Nat) (h : i < l0.length) : l0.drop i = rd_T60 l0 (i : Int) :: l0.drop (i + 1) := by
  unfold rd_T60
  rw [List.drop_eq_getElem_cons h]
  simp [List.getD_eq_getElem?_getD, h]
set_option maxHeartbeats 8000000 in
set_option maxRecDepth 100000 in
theorem tou_Window.calls (A0 : Option Addr) (c0 : Nat) (l0 : List (S60)) (a1 : ByteArray) (a2 : Int) (a3 : Int) (r1 : Int) (r2 : Int) (w : World) (hr0 : Kd.C k60 w A0 l0.length l0) (hc0 : l0.length ≤ c0) (h : tou_Window.f l0 a1 a2 a3 = some (r1, r2)) :
    Calls Try.prog 21 #[.slice A0 l0.length c0, .string a1, .int .i64 a2, .int .i64 a3] w fun e w' => e = .returned (.tuple #[.int .i64 r1, .int .i64 r2]) ∧ Below w.heap.size w w' := by
  have hu := Try.underlying60
  have HR0 := Aside0.mk hr0
  have HL := Aside0.mk hr0.2.1
  clear hr0 hc0
  have HB := Aside0.mk (Below.refl w.heap.size w)
  have H' : Aside0 (tou_Window.l l0 a1 a2 a3 0 = (r1, r2)) := ⟨by unfold tou_Window.f at h; exact Option.some.inj h⟩
  clear h
  go_enter Try.func21, Try.ntmps21
  go_wp2
  go_step3
  go_wp2
  go_step3
  go_wp2
  go_loopg [16] l0.length (fun kq v16 w' => ∃ x : Int, v16 = .int .i64 x ∧ Aside0 (0 ≤ x ∧ kq + x.toNat = l0.length) ∧ Aside0 (tou_Window.l (l0.drop x.toNat) a1 a2 a3 x = (r1, r2)) ∧ Aside0 (Below w.heap.size w w'))
  case atStart => exact ⟨0, rfl, ⟨by omega, by simp⟩, H', ⟨by repeat (first | (with_reducible first | exact HB.out | apply below_alloc | apply pw_below_drewN | apply below_drew1) | exact HB.out)⟩⟩
  case round =>
    clear H' HB
    obtain ⟨x, rfl, HK, HA, HB⟩ := hrel
    by_cases c2 : x < (l0.length : Int)
    · have c2b0 : decide (x < (l0.length : Int)) = true := decide_eq_true c2
      have p2 : (0 : Int) ≤ x := HK.out.1
      have hdr := tou_Window.drop l0 x.toNat (by omega)
      rw [show ((x.toNat : Nat) : Int) = x by omega] at hdr
      obtain ⟨ad, e, hx_0, hx_1, hx_2, hx_3, hx_4⟩ := at_T60 HR0.out x p2 c2
      have HA1 : Aside0 (tou_Window.l (rd_T60 l0 x :: l0.drop (x.toNat + 1)) a1 a2 a3 x = (r1, r2)) := ⟨by rw [← hdr]; exact HA.out⟩
      clear HA hdr
      have HI : Aside0 (x < (l0.length : Int)) := ⟨c2⟩
      have hw : wrap64 (x + 1) = x + 1 := by have := HL.out; exact Go.IntWalk.wrap64_in _ ⟨by omega, by omega⟩
      have HW := Aside0.mk hw
      clear hw
      replace p2 := eq_true p2
      replace c2 := eq_true c2
      generalize hX : rd_T60 l0 x = X at *
      clear hX
      cases e
      replace hx_0 := (HB.out.cell (World.block_lt_of_cell? w _ hx_0)).trans hx_0
      replace hx_1 := (HB.out.cell (World.block_lt_of_cell? w _ hx_1)).trans hx_1
      replace hx_2 := (HB.out.cell (World.block_lt_of_cell? w _ hx_2)).trans hx_2
      replace hx_3 := (HB.out.cell (World.block_lt_of_cell? w _ hx_3)).trans hx_3
      replace hx_4 := (HB.out.cell (World.block_lt_of_cell? w _ hx_4)).trans hx_4
      simp only [tou_Window.l] at HA1
      by_cases c3 : X.f0.toList = a1.toList
      · have c3b0 : (X.f0.toList == a1.toList) = true := beq_iff_eq.mpr c3
        have c3b1 : (X.f0.toList != a1.toList) = false := bne_eq_false_iff_eq.mpr c3
        by_cases c4 : X.f1 = a2
        · have c4b0 : (X.f1 == a2) = true := beq_iff_eq.mpr c4
          have c4b1 : (X.f1 != a2) = false := bne_eq_false_iff_eq.mpr c4
          by_cases c5 : X.f2 ≤ a3
          · have c5b0 : decide (X.f2 ≤ a3) = true := decide_eq_true c5
            by_cases c6 : a3 < X.f3
            · have c6b0 : decide (a3 < X.f3) = true := decide_eq_true c6
              have Gc3 := Aside0.mk c3
              have Gc4 := Aside0.mk c4
              have Gc5 := Aside0.mk c5
              have Gc6 := Aside0.mk c6
              clear c3 c4 c5 c6
              have ix0 : ∀ w, (Instr.index 91 (.agg #[.bool true, .bool true, .bool true]) (.int .i64 0)).run Try.prog w = .ok (.bool true) w := fun _ => by kernel_rfl
              have ix1 : ∀ w, (Instr.index 91 (.agg #[.bool true, .bool true, .bool true]) (.int .i64 1)).run Try.prog w = .ok (.bool true) w := fun _ => by kernel_rfl
              have ix2 : ∀ w, (Instr.index 91 (.agg #[.bool true, .bool true, .bool true]) (.int .i64 2)).run Try.prog w = .ok (.bool true) w := fun _ => by kernel_rfl
              go_wp2_with (first | ((with_reducible refine gate_dst (N := 11) rfl ?_); refine box_event ?hg (N := 11) ?hd (cs := #[.string ⟨#[]⟩, .int .i64 0, .int .i64 0, .int .i64 0, .string ⟨#[]⟩]) (t := 60) ?hr ?_; (case hd => rfl); (case hg => rfl); (case hr => first | (go_simp; done) | (go_simp; rfl)); intro gb hg w6 hbox hb; have n0_ := Aside0.mk (below_step (by repeat (first | (with_reducible first | exact HB.out | apply below_alloc | apply pw_below_drewN | apply below_drew1) | exact HB.out)) hb); have n1_ := Aside0.mk (hbox); have n2_ := Aside0.mk ((by rw [hg]; exact (below_size (by repeat (first | (with_reducible first | exact HB.out | apply below_alloc | apply pw_below_drewN | apply below_drew1) | exact HB.out))) : w.heap.size ≤ gb)); clear HB; have HB := n0_; have BK := n1_; have GE := n2_; clear n0_ n1_ n2_; clear hb hbox hg; have hcz_0 : w6.cell? ⟨gb, 0, none⟩ = some (.string ⟨#[]⟩) := (blk_cell BK.out 0).trans rfl; have hcz_1 : w6.cell? ⟨gb, 1, none⟩ = some (.int .i64 0) := (blk_cell BK.out 1).trans rfl; have hcz_2 : w6.cell? ⟨gb, 2, none⟩ = some (.int .i64 0) := (blk_cell BK.out 2).trans rfl; have hcz_3 : w6.cell? ⟨gb, 3, none⟩ = some (.int .i64 0) := (blk_cell BK.out 3).trans rfl; have hcz_4 : w6.cell? ⟨gb, 4, none⟩ = some (.string ⟨#[]⟩) := (blk_cell BK.out 4).trans rfl; have hfz_0 := blk_frozen BK.out 0; have hfz_1 := blk_frozen BK.out 1; have hfz_2 := blk_frozen BK.out 2; have hfz_3 := blk_frozen BK.out 3; have hfz_4 := blk_frozen BK.out 4))
              repeat (go_quiet (first | ((with_reducible refine gate_dst (N := 11) rfl ?_); refine box_event ?hg (N := 11) ?hd (cs := #[.string ⟨#[]⟩, .int .i64 0, .int .i64 0, .int .i64 0, .string ⟨#[]⟩]) (t := 60) ?hr ?_; (case hd => rfl); (case hg => rfl); (case hr => first | (go_simp; done) | (go_simp; rfl)); intro gb hg w6 hbox hb; have n0_ := Aside0.mk (below_step (by repeat (first | (with_reducible first | exact HB.out | apply below_alloc | apply pw_below_drewN | apply below_drew1) | exact HB.out)) hb); have n1_ := Aside0.mk (hbox); have n2_ := Aside0.mk ((by rw [hg]; exact (below_size (by repeat (first | (with_reducible first | exact HB.out | apply below_alloc | apply pw_below_drewN | apply below_drew1) | exact HB.out))) : w.heap.size ≤ gb)); clear HB; have HB := n0_; have BK := n1_; have GE := n2_; clear n0_ n1_ n2_; clear hb hbox hg; have hcz_0 : w6.cell? ⟨gb, 0, none⟩ = some (.string ⟨#[]⟩) := (blk_cell BK.out 0).trans rfl; have hcz_1 : w6.cell? ⟨gb, 1, none⟩ = some (.int .i64 0) := (blk_cell BK.out 1).trans rfl; have hcz_2 : w6.cell? ⟨gb, 2, none⟩ = some (.int .i64 0) := (blk_cell BK.out 2).trans rfl; have hcz_3 : w6.cell? ⟨gb, 3, none⟩ = some (.int .i64 0) := (blk_cell BK.out 3).trans rfl; have hcz_4 : w6.cell? ⟨gb, 4, none⟩ = some (.string ⟨#[]⟩) := (blk_cell BK.out 4).trans rfl; have hfz_0 := blk_frozen BK.out 0; have hfz_1 := blk_frozen BK.out 1; have hfz_2 := blk_frozen BK.out 2; have hfz_3 := blk_frozen BK.out 3; have hfz_4 := blk_frozen BK.out 4)); try go_wp2)
              refine wp_loop_rounds 4 ?_
              rw [rounds_succ]
              go_wp2
              rw [rounds_succ]
              go_wp2
              rw [rounds_succ]
              go_wp2
              rw [rounds_succ]
              go_wp2
              have HA2 := HA1.out
              rw [if_pos ⟨Gc3.out, Gc4.out, Gc5.out, Gc6.out⟩, Prod.mk.injEq] at HA2
              obtain ⟨rfl, rfl⟩ := HA2
              (try rw [Exit.noGoto_ret])
              go_ret2
              exact ⟨rfl, by repeat (first | (with_reducible first | exact HB.out | apply below_alloc | apply pw_below_drewN | apply below_drew1 | refine below_set ?_ GE.out) | exact HB.out)⟩
            · have c6b0 : decide (a3 < X.f3) = false := decide_eq_false c6
              have Gc3 := Aside0.mk c3
              have Gc4 := Aside0.mk c4
              have Gc5 := Aside0.mk c5
              have Gc6 := Aside0.mk c6
              clear c3 c4 c5 c6
              have ix0 : ∀ w, (Instr.index 91 (.agg #[.bool true, .bool true, .bool false]) (.int .i64 0)).run Try.prog w = .ok (.bool true) w := fun _ => by kernel_rfl
              have ix1 : ∀ w, (Instr.index 91 (.agg #[.bool true, .bool true, .bool false]) (.int .i64 1)).run Try.prog w = .ok (.bool true) w := fun _ => by kernel_rfl
              have ix2 : ∀ w, (Instr.index 91 (.agg #[.bool true, .bool true, .bool false]) (.int .i64 2)).run Try.prog w = .ok (.bool false) w := fun _ => by kernel_rfl
              go_wp2_with (first | ((with_reducible refine gate_dst (N := 11) rfl ?_); refine box_event ?hg (N := 11) ?hd (cs := #[.string ⟨#[]⟩, .int .i64 0, .int .i64 0, .int .i64 0, .string ⟨#[]⟩]) (t := 60) ?hr ?_; (case hd => rfl); (case hg => rfl); (case hr => first | (go_simp; done) | (go_simp; rfl)); intro gb hg w6 hbox hb; have n0_ := Aside0.mk (below_step (by repeat (first | (with_reducible first | exact HB.out | apply below_alloc | apply pw_below_drewN | apply below_drew1) | exact HB.out)) hb); have n1_ := Aside0.mk (hbox); have n2_ := Aside0.mk ((by rw [hg]; exact (below_size (by repeat (first | (with_reducible first | exact HB.out | apply below_alloc | apply pw_below_drewN | apply below_drew1) | exact HB.out))) : w.heap.size ≤ gb)); clear HB; have HB := n0_; have BK := n1_; have GE := n2_; clear n0_ n1_ n2_; clear hb hbox hg; have hcz_0 : w6.cell? ⟨gb, 0, none⟩ = some (.string ⟨#[]⟩) := (blk_cell BK.out 0).trans rfl; have hcz_1 : w6.cell? ⟨gb, 1, none⟩ = some (.int .i64 0) := (blk_cell BK.out 1).trans rfl; have hcz_2 : w6.cell? ⟨gb, 2, none⟩ = some (.int .i64 0) := (blk_cell BK.out 2).trans rfl; have hcz_3 : w6.cell? ⟨gb, 3, none⟩ = some (.int .i64 0) := (blk_cell BK.out 3).trans rfl; have hcz_4 : w6.cell? ⟨gb, 4, none⟩ = some (.string ⟨#[]⟩) := (blk_cell BK.out 4).trans rfl; have hfz_0 := blk_frozen BK.out 0; have hfz_1 := blk_frozen BK.out 1; have hfz_2 := blk_frozen BK.out 2; have hfz_3 := blk_frozen BK.out 3; have hfz_4 := blk_frozen BK.out 4))
              repeat (go_quiet (first | ((with_reducible refine gate_dst (N := 11) rfl ?_); refine box_event ?hg (N := 11) ?hd (cs := #[.string ⟨#[]⟩, .int .i64 0, .int .i64 0, .int .i64 0, .string ⟨#[]⟩]) (t := 60) ?hr ?_; (case hd => rfl); (case hg => rfl); (case hr => first | (go_simp; done) | (go_simp; rfl)); intro gb hg w6 hbox hb; have n0_ := Aside0.mk (below_step (by repeat (first | (with_reducible first | exact HB.out | apply below_alloc | apply pw_below_drewN | apply below_drew1) | exact HB.out)) hb); have n1_ := Aside0.mk (hbox); have n2_ := Aside0.mk ((by rw [hg]; exact (below_size (by repeat (first | (with_reducible first | exact HB.out | apply below_alloc | apply pw_below_drewN | apply below_drew1) | exact HB.out))) : w.heap.size ≤ gb)); clear HB; have HB := n0_; have BK := n1_; have GE := n2_; clear n0_ n1_ n2_; clear hb hbox hg; have hcz_0 : w6.cell? ⟨gb, 0, none⟩ = some (.string ⟨#[]⟩) := (blk_cell BK.out 0).trans rfl; have hcz_1 : w6.cell? ⟨gb, 1, none⟩ = some (.int .i64 0) := (blk_cell BK.out 1).trans rfl; have hcz_2 : w6.cell? ⟨gb, 2, none⟩ = some (.int .i64 0) := (blk_cell BK.out 2).trans rfl; have hcz_3 : w6.cell? ⟨gb, 3, none⟩ = some (.int .i64 0) := (blk_cell BK.out 3).trans rfl; have hcz_4 : w6.cell? ⟨gb, 4, none⟩ = some (.string ⟨#[]⟩) := (blk_cell BK.out 4).trans rfl; have hfz_0 := blk_frozen BK.out 0; have hfz_1 := blk_frozen BK.out 1; have hfz_2 := blk_frozen BK.out 2; have hfz_3 := blk_frozen BK.out 3; have hfz_4 := blk_frozen BK.out 4)); try go_wp2)
              refine wp_loop_rounds 3 ?_
              rw [rounds_succ]
              go_wp2
              rw [rounds_succ]
              go_wp2
              rw [rounds_succ]
              go_wp2
              have HA2 := HA1.out
              rw [if_neg (by first | exact fun h => Gc3.out h.1 | exact fun h => Gc4.out h.2.1 | exact fun h => absurd h.2.2.1 (by have := Gc5.out; omega) | exact fun h => absurd h.2.2.2 (by have := Gc6.out; omega))] at HA2
              have HA3 := Aside0.mk HA2
              clear HA2
              go_roundg (l0.length - (x.toNat + 1))
              case measure => have := HK.out; have := HI.out; omega
              case rel => exact ⟨wrap64 (x + 1), (by first | rfl | (simp; done) | (simp [*]; done)), ⟨by rw [HW.out]; have := HK.out; have := HI.out; omega⟩, ⟨by rw [HW.out, show (x + 1).toNat = x.toNat + 1 by have := HK.out; omega]; exact HA3.out⟩, ⟨by repeat (first | (with_reducible first | exact HB.out | apply below_alloc | apply pw_below_drewN | apply below_drew1 | refine below_set ?_ GE.out) | exact HB.out)⟩⟩
          · have c5b0 : decide (X.f2 ≤ a3) = false := decide_eq_false c5
            have Gc3 := Aside0.mk c3
            have Gc4 := Aside0.mk c4
            have Gc5 := Aside0.mk c5
            clear c3 c4 c5
            have ix0 : ∀ w, (Instr.index 91 (.agg #[.bool true, .bool true, .bool false]) (.int .i64 0)).run Try.prog w = .ok (.bool true) w := fun _ => by kernel_rfl
            have ix1 : ∀ w, (Instr.index 91 (.agg #[.bool true, .bool true, .bool false]) (.int .i64 1)).run Try.prog w = .ok (.bool true) w := fun _ => by kernel_rfl
            have ix2 : ∀ w, (Instr.index 91 (.agg #[.bool true, .bool true, .bool false]) (.int .i64 2)).run Try.prog w = .ok (.bool false) w := fun _ => by kernel_rfl
            go_wp2_with (first | ((with_reducible refine gate_dst (N := 11) rfl ?_); refine box_event ?hg (N := 11) ?hd (cs := #[.string ⟨#[]⟩, .int .i64 0, .int .i64 0, .int .i64 0, .string ⟨#[]⟩]) (t := 60) ?hr ?_; (case hd => rfl); (case hg => rfl); (case hr => first | (go_simp; done) | (go_simp; rfl)); intro gb hg w6 hbox hb; have n0_ := Aside0.mk (below_step (by repeat (first | (with_reducible first | exact HB.out | apply below_alloc | apply pw_below_drewN | apply below_drew1) | exact HB.out)) hb); have n1_ := Aside0.mk (hbox); have n2_ := Aside0.mk ((by rw [hg]; exact (below_size (by repeat (first | (with_reducible first | exact HB.out | apply below_alloc | apply pw_below_drewN | apply below_drew1) | exact HB.out))) : w.heap.size ≤ gb)); clear HB; have HB := n0_; have BK := n1_; have GE := n2_; clear n0_ n1_ n2_; clear hb hbox hg; have hcz_0 : w6.cell? ⟨gb, 0, none⟩ = some (.string ⟨#[]⟩) := (blk_cell BK.out 0).trans rfl; have hcz_1 : w6.cell? ⟨gb, 1, none⟩ = some (.int .i64 0) := (blk_cell BK.out 1).trans rfl; have hcz_2 : w6.cell? ⟨gb, 2, none⟩ = some (.int .i64 0) := (blk_cell BK.out 2).trans rfl; have hcz_3 : w6.cell? ⟨gb, 3, none⟩ = some (.int .i64 0) := (blk_cell BK.out 3).trans rfl; have hcz_4 : w6.cell? ⟨gb, 4, none⟩ = some (.string ⟨#[]⟩) := (blk_cell BK.out 4).trans rfl; have hfz_0 := blk_frozen BK.out 0; have hfz_1 := blk_frozen BK.out 1; have hfz_2 := blk_frozen BK.out 2; have hfz_3 := blk_frozen BK.out 3; have hfz_4 := blk_frozen BK.out 4))
            repeat (go_quiet (first | ((with_reducible refine gate_dst (N := 11) rfl ?_); refine box_event ?hg (N := 11) ?hd (cs := #[.string ⟨#[]⟩, .int .i64 0, .int .i64 0, .int .i64 0, .string ⟨#[]⟩]) (t := 60) ?hr ?_; (case hd => rfl); (case hg => rfl); (case hr => first | (go_simp; done) | (go_simp; rfl)); intro gb hg w6 hbox hb; have n0_ := Aside0.mk (below_step (by repeat (first | (with_reducible first | exact HB.out | apply below_alloc | apply pw_below_drewN | apply below_drew1) | exact HB.out)) hb); have n1_ := Aside0.mk (hbox); have n2_ := Aside0.mk ((by rw [hg]; exact (below_size (by repeat (first | (with_reducible first | exact HB.out | apply below_alloc | apply pw_below_drewN | apply below_drew1) | exact HB.out))) : w.heap.size ≤ gb)); clear HB; have HB := n0_; have BK := n1_; have GE := n2_; clear n0_ n1_ n2_; clear hb hbox hg; have hcz_0 : w6.cell? ⟨gb, 0, none⟩ = some (.string ⟨#[]⟩) := (blk_cell BK.out 0).trans rfl; have hcz_1 : w6.cell? ⟨gb, 1, none⟩ = some (.int .i64 0) := (blk_cell BK.out 1).trans rfl; have hcz_2 : w6.cell? ⟨gb, 2, none⟩ = some (.int .i64 0) := (blk_cell BK.out 2).trans rfl; have hcz_3 : w6.cell? ⟨gb, 3, none⟩ = some (.int .i64 0) := (blk_cell BK.out 3).trans rfl; have hcz_4 : w6.cell? ⟨gb, 4, none⟩ = some (.string ⟨#[]⟩) := (blk_cell BK.out 4).trans rfl; have hfz_0 := blk_frozen BK.out 0; have hfz_1 := blk_frozen BK.out 1; have hfz_2 := blk_frozen BK.out 2; have hfz_3 := blk_frozen BK.out 3; have hfz_4 := blk_frozen BK.out 4)); try go_wp2)
            refine wp_loop_rounds 3 ?_
            rw [rounds_succ]
            go_wp2
            rw [rounds_succ]
            go_wp2
            rw [rounds_succ]
            go_wp2
            have HA2 := HA1.out
            rw [if_neg (by first | exact fun h => Gc3.out h.1 | exact fun h => Gc4.out h.2.1 | exact fun h => absurd h.2.2.1 (by have := Gc5.out; omega) | exact fun h => absurd h.2.2.2 (by have := Gc6.out; omega))] at HA2
            have HA3 := Aside0.mk HA2
            clear HA2
            go_roundg (l0.length - (x.toNat + 1))
            case measure => have := HK.out; have := HI.out; omega
            case rel => exact ⟨wrap64 (x + 1), (by first | rfl | (simp; done) | (simp [*]; done)), ⟨by rw [HW.out]; have := HK.out; have := HI.out; omega⟩, ⟨by rw [HW.out, show (x + 1).toNat = x.toNat + 1 by have := HK.out; omega]; exact HA3.out⟩, ⟨by repeat (first | (with_reducible first | exact HB.out | apply below_alloc | apply pw_below_drewN | apply below_drew1 | refine below_set ?_ GE.out) | exact HB.out)⟩⟩
        · have c4b0 : (X.f1 == a2) = false := beq_eq_false_iff_ne.mpr c4
          have c4b1 : (X.f1 != a2) = true := bne_iff_ne.mpr c4
          by_cases c5 : X.f2 ≤ a3
          · have c5b0 : decide (X.f2 ≤ a3) = true := decide_eq_true c5
            by_cases c6 : a3 < X.f3
            · have c6b0 : decide (a3 < X.f3) = true := decide_eq_true c6
              have Gc3 := Aside0.mk c3
              have Gc4 := Aside0.mk c4
              have Gc5 := Aside0.mk c5
              have Gc6 := Aside0.mk c6
              clear c3 c4 c5 c6
              have ix0 : ∀ w, (Instr.index 91 (.agg #[.bool true, .bool false, .bool true]) (.int .i64 0)).run Try.prog w = .ok (.bool true) w := fun _ => by kernel_rfl
              have ix1 : ∀ w, (Instr.index 91 (.agg #[.bool true, .bool false, .bool true]) (.int .i64 1)).run Try.prog w = .ok (.bool false) w := fun _ => by kernel_rfl
              have ix2 : ∀ w, (Instr.index 91 (.agg #[.bool true, .bool false, .bool true]) (.int .i64 2)).run Try.prog w = .ok (.bool true) w := fun _ => by kernel_rfl
              go_wp2_with (first | ((with_reducible refine gate_dst (N := 11) rfl ?_); refine box_event ?hg (N := 11) ?hd (cs := #[.string ⟨#[]⟩, .int .i64 0, .int .i64 0, .int .i64 0, .string ⟨#[]⟩]) (t := 60) ?hr ?_; (case hd => rfl); (case hg => rfl); (case hr => first | (go_simp; done) | (go_simp; rfl)); intro gb hg w6 hbox hb; have n0_ := Aside0.mk (below_step (by repeat (first | (with_reducible first | exact HB.out | apply below_alloc | apply pw_below_drewN | apply below_drew1) | exact HB.out)) hb); have n1_ := Aside0.mk (hbox); have n2_ := Aside0.mk ((by rw [hg]; exact (below_size (by repeat (first | (with_reducible first | exact HB.out | apply below_alloc | apply pw_below_drewN | apply below_drew1) | exact HB.out))) : w.heap.size ≤ gb)); clear HB; have HB := n0_; have BK := n1_; have GE := n2_; clear n0_ n1_ n2_; clear hb hbox hg; have hcz_0 : w6.cell? ⟨gb, 0, none⟩ = some (.string ⟨#[]⟩) := (blk_cell BK.out 0).trans rfl; have hcz_1 : w6.cell? ⟨gb, 1, none⟩ = some (.int .i64 0) := (blk_cell BK.out 1).trans rfl; have hcz_2 : w6.cell? ⟨gb, 2, none⟩ = some (.int .i64 0) := (blk_cell BK.out 2).trans rfl; have hcz_3 : w6.cell? ⟨gb, 3, none⟩ = some (.int .i64 0) := (blk_cell BK.out 3).trans rfl; have hcz_4 : w6.cell? ⟨gb, 4, none⟩ = some (.string ⟨#[]⟩) := (blk_cell BK.out 4).trans rfl; have hfz_0 := blk_frozen BK.out 0; have hfz_1 := blk_frozen BK.out 1; have hfz_2 := blk_frozen BK.out 2; have hfz_3 := blk_frozen BK.out 3; have hfz_4 := blk_frozen BK.out 4))
              repeat (go_quiet (first | ((with_reducible refine gate_dst (N := 11) rfl ?_); refine box_event ?hg (N := 11) ?hd (cs := #[.string ⟨#[]⟩, .int .i64 0, .int .i64 0, .int .i64 0, .string ⟨#[]⟩]) (t := 60) ?hr ?_; (case hd => rfl); (case hg => rfl); (case hr => first | (go_simp; done) | (go_simp; rfl)); intro gb hg w6 hbox hb; have n0_ := Aside0.mk (below_step (by repeat (first | (with_reducible first | exact HB.out | apply below_alloc | apply pw_below_drewN | apply below_drew1) | exact HB.out)) hb); have n1_ := Aside0.mk (hbox); have n2_ := Aside0.mk ((by rw [hg]; exact (below_size (by repeat (first | (with_reducible first | exact HB.out | apply below_alloc | apply pw_below_drewN | apply below_drew1) | exact HB.out))) : w.heap.size ≤ gb)); clear HB; have HB := n0_; have BK := n1_; have GE := n2_; clear n0_ n1_ n2_; clear hb hbox hg; have hcz_0 : w6.cell? ⟨gb, 0, none⟩ = some (.string ⟨#[]⟩) := (blk_cell BK.out 0).trans rfl; have hcz_1 : w6.cell? ⟨gb, 1, none⟩ = some (.int .i64 0) := (blk_cell BK.out 1).trans rfl; have hcz_2 : w6.cell? ⟨gb, 2, none⟩ = some (.int .i64 0) := (blk_cell BK.out 2).trans rfl; have hcz_3 : w6.cell? ⟨gb, 3, none⟩ = some (.int .i64 0) := (blk_cell BK.out 3).trans rfl; have hcz_4 : w6.cell? ⟨gb, 4, none⟩ = some (.string ⟨#[]⟩) := (blk_cell BK.out 4).trans rfl; have hfz_0 := blk_frozen BK.out 0; have hfz_1 := blk_frozen BK.out 1; have hfz_2 := blk_frozen BK.out 2; have hfz_3 := blk_frozen BK.out 3; have hfz_4 := blk_frozen BK.out 4)); try go_wp2)
              refine wp_loop_rounds 2 ?_
              rw [rounds_succ]
              go_wp2
              rw [rounds_succ]
              go_wp2
              have HA2 := HA1.out
              rw [if_neg (by first | exact fun h => Gc3.out h.1 | exact fun h => Gc4.out h.2.1 | exact fun h => absurd h.2.2.1 (by have := Gc5.out; omega) | exact fun h => absurd h.2.2.2 (by have := Gc6.out; omega))] at HA2
              have HA3 := Aside0.mk HA2
              clear HA2
              go_roundg (l0.length - (x.toNat + 1))
              case measure => have := HK.out; have := HI.out; omega
              case rel => exact ⟨wrap64 (x + 1), (by first | rfl | (simp; done) | (simp [*]; done)), ⟨by rw [HW.out]; have := HK.out; have := HI.out; omega⟩, ⟨by rw [HW.out, show (x + 1).toNat = x.toNat + 1 by have := HK.out; omega]; exact HA3.out⟩, ⟨by repeat (first | (with_reducible first | exact HB.out | apply below_alloc | apply pw_below_drewN | apply below_drew1 | refine below_set ?_ GE.out) | exact HB.out)⟩⟩
            · have c6b0 : decide (a3 < X.f3) = false := decide_eq_false c6
              have Gc3 := Aside0.mk c3
              have Gc4 := Aside0.mk c4
              have Gc5 := Aside0.mk c5
              have Gc6 := Aside0.mk c6
              clear c3 c4 c5 c6
              have ix0 : ∀ w, (Instr.index 91 (.agg #[.bool true, .bool false, .bool false]) (.int .i64 0)).run Try.prog w = .ok (.bool true) w := fun _ => by kernel_rfl
              have ix1 : ∀ w, (Instr.index 91 (.agg #[.bool true, .bool false, .bool false]) (.int .i64 1)).run Try.prog w = .ok (.bool false) w := fun _ => by kernel_rfl
              have ix2 : ∀ w, (Instr.index 91 (.agg #[.bool true, .bool false, .bool false]) (.int .i64 2)).run Try.prog w = .ok (.bool false) w := fun _ => by kernel_rfl
              go_wp2_with (first | ((with_reducible refine gate_dst (N := 11) rfl ?_); refine box_event ?hg (N := 11) ?hd (cs := #[.string ⟨#[]⟩, .int .i64 0, .int .i64 0, .int .i64 0, .string ⟨#[]⟩]) (t := 60) ?hr ?_; (case hd => rfl); (case hg => rfl); (case hr => first | (go_simp; done) | (go_simp; rfl)); intro gb hg w6 hbox hb; have n0_ := Aside0.mk (below_step (by repeat (first | (with_reducible first | exact HB.out | apply below_alloc | apply pw_below_drewN | apply below_drew1) | exact HB.out)) hb); have n1_ := Aside0.mk (hbox); have n2_ := Aside0.mk ((by rw [hg]; exact (below_size (by repeat (first | (with_reducible first | exact HB.out | apply below_alloc | apply pw_below_drewN | apply below_drew1) | exact HB.out))) : w.heap.size ≤ gb)); clear HB; have HB := n0_; have BK := n1_; have GE := n2_; clear n0_ n1_ n2_; clear hb hbox hg; have hcz_0 : w6.cell? ⟨gb, 0, none⟩ = some (.string ⟨#[]⟩) := (blk_cell BK.out 0).trans rfl; have hcz_1 : w6.cell? ⟨gb, 1, none⟩ = some (.int .i64 0) := (blk_cell BK.out 1).trans rfl; have hcz_2 : w6.cell? ⟨gb, 2, none⟩ = some (.int .i64 0) := (blk_cell BK.out 2).trans rfl; have hcz_3 : w6.cell? ⟨gb, 3, none⟩ = some (.int .i64 0) := (blk_cell BK.out 3).trans rfl; have hcz_4 : w6.cell? ⟨gb, 4, none⟩ = some (.string ⟨#[]⟩) := (blk_cell BK.out 4).trans rfl; have hfz_0 := blk_frozen BK.out 0; have hfz_1 := blk_frozen BK.out 1; have hfz_2 := blk_frozen BK.out 2; have hfz_3 := blk_frozen BK.out 3; have hfz_4 := blk_frozen BK.out 4))
              repeat (go_quiet (first | ((with_reducible refine gate_dst (N := 11) rfl ?_); refine box_event ?hg (N := 11) ?hd (cs := #[.string ⟨#[]⟩, .int .i64 0, .int .i64 0, .int .i64 0, .string ⟨#[]⟩]) (t := 60) ?hr ?_; (case hd => rfl); (case hg => rfl); (case hr => first | (go_simp; done) | (go_simp; rfl)); intro gb hg w6 hbox hb; have n0_ := Aside0.mk (below_step (by repeat (first | (with_reducible first | exact HB.out | apply below_alloc | apply pw_below_drewN | apply below_drew1) | exact HB.out)) hb); have n1_ := Aside0.mk (hbox); have n2_ := Aside0.mk ((by rw [hg]; exact (below_size (by repeat (first | (with_reducible first | exact HB.out | apply below_alloc | apply pw_below_drewN | apply below_drew1) | exact HB.out))) : w.heap.size ≤ gb)); clear HB; have HB := n0_; have BK := n1_; have GE := n2_; clear n0_ n1_ n2_; clear hb hbox hg; have hcz_0 : w6.cell? ⟨gb, 0, none⟩ = some (.string ⟨#[]⟩) := (blk_cell BK.out 0).trans rfl; have hcz_1 : w6.cell? ⟨gb, 1, none⟩ = some (.int .i64 0) := (blk_cell BK.out 1).trans rfl; have hcz_2 : w6.cell? ⟨gb, 2, none⟩ = some (.int .i64 0) := (blk_cell BK.out 2).trans rfl; have hcz_3 : w6.cell? ⟨gb, 3, none⟩ = some (.int .i64 0) := (blk_cell BK.out 3).trans rfl; have hcz_4 : w6.cell? ⟨gb, 4, none⟩ = some (.string ⟨#[]⟩) := (blk_cell BK.out 4).trans rfl; have hfz_0 := blk_frozen BK.out 0; have hfz_1 := blk_frozen BK.out 1; have hfz_2 := blk_frozen BK.out 2; have hfz_3 := blk_frozen BK.out 3; have hfz_4 := blk_frozen BK.out 4)); try go_wp2)
              refine wp_loop_rounds 2 ?_
              rw [rounds_succ]
              go_wp2
              rw [rounds_succ]
              go_wp2
              have HA2 := HA1.out
              rw [if_neg (by first | exact fun h => Gc3.out h.1 | exact fun h => Gc4.out h.2.1 | exact fun h => absurd h.2.2.1 (by have := Gc5.out; omega) | exact fun h => absurd h.2.2.2 (by have := Gc6.out; omega))] at HA2
              have HA3 := Aside0.mk HA2
              clear HA2
              go_roundg (l0.length - (x.toNat + 1))
              case measure => have := HK.out; have := HI.out; omega
              case rel => exact ⟨wrap64 (x + 1), (by first | rfl | (simp; done) | (simp [*]; done)), ⟨by rw [HW.out]; have := HK.out; have := HI.out; omega⟩, ⟨by rw [HW.out, show (x + 1).toNat = x.toNat + 1 by have := HK.out; omega]; exact HA3.out⟩, ⟨by repeat (first | (with_reducible first | exact HB.out | apply below_alloc | apply pw_below_drewN | apply below_drew1 | refine below_set ?_ GE.out) | exact HB.out)⟩⟩
          · have c5b0 : decide (X.f2 ≤ a3) = false := decide_eq_false c5
            have Gc3 := Aside0.mk c3
            have Gc4 := Aside0.mk c4
            have Gc5 := Aside0.mk c5
            clear c3 c4 c5
            have ix0 : ∀ w, (Instr.index 91 (.agg #[.bool true, .bool false, .bool false]) (.int .i64 0)).run Try.prog w = .ok (.bool true) w := fun _ => by kernel_rfl
            have ix1 : ∀ w, (Instr.index 91 (.agg #[.bool true, .bool false, .bool false]) (.int .i64 1)).run Try.prog w = .ok (.bool false) w := fun _ => by kernel_rfl
            have ix2 : ∀ w, (Instr.index 91 (.agg #[.bool true, .bool false, .bool false]) (.int .i64 2)).run Try.prog w = .ok (.bool false) w := fun _ => by kernel_rfl
            go_wp2_with (first | ((with_reducible refine gate_dst (N := 11) rfl ?_); refine box_event ?hg (N := 11) ?hd (cs := #[.string ⟨#[]⟩, .int .i64 0, .int .i64 0, .int .i64 0, .string ⟨#[]⟩]) (t := 60) ?hr ?_; (case hd => rfl); (case hg => rfl); (case hr => first | (go_simp; done) | (go_simp; rfl)); intro gb hg w6 hbox hb; have n0_ := Aside0.mk (below_step (by repeat (first | (with_reducible first | exact HB.out | apply below_alloc | apply pw_below_drewN | apply below_drew1) | exact HB.out)) hb); have n1_ := Aside0.mk (hbox); have n2_ := Aside0.mk ((by rw [hg]; exact (below_size (by repeat (first | (with_reducible first | exact HB.out | apply below_alloc | apply pw_below_drewN | apply below_drew1) | exact HB.out))) : w.heap.size ≤ gb)); clear HB; have HB := n0_; have BK := n1_; have GE := n2_; clear n0_ n1_ n2_; clear hb hbox hg; have hcz_0 : w6.cell? ⟨gb, 0, none⟩ = some (.string ⟨#[]⟩) := (blk_cell BK.out 0).trans rfl; have hcz_1 : w6.cell? ⟨gb, 1, none⟩ = some (.int .i64 0) := (blk_cell BK.out 1).trans rfl; have hcz_2 : w6.cell? ⟨gb, 2, none⟩ = some (.int .i64 0) := (blk_cell BK.out 2).trans rfl; have hcz_3 : w6.cell? ⟨gb, 3, none⟩ = some (.int .i64 0) := (blk_cell BK.out 3).trans rfl; have hcz_4 : w6.cell? ⟨gb, 4, none⟩ = some (.string ⟨#[]⟩) := (blk_cell BK.out 4).trans rfl; have hfz_0 := blk_frozen BK.out 0; have hfz_1 := blk_frozen BK.out 1; have hfz_2 := blk_frozen BK.out 2; have hfz_3 := blk_frozen BK.out 3; have hfz_4 := blk_frozen BK.out 4))
            repeat (go_quiet (first | ((with_reducible refine gate_dst (N := 11) rfl ?_); refine box_event ?hg (N := 11) ?hd (cs := #[.string ⟨#[]⟩, .int .i64 0, .int .i64 0, .int .i64 0, .string ⟨#[]⟩]) (t := 60) ?hr ?_; (case hd => rfl); (case hg => rfl); (case hr => first | (go_simp; done) | (go_simp; rfl)); intro gb hg w6 hbox hb; have n0_ := Aside0.mk (below_step (by repeat (first | (with_reducible first | exact HB.out | apply below_alloc | apply pw_below_drewN | apply below_drew1) | exact HB.out)) hb); have n1_ := Aside0.mk (hbox); have n2_ := Aside0.mk ((by rw [hg]; exact (below_size (by repeat (first | (with_reducible first | exact HB.out | apply below_alloc | apply pw_below_drewN | apply below_drew1) | exact HB.out))) : w.heap.size ≤ gb)); clear HB; have HB := n0_; have BK := n1_; have GE := n2_; clear n0_ n1_ n2_; clear hb hbox hg; have hcz_0 : w6.cell? ⟨gb, 0, none⟩ = some (.string ⟨#[]⟩) := (blk_cell BK.out 0).trans rfl; have hcz_1 : w6.cell? ⟨gb, 1, none⟩ = some (.int .i64 0) := (blk_cell BK.out 1).trans rfl; have hcz_2 : w6.cell? ⟨gb, 2, none⟩ = some (.int .i64 0) := (blk_cell BK.out 2).trans rfl; have hcz_3 : w6.cell? ⟨gb, 3, none⟩ = some (.int .i64 0) := (blk_cell BK.out 3).trans rfl; have hcz_4 : w6.cell? ⟨gb, 4, none⟩ = some (.string ⟨#[]⟩) := (blk_cell BK.out 4).trans rfl; have hfz_0 := blk_frozen BK.out 0; have hfz_1 := blk_frozen BK.out 1; have hfz_2 := blk_frozen BK.out 2; have hfz_3 := blk_frozen BK.out 3; have hfz_4 := blk_frozen BK.out 4)); try go_wp2)
            refine wp_loop_rounds 2 ?_
            rw [rounds_succ]
            go_wp2
            rw [rounds_succ]
            go_wp2
            have HA2 := HA1.out
            rw [if_neg (by first | exact fun h => Gc3.out h.1 | exact fun h => Gc4.out h.2.1 | exact fun h => absurd h.2.2.1 (by have := Gc5.out; omega) | exact fun h => absurd h.2.2.2 (by have := Gc6.out; omega))] at HA2
            have HA3 := Aside0.mk HA2
            clear HA2
            go_roundg (l0.length - (x.toNat + 1))
            case measure => have := HK.out; have := HI.out; omega
            case rel => exact ⟨wrap64 (x + 1), (by first | rfl | (simp; done) | (simp [*]; done)), ⟨by rw [HW.out]; have := HK.out; have := HI.out; omega⟩, ⟨by rw [HW.out, show (x + 1).toNat = x.toNat + 1 by have := HK.out; omega]; exact HA3.out⟩, ⟨by repeat (first | (with_reducible first | exact HB.out | apply below_alloc | apply pw_below_drewN | apply below_drew1 | refine below_set ?_ GE.out) | exact HB.out)⟩⟩
      · have c3b0 : (X.f0.toList == a1.toList) = false := beq_eq_false_iff_ne.mpr c3
        have c3b1 : (X.f0.toList != a1.toList) = true := bne_iff_ne.mpr c3
        by_cases c4 : X.f1 = a2
        · have c4b0 : (X.f1 == a2) = true := beq_iff_eq.mpr c4
          have c4b1 : (X.f1 != a2) = false := bne_eq_false_iff_eq.mpr c4
          by_cases c5 : X.f2 ≤ a3
          · have c5b0 : decide (X.f2 ≤ a3) = true := decide_eq_true c5
            by_cases c6 : a3 < X.f3
            · have c6b0 : decide (a3 < X.f3) = true := decide_eq_true c6
              have Gc3 := Aside0.mk c3
              have Gc4 := Aside0.mk c4
              have Gc5 := Aside0.mk c5
              have Gc6 := Aside0.mk c6
              clear c3 c4 c5 c6
              have ix0 : ∀ w, (Instr.index 91 (.agg #[.bool false, .bool true, .bool true]) (.int .i64 0)).run Try.prog w = .ok (.bool false) w := fun _ => by kernel_rfl
              have ix1 : ∀ w, (Instr.index 91 (.agg #[.bool false, .bool true, .bool true]) (.int .i64 1)).run Try.prog w = .ok (.bool true) w := fun _ => by kernel_rfl
              have ix2 : ∀ w, (Instr.index 91 (.agg #[.bool false, .bool true, .bool true]) (.int .i64 2)).run Try.prog w = .ok (.bool true) w := fun _ => by kernel_rfl
              go_wp2_with (first | ((with_reducible refine gate_dst (N := 11) rfl ?_); refine box_event ?hg (N := 11) ?hd (cs := #[.string ⟨#[]⟩, .int .i64 0, .int .i64 0, .int .i64 0, .string ⟨#[]⟩]) (t := 60) ?hr ?_; (case hd => rfl); (case hg => rfl); (case hr => first | (go_simp; done) | (go_simp; rfl)); intro gb hg w6 hbox hb; have n0_ := Aside0.mk (below_step (by repeat (first | (with_reducible first | exact HB.out | apply below_alloc | apply pw_below_drewN | apply below_drew1) | exact HB.out)) hb); have n1_ := Aside0.mk (hbox); have n2_ := Aside0.mk ((by rw [hg]; exact (below_size (by repeat (first | (with_reducible first | exact HB.out | apply below_alloc | apply pw_below_drewN | apply below_drew1) | exact HB.out))) : w.heap.size ≤ gb)); clear HB; have HB := n0_; have BK := n1_; have GE := n2_; clear n0_ n1_ n2_; clear hb hbox hg; have hcz_0 : w6.cell? ⟨gb, 0, none⟩ = some (.string ⟨#[]⟩) := (blk_cell BK.out 0).trans rfl; have hcz_1 : w6.cell? ⟨gb, 1, none⟩ = some (.int .i64 0) := (blk_cell BK.out 1).trans rfl; have hcz_2 : w6.cell? ⟨gb, 2, none⟩ = some (.int .i64 0) := (blk_cell BK.out 2).trans rfl; have hcz_3 : w6.cell? ⟨gb, 3, none⟩ = some (.int .i64 0) := (blk_cell BK.out 3).trans rfl; have hcz_4 : w6.cell? ⟨gb, 4, none⟩ = some (.string ⟨#[]⟩) := (blk_cell BK.out 4).trans rfl; have hfz_0 := blk_frozen BK.out 0; have hfz_1 := blk_frozen BK.out 1; have hfz_2 := blk_frozen BK.out 2; have hfz_3 := blk_frozen BK.out 3; have hfz_4 := blk_frozen BK.out 4))
              repeat (go_quiet (first | ((with_reducible refine gate_dst (N := 11) rfl ?_); refine box_event ?hg (N := 11) ?hd (cs := #[.string ⟨#[]⟩, .int .i64 0, .int .i64 0, .int .i64 0, .string ⟨#[]⟩]) (t := 60) ?hr ?_; (case hd => rfl); (case hg => rfl); (case hr => first | (go_simp; done) | (go_simp; rfl)); intro gb hg w6 hbox hb; have n0_ := Aside0.mk (below_step (by repeat (first | (with_reducible first | exact HB.out | apply below_alloc | apply pw_below_drewN | apply below_drew1) | exact HB.out)) hb); have n1_ := Aside0.mk (hbox); have n2_ := Aside0.mk ((by rw [hg]; exact (below_size (by repeat (first | (with_reducible first | exact HB.out | apply below_alloc | apply pw_below_drewN | apply below_drew1) | exact HB.out))) : w.heap.size ≤ gb)); clear HB; have HB := n0_; have BK := n1_; have GE := n2_; clear n0_ n1_ n2_; clear hb hbox hg; have hcz_0 : w6.cell? ⟨gb, 0, none⟩ = some (.string ⟨#[]⟩) := (blk_cell BK.out 0).trans rfl; have hcz_1 : w6.cell? ⟨gb, 1, none⟩ = some (.int .i64 0) := (blk_cell BK.out 1).trans rfl; have hcz_2 : w6.cell? ⟨gb, 2, none⟩ = some (.int .i64 0) := (blk_cell BK.out 2).trans rfl; have hcz_3 : w6.cell? ⟨gb, 3, none⟩ = some (.int .i64 0) := (blk_cell BK.out 3).trans rfl; have hcz_4 : w6.cell? ⟨gb, 4, none⟩ = some (.string ⟨#[]⟩) := (blk_cell BK.out 4).trans rfl; have hfz_0 := blk_frozen BK.out 0; have hfz_1 := blk_frozen BK.out 1; have hfz_2 := blk_frozen BK.out 2; have hfz_3 := blk_frozen BK.out 3; have hfz_4 := blk_frozen BK.out 4)); try go_wp2)
              refine wp_loop_rounds 1 ?_
              rw [rounds_succ]
              go_wp2
              have HA2 := HA1.out
              rw [if_neg (by first | exact fun h => Gc3.out h.1 | exact fun h => Gc4.out h.2.1 | exact fun h => absurd h.2.2.1 (by have := Gc5.out; omega) | exact fun h => absurd h.2.2.2 (by have := Gc6.out; omega))] at HA2
              have HA3 := Aside0.mk HA2
              clear HA2
              go_roundg (l0.length - (x.toNat + 1))
              case measure => have := HK.out; have := HI.out; omega
              case rel => exact ⟨wrap64 (x + 1), (by first | rfl | (simp; done) | (simp [*]; done)), ⟨by rw [HW.out]; have := HK.out; have := HI.out; omega⟩, ⟨by rw [HW.out, show (x + 1).toNat = x.toNat + 1 by have := HK.out; omega]; exact HA3.out⟩, ⟨by repeat (first | (with_reducible first | exact HB.out | apply below_alloc | apply pw_below_drewN | apply below_drew1 | refine below_set ?_ GE.out) | exact HB.out)⟩⟩
            · have c6b0 : decide (a3 < X.f3) = false := decide_eq_false c6
              have Gc3 := Aside0.mk c3
              have Gc4 := Aside0.mk c4
              have Gc5 := Aside0.mk c5
              have Gc6 := Aside0.mk c6
              clear c3 c4 c5 c6
              have ix0 : ∀ w, (Instr.index 91 (.agg #[.bool false, .bool true, .bool false]) (.int .i64 0)).run Try.prog w = .ok (.bool false) w := fun _ => by kernel_rfl
              have ix1 : ∀ w, (Instr.index 91 (.agg #[.bool false, .bool true, .bool false]) (.int .i64 1)).run Try.prog w = .ok (.bool true) w := fun _ => by kernel_rfl
              have ix2 : ∀ w, (Instr.index 91 (.agg #[.bool false, .bool true, .bool false]) (.int .i64 2)).run Try.prog w = .ok (.bool false) w := fun _ => by kernel_rfl
              go_wp2_with (first | ((with_reducible refine gate_dst (N := 11) rfl ?_); refine box_event ?hg (N := 11) ?hd (cs := #[.string ⟨#[]⟩, .int .i64 0, .int .i64 0, .int .i64 0, .string ⟨#[]⟩]) (t := 60) ?hr ?_; (case hd => rfl); (case hg => rfl); (case hr => first | (go_simp; done) | (go_simp; rfl)); intro gb hg w6 hbox hb; have n0_ := Aside0.mk (below_step (by repeat (first | (with_reducible first | exact HB.out | apply below_alloc | apply pw_below_drewN | apply below_drew1) | exact HB.out)) hb); have n1_ := Aside0.mk (hbox); have n2_ := Aside0.mk ((by rw [hg]; exact (below_size (by repeat (first | (with_reducible first | exact HB.out | apply below_alloc | apply pw_below_drewN | apply below_drew1) | exact HB.out))) : w.heap.size ≤ gb)); clear HB; have HB := n0_; have BK := n1_; have GE := n2_; clear n0_ n1_ n2_; clear hb hbox hg; have hcz_0 : w6.cell? ⟨gb, 0, none⟩ = some (.string ⟨#[]⟩) := (blk_cell BK.out 0).trans rfl; have hcz_1 : w6.cell? ⟨gb, 1, none⟩ = some (.int .i64 0) := (blk_cell BK.out 1).trans rfl; have hcz_2 : w6.cell? ⟨gb, 2, none⟩ = some (.int .i64 0) := (blk_cell BK.out 2).trans rfl; have hcz_3 : w6.cell? ⟨gb, 3, none⟩ = some (.int .i64 0) := (blk_cell BK.out 3).trans rfl; have hcz_4 : w6.cell? ⟨gb, 4, none⟩ = some (.string ⟨#[]⟩) := (blk_cell BK.out 4).trans rfl; have hfz_0 := blk_frozen BK.out 0; have hfz_1 := blk_frozen BK.out 1; have hfz_2 := blk_frozen BK.out 2; have hfz_3 := blk_frozen BK.out 3; have hfz_4 := blk_frozen BK.out 4))
              repeat (go_quiet (first | ((with_reducible refine gate_dst (N := 11) rfl ?_); refine box_event ?hg (N := 11) ?hd (cs := #[.string ⟨#[]⟩, .int .i64 0, .int .i64 0, .int .i64 0, .string ⟨#[]⟩]) (t := 60) ?hr ?_; (case hd => rfl); (case hg => rfl); (case hr => first | (go_simp; done) | (go_simp; rfl)); intro gb hg w6 hbox hb; have n0_ := Aside0.mk (below_step (by repeat (first | (with_reducible first | exact HB.out | apply below_alloc | apply pw_below_drewN | apply below_drew1) | exact HB.out)) hb); have n1_ := Aside0.mk (hbox); have n2_ := Aside0.mk ((by rw [hg]; exact (below_size (by repeat (first | (with_reducible first | exact HB.out | apply below_alloc | apply pw_below_drewN | apply below_drew1) | exact HB.out))) : w.heap.size ≤ gb)); clear HB; have HB := n0_; have BK := n1_; have GE := n2_; clear n0_ n1_ n2_; clear hb hbox hg; have hcz_0 : w6.cell? ⟨gb, 0, none⟩ = some (.string ⟨#[]⟩) := (blk_cell BK.out 0).trans rfl; have hcz_1 : w6.cell? ⟨gb, 1, none⟩ = some (.int .i64 0) := (blk_cell BK.out 1).trans rfl; have hcz_2 : w6.cell? ⟨gb, 2, none⟩ = some (.int .i64 0) := (blk_cell BK.out 2).trans rfl; have hcz_3 : w6.cell? ⟨gb, 3, none⟩ = some (.int .i64 0) := (blk_cell BK.out 3).trans rfl; have hcz_4 : w6.cell? ⟨gb, 4, none⟩ = some (.string ⟨#[]⟩) := (blk_cell BK.out 4).trans rfl; have hfz_0 := blk_frozen BK.out 0; have hfz_1 := blk_frozen BK.out 1; have hfz_2 := blk_frozen BK.out 2; have hfz_3 := blk_frozen BK.out 3; have hfz_4 := blk_frozen BK.out 4)); try go_wp2)
              refine wp_loop_rounds 1 ?_
              rw [rounds_succ]
              go_wp2
              have HA2 := HA1.out
              rw [if_neg (by first | exact fun h => Gc3.out h.1 | exact fun h => Gc4.out h.2.1 | exact fun h => absurd h.2.2.1 (by have := Gc5.out; omega) | exact fun h => absurd h.2.2.2 (by have := Gc6.out; omega))] at HA2
              have HA3 := Aside0.mk HA2
              clear HA2
              go_roundg (l0.length - (x.toNat + 1))
              case measure => have := HK.out; have := HI.out; omega
              case rel => exact ⟨wrap64 (x + 1), (by first | rfl | (simp; done) | (simp [*]; done)), ⟨by rw [HW.out]; have := HK.out; have := HI.out; omega⟩, ⟨by rw [HW.out, show (x + 1).toNat = x.toNat + 1 by have := HK.out; omega]; exact HA3.out⟩, ⟨by repeat (first | (with_reducible first | exact HB.out | apply below_alloc | apply pw_below_drewN | apply below_drew1 | refine below_set ?_ GE.out) | exact HB.out)⟩⟩
          · have c5b0 : decide (X.f2 ≤ a3) = false := decide_eq_false c5
            have Gc3 := Aside0.mk c3
            have Gc4 := Aside0.mk c4
            have Gc5 := Aside0.mk c5
            clear c3 c4 c5
            have ix0 : ∀ w, (Instr.index 91 (.agg #[.bool false, .bool true, .bool false]) (.int .i64 0)).run Try.prog w = .ok (.bool false) w := fun _ => by kernel_rfl
            have ix1 : ∀ w, (Instr.index 91 (.agg #[.bool false, .bool true, .bool false]) (.int .i64 1)).run Try.prog w = .ok (.bool true) w := fun _ => by kernel_rfl
            have ix2 : ∀ w, (Instr.index 91 (.agg #[.bool false, .bool true, .bool false]) (.int .i64 2)).run Try.prog w = .ok (.bool false) w := fun _ => by kernel_rfl
            go_wp2_with (first | ((with_reducible refine gate_dst (N := 11) rfl ?_); refine box_event ?hg (N := 11) ?hd (cs := #[.string ⟨#[]⟩, .int .i64 0, .int .i64 0, .int .i64 0, .string ⟨#[]⟩]) (t := 60) ?hr ?_; (case hd => rfl); (case hg => rfl); (case hr => first | (go_simp; done) | (go_simp; rfl)); intro gb hg w6 hbox hb; have n0_ := Aside0.mk (below_step (by repeat (first | (with_reducible first | exact HB.out | apply below_alloc | apply pw_below_drewN | apply below_drew1) | exact HB.out)) hb); have n1_ := Aside0.mk (hbox); have n2_ := Aside0.mk ((by rw [hg]; exact (below_size (by repeat (first | (with_reducible first | exact HB.out | apply below_alloc | apply pw_below_drewN | apply below_drew1) | exact HB.out))) : w.heap.size ≤ gb)); clear HB; have HB := n0_; have BK := n1_; have GE := n2_; clear n0_ n1_ n2_; clear hb hbox hg; have hcz_0 : w6.cell? ⟨gb, 0, none⟩ = some (.string ⟨#[]⟩) := (blk_cell BK.out 0).trans rfl; have hcz_1 : w6.cell? ⟨gb, 1, none⟩ = some (.int .i64 0) := (blk_cell BK.out 1).trans rfl; have hcz_2 : w6.cell? ⟨gb, 2, none⟩ = some (.int .i64 0) := (blk_cell BK.out 2).trans rfl; have hcz_3 : w6.cell? ⟨gb, 3, none⟩ = some (.int .i64 0) := (blk_cell BK.out 3).trans rfl; have hcz_4 : w6.cell? ⟨gb, 4, none⟩ = some (.string ⟨#[]⟩) := (blk_cell BK.out 4).trans rfl; have hfz_0 := blk_frozen BK.out 0; have hfz_1 := blk_frozen BK.out 1; have hfz_2 := blk_frozen BK.out 2; have hfz_3 := blk_frozen BK.out 3; have hfz_4 := blk_frozen BK.out 4))
            repeat (go_quiet (first | ((with_reducible refine gate_dst (N := 11) rfl ?_); refine box_event ?hg (N := 11) ?hd (cs := #[.string ⟨#[]⟩, .int .i64 0, .int .i64 0, .int .i64 0, .string ⟨#[]⟩]) (t := 60) ?hr ?_; (case hd => rfl); (case hg => rfl); (case hr => first | (go_simp; done) | (go_simp; rfl)); intro gb hg w6 hbox hb; have n0_ := Aside0.mk (below_step (by repeat (first | (with_reducible first | exact HB.out | apply below_alloc | apply pw_below_drewN | apply below_drew1) | exact HB.out)) hb); have n1_ := Aside0.mk (hbox); have n2_ := Aside0.mk ((by rw [hg]; exact (below_size (by repeat (first | (with_reducible first | exact HB.out | apply below_alloc | apply pw_below_drewN | apply below_drew1) | exact HB.out))) : w.heap.size ≤ gb)); clear HB; have HB := n0_; have BK := n1_; have GE := n2_; clear n0_ n1_ n2_; clear hb hbox hg; have hcz_0 : w6.cell? ⟨gb, 0, none⟩ = some (.string ⟨#[]⟩) := (blk_cell BK.out 0).trans rfl; have hcz_1 : w6.cell? ⟨gb, 1, none⟩ = some (.int .i64 0) := (blk_cell BK.out 1).trans rfl; have hcz_2 : w6.cell? ⟨gb, 2, none⟩ = some (.int .i64 0) := (blk_cell BK.out 2).trans rfl; have hcz_3 : w6.cell? ⟨gb, 3, none⟩ = some (.int .i64 0) := (blk_cell BK.out 3).trans rfl; have hcz_4 : w6.cell? ⟨gb, 4, none⟩ = some (.string ⟨#[]⟩) := (blk_cell BK.out 4).trans rfl; have hfz_0 := blk_frozen BK.out 0; have hfz_1 := blk_frozen BK.out 1; have hfz_2 := blk_frozen BK.out 2; have hfz_3 := blk_frozen BK.out 3; have hfz_4 := blk_frozen BK.out 4)); try go_wp2)
            refine wp_loop_rounds 1 ?_
            rw [rounds_succ]
            go_wp2
            have HA2 := HA1.out
            rw [if_neg (by first | exact fun h => Gc3.out h.1 | exact fun h => Gc4.out h.2.1 | exact fun h => absurd h.2.2.1 (by have := Gc5.out; omega) | exact fun h => absurd h.2.2.2 (by have := Gc6.out; omega))] at HA2
            have HA3 := Aside0.mk HA2
            clear HA2
            go_roundg (l0.length - (x.toNat + 1))
            case measure => have := HK.out; have := HI.out; omega
            case rel => exact ⟨wrap64 (x + 1), (by first | rfl | (simp; done) | (simp [*]; done)), ⟨by rw [HW.out]; have := HK.out; have := HI.out; omega⟩, ⟨by rw [HW.out, show (x + 1).toNat = x.toNat + 1 by have := HK.out; omega]; exact HA3.out⟩, ⟨by repeat (first | (with_reducible first | exact HB.out | apply below_alloc | apply pw_below_drewN | apply below_drew1 | refine below_set ?_ GE.out) | exact HB.out)⟩⟩
        · have c4b0 : (X.f1 == a2) = false := beq_eq_false_iff_ne.mpr c4
          have c4b1 : (X.f1 != a2) = true := bne_iff_ne.mpr c4
          by_cases c5 : X.f2 ≤ a3
          · have c5b0 : decide (X.f2 ≤ a3) = true := decide_eq_true c5
            by_cases c6 : a3 < X.f3
            · have c6b0 : decide (a3 < X.f3) = true := decide_eq_true c6
              have Gc3 := Aside0.mk c3
              have Gc4 := Aside0.mk c4
              have Gc5 := Aside0.mk c5
              have Gc6 := Aside0.mk c6
              clear c3 c4 c5 c6
              have ix0 : ∀ w, (Instr.index 91 (.agg #[.bool false, .bool false, .bool true]) (.int .i64 0)).run Try.prog w = .ok (.bool false) w := fun _ => by kernel_rfl
              have ix1 : ∀ w, (Instr.index 91 (.agg #[.bool false, .bool false, .bool true]) (.int .i64 1)).run Try.prog w = .ok (.bool false) w := fun _ => by kernel_rfl
              have ix2 : ∀ w, (Instr.index 91 (.agg #[.bool false, .bool false, .bool true]) (.int .i64 2)).run Try.prog w = .ok (.bool true) w := fun _ => by kernel_rfl
              go_wp2_with (first | ((with_reducible refine gate_dst (N := 11) rfl ?_); refine box_event ?hg (N := 11) ?hd (cs := #[.string ⟨#[]⟩, .int .i64 0, .int .i64 0, .int .i64 0, .string ⟨#[]⟩]) (t := 60) ?hr ?_; (case hd => rfl); (case hg => rfl); (case hr => first | (go_simp; done) | (go_simp; rfl)); intro gb hg w6 hbox hb; have n0_ := Aside0.mk (below_step (by repeat (first | (with_reducible first | exact HB.out | apply below_alloc | apply pw_below_drewN | apply below_drew1) | exact HB.out)) hb); have n1_ := Aside0.mk (hbox); have n2_ := Aside0.mk ((by rw [hg]; exact (below_size (by repeat (first | (with_reducible first | exact HB.out | apply below_alloc | apply pw_below_drewN | apply below_drew1) | exact HB.out))) : w.heap.size ≤ gb)); clear HB; have HB := n0_; have BK := n1_; have GE := n2_; clear n0_ n1_ n2_; clear hb hbox hg; have hcz_0 : w6.cell? ⟨gb, 0, none⟩ = some (.string ⟨#[]⟩) := (blk_cell BK.out 0).trans rfl; have hcz_1 : w6.cell? ⟨gb, 1, none⟩ = some (.int .i64 0) := (blk_cell BK.out 1).trans rfl; have hcz_2 : w6.cell? ⟨gb, 2, none⟩ = some (.int .i64 0) := (blk_cell BK.out 2).trans rfl; have hcz_3 : w6.cell? ⟨gb, 3, none⟩ = some (.int .i64 0) := (blk_cell BK.out 3).trans rfl; have hcz_4 : w6.cell? ⟨gb, 4, none⟩ = some (.string ⟨#[]⟩) := (blk_cell BK.out 4).trans rfl; have hfz_0 := blk_frozen BK.out 0; have hfz_1 := blk_frozen BK.out 1; have hfz_2 := blk_frozen BK.out 2; have hfz_3 := blk_frozen BK.out 3; have hfz_4 := blk_frozen BK.out 4))
              repeat (go_quiet (first | ((with_reducible refine gate_dst (N := 11) rfl ?_); refine box_event ?hg (N := 11) ?hd (cs := #[.string ⟨#[]⟩, .int .i64 0, .int .i64 0, .int .i64 0, .string ⟨#[]⟩]) (t := 60) ?hr ?_; (case hd => rfl); (case hg => rfl); (case hr => first | (go_simp; done) | (go_simp; rfl)); intro gb hg w6 hbox hb; have n0_ := Aside0.mk (below_step (by repeat (first | (with_reducible first | exact HB.out | apply below_alloc | apply pw_below_drewN | apply below_drew1) | exact HB.out)) hb); have n1_ := Aside0.mk (hbox); have n2_ := Aside0.mk ((by rw [hg]; exact (below_size (by repeat (first | (with_reducible first | exact HB.out | apply below_alloc | apply pw_below_drewN | apply below_drew1) | exact HB.out))) : w.heap.size ≤ gb)); clear HB; have HB := n0_; have BK := n1_; have GE := n2_; clear n0_ n1_ n2_; clear hb hbox hg; have hcz_0 : w6.cell? ⟨gb, 0, none⟩ = some (.string ⟨#[]⟩) := (blk_cell BK.out 0).trans rfl; have hcz_1 : w6.cell? ⟨gb, 1, none⟩ = some (.int .i64 0) := (blk_cell BK.out 1).trans rfl; have hcz_2 : w6.cell? ⟨gb, 2, none⟩ = some (.int .i64 0) := (blk_cell BK.out 2).trans rfl; have hcz_3 : w6.cell? ⟨gb, 3, none⟩ = some (.int .i64 0) := (blk_cell BK.out 3).trans rfl; have hcz_4 : w6.cell? ⟨gb, 4, none⟩ = some (.string ⟨#[]⟩) := (blk_cell BK.out 4).trans rfl; have hfz_0 := blk_frozen BK.out 0; have hfz_1 := blk_frozen BK.out 1; have hfz_2 := blk_frozen BK.out 2; have hfz_3 := blk_frozen BK.out 3; have hfz_4 := blk_frozen BK.out 4)); try go_wp2)
              refine wp_loop_rounds 1 ?_
              rw [rounds_succ]
              go_wp2
              have HA2 := HA1.out
              rw [if_neg (by first | exact fun h => Gc3.out h.1 | exact fun h => Gc4.out h.2.1 | exact fun h => absurd h.2.2.1 (by have := Gc5.out; omega) | exact fun h => absurd h.2.2.2 (by have := Gc6.out; omega))] at HA2
              have HA3 := Aside0.mk HA2
              clear HA2
              go_roundg (l0.length - (x.toNat + 1))
              case measure => have := HK.out; have := HI.out; omega
              case rel => exact ⟨wrap64 (x + 1), (by first | rfl | (simp; done) | (simp [*]; done)), ⟨by rw [HW.out]; have := HK.out; have := HI.out; omega⟩, ⟨by rw [HW.out, show (x + 1).toNat = x.toNat + 1 by have := HK.out; omega]; exact HA3.out⟩, ⟨by repeat (first | (with_reducible first | exact HB.out | apply below_alloc | apply pw_below_drewN | apply below_drew1 | refine below_set ?_ GE.out) | exact HB.out)⟩⟩
            · have c6b0 : decide (a3 < X.f3) = false := decide_eq_false c6
              have Gc3 := Aside0.mk c3
              have Gc4 := Aside0.mk c4
              have Gc5 := Aside0.mk c5
              have Gc6 := Aside0.mk c6
              clear c3 c4 c5 c6
              have ix0 : ∀ w, (Instr.index 91 (.agg #[.bool false, .bool false, .bool false]) (.int .i64 0)).run Try.prog w = .ok (.bool false) w := fun _ => by kernel_rfl
              have ix1 : ∀ w, (Instr.index 91 (.agg #[.bool false, .bool false, .bool false]) (.int .i64 1)).run Try.prog w = .ok (.bool false) w := fun _ => by kernel_rfl
              have ix2 : ∀ w, (Instr.index 91 (.agg #[.bool false, .bool false, .bool false]) (.int .i64 2)).run Try.prog w = .ok (.bool false) w := fun _ => by kernel_rfl
              go_wp2_with (first | ((with_reducible refine gate_dst (N := 11) rfl ?_); refine box_event ?hg (N := 11) ?hd (cs := #[.string ⟨#[]⟩, .int .i64 0, .int .i64 0, .int .i64 0, .string ⟨#[]⟩]) (t := 60) ?hr ?_; (case hd => rfl); (case hg => rfl); (case hr => first | (go_simp; done) | (go_simp; rfl)); intro gb hg w6 hbox hb; have n0_ := Aside0.mk (below_step (by repeat (first | (with_reducible first | exact HB.out | apply below_alloc | apply pw_below_drewN | apply below_drew1) | exact HB.out)) hb); have n1_ := Aside0.mk (hbox); have n2_ := Aside0.mk ((by rw [hg]; exact (below_size (by repeat (first | (with_reducible first | exact HB.out | apply below_alloc | apply pw_below_drewN | apply below_drew1) | exact HB.out))) : w.heap.size ≤ gb)); clear HB; have HB := n0_; have BK := n1_; have GE := n2_; clear n0_ n1_ n2_; clear hb hbox hg; have hcz_0 : w6.cell? ⟨gb, 0, none⟩ = some (.string ⟨#[]⟩) := (blk_cell BK.out 0).trans rfl; have hcz_1 : w6.cell? ⟨gb, 1, none⟩ = some (.int .i64 0) := (blk_cell BK.out 1).trans rfl; have hcz_2 : w6.cell? ⟨gb, 2, none⟩ = some (.int .i64 0) := (blk_cell BK.out 2).trans rfl; have hcz_3 : w6.cell? ⟨gb, 3, none⟩ = some (.int .i64 0) := (blk_cell BK.out 3).trans rfl; have hcz_4 : w6.cell? ⟨gb, 4, none⟩ = some (.string ⟨#[]⟩) := (blk_cell BK.out 4).trans rfl; have hfz_0 := blk_frozen BK.out 0; have hfz_1 := blk_frozen BK.out 1; have hfz_2 := blk_frozen BK.out 2; have hfz_3 := blk_frozen BK.out 3; have hfz_4 := blk_frozen BK.out 4))
              repeat (go_quiet (first | ((with_reducible refine gate_dst (N := 11) rfl ?_); refine box_event ?hg (N := 11) ?hd (cs := #[.string ⟨#[]⟩, .int .i64 0, .int .i64 0, .int .i64 0, .string ⟨#[]⟩]) (t := 60) ?hr ?_; (case hd => rfl); (case hg => rfl); (case hr => first | (go_simp; done) | (go_simp; rfl)); intro gb hg w6 hbox hb; have n0_ := Aside0.mk (below_step (by repeat (first | (with_reducible first | exact HB.out | apply below_alloc | apply pw_below_drewN | apply below_drew1) | exact HB.out)) hb); have n1_ := Aside0.mk (hbox); have n2_ := Aside0.mk ((by rw [hg]; exact (below_size (by repeat (first | (with_reducible first | exact HB.out | apply below_alloc | apply pw_below_drewN | apply below_drew1) | exact HB.out))) : w.heap.size ≤ gb)); clear HB; have HB := n0_; have BK := n1_; have GE := n2_; clear n0_ n1_ n2_; clear hb hbox hg; have hcz_0 : w6.cell? ⟨gb, 0, none⟩ = some (.string ⟨#[]⟩) := (blk_cell BK.out 0).trans rfl; have hcz_1 : w6.cell? ⟨gb, 1, none⟩ = some (.int .i64 0) := (blk_cell BK.out 1).trans rfl; have hcz_2 : w6.cell? ⟨gb, 2, none⟩ = some (.int .i64 0) := (blk_cell BK.out 2).trans rfl; have hcz_3 : w6.cell? ⟨gb, 3, none⟩ = some (.int .i64 0) := (blk_cell BK.out 3).trans rfl; have hcz_4 : w6.cell? ⟨gb, 4, none⟩ = some (.string ⟨#[]⟩) := (blk_cell BK.out 4).trans rfl; have hfz_0 := blk_frozen BK.out 0; have hfz_1 := blk_frozen BK.out 1; have hfz_2 := blk_frozen BK.out 2; have hfz_3 := blk_frozen BK.out 3; have hfz_4 := blk_frozen BK.out 4)); try go_wp2)
              refine wp_loop_rounds 1 ?_
              rw [rounds_succ]
              go_wp2
              have HA2 := HA1.out
              rw [if_neg (by first | exact fun h => Gc3.out h.1 | exact fun h => Gc4.out h.2.1 | exact fun h => absurd h.2.2.1 (by have := Gc5.out; omega) | exact fun h => absurd h.2.2.2 (by have := Gc6.out; omega))] at HA2
              have HA3 := Aside0.mk HA2
              clear HA2
              go_roundg (l0.length - (x.toNat + 1))
              case measure => have := HK.out; have := HI.out; omega
              case rel => exact ⟨wrap64 (x + 1), (by first | rfl | (simp; done) | (simp [*]; done)), ⟨by rw [HW.out]; have := HK.out; have := HI.out; omega⟩, ⟨by rw [HW.out, show (x + 1).toNat = x.toNat + 1 by have := HK.out; omega]; exact HA3.out⟩, ⟨by repeat (first | (with_reducible first | exact HB.out | apply below_alloc | apply pw_below_drewN | apply below_drew1 | refine below_set ?_ GE.out) | exact HB.out)⟩⟩
          · have c5b0 : decide (X.f2 ≤ a3) = false := decide_eq_false c5
            have Gc3 := Aside0.mk c3
            have Gc4 := Aside0.mk c4
            have Gc5 := Aside0.mk c5
            clear c3 c4 c5
            have ix0 : ∀ w, (Instr.index 91 (.agg #[.bool false, .bool false, .bool false]) (.int .i64 0)).run Try.prog w = .ok (.bool false) w := fun _ => by kernel_rfl
            have ix1 : ∀ w, (Instr.index 91 (.agg #[.bool false, .bool false, .bool false]) (.int .i64 1)).run Try.prog w = .ok (.bool false) w := fun _ => by kernel_rfl
            have ix2 : ∀ w, (Instr.index 91 (.agg #[.bool false, .bool false, .bool false]) (.int .i64 2)).run Try.prog w = .ok (.bool false) w := fun _ => by kernel_rfl
            go_wp2_with (first | ((with_reducible refine gate_dst (N := 11) rfl ?_); refine box_event ?hg (N := 11) ?hd (cs := #[.string ⟨#[]⟩, .int .i64 0, .int .i64 0, .int .i64 0, .string ⟨#[]⟩]) (t := 60) ?hr ?_; (case hd => rfl); (case hg => rfl); (case hr => first | (go_simp; done) | (go_simp; rfl)); intro gb hg w6 hbox hb; have n0_ := Aside0.mk (below_step (by repeat (first | (with_reducible first | exact HB.out | apply below_alloc | apply pw_below_drewN | apply below_drew1) | exact HB.out)) hb); have n1_ := Aside0.mk (hbox); have n2_ := Aside0.mk ((by rw [hg]; exact (below_size (by repeat (first | (with_reducible first | exact HB.out | apply below_alloc | apply pw_below_drewN | apply below_drew1) | exact HB.out))) : w.heap.size ≤ gb)); clear HB; have HB := n0_; have BK := n1_; have GE := n2_; clear n0_ n1_ n2_; clear hb hbox hg; have hcz_0 : w6.cell? ⟨gb, 0, none⟩ = some (.string ⟨#[]⟩) := (blk_cell BK.out 0).trans rfl; have hcz_1 : w6.cell? ⟨gb, 1, none⟩ = some (.int .i64 0) := (blk_cell BK.out 1).trans rfl; have hcz_2 : w6.cell? ⟨gb, 2, none⟩ = some (.int .i64 0) := (blk_cell BK.out 2).trans rfl; have hcz_3 : w6.cell? ⟨gb, 3, none⟩ = some (.int .i64 0) := (blk_cell BK.out 3).trans rfl; have hcz_4 : w6.cell? ⟨gb, 4, none⟩ = some (.string ⟨#[]⟩) := (blk_cell BK.out 4).trans rfl; have hfz_0 := blk_frozen BK.out 0; have hfz_1 := blk_frozen BK.out 1; have hfz_2 := blk_frozen BK.out 2; have hfz_3 := blk_frozen BK.out 3; have hfz_4 := blk_frozen BK.out 4))
            repeat (go_quiet (first | ((with_reducible refine gate_dst (N := 11) rfl ?_); refine box_event ?hg (N := 11) ?hd (cs := #[.string ⟨#[]⟩, .int .i64 0, .int .i64 0, .int .i64 0, .string ⟨#[]⟩]) (t := 60) ?hr ?_; (case hd => rfl); (case hg => rfl); (case hr => first | (go_simp; done) | (go_simp; rfl)); intro gb hg w6 hbox hb; have n0_ := Aside0.mk (below_step (by repeat (first | (with_reducible first | exact HB.out | apply below_alloc | apply pw_below_drewN | apply below_drew1) | exact HB.out)) hb); have n1_ := Aside0.mk (hbox); have n2_ := Aside0.mk ((by rw [hg]; exact (below_size (by repeat (first | (with_reducible first | exact HB.out | apply below_alloc | apply pw_below_drewN | apply below_drew1) | exact HB.out))) : w.heap.size ≤ gb)); clear HB; have HB := n0_; have BK := n1_; have GE := n2_; clear n0_ n1_ n2_; clear hb hbox hg; have hcz_0 : w6.cell? ⟨gb, 0, none⟩ = some (.string ⟨#[]⟩) := (blk_cell BK.out 0).trans rfl; have hcz_1 : w6.cell? ⟨gb, 1, none⟩ = some (.int .i64 0) := (blk_cell BK.out 1).trans rfl; have hcz_2 : w6.cell? ⟨gb, 2, none⟩ = some (.int .i64 0) := (blk_cell BK.out 2).trans rfl; have hcz_3 : w6.cell? ⟨gb, 3, none⟩ = some (.int .i64 0) := (blk_cell BK.out 3).trans rfl; have hcz_4 : w6.cell? ⟨gb, 4, none⟩ = some (.string ⟨#[]⟩) := (blk_cell BK.out 4).trans rfl; have hfz_0 := blk_frozen BK.out 0; have hfz_1 := blk_frozen BK.out 1; have hfz_2 := blk_frozen BK.out 2; have hfz_3 := blk_frozen BK.out 3; have hfz_4 := blk_frozen BK.out 4)); try go_wp2)
            refine wp_loop_rounds 1 ?_
            rw [rounds_succ]
            go_wp2
            have HA2 := HA1.out
            rw [if_neg (by first | exact fun h => Gc3.out h.1 | exact fun h => Gc4.out h.2.1 | exact fun h => absurd h.2.2.1 (by have := Gc5.out; omega) | exact fun h => absurd h.2.2.2 (by have := Gc6.out; omega))] at HA2
            have HA3 := Aside0.mk HA2
            clear HA2
            go_roundg (l0.length - (x.toNat + 1))
            case measure => have := HK.out; have := HI.out; omega
            case rel => exact ⟨wrap64 (x + 1), (by first | rfl | (simp; done) | (simp [*]; done)), ⟨by rw [HW.out]; have := HK.out; have := HI.out; omega⟩, ⟨by rw [HW.out, show (x + 1).toNat = x.toNat + 1 by have := HK.out; omega]; exact HA3.out⟩, ⟨by repeat (first | (with_reducible first | exact HB.out | apply below_alloc | apply pw_below_drewN | apply below_drew1 | refine below_set ?_ GE.out) | exact HB.out)⟩⟩
    · have c2b0 : decide (x < (l0.length : Int)) = false := decide_eq_false c2
      have e : l0.drop x.toNat = [] := List.drop_eq_nil_of_le (by omega)
      have HA1 := HA.out
      rw [e] at HA1
      simp only [tou_Window.l, Prod.mk.injEq] at HA1
      obtain ⟨rfl, rfl⟩ := HA1
      clear c2 e HA
      go_wp2
      (try rw [Exit.noGoto_ret])
      go_ret2
      exact ⟨rfl, by repeat (first | (with_reducible first | exact HB.out | apply below_alloc | apply pw_below_drewN | apply below_drew1) | exact HB.out)⟩

end Go.Proofs.Ytkggjjggcbcdiaa.PX
