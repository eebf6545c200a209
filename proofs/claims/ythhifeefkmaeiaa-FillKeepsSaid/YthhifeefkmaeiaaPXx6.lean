/- Functions of the program as plain Lean functions, each with a proof that the call in the machine answers just what the plain function says; condition: the plain function answers at all. -/
import Derived.Test.YthhifeefkmaeiaaPXx0
import Derived.Test.YthhifeefkmaeiaaPXx3
import Derived.Test.YthhifeefkmaeiaaPXx5
namespace Go.Proofs.Ythhifeefkmaeiaa.PX
open Go.RowKit Go.Proofs.YthhifeefkmaeiaaW.PrintWords Go.Proofs.YthhifeefkmaeiaaW.PrintLast Go.Proofs.YthhifeefkmaeiaaW.PrintMore
attribute [local go_sem] max2_int min2_int max_two min_two max_three min_three max_four min_four   -- for this text's walks alone
set_option linter.unusedVariables false
set_option linter.unusedSimpArgs false

/-! ### pylonref11_InOrder: function 29 -/
mutual
def pylonref11_InOrder.j0 : Nat → Bool → ByteArray → Int → Int → Int → Int → Int → List (S45) → Option (Bool)
 | 0, _, _, _, _, _, _, _, _ => none
 | k + 1, x12, x171000, x171001, x171002, x171003, x171004, x171005, x171006 => if x12 = true then (some false) else (pylonref11_InOrder.l0 k (x171006.length : Int) 0 x171000 x171001 x171002 x171003 x171004 x171005 x171006)
def pylonref11_InOrder.l0 : Nat → Int → Int → ByteArray → Int → Int → Int → Int → Int → List (S45) → Option (Bool)
 | 0, _, _, _, _, _, _, _, _, _ => none
 | k + 1, x15, x16, x171000, x171001, x171002, x171003, x171004, x171005, x171006 => if x16 < x15 then (if 0 ≤ x16 then (if x16 < (x171006.length : Int) then (if ((rd_T45 x171006 x16).f0) < 0 then (pylonref11_InOrder.j2 k x15 x16 true x171000 x171001 x171002 x171003 x171004 x171005 x171006 ((rd_T45 x171006 x16).f0) ((rd_T45 x171006 x16).f1) ((rd_T45 x171006 x16).f2) ((rd_T45 x171006 x16).f3) ((rd_T45 x171006 x16).f4)) else (if ((rd_T45 x171006 x16).f0) ≥ x171003 then (pylonref11_InOrder.j2 k x15 x16 true x171000 x171001 x171002 x171003 x171004 x171005 x171006 ((rd_T45 x171006 x16).f0) ((rd_T45 x171006 x16).f1) ((rd_T45 x171006 x16).f2) ((rd_T45 x171006 x16).f3) ((rd_T45 x171006 x16).f4)) else (if x16 > 0 then (if 0 ≤ (wrap64 (x16 - 1)) then (if (wrap64 (x16 - 1)) < (x171006.length : Int) then (pylonref11_InOrder.j2 k x15 x16 (decide (((rd_T45 x171006 x16).f0) ≤ ((rd_T45 x171006 (wrap64 (x16 - 1))).f0))) x171000 x171001 x171002 x171003 x171004 x171005 x171006 ((rd_T45 x171006 x16).f0) ((rd_T45 x171006 x16).f1) ((rd_T45 x171006 x16).f2) ((rd_T45 x171006 x16).f3) ((rd_T45 x171006 x16).f4)) else (none)) else (none)) else (pylonref11_InOrder.j2 k x15 x16 false x171000 x171001 x171002 x171003 x171004 x171005 x171006 ((rd_T45 x171006 x16).f0) ((rd_T45 x171006 x16).f1) ((rd_T45 x171006 x16).f2) ((rd_T45 x171006 x16).f3) ((rd_T45 x171006 x16).f4))))) else (none)) else (none)) else (some true)
def pylonref11_InOrder.j2 : Nat → Int → Int → Bool → ByteArray → Int → Int → Int → Int → Int → List (S45) → Int → Int → Int → Int → Int → Option (Bool)
 | 0, _, _, _, _, _, _, _, _, _, _, _, _, _, _, _ => none
 | k + 1, x15, x16, x49, x171000, x171001, x171002, x171003, x171004, x171005, x171006, x173000, x173001, x173002, x173003, x173004 => if x49 = true then (some false) else ((pylonref10_Good.f x173000 x173001 x173002 x173003 x173004).bind fun t174 => (if t174 = true then ((pylonref11_near.f x173001).bind fun t175 => (if t175 = true then ((pylonref11_near.f x173002).bind fun t176 => (if t176 = true then ((pylonref11_near.f x173003).bind fun t177 => (if t177 = true then (pylonref11_InOrder.l0 k x15 (wrap64 (x16 + 1)) x171000 x171001 x171002 x171003 x171004 x171005 x171006) else (some false))) else (some false))) else (some false))) else (pylonref11_InOrder.l0 k x15 (wrap64 (x16 + 1)) x171000 x171001 x171002 x171003 x171004 x171005 x171006)))
end
def pylonref11_InOrder.f (k : Nat) (a0_0 : ByteArray) (a0_1 : Int) (a0_2 : Int) (a0_3 : Int) (a0_4 : Int) (a0_5 : Int) (l0_6 : List (S45)) : Option (Bool) := if a0_3 < 1 then (pylonref11_InOrder.j0 k true a0_0 a0_1 a0_2 a0_3 a0_4 a0_5 l0_6) else (pylonref11_InOrder.j0 k (decide (a0_3 > 40000)) a0_0 a0_1 a0_2 a0_3 a0_4 a0_5 l0_6)
theorem pylonref11_InOrder.mono_l : ∀ k, (∀ y0 y1 y2 y3 y4 y5 y6 y7, LeO (pylonref11_InOrder.j0 k y0 y1 y2 y3 y4 y5 y6 y7) (pylonref11_InOrder.j0 (k + 1) y0 y1 y2 y3 y4 y5 y6 y7)) ∧ (∀ y0 y1 y2 y3 y4 y5 y6 y7 y8, LeO (pylonref11_InOrder.l0 k y0 y1 y2 y3 y4 y5 y6 y7 y8) (pylonref11_InOrder.l0 (k + 1) y0 y1 y2 y3 y4 y5 y6 y7 y8)) ∧ (∀ y0 y1 y2 y3 y4 y5 y6 y7 y8 y9 y10 y11 y12 y13 y14, LeO (pylonref11_InOrder.j2 k y0 y1 y2 y3 y4 y5 y6 y7 y8 y9 y10 y11 y12 y13 y14) (pylonref11_InOrder.j2 (k + 1) y0 y1 y2 y3 y4 y5 y6 y7 y8 y9 y10 y11 y12 y13 y14))
 | 0 => ⟨fun _ _ _ _ _ _ _ _ r h => by simp [pylonref11_InOrder.j0] at h, fun _ _ _ _ _ _ _ _ _ r h => by simp [pylonref11_InOrder.l0] at h, fun _ _ _ _ _ _ _ _ _ _ _ _ _ _ _ r h => by simp [pylonref11_InOrder.j2] at h⟩
 | k + 1 => by
  obtain ⟨ih0, ih1, ih2⟩ := pylonref11_InOrder.mono_l k
  refine ⟨?_, ?_, ?_⟩
  ·intro y0 y1 y2 y3 y4 y5 y6 y7
   unfold pylonref11_InOrder.j0
   repeat' first
   | (with_reducible exact ih0 _ _ _ _ _ _ _ _)
   | (with_reducible exact ih1 _ _ _ _ _ _ _ _ _)
   | (with_reducible exact ih2 _ _ _ _ _ _ _ _ _ _ _ _ _ _ _)
   | (with_reducible exact LeO.refl _)
   | (with_reducible exact LeO.none _)
   | (with_reducible refine LeO.ite ?_ ?_)
   | (with_reducible refine LeO.bind ?_ (fun _ => ?_))
  ·intro y0 y1 y2 y3 y4 y5 y6 y7 y8
   unfold pylonref11_InOrder.l0
   repeat' first
   | (with_reducible exact ih0 _ _ _ _ _ _ _ _)
   | (with_reducible exact ih1 _ _ _ _ _ _ _ _ _)
   | (with_reducible exact ih2 _ _ _ _ _ _ _ _ _ _ _ _ _ _ _)
   | (with_reducible exact LeO.refl _)
   | (with_reducible exact LeO.none _)
   | (with_reducible refine LeO.ite ?_ ?_)
   | (with_reducible refine LeO.bind ?_ (fun _ => ?_))
  ·intro y0 y1 y2 y3 y4 y5 y6 y7 y8 y9 y10 y11 y12 y13 y14
   unfold pylonref11_InOrder.j2
   repeat' first
   | (with_reducible exact ih0 _ _ _ _ _ _ _ _)
   | (with_reducible exact ih1 _ _ _ _ _ _ _ _ _)
   | (with_reducible exact ih2 _ _ _ _ _ _ _ _ _ _ _ _ _ _ _)
   | (with_reducible exact LeO.refl _)
   | (with_reducible exact LeO.none _)
   | (with_reducible refine LeO.ite ?_ ?_)
   | (with_reducible refine LeO.bind ?_ (fun _ => ?_))
theorem pylonref11_InOrder.mono : ∀ a0 a1 a2 a3 a4 a5 a6 k, LeO (pylonref11_InOrder.f k a0 a1 a2 a3 a4 a5 a6) (pylonref11_InOrder.f (k + 1) a0 a1 a2 a3 a4 a5 a6) := by
 intro a0 a1 a2 a3 a4 a5 a6 k
 obtain ⟨ih0, ih1, ih2⟩ := pylonref11_InOrder.mono_l k
 unfold pylonref11_InOrder.f
 repeat' first
   | (with_reducible exact ih0 _ _ _ _ _ _ _ _)
   | (with_reducible exact ih1 _ _ _ _ _ _ _ _ _)
   | (with_reducible exact ih2 _ _ _ _ _ _ _ _ _ _ _ _ _ _ _)
   | (with_reducible exact LeO.refl _)
   | (with_reducible exact LeO.none _)
   | (with_reducible refine LeO.ite ?_ ?_)
   | (with_reducible refine LeO.bind ?_ (fun _ => ?_))
set_option maxHeartbeats 8000000 in
set_option maxRecDepth 100000 in
theorem pylonref11_InOrder.calls (k : Nat) (a0_0 : ByteArray) (a0_1 : Int) (a0_2 : Int) (a0_3 : Int) (a0_4 : Int) (a0_5 : Int) (A0_6 : Option Addr) (c0_6 : Nat) (l0_6 : List (S45)) (r : Bool) (w : World) (hr0_6 : Kd.C k45 w A0_6 l0_6.length l0_6) (hc0_6 : l0_6.length ≤ c0_6) (h : pylonref11_InOrder.f k a0_0 a0_1 a0_2 a0_3 a0_4 a0_5 l0_6 = some r) :
  Calls Try.prog 29 #[.agg #[.string a0_0, .int .i64 a0_1, .int .i64 a0_2, .int .i64 a0_3, .int .i64 a0_4, .int .i64 a0_5, .slice A0_6 l0_6.length c0_6]] w fun e w' => e = .returned (.bool r) ∧ Below w.heap.size w w' := by
 have hu31 := Try.underlying31
 have hu45 := Try.underlying45
 have HR0_6 := AX hr0_6
 have HC0_6 := AX hc0_6
 clear hr0_6 hc0_6
 have HB := AX (Below.refl w.heap.size w)
 have H : (if a0_3 < 1 then (pylonref11_InOrder.j0 k true a0_0 a0_1 a0_2 a0_3 a0_4 a0_5 l0_6) else (pylonref11_InOrder.j0 k (decide (a0_3 > 40000)) a0_0 a0_1 a0_2 a0_3 a0_4 a0_5 l0_6)) = some r := h
 clear h
 have HC2 := AX H
 clear H
 go_enter Try.func29, Try.ntmps29
 go_upto_region 1 with (first | ((with_reducible refine gate_dst (N := 1) rfl ?_); refine bx 1 #[.string a0_0, .int .i64 a0_1, .int .i64 a0_2, .int .i64 a0_3, .int .i64 a0_4, .int .i64 a0_5, .slice A0_6 l0_6.length c0_6] 31 ?_; intro gb170 hg w3 hbox hb; have BK170 := AX (hbox); have GW170 := gwl (w := w) hg bw; have GE170 := GW170; replace HB := AX (below_step bw hb); clear hb hbox hg))
 repeat (go_quiet (first | ((with_reducible refine gate_dst (N := 1) rfl ?_); refine bx 1 #[.string a0_0, .int .i64 a0_1, .int .i64 a0_2, .int .i64 a0_3, .int .i64 a0_4, .int .i64 a0_5, .slice A0_6 l0_6.length c0_6] 31 ?_; intro gb170 hg w3 hbox hb; have BK170 := AX (hbox); have GW170 := gwl (w := w) hg bw; have GE170 := GW170; replace HB := AX (below_step bw hb); clear hb hbox hg)); go_upto_region 1 with (first | ((with_reducible refine gate_dst (N := 1) rfl ?_); refine bx 1 #[.string a0_0, .int .i64 a0_1, .int .i64 a0_2, .int .i64 a0_3, .int .i64 a0_4, .int .i64 a0_5, .slice A0_6 l0_6.length c0_6] 31 ?_; intro gb170 hg w3 hbox hb; have BK170 := AX (hbox); have GW170 := gwl (w := w) hg bw; have GE170 := GW170; replace HB := AX (below_step bw hb); clear hb hbox hg)))
 (try simp only [Act.put, List.setIfInBounds_toArray, List.set_cons_zero, List.set_cons_succ])
 go_cut [12] (fun v12 wc => ∃ (kq : Nat) (x12_1 : Bool), v12 = .bool x12_1 ∧ Aside0 (pylonref11_InOrder.j0 kq x12_1 a0_0 a0_1 a0_2 a0_3 a0_4 a0_5 l0_6 = some r) ∧ Aside0 (kq ≤ k) ∧ Aside0 (wc.heap[gb170]? = some (.cells #[.string a0_0, .int .i64 a0_1, .int .i64 a0_2, .int .i64 a0_3, .int .i64 a0_4, .int .i64 a0_5, (.slice A0_6 l0_6.length c0_6)] 31 (0, 0))) ∧ Aside0 (Below w.heap.size w wc))
 case first =>
  have H := HC2.out
  clear HC2
  by_cases c4 : a0_3 < 1
  ·rw [if_pos c4] at H
   have c4b0 : decide (a0_3 < 1) = true := decide_eq_true c4
   clear c4
   (first | rw [c4b0] | (simp only [i64_w, i32_w]; rw [c4b0]) | skip)
   have H' := AX H
   clear H
   obtain ⟨hcz5_0, hcz5_1, hcz5_2, hcz5_3, hcz5_4, hcz5_5, hcz5_6⟩ := blkC7 (w := w3) BK170.out
   obtain ⟨hfz5_0, hfz5_1, hfz5_2, hfz5_3, hfz5_4, hfz5_5, hfz5_6⟩ := blkF7 BK170.out
   go_wp2
   repeat (go_quiet (fail); try go_wp2)
   go_meet
   case rel => exact ⟨_, (true), (by first | rfl | (simp; done) | (simp [*]; done)), H', ⟨by first | omega | exact Nat.le_refl _⟩, ⟨bkn BK170⟩, ⟨bw⟩⟩
  ·rw [if_neg c4] at H
   have c4b0 : decide (a0_3 < 1) = false := decide_eq_false c4
   clear c4
   (first | rw [c4b0] | (simp only [i64_w, i32_w]; rw [c4b0]) | skip)
   have H' := AX H
   clear H
   obtain ⟨hcz6_0, hcz6_1, hcz6_2, hcz6_3, hcz6_4, hcz6_5, hcz6_6⟩ := blkC7 (w := w3) BK170.out
   obtain ⟨hfz6_0, hfz6_1, hfz6_2, hfz6_3, hfz6_4, hfz6_5, hfz6_6⟩ := blkF7 BK170.out
   go_wp2
   repeat (go_quiet (fail); try go_wp2)
   go_meet
   case rel => exact ⟨_, (decide (a0_3 > 40000)), (by first | rfl | (simp; done) | (simp [*]; done)), H', ⟨by first | omega | exact Nat.le_refl _⟩, ⟨bkn BK170⟩, ⟨bw⟩⟩
 case rest =>
  clear HC2
  obtain ⟨kq, x12_1, rfl, HA, HJ1, BK170, HB⟩ := hcut
  cases kq with
  | zero => exact absurd HA.out (by simp [pylonref11_InOrder.j0])
  | succ kj1 =>
   have H := HA.out
   clear HA
   simp only [pylonref11_InOrder.j0] at H
   by_cases c7 : x12_1 = true
   ·subst c7
    have H1 : (some false) = some r := by rw [if_pos rfl] at H; exact H
    clear H
    have H := H1
    clear H1
    obtain rfl := Option.some.inj H
    go_wp2
    repeat (go_quiet (fail); try go_wp2)
    go_ret
    exact ⟨by first | rfl | (simp [errW_none, errW_some] <;> rfl) | (simp [*, errW_none, errW_some] <;> rfl), bw⟩
   ·replace c7 := Bool.eq_false_iff.mpr c7
    subst c7
    have H1 : (pylonref11_InOrder.l0 kj1 (l0_6.length : Int) 0 a0_0 a0_1 a0_2 a0_3 a0_4 a0_5 l0_6) = some r := by rw [if_neg (show ¬ (false = true) by decide)] at H; exact H
    clear H
    have H := H1
    clear H1
    have H' := AX H
    clear H
    obtain ⟨hcz8_0, hcz8_1, hcz8_2, hcz8_3, hcz8_4, hcz8_5, hcz8_6⟩ := blkC7 (w := wc) BK170.out
    obtain ⟨hfz8_0, hfz8_1, hfz8_2, hfz8_3, hfz8_4, hfz8_5, hfz8_6⟩ := blkF7 BK170.out
    go_wp2
    repeat (go_quiet (fail); try go_wp2)
    go_loopg [16] kj1 (fun kq v16 w' => ∃ (x16_2 : Int), v16 = .int .i64 x16_2 ∧ Aside0 (pylonref11_InOrder.l0 kq (l0_6.length : Int) x16_2 a0_0 a0_1 a0_2 a0_3 a0_4 a0_5 l0_6 = some r) ∧ Aside0 (kq ≤ kj1) ∧ Aside0 (w'.heap[gb170]? = some (.cells #[.string a0_0, .int .i64 a0_1, .int .i64 a0_2, .int .i64 a0_3, .int .i64 a0_4, .int .i64 a0_5, (.slice A0_6 l0_6.length c0_6)] 31 (0, 0))) ∧ Aside0 (Below w.heap.size w w'))
    case atStart => exact ⟨(0), (by first | rfl | (simp; done) | (simp [*]; done)), H', ⟨Nat.le_refl _⟩, ⟨bkn BK170⟩, ⟨bw⟩⟩
    case round =>
     clear H'
     try clear c7
     try clear hcz8_0 hcz8_1 hcz8_2 hcz8_3 hcz8_4 hcz8_5 hcz8_6
     try clear hfz8_0 hfz8_1 hfz8_2 hfz8_3 hfz8_4 hfz8_5 hfz8_6
     obtain ⟨x16_2, rfl, HA, HK2, BK170, HB⟩ := hrel
     cases gk with
     | zero => exact absurd HA.out (by simp [pylonref11_InOrder.l0])
     | succ k2 =>
      have H := HA.out
      clear HA
      simp only [pylonref11_InOrder.l0] at H
      by_cases c9 : x16_2 < (l0_6.length : Int)
      ·rw [if_pos c9] at H
       have c9b0 : decide (x16_2 < (l0_6.length : Int)) = true := decide_eq_true c9
       clear c9
       by_cases c10 : 0 ≤ x16_2
       ·rw [if_pos c10] at H
        have c10b0 : decide (0 ≤ x16_2) = true := decide_eq_true c10
        clear c10
        by_cases c11 : x16_2 < (l0_6.length : Int)
        ·rw [if_pos c11] at H
         have c11b0 : decide (x16_2 < (l0_6.length : Int)) = true := decide_eq_true c11
         clear c11
         have HC12 := AX H
         clear H
         obtain ⟨hcz13_0, hcz13_1, hcz13_2, hcz13_3, hcz13_4, hcz13_5, hcz13_6⟩ := blkC7 (w := wr) BK170.out
         obtain ⟨hfz13_0, hfz13_1, hfz13_2, hfz13_3, hfz13_4, hfz13_5, hfz13_6⟩ := blkF7 BK170.out
         have p171 : 0 ≤ (x16_2 : Int) := of_decide_eq_true (by first | (with_reducible assumption) | assumption)
         have q171 : x16_2 < (l0_6.length : Int) := of_decide_eq_true (by first | (with_reducible assumption) | assumption)
         obtain ⟨ad171, e171, hx171_0, hx171_1, hx171_2, hx171_3, hx171_4⟩ := at_T45 HR0_6.out x16_2 p171 q171
         cases e171
         replace hx171_0 := bcl HB hx171_0
         replace hx171_1 := bcl HB hx171_1
         replace hx171_2 := bcl HB hx171_2
         replace hx171_3 := bcl HB hx171_3
         replace hx171_4 := bcl HB hx171_4
         replace p171 := eq_true p171
         replace q171 := eq_true q171
         go_upto_region 7 with (first | ((with_reducible refine gate_dst (N := 4) rfl ?_); refine bx 4 #[.int .i64 0, .int .i64 0, .int .i64 0, .int .i64 0, .int .u8 0] 45 ?_; intro gb172 hg w14 hbox hb; have BK172 := AX (hbox); have GW172 := gwl (w := w) hg bw; have GE172 := GW172; have NB170_172 := nbl hg (bkn BK170); have NB172_170 := nbg hg (bkn BK170); replace BK170 := AX (bkb BK170 hb); replace HB := AX (below_step bw hb); clear hb hbox hg; have hnb15 := NB172_170.out; have hnc15 := NB170_172.out; obtain ⟨hcz16_0, hcz16_1, hcz16_2, hcz16_3, hcz16_4⟩ := blkC5 (w := w14) BK172.out; obtain ⟨hfz16_0, hfz16_1, hfz16_2, hfz16_3, hfz16_4⟩ := blkF5 BK172.out))
         repeat (go_quiet (first | ((with_reducible refine gate_dst (N := 4) rfl ?_); refine bx 4 #[.int .i64 0, .int .i64 0, .int .i64 0, .int .i64 0, .int .u8 0] 45 ?_; intro gb172 hg w14 hbox hb; have BK172 := AX (hbox); have GW172 := gwl (w := w) hg bw; have GE172 := GW172; have NB170_172 := nbl hg (bkn BK170); have NB172_170 := nbg hg (bkn BK170); replace BK170 := AX (bkb BK170 hb); replace HB := AX (below_step bw hb); clear hb hbox hg; have hnb15 := NB172_170.out; have hnc15 := NB170_172.out; obtain ⟨hcz16_0, hcz16_1, hcz16_2, hcz16_3, hcz16_4⟩ := blkC5 (w := w14) BK172.out; obtain ⟨hfz16_0, hfz16_1, hfz16_2, hfz16_3, hfz16_4⟩ := blkF5 BK172.out)); go_upto_region 7 with (first | ((with_reducible refine gate_dst (N := 4) rfl ?_); refine bx 4 #[.int .i64 0, .int .i64 0, .int .i64 0, .int .i64 0, .int .u8 0] 45 ?_; intro gb172 hg w14 hbox hb; have BK172 := AX (hbox); have GW172 := gwl (w := w) hg bw; have GE172 := GW172; have NB170_172 := nbl hg (bkn BK170); have NB172_170 := nbg hg (bkn BK170); replace BK170 := AX (bkb BK170 hb); replace HB := AX (below_step bw hb); clear hb hbox hg; have hnb15 := NB172_170.out; have hnc15 := NB170_172.out; obtain ⟨hcz16_0, hcz16_1, hcz16_2, hcz16_3, hcz16_4⟩ := blkC5 (w := w14) BK172.out; obtain ⟨hfz16_0, hfz16_1, hfz16_2, hfz16_3, hfz16_4⟩ := blkF5 BK172.out)))
         (try simp only [Act.put, List.setIfInBounds_toArray, List.set_cons_zero, List.set_cons_succ])
         go_cut [49] (fun v49 wc => ∃ (kq : Nat) (x49_11 : Bool), v49 = .bool x49_11 ∧ Aside0 (pylonref11_InOrder.j2 kq (l0_6.length : Int) x16_2 x49_11 a0_0 a0_1 a0_2 a0_3 a0_4 a0_5 l0_6 ((rd_T45 l0_6 x16_2).f0) ((rd_T45 l0_6 x16_2).f1) ((rd_T45 l0_6 x16_2).f2) ((rd_T45 l0_6 x16_2).f3) ((rd_T45 l0_6 x16_2).f4) = some r) ∧ Aside0 (kq ≤ k2) ∧ Aside0 (wc.heap[gb170]? = some (.cells #[.string a0_0, .int .i64 a0_1, .int .i64 a0_2, .int .i64 a0_3, .int .i64 a0_4, .int .i64 a0_5, (.slice (some ad171) l0_6.length c0_6)] 31 (0, 0))) ∧ Aside0 (wc.heap[gb172]? = some (.cells #[.int .i64 ((rd_T45 l0_6 x16_2).f0), .int .i64 ((rd_T45 l0_6 x16_2).f1), .int .i64 ((rd_T45 l0_6 x16_2).f2), .int .i64 ((rd_T45 l0_6 x16_2).f3), .int .u8 ((rd_T45 l0_6 x16_2).f4)] 45 (0, 0))) ∧ Aside0 (Below w.heap.size w wc))
         case first =>
          have H := HC12.out
          clear HC12
          by_cases c17 : ((rd_T45 l0_6 x16_2).f0) < 0
          ·rw [if_pos c17] at H
           have c17b0 : decide (((rd_T45 l0_6 x16_2).f0) < 0) = true := decide_eq_true c17
           clear c17
           (first | rw [c17b0] | (simp only [i64_w, i32_w]; rw [c17b0]) | skip)
           have H' := AX H
           clear H
           have hnb18 := NB172_170.out
           have hnc18 := NB170_172.out
           obtain ⟨hcz19_0, hcz19_1, hcz19_2, hcz19_3, hcz19_4⟩ := blkC5 (w := w14) BK172.out
           obtain ⟨hfz19_0, hfz19_1, hfz19_2, hfz19_3, hfz19_4⟩ := blkF5 BK172.out
           go_wp2
           repeat (go_quiet (fail); try go_wp2)
           go_meet
           case rel => exact ⟨_, (true), (by first | rfl | (simp; done) | (simp [*]; done)), H', ⟨by have := HJ1.out; have := HK2.out; first | omega | exact Nat.le_refl _⟩, ⟨by (with_reducible repeat first|refine blk_drewN ?_ _|refine blk_drew ?_|refine blk_alloc ?_ _); refine blk_far ?_ NB170_172.out _; (with_reducible repeat first|refine blk_drewN ?_ _|refine blk_drew ?_|refine blk_alloc ?_ _); refine blk_far ?_ NB170_172.out _; (with_reducible repeat first|refine blk_drewN ?_ _|refine blk_drew ?_|refine blk_alloc ?_ _); refine blk_far ?_ NB170_172.out _; (with_reducible repeat first|refine blk_drewN ?_ _|refine blk_drew ?_|refine blk_alloc ?_ _); refine blk_far ?_ NB170_172.out _; (with_reducible repeat first|refine blk_drewN ?_ _|refine blk_drew ?_|refine blk_alloc ?_ _); refine blk_far ?_ NB170_172.out _; (with_reducible repeat first|refine blk_drewN ?_ _|refine blk_drew ?_|refine blk_alloc ?_ _); exact BK170.out⟩, ⟨by (with_reducible repeat first|refine blk_drewN ?_ _|refine blk_drew ?_|refine blk_alloc ?_ _); refine blk_put (cs := #[.int .i64 ((rd_T45 l0_6 x16_2).f0), .int .i64 ((rd_T45 l0_6 x16_2).f1), .int .i64 ((rd_T45 l0_6 x16_2).f2), .int .i64 ((rd_T45 l0_6 x16_2).f3), .int .u8 0]) ?_ 4 _ rfl; (with_reducible repeat first|refine blk_drewN ?_ _|refine blk_drew ?_|refine blk_alloc ?_ _); refine blk_put (cs := #[.int .i64 ((rd_T45 l0_6 x16_2).f0), .int .i64 ((rd_T45 l0_6 x16_2).f1), .int .i64 ((rd_T45 l0_6 x16_2).f2), .int .i64 0, .int .u8 0]) ?_ 3 _ rfl; (with_reducible repeat first|refine blk_drewN ?_ _|refine blk_drew ?_|refine blk_alloc ?_ _); refine blk_put (cs := #[.int .i64 ((rd_T45 l0_6 x16_2).f0), .int .i64 ((rd_T45 l0_6 x16_2).f1), .int .i64 0, .int .i64 0, .int .u8 0]) ?_ 2 _ rfl; (with_reducible repeat first|refine blk_drewN ?_ _|refine blk_drew ?_|refine blk_alloc ?_ _); refine blk_put (cs := #[.int .i64 ((rd_T45 l0_6 x16_2).f0), .int .i64 0, .int .i64 0, .int .i64 0, .int .u8 0]) ?_ 1 _ rfl; (with_reducible repeat first|refine blk_drewN ?_ _|refine blk_drew ?_|refine blk_alloc ?_ _); refine blk_put (cs := #[.int .i64 0, .int .i64 0, .int .i64 0, .int .i64 0, .int .u8 0]) ?_ 0 _ rfl; (with_reducible repeat first|refine blk_drewN ?_ _|refine blk_drew ?_|refine blk_alloc ?_ _); exact BK172.out⟩, ⟨bw⟩⟩
          ·rw [if_neg c17] at H
           have c17b0 : decide (((rd_T45 l0_6 x16_2).f0) < 0) = false := decide_eq_false c17
           clear c17
           (first | rw [c17b0] | (simp only [i64_w, i32_w]; rw [c17b0]) | skip)
           by_cases c20 : ((rd_T45 l0_6 x16_2).f0) ≥ a0_3
           ·rw [if_pos c20] at H
            have c20b0 : decide (a0_3 ≤ ((rd_T45 l0_6 x16_2).f0)) = true := decide_eq_true c20
            clear c20
            have H' := AX H
            clear H
            have hnb21 := NB172_170.out
            have hnc21 := NB170_172.out
            obtain ⟨hcz22_0, hcz22_1, hcz22_2, hcz22_3, hcz22_4⟩ := blkC5 (w := w14) BK172.out
            obtain ⟨hfz22_0, hfz22_1, hfz22_2, hfz22_3, hfz22_4⟩ := blkF5 BK172.out
            obtain ⟨hcz23_0, hcz23_1, hcz23_2, hcz23_3, hcz23_4, hcz23_5, hcz23_6⟩ := blkC7 (w := w14) BK170.out
            obtain ⟨hfz23_0, hfz23_1, hfz23_2, hfz23_3, hfz23_4, hfz23_5, hfz23_6⟩ := blkF7 BK170.out
            go_wp2
            repeat (go_quiet (fail); try go_wp2)
            go_meet
            case rel => exact ⟨_, (true), (by first | rfl | (simp; done) | (simp [*]; done)), H', ⟨by have := HJ1.out; have := HK2.out; first | omega | exact Nat.le_refl _⟩, ⟨by (with_reducible repeat first|refine blk_drewN ?_ _|refine blk_drew ?_|refine blk_alloc ?_ _); refine blk_far ?_ NB170_172.out _; (with_reducible repeat first|refine blk_drewN ?_ _|refine blk_drew ?_|refine blk_alloc ?_ _); refine blk_far ?_ NB170_172.out _; (with_reducible repeat first|refine blk_drewN ?_ _|refine blk_drew ?_|refine blk_alloc ?_ _); refine blk_far ?_ NB170_172.out _; (with_reducible repeat first|refine blk_drewN ?_ _|refine blk_drew ?_|refine blk_alloc ?_ _); refine blk_far ?_ NB170_172.out _; (with_reducible repeat first|refine blk_drewN ?_ _|refine blk_drew ?_|refine blk_alloc ?_ _); refine blk_far ?_ NB170_172.out _; (with_reducible repeat first|refine blk_drewN ?_ _|refine blk_drew ?_|refine blk_alloc ?_ _); exact BK170.out⟩, ⟨by (with_reducible repeat first|refine blk_drewN ?_ _|refine blk_drew ?_|refine blk_alloc ?_ _); refine blk_put (cs := #[.int .i64 ((rd_T45 l0_6 x16_2).f0), .int .i64 ((rd_T45 l0_6 x16_2).f1), .int .i64 ((rd_T45 l0_6 x16_2).f2), .int .i64 ((rd_T45 l0_6 x16_2).f3), .int .u8 0]) ?_ 4 _ rfl; (with_reducible repeat first|refine blk_drewN ?_ _|refine blk_drew ?_|refine blk_alloc ?_ _); refine blk_put (cs := #[.int .i64 ((rd_T45 l0_6 x16_2).f0), .int .i64 ((rd_T45 l0_6 x16_2).f1), .int .i64 ((rd_T45 l0_6 x16_2).f2), .int .i64 0, .int .u8 0]) ?_ 3 _ rfl; (with_reducible repeat first|refine blk_drewN ?_ _|refine blk_drew ?_|refine blk_alloc ?_ _); refine blk_put (cs := #[.int .i64 ((rd_T45 l0_6 x16_2).f0), .int .i64 ((rd_T45 l0_6 x16_2).f1), .int .i64 0, .int .i64 0, .int .u8 0]) ?_ 2 _ rfl; (with_reducible repeat first|refine blk_drewN ?_ _|refine blk_drew ?_|refine blk_alloc ?_ _); refine blk_put (cs := #[.int .i64 ((rd_T45 l0_6 x16_2).f0), .int .i64 0, .int .i64 0, .int .i64 0, .int .u8 0]) ?_ 1 _ rfl; (with_reducible repeat first|refine blk_drewN ?_ _|refine blk_drew ?_|refine blk_alloc ?_ _); refine blk_put (cs := #[.int .i64 0, .int .i64 0, .int .i64 0, .int .i64 0, .int .u8 0]) ?_ 0 _ rfl; (with_reducible repeat first|refine blk_drewN ?_ _|refine blk_drew ?_|refine blk_alloc ?_ _); exact BK172.out⟩, ⟨bw⟩⟩
           ·rw [if_neg c20] at H
            have c20b0 : decide (a0_3 ≤ ((rd_T45 l0_6 x16_2).f0)) = false := decide_eq_false c20
            clear c20
            by_cases c24 : x16_2 > 0
            ·rw [if_pos c24] at H
             have c24b0 : decide (0 < x16_2) = true := decide_eq_true c24
             clear c24
             obtain ⟨ji25, hji25⟩ : ∃ j_ : Int, (wrap64 (x16_2 - 1)) = j_ := ⟨_, rfl⟩
             replace H : (if 0 ≤ (ji25) then (if (ji25) < (l0_6.length : Int) then (pylonref11_InOrder.j2 k2 (l0_6.length : Int) x16_2 (decide (((rd_T45 l0_6 x16_2).f0) ≤ ((rd_T45 l0_6 (ji25)).f0))) a0_0 a0_1 a0_2 a0_3 a0_4 a0_5 l0_6 ((rd_T45 l0_6 x16_2).f0) ((rd_T45 l0_6 x16_2).f1) ((rd_T45 l0_6 x16_2).f2) ((rd_T45 l0_6 x16_2).f3) ((rd_T45 l0_6 x16_2).f4)) else (none)) else (none)) = some r := by first | (rw [hji25] at H; exact H) | (simp only [hji25] at H ⊢; exact H)
             have hji25w : (IntKind.i64.wrap (x16_2 - 1)) = ji25 := (i64_w _).trans hji25
             by_cases c26 : 0 ≤ (ji25)
             ·rw [if_pos c26] at H
              have c26b0 : decide (0 ≤ (ji25)) = true := decide_eq_true c26
              clear c26
              by_cases c27 : (ji25) < (l0_6.length : Int)
              ·rw [if_pos c27] at H
               have c27b0 : decide ((ji25) < (l0_6.length : Int)) = true := decide_eq_true c27
               clear c27
               have H' := AX H
               clear H
               have hnb28 := NB172_170.out
               have hnc28 := NB170_172.out
               obtain ⟨hcz29_0, hcz29_1, hcz29_2, hcz29_3, hcz29_4⟩ := blkC5 (w := w14) BK172.out
               obtain ⟨hfz29_0, hfz29_1, hfz29_2, hfz29_3, hfz29_4⟩ := blkF5 BK172.out
               obtain ⟨hcz30_0, hcz30_1, hcz30_2, hcz30_3, hcz30_4, hcz30_5, hcz30_6⟩ := blkC7 (w := w14) BK170.out
               obtain ⟨hfz30_0, hfz30_1, hfz30_2, hfz30_3, hfz30_4, hfz30_5, hfz30_6⟩ := blkF7 BK170.out
               have p173 : 0 ≤ ((ji25) : Int) := of_decide_eq_true (by first | (with_reducible assumption) | assumption)
               have q173 : (ji25) < (l0_6.length : Int) := of_decide_eq_true (by first | (with_reducible assumption) | assumption)
               obtain ⟨ad173, e173, hx173_0, hx173_1, hx173_2, hx173_3, hx173_4⟩ := at_T45 HR0_6.out (ji25) p173 q173
               obtain rfl : ad171 = ad173 := (by injection e173)
               have hn173_0 : ad171.block ≠ gb172 := Nat.ne_of_lt (Nat.lt_of_lt_of_le (by have := World.block_lt_of_cell? _ _ hx173_0; first | rwa [add_block] at this | exact this) GW172.out)
               have hn173_1 : ad171.block ≠ gb172 := Nat.ne_of_lt (Nat.lt_of_lt_of_le (by have := World.block_lt_of_cell? _ _ hx173_0; first | rwa [add_block] at this | exact this) GW172.out)
               have hn173_2 : ad171.block ≠ gb172 := Nat.ne_of_lt (Nat.lt_of_lt_of_le (by have := World.block_lt_of_cell? _ _ hx173_0; first | rwa [add_block] at this | exact this) GW172.out)
               have hn173_3 : ad171.block ≠ gb172 := Nat.ne_of_lt (Nat.lt_of_lt_of_le (by have := World.block_lt_of_cell? _ _ hx173_0; first | rwa [add_block] at this | exact this) GW172.out)
               have hn173_4 : ad171.block ≠ gb172 := Nat.ne_of_lt (Nat.lt_of_lt_of_le (by have := World.block_lt_of_cell? _ _ hx173_0; first | rwa [add_block] at this | exact this) GW172.out)
               replace hx173_0 := bcl HB hx173_0
               replace hx173_1 := bcl HB hx173_1
               replace hx173_2 := bcl HB hx173_2
               replace hx173_3 := bcl HB hx173_3
               replace hx173_4 := bcl HB hx173_4
               replace hx173_0 := (cell_far (p := ⟨gb172, 0, none⟩) (by first | (rw [add_block]; exact hn173_0) | (show (Addr.add _ _).block ≠ _; rw [add_block]; exact hn173_0) | exact hn173_0) (.int .i64 ((rd_T45 l0_6 x16_2).f0))).trans hx173_0
               replace hx173_1 := (cell_far (p := ⟨gb172, 0, none⟩) (by first | (rw [add_block]; exact hn173_0) | (show (Addr.add _ _).block ≠ _; rw [add_block]; exact hn173_0) | exact hn173_0) (.int .i64 ((rd_T45 l0_6 x16_2).f0))).trans hx173_1
               replace hx173_2 := (cell_far (p := ⟨gb172, 0, none⟩) (by first | (rw [add_block]; exact hn173_0) | (show (Addr.add _ _).block ≠ _; rw [add_block]; exact hn173_0) | exact hn173_0) (.int .i64 ((rd_T45 l0_6 x16_2).f0))).trans hx173_2
               replace hx173_3 := (cell_far (p := ⟨gb172, 0, none⟩) (by first | (rw [add_block]; exact hn173_0) | (show (Addr.add _ _).block ≠ _; rw [add_block]; exact hn173_0) | exact hn173_0) (.int .i64 ((rd_T45 l0_6 x16_2).f0))).trans hx173_3
               replace hx173_4 := (cell_far (p := ⟨gb172, 0, none⟩) (by first | (rw [add_block]; exact hn173_0) | (show (Addr.add _ _).block ≠ _; rw [add_block]; exact hn173_0) | exact hn173_0) (.int .i64 ((rd_T45 l0_6 x16_2).f0))).trans hx173_4
               replace hx173_0 := (cell_far (p := ⟨gb172, 1, none⟩) (by first | (rw [add_block]; exact hn173_1) | (show (Addr.add _ _).block ≠ _; rw [add_block]; exact hn173_1) | exact hn173_1) (.int .i64 ((rd_T45 l0_6 x16_2).f1))).trans hx173_0
               replace hx173_1 := (cell_far (p := ⟨gb172, 1, none⟩) (by first | (rw [add_block]; exact hn173_1) | (show (Addr.add _ _).block ≠ _; rw [add_block]; exact hn173_1) | exact hn173_1) (.int .i64 ((rd_T45 l0_6 x16_2).f1))).trans hx173_1
               replace hx173_2 := (cell_far (p := ⟨gb172, 1, none⟩) (by first | (rw [add_block]; exact hn173_1) | (show (Addr.add _ _).block ≠ _; rw [add_block]; exact hn173_1) | exact hn173_1) (.int .i64 ((rd_T45 l0_6 x16_2).f1))).trans hx173_2
               replace hx173_3 := (cell_far (p := ⟨gb172, 1, none⟩) (by first | (rw [add_block]; exact hn173_1) | (show (Addr.add _ _).block ≠ _; rw [add_block]; exact hn173_1) | exact hn173_1) (.int .i64 ((rd_T45 l0_6 x16_2).f1))).trans hx173_3
               replace hx173_4 := (cell_far (p := ⟨gb172, 1, none⟩) (by first | (rw [add_block]; exact hn173_1) | (show (Addr.add _ _).block ≠ _; rw [add_block]; exact hn173_1) | exact hn173_1) (.int .i64 ((rd_T45 l0_6 x16_2).f1))).trans hx173_4
               replace hx173_0 := (cell_far (p := ⟨gb172, 2, none⟩) (by first | (rw [add_block]; exact hn173_2) | (show (Addr.add _ _).block ≠ _; rw [add_block]; exact hn173_2) | exact hn173_2) (.int .i64 ((rd_T45 l0_6 x16_2).f2))).trans hx173_0
               replace hx173_1 := (cell_far (p := ⟨gb172, 2, none⟩) (by first | (rw [add_block]; exact hn173_2) | (show (Addr.add _ _).block ≠ _; rw [add_block]; exact hn173_2) | exact hn173_2) (.int .i64 ((rd_T45 l0_6 x16_2).f2))).trans hx173_1
               replace hx173_2 := (cell_far (p := ⟨gb172, 2, none⟩) (by first | (rw [add_block]; exact hn173_2) | (show (Addr.add _ _).block ≠ _; rw [add_block]; exact hn173_2) | exact hn173_2) (.int .i64 ((rd_T45 l0_6 x16_2).f2))).trans hx173_2
               replace hx173_3 := (cell_far (p := ⟨gb172, 2, none⟩) (by first | (rw [add_block]; exact hn173_2) | (show (Addr.add _ _).block ≠ _; rw [add_block]; exact hn173_2) | exact hn173_2) (.int .i64 ((rd_T45 l0_6 x16_2).f2))).trans hx173_3
               replace hx173_4 := (cell_far (p := ⟨gb172, 2, none⟩) (by first | (rw [add_block]; exact hn173_2) | (show (Addr.add _ _).block ≠ _; rw [add_block]; exact hn173_2) | exact hn173_2) (.int .i64 ((rd_T45 l0_6 x16_2).f2))).trans hx173_4
               replace hx173_0 := (cell_far (p := ⟨gb172, 3, none⟩) (by first | (rw [add_block]; exact hn173_3) | (show (Addr.add _ _).block ≠ _; rw [add_block]; exact hn173_3) | exact hn173_3) (.int .i64 ((rd_T45 l0_6 x16_2).f3))).trans hx173_0
               replace hx173_1 := (cell_far (p := ⟨gb172, 3, none⟩) (by first | (rw [add_block]; exact hn173_3) | (show (Addr.add _ _).block ≠ _; rw [add_block]; exact hn173_3) | exact hn173_3) (.int .i64 ((rd_T45 l0_6 x16_2).f3))).trans hx173_1
               replace hx173_2 := (cell_far (p := ⟨gb172, 3, none⟩) (by first | (rw [add_block]; exact hn173_3) | (show (Addr.add _ _).block ≠ _; rw [add_block]; exact hn173_3) | exact hn173_3) (.int .i64 ((rd_T45 l0_6 x16_2).f3))).trans hx173_2
               replace hx173_3 := (cell_far (p := ⟨gb172, 3, none⟩) (by first | (rw [add_block]; exact hn173_3) | (show (Addr.add _ _).block ≠ _; rw [add_block]; exact hn173_3) | exact hn173_3) (.int .i64 ((rd_T45 l0_6 x16_2).f3))).trans hx173_3
               replace hx173_4 := (cell_far (p := ⟨gb172, 3, none⟩) (by first | (rw [add_block]; exact hn173_3) | (show (Addr.add _ _).block ≠ _; rw [add_block]; exact hn173_3) | exact hn173_3) (.int .i64 ((rd_T45 l0_6 x16_2).f3))).trans hx173_4
               replace hx173_0 := (cell_far (p := ⟨gb172, 4, none⟩) (by first | (rw [add_block]; exact hn173_4) | (show (Addr.add _ _).block ≠ _; rw [add_block]; exact hn173_4) | exact hn173_4) (.int .u8 ((rd_T45 l0_6 x16_2).f4))).trans hx173_0
               replace hx173_1 := (cell_far (p := ⟨gb172, 4, none⟩) (by first | (rw [add_block]; exact hn173_4) | (show (Addr.add _ _).block ≠ _; rw [add_block]; exact hn173_4) | exact hn173_4) (.int .u8 ((rd_T45 l0_6 x16_2).f4))).trans hx173_1
               replace hx173_2 := (cell_far (p := ⟨gb172, 4, none⟩) (by first | (rw [add_block]; exact hn173_4) | (show (Addr.add _ _).block ≠ _; rw [add_block]; exact hn173_4) | exact hn173_4) (.int .u8 ((rd_T45 l0_6 x16_2).f4))).trans hx173_2
               replace hx173_3 := (cell_far (p := ⟨gb172, 4, none⟩) (by first | (rw [add_block]; exact hn173_4) | (show (Addr.add _ _).block ≠ _; rw [add_block]; exact hn173_4) | exact hn173_4) (.int .u8 ((rd_T45 l0_6 x16_2).f4))).trans hx173_3
               replace hx173_4 := (cell_far (p := ⟨gb172, 4, none⟩) (by first | (rw [add_block]; exact hn173_4) | (show (Addr.add _ _).block ≠ _; rw [add_block]; exact hn173_4) | exact hn173_4) (.int .u8 ((rd_T45 l0_6 x16_2).f4))).trans hx173_4
               (try have hy173_0 := fun (n_ : Nat) => (show (((((((w14.drewN n_).setCell ⟨gb172, 0, none⟩ (.int .i64 ((rd_T45 l0_6 x16_2).f0))).setCell ⟨gb172, 1, none⟩ (.int .i64 ((rd_T45 l0_6 x16_2).f1))).setCell ⟨gb172, 2, none⟩ (.int .i64 ((rd_T45 l0_6 x16_2).f2))).setCell ⟨gb172, 3, none⟩ (.int .i64 ((rd_T45 l0_6 x16_2).f3))).setCell ⟨gb172, 4, none⟩ (.int .u8 ((rd_T45 l0_6 x16_2).f4)))).cell? _ = some _ from hx173_0))
               (try have hy173_1 := fun (n_ : Nat) => (show (((((((w14.drewN n_).setCell ⟨gb172, 0, none⟩ (.int .i64 ((rd_T45 l0_6 x16_2).f0))).setCell ⟨gb172, 1, none⟩ (.int .i64 ((rd_T45 l0_6 x16_2).f1))).setCell ⟨gb172, 2, none⟩ (.int .i64 ((rd_T45 l0_6 x16_2).f2))).setCell ⟨gb172, 3, none⟩ (.int .i64 ((rd_T45 l0_6 x16_2).f3))).setCell ⟨gb172, 4, none⟩ (.int .u8 ((rd_T45 l0_6 x16_2).f4)))).cell? _ = some _ from hx173_1))
               (try have hy173_2 := fun (n_ : Nat) => (show (((((((w14.drewN n_).setCell ⟨gb172, 0, none⟩ (.int .i64 ((rd_T45 l0_6 x16_2).f0))).setCell ⟨gb172, 1, none⟩ (.int .i64 ((rd_T45 l0_6 x16_2).f1))).setCell ⟨gb172, 2, none⟩ (.int .i64 ((rd_T45 l0_6 x16_2).f2))).setCell ⟨gb172, 3, none⟩ (.int .i64 ((rd_T45 l0_6 x16_2).f3))).setCell ⟨gb172, 4, none⟩ (.int .u8 ((rd_T45 l0_6 x16_2).f4)))).cell? _ = some _ from hx173_2))
               (try have hy173_3 := fun (n_ : Nat) => (show (((((((w14.drewN n_).setCell ⟨gb172, 0, none⟩ (.int .i64 ((rd_T45 l0_6 x16_2).f0))).setCell ⟨gb172, 1, none⟩ (.int .i64 ((rd_T45 l0_6 x16_2).f1))).setCell ⟨gb172, 2, none⟩ (.int .i64 ((rd_T45 l0_6 x16_2).f2))).setCell ⟨gb172, 3, none⟩ (.int .i64 ((rd_T45 l0_6 x16_2).f3))).setCell ⟨gb172, 4, none⟩ (.int .u8 ((rd_T45 l0_6 x16_2).f4)))).cell? _ = some _ from hx173_3))
               (try have hy173_4 := fun (n_ : Nat) => (show (((((((w14.drewN n_).setCell ⟨gb172, 0, none⟩ (.int .i64 ((rd_T45 l0_6 x16_2).f0))).setCell ⟨gb172, 1, none⟩ (.int .i64 ((rd_T45 l0_6 x16_2).f1))).setCell ⟨gb172, 2, none⟩ (.int .i64 ((rd_T45 l0_6 x16_2).f2))).setCell ⟨gb172, 3, none⟩ (.int .i64 ((rd_T45 l0_6 x16_2).f3))).setCell ⟨gb172, 4, none⟩ (.int .u8 ((rd_T45 l0_6 x16_2).f4)))).cell? _ = some _ from hx173_4))
               clear hn173_0
               clear hn173_1
               clear hn173_2
               clear hn173_3
               clear hn173_4
               replace p173 := eq_true p173
               replace q173 := eq_true q173
               go_wp2
               repeat (go_quiet (fail); try go_wp2)
               go_meet
               case rel => exact ⟨_, (decide (((rd_T45 l0_6 x16_2).f0) ≤ ((rd_T45 l0_6 (ji25)).f0))), (by first | rfl | (simp; done) | (simp only [← hji25] <;> (first | rfl | simp)) | (simp [*]; done)), H', ⟨by have := HJ1.out; have := HK2.out; first | omega | exact Nat.le_refl _⟩, ⟨by (with_reducible repeat first|refine blk_drewN ?_ _|refine blk_drew ?_|refine blk_alloc ?_ _); refine blk_far ?_ NB170_172.out _; (with_reducible repeat first|refine blk_drewN ?_ _|refine blk_drew ?_|refine blk_alloc ?_ _); refine blk_far ?_ NB170_172.out _; (with_reducible repeat first|refine blk_drewN ?_ _|refine blk_drew ?_|refine blk_alloc ?_ _); refine blk_far ?_ NB170_172.out _; (with_reducible repeat first|refine blk_drewN ?_ _|refine blk_drew ?_|refine blk_alloc ?_ _); refine blk_far ?_ NB170_172.out _; (with_reducible repeat first|refine blk_drewN ?_ _|refine blk_drew ?_|refine blk_alloc ?_ _); refine blk_far ?_ NB170_172.out _; (with_reducible repeat first|refine blk_drewN ?_ _|refine blk_drew ?_|refine blk_alloc ?_ _); exact BK170.out⟩, ⟨by (with_reducible repeat first|refine blk_drewN ?_ _|refine blk_drew ?_|refine blk_alloc ?_ _); refine blk_put (cs := #[.int .i64 ((rd_T45 l0_6 x16_2).f0), .int .i64 ((rd_T45 l0_6 x16_2).f1), .int .i64 ((rd_T45 l0_6 x16_2).f2), .int .i64 ((rd_T45 l0_6 x16_2).f3), .int .u8 0]) ?_ 4 _ rfl; (with_reducible repeat first|refine blk_drewN ?_ _|refine blk_drew ?_|refine blk_alloc ?_ _); refine blk_put (cs := #[.int .i64 ((rd_T45 l0_6 x16_2).f0), .int .i64 ((rd_T45 l0_6 x16_2).f1), .int .i64 ((rd_T45 l0_6 x16_2).f2), .int .i64 0, .int .u8 0]) ?_ 3 _ rfl; (with_reducible repeat first|refine blk_drewN ?_ _|refine blk_drew ?_|refine blk_alloc ?_ _); refine blk_put (cs := #[.int .i64 ((rd_T45 l0_6 x16_2).f0), .int .i64 ((rd_T45 l0_6 x16_2).f1), .int .i64 0, .int .i64 0, .int .u8 0]) ?_ 2 _ rfl; (with_reducible repeat first|refine blk_drewN ?_ _|refine blk_drew ?_|refine blk_alloc ?_ _); refine blk_put (cs := #[.int .i64 ((rd_T45 l0_6 x16_2).f0), .int .i64 0, .int .i64 0, .int .i64 0, .int .u8 0]) ?_ 1 _ rfl; (with_reducible repeat first|refine blk_drewN ?_ _|refine blk_drew ?_|refine blk_alloc ?_ _); refine blk_put (cs := #[.int .i64 0, .int .i64 0, .int .i64 0, .int .i64 0, .int .u8 0]) ?_ 0 _ rfl; (with_reducible repeat first|refine blk_drewN ?_ _|refine blk_drew ?_|refine blk_alloc ?_ _); exact BK172.out⟩, ⟨bw⟩⟩
              ·rw [if_neg c27] at H
               exact absurd H (by simp)
             ·rw [if_neg c26] at H
              exact absurd H (by simp)
            ·rw [if_neg c24] at H
             have c24b0 : decide (0 < x16_2) = false := decide_eq_false c24
             clear c24
             have H' := AX H
             clear H
             have hnb31 := NB172_170.out
             have hnc31 := NB170_172.out
             obtain ⟨hcz32_0, hcz32_1, hcz32_2, hcz32_3, hcz32_4⟩ := blkC5 (w := w14) BK172.out
             obtain ⟨hfz32_0, hfz32_1, hfz32_2, hfz32_3, hfz32_4⟩ := blkF5 BK172.out
             obtain ⟨hcz33_0, hcz33_1, hcz33_2, hcz33_3, hcz33_4, hcz33_5, hcz33_6⟩ := blkC7 (w := w14) BK170.out
             obtain ⟨hfz33_0, hfz33_1, hfz33_2, hfz33_3, hfz33_4, hfz33_5, hfz33_6⟩ := blkF7 BK170.out
             go_wp2
             repeat (go_quiet (fail); try go_wp2)
             go_meet
             case rel => exact ⟨_, (false), (by first | rfl | (simp; done) | (simp [*]; done)), H', ⟨by have := HJ1.out; have := HK2.out; first | omega | exact Nat.le_refl _⟩, ⟨by (with_reducible repeat first|refine blk_drewN ?_ _|refine blk_drew ?_|refine blk_alloc ?_ _); refine blk_far ?_ NB170_172.out _; (with_reducible repeat first|refine blk_drewN ?_ _|refine blk_drew ?_|refine blk_alloc ?_ _); refine blk_far ?_ NB170_172.out _; (with_reducible repeat first|refine blk_drewN ?_ _|refine blk_drew ?_|refine blk_alloc ?_ _); refine blk_far ?_ NB170_172.out _; (with_reducible repeat first|refine blk_drewN ?_ _|refine blk_drew ?_|refine blk_alloc ?_ _); refine blk_far ?_ NB170_172.out _; (with_reducible repeat first|refine blk_drewN ?_ _|refine blk_drew ?_|refine blk_alloc ?_ _); refine blk_far ?_ NB170_172.out _; (with_reducible repeat first|refine blk_drewN ?_ _|refine blk_drew ?_|refine blk_alloc ?_ _); exact BK170.out⟩, ⟨by (with_reducible repeat first|refine blk_drewN ?_ _|refine blk_drew ?_|refine blk_alloc ?_ _); refine blk_put (cs := #[.int .i64 ((rd_T45 l0_6 x16_2).f0), .int .i64 ((rd_T45 l0_6 x16_2).f1), .int .i64 ((rd_T45 l0_6 x16_2).f2), .int .i64 ((rd_T45 l0_6 x16_2).f3), .int .u8 0]) ?_ 4 _ rfl; (with_reducible repeat first|refine blk_drewN ?_ _|refine blk_drew ?_|refine blk_alloc ?_ _); refine blk_put (cs := #[.int .i64 ((rd_T45 l0_6 x16_2).f0), .int .i64 ((rd_T45 l0_6 x16_2).f1), .int .i64 ((rd_T45 l0_6 x16_2).f2), .int .i64 0, .int .u8 0]) ?_ 3 _ rfl; (with_reducible repeat first|refine blk_drewN ?_ _|refine blk_drew ?_|refine blk_alloc ?_ _); refine blk_put (cs := #[.int .i64 ((rd_T45 l0_6 x16_2).f0), .int .i64 ((rd_T45 l0_6 x16_2).f1), .int .i64 0, .int .i64 0, .int .u8 0]) ?_ 2 _ rfl; (with_reducible repeat first|refine blk_drewN ?_ _|refine blk_drew ?_|refine blk_alloc ?_ _); refine blk_put (cs := #[.int .i64 ((rd_T45 l0_6 x16_2).f0), .int .i64 0, .int .i64 0, .int .i64 0, .int .u8 0]) ?_ 1 _ rfl; (with_reducible repeat first|refine blk_drewN ?_ _|refine blk_drew ?_|refine blk_alloc ?_ _); refine blk_put (cs := #[.int .i64 0, .int .i64 0, .int .i64 0, .int .i64 0, .int .u8 0]) ?_ 0 _ rfl; (with_reducible repeat first|refine blk_drewN ?_ _|refine blk_drew ?_|refine blk_alloc ?_ _); exact BK172.out⟩, ⟨bw⟩⟩
         case rest =>
          clear HC12
          try clear c9b0
          try clear c10b0
          try clear c11b0
          try clear hcz13_0 hcz13_1 hcz13_2 hcz13_3 hcz13_4 hcz13_5 hcz13_6
          try clear hcz16_0 hcz16_1 hcz16_2 hcz16_3 hcz16_4
          try clear hfz13_0 hfz13_1 hfz13_2 hfz13_3 hfz13_4 hfz13_5 hfz13_6
          try clear hfz16_0 hfz16_1 hfz16_2 hfz16_3 hfz16_4
          try clear hx171_0
          try clear hx171_1
          try clear hx171_2
          try clear hx171_3
          try clear hx171_4
          try clear p171
          try clear q171
          obtain ⟨kq, x49_11, rfl, HA, HJ11, BK170, BK172, HB⟩ := hcut
          cases kq with
          | zero => exact absurd HA.out (by simp [pylonref11_InOrder.j2])
          | succ kj11 =>
           have H := HA.out
           clear HA
           simp only [pylonref11_InOrder.j2] at H
           by_cases c34 : x49_11 = true
           ·subst c34
            have H1 : (some false) = some r := by rw [if_pos rfl] at H; exact H
            clear H
            have H := H1
            clear H1
            obtain rfl := Option.some.inj H
            go_wp2
            repeat (go_quiet (fail); try go_wp2)
            go_ret
            exact ⟨by first | rfl | (simp [errW_none, errW_some] <;> rfl) | (simp [*, errW_none, errW_some] <;> rfl), bw⟩
           ·replace c34 := Bool.eq_false_iff.mpr c34
            subst c34
            have H1 : ((pylonref10_Good.f ((rd_T45 l0_6 x16_2).f0) ((rd_T45 l0_6 x16_2).f1) ((rd_T45 l0_6 x16_2).f2) ((rd_T45 l0_6 x16_2).f3) ((rd_T45 l0_6 x16_2).f4)).bind fun t174 => (if t174 = true then ((pylonref11_near.f ((rd_T45 l0_6 x16_2).f1)).bind fun t175 => (if t175 = true then ((pylonref11_near.f ((rd_T45 l0_6 x16_2).f2)).bind fun t176 => (if t176 = true then ((pylonref11_near.f ((rd_T45 l0_6 x16_2).f3)).bind fun t177 => (if t177 = true then (pylonref11_InOrder.l0 kj11 (l0_6.length : Int) (wrap64 (x16_2 + 1)) a0_0 a0_1 a0_2 a0_3 a0_4 a0_5 l0_6) else (some false))) else (some false))) else (some false))) else (pylonref11_InOrder.l0 kj11 (l0_6.length : Int) (wrap64 (x16_2 + 1)) a0_0 a0_1 a0_2 a0_3 a0_4 a0_5 l0_6))) = some r := by rw [if_neg (show ¬ (false = true) by decide)] at H; exact H
            clear H
            have H := H1
            clear H1
            replace H := Option.bind_eq_some_iff.mp H
            obtain ⟨t174, A350, H⟩ := H
            replace H : (if t174 = true then ((pylonref11_near.f ((rd_T45 l0_6 x16_2).f1)).bind fun t175 => (if t175 = true then ((pylonref11_near.f ((rd_T45 l0_6 x16_2).f2)).bind fun t176 => (if t176 = true then ((pylonref11_near.f ((rd_T45 l0_6 x16_2).f3)).bind fun t177 => (if t177 = true then (pylonref11_InOrder.l0 kj11 (l0_6.length : Int) (wrap64 (x16_2 + 1)) a0_0 a0_1 a0_2 a0_3 a0_4 a0_5 l0_6) else (some false))) else (some false))) else (some false))) else (pylonref11_InOrder.l0 kj11 (l0_6.length : Int) (wrap64 (x16_2 + 1)) a0_0 a0_1 a0_2 a0_3 a0_4 a0_5 l0_6)) = some r := H
            have A35 := AX A350
            clear A350
            by_cases c36 : t174 = true
            ·subst c36
             have H1 : ((pylonref11_near.f ((rd_T45 l0_6 x16_2).f1)).bind fun t175 => (if t175 = true then ((pylonref11_near.f ((rd_T45 l0_6 x16_2).f2)).bind fun t176 => (if t176 = true then ((pylonref11_near.f ((rd_T45 l0_6 x16_2).f3)).bind fun t177 => (if t177 = true then (pylonref11_InOrder.l0 kj11 (l0_6.length : Int) (wrap64 (x16_2 + 1)) a0_0 a0_1 a0_2 a0_3 a0_4 a0_5 l0_6) else (some false))) else (some false))) else (some false))) = some r := by rw [if_pos rfl] at H; exact H
             clear H
             have H := H1
             clear H1
             replace H := Option.bind_eq_some_iff.mp H
             obtain ⟨t175, A370, H⟩ := H
             replace H : (if t175 = true then ((pylonref11_near.f ((rd_T45 l0_6 x16_2).f2)).bind fun t176 => (if t176 = true then ((pylonref11_near.f ((rd_T45 l0_6 x16_2).f3)).bind fun t177 => (if t177 = true then (pylonref11_InOrder.l0 kj11 (l0_6.length : Int) (wrap64 (x16_2 + 1)) a0_0 a0_1 a0_2 a0_3 a0_4 a0_5 l0_6) else (some false))) else (some false))) else (some false)) = some r := H
             have A37 := AX A370
             clear A370
             by_cases c38 : t175 = true
             ·subst c38
              have H1 : ((pylonref11_near.f ((rd_T45 l0_6 x16_2).f2)).bind fun t176 => (if t176 = true then ((pylonref11_near.f ((rd_T45 l0_6 x16_2).f3)).bind fun t177 => (if t177 = true then (pylonref11_InOrder.l0 kj11 (l0_6.length : Int) (wrap64 (x16_2 + 1)) a0_0 a0_1 a0_2 a0_3 a0_4 a0_5 l0_6) else (some false))) else (some false))) = some r := by rw [if_pos rfl] at H; exact H
              clear H
              have H := H1
              clear H1
              replace H := Option.bind_eq_some_iff.mp H
              obtain ⟨t176, A390, H⟩ := H
              replace H : (if t176 = true then ((pylonref11_near.f ((rd_T45 l0_6 x16_2).f3)).bind fun t177 => (if t177 = true then (pylonref11_InOrder.l0 kj11 (l0_6.length : Int) (wrap64 (x16_2 + 1)) a0_0 a0_1 a0_2 a0_3 a0_4 a0_5 l0_6) else (some false))) else (some false)) = some r := H
              have A39 := AX A390
              clear A390
              by_cases c40 : t176 = true
              ·subst c40
               have H1 : ((pylonref11_near.f ((rd_T45 l0_6 x16_2).f3)).bind fun t177 => (if t177 = true then (pylonref11_InOrder.l0 kj11 (l0_6.length : Int) (wrap64 (x16_2 + 1)) a0_0 a0_1 a0_2 a0_3 a0_4 a0_5 l0_6) else (some false))) = some r := by rw [if_pos rfl] at H; exact H
               clear H
               have H := H1
               clear H1
               replace H := Option.bind_eq_some_iff.mp H
               obtain ⟨t177, A410, H⟩ := H
               replace H : (if t177 = true then (pylonref11_InOrder.l0 kj11 (l0_6.length : Int) (wrap64 (x16_2 + 1)) a0_0 a0_1 a0_2 a0_3 a0_4 a0_5 l0_6) else (some false)) = some r := H
               have A41 := AX A410
               clear A410
               by_cases c42 : t177 = true
               ·subst c42
                have H1 : (pylonref11_InOrder.l0 kj11 (l0_6.length : Int) (wrap64 (x16_2 + 1)) a0_0 a0_1 a0_2 a0_3 a0_4 a0_5 l0_6) = some r := by rw [if_pos rfl] at H; exact H
                clear H
                have H := H1
                clear H1
                have H' := AX H
                clear H
                have hnb43 := NB172_170.out
                have hnc43 := NB170_172.out
                obtain ⟨hcz44_0, hcz44_1, hcz44_2, hcz44_3, hcz44_4⟩ := blkC5 (w := wc) BK172.out
                obtain ⟨hfz44_0, hfz44_1, hfz44_2, hfz44_3, hfz44_4⟩ := blkF5 BK172.out
                go_wp2_with (first | (go_at_call 21; (with_reducible refine (pylonref10_Good.calls ((rd_T45 l0_6 x16_2).f0) ((rd_T45 l0_6 x16_2).f1) ((rd_T45 l0_6 x16_2).f2) ((rd_T45 l0_6 x16_2).f3) ((rd_T45 l0_6 x16_2).f4) true _ A35.out).mono ?_); rintro e w45 ⟨rfl, hb⟩; replace BK170 := AX (bkb BK170 hb); replace BK172 := AX (bkb BK172 hb); replace HB := AX (below_step bw hb); (try clear hb); obtain ⟨hcz46_0, hcz46_1, hcz46_2, hcz46_3, hcz46_4⟩ := blkC5 (w := w45) BK172.out; obtain ⟨hfz46_0, hfz46_1, hfz46_2, hfz46_3, hfz46_4⟩ := blkF5 BK172.out) | (go_at_call 23; (with_reducible refine (pylonref11_near.calls ((rd_T45 l0_6 x16_2).f1) true _ A37.out).mono ?_); rintro e w' ⟨rfl, ⟨nd, rfl⟩⟩; (try first | exact ⟨rfl, _, World.drewN_drewN _ _ _⟩ | exact ⟨rfl, _, Eq.trans (World.drewN_drewN _ _ _) (congrArg (World.drewN _) (Nat.add_assoc _ _ _))⟩)) | (go_at_call 23; (with_reducible refine (pylonref11_near.calls ((rd_T45 l0_6 x16_2).f2) true _ A39.out).mono ?_); rintro e w' ⟨rfl, ⟨nd, rfl⟩⟩; (try first | exact ⟨rfl, _, World.drewN_drewN _ _ _⟩ | exact ⟨rfl, _, Eq.trans (World.drewN_drewN _ _ _) (congrArg (World.drewN _) (Nat.add_assoc _ _ _))⟩)) | (go_at_call 23; (with_reducible refine (pylonref11_near.calls ((rd_T45 l0_6 x16_2).f3) true _ A41.out).mono ?_); rintro e w' ⟨rfl, ⟨nd, rfl⟩⟩; (try first | exact ⟨rfl, _, World.drewN_drewN _ _ _⟩ | exact ⟨rfl, _, Eq.trans (World.drewN_drewN _ _ _) (congrArg (World.drewN _) (Nat.add_assoc _ _ _))⟩)))
                repeat (go_quiet (first | (go_at_call 21; (with_reducible refine (pylonref10_Good.calls ((rd_T45 l0_6 x16_2).f0) ((rd_T45 l0_6 x16_2).f1) ((rd_T45 l0_6 x16_2).f2) ((rd_T45 l0_6 x16_2).f3) ((rd_T45 l0_6 x16_2).f4) true _ A35.out).mono ?_); rintro e w45 ⟨rfl, hb⟩; replace BK170 := AX (bkb BK170 hb); replace BK172 := AX (bkb BK172 hb); replace HB := AX (below_step bw hb); (try clear hb); obtain ⟨hcz46_0, hcz46_1, hcz46_2, hcz46_3, hcz46_4⟩ := blkC5 (w := w45) BK172.out; obtain ⟨hfz46_0, hfz46_1, hfz46_2, hfz46_3, hfz46_4⟩ := blkF5 BK172.out) | (go_at_call 23; (with_reducible refine (pylonref11_near.calls ((rd_T45 l0_6 x16_2).f1) true _ A37.out).mono ?_); rintro e w' ⟨rfl, ⟨nd, rfl⟩⟩; (try first | exact ⟨rfl, _, World.drewN_drewN _ _ _⟩ | exact ⟨rfl, _, Eq.trans (World.drewN_drewN _ _ _) (congrArg (World.drewN _) (Nat.add_assoc _ _ _))⟩)) | (go_at_call 23; (with_reducible refine (pylonref11_near.calls ((rd_T45 l0_6 x16_2).f2) true _ A39.out).mono ?_); rintro e w' ⟨rfl, ⟨nd, rfl⟩⟩; (try first | exact ⟨rfl, _, World.drewN_drewN _ _ _⟩ | exact ⟨rfl, _, Eq.trans (World.drewN_drewN _ _ _) (congrArg (World.drewN _) (Nat.add_assoc _ _ _))⟩)) | (go_at_call 23; (with_reducible refine (pylonref11_near.calls ((rd_T45 l0_6 x16_2).f3) true _ A41.out).mono ?_); rintro e w' ⟨rfl, ⟨nd, rfl⟩⟩; (try first | exact ⟨rfl, _, World.drewN_drewN _ _ _⟩ | exact ⟨rfl, _, Eq.trans (World.drewN_drewN _ _ _) (congrArg (World.drewN _) (Nat.add_assoc _ _ _))⟩))); try go_wp2_with (first | (go_at_call 21; (with_reducible refine (pylonref10_Good.calls ((rd_T45 l0_6 x16_2).f0) ((rd_T45 l0_6 x16_2).f1) ((rd_T45 l0_6 x16_2).f2) ((rd_T45 l0_6 x16_2).f3) ((rd_T45 l0_6 x16_2).f4) true _ A35.out).mono ?_); rintro e w45 ⟨rfl, hb⟩; replace BK170 := AX (bkb BK170 hb); replace BK172 := AX (bkb BK172 hb); replace HB := AX (below_step bw hb); (try clear hb); obtain ⟨hcz46_0, hcz46_1, hcz46_2, hcz46_3, hcz46_4⟩ := blkC5 (w := w45) BK172.out; obtain ⟨hfz46_0, hfz46_1, hfz46_2, hfz46_3, hfz46_4⟩ := blkF5 BK172.out) | (go_at_call 23; (with_reducible refine (pylonref11_near.calls ((rd_T45 l0_6 x16_2).f1) true _ A37.out).mono ?_); rintro e w' ⟨rfl, ⟨nd, rfl⟩⟩; (try first | exact ⟨rfl, _, World.drewN_drewN _ _ _⟩ | exact ⟨rfl, _, Eq.trans (World.drewN_drewN _ _ _) (congrArg (World.drewN _) (Nat.add_assoc _ _ _))⟩)) | (go_at_call 23; (with_reducible refine (pylonref11_near.calls ((rd_T45 l0_6 x16_2).f2) true _ A39.out).mono ?_); rintro e w' ⟨rfl, ⟨nd, rfl⟩⟩; (try first | exact ⟨rfl, _, World.drewN_drewN _ _ _⟩ | exact ⟨rfl, _, Eq.trans (World.drewN_drewN _ _ _) (congrArg (World.drewN _) (Nat.add_assoc _ _ _))⟩)) | (go_at_call 23; (with_reducible refine (pylonref11_near.calls ((rd_T45 l0_6 x16_2).f3) true _ A41.out).mono ?_); rintro e w' ⟨rfl, ⟨nd, rfl⟩⟩; (try first | exact ⟨rfl, _, World.drewN_drewN _ _ _⟩ | exact ⟨rfl, _, Eq.trans (World.drewN_drewN _ _ _) (congrArg (World.drewN _) (Nat.add_assoc _ _ _))⟩))))
                go_roundg kj11
                case measure => have := HJ1.out; have := HK2.out; have := HJ11.out; omega
                case rel => exact ⟨(wrap64 (x16_2 + 1)), (by first | rfl | (simp; done) | (simp [*]; done)), H', ⟨by have := HJ1.out; have := HK2.out; have := HJ11.out; omega⟩, ⟨bkn BK170⟩, ⟨bw⟩⟩
               ·replace c42 := Bool.eq_false_iff.mpr c42
                subst c42
                have H1 : (some false) = some r := by rw [if_neg (show ¬ (false = true) by decide)] at H; exact H
                clear H
                have H := H1
                clear H1
                obtain rfl := Option.some.inj H
                have hnb47 := NB172_170.out
                have hnc47 := NB170_172.out
                obtain ⟨hcz48_0, hcz48_1, hcz48_2, hcz48_3, hcz48_4⟩ := blkC5 (w := wc) BK172.out
                obtain ⟨hfz48_0, hfz48_1, hfz48_2, hfz48_3, hfz48_4⟩ := blkF5 BK172.out
                go_wp2_with (first | (go_at_call 21; (with_reducible refine (pylonref10_Good.calls ((rd_T45 l0_6 x16_2).f0) ((rd_T45 l0_6 x16_2).f1) ((rd_T45 l0_6 x16_2).f2) ((rd_T45 l0_6 x16_2).f3) ((rd_T45 l0_6 x16_2).f4) true _ A35.out).mono ?_); rintro e w49 ⟨rfl, hb⟩; replace BK170 := AX (bkb BK170 hb); replace BK172 := AX (bkb BK172 hb); replace HB := AX (below_step bw hb); (try clear hb); obtain ⟨hcz50_0, hcz50_1, hcz50_2, hcz50_3, hcz50_4⟩ := blkC5 (w := w49) BK172.out; obtain ⟨hfz50_0, hfz50_1, hfz50_2, hfz50_3, hfz50_4⟩ := blkF5 BK172.out) | (go_at_call 23; (with_reducible refine (pylonref11_near.calls ((rd_T45 l0_6 x16_2).f1) true _ A37.out).mono ?_); rintro e w' ⟨rfl, ⟨nd, rfl⟩⟩; (try first | exact ⟨rfl, _, World.drewN_drewN _ _ _⟩ | exact ⟨rfl, _, Eq.trans (World.drewN_drewN _ _ _) (congrArg (World.drewN _) (Nat.add_assoc _ _ _))⟩)) | (go_at_call 23; (with_reducible refine (pylonref11_near.calls ((rd_T45 l0_6 x16_2).f2) true _ A39.out).mono ?_); rintro e w' ⟨rfl, ⟨nd, rfl⟩⟩; (try first | exact ⟨rfl, _, World.drewN_drewN _ _ _⟩ | exact ⟨rfl, _, Eq.trans (World.drewN_drewN _ _ _) (congrArg (World.drewN _) (Nat.add_assoc _ _ _))⟩)) | (go_at_call 23; (with_reducible refine (pylonref11_near.calls ((rd_T45 l0_6 x16_2).f3) false _ A41.out).mono ?_); rintro e w' ⟨rfl, ⟨nd, rfl⟩⟩; (try first | exact ⟨rfl, _, World.drewN_drewN _ _ _⟩ | exact ⟨rfl, _, Eq.trans (World.drewN_drewN _ _ _) (congrArg (World.drewN _) (Nat.add_assoc _ _ _))⟩)))
                repeat (go_quiet (first | (go_at_call 21; (with_reducible refine (pylonref10_Good.calls ((rd_T45 l0_6 x16_2).f0) ((rd_T45 l0_6 x16_2).f1) ((rd_T45 l0_6 x16_2).f2) ((rd_T45 l0_6 x16_2).f3) ((rd_T45 l0_6 x16_2).f4) true _ A35.out).mono ?_); rintro e w49 ⟨rfl, hb⟩; replace BK170 := AX (bkb BK170 hb); replace BK172 := AX (bkb BK172 hb); replace HB := AX (below_step bw hb); (try clear hb); obtain ⟨hcz50_0, hcz50_1, hcz50_2, hcz50_3, hcz50_4⟩ := blkC5 (w := w49) BK172.out; obtain ⟨hfz50_0, hfz50_1, hfz50_2, hfz50_3, hfz50_4⟩ := blkF5 BK172.out) | (go_at_call 23; (with_reducible refine (pylonref11_near.calls ((rd_T45 l0_6 x16_2).f1) true _ A37.out).mono ?_); rintro e w' ⟨rfl, ⟨nd, rfl⟩⟩; (try first | exact ⟨rfl, _, World.drewN_drewN _ _ _⟩ | exact ⟨rfl, _, Eq.trans (World.drewN_drewN _ _ _) (congrArg (World.drewN _) (Nat.add_assoc _ _ _))⟩)) | (go_at_call 23; (with_reducible refine (pylonref11_near.calls ((rd_T45 l0_6 x16_2).f2) true _ A39.out).mono ?_); rintro e w' ⟨rfl, ⟨nd, rfl⟩⟩; (try first | exact ⟨rfl, _, World.drewN_drewN _ _ _⟩ | exact ⟨rfl, _, Eq.trans (World.drewN_drewN _ _ _) (congrArg (World.drewN _) (Nat.add_assoc _ _ _))⟩)) | (go_at_call 23; (with_reducible refine (pylonref11_near.calls ((rd_T45 l0_6 x16_2).f3) false _ A41.out).mono ?_); rintro e w' ⟨rfl, ⟨nd, rfl⟩⟩; (try first | exact ⟨rfl, _, World.drewN_drewN _ _ _⟩ | exact ⟨rfl, _, Eq.trans (World.drewN_drewN _ _ _) (congrArg (World.drewN _) (Nat.add_assoc _ _ _))⟩))); try go_wp2_with (first | (go_at_call 21; (with_reducible refine (pylonref10_Good.calls ((rd_T45 l0_6 x16_2).f0) ((rd_T45 l0_6 x16_2).f1) ((rd_T45 l0_6 x16_2).f2) ((rd_T45 l0_6 x16_2).f3) ((rd_T45 l0_6 x16_2).f4) true _ A35.out).mono ?_); rintro e w49 ⟨rfl, hb⟩; replace BK170 := AX (bkb BK170 hb); replace BK172 := AX (bkb BK172 hb); replace HB := AX (below_step bw hb); (try clear hb); obtain ⟨hcz50_0, hcz50_1, hcz50_2, hcz50_3, hcz50_4⟩ := blkC5 (w := w49) BK172.out; obtain ⟨hfz50_0, hfz50_1, hfz50_2, hfz50_3, hfz50_4⟩ := blkF5 BK172.out) | (go_at_call 23; (with_reducible refine (pylonref11_near.calls ((rd_T45 l0_6 x16_2).f1) true _ A37.out).mono ?_); rintro e w' ⟨rfl, ⟨nd, rfl⟩⟩; (try first | exact ⟨rfl, _, World.drewN_drewN _ _ _⟩ | exact ⟨rfl, _, Eq.trans (World.drewN_drewN _ _ _) (congrArg (World.drewN _) (Nat.add_assoc _ _ _))⟩)) | (go_at_call 23; (with_reducible refine (pylonref11_near.calls ((rd_T45 l0_6 x16_2).f2) true _ A39.out).mono ?_); rintro e w' ⟨rfl, ⟨nd, rfl⟩⟩; (try first | exact ⟨rfl, _, World.drewN_drewN _ _ _⟩ | exact ⟨rfl, _, Eq.trans (World.drewN_drewN _ _ _) (congrArg (World.drewN _) (Nat.add_assoc _ _ _))⟩)) | (go_at_call 23; (with_reducible refine (pylonref11_near.calls ((rd_T45 l0_6 x16_2).f3) false _ A41.out).mono ?_); rintro e w' ⟨rfl, ⟨nd, rfl⟩⟩; (try first | exact ⟨rfl, _, World.drewN_drewN _ _ _⟩ | exact ⟨rfl, _, Eq.trans (World.drewN_drewN _ _ _) (congrArg (World.drewN _) (Nat.add_assoc _ _ _))⟩))))
                go_ret
                exact ⟨by first | rfl | (simp [errW_none, errW_some] <;> rfl) | (simp [*, errW_none, errW_some] <;> rfl), bw⟩
              ·replace c40 := Bool.eq_false_iff.mpr c40
               subst c40
               have H1 : (some false) = some r := by rw [if_neg (show ¬ (false = true) by decide)] at H; exact H
               clear H
               have H := H1
               clear H1
               obtain rfl := Option.some.inj H
               have hnb51 := NB172_170.out
               have hnc51 := NB170_172.out
               obtain ⟨hcz52_0, hcz52_1, hcz52_2, hcz52_3, hcz52_4⟩ := blkC5 (w := wc) BK172.out
               obtain ⟨hfz52_0, hfz52_1, hfz52_2, hfz52_3, hfz52_4⟩ := blkF5 BK172.out
               go_wp2_with (first | (go_at_call 21; (with_reducible refine (pylonref10_Good.calls ((rd_T45 l0_6 x16_2).f0) ((rd_T45 l0_6 x16_2).f1) ((rd_T45 l0_6 x16_2).f2) ((rd_T45 l0_6 x16_2).f3) ((rd_T45 l0_6 x16_2).f4) true _ A35.out).mono ?_); rintro e w53 ⟨rfl, hb⟩; replace BK170 := AX (bkb BK170 hb); replace BK172 := AX (bkb BK172 hb); replace HB := AX (below_step bw hb); (try clear hb); obtain ⟨hcz54_0, hcz54_1, hcz54_2, hcz54_3, hcz54_4⟩ := blkC5 (w := w53) BK172.out; obtain ⟨hfz54_0, hfz54_1, hfz54_2, hfz54_3, hfz54_4⟩ := blkF5 BK172.out) | (go_at_call 23; (with_reducible refine (pylonref11_near.calls ((rd_T45 l0_6 x16_2).f1) true _ A37.out).mono ?_); rintro e w' ⟨rfl, ⟨nd, rfl⟩⟩; (try first | exact ⟨rfl, _, World.drewN_drewN _ _ _⟩ | exact ⟨rfl, _, Eq.trans (World.drewN_drewN _ _ _) (congrArg (World.drewN _) (Nat.add_assoc _ _ _))⟩)) | (go_at_call 23; (with_reducible refine (pylonref11_near.calls ((rd_T45 l0_6 x16_2).f2) false _ A39.out).mono ?_); rintro e w' ⟨rfl, ⟨nd, rfl⟩⟩; (try first | exact ⟨rfl, _, World.drewN_drewN _ _ _⟩ | exact ⟨rfl, _, Eq.trans (World.drewN_drewN _ _ _) (congrArg (World.drewN _) (Nat.add_assoc _ _ _))⟩)))
               repeat (go_quiet (first | (go_at_call 21; (with_reducible refine (pylonref10_Good.calls ((rd_T45 l0_6 x16_2).f0) ((rd_T45 l0_6 x16_2).f1) ((rd_T45 l0_6 x16_2).f2) ((rd_T45 l0_6 x16_2).f3) ((rd_T45 l0_6 x16_2).f4) true _ A35.out).mono ?_); rintro e w53 ⟨rfl, hb⟩; replace BK170 := AX (bkb BK170 hb); replace BK172 := AX (bkb BK172 hb); replace HB := AX (below_step bw hb); (try clear hb); obtain ⟨hcz54_0, hcz54_1, hcz54_2, hcz54_3, hcz54_4⟩ := blkC5 (w := w53) BK172.out; obtain ⟨hfz54_0, hfz54_1, hfz54_2, hfz54_3, hfz54_4⟩ := blkF5 BK172.out) | (go_at_call 23; (with_reducible refine (pylonref11_near.calls ((rd_T45 l0_6 x16_2).f1) true _ A37.out).mono ?_); rintro e w' ⟨rfl, ⟨nd, rfl⟩⟩; (try first | exact ⟨rfl, _, World.drewN_drewN _ _ _⟩ | exact ⟨rfl, _, Eq.trans (World.drewN_drewN _ _ _) (congrArg (World.drewN _) (Nat.add_assoc _ _ _))⟩)) | (go_at_call 23; (with_reducible refine (pylonref11_near.calls ((rd_T45 l0_6 x16_2).f2) false _ A39.out).mono ?_); rintro e w' ⟨rfl, ⟨nd, rfl⟩⟩; (try first | exact ⟨rfl, _, World.drewN_drewN _ _ _⟩ | exact ⟨rfl, _, Eq.trans (World.drewN_drewN _ _ _) (congrArg (World.drewN _) (Nat.add_assoc _ _ _))⟩))); try go_wp2_with (first | (go_at_call 21; (with_reducible refine (pylonref10_Good.calls ((rd_T45 l0_6 x16_2).f0) ((rd_T45 l0_6 x16_2).f1) ((rd_T45 l0_6 x16_2).f2) ((rd_T45 l0_6 x16_2).f3) ((rd_T45 l0_6 x16_2).f4) true _ A35.out).mono ?_); rintro e w53 ⟨rfl, hb⟩; replace BK170 := AX (bkb BK170 hb); replace BK172 := AX (bkb BK172 hb); replace HB := AX (below_step bw hb); (try clear hb); obtain ⟨hcz54_0, hcz54_1, hcz54_2, hcz54_3, hcz54_4⟩ := blkC5 (w := w53) BK172.out; obtain ⟨hfz54_0, hfz54_1, hfz54_2, hfz54_3, hfz54_4⟩ := blkF5 BK172.out) | (go_at_call 23; (with_reducible refine (pylonref11_near.calls ((rd_T45 l0_6 x16_2).f1) true _ A37.out).mono ?_); rintro e w' ⟨rfl, ⟨nd, rfl⟩⟩; (try first | exact ⟨rfl, _, World.drewN_drewN _ _ _⟩ | exact ⟨rfl, _, Eq.trans (World.drewN_drewN _ _ _) (congrArg (World.drewN _) (Nat.add_assoc _ _ _))⟩)) | (go_at_call 23; (with_reducible refine (pylonref11_near.calls ((rd_T45 l0_6 x16_2).f2) false _ A39.out).mono ?_); rintro e w' ⟨rfl, ⟨nd, rfl⟩⟩; (try first | exact ⟨rfl, _, World.drewN_drewN _ _ _⟩ | exact ⟨rfl, _, Eq.trans (World.drewN_drewN _ _ _) (congrArg (World.drewN _) (Nat.add_assoc _ _ _))⟩))))
               go_ret
               exact ⟨by first | rfl | (simp [errW_none, errW_some] <;> rfl) | (simp [*, errW_none, errW_some] <;> rfl), bw⟩
             ·replace c38 := Bool.eq_false_iff.mpr c38
              subst c38
              have H1 : (some false) = some r := by rw [if_neg (show ¬ (false = true) by decide)] at H; exact H
              clear H
              have H := H1
              clear H1
              obtain rfl := Option.some.inj H
              have hnb55 := NB172_170.out
              have hnc55 := NB170_172.out
              obtain ⟨hcz56_0, hcz56_1, hcz56_2, hcz56_3, hcz56_4⟩ := blkC5 (w := wc) BK172.out
              obtain ⟨hfz56_0, hfz56_1, hfz56_2, hfz56_3, hfz56_4⟩ := blkF5 BK172.out
              go_wp2_with (first | (go_at_call 21; (with_reducible refine (pylonref10_Good.calls ((rd_T45 l0_6 x16_2).f0) ((rd_T45 l0_6 x16_2).f1) ((rd_T45 l0_6 x16_2).f2) ((rd_T45 l0_6 x16_2).f3) ((rd_T45 l0_6 x16_2).f4) true _ A35.out).mono ?_); rintro e w57 ⟨rfl, hb⟩; replace BK170 := AX (bkb BK170 hb); replace BK172 := AX (bkb BK172 hb); replace HB := AX (below_step bw hb); (try clear hb); obtain ⟨hcz58_0, hcz58_1, hcz58_2, hcz58_3, hcz58_4⟩ := blkC5 (w := w57) BK172.out; obtain ⟨hfz58_0, hfz58_1, hfz58_2, hfz58_3, hfz58_4⟩ := blkF5 BK172.out) | (go_at_call 23; (with_reducible refine (pylonref11_near.calls ((rd_T45 l0_6 x16_2).f1) false _ A37.out).mono ?_); rintro e w' ⟨rfl, ⟨nd, rfl⟩⟩; (try first | exact ⟨rfl, _, World.drewN_drewN _ _ _⟩ | exact ⟨rfl, _, Eq.trans (World.drewN_drewN _ _ _) (congrArg (World.drewN _) (Nat.add_assoc _ _ _))⟩)))
              repeat (go_quiet (first | (go_at_call 21; (with_reducible refine (pylonref10_Good.calls ((rd_T45 l0_6 x16_2).f0) ((rd_T45 l0_6 x16_2).f1) ((rd_T45 l0_6 x16_2).f2) ((rd_T45 l0_6 x16_2).f3) ((rd_T45 l0_6 x16_2).f4) true _ A35.out).mono ?_); rintro e w57 ⟨rfl, hb⟩; replace BK170 := AX (bkb BK170 hb); replace BK172 := AX (bkb BK172 hb); replace HB := AX (below_step bw hb); (try clear hb); obtain ⟨hcz58_0, hcz58_1, hcz58_2, hcz58_3, hcz58_4⟩ := blkC5 (w := w57) BK172.out; obtain ⟨hfz58_0, hfz58_1, hfz58_2, hfz58_3, hfz58_4⟩ := blkF5 BK172.out) | (go_at_call 23; (with_reducible refine (pylonref11_near.calls ((rd_T45 l0_6 x16_2).f1) false _ A37.out).mono ?_); rintro e w' ⟨rfl, ⟨nd, rfl⟩⟩; (try first | exact ⟨rfl, _, World.drewN_drewN _ _ _⟩ | exact ⟨rfl, _, Eq.trans (World.drewN_drewN _ _ _) (congrArg (World.drewN _) (Nat.add_assoc _ _ _))⟩))); try go_wp2_with (first | (go_at_call 21; (with_reducible refine (pylonref10_Good.calls ((rd_T45 l0_6 x16_2).f0) ((rd_T45 l0_6 x16_2).f1) ((rd_T45 l0_6 x16_2).f2) ((rd_T45 l0_6 x16_2).f3) ((rd_T45 l0_6 x16_2).f4) true _ A35.out).mono ?_); rintro e w57 ⟨rfl, hb⟩; replace BK170 := AX (bkb BK170 hb); replace BK172 := AX (bkb BK172 hb); replace HB := AX (below_step bw hb); (try clear hb); obtain ⟨hcz58_0, hcz58_1, hcz58_2, hcz58_3, hcz58_4⟩ := blkC5 (w := w57) BK172.out; obtain ⟨hfz58_0, hfz58_1, hfz58_2, hfz58_3, hfz58_4⟩ := blkF5 BK172.out) | (go_at_call 23; (with_reducible refine (pylonref11_near.calls ((rd_T45 l0_6 x16_2).f1) false _ A37.out).mono ?_); rintro e w' ⟨rfl, ⟨nd, rfl⟩⟩; (try first | exact ⟨rfl, _, World.drewN_drewN _ _ _⟩ | exact ⟨rfl, _, Eq.trans (World.drewN_drewN _ _ _) (congrArg (World.drewN _) (Nat.add_assoc _ _ _))⟩))))
              go_ret
              exact ⟨by first | rfl | (simp [errW_none, errW_some] <;> rfl) | (simp [*, errW_none, errW_some] <;> rfl), bw⟩
            ·replace c36 := Bool.eq_false_iff.mpr c36
             subst c36
             have H1 : (pylonref11_InOrder.l0 kj11 (l0_6.length : Int) (wrap64 (x16_2 + 1)) a0_0 a0_1 a0_2 a0_3 a0_4 a0_5 l0_6) = some r := by rw [if_neg (show ¬ (false = true) by decide)] at H; exact H
             clear H
             have H := H1
             clear H1
             have H' := AX H
             clear H
             have hnb59 := NB172_170.out
             have hnc59 := NB170_172.out
             obtain ⟨hcz60_0, hcz60_1, hcz60_2, hcz60_3, hcz60_4⟩ := blkC5 (w := wc) BK172.out
             obtain ⟨hfz60_0, hfz60_1, hfz60_2, hfz60_3, hfz60_4⟩ := blkF5 BK172.out
             go_wp2_with (first | (go_at_call 21; (with_reducible refine (pylonref10_Good.calls ((rd_T45 l0_6 x16_2).f0) ((rd_T45 l0_6 x16_2).f1) ((rd_T45 l0_6 x16_2).f2) ((rd_T45 l0_6 x16_2).f3) ((rd_T45 l0_6 x16_2).f4) false _ A35.out).mono ?_); rintro e w61 ⟨rfl, hb⟩; replace BK170 := AX (bkb BK170 hb); replace BK172 := AX (bkb BK172 hb); replace HB := AX (below_step bw hb); (try clear hb)))
             repeat (go_quiet (first | (go_at_call 21; (with_reducible refine (pylonref10_Good.calls ((rd_T45 l0_6 x16_2).f0) ((rd_T45 l0_6 x16_2).f1) ((rd_T45 l0_6 x16_2).f2) ((rd_T45 l0_6 x16_2).f3) ((rd_T45 l0_6 x16_2).f4) false _ A35.out).mono ?_); rintro e w61 ⟨rfl, hb⟩; replace BK170 := AX (bkb BK170 hb); replace BK172 := AX (bkb BK172 hb); replace HB := AX (below_step bw hb); (try clear hb))); try go_wp2_with (first | (go_at_call 21; (with_reducible refine (pylonref10_Good.calls ((rd_T45 l0_6 x16_2).f0) ((rd_T45 l0_6 x16_2).f1) ((rd_T45 l0_6 x16_2).f2) ((rd_T45 l0_6 x16_2).f3) ((rd_T45 l0_6 x16_2).f4) false _ A35.out).mono ?_); rintro e w61 ⟨rfl, hb⟩; replace BK170 := AX (bkb BK170 hb); replace BK172 := AX (bkb BK172 hb); replace HB := AX (below_step bw hb); (try clear hb))))
             go_roundg kj11
             case measure => have := HJ1.out; have := HK2.out; have := HJ11.out; omega
             case rel => exact ⟨(wrap64 (x16_2 + 1)), (by first | rfl | (simp; done) | (simp [*]; done)), H', ⟨by have := HJ1.out; have := HK2.out; have := HJ11.out; omega⟩, ⟨bkn BK170⟩, ⟨bw⟩⟩
        ·rw [if_neg c11] at H
         exact absurd H (by simp)
       ·rw [if_neg c10] at H
        exact absurd H (by simp)
      ·rw [if_neg c9] at H
       have c9b0 : decide (x16_2 < (l0_6.length : Int)) = false := decide_eq_false c9
       clear c9
       obtain rfl := Option.some.inj H
       go_wp2
       repeat (go_quiet (fail); try go_wp2)
       go_ret
       exact ⟨by first | rfl | (simp [errW_none, errW_some] <;> rfl) | (simp [*, errW_none, errW_some] <;> rfl), bw⟩

end Go.Proofs.Ythhifeefkmaeiaa.PX
