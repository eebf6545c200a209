/- Functions of the program as plain Lean functions, each with a proof that the call in the machine answers just what the plain function says; condition: the plain function answers at all. -/
import Derived.Test.YthhifeefkmaeiaaPXx0
import Derived.Test.YthhifeefkmaeiaaPXx5
import Derived.Test.YthhifeefkmaeiaaPXx6
namespace Go.Proofs.Ythhifeefkmaeiaa.PX
open Go.RowKit Go.Proofs.YthhifeefkmaeiaaW.PrintWords Go.Proofs.YthhifeefkmaeiaaW.PrintLast Go.Proofs.YthhifeefkmaeiaaW.PrintMore
attribute [local go_sem] max2_int min2_int max_two min_two max_three min_three max_four min_four   -- for this text's walks alone
set_option linter.unusedVariables false
set_option linter.unusedSimpArgs false

/-! ### pylonref11_present: function 30 -/
mutual
def pylonref11_present.l0 : Nat → List Int → Int → Int → ByteArray → Int → Int → Int → Int → Int → List (S45) → Option (List Int)
 | 0, _, _, _, _, _, _, _, _, _, _ => none
 | k + 1, x3, x10, x11, x179000, x179001, x179002, x179003, x179004, x179005, x179006 => if x11 < x10 then (if 0 ≤ x11 then (if x11 < (x3.length : Int) then (pylonref11_present.l0 k (x3.set (x11 : Int).toNat (-1)) x10 (wrap64 (x11 + 1)) x179000 x179001 x179002 x179003 x179004 x179005 x179006) else (none)) else (none)) else (pylonref11_present.l1 k x3 (x179006.length : Int) 0 x179000 x179001 x179002 x179003 x179004 x179005 x179006)
def pylonref11_present.l1 : Nat → List Int → Int → Int → ByteArray → Int → Int → Int → Int → Int → List (S45) → Option (List Int)
 | 0, _, _, _, _, _, _, _, _, _, _ => none
 | k + 1, x3, x20, x21, x179000, x179001, x179002, x179003, x179004, x179005, x179006 => if x21 < x20 then (if 0 ≤ x21 then (if x21 < (x179006.length : Int) then ((pylonref10_Good.f ((rd_T45 x179006 x21).f0) ((rd_T45 x179006 x21).f1) ((rd_T45 x179006 x21).f2) ((rd_T45 x179006 x21).f3) ((rd_T45 x179006 x21).f4)).bind fun t184 => (if t184 = true then (if 0 ≤ ((rd_T45 x179006 x21).f0) then (if ((rd_T45 x179006 x21).f0) < (x3.length : Int) then (pylonref11_present.l1 k (x3.set (((rd_T45 x179006 x21).f0) : Int).toNat x21) x20 (wrap64 (x21 + 1)) x179000 x179001 x179002 x179003 x179004 x179005 x179006) else (none)) else (none)) else (pylonref11_present.l1 k x3 x20 (wrap64 (x21 + 1)) x179000 x179001 x179002 x179003 x179004 x179005 x179006))) else (none)) else (none)) else (some x3)
end
def pylonref11_present.f (k : Nat) (a0_0 : ByteArray) (a0_1 : Int) (a0_2 : Int) (a0_3 : Int) (a0_4 : Int) (a0_5 : Int) (l0_6 : List (S45)) : Option (List Int) := if 0 ≤ a0_3 then (if (a0_3 : Int).toNat ≤ 35184372088832 then ((some (List.replicate (a0_3 : Int).toNat 0 : List Int)).bind fun y179 => (pylonref11_present.l0 k y179 (y179.length : Int) 0 a0_0 a0_1 a0_2 a0_3 a0_4 a0_5 l0_6)) else (none)) else (none)
theorem pylonref11_present.mono_l : ∀ k, (∀ y0 y1 y2 y3 y4 y5 y6 y7 y8 y9, LeO (pylonref11_present.l0 k y0 y1 y2 y3 y4 y5 y6 y7 y8 y9) (pylonref11_present.l0 (k + 1) y0 y1 y2 y3 y4 y5 y6 y7 y8 y9)) ∧ (∀ y0 y1 y2 y3 y4 y5 y6 y7 y8 y9, LeO (pylonref11_present.l1 k y0 y1 y2 y3 y4 y5 y6 y7 y8 y9) (pylonref11_present.l1 (k + 1) y0 y1 y2 y3 y4 y5 y6 y7 y8 y9))
 | 0 => ⟨fun _ _ _ _ _ _ _ _ _ _ r h => by simp [pylonref11_present.l0] at h, fun _ _ _ _ _ _ _ _ _ _ r h => by simp [pylonref11_present.l1] at h⟩
 | k + 1 => by
  obtain ⟨ih0, ih1⟩ := pylonref11_present.mono_l k
  refine ⟨?_, ?_⟩
  ·intro y0 y1 y2 y3 y4 y5 y6 y7 y8 y9
   unfold pylonref11_present.l0
   repeat' first
   | (with_reducible exact ih0 _ _ _ _ _ _ _ _ _ _)
   | (with_reducible exact ih1 _ _ _ _ _ _ _ _ _ _)
   | (with_reducible exact LeO.refl _)
   | (with_reducible exact LeO.none _)
   | (with_reducible refine LeO.ite ?_ ?_)
   | (with_reducible refine LeO.bind ?_ (fun _ => ?_))
  ·intro y0 y1 y2 y3 y4 y5 y6 y7 y8 y9
   unfold pylonref11_present.l1
   repeat' first
   | (with_reducible exact ih0 _ _ _ _ _ _ _ _ _ _)
   | (with_reducible exact ih1 _ _ _ _ _ _ _ _ _ _)
   | (with_reducible exact LeO.refl _)
   | (with_reducible exact LeO.none _)
   | (with_reducible refine LeO.ite ?_ ?_)
   | (with_reducible refine LeO.bind ?_ (fun _ => ?_))
theorem pylonref11_present.mono : ∀ a0 a1 a2 a3 a4 a5 a6 k, LeO (pylonref11_present.f k a0 a1 a2 a3 a4 a5 a6) (pylonref11_present.f (k + 1) a0 a1 a2 a3 a4 a5 a6) := by
 intro a0 a1 a2 a3 a4 a5 a6 k
 obtain ⟨ih0, ih1⟩ := pylonref11_present.mono_l k
 unfold pylonref11_present.f
 repeat' first
   | (with_reducible exact ih0 _ _ _ _ _ _ _ _ _ _)
   | (with_reducible exact ih1 _ _ _ _ _ _ _ _ _ _)
   | (with_reducible exact LeO.refl _)
   | (with_reducible exact LeO.none _)
   | (with_reducible refine LeO.ite ?_ ?_)
   | (with_reducible refine LeO.bind ?_ (fun _ => ?_))
set_option maxHeartbeats 8000000 in
set_option maxRecDepth 100000 in
theorem pylonref11_present.calls (k : Nat) (a0_0 : ByteArray) (a0_1 : Int) (a0_2 : Int) (a0_3 : Int) (a0_4 : Int) (a0_5 : Int) (A0_6 : Option Addr) (c0_6 : Nat) (l0_6 : List (S45)) (r : List Int) (w : World) (hr0_6 : Kd.C k45 w A0_6 l0_6.length l0_6) (hc0_6 : l0_6.length ≤ c0_6) (h : pylonref11_present.f k a0_0 a0_1 a0_2 a0_3 a0_4 a0_5 l0_6 = some r) :
  Calls Try.prog 30 #[.agg #[.string a0_0, .int .i64 a0_1, .int .i64 a0_2, .int .i64 a0_3, .int .i64 a0_4, .int .i64 a0_5, .slice A0_6 l0_6.length c0_6]] w fun e w' => ∃ v0_ : Value, e = .returned (v0_) ∧ Kd.R (Kd.int .i64) 3 w' w.heap.size (fun _ => True) v0_ r ∧ Below w.heap.size w w' := by
 have hu31 := Try.underlying31
 have hu45 := Try.underlying45
 have HR0_6 := AX hr0_6
 have HC0_6 := AX hc0_6
 clear hr0_6 hc0_6
 have HB := AX (Below.refl w.heap.size w)
 have H : (if 0 ≤ a0_3 then (if (a0_3 : Int).toNat ≤ 35184372088832 then ((some (List.replicate (a0_3 : Int).toNat 0 : List Int)).bind fun y179 => (pylonref11_present.l0 k y179 (y179.length : Int) 0 a0_0 a0_1 a0_2 a0_3 a0_4 a0_5 l0_6)) else (none)) else (none)) = some r := h
 clear h
 by_cases c2 : 0 ≤ a0_3
 ·rw [if_pos c2] at H
  have c2b0 := eq_true c2
  have c2b1 : decide (0 ≤ a0_3) = true := decide_eq_true c2
  clear c2
  by_cases c3 : (a0_3 : Int).toNat ≤ 35184372088832
  ·rw [if_pos c3] at H
   have c3b0 := eq_true c3
   have c3b1 : decide ((a0_3 : Int).toNat ≤ 35184372088832) = true := decide_eq_true c3
   clear c3
   obtain ⟨y179, hy179⟩ : ∃ y_ : List Int, y_ = (List.replicate (a0_3 : Int).toNat 0) := ⟨_, rfl⟩
   replace H : (pylonref11_present.l0 k y179 (y179.length : Int) 0 a0_0 a0_1 a0_2 a0_3 a0_4 a0_5 l0_6) = some r := by first | (rw [hy179]; with_reducible exact H) | (have H2_ := (Option.bind_some _ _).symm.trans H; rw [hy179]; with_reducible exact H2_) | (have H2_ := (Option.bind_some _ _).symm.trans H; with_reducible exact H2_) | with_reducible exact H | (rw [hy179]; exact H) | exact H
   have Ny179 := AX hy179
   clear hy179
   have H' := AX H
   clear H
   go_enter Try.func30, Try.ntmps30
   go_wp2_with (first | ((with_reducible refine gate_dst (N := 1) rfl ?_); refine bx 1 #[.string a0_0, .int .i64 a0_1, .int .i64 a0_2, .int .i64 a0_3, .int .i64 a0_4, .int .i64 a0_5, .slice A0_6 l0_6.length c0_6] 31 ?_; intro gb178 hg w4 hbox hb; have BK178 := AX (hbox); have GW178 := gwl (w := w) hg bw; have GE178 := GW178; replace HB := AX (below_step bw hb); clear hb hbox hg; obtain ⟨hcz5_0, hcz5_1, hcz5_2, hcz5_3, hcz5_4, hcz5_5, hcz5_6⟩ := blkC7 (w := w4) BK178.out; obtain ⟨hfz5_0, hfz5_1, hfz5_2, hfz5_3, hfz5_4, hfz5_5, hfz5_6⟩ := blkF7 BK178.out) | ((with_reducible refine gate_dst (N := 8) rfl ?_); refine Kd.R_make (Kd.int .i64) _ 3 rfl (N := 8) rfl 51 _ _ rfl a0_3 rfl rfl Try.underlying51 (.int .i64 0) 8 info3 rfl (by decide) (by omega) 0 (ok := fun _ => True) (okp := fun _ => True) rfl (fun _ hk => hk) trivial (of_decide_eq_true (by first | (with_reducible assumption) | assumption)) (Nat.le_trans (Nat.mul_le_mul_right _ (of_decide_eq_true (by first | (with_reducible assumption) | assumption) : a0_3.toNat ≤ 35184372088832)) (by omega)) (Below.refl _ _) (Nat.le_refl _) ?_; intro v180 w6 ho7 hb hg_ hnew_; clear hg_ hnew_; (first | rw [← Ny179.out] at ho7 | (simp only [Int.reduceToNat] at ho7; rw [← Ny179.out] at ho7)); have HO181 := AX (Kd.R_lower ho7 (below_size bw)); replace BK178 := AX (bkb BK178 hb); replace HB := AX (below_step bw hb); clear hb ho7; obtain ⟨Ao8, co8, eo8⟩ := Kd.R_slice HO181.out; subst eo8))
   go_loopg [11] k (fun kq v11 w' => ∃ (x3_1 : List Int) (x11_1 : Int), v11 = .int .i64 x11_1 ∧ Aside0 (pylonref11_present.l0 kq x3_1 (y179.length : Int) x11_1 a0_0 a0_1 a0_2 a0_3 a0_4 a0_5 l0_6 = some r) ∧ Aside0 (kq ≤ k) ∧ Aside0 (Kd.R (Kd.int .i64) 3 w' w.heap.size (fun _ => True) (.slice Ao8 y179.length co8) x3_1) ∧ Aside0 (w'.heap[gb178]? = some (.cells #[.string a0_0, .int .i64 a0_1, .int .i64 a0_2, .int .i64 a0_3, .int .i64 a0_4, .int .i64 a0_5, (.slice A0_6 l0_6.length c0_6)] 31 (0, 0))) ∧ Aside0 (Below w.heap.size w w'))
   case atStart => exact ⟨(y179), (0), (by first | rfl | (simp; done) | (simp [*]; done)), H', ⟨Nat.le_refl _⟩, ⟨kr HO181⟩, ⟨bkn BK178⟩, ⟨bw⟩⟩
   case round =>
    clear H'
    try clear c2b0 c2b1
    try clear c3b0 c3b1
    try clear hcz5_0 hcz5_1 hcz5_2 hcz5_3 hcz5_4 hcz5_5 hcz5_6
    try clear hfz5_0 hfz5_1 hfz5_2 hfz5_3 hfz5_4 hfz5_5 hfz5_6
    obtain ⟨x3_1, x11_1, rfl, HA, HK1, HO_3, BK178, HB⟩ := hrel
    have hl3_1 := (Kd.R_reads' HO_3.out).1
    rw [hl3_1] at HO_3
    (try simp only [hl3_1])
    (try simp only [hl3_1] at BK178)
    cases gk with
    | zero => exact absurd HA.out (by simp [pylonref11_present.l0])
    | succ k1 =>
     have H := HA.out
     clear HA
     simp only [pylonref11_present.l0] at H
     by_cases c9 : x11_1 < (y179.length : Int)
     ·rw [if_pos c9] at H
      have c9b0 : decide (x11_1 < (y179.length : Int)) = true := decide_eq_true c9
      (try have c9bx : decide (x11_1 < (x3_1.length : Int)) = true := by rw [← hl3_1]; exact c9b0)
      clear c9
      by_cases c10 : 0 ≤ x11_1
      ·rw [if_pos c10] at H
       have c10b0 : decide (0 ≤ x11_1) = true := decide_eq_true c10
       clear c10
       by_cases c11 : x11_1 < (x3_1.length : Int)
       ·rw [if_pos c11] at H
        have c11b0 : decide (x11_1 < (x3_1.length : Int)) = true := decide_eq_true c11
        clear c11
        obtain ⟨y182, hy182⟩ : ∃ y_ : List Int, y_ = (x3_1.set (x11_1 : Int).toNat (-1)) := ⟨_, rfl⟩
        replace H : (pylonref11_present.l0 k1 y182 (y179.length : Int) (wrap64 (x11_1 + 1)) a0_0 a0_1 a0_2 a0_3 a0_4 a0_5 l0_6) = some r := by first | (rw [hy182]; with_reducible exact H) | (have H2_ := (Option.bind_some _ _).symm.trans H; rw [hy182]; with_reducible exact H2_) | (have H2_ := (Option.bind_some _ _).symm.trans H; with_reducible exact H2_) | with_reducible exact H | (rw [hy182]; exact H) | exact H
        have Ny182 := AX hy182
        clear hy182
        have H' := AX H
        clear H
        have p12 : 0 ≤ (x11_1 : Int) := of_decide_eq_true (by first | (with_reducible assumption) | assumption)
        have q12 : (x11_1 : Int) < ((x3_1.length : Int) : Int) := of_decide_eq_true (by first | (with_reducible assumption) | assumption)
        obtain ⟨go12, co12, eo12, gb12, gl12, cl12, HG12⟩ := Kd.R_form HO_3.out (by omega)
        (first | cases eo12 | (injection eo12 with ea_ en_ ec_; (first | subst ea_ | (injection ea_ with ea_; subst ea_)); subst ec_; clear en_))
        have GB12 := AX gb12
        have GG12 := AX HG12
        clear gb12 gl12 HG12
        obtain ⟨hx12_0, hf12_0⟩ := Kd.R_celln 0 HO_3.out (x11_1 : Int) p12 q12
        replace p12 := eq_true p12
        replace q12 := eq_true q12
        have HP13 := Kd.R_putg HO_3.out (x11_1 : Int) (-1)
        go_wp2_with (first | ((with_reducible refine gate_store (t := 3) (p := 16) rfl ?_); refine store_event (t := 3) (p := 16) (v := ?vo_w14) (w1 := (wr.setCell ⟨go12, (x11_1 : Int).toNat, none⟩ (.int .i64 (-1)))) ?hg ?ho ?hn ?hr ?_; (case ho => rfl); (case hg => rfl); (case hn => rfl); (case hr => first | (go_simp; done) | (go_simp; rfl)); intro w14 hw; have hg : wr.grownBy w14 (some go12) := (by rw [hw]; exact HP13.2); have hp_ : Kd.R (Kd.int .i64) 3 w14 w.heap.size (fun _ => True) (.slice (some ⟨go12, 0, none⟩) x3_1.length co8) y182 := (by rw [hw, Ny182.out]; exact HP13.1); clear HP13; have n0_ := AX (hp_); have n1_ := AX (blk_grown (g := gb178) (o := .cells #[.string a0_0, .int .i64 a0_1, .int .i64 a0_2, .int .i64 a0_3, .int .i64 a0_4, .int .i64 a0_5, .slice A0_6 l0_6.length c0_6] 31 (0, 0)) (bkn BK178) hg (Kd.R_ne HO_3.out BK178.out (by decide))); have n2_ := AX ((by rw [hw]; exact below_set (HB.out) GB12.out : Below w.heap.size w w14)); clear HO_3; clear BK178; clear HB; have HO_3 := n0_; have BK178 := n1_; have HB := n2_; clear n0_ n1_ n2_; clear hg hw hp_))
        (try simp only [← hl3_1])
        go_roundg k1
        case measure => have := HK1.out; omega
        case rel => exact ⟨(y182), (wrap64 (x11_1 + 1)), (by first | rfl | (simp; done) | (simp [*]; done)), H', ⟨by have := HK1.out; omega⟩, ⟨by (try simp only [hl3_1]); (with_reducible repeat (first | apply Kd.R_alloc | apply Kd.R_drewN | apply Kd.R_drew)); exact HO_3.out⟩, ⟨by (try simp only [hl3_1]); (with_reducible repeat first|refine blk_drewN ?_ _|refine blk_drew ?_|refine blk_alloc ?_ _); exact BK178.out⟩, ⟨bw⟩⟩
       ·rw [if_neg c11] at H
        exact absurd H (by simp)
      ·rw [if_neg c10] at H
       exact absurd H (by simp)
     ·rw [if_neg c9] at H
      have c9b0 : decide (x11_1 < (y179.length : Int)) = false := decide_eq_false c9
      (try have c9bx : decide (x11_1 < (x3_1.length : Int)) = false := by rw [← hl3_1]; exact c9b0)
      clear c9
      have H' := AX H
      clear H
      obtain ⟨hcz15_0, hcz15_1, hcz15_2, hcz15_3, hcz15_4, hcz15_5, hcz15_6⟩ := blkC7 (w := wr) BK178.out
      obtain ⟨hfz15_0, hfz15_1, hfz15_2, hfz15_3, hfz15_4, hfz15_5, hfz15_6⟩ := blkF7 BK178.out
      go_wp2
      go_loopg [21] k1 (fun kq v21 w' => ∃ (x3_2 : List Int) (x21_2 : Int), v21 = .int .i64 x21_2 ∧ Aside0 (pylonref11_present.l1 kq x3_2 (l0_6.length : Int) x21_2 a0_0 a0_1 a0_2 a0_3 a0_4 a0_5 l0_6 = some r) ∧ Aside0 (kq ≤ k1) ∧ Aside0 (Kd.R (Kd.int .i64) 3 w' w.heap.size (fun _ => True) (.slice Ao8 x3_1.length co8) x3_2) ∧ Aside0 (w'.heap[gb178]? = some (.cells #[.string a0_0, .int .i64 a0_1, .int .i64 a0_2, .int .i64 a0_3, .int .i64 a0_4, .int .i64 a0_5, (.slice A0_6 l0_6.length c0_6)] 31 (0, 0))) ∧ Aside0 (Below w.heap.size w w'))
      case atStart => exact ⟨(x3_1), (0), (by first | rfl | (simp; done) | (simp [*]; done)), H', ⟨Nat.le_refl _⟩, ⟨by (try simp only [hl3_1]); (with_reducible repeat (first | apply Kd.R_alloc | apply Kd.R_drewN | apply Kd.R_drew)); exact HO_3.out⟩, ⟨by (try simp only [hl3_1]); (with_reducible repeat first|refine blk_drewN ?_ _|refine blk_drew ?_|refine blk_alloc ?_ _); exact BK178.out⟩, ⟨bw⟩⟩
      case round =>
       clear H'
       try clear c9b0
       try clear hcz15_0 hcz15_1 hcz15_2 hcz15_3 hcz15_4 hcz15_5 hcz15_6
       try clear hfz15_0 hfz15_1 hfz15_2 hfz15_3 hfz15_4 hfz15_5 hfz15_6
       obtain ⟨x3_2, x21_2, rfl, HA, HK2, HO_3, BK178, HB⟩ := hrel
       have hl3_2 := (Kd.R_reads' HO_3.out).1
       rw [hl3_2] at HO_3
       (try simp only [hl3_2])
       (try simp only [hl3_2] at BK178)
       cases gk with
       | zero => exact absurd HA.out (by simp [pylonref11_present.l1])
       | succ k2 =>
        have H := HA.out
        clear HA
        simp only [pylonref11_present.l1] at H
        by_cases c16 : x21_2 < (l0_6.length : Int)
        ·rw [if_pos c16] at H
         have c16b0 : decide (x21_2 < (l0_6.length : Int)) = true := decide_eq_true c16
         clear c16
         by_cases c17 : 0 ≤ x21_2
         ·rw [if_pos c17] at H
          have c17b0 : decide (0 ≤ x21_2) = true := decide_eq_true c17
          clear c17
          by_cases c18 : x21_2 < (l0_6.length : Int)
          ·rw [if_pos c18] at H
           have c18b0 : decide (x21_2 < (l0_6.length : Int)) = true := decide_eq_true c18
           clear c18
           replace H := Option.bind_eq_some_iff.mp H
           obtain ⟨t184, A190, H⟩ := H
           replace H : (if t184 = true then (if 0 ≤ ((rd_T45 l0_6 x21_2).f0) then (if ((rd_T45 l0_6 x21_2).f0) < (x3_2.length : Int) then (pylonref11_present.l1 k2 (x3_2.set (((rd_T45 l0_6 x21_2).f0) : Int).toNat x21_2) (l0_6.length : Int) (wrap64 (x21_2 + 1)) a0_0 a0_1 a0_2 a0_3 a0_4 a0_5 l0_6) else (none)) else (none)) else (pylonref11_present.l1 k2 x3_2 (l0_6.length : Int) (wrap64 (x21_2 + 1)) a0_0 a0_1 a0_2 a0_3 a0_4 a0_5 l0_6)) = some r := H
           have A19 := AX A190
           clear A190
           by_cases c20 : t184 = true
           ·subst c20
            have H1 : (if 0 ≤ ((rd_T45 l0_6 x21_2).f0) then (if ((rd_T45 l0_6 x21_2).f0) < (x3_2.length : Int) then (pylonref11_present.l1 k2 (x3_2.set (((rd_T45 l0_6 x21_2).f0) : Int).toNat x21_2) (l0_6.length : Int) (wrap64 (x21_2 + 1)) a0_0 a0_1 a0_2 a0_3 a0_4 a0_5 l0_6) else (none)) else (none)) = some r := by rw [if_pos rfl] at H; exact H
            clear H
            have H := H1
            clear H1
            by_cases c21 : 0 ≤ ((rd_T45 l0_6 x21_2).f0)
            ·rw [if_pos c21] at H
             have c21b0 : decide (0 ≤ ((rd_T45 l0_6 x21_2).f0)) = true := decide_eq_true c21
             clear c21
             by_cases c22 : ((rd_T45 l0_6 x21_2).f0) < (x3_2.length : Int)
             ·rw [if_pos c22] at H
              have c22b0 : decide (((rd_T45 l0_6 x21_2).f0) < (x3_2.length : Int)) = true := decide_eq_true c22
              clear c22
              obtain ⟨y186, hy186⟩ : ∃ y_ : List Int, y_ = (x3_2.set (((rd_T45 l0_6 x21_2).f0) : Int).toNat x21_2) := ⟨_, rfl⟩
              replace H : (pylonref11_present.l1 k2 y186 (l0_6.length : Int) (wrap64 (x21_2 + 1)) a0_0 a0_1 a0_2 a0_3 a0_4 a0_5 l0_6) = some r := by first | (rw [hy186]; with_reducible exact H) | (have H2_ := (Option.bind_some _ _).symm.trans H; rw [hy186]; with_reducible exact H2_) | (have H2_ := (Option.bind_some _ _).symm.trans H; with_reducible exact H2_) | with_reducible exact H | (rw [hy186]; exact H) | exact H
              have Ny186 := AX hy186
              clear hy186
              have H' := AX H
              clear H
              obtain ⟨hcz24_0, hcz24_1, hcz24_2, hcz24_3, hcz24_4, hcz24_5, hcz24_6⟩ := blkC7 (w := wr) BK178.out
              obtain ⟨hfz24_0, hfz24_1, hfz24_2, hfz24_3, hfz24_4, hfz24_5, hfz24_6⟩ := blkF7 BK178.out
              have p183 : 0 ≤ (x21_2 : Int) := of_decide_eq_true (by first | (with_reducible assumption) | assumption)
              have q183 : x21_2 < (l0_6.length : Int) := of_decide_eq_true (by first | (with_reducible assumption) | assumption)
              obtain ⟨ad183, e183, hx183_0, hx183_1, hx183_2, hx183_3, hx183_4⟩ := at_T45 HR0_6.out x21_2 p183 q183
              cases e183
              replace hx183_0 := bcl HB hx183_0
              replace hx183_1 := bcl HB hx183_1
              replace hx183_2 := bcl HB hx183_2
              replace hx183_3 := bcl HB hx183_3
              replace hx183_4 := bcl HB hx183_4
              replace p183 := eq_true p183
              replace q183 := eq_true q183
              go_wp2_with (first | ((with_reducible refine gate_callee (f := 21) rfl ?_); refine gL (some 29) Try.func21 #[.agg #[.int .i64 ((rd_T45 l0_6 x21_2).f0), .int .i64 ((rd_T45 l0_6 x21_2).f1), .int .i64 ((rd_T45 l0_6 x21_2).f2), .int .i64 ((rd_T45 l0_6 x21_2).f3), .int .u8 ((rd_T45 l0_6 x21_2).f4)]] ?_; (with_reducible refine (pylonref10_Good.calls ((rd_T45 l0_6 x21_2).f0) ((rd_T45 l0_6 x21_2).f1) ((rd_T45 l0_6 x21_2).f2) ((rd_T45 l0_6 x21_2).f3) ((rd_T45 l0_6 x21_2).f4) true _ A19.out).mono ?_); rintro e w25 ⟨rfl, hb⟩; refine ⟨_, rfl, ?_⟩; replace HO_3 := AX (Kd.R_below (kr HO_3) hb); replace BK178 := AX (bkb BK178 hb); replace HB := AX (below_step bw hb); (try clear hb); obtain ⟨hcz26_0, hcz26_1, hcz26_2, hcz26_3, hcz26_4, hcz26_5, hcz26_6⟩ := blkC7 (w := w25) BK178.out; obtain ⟨hfz26_0, hfz26_1, hfz26_2, hfz26_3, hfz26_4, hfz26_5, hfz26_6⟩ := blkF7 BK178.out; have p185 : 0 ≤ (x21_2 : Int) := of_decide_eq_true (by first | (with_reducible assumption) | assumption); have q185 : x21_2 < (l0_6.length : Int) := of_decide_eq_true (by first | (with_reducible assumption) | assumption); obtain ⟨ad185, e185, hx185_0, hx185_1, hx185_2, hx185_3, hx185_4⟩ := at_T45 HR0_6.out x21_2 p185 q185; obtain rfl : ad183 = ad185 := (by injection e185); replace hx185_0 := bcl HB hx185_0; replace hx185_1 := bcl HB hx185_1; replace hx185_2 := bcl HB hx185_2; replace hx185_3 := bcl HB hx185_3; replace hx185_4 := bcl HB hx185_4; replace p185 := eq_true p185; replace q185 := eq_true q185; have p23 : 0 ≤ (((rd_T45 l0_6 x21_2).f0) : Int) := of_decide_eq_true (by first | (with_reducible assumption) | assumption); have q23 : (((rd_T45 l0_6 x21_2).f0) : Int) < ((x3_2.length : Int) : Int) := of_decide_eq_true (by first | (with_reducible assumption) | assumption); obtain ⟨go23, co23, eo23, gb23, gl23, cl23, HG23⟩ := Kd.R_form HO_3.out (by omega); (first | cases eo23 | (injection eo23 with ea_ en_ ec_; (first | subst ea_ | (injection ea_ with ea_; subst ea_)); subst ec_; clear en_)); have GB23 := AX gb23; have GG23 := AX HG23; clear gb23 gl23 HG23; obtain ⟨hx23_0, hf23_0⟩ := Kd.R_celln 0 HO_3.out (((rd_T45 l0_6 x21_2).f0) : Int) p23 q23; replace p23 := eq_true p23; replace q23 := eq_true q23; obtain ⟨hy27_, hz27_⟩ := Kd.R_celln 0 HO_3.out (((rd_T45 l0_6 x21_2).f0) : Int) (of_decide_eq_true (by first | (with_reducible assumption) | assumption)) (of_decide_eq_true (by first | (with_reducible assumption) | assumption)); have HP27 := Kd.R_putg HO_3.out (((rd_T45 l0_6 x21_2).f0) : Int) x21_2) | ((with_reducible refine gate_store (t := 3) (p := 38) rfl ?_); refine store_event (t := 3) (p := 38) (v := ?vo_w28) (w1 := (w25.setCell ⟨go23, (((rd_T45 l0_6 x21_2).f0) : Int).toNat, none⟩ (.int .i64 x21_2))) ?hg ?ho ?hn ?hr ?_; (case ho => rfl); (case hg => rfl); (case hn => rfl); (case hr => first | (go_simp; done) | (go_simp; rfl)); intro w28 hw; have hg : w25.grownBy w28 (some go23) := (by rw [hw]; exact HP27.2); have hp_ : Kd.R (Kd.int .i64) 3 w28 w.heap.size (fun _ => True) (.slice (some ⟨go23, 0, none⟩) x3_2.length co8) y186 := (by rw [hw, Ny186.out]; exact HP27.1); clear HP27; have n0_ := AX (hp_); have n1_ := AX (blk_grown (g := gb178) (o := .cells #[.string a0_0, .int .i64 a0_1, .int .i64 a0_2, .int .i64 a0_3, .int .i64 a0_4, .int .i64 a0_5, .slice (some ad183) l0_6.length c0_6] 31 (0, 0)) (bkn BK178) hg (Kd.R_ne HO_3.out BK178.out (by decide))); have n2_ := AX ((by rw [hw]; exact below_set (HB.out) GB23.out : Below w.heap.size w w28)); clear HO_3; clear BK178; clear HB; have HO_3 := n0_; have BK178 := n1_; have HB := n2_; clear n0_ n1_ n2_; clear hg hw hp_))
              (try simp only [← hl3_2])
              go_roundg k2
              case measure => have := HK1.out; have := HK2.out; omega
              case rel => exact ⟨(y186), (wrap64 (x21_2 + 1)), (by first | rfl | (simp; done) | (simp [*]; done)), H', ⟨by have := HK1.out; have := HK2.out; omega⟩, ⟨by (try simp only [hl3_1]); (try simp only [hl3_2]); (with_reducible repeat (first | apply Kd.R_alloc | apply Kd.R_drewN | apply Kd.R_drew)); exact HO_3.out⟩, ⟨by (try simp only [hl3_1]); (try simp only [hl3_2]); (with_reducible repeat first|refine blk_drewN ?_ _|refine blk_drew ?_|refine blk_alloc ?_ _); exact BK178.out⟩, ⟨bw⟩⟩
             ·rw [if_neg c22] at H
              exact absurd H (by simp)
            ·rw [if_neg c21] at H
             exact absurd H (by simp)
           ·replace c20 := Bool.eq_false_iff.mpr c20
            subst c20
            have H1 : (pylonref11_present.l1 k2 x3_2 (l0_6.length : Int) (wrap64 (x21_2 + 1)) a0_0 a0_1 a0_2 a0_3 a0_4 a0_5 l0_6) = some r := by rw [if_neg (show ¬ (false = true) by decide)] at H; exact H
            clear H
            have H := H1
            clear H1
            have H' := AX H
            clear H
            obtain ⟨hcz29_0, hcz29_1, hcz29_2, hcz29_3, hcz29_4, hcz29_5, hcz29_6⟩ := blkC7 (w := wr) BK178.out
            obtain ⟨hfz29_0, hfz29_1, hfz29_2, hfz29_3, hfz29_4, hfz29_5, hfz29_6⟩ := blkF7 BK178.out
            have p183 : 0 ≤ (x21_2 : Int) := of_decide_eq_true (by first | (with_reducible assumption) | assumption)
            have q183 : x21_2 < (l0_6.length : Int) := of_decide_eq_true (by first | (with_reducible assumption) | assumption)
            obtain ⟨ad183, e183, hx183_0, hx183_1, hx183_2, hx183_3, hx183_4⟩ := at_T45 HR0_6.out x21_2 p183 q183
            cases e183
            replace hx183_0 := bcl HB hx183_0
            replace hx183_1 := bcl HB hx183_1
            replace hx183_2 := bcl HB hx183_2
            replace hx183_3 := bcl HB hx183_3
            replace hx183_4 := bcl HB hx183_4
            replace p183 := eq_true p183
            replace q183 := eq_true q183
            go_wp2_with (first | ((with_reducible refine gate_callee (f := 21) rfl ?_); refine gL (some 29) Try.func21 #[.agg #[.int .i64 ((rd_T45 l0_6 x21_2).f0), .int .i64 ((rd_T45 l0_6 x21_2).f1), .int .i64 ((rd_T45 l0_6 x21_2).f2), .int .i64 ((rd_T45 l0_6 x21_2).f3), .int .u8 ((rd_T45 l0_6 x21_2).f4)]] ?_; (with_reducible refine (pylonref10_Good.calls ((rd_T45 l0_6 x21_2).f0) ((rd_T45 l0_6 x21_2).f1) ((rd_T45 l0_6 x21_2).f2) ((rd_T45 l0_6 x21_2).f3) ((rd_T45 l0_6 x21_2).f4) false _ A19.out).mono ?_); rintro e w30 ⟨rfl, hb⟩; refine ⟨_, rfl, ?_⟩; replace HO_3 := AX (Kd.R_below (kr HO_3) hb); replace BK178 := AX (bkb BK178 hb); replace HB := AX (below_step bw hb); (try clear hb)))
            (try simp only [← hl3_2])
            go_roundg k2
            case measure => have := HK1.out; have := HK2.out; omega
            case rel => exact ⟨(x3_2), (wrap64 (x21_2 + 1)), (by first | rfl | (simp; done) | (simp [*]; done)), H', ⟨by have := HK1.out; have := HK2.out; omega⟩, ⟨by (try simp only [hl3_1]); (try simp only [hl3_2]); (with_reducible repeat (first | apply Kd.R_alloc | apply Kd.R_drewN | apply Kd.R_drew)); exact HO_3.out⟩, ⟨by (try simp only [hl3_1]); (try simp only [hl3_2]); (with_reducible repeat first|refine blk_drewN ?_ _|refine blk_drew ?_|refine blk_alloc ?_ _); exact BK178.out⟩, ⟨bw⟩⟩
          ·rw [if_neg c18] at H
           exact absurd H (by simp)
         ·rw [if_neg c17] at H
          exact absurd H (by simp)
        ·rw [if_neg c16] at H
         have c16b0 : decide (x21_2 < (l0_6.length : Int)) = false := decide_eq_false c16
         clear c16
         obtain rfl := Option.some.inj H
         go_wp2
         go_ret
         exact ⟨_, by first | rfl | (simp [errW_none, errW_some] <;> rfl) | (simp [*, errW_none, errW_some] <;> rfl), kr HO_3, bw⟩
  ·rw [if_neg c3] at H
   exact absurd H (by simp)
 ·rw [if_neg c2] at H
  exact absurd H (by simp)

/-! ### pylonref11_Gaps: function 14 -/
def pylonref11_Gaps.l0 : Nat → List Int → List (S43) → Int → Option ((List (S43)) × Int)
 | 0, _, _, _ => none
 | k + 1, x4, x5, x6 => if x6 < (x4.length : Int) then (if 0 ≤ x6 then (if (rd x4 x6) ≥ 0 then (pylonref11_Gaps.l0 k x4 x5 (wrap64 (x6 + 1))) else (if x6 > 0 then (if 0 ≤ (wrap64 (x6 - 1)) then (if (wrap64 (x6 - 1)) < (x4.length : Int) then (if (rd x4 (wrap64 (x6 - 1))) < 0 then (if 0 ≤ (wrap64 ((x5.length : Int) - 1)) then (if (wrap64 ((x5.length : Int) - 1)) < (x5.length : Int) then (pylonref11_Gaps.l0 k x4 (x5.set ((wrap64 ((x5.length : Int) - 1)) : Int).toNat (⟨(rd_T43 x5 (wrap64 ((x5.length : Int) - 1))).f0, wrap64 (x6 + 1)⟩ : S43)) (wrap64 (x6 + 1))) else (none)) else (none)) else (if x5.length < 8796093022208 then (pylonref11_Gaps.l0 k x4 (x5 ++ [(⟨x6, wrap64 (x6 + 1)⟩ : S43)]) (wrap64 (x6 + 1))) else (none))) else (none)) else (none)) else (if x5.length < 8796093022208 then (pylonref11_Gaps.l0 k x4 (x5 ++ [(⟨x6, wrap64 (x6 + 1)⟩ : S43)]) (wrap64 (x6 + 1))) else (none)))) else (none)) else (some (x5, 0))
def pylonref11_Gaps.f (k : Nat) (a0_0 : ByteArray) (a0_1 : Int) (a0_2 : Int) (a0_3 : Int) (a0_4 : Int) (a0_5 : Int) (l0_6 : List (S45)) : Option ((List (S43)) × Int) := (pylonref11_InOrder.f k a0_0 a0_1 a0_2 a0_3 a0_4 a0_5 l0_6).bind fun t188 => (if t188 = true then ((pylonref11_present.f k a0_0 a0_1 a0_2 a0_3 a0_4 a0_5 l0_6).bind fun t189 => (pylonref11_Gaps.l0 k t189 ([] : List (S43)) 0)) else (some (([] : List (S43)), 8)))
theorem pylonref11_Gaps.mono_l : ∀ k, (∀ y0 y1 y2, LeO (pylonref11_Gaps.l0 k y0 y1 y2) (pylonref11_Gaps.l0 (k + 1) y0 y1 y2))
 | 0 => fun _ _ _ r h => by simp [pylonref11_Gaps.l0] at h
 | k + 1 => by
  have ih0 := pylonref11_Gaps.mono_l k
  ·intro y0 y1 y2
   unfold pylonref11_Gaps.l0
   repeat' first
   | (with_reducible exact ih0 _ _ _)
   | (with_reducible exact pylonref11_InOrder.mono _ _ _ _ _ _ _ _)
   | (with_reducible exact pylonref11_present.mono _ _ _ _ _ _ _ _)
   | (with_reducible exact LeO.refl _)
   | (with_reducible exact LeO.none _)
   | (with_reducible refine LeO.ite ?_ ?_)
   | (with_reducible refine LeO.bind ?_ (fun _ => ?_))
theorem pylonref11_Gaps.mono : ∀ a0 a1 a2 a3 a4 a5 a6 k, LeO (pylonref11_Gaps.f k a0 a1 a2 a3 a4 a5 a6) (pylonref11_Gaps.f (k + 1) a0 a1 a2 a3 a4 a5 a6) := by
 intro a0 a1 a2 a3 a4 a5 a6 k
 have ih0 := pylonref11_Gaps.mono_l k
 unfold pylonref11_Gaps.f
 repeat' first
   | (with_reducible exact ih0 _ _ _)
   | (with_reducible exact pylonref11_InOrder.mono _ _ _ _ _ _ _ _)
   | (with_reducible exact pylonref11_present.mono _ _ _ _ _ _ _ _)
   | (with_reducible exact LeO.refl _)
   | (with_reducible exact LeO.none _)
   | (with_reducible refine LeO.ite ?_ ?_)
   | (with_reducible refine LeO.bind ?_ (fun _ => ?_))
set_option maxHeartbeats 8000000 in
set_option maxRecDepth 100000 in
theorem pylonref11_Gaps.calls (k : Nat) (a0_0 : ByteArray) (a0_1 : Int) (a0_2 : Int) (a0_3 : Int) (a0_4 : Int) (a0_5 : Int) (A0_6 : Option Addr) (c0_6 : Nat) (l0_6 : List (S45)) (r1 : List (S43)) (r2 : Int) (w : World) (hr0_6 : Kd.C k45 w A0_6 l0_6.length l0_6) (hc0_6 : l0_6.length ≤ c0_6) (h : pylonref11_Gaps.f k a0_0 a0_1 a0_2 a0_3 a0_4 a0_5 l0_6 = some (r1, r2)) :
  Calls Try.prog 14 #[.agg #[.string a0_0, .int .i64 a0_1, .int .i64 a0_2, .int .i64 a0_3, .int .i64 a0_4, .int .i64 a0_5, .slice A0_6 l0_6.length c0_6]] w fun e w' => ∃ v0_ : Value, e = .returned (.tuple #[v0_, .int .i64 r2]) ∧ Kd.R k43 43 w' w.heap.size (fun _ => True) v0_ r1 ∧ Below w.heap.size w w' := by
 have hu31 := Try.underlying31
 have hu43 := Try.underlying43
 have HR0_6 := AX hr0_6
 have HC0_6 := AX hc0_6
 clear hr0_6 hc0_6
 have HB := AX (Below.refl w.heap.size w)
 have H : ((pylonref11_InOrder.f k a0_0 a0_1 a0_2 a0_3 a0_4 a0_5 l0_6).bind fun t188 => (if t188 = true then ((pylonref11_present.f k a0_0 a0_1 a0_2 a0_3 a0_4 a0_5 l0_6).bind fun t189 => (pylonref11_Gaps.l0 k t189 ([] : List (S43)) 0)) else (some (([] : List (S43)), 8)))) = some (r1, r2) := h
 clear h
 replace H := Option.bind_eq_some_iff.mp H
 obtain ⟨t188, A20, H⟩ := H
 replace H : (if t188 = true then ((pylonref11_present.f k a0_0 a0_1 a0_2 a0_3 a0_4 a0_5 l0_6).bind fun t189 => (pylonref11_Gaps.l0 k t189 ([] : List (S43)) 0)) else (some (([] : List (S43)), 8))) = some (r1, r2) := H
 have A2 := AX A20
 clear A20
 by_cases c3 : t188 = true
 ·subst c3
  have H1 : ((pylonref11_present.f k a0_0 a0_1 a0_2 a0_3 a0_4 a0_5 l0_6).bind fun t189 => (pylonref11_Gaps.l0 k t189 ([] : List (S43)) 0)) = some (r1, r2) := by rw [if_pos rfl] at H; exact H
  clear H
  have H := H1
  clear H1
  replace H := Option.bind_eq_some_iff.mp H
  obtain ⟨t189, A40, H⟩ := H
  replace H : (pylonref11_Gaps.l0 k t189 ([] : List (S43)) 0) = some (r1, r2) := H
  have A4 := AX A40
  clear A40
  have H' := AX H
  clear H
  go_enter Try.func14, Try.ntmps14
  go_wp2_with (first | ((with_reducible refine gate_dst (N := 1) rfl ?_); refine bx 1 #[.string a0_0, .int .i64 a0_1, .int .i64 a0_2, .int .i64 a0_3, .int .i64 a0_4, .int .i64 a0_5, .slice A0_6 l0_6.length c0_6] 31 ?_; intro gb187 hg w5 hbox hb; have BK187 := AX (hbox); have GW187 := gwl (w := w) hg bw; have GE187 := GW187; replace HB := AX (below_step bw hb); clear hb hbox hg; obtain ⟨hcz6_0, hcz6_1, hcz6_2, hcz6_3, hcz6_4, hcz6_5, hcz6_6⟩ := blkC7 (w := w5) BK187.out; obtain ⟨hfz6_0, hfz6_1, hfz6_2, hfz6_3, hfz6_4, hfz6_5, hfz6_6⟩ := blkF7 BK187.out) | ((with_reducible refine gate_callee (f := 29) rfl ?_); refine gL (some 8) Try.func29 #[.agg #[.string a0_0, .int .i64 a0_1, .int .i64 a0_2, .int .i64 a0_3, .int .i64 a0_4, .int .i64 a0_5, .slice A0_6 l0_6.length c0_6]] ?_; (with_reducible refine (pylonref11_InOrder.calls k a0_0 a0_1 a0_2 a0_3 a0_4 a0_5 _ _ l0_6 true _ ?side1 ?side2 A2.out).mono ?_); (case side1 => repeat (first | exact (Kd.C_below HR0_6.out HB.out) | (with_reducible refine Kd.C_alloc ?_ _) | (with_reducible refine Kd.C_drewN ?_ _) | (with_reducible refine Kd.C_drew ?_))); (case side2 => exact HC0_6.out); rintro e w7 ⟨rfl, hb⟩; refine ⟨_, rfl, ?_⟩; replace BK187 := AX (bkb BK187 hb); replace HB := AX (below_step bw hb); (try clear hb); (try clear hb2); (try clear hk); (try clear hi); obtain ⟨hcz8_0, hcz8_1, hcz8_2, hcz8_3, hcz8_4, hcz8_5, hcz8_6⟩ := blkC7 (w := w7) BK187.out; obtain ⟨hfz8_0, hfz8_1, hfz8_2, hfz8_3, hfz8_4, hfz8_5, hfz8_6⟩ := blkF7 BK187.out) | ((with_reducible refine gate_callee (f := 30) rfl ?_); refine gL (some 11) Try.func30 #[.agg #[.string a0_0, .int .i64 a0_1, .int .i64 a0_2, .int .i64 a0_3, .int .i64 a0_4, .int .i64 a0_5, .slice A0_6 l0_6.length c0_6]] ?_; (with_reducible refine (pylonref11_present.calls k a0_0 a0_1 a0_2 a0_3 a0_4 a0_5 _ _ l0_6 t189 _ ?side1 ?side2 A4.out).mono ?_); (case side1 => repeat (first | exact (Kd.C_below HR0_6.out HB.out) | (with_reducible refine Kd.C_alloc ?_ _) | (with_reducible refine Kd.C_drewN ?_ _) | (with_reducible refine Kd.C_drew ?_))); (case side2 => exact HC0_6.out); rintro e w9 ⟨v190, rfl, ho0, hb⟩; refine ⟨_, rfl, ?_⟩; have HO191 := AX (Kd.R_lower ho0 (below_size bw)); replace BK187 := AX (bkb BK187 hb); replace HB := AX (below_step bw hb); (try clear hb); (try clear hb2); (try clear hk); (try clear hi); (try clear ho0)))
  go_loopg [5, 6] k (fun kq v5 v6 w' => ∃ (x5_1 : List (S43)) (x6_1 : Int), v6 = .int .i64 x6_1 ∧ Aside0 (pylonref11_Gaps.l0 kq t189 x5_1 x6_1 = some (r1, r2)) ∧ Aside0 (kq ≤ k) ∧ Aside0 (Kd.R (Kd.int .i64) 3 w' w.heap.size (fun _ => True) v190 t189) ∧ Aside0 (Kd.R k43 43 w' w.heap.size (fun _ => True) v5 x5_1) ∧ Aside0 (w'.heap[gb187]? = some (.cells #[.string a0_0, .int .i64 a0_1, .int .i64 a0_2, .int .i64 a0_3, .int .i64 a0_4, .int .i64 a0_5, (.slice A0_6 l0_6.length c0_6)] 31 (0, 0))) ∧ Aside0 (Below w.heap.size w w'))
  case atStart => exact ⟨(([] : List (S43))), (0), (by first | rfl | (simp; done) | (simp [*]; done)), H', ⟨Nat.le_refl _⟩, ⟨kr HO191⟩, ⟨by first | exact Kd.R_nil _ _ _ _ _ | exact Kd.N_nil _ _ _ _ _ | exact Kd.V_nil _ _ _ _ _ | exact Kd.Q_nil _ _ _ _ _ | exact Kd.S_nil _ _ _ _ _⟩, ⟨bkn BK187⟩, ⟨bw⟩⟩
  case round =>
   clear H'
   try clear c3
   try clear hcz6_0 hcz6_1 hcz6_2 hcz6_3 hcz6_4 hcz6_5 hcz6_6
   try clear hcz8_0 hcz8_1 hcz8_2 hcz8_3 hcz8_4 hcz8_5 hcz8_6
   try clear hfz6_0 hfz6_1 hfz6_2 hfz6_3 hfz6_4 hfz6_5 hfz6_6
   try clear hfz8_0 hfz8_1 hfz8_2 hfz8_3 hfz8_4 hfz8_5 hfz8_6
   obtain ⟨x5_1, x6_1, rfl, HA, HK1, HO_4, HO_5, BK187, HB⟩ := hrel
   cases gk with
   | zero => exact absurd HA.out (by simp [pylonref11_Gaps.l0])
   | succ k1 =>
    have H := HA.out
    clear HA
    simp only [pylonref11_Gaps.l0] at H
    by_cases c10 : x6_1 < (t189.length : Int)
    ·rw [if_pos c10] at H
     have c10b0 : decide (x6_1 < (t189.length : Int)) = true := decide_eq_true c10
     clear c10
     by_cases c11 : 0 ≤ x6_1
     ·rw [if_pos c11] at H
      have c11b0 : decide (0 ≤ x6_1) = true := decide_eq_true c11
      clear c11
      by_cases c12 : (rd t189 x6_1) ≥ 0
      ·rw [if_pos c12] at H
       have c12b0 : decide (0 ≤ (rd t189 x6_1)) = true := decide_eq_true c12
       clear c12
       have H' := AX H
       clear H
       obtain ⟨Ao13, co13, eo13⟩ := Kd.R_slice HO_4.out
       subst eo13
       have p192 : 0 ≤ (x6_1 : Int) := of_decide_eq_true (by first | (with_reducible assumption) | assumption)
       have q192 : x6_1 < (t189.length : Int) := of_decide_eq_true (by first | (with_reducible assumption) | assumption)
       obtain ⟨ad192, e192, hx192_0⟩ := Kd.at_int (Kd.R_reads' HO_4.out).2.2 x6_1 p192 q192
       cases e192
       replace p192 := eq_true p192
       replace q192 := eq_true q192
       go_wp2
       go_roundg k1
       case measure => have := HK1.out; omega
       case rel => exact ⟨(x5_1), (wrap64 (x6_1 + 1)), (by first | rfl | (simp; done) | (simp [*]; done)), H', ⟨by have := HK1.out; omega⟩, ⟨kr HO_4⟩, ⟨kr HO_5⟩, ⟨bkn BK187⟩, ⟨bw⟩⟩
      ·rw [if_neg c12] at H
       have c12b0 : decide (0 ≤ (rd t189 x6_1)) = false := decide_eq_false c12
       clear c12
       by_cases c14 : x6_1 > 0
       ·rw [if_pos c14] at H
        have c14b0 : decide (0 < x6_1) = true := decide_eq_true c14
        clear c14
        obtain ⟨ji15, hji15⟩ : ∃ j_ : Int, (wrap64 (x6_1 - 1)) = j_ := ⟨_, rfl⟩
        replace H : (if 0 ≤ (ji15) then (if (ji15) < (t189.length : Int) then (if (rd t189 (ji15)) < 0 then (if 0 ≤ (wrap64 ((x5_1.length : Int) - 1)) then (if (wrap64 ((x5_1.length : Int) - 1)) < (x5_1.length : Int) then (pylonref11_Gaps.l0 k1 t189 (x5_1.set ((wrap64 ((x5_1.length : Int) - 1)) : Int).toNat (⟨(rd_T43 x5_1 (wrap64 ((x5_1.length : Int) - 1))).f0, wrap64 (x6_1 + 1)⟩ : S43)) (wrap64 (x6_1 + 1))) else (none)) else (none)) else (if x5_1.length < 8796093022208 then (pylonref11_Gaps.l0 k1 t189 (x5_1 ++ [(⟨x6_1, wrap64 (x6_1 + 1)⟩ : S43)]) (wrap64 (x6_1 + 1))) else (none))) else (none)) else (none)) = some (r1, r2) := by first | (rw [hji15] at H; exact H) | (simp only [hji15] at H ⊢; exact H)
        have hji15w : (IntKind.i64.wrap (x6_1 - 1)) = ji15 := (i64_w _).trans hji15
        by_cases c16 : 0 ≤ (ji15)
        ·rw [if_pos c16] at H
         have c16b0 : decide (0 ≤ (ji15)) = true := decide_eq_true c16
         clear c16
         by_cases c17 : (ji15) < (t189.length : Int)
         ·rw [if_pos c17] at H
          have c17b0 : decide ((ji15) < (t189.length : Int)) = true := decide_eq_true c17
          clear c17
          by_cases c18 : (rd t189 (ji15)) < 0
          ·rw [if_pos c18] at H
           have c18b0 : decide ((rd t189 (ji15)) < 0) = true := decide_eq_true c18
           clear c18
           obtain ⟨ji19, hji19⟩ : ∃ j_ : Int, (wrap64 ((x5_1.length : Int) - 1)) = j_ := ⟨_, rfl⟩
           replace H : (if 0 ≤ (ji19) then (if (ji19) < (x5_1.length : Int) then (pylonref11_Gaps.l0 k1 t189 (x5_1.set ((ji19) : Int).toNat (⟨(rd_T43 x5_1 (ji19)).f0, wrap64 (x6_1 + 1)⟩ : S43)) (wrap64 (x6_1 + 1))) else (none)) else (none)) = some (r1, r2) := by first | (rw [hji19] at H; exact H) | (simp only [hji19] at H ⊢; exact H)
           have hji19w : (IntKind.i64.wrap ((x5_1.length : Int) - 1)) = ji19 := (i64_w _).trans hji19
           by_cases c20 : 0 ≤ (ji19)
           ·rw [if_pos c20] at H
            have c20b0 : decide (0 ≤ (ji19)) = true := decide_eq_true c20
            clear c20
            by_cases c21 : (ji19) < (x5_1.length : Int)
            ·rw [if_pos c21] at H
             have c21b0 : decide ((ji19) < (x5_1.length : Int)) = true := decide_eq_true c21
             clear c21
             obtain ⟨y194, hy194⟩ : ∃ y_ : List (S43), y_ = (x5_1.set ((ji19) : Int).toNat (⟨(rd_T43 x5_1 (ji19)).f0, wrap64 (x6_1 + 1)⟩ : S43)) := ⟨_, rfl⟩
             replace H : (pylonref11_Gaps.l0 k1 t189 y194 (wrap64 (x6_1 + 1))) = some (r1, r2) := by first | (rw [hy194]; with_reducible exact H) | (have H2_ := (Option.bind_some _ _).symm.trans H; rw [hy194]; with_reducible exact H2_) | (have H2_ := (Option.bind_some _ _).symm.trans H; with_reducible exact H2_) | with_reducible exact H | (rw [hy194]; exact H) | exact H
             have Ny194 := AX hy194
             clear hy194
             have H' := AX H
             clear H
             obtain ⟨Ao23, co23, eo23⟩ := Kd.R_slice HO_4.out
             subst eo23
             have p192 : 0 ≤ (x6_1 : Int) := of_decide_eq_true (by first | (with_reducible assumption) | assumption)
             have q192 : x6_1 < (t189.length : Int) := of_decide_eq_true (by first | (with_reducible assumption) | assumption)
             obtain ⟨ad192, e192, hx192_0⟩ := Kd.at_int (Kd.R_reads' HO_4.out).2.2 x6_1 p192 q192
             cases e192
             replace p192 := eq_true p192
             replace q192 := eq_true q192
             have p193 : 0 ≤ ((ji15) : Int) := of_decide_eq_true (by first | (with_reducible assumption) | assumption)
             have q193 : (ji15) < (t189.length : Int) := of_decide_eq_true (by first | (with_reducible assumption) | assumption)
             obtain ⟨ad193, e193, hx193_0⟩ := Kd.at_int (Kd.R_reads' HO_4.out).2.2 (ji15) p193 q193
             obtain rfl : ad192 = ad193 := (by injection e193)
             replace p193 := eq_true p193
             replace q193 := eq_true q193
             obtain ⟨Ao24, co24, eo24⟩ := Kd.R_slice HO_5.out
             subst eo24
             have p22 : 0 ≤ ((ji19) : Int) := of_decide_eq_true (by first | (with_reducible assumption) | assumption)
             have q22 : ((ji19) : Int) < ((x5_1.length : Int) : Int) := of_decide_eq_true (by first | (with_reducible assumption) | assumption)
             obtain ⟨go22, co22, eo22, gb22, gl22, cl22, HG22⟩ := Kd.R_form HO_5.out (by omega)
             (first | cases eo22 | (injection eo22 with ea_ en_ ec_; (first | subst ea_ | (injection ea_ with ea_; subst ea_)); subst ec_; clear en_))
             have GB22 := AX gb22
             have GG22 := AX HG22
             clear gb22 gl22 HG22
             obtain ⟨ce22, hcl22, hM22, hcc22, hfr22⟩ := Kd.R_elem HO_5.out z43 ((ji19) : Int) p22 q22
             obtain rfl := k43_openM hM22
             have hx22_0 : wr.cell? ⟨go22, ((ji19) : Int).toNat * 2, none⟩ = some (.int .i64 ((rd_T43 x5_1 (ji19)).f0)) := hcc22 0 _ rfl
             have hx22_1 : wr.cell? ⟨go22, ((ji19) : Int).toNat * 2 + 1, none⟩ = some (.int .i64 ((rd_T43 x5_1 (ji19)).f1)) := hcc22 1 _ rfl
             have hf22_0 : wr.frozen? ⟨go22, ((ji19) : Int).toNat * 2, none⟩ = false := hfr22 0
             have hf22_1 : wr.frozen? ⟨go22, ((ji19) : Int).toNat * 2 + 1, none⟩ = false := hfr22 1
             clear hcl22 hcc22 hfr22 hM22
             replace p22 := eq_true p22
             replace q22 := eq_true q22
             have HX25 := AX (show Kd.R k43 43 wr w.heap.size (fun _ => True) (.slice (some ⟨go22, 0, none⟩) x5_1.length co24) x5_1 from (kr HO_5))
             obtain ⟨ce25, hcl25, hM25, hcc25, hfr25⟩ := Kd.R_elem HX25.out z43 ((ji19) : Int) (of_decide_eq_true (by first | (with_reducible assumption) | assumption)) (by have h_ : ((ji19) : Int) < ((x5_1.length : Int) : Int) := of_decide_eq_true (by first | (with_reducible assumption) | assumption); first | exact h_ | (have e_ := (Kd.R_reads' HO_5.out).1; omega) | simpa using h_)
             obtain rfl := k43_openM hM25
             have HP25 := Kd.R_seg HX25.out ((ji19) : Int) (of_decide_eq_true (by first | (with_reducible assumption) | assumption)) (by have h_ : ((ji19) : Int) < ((x5_1.length : Int) : Int) := of_decide_eq_true (by first | (with_reducible assumption) | assumption); first | exact h_ | (have e_ := (Kd.R_reads' HO_5.out).1; omega) | simpa using h_) (seg := [.int .i64 (wrap64 (x6_1 + 1))]) (j := 1) hcl25 hcc25 (show 2 ≤ 2 from by decide) (x' := (⟨(rd_T43 x5_1 (ji19)).f0, wrap64 (x6_1 + 1)⟩ : S43)) (k43_mkM _ _ _ (⟨(rd_T43 x5_1 (ji19)).f0, wrap64 (x6_1 + 1)⟩ : S43) ) (fun _ hk => hk)
             have hx25_1 := hcc25 1 _ rfl
             (try simp only [show (k43).sz = 2 from rfl, Nat.mul_one, Nat.add_zero] at hx25_1)
             have hf25_1 := hfr25 1
             (try simp only [show (k43).sz = 2 from rfl, Nat.mul_one, Nat.add_zero] at hf25_1)
             clear hcl25 hcc25 hfr25 hM25
             go_wp2_with (first | ((with_reducible refine gate_store (t := 3) (p := 40) rfl ?_); refine store_event (t := 3) (p := 40) (v := ?vo_w26) (w1 := (wr.setCell ⟨go22, ((ji19) : Int).toNat * 2 + 1, none⟩ (.int .i64 (wrap64 (x6_1 + 1))))) ?hg ?ho ?hn ?hr ?_; (case ho => rfl); (case hg => rfl); (case hn => rfl); (case hr => first | (go_simp; done) | (go_simp; rfl)); intro w26 hw; have hg : wr.grownBy w26 (some go22) := (by rw [hw]; exact HP25.2); have hp_ : Kd.R k43 43 w26 w.heap.size (fun _ => True) (.slice (some ⟨go22, 0, none⟩) x5_1.length co24) y194 := (by rw [hw, Ny194.out]; exact HP25.1); clear HP25; have n0_ := AX (Kd.R_over' (v := (.slice (some ⟨go22, 0, none⟩) x5_1.length co24)) (kr HO_4) (Kd.R_typed HO_5.out) (by decide) hg); have n1_ := AX (hp_); have n2_ := AX (blk_grown (g := gb187) (o := .cells #[.string a0_0, .int .i64 a0_1, .int .i64 a0_2, .int .i64 a0_3, .int .i64 a0_4, .int .i64 a0_5, .slice A0_6 l0_6.length c0_6] 31 (0, 0)) (bkn BK187) hg (Kd.R_ne HO_5.out BK187.out (by decide))); have n3_ := AX ((by rw [hw]; exact below_set (HB.out) GB22.out : Below w.heap.size w w26)); clear HO_4; clear HO_5; clear BK187; clear HB; have HO_4 := n0_; have HO_5 := n1_; have BK187 := n2_; have HB := n3_; clear n0_ n1_ n2_ n3_; clear hg hw hp_))
             go_roundg k1
             case measure => have := HK1.out; omega
             case rel => exact ⟨(y194), (wrap64 (x6_1 + 1)), (by first | rfl | (simp; done) | (simp [*]; done)), H', ⟨by have := HK1.out; omega⟩, ⟨kr HO_4⟩, ⟨kr HO_5⟩, ⟨bkn BK187⟩, ⟨bw⟩⟩
            ·rw [if_neg c21] at H
             exact absurd H (by simp)
           ·rw [if_neg c20] at H
            exact absurd H (by simp)
          ·rw [if_neg c18] at H
           have c18b0 : decide ((rd t189 (ji15)) < 0) = false := decide_eq_false c18
           clear c18
           by_cases c27 : x5_1.length < 8796093022208
           ·rw [if_pos c27] at H
            have LMc27 := AX c27
            clear c27
            obtain ⟨y195, hy195⟩ : ∃ y_ : List (S43), y_ = (x5_1 ++ [(⟨x6_1, wrap64 (x6_1 + 1)⟩ : S43)]) := ⟨_, rfl⟩
            replace H : (pylonref11_Gaps.l0 k1 t189 y195 (wrap64 (x6_1 + 1))) = some (r1, r2) := by first | (rw [hy195]; with_reducible exact H) | (have H2_ := (Option.bind_some _ _).symm.trans H; rw [hy195]; with_reducible exact H2_) | (have H2_ := (Option.bind_some _ _).symm.trans H; with_reducible exact H2_) | with_reducible exact H | (rw [hy195]; exact H) | exact H
            have Ny195 := AX hy195
            clear hy195
            have H' := AX H
            clear H
            obtain ⟨Ao28, co28, eo28⟩ := Kd.R_slice HO_4.out
            subst eo28
            have p192 : 0 ≤ (x6_1 : Int) := of_decide_eq_true (by first | (with_reducible assumption) | assumption)
            have q192 : x6_1 < (t189.length : Int) := of_decide_eq_true (by first | (with_reducible assumption) | assumption)
            obtain ⟨ad192, e192, hx192_0⟩ := Kd.at_int (Kd.R_reads' HO_4.out).2.2 x6_1 p192 q192
            cases e192
            replace p192 := eq_true p192
            replace q192 := eq_true q192
            have p193 : 0 ≤ ((ji15) : Int) := of_decide_eq_true (by first | (with_reducible assumption) | assumption)
            have q193 : (ji15) < (t189.length : Int) := of_decide_eq_true (by first | (with_reducible assumption) | assumption)
            obtain ⟨ad193, e193, hx193_0⟩ := Kd.at_int (Kd.R_reads' HO_4.out).2.2 (ji15) p193 q193
            obtain rfl : ad192 = ad193 := (by injection e193)
            replace p193 := eq_true p193
            replace q193 := eq_true q193
            go_wp2_with (first | ((with_reducible refine gate_builtin (b := .append) (xs := #[.tmp 41, .tmp 46]) rfl ?_); at_builtin; refine Kd.R_append k43 (w0 := w) w.heap.size rfl (.tmp 41) (.tmp 46) 32 43 (.agg #[(.int .i64 0), (.int .i64 0)]) 16 rfl Try.underlying32 info43 rfl (by decide) (by omega) u5 x5_1 (⟨x6_1, wrap64 (x6_1 + 1)⟩ : S43) [.int .i64 x6_1, .int .i64 (wrap64 (x6_1 + 1))] (fun _ => True) (fun _ => False) rfl rfl ?aP (fun _ hk => hk.elim) ?aF ?aO ?aB ?aS ?aL ?_; (case aP => exact k43_mkM _ _ _ (⟨x6_1, wrap64 (x6_1 + 1)⟩ : S43)); (case aB => exact bw); (case aF => exact (fun _ _ => trivial)); (case aO => exact (kr HO_5)); (case aS => exact (below_size bw)); (case aL => have := LMc27.out; omega); intro v196 w29 ho hb hg hat; rw [← Ny195.out] at ho; have n0_ := AX (Kd.R_over' (kr HO_4) (Kd.R_typed (kr HO_5)) (by decide) hg); have n1_ := AX (blk_grown (g := gb187) (o := .cells #[.string a0_0, .int .i64 a0_1, .int .i64 a0_2, .int .i64 a0_3, .int .i64 a0_4, .int .i64 a0_5, .slice A0_6 l0_6.length c0_6] 31 (0, 0)) (bkn BK187) hg (Kd.R_ne HO_5.out BK187.out (by decide))); have n2_ := AX (hb); have n3_ := AX (ho); clear HO_4; clear BK187; clear HB; clear HO_5; have HO_4 := n0_; have BK187 := n1_; have HB := n2_; have HO197 := n3_; clear n0_ n1_ n2_ n3_; clear ho hb hg hat))
            go_roundg k1
            case measure => have := HK1.out; omega
            case rel => exact ⟨(y195), (wrap64 (x6_1 + 1)), (by first | rfl | (simp; done) | (simp [*]; done)), H', ⟨by have := HK1.out; omega⟩, ⟨kr HO_4⟩, ⟨kr HO197⟩, ⟨bkn BK187⟩, ⟨bw⟩⟩
           ·rw [if_neg c27] at H
            exact absurd H (by simp)
         ·rw [if_neg c17] at H
          exact absurd H (by simp)
        ·rw [if_neg c16] at H
         exact absurd H (by simp)
       ·rw [if_neg c14] at H
        have c14b0 : decide (0 < x6_1) = false := decide_eq_false c14
        clear c14
        by_cases c30 : x5_1.length < 8796093022208
        ·rw [if_pos c30] at H
         have LMc30 := AX c30
         clear c30
         obtain ⟨y198, hy198⟩ : ∃ y_ : List (S43), y_ = (x5_1 ++ [(⟨x6_1, wrap64 (x6_1 + 1)⟩ : S43)]) := ⟨_, rfl⟩
         replace H : (pylonref11_Gaps.l0 k1 t189 y198 (wrap64 (x6_1 + 1))) = some (r1, r2) := by first | (rw [hy198]; with_reducible exact H) | (have H2_ := (Option.bind_some _ _).symm.trans H; rw [hy198]; with_reducible exact H2_) | (have H2_ := (Option.bind_some _ _).symm.trans H; with_reducible exact H2_) | with_reducible exact H | (rw [hy198]; exact H) | exact H
         have Ny198 := AX hy198
         clear hy198
         have H' := AX H
         clear H
         obtain ⟨Ao31, co31, eo31⟩ := Kd.R_slice HO_4.out
         subst eo31
         have p192 : 0 ≤ (x6_1 : Int) := of_decide_eq_true (by first | (with_reducible assumption) | assumption)
         have q192 : x6_1 < (t189.length : Int) := of_decide_eq_true (by first | (with_reducible assumption) | assumption)
         obtain ⟨ad192, e192, hx192_0⟩ := Kd.at_int (Kd.R_reads' HO_4.out).2.2 x6_1 p192 q192
         cases e192
         replace p192 := eq_true p192
         replace q192 := eq_true q192
         go_wp2_with (first | ((with_reducible refine gate_builtin (b := .append) (xs := #[.tmp 41, .tmp 46]) rfl ?_); at_builtin; refine Kd.R_append k43 (w0 := w) w.heap.size rfl (.tmp 41) (.tmp 46) 32 43 (.agg #[(.int .i64 0), (.int .i64 0)]) 16 rfl Try.underlying32 info43 rfl (by decide) (by omega) u5 x5_1 (⟨x6_1, wrap64 (x6_1 + 1)⟩ : S43) [.int .i64 x6_1, .int .i64 (wrap64 (x6_1 + 1))] (fun _ => True) (fun _ => False) rfl rfl ?aP (fun _ hk => hk.elim) ?aF ?aO ?aB ?aS ?aL ?_; (case aP => exact k43_mkM _ _ _ (⟨x6_1, wrap64 (x6_1 + 1)⟩ : S43)); (case aB => exact bw); (case aF => exact (fun _ _ => trivial)); (case aO => exact (kr HO_5)); (case aS => exact (below_size bw)); (case aL => have := LMc30.out; omega); intro v199 w32 ho hb hg hat; rw [← Ny198.out] at ho; have n0_ := AX (Kd.R_over' (kr HO_4) (Kd.R_typed (kr HO_5)) (by decide) hg); have n1_ := AX (blk_grown (g := gb187) (o := .cells #[.string a0_0, .int .i64 a0_1, .int .i64 a0_2, .int .i64 a0_3, .int .i64 a0_4, .int .i64 a0_5, .slice A0_6 l0_6.length c0_6] 31 (0, 0)) (bkn BK187) hg (Kd.R_ne HO_5.out BK187.out (by decide))); have n2_ := AX (hb); have n3_ := AX (ho); clear HO_4; clear BK187; clear HB; clear HO_5; have HO_4 := n0_; have BK187 := n1_; have HB := n2_; have HO200 := n3_; clear n0_ n1_ n2_ n3_; clear ho hb hg hat))
         go_roundg k1
         case measure => have := HK1.out; omega
         case rel => exact ⟨(y198), (wrap64 (x6_1 + 1)), (by first | rfl | (simp; done) | (simp [*]; done)), H', ⟨by have := HK1.out; omega⟩, ⟨kr HO_4⟩, ⟨kr HO200⟩, ⟨bkn BK187⟩, ⟨bw⟩⟩
        ·rw [if_neg c30] at H
         exact absurd H (by simp)
     ·rw [if_neg c11] at H
      exact absurd H (by simp)
    ·rw [if_neg c10] at H
     have c10b0 : decide (x6_1 < (t189.length : Int)) = false := decide_eq_false c10
     clear c10
     simp only [Option.some.injEq, Prod.mk.injEq] at H
     obtain ⟨rfl, rfl⟩ := H
     obtain ⟨Ao33, co33, eo33⟩ := Kd.R_slice HO_4.out
     subst eo33
     go_wp2
     go_ret2
     exact ⟨_, by first | rfl | (simp [errW_none, errW_some] <;> rfl) | (simp [*, errW_none, errW_some] <;> rfl), kr HO_5, bw⟩
 ·replace c3 := Bool.eq_false_iff.mpr c3
  subst c3
  have H1 : (some (([] : List (S43)), 8)) = some (r1, r2) := by rw [if_neg (show ¬ (false = true) by decide)] at H; exact H
  clear H
  have H := H1
  clear H1
  simp only [Option.some.injEq, Prod.mk.injEq] at H
  obtain ⟨rfl, rfl⟩ := H
  go_enter Try.func14, Try.ntmps14
  go_wp2_with (first | ((with_reducible refine gate_dst (N := 1) rfl ?_); refine bx 1 #[.string a0_0, .int .i64 a0_1, .int .i64 a0_2, .int .i64 a0_3, .int .i64 a0_4, .int .i64 a0_5, .slice A0_6 l0_6.length c0_6] 31 ?_; intro gb187 hg w34 hbox hb; have BK187 := AX (hbox); have GW187 := gwl (w := w) hg bw; have GE187 := GW187; replace HB := AX (below_step bw hb); clear hb hbox hg; obtain ⟨hcz35_0, hcz35_1, hcz35_2, hcz35_3, hcz35_4, hcz35_5, hcz35_6⟩ := blkC7 (w := w34) BK187.out; obtain ⟨hfz35_0, hfz35_1, hfz35_2, hfz35_3, hfz35_4, hfz35_5, hfz35_6⟩ := blkF7 BK187.out) | ((with_reducible refine gate_callee (f := 29) rfl ?_); refine gL (some 8) Try.func29 #[.agg #[.string a0_0, .int .i64 a0_1, .int .i64 a0_2, .int .i64 a0_3, .int .i64 a0_4, .int .i64 a0_5, .slice A0_6 l0_6.length c0_6]] ?_; (with_reducible refine (pylonref11_InOrder.calls k a0_0 a0_1 a0_2 a0_3 a0_4 a0_5 _ _ l0_6 false _ ?side1 ?side2 A2.out).mono ?_); (case side1 => repeat (first | exact (Kd.C_below HR0_6.out HB.out) | (with_reducible refine Kd.C_alloc ?_ _) | (with_reducible refine Kd.C_drewN ?_ _) | (with_reducible refine Kd.C_drew ?_))); (case side2 => exact HC0_6.out); rintro e w36 ⟨rfl, hb⟩; refine ⟨_, rfl, ?_⟩; replace BK187 := AX (bkb BK187 hb); replace HB := AX (below_step bw hb); (try clear hb); (try clear hb2); (try clear hk); (try clear hi)))
  go_ret2
  exact ⟨_, by first | rfl | (simp [errW_none, errW_some] <;> rfl) | (simp [*, errW_none, errW_some] <;> rfl), by first | exact Kd.R_nil _ _ _ _ _ | exact Kd.N_nil _ _ _ _ _ | exact Kd.V_nil _ _ _ _ _ | exact Kd.Q_nil _ _ _ _ _ | exact Kd.S_nil _ _ _ _ _, bw⟩

/-! ### vee_Good: function 39 -/
def vee_Good.f (a0_0 : Int) (a0_1 : Int) (a0_2 : Int) (a0_3 : Int) (a0_4 : Int) : Option (Bool) := if a0_4 = 65 then (some true) else (some (a0_4 == 69))
set_option maxHeartbeats 8000000 in
set_option maxRecDepth 100000 in
theorem vee_Good.calls (a0_0 : Int) (a0_1 : Int) (a0_2 : Int) (a0_3 : Int) (a0_4 : Int) (r : Bool) (w : World) (h : vee_Good.f a0_0 a0_1 a0_2 a0_3 a0_4 = some r) :
  Calls Try.prog 39 #[.agg #[.int .i64 a0_0, .int .i64 a0_1, .int .i64 a0_2, .int .i64 a0_3, .int .u8 a0_4]] w fun e w' => e = .returned (.bool r) ∧ Below w.heap.size w w' := by
 have hu45 := Try.underlying45
 have HB := AX (Below.refl w.heap.size w)
 have H : (if a0_4 = 65 then (some true) else (some (a0_4 == 69))) = some r := h
 clear h
 by_cases c2 : a0_4 = 65
 ·rw [if_pos c2] at H
  have c2b0 : (a0_4 == 65) = true := beq_iff_eq.mpr c2
  have c2b1 : (a0_4 != 65) = false := bne_eq_false_iff_eq.mpr c2
  clear c2
  obtain rfl := Option.some.inj H
  go_enter Try.func39, Try.ntmps39
  go_wp2_with (first | ((with_reducible refine gate_dst (N := 1) rfl ?_); refine bx 1 #[.int .i64 a0_0, .int .i64 a0_1, .int .i64 a0_2, .int .i64 a0_3, .int .u8 a0_4] 45 ?_; intro gb201 hg w3 hbox hb; have BK201 := AX (hbox); have GW201 := gwl (w := w) hg bw; have GE201 := GW201; replace HB := AX (below_step bw hb); clear hb hbox hg; obtain ⟨hcz4_0, hcz4_1, hcz4_2, hcz4_3, hcz4_4⟩ := blkC5 (w := w3) BK201.out; obtain ⟨hfz4_0, hfz4_1, hfz4_2, hfz4_3, hfz4_4⟩ := blkF5 BK201.out))
  go_ret
  exact ⟨by first | rfl | (simp [errW_none, errW_some] <;> rfl) | (simp [*, errW_none, errW_some] <;> rfl), bw⟩
 ·rw [if_neg c2] at H
  have c2b0 : (a0_4 == 65) = false := beq_eq_false_iff_ne.mpr c2
  have c2b1 : (a0_4 != 65) = true := bne_iff_ne.mpr c2
  obtain rfl := Option.some.inj H
  go_enter Try.func39, Try.ntmps39
  go_wp2_with (first | ((with_reducible refine gate_dst (N := 1) rfl ?_); refine bx 1 #[.int .i64 a0_0, .int .i64 a0_1, .int .i64 a0_2, .int .i64 a0_3, .int .u8 a0_4] 45 ?_; intro gb201 hg w5 hbox hb; have BK201 := AX (hbox); have GW201 := gwl (w := w) hg bw; have GE201 := GW201; replace HB := AX (below_step bw hb); clear hb hbox hg; obtain ⟨hcz6_0, hcz6_1, hcz6_2, hcz6_3, hcz6_4⟩ := blkC5 (w := w5) BK201.out; obtain ⟨hfz6_0, hfz6_1, hfz6_2, hfz6_3, hfz6_4⟩ := blkF5 BK201.out))
  go_ret
  exact ⟨by first | rfl | (simp [errW_none, errW_some] <;> rfl) | (simp [*, errW_none, errW_some] <;> rfl), bw⟩

end Go.Proofs.Ythhifeefkmaeiaa.PX
