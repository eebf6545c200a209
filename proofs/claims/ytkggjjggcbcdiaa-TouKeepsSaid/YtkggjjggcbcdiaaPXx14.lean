/- Functions of the program as plain Lean functions, each with a proof that the call in the machine answers just what the plain function says; condition: the plain function answers at all. -/
import Derived.Test.YtkggjjggcbcdiaaPXx0
import Derived.Test.YtkggjjggcbcdiaaPXx7
import Derived.Test.YtkggjjggcbcdiaaPXx8
import Derived.Test.YtkggjjggcbcdiaaPXx11
import Derived.Test.YtkggjjggcbcdiaaPXx13
namespace Go.Proofs.Ytkggjjggcbcdiaa.PX
open Go.RowKit Go.Proofs.YtkggjjggcbcdiaaW.PrintWords Go.Proofs.YtkggjjggcbcdiaaW.PrintLast Go.Proofs.YtkggjjggcbcdiaaW.PrintMore
attribute [local go_sem] max2_int min2_int max_two min_two max_three min_three max_four min_four   -- for this text's walks alone
set_option linter.unusedVariables false
set_option linter.unusedSimpArgs false

/-! ### tou_At: function 25 -/
def tou_At.f (k : Nat) (a0_0 : ByteArray) (a0_1 : Int) (a0_2 : Int) (a0_3 : Int) (a0_4 : Int) (a0_5 : Int) (a0_6 : Int) (a0_7 : Int) (a0_8 : Int) (a0_9 : Int) (a0_10 : Int) (a0_11 : Int) (a0_12 : Int) (a0_13 : Int) (a0_14 : Int) (l0_15 : List (S58)) (l0_16 : List (S65)) (l0_17 : List (S60)) (l0_18 : List (S63)) (a0_19 : Int) (a0_20 : Int) (a0_21 : Int) (a0_22 : Int) (a0_23 : Int) (a0_24 : Int) (a0_25 : Int) (a0_26 : Int) (a0_27 : Int) (a1 : Int) : Option (ByteArray × Int) := (zone_At.f k a0_1 a0_2 a0_3 a0_4 a0_5 a0_6 a0_7 a0_8 a0_9 a0_10 a1).bind fun bt254 => (if bt254.2.2.2.2.2 = 0 then ((tou_Season.f k l0_15 bt254.1 bt254.2.1 bt254.2.2.1).bind fun bt261 => (if bt261.2 = 0 then ((tou_Kind.f k l0_16 bt254.1 bt254.2.1 bt254.2.2.1).bind fun bt263 => (if bt263.2 = 0 then (if 0 ≤ bt261.1 then (if bt261.1 < (l0_15.length : Int) then ((tou_Window.f l0_17 ((rd_T58 l0_15 bt261.1).f0) bt263.1 bt254.2.2.2.1).bind fun bt266 => (if bt266.2 = 0 then (if 0 ≤ bt266.1 then (if bt266.1 < (l0_17.length : Int) then (some ((rd_T60 l0_17 bt266.1).f4, 0)) else (none)) else (none)) else (some ((⟨#[]⟩ : ByteArray), bt266.2)))) else (none)) else (none)) else (some ((⟨#[]⟩ : ByteArray), bt263.2)))) else (some ((⟨#[]⟩ : ByteArray), bt261.2)))) else (some ((⟨#[]⟩ : ByteArray), bt254.2.2.2.2.2)))
theorem tou_At.mono : ∀ a0 a1 a2 a3 a4 a5 a6 a7 a8 a9 a10 a11 a12 a13 a14 a15 a16 a17 a18 a19 a20 a21 a22 a23 a24 a25 a26 a27 a28 k, LeO (tou_At.f k a0 a1 a2 a3 a4 a5 a6 a7 a8 a9 a10 a11 a12 a13 a14 a15 a16 a17 a18 a19 a20 a21 a22 a23 a24 a25 a26 a27 a28) (tou_At.f (k + 1) a0 a1 a2 a3 a4 a5 a6 a7 a8 a9 a10 a11 a12 a13 a14 a15 a16 a17 a18 a19 a20 a21 a22 a23 a24 a25 a26 a27 a28) := by
 intro a0 a1 a2 a3 a4 a5 a6 a7 a8 a9 a10 a11 a12 a13 a14 a15 a16 a17 a18 a19 a20 a21 a22 a23 a24 a25 a26 a27 a28 k
 unfold tou_At.f
 repeat' first
   | (with_reducible exact tou_Kind.mono _ _ _ _ _)
   | (with_reducible exact tou_Season.mono _ _ _ _ _)
   | (with_reducible exact zone_At.mono _ _ _ _ _ _ _ _ _ _ _ _)
   | (with_reducible exact LeO.refl _)
   | (with_reducible exact LeO.none _)
   | (with_reducible refine LeO.ite ?_ ?_)
   | (with_reducible refine LeO.bind ?_ (fun _ => ?_))
def tou_At.T10 : Bool × List (List Nat × List Nat) := (true, [([], []), ([0], [0]), ([], []), ([2], [2]), ([], []), ([3, 4], [3, 4]), ([5], [5]), ([6], [6]), ([], []), ([], []), ([9], [9]), ([1, 7, 8, 10], [1, 7, 8, 10]), ([11], [11]), ([12], [12]), ([12], [12]), ([13, 11, 0, 1, 2, 3, 4, 5, 6, 7, 8, 9, 10, 11, 12, 13], [13]), ([14, 15, 0, 1, 2, 3, 4, 5, 6, 7, 8, 9, 10, 11, 12, 13, 14, 15], [14])])
def tou_At.B10 : List Nat := [0, 1, 0, 4, 0, 28, 60, 124, 0, 0, 512, 2047, 4095, 8191, 8191, 16383, 65535]
theorem tou_At.tab10 : rtab .any (opsOf Try.f25 10) = tou_At.T10 := by kernel_rfl
theorem tou_At.bits10 : waitsOk tou_At.T10.2 tou_At.B10 = true := by kernel_rfl
set_option maxHeartbeats 8000000 in
set_option maxRecDepth 100000 in
theorem tou_At.calls (k : Nat) (a0_0 : ByteArray) (a0_1 : Int) (a0_2 : Int) (a0_3 : Int) (a0_4 : Int) (a0_5 : Int) (a0_6 : Int) (a0_7 : Int) (a0_8 : Int) (a0_9 : Int) (a0_10 : Int) (a0_11 : Int) (a0_12 : Int) (a0_13 : Int) (a0_14 : Int) (A0_15 : Option Addr) (c0_15 : Nat) (l0_15 : List (S58)) (A0_16 : Option Addr) (c0_16 : Nat) (l0_16 : List (S65)) (A0_17 : Option Addr) (c0_17 : Nat) (l0_17 : List (S60)) (A0_18 : Option Addr) (c0_18 : Nat) (l0_18 : List (S63)) (a0_19 : Int) (a0_20 : Int) (a0_21 : Int) (a0_22 : Int) (a0_23 : Int) (a0_24 : Int) (a0_25 : Int) (a0_26 : Int) (a0_27 : Int) (a1 : Int) (r1 : ByteArray) (r2 : Int) (w : World) (hr0_15 : Kd.C k58 w A0_15 l0_15.length l0_15) (hc0_15 : l0_15.length ≤ c0_15) (hr0_16 : Kd.C k65 w A0_16 l0_16.length l0_16) (hc0_16 : l0_16.length ≤ c0_16) (hr0_17 : Kd.C k60 w A0_17 l0_17.length l0_17) (hc0_17 : l0_17.length ≤ c0_17) (hr0_18 : Kd.C k63 w A0_18 l0_18.length l0_18) (hc0_18 : l0_18.length ≤ c0_18) (h : tou_At.f k a0_0 a0_1 a0_2 a0_3 a0_4 a0_5 a0_6 a0_7 a0_8 a0_9 a0_10 a0_11 a0_12 a0_13 a0_14 l0_15 l0_16 l0_17 l0_18 a0_19 a0_20 a0_21 a0_22 a0_23 a0_24 a0_25 a0_26 a0_27 a1 = some (r1, r2)) :
  Calls Try.prog 25 #[.agg #[.string a0_0, .int .i64 a0_1, .int .i64 a0_2, .int .i64 a0_3, .int .i64 a0_4, .int .i64 a0_5, .int .i64 a0_6, .int .i64 a0_7, .int .i64 a0_8, .int .i64 a0_9, .int .i64 a0_10, .int .i64 a0_11, .int .i64 a0_12, .int .i64 a0_13, .int .i64 a0_14, .slice A0_15 l0_15.length c0_15, .slice A0_16 l0_16.length c0_16, .slice A0_17 l0_17.length c0_17, .slice A0_18 l0_18.length c0_18, .int .i64 a0_19, .int .i64 a0_20, .int .i64 a0_21, .int .i64 a0_22, .int .i64 a0_23, .int .i64 a0_24, .int .i64 a0_25, .int .i64 a0_26, .int .i64 a0_27], .int .i64 a1] w fun e w' => e = .returned (.tuple #[.string r1, .int .i64 r2]) ∧ Below w.heap.size w w' := by
 have hu47 := Try.underlying47
 have hu42 := Try.underlying42
 have hu54 := Try.underlying54
 have hu24 := Try.underlying24
 have HR0_15 := AX hr0_15
 have HC0_15 := AX hc0_15
 clear hr0_15 hc0_15
 have HR0_16 := AX hr0_16
 have HC0_16 := AX hc0_16
 clear hr0_16 hc0_16
 have HR0_17 := AX hr0_17
 have HC0_17 := AX hc0_17
 clear hr0_17 hc0_17
 have HR0_18 := AX hr0_18
 have HC0_18 := AX hc0_18
 clear hr0_18 hc0_18
 have HB := AX (Below.refl w.heap.size w)
 have H : ((zone_At.f k a0_1 a0_2 a0_3 a0_4 a0_5 a0_6 a0_7 a0_8 a0_9 a0_10 a1).bind fun bt254 => (if bt254.2.2.2.2.2 = 0 then ((tou_Season.f k l0_15 bt254.1 bt254.2.1 bt254.2.2.1).bind fun bt261 => (if bt261.2 = 0 then ((tou_Kind.f k l0_16 bt254.1 bt254.2.1 bt254.2.2.1).bind fun bt263 => (if bt263.2 = 0 then (if 0 ≤ bt261.1 then (if bt261.1 < (l0_15.length : Int) then ((tou_Window.f l0_17 ((rd_T58 l0_15 bt261.1).f0) bt263.1 bt254.2.2.2.1).bind fun bt266 => (if bt266.2 = 0 then (if 0 ≤ bt266.1 then (if bt266.1 < (l0_17.length : Int) then (some ((rd_T60 l0_17 bt266.1).f4, 0)) else (none)) else (none)) else (some ((⟨#[]⟩ : ByteArray), bt266.2)))) else (none)) else (none)) else (some ((⟨#[]⟩ : ByteArray), bt263.2)))) else (some ((⟨#[]⟩ : ByteArray), bt261.2)))) else (some ((⟨#[]⟩ : ByteArray), bt254.2.2.2.2.2)))) = some (r1, r2) := h
 clear h
 replace H := Option.bind_eq_some_iff.mp H
 obtain ⟨⟨t254, t255, t256, t257, t258, t259⟩, A30, H⟩ := H
 replace H : (if t259 = 0 then ((tou_Season.f k l0_15 t254 t255 t256).bind fun bt261 => (if bt261.2 = 0 then ((tou_Kind.f k l0_16 t254 t255 t256).bind fun bt263 => (if bt263.2 = 0 then (if 0 ≤ bt261.1 then (if bt261.1 < (l0_15.length : Int) then ((tou_Window.f l0_17 ((rd_T58 l0_15 bt261.1).f0) bt263.1 t257).bind fun bt266 => (if bt266.2 = 0 then (if 0 ≤ bt266.1 then (if bt266.1 < (l0_17.length : Int) then (some ((rd_T60 l0_17 bt266.1).f4, 0)) else (none)) else (none)) else (some ((⟨#[]⟩ : ByteArray), bt266.2)))) else (none)) else (none)) else (some ((⟨#[]⟩ : ByteArray), bt263.2)))) else (some ((⟨#[]⟩ : ByteArray), bt261.2)))) else (some ((⟨#[]⟩ : ByteArray), t259))) = some (r1, r2) := H
 have A3 := AX A30
 clear A30
 by_cases c4 : t259 = 0
 ·rw [if_pos c4] at H
  have c4b0 : (t259 == 0) = true := beq_iff_eq.mpr c4
  have c4b1 : (t259 != 0) = false := bne_eq_false_iff_eq.mpr c4
  clear c4
  replace H := Option.bind_eq_some_iff.mp H
  obtain ⟨⟨t261, t262⟩, A50, H⟩ := H
  replace H : (if t262 = 0 then ((tou_Kind.f k l0_16 t254 t255 t256).bind fun bt263 => (if bt263.2 = 0 then (if 0 ≤ t261 then (if t261 < (l0_15.length : Int) then ((tou_Window.f l0_17 ((rd_T58 l0_15 t261).f0) bt263.1 t257).bind fun bt266 => (if bt266.2 = 0 then (if 0 ≤ bt266.1 then (if bt266.1 < (l0_17.length : Int) then (some ((rd_T60 l0_17 bt266.1).f4, 0)) else (none)) else (none)) else (some ((⟨#[]⟩ : ByteArray), bt266.2)))) else (none)) else (none)) else (some ((⟨#[]⟩ : ByteArray), bt263.2)))) else (some ((⟨#[]⟩ : ByteArray), t262))) = some (r1, r2) := H
  have A5 := AX A50
  clear A50
  by_cases c6 : t262 = 0
  ·rw [if_pos c6] at H
   have c6b0 : (t262 == 0) = true := beq_iff_eq.mpr c6
   have c6b1 : (t262 != 0) = false := bne_eq_false_iff_eq.mpr c6
   clear c6
   replace H := Option.bind_eq_some_iff.mp H
   obtain ⟨⟨t263, t264⟩, A70, H⟩ := H
   replace H : (if t264 = 0 then (if 0 ≤ t261 then (if t261 < (l0_15.length : Int) then ((tou_Window.f l0_17 ((rd_T58 l0_15 t261).f0) t263 t257).bind fun bt266 => (if bt266.2 = 0 then (if 0 ≤ bt266.1 then (if bt266.1 < (l0_17.length : Int) then (some ((rd_T60 l0_17 bt266.1).f4, 0)) else (none)) else (none)) else (some ((⟨#[]⟩ : ByteArray), bt266.2)))) else (none)) else (none)) else (some ((⟨#[]⟩ : ByteArray), t264))) = some (r1, r2) := H
   have A7 := AX A70
   clear A70
   by_cases c8 : t264 = 0
   ·rw [if_pos c8] at H
    have c8b0 : (t264 == 0) = true := beq_iff_eq.mpr c8
    have c8b1 : (t264 != 0) = false := bne_eq_false_iff_eq.mpr c8
    clear c8
    by_cases c9 : 0 ≤ t261
    ·rw [if_pos c9] at H
     have c9b0 : decide (0 ≤ t261) = true := decide_eq_true c9
     clear c9
     by_cases c10 : t261 < (l0_15.length : Int)
     ·rw [if_pos c10] at H
      have c10b0 : decide (t261 < (l0_15.length : Int)) = true := decide_eq_true c10
      clear c10
      replace H := Option.bind_eq_some_iff.mp H
      obtain ⟨⟨t266, t267⟩, A110, H⟩ := H
      replace H : (if t267 = 0 then (if 0 ≤ t266 then (if t266 < (l0_17.length : Int) then (some ((rd_T60 l0_17 t266).f4, 0)) else (none)) else (none)) else (some ((⟨#[]⟩ : ByteArray), t267))) = some (r1, r2) := H
      have A11 := AX A110
      clear A110
      by_cases c12 : t267 = 0
      ·rw [if_pos c12] at H
       have c12b0 : (t267 == 0) = true := beq_iff_eq.mpr c12
       have c12b1 : (t267 != 0) = false := bne_eq_false_iff_eq.mpr c12
       clear c12
       by_cases c13 : 0 ≤ t266
       ·rw [if_pos c13] at H
        have c13b0 : decide (0 ≤ t266) = true := decide_eq_true c13
        clear c13
        by_cases c14 : t266 < (l0_17.length : Int)
        ·rw [if_pos c14] at H
         have c14b0 : decide (t266 < (l0_17.length : Int)) = true := decide_eq_true c14
         clear c14
         simp only [Option.some.injEq, Prod.mk.injEq] at H
         obtain ⟨rfl, rfl⟩ := H
         go_enter Try.func25, Try.ntmps25
         try go_wp2_with (first | ((with_reducible refine gate_dst (N := 2) rfl ?_); refine bx 2 #[.string a0_0, .int .i64 a0_1, .int .i64 a0_2, .int .i64 a0_3, .int .i64 a0_4, .int .i64 a0_5, .int .i64 a0_6, .int .i64 a0_7, .int .i64 a0_8, .int .i64 a0_9, .int .i64 a0_10, .int .i64 a0_11, .int .i64 a0_12, .int .i64 a0_13, .int .i64 a0_14, .slice A0_15 l0_15.length c0_15, .slice A0_16 l0_16.length c0_16, .slice A0_17 l0_17.length c0_17, .slice A0_18 l0_18.length c0_18, .int .i64 a0_19, .int .i64 a0_20, .int .i64 a0_21, .int .i64 a0_22, .int .i64 a0_23, .int .i64 a0_24, .int .i64 a0_25, .int .i64 a0_26, .int .i64 a0_27] 47 ?_; intro gb253 hg w15 hbox hb; have BK253 := AX (hbox); have GW253 := gwl (w := w) hg bw; have GE253 := GW253; replace HB := AX (below_step bw hb); clear hb hbox hg; obtain ⟨hcz16_0, hcz16_1, hcz16_2, hcz16_3, hcz16_4, hcz16_5, hcz16_6, hcz16_7, hcz16_8, hcz16_9, hcz16_10, hcz16_11, hcz16_12, hcz16_13, hcz16_14, hcz16_15, hcz16_16, hcz16_17, hcz16_18, hcz16_19, hcz16_20, hcz16_21, hcz16_22, hcz16_23, hcz16_24, hcz16_25, hcz16_26, hcz16_27⟩ := blkC28 (w := w15) BK253.out; obtain ⟨hfz16_0, hfz16_1, hfz16_2, hfz16_3, hfz16_4, hfz16_5, hfz16_6, hfz16_7, hfz16_8, hfz16_9, hfz16_10, hfz16_11, hfz16_12, hfz16_13, hfz16_14, hfz16_15, hfz16_16, hfz16_17, hfz16_18, hfz16_19, hfz16_20, hfz16_21, hfz16_22, hfz16_23, hfz16_24, hfz16_25, hfz16_26, hfz16_27⟩ := blkF28 BK253.out) | ((with_reducible refine gate_callee (f := 50) rfl ?_); refine gL (some 15) Try.func50 #[.agg #[.int .i64 a0_1, .int .i64 a0_2, .int .i64 a0_3, .int .i64 a0_4, .int .i64 a0_5, .int .i64 a0_6, .int .i64 a0_7, .int .i64 a0_8, .int .i64 a0_9, .int .i64 a0_10], .int .i64 a1] ?_; (with_reducible refine (zone_At.calls k a0_1 a0_2 a0_3 a0_4 a0_5 a0_6 a0_7 a0_8 a0_9 a0_10 a1 t254 t255 t256 t257 t258 t259 _ A3.out).mono ?_); rintro e w17 ⟨rfl, hb⟩; refine ⟨_, rfl, ?_⟩; replace BK253 := AX (bkb BK253 hb); replace HB := AX (below_step bw hb); (try clear hb)) | ((with_reducible refine gate_dst (N := 6) rfl ?_); refine bx 6 #[.int .i64 0, .int .i64 0, .int .i64 0, .int .i64 0, .int .i64 0] 54 ?_; intro gb260 hg w18 hbox hb; have BK260 := AX (hbox); have GW260 := gwl (w := w) hg bw; have GE260 := GW260; have NB253_260 := nbl hg (bkn BK253); have NB260_253 := nbg hg (bkn BK253); replace BK253 := AX (bkb BK253 hb); replace HB := AX (below_step bw hb); clear hb hbox hg; have hnb19 := NB260_253.out; have hnc19 := NB253_260.out; obtain ⟨hcz20_0, hcz20_1, hcz20_2, hcz20_3, hcz20_4⟩ := blkC5 (w := w18) BK260.out; obtain ⟨hfz20_0, hfz20_1, hfz20_2, hfz20_3, hfz20_4⟩ := blkF5 BK260.out; obtain ⟨hcz21_0, hcz21_1, hcz21_2, hcz21_3, hcz21_4, hcz21_5, hcz21_6, hcz21_7, hcz21_8, hcz21_9, hcz21_10, hcz21_11, hcz21_12, hcz21_13, hcz21_14, hcz21_15, hcz21_16, hcz21_17, hcz21_18, hcz21_19, hcz21_20, hcz21_21, hcz21_22, hcz21_23, hcz21_24, hcz21_25, hcz21_26, hcz21_27⟩ := blkC28 (w := w18) BK253.out; obtain ⟨hfz21_0, hfz21_1, hfz21_2, hfz21_3, hfz21_4, hfz21_5, hfz21_6, hfz21_7, hfz21_8, hfz21_9, hfz21_10, hfz21_11, hfz21_12, hfz21_13, hfz21_14, hfz21_15, hfz21_16, hfz21_17, hfz21_18, hfz21_19, hfz21_20, hfz21_21, hfz21_22, hfz21_23, hfz21_24, hfz21_25, hfz21_26, hfz21_27⟩ := blkF28 BK253.out) | ((with_reducible refine gate_callee (f := 23) rfl ?_); refine gL (some 26) Try.func23 #[.slice A0_15 l0_15.length c0_15, .agg #[.int .i64 t254, .int .i64 t255, .int .i64 t256]] ?_; (with_reducible refine (tou_Season.calls k _ _ l0_15 t254 t255 t256 t261 t262 _ ?side1 ?side2 A5.out).mono ?_); (case side1 => exact Kd.C_below HR0_15.out bw); (case side2 => exact HC0_15.out); rintro e w22 ⟨rfl, hb⟩; refine ⟨_, rfl, ?_⟩; replace BK253 := AX (blk_below (g := gb253) (o := .cells #[.string a0_0, .int .i64 a0_1, .int .i64 a0_2, .int .i64 a0_3, .int .i64 a0_4, .int .i64 a0_5, .int .i64 a0_6, .int .i64 a0_7, .int .i64 a0_8, .int .i64 a0_9, .int .i64 a0_10, .int .i64 a0_11, .int .i64 a0_12, .int .i64 a0_13, .int .i64 a0_14, .slice A0_15 l0_15.length c0_15, .slice A0_16 l0_16.length c0_16, .slice A0_17 l0_17.length c0_17, .slice A0_18 l0_18.length c0_18, .int .i64 a0_19, .int .i64 a0_20, .int .i64 a0_21, .int .i64 a0_22, .int .i64 a0_23, .int .i64 a0_24, .int .i64 a0_25, .int .i64 a0_26, .int .i64 a0_27] 47 (0, 0)) (by (with_reducible repeat first|refine blk_drewN ?_ _|refine blk_drew ?_|refine blk_alloc ?_ _|refine blk_far ?_ NB253_260.out _); exact BK253.out) hb); replace BK260 := AX (blk_below (g := gb260) (o := .cells #[.int .i64 t254, .int .i64 t255, .int .i64 t256, .int .i64 t257, .int .i64 t258] 54 (0, 0)) (by (with_reducible repeat first|refine blk_drewN ?_ _|refine blk_drew ?_|refine blk_alloc ?_ _); refine blk_put (cs := #[.int .i64 t254, .int .i64 t255, .int .i64 t256, .int .i64 t257, .int .i64 0]) ?_ 4 _ rfl; (with_reducible repeat first|refine blk_drewN ?_ _|refine blk_drew ?_|refine blk_alloc ?_ _); refine blk_put (cs := #[.int .i64 t254, .int .i64 t255, .int .i64 t256, .int .i64 0, .int .i64 0]) ?_ 3 _ rfl; (with_reducible repeat first|refine blk_drewN ?_ _|refine blk_drew ?_|refine blk_alloc ?_ _); refine blk_put (cs := #[.int .i64 t254, .int .i64 t255, .int .i64 0, .int .i64 0, .int .i64 0]) ?_ 2 _ rfl; (with_reducible repeat first|refine blk_drewN ?_ _|refine blk_drew ?_|refine blk_alloc ?_ _); refine blk_put (cs := #[.int .i64 t254, .int .i64 0, .int .i64 0, .int .i64 0, .int .i64 0]) ?_ 1 _ rfl; (with_reducible repeat first|refine blk_drewN ?_ _|refine blk_drew ?_|refine blk_alloc ?_ _); refine blk_put (cs := #[.int .i64 0, .int .i64 0, .int .i64 0, .int .i64 0, .int .i64 0]) ?_ 0 _ rfl; (with_reducible repeat first|refine blk_drewN ?_ _|refine blk_drew ?_|refine blk_alloc ?_ _); exact BK260.out) hb); replace HB := AX (below_step bw hb); (try clear hb); obtain ⟨hcz23_0, hcz23_1, hcz23_2, hcz23_3, hcz23_4, hcz23_5, hcz23_6, hcz23_7, hcz23_8, hcz23_9, hcz23_10, hcz23_11, hcz23_12, hcz23_13, hcz23_14, hcz23_15, hcz23_16, hcz23_17, hcz23_18, hcz23_19, hcz23_20, hcz23_21, hcz23_22, hcz23_23, hcz23_24, hcz23_25, hcz23_26, hcz23_27⟩ := blkC28 (w := w22) BK253.out; obtain ⟨hfz23_0, hfz23_1, hfz23_2, hfz23_3, hfz23_4, hfz23_5, hfz23_6, hfz23_7, hfz23_8, hfz23_9, hfz23_10, hfz23_11, hfz23_12, hfz23_13, hfz23_14, hfz23_15, hfz23_16, hfz23_17, hfz23_18, hfz23_19, hfz23_20, hfz23_21, hfz23_22, hfz23_23, hfz23_24, hfz23_25, hfz23_26, hfz23_27⟩ := blkF28 BK253.out; obtain ⟨hcz24_0, hcz24_1, hcz24_2, hcz24_3, hcz24_4⟩ := blkC5 (w := w22) BK260.out; obtain ⟨hfz24_0, hfz24_1, hfz24_2, hfz24_3, hfz24_4⟩ := blkF5 BK260.out) | ((with_reducible refine gate_callee (f := 17) rfl ?_); refine gL (some 37) Try.func17 #[.slice A0_16 l0_16.length c0_16, .agg #[.int .i64 t254, .int .i64 t255, .int .i64 t256]] ?_; (with_reducible refine (tou_Kind.calls k _ _ l0_16 t254 t255 t256 t263 t264 _ ?side1 ?side2 A7.out).mono ?_); (case side1 => repeat (first | exact (Kd.C_below HR0_16.out HB.out) | (with_reducible refine Kd.C_alloc ?_ _) | (with_reducible refine Kd.C_drewN ?_ _) | (with_reducible refine Kd.C_drew ?_))); (case side2 => exact HC0_16.out); rintro e w25 ⟨rfl, hb⟩; refine ⟨_, rfl, ?_⟩; replace BK253 := AX (bkb BK253 hb); replace BK260 := AX (bkb BK260 hb); replace HB := AX (below_step bw hb); (try clear hb); (try clear hb2); (try clear hk); (try clear hi)))
         have n0_ := AX (blk_drew BK253.out)
         have n1_ := AX (blk_drew BK260.out)
         have n2_ := AX (below_drew1 HB.out)
         clear BK253
         clear BK260
         clear HB
         have BK253 := n0_
         have BK260 := n1_
         have HB := n2_
         clear n0_ n1_ n2_
         have p265 : 0 ≤ (t261 : Int) := of_decide_eq_true (by first | (with_reducible assumption) | assumption)
         have q265 : t261 < (l0_15.length : Int) := of_decide_eq_true (by first | (with_reducible assumption) | assumption)
         obtain ⟨ad265, e265, hx265_0, hx265_1, hx265_2⟩ := at_T58 HR0_15.out t261 p265 q265
         have hw265_2 := hx265_2
         have hw265_1 := hx265_1
         have hw265_0 := hx265_0
         cases e265
         replace hx265_0 := bcl HB hx265_0
         replace hx265_1 := bcl HB hx265_1
         replace hx265_2 := bcl HB hx265_2
         replace p265 := eq_true p265
         replace q265 := eq_true q265
         refine start_ (n := 17) (S := fun w' => w'.cell? ⟨gb253, 0, none⟩ = some (.string a0_0) ∧ w'.cell? ⟨gb253, 1, none⟩ = some (.int .i64 a0_1) ∧ w'.cell? ⟨gb253, 2, none⟩ = some (.int .i64 a0_2) ∧ w'.cell? ⟨gb253, 3, none⟩ = some (.int .i64 a0_3) ∧ w'.cell? ⟨gb253, 4, none⟩ = some (.int .i64 a0_4) ∧ w'.cell? ⟨gb253, 5, none⟩ = some (.int .i64 a0_5) ∧ w'.cell? ⟨gb253, 6, none⟩ = some (.int .i64 a0_6) ∧ w'.cell? ⟨gb253, 7, none⟩ = some (.int .i64 a0_7) ∧ w'.cell? ⟨gb253, 8, none⟩ = some (.int .i64 a0_8) ∧ w'.cell? ⟨gb253, 9, none⟩ = some (.int .i64 a0_9) ∧ w'.cell? ⟨gb253, 10, none⟩ = some (.int .i64 a0_10) ∧ w'.cell? ⟨gb253, 11, none⟩ = some (.int .i64 a0_11) ∧ w'.cell? ⟨gb253, 12, none⟩ = some (.int .i64 a0_12) ∧ w'.cell? ⟨gb253, 13, none⟩ = some (.int .i64 a0_13) ∧ w'.cell? ⟨gb253, 14, none⟩ = some (.int .i64 a0_14) ∧ w'.cell? ⟨gb253, 15, none⟩ = some (.slice (some ad265) l0_15.length c0_15) ∧ w'.cell? ⟨gb253, 16, none⟩ = some (.slice A0_16 l0_16.length c0_16) ∧ w'.cell? ⟨gb253, 17, none⟩ = some (.slice A0_17 l0_17.length c0_17) ∧ w'.cell? ⟨gb253, 18, none⟩ = some (.slice A0_18 l0_18.length c0_18) ∧ w'.cell? ⟨gb253, 19, none⟩ = some (.int .i64 a0_19) ∧ w'.cell? ⟨gb253, 20, none⟩ = some (.int .i64 a0_20) ∧ w'.cell? ⟨gb253, 21, none⟩ = some (.int .i64 a0_21) ∧ w'.cell? ⟨gb253, 22, none⟩ = some (.int .i64 a0_22) ∧ w'.cell? ⟨gb253, 23, none⟩ = some (.int .i64 a0_23) ∧ w'.cell? ⟨gb253, 24, none⟩ = some (.int .i64 a0_24) ∧ w'.cell? ⟨gb253, 25, none⟩ = some (.int .i64 a0_25) ∧ w'.cell? ⟨gb253, 26, none⟩ = some (.int .i64 a0_26) ∧ w'.cell? ⟨gb253, 27, none⟩ = some (.int .i64 a0_27) ∧ w'.cell? ⟨gb260, 0, none⟩ = some (.int .i64 t254) ∧ w'.cell? ⟨gb260, 1, none⟩ = some (.int .i64 t255) ∧ w'.cell? ⟨gb260, 2, none⟩ = some (.int .i64 t256) ∧ w'.cell? ⟨gb260, 3, none⟩ = some (.int .i64 t257) ∧ w'.cell? ⟨gb260, 4, none⟩ = some (.int .i64 t258) ∧ w'.cell? (ad265.add ((t261).toNat * 3)) = some (.string ((rd_T58 l0_15 t261).f0)) ∧ w'.cell? ⟨(ad265.add ((t261).toNat * 3)).block, (ad265.add ((t261).toNat * 3)).off + 1, none⟩ = some (.int .i64 ((rd_T58 l0_15 t261).f1)) ∧ w'.cell? ⟨(ad265.add ((t261).toNat * 3)).block, (ad265.add ((t261).toNat * 3)).off + 2, none⟩ = some (.int .i64 ((rd_T58 l0_15 t261).f2))) (ds := []) #[false, false, false, false, false, false, false, false, false, false, false, false, false, false, false, false, false] (by kernel_rfl) rfl rfl ⟨(blk_cell BK253.out 0).trans rfl, (blk_cell BK253.out 1).trans rfl, (blk_cell BK253.out 2).trans rfl, (blk_cell BK253.out 3).trans rfl, (blk_cell BK253.out 4).trans rfl, (blk_cell BK253.out 5).trans rfl, (blk_cell BK253.out 6).trans rfl, (blk_cell BK253.out 7).trans rfl, (blk_cell BK253.out 8).trans rfl, (blk_cell BK253.out 9).trans rfl, (blk_cell BK253.out 10).trans rfl, (blk_cell BK253.out 11).trans rfl, (blk_cell BK253.out 12).trans rfl, (blk_cell BK253.out 13).trans rfl, (blk_cell BK253.out 14).trans rfl, (blk_cell BK253.out 15).trans rfl, (blk_cell BK253.out 16).trans rfl, (blk_cell BK253.out 17).trans rfl, (blk_cell BK253.out 18).trans rfl, (blk_cell BK253.out 19).trans rfl, (blk_cell BK253.out 20).trans rfl, (blk_cell BK253.out 21).trans rfl, (blk_cell BK253.out 22).trans rfl, (blk_cell BK253.out 23).trans rfl, (blk_cell BK253.out 24).trans rfl, (blk_cell BK253.out 25).trans rfl, (blk_cell BK253.out 26).trans rfl, (blk_cell BK253.out 27).trans rfl, (blk_cell BK260.out 0).trans rfl, (blk_cell BK260.out 1).trans rfl, (blk_cell BK260.out 2).trans rfl, (blk_cell BK260.out 3).trans rfl, (blk_cell BK260.out 4).trans rfl, (bcl HB hw265_0), (bcl HB hw265_1), (bcl HB hw265_2)⟩ (fun hHeld => ?_); refine with_tabW tou_At.tab10 tou_At.bits10 (fun HT_ HW_ => ?_)
         generalize w25.drew = w26 at BK253 BK260 HB hx265_0 hx265_1 hx265_2 hHeld ⊢
         refine pure_ (i := 0) (N := some 44) (v := ?_) (a' := ?_) #[true, false, false, false, false, false, false, false, false, false, false, false, false, false, false, false, false] rfl rfl (any_of HT_.out (by kernel_rfl)) (fun _ _ _ h => h) (Or.inl ⟨by rfl, ?_⟩) ?_ ?_
         rotate_left
         ·intro w'
          go_simp
          with_reducible rfl
         rotate_left
         ·simp only [Act.put, List.setIfInBounds_toArray, List.set_cons_zero, List.set_cons_succ, i64_w, i32_w]
          rfl
         refine pure_ (i := 2) (N := some 46) (v := ?_) (a' := ?_) #[true, false, true, false, false, false, false, false, false, false, false, false, false, false, false, false, false] rfl rfl (any_of HT_.out (by kernel_rfl)) (fun _ _ _ h => h) (Or.inl ⟨by rfl, ?_⟩) ?_ ?_
         rotate_left
         ·intro w'
          go_simp
          with_reducible rfl
         rotate_left
         ·simp only [Act.put, List.setIfInBounds_toArray, List.set_cons_zero, List.set_cons_succ, i64_w, i32_w]
          rfl
         refine pure_ (i := 4) (N := some 48) (v := ?_) (a' := ?_) #[true, false, true, false, true, false, false, false, false, false, false, false, false, false, false, false, false] rfl rfl (any_of HT_.out (by kernel_rfl)) (fun _ _ _ h => h) (Or.inl ⟨by rfl, ?_⟩) ?_ ?_
         rotate_left
         ·intro w'
          go_simp
          with_reducible rfl
         rotate_left
         ·simp only [Act.put, List.setIfInBounds_toArray, List.set_cons_zero, List.set_cons_succ, i64_w, i32_w]
          rfl
         refine pure_ (i := 8) (N := some 52) (v := ?_) (a' := ?_) #[true, false, true, false, true, false, false, false, true, false, false, false, false, false, false, false, false] rfl rfl (any_of HT_.out (by kernel_rfl)) (fun _ _ _ h => h) (Or.inl ⟨by rfl, ?_⟩) ?_ ?_
         rotate_left
         ·intro w'
          go_simp
          with_reducible rfl
         rotate_left
         ·simp only [Act.put, List.setIfInBounds_toArray, List.set_cons_zero, List.set_cons_succ, i64_w, i32_w]
          rfl
         refine pure_ (i := 9) (N := some 53) (v := ?_) (a' := ?_) #[true, false, true, false, true, false, false, false, true, true, false, false, false, false, false, false, false] rfl rfl (any_of HT_.out (by kernel_rfl)) (fun _ _ _ h => h) (Or.inl ⟨by rfl, ?_⟩) ?_ ?_
         rotate_left
         ·intro w'
          go_simp
          with_reducible rfl
         rotate_left
         ·simp only [Act.put, List.setIfInBounds_toArray, List.set_cons_zero, List.set_cons_succ, i64_w, i32_w]
          rfl
         refine take_ (i := 1) (N := some 45) (v := ?_) (a' := ?_) #[true, true, true, false, true, false, false, false, true, true, false, false, false, false, false, false, false] rfl rfl (take_ofW HT_.out HW_.out (by kernel_rfl)) (fun _ _ _ h => h) (Or.inl ⟨by rfl, ?_⟩) hHeld ?_ ?_
         rotate_left
         ·rintro w' ⟨s0, s1, s2, s3, s4, s5, s6, s7, s8, s9, s10, s11, s12, s13, s14, s15, s16, s17, s18, s19, s20, s21, s22, s23, s24, s25, s26, s27, s28, s29, s30, s31, s32, s33, s34, s35⟩
          go_simp
          with_reducible rfl
         rotate_left
         ·simp only [Act.put, List.setIfInBounds_toArray, List.set_cons_zero, List.set_cons_succ, i64_w, i32_w]
          rfl
         refine take_ (i := 3) (N := some 47) (v := ?_) (a' := ?_) #[true, true, true, true, true, false, false, false, true, true, false, false, false, false, false, false, false] rfl rfl (take_ofW HT_.out HW_.out (by kernel_rfl)) (fun _ _ _ h => h) (Or.inl ⟨by rfl, ?_⟩) hHeld ?_ ?_
         rotate_left
         ·rintro w' ⟨s0, s1, s2, s3, s4, s5, s6, s7, s8, s9, s10, s11, s12, s13, s14, s15, s16, s17, s18, s19, s20, s21, s22, s23, s24, s25, s26, s27, s28, s29, s30, s31, s32, s33, s34, s35⟩
          go_simp
          with_reducible rfl
         rotate_left
         ·simp only [Act.put, List.setIfInBounds_toArray, List.set_cons_zero, List.set_cons_succ, i64_w, i32_w]
          rfl
         refine pure_ (i := 5) (N := some 49) (v := ?_) (a' := ?_) #[true, true, true, true, true, true, false, false, true, true, false, false, false, false, false, false, false] rfl rfl (any_of HT_.out (by kernel_rfl)) (fun _ _ _ h => h) (Or.inl ⟨by rfl, ?_⟩) ?_ ?_
         rotate_left
         ·intro w'
          go_simp
          with_reducible rfl
         rotate_left
         ·simp only [Act.put, List.setIfInBounds_toArray, List.set_cons_zero, List.set_cons_succ, i64_w, i32_w]
          rfl
         refine pure_ (i := 6) (N := some 50) (v := ?_) (a' := ?_) #[true, true, true, true, true, true, true, false, true, true, false, false, false, false, false, false, false] rfl rfl (any_of HT_.out (by kernel_rfl)) (fun _ _ _ h => h) (Or.inl ⟨by rfl, ?_⟩) ?_ ?_
         rotate_left
         ·intro w'
          go_simp
          with_reducible rfl
         rotate_left
         ·simp only [Act.put, List.setIfInBounds_toArray, List.set_cons_zero, List.set_cons_succ, i64_w, i32_w]
          rfl
         refine take_ (i := 7) (N := some 51) (v := ?_) (a' := ?_) #[true, true, true, true, true, true, true, true, true, true, false, false, false, false, false, false, false] rfl rfl (take_ofW HT_.out HW_.out (by kernel_rfl)) (fun _ _ _ h => h) (Or.inl ⟨by rfl, ?_⟩) hHeld ?_ ?_
         rotate_left
         ·rintro w' ⟨s0, s1, s2, s3, s4, s5, s6, s7, s8, s9, s10, s11, s12, s13, s14, s15, s16, s17, s18, s19, s20, s21, s22, s23, s24, s25, s26, s27, s28, s29, s30, s31, s32, s33, s34, s35⟩
          go_simp
          with_reducible rfl
         rotate_left
         ·simp only [Act.put, List.setIfInBounds_toArray, List.set_cons_zero, List.set_cons_succ, i64_w, i32_w]
          rfl
         refine take_ (i := 10) (N := some 54) (v := ?_) (a' := ?_) #[true, true, true, true, true, true, true, true, true, true, true, false, false, false, false, false, false] rfl rfl (take_ofW HT_.out HW_.out (by kernel_rfl)) (fun _ _ _ h => h) (Or.inl ⟨by rfl, ?_⟩) hHeld ?_ ?_
         rotate_left
         ·rintro w' ⟨s0, s1, s2, s3, s4, s5, s6, s7, s8, s9, s10, s11, s12, s13, s14, s15, s16, s17, s18, s19, s20, s21, s22, s23, s24, s25, s26, s27, s28, s29, s30, s31, s32, s33, s34, s35⟩
          go_simp
          with_reducible rfl
         rotate_left
         ·simp only [Act.put, List.setIfInBounds_toArray, List.set_cons_zero, List.set_cons_succ, i64_w, i32_w]
          rfl
         refine one_ (i := 11) (N := some 55) #[true, true, true, true, true, true, true, true, true, true, true, true, false, false, false, false, false] rfl rfl (one_of HT_.out (by kernel_rfl)) (by decide) (fun K hK => ?_)
         refine goes_ Try.func21 (by kernel_rfl) rfl #[.slice A0_17 l0_17.length c0_17, .string ((rd_T58 l0_15 t261).f0), .int .i64 t263, .int .i64 t257] (by rfl) rfl rfl (by (try simp only [List.map_toArray, List.map_cons, List.map_nil]); first | done | rfl | (simp only [List.length_drop, List.length_take]; rfl)) ?_
         with_reducible refine (tou_Window.calls _ _ l0_17 ((rd_T58 l0_15 t261).f0) t263 t257 t266 t267 _ ?side1 ?side2 A11.out).mono ?_
         (case side1 => repeat (first | exact (Kd.C_below HR0_17.out HB.out) | (with_reducible refine Kd.C_alloc ?_ _) | (with_reducible refine Kd.C_drewN ?_ _) | (with_reducible refine Kd.C_drew ?_)))
         (case side2 => exact HC0_17.out)
         rintro e w27 ⟨rfl, hb⟩
         refine ⟨_, rfl, ?_⟩
         have n0_ := AX (bkb BK253 hb)
         have n1_ := AX (bkb BK260 hb)
         have n2_ := AX (below_step bw hb)
         clear BK253
         clear BK260
         clear HB
         have BK253 := n0_
         have BK260 := n1_
         have HB := n2_
         clear n0_ n1_ n2_
         (try clear hb)
         (try clear hb2)
         (try clear hk)
         (try clear hi)
         refine hK.out _ _ ⟨(blk_cell BK253.out 0).trans rfl, (blk_cell BK253.out 1).trans rfl, (blk_cell BK253.out 2).trans rfl, (blk_cell BK253.out 3).trans rfl, (blk_cell BK253.out 4).trans rfl, (blk_cell BK253.out 5).trans rfl, (blk_cell BK253.out 6).trans rfl, (blk_cell BK253.out 7).trans rfl, (blk_cell BK253.out 8).trans rfl, (blk_cell BK253.out 9).trans rfl, (blk_cell BK253.out 10).trans rfl, (blk_cell BK253.out 11).trans rfl, (blk_cell BK253.out 12).trans rfl, (blk_cell BK253.out 13).trans rfl, (blk_cell BK253.out 14).trans rfl, (blk_cell BK253.out 15).trans rfl, (blk_cell BK253.out 16).trans rfl, (blk_cell BK253.out 17).trans rfl, (blk_cell BK253.out 18).trans rfl, (blk_cell BK253.out 19).trans rfl, (blk_cell BK253.out 20).trans rfl, (blk_cell BK253.out 21).trans rfl, (blk_cell BK253.out 22).trans rfl, (blk_cell BK253.out 23).trans rfl, (blk_cell BK253.out 24).trans rfl, (blk_cell BK253.out 25).trans rfl, (blk_cell BK253.out 26).trans rfl, (blk_cell BK253.out 27).trans rfl, (blk_cell BK260.out 0).trans rfl, (blk_cell BK260.out 1).trans rfl, (blk_cell BK260.out 2).trans rfl, (blk_cell BK260.out 3).trans rfl, (blk_cell BK260.out 4).trans rfl, (bcl HB hw265_0), (bcl HB hw265_1), (bcl HB hw265_2)⟩ (fun hHeld => ?_)
         clear hK K
         refine norm_ (a' := ?_) ?_ ?_
         rotate_left
         ·show Act.put _ (some 55) _ = _
          simp only [Act.put, List.setIfInBounds_toArray, List.set_cons_zero, List.set_cons_succ, i64_w, i32_w]
          rfl
         refine pure_ (i := 12) (N := some 43) (v := ?_) (a' := ?_) #[true, true, true, true, true, true, true, true, true, true, true, true, true, false, false, false, false] rfl rfl (any_of HT_.out (by kernel_rfl)) (fun _ _ _ h => h) (Or.inl ⟨by rfl, ?_⟩) ?_ ?_
         rotate_left
         ·intro w'
          go_simp
          with_reducible rfl
         rotate_left
         ·simp only [Act.put, List.setIfInBounds_toArray, List.set_cons_zero, List.set_cons_succ, i64_w, i32_w]
          rfl
         refine pure_ (i := 13) (N := some 56) (v := ?_) (a' := ?_) #[true, true, true, true, true, true, true, true, true, true, true, true, true, true, false, false, false] rfl rfl (any_of HT_.out (by kernel_rfl)) (fun _ _ _ h => h) (Or.inl ⟨by rfl, ?_⟩) ?_ ?_
         rotate_left
         ·intro w'
          go_simp
          with_reducible rfl
         rotate_left
         ·simp only [Act.put, List.setIfInBounds_toArray, List.set_cons_zero, List.set_cons_succ, i64_w, i32_w]
          rfl
         refine pure_ (i := 14) (N := some 57) (v := ?_) (a' := ?_) #[true, true, true, true, true, true, true, true, true, true, true, true, true, true, true, false, false] rfl rfl (any_of HT_.out (by kernel_rfl)) (fun _ _ _ h => h) (Or.inl ⟨by rfl, ?_⟩) ?_ ?_
         rotate_left
         ·intro w'
          go_simp
          with_reducible rfl
         rotate_left
         ·simp only [Act.put, List.setIfInBounds_toArray, List.set_cons_zero, List.set_cons_succ, i64_w, i32_w]
          rfl
         refine pure_ (i := 15) (N := some 10) (v := ?_) (a' := ?_) #[true, true, true, true, true, true, true, true, true, true, true, true, true, true, true, true, false] rfl rfl (any_of HT_.out (by kernel_rfl)) (fun _ _ _ h => h) (Or.inl ⟨by rfl, ?_⟩) ?_ ?_
         rotate_left
         ·intro w'
          go_simp
          with_reducible rfl
         rotate_left
         ·simp only [Act.put, List.setIfInBounds_toArray, List.set_cons_zero, List.set_cons_succ, i64_w, i32_w]
          rfl
         refine pure_ (i := 16) (N := some 7) (v := ?_) (a' := ?_) #[true, true, true, true, true, true, true, true, true, true, true, true, true, true, true, true, true] rfl rfl (any_of HT_.out (by kernel_rfl)) (fun _ _ _ h => h) (Or.inl ⟨by rfl, ?_⟩) ?_ ?_
         rotate_left
         ·intro w'
          go_simp
          with_reducible rfl
         rotate_left
         ·simp only [Act.put, List.setIfInBounds_toArray, List.set_cons_zero, List.set_cons_succ, i64_w, i32_w]
          rfl
         refine done_ (done_of HT_.out (by kernel_rfl)) ?_
         obtain ⟨hcz28_0, hcz28_1, hcz28_2, hcz28_3, hcz28_4, hcz28_5, hcz28_6, hcz28_7, hcz28_8, hcz28_9, hcz28_10, hcz28_11, hcz28_12, hcz28_13, hcz28_14, hcz28_15, hcz28_16, hcz28_17, hcz28_18, hcz28_19, hcz28_20, hcz28_21, hcz28_22, hcz28_23, hcz28_24, hcz28_25, hcz28_26, hcz28_27⟩ := blkC28 (w := w27) BK253.out
         obtain ⟨hfz28_0, hfz28_1, hfz28_2, hfz28_3, hfz28_4, hfz28_5, hfz28_6, hfz28_7, hfz28_8, hfz28_9, hfz28_10, hfz28_11, hfz28_12, hfz28_13, hfz28_14, hfz28_15, hfz28_16, hfz28_17, hfz28_18, hfz28_19, hfz28_20, hfz28_21, hfz28_22, hfz28_23, hfz28_24, hfz28_25, hfz28_26, hfz28_27⟩ := blkF28 BK253.out
         have p268 : 0 ≤ (t266 : Int) := of_decide_eq_true (by first | (with_reducible assumption) | assumption)
         have q268 : t266 < (l0_17.length : Int) := of_decide_eq_true (by first | (with_reducible assumption) | assumption)
         obtain ⟨ad268, e268, hx268_0, hx268_1, hx268_2, hx268_3, hx268_4⟩ := at_T60 HR0_17.out t266 p268 q268
         cases e268
         replace hx268_0 := bcl HB hx268_0
         replace hx268_1 := bcl HB hx268_1
         replace hx268_2 := bcl HB hx268_2
         replace hx268_3 := bcl HB hx268_3
         replace hx268_4 := bcl HB hx268_4
         replace p268 := eq_true p268
         replace q268 := eq_true q268
         try go_wp2
         go_ret2
         exact ⟨by first | rfl | (simp [errW_none, errW_some] <;> rfl) | (simp [*, errW_none, errW_some] <;> rfl), bw⟩
        ·rw [if_neg c14] at H
         exact absurd H (by simp)
       ·rw [if_neg c13] at H
        exact absurd H (by simp)
      ·rw [if_neg c12] at H
       have c12b0 : (t267 == 0) = false := beq_eq_false_iff_ne.mpr c12
       have c12b1 : (t267 != 0) = true := bne_iff_ne.mpr c12
       simp only [Option.some.injEq, Prod.mk.injEq] at H
       obtain ⟨rfl, rfl⟩ := H
       go_enter Try.func25, Try.ntmps25
       try go_wp2_with (first | ((with_reducible refine gate_dst (N := 2) rfl ?_); refine bx 2 #[.string a0_0, .int .i64 a0_1, .int .i64 a0_2, .int .i64 a0_3, .int .i64 a0_4, .int .i64 a0_5, .int .i64 a0_6, .int .i64 a0_7, .int .i64 a0_8, .int .i64 a0_9, .int .i64 a0_10, .int .i64 a0_11, .int .i64 a0_12, .int .i64 a0_13, .int .i64 a0_14, .slice A0_15 l0_15.length c0_15, .slice A0_16 l0_16.length c0_16, .slice A0_17 l0_17.length c0_17, .slice A0_18 l0_18.length c0_18, .int .i64 a0_19, .int .i64 a0_20, .int .i64 a0_21, .int .i64 a0_22, .int .i64 a0_23, .int .i64 a0_24, .int .i64 a0_25, .int .i64 a0_26, .int .i64 a0_27] 47 ?_; intro gb253 hg w29 hbox hb; have BK253 := AX (hbox); have GW253 := gwl (w := w) hg bw; have GE253 := GW253; replace HB := AX (below_step bw hb); clear hb hbox hg; obtain ⟨hcz30_0, hcz30_1, hcz30_2, hcz30_3, hcz30_4, hcz30_5, hcz30_6, hcz30_7, hcz30_8, hcz30_9, hcz30_10, hcz30_11, hcz30_12, hcz30_13, hcz30_14, hcz30_15, hcz30_16, hcz30_17, hcz30_18, hcz30_19, hcz30_20, hcz30_21, hcz30_22, hcz30_23, hcz30_24, hcz30_25, hcz30_26, hcz30_27⟩ := blkC28 (w := w29) BK253.out; obtain ⟨hfz30_0, hfz30_1, hfz30_2, hfz30_3, hfz30_4, hfz30_5, hfz30_6, hfz30_7, hfz30_8, hfz30_9, hfz30_10, hfz30_11, hfz30_12, hfz30_13, hfz30_14, hfz30_15, hfz30_16, hfz30_17, hfz30_18, hfz30_19, hfz30_20, hfz30_21, hfz30_22, hfz30_23, hfz30_24, hfz30_25, hfz30_26, hfz30_27⟩ := blkF28 BK253.out) | ((with_reducible refine gate_callee (f := 50) rfl ?_); refine gL (some 15) Try.func50 #[.agg #[.int .i64 a0_1, .int .i64 a0_2, .int .i64 a0_3, .int .i64 a0_4, .int .i64 a0_5, .int .i64 a0_6, .int .i64 a0_7, .int .i64 a0_8, .int .i64 a0_9, .int .i64 a0_10], .int .i64 a1] ?_; (with_reducible refine (zone_At.calls k a0_1 a0_2 a0_3 a0_4 a0_5 a0_6 a0_7 a0_8 a0_9 a0_10 a1 t254 t255 t256 t257 t258 t259 _ A3.out).mono ?_); rintro e w31 ⟨rfl, hb⟩; refine ⟨_, rfl, ?_⟩; replace BK253 := AX (bkb BK253 hb); replace HB := AX (below_step bw hb); (try clear hb)) | ((with_reducible refine gate_dst (N := 6) rfl ?_); refine bx 6 #[.int .i64 0, .int .i64 0, .int .i64 0, .int .i64 0, .int .i64 0] 54 ?_; intro gb260 hg w32 hbox hb; have BK260 := AX (hbox); have GW260 := gwl (w := w) hg bw; have GE260 := GW260; have NB253_260 := nbl hg (bkn BK253); have NB260_253 := nbg hg (bkn BK253); replace BK253 := AX (bkb BK253 hb); replace HB := AX (below_step bw hb); clear hb hbox hg; have hnb33 := NB260_253.out; have hnc33 := NB253_260.out; obtain ⟨hcz34_0, hcz34_1, hcz34_2, hcz34_3, hcz34_4⟩ := blkC5 (w := w32) BK260.out; obtain ⟨hfz34_0, hfz34_1, hfz34_2, hfz34_3, hfz34_4⟩ := blkF5 BK260.out; obtain ⟨hcz35_0, hcz35_1, hcz35_2, hcz35_3, hcz35_4, hcz35_5, hcz35_6, hcz35_7, hcz35_8, hcz35_9, hcz35_10, hcz35_11, hcz35_12, hcz35_13, hcz35_14, hcz35_15, hcz35_16, hcz35_17, hcz35_18, hcz35_19, hcz35_20, hcz35_21, hcz35_22, hcz35_23, hcz35_24, hcz35_25, hcz35_26, hcz35_27⟩ := blkC28 (w := w32) BK253.out; obtain ⟨hfz35_0, hfz35_1, hfz35_2, hfz35_3, hfz35_4, hfz35_5, hfz35_6, hfz35_7, hfz35_8, hfz35_9, hfz35_10, hfz35_11, hfz35_12, hfz35_13, hfz35_14, hfz35_15, hfz35_16, hfz35_17, hfz35_18, hfz35_19, hfz35_20, hfz35_21, hfz35_22, hfz35_23, hfz35_24, hfz35_25, hfz35_26, hfz35_27⟩ := blkF28 BK253.out) | ((with_reducible refine gate_callee (f := 23) rfl ?_); refine gL (some 26) Try.func23 #[.slice A0_15 l0_15.length c0_15, .agg #[.int .i64 t254, .int .i64 t255, .int .i64 t256]] ?_; (with_reducible refine (tou_Season.calls k _ _ l0_15 t254 t255 t256 t261 t262 _ ?side1 ?side2 A5.out).mono ?_); (case side1 => exact Kd.C_below HR0_15.out bw); (case side2 => exact HC0_15.out); rintro e w36 ⟨rfl, hb⟩; refine ⟨_, rfl, ?_⟩; replace BK253 := AX (blk_below (g := gb253) (o := .cells #[.string a0_0, .int .i64 a0_1, .int .i64 a0_2, .int .i64 a0_3, .int .i64 a0_4, .int .i64 a0_5, .int .i64 a0_6, .int .i64 a0_7, .int .i64 a0_8, .int .i64 a0_9, .int .i64 a0_10, .int .i64 a0_11, .int .i64 a0_12, .int .i64 a0_13, .int .i64 a0_14, .slice A0_15 l0_15.length c0_15, .slice A0_16 l0_16.length c0_16, .slice A0_17 l0_17.length c0_17, .slice A0_18 l0_18.length c0_18, .int .i64 a0_19, .int .i64 a0_20, .int .i64 a0_21, .int .i64 a0_22, .int .i64 a0_23, .int .i64 a0_24, .int .i64 a0_25, .int .i64 a0_26, .int .i64 a0_27] 47 (0, 0)) (by (with_reducible repeat first|refine blk_drewN ?_ _|refine blk_drew ?_|refine blk_alloc ?_ _|refine blk_far ?_ NB253_260.out _); exact BK253.out) hb); replace BK260 := AX (blk_below (g := gb260) (o := .cells #[.int .i64 t254, .int .i64 t255, .int .i64 t256, .int .i64 t257, .int .i64 t258] 54 (0, 0)) (by (with_reducible repeat first|refine blk_drewN ?_ _|refine blk_drew ?_|refine blk_alloc ?_ _); refine blk_put (cs := #[.int .i64 t254, .int .i64 t255, .int .i64 t256, .int .i64 t257, .int .i64 0]) ?_ 4 _ rfl; (with_reducible repeat first|refine blk_drewN ?_ _|refine blk_drew ?_|refine blk_alloc ?_ _); refine blk_put (cs := #[.int .i64 t254, .int .i64 t255, .int .i64 t256, .int .i64 0, .int .i64 0]) ?_ 3 _ rfl; (with_reducible repeat first|refine blk_drewN ?_ _|refine blk_drew ?_|refine blk_alloc ?_ _); refine blk_put (cs := #[.int .i64 t254, .int .i64 t255, .int .i64 0, .int .i64 0, .int .i64 0]) ?_ 2 _ rfl; (with_reducible repeat first|refine blk_drewN ?_ _|refine blk_drew ?_|refine blk_alloc ?_ _); refine blk_put (cs := #[.int .i64 t254, .int .i64 0, .int .i64 0, .int .i64 0, .int .i64 0]) ?_ 1 _ rfl; (with_reducible repeat first|refine blk_drewN ?_ _|refine blk_drew ?_|refine blk_alloc ?_ _); refine blk_put (cs := #[.int .i64 0, .int .i64 0, .int .i64 0, .int .i64 0, .int .i64 0]) ?_ 0 _ rfl; (with_reducible repeat first|refine blk_drewN ?_ _|refine blk_drew ?_|refine blk_alloc ?_ _); exact BK260.out) hb); replace HB := AX (below_step bw hb); (try clear hb); obtain ⟨hcz37_0, hcz37_1, hcz37_2, hcz37_3, hcz37_4, hcz37_5, hcz37_6, hcz37_7, hcz37_8, hcz37_9, hcz37_10, hcz37_11, hcz37_12, hcz37_13, hcz37_14, hcz37_15, hcz37_16, hcz37_17, hcz37_18, hcz37_19, hcz37_20, hcz37_21, hcz37_22, hcz37_23, hcz37_24, hcz37_25, hcz37_26, hcz37_27⟩ := blkC28 (w := w36) BK253.out; obtain ⟨hfz37_0, hfz37_1, hfz37_2, hfz37_3, hfz37_4, hfz37_5, hfz37_6, hfz37_7, hfz37_8, hfz37_9, hfz37_10, hfz37_11, hfz37_12, hfz37_13, hfz37_14, hfz37_15, hfz37_16, hfz37_17, hfz37_18, hfz37_19, hfz37_20, hfz37_21, hfz37_22, hfz37_23, hfz37_24, hfz37_25, hfz37_26, hfz37_27⟩ := blkF28 BK253.out; obtain ⟨hcz38_0, hcz38_1, hcz38_2, hcz38_3, hcz38_4⟩ := blkC5 (w := w36) BK260.out; obtain ⟨hfz38_0, hfz38_1, hfz38_2, hfz38_3, hfz38_4⟩ := blkF5 BK260.out) | ((with_reducible refine gate_callee (f := 17) rfl ?_); refine gL (some 37) Try.func17 #[.slice A0_16 l0_16.length c0_16, .agg #[.int .i64 t254, .int .i64 t255, .int .i64 t256]] ?_; (with_reducible refine (tou_Kind.calls k _ _ l0_16 t254 t255 t256 t263 t264 _ ?side1 ?side2 A7.out).mono ?_); (case side1 => repeat (first | exact (Kd.C_below HR0_16.out HB.out) | (with_reducible refine Kd.C_alloc ?_ _) | (with_reducible refine Kd.C_drewN ?_ _) | (with_reducible refine Kd.C_drew ?_))); (case side2 => exact HC0_16.out); rintro e w39 ⟨rfl, hb⟩; refine ⟨_, rfl, ?_⟩; replace BK253 := AX (bkb BK253 hb); replace BK260 := AX (bkb BK260 hb); replace HB := AX (below_step bw hb); (try clear hb); (try clear hb2); (try clear hk); (try clear hi)))
       have n0_ := AX (blk_drew BK253.out)
       have n1_ := AX (blk_drew BK260.out)
       have n2_ := AX (below_drew1 HB.out)
       clear BK253
       clear BK260
       clear HB
       have BK253 := n0_
       have BK260 := n1_
       have HB := n2_
       clear n0_ n1_ n2_
       have p265 : 0 ≤ (t261 : Int) := of_decide_eq_true (by first | (with_reducible assumption) | assumption)
       have q265 : t261 < (l0_15.length : Int) := of_decide_eq_true (by first | (with_reducible assumption) | assumption)
       obtain ⟨ad265, e265, hx265_0, hx265_1, hx265_2⟩ := at_T58 HR0_15.out t261 p265 q265
       have hw265_2 := hx265_2
       have hw265_1 := hx265_1
       have hw265_0 := hx265_0
       cases e265
       replace hx265_0 := bcl HB hx265_0
       replace hx265_1 := bcl HB hx265_1
       replace hx265_2 := bcl HB hx265_2
       replace p265 := eq_true p265
       replace q265 := eq_true q265
       refine start_ (n := 17) (S := fun w' => w'.cell? ⟨gb253, 0, none⟩ = some (.string a0_0) ∧ w'.cell? ⟨gb253, 1, none⟩ = some (.int .i64 a0_1) ∧ w'.cell? ⟨gb253, 2, none⟩ = some (.int .i64 a0_2) ∧ w'.cell? ⟨gb253, 3, none⟩ = some (.int .i64 a0_3) ∧ w'.cell? ⟨gb253, 4, none⟩ = some (.int .i64 a0_4) ∧ w'.cell? ⟨gb253, 5, none⟩ = some (.int .i64 a0_5) ∧ w'.cell? ⟨gb253, 6, none⟩ = some (.int .i64 a0_6) ∧ w'.cell? ⟨gb253, 7, none⟩ = some (.int .i64 a0_7) ∧ w'.cell? ⟨gb253, 8, none⟩ = some (.int .i64 a0_8) ∧ w'.cell? ⟨gb253, 9, none⟩ = some (.int .i64 a0_9) ∧ w'.cell? ⟨gb253, 10, none⟩ = some (.int .i64 a0_10) ∧ w'.cell? ⟨gb253, 11, none⟩ = some (.int .i64 a0_11) ∧ w'.cell? ⟨gb253, 12, none⟩ = some (.int .i64 a0_12) ∧ w'.cell? ⟨gb253, 13, none⟩ = some (.int .i64 a0_13) ∧ w'.cell? ⟨gb253, 14, none⟩ = some (.int .i64 a0_14) ∧ w'.cell? ⟨gb253, 15, none⟩ = some (.slice (some ad265) l0_15.length c0_15) ∧ w'.cell? ⟨gb253, 16, none⟩ = some (.slice A0_16 l0_16.length c0_16) ∧ w'.cell? ⟨gb253, 17, none⟩ = some (.slice A0_17 l0_17.length c0_17) ∧ w'.cell? ⟨gb253, 18, none⟩ = some (.slice A0_18 l0_18.length c0_18) ∧ w'.cell? ⟨gb253, 19, none⟩ = some (.int .i64 a0_19) ∧ w'.cell? ⟨gb253, 20, none⟩ = some (.int .i64 a0_20) ∧ w'.cell? ⟨gb253, 21, none⟩ = some (.int .i64 a0_21) ∧ w'.cell? ⟨gb253, 22, none⟩ = some (.int .i64 a0_22) ∧ w'.cell? ⟨gb253, 23, none⟩ = some (.int .i64 a0_23) ∧ w'.cell? ⟨gb253, 24, none⟩ = some (.int .i64 a0_24) ∧ w'.cell? ⟨gb253, 25, none⟩ = some (.int .i64 a0_25) ∧ w'.cell? ⟨gb253, 26, none⟩ = some (.int .i64 a0_26) ∧ w'.cell? ⟨gb253, 27, none⟩ = some (.int .i64 a0_27) ∧ w'.cell? ⟨gb260, 0, none⟩ = some (.int .i64 t254) ∧ w'.cell? ⟨gb260, 1, none⟩ = some (.int .i64 t255) ∧ w'.cell? ⟨gb260, 2, none⟩ = some (.int .i64 t256) ∧ w'.cell? ⟨gb260, 3, none⟩ = some (.int .i64 t257) ∧ w'.cell? ⟨gb260, 4, none⟩ = some (.int .i64 t258) ∧ w'.cell? (ad265.add ((t261).toNat * 3)) = some (.string ((rd_T58 l0_15 t261).f0)) ∧ w'.cell? ⟨(ad265.add ((t261).toNat * 3)).block, (ad265.add ((t261).toNat * 3)).off + 1, none⟩ = some (.int .i64 ((rd_T58 l0_15 t261).f1)) ∧ w'.cell? ⟨(ad265.add ((t261).toNat * 3)).block, (ad265.add ((t261).toNat * 3)).off + 2, none⟩ = some (.int .i64 ((rd_T58 l0_15 t261).f2))) (ds := []) #[false, false, false, false, false, false, false, false, false, false, false, false, false, false, false, false, false] (by kernel_rfl) rfl rfl ⟨(blk_cell BK253.out 0).trans rfl, (blk_cell BK253.out 1).trans rfl, (blk_cell BK253.out 2).trans rfl, (blk_cell BK253.out 3).trans rfl, (blk_cell BK253.out 4).trans rfl, (blk_cell BK253.out 5).trans rfl, (blk_cell BK253.out 6).trans rfl, (blk_cell BK253.out 7).trans rfl, (blk_cell BK253.out 8).trans rfl, (blk_cell BK253.out 9).trans rfl, (blk_cell BK253.out 10).trans rfl, (blk_cell BK253.out 11).trans rfl, (blk_cell BK253.out 12).trans rfl, (blk_cell BK253.out 13).trans rfl, (blk_cell BK253.out 14).trans rfl, (blk_cell BK253.out 15).trans rfl, (blk_cell BK253.out 16).trans rfl, (blk_cell BK253.out 17).trans rfl, (blk_cell BK253.out 18).trans rfl, (blk_cell BK253.out 19).trans rfl, (blk_cell BK253.out 20).trans rfl, (blk_cell BK253.out 21).trans rfl, (blk_cell BK253.out 22).trans rfl, (blk_cell BK253.out 23).trans rfl, (blk_cell BK253.out 24).trans rfl, (blk_cell BK253.out 25).trans rfl, (blk_cell BK253.out 26).trans rfl, (blk_cell BK253.out 27).trans rfl, (blk_cell BK260.out 0).trans rfl, (blk_cell BK260.out 1).trans rfl, (blk_cell BK260.out 2).trans rfl, (blk_cell BK260.out 3).trans rfl, (blk_cell BK260.out 4).trans rfl, (bcl HB hw265_0), (bcl HB hw265_1), (bcl HB hw265_2)⟩ (fun hHeld => ?_); refine with_tabW tou_At.tab10 tou_At.bits10 (fun HT_ HW_ => ?_)
       generalize w39.drew = w40 at BK253 BK260 HB hx265_0 hx265_1 hx265_2 hHeld ⊢
       refine pure_ (i := 0) (N := some 44) (v := ?_) (a' := ?_) #[true, false, false, false, false, false, false, false, false, false, false, false, false, false, false, false, false] rfl rfl (any_of HT_.out (by kernel_rfl)) (fun _ _ _ h => h) (Or.inl ⟨by rfl, ?_⟩) ?_ ?_
       rotate_left
       ·intro w'
        go_simp
        with_reducible rfl
       rotate_left
       ·simp only [Act.put, List.setIfInBounds_toArray, List.set_cons_zero, List.set_cons_succ, i64_w, i32_w]
        rfl
       refine pure_ (i := 2) (N := some 46) (v := ?_) (a' := ?_) #[true, false, true, false, false, false, false, false, false, false, false, false, false, false, false, false, false] rfl rfl (any_of HT_.out (by kernel_rfl)) (fun _ _ _ h => h) (Or.inl ⟨by rfl, ?_⟩) ?_ ?_
       rotate_left
       ·intro w'
        go_simp
        with_reducible rfl
       rotate_left
       ·simp only [Act.put, List.setIfInBounds_toArray, List.set_cons_zero, List.set_cons_succ, i64_w, i32_w]
        rfl
       refine pure_ (i := 4) (N := some 48) (v := ?_) (a' := ?_) #[true, false, true, false, true, false, false, false, false, false, false, false, false, false, false, false, false] rfl rfl (any_of HT_.out (by kernel_rfl)) (fun _ _ _ h => h) (Or.inl ⟨by rfl, ?_⟩) ?_ ?_
       rotate_left
       ·intro w'
        go_simp
        with_reducible rfl
       rotate_left
       ·simp only [Act.put, List.setIfInBounds_toArray, List.set_cons_zero, List.set_cons_succ, i64_w, i32_w]
        rfl
       refine pure_ (i := 8) (N := some 52) (v := ?_) (a' := ?_) #[true, false, true, false, true, false, false, false, true, false, false, false, false, false, false, false, false] rfl rfl (any_of HT_.out (by kernel_rfl)) (fun _ _ _ h => h) (Or.inl ⟨by rfl, ?_⟩) ?_ ?_
       rotate_left
       ·intro w'
        go_simp
        with_reducible rfl
       rotate_left
       ·simp only [Act.put, List.setIfInBounds_toArray, List.set_cons_zero, List.set_cons_succ, i64_w, i32_w]
        rfl
       refine pure_ (i := 9) (N := some 53) (v := ?_) (a' := ?_) #[true, false, true, false, true, false, false, false, true, true, false, false, false, false, false, false, false] rfl rfl (any_of HT_.out (by kernel_rfl)) (fun _ _ _ h => h) (Or.inl ⟨by rfl, ?_⟩) ?_ ?_
       rotate_left
       ·intro w'
        go_simp
        with_reducible rfl
       rotate_left
       ·simp only [Act.put, List.setIfInBounds_toArray, List.set_cons_zero, List.set_cons_succ, i64_w, i32_w]
        rfl
       refine take_ (i := 1) (N := some 45) (v := ?_) (a' := ?_) #[true, true, true, false, true, false, false, false, true, true, false, false, false, false, false, false, false] rfl rfl (take_ofW HT_.out HW_.out (by kernel_rfl)) (fun _ _ _ h => h) (Or.inl ⟨by rfl, ?_⟩) hHeld ?_ ?_
       rotate_left
       ·rintro w' ⟨s0, s1, s2, s3, s4, s5, s6, s7, s8, s9, s10, s11, s12, s13, s14, s15, s16, s17, s18, s19, s20, s21, s22, s23, s24, s25, s26, s27, s28, s29, s30, s31, s32, s33, s34, s35⟩
        go_simp
        with_reducible rfl
       rotate_left
       ·simp only [Act.put, List.setIfInBounds_toArray, List.set_cons_zero, List.set_cons_succ, i64_w, i32_w]
        rfl
       refine take_ (i := 3) (N := some 47) (v := ?_) (a' := ?_) #[true, true, true, true, true, false, false, false, true, true, false, false, false, false, false, false, false] rfl rfl (take_ofW HT_.out HW_.out (by kernel_rfl)) (fun _ _ _ h => h) (Or.inl ⟨by rfl, ?_⟩) hHeld ?_ ?_
       rotate_left
       ·rintro w' ⟨s0, s1, s2, s3, s4, s5, s6, s7, s8, s9, s10, s11, s12, s13, s14, s15, s16, s17, s18, s19, s20, s21, s22, s23, s24, s25, s26, s27, s28, s29, s30, s31, s32, s33, s34, s35⟩
        go_simp
        with_reducible rfl
       rotate_left
       ·simp only [Act.put, List.setIfInBounds_toArray, List.set_cons_zero, List.set_cons_succ, i64_w, i32_w]
        rfl
       refine pure_ (i := 5) (N := some 49) (v := ?_) (a' := ?_) #[true, true, true, true, true, true, false, false, true, true, false, false, false, false, false, false, false] rfl rfl (any_of HT_.out (by kernel_rfl)) (fun _ _ _ h => h) (Or.inl ⟨by rfl, ?_⟩) ?_ ?_
       rotate_left
       ·intro w'
        go_simp
        with_reducible rfl
       rotate_left
       ·simp only [Act.put, List.setIfInBounds_toArray, List.set_cons_zero, List.set_cons_succ, i64_w, i32_w]
        rfl
       refine pure_ (i := 6) (N := some 50) (v := ?_) (a' := ?_) #[true, true, true, true, true, true, true, false, true, true, false, false, false, false, false, false, false] rfl rfl (any_of HT_.out (by kernel_rfl)) (fun _ _ _ h => h) (Or.inl ⟨by rfl, ?_⟩) ?_ ?_
       rotate_left
       ·intro w'
        go_simp
        with_reducible rfl
       rotate_left
       ·simp only [Act.put, List.setIfInBounds_toArray, List.set_cons_zero, List.set_cons_succ, i64_w, i32_w]
        rfl
       refine take_ (i := 7) (N := some 51) (v := ?_) (a' := ?_) #[true, true, true, true, true, true, true, true, true, true, false, false, false, false, false, false, false] rfl rfl (take_ofW HT_.out HW_.out (by kernel_rfl)) (fun _ _ _ h => h) (Or.inl ⟨by rfl, ?_⟩) hHeld ?_ ?_
       rotate_left
       ·rintro w' ⟨s0, s1, s2, s3, s4, s5, s6, s7, s8, s9, s10, s11, s12, s13, s14, s15, s16, s17, s18, s19, s20, s21, s22, s23, s24, s25, s26, s27, s28, s29, s30, s31, s32, s33, s34, s35⟩
        go_simp
        with_reducible rfl
       rotate_left
       ·simp only [Act.put, List.setIfInBounds_toArray, List.set_cons_zero, List.set_cons_succ, i64_w, i32_w]
        rfl
       refine take_ (i := 10) (N := some 54) (v := ?_) (a' := ?_) #[true, true, true, true, true, true, true, true, true, true, true, false, false, false, false, false, false] rfl rfl (take_ofW HT_.out HW_.out (by kernel_rfl)) (fun _ _ _ h => h) (Or.inl ⟨by rfl, ?_⟩) hHeld ?_ ?_
       rotate_left
       ·rintro w' ⟨s0, s1, s2, s3, s4, s5, s6, s7, s8, s9, s10, s11, s12, s13, s14, s15, s16, s17, s18, s19, s20, s21, s22, s23, s24, s25, s26, s27, s28, s29, s30, s31, s32, s33, s34, s35⟩
        go_simp
        with_reducible rfl
       rotate_left
       ·simp only [Act.put, List.setIfInBounds_toArray, List.set_cons_zero, List.set_cons_succ, i64_w, i32_w]
        rfl
       refine one_ (i := 11) (N := some 55) #[true, true, true, true, true, true, true, true, true, true, true, true, false, false, false, false, false] rfl rfl (one_of HT_.out (by kernel_rfl)) (by decide) (fun K hK => ?_)
       refine goes_ Try.func21 (by kernel_rfl) rfl #[.slice A0_17 l0_17.length c0_17, .string ((rd_T58 l0_15 t261).f0), .int .i64 t263, .int .i64 t257] (by rfl) rfl rfl (by (try simp only [List.map_toArray, List.map_cons, List.map_nil]); first | done | rfl | (simp only [List.length_drop, List.length_take]; rfl)) ?_
       with_reducible refine (tou_Window.calls _ _ l0_17 ((rd_T58 l0_15 t261).f0) t263 t257 t266 t267 _ ?side1 ?side2 A11.out).mono ?_
       (case side1 => repeat (first | exact (Kd.C_below HR0_17.out HB.out) | (with_reducible refine Kd.C_alloc ?_ _) | (with_reducible refine Kd.C_drewN ?_ _) | (with_reducible refine Kd.C_drew ?_)))
       (case side2 => exact HC0_17.out)
       rintro e w41 ⟨rfl, hb⟩
       refine ⟨_, rfl, ?_⟩
       have n0_ := AX (bkb BK253 hb)
       have n1_ := AX (bkb BK260 hb)
       have n2_ := AX (below_step bw hb)
       clear BK253
       clear BK260
       clear HB
       have BK253 := n0_
       have BK260 := n1_
       have HB := n2_
       clear n0_ n1_ n2_
       (try clear hb)
       (try clear hb2)
       (try clear hk)
       (try clear hi)
       refine hK.out _ _ ⟨(blk_cell BK253.out 0).trans rfl, (blk_cell BK253.out 1).trans rfl, (blk_cell BK253.out 2).trans rfl, (blk_cell BK253.out 3).trans rfl, (blk_cell BK253.out 4).trans rfl, (blk_cell BK253.out 5).trans rfl, (blk_cell BK253.out 6).trans rfl, (blk_cell BK253.out 7).trans rfl, (blk_cell BK253.out 8).trans rfl, (blk_cell BK253.out 9).trans rfl, (blk_cell BK253.out 10).trans rfl, (blk_cell BK253.out 11).trans rfl, (blk_cell BK253.out 12).trans rfl, (blk_cell BK253.out 13).trans rfl, (blk_cell BK253.out 14).trans rfl, (blk_cell BK253.out 15).trans rfl, (blk_cell BK253.out 16).trans rfl, (blk_cell BK253.out 17).trans rfl, (blk_cell BK253.out 18).trans rfl, (blk_cell BK253.out 19).trans rfl, (blk_cell BK253.out 20).trans rfl, (blk_cell BK253.out 21).trans rfl, (blk_cell BK253.out 22).trans rfl, (blk_cell BK253.out 23).trans rfl, (blk_cell BK253.out 24).trans rfl, (blk_cell BK253.out 25).trans rfl, (blk_cell BK253.out 26).trans rfl, (blk_cell BK253.out 27).trans rfl, (blk_cell BK260.out 0).trans rfl, (blk_cell BK260.out 1).trans rfl, (blk_cell BK260.out 2).trans rfl, (blk_cell BK260.out 3).trans rfl, (blk_cell BK260.out 4).trans rfl, (bcl HB hw265_0), (bcl HB hw265_1), (bcl HB hw265_2)⟩ (fun hHeld => ?_)
       clear hK K
       refine norm_ (a' := ?_) ?_ ?_
       rotate_left
       ·show Act.put _ (some 55) _ = _
        simp only [Act.put, List.setIfInBounds_toArray, List.set_cons_zero, List.set_cons_succ, i64_w, i32_w]
        rfl
       refine pure_ (i := 12) (N := some 43) (v := ?_) (a' := ?_) #[true, true, true, true, true, true, true, true, true, true, true, true, true, false, false, false, false] rfl rfl (any_of HT_.out (by kernel_rfl)) (fun _ _ _ h => h) (Or.inl ⟨by rfl, ?_⟩) ?_ ?_
       rotate_left
       ·intro w'
        go_simp
        with_reducible rfl
       rotate_left
       ·simp only [Act.put, List.setIfInBounds_toArray, List.set_cons_zero, List.set_cons_succ, i64_w, i32_w]
        rfl
       refine pure_ (i := 13) (N := some 56) (v := ?_) (a' := ?_) #[true, true, true, true, true, true, true, true, true, true, true, true, true, true, false, false, false] rfl rfl (any_of HT_.out (by kernel_rfl)) (fun _ _ _ h => h) (Or.inl ⟨by rfl, ?_⟩) ?_ ?_
       rotate_left
       ·intro w'
        go_simp
        with_reducible rfl
       rotate_left
       ·simp only [Act.put, List.setIfInBounds_toArray, List.set_cons_zero, List.set_cons_succ, i64_w, i32_w]
        rfl
       refine pure_ (i := 14) (N := some 57) (v := ?_) (a' := ?_) #[true, true, true, true, true, true, true, true, true, true, true, true, true, true, true, false, false] rfl rfl (any_of HT_.out (by kernel_rfl)) (fun _ _ _ h => h) (Or.inl ⟨by rfl, ?_⟩) ?_ ?_
       rotate_left
       ·intro w'
        go_simp
        with_reducible rfl
       rotate_left
       ·simp only [Act.put, List.setIfInBounds_toArray, List.set_cons_zero, List.set_cons_succ, i64_w, i32_w]
        rfl
       refine pure_ (i := 15) (N := some 10) (v := ?_) (a' := ?_) #[true, true, true, true, true, true, true, true, true, true, true, true, true, true, true, true, false] rfl rfl (any_of HT_.out (by kernel_rfl)) (fun _ _ _ h => h) (Or.inl ⟨by rfl, ?_⟩) ?_ ?_
       rotate_left
       ·intro w'
        go_simp
        with_reducible rfl
       rotate_left
       ·simp only [Act.put, List.setIfInBounds_toArray, List.set_cons_zero, List.set_cons_succ, i64_w, i32_w]
        rfl
       refine pure_ (i := 16) (N := some 7) (v := ?_) (a' := ?_) #[true, true, true, true, true, true, true, true, true, true, true, true, true, true, true, true, true] rfl rfl (any_of HT_.out (by kernel_rfl)) (fun _ _ _ h => h) (Or.inl ⟨by rfl, ?_⟩) ?_ ?_
       rotate_left
       ·intro w'
        go_simp
        with_reducible rfl
       rotate_left
       ·simp only [Act.put, List.setIfInBounds_toArray, List.set_cons_zero, List.set_cons_succ, i64_w, i32_w]
        rfl
       refine done_ (done_of HT_.out (by kernel_rfl)) ?_
       try go_wp2
       go_ret2
       exact ⟨by first | rfl | (simp [errW_none, errW_some] <;> rfl) | (simp [*, errW_none, errW_some] <;> rfl), bw⟩
     ·rw [if_neg c10] at H
      exact absurd H (by simp)
    ·rw [if_neg c9] at H
     exact absurd H (by simp)
   ·rw [if_neg c8] at H
    have c8b0 : (t264 == 0) = false := beq_eq_false_iff_ne.mpr c8
    have c8b1 : (t264 != 0) = true := bne_iff_ne.mpr c8
    simp only [Option.some.injEq, Prod.mk.injEq] at H
    obtain ⟨rfl, rfl⟩ := H
    go_enter Try.func25, Try.ntmps25
    go_wp2_with (first | ((with_reducible refine gate_dst (N := 2) rfl ?_); refine bx 2 #[.string a0_0, .int .i64 a0_1, .int .i64 a0_2, .int .i64 a0_3, .int .i64 a0_4, .int .i64 a0_5, .int .i64 a0_6, .int .i64 a0_7, .int .i64 a0_8, .int .i64 a0_9, .int .i64 a0_10, .int .i64 a0_11, .int .i64 a0_12, .int .i64 a0_13, .int .i64 a0_14, .slice A0_15 l0_15.length c0_15, .slice A0_16 l0_16.length c0_16, .slice A0_17 l0_17.length c0_17, .slice A0_18 l0_18.length c0_18, .int .i64 a0_19, .int .i64 a0_20, .int .i64 a0_21, .int .i64 a0_22, .int .i64 a0_23, .int .i64 a0_24, .int .i64 a0_25, .int .i64 a0_26, .int .i64 a0_27] 47 ?_; intro gb253 hg w42 hbox hb; have BK253 := AX (hbox); have GW253 := gwl (w := w) hg bw; have GE253 := GW253; replace HB := AX (below_step bw hb); clear hb hbox hg; obtain ⟨hcz43_0, hcz43_1, hcz43_2, hcz43_3, hcz43_4, hcz43_5, hcz43_6, hcz43_7, hcz43_8, hcz43_9, hcz43_10, hcz43_11, hcz43_12, hcz43_13, hcz43_14, hcz43_15, hcz43_16, hcz43_17, hcz43_18, hcz43_19, hcz43_20, hcz43_21, hcz43_22, hcz43_23, hcz43_24, hcz43_25, hcz43_26, hcz43_27⟩ := blkC28 (w := w42) BK253.out; obtain ⟨hfz43_0, hfz43_1, hfz43_2, hfz43_3, hfz43_4, hfz43_5, hfz43_6, hfz43_7, hfz43_8, hfz43_9, hfz43_10, hfz43_11, hfz43_12, hfz43_13, hfz43_14, hfz43_15, hfz43_16, hfz43_17, hfz43_18, hfz43_19, hfz43_20, hfz43_21, hfz43_22, hfz43_23, hfz43_24, hfz43_25, hfz43_26, hfz43_27⟩ := blkF28 BK253.out) | ((with_reducible refine gate_callee (f := 50) rfl ?_); refine gL (some 15) Try.func50 #[.agg #[.int .i64 a0_1, .int .i64 a0_2, .int .i64 a0_3, .int .i64 a0_4, .int .i64 a0_5, .int .i64 a0_6, .int .i64 a0_7, .int .i64 a0_8, .int .i64 a0_9, .int .i64 a0_10], .int .i64 a1] ?_; (with_reducible refine (zone_At.calls k a0_1 a0_2 a0_3 a0_4 a0_5 a0_6 a0_7 a0_8 a0_9 a0_10 a1 t254 t255 t256 t257 t258 t259 _ A3.out).mono ?_); rintro e w44 ⟨rfl, hb⟩; refine ⟨_, rfl, ?_⟩; replace BK253 := AX (bkb BK253 hb); replace HB := AX (below_step bw hb); (try clear hb)) | ((with_reducible refine gate_dst (N := 6) rfl ?_); refine bx 6 #[.int .i64 0, .int .i64 0, .int .i64 0, .int .i64 0, .int .i64 0] 54 ?_; intro gb260 hg w45 hbox hb; have BK260 := AX (hbox); have GW260 := gwl (w := w) hg bw; have GE260 := GW260; have NB253_260 := nbl hg (bkn BK253); have NB260_253 := nbg hg (bkn BK253); replace BK253 := AX (bkb BK253 hb); replace HB := AX (below_step bw hb); clear hb hbox hg; have hnb46 := NB260_253.out; have hnc46 := NB253_260.out; obtain ⟨hcz47_0, hcz47_1, hcz47_2, hcz47_3, hcz47_4⟩ := blkC5 (w := w45) BK260.out; obtain ⟨hfz47_0, hfz47_1, hfz47_2, hfz47_3, hfz47_4⟩ := blkF5 BK260.out; obtain ⟨hcz48_0, hcz48_1, hcz48_2, hcz48_3, hcz48_4, hcz48_5, hcz48_6, hcz48_7, hcz48_8, hcz48_9, hcz48_10, hcz48_11, hcz48_12, hcz48_13, hcz48_14, hcz48_15, hcz48_16, hcz48_17, hcz48_18, hcz48_19, hcz48_20, hcz48_21, hcz48_22, hcz48_23, hcz48_24, hcz48_25, hcz48_26, hcz48_27⟩ := blkC28 (w := w45) BK253.out; obtain ⟨hfz48_0, hfz48_1, hfz48_2, hfz48_3, hfz48_4, hfz48_5, hfz48_6, hfz48_7, hfz48_8, hfz48_9, hfz48_10, hfz48_11, hfz48_12, hfz48_13, hfz48_14, hfz48_15, hfz48_16, hfz48_17, hfz48_18, hfz48_19, hfz48_20, hfz48_21, hfz48_22, hfz48_23, hfz48_24, hfz48_25, hfz48_26, hfz48_27⟩ := blkF28 BK253.out) | ((with_reducible refine gate_callee (f := 23) rfl ?_); refine gL (some 26) Try.func23 #[.slice A0_15 l0_15.length c0_15, .agg #[.int .i64 t254, .int .i64 t255, .int .i64 t256]] ?_; (with_reducible refine (tou_Season.calls k _ _ l0_15 t254 t255 t256 t261 t262 _ ?side1 ?side2 A5.out).mono ?_); (case side1 => exact Kd.C_below HR0_15.out bw); (case side2 => exact HC0_15.out); rintro e w49 ⟨rfl, hb⟩; refine ⟨_, rfl, ?_⟩; replace BK253 := AX (blk_below (g := gb253) (o := .cells #[.string a0_0, .int .i64 a0_1, .int .i64 a0_2, .int .i64 a0_3, .int .i64 a0_4, .int .i64 a0_5, .int .i64 a0_6, .int .i64 a0_7, .int .i64 a0_8, .int .i64 a0_9, .int .i64 a0_10, .int .i64 a0_11, .int .i64 a0_12, .int .i64 a0_13, .int .i64 a0_14, .slice A0_15 l0_15.length c0_15, .slice A0_16 l0_16.length c0_16, .slice A0_17 l0_17.length c0_17, .slice A0_18 l0_18.length c0_18, .int .i64 a0_19, .int .i64 a0_20, .int .i64 a0_21, .int .i64 a0_22, .int .i64 a0_23, .int .i64 a0_24, .int .i64 a0_25, .int .i64 a0_26, .int .i64 a0_27] 47 (0, 0)) (by (with_reducible repeat first|refine blk_drewN ?_ _|refine blk_drew ?_|refine blk_alloc ?_ _|refine blk_far ?_ NB253_260.out _); exact BK253.out) hb); replace BK260 := AX (blk_below (g := gb260) (o := .cells #[.int .i64 t254, .int .i64 t255, .int .i64 t256, .int .i64 t257, .int .i64 t258] 54 (0, 0)) (by (with_reducible repeat first|refine blk_drewN ?_ _|refine blk_drew ?_|refine blk_alloc ?_ _); refine blk_put (cs := #[.int .i64 t254, .int .i64 t255, .int .i64 t256, .int .i64 t257, .int .i64 0]) ?_ 4 _ rfl; (with_reducible repeat first|refine blk_drewN ?_ _|refine blk_drew ?_|refine blk_alloc ?_ _); refine blk_put (cs := #[.int .i64 t254, .int .i64 t255, .int .i64 t256, .int .i64 0, .int .i64 0]) ?_ 3 _ rfl; (with_reducible repeat first|refine blk_drewN ?_ _|refine blk_drew ?_|refine blk_alloc ?_ _); refine blk_put (cs := #[.int .i64 t254, .int .i64 t255, .int .i64 0, .int .i64 0, .int .i64 0]) ?_ 2 _ rfl; (with_reducible repeat first|refine blk_drewN ?_ _|refine blk_drew ?_|refine blk_alloc ?_ _); refine blk_put (cs := #[.int .i64 t254, .int .i64 0, .int .i64 0, .int .i64 0, .int .i64 0]) ?_ 1 _ rfl; (with_reducible repeat first|refine blk_drewN ?_ _|refine blk_drew ?_|refine blk_alloc ?_ _); refine blk_put (cs := #[.int .i64 0, .int .i64 0, .int .i64 0, .int .i64 0, .int .i64 0]) ?_ 0 _ rfl; (with_reducible repeat first|refine blk_drewN ?_ _|refine blk_drew ?_|refine blk_alloc ?_ _); exact BK260.out) hb); replace HB := AX (below_step bw hb); (try clear hb); obtain ⟨hcz50_0, hcz50_1, hcz50_2, hcz50_3, hcz50_4, hcz50_5, hcz50_6, hcz50_7, hcz50_8, hcz50_9, hcz50_10, hcz50_11, hcz50_12, hcz50_13, hcz50_14, hcz50_15, hcz50_16, hcz50_17, hcz50_18, hcz50_19, hcz50_20, hcz50_21, hcz50_22, hcz50_23, hcz50_24, hcz50_25, hcz50_26, hcz50_27⟩ := blkC28 (w := w49) BK253.out; obtain ⟨hfz50_0, hfz50_1, hfz50_2, hfz50_3, hfz50_4, hfz50_5, hfz50_6, hfz50_7, hfz50_8, hfz50_9, hfz50_10, hfz50_11, hfz50_12, hfz50_13, hfz50_14, hfz50_15, hfz50_16, hfz50_17, hfz50_18, hfz50_19, hfz50_20, hfz50_21, hfz50_22, hfz50_23, hfz50_24, hfz50_25, hfz50_26, hfz50_27⟩ := blkF28 BK253.out; obtain ⟨hcz51_0, hcz51_1, hcz51_2, hcz51_3, hcz51_4⟩ := blkC5 (w := w49) BK260.out; obtain ⟨hfz51_0, hfz51_1, hfz51_2, hfz51_3, hfz51_4⟩ := blkF5 BK260.out) | ((with_reducible refine gate_callee (f := 17) rfl ?_); refine gL (some 37) Try.func17 #[.slice A0_16 l0_16.length c0_16, .agg #[.int .i64 t254, .int .i64 t255, .int .i64 t256]] ?_; (with_reducible refine (tou_Kind.calls k _ _ l0_16 t254 t255 t256 t263 t264 _ ?side1 ?side2 A7.out).mono ?_); (case side1 => repeat (first | exact (Kd.C_below HR0_16.out HB.out) | (with_reducible refine Kd.C_alloc ?_ _) | (with_reducible refine Kd.C_drewN ?_ _) | (with_reducible refine Kd.C_drew ?_))); (case side2 => exact HC0_16.out); rintro e w52 ⟨rfl, hb⟩; refine ⟨_, rfl, ?_⟩; replace BK253 := AX (bkb BK253 hb); replace BK260 := AX (bkb BK260 hb); replace HB := AX (below_step bw hb); (try clear hb); (try clear hb2); (try clear hk); (try clear hi)))
    go_ret2
    exact ⟨by first | rfl | (simp [errW_none, errW_some] <;> rfl) | (simp [*, errW_none, errW_some] <;> rfl), bw⟩
  ·rw [if_neg c6] at H
   have c6b0 : (t262 == 0) = false := beq_eq_false_iff_ne.mpr c6
   have c6b1 : (t262 != 0) = true := bne_iff_ne.mpr c6
   simp only [Option.some.injEq, Prod.mk.injEq] at H
   obtain ⟨rfl, rfl⟩ := H
   go_enter Try.func25, Try.ntmps25
   go_wp2_with (first | ((with_reducible refine gate_dst (N := 2) rfl ?_); refine bx 2 #[.string a0_0, .int .i64 a0_1, .int .i64 a0_2, .int .i64 a0_3, .int .i64 a0_4, .int .i64 a0_5, .int .i64 a0_6, .int .i64 a0_7, .int .i64 a0_8, .int .i64 a0_9, .int .i64 a0_10, .int .i64 a0_11, .int .i64 a0_12, .int .i64 a0_13, .int .i64 a0_14, .slice A0_15 l0_15.length c0_15, .slice A0_16 l0_16.length c0_16, .slice A0_17 l0_17.length c0_17, .slice A0_18 l0_18.length c0_18, .int .i64 a0_19, .int .i64 a0_20, .int .i64 a0_21, .int .i64 a0_22, .int .i64 a0_23, .int .i64 a0_24, .int .i64 a0_25, .int .i64 a0_26, .int .i64 a0_27] 47 ?_; intro gb253 hg w53 hbox hb; have BK253 := AX (hbox); have GW253 := gwl (w := w) hg bw; have GE253 := GW253; replace HB := AX (below_step bw hb); clear hb hbox hg; obtain ⟨hcz54_0, hcz54_1, hcz54_2, hcz54_3, hcz54_4, hcz54_5, hcz54_6, hcz54_7, hcz54_8, hcz54_9, hcz54_10, hcz54_11, hcz54_12, hcz54_13, hcz54_14, hcz54_15, hcz54_16, hcz54_17, hcz54_18, hcz54_19, hcz54_20, hcz54_21, hcz54_22, hcz54_23, hcz54_24, hcz54_25, hcz54_26, hcz54_27⟩ := blkC28 (w := w53) BK253.out; obtain ⟨hfz54_0, hfz54_1, hfz54_2, hfz54_3, hfz54_4, hfz54_5, hfz54_6, hfz54_7, hfz54_8, hfz54_9, hfz54_10, hfz54_11, hfz54_12, hfz54_13, hfz54_14, hfz54_15, hfz54_16, hfz54_17, hfz54_18, hfz54_19, hfz54_20, hfz54_21, hfz54_22, hfz54_23, hfz54_24, hfz54_25, hfz54_26, hfz54_27⟩ := blkF28 BK253.out) | ((with_reducible refine gate_callee (f := 50) rfl ?_); refine gL (some 15) Try.func50 #[.agg #[.int .i64 a0_1, .int .i64 a0_2, .int .i64 a0_3, .int .i64 a0_4, .int .i64 a0_5, .int .i64 a0_6, .int .i64 a0_7, .int .i64 a0_8, .int .i64 a0_9, .int .i64 a0_10], .int .i64 a1] ?_; (with_reducible refine (zone_At.calls k a0_1 a0_2 a0_3 a0_4 a0_5 a0_6 a0_7 a0_8 a0_9 a0_10 a1 t254 t255 t256 t257 t258 t259 _ A3.out).mono ?_); rintro e w55 ⟨rfl, hb⟩; refine ⟨_, rfl, ?_⟩; replace BK253 := AX (bkb BK253 hb); replace HB := AX (below_step bw hb); (try clear hb)) | ((with_reducible refine gate_dst (N := 6) rfl ?_); refine bx 6 #[.int .i64 0, .int .i64 0, .int .i64 0, .int .i64 0, .int .i64 0] 54 ?_; intro gb260 hg w56 hbox hb; have BK260 := AX (hbox); have GW260 := gwl (w := w) hg bw; have GE260 := GW260; have NB253_260 := nbl hg (bkn BK253); have NB260_253 := nbg hg (bkn BK253); replace BK253 := AX (bkb BK253 hb); replace HB := AX (below_step bw hb); clear hb hbox hg; have hnb57 := NB260_253.out; have hnc57 := NB253_260.out; obtain ⟨hcz58_0, hcz58_1, hcz58_2, hcz58_3, hcz58_4⟩ := blkC5 (w := w56) BK260.out; obtain ⟨hfz58_0, hfz58_1, hfz58_2, hfz58_3, hfz58_4⟩ := blkF5 BK260.out; obtain ⟨hcz59_0, hcz59_1, hcz59_2, hcz59_3, hcz59_4, hcz59_5, hcz59_6, hcz59_7, hcz59_8, hcz59_9, hcz59_10, hcz59_11, hcz59_12, hcz59_13, hcz59_14, hcz59_15, hcz59_16, hcz59_17, hcz59_18, hcz59_19, hcz59_20, hcz59_21, hcz59_22, hcz59_23, hcz59_24, hcz59_25, hcz59_26, hcz59_27⟩ := blkC28 (w := w56) BK253.out; obtain ⟨hfz59_0, hfz59_1, hfz59_2, hfz59_3, hfz59_4, hfz59_5, hfz59_6, hfz59_7, hfz59_8, hfz59_9, hfz59_10, hfz59_11, hfz59_12, hfz59_13, hfz59_14, hfz59_15, hfz59_16, hfz59_17, hfz59_18, hfz59_19, hfz59_20, hfz59_21, hfz59_22, hfz59_23, hfz59_24, hfz59_25, hfz59_26, hfz59_27⟩ := blkF28 BK253.out) | ((with_reducible refine gate_callee (f := 23) rfl ?_); refine gL (some 26) Try.func23 #[.slice A0_15 l0_15.length c0_15, .agg #[.int .i64 t254, .int .i64 t255, .int .i64 t256]] ?_; (with_reducible refine (tou_Season.calls k _ _ l0_15 t254 t255 t256 t261 t262 _ ?side1 ?side2 A5.out).mono ?_); (case side1 => exact Kd.C_below HR0_15.out bw); (case side2 => exact HC0_15.out); rintro e w60 ⟨rfl, hb⟩; refine ⟨_, rfl, ?_⟩; replace BK253 := AX (blk_below (g := gb253) (o := .cells #[.string a0_0, .int .i64 a0_1, .int .i64 a0_2, .int .i64 a0_3, .int .i64 a0_4, .int .i64 a0_5, .int .i64 a0_6, .int .i64 a0_7, .int .i64 a0_8, .int .i64 a0_9, .int .i64 a0_10, .int .i64 a0_11, .int .i64 a0_12, .int .i64 a0_13, .int .i64 a0_14, .slice A0_15 l0_15.length c0_15, .slice A0_16 l0_16.length c0_16, .slice A0_17 l0_17.length c0_17, .slice A0_18 l0_18.length c0_18, .int .i64 a0_19, .int .i64 a0_20, .int .i64 a0_21, .int .i64 a0_22, .int .i64 a0_23, .int .i64 a0_24, .int .i64 a0_25, .int .i64 a0_26, .int .i64 a0_27] 47 (0, 0)) (by (with_reducible repeat first|refine blk_drewN ?_ _|refine blk_drew ?_|refine blk_alloc ?_ _|refine blk_far ?_ NB253_260.out _); exact BK253.out) hb); replace BK260 := AX (blk_below (g := gb260) (o := .cells #[.int .i64 t254, .int .i64 t255, .int .i64 t256, .int .i64 t257, .int .i64 t258] 54 (0, 0)) (by (with_reducible repeat first|refine blk_drewN ?_ _|refine blk_drew ?_|refine blk_alloc ?_ _); refine blk_put (cs := #[.int .i64 t254, .int .i64 t255, .int .i64 t256, .int .i64 t257, .int .i64 0]) ?_ 4 _ rfl; (with_reducible repeat first|refine blk_drewN ?_ _|refine blk_drew ?_|refine blk_alloc ?_ _); refine blk_put (cs := #[.int .i64 t254, .int .i64 t255, .int .i64 t256, .int .i64 0, .int .i64 0]) ?_ 3 _ rfl; (with_reducible repeat first|refine blk_drewN ?_ _|refine blk_drew ?_|refine blk_alloc ?_ _); refine blk_put (cs := #[.int .i64 t254, .int .i64 t255, .int .i64 0, .int .i64 0, .int .i64 0]) ?_ 2 _ rfl; (with_reducible repeat first|refine blk_drewN ?_ _|refine blk_drew ?_|refine blk_alloc ?_ _); refine blk_put (cs := #[.int .i64 t254, .int .i64 0, .int .i64 0, .int .i64 0, .int .i64 0]) ?_ 1 _ rfl; (with_reducible repeat first|refine blk_drewN ?_ _|refine blk_drew ?_|refine blk_alloc ?_ _); refine blk_put (cs := #[.int .i64 0, .int .i64 0, .int .i64 0, .int .i64 0, .int .i64 0]) ?_ 0 _ rfl; (with_reducible repeat first|refine blk_drewN ?_ _|refine blk_drew ?_|refine blk_alloc ?_ _); exact BK260.out) hb); replace HB := AX (below_step bw hb); (try clear hb)))
   go_ret2
   exact ⟨by first | rfl | (simp [errW_none, errW_some] <;> rfl) | (simp [*, errW_none, errW_some] <;> rfl), bw⟩
 ·rw [if_neg c4] at H
  have c4b0 : (t259 == 0) = false := beq_eq_false_iff_ne.mpr c4
  have c4b1 : (t259 != 0) = true := bne_iff_ne.mpr c4
  simp only [Option.some.injEq, Prod.mk.injEq] at H
  obtain ⟨rfl, rfl⟩ := H
  go_enter Try.func25, Try.ntmps25
  go_wp2_with (first | ((with_reducible refine gate_dst (N := 2) rfl ?_); refine bx 2 #[.string a0_0, .int .i64 a0_1, .int .i64 a0_2, .int .i64 a0_3, .int .i64 a0_4, .int .i64 a0_5, .int .i64 a0_6, .int .i64 a0_7, .int .i64 a0_8, .int .i64 a0_9, .int .i64 a0_10, .int .i64 a0_11, .int .i64 a0_12, .int .i64 a0_13, .int .i64 a0_14, .slice A0_15 l0_15.length c0_15, .slice A0_16 l0_16.length c0_16, .slice A0_17 l0_17.length c0_17, .slice A0_18 l0_18.length c0_18, .int .i64 a0_19, .int .i64 a0_20, .int .i64 a0_21, .int .i64 a0_22, .int .i64 a0_23, .int .i64 a0_24, .int .i64 a0_25, .int .i64 a0_26, .int .i64 a0_27] 47 ?_; intro gb253 hg w61 hbox hb; have BK253 := AX (hbox); have GW253 := gwl (w := w) hg bw; have GE253 := GW253; replace HB := AX (below_step bw hb); clear hb hbox hg; obtain ⟨hcz62_0, hcz62_1, hcz62_2, hcz62_3, hcz62_4, hcz62_5, hcz62_6, hcz62_7, hcz62_8, hcz62_9, hcz62_10, hcz62_11, hcz62_12, hcz62_13, hcz62_14, hcz62_15, hcz62_16, hcz62_17, hcz62_18, hcz62_19, hcz62_20, hcz62_21, hcz62_22, hcz62_23, hcz62_24, hcz62_25, hcz62_26, hcz62_27⟩ := blkC28 (w := w61) BK253.out; obtain ⟨hfz62_0, hfz62_1, hfz62_2, hfz62_3, hfz62_4, hfz62_5, hfz62_6, hfz62_7, hfz62_8, hfz62_9, hfz62_10, hfz62_11, hfz62_12, hfz62_13, hfz62_14, hfz62_15, hfz62_16, hfz62_17, hfz62_18, hfz62_19, hfz62_20, hfz62_21, hfz62_22, hfz62_23, hfz62_24, hfz62_25, hfz62_26, hfz62_27⟩ := blkF28 BK253.out) | ((with_reducible refine gate_callee (f := 50) rfl ?_); refine gL (some 15) Try.func50 #[.agg #[.int .i64 a0_1, .int .i64 a0_2, .int .i64 a0_3, .int .i64 a0_4, .int .i64 a0_5, .int .i64 a0_6, .int .i64 a0_7, .int .i64 a0_8, .int .i64 a0_9, .int .i64 a0_10], .int .i64 a1] ?_; (with_reducible refine (zone_At.calls k a0_1 a0_2 a0_3 a0_4 a0_5 a0_6 a0_7 a0_8 a0_9 a0_10 a1 t254 t255 t256 t257 t258 t259 _ A3.out).mono ?_); rintro e w63 ⟨rfl, hb⟩; refine ⟨_, rfl, ?_⟩; replace BK253 := AX (bkb BK253 hb); replace HB := AX (below_step bw hb); (try clear hb)) | ((with_reducible refine gate_dst (N := 6) rfl ?_); refine bx 6 #[.int .i64 0, .int .i64 0, .int .i64 0, .int .i64 0, .int .i64 0] 54 ?_; intro gb260 hg w64 hbox hb; have BK260 := AX (hbox); have GW260 := gwl (w := w) hg bw; have GE260 := GW260; have NB253_260 := nbl hg (bkn BK253); have NB260_253 := nbg hg (bkn BK253); replace BK253 := AX (bkb BK253 hb); replace HB := AX (below_step bw hb); clear hb hbox hg; have hnb65 := NB260_253.out; have hnc65 := NB253_260.out; obtain ⟨hcz66_0, hcz66_1, hcz66_2, hcz66_3, hcz66_4⟩ := blkC5 (w := w64) BK260.out; obtain ⟨hfz66_0, hfz66_1, hfz66_2, hfz66_3, hfz66_4⟩ := blkF5 BK260.out))
  go_ret2
  exact ⟨by first | rfl | (simp [errW_none, errW_some] <;> rfl) | (simp [*, errW_none, errW_some] <;> rfl), bw⟩

end Go.Proofs.Ytkggjjggcbcdiaa.PX
