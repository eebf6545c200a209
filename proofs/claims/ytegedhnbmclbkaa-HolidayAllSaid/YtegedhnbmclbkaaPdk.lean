/- The library's unstable sort, walked, a row of elements of k cells; the function that compares may make memory. Here: the sort itself. Condition: the function that compares answers by an order of what lies in the row, and changes nothing that was there. -/
import Derived.Test.YtegedhnbmclbkaaPdc
import Derived.Test.YtegedhnbmclbkaaPdd
import Derived.Test.YtegedhnbmclbkaaPde
import Derived.Test.YtegedhnbmclbkaaPdh
import Derived.Test.YtegedhnbmclbkaaPdi
import Derived.Test.YtegedhnbmclbkaaPdj
import Derived.Sort.Walk13
import Derived.Sort.AssemblyPlain
namespace Go.Proofs.Ytegedhnbmclbkaa.Pd
open Go.Shelf Go.RowKit Go.Lib Go.Sort
set_option linter.unusedVariables false
set_option linter.unusedSimpArgs false
section
variable {α : Type} [Inhabited α] {enc : α → List Value} {k : Nat} {g sf : Nat} {lb sb : Array Value} {lt : α → α → Bool} {blk off n : Nat}
set_option maxHeartbeats 12800000 in
set_option maxRecDepth 1000000 in
theorem pdqsort (hO : SWO lt) (hk : ∀ x, (enc x).length = k) {w0 : World} (hless : Less g lb enc k lt blk off n w0) (eg : ∀ args w, (callFunc g args).run Try.prog w = .ok (.enter g args) w) (hswap : SwapSwapsK Try.prog sf sb enc k blk off n) (hn : n < 4611686018427387904) :
    ∀ (N : Nat) (W : World) (d : Array α) (a b limit : Nat), b - a < N → w0.grownBy W (some blk) → HoldsK enc k W blk off d → d.size = n → blk < W.heap.size → a ≤ b → b ≤ n → limit < 4611686018427387904 → Go.Sort.Below lt a b d →
    Calls Try.prog 41 #[dat g sf lb sb, .int .i64 a, .int .i64 b, .int .i64 limit] W fun e w' => e = .returned (.tuple #[]) ∧ Did enc k blk off (pdq lt d a b limit true true) W w' := by
  intro N
  induction N with
  | zero => intro _ _ _ _ _ h; exact absurd h (Nat.not_lt_zero _)
  | succ N ih =>
  intro W d a b limit hN h0 hH hd hblk hab hb hlimit hBel0
  have hW1 : Below W.heap.size W (W.alloc (.cells #[.func (.func g) #[] lb, .func (.func sf) #[] sb] 76)) := (Below.refl _ _).alloc (Nat.le_refl _) _
  have hH1 := h_below hH hblk hW1
  have hb1 : blk < (W.alloc (.cells #[.func (.func g) #[] lb, .func (.func sf) #[] sb] 76)).heap.size := Nat.lt_of_lt_of_le hblk hW1.size
  have H01 := Lib.hid (gb_trans h0 (gb_below hW1))
  have hne : W.heap.size ≠ blk := by omega
  have IS := Lib.hid (show ∀ (X : Array α) (w1 : World), Did enc k blk off X (W.alloc (.cells #[.func (.func g) #[] lb, .func (.func sf) #[] sb] 76)) w1 → X.size = n → ∀ x y : Nat, x ≤ y → y ≤ n → Calls Try.prog 61 #[dat g sf lb sb, .int .i64 x, .int .i64 y] w1 fun e w' => e = .returned (.tuple #[]) ∧ Did enc k blk off (Sort.insertionSort lt X x y) (W.alloc (.cells #[.func (.func g) #[] lb, .func (.func sf) #[] sb] 76)) w' from
    fun X w1 h hX x y q0 q1 => (insertion hk hless eg hswap hn w1 X (gb_trans H01.out h.2) h.1 hX (did_lt h hb1) x y q0 q1).mono fun e w' q => ⟨q.1, did_trans h q.2⟩)
  have HS := Lib.hid (show ∀ (X : Array α) (w1 : World), Did enc k blk off X (W.alloc (.cells #[.func (.func g) #[] lb, .func (.func sf) #[] sb] 76)) w1 → X.size = n → ∀ x y : Nat, x ≤ y → y ≤ n → Calls Try.prog 62 #[dat g sf lb sb, .int .i64 x, .int .i64 y] w1 fun e w' => e = .returned (.tuple #[]) ∧ Did enc k blk off (Sort.heapSort lt X x y) (W.alloc (.cells #[.func (.func g) #[] lb, .func (.func sf) #[] sb] 76)) w' from
    fun X w1 h hX x y q0 q1 => (heapSort hk hless eg hswap hn w1 X (gb_trans H01.out h.2) h.1 hX (did_lt h hb1) x y q0 q1).mono fun e w' q => ⟨q.1, did_trans h q.2⟩)
  have RV := Lib.hid (show ∀ (X : Array α) (w1 : World), Did enc k blk off X (W.alloc (.cells #[.func (.func g) #[] lb, .func (.func sf) #[] sb] 76)) w1 → X.size = n → ∀ x y : Nat, x ≤ y → y ≤ n → Calls Try.prog 65 #[dat g sf lb sb, .int .i64 x, .int .i64 y] w1 fun e w' => e = .returned (.tuple #[]) ∧ Did enc k blk off (Sort.reverseRange X x y) (W.alloc (.cells #[.func (.func g) #[] lb, .func (.func sf) #[] sb] 76)) w' from
    fun X w1 h hX x y q0 q1 => (reverseRange hk hswap hn w1 X h.1 hX (did_lt h hb1) x y q0 q1).mono fun e w' q => ⟨q.1, did_trans h q.2⟩)
  have BP := Lib.hid (show ∀ (X : Array α) (w1 : World), Did enc k blk off X (W.alloc (.cells #[.func (.func g) #[] lb, .func (.func sf) #[] sb] 76)) w1 → X.size = n → ∀ x y : Nat, x ≤ y → y ≤ n → Calls Try.prog 63 #[dat g sf lb sb, .int .i64 x, .int .i64 y] w1 fun e w' => e = .returned (.tuple #[]) ∧ Did enc k blk off (Sort.breakPatterns X x y) (W.alloc (.cells #[.func (.func g) #[] lb, .func (.func sf) #[] sb] 76)) w' from
    fun X w1 h hX x y q0 q1 => (breakPatterns hk hswap hn w1 X h.1 hX (did_lt h hb1) x y q0 q1).mono fun e w' q => ⟨q.1, did_trans h q.2⟩)
  have PI := Lib.hid (show ∀ (X : Array α) (w1 : World), Did enc k blk off X (W.alloc (.cells #[.func (.func g) #[] lb, .func (.func sf) #[] sb] 76)) w1 → X.size = n → ∀ x y : Nat, x < y → y ≤ n → Calls Try.prog 66 #[dat g sf lb sb, .int .i64 x, .int .i64 y] w1 fun e w' => e = .returned (.bool (Sort.partialInsertionSort lt X x y).2) ∧ Did enc k blk off (Sort.partialInsertionSort lt X x y).1 (W.alloc (.cells #[.func (.func g) #[] lb, .func (.func sf) #[] sb] 76)) w' from
    fun X w1 h hX x y q0 q1 => (partialInsertionSort hk hless eg hswap hn w1 X (gb_trans H01.out h.2) h.1 hX (did_lt h hb1) x y q0 q1).mono fun e w' q => ⟨q.1, did_trans h q.2⟩)
  have PE := Lib.hid (show ∀ (X : Array α) (w1 : World), Did enc k blk off X (W.alloc (.cells #[.func (.func g) #[] lb, .func (.func sf) #[] sb] 76)) w1 → X.size = n → ∀ x y p : Nat, x ≤ p → p < y → y ≤ n → Calls Try.prog 67 #[dat g sf lb sb, .int .i64 x, .int .i64 y, .int .i64 p] w1 fun e w' => e = .returned (.int .i64 (Sort.partitionEqual lt X x y p).1) ∧ Did enc k blk off (Sort.partitionEqual lt X x y p).2 (W.alloc (.cells #[.func (.func g) #[] lb, .func (.func sf) #[] sb] 76)) w' from
    fun X w1 h hX x y p q0 q1 q2 => (partitionEqual hk hless eg hswap hn w1 X (gb_trans H01.out h.2) h.1 hX (did_lt h hb1) x y p q0 q1 q2).mono fun e w' q => ⟨q.1, did_trans h q.2⟩)
  have PA := Lib.hid (show ∀ (X : Array α) (w1 : World), Did enc k blk off X (W.alloc (.cells #[.func (.func g) #[] lb, .func (.func sf) #[] sb] 76)) w1 → X.size = n → ∀ x y p : Nat, x ≤ p → p < y → y ≤ n → Calls Try.prog 68 #[dat g sf lb sb, .int .i64 x, .int .i64 y, .int .i64 p] w1 fun e w' => e = .returned (.tuple #[.int .i64 (Sort.partition lt X x y p).1, .bool (Sort.partition lt X x y p).2.1]) ∧ Did enc k blk off (Sort.partition lt X x y p).2.2 (W.alloc (.cells #[.func (.func g) #[] lb, .func (.func sf) #[] sb] 76)) w' from
    fun X w1 h hX x y p q0 q1 q2 => (partition hk hless eg hswap hn w1 X (gb_trans H01.out h.2) h.1 hX (did_lt h hb1) x y p q0 q1 q2).mono fun e w' q => ⟨q.1, did_trans h q.2⟩)
  have CP := Lib.hid (show ∀ (X : Array α) (w1 : World), Did enc k blk off X (W.alloc (.cells #[.func (.func g) #[] lb, .func (.func sf) #[] sb] 76)) w1 → X.size = n → ∀ x y : Nat, x < y → y ≤ n → Calls Try.prog 64 #[dat g sf lb sb, .int .i64 x, .int .i64 y] w1 fun e w' => e = .returned (.tuple #[.int .i64 (Sort.choosePivot lt X x y).1, .int .i64 (hintCode (Sort.choosePivot lt X x y).2)]) ∧ Did enc k blk off X (W.alloc (.cells #[.func (.func g) #[] lb, .func (.func sf) #[] sb] 76)) w' from
    fun X w1 h hX x y q0 q1 => (choosePivot hless eg hn w1 X (gb_trans H01.out h.2) h.1 hX (did_lt h hb1) x y q0 q1).mono fun e w' q => ⟨q.1, did_below h hb1 q.2⟩)
  have LS := Lib.hid (show ∀ (X : Array α) (w1 : World), Did enc k blk off X (W.alloc (.cells #[.func (.func g) #[] lb, .func (.func sf) #[] sb] 76)) w1 → X.size = n → ∀ i j : Nat, i < n → j < n → Calls Try.prog g (#[.int .i64 i, .int .i64 j] ++ lb) w1 fun e w' => e = .returned (.bool (lt X[i]! X[j]!)) ∧ Did enc k blk off X (W.alloc (.cells #[.func (.func g) #[] lb, .func (.func sf) #[] sb] 76)) w' from
    fun X w1 h hX i j q0 q1 => (hless w1 X (gb_trans H01.out h.2) h.1 hX i j q0 q1).mono fun e w' q => ⟨q.1, did_below h hb1 q.2⟩)
  have IH := Lib.hid (show ∀ (X : Array α) (w1 : World), Did enc k blk off X (W.alloc (.cells #[.func (.func g) #[] lb, .func (.func sf) #[] sb] 76)) w1 → X.size = n → ∀ x y l : Nat, y - x < N → x ≤ y → y ≤ n → l < 4611686018427387904 → Go.Sort.Below lt x y X → Calls Try.prog 41 #[dat g sf lb sb, .int .i64 x, .int .i64 y, .int .i64 l] w1 fun e w' => e = .returned (.tuple #[]) ∧ Did enc k blk off (pdq lt X x y l true true) (W.alloc (.cells #[.func (.func g) #[] lb, .func (.func sf) #[] sb] 76)) w' from
    fun X w1 h hX x y l q0 q1 q2 q3 q4 => (ih w1 X x y l q0 (gb_trans H01.out h.2) h.1 hX (did_lt h hb1) q1 q2 q3 q4).mono fun e w' q => ⟨q.1, did_trans h q.2⟩)
  have BX := Lib.hid (show ∀ (X : Array α) (w1 : World), Did enc k blk off X (W.alloc (.cells #[.func (.func g) #[] lb, .func (.func sf) #[] sb] 76)) w1 → w1.cell? ⟨W.heap.size, 0, none⟩ = some (.func (.func g) #[] lb) ∧ w1.cell? ⟨W.heap.size, 1, none⟩ = some (.func (.func sf) #[] sb) from
    fun X w1 h => ⟨(gb_cell h.2 (by simp) hne).trans (by simp), (gb_cell h.2 (by simp) hne).trans (by simp)⟩)
  have HD0 := Lib.hid (show Did enc k blk off d (W.alloc (.cells #[.func (.func g) #[] lb, .func (.func sf) #[] sb] 76)) (W.alloc (.cells #[.func (.func g) #[] lb, .func (.func sf) #[] sb] 76)) from ⟨hH1, gb_refl _ _, sh_refl _ _⟩)
  clear hless hswap hH hH1 ih h0
  go_enter Try.func41, Try.ntmps41
  go_wp2
  go_loopg [1, 2, 3, 8, 9] (b - a) (fun kq s1 s2 s3 s8 s9 wr => ∃ (a' b' lim : Nat) (wb wp : Bool) (dk : Array α), s1 = .int .i64 a' ∧ s2 = .int .i64 b' ∧ s3 = .int .i64 lim ∧ s8 = .bool wb ∧ s9 = .bool wp ∧
    a' ≤ b' ∧ b' ≤ n ∧ b' - a' ≤ kq ∧ kq ≤ b - a ∧ lim ≤ limit ∧ dk.size = n ∧ Go.Sort.Below lt a' b' dk ∧ Hid (Did enc k blk off dk (W.alloc (.cells #[.func (.func g) #[] lb, .func (.func sf) #[] sb] 76)) wr) ∧ Hid (pdq lt dk a' b' lim wb wp = pdq lt d a b limit true true))
  case atStart => exact ⟨a, b, limit, true, true, d, rfl, rfl, rfl, rfl, rfl, hab, hb, Nat.le_refl _, Nat.le_refl _, Nat.le_refl _, hd, hBel0, HD0, rfl⟩
  case round =>
    clear HD0
    obtain ⟨a', b', lim, wb, wp, dk, rfl, rfl, rfl, rfl, rfl, hab', hb', hkq, hkN, hlim, hds, hBel, HD, A⟩ := hrel
    have ⟨x0, x1⟩ := BX.out _ _ HD.out
    by_cases h12 : b' - a' ≤ 12
    · have h12z : (b' : Int) - (a' : Int) ≤ 12 := by omega
      have HC := Lib.hid (IS.out dk wr HD.out hds a' b' hab' hb')
      go_wp2_with (go_at_call 61; refine HC.out.mono ?_; rintro e w1 ⟨rfl, hD1⟩)
      (try simp only [Exit.inBlock, Exit.then]); refine bodyPost_ret (results_none rfl _ _ _) rfl ?_
      refine ⟨rfl, ?_⟩
      rw [← A.out, pdq_small h12]
      exact did_box hD1
    · have h12z : ¬ ((b' : Int) - (a' : Int) ≤ 12) := by omega
      by_cases hl0 : lim = 0
      · subst hl0
        have HC := Lib.hid (HS.out dk wr HD.out hds a' b' hab' hb')
        go_wp2_with (go_at_call 62; refine HC.out.mono ?_; rintro e w1 ⟨rfl, hD1⟩)
        (try simp only [Exit.inBlock, Exit.then]); refine bodyPost_ret (results_none rfl _ _ _) rfl ?_
        refine ⟨rfl, ?_⟩
        rw [← A.out, pdq_heap h12 rfl]
        exact did_box hD1
      · have hl0z : ¬ ((lim : Int) = 0) := by omega
        obtain ⟨s1, B1, hc1, s2, B2, hpv, s3, B3⟩ := rd_facts (lt := lt) (limit := lim) (wb := wb) (wp := wp) hO partialInsertionSort_holds reverseRange_holds (show a' < b' by omega) (show b' ≤ dk.size by omega) hBel
        go_upto_if 35 with fail
        go_cut [3] from 19 (fun s3 wc => s3 = .int .i64 (rd lt dk a' b' lim wb wp).lim ∧ Hid (Did enc k blk off (rd lt dk a' b' lim wb wp).d1 (W.alloc (.cells #[.func (.func g) #[] lb, .func (.func sf) #[] sb] 76)) wc))
        case first =>
          cases wb
          · have HC := Lib.hid (BP.out dk wr HD.out hds a' b' hab' hb')
            go_wp2_with (go_at_call 63; refine HC.out.mono ?_; rintro e w1 ⟨rfl, hD1⟩)
            go_meet
            case rel =>
              refine ⟨?_, hD1⟩
              show Value.int .i64 ((lim : Int) - 1) = Value.int .i64 ((lim - 1 : Nat) : Int)
              congr 1
              omega
          · go_wp2_with fail
            go_meet
            case rel => exact ⟨rfl, HD⟩
        case rest =>
          obtain ⟨rfl, HD1⟩ := hcut
          clear x0 x1 HD
          have ⟨y0, y1⟩ := BX.out _ _ HD1.out
          have HC := Lib.hid (show Calls Try.prog 64 #[dat g sf lb sb, .int .i64 a', .int .i64 b'] wc fun e w' => e = .returned (.tuple #[.int .i64 (rd lt dk a' b' lim wb wp).c.1, .int .i64 (hintCode (rd lt dk a' b' lim wb wp).c.2)]) ∧ Did enc k blk off (rd lt dk a' b' lim wb wp).d1 (W.alloc (.cells #[.func (.func g) #[] lb, .func (.func sf) #[] sb] 76)) w' from CP.out (rd lt dk a' b' lim wb wp).d1 wc HD1.out (s1.trans hds) a' b' (by omega) hb')
          go_upto_if 50 with (go_at_call 64; refine HC.out.mono ?_; rintro e w2 ⟨rfl, hD2⟩)
          have HD2 := Lib.hid hD2
          clear y0 y1 HC HD1 hD2
          have ⟨z0, z1⟩ := BX.out _ _ HD2.out
          go_cut [11, 12] from 19 (fun s11 s12 wc => s11 = .int .i64 (rd lt dk a' b' lim wb wp).pivot ∧ s12 = .int .i64 (hintCode (rd lt dk a' b' lim wb wp).hint) ∧ Hid (Did enc k blk off (rd lt dk a' b' lim wb wp).d2 (W.alloc (.cells #[.func (.func g) #[] lb, .func (.func sf) #[] sb] 76)) wc))
          case first =>
            by_cases hh : (rd lt dk a' b' lim wb wp).c.2 = .decreasing
            · have hcode : hintCode (rd lt dk a' b' lim wb wp).c.2 = 2 := by rw [hh]; rfl
              obtain ⟨e2, epv, eht⟩ := rd_dec hh
              have HC := Lib.hid (RV.out (rd lt dk a' b' lim wb wp).d1 w2 HD2.out (s1.trans hds) a' b' hab' hb')
              go_wp2_with (go_at_call 65; refine HC.out.mono ?_; rintro e w3 ⟨rfl, hD3⟩)
              go_meet
              case rel =>
                refine ⟨?_, by rw [eht]; rfl, by rw [e2]; exact hD3⟩
                rw [epv]
                congr 1
                omega
            · have hcode : ¬ (hintCode (rd lt dk a' b' lim wb wp).c.2 = 2) := fun h => hh (hintCode_two h)
              obtain ⟨e2, epv, eht⟩ := rd_not hh
              go_wp2_with fail
              go_meet
              case rel => exact ⟨by rw [epv], by rw [eht], by rw [e2]; exact HD2⟩
          case rest =>
            obtain ⟨rfl, rfl, HD3⟩ := hcut
            clear z0 z1 HD2
            have ⟨v0, v1⟩ := BX.out _ _ HD3.out
            go_upto_region 16 with fail
            go_cut [12, 68] from 19 (fun s12 s68 wx => s12 = .int .i64 (hintCode (rd lt dk a' b' lim wb wp).hint) ∧ s68 = .bool (wb && wp && decide ((rd lt dk a' b' lim wb wp).hint = .increasing)) ∧ wx = wc)
            case first =>
              cases wb <;> cases wp <;> cases hh3 : (rd lt dk a' b' lim _ _).hint <;>
                (have hcode3 := congrArg hintCode hh3
                 simp only [hintCode] at hcode3
                 go_wp2_with fail
                 go_meet
                 exact ⟨by simp [hh3, hintCode], by simp [hh3, hintCode], rfl⟩)
            case rest =>
              obtain ⟨rfl, rfl, rfl⟩ := hcut
              go_upto_if 68 with fail
              go_cut [] from 19 (fun wx => (rd lt dk a' b' lim wb wp).pi.2 = false ∧ Hid (Did enc k blk off (rd lt dk a' b' lim wb wp).pi.1 (W.alloc (.cells #[.func (.func g) #[] lb, .func (.func sf) #[] sb] 76)) wx))
              case first =>
                cases h68 : (wb && wp && decide ((rd lt dk a' b' lim wb wp).hint = .increasing))
                · have epi := rd_pi_no h68
                  go_wp2_with fail
                  go_meet
                  case rel => exact ⟨by rw [epi], by rw [epi]; exact HD3⟩
                · have epi := rd_pi_yes h68
                  have hc19 := PI.out (rd lt dk a' b' lim wb wp).d2 wc HD3.out (s2.trans hds) a' b' (by omega) hb'
                  rw [← epi] at hc19
                  have HC := Lib.hid hc19
                  clear hc19
                  go_wp2_with (go_at_call 66; refine HC.out.mono ?_; rintro e w4 ⟨rfl, hD4⟩)
                  all_goals first
                    | (have hp2 : (rd lt dk a' b' lim wb wp).pi.2 = false := by rw [epi]; assumption
                       go_meet
                       exact ⟨hp2, hD4⟩)
                    | (have hp2 : (rd lt dk a' b' lim wb wp).pi.2 = true := by rw [epi]; assumption
                       (try simp only [Exit.inBlock, Exit.then]); refine bodyPost_ret (results_none rfl _ _ _) rfl ?_
                       refine ⟨rfl, ?_⟩
                       rw [← A.out, pdq_done h12 hl0 hp2]
                       exact did_box hD4)
              case rest =>
                obtain ⟨hp2, HD5⟩ := hcut
                clear v0 v1 HD3
                have ⟨t0, t1⟩ := BX.out _ _ HD5.out
                go_upto_region 18 with fail
                go_cut [83] from 19 (fun s83 wx => s83 = .bool (decide (a' > 0) && !lt (rd lt dk a' b' lim wb wp).pi.1[a' - 1]! (rd lt dk a' b' lim wb wp).pi.1[(rd lt dk a' b' lim wb wp).pivot]!) ∧ Hid (Did enc k blk off (rd lt dk a' b' lim wb wp).pi.1 (W.alloc (.cells #[.func (.func g) #[] lb, .func (.func sf) #[] sb] 76)) wx))
                case first =>
                  rcases Nat.eq_zero_or_pos a' with ha0 | ha0
                  · have ha0z : decide ((a' : Int) > 0) = false := decide_eq_false (by omega)
                    go_wp2_with fail
                    go_meet
                    case rel => exact ⟨by simp [ha0], HD5⟩
                  · have ha0z : (a' : Int) > 0 := by omega
                    have hl := LS.out (rd lt dk a' b' lim wb wp).pi.1 wc HD5.out (s3.trans hds) (a' - 1) (rd lt dk a' b' lim wb wp).pivot (by omega) (by omega)
                    rw [show ((a' - 1 : Nat) : Int) = (a' : Int) - 1 by omega] at hl
                    cases hlv : lt (rd lt dk a' b' lim wb wp).pi.1[a' - 1]! (rd lt dk a' b' lim wb wp).pi.1[(rd lt dk a' b' lim wb wp).pivot]! <;>
                      (rw [hlv] at hl
                       have HC := Lib.hid hl
                       clear hl
                       go_wp2_with (go_at_fn g; refine HC.out.mono ?_; rintro e w' ⟨rfl, hD5⟩)
                       go_meet
                       exact ⟨by simp [ha0, hlv], hD5⟩)
                case rest =>
                  obtain ⟨rfl, HD6⟩ := hcut
                  clear t0 t1 HD5
                  have ⟨q0, q1⟩ := BX.out _ _ HD6.out
                  cases h87 : (decide (a' > 0) && !lt (rd lt dk a' b' lim wb wp).pi.1[a' - 1]! (rd lt dk a' b' lim wb wp).pi.1[(rd lt dk a' b' lim wb wp).pivot]!)
                  · obtain ⟨mid, ap, d4, hx⟩ : ∃ mid ap d4, Sort.partition lt (rd lt dk a' b' lim wb wp).pi.1 a' b' (rd lt dk a' b' lim wb wp).pivot = (mid, ap, d4) := ⟨_, _, _, rfl⟩
                    obtain ⟨r1, r2, r3, r4, r5, r6, r7⟩ := round_part hO (partition_holds lt) hpv.1 hpv.2 (show b' ≤ (rd lt dk a' b' lim wb wp).pi.1.size by omega) B3 hx
                    have hc22 := PA.out (rd lt dk a' b' lim wb wp).pi.1 wc HD6.out (s3.trans hds) a' b' (rd lt dk a' b' lim wb wp).pivot hpv.1 hpv.2 hb'
                    rw [hx] at hc22
                    have HC := Lib.hid hc22
                    have X := Lib.hid hx
                    clear hx hc22
                    go_upto_if 109 with (go_at_call 68; refine HC.out.mono ?_; rintro e w7 ⟨rfl, hD7⟩)
                    have hx := X.out
                    have hs4 : d4.size = n := r3.trans (s3.trans hds)
                    have HD7 := Lib.hid hD7
                    clear q0 q1 hD7 HD6 HC
                    have ⟨p0, p1⟩ := BX.out _ _ HD7.out
                    by_cases h4 : mid - a' < b' - mid
                    · have h4z : (mid : Int) - (a' : Int) < (b' : Int) - (mid : Int) := by omega
                      have HC := Lib.hid (IH.out d4 w7 HD7.out hs4 a' mid (rd lt dk a' b' lim wb wp).lim (by omega) (by omega) (by omega) (Nat.lt_of_le_of_lt (Nat.le_trans rd_lim_le hlim) hlimit) r4)
                      obtain ⟨pL, sL⟩ := pdq_sorts lt hO d4 a' mid (rd lt dk a' b' lim wb wp).lim true true (by omega) (by omega) r4
                      go_wp2_with (go_at_call 41; refine HC.out.mono ?_; rintro e w8 ⟨rfl, hD8⟩)
                      go_roundg (b' - (mid + 1))
                      case measure => omega
                      case rel =>
                        refine ⟨mid + 1, b', (rd lt dk a' b' lim wb wp).lim, decide (mid - a' ≥ (b' - a') / 8), ap, pdq lt d4 a' mid (rd lt dk a' b' lim wb wp).lim true true, by simp, rfl, rfl, ?_, rfl, by omega, by omega, Nat.le_refl _, by omega, Nat.le_trans rd_lim_le hlim, by rw [pL.1, hs4], (r6 _ pL sL).1, hD8, ?_⟩
                        · exact congrArg Value.bool (eighth (by omega) (by omega))
                        · show _ = _; rw [← A.out, pdq_left h12 hl0 hp2 h87 (by rw [hx]; exact ⟨r1, r2⟩) (by rw [hx]; exact h4), hx]
                    · have h4z : ¬ ((mid : Int) - (a' : Int) < (b' : Int) - (mid : Int)) := by omega
                      have hih := IH.out d4 w7 HD7.out hs4 (mid + 1) b' (rd lt dk a' b' lim wb wp).lim (by omega) (by omega) (by omega) (Nat.lt_of_le_of_lt (Nat.le_trans rd_lim_le hlim) hlimit) r5
                      rw [show ((mid + 1 : Nat) : Int) = (mid : Int) + 1 by omega] at hih
                      have HC := Lib.hid hih
                      clear hih
                      obtain ⟨pL, sL⟩ := pdq_sorts lt hO d4 (mid + 1) b' (rd lt dk a' b' lim wb wp).lim true true (by omega) (by omega) r5
                      go_wp2_with (go_at_call 41; refine HC.out.mono ?_; rintro e w8 ⟨rfl, hD8⟩)
                      go_roundg (mid - a')
                      case measure => omega
                      case rel =>
                        refine ⟨a', mid, (rd lt dk a' b' lim wb wp).lim, decide (b' - mid ≥ (b' - a') / 8), ap, pdq lt d4 (mid + 1) b' (rd lt dk a' b' lim wb wp).lim true true, rfl, rfl, rfl, ?_, rfl, by omega, by omega, Nat.le_refl _, by omega, Nat.le_trans rd_lim_le hlim, by rw [pL.1, hs4], (r7 _ pL sL).1, hD8, ?_⟩
                        · exact congrArg Value.bool (eighth (by omega) (by omega))
                        · show _ = _; rw [← A.out, pdq_right h12 hl0 hp2 h87 (by rw [hx]; exact ⟨r1, r2⟩) (by rw [hx]; exact h4), hx]
                  · have h87' := h87
                    simp only [Bool.and_eq_true, decide_eq_true_eq, Bool.not_eq_true'] at h87'
                    obtain ⟨mid, d4, hx⟩ : ∃ mid d4, Sort.partitionEqual lt (rd lt dk a' b' lim wb wp).pi.1 a' b' (rd lt dk a' b' lim wb wp).pivot = (mid, d4) := ⟨_, _, rfl⟩
                    obtain ⟨r1, r2, r3, r4, _⟩ := round_eq hO (partitionEqual_holds lt) h87'.1 hpv.1 hpv.2 (show b' ≤ (rd lt dk a' b' lim wb wp).pi.1.size by omega) B3 h87'.2 hx
                    have hc21 := PE.out (rd lt dk a' b' lim wb wp).pi.1 wc HD6.out (s3.trans hds) a' b' (rd lt dk a' b' lim wb wp).pivot hpv.1 hpv.2 hb'
                    rw [hx] at hc21
                    have HC := Lib.hid hc21
                    have X := Lib.hid hx
                    clear hx hc21
                    go_wp2_with (go_at_call 67; refine HC.out.mono ?_; rintro e w7 ⟨rfl, hD7⟩)
                    go_roundg (b' - mid)
                    case measure => omega
                    case rel =>
                      have hx := X.out
                      exact ⟨mid, b', (rd lt dk a' b' lim wb wp).lim, wb, wp, d4, rfl, rfl, rfl, rfl, rfl, r2, hb', Nat.le_refl _, by omega, Nat.le_trans rd_lim_le hlim, by rw [r3, s3, hds], r4, hD7, by show _ = _; rw [← A.out, pdq_eq h12 hl0 hp2 h87 (by rw [hx]; exact ⟨r1, r2⟩), hx]⟩
end
end Go.Proofs.Ytegedhnbmclbkaa.Pd
