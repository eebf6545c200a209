/- Functions of the program as plain Lean functions, each with a proof that the call in the machine answers just what the plain function says; condition: the plain function answers at all. -/
import Derived.Test.YtkggjjggcbcdiaaPXx0
import Derived.BigQuiet
namespace Go.Proofs.Ytkggjjggcbcdiaa.PX
open Go.RowKit Go.Proofs.YtkggjjggcbcdiaaW.PrintWords Go.Proofs.YtkggjjggcbcdiaaW.PrintLast Go.Proofs.YtkggjjggcbcdiaaW.PrintMore
attribute [local go_sem] max2_int min2_int max_two min_two max_three min_three max_four min_four   -- for this text's walks alone
set_option linter.unusedVariables false
set_option linter.unusedSimpArgs false

/-! ### pylonref09_windows: function 57 -/
/-- is a window's bucket a block's, among the first j? its season a season's? -/
def pylonref09_windows.kn (l : List S63) (s : ByteArray) (j : Nat) : Bool := (List.range j).any fun t => (rd_T63 l t).f0.toList == s.toList
def pylonref09_windows.nm (l : List S58) (s : ByteArray) (j : Nat) : Bool := (List.range j).any fun t => (rd_T58 l t).f0.toList == s.toList
def pylonref09_windows.good (ss : List S58) (bs : List S63) (x : S60) : Bool := pylonref09_windows.kn bs x.f4 bs.length && (pylonref09_windows.nm ss x.f0 ss.length && (decide (0 ≤ x.f1) && (decide (x.f1 ≤ 3) && (decide (0 ≤ x.f2) && (decide (x.f2 < x.f3) && (decide (x.f3 ≤ 1440) && (x.f2.tmod 15 == 0 && x.f3.tmod 15 == 0)))))))
def pylonref09_windows.fits (x : S60) (s : ByteArray) (kd q : Nat) : Bool := x.f0.toList == s.toList && (x.f1 == (kd : Int) && (decide (x.f2 ≤ 15 * (q : Int)) && decide (15 * (q : Int) < x.f3)))
/-- how many of the first j windows hold a quarter -/
def pylonref09_windows.cnt (l : List S60) (s : ByteArray) (kd q : Nat) : Nat → Nat
  | 0 => 0
  | j + 1 => pylonref09_windows.cnt l s kd q j + if pylonref09_windows.fits (rd_T60 l j) s kd q = true then 1 else 0
def pylonref09_windows.once (ss : List S58) (ws : List S60) : Bool := (List.range ss.length).all fun s => (List.range 4).all fun kd => (List.range 96).all fun q => pylonref09_windows.cnt ws (rd_T58 ss s).f0 kd q ws.length == 1
def pylonref09_windows.all (ss : List S58) (bs : List S63) (ws : List S60) : Bool := (List.range ws.length).all fun i => pylonref09_windows.good ss bs (rd_T60 ws i)
def pylonref09_windows.f (a0_0 : ByteArray) (a0_1 : Int) (a0_2 : Int) (a0_3 : Int) (a0_4 : Int) (a0_5 : Int) (a0_6 : Int) (a0_7 : Int) (a0_8 : Int) (a0_9 : Int) (a0_10 : Int) (a0_11 : Int) (a0_12 : Int) (a0_13 : Int) (a0_14 : Int) (l0_15 : List (S58)) (l0_16 : List (S65)) (l0_17 : List (S60)) (l0_18 : List (S63)) (a0_19 : Int) (a0_20 : Int) (a0_21 : Int) (a0_22 : Int) (a0_23 : Int) (a0_24 : Int) (a0_25 : Int) (a0_26 : Int) (a0_27 : Int) : Option Bool := if l0_17.length < 1 ∨ 64 < l0_17.length then some false else some (pylonref09_windows.all l0_15 l0_18 l0_17 && pylonref09_windows.once l0_15 l0_17)
theorem wd_at {w w' : World} {g : Nat} {o : Obj} (h : w.heap[g]? = some o) (hB : Below w.heap.size w w') : w'.heap[g]? = some o := (hB.block g (Array.getElem?_eq_some_iff.1 h).1).trans h
theorem wd_cell {w : World} {g t j : Nat} {C : Array Value} {v : Value} (h : w.heap[g]? = some (.cells C t (0, 0))) (h2 : C[j]? = some v) : w.cell? ⟨g, j, none⟩ = some v := by simp [World.cell?, h, h2]
theorem wd_dr {b : Nat} {w w' : World} (h : Below b w w') (q : Nat) : Below b w (w'.drewN q) := ⟨h.os, h.tape, h.output, h.size, h.block⟩
theorem pylonref09_windows.cnt_le (l : List S60) (s : ByteArray) (kd q : Nat) : ∀ j, pylonref09_windows.cnt l s kd q j ≤ j := by
  intro j
  induction j with
  | zero => exact Nat.le_refl _
  | succ j ih => rw [pylonref09_windows.cnt]; split <;> omega
theorem pylonref09_windows.once_no {ss : List S58} {ws : List S60} {s kd q : Nat} (hs : s < ss.length) (hk : kd < 4) (hq : q < 96) (h : pylonref09_windows.cnt ws (rd_T58 ss s).f0 kd q ws.length ≠ 1) : pylonref09_windows.once ss ws = false := by
  unfold pylonref09_windows.once
  rw [List.all_eq_false]
  refine ⟨s, List.mem_range.2 hs, ?_⟩
  rw [Bool.not_eq_true, List.all_eq_false]
  refine ⟨kd, List.mem_range.2 hk, ?_⟩
  rw [Bool.not_eq_true, List.all_eq_false]
  exact ⟨q, List.mem_range.2 hq, by simpa using h⟩
theorem pylonref09_windows.once_yes {ss : List S58} {ws : List S60} (h : ∀ s, s < ss.length → ∀ kd, kd < 4 → ∀ q, q < 96 → pylonref09_windows.cnt ws (rd_T58 ss s).f0 kd q ws.length = 1) : pylonref09_windows.once ss ws = true := by
  unfold pylonref09_windows.once
  simp only [List.all_eq_true, List.mem_range, beq_iff_eq]
  exact fun s hs kd hk q hq => h s hs kd hk q hq
theorem any_succ (p : Nat → Bool) (j : Nat) : (List.range (j + 1)).any p = ((List.range j).any p || p j) := by rw [List.range_succ, List.any_append]; simp
set_option maxHeartbeats 16000000 in
set_option maxRecDepth 100000 in
theorem pylonref09_windows.calls (a0_0 : ByteArray) (a0_1 : Int) (a0_2 : Int) (a0_3 : Int) (a0_4 : Int) (a0_5 : Int) (a0_6 : Int) (a0_7 : Int) (a0_8 : Int) (a0_9 : Int) (a0_10 : Int) (a0_11 : Int) (a0_12 : Int) (a0_13 : Int) (a0_14 : Int) (A0_15 : Option Addr) (c0_15 : Nat) (l0_15 : List (S58)) (A0_16 : Option Addr) (c0_16 : Nat) (l0_16 : List (S65)) (A0_17 : Option Addr) (c0_17 : Nat) (l0_17 : List (S60)) (A0_18 : Option Addr) (c0_18 : Nat) (l0_18 : List (S63)) (a0_19 : Int) (a0_20 : Int) (a0_21 : Int) (a0_22 : Int) (a0_23 : Int) (a0_24 : Int) (a0_25 : Int) (a0_26 : Int) (a0_27 : Int) (r : Bool) (w : World) (hr0_15 : Kd.C k58 w A0_15 l0_15.length l0_15) (hc0_15 : l0_15.length ≤ c0_15) (hr0_16 : Kd.C k65 w A0_16 l0_16.length l0_16) (hc0_16 : l0_16.length ≤ c0_16) (hr0_17 : Kd.C k60 w A0_17 l0_17.length l0_17) (hc0_17 : l0_17.length ≤ c0_17) (hr0_18 : Kd.C k63 w A0_18 l0_18.length l0_18) (hc0_18 : l0_18.length ≤ c0_18) (h : pylonref09_windows.f a0_0 a0_1 a0_2 a0_3 a0_4 a0_5 a0_6 a0_7 a0_8 a0_9 a0_10 a0_11 a0_12 a0_13 a0_14 l0_15 l0_16 l0_17 l0_18 a0_19 a0_20 a0_21 a0_22 a0_23 a0_24 a0_25 a0_26 a0_27 = some r) :
  Calls Try.prog 57 #[.agg #[.string a0_0, .int .i64 a0_1, .int .i64 a0_2, .int .i64 a0_3, .int .i64 a0_4, .int .i64 a0_5, .int .i64 a0_6, .int .i64 a0_7, .int .i64 a0_8, .int .i64 a0_9, .int .i64 a0_10, .int .i64 a0_11, .int .i64 a0_12, .int .i64 a0_13, .int .i64 a0_14, .slice A0_15 l0_15.length c0_15, .slice A0_16 l0_16.length c0_16, .slice A0_17 l0_17.length c0_17, .slice A0_18 l0_18.length c0_18, .int .i64 a0_19, .int .i64 a0_20, .int .i64 a0_21, .int .i64 a0_22, .int .i64 a0_23, .int .i64 a0_24, .int .i64 a0_25, .int .i64 a0_26, .int .i64 a0_27]] w fun e w' => e = .returned (.bool r) ∧ Below w.heap.size w w' := by
  unfold pylonref09_windows.f at h
  have HR0_15 := AX hr0_15
  have HC0_15 := AX hc0_15
  have hl15 := hr0_15.2.1
  have HR0_17 := AX hr0_17
  have HC0_17 := AX hc0_17
  have hl17 := hr0_17.2.1
  have HR0_18 := AX hr0_18
  have HC0_18 := AX hc0_18
  have hl18 := hr0_18.2.1
  clear hr0_15 hc0_15 hr0_16 hc0_16 hr0_17 hc0_17 hr0_18 hc0_18
  have HB := AX (Below.refl w.heap.size w)
  have HH := AX h
  clear h
  by_cases c1 : l0_17.length < 1
  · have hh := HH.out
    rw [if_pos (.inl c1)] at hh
    cases hh
    have d1 : decide ((l0_17.length : Int) < 1) = true := decide_eq_true (by omega)
    go_enter Try.func57, Try.ntmps57
    go_wp2_with ((with_reducible refine gate_dst (N := 1) rfl ?_); refine bx 1 #[.string a0_0, .int .i64 a0_1, .int .i64 a0_2, .int .i64 a0_3, .int .i64 a0_4, .int .i64 a0_5, .int .i64 a0_6, .int .i64 a0_7, .int .i64 a0_8, .int .i64 a0_9, .int .i64 a0_10, .int .i64 a0_11, .int .i64 a0_12, .int .i64 a0_13, .int .i64 a0_14, .slice A0_15 l0_15.length c0_15, .slice A0_16 l0_16.length c0_16, .slice A0_17 l0_17.length c0_17, .slice A0_18 l0_18.length c0_18, .int .i64 a0_19, .int .i64 a0_20, .int .i64 a0_21, .int .i64 a0_22, .int .i64 a0_23, .int .i64 a0_24, .int .i64 a0_25, .int .i64 a0_26, .int .i64 a0_27] 47 ?_; intro gb hg w0 hbox hb; have BK := AX hbox; have e17 := wd_cell (j := 17) (v := .slice A0_17 l0_17.length c0_17) hbox rfl; have GW := gwl (w := w) hg bw; replace HB := AX (below_step bw hb); clear hb hbox hg)
    go_ret
    exact ⟨rfl, HB.out⟩
  · by_cases c2 : 64 < l0_17.length
    · have hh := HH.out
      rw [if_pos (.inr c2)] at hh
      cases hh
      have d1 : decide ((l0_17.length : Int) < 1) = false := decide_eq_false (by omega)
      have d2 : decide ((64 : Int) < (l0_17.length : Int)) = true := decide_eq_true (by omega)
      go_enter Try.func57, Try.ntmps57
      go_wp2_with ((with_reducible refine gate_dst (N := 1) rfl ?_); refine bx 1 #[.string a0_0, .int .i64 a0_1, .int .i64 a0_2, .int .i64 a0_3, .int .i64 a0_4, .int .i64 a0_5, .int .i64 a0_6, .int .i64 a0_7, .int .i64 a0_8, .int .i64 a0_9, .int .i64 a0_10, .int .i64 a0_11, .int .i64 a0_12, .int .i64 a0_13, .int .i64 a0_14, .slice A0_15 l0_15.length c0_15, .slice A0_16 l0_16.length c0_16, .slice A0_17 l0_17.length c0_17, .slice A0_18 l0_18.length c0_18, .int .i64 a0_19, .int .i64 a0_20, .int .i64 a0_21, .int .i64 a0_22, .int .i64 a0_23, .int .i64 a0_24, .int .i64 a0_25, .int .i64 a0_26, .int .i64 a0_27] 47 ?_; intro gb hg w0 hbox hb; have BK := AX hbox; have e17 := wd_cell (j := 17) (v := .slice A0_17 l0_17.length c0_17) hbox rfl; have GW := gwl (w := w) hg bw; replace HB := AX (below_step bw hb); clear hb hbox hg)
      go_ret
      exact ⟨rfl, HB.out⟩
    · have hh := HH.out
      rw [if_neg (by omega)] at hh
      simp only [Option.some.injEq] at hh
      have HR := AX hh
      clear hh HH
      have d1 : decide ((l0_17.length : Int) < 1) = false := decide_eq_false (by omega)
      have d2 : decide ((64 : Int) < (l0_17.length : Int)) = false := decide_eq_false (by omega)
      go_enter Try.func57, Try.ntmps57
      go_wp2_with ((with_reducible refine gate_dst (N := 1) rfl ?_); refine bx 1 #[.string a0_0, .int .i64 a0_1, .int .i64 a0_2, .int .i64 a0_3, .int .i64 a0_4, .int .i64 a0_5, .int .i64 a0_6, .int .i64 a0_7, .int .i64 a0_8, .int .i64 a0_9, .int .i64 a0_10, .int .i64 a0_11, .int .i64 a0_12, .int .i64 a0_13, .int .i64 a0_14, .slice A0_15 l0_15.length c0_15, .slice A0_16 l0_16.length c0_16, .slice A0_17 l0_17.length c0_17, .slice A0_18 l0_18.length c0_18, .int .i64 a0_19, .int .i64 a0_20, .int .i64 a0_21, .int .i64 a0_22, .int .i64 a0_23, .int .i64 a0_24, .int .i64 a0_25, .int .i64 a0_26, .int .i64 a0_27] 47 ?_; intro gb hg w0 hbox hb; have BK := AX hbox; have e17 := wd_cell (j := 17) (v := .slice A0_17 l0_17.length c0_17) hbox rfl; have GW := gwl (w := w) hg bw; replace HB := AX (below_step bw hb); clear hb hbox hg)
      obtain ⟨C, hC⟩ : ∃ C : Array Value, (#[.string a0_0, .int .i64 a0_1, .int .i64 a0_2, .int .i64 a0_3, .int .i64 a0_4, .int .i64 a0_5, .int .i64 a0_6, .int .i64 a0_7, .int .i64 a0_8, .int .i64 a0_9, .int .i64 a0_10, .int .i64 a0_11, .int .i64 a0_12, .int .i64 a0_13, .int .i64 a0_14, .slice A0_15 l0_15.length c0_15, .slice A0_16 l0_16.length c0_16, .slice A0_17 l0_17.length c0_17, .slice A0_18 l0_18.length c0_18, .int .i64 a0_19, .int .i64 a0_20, .int .i64 a0_21, .int .i64 a0_22, .int .i64 a0_23, .int .i64 a0_24, .int .i64 a0_25, .int .i64 a0_26, .int .i64 a0_27] : Array Value) = C := ⟨_, rfl⟩
      rw [hC] at BK
      have E15 := AX (show C[15]? = some (.slice A0_15 l0_15.length c0_15) by rw [← hC]; rfl)
      have E17 := AX (show C[17]? = some (.slice A0_17 l0_17.length c0_17) by rw [← hC]; rfl)
      have E18 := AX (show C[18]? = some (.slice A0_18 l0_18.length c0_18) by rw [← hC]; rfl)
      clear hC e17
      go_loopw [28] (fun vi wr => ∃ i : Nat, vi = .int .i64 i ∧ i ≤ l0_17.length ∧ Aside0 (Below w0.heap.size w0 wr ∧ ∀ j : Nat, j < i → pylonref09_windows.good l0_15 l0_18 (rd_T60 l0_17 j) = true)) (fun vi _ => l0_17.length - (intOf vi).toNat)
      case atStart => exact ⟨0, rfl, by omega, AX ⟨Below.refl _ _, fun j h => by omega⟩⟩
      case round =>
        obtain ⟨i, rfl, hi, HL⟩ := hrel
        have e15 := wd_cell (wd_at BK.out HL.out.1) E15.out
        have e17 := wd_cell (wd_at BK.out HL.out.1) E17.out
        have e18 := wd_cell (wd_at BK.out HL.out.1) E18.out
        by_cases hlt : i < l0_17.length
        · obtain ⟨ad, eA, x0, x1, x2, x3, x4⟩ := at_T60 (Kd.C_below HR0_17.out (HB.out.trans (HL.out.1.mono HB.out.size))) (i : Int) (by omega) (by omega)
          obtain ⟨⟨f0, f1, f2, f3, f4⟩, hrd⟩ : ∃ s, rd_T60 l0_17 (i : Int) = s := ⟨_, rfl⟩
          rw [hrd] at x0 x1 x2 x3 x4
          simp only [Int.toNat_natCast] at x0 x1 x2 x3 x4
          have HRD := AX hrd
          have HAD := AX eA
          subst eA
          clear hrd
          go_upto_region 6 with (fail)
          go_cut [4] (fun v4 wx => v4 = .pointer (some ⟨wr.heap.size, 0, none⟩) ∧ Aside0 (wx = wr.alloc (.cells #[.string f0, .int .i64 f1, .int .i64 f2, .int .i64 f3, .string f4] 60)))
          case first =>
            go_wp2
            go_meet
            case rel => exact ⟨rfl, AX rfl⟩
          case rest =>
            obtain ⟨rfl, HW⟩ := hcut
            have hw := HW.out
            obtain ⟨wx, hwx⟩ : ∃ x : World, x = wc := ⟨_, rfl⟩
            subst hwx
            have HBX := AX (show wx.heap[wr.heap.size]? = some (.cells #[.string f0, .int .i64 f1, .int .i64 f2, .int .i64 f3, .string f4] 60 (0, 0)) by rw [hw]; exact heap_alloc_new _ _)
            have HBW := AX (show Below w0.heap.size w0 wx by rw [hw]; exact HL.out.1.alloc (HL.out.1.size) _)
            have HGD := AX HL.out.2
            obtain ⟨bg, hbg⟩ : ∃ bg, wr.heap.size = bg := ⟨_, rfl⟩
            rw [hbg] at HBX ⊢
            clear hw HW HL hbg e15 e17 e18 x0 x1 x2 x3 x4
            have e15 := wd_cell (wd_at BK.out HBW.out) E15.out
            have e18 := wd_cell (wd_at BK.out HBW.out) E18.out
            have g4 : wx.cell? ⟨bg, 4, none⟩ = some (.string f4) := wd_cell HBX.out rfl
            go_wp2
            go_loopw [5, 39] (fun v5 vj wj => ∃ j : Nat, v5 = .bool (pylonref09_windows.kn l0_18 f4 j) ∧ vj = .int .i64 j ∧ j ≤ l0_18.length ∧ Aside0 (∃ q, wj = wx.drewN q)) (fun _ vj _ => l0_18.length - (intOf vj).toNat)
            case atStart => exact ⟨0, rfl, rfl, by omega, AX ⟨0, rfl⟩⟩
            case round =>
              obtain ⟨j, rfl, rfl, hj, HJ⟩ := hrel
              obtain ⟨qj, rfl⟩ := HJ.out
              by_cases hlj : j < l0_18.length
              · obtain ⟨ad', A1', c1', eA', z0, z1, z2, z3⟩ := at_T63 (Kd.C_below HR0_18.out (HB.out.trans (HBW.out.mono HB.out.size))) (j : Int) (by omega) (by omega)
                simp only [Int.toNat_natCast] at z0
                have HEA := AX eA'
                subst eA'
                obtain ⟨nj, hnj⟩ : ∃ s, (rd_T63 l0_18 (j : Int)).f0 = s := ⟨_, rfl⟩
                rw [hnj] at z0
                obtain ⟨b5, hb5⟩ : ∃ x, pylonref09_windows.kn l0_18 f4 j = x := ⟨_, rfl⟩
                have HS := AX (show pylonref09_windows.kn l0_18 f4 (j + 1) = (b5 || (nj.toList == f4.toList)) by unfold pylonref09_windows.kn at *; rw [any_succ, hb5, hnj])
                rw [hb5]
                clear hb5 hnj HJ
                cases b5 with
                | true =>
                  go_upto_region 11 with (fail)
                  go_quiet (fail)
                  go_wp2
                  go_roundw
                  case rel => exact ⟨j + 1, by rw [HS.out]; rfl, by go_num, by omega, AX ⟨_, rfl⟩⟩
                  case measure => simp [intOf]; omega
                | false =>
                  by_cases cn : nj.toList = f4.toList
                  · have c3b0 : (nj.toList == f4.toList) = true := beq_iff_eq.mpr cn
                    rw [c3b0] at HS
                    clear cn
                    go_upto_region 11 with (fail)
                    go_quiet (fail)
                    go_wp2
                    go_roundw
                    case rel => exact ⟨j + 1, by rw [HS.out]; rfl, by go_num, by omega, AX ⟨_, rfl⟩⟩
                    case measure => simp [intOf]; omega
                  · have c3b0 : (nj.toList == f4.toList) = false := beq_eq_false_iff_ne.mpr cn
                    rw [c3b0] at HS
                    clear cn
                    go_upto_region 11 with (fail)
                    go_quiet (fail)
                    go_wp2
                    go_roundw
                    case rel => exact ⟨j + 1, by rw [HS.out]; rfl, by go_num, by omega, AX ⟨_, rfl⟩⟩
                    case measure => simp [intOf]; omega
              · obtain rfl : j = l0_18.length := by omega
                clear g4 HJ hj hlj
                have g0 : wx.cell? ⟨bg, 0, none⟩ = some (.string f0) := wd_cell HBX.out rfl
                go_wp2
                go_loopw [7, 58] (fun v7 vj wj => ∃ j : Nat, v7 = .bool (pylonref09_windows.nm l0_15 f0 j) ∧ vj = .int .i64 j ∧ j ≤ l0_15.length ∧ Aside0 (∃ q, wj = wx.drewN q)) (fun _ vj _ => l0_15.length - (intOf vj).toNat)
                case atStart => exact ⟨0, rfl, rfl, by omega, AX ⟨_, rfl⟩⟩
                case round =>
                  obtain ⟨j, rfl, rfl, hj, HJ⟩ := hrel
                  obtain ⟨qk, rfl⟩ := HJ.out
                  by_cases hlj : j < l0_15.length
                  · obtain ⟨ad', eA', z0, z1, z2⟩ := at_T58 (Kd.C_below HR0_15.out (HB.out.trans (HBW.out.mono HB.out.size))) (j : Int) (by omega) (by omega)
                    simp only [Int.toNat_natCast] at z0
                    have HEA := AX eA'
                    subst eA'
                    obtain ⟨nj, hnj⟩ : ∃ s, (rd_T58 l0_15 (j : Int)).f0 = s := ⟨_, rfl⟩
                    rw [hnj] at z0
                    obtain ⟨b5, hb5⟩ : ∃ x, pylonref09_windows.nm l0_15 f0 j = x := ⟨_, rfl⟩
                    have HS := AX (show pylonref09_windows.nm l0_15 f0 (j + 1) = (b5 || (nj.toList == f0.toList)) by unfold pylonref09_windows.nm at *; rw [any_succ, hb5, hnj])
                    rw [hb5]
                    clear hb5 hnj HJ
                    cases b5 with
                    | true =>
                      go_upto_region 17 with (fail)
                      go_quiet (fail)
                      go_wp2
                      go_roundw
                      case rel => exact ⟨j + 1, by rw [HS.out]; rfl, by go_num, by omega, AX ⟨_, rfl⟩⟩
                      case measure => simp [intOf]; omega
                    | false =>
                      by_cases cn : nj.toList = f0.toList
                      · have c3b0 : (nj.toList == f0.toList) = true := beq_iff_eq.mpr cn
                        rw [c3b0] at HS
                        clear cn
                        go_upto_region 17 with (fail)
                        go_quiet (fail)
                        go_wp2
                        go_roundw
                        case rel => exact ⟨j + 1, by rw [HS.out]; rfl, by go_num, by omega, AX ⟨_, rfl⟩⟩
                        case measure => simp [intOf]; omega
                      · have c3b0 : (nj.toList == f0.toList) = false := beq_eq_false_iff_ne.mpr cn
                        rw [c3b0] at HS
                        clear cn
                        go_upto_region 17 with (fail)
                        go_quiet (fail)
                        go_wp2
                        go_roundw
                        case rel => exact ⟨j + 1, by rw [HS.out]; rfl, by go_num, by omega, AX ⟨_, rfl⟩⟩
                        case measure => simp [intOf]; omega
                  · obtain rfl : j = l0_15.length := by omega
                    clear g0 HJ hj hlj
                    have g1 : wx.cell? ⟨bg, 1, none⟩ = some (.int .i64 f1) := wd_cell HBX.out rfl
                    have g2 : wx.cell? ⟨bg, 2, none⟩ = some (.int .i64 f2) := wd_cell HBX.out rfl
                    have g3 : wx.cell? ⟨bg, 3, none⟩ = some (.int .i64 f3) := wd_cell HBX.out rfl
                    obtain ⟨bk, hbk⟩ : ∃ x, pylonref09_windows.kn l0_18 f4 l0_18.length = x := ⟨_, rfl⟩
                    obtain ⟨bn, hbn⟩ : ∃ x, pylonref09_windows.nm l0_15 f0 l0_15.length = x := ⟨_, rfl⟩
                    obtain ⟨gd, hgd⟩ : ∃ x, pylonref09_windows.good l0_15 l0_18 ⟨f0, f1, f2, f3, f4⟩ = x := ⟨_, rfl⟩
                    have HGW := AX hgd
                    unfold pylonref09_windows.good at hgd
                    simp only [hbk, hbn] at hgd
                    rw [hbk, hbn]
                    have HGV := AX hgd
                    clear hgd hbk hbn
                    go_upto_region 19 with (fail)
                    go_cut [118] (fun v wy => v = .bool (!gd) ∧ Aside0 (∃ q, wy = wx.drewN q))
                    case first =>
                      cases bk with
                      | false =>
                        go_wp2
                        go_meet
                        case rel => exact ⟨by rw [← HGV.out]; simp, AX ⟨_, rfl⟩⟩
                      | true =>
                        cases bn with
                        | false =>
                          go_wp2
                          go_meet
                          case rel => exact ⟨by rw [← HGV.out]; simp, AX ⟨_, rfl⟩⟩
                        | true =>
                          by_cases ck0 : 0 ≤ f1
                          · have p0 : decide (0 ≤ f1) = true := decide_eq_true ck0
                            have n0 : decide (f1 < 0) = false := decide_eq_false (by omega)
                            rw [p0] at HGV
                            by_cases ck1 : f1 ≤ 3
                            · have p1 : decide (f1 ≤ 3) = true := decide_eq_true ck1
                              have n1 : decide (3 < f1) = false := decide_eq_false (by omega)
                              rw [p1] at HGV
                              by_cases ck2 : 0 ≤ f2
                              · have p2 : decide (0 ≤ f2) = true := decide_eq_true ck2
                                have n2 : decide (f2 < 0) = false := decide_eq_false (by omega)
                                rw [p2] at HGV
                                by_cases ck3 : f2 < f3
                                · have p3 : decide (f2 < f3) = true := decide_eq_true ck3
                                  have n3 : decide (f3 ≤ f2) = false := decide_eq_false (by omega)
                                  rw [p3] at HGV
                                  by_cases ck4 : f3 ≤ 1440
                                  · have p4 : decide (f3 ≤ 1440) = true := decide_eq_true ck4
                                    have n4 : decide (1440 < f3) = false := decide_eq_false (by omega)
                                    rw [p4] at HGV
                                    by_cases ck5 : f2.tmod 15 = 0
                                    · have p5 : (f2.tmod 15 == 0) = true := beq_iff_eq.mpr ck5
                                      have n5 : (f2.tmod 15 != 0) = false := bne_eq_false_iff_eq.mpr ck5
                                      have m5 : (f2 % 15 != 0) = false := by rw [← Int.tmod_eq_emod_of_nonneg (show 0 ≤ f2 by omega)]; exact n5
                                      rw [p5] at HGV
                                      by_cases ck6 : f3.tmod 15 = 0
                                      · have p6 : (f3.tmod 15 == 0) = true := beq_iff_eq.mpr ck6
                                        have n6 : (f3.tmod 15 != 0) = false := bne_eq_false_iff_eq.mpr ck6
                                        have m6 : (f3 % 15 != 0) = false := by rw [← Int.tmod_eq_emod_of_nonneg (show 0 ≤ f3 by omega)]; exact n6
                                        rw [p6] at HGV
                                        go_wp2
                                        go_meet
                                        case rel => exact ⟨by rw [← HGV.out]; simp, AX ⟨_, rfl⟩⟩
                                      · have p6 : (f3.tmod 15 == 0) = false := beq_eq_false_iff_ne.mpr ck6
                                        have n6 : (f3.tmod 15 != 0) = true := bne_iff_ne.mpr ck6
                                        have m6 : (f3 % 15 != 0) = true := by rw [← Int.tmod_eq_emod_of_nonneg (show 0 ≤ f3 by omega)]; exact n6
                                        rw [p6] at HGV
                                        go_wp2
                                        go_meet
                                        case rel => exact ⟨by rw [← HGV.out]; simp, AX ⟨_, rfl⟩⟩
                                    · have p5 : (f2.tmod 15 == 0) = false := beq_eq_false_iff_ne.mpr ck5
                                      have n5 : (f2.tmod 15 != 0) = true := bne_iff_ne.mpr ck5
                                      have m5 : (f2 % 15 != 0) = true := by rw [← Int.tmod_eq_emod_of_nonneg (show 0 ≤ f2 by omega)]; exact n5
                                      rw [p5] at HGV
                                      go_wp2
                                      go_meet
                                      case rel => exact ⟨by rw [← HGV.out]; simp, AX ⟨_, rfl⟩⟩
                                  · have p4 : decide (f3 ≤ 1440) = false := decide_eq_false ck4
                                    have n4 : decide (1440 < f3) = true := decide_eq_true (by omega)
                                    rw [p4] at HGV
                                    go_wp2
                                    go_meet
                                    case rel => exact ⟨by rw [← HGV.out]; simp, AX ⟨_, rfl⟩⟩
                                · have p3 : decide (f2 < f3) = false := decide_eq_false ck3
                                  have n3 : decide (f3 ≤ f2) = true := decide_eq_true (by omega)
                                  rw [p3] at HGV
                                  go_wp2
                                  go_meet
                                  case rel => exact ⟨by rw [← HGV.out]; simp, AX ⟨_, rfl⟩⟩
                              · have p2 : decide (0 ≤ f2) = false := decide_eq_false ck2
                                have n2 : decide (f2 < 0) = true := decide_eq_true (by omega)
                                rw [p2] at HGV
                                go_wp2
                                go_meet
                                case rel => exact ⟨by rw [← HGV.out]; simp, AX ⟨_, rfl⟩⟩
                            · have p1 : decide (f1 ≤ 3) = false := decide_eq_false ck1
                              have n1 : decide (3 < f1) = true := decide_eq_true (by omega)
                              rw [p1] at HGV
                              go_wp2
                              go_meet
                              case rel => exact ⟨by rw [← HGV.out]; simp, AX ⟨_, rfl⟩⟩
                          · have p0 : decide (0 ≤ f1) = false := decide_eq_false ck0
                            have n0 : decide (f1 < 0) = true := decide_eq_true (by omega)
                            rw [p0] at HGV
                            go_wp2
                            go_meet
                            case rel => exact ⟨by rw [← HGV.out]; simp, AX ⟨_, rfl⟩⟩
                    case rest =>
                      obtain ⟨rfl, HW⟩ := hcut
                      obtain ⟨qz, hqz⟩ := HW.out
                      subst hqz
                      clear g1 g2 g3 HW
                      cases gd with
                      | false =>
                        have hr := HR.out
                        rw [show pylonref09_windows.all l0_15 l0_18 l0_17 = false from by
                          unfold pylonref09_windows.all
                          rw [List.all_eq_false]
                          exact ⟨i, List.mem_range.2 hlt, by rw [HRD.out, HGW.out]; simp⟩, Bool.false_and] at hr
                        subst hr
                        go_wp2
                        go_ret
                        exact ⟨rfl, HB.out.trans ((wd_dr HBW.out _).mono HB.out.size)⟩
                      | true =>
                        go_wp2
                        go_roundw
                        case rel => exact ⟨i + 1, by go_num, by omega, AX ⟨wd_dr HBW.out _, fun j hj => by
                          by_cases cj : j = i
                          · subst cj; rw [HRD.out]; exact HGW.out
                          · exact HGD.out j (by omega)⟩⟩
                        case measure => simp [intOf]; omega
        · obtain rfl : i = l0_17.length := by omega
          have hr := HR.out
          rw [show pylonref09_windows.all l0_15 l0_18 l0_17 = true from by
            unfold pylonref09_windows.all
            rw [List.all_eq_true]
            exact fun j hj => HL.out.2 j (List.mem_range.1 hj), Bool.true_and] at hr
          have HRO := AX hr
          have HW0 := AX HL.out.1
          clear hr HR HL e17 e18 hlt hi
          go_wp2
          go_loopw [123] (fun vs ws => ∃ s : Nat, vs = .int .i64 s ∧ s ≤ l0_15.length ∧ Aside0 (Below w0.heap.size w0 ws ∧ ∀ t : Nat, t < s → ∀ k' : Nat, k' < 4 → ∀ q' : Nat, q' < 96 → pylonref09_windows.cnt l0_17 (rd_T58 l0_15 t).f0 k' q' l0_17.length = 1)) (fun vs _ => l0_15.length - (intOf vs).toNat)
          case atStart => exact ⟨0, rfl, by omega, AX ⟨HW0.out, fun q h => by omega⟩⟩
          case round =>
            clear HW0 e15
            obtain ⟨s, rfl, hs, HS0⟩ := hrel
            by_cases hls : s < l0_15.length
            · have HSS := AX HS0.out.2
              have HW0 := AX HS0.out.1
              clear HS0
              obtain ⟨ads, eS, n0, n1, n2⟩ := at_T58 (Kd.C_below HR0_15.out HB.out) (s : Int) (by omega) (by omega)
              obtain ⟨nm, hnm⟩ : ∃ x, (rd_T58 l0_15 (s : Int)).f0 = x := ⟨_, rfl⟩
              rw [hnm] at n0
              simp only [Int.toNat_natCast] at n0
              have HNS := AX n0
              have HNM := AX hnm
              have HES := AX eS
              subst eS
              clear n0 n1 n2 hnm
              go_wp2
              go_loopw [126] (fun vk wk => ∃ kd : Nat, vk = .int .i64 kd ∧ kd ≤ 4 ∧ Aside0 (Below w0.heap.size w0 wk ∧ ∀ k' : Nat, k' < kd → ∀ q' : Nat, q' < 96 → pylonref09_windows.cnt l0_17 nm k' q' l0_17.length = 1)) (fun vk _ => 4 - (intOf vk).toNat)
              case atStart => exact ⟨0, rfl, by omega, AX ⟨HW0.out, fun q h => by omega⟩⟩
              case round =>
                clear HW0
                obtain ⟨kd, rfl, hkd, HK0⟩ := hrel
                by_cases hlk : kd < 4
                · have dk : decide ((kd : Int) < 4) = true := decide_eq_true (by omega)
                  have HK := AX HK0.out.2
                  have HW0 := AX HK0.out.1
                  clear HK0
                  go_wp2
                  go_loopw [129] (fun vq wq => ∃ q : Nat, vq = .int .i64 q ∧ q ≤ 96 ∧ Aside0 (Below w0.heap.size w0 wq ∧ ∀ q' : Nat, q' < q → pylonref09_windows.cnt l0_17 nm kd q' l0_17.length = 1)) (fun vq _ => 96 - (intOf vq).toNat)
                  case atStart => exact ⟨0, rfl, by omega, AX ⟨HW0.out, fun q h => by omega⟩⟩
                  case round =>
                    clear HW0
                    obtain ⟨q, rfl, hq, HQ0⟩ := hrel
                    by_cases hlq : q < 96
                    · have dq : decide ((q : Int) < 96) = true := decide_eq_true (by omega)
                      have HQ := AX HQ0.out.2
                      have HW0 := AX HQ0.out.1
                      clear HQ0
                      have e17 := wd_cell (wd_at BK.out HW0.out) E17.out
                      go_wp2
                      go_loopw [12, 135] (fun v12 vj wj => ∃ j : Nat, v12 = .int .i64 (pylonref09_windows.cnt l0_17 nm kd q j : Nat) ∧ vj = .int .i64 j ∧ j ≤ l0_17.length ∧ Aside0 (Below w0.heap.size w0 wj)) (fun _ vj _ => l0_17.length - (intOf vj).toNat)
                      case atStart => exact ⟨0, rfl, rfl, by omega, HW0⟩
                      case round =>
                        clear e17 HW0
                        obtain ⟨j, rfl, rfl, hj, HJ⟩ := hrel
                        obtain ⟨n, hn⟩ : ∃ n, pylonref09_windows.cnt l0_17 nm kd q j = n := ⟨_, rfl⟩
                        rw [hn]
                        have hcl : n ≤ j := by rw [← hn]; exact pylonref09_windows.cnt_le _ _ _ _ _
                        have HNN := AX hn
                        clear hn
                        by_cases hlj : j < l0_17.length
                        · obtain ⟨ad', eA', x0, x1, x2, x3, x4⟩ := at_T60 (Kd.C_below HR0_17.out (HB.out.trans (HJ.out.mono HB.out.size))) (j : Int) (by omega) (by omega)
                          obtain ⟨⟨f0, f1, f2, f3, f4⟩, hrd⟩ : ∃ s, rd_T60 l0_17 (j : Int) = s := ⟨_, rfl⟩
                          rw [hrd] at x0 x1 x2 x3 x4
                          simp only [Int.toNat_natCast] at x0 x1 x2 x3 x4
                          have HEA := AX eA'
                          subst eA'
                          have e17 := wd_cell (wd_at BK.out HJ.out) E17.out
                          obtain ⟨fit, hfit⟩ : ∃ x, pylonref09_windows.fits ⟨f0, f1, f2, f3, f4⟩ nm kd q = x := ⟨_, rfl⟩
                          have HCN := AX (show pylonref09_windows.cnt l0_17 nm kd q (j + 1) = n + if fit = true then 1 else 0 by rw [pylonref09_windows.cnt, hrd, hfit, HNN.out])
                          unfold pylonref09_windows.fits at hfit
                          simp only at hfit
                          have HFV := AX hfit
                          clear hfit hrd
                          go_upto_region 35 with (fail)
                          go_cut [14] (fun v14 wx => v14 = .pointer (some ⟨wr.heap.size, 0, none⟩) ∧ Aside0 (wx = wr.alloc (.cells #[.string f0, .int .i64 f1, .int .i64 f2, .int .i64 f3, .string f4] 60)))
                          case first =>
                            go_wp2
                            go_meet
                            case rel => exact ⟨rfl, AX rfl⟩
                          case rest =>
                            obtain ⟨rfl, HW⟩ := hcut
                            have hw := HW.out
                            obtain ⟨wx, hwx⟩ : ∃ x : World, x = wc := ⟨_, rfl⟩
                            subst hwx
                            have HBX := AX (show wx.heap[wr.heap.size]? = some (.cells #[.string f0, .int .i64 f1, .int .i64 f2, .int .i64 f3, .string f4] 60 (0, 0)) by rw [hw]; exact heap_alloc_new _ _)
                            have HBW := AX (show Below w0.heap.size w0 wx by rw [hw]; exact HJ.out.alloc (HJ.out.size) _)
                            obtain ⟨bg, hbg⟩ : ∃ bg, wr.heap.size = bg := ⟨_, rfl⟩
                            rw [hbg] at HBX ⊢
                            clear hw HW HJ hbg e17 x0 x1 x2 x3 x4
                            have e15 := wd_cell (wd_at BK.out HBW.out) E15.out
                            have g0 : wx.cell? ⟨bg, 0, none⟩ = some (.string f0) := wd_cell HBX.out rfl
                            have g1 : wx.cell? ⟨bg, 1, none⟩ = some (.int .i64 f1) := wd_cell HBX.out rfl
                            have g2 : wx.cell? ⟨bg, 2, none⟩ = some (.int .i64 f2) := wd_cell HBX.out rfl
                            have g3 : wx.cell? ⟨bg, 3, none⟩ = some (.int .i64 f3) := wd_cell HBX.out rfl
                            have y0 : wx.cell? (ads.add (s * 3)) = some (.string nm) := (HBW.out.cell (World.block_lt_of_cell? _ _ HNS.out)).trans HNS.out
                            have pS : (s : Int) < (l0_15.length : Int) := by omega
                            go_upto_region 36 with (fail)
                            go_cut [171] (fun v wy => v = .bool fit ∧ Aside0 (∃ z, wy = wx.drewN z))
                            case first =>
                              have wq : IntKind.i64.wrap (15 * (q : Int)) = 15 * (q : Int) := IntWalk.i64_in _ (by omega)
                              by_cases ka : f0.toList = nm.toList
                              · have pa : (f0.toList == nm.toList) = true := beq_iff_eq.mpr ka
                                rw [pa] at HFV
                                by_cases kb : f1 = (kd : Int)
                                · have pb : (f1 == (kd : Int)) = true := beq_iff_eq.mpr kb
                                  rw [pb] at HFV
                                  by_cases kc : f2 ≤ 15 * (q : Int)
                                  · have pc : decide (f2 ≤ 15 * (q : Int)) = true := decide_eq_true kc
                                    rw [pc] at HFV
                                    by_cases ke : 15 * (q : Int) < f3
                                    · have pe : decide (15 * (q : Int) < f3) = true := decide_eq_true ke
                                      rw [pe] at HFV
                                      go_quiet (fail)
                                      clear wq
                                      go_wp2
                                      go_meet
                                      case rel => exact ⟨by rw [← HFV.out]; simp, AX ⟨_, rfl⟩⟩
                                    · have pe : decide (15 * (q : Int) < f3) = false := decide_eq_false ke
                                      rw [pe] at HFV
                                      go_quiet (fail)
                                      clear wq
                                      go_wp2
                                      go_meet
                                      case rel => exact ⟨by rw [← HFV.out]; simp, AX ⟨_, rfl⟩⟩
                                  · have pc : decide (f2 ≤ 15 * (q : Int)) = false := decide_eq_false kc
                                    rw [pc] at HFV
                                    go_quiet (fail)
                                    clear wq
                                    go_wp2
                                    go_meet
                                    case rel => exact ⟨by rw [← HFV.out]; simp, AX ⟨_, rfl⟩⟩
                                · have pb : (f1 == (kd : Int)) = false := beq_eq_false_iff_ne.mpr kb
                                  rw [pb] at HFV
                                  go_quiet (fail)
                                  clear wq
                                  go_wp2
                                  go_meet
                                  case rel => exact ⟨by rw [← HFV.out]; simp, AX ⟨_, rfl⟩⟩
                              · have pa : (f0.toList == nm.toList) = false := beq_eq_false_iff_ne.mpr ka
                                rw [pa] at HFV
                                go_quiet (fail)
                                clear wq
                                go_wp2
                                go_meet
                                case rel => exact ⟨by rw [← HFV.out]; simp, AX ⟨_, rfl⟩⟩
                            case rest =>
                              obtain ⟨rfl, HW⟩ := hcut
                              obtain ⟨qz, hqz⟩ := HW.out
                              subst hqz
                              clear e15 g0 g1 g2 g3 y0 HW
                              cases fit with
                              | true =>
                                go_wp2
                                go_roundw
                                case rel => exact ⟨j + 1, by rw [HCN.out, if_pos rfl]; first | rfl | (simp; done) | (congr 1; omega), by go_num, by omega, AX (wd_dr HBW.out _)⟩
                                case measure => simp [intOf]; omega
                              | false =>
                                go_wp2
                                go_roundw
                                case rel => exact ⟨j + 1, by rw [HCN.out, if_neg (by simp)]; rfl, by go_num, by omega, AX (wd_dr HBW.out _)⟩
                                case measure => simp [intOf]; omega
                        · obtain rfl : j = l0_17.length := by omega
                          have HCN := HNN
                          by_cases c1' : n = 1
                          · subst c1'
                            go_wp2
                            go_roundw
                            case rel => exact ⟨q + 1, by go_num, by omega, AX ⟨HJ.out, fun q' hq' => by
                              by_cases cq : q' = q
                              · subst cq; exact HCN.out
                              · exact HQ.out q' (by omega)⟩⟩
                            case measure => simp [intOf]; omega
                          · have e1 : ((n : Int) != 1) = true := by simp; omega
                            have hr := HRO.out
                            rw [pylonref09_windows.once_no (s := s) (kd := kd) (q := q) hls hlk hlq (by rw [HNM.out, HCN.out]; exact c1')] at hr
                            subst hr
                            clear c1'
                            go_wp2
                            go_ret
                            exact ⟨rfl, HB.out.trans (HJ.out.mono HB.out.size)⟩
                    · obtain rfl : q = 96 := by omega
                      go_wp2
                      go_roundw
                      case rel => exact ⟨kd + 1, by go_num, by omega, AX ⟨HQ0.out.1, fun k' hk' q' hq' => by
                        by_cases ck : k' = kd
                        · subst ck; exact HQ0.out.2 q' hq'
                        · exact HK.out k' (by omega) q' hq'⟩⟩
                      case measure => simp [intOf]; omega
                · obtain rfl : kd = 4 := by omega
                  go_wp2
                  go_roundw
                  case rel => exact ⟨s + 1, by go_num, by omega, AX ⟨HK0.out.1, fun t ht k' hk' q' hq' => by
                    by_cases ct : t = s
                    · subst ct; rw [HNM.out]; exact HK0.out.2 k' hk' q' hq'
                    · exact HSS.out t (by omega) k' hk' q' hq'⟩⟩
                  case measure => simp [intOf]; omega
            · obtain rfl : s = l0_15.length := by omega
              have hr := HRO.out
              rw [pylonref09_windows.once_yes HS0.out.2] at hr
              subst hr
              go_wp2
              go_ret
              exact ⟨rfl, HB.out.trans (HS0.out.1.mono HB.out.size)⟩

end Go.Proofs.Ytkggjjggcbcdiaa.PX
