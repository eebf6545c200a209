/- Functions of the program as plain Lean functions, each with a proof that the call in the machine answers just what the plain function says; condition: the plain function answers at all. -/
import Derived.Test.YtkggjjggcbcdiaaPXx0
import Derived.Test.YtkggjjggcbcdiaaPXx8
import Derived.Test.YtkggjjggcbcdiaaPXx9
import Derived.BigQuiet
namespace Go.Proofs.Ytkggjjggcbcdiaa.PX
open Go.RowKit Go.Proofs.YtkggjjggcbcdiaaW.PrintWords Go.Proofs.YtkggjjggcbcdiaaW.PrintLast Go.Proofs.YtkggjjggcbcdiaaW.PrintMore
attribute [local go_sem] max2_int min2_int max_two min_two max_three min_three max_four min_four   -- for this text's walks alone
set_option linter.unusedVariables false
set_option linter.unusedSimpArgs false

/-! ### pylonref09_seasons: function 54 -/
/-- is day d held by a season from a to b? -/
def pylonref09_seasons.hold (a b d : Int) : Bool := (decide (a ≤ b) && (decide (a ≤ d) && decide (d ≤ b))) || (decide (b < a) && (decide (a ≤ d) || decide (d ≤ b)))
def pylonref09_seasons.up (a b : Int) (h : Nat → Int) : Nat → Int := fun t => if 1 ≤ t ∧ pylonref09_seasons.hold a b t = true then h t + 1 else h t
def pylonref09_seasons.dup (l : List S58) (i : Nat) : Bool := (List.range i).any fun k => (rd_T58 l k).f0.toList == (rd_T58 l i).f0.toList
/-- d seasons are left from the i-th on; h: how many hold each day so far -/
def pylonref09_seasons.go (k : Nat) (l : List S58) : Nat → Nat → (Nat → Int) → Option (Option (Nat → Int))
  | 0, _, h => some (some h)
  | d + 1, i, h => (pylonref09_Day.f k (rd_T58 l i).f1).bind fun a => (pylonref09_Day.f k (rd_T58 l i).f2).bind fun b => (pylonref06_Name.f k (rd_T58 l i).f0).bind fun nm =>
    if nm = false ∨ a.2 ≠ 0 ∨ b.2 ≠ 0 then some none else if pylonref09_seasons.dup l i = true then some none else pylonref09_seasons.go k l d (i + 1) (pylonref09_seasons.up a.1 b.1 h)
def pylonref09_seasons.once (h : Nat → Int) : Bool := (List.range 366).all fun t => h (t + 1) == 1
def pylonref09_seasons.f (k : Nat) (l0 : List (S58)) : Option Bool :=
  if l0.length < 1 ∨ 64 < l0.length then some false else (pylonref09_seasons.go k l0 l0.length 0 (fun _ => 0)).bind fun r => match r with
    | none => some false
    | some h => some (pylonref09_seasons.once h)
theorem pylonref09_seasons.mono_go (k : Nat) (l : List S58) : ∀ d i h, LeO (pylonref09_seasons.go k l d i h) (pylonref09_seasons.go (k + 1) l d i h) := by
  intro d
  induction d with
  | zero => intro i h; exact LeO.refl _
  | succ d ih =>
    intro i h
    rw [pylonref09_seasons.go, pylonref09_seasons.go]
    refine LeO.bind (pylonref09_Day.mono _ _) (fun _ => LeO.bind (pylonref09_Day.mono _ _) (fun _ => LeO.bind (pylonref06_Name.mono _ _) (fun _ => LeO.ite (LeO.refl _) (LeO.ite (LeO.refl _) (ih _ _)))))
theorem pylonref09_seasons.mono : ∀ a0 k, LeO (pylonref09_seasons.f k a0) (pylonref09_seasons.f (k + 1) a0) := by
  intro a0 k
  unfold pylonref09_seasons.f
  exact LeO.ite (LeO.refl _) (LeO.bind (pylonref09_seasons.mono_go k a0 _ _ _) (fun _ => LeO.refl _))
/-- the row of days -/
def pylonref09_seasons.row (h : Nat → Int) : Array Value := ((List.range 367).map fun t => Value.int .i64 (h t)).toArray
theorem pylonref09_seasons.row_get {h : Nat → Int} {t : Nat} (ht : t < 367) : (pylonref09_seasons.row h)[t]? = some (.int .i64 (h t)) := by simp [pylonref09_seasons.row, ht]
theorem pylonref09_seasons.row_set (h : Nat → Int) (k : Nat) (v : Int) : (pylonref09_seasons.row h).setIfInBounds k (.int .i64 v) = pylonref09_seasons.row (fun t => if t = k then v else h t) := by
  apply Array.ext_getElem?
  intro t
  rw [Array.getElem?_setIfInBounds]
  by_cases c : k = t
  · subst c
    by_cases c2 : k < 367
    · rw [pylonref09_seasons.row_get c2]; simp [pylonref09_seasons.row, c2]
    · simp [pylonref09_seasons.row, c2]
  · simp only [c, if_false]
    by_cases c2 : t < 367
    · rw [pylonref09_seasons.row_get c2, pylonref09_seasons.row_get c2, if_neg (fun e => c e.symm)]
    · simp [pylonref09_seasons.row, c2]
theorem pylonref09_seasons.zero : Try.zeroCells118 = pylonref09_seasons.row (fun _ => 0) := by kernel_rfl
theorem pylonref09_seasons.dr {b : Nat} {w w' : World} (h : Below b w w') (q : Nat) : Below b w (w'.drewN q) := ⟨h.os, h.tape, h.output, h.size, h.block⟩
/-- block b holds the row of days -/
structure pylonref09_seasons.At (w wr : World) (h : Nat → Int) : Prop where
  row : wr.heap[w.heap.size]? = some (.cells (pylonref09_seasons.row h) 118 (0, 0))
  bl : Below w.heap.size w wr
section
variable {w wr w2 : World} {h h' : Nat → Int}
theorem pylonref09_seasons.At.below (H : pylonref09_seasons.At w wr h) (hb : Below wr.heap.size wr w2) : pylonref09_seasons.At w w2 h :=
  ⟨(hb.block _ (Array.getElem?_eq_some_iff.1 H.row).1).trans H.row, H.bl.trans (hb.mono H.bl.size)⟩
theorem pylonref09_seasons.At.cell (H : pylonref09_seasons.At w wr h) {t : Nat} (ht : t < 367) : wr.cell? ⟨w.heap.size, t, none⟩ = some (.int .i64 (h t)) := by simp [World.cell?, H.row, pylonref09_seasons.row_get ht]
theorem pylonref09_seasons.At.frozen (H : pylonref09_seasons.At w wr h) (t : Nat) : wr.frozen? ⟨w.heap.size, t, none⟩ = false := by simp [World.frozen?, H.row]
theorem pylonref09_seasons.At.set (H : pylonref09_seasons.At w wr h) {k : Nat} {v : Int} (e : ∀ t, (if t = k then v else h t) = h' t) : pylonref09_seasons.At w (wr.setCell ⟨w.heap.size, k, none⟩ (.int .i64 v)) h' := by
  refine ⟨?_, H.bl.setCell (Nat.le_refl _) _⟩
  have e2 : h' = fun t => if t = k then v else h t := (funext e).symm
  rw [e2, ← pylonref09_seasons.row_set]
  simp only [World.setCell, Array.getElem?_modify, if_true, H.row, Option.map_some]
  rfl
end
theorem pylonref09_seasons.At.congr {w wr : World} {h h' : Nat → Int} (H : pylonref09_seasons.At w wr h) (e : ∀ t, t < 367 → h t = h' t) : pylonref09_seasons.At w wr h' := by
  refine ⟨?_, H.bl⟩
  rw [H.row]
  have e2 : pylonref09_seasons.row h = pylonref09_seasons.row h' := by
    unfold pylonref09_seasons.row
    congr 1
    exact List.map_congr_left fun t ht => by rw [e t (List.mem_range.1 ht)]
  rw [e2]
/-- up to day d the season is counted in -/
def pylonref09_seasons.mid (a b : Int) (h : Nat → Int) (d : Nat) : Nat → Int := fun t => if t < d then pylonref09_seasons.up a b h t else h t
theorem pylonref09_seasons.once_no {h : Nat → Int} {d : Nat} (h1 : 1 ≤ d) (h2 : d ≤ 366) (hd : h d ≠ 1) : pylonref09_seasons.once h = false := by
  unfold pylonref09_seasons.once
  rw [List.all_eq_false]
  exact ⟨d - 1, List.mem_range.2 (by omega), by rw [show d - 1 + 1 = d by omega]; simpa using hd⟩
theorem pylonref09_seasons.once_yes {h : Nat → Int} (hd : ∀ t, 1 ≤ t → t ≤ 366 → h t = 1) : pylonref09_seasons.once h = true := by
  unfold pylonref09_seasons.once
  rw [List.all_eq_true]
  exact fun t ht => by simpa using hd (t + 1) (by omega) (by have := List.mem_range.1 ht; omega)
theorem pylonref09_seasons.dup_yes {l : List S58} {i j : Nat} (hj : j < i) (e : (rd_T58 l j).f0.toList = (rd_T58 l i).f0.toList) : pylonref09_seasons.dup l i = true := by
  unfold pylonref09_seasons.dup
  rw [List.any_eq_true]
  exact ⟨j, List.mem_range.2 hj, by simpa using e⟩
theorem pylonref09_seasons.dup_no {l : List S58} {i : Nat} (h : ∀ j : Nat, j < i → (rd_T58 l j).f0.toList ≠ (rd_T58 l i).f0.toList) : pylonref09_seasons.dup l i = false := by
  unfold pylonref09_seasons.dup
  rw [List.any_eq_false]
  exact fun j hj => by simpa using h j (List.mem_range.1 hj)
set_option maxHeartbeats 16000000 in
set_option maxRecDepth 100000 in
theorem pylonref09_seasons.calls (k : Nat) (A0 : Option Addr) (c0 : Nat) (l0 : List (S58)) (r : Bool) (w : World) (hr0 : Kd.C k58 w A0 l0.length l0) (hc0 : l0.length ≤ c0) (h : pylonref09_seasons.f k l0 = some r) :
  Calls Try.prog 54 #[.slice A0 l0.length c0] w fun e w' => e = .returned (.bool r) ∧ Below w.heap.size w w' := by
  unfold pylonref09_seasons.f at h
  by_cases c1 : l0.length < 1
  · rw [if_pos (.inl c1)] at h
    cases h
    have d1 : decide ((l0.length : Int) < 1) = true := decide_eq_true (by omega)
    go_enter Try.func54, Try.ntmps54
    go_wp2
    go_ret
    exact ⟨rfl, Below.refl _ _⟩
  · by_cases c2 : 64 < l0.length
    · rw [if_pos (.inr c2)] at h
      cases h
      have d1 : decide ((l0.length : Int) < 1) = false := decide_eq_false (by omega)
      have d2 : decide ((64 : Int) < (l0.length : Int)) = true := decide_eq_true (by omega)
      go_enter Try.func54, Try.ntmps54
      go_wp2
      go_ret
      exact ⟨rfl, Below.refl _ _⟩
    · rw [if_neg (by omega)] at h
      have d1 : decide ((l0.length : Int) < 1) = false := decide_eq_false (by omega)
      have d2 : decide ((64 : Int) < (l0.length : Int)) = false := decide_eq_false (by omega)
      have HR0 := AX hr0
      have HH := AX h
      clear h hr0
      go_enter Try.func54, Try.ntmps54
      go_wp2
      rw [pylonref09_seasons.zero]
      have HA0 := AX (pylonref09_seasons.At.mk (heap_alloc_new w (.cells (pylonref09_seasons.row (fun _ => 0)) 118)) ((Below.refl w.heap.size w).alloc (Nat.le_refl _) _))
      have HG0 := AX (show (pylonref09_seasons.go k l0 (l0.length - 0) 0 (fun _ => 0)).bind (fun r => match r with | none => some false | some h => some (pylonref09_seasons.once h)) = some r from HH.out)
      clear HH
      go_loopw [22] (fun vi wr => ∃ (i : Nat) (h : Nat → Int), vi = .int .i64 i ∧ i ≤ l0.length ∧ Aside0 (pylonref09_seasons.At w wr h ∧ (pylonref09_seasons.go k l0 (l0.length - i) i h).bind (fun r => match r with | none => some false | some h => some (pylonref09_seasons.once h)) = some r ∧ ∀ t, 0 ≤ h t ∧ h t ≤ i)) (fun vi _ => l0.length - (intOf vi).toNat)
      case atStart => exact ⟨0, _, rfl, by omega, AX ⟨HA0.out, HG0.out, fun t => by simp⟩⟩
      case round =>
        clear HA0 HG0
        obtain ⟨i, h, rfl, hi, HL⟩ := hrel
        by_cases hlt : i < l0.length
        · obtain ⟨hA, hG, hb⟩ := HL.out
          rw [show l0.length - i = (l0.length - (i + 1)) + 1 by omega, pylonref09_seasons.go] at hG
          obtain ⟨⟨nm, f1, f2⟩, hrd⟩ : ∃ s, rd_T58 l0 (i : Int) = s := ⟨_, rfl⟩
          rw [hrd] at hG
          simp only [Option.bind_assoc] at hG
          obtain ⟨⟨a, ea⟩, hDa, hG⟩ := Option.bind_eq_some_iff.mp hG
          obtain ⟨⟨b, eb⟩, hDb, hG⟩ := Option.bind_eq_some_iff.mp hG
          obtain ⟨ok, hNm, hG⟩ := Option.bind_eq_some_iff.mp hG
          simp only at hG
          obtain ⟨ad, eA, x0, x1, x2⟩ := at_T58 (Kd.C_below HR0.out hA.bl) (i : Int) (by omega) (by omega)
          rw [hrd] at x0 x1 x2
          simp only [Int.toNat_natCast] at x0 x1 x2
          have HAt := AX hA
          have HG := AX hG
          have HBD := AX hb
          have HDa := AX hDa
          have HDb := AX hDb
          have HNm := AX hNm
          have HRD := AX hrd
          have HX := AX (And.intro x0 x2)
          clear hA hG hb hDa hDb hNm hrd x0 x2 HL
          have HAD := AX eA
          subst eA
          go_upto_region 8 with (go_at_call 73; refine (pylonref09_Day.calls k f1 a ea _ HDa.out).mono ?_; rintro e w1 ⟨rfl, hB⟩; have HA1 := AX (HAt.out.below hB); have y2 := (hB.cell (World.block_lt_of_cell? _ _ HX.out.2)).trans HX.out.2; have HY0 := AX ((hB.cell (World.block_lt_of_cell? _ _ HX.out.1)).trans HX.out.1); clear hB)
          go_upto_region 9 with (go_at_call 73; refine (pylonref09_Day.calls k f2 b eb _ HDb.out).mono ?_; rintro e w2 ⟨rfl, hB⟩; have HA2 := AX (HA1.out.below hB); have y0 := (hB.cell (World.block_lt_of_cell? _ _ HY0.out)).trans HY0.out; have HB12 := AX hB; clear hB)
          clear x1 y2
          by_cases c3 : ok = false ∨ ea ≠ 0 ∨ eb ≠ 0
          · have hG := HG.out
            rw [if_pos c3] at hG
            simp only [Option.bind_some, Option.some.injEq] at hG
            subst hG
            cases ok with
            | false =>
              go_wp2_with (go_at_call 51; refine (pylonref06_Name.calls k nm false _ HNm.out).mono ?_; rintro e w3 ⟨rfl, q, rfl⟩)
              go_ret
              exact ⟨rfl, by first | exact pylonref09_seasons.dr HA2.out.bl _ | exact pylonref09_seasons.dr (pylonref09_seasons.dr HA2.out.bl _) _⟩
            | true =>
              by_cases c4 : ea = 0
              · subst c4
                have c5 : (eb != 0) = true := by simpa using c3
                go_wp2_with (go_at_call 51; refine (pylonref06_Name.calls k nm true _ HNm.out).mono ?_; rintro e w3 ⟨rfl, q, rfl⟩)
                go_ret
                exact ⟨rfl, by first | exact pylonref09_seasons.dr HA2.out.bl _ | exact pylonref09_seasons.dr (pylonref09_seasons.dr HA2.out.bl _) _⟩
              · have c5 : (ea != 0) = true := by simpa using c4
                clear c3 c4
                go_wp2_with (go_at_call 51; refine (pylonref06_Name.calls k nm true _ HNm.out).mono ?_; rintro e w3 ⟨rfl, q, rfl⟩)
                go_ret
                exact ⟨rfl, by first | exact pylonref09_seasons.dr HA2.out.bl _ | exact pylonref09_seasons.dr (pylonref09_seasons.dr HA2.out.bl _) _⟩
          · obtain ⟨rfl, rfl, rfl⟩ : ok = true ∧ ea = 0 ∧ eb = 0 := by
              cases ok
              · simp at c3
              · exact ⟨rfl, by omega, by omega⟩
            have hG := HG.out
            rw [if_neg c3] at hG
            have HG2 := AX hG
            clear hG HG c3
            go_wp2_with (go_at_call 51; refine (pylonref06_Name.calls k nm true _ HNm.out).mono ?_; rintro e w3 ⟨rfl, q, rfl⟩)
            have HY := AX y0
            clear y0
            go_loopw [9] (fun vj wj => ∃ j : Nat, vj = .int .i64 j ∧ j ≤ i ∧ Aside0 ((∃ q, wj = w2.drewN q) ∧ ∀ t : Nat, t < j → (rd_T58 l0 t).f0.toList ≠ nm.toList)) (fun vj _ => i - (intOf vj).toNat)
            case atStart => exact ⟨0, rfl, by omega, AX ⟨⟨_, rfl⟩, fun t h => by omega⟩⟩
            case round =>
              obtain ⟨j, rfl, hj, HJ⟩ := hrel
              obtain ⟨⟨qj, rfl⟩, hne⟩ := HJ.out
              have HNE := AX hne
              clear hne HJ
              by_cases hlj : j < i
              · obtain ⟨ad', eA', z0, z1, z2⟩ := at_T58 (Kd.C_below HR0.out HA2.out.bl) (j : Int) (by omega) (by omega)
                obtain rfl : ad = ad' := by injection eA'
                clear z1 z2 eA'
                obtain ⟨⟨nj, j1, j2⟩, hrj⟩ : ∃ s, rd_T58 l0 (j : Int) = s := ⟨_, rfl⟩
                rw [hrj] at z0
                simp only [Int.toNat_natCast] at z0
                have HRJ := AX hrj
                clear hrj
                have y0 := HY.out
                have p1 : (j : Int) < (l0.length : Int) := by omega
                have p2 : (i : Int) < (l0.length : Int) := by omega
                by_cases cn : nj.toList = nm.toList
                · have c3b0 : (nj.toList == nm.toList) = true := beq_iff_eq.mpr cn
                  have hG := HG2.out
                  rw [if_pos (pylonref09_seasons.dup_yes hlj (by rw [HRJ.out, HRD.out]; exact cn))] at hG
                  simp only [Option.bind_some, Option.some.injEq] at hG
                  subst hG
                  go_upto_region 14 with (fail)
                  go_quiet (fail)
                  go_wp2
                  go_ret
                  exact ⟨rfl, by first | exact pylonref09_seasons.dr HA2.out.bl _ | exact pylonref09_seasons.dr (pylonref09_seasons.dr HA2.out.bl _) _⟩
                · have c3b0 : (nj.toList == nm.toList) = false := beq_eq_false_iff_ne.mpr cn
                  have CN := AX cn
                  clear cn
                  go_upto_region 14 with (fail)
                  go_quiet (fail)
                  go_wp2
                  go_roundw
                  case rel => exact ⟨j + 1, by go_num, by omega, AX ⟨⟨_, rfl⟩, fun t ht => by
                    by_cases ct : t = j
                    · subst ct; rw [HRJ.out]; exact CN.out
                    · exact HNE.out t (by omega)⟩⟩
                  case measure => simp [intOf]; omega
              · obtain rfl : j = i := by omega
                have hG := HG2.out
                rw [pylonref09_seasons.dup_no (fun t ht => by rw [HRD.out]; exact HNE.out t ht), if_neg (by decide)] at hG
                have HG3 := AX hG
                have HM0 : Aside0 (pylonref09_seasons.At w (w2.drewN qj) (pylonref09_seasons.mid a b h 1)) := AX ((HA2.out.below (pylonref09_seasons.dr (Below.refl _ _) qj)).congr (h' := pylonref09_seasons.mid a b h 1) fun t ht => by
                  unfold pylonref09_seasons.mid pylonref09_seasons.up
                  by_cases c : t < 1
                  · rw [if_pos c, if_neg (by omega)]
                  · rw [if_neg c])
                clear hG HG2 HNE HNm hj hlj HY
                go_wp2
                go_loopw [10] (fun vd wd => ∃ d : Nat, vd = .int .i64 d ∧ 1 ≤ d ∧ d ≤ 367 ∧ Aside0 (pylonref09_seasons.At w wd (pylonref09_seasons.mid a b h d))) (fun vd _ => 367 - (intOf vd).toNat)
                case atStart => exact ⟨1, rfl, by omega, by omega, HM0⟩
                case round =>
                  clear HM0
                  obtain ⟨d, rfl, hd1, hd2, HM⟩ := hrel
                  by_cases hld : d ≤ 366
                  · have e366 : decide ((d : Int) ≤ 366) = true := decide_eq_true (by omega)
                    obtain ⟨hh, hhe⟩ : ∃ x, pylonref09_seasons.hold a b d = x := ⟨_, rfl⟩
                    have HH := AX hhe
                    clear hhe
                    go_upto_region 19 with (fail)
                    obtain ⟨wd, hwd⟩ : ∃ x : World, x = wr := ⟨_, rfl⟩
                    subst hwd
                    go_cut [105] (fun v wx => v = .bool hh ∧ Aside0 (wd = wx))
                    case first =>
                      have hv := HH.out
                      unfold pylonref09_seasons.hold at hv
                      obtain ⟨b0, hb0⟩ : ∃ x, decide (a ≤ b) = x := ⟨_, rfl⟩
                      obtain ⟨b1, hb1⟩ : ∃ x, decide (a ≤ (d : Int)) = x := ⟨_, rfl⟩
                      obtain ⟨b2, hb2⟩ : ∃ x, decide ((d : Int) ≤ b) = x := ⟨_, rfl⟩
                      obtain ⟨b3, hb3⟩ : ∃ x, decide (b < a) = x := ⟨_, rfl⟩
                      rw [hb0, hb1, hb2, hb3] at hv
                      subst hv
                      clear HH
                      rcases b0 with _ | _ <;> rcases b1 with _ | _ <;> rcases b2 with _ | _ <;> rcases b3 with _ | _ <;> first | (exfalso; simp only [decide_eq_false_iff_not, decide_eq_true_eq] at hb0 hb3; omega) | (go_wp2; go_meet; exact ⟨rfl, AX rfl⟩)
                    case rest =>
                      obtain ⟨rfl, HW⟩ := hcut
                      have hw := HW.out
                      subst hw
                      clear HW
                      have hbd := HBD.out d
                      have hmd : pylonref09_seasons.mid a b h d d = h d := if_neg (by omega)
                      have u1 := HM.out.cell (show d < 367 by omega)
                      have u2 := HM.out.frozen d
                      rw [hmd] at u1
                      clear hmd
                      cases hh with
                      | true =>
                        go_wp2
                        go_roundw
                        case rel => exact ⟨d + 1, by go_num, by omega, by omega, AX (HM.out.set (fun t => by
                          unfold pylonref09_seasons.mid
                          by_cases ct : t = d
                          · subst ct; rw [if_pos rfl, if_pos (by omega)]; unfold pylonref09_seasons.up; rw [if_pos ⟨hd1, HH.out⟩]
                          · rw [if_neg ct]
                            by_cases c2 : t < d
                            · rw [if_pos c2, if_pos (show t < d + 1 by omega)]
                            · rw [if_neg c2, if_neg (show ¬ t < d + 1 by omega)]))⟩
                        case measure => simp [intOf]; omega
                      | false =>
                        clear u1 u2
                        go_wp2
                        go_roundw
                        case rel => exact ⟨d + 1, by go_num, by omega, by omega, AX (HM.out.congr (fun t ht => by
                          unfold pylonref09_seasons.mid
                          by_cases ct : t = d
                          · subst ct; rw [if_neg (by omega), if_pos (by omega)]; unfold pylonref09_seasons.up; rw [if_neg (by rw [HH.out]; simp)]
                          · by_cases c2 : t < d
                            · rw [if_pos c2, if_pos (show t < d + 1 by omega)]
                            · rw [if_neg c2, if_neg (show ¬ t < d + 1 by omega)]))⟩
                        case measure => simp [intOf]; omega
                  · have e366 : decide ((d : Int) ≤ 366) = false := decide_eq_false (by omega)
                    obtain rfl : d = 367 := by omega
                    go_wp2
                    go_roundw
                    case rel => exact ⟨j + 1, pylonref09_seasons.up a b h, by go_num, by omega, AX ⟨HM.out.congr (fun t ht => by unfold pylonref09_seasons.mid; rw [if_pos ht]), HG3.out, fun t => by
                      have := HBD.out t
                      unfold pylonref09_seasons.up
                      split <;> omega⟩⟩
                    case measure => simp [intOf]; omega
        · obtain ⟨hA, hG, hb⟩ := HL.out
          obtain rfl : i = l0.length := by omega
          rw [show l0.length - l0.length = 0 by omega, pylonref09_seasons.go] at hG
          simp only [Option.bind_some, Option.some.injEq] at hG
          have HG := AX hG
          have HAt := AX hA
          clear hG hA hb HL
          go_wp2
          obtain ⟨wz, hwz⟩ : ∃ x : World, x = wr := ⟨_, rfl⟩
          subst hwz
          go_loopw [11] (fun vd wd => ∃ d : Nat, vd = .int .i64 d ∧ 1 ≤ d ∧ d ≤ 367 ∧ Aside0 (wz = wd ∧ ∀ t, 1 ≤ t → t < d → h t = 1)) (fun vd _ => 367 - (intOf vd).toNat)
          case atStart => exact ⟨1, rfl, by omega, by omega, AX ⟨by trivial, fun t h1 h2 => by omega⟩⟩
          case round =>
            obtain ⟨d, rfl, hd1, hd2, HD⟩ := hrel
            obtain ⟨hw, ho⟩ := HD.out
            subst hw
            have HO := AX ho
            clear ho HD
            by_cases hld : d ≤ 366
            · have e366 : decide ((d : Int) ≤ 366) = true := decide_eq_true (by omega)
              have u1 := HAt.out.cell (show d < 367 by omega)
              by_cases c1 : h d = 1
              · have e1 : (h d != 1) = false := by simp [c1]
                have C1 := AX c1
                clear c1
                go_wp2
                go_roundw
                case rel => exact ⟨d + 1, by go_num, by omega, by omega, AX ⟨by trivial, fun t h1 h2 => by
                  by_cases ct : t = d
                  · rw [ct]; exact C1.out
                  · exact HO.out t h1 (by omega)⟩⟩
                case measure => simp [intOf]; omega
              · have e1 : (h d != 1) = true := by simp [c1]
                have hr := HG.out
                rw [pylonref09_seasons.once_no hd1 hld c1] at hr
                subst hr
                clear c1
                go_wp2
                go_ret
                exact ⟨rfl, HAt.out.bl⟩
            · have e366 : decide ((d : Int) ≤ 366) = false := decide_eq_false (by omega)
              have hr := HG.out
              rw [pylonref09_seasons.once_yes (fun t h1 h2 => HO.out t h1 (by omega))] at hr
              subst hr
              go_wp2
              go_ret
              exact ⟨rfl, HAt.out.bl⟩

/-! ### pylonref05_Check: function 37 -/
def pylonref05_Check.f (k : Nat) (a0_0 : Int) (a0_1 : Int) (a0_2 : Int) (a0_3 : Int) : Option (Int) := if a0_0 = 1 then ((pylonref03_Length.f k 2000 a0_1).bind fun bt200 => (if bt200.2 = 0 then (if a0_2 ≥ 1 then (if a0_2 ≤ bt200.1 then (if a0_3 = 0 then (some 0) else (some 8)) else (some 8)) else (some 8)) else (some 8))) else (if a0_0 = 2 then (if a0_1 ≥ 1 then (if a0_1 ≤ 12 then (if a0_2 ≥ 1 then (if a0_2 ≤ 5 then (if a0_3 ≥ 0 then (if a0_3 ≤ 6 then (some 0) else (some 8)) else (some 8)) else (some 8)) else (some 8)) else (some 8)) else (some 8)) else (if a0_0 = 3 then (if a0_1 ≥ (-100) then (if a0_1 ≤ 100 then (if a0_2 = 0 then (if a0_3 = 0 then (some 0) else (some 8)) else (some 8)) else (some 8)) else (some 8)) else (some 8)))
theorem pylonref05_Check.mono : ∀ a0 a1 a2 a3 k, LeO (pylonref05_Check.f k a0 a1 a2 a3) (pylonref05_Check.f (k + 1) a0 a1 a2 a3) := by
 intro a0 a1 a2 a3 k
 unfold pylonref05_Check.f
 repeat' first
   | (with_reducible exact pylonref03_Length.mono _ _ _)
   | (with_reducible exact LeO.refl _)
   | (with_reducible exact LeO.none _)
   | (with_reducible refine LeO.ite ?_ ?_)
   | (with_reducible refine LeO.bind ?_ (fun _ => ?_))
set_option maxHeartbeats 8000000 in
set_option maxRecDepth 100000 in
theorem pylonref05_Check.calls (k : Nat) (a0_0 : Int) (a0_1 : Int) (a0_2 : Int) (a0_3 : Int) (r : Int) (w : World) (h : pylonref05_Check.f k a0_0 a0_1 a0_2 a0_3 = some r) :
  Calls Try.prog 37 #[.agg #[.int .i64 a0_0, .int .i64 a0_1, .int .i64 a0_2, .int .i64 a0_3]] w fun e w' => e = .returned (.int .i64 r) ∧ Below w.heap.size w w' := by
 have hu65 := Try.underlying65
 have HB := AX (Below.refl w.heap.size w)
 have H : (if a0_0 = 1 then ((pylonref03_Length.f k 2000 a0_1).bind fun bt200 => (if bt200.2 = 0 then (if a0_2 ≥ 1 then (if a0_2 ≤ bt200.1 then (if a0_3 = 0 then (some 0) else (some 8)) else (some 8)) else (some 8)) else (some 8))) else (if a0_0 = 2 then (if a0_1 ≥ 1 then (if a0_1 ≤ 12 then (if a0_2 ≥ 1 then (if a0_2 ≤ 5 then (if a0_3 ≥ 0 then (if a0_3 ≤ 6 then (some 0) else (some 8)) else (some 8)) else (some 8)) else (some 8)) else (some 8)) else (some 8)) else (if a0_0 = 3 then (if a0_1 ≥ (-100) then (if a0_1 ≤ 100 then (if a0_2 = 0 then (if a0_3 = 0 then (some 0) else (some 8)) else (some 8)) else (some 8)) else (some 8)) else (some 8)))) = some r := h
 clear h
 by_cases c2 : a0_0 = 1
 ·rw [if_pos c2] at H
  have c2b0 : (a0_0 == 1) = true := beq_iff_eq.mpr c2
  have c2b1 : (a0_0 != 1) = false := bne_eq_false_iff_eq.mpr c2
  clear c2
  replace H := Option.bind_eq_some_iff.mp H
  obtain ⟨⟨t200, t201⟩, A30, H⟩ := H
  replace H : (if t201 = 0 then (if a0_2 ≥ 1 then (if a0_2 ≤ t200 then (if a0_3 = 0 then (some 0) else (some 8)) else (some 8)) else (some 8)) else (some 8)) = some r := H
  have A3 := AX A30
  clear A30
  by_cases c4 : t201 = 0
  ·rw [if_pos c4] at H
   have c4b0 : (t201 == 0) = true := beq_iff_eq.mpr c4
   have c4b1 : (t201 != 0) = false := bne_eq_false_iff_eq.mpr c4
   clear c4
   by_cases c5 : a0_2 ≥ 1
   ·rw [if_pos c5] at H
    have c5b0 : decide (1 ≤ a0_2) = true := decide_eq_true c5
    clear c5
    by_cases c6 : a0_2 ≤ t200
    ·rw [if_pos c6] at H
     have c6b0 : decide (a0_2 ≤ t200) = true := decide_eq_true c6
     clear c6
     by_cases c7 : a0_3 = 0
     ·rw [if_pos c7] at H
      have c7b0 : (a0_3 == 0) = true := beq_iff_eq.mpr c7
      have c7b1 : (a0_3 != 0) = false := bne_eq_false_iff_eq.mpr c7
      clear c7
      obtain rfl := Option.some.inj H
      go_enter Try.func37, Try.ntmps37
      go_wp2_with (first | ((with_reducible refine gate_dst (N := 1) rfl ?_); refine bx 1 #[.int .i64 a0_0, .int .i64 a0_1, .int .i64 a0_2, .int .i64 a0_3] 65 ?_; intro gb199 hg w8 hbox hb; have BK199 := AX (hbox); have GW199 := gwl (w := w) hg bw; have GE199 := GW199; replace HB := AX (below_step bw hb); clear hb hbox hg; obtain ⟨hcz9_0, hcz9_1, hcz9_2, hcz9_3⟩ := blkC4 (w := w8) BK199.out; obtain ⟨hfz9_0, hfz9_1, hfz9_2, hfz9_3⟩ := blkF4 BK199.out) | ((with_reducible refine gate_callee (f := 70) rfl ?_); refine gL (some 13) Try.func70 #[.int .i64 2000, .int .i64 a0_1] ?_; (with_reducible refine (pylonref03_Length.calls k 2000 a0_1 t200 t201 _ A3.out).mono ?_); rintro e w' ⟨rfl, ⟨nd, rfl⟩⟩; refine ⟨_, rfl, ?_⟩))
      go_ret
      exact ⟨by first | rfl | (simp [errW_none, errW_some] <;> rfl) | (simp [*, errW_none, errW_some] <;> rfl), bw⟩
     ·rw [if_neg c7] at H
      have c7b0 : (a0_3 == 0) = false := beq_eq_false_iff_ne.mpr c7
      have c7b1 : (a0_3 != 0) = true := bne_iff_ne.mpr c7
      obtain rfl := Option.some.inj H
      go_enter Try.func37, Try.ntmps37
      go_wp2_with (first | ((with_reducible refine gate_dst (N := 1) rfl ?_); refine bx 1 #[.int .i64 a0_0, .int .i64 a0_1, .int .i64 a0_2, .int .i64 a0_3] 65 ?_; intro gb199 hg w10 hbox hb; have BK199 := AX (hbox); have GW199 := gwl (w := w) hg bw; have GE199 := GW199; replace HB := AX (below_step bw hb); clear hb hbox hg; obtain ⟨hcz11_0, hcz11_1, hcz11_2, hcz11_3⟩ := blkC4 (w := w10) BK199.out; obtain ⟨hfz11_0, hfz11_1, hfz11_2, hfz11_3⟩ := blkF4 BK199.out) | ((with_reducible refine gate_callee (f := 70) rfl ?_); refine gL (some 13) Try.func70 #[.int .i64 2000, .int .i64 a0_1] ?_; (with_reducible refine (pylonref03_Length.calls k 2000 a0_1 t200 t201 _ A3.out).mono ?_); rintro e w' ⟨rfl, ⟨nd, rfl⟩⟩; refine ⟨_, rfl, ?_⟩))
      go_ret
      exact ⟨by first | rfl | (simp [errW_none, errW_some] <;> rfl) | (simp [*, errW_none, errW_some] <;> rfl), bw⟩
    ·rw [if_neg c6] at H
     have c6b0 : decide (a0_2 ≤ t200) = false := decide_eq_false c6
     clear c6
     obtain rfl := Option.some.inj H
     go_enter Try.func37, Try.ntmps37
     go_wp2_with (first | ((with_reducible refine gate_dst (N := 1) rfl ?_); refine bx 1 #[.int .i64 a0_0, .int .i64 a0_1, .int .i64 a0_2, .int .i64 a0_3] 65 ?_; intro gb199 hg w12 hbox hb; have BK199 := AX (hbox); have GW199 := gwl (w := w) hg bw; have GE199 := GW199; replace HB := AX (below_step bw hb); clear hb hbox hg; obtain ⟨hcz13_0, hcz13_1, hcz13_2, hcz13_3⟩ := blkC4 (w := w12) BK199.out; obtain ⟨hfz13_0, hfz13_1, hfz13_2, hfz13_3⟩ := blkF4 BK199.out) | ((with_reducible refine gate_callee (f := 70) rfl ?_); refine gL (some 13) Try.func70 #[.int .i64 2000, .int .i64 a0_1] ?_; (with_reducible refine (pylonref03_Length.calls k 2000 a0_1 t200 t201 _ A3.out).mono ?_); rintro e w' ⟨rfl, ⟨nd, rfl⟩⟩; refine ⟨_, rfl, ?_⟩))
     go_ret
     exact ⟨by first | rfl | (simp [errW_none, errW_some] <;> rfl) | (simp [*, errW_none, errW_some] <;> rfl), bw⟩
   ·rw [if_neg c5] at H
    have c5b0 : decide (1 ≤ a0_2) = false := decide_eq_false c5
    clear c5
    obtain rfl := Option.some.inj H
    go_enter Try.func37, Try.ntmps37
    go_wp2_with (first | ((with_reducible refine gate_dst (N := 1) rfl ?_); refine bx 1 #[.int .i64 a0_0, .int .i64 a0_1, .int .i64 a0_2, .int .i64 a0_3] 65 ?_; intro gb199 hg w14 hbox hb; have BK199 := AX (hbox); have GW199 := gwl (w := w) hg bw; have GE199 := GW199; replace HB := AX (below_step bw hb); clear hb hbox hg; obtain ⟨hcz15_0, hcz15_1, hcz15_2, hcz15_3⟩ := blkC4 (w := w14) BK199.out; obtain ⟨hfz15_0, hfz15_1, hfz15_2, hfz15_3⟩ := blkF4 BK199.out) | ((with_reducible refine gate_callee (f := 70) rfl ?_); refine gL (some 13) Try.func70 #[.int .i64 2000, .int .i64 a0_1] ?_; (with_reducible refine (pylonref03_Length.calls k 2000 a0_1 t200 t201 _ A3.out).mono ?_); rintro e w' ⟨rfl, ⟨nd, rfl⟩⟩; refine ⟨_, rfl, ?_⟩))
    go_ret
    exact ⟨by first | rfl | (simp [errW_none, errW_some] <;> rfl) | (simp [*, errW_none, errW_some] <;> rfl), bw⟩
  ·rw [if_neg c4] at H
   have c4b0 : (t201 == 0) = false := beq_eq_false_iff_ne.mpr c4
   have c4b1 : (t201 != 0) = true := bne_iff_ne.mpr c4
   obtain rfl := Option.some.inj H
   go_enter Try.func37, Try.ntmps37
   go_wp2_with (first | ((with_reducible refine gate_dst (N := 1) rfl ?_); refine bx 1 #[.int .i64 a0_0, .int .i64 a0_1, .int .i64 a0_2, .int .i64 a0_3] 65 ?_; intro gb199 hg w16 hbox hb; have BK199 := AX (hbox); have GW199 := gwl (w := w) hg bw; have GE199 := GW199; replace HB := AX (below_step bw hb); clear hb hbox hg; obtain ⟨hcz17_0, hcz17_1, hcz17_2, hcz17_3⟩ := blkC4 (w := w16) BK199.out; obtain ⟨hfz17_0, hfz17_1, hfz17_2, hfz17_3⟩ := blkF4 BK199.out) | ((with_reducible refine gate_callee (f := 70) rfl ?_); refine gL (some 13) Try.func70 #[.int .i64 2000, .int .i64 a0_1] ?_; (with_reducible refine (pylonref03_Length.calls k 2000 a0_1 t200 t201 _ A3.out).mono ?_); rintro e w' ⟨rfl, ⟨nd, rfl⟩⟩; refine ⟨_, rfl, ?_⟩))
   go_ret
   exact ⟨by first | rfl | (simp [errW_none, errW_some] <;> rfl) | (simp [*, errW_none, errW_some] <;> rfl), bw⟩
 ·rw [if_neg c2] at H
  have c2b0 : (a0_0 == 1) = false := beq_eq_false_iff_ne.mpr c2
  have c2b1 : (a0_0 != 1) = true := bne_iff_ne.mpr c2
  by_cases c18 : a0_0 = 2
  ·rw [if_pos c18] at H
   have c18b0 : (a0_0 == 2) = true := beq_iff_eq.mpr c18
   have c18b1 : (a0_0 != 2) = false := bne_eq_false_iff_eq.mpr c18
   clear c18
   by_cases c19 : a0_1 ≥ 1
   ·rw [if_pos c19] at H
    have c19b0 : decide (1 ≤ a0_1) = true := decide_eq_true c19
    clear c19
    by_cases c20 : a0_1 ≤ 12
    ·rw [if_pos c20] at H
     have c20b0 : decide (a0_1 ≤ 12) = true := decide_eq_true c20
     clear c20
     by_cases c21 : a0_2 ≥ 1
     ·rw [if_pos c21] at H
      have c21b0 : decide (1 ≤ a0_2) = true := decide_eq_true c21
      clear c21
      by_cases c22 : a0_2 ≤ 5
      ·rw [if_pos c22] at H
       have c22b0 : decide (a0_2 ≤ 5) = true := decide_eq_true c22
       clear c22
       by_cases c23 : a0_3 ≥ 0
       ·rw [if_pos c23] at H
        have c23b0 : decide (0 ≤ a0_3) = true := decide_eq_true c23
        clear c23
        by_cases c24 : a0_3 ≤ 6
        ·rw [if_pos c24] at H
         have c24b0 : decide (a0_3 ≤ 6) = true := decide_eq_true c24
         clear c24
         obtain rfl := Option.some.inj H
         go_enter Try.func37, Try.ntmps37
         go_wp2_with (first | ((with_reducible refine gate_dst (N := 1) rfl ?_); refine bx 1 #[.int .i64 a0_0, .int .i64 a0_1, .int .i64 a0_2, .int .i64 a0_3] 65 ?_; intro gb199 hg w25 hbox hb; have BK199 := AX (hbox); have GW199 := gwl (w := w) hg bw; have GE199 := GW199; replace HB := AX (below_step bw hb); clear hb hbox hg; obtain ⟨hcz26_0, hcz26_1, hcz26_2, hcz26_3⟩ := blkC4 (w := w25) BK199.out; obtain ⟨hfz26_0, hfz26_1, hfz26_2, hfz26_3⟩ := blkF4 BK199.out))
         go_ret
         exact ⟨by first | rfl | (simp [errW_none, errW_some] <;> rfl) | (simp [*, errW_none, errW_some] <;> rfl), bw⟩
        ·rw [if_neg c24] at H
         have c24b0 : decide (a0_3 ≤ 6) = false := decide_eq_false c24
         clear c24
         obtain rfl := Option.some.inj H
         go_enter Try.func37, Try.ntmps37
         go_wp2_with (first | ((with_reducible refine gate_dst (N := 1) rfl ?_); refine bx 1 #[.int .i64 a0_0, .int .i64 a0_1, .int .i64 a0_2, .int .i64 a0_3] 65 ?_; intro gb199 hg w27 hbox hb; have BK199 := AX (hbox); have GW199 := gwl (w := w) hg bw; have GE199 := GW199; replace HB := AX (below_step bw hb); clear hb hbox hg; obtain ⟨hcz28_0, hcz28_1, hcz28_2, hcz28_3⟩ := blkC4 (w := w27) BK199.out; obtain ⟨hfz28_0, hfz28_1, hfz28_2, hfz28_3⟩ := blkF4 BK199.out))
         go_ret
         exact ⟨by first | rfl | (simp [errW_none, errW_some] <;> rfl) | (simp [*, errW_none, errW_some] <;> rfl), bw⟩
       ·rw [if_neg c23] at H
        have c23b0 : decide (0 ≤ a0_3) = false := decide_eq_false c23
        clear c23
        obtain rfl := Option.some.inj H
        go_enter Try.func37, Try.ntmps37
        go_wp2_with (first | ((with_reducible refine gate_dst (N := 1) rfl ?_); refine bx 1 #[.int .i64 a0_0, .int .i64 a0_1, .int .i64 a0_2, .int .i64 a0_3] 65 ?_; intro gb199 hg w29 hbox hb; have BK199 := AX (hbox); have GW199 := gwl (w := w) hg bw; have GE199 := GW199; replace HB := AX (below_step bw hb); clear hb hbox hg; obtain ⟨hcz30_0, hcz30_1, hcz30_2, hcz30_3⟩ := blkC4 (w := w29) BK199.out; obtain ⟨hfz30_0, hfz30_1, hfz30_2, hfz30_3⟩ := blkF4 BK199.out))
        go_ret
        exact ⟨by first | rfl | (simp [errW_none, errW_some] <;> rfl) | (simp [*, errW_none, errW_some] <;> rfl), bw⟩
      ·rw [if_neg c22] at H
       have c22b0 : decide (a0_2 ≤ 5) = false := decide_eq_false c22
       clear c22
       obtain rfl := Option.some.inj H
       go_enter Try.func37, Try.ntmps37
       go_wp2_with (first | ((with_reducible refine gate_dst (N := 1) rfl ?_); refine bx 1 #[.int .i64 a0_0, .int .i64 a0_1, .int .i64 a0_2, .int .i64 a0_3] 65 ?_; intro gb199 hg w31 hbox hb; have BK199 := AX (hbox); have GW199 := gwl (w := w) hg bw; have GE199 := GW199; replace HB := AX (below_step bw hb); clear hb hbox hg; obtain ⟨hcz32_0, hcz32_1, hcz32_2, hcz32_3⟩ := blkC4 (w := w31) BK199.out; obtain ⟨hfz32_0, hfz32_1, hfz32_2, hfz32_3⟩ := blkF4 BK199.out))
       go_ret
       exact ⟨by first | rfl | (simp [errW_none, errW_some] <;> rfl) | (simp [*, errW_none, errW_some] <;> rfl), bw⟩
     ·rw [if_neg c21] at H
      have c21b0 : decide (1 ≤ a0_2) = false := decide_eq_false c21
      clear c21
      obtain rfl := Option.some.inj H
      go_enter Try.func37, Try.ntmps37
      go_wp2_with (first | ((with_reducible refine gate_dst (N := 1) rfl ?_); refine bx 1 #[.int .i64 a0_0, .int .i64 a0_1, .int .i64 a0_2, .int .i64 a0_3] 65 ?_; intro gb199 hg w33 hbox hb; have BK199 := AX (hbox); have GW199 := gwl (w := w) hg bw; have GE199 := GW199; replace HB := AX (below_step bw hb); clear hb hbox hg; obtain ⟨hcz34_0, hcz34_1, hcz34_2, hcz34_3⟩ := blkC4 (w := w33) BK199.out; obtain ⟨hfz34_0, hfz34_1, hfz34_2, hfz34_3⟩ := blkF4 BK199.out))
      go_ret
      exact ⟨by first | rfl | (simp [errW_none, errW_some] <;> rfl) | (simp [*, errW_none, errW_some] <;> rfl), bw⟩
    ·rw [if_neg c20] at H
     have c20b0 : decide (a0_1 ≤ 12) = false := decide_eq_false c20
     clear c20
     obtain rfl := Option.some.inj H
     go_enter Try.func37, Try.ntmps37
     go_wp2_with (first | ((with_reducible refine gate_dst (N := 1) rfl ?_); refine bx 1 #[.int .i64 a0_0, .int .i64 a0_1, .int .i64 a0_2, .int .i64 a0_3] 65 ?_; intro gb199 hg w35 hbox hb; have BK199 := AX (hbox); have GW199 := gwl (w := w) hg bw; have GE199 := GW199; replace HB := AX (below_step bw hb); clear hb hbox hg; obtain ⟨hcz36_0, hcz36_1, hcz36_2, hcz36_3⟩ := blkC4 (w := w35) BK199.out; obtain ⟨hfz36_0, hfz36_1, hfz36_2, hfz36_3⟩ := blkF4 BK199.out))
     go_ret
     exact ⟨by first | rfl | (simp [errW_none, errW_some] <;> rfl) | (simp [*, errW_none, errW_some] <;> rfl), bw⟩
   ·rw [if_neg c19] at H
    have c19b0 : decide (1 ≤ a0_1) = false := decide_eq_false c19
    clear c19
    obtain rfl := Option.some.inj H
    go_enter Try.func37, Try.ntmps37
    go_wp2_with (first | ((with_reducible refine gate_dst (N := 1) rfl ?_); refine bx 1 #[.int .i64 a0_0, .int .i64 a0_1, .int .i64 a0_2, .int .i64 a0_3] 65 ?_; intro gb199 hg w37 hbox hb; have BK199 := AX (hbox); have GW199 := gwl (w := w) hg bw; have GE199 := GW199; replace HB := AX (below_step bw hb); clear hb hbox hg; obtain ⟨hcz38_0, hcz38_1, hcz38_2, hcz38_3⟩ := blkC4 (w := w37) BK199.out; obtain ⟨hfz38_0, hfz38_1, hfz38_2, hfz38_3⟩ := blkF4 BK199.out))
    go_ret
    exact ⟨by first | rfl | (simp [errW_none, errW_some] <;> rfl) | (simp [*, errW_none, errW_some] <;> rfl), bw⟩
  ·rw [if_neg c18] at H
   have c18b0 : (a0_0 == 2) = false := beq_eq_false_iff_ne.mpr c18
   have c18b1 : (a0_0 != 2) = true := bne_iff_ne.mpr c18
   by_cases c39 : a0_0 = 3
   ·rw [if_pos c39] at H
    have c39b0 : (a0_0 == 3) = true := beq_iff_eq.mpr c39
    have c39b1 : (a0_0 != 3) = false := bne_eq_false_iff_eq.mpr c39
    clear c39
    by_cases c40 : a0_1 ≥ (-100)
    ·rw [if_pos c40] at H
     have c40b0 : decide ((-100) ≤ a0_1) = true := decide_eq_true c40
     clear c40
     by_cases c41 : a0_1 ≤ 100
     ·rw [if_pos c41] at H
      have c41b0 : decide (a0_1 ≤ 100) = true := decide_eq_true c41
      clear c41
      by_cases c42 : a0_2 = 0
      ·rw [if_pos c42] at H
       have c42b0 : (a0_2 == 0) = true := beq_iff_eq.mpr c42
       have c42b1 : (a0_2 != 0) = false := bne_eq_false_iff_eq.mpr c42
       clear c42
       by_cases c43 : a0_3 = 0
       ·rw [if_pos c43] at H
        have c43b0 : (a0_3 == 0) = true := beq_iff_eq.mpr c43
        have c43b1 : (a0_3 != 0) = false := bne_eq_false_iff_eq.mpr c43
        clear c43
        obtain rfl := Option.some.inj H
        go_enter Try.func37, Try.ntmps37
        go_wp2_with (first | ((with_reducible refine gate_dst (N := 1) rfl ?_); refine bx 1 #[.int .i64 a0_0, .int .i64 a0_1, .int .i64 a0_2, .int .i64 a0_3] 65 ?_; intro gb199 hg w44 hbox hb; have BK199 := AX (hbox); have GW199 := gwl (w := w) hg bw; have GE199 := GW199; replace HB := AX (below_step bw hb); clear hb hbox hg; obtain ⟨hcz45_0, hcz45_1, hcz45_2, hcz45_3⟩ := blkC4 (w := w44) BK199.out; obtain ⟨hfz45_0, hfz45_1, hfz45_2, hfz45_3⟩ := blkF4 BK199.out))
        go_ret
        exact ⟨by first | rfl | (simp [errW_none, errW_some] <;> rfl) | (simp [*, errW_none, errW_some] <;> rfl), bw⟩
       ·rw [if_neg c43] at H
        have c43b0 : (a0_3 == 0) = false := beq_eq_false_iff_ne.mpr c43
        have c43b1 : (a0_3 != 0) = true := bne_iff_ne.mpr c43
        obtain rfl := Option.some.inj H
        go_enter Try.func37, Try.ntmps37
        go_wp2_with (first | ((with_reducible refine gate_dst (N := 1) rfl ?_); refine bx 1 #[.int .i64 a0_0, .int .i64 a0_1, .int .i64 a0_2, .int .i64 a0_3] 65 ?_; intro gb199 hg w46 hbox hb; have BK199 := AX (hbox); have GW199 := gwl (w := w) hg bw; have GE199 := GW199; replace HB := AX (below_step bw hb); clear hb hbox hg; obtain ⟨hcz47_0, hcz47_1, hcz47_2, hcz47_3⟩ := blkC4 (w := w46) BK199.out; obtain ⟨hfz47_0, hfz47_1, hfz47_2, hfz47_3⟩ := blkF4 BK199.out))
        go_ret
        exact ⟨by first | rfl | (simp [errW_none, errW_some] <;> rfl) | (simp [*, errW_none, errW_some] <;> rfl), bw⟩
      ·rw [if_neg c42] at H
       have c42b0 : (a0_2 == 0) = false := beq_eq_false_iff_ne.mpr c42
       have c42b1 : (a0_2 != 0) = true := bne_iff_ne.mpr c42
       obtain rfl := Option.some.inj H
       go_enter Try.func37, Try.ntmps37
       go_wp2_with (first | ((with_reducible refine gate_dst (N := 1) rfl ?_); refine bx 1 #[.int .i64 a0_0, .int .i64 a0_1, .int .i64 a0_2, .int .i64 a0_3] 65 ?_; intro gb199 hg w48 hbox hb; have BK199 := AX (hbox); have GW199 := gwl (w := w) hg bw; have GE199 := GW199; replace HB := AX (below_step bw hb); clear hb hbox hg; obtain ⟨hcz49_0, hcz49_1, hcz49_2, hcz49_3⟩ := blkC4 (w := w48) BK199.out; obtain ⟨hfz49_0, hfz49_1, hfz49_2, hfz49_3⟩ := blkF4 BK199.out))
       go_ret
       exact ⟨by first | rfl | (simp [errW_none, errW_some] <;> rfl) | (simp [*, errW_none, errW_some] <;> rfl), bw⟩
     ·rw [if_neg c41] at H
      have c41b0 : decide (a0_1 ≤ 100) = false := decide_eq_false c41
      clear c41
      obtain rfl := Option.some.inj H
      go_enter Try.func37, Try.ntmps37
      go_wp2_with (first | ((with_reducible refine gate_dst (N := 1) rfl ?_); refine bx 1 #[.int .i64 a0_0, .int .i64 a0_1, .int .i64 a0_2, .int .i64 a0_3] 65 ?_; intro gb199 hg w50 hbox hb; have BK199 := AX (hbox); have GW199 := gwl (w := w) hg bw; have GE199 := GW199; replace HB := AX (below_step bw hb); clear hb hbox hg; obtain ⟨hcz51_0, hcz51_1, hcz51_2, hcz51_3⟩ := blkC4 (w := w50) BK199.out; obtain ⟨hfz51_0, hfz51_1, hfz51_2, hfz51_3⟩ := blkF4 BK199.out))
      go_ret
      exact ⟨by first | rfl | (simp [errW_none, errW_some] <;> rfl) | (simp [*, errW_none, errW_some] <;> rfl), bw⟩
    ·rw [if_neg c40] at H
     have c40b0 : decide ((-100) ≤ a0_1) = false := decide_eq_false c40
     clear c40
     obtain rfl := Option.some.inj H
     go_enter Try.func37, Try.ntmps37
     go_wp2_with (first | ((with_reducible refine gate_dst (N := 1) rfl ?_); refine bx 1 #[.int .i64 a0_0, .int .i64 a0_1, .int .i64 a0_2, .int .i64 a0_3] 65 ?_; intro gb199 hg w52 hbox hb; have BK199 := AX (hbox); have GW199 := gwl (w := w) hg bw; have GE199 := GW199; replace HB := AX (below_step bw hb); clear hb hbox hg; obtain ⟨hcz53_0, hcz53_1, hcz53_2, hcz53_3⟩ := blkC4 (w := w52) BK199.out; obtain ⟨hfz53_0, hfz53_1, hfz53_2, hfz53_3⟩ := blkF4 BK199.out))
     go_ret
     exact ⟨by first | rfl | (simp [errW_none, errW_some] <;> rfl) | (simp [*, errW_none, errW_some] <;> rfl), bw⟩
   ·rw [if_neg c39] at H
    have c39b0 : (a0_0 == 3) = false := beq_eq_false_iff_ne.mpr c39
    have c39b1 : (a0_0 != 3) = true := bne_iff_ne.mpr c39
    obtain rfl := Option.some.inj H
    go_enter Try.func37, Try.ntmps37
    go_wp2_with (first | ((with_reducible refine gate_dst (N := 1) rfl ?_); refine bx 1 #[.int .i64 a0_0, .int .i64 a0_1, .int .i64 a0_2, .int .i64 a0_3] 65 ?_; intro gb199 hg w54 hbox hb; have BK199 := AX (hbox); have GW199 := gwl (w := w) hg bw; have GE199 := GW199; replace HB := AX (below_step bw hb); clear hb hbox hg; obtain ⟨hcz55_0, hcz55_1, hcz55_2, hcz55_3⟩ := blkC4 (w := w54) BK199.out; obtain ⟨hfz55_0, hfz55_1, hfz55_2, hfz55_3⟩ := blkF4 BK199.out))
    go_ret
    exact ⟨by first | rfl | (simp [errW_none, errW_some] <;> rfl) | (simp [*, errW_none, errW_some] <;> rfl), bw⟩

/-! ### pylonref09_holidays: function 55 -/
def pylonref09_holidays.l0 : Nat → List (S65) → Int → Int → Option (Bool)
 | 0, _, _, _ => none
 | k + 1, x0, x5, x6 => if x6 < x5 then (if 0 ≤ x6 then (if x6 < (x0.length : Int) then ((pylonref05_Check.f k ((rd_T65 x0 x6).f0) ((rd_T65 x0 x6).f1) ((rd_T65 x0 x6).f2) ((rd_T65 x0 x6).f3)).bind fun t203 => (if t203 = 0 then (pylonref09_holidays.l0 k x0 x5 (wrap64 (x6 + 1))) else (some false))) else (none)) else (none)) else (some (decide ((x0.length : Int) ≤ 64)))
def pylonref09_holidays.f (k : Nat) (l0 : List (S65)) : Option (Bool) := pylonref09_holidays.l0 k l0 (l0.length : Int) 0
theorem pylonref09_holidays.mono_l : ∀ k, (∀ y0 y1 y2, LeO (pylonref09_holidays.l0 k y0 y1 y2) (pylonref09_holidays.l0 (k + 1) y0 y1 y2))
 | 0 => fun _ _ _ r h => by simp [pylonref09_holidays.l0] at h
 | k + 1 => by
  have ih0 := pylonref09_holidays.mono_l k
  ·intro y0 y1 y2
   unfold pylonref09_holidays.l0
   repeat' first
   | (with_reducible exact ih0 _ _ _)
   | (with_reducible exact pylonref05_Check.mono _ _ _ _ _)
   | (with_reducible exact LeO.refl _)
   | (with_reducible exact LeO.none _)
   | (with_reducible refine LeO.ite ?_ ?_)
   | (with_reducible refine LeO.bind ?_ (fun _ => ?_))
theorem pylonref09_holidays.mono : ∀ a0 k, LeO (pylonref09_holidays.f k a0) (pylonref09_holidays.f (k + 1) a0) := by
 intro a0 k
 have ih0 := pylonref09_holidays.mono_l k
 unfold pylonref09_holidays.f
 repeat' first
   | (with_reducible exact ih0 _ _ _)
   | (with_reducible exact pylonref05_Check.mono _ _ _ _ _)
   | (with_reducible exact LeO.refl _)
   | (with_reducible exact LeO.none _)
   | (with_reducible refine LeO.ite ?_ ?_)
   | (with_reducible refine LeO.bind ?_ (fun _ => ?_))
set_option maxHeartbeats 8000000 in
set_option maxRecDepth 100000 in
theorem pylonref09_holidays.calls (k : Nat) (A0 : Option Addr) (c0 : Nat) (l0 : List (S65)) (r : Bool) (w : World) (hr0 : Kd.C k65 w A0 l0.length l0) (hc0 : l0.length ≤ c0) (h : pylonref09_holidays.f k l0 = some r) :
  Calls Try.prog 55 #[.slice A0 l0.length c0] w fun e w' => e = .returned (.bool r) ∧ Below w.heap.size w w' := by
 have hu65 := Try.underlying65
 have HR0 := AX hr0
 have HC0 := AX hc0
 clear hr0 hc0
 have HB := AX (Below.refl w.heap.size w)
 have H : (pylonref09_holidays.l0 k l0 (l0.length : Int) 0) = some r := h
 clear h
 have H' := AX H
 clear H
 go_enter Try.func55, Try.ntmps55
 go_wp2
 go_loopg [6] k (fun kq v6 w' => ∃ (x6_1 : Int), v6 = .int .i64 x6_1 ∧ Aside0 (pylonref09_holidays.l0 kq l0 (l0.length : Int) x6_1 = some r) ∧ Aside0 (kq ≤ k) ∧ Aside0 (Below w.heap.size w w'))
 case atStart => exact ⟨(0), (by first | rfl | (simp; done) | (simp [*]; done)), H', ⟨Nat.le_refl _⟩, ⟨bw⟩⟩
 case round =>
  clear H'
  obtain ⟨x6_1, rfl, HA, HK1, HB⟩ := hrel
  cases gk with
  | zero => exact absurd HA.out (by simp [pylonref09_holidays.l0])
  | succ k1 =>
   have H := HA.out
   clear HA
   simp only [pylonref09_holidays.l0] at H
   by_cases c2 : x6_1 < (l0.length : Int)
   ·rw [if_pos c2] at H
    have c2b0 : decide (x6_1 < (l0.length : Int)) = true := decide_eq_true c2
    clear c2
    by_cases c3 : 0 ≤ x6_1
    ·rw [if_pos c3] at H
     have c3b0 : decide (0 ≤ x6_1) = true := decide_eq_true c3
     clear c3
     by_cases c4 : x6_1 < (l0.length : Int)
     ·rw [if_pos c4] at H
      have c4b0 : decide (x6_1 < (l0.length : Int)) = true := decide_eq_true c4
      clear c4
      replace H := Option.bind_eq_some_iff.mp H
      obtain ⟨t203, A50, H⟩ := H
      replace H : (if t203 = 0 then (pylonref09_holidays.l0 k1 l0 (l0.length : Int) (wrap64 (x6_1 + 1))) else (some false)) = some r := H
      have A5 := AX A50
      clear A50
      by_cases c6 : t203 = 0
      ·rw [if_pos c6] at H
       have c6b0 : (t203 == 0) = true := beq_iff_eq.mpr c6
       have c6b1 : (t203 != 0) = false := bne_eq_false_iff_eq.mpr c6
       clear c6
       have H' := AX H
       clear H
       have p202 : 0 ≤ (x6_1 : Int) := of_decide_eq_true (by first | (with_reducible assumption) | assumption)
       have q202 : x6_1 < (l0.length : Int) := of_decide_eq_true (by first | (with_reducible assumption) | assumption)
       obtain ⟨ad202, e202, hx202_0, hx202_1, hx202_2, hx202_3⟩ := at_T65 HR0.out x6_1 p202 q202
       cases e202
       replace hx202_0 := bcl HB hx202_0
       replace hx202_1 := bcl HB hx202_1
       replace hx202_2 := bcl HB hx202_2
       replace hx202_3 := bcl HB hx202_3
       replace p202 := eq_true p202
       replace q202 := eq_true q202
       go_wp2_with (first | ((with_reducible refine gate_callee (f := 37) rfl ?_); refine gL (some 13) Try.func37 #[.agg #[.int .i64 ((rd_T65 l0 x6_1).f0), .int .i64 ((rd_T65 l0 x6_1).f1), .int .i64 ((rd_T65 l0 x6_1).f2), .int .i64 ((rd_T65 l0 x6_1).f3)]] ?_; (with_reducible refine (pylonref05_Check.calls k1 ((rd_T65 l0 x6_1).f0) ((rd_T65 l0 x6_1).f1) ((rd_T65 l0 x6_1).f2) ((rd_T65 l0 x6_1).f3) t203 _ A5.out).mono ?_); rintro e w7 ⟨rfl, hb⟩; refine ⟨_, rfl, ?_⟩; replace HB := AX (below_step bw hb); (try clear hb)))
       go_roundg k1
       case measure => have := HK1.out; omega
       case rel => exact ⟨(wrap64 (x6_1 + 1)), (by first | rfl | (simp; done) | (simp [*]; done)), H', ⟨by have := HK1.out; omega⟩, ⟨bw⟩⟩
      ·rw [if_neg c6] at H
       have c6b0 : (t203 == 0) = false := beq_eq_false_iff_ne.mpr c6
       have c6b1 : (t203 != 0) = true := bne_iff_ne.mpr c6
       obtain rfl := Option.some.inj H
       have p202 : 0 ≤ (x6_1 : Int) := of_decide_eq_true (by first | (with_reducible assumption) | assumption)
       have q202 : x6_1 < (l0.length : Int) := of_decide_eq_true (by first | (with_reducible assumption) | assumption)
       obtain ⟨ad202, e202, hx202_0, hx202_1, hx202_2, hx202_3⟩ := at_T65 HR0.out x6_1 p202 q202
       cases e202
       replace hx202_0 := bcl HB hx202_0
       replace hx202_1 := bcl HB hx202_1
       replace hx202_2 := bcl HB hx202_2
       replace hx202_3 := bcl HB hx202_3
       replace p202 := eq_true p202
       replace q202 := eq_true q202
       go_wp2_with (first | ((with_reducible refine gate_callee (f := 37) rfl ?_); refine gL (some 13) Try.func37 #[.agg #[.int .i64 ((rd_T65 l0 x6_1).f0), .int .i64 ((rd_T65 l0 x6_1).f1), .int .i64 ((rd_T65 l0 x6_1).f2), .int .i64 ((rd_T65 l0 x6_1).f3)]] ?_; (with_reducible refine (pylonref05_Check.calls k1 ((rd_T65 l0 x6_1).f0) ((rd_T65 l0 x6_1).f1) ((rd_T65 l0 x6_1).f2) ((rd_T65 l0 x6_1).f3) t203 _ A5.out).mono ?_); rintro e w8 ⟨rfl, hb⟩; refine ⟨_, rfl, ?_⟩; replace HB := AX (below_step bw hb); (try clear hb)))
       go_ret
       exact ⟨by first | rfl | (simp [errW_none, errW_some] <;> rfl) | (simp [*, errW_none, errW_some] <;> rfl), bw⟩
     ·rw [if_neg c4] at H
      exact absurd H (by simp)
    ·rw [if_neg c3] at H
     exact absurd H (by simp)
   ·rw [if_neg c2] at H
    have c2b0 : decide (x6_1 < (l0.length : Int)) = false := decide_eq_false c2
    clear c2
    obtain rfl := Option.some.inj H
    go_wp2
    go_ret
    exact ⟨by first | rfl | (simp [errW_none, errW_some] <;> rfl) | (simp [*, errW_none, errW_some] <;> rfl), bw⟩

end Go.Proofs.Ytkggjjggcbcdiaa.PX
