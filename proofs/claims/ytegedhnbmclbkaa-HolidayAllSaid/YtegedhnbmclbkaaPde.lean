/- The library's unstable sort, walked, a row of elements of k cells; the function that compares may make memory. Here: partition. Condition: the function that compares answers by an order of what lies in the row, and changes nothing that was there. -/
import Derived.Test.YtegedhnbmclbkaaPdb
import Derived.Sort.WalkC4
namespace Go.Proofs.Ytegedhnbmclbkaa.Pd
open Go.Shelf Go.RowKit Go.Lib Go.Sort
set_option linter.unusedVariables false
set_option linter.unusedSimpArgs false
section
variable {α : Type} [Inhabited α] {enc : α → List Value} {k : Nat} {g sf : Nat} {lb sb : Array Value} {lt : α → α → Bool} {blk off n : Nat}
set_option maxHeartbeats 2000000 in
set_option maxRecDepth 100000 in
theorem partition (hk : ∀ x, (enc x).length = k) {w0 : World} (hless : Less g lb enc k lt blk off n w0) (eg : ∀ args w, (callFunc g args).run Try.prog w = .ok (.enter g args) w) (hswap : SwapSwapsK Try.prog sf sb enc k blk off n) (hn : n < 4611686018427387904) (W : World) (d : Array α) (h0 : w0.grownBy W (some blk)) (hH : HoldsK enc k W blk off d) (hd : d.size = n) (hblk : blk < W.heap.size) (a b pivot : Nat) (hap : a ≤ pivot) (hpb : pivot < b) (hb : b ≤ n) :
    Calls Try.prog 68 #[dat g sf lb sb, .int .i64 a, .int .i64 b, .int .i64 pivot] W fun e w' => e = .returned (.tuple #[.int .i64 (Sort.partition lt d a b pivot).1, .bool (Sort.partition lt d a b pivot).2.1]) ∧ Did enc k blk off (Sort.partition lt d a b pivot).2.2 W w' := by
  have hW1 : Below W.heap.size W (W.alloc (.cells #[.func (.func g) #[] lb, .func (.func sf) #[] sb] 76)) := (Below.refl _ _).alloc (Nat.le_refl _) _
  have hH1 := h_below hH hblk hW1
  have hb1 : blk < (W.alloc (.cells #[.func (.func g) #[] lb, .func (.func sf) #[] sb] 76)).heap.size := Nat.lt_of_lt_of_le hblk hW1.size
  have H01 := Lib.hid (gb_trans h0 (gb_below hW1))
  have hne : W.heap.size ≠ blk := by omega
  have hD0 : Did enc k blk off d (W.alloc (.cells #[.func (.func g) #[] lb, .func (.func sf) #[] sb] 76)) (W.alloc (.cells #[.func (.func g) #[] lb, .func (.func sf) #[] sb] 76)) := ⟨hH1, gb_refl _ _, sh_refl _ _⟩
  have hs := hswap _ d hH1 hd a pivot (by omega) (by omega)
  have HD0 := Lib.hid (did_swap hk hD0 (i := a) (j := pivot) (by omega) (by omega))
  go_enter Try.func68, Try.ntmps68
  go_wp2
  clear hs hD0
  obtain ⟨i, hie⟩ : ∃ i, i = a + 1 := ⟨_, rfl⟩
  obtain ⟨j, hje⟩ : ∃ j, j = b - 1 := ⟨_, rfl⟩
  obtain ⟨dk, hdke⟩ : ∃ dk, dk = swp d a pivot := ⟨_, rfl⟩
  have hdk : dk.size = n := by rw [hdke, size_swp]; exact hd
  have hai : a < i := by omega
  have hij : i ≤ j + 1 := by omega
  have hjb : j < b := by omega
  rw [← hdke] at HD0
  rw [show ((a : Int) + 1) = (i : Int) by omega, show ((b : Int) - 1) = (j : Int) by omega]
  have HN := Lib.hid (And.intro hie (And.intro hje hdke))
  clear hie hje hdke
  go_loopw [10] (fun vi wr => ∃ (x : Nat), vi = .int .i64 x ∧ i ≤ x ∧ x ≤ j + 1 ∧ Hid (Did enc k blk off dk (W.alloc (.cells #[.func (.func g) #[] lb, .func (.func sf) #[] sb] 76)) wr) ∧ Hid (scanUp (fun z => lt z dk[a]!) dk j x = scanUp (fun z => lt z dk[a]!) dk j i)) (fun vi _ => (j + 1 - (intOf vi).toNat))
  case atStart => exact ⟨i, rfl, Nat.le_refl _, hij, HD0, rfl⟩
  case round =>
    clear HD0
    obtain ⟨x, rfl, hix, hxj, HD, HU⟩ := hrel
    have c0 : wr.cell? ⟨W.heap.size, 0, none⟩ = some (.func (.func g) #[] lb) := (gb_cell HD.out.2 (by simp) hne).trans (by simp)
    by_cases hx : x ≤ j
    · have hl := hless wr dk (gb_trans H01.out HD.out.2) HD.out.1 hdk x a (by omega) (by omega)
      cases hv : lt dk[x]! dk[a]! with
      | true =>
        rw [hv] at hl
        have HL := Lib.hid hl
        clear hl
        go_wp2_with (go_at_fn g; refine HL.out.mono ?_; rintro e w1 ⟨rfl, hB⟩)
        go_roundw
        case rel => exact ⟨x + 1, by go_num, by omega, by omega, did_below HD.out hb1 hB, by show scanUp _ _ _ _ = _; rw [← HU.out, scanUp_go (fun z => lt z dk[a]!) dk j x hx hv]⟩
        case measure => simp [intOf] <;> omega
      | false =>
        rw [hv] at hl
        have HL := Lib.hid hl
        have HE := Lib.hid (show x = scanUp (fun z => lt z dk[a]!) dk j i by rw [← HU.out, scanUp_end (fun z => lt z dk[a]!) dk j x (Or.inr hv)])
        clear hl
        go_wp2_with (go_at_fn g; refine HL.out.mono ?_; rintro e w1 ⟨rfl, hB⟩)
        have HD1 := Lib.hid (did_below HD.out hb1 hB)
        go_loopw [11] (fun vj wr => ∃ (y : Nat), vj = .int .i64 y ∧ x ≤ y + 1 ∧ y ≤ j ∧ Hid (Did enc k blk off dk (W.alloc (.cells #[.func (.func g) #[] lb, .func (.func sf) #[] sb] 76)) wr) ∧ Hid (scanDown (fun z => !lt z dk[a]!) dk x y = scanDown (fun z => !lt z dk[a]!) dk x j)) (fun vj _ => (intOf vj + 1 - x).toNat)
        case atStart => exact ⟨j, rfl, by omega, Nat.le_refl _, HD1, rfl⟩
        case round =>
          clear HD1
          obtain ⟨y, rfl, hxy, hyj, HD, HV⟩ := hrel
          have c0 : wr.cell? ⟨W.heap.size, 0, none⟩ = some (.func (.func g) #[] lb) := (gb_cell HD.out.2 (by simp) hne).trans (by simp)
          by_cases hy : x ≤ y
          · have hl := hless wr dk (gb_trans H01.out HD.out.2) HD.out.1 hdk y a (by omega) (by omega)
            cases hw : lt dk[y]! dk[a]! with
            | false =>
              rw [hw] at hl
              have HL := Lib.hid hl
              clear hl
              go_wp2_with (go_at_fn g; refine HL.out.mono ?_; rintro e w1 ⟨rfl, hB⟩)
              go_roundw
              case rel => exact ⟨y - 1, by congr 1; omega, by omega, by omega, did_below HD.out hb1 hB, by show scanDown _ _ _ _ = _; rw [← HV.out, scanDown_go (fun z => !lt z dk[a]!) dk x y hy (by omega) (by simp [hw])]⟩
              case measure => simp [intOf] <;> omega
            | true =>
              rw [hw] at hl
              have HL := Lib.hid hl
              clear hl
              have HF := Lib.hid (show y = scanDown (fun z => !lt z dk[a]!) dk x j by rw [← HV.out, scanDown_end (fun z => !lt z dk[a]!) dk x y (Or.inr (by simp [hw]))])
              have hlt := part_scans_lt lt a i j dk (by omega) HE.out HF.out hy
              have CS := Lib.hid (show ∀ w1, Below wr.heap.size wr w1 → w1.cell? ⟨W.heap.size, 1, none⟩ = some (.func (.func sf) #[] sb) ∧ (callFunc sf (#[.int .i64 x, .int .i64 y] ++ sb)).run Try.prog w1 = .ok (.value (.tuple #[])) ((w1.setCells blk (off + x * k) (enc dk[y]!)).setCells blk (off + y * k) (enc dk[x]!)) from fun w1 hB =>
                ⟨(gb_cell (did_below HD.out hb1 hB).2 (by simp) hne).trans (by simp), hswap w1 dk (did_below HD.out hb1 hB).1 hdk x y (by omega) (by omega)⟩)
              go_wp2_with (go_at_fn g; refine HL.out.mono ?_; rintro e w1 ⟨rfl, hB⟩; have ⟨c1, hs⟩ := CS.out w1 hB)
              have HP := Lib.hid (part_first_go lt d a b pivot HN.out.1 HN.out.2.1 HN.out.2.2 HE.out HF.out (by omega))
              have HD2 := Lib.hid (did_swap hk (did_below HD.out hb1 hB) (i := x) (j := y) (by omega) (by omega))
              have HDK := Lib.hid hdk
              clear HD HL CS hs c1
              have hdec : decide (y < x) = false := decide_eq_false (by omega)
              rw [hdec]
              go_loopw [10, 11] (fun vi vj wr => ∃ (i j : Nat) (dk' : Array α), vi = .int .i64 i ∧ vj = .int .i64 j ∧ a < i ∧ i ≤ j + 1 ∧ j < b ∧ dk'.size = n ∧ Hid (Did enc k blk off dk' (W.alloc (.cells #[.func (.func g) #[] lb, .func (.func sf) #[] sb] 76)) wr) ∧ Hid (partLoop lt a i j dk' = partLoop lt a (x + 1) (y - 1) (swp dk x y))) (fun vi vj _ => (intOf vj - intOf vi + 1).toNat)
              case atStart => exact ⟨x + 1, y - 1, _, by go_num, by congr 1; omega, by omega, by omega, by omega, by rw [size_swp]; exact HDK.out, HD2, rfl⟩
              case round =>
                clear HD2 HE HF HU HV
                clear hdk HDK HN
                obtain ⟨i, j, dk, rfl, rfl, hai, hij, hjb, hdk, HD, HI⟩ := hrel
                go_wp2
                go_loopw [10] (fun vi wr => ∃ (x : Nat), vi = .int .i64 x ∧ i ≤ x ∧ x ≤ j + 1 ∧ Hid (Did enc k blk off dk (W.alloc (.cells #[.func (.func g) #[] lb, .func (.func sf) #[] sb] 76)) wr) ∧ Hid (scanUp (fun z => lt z dk[a]!) dk j x = scanUp (fun z => lt z dk[a]!) dk j i)) (fun vi _ => (j + 1 - (intOf vi).toNat))
                case atStart => exact ⟨i, rfl, Nat.le_refl _, hij, HD, rfl⟩
                case round =>
                  clear HD
                  obtain ⟨x, rfl, hix, hxj, HD, HU⟩ := hrel
                  have c0 : wr.cell? ⟨W.heap.size, 0, none⟩ = some (.func (.func g) #[] lb) := (gb_cell HD.out.2 (by simp) hne).trans (by simp)
                  by_cases hx : x ≤ j
                  · have hl := hless wr dk (gb_trans H01.out HD.out.2) HD.out.1 hdk x a (by omega) (by omega)
                    cases hv : lt dk[x]! dk[a]! with
                    | true =>
                      rw [hv] at hl
                      have HL := Lib.hid hl
                      clear hl
                      go_wp2_with (go_at_fn g; refine HL.out.mono ?_; rintro e w1 ⟨rfl, hB⟩)
                      go_roundw
                      case rel => exact ⟨x + 1, by go_num, by omega, by omega, did_below HD.out hb1 hB, by show scanUp _ _ _ _ = _; rw [← HU.out, scanUp_go (fun z => lt z dk[a]!) dk j x hx hv]⟩
                      case measure => simp [intOf] <;> omega
                    | false =>
                      rw [hv] at hl
                      have HL := Lib.hid hl
                      have HE := Lib.hid (show x = scanUp (fun z => lt z dk[a]!) dk j i by rw [← HU.out, scanUp_end (fun z => lt z dk[a]!) dk j x (Or.inr hv)])
                      clear hl
                      go_wp2_with (go_at_fn g; refine HL.out.mono ?_; rintro e w1 ⟨rfl, hB⟩)
                      have HD1 := Lib.hid (did_below HD.out hb1 hB)
                      go_loopw [11] (fun vj wr => ∃ (y : Nat), vj = .int .i64 y ∧ x ≤ y + 1 ∧ y ≤ j ∧ Hid (Did enc k blk off dk (W.alloc (.cells #[.func (.func g) #[] lb, .func (.func sf) #[] sb] 76)) wr) ∧ Hid (scanDown (fun z => !lt z dk[a]!) dk x y = scanDown (fun z => !lt z dk[a]!) dk x j)) (fun vj _ => (intOf vj + 1 - x).toNat)
                      case atStart => exact ⟨j, rfl, by omega, Nat.le_refl _, HD1, rfl⟩
                      case round =>
                        clear HD1
                        obtain ⟨y, rfl, hxy, hyj, HD, HV⟩ := hrel
                        have c0 : wr.cell? ⟨W.heap.size, 0, none⟩ = some (.func (.func g) #[] lb) := (gb_cell HD.out.2 (by simp) hne).trans (by simp)
                        by_cases hy : x ≤ y
                        · have hl := hless wr dk (gb_trans H01.out HD.out.2) HD.out.1 hdk y a (by omega) (by omega)
                          cases hw : lt dk[y]! dk[a]! with
                          | false =>
                            rw [hw] at hl
                            have HL := Lib.hid hl
                            clear hl
                            go_wp2_with (go_at_fn g; refine HL.out.mono ?_; rintro e w1 ⟨rfl, hB⟩)
                            go_roundw
                            case rel => exact ⟨y - 1, by congr 1; omega, by omega, by omega, did_below HD.out hb1 hB, by show scanDown _ _ _ _ = _; rw [← HV.out, scanDown_go (fun z => !lt z dk[a]!) dk x y hy (by omega) (by simp [hw])]⟩
                            case measure => simp [intOf] <;> omega
                          | true =>
                            rw [hw] at hl
                            have HL := Lib.hid hl
                            clear hl
                            have HF := Lib.hid (show y = scanDown (fun z => !lt z dk[a]!) dk x j by rw [← HV.out, scanDown_end (fun z => !lt z dk[a]!) dk x y (Or.inr (by simp [hw]))])
                            have hlt := part_scans_lt lt a i j dk (by omega) HE.out HF.out hy
                            have CS := Lib.hid (show ∀ w1, Below wr.heap.size wr w1 → w1.cell? ⟨W.heap.size, 1, none⟩ = some (.func (.func sf) #[] sb) ∧ (callFunc sf (#[.int .i64 x, .int .i64 y] ++ sb)).run Try.prog w1 = .ok (.value (.tuple #[])) ((w1.setCells blk (off + x * k) (enc dk[y]!)).setCells blk (off + y * k) (enc dk[x]!)) from fun w1 hB =>
                              ⟨(gb_cell (did_below HD.out hb1 hB).2 (by simp) hne).trans (by simp), hswap w1 dk (did_below HD.out hb1 hB).1 hdk x y (by omega) (by omega)⟩)
                            go_wp2_with (go_at_fn g; refine HL.out.mono ?_; rintro e w1 ⟨rfl, hB⟩; have ⟨c1, hs⟩ := CS.out w1 hB)
                            go_roundw
                            case rel => exact ⟨x + 1, y - 1, swp dk x y, by go_num, by congr 1; omega, by omega, by omega, by omega, by rw [size_swp]; exact hdk, did_swap hk (did_below HD.out hb1 hB) (by omega) (by omega), (part_go lt a i j dk HE.out HF.out (by omega)).symm.trans HI.out⟩
                            case measure => simp [intOf] <;> omega
                        · have HF := Lib.hid (show y = scanDown (fun z => !lt z dk[a]!) dk x j by rw [← HV.out, scanDown_end (fun z => !lt z dk[a]!) dk x y (Or.inl hy)])
                          have CS := Lib.hid (show ∀ w1, Below wr.heap.size wr w1 → w1.cell? ⟨W.heap.size, 1, none⟩ = some (.func (.func sf) #[] sb) ∧ (callFunc sf (#[.int .i64 y, .int .i64 a] ++ sb)).run Try.prog w1 = .ok (.value (.tuple #[])) ((w1.setCells blk (off + y * k) (enc dk[a]!)).setCells blk (off + a * k) (enc dk[y]!)) from fun w1 hB =>
                            ⟨(gb_cell (did_below HD.out hb1 hB).2 (by simp) hne).trans (by simp), hswap w1 dk (did_below HD.out hb1 hB).1 hdk y a (by omega) (by omega)⟩)
                          have ⟨c1, hs⟩ := CS.out wr (Below.refl _ _)
                          go_wp2
                          go_ret2
                          have e := HI.out
                          rw [part_break lt a i j dk HE.out HF.out (by omega)] at e
                          rw [HP.out, ← e]
                          exact ⟨rfl, did_box (did_swap hk HD.out (by omega) (by omega))⟩
                  · have HE := Lib.hid (show x = scanUp (fun z => lt z dk[a]!) dk j i by rw [← HU.out, scanUp_end (fun z => lt z dk[a]!) dk j x (Or.inl hx)])
                    go_wp2
                    go_loopw [11] (fun vj wr => ∃ (y : Nat), vj = .int .i64 y ∧ x ≤ y + 1 ∧ y ≤ j ∧ Hid (Did enc k blk off dk (W.alloc (.cells #[.func (.func g) #[] lb, .func (.func sf) #[] sb] 76)) wr) ∧ Hid (scanDown (fun z => !lt z dk[a]!) dk x y = scanDown (fun z => !lt z dk[a]!) dk x j)) (fun vj _ => (intOf vj + 1 - x).toNat)
                    case atStart => exact ⟨j, rfl, by omega, Nat.le_refl _, HD, rfl⟩
                    case round =>
                      clear HD
                      obtain ⟨y, rfl, hxy, hyj, HD, HV⟩ := hrel
                      have c0 : wr.cell? ⟨W.heap.size, 0, none⟩ = some (.func (.func g) #[] lb) := (gb_cell HD.out.2 (by simp) hne).trans (by simp)
                      by_cases hy : x ≤ y
                      · exact absurd hy (by omega)
                      · have HF := Lib.hid (show y = scanDown (fun z => !lt z dk[a]!) dk x j by rw [← HV.out, scanDown_end (fun z => !lt z dk[a]!) dk x y (Or.inl hy)])
                        have CS := Lib.hid (show ∀ w1, Below wr.heap.size wr w1 → w1.cell? ⟨W.heap.size, 1, none⟩ = some (.func (.func sf) #[] sb) ∧ (callFunc sf (#[.int .i64 y, .int .i64 a] ++ sb)).run Try.prog w1 = .ok (.value (.tuple #[])) ((w1.setCells blk (off + y * k) (enc dk[a]!)).setCells blk (off + a * k) (enc dk[y]!)) from fun w1 hB =>
                          ⟨(gb_cell (did_below HD.out hb1 hB).2 (by simp) hne).trans (by simp), hswap w1 dk (did_below HD.out hb1 hB).1 hdk y a (by omega) (by omega)⟩)
                        have ⟨c1, hs⟩ := CS.out wr (Below.refl _ _)
                        go_wp2
                        go_ret2
                        have e := HI.out
                        rw [part_break lt a i j dk HE.out HF.out (by omega)] at e
                        rw [HP.out, ← e]
                        exact ⟨rfl, did_box (did_swap hk HD.out (by omega) (by omega))⟩
          · have HF := Lib.hid (show y = scanDown (fun z => !lt z dk[a]!) dk x j by rw [← HV.out, scanDown_end (fun z => !lt z dk[a]!) dk x y (Or.inl hy)])
            have CS := Lib.hid (show ∀ w1, Below wr.heap.size wr w1 → w1.cell? ⟨W.heap.size, 1, none⟩ = some (.func (.func sf) #[] sb) ∧ (callFunc sf (#[.int .i64 y, .int .i64 a] ++ sb)).run Try.prog w1 = .ok (.value (.tuple #[])) ((w1.setCells blk (off + y * k) (enc dk[a]!)).setCells blk (off + a * k) (enc dk[y]!)) from fun w1 hB =>
              ⟨(gb_cell (did_below HD.out hb1 hB).2 (by simp) hne).trans (by simp), hswap w1 dk (did_below HD.out hb1 hB).1 hdk y a (by omega) (by omega)⟩)
            have ⟨c1, hs⟩ := CS.out wr (Below.refl _ _)
            go_wp2
            go_ret2
            rw [part_first_break lt d a b pivot HN.out.1 HN.out.2.1 HN.out.2.2 HE.out HF.out (by omega)]
            exact ⟨rfl, did_box (did_swap hk HD.out (by omega) (by omega))⟩
    · have HE := Lib.hid (show x = scanUp (fun z => lt z dk[a]!) dk j i by rw [← HU.out, scanUp_end (fun z => lt z dk[a]!) dk j x (Or.inl hx)])
      go_wp2
      go_loopw [11] (fun vj wr => ∃ (y : Nat), vj = .int .i64 y ∧ x ≤ y + 1 ∧ y ≤ j ∧ Hid (Did enc k blk off dk (W.alloc (.cells #[.func (.func g) #[] lb, .func (.func sf) #[] sb] 76)) wr) ∧ Hid (scanDown (fun z => !lt z dk[a]!) dk x y = scanDown (fun z => !lt z dk[a]!) dk x j)) (fun vj _ => (intOf vj + 1 - x).toNat)
      case atStart => exact ⟨j, rfl, by omega, Nat.le_refl _, HD, rfl⟩
      case round =>
        clear HD
        obtain ⟨y, rfl, hxy, hyj, HD, HV⟩ := hrel
        have c0 : wr.cell? ⟨W.heap.size, 0, none⟩ = some (.func (.func g) #[] lb) := (gb_cell HD.out.2 (by simp) hne).trans (by simp)
        by_cases hy : x ≤ y
        · exact absurd hy (by omega)
        · have HF := Lib.hid (show y = scanDown (fun z => !lt z dk[a]!) dk x j by rw [← HV.out, scanDown_end (fun z => !lt z dk[a]!) dk x y (Or.inl hy)])
          have CS := Lib.hid (show ∀ w1, Below wr.heap.size wr w1 → w1.cell? ⟨W.heap.size, 1, none⟩ = some (.func (.func sf) #[] sb) ∧ (callFunc sf (#[.int .i64 y, .int .i64 a] ++ sb)).run Try.prog w1 = .ok (.value (.tuple #[])) ((w1.setCells blk (off + y * k) (enc dk[a]!)).setCells blk (off + a * k) (enc dk[y]!)) from fun w1 hB =>
            ⟨(gb_cell (did_below HD.out hb1 hB).2 (by simp) hne).trans (by simp), hswap w1 dk (did_below HD.out hb1 hB).1 hdk y a (by omega) (by omega)⟩)
          have ⟨c1, hs⟩ := CS.out wr (Below.refl _ _)
          go_wp2
          go_ret2
          rw [part_first_break lt d a b pivot HN.out.1 HN.out.2.1 HN.out.2.2 HE.out HF.out (by omega)]
          exact ⟨rfl, did_box (did_swap hk HD.out (by omega) (by omega))⟩
end
end Go.Proofs.Ytegedhnbmclbkaa.Pd
