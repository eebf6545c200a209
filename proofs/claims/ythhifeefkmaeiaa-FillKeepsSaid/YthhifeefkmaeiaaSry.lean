/- The library's stable sort, walked: the symmetric merge; a row of whole numbers, sorted by a key. Condition: the function that compares answers by the key of what lies in the row, and changes nothing that was there. -/
import Derived.Test.YthhifeefkmaeiaaSrx
import Derived.Deep.DeepCutAuto
import Derived.Test.YthhifeefkmaeiaaStb
import Derived.Shelf.GgSortMore.Stable
import Derived.Deep.LoopGhost
import Derived.Lib.Hide
import Derived.Outline
namespace Go.Proofs.Ythhifeefkmaeiaa.Srw
open Go.Shelf Go.RowKit Go.Lib Go.Sort Go.Proofs.Ythhifeefkmaeiaa.Stb
set_option linter.unusedVariables false
set_option linter.unusedSimpArgs false
section
variable {g sf : Nat} {lb sb : Array Value} {key : Int → Int} {blk off n : Nat}
theorem rot_id {f : Nat → Int} {s m e : Nat} (hs : s ≤ m) (he : m ≤ e) (h : ¬ (s < m ∧ m < e)) (t : Nat) : f t = rot f s m e t := by
  unfold rot
  (repeat' split) <;> first | rfl | omega | (apply fcong; omega)
theorem srt_one {d : Array Int} {x y z : Nat} (h1 : SortedIn (ltT key) x y d) (h2 : SortedIn (ltT key) y z d) (hxy : x ≤ y) (hyz : y ≤ z) (h : ¬ (x < y ∧ y < z)) : SortedIn (ltT key) x z d := by
  by_cases hx : x = y
  · subst hx; exact h2
  · obtain rfl : y = z := by omega
    exact h1
def Merges (P : Program) (F : Nat) (g sf : Nat) (lb sb : Array Value) (key : Int → Int) (blk off n : Nat) (w0 : World) (N : Nat) : Prop :=
  ∀ (W : World) (d : Array Int) (a m b : Nat), b - a ≤ N → w0.grownBy W (some blk) → Holds enc W blk off d → d.size = n → Ok n d → blk < W.heap.size → a < m → m < b → b ≤ n → SortedIn (ltT key) a m d → SortedIn (ltT key) m b d → Apart a m b d →
    Calls P F #[dat g sf lb sb, .int .i64 a, .int .i64 m, .int .i64 b] W fun e w' => e = .returned (.tuple #[]) ∧ ∃ d', Did blk off d' W w' ∧ d'.size = n ∧ PermIn a b d d' ∧ SortedIn (ltT key) a b d'
set_option maxHeartbeats 4000000 in
set_option maxRecDepth 100000 in
theorem symG {w0 : World} (hless : Less g lb key blk off n w0) (eg : ∀ args w, (callFunc g args).run Try.prog w = .ok (.enter g args) w) (hswap : 2 ≤ n → SwapSwaps Try.prog sf sb enc blk off n) (hn : n < 4611686018427387904) (N : Nat) (ih : Merges Try.prog 50 g sf lb sb key blk off n w0 N)
    (W : World) (d : Array Int) (a m b : Nat) (hN : b - a ≤ N + 1) (h0 : w0.grownBy W (some blk)) (hH : Holds enc W blk off d) (hd : d.size = n) (hok : Ok n d) (hblk : blk < W.heap.size) (ham : a + 1 < m) (hmb : m + 1 < b) (hb : b ≤ n)
    (hS1 : SortedIn (ltT key) a m d) (hS2 : SortedIn (ltT key) m b d) (hA : Apart a m b d) :
    Calls Try.prog 50 #[dat g sf lb sb, .int .i64 a, .int .i64 m, .int .i64 b] W fun e w' => e = .returned (.tuple #[]) ∧ ∃ d', Did blk off d' W w' ∧ d'.size = n ∧ PermIn a b d d' ∧ SortedIn (ltT key) a b d' := by
  have hW1 : Below W.heap.size W (W.alloc (.cells #[.func (.func g) #[] lb, .func (.func sf) #[] sb] 73)) := (Below.refl _ _).alloc (Nat.le_refl _) _
  have hH1 := h_below hH hblk hW1
  have hb1 : blk < (W.alloc (.cells #[.func (.func g) #[] lb, .func (.func sf) #[] sb] 73)).heap.size := Nat.lt_of_lt_of_le hblk hW1.size
  have H01 := Lib.hid (gb_trans h0 (gb_below hW1))
  have hne : W.heap.size ≠ blk := by omega
  have hm0 : ((m : Int) - a == 1) = false := by simp; omega
  have hm3 : ((b : Int) - m == 1) = false := by simp; omega
  have HOK : Hid (Ok n d) := hok
  clear hok
  have HS1 := Lib.hid hS1
  have HS2 := Lib.hid hS2
  have HA := Lib.hid hA
  have IH := Lib.hid ih
  clear hS1 hS2 hA ih
  obtain ⟨mid, hmid1, hmid2⟩ : ∃ mid : Nat, a + b - 1 ≤ 2 * mid ∧ 2 * mid ≤ a + b := ⟨(a + b) / 2, by omega, by omega⟩
  have hmid : ((a : Int) + b) / 2 = (mid : Int) := by omega
  go_enter Try.func50, Try.ntmps50
  obtain ⟨lo, hi, hlh⟩ : ∃ lo hi : Nat, (mid < m ∧ lo = mid + m - b ∧ hi = mid) ∨ (m ≤ mid ∧ lo = a ∧ hi = m) := by
    rcases Nat.lt_or_ge mid m with hmm | hmm
    · exact ⟨_, _, .inl ⟨hmm, rfl, rfl⟩⟩
    · exact ⟨_, _, .inr ⟨hmm, rfl, rfl⟩⟩
  have HLH := Lib.hid hlh
  clear hlh
  go_upto_if 106 with (fail)
  go_cut [18, 19, 106] (fun v18 v19 v106 wc => v18 = .int .i64 lo ∧ v19 = .int .i64 hi ∧ (W.alloc (.cells #[.func (.func g) #[] lb, .func (.func sf) #[] sb] 73)) = wc)
  case first =>
    rcases Nat.lt_or_ge mid m with hmm | hmm
    · go_wp2
      go_meet
      case rel => have := HLH.out; exact ⟨by congr 1; omega, by congr 1; omega, rfl⟩
    · have hmm2 : ¬ mid < m := by omega
      go_wp2
      go_meet
      case rel => have := HLH.out; exact ⟨by congr 1; omega, by congr 1; omega, rfl⟩
  case rest =>
    obtain ⟨rfl, rfl, rfl⟩ := hcut
    clear hmid hm0 hm3
    go_wp2
    go_loopw [18, 19] (fun vs vr wr => ∃ (s r : Nat), vs = .int .i64 s ∧ vr = .int .i64 r ∧ lo ≤ s ∧ s ≤ r ∧ r ≤ hi ∧ Hid (Did blk off d (W.alloc (.cells #[.func (.func g) #[] lb, .func (.func sf) #[] sb] 73)) wr) ∧ Hid (∀ c, lo ≤ c → c < s → ltK key d[mid + m - 1 - c]! d[c]! = false) ∧ Hid (∀ c, r ≤ c → c < hi → ltK key d[mid + m - 1 - c]! d[c]! = true)) (fun vs vr _ => (intOf vr).toNat - (intOf vs).toNat)
    case atStart =>
      have := HLH.out
      exact ⟨lo, hi, rfl, rfl, by omega, by omega, by omega, ⟨hH1, gb_refl _ _⟩, fun t h1 h2 => by omega, fun t h1 h2 => by omega⟩
    case round =>
      obtain ⟨s, r, rfl, rfl, hs, hsr, hr, HD, HU, HN⟩ := hrel
      have c0 : wr.cell? ⟨W.heap.size, 0, none⟩ = some (.func (.func g) #[] lb) := (gb_cell HD.out.2 (by simp) hne).trans (by simp)
      by_cases hlt : s < r
      · have hx : a ≤ (s + r) / 2 ∧ (s + r) / 2 < m ∧ m ≤ mid + m - 1 - (s + r) / 2 ∧ mid + m - 1 - (s + r) / 2 < b ∧ (s + r) / 2 < hi ∧ hi ≤ mid ∧ hi ≤ m := by have := HLH.out; omega
        have hbd : ∀ c, lo ≤ c → c < hi → a ≤ c ∧ c < m ∧ m ≤ mid + m - 1 - c ∧ mid + m - 1 - c < b := fun c h1 h2 => by have := HLH.out; omega
        have HBD := Lib.hid hbd
        clear hbd
        have hl := hless wr d (gb_trans H01.out HD.out.2) HD.out.1 hd HOK.out (mid + m - 1 - (s + r) / 2) ((s + r) / 2) (by omega) (by omega)
        rw [show ((mid + m - 1 - (s + r) / 2 : Nat) : Int) = (mid : Int) + m - 1 - ((s : Int) + r) / 2 by omega, show (((s + r) / 2 : Nat) : Int) = ((s : Int) + r) / 2 by omega] at hl
        cases hlv : ltK key d[mid + m - 1 - (s + r) / 2]! d[(s + r) / 2]! with
        | false =>
          as_aux_lemma =>
            rw [hlv] at hl
            have HL := Lib.hid hl
            clear hl
            go_wp2_with (go_at_fn g; refine HL.out.mono ?_; rintro e w1 ⟨rfl, hB⟩)
            go_roundw
            case rel => exact ⟨(s + r) / 2 + 1, r, by first | rfl | (congr 1; omega), rfl, by omega, by omega, hr, did_below HD.out hb1 hB, fun c h1 h2 => gen_dn HS1.out HS2.out HA.out ⟨hx.1, hx.2.1, hx.2.2.1, hx.2.2.2.1⟩ hlv (by omega) (HBD.out c h1 (by omega)), HN⟩
            case measure => simp [intOf]; omega
        | true =>
          as_aux_lemma =>
            rw [hlv] at hl
            have HL := Lib.hid hl
            clear hl
            go_wp2_with (go_at_fn g; refine HL.out.mono ?_; rintro e w1 ⟨rfl, hB⟩)
            go_roundw
            case rel => exact ⟨s, (s + r) / 2, rfl, by first | rfl | (congr 1; omega), hs, by omega, by omega, did_below HD.out hb1 hB, HU, fun c h1 h2 => gen_up HS1.out HS2.out HA.out ⟨hx.1, hx.2.1, hx.2.2.1, hx.2.2.2.1⟩ hlv (by omega) (HBD.out c (by omega) h2)⟩
            case measure => simp [intOf]; omega
      · obtain rfl : s = r := by omega
        obtain ⟨e, he⟩ : ∃ e : Nat, e + s = mid + m := ⟨mid + m - s, by have := HLH.out; omega⟩
        have hx : s ≤ m ∧ m ≤ e ∧ s ≤ mid ∧ mid ≤ e ∧ e ≤ b ∧ a ≤ s ∧ mid < b ∧ a < mid := by have := HLH.out; omega
        have hse : (mid : Int) + m - s = (e : Int) := by omega
        clear hsr hlt
        have G := Lib.hid (fun (d' : Array Int) => gen_rot (d' := d') (e := e) (mid := mid) ⟨hmid1, hmid2⟩ (by omega) (by omega) HS1.out HS2.out HA.out HLH.out hs hr he HU.out HN.out)
        have c1 : wr.cell? ⟨W.heap.size, 1, none⟩ = some (.func (.func sf) #[] sb) := (gb_cell HD.out.2 (by simp) hne).trans (by simp)
        go_upto_region 40 with (fail)
        go_cut [145] (fun vb wc => ∃ B : Bool, vb = .bool B ∧ Hid (B = true ↔ s < m ∧ m < e) ∧ wr = wc)
        case first =>
          rcases Nat.lt_or_ge s m with hr1 | hr1
          · rcases Nat.lt_or_ge m e with hr2 | hr2
            · go_wp2
              go_meet
              case rel => exact ⟨true, rfl, (by simp [hr1, hr2] : _ ↔ _), rfl⟩
            · go_wp2
              go_meet
              case rel => exact ⟨false, (by first | rfl | (congr 1; exact decide_eq_false (by omega))), (by simp; omega : _ ↔ _), rfl⟩
          · go_wp2
            go_meet
            case rel => exact ⟨false, (by first | rfl | (congr 1; exact decide_eq_false (by omega))), (by simp; omega : _ ↔ _), rfl⟩
        case rest =>
          obtain ⟨B, rfl, HBt, rfl⟩ := hcut
          go_upto_if 145 with (fail)
          go_cut [145] (fun _ wc => ∃ d1, Hid (Did blk off d1 (W.alloc (.cells #[.func (.func g) #[] lb, .func (.func sf) #[] sb] 73)) wc ∧ d1.size = n ∧ (∀ t, d1[t]! = rot (fun t => d[t]!) s m e t) ∧ PermIn a b d d1))
          case first =>
            cases B with
            | true =>
              as_aux_lemma =>
                have ⟨hr1, hr2⟩ := HBt.out.1 rfl
                have HC := Lib.hid (rotate (g := g) (lb := lb) hswap hn wr d HD.out.1 hd (did_lt HD.out hb1) s m e hr1 hr2 (by omega))
                go_wp2_with (go_at_call 51; refine HC.out.mono ?_; rintro e1 w' ⟨rfl, d', hD, hs', hw, hp⟩)
                go_meet
                case rel => exact ⟨d', did_trans HD.out hD, hs', hw, permIn_mono _ _ _ _ _ _ (by omega) (by omega) (by omega) hp⟩
            | false =>
              as_aux_lemma =>
                go_wp2
                go_meet
                case rel => exact ⟨d, HD.out, hd, rot_id (by omega) (by omega) (fun h => Bool.false_ne_true (HBt.out.2 h)), permIn_refl _ _ _⟩
          case rest =>
            obtain ⟨d1, F1⟩ := hcut
            clear c0 c1 HBt
            obtain ⟨w1, rfl⟩ : ∃ w1 : World, w1 = wc := ⟨_, rfl⟩
            have c0 : w1.cell? ⟨W.heap.size, 0, none⟩ = some (.func (.func g) #[] lb) := (gb_cell F1.out.1.2 (by simp) hne).trans (by simp)
            have c1 : w1.cell? ⟨W.heap.size, 1, none⟩ = some (.func (.func sf) #[] sb) := (gb_cell F1.out.1.2 (by simp) hne).trans (by simp)
            go_upto_region 42 with (fail)
            go_cut [158] (fun vb wc => ∃ B : Bool, vb = .bool B ∧ Hid (B = true ↔ a < s ∧ s < mid) ∧ w1 = wc)
            case first =>
              rcases Nat.lt_or_ge a s with hr1 | hr1
              · rcases Nat.lt_or_ge s mid with hr2 | hr2
                · go_wp2
                  go_meet
                  case rel => exact ⟨true, rfl, (by simp [hr1, hr2] : _ ↔ _), rfl⟩
                · go_wp2
                  go_meet
                  case rel => exact ⟨false, (by first | rfl | (congr 1; exact decide_eq_false (by omega))), (by simp; omega : _ ↔ _), rfl⟩
              · go_wp2
                go_meet
                case rel => exact ⟨false, (by first | rfl | (congr 1; exact decide_eq_false (by omega))), (by simp; omega : _ ↔ _), rfl⟩
            case rest =>
              obtain ⟨B, rfl, HBt, rfl⟩ := hcut
              go_upto_if 158 with (fail)
              go_cut [158] (fun _ wc => ∃ d2, Hid (Did blk off d2 (W.alloc (.cells #[.func (.func g) #[] lb, .func (.func sf) #[] sb] 73)) wc ∧ d2.size = n ∧ PermIn a b d d2 ∧ SortedIn (ltT key) a mid d2 ∧ SortedIn (ltT key) mid e d2 ∧ SortedIn (ltT key) e b d2 ∧ Apart mid e b d2 ∧ (∀ i j, a ≤ i → i < mid → mid ≤ j → j < b → ltT key d2[j]! d2[i]! = false)))
              case first =>
                have K := Lib.hid (G.out d1 F1.out.2.2.1)
                cases B with
                | true =>
                  as_aux_lemma =>
                    have ⟨hr1, hr2⟩ := HBt.out.1 rfl
                    have HC := Lib.hid (IH.out w1 d1 a s mid (by omega) (gb_trans H01.out F1.out.1.2) F1.out.1.1 F1.out.2.1 (ok_perm HOK.out hd hb F1.out.2.2.2) (did_lt F1.out.1 hb1) hr1 hr2 (by omega) K.out.1 K.out.2.1 K.out.2.2.2.2.1)
                    go_wp2_with (go_at_call 50; refine HC.out.mono ?_; rintro e1 w' ⟨rfl, d', hD, hs', hp, hso⟩)
                    go_meet
                    case rel => exact ⟨d', did_trans F1.out.1 hD, hs', permIn_trans _ _ _ _ _ F1.out.2.2.2 (permIn_mono _ _ _ _ _ _ (by omega) (by omega) (by have := F1.out.2.1; omega) hp), hso, srt_out hp K.out.2.2.1 (by omega), srt_out hp K.out.2.2.2.1 (by omega), ap_out hp K.out.2.2.2.2.2.1 (by omega), cross_l (by have := F1.out.2.1; omega) hp K.out.2.2.2.2.2.2⟩
                | false =>
                  as_aux_lemma =>
                    go_wp2
                    go_meet
                    case rel => exact ⟨d1, F1.out.1, F1.out.2.1, F1.out.2.2.2, srt_one K.out.1 K.out.2.1 hx.2.2.2.2.2.1 hx.2.2.1 (fun h => Bool.false_ne_true (HBt.out.2 h)), K.out.2.2.1, K.out.2.2.2.1, K.out.2.2.2.2.2.1, K.out.2.2.2.2.2.2⟩
              case rest =>
                obtain ⟨d2, F2⟩ := hcut
                obtain ⟨w2, rfl⟩ : ∃ w2 : World, w2 = wc := ⟨_, rfl⟩
                have c0 : w2.cell? ⟨W.heap.size, 0, none⟩ = some (.func (.func g) #[] lb) := (gb_cell F2.out.1.2 (by simp) hne).trans (by simp)
                have c1 : w2.cell? ⟨W.heap.size, 1, none⟩ = some (.func (.func sf) #[] sb) := (gb_cell F2.out.1.2 (by simp) hne).trans (by simp)
                clear F1 HBt
                go_upto_region 44 with (fail)
                go_cut [171] (fun vb wc => ∃ B : Bool, vb = .bool B ∧ Hid (B = true ↔ mid < e ∧ e < b) ∧ w2 = wc)
                case first =>
                  rcases Nat.lt_or_ge mid e with hr1 | hr1
                  · rcases Nat.lt_or_ge e b with hr2 | hr2
                    · go_wp2
                      go_meet
                      case rel => exact ⟨true, rfl, (by simp [hr1, hr2] : _ ↔ _), rfl⟩
                    · go_wp2
                      go_meet
                      case rel => exact ⟨false, (by first | rfl | (congr 1; exact decide_eq_false (by omega))), (by simp; omega : _ ↔ _), rfl⟩
                  · go_wp2
                    go_meet
                    case rel => exact ⟨false, (by first | rfl | (congr 1; exact decide_eq_false (by omega))), (by simp; omega : _ ↔ _), rfl⟩
                case rest =>
                  obtain ⟨B, rfl, HBt, rfl⟩ := hcut
                  go_upto_if 171 with (fail)
                  cases B with
                  | true =>
                    as_aux_lemma =>
                      have ⟨hr1, hr2⟩ := HBt.out.1 rfl
                      have HC := Lib.hid (IH.out w2 d2 mid e b (by omega) (gb_trans H01.out F2.out.1.2) F2.out.1.1 F2.out.2.1 (ok_perm HOK.out hd hb F2.out.2.2.1) (did_lt F2.out.1 hb1) hr1 hr2 hb F2.out.2.2.2.2.1 F2.out.2.2.2.2.2.1 F2.out.2.2.2.2.2.2.1)
                      go_wp2_with (go_at_call 50; refine HC.out.mono ?_; rintro e1 w' ⟨rfl, d', hD, hs', hp, hso⟩)
                      go_end0
                      exact ⟨rfl, d', did_box (did_trans F2.out.1 hD), hs', permIn_trans _ _ _ _ _ F2.out.2.2.1 (permIn_mono _ _ _ _ _ _ (by omega) (by omega) (by have := F2.out.2.1; omega) hp), srt_join (srt_out hp F2.out.2.2.2.1 (by omega)) hso (cross_r (by have := F2.out.2.1; omega) hp F2.out.2.2.2.2.2.2.2)⟩
                  | false =>
                    as_aux_lemma =>
                      go_wp2
                      go_end0
                      exact ⟨rfl, d2, did_box F2.out.1, F2.out.2.1, F2.out.2.2.1, srt_join F2.out.2.2.2.1 (srt_one F2.out.2.2.2.2.1 F2.out.2.2.2.2.2.1 hx.2.2.2.1 hx.2.2.2.2.1 (fun h => Bool.false_ne_true (HBt.out.2 h))) F2.out.2.2.2.2.2.2.2⟩
theorem symMerge {w0 : World} (hless : Less g lb key blk off n w0) (eg : ∀ args w, (callFunc g args).run Try.prog w = .ok (.enter g args) w) (hswap : 2 ≤ n → SwapSwaps Try.prog sf sb enc blk off n) (hn : n < 4611686018427387904) : ∀ N, Merges Try.prog 50 g sf lb sb key blk off n w0 N := by
  intro N
  induction N with
  | zero => intro W d a m b hN _ _ _ _ _ ham hmb; omega
  | succ N ih =>
    intro W d a m b hN h0 hH hd hok hblk ham hmb hb hS1 hS2 hA
    by_cases h1 : m ≤ a + 1
    · exact symA hless eg hswap hn W d h0 hH hd hok hblk a m b (by omega) h1 hmb hb hS2 hA
    · by_cases h2 : b ≤ m + 1
      · exact symB hless eg hswap hn W d h0 hH hd hok hblk a m b (by omega) (by omega) h2 hb hS1 hA
      · exact symG hless eg hswap hn N ih W d a m b hN h0 hH hd hok hblk (by omega) (by omega) hb hS1 hS2 hA
end
end Go.Proofs.Ythhifeefkmaeiaa.Srw
