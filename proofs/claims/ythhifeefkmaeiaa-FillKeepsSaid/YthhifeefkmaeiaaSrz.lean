/- The library's stable sort, walked: the whole of it; a row of whole numbers, sorted by a key. Condition: the function that compares answers by the key of what lies in the row, and changes nothing that was there. -/
import Derived.Test.YthhifeefkmaeiaaSry
import Derived.Deep.DeepCutAuto
import Derived.Test.YthhifeefkmaeiaaStb
import Derived.Shelf.GgSortMore.Stable
import Derived.Deep.LoopGhost
import Derived.Lib.Hide
import Derived.Outline
namespace Go.Proofs.Ythhifeefkmaeiaa.Srw
open Go.Shelf Go.RowKit Go.Lib Go.Sort Go.Proofs.Ythhifeefkmaeiaa.Stb
set_option linter.unusedVariables false
set_option linter.unusedSimpArgs false
section
variable {g sf : Nat} {lb sb : Array Value} {key : Int → Int} {blk off n : Nat}
/-- runs of so many, each in order and of its own places' numbers -/
def Bk (key : Int → Int) (bs n : Nat) (d : Array Int) : Prop := ∀ x, bs ∣ x → x < n → Sg key x (min (x + bs) n) d
theorem dvd_step {k x a : Nat} (hx : k ∣ x) (ha : k ∣ a) (h : x < a) : x + k ≤ a := by
  have := Nat.le_of_dvd (by omega) (Nat.dvd_sub ha hx); omega
theorem dvd_half {k x : Nat} (h : 2 * k ∣ x) : k ∣ x := Nat.dvd_trans (Nat.dvd_mul_left k 2) h
/-- in the midst of a pass: up to a the runs are twice as long -/
def Md (key : Int → Int) (bs n a : Nat) (d : Array Int) : Prop := (∀ x, 2 * bs ∣ x → x < a → Sg key x (min (x + 2 * bs) n) d) ∧ ∀ x, bs ∣ x → a ≤ x → x < n → Sg key x (min (x + bs) n) d
theorem Md.start {bs : Nat} {d : Array Int} (h : Bk key bs n d) : Md key bs n 0 d := ⟨fun x _ hx => by omega, fun x hd _ hx => h x hd hx⟩
theorem Md.step {bs a e : Nat} {d d' : Array Int} (h : Md key bs n a d) (hbs : 0 < bs) (ha : 2 * bs ∣ a) (he : e = min (a + 2 * bs) n) (hm : a + bs < n) (hn : n ≤ d.size) (hP : PermIn a e d d') (hS : SortedIn (ltT key) a e d') :
    (∀ x, 2 * bs ∣ x → x < a + 2 * bs → x < n → Sg key x (min (x + 2 * bs) n) d') ∧ ∀ x, bs ∣ x → a + 2 * bs ≤ x → x < n → Sg key x (min (x + bs) n) d' := by
  have h1 := h.2 a (dvd_half ha) (Nat.le_refl _) (by omega)
  have h2 := h.2 (a + bs) (Nat.dvd_add (dvd_half ha) (Nat.dvd_refl _)) (by omega) hm
  rw [show min (a + bs) n = a + bs by omega] at h1
  rw [show min (a + bs + bs) n = e by omega] at h2
  have h3 := Sg.merge h1 h2 (by omega) (by omega) (by omega) hP hS
  refine ⟨fun x hx hxa hxn => ?_, fun x hx hxa hxn => Sg.out hP (h.2 x hx (by omega) hxn) (by omega)⟩
  by_cases c : x < a
  · have := dvd_step hx ha c
    exact Sg.out hP (h.1 x hx c) (by omega)
  · obtain rfl : x = a := by
      rcases Nat.lt_or_ge a x with c2 | c2
      · have := dvd_step ha hx c2; omega
      · omega
    rw [← he]; exact h3
theorem Md.pre {bs a e : Nat} {d : Array Int} (h : Md key bs n a d) (ha : 2 * bs ∣ a) (he : e = min (a + 2 * bs) n) (hm : a + bs < n) : SortedIn (ltT key) a (a + bs) d ∧ SortedIn (ltT key) (a + bs) e d ∧ Apart a (a + bs) e d := by
  have h1 := h.2 a (dvd_half ha) (Nat.le_refl _) (by omega)
  have h2 := h.2 (a + bs) (Nat.dvd_add (dvd_half ha) (Nat.dvd_refl _)) (by omega) hm
  rw [show min (a + bs) n = a + bs by omega] at h1
  rw [show min (a + bs + bs) n = e by omega] at h2
  exact ⟨h1.1, h2.1, Sg.apart h1 h2⟩
set_option maxHeartbeats 4000000 in
set_option maxRecDepth 100000 in
theorem stable {w0 : World} (hless : Less g lb key blk off n w0) (eg : ∀ args w, (callFunc g args).run Try.prog w = .ok (.enter g args) w) (hswap : 2 ≤ n → SwapSwaps Try.prog sf sb enc blk off n) (hn : n < 1152921504606846976) (W : World) (d : Array Int) (h0 : w0.grownBy W (some blk)) (hH : Holds enc W blk off d) (hd : d.size = n) (hblk : blk < W.heap.size) (hid : ∀ t, t < n → d[t]! = t) :
    Calls Try.prog 37 #[dat g sf lb sb, .int .i64 n] W fun e w' => e = .returned (.tuple #[]) ∧ ∃ d', Did blk off d' W w' ∧ d'.size = n ∧ PermIn 0 n d d' ∧ SortedIn (ltT key) 0 n d' := by
  have hW1 : Below W.heap.size W (W.alloc (.cells #[.func (.func g) #[] lb, .func (.func sf) #[] sb] 73)) := (Below.refl _ _).alloc (Nat.le_refl _) _
  have hH1 := h_below hH hblk hW1
  have hb1 : blk < (W.alloc (.cells #[.func (.func g) #[] lb, .func (.func sf) #[] sb] 73)).heap.size := Nat.lt_of_lt_of_le hblk hW1.size
  have H01 := Lib.hid (gb_trans h0 (gb_below hW1))
  have HIS := Lib.hid (fun W d h0 hH hd hok hblk a b hab hb => insertion (n := n) (W := W) (d := d) hless eg hswap (by omega) h0 hH hd hok hblk a b hab hb)
  have HSM := Lib.hid (symMerge hless eg hswap (show n < 4611686018427387904 by omega) n)
  have HID := Lib.hid hid
  have HOK : Hid (Ok n d) := fun t ht => by rw [hid t ht]; omega
  have hne : W.heap.size ≠ blk := by omega
  clear hid
  go_enter Try.func37, Try.ntmps37
  go_wp2
  go_loopw [5, 6] (fun va vb wr => ∃ (a b : Nat) (dk : Array Int), va = .int .i64 a ∧ vb = .int .i64 b ∧ a + 20 ≤ b ∧ b ≤ a + 20 ∧ a ≤ n ∧ dk.size = n ∧ Hid (Did blk off dk (W.alloc (.cells #[.func (.func g) #[] lb, .func (.func sf) #[] sb] 73)) wr) ∧ Hid (20 ∣ a ∧ (∀ x, 20 ∣ x → x < a → Sg key x (x + 20) dk) ∧ (∀ t : Nat, a ≤ t → t < n → dk[t]! = t) ∧ PermIn 0 n d dk)) (fun _ vb _ => n + 20 - (intOf vb).toNat)
  case atStart => exact ⟨0, 20, d, rfl, rfl, by omega, by omega, by omega, hd, ⟨hH1, gb_refl _ _⟩, ⟨by omega, fun p _ h => by omega, fun t _ h => HID.out t h, permIn_refl _ _ _⟩⟩
  case round =>
    obtain ⟨a, b, dk, rfl, rfl, hab1, hab2, han, hdk, HD, HF⟩ := hrel
    have c0 : wr.cell? ⟨W.heap.size, 0, none⟩ = some (.func (.func g) #[] lb) := (gb_cell HD.out.2 (by simp) hne).trans (by simp)
    have c1 : wr.cell? ⟨W.heap.size, 1, none⟩ = some (.func (.func sf) #[] sb) := (gb_cell HD.out.2 (by simp) hne).trans (by simp)
    by_cases hbn : b ≤ n
    · have HC := Lib.hid (HIS.out wr dk (gb_trans H01.out HD.out.2) HD.out.1 hdk (ok_perm HOK.out hd (Nat.le_refl n) HF.out.2.2.2) (did_lt HD.out hb1) a b (by omega) hbn)
      go_wp2_with (go_at_call 49; refine HC.out.mono ?_; rintro e1 w' ⟨rfl, hD⟩)
      go_roundw
      case rel =>
        have hI := insertionSort_T (key := key) dk a b (by omega) (by omega) (fun s t h1 h2 h3 => by rw [HF.out.2.2.1 s (by omega) (by omega), HF.out.2.2.1 t (by omega) (by omega)]; omega)
        refine ⟨b, b + 20, _, rfl, by go_num, by omega, by omega, by omega, hI.1.1.trans hdk, did_trans HD.out hD, ⟨by have := HF.out.1; omega, fun x hd hx => ?_, fun t h1 h2 => by rw [hI.1.2.1 t (by omega)]; exact HF.out.2.2.1 t (by omega) h2, permIn_trans _ _ _ _ _ HF.out.2.2.2 (permIn_mono _ _ _ _ _ _ (by omega) (by omega) (by omega) hI.1)⟩⟩
        by_cases c : x < a
        · exact Sg.out hI.1 (HF.out.2.1 x hd c) (by have := HF.out.1; omega)
        · obtain rfl : x = a := by have := HF.out.1; omega
          rw [show x + 20 = b by omega]
          exact ⟨hI.2, permIn_all dk _ x b (fun z => (x : Int) ≤ z ∧ z < b) (by omega) hI.1 (fun t h1 h2 => by rw [HF.out.2.2.1 t (by omega) (by omega)]; omega)⟩
      case measure => simp [intOf]; omega
    · have HC := Lib.hid (HIS.out wr dk (gb_trans H01.out HD.out.2) HD.out.1 hdk (ok_perm HOK.out hd (Nat.le_refl n) HF.out.2.2.2) (did_lt HD.out hb1) a n (by omega) (by omega))
      have hI := insertionSort_T (key := key) dk a n (by omega) (by omega) (fun s t h1 h2 h3 => by rw [HF.out.2.2.1 s (by omega) (by omega), HF.out.2.2.1 t (by omega) (by omega)]; omega)
      have HB : Hid (Bk key 20 n (insertionSort (ltK key) dk a n)) := fun x hx hxn => by
        have hda := HF.out.1
        by_cases c : x < a
        · rw [show min (x + 20) n = x + 20 by omega]
          exact Sg.out hI.1 (HF.out.2.1 x hx c) (by omega)
        · obtain rfl : x = a := by omega
          rw [show min (x + 20) n = n by omega]
          exact ⟨hI.2, permIn_all dk _ x n (fun z => (x : Int) ≤ z ∧ z < n) (by omega) hI.1 (fun t h1 h2 => by rw [HF.out.2.2.1 t (by omega) (by omega)]; omega)⟩
      have HP : Hid (PermIn 0 n d (insertionSort (ltK key) dk a n)) := permIn_trans _ _ _ _ _ HF.out.2.2.2 (permIn_mono _ _ _ _ _ _ (by omega) (by omega) (by omega) hI.1)
      have hsz : (insertionSort (ltK key) dk a n).size = n := hI.1.1.trans hdk
      have HDB := HD
      obtain ⟨d1, hd1⟩ : ∃ d1, d1 = insertionSort (ltK key) dk a n := ⟨_, rfl⟩
      rw [← hd1] at HB HP hsz HC
      clear hI hd1 HF HD
      go_wp2_with (go_at_call 49; refine HC.out.mono ?_; rintro e1 w' ⟨rfl, hD⟩)
      have HD1 : Hid (Did blk off d1 (W.alloc (.cells #[.func (.func g) #[] lb, .func (.func sf) #[] sb] 73)) w') := did_trans HDB.out hD
      clear hD HC HDB c0 c1
      go_loopw [4] (fun vs wr => ∃ (bs : Nat) (dk : Array Int), vs = .int .i64 bs ∧ 0 < bs ∧ bs ≤ 2 * n + 20 ∧ dk.size = n ∧ Hid (Did blk off dk (W.alloc (.cells #[.func (.func g) #[] lb, .func (.func sf) #[] sb] 73)) wr) ∧ Hid (Bk key bs n dk ∧ PermIn 0 n d dk)) (fun vs _ => n - (intOf vs).toNat)
      case atStart => exact ⟨20, d1, rfl, by omega, by omega, hsz, HD1, ⟨HB.out, HP.out⟩⟩
      case round =>
        obtain ⟨bs, dk, rfl, hbs, hbs2, hdk, HD, HF⟩ := hrel
        clear HD1 HB HP
        by_cases hlt : bs < n
        · go_wp2
          go_loopw [5, 6] (fun va vb wr => ∃ (a b : Nat) (dk : Array Int), va = .int .i64 a ∧ vb = .int .i64 b ∧ a + 2 * bs ≤ b ∧ b ≤ a + 2 * bs ∧ a < n + 2 * bs ∧ dk.size = n ∧ Hid (Did blk off dk (W.alloc (.cells #[.func (.func g) #[] lb, .func (.func sf) #[] sb] 73)) wr) ∧ Hid (2 * bs ∣ a ∧ Md key bs n a dk ∧ PermIn 0 n d dk)) (fun _ vb _ => n + 2 * bs - (intOf vb).toNat)
          case atStart => exact ⟨0, 2 * bs, dk, rfl, by go_num, by omega, by omega, by omega, hdk, HD, ⟨Nat.dvd_zero _, Md.start HF.out.1, HF.out.2⟩⟩
          case round =>
            obtain ⟨a, b, dj, rfl, rfl, hab1, hab2, han, hdj, HD2, HG⟩ := hrel
            have c0 : wr.cell? ⟨W.heap.size, 0, none⟩ = some (.func (.func g) #[] lb) := (gb_cell HD2.out.2 (by simp) hne).trans (by simp)
            have c1 : wr.cell? ⟨W.heap.size, 1, none⟩ = some (.func (.func sf) #[] sb) := (gb_cell HD2.out.2 (by simp) hne).trans (by simp)
            by_cases hbn : b ≤ n
            · have hp := Md.pre (e := b) HG.out.2.1 HG.out.1 (by omega) (by omega)
              have hc := HSM.out wr dj a (a + bs) b (by omega) (gb_trans H01.out HD2.out.2) HD2.out.1 hdj (ok_perm HOK.out hd (Nat.le_refl n) HG.out.2.2) (did_lt HD2.out hb1) (by omega) (by omega) hbn hp.1 hp.2.1 hp.2.2
              rw [show ((a + bs : Nat) : Int) = (a : Int) + bs by omega] at hc
              have HC := Lib.hid hc
              clear hc hp
              go_wp2_with (go_at_call 50; refine HC.out.mono ?_; rintro e1 w' ⟨rfl, d', hD, hs', hP, hS⟩)
              go_roundw
              case rel =>
                have hst := Md.step (e := b) HG.out.2.1 hbs HG.out.1 (by omega) (by omega) (by omega) hP hS
                have hdb : 2 * bs ∣ b := by rw [show b = a + 2 * bs by omega]; exact Nat.dvd_add HG.out.1 (Nat.dvd_refl _)
                exact ⟨b, b + 2 * bs, d', rfl, by go_num, by omega, by omega, by omega, hs', did_trans HD2.out hD, ⟨hdb, ⟨fun x h1 h2 => hst.1 x h1 (by omega) (by omega), fun x h1 h2 h3 => hst.2 x h1 (by omega) h3⟩, permIn_trans _ _ _ _ _ HG.out.2.2 (permIn_mono _ _ _ _ _ _ (by omega) (by omega) (by omega) hP)⟩⟩
              case measure => simp [intOf]; omega
            · by_cases hm : a + bs < n
              · have hp := Md.pre (e := n) HG.out.2.1 HG.out.1 (by omega) (by omega)
                have hc := HSM.out wr dj a (a + bs) n (by omega) (gb_trans H01.out HD2.out.2) HD2.out.1 hdj (ok_perm HOK.out hd (Nat.le_refl n) HG.out.2.2) (did_lt HD2.out hb1) (by omega) (by omega) (Nat.le_refl _) hp.1 hp.2.1 hp.2.2
                rw [show ((a + bs : Nat) : Int) = (a : Int) + bs by omega] at hc
                have HC := Lib.hid hc
                clear hc hp
                go_wp2_with (go_at_call 50; refine HC.out.mono ?_; rintro e1 w' ⟨rfl, d', hD, hs', hP, hS⟩)
                go_roundw
                case rel =>
                  have hst := Md.step (e := n) HG.out.2.1 hbs HG.out.1 (by omega) (by omega) (by omega) hP hS
                  exact ⟨bs * 2, d', by go_num, by omega, by omega, hs', did_trans HD2.out hD, ⟨fun x h1 h2 => by rw [show bs * 2 = 2 * bs by omega] at *; exact hst.1 x h1 (by omega) h2, permIn_trans _ _ _ _ _ HG.out.2.2 (permIn_mono _ _ _ _ _ _ (by omega) (by omega) (by omega) hP)⟩⟩
                case measure => simp [intOf]; omega
              · go_wp2
                go_roundw
                case rel =>
                  refine ⟨bs * 2, dj, by go_num, by omega, by omega, hdj, HD2.out, ⟨fun x h1 h2 => ?_, HG.out.2.2⟩⟩
                  rw [show bs * 2 = 2 * bs by omega] at *
                  by_cases c : x < a
                  · exact HG.out.2.1.1 x h1 c
                  · obtain rfl : x = a := by
                      rcases Nat.lt_or_ge a x with c2 | c2
                      · have := dvd_step HG.out.1 h1 c2; omega
                      · omega
                    have := HG.out.2.1.2 x (dvd_half h1) (Nat.le_refl _) h2
                    rwa [show min (x + bs) n = min (x + 2 * bs) n by omega] at this
                case measure => simp [intOf]; omega
        · go_wp2
          go_end0
          exact ⟨rfl, dk, did_box HD.out, hdk, HF.out.2, by
            have := (HF.out.1 0 (Nat.dvd_zero _))
            by_cases h0 : 0 < n
            · have := (this h0).1; rwa [show min (0 + bs) n = n by omega] at this
            · intro i j h1 h2 h3; omega⟩
end
end Go.Proofs.Ythhifeefkmaeiaa.Srw
