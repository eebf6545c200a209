/- Functions of the program as plain Lean functions, each with a proof that the call in the machine answers just what the plain function says; condition: the plain function answers at all. -/
import Derived.Test.YthhifeefkmaeiaaPXx0
import Derived.Test.YthhifeefkmaeiaaPXx1
import Derived.Test.YthhifeefkmaeiaaPXx3
import Derived.Test.YthhifeefkmaeiaaPXx8
import Derived.BigQuiet
import Derived.Deep.RegionHeld3
namespace Go.Proofs.Ythhifeefkmaeiaa.PX
open Go.RowKit Go.Proofs.YthhifeefkmaeiaaW.PrintWords Go.Proofs.YthhifeefkmaeiaaW.PrintLast Go.Proofs.YthhifeefkmaeiaaW.PrintMore
attribute [local go_sem] max2_int min2_int max_two min_two max_three min_three max_four min_four   -- for this text's walks alone
set_option linter.unusedVariables false
set_option linter.unusedSimpArgs false

/-! ### fill_Fill: function 19 -/
def fill_Fill.or (a b : Option S45) : S45 := match a with | some r => r | none => b.getD z45
/-- the good read ahead of a gap, and the one behind it -/
def fill_Fill.na (L : Nat → Option S45) (f : Int) : Option S45 := if f ≤ 0 then none else L (f - 1).toNat
def fill_Fill.nb (L : Nat → Option S45) (n t : Int) : Option S45 := if t < n then L t.toNat else none
def fill_Fill.ln (a b n : Int) : List Int := match fill_Line.f a b n with | some r => r.1 | none => []
def fill_Fill.el (a b : S45) (f t : Int) (s : Nat) : S45 := ⟨s, rd (fill_Fill.ln a.f1 b.f1 (t - f)) (s - f), rd (fill_Fill.ln a.f2 b.f2 (t - f)) (s - f), rd (fill_Fill.ln a.f3 b.f3 (t - f)) (s - f), 70⟩
/-- one gap filled -/
def fill_Fill.gap (L : Nat → Option S45) (n : Int) (o : Nat → S45) (g : S43) : Nat → S45 := fun s =>
  if g.f0 ≤ s ∧ (s : Int) < g.f1 then fill_Fill.el (fill_Fill.or (fill_Fill.na L g.f0) (fill_Fill.nb L n g.f1)) (fill_Fill.or (fill_Fill.nb L n g.f1) (fill_Fill.na L g.f0)) g.f0 g.f1 s else o s
def fill_Fill.fold (L : Nat → Option S45) (n most : Int) : List S43 → (Nat → S45) → Option (Nat → S45)
  | [], o => some o
  | g :: t, o => if most < g.f1 - g.f0 then none else fill_Fill.fold L n most t (fill_Fill.gap L n o g)
def fill_Fill.row (o : Nat → S45) (n : Nat) : List S45 := (List.range n).map o
def fill_Fill.open_ (gs : List S43) (n : Int) : Bool := gs.length == 1 && ((rd_T43 gs 0).f0 == 0 && (rd_T43 gs 0).f1 == n)
def fill_Fill.f (a0_0 : ByteArray) (a0_1 : Int) (a0_2 : Int) (a0_3 : Int) (a0_4 : Int) (a0_5 : Int) (l0_6 : List (S45)) (a1 : Int) : Option ((List (S45)) × Int) :=
  match fill_Gaps.slots a0_3 l0_6 with
  | none => some ([], 8)
  | some L => if fill_Fill.open_ (fill_Gaps.hs L a0_3.toNat 0 none) a0_3 then some ([], 3) else
    match fill_Fill.fold L a0_3 a1 (fill_Gaps.hs L a0_3.toNat 0 none) (fun s => (L s).getD z45) with
    | none => some ([], 4)
    | some o => some (fill_Fill.row o a0_3.toNat, 0)
attribute [local go_sem high] eqA43
section
variable {o o' : Nat → S45} {N : Nat}
theorem fill_Fill.row_len (o : Nat → S45) (N : Nat) : (fill_Fill.row o N).length = N := by simp [fill_Fill.row]
theorem fill_Fill.row_get {s : Nat} (hs : s < N) : (fill_Fill.row o N).getD s z45 = o s := by simp [fill_Fill.row, hs]
theorem fill_Fill.row_congr (h : ∀ t, t < N → o t = o' t) : fill_Fill.row o N = fill_Fill.row o' N := List.map_congr_left fun t ht => h t (List.mem_range.1 ht)
theorem fill_Fill.row_set {k : Nat} {v : S45} : (fill_Fill.row o N).set k v = fill_Fill.row (fun t => if t = k then v else o t) N := by
  apply List.ext_getElem?
  intro t
  rw [List.getElem?_set]
  by_cases c : k = t
  · subst c
    by_cases c2 : k < N
    · simp [fill_Fill.row, c2]
    · simp [fill_Fill.row, c2]
  · simp only [c, if_false]
    by_cases c2 : t < N
    · simp only [fill_Fill.row, List.getElem?_map, List.getElem?_range c2, Option.map_some]; rw [if_neg (fun e => c e.symm)]
    · simp [fill_Fill.row, c2]
theorem fill_Fill.row_z : List.replicate N z45 = fill_Fill.row (fun _ => z45) N := by simp [fill_Fill.row, List.map_const']
end
def fill_Fill.gapok (L : Nat → Option S45) (N : Nat) (g : S43) : Prop := ∃ f t : Nat, g = ⟨f, t⟩ ∧ f < t ∧ t ≤ N ∧ (∀ u, f ≤ u → u < t → L u = none) ∧ (0 < f → L (f - 1) ≠ none) ∧ (t < N → L t ≠ none)
theorem fill_Fill.hs_ok {L : Nat → Option S45} {N : Nat} (d : Nat) : ∀ s, s + d = N →
    ((0 < s → L (s - 1) ≠ none) → ∀ g ∈ fill_Gaps.hs L d s none, fill_Fill.gapok L N g) ∧
    (∀ f : Nat, f < s → (∀ u, f ≤ u → u < s → L u = none) → (0 < f → L (f - 1) ≠ none) → ∀ g ∈ fill_Gaps.hs L d s (some f), fill_Fill.gapok L N g) := by
  induction d with
  | zero =>
    intro s hs
    refine ⟨fun _ g hg => by simp [fill_Gaps.hs] at hg, fun f hf hu h0 g hg => ?_⟩
    rw [fill_Gaps.hs, List.mem_singleton] at hg
    subst hg
    exact ⟨f, s, rfl, hf, by omega, hu, h0, fun h => by omega⟩
  | succ d ih =>
    intro s hs
    obtain ⟨i1, i2⟩ := ih (s + 1) (by omega)
    cases hL : L s with
    | none =>
      refine ⟨fun h0 => ?_, fun f hf hu h0 => ?_⟩
      · rw [fill_Gaps.hs, hL]
        exact i2 s (by omega) (fun u h1 h2 => by rw [show u = s by omega]; exact hL) h0
      · rw [fill_Gaps.hs, hL]
        refine i2 f (by omega) (fun u h1 h2 => ?_) h0
        by_cases c : u = s
        · rw [c]; exact hL
        · exact hu u h1 (by omega)
    | some r =>
      have i1 := i1 (fun _ => by simp [hL])
      refine ⟨fun h0 => ?_, fun f hf hu h0 g hg => ?_⟩
      · rw [fill_Gaps.hs, hL]; exact i1
      · rw [fill_Gaps.hs, hL] at hg
        rcases List.mem_cons.1 hg with e | e
        · subst e
          exact ⟨f, s, rfl, hf, by omega, hu, h0, fun _ => by simp [hL]⟩
        · exact i1 g e
theorem fill_Fill.hs_some {L : Nat → Option S45} (f d : Nat) : ∀ s, (∀ u, s ≤ u → u < s + d → L u = none) → fill_Gaps.hs L d s (some f) = [⟨f, (s + d : Nat)⟩] := by
  induction d with
  | zero => intro s _; rfl
  | succ d ih =>
    intro s h
    rw [fill_Gaps.hs, h s (by omega) (by omega)]
    have := ih (s + 1) (fun u h1 h2 => h u (by omega) (by omega))
    rw [show s + (d + 1) = s + 1 + d by omega]
    exact this
/-- no gap is all slots, where the file is not open -/
theorem fill_Fill.not_all {L : Nat → Option S45} {n f t : Nat} (hn : 0 < n) (ho : fill_Fill.open_ (fill_Gaps.hs L n 0 none) n = false) (hno : ∀ u, f ≤ u → u < t → L u = none) (hf : f = 0) (ht : t = n) : False := by
  obtain ⟨d, rfl⟩ : ∃ d, n = d + 1 := ⟨n - 1, by omega⟩
  subst hf; subst ht
  rw [fill_Gaps.hs, hno 0 (by omega) (by omega)] at ho
  have := fill_Fill.hs_some (L := L) 0 d 1 (fun u h1 h2 => hno u (by omega) (by omega))
  simp only [Option.isNone_none, if_true, Nat.zero_add] at ho
  rw [this] at ho
  simp [fill_Fill.open_, rd_T43] at ho
  omega
theorem fill_Fill.ln_ok {a b : Int} {n : Nat} (ha : -10000000 ≤ a ∧ a ≤ 10000000) (hb : -10000000 ≤ b ∧ b ≤ 10000000) (hn : n ≤ 40000) : fill_Line.f a b n = some (fill_Fill.ln a b n, 0) ∧ (fill_Fill.ln a b n).length = n := by
  unfold fill_Fill.ln fill_Line.f
  rw [if_neg (by omega)]
  simp
def fill_Fill.rdok (r : S45) : Prop := (-10000000 ≤ r.f1 ∧ r.f1 ≤ 10000000) ∧ (-10000000 ≤ r.f2 ∧ r.f2 ≤ 10000000) ∧ (-10000000 ≤ r.f3 ∧ r.f3 ≤ 10000000)
theorem fill_Fill.lay_ok {n : Int} {L' : Nat → Option S45} (rs : List S45) : ∀ (b : Int) (L : Nat → Option S45), (∀ (s : Nat) r, L s = some r → fill_Fill.rdok r) → fill_Gaps.lay n rs b L = some L' → ∀ (s : Nat) r, L' s = some r → fill_Fill.rdok r := by
  induction rs with
  | nil => intro b L h e; rw [fill_Gaps.lay] at e; cases e; exact h
  | cons r t ih =>
    intro b L h e
    rw [fill_Gaps.lay] at e
    split at e
    · cases e
    · split at e
      · split at e
        · rename_i hn
          refine ih _ _ (fun s q hq => ?_) e
          by_cases c : (s : Int) = r.f0
          · simp only [c, if_true, Option.some.injEq] at hq
            subst hq
            simp only [fill_Gaps.nr, Bool.and_eq_true, decide_eq_true_eq] at hn
            exact ⟨hn.1, hn.2.1, hn.2.2⟩
          · simp only [c, if_false] at hq; exact h s q hq
        · cases e
      · exact ih _ _ h e
/-- the row 'out': a store of one read -/
theorem fill_Fill.at5 {W : World} {base O cap n : Nat} {o : Nat → S45} (h : Kd.R k45 45 W base (fun _ => True) (.slice (some ⟨O, 0, none⟩) n cap) (fill_Fill.row o n)) {s : Nat} (hs : s < n) :
    W.cell? ⟨O, s * 5, none⟩ = some (.int .i64 (o s).f0) ∧ W.cell? ⟨O, s * 5 + 1, none⟩ = some (.int .i64 (o s).f1) ∧ W.cell? ⟨O, s * 5 + 2, none⟩ = some (.int .i64 (o s).f2) ∧ W.cell? ⟨O, s * 5 + 3, none⟩ = some (.int .i64 (o s).f3) ∧ W.cell? ⟨O, s * 5 + 4, none⟩ = some (.int .u8 (o s).f4) ∧
    (∀ j, W.frozen? ⟨O, s * 5 + j, none⟩ = false) ∧ ∀ q : S45, Kd.R k45 45 (W.setCells O (s * 5) [.int .i64 q.f0, .int .i64 q.f1, .int .i64 q.f2, .int .i64 q.f3, .int .u8 q.f4]) base (fun _ => True) (.slice (some ⟨O, 0, none⟩) n cap) (fill_Fill.row (fun t => if t = s then q else o t) n) := by
  obtain ⟨c, hcl, hM, hcc, hfr⟩ := Kd.R_elem h z45 (s : Int) (by omega) (by omega)
  have hc := k45_openM hM
  rw [Int.toNat_natCast, fill_Fill.row_get hs] at hc
  subst hc
  simp only [Int.toNat_natCast] at hcc hfr
  refine ⟨hcc 0 _ rfl, hcc 1 _ rfl, hcc 2 _ rfl, hcc 3 _ rfl, hcc 4 _ rfl, hfr, fun q => ?_⟩
  have := (Kd.R_seg h (s : Int) (by omega) (by omega) (seg := [.int .i64 q.f0, .int .i64 q.f1, .int .i64 q.f2, .int .i64 q.f3, .int .u8 q.f4]) (j := 0) hcl (by simpa using hcc) (show 5 ≤ 5 from by decide) (x' := q) (k45_mkM _ _ _ q) (fun _ hk => hk)).1
  rw [Int.toNat_natCast, fill_Fill.row_set] at this
  exact this
/-- what stands behind slots and holes -/
structure fill_Fill.St (w : World) (B n : Nat) (L : Nat → Option S45) (ps : Nat → Option Nat) (Ag : Option Addr) (gs : List S43) (wa : World) : Prop where
  pl : fill_Gaps.PL wa B n L ps
  gc : Kd.C k43 wa Ag gs.length gs
  bx : wa.cell? ⟨w.heap.size, 3, none⟩ = some (.int .i64 n)
  bl : Below w.heap.size w wa
theorem fill_Fill.St.below {w wa wr : World} {B n : Nat} {L : Nat → Option S45} {ps : Nat → Option Nat} {Ag : Option Addr} {gs : List S43} (h : fill_Fill.St w B n L ps Ag gs wa) (hb : Below wa.heap.size wa wr) : fill_Fill.St w B n L ps Ag gs wr :=
  ⟨h.pl.below hb, Kd.C_below h.gc hb, (hb.cell (World.block_lt_of_cell? wa _ h.bx)).trans h.bx, h.bl.trans (hb.mono h.bl.size)⟩
/-- out so far -/
def fill_Fill.Inv (wa : World) (O cap n : Nat) (o : Nat → S45) (wr : World) : Prop := Below wa.heap.size wa wr ∧ wa.heap.size ≤ O ∧ O < wr.heap.size ∧ Kd.R k45 45 wr wa.heap.size (fun _ => True) (.slice (some ⟨O, 0, none⟩) n cap) (fill_Fill.row o n)
theorem fill_Fill.Inv.below {wa wr w2 : World} {O cap n : Nat} {o : Nat → S45} (h : fill_Fill.Inv wa O cap n o wr) (hb : Below wr.heap.size wr w2) : fill_Fill.Inv wa O cap n o w2 :=
  ⟨h.1.trans (hb.mono h.1.size), h.2.1, Nat.lt_of_lt_of_le h.2.2.1 hb.size, Kd.R_below h.2.2.2 hb⟩
theorem fill_Fill.Inv.put {wa wr : World} {O cap n : Nat} {o o' : Nat → S45} (h : fill_Fill.Inv wa O cap n o wr) {s : Nat} (hs : s < n) {q : S45} (hq : ∀ t, t < n → (if t = s then q else o t) = o' t) : fill_Fill.Inv wa O cap n o' (wr.setCells O (s * 5) [.int .i64 q.f0, .int .i64 q.f1, .int .i64 q.f2, .int .i64 q.f3, .int .u8 q.f4]) := by
  have hb := h.2.1
  refine ⟨((((h.1.setCell hb _).setCell hb _).setCell hb _).setCell hb _).setCell hb _, hb, ?_, ?_⟩
  · simp only [World.setCells]; simpa using h.2.2.1
  · rw [← fill_Fill.row_congr hq]; exact (fill_Fill.at5 h.2.2.2 hs).2.2.2.2.2.2 q
def fill_Fill.po (a b : Option Nat) : Option Nat := match a with | some x => some x | none => b
def fill_Fill.pa (ps : Nat → Option Nat) (f : Nat) : Option Nat := if 0 < f then ps (f - 1) else none
def fill_Fill.pb (ps : Nat → Option Nat) (n t : Nat) : Option Nat := if t < n then ps t else none
/-- the two reads beside a gap -/
theorem fill_Fill.ends {wx : World} {B n f t : Nat} {L : Nat → Option S45} {ps : Nat → Option Nat} (h : fill_Gaps.PL wx B n L ps) (hft : f < t) (htn : t ≤ n) (h0 : 0 < f → L (f - 1) ≠ none) (h1 : t < n → L t ≠ none) (hx : ¬ (f = 0 ∧ t = n)) :
    ∃ ba bb ra rb, fill_Fill.po (fill_Fill.pa ps f) (fill_Fill.pb ps n t) = some ba ∧ fill_Fill.po (fill_Fill.pb ps n t) (fill_Fill.pa ps f) = some bb ∧ fill_Gaps.rb wx ba ra ∧ fill_Gaps.rb wx bb rb ∧
      fill_Fill.or (fill_Fill.na L f) (fill_Fill.nb L n t) = ra ∧ fill_Fill.or (fill_Fill.nb L n t) (fill_Fill.na L f) = rb ∧ (∃ s, L s = some ra) ∧ ∃ s, L s = some rb := by
  have get : ∀ s, s < n → L s ≠ none → ∃ b r, ps s = some b ∧ L s = some r ∧ fill_Gaps.rb wx b r := fun s hs hl => by
    cases e : ps s with
    | none => exact absurd (h.no s hs e) hl
    | some b =>
      obtain ⟨r, h1, h2⟩ := h.yes s b hs e
      exact ⟨b, r, rfl, h1, h2⟩
  have hna : 0 < f → fill_Fill.na L f = L (f - 1) := fun c => by unfold fill_Fill.na; rw [if_neg (by omega), show ((f : Int) - 1).toNat = f - 1 by omega]
  have hna0 : ¬ 0 < f → fill_Fill.na L f = none := fun c => by unfold fill_Fill.na; rw [if_pos (by omega)]
  have hnb : t < n → fill_Fill.nb L n t = L t := fun c => by unfold fill_Fill.nb; rw [if_pos (by omega), Int.toNat_natCast]
  have hnb0 : ¬ t < n → fill_Fill.nb L n t = none := fun c => by unfold fill_Fill.nb; rw [if_neg (by omega)]
  unfold fill_Fill.pa fill_Fill.pb
  by_cases cf : 0 < f
  · obtain ⟨ba, ra, e1, e2, e3⟩ := get (f - 1) (by omega) (h0 cf)
    rw [hna cf, e2, if_pos cf, e1]
    by_cases ct : t < n
    · obtain ⟨bb, rb, g1, g2, g3⟩ := get t ct (h1 ct)
      rw [hnb ct, g2, if_pos ct, g1]
      exact ⟨ba, bb, ra, rb, rfl, rfl, e3, g3, rfl, rfl, ⟨_, e2⟩, ⟨_, g2⟩⟩
    · rw [hnb0 ct, if_neg ct]
      exact ⟨ba, ba, ra, ra, rfl, rfl, e3, e3, rfl, rfl, ⟨_, e2⟩, ⟨_, e2⟩⟩
  · have ct : t < n := by omega
    obtain ⟨bb, rb, g1, g2, g3⟩ := get t ct (h1 ct)
    rw [hnb ct, g2, if_pos ct, g1, hna0 cf, if_neg cf]
    exact ⟨bb, bb, rb, rb, rfl, rfl, g3, g3, rfl, rfl, ⟨_, g2⟩, ⟨_, g2⟩⟩
theorem fill_Fill.rb_cells {w : World} {b : Nat} {r : S45} (h : fill_Gaps.rb w b r) : w.cell? ⟨b, 0, none⟩ = some (.int .i64 r.f0) ∧ w.cell? ⟨b, 1, none⟩ = some (.int .i64 r.f1) ∧ w.cell? ⟨b, 2, none⟩ = some (.int .i64 r.f2) ∧ w.cell? ⟨b, 3, none⟩ = some (.int .i64 r.f3) ∧ w.cell? ⟨b, 4, none⟩ = some (.int .u8 r.f4) := by
  unfold fill_Gaps.rb at h
  simp [World.cell?, h]
theorem fill_Fill.hs_len (L : Nat → Option S45) (d : Nat) : ∀ s o, (fill_Gaps.hs L d s o).length ≤ d + 1 := by
  induction d with
  | zero => intro s o; cases o <;> simp [fill_Gaps.hs]
  | succ d ih =>
    intro s o
    cases o with
    | none =>
      rw [fill_Gaps.hs]
      split
      · exact Nat.le_succ_of_le (ih _ _)
      · exact Nat.le_succ_of_le (ih _ _)
    | some f =>
      rw [fill_Gaps.hs]
      split
      · exact Nat.le_succ_of_le (ih _ _)
      · simp only [List.length_cons]; exact Nat.succ_le_succ (ih _ _)
theorem fill_Fill.icell {w : World} {e base b c : Nat} {ok : Nat → Prop} {xs : List Int} (h : Kd.R (Kd.int .i64) e w base ok (.slice (some ⟨b, 0, none⟩) xs.length c) xs) {u : Nat} (hu : u < xs.length) : w.cell? ⟨b, u, none⟩ = some (.int .i64 (rd xs u)) := by
  obtain ⟨ad, e1, e2⟩ := Kd.at_int (Kd.R_reads' h).2.2 (u : Int) (by omega) (by omega)
  cases e1
  rw [Int.toNat_natCast] at e2
  have e3 : (⟨b, 0, none⟩ : Addr).add u = ⟨b, u, none⟩ := by unfold Addr.add; by_cases c : u = 0 <;> simp [c]
  rw [e3] at e2
  exact e2
theorem fill_Fill.bcell {w : World} {b t : Nat} {x y : Value} (h : w.heap[b]? = some (.cells #[x, y] t (0, 0))) : w.cell? ⟨b, 0, none⟩ = some x := by simp [World.cell?, h]
theorem fill_Fill.ne {w : World} {e base O : Nat} {v : Value} {xs : List Int} (h : Kd.R (Kd.int .i64) e w base (fun _ => True) v xs) (hO : O < base) : Kd.R (Kd.int .i64) e w base (fun k => k ≠ O) v xs := Kd.R_mono (Kd.R_bound h) (fun k hk => by have := hk.2.1; omega)
theorem fill_Fill.r5 {w : World} {e base O s : Nat} {v : Value} {xs : List Int} {c0 c1 c2 c3 c4 : Value} (h : Kd.R (Kd.int .i64) e w base (fun k => k ≠ O) v xs) : Kd.R (Kd.int .i64) e (w.setCells O s [c0, c1, c2, c3, c4]) base (fun k => k ≠ O) v xs :=
  Kd.R_far (p := ⟨O, _, none⟩) (Kd.R_far (p := ⟨O, _, none⟩) (Kd.R_far (p := ⟨O, _, none⟩) (Kd.R_far (p := ⟨O, _, none⟩) (Kd.R_far (p := ⟨O, _, none⟩) h (fun k hk => hk) _) (fun k hk => hk) _) (fun k hk => hk) _) (fun k hk => hk) _) (fun k hk => hk) _
theorem fill_Fill.b5 {w : World} {O s b : Nat} {c0 c1 c2 c3 c4 : Value} (h : b ≠ O) : (w.setCells O s [c0, c1, c2, c3, c4]).heap[b]? = w.heap[b]? := by
  simp only [World.setCells]
  rw [Below.heap_setCell _ ⟨O, _, none⟩ _ _ h, Below.heap_setCell _ ⟨O, _, none⟩ _ _ h, Below.heap_setCell _ ⟨O, _, none⟩ _ _ h, Below.heap_setCell _ ⟨O, _, none⟩ _ _ h, Below.heap_setCell _ ⟨O, _, none⟩ _ _ h]
def fill_Fill.T35 : Bool × List (List Nat × List Nat) := (true, [([], []), ([], []), ([1], [1]), ([], []), ([2, 3], [2, 3]), ([], []), ([5], [5]), ([], []), ([6, 7], [6, 7]), ([], []), ([], []), ([9, 10], [9, 10]), ([11], [11]), ([], []), ([], []), ([13, 14], [13, 14]), ([15], [15]), ([], []), ([], []), ([17, 18], [17, 18]), ([19], [19]), ([8, 12, 16, 20], [8, 12, 16, 20]), ([0, 4, 0, 1, 2, 3, 4, 5, 6, 7, 8, 9, 10, 11, 12, 13, 14, 15, 16, 17, 18, 19, 20, 21], [0, 4]), ([22, 21, 0, 1, 2, 3, 4, 5, 6, 7, 8, 9, 10, 11, 12, 13, 14, 15, 16, 17, 18, 19, 20, 21], [21, 22])])
def fill_Fill.B35 : List Nat := [0, 0, 2, 0, 14, 0, 32, 0, 224, 0, 0, 1536, 3584, 0, 0, 24576, 57344, 0, 0, 393216, 917504, 2097120, 4194303, 8388607]
theorem fill_Fill.tab35 : rtab .any (opsOf Try.f19 35) = fill_Fill.T35 := by kernel_rfl
theorem fill_Fill.bits35 : waitsOk fill_Fill.T35.2 fill_Fill.B35 = true := by kernel_rfl
/-- the state of the innermost loop: u slots of the gap are filled -/
structure fill_Fill.LS (wa : World) (O co i bg f t b1 c1 b2 c2 b3 c3 base u : Nat) (ra rb : S45) (o : Nat → S45) (l1 l2 l3 : List Int) (wk : World) : Prop where
  inv : fill_Fill.Inv wa O co i (fun s => if (f : Int) ≤ s ∧ (s : Int) < f + u then fill_Fill.el ra rb f t s else o s) wk
  r1 : Kd.R (Kd.int .i64) 2 wk base (fun k => k ≠ O) (.slice (some ⟨b1, 0, none⟩) l1.length c1) l1
  r2 : Kd.R (Kd.int .i64) 2 wk base (fun k => k ≠ O) (.slice (some ⟨b2, 0, none⟩) l2.length c2) l2
  r3 : Kd.R (Kd.int .i64) 2 wk base (fun k => k ≠ O) (.slice (some ⟨b3, 0, none⟩) l3.length c3) l3
  bx : wk.heap[bg]? = some (.cells #[.int .i64 f, .int .i64 t] 43 (0, 0))
theorem fill_Fill.LS.next {wa wk wd : World} {O co i bg f t b1 c1 b2 c2 b3 c3 base u : Nat} {ra rb : S45} {o : Nat → S45} {l1 l2 l3 : List Int} (h : fill_Fill.LS wa O co i bg f t b1 c1 b2 c2 b3 c3 base u ra rb o l1 l2 l3 wk) (hb : Below wk.heap.size wk wd) (hO : O < bg) (hs : f + u < i)
    (e1 : fill_Fill.ln ra.f1 rb.f1 ((t : Int) - f) = l1) (e2 : fill_Fill.ln ra.f2 rb.f2 ((t : Int) - f) = l2) (e3 : fill_Fill.ln ra.f3 rb.f3 ((t : Int) - f) = l3) :
    fill_Fill.LS wa O co i bg f t b1 c1 b2 c2 b3 c3 base (u + 1) ra rb o l1 l2 l3 (wd.setCells O ((f + u) * 5) [.int .i64 ((f + u : Nat) : Int), .int .i64 (rd l1 u), .int .i64 (rd l2 u), .int .i64 (rd l3 u), .int .u8 70]) := by
  refine ⟨(h.inv.below hb).put (q := ⟨((f + u : Nat) : Int), rd l1 u, rd l2 u, rd l3 u, 70⟩) hs (fun s hs => ?_), fill_Fill.r5 (Kd.R_below h.r1 hb), fill_Fill.r5 (Kd.R_below h.r2 hb), fill_Fill.r5 (Kd.R_below h.r3 hb), (fill_Fill.b5 (by omega)).trans ((hb.block bg (Array.getElem?_eq_some_iff.1 h.bx).1).trans h.bx)⟩
  by_cases c : s = f + u
  · subst c
    rw [if_pos rfl, if_pos (by omega)]
    unfold fill_Fill.el
    rw [e1, e2, e3, show ((f + u : Nat) : Int) - f = u by omega]
  · rw [if_neg c]
    by_cases c2 : (f : Int) ≤ s ∧ (s : Int) < f + u
    · rw [if_pos c2, if_pos (show (f : Int) ≤ s ∧ (s : Int) < (f : Int) + ((u + 1 : Nat) : Int) by omega)]
    · rw [if_neg c2, if_neg (show ¬ ((f : Int) ≤ s ∧ (s : Int) < f + (u + 1 : Nat)) by omega)]
theorem fill_Fill.keep {w w1 w2 : World} {o : Obj} (h : Below (w.alloc o).heap.size (w.alloc o) w1) (h2 : Below w1.heap.size w1 w2) : w2.heap[w.heap.size]? = some o := by
  have hs : w.heap.size < (w.alloc o).heap.size := by simp
  exact (h2.block _ (Nat.lt_of_lt_of_le hs h.size)).trans ((h.block _ hs).trans (heap_alloc_new w o))
set_option maxHeartbeats 16000000 in
set_option maxRecDepth 100000 in
theorem fill_Fill.calls (a0_0 : ByteArray) (a0_1 : Int) (a0_2 : Int) (a0_3 : Int) (a0_4 : Int) (a0_5 : Int) (A0_6 : Option Addr) (c0_6 : Nat) (l0_6 : List (S45)) (a1 : Int) (r1 : List (S45)) (r2 : Int) (w : World) (hr0_6 : Kd.C k45 w A0_6 l0_6.length l0_6) (hc0_6 : l0_6.length ≤ c0_6) (h : fill_Fill.f a0_0 a0_1 a0_2 a0_3 a0_4 a0_5 l0_6 a1 = some (r1, r2)) :
  Calls Try.prog 19 #[.agg #[.string a0_0, .int .i64 a0_1, .int .i64 a0_2, .int .i64 a0_3, .int .i64 a0_4, .int .i64 a0_5, .slice A0_6 l0_6.length c0_6], .int .i64 a1] w fun e w' => ∃ v0_ : Value, e = .returned (.tuple #[v0_, .int .i64 r2]) ∧ Kd.R k45 45 w' w.heap.size (fun _ => True) v0_ r1 ∧ Below w.heap.size w w' := by
  by_cases c : a0_3 < 1 ∨ 40000 < a0_3
  · have hS := fun w => fill_Gaps.slots_no a0_0 a0_1 a0_2 a0_3 a0_4 a0_5 A0_6 c0_6 l0_6 w c
    unfold fill_Fill.f fill_Gaps.slots at h
    rw [if_pos c] at h
    simp only [Option.some.injEq, Prod.mk.injEq] at h
    obtain ⟨rfl, rfl⟩ := h
    have HS := Lib.hid hS
    have HB0 := Lib.hid ((Below.refl w.heap.size w).alloc (Nat.le_refl _) (.cells #[.string a0_0, .int .i64 a0_1, .int .i64 a0_2, .int .i64 a0_3, .int .i64 a0_4, .int .i64 a0_5, .slice A0_6 l0_6.length c0_6] 31))
    clear hS c hr0_6
    go_enter Try.func19, Try.ntmps19
    go_wp2_with (go_at_call 31; refine (HS.out _).mono ?_; rintro e w1 ⟨rfl, hB⟩; have HB1 := Lib.hid (HB0.out.trans (hB.mono HB0.out.size)); clear hB)
    go_ret2
    exact ⟨_, rfl, Kd.R_nil _ _ _ _ _, HB1.out⟩
  · obtain ⟨n, rfl⟩ : ∃ n : Nat, a0_3 = n := ⟨a0_3.toNat, by omega⟩
    have HB0 := Lib.hid ((Below.refl w.heap.size w).alloc (Nat.le_refl _) (.cells #[.string a0_0, .int .i64 a0_1, .int .i64 a0_2, .int .i64 (n : Int), .int .i64 a0_4, .int .i64 a0_5, .slice A0_6 l0_6.length c0_6] 31))
    have HS := Lib.hid (fill_Gaps.slots_yes a0_0 a0_1 a0_2 a0_4 a0_5 n A0_6 c0_6 l0_6 (w.alloc (.cells #[.string a0_0, .int .i64 a0_1, .int .i64 a0_2, .int .i64 (n : Int), .int .i64 a0_4, .int .i64 a0_5, .slice A0_6 l0_6.length c0_6] 31)) (Kd.C_below hr0_6 HB0.out) (by omega) (by omega))
    unfold fill_Fill.f fill_Gaps.slots at h
    rw [if_neg c] at h
    have hn : n ≤ 40000 := by omega
    have hn1 : 1 ≤ n := by omega
    clear c hr0_6
    cases hl : fill_Gaps.lay n l0_6 (-1) (fun _ => none) with
    | none =>
      rw [hl] at h HS
      simp only [Option.some.injEq, Prod.mk.injEq] at h
      obtain ⟨rfl, rfl⟩ := h
      clear hl
      go_enter Try.func19, Try.ntmps19
      go_wp2_with (go_at_call 31; refine HS.out.mono ?_; rintro e w1 ⟨hB, rfl⟩; have HB1 := Lib.hid (HB0.out.trans (hB.mono HB0.out.size)); clear hB)
      go_ret2
      exact ⟨_, rfl, Kd.R_nil _ _ _ _ _, HB1.out⟩
    | some L =>
      rw [hl] at h HS
      obtain ⟨gs, hgs⟩ : ∃ gs, fill_Gaps.hs L n 0 none = gs := ⟨_, rfl⟩
      have HLK := Lib.hid (fill_Fill.lay_ok l0_6 (-1) (fun _ => none) (fun s r e => by cases e) hl)
      have HOK := Lib.hid (show ∀ g ∈ gs, fill_Fill.gapok L n g from hgs ▸ (fill_Fill.hs_ok (L := L) (N := n) n 0 (by omega)).1 (fun h => by omega))
      have HNA := Lib.hid (show fill_Fill.open_ gs n = false → ∀ f t : Nat, (∀ u, f ≤ u → u < t → L u = none) → f = 0 → t = n → False from fun ho f t => fill_Fill.not_all (by omega) (by rw [hgs]; exact ho))
      have hgl : gs.length ≤ 40001 := by have := fill_Fill.hs_len L n 0 none; rw [hgs] at this; omega
      have HGS := Lib.hid hgs
      simp only [Int.toNat_natCast, hgs] at h
      have HG := Lib.hid h
      clear hl h hgs
      go_enter Try.func19, Try.ntmps19
      go_upto_region 5 with (first | (go_at_call 31; refine HS.out.mono ?_; rintro e w1 ⟨hB, B, ps, rfl, hP⟩; have HP := Lib.hid hP; have HBa := Lib.hid hB; have HB1 := Lib.hid (HB0.out.trans (hB.mono HB0.out.size)); clear hB hP) | (go_at_call 32; go_loud (refine (fill_Gaps.holes B n L ps _ HP.out hn).mono ?_; rintro e w2 ⟨v, rfl, hR, hB⟩; simp only [HGS.out] at hR; obtain ⟨Ag, cg, eg⟩ := Kd.R_slice hR; subst eg; have hC := (Kd.R_reads' hR).2.2; have hbx := fill_Fill.keep HBa.out hB; have HST := Lib.hid (fill_Fill.St.mk (HP.out.below hB) hC (by simp [World.cell?, hbx]) (HB1.out.trans (hB.mono HB1.out.size))); clear hR hB hbx hC)))
      go_cut [44] (fun v44 wc => v44 = .bool (fill_Fill.open_ gs n) ∧ Hid (fill_Fill.St w B n L ps Ag gs wc))
      case first =>
        clear HP HBa HB1 HS HB0
        by_cases c1 : gs.length = 1
        · have d1 : ((gs.length : Int) == 1) = true := by simp [c1]
          obtain ⟨ad, eA, x0, x1⟩ := at_T43 HST.out.gc 0 (by omega) (by omega)
          have e3 := HST.out.bx
          simp only [Int.toNat_zero, Nat.zero_mul, Addr.add_zero'] at x0 x1
          have HA := Lib.hid eA
          subst eA
          have HO := Lib.hid (show fill_Fill.open_ gs n = ((rd_T43 gs 0).f0 == 0 && (rd_T43 gs 0).f1 == n) by unfold fill_Fill.open_; rw [c1]; rfl)
          have q0 : (0 < gs.length) = True := eq_true (by omega)
          have q1 : (0 : Int) < (gs.length : Int) := by omega
          have HC1 := Lib.hid c1
          clear c1
          go_quiet (fail)
          go_wp2
          go_meet
          case rel => exact ⟨by rw [HO.out], Lib.hid (HST.out.below (fill_Gaps.drs1 (Below.refl _ _) _))⟩
        · have d1 : ((gs.length : Int) == 1) = false := by simp; omega
          have HO := Lib.hid (show fill_Fill.open_ gs n = false by unfold fill_Fill.open_; rw [show (gs.length == 1) = false by simpa using c1]; rfl)
          clear c1
          go_quiet (fail)
          go_wp2
          go_meet
          case rel => exact ⟨by rw [HO.out], Lib.hid (HST.out.below (fill_Gaps.drs1 (Below.refl _ _) _))⟩
      case rest => as_aux_lemma =>
        obtain ⟨rfl, HSC⟩ := hcut
        generalize wc = wa at HSC ⊢
        clear HST HP HBa HB1 HS HB0
        cases hop : fill_Fill.open_ gs n with
        | true =>
          have h := HG.out
          rw [hop, if_pos rfl] at h
          simp only [Option.some.injEq, Prod.mk.injEq] at h
          obtain ⟨rfl, rfl⟩ := h
          go_wp2
          go_ret2
          exact ⟨_, rfl, Kd.R_nil _ _ _ _ _, HSC.out.bl⟩
        | false =>
          have h := HG.out
          rw [hop, if_neg (by decide)] at h
          obtain ⟨R, hR⟩ : ∃ R, fill_Fill.fold L n a1 gs (fun s => (L s).getD z45) = R := ⟨_, rfl⟩
          rw [hR] at h
          have HRR := Lib.hid h
          have HR := Lib.hid hR
          have HNB := Lib.hid (HNA.out hop)
          have e3 := HSC.out.bx
          clear h hR HG HNA
          go_wp2_with ((with_reducible refine gate_dst (N := 47) rfl ?_); refine Kd.R_make k45 _ 45 rfl (N := 47) rfl 29 _ _ rfl (n : Int) rfl rfl Try.underlying29 (.agg #[(.int .i64 0), (.int .i64 0), (.int .i64 0), (.int .i64 0), (.int .u8 0)]) 40 info45 rfl (by decide) (by omega) z45 (ok := fun _ => True) (okp := fun _ => True) (k45_mkM _ _ _ z45) (fun _ hk => hk) trivial ?h0 ?hl (Below.refl _ _) (Nat.le_refl _) ?_; (case h0 => omega); (case hl => omega); intro v3 w3 ho hb hg hnew; rw [Int.toNat_natCast, fill_Fill.row_z] at ho; obtain ⟨O, co, eo, ho1, ho2, ho3⟩ := Kd.R_form ho (by rw [fill_Fill.row_len]; omega); rw [fill_Fill.row_len] at eo; subst eo; have HI0 := Lib.hid (show fill_Fill.Inv wa O co n (fun _ => z45) w3 from ⟨hb, ho1, ho2, ho⟩); clear ho hb hg hnew ho1 ho2 ho3)
          clear e3
          go_loopw [50] (fun vi wr => ∃ i : Nat, vi = .int .i64 i ∧ i ≤ n ∧ Hid (fill_Fill.Inv wa O co n (fun s => if s < i then (L s).getD z45 else z45) wr)) (fun vi _ => n - (intOf vi).toNat)
          case atStart => exact ⟨0, rfl, by omega, HI0⟩
          case round => as_aux_lemma =>
            clear HI0
            obtain ⟨i, rfl, hi, HI⟩ := hrel
            have HSW := Lib.hid (HSC.out.below HI.out.1)
            by_cases hlt : i < n
            · have e1 := HSW.out.pl.cell hlt
              rcases hp : ps i with _ | b
              · have HL := Lib.hid (HSW.out.pl.no i hlt hp)
                rw [hp] at e1
                simp only [fill_Gaps.pv] at e1
                clear hp
                go_wp2
                go_roundw
                case rel =>
                  refine ⟨i + 1, by go_num, by omega, Lib.hid ⟨HI.out.1, HI.out.2.1, HI.out.2.2.1, ?_⟩⟩
                  have h2 := HI.out.2.2.2
                  rw [fill_Fill.row_congr (o' := fun s => if s < i + 1 then (L s).getD z45 else z45) (fun s hs => ?_)] at h2
                  · exact h2
                  · by_cases c : s = i
                    · subst c; rw [if_neg (by omega), if_pos (by omega), HL.out]; rfl
                    · by_cases c2 : s < i
                      · rw [if_pos c2, if_pos (show s < i + 1 by omega)]
                      · rw [if_neg c2, if_neg (show ¬ s < i + 1 by omega)]
                case measure => simp [intOf]; omega
              · obtain ⟨⟨f0, f1, f2, f3, f4⟩, hL, hb⟩ := HSW.out.pl.yes i b hlt hp
                rw [hp] at e1
                simp only [fill_Gaps.pv] at e1
                obtain ⟨y0, y1, y2, y3, y4⟩ := fill_Fill.rb_cells hb
                obtain ⟨q0, q1, q2, q3, q4, qf, _⟩ := fill_Fill.at5 HI.out.2.2.2 hlt
                have qf0 := qf 0
                have qf1 := qf 1
                have qf2 := qf 2
                have qf3 := qf 3
                have qf4 := qf 4
                have HL := Lib.hid hL
                simp only [Nat.add_zero] at qf0
                clear hp hL hb qf
                go_wp2
                go_roundw
                case rel =>
                  refine ⟨i + 1, by go_num, by omega, Lib.hid (HI.out.put (q := ⟨f0, f1, f2, f3, f4⟩) hlt (fun s hs => ?_))⟩
                  by_cases c : s = i
                  · subst c; rw [if_pos rfl, if_pos (by omega), HL.out]; rfl
                  · rw [if_neg c]
                    by_cases c2 : s < i
                    · rw [if_pos c2, if_pos (show s < i + 1 by omega)]
                    · rw [if_neg c2, if_neg (show ¬ s < i + 1 by omega)]
                case measure => simp [intOf]; omega
            · have hie : i = n := by omega
              subst hie
              have HI2 := Lib.hid (show ∃ o, fill_Fill.Inv wa O co i o wr ∧ fill_Fill.fold L i a1 (gs.drop 0) o = R from ⟨_, ⟨HI.out.1, HI.out.2.1, HI.out.2.2.1, by rw [fill_Fill.row_congr (o' := fun s => if s < i then (L s).getD z45 else z45) (fun s hs => by rw [if_pos hs])]; exact HI.out.2.2.2⟩, HR.out⟩)
              clear HI HSW HR
              go_wp2
              go_loopw [66] (fun vi wr => ∃ j : Nat, vi = .int .i64 j ∧ j ≤ gs.length ∧ Hid (∃ o, fill_Fill.Inv wa O co i o wr ∧ fill_Fill.fold L i a1 (gs.drop j) o = R)) (fun vi _ => gs.length - (intOf vi).toNat)
              case atStart => exact ⟨0, rfl, by omega, HI2⟩
              case round => as_aux_lemma =>
                clear HI2
                obtain ⟨j, rfl, hj, HJ⟩ := hrel
                obtain ⟨o, hI, hF⟩ := HJ.out
                have HI := Lib.hid hI
                have HSW := Lib.hid (HSC.out.below hI.1)
                clear HJ hI
                by_cases hlt : j < gs.length
                · obtain ⟨f, t, hg, hft, htn, hno, hpf, hpt⟩ := HOK.out gs[j] (List.getElem_mem hlt)
                  have hrd : rd_T43 gs (j : Int) = ⟨(f : Int), (t : Int)⟩ := by simp [rd_T43, hlt, hg]
                  rw [List.drop_eq_getElem_cons hlt, hg, fill_Fill.fold] at hF
                  obtain ⟨ad, eA, x0, x1⟩ := at_T43 HSW.out.gc (j : Int) (by omega) (by omega)
                  rw [hrd] at x0 x1
                  simp only [Int.toNat_natCast] at x0 x1
                  have HF := Lib.hid hF
                  have HNO := Lib.hid (And.intro hno (And.intro hpf hpt))
                  have HAD := Lib.hid eA
                  subst eA
                  clear hF hno hpf hpt hg hrd
                  go_upto_region 17 with (fail)
                  have HDR : Hid ((wr.alloc (.cells #[.int .i64 f, .int .i64 t] 43)).heap[wr.heap.size]? = some (.cells #[.int .i64 f, .int .i64 t] 43 (0, 0))) := Lib.hid (heap_alloc_new _ _)
                  go_cut [14] (fun v14 wx => v14 = .int .i64 ((t : Int) - f) ∧ Hid (wx = wr.alloc (.cells #[.int .i64 f, .int .i64 t] 43)))
                  case first =>
                    go_wp2
                    go_meet
                    case rel => exact ⟨rfl, Lib.hid rfl⟩
                  case rest => as_aux_lemma =>
                    obtain ⟨rfl, HW⟩ := hcut
                    obtain ⟨wx, hwx⟩ : ∃ x : World, x = wc := ⟨_, rfl⟩
                    subst hwx
                    have hw := HW.out
                    have HB := Lib.hid (show Below wr.heap.size wr wx by rw [hw]; exact (Below.refl _ _).alloc (Nat.le_refl _) _)
                    have HX := Lib.hid (show wx.heap[wr.heap.size]? = some (.cells #[.int .i64 f, .int .i64 t] 43 (0, 0)) by rw [hw]; exact HDR.out)
                    clear hw HDR x0 x1
                    have HOB := Lib.hid HI.out.2.2.1
                    obtain ⟨bg, hbg⟩ : ∃ bg, wr.heap.size = bg := ⟨_, rfl⟩
                    have HBG := Lib.hid hbg
                    rw [hbg] at HX HOB ⊢
                    have HIX := Lib.hid (HI.out.below HB.out)
                    have HSX := Lib.hid (HSW.out.below HB.out)
                    clear hbg HI HSW HB HW
                    have g0 : wx.cell? ⟨bg, 0, none⟩ = some (.int .i64 f) := by simp [World.cell?, HX.out]
                    have g1 : wx.cell? ⟨bg, 1, none⟩ = some (.int .i64 t) := by simp [World.cell?, HX.out]
                    have e3 := HSX.out.bx
                    by_cases cm : a1 < (t : Int) - f
                    · have dm : decide (a1 < (t : Int) - f) = true := decide_eq_true cm
                      have hF := HF.out
                      rw [if_pos cm] at hF
                      subst hF
                      have h := HRR.out
                      simp only [Option.some.injEq, Prod.mk.injEq] at h
                      obtain ⟨rfl, rfl⟩ := h
                      go_wp2
                      go_ret2
                      exact ⟨_, rfl, Kd.R_nil _ _ _ _ _, HSX.out.bl⟩
                    · have dm : decide (a1 < (t : Int) - f) = false := decide_eq_false cm
                      have hF := HF.out
                      rw [if_neg cm] at hF
                      have HF2 := Lib.hid hF
                      clear hF HF
                      go_upto_if 80 with (fail)
                      go_cut [15] (fun v15 wy => v15 = fill_Gaps.pv (fill_Fill.pa ps f) ∧ Hid (wx = wy))
                      case first =>
                        by_cases cf : 0 < f
                        · have d80 : decide ((0 : Int) < f) = true := decide_eq_true (by omega)
                          have e1 : wx.cell? ⟨B, ((f : Int) - 1).toNat, none⟩ = some (fill_Gaps.pv (ps (f - 1))) := by rw [show ((f : Int) - 1).toNat = f - 1 by omega]; exact HSX.out.pl.cell (by omega)
                          have e1' : wx.cell? ⟨B, f - 1, none⟩ = some (fill_Gaps.pv (ps (f - 1))) := HSX.out.pl.cell (by omega)
                          have HV := Lib.hid (show fill_Fill.pa ps f = ps (f - 1) from if_pos cf)
                          rcases hp : ps (f - 1) with _ | b
                          · rw [hp] at e1 e1' HV
                            simp only [fill_Gaps.pv] at e1 e1'
                            clear hp
                            go_wp2
                            go_meet
                            case rel => exact ⟨by rw [HV.out]; rfl, Lib.hid rfl⟩
                          · rw [hp] at e1 e1' HV
                            simp only [fill_Gaps.pv] at e1 e1'
                            clear hp
                            go_wp2
                            go_meet
                            case rel => exact ⟨by rw [HV.out]; rfl, Lib.hid rfl⟩
                        · have d80 : decide ((0 : Int) < f) = false := decide_eq_false (by omega)
                          have HV := Lib.hid (show fill_Fill.pa ps f = none from if_neg cf)
                          go_wp2
                          go_meet
                          case rel => exact ⟨by rw [HV.out]; rfl, Lib.hid rfl⟩
                      case rest =>
                        obtain ⟨rfl, HW⟩ := hcut
                        have hw := HW.out
                        subst hw
                        clear HW
                        go_upto_if 91 with (fail)
                        go_cut [16] (fun v16 wy => v16 = fill_Gaps.pv (fill_Fill.pb ps i t) ∧ Hid (wx = wy))
                        case first =>
                          by_cases ct : t < i
                          · have d91 : decide ((t : Int) < i) = true := decide_eq_true (by omega)
                            have e1 := HSX.out.pl.cell ct
                            have HV := Lib.hid (show fill_Fill.pb ps i t = ps t from if_pos ct)
                            rcases hp : ps t with _ | b
                            · rw [hp] at e1 HV
                              simp only [fill_Gaps.pv] at e1
                              clear hp
                              go_wp2
                              go_meet
                              case rel => exact ⟨by rw [HV.out]; rfl, Lib.hid rfl⟩
                            · rw [hp] at e1 HV
                              simp only [fill_Gaps.pv] at e1
                              clear hp
                              go_wp2
                              go_meet
                              case rel => exact ⟨by rw [HV.out]; rfl, Lib.hid rfl⟩
                          · have d91 : decide ((t : Int) < i) = false := decide_eq_false (by omega)
                            have HV := Lib.hid (show fill_Fill.pb ps i t = none from if_neg ct)
                            go_wp2
                            go_meet
                            case rel => exact ⟨by rw [HV.out]; rfl, Lib.hid rfl⟩
                        case rest =>
                          obtain ⟨rfl, HW⟩ := hcut
                          have hw := HW.out
                          subst hw
                          clear HW e3
                          obtain ⟨ba, bb, ra, rb, e1, e2, hra, hrb, eo1, eo2, hla, hlb⟩ := fill_Fill.ends HSX.out.pl hft htn HNO.out.2.1 HNO.out.2.2 (fun hx => HNB.out f t HNO.out.1 hx.1 hx.2)
                          have HPP := Lib.hid (And.intro e1 e2)
                          have HRA := Lib.hid (And.intro hra hrb)
                          have HEO := Lib.hid (And.intro eo1 eo2)
                          have HOA := Lib.hid (And.intro (hla.elim fun s h => HLK.out s ra h) (hlb.elim fun s h => HLK.out s rb h))
                          clear e1 e2 hra hrb eo1 eo2 hla hlb HNO
                          generalize fill_Fill.pa ps f = pa at HPP ⊢
                          generalize fill_Fill.pb ps i t = pb at HPP ⊢
                          generalize hvb : fill_Gaps.pv pb = vb
                          have HVB := Lib.hid hvb
                          clear hvb
                          go_upto_region 25 with (fail)
                          go_cut [98] (fun v wy => v = .bool pa.isNone ∧ Hid (wx = wy))
                          case first =>
                            rcases pa with _ | x
                            · simp only [fill_Gaps.pv]
                              go_wp2
                              go_meet
                              case rel => exact ⟨rfl, Lib.hid rfl⟩
                            · simp only [fill_Gaps.pv]
                              go_wp2
                              go_meet
                              case rel => exact ⟨rfl, Lib.hid rfl⟩
                          case rest =>
                            obtain ⟨rfl, HW⟩ := hcut
                            have hw := HW.out
                            subst hw
                            clear HW
                            go_upto_if 98 with (fail)
                            go_cut [15] (fun v15 wy => v15 = .pointer (some ⟨ba, 0, none⟩) ∧ Hid (wx = wy))
                            case first =>
                              obtain ⟨e1, e2⟩ := HPP.out
                              rcases pa with _ | x
                              · rcases pb with _ | y
                                · simp [fill_Fill.po] at e1
                                · simp only [fill_Fill.po, Option.some.injEq] at e1
                                  subst e1
                                  have hvb := HVB.out
                                  subst hvb
                                  clear e2 HPP
                                  simp only [fill_Gaps.pv, Option.isNone_none, Option.isNone_some]
                                  go_wp2
                                  go_meet
                                  case rel => exact ⟨rfl, Lib.hid rfl⟩
                              · simp only [fill_Fill.po, Option.some.injEq] at e1
                                subst e1
                                clear e2 HPP
                                simp only [fill_Gaps.pv, Option.isNone_none, Option.isNone_some]
                                go_wp2
                                go_meet
                                case rel => exact ⟨rfl, Lib.hid rfl⟩
                            case rest =>
                              obtain ⟨rfl, HW⟩ := hcut
                              have hw := HW.out
                              subst hw
                              clear HW
                              have hvb := HVB.out
                              subst hvb
                              clear HVB
                              go_upto_region 27 with (fail)
                              go_cut [101] (fun v wy => v = .bool pb.isNone ∧ Hid (wx = wy))
                              case first =>
                                rcases pb with _ | x
                                · simp only [fill_Gaps.pv]
                                  go_wp2
                                  go_meet
                                  case rel => exact ⟨rfl, Lib.hid rfl⟩
                                · simp only [fill_Gaps.pv]
                                  go_wp2
                                  go_meet
                                  case rel => exact ⟨rfl, Lib.hid rfl⟩
                              case rest =>
                                obtain ⟨rfl, HW⟩ := hcut
                                have hw := HW.out
                                subst hw
                                clear HW
                                go_upto_if 101 with (fail)
                                go_cut [16] (fun v16 wy => v16 = .pointer (some ⟨bb, 0, none⟩) ∧ Hid (wx = wy))
                                case first =>
                                  obtain ⟨e1, e2⟩ := HPP.out
                                  rcases pb with _ | y
                                  · rcases pa with _ | x
                                    · simp [fill_Fill.po] at e1
                                    · simp only [fill_Fill.po, Option.some.injEq] at e1 e2
                                      subst e1
                                      subst e2
                                      clear HPP
                                      simp only [fill_Gaps.pv, Option.isNone_none, Option.isNone_some]
                                      go_wp2
                                      go_meet
                                      case rel => exact ⟨rfl, Lib.hid rfl⟩
                                  · simp only [fill_Fill.po, Option.some.injEq] at e2
                                    subst e2
                                    clear e1 HPP
                                    simp only [fill_Gaps.pv, Option.isNone_none, Option.isNone_some]
                                    go_wp2
                                    go_meet
                                    case rel => exact ⟨rfl, Lib.hid rfl⟩
                                case rest => as_aux_lemma =>
                                  obtain ⟨rfl, HW⟩ := hcut
                                  have hw := HW.out
                                  subst hw
                                  clear HW HPP
                                  have HLA := Lib.hid (fill_Fill.ln_ok (n := t - f) HOA.out.1.1 HOA.out.2.1 (by omega))
                                  have HLB := Lib.hid (fill_Fill.ln_ok (n := t - f) HOA.out.1.2.1 HOA.out.2.2.1 (by omega))
                                  have HLC := Lib.hid (fill_Fill.ln_ok (n := t - f) HOA.out.1.2.2 HOA.out.2.2.2 (by omega))
                                  have hcast : ((t - f : Nat) : Int) = (t : Int) - f := by omega
                                  rw [hcast] at HLA HLB HLC
                                  clear hcast HOA
                                  obtain ⟨l1, hl1⟩ : ∃ l1, fill_Fill.ln ra.f1 rb.f1 ((t : Int) - f) = l1 := ⟨_, rfl⟩
                                  obtain ⟨l2, hl2⟩ : ∃ l2, fill_Fill.ln ra.f2 rb.f2 ((t : Int) - f) = l2 := ⟨_, rfl⟩
                                  obtain ⟨l3, hl3⟩ : ∃ l3, fill_Fill.ln ra.f3 rb.f3 ((t : Int) - f) = l3 := ⟨_, rfl⟩
                                  have HLL := Lib.hid (And.intro hl1 (And.intro hl2 hl3))
                                  rw [hl1] at HLA
                                  rw [hl2] at HLB
                                  rw [hl3] at HLC
                                  clear hl1 hl2 hl3
                                  have HD0 := Lib.hid (Below.refl wx.heap.size wx)
                                  have HY := Lib.hid (And.intro ((HD0.out.cell (World.block_lt_of_cell? wx _ (fill_Fill.rb_cells HRA.out.1).2.1)).trans (fill_Fill.rb_cells HRA.out.1).2.1) ((HD0.out.cell (World.block_lt_of_cell? wx _ (fill_Fill.rb_cells HRA.out.2).2.1)).trans (fill_Fill.rb_cells HRA.out.2).2.1))
                                  have y1 := HY.out.1
                                  have y2 := HY.out.2
                                  go_upto_region 29 with (fail)
                                  go_cut [17] (fun v wy => ∃ b1 c1, v = .slice (some ⟨b1, 0, none⟩) l1.length c1 ∧ Hid (Below wx.heap.size wx wy ∧ Kd.R (Kd.int .i64) 2 wy wx.heap.size (fun _ => True) (.slice (some ⟨b1, 0, none⟩) l1.length c1) l1))
                                  case first =>
                                    go_region_held3 (fun w' => w'.cell? ⟨ba, 1, none⟩ = some (.int .i64 ra.f1) ∧ w'.cell? ⟨bb, 1, none⟩ = some (.int .i64 rb.f1)) (go_keep) (first | (go_at_call 12; refine (fill_Line.calls _ _ _ _ _ _ HLA.out.1).mono ?_; rintro e w' ⟨v, rfl, hR, hB⟩; obtain ⟨b1, c1, e1, _, _, _⟩ := Kd.R_form hR (by have := HLA.out.2; omega); subst e1; have z1 : w'.cell? ⟨ba, 1, none⟩ = some (.int .i64 ra.f1) := (hB.cell (World.block_lt_of_cell? wx _ y1)).trans y1; have z2 : w'.cell? ⟨bb, 1, none⟩ = some (.int .i64 rb.f1) := (hB.cell (World.block_lt_of_cell? wx _ y2)).trans y2; have HRR1 := Lib.hid (And.intro hB hR); clear hR hB))
                                    go_wp2
                                    go_meet
                                    case rel => exact ⟨_, _, rfl, Lib.hid ⟨(below_drew1 (Below.refl _ _)).trans HRR1.out.1, HRR1.out.2⟩⟩
                                  case rest =>
                                    obtain ⟨b1, c1, rfl, HC1⟩ := hcut
                                    obtain ⟨wx1, hwx⟩ : ∃ x : World, x = wc := ⟨_, rfl⟩
                                    subst hwx
                                    clear y1 y2 HY
                                    have HD1 := Lib.hid (HD0.out.trans (HC1.out.1.mono HD0.out.size))
                                    have HY := Lib.hid (And.intro ((HD1.out.cell (World.block_lt_of_cell? wx _ (fill_Fill.rb_cells HRA.out.1).2.2.1)).trans (fill_Fill.rb_cells HRA.out.1).2.2.1) ((HD1.out.cell (World.block_lt_of_cell? wx _ (fill_Fill.rb_cells HRA.out.2).2.2.1)).trans (fill_Fill.rb_cells HRA.out.2).2.2.1))
                                    have y1 := HY.out.1
                                    have y2 := HY.out.2
                                    go_upto_region 30 with (fail)
                                    go_cut [19] (fun v wy => ∃ b1 c1, v = .slice (some ⟨b1, 0, none⟩) l2.length c1 ∧ Hid (Below wx1.heap.size wx1 wy ∧ Kd.R (Kd.int .i64) 2 wy wx1.heap.size (fun _ => True) (.slice (some ⟨b1, 0, none⟩) l2.length c1) l2))
                                    case first =>
                                      go_region_held3 (fun w' => w'.cell? ⟨ba, 2, none⟩ = some (.int .i64 ra.f2) ∧ w'.cell? ⟨bb, 2, none⟩ = some (.int .i64 rb.f2)) (go_keep) (first | (go_at_call 12; refine (fill_Line.calls _ _ _ _ _ _ HLB.out.1).mono ?_; rintro e w' ⟨v, rfl, hR, hB⟩; obtain ⟨b1, c1, e1, _, _, _⟩ := Kd.R_form hR (by have := HLB.out.2; omega); subst e1; have z1 : w'.cell? ⟨ba, 2, none⟩ = some (.int .i64 ra.f2) := (hB.cell (World.block_lt_of_cell? wx1 _ y1)).trans y1; have z2 : w'.cell? ⟨bb, 2, none⟩ = some (.int .i64 rb.f2) := (hB.cell (World.block_lt_of_cell? wx1 _ y2)).trans y2; have HRR1 := Lib.hid (And.intro hB hR); clear hR hB))
                                      go_wp2
                                      go_meet
                                      case rel => exact ⟨_, _, rfl, Lib.hid ⟨(below_drew1 (Below.refl _ _)).trans HRR1.out.1, HRR1.out.2⟩⟩
                                    case rest =>
                                      obtain ⟨b2, c2, rfl, HC2⟩ := hcut
                                      obtain ⟨wx2, hwx⟩ : ∃ x : World, x = wc := ⟨_, rfl⟩
                                      subst hwx
                                      clear y1 y2 HY
                                      have HD2 := Lib.hid (HD1.out.trans (HC2.out.1.mono HD1.out.size))
                                      have HY := Lib.hid (And.intro ((HD2.out.cell (World.block_lt_of_cell? wx _ (fill_Fill.rb_cells HRA.out.1).2.2.2.1)).trans (fill_Fill.rb_cells HRA.out.1).2.2.2.1) ((HD2.out.cell (World.block_lt_of_cell? wx _ (fill_Fill.rb_cells HRA.out.2).2.2.2.1)).trans (fill_Fill.rb_cells HRA.out.2).2.2.2.1))
                                      have y1 := HY.out.1
                                      have y2 := HY.out.2
                                      go_upto_region 31 with (fail)
                                      go_cut [21] (fun v wy => ∃ b1 c1, v = .slice (some ⟨b1, 0, none⟩) l3.length c1 ∧ Hid (Below wx2.heap.size wx2 wy ∧ Kd.R (Kd.int .i64) 2 wy wx2.heap.size (fun _ => True) (.slice (some ⟨b1, 0, none⟩) l3.length c1) l3))
                                      case first =>
                                        go_region_held3 (fun w' => w'.cell? ⟨ba, 3, none⟩ = some (.int .i64 ra.f3) ∧ w'.cell? ⟨bb, 3, none⟩ = some (.int .i64 rb.f3)) (go_keep) (first | (go_at_call 12; refine (fill_Line.calls _ _ _ _ _ _ HLC.out.1).mono ?_; rintro e w' ⟨v, rfl, hR, hB⟩; obtain ⟨b1, c1, e1, _, _, _⟩ := Kd.R_form hR (by have := HLC.out.2; omega); subst e1; have z1 : w'.cell? ⟨ba, 3, none⟩ = some (.int .i64 ra.f3) := (hB.cell (World.block_lt_of_cell? wx2 _ y1)).trans y1; have z2 : w'.cell? ⟨bb, 3, none⟩ = some (.int .i64 rb.f3) := (hB.cell (World.block_lt_of_cell? wx2 _ y2)).trans y2; have HRR1 := Lib.hid (And.intro hB hR); clear hR hB))
                                        go_wp2
                                        go_meet
                                        case rel => exact ⟨_, _, rfl, Lib.hid ⟨(below_drew1 (Below.refl _ _)).trans HRR1.out.1, HRR1.out.2⟩⟩
                                      case rest => as_aux_lemma =>
                                        obtain ⟨b3, c3, rfl, HC3⟩ := hcut
                                        obtain ⟨wx3, hwx⟩ : ∃ x : World, x = wc := ⟨_, rfl⟩
                                        subst hwx
                                        clear y1 y2 HY
                                        have HD3 := Lib.hid (HD2.out.trans (HC3.out.1.mono HD2.out.size))
                                        have HIW := Lib.hid (HIX.out.below HD3.out)
                                        have HLS : Hid (fill_Fill.LS wa O co i bg f t b1 c1 b2 c2 b3 c3 wx.heap.size 0 ra rb o l1 l2 l3 wx3) := by
                                          have hO := HIX.out.2.2.1
                                          have s1 := HD1.out.size
                                          have s2 := HD2.out.size
                                          refine Lib.hid ⟨⟨HIW.out.1, HIW.out.2.1, HIW.out.2.2.1, ?_⟩, ?_, ?_, ?_, (HD3.out.block bg (Array.getElem?_eq_some_iff.1 HX.out).1).trans HX.out⟩
                                          · rw [fill_Fill.row_congr (o' := o) (fun s hs => if_neg (by omega))]; exact HIW.out.2.2.2
                                          · exact fill_Fill.ne (Kd.R_below (Kd.R_below HC1.out.2 HC2.out.1) HC3.out.1) hO
                                          · exact Kd.R_lower (fill_Fill.ne (Kd.R_below HC2.out.2 HC3.out.1) (by omega)) s1
                                          · exact Kd.R_lower (fill_Fill.ne HC3.out.2 (by omega)) s2
                                        clear HIW HC1 HC2 HC3 HD0 HD1 HD2 HD3 HIX HX g0 g1 HRA
                                        go_wp2
                                        go_loopw [143] (fun vu wk => ∃ u : Nat, vu = .int .i64 u ∧ u ≤ t - f ∧ Hid (fill_Fill.LS wa O co i bg f t b1 c1 b2 c2 b3 c3 wx.heap.size u ra rb o l1 l2 l3 wk)) (fun vu _ => t - f - (intOf vu).toNat)
                                        case atStart => exact ⟨0, rfl, by omega, HLS⟩
                                        case round => as_aux_lemma =>
                                          clear HLS
                                          obtain ⟨u, rfl, hu, HLS⟩ := hrel
                                          by_cases hlu : u < t - f
                                          · have d2 : decide ((u : Int) < (t : Int) - f) = true := decide_eq_true (by omega)
                                            go_upto_region 35 with (fail)
                                            have hfu : f + u < i := by omega
                                            have hsu : (f : Int) + u = ((f + u : Nat) : Int) := by omega
                                            obtain ⟨q0, q1, q2, q3, q4, qf, _⟩ := fill_Fill.at5 HLS.out.inv.2.2.2 hfu
                                            have qf0 := qf 0
                                            have qf1 := qf 1
                                            have qf2 := qf 2
                                            have qf3 := qf 3
                                            have qf4 := qf 4
                                            simp only [Nat.add_zero] at qf0
                                            clear qf
                                            have k0 : wr.cell? ⟨bg, 0, none⟩ = some (.int .i64 f) := fill_Fill.bcell HLS.out.bx
                                            have k1 : wr.cell? ⟨b1, u, none⟩ = some (.int .i64 (rd l1 u)) := fill_Fill.icell HLS.out.r1 (by have := HLA.out.2; omega)
                                            have k2 : wr.cell? ⟨b2, u, none⟩ = some (.int .i64 (rd l2 u)) := fill_Fill.icell HLS.out.r2 (by have := HLB.out.2; omega)
                                            have k3 : wr.cell? ⟨b3, u, none⟩ = some (.int .i64 (rd l3 u)) := fill_Fill.icell HLS.out.r3 (by have := HLC.out.2; omega)
                                            have m1 : (u : Int) < (l1.length : Int) := by have := HLA.out.2; omega
                                            have m2 : (u : Int) < (l2.length : Int) := by have := HLB.out.2; omega
                                            have m3 : (u : Int) < (l3.length : Int) := by have := HLC.out.2; omega
                                            have m4 : (0 : Int) ≤ u := by omega
                                            obtain ⟨s, hse⟩ : ∃ s, f + u = s := ⟨_, rfl⟩
                                            have HSE := Lib.hid hse
                                            rw [hse] at hsu hfu q0 q1 q2 q3 q4 qf0 qf1 qf2 qf3 qf4
                                            have m5 : (s : Int) < (i : Int) := by omega
                                            have m6 : (0 : Int) ≤ s := by omega
                                            have w1 : wrap64 (s : Int) = (s : Int) := Go.IntWalk.wrap64_in (s : Int) ⟨by omega, by omega⟩
                                            clear hse
                                            have k0' : wr.drew.cell? ⟨bg, 0, none⟩ = some (.int .i64 f) := k0
                                            have k1' : wr.drew.cell? ⟨b1, u, none⟩ = some (.int .i64 (rd l1 u)) := k1
                                            have k2' : wr.drew.cell? ⟨b2, u, none⟩ = some (.int .i64 (rd l2 u)) := k2
                                            have k3' : wr.drew.cell? ⟨b3, u, none⟩ = some (.int .i64 (rd l3 u)) := k3
                                            have q0' : wr.drew.cell? ⟨O, s * 5, none⟩ = _ := q0
                                            have q1' : wr.drew.cell? ⟨O, s * 5 + 1, none⟩ = _ := q1
                                            have q2' : wr.drew.cell? ⟨O, s * 5 + 2, none⟩ = _ := q2
                                            have q3' : wr.drew.cell? ⟨O, s * 5 + 3, none⟩ = _ := q3
                                            have q4' : wr.drew.cell? ⟨O, s * 5 + 4, none⟩ = _ := q4
                                            have qf0' : wr.drew.frozen? ⟨O, s * 5, none⟩ = false := qf0
                                            have qf1' : wr.drew.frozen? ⟨O, s * 5 + 1, none⟩ = false := qf1
                                            have qf2' : wr.drew.frozen? ⟨O, s * 5 + 2, none⟩ = false := qf2
                                            have qf3' : wr.drew.frozen? ⟨O, s * 5 + 3, none⟩ = false := qf3
                                            have qf4' : wr.drew.frozen? ⟨O, s * 5 + 4, none⟩ = false := qf4
                                            have HNX := Lib.hid (HLS.out.next (wd := wr.drew) (below_drew1 (Below.refl _ _)) HOB.out (by rw [HSE.out]; exact hfu) HLL.out.1 HLL.out.2.1 HLL.out.2.2)
                                            rw [HSE.out] at HNX
                                            clear k0 k1 k2 k3 q0 q1 q2 q3 q4 qf0 qf1 qf2 qf3 qf4 HLS
                                            refine start_ (n := 24) (S := fun w' => w'.cell? ⟨bg, 0, none⟩ = some (.int .i64 f) ∧ w'.cell? ⟨b1, u, none⟩ = some (.int .i64 (rd l1 u)) ∧ w'.cell? ⟨b2, u, none⟩ = some (.int .i64 (rd l2 u)) ∧ w'.cell? ⟨b3, u, none⟩ = some (.int .i64 (rd l3 u))) (ds := [23]) #[false, false, false, false, false, false, false, false, false, false, false, false, false, false, false, false, false, false, false, false, false, false, false, false] (by kernel_rfl) rfl rfl ⟨k0', k1', k2', k3'⟩ (fun hHeld => ?_); refine with_tabW fill_Fill.tab35 fill_Fill.bits35 (fun HT_ HW_ => ?_)
                                            generalize wr.drew = wq at k0' k1' k2' k3' q0' q1' q2' q3' q4' qf0' qf1' qf2' qf3' qf4' HNX hHeld ⊢
                                            refine pure_ (i := 0) (N := some 146) (v := ?_) (a' := ?_) #[true, false, false, false, false, false, false, false, false, false, false, false, false, false, false, false, false, false, false, false, false, false, false, false] rfl rfl (any_of HT_.out (by kernel_rfl)) (fun _ _ _ h => h) (Or.inl ⟨by rfl, ?_⟩) ?_ ?_
                                            rotate_left
                                            ·intro w'
                                             go_simp
                                             with_reducible rfl
                                            rotate_left
                                            ·simp only [Act.put, List.setIfInBounds_toArray, List.set_cons_zero, List.set_cons_succ, i64_w, i32_w]
                                             rfl
                                            refine pure_ (i := 1) (N := some 147) (v := ?_) (a' := ?_) #[true, true, false, false, false, false, false, false, false, false, false, false, false, false, false, false, false, false, false, false, false, false, false, false] rfl rfl (any_of HT_.out (by kernel_rfl)) (fun _ _ _ h => h) (Or.inl ⟨by rfl, ?_⟩) ?_ ?_
                                            rotate_left
                                            ·intro w'
                                             go_simp
                                             with_reducible rfl
                                            rotate_left
                                            ·simp only [Act.put, List.setIfInBounds_toArray, List.set_cons_zero, List.set_cons_succ, i64_w, i32_w]
                                             rfl
                                            refine pure_ (i := 3) (N := some 149) (v := ?_) (a' := ?_) #[true, true, false, true, false, false, false, false, false, false, false, false, false, false, false, false, false, false, false, false, false, false, false, false] rfl rfl (any_of HT_.out (by kernel_rfl)) (fun _ _ _ h => h) (Or.inl ⟨by rfl, ?_⟩) ?_ ?_
                                            rotate_left
                                            ·intro w'
                                             go_simp
                                             with_reducible rfl
                                            rotate_left
                                            ·simp only [Act.put, List.setIfInBounds_toArray, List.set_cons_zero, List.set_cons_succ, i64_w, i32_w]
                                             rfl
                                            refine pure_ (i := 5) (N := some 151) (v := ?_) (a' := ?_) #[true, true, false, true, false, true, false, false, false, false, false, false, false, false, false, false, false, false, false, false, false, false, false, false] rfl rfl (any_of HT_.out (by kernel_rfl)) (fun _ _ _ h => h) (Or.inl ⟨by rfl, ?_⟩) ?_ ?_
                                            rotate_left
                                            ·intro w'
                                             go_simp
                                             with_reducible rfl
                                            rotate_left
                                            ·simp only [Act.put, List.setIfInBounds_toArray, List.set_cons_zero, List.set_cons_succ, i64_w, i32_w]
                                             rfl
                                            refine pure_ (i := 7) (N := some 153) (v := ?_) (a' := ?_) #[true, true, false, true, false, true, false, true, false, false, false, false, false, false, false, false, false, false, false, false, false, false, false, false] rfl rfl (any_of HT_.out (by kernel_rfl)) (fun _ _ _ h => h) (Or.inl ⟨by rfl, ?_⟩) ?_ ?_
                                            rotate_left
                                            ·intro w'
                                             go_simp
                                             with_reducible rfl
                                            rotate_left
                                            ·simp only [Act.put, List.setIfInBounds_toArray, List.set_cons_zero, List.set_cons_succ, i64_w, i32_w]
                                             rfl
                                            refine pure_ (i := 9) (N := some 155) (v := ?_) (a' := ?_) #[true, true, false, true, false, true, false, true, false, true, false, false, false, false, false, false, false, false, false, false, false, false, false, false] rfl rfl (any_of HT_.out (by kernel_rfl)) (fun _ _ _ h => h) (Or.inl ⟨by rfl, ?_⟩) ?_ ?_
                                            rotate_left
                                            ·intro w'
                                             go_simp
                                             with_reducible rfl
                                            rotate_left
                                            ·simp only [Act.put, List.setIfInBounds_toArray, List.set_cons_zero, List.set_cons_succ, i64_w, i32_w]
                                             rfl
                                            refine pure_ (i := 10) (N := some 156) (v := ?_) (a' := ?_) #[true, true, false, true, false, true, false, true, false, true, true, false, false, false, false, false, false, false, false, false, false, false, false, false] rfl rfl (any_of HT_.out (by kernel_rfl)) (fun _ _ _ h => h) (Or.inl ⟨by rfl, ?_⟩) ?_ ?_
                                            rotate_left
                                            ·intro w'
                                             go_simp
                                             with_reducible rfl
                                            rotate_left
                                            ·simp only [Act.put, List.setIfInBounds_toArray, List.set_cons_zero, List.set_cons_succ, i64_w, i32_w]
                                             rfl
                                            refine pure_ (i := 11) (N := some 157) (v := ?_) (a' := ?_) #[true, true, false, true, false, true, false, true, false, true, true, true, false, false, false, false, false, false, false, false, false, false, false, false] rfl rfl (any_of HT_.out (by kernel_rfl)) (fun _ _ _ h => h) (Or.inl ⟨by rfl, ?_⟩) ?_ ?_
                                            rotate_left
                                            ·intro w'
                                             go_simp
                                             with_reducible rfl
                                            rotate_left
                                            ·simp only [Act.put, List.setIfInBounds_toArray, List.set_cons_zero, List.set_cons_succ, i64_w, i32_w]
                                             rfl
                                            refine pure_ (i := 13) (N := some 159) (v := ?_) (a' := ?_) #[true, true, false, true, false, true, false, true, false, true, true, true, false, true, false, false, false, false, false, false, false, false, false, false] rfl rfl (any_of HT_.out (by kernel_rfl)) (fun _ _ _ h => h) (Or.inl ⟨by rfl, ?_⟩) ?_ ?_
                                            rotate_left
                                            ·intro w'
                                             go_simp
                                             with_reducible rfl
                                            rotate_left
                                            ·simp only [Act.put, List.setIfInBounds_toArray, List.set_cons_zero, List.set_cons_succ, i64_w, i32_w]
                                             rfl
                                            refine pure_ (i := 14) (N := some 160) (v := ?_) (a' := ?_) #[true, true, false, true, false, true, false, true, false, true, true, true, false, true, true, false, false, false, false, false, false, false, false, false] rfl rfl (any_of HT_.out (by kernel_rfl)) (fun _ _ _ h => h) (Or.inl ⟨by rfl, ?_⟩) ?_ ?_
                                            rotate_left
                                            ·intro w'
                                             go_simp
                                             with_reducible rfl
                                            rotate_left
                                            ·simp only [Act.put, List.setIfInBounds_toArray, List.set_cons_zero, List.set_cons_succ, i64_w, i32_w]
                                             rfl
                                            refine pure_ (i := 15) (N := some 161) (v := ?_) (a' := ?_) #[true, true, false, true, false, true, false, true, false, true, true, true, false, true, true, true, false, false, false, false, false, false, false, false] rfl rfl (any_of HT_.out (by kernel_rfl)) (fun _ _ _ h => h) (Or.inl ⟨by rfl, ?_⟩) ?_ ?_
                                            rotate_left
                                            ·intro w'
                                             go_simp
                                             with_reducible rfl
                                            rotate_left
                                            ·simp only [Act.put, List.setIfInBounds_toArray, List.set_cons_zero, List.set_cons_succ, i64_w, i32_w]
                                             rfl
                                            refine pure_ (i := 17) (N := some 163) (v := ?_) (a' := ?_) #[true, true, false, true, false, true, false, true, false, true, true, true, false, true, true, true, false, true, false, false, false, false, false, false] rfl rfl (any_of HT_.out (by kernel_rfl)) (fun _ _ _ h => h) (Or.inl ⟨by rfl, ?_⟩) ?_ ?_
                                            rotate_left
                                            ·intro w'
                                             go_simp
                                             with_reducible rfl
                                            rotate_left
                                            ·simp only [Act.put, List.setIfInBounds_toArray, List.set_cons_zero, List.set_cons_succ, i64_w, i32_w]
                                             rfl
                                            refine pure_ (i := 18) (N := some 164) (v := ?_) (a' := ?_) #[true, true, false, true, false, true, false, true, false, true, true, true, false, true, true, true, false, true, true, false, false, false, false, false] rfl rfl (any_of HT_.out (by kernel_rfl)) (fun _ _ _ h => h) (Or.inl ⟨by rfl, ?_⟩) ?_ ?_
                                            rotate_left
                                            ·intro w'
                                             go_simp
                                             with_reducible rfl
                                            rotate_left
                                            ·simp only [Act.put, List.setIfInBounds_toArray, List.set_cons_zero, List.set_cons_succ, i64_w, i32_w]
                                             rfl
                                            refine pure_ (i := 19) (N := some 165) (v := ?_) (a' := ?_) #[true, true, false, true, false, true, false, true, false, true, true, true, false, true, true, true, false, true, true, true, false, false, false, false] rfl rfl (any_of HT_.out (by kernel_rfl)) (fun _ _ _ h => h) (Or.inl ⟨by rfl, ?_⟩) ?_ ?_
                                            rotate_left
                                            ·intro w'
                                             go_simp
                                             with_reducible rfl
                                            rotate_left
                                            ·simp only [Act.put, List.setIfInBounds_toArray, List.set_cons_zero, List.set_cons_succ, i64_w, i32_w]
                                             rfl
                                            refine take_ (i := 2) (N := some 148) (v := ?_) (a' := ?_) #[true, true, true, true, false, true, false, true, false, true, true, true, false, true, true, true, false, true, true, true, false, false, false, false] rfl rfl (take_ofW HT_.out HW_.out (by kernel_rfl)) (fun _ _ _ h => h) (Or.inl ⟨by rfl, ?_⟩) hHeld ?_ ?_
                                            rotate_left
                                            ·rintro w' ⟨s0, s1, s2, s3⟩
                                             go_simp
                                             with_reducible rfl
                                            rotate_left
                                            ·simp only [Act.put, List.setIfInBounds_toArray, List.set_cons_zero, List.set_cons_succ, i64_w, i32_w]
                                             rfl
                                            refine pure_ (i := 4) (N := some 150) (v := ?_) (a' := ?_) #[true, true, true, true, true, true, false, true, false, true, true, true, false, true, true, true, false, true, true, true, false, false, false, false] rfl rfl (any_of HT_.out (by kernel_rfl)) (fun _ _ _ h => h) (Or.inl ⟨by rfl, ?_⟩) ?_ ?_
                                            rotate_left
                                            ·intro w'
                                             go_simp
                                             with_reducible rfl
                                            rotate_left
                                            ·simp only [Act.put, List.setIfInBounds_toArray, List.set_cons_zero, List.set_cons_succ, i64_w, i32_w]
                                             rfl
                                            refine take_ (i := 6) (N := some 152) (v := ?_) (a' := ?_) #[true, true, true, true, true, true, true, true, false, true, true, true, false, true, true, true, false, true, true, true, false, false, false, false] rfl rfl (take_ofW HT_.out HW_.out (by kernel_rfl)) (fun _ _ _ h => h) (Or.inl ⟨by rfl, ?_⟩) hHeld ?_ ?_
                                            rotate_left
                                            ·rintro w' ⟨s0, s1, s2, s3⟩
                                             go_simp
                                             with_reducible rfl
                                            rotate_left
                                            ·simp only [Act.put, List.setIfInBounds_toArray, List.set_cons_zero, List.set_cons_succ, i64_w, i32_w]
                                             rfl
                                            refine pure_ (i := 8) (N := some 154) (v := ?_) (a' := ?_) #[true, true, true, true, true, true, true, true, true, true, true, true, false, true, true, true, false, true, true, true, false, false, false, false] rfl rfl (any_of HT_.out (by kernel_rfl)) (fun _ _ _ h => h) (Or.inl ⟨by rfl, ?_⟩) ?_ ?_
                                            rotate_left
                                            ·intro w'
                                             go_simp
                                             with_reducible rfl
                                            rotate_left
                                            ·simp only [Act.put, List.setIfInBounds_toArray, List.set_cons_zero, List.set_cons_succ, i64_w, i32_w]
                                             rfl
                                            refine take_ (i := 12) (N := some 158) (v := ?_) (a' := ?_) #[true, true, true, true, true, true, true, true, true, true, true, true, true, true, true, true, false, true, true, true, false, false, false, false] rfl rfl (take_ofW HT_.out HW_.out (by kernel_rfl)) (fun _ _ _ h => h) (Or.inl ⟨by rfl, ?_⟩) hHeld ?_ ?_
                                            rotate_left
                                            ·rintro w' ⟨s0, s1, s2, s3⟩
                                             go_simp
                                             with_reducible rfl
                                            rotate_left
                                            ·simp only [Act.put, List.setIfInBounds_toArray, List.set_cons_zero, List.set_cons_succ, i64_w, i32_w]
                                             rfl
                                            refine take_ (i := 16) (N := some 162) (v := ?_) (a' := ?_) #[true, true, true, true, true, true, true, true, true, true, true, true, true, true, true, true, true, true, true, true, false, false, false, false] rfl rfl (take_ofW HT_.out HW_.out (by kernel_rfl)) (fun _ _ _ h => h) (Or.inl ⟨by rfl, ?_⟩) hHeld ?_ ?_
                                            rotate_left
                                            ·rintro w' ⟨s0, s1, s2, s3⟩
                                             go_simp
                                             with_reducible rfl
                                            rotate_left
                                            ·simp only [Act.put, List.setIfInBounds_toArray, List.set_cons_zero, List.set_cons_succ, i64_w, i32_w]
                                             rfl
                                            refine take_ (i := 20) (N := some 166) (v := ?_) (a' := ?_) #[true, true, true, true, true, true, true, true, true, true, true, true, true, true, true, true, true, true, true, true, true, false, false, false] rfl rfl (take_ofW HT_.out HW_.out (by kernel_rfl)) (fun _ _ _ h => h) (Or.inl ⟨by rfl, ?_⟩) hHeld ?_ ?_
                                            rotate_left
                                            ·rintro w' ⟨s0, s1, s2, s3⟩
                                             go_simp
                                             with_reducible rfl
                                            rotate_left
                                            ·simp only [Act.put, List.setIfInBounds_toArray, List.set_cons_zero, List.set_cons_succ, i64_w, i32_w]
                                             rfl
                                            refine pure_ (i := 21) (N := some 167) (v := ?_) (a' := ?_) #[true, true, true, true, true, true, true, true, true, true, true, true, true, true, true, true, true, true, true, true, true, true, false, false] rfl rfl (any_of HT_.out (by kernel_rfl)) (fun _ _ _ h => h) (Or.inl ⟨by rfl, ?_⟩) ?_ ?_
                                            rotate_left
                                            ·intro w'
                                             go_simp
                                             with_reducible rfl
                                            rotate_left
                                            ·simp only [Act.put, List.setIfInBounds_toArray, List.set_cons_zero, List.set_cons_succ, i64_w, i32_w]
                                             rfl
                                            refine pure_ (i := 22) (N := some 168) (v := ?_) (a' := ?_) #[true, true, true, true, true, true, true, true, true, true, true, true, true, true, true, true, true, true, true, true, true, true, true, false] rfl rfl (any_of HT_.out (by kernel_rfl)) (fun _ _ _ h => h) (Or.inl ⟨by rfl, ?_⟩) ?_ ?_
                                            rotate_left
                                            ·intro w'
                                             go_simp
                                             with_reducible rfl
                                            rotate_left
                                            ·simp only [Act.put, List.setIfInBounds_toArray, List.set_cons_zero, List.set_cons_succ, i64_w, i32_w]
                                             rfl
                                            refine last_ (i := 23) (N := none) #[true, true, true, true, true, true, true, true, true, true, true, true, true, true, true, true, true, true, true, true, true, true, true, true] rfl rfl (one_of HT_.out (by kernel_rfl)) (by decide) (fun K hK => ?_)
                                            refine skip_ (w1 := ?_) (by rfl) rfl ?_ ?_
                                            rotate_left
                                            ·go_simp
                                             rfl
                                            refine hK.out _ _ ?_
                                            clear hK K
                                            refine done_ (done_of HT_.out (by kernel_rfl)) ?_
                                            clear w1
                                            try go_wp2
                                            go_roundw
                                            case rel => exact ⟨u + 1, by go_num, by omega, HNX⟩
                                            case measure => simp [intOf]; omega
                                          · have d2 : decide ((u : Int) < (t : Int) - f) = false := decide_eq_false (by omega)
                                            go_wp2
                                            go_roundw
                                            case rel =>
                                              refine ⟨j + 1, by go_num, by omega, Lib.hid ⟨_, ⟨HLS.out.inv.1, HLS.out.inv.2.1, HLS.out.inv.2.2.1, ?_⟩, HF2.out⟩⟩
                                              have h2 := HLS.out.inv.2.2.2
                                              rw [fill_Fill.row_congr (o' := fill_Fill.gap L i o ⟨f, t⟩) (fun s hs => ?_)] at h2
                                              · exact h2
                                              · unfold fill_Fill.gap
                                                rw [HEO.out.1, HEO.out.2]
                                                by_cases c2 : (f : Int) ≤ s ∧ (s : Int) < t
                                                · rw [if_pos c2, if_pos (show (f : Int) ≤ s ∧ (s : Int) < f + u by omega)]
                                                · rw [if_neg c2, if_neg (show ¬ ((f : Int) ≤ s ∧ (s : Int) < f + u) by omega)]
                                            case measure => simp [intOf]; omega
                · have hje : j = gs.length := by omega
                  subst hje
                  rw [List.drop_length, fill_Fill.fold] at hF
                  subst hF
                  have h := HRR.out
                  simp only [Option.some.injEq, Prod.mk.injEq] at h
                  obtain ⟨rfl, rfl⟩ := h
                  go_wp2
                  go_ret2
                  exact ⟨_, rfl, Kd.R_lower HI.out.2.2.2 HSC.out.bl.size, HSW.out.bl⟩

end Go.Proofs.Ythhifeefkmaeiaa.PX
