/- Functions of the program as plain Lean functions, each with a proof that the call in the machine answers just what the plain function says; condition: the plain function answers at all. -/
import Derived.Test.YtegedhnbmclbkaaPXx0
import Derived.Test.YtegedhnbmclbkaaPXx3
import Derived.Test.YtegedhnbmclbkaaPXx4
import Derived.ChangeKeysEq
import Derived.Deep.RegionHeld3
import Derived.DeepKeys4
import Derived.Maps.OwnSet
import Derived.Maps.RangeWalk
import Derived.Test.YtegedhnbmclbkaaPdm
namespace Go.Proofs.Ytegedhnbmclbkaa.PX
open Go.RowKit Go.Proofs.YtegedhnbmclbkaaW.PrintWords Go.Proofs.YtegedhnbmclbkaaW.PrintLast Go.Proofs.YtegedhnbmclbkaaW.PrintMore
attribute [local go_sem] max2_int min2_int max_two min_two max_three min_three max_four min_four   -- for this text's walks alone
set_option linter.unusedVariables false
set_option linter.unusedSimpArgs false

/-! ### holiday_List: function 9 -/
def holiday_List.all (k : Nat) : List S25 → Option Bool
  | [] => some true
  | h :: t => (holiday_Check.f k h.f0 h.f1 h.f2 h.f3).bind fun c => if c = 0 then holiday_List.all k t else some false
def holiday_List.i64 (x : Int) : Prop := -9223372036854775808 ≤ x ∧ x ≤ 9223372036854775807
instance (x : Int) : Decidable (holiday_List.i64 x) := by unfold holiday_List.i64; infer_instance
/-- the date that a holiday has by the rule of year y, if it lies in the year -/
def holiday_List.one (k : Nat) (h : S25) (year y : Int) : Option (List S33) := (holiday_On.f k h.f0 h.f1 h.f2 h.f3 y).bind fun x =>
  if x.2.2.2 = 0 ∧ x.1 = year then if holiday_List.i64 x.1 ∧ holiday_List.i64 x.2.1 ∧ holiday_List.i64 x.2.2.1 then some [⟨x.1, x.2.1, x.2.2.1⟩] else none else some []
/-- n rules are left: those of year + 2 - n and so on -/
def holiday_List.up (k : Nat) (h : S25) (year : Int) : Nat → Option (List S33)
  | 0 => some []
  | n + 1 => (holiday_List.one k h year (year + 1 - n)).bind fun a => (holiday_List.up k h year n).bind fun r => some (a ++ r)
def holiday_List.put (k : Nat) (year : Int) : List S25 → Option (List S33)
  | [] => some []
  | h :: t => (holiday_List.up k h year 3).bind fun a => (holiday_List.put k year t).bind fun r => some (a ++ r)
def holiday_List.lt (a b : S33) : Bool := decide (a.f0 < b.f0 ∨ a.f0 = b.f0 ∧ (a.f1 < b.f1 ∨ a.f1 = b.f1 ∧ a.f2 < b.f2))
def holiday_List.ins (x : S33) : List S33 → List S33
  | [] => [x]
  | y :: t => if holiday_List.lt x y = true then x :: y :: t else if holiday_List.lt y x = true then y :: holiday_List.ins x t else y :: t
/-- in order, each once -/
def holiday_List.srt (l : List S33) : List S33 := l.foldr holiday_List.ins []
def holiday_List.f (k : Nat) (l0 : List S25) (a1 : Int) : Option ((List S33) × Int) :=
  (holiday_List.all k l0).bind fun g => if g = true then if a1 < 1 ∨ 9999 < a1 then some ([], 5) else (holiday_List.put k a1 l0).bind fun fs => if fs.length ≤ 1000000000000000000 ∧ (holiday_List.srt fs).length ≤ 100000 then some (holiday_List.srt fs, 0) else none else some ([], 8)
theorem holiday_List.mono_all (k : Nat) : ∀ l, LeO (holiday_List.all k l) (holiday_List.all (k + 1) l)
  | [] => fun _ h => h
  | h :: t => by
    intro r hr
    unfold holiday_List.all at hr ⊢
    obtain ⟨c, hc, hr⟩ := Option.bind_eq_some_iff.1 hr
    rw [holiday_Check.mono _ _ _ _ _ _ hc]
    simp only [Option.bind_some]
    split at hr
    · rename_i c0; rw [if_pos c0]; exact holiday_List.mono_all k t _ hr
    · rename_i c0; rw [if_neg c0]; exact hr
theorem holiday_List.mono_one (k : Nat) (h : S25) (year y : Int) : LeO (holiday_List.one k h year y) (holiday_List.one (k + 1) h year y) := by
  intro r hr
  unfold holiday_List.one at hr ⊢
  obtain ⟨c, hc, hr⟩ := Option.bind_eq_some_iff.1 hr
  rw [holiday_On.mono _ _ _ _ _ _ _ hc]
  exact hr
theorem holiday_List.mono_up (k : Nat) (h : S25) (year : Int) : ∀ n, LeO (holiday_List.up k h year n) (holiday_List.up (k + 1) h year n)
  | 0 => fun _ h => h
  | n + 1 => by
    intro r hr
    unfold holiday_List.up at hr ⊢
    obtain ⟨a, ha, hr⟩ := Option.bind_eq_some_iff.1 hr
    obtain ⟨b, hb, hr⟩ := Option.bind_eq_some_iff.1 hr
    rw [holiday_List.mono_one k h year _ _ ha, Option.bind_some, holiday_List.mono_up k h year n _ hb]
    exact hr
theorem holiday_List.mono_put (k : Nat) (year : Int) : ∀ l, LeO (holiday_List.put k year l) (holiday_List.put (k + 1) year l)
  | [] => fun _ h => h
  | h :: t => by
    intro r hr
    unfold holiday_List.put at hr ⊢
    obtain ⟨a, ha, hr⟩ := Option.bind_eq_some_iff.1 hr
    obtain ⟨b, hb, hr⟩ := Option.bind_eq_some_iff.1 hr
    rw [holiday_List.mono_up k h year _ _ ha, Option.bind_some, holiday_List.mono_put k year t _ hb]
    exact hr
theorem holiday_List.mono : ∀ l0 a1 k, LeO (holiday_List.f k l0 a1) (holiday_List.f (k + 1) l0 a1) := by
  intro l0 a1 k r hr
  unfold holiday_List.f at hr ⊢
  obtain ⟨g, hg, hr⟩ := Option.bind_eq_some_iff.1 hr
  rw [holiday_List.mono_all k l0 _ hg, Option.bind_some]
  split at hr
  · rename_i c; rw [if_pos c]
    split at hr
    · rename_i c; rw [if_pos c]; exact hr
    · rename_i c; rw [if_neg c]
      obtain ⟨fs, hf, hr⟩ := Option.bind_eq_some_iff.1 hr
      rw [holiday_List.mono_put k a1 l0 _ hf]; exact hr
  · rename_i c; rw [if_neg c]; exact hr
--WALK
/-- a date as a key of a map -/
def holiday_List.va (x : S33) : Value := .agg #[.int .i64 x.f0, .int .i64 x.f1, .int .i64 x.f2]
def holiday_List.ok (x : S33) : Prop := holiday_List.i64 x.f0 ∧ holiday_List.i64 x.f1 ∧ holiday_List.i64 x.f2
theorem holiday_List.laid : laidOutB Try.prog = true := by kernel_rfl
theorem holiday_List.row : (33 : TypeId) < Try.prog.types.size := of_decide_eq_true (by kernel_rfl)
theorem holiday_List.law : Go.Maps.Keyed Try.prog 33 := Go.Maps.Keyed.of_law (deep_law_laid holiday_List.laid (m := 2) (by omega) holiday_List.row (by kernel_rfl) (by rw [Try.underlying33]))
theorem holiday_List.wf {x : Int} : (Lit.int .i64 x).wf = true ↔ holiday_List.i64 x := by
  unfold holiday_List.i64
  simp [Lit.wf, IntKind.min, IntKind.max, IntKind.signed, IntKind.bits]
theorem holiday_List.keyt : Try.prog.keyType 33 = true := by kernel_rfl
theorem holiday_List.cells0 : Try.prog.cellsOf 33 = 3 := by kernel_rfl
theorem holiday_List.cells1 : Try.prog.cellsOf 3 = 1 := by kernel_rfl
theorem holiday_List.key_ok {x : S33} (h : holiday_List.ok x) : ∃ l, keyOf Try.prog 33 (holiday_List.va x) = some l := by
  have h0 := holiday_List.wf.2 h.1
  have h1 := holiday_List.wf.2 h.2.1
  have h2 := holiday_List.wf.2 h.2.2
  obtain ⟨n, hn⟩ : ∃ n, Try.prog.types.size = n + 1 := Nat.exists_eq_succ_of_ne_zero (Nat.ne_of_gt (Nat.lt_of_le_of_lt (Nat.zero_le _) holiday_List.row))
  unfold keyOf holiday_List.va
  rw [Try.underlying33, hn]
  simp [holiday_List.keyt, Value.formed, Try.underlying33, holiday_List.cells0, Program.keyLits, Value.cells, holiday_List.cells1, Try.underlying3, h0, h1, h2]
set_option maxRecDepth 100000 in
theorem holiday_List.key_cells {n : Nat} {cs : List Value} {ls : List Lit} (h : Try.prog.keyLits (n + 1) 33 cs = some ls) : ∃ x : S33, cs = [.int .i64 x.f0, .int .i64 x.f1, .int .i64 x.f2] ∧ holiday_List.ok x := by
  unfold Program.keyLits at h
  rw [Try.underlying33] at h
  simp only [holiday_List.cells0] at h
  split at h
  · rename_i hc
    obtain ⟨hl, _⟩ := hc
    match cs, hl with
    | [a, b, c], _ =>
      obtain ⟨q, hq, _⟩ := Option.map_eq_some_iff.1 h
      simp [holiday_List.cells1] at hq
      obtain ⟨l0, h0, hq⟩ := Option.bind_eq_some_iff.1 hq
      obtain ⟨_, hq, _⟩ := Option.bind_eq_some_iff.1 hq
      obtain ⟨l1, h1, hq⟩ := Option.bind_eq_some_iff.1 hq
      obtain ⟨_, hq, _⟩ := Option.bind_eq_some_iff.1 hq
      obtain ⟨l2, h2, _⟩ := Option.bind_eq_some_iff.1 hq
      have w := fun {v : Value} {l : List Lit} (e : Try.prog.keyLits n 3 [v] = some l) => (show ∃ m, v = .int .i64 m ∧ holiday_List.i64 m from by
        cases n with
        | zero => simp [Program.keyLits] at e
        | succ n =>
          cases v <;> simp [Program.keyLits, Try.underlying3] at e
          obtain ⟨⟨rfl, hw⟩, _⟩ := e
          exact ⟨_, rfl, holiday_List.wf.1 hw⟩)
      obtain ⟨x0, rfl, k0⟩ := w h0
      obtain ⟨x1, rfl, k1⟩ := w h1
      obtain ⟨x2, rfl, k2⟩ := w h2
      exact ⟨⟨x0, x1, x2⟩, rfl, k0, k1, k2⟩
  · cases h
set_option maxRecDepth 100000 in
theorem holiday_List.key_inv {v : Value} {l : Lit} (h : keyOf Try.prog 33 v = some l) : ∃ x, v = holiday_List.va x ∧ holiday_List.ok x := by
  unfold keyOf at h
  rw [Try.underlying33] at h
  simp only at h
  split at h
  · rename_i hc
    obtain ⟨ls, hl, _⟩ := Option.map_eq_some_iff.1 h
    obtain ⟨x, hx, hok⟩ := holiday_List.key_cells hl
    have hf := (Bool.and_eq_true_iff.1 hc).2
    cases v with
    | agg cs =>
      obtain ⟨cs⟩ := cs
      refine ⟨x, ?_, hok⟩
      have e : cs = [.int .i64 x.f0, .int .i64 x.f1, .int .i64 x.f2] := hx
      subst e
      rfl
    | _ => simp [Value.formed, Try.underlying33] at hf
  · cases h
instance : Inhabited S33 := ⟨⟨0, 0, 0⟩⟩
/-- a date's cells -/
def holiday_List.enc (x : S33) : List Value := [.int .i64 x.f0, .int .i64 x.f1, .int .i64 x.f2]
theorem holiday_List.cmp_lt (a b : S33) : decide (Civ.cmp a.f0 a.f1 a.f2 b.f0 b.f1 b.f2 < 0) = holiday_List.lt a b := by
  unfold Civ.cmp holiday_List.lt
  repeat' split
  all_goals simp <;> omega
set_option maxRecDepth 100000 in
/-- the function that compares two of the row's dates -/
theorem holiday_List.less (ob blk off n c : Nat) (w0 : World) (hob : ob < w0.heap.size) (hne : ob ≠ blk) (hc : w0.cell? ⟨ob, 0, none⟩ = some (.slice (some ⟨blk, off, none⟩) n c)) (hn : n < 4611686018427387904) :
    Pd.Less 23 #[.pointer (some ⟨ob, 0, none⟩)] holiday_List.enc 3 holiday_List.lt blk off n w0 := by
  intro W d h0 hH hd i j hi hj
  have eo : W.cell? ⟨ob, 0, none⟩ = some (.slice (some ⟨blk, off, none⟩) n c) := (Pd.gb_cell h0 hob hne).trans hc
  have ei0 := (hH.cell (i := i) (c := 0) (by omega) (by omega)).1
  have ei1 := (hH.cell (i := i) (c := 1) (by omega) (by omega)).1
  have ei2 := (hH.cell (i := i) (c := 2) (by omega) (by omega)).1
  have ej0 := (hH.cell (i := j) (c := 0) (by omega) (by omega)).1
  have ej1 := (hH.cell (i := j) (c := 1) (by omega) (by omega)).1
  have ej2 := (hH.cell (i := j) (c := 2) (by omega) (by omega)).1
  simp only [holiday_List.enc, List.getElem!_cons_zero, List.getElem!_cons_succ, Nat.add_zero] at ei0 ei1 ei2 ej0 ej1 ej2
  have hlt := holiday_List.cmp_lt d[i]! d[j]!
  generalize d[i]! = a at *
  generalize d[j]! = b at *
  have HL := Lib.hid hlt
  have HC := Lib.hid (fun w => civil_Compare.calls a.f0 a.f1 a.f2 b.f0 b.f1 b.f2 _ w rfl)
  have HS := Lib.hid (Below.refl W.heap.size W)
  clear hlt hH h0 hc
  go_enter Try.func23, Try.ntmps23
  go_wp2
  go_region_held3 (fun w' => w'.cell? ⟨ob, 0, none⟩ = some (.slice (some ⟨blk, off, none⟩) n c) ∧ w'.cell? ⟨blk, off + i * 3, none⟩ = some (.int .i64 a.f0) ∧ w'.cell? ⟨blk, off + i * 3 + 1, none⟩ = some (.int .i64 a.f1) ∧ w'.cell? ⟨blk, off + i * 3 + 2, none⟩ = some (.int .i64 a.f2) ∧ w'.cell? ⟨blk, off + j * 3, none⟩ = some (.int .i64 b.f0) ∧ w'.cell? ⟨blk, off + j * 3 + 1, none⟩ = some (.int .i64 b.f1) ∧ w'.cell? ⟨blk, off + j * 3 + 2, none⟩ = some (.int .i64 b.f2)) (go_keep) (first | (go_at_call 24; refine (HC.out _).mono ?_; rintro e w' ⟨rfl, hB⟩; have z0 : w'.cell? ⟨ob, 0, none⟩ = some (.slice (some ⟨blk, off, none⟩) n c) := (hB.cell (World.block_lt_of_cell? _ _ eo)).trans eo; have z1 : w'.cell? ⟨blk, off + i * 3, none⟩ = some (.int .i64 a.f0) := (hB.cell (World.block_lt_of_cell? _ _ ei0)).trans ei0; have z2 : w'.cell? ⟨blk, off + i * 3 + 1, none⟩ = some (.int .i64 a.f1) := (hB.cell (World.block_lt_of_cell? _ _ ei1)).trans ei1; have z3 : w'.cell? ⟨blk, off + i * 3 + 2, none⟩ = some (.int .i64 a.f2) := (hB.cell (World.block_lt_of_cell? _ _ ei2)).trans ei2; have z4 : w'.cell? ⟨blk, off + j * 3, none⟩ = some (.int .i64 b.f0) := (hB.cell (World.block_lt_of_cell? _ _ ej0)).trans ej0; have z5 : w'.cell? ⟨blk, off + j * 3 + 1, none⟩ = some (.int .i64 b.f1) := (hB.cell (World.block_lt_of_cell? _ _ ej1)).trans ej1; have z6 : w'.cell? ⟨blk, off + j * 3 + 2, none⟩ = some (.int .i64 b.f2) := (hB.cell (World.block_lt_of_cell? _ _ ej2)).trans ej2; have HB := Lib.hid hB; clear hB))
  go_wp2
  go_ret
  exact ⟨congrArg (fun x => Ending.returned (Value.bool x)) HL.out, Below.trans (b := W.drew) ⟨rfl, rfl, rfl, Nat.le_refl _, fun _ _ => rfl⟩ HB.out⟩
theorem holiday_List.lt_iff {a b : S33} : holiday_List.lt a b = true ↔ (a.f0 < b.f0 ∨ a.f0 = b.f0 ∧ (a.f1 < b.f1 ∨ a.f1 = b.f1 ∧ a.f2 < b.f2)) := by unfold holiday_List.lt; simp
theorem holiday_List.lt_no {a b : S33} : holiday_List.lt a b = false ↔ ¬ (a.f0 < b.f0 ∨ a.f0 = b.f0 ∧ (a.f1 < b.f1 ∨ a.f1 = b.f1 ∧ a.f2 < b.f2)) := by unfold holiday_List.lt; simp
theorem holiday_List.swo : Go.Sort.SWO holiday_List.lt where
  irrefl x := holiday_List.lt_no.2 (by omega)
  trans x y z h q := by rw [holiday_List.lt_iff] at *; omega
  ntrans x y z h q := by rw [holiday_List.lt_no] at *; omega
theorem holiday_List.lt_tot {a b : S33} (h : holiday_List.lt b a = false) (hne : a ≠ b) : holiday_List.lt a b = true := by
  rw [holiday_List.lt_no] at h
  rw [holiday_List.lt_iff]
  have : ¬ (a.f0 = b.f0 ∧ a.f1 = b.f1 ∧ a.f2 = b.f2) := fun ⟨e0, e1, e2⟩ => hne (by cases a; cases b; simp_all)
  omega
theorem holiday_List.mem_ins (x : S33) : ∀ (l : List S33) (z : S33), z ∈ holiday_List.ins x l ↔ z = x ∨ z ∈ l
  | [], z => by simp [holiday_List.ins]
  | y :: t, z => by
    unfold holiday_List.ins
    split
    · simp
    · split
      · rw [List.mem_cons, holiday_List.mem_ins x t z, List.mem_cons]; exact ⟨fun h => by rcases h with h | h | h <;> simp [h], fun h => by rcases h with h | h | h <;> simp [h]⟩
      · rename_i h1 h2
        have e : x = y := Classical.byContradiction fun hne => h1 (holiday_List.lt_tot (by simpa using h2) hne)
        subst e
        simp
theorem holiday_List.mem_srt (l : List S33) (z : S33) : z ∈ holiday_List.srt l ↔ z ∈ l := by
  induction l with
  | nil => simp [holiday_List.srt]
  | cons x t ih => show z ∈ holiday_List.ins x (holiday_List.srt t) ↔ _; rw [holiday_List.mem_ins, ih, List.mem_cons]
abbrev holiday_List.Asc (l : List S33) : Prop := l.Pairwise (fun a b => holiday_List.lt a b = true)
theorem holiday_List.asc_ins (x : S33) : ∀ (l : List S33), holiday_List.Asc l → holiday_List.Asc (holiday_List.ins x l)
  | [], _ => by simp [holiday_List.ins, holiday_List.Asc]
  | y :: t, h => by
    obtain ⟨h1, h2⟩ := List.pairwise_cons.1 h
    unfold holiday_List.ins
    split
    · rename_i hl
      exact List.pairwise_cons.2 ⟨fun z hz => by rcases List.mem_cons.1 hz with rfl | hz; (· exact hl); (· exact holiday_List.swo.trans _ _ _ hl (h1 z hz)), h⟩
    · split
      · rename_i hl
        exact List.pairwise_cons.2 ⟨fun z hz => by rcases (holiday_List.mem_ins x t z).1 hz with rfl | hz; (· exact hl); (· exact h1 z hz), holiday_List.asc_ins x t h2⟩
      · exact h
theorem holiday_List.asc_srt (l : List S33) : holiday_List.Asc (holiday_List.srt l) := by
  induction l with
  | nil => exact List.Pairwise.nil
  | cons x t ih => exact holiday_List.asc_ins x _ ih
theorem holiday_List.uniq : ∀ {l m : List S33}, holiday_List.Asc l → holiday_List.Asc m → (∀ z, z ∈ l ↔ z ∈ m) → l = m
  | [], [], _, _, _ => rfl
  | [], y :: m, _, _, h => absurd ((h y).2 (by simp)) (by simp)
  | x :: l, [], _, _, h => absurd ((h x).1 (by simp)) (by simp)
  | x :: l, y :: m, hl, hm, h => by
    obtain ⟨a1, a2⟩ := List.pairwise_cons.1 hl
    obtain ⟨b1, b2⟩ := List.pairwise_cons.1 hm
    have irr := holiday_List.swo.irrefl
    have e : x = y := by
      rcases List.mem_cons.1 ((h x).1 (by simp)) with e | e
      · exact e
      · rcases List.mem_cons.1 ((h y).2 (by simp)) with e' | e'
        · exact e'.symm
        · have q1 := b1 x e
          have q2 := a1 y e'
          have := holiday_List.swo.trans _ _ _ q1 q2
          rw [irr] at this
          cases this
    subst e
    congr 1
    refine holiday_List.uniq a2 b2 fun z => ⟨fun hz => ?_, fun hz => ?_⟩
    · rcases List.mem_cons.1 ((h z).1 (by simp [hz])) with rfl | h'
      · have := a1 z hz; rw [irr] at this; cases this
      · exact h'
    · rcases List.mem_cons.1 ((h z).2 (by simp [hz])) with rfl | h'
      · have := b1 z hz; rw [irr] at this; cases this
      · exact h'
theorem holiday_List.len_le : ∀ {l s : List S33}, l.Nodup → (∀ x ∈ l, x ∈ s) → l.length ≤ s.length
  | [], _, _, _ => Nat.zero_le _
  | x :: t, s, h, hs => by
    haveI := Classical.typeDecidableEq S33
    obtain ⟨h1, h2⟩ := List.nodup_cons.1 h
    have hx := hs x (by simp)
    have := holiday_List.len_le (s := s.erase x) h2 (fun y hy => (List.mem_erase_of_ne (fun e => h1 (by rw [← e]; exact hy))).2 (hs y (by simp [hy])))
    rw [List.length_erase_of_mem hx] at this
    have hp := List.length_pos_of_mem hx
    simp only [List.length_cons]
    omega
theorem holiday_List.sorted_end {n : Nat} {d d' : Array S33} (hn : d.size = n) (hP : Go.Sort.PermIn 0 n d d') (hS : Go.Sort.SortedIn holiday_List.lt 0 n d') (hd : d.toList.Nodup) {fs : List S33} (hm : ∀ z, z ∈ d.toList ↔ z ∈ fs) : d'.toList = holiday_List.srt fs := by
  obtain ⟨p1, _, p3⟩ := hP
  have e1 : (d.extract 0 n).toList = d.toList := by rw [← hn]; simp
  have e2 : (d'.extract 0 n).toList = d'.toList := by rw [← hn, ← p1]; simp
  rw [e1, e2] at p3
  refine holiday_List.uniq ?_ (holiday_List.asc_srt fs) fun z => by rw [p3.mem_iff, hm, holiday_List.mem_srt]
  have nd : d'.toList.Nodup := p3.nodup_iff.2 hd
  rw [holiday_List.Asc, List.pairwise_iff_getElem]
  intro i j hi hj hij
  rw [List.Nodup, List.pairwise_iff_getElem] at nd
  refine holiday_List.lt_tot ?_ (nd i j hi hj hij)
  have := hS i j (Nat.zero_le _) hij (by rw [← hn, ← p1]; simpa using hj)
  have hi' : i < d'.size := by simpa using hi
  have hj' : j < d'.size := by simpa using hj
  rw [getElem!_pos d' i hi', getElem!_pos d' j hj'] at this
  simpa using this
theorem holiday_List.row_cells {w : World} {base : Nat} {ok : Nat → Prop} {g c : Nat} {xs : List S33} (h : Kd.R k33 33 w base ok (.slice (some ⟨g, 0, none⟩) xs.length c) xs) :
    ∃ cur : Array Value, base ≤ g ∧ w.heap[g]? = some (.cells cur 33 (0, 0)) ∧ xs.length ≤ c ∧ c ≤ maxLen ∧ cur.size = c * 3 ∧ ∀ j x, xs[j]? = some x → cur[j * 3]? = some (.int .i64 x.f0) ∧ cur[j * 3 + 1]? = some (.int .i64 x.f1) ∧ cur[j * 3 + 2]? = some (.int .i64 x.f2) := by
  obtain ⟨_, inner, ⟨hl, ho⟩, hr⟩ := h
  rcases ho with ⟨e, _⟩ | ⟨g', cap, cur, e, hb, hh, hc1, hc2, hs, ht⟩
  · cases e
  · cases e
    have hsz : k33.sz = 3 := rfl
    rw [hsz] at hl hr hs ht
    refine ⟨cur, hb, hh, hc1, hc2, hs, fun j x hx => ?_⟩
    have hj : j < xs.length := (List.getElem?_eq_some_iff.1 hx).1
    have hk := k33_openM (hr.2 j x hx)
    clear hsz
    have at_ : ∀ u, u < 3 → cur[j * 3 + u]? = ((inner.drop (j * 3)).take 3)[u]? := fun u hu => by
      rw [List.getElem?_take_of_lt (by omega), List.getElem?_drop, ← ht, List.getElem?_take_of_lt (by omega), Array.getElem?_toList]
    refine ⟨?_, ?_, ?_⟩
    · have := at_ 0 (by omega); rw [hk] at this; simpa using this
    · have := at_ 1 (by omega); rw [hk] at this; simpa using this
    · have := at_ 2 (by omega); rw [hk] at this; simpa using this
theorem holiday_List.cell_blk {w : World} {g j : Nat} {cur : Array Value} {t : TypeId} (h : w.heap[g]? = some (.cells cur t (0, 0))) : w.cell? ⟨g, j, none⟩ = cur[j]? ∧ w.frozen? ⟨g, j, none⟩ = false := by
  constructor
  · simp [World.cell?, h]
  · simp [World.frozen?, h]
theorem holiday_List.row_holds {w : World} {base : Nat} {ok : Nat → Prop} {g c : Nat} {xs : List S33} (h : Kd.R k33 33 w base ok (.slice (some ⟨g, 0, none⟩) xs.length c) xs) :
    Go.Sort.HoldsK holiday_List.enc 3 w g 0 xs.toArray := by
  obtain ⟨cur, _, hh, _, _, hs, hc⟩ := holiday_List.row_cells h
  intro j hj
  have hj' : j < xs.length * 3 := by simpa using hj
  have hf := Go.Sort.get_flatK holiday_List.enc 3 xs.toArray j (by simpa using hj')
  have hq : j / 3 < xs.length := by omega
  obtain ⟨e0, e1⟩ := holiday_List.cell_blk (j := 0 + j) hh
  refine ⟨?_, e1⟩
  rw [e0, hf, Nat.zero_add]
  obtain ⟨c0, c1, c2⟩ := hc (j / 3) _ (List.getElem?_eq_getElem hq)
  have ex : xs.toArray[j / 3]! = xs[j / 3] := by rw [getElem!_pos _ _ (by simpa using hq)]; simp
  rw [ex]
  generalize xs[j / 3] = x at c0 c1 c2
  have hm : j % 3 = 0 ∨ j % 3 = 1 ∨ j % 3 = 2 := by omega
  rcases hm with e | e | e
  · rw [e]; exact (congrArg (fun q => cur[q]?) (show j = j / 3 * 3 by omega)).trans c0
  · rw [e]; exact (congrArg (fun q => cur[q]?) (show j = j / 3 * 3 + 1 by omega)).trans c1
  · rw [e]; exact (congrArg (fun q => cur[q]?) (show j = j / 3 * 3 + 2 by omega)).trans c2
/-- the row behind the sort -/
theorem holiday_List.holds_row {w w' : World} {base b' : Nat} {ok : Nat → Prop} {g c : Nat} {xs : List S33} {d : Array S33} (h : Kd.R k33 33 w base ok (.slice (some ⟨g, 0, none⟩) xs.length c) xs) (hD : Pd.Did holiday_List.enc 3 g 0 d w w') (hl : d.size = xs.length) (hb : b' ≤ g) :
    Kd.R k33 33 w' b' (fun _ => True) (.slice (some ⟨g, 0, none⟩) xs.length c) d.toList := by
  obtain ⟨cur, _, hh, h1, h2, hs, _⟩ := holiday_List.row_cells h
  obtain ⟨cur', hh', hs'⟩ := hD.3 _ _ _ hh
  have hsz : k33.sz = 3 := rfl
  have hlen : d.toList.length = xs.length := by simpa using hl
  have hcl : cur'.toList.length = c * 3 := by rw [Array.length_toList, hs', hs]
  refine ⟨fun _ _ => trivial, cur'.toList.take (xs.length * 3), ⟨by rw [hsz, List.length_take, hcl, hlen]; exact Nat.min_eq_left (Nat.mul_le_mul_right 3 h1), .inr ⟨g, c, cur', by rw [hlen], hb, hh', by rw [hlen]; exact h1, h2, by rw [hs', hs, hsz], by rw [hlen, hsz]⟩⟩, ?_, fun j p hj => ?_⟩
  · rw [hsz, List.length_take, hcl, hlen]; exact Nat.min_eq_left (Nat.mul_le_mul_right 3 h1)
  · have hj' : j < d.size := by have := (List.getElem?_eq_some_iff.1 hj).1; simpa using this
    have ep : d[j]! = p := by
      rw [getElem!_pos d j hj']
      have := (List.getElem?_eq_some_iff.1 hj).2
      simpa using this
    have cc : ∀ u, u < 3 → cur'[j * 3 + u]? = some ((holiday_List.enc p)[u]!) := fun u hu => by
      have := (hD.1.cell (i := j) (c := u) hj' hu).1
      rw [(holiday_List.cell_blk hh').1, ep, Nat.zero_add] at this
      exact this
    have hk : ((cur'.toList.take (xs.length * 3)).drop (j * 3)).take 3 = [.int .i64 p.f0, .int .i64 p.f1, .int .i64 p.f2] := by
      apply List.ext_getElem?
      intro u
      by_cases hu : u < 3
      · rw [List.getElem?_take_of_lt hu, List.getElem?_drop, List.getElem?_take_of_lt (by omega), Array.getElem?_toList, cc u hu]
        match u, hu with
        | 0, _ => rfl
        | 1, _ => rfl
        | 2, _ => rfl
      · rw [List.getElem?_take_eq_none (by omega), List.getElem?_eq_none (by simp; omega)]
    rw [hsz, hk]
    exact k33_mkM _ _ _ p
noncomputable def holiday_List.key (x : S33) : Lit := (keyOf Try.prog 33 (holiday_List.va x)).getD (.bool false)
set_option maxRecDepth 100000 in
theorem holiday_List.key_is {x : S33} (h : holiday_List.ok x) : keyOf Try.prog 33 (holiday_List.va x) = some (holiday_List.key x) := by
  obtain ⟨l, hl⟩ := holiday_List.key_ok h
  unfold holiday_List.key
  rw [hl]; rfl
set_option maxRecDepth 100000 in
theorem holiday_List.key_inj {x y : S33} (hx : holiday_List.ok x) (hy : holiday_List.ok y) (e : holiday_List.key x = holiday_List.key y) : x = y := by
  have h1 := holiday_List.key_is hx
  have h2 := holiday_List.key_is hy
  rw [← e] at h2
  have := holiday_List.law.inj h1 h2
  unfold holiday_List.va at this
  cases x; cases y
  simpa using this
set_option maxRecDepth 100000 in
/-- the map that holds these dates -/
noncomputable def holiday_List.bag (l : List S33) : DataW Unit := Go.Maps.setOf (.lit (.bool true)) (l.map holiday_List.key)
def holiday_List.Own (w : World) (mb : Nat) (l : List S33) : Prop := (∀ x ∈ l, holiday_List.ok x) ∧ w.ownsMap Try.prog 33 (plainElem Try.prog 4) mb l.length (holiday_List.bag l)
set_option maxRecDepth 100000 in
theorem holiday_List.bag_has {l : List S33} (h : ∀ x ∈ l, holiday_List.ok x) {z : S33} (hz : holiday_List.ok z) : Go.Maps.has (holiday_List.bag l) (holiday_List.key z) = true ↔ z ∈ l := by
  unfold holiday_List.bag
  rw [Go.Maps.has_setOf _ _ _ (fun k hk => by
    obtain ⟨x, hx, rfl⟩ := List.mem_map.1 hk
    exact holiday_List.law.key (holiday_List.key_is (h x hx)))]
  rw [List.any_eq_true]
  constructor
  · rintro ⟨k, hk, e⟩
    obtain ⟨x, hx, rfl⟩ := List.mem_map.1 hk
    have := holiday_List.key_inj (h x hx) hz (WideAt.sameKey_eq e)
    rwa [← this]
  · intro hm
    exact ⟨_, List.mem_map.2 ⟨z, hm, rfl⟩, WideAt.sameKey_self (holiday_List.law.key (holiday_List.key_is hz))⟩
set_option maxRecDepth 100000 in
theorem holiday_List.own_start (w : World) : holiday_List.Own (w.alloc (.map #[] 0)) w.heap.size [] := ⟨fun x hx => by simp at hx, World.ownsMap_made _ _ _ _⟩
set_option maxRecDepth 100000 in
theorem holiday_List.own_kept {w w' : World} {mb : Nat} {l : List S33} {row : Option Nat} (h : holiday_List.Own w mb l) (hg : w.grownBy w' row) (hne : some mb ≠ row) : holiday_List.Own w' mb l := ⟨h.1, h.2.kept hg hne⟩
set_option maxRecDepth 100000 in
theorem holiday_List.own_below {w w' : World} {mb : Nat} {l : List S33} (h : holiday_List.Own w mb l) (hB : Below w.heap.size w w') : holiday_List.Own w' mb l := holiday_List.own_kept h (Pd.gb_below (r := none) hB) (by simp)
set_option maxRecDepth 100000 in
theorem holiday_List.bag_snoc (l : List S33) (x : S33) : holiday_List.bag (l ++ [x]) = (holiday_List.bag l).put (holiday_List.key x) (.lit (.bool true)) := by
  unfold holiday_List.bag
  rw [List.map_append, List.map_singleton, Go.Maps.setOf_snoc]
set_option maxRecDepth 100000 in
theorem holiday_List.elem (b : Bool) : plainElem (H := Unit) Try.prog 4 (.bool b) = some (.lit (.bool b), []) := plainElem_bool Try.underlying4 b
set_option maxRecDepth 100000 in
theorem holiday_List.elem_inv {v : Value} {y : DataW Unit × List MemPlace} (h : plainElem Try.prog 4 v = some y) : ∃ c, v = .bool c := by
  unfold plainElem at h
  rw [Try.underlying4] at h
  cases v <;> simp at h
  exact ⟨_, rfl⟩
/-- the walk over the map: what is left, what has come -/
structure holiday_List.Rg (w : World) (mb r n : Nat) (fs acc : List S33) (left : Lit → Bool) (cnt : Nat) : Prop where
  rg : w.ranges Try.prog 33 (plainElem Try.prog 4) mb r n (holiday_List.bag fs) left cnt
  oks : ∀ x ∈ fs, holiday_List.ok x
  nd : acc.Nodup
  sub : ∀ x ∈ acc, x ∈ fs
  lf : ∀ x, holiday_List.ok x → (left (holiday_List.key x) = true ↔ x ∈ fs ∧ x ∉ acc)
set_option maxRecDepth 100000 in
theorem holiday_List.Rg.kept {w w' : World} {mb r n : Nat} {fs acc : List S33} {left : Lit → Bool} {cnt : Nat} {row : Option Nat} (h : holiday_List.Rg w mb r n fs acc left cnt) (hg : w.grownBy w' row) (h1 : some mb ≠ row) (h2 : some r ≠ row) : holiday_List.Rg w' mb r n fs acc left cnt :=
  ⟨h.rg.kept hg h1 h2, h.oks, h.nd, h.sub, h.lf⟩
set_option maxRecDepth 100000 in
theorem holiday_List.Rg.start {w w' : World} {mb n : Nat} {r : Nat} {fs : List S33} {cnt : Nat} (hok : ∀ x ∈ fs, holiday_List.ok x) (h : w'.ranges Try.prog 33 (plainElem Try.prog 4) mb r n (holiday_List.bag fs) (Go.Maps.has (holiday_List.bag fs)) cnt) : holiday_List.Rg w' mb r n fs [] (Go.Maps.has (holiday_List.bag fs)) cnt :=
  ⟨h, hok, List.nodup_nil, fun x hx => by simp at hx, fun x hx => by rw [holiday_List.bag_has hok hx]; simp⟩
set_option maxRecDepth 100000 in
theorem holiday_List.Rg.step {w w' : World} {mb r n : Nat} {fs acc : List S33} {left : Lit → Bool} {cnt cnt' : Nat} (h : holiday_List.Rg w mb r n fs acc left cnt) {x : S33} {kl : Lit} (hk : keyOf Try.prog 33 (holiday_List.va x) = some kl) (hl : left kl = true) (h' : w'.ranges Try.prog 33 (plainElem Try.prog 4) mb r n (holiday_List.bag fs) (fun z => left z && !z.sameKey kl) cnt') :
    holiday_List.ok x ∧ x ∈ fs ∧ x ∉ acc ∧ holiday_List.Rg w' mb r n fs (acc ++ [x]) (fun z => left z && !z.sameKey kl) cnt' := by
  obtain ⟨y, hy, hok⟩ := holiday_List.key_inv hk
  have e : y = x := by
    unfold holiday_List.va at hy
    cases x; cases y
    simpa using hy.symm
  subst e
  have e : kl = holiday_List.key y := Option.some.inj (hk.symm.trans (holiday_List.key_is hok))
  subst e
  obtain ⟨h1, h2⟩ := (h.lf y hok).1 hl
  refine ⟨hok, h1, h2, ⟨h', h.oks, ?_, ?_, ?_⟩⟩
  · exact List.nodup_append.2 ⟨h.nd, by simp, fun a ha b hb => by simp only [List.mem_singleton] at hb; subst hb; exact fun e => h2 (e ▸ ha)⟩
  · intro z hz
    rcases List.mem_append.1 hz with hz | hz
    · exact h.sub z hz
    · simp only [List.mem_singleton] at hz; subst hz; exact h1
  · intro z hz
    rw [Bool.and_eq_true, h.lf z hz]
    have : (!(holiday_List.key z).sameKey (holiday_List.key y)) = true ↔ z ≠ y := by
      cases hs : (holiday_List.key z).sameKey (holiday_List.key y) with
      | true => simp [holiday_List.key_inj hz hok (WideAt.sameKey_eq hs)]
      | false =>
        simp only [Bool.not_false, true_iff]
        rintro rfl
        rw [WideAt.sameKey_self (holiday_List.law.key (holiday_List.key_is hz))] at hs
        cases hs
    rw [this]
    simp only [List.mem_append, List.mem_singleton, not_or]
    exact ⟨fun h => ⟨h.1.1, h.1.2, h.2⟩, fun h => ⟨⟨h.1, h.2.1⟩, h.2.2⟩⟩
set_option maxRecDepth 100000 in
theorem holiday_List.Rg.done {w : World} {mb r n : Nat} {fs acc : List S33} {left : Lit → Bool} {cnt : Nat} (h : holiday_List.Rg w mb r n fs acc left cnt) (hl : ∀ kl, left kl = false) : ∀ z, z ∈ acc ↔ z ∈ fs := fun z =>
  ⟨h.sub z, fun hz => Classical.byContradiction fun hn => by
    have := (h.lf z (h.oks z hz)).2 ⟨hz, hn⟩
    rw [hl] at this
    cases this⟩
set_option maxRecDepth 100000 in
theorem holiday_List.Rg.len {w : World} {mb r n : Nat} {fs acc : List S33} {left : Lit → Bool} {cnt : Nat} (h : holiday_List.Rg w mb r n fs acc left cnt) : acc.length ≤ (holiday_List.srt fs).length := holiday_List.len_le h.nd fun x hx => (holiday_List.mem_srt fs x).2 (h.sub x hx)
set_option maxRecDepth 100000 in
theorem holiday_List.wp_next {w : World} {ops : Array Oper} {rest : List Oper} {o : Oper} {a : Act} {Q : Exit → Act → World → Prop} (hg : o.guard = none) (it : Operand) (hop : o.op = Op.next it false) {mb r n : Nat} {fs acc : List S33} {left : Lit → Bool} {cnt : Nat} (h : holiday_List.Rg w mb r n fs acc left cnt) (hit : a.eval it = .pointer (some ⟨r, 0, none⟩))
    (hDone : (∀ kl, left kl = false) → wpList Try.prog ops Q rest (a.put o.dst (.tuple #[.bool false])) w)
    (hMore : ∀ (x : S33) (v : Value) (w' : World), Hid (∃ left' cnt', holiday_List.Rg w' mb r n fs (acc ++ [x]) left' cnt' ∧ cnt' < cnt ∧ w.grownBy w' (some r) ∧ w'.heap.size = w.heap.size) → (Instr.entry (.pointer (some ⟨r, 0, none⟩))).run Try.prog w' = .ok (.tuple #[.agg #[.int .i64 x.f0, .int .i64 x.f1, .int .i64 x.f2], v]) w' → wpList Try.prog ops Q rest (a.put o.dst (.tuple #[.bool true, .agg #[.int .i64 x.f0, .int .i64 x.f1, .int .i64 x.f2], v])) w') :
    wpList Try.prog ops Q (o :: rest) a w :=
  wpList_next_ranges w hg it hop 33 holiday_List.law (plainElem Try.prog 4) holiday_List.va id (fun key kl h => (holiday_List.key_inv h).imp fun _ q => q.1) (fun v y _ => ⟨v, rfl⟩) mb r n (holiday_List.bag fs) left cnt hit h.rg (fun _ hl => hDone hl)
    (fun x v kl y w' cnt' hk hl _ _ hrg hlt hgr hsz hen => hMore x v w' (show Hid _ from ⟨_, cnt', (h.step hk hl hrg).2.2.2, hlt, hgr, hsz⟩) hen)
theorem holiday_List.asc_small : ∀ {ds : List S33}, ds.length ≤ 1 → holiday_List.Asc ds
  | [], _ => List.Pairwise.nil
  | [x], _ => List.pairwise_singleton _ _
  | x :: y :: t, h => absurd h (by simp)
theorem holiday_List.enc_one (x : S33) : ∀ v ∈ holiday_List.enc x, v.oneCell' = true := by
  intro v hv
  unfold holiday_List.enc at hv
  simp only [List.mem_cons, List.not_mem_nil, or_false] at hv
  rcases hv with rfl | rfl | rfl <;> rfl
theorem holiday_List.enters (args : Array Value) (w : World) : (callFunc 23 args).run Try.prog w = .ok (.enter 23 args) w := enters_of Try.func23 (by kernel_rfl) rfl args w
set_option maxRecDepth 100000 in
theorem holiday_List.sorted_call {w wr : World} {ob c : Nat} {A : Option Addr} {acc ds : List S33} (hbo : wr.heap[ob]? = some (.cells #[.slice A ds.length c] 26 (0, 0))) (hR : Kd.R k33 33 wr (ob + 1 + 1) (fun _ => True) (.slice A ds.length c) ds) (hB : Below w.heap.size w wr) (how : w.heap.size ≤ ob) (nd : ds.Nodup) (hm : ∀ z, z ∈ ds ↔ z ∈ acc) (hl : ds.length ≤ 100000) :
    Calls Try.prog 22 #[.iface 26 (.slice A ds.length c), .func (.func 23) #[] #[.pointer (some ⟨ob, 0, none⟩)]] wr fun e w' => e = .returned (.tuple #[]) ∧ w'.cell? ⟨ob, 0, none⟩ = some (.slice A ds.length c) ∧ Kd.R k33 33 w' w.heap.size (fun _ => True) (.slice A ds.length c) (holiday_List.srt acc) ∧ Below w.heap.size w w' := by
  have hob : ob < wr.heap.size := (Array.getElem?_eq_some_iff.1 hbo).1
  have eo : wr.cell? ⟨ob, 0, none⟩ = some (.slice A ds.length c) := by simp [World.cell?, hbo]
  by_cases h1 : ds.length ≤ 1
  · refine (Pd.slice0 (.func 23) #[] #[.pointer (some ⟨ob, 0, none⟩)] A ds.length c h1 wr).mono ?_
    rintro e w' ⟨rfl, hB'⟩
    have he : holiday_List.srt acc = ds := (holiday_List.uniq (holiday_List.asc_small h1) (holiday_List.asc_srt acc) fun z => by rw [hm, holiday_List.mem_srt]).symm
    exact ⟨rfl, (hB'.cell hob).trans eo, by rw [he]; exact Kd.R_lower (Kd.R_below hR hB') (by omega), hB.trans (hB'.mono hB.size)⟩
  · obtain ⟨gb, cap, hv, hgb, hgl, _⟩ := Kd.R_form hR (by omega)
    injection hv with hA _ hc
    subst hA
    have hne : ob ≠ gb := by omega
    have hsz : ds.toArray.size = ds.length := by simp
    have hs := Pd.slice (c := c) holiday_List.swo (fun _ => rfl) holiday_List.enc_one (holiday_List.less ob gb 0 ds.length c wr hob hne eo (by omega)) holiday_List.enters (by omega) (by omega) wr ds.toArray (Pd.gb_refl _ _) (holiday_List.row_holds hR) hsz hgl
    refine hs.mono ?_
    rintro e w' ⟨rfl, d', hD, hd', hP, hS⟩
    have he : d'.toList = holiday_List.srt acc := holiday_List.sorted_end hsz hP hS (by simpa using nd) (fun z => by simpa using hm z)
    refine ⟨rfl, (Pd.gb_cell hD.2 hob hne).trans eo, ?_, hB.grown hD.2 hB.size (fun q hq => by have := Option.some.inj hq; omega)⟩
    rw [← he]
    exact holiday_List.holds_row hR hD hd' (by omega)
theorem holiday_List.box_set {w : World} {ob : Nat} {v u : Value} {t : TypeId} (h : w.heap[ob]? = some (.cells #[v] t (0, 0))) : (w.setCell ⟨ob, 0, none⟩ u).heap[ob]? = some (.cells #[u] t (0, 0)) := by
  simp [World.setCell, Array.getElem?_modify, h]
--CALLS
theorem holiday_List.drop (rs : List S25) (i : Nat) (h : i < rs.length) : rs.drop i = rd_T25 rs (i : Int) :: rs.drop (i + 1) := by
  unfold rd_T25
  rw [List.drop_eq_getElem_cons h]
  simp [List.getD_eq_getElem?_getD, h]
set_option maxHeartbeats 16000000 in
set_option maxRecDepth 100000 in
theorem holiday_List.calls (k : Nat) (A0 : Option Addr) (c0 : Nat) (l0 : List (S25)) (a1 : Int) (r1 : List (S33)) (r2 : Int) (w : World) (hr0 : Kd.C k25 w A0 l0.length l0) (hc0 : l0.length ≤ c0) (h : holiday_List.f k l0 a1 = some (r1, r2)) :
  Calls Try.prog 9 #[.slice A0 l0.length c0, .int .i64 a1] w fun e w' => ∃ v0_ : Value, e = .returned (.tuple #[v0_, .int .i64 r2]) ∧ Kd.R k33 33 w' w.heap.size (fun _ => True) v0_ r1 ∧ Below w.heap.size w w' := by
  have hl := hr0.2.1
  have HR0 := Lib.hid hr0
  unfold holiday_List.f at h
  obtain ⟨g, hg, h⟩ := Option.bind_eq_some_iff.1 h
  have HA0 := Lib.hid hg
  have HF := Lib.hid h
  have HB0 := Lib.hid (Below.refl w.heap.size w)
  have hmm := @run_makeMap Try.prog
  clear hg h hr0
  go_enter Try.func9, Try.ntmps9
  go_wp2
  go_loopw [18] (fun vi wr => ∃ (i : Nat), vi = .int .i64 i ∧ i ≤ l0.length ∧ Hid (holiday_List.all k (l0.drop i) = some g ∧ Below w.heap.size w wr)) (fun vi _ => l0.length - (intOf vi).toNat)
  case atStart => exact ⟨0, rfl, Nat.zero_le _, ⟨HA0.out, HB0.out⟩⟩
  case round =>
    clear HA0 HB0
    obtain ⟨i, rfl, hi, HL⟩ := hrel
    by_cases hlt : i < l0.length
    · obtain ⟨⟨f0, f1, f2, f3⟩, hrd⟩ : ∃ r, rd_T25 l0 (i : Int) = r := ⟨_, rfl⟩
      have hdr := holiday_List.drop l0 i hlt
      rw [hrd] at hdr
      have ha := HL.out.1
      rw [hdr] at ha
      unfold holiday_List.all at ha
      obtain ⟨c, hc, ha⟩ := Option.bind_eq_some_iff.1 ha
      have hC : Kd.C k25 wr A0 l0.length l0 := Kd.C_below HR0.out HL.out.2
      obtain ⟨ad, eA, x0, x1, x2, x3⟩ := at_T25 hC (i : Int) (by omega) (by omega)
      rw [hrd] at x0 x1 x2 x3
      simp only [Int.toNat_natCast] at x0 x1 x2 x3
      have HC := Lib.hid (fun w => holiday_Check.calls k f0 f1 f2 f3 c w hc)
      have HHA := Lib.hid ha
      have HBL := Lib.hid HL.out.2
      have HAN := Lib.hid (Below.alloc HBL.out HBL.out.size (.cells #[.int .i64 f0, .int .i64 f1, .int .i64 f2, .int .i64 f3] 25))
      clear hC ha hc hdr hrd HL
      subst eA
      by_cases hc0 : c = 0
      · subst hc0
        go_wp2_with (go_at_call 12; refine (HC.out _).mono ?_; rintro e w1 ⟨rfl, hB⟩; have HBN := Lib.hid (HAN.out.trans (hB.mono HAN.out.size)); clear hB)
        go_roundw
        case rel => exact ⟨i + 1, by go_num, by omega, ⟨by simpa using HHA.out, HBN.out⟩⟩
        case measure => simp [intOf]; omega
      · have q0 : (c == 0) = false := beq_eq_false_iff_ne.2 hc0
        have q1 : (c != 0) = true := bne_iff_ne.2 hc0
        go_wp2_with (go_at_call 12; refine (HC.out _).mono ?_; rintro e w1 ⟨rfl, hB⟩; have HBN := Lib.hid (HAN.out.trans (hB.mono HAN.out.size)); clear hB)
        go_ret2
        have hg := HHA.out
        rw [if_neg hc0] at hg
        have hf := HF.out
        rw [← Option.some.inj hg, if_neg (by decide)] at hf
        cases hf
        exact ⟨_, rfl, Kd.R_nil _ _ _ _ _, HBN.out⟩
    · have hie : i = l0.length := by omega
      subst hie
      have hg := HL.out.1
      rw [List.drop_length] at hg
      have hf := HF.out
      rw [show g = true from (Option.some.inj hg).symm, if_pos rfl] at hf
      have HBL := Lib.hid HL.out.2
      clear hg HL HF hlt hi
      by_cases y1 : a1 < 1
      · have d1 : decide (a1 < 1) = true := decide_eq_true y1
        rw [if_pos (Or.inl y1)] at hf
        cases hf
        go_wp2
        go_ret2
        exact ⟨_, rfl, Kd.R_nil _ _ _ _ _, HBL.out⟩
      · have d1 : decide (a1 < 1) = false := decide_eq_false y1
        by_cases y2 : 9999 < a1
        · have d2 : decide (9999 < a1) = true := decide_eq_true y2
          rw [if_pos (Or.inr y2)] at hf
          cases hf
          go_wp2
          go_ret2
          exact ⟨_, rfl, Kd.R_nil _ _ _ _ _, HBL.out⟩
        · have d2 : decide (9999 < a1) = false := decide_eq_false y2
          rw [if_neg (by omega)] at hf
          obtain ⟨fs, hp, hf⟩ := Option.bind_eq_some_iff.1 hf
          split at hf
          · rename_i hgd
            cases hf
            have HP := Lib.hid hp
            have HG := Lib.hid hgd
            clear hp hgd
            go_wp2
            obtain ⟨mb, hmb⟩ : ∃ mb, mb = wr.heap.size := ⟨_, rfl⟩
            have hmw : w.heap.size ≤ mb := by rw [hmb]; exact HBL.out.size
            have HO0 := Lib.hid (show holiday_List.Own (wr.alloc (.map #[] 0)) mb [] from hmb ▸ holiday_List.own_start wr)
            have HB1 := Lib.hid (Below.alloc HBL.out HBL.out.size (.map #[] 0))
            rw [← hmb]
            have g1 : 1 ≤ a1 := by omega
            have g2 : a1 ≤ 9999 := by omega
            clear hmb HBL d1 d2 y1 y2 hmm h hf
            go_loopw [35] (fun vi wr => ∃ (i : Nat) (acc : List S33), vi = .int .i64 i ∧ i ≤ l0.length ∧ Hid ((∃ rest, holiday_List.put k a1 (l0.drop i) = some rest ∧ acc ++ rest = fs) ∧ holiday_List.Own wr mb acc ∧ Below w.heap.size w wr)) (fun vi _ => l0.length - (intOf vi).toNat)
            case atStart => exact ⟨0, [], rfl, Nat.zero_le _, ⟨fs, HP.out, rfl⟩, HO0.out, HB1.out⟩
            case round =>
              clear HP HO0 HB1
              obtain ⟨i, acc, rfl, hi, HL⟩ := hrel
              by_cases hlt : i < l0.length
              · obtain ⟨⟨f0, f1, f2, f3⟩, hrd⟩ : ∃ r, rd_T25 l0 (i : Int) = r := ⟨_, rfl⟩
                have hdr := holiday_List.drop l0 i hlt
                rw [hrd] at hdr
                obtain ⟨⟨rest, hp, hfs⟩, hOw, hBw⟩ := HL.out
                rw [hdr] at hp
                unfold holiday_List.put at hp
                obtain ⟨a, ha, hp⟩ := Option.bind_eq_some_iff.1 hp
                obtain ⟨rest2, hp, hr2⟩ := Option.bind_eq_some_iff.1 hp
                have hr2 := Option.some.inj hr2
                have hC : Kd.C k25 wr A0 l0.length l0 := Kd.C_below HR0.out hBw
                obtain ⟨ad, eA, x0, x1, x2, x3⟩ := at_T25 hC (i : Int) (by omega) (by omega)
                rw [hrd] at x0 x1 x2 x3
                simp only [Int.toNat_natCast] at x0 x1 x2 x3
                have HPR := Lib.hid (And.intro hp (show (acc ++ a) ++ rest2 = fs by rw [List.append_assoc, hr2, hfs]))
                have HA := Lib.hid ha
                obtain ⟨hb, hhb⟩ : ∃ hb, hb = wr.heap.size := ⟨_, rfl⟩
                have hmh : mb < hb := by rw [hhb]; exact hOw.2.lt
                have HS := Lib.hid (show holiday_List.Own (wr.alloc (.cells #[.int .i64 f0, .int .i64 f1, .int .i64 f2, .int .i64 f3] 25)) mb acc ∧ (wr.alloc (.cells #[.int .i64 f0, .int .i64 f1, .int .i64 f2, .int .i64 f3] 25)).heap[hb]? = some (.cells #[.int .i64 f0, .int .i64 f1, .int .i64 f2, .int .i64 f3] 25 (0, 0)) ∧ Below w.heap.size w (wr.alloc (.cells #[.int .i64 f0, .int .i64 f1, .int .i64 f2, .int .i64 f3] 25)) from
                  ⟨holiday_List.own_below hOw ((Below.refl _ _).alloc (Nat.le_refl _) _), hhb ▸ heap_alloc_new wr _, hBw.alloc hBw.size _⟩)
                clear hp hfs hr2 hOw hBw ha hC hdr hrd HL
                subst eA
                go_wp2
                rw [← hhb]
                clear hhb x0 x1 x2 x3
                go_loopw [11] (fun vy wr => ∃ (n : Nat) (acc2 : List S33), vy = .int .i64 (a1 + 2 - (n : Int)) ∧ n ≤ 3 ∧ Hid ((∃ r, holiday_List.up k ⟨f0, f1, f2, f3⟩ a1 n = some r ∧ acc2 ++ r = acc ++ a) ∧ holiday_List.Own wr mb acc2 ∧ wr.heap[hb]? = some (.cells #[.int .i64 f0, .int .i64 f1, .int .i64 f2, .int .i64 f3] 25 (0, 0)) ∧ Below w.heap.size w wr)) (fun vy _ => (a1 + 2 - intOf vy).toNat)
                case atStart => exact ⟨3, acc, by congr 1; omega, Nat.le_refl _, ⟨a, HA.out, rfl⟩, HS.out⟩
                case round =>
                  clear HA HS
                  obtain ⟨n, acc2, rfl, hn, HL⟩ := hrel
                  cases n with
                  | zero =>
                    have hgt : decide (a1 + 2 - ((0 : Nat) : Int) ≤ a1 + 1) = false := decide_eq_false (by omega)
                    obtain ⟨⟨r, hu, hr⟩, hOw, _, hBw⟩ := HL.out
                    unfold holiday_List.up at hu
                    have HX := Lib.hid (And.intro (show acc2 = acc ++ a by rw [← hr, ← Option.some.inj hu, List.append_nil]) (And.intro hOw hBw))
                    clear HL hu hr hOw hBw
                    go_wp2
                    go_roundw
                    case rel => exact ⟨i + 1, acc2, by go_num, by omega, ⟨rest2, HPR.out.1, by rw [HX.out.1]; exact HPR.out.2⟩, HX.out.2.1, HX.out.2.2⟩
                    case measure => simp [intOf]; omega
                  | succ m =>
                    obtain ⟨y, hy⟩ : ∃ y : Int, y = a1 + 1 - (m : Int) := ⟨_, rfl⟩
                    rw [show a1 + 2 - ((m + 1 : Nat) : Int) = y by omega]
                    obtain ⟨⟨r, hu, hr⟩, hOw, hbx, hBw⟩ := HL.out
                    unfold holiday_List.up at hu
                    rw [← hy] at hu
                    obtain ⟨s, hs, hu⟩ := Option.bind_eq_some_iff.1 hu
                    obtain ⟨r', hu, hrr⟩ := Option.bind_eq_some_iff.1 hu
                    have hrr := Option.some.inj hrr
                    unfold holiday_List.one at hs
                    obtain ⟨⟨o0, o1, o2, o3⟩, ho, hz⟩ := Option.bind_eq_some_iff.1 hs
                    simp only at hz
                    clear hs
                    have hly : decide (y ≤ a1 + 1) = true := decide_eq_true (by omega)
                    have x0 : wr.cell? ⟨hb, 0, none⟩ = some (.int .i64 f0) := by simp [World.cell?, hbx]
                    have x1 : wr.cell? ⟨hb, 1, none⟩ = some (.int .i64 f1) := by simp [World.cell?, hbx]
                    have x2 : wr.cell? ⟨hb, 2, none⟩ = some (.int .i64 f2) := by simp [World.cell?, hbx]
                    have x3 : wr.cell? ⟨hb, 3, none⟩ = some (.int .i64 f3) := by simp [World.cell?, hbx]
                    have HC := Lib.hid (fun w => holiday_On.calls k f0 f1 f2 f3 y o0 o1 o2 o3 w ho)
                    have HU := Lib.hid (And.intro hu (show (acc2 ++ s) ++ r' = acc ++ a by rw [List.append_assoc, hrr, hr]))
                    have HW := Lib.hid (show ∀ w1, Below wr.heap.size wr w1 → holiday_List.Own (w1.alloc (.cells #[.int .i64 o0, .int .i64 o1, .int .i64 o2] 33)) mb acc2 ∧ (w1.alloc (.cells #[.int .i64 o0, .int .i64 o1, .int .i64 o2] 33)).heap[hb]? = some (.cells #[.int .i64 f0, .int .i64 f1, .int .i64 f2, .int .i64 f3] 25 (0, 0)) ∧ Below w.heap.size w (w1.alloc (.cells #[.int .i64 o0, .int .i64 o1, .int .i64 o2] 33)) from fun w1 hB =>
                      have hA : Below wr.heap.size wr (w1.alloc (.cells #[.int .i64 o0, .int .i64 o1, .int .i64 o2] 33)) := hB.alloc hB.size _
                      ⟨holiday_List.own_below hOw hA, blk_below hbx hA, hBw.trans (hA.mono hBw.size)⟩)
                    have hy1 : y ≤ a1 + 1 := by omega
                    have hy2 : a1 - 1 ≤ y := by omega
                    have HY := Lib.hid hy
                    have hlen : acc2.length ≤ 1000000000000000000 := by
                      have q1 := congrArg List.length HU.out.2
                      have q2 := congrArg List.length HPR.out.2
                      have q3 := HG.out.1
                      simp only [List.length_append] at q1 q2
                      omega
                    clear HL hu hr hOw hbx hBw hrr ho hy
                    by_cases e3 : o3 = 0
                    · by_cases e0 : o0 = a1
                      · rw [if_pos ⟨e3, e0⟩] at hz
                        split at hz
                        · rename_i hok
                          have hz1 := Option.some.inj hz
                          clear hz
                          subst e3 e0
                          have HK := Lib.hid (show holiday_List.ok ⟨o0, o1, o2⟩ from hok)
                          have HSS := Lib.hid hz1
                          clear hok hz1
                          go_wp2_with (first
                            | (go_at_call 11; (with_reducible refine (HC.out _).mono ?_); rintro e w1 ⟨rfl, hB⟩; have HWN := Lib.hid (HW.out w1 hB); have HOA := Lib.hid HWN.out.1.2; clear hB)
                            | (at_mapUpdate; refine wpList_mapUpdate_own _ rfl _ _ _ 54 rfl 33 4 holiday_List.law Try.underlying54 _ mb acc2.length (holiday_List.bag acc2) rfl HOA.out ?hn _ _ (holiday_List.key ⟨o0, o1, o2⟩) rfl rfl (holiday_List.key_is HK.out) (.lit (.bool true)) [] (holiday_List.elem true) ?_; (case hn => unfold maxLen; omega); intro w2 hown2 hgr2))
                          go_roundw
                          case rel =>
                            refine ⟨m, acc2 ++ [⟨o0, o1, o2⟩], by congr 1; have := HY.out; omega, by omega, ⟨r', HU.out.1, by rw [HSS.out]; exact HU.out.2⟩, ⟨fun z hz => ?_, ?_⟩, (hgr2.block hb (Array.getElem?_eq_some_iff.1 HWN.out.2.1).1 (fun e => by have := Option.some.inj e; omega)).trans HWN.out.2.1, HWN.out.2.2.grown hgr2 HWN.out.2.2.size (fun q hq => by have := Option.some.inj hq; omega)⟩
                            · rcases List.mem_append.1 hz with hz | hz
                              · exact HWN.out.1.1 z hz
                              · simp only [List.mem_singleton] at hz; subst hz; exact HK.out
                            · rw [holiday_List.bag_snoc, List.length_append, List.length_singleton]; exact hown2
                          case measure => simp [intOf]; have := HY.out; omega
                        · cases hz
                      · rw [if_neg (fun q => e0 q.2)] at hz
                        subst e3
                        have q0 : (o0 == a1) = false := beq_eq_false_iff_ne.2 e0
                        have HSS := Lib.hid (Option.some.inj hz)
                        clear hz
                        go_wp2_with (go_at_call 11; (with_reducible refine (HC.out _).mono ?_); rintro e w1 ⟨rfl, hB⟩; have HWN := Lib.hid (HW.out w1 hB); clear hB)
                        go_roundw
                        case rel => exact ⟨m, acc2, by congr 1; have := HY.out; omega, by omega, ⟨r', HU.out.1, by have := HU.out.2; rwa [← HSS.out, List.append_nil] at this⟩, HWN.out⟩
                        case measure => simp [intOf]; have := HY.out; omega
                    · rw [if_neg (fun q => e3 q.1)] at hz
                      have q3 : (o3 == 0) = false := beq_eq_false_iff_ne.2 e3
                      have HSS := Lib.hid (Option.some.inj hz)
                      clear hz
                      go_wp2_with (go_at_call 11; (with_reducible refine (HC.out _).mono ?_); rintro e w1 ⟨rfl, hB⟩; have HWN := Lib.hid (HW.out w1 hB); clear hB)
                      go_roundw
                      case rel => exact ⟨m, acc2, by congr 1; have := HY.out; omega, by omega, ⟨r', HU.out.1, by have := HU.out.2; rwa [← HSS.out, List.append_nil] at this⟩, HWN.out⟩
                      case measure => simp [intOf]; have := HY.out; omega
              · have hie : i = l0.length := by omega
                subst hie
                obtain ⟨⟨rest, hp, hfs⟩, hOw, hBw⟩ := HL.out
                rw [List.drop_length] at hp
                unfold holiday_List.put at hp
                rw [← Option.some.inj hp, List.append_nil] at hfs
                subst hfs
                obtain ⟨ob, hob⟩ : ∃ ob, ob = wr.heap.size := ⟨_, rfl⟩
                have hmo : mb < ob := by rw [hob]; exact hOw.2.lt
                have how : w.heap.size ≤ ob := by rw [hob]; exact hBw.size
                have HS := Lib.hid (show holiday_List.Own (wr.alloc (.cells #[.slice none 0 0] 26)) mb acc ∧ (wr.alloc (.cells #[.slice none 0 0] 26)).heap[ob]? = some (.cells #[.slice none 0 0] 26 (0, 0)) ∧ Below w.heap.size w (wr.alloc (.cells #[.slice none 0 0] 26)) from
                  ⟨holiday_List.own_below hOw ((Below.refl _ _).alloc (Nat.le_refl _) _), hob ▸ heap_alloc_new wr _, hBw.alloc hBw.size _⟩)
                have hrs : (wr.alloc (.cells #[.slice none 0 0] 26)).heap.size = ob + 1 := by rw [hob]; simp
                obtain ⟨W1, hW1⟩ : ∃ W1, W1 = wr.alloc (.cells #[.slice none 0 0] 26) := ⟨_, rfl⟩
                rw [← hW1] at HS hrs
                have HW1 := Lib.hid hW1
                have HOB := Lib.hid hob
                have HOW := Lib.hid HS.out.1.2
                clear hp hOw hBw HL hW1 hob hlt hi
                go_upto_region 21 with fail
                rw [← HW1.out, ← HOB.out]
                go_wp2_with (at_range; refine wpList_range_own _ rfl _ 54 rfl 33 4 holiday_List.law Try.underlying54 _ mb acc.length (holiday_List.bag acc) rfl HOW.out ?_; intro W2 hrg0 hg0 hs0; rw [hrs] at hrg0 hs0 ⊢; have HR0 := Lib.hid (And.intro hrg0 (And.intro hg0 hs0)); clear hrg0 hg0 hs0)
                go_frame
                have hro : ob + 1 < W2.heap.size := by rw [HR0.out.2.2]; omega
                have HR1 := Lib.hid (show holiday_List.Rg W2 mb (ob + 1) acc.length acc [] (Go.Maps.has (holiday_List.bag acc)) (Go.Maps.size (holiday_List.bag acc)) ∧ W2.heap[ob]? = some (.cells #[.slice none 0 0] 26 (0, 0)) ∧ Kd.R k33 33 W2 (ob + 1 + 1) (fun _ => True) (.slice none 0 0) [] ∧ Below w.heap.size w W2 from
                  ⟨holiday_List.Rg.start (w := W1) HS.out.1.1 HR0.out.1, (HR0.out.2.1.block ob (by rw [hrs]; omega) (by simp)).trans HS.out.2.1, Kd.R_nil _ _ _ _ _, HS.out.2.2.grown HR0.out.2.1 HS.out.2.2.size (fun q hq => by cases hq)⟩)
                clear HS HOW hrs
                go_loopw [15] (fun _ wr => ∃ (left : Lit → Bool) (cnt : Nat) (ds : List S33) (A : Option Addr) (c : Nat), Hid (holiday_List.Rg wr mb (ob + 1) acc.length acc ds left cnt ∧ wr.heap[ob]? = some (.cells #[.slice A ds.length c] 26 (0, 0)) ∧ Kd.R k33 33 wr (ob + 1 + 1) (fun _ => True) (.slice A ds.length c) ds ∧ Below w.heap.size w wr)) (fun _ wr => wr.rangeLeft mb (ob + 1))
                case atStart => exact ⟨_, _, [], none, 0, HR1.out⟩
                case round =>
                  clear HR0 HR1 HW1 HOB
                  obtain ⟨left, cnt, ds, A, c, HL⟩ := hrel
                  go_upto_if 67 with (at_next; (refine holiday_List.wp_next rfl _ rfl HL.out.1 rfl ?done ?more; (case' done => intro hl0); (case' more => intro x v w1 HNX hen1)))
                  · obtain ⟨left1, cnt1, hRg1, hlt1, hg1, hs1⟩ := HNX.out
                    have hbo := HL.out.2.1
                    have hbo1 : w1.heap[ob]? = some (.cells #[.slice A ds.length c] 26 (0, 0)) := (hg1.block ob (Array.getElem?_eq_some_iff.1 hbo).1 (fun e => by have := Option.some.inj e; omega)).trans hbo
                    have hR1 : Kd.R k33 33 w1 (ob + 1 + 1) (fun _ => True) (.slice A ds.length c) ds := Kd.R_mono (Kd.R_move (Kd.R_bound HL.out.2.2.1) (fun q hq => hg1.block q hq.2.2.1 (fun e => by have := Option.some.inj e; have := hq.2.1; omega))) (fun _ _ => trivial)
                    have hB1 : Below w.heap.size w w1 := HL.out.2.2.2.grown hg1 HL.out.2.2.2.size (fun q hq => by have := Option.some.inj hq; omega)
                    have HN := Lib.hid (And.intro hlt1 hRg1)
                    have hA : Below w1.heap.size w1 (w1.alloc (.cells #[.int .i64 x.f0, .int .i64 x.f1, .int .i64 x.f2] 33)) := (Below.refl _ _).alloc (Nat.le_refl _) _
                    have hbo2 := blk_below hbo1 hA
                    have eo : (w1.alloc (.cells #[.int .i64 x.f0, .int .i64 x.f1, .int .i64 x.f2] 33)).cell? ⟨ob, 0, none⟩ = some (.slice A ds.length c) := by simp [World.cell?, hbo2]
                    have HR2 := Lib.hid (Kd.R_below hR1 hA)
                    have HX := Lib.hid (And.intro hbo2 (hB1.trans (hA.mono hB1.size)))
                    have hlen : ds.length + 1 ≤ 100000 := by
                      have q := HN.out.2.len
                      rw [List.length_append, List.length_singleton] at q
                      have := HG.out.2
                      omega
                    have hsz : ob + 1 + 1 ≤ w1.heap.size := by rw [hs1]; have := HL.out.1.rg.lt; omega
                    obtain ⟨W4, hW4⟩ : ∃ W4, W4 = w1.alloc (.cells #[.int .i64 x.f0, .int .i64 x.f1, .int .i64 x.f2] 33) := ⟨_, rfl⟩
                    have hsz4 : ob + 1 + 1 ≤ W4.heap.size := by rw [hW4]; simp; omega
                    have x0 : W4.cell? ⟨w1.heap.size, 0, none⟩ = some (.int .i64 x.f0) := by rw [hW4]; simp
                    have x1 : W4.cell? ⟨w1.heap.size, 1, none⟩ = some (.int .i64 x.f1) := by rw [hW4]; simp
                    have x2 : W4.cell? ⟨w1.heap.size, 2, none⟩ = some (.int .i64 x.f2) := by rw [hW4]; simp
                    rw [← hW4] at HR2 HX eo
                    have HNE := Lib.hid (show ∀ q, q < ob + 1 + 1 → some q ≠ (Value.slice A ds.length c).ownBlock from fun q hq e => by obtain ⟨_, ho⟩ := Kd.R_own HR2.out; have := own_base ho q e.symm; omega)
                    clear hlt1 hg1 hs1 hsz hRg1 hbo hbo1 hbo2 hR1 hB1 hA HNX
                    go_upto_region 24 with fail
                    rw [← hW4]
                    have HW4 := Lib.hid hW4
                    clear hW4 hen1
                    go_wp2_with ((with_reducible refine gate_builtin (b := .append) (xs := #[.tmp 70, .tmp 72]) rfl ?_); at_builtin; refine Kd.R_append k33 (w0 := W4) (ob + 1 + 1) rfl (.tmp 70) (.tmp 72) 26 33 (.agg #[(.int .i64 0), (.int .i64 0), (.int .i64 0)]) 24 rfl Try.underlying26 info33 rfl (by decide) (by decide) (.slice A ds.length c) ds x [.int .i64 x.f0, .int .i64 x.f1, .int .i64 x.f2] (fun _ => True) (fun _ => False) rfl rfl (k33_mkM _ _ _ x) (fun _ hk => hk.elim) (fun _ _ => trivial) HR2.out (Below.refl _ _) ?aS ?aL ?_; (case aL => omega); (case aS => exact hsz4); intro v1 w2 ho hb hg hat; obtain ⟨A1, c1, rfl, _, _⟩ := Kd.R_reads ho; have hbo3 := (hg.block ob (by omega) (HNE.out ob (by omega))).trans HX.out.1; have z0 : w2.cell? ⟨ob, 0, none⟩ = some (.slice A ds.length c) := (by simp [World.cell?, hbo3]); have zf : w2.frozen? ⟨ob, 0, none⟩ = false := (by simp [World.frozen?, hbo3]); have HB3 := Lib.hid hbo3; have HO1 := Lib.hid (And.intro ho hg); clear ho hb hg hat hbo3)
                    have hl2 : (ds ++ [x]).length = ds.length + 1 := by simp
                    have hg2 : w2.grownBy (w2.setCell ⟨ob, 0, none⟩ (.slice A1 (ds.length + 1) c1)) (some ob) := Pd.gb_cnt _ _ _
                    have hgw : w1.grownBy W4 none := HW4.out ▸ World.grownBy_alloc w1 _ none
                    have HRG := Lib.hid (((HN.out.2.kept hgw (by simp) (by simp)).kept HO1.out.2 (HNE.out _ (by omega)) (HNE.out _ (by omega))).kept hg2 (fun e => by have := Option.some.inj e; omega) (fun e => by have := Option.some.inj e; omega))
                    have HG2 := Lib.hid (And.intro hg2 hl2)
                    clear hg2 hl2 hgw
                    go_roundw
                    case rel =>
                      refine ⟨left1, cnt1, ds ++ [x], A1, c1, ⟨HRG.out, ?_, ?_, ?_⟩⟩
                      · rw [HG2.out.2]; exact holiday_List.box_set HB3.out
                      · rw [HG2.out.2]
                        have := HO1.out.1
                        rw [HG2.out.2] at this
                        exact Kd.R_mono (Kd.R_move (Kd.R_bound this) (fun q hq => HG2.out.1.block q hq.2.2.1 (fun e => by have := Option.some.inj e; have := hq.2.1; omega))) (fun _ _ => trivial)
                      · exact ((HX.out.2.grown HO1.out.2 HX.out.2.size (fun q hq => Classical.byContradiction fun hn => HNE.out q (by omega) hq.symm))).grown HG2.out.1 (Nat.le_trans HX.out.2.size HO1.out.2.size) (fun q hq => by have := Option.some.inj hq; omega)
                    case measure => rw [HRG.out.rg.left_eq, HL.out.1.rg.left_eq]; exact HN.out.1
                  · have hbo := HL.out.2.1
                    have eo : wr.cell? ⟨ob, 0, none⟩ = some (.slice A ds.length c) := by simp [World.cell?, hbo]
                    have HC := Lib.hid (holiday_List.sorted_call hbo HL.out.2.2.1 HL.out.2.2.2 how HL.out.1.nd (HL.out.1.done hl0) (Nat.le_trans HL.out.1.len HG.out.2))
                    clear hbo HL
                    go_wp2_with (go_at_call 22; (with_reducible refine HC.out.mono ?_); rintro e w' ⟨rfl, ez, hR, hB⟩; have HRN := Lib.hid hR; have HBN := Lib.hid hB; clear hR hB)
                    go_ret2
                    exact ⟨_, rfl, HRN.out, HBN.out⟩
          · cases hf

end Go.Proofs.Ytegedhnbmclbkaa.PX
