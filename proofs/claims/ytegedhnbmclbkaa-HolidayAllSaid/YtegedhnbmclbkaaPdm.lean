/- The library's unstable sort, walked, a row of elements of k cells; the function that compares may make memory. Here: the library's entry, a slice of dates. Condition: the function that compares answers by an order of what lies in the row, and changes nothing that was there. -/
import Derived.Test.YtegedhnbmclbkaaPdk
import Derived.Shelf.GgSortFunc.SmallK
namespace Go.Proofs.Ytegedhnbmclbkaa.Pd
open Go.Shelf Go.RowKit Go.Lib Go.Sort
set_option linter.unusedVariables false
set_option linter.unusedSimpArgs false
noncomputable def iT : TypeInfo := (Try.prog.info? 26).get (by kernel_rfl)
noncomputable def iE : TypeInfo := (Try.prog.info? 33).get (by kernel_rfl)
theorem iK (n : Nat) (h2 : 2 ≤ n) : Lib.swapperK n iE 25 = 9 := by
  have a : iE.hasPointers = false := by kernel_rfl
  have b : iE.bytes = 24 := by kernel_rfl
  have c : (n == 0) = false := by simp; omega
  have d : (n == 1) = false := by simp; omega
  simp [Lib.swapperK, a, b, c, d]
section
variable {α : Type} [Inhabited α] {enc : α → List Value} {k : Nat} {g sf : Nat} {lb sb : Array Value} {lt : α → α → Bool} {blk off n : Nat}
set_option maxHeartbeats 4000000 in
set_option maxRecDepth 100000 in
theorem slice (hO : SWO lt) (hk : ∀ x, (enc x).length = 3) (h1 : ∀ x, ∀ v ∈ enc x, v.oneCell' = true) {w0 : World} (hless : Less g lb enc 3 lt blk off n w0) (eg : ∀ args w, (callFunc g args).run Try.prog w = .ok (.enter g args) w) (h2 : 2 ≤ n) (hn : n < 4611686018427387904) (c : Nat) (w : World) (d : Array α) (h0 : w0.grownBy w (some blk)) (hH : HoldsK enc 3 w blk off d) (hd : d.size = n) (hblk : blk < w.heap.size) :
    Calls Try.prog 22 #[.iface 26 (.slice (some ⟨blk, off, none⟩) n c), .func (.func g) #[] lb] w fun e w' => e = .returned (.tuple #[]) ∧ ∃ d', Did enc 3 blk off d' w w' ∧ d'.size = n ∧ PermIn 0 n d d' ∧ SortedIn lt 0 n d' := by
  have hf : Try.prog.funcs.findIdx? (·.name == "internal/reflectlite" ++ ".Swapper$" ++ toString (swapperK n iE 25)) = some 58 := by rw [iK _ h2]; kernel_rfl
  have hB : sliceBound Try.prog 33 iE 25 (some ⟨blk, off, none⟩) n c = #[.slice (some ⟨blk, off, none⟩) n c, typeHandle Try.prog 33] := by
    unfold sliceBound; rw [if_neg (swapperK_gt _ _ _ h2)]
  have hsw : SwapSwapsK Try.prog 58 #[.slice (some ⟨blk, off, none⟩) n c, typeHandle Try.prog 33] enc 3 blk off n :=
    swapSwapsK_of_literal false 58 (fun args W => run_callFunc_extern Try.func58 (by kernel_rfl) (by kernel_rfl) (by kernel_rfl) (e := Extern.ReflectliteSwapper.swap false) (by kernel_rfl) args W) 33 iE (by kernel_rfl) enc 3 hk (by kernel_rfl) (fun _ => by kernel_rfl) h1 blk off n c
  have hv := run_valueOf_slice (P := Try.prog) 26 33 iT (by kernel_rfl) (by kernel_rfl) (some ⟨blk, off, none⟩) n c w
  have hs := fun w => run_swapper_slice (P := Try.prog) 26 33 iT iE (by kernel_rfl) (by kernel_rfl) (by kernel_rfl) 25 (fun _ => by kernel_rfl) (some ⟨blk, off, none⟩) n c _ hf w
  have hl := fun a w ha => run_valueLen_slice (P := Try.prog) 26 33 iT (by kernel_rfl) (by kernel_rfl) (by kernel_rfl) a (some ⟨blk, off, none⟩) n c w ha
  have hlim : Lib.bitLen n < 4611686018427387904 := Nat.lt_of_le_of_lt (Lib.bitLen_le n 62 (by omega) (by omega)) (by omega)
  have hS := Lib.hid (fun (W : World) (h0' : w0.grownBy W (some blk)) (hH' : HoldsK enc 3 W blk off d) (hblk' : blk < W.heap.size) => pdqsort hO hk hless eg hsw hn (n + 1) W d 0 n (Lib.bitLen n) (by omega) h0' hH' hd hblk' (Nat.zero_le _) (Nat.le_refl _) hlim (Or.inl rfl))
  have hPS := Lib.hid (pdq_sorts lt hO d 0 n (Lib.bitLen n) true true (Nat.zero_le _) (by omega) (Or.inl rfl))
  have HB := Lib.hid (And.intro h0 (And.intro hH (And.intro hd hblk)))
  have hb := fun w => bits_Len (n : Int) w (by omega) (by omega)
  have wr : IntKind.u64.wrap (n : Int) = n := by simp [IntKind.wrap, IntKind.bits, IntKind.signed]; omega
  clear hsw hf h0 hH hd hblk
  unfold sliceBound at hs hB
  rw [hB] at hs
  clear hB
  generalize (#[.slice (some ⟨blk, off, none⟩) n c, typeHandle Try.prog 33] : Array Value) = B at hs hS
  have hg : Try.prog.globals.size = 0 := by kernel_rfl
  simp only [typeHandle, hg] at hv hl
  go_enter Try.func22, Try.ntmps22
  go_wp2
  rw [run_callFunc_extern Try.func37 (by kernel_rfl) (by kernel_rfl) (by kernel_rfl) (e := fun args => Extern.ReflectliteValue.unpack (args.getD 0 (.tuple #[]))) (by kernel_rfl),
    show Sem.run Try.prog ((fun args : Array Value => Extern.ReflectliteValue.unpack (args.getD 0 (.tuple #[]))) #[.iface 26 (.slice (some ⟨blk, off, none⟩) n c)]) w = _ from hv]
  simp only [Result.andThen]
  rw [Oper.upon_value]
  go_wp2
  rw [run_callFunc_extern Try.func38 (by kernel_rfl) (by kernel_rfl) (by kernel_rfl) (e := Extern.ReflectliteSwapper.swapper "internal/reflectlite" (Extern.ReflectliteValue.valueError "Swapper")) (by kernel_rfl), hs]
  simp only [Result.andThen]
  rw [Oper.upon_value]
  go_wp2
  rw [run_callFunc_extern Try.func39 (by kernel_rfl) (by kernel_rfl) (by kernel_rfl) (e := Extern.ReflectliteValue.method (Extern.ReflectliteValue.valueError "reflectlite.Value.Len" 0) Extern.ReflectliteValue.len) (by kernel_rfl),
    hl _ _ (by simp)]
  simp only [Result.andThen]
  rw [Oper.upon_value]
  have hb2 : Below w.heap.size w ((w.alloc (.cells #[.slice (some ⟨blk, off, none⟩) n c] 26)).alloc (.cells #[.pointer (some ⟨0, 26, none⟩), .pointer (some ⟨w.heap.size, 0, none⟩), .int .u64 151] 68)) := ((Below.refl _ _).alloc (Nat.le_refl _) _).alloc (by simp) _
  have HC := Lib.hid (hS.out _ (gb_trans HB.out.1 (gb_below hb2)) (h_below HB.out.2.1 HB.out.2.2.2 hb2) (Nat.lt_of_lt_of_le HB.out.2.2.2 hb2.size))
  have HB2 := Lib.hid hb2
  clear hb2 hS
  go_wp2_with (first
    | (go_at_call 40; refine (hb _).mono ?_; rintro e w' ⟨rfl, rfl⟩)
    | (go_at_call 41; refine HC.out.mono ?_; rintro e w' ⟨rfl, hD⟩))
  go_end0
  exact ⟨rfl, _, ⟨hD.1, gb_trans (gb_below HB2.out) hD.2, sh_trans (sh_below HB2.out) hD.3⟩, hPS.out.1.1.trans HB.out.2.2.1, hPS.out.1, hPS.out.2⟩
end
theorem insertion0 (v : Value) (lf : Fn) (la lb : Array Value) (f : Nat) (sb : Array Value) (a b : Nat) (h : b ≤ a + 1) (ha : a < 4611686018427387904) (w : World) :
    Calls Try.prog 61 #[.agg #[.func lf la lb, .func (.func f) #[] sb], .int .i64 a, .int .i64 b] w fun e w' => e = .returned (.tuple #[]) ∧ Below w.heap.size w w' := by
  have HW := Lib.hid (show Below w.heap.size w (w.alloc (.cells #[.func lf la lb, .func (.func f) #[] sb] 76)) from (Below.refl _ _).alloc (Nat.le_refl _) _)
  go_enter Try.func61, Try.ntmps61
  go_wp2
  refine wp_loop_rounds 1 ?_
  rw [rounds_succ]
  go_wp2
  all_goals first | (exfalso; omega) | (go_end0; exact ⟨rfl, HW.out⟩)
theorem pdqsort0 (lf : Fn) (la lb : Array Value) (f : Nat) (sb : Array Value) (n : Nat) (h : n ≤ 1) (lim : Int) (w : World) :
    Calls Try.prog 41 #[.agg #[.func lf la lb, .func (.func f) #[] sb], .int .i64 0, .int .i64 n, .int .i64 lim] w fun e w' => e = .returned (.tuple #[]) ∧ Below w.heap.size w w' := by
  have HI := Lib.hid (fun w => insertion0 (.tuple #[]) lf la lb f sb 0 n (by omega) (by omega) w)
  have HW := Lib.hid (show Below w.heap.size w (w.alloc (.cells #[.func lf la lb, .func (.func f) #[] sb] 76)) from (Below.refl _ _).alloc (Nat.le_refl _) _)
  go_enter Try.func41, Try.ntmps41
  go_wp2
  refine wp_loop_rounds 1 ?_
  rw [rounds_succ]
  go_wp2_with (go_at_call 61; refine (HI.out _).mono ?_; rintro e w' ⟨rfl, hB⟩)
  (try simp only [Exit.inBlock, Exit.then]); refine bodyPost_ret (results_none rfl _ _ _) rfl ?_
  exact ⟨rfl, HW.out.trans (hB.mono HW.out.size)⟩
set_option maxHeartbeats 4000000 in
set_option maxRecDepth 100000 in
theorem slice0 (lf : Fn) (la lb : Array Value) (p : Option Addr) (n c : Nat) (hn : n ≤ 1) (w : World) :
    Calls Try.prog 22 #[.iface 26 (.slice p n c), .func lf la lb] w fun e w' => e = .returned (.tuple #[]) ∧ Below w.heap.size w w' := by
  obtain ⟨f, hf⟩ : ∃ f, Try.prog.funcs.findIdx? (·.name == "internal/reflectlite" ++ ".Swapper$" ++ toString (swapperK n iE 25)) = some f := by
    by_cases h1 : n = 0
    · subst h1; exact ⟨50, by kernel_rfl⟩
    · obtain rfl : n = 1 := by omega
      exact ⟨51, by kernel_rfl⟩
  have hv := run_valueOf_slice (P := Try.prog) 26 33 iT (by kernel_rfl) (by kernel_rfl) p n c w
  have hs := fun w => run_swapper_slice (P := Try.prog) 26 33 iT iE (by kernel_rfl) (by kernel_rfl) (by kernel_rfl) 25 (fun _ => by kernel_rfl) p n c f hf w
  have hl := fun a w ha => run_valueLen_slice (P := Try.prog) 26 33 iT (by kernel_rfl) (by kernel_rfl) (by kernel_rfl) a p n c w ha
  have hb := fun w => bits_Len (n : Int) w (by omega) (by omega)
  have wr : IntKind.u64.wrap (n : Int) = n := by simp [IntKind.wrap, IntKind.bits, IntKind.signed]; omega
  clear hf
  generalize (if swapperK n iE 25 ≤ 2 then (#[] : Array Value) else #[.slice p n c, typeHandle Try.prog 33]) = B at hs
  have HI := Lib.hid (fun lim w => pdqsort0 lf la lb f B n hn lim w)
  have hg : Try.prog.globals.size = 0 := by kernel_rfl
  simp only [typeHandle, hg] at hv hl
  go_enter Try.func22, Try.ntmps22
  go_wp2
  rw [run_callFunc_extern Try.func37 (by kernel_rfl) (by kernel_rfl) (by kernel_rfl) (e := fun args => Extern.ReflectliteValue.unpack (args.getD 0 (.tuple #[]))) (by kernel_rfl),
    show Sem.run Try.prog ((fun args : Array Value => Extern.ReflectliteValue.unpack (args.getD 0 (.tuple #[]))) #[.iface 26 (.slice p n c)]) w = _ from hv]
  simp only [Result.andThen]
  rw [Oper.upon_value]
  go_wp2
  rw [run_callFunc_extern Try.func38 (by kernel_rfl) (by kernel_rfl) (by kernel_rfl) (e := Extern.ReflectliteSwapper.swapper "internal/reflectlite" (Extern.ReflectliteValue.valueError "Swapper")) (by kernel_rfl), hs]
  simp only [Result.andThen]
  rw [Oper.upon_value]
  go_wp2
  rw [run_callFunc_extern Try.func39 (by kernel_rfl) (by kernel_rfl) (by kernel_rfl) (e := Extern.ReflectliteValue.method (Extern.ReflectliteValue.valueError "reflectlite.Value.Len" 0) Extern.ReflectliteValue.len) (by kernel_rfl),
    hl _ _ (by simp)]
  simp only [Result.andThen]
  rw [Oper.upon_value]
  have HB2 := Lib.hid (show Below w.heap.size w ((w.alloc (.cells #[.slice p n c] 26)).alloc (.cells #[.pointer (some ⟨0, 26, none⟩), .pointer (some ⟨w.heap.size, 0, none⟩), .int .u64 151] 68)) from ((Below.refl _ _).alloc (Nat.le_refl _) _).alloc (by simp) _)
  go_wp2_with (first
    | (go_at_call 40; refine (hb _).mono ?_; rintro e w' ⟨rfl, rfl⟩)
    | (go_at_call 41; refine (HI.out _ _).mono ?_; rintro e w' ⟨rfl, hD⟩))
  go_end0
  exact ⟨rfl, HB2.out.trans (hD.mono HB2.out.size)⟩
end Go.Proofs.Ytegedhnbmclbkaa.Pd
