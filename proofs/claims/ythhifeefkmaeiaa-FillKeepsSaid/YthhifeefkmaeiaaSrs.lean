/- The library's stable sort of a slice of whole numbers, whole: the row ends in order by the key, greater keys first, of equal keys the one that stood ahead; the row held its places' numbers. -/
import Derived.Test.YthhifeefkmaeiaaSrz
namespace Go.Proofs.Ythhifeefkmaeiaa.Srw
open Go.Shelf Go.RowKit Go.Lib Go.Sort Go.Proofs.Ythhifeefkmaeiaa.Stb
set_option linter.unusedVariables false
set_option linter.unusedSimpArgs false
noncomputable def iT : TypeInfo := (Try.prog.info? 51).get (by kernel_rfl)
noncomputable def iE : TypeInfo := (Try.prog.info? 3).get (by kernel_rfl)
theorem iK (n : Nat) (h2 : 2 ≤ n) : Lib.swapperK n iE 2 = 5 := by
  have a : iE.hasPointers = false := by kernel_rfl
  have b : iE.bytes = 8 := by kernel_rfl
  have c : (n == 0) = false := by simp; omega
  have d : (n == 1) = false := by simp; omega
  simp [Lib.swapperK, a, b, c, d]
section
variable {g : Nat} {lb : Array Value} {key : Int → Int} {blk off n : Nat}
set_option maxHeartbeats 4000000 in
set_option maxRecDepth 100000 in
theorem sliceStable {w0 : World} (hless : Less g lb key blk off n w0) (eg : ∀ args w, (callFunc g args).run Try.prog w = .ok (.enter g args) w) (hn : n < 1152921504606846976) (c : Nat) (w : World) (d : Array Int) (h0 : w0.grownBy w (some blk)) (hH : Holds enc w blk off d) (hd : d.size = n) (hblk : blk < w.heap.size) (hid : ∀ t, t < n → d[t]! = t) :
    Calls Try.prog 27 #[.iface 51 (.slice (some ⟨blk, off, none⟩) n c), .func (.func g) #[] lb] w fun e w' => e = .returned (.tuple #[]) ∧ ∃ d', Did blk off d' w w' ∧ d'.size = n ∧ PermIn 0 n d d' ∧ SortedIn (ltT key) 0 n d' := by
  obtain ⟨f, hf, hsw⟩ : ∃ f, Try.prog.funcs.findIdx? (·.name == "internal/reflectlite" ++ ".Swapper$" ++ toString (swapperK n iE 2)) = some f ∧ (2 ≤ n → SwapSwaps Try.prog f (sliceBound Try.prog 3 iE 2 (some ⟨blk, off, none⟩) n c) enc blk off n) := by
    by_cases h2 : 2 ≤ n
    · refine ⟨44, by rw [iK _ h2]; kernel_rfl, fun _ => ?_⟩
      have hB : sliceBound Try.prog 3 iE 2 (some ⟨blk, off, none⟩) n c = #[.slice (some ⟨blk, off, none⟩) n c, typeHandle Try.prog 3] := by
        unfold sliceBound; rw [if_neg (swapperK_gt _ _ _ h2)]
      rw [hB]
      exact swapSwaps_of_literal true 44 (fun args W => run_callFunc_extern Try.func44 (by kernel_rfl) (by kernel_rfl) (by kernel_rfl) (e := Extern.ReflectliteSwapper.swap true) (by kernel_rfl) args W) 3 iE (by kernel_rfl) (by kernel_rfl) (fun _ => by kernel_rfl) enc (fun _ => rfl) blk off n c
    · by_cases h1 : n = 0
      · subst h1; exact ⟨40, by kernel_rfl, fun h => by omega⟩
      · obtain rfl : n = 1 := by omega
        exact ⟨41, by kernel_rfl, fun h => by omega⟩
  have hv := run_valueOf_slice (P := Try.prog) 51 3 iT (by kernel_rfl) (by kernel_rfl) (some ⟨blk, off, none⟩) n c w
  have hs := fun w => run_swapper_slice (P := Try.prog) 51 3 iT iE (by kernel_rfl) (by kernel_rfl) (by kernel_rfl) 2 (fun _ => by kernel_rfl) (some ⟨blk, off, none⟩) n c f hf w
  have hl := fun a w ha => run_valueLen_slice (P := Try.prog) 51 3 iT (by kernel_rfl) (by kernel_rfl) (by kernel_rfl) a (some ⟨blk, off, none⟩) n c w ha
  have hS := Lib.hid (fun W d h0 hH hd hblk hid => stable (W := W) (d := d) hless eg hsw hn h0 hH hd hblk hid)
  have HB := Lib.hid (And.intro h0 (And.intro hH (And.intro hd (And.intro hblk hid))))
  clear hsw hf h0 hH hd hblk hid
  unfold sliceBound at hS hs
  generalize (if swapperK n iE 2 ≤ 2 then (#[] : Array Value) else #[.slice (some ⟨blk, off, none⟩) n c, typeHandle Try.prog 3]) = B at hs hS
  have hg : Try.prog.globals.size = 0 := by kernel_rfl
  simp only [typeHandle, hg] at hv hl
  go_enter Try.func27, Try.ntmps27
  go_wp2
  rw [run_callFunc_extern Try.func35 (by kernel_rfl) (by kernel_rfl) (by kernel_rfl) (e := fun args => Extern.ReflectliteValue.unpack (args.getD 0 (.tuple #[]))) (by kernel_rfl),
    show Sem.run Try.prog ((fun args : Array Value => Extern.ReflectliteValue.unpack (args.getD 0 (.tuple #[]))) #[.iface 51 (.slice (some ⟨blk, off, none⟩) n c)]) w = _ from hv]
  simp only [Result.andThen]
  rw [Oper.upon_value]
  go_wp2
  rw [run_callFunc_extern Try.func36 (by kernel_rfl) (by kernel_rfl) (by kernel_rfl) (e := Extern.ReflectliteSwapper.swapper "internal/reflectlite" (Extern.ReflectliteValue.valueError "Swapper")) (by kernel_rfl), hs]
  simp only [Result.andThen]
  rw [Oper.upon_value]
  go_wp2
  rw [run_callFunc_extern Try.func38 (by kernel_rfl) (by kernel_rfl) (by kernel_rfl) (e := Extern.ReflectliteValue.method (Extern.ReflectliteValue.valueError "reflectlite.Value.Len" 0) Extern.ReflectliteValue.len) (by kernel_rfl),
    hl _ _ (by simp)]
  simp only [Result.andThen]
  rw [Oper.upon_value]
  have hb2 : Below w.heap.size w ((w.alloc (.cells #[.slice (some ⟨blk, off, none⟩) n c] 51)).alloc (.cells #[.pointer (some ⟨0, 51, none⟩), .pointer (some ⟨w.heap.size, 0, none⟩), .int .u64 151] 67)) := ((Below.refl _ _).alloc (Nat.le_refl _) _).alloc (by simp) _
  have HC := Lib.hid (hS.out _ d (gb_trans HB.out.1 (gb_below hb2)) (h_below HB.out.2.1 HB.out.2.2.2.1 hb2) HB.out.2.2.1 (Nat.lt_of_lt_of_le HB.out.2.2.2.1 hb2.size) HB.out.2.2.2.2)
  have HB2 := Lib.hid hb2
  clear hb2 hS
  go_wp2_with (go_at_call 37; refine HC.out.mono ?_; rintro e w' ⟨rfl, d', hD, hs', hP, hSS⟩)
  go_end0
  exact ⟨rfl, d', ⟨hD.1, gb_trans (gb_below HB2.out) hD.2⟩, hs', hP, hSS⟩
end
end Go.Proofs.Ythhifeefkmaeiaa.Srw
