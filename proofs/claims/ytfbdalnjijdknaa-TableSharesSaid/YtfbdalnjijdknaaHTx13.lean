/- What Go functions do, each as a plain Lean function with the same answers, and the proof of it, in every world: printed by the session's driver over the kit's print, with texts by hand. -/
import Derived.Test.YtfbdalnjijdknaaHTx0
import Derived.Test.YtfbdalnjijdknaaHTx12
namespace Go.Proofs.Ytfbdalnjijdknaa.HT
open Go.RowKit Go.Proofs.YtfbdalnjijdknaaW.PrintWords Go.Proofs.YtfbdalnjijdknaaW.PrintLast Go.Proofs.YtfbdalnjijdknaaW.PrintMore
attribute [local go_sem] max2_int min2_int max_two min_two max_three min_three max_four min_four   -- for this text's walks alone
open Go.Proofs.Ytfbdalnjijdknaa.Sp
attribute [local go_sem] Go.Proofs.Ytfbdalnjijdknaa.Sp.u64_not
set_option linter.unusedVariables false
set_option linter.unusedSimpArgs false

/-! ### thrumref13_Rows: function 60 -/
theorem thrumref13_Root.at_314317453456834560 : thrumref13_Root.f (IntKind.u64.wrap 314317453456834560) = some 560640217 := by decide +kernel
theorem thrumref13_Root.at_342765613334134784 : thrumref13_Root.f (IntKind.u64.wrap 342765613334134784) = some 585461880 := by decide +kernel
theorem thrumref13_Root.at_373788551207549160 : thrumref13_Root.f (IntKind.u64.wrap 373788551207549160) = some 611382491 := by decide +kernel
theorem thrumref13_Root.at_407619306507993088 : thrumref13_Root.f (IntKind.u64.wrap 407619306507993088) = some 638450707 := by decide +kernel
theorem thrumref13_Root.at_444512004437301131 : thrumref13_Root.f (IntKind.u64.wrap 444512004437301131) = some 666717334 := by decide +kernel
theorem thrumref13_Root.at_484743778457637668 : thrumref13_Root.f (IntKind.u64.wrap 484743778457637668) = some 696235433 := by decide +kernel
theorem thrumref13_Root.at_528616838838443692 : thrumref13_Root.f (IntKind.u64.wrap 528616838838443692) = some 727060409 := by decide +kernel
theorem thrumref13_Root.at_576460752303423488 : thrumref13_Root.f (IntKind.u64.wrap 576460752303423488) = some 759250124 := by decide +kernel
theorem thrumref13_Root.at_628634906129798244 : thrumref13_Root.f (IntKind.u64.wrap 628634906129798244) = some 792864998 := by decide +kernel
theorem thrumref13_Root.at_685531226722800600 : thrumref13_Root.f (IntKind.u64.wrap 685531226722800600) = some 827968131 := by decide +kernel
theorem thrumref13_Root.at_747577103499840150 : thrumref13_Root.f (IntKind.u64.wrap 747577103499840150) = some 864625412 := by decide +kernel
theorem thrumref13_Root.at_815238613015986176 : thrumref13_Root.f (IntKind.u64.wrap 815238613015986176) = some 902905650 := by decide +kernel
theorem thrumref13_Root.at_889024011054300450 : thrumref13_Root.f (IntKind.u64.wrap 889024011054300450) = some 942880698 := by decide +kernel
theorem thrumref13_Root.at_969487559530905600 : thrumref13_Root.f (IntKind.u64.wrap 969487559530905600) = some 984625593 := by decide +kernel
theorem thrumref13_Root.at_1057233680184901632 : thrumref13_Root.f (IntKind.u64.wrap 1057233680184901632) = some 1028218692 := by decide +kernel
def thrumref13_Rows.f : Option (List Int) := some tabL
set_option maxHeartbeats 8000000 in
set_option maxRecDepth 100000 in
theorem thrumref13_Rows.calls  (r : List Int) (w : World) (h : thrumref13_Rows.f  = some r) :
    Calls Try.prog 60 #[] w fun e w' => ∃ v0_ : Value, e = .returned (v0_) ∧ Kd.R (Kd.int .u64) 49 w' w.heap.size (fun _ => True) v0_ r ∧ Below w.heap.size w w' := by
  cases h
  have hm17 : madeCells #[Value.int .u64 0] 17 = (#[.int .u64 0, .int .u64 0, .int .u64 0, .int .u64 0, .int .u64 0, .int .u64 0, .int .u64 0, .int .u64 0, .int .u64 0, .int .u64 0, .int .u64 0, .int .u64 0, .int .u64 0, .int .u64 0, .int .u64 0, .int .u64 0, .int .u64 0] : Array Value) := by kernel_rfl
  have hmk : ∀ w : World, (Instr.makeSlice 56 (.int .i64 17) (.int .i64 17)).run Try.prog w = .ok (.slice (some ⟨w.heap.size, 0, none⟩) 17 17) (w.alloc (.cells #[.int .u64 0, .int .u64 0, .int .u64 0, .int .u64 0, .int .u64 0, .int .u64 0, .int .u64 0, .int .u64 0, .int .u64 0, .int .u64 0, .int .u64 0, .int .u64 0, .int .u64 0, .int .u64 0, .int .u64 0, .int .u64 0, .int .u64 0] 49)) := fun w => by have h := print_make (P := Try.prog) 56 49 .u64 8 Try.underlying56 info49 (by decide) 17 (by decide) w; rw [hm17] at h; exact h
  clear hm17
  have hu1 := Try.underlying56
  have hu2 := Try.underlying116
  go_enter Try.func60, Try.ntmps60
  go_wp2_with fail
  go_loopw [12] (fun v W => ((v = .int .i64 0 ∧ Aside0 (Kd.R (Kd.int .u64) 49 W w.heap.size (fun _ => True) (.slice (some ⟨w.heap.size, 0, none⟩) 17 17) ([1073741824, 0, 0, 0, 0, 0, 0, 0, 0, 0, 0, 0, 0, 0, 0, 0, 536870912] : List Int))) ∨ (v = .int .i64 1 ∧ Aside0 (Kd.R (Kd.int .u64) 49 W w.heap.size (fun _ => True) (.slice (some ⟨w.heap.size, 0, none⟩) 17 17) ([1073741824, 0, 0, 0, 0, 0, 0, 0, 759250124, 0, 0, 0, 0, 0, 0, 0, 536870912] : List Int))) ∨ (v = .int .i64 2 ∧ Aside0 (Kd.R (Kd.int .u64) 49 W w.heap.size (fun _ => True) (.slice (some ⟨w.heap.size, 0, none⟩) 17 17) ([1073741824, 0, 0, 0, 902905650, 0, 0, 0, 759250124, 0, 0, 0, 638450707, 0, 0, 0, 536870912] : List Int))) ∨ (v = .int .i64 3 ∧ Aside0 (Kd.R (Kd.int .u64) 49 W w.heap.size (fun _ => True) (.slice (some ⟨w.heap.size, 0, none⟩) 17 17) ([1073741824, 0, 984625593, 0, 902905650, 0, 827968131, 0, 759250124, 0, 696235433, 0, 638450707, 0, 585461880, 0, 536870912] : List Int))) ∨ (v = .int .i64 4 ∧ Aside0 (Kd.R (Kd.int .u64) 49 W w.heap.size (fun _ => True) (.slice (some ⟨w.heap.size, 0, none⟩) 17 17) ([1073741824, 1028218692, 984625593, 942880698, 902905650, 864625412, 827968131, 792864998, 759250124, 727060409, 696235433, 666717334, 638450707, 611382491, 585461880, 560640217, 536870912] : List Int)))) ∧ Aside0 (Below w.heap.size w W) ∧ Aside0 (W.cell? ⟨w.heap.size + 1, 0, none⟩ = some (.int .i64 8) ∧ W.cell? ⟨w.heap.size + 1, 1, none⟩ = some (.int .i64 4) ∧ W.cell? ⟨w.heap.size + 1, 2, none⟩ = some (.int .i64 2) ∧ W.cell? ⟨w.heap.size + 1, 3, none⟩ = some (.int .i64 1))) (fun v _ => 8 - (intOf v).toNat)
  case atStart => exact ⟨(.inl ⟨rfl, ⟨Kd.R_alloc (arr_R w 49 _ [1073741824, 0, 0, 0, 0, 0, 0, 0, 0, 0, 0, 0, 0, 0, 0, 0, 536870912] rfl rfl) _⟩⟩), ⟨below_alloc (below_alloc (Below.refl _ _) _) _⟩, ⟨by simp [go_sem], by simp [go_sem], by simp [go_sem], by simp [go_sem]⟩⟩
  case round =>
    obtain ⟨h, HB, HC⟩ := hrel
    have hc0 := HC.out.1
    have hc1 := HC.out.2.1
    have hc2 := HC.out.2.2.1
    have hc3 := HC.out.2.2.2
    rcases h with ⟨rfl, HO⟩ | ⟨rfl, HO⟩ | ⟨rfl, HO⟩ | ⟨rfl, HO⟩ | ⟨rfl, HO⟩
    · go_wp2_with fail
      go_loopw [4] (fun v W => ((v = .int .i64 8 ∧ Aside0 (Kd.R (Kd.int .u64) 49 W w.heap.size (fun _ => True) (.slice (some ⟨w.heap.size, 0, none⟩) 17 17) ([1073741824, 0, 0, 0, 0, 0, 0, 0, 0, 0, 0, 0, 0, 0, 0, 0, 536870912] : List Int))) ∨ (v = .int .i64 24 ∧ Aside0 (Kd.R (Kd.int .u64) 49 W w.heap.size (fun _ => True) (.slice (some ⟨w.heap.size, 0, none⟩) 17 17) ([1073741824, 0, 0, 0, 0, 0, 0, 0, 759250124, 0, 0, 0, 0, 0, 0, 0, 536870912] : List Int)))) ∧ Aside0 (Below w.heap.size w W) ∧ Aside0 (W.cell? ⟨w.heap.size + 1, 0, none⟩ = some (.int .i64 8) ∧ W.cell? ⟨w.heap.size + 1, 1, none⟩ = some (.int .i64 4) ∧ W.cell? ⟨w.heap.size + 1, 2, none⟩ = some (.int .i64 2) ∧ W.cell? ⟨w.heap.size + 1, 3, none⟩ = some (.int .i64 1))) (fun v _ => 64 - (intOf v).toNat)
      case atStart => exact ⟨(.inl ⟨rfl, HO⟩), HB, HC⟩
      case round =>
        clear HO HB HC hc0 hc1 hc2 hc3
        obtain ⟨h, HB, HC⟩ := hrel
        rcases h with ⟨rfl, HO⟩ | ⟨rfl, HO⟩
        · go_wp2
          have hx0 : wr.cell? ⟨w.heap.size, 0, none⟩ = some (.int .u64 1073741824) := (Kd.R_celln 0 HO.out 0 (by decide) (by decide)).1
          have hx1 : wr.cell? ⟨w.heap.size, 16, none⟩ = some (.int .u64 536870912) := (Kd.R_celln 0 HO.out 16 (by decide) (by decide)).1
          have hx2 : wr.cell? ⟨w.heap.size, 8, none⟩ = some (.int .u64 0) := (Kd.R_celln 0 HO.out 8 (by decide) (by decide)).1
          have hf2 : wr.frozen? ⟨w.heap.size, 8, none⟩ = false := (Kd.R_celln 0 HO.out 8 (by decide) (by decide)).2
          have hw0 : IntKind.i64.wrap 0 = 0 := rfl
          have hw1 : IntKind.i64.wrap 16 = 16 := rfl
          go_region_held3 (fun w' => w'.cell? ⟨w.heap.size, 0, none⟩ = some (.int .u64 1073741824) ∧ w'.cell? ⟨w.heap.size, 16, none⟩ = some (.int .u64 536870912)) (first | go_keep | (exact ⟨cell_set_ne hx0 (by decide), cell_set_ne hx1 (by decide)⟩)) ((go_at_call 57; (with_reducible refine (thrumref13_Root.calls (IntKind.u64.wrap 576460752303423488) 759250124 _ thrumref13_Root.at_576460752303423488).mono ?_); rintro ed W2 ⟨rfl, ⟨nd, rfl⟩⟩))
          go_wp2
          have hb : Below wr.heap.size wr (wr.drewN (1 + nd)) := pw_below_drewN (Below.refl _ _) _
          have hp := Kd.R_putg (Kd.R_below HO.out hb) 8 759250124
          exact ⟨⟨(.inr ⟨rfl, ⟨hp.1⟩⟩), ⟨below_set (below_then HB.out HB.out.size hb) (Nat.le_refl _)⟩, ⟨cell_set_blk HC.out.1 (by omega), cell_set_blk HC.out.2.1 (by omega), cell_set_blk HC.out.2.2.1 (by omega), cell_set_blk HC.out.2.2.2 (by omega)⟩⟩, by simp [intOf]⟩
        · go_wp2
          exact ⟨⟨(.inr (.inl ⟨rfl, HO⟩)), HB, HC⟩, by simp [intOf]⟩
    · go_wp2_with fail
      go_loopw [4] (fun v W => ((v = .int .i64 4 ∧ Aside0 (Kd.R (Kd.int .u64) 49 W w.heap.size (fun _ => True) (.slice (some ⟨w.heap.size, 0, none⟩) 17 17) ([1073741824, 0, 0, 0, 0, 0, 0, 0, 759250124, 0, 0, 0, 0, 0, 0, 0, 536870912] : List Int))) ∨ (v = .int .i64 12 ∧ Aside0 (Kd.R (Kd.int .u64) 49 W w.heap.size (fun _ => True) (.slice (some ⟨w.heap.size, 0, none⟩) 17 17) ([1073741824, 0, 0, 0, 902905650, 0, 0, 0, 759250124, 0, 0, 0, 0, 0, 0, 0, 536870912] : List Int))) ∨ (v = .int .i64 20 ∧ Aside0 (Kd.R (Kd.int .u64) 49 W w.heap.size (fun _ => True) (.slice (some ⟨w.heap.size, 0, none⟩) 17 17) ([1073741824, 0, 0, 0, 902905650, 0, 0, 0, 759250124, 0, 0, 0, 638450707, 0, 0, 0, 536870912] : List Int)))) ∧ Aside0 (Below w.heap.size w W) ∧ Aside0 (W.cell? ⟨w.heap.size + 1, 0, none⟩ = some (.int .i64 8) ∧ W.cell? ⟨w.heap.size + 1, 1, none⟩ = some (.int .i64 4) ∧ W.cell? ⟨w.heap.size + 1, 2, none⟩ = some (.int .i64 2) ∧ W.cell? ⟨w.heap.size + 1, 3, none⟩ = some (.int .i64 1))) (fun v _ => 64 - (intOf v).toNat)
      case atStart => exact ⟨(.inl ⟨rfl, HO⟩), HB, HC⟩
      case round =>
        clear HO HB HC hc0 hc1 hc2 hc3
        obtain ⟨h, HB, HC⟩ := hrel
        rcases h with ⟨rfl, HO⟩ | ⟨rfl, HO⟩ | ⟨rfl, HO⟩
        · go_wp2
          have hx0 : wr.cell? ⟨w.heap.size, 0, none⟩ = some (.int .u64 1073741824) := (Kd.R_celln 0 HO.out 0 (by decide) (by decide)).1
          have hx1 : wr.cell? ⟨w.heap.size, 8, none⟩ = some (.int .u64 759250124) := (Kd.R_celln 0 HO.out 8 (by decide) (by decide)).1
          have hx2 : wr.cell? ⟨w.heap.size, 4, none⟩ = some (.int .u64 0) := (Kd.R_celln 0 HO.out 4 (by decide) (by decide)).1
          have hf2 : wr.frozen? ⟨w.heap.size, 4, none⟩ = false := (Kd.R_celln 0 HO.out 4 (by decide) (by decide)).2
          have hw0 : IntKind.i64.wrap 0 = 0 := rfl
          have hw1 : IntKind.i64.wrap 8 = 8 := rfl
          go_region_held3 (fun w' => w'.cell? ⟨w.heap.size, 0, none⟩ = some (.int .u64 1073741824) ∧ w'.cell? ⟨w.heap.size, 8, none⟩ = some (.int .u64 759250124)) (first | go_keep | (exact ⟨cell_set_ne hx0 (by decide), cell_set_ne hx1 (by decide)⟩)) ((go_at_call 57; (with_reducible refine (thrumref13_Root.calls (IntKind.u64.wrap 815238613015986176) 902905650 _ thrumref13_Root.at_815238613015986176).mono ?_); rintro ed W2 ⟨rfl, ⟨nd, rfl⟩⟩))
          go_wp2
          have hb : Below wr.heap.size wr (wr.drewN (1 + nd)) := pw_below_drewN (Below.refl _ _) _
          have hp := Kd.R_putg (Kd.R_below HO.out hb) 4 902905650
          exact ⟨⟨(.inr (.inl ⟨rfl, ⟨hp.1⟩⟩)), ⟨below_set (below_then HB.out HB.out.size hb) (Nat.le_refl _)⟩, ⟨cell_set_blk HC.out.1 (by omega), cell_set_blk HC.out.2.1 (by omega), cell_set_blk HC.out.2.2.1 (by omega), cell_set_blk HC.out.2.2.2 (by omega)⟩⟩, by simp [intOf]⟩
        · go_wp2
          have hx0 : wr.cell? ⟨w.heap.size, 8, none⟩ = some (.int .u64 759250124) := (Kd.R_celln 0 HO.out 8 (by decide) (by decide)).1
          have hx1 : wr.cell? ⟨w.heap.size, 16, none⟩ = some (.int .u64 536870912) := (Kd.R_celln 0 HO.out 16 (by decide) (by decide)).1
          have hx2 : wr.cell? ⟨w.heap.size, 12, none⟩ = some (.int .u64 0) := (Kd.R_celln 0 HO.out 12 (by decide) (by decide)).1
          have hf2 : wr.frozen? ⟨w.heap.size, 12, none⟩ = false := (Kd.R_celln 0 HO.out 12 (by decide) (by decide)).2
          have hw0 : IntKind.i64.wrap 8 = 8 := rfl
          have hw1 : IntKind.i64.wrap 16 = 16 := rfl
          go_region_held3 (fun w' => w'.cell? ⟨w.heap.size, 8, none⟩ = some (.int .u64 759250124) ∧ w'.cell? ⟨w.heap.size, 16, none⟩ = some (.int .u64 536870912)) (first | go_keep | (exact ⟨cell_set_ne hx0 (by decide), cell_set_ne hx1 (by decide)⟩)) ((go_at_call 57; (with_reducible refine (thrumref13_Root.calls (IntKind.u64.wrap 407619306507993088) 638450707 _ thrumref13_Root.at_407619306507993088).mono ?_); rintro ed W2 ⟨rfl, ⟨nd, rfl⟩⟩))
          go_wp2
          have hb : Below wr.heap.size wr (wr.drewN (1 + nd)) := pw_below_drewN (Below.refl _ _) _
          have hp := Kd.R_putg (Kd.R_below HO.out hb) 12 638450707
          exact ⟨⟨(.inr (.inr ⟨rfl, ⟨hp.1⟩⟩)), ⟨below_set (below_then HB.out HB.out.size hb) (Nat.le_refl _)⟩, ⟨cell_set_blk HC.out.1 (by omega), cell_set_blk HC.out.2.1 (by omega), cell_set_blk HC.out.2.2.1 (by omega), cell_set_blk HC.out.2.2.2 (by omega)⟩⟩, by simp [intOf]⟩
        · go_wp2
          exact ⟨⟨(.inr (.inr (.inl ⟨rfl, HO⟩))), HB, HC⟩, by simp [intOf]⟩
    · go_wp2_with fail
      go_loopw [4] (fun v W => ((v = .int .i64 2 ∧ Aside0 (Kd.R (Kd.int .u64) 49 W w.heap.size (fun _ => True) (.slice (some ⟨w.heap.size, 0, none⟩) 17 17) ([1073741824, 0, 0, 0, 902905650, 0, 0, 0, 759250124, 0, 0, 0, 638450707, 0, 0, 0, 536870912] : List Int))) ∨ (v = .int .i64 6 ∧ Aside0 (Kd.R (Kd.int .u64) 49 W w.heap.size (fun _ => True) (.slice (some ⟨w.heap.size, 0, none⟩) 17 17) ([1073741824, 0, 984625593, 0, 902905650, 0, 0, 0, 759250124, 0, 0, 0, 638450707, 0, 0, 0, 536870912] : List Int))) ∨ (v = .int .i64 10 ∧ Aside0 (Kd.R (Kd.int .u64) 49 W w.heap.size (fun _ => True) (.slice (some ⟨w.heap.size, 0, none⟩) 17 17) ([1073741824, 0, 984625593, 0, 902905650, 0, 827968131, 0, 759250124, 0, 0, 0, 638450707, 0, 0, 0, 536870912] : List Int))) ∨ (v = .int .i64 14 ∧ Aside0 (Kd.R (Kd.int .u64) 49 W w.heap.size (fun _ => True) (.slice (some ⟨w.heap.size, 0, none⟩) 17 17) ([1073741824, 0, 984625593, 0, 902905650, 0, 827968131, 0, 759250124, 0, 696235433, 0, 638450707, 0, 0, 0, 536870912] : List Int))) ∨ (v = .int .i64 18 ∧ Aside0 (Kd.R (Kd.int .u64) 49 W w.heap.size (fun _ => True) (.slice (some ⟨w.heap.size, 0, none⟩) 17 17) ([1073741824, 0, 984625593, 0, 902905650, 0, 827968131, 0, 759250124, 0, 696235433, 0, 638450707, 0, 585461880, 0, 536870912] : List Int)))) ∧ Aside0 (Below w.heap.size w W) ∧ Aside0 (W.cell? ⟨w.heap.size + 1, 0, none⟩ = some (.int .i64 8) ∧ W.cell? ⟨w.heap.size + 1, 1, none⟩ = some (.int .i64 4) ∧ W.cell? ⟨w.heap.size + 1, 2, none⟩ = some (.int .i64 2) ∧ W.cell? ⟨w.heap.size + 1, 3, none⟩ = some (.int .i64 1))) (fun v _ => 64 - (intOf v).toNat)
      case atStart => exact ⟨(.inl ⟨rfl, HO⟩), HB, HC⟩
      case round =>
        clear HO HB HC hc0 hc1 hc2 hc3
        obtain ⟨h, HB, HC⟩ := hrel
        rcases h with ⟨rfl, HO⟩ | ⟨rfl, HO⟩ | ⟨rfl, HO⟩ | ⟨rfl, HO⟩ | ⟨rfl, HO⟩
        · go_wp2
          have hx0 : wr.cell? ⟨w.heap.size, 0, none⟩ = some (.int .u64 1073741824) := (Kd.R_celln 0 HO.out 0 (by decide) (by decide)).1
          have hx1 : wr.cell? ⟨w.heap.size, 4, none⟩ = some (.int .u64 902905650) := (Kd.R_celln 0 HO.out 4 (by decide) (by decide)).1
          have hx2 : wr.cell? ⟨w.heap.size, 2, none⟩ = some (.int .u64 0) := (Kd.R_celln 0 HO.out 2 (by decide) (by decide)).1
          have hf2 : wr.frozen? ⟨w.heap.size, 2, none⟩ = false := (Kd.R_celln 0 HO.out 2 (by decide) (by decide)).2
          have hw0 : IntKind.i64.wrap 0 = 0 := rfl
          have hw1 : IntKind.i64.wrap 4 = 4 := rfl
          go_region_held3 (fun w' => w'.cell? ⟨w.heap.size, 0, none⟩ = some (.int .u64 1073741824) ∧ w'.cell? ⟨w.heap.size, 4, none⟩ = some (.int .u64 902905650)) (first | go_keep | (exact ⟨cell_set_ne hx0 (by decide), cell_set_ne hx1 (by decide)⟩)) ((go_at_call 57; (with_reducible refine (thrumref13_Root.calls (IntKind.u64.wrap 969487559530905600) 984625593 _ thrumref13_Root.at_969487559530905600).mono ?_); rintro ed W2 ⟨rfl, ⟨nd, rfl⟩⟩))
          go_wp2
          have hb : Below wr.heap.size wr (wr.drewN (1 + nd)) := pw_below_drewN (Below.refl _ _) _
          have hp := Kd.R_putg (Kd.R_below HO.out hb) 2 984625593
          exact ⟨⟨(.inr (.inl ⟨rfl, ⟨hp.1⟩⟩)), ⟨below_set (below_then HB.out HB.out.size hb) (Nat.le_refl _)⟩, ⟨cell_set_blk HC.out.1 (by omega), cell_set_blk HC.out.2.1 (by omega), cell_set_blk HC.out.2.2.1 (by omega), cell_set_blk HC.out.2.2.2 (by omega)⟩⟩, by simp [intOf]⟩
        · go_wp2
          have hx0 : wr.cell? ⟨w.heap.size, 4, none⟩ = some (.int .u64 902905650) := (Kd.R_celln 0 HO.out 4 (by decide) (by decide)).1
          have hx1 : wr.cell? ⟨w.heap.size, 8, none⟩ = some (.int .u64 759250124) := (Kd.R_celln 0 HO.out 8 (by decide) (by decide)).1
          have hx2 : wr.cell? ⟨w.heap.size, 6, none⟩ = some (.int .u64 0) := (Kd.R_celln 0 HO.out 6 (by decide) (by decide)).1
          have hf2 : wr.frozen? ⟨w.heap.size, 6, none⟩ = false := (Kd.R_celln 0 HO.out 6 (by decide) (by decide)).2
          have hw0 : IntKind.i64.wrap 4 = 4 := rfl
          have hw1 : IntKind.i64.wrap 8 = 8 := rfl
          go_region_held3 (fun w' => w'.cell? ⟨w.heap.size, 4, none⟩ = some (.int .u64 902905650) ∧ w'.cell? ⟨w.heap.size, 8, none⟩ = some (.int .u64 759250124)) (first | go_keep | (exact ⟨cell_set_ne hx0 (by decide), cell_set_ne hx1 (by decide)⟩)) ((go_at_call 57; (with_reducible refine (thrumref13_Root.calls (IntKind.u64.wrap 685531226722800600) 827968131 _ thrumref13_Root.at_685531226722800600).mono ?_); rintro ed W2 ⟨rfl, ⟨nd, rfl⟩⟩))
          go_wp2
          have hb : Below wr.heap.size wr (wr.drewN (1 + nd)) := pw_below_drewN (Below.refl _ _) _
          have hp := Kd.R_putg (Kd.R_below HO.out hb) 6 827968131
          exact ⟨⟨(.inr (.inr (.inl ⟨rfl, ⟨hp.1⟩⟩))), ⟨below_set (below_then HB.out HB.out.size hb) (Nat.le_refl _)⟩, ⟨cell_set_blk HC.out.1 (by omega), cell_set_blk HC.out.2.1 (by omega), cell_set_blk HC.out.2.2.1 (by omega), cell_set_blk HC.out.2.2.2 (by omega)⟩⟩, by simp [intOf]⟩
        · go_wp2
          have hx0 : wr.cell? ⟨w.heap.size, 8, none⟩ = some (.int .u64 759250124) := (Kd.R_celln 0 HO.out 8 (by decide) (by decide)).1
          have hx1 : wr.cell? ⟨w.heap.size, 12, none⟩ = some (.int .u64 638450707) := (Kd.R_celln 0 HO.out 12 (by decide) (by decide)).1
          have hx2 : wr.cell? ⟨w.heap.size, 10, none⟩ = some (.int .u64 0) := (Kd.R_celln 0 HO.out 10 (by decide) (by decide)).1
          have hf2 : wr.frozen? ⟨w.heap.size, 10, none⟩ = false := (Kd.R_celln 0 HO.out 10 (by decide) (by decide)).2
          have hw0 : IntKind.i64.wrap 8 = 8 := rfl
          have hw1 : IntKind.i64.wrap 12 = 12 := rfl
          go_region_held3 (fun w' => w'.cell? ⟨w.heap.size, 8, none⟩ = some (.int .u64 759250124) ∧ w'.cell? ⟨w.heap.size, 12, none⟩ = some (.int .u64 638450707)) (first | go_keep | (exact ⟨cell_set_ne hx0 (by decide), cell_set_ne hx1 (by decide)⟩)) ((go_at_call 57; (with_reducible refine (thrumref13_Root.calls (IntKind.u64.wrap 484743778457637668) 696235433 _ thrumref13_Root.at_484743778457637668).mono ?_); rintro ed W2 ⟨rfl, ⟨nd, rfl⟩⟩))
          go_wp2
          have hb : Below wr.heap.size wr (wr.drewN (1 + nd)) := pw_below_drewN (Below.refl _ _) _
          have hp := Kd.R_putg (Kd.R_below HO.out hb) 10 696235433
          exact ⟨⟨(.inr (.inr (.inr (.inl ⟨rfl, ⟨hp.1⟩⟩)))), ⟨below_set (below_then HB.out HB.out.size hb) (Nat.le_refl _)⟩, ⟨cell_set_blk HC.out.1 (by omega), cell_set_blk HC.out.2.1 (by omega), cell_set_blk HC.out.2.2.1 (by omega), cell_set_blk HC.out.2.2.2 (by omega)⟩⟩, by simp [intOf]⟩
        · go_wp2
          have hx0 : wr.cell? ⟨w.heap.size, 12, none⟩ = some (.int .u64 638450707) := (Kd.R_celln 0 HO.out 12 (by decide) (by decide)).1
          have hx1 : wr.cell? ⟨w.heap.size, 16, none⟩ = some (.int .u64 536870912) := (Kd.R_celln 0 HO.out 16 (by decide) (by decide)).1
          have hx2 : wr.cell? ⟨w.heap.size, 14, none⟩ = some (.int .u64 0) := (Kd.R_celln 0 HO.out 14 (by decide) (by decide)).1
          have hf2 : wr.frozen? ⟨w.heap.size, 14, none⟩ = false := (Kd.R_celln 0 HO.out 14 (by decide) (by decide)).2
          have hw0 : IntKind.i64.wrap 12 = 12 := rfl
          have hw1 : IntKind.i64.wrap 16 = 16 := rfl
          go_region_held3 (fun w' => w'.cell? ⟨w.heap.size, 12, none⟩ = some (.int .u64 638450707) ∧ w'.cell? ⟨w.heap.size, 16, none⟩ = some (.int .u64 536870912)) (first | go_keep | (exact ⟨cell_set_ne hx0 (by decide), cell_set_ne hx1 (by decide)⟩)) ((go_at_call 57; (with_reducible refine (thrumref13_Root.calls (IntKind.u64.wrap 342765613334134784) 585461880 _ thrumref13_Root.at_342765613334134784).mono ?_); rintro ed W2 ⟨rfl, ⟨nd, rfl⟩⟩))
          go_wp2
          have hb : Below wr.heap.size wr (wr.drewN (1 + nd)) := pw_below_drewN (Below.refl _ _) _
          have hp := Kd.R_putg (Kd.R_below HO.out hb) 14 585461880
          exact ⟨⟨(.inr (.inr (.inr (.inr ⟨rfl, ⟨hp.1⟩⟩)))), ⟨below_set (below_then HB.out HB.out.size hb) (Nat.le_refl _)⟩, ⟨cell_set_blk HC.out.1 (by omega), cell_set_blk HC.out.2.1 (by omega), cell_set_blk HC.out.2.2.1 (by omega), cell_set_blk HC.out.2.2.2 (by omega)⟩⟩, by simp [intOf]⟩
        · go_wp2
          exact ⟨⟨(.inr (.inr (.inr (.inl ⟨rfl, HO⟩)))), HB, HC⟩, by simp [intOf]⟩
    · go_wp2_with fail
      go_loopw [4] (fun v W => ((v = .int .i64 1 ∧ Aside0 (Kd.R (Kd.int .u64) 49 W w.heap.size (fun _ => True) (.slice (some ⟨w.heap.size, 0, none⟩) 17 17) ([1073741824, 0, 984625593, 0, 902905650, 0, 827968131, 0, 759250124, 0, 696235433, 0, 638450707, 0, 585461880, 0, 536870912] : List Int))) ∨ (v = .int .i64 3 ∧ Aside0 (Kd.R (Kd.int .u64) 49 W w.heap.size (fun _ => True) (.slice (some ⟨w.heap.size, 0, none⟩) 17 17) ([1073741824, 1028218692, 984625593, 0, 902905650, 0, 827968131, 0, 759250124, 0, 696235433, 0, 638450707, 0, 585461880, 0, 536870912] : List Int))) ∨ (v = .int .i64 5 ∧ Aside0 (Kd.R (Kd.int .u64) 49 W w.heap.size (fun _ => True) (.slice (some ⟨w.heap.size, 0, none⟩) 17 17) ([1073741824, 1028218692, 984625593, 942880698, 902905650, 0, 827968131, 0, 759250124, 0, 696235433, 0, 638450707, 0, 585461880, 0, 536870912] : List Int))) ∨ (v = .int .i64 7 ∧ Aside0 (Kd.R (Kd.int .u64) 49 W w.heap.size (fun _ => True) (.slice (some ⟨w.heap.size, 0, none⟩) 17 17) ([1073741824, 1028218692, 984625593, 942880698, 902905650, 864625412, 827968131, 0, 759250124, 0, 696235433, 0, 638450707, 0, 585461880, 0, 536870912] : List Int))) ∨ (v = .int .i64 9 ∧ Aside0 (Kd.R (Kd.int .u64) 49 W w.heap.size (fun _ => True) (.slice (some ⟨w.heap.size, 0, none⟩) 17 17) ([1073741824, 1028218692, 984625593, 942880698, 902905650, 864625412, 827968131, 792864998, 759250124, 0, 696235433, 0, 638450707, 0, 585461880, 0, 536870912] : List Int))) ∨ (v = .int .i64 11 ∧ Aside0 (Kd.R (Kd.int .u64) 49 W w.heap.size (fun _ => True) (.slice (some ⟨w.heap.size, 0, none⟩) 17 17) ([1073741824, 1028218692, 984625593, 942880698, 902905650, 864625412, 827968131, 792864998, 759250124, 727060409, 696235433, 0, 638450707, 0, 585461880, 0, 536870912] : List Int))) ∨ (v = .int .i64 13 ∧ Aside0 (Kd.R (Kd.int .u64) 49 W w.heap.size (fun _ => True) (.slice (some ⟨w.heap.size, 0, none⟩) 17 17) ([1073741824, 1028218692, 984625593, 942880698, 902905650, 864625412, 827968131, 792864998, 759250124, 727060409, 696235433, 666717334, 638450707, 0, 585461880, 0, 536870912] : List Int))) ∨ (v = .int .i64 15 ∧ Aside0 (Kd.R (Kd.int .u64) 49 W w.heap.size (fun _ => True) (.slice (some ⟨w.heap.size, 0, none⟩) 17 17) ([1073741824, 1028218692, 984625593, 942880698, 902905650, 864625412, 827968131, 792864998, 759250124, 727060409, 696235433, 666717334, 638450707, 611382491, 585461880, 0, 536870912] : List Int))) ∨ (v = .int .i64 17 ∧ Aside0 (Kd.R (Kd.int .u64) 49 W w.heap.size (fun _ => True) (.slice (some ⟨w.heap.size, 0, none⟩) 17 17) ([1073741824, 1028218692, 984625593, 942880698, 902905650, 864625412, 827968131, 792864998, 759250124, 727060409, 696235433, 666717334, 638450707, 611382491, 585461880, 560640217, 536870912] : List Int)))) ∧ Aside0 (Below w.heap.size w W) ∧ Aside0 (W.cell? ⟨w.heap.size + 1, 0, none⟩ = some (.int .i64 8) ∧ W.cell? ⟨w.heap.size + 1, 1, none⟩ = some (.int .i64 4) ∧ W.cell? ⟨w.heap.size + 1, 2, none⟩ = some (.int .i64 2) ∧ W.cell? ⟨w.heap.size + 1, 3, none⟩ = some (.int .i64 1))) (fun v _ => 64 - (intOf v).toNat)
      case atStart => exact ⟨(.inl ⟨rfl, HO⟩), HB, HC⟩
      case round =>
        clear HO HB HC hc0 hc1 hc2 hc3
        obtain ⟨h, HB, HC⟩ := hrel
        rcases h with ⟨rfl, HO⟩ | ⟨rfl, HO⟩ | ⟨rfl, HO⟩ | ⟨rfl, HO⟩ | ⟨rfl, HO⟩ | ⟨rfl, HO⟩ | ⟨rfl, HO⟩ | ⟨rfl, HO⟩ | ⟨rfl, HO⟩
        · go_wp2
          have hx0 : wr.cell? ⟨w.heap.size, 0, none⟩ = some (.int .u64 1073741824) := (Kd.R_celln 0 HO.out 0 (by decide) (by decide)).1
          have hx1 : wr.cell? ⟨w.heap.size, 2, none⟩ = some (.int .u64 984625593) := (Kd.R_celln 0 HO.out 2 (by decide) (by decide)).1
          have hx2 : wr.cell? ⟨w.heap.size, 1, none⟩ = some (.int .u64 0) := (Kd.R_celln 0 HO.out 1 (by decide) (by decide)).1
          have hf2 : wr.frozen? ⟨w.heap.size, 1, none⟩ = false := (Kd.R_celln 0 HO.out 1 (by decide) (by decide)).2
          have hw0 : IntKind.i64.wrap 0 = 0 := rfl
          have hw1 : IntKind.i64.wrap 2 = 2 := rfl
          go_region_held3 (fun w' => w'.cell? ⟨w.heap.size, 0, none⟩ = some (.int .u64 1073741824) ∧ w'.cell? ⟨w.heap.size, 2, none⟩ = some (.int .u64 984625593)) (first | go_keep | (exact ⟨cell_set_ne hx0 (by decide), cell_set_ne hx1 (by decide)⟩)) ((go_at_call 57; (with_reducible refine (thrumref13_Root.calls (IntKind.u64.wrap 1057233680184901632) 1028218692 _ thrumref13_Root.at_1057233680184901632).mono ?_); rintro ed W2 ⟨rfl, ⟨nd, rfl⟩⟩))
          go_wp2
          have hb : Below wr.heap.size wr (wr.drewN (1 + nd)) := pw_below_drewN (Below.refl _ _) _
          have hp := Kd.R_putg (Kd.R_below HO.out hb) 1 1028218692
          exact ⟨⟨(.inr (.inl ⟨rfl, ⟨hp.1⟩⟩)), ⟨below_set (below_then HB.out HB.out.size hb) (Nat.le_refl _)⟩, ⟨cell_set_blk HC.out.1 (by omega), cell_set_blk HC.out.2.1 (by omega), cell_set_blk HC.out.2.2.1 (by omega), cell_set_blk HC.out.2.2.2 (by omega)⟩⟩, by simp [intOf]⟩
        · go_wp2
          have hx0 : wr.cell? ⟨w.heap.size, 2, none⟩ = some (.int .u64 984625593) := (Kd.R_celln 0 HO.out 2 (by decide) (by decide)).1
          have hx1 : wr.cell? ⟨w.heap.size, 4, none⟩ = some (.int .u64 902905650) := (Kd.R_celln 0 HO.out 4 (by decide) (by decide)).1
          have hx2 : wr.cell? ⟨w.heap.size, 3, none⟩ = some (.int .u64 0) := (Kd.R_celln 0 HO.out 3 (by decide) (by decide)).1
          have hf2 : wr.frozen? ⟨w.heap.size, 3, none⟩ = false := (Kd.R_celln 0 HO.out 3 (by decide) (by decide)).2
          have hw0 : IntKind.i64.wrap 2 = 2 := rfl
          have hw1 : IntKind.i64.wrap 4 = 4 := rfl
          go_region_held3 (fun w' => w'.cell? ⟨w.heap.size, 2, none⟩ = some (.int .u64 984625593) ∧ w'.cell? ⟨w.heap.size, 4, none⟩ = some (.int .u64 902905650)) (first | go_keep | (exact ⟨cell_set_ne hx0 (by decide), cell_set_ne hx1 (by decide)⟩)) ((go_at_call 57; (with_reducible refine (thrumref13_Root.calls (IntKind.u64.wrap 889024011054300450) 942880698 _ thrumref13_Root.at_889024011054300450).mono ?_); rintro ed W2 ⟨rfl, ⟨nd, rfl⟩⟩))
          go_wp2
          have hb : Below wr.heap.size wr (wr.drewN (1 + nd)) := pw_below_drewN (Below.refl _ _) _
          have hp := Kd.R_putg (Kd.R_below HO.out hb) 3 942880698
          exact ⟨⟨(.inr (.inr (.inl ⟨rfl, ⟨hp.1⟩⟩))), ⟨below_set (below_then HB.out HB.out.size hb) (Nat.le_refl _)⟩, ⟨cell_set_blk HC.out.1 (by omega), cell_set_blk HC.out.2.1 (by omega), cell_set_blk HC.out.2.2.1 (by omega), cell_set_blk HC.out.2.2.2 (by omega)⟩⟩, by simp [intOf]⟩
        · go_wp2
          have hx0 : wr.cell? ⟨w.heap.size, 4, none⟩ = some (.int .u64 902905650) := (Kd.R_celln 0 HO.out 4 (by decide) (by decide)).1
          have hx1 : wr.cell? ⟨w.heap.size, 6, none⟩ = some (.int .u64 827968131) := (Kd.R_celln 0 HO.out 6 (by decide) (by decide)).1
          have hx2 : wr.cell? ⟨w.heap.size, 5, none⟩ = some (.int .u64 0) := (Kd.R_celln 0 HO.out 5 (by decide) (by decide)).1
          have hf2 : wr.frozen? ⟨w.heap.size, 5, none⟩ = false := (Kd.R_celln 0 HO.out 5 (by decide) (by decide)).2
          have hw0 : IntKind.i64.wrap 4 = 4 := rfl
          have hw1 : IntKind.i64.wrap 6 = 6 := rfl
          go_region_held3 (fun w' => w'.cell? ⟨w.heap.size, 4, none⟩ = some (.int .u64 902905650) ∧ w'.cell? ⟨w.heap.size, 6, none⟩ = some (.int .u64 827968131)) (first | go_keep | (exact ⟨cell_set_ne hx0 (by decide), cell_set_ne hx1 (by decide)⟩)) ((go_at_call 57; (with_reducible refine (thrumref13_Root.calls (IntKind.u64.wrap 747577103499840150) 864625412 _ thrumref13_Root.at_747577103499840150).mono ?_); rintro ed W2 ⟨rfl, ⟨nd, rfl⟩⟩))
          go_wp2
          have hb : Below wr.heap.size wr (wr.drewN (1 + nd)) := pw_below_drewN (Below.refl _ _) _
          have hp := Kd.R_putg (Kd.R_below HO.out hb) 5 864625412
          exact ⟨⟨(.inr (.inr (.inr (.inl ⟨rfl, ⟨hp.1⟩⟩)))), ⟨below_set (below_then HB.out HB.out.size hb) (Nat.le_refl _)⟩, ⟨cell_set_blk HC.out.1 (by omega), cell_set_blk HC.out.2.1 (by omega), cell_set_blk HC.out.2.2.1 (by omega), cell_set_blk HC.out.2.2.2 (by omega)⟩⟩, by simp [intOf]⟩
        · go_wp2
          have hx0 : wr.cell? ⟨w.heap.size, 6, none⟩ = some (.int .u64 827968131) := (Kd.R_celln 0 HO.out 6 (by decide) (by decide)).1
          have hx1 : wr.cell? ⟨w.heap.size, 8, none⟩ = some (.int .u64 759250124) := (Kd.R_celln 0 HO.out 8 (by decide) (by decide)).1
          have hx2 : wr.cell? ⟨w.heap.size, 7, none⟩ = some (.int .u64 0) := (Kd.R_celln 0 HO.out 7 (by decide) (by decide)).1
          have hf2 : wr.frozen? ⟨w.heap.size, 7, none⟩ = false := (Kd.R_celln 0 HO.out 7 (by decide) (by decide)).2
          have hw0 : IntKind.i64.wrap 6 = 6 := rfl
          have hw1 : IntKind.i64.wrap 8 = 8 := rfl
          go_region_held3 (fun w' => w'.cell? ⟨w.heap.size, 6, none⟩ = some (.int .u64 827968131) ∧ w'.cell? ⟨w.heap.size, 8, none⟩ = some (.int .u64 759250124)) (first | go_keep | (exact ⟨cell_set_ne hx0 (by decide), cell_set_ne hx1 (by decide)⟩)) ((go_at_call 57; (with_reducible refine (thrumref13_Root.calls (IntKind.u64.wrap 628634906129798244) 792864998 _ thrumref13_Root.at_628634906129798244).mono ?_); rintro ed W2 ⟨rfl, ⟨nd, rfl⟩⟩))
          go_wp2
          have hb : Below wr.heap.size wr (wr.drewN (1 + nd)) := pw_below_drewN (Below.refl _ _) _
          have hp := Kd.R_putg (Kd.R_below HO.out hb) 7 792864998
          exact ⟨⟨(.inr (.inr (.inr (.inr (.inl ⟨rfl, ⟨hp.1⟩⟩))))), ⟨below_set (below_then HB.out HB.out.size hb) (Nat.le_refl _)⟩, ⟨cell_set_blk HC.out.1 (by omega), cell_set_blk HC.out.2.1 (by omega), cell_set_blk HC.out.2.2.1 (by omega), cell_set_blk HC.out.2.2.2 (by omega)⟩⟩, by simp [intOf]⟩
        · go_wp2
          have hx0 : wr.cell? ⟨w.heap.size, 8, none⟩ = some (.int .u64 759250124) := (Kd.R_celln 0 HO.out 8 (by decide) (by decide)).1
          have hx1 : wr.cell? ⟨w.heap.size, 10, none⟩ = some (.int .u64 696235433) := (Kd.R_celln 0 HO.out 10 (by decide) (by decide)).1
          have hx2 : wr.cell? ⟨w.heap.size, 9, none⟩ = some (.int .u64 0) := (Kd.R_celln 0 HO.out 9 (by decide) (by decide)).1
          have hf2 : wr.frozen? ⟨w.heap.size, 9, none⟩ = false := (Kd.R_celln 0 HO.out 9 (by decide) (by decide)).2
          have hw0 : IntKind.i64.wrap 8 = 8 := rfl
          have hw1 : IntKind.i64.wrap 10 = 10 := rfl
          go_region_held3 (fun w' => w'.cell? ⟨w.heap.size, 8, none⟩ = some (.int .u64 759250124) ∧ w'.cell? ⟨w.heap.size, 10, none⟩ = some (.int .u64 696235433)) (first | go_keep | (exact ⟨cell_set_ne hx0 (by decide), cell_set_ne hx1 (by decide)⟩)) ((go_at_call 57; (with_reducible refine (thrumref13_Root.calls (IntKind.u64.wrap 528616838838443692) 727060409 _ thrumref13_Root.at_528616838838443692).mono ?_); rintro ed W2 ⟨rfl, ⟨nd, rfl⟩⟩))
          go_wp2
          have hb : Below wr.heap.size wr (wr.drewN (1 + nd)) := pw_below_drewN (Below.refl _ _) _
          have hp := Kd.R_putg (Kd.R_below HO.out hb) 9 727060409
          exact ⟨⟨(.inr (.inr (.inr (.inr (.inr (.inl ⟨rfl, ⟨hp.1⟩⟩)))))), ⟨below_set (below_then HB.out HB.out.size hb) (Nat.le_refl _)⟩, ⟨cell_set_blk HC.out.1 (by omega), cell_set_blk HC.out.2.1 (by omega), cell_set_blk HC.out.2.2.1 (by omega), cell_set_blk HC.out.2.2.2 (by omega)⟩⟩, by simp [intOf]⟩
        · go_wp2
          have hx0 : wr.cell? ⟨w.heap.size, 10, none⟩ = some (.int .u64 696235433) := (Kd.R_celln 0 HO.out 10 (by decide) (by decide)).1
          have hx1 : wr.cell? ⟨w.heap.size, 12, none⟩ = some (.int .u64 638450707) := (Kd.R_celln 0 HO.out 12 (by decide) (by decide)).1
          have hx2 : wr.cell? ⟨w.heap.size, 11, none⟩ = some (.int .u64 0) := (Kd.R_celln 0 HO.out 11 (by decide) (by decide)).1
          have hf2 : wr.frozen? ⟨w.heap.size, 11, none⟩ = false := (Kd.R_celln 0 HO.out 11 (by decide) (by decide)).2
          have hw0 : IntKind.i64.wrap 10 = 10 := rfl
          have hw1 : IntKind.i64.wrap 12 = 12 := rfl
          go_region_held3 (fun w' => w'.cell? ⟨w.heap.size, 10, none⟩ = some (.int .u64 696235433) ∧ w'.cell? ⟨w.heap.size, 12, none⟩ = some (.int .u64 638450707)) (first | go_keep | (exact ⟨cell_set_ne hx0 (by decide), cell_set_ne hx1 (by decide)⟩)) ((go_at_call 57; (with_reducible refine (thrumref13_Root.calls (IntKind.u64.wrap 444512004437301131) 666717334 _ thrumref13_Root.at_444512004437301131).mono ?_); rintro ed W2 ⟨rfl, ⟨nd, rfl⟩⟩))
          go_wp2
          have hb : Below wr.heap.size wr (wr.drewN (1 + nd)) := pw_below_drewN (Below.refl _ _) _
          have hp := Kd.R_putg (Kd.R_below HO.out hb) 11 666717334
          exact ⟨⟨(.inr (.inr (.inr (.inr (.inr (.inr (.inl ⟨rfl, ⟨hp.1⟩⟩))))))), ⟨below_set (below_then HB.out HB.out.size hb) (Nat.le_refl _)⟩, ⟨cell_set_blk HC.out.1 (by omega), cell_set_blk HC.out.2.1 (by omega), cell_set_blk HC.out.2.2.1 (by omega), cell_set_blk HC.out.2.2.2 (by omega)⟩⟩, by simp [intOf]⟩
        · go_wp2
          have hx0 : wr.cell? ⟨w.heap.size, 12, none⟩ = some (.int .u64 638450707) := (Kd.R_celln 0 HO.out 12 (by decide) (by decide)).1
          have hx1 : wr.cell? ⟨w.heap.size, 14, none⟩ = some (.int .u64 585461880) := (Kd.R_celln 0 HO.out 14 (by decide) (by decide)).1
          have hx2 : wr.cell? ⟨w.heap.size, 13, none⟩ = some (.int .u64 0) := (Kd.R_celln 0 HO.out 13 (by decide) (by decide)).1
          have hf2 : wr.frozen? ⟨w.heap.size, 13, none⟩ = false := (Kd.R_celln 0 HO.out 13 (by decide) (by decide)).2
          have hw0 : IntKind.i64.wrap 12 = 12 := rfl
          have hw1 : IntKind.i64.wrap 14 = 14 := rfl
          go_region_held3 (fun w' => w'.cell? ⟨w.heap.size, 12, none⟩ = some (.int .u64 638450707) ∧ w'.cell? ⟨w.heap.size, 14, none⟩ = some (.int .u64 585461880)) (first | go_keep | (exact ⟨cell_set_ne hx0 (by decide), cell_set_ne hx1 (by decide)⟩)) ((go_at_call 57; (with_reducible refine (thrumref13_Root.calls (IntKind.u64.wrap 373788551207549160) 611382491 _ thrumref13_Root.at_373788551207549160).mono ?_); rintro ed W2 ⟨rfl, ⟨nd, rfl⟩⟩))
          go_wp2
          have hb : Below wr.heap.size wr (wr.drewN (1 + nd)) := pw_below_drewN (Below.refl _ _) _
          have hp := Kd.R_putg (Kd.R_below HO.out hb) 13 611382491
          exact ⟨⟨(.inr (.inr (.inr (.inr (.inr (.inr (.inr (.inl ⟨rfl, ⟨hp.1⟩⟩)))))))), ⟨below_set (below_then HB.out HB.out.size hb) (Nat.le_refl _)⟩, ⟨cell_set_blk HC.out.1 (by omega), cell_set_blk HC.out.2.1 (by omega), cell_set_blk HC.out.2.2.1 (by omega), cell_set_blk HC.out.2.2.2 (by omega)⟩⟩, by simp [intOf]⟩
        · go_wp2
          have hx0 : wr.cell? ⟨w.heap.size, 14, none⟩ = some (.int .u64 585461880) := (Kd.R_celln 0 HO.out 14 (by decide) (by decide)).1
          have hx1 : wr.cell? ⟨w.heap.size, 16, none⟩ = some (.int .u64 536870912) := (Kd.R_celln 0 HO.out 16 (by decide) (by decide)).1
          have hx2 : wr.cell? ⟨w.heap.size, 15, none⟩ = some (.int .u64 0) := (Kd.R_celln 0 HO.out 15 (by decide) (by decide)).1
          have hf2 : wr.frozen? ⟨w.heap.size, 15, none⟩ = false := (Kd.R_celln 0 HO.out 15 (by decide) (by decide)).2
          have hw0 : IntKind.i64.wrap 14 = 14 := rfl
          have hw1 : IntKind.i64.wrap 16 = 16 := rfl
          go_region_held3 (fun w' => w'.cell? ⟨w.heap.size, 14, none⟩ = some (.int .u64 585461880) ∧ w'.cell? ⟨w.heap.size, 16, none⟩ = some (.int .u64 536870912)) (first | go_keep | (exact ⟨cell_set_ne hx0 (by decide), cell_set_ne hx1 (by decide)⟩)) ((go_at_call 57; (with_reducible refine (thrumref13_Root.calls (IntKind.u64.wrap 314317453456834560) 560640217 _ thrumref13_Root.at_314317453456834560).mono ?_); rintro ed W2 ⟨rfl, ⟨nd, rfl⟩⟩))
          go_wp2
          have hb : Below wr.heap.size wr (wr.drewN (1 + nd)) := pw_below_drewN (Below.refl _ _) _
          have hp := Kd.R_putg (Kd.R_below HO.out hb) 15 560640217
          exact ⟨⟨(.inr (.inr (.inr (.inr (.inr (.inr (.inr (.inr ⟨rfl, ⟨hp.1⟩⟩)))))))), ⟨below_set (below_then HB.out HB.out.size hb) (Nat.le_refl _)⟩, ⟨cell_set_blk HC.out.1 (by omega), cell_set_blk HC.out.2.1 (by omega), cell_set_blk HC.out.2.2.1 (by omega), cell_set_blk HC.out.2.2.2 (by omega)⟩⟩, by simp [intOf]⟩
        · go_wp2
          exact ⟨⟨(.inr (.inr (.inr (.inr ⟨rfl, HO⟩)))), HB, HC⟩, by simp [intOf]⟩
    · go_wp2
      go_ret
      exact ⟨_, rfl, HO.out, HB.out⟩


end Go.Proofs.Ytfbdalnjijdknaa.HT
