/- What Go functions do, each as a plain Lean function with the same answers, and the proof of it, in every world: printed by the session's driver over the kit's print, with texts by hand. -/
import Derived.Test.YtihgcjagokippaaHSx0
import Derived.Test.YtihgcjagokippaaHSx10
import Derived.Test.YtihgcjagokippaaMini
namespace Go.Proofs.Ytihgcjagokippaa.HS
open Go.RowKit Go.Proofs.YtihgcjagokippaaW.PrintWords Go.Proofs.YtihgcjagokippaaW.PrintLast Go.Proofs.YtihgcjagokippaaW.PrintMore
attribute [local go_sem] max2_int min2_int max_two min_two max_three min_three max_four min_four   -- for this text's walks alone
open Go.Proofs.Ytihgcjagokippaa.Sp
attribute [local go_sem] Go.Proofs.Ytihgcjagokippaa.Sp.u64_not
set_option linter.unusedVariables false
set_option linter.unusedSimpArgs false

/-! ### thrumref13_Rows: function 66 -/
theorem thrumref13_Root.at_314317453456834560 : thrumref13_Root.f (IntKind.u64.wrap 314317453456834560) = some 560640217 := by decide +kernel
theorem thrumref13_Root.at_342765613334134784 : thrumref13_Root.f (IntKind.u64.wrap 342765613334134784) = some 585461880 := by decide +kernel
theorem thrumref13_Root.at_373788551207549160 : thrumref13_Root.f (IntKind.u64.wrap 373788551207549160) = some 611382491 := by decide +kernel
theorem thrumref13_Root.at_407619306507993088 : thrumref13_Root.f (IntKind.u64.wrap 407619306507993088) = some 638450707 := by decide +kernel
theorem thrumref13_Root.at_444512004437301131 : thrumref13_Root.f (IntKind.u64.wrap 444512004437301131) = some 666717334 := by decide +kernel
theorem thrumref13_Root.at_484743778457637668 : thrumref13_Root.f (IntKind.u64.wrap 484743778457637668) = some 696235433 := by decide +kernel
theorem thrumref13_Root.at_528616838838443692 : thrumref13_Root.f (IntKind.u64.wrap 528616838838443692) = some 727060409 := by decide +kernel
theorem thrumref13_Root.at_576460752303423488 : thrumref13_Root.f (IntKind.u64.wrap 576460752303423488) = some 759250124 := by decide +kernel
theorem thrumref13_Root.at_628634906129798244 : thrumref13_Root.f (IntKind.u64.wrap 628634906129798244) = some 792864998 := by decide +kernel
theorem thrumref13_Root.at_685531226722800600 : thrumref13_Root.f (IntKind.u64.wrap 685531226722800600) = some 827968131 := by decide +kernel
theorem thrumref13_Root.at_747577103499840150 : thrumref13_Root.f (IntKind.u64.wrap 747577103499840150) = some 864625412 := by decide +kernel
theorem thrumref13_Root.at_815238613015986176 : thrumref13_Root.f (IntKind.u64.wrap 815238613015986176) = some 902905650 := by decide +kernel
theorem thrumref13_Root.at_889024011054300450 : thrumref13_Root.f (IntKind.u64.wrap 889024011054300450) = some 942880698 := by decide +kernel
theorem thrumref13_Root.at_969487559530905600 : thrumref13_Root.f (IntKind.u64.wrap 969487559530905600) = some 984625593 := by decide +kernel
theorem thrumref13_Root.at_1057233680184901632 : thrumref13_Root.f (IntKind.u64.wrap 1057233680184901632) = some 1028218692 := by decide +kernel
def thrumref13_Rows.f : Option (List Int) := some tabL
set_option maxHeartbeats 8000000 in
set_option maxRecDepth 100000 in
theorem thrumref13_Rows.calls  (r : List Int) (w : World) (h : thrumref13_Rows.f  = some r) :
    Calls Try.prog 66 #[] w fun e w' => ∃ v0_ : Value, e = .returned (v0_) ∧ Kd.R (Kd.int .u64) 71 w' w.heap.size (fun _ => True) v0_ r ∧ Below w.heap.size w w' := by
 cases h
 have hm17 : madeCells #[Value.int .u64 0] 17 = (#[.int .u64 0, .int .u64 0, .int .u64 0, .int .u64 0, .int .u64 0, .int .u64 0, .int .u64 0, .int .u64 0, .int .u64 0, .int .u64 0, .int .u64 0, .int .u64 0, .int .u64 0, .int .u64 0, .int .u64 0, .int .u64 0, .int .u64 0] : Array Value) := by kernel_rfl
 have hmk : ∀ w : World, (Instr.makeSlice 78 (.int .i64 17) (.int .i64 17)).run Try.prog w = .ok (.slice (some ⟨w.heap.size, 0, none⟩) 17 17) (w.alloc (.cells #[.int .u64 0, .int .u64 0, .int .u64 0, .int .u64 0, .int .u64 0, .int .u64 0, .int .u64 0, .int .u64 0, .int .u64 0, .int .u64 0, .int .u64 0, .int .u64 0, .int .u64 0, .int .u64 0, .int .u64 0, .int .u64 0, .int .u64 0] 71)) := fun w => by have h := print_make (P := Try.prog) 78 71 .u64 8 Try.underlying78 info71 (by decide) 17 (by decide) w; rw [hm17] at h; exact h
 clear hm17
 have hu1 := Try.underlying78
 have hu2 := Try.underlying92
 go_enter Try.func66, Try.ntmps66
 go_wp2_with fail
 go_loopw [12] (fun v W => ((v = .int .i64 0 ∧ Aside0 (Kd.R (Kd.int .u64) 71 W w.heap.size (fun _ => True) (.slice (some ⟨w.heap.size, 0, none⟩) 17 17) ([1073741824, 0, 0, 0, 0, 0, 0, 0, 0, 0, 0, 0, 0, 0, 0, 0, 536870912] : List Int))) ∨ (v = .int .i64 1 ∧ Aside0 (Kd.R (Kd.int .u64) 71 W w.heap.size (fun _ => True) (.slice (some ⟨w.heap.size, 0, none⟩) 17 17) ([1073741824, 0, 0, 0, 0, 0, 0, 0, 759250124, 0, 0, 0, 0, 0, 0, 0, 536870912] : List Int))) ∨ (v = .int .i64 2 ∧ Aside0 (Kd.R (Kd.int .u64) 71 W w.heap.size (fun _ => True) (.slice (some ⟨w.heap.size, 0, none⟩) 17 17) ([1073741824, 0, 0, 0, 902905650, 0, 0, 0, 759250124, 0, 0, 0, 638450707, 0, 0, 0, 536870912] : List Int))) ∨ (v = .int .i64 3 ∧ Aside0 (Kd.R (Kd.int .u64) 71 W w.heap.size (fun _ => True) (.slice (some ⟨w.heap.size, 0, none⟩) 17 17) ([1073741824, 0, 984625593, 0, 902905650, 0, 827968131, 0, 759250124, 0, 696235433, 0, 638450707, 0, 585461880, 0, 536870912] : List Int))) ∨ (v = .int .i64 4 ∧ Aside0 (Kd.R (Kd.int .u64) 71 W w.heap.size (fun _ => True) (.slice (some ⟨w.heap.size, 0, none⟩) 17 17) ([1073741824, 1028218692, 984625593, 942880698, 902905650, 864625412, 827968131, 792864998, 759250124, 727060409, 696235433, 666717334, 638450707, 611382491, 585461880, 560640217, 536870912] : List Int)))) ∧ Aside0 (Below w.heap.size w W) ∧ Aside0 (W.cell? ⟨w.heap.size + 1, 0, none⟩ = some (.int .i64 8) ∧ W.cell? ⟨w.heap.size + 1, 1, none⟩ = some (.int .i64 4) ∧ W.cell? ⟨w.heap.size + 1, 2, none⟩ = some (.int .i64 2) ∧ W.cell? ⟨w.heap.size + 1, 3, none⟩ = some (.int .i64 1))) (fun v _ => 8 - (intOf v).toNat)
 case atStart => exact ⟨(.inl ⟨rfl, ⟨rrA (arr_R w 71 _ [1073741824, 0, 0, 0, 0, 0, 0, 0, 0, 0, 0, 0, 0, 0, 0, 0, 536870912] rfl rfl) _⟩⟩), ⟨zzA (zzA (Below.refl _ _) _) _⟩, ⟨by simp [go_sem], by simp [go_sem], by simp [go_sem], by simp [go_sem]⟩⟩
 case round =>
  obtain ⟨h, HB, HC⟩ := hrel
  have hc0 := HC.out.1
  have hc1 := HC.out.2.1
  have hc2 := HC.out.2.2.1
  have hc3 := HC.out.2.2.2
  rcases h with ⟨rfl, HO⟩ | ⟨rfl, HO⟩ | ⟨rfl, HO⟩ | ⟨rfl, HO⟩ | ⟨rfl, HO⟩
  · go_wp2_with fail
    go_loopw [4] (fun v W => ((v = .int .i64 8 ∧ Aside0 (Kd.R (Kd.int .u64) 71 W w.heap.size (fun _ => True) (.slice (some ⟨w.heap.size, 0, none⟩) 17 17) ([1073741824, 0, 0, 0, 0, 0, 0, 0, 0, 0, 0, 0, 0, 0, 0, 0, 536870912] : List Int))) ∨ (v = .int .i64 24 ∧ Aside0 (Kd.R (Kd.int .u64) 71 W w.heap.size (fun _ => True) (.slice (some ⟨w.heap.size, 0, none⟩) 17 17) ([1073741824, 0, 0, 0, 0, 0, 0, 0, 759250124, 0, 0, 0, 0, 0, 0, 0, 536870912] : List Int)))) ∧ Aside0 (Below w.heap.size w W) ∧ Aside0 (W.cell? ⟨w.heap.size + 1, 0, none⟩ = some (.int .i64 8) ∧ W.cell? ⟨w.heap.size + 1, 1, none⟩ = some (.int .i64 4) ∧ W.cell? ⟨w.heap.size + 1, 2, none⟩ = some (.int .i64 2) ∧ W.cell? ⟨w.heap.size + 1, 3, none⟩ = some (.int .i64 1))) (fun v _ => 64 - (intOf v).toNat)
    case atStart => exact ⟨(.inl ⟨rfl, HO⟩), HB, HC⟩
    case round =>
     clear HO HB HC hc0 hc1 hc2 hc3
     obtain ⟨h, HB, HC⟩ := hrel
     rcases h with ⟨rfl, HO⟩ | ⟨rfl, HO⟩
     · go_wp2
       have hx0 : wr.cell? ⟨w.heap.size, 0, none⟩ = some (.int .u64 1073741824) := (Kd.R_celln 0 HO.out 0 (by decide) (by decide)).1
       have hx1 : wr.cell? ⟨w.heap.size, 16, none⟩ = some (.int .u64 536870912) := (Kd.R_celln 0 HO.out 16 (by decide) (by decide)).1
       have hx2 : wr.cell? ⟨w.heap.size, 8, none⟩ = some (.int .u64 0) := (Kd.R_celln 0 HO.out 8 (by decide) (by decide)).1
       have hf2 : wr.frozen? ⟨w.heap.size, 8, none⟩ = false := (Kd.R_celln 0 HO.out 8 (by decide) (by decide)).2
       have hw0 : IntKind.i64.wrap 0 = 0 := rfl
       have hw1 : IntKind.i64.wrap 16 = 16 := rfl
       go_region_held3 (fun w' => w'.cell? ⟨w.heap.size, 0, none⟩ = some (.int .u64 1073741824) ∧ w'.cell? ⟨w.heap.size, 16, none⟩ = some (.int .u64 536870912)) (first | go_keep | (exact ⟨cell_set_ne hx0 (by decide), cell_set_ne hx1 (by decide)⟩)) ((go_at_call 83; (with_reducible refine (thrumref13_Root.calls (IntKind.u64.wrap 576460752303423488) 759250124 _ thrumref13_Root.at_576460752303423488).mono ?_); rintro ed W2 ⟨rfl, ⟨nd, rfl⟩⟩))
       go_wp2
       have hb : Below wr.heap.size wr (wr.drewN (1 + nd)) := zzN (Below.refl _ _) _
       have hp := Kd.R_putg (Kd.R_below HO.out hb) 8 759250124
       exact ⟨⟨(.inr ⟨rfl, ⟨hp.1⟩⟩), ⟨below_set (below_then HB.out HB.out.size hb) (Nat.le_refl _)⟩, ⟨cell_set_blk HC.out.1 (by omega), cell_set_blk HC.out.2.1 (by omega), cell_set_blk HC.out.2.2.1 (by omega), cell_set_blk HC.out.2.2.2 (by omega)⟩⟩, by simp [intOf]⟩
     · go_wp2
       exact ⟨⟨(.inr (.inl ⟨rfl, HO⟩)), HB, HC⟩, by simp [intOf]⟩
  · go_wp2_with fail
    go_loopw [4] (fun v W => ((v = .int .i64 4 ∧ Aside0 (Kd.R (Kd.int .u64) 71 W w.heap.size (fun _ => True) (.slice (some ⟨w.heap.size, 0, none⟩) 17 17) ([1073741824, 0, 0, 0, 0, 0, 0, 0, 759250124, 0, 0, 0, 0, 0, 0, 0, 536870912] : List Int))) ∨ (v = .int .i64 12 ∧ Aside0 (Kd.R (Kd.int .u64) 71 W w.heap.size (fun _ => True) (.slice (some ⟨w.heap.size, 0, none⟩) 17 17) ([1073741824, 0, 0, 0, 902905650, 0, 0, 0, 759250124, 0, 0, 0, 0, 0, 0, 0, 536870912] : List Int))) ∨ (v = .int .i64 20 ∧ Aside0 (Kd.R (Kd.int .u64) 71 W w.heap.size (fun _ => True) (.slice (some ⟨w.heap.size, 0, none⟩) 17 17) ([1073741824, 0, 0, 0, 902905650, 0, 0, 0, 759250124, 0, 0, 0, 638450707, 0, 0, 0, 536870912] : List Int)))) ∧ Aside0 (Below w.heap.size w W) ∧ Aside0 (W.cell? ⟨w.heap.size + 1, 0, none⟩ = some (.int .i64 8) ∧ W.cell? ⟨w.heap.size + 1, 1, none⟩ = some (.int .i64 4) ∧ W.cell? ⟨w.heap.size + 1, 2, none⟩ = some (.int .i64 2) ∧ W.cell? ⟨w.heap.size + 1, 3, none⟩ = some (.int .i64 1))) (fun v _ => 64 - (intOf v).toNat)
    case atStart => exact ⟨(.inl ⟨rfl, HO⟩), HB, HC⟩
    case round =>
     clear HO HB HC hc0 hc1 hc2 hc3
     obtain ⟨h, HB, HC⟩ := hrel
     rcases h with ⟨rfl, HO⟩ | ⟨rfl, HO⟩ | ⟨rfl, HO⟩
     · go_wp2
       have hx0 : wr.cell? ⟨w.heap.size, 0, none⟩ = some (.int .u64 1073741824) := (Kd.R_celln 0 HO.out 0 (by decide) (by decide)).1
       have hx1 : wr.cell? ⟨w.heap.size, 8, none⟩ = some (.int .u64 759250124) := (Kd.R_celln 0 HO.out 8 (by decide) (by decide)).1
       have hx2 : wr.cell? ⟨w.heap.size, 4, none⟩ = some (.int .u64 0) := (Kd.R_celln 0 HO.out 4 (by decide) (by decide)).1
       have hf2 : wr.frozen? ⟨w.heap.size, 4, none⟩ = false := (Kd.R_celln 0 HO.out 4 (by decide) (by decide)).2
       have hw0 : IntKind.i64.wrap 0 = 0 := rfl
       have hw1 : IntKind.i64.wrap 8 = 8 := rfl
       go_region_held3 (fun w' => w'.cell? ⟨w.heap.size, 0, none⟩ = some (.int .u64 1073741824) ∧ w'.cell? ⟨w.heap.size, 8, none⟩ = some (.int .u64 759250124)) (first | go_keep | (exact ⟨cell_set_ne hx0 (by decide), cell_set_ne hx1 (by decide)⟩)) ((go_at_call 83; (with_reducible refine (thrumref13_Root.calls (IntKind.u64.wrap 815238613015986176) 902905650 _ thrumref13_Root.at_815238613015986176).mono ?_); rintro ed W2 ⟨rfl, ⟨nd, rfl⟩⟩))
       go_wp2
       have hb : Below wr.heap.size wr (wr.drewN (1 + nd)) := zzN (Below.refl _ _) _
       have hp := Kd.R_putg (Kd.R_below HO.out hb) 4 902905650
       exact ⟨⟨(.inr (.inl ⟨rfl, ⟨hp.1⟩⟩)), ⟨below_set (below_then HB.out HB.out.size hb) (Nat.le_refl _)⟩, ⟨cell_set_blk HC.out.1 (by omega), cell_set_blk HC.out.2.1 (by omega), cell_set_blk HC.out.2.2.1 (by omega), cell_set_blk HC.out.2.2.2 (by omega)⟩⟩, by simp [intOf]⟩
     · go_wp2
       have hx0 : wr.cell? ⟨w.heap.size, 8, none⟩ = some (.int .u64 759250124) := (Kd.R_celln 0 HO.out 8 (by decide) (by decide)).1
       have hx1 : wr.cell? ⟨w.heap.size, 16, none⟩ = some (.int .u64 536870912) := (Kd.R_celln 0 HO.out 16 (by decide) (by decide)).1
       have hx2 : wr.cell? ⟨w.heap.size, 12, none⟩ = some (.int .u64 0) := (Kd.R_celln 0 HO.out 12 (by decide) (by decide)).1
       have hf2 : wr.frozen? ⟨w.heap.size, 12, none⟩ = false := (Kd.R_celln 0 HO.out 12 (by decide) (by decide)).2
       have hw0 : IntKind.i64.wrap 8 = 8 := rfl
       have hw1 : IntKind.i64.wrap 16 = 16 := rfl
       go_region_held3 (fun w' => w'.cell? ⟨w.heap.size, 8, none⟩ = some (.int .u64 759250124) ∧ w'.cell? ⟨w.heap.size, 16, none⟩ = some (.int .u64 536870912)) (first | go_keep | (exact ⟨cell_set_ne hx0 (by decide), cell_set_ne hx1 (by decide)⟩)) ((go_at_call 83; (with_reducible refine (thrumref13_Root.calls (IntKind.u64.wrap 407619306507993088) 638450707 _ thrumref13_Root.at_407619306507993088).mono ?_); rintro ed W2 ⟨rfl, ⟨nd, rfl⟩⟩))
       go_wp2
       have hb : Below wr.heap.size wr (wr.drewN (1 + nd)) := zzN (Below.refl _ _) _
       have hp := Kd.R_putg (Kd.R_below HO.out hb) 12 638450707
       exact ⟨⟨(.inr (.inr ⟨rfl, ⟨hp.1⟩⟩)), ⟨below_set (below_then HB.out HB.out.size hb) (Nat.le_refl _)⟩, ⟨cell_set_blk HC.out.1 (by omega), cell_set_blk HC.out.2.1 (by omega), cell_set_blk HC.out.2.2.1 (by omega), cell_set_blk HC.out.2.2.2 (by omega)⟩⟩, by simp [intOf]⟩
     · go_wp2
       exact ⟨⟨(.inr (.inr (.inl ⟨rfl, HO⟩))), HB, HC⟩, by simp [intOf]⟩
  · go_wp2_with fail
    go_loopw [4] (fun v W => ((v = .int .i64 2 ∧ Aside0 (Kd.R (Kd.int .u64) 71 W w.heap.size (fun _ => True) (.slice (some ⟨w.heap.size, 0, none⟩) 17 17) ([1073741824, 0, 0, 0, 902905650, 0, 0, 0, 759250124, 0, 0, 0, 638450707, 0, 0, 0, 536870912] : List Int))) ∨ (v = .int .i64 6 ∧ Aside0 (Kd.R (Kd.int .u64) 71 W w.heap.size (fun _ => True) (.slice (some ⟨w.heap.size, 0, none⟩) 17 17) ([1073741824, 0, 984625593, 0, 902905650, 0, 0, 0, 759250124, 0, 0, 0, 638450707, 0, 0, 0, 536870912] : List Int))) ∨ (v = .int .i64 10 ∧ Aside0 (Kd.R (Kd.int .u64) 71 W w.heap.size (fun _ => True) (.slice (some ⟨w.heap.size, 0, none⟩) 17 17) ([1073741824, 0, 984625593, 0, 902905650, 0, 827968131, 0, 759250124, 0, 0, 0, 638450707, 0, 0, 0, 536870912] : List Int))) ∨ (v = .int .i64 14 ∧ Aside0 (Kd.R (Kd.int .u64) 71 W w.heap.size (fun _ => True) (.slice (some ⟨w.heap.size, 0, none⟩) 17 17) ([1073741824, 0, 984625593, 0, 902905650, 0, 827968131, 0, 759250124, 0, 696235433, 0, 638450707, 0, 0, 0, 536870912] : List Int))) ∨ (v = .int .i64 18 ∧ Aside0 (Kd.R (Kd.int .u64) 71 W w.heap.size (fun _ => True) (.slice (some ⟨w.heap.size, 0, none⟩) 17 17) ([1073741824, 0, 984625593, 0, 902905650, 0, 827968131, 0, 759250124, 0, 696235433, 0, 638450707, 0, 585461880, 0, 536870912] : List Int)))) ∧ Aside0 (Below w.heap.size w W) ∧ Aside0 (W.cell? ⟨w.heap.size + 1, 0, none⟩ = some (.int .i64 8) ∧ W.cell? ⟨w.heap.size + 1, 1, none⟩ = some (.int .i64 4) ∧ W.cell? ⟨w.heap.size + 1, 2, none⟩ = some (.int .i64 2) ∧ W.cell? ⟨w.heap.size + 1, 3, none⟩ = some (.int .i64 1))) (fun v _ => 64 - (intOf v).toNat)
    case atStart => exact ⟨(.inl ⟨rfl, HO⟩), HB, HC⟩
    case round =>
     clear HO HB HC hc0 hc1 hc2 hc3
     obtain ⟨h, HB, HC⟩ := hrel
     rcases h with ⟨rfl, HO⟩ | ⟨rfl, HO⟩ | ⟨rfl, HO⟩ | ⟨rfl, HO⟩ | ⟨rfl, HO⟩
     · go_wp2
       have hx0 : wr.cell? ⟨w.heap.size, 0, none⟩ = some (.int .u64 1073741824) := (Kd.R_celln 0 HO.out 0 (by decide) (by decide)).1
       have hx1 : wr.cell? ⟨w.heap.size, 4, none⟩ = some (.int .u64 902905650) := (Kd.R_celln 0 HO.out 4 (by decide) (by decide)).1
       have hx2 : wr.cell? ⟨w.heap.size, 2, none⟩ = some (.int .u64 0) := (Kd.R_celln 0 HO.out 2 (by decide) (by decide)).1
       have hf2 : wr.frozen? ⟨w.heap.size, 2, none⟩ = false := (Kd.R_celln 0 HO.out 2 (by decide) (by decide)).2
       have hw0 : IntKind.i64.wrap 0 = 0 := rfl
       have hw1 : IntKind.i64.wrap 4 = 4 := rfl
       go_region_held3 (fun w' => w'.cell? ⟨w.heap.size, 0, none⟩ = some (.int .u64 1073741824) ∧ w'.cell? ⟨w.heap.size, 4, none⟩ = some (.int .u64 902905650)) (first | go_keep | (exact ⟨cell_set_ne hx0 (by decide), cell_set_ne hx1 (by decide)⟩)) ((go_at_call 83; (with_reducible refine (thrumref13_Root.calls (IntKind.u64.wrap 969487559530905600) 984625593 _ thrumref13_Root.at_969487559530905600).mono ?_); rintro ed W2 ⟨rfl, ⟨nd, rfl⟩⟩))
       go_wp2
       have hb : Below wr.heap.size wr (wr.drewN (1 + nd)) := zzN (Below.refl _ _) _
       have hp := Kd.R_putg (Kd.R_below HO.out hb) 2 984625593
       exact ⟨⟨(.inr (.inl ⟨rfl, ⟨hp.1⟩⟩)), ⟨below_set (below_then HB.out HB.out.size hb) (Nat.le_refl _)⟩, ⟨cell_set_blk HC.out.1 (by omega), cell_set_blk HC.out.2.1 (by omega), cell_set_blk HC.out.2.2.1 (by omega), cell_set_blk HC.out.2.2.2 (by omega)⟩⟩, by simp [intOf]⟩
     · go_wp2
       have hx0 : wr.cell? ⟨w.heap.size, 4, none⟩ = some (.int .u64 902905650) := (Kd.R_celln 0 HO.out 4 (by decide) (by decide)).1
       have hx1 : wr.cell? ⟨w.heap.size, 8, none⟩ = some (.int .u64 759250124) := (Kd.R_celln 0 HO.out 8 (by decide) (by decide)).1
       have hx2 : wr.cell? ⟨w.heap.size, 6, none⟩ = some (.int .u64 0) := (Kd.R_celln 0 HO.out 6 (by decide) (by decide)).1
       have hf2 : wr.frozen? ⟨w.heap.size, 6, none⟩ = false := (Kd.R_celln 0 HO.out 6 (by decide) (by decide)).2
       have hw0 : IntKind.i64.wrap 4 = 4 := rfl
       have hw1 : IntKind.i64.wrap 8 = 8 := rfl
       go_region_held3 (fun w' => w'.cell? ⟨w.heap.size, 4, none⟩ = some (.int .u64 902905650) ∧ w'.cell? ⟨w.heap.size, 8, none⟩ = some (.int .u64 759250124)) (first | go_keep | (exact ⟨cell_set_ne hx0 (by decide), cell_set_ne hx1 (by decide)⟩)) ((go_at_call 83; (with_reducible refine (thrumref13_Root.calls (IntKind.u64.wrap 685531226722800600) 827968131 _ thrumref13_Root.at_685531226722800600).mono ?_); rintro ed W2 ⟨rfl, ⟨nd, rfl⟩⟩))
       go_wp2
       have hb : Below wr.heap.size wr (wr.drewN (1 + nd)) := zzN (Below.refl _ _) _
       have hp := Kd.R_putg (Kd.R_below HO.out hb) 6 827968131
       exact ⟨⟨(.inr (.inr (.inl ⟨rfl, ⟨hp.1⟩⟩))), ⟨below_set (below_then HB.out HB.out.size hb) (Nat.le_refl _)⟩, ⟨cell_set_blk HC.out.1 (by omega), cell_set_blk HC.out.2.1 (by omega), cell_set_blk HC.out.2.2.1 (by omega), cell_set_blk HC.out.2.2.2 (by omega)⟩⟩, by simp [intOf]⟩
     · go_wp2
       have hx0 : wr.cell? ⟨w.heap.size, 8, none⟩ = some (.int .u64 759250124) := (Kd.R_celln 0 HO.out 8 (by decide) (by decide)).1
       have hx1 : wr.cell? ⟨w.heap.size, 12, none⟩ = some (.int .u64 638450707) := (Kd.R_celln 0 HO.out 12 (by decide) (by decide)).1
       have hx2 : wr.cell? ⟨w.heap.size, 10, none⟩ = some (.int .u64 0) := (Kd.R_celln 0 HO.out 10 (by decide) (by decide)).1
       have hf2 : wr.frozen? ⟨w.heap.size, 10, none⟩ = false := (Kd.R_celln 0 HO.out 10 (by decide) (by decide)).2
       have hw0 : IntKind.i64.wrap 8 = 8 := rfl
       have hw1 : IntKind.i64.wrap 12 = 12 := rfl
       go_region_held3 (fun w' => w'.cell? ⟨w.heap.size, 8, none⟩ = some (.int .u64 759250124) ∧ w'.cell? ⟨w.heap.size, 12, none⟩ = some (.int .u64 638450707)) (first | go_keep | (exact ⟨cell_set_ne hx0 (by decide), cell_set_ne hx1 (by decide)⟩)) ((go_at_call 83; (with_reducible refine (thrumref13_Root.calls (IntKind.u64.wrap 484743778457637668) 696235433 _ thrumref13_Root.at_484743778457637668).mono ?_); rintro ed W2 ⟨rfl, ⟨nd, rfl⟩⟩))
       go_wp2
       have hb : Below wr.heap.size wr (wr.drewN (1 + nd)) := zzN (Below.refl _ _) _
       have hp := Kd.R_putg (Kd.R_below HO.out hb) 10 696235433
       exact ⟨⟨(.inr (.inr (.inr (.inl ⟨rfl, ⟨hp.1⟩⟩)))), ⟨below_set (below_then HB.out HB.out.size hb) (Nat.le_refl _)⟩, ⟨cell_set_blk HC.out.1 (by omega), cell_set_blk HC.out.2.1 (by omega), cell_set_blk HC.out.2.2.1 (by omega), cell_set_blk HC.out.2.2.2 (by omega)⟩⟩, by simp [intOf]⟩
     · go_wp2
       have hx0 : wr.cell? ⟨w.heap.size, 12, none⟩ = some (.int .u64 638450707) := (Kd.R_celln 0 HO.out 12 (by decide) (by decide)).1
       have hx1 : wr.cell? ⟨w.heap.size, 16, none⟩ = some (.int .u64 536870912) := (Kd.R_celln 0 HO.out 16 (by decide) (by decide)).1
       have hx2 : wr.cell? ⟨w.heap.size, 14, none⟩ = some (.int .u64 0) := (Kd.R_celln 0 HO.out 14 (by decide) (by decide)).1
       have hf2 : wr.frozen? ⟨w.heap.size, 14, none⟩ = false := (Kd.R_celln 0 HO.out 14 (by decide) (by decide)).2
       have hw0 : IntKind.i64.wrap 12 = 12 := rfl
       have hw1 : IntKind.i64.wrap 16 = 16 := rfl
       go_region_held3 (fun w' => w'.cell? ⟨w.heap.size, 12, none⟩ = some (.int .u64 638450707) ∧ w'.cell? ⟨w.heap.size, 16, none⟩ = some (.int .u64 536870912)) (first | go_keep | (exact ⟨cell_set_ne hx0 (by decide), cell_set_ne hx1 (by decide)⟩)) ((go_at_call 83; (with_reducible refine (thrumref13_Root.calls (IntKind.u64.wrap 342765613334134784) 585461880 _ thrumref13_Root.at_342765613334134784).mono ?_); rintro ed W2 ⟨rfl, ⟨nd, rfl⟩⟩))
       go_wp2
       have hb : Below wr.heap.size wr (wr.drewN (1 + nd)) := zzN (Below.refl _ _) _
       have hp := Kd.R_putg (Kd.R_below HO.out hb) 14 585461880
       exact ⟨⟨(.inr (.inr (.inr (.inr ⟨rfl, ⟨hp.1⟩⟩)))), ⟨below_set (below_then HB.out HB.out.size hb) (Nat.le_refl _)⟩, ⟨cell_set_blk HC.out.1 (by omega), cell_set_blk HC.out.2.1 (by omega), cell_set_blk HC.out.2.2.1 (by omega), cell_set_blk HC.out.2.2.2 (by omega)⟩⟩, by simp [intOf]⟩
     · go_wp2
       exact ⟨⟨(.inr (.inr (.inr (.inl ⟨rfl, HO⟩)))), HB, HC⟩, by simp [intOf]⟩
  · go_wp2_with fail
    go_loopw [4] (fun v W => ((v = .int .i64 1 ∧ Aside0 (Kd.R (Kd.int .u64) 71 W w.heap.size (fun _ => True) (.slice (some ⟨w.heap.size, 0, none⟩) 17 17) ([1073741824, 0, 984625593, 0, 902905650, 0, 827968131, 0, 759250124, 0, 696235433, 0, 638450707, 0, 585461880, 0, 536870912] : List Int))) ∨ (v = .int .i64 3 ∧ Aside0 (Kd.R (Kd.int .u64) 71 W w.heap.size (fun _ => True) (.slice (some ⟨w.heap.size, 0, none⟩) 17 17) ([1073741824, 1028218692, 984625593, 0, 902905650, 0, 827968131, 0, 759250124, 0, 696235433, 0, 638450707, 0, 585461880, 0, 536870912] : List Int))) ∨ (v = .int .i64 5 ∧ Aside0 (Kd.R (Kd.int .u64) 71 W w.heap.size (fun _ => True) (.slice (some ⟨w.heap.size, 0, none⟩) 17 17) ([1073741824, 1028218692, 984625593, 942880698, 902905650, 0, 827968131, 0, 759250124, 0, 696235433, 0, 638450707, 0, 585461880, 0, 536870912] : List Int))) ∨ (v = .int .i64 7 ∧ Aside0 (Kd.R (Kd.int .u64) 71 W w.heap.size (fun _ => True) (.slice (some ⟨w.heap.size, 0, none⟩) 17 17) ([1073741824, 1028218692, 984625593, 942880698, 902905650, 864625412, 827968131, 0, 759250124, 0, 696235433, 0, 638450707, 0, 585461880, 0, 536870912] : List Int))) ∨ (v = .int .i64 9 ∧ Aside0 (Kd.R (Kd.int .u64) 71 W w.heap.size (fun _ => True) (.slice (some ⟨w.heap.size, 0, none⟩) 17 17) ([1073741824, 1028218692, 984625593, 942880698, 902905650, 864625412, 827968131, 792864998, 759250124, 0, 696235433, 0, 638450707, 0, 585461880, 0, 536870912] : List Int))) ∨ (v = .int .i64 11 ∧ Aside0 (Kd.R (Kd.int .u64) 71 W w.heap.size (fun _ => True) (.slice (some ⟨w.heap.size, 0, none⟩) 17 17) ([1073741824, 1028218692, 984625593, 942880698, 902905650, 864625412, 827968131, 792864998, 759250124, 727060409, 696235433, 0, 638450707, 0, 585461880, 0, 536870912] : List Int))) ∨ (v = .int .i64 13 ∧ Aside0 (Kd.R (Kd.int .u64) 71 W w.heap.size (fun _ => True) (.slice (some ⟨w.heap.size, 0, none⟩) 17 17) ([1073741824, 1028218692, 984625593, 942880698, 902905650, 864625412, 827968131, 792864998, 759250124, 727060409, 696235433, 666717334, 638450707, 0, 585461880, 0, 536870912] : List Int))) ∨ (v = .int .i64 15 ∧ Aside0 (Kd.R (Kd.int .u64) 71 W w.heap.size (fun _ => True) (.slice (some ⟨w.heap.size, 0, none⟩) 17 17) ([1073741824, 1028218692, 984625593, 942880698, 902905650, 864625412, 827968131, 792864998, 759250124, 727060409, 696235433, 666717334, 638450707, 611382491, 585461880, 0, 536870912] : List Int))) ∨ (v = .int .i64 17 ∧ Aside0 (Kd.R (Kd.int .u64) 71 W w.heap.size (fun _ => True) (.slice (some ⟨w.heap.size, 0, none⟩) 17 17) ([1073741824, 1028218692, 984625593, 942880698, 902905650, 864625412, 827968131, 792864998, 759250124, 727060409, 696235433, 666717334, 638450707, 611382491, 585461880, 560640217, 536870912] : List Int)))) ∧ Aside0 (Below w.heap.size w W) ∧ Aside0 (W.cell? ⟨w.heap.size + 1, 0, none⟩ = some (.int .i64 8) ∧ W.cell? ⟨w.heap.size + 1, 1, none⟩ = some (.int .i64 4) ∧ W.cell? ⟨w.heap.size + 1, 2, none⟩ = some (.int .i64 2) ∧ W.cell? ⟨w.heap.size + 1, 3, none⟩ = some (.int .i64 1))) (fun v _ => 64 - (intOf v).toNat)
    case atStart => exact ⟨(.inl ⟨rfl, HO⟩), HB, HC⟩
    case round =>
     clear HO HB HC hc0 hc1 hc2 hc3
     obtain ⟨h, HB, HC⟩ := hrel
     rcases h with ⟨rfl, HO⟩ | ⟨rfl, HO⟩ | ⟨rfl, HO⟩ | ⟨rfl, HO⟩ | ⟨rfl, HO⟩ | ⟨rfl, HO⟩ | ⟨rfl, HO⟩ | ⟨rfl, HO⟩ | ⟨rfl, HO⟩
     · go_wp2
       have hx0 : wr.cell? ⟨w.heap.size, 0, none⟩ = some (.int .u64 1073741824) := (Kd.R_celln 0 HO.out 0 (by decide) (by decide)).1
       have hx1 : wr.cell? ⟨w.heap.size, 2, none⟩ = some (.int .u64 984625593) := (Kd.R_celln 0 HO.out 2 (by decide) (by decide)).1
       have hx2 : wr.cell? ⟨w.heap.size, 1, none⟩ = some (.int .u64 0) := (Kd.R_celln 0 HO.out 1 (by decide) (by decide)).1
       have hf2 : wr.frozen? ⟨w.heap.size, 1, none⟩ = false := (Kd.R_celln 0 HO.out 1 (by decide) (by decide)).2
       have hw0 : IntKind.i64.wrap 0 = 0 := rfl
       have hw1 : IntKind.i64.wrap 2 = 2 := rfl
       go_region_held3 (fun w' => w'.cell? ⟨w.heap.size, 0, none⟩ = some (.int .u64 1073741824) ∧ w'.cell? ⟨w.heap.size, 2, none⟩ = some (.int .u64 984625593)) (first | go_keep | (exact ⟨cell_set_ne hx0 (by decide), cell_set_ne hx1 (by decide)⟩)) ((go_at_call 83; (with_reducible refine (thrumref13_Root.calls (IntKind.u64.wrap 1057233680184901632) 1028218692 _ thrumref13_Root.at_1057233680184901632).mono ?_); rintro ed W2 ⟨rfl, ⟨nd, rfl⟩⟩))
       go_wp2
       have hb : Below wr.heap.size wr (wr.drewN (1 + nd)) := zzN (Below.refl _ _) _
       have hp := Kd.R_putg (Kd.R_below HO.out hb) 1 1028218692
       exact ⟨⟨(.inr (.inl ⟨rfl, ⟨hp.1⟩⟩)), ⟨below_set (below_then HB.out HB.out.size hb) (Nat.le_refl _)⟩, ⟨cell_set_blk HC.out.1 (by omega), cell_set_blk HC.out.2.1 (by omega), cell_set_blk HC.out.2.2.1 (by omega), cell_set_blk HC.out.2.2.2 (by omega)⟩⟩, by simp [intOf]⟩
     · go_wp2
       have hx0 : wr.cell? ⟨w.heap.size, 2, none⟩ = some (.int .u64 984625593) := (Kd.R_celln 0 HO.out 2 (by decide) (by decide)).1
       have hx1 : wr.cell? ⟨w.heap.size, 4, none⟩ = some (.int .u64 902905650) := (Kd.R_celln 0 HO.out 4 (by decide) (by decide)).1
       have hx2 : wr.cell? ⟨w.heap.size, 3, none⟩ = some (.int .u64 0) := (Kd.R_celln 0 HO.out 3 (by decide) (by decide)).1
       have hf2 : wr.frozen? ⟨w.heap.size, 3, none⟩ = false := (Kd.R_celln 0 HO.out 3 (by decide) (by decide)).2
       have hw0 : IntKind.i64.wrap 2 = 2 := rfl
       have hw1 : IntKind.i64.wrap 4 = 4 := rfl
       go_region_held3 (fun w' => w'.cell? ⟨w.heap.size, 2, none⟩ = some (.int .u64 984625593) ∧ w'.cell? ⟨w.heap.size, 4, none⟩ = some (.int .u64 902905650)) (first | go_keep | (exact ⟨cell_set_ne hx0 (by decide), cell_set_ne hx1 (by decide)⟩)) ((go_at_call 83; (with_reducible refine (thrumref13_Root.calls (IntKind.u64.wrap 889024011054300450) 942880698 _ thrumref13_Root.at_889024011054300450).mono ?_); rintro ed W2 ⟨rfl, ⟨nd, rfl⟩⟩))
       go_wp2
       have hb : Below wr.heap.size wr (wr.drewN (1 + nd)) := zzN (Below.refl _ _) _
       have hp := Kd.R_putg (Kd.R_below HO.out hb) 3 942880698
       exact ⟨⟨(.inr (.inr (.inl ⟨rfl, ⟨hp.1⟩⟩))), ⟨below_set (below_then HB.out HB.out.size hb) (Nat.le_refl _)⟩, ⟨cell_set_blk HC.out.1 (by omega), cell_set_blk HC.out.2.1 (by omega), cell_set_blk HC.out.2.2.1 (by omega), cell_set_blk HC.out.2.2.2 (by omega)⟩⟩, by simp [intOf]⟩
     · go_wp2
       have hx0 : wr.cell? ⟨w.heap.size, 4, none⟩ = some (.int .u64 902905650) := (Kd.R_celln 0 HO.out 4 (by decide) (by decide)).1
       have hx1 : wr.cell? ⟨w.heap.size, 6, none⟩ = some (.int .u64 827968131) := (Kd.R_celln 0 HO.out 6 (by decide) (by decide)).1
       have hx2 : wr.cell? ⟨w.heap.size, 5, none⟩ = some (.int .u64 0) := (Kd.R_celln 0 HO.out 5 (by decide) (by decide)).1
       have hf2 : wr.frozen? ⟨w.heap.size, 5, none⟩ = false := (Kd.R_celln 0 HO.out 5 (by decide) (by decide)).2
       have hw0 : IntKind.i64.wrap 4 = 4 := rfl
       have hw1 : IntKind.i64.wrap 6 = 6 := rfl
       go_region_held3 (fun w' => w'.cell? ⟨w.heap.size, 4, none⟩ = some (.int .u64 902905650) ∧ w'.cell? ⟨w.heap.size, 6, none⟩ = some (.int .u64 827968131)) (first | go_keep | (exact ⟨cell_set_ne hx0 (by decide), cell_set_ne hx1 (by decide)⟩)) ((go_at_call 83; (with_reducible refine (thrumref13_Root.calls (IntKind.u64.wrap 747577103499840150) 864625412 _ thrumref13_Root.at_747577103499840150).mono ?_); rintro ed W2 ⟨rfl, ⟨nd, rfl⟩⟩))
       go_wp2
       have hb : Below wr.heap.size wr (wr.drewN (1 + nd)) := zzN (Below.refl _ _) _
       have hp := Kd.R_putg (Kd.R_below HO.out hb) 5 864625412
       exact ⟨⟨(.inr (.inr (.inr (.inl ⟨rfl, ⟨hp.1⟩⟩)))), ⟨below_set (below_then HB.out HB.out.size hb) (Nat.le_refl _)⟩, ⟨cell_set_blk HC.out.1 (by omega), cell_set_blk HC.out.2.1 (by omega), cell_set_blk HC.out.2.2.1 (by omega), cell_set_blk HC.out.2.2.2 (by omega)⟩⟩, by simp [intOf]⟩
     · go_wp2
       have hx0 : wr.cell? ⟨w.heap.size, 6, none⟩ = some (.int .u64 827968131) := (Kd.R_celln 0 HO.out 6 (by decide) (by decide)).1
       have hx1 : wr.cell? ⟨w.heap.size, 8, none⟩ = some (.int .u64 759250124) := (Kd.R_celln 0 HO.out 8 (by decide) (by decide)).1
       have hx2 : wr.cell? ⟨w.heap.size, 7, none⟩ = some (.int .u64 0) := (Kd.R_celln 0 HO.out 7 (by decide) (by decide)).1
       have hf2 : wr.frozen? ⟨w.heap.size, 7, none⟩ = false := (Kd.R_celln 0 HO.out 7 (by decide) (by decide)).2
       have hw0 : IntKind.i64.wrap 6 = 6 := rfl
       have hw1 : IntKind.i64.wrap 8 = 8 := rfl
       go_region_held3 (fun w' => w'.cell? ⟨w.heap.size, 6, none⟩ = some (.int .u64 827968131) ∧ w'.cell? ⟨w.heap.size, 8, none⟩ = some (.int .u64 759250124)) (first | go_keep | (exact ⟨cell_set_ne hx0 (by decide), cell_set_ne hx1 (by decide)⟩)) ((go_at_call 83; (with_reducible refine (thrumref13_Root.calls (IntKind.u64.wrap 628634906129798244) 792864998 _ thrumref13_Root.at_628634906129798244).mono ?_); rintro ed W2 ⟨rfl, ⟨nd, rfl⟩⟩))
       go_wp2
       have hb : Below wr.heap.size wr (wr.drewN (1 + nd)) := zzN (Below.refl _ _) _
       have hp := Kd.R_putg (Kd.R_below HO.out hb) 7 792864998
       exact ⟨⟨(.inr (.inr (.inr (.inr (.inl ⟨rfl, ⟨hp.1⟩⟩))))), ⟨below_set (below_then HB.out HB.out.size hb) (Nat.le_refl _)⟩, ⟨cell_set_blk HC.out.1 (by omega), cell_set_blk HC.out.2.1 (by omega), cell_set_blk HC.out.2.2.1 (by omega), cell_set_blk HC.out.2.2.2 (by omega)⟩⟩, by simp [intOf]⟩
     · go_wp2
       have hx0 : wr.cell? ⟨w.heap.size, 8, none⟩ = some (.int .u64 759250124) := (Kd.R_celln 0 HO.out 8 (by decide) (by decide)).1
       have hx1 : wr.cell? ⟨w.heap.size, 10, none⟩ = some (.int .u64 696235433) := (Kd.R_celln 0 HO.out 10 (by decide) (by decide)).1
       have hx2 : wr.cell? ⟨w.heap.size, 9, none⟩ = some (.int .u64 0) := (Kd.R_celln 0 HO.out 9 (by decide) (by decide)).1
       have hf2 : wr.frozen? ⟨w.heap.size, 9, none⟩ = false := (Kd.R_celln 0 HO.out 9 (by decide) (by decide)).2
       have hw0 : IntKind.i64.wrap 8 = 8 := rfl
       have hw1 : IntKind.i64.wrap 10 = 10 := rfl
       go_region_held3 (fun w' => w'.cell? ⟨w.heap.size, 8, none⟩ = some (.int .u64 759250124) ∧ w'.cell? ⟨w.heap.size, 10, none⟩ = some (.int .u64 696235433)) (first | go_keep | (exact ⟨cell_set_ne hx0 (by decide), cell_set_ne hx1 (by decide)⟩)) ((go_at_call 83; (with_reducible refine (thrumref13_Root.calls (IntKind.u64.wrap 528616838838443692) 727060409 _ thrumref13_Root.at_528616838838443692).mono ?_); rintro ed W2 ⟨rfl, ⟨nd, rfl⟩⟩))
       go_wp2
       have hb : Below wr.heap.size wr (wr.drewN (1 + nd)) := zzN (Below.refl _ _) _
       have hp := Kd.R_putg (Kd.R_below HO.out hb) 9 727060409
       exact ⟨⟨(.inr (.inr (.inr (.inr (.inr (.inl ⟨rfl, ⟨hp.1⟩⟩)))))), ⟨below_set (below_then HB.out HB.out.size hb) (Nat.le_refl _)⟩, ⟨cell_set_blk HC.out.1 (by omega), cell_set_blk HC.out.2.1 (by omega), cell_set_blk HC.out.2.2.1 (by omega), cell_set_blk HC.out.2.2.2 (by omega)⟩⟩, by simp [intOf]⟩
     · go_wp2
       have hx0 : wr.cell? ⟨w.heap.size, 10, none⟩ = some (.int .u64 696235433) := (Kd.R_celln 0 HO.out 10 (by decide) (by decide)).1
       have hx1 : wr.cell? ⟨w.heap.size, 12, none⟩ = some (.int .u64 638450707) := (Kd.R_celln 0 HO.out 12 (by decide) (by decide)).1
       have hx2 : wr.cell? ⟨w.heap.size, 11, none⟩ = some (.int .u64 0) := (Kd.R_celln 0 HO.out 11 (by decide) (by decide)).1
       have hf2 : wr.frozen? ⟨w.heap.size, 11, none⟩ = false := (Kd.R_celln 0 HO.out 11 (by decide) (by decide)).2
       have hw0 : IntKind.i64.wrap 10 = 10 := rfl
       have hw1 : IntKind.i64.wrap 12 = 12 := rfl
       go_region_held3 (fun w' => w'.cell? ⟨w.heap.size, 10, none⟩ = some (.int .u64 696235433) ∧ w'.cell? ⟨w.heap.size, 12, none⟩ = some (.int .u64 638450707)) (first | go_keep | (exact ⟨cell_set_ne hx0 (by decide), cell_set_ne hx1 (by decide)⟩)) ((go_at_call 83; (with_reducible refine (thrumref13_Root.calls (IntKind.u64.wrap 444512004437301131) 666717334 _ thrumref13_Root.at_444512004437301131).mono ?_); rintro ed W2 ⟨rfl, ⟨nd, rfl⟩⟩))
       go_wp2
       have hb : Below wr.heap.size wr (wr.drewN (1 + nd)) := zzN (Below.refl _ _) _
       have hp := Kd.R_putg (Kd.R_below HO.out hb) 11 666717334
       exact ⟨⟨(.inr (.inr (.inr (.inr (.inr (.inr (.inl ⟨rfl, ⟨hp.1⟩⟩))))))), ⟨below_set (below_then HB.out HB.out.size hb) (Nat.le_refl _)⟩, ⟨cell_set_blk HC.out.1 (by omega), cell_set_blk HC.out.2.1 (by omega), cell_set_blk HC.out.2.2.1 (by omega), cell_set_blk HC.out.2.2.2 (by omega)⟩⟩, by simp [intOf]⟩
     · go_wp2
       have hx0 : wr.cell? ⟨w.heap.size, 12, none⟩ = some (.int .u64 638450707) := (Kd.R_celln 0 HO.out 12 (by decide) (by decide)).1
       have hx1 : wr.cell? ⟨w.heap.size, 14, none⟩ = some (.int .u64 585461880) := (Kd.R_celln 0 HO.out 14 (by decide) (by decide)).1
       have hx2 : wr.cell? ⟨w.heap.size, 13, none⟩ = some (.int .u64 0) := (Kd.R_celln 0 HO.out 13 (by decide) (by decide)).1
       have hf2 : wr.frozen? ⟨w.heap.size, 13, none⟩ = false := (Kd.R_celln 0 HO.out 13 (by decide) (by decide)).2
       have hw0 : IntKind.i64.wrap 12 = 12 := rfl
       have hw1 : IntKind.i64.wrap 14 = 14 := rfl
       go_region_held3 (fun w' => w'.cell? ⟨w.heap.size, 12, none⟩ = some (.int .u64 638450707) ∧ w'.cell? ⟨w.heap.size, 14, none⟩ = some (.int .u64 585461880)) (first | go_keep | (exact ⟨cell_set_ne hx0 (by decide), cell_set_ne hx1 (by decide)⟩)) ((go_at_call 83; (with_reducible refine (thrumref13_Root.calls (IntKind.u64.wrap 373788551207549160) 611382491 _ thrumref13_Root.at_373788551207549160).mono ?_); rintro ed W2 ⟨rfl, ⟨nd, rfl⟩⟩))
       go_wp2
       have hb : Below wr.heap.size wr (wr.drewN (1 + nd)) := zzN (Below.refl _ _) _
       have hp := Kd.R_putg (Kd.R_below HO.out hb) 13 611382491
       exact ⟨⟨(.inr (.inr (.inr (.inr (.inr (.inr (.inr (.inl ⟨rfl, ⟨hp.1⟩⟩)))))))), ⟨below_set (below_then HB.out HB.out.size hb) (Nat.le_refl _)⟩, ⟨cell_set_blk HC.out.1 (by omega), cell_set_blk HC.out.2.1 (by omega), cell_set_blk HC.out.2.2.1 (by omega), cell_set_blk HC.out.2.2.2 (by omega)⟩⟩, by simp [intOf]⟩
     · go_wp2
       have hx0 : wr.cell? ⟨w.heap.size, 14, none⟩ = some (.int .u64 585461880) := (Kd.R_celln 0 HO.out 14 (by decide) (by decide)).1
       have hx1 : wr.cell? ⟨w.heap.size, 16, none⟩ = some (.int .u64 536870912) := (Kd.R_celln 0 HO.out 16 (by decide) (by decide)).1
       have hx2 : wr.cell? ⟨w.heap.size, 15, none⟩ = some (.int .u64 0) := (Kd.R_celln 0 HO.out 15 (by decide) (by decide)).1
       have hf2 : wr.frozen? ⟨w.heap.size, 15, none⟩ = false := (Kd.R_celln 0 HO.out 15 (by decide) (by decide)).2
       have hw0 : IntKind.i64.wrap 14 = 14 := rfl
       have hw1 : IntKind.i64.wrap 16 = 16 := rfl
       go_region_held3 (fun w' => w'.cell? ⟨w.heap.size, 14, none⟩ = some (.int .u64 585461880) ∧ w'.cell? ⟨w.heap.size, 16, none⟩ = some (.int .u64 536870912)) (first | go_keep | (exact ⟨cell_set_ne hx0 (by decide), cell_set_ne hx1 (by decide)⟩)) ((go_at_call 83; (with_reducible refine (thrumref13_Root.calls (IntKind.u64.wrap 314317453456834560) 560640217 _ thrumref13_Root.at_314317453456834560).mono ?_); rintro ed W2 ⟨rfl, ⟨nd, rfl⟩⟩))
       go_wp2
       have hb : Below wr.heap.size wr (wr.drewN (1 + nd)) := zzN (Below.refl _ _) _
       have hp := Kd.R_putg (Kd.R_below HO.out hb) 15 560640217
       exact ⟨⟨(.inr (.inr (.inr (.inr (.inr (.inr (.inr (.inr ⟨rfl, ⟨hp.1⟩⟩)))))))), ⟨below_set (below_then HB.out HB.out.size hb) (Nat.le_refl _)⟩, ⟨cell_set_blk HC.out.1 (by omega), cell_set_blk HC.out.2.1 (by omega), cell_set_blk HC.out.2.2.1 (by omega), cell_set_blk HC.out.2.2.2 (by omega)⟩⟩, by simp [intOf]⟩
     · go_wp2
       exact ⟨⟨(.inr (.inr (.inr (.inr ⟨rfl, HO⟩)))), HB, HC⟩, by simp [intOf]⟩
  · go_wp2
    go_ret
    exact ⟨_, rfl, HO.out, HB.out⟩
/-! ### thrumref13_ExpP: function 43 -/
mutual
def thrumref13_ExpP.j0 : Nat → Int → Int → Bool → Option (Int × Int)
 | 0, _, _, _ => none
 | k + 1, x0, x1, x22 => if x22 = true then (some (0, 1)) else ((thrumref01_Neg.f x0).bind fun bt304 => (if bt304.2 = 0 then (if 0 ≤ x1 then (if (shl .i64 1 x1) = 0 then (none) else ((thrumref13_Rows.f).bind fun t306 => (if 0 ≤ (wrap64 (Int.tdiv (wrap64 ((Int.tmod bt304.1 (shl .i64 1 x1)) * 16)) (shl .i64 1 x1))) then (if (wrap64 (Int.tdiv (wrap64 ((Int.tmod bt304.1 (shl .i64 1 x1)) * 16)) (shl .i64 1 x1))) < (t306.length : Int) then (thrumref13_ExpP.l0 k (wrap64 (Int.tdiv bt304.1 (shl .i64 1 x1))) (rd t306 (wrap64 (Int.tdiv (wrap64 ((Int.tmod bt304.1 (shl .i64 1 x1)) * 16)) (shl .i64 1 x1)))) (wrap64 (30 - x1)) 0) else (none)) else (none)))) else (none)) else (some (0, bt304.2))))
def thrumref13_ExpP.l0 : Nat → Int → Int → Int → Int → Option (Int × Int)
 | 0, _, _, _, _ => none
 | k + 1, x9, x11, x47, x48 => if x48 < x47 then (thrumref13_ExpP.l0 k x9 (IntKind.u64.wrap (Int.tdiv x11 2)) x47 (wrap64 (x48 + 1))) else (thrumref13_ExpP.l1 k x9 x11 0)
def thrumref13_ExpP.l1 : Nat → Int → Int → Int → Option (Int × Int)
 | 0, _, _, _ => none
 | k + 1, x9, x11, x12 => if x12 < x9 then (if x11 > 0 then (thrumref13_ExpP.l1 k x9 (IntKind.u64.wrap (Int.tdiv x11 2)) (wrap64 (x12 + 1))) else (some (wrap64 (x11), 0))) else (some (wrap64 (x11), 0))
end
def thrumref13_ExpP.f (k : Nat) (a0 : Int) (a1 : Int) : Option (Int × Int) := if a1 < 0 then (thrumref13_ExpP.j0 k a0 a1 true) else (if a1 > 30 then (thrumref13_ExpP.j0 k a0 a1 true) else (thrumref13_ExpP.j0 k a0 a1 (decide (a0 > 0))))
theorem thrumref13_ExpP.mono_l : ∀ k, (∀ y0 y1 y2, LeO (thrumref13_ExpP.j0 k y0 y1 y2) (thrumref13_ExpP.j0 (k + 1) y0 y1 y2)) ∧ (∀ y0 y1 y2 y3, LeO (thrumref13_ExpP.l0 k y0 y1 y2 y3) (thrumref13_ExpP.l0 (k + 1) y0 y1 y2 y3)) ∧ (∀ y0 y1 y2, LeO (thrumref13_ExpP.l1 k y0 y1 y2) (thrumref13_ExpP.l1 (k + 1) y0 y1 y2))
 | 0 => ⟨fun _ _ _ r h => by simp [thrumref13_ExpP.j0] at h, fun _ _ _ _ r h => by simp [thrumref13_ExpP.l0] at h, fun _ _ _ r h => by simp [thrumref13_ExpP.l1] at h⟩
 | k + 1 => by
  obtain ⟨ih0, ih1, ih2⟩ := thrumref13_ExpP.mono_l k
  refine ⟨?_, ?_, ?_⟩
  ·
   intro y0 y1 y2
   unfold thrumref13_ExpP.j0
   repeat' first
   | (with_reducible exact ih0 _ _ _)
   | (with_reducible exact ih1 _ _ _ _)
   | (with_reducible exact ih2 _ _ _)
   | (with_reducible exact LeO.refl _)
   | (with_reducible exact LeO.none _)
   | (with_reducible refine LeO.ite ?_ ?_)
   | (with_reducible refine LeO.bind ?_ (fun _ => ?_))
  ·
   intro y0 y1 y2 y3
   unfold thrumref13_ExpP.l0
   repeat' first
   | (with_reducible exact ih0 _ _ _)
   | (with_reducible exact ih1 _ _ _ _)
   | (with_reducible exact ih2 _ _ _)
   | (with_reducible exact LeO.refl _)
   | (with_reducible exact LeO.none _)
   | (with_reducible refine LeO.ite ?_ ?_)
   | (with_reducible refine LeO.bind ?_ (fun _ => ?_))
  ·
   intro y0 y1 y2
   unfold thrumref13_ExpP.l1
   repeat' first
   | (with_reducible exact ih0 _ _ _)
   | (with_reducible exact ih1 _ _ _ _)
   | (with_reducible exact ih2 _ _ _)
   | (with_reducible exact LeO.refl _)
   | (with_reducible exact LeO.none _)
   | (with_reducible refine LeO.ite ?_ ?_)
   | (with_reducible refine LeO.bind ?_ (fun _ => ?_))
theorem thrumref13_ExpP.mono : ∀ a0 a1 k, LeO (thrumref13_ExpP.f k a0 a1) (thrumref13_ExpP.f (k + 1) a0 a1) := by
 intro a0 a1 k
 obtain ⟨ih0, ih1, ih2⟩ := thrumref13_ExpP.mono_l k
 unfold thrumref13_ExpP.f
 repeat' first
   | (with_reducible exact ih0 _ _ _)
   | (with_reducible exact ih1 _ _ _ _)
   | (with_reducible exact ih2 _ _ _)
   | (with_reducible exact LeO.refl _)
   | (with_reducible exact LeO.none _)
   | (with_reducible refine LeO.ite ?_ ?_)
   | (with_reducible refine LeO.bind ?_ (fun _ => ?_))
def thrumref13_ExpP.T9 : Bool × List (List Nat × List Nat) := (true, [([], []), ([], []), ([1], [1]), ([], []), ([2, 3], [2, 3]), ([0, 4], [0, 4]), ([5], [5]), ([6, 0, 0, 1, 2, 3, 4, 5, 6], [6])])
def thrumref13_ExpP.B9 : List Nat := [0, 0, 2, 0, 14, 31, 63, 127]
theorem thrumref13_ExpP.tab9 : rtab .any (opsOf Try.f43 9) = thrumref13_ExpP.T9 := by kernel_rfl
theorem thrumref13_ExpP.bits9 : waitsOk thrumref13_ExpP.T9.2 thrumref13_ExpP.B9 = true := by kernel_rfl
set_option maxHeartbeats 8000000 in
set_option maxRecDepth 100000 in
theorem thrumref13_ExpP.calls (k : Nat) (a0 : Int) (a1 : Int) (r1 : Int) (r2 : Int) (w : World) (h : thrumref13_ExpP.f k a0 a1 = some (r1, r2)) :
  Calls Try.prog 43 #[.int .i64 a0, .int .i64 a1] w fun e w' => e = .returned (.tuple #[.int .i64 r1, .int .i64 r2]) ∧ Below w.heap.size w w' := by
 have HB := ZM (Below.refl w.heap.size w)
 have H : (if a1 < 0 then (thrumref13_ExpP.j0 k a0 a1 true) else (if a1 > 30 then (thrumref13_ExpP.j0 k a0 a1 true) else (thrumref13_ExpP.j0 k a0 a1 (decide (a0 > 0))))) = some (r1, r2) := h
 clear h
 have HC3 := ZM H
 clear H
 go_enter Try.func43, Try.ntmps43
 go_upto_region 1 with (fail)
 go_cut [22] (fun v22 wc => ∃ (kq : Nat) (x22_2 : Bool), v22 = .bool x22_2 ∧ Aside0 (thrumref13_ExpP.j0 kq a0 a1 x22_2 = some (r1, r2)) ∧ Aside0 (kq ≤ k) ∧ Aside0 (Below w.heap.size w wc))
 case first =>
  have H := HC3.out
  clear HC3
  by_cases c4 : a1 < 0
  ·
   rw [if_pos c4] at H
   have c4b0 : decide (a1 < 0) = true := decide_eq_true c4
   clear c4
   (first | rw [c4b0] | (simp only [i64_w, i32_w]; rw [c4b0]) | skip)
   have H' := ZM H
   clear H
   go_wp2
   go_meet
   case rel => exact ⟨_, (true), Z5, H', ⟨by first | omega | exact Nat.le_refl _⟩, ⟨by repeat (first | (with_reducible first | exact HB.out | apply zzA | apply zzN | apply zzD) | exact HB.out)⟩⟩
  rw [if_neg c4] at H
  have c4b0 : decide (a1 < 0) = false := decide_eq_false c4
  clear c4
  (first | rw [c4b0] | (simp only [i64_w, i32_w]; rw [c4b0]) | skip)
  by_cases c5 : a1 > 30
  case neg =>
   rw [if_neg c5] at H
   have c5b0 : decide (30 < a1) = false := decide_eq_false c5
   clear c5
   have H' := ZM H
   clear H
   go_wp2
   go_meet
   case rel => exact ⟨_, (decide (a0 > 0)), Z5, H', ⟨by first | omega | exact Nat.le_refl _⟩, ⟨by repeat (first | (with_reducible first | exact HB.out | apply zzA | apply zzN | apply zzD) | exact HB.out)⟩⟩
  rw [if_pos c5] at H
  have c5b0 : decide (30 < a1) = true := decide_eq_true c5
  clear c5
  have H' := ZM H
  clear H
  go_wp2
  go_meet
  case rel => exact ⟨_, (true), Z5, H', ⟨by first | omega | exact Nat.le_refl _⟩, ⟨by repeat (first | (with_reducible first | exact HB.out | apply zzA | apply zzN | apply zzD) | exact HB.out)⟩⟩
 clear HC3
 obtain ⟨kq, x22_2, rfl, HA, HJ2, HB⟩ := hcut
 cases kq with
 | zero => exact absurd HA.out (by simp [thrumref13_ExpP.j0])
 | succ kj2 =>
  have H := HA.out
  clear HA
  simp only [thrumref13_ExpP.j0] at H
  by_cases c6 : x22_2 = true
  ·
   subst c6
   have H1 : (some (0, 1)) = some (r1, r2) := by rw [if_pos rfl] at H; exact H
   clear H
   have H := H1
   clear H1
   simp only [Option.some.injEq, Prod.mk.injEq] at H
   obtain ⟨rfl, rfl⟩ := H
   go_wp2
   go_ret2
   exact ⟨by first | rfl | (simp [errW_none, errW_some] <;> rfl) | (simp [*, errW_none, errW_some] <;> rfl), by repeat (first | (with_reducible first | exact HB.out | apply zzA | apply zzN | apply zzD) | exact HB.out)⟩
  replace c6 := Bool.eq_false_iff.mpr c6
  subst c6
  have H1 : ((thrumref01_Neg.f a0).bind fun bt304 => (if bt304.2 = 0 then (if 0 ≤ a1 then (if (shl .i64 1 a1) = 0 then (none) else ((thrumref13_Rows.f).bind fun t306 => (if 0 ≤ (wrap64 (Int.tdiv (wrap64 ((Int.tmod bt304.1 (shl .i64 1 a1)) * 16)) (shl .i64 1 a1))) then (if (wrap64 (Int.tdiv (wrap64 ((Int.tmod bt304.1 (shl .i64 1 a1)) * 16)) (shl .i64 1 a1))) < (t306.length : Int) then (thrumref13_ExpP.l0 kj2 (wrap64 (Int.tdiv bt304.1 (shl .i64 1 a1))) (rd t306 (wrap64 (Int.tdiv (wrap64 ((Int.tmod bt304.1 (shl .i64 1 a1)) * 16)) (shl .i64 1 a1)))) (wrap64 (30 - a1)) 0) else (none)) else (none)))) else (none)) else (some (0, bt304.2)))) = some (r1, r2) := by rw [if_neg (show ¬ (false = true) by decide)] at H; exact H
  clear H
  have H := H1
  clear H1
  replace H := Option.bind_eq_some_iff.mp H
  obtain ⟨⟨t304, t305⟩, A70, H⟩ := H
  replace H : (if t305 = 0 then (if 0 ≤ a1 then (if (shl .i64 1 a1) = 0 then (none) else ((thrumref13_Rows.f).bind fun t306 => (if 0 ≤ (wrap64 (Int.tdiv (wrap64 ((Int.tmod t304 (shl .i64 1 a1)) * 16)) (shl .i64 1 a1))) then (if (wrap64 (Int.tdiv (wrap64 ((Int.tmod t304 (shl .i64 1 a1)) * 16)) (shl .i64 1 a1))) < (t306.length : Int) then (thrumref13_ExpP.l0 kj2 (wrap64 (Int.tdiv t304 (shl .i64 1 a1))) (rd t306 (wrap64 (Int.tdiv (wrap64 ((Int.tmod t304 (shl .i64 1 a1)) * 16)) (shl .i64 1 a1)))) (wrap64 (30 - a1)) 0) else (none)) else (none)))) else (none)) else (some (0, t305))) = some (r1, r2) := H
  have A7 := ZM A70
  clear A70
  by_cases c8 : t305 = 0
  case neg =>
   rw [if_neg c8] at H
   have c8b0 : (t305 == 0) = false := beq_eq_false_iff_ne.mpr c8
   have c8b1 : (t305 != 0) = true := bne_iff_ne.mpr c8
   simp only [Option.some.injEq, Prod.mk.injEq] at H
   obtain ⟨rfl, rfl⟩ := H
   go_wp2_with (first | ((with_reducible refine gate_callee (f := 65) rfl ?_); refine goesL_ (some 25) rfl rfl Try.func65 (by kernel_rfl) rfl #[.int .i64 a0] rfl Z2 ?_; (with_reducible refine (thrumref01_Neg.calls a0 t304 t305 _ A7.out).mono ?_); rintro e w' ⟨rfl, ⟨nd, rfl⟩⟩; refine ⟨_, rfl, ?_⟩))
   go_ret2
   exact ⟨by first | rfl | (simp [errW_none, errW_some] <;> rfl) | (simp [*, errW_none, errW_some] <;> rfl), by repeat (first | (with_reducible first | exact HB.out | apply zzA | apply zzN | apply zzD) | exact HB.out)⟩
  rw [if_pos c8] at H
  have c8b0 : (t305 == 0) = true := beq_iff_eq.mpr c8
  have c8b1 : (t305 != 0) = false := bne_eq_false_iff_eq.mpr c8
  clear c8
  by_cases c9 : 0 ≤ a1
  case neg =>
   rw [if_neg c9] at H
   exact absurd H (by simp)
  rw [if_pos c9] at H
  have c9b0 := eq_true c9
  have c9b1 : decide (0 ≤ a1) = true := decide_eq_true c9
  clear c9
  obtain ⟨ji10, hji10⟩ : ∃ j_ : Int, (shl .i64 1 a1) = j_ := ⟨_, rfl⟩
  replace H : (if (ji10) = 0 then (none) else ((thrumref13_Rows.f).bind fun t306 => (if 0 ≤ (wrap64 (Int.tdiv (wrap64 ((Int.tmod t304 (ji10)) * 16)) (ji10))) then (if (wrap64 (Int.tdiv (wrap64 ((Int.tmod t304 (ji10)) * 16)) (ji10))) < (t306.length : Int) then (thrumref13_ExpP.l0 kj2 (wrap64 (Int.tdiv t304 (ji10))) (rd t306 (wrap64 (Int.tdiv (wrap64 ((Int.tmod t304 (ji10)) * 16)) (ji10)))) (wrap64 (30 - a1)) 0) else (none)) else (none)))) = some (r1, r2) := by first | (rw [hji10] at H; exact H) | (simp only [hji10] at H ⊢; exact H)
  (try rw [hji10] at A7)
  have hji10_ : (IntKind.i64.wrap (1 * 2 ^ min a1.toNat 64)) = ji10 := hji10
  have hji10z : a1 ≤ 64 → (IntKind.i64.wrap (1 * 2 ^ a1.toNat)) = ji10 := shl_small hji10
  have hji10u : (IntKind.i64.wrap (2 ^ min a1.toNat 64)) = ji10 := by have h_ := hji10_; rw [Int.one_mul] at h_; exact h_
  have hji10v : a1 ≤ 64 → (IntKind.i64.wrap (2 ^ a1.toNat)) = ji10 := fun hle_ => by have h_ := hji10z hle_; rw [Int.one_mul] at h_; exact h_
  have hji10y : (wrap64 (1 * 2 ^ min a1.toNat 64)) = ji10 := (i64_w _).symm.trans hji10_
  have hji10x : a1 ≤ 64 → (wrap64 (1 * 2 ^ a1.toNat)) = ji10 := fun h_ => (i64_w _).symm.trans (hji10z h_)
  by_cases c11 : (ji10) = 0
  ·
   rw [if_pos c11] at H
   exact absurd H (by simp)
  rw [if_neg c11] at H
  have c11b0 : ((ji10) == 0) = false := beq_eq_false_iff_ne.mpr c11
  have c11b1 : ((ji10) != 0) = true := bne_iff_ne.mpr c11
  replace H := Option.bind_eq_some_iff.mp H
  obtain ⟨t306, A120, H⟩ := H
  replace H : (if 0 ≤ (wrap64 (Int.tdiv (wrap64 ((Int.tmod t304 (ji10)) * 16)) (ji10))) then (if (wrap64 (Int.tdiv (wrap64 ((Int.tmod t304 (ji10)) * 16)) (ji10))) < (t306.length : Int) then (thrumref13_ExpP.l0 kj2 (wrap64 (Int.tdiv t304 (ji10))) (rd t306 (wrap64 (Int.tdiv (wrap64 ((Int.tmod t304 (ji10)) * 16)) (ji10)))) (wrap64 (30 - a1)) 0) else (none)) else (none)) = some (r1, r2) := H
  have A12 := ZM A120
  clear A120
  obtain ⟨ji13, hji13⟩ : ∃ j_ : Int, (wrap64 (Int.tdiv (wrap64 ((Int.tmod t304 (ji10)) * 16)) (ji10))) = j_ := ⟨_, rfl⟩
  replace H : (if 0 ≤ (ji13) then (if (ji13) < (t306.length : Int) then (thrumref13_ExpP.l0 kj2 (wrap64 (Int.tdiv t304 (ji10))) (rd t306 (ji13)) (wrap64 (30 - a1)) 0) else (none)) else (none)) = some (r1, r2) := by first | (rw [hji13] at H; exact H) | (simp only [hji13] at H ⊢; exact H)
  (try rw [hji13] at A7)
  (try rw [hji13] at A12)
  have hji13w : (IntKind.i64.wrap (Int.tdiv (wrap64 ((Int.tmod t304 (ji10)) * 16)) (ji10))) = ji13 := (i64_w _).trans hji13
  by_cases c14 : 0 ≤ (ji13)
  case neg =>
   rw [if_neg c14] at H
   exact absurd H (by simp)
  rw [if_pos c14] at H
  have c14b0 : decide (0 ≤ (ji13)) = true := decide_eq_true c14
  clear c14
  by_cases c15 : (ji13) < (t306.length : Int)
  case neg =>
   rw [if_neg c15] at H
   exact absurd H (by simp)
  rw [if_pos c15] at H
  have c15b0 : decide ((ji13) < (t306.length : Int)) = true := decide_eq_true c15
  clear c15
  have H' := ZM H
  clear H
  try go_wp2_with (first | ((with_reducible refine gate_callee (f := 65) rfl ?_); refine goesL_ (some 25) rfl rfl Try.func65 (by kernel_rfl) rfl #[.int .i64 a0] rfl Z2 ?_; (with_reducible refine (thrumref01_Neg.calls a0 t304 t305 _ A7.out).mono ?_); rintro e w' ⟨rfl, ⟨nd, rfl⟩⟩; refine ⟨_, rfl, ?_⟩))
  (try (rw [drewN_self wc]; generalize hq_ : World.drewN wc _ = wc; have n0_ : Aside0 (Below w.heap.size w wc) := ⟨by rw [← hq_]; exact Z1⟩; clear HB hq_; have HB := n0_; clear n0_))
  have n0_ := ZM (zzD HB.out)
  clear HB
  have HB := n0_
  clear n0_
  refine start_ (n := 8) (S := fun _ => True) (ds := []) #[false, false, false, false, false, false, false, false] (by kernel_rfl) rfl rfl trivial (fun hHeld => ?_); refine with_tabW thrumref13_ExpP.tab9 thrumref13_ExpP.bits9 (fun HT_ HW_ => ?_)
  generalize wc.drew = w16 at HB hHeld ⊢
  refine pure_ (i := 1) (N := some 40) (v := ?_) (a' := ?_) #[false, true, false, false, false, false, false, false] rfl rfl (any_of HT_.out (by kernel_rfl)) (fun _ _ _ h => h) (Or.inl ⟨by rfl, ?_⟩) ?_ ?_
  rotate_left
  ·
   intro w'
   go_simp
   with_reducible rfl
  rotate_left
  ·
   simp only [Act.put, Zs]
   rfl
  refine pure_ (i := 2) (N := some 41) (v := ?_) (a' := ?_) #[false, true, true, false, false, false, false, false] rfl rfl (any_of HT_.out (by kernel_rfl)) (fun _ _ _ h => h) (Or.inl ⟨by rfl, ?_⟩) ?_ ?_
  rotate_left
  ·
   intro w'
   go_simp
   with_reducible rfl
  rotate_left
  ·
   simp only [Act.put, Zs]
   rfl
  refine pure_ (i := 3) (N := some 42) (v := ?_) (a' := ?_) #[false, true, true, true, false, false, false, false] rfl rfl (any_of HT_.out (by kernel_rfl)) (fun _ _ _ h => h) (Or.inl ⟨by rfl, ?_⟩) ?_ ?_
  rotate_left
  ·
   intro w'
   go_simp
   with_reducible rfl
  rotate_left
  ·
   simp only [Act.put, Zs]
   rfl
  refine pure_ (i := 4) (N := some 43) (v := ?_) (a' := ?_) #[false, true, true, true, true, false, false, false] rfl rfl (any_of HT_.out (by kernel_rfl)) (fun _ _ _ h => h) (Or.inl ⟨by rfl, ?_⟩) ?_ ?_
  rotate_left
  ·
   intro w'
   go_simp
   with_reducible rfl
  rotate_left
  ·
   simp only [Act.put, Zs]
   rfl
  refine one_ (i := 0) (N := some 39) #[true, true, true, true, true, false, false, false] rfl rfl (one_of HT_.out (by kernel_rfl)) (by decide) (fun K hK => ?_)
  refine goes_ Try.func66 (by kernel_rfl) rfl #[] (by rfl) rfl rfl Z2 ?_
  with_reducible refine (thrumref13_Rows.calls  t306 _ A12.out).mono ?_
  rintro e w17 ⟨v307, rfl, ho0, hb⟩
  have HS0_ : True := trivial
  refine ⟨_, rfl, ?_⟩
  have n0_ := ZM (Kd.R_lower ho0 (zzS Z1))
  have n1_ := ZM (zzT Z1 hb)
  clear HB
  have HO308 := n0_
  have HB := n1_
  clear n0_ n1_
  (try clear hb)
  (try clear hb2)
  (try clear hk)
  (try clear hi)
  (try clear ho0)
  obtain ⟨Ao18, co18, eo18⟩ := Kd.R_slice HO308.out
  (first | subst eo18 | (injection eo18 with f1_ f2_ f3_; have f4_ := f1_.symm; have f5_ := f3_.symm; clear f1_ f2_ f3_; subst f4_; subst f5_))
  have p309 : 0 ≤ ((ji13) : Int) := of_decide_eq_true Z3
  have q309 : (ji13) < (t306.length : Int) := of_decide_eq_true Z3
  obtain ⟨ad309, e309, hx309_0⟩ := Kd.at_int (Kd.R_reads' HO308.out).2.2 (ji13) p309 q309
  cases e309
  replace p309 := eq_true p309
  replace q309 := eq_true q309
  refine hK.out _ _ (HS0_) (fun hHeld => ?_)
  clear hK K
  refine norm_ (a' := ?_) ?_ ?_
  rotate_left
  ·
   show Act.put _ (some 39) _ = _
   simp only [Act.put, Zs]
   rfl
  refine pure_ (i := 5) (N := some 44) (v := ?_) (a' := ?_) #[true, true, true, true, true, true, false, false] rfl rfl (any_of HT_.out (by kernel_rfl)) (fun _ _ _ h => h) (Or.inl ⟨by rfl, ?_⟩) ?_ ?_
  rotate_left
  ·
   intro w'
   go_simp
   with_reducible rfl
  rotate_left
  ·
   simp only [Act.put, Zs]
   rfl
  refine one_ (i := 6) (N := some 45) #[true, true, true, true, true, true, true, false] rfl rfl (one_of HT_.out (by kernel_rfl)) (by decide) (fun K hK => ?_)
  refine value_ (v := ?_) (w1 := ?_) rfl rfl ?_ ?_
  rotate_left 2
  ·
   go_simp
   first | (refine And.intro ?_ ?_ <;> rfl) | rfl
  refine hK.out _ _ trivial (fun hHeld => ?_)
  clear hK K
  refine norm_ (a' := ?_) ?_ ?_
  rotate_left
  ·
   show Act.put _ (some 45) _ = _
   simp only [Act.put, Zs]
   rfl
  refine pure_ (i := 7) (N := some 11) (v := ?_) (a' := ?_) #[true, true, true, true, true, true, true, true] rfl rfl (any_of HT_.out (by kernel_rfl)) (fun _ _ _ h => h) (Or.inl ⟨by rfl, ?_⟩) ?_ ?_
  rotate_left
  ·
   intro w'
   go_simp
   with_reducible rfl
  rotate_left
  ·
   simp only [Act.put, Zs]
   rfl
  refine done_ (done_of HT_.out (by kernel_rfl)) ?_
  try go_wp2
  go_loopg [11, 48] kj2 (fun kq v11 v48 w' => ∃ (x11_2 : Int) (x48_2 : Int), v11 = .int .u64 x11_2 ∧ v48 = .int .i64 x48_2 ∧ Aside0 (thrumref13_ExpP.l0 kq (wrap64 (Int.tdiv t304 (ji10))) x11_2 (wrap64 (30 - a1)) x48_2 = some (r1, r2)) ∧ Aside0 (kq ≤ kj2) ∧ Aside0 (Below w.heap.size w w'))
  case atStart => exact ⟨(rd t306 (ji13)), (0), (by first | rfl | (simp; done) | (simp only [← hji13] <;> (first | rfl | simp)) | (simp [*]; done)), Z5, H', ⟨Nat.le_refl _⟩, ⟨by repeat (first | (with_reducible first | exact HB.out | apply zzA | apply zzN | apply zzD) | exact HB.out)⟩⟩
  case round =>
   clear H'
   try clear c6
   try clear c8
   try clear c8b0
   try clear c8b1
   try clear c9
   try clear c9b0
   try clear c9b1
   try clear c11
   try clear c11b0
   try clear c11b1
   try clear c14
   try clear c14b0
   try clear c15
   try clear c15b0
   try clear hx309_0
   try clear p309
   try clear q309
   obtain ⟨x11_2, x48_2, rfl, rfl, HA, HK2, HB⟩ := hrel
   cases gk with
   | zero => exact absurd HA.out (by simp [thrumref13_ExpP.l0])
   | succ k2 =>
    have H := HA.out
    clear HA
    simp only [thrumref13_ExpP.l0] at H
    by_cases c19 : x48_2 < (wrap64 (30 - a1))
    ·
     rw [if_pos c19] at H
     have c19b0 : decide (x48_2 < (wrap64 (30 - a1))) = true := decide_eq_true c19
     clear c19
     have H' := ZM H
     clear H
     go_wp2
     go_roundg k2
     case measure => have := HJ2.out; have := HK2.out; omega
     case rel => exact ⟨(IntKind.u64.wrap (Int.tdiv x11_2 2)), (wrap64 (x48_2 + 1)), Z5, Z5, H', ⟨by have := HJ2.out; have := HK2.out; omega⟩, ⟨by repeat (first | (with_reducible first | exact HB.out | apply zzA | apply zzN | apply zzD) | exact HB.out)⟩⟩
    rw [if_neg c19] at H
    have c19b0 : decide (x48_2 < (wrap64 (30 - a1))) = false := decide_eq_false c19
    clear c19
    have H' := ZM H
    clear H
    go_wp2
    go_loopg [11, 12] k2 (fun kq v11 v12 w' => ∃ (x11_3 : Int) (x12_3 : Int), v11 = .int .u64 x11_3 ∧ v12 = .int .i64 x12_3 ∧ Aside0 (thrumref13_ExpP.l1 kq (wrap64 (Int.tdiv t304 (ji10))) x11_3 x12_3 = some (r1, r2)) ∧ Aside0 (kq ≤ k2) ∧ Aside0 (Below w.heap.size w w'))
    case atStart => exact ⟨(x11_2), (0), Z5, Z5, H', ⟨Nat.le_refl _⟩, ⟨by repeat (first | (with_reducible first | exact HB.out | apply zzA | apply zzN | apply zzD) | exact HB.out)⟩⟩
    case round =>
     clear H'
     try clear c6
     try clear c8
     try clear c8b0
     try clear c8b1
     try clear c9
     try clear c9b0
     try clear c9b1
     try clear c11
     try clear c11b0
     try clear c11b1
     try clear c14
     try clear c14b0
     try clear c15
     try clear c15b0
     try clear c19
     try clear c19b0
     try clear hx309_0
     try clear p309
     try clear q309
     obtain ⟨x11_3, x12_3, rfl, rfl, HA, HK3, HB⟩ := hrel
     cases gk with
     | zero => exact absurd HA.out (by simp [thrumref13_ExpP.l1])
     | succ k3 =>
      have H := HA.out
      clear HA
      simp only [thrumref13_ExpP.l1] at H
      by_cases c20 : x12_3 < (wrap64 (Int.tdiv t304 (ji10)))
      case neg =>
       rw [if_neg c20] at H
       have c20b0 : decide (x12_3 < (wrap64 (Int.tdiv t304 (ji10)))) = false := decide_eq_false c20
       clear c20
       simp only [Option.some.injEq, Prod.mk.injEq] at H
       obtain ⟨rfl, rfl⟩ := H
       go_wp2
       go_ret2
       exact ⟨by first | rfl | (simp [errW_none, errW_some] <;> rfl) | (simp only [← hji10, ← hji13]; first | rfl | (simp [errW_none, errW_some] <;> rfl)) | (simp [*, errW_none, errW_some] <;> rfl), by repeat (first | (with_reducible first | exact HB.out | apply zzA | apply zzN | apply zzD) | exact HB.out)⟩
      rw [if_pos c20] at H
      have c20b0 : decide (x12_3 < (wrap64 (Int.tdiv t304 (ji10)))) = true := decide_eq_true c20
      clear c20
      by_cases c21 : x11_3 > 0
      case neg =>
       rw [if_neg c21] at H
       have c21b0 : decide (0 < x11_3) = false := decide_eq_false c21
       clear c21
       simp only [Option.some.injEq, Prod.mk.injEq] at H
       obtain ⟨rfl, rfl⟩ := H
       go_wp2
       go_ret2
       exact ⟨by first | rfl | (simp [errW_none, errW_some] <;> rfl) | (simp only [← hji10, ← hji13]; first | rfl | (simp [errW_none, errW_some] <;> rfl)) | (simp [*, errW_none, errW_some] <;> rfl), by repeat (first | (with_reducible first | exact HB.out | apply zzA | apply zzN | apply zzD) | exact HB.out)⟩
      rw [if_pos c21] at H
      have c21b0 : decide (0 < x11_3) = true := decide_eq_true c21
      clear c21
      have H' := ZM H
      clear H
      go_wp2
      go_roundg k3
      case measure => have := HJ2.out; have := HK2.out; have := HK3.out; omega
      case rel => exact ⟨(IntKind.u64.wrap (Int.tdiv x11_3 2)), (wrap64 (x12_3 + 1)), Z5, Z5, H', ⟨by have := HJ2.out; have := HK2.out; have := HK3.out; omega⟩, ⟨by repeat (first | (with_reducible first | exact HB.out | apply zzA | apply zzN | apply zzD) | exact HB.out)⟩⟩
theorem thrumref13_ExpP.loop1 (x9 : Int) (h9 : 0 ≤ x9 ∧ x9 ≤ 9223372036854775807) : ∀ (k : Nat) (x11 x12 : Int), 0 ≤ x11 → x11 < 2 ^ k → x11 ≤ 18446744073709551615 → 0 ≤ x12 → x12 ≤ x9 →
    thrumref13_ExpP.l1 (k + 1) x9 x11 x12 = some (wrap64 (x11 / 2 ^ (x9 - x12).toNat), 0) := by
  intro k
  induction k with
  | zero =>
    intro x11 x12 h0 h1 h2 h3 h4
    have : x11 = 0 := by simp at h1; omega
    subst this
    rw [thrumref13_ExpP.l1]
    by_cases c : x12 < x9
    · rw [if_pos c, if_neg (by omega)]; simp
    · rw [if_neg c]; simp
  | succ k ih =>
    intro x11 x12 h0 h1 h2 h3 h4
    rw [thrumref13_ExpP.l1]
    by_cases c : x12 < x9
    · rw [if_pos c]
      by_cases c2 : x11 > 0
      · have h1' := h1
        rw [Int.pow_succ] at h1'
        rw [if_pos c2, Int.tdiv_eq_ediv_of_nonneg h0, wu, Int.emod_eq_of_lt (by omega) (by omega), wrap64_of (by unfold I64; omega), ih (x11 / 2) (x12 + 1) (by omega) (by generalize (2 : Int) ^ k = q at *; omega) (by omega) (by omega) (by omega)]
        obtain ⟨n, hn⟩ : ∃ n : Nat, (x9 - x12).toNat = n + 1 := ⟨(x9 - x12).toNat - 1, by omega⟩
        rw [show (x9 - (x12 + 1)).toNat = n by omega, hn, show (2 : Int) ^ (n + 1) = 2 * 2 ^ n by rw [Int.pow_succ]; omega, ← Int.ediv_ediv_of_nonneg (show (0 : Int) ≤ 2 by decide)]
      · have : x11 = 0 := by omega
        subst this
        rw [if_neg c2]; simp
    · rw [if_neg c, show (x9 - x12).toNat = 0 by omega]; simp
theorem thrumref13_ExpP.loop0 (x9 : Int) (h9 : 0 ≤ x9 ∧ x9 ≤ 9223372036854775807) (t : Int) (ht : 0 ≤ t ∧ t ≤ 30) : ∀ (d : Nat) (x11 x48 : Int), 0 ≤ x11 → x11 ≤ 1073741824 → 0 ≤ x48 → d = (t - x48).toNat → x48 ≤ t →
    thrumref13_ExpP.l0 (d + 1 + 32) x9 x11 t x48 = some (wrap64 (x11 / 2 ^ (t - x48).toNat / 2 ^ x9.toNat), 0) := by
  intro d
  induction d with
  | zero =>
    intro x11 x48 h0 h1 h2 h3 h4
    rw [show 0 + 1 + 32 = 31 + 1 + 1 from rfl, thrumref13_ExpP.l0, if_neg (by omega), ← h3]
    have := thrumref13_ExpP.loop1 x9 h9 31 x11 0 h0 Z39 (by omega) (by omega) (by omega)
    rw [this]; simp
  | succ d ih =>
    intro x11 x48 h0 h1 h2 h3 h4
    rw [show d + 1 + 1 + 32 = (d + 1 + 32) + 1 by omega, thrumref13_ExpP.l0, if_pos (by omega), Int.tdiv_eq_ediv_of_nonneg h0, wu, Int.emod_eq_of_lt (by omega) (by omega), wrap64_of (by unfold I64; omega), ih (x11 / 2) (x48 + 1) (by omega) (by omega) (by omega) (by omega) (by omega)]
    rw [show (t - (x48 + 1)).toNat = d by omega, ← h3, show (2 : Int) ^ (d + 1) = 2 * 2 ^ d by rw [Int.pow_succ]; omega, ← Int.ediv_ediv_of_nonneg (show (0 : Int) ≤ 2 by decide)]
def thrumref13_Exp.f (a0 a1 : Int) : Option (Int × Int) := if I64 a0 ∧ I64 a1 then some (expF a0 a1) else none
theorem thrumref13_Exp.of (a0 a1 : Int)  (h_ : I64 a0 ∧ I64 a1) : thrumref13_Exp.f a0 a1 = some (expF a0 a1) := if_pos h_
theorem thrumref13_Exp.calls (a0 : Int) (a1 : Int) (r1 : Int) (r2 : Int) (w : World) (h : thrumref13_Exp.f a0 a1 = some (r1, r2)) :
    Calls Try.prog 43 #[.int .i64 a0, .int .i64 a1] w fun e w' => e = .returned (.tuple #[.int .i64 r1, .int .i64 r2]) ∧ Below w.heap.size w w' := by
  unfold thrumref13_Exp.f at h
  split at h
  case isFalse => cases h
  rename_i hv
  refine thrumref13_ExpP.calls 100 a0 a1 r1 r2 w (Eq.trans ?_ h)
  unfold thrumref13_ExpP.f expF
  have hI := hv.1
  unfold I64 at hv
  by_cases c1 : a1 < 0
  · rw [if_pos c1, thrumref13_ExpP.j0, if_pos rfl, if_pos (Or.inl c1)]
  · rw [if_neg c1]
    by_cases c2 : a1 > 30
    · rw [if_pos c2, thrumref13_ExpP.j0, if_pos rfl, if_pos (Or.inr (Or.inl c2))]
    · rw [if_neg c2, thrumref13_ExpP.j0]
      by_cases c3 : a0 > 0
      · rw [if_pos (decide_eq_true c3), if_pos (Or.inr (Or.inr c3))]
      · rw [if_neg (by simpa using c3), if_neg (by omega), thrumref01_Neg.of a0 hI]
        simp only [Option.bind_some]
        by_cases c4 : I64 (-a0)
        · have hp := pow_pos_ a1.toNat
          have hp30 := pow_le30_ (f := a1) (by omega)
          have hs : shl .i64 1 a1 = 2 ^ a1.toNat := by
            unfold shl
            rw [show min a1.toNat IntKind.i64.bits = a1.toNat from by show min a1.toNat 64 = _; omega]
            rw [iwrap, wrap64_of (by unfold I64; omega)]; omega
          rw [res_of c4, if_pos c4]
          simp only [if_true]
          rw [if_pos (by omega), hs, if_neg (by omega)]
          unfold thrumref13_Rows.f
          simp only [Option.bind_some]
          unfold I64 at c4
          have hrow := row_lt_ (-a0) (f := a1)
          have hm0 := Int.emod_nonneg (-a0) (show (2 : Int) ^ a1.toNat ≠ 0 by omega)
          have hm1 := Int.emod_lt_of_pos (-a0) hp
          rw [Int.tmod_eq_emod_of_nonneg (by omega), wrap64_of (x := -a0 % 2 ^ a1.toNat * 16) (by unfold I64; omega), Int.tdiv_eq_ediv_of_nonneg (by omega), wrap64_of (x := -a0 % 2 ^ a1.toNat * 16 / 2 ^ a1.toNat) (by unfold I64; omega), if_pos (by omega), if_pos (by rw [tabL_len]; omega), Int.tdiv_eq_ediv_of_nonneg (by omega)]
          have hq0 : 0 ≤ -a0 / 2 ^ a1.toNat := Int.ediv_nonneg (by omega) (by omega)
          have hq1 : -a0 / 2 ^ a1.toNat ≤ -a0 := Int.ediv_le_self _ (by omega)
          rw [wrap64_of (x := -a0 / 2 ^ a1.toNat) (by unfold I64; omega), wrap64_of (x := 30 - a1) (by unfold I64; omega)]
          obtain ⟨t0, t1⟩ := tab_bd_ (-a0 % 2 ^ a1.toNat * 16 / 2 ^ a1.toNat) hrow
          have hl := thrumref13_ExpP.loop0 (-a0 / 2 ^ a1.toNat) ⟨hq0, by omega⟩ (30 - a1) (by omega) (30 - a1 - 0).toNat (rd tabL (-a0 % 2 ^ a1.toNat * 16 / 2 ^ a1.toNat)) 0 t0 t1 (by omega) rfl (by omega)
          have hle : (30 - a1 - 0).toNat + 1 + 32 ≤ 99 := by omega
          refine Eq.trans (leO_mono (fun k => thrumref13_ExpP.mono_l k |>.2.1 _ _ _ _) hle hl) ?_
          rw [Int.ediv_ediv_of_nonneg (by have := pow_pos_ (30 - a1 - 0).toNat; omega), ← Int.pow_add, show (30 - a1 - 0).toNat + (-a0 / 2 ^ a1.toNat).toNat = (-a0 / 2 ^ a1.toNat + (30 - a1)).toNat by omega]
          rw [wrap64_of]
          have hpp := pow_pos_ (-a0 / 2 ^ a1.toNat + (30 - a1)).toNat
          have q0 := Int.ediv_nonneg t0 (Int.le_of_lt hpp)
          have q1 := Int.ediv_le_self (2 ^ (-a0 / 2 ^ a1.toNat + (30 - a1)).toNat) t0
          unfold I64; omega
        · rw [res_not c4, if_neg c4, if_neg (by decide)]


end Go.Proofs.Ytihgcjagokippaa.HS
