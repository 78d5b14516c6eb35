/- What Go functions do, each as a plain Lean function with the same answers, and the proof of it, in every world: printed by the session's driver over the kit's print, with texts by hand. -/
import Derived.Test.YtbnfejaeekljcaaHDx0
import Derived.Test.YtbnfejaeekljcaaHDx3
import Derived.Test.YtbnfejaeekljcaaHDx6
import Derived.Test.YtbnfejaeekljcaaHDx7
namespace Go.Proofs.Ytbnfejaeekljcaa.HD
open Go.RowKit Go.Proofs.YtbnfejaeekljcaaW.PrintWords Go.Proofs.YtbnfejaeekljcaaW.PrintLast Go.Proofs.YtbnfejaeekljcaaW.PrintMore
attribute [local go_sem] max2_int min2_int max_two min_two max_three min_three max_four min_four   -- for this text's walks alone
open Go.Proofs.Ytbnfejaeekljcaa.Sp
attribute [local go_sem] Go.Proofs.Ytbnfejaeekljcaa.Sp.u64_not
set_option linter.unusedVariables false
set_option linter.unusedSimpArgs false

/-! ### table_rows: function 87 -/
theorem table_Root.at_314317453456834560 : table_Root.f (IntKind.u64.wrap 314317453456834560) = some 560640217 := by decide +kernel
theorem table_Root.at_342765613334134784 : table_Root.f (IntKind.u64.wrap 342765613334134784) = some 585461880 := by decide +kernel
theorem table_Root.at_373788551207549160 : table_Root.f (IntKind.u64.wrap 373788551207549160) = some 611382491 := by decide +kernel
theorem table_Root.at_407619306507993088 : table_Root.f (IntKind.u64.wrap 407619306507993088) = some 638450707 := by decide +kernel
theorem table_Root.at_444512004437301131 : table_Root.f (IntKind.u64.wrap 444512004437301131) = some 666717334 := by decide +kernel
theorem table_Root.at_484743778457637668 : table_Root.f (IntKind.u64.wrap 484743778457637668) = some 696235433 := by decide +kernel
theorem table_Root.at_528616838838443692 : table_Root.f (IntKind.u64.wrap 528616838838443692) = some 727060409 := by decide +kernel
theorem table_Root.at_576460752303423488 : table_Root.f (IntKind.u64.wrap 576460752303423488) = some 759250124 := by decide +kernel
theorem table_Root.at_628634906129798244 : table_Root.f (IntKind.u64.wrap 628634906129798244) = some 792864998 := by decide +kernel
theorem table_Root.at_685531226722800600 : table_Root.f (IntKind.u64.wrap 685531226722800600) = some 827968131 := by decide +kernel
theorem table_Root.at_747577103499840150 : table_Root.f (IntKind.u64.wrap 747577103499840150) = some 864625412 := by decide +kernel
theorem table_Root.at_815238613015986176 : table_Root.f (IntKind.u64.wrap 815238613015986176) = some 902905650 := by decide +kernel
theorem table_Root.at_889024011054300450 : table_Root.f (IntKind.u64.wrap 889024011054300450) = some 942880698 := by decide +kernel
theorem table_Root.at_969487559530905600 : table_Root.f (IntKind.u64.wrap 969487559530905600) = some 984625593 := by decide +kernel
theorem table_Root.at_1057233680184901632 : table_Root.f (IntKind.u64.wrap 1057233680184901632) = some 1028218692 := by decide +kernel
set_option maxHeartbeats 8000000 in
set_option maxRecDepth 100000 in
theorem table_rows.gen (w : World) : Calls Try.prog 87 #[] w fun e w' => e = .returned (.agg (encs (Value.int .u64) tabL).toArray) ∧ Below w.heap.size w w' := by
  have hu := Try.underlying127
  go_enter Try.func87, Try.ntmps87
  go_wp2_with fail
  go_loopw [1] (fun v W => ((v = .int .i64 8 ∧ Aside0 (Kd.R (Kd.int .u64) 127 W w.heap.size (fun _ => True) (.slice (some ⟨w.heap.size, 0, none⟩) 17 17) ([1073741824, 0, 0, 0, 0, 0, 0, 0, 0, 0, 0, 0, 0, 0, 0, 0, 536870912] : List Int))) ∨ (v = .int .i64 4 ∧ Aside0 (Kd.R (Kd.int .u64) 127 W w.heap.size (fun _ => True) (.slice (some ⟨w.heap.size, 0, none⟩) 17 17) ([1073741824, 0, 0, 0, 0, 0, 0, 0, 759250124, 0, 0, 0, 0, 0, 0, 0, 536870912] : List Int))) ∨ (v = .int .i64 2 ∧ Aside0 (Kd.R (Kd.int .u64) 127 W w.heap.size (fun _ => True) (.slice (some ⟨w.heap.size, 0, none⟩) 17 17) ([1073741824, 0, 0, 0, 902905650, 0, 0, 0, 759250124, 0, 0, 0, 638450707, 0, 0, 0, 536870912] : List Int))) ∨ (v = .int .i64 1 ∧ Aside0 (Kd.R (Kd.int .u64) 127 W w.heap.size (fun _ => True) (.slice (some ⟨w.heap.size, 0, none⟩) 17 17) ([1073741824, 0, 984625593, 0, 902905650, 0, 827968131, 0, 759250124, 0, 696235433, 0, 638450707, 0, 585461880, 0, 536870912] : List Int))) ∨ (v = .int .i64 0 ∧ Aside0 (Kd.R (Kd.int .u64) 127 W w.heap.size (fun _ => True) (.slice (some ⟨w.heap.size, 0, none⟩) 17 17) ([1073741824, 1028218692, 984625593, 942880698, 902905650, 864625412, 827968131, 792864998, 759250124, 727060409, 696235433, 666717334, 638450707, 611382491, 585461880, 560640217, 536870912] : List Int)))) ∧ Aside0 (Below w.heap.size w W)) (fun v _ => (intOf v).toNat)
  case atStart => exact ⟨(.inl ⟨rfl, ⟨arr_R w 127 _ [1073741824, 0, 0, 0, 0, 0, 0, 0, 0, 0, 0, 0, 0, 0, 0, 0, 536870912] rfl rfl⟩⟩), ⟨zzA (Below.refl _ _) _⟩⟩
  case round =>
    obtain ⟨h, HB⟩ := hrel
    rcases h with ⟨rfl, HO⟩ | ⟨rfl, HO⟩ | ⟨rfl, HO⟩ | ⟨rfl, HO⟩ | ⟨rfl, HO⟩
    · go_wp2_with fail
      go_loopw [2] (fun v W => ((v = .int .i64 8 ∧ Aside0 (Kd.R (Kd.int .u64) 127 W w.heap.size (fun _ => True) (.slice (some ⟨w.heap.size, 0, none⟩) 17 17) ([1073741824, 0, 0, 0, 0, 0, 0, 0, 0, 0, 0, 0, 0, 0, 0, 0, 536870912] : List Int))) ∨ (v = .int .i64 24 ∧ Aside0 (Kd.R (Kd.int .u64) 127 W w.heap.size (fun _ => True) (.slice (some ⟨w.heap.size, 0, none⟩) 17 17) ([1073741824, 0, 0, 0, 0, 0, 0, 0, 759250124, 0, 0, 0, 0, 0, 0, 0, 536870912] : List Int)))) ∧ Aside0 (Below w.heap.size w W)) (fun v _ => 64 - (intOf v).toNat)
      case atStart => exact ⟨(.inl ⟨rfl, HO⟩), HB⟩
      case round =>
        clear HO HB
        obtain ⟨h, HB⟩ := hrel
        rcases h with ⟨rfl, HO⟩ | ⟨rfl, HO⟩
        · go_wp2
          have hx0 : wr.cell? ⟨w.heap.size, 0, none⟩ = some (.int .u64 1073741824) := (Kd.R_celln 0 HO.out 0 (by decide) (by decide)).1
          have hx1 : wr.cell? ⟨w.heap.size, 16, none⟩ = some (.int .u64 536870912) := (Kd.R_celln 0 HO.out 16 (by decide) (by decide)).1
          have hx2 : wr.cell? ⟨w.heap.size, 8, none⟩ = some (.int .u64 0) := (Kd.R_celln 0 HO.out 8 (by decide) (by decide)).1
          have hf2 : wr.frozen? ⟨w.heap.size, 8, none⟩ = false := (Kd.R_celln 0 HO.out 8 (by decide) (by decide)).2
          have hw0 : IntKind.i64.wrap 0 = 0 := rfl
          have hw1 : IntKind.i64.wrap 16 = 16 := rfl
          go_region_held3 (fun w' => w'.cell? ⟨w.heap.size, 0, none⟩ = some (.int .u64 1073741824) ∧ w'.cell? ⟨w.heap.size, 16, none⟩ = some (.int .u64 536870912)) (first | go_keep | (exact ⟨cell_set_ne hx0 (by decide), cell_set_ne hx1 (by decide)⟩)) ((go_at_call 96; (with_reducible refine (table_Root.calls (IntKind.u64.wrap 576460752303423488) 759250124 _ table_Root.at_576460752303423488).mono ?_); rintro ed W2 ⟨rfl, ⟨nd, rfl⟩⟩))
          go_wp2
          have hb : Below wr.heap.size wr (wr.drewN (1 + nd)) := zzN (Below.refl _ _) _
          have hp := Kd.R_putg (Kd.R_below HO.out hb) 8 759250124
          exact ⟨⟨(.inr ⟨rfl, ⟨hp.1⟩⟩), ⟨below_set (below_then HB.out HB.out.size hb) (Nat.le_refl _)⟩⟩, by simp [intOf]⟩
        · go_wp2
          exact ⟨⟨(.inr (.inl ⟨rfl, HO⟩)), HB⟩, by simp [intOf]⟩
    · go_wp2_with fail
      go_loopw [2] (fun v W => ((v = .int .i64 4 ∧ Aside0 (Kd.R (Kd.int .u64) 127 W w.heap.size (fun _ => True) (.slice (some ⟨w.heap.size, 0, none⟩) 17 17) ([1073741824, 0, 0, 0, 0, 0, 0, 0, 759250124, 0, 0, 0, 0, 0, 0, 0, 536870912] : List Int))) ∨ (v = .int .i64 12 ∧ Aside0 (Kd.R (Kd.int .u64) 127 W w.heap.size (fun _ => True) (.slice (some ⟨w.heap.size, 0, none⟩) 17 17) ([1073741824, 0, 0, 0, 902905650, 0, 0, 0, 759250124, 0, 0, 0, 0, 0, 0, 0, 536870912] : List Int))) ∨ (v = .int .i64 20 ∧ Aside0 (Kd.R (Kd.int .u64) 127 W w.heap.size (fun _ => True) (.slice (some ⟨w.heap.size, 0, none⟩) 17 17) ([1073741824, 0, 0, 0, 902905650, 0, 0, 0, 759250124, 0, 0, 0, 638450707, 0, 0, 0, 536870912] : List Int)))) ∧ Aside0 (Below w.heap.size w W)) (fun v _ => 64 - (intOf v).toNat)
      case atStart => exact ⟨(.inl ⟨rfl, HO⟩), HB⟩
      case round =>
        clear HO HB
        obtain ⟨h, HB⟩ := hrel
        rcases h with ⟨rfl, HO⟩ | ⟨rfl, HO⟩ | ⟨rfl, HO⟩
        · go_wp2
          have hx0 : wr.cell? ⟨w.heap.size, 0, none⟩ = some (.int .u64 1073741824) := (Kd.R_celln 0 HO.out 0 (by decide) (by decide)).1
          have hx1 : wr.cell? ⟨w.heap.size, 8, none⟩ = some (.int .u64 759250124) := (Kd.R_celln 0 HO.out 8 (by decide) (by decide)).1
          have hx2 : wr.cell? ⟨w.heap.size, 4, none⟩ = some (.int .u64 0) := (Kd.R_celln 0 HO.out 4 (by decide) (by decide)).1
          have hf2 : wr.frozen? ⟨w.heap.size, 4, none⟩ = false := (Kd.R_celln 0 HO.out 4 (by decide) (by decide)).2
          have hw0 : IntKind.i64.wrap 0 = 0 := rfl
          have hw1 : IntKind.i64.wrap 8 = 8 := rfl
          go_region_held3 (fun w' => w'.cell? ⟨w.heap.size, 0, none⟩ = some (.int .u64 1073741824) ∧ w'.cell? ⟨w.heap.size, 8, none⟩ = some (.int .u64 759250124)) (first | go_keep | (exact ⟨cell_set_ne hx0 (by decide), cell_set_ne hx1 (by decide)⟩)) ((go_at_call 96; (with_reducible refine (table_Root.calls (IntKind.u64.wrap 815238613015986176) 902905650 _ table_Root.at_815238613015986176).mono ?_); rintro ed W2 ⟨rfl, ⟨nd, rfl⟩⟩))
          go_wp2
          have hb : Below wr.heap.size wr (wr.drewN (1 + nd)) := zzN (Below.refl _ _) _
          have hp := Kd.R_putg (Kd.R_below HO.out hb) 4 902905650
          exact ⟨⟨(.inr (.inl ⟨rfl, ⟨hp.1⟩⟩)), ⟨below_set (below_then HB.out HB.out.size hb) (Nat.le_refl _)⟩⟩, by simp [intOf]⟩
        · go_wp2
          have hx0 : wr.cell? ⟨w.heap.size, 8, none⟩ = some (.int .u64 759250124) := (Kd.R_celln 0 HO.out 8 (by decide) (by decide)).1
          have hx1 : wr.cell? ⟨w.heap.size, 16, none⟩ = some (.int .u64 536870912) := (Kd.R_celln 0 HO.out 16 (by decide) (by decide)).1
          have hx2 : wr.cell? ⟨w.heap.size, 12, none⟩ = some (.int .u64 0) := (Kd.R_celln 0 HO.out 12 (by decide) (by decide)).1
          have hf2 : wr.frozen? ⟨w.heap.size, 12, none⟩ = false := (Kd.R_celln 0 HO.out 12 (by decide) (by decide)).2
          have hw0 : IntKind.i64.wrap 8 = 8 := rfl
          have hw1 : IntKind.i64.wrap 16 = 16 := rfl
          go_region_held3 (fun w' => w'.cell? ⟨w.heap.size, 8, none⟩ = some (.int .u64 759250124) ∧ w'.cell? ⟨w.heap.size, 16, none⟩ = some (.int .u64 536870912)) (first | go_keep | (exact ⟨cell_set_ne hx0 (by decide), cell_set_ne hx1 (by decide)⟩)) ((go_at_call 96; (with_reducible refine (table_Root.calls (IntKind.u64.wrap 407619306507993088) 638450707 _ table_Root.at_407619306507993088).mono ?_); rintro ed W2 ⟨rfl, ⟨nd, rfl⟩⟩))
          go_wp2
          have hb : Below wr.heap.size wr (wr.drewN (1 + nd)) := zzN (Below.refl _ _) _
          have hp := Kd.R_putg (Kd.R_below HO.out hb) 12 638450707
          exact ⟨⟨(.inr (.inr ⟨rfl, ⟨hp.1⟩⟩)), ⟨below_set (below_then HB.out HB.out.size hb) (Nat.le_refl _)⟩⟩, by simp [intOf]⟩
        · go_wp2
          exact ⟨⟨(.inr (.inr (.inl ⟨rfl, HO⟩))), HB⟩, by simp [intOf]⟩
    · go_wp2_with fail
      go_loopw [2] (fun v W => ((v = .int .i64 2 ∧ Aside0 (Kd.R (Kd.int .u64) 127 W w.heap.size (fun _ => True) (.slice (some ⟨w.heap.size, 0, none⟩) 17 17) ([1073741824, 0, 0, 0, 902905650, 0, 0, 0, 759250124, 0, 0, 0, 638450707, 0, 0, 0, 536870912] : List Int))) ∨ (v = .int .i64 6 ∧ Aside0 (Kd.R (Kd.int .u64) 127 W w.heap.size (fun _ => True) (.slice (some ⟨w.heap.size, 0, none⟩) 17 17) ([1073741824, 0, 984625593, 0, 902905650, 0, 0, 0, 759250124, 0, 0, 0, 638450707, 0, 0, 0, 536870912] : List Int))) ∨ (v = .int .i64 10 ∧ Aside0 (Kd.R (Kd.int .u64) 127 W w.heap.size (fun _ => True) (.slice (some ⟨w.heap.size, 0, none⟩) 17 17) ([1073741824, 0, 984625593, 0, 902905650, 0, 827968131, 0, 759250124, 0, 0, 0, 638450707, 0, 0, 0, 536870912] : List Int))) ∨ (v = .int .i64 14 ∧ Aside0 (Kd.R (Kd.int .u64) 127 W w.heap.size (fun _ => True) (.slice (some ⟨w.heap.size, 0, none⟩) 17 17) ([1073741824, 0, 984625593, 0, 902905650, 0, 827968131, 0, 759250124, 0, 696235433, 0, 638450707, 0, 0, 0, 536870912] : List Int))) ∨ (v = .int .i64 18 ∧ Aside0 (Kd.R (Kd.int .u64) 127 W w.heap.size (fun _ => True) (.slice (some ⟨w.heap.size, 0, none⟩) 17 17) ([1073741824, 0, 984625593, 0, 902905650, 0, 827968131, 0, 759250124, 0, 696235433, 0, 638450707, 0, 585461880, 0, 536870912] : List Int)))) ∧ Aside0 (Below w.heap.size w W)) (fun v _ => 64 - (intOf v).toNat)
      case atStart => exact ⟨(.inl ⟨rfl, HO⟩), HB⟩
      case round =>
        clear HO HB
        obtain ⟨h, HB⟩ := hrel
        rcases h with ⟨rfl, HO⟩ | ⟨rfl, HO⟩ | ⟨rfl, HO⟩ | ⟨rfl, HO⟩ | ⟨rfl, HO⟩
        · go_wp2
          have hx0 : wr.cell? ⟨w.heap.size, 0, none⟩ = some (.int .u64 1073741824) := (Kd.R_celln 0 HO.out 0 (by decide) (by decide)).1
          have hx1 : wr.cell? ⟨w.heap.size, 4, none⟩ = some (.int .u64 902905650) := (Kd.R_celln 0 HO.out 4 (by decide) (by decide)).1
          have hx2 : wr.cell? ⟨w.heap.size, 2, none⟩ = some (.int .u64 0) := (Kd.R_celln 0 HO.out 2 (by decide) (by decide)).1
          have hf2 : wr.frozen? ⟨w.heap.size, 2, none⟩ = false := (Kd.R_celln 0 HO.out 2 (by decide) (by decide)).2
          have hw0 : IntKind.i64.wrap 0 = 0 := rfl
          have hw1 : IntKind.i64.wrap 4 = 4 := rfl
          go_region_held3 (fun w' => w'.cell? ⟨w.heap.size, 0, none⟩ = some (.int .u64 1073741824) ∧ w'.cell? ⟨w.heap.size, 4, none⟩ = some (.int .u64 902905650)) (first | go_keep | (exact ⟨cell_set_ne hx0 (by decide), cell_set_ne hx1 (by decide)⟩)) ((go_at_call 96; (with_reducible refine (table_Root.calls (IntKind.u64.wrap 969487559530905600) 984625593 _ table_Root.at_969487559530905600).mono ?_); rintro ed W2 ⟨rfl, ⟨nd, rfl⟩⟩))
          go_wp2
          have hb : Below wr.heap.size wr (wr.drewN (1 + nd)) := zzN (Below.refl _ _) _
          have hp := Kd.R_putg (Kd.R_below HO.out hb) 2 984625593
          exact ⟨⟨(.inr (.inl ⟨rfl, ⟨hp.1⟩⟩)), ⟨below_set (below_then HB.out HB.out.size hb) (Nat.le_refl _)⟩⟩, by simp [intOf]⟩
        · go_wp2
          have hx0 : wr.cell? ⟨w.heap.size, 4, none⟩ = some (.int .u64 902905650) := (Kd.R_celln 0 HO.out 4 (by decide) (by decide)).1
          have hx1 : wr.cell? ⟨w.heap.size, 8, none⟩ = some (.int .u64 759250124) := (Kd.R_celln 0 HO.out 8 (by decide) (by decide)).1
          have hx2 : wr.cell? ⟨w.heap.size, 6, none⟩ = some (.int .u64 0) := (Kd.R_celln 0 HO.out 6 (by decide) (by decide)).1
          have hf2 : wr.frozen? ⟨w.heap.size, 6, none⟩ = false := (Kd.R_celln 0 HO.out 6 (by decide) (by decide)).2
          have hw0 : IntKind.i64.wrap 4 = 4 := rfl
          have hw1 : IntKind.i64.wrap 8 = 8 := rfl
          go_region_held3 (fun w' => w'.cell? ⟨w.heap.size, 4, none⟩ = some (.int .u64 902905650) ∧ w'.cell? ⟨w.heap.size, 8, none⟩ = some (.int .u64 759250124)) (first | go_keep | (exact ⟨cell_set_ne hx0 (by decide), cell_set_ne hx1 (by decide)⟩)) ((go_at_call 96; (with_reducible refine (table_Root.calls (IntKind.u64.wrap 685531226722800600) 827968131 _ table_Root.at_685531226722800600).mono ?_); rintro ed W2 ⟨rfl, ⟨nd, rfl⟩⟩))
          go_wp2
          have hb : Below wr.heap.size wr (wr.drewN (1 + nd)) := zzN (Below.refl _ _) _
          have hp := Kd.R_putg (Kd.R_below HO.out hb) 6 827968131
          exact ⟨⟨(.inr (.inr (.inl ⟨rfl, ⟨hp.1⟩⟩))), ⟨below_set (below_then HB.out HB.out.size hb) (Nat.le_refl _)⟩⟩, by simp [intOf]⟩
        · go_wp2
          have hx0 : wr.cell? ⟨w.heap.size, 8, none⟩ = some (.int .u64 759250124) := (Kd.R_celln 0 HO.out 8 (by decide) (by decide)).1
          have hx1 : wr.cell? ⟨w.heap.size, 12, none⟩ = some (.int .u64 638450707) := (Kd.R_celln 0 HO.out 12 (by decide) (by decide)).1
          have hx2 : wr.cell? ⟨w.heap.size, 10, none⟩ = some (.int .u64 0) := (Kd.R_celln 0 HO.out 10 (by decide) (by decide)).1
          have hf2 : wr.frozen? ⟨w.heap.size, 10, none⟩ = false := (Kd.R_celln 0 HO.out 10 (by decide) (by decide)).2
          have hw0 : IntKind.i64.wrap 8 = 8 := rfl
          have hw1 : IntKind.i64.wrap 12 = 12 := rfl
          go_region_held3 (fun w' => w'.cell? ⟨w.heap.size, 8, none⟩ = some (.int .u64 759250124) ∧ w'.cell? ⟨w.heap.size, 12, none⟩ = some (.int .u64 638450707)) (first | go_keep | (exact ⟨cell_set_ne hx0 (by decide), cell_set_ne hx1 (by decide)⟩)) ((go_at_call 96; (with_reducible refine (table_Root.calls (IntKind.u64.wrap 484743778457637668) 696235433 _ table_Root.at_484743778457637668).mono ?_); rintro ed W2 ⟨rfl, ⟨nd, rfl⟩⟩))
          go_wp2
          have hb : Below wr.heap.size wr (wr.drewN (1 + nd)) := zzN (Below.refl _ _) _
          have hp := Kd.R_putg (Kd.R_below HO.out hb) 10 696235433
          exact ⟨⟨(.inr (.inr (.inr (.inl ⟨rfl, ⟨hp.1⟩⟩)))), ⟨below_set (below_then HB.out HB.out.size hb) (Nat.le_refl _)⟩⟩, by simp [intOf]⟩
        · go_wp2
          have hx0 : wr.cell? ⟨w.heap.size, 12, none⟩ = some (.int .u64 638450707) := (Kd.R_celln 0 HO.out 12 (by decide) (by decide)).1
          have hx1 : wr.cell? ⟨w.heap.size, 16, none⟩ = some (.int .u64 536870912) := (Kd.R_celln 0 HO.out 16 (by decide) (by decide)).1
          have hx2 : wr.cell? ⟨w.heap.size, 14, none⟩ = some (.int .u64 0) := (Kd.R_celln 0 HO.out 14 (by decide) (by decide)).1
          have hf2 : wr.frozen? ⟨w.heap.size, 14, none⟩ = false := (Kd.R_celln 0 HO.out 14 (by decide) (by decide)).2
          have hw0 : IntKind.i64.wrap 12 = 12 := rfl
          have hw1 : IntKind.i64.wrap 16 = 16 := rfl
          go_region_held3 (fun w' => w'.cell? ⟨w.heap.size, 12, none⟩ = some (.int .u64 638450707) ∧ w'.cell? ⟨w.heap.size, 16, none⟩ = some (.int .u64 536870912)) (first | go_keep | (exact ⟨cell_set_ne hx0 (by decide), cell_set_ne hx1 (by decide)⟩)) ((go_at_call 96; (with_reducible refine (table_Root.calls (IntKind.u64.wrap 342765613334134784) 585461880 _ table_Root.at_342765613334134784).mono ?_); rintro ed W2 ⟨rfl, ⟨nd, rfl⟩⟩))
          go_wp2
          have hb : Below wr.heap.size wr (wr.drewN (1 + nd)) := zzN (Below.refl _ _) _
          have hp := Kd.R_putg (Kd.R_below HO.out hb) 14 585461880
          exact ⟨⟨(.inr (.inr (.inr (.inr ⟨rfl, ⟨hp.1⟩⟩)))), ⟨below_set (below_then HB.out HB.out.size hb) (Nat.le_refl _)⟩⟩, by simp [intOf]⟩
        · go_wp2
          exact ⟨⟨(.inr (.inr (.inr (.inl ⟨rfl, HO⟩)))), HB⟩, by simp [intOf]⟩
    · go_wp2_with fail
      go_loopw [2] (fun v W => ((v = .int .i64 1 ∧ Aside0 (Kd.R (Kd.int .u64) 127 W w.heap.size (fun _ => True) (.slice (some ⟨w.heap.size, 0, none⟩) 17 17) ([1073741824, 0, 984625593, 0, 902905650, 0, 827968131, 0, 759250124, 0, 696235433, 0, 638450707, 0, 585461880, 0, 536870912] : List Int))) ∨ (v = .int .i64 3 ∧ Aside0 (Kd.R (Kd.int .u64) 127 W w.heap.size (fun _ => True) (.slice (some ⟨w.heap.size, 0, none⟩) 17 17) ([1073741824, 1028218692, 984625593, 0, 902905650, 0, 827968131, 0, 759250124, 0, 696235433, 0, 638450707, 0, 585461880, 0, 536870912] : List Int))) ∨ (v = .int .i64 5 ∧ Aside0 (Kd.R (Kd.int .u64) 127 W w.heap.size (fun _ => True) (.slice (some ⟨w.heap.size, 0, none⟩) 17 17) ([1073741824, 1028218692, 984625593, 942880698, 902905650, 0, 827968131, 0, 759250124, 0, 696235433, 0, 638450707, 0, 585461880, 0, 536870912] : List Int))) ∨ (v = .int .i64 7 ∧ Aside0 (Kd.R (Kd.int .u64) 127 W w.heap.size (fun _ => True) (.slice (some ⟨w.heap.size, 0, none⟩) 17 17) ([1073741824, 1028218692, 984625593, 942880698, 902905650, 864625412, 827968131, 0, 759250124, 0, 696235433, 0, 638450707, 0, 585461880, 0, 536870912] : List Int))) ∨ (v = .int .i64 9 ∧ Aside0 (Kd.R (Kd.int .u64) 127 W w.heap.size (fun _ => True) (.slice (some ⟨w.heap.size, 0, none⟩) 17 17) ([1073741824, 1028218692, 984625593, 942880698, 902905650, 864625412, 827968131, 792864998, 759250124, 0, 696235433, 0, 638450707, 0, 585461880, 0, 536870912] : List Int))) ∨ (v = .int .i64 11 ∧ Aside0 (Kd.R (Kd.int .u64) 127 W w.heap.size (fun _ => True) (.slice (some ⟨w.heap.size, 0, none⟩) 17 17) ([1073741824, 1028218692, 984625593, 942880698, 902905650, 864625412, 827968131, 792864998, 759250124, 727060409, 696235433, 0, 638450707, 0, 585461880, 0, 536870912] : List Int))) ∨ (v = .int .i64 13 ∧ Aside0 (Kd.R (Kd.int .u64) 127 W w.heap.size (fun _ => True) (.slice (some ⟨w.heap.size, 0, none⟩) 17 17) ([1073741824, 1028218692, 984625593, 942880698, 902905650, 864625412, 827968131, 792864998, 759250124, 727060409, 696235433, 666717334, 638450707, 0, 585461880, 0, 536870912] : List Int))) ∨ (v = .int .i64 15 ∧ Aside0 (Kd.R (Kd.int .u64) 127 W w.heap.size (fun _ => True) (.slice (some ⟨w.heap.size, 0, none⟩) 17 17) ([1073741824, 1028218692, 984625593, 942880698, 902905650, 864625412, 827968131, 792864998, 759250124, 727060409, 696235433, 666717334, 638450707, 611382491, 585461880, 0, 536870912] : List Int))) ∨ (v = .int .i64 17 ∧ Aside0 (Kd.R (Kd.int .u64) 127 W w.heap.size (fun _ => True) (.slice (some ⟨w.heap.size, 0, none⟩) 17 17) ([1073741824, 1028218692, 984625593, 942880698, 902905650, 864625412, 827968131, 792864998, 759250124, 727060409, 696235433, 666717334, 638450707, 611382491, 585461880, 560640217, 536870912] : List Int)))) ∧ Aside0 (Below w.heap.size w W)) (fun v _ => 64 - (intOf v).toNat)
      case atStart => exact ⟨(.inl ⟨rfl, HO⟩), HB⟩
      case round =>
        clear HO HB
        obtain ⟨h, HB⟩ := hrel
        rcases h with ⟨rfl, HO⟩ | ⟨rfl, HO⟩ | ⟨rfl, HO⟩ | ⟨rfl, HO⟩ | ⟨rfl, HO⟩ | ⟨rfl, HO⟩ | ⟨rfl, HO⟩ | ⟨rfl, HO⟩ | ⟨rfl, HO⟩
        · go_wp2
          have hx0 : wr.cell? ⟨w.heap.size, 0, none⟩ = some (.int .u64 1073741824) := (Kd.R_celln 0 HO.out 0 (by decide) (by decide)).1
          have hx1 : wr.cell? ⟨w.heap.size, 2, none⟩ = some (.int .u64 984625593) := (Kd.R_celln 0 HO.out 2 (by decide) (by decide)).1
          have hx2 : wr.cell? ⟨w.heap.size, 1, none⟩ = some (.int .u64 0) := (Kd.R_celln 0 HO.out 1 (by decide) (by decide)).1
          have hf2 : wr.frozen? ⟨w.heap.size, 1, none⟩ = false := (Kd.R_celln 0 HO.out 1 (by decide) (by decide)).2
          have hw0 : IntKind.i64.wrap 0 = 0 := rfl
          have hw1 : IntKind.i64.wrap 2 = 2 := rfl
          go_region_held3 (fun w' => w'.cell? ⟨w.heap.size, 0, none⟩ = some (.int .u64 1073741824) ∧ w'.cell? ⟨w.heap.size, 2, none⟩ = some (.int .u64 984625593)) (first | go_keep | (exact ⟨cell_set_ne hx0 (by decide), cell_set_ne hx1 (by decide)⟩)) ((go_at_call 96; (with_reducible refine (table_Root.calls (IntKind.u64.wrap 1057233680184901632) 1028218692 _ table_Root.at_1057233680184901632).mono ?_); rintro ed W2 ⟨rfl, ⟨nd, rfl⟩⟩))
          go_wp2
          have hb : Below wr.heap.size wr (wr.drewN (1 + nd)) := zzN (Below.refl _ _) _
          have hp := Kd.R_putg (Kd.R_below HO.out hb) 1 1028218692
          exact ⟨⟨(.inr (.inl ⟨rfl, ⟨hp.1⟩⟩)), ⟨below_set (below_then HB.out HB.out.size hb) (Nat.le_refl _)⟩⟩, by simp [intOf]⟩
        · go_wp2
          have hx0 : wr.cell? ⟨w.heap.size, 2, none⟩ = some (.int .u64 984625593) := (Kd.R_celln 0 HO.out 2 (by decide) (by decide)).1
          have hx1 : wr.cell? ⟨w.heap.size, 4, none⟩ = some (.int .u64 902905650) := (Kd.R_celln 0 HO.out 4 (by decide) (by decide)).1
          have hx2 : wr.cell? ⟨w.heap.size, 3, none⟩ = some (.int .u64 0) := (Kd.R_celln 0 HO.out 3 (by decide) (by decide)).1
          have hf2 : wr.frozen? ⟨w.heap.size, 3, none⟩ = false := (Kd.R_celln 0 HO.out 3 (by decide) (by decide)).2
          have hw0 : IntKind.i64.wrap 2 = 2 := rfl
          have hw1 : IntKind.i64.wrap 4 = 4 := rfl
          go_region_held3 (fun w' => w'.cell? ⟨w.heap.size, 2, none⟩ = some (.int .u64 984625593) ∧ w'.cell? ⟨w.heap.size, 4, none⟩ = some (.int .u64 902905650)) (first | go_keep | (exact ⟨cell_set_ne hx0 (by decide), cell_set_ne hx1 (by decide)⟩)) ((go_at_call 96; (with_reducible refine (table_Root.calls (IntKind.u64.wrap 889024011054300450) 942880698 _ table_Root.at_889024011054300450).mono ?_); rintro ed W2 ⟨rfl, ⟨nd, rfl⟩⟩))
          go_wp2
          have hb : Below wr.heap.size wr (wr.drewN (1 + nd)) := zzN (Below.refl _ _) _
          have hp := Kd.R_putg (Kd.R_below HO.out hb) 3 942880698
          exact ⟨⟨(.inr (.inr (.inl ⟨rfl, ⟨hp.1⟩⟩))), ⟨below_set (below_then HB.out HB.out.size hb) (Nat.le_refl _)⟩⟩, by simp [intOf]⟩
        · go_wp2
          have hx0 : wr.cell? ⟨w.heap.size, 4, none⟩ = some (.int .u64 902905650) := (Kd.R_celln 0 HO.out 4 (by decide) (by decide)).1
          have hx1 : wr.cell? ⟨w.heap.size, 6, none⟩ = some (.int .u64 827968131) := (Kd.R_celln 0 HO.out 6 (by decide) (by decide)).1
          have hx2 : wr.cell? ⟨w.heap.size, 5, none⟩ = some (.int .u64 0) := (Kd.R_celln 0 HO.out 5 (by decide) (by decide)).1
          have hf2 : wr.frozen? ⟨w.heap.size, 5, none⟩ = false := (Kd.R_celln 0 HO.out 5 (by decide) (by decide)).2
          have hw0 : IntKind.i64.wrap 4 = 4 := rfl
          have hw1 : IntKind.i64.wrap 6 = 6 := rfl
          go_region_held3 (fun w' => w'.cell? ⟨w.heap.size, 4, none⟩ = some (.int .u64 902905650) ∧ w'.cell? ⟨w.heap.size, 6, none⟩ = some (.int .u64 827968131)) (first | go_keep | (exact ⟨cell_set_ne hx0 (by decide), cell_set_ne hx1 (by decide)⟩)) ((go_at_call 96; (with_reducible refine (table_Root.calls (IntKind.u64.wrap 747577103499840150) 864625412 _ table_Root.at_747577103499840150).mono ?_); rintro ed W2 ⟨rfl, ⟨nd, rfl⟩⟩))
          go_wp2
          have hb : Below wr.heap.size wr (wr.drewN (1 + nd)) := zzN (Below.refl _ _) _
          have hp := Kd.R_putg (Kd.R_below HO.out hb) 5 864625412
          exact ⟨⟨(.inr (.inr (.inr (.inl ⟨rfl, ⟨hp.1⟩⟩)))), ⟨below_set (below_then HB.out HB.out.size hb) (Nat.le_refl _)⟩⟩, by simp [intOf]⟩
        · go_wp2
          have hx0 : wr.cell? ⟨w.heap.size, 6, none⟩ = some (.int .u64 827968131) := (Kd.R_celln 0 HO.out 6 (by decide) (by decide)).1
          have hx1 : wr.cell? ⟨w.heap.size, 8, none⟩ = some (.int .u64 759250124) := (Kd.R_celln 0 HO.out 8 (by decide) (by decide)).1
          have hx2 : wr.cell? ⟨w.heap.size, 7, none⟩ = some (.int .u64 0) := (Kd.R_celln 0 HO.out 7 (by decide) (by decide)).1
          have hf2 : wr.frozen? ⟨w.heap.size, 7, none⟩ = false := (Kd.R_celln 0 HO.out 7 (by decide) (by decide)).2
          have hw0 : IntKind.i64.wrap 6 = 6 := rfl
          have hw1 : IntKind.i64.wrap 8 = 8 := rfl
          go_region_held3 (fun w' => w'.cell? ⟨w.heap.size, 6, none⟩ = some (.int .u64 827968131) ∧ w'.cell? ⟨w.heap.size, 8, none⟩ = some (.int .u64 759250124)) (first | go_keep | (exact ⟨cell_set_ne hx0 (by decide), cell_set_ne hx1 (by decide)⟩)) ((go_at_call 96; (with_reducible refine (table_Root.calls (IntKind.u64.wrap 628634906129798244) 792864998 _ table_Root.at_628634906129798244).mono ?_); rintro ed W2 ⟨rfl, ⟨nd, rfl⟩⟩))
          go_wp2
          have hb : Below wr.heap.size wr (wr.drewN (1 + nd)) := zzN (Below.refl _ _) _
          have hp := Kd.R_putg (Kd.R_below HO.out hb) 7 792864998
          exact ⟨⟨(.inr (.inr (.inr (.inr (.inl ⟨rfl, ⟨hp.1⟩⟩))))), ⟨below_set (below_then HB.out HB.out.size hb) (Nat.le_refl _)⟩⟩, by simp [intOf]⟩
        · go_wp2
          have hx0 : wr.cell? ⟨w.heap.size, 8, none⟩ = some (.int .u64 759250124) := (Kd.R_celln 0 HO.out 8 (by decide) (by decide)).1
          have hx1 : wr.cell? ⟨w.heap.size, 10, none⟩ = some (.int .u64 696235433) := (Kd.R_celln 0 HO.out 10 (by decide) (by decide)).1
          have hx2 : wr.cell? ⟨w.heap.size, 9, none⟩ = some (.int .u64 0) := (Kd.R_celln 0 HO.out 9 (by decide) (by decide)).1
          have hf2 : wr.frozen? ⟨w.heap.size, 9, none⟩ = false := (Kd.R_celln 0 HO.out 9 (by decide) (by decide)).2
          have hw0 : IntKind.i64.wrap 8 = 8 := rfl
          have hw1 : IntKind.i64.wrap 10 = 10 := rfl
          go_region_held3 (fun w' => w'.cell? ⟨w.heap.size, 8, none⟩ = some (.int .u64 759250124) ∧ w'.cell? ⟨w.heap.size, 10, none⟩ = some (.int .u64 696235433)) (first | go_keep | (exact ⟨cell_set_ne hx0 (by decide), cell_set_ne hx1 (by decide)⟩)) ((go_at_call 96; (with_reducible refine (table_Root.calls (IntKind.u64.wrap 528616838838443692) 727060409 _ table_Root.at_528616838838443692).mono ?_); rintro ed W2 ⟨rfl, ⟨nd, rfl⟩⟩))
          go_wp2
          have hb : Below wr.heap.size wr (wr.drewN (1 + nd)) := zzN (Below.refl _ _) _
          have hp := Kd.R_putg (Kd.R_below HO.out hb) 9 727060409
          exact ⟨⟨(.inr (.inr (.inr (.inr (.inr (.inl ⟨rfl, ⟨hp.1⟩⟩)))))), ⟨below_set (below_then HB.out HB.out.size hb) (Nat.le_refl _)⟩⟩, by simp [intOf]⟩
        · go_wp2
          have hx0 : wr.cell? ⟨w.heap.size, 10, none⟩ = some (.int .u64 696235433) := (Kd.R_celln 0 HO.out 10 (by decide) (by decide)).1
          have hx1 : wr.cell? ⟨w.heap.size, 12, none⟩ = some (.int .u64 638450707) := (Kd.R_celln 0 HO.out 12 (by decide) (by decide)).1
          have hx2 : wr.cell? ⟨w.heap.size, 11, none⟩ = some (.int .u64 0) := (Kd.R_celln 0 HO.out 11 (by decide) (by decide)).1
          have hf2 : wr.frozen? ⟨w.heap.size, 11, none⟩ = false := (Kd.R_celln 0 HO.out 11 (by decide) (by decide)).2
          have hw0 : IntKind.i64.wrap 10 = 10 := rfl
          have hw1 : IntKind.i64.wrap 12 = 12 := rfl
          go_region_held3 (fun w' => w'.cell? ⟨w.heap.size, 10, none⟩ = some (.int .u64 696235433) ∧ w'.cell? ⟨w.heap.size, 12, none⟩ = some (.int .u64 638450707)) (first | go_keep | (exact ⟨cell_set_ne hx0 (by decide), cell_set_ne hx1 (by decide)⟩)) ((go_at_call 96; (with_reducible refine (table_Root.calls (IntKind.u64.wrap 444512004437301131) 666717334 _ table_Root.at_444512004437301131).mono ?_); rintro ed W2 ⟨rfl, ⟨nd, rfl⟩⟩))
          go_wp2
          have hb : Below wr.heap.size wr (wr.drewN (1 + nd)) := zzN (Below.refl _ _) _
          have hp := Kd.R_putg (Kd.R_below HO.out hb) 11 666717334
          exact ⟨⟨(.inr (.inr (.inr (.inr (.inr (.inr (.inl ⟨rfl, ⟨hp.1⟩⟩))))))), ⟨below_set (below_then HB.out HB.out.size hb) (Nat.le_refl _)⟩⟩, by simp [intOf]⟩
        · go_wp2
          have hx0 : wr.cell? ⟨w.heap.size, 12, none⟩ = some (.int .u64 638450707) := (Kd.R_celln 0 HO.out 12 (by decide) (by decide)).1
          have hx1 : wr.cell? ⟨w.heap.size, 14, none⟩ = some (.int .u64 585461880) := (Kd.R_celln 0 HO.out 14 (by decide) (by decide)).1
          have hx2 : wr.cell? ⟨w.heap.size, 13, none⟩ = some (.int .u64 0) := (Kd.R_celln 0 HO.out 13 (by decide) (by decide)).1
          have hf2 : wr.frozen? ⟨w.heap.size, 13, none⟩ = false := (Kd.R_celln 0 HO.out 13 (by decide) (by decide)).2
          have hw0 : IntKind.i64.wrap 12 = 12 := rfl
          have hw1 : IntKind.i64.wrap 14 = 14 := rfl
          go_region_held3 (fun w' => w'.cell? ⟨w.heap.size, 12, none⟩ = some (.int .u64 638450707) ∧ w'.cell? ⟨w.heap.size, 14, none⟩ = some (.int .u64 585461880)) (first | go_keep | (exact ⟨cell_set_ne hx0 (by decide), cell_set_ne hx1 (by decide)⟩)) ((go_at_call 96; (with_reducible refine (table_Root.calls (IntKind.u64.wrap 373788551207549160) 611382491 _ table_Root.at_373788551207549160).mono ?_); rintro ed W2 ⟨rfl, ⟨nd, rfl⟩⟩))
          go_wp2
          have hb : Below wr.heap.size wr (wr.drewN (1 + nd)) := zzN (Below.refl _ _) _
          have hp := Kd.R_putg (Kd.R_below HO.out hb) 13 611382491
          exact ⟨⟨(.inr (.inr (.inr (.inr (.inr (.inr (.inr (.inl ⟨rfl, ⟨hp.1⟩⟩)))))))), ⟨below_set (below_then HB.out HB.out.size hb) (Nat.le_refl _)⟩⟩, by simp [intOf]⟩
        · go_wp2
          have hx0 : wr.cell? ⟨w.heap.size, 14, none⟩ = some (.int .u64 585461880) := (Kd.R_celln 0 HO.out 14 (by decide) (by decide)).1
          have hx1 : wr.cell? ⟨w.heap.size, 16, none⟩ = some (.int .u64 536870912) := (Kd.R_celln 0 HO.out 16 (by decide) (by decide)).1
          have hx2 : wr.cell? ⟨w.heap.size, 15, none⟩ = some (.int .u64 0) := (Kd.R_celln 0 HO.out 15 (by decide) (by decide)).1
          have hf2 : wr.frozen? ⟨w.heap.size, 15, none⟩ = false := (Kd.R_celln 0 HO.out 15 (by decide) (by decide)).2
          have hw0 : IntKind.i64.wrap 14 = 14 := rfl
          have hw1 : IntKind.i64.wrap 16 = 16 := rfl
          go_region_held3 (fun w' => w'.cell? ⟨w.heap.size, 14, none⟩ = some (.int .u64 585461880) ∧ w'.cell? ⟨w.heap.size, 16, none⟩ = some (.int .u64 536870912)) (first | go_keep | (exact ⟨cell_set_ne hx0 (by decide), cell_set_ne hx1 (by decide)⟩)) ((go_at_call 96; (with_reducible refine (table_Root.calls (IntKind.u64.wrap 314317453456834560) 560640217 _ table_Root.at_314317453456834560).mono ?_); rintro ed W2 ⟨rfl, ⟨nd, rfl⟩⟩))
          go_wp2
          have hb : Below wr.heap.size wr (wr.drewN (1 + nd)) := zzN (Below.refl _ _) _
          have hp := Kd.R_putg (Kd.R_below HO.out hb) 15 560640217
          exact ⟨⟨(.inr (.inr (.inr (.inr (.inr (.inr (.inr (.inr ⟨rfl, ⟨hp.1⟩⟩)))))))), ⟨below_set (below_then HB.out HB.out.size hb) (Nat.le_refl _)⟩⟩, by simp [intOf]⟩
        · go_wp2
          exact ⟨⟨(.inr (.inr (.inr (.inr ⟨rfl, HO⟩)))), HB⟩, by simp [intOf]⟩
    · have hC := arr_heap HO.out
      clear hu
      have HC := Aside0.mk (setRow_heap wr w.heap.size _ (encs (Value.int .u64) ([1073741824, 1028218692, 984625593, 942880698, 902905650, 864625412, 827968131, 792864998, 759250124, 727060409, 696235433, 666717334, 638450707, 611382491, 585461880, 560640217, 536870912] : List Int)).toArray 127 (0, 0) hC)
      have hst := run_storeCells_same (P := Try.prog) wr w.heap.size 127 ([1073741824, 1028218692, 984625593, 942880698, 902905650, 864625412, 827968131, 792864998, 759250124, 727060409, 696235433, 666717334, 638450707, 611382491, 585461880, 560640217, 536870912] : List Int) hC
      go_wp2_with (refine wpList_load_row rfl 127 _ rfl w.heap.size rfl 127 _ (0, 0) _ hC Try.underlying127 rfl (by kernel_rfl) ?_)
      (try simp only [Exit.inBlock, Exit.then])
      refine bodyPost_ret (results_cell_row rfl _ _ w.heap.size 127 _ (0, 0) _ rfl HC.out Try.underlying127 rfl (by kernel_rfl)) rfl ?_
      exact ⟨rfl, below_setRow HB.out (Nat.le_refl _)⟩



/-! ### table_Exp: function 60 -/
def table_Exp.f (a0 a1 : Int) : Option (Int × Int) := if I64 a0 ∧ I64 a1 then some (expF a0 a1) else none
theorem table_Exp.of (a0 a1 : Int)  (h_ : I64 a0 ∧ I64 a1) : table_Exp.f a0 a1 = some (expF a0 a1) := if_pos h_
set_option maxHeartbeats 4000000 in
set_option maxRecDepth 100000 in
theorem table_Exp.ok (a0 a1 : Int) (w : World) (h00 : I64 a0) (h0 : 0 ≤ a1) (h1 : a1 ≤ 30) (h2 : a0 ≤ 0) (h3 : I64 (-a0)) :
    Calls Try.prog 60 #[.int .i64 a0, .int .i64 a1] w fun e w' => e = .returned (.tuple #[.int .i64 ((expF a0 a1).1), .int .i64 0]) ∧ Below w.heap.size w w' := by
  have k1 : decide (a1 < 0) = false := decide_eq_false (by omega)
  have k2 : decide (30 < a1) = false := decide_eq_false (by omega)
  have k3 : decide (0 < a0) = false := decide_eq_false (by omega)
  have HNEG : Aside0 (fix_Neg.f a0 = some (-a0, 0)) := ⟨by rw [fix_Neg.of a0 h00, res_of h3]⟩
  have HROW := Aside0.mk (row_spell (y := -a0) (f := a1) (by omega) h3 ⟨h0, h1⟩)
  have HCNT := Aside0.mk (cnt_spell (y := -a0) (f := a1) (by omega) h3 ⟨h0, h1⟩)
  have hrow := row_lt_ (-a0) (f := a1)
  have HE : Aside0 ((expF a0 a1).1 = rd tabL (-a0 % 2 ^ a1.toNat * 16 / 2 ^ a1.toNat) / 2 ^ (-a0 / 2 ^ a1.toNat + (30 - a1)).toNat) := ⟨by unfold expF; rw [if_neg (by omega), if_pos h3]⟩
  have hcnt0 : 0 ≤ -a0 / 2 ^ a1.toNat + (30 - a1) := by have := Int.ediv_nonneg (show 0 ≤ -a0 by omega) (Int.le_of_lt (pow_pos_ a1.toNat)); omega
  generalize hy : -a0 = y at *
  generalize hq : y % 2 ^ a1.toNat * 16 / 2 ^ a1.toNat = row at *
  generalize hc_ : y / 2 ^ a1.toNat + (30 - a1) = cnt at *
  have tb := tab_bd_ row hrow
  have hr0 : 0 ≤ row := hrow.1
  have hr1 : row < 17 := by omega
  have H := Aside0.mk (show 0 ≤ a1 ∧ a1 ≤ 30 from ⟨h0, h1⟩)
  clear h1 h2 h3 h00 hy hq hc_ hrow
  go_enter Try.func60, Try.ntmps60
  go_wp2_with (go_at_call 46; (with_reducible refine (fix_Neg.calls a0 y 0 _ HNEG.out).mono ?_); rintro ed W1 ⟨rfl, ⟨nd, rfl⟩⟩)
  simp only [HROW.out]
  go_wp2_with (go_at_call 87; (with_reducible refine (table_rows.gen _).mono ?_); rintro ed W1 ⟨rfl, hb⟩; have HB := Aside0.mk hb; clear hb; have hst := store_arr (P := Try.prog) W1 127 #[.int .u64 0, .int .u64 0, .int .u64 0, .int .u64 0, .int .u64 0, .int .u64 0, .int .u64 0, .int .u64 0, .int .u64 0, .int .u64 0, .int .u64 0, .int .u64 0, .int .u64 0, .int .u64 0, .int .u64 0, .int .u64 0, .int .u64 0] tabL rfl)
  have hx := arr_at W1 127 tabL row hr0 (by show row < 17; omega)
  obtain ⟨t0, ht0⟩ : ∃ t0, rd tabL row = t0 := ⟨_, rfl⟩
  rw [ht0] at hx tb
  have HE2 := HE.out
  rw [ht0] at HE2
  have HE3 := Aside0.mk HE2
  have hr2 : (row.toNat : Int) < 17 := by omega
  have hcnt := HCNT.out
  have TB := Aside0.mk tb
  clear HE HE2 tb ht0
  rcases Int.lt_or_le 63 cnt with hc | hc
  · have hd : decide (63 < cnt) = true := decide_eq_true hc
    go_region_held3 (fun w' => w'.cell? ⟨W1.heap.size, row.toNat, none⟩ = some (.int .u64 t0)) (go_keep) (fail)
    go_wp2
    go_ret2
    refine ⟨?_, below_drew (zzA (below_then (zzN (Below.refl _ _) nd) (Nat.le_refl _) HB.out) _)⟩
    rw [HE3.out, far_zero TB.out.1 TB.out.2 (by omega)]
    have := TB.out
    rw [show t0 / 9223372036854775808 = 0 by omega]; rfl
  · have hd : decide (63 < cnt) = false := decide_eq_false (by omega)
    go_region_held3 (fun w' => w'.cell? ⟨W1.heap.size, row.toNat, none⟩ = some (.int .u64 t0)) (go_keep) (fail)
    go_wp2
    go_ret2
    refine ⟨?_, below_drew (zzA (below_then (zzN (Below.refl _ _) nd) (Nat.le_refl _) HB.out) _)⟩
    have hpp := pow_pos_ cnt.toNat
    have q0 := Int.ediv_nonneg TB.out.1 (Int.le_of_lt hpp)
    have q1 := Int.ediv_le_self (2 ^ cnt.toNat) TB.out.1
    have := TB.out
    rw [HE3.out]
    have hw : IntKind.i64.wrap (t0 / 2 ^ cnt.toNat) = t0 / 2 ^ cnt.toNat := (iwrap _).trans (wrap64_of (by unfold I64; omega))
    simp only [show min cnt.toNat 64 = cnt.toNat by omega, hw]
    rfl
set_option maxHeartbeats 4000000 in
set_option maxRecDepth 100000 in
theorem table_Exp.calls (a0 : Int) (a1 : Int) (r1 : Int) (r2 : Int) (w : World) (h : table_Exp.f a0 a1 = some (r1, r2)) :
    Calls Try.prog 60 #[.int .i64 a0, .int .i64 a1] w fun e w' => e = .returned (.tuple #[.int .i64 r1, .int .i64 r2]) ∧ Below w.heap.size w w' := by
  unfold table_Exp.f at h
  split at h
  case isFalse => cases h
  rename_i hv
  have h := Option.some.inj h
  have hI := hv.1
  have bad : ∀ (w : World), a1 < 0 ∨ a1 > 30 ∨ a0 > 0 → Calls Try.prog 60 #[.int .i64 a0, .int .i64 a1] w fun e w' => e = .returned (.tuple #[.int .i64 0, .int .i64 1]) ∧ Below w.heap.size w w' := by
    intro w hh
    clear h hv hI
    rcases Bool.eq_false_or_eq_true (decide (a1 < 0)) with k1 | k1
    · clear hh
      go_enter Try.func60, Try.ntmps60
      go_wp2
      go_ret2
      exact ⟨rfl, Below.refl _ _⟩
    · rcases Bool.eq_false_or_eq_true (decide (30 < a1)) with k2 | k2
      · clear hh
        go_enter Try.func60, Try.ntmps60
        go_wp2
        go_ret2
        exact ⟨rfl, Below.refl _ _⟩
      · have k3 : decide (0 < a0) = true := decide_eq_true (by simp only [decide_eq_false_iff_not] at k1 k2; omega)
        clear hh
        go_enter Try.func60, Try.ntmps60
        go_wp2
        go_ret2
        exact ⟨rfl, Below.refl _ _⟩
  by_cases hb : a1 < 0 ∨ a1 > 30 ∨ a0 > 0
  · unfold expF at h
    rw [if_pos hb] at h
    cases h
    exact bad w hb
  · by_cases h3 : I64 (-a0)
    · have e := table_Exp.ok a0 a1 w hI (by omega) (by omega) (by omega) h3
      rw [h] at e
      have e2 : r2 = 0 := by unfold expF at h; rw [if_neg hb, if_pos h3] at h; exact (congrArg Prod.snd h).symm
      subst e2
      exact e
    · unfold expF at h
      rw [if_neg hb, if_neg h3] at h
      cases h
      have k1 : decide (a1 < 0) = false := decide_eq_false (by omega)
      have k2 : decide (30 < a1) = false := decide_eq_false (by omega)
      have k3 : decide (0 < a0) = false := decide_eq_false (by omega)
      have HNEG : Aside0 (fix_Neg.f a0 = some (0, 2)) := ⟨by rw [fix_Neg.of a0 hI, res_not h3]⟩
      clear bad hv hI hb h3
      go_enter Try.func60, Try.ntmps60
      go_wp2_with (go_at_call 46; (with_reducible refine (fix_Neg.calls a0 0 2 _ HNEG.out).mono ?_); rintro ed W1 ⟨rfl, ⟨nd, rfl⟩⟩)
      go_ret2
      exact ⟨rfl, zzN (Below.refl _ _) _⟩


/-! ### table_Soft: function 37 -/
def table_Soft.f (a0 : Int) (l1 : List Int) : Option (List Int × Int) := if I64 a0 ∧ V64 l1 then some (softV a0 l1) else none
theorem table_Soft.of (a0 : Int) (l1 : List Int)  (h_ : I64 a0 ∧ V64 l1) : table_Soft.f a0 l1 = some (softV a0 l1) := if_pos h_
set_option maxHeartbeats 8000000 in
set_option maxRecDepth 100000 in
theorem table_Soft.calls (a0 : Int) (A1 : Option Addr) (c1 : Nat) (l1 : List Int) (r1 : List Int) (r2 : Int) (w : World) (hr1 : Kd.C (Kd.int .i64) w A1 l1.length l1) (hc1 : l1.length ≤ c1) (h : table_Soft.f a0 l1 = some (r1, r2)) :
    Calls Try.prog 37 #[.int .i64 a0, .slice A1 l1.length c1] w fun e w' => ∃ v0_ : Value, e = .returned (.tuple #[v0_, .int .i64 r2]) ∧ Kd.R (Kd.int .i64) 2 w' w.heap.size (fun _ => True) v0_ r1 ∧ Below w.heap.size w w' := by
  unfold table_Soft.f at h
  split at h
  case isFalse => cases h
  rename_i hv
  have h := Option.some.inj h
  unfold softV at h
  have HR := Aside0.mk hr1
  have HC := Aside0.mk hc1
  have HV := Aside0.mk hv
  clear hr1 hc1 hv
  by_cases hb : (bestF l1).2 = 0
  · rw [if_neg (by simpa using hb)] at h
    obtain ⟨hI, hn0, hn⟩ := bestF_is hb
    obtain ⟨best, hbest⟩ : ∃ b, (bestF l1).1 = b := ⟨_, rfl⟩
    rw [hbest] at h hI
    have HBE : Aside0 (table_Best.f l1 = some (best, 0)) := ⟨congrArg some (Prod.ext hbest hb)⟩
    clear hb hbest
    by_cases hf : a0 < 0 ∨ a0 > 30
    · rw [if_pos hf] at h
      cases h
      rcases Bool.eq_false_or_eq_true (decide (a0 < 0)) with k1 | k1
      · clear hf
        go_enter Try.func37, Try.ntmps37
        go_wp2_with (go_at_call 58; (with_reducible refine (table_Best.calls A1 c1 l1 best 0 _ HR.out HC.out HBE.out).mono ?_); rintro ed W1 ⟨rfl, hb⟩; have HBW := Aside0.mk hb; clear hb)
        go_ret2
        exact ⟨_, rfl, Kd.R_nil _ _ _ _ _, HBW.out⟩
      · have k2 : decide (30 < a0) = true := decide_eq_true (by simp only [decide_eq_false_iff_not] at k1; omega)
        clear hf
        go_enter Try.func37, Try.ntmps37
        go_wp2_with (go_at_call 58; (with_reducible refine (table_Best.calls A1 c1 l1 best 0 _ HR.out HC.out HBE.out).mono ?_); rintro ed W1 ⟨rfl, hb⟩; have HBW := Aside0.mk hb; clear hb)
        go_ret2
        exact ⟨_, rfl, Kd.R_nil _ _ _ _ _, HBW.out⟩
    · rw [if_neg hf] at h
      have k1 : decide (a0 < 0) = false := decide_eq_false (by omega)
      have k2 : decide (30 < a0) = false := decide_eq_false (by omega)
      have HF : Aside0 (0 ≤ a0 ∧ a0 ≤ 30) := ⟨by omega⟩
      have HH := Aside0.mk h
      have hbm := hI.1
      have hbl := hI.2.1
      obtain ⟨n, hnn⟩ : ∃ n, l1.length = n := ⟨_, rfl⟩
      obtain ⟨m, hm⟩ : ∃ m, rd l1 best = m := ⟨_, rfl⟩
      obtain ⟨ad, had, hcm⟩ := Kd.at_int HR.out best hbm (by omega)
      subst had
      rw [hm] at hcm
      have HCM := Aside0.mk hcm
      have hmI : I64 m := by rw [← hm]; exact HV.out.2.rd _
      have HM := Aside0.mk hmI
      have HN := Aside0.mk hn
      have hmk := print_make (P := Try.prog) 26 2 .i64 8 Try.underlying26 info2 (by decide) n (by omega)
      rw [hm] at HH
      have hbl2 : best < (n : Int) := by omega
      clear h hf hI hn0 hn hm hmI hbl hcm
      have HRn := HR.out
      rw [hnn] at HRn
      have HRN := Aside0.mk HRn
      have HNN := Aside0.mk hnn
      clear HRn hnn
      go_enter Try.func37, Try.ntmps37
      go_wp2_with (go_at_call 58; (with_reducible refine (table_Best.calls _ c1 l1 best 0 _ HR.out HC.out HBE.out).mono ?_); rintro ed W1 ⟨rfl, hb⟩; have HBW := Aside0.mk hb; clear hb; (try simp only [HNN.out]))
      go_loopw [9, 39] (fun s v W => ∃ (k : Nat) (acc : List Int), v = .int .i64 k ∧ s = .int .i64 (sumI acc) ∧ Aside0 (k ≤ n) ∧ Aside0 (acc.length = k) ∧ Aside0 (∀ p ∈ acc, 0 ≤ p ∧ p ≤ 1073741824) ∧ Aside0 (seqFrom (powF m a0) (l1.drop k) acc = seqV (l1.map (powF m a0))) ∧ Aside0 (Kd.R (Kd.int .i64) 2 W w.heap.size (fun _ => True) (.slice (some ⟨W1.heap.size, 0, none⟩) n n) (acc ++ List.replicate (n - k) 0)) ∧ Aside0 (Below w.heap.size w W)) (fun _ v _ => n - (intOf v).toNat)
      case atStart => exact ⟨0, [], rfl, rfl, ⟨Nat.zero_le _⟩, ⟨rfl⟩, ⟨by simp⟩, ⟨by rw [List.drop_zero]; exact seqFrom_start _ _⟩, ⟨by have ho := own_made W1 w.heap.size 2 .i64 n HBW.out.size (by have := HN.out; have := HNN.out; omega); rw [show ([] : List Int) ++ List.replicate (n - 0) 0 = List.replicate n 0 by simp]; exact Kd.R_of_own (enc := Value.int .i64) (h1 := fun _ => rfl) (xs := List.replicate n (0 : Int)) (by rw [List.length_replicate]; exact ho) (fun _ _ => trivial)⟩, ⟨zzA HBW.out _⟩⟩
      case round =>
        obtain ⟨k, acc, rfl, rfl, ⟨hk⟩, ⟨hacc⟩, HP, ⟨hseq⟩, HO, HB⟩ := hrel
        by_cases hlt : k < n
        · have hkl : k < l1.length := by have := HNN.out; omega
          obtain ⟨x, hx⟩ : ∃ x, l1[k] = x := ⟨_, rfl⟩
          have hxr : rd l1 (k : Int) = x := by rw [← hx]; exact rd_nat hkl
          have hxI : I64 x := by rw [← hxr]; exact HV.out.2.rd _
          rw [List.drop_eq_getElem_cons hkl, hx] at hseq
          obtain ⟨ad', had', hcx⟩ := Kd.at_int (Kd.C_below HRN.out HB.out) (k : Int) (by omega) (by omega)
          cases had'
          simp only [Int.toNat_natCast] at hcx
          rw [hxr] at hcx
          have hcm2 := pw_cell_below HB.out HCM.out
          clear hx hxr hkl
          have HCX := Aside0.mk hcx
          have hcell0 := (Kd.R_celln 0 HO.out (k : Int) (by omega) (by omega)).1
          have HCELL := Aside0.mk hcell0
          clear hcell0
          by_cases hs : I64 (x - m)
          · have HS : Aside0 (fix_Sub.f x m = some (x - m, 0)) := ⟨by rw [fix_Sub.of x m ⟨hxI, HM.out⟩, res_of hs]⟩
            obtain ⟨p, e, hpe⟩ : ∃ p e, expF (x - m) a0 = (p, e) := ⟨_, _, rfl⟩
            have HE : Aside0 (table_Exp.f (x - m) a0 = some (p, e)) := ⟨by unfold table_Exp.f; rw [if_pos ⟨hs, HV.out.1⟩, hpe]⟩
            have hg : powF m a0 x = (p, e) := by unfold powF; rw [if_pos hs, hpe]
            by_cases he : e = 0
            · subst he
              rw [seqFrom_ok (by rw [hg]), hg] at hseq
              have hpb : 0 ≤ p ∧ p ≤ 1073741824 := by
                have c1 : x - m ≤ 0 := by
                  apply Classical.byContradiction; intro hc
                  unfold expF at hpe
                  rw [if_pos (by omega)] at hpe
                  cases hpe
                by_cases c2 : I64 (-(x - m))
                · rw [expF_of HF.out c1 c2] at hpe
                  have q1 := powE_nonneg (-(x - m)) a0
                  have q2 := powE_le (y := -(x - m)) (by omega) HF.out
                  have q3 := pow_le30_ HF.out
                  cases hpe; omega
                · rw [expF_over HF.out c1 c2] at hpe
                  cases hpe
              have HSEQ := Aside0.mk hseq
              have HPB := Aside0.mk hpb
              have HACC := Aside0.mk hacc
              have hsum : wrap64 (sumI acc + p) = sumI acc + p := by
                have s0 := sumI_nn acc (fun q hq => (HP.out q hq).1)
                have s1 := sumI_ub acc 1073741824 (fun q hq => (HP.out q hq).2)
                have := HN.out
                have := HNN.out
                exact wrap64_of (by unfold I64; omega)
              have HSUM := Aside0.mk hsum
              clear hg hpe hs hseq hpb hacc hxI hk hcx
              have hcx := HCX.out
              go_wp2_with (first | (go_at_call 59; (with_reducible refine (fix_Sub.calls x m (x - m) 0 _ HS.out).mono ?_); rintro ed W3 ⟨rfl, ⟨nd1, rfl⟩⟩) | (go_at_call 60; (with_reducible refine (table_Exp.calls (x - m) a0 p 0 _ HE.out).mono ?_); rintro ed W2 ⟨rfl, hb⟩; have HO1 := Aside0.mk (Kd.R_below (show Kd.R (Kd.int .i64) 2 (wr.drewN nd1) w.heap.size (fun _ => True) (.slice (some ⟨W1.heap.size, 0, none⟩) n n) (acc ++ List.replicate (n - k) 0) from HO.out) hb); have HB1 := Aside0.mk (below_then (zzN HB.out nd1) (zzN HB.out nd1).size hb); clear hb; have hcell := (Kd.R_celln 0 HO1.out (k : Int) (by omega) (by omega)).1; have hfr := (Kd.R_celln 0 HO1.out (k : Int) (by omega) (by omega)).2; simp only [Int.toNat_natCast] at hcell hfr))
              have hkw : wrap64 ((k : Int) + 1) = ((k + 1 : Nat) : Int) := by
                have := HN.out; have := HNN.out
                rw [wrap64_of (by unfold I64; omega)]; omega
              have hp := Kd.R_putg HO1.out (k : Int) p
              have hset : (acc ++ List.replicate (n - k) 0).set (k : Int).toNat p = (acc ++ [p]) ++ List.replicate (n - (k + 1)) 0 := by
                obtain ⟨d, hd⟩ : ∃ d, n - k = d + 1 := ⟨n - k - 1, by omega⟩
                rw [hd, show n - (k + 1) = d by omega, Int.toNat_natCast, ← HACC.out, List.set_append_right _ _ (Nat.le_refl _), Nat.sub_self, List.replicate_succ]
                simp
              rw [hset] at hp
              simp only [Int.toNat_natCast] at hp
              exact ⟨⟨k + 1, acc ++ [p], by first | rfl | rw [hkw], by rw [HSUM.out, sumI_app], ⟨by omega⟩, ⟨by have := HACC.out; simp; omega⟩, ⟨fun q hq => by rcases List.mem_append.1 hq with e | e; (exact HP.out q e); (cases List.mem_singleton.1 e; exact HPB.out)⟩, HSEQ, ⟨hp.1⟩, ⟨below_set HB1.out HBW.out.size⟩⟩, by (try rw [hkw]); simp [intOf]; omega⟩
            · rw [seqFrom_bad (by rw [hg]; exact he), hg] at hseq
              have hres := HH.out
              rw [← hseq, if_pos he] at hres
              cases hres
              have he0 : (e == 0) = false := beq_eq_false_iff_ne.2 he
              have he1 : (e != 0) = true := bne_iff_ne.2 he
              clear hg hpe hs hseq hacc hxI hk hcx he HH
              have hcx := HCX.out
              go_wp2_with (first | (go_at_call 59; (with_reducible refine (fix_Sub.calls x m (x - m) 0 _ HS.out).mono ?_); rintro ed W3 ⟨rfl, ⟨nd1, rfl⟩⟩) | (go_at_call 60; (with_reducible refine (table_Exp.calls (x - m) a0 p e _ HE.out).mono ?_); rintro ed W2 ⟨rfl, hb⟩; have HO1 := Aside0.mk (Kd.R_below (show Kd.R (Kd.int .i64) 2 (wr.drewN nd1) w.heap.size (fun _ => True) (.slice (some ⟨W1.heap.size, 0, none⟩) n n) (acc ++ List.replicate (n - k) 0) from HO.out) hb); have HB1 := Aside0.mk (below_then (zzN HB.out nd1) (zzN HB.out nd1).size hb); clear hb; have hcell := (Kd.R_celln 0 HO1.out (k : Int) (by omega) (by omega)).1; have hfr := (Kd.R_celln 0 HO1.out (k : Int) (by omega) (by omega)).2; simp only [Int.toNat_natCast] at hcell hfr))
              go_ret2
              exact ⟨_, rfl, Kd.R_nil _ _ _ _ _, below_set HB1.out HBW.out.size⟩
          · have HS : Aside0 (fix_Sub.f x m = some (0, 2)) := ⟨by rw [fix_Sub.of x m ⟨hxI, HM.out⟩, res_not hs]⟩
            have hg : powF m a0 x = (0, 2) := by unfold powF; rw [if_neg hs]
            rw [seqFrom_bad (by rw [hg]; decide), hg] at hseq
            have hres := HH.out
            rw [← hseq, if_pos (by decide)] at hres
            cases hres
            clear hg hs hseq hacc hxI hk hcx HH
            have hcx := HCX.out
            go_wp2_with (go_at_call 59; (with_reducible refine (fix_Sub.calls x m 0 2 _ HS.out).mono ?_); rintro ed W3 ⟨rfl, ⟨nd1, rfl⟩⟩)
            go_ret2
            exact ⟨_, rfl, Kd.R_nil _ _ _ _ _, zzN HB.out _⟩
        · have hkn : k = n := by omega
          subst hkn
          rw [List.drop_eq_nil_of_le (by have := HNN.out; omega), seqFrom_nil] at hseq
          have hres := HH.out
          rw [← hseq] at hres
          simp only [ne_eq, not_true, if_false] at hres
          rw [← seqFrom_start] at hres
          have HRES := Aside0.mk hres
          have HACC := Aside0.mk hacc
          have HO2 := HO.out
          rw [Nat.sub_self, List.replicate_zero, List.append_nil] at HO2
          have HO3 := Aside0.mk HO2
          obtain ⟨S, hS⟩ : ∃ S, sumI acc = S := ⟨_, rfl⟩
          have hSI : I64 S := by
            have s0 := sumI_nn acc (fun q hq => (HP.out q hq).1)
            have s1 := sumI_ub acc 1073741824 (fun q hq => (HP.out q hq).2)
            have := HN.out
            have := HNN.out
            rw [hS] at s0 s1
            unfold I64; omega
          have HSI := Aside0.mk hSI
          rw [hS] at HRES
          simp only [hS]
          clear hseq hres HO2 HO hacc hk hS hSI HH HCM
          go_wp2_with fail
          go_loopw [76] (fun v W => ∃ (j : Nat) (qs : List Int), v = .int .i64 j ∧ Aside0 (j ≤ k) ∧ Aside0 (qs.length = j) ∧ Aside0 (seqFrom (fun p => divF p S a0) (acc.drop j) qs = (r1, r2)) ∧ Aside0 (Kd.R (Kd.int .i64) 2 W w.heap.size (fun _ => True) (.slice (some ⟨W1.heap.size, 0, none⟩) k k) (qs ++ acc.drop j)) ∧ Aside0 (Below w.heap.size w W)) (fun v _ => k - (intOf v).toNat)
          case atStart => exact ⟨0, [], rfl, ⟨Nat.zero_le _⟩, ⟨rfl⟩, HRES, HO3, HB⟩
          case round =>
            clear HRES HO3 HB
            obtain ⟨j, qs, rfl, ⟨hj⟩, ⟨hqs⟩, ⟨hseq⟩, HO, HB⟩ := hrel
            by_cases hlt2 : j < k
            · have hjl : j < acc.length := by have := HACC.out; omega
              obtain ⟨p, hpx⟩ : ∃ p, acc[j] = p := ⟨_, rfl⟩
              have hpI : 0 ≤ p ∧ p ≤ 1073741824 := by rw [← hpx]; exact HP.out _ (List.getElem_mem hjl)
              have hdr : acc.drop j = p :: acc.drop (j + 1) := by rw [List.drop_eq_getElem_cons hjl, hpx]
              rw [hdr] at hseq
              have HO2 := HO.out
              rw [hdr] at HO2
              have hcell0 := (Kd.R_celln 0 HO2 (j : Int) (by omega) (by omega)).1
              have hrp : rdOf 0 (qs ++ p :: acc.drop (j + 1)) (j : Int) = p := by
                simp [rdOf, List.getD_eq_getElem?_getD, ← hqs]
              rw [hrp] at hcell0
              simp only [Int.toNat_natCast] at hcell0
              have hcellr := hcell0
              have HO3 := Aside0.mk HO2
              have HQS := Aside0.mk hqs
              obtain ⟨q, e, hqe⟩ : ∃ q e, divF p S a0 = (q, e) := ⟨_, _, rfl⟩
              have HD : Aside0 (fix_Div.f p S a0 = some (q, e)) := ⟨by rw [fix_Div.of p S a0 ⟨by unfold I64; omega, HSI.out⟩, hqe]⟩
              have hdec : (q, e) = divF p S a0 := hqe.symm
              by_cases he : e = 0
              · subst he
                rw [seqFrom_ok (by rw [hqe]), hqe] at hseq
                have HSEQ := Aside0.mk hseq
                clear hseq hqe hdec hpI hdr HO2 hcell0 hrp hpx hjl hqs hj HO
                go_wp2_with (go_at_call 61; (with_reducible refine (fix_Div.calls p S a0 q 0 _ HD.out).mono ?_); rintro ed W2 ⟨rfl, hd⟩; have hb : Below wr.heap.size wr W2 := (by first | exact hd | exact hd.below); clear hd; have HO1 := Aside0.mk (Kd.R_below HO3.out hb); have HB1 := Aside0.mk (below_then HB.out HB.out.size hb); clear hb; have hcell := (Kd.R_celln 0 HO1.out (j : Int) (by omega) (by omega)).1; have hfr := (Kd.R_celln 0 HO1.out (j : Int) (by omega) (by omega)).2; simp only [Int.toNat_natCast] at hcell hfr)
                have hjw : wrap64 ((j : Int) + 1) = ((j + 1 : Nat) : Int) := by
                  have := HN.out; have := HNN.out
                  rw [wrap64_of (by unfold I64; omega)]; omega
                have hp := Kd.R_putg HO1.out (j : Int) q
                have hset : (qs ++ p :: acc.drop (j + 1)).set (j : Int).toNat q = (qs ++ [q]) ++ acc.drop (j + 1) := by
                  rw [Int.toNat_natCast, ← HQS.out, List.set_append_right _ _ (Nat.le_refl _), Nat.sub_self]
                  simp
                rw [hset] at hp
                simp only [Int.toNat_natCast] at hp
                exact ⟨⟨j + 1, qs ++ [q], by first | rfl | rw [hjw], ⟨by omega⟩, ⟨by have := HQS.out; simp; omega⟩, HSEQ, ⟨hp.1⟩, ⟨below_set HB1.out HBW.out.size⟩⟩, by (try rw [hjw]); simp [intOf]; omega⟩
              · rw [seqFrom_bad (by rw [hqe]; exact he), hqe] at hseq
                cases hseq
                have he0 : (e == 0) = false := beq_eq_false_iff_ne.2 he
                have he1 : (e != 0) = true := bne_iff_ne.2 he
                clear hqe hdec hpI hdr HO2 hcell0 hrp hpx hjl hqs hj HO he
                go_wp2_with (go_at_call 61; (with_reducible refine (fix_Div.calls p S a0 q e _ HD.out).mono ?_); rintro ed W2 ⟨rfl, hd⟩; have hb : Below wr.heap.size wr W2 := (by first | exact hd | exact hd.below); clear hd; have HO1 := Aside0.mk (Kd.R_below HO3.out hb); have HB1 := Aside0.mk (below_then HB.out HB.out.size hb); clear hb; have hcell := (Kd.R_celln 0 HO1.out (j : Int) (by omega) (by omega)).1; have hfr := (Kd.R_celln 0 HO1.out (j : Int) (by omega) (by omega)).2; simp only [Int.toNat_natCast] at hcell hfr)
                go_ret2
                exact ⟨_, rfl, Kd.R_nil _ _ _ _ _, below_set HB1.out HBW.out.size⟩
            · have hjk : j = k := by omega
              subst hjk
              rw [List.drop_eq_nil_of_le (by have := HACC.out; omega), seqFrom_nil] at hseq
              cases hseq
              have HO2 := HO.out
              rw [List.drop_eq_nil_of_le (by have := HACC.out; omega), List.append_nil] at HO2
              have HO3 := Aside0.mk HO2
              clear HO2 HO hj hqs
              go_wp2
              go_ret2
              exact ⟨_, rfl, HO3.out, HB.out⟩
  · rw [if_pos hb] at h
    cases h
    have HBE : Aside0 (table_Best.f l1 = some (0, (bestF l1).2)) := ⟨congrArg some (Prod.ext (bestF_err hb) rfl)⟩
    obtain ⟨e_, hE⟩ : ∃ e_ : Int, (bestF l1).2 = e_ := ⟨_, rfl⟩
    have he0 : (e_ == 0) = false := by rw [← hE]; exact beq_eq_false_iff_ne.2 hb
    have he1 : (e_ != 0) = true := by rw [← hE]; exact bne_iff_ne.2 hb
    rw [hE] at HBE
    simp only [hE]
    clear hE hb
    go_enter Try.func37, Try.ntmps37
    go_wp2_with (go_at_call 58; (with_reducible refine (table_Best.calls A1 c1 l1 0 e_ _ HR.out HC.out HBE.out).mono ?_); rintro ed W1 ⟨rfl, hb⟩; have HBW := Aside0.mk hb; clear hb)
    go_ret2
    exact ⟨_, rfl, Kd.R_nil _ _ _ _ _, HBW.out⟩


/-! ### soft_TellP: function 18 -/
def soft_TellP.f (a0 : Int) (l1 : List Int) (l2 : List Int) (a3 : Int) : Option (List Int × Int) := (soft_lines.f a0 l1 l2 a3).bind fun bt222 => (if bt222.2 = 0 then ((table_Soft.f a3 bt222.1).bind fun bt226 => (some (bt226.1, bt226.2))) else (some (([] : List Int), bt222.2)))
set_option maxHeartbeats 8000000 in
set_option maxRecDepth 100000 in
theorem soft_TellP.calls (a0 : Int) (A1 : Option Addr) (c1 : Nat) (l1 : List Int) (A2 : Option Addr) (c2 : Nat) (l2 : List Int) (a3 : Int) (r1 : List Int) (r2 : Int) (w : World) (hr1 : Kd.C (Kd.int .i64) w A1 l1.length l1) (hc1 : l1.length ≤ c1) (hr2 : Kd.C (Kd.int .i64) w A2 l2.length l2) (hc2 : l2.length ≤ c2) (h : soft_TellP.f a0 l1 l2 a3 = some (r1, r2)) :
  Calls Try.prog 18 #[.int .i64 a0, .slice A1 l1.length c1, .slice A2 l2.length c2, .int .i64 a3] w fun e w' => ∃ v0_ : Value, e = .returned (.tuple #[v0_, .int .i64 r2]) ∧ Kd.R (Kd.int .i64) 2 w' w.heap.size (fun _ => True) v0_ r1 ∧ Below w.heap.size w w' := by
 have HR1 := Aside0.mk hr1
 have HC1 := Aside0.mk hc1
 clear hr1 hc1
 have HR2 := Aside0.mk hr2
 have HC2 := Aside0.mk hc2
 clear hr2 hc2
 have HB := Aside0.mk (Below.refl w.heap.size w)
 have H : ((soft_lines.f a0 l1 l2 a3).bind fun bt222 => (if bt222.2 = 0 then ((table_Soft.f a3 bt222.1).bind fun bt226 => (some (bt226.1, bt226.2))) else (some (([] : List Int), bt222.2)))) = some (r1, r2) := h
 clear h
 replace H := Option.bind_eq_some_iff.mp H
 obtain ⟨⟨t222, t223⟩, A50, H⟩ := H
 replace H : (if t223 = 0 then ((table_Soft.f a3 t222).bind fun bt226 => (some (bt226.1, bt226.2))) else (some (([] : List Int), t223))) = some (r1, r2) := H
 have A5 := Aside0.mk A50
 clear A50
 by_cases c6 : t223 = 0
 ·
  rw [if_pos c6] at H
  have c6b0 : (t223 == 0) = true := beq_iff_eq.mpr c6
  have c6b1 : (t223 != 0) = false := bne_eq_false_iff_eq.mpr c6
  clear c6
  replace H := Option.bind_eq_some_iff.mp H
  obtain ⟨⟨t226, t227⟩, A70, H⟩ := H
  replace H : (some (t226, t227)) = some (r1, r2) := H
  have A7 := Aside0.mk A70
  clear A70
  simp only [Option.some.injEq, Prod.mk.injEq] at H
  obtain ⟨rfl, rfl⟩ := H
  go_enter Try.func18, Try.ntmps18
  go_wp2_with (first | ((with_reducible refine gate_callee (f := 36) rfl ?_); refine goesL_ (some 17) rfl rfl Try.func36 (by kernel_rfl) rfl #[.int .i64 a0, .slice A1 l1.length c1, .slice A2 l2.length c2, .int .i64 a3] rfl (by (try simp only [List.map_toArray, List.map_cons, List.map_nil]); first | done | rfl | (simp only [List.length_drop, List.length_take]; rfl)) ?_; (with_reducible refine (soft_lines.calls a0 _ _ l1 _ _ l2 a3 t222 t223 _ ?side1 ?side2 ?side3 ?side4 A5.out).mono ?_); (case side1 => repeat (first | exact HR1.out | (with_reducible refine ccA ?_ _) | (with_reducible refine ccN ?_ _) | (with_reducible refine ccD ?_))); (case side2 => exact HC1.out); (case side3 => repeat (first | exact HR2.out | (with_reducible refine ccA ?_ _) | (with_reducible refine ccN ?_ _) | (with_reducible refine ccD ?_))); (case side4 => exact HC2.out); rintro e w8 ⟨v224, rfl, ho0, hb⟩; refine ⟨_, rfl, ?_⟩; have n0_ := Aside0.mk (Kd.R_lower ho0 (zzS (by repeat (first | (with_reducible first | exact HB.out | apply zzA | apply zzN | apply zzD) | exact HB.out)))); have n1_ := Aside0.mk (zzT (by repeat (first | (with_reducible first | exact HB.out | apply zzA | apply zzN | apply zzD) | exact HB.out)) hb); clear HB; have HO225 := n0_; have HB := n1_; clear n0_ n1_; (try clear hb); (try clear hb2); (try clear hk); (try clear hi); (try clear ho0); obtain ⟨Ao9, co9, eo9⟩ := Kd.R_slice HO225.out; subst eo9) | ((with_reducible refine gate_callee (f := 37) rfl ?_); refine goesL_ (some 25) rfl rfl Try.func37 (by kernel_rfl) rfl #[.int .i64 a3, .slice Ao9 t222.length co9] rfl (by (try simp only [List.map_toArray, List.map_cons, List.map_nil]); first | done | rfl | (simp only [List.length_drop, List.length_take]; rfl)) ?_; (with_reducible refine (table_Soft.calls a3 _ _ t222 t226 t227 _ ?side1 ?side2 A7.out).mono ?_); (case side1 => repeat (first | exact (Kd.R_reads' HO225.out).2.2 | (with_reducible refine ccA ?_ _) | (with_reducible refine ccN ?_ _) | (with_reducible refine ccD ?_))); (case side2 => exact (Kd.R_reads' HO225.out).2.1); rintro e w10 ⟨v228, rfl, ho0, hb⟩; refine ⟨_, rfl, ?_⟩; have n0_ := Aside0.mk (Kd.R_elder' (by (with_reducible repeat (first | apply rrA | apply rrN | apply rrD)); exact HO225.out) (Kd.R_base ho0) hb); have n1_ := Aside0.mk (Kd.R_lower (Kd.R_new' ho0 (Kd.R_lt (by (with_reducible repeat (first | apply rrA | apply rrN | apply rrD)); exact HO225.out))) (zzS (by repeat (first | (with_reducible first | exact HB.out | apply zzA | apply zzN | apply zzD) | exact HB.out)))); have n2_ := Aside0.mk (zzT (by repeat (first | (with_reducible first | exact HB.out | apply zzA | apply zzN | apply zzD) | exact HB.out)) hb); clear HO225; clear HB; have HO225 := n0_; have HO229 := n1_; have HB := n2_; clear n0_ n1_ n2_; (try clear hb); (try clear hb2); (try clear hk); (try clear hi); (try clear ho0)))
  go_ret2
  exact ⟨_, by first | rfl | (simp [errW_none, errW_some] <;> rfl) | (simp [*, errW_none, errW_some] <;> rfl), by (with_reducible repeat (first | apply rrA | apply rrN | apply rrD)); exact Kd.R_mono HO229.out (fun _ hk => trivial), by repeat (first | (with_reducible first | exact HB.out | apply zzA | apply zzN | apply zzD) | exact HB.out)⟩
 ·
  rw [if_neg c6] at H
  have c6b0 : (t223 == 0) = false := beq_eq_false_iff_ne.mpr c6
  have c6b1 : (t223 != 0) = true := bne_iff_ne.mpr c6
  simp only [Option.some.injEq, Prod.mk.injEq] at H
  obtain ⟨rfl, rfl⟩ := H
  go_enter Try.func18, Try.ntmps18
  go_wp2_with (first | ((with_reducible refine gate_callee (f := 36) rfl ?_); refine goesL_ (some 17) rfl rfl Try.func36 (by kernel_rfl) rfl #[.int .i64 a0, .slice A1 l1.length c1, .slice A2 l2.length c2, .int .i64 a3] rfl (by (try simp only [List.map_toArray, List.map_cons, List.map_nil]); first | done | rfl | (simp only [List.length_drop, List.length_take]; rfl)) ?_; (with_reducible refine (soft_lines.calls a0 _ _ l1 _ _ l2 a3 t222 t223 _ ?side1 ?side2 ?side3 ?side4 A5.out).mono ?_); (case side1 => repeat (first | exact HR1.out | (with_reducible refine ccA ?_ _) | (with_reducible refine ccN ?_ _) | (with_reducible refine ccD ?_))); (case side2 => exact HC1.out); (case side3 => repeat (first | exact HR2.out | (with_reducible refine ccA ?_ _) | (with_reducible refine ccN ?_ _) | (with_reducible refine ccD ?_))); (case side4 => exact HC2.out); rintro e w11 ⟨v224, rfl, ho0, hb⟩; refine ⟨_, rfl, ?_⟩; have n0_ := Aside0.mk (Kd.R_lower ho0 (zzS (by repeat (first | (with_reducible first | exact HB.out | apply zzA | apply zzN | apply zzD) | exact HB.out)))); have n1_ := Aside0.mk (zzT (by repeat (first | (with_reducible first | exact HB.out | apply zzA | apply zzN | apply zzD) | exact HB.out)) hb); clear HB; have HO225 := n0_; have HB := n1_; clear n0_ n1_; (try clear hb); (try clear hb2); (try clear hk); (try clear hi); (try clear ho0)))
  go_ret2
  exact ⟨_, by first | rfl | (simp [errW_none, errW_some] <;> rfl) | (simp [*, errW_none, errW_some] <;> rfl), by first | exact Kd.R_nil _ _ _ _ _ | exact Kd.N_nil _ _ _ _ _ | exact Kd.V_nil _ _ _ _ _ | exact Kd.Q_nil _ _ _ _ _ | exact Kd.S_nil _ _ _ _ _, by repeat (first | (with_reducible first | exact HB.out | apply zzA | apply zzN | apply zzD) | exact HB.out)⟩

def soft_Tell.f (a0 : Int) (l1 l2 : List Int) (a3 : Int) : Option (List Int × Int) := if V64 l1 ∧ V64 l2 then some (tellS a0 l1 l2 a3) else none
theorem soft_Tell.of (a0 : Int) (l1 l2 : List Int) (a3 : Int)  (h_ : V64 l1 ∧ V64 l2) : soft_Tell.f a0 l1 l2 a3 = some (tellS a0 l1 l2 a3) := if_pos h_
theorem soft_TellP.is (a0 : Int) (l1 l2 : List Int) (a3 : Int) (h1 : V64 l1) (h2 : V64 l2) : soft_TellP.f a0 l1 l2 a3 = some (tellS a0 l1 l2 a3) := by
  unfold soft_TellP.f tellS
  rw [soft_lines.of _ _ _ _ ⟨h1, h2⟩, Option.bind_some]
  by_cases c : (linesS a0 l1 l2 a3).2 = 0
  · have hf := (linesS_ok c).2.2.1
    rw [if_pos c, if_pos c, table_Soft.of _ _ ⟨by unfold I64; omega, linesS_v64 c⟩]; rfl
  · rw [if_neg c, if_neg c]
theorem soft_Tell.calls (a0 : Int) (A1 : Option Addr) (c1 : Nat) (l1 : List Int) (A2 : Option Addr) (c2 : Nat) (l2 : List Int) (a3 : Int) (r1 : List Int) (r2 : Int) (w : World) (hr1 : Kd.C (Kd.int .i64) w A1 l1.length l1) (hc1 : l1.length ≤ c1) (hr2 : Kd.C (Kd.int .i64) w A2 l2.length l2) (hc2 : l2.length ≤ c2) (h : soft_Tell.f a0 l1 l2 a3 = some (r1, r2)) :
    Calls Try.prog 18 #[.int .i64 a0, .slice A1 l1.length c1, .slice A2 l2.length c2, .int .i64 a3] w fun e w' => ∃ v0_ : Value, e = .returned (.tuple #[v0_, .int .i64 r2]) ∧ Kd.R (Kd.int .i64) 2 w' w.heap.size (fun _ => True) v0_ r1 ∧ Below w.heap.size w w' := by
  unfold soft_Tell.f at h
  split at h
  case isFalse => cases h
  rename_i hv
  exact soft_TellP.calls a0 A1 c1 l1 A2 c2 l2 a3 r1 r2 w hr1 hc1 hr2 hc2 ((soft_TellP.is a0 l1 l2 a3 hv.1 hv.2).trans h)


/-! ### soft_OffP: function 34 -/
def soft_OffP.j0 : Nat → Int → List Int → Int → Bool → List Int → Int → Option (List Int × Int)
 | 0, _, _, _, _, _, _ => none
 | k + 1, x3, x10, x11, x33, x231000, x231001 => if x33 = true then (if 1 = 0 then (if 0 ≤ x231001 then (if x231001 < (x10.length : Int) then (if 0 ≤ x3 then (some ((x10.set (x231001 : Int).toNat (wrap64 ((rd x10 x231001) - (shl .i64 1 x3)))), 0)) else (none)) else (none)) else (none)) else (some (([] : List Int), 1))) else (if x11 = 0 then (if 0 ≤ x231001 then (if x231001 < (x10.length : Int) then (if 0 ≤ x3 then (some ((x10.set (x231001 : Int).toNat (wrap64 ((rd x10 x231001) - (shl .i64 1 x3)))), 0)) else (none)) else (none)) else (none)) else (some (([] : List Int), x11)))
def soft_OffP.f (k : Nat) (a0 : Int) (l1 : List Int) (l2_0 : List Int) (a2_1 : Int) (a3 : Int) : Option (List Int × Int) := (soft_Tell.f a0 l1 l2_0 a3).bind fun bt231 => (if bt231.2 = 0 then (if a2_1 < 0 then (soft_OffP.j0 k a3 bt231.1 bt231.2 true l2_0 a2_1) else (soft_OffP.j0 k a3 bt231.1 bt231.2 (decide (a2_1 ≥ a0)) l2_0 a2_1)) else (soft_OffP.j0 k a3 bt231.1 bt231.2 false l2_0 a2_1))
theorem soft_OffP.mono_l : ∀ k, (∀ y0 y1 y2 y3 y4 y5, LeO (soft_OffP.j0 k y0 y1 y2 y3 y4 y5) (soft_OffP.j0 (k + 1) y0 y1 y2 y3 y4 y5))
 | 0 => fun _ _ _ _ _ _ r h => by simp [soft_OffP.j0] at h
 | k + 1 => by
  have ih0 := soft_OffP.mono_l k
  ·
   intro y0 y1 y2 y3 y4 y5
   unfold soft_OffP.j0
   repeat' first
   | (with_reducible exact ih0 _ _ _ _ _ _)
   | (with_reducible exact LeO.refl _)
   | (with_reducible exact LeO.none _)
   | (with_reducible refine LeO.ite ?_ ?_)
   | (with_reducible refine LeO.bind ?_ (fun _ => ?_))
   | exact ih0 _ _ _ _ _ _
   | exact LeO.none _
   | refine LeO.ite ?_ ?_
   | refine LeO.bind ?_ (fun _ => ?_)
theorem soft_OffP.mono : ∀ a0 a1 a2 a3 a4 k, LeO (soft_OffP.f k a0 a1 a2 a3 a4) (soft_OffP.f (k + 1) a0 a1 a2 a3 a4) := by
 intro a0 a1 a2 a3 a4 k
 have ih0 := soft_OffP.mono_l k
 unfold soft_OffP.f
 repeat' first
   | (with_reducible exact ih0 _ _ _ _ _ _)
   | (with_reducible exact LeO.refl _)
   | (with_reducible exact LeO.none _)
   | (with_reducible refine LeO.ite ?_ ?_)
   | (with_reducible refine LeO.bind ?_ (fun _ => ?_))
   | exact ih0 _ _ _ _ _ _
   | exact LeO.none _
   | refine LeO.ite ?_ ?_
   | refine LeO.bind ?_ (fun _ => ?_)
def soft_OffP.T6 : Bool × List (List Nat × List Nat) := (true, [([], []), ([], []), ([1], [1]), ([0, 2], [0, 2]), ([3], [3]), ([], []), ([5], [5]), ([4, 6], [4, 6]), ([0, 2, 0, 1, 2, 3, 4, 5, 6, 7], [0, 2]), ([8, 7, 0, 1, 2, 3, 4, 5, 6, 7], [7, 8])])
def soft_OffP.B6 : List Nat := [0, 0, 2, 7, 15, 0, 32, 127, 255, 511]
theorem soft_OffP.tab6 : rtab .any (opsOf Try.f34 6) = soft_OffP.T6 := by kernel_rfl
theorem soft_OffP.bits6 : waitsOk soft_OffP.T6.2 soft_OffP.B6 = true := by kernel_rfl
set_option maxHeartbeats 8000000 in
set_option maxRecDepth 100000 in
theorem soft_OffP.calls (k : Nat) (a0 : Int) (A1 : Option Addr) (c1 : Nat) (l1 : List Int) (A2_0 : Option Addr) (c2_0 : Nat) (l2_0 : List Int) (a2_1 : Int) (a3 : Int) (r1 : List Int) (r2 : Int) (w : World) (hr1 : Kd.C (Kd.int .i64) w A1 l1.length l1) (hc1 : l1.length ≤ c1) (hr2_0 : Kd.C (Kd.int .i64) w A2_0 l2_0.length l2_0) (hc2_0 : l2_0.length ≤ c2_0) (h : soft_OffP.f k a0 l1 l2_0 a2_1 a3 = some (r1, r2)) :
  Calls Try.prog 34 #[.int .i64 a0, .slice A1 l1.length c1, .agg #[.slice A2_0 l2_0.length c2_0, .int .i64 a2_1], .int .i64 a3] w fun e w' => ∃ v0_ : Value, e = .returned (.tuple #[v0_, .int .i64 r2]) ∧ Kd.R (Kd.int .i64) 2 w' w.heap.size (fun _ => True) v0_ r1 ∧ Below w.heap.size w w' := by
 have hu37 := Try.underlying37
 have HR1 := Aside0.mk hr1
 have HC1 := Aside0.mk hc1
 clear hr1 hc1
 have HR2_0 := Aside0.mk hr2_0
 have HC2_0 := Aside0.mk hc2_0
 clear hr2_0 hc2_0
 have HB := Aside0.mk (Below.refl w.heap.size w)
 have H : ((soft_Tell.f a0 l1 l2_0 a3).bind fun bt231 => (if bt231.2 = 0 then (if a2_1 < 0 then (soft_OffP.j0 k a3 bt231.1 bt231.2 true l2_0 a2_1) else (soft_OffP.j0 k a3 bt231.1 bt231.2 (decide (a2_1 ≥ a0)) l2_0 a2_1)) else (soft_OffP.j0 k a3 bt231.1 bt231.2 false l2_0 a2_1))) = some (r1, r2) := h
 clear h
 replace H := Option.bind_eq_some_iff.mp H
 obtain ⟨⟨t231, t232⟩, A50, H⟩ := H
 replace H : (if t232 = 0 then (if a2_1 < 0 then (soft_OffP.j0 k a3 t231 t232 true l2_0 a2_1) else (soft_OffP.j0 k a3 t231 t232 (decide (a2_1 ≥ a0)) l2_0 a2_1)) else (soft_OffP.j0 k a3 t231 t232 false l2_0 a2_1)) = some (r1, r2) := H
 have A5 := Aside0.mk A50
 clear A50
 have HC6 := Aside0.mk H
 clear H
 go_enter Try.func34, Try.ntmps34
 go_upto_region 2 with (first | ((with_reducible refine gate_dst (N := 6) rfl ?_); refine box_event ?hg (N := 6) ?hd (cs := #[.slice A2_0 l2_0.length c2_0, .int .i64 a2_1]) (t := 37) ?hr ?_; (case hd => rfl); (case hg => rfl); (case hr => first | (go_simp; done) | (go_simp; rfl)); intro gb230 hg w7 hbox hb; have n0_ := Aside0.mk (zzT (by repeat (first | (with_reducible first | exact HB.out | apply zzA | apply zzN | apply zzD) | exact HB.out)) hb); have n1_ := Aside0.mk (hbox); have n2_ := Aside0.mk ((by rw [hg]; exact (zzS (by repeat (first | (with_reducible first | exact HB.out | apply zzA | apply zzN | apply zzD) | exact HB.out))) : w.heap.size ≤ gb230)); have n3_ := Aside0.mk ((by rw [hg]; exact (zzS (by repeat (first | (with_reducible first | exact HB.out | apply zzA | apply zzN | apply zzD) | exact HB.out))) : w.heap.size ≤ gb230)); clear HB; have HB := n0_; have BK230 := n1_; have GW230 := n2_; have GE230 := n3_; clear n0_ n1_ n2_ n3_; clear hb hbox hg; have hcz8_0 : w7.cell? ⟨gb230, 0, none⟩ = some (.slice A2_0 l2_0.length c2_0) := (blk_cell BK230.out 0).trans rfl; have hcz8_1 : w7.cell? ⟨gb230, 1, none⟩ = some (.int .i64 a2_1) := (blk_cell BK230.out 1).trans rfl; have hfz8_0 := blk_frozen BK230.out 0; have hfz8_1 := blk_frozen BK230.out 1) | ((with_reducible refine gate_callee (f := 18) rfl ?_); refine goesL_ (some 18) rfl rfl Try.func18 (by kernel_rfl) rfl #[.int .i64 a0, .slice A1 l1.length c1, .slice A2_0 l2_0.length c2_0, .int .i64 a3] rfl (by (try simp only [List.map_toArray, List.map_cons, List.map_nil]); first | done | rfl | (simp only [List.length_drop, List.length_take]; rfl)) ?_; (with_reducible refine (soft_Tell.calls a0 _ _ l1 _ _ l2_0 a3 t231 t232 _ ?side1 ?side2 ?side3 ?side4 A5.out).mono ?_); (case side1 => repeat (first | exact (Kd.C_below HR1.out HB.out) | (with_reducible refine ccA ?_ _) | (with_reducible refine ccN ?_ _) | (with_reducible refine ccD ?_))); (case side2 => exact HC1.out); (case side3 => repeat (first | exact (Kd.C_below HR2_0.out HB.out) | (with_reducible refine ccA ?_ _) | (with_reducible refine ccN ?_ _) | (with_reducible refine ccD ?_))); (case side4 => exact HC2_0.out); rintro e w9 ⟨v233, rfl, ho0, hb⟩; refine ⟨_, rfl, ?_⟩; have n0_ := Aside0.mk (Kd.R_lower ho0 (zzS (by repeat (first | (with_reducible first | exact HB.out | apply zzA | apply zzN | apply zzD | refine below_set ?_ GE230.out) | exact HB.out)))); have n1_ := Aside0.mk (blk_below (g := gb230) (o := .cells #[.slice A2_0 l2_0.length c2_0, .int .i64 a2_1] 37 (0, 0)) (by (with_reducible repeat (first | refine kkN ?_ _ | refine kkD ?_ | refine kkA ?_ _)); exact BK230.out) hb); have n2_ := Aside0.mk (zzT (by repeat (first | (with_reducible first | exact HB.out | apply zzA | apply zzN | apply zzD | refine below_set ?_ GE230.out) | exact HB.out)) hb); clear BK230; clear HB; have HO234 := n0_; have BK230 := n1_; have HB := n2_; clear n0_ n1_ n2_; (try clear hb); (try clear hb2); (try clear hk); (try clear hi); (try clear ho0)))
 (try simp only [Act.put, List.setIfInBounds_toArray, List.set_cons_zero, List.set_cons_succ])
 go_cut [33] (fun v33 wc => ∃ (kq : Nat) (x33_5 : Bool), v33 = .bool x33_5 ∧ Aside0 (soft_OffP.j0 kq a3 t231 t232 x33_5 l2_0 a2_1 = some (r1, r2)) ∧ Aside0 (kq ≤ k) ∧ Aside0 (Kd.R (Kd.int .i64) 2 wc w.heap.size (fun _ => True) v233 t231) ∧ Aside0 (wc.heap[gb230]? = some (.cells #[(.slice A2_0 l2_0.length c2_0), .int .i64 a2_1] 37 (0, 0))) ∧ Aside0 (Below w.heap.size w wc))
 case first =>
  have H := HC6.out
  clear HC6
  by_cases c10 : t232 = 0
  ·
   rw [if_pos c10] at H
   have c10b0 : (t232 == 0) = true := beq_iff_eq.mpr c10
   have c10b1 : (t232 != 0) = false := bne_eq_false_iff_eq.mpr c10
   clear c10
   (first | rw [c10b0] | (simp only [i64_w, i32_w]; rw [c10b0]) | skip)
   by_cases c11 : a2_1 < 0
   ·
    rw [if_pos c11] at H
    have c11b0 : decide (a2_1 < 0) = true := decide_eq_true c11
    clear c11
    have H' := Aside0.mk H
    clear H
    have hcz12_0 : w9.cell? ⟨gb230, 0, none⟩ = some (.slice A2_0 l2_0.length c2_0) := (blk_cell BK230.out 0).trans rfl
    have hcz12_1 : w9.cell? ⟨gb230, 1, none⟩ = some (.int .i64 a2_1) := (blk_cell BK230.out 1).trans rfl
    have hfz12_0 := blk_frozen BK230.out 0
    have hfz12_1 := blk_frozen BK230.out 1
    go_wp2
    go_meet
    case rel => exact ⟨_, (true), (by first | rfl | (simp; done) | (simp [*]; done)), H', ⟨by first | omega | exact Nat.le_refl _⟩, ⟨by (with_reducible repeat (first | apply rrA | apply rrN | apply rrD)); exact HO234.out⟩, ⟨by (with_reducible repeat (first | refine kkN ?_ _ | refine kkD ?_ | refine kkA ?_ _)); exact BK230.out⟩, ⟨by repeat (first | (with_reducible first | exact HB.out | apply zzA | apply zzN | apply zzD | refine below_set ?_ GE230.out) | exact HB.out)⟩⟩
   ·
    rw [if_neg c11] at H
    have c11b0 : decide (a2_1 < 0) = false := decide_eq_false c11
    clear c11
    have H' := Aside0.mk H
    clear H
    have hcz13_0 : w9.cell? ⟨gb230, 0, none⟩ = some (.slice A2_0 l2_0.length c2_0) := (blk_cell BK230.out 0).trans rfl
    have hcz13_1 : w9.cell? ⟨gb230, 1, none⟩ = some (.int .i64 a2_1) := (blk_cell BK230.out 1).trans rfl
    have hfz13_0 := blk_frozen BK230.out 0
    have hfz13_1 := blk_frozen BK230.out 1
    go_wp2
    go_meet
    case rel => exact ⟨_, (decide (a2_1 ≥ a0)), (by first | rfl | (simp; done) | (simp [*]; done)), H', ⟨by first | omega | exact Nat.le_refl _⟩, ⟨by (with_reducible repeat (first | apply rrA | apply rrN | apply rrD)); exact HO234.out⟩, ⟨by (with_reducible repeat (first | refine kkN ?_ _ | refine kkD ?_ | refine kkA ?_ _)); exact BK230.out⟩, ⟨by repeat (first | (with_reducible first | exact HB.out | apply zzA | apply zzN | apply zzD | refine below_set ?_ GE230.out) | exact HB.out)⟩⟩
  ·
   rw [if_neg c10] at H
   have c10b0 : (t232 == 0) = false := beq_eq_false_iff_ne.mpr c10
   have c10b1 : (t232 != 0) = true := bne_iff_ne.mpr c10
   (first | rw [c10b0] | (simp only [i64_w, i32_w]; rw [c10b0]) | skip)
   have H' := Aside0.mk H
   clear H
   go_wp2
   go_meet
   case rel => exact ⟨_, (false), (by first | rfl | (simp; done) | (simp [*]; done)), H', ⟨by first | omega | exact Nat.le_refl _⟩, ⟨by (with_reducible repeat (first | apply rrA | apply rrN | apply rrD)); exact HO234.out⟩, ⟨by (with_reducible repeat (first | refine kkN ?_ _ | refine kkD ?_ | refine kkA ?_ _)); exact BK230.out⟩, ⟨by repeat (first | (with_reducible first | exact HB.out | apply zzA | apply zzN | apply zzD | refine below_set ?_ GE230.out) | exact HB.out)⟩⟩
 case rest =>
  clear HC6
  try clear c1
  try clear c2
  try clear p2
  try clear c3
  try clear c10
  try clear c10b0
  try clear c10b1
  try clear c11
  try clear c11b0
  try clear hcz12_0
  try clear hcz12_1
  try clear hcz13_0
  try clear hcz13_1
  try clear hcz8_0
  try clear hcz8_1
  try clear hfz12_0
  try clear hfz12_1
  try clear hfz13_0
  try clear hfz13_1
  try clear hfz8_0
  try clear hfz8_1
  obtain ⟨kq, x33_5, rfl, HA, HJ5, HO_10, BK230, HB⟩ := hcut
  cases kq with
  | zero => exact absurd HA.out (by simp [soft_OffP.j0])
  | succ kj5 =>
   have H := HA.out
   clear HA
   simp only [soft_OffP.j0] at H
   by_cases c14 : x33_5 = true
   ·
    subst c14
    have H1 : (if 1 = 0 then (if 0 ≤ a2_1 then (if a2_1 < (t231.length : Int) then (if 0 ≤ a3 then (some ((t231.set (a2_1 : Int).toNat (wrap64 ((rd t231 a2_1) - (shl .i64 1 a3)))), 0)) else (none)) else (none)) else (none)) else (some (([] : List Int), 1))) = some (r1, r2) := by rw [if_pos rfl] at H; exact H
    clear H
    have H := H1
    clear H1
    by_cases c15 : 1 = 0
    ·
     exact absurd c15 (by decide)
    ·
     rw [if_neg c15] at H
     have c15b0 : (1 == 0) = false := beq_eq_false_iff_ne.mpr c15
     have c15b1 : (1 != 0) = true := bne_iff_ne.mpr c15
     simp only [Option.some.injEq, Prod.mk.injEq] at H
     obtain ⟨rfl, rfl⟩ := H
     go_wp2
     go_ret2
     exact ⟨_, by first | rfl | (simp [errW_none, errW_some] <;> rfl) | (simp [*, errW_none, errW_some] <;> rfl), by first | exact Kd.R_nil _ _ _ _ _ | exact Kd.N_nil _ _ _ _ _ | exact Kd.V_nil _ _ _ _ _ | exact Kd.Q_nil _ _ _ _ _ | exact Kd.S_nil _ _ _ _ _, by repeat (first | (with_reducible first | exact HB.out | apply zzA | apply zzN | apply zzD | refine below_set ?_ GE230.out) | exact HB.out)⟩
   ·
    replace c14 := Bool.eq_false_iff.mpr c14
    subst c14
    have H1 : (if t232 = 0 then (if 0 ≤ a2_1 then (if a2_1 < (t231.length : Int) then (if 0 ≤ a3 then (some ((t231.set (a2_1 : Int).toNat (wrap64 ((rd t231 a2_1) - (shl .i64 1 a3)))), 0)) else (none)) else (none)) else (none)) else (some (([] : List Int), t232))) = some (r1, r2) := by rw [if_neg (show ¬ (false = true) by decide)] at H; exact H
    clear H
    have H := H1
    clear H1
    by_cases c24 : t232 = 0
    ·
     rw [if_pos c24] at H
     have c24b0 : (t232 == 0) = true := beq_iff_eq.mpr c24
     have c24b1 : (t232 != 0) = false := bne_eq_false_iff_eq.mpr c24
     clear c24
     by_cases c25 : 0 ≤ a2_1
     ·
      rw [if_pos c25] at H
      have c25b0 : decide (0 ≤ a2_1) = true := decide_eq_true c25
      clear c25
      by_cases c26 : a2_1 < (t231.length : Int)
      ·
       rw [if_pos c26] at H
       have c26b0 : decide (a2_1 < (t231.length : Int)) = true := decide_eq_true c26
       clear c26
       by_cases c27 : 0 ≤ a3
       ·
        rw [if_pos c27] at H
        have c27b0 := eq_true c27
        have c27b1 : decide (0 ≤ a3) = true := decide_eq_true c27
        clear c27
        obtain ⟨ji28, hji28⟩ : ∃ j_ : Int, (shl .i64 1 a3) = j_ := ⟨_, rfl⟩
        replace H : (some ((t231.set (a2_1 : Int).toNat (wrap64 ((rd t231 a2_1) - (ji28)))), 0)) = some (r1, r2) := by first | (rw [hji28] at H; exact H) | (simp only [hji28] at H ⊢; exact H)
        have hji28_ : (IntKind.i64.wrap (1 * 2 ^ min a3.toNat 64)) = ji28 := hji28
        have hji28z : a3 ≤ 64 → (IntKind.i64.wrap (1 * 2 ^ a3.toNat)) = ji28 := shl_small hji28
        have hji28u : (IntKind.i64.wrap (2 ^ min a3.toNat 64)) = ji28 := by have h_ := hji28_; rw [Int.one_mul] at h_; exact h_
        have hji28v : a3 ≤ 64 → (IntKind.i64.wrap (2 ^ a3.toNat)) = ji28 := fun hle_ => by have h_ := hji28z hle_; rw [Int.one_mul] at h_; exact h_
        have hji28y : (wrap64 (1 * 2 ^ min a3.toNat 64)) = ji28 := (i64_w _).symm.trans hji28_
        have hji28x : a3 ≤ 64 → (wrap64 (1 * 2 ^ a3.toNat)) = ji28 := fun h_ => (i64_w _).symm.trans (hji28z h_)
        obtain ⟨y238, hy238⟩ : ∃ y_ : List Int, y_ = (t231.set (a2_1 : Int).toNat (wrap64 ((rd t231 a2_1) - (ji28)))) := ⟨_, rfl⟩
        replace H : (some (y238, 0)) = some (r1, r2) := by first | (rw [hy238]; with_reducible exact H) | (have H2_ := (Option.bind_some _ _).symm.trans H; rw [hy238]; with_reducible exact H2_) | (have H2_ := (Option.bind_some _ _).symm.trans H; with_reducible exact H2_) | with_reducible exact H | (rw [hy238]; exact H) | exact H
        have Ny238 := Aside0.mk hy238
        clear hy238
        simp only [Option.some.injEq, Prod.mk.injEq] at H
        obtain ⟨rfl, rfl⟩ := H
        try go_wp2
        have n0_ := Aside0.mk (rrD HO_10.out)
        have n1_ := Aside0.mk (kkD BK230.out)
        have n2_ := Aside0.mk (zzD HB.out)
        clear HO_10
        clear BK230
        clear HB
        have HO_10 := n0_
        have BK230 := n1_
        have HB := n2_
        clear n0_ n1_ n2_
        obtain ⟨Ao31, co31, eo31⟩ := Kd.R_slice HO_10.out
        (first | subst eo31 | (injection eo31 with f1_ f2_ f3_; have f4_ := f1_.symm; have f5_ := f3_.symm; clear f1_ f2_ f3_; subst f4_; subst f5_))
        have p237 : 0 ≤ (a2_1 : Int) := of_decide_eq_true (by first | (with_reducible assumption) | assumption)
        have q237 : a2_1 < (t231.length : Int) := of_decide_eq_true (by first | (with_reducible assumption) | assumption)
        obtain ⟨ad237, e237, hx237_0⟩ := Kd.at_int (Kd.R_reads' HO_10.out).2.2 a2_1 p237 q237
        cases e237
        replace p237 := eq_true p237
        replace q237 := eq_true q237
        have p29 : 0 ≤ (a2_1 : Int) := of_decide_eq_true (by first | (with_reducible assumption) | assumption)
        have q29 : (a2_1 : Int) < ((t231.length : Int) : Int) := of_decide_eq_true (by first | (with_reducible assumption) | assumption)
        obtain ⟨go29, co29, eo29, gb29, gl29, cl29, HG29⟩ := Kd.R_form HO_10.out (by omega)
        (first | cases eo29 | (injection eo29 with ea_ en_ ec_; (first | subst ea_ | (injection ea_ with ea_; subst ea_)); subst ec_; clear en_))
        have GB29 := Aside0.mk gb29
        have GG29 := Aside0.mk HG29
        clear gb29 gl29 HG29
        (first | simp only [add_plain] at hx237_0 | skip)
        obtain ⟨hx29_0, hf29_0⟩ := Kd.R_celln 0 HO_10.out (a2_1 : Int) p29 q29
        replace p29 := eq_true p29
        replace q29 := eq_true q29
        have HP32 := Kd.R_putn HO_10.out (a2_1 : Int) (wrap64 ((rd t231 a2_1) - (ji28)))
        rw [← Ny238.out] at HP32
        have HQ32 := Aside0.mk HP32
        clear HP32
        refine start_ (n := 10) (S := fun w' => w'.cell? ⟨gb230, 0, none⟩ = some (.slice A2_0 l2_0.length c2_0) ∧ w'.cell? ⟨gb230, 1, none⟩ = some (.int .i64 a2_1) ∧ w'.cell? ⟨go29, (a2_1).toNat, none⟩ = some (.int .i64 (rd t231 a2_1))) (ds := [9]) #[false, false, false, false, false, false, false, false, false, false] (by kernel_rfl) rfl rfl ⟨(blk_cell BK230.out 0).trans rfl, (blk_cell BK230.out 1).trans rfl, hx237_0⟩ (fun hHeld => ?_); refine with_tabW soft_OffP.tab6 soft_OffP.bits6 (fun HT_ HW_ => ?_)
        generalize wc.drew = w30 at HO_10 BK230 HB GG29 HQ32 hf29_0 hx237_0 hx29_0 hHeld ⊢
        refine pure_ (i := 0) (N := some 37) (v := ?_) (a' := ?_) #[true, false, false, false, false, false, false, false, false, false] rfl rfl (any_of HT_.out (by kernel_rfl)) (fun _ _ _ h => h) (Or.inl ⟨by rfl, ?_⟩) ?_ ?_
        rotate_left
        ·
         intro w'
         go_simp
         with_reducible rfl
        rotate_left
        ·
         simp only [Act.put, List.setIfInBounds_toArray, List.set_cons_zero, List.set_cons_succ, i64_w, i32_w]
         rfl
        refine pure_ (i := 1) (N := some 38) (v := ?_) (a' := ?_) #[true, true, false, false, false, false, false, false, false, false] rfl rfl (any_of HT_.out (by kernel_rfl)) (fun _ _ _ h => h) (Or.inl ⟨by rfl, ?_⟩) ?_ ?_
        rotate_left
        ·
         intro w'
         go_simp
         with_reducible rfl
        rotate_left
        ·
         simp only [Act.put, List.setIfInBounds_toArray, List.set_cons_zero, List.set_cons_succ, i64_w, i32_w]
         rfl
        refine pure_ (i := 5) (N := some 42) (v := ?_) (a' := ?_) #[true, true, false, false, false, true, false, false, false, false] rfl rfl (any_of HT_.out (by kernel_rfl)) (fun _ _ _ h => h) (Or.inl ⟨by rfl, ?_⟩) ?_ ?_
        rotate_left
        ·
         intro w'
         go_simp
         with_reducible rfl
        rotate_left
        ·
         simp only [Act.put, List.setIfInBounds_toArray, List.set_cons_zero, List.set_cons_succ, i64_w, i32_w]
         rfl
        refine pure_ (i := 6) (N := some 43) (v := ?_) (a' := ?_) #[true, true, false, false, false, true, true, false, false, false] rfl rfl (any_of HT_.out (by kernel_rfl)) (fun _ _ _ h => h) (Or.inl ⟨by rfl, ?_⟩) ?_ ?_
        rotate_left
        ·
         intro w'
         go_simp
         with_reducible rfl
        rotate_left
        ·
         simp only [Act.put, List.setIfInBounds_toArray, List.set_cons_zero, List.set_cons_succ, i64_w, i32_w]
         rfl
        refine take_ (i := 2) (N := some 39) (v := ?_) (a' := ?_) #[true, true, true, false, false, true, true, false, false, false] rfl rfl (take_ofW HT_.out HW_.out (by kernel_rfl)) (fun _ _ _ h => h) (Or.inl ⟨by rfl, ?_⟩) hHeld ?_ ?_
        rotate_left
        ·
         rintro w' ⟨s0, s1, s2⟩
         go_simp
         with_reducible rfl
        rotate_left
        ·
         simp only [Act.put, List.setIfInBounds_toArray, List.set_cons_zero, List.set_cons_succ, i64_w, i32_w]
         rfl
        refine pure_ (i := 3) (N := some 40) (v := ?_) (a' := ?_) #[true, true, true, true, false, true, true, false, false, false] rfl rfl (any_of HT_.out (by kernel_rfl)) (fun _ _ _ h => h) (Or.inl ⟨by rfl, ?_⟩) ?_ ?_
        rotate_left
        ·
         intro w'
         go_simp
         with_reducible rfl
        rotate_left
        ·
         simp only [Act.put, List.setIfInBounds_toArray, List.set_cons_zero, List.set_cons_succ, i64_w, i32_w]
         rfl
        refine take_ (i := 4) (N := some 41) (v := ?_) (a' := ?_) #[true, true, true, true, true, true, true, false, false, false] rfl rfl (take_ofW HT_.out HW_.out (by kernel_rfl)) (fun _ _ _ h => h) (Or.inl ⟨by rfl, ?_⟩) hHeld ?_ ?_
        rotate_left
        ·
         rintro w' ⟨s0, s1, s2⟩
         go_simp
         with_reducible rfl
        rotate_left
        ·
         simp only [Act.put, List.setIfInBounds_toArray, List.set_cons_zero, List.set_cons_succ, i64_w, i32_w]
         rfl
        refine pure_ (i := 7) (N := some 44) (v := ?_) (a' := ?_) #[true, true, true, true, true, true, true, true, false, false] rfl rfl (any_of HT_.out (by kernel_rfl)) (fun _ _ _ h => h) (Or.inl ⟨by rfl, ?_⟩) ?_ ?_
        rotate_left
        ·
         intro w'
         go_simp
         with_reducible rfl
        rotate_left
        ·
         simp only [Act.put, List.setIfInBounds_toArray, List.set_cons_zero, List.set_cons_succ, i64_w, i32_w]
         rfl
        refine pure_ (i := 8) (N := some 45) (v := ?_) (a' := ?_) #[true, true, true, true, true, true, true, true, true, false] rfl rfl (any_of HT_.out (by kernel_rfl)) (fun _ _ _ h => h) (Or.inl ⟨by rfl, ?_⟩) ?_ ?_
        rotate_left
        ·
         intro w'
         go_simp
         with_reducible rfl
        rotate_left
        ·
         simp only [Act.put, List.setIfInBounds_toArray, List.set_cons_zero, List.set_cons_succ, i64_w, i32_w]
         rfl
        refine last_ (i := 9) (N := none) #[true, true, true, true, true, true, true, true, true, true] rfl rfl (one_of HT_.out (by kernel_rfl)) (by decide) (fun K hK => ?_)
        refine skip_ (w1 := ?_) (by rfl) rfl ?_ ?_
        rotate_left
        ·
         go_simp
         rfl
        refine hK.out _ _ ?_
        clear hK K
        refine done_ (done_of HT_.out (by kernel_rfl)) ?_
        try go_wp2
        go_ret2
        exact ⟨_, by first | rfl | (simp [errW_none, errW_some] <;> rfl) | (simp only [← hji28]; first | rfl | (simp [errW_none, errW_some] <;> rfl)) | (simp [*, errW_none, errW_some] <;> rfl), by (with_reducible repeat (first | apply rrA | apply rrN | apply rrD)); exact HQ32.out, by repeat (first | (with_reducible first | exact HB.out | apply zzA | apply zzN | apply zzD | refine below_set ?_ GB29.out | refine below_set ?_ GE230.out) | exact HB.out)⟩
       ·
        rw [if_neg c27] at H
        exact absurd H (by simp)
      ·
       rw [if_neg c26] at H
       exact absurd H (by simp)
     ·
      rw [if_neg c25] at H
      exact absurd H (by simp)
    ·
     rw [if_neg c24] at H
     have c24b0 : (t232 == 0) = false := beq_eq_false_iff_ne.mpr c24
     have c24b1 : (t232 != 0) = true := bne_iff_ne.mpr c24
     simp only [Option.some.injEq, Prod.mk.injEq] at H
     obtain ⟨rfl, rfl⟩ := H
     go_wp2
     go_ret2
     exact ⟨_, by first | rfl | (simp [errW_none, errW_some] <;> rfl) | (simp [*, errW_none, errW_some] <;> rfl), by first | exact Kd.R_nil _ _ _ _ _ | exact Kd.N_nil _ _ _ _ _ | exact Kd.V_nil _ _ _ _ _ | exact Kd.Q_nil _ _ _ _ _ | exact Kd.S_nil _ _ _ _ _, by repeat (first | (with_reducible first | exact HB.out | apply zzA | apply zzN | apply zzD | refine below_set ?_ GE230.out) | exact HB.out)⟩

def soft_Off.f (a0 : Int) (l1 l2_0 : List Int) (a2_1 a3 : Int) : Option (List Int × Int) := if V64 l1 ∧ V64 l2_0 then some (offS a0 l1 l2_0 a2_1 a3) else none
theorem soft_Off.of (a0 : Int) (l1 l2_0 : List Int) (a2_1 a3 : Int)  (h_ : V64 l1 ∧ V64 l2_0) : soft_Off.f a0 l1 l2_0 a2_1 a3 = some (offS a0 l1 l2_0 a2_1 a3) := if_pos h_
theorem soft_OffP.is (o : Int) (w x : List Int) (y f : Int) (hw : V64 w) (hx : V64 x) : soft_OffP.f 1 o w x y f = some (offS o w x y f) := by
  unfold soft_OffP.f offS
  rw [soft_Tell.of _ _ _ _ ⟨hw, hx⟩, Option.bind_some]
  by_cases c : (tellS o w x f).2 = 0
  · rw [if_pos c, if_pos c]
    obtain ⟨-, -, -, hl, ho2, ho8, hf0, hf1⟩ := tellS_ok c
    by_cases c1 : y < 0
    · rw [if_pos c1, soft_OffP.j0, if_pos rfl, if_neg (by decide), if_pos (.inl c1)]
    · rw [if_neg c1, soft_OffP.j0]
      by_cases c2 : y ≥ o
      · rw [if_pos (decide_eq_true c2), if_neg (by decide), if_pos (.inr c2)]
      · rw [if_neg (by simpa using c2), if_pos c, if_pos (by omega), if_pos (by omega), if_pos hf0, if_neg (show ¬ (y < 0 ∨ y ≥ o) by omega), shl_i64 f (by omega)]
  · rw [if_neg c, if_neg c, soft_OffP.j0, if_neg (by decide), if_neg c]
theorem soft_Off.calls (a0 : Int) (A1 : Option Addr) (c1 : Nat) (l1 : List Int) (A2_0 : Option Addr) (c2_0 : Nat) (l2_0 : List Int) (a2_1 : Int) (a3 : Int) (r1 : List Int) (r2 : Int) (w : World) (hr1 : Kd.C (Kd.int .i64) w A1 l1.length l1) (hc1 : l1.length ≤ c1) (hr2_0 : Kd.C (Kd.int .i64) w A2_0 l2_0.length l2_0) (hc2_0 : l2_0.length ≤ c2_0) (h : soft_Off.f a0 l1 l2_0 a2_1 a3 = some (r1, r2)) :
    Calls Try.prog 34 #[.int .i64 a0, .slice A1 l1.length c1, .agg #[.slice A2_0 l2_0.length c2_0, .int .i64 a2_1], .int .i64 a3] w fun e w' => ∃ v0_ : Value, e = .returned (.tuple #[v0_, .int .i64 r2]) ∧ Kd.R (Kd.int .i64) 2 w' w.heap.size (fun _ => True) v0_ r1 ∧ Below w.heap.size w w' := by
  unfold soft_Off.f at h
  split at h
  case isFalse => cases h
  rename_i hv
  exact soft_OffP.calls 1 a0 A1 c1 l1 A2_0 c2_0 l2_0 a2_1 a3 r1 r2 w hr1 hc1 hr2_0 hc2_0 ((soft_OffP.is a0 l1 l2_0 a2_1 a3 hv.1 hv.2).trans h)


end Go.Proofs.Ytbnfejaeekljcaa.HD
