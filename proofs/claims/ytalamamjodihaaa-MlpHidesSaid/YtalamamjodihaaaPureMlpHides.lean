/- MlpHides: what is hidden is what each line tells, if that is above 0, and the last line tells of it what is told. -/
import Derived.Test.YtalamamjodihaaaHMx5
namespace Go.Proofs.Ytalamamjodihaaa.Pure
open Go.RowKit Go.Proofs.Ytalamamjodihaaa.HM Go.Proofs.YtalamamjodihaaaW.PrintWords Go.Proofs.YtalamamjodihaaaW.PrintLast Go.Proofs.YtalamamjodihaaaW.PrintMore Go.Proofs.Ytalamamjodihaaa.Sp
set_option linter.unusedVariables false
set_option linter.unusedSimpArgs false
theorem v64_wf {l : List Int} (h : ∀ x ∈ l, (Lit.int .i64 x).wf = true) : V64 l := fun x hx => by
  have hmin : IntKind.i64.min = -9223372036854775808 := rfl
  have hmax : IntKind.i64.max = 9223372036854775807 := rfl
  have h := h x hx
  simp only [Lit.wf, Bool.and_eq_true, decide_eq_true_eq] at h
  unfold I64; omega
theorem seqV_okmap {α : Type} (g : α → Int × Int) : ∀ l : List α, (seqV (l.map g)).2 = 0 → (seqV (l.map g)).1 = l.map (fun a => (g a).1) ∧ ∀ a ∈ l, (g a).2 = 0
  | [], _ => ⟨rfl, fun a ha => by cases ha⟩
  | a :: l, h => by
    rw [List.map_cons] at h ⊢
    unfold seqV at h ⊢
    by_cases c : (g a).2 = 0
    · rw [if_pos c] at h ⊢
      by_cases d : (seqV (l.map g)).2 = 0
      · rw [if_pos d]
        obtain ⟨h1, h2⟩ := seqV_okmap g l d
        refine ⟨by rw [List.map_cons, ← h1], fun b hb => ?_⟩
        rcases List.mem_cons.1 hb with rfl | hb
        · exact c
        · exact h2 b hb
      · rw [if_neg d] at h; exact absurd h d
    · rw [if_neg c] at h; exact absurd h c
theorem hiddenM_err {rows : List (List Int)} {inn : Int} {v : List Int} {f : Int} (h : (hiddenM rows inn v f).2 ≠ 0) : (hiddenM rows inn v f).1 = [] := by
  unfold hiddenM at h ⊢
  split
  · rfl
  · rename_i c; rw [if_neg c] at h
    split
    · rfl
    · rename_i c; rw [if_neg c] at h
      split
      · rename_i c; rw [if_pos c] at h
        unfold bendM at h ⊢
        split
        · rename_i c; rw [if_pos c] at h; exact absurd rfl h
        · rfl
      · rfl
theorem hiddenM_ok {rows : List (List Int)} {inn : Int} {v : List Int} {f : Int} (h : (hiddenM rows inn v f).2 = 0) :
    (hiddenM rows inn v f).1 = rows.map (fun r => max (tellL r v f).1 0) ∧ ∀ r ∈ rows, (tellL r v f).2 = 0 := by
  unfold hiddenM at h ⊢
  split
  · rename_i c; rw [if_pos c] at h; cases h
  · rename_i c; rw [if_neg c] at h
    split
    · rename_i c; rw [if_pos c] at h; cases h
    · rename_i c; rw [if_neg c] at h
      split
      · rename_i c; rw [if_pos c] at h
        obtain ⟨h1, h2⟩ := seqV_okmap (fun r => tellL r v f) rows c
        unfold bendM at h ⊢
        split
        · rw [h1, List.map_map]; exact ⟨rfl, h2⟩
        · rename_i c; rw [if_neg c] at h; cases h
      · rename_i c; rw [if_neg c] at h; exact absurd h c
theorem hides_loop (h : Int) (w x : List Int) (f : Int) (rows : List (List Int)) (last : List Int) (hw : V64 w) (hx : V64 x) (hl : V64 last) (hrv : ∀ r ∈ rows, V64 r) (hok : ∀ r ∈ rows, (tellL r x f).2 = 0) (hb : rows.length ≤ 4096) (ht : tellM h w x f = tellL last (rows.map fun r => max (tellL r x f).1 0) f) : ∀ d i : Nat, d + i = rows.length →
    thrumlaw16_MlpHides.l0 (d + 1) h w x f true (rows.map fun r => max (tellL r x f).1 0) last rows (rows.length : Int) (i : Int) = some true := by
  intro d
  induction d with
  | zero =>
    intro i hd
    have hv : V64 (rows.map fun r => max (tellL r x f).1 0) := by
      intro y hy
      obtain ⟨r, _, rfl⟩ := List.mem_map.1 hy
      have := tellL_i64 r x f
      unfold I64 at *
      omega
    rw [thrumlaw16_MlpHides.l0, if_neg (by omega), mlp_Tell.of _ _ _ _ ⟨hw, hx⟩, Option.bind_some, linear_Tell.of _ _ _ ⟨hl, hv⟩, Option.bind_some, ht, if_pos rfl, if_pos rfl, beq_self_eq_true]
  | succ d ih =>
    intro i hd
    have hi : i < rows.length := by omega
    have hrd : rd_L1 rows (i : Int) = rows[i] := by unfold rd_L1; rw [Int.toNat_natCast, List.getD_eq_getElem?_getD, List.getElem?_eq_getElem hi, Option.getD_some]
    have hm := List.getElem_mem hi
    have hrx : rd (rows.map fun r => max (tellL r x f).1 0) (i : Int) = max (tellL rows[i] x f).1 0 := by rw [rd_nat (by rw [List.length_map]; exact hi), List.getElem_map]
    have hlm : ((rows.map fun r => max (tellL r x f).1 0).length : Int) = rows.length := by rw [List.length_map]
    have hnext := ih (i + 1) (by omega)
    have hwr : wrap64 ((i : Int) + 1) = ((i + 1 : Nat) : Int) := by rw [wrap64_of (by unfold I64; omega)]; rfl
    rw [thrumlaw16_MlpHides.l0, if_pos (by omega), if_pos (by omega), if_pos (by omega), hrd, linear_Tell.of _ _ _ ⟨hrv _ hm, hx⟩, Option.bind_some, if_pos (hok _ hm), if_pos (by rw [hlm]; omega), hrx, hwr, hnext]
    generalize (tellL rows[i] x f).1 = y
    have h0 : ¬ max y 0 < 0 := by omega
    rw [if_neg h0]
    by_cases c : y > 0
    · rw [if_pos c, if_pos (by omega), if_neg (by omega)]
    · rw [if_neg c, if_pos (by omega), if_pos (by omega)]
theorem MlpHides : thrumlaw16_MlpHides.Pure := by
  intro h w x f wh hm hs wl hmx hsx wx wf
  have hw := v64_wf wl
  have hx := v64_wf wx
  refine ⟨(splitM h w).1.length + 2, ?_⟩
  unfold thrumlaw16_MlpHides.f
  rw [show thrumlaw16_live.f = some true from rfl, Option.bind_some, if_pos rfl]
  obtain ⟨b, hF⟩ : ∃ b, thrumref14_Few.f w ([(⟨x, 0⟩ : S26)] : List S26) = some b := ⟨_, rfl⟩
  rw [hF, Option.bind_some]
  cases b with
  | false => rw [if_neg (by decide)]
  | true =>
    rw [if_pos rfl, mlp_Hidden.of _ _ _ _ ⟨hw, hx⟩, Option.bind_some]
    by_cases s : (splitM h w).2.2 = 0
    · obtain ⟨k, m, rfl, hk1, hk8, hm2, hm17, hkm, hlm, hsp⟩ := splitM_good s
      have hid : hidM k w x f = hiddenM (rowsM k m w) ((m : Int) - 1) x f := by unfold hidM; rw [if_pos s, hlm, hsp]
      have htl : tellM k w x f = (ptellM (rowsM k m w) (w.drop (k * m)) ((m : Int) - 1) x f).2 := by unfold tellM; rw [if_pos s, hlm, hsp]
      rw [hid]
      by_cases c : (hiddenM (rowsM k m w) ((m : Int) - 1) x f).2 = 0
      · obtain ⟨h1, h2⟩ := hiddenM_ok c
        have ht : tellM k w x f = tellL (w.drop (k * m)) ((rowsM k m w).map fun r => max (tellL r x f).1 0) f := by rw [htl]; unfold ptellM; rw [if_pos c, h1]
        have hrl := rowsM_len k m w
        have hlast : (w.drop (k * m)).length = k + 1 := by rw [List.length_drop]; omega
        rw [if_pos c, mlp_Split.f, Option.bind_some, hsp, h1]
        dsimp only
        rw [hrl, if_pos rfl, if_pos (by rw [List.length_map, hrl]), if_pos rfl, hlast, show (((k + 1 : Nat) : Int) != wrap64 ((k : Int) + 1)) = false by rw [wrap64_of (by unfold I64; omega)]; simp, thrumlaw16_MlpHides.j0, if_neg (by decide)]
        have hlp := hides_loop k w x f (rowsM k m w) (w.drop (k * m)) hw hx (v64_drop hw _) (rowsM_v64 hw) h2 (by rw [hrl]; omega) ht k 0 (by rw [hrl]; rfl)
        exact hlp
      · rw [if_neg c, hiddenM_err c]
        rfl
    · have hid : hidM h w x f = ([], (splitM h w).2.2) := by unfold hidM; rw [if_neg s]
      rw [hid, if_neg s]
      rfl
end Go.Proofs.Ytalamamjodihaaa.Pure
