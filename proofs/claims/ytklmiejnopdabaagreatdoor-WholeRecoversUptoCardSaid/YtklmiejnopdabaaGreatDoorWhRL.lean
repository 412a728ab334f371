/- From the row's list to the settings: the table for the trailing zeros; the bulk of arguments. -/
import Derived.Test.YtklmiejnopdabaaGreatDoorWhH
import Derived.Test.YtklmiejnopdabaaGreatDoorWlM5
import Derived.Test.YtklmiejnopdabaaGreatDoorRows
import Derived.Lib.LaidTab
import Derived.Deep.DeepHandedRow
import Derived.Test.YtklmiejnopdabaaGreatDoorWh_ra_0
import Derived.Test.YtklmiejnopdabaaGreatDoorWh_rax_0
import Derived.Test.YtklmiejnopdabaaGreatDoorWh_rb_0
import Derived.Test.YtklmiejnopdabaaGreatDoorWh_rb_1
import Derived.Test.YtklmiejnopdabaaGreatDoorWh_rb_2
import Derived.Test.YtklmiejnopdabaaGreatDoorWh_rb_3
import Derived.Test.YtklmiejnopdabaaGreatDoorWh_rbx_0
import Derived.Test.YtklmiejnopdabaaGreatDoorWh_rbx_1
import Derived.Test.YtklmiejnopdabaaGreatDoorWh_rbx_2
import Derived.Test.YtklmiejnopdabaaGreatDoorWh_rbx_3
import Derived.Test.YtklmiejnopdabaaGreatDoorWh_rc_0
import Derived.Test.YtklmiejnopdabaaGreatDoorWh_rcx_0
import Derived.Test.YtklmiejnopdabaaGreatDoorWh_rd_0
import Derived.Test.YtklmiejnopdabaaGreatDoorWh_re_0
import Derived.Test.YtklmiejnopdabaaGreatDoorWh_re_1
import Derived.Test.YtklmiejnopdabaaGreatDoorWh_re_2
import Derived.Test.YtklmiejnopdabaaGreatDoorWh_re_3
import Derived.Test.YtklmiejnopdabaaGreatDoorWh_re_4
import Derived.Test.YtklmiejnopdabaaGreatDoorWh_rex_0
import Derived.Test.YtklmiejnopdabaaGreatDoorWh_rex_1
import Derived.Test.YtklmiejnopdabaaGreatDoorWh_rex_2
import Derived.Test.YtklmiejnopdabaaGreatDoorWh_rex_3
import Derived.Test.YtklmiejnopdabaaGreatDoorWh_rex_4
namespace Go.Proofs.YtklmiejnopdabaaGreatDoor
set_option linter.constructorNameAsVariable false
set_option linter.unusedSimpArgs false
set_option linter.unusedVariables false
open Go Go.Ab Go.RowKit
set_option maxRecDepth 20000
set_option linter.unusedVariables false
set_option linter.unusedSimpArgs false
theorem tz_laid : (Rows.laid_math_bits_deBruijn64tab : DataW Unit) = Lib.tabData .u8 tzT := by kernel_rfl
theorem tab_isH {P : Program} {W : World} {nm : String} {k : IntKind} {zs : List Int} {b : Nat} (hg : P.globalNamed nm = some b) (h : Lib.TabIs P W nm k zs) : ∃ t fz, W.heap[b]? = some (.cells (zs.map fun z => Value.int k z).toArray t fz) := by
  unfold Lib.TabIs World.var? at h
  rw [hg, Option.bind_some] at h
  cases e2 : W.heap[b]? with
  | none => rw [e2] at h; cases h
  | some o =>
    rw [e2] at h
    cases o with
    | cells c t fz => cases h; exact ⟨t, fz, rfl⟩
    | _ => cases h
theorem tab_of {nm : String} (h0 : Tryz.prog.globalNamed nm = some 1) {W : World} (h : laidMet Tryz.prog [(nm, Rows.laid_math_bits_deBruijn64tab)] W) : TabOK W.heap.size W := by
  have h' := h
  rw [tz_laid] at h'
  have hp := Lib.tabIs_of_head (rest := []) h0 (t := 407) (e := 5) (n := 64) (by kernel_rfl) Tryz.underlying407 Tryz.underlying5 (by kernel_rfl) (by kernel_rfl) h'
  obtain ⟨t, fz, q⟩ := tab_isH h0 hp
  intro b p e
  match b, e with
  | 1, e => cases Option.some.inj e; exact ⟨(Array.getElem?_eq_some_iff.1 q).1, _, t, fz, q, rfl⟩
  | 0, e => cases e
  | n + 2, e => cases e
theorem part_le {H : Type} {d : DataW H} {l : List (DataW H)} (h : d ∈ l) : Rows.uptoBulk d ≤ Rows.uptoBulkAll l := by
  induction l with
  | nil => cases h
  | cons x r ih =>
    simp only [Rows.uptoBulkAll]
    rcases List.mem_cons.1 h with e | e
    · subst e; omega
    · have := ih e; omega
theorem one_le {H : Type} (d : DataW H) : 1 ≤ Rows.uptoBulk d := by
  cases d with
  | lit l => cases l <;> simp [Rows.uptoBulk]
  | _ => simp [Rows.uptoBulk]
theorem length_le {H : Type} (l : List (DataW H)) : l.length ≤ Rows.uptoBulkAll l := by
  induction l with
  | nil => simp [Rows.uptoBulkAll]
  | cons x r ih => have := one_le x; simp only [Rows.uptoBulkAll, List.length_cons]; omega
theorem bulk {H : Type} : Bulk (H := H) Rows.uptoBulk :=
  ⟨fun bytes => by simp [Rows.uptoBulk], fun e s => by have := length_le e; simp only [Rows.uptoBulk]; omega, fun e s d h => by have := part_le h; simp only [Rows.uptoBulk]; omega, fun p d h => by have := part_le h; simp only [Rows.uptoBulk]; omega⟩
theorem own : ownKnob Tryz.prog.godebug = none := by kernel_rfl
theorem laidOut : laidOutB Tryz.prog = true := by kernel_rfl
end Go.Proofs.YtklmiejnopdabaaGreatDoor
/- How the argument that says where the stack is moved is read; what the cases are made of. -/
namespace Go.Proofs.YtklmiejnopdabaaGreatDoor
set_option linter.constructorNameAsVariable false
set_option linter.unusedSimpArgs false
set_option linter.unusedVariables false
open Go Go.Ab Go.RowKit
set_option linter.unusedVariables false
set_option linter.unusedSimpArgs false
set_option maxRecDepth 20000
structure Windlasstop_Where where
  Picks : List Int
  Stack : Int
def Windlasstop_Where.av (x : Windlasstop_Where) : AV := .agg [avL 1 (avI .i64) x.Picks, .int .i64 x.Stack]
theorem Windlasstop_Where.enc : Enc Windlasstop_Where.av (some 2) := ⟨fun _ => rfl, fun _ => rfl, fun _ => rfl⟩
theorem cells3 : Tryz.prog.cellsOf 3 = 1 := by kernel_rfl
theorem cells44 : Tryz.prog.cellsOf 44 = 1 := by kernel_rfl
theorem cells46 : Tryz.prog.cellsOf 46 = 2 := by kernel_rfl
def Windlasstop_Where.Ok (N : Nat) (x : Windlasstop_Where) : Prop := (fun l => List.length l ≤ N ∧ ∀ a ∈ l, (fun n => (Lit.int .i64 n).wf = true) a) x.Picks ∧ (fun n => (Lit.int .i64 n).wf = true) x.Stack
theorem Windlasstop_Where.rd {N : Nat} : Rd Tryz.prog N Windlasstop_Where.av (Windlasstop_Where.Ok N) 46 := by
  intro avs ht
  obtain ⟨hl, hf⟩ := ty_struct Tryz.underlying46 ht
  have e0 : Ty Tryz.prog N 44 ((avs.drop 0).take (Tryz.prog.cellsOf 44)) := hf 0 _ rfl
  rw [cells44] at e0
  obtain ⟨a0, h0, q0⟩ := (rdL (encI .i64) (fun fs h => by rw [Tryz.underlying3] at h; cases h) Tryz.underlying44 cells3 (rdI Tryz.underlying3)) _ e0
  have e1 : Ty Tryz.prog N 3 ((avs.drop 1).take (Tryz.prog.cellsOf 3)) := hf 1 _ rfl
  rw [cells3] at e1
  obtain ⟨a1, h1, q1⟩ := (rdI Tryz.underlying3) _ e1
  refine ⟨⟨a0, a1⟩, ?_, ⟨q0, q1⟩⟩
  have := (st_cons h0 (st_cons h1 (st_nil (hl.trans cells46))))
  exact this

def envW (v how : Int) (w : Windlasstop_Where) : Env := { v := fun i => match i with | 0 => v | 1 => how | _ => w.Stack, t := w.Picks.map (AV.int .i64) }
def env2 (v u : Int) : Env := { v := fun i => match i with | 0 => v | _ => u, t := [] }
theorem u64_nat {v : Int} (h : (Lit.int .u64 v).wf = true) : ∃ x : Nat, v = x ∧ x < 18446744073709551616 := by
  have h2 : 0 ≤ v ∧ v < 18446744073709551616 := by
    simp [Lit.wf, IntKind.min, IntKind.max, IntKind.bits, IntKind.signed] at h
    omega
  obtain ⟨x, rfl⟩ := Int.eq_ofNat_of_zero_le h2.1
  exact ⟨x, rfl, by omega⟩
theorem rem3 (a : Int) : IntKind.wrap .u64 a % (3 : Nat) = (0 : Nat) ∨ IntKind.wrap .u64 a % (3 : Nat) = (1 : Nat) ∨ IntKind.wrap .u64 a % (3 : Nat) = (2 : Nat) := by omega
theorem rem5 (a : Int) : IntKind.wrap .u64 a % (5 : Nat) = (0 : Nat) ∨ IntKind.wrap .u64 a % (5 : Nat) = (1 : Nat) ∨ IntKind.wrap .u64 a % (5 : Nat) = (2 : Nat) ∨ IntKind.wrap .u64 a % (5 : Nat) = (3 : Nat) ∨ IntKind.wrap .u64 a % (5 : Nat) = (4 : Nat) := by omega
theorem picks2 {l : List Int} {a b : Bool} (h1 : l.contains 1 = a) (h2 : l.contains 2 = b) : PicksOK l [(1, a), (2, b)] := fun p hp => by
  simp only [List.mem_cons, List.not_mem_nil, or_false] at hp
  rcases hp with rfl | rfl
  · exact h1
  · exact h2
theorem picks3 {l : List Int} {a b c : Bool} (h1 : l.contains 1 = a) (h2 : l.contains 2 = b) (h3 : l.contains 3 = c) : PicksOK l [(1, a), (2, b), (3, c)] := fun p hp => by
  simp only [List.mem_cons, List.not_mem_nil, or_false] at hp
  rcases hp with rfl | rfl | rfl
  · exact h1
  · exact h2
  · exact h3
end Go.Proofs.YtklmiejnopdabaaGreatDoor
/- WholeRecovers: its cases. -/
namespace Go.Proofs.YtklmiejnopdabaaGreatDoor
set_option linter.constructorNameAsVariable false
set_option linter.unusedSimpArgs false
set_option linter.unusedVariables false
open Go Go.Ab Go.RowKit
set_option linter.unusedVariables false
set_option linter.unusedSimpArgs false
set_option maxRecDepth 20000
theorem recovers_law (v how : Int) (w : Windlasstop_Where) (hv : (Lit.int .u64 v).wf = true) (hh : (Lit.int .i64 how).wf = true) (hw : w.Ok 1048576) : PureEv Tryz.prog 6 [avI .u64 v, avI .i64 how, w.av] (.bool true) := by
  obtain ⟨x, hx, hx2⟩ := u64_nat hv
  obtain ⟨b, fb⟩ := fsV_ok (ρ := envW v how w) (i := 0) hx hx2
  have hl : w.Picks.length ≤ 9223372036854775807 := Nat.le_trans hw.1.1 (by omega)
  rcases rem5 how with hr | hr | hr | hr | hr
  · have fr := (rem_ok (ρ := envW v how w) (i := 1) (m := 5) (n := 0) (by omega) hr)
    cases h1 : w.Picks.contains 1 <;> cases h2 : w.Picks.contains 2
    · cases b
      · exact rax_ff_ev (ρ := envW v how w) (fr.app fb) rfl (Nat.le_refl _) rfl hl (picks2 h1 h2)
      · exact ra_ff_ev (ρ := envW v how w) (fr.app fb) rfl (Nat.le_refl _) rfl hl (picks2 h1 h2)
    · cases b
      · exact rax_ft_ev (ρ := envW v how w) (fr.app fb) rfl (Nat.le_refl _) rfl hl (picks2 h1 h2)
      · exact ra_ft_ev (ρ := envW v how w) (fr.app fb) rfl (Nat.le_refl _) rfl hl (picks2 h1 h2)
    · cases b
      · exact rax_tf_ev (ρ := envW v how w) (fr.app fb) rfl (Nat.le_refl _) rfl hl (picks2 h1 h2)
      · exact ra_tf_ev (ρ := envW v how w) (fr.app fb) rfl (Nat.le_refl _) rfl hl (picks2 h1 h2)
    · cases b
      · exact rax_tt_ev (ρ := envW v how w) (fr.app fb) rfl (Nat.le_refl _) rfl hl (picks2 h1 h2)
      · exact ra_tt_ev (ρ := envW v how w) (fr.app fb) rfl (Nat.le_refl _) rfl hl (picks2 h1 h2)
  · have fr := (rem_ok (ρ := envW v how w) (i := 1) (m := 5) (n := 1) (by omega) hr)
    cases h1 : w.Picks.contains 1 <;> cases h2 : w.Picks.contains 2 <;> cases h3 : w.Picks.contains 3
    · cases b
      · exact rbx_fff_ev (ρ := envW v how w) (fr.app fb) rfl (Nat.le_refl _) rfl hl (picks3 h1 h2 h3)
      · exact rb_fff_ev (ρ := envW v how w) (fr.app fb) rfl (Nat.le_refl _) rfl hl (picks3 h1 h2 h3)
    · cases b
      · exact rbx_fft_ev (ρ := envW v how w) (fr.app fb) rfl (Nat.le_refl _) rfl hl (picks3 h1 h2 h3)
      · exact rb_fft_ev (ρ := envW v how w) (fr.app fb) rfl (Nat.le_refl _) rfl hl (picks3 h1 h2 h3)
    · cases b
      · exact rbx_ftf_ev (ρ := envW v how w) (fr.app fb) rfl (Nat.le_refl _) rfl hl (picks3 h1 h2 h3)
      · exact rb_ftf_ev (ρ := envW v how w) (fr.app fb) rfl (Nat.le_refl _) rfl hl (picks3 h1 h2 h3)
    · cases b
      · exact rbx_ftt_ev (ρ := envW v how w) (fr.app fb) rfl (Nat.le_refl _) rfl hl (picks3 h1 h2 h3)
      · exact rb_ftt_ev (ρ := envW v how w) (fr.app fb) rfl (Nat.le_refl _) rfl hl (picks3 h1 h2 h3)
    · cases b
      · exact rbx_tff_ev (ρ := envW v how w) (fr.app fb) rfl (Nat.le_refl _) rfl hl (picks3 h1 h2 h3)
      · exact rb_tff_ev (ρ := envW v how w) (fr.app fb) rfl (Nat.le_refl _) rfl hl (picks3 h1 h2 h3)
    · cases b
      · exact rbx_tft_ev (ρ := envW v how w) (fr.app fb) rfl (Nat.le_refl _) rfl hl (picks3 h1 h2 h3)
      · exact rb_tft_ev (ρ := envW v how w) (fr.app fb) rfl (Nat.le_refl _) rfl hl (picks3 h1 h2 h3)
    · cases b
      · exact rbx_ttf_ev (ρ := envW v how w) (fr.app fb) rfl (Nat.le_refl _) rfl hl (picks3 h1 h2 h3)
      · exact rb_ttf_ev (ρ := envW v how w) (fr.app fb) rfl (Nat.le_refl _) rfl hl (picks3 h1 h2 h3)
    · cases b
      · exact rbx_ttt_ev (ρ := envW v how w) (fr.app fb) rfl (Nat.le_refl _) rfl hl (picks3 h1 h2 h3)
      · exact rb_ttt_ev (ρ := envW v how w) (fr.app fb) rfl (Nat.le_refl _) rfl hl (picks3 h1 h2 h3)
  · have fr := (rem_ok (ρ := envW v how w) (i := 1) (m := 5) (n := 2) (by omega) hr)
    cases h1 : w.Picks.contains 1 <;> cases h2 : w.Picks.contains 2
    · cases b
      · exact rcx_ff_ev (ρ := envW v how w) (fr.app fb) rfl (Nat.le_refl _) rfl hl (picks2 h1 h2)
      · exact rc_ff_ev (ρ := envW v how w) (fr.app fb) rfl (Nat.le_refl _) rfl hl (picks2 h1 h2)
    · cases b
      · exact rcx_ft_ev (ρ := envW v how w) (fr.app fb) rfl (Nat.le_refl _) rfl hl (picks2 h1 h2)
      · exact rc_ft_ev (ρ := envW v how w) (fr.app fb) rfl (Nat.le_refl _) rfl hl (picks2 h1 h2)
    · cases b
      · exact rcx_tf_ev (ρ := envW v how w) (fr.app fb) rfl (Nat.le_refl _) rfl hl (picks2 h1 h2)
      · exact rc_tf_ev (ρ := envW v how w) (fr.app fb) rfl (Nat.le_refl _) rfl hl (picks2 h1 h2)
    · cases b
      · exact rcx_tt_ev (ρ := envW v how w) (fr.app fb) rfl (Nat.le_refl _) rfl hl (picks2 h1 h2)
      · exact rc_tt_ev (ρ := envW v how w) (fr.app fb) rfl (Nat.le_refl _) rfl hl (picks2 h1 h2)
  · have fr := (rem_ok (ρ := envW v how w) (i := 1) (m := 5) (n := 3) (by omega) hr)
    cases h1 : w.Picks.contains 1 <;> cases h2 : w.Picks.contains 2
    · exact rd_ff_ev (ρ := envW v how w) fr rfl (Nat.le_refl _) rfl hl (picks2 h1 h2)
    · exact rd_ft_ev (ρ := envW v how w) fr rfl (Nat.le_refl _) rfl hl (picks2 h1 h2)
    · exact rd_tf_ev (ρ := envW v how w) fr rfl (Nat.le_refl _) rfl hl (picks2 h1 h2)
    · exact rd_tt_ev (ρ := envW v how w) fr rfl (Nat.le_refl _) rfl hl (picks2 h1 h2)
  · have fr := (rem_ok (ρ := envW v how w) (i := 1) (m := 5) (n := 4) (by omega) hr)
    cases h1 : w.Picks.contains 1 <;> cases h2 : w.Picks.contains 2 <;> cases h3 : w.Picks.contains 3
    · cases b
      · exact rex_fff_ev (ρ := envW v how w) (fr.app fb) rfl (Nat.le_refl _) rfl hl (picks3 h1 h2 h3)
      · exact re_fff_ev (ρ := envW v how w) (fr.app fb) rfl (Nat.le_refl _) rfl hl (picks3 h1 h2 h3)
    · cases b
      · exact rex_fft_ev (ρ := envW v how w) (fr.app fb) rfl (Nat.le_refl _) rfl hl (picks3 h1 h2 h3)
      · exact re_fft_ev (ρ := envW v how w) (fr.app fb) rfl (Nat.le_refl _) rfl hl (picks3 h1 h2 h3)
    · cases b
      · exact rex_ftf_ev (ρ := envW v how w) (fr.app fb) rfl (Nat.le_refl _) rfl hl (picks3 h1 h2 h3)
      · exact re_ftf_ev (ρ := envW v how w) (fr.app fb) rfl (Nat.le_refl _) rfl hl (picks3 h1 h2 h3)
    · cases b
      · exact rex_ftt_ev (ρ := envW v how w) (fr.app fb) rfl (Nat.le_refl _) rfl hl (picks3 h1 h2 h3)
      · exact re_ftt_ev (ρ := envW v how w) (fr.app fb) rfl (Nat.le_refl _) rfl hl (picks3 h1 h2 h3)
    · cases b
      · exact rex_tff_ev (ρ := envW v how w) (fr.app fb) rfl (Nat.le_refl _) rfl hl (picks3 h1 h2 h3)
      · exact re_tff_ev (ρ := envW v how w) (fr.app fb) rfl (Nat.le_refl _) rfl hl (picks3 h1 h2 h3)
    · cases b
      · exact rex_tft_ev (ρ := envW v how w) (fr.app fb) rfl (Nat.le_refl _) rfl hl (picks3 h1 h2 h3)
      · exact re_tft_ev (ρ := envW v how w) (fr.app fb) rfl (Nat.le_refl _) rfl hl (picks3 h1 h2 h3)
    · cases b
      · exact rex_ttf_ev (ρ := envW v how w) (fr.app fb) rfl (Nat.le_refl _) rfl hl (picks3 h1 h2 h3)
      · exact re_ttf_ev (ρ := envW v how w) (fr.app fb) rfl (Nat.le_refl _) rfl hl (picks3 h1 h2 h3)
    · cases b
      · exact rex_ttt_ev (ρ := envW v how w) (fr.app fb) rfl (Nat.le_refl _) rfl hl (picks3 h1 h2 h3)
      · exact re_ttt_ev (ρ := envW v how w) (fr.app fb) rfl (Nat.le_refl _) rfl hl (picks3 h1 h2 h3)
end Go.Proofs.YtklmiejnopdabaaGreatDoor
