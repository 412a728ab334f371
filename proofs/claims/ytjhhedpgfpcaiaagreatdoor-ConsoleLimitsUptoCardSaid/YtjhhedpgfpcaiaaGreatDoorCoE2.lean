/- ConsoleLimits: the library's calls that are met, as known calls. Printed by a program. -/
import Derived.Test.YtjhhedpgfpcaiaaGreatDoorCoP
import Derived.Test.YtjhhedpgfpcaiaaGreatDoorCpI
namespace Go.Proofs.YtjhhedpgfpcaiaaGreatDoor
set_option linter.constructorNameAsVariable false
set_option linter.unusedSimpArgs false
set_option linter.unusedVariables false
open Go Go.Ab Go.RowKit
set_option maxRecDepth 100000
set_option linter.unusedVariables false
set_option linter.unusedSimpArgs false
def bN (l : List Nat) : List UInt8 := l.map UInt8.ofNat
theorem str_av (ρ : Env) (l : List Nat) : XV.av ρ (.str l) = .str (bsl (bN l)) := rfl
def PvsK (ρ : Env) (P : Program) : List (FuncId × List XV × XV) → Prop
  | [] => True
  | e :: r => (PureEv P e.1 (e.2.1.map (XV.av ρ)) (e.2.2.av ρ) ∧ blwL 0 (e.2.1.map (XV.av ρ)) = true ∧ (e.2.2.av ρ).blw 0 = true) ∧ PvsK ρ P r
theorem pvK_ok {ρ : Env} {P : Program} : ∀ {l : List (FuncId × List XV × XV)}, PvsK ρ P l → PvOK ρ P (pvL l)
  | [], _ => fun f args v h => by cases h
  | e :: r, h => fun f args v q σ => by
    simp only [pvL] at q
    cases c : (Nat.beq e.1 f && sameVs args e.2.1) with
    | true =>
      rw [c] at q; cases q
      simp only [Bool.and_eq_true] at c
      have := Nat.eq_of_beq_eq_true c.1
      subst this
      rw [sameV_ok.sameVs_ok (ρ := ρ) _ _ c.2]
      exact h.1.1.frame h.1.2.1 h.1.2.2 σ
    | false => rw [c] at q; exact pvK_ok h.2 f args v q σ
/-- A call known upon values that answers a text: upon objects that read so. -/
def ovLkS (k : FuncId) (args' : List XV) (b : List Nat) (ov : OvT) : OvT := fun f args H =>
  bif Nat.beq f k then (match mapO (fzX 20 H) args with
    | some l => bif sameVs l args' then some (some (.str b, H)) else ov f args H
    | none => ov f args H) else ov f args H
theorem ovLkS_ok {ρ : Env} (ht : blwL 0 ρ.t = true) {P : Program} {k : FuncId} {args' : List XV} {b : List Nat} (h : PureEv P k (args'.map (XV.av ρ)) (.str (strB b))) {ov : OvT} (hov : OvH ρ P ov) : OvH ρ P (ovLkS k args' b ov) := by
  intro f args H r e φ N hφ hk
  unfold ovLkS at e
  cases c : Nat.beq f k with
  | false => rw [c] at e; exact hov f args H r e φ N hφ hk
  | true =>
    rw [c, cond_true] at e
    have := Nat.eq_of_beq_eq_true c
    subst this
    split at e
    · rename_i l hl
      cases c2 : sameVs l args' with
      | false => rw [c2] at e; exact hov f args H r e φ N hφ hk
      | true =>
        rw [c2, cond_true] at e
        cases e
        refine ⟨hk, ?_⟩
        obtain ⟨a, q⟩ := mapO_get hl
        rw [← sameV_ok.sameVs_ok (ρ := ρ) _ _ c2] at h
        show Ev P f (args.map (XV.av ρ)) _ (.str (strB b)) _
        refine h.lookS (by simp [a]) (fun j h1 h2 => ?_)
        have := fzX_ok (ρ := ρ.fr φ N hφ) ht 20 _ _ (q j (by simpa using h1) (by simpa using h2))
        simp only [av_fr] at this
        simpa using this
    · exact hov f args H r e φ N hφ hk
theorem split_k (ρ : Env) {s : List Nat} {c : Nat} {r : List (List Nat)} (hs : s.length ≤ 28400000) (h : splitL (UInt8.ofNat c) (bN s) = r.map bN) : PureEv Tryz.prog 14 ([XV.str s, .str [c]].map (XV.av ρ)) ((XV.sl false 1 (r.map XV.str)).av ρ) := by
  have h1 := TSplit_eq (UInt8.ofNat c) (bN s) (by simpa [bN] using hs)
  rw [h] at h1
  have h2 := split_ev h1
  have e : ∀ l : List (List Nat), XV.avs ρ (l.map XV.str) = List.map avS ((l.map bN).map bsl) := fun l => by
    rw [avs_eq]; simp only [List.map_map]; rfl
  show PureEv Tryz.prog 14 [.str (bsl (bN s)), .str (bsl [UInt8.ofNat c])] (.sl false 1 (XV.avs ρ (r.map XV.str)))
  rw [e]
  exact h2
theorem cut_k (ρ : Env) {s sep a b : List Nat} {t : Bool} (hs : s.length < 4294967281) (h : Lib.cut (bN s) (bN sep) = (bN a, bN b, t)) : PureEv Tryz.prog 18 ([XV.str s, .str sep].map (XV.av ρ)) ((XV.tup [.str a, .str b, .bool t]).av ρ) := by
  have h1 := cut_ev (bsl (bN s)) (bsl (bN sep)) (by rw [bsl_size]; simpa [bN] using hs)
  rw [bsl_data, bsl_data, h] at h1
  exact h1
theorem repl_k (ρ : Env) {s old new r : List Nat} (hs : s.length < 4294967281) (h1 : 1 ≤ old.length) (hl : (bN s).length + Lib.count (bN s) (bN old) * (bN new).length ≤ 140737488355328) (h : Lib.replaceAll (bN s) (bN old) (bN new) = bN r) : PureEv Tryz.prog 45 ([XV.str s, .str old, .str new].map (XV.av ρ)) ((XV.str r).av ρ) := by
  have h2 := replaceAll_ev (bsl (bN s)) (bsl (bN old)) (bsl (bN new)) (by rw [bsl_size]; simpa [bN] using hs) (by rw [bsl_size]; simpa [bN] using h1) (by
    rw [bsl_size, bsl_size]
    show _ + Lib.count (bsl (bN s)).data.toList (bsl (bN old)).data.toList * _ ≤ _
    rw [bsl_data, bsl_data]; exact hl)
  rw [bsl_data, bsl_data, bsl_data, h] at h2
  exact h2
theorem dig_k (ρ : Env) {u k : Nat} (h0 : 10 ^ k ≤ u) (h1 : u < 10 ^ (k + 1)) (h2 : u < 18446744073709551616) : PureEv Tryz.prog 94 ([XV.int .u64 (.ofNat u)].map (XV.av ρ)) ((XV.int .i64 (.ofNat (k + 1))).av ρ) := by
  have h3 : 0 < 10 ^ k := Nat.pow_pos (by decide)
  have h4 := digits_ev u (by omega) h2
  rw [Lib.nDigits_unique k u h0 h1] at h4
  exact h4
def kL : List (FuncId × List XV × XV) := [(18, [.str [116, 101, 120, 116, 32, 102, 117, 110, 99, 32, 48, 32, 45, 32, 48, 32, 45, 59, 99, 111, 110, 115, 116, 32, 55, 59, 111, 117, 116, 59, 114, 101, 116], .str [32]], .tup [.str [116, 101, 120, 116], .str [102, 117, 110, 99, 32, 48, 32, 45, 32, 48, 32, 45, 59, 99, 111, 110, 115, 116, 32, 55, 59, 111, 117, 116, 59, 114, 101, 116], .bool true]),
  (45, [.str [102, 117, 110, 99, 32, 48, 32, 45, 32, 48, 32, 45, 59, 99, 111, 110, 115, 116, 32, 55, 59, 111, 117, 116, 59, 114, 101, 116], .str [59], .str [10]], .str [102, 117, 110, 99, 32, 48, 32, 45, 32, 48, 32, 45, 10, 99, 111, 110, 115, 116, 32, 55, 10, 111, 117, 116, 10, 114, 101, 116]),
  (14, [.str [102, 117, 110, 99, 32, 48, 32, 45, 32, 48, 32, 45, 10, 99, 111, 110, 115, 116, 32, 55, 10, 111, 117, 116, 10, 114, 101, 116], .str [10]], .sl false 1 [.str [102, 117, 110, 99, 32, 48, 32, 45, 32, 48, 32, 45], .str [99, 111, 110, 115, 116, 32, 55], .str [111, 117, 116], .str [114, 101, 116]]),
  (14, [.str [102, 117, 110, 99, 32, 48, 32, 45, 32, 48, 32, 45], .str [32]], .sl false 1 [.str [102, 117, 110, 99], .str [48], .str [45], .str [48], .str [45]]),
  (14, [.str [99, 111, 110, 115, 116, 32, 55], .str [32]], .sl false 1 [.str [99, 111, 110, 115, 116], .str [55]]),
  (14, [.str [111, 117, 116], .str [32]], .sl false 1 [.str [111, 117, 116]]),
  (14, [.str [114, 101, 116], .str [32]], .sl false 1 [.str [114, 101, 116]]),
  (14, [.str [99, 111, 110, 115, 116, 32, 103, 101, 116, 32, 115, 101, 116, 32, 97, 100, 100, 114, 32, 108, 111, 97, 100, 32, 115, 116, 111, 114, 101, 32, 97, 100, 100, 32, 115, 117, 98, 32, 109, 117, 108, 32, 100, 105, 118, 32, 114, 101, 109, 32, 97, 110, 100, 32, 111, 114, 32, 120, 111, 114, 32, 115, 104, 108, 32, 115, 104, 114, 32, 115, 97, 114, 32, 101, 113, 32, 108, 116, 32, 98, 101, 108, 111, 119, 32, 106, 117, 109, 112, 32, 122, 101, 114, 111, 32, 99, 97, 108, 108, 32, 114, 101, 116, 32, 100, 101, 102, 101, 114, 32, 112, 97, 110, 105, 99, 32, 114, 101, 99, 111, 118, 101, 114, 32, 105, 110, 32, 111, 117, 116, 32, 101, 120, 105, 116, 32, 100, 114, 111, 112, 32, 100, 117, 112], .str [32]], .sl false 1 [.str [99, 111, 110, 115, 116], .str [103, 101, 116], .str [115, 101, 116], .str [97, 100, 100, 114], .str [108, 111, 97, 100], .str [115, 116, 111, 114, 101], .str [97, 100, 100], .str [115, 117, 98], .str [109, 117, 108], .str [100, 105, 118], .str [114, 101, 109], .str [97, 110, 100], .str [111, 114], .str [120, 111, 114], .str [115, 104, 108], .str [115, 104, 114], .str [115, 97, 114], .str [101, 113], .str [108, 116], .str [98, 101, 108, 111, 119], .str [106, 117, 109, 112], .str [122, 101, 114, 111], .str [99, 97, 108, 108], .str [114, 101, 116], .str [100, 101, 102, 101, 114], .str [112, 97, 110, 105, 99], .str [114, 101, 99, 111, 118, 101, 114], .str [105, 110], .str [111, 117, 116], .str [101, 120, 105, 116], .str [100, 114, 111, 112], .str [100, 117, 112]]),
  (18, [.str [109, 101, 97, 110, 32, 49, 48, 48], .str [32]], .tup [.str [109, 101, 97, 110], .str [49, 48, 48], .bool true]),
  (18, [.str [49, 48, 48], .str [32]], .tup [.str [49, 48, 48], .str [], .bool false]),
  (18, [.str [114, 117, 110, 32, 49, 48, 48, 32, 53, 49, 50], .str [32]], .tup [.str [114, 117, 110], .str [49, 48, 48, 32, 53, 49, 50], .bool true]),
  (18, [.str [49, 48, 48, 32, 53, 49, 50], .str [32]], .tup [.str [49, 48, 48], .str [53, 49, 50], .bool true]),
  (18, [.str [53, 49, 50], .str [32]], .tup [.str [53, 49, 50], .str [], .bool false]),
  (18, [.str [120], .str [32]], .tup [.str [120], .str [], .bool false]),
  (94, [.int .u64 100], .int .i64 3),
  (94, [.int .u64 512], .int .i64 3),
  (94, [.int .u64 250], .int .i64 3),
  (94, [.int .u64 251], .int .i64 3)]
theorem kL_ok (ρ : Env) : PvsK ρ Tryz.prog kL := ⟨⟨cut_k ρ (s := [116, 101, 120, 116, 32, 102, 117, 110, 99, 32, 48, 32, 45, 32, 48, 32, 45, 59, 99, 111, 110, 115, 116, 32, 55, 59, 111, 117, 116, 59, 114, 101, 116]) (sep := [32]) (a := [116, 101, 120, 116]) (b := [102, 117, 110, 99, 32, 48, 32, 45, 32, 48, 32, 45, 59, 99, 111, 110, 115, 116, 32, 55, 59, 111, 117, 116, 59, 114, 101, 116]) (t := true) (by decide) (by decide +kernel), rfl, rfl⟩,
  ⟨repl_k ρ (s := [102, 117, 110, 99, 32, 48, 32, 45, 32, 48, 32, 45, 59, 99, 111, 110, 115, 116, 32, 55, 59, 111, 117, 116, 59, 114, 101, 116]) (old := [59]) (new := [10]) (r := [102, 117, 110, 99, 32, 48, 32, 45, 32, 48, 32, 45, 10, 99, 111, 110, 115, 116, 32, 55, 10, 111, 117, 116, 10, 114, 101, 116]) (by decide) (by decide) (by decide +kernel) (by decide +kernel), rfl, rfl⟩,
  ⟨split_k ρ (s := [102, 117, 110, 99, 32, 48, 32, 45, 32, 48, 32, 45, 10, 99, 111, 110, 115, 116, 32, 55, 10, 111, 117, 116, 10, 114, 101, 116]) (c := 10) (r := [[102, 117, 110, 99, 32, 48, 32, 45, 32, 48, 32, 45], [99, 111, 110, 115, 116, 32, 55], [111, 117, 116], [114, 101, 116]]) (by decide) (by decide +kernel), rfl, rfl⟩,
  ⟨split_k ρ (s := [102, 117, 110, 99, 32, 48, 32, 45, 32, 48, 32, 45]) (c := 32) (r := [[102, 117, 110, 99], [48], [45], [48], [45]]) (by decide) (by decide +kernel), rfl, rfl⟩,
  ⟨split_k ρ (s := [99, 111, 110, 115, 116, 32, 55]) (c := 32) (r := [[99, 111, 110, 115, 116], [55]]) (by decide) (by decide +kernel), rfl, rfl⟩,
  ⟨split_k ρ (s := [111, 117, 116]) (c := 32) (r := [[111, 117, 116]]) (by decide) (by decide +kernel), rfl, rfl⟩,
  ⟨split_k ρ (s := [114, 101, 116]) (c := 32) (r := [[114, 101, 116]]) (by decide) (by decide +kernel), rfl, rfl⟩,
  ⟨split_k ρ (s := [99, 111, 110, 115, 116, 32, 103, 101, 116, 32, 115, 101, 116, 32, 97, 100, 100, 114, 32, 108, 111, 97, 100, 32, 115, 116, 111, 114, 101, 32, 97, 100, 100, 32, 115, 117, 98, 32, 109, 117, 108, 32, 100, 105, 118, 32, 114, 101, 109, 32, 97, 110, 100, 32, 111, 114, 32, 120, 111, 114, 32, 115, 104, 108, 32, 115, 104, 114, 32, 115, 97, 114, 32, 101, 113, 32, 108, 116, 32, 98, 101, 108, 111, 119, 32, 106, 117, 109, 112, 32, 122, 101, 114, 111, 32, 99, 97, 108, 108, 32, 114, 101, 116, 32, 100, 101, 102, 101, 114, 32, 112, 97, 110, 105, 99, 32, 114, 101, 99, 111, 118, 101, 114, 32, 105, 110, 32, 111, 117, 116, 32, 101, 120, 105, 116, 32, 100, 114, 111, 112, 32, 100, 117, 112]) (c := 32) (r := [[99, 111, 110, 115, 116], [103, 101, 116], [115, 101, 116], [97, 100, 100, 114], [108, 111, 97, 100], [115, 116, 111, 114, 101], [97, 100, 100], [115, 117, 98], [109, 117, 108], [100, 105, 118], [114, 101, 109], [97, 110, 100], [111, 114], [120, 111, 114], [115, 104, 108], [115, 104, 114], [115, 97, 114], [101, 113], [108, 116], [98, 101, 108, 111, 119], [106, 117, 109, 112], [122, 101, 114, 111], [99, 97, 108, 108], [114, 101, 116], [100, 101, 102, 101, 114], [112, 97, 110, 105, 99], [114, 101, 99, 111, 118, 101, 114], [105, 110], [111, 117, 116], [101, 120, 105, 116], [100, 114, 111, 112], [100, 117, 112]]) (by decide) (by decide +kernel), rfl, rfl⟩,
  ⟨cut_k ρ (s := [109, 101, 97, 110, 32, 49, 48, 48]) (sep := [32]) (a := [109, 101, 97, 110]) (b := [49, 48, 48]) (t := true) (by decide) (by decide +kernel), rfl, rfl⟩,
  ⟨cut_k ρ (s := [49, 48, 48]) (sep := [32]) (a := [49, 48, 48]) (b := []) (t := false) (by decide) (by decide +kernel), rfl, rfl⟩,
  ⟨cut_k ρ (s := [114, 117, 110, 32, 49, 48, 48, 32, 53, 49, 50]) (sep := [32]) (a := [114, 117, 110]) (b := [49, 48, 48, 32, 53, 49, 50]) (t := true) (by decide) (by decide +kernel), rfl, rfl⟩,
  ⟨cut_k ρ (s := [49, 48, 48, 32, 53, 49, 50]) (sep := [32]) (a := [49, 48, 48]) (b := [53, 49, 50]) (t := true) (by decide) (by decide +kernel), rfl, rfl⟩,
  ⟨cut_k ρ (s := [53, 49, 50]) (sep := [32]) (a := [53, 49, 50]) (b := []) (t := false) (by decide) (by decide +kernel), rfl, rfl⟩,
  ⟨cut_k ρ (s := [120]) (sep := [32]) (a := [120]) (b := []) (t := false) (by decide) (by decide +kernel), rfl, rfl⟩,
  ⟨dig_k ρ (u := 100) (k := 2) (by decide) (by decide) (by decide), rfl, rfl⟩,
  ⟨dig_k ρ (u := 512) (k := 2) (by decide) (by decide) (by decide), rfl, rfl⟩,
  ⟨dig_k ρ (u := 250) (k := 2) (by decide) (by decide) (by decide), rfl, rfl⟩,
  ⟨dig_k ρ (u := 251) (k := 2) (by decide) (by decide) (by decide), rfl, rfl⟩, trivial⟩
abbrev ovK := ovPv (pvL kL) (ovM 194 164 ov0)
theorem ovK_ok {ρ : Env} : OvOK ρ Tryz.prog ovK := ovPv_ok (pvK_ok (kL_ok ρ)) (ovM_ok ov0_ok)
def env0 : Env := { v := fun _ => 0, t := [] }
theorem runK_ok (ρ : Env) (hf : FactsOK ρ []) : CallOK ρ Tryz.prog (runR Tryz.prog pv0 (codeT tabL) (ovA ovK []) 200) := by
  rw [runR_eq]
  exact runX_ok pv0_ok mixed (codeT_ok tabL_ok) (ovA_ok hf ovK_ok (ms := []) trivial) 200
/-- The texts of a trace, joined. -/
def jArgs : List XV := [.sl false 1 [.str [111, 117, 116, 61, 55], .str [101, 120, 105, 116, 61, 48]], .str [32]]
theorem jn_ev : PureEv Tryz.prog 82 (jArgs.map (XV.av env0)) (.str (strB [111, 117, 116, 61, 55, 32, 101, 120, 105, 116, 61, 48])) :=
  join_ev (xs := [bsl (bN [111, 117, 116, 61, 55]), bsl (bN [101, 120, 105, 116, 61, 48])]) (sep := bsl [32]) (by decide +kernel)
abbrev ovJ : OvT := ovLkS 82 jArgs [111, 117, 116, 61, 55, 32, 101, 120, 105, 116, 61, 48] (ovA ovK [])
theorem ovJ_ok : OvH env0 Tryz.prog ovJ := ovLkS_ok rfl jn_ev (ovA_ok (fs := []) nofun ovK_ok (ms := []) trivial)
end Go.Proofs.YtjhhedpgfpcaiaaGreatDoor
/- ConsoleLimits: the line that brings a program, evaluated by the kernel. Printed by a program. -/
namespace Go.Proofs.YtjhhedpgfpcaiaaGreatDoor
set_option linter.constructorNameAsVariable false
set_option linter.unusedSimpArgs false
set_option linter.unusedVariables false
open Go Go.Ab Go.RowKit
set_option maxRecDepth 100000
set_option linter.unusedVariables false
def tM : Memo := ⟨7, [.ptr 0 0 0, .str [116, 101, 120, 116, 32, 102, 117, 110, 99, 32, 48, 32, 45, 32, 48, 32, 45, 59, 99, 111, 110, 115, 116, 32, 55, 59, 111, 117, 116, 59, 114, 101, 116]], 2, [(0, 0, [.bool false, .nils, .nils, .nils, .nils, .nils]), (1, 0, [])], [], .str [111, 107, 32, 49], 1372,
  [(0, 0, [.bool true, .ref 1368 0 0 1 (some 5), .ref 1325 7 0 64 none, .ref 1320 0 0 1 (some 6), .nils, .nils]),
  (1, 0, []),
  (1320, 0, [.int .i64 2, .int .i64 8, .int .i64 0, .nils, .nils, .int .i64 (-1)]),
  (1325, 7, [.int .u8 13, .int .u8 0, .int .u8 0, .int .u8 0, .int .u8 0, .int .u8 0, .int .u8 0, .int .u8 0, .int .u8 13, .int .u8 0, .int .u8 0, .int .u8 0, .int .u8 1, .int .u8 0, .int .u8 0, .int .u8 0, .int .u8 11, .int .u8 0, .int .u8 0, .int .u8 0, .int .u8 0, .int .u8 0, .int .u8 0, .int .u8 0, .int .u8 1, .int .u8 0, .int .u8 0, .int .u8 0, .int .u8 7, .int .u8 0, .int .u8 0, .int .u8 0, .int .u8 13, .int .u8 0, .int .u8 0, .int .u8 0, .int .u8 2, .int .u8 0, .int .u8 0, .int .u8 0, .int .u8 7, .int .u8 0, .int .u8 0, .int .u8 0, .int .u8 6, .int .u8 0, .int .u8 0, .int .u8 0, .int .u8 12, .int .u8 0, .int .u8 0, .int .u8 0, .int .u8 0, .int .u8 0, .int .u8 0, .int .u8 0, .int .u8 10, .int .u8 0, .int .u8 0, .int .u8 0, .int .u8 0, .int .u8 0, .int .u8 0, .int .u8 0]),
  (1362, 2, [.int .u8 1, .int .i64 0, .int .u64 7, .int .u8 29, .int .i64 0, .int .u64 0, .int .u8 24, .int .i64 0, .int .u64 0]),
  (1368, 0, [.int .i64 0, .nils, .bool false, .int .i64 (-1), .ref 1362 2 0 3 (some 3)])], []⟩
theorem tM_c : chkM [] (runR Tryz.prog pv0 (codeT tabL) (ovA ovK []) 200) tM = true := by kernel_rfl
theorem tM_ok : MemoOK Tryz.prog [] tM := chkM_ok runK_ok tM_c
end Go.Proofs.YtjhhedpgfpcaiaaGreatDoor
