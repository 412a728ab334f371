/- core.M's unwind, Panic: the walks. -/
import Derived.Test.YtnpemocpfdgaoaaIrW7
set_option linter.unusedVariables false
set_option linter.unusedSimpArgs false
namespace Go.Proofs.Ytnpemocpfdgaoaa
open Go Go.Ab
set_option maxRecDepth 20000
set_option maxHeartbeats 2000000
def c0w : FC := .reg [⟨(some 4), none, .op (.mv (.t 0))⟩,  ⟨(some 5), none, .call 157 [(.t 4), (.v (.int .i64 2))]⟩,  ⟨(some 6), none, .op (.un .not (.t 5))⟩] []
def c0x : FC := .cond (.t 6) FC.skip (FC.exit 0)
def c0y : FC := .seq c0w c0x
def c0z : FC := .reg [⟨(some 7), none, .op (.mv (.t 0))⟩,  ⟨(some 8), none, .op (.nchk (.t 7))⟩,  ⟨(some 9), none, .op (.fad 8 (.t 8))⟩,  ⟨(some 10), none, .op (.load none (.t 9))⟩,  ⟨(some 11), none, .op (.mv (.t 0))⟩,  ⟨(some 12), none, .op (.nchk (.t 11))⟩,  ⟨(some 13), none, .op (.fad 8 (.t 12))⟩,  ⟨(some 14), none, .op (.load none (.t 13))⟩,  ⟨(some 15), none, .op (.len .sl (.t 14))⟩,  ⟨(some 16), none, .op (.bin .none .sub (.t 15) (.v (.int .i64 1)))⟩,  ⟨(some 17), none, .op (.iad none none (.t 10) (.t 16))⟩,  ⟨(some 18), none, .op (.load none (.t 17))⟩,  ⟨(some 2), none, .op (.mv (.t 18))⟩] []
def c0A : FC := .reg [⟨(some 19), none, .op (.mv (.t 0))⟩,  ⟨(some 20), none, .op (.mv (.t 0))⟩,  ⟨(some 21), none, .op (.nchk (.t 20))⟩,  ⟨(some 22), none, .op (.fad 8 (.t 21))⟩,  ⟨(some 23), none, .op (.load none (.t 22))⟩,  ⟨(some 24), none, .op (.mv (.t 0))⟩,  ⟨(some 25), none, .op (.nchk (.t 24))⟩,  ⟨(some 26), none, .op (.fad 8 (.t 25))⟩,  ⟨(some 27), none, .op (.load none (.t 26))⟩,  ⟨(some 28), none, .op (.len .sl (.t 27))⟩,  ⟨(some 29), none, .op (.bin .none .sub (.t 28) (.v (.int .i64 1)))⟩,  ⟨(some 30), none, .op (.slc none (.t 23) none (some (.t 29)) none)⟩,  ⟨(some 31), none, .op (.nchk (.t 19))⟩,  ⟨(some 32), none, .op (.fad 8 (.t 31))⟩,  ⟨none, none, .op (.store 1 (.t 32) (.t 30))⟩] []
def c0B : FC := .reg [⟨(some 33), none, .op (.mv (.t 0))⟩,  ⟨(some 34), none, .op (.nchk (.t 33))⟩,  ⟨(some 35), none, .op (.fad 9 (.t 34))⟩,  ⟨(some 36), none, .op (.load none (.t 35))⟩,  ⟨(some 37), none, .op (.len .sl (.t 36))⟩,  ⟨(some 38), none, .op (.bin .none .sub (.t 37) (.v (.int .i64 1)))⟩,  ⟨(some 3), none, .op (.mv (.t 38))⟩] []
def c0C : FC := .reg [⟨(some 39), none, .op (.mv (.t 2))⟩,  ⟨(some 40), none, .op (.nchk (.t 39))⟩,  ⟨(some 41), none, .op (.fad 1 (.t 40))⟩,  ⟨(some 42), none, .op (.load none (.t 41))⟩,  ⟨(some 43), none, .op (.bin .none .eql (.t 42) (.v (.int .i64 2)))⟩] []
def c0D : FC := .reg [⟨(some 44), none, .op (.mv (.t 0))⟩,  ⟨(some 45), none, .op (.nchk (.t 44))⟩,  ⟨(some 46), none, .op (.fad 9 (.t 45))⟩,  ⟨(some 47), none, .op (.load none (.t 46))⟩,  ⟨(some 48), none, .op (.mv (.t 3))⟩,  ⟨(some 49), none, .op (.bin .none .sub (.t 48) (.v (.int .i64 1)))⟩,  ⟨(some 50), none, .op (.mv (.t 0))⟩,  ⟨(some 51), none, .op (.nchk (.t 50))⟩,  ⟨(some 52), none, .op (.fad 9 (.t 51))⟩,  ⟨(some 53), none, .op (.load none (.t 52))⟩,  ⟨(some 54), none, .op (.mv (.t 3))⟩,  ⟨(some 55), none, .op (.iad none (some 2) (.t 53) (.t 54))⟩,  ⟨(some 56), none, .op (.load (some 2) (.t 55))⟩,  ⟨(some 57), none, .op (.iad none (some 2) (.t 47) (.t 49))⟩,  ⟨none, none, .op (.store 2 (.t 57) (.t 56))⟩] []
def c0E : FC := .reg [⟨(some 58), none, .op (.mv (.t 0))⟩,  ⟨(some 59), none, .op (.mv (.t 0))⟩,  ⟨(some 60), none, .op (.nchk (.t 59))⟩,  ⟨(some 61), none, .op (.fad 9 (.t 60))⟩,  ⟨(some 62), none, .op (.load none (.t 61))⟩,  ⟨(some 63), none, .op (.mv (.t 3))⟩,  ⟨(some 64), none, .op (.slc (some 2) (.t 62) none (some (.t 63)) none)⟩,  ⟨(some 65), none, .op (.nchk (.t 58))⟩,  ⟨(some 66), none, .op (.fad 9 (.t 65))⟩,  ⟨none, none, .op (.store 1 (.t 66) (.t 64))⟩] []
def b3L : FC := .reg [⟨(some 67), none, .op (.mv (.t 3))⟩,  ⟨(some 68), none, .op (.bin .none .sub (.t 67) (.v (.int .i64 1)))⟩,  ⟨(some 3), none, .op (.mv (.t 68))⟩] []
def b3M : FC := .seq c0E b3L
def b3N : FC := .seq c0D b3M
def b3O : FC := .cond (.t 43) b3N FC.skip
def b3P : FC := .seq c0C b3O
def b3Q : FC := .reg [⟨(some 69), none, .op (.mv (.t 0))⟩,  ⟨(some 70), none, .op (.nchk (.t 69))⟩,  ⟨(some 71), none, .op (.fad 8 (.t 70))⟩,  ⟨(some 72), none, .op (.load none (.t 71))⟩,  ⟨(some 73), none, .op (.len .sl (.t 72))⟩,  ⟨(some 74), none, .op (.bin .none .eql (.t 73) (.v (.int .i64 0)))⟩] []
def b3R : FC := .reg [⟨(some 75), none, .op (.mv (.t 0))⟩,  ⟨(some 76), none, .op (.mv (.t 0))⟩,  ⟨(some 77), none, .op (.nchk (.t 76))⟩,  ⟨(some 78), none, .op (.fad 9 (.t 77))⟩,  ⟨(some 79), none, .op (.load none (.t 78))⟩,  ⟨(some 80), none, .op (.mv (.t 3))⟩,  ⟨(some 81), none, .op (.iad none (some 2) (.t 79) (.t 80))⟩,  ⟨(some 82), none, .op (.fad 0 (.t 81))⟩,  ⟨(some 83), none, .op (.load none (.t 82))⟩,  ⟨(some 84), none, .op (.build [(.int .i64 0), (.int .u64 0)] [(0, 1, (.v (.int .i64 2))), (1, 1, (.t 83))])⟩,  ⟨(some 85), none, .op (.nchk (.t 75))⟩,  ⟨(some 86), none, .op (.fad 2 (.t 85))⟩,  ⟨none, none, .op (.store 2 (.t 86) (.t 84))⟩] []
def b3S : FC := .seq b3R FC.ret
def b3T : FC := .cond (.t 74) b3S FC.skip
def b3U : FC := .seq b3Q b3T
def b3V : FC := .seq b3P b3U
def b3W : FC := .seq c0B b3V
def b3X : FC := .seq c0A b3W
def b3Y : FC := .seq c0z b3X
def b3Z : FC := .block 1 b3Y
def b4a : FC := .seq c0y b3Z
def b4b : FC := .loop b4a
def b4c : FC := .block 0 b4b
def c4n : FC := b4c
theorem c4o : Fn3 Try.prog 138 87 [] c4n := ⟨_, _, Try.func138, rfl, rfl, rfl, by kernel_rfl⟩

def c0F : FC := .reg [⟨(some 4), none, .op (.mv (.t 0))⟩,  ⟨(some 5), none, .op (.mv (.t 0))⟩,  ⟨(some 6), none, .op (.nchk (.t 5))⟩,  ⟨(some 7), none, .op (.fad 9 (.t 6))⟩,  ⟨(some 8), none, .op (.load none (.t 7))⟩,  ⟨(some 9), none, .op (.mv (.t 1))⟩,  ⟨(some 10), none, .op (.build [(.int .u64 0), (.bool false)] [(0, 1, (.t 9))])⟩,  ⟨(some 11), none, .op (.bsl (some 2) [(.int .u64 0), (.bool false)] 1 [(0, 2, (.t 10))])⟩,  ⟨(some 12), none, .op (.app (some 2) 16 (.t 8) (.t 11))⟩,  ⟨(some 13), none, .op (.nchk (.t 4))⟩,  ⟨(some 14), none, .op (.fad 9 (.t 13))⟩,  ⟨none, none, .op (.store 1 (.t 14) (.t 12))⟩] []
def c0G : FC := .reg [⟨(some 15), none, .op (.mv (.t 0))⟩,  ⟨(some 16), none, .op (.mv (.t 0))⟩,  ⟨(some 17), none, .op (.nchk (.t 16))⟩,  ⟨(some 18), none, .op (.fad 7 (.t 17))⟩,  ⟨(some 19), none, .op (.load none (.t 18))⟩,  ⟨(some 20), none, .op (.mv (.t 0))⟩,  ⟨(some 21), none, .op (.nchk (.t 20))⟩,  ⟨(some 22), none, .op (.fad 9 (.t 21))⟩,  ⟨(some 23), none, .op (.load none (.t 22))⟩,  ⟨(some 24), none, .op (.len .sl (.t 23))⟩,  ⟨(some 25), none, .op (.mn true (.t 19) (.t 24))⟩,  ⟨(some 26), none, .op (.nchk (.t 15))⟩,  ⟨(some 27), none, .op (.fad 7 (.t 26))⟩,  ⟨none, none, .op (.store 1 (.t 27) (.t 25))⟩] []
def c0H : FC := .reg [⟨(some 28), none, .op (.mv (.t 0))⟩,  ⟨(some 29), none, .call 138 [(.t 28)]⟩] []
def c0I : FC := .seq c0G c0H
def c0J : FC := .seq c0F c0I
def c4p : FC := c0J
theorem c4q : Fn3 Try.prog 150 30 [] c4p := ⟨_, _, Try.func150, rfl, rfl, rfl, by kernel_rfl⟩

def b7H (w : Int) (ps : List s4) : Option (List s4) := if w = 2 then (match ps with | a :: _ :: l => some (a :: l) | _ => none) else some ps
theorem a5G {w : Int} {ps q : List s4} (h : b7H w ps = some q) : (w = 2 ∧ ∃ a b l, ps = a :: b :: l ∧ q = a :: l) ∨ (w ≠ 2 ∧ q = ps) := by
 unfold b7H at h
 split at h
 ·rename_i hw
  split at h
  ·cases h; exact .inl ⟨hw, _, _, _, rfl, rfl⟩
  ·cases h
 ·rename_i hw
  cases h; exact .inr ⟨hw, rfl⟩
def c5w : List s4 → Option Int
 | a :: _ => some a.v
 | [] => none
def s5 (p : GP) : List ARow → List s4 → Option (Option Int × List ARow × List s4)
 | [], _ => none
 | z :: r, ps => match z.df with
   | x :: df => (a0T p x.f x.args (r.length + 2)).bind fun f => some (none, ⟨f, 2, [], 0⟩ :: { z with df := df } :: r, ps)
   | [] => (b7H z.why ps).bind fun ps' => match r with
     | [] => (c5w ps').map fun v => (some v, [], ps')
     | y :: t => s5 p (y :: t) ps'
theorem a6o {p : GP} {z : ARow} {r : List ARow} {ps : List s4} {x} (hz : z.df = []) (h : s5 p (z :: r) ps = some x) : ∃ q, b7H z.why ps = some q ∧ (r = [] → ∃ v, c5w q = some v ∧ x = (some v, [], q)) ∧ (r ≠ [] → s5 p r q = some x) := by
 unfold s5 at h
 rw [hz] at h
 obtain ⟨q, h1, h2⟩ := Option.bind_eq_some_iff.1 h
 refine ⟨q, h1, fun e => ?_, fun e => ?_⟩
 ·subst e
  obtain ⟨v, h3, h4⟩ := Option.map_eq_some_iff.1 h2
  exact ⟨v, h3, h4.symm⟩
 ·cases r with
  | nil => exact absurd rfl e
  | cons y t => exact h2
theorem a5H {p : GP} {z : ARow} {r : List ARow} {ps : List s4} {x y df} (hz : z.df = y :: df) (h : s5 p (z :: r) ps = some x) : ∃ f, a0T p y.f y.args (r.length + 2) = some f ∧ x = (none, ⟨f, 2, [], 0⟩ :: { z with df := df } :: r, ps) := by
 unfold s5 at h
 rw [hz] at h
 obtain ⟨f, h1, h2⟩ := Option.bind_eq_some_iff.1 h
 cases h2
 exact ⟨f, h1, rfl⟩
abbrev a0l (rows : List Row) : List AV := (rows.map (fun z => AV.ptr z.s 0 0)).reverse
structure UO where
 m : Nat
 ro : Nat
 rv : Nat
 po : Nat
 pv : Nat
def uL (p : GP) (o : UO) (a0 a4 a6 a7 : AV) (ek ev dep live : Int) (rows : List Row) (ps : List s4) (rj pj : List AV) : List It :=
 (o.m, 0, [a0, mkA p, .int .i64 ek, .int .u64 ev, a4, .int .i64 dep, a6, a7, .ref o.ro o.rv 0 rows.length none, .ref o.po o.pv 0 ps.length (some 2), .int .i64 live]) :: (o.ro, o.rv, a0l rows ++ rj) :: (o.po, o.pv, flat s4.av ps.reverse ++ pj) :: rows.flatMap (a0c p)
theorem u0 {z : Row} {r : List Row} {rj : List AV} : a0l (z :: r) ++ rj = a0l r ++ (.ptr z.s 0 0 :: rj) := by simp [a0l]
theorem c5X {k : IntKind} {a b : Int} (h : a = b) : a4U none (.int k a) (.int k b) := h ▸ .refl _
theorem a7h {m r q : It} {A B C X R : List It} : List.Perm ((([m, r] ++ B) ++ A) ++ (q :: (C ++ X ++ R))) (m :: r :: q :: (A ++ (B ++ (C ++ (X ++ R))))) := by
 simp only [List.cons_append, List.nil_append, List.append_assoc]
 refine List.Perm.cons _ (List.Perm.cons _ ?_)
 have h1 : List.Perm (B ++ (A ++ (q :: (C ++ (X ++ R))))) (q :: (B ++ (A ++ (C ++ (X ++ R))))) := by
  simpa only [List.append_assoc] using (List.perm_middle : List.Perm ((B ++ A) ++ (q :: (C ++ (X ++ R)))) (q :: ((B ++ A) ++ (C ++ (X ++ R)))))
 refine h1.trans (List.Perm.cons _ ?_)
 rw [← List.append_assoc, ← List.append_assoc A]
 exact List.Perm.append_right _ List.perm_append_comm
theorem a9l {m r s d q x l t : It} {X : List It} : List.Sublist (m :: r :: q :: X) (m :: r :: s :: d :: q :: x :: l :: t :: X) :=
 .cons_cons _ (.cons_cons _ (.cons _ (.cons _ (.cons_cons _ (.cons _ (.cons _ (.cons _ (.refl _))))))))
section
variable {a0 a4 a6 a7 : AV} {o : UO} {p : GP} {ek ev dep live : Int}
theorem a4q {rows : List Row} {ps ps' : List s4} {rj pj : List AV} {en : Option Int} {A' : List ARow} (hv : s5 p (x3 rows) ps = some (en, A', ps')) (hn : rows.length < 10000000) (hp : ps.length < 10000000)
  (hl : ∀ g ∈ p.Funcs, okG g) (hd : 0 ≤ dep ∧ dep < 1000000000) (hlv : ∀ z ∈ rows, (z.df.length : Int) ≤ live) (hlv2 : live < 100000000) :
  Tri Try.prog 138 [.ptr o.m 0 0] (uL p o a0 a4 a6 a7 ek ev dep live rows ps rj pj)
   (fun _ L' => ∃ rv rows' rj' pj', x3 rows' = A' ∧ L' = uL p { o with rv := rv } a0 a4 a6 a7 (if en.isSome then 2 else ek) (en.getD ev) (if en.isSome then dep else max dep (A'.length : Int)) (if en.isSome then live else live - 1) rows' ps' rj' pj') := by
 refine l6 mixed c4o zS [] (fun R S hS => ?_)
 refine j9 (a4L (σ := List Row × List s4 × List AV × List AV) (fun _ => [(0, .ptr o.m 0 0)]) (fun q => uL p o a0 a4 a6 a7 ek ev dep live q.1 q.2.1 q.2.2.1 q.2.2.2 ++ R)
  (fun q => s5 p (x3 q.1) q.2.1 = some (en, A', ps') ∧ q.1.length < 10000000 ∧ q.2.1.length < 10000000 ∧ ∀ z ∈ q.1, (z.df.length : Int) ≤ live) (fun q => q.1.length) (rows, ps, rj, pj) hS ⟨hv, hn, hp, hlv⟩
  (a2a ⟨.refl _, trivial⟩) (fun q S hI hS => ?_))
 obtain ⟨rows1, ps1, rj1, pj1⟩ := q
 obtain ⟨i1, i2, i3, i4⟩ := hI
 dsimp only at i1 i2 i3 i4 hS
 cases rows1 with
 | nil => cases i1
 | cons z r =>
 have hS0 : Sep S ((o.m, 0, [a0, mkA p, .int .i64 ek, .int .u64 ev, a4, .int .i64 dep, a6, a7, .ref o.ro o.rv 0 (r.length + 1) none, .ref o.po o.pv 0 ps1.length (some 2), .int .i64 live]) :: (o.ro, o.rv, a0l (z :: r) ++ rj1) :: (o.po, o.pv, flat s4.av ps1.reverse ++ pj1) ::
  (z.s, 0, [.iface 173 (.ptr z.q.x 0 0), .int .i64 z.why, .ref z.d z.dv 0 z.df.length (some 2), .int .u64 z.ret]) :: (z.d, z.dv, flat a0S.av z.df.reverse ++ z.dj) :: (frL p z.fr z.q ++ r.flatMap (a0c p) ++ R)) := by
  simpa [uL, a0c, slL, List.append_assoc] using hS
 rw [u0] at hS0
 refine aU ?_
 cases hz : z.df with
 | nil =>
   refine a1l (a5E (m := o.m) (ro := o.ro) (rv := o.rv) (n := r.length) (p := p) (rc := a0l r) (rj := rj1) (dep := dep) (w := 2) (z := z) hz (by simp at i2; omega) zS) hS0 rfl
    (Spl.cons Pk.here (Spl.cons Pk.here (Spl.cons (Pk.there Pk.here) (Spl.cons (Pk.there Pk.here) Spl.nil)))) (fun r0 S L' hL hS => ?_)
   obtain ⟨rfl, rfl⟩ := hL
   refine aU ?_
   refine f9 (t := true) rfl (fun _ => ?_) (fun h => by cases h)
   refine aU ?_
   refine j9 ?_
   refine aU ?_
   refine d7 hS rfl (.head _) (v := .ref o.ro o.rv 0 (r.length + 1) none) rfl ?_
   refine aU ?_
   refine d7 hS rfl (.head _) (v := .ref o.ro o.rv 0 (r.length + 1) none) rfl ?_
   refine aU ?_
   have hr1 : r.length < 10000000 := by simp at i2; omega
   refine v7 rfl rfl r.length (a0I zO) zO ?_
   refine d7 hS rfl (.tail _ (.head _)) (v := .ptr z.s 0 0) (a2R rfl zS) ?_
   refine aU ?_
   refine d7 hS rfl (.head _) (v := .ref o.ro o.rv 0 (r.length + 1) none) rfl ?_
   refine aU ?_
   refine d7 hS rfl (.head _) (v := .ref o.ro o.rv 0 (r.length + 1) none) rfl ?_
   refine aU ?_
   refine a5x (a := 0) (b := r.length) rfl rfl (by show hiN (r.length + 1) (some (.int .i64 (IntKind.i64.wrap (((r.length + 1 : Nat) : Int) - 1)))) = _; rw [a0I zO, a2G zO]; simp) ⟨by omega, by omega, .inl rfl⟩ ?_
   refine aU ?_
   refine E_stS hS rfl (xv := .ref o.ro o.rv 0 r.length none) (by show AV.ref o.ro o.rv (0 + 0 * f5 none) (r.length - 0) none = _; simp) Rp.here rfl rfl (by first | exact Nat.le_of_ble_eq_true rfl | (simp; omega) | omega) (fun S hS => ?_)
   refine aU ?_
   refine d7 hS rfl (.head _) (v := .ref o.po o.pv 0 ps1.length (some 2)) rfl ?_
   refine aU ?_
   refine d7 hS rfl (.tail _ (.tail _ (.head _))) (v := .int .i64 z.why) rfl ?_
   refine aU ?_
   obtain ⟨ps2, h2, h3, h4⟩ := a6o (z := z.toARow) (r := x3 r) hz i1
   refine b2I (σ := List AV) (fun _ => [(0, .ptr o.m 0 0), (3, .int .i64 (IntKind.i64.wrap ((ps2.length : Int) - 1)))])
    (fun pj2 => (o.m, 0, [a0, mkA p, .int .i64 ek, .int .u64 ev, a4, .int .i64 dep, a6, a7, .ref o.ro o.rv 0 r.length none, .ref o.po o.pv 0 ps2.length (some 2), .int .i64 live]) :: (o.ro, o.rv, a0l r ++ (.ptr z.s 0 0 :: rj1)) :: (o.po, o.pv, flat s4.av ps2.reverse ++ pj2) :: (r.flatMap (a0c p) ++ R))
    (fun _ => ps2.length ≤ ps1.length) ?_ (fun pj2 S hI hS => ?_)
   ·refine f9 (t := z.why == 2) rfl (fun hw => ?_) (fun hw => ?_)
    ·have hw' : z.why = 2 := by simpa using hw
     obtain ⟨_, a, b, l, rfl, rfl⟩ : z.why = 2 ∧ ∃ a b l, ps1 = a :: b :: l ∧ ps2 = a :: l := (a5G h2).resolve_right (fun h => h.1 hw')
     simp only [List.length_cons] at i3
     have hxa : (a :: b :: l).reverse[l.length + 1]? = some a := by simp [List.getElem?_append]
     have hxb : (a :: b :: l).reverse[l.length]? = some b := by simp [List.getElem?_append]
     have hw1 : IntKind.i64.wrap (((l.length + 1 + 1 : Nat) : Int) - 1) = ((l.length + 1 : Nat) : Int) := a0I zO
     refine aU ?_
     refine d7 hS rfl (.head _) (v := .ref o.po o.pv 0 (l.length + 2) (some 2)) rfl ?_
     refine aU ?_
     refine d7 hS rfl (.head _) (v := .ref o.po o.pv 0 (l.length + 2) (some 2)) rfl ?_
     refine aU ?_
     refine v7 rfl rfl (l.length + 1) hw1 zO ?_
     refine a7E hS s4.enc rfl (.tail _ (.tail _ (.tail _ (.tail _ (.head _))))) (n := l.length + 1) (fo := 0) (y := a) zS hxa (v := a.av) rfl ?_
     refine v7 rfl rfl l.length (by show IntKind.i64.wrap (IntKind.i64.wrap (((l.length + 1 + 1 : Nat) : Int) - 1) - 1) = _; rw [hw1]; exact a0I zO) zO ?_
     refine b8q (y' := a) hS s4.enc rfl (xv := a.av) rfl (n := l.length) (fo := 0) (y := b) zS hxb (Rp.there (Rp.there (Rp.there (Rp.there Rp.here)))) rfl rfl (by simp [f5]) rfl (fun S hS => ?_)
     refine aU ?_
     refine d7 hS rfl (.head _) (v := .ref o.po o.pv 0 (l.length + 2) (some 2)) rfl ?_
     refine aU ?_
     refine a5x (a := 0) (b := l.length + 1) rfl rfl (by show hiN (l.length + 2) (some (.int .i64 (IntKind.i64.wrap (((l.length + 1 + 1 : Nat) : Int) - 1)))) = _; rw [hw1, a2G zO]; simp) ⟨by omega, by omega, .inl rfl⟩ ?_
     refine aU ?_
     refine E_stS hS rfl (xv := .ref o.po o.pv 0 (l.length + 1) (some 2)) (by show AV.ref o.po o.pv (0 + 0 * f5 (some 2)) (l.length + 1 - 0) (some 2) = _; simp) Rp.here rfl rfl (by first | exact Nat.le_of_ble_eq_true rfl | (simp; omega) | omega) (fun S hS => ?_)
     refine aU ?_
     have e3 : IntKind.i64.wrap (IntKind.i64.wrap (((l.length + 1 + 1 : Nat) : Int) - 1) - 1) = IntKind.i64.wrap (((a :: l).length : Int) - 1) := by rw [hw1]; rfl
     refine a1Q ⟨a.cells ++ pj1, by simp, ?_, a2a ⟨.refl _, c5X e3, trivial⟩⟩
     have e4 : flat s4.av ((a :: b :: l).reverse.set l.length a) ++ pj1 = flat s4.av (a :: l).reverse ++ (a.cells ++ pj1) := by
      have : (a :: b :: l).reverse.set l.length a = (a :: l).reverse ++ [a] := by simp [List.set_append]
      rw [this, v8, List.append_assoc]; rfl
     have hS4 : Ab.Sep S ((o.m, 0, [a0, mkA p, .int .i64 ek, .int .u64 ev, a4, .int .i64 dep, a6, a7, .ref o.ro o.rv 0 r.length none, .ref o.po o.pv 0 (a :: l).length (some 2), .int .i64 live]) :: (o.ro, o.rv, a0l r ++ (.ptr z.s 0 0 :: rj1)) :: _ :: _ :: (o.po, o.pv, flat s4.av ((a :: b :: l).reverse.set l.length a) ++ pj1) :: _ :: _ :: _ :: (r.flatMap (a0c p) ++ R)) := hS
     rw [e4] at hS4
     exact hS4.sub a9l
    ·have hw' : ¬ z.why = 2 := by simpa using hw
     obtain ⟨_, rfl⟩ := (a5G h2).resolve_left (fun h => hw' h.1)
     refine aU ?_
     refine a1Q ⟨pj1, Nat.le_refl _, ?_, a2a ⟨.refl _, .refl _, trivial⟩⟩
     have hS4 : Ab.Sep S ((o.m, 0, [a0, mkA p, .int .i64 ek, .int .u64 ev, a4, .int .i64 dep, a6, a7, .ref o.ro o.rv 0 r.length none, .ref o.po o.pv 0 ps2.length (some 2), .int .i64 live]) :: (o.ro, o.rv, a0l r ++ (.ptr z.s 0 0 :: rj1)) :: _ :: _ :: (o.po, o.pv, flat s4.av ps2.reverse ++ pj1) :: _ :: _ :: _ :: (r.flatMap (a0c p) ++ R)) := hS
     exact hS4.sub a9l
   ·refine aU ?_
    refine d7 hS rfl (.head _) (v := .ref o.ro o.rv 0 r.length none) rfl ?_
    refine aU ?_
    refine f9 (t := ((r.length : Int) == 0)) rfl (fun hr => ?_) (fun hr => ?_)
    ·have hr0 : r = [] := by
      have : (r.length : Int) = 0 := by simpa using hr
      exact List.length_eq_zero_iff.1 zO
     subst hr0
     obtain ⟨v, h5, h6⟩ := h3 rfl
     obtain ⟨a, l, rfl⟩ : ∃ a l, ps2 = a :: l := by
      cases ps2 with
      | nil => cases h5
      | cons a l => exact ⟨a, l, rfl⟩
     cases h5
     cases h6
     have hla : (a :: l).reverse[l.length]? = some a := by simp
     simp only [List.length_cons] at hI
     refine aU ?_
     refine d7 hS rfl (.head _) (v := .ref o.po o.pv 0 (l.length + 1) (some 2)) rfl ?_
     refine aU ?_
     refine v7 rfl rfl l.length (by show IntKind.i64.wrap (((l.length + 1 : Nat) : Int) - 1) = _; exact a0I zO) zO ?_
     refine aU ?_
     refine a7E hS s4.enc rfl (.tail _ (.tail _ (.head _))) (n := l.length) (fo := 0) (y := a) zS hla (v := .int .u64 a.v) rfl ?_
     refine aU ?_
     refine E_stS hS rfl (xv := .agg [.int .i64 2, .int .u64 a.v]) rfl Rp.here rfl rfl (by first | exact Nat.le_of_ble_eq_true rfl | (simp; omega) | omega) (fun S hS => ?_)
     refine aU ?_
     refine g8 ?_
     (repeat (first | refine j3 ?_ | refine j4 ?_ | refine j5 rfl ?_ | refine f6 ?_ | refine f8 ?_ | refine j2 ?_))
     exact ⟨trivial, _, rfl, _, ⟨o.rv, [], _, pj2, rfl, rfl⟩, hS⟩
    ·have hr0 : r ≠ [] := fun e => by subst e; cases hr
     refine aU ?_
     (repeat (first | refine j3 ?_ | refine j4 ?_ | refine j5 rfl ?_ | refine f6 ?_ | refine f8 ?_ | refine j2 ?_))
     have hr1 : x3 r ≠ [] := fun e => hr0 (List.map_eq_nil_iff.1 e)
     exact a1Q ⟨(r, ps2, .ptr z.s 0 0 :: rj1, pj2), ⟨h4 hr1, by simp at i2; show r.length < 10000000; omega, by show ps2.length < 10000000; omega, fun y hy => i4 y (.tail _ hy)⟩, by show r.length < (z :: r).length; simp, hS, a2a ⟨.refl _, trivial⟩⟩
 | cons x df =>
   obtain ⟨f, h1, h2⟩ := a5H (z := z.toARow) (r := x3 r) hz i1
   simp only [x3, List.length_map] at h1
   cases h2
   have hr1 : r.length < 10000000 := by simp at i2; omega
   have hlz := i4 z (.head _)
   rw [hz, List.length_cons] at hlz
   refine a1l (a5F (m := o.m) (ro := o.ro) (rv := o.rv) (n := r.length) (p := p) (rc := a0l r) (rj := rj1) (dep := dep) (w := 2) (z := z) (live := live) hz h1 hr1 (a3g hl h1) zS hd zO zO) hS0 rfl
    (Spl.cons Pk.here (Spl.cons Pk.here (Spl.cons (Pk.there Pk.here) (Spl.cons (Pk.there Pk.here) Spl.nil)))) (fun r0 S L' hL hS => ?_)
   obtain ⟨rfl, s, d, q, rfl⟩ := hL
   refine aU ?_
   refine f9 (t := false) rfl (fun h => by cases h) (fun _ => ?_)
   refine a6T ?_
   (repeat (first | refine j3 ?_ | refine j4 ?_ | refine j5 rfl ?_ | refine f6 ?_ | refine f8 ?_ | refine j2 ?_))
   refine ⟨trivial, _, rfl, _, ⟨o.rv + 1, ⟨⟨f, 2, [], 0⟩, s, d, 0, [], q⟩ :: { z with df := df, dj := x.cells ++ z.dj } :: r, [], pj1, rfl, rfl⟩, ?_⟩
   have e1 : max dep ((r.length : Int) + 2) = max dep (((⟨f, 2, [], 0⟩ :: { z.toARow with df := df } :: x3 r : List ARow).length : Nat) : Int) := by simp [x3]; omega
   rw [e1] at hS
   have e2 : a0l r ++ [AV.ptr z.s 0 0, .ptr s 0 0] = a0l (⟨⟨f, 2, [], 0⟩, s, d, 0, [], q⟩ :: { z with df := df, dj := x.cells ++ z.dj } :: r) ++ [] := by simp [a0l]
   rw [e2] at hS
   have hS5 := hS.perm (a7h (A := a0c p ⟨⟨f, 2, [], 0⟩, s, d, 0, [], q⟩) (B := slL { z with df := df, dj := x.cells ++ z.dj }) (C := frL p z.fr z.q) (X := r.flatMap (a0c p)) (R := R) : List.Perm ((([_, _] ++ _) ++ _) ++ (_ :: (_ ++ _ ++ R))) _)
   simpa [uL, a0c, List.append_assoc] using hS5
theorem a2t {v pmx : Int} {rows : List Row} {ps ps' : List s4} {rj pj : List AV} {en : Option Int} {A' : List ARow} (hv : s5 p (x3 rows) (⟨v, false⟩ :: ps) = some (en, A', ps')) (hn : rows.length < 10000000) (hp : ps.length < 9999999)
  (hl : ∀ g ∈ p.Funcs, okG g) (hd : 0 ≤ dep ∧ dep < 1000000000) (hlv : ∀ z ∈ rows, (z.df.length : Int) ≤ live) (hlv2 : live < 100000000) :
  Tri Try.prog 150 [.ptr o.m 0 0, .int .u64 v] (uL p o a0 a4 a6 (.int .i64 pmx) ek ev dep live rows ps rj pj)
   (fun _ L' => ∃ rv rows' rj' pj', x3 rows' = A' ∧ L' = uL p { o with rv := rv, pv := o.pv + 1 } a0 a4 a6 (.int .i64 (max pmx ((ps.length : Int) + 1))) (if en.isSome then 2 else ek) (en.getD ev) (if en.isSome then dep else max dep (A'.length : Int)) (if en.isSome then live else live - 1) rows' ps' rj' pj') := by
 refine l6 mixed c4q zS [] (fun R S hS => ?_)
 refine aU ?_
 refine d7 hS rfl (.head _) (v := .ref o.po o.pv 0 ps.length (some 2)) rfl ?_
 refine aU ?_
 refine a7D (o := o.po) (ver := o.pv) (f := s4.av) (l := ps.reverse) (m := [(⟨v, false⟩ : s4)]) (j := pj) hS s4.enc (by show AV.ref o.po o.pv 0 ps.length _ = _; rw [List.length_reverse]) (a4l (f := s4.av) (esh := some 2) [(⟨v, false⟩ : s4)]) (Rp.there (Rp.there Rp.here)) ⟨by simp; omega, by simp; omega⟩ (fun S hS => ?_)
 refine aU ?_
 refine E_stS hS rfl (xv := .ref o.po (o.pv + 1) 0 (ps.length + 1) (some 2)) (by show AV.ref o.po (o.pv + 1) 0 (ps.reverse ++ [(⟨v, false⟩ : s4)]).length _ = _; simp) Rp.here rfl rfl (by first | exact Nat.le_of_ble_eq_true rfl | (simp; omega) | omega) (fun S hS => ?_)
 refine aU ?_
 refine d7 hS rfl (.head _) (v := .int .i64 pmx) rfl ?_
 refine aU ?_
 refine d7 hS rfl (.head _) (v := .ref o.po (o.pv + 1) 0 (ps.length + 1) (some 2)) rfl ?_
 refine aU ?_
 refine E_stS hS rfl (xv := .int .i64 (max pmx ((ps.length : Int) + 1))) (by show AV.int .i64 (if true = true then if ((ps.length + 1 : Nat) : Int) > pmx then ((ps.length + 1 : Nat) : Int) else pmx else _) = _; rw [if_pos rfl, c0v]; rfl) Rp.here rfl rfl (by first | exact Nat.le_of_ble_eq_true rfl | (simp; omega) | omega) (fun S hS => ?_)
 refine aU ?_
 have e1 : flat s4.av (ps.reverse ++ [(⟨v, false⟩ : s4)]) = flat s4.av ((⟨v, false⟩ : s4) :: ps).reverse ++ [] := by rw [List.reverse_cons, List.append_nil]
 rw [e1] at hS
 have hS2 : Ab.Sep S (uL p { o with pv := o.pv + 1 } a0 a4 a6 (.int .i64 (max pmx ((ps.length : Int) + 1))) ek ev dep live rows ((⟨v, false⟩ : s4) :: ps) rj [] ++ R) := hS
 refine a1l (a4q (o := { o with pv := o.pv + 1 }) hv hn zE hl hd hlv hlv2) hS2 rfl (.refl _) (fun r S L' hL hS => ?_)
 refine aU ?_
 (repeat (first | refine j3 ?_ | refine j4 ?_ | refine j5 rfl ?_ | refine f6 ?_ | refine f8 ?_ | refine j2 ?_))
 obtain ⟨rv, rows', rj', pj', h1, rfl⟩ := hL
 exact ⟨trivial, _, rfl, _, ⟨rv, rows', rj', pj', h1, rfl⟩, hS⟩
end
end Go.Proofs.Ytnpemocpfdgaoaa

/- core.M's Return: the walk. -/
namespace Go.Proofs.Ytnpemocpfdgaoaa
open Go Go.Ab
set_option maxRecDepth 20000
set_option maxHeartbeats 2000000
def c0K : FC := .reg [⟨(some 7), none, .op (.mv (.t 0))⟩,  ⟨(some 8), none, .op (.nchk (.t 7))⟩,  ⟨(some 9), none, .op (.fad 8 (.t 8))⟩,  ⟨(some 10), none, .op (.load none (.t 9))⟩,  ⟨(some 11), none, .op (.mv (.t 0))⟩,  ⟨(some 12), none, .op (.nchk (.t 11))⟩,  ⟨(some 13), none, .op (.fad 8 (.t 12))⟩,  ⟨(some 14), none, .op (.load none (.t 13))⟩,  ⟨(some 15), none, .op (.len .sl (.t 14))⟩,  ⟨(some 16), none, .op (.bin .none .sub (.t 15) (.v (.int .i64 1)))⟩,  ⟨(some 17), none, .op (.iad none none (.t 10) (.t 16))⟩,  ⟨(some 18), none, .op (.load none (.t 17))⟩,  ⟨(some 4), none, .op (.mv (.t 18))⟩] []
def c0L : FC := .reg [⟨(some 19), none, .op (.mv (.t 4))⟩,  ⟨(some 20), none, .op (.mv (.t 1))⟩,  ⟨(some 21), none, .op (.nchk (.t 19))⟩,  ⟨(some 22), none, .op (.fad 3 (.t 21))⟩,  ⟨none, none, .op (.store 1 (.t 22) (.t 20))⟩] []
def c0M : FC := .reg [⟨(some 23), none, .op (.mv (.t 0))⟩,  ⟨(some 24), none, .call 157 [(.t 23), (.v (.int .i64 1))]⟩,  ⟨(some 25), none, .op (.un .not (.t 24))⟩] []
def c0N : FC := .cond (.t 25) FC.skip (FC.exit 0)
def c0O : FC := .seq c0M c0N
def c0P : FC := .reg [⟨(some 26), none, .op (.mv (.t 0))⟩,  ⟨(some 27), none, .op (.mv (.t 0))⟩,  ⟨(some 28), none, .op (.nchk (.t 27))⟩,  ⟨(some 29), none, .op (.fad 8 (.t 28))⟩,  ⟨(some 30), none, .op (.load none (.t 29))⟩,  ⟨(some 31), none, .op (.mv (.t 0))⟩,  ⟨(some 32), none, .op (.nchk (.t 31))⟩,  ⟨(some 33), none, .op (.fad 8 (.t 32))⟩,  ⟨(some 34), none, .op (.load none (.t 33))⟩,  ⟨(some 35), none, .op (.len .sl (.t 34))⟩,  ⟨(some 36), none, .op (.bin .none .sub (.t 35) (.v (.int .i64 1)))⟩,  ⟨(some 37), none, .op (.slc none (.t 30) none (some (.t 36)) none)⟩,  ⟨(some 38), none, .op (.nchk (.t 26))⟩,  ⟨(some 39), none, .op (.fad 8 (.t 38))⟩,  ⟨none, none, .op (.store 1 (.t 39) (.t 37))⟩] []
def c0Q : FC := .reg [⟨(some 40), none, .op (.mv (.t 0))⟩,  ⟨(some 41), none, .op (.nchk (.t 40))⟩,  ⟨(some 42), none, .op (.fad 8 (.t 41))⟩,  ⟨(some 43), none, .op (.load none (.t 42))⟩,  ⟨(some 44), none, .op (.len .sl (.t 43))⟩,  ⟨(some 45), none, .op (.bin .none .eql (.t 44) (.v (.int .i64 0)))⟩] []
def c0R : FC := .reg [⟨(some 46), none, .op (.mv (.t 0))⟩,  ⟨(some 47), none, .op (.build [(.int .i64 0), (.int .u64 0)] [(0, 1, (.v (.int .i64 1)))])⟩,  ⟨(some 48), none, .op (.nchk (.t 46))⟩,  ⟨(some 49), none, .op (.fad 2 (.t 48))⟩,  ⟨none, none, .op (.store 2 (.t 49) (.t 47))⟩] []
def c0S : FC := .seq c0R FC.ret
def b4d : FC := .cond (.t 45) c0S FC.skip
def b4e : FC := .seq c0Q b4d
def b4f : FC := .reg [⟨(some 50), none, .op (.mv (.t 0))⟩,  ⟨(some 51), none, .op (.nchk (.t 50))⟩,  ⟨(some 52), none, .op (.fad 8 (.t 51))⟩,  ⟨(some 53), none, .op (.load none (.t 52))⟩,  ⟨(some 54), none, .op (.mv (.t 0))⟩,  ⟨(some 55), none, .op (.nchk (.t 54))⟩,  ⟨(some 56), none, .op (.fad 8 (.t 55))⟩,  ⟨(some 57), none, .op (.load none (.t 56))⟩,  ⟨(some 58), none, .op (.len .sl (.t 57))⟩,  ⟨(some 59), none, .op (.bin .none .sub (.t 58) (.v (.int .i64 1)))⟩,  ⟨(some 60), none, .op (.iad none none (.t 53) (.t 59))⟩,  ⟨(some 61), none, .op (.load none (.t 60))⟩,  ⟨(some 5), none, .op (.mv (.t 61))⟩] []
def b4g : FC := .reg [⟨(some 62), none, .op (.mv (.t 4))⟩,  ⟨(some 63), none, .op (.nchk (.t 62))⟩,  ⟨(some 64), none, .op (.fad 1 (.t 63))⟩,  ⟨(some 65), none, .op (.load none (.t 64))⟩] []
def b4h : FC := .reg [⟨(some 67), none, .op (.bin .none .eql (.t 65) (.v (.int .i64 0)))⟩,  ⟨(some 66), none, .op (.mv (.t 67))⟩] []
def b4i : FC := .reg [⟨(some 68), none, .op (.mv (.t 5))⟩,  ⟨(some 69), none, .op (.nchk (.t 68))⟩,  ⟨(some 70), none, .op (.fad 0 (.t 69))⟩,  ⟨(some 71), none, .op (.load none (.t 70))⟩,  ⟨(some 72), none, .op (.mv (.t 4))⟩,  ⟨(some 73), none, .op (.nchk (.t 72))⟩,  ⟨(some 74), none, .op (.fad 3 (.t 73))⟩,  ⟨(some 75), none, .op (.load none (.t 74))⟩,  ⟨(some 76), none, .op (.nchk (.t 71))⟩,  ⟨(some 77), none, .op (.mv (.t 71))⟩,  ⟨(some 78), none, .inv (.t 77) "Back" [(.t 75)]⟩] []
def b4j : FC := .seq b4i FC.ret
def b4k : FC := .reg [⟨(some 80), none, .op (.bin .none .eql (.t 65) (.v (.int .i64 2)))⟩,  ⟨(some 79), none, .op (.mv (.t 80))⟩] []
def b4l : FC := .reg [⟨(some 81), none, .op (.mv (.t 0))⟩,  ⟨(some 82), none, .op (.nchk (.t 81))⟩,  ⟨(some 83), none, .op (.fad 9 (.t 82))⟩,  ⟨(some 84), none, .op (.load none (.t 83))⟩,  ⟨(some 85), none, .op (.len .sl (.t 84))⟩,  ⟨(some 86), none, .op (.bin .none .sub (.t 85) (.v (.int .i64 1)))⟩,  ⟨(some 6), none, .op (.mv (.t 86))⟩] []
def b4m : FC := .reg [⟨(some 87), none, .op (.mv (.t 0))⟩,  ⟨(some 88), none, .op (.nchk (.t 87))⟩,  ⟨(some 89), none, .op (.fad 9 (.t 88))⟩,  ⟨(some 90), none, .op (.load none (.t 89))⟩,  ⟨(some 91), none, .op (.mv (.t 6))⟩,  ⟨(some 92), none, .op (.iad none (some 2) (.t 90) (.t 91))⟩,  ⟨(some 93), none, .op (.fad 1 (.t 92))⟩,  ⟨(some 94), none, .op (.load none (.t 93))⟩,  ⟨(some 95), none, .op (.un .not (.t 94))⟩] []
def b4n : FC := .reg [⟨(some 96), none, .op (.mv (.t 0))⟩,  ⟨(some 97), none, .call 138 [(.t 96)]⟩] []
def b4o : FC := .seq b4n FC.ret
def b4p : FC := .cond (.t 95) b4o FC.skip
def b4q : FC := .seq b4m b4p
def b4r : FC := .reg [⟨(some 98), none, .op (.mv (.t 0))⟩,  ⟨(some 99), none, .op (.mv (.t 0))⟩,  ⟨(some 100), none, .op (.nchk (.t 99))⟩,  ⟨(some 101), none, .op (.fad 9 (.t 100))⟩,  ⟨(some 102), none, .op (.load none (.t 101))⟩,  ⟨(some 103), none, .op (.mv (.t 6))⟩,  ⟨(some 104), none, .op (.slc (some 2) (.t 102) none (some (.t 103)) none)⟩,  ⟨(some 105), none, .op (.nchk (.t 98))⟩,  ⟨(some 106), none, .op (.fad 9 (.t 105))⟩,  ⟨none, none, .op (.store 1 (.t 106) (.t 104))⟩] []
def b4s : FC := .reg [⟨(some 107), none, .op (.mv (.t 5))⟩,  ⟨(some 108), none, .op (.mv (.t 5))⟩,  ⟨(some 109), none, .op (.nchk (.t 108))⟩,  ⟨(some 110), none, .op (.fad 0 (.t 109))⟩,  ⟨(some 111), none, .op (.load none (.t 110))⟩,  ⟨(some 112), none, .inv (.t 111) "Keep" []⟩,  ⟨(some 113), none, .op (.nchk (.t 107))⟩,  ⟨(some 114), none, .op (.fad 3 (.t 113))⟩,  ⟨none, none, .op (.store 1 (.t 114) (.t 112))⟩] []
def b4t : FC := .seq b4r b4s
def b4u : FC := .seq b4q b4t
def b4v : FC := .seq b4l b4u
def b4w : FC := .cond (.t 79) b4v FC.skip
def b4x : FC := .seq b4k b4w
def b4y : FC := .cond (.t 66) b4j b4x
def b4z : FC := .seq b4h b4y
def b4A : FC := .block 2 b4z
def b4B : FC := .seq b4g b4A
def b4C : FC := .reg [⟨(some 115), none, .op (.mv (.t 5))⟩,  ⟨(some 4), none, .op (.mv (.t 115))⟩] []
def b4D : FC := .seq b4B b4C
def b4E : FC := .seq b4f b4D
def b4F : FC := .seq b4e b4E
def b4G : FC := .seq c0P b4F
def b4H : FC := .block 1 b4G
def b4I : FC := .seq c0O b4H
def b4J : FC := .loop b4I
def b4K : FC := .block 0 b4J
def b4L : FC := .seq c0L b4K
def b4M : FC := .seq c0K b4L
def c4r : FC := b4M
theorem c4s : Fn3 Try.prog 153 116 [] c4r := ⟨_, _, Try.func153, rfl, rfl, rfl, by kernel_rfl⟩

theorem c0T : a1t Try.prog 173 "Back" = some 160 := by kernel_rfl
theorem c0U : a1t Try.prog 173 "Keep" = some 161 := by kernel_rfl
theorem c0V : a1t Try.prog 173 "Step" = some 162 := by kernel_rfl
structure RO where
 en : Option (Int × Int)
 push : Bool
 A : List ARow
 ps : List s4
def a3B (p : GP) : ARow → List ARow → List s4 → Option RO
 | z, r, ps => match z.df with
   | x :: df => (a0T p x.f x.args (r.length + 2)).bind fun f => some ⟨none, true, ⟨f, 1, [], 0⟩ :: { z with df := df } :: r, ps⟩
   | [] => match r with
     | [] => some ⟨some (1, 0), false, [], ps⟩
     | y :: t =>
       if z.why = 0 then (y.fr.back p z.ret).map fun f => ⟨none, false, { y with fr := f } :: t, ps⟩
       else if z.why = 2 then (match ps with
        | [] => none
        | a :: l => if a.rcv then (a7G y.fr).bind fun v => a3B p { y with ret := v } t l
          else (s5 p (y :: t) (a :: l)).map fun u => ⟨u.1.map fun v => (2, v), u.1.isNone, u.2.1, u.2.2⟩)
       else a3B p y t ps
theorem a9m {p : GP} {z : ARow} {r : List ARow} {ps : List s4} {u : RO} {x df} (hz : z.df = x :: df) (h : a3B p z r ps = some u) : ∃ f, a0T p x.f x.args (r.length + 2) = some f ∧ u = ⟨none, true, ⟨f, 1, [], 0⟩ :: { z with df := df } :: r, ps⟩ := by
 unfold a3B at h
 rw [hz] at h
 obtain ⟨f, h1, h2⟩ := Option.bind_eq_some_iff.1 h
 cases h2
 exact ⟨f, h1, rfl⟩
theorem b1k {p : GP} {z : ARow} {ps : List s4} {u : RO} (hz : z.df = []) (h : a3B p z [] ps = some u) : u = ⟨some (1, 0), false, [], ps⟩ := by
 unfold a3B at h
 rw [hz] at h
 cases h; rfl
theorem a9n {p : GP} {z y : ARow} {t : List ARow} {ps : List s4} {u : RO} (hz : z.df = []) (h : a3B p z (y :: t) ps = some u) :
  (z.why = 0 ∧ ∃ f, y.fr.back p z.ret = some f ∧ u = ⟨none, false, { y with fr := f } :: t, ps⟩) ∨
  (z.why = 2 ∧ ∃ a l, ps = a :: l ∧ ((a.rcv = true ∧ ∃ v, a7G y.fr = some v ∧ a3B p { y with ret := v } t l = some u) ∨
   (a.rcv = false ∧ ∃ w, s5 p (y :: t) ps = some w ∧ u = ⟨w.1.map fun v => (2, v), w.1.isNone, w.2.1, w.2.2⟩))) ∨
  (z.why ≠ 0 ∧ z.why ≠ 2 ∧ a3B p y t ps = some u) := by
 unfold a3B at h
 rw [hz] at h
 dsimp only at h
 split at h
 ·rename_i h0
  obtain ⟨f, h1, h2⟩ := Option.map_eq_some_iff.1 h
  exact .inl ⟨h0, f, h1, h2.symm⟩
 ·rename_i h0
  split at h
  ·rename_i h2
   cases ps with
   | nil => cases h
   | cons a l =>
     dsimp only at h
     cases ha : a.rcv with
     | true =>
       rw [ha, if_pos rfl] at h
       obtain ⟨v, h3, h4⟩ := Option.bind_eq_some_iff.1 h
       exact .inr (.inl ⟨h2, a, l, rfl, .inl ⟨ha, v, h3, h4⟩⟩)
     | false =>
       rw [ha, if_neg zS] at h
       obtain ⟨w, h3, h4⟩ := Option.map_eq_some_iff.1 h
       exact .inr (.inl ⟨h2, a, l, rfl, .inr ⟨ha, w, h3, h4.symm⟩⟩)
  ·rename_i h2
   exact .inr (.inr ⟨h0, h2, h⟩)
theorem a9o {a b c m r zs zd q zx zl zt ys yd : It} {X : List It} : Spl (a :: b :: c :: m :: r :: zs :: zd :: q :: zx :: zl :: zt :: ys :: yd :: X) [zs, zd, zx, zl, zt, m, r, q, ys, yd, a, b, c] X := (by repeat (first | exact Spl.nil | refine Spl.cons (by repeat (first | exact Pk.here | apply Pk.there | apply Pk.skip)) ?_ | refine Spl.app (by repeat (first | exact PkC.here | apply PkC.there | apply PkC.skip)) ?_))
section
variable {a0 a4 a6 a7 : AV} {o : UO} {p : GP} {ek ev dep live : Int}
abbrev Siz (live : Int) (z : Row) : Prop := (z.df.length : Int) ≤ live
theorem a4r {z : Row} {r : List Row} {ps : List s4} {rj pj : List AV} {v : Int} {u : RO} (hv : a3B p { z.toARow with ret := v } (x3 r) ps = some u) (hn : r.length < 9999999) (hp : ps.length < 10000000)
  (hl : ∀ g ∈ p.Funcs, okG g) (hd : 0 ≤ dep ∧ dep < 1000000000) (hlv : ∀ y ∈ z :: r, Siz live y) (hlv2 : live < 100000000) :
  Tri Try.prog 153 [.ptr o.m 0 0, .int .u64 v] (uL p o a0 a4 a6 a7 ek ev dep live (z :: r) ps rj pj)
   (fun _ L' => ∃ rv rows' rj' pj', x3 rows' = u.A ∧ L' = uL p { o with rv := rv } a0 a4 a6 a7 (u.en.elim ek (·.1)) (u.en.elim ev (·.2)) (if u.push then max dep (u.A.length : Int) else dep) (if u.push then live - 1 else live) rows' u.ps rj' pj') := by
 refine l6 mixed c4s zS [] (fun R S hS => ?_)
 have hS0 : Ab.Sep S ((o.m, 0, [a0, mkA p, .int .i64 ek, .int .u64 ev, a4, .int .i64 dep, a6, a7, .ref o.ro o.rv 0 (r.length + 1) none, .ref o.po o.pv 0 ps.length (some 2), .int .i64 live]) :: (o.ro, o.rv, a0l (z :: r) ++ rj) :: (o.po, o.pv, flat s4.av ps.reverse ++ pj) ::
  (z.s, 0, [.iface 173 (.ptr z.q.x 0 0), .int .i64 z.why, .ref z.d z.dv 0 z.df.length (some 2), .int .u64 z.ret]) :: (z.d, z.dv, flat a0S.av z.df.reverse ++ z.dj) :: (frL p z.fr z.q ++ r.flatMap (a0c p) ++ R)) := by
  simpa [uL, a0c, slL, List.append_assoc] using hS
 rw [u0] at hS0
 refine aU ?_
 refine d7 hS0 rfl (.head _) (v := .ref o.ro o.rv 0 (r.length + 1) none) rfl ?_
 refine aU ?_
 refine d7 hS0 rfl (.head _) (v := .ref o.ro o.rv 0 (r.length + 1) none) rfl ?_
 refine aU ?_
 refine v7 rfl rfl r.length (a0I zO) zO ?_
 refine d7 hS0 rfl (.tail _ (.head _)) (v := .ptr z.s 0 0) (a2R rfl zS) ?_
 refine aU ?_
 refine E_stS hS0 rfl (xv := .int .u64 v) rfl (Rp.there (Rp.there (Rp.there Rp.here))) rfl rfl (by first | exact Nat.le_of_ble_eq_true rfl | (simp; omega) | omega) (fun S hS => ?_)
 rw [← u0] at hS
 have hS1 : Ab.Sep S (uL p o a0 a4 a6 a7 ek ev dep live ({ z with ret := v } :: r) ps rj pj ++ R) := by
  have hS2 : Ab.Sep S ((o.m, 0, [a0, mkA p, .int .i64 ek, .int .u64 ev, a4, .int .i64 dep, a6, a7, .ref o.ro o.rv 0 (r.length + 1) none, .ref o.po o.pv 0 ps.length (some 2), .int .i64 live]) :: (o.ro, o.rv, a0l ({ z with ret := v } :: r) ++ rj) :: (o.po, o.pv, flat s4.av ps.reverse ++ pj) ::
   (z.s, 0, [.iface 173 (.ptr z.q.x 0 0), .int .i64 z.why, .ref z.d z.dv 0 z.df.length (some 2), .int .u64 v]) :: (z.d, z.dv, flat a0S.av z.df.reverse ++ z.dj) :: (frL p z.fr z.q ++ r.flatMap (a0c p) ++ R)) := hS
  simpa [uL, a0c, slL, List.append_assoc] using hS2
 refine aU ?_
 refine j9 (a4L (σ := Row × List Row × List s4 × List AV × List AV) (fun q => [(0, .ptr o.m 0 0), (4, .ptr q.1.s 0 0)]) (fun q => uL p o a0 a4 a6 a7 ek ev dep live (q.1 :: q.2.1) q.2.2.1 q.2.2.2.1 q.2.2.2.2 ++ R)
  (fun q => a3B p q.1.toARow (x3 q.2.1) q.2.2.1 = some u ∧ q.2.1.length < 9999999 ∧ q.2.2.1.length < 10000000 ∧ ∀ z ∈ q.1 :: q.2.1, Siz live z) (fun q => q.2.1.length) ({ z with ret := v }, r, ps, rj, pj) hS1 ⟨hv, hn, hp, fun y hy => by
   rcases List.mem_cons.1 hy with rfl | hy
   ·exact hlv z (.head _)
   ·exact hlv y (.tail _ hy)⟩
  (a2a ⟨.refl _, .refl _, trivial⟩) (fun q S hI hS => ?_))
 clear hS1 hS0 hlv hv hn hp
 obtain ⟨z, r, ps, rj, pj⟩ := q
 obtain ⟨i1, i2, i3, i4⟩ := hI
 dsimp only at i1 i2 i3 i4 hS
 have hS0 : Ab.Sep S ((o.m, 0, [a0, mkA p, .int .i64 ek, .int .u64 ev, a4, .int .i64 dep, a6, a7, .ref o.ro o.rv 0 (r.length + 1) none, .ref o.po o.pv 0 ps.length (some 2), .int .i64 live]) :: (o.ro, o.rv, a0l (z :: r) ++ rj) :: (o.po, o.pv, flat s4.av ps.reverse ++ pj) ::
  (z.s, 0, [.iface 173 (.ptr z.q.x 0 0), .int .i64 z.why, .ref z.d z.dv 0 z.df.length (some 2), .int .u64 z.ret]) :: (z.d, z.dv, flat a0S.av z.df.reverse ++ z.dj) :: (frL p z.fr z.q ++ r.flatMap (a0c p) ++ R)) := by
  simpa [uL, a0c, slL, List.append_assoc] using hS
 rw [u0] at hS0
 refine aU ?_
 cases hz : z.df with
 | cons x df =>
   obtain ⟨f, h1, h2⟩ := a9m (z := z.toARow) hz i1
   simp only [x3, List.length_map] at h1
   subst h2
   have hlz : (z.df.length : Int) ≤ live := i4 z (.head _)
   rw [hz, List.length_cons] at hlz
   refine a1l (a5F (m := o.m) (ro := o.ro) (rv := o.rv) (n := r.length) (p := p) (rc := a0l r) (rj := rj) (dep := dep) (w := 1) (z := z) (live := live) hz h1 zO (a3g hl h1) zS hd zO zO) hS0 rfl
    (Spl.cons Pk.here (Spl.cons Pk.here (Spl.cons (Pk.there Pk.here) (Spl.cons (Pk.there Pk.here) Spl.nil)))) (fun r0 S L' hL hS => ?_)
   obtain ⟨rfl, s, d, q, rfl⟩ := hL
   refine aU ?_
   refine f9 (t := false) rfl (fun h => by cases h) (fun _ => ?_)
   refine a6T ?_
   (repeat (first | refine j3 ?_ | refine j4 ?_ | refine j5 rfl ?_ | refine f6 ?_ | refine f8 ?_ | refine j2 ?_))
   refine ⟨trivial, _, rfl, _, ⟨o.rv + 1, ⟨⟨f, 1, [], 0⟩, s, d, 0, [], q⟩ :: { z with df := df, dj := x.cells ++ z.dj } :: r, [], pj, rfl, rfl⟩, ?_⟩
   have e1 : max dep ((r.length : Int) + 2) = max dep (((⟨f, 1, [], 0⟩ :: { z.toARow with df := df } :: x3 r : List ARow).length : Nat) : Int) := by simp [x3]; omega
   rw [e1] at hS
   have e2 : a0l r ++ [AV.ptr z.s 0 0, .ptr s 0 0] = a0l (⟨⟨f, 1, [], 0⟩, s, d, 0, [], q⟩ :: { z with df := df, dj := x.cells ++ z.dj } :: r) ++ [] := by simp [a0l]
   rw [e2] at hS
   have hS5 := hS.perm (a7h (A := a0c p ⟨⟨f, 1, [], 0⟩, s, d, 0, [], q⟩) (B := slL { z with df := df, dj := x.cells ++ z.dj }) (C := frL p z.fr z.q) (X := r.flatMap (a0c p)) (R := R) : List.Perm ((([_, _] ++ _) ++ _) ++ (_ :: (_ ++ _ ++ R))) _)
   simpa [uL, a0c, List.append_assoc] using hS5
 | nil =>
   refine a1l (a5E (m := o.m) (ro := o.ro) (rv := o.rv) (n := r.length) (p := p) (rc := a0l r) (rj := rj) (dep := dep) (w := 1) (z := z) hz zO zS) hS0 rfl
    (Spl.cons Pk.here (Spl.cons Pk.here (Spl.cons (Pk.there Pk.here) (Spl.cons (Pk.there Pk.here) Spl.nil)))) (fun r0 S L' hL hS => ?_)
   obtain ⟨rfl, rfl⟩ := hL
   refine aU ?_
   refine f9 (t := true) rfl (fun _ => ?_) (fun h => by cases h)
   refine aU ?_
   refine j9 ?_
   refine aU ?_
   refine d7 hS rfl (.head _) (v := .ref o.ro o.rv 0 (r.length + 1) none) rfl ?_
   refine aU ?_
   refine d7 hS rfl (.head _) (v := .ref o.ro o.rv 0 (r.length + 1) none) rfl ?_
   refine aU ?_
   refine a5x (a := 0) (b := r.length) rfl rfl (by show hiN (r.length + 1) (some (.int .i64 (IntKind.i64.wrap (((r.length + 1 : Nat) : Int) - 1)))) = _; rw [a0I zO, a2G zO]; simp) ⟨by omega, by omega, .inl rfl⟩ ?_
   refine aU ?_
   refine E_stS hS rfl (xv := .ref o.ro o.rv 0 r.length none) (by show AV.ref o.ro o.rv (0 + 0 * f5 none) (r.length - 0) none = _; simp) Rp.here rfl rfl (by first | exact Nat.le_of_ble_eq_true rfl | (simp; omega) | omega) (fun S hS => ?_)
   refine aU ?_
   refine d7 hS rfl (.head _) (v := .ref o.ro o.rv 0 r.length none) rfl ?_
   refine aU ?_
   cases r with
   | nil =>
     have hu := b1k (z := z.toARow) hz i1
     subst hu
     refine f9 (t := true) rfl (fun _ => ?_) (fun h => by cases h)
     refine aU ?_
     refine E_stS hS rfl (xv := .agg [.int .i64 1, .int .u64 0]) rfl Rp.here rfl rfl (by first | exact Nat.le_of_ble_eq_true rfl | (simp; omega) | omega) (fun S hS => ?_)
     refine aU ?_
     refine g8 ?_
     (repeat (first | refine j3 ?_ | refine j4 ?_ | refine j5 rfl ?_ | refine f6 ?_ | refine f8 ?_ | refine j2 ?_))
     refine ⟨trivial, _, rfl, _, ⟨o.rv, [], .ptr z.s 0 0 :: rj, pj, rfl, rfl⟩, ?_⟩
     have hS4 : Ab.Sep S ((o.m, 0, [a0, mkA p, .int .i64 1, .int .u64 0, a4, .int .i64 dep, a6, a7, .ref o.ro o.rv 0 0 none, .ref o.po o.pv 0 ps.length (some 2), .int .i64 live]) :: (o.ro, o.rv, a0l [] ++ (.ptr z.s 0 0 :: rj)) :: _ :: _ :: (o.po, o.pv, flat s4.av ps.reverse ++ pj) :: _ :: _ :: _ :: ([] ++ R)) := hS
     exact hS4.sub a9l
   | cons y t =>
     simp only [List.length_cons] at i2
     refine f9 (t := false) (by show AV.bool (((t.length + 1 : Nat) : Int) == 0) = _; rw [show (((t.length + 1 : Nat) : Int) == 0) = false by simp; omega]) (fun h => by cases h) (fun _ => ?_)
     have hS6 : Ab.Sep S ((o.m, 0, [a0, mkA p, .int .i64 ek, .int .u64 ev, a4, .int .i64 dep, a6, a7, .ref o.ro o.rv 0 (t.length + 1) none, .ref o.po o.pv 0 ps.length (some 2), .int .i64 live]) :: (o.ro, o.rv, a0l (y :: t) ++ (.ptr z.s 0 0 :: rj)) ::
      (z.s, 0, [.iface 173 (.ptr z.q.x 0 0), .int .i64 z.why, .ref z.d z.dv 0 z.df.length (some 2), .int .u64 z.ret]) :: (z.d, z.dv, flat a0S.av z.df.reverse ++ z.dj) :: (o.po, o.pv, flat s4.av ps.reverse ++ pj) :: (z.q.x, 0, frC p z.fr z.q) :: (z.q.l, 0, flat (avI .u64) z.fr.lo) :: (z.q.t, 0, flat (avI .u64) z.fr.ce) ::
      (y.s, 0, [.iface 173 (.ptr y.q.x 0 0), .int .i64 y.why, .ref y.d y.dv 0 y.df.length (some 2), .int .u64 y.ret]) :: (y.d, y.dv, flat a0S.av y.df.reverse ++ y.dj) :: (y.q.x, 0, frC p y.fr y.q) :: (y.q.l, 0, flat (avI .u64) y.fr.lo) :: (y.q.t, 0, flat (avI .u64) y.fr.ce) :: (t.flatMap (a0c p) ++ R)) := by
      have hS5 : Ab.Sep S ((o.m, 0, [a0, mkA p, .int .i64 ek, .int .u64 ev, a4, .int .i64 dep, a6, a7, .ref o.ro o.rv 0 (t.length + 1) none, .ref o.po o.pv 0 ps.length (some 2), .int .i64 live]) :: (o.ro, o.rv, a0l (y :: t) ++ (.ptr z.s 0 0 :: rj)) ::
       (z.s, 0, [.iface 173 (.ptr z.q.x 0 0), .int .i64 z.why, .ref z.d z.dv 0 z.df.length (some 2), .int .u64 z.ret]) :: (z.d, z.dv, flat a0S.av z.df.reverse ++ z.dj) :: (o.po, o.pv, flat s4.av ps.reverse ++ pj) :: (z.q.x, 0, frC p z.fr z.q) :: (z.q.l, 0, flat (avI .u64) z.fr.lo) :: (z.q.t, 0, flat (avI .u64) z.fr.ce) ::
       ((a0c p y ++ t.flatMap (a0c p)) ++ R)) := hS
      exact hS5
     rw [u0] at hS6
     clear hS hS0
     refine aU ?_
     refine d7 hS6 rfl (.head _) (v := .ref o.ro o.rv 0 (t.length + 1) none) rfl ?_
     refine aU ?_
     refine d7 hS6 rfl (.head _) (v := .ref o.ro o.rv 0 (t.length + 1) none) rfl ?_
     refine aU ?_
     refine v7 rfl rfl t.length (a0I zO) zO ?_
     refine d7 hS6 rfl (.tail _ (.head _)) (v := .ptr y.s 0 0) (a2R rfl zS) ?_
     refine aU ?_
     refine d7 hS6 rfl (.tail _ (.tail _ (.head _))) (v := .int .i64 z.why) rfl ?_
     refine aU ?_
     refine j9 ?_
     refine aU ?_
     have hjy := i4 y (.tail _ (.head _))
     rcases a9n (z := z.toARow) (y := y.toARow) (t := x3 t) hz i1 with ⟨w0, f, h1, h2⟩ | ⟨w2, a, l, h1, h2⟩ | ⟨w0, w2, h1⟩
     ·refine f9 (t := true) (by show AV.bool (z.why == 0) = _; rw [w0]; rfl) (fun _ => ?_) (fun h => by cases h)
      refine aU ?_
      refine d7 hS6 rfl (.tail _ (.tail _ (.tail _ (.tail _ (.tail _ (.tail _ (.tail _ (.tail _ (.head _))))))))) (v := .iface 173 (.ptr y.q.x 0 0)) rfl ?_
      refine aU ?_
      refine d7 hS6 rfl (.tail _ (.tail _ (.head _))) (v := .int .u64 z.ret) rfl ?_
      refine aU ?_
      refine a9a (b1g (q := y.q) h1) hS6 rfl c0T zK rfl (Spl.cons (Pk.there (Pk.there (Pk.there (Pk.there (Pk.there (Pk.there (Pk.there (Pk.there (Pk.there (Pk.there Pk.here)))))))))) (Spl.cons (Pk.there (Pk.there (Pk.there (Pk.there (Pk.there (Pk.there (Pk.there (Pk.there (Pk.there (Pk.there Pk.here)))))))))) (Spl.cons (Pk.there (Pk.there (Pk.there (Pk.there (Pk.there (Pk.there (Pk.there (Pk.there (Pk.there (Pk.there Pk.here)))))))))) Spl.nil))) (fun r0 S L' hL hS => ?_)
      obtain ⟨q', e1, e2, rfl⟩ := hL
      refine aU ?_
      refine g8 ?_
      (repeat (first | refine j3 ?_ | refine j4 ?_ | refine j5 rfl ?_ | refine f6 ?_ | refine f8 ?_ | refine j2 ?_))
      subst h2
      refine ⟨trivial, _, rfl, _, ⟨o.rv, { y with fr := f, q := q' } :: t, .ptr z.s 0 0 :: rj, pj, rfl, rfl⟩, ?_⟩
      have hS7 := (hS.perm a9o).sub (List.sublist_append_right [_, _, _, _, _] _)
      rw [← u0, ← e1] at hS7
      exact hS7
     ·subst h1
      simp only [List.length_cons] at i3
      have hla : (a :: l).reverse[l.length]? = some a := by simp
      have hpf : flat s4.av (a :: l).reverse ++ pj = flat s4.av l.reverse ++ (a.cells ++ pj) := by rw [List.reverse_cons, v8, List.append_assoc]; rfl
      refine f9 (t := false) (by show AV.bool (z.why == 0) = _; rw [w2]; rfl) (fun h => by cases h) (fun _ => ?_)
      refine aU ?_
      refine f9 (t := true) (by show AV.bool (z.why == 2) = _; rw [w2]; rfl) (fun _ => ?_) (fun h => by cases h)
      refine aU ?_
      refine d7 hS6 rfl (.head _) (v := .ref o.po o.pv 0 (l.length + 1) (some 2)) rfl ?_
      refine aU ?_
      refine d7 hS6 rfl (.head _) (v := .ref o.po o.pv 0 (l.length + 1) (some 2)) rfl ?_
      refine aU ?_
      refine v7 rfl rfl l.length (a0I zO) zO ?_
      refine aU ?_
      refine a7E hS6 s4.enc rfl (.tail _ (.tail _ (.tail _ (.tail _ (.head _))))) (n := l.length) (fo := 1) (y := a) zS hla (v := .bool a.rcv) rfl ?_
      refine aU ?_
      rcases h2 with ⟨ha, v, h3, h4⟩ | ⟨ha, w, h3, h4⟩
      ·refine f9 (t := false) (by show AV.bool (!a.rcv) = _; rw [ha]; rfl) (fun h => by cases h) (fun _ => ?_)
       refine aU ?_
       refine d7 hS6 rfl (.head _) (v := .ref o.po o.pv 0 (l.length + 1) (some 2)) rfl ?_
       refine aU ?_
       refine a5x (a := 0) (b := l.length) rfl rfl (by show hiN (l.length + 1) (some (.int .i64 (IntKind.i64.wrap (((l.length + 1 : Nat) : Int) - 1)))) = _; rw [a0I zO, a2G zO]; simp) ⟨by omega, by omega, .inl rfl⟩ ?_
       refine aU ?_
       refine E_stS hS6 rfl (xv := .ref o.po o.pv 0 l.length (some 2)) (by show AV.ref o.po o.pv (0 + 0 * f5 (some 2)) (l.length - 0) (some 2) = _; simp) Rp.here rfl rfl (by first | exact Nat.le_of_ble_eq_true rfl | (simp; omega) | omega) (fun S hS => ?_)
       refine aU ?_
       refine d7 hS rfl (.tail _ (.tail _ (.tail _ (.tail _ (.tail _ (.tail _ (.tail _ (.tail _ (.head _))))))))) (v := .iface 173 (.ptr y.q.x 0 0)) rfl ?_
       refine aU ?_
       refine a9a (b1e (p := p) (q := y.q) h3) hS rfl c0U zK rfl (Spl.cons (Pk.there (Pk.there (Pk.there (Pk.there (Pk.there (Pk.there (Pk.there (Pk.there (Pk.there (Pk.there Pk.here)))))))))) (Spl.cons (Pk.there (Pk.there (Pk.there (Pk.there (Pk.there (Pk.there (Pk.there (Pk.there (Pk.there (Pk.there Pk.here)))))))))) (Spl.cons (Pk.there (Pk.there (Pk.there (Pk.there (Pk.there (Pk.there (Pk.there (Pk.there (Pk.there (Pk.there Pk.here)))))))))) Spl.nil))) (fun r0 S L' hL hS => ?_)
       obtain ⟨rfl, rfl⟩ := hL
       refine aU ?_
       refine E_stS hS rfl (xv := .int .u64 v) rfl (Rp.there (Rp.there (Rp.there (Rp.there (Rp.there (Rp.there (Rp.there (Rp.there (Rp.there (Rp.there (Rp.there Rp.here))))))))))) rfl rfl (by first | exact Nat.le_of_ble_eq_true rfl | (simp; omega) | omega) (fun S hS => ?_)
       refine aU ?_
       (repeat (first | refine j3 ?_ | refine j4 ?_ | refine j5 rfl ?_ | refine f6 ?_ | refine f8 ?_ | refine j2 ?_))
       refine aU ?_
       (repeat (first | refine j3 ?_ | refine j4 ?_ | refine j5 rfl ?_ | refine f6 ?_ | refine f8 ?_ | refine j2 ?_))
       have hS7 := (hS.perm a9o).sub (List.sublist_append_right [_, _, _, _, _] _)
       rw [hpf, ← u0] at hS7
       exact a1Q ⟨({ y with ret := v }, t, l, .ptr z.s 0 0 :: rj, a.cells ++ pj), ⟨h4, by show t.length < 9999999; omega, by show l.length < 10000000; omega, fun x hx => by
        rcases List.mem_cons.1 hx with rfl | hx
        ·exact hjy
        ·exact i4 x (.tail _ (.tail _ hx))⟩, by show t.length < (y :: t).length; simp, hS7, a2a ⟨.refl _, .refl _, trivial⟩⟩
      ·refine f9 (t := true) (by show AV.bool (!a.rcv) = _; rw [ha]; rfl) (fun _ => ?_) (fun h => by cases h)
       have hS7 := hS6.sub a9l
       rw [← u0] at hS7
       obtain ⟨en, A', ps'⟩ := w
       refine aU ?_
       refine a1l (a4q (o := o) (a0 := a0) (a4 := a4) (a6 := a6) (a7 := a7) (ek := ek) (ev := ev) (dep := dep) (live := live) (rows := y :: t) (ps := a :: l) (rj := .ptr z.s 0 0 :: rj) (pj := pj) h3 zE zE hl hd (fun x hx => i4 x (.tail _ hx)) hlv2) hS7 rfl (.refl _) (fun r0 S L' hL hS => ?_)
       obtain ⟨rv, rows', rj', pj', h5, rfl⟩ := hL
       refine aU ?_
       refine g8 ?_
       (repeat (first | refine j3 ?_ | refine j4 ?_ | refine j5 rfl ?_ | refine f6 ?_ | refine f8 ?_ | refine j2 ?_))
       subst h4
       refine ⟨trivial, _, rfl, _, ⟨rv, rows', rj', pj', h5, rfl⟩, ?_⟩
       cases en <;> exact hS
     ·have hb0 : (z.why == 0) = false := by simpa using w0
      have hb2 : (z.why == 2) = false := by simpa using w2
      refine f9 (t := false) (by show AV.bool (z.why == 0) = _; rw [hb0]) (fun h => by cases h) (fun _ => ?_)
      refine aU ?_
      refine f9 (t := false) (by show AV.bool (z.why == 2) = _; rw [hb2]) (fun h => by cases h) (fun _ => ?_)
      refine aU ?_
      (repeat (first | refine j3 ?_ | refine j4 ?_ | refine j5 rfl ?_ | refine f6 ?_ | refine f8 ?_ | refine j2 ?_))
      refine aU ?_
      (repeat (first | refine j3 ?_ | refine j4 ?_ | refine j5 rfl ?_ | refine f6 ?_ | refine f8 ?_ | refine j2 ?_))
      have hS7 := hS6.sub a9l
      rw [← u0] at hS7
      exact a1Q ⟨(y, t, ps, .ptr z.s 0 0 :: rj, pj), ⟨h1, by show t.length < 9999999; omega, i3, fun x hx => i4 x (.tail _ hx)⟩, by show t.length < (y :: t).length; simp, hS7, a2a ⟨.refl _, .refl _, trivial⟩⟩
end
end Go.Proofs.Ytnpemocpfdgaoaa

/- core.M's At, irun's cell, the top frame within the whole: the walks. -/
namespace Go.Proofs.Ytnpemocpfdgaoaa
open Go Go.Ab
set_option maxRecDepth 20000
set_option maxHeartbeats 2000000
def c0W : FC := .reg [⟨(some 4), none, .op (.mv (.v .nili))⟩] []
def c0X : FC := .reg [⟨(some 5), none, .op (.mv (.t 0))⟩,  ⟨(some 6), none, .op (.nchk (.t 5))⟩,  ⟨(some 7), none, .op (.fad 8 (.t 6))⟩,  ⟨(some 8), none, .op (.load none (.t 7))⟩,  ⟨(some 9), none, .op (.mv (.t 1))⟩,  ⟨(some 10), none, .op (.iad none none (.t 8) (.t 9))⟩,  ⟨(some 11), none, .op (.load none (.t 10))⟩,  ⟨(some 12), none, .op (.nchk (.t 11))⟩,  ⟨(some 13), none, .op (.fad 0 (.t 12))⟩,  ⟨(some 14), none, .op (.load none (.t 13))⟩,  ⟨(some 4), none, .op (.mv (.t 14))⟩] []
def c0Y : FC := .seq c0X FC.ret
def c0Z : FC := .seq c0W c0Y
def c4t : FC := c0Z
theorem c4u : Fn3 Try.prog 156 15 [(4, none)] c4t := ⟨_, _, Try.func156, rfl, rfl, rfl, by kernel_rfl⟩

def c1a : FC := .reg [⟨(some 4), none, .op (.mv (.v .nilp))⟩] []
def c1b : FC := .reg [⟨(some 8), none, .op (.mv (.t 1))⟩,  ⟨(some 9), none, .op (.bin .none .shr (.t 8) (.v (.int .u64 16)))⟩,  ⟨(some 10), none, .op (.bin .none .and (.t 9) (.v (.int .u64 4294967295)))⟩,  ⟨(some 11), none, .op (.cint .i64 (.t 10))⟩,  ⟨(some 12), none, .op (.mv (.t 1))⟩,  ⟨(some 13), none, .op (.bin .none .and (.t 12) (.v (.int .u64 65535)))⟩,  ⟨(some 14), none, .op (.cint .i64 (.t 13))⟩,  ⟨(some 5), none, .op (.mv (.t 11))⟩,  ⟨(some 6), none, .op (.mv (.t 14))⟩] []
def c1c : FC := .reg [⟨(some 15), none, .op (.mv (.t 1))⟩,  ⟨(some 16), none, .op (.bin .none .shr (.t 15) (.v (.int .u64 48)))⟩,  ⟨(some 17), none, .op (.bin .none .neq (.t 16) (.v (.int .u64 16384)))⟩,  ⟨(some 18), none, .op (.mv (.t 17))⟩,  ⟨(some 19), some (18, false), .op (.mv (.t 5))⟩,  ⟨(some 20), some (18, false), .op (.mv (.t 0))⟩,  ⟨(some 21), some (18, false), .call 42 [(.t 20)]⟩,  ⟨(some 22), some (18, false), .op (.bin .none .geq (.t 19) (.t 21))⟩,  ⟨(some 23), none, .op (.pick (.t 18) (.v (.bool true)) (.t 22))⟩] []
def c1d : FC := .reg [⟨(some 4), none, .op (.mv (.v .nilp))⟩] []
def c1e : FC := .seq c1d FC.ret
def c1f : FC := .cond (.t 23) c1e FC.skip
def c1g : FC := .seq c1c c1f
def c1h : FC := .reg [⟨(some 24), none, .op (.mv (.t 0))⟩,  ⟨(some 25), none, .op (.mv (.t 5))⟩,  ⟨(some 26), none, .call 156 [(.t 24), (.t 25)]⟩,  ⟨(some 27), none, .op (.tas 173 (.t 26))⟩,  ⟨(some 7), none, .op (.mv (.t 27))⟩] []
def c1i : FC := .reg [⟨(some 28), none, .op (.mv (.t 6))⟩,  ⟨(some 29), none, .op (.mv (.t 7))⟩,  ⟨(some 30), none, .op (.nchk (.t 29))⟩,  ⟨(some 31), none, .op (.fad 3 (.t 30))⟩,  ⟨(some 32), none, .op (.load none (.t 31))⟩,  ⟨(some 33), none, .op (.len .sl (.t 32))⟩,  ⟨(some 34), none, .op (.bin .none .geq (.t 28) (.t 33))⟩] []
def b4N : FC := .reg [⟨(some 4), none, .op (.mv (.v .nilp))⟩] []
def b4O : FC := .seq b4N FC.ret
def b4P : FC := .cond (.t 34) b4O FC.skip
def b4Q : FC := .seq c1i b4P
def b4R : FC := .reg [⟨(some 35), none, .op (.mv (.t 7))⟩,  ⟨(some 36), none, .op (.nchk (.t 35))⟩,  ⟨(some 37), none, .op (.fad 3 (.t 36))⟩,  ⟨(some 38), none, .op (.load none (.t 37))⟩,  ⟨(some 39), none, .op (.mv (.t 6))⟩,  ⟨(some 40), none, .op (.iad none none (.t 38) (.t 39))⟩,  ⟨(some 4), none, .op (.mv (.t 40))⟩] []
def b4S : FC := .seq b4R FC.ret
def b4T : FC := .seq b4Q b4S
def b4U : FC := .seq c1h b4T
def b4V : FC := .seq c1g b4U
def b4W : FC := .seq c1b b4V
def b4X : FC := .seq c1a b4W
def c4v : FC := b4X
theorem b1l : Fn3 Try.prog 165 41 [(4, none)] c4v := ⟨_, _, Try.func165, rfl, rfl, rfl, by kernel_rfl⟩

section
variable {a0 a4 a6 a7 : AV} {o : UO} {p : GP} {ek ev dep live : Int} {rows : List Row} {ps : List s4} {rj pj : List AV}
theorem b1X {i : Nat} {y : Row} (hy : rows.reverse[i]? = some y) : a4M Try.prog 156 [.ptr o.m 0 0, .int .i64 i] (uL p o a0 a4 a6 a7 ek ev dep live rows ps rj pj) (.iface 173 (.ptr y.q.x 0 0)) := by
 have hi := (List.getElem?_eq_some_iff.1 hy).1
 simp only [List.length_reverse] at hi
 have hyr : y ∈ rows := by simpa using List.mem_of_getElem? hy
 refine a1b mixed c4u zS [] (fun R S hS => ?_)
 refine aU ?_
 refine d7 hS rfl (.head _) (v := .ref o.ro o.rv 0 rows.length none) rfl ?_
 refine aU ?_
 refine v7 rfl rfl i rfl hi ?_
 have hpt : a0x none (a0l rows ++ rj) (0 + i * f5 none) = some (.ptr y.s 0 0) := by
  rw [show 0 + i * f5 none = i by simp [f5]]
  unfold a0x
  simp only [a0l, ← List.map_reverse, List.length_append, List.length_map, List.length_reverse]
  rw [if_pos zO, List.getD_eq_getElem?_getD, List.getElem?_append_left (by simp [hi]), List.getElem?_map, hy]
  rfl
 refine d7 hS rfl (.tail _ (.head _)) (v := .ptr y.s 0 0) hpt ?_
 refine aU ?_
 have hm : (y.s, 0, [AV.iface 173 (.ptr y.q.x 0 0), .int .i64 y.why, .ref y.d y.dv 0 y.df.length (some 2), .int .u64 y.ret]) ∈ uL p o a0 a4 a6 a7 ek ev dep live rows ps rj pj ++ R :=
  List.mem_append_left _ (.tail _ (.tail _ (.tail _ (List.mem_flatMap.2 ⟨y, hyr, .head _⟩))))
 refine d7 hS rfl hm (v := .iface 173 (.ptr y.q.x 0 0)) rfl ?_
 refine aU ?_
 refine g8 ?_
 (repeat (first | refine j3 ?_ | refine j4 ?_ | refine j5 rfl ?_ | refine f6 ?_ | refine f8 ?_ | refine j2 ?_))
 exact ⟨trivial, _, rfl, rfl, rfl⟩
end
section
variable {a0 a4 a6 a7 : AV} {o : UO} {p : GP} {ek ev dep live : Int} {z : Row} {r : List Row} {ps : List s4} {rj pj : List AV} {R : List It} {S : List Ob}
def uR (p : GP) (o : UO) (a0 a4 a6 a7 : AV) (ek ev dep live : Int) (z : Row) (r : List Row) (ps : List s4) (rj pj : List AV) : List It :=
 (o.m, 0, [a0, mkA p, .int .i64 ek, .int .u64 ev, a4, .int .i64 dep, a6, a7, .ref o.ro o.rv 0 (r.length + 1) none, .ref o.po o.pv 0 ps.length (some 2), .int .i64 live]) :: (o.ro, o.rv, a0l (z :: r) ++ rj) :: (o.po, o.pv, flat s4.av ps.reverse ++ pj) :: (slL z ++ r.flatMap (a0c p))
theorem a4N : List.Perm (uL p o a0 a4 a6 a7 ek ev dep live (z :: r) ps rj pj ++ R) (frL p z.fr z.q ++ (uR p o a0 a4 a6 a7 ek ev dep live z r ps rj pj ++ R)) := by
 have h : Spl ((o.m, 0, [a0, mkA p, .int .i64 ek, .int .u64 ev, a4, .int .i64 dep, a6, a7, .ref o.ro o.rv 0 (r.length + 1) none, .ref o.po o.pv 0 ps.length (some 2), .int .i64 live]) :: (o.ro, o.rv, a0l (z :: r) ++ rj) :: (o.po, o.pv, flat s4.av ps.reverse ++ pj) :: (z.s, 0, [.iface 173 (.ptr z.q.x 0 0), .int .i64 z.why, .ref z.d z.dv 0 z.df.length (some 2), .int .u64 z.ret]) :: (z.d, z.dv, flat a0S.av z.df.reverse ++ z.dj) :: (z.q.x, 0, frC p z.fr z.q) :: (z.q.l, 0, flat (avI .u64) z.fr.lo) :: (z.q.t, 0, flat (avI .u64) z.fr.ce) :: (r.flatMap (a0c p) ++ R))
  [(z.q.x, 0, frC p z.fr z.q), (z.q.l, 0, flat (avI .u64) z.fr.lo), (z.q.t, 0, flat (avI .u64) z.fr.ce)] _ :=
  Spl.cons (Pk.there (Pk.there (Pk.there (Pk.there (Pk.there Pk.here))))) (Spl.cons (Pk.there (Pk.there (Pk.there (Pk.there (Pk.there Pk.here))))) (Spl.cons (Pk.there (Pk.there (Pk.there (Pk.there (Pk.there Pk.here))))) Spl.nil))
 exact h
theorem a9p {f : SFr} {q : FO} (hq : q.x = z.q.x) (h : Ab.Sep S (frL p f q ++ (uR p o a0 a4 a6 a7 ek ev dep live z r ps rj pj ++ R))) : Ab.Sep S (uL p o a0 a4 a6 a7 ek ev dep live ({ z with fr := f, q := q } :: r) ps rj pj ++ R) := by
 have h1 := (a4N (a0 := a0) (a4 := a4) (a6 := a6) (a7 := a7) (o := o) (p := p) (ek := ek) (ev := ev) (dep := dep) (live := live) (z := { z with fr := f, q := q }) (r := r) (ps := ps) (rj := rj) (pj := pj) (R := R)).symm
 refine Sep.perm (L := frL p f q ++ (uR p o a0 a4 a6 a7 ek ev dep live { z with fr := f, q := q } r ps rj pj ++ R)) ?_ h1
 have e : uR p o a0 a4 a6 a7 ek ev dep live { z with fr := f, q := q } r ps rj pj = uR p o a0 a4 a6 a7 ek ev dep live z r ps rj pj := by
  unfold uR slL; dsimp only; rw [hq]; rfl
 rw [e]; exact h
end
section
variable {a0 a4 a6 a7 : AV} {o : UO} {p : GP} {ek ev dep live : Int} {z : Row} {r : List Row} {ps ps' : List s4} {rj pj : List AV}
theorem b4Y {g : FuncId} {ag : List AV} {v : AV} (c : a4M Try.prog g ag (frL p z.fr z.q) v) : a4M Try.prog g ag (uL p o a0 a4 a6 a7 ek ev dep live (z :: r) ps rj pj) v := fun R S hS => c _ _ (hS.perm a4N)
theorem s7 {k v : Int} (h : z.fr.get p k = some v) : a4M Try.prog 163 [.ptr z.q.x 0 0, .int .i64 k] (uL p o a0 a4 a6 a7 ek ev dep live (z :: r) ps rj pj) (.int .u64 v) := b4Y (a9i h)
theorem a0m {k v : Int} {f' : SFr} (h : z.fr.set p k v = some f') :
  Tri Try.prog 71 [.ptr z.q.x 0 0, .int .i64 k, .int .u64 v] (uL p o a0 a4 a6 a7 ek ev dep live (z :: r) ps rj pj) (fun x L' => ∃ f q, q = z.q ∧ f = f' ∧ L' = uL p o a0 a4 a6 a7 ek ev dep live ({ z with fr := f, q := q } :: r) ps rj pj) := fun R S hS => by
 obtain ⟨v, S', h1, L', rfl, h4⟩ := a6m h _ _ (hS.perm a4N)
 exact ⟨v, S', h1, _, ⟨f', z.q, rfl, rfl, rfl⟩, a9p rfl h4⟩
theorem a5I {n : d8} {ag : List Int} (hv : a2h p z.fr n.Args = some ag) (hl : n.Args.length < 100000000) :
  Tri Try.prog 166 [.ptr z.q.x 0 0, d8.av n] (uL p o a0 a4 a6 a7 ek ev dep live (z :: r) ps rj pj) (fun x L' => x = .sl false 1 (ag.map (avI .u64)) ∧ L' = uL p o a0 a4 a6 a7 ek ev dep live (z :: r) ps rj pj) := fun R S hS => by
 obtain ⟨v, S', h1, L', ⟨rfl, rfl⟩, h4⟩ := b1f hv hl _ _ (hS.perm a4N)
 exact ⟨_, S', h1, _, ⟨rfl, rfl⟩, a9p (z := z) rfl h4⟩
end
section
variable {a0 a4 a6 a7 : AV} {o : UO} {p : GP} {ek ev dep live : Int} {rows : List Row} {ps : List s4} {rj pj : List AV}
def b7I (pt : Int) : Int := pt.fdiv (2 ^ min (Int.toNat 48) IntKind.u64.bits)
def a6p (pt : Int) : Int := IntKind.i64.wrap (IntKind.u64.wrap ↑(BitVec.ofInt IntKind.u64.bits (pt.fdiv (2 ^ min (Int.toNat 16) IntKind.u64.bits)) &&& BitVec.ofInt IntKind.u64.bits 4294967295).toNat)
def b1Y (pt : Int) : Int := IntKind.i64.wrap (IntKind.u64.wrap ↑(BitVec.ofInt IntKind.u64.bits pt &&& BitVec.ofInt IntKind.u64.bits 65535).toNat)
theorem a9q {rows : List Row} {i : Nat} {y : Row} {R : List It} (h : rows.reverse[i]? = some y) : (y.q.x, 0, frC p y.fr y.q) ∈ uL p o a0 a4 a6 a7 ek ev dep live rows ps rj pj ++ R :=
 List.mem_append_left _ (.tail _ (.tail _ (.tail _ (List.mem_flatMap.2 ⟨y, by simpa using List.mem_of_getElem? h, .tail _ (.tail _ (.head _))⟩))))
theorem a9r : a4M Try.prog 42 [.ptr o.m 0 0] (uL p o a0 a4 a6 a7 ek ev dep live rows ps rj pj) (.int .i64 rows.length) := fun R S hS => by
 have h : Ab.Sep S ([(o.m, 0, [a0, mkA p, .int .i64 ek, .int .u64 ev, a4, .int .i64 dep, a6, a7, .ref o.ro o.rv 0 rows.length none, .ref o.po o.pv 0 ps.length (some 2), .int .i64 live])] ++ ((o.ro, o.rv, a0l rows ++ rj) :: (o.po, o.pv, flat s4.av ps.reverse ++ pj) :: (rows.flatMap (a0c p) ++ R))) := hS
 exact a9h _ _ h
theorem a9s {pt : Int} (h : (b7I pt != 16384) = true) : a4M Try.prog 165 [.ptr o.m 0 0, .int .u64 pt] (uL p o a0 a4 a6 a7 ek ev dep live rows ps rj pj) .nilp := by
 have h' : (pt.fdiv (2 ^ min (Int.toNat 48) IntKind.u64.bits) != 16384) = true := h
 refine a1b mixed b1l zS [] (fun R S hS => ?_)
 refine aU ?_
 rw [h']
 refine aU ?_
 refine f9 (t := true) rfl (fun _ => ?_) (fun h => by cases h)
 refine aU ?_
 refine g8 ?_
 (repeat (first | refine j3 ?_ | refine j4 ?_ | refine j5 rfl ?_ | refine f6 ?_ | refine f8 ?_ | refine j2 ?_))
 exact ⟨trivial, _, rfl, rfl, rfl⟩
theorem a9t {pt : Int} (h : (b7I pt != 16384) = false) (hi : (rows.length : Int) ≤ a6p pt) : a4M Try.prog 165 [.ptr o.m 0 0, .int .u64 pt] (uL p o a0 a4 a6 a7 ek ev dep live rows ps rj pj) .nilp := by
 have h' : (pt.fdiv (2 ^ min (Int.toNat 48) IntKind.u64.bits) != 16384) = false := h
 refine a1b mixed b1l zS [] (fun R S hS => ?_)
 refine aU ?_
 rw [h']
 refine aU ?_
 refine a2d a9r hS rfl (.refl _) ?_
 refine aU ?_
 refine f9 (t := true) (by show AV.bool (decide (a6p pt ≥ (rows.length : Int))) = _; rw [decide_eq_true hi]) (fun _ => ?_) (fun h => by cases h)
 refine aU ?_
 refine g8 ?_
 (repeat (first | refine j3 ?_ | refine j4 ?_ | refine j5 rfl ?_ | refine f6 ?_ | refine f8 ?_ | refine j2 ?_))
 exact ⟨trivial, _, rfl, rfl, rfl⟩
theorem a9u {pt : Int} {i : Nat} {y : Row} (h : (b7I pt != 16384) = false) (hi : a6p pt = (i : Int)) (hy : rows.reverse[i]? = some y) (hk : (y.fr.ce.length : Int) ≤ b1Y pt) : a4M Try.prog 165 [.ptr o.m 0 0, .int .u64 pt] (uL p o a0 a4 a6 a7 ek ev dep live rows ps rj pj) .nilp := by
 have h' : (pt.fdiv (2 ^ min (Int.toNat 48) IntKind.u64.bits) != 16384) = false := h
 have hlt : i < rows.length := by simpa using (List.getElem?_eq_some_iff.1 hy).1
 refine a1b mixed b1l zS [] (fun R S hS => ?_)
 refine aU ?_
 rw [h']
 refine aU ?_
 refine a2d a9r hS rfl (.refl _) ?_
 refine aU ?_
 refine f9 (t := false) (by show AV.bool (decide (a6p pt ≥ (rows.length : Int))) = _; rw [decide_eq_false zO]) (fun h => by cases h) (fun _ => ?_)
 refine aU ?_
 refine a2d (b1X hy) hS (by show [AV.ptr o.m 0 0, .int .i64 (a6p pt)] = _; rw [hi]) (.refl _) ?_
 refine aU ?_
 refine d7 hS rfl (a9q hy) (v := .ref y.q.t 0 0 y.fr.ce.length none) rfl ?_
 refine aU ?_
 refine f9 (t := true) (by show AV.bool (decide (b1Y pt ≥ (y.fr.ce.length : Int))) = _; rw [decide_eq_true hk]) (fun _ => ?_) (fun h => by cases h)
 refine aU ?_
 refine g8 ?_
 (repeat (first | refine j3 ?_ | refine j4 ?_ | refine j5 rfl ?_ | refine f6 ?_ | refine f8 ?_ | refine j2 ?_))
 exact ⟨trivial, _, rfl, rfl, rfl⟩
theorem b1m {pt : Int} {i k : Nat} {y : Row} (h : (b7I pt != 16384) = false) (hi : a6p pt = (i : Int)) (hy : rows.reverse[i]? = some y) (hk : b1Y pt = (k : Int)) (hk2 : k < y.fr.ce.length) : a4M Try.prog 165 [.ptr o.m 0 0, .int .u64 pt] (uL p o a0 a4 a6 a7 ek ev dep live rows ps rj pj) (.ptr y.q.t 0 k) := by
 have h' : (pt.fdiv (2 ^ min (Int.toNat 48) IntKind.u64.bits) != 16384) = false := h
 have hlt : i < rows.length := by simpa using (List.getElem?_eq_some_iff.1 hy).1
 refine a1b mixed b1l zS [] (fun R S hS => ?_)
 refine aU ?_
 rw [h']
 refine aU ?_
 refine a2d a9r hS rfl (.refl _) ?_
 refine aU ?_
 refine f9 (t := false) (by show AV.bool (decide (a6p pt ≥ (rows.length : Int))) = _; rw [decide_eq_false zO]) (fun h => by cases h) (fun _ => ?_)
 refine aU ?_
 refine a2d (b1X hy) hS (by show [AV.ptr o.m 0 0, .int .i64 (a6p pt)] = _; rw [hi]) (.refl _) ?_
 refine aU ?_
 refine d7 hS rfl (a9q hy) (v := .ref y.q.t 0 0 y.fr.ce.length none) rfl ?_
 refine aU ?_
 refine f9 (t := false) (by show AV.bool (decide (b1Y pt ≥ (y.fr.ce.length : Int))) = _; rw [decide_eq_false zO]) (fun h => by cases h) (fun _ => ?_)
 refine aU ?_
 refine d7 hS rfl (a9q hy) (v := .ref y.q.t 0 0 y.fr.ce.length none) rfl ?_
 refine aU ?_
 refine v7 rfl rfl k hk hk2 ?_
 refine aU ?_
 refine g8 ?_
 (repeat (first | refine j3 ?_ | refine j4 ?_ | refine j5 rfl ?_ | refine f6 ?_ | refine f8 ?_ | refine j2 ?_))
 exact ⟨trivial, _, rfl, by show AV.ptr y.q.t 0 (0 + k * f5 none) = _; simp [f5], rfl⟩
theorem a4O {rows : List Row} {i : Nat} {ya : ARow} (h : (x3 rows).reverse[i]? = some ya) : ∃ y, rows.reverse[i]? = some y ∧ y.toARow = ya := by
 unfold x3 at h
 rw [← List.map_reverse, List.getElem?_map] at h
 obtain ⟨y, h1, h2⟩ := Option.map_eq_some_iff.1 h
 exact ⟨y, h1, h2⟩
def a2X (rows : List ARow) (pt : Int) : Option (Option (Nat × Nat)) :=
 if (b7I pt != 16384) = true then some none
 else if (rows.length : Int) ≤ a6p pt then some none
 else if a6p pt < 0 ∨ b1Y pt < 0 then none
 else (rows.reverse[(a6p pt).toNat]?).bind fun y => if (y.fr.ce.length : Int) ≤ b1Y pt then some none else some (some ((a6p pt).toNat, (b1Y pt).toNat))
theorem a5J {pt : Int} (h : a2X (x3 rows) pt = some none) : a4M Try.prog 165 [.ptr o.m 0 0, .int .u64 pt] (uL p o a0 a4 a6 a7 ek ev dep live rows ps rj pj) .nilp := by
 unfold a2X at h
 split at h
 ·rename_i h1; exact a9s h1
 ·rename_i h1
  split at h
  ·rename_i h2
   exact a9t (by simpa using h1) (by simpa [x3] using h2)
  ·split at h
   ·cases h
   ·rename_i h2 h3
    obtain ⟨ya, h4, h5⟩ := Option.bind_eq_some_iff.1 h
    obtain ⟨y, h6, rfl⟩ := a4O h4
    split at h5
    ·rename_i h7
     exact a9u (by simpa using h1) zO h6 h7
    ·cases h5
theorem a5K {pt : Int} {i k : Nat} (h : a2X (x3 rows) pt = some (some (i, k))) : ∃ y, rows.reverse[i]? = some y ∧ k < y.fr.ce.length ∧ a4M Try.prog 165 [.ptr o.m 0 0, .int .u64 pt] (uL p o a0 a4 a6 a7 ek ev dep live rows ps rj pj) (.ptr y.q.t 0 k) := by
 unfold a2X at h
 split at h
 ·cases h
 ·rename_i h1
  split at h
  ·cases h
  ·split at h
   ·cases h
   ·rename_i h2 h3
    obtain ⟨ya, h4, h5⟩ := Option.bind_eq_some_iff.1 h
    obtain ⟨y, h6, rfl⟩ := a4O h4
    split at h5
    ·cases h5
    ·rename_i h7
     cases h5
     exact ⟨y, h6, by omega, b1m (by simpa using h1) zO h6 zO zO⟩
theorem c1j {rows : List Row} {i : Nat} {y : Row} {R : List It} (h : rows.reverse[i]? = some y) : (y.q.t, 0, flat (avI .u64) y.fr.ce) ∈ uL p o a0 a4 a6 a7 ek ev dep live rows ps rj pj ++ R :=
 List.mem_append_left _ (.tail _ (.tail _ (.tail _ (List.mem_flatMap.2 ⟨y, by simpa using List.mem_of_getElem? h, .tail _ (.tail _ (.tail _ (.tail _ (.head _))))⟩))))
def a2i (k : Nat) (v : Int) (y : Row) : Row := { y with fr := { y.fr with ce := y.fr.ce.set k v } }
def b0n (k : Nat) (v : Int) (y : ARow) : ARow := { y with fr := { y.fr with ce := y.fr.ce.set k v } }
def a5L (l : List ARow) (i k : Nat) (v : Int) : List ARow := l.modify (l.length - 1 - i) (b0n k v)
theorem a4P {α β : Type} {f : α → β} {g : α → α} {h : β → β} (e : ∀ x, f (g x) = h (f x)) : ∀ (l : List α) (j : Nat), (l.modify j g).map f = (l.map f).modify j h
 | [], 0 => rfl
 | [], _ + 1 => rfl
 | x :: l, 0 => by simp [e]
 | x :: l, j + 1 => by simp [a4P e l j]
theorem b4Z {k : Nat} {v : Int} {R : List It} : ∀ (rows : List Row) (j : Nat) {y : Row}, rows[j]? = some y → Rp (rows.flatMap (a0c p) ++ R) (y.q.t, 0, flat (avI .u64) y.fr.ce) (y.q.t, 0, flat (avI .u64) (y.fr.ce.set k v)) ((rows.modify j (a2i k v)).flatMap (a0c p) ++ R)
 | [], _, _, h => by simp at h
 | x :: t, 0, y, h => by
   simp at h; subst h
   have e1 : (x :: t).flatMap (a0c p) ++ R = a0c p x ++ (t.flatMap (a0c p) ++ R) := by simp
   have e2 : ((x :: t).modify 0 (a2i k v)).flatMap (a0c p) ++ R = a0c p (a2i k v x) ++ (t.flatMap (a0c p) ++ R) := by simp
   rw [e1, e2]
   have e3 : a0c p (a2i k v x) = slL x ++ [(x.q.x, 0, frC p x.fr x.q), (x.q.l, 0, flat (avI .u64) x.fr.lo), (x.q.t, 0, flat (avI .u64) (x.fr.ce.set k v))] := by
    show slL x ++ [(x.q.x, 0, [AV.cptr (GP.cells p) 0, .cptr (b9.av x.fr.f).cells 0, .ref x.q.l 0 0 x.fr.lo.length none, .ref x.q.t 0 0 (x.fr.ce.set k v).length none, _, _, _, _, _, _, _, _, _, _, _, _, _, _, _]), _, _] = _
    rw [List.length_set]; rfl
   rw [e3]
   exact Rp.there (Rp.there (Rp.there (Rp.there Rp.here)))
 | x :: t, j + 1, y, h => by
   have e1 : (x :: t).flatMap (a0c p) ++ R = a0c p x ++ (t.flatMap (a0c p) ++ R) := by simp
   have e2 : ((x :: t).modify (j + 1) (a2i k v)).flatMap (a0c p) ++ R = a0c p x ++ ((t.modify j (a2i k v)).flatMap (a0c p) ++ R) := by simp
   rw [e1, e2]
   exact Rp.skip (b4Z t j (by simpa using h))
theorem b1n {k : Nat} {v : Int} (rows : List Row) (j : Nat) : a0l (rows.modify j (a2i k v)) = a0l rows := by
 unfold a0l
 rw [a4P (f := fun z : Row => AV.ptr z.s 0 0) (g := a2i k v) (h := id) (fun _ => rfl), List.modify_id]
end
end Go.Proofs.Ytnpemocpfdgaoaa

