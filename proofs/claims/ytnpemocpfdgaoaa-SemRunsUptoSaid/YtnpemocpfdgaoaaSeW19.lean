/- sem's calls: the walk, operation by operation. -/
import Derived.Test.YtnpemocpfdgaoaaSeW12
set_option linter.unusedVariables false
set_option linter.unusedSimpArgs false
namespace Go.Proofs.Ytnpemocpfdgaoaa
open Go Go.Ab
set_option maxRecDepth 20000
set_option maxHeartbeats 2000000
noncomputable def c2t : FC := fcO 148
theorem a9i : Fn3 Try.prog 148 95 [] c2t := ⟨_, _, Try.func148, rfl, rfl, rfl, by kernel_rfl⟩

section
variable {a0 a4 a6 a7 : AV} {o : UO} {p : Program} {ek ev dep live : Int} {z : Row} {r : List Row} {ps ps' : List n9} {rj pj : List AV}
theorem b3y {m r q : It} {A X R : List It} : List.Perm (([m, r] ++ A) ++ (q :: (X ++ R))) (m :: r :: q :: (A ++ (X ++ R))) := by
 simp only [List.cons_append, List.nil_append]
 exact List.Perm.cons _ (List.Perm.cons _ List.perm_middle)
theorem b3z {k im : Int} {ag : List Int} {f1 f2 : SFr} (hv : z.fr.args p k = some (ag, f1)) (hs : z.fr.st.length < 1000000000) (hb : a1e p k ag (r.length + 2) = some f2) (hn : r.length < 9999999)
  (hl : ∀ g ∈ p.Funcs, g.Locals.length < 1000000000) (hd : 0 <= dep /\ dep < 1000000000) :
  Tri Try.prog 148 [.ptr z.q.x 0 0, .ptr o.m 0 0, Instr.av ⟨23, k, im⟩] (uL p o a0 a4 a6 a7 ek ev dep live (z :: r) ps rj pj)
   (fun _ L' => ∃ rows', a1Q rows' = ⟨f2, 0, [], 0⟩ :: { z.toARow with fr := f1 } :: a1Q r /\ L' = uL p { o with rv := o.rv + 1 } a0 a4 a6 a7 ek ev (max dep ((r.length : Int) + 2)) live rows' ps [] pj) := by
 refine i8 mixed a9i zS [] (fun R S hS => ?_)
 refine aU ?_
 refine g9 ?_
 refine a0i rfl rfl ?_
 refine a0r ?_
 refine aU ?_
 refine u6 (a9g hv hs) hS rfl (.refl _) (fun x S L' hL hS => ?_)
 obtain ⟨f, q, hq, ⟨rfl, rfl⟩, rfl⟩ := hL
 refine aU ?_
 have hS2 : Ab.Sep S ((o.m, 0, [a0, mkA p, .int .i64 ek, .int .u64 ev, a4, .int .i64 dep, a6, a7, .ref o.ro o.rv 0 (r.length + 1) none, .ref o.po o.pv 0 ps.length (some 2), .int .i64 live]) :: (o.ro, o.rv, a2j ({ z with fr := f, q := q } :: r) ++ rj) :: (o.po, o.pv, flat n9.av ps.reverse ++ pj) :: (({ z with fr := f, q := q } :: r).flatMap (a1A p) ++ R)) := hS
 refine u6 (a9b (n := r.length + 1) (dep := dep) hb zO (a5R hl hb) zS hd) hS2 rfl (Spl.cons Pk.here (Spl.cons Pk.here Spl.nil)) (fun x S L' hL hS => ?_)
 obtain ⟨s, d, q2, rfl⟩ := hL
 refine aU ?_
 refine And.intro (by simp [a0q, a4A, y6, a1j]) ?_
 refine aE ?_
 refine ⟨trivial, _, rfl, _, ⟨⟨⟨f2, 0, [], 0⟩, s, d, 0, [], q2⟩ :: { z with fr := f, q := q } :: r, rfl, rfl⟩, ?_⟩
 have e1 : max dep (((r.length + 1 : Nat) : Int) + 1) = max dep ((r.length : Int) + 2) := by omega
 rw [e1] at hS
 have e2 : a2j ({ z with fr := f, q := q } :: r) ++ [AV.ptr s 0 0] = a2j (⟨⟨f2, 0, [], 0⟩, s, d, 0, [], q2⟩ :: { z with fr := f, q := q } :: r) ++ [] := by simp [a2j]
 rw [e2] at hS
 have hS5 := hS.perm (b3y (A := a1A p ⟨⟨f2, 0, [], 0⟩, s, d, 0, [], q2⟩) (X := ({ z with fr := f, q := q } :: r).flatMap (a1A p)) (R := R) : List.Perm (([_, _] ++ _) ++ (_ :: (_ ++ R))) _)
 simpa [uL, List.append_assoc] using hS5
theorem b3A {k im v pmx : Int} {st : List Int} {en : Option Int} {A' : List ARow} (hst : z.fr.st = v :: st) (hs : st.length < 1000000000)
  (hv : x8 p ({ z.toARow with fr := { z.fr with st := st } } :: a1Q r) (⟨v, false⟩ :: ps) = some (en, A', ps')) (hn : r.length < 9999999) (hp : ps.length < 9999999)
  (hl : ∀ g ∈ p.Funcs, g.Locals.length < 1000000000) (hd : 0 <= dep /\ dep < 1000000000) (hlv : ∀ y ∈ z :: r, (y.df.length : Int) <= live) (hlv2 : live < 100000000) :
  Tri Try.prog 148 [.ptr z.q.x 0 0, .ptr o.m 0 0, Instr.av ⟨26, k, im⟩] (uL p o a0 a4 a6 (.int .i64 pmx) ek ev dep live (z :: r) ps rj pj)
   (fun _ L' => ∃ rv rows' rj' pj', a1Q rows' = A' /\ L' = uL p { o with rv := rv, pv := o.pv + 1 } a0 a4 a6 (.int .i64 (max pmx ((ps.length : Int) + 1))) (if en.isSome then 2 else ek) (en.getD ev) (if en.isSome then dep else max dep (A'.length : Int)) (if en.isSome then live else live - 1) rows' ps' rj' pj') := by
 refine i8 mixed a9i zS [] (fun R S hS => ?_)
 refine aU ?_
 refine g9 ?_
 (repeat refine j4 rfl rfl ?_)
 refine a0i rfl rfl ?_
 refine aU ?_
 refine u6 (z5 hst hs) hS rfl (.refl _) (fun x S L' hL hS => ?_)
 obtain ⟨f, q, hq, ⟨rfl, rfl⟩, rfl⟩ := hL
 refine aU ?_
 refine u6 (a6z (o := o) (pmx := pmx) (v := v) (rows := { z with fr := { z.fr with st := st }, q := q } :: r) hv zE hp hl hd (fun y hy => by
  rcases List.mem_cons.1 hy with rfl | hy
  ·exact hlv z (.head _)
  ·exact hlv y (.tail _ hy)) hlv2) hS rfl (.refl _) (fun x S L' hL hS => ?_)
 refine aU ?_
 refine aE ?_
 exact ⟨trivial, _, rfl, _, hL, hS⟩
theorem b3B {k im v : Int} {st : List Int} (hst : z.fr.st = v :: st) (hs : st.length < 1000000000) :
  Tri Try.prog 148 [.ptr z.q.x 0 0, .ptr o.m 0 0, Instr.av ⟨30, k, im⟩] (uL p o a0 a4 a6 a7 ek ev dep live (z :: r) ps rj pj)
   (fun _ L' => ∃ f q, q.x = z.q.x /\ f = { z.fr with st := st } /\ L' = uL p o a0 a4 a6 a7 1 v dep live ({ z with fr := f, q := q } :: r) ps rj pj) := by
 refine i8 mixed a9i zS [] (fun R S hS => ?_)
 refine aU ?_
 refine g9 ?_
 (repeat refine j4 rfl rfl ?_)
 refine a0i rfl rfl ?_
 refine aU ?_
 refine u6 (z5 hst hs) hS rfl (.refl _) (fun x S L' hL hS => ?_)
 obtain ⟨f, q, hq, ⟨rfl, rfl⟩, rfl⟩ := hL
 refine aU ?_
 refine E_stS hS rfl (xv := .agg [.int .i64 1, .int .u64 v]) rfl Rp.here rfl rfl zV (fun S hS => ?_)
 refine aU ?_
 refine aE ?_
 exact ⟨trivial, _, rfl, _, ⟨_, q, hq, rfl, rfl⟩, hS⟩
end
end Go.Proofs.Ytnpemocpfdgaoaa

/- sem's calls: return, defer, recover. -/
namespace Go.Proofs.Ytnpemocpfdgaoaa
open Go Go.Ab
set_option maxRecDepth 20000
set_option maxHeartbeats 2000000
section
variable {a0 a4 a6 a7 : AV} {o : UO} {p : Program} {ek ev dep live : Int} {z : Row} {r : List Row} {ps ps' : List n9} {rj pj : List AV}
def a6W (f : SFr) : Option (Int × SFr) := if f.f.Result then (match f.st with | v :: st => some (v, { f with st := st }) | [] => none) else some (0, f)
theorem a3H {R : List It} : (z.q.x, 0, frC p z.fr z.q) ∈ uL p o a0 a4 a6 a7 ek ev dep live (z :: r) ps rj pj ++ R :=
 List.mem_append_left _ (.tail _ (.tail _ (.tail _ (.tail _ (.tail _ (.head _))))))
theorem b3C {k im v : Int} {f1 : SFr} {u : RO} (hr : a6W z.fr = some (v, f1)) (hs : z.fr.st.length < 1000000000) (hv : a5n p { z.toARow with fr := f1, ret := v } (a1Q r) ps = some u) (hn : r.length < 9999999) (hp : ps.length < 10000000)
  (hl : ∀ g ∈ p.Funcs, g.Locals.length < 1000000000) (hd : 0 <= dep /\ dep < 1000000000) (hlv : ∀ y ∈ z :: r, Siz live y) (hlv2 : live < 100000000) :
  Tri Try.prog 148 [.ptr z.q.x 0 0, .ptr o.m 0 0, Instr.av ⟨24, k, im⟩] (uL p o a0 a4 a6 a7 ek ev dep live (z :: r) ps rj pj)
   (fun _ L' => ∃ rv rows' rj' pj', a1Q rows' = u.A /\ L' = uL p { o with rv := rv } a0 a4 a6 a7 (u.en.elim ek (·.1)) (u.en.elim ev (·.2)) (if u.push then max dep (u.A.length : Int) else dep) (if u.push then live - 1 else live) rows' u.ps rj' pj') := by
 refine i8 mixed a9i zS [] (fun R S hS => ?_)
 refine aU ?_
 refine g9 ?_
 (repeat refine j4 rfl rfl ?_)
 refine a0i rfl rfl ?_
 refine aU ?_
 refine c9 hS rfl a3H (v := .cptr (Func.av z.fr.f).cells 0) rfl ?_
 refine aU ?_
 unfold a6W at hr
 refine E_cs (t := z.fr.f.Result) rfl (fun hq => ?_) (fun hq => ?_)
 ·rw [hq, if_pos rfl] at hr
  obtain ⟨v1, st, hst⟩ : ∃ v1 st, z.fr.st = v1 :: st := by
   cases h : z.fr.st with
   | nil => rw [h] at hr; cases hr
   | cons a l => exact ⟨a, l, rfl⟩
  rw [hst] at hr
  cases hr
  refine aU ?_
  refine u6 (z5 hst (by rw [hst] at hs; simp at hs; omega)) hS rfl (.refl _) (fun x S L' hL hS => ?_)
  obtain ⟨f, q, hq, ⟨rfl, rfl⟩, rfl⟩ := hL
  refine aU ?_
  refine u6 (a7s (z := { z with fr := { z.fr with st := st }, q := q }) hv hn hp hl hd (fun y hy => by
   rcases List.mem_cons.1 hy with rfl | hy
   ·have h := hlv z (.head _)
    exact ⟨h.1, h.2.1, by rw [hst] at hs; simp at hs; show st.length < _; omega⟩
   ·exact hlv y (.tail _ hy)) hlv2) hS rfl (.refl _) (fun x S L' hL hS => ?_)
  refine aU ?_
  refine aE ?_
  exact ⟨trivial, _, rfl, _, hL, hS⟩
 ·rw [hq, if_neg zS] at hr
  cases hr
  refine aU ?_
  refine u6 (a7s hv hn hp hl hd hlv hlv2) hS rfl (.refl _) (fun x S L' hL hS => ?_)
  refine aU ?_
  refine aE ?_
  exact ⟨trivial, _, rfl, _, hL, hS⟩
theorem b1D {m r s d q : It} {X : List It} : List.Perm (m :: r :: s :: d :: q :: X) (m :: r :: q :: s :: d :: X) :=
 List.Perm.cons _ (List.Perm.cons _ (List.perm_middle (l₁ := [s, d])))
theorem b3D {k im dfs : Int} {ag : List Int} {f1 : SFr} (hv : z.fr.args p k = some (ag, f1)) (hs : z.fr.st.length < 1000000000) (hn : r.length < 9999999) (hdf : z.df.length < 100000000) (hlv : 0 <= live /\ live < 100000000) :
  Tri Try.prog 148 [.ptr z.q.x 0 0, .ptr o.m 0 0, Instr.av ⟨25, k, im⟩] (uL p o a0 a4 (.int .i64 dfs) a7 ek ev dep live (z :: r) ps rj pj)
   (fun _ L' => ∃ rows', a1Q rows' = { z.toARow with fr := f1, df := ⟨k, ag⟩ :: z.df } :: a1Q r /\ L' = uL p o a0 a4 (.int .i64 (max dfs (live + 1))) a7 ek ev dep (live + 1) rows' ps rj pj) := by
 refine i8 mixed a9i zS [] (fun R S hS => ?_)
 refine aU ?_
 refine g9 ?_
 (repeat refine j4 rfl rfl ?_)
 refine a0i rfl rfl ?_
 refine a0r ?_
 refine aU ?_
 refine u6 (a9g hv hs) hS rfl (.refl _) (fun x S L' hL hS => ?_)
 obtain ⟨f, q, hq, ⟨rfl, rfl⟩, rfl⟩ := hL
 refine aU ?_
 have hS2 : Ab.Sep S ((o.m, 0, [a0, mkA p, .int .i64 ek, .int .u64 ev, a4, .int .i64 dep, .int .i64 dfs, a7, .ref o.ro o.rv 0 (r.length + 1) none, .ref o.po o.pv 0 ps.length (some 2), .int .i64 live]) :: (o.ro, o.rv, a2j ({ z with fr := f, q := q } :: r) ++ rj) :: (o.po, o.pv, flat n9.av ps.reverse ++ pj) ::
  (z.s, 0, [.iface 128 (.ptr q.x 0 0), .int .i64 z.why, .ref z.d z.dv 0 z.df.length (some 2), .int .u64 z.ret]) :: (z.d, z.dv, flat a0y.av z.df.reverse ++ z.dj) :: (frL p f q ++ r.flatMap (a1A p) ++ R)) := by
  simpa [uL, a1A, slL, List.append_assoc] using hS
 rw [z7] at hS2
 refine u6 (b1C (z := { z with fr := f, q := q }) (n := r.length) (rc := a2j r) (dfs := dfs) (live := live) zO zS hdf zO) hS2 rfl (Spl.cons Pk.here (Spl.cons Pk.here (Spl.cons (Pk.there Pk.here) (Spl.cons (Pk.there Pk.here) Spl.nil)))) (fun x S L' hL hS => ?_)
 subst hL
 refine aU ?_
 refine And.intro (by simp [a0q, a4A, y6, a1j]) ?_
 refine aE ?_
 refine ⟨trivial, _, rfl, _, ⟨{ z with fr := f, q := q, df := ⟨k, ag⟩ :: z.df, dv := z.dv + 1, dj := [] } :: r, rfl, rfl⟩, ?_⟩
 have hS5 := hS.perm (b1D (X := frL p f q ++ r.flatMap (a1A p) ++ R) : List.Perm (_ :: _ :: _ :: _ :: _ :: _) _)
 have e2 : a2j r ++ (AV.ptr z.s 0 0 :: rj) = a2j ({ z with fr := f, q := q, df := ⟨k, ag⟩ :: z.df, dv := z.dv + 1, dj := [] } :: r) ++ rj := by simp [a2j]
 rw [e2] at hS5
 simpa [uL, a1A, slL, List.append_assoc] using hS5
theorem b3E {k im : Int} (hs : z.fr.st.length < 100000000) (hn : r.length < 9999999) (hp : z.why = 2 -> ps ≠ []) (hpl : ps.length < 10000000) :
  Tri Try.prog 148 [.ptr z.q.x 0 0, .ptr o.m 0 0, Instr.av ⟨27, k, im⟩] (uL p o a0 a4 a6 a7 ek ev dep live (z :: r) ps rj pj)
   (fun _ L' => ∃ f q, q.x = z.q.x /\ f = { z.fr with st := (a1L z.why ps).1.2 :: (a1L z.why ps).1.1 :: z.fr.st } /\ L' = uL p o a0 a4 a6 a7 ek ev dep live ({ z with fr := f, q := q } :: r) (a1L z.why ps).2 rj pj) := by
 refine i8 mixed a9i zS [] (fun R S hS => ?_)
 refine aU ?_
 refine g9 ?_
 (repeat refine j4 rfl rfl ?_)
 refine a0i rfl rfl ?_
 refine aU ?_
 have hS2 : Ab.Sep S ((o.m, 0, [a0, mkA p, .int .i64 ek, .int .u64 ev, a4, .int .i64 dep, a6, a7, .ref o.ro o.rv 0 (r.length + 1) none, .ref o.po o.pv 0 ps.length (some 2), .int .i64 live]) :: (o.ro, o.rv, a2j (z :: r) ++ rj) :: (o.po, o.pv, flat n9.av ps.reverse ++ pj) ::
  (z.s, 0, [.iface 128 (.ptr z.q.x 0 0), .int .i64 z.why, .ref z.d z.dv 0 z.df.length (some 2), .int .u64 z.ret]) :: (z.d, z.dv, flat a0y.av z.df.reverse ++ z.dj) :: (frL p z.fr z.q ++ r.flatMap (a1A p) ++ R)) := by
  simpa [uL, a1A, slL, List.append_assoc] using hS
 rw [z7] at hS2
 refine u6 (a9T (z := z) (n := r.length) (rc := a2j r) (pans := ps) zO zS hp zO) hS2 rfl (Spl.cons Pk.here (Spl.cons Pk.here (Spl.cons Pk.here (Spl.cons Pk.here (Spl.cons Pk.here Spl.nil))))) (fun x S L' hL hS => ?_)
 obtain ⟨rfl, rfl⟩ := hL
 have hrl : (a1L z.why ps).2.length = ps.length := by
  unfold a1L
  cases ps with
  | nil => rfl
  | cons x l => dsimp only; split <;> rfl
 rw [<- hrl, <- z7] at hS
 have hS3 : Ab.Sep S (uL p o a0 a4 a6 a7 ek ev dep live (z :: r) (a1L z.why ps).2 rj pj ++ R) := by
  simpa [uL, a1A, slL, List.append_assoc] using hS
 refine aU ?_
 refine u6 (a1B (ex := true) (vs := [(a1L z.why ps).1.1, (a1L z.why ps).1.2]) zO zS) hS3 rfl (.refl _) (fun x S L' hL hS => ?_)
 refine aU ?_
 refine aE ?_
 exact ⟨trivial, _, rfl, _, hL, hS⟩
end
end Go.Proofs.Ytnpemocpfdgaoaa

/- sem's calls: reckoning. -/
namespace Go.Proofs.Ytnpemocpfdgaoaa
open Go Go.Ab
set_option maxRecDepth 20000
set_option maxHeartbeats 2000000
section
variable {a0 a4 a6 a7 : AV} {o : UO} {p : Program} {ek ev dep live : Int} {z : Row} {r : List Row} {ps ps' : List n9} {rj pj : List AV}
def b0Z (op : Int) : Prop := (op == 23) = false /\ (op == 25) = false /\ (op == 24) = false /\ (op == 26) = false /\ (op == 27) = false /\ (op == 30) = false
theorem b3F {op k im a b v : Int} {st : List Int} (hop : b0Z op) (hst : z.fr.st = b :: a :: st) (hs : st.length < 100000000) (hv : a0w op a b = some (v, 0)) :
  Tri Try.prog 148 [.ptr z.q.x 0 0, .ptr o.m 0 0, Instr.av ⟨op, k, im⟩] (uL p o a0 a4 a6 a7 ek ev dep live (z :: r) ps rj pj)
   (fun _ L' => ∃ f q, q.x = z.q.x /\ f = { z.fr with st := v :: st } /\ L' = uL p o a0 a4 a6 a7 ek ev dep live ({ z with fr := f, q := q } :: r) ps rj pj) := by
 obtain ⟨o1, o2, o3, o4, o5, o6⟩ := hop
 refine i8 mixed a9i zS [] (fun R S hS => ?_)
 refine aU ?_
 refine g9 ?_
 refine j4 rfl o1 (j4 rfl o2 (j4 rfl o3 (j4 rfl o4 (j4 rfl o5 (j4 rfl o6 (?_))))))
 refine aU ?_
 refine u6 (z5 hst zE) hS rfl (.refl _) (fun x S L' hL hS => ?_)
 obtain ⟨f, q, hq, ⟨rfl, rfl⟩, rfl⟩ := hL
 refine aU ?_
 refine u6 (z5 (z := { z with fr := { z.fr with st := a :: st }, q := q }) (v := a) (st := st) rfl zO) hS (by show [AV.ptr z.q.x 0 0] = [AV.ptr q.x 0 0]; rw [hq]) (.refl _) (fun x S L' hL hS => ?_)
 obtain ⟨f, q2, hq2, ⟨rfl, rfl⟩, rfl⟩ := hL
 refine aU ?_
 refine a2c (a7p hv) rfl rfl rfl ?_
 refine aU ?_
 refine E_cs (t := false) rfl (fun h => by cases h) (fun _ => ?_)
 refine aU ?_
 refine u6 (a1B (z := { z with fr := { z.fr with st := st }, q := q2 }) (ex := true) (vs := [v]) (by show st.length < _; omega) zS) hS (by show [AV.ptr z.q.x 0 0, _] = [AV.ptr q2.x 0 0, _]; rw [hq2, <- hq]; rfl) (.refl _) (fun x S L' hL hS => ?_)
 obtain ⟨f, q3, hq3, rfl, rfl⟩ := hL
 refine aU ?_
 refine aE ?_
 exact ⟨trivial, _, rfl, _, ⟨_, q3, (hq3.trans hq2).trans hq, rfl, rfl⟩, hS⟩
theorem b3G {op k im a b v e pmx : Int} {st : List Int} {en : Option Int} {A' : List ARow} (hop : b0Z op) (hst : z.fr.st = b :: a :: st) (hs : st.length < 100000000) (hw : a0w op a b = some (v, e)) (he : e ≠ 0)
  (hv : x8 p ({ z.toARow with fr := { z.fr with st := st } } :: a1Q r) (⟨18446744073709551615, false⟩ :: ps) = some (en, A', ps')) (hn : r.length < 9999999) (hp : ps.length < 9999999)
  (hl : ∀ g ∈ p.Funcs, g.Locals.length < 1000000000) (hd : 0 <= dep /\ dep < 1000000000) (hlv : ∀ y ∈ z :: r, (y.df.length : Int) <= live) (hlv2 : live < 100000000) :
  Tri Try.prog 148 [.ptr z.q.x 0 0, .ptr o.m 0 0, Instr.av ⟨op, k, im⟩] (uL p o a0 a4 a6 (.int .i64 pmx) ek ev dep live (z :: r) ps rj pj)
   (fun _ L' => ∃ rv rows' rj' pj', a1Q rows' = A' /\ L' = uL p { o with rv := rv, pv := o.pv + 1 } a0 a4 a6 (.int .i64 (max pmx ((ps.length : Int) + 1))) (if en.isSome then 2 else ek) (en.getD ev) (if en.isSome then dep else max dep (A'.length : Int)) (if en.isSome then live else live - 1) rows' ps' rj' pj') := by
 obtain ⟨o1, o2, o3, o4, o5, o6⟩ := hop
 refine i8 mixed a9i zS [] (fun R S hS => ?_)
 refine aU ?_
 refine g9 ?_
 refine j4 rfl o1 (j4 rfl o2 (j4 rfl o3 (j4 rfl o4 (j4 rfl o5 (j4 rfl o6 (?_))))))
 refine aU ?_
 refine u6 (z5 hst zE) hS rfl (.refl _) (fun x S L' hL hS => ?_)
 obtain ⟨f, q, hq, ⟨rfl, rfl⟩, rfl⟩ := hL
 refine aU ?_
 refine u6 (z5 (z := { z with fr := { z.fr with st := a :: st }, q := q }) (v := a) (st := st) rfl zO) hS (by show [AV.ptr z.q.x 0 0] = [AV.ptr q.x 0 0]; rw [hq]) (.refl _) (fun x S L' hL hS => ?_)
 obtain ⟨f, q2, hq2, ⟨rfl, rfl⟩, rfl⟩ := hL
 refine aU ?_
 refine a2c (a7p hw) rfl rfl rfl ?_
 refine aU ?_
 refine E_cs (t := true) (by show AV.bool (e != 0) = _; rw [show (e != 0) = true by simpa using he]) (fun _ => ?_) (fun h => by cases h)
 refine aU ?_
 refine u6 (a6z (o := o) (pmx := pmx) (v := 18446744073709551615) (rows := { z with fr := { z.fr with st := st }, q := q2 } :: r) hv zE hp hl hd (fun y hy => by
  rcases List.mem_cons.1 hy with rfl | hy
  ·exact hlv z (.head _)
  ·exact hlv y (.tail _ hy)) hlv2) hS rfl (.refl _) (fun x S L' hL hS => ?_)
 refine aU ?_
 refine d8 ?_
 refine aE ?_
 exact ⟨trivial, _, rfl, _, hL, hS⟩
end
end Go.Proofs.Ytnpemocpfdgaoaa

/- sem.frame's Step: what comes ahead of its operations. -/
namespace Go.Proofs.Ytnpemocpfdgaoaa
open Go Go.Ab
set_option maxRecDepth 20000
set_option maxHeartbeats 2000000
noncomputable def b7O : FC := fcO 142
noncomputable def b7P : FC := pR (pR b7O)
theorem a4O : Fn3 Try.prog 142 136 [] b7O := ⟨_, _, Try.func142, rfl, rfl, rfl, by kernel_rfl⟩

section
variable {a0 a4 a6 a7 : AV} {o : UO} {p : Program} {ek ev dep live : Int} {z : Row} {r : List Row} {ps ps' : List n9} {rj pj : List AV}
theorem a0l {i : Instr} {R : List It} {S : List Ob} {K : Post} (hi : j7 z.fr.f.Code z.fr.pc = some i) (hpc : z.fr.pc < 4611686018427387904) (hS : Ab.Sep S (uL p o a0 a4 a6 a7 ek ev dep live (z :: r) ps rj pj ++ R))
  (h : ∀ oi S', Ab.Sep S' (uL p o a0 a4 a6 a7 ek ev dep live ({ z with fr := { z.fr with pc := z.fr.pc + 1 } } :: r) ps rj pj ++ ((oi, 0, i.cells) :: R)) -> VT Try.prog S [4] b7P [(0, .ptr z.q.x 0 0), (1, .ptr o.m 0 0), (4, .ptr oi 0 0)] S' K) :
  VT Try.prog S [4] b7O (a2a 0 [.ptr z.q.x 0 0, .ptr o.m 0 0]) S K := by
 have hi0 := (d9 hi).1
 refine v7 ?_
 refine a0r ?_
 refine aS ?_
 refine c9 hS rfl a3H (v := .cptr (Func.av z.fr.f).cells 0) rfl ?_
 refine aU ?_
 refine c9 hS rfl a3H (v := .int .i64 z.fr.pc) rfl ?_
 refine aU ?_
 refine l8 (esh := some 3) (f := Instr.av) (ys := z.fr.f.Code) (y := i) rfl rfl hi ?_
 refine aU ?_
 have hlt : z.q.x < S.length := hS.lt a3H
 refine a5G hS rfl (fun oi S1 hS1 => ?_)
 have hne : z.q.x ≠ oi := fun e => (List.nodup_cons.1 hS1.2).1 (by rw [<- e]; exact List.mem_map.2 ⟨_, a3H, rfl⟩)
 refine E_stS hS1 rfl (xv := i.av) rfl Rp.here rfl rfl zV (fun S1 hS1 => ?_)
 refine j8 ?_
 refine And.intro (by simp [a0q, a4A, y6, a1j, hne, Ne.symm hne]) ?_
 refine y4 ?_
 refine v7 ?_
 refine m7 ?_
 refine aS ?_
 refine c9 hS1 rfl (.tail _ a3H) (v := .int .i64 z.fr.pc) rfl ?_
 refine aS ?_
 have hS2 : Ab.Sep S1 ((oi, 0, i.cells) :: (o.m, 0, [a0, mkA p, .int .i64 ek, .int .u64 ev, a4, .int .i64 dep, a6, a7, .ref o.ro o.rv 0 (r.length + 1) none, .ref o.po o.pv 0 ps.length (some 2), .int .i64 live]) :: (o.ro, o.rv, a2j (z :: r) ++ rj) :: (o.po, o.pv, flat n9.av ps.reverse ++ pj) ::
  (z.s, 0, [.iface 128 (.ptr z.q.x 0 0), .int .i64 z.why, .ref z.d z.dv 0 z.df.length (some 2), .int .u64 z.ret]) :: (z.d, z.dv, flat a0y.av z.df.reverse ++ z.dj) :: (z.q.x, 0, frC p z.fr z.q) :: ([(z.q.l, 0, flat (avI .u64) z.fr.lo), (z.q.t, z.q.tv, flat (avI .u64) z.fr.st.reverse ++ z.q.tj)] ++ r.flatMap (a1A p) ++ R)) := hS1
 refine E_stS hS2 rfl (xv := .int .i64 (z.fr.pc + 1)) (by show AV.int .i64 (IntKind.i64.wrap (z.fr.pc + 1)) = _; rw [q9 zO]) (Rp.there (Rp.there (Rp.there (Rp.there (Rp.there (Rp.there Rp.here)))))) rfl rfl zV (fun S2 hS3 => ?_)
 refine j8 ?_
 exact a4F (F := [(0, .ptr z.q.x 0 0), (1, .ptr o.m 0 0), (4, .ptr oi 0 0)]) wF (h oi S2 (Sep.perm (L := (oi, 0, i.cells) :: (uL p o a0 a4 a6 a7 ek ev dep live ({ z with fr := { z.fr with pc := z.fr.pc + 1 } } :: r) ps rj pj ++ R)) hS3 List.perm_middle.symm))
theorem a1J {oi : It} {A R : List It} {S : List Ob} (h : Ab.Sep S (A ++ (oi :: R))) : Ab.Sep S (A ++ R) := h.sub (List.Sublist.append_left (List.sublist_cons_self _ _) _)
def a4P (op : Int) : Prop := (op == 1) = false /\ (op == 2) = false /\ (op == 3) = false /\ (op == 4) = false /\ (op == 5) = false /\ (op == 6) = false /\ (op == 21) = false /\ (op == 22) = false /\ (op == 31) = false /\ (op == 32) = false /\ (op == 28) = false /\ (op == 29) = false
theorem a1C {i : Instr} {Q : List It -> Prop} (hi : j7 z.fr.f.Code z.fr.pc = some i) (hpc : z.fr.pc < 4611686018427387904) (hop : a4P i.Op)
  (c : Tri Try.prog 148 [.ptr z.q.x 0 0, .ptr o.m 0 0, i.av] (uL p o a0 a4 a6 a7 ek ev dep live ({ z with fr := { z.fr with pc := z.fr.pc + 1 } } :: r) ps rj pj) (fun _ L' => Q L')) :
  Tri Try.prog 142 [.ptr z.q.x 0 0, .ptr o.m 0 0] (uL p o a0 a4 a6 a7 ek ev dep live (z :: r) ps rj pj) (fun _ L' => Q L') := by
 obtain ⟨o1, o2, o3, o4, o5, o6, o7, o8, o9, o10, o11, o12⟩ := hop
 refine i8 mixed a4O zS [4] (fun R S hS => a0l hi hpc hS (fun oi S hS => ?_))
 refine aU ?_
 refine c9 hS rfl (List.mem_append_right _ (.head _)) (v := .int .u8 i.Op) rfl ?_
 refine aU ?_
 refine g9 ?_
 refine j4 rfl o1 (j4 rfl o2 (j4 rfl o3 (j4 rfl o4 (j4 rfl o5 (j4 rfl o6 (j4 rfl o7 (j4 rfl o8 (j4 rfl o9 (j4 rfl o10 (j4 rfl o11 (j4 rfl o12 (?_))))))))))))
 refine aU ?_
 refine c9 hS rfl (List.mem_append_right _ (.head _)) (v := i.av) rfl ?_
 refine aU ?_
 refine u6 c hS rfl (.refl _) (fun x S L' hL hS => ?_)
 refine aU ?_
 refine aE ?_
 exact ⟨trivial, _, rfl, _, hL, a1J hS⟩
end
end Go.Proofs.Ytnpemocpfdgaoaa

/- sem.frame's Step, operation by operation (printed by mkW17.py). -/
namespace Go.Proofs.Ytnpemocpfdgaoaa
open Go Go.Ab
set_option maxRecDepth 20000
set_option maxHeartbeats 2000000
section
variable {a0 a4 a6 a7 : AV} {o : UO} {p : Program} {ek ev dep live : Int} {z : Row} {r : List Row} {ps ps' : List n9} {rj pj : List AV}
theorem b3H {k im : Int} (hi : j7 z.fr.f.Code z.fr.pc = some ⟨1, k, im⟩) (hpc : z.fr.pc < 4611686018427387904) (hs : z.fr.st.length < 100000000) :
  Tri Try.prog 142 [.ptr z.q.x 0 0, .ptr o.m 0 0] (uL p o a0 a4 a6 a7 ek ev dep live (z :: r) ps rj pj) (fun _ L' => ∃ f q, q.x = z.q.x /\ f = { z.fr with pc := z.fr.pc + 1, st := im :: z.fr.st } /\ L' = uL p o a0 a4 a6 a7 ek ev dep live ({ z with fr := f, q := q } :: r) ps rj pj) := by
 refine i8 mixed a4O zS [4] (fun R S hS => a0l hi hpc hS (fun oi S hS => ?_))
 refine aU ?_
 refine c9 hS rfl (List.mem_append_right _ (.head _)) (v := .int .u8 1) rfl ?_
 refine aU ?_
 refine g9 ?_
 (repeat refine j4 rfl rfl ?_)
 refine a0i rfl rfl ?_
 refine aU ?_
 refine c9 hS rfl (List.mem_append_right _ (.head _)) (v := .int .u64 im) rfl ?_
 refine aU ?_
 refine u6 (a1B (z := { z with fr := { z.fr with pc := z.fr.pc + 1 } }) (ex := true) (vs := [im]) (by show z.fr.st.length < _; omega) zS) hS rfl (.refl _) (fun x S L' hL hS => ?_)
 obtain ⟨f, q, hq, rfl, rfl⟩ := hL
 refine aU ?_
 refine aE ?_
 exact ⟨trivial, _, rfl, _, ⟨_, q, hq, rfl, rfl⟩, a1J hS⟩
theorem b3I {k im : Int} {v : Int} (hi : j7 z.fr.f.Code z.fr.pc = some ⟨2, k, im⟩) (hpc : z.fr.pc < 4611686018427387904) (hs : z.fr.st.length < 100000000) (hv : j7 z.fr.lo k = some v) :
  Tri Try.prog 142 [.ptr z.q.x 0 0, .ptr o.m 0 0] (uL p o a0 a4 a6 a7 ek ev dep live (z :: r) ps rj pj) (fun _ L' => ∃ f q, q.x = z.q.x /\ f = { z.fr with pc := z.fr.pc + 1, st := v :: z.fr.st } /\ L' = uL p o a0 a4 a6 a7 ek ev dep live ({ z with fr := f, q := q } :: r) ps rj pj) := by
 refine i8 mixed a4O zS [4] (fun R S hS => a0l hi hpc hS (fun oi S hS => ?_))
 refine aU ?_
 refine c9 hS rfl (List.mem_append_right _ (.head _)) (v := .int .u8 2) rfl ?_
 refine aU ?_
 refine g9 ?_
 (repeat refine j4 rfl rfl ?_)
 refine a0i rfl rfl ?_
 refine aU ?_
 refine c9 hS rfl a3H (v := .ref z.q.l 0 0 z.fr.lo.length none) rfl ?_
 refine aU ?_
 refine c9 hS rfl (List.mem_append_right _ (.head _)) (v := .int .i64 k) rfl ?_
 refine aU ?_
 obtain ⟨h1, h2, h3⟩ := d9 hv
 refine p6 rfl rfl k.toNat zO zO ?_
 refine a7m hS (f7 .u64) rfl (List.mem_append_left _ (.tail _ (.tail _ (.tail _ (.tail _ (.tail _ (.tail _ (.head _)))))))) (n := k.toNat) (fo := 0) (y := v) (by simp [f5]) h3 (v := .int .u64 v) rfl ?_
 refine aU ?_
 refine u6 (a1B (z := { z with fr := { z.fr with pc := z.fr.pc + 1 } }) (ex := true) (vs := [v]) (by show z.fr.st.length < _; omega) zS) hS rfl (.refl _) (fun x S L' hL hS => ?_)
 obtain ⟨f, q, hq, rfl, rfl⟩ := hL
 refine aU ?_
 refine aE ?_
 exact ⟨trivial, _, rfl, _, ⟨_, q, hq, rfl, rfl⟩, a1J hS⟩
theorem b3J {k im : Int} (hi : j7 z.fr.f.Code z.fr.pc = some ⟨4, k, im⟩) (hpc : z.fr.pc < 4611686018427387904) (hs : z.fr.st.length < 100000000) :
  Tri Try.prog 142 [.ptr z.q.x 0 0, .ptr o.m 0 0] (uL p o a0 a4 a6 a7 ek ev dep live (z :: r) ps rj pj) (fun _ L' => ∃ f q, q.x = z.q.x /\ f = { z.fr with pc := z.fr.pc + 1, st := a8s z.fr.nu k :: z.fr.st } /\ L' = uL p o a0 a4 a6 a7 ek ev dep live ({ z with fr := f, q := q } :: r) ps rj pj) := by
 refine i8 mixed a4O zS [4] (fun R S hS => a0l hi hpc hS (fun oi S hS => ?_))
 refine aU ?_
 refine c9 hS rfl (List.mem_append_right _ (.head _)) (v := .int .u8 4) rfl ?_
 refine aU ?_
 refine g9 ?_
 (repeat refine j4 rfl rfl ?_)
 refine a0i rfl rfl ?_
 refine aU ?_
 refine c9 hS rfl a3H (v := .int .i64 z.fr.nu) rfl ?_
 refine aU ?_
 refine c9 hS rfl (List.mem_append_right _ (.head _)) (v := .int .i64 k) rfl ?_
 refine aU ?_
 refine b7H (a9U (a := z.fr.nu) (b := k)) hS rfl Spl.nil ?_
 refine aU ?_
 refine u6 (a1B (z := { z with fr := { z.fr with pc := z.fr.pc + 1 } }) (ex := true) (vs := [a8s z.fr.nu k]) (by show z.fr.st.length < _; omega) zS) hS rfl (.refl _) (fun x S L' hL hS => ?_)
 obtain ⟨f, q, hq, rfl, rfl⟩ := hL
 refine aU ?_
 refine aE ?_
 exact ⟨trivial, _, rfl, _, ⟨_, q, hq, rfl, rfl⟩, a1J hS⟩
theorem b1E {k im : Int} {v : Int} {st : List Int} (hi : j7 z.fr.f.Code z.fr.pc = some ⟨31, k, im⟩) (hpc : z.fr.pc < 4611686018427387904) (hst : z.fr.st = v :: st) (hs : st.length < 100000000) :
  Tri Try.prog 142 [.ptr z.q.x 0 0, .ptr o.m 0 0] (uL p o a0 a4 a6 a7 ek ev dep live (z :: r) ps rj pj) (fun _ L' => ∃ f q, q.x = z.q.x /\ f = { z.fr with pc := z.fr.pc + 1, st := st } /\ L' = uL p o a0 a4 a6 a7 ek ev dep live ({ z with fr := f, q := q } :: r) ps rj pj) := by
 refine i8 mixed a4O zS [4] (fun R S hS => a0l hi hpc hS (fun oi S hS => ?_))
 refine aU ?_
 refine c9 hS rfl (List.mem_append_right _ (.head _)) (v := .int .u8 31) rfl ?_
 refine aU ?_
 refine g9 ?_
 (repeat refine j4 rfl rfl ?_)
 refine a0i rfl rfl ?_
 refine aU ?_
 refine u6 (z5 (z := { z with fr := { z.fr with pc := z.fr.pc + 1 } }) hst zO) hS rfl (.refl _) (fun x S L' hL hS => ?_)
 obtain ⟨f, q, hq, ⟨rfl, rfl⟩, rfl⟩ := hL
 refine aU ?_
 refine aE ?_
 exact ⟨trivial, _, rfl, _, ⟨_, q, hq, rfl, rfl⟩, a1J hS⟩
theorem b9S {k : Int} {R : List It} : Rp (uL p o a0 a4 a6 a7 ek ev dep live (z :: r) ps rj pj ++ R) (z.q.x, 0, frC p z.fr z.q) (z.q.x, 0, splice (frC p z.fr z.q) (0 + 4) [.int .i64 k]) (uL p o a0 a4 a6 a7 ek ev dep live ({ z with fr := { z.fr with pc := k } } :: r) ps rj pj ++ R) :=
 Rp.there (Rp.there (Rp.there (Rp.there (Rp.there Rp.here))))
theorem b1F {k im : Int} (hi : j7 z.fr.f.Code z.fr.pc = some ⟨21, k, im⟩) (hpc : z.fr.pc < 4611686018427387904) :
  Tri Try.prog 142 [.ptr z.q.x 0 0, .ptr o.m 0 0] (uL p o a0 a4 a6 a7 ek ev dep live (z :: r) ps rj pj) (fun _ L' => ∃ f q, q.x = z.q.x /\ f = { z.fr with pc := k } /\ L' = uL p o a0 a4 a6 a7 ek ev dep live ({ z with fr := f, q := q } :: r) ps rj pj) := by
 refine i8 mixed a4O zS [4] (fun R S hS => a0l hi hpc hS (fun oi S hS => ?_))
 refine aU ?_
 refine c9 hS rfl (List.mem_append_right _ (.head _)) (v := .int .u8 21) rfl ?_
 refine aU ?_
 refine g9 ?_
 (repeat refine j4 rfl rfl ?_)
 refine a0i rfl rfl ?_
 refine aU ?_
 refine c9 hS rfl (List.mem_append_right _ (.head _)) (v := .int .i64 k) rfl ?_
 refine aU ?_
 refine E_stS hS rfl (xv := .int .i64 k) rfl (b9S (k := k)) rfl rfl zV (fun S hS => ?_)
 refine aU ?_
 refine aE ?_
 exact ⟨trivial, _, rfl, _, ⟨_, z.q, rfl, rfl, rfl⟩, a1J hS⟩
theorem a9W {k im : Int} {st : List Int} (hi : j7 z.fr.f.Code z.fr.pc = some ⟨22, k, im⟩) (hpc : z.fr.pc < 4611686018427387904) (hst : z.fr.st = 0 :: st) (hs : st.length < 100000000) :
  Tri Try.prog 142 [.ptr z.q.x 0 0, .ptr o.m 0 0] (uL p o a0 a4 a6 a7 ek ev dep live (z :: r) ps rj pj) (fun _ L' => ∃ f q, q.x = z.q.x /\ f = { z.fr with pc := k, st := st } /\ L' = uL p o a0 a4 a6 a7 ek ev dep live ({ z with fr := f, q := q } :: r) ps rj pj) := by
 refine i8 mixed a4O zS [4] (fun R S hS => a0l hi hpc hS (fun oi S hS => ?_))
 refine aU ?_
 refine c9 hS rfl (List.mem_append_right _ (.head _)) (v := .int .u8 22) rfl ?_
 refine aU ?_
 refine g9 ?_
 (repeat refine j4 rfl rfl ?_)
 refine a0i rfl rfl ?_
 refine aU ?_
 refine u6 (z5 (z := { z with fr := { z.fr with pc := z.fr.pc + 1 } }) hst zO) hS rfl (.refl _) (fun x S L' hL hS => ?_)
 obtain ⟨f, q, hq, ⟨rfl, rfl⟩, rfl⟩ := hL
 refine aU ?_
 refine E_cs (t := true) rfl (fun _ => ?_) (fun h => by cases h)
 refine aU ?_
 refine c9 hS rfl (List.mem_append_right _ (.head _)) (v := .int .i64 k) rfl ?_
 refine aU ?_
 refine E_stS hS (by show AV.ptr z.q.x 0 (0 + 4) = AV.ptr q.x 0 (0 + 4); rw [hq]) (xv := .int .i64 k) rfl (b9S (k := k)) rfl rfl zV (fun S hS => ?_)
 refine aU ?_
 refine aE ?_
 exact ⟨trivial, _, rfl, _, ⟨_, q, hq, rfl, rfl⟩, a1J hS⟩
theorem a9X {k im : Int} {v : Int} {st : List Int} (hi : j7 z.fr.f.Code z.fr.pc = some ⟨22, k, im⟩) (hpc : z.fr.pc < 4611686018427387904) (hst : z.fr.st = v :: st) (hv : (v == 0) = false) (hs : st.length < 100000000) :
  Tri Try.prog 142 [.ptr z.q.x 0 0, .ptr o.m 0 0] (uL p o a0 a4 a6 a7 ek ev dep live (z :: r) ps rj pj) (fun _ L' => ∃ f q, q.x = z.q.x /\ f = { z.fr with pc := z.fr.pc + 1, st := st } /\ L' = uL p o a0 a4 a6 a7 ek ev dep live ({ z with fr := f, q := q } :: r) ps rj pj) := by
 refine i8 mixed a4O zS [4] (fun R S hS => a0l hi hpc hS (fun oi S hS => ?_))
 refine aU ?_
 refine c9 hS rfl (List.mem_append_right _ (.head _)) (v := .int .u8 22) rfl ?_
 refine aU ?_
 refine g9 ?_
 (repeat refine j4 rfl rfl ?_)
 refine a0i rfl rfl ?_
 refine aU ?_
 refine u6 (z5 (z := { z with fr := { z.fr with pc := z.fr.pc + 1 } }) hst zO) hS rfl (.refl _) (fun x S L' hL hS => ?_)
 obtain ⟨f, q, hq, ⟨rfl, rfl⟩, rfl⟩ := hL
 refine aU ?_
 refine E_cs (t := false) (by show AV.bool (v == 0) = _; rw [hv]) (fun h => by cases h) (fun _ => ?_)
 refine aU ?_
 refine aE ?_
 exact ⟨trivial, _, rfl, _, ⟨_, q, hq, rfl, rfl⟩, a1J hS⟩
theorem b1G {k im : Int} {v : Int} {st : List Int} (hi : j7 z.fr.f.Code z.fr.pc = some ⟨32, k, im⟩) (hpc : z.fr.pc < 4611686018427387904) (hst : z.fr.st = v :: st) (hs : st.length < 100000000) :
  Tri Try.prog 142 [.ptr z.q.x 0 0, .ptr o.m 0 0] (uL p o a0 a4 a6 a7 ek ev dep live (z :: r) ps rj pj) (fun _ L' => ∃ f q, q.x = z.q.x /\ f = { z.fr with pc := z.fr.pc + 1, st := v :: v :: st } /\ L' = uL p o a0 a4 a6 a7 ek ev dep live ({ z with fr := f, q := q } :: r) ps rj pj) := by
 refine i8 mixed a4O zS [4] (fun R S hS => a0l hi hpc hS (fun oi S hS => ?_))
 refine aU ?_
 refine c9 hS rfl (List.mem_append_right _ (.head _)) (v := .int .u8 32) rfl ?_
 refine aU ?_
 refine g9 ?_
 (repeat refine j4 rfl rfl ?_)
 refine a0i rfl rfl ?_
 refine aU ?_
 refine u6 (z5 (z := { z with fr := { z.fr with pc := z.fr.pc + 1 } }) hst zO) hS rfl (.refl _) (fun x S L' hL hS => ?_)
 obtain ⟨f, q, hq, ⟨rfl, rfl⟩, rfl⟩ := hL
 refine aU ?_
 refine u6 (a1B (z := { z with fr := { z.fr with pc := z.fr.pc + 1, st := st }, q := q }) (ex := true) (vs := [v, v]) (by show st.length < _; omega) zS) hS (by show [AV.ptr z.q.x 0 0, _] = [AV.ptr q.x 0 0, _]; rw [hq]; rfl) (.refl _) (fun x S L' hL hS => ?_)
 obtain ⟨f, q2, hq2, rfl, rfl⟩ := hL
 refine aU ?_
 refine aE ?_
 exact ⟨trivial, _, rfl, _, ⟨_, q2, hq2.trans hq, rfl, rfl⟩, a1J hS⟩
theorem a9j {k im : Int} {Q : List It -> Prop} (hi : j7 z.fr.f.Code z.fr.pc = some ⟨5, k, im⟩) (hpc : z.fr.pc < 4611686018427387904)
  (c : Tri Try.prog 146 [.ptr z.q.x 0 0, .ptr o.m 0 0, .int .u64 0, .bool false] (uL p o a0 a4 a6 a7 ek ev dep live ({ z with fr := { z.fr with pc := z.fr.pc + 1 } } :: r) ps rj pj) (fun _ L' => Q L')) :
  Tri Try.prog 142 [.ptr z.q.x 0 0, .ptr o.m 0 0] (uL p o a0 a4 a6 a7 ek ev dep live (z :: r) ps rj pj) (fun _ L' => Q L') := by
 refine i8 mixed a4O zS [4] (fun R S hS => a0l hi hpc hS (fun oi S hS => ?_))
 refine aU ?_
 refine c9 hS rfl (List.mem_append_right _ (.head _)) (v := .int .u8 5) rfl ?_
 refine aU ?_
 refine g9 ?_
 (repeat refine j4 rfl rfl ?_)
 refine a0i rfl rfl ?_
 refine aU ?_
 refine u6 c hS rfl (.refl _) (fun x S L' hL hS => ?_)
 refine aU ?_
 refine aE ?_
 exact ⟨trivial, _, rfl, _, hL, a1J hS⟩
theorem a9k {k im v : Int} {st : List Int} {Q : List It -> Prop} (hi : j7 z.fr.f.Code z.fr.pc = some ⟨6, k, im⟩) (hpc : z.fr.pc < 4611686018427387904) (hst : z.fr.st = v :: st) (hs : st.length < 100000000)
  (c : ∀ q : FO, q.x = z.q.x -> Tri Try.prog 146 [.ptr z.q.x 0 0, .ptr o.m 0 0, .int .u64 v, .bool true] (uL p o a0 a4 a6 a7 ek ev dep live ({ z with fr := { z.fr with pc := z.fr.pc + 1, st := st }, q := q } :: r) ps rj pj) (fun _ L' => Q L')) :
  Tri Try.prog 142 [.ptr z.q.x 0 0, .ptr o.m 0 0] (uL p o a0 a4 a6 a7 ek ev dep live (z :: r) ps rj pj) (fun _ L' => Q L') := by
 refine i8 mixed a4O zS [4] (fun R S hS => a0l hi hpc hS (fun oi S hS => ?_))
 refine aU ?_
 refine c9 hS rfl (List.mem_append_right _ (.head _)) (v := .int .u8 6) rfl ?_
 refine aU ?_
 refine g9 ?_
 (repeat refine j4 rfl rfl ?_)
 refine a0i rfl rfl ?_
 refine aU ?_
 refine u6 (z5 (z := { z with fr := { z.fr with pc := z.fr.pc + 1 } }) hst zO) hS rfl (.refl _) (fun x S L' hL hS => ?_)
 obtain ⟨f, q, hq, ⟨rfl, rfl⟩, rfl⟩ := hL
 refine aU ?_
 refine u6 (c q hq) hS rfl (.refl _) (fun x S L' hL hS => ?_)
 refine aU ?_
 refine aE ?_
 exact ⟨trivial, _, rfl, _, hL, a1J hS⟩
theorem b1H {k im : Int} {tr te tv : Nat} {tape : List Int} {evs : List i9} (hi : j7 z.fr.f.Code z.fr.pc = some ⟨28, k, im⟩) (hpc : z.fr.pc < 4611686018427387904) (hs : z.fr.st.length < 100000000) (hl : evs.length < 1000000000) :
  Tri Try.prog 142 [.ptr z.q.x 0 0, .ptr o.m 0 0] (uL p o (.ptr tr 0 0) a4 a6 a7 ek ev dep live (z :: r) ps rj pj ++ [(tr, 0, [.sl false 1 (tape.map (avI .u64)), .ref te tv 0 evs.length (some 2)]), (te, tv, flat i9.av evs)])
   (fun _ L' => ∃ f q, q.x = z.q.x /\ f = { z.fr with pc := z.fr.pc + 1, st := inV tape :: z.fr.st } /\ L' = uL p o (.ptr tr 0 0) a4 a6 a7 ek ev dep live ({ z with fr := f, q := q } :: r) ps rj pj ++ [(tr, 0, [.sl false 1 (tape.tail.map (avI .u64)), .ref te (tv + 1) 0 (evs ++ [(⟨2, inV tape⟩ : i9)]).length (some 2)]), (te, tv + 1, flat i9.av (evs ++ [(⟨2, inV tape⟩ : i9)]))]) := by
 refine i8 mixed a4O zS [4] (fun R S hS => a0l hi hpc (by rw [List.append_assoc] at hS; exact hS) (fun oi S hS => ?_))
 refine aU ?_
 refine c9 hS rfl (List.mem_append_right _ (.head _)) (v := .int .u8 28) rfl ?_
 refine aU ?_
 refine g9 ?_
 (repeat refine j4 rfl rfl ?_)
 refine a0i rfl rfl ?_
 refine aU ?_
 refine c9 hS rfl (.head _) (v := .ptr tr 0 0) rfl ?_
 refine aU ?_
 refine u6 (b9J (tape := tape) (evs := evs) (te := te) (tv := tv) hl) hS rfl (Spl.cons (Pk.skip (Pk.there Pk.here)) (Spl.cons (Pk.skip (Pk.there Pk.here)) Spl.nil)) (fun x S L' hL hS => ?_)
 obtain ⟨rfl, rfl⟩ := hL
 refine aU ?_
 refine u6 (a1B (z := { z with fr := { z.fr with pc := z.fr.pc + 1 } }) (ex := true) (vs := [inV tape]) (by show z.fr.st.length < _; omega) zS) hS rfl (Spl.last (PkC.there (PkC.there PkC.here))) (fun x S L' hL hS => ?_)
 obtain ⟨f, q, hq, rfl, rfl⟩ := hL
 refine aU ?_
 refine aE ?_
 refine ⟨trivial, _, rfl, _, ⟨_, q, hq, rfl, rfl⟩, ?_⟩
 rw [List.append_assoc]
 exact hS.sub (List.Sublist.append_left (.cons_cons _ (.cons_cons _ (.cons _ (.refl _)))) _)
theorem b1I {k im v : Int} {st : List Int} {tr te tv : Nat} {tape : List Int} {evs : List i9} (hi : j7 z.fr.f.Code z.fr.pc = some ⟨29, k, im⟩) (hpc : z.fr.pc < 4611686018427387904) (hst : z.fr.st = v :: st) (hs : st.length < 100000000) (hl : evs.length < 1000000000) :
  Tri Try.prog 142 [.ptr z.q.x 0 0, .ptr o.m 0 0] (uL p o (.ptr tr 0 0) a4 a6 a7 ek ev dep live (z :: r) ps rj pj ++ [(tr, 0, [.sl false 1 (tape.map (avI .u64)), .ref te tv 0 evs.length (some 2)]), (te, tv, flat i9.av evs)])
   (fun _ L' => ∃ f q, q.x = z.q.x /\ f = { z.fr with pc := z.fr.pc + 1, st := st } /\ L' = uL p o (.ptr tr 0 0) a4 a6 a7 ek ev dep live ({ z with fr := f, q := q } :: r) ps rj pj ++ [(tr, 0, [.sl false 1 (tape.map (avI .u64)), .ref te (tv + 1) 0 (evs ++ [(⟨1, v⟩ : i9)]).length (some 2)]), (te, tv + 1, flat i9.av (evs ++ [(⟨1, v⟩ : i9)]))]) := by
 refine i8 mixed a4O zS [4] (fun R S hS => a0l hi hpc (by rw [List.append_assoc] at hS; exact hS) (fun oi S hS => ?_))
 refine aU ?_
 refine c9 hS rfl (List.mem_append_right _ (.head _)) (v := .int .u8 29) rfl ?_
 refine aU ?_
 refine g9 ?_
 (repeat refine j4 rfl rfl ?_)
 refine a0i rfl rfl ?_
 refine a0r ?_
 refine aU ?_
 refine c9 hS rfl (.head _) (v := .ptr tr 0 0) rfl ?_
 refine aU ?_
 have hm1 := hS.at (.head _)
 refine u6 (z5 (z := { z with fr := { z.fr with pc := z.fr.pc + 1 } }) hst zO) hS rfl (.refl _) (fun x S L' hL hS => ?_)
 obtain ⟨f, q, hq, ⟨rfl, rfl⟩, rfl⟩ := hL
 have hm2 := hS.at (.head _)
 refine aU ?_
 refine u6 (b7K (tape := tape) (evs := evs) (te := te) (tv := tv) hl) hS rfl (Spl.cons (Pk.skip (Pk.there Pk.here)) (Spl.cons (Pk.skip (Pk.there Pk.here)) Spl.nil)) (fun x S L' hL hS => ?_)
 subst hL
 refine aU ?_
 refine And.intro ⟨⟨rfl, fun x hx => by rw [List.mem_singleton.1 hx]; exact hm2.trans hm1.symm⟩, trivial⟩ ?_
 refine aE ?_
 refine ⟨trivial, _, rfl, _, ⟨_, q, hq, rfl, rfl⟩, ?_⟩
 have hS2 := hS.perm (Spl.last (PkC.there (PkC.there PkC.here)) : Spl (_ :: _ :: (uL p o (.ptr tr 0 0) a4 a6 a7 ek ev dep live _ ps rj pj ++ _)) _ _)
 rw [List.append_assoc]
 exact hS2.sub (List.Sublist.append_left (.cons_cons _ (.cons_cons _ (.cons _ (.refl _)))) _)
end
end Go.Proofs.Ytnpemocpfdgaoaa

/- Step's Set: a cell of the frame is read while another one is written. -/
namespace Go.Proofs.Ytnpemocpfdgaoaa
open Go Go.Ab
set_option maxRecDepth 20000
set_option maxHeartbeats 2000000
section
variable {a0 a4 a6 a7 : AV} {o : UO} {p : Program} {ek ev dep live : Int} {z : Row} {r : List Row} {ps ps' : List n9} {rj pj : List AV}
theorem b5J {v : Int} {st : List Int} (hst : z.fr.st = v :: st) (hl : st.length < 1000000000) :
  Tri Try.prog 144 [.ptr z.q.x 0 0] (uL p o a0 a4 a6 a7 ek ev dep live (z :: r) ps rj pj) (fun x L' => ∃ q, (q.x = z.q.x /\ q.l = z.q.l) /\ x = .int .u64 v /\ L' = uL p o a0 a4 a6 a7 ek ev dep live ({ z with fr := { z.fr with st := st }, q := q } :: r) ps rj pj) := fun R S hS => by
 have h2 := (hS.perm a9V).perm (L' := [(z.q.x, 0, frC p z.fr z.q), (z.q.t, z.q.tv, flat (avI .u64) z.fr.st.reverse ++ z.q.tj)] ++ ((z.q.l, 0, flat (avI .u64) z.fr.lo) :: (uR p o a0 a4 a6 a7 ek ev dep live z r ps rj pj ++ R))) (List.Perm.cons _ (List.Perm.swap _ _ _))
 have c := b3s (a := .cptr (Program.av p).cells 0) (b := .cptr (Func.av z.fr.f).cells 0) (c := .ref z.q.l 0 0 z.fr.lo.length none) (e := .int .i64 z.fr.pc) (g := .int .i64 z.fr.nu) (x := z.q.x) (t := z.q.t) (tv := z.q.tv) (v := v) (st := st) (j := z.q.tj) hl
 unfold frC at h2
 rw [hst] at h2
 obtain ⟨r', S', h3, L', ⟨rfl, rfl⟩, h4⟩ := c _ _ h2
 exact ⟨_, S', h3, _, ⟨{ z.q with tj := .int .u64 v :: z.q.tj }, ⟨rfl, rfl⟩, rfl, rfl⟩, b3v rfl (h4.perm (List.Perm.cons _ (List.Perm.swap _ _ _)))⟩
theorem b9T {k : Nat} {v : Int} {R : List It} : Rp (uL p o a0 a4 a6 a7 ek ev dep live (z :: r) ps rj pj ++ R) (z.q.l, 0, flat (avI .u64) z.fr.lo) (z.q.l, 0, flat (avI .u64) (z.fr.lo.set k v)) (uL p o a0 a4 a6 a7 ek ev dep live (a4N k v z :: r) ps rj pj ++ R) := by
 have h := b7N (p := p) (k := k) (v := v) (R := R) (z :: r) 0 (y := z) rfl
 simp only [List.modify_zero_cons] at h
 exact Rp.there (Rp.there (Rp.there h))
theorem b3K {k im v w : Int} {st : List Int} (hi : j7 z.fr.f.Code z.fr.pc = some ⟨3, k, im⟩) (hpc : z.fr.pc < 4611686018427387904) (hst : z.fr.st = v :: st) (hs : st.length < 100000000) (hk : j7 z.fr.lo k = some w) :
  Tri Try.prog 142 [.ptr z.q.x 0 0, .ptr o.m 0 0] (uL p o a0 a4 a6 a7 ek ev dep live (z :: r) ps rj pj) (fun _ L' => ∃ f q, q.x = z.q.x /\ f = { z.fr with pc := z.fr.pc + 1, st := st, lo := z.fr.lo.set k.toNat v } /\ L' = uL p o a0 a4 a6 a7 ek ev dep live ({ z with fr := f, q := q } :: r) ps rj pj) := by
 obtain ⟨h1, h2, h3⟩ := d9 hk
 refine i8 mixed a4O zS [4] (fun R S hS => a0l hi hpc hS (fun oi S hS => ?_))
 refine aU ?_
 refine c9 hS rfl (List.mem_append_right _ (.head _)) (v := .int .u8 3) rfl ?_
 refine aU ?_
 refine g9 ?_
 (repeat refine j4 rfl rfl ?_)
 refine a0i rfl rfl ?_
 refine b6t ?_
 refine b8z ?_
 refine aU ?_
 refine b8z ?_
 refine aU ?_
 refine b8z ?_
 refine aU ?_
 refine c3B (o := z.q.x) (ver := 0) (q := 2) (cs := frC p { z.fr with pc := z.fr.pc + 1 } z.q) (v := .ref z.q.l 0 0 z.fr.lo.length none) rfl (hS.at a3H) rfl ?_
 refine a7h ?_
 refine aU ?_
 refine c9 hS rfl (List.mem_append_right _ (.head _)) (v := .int .i64 k) rfl ?_
 refine aU ?_
 have hx1 := hS.at (a3H (z := { z with fr := { z.fr with pc := z.fr.pc + 1 } }))
 have ho1 := hS.at (List.mem_append_right _ (.head _))
 refine u6 (b5J (z := { z with fr := { z.fr with pc := z.fr.pc + 1 } }) hst zO) hS rfl (.refl _) (fun x S L' hL hS => ?_)
 obtain ⟨q, ⟨hq, hql⟩, rfl, rfl⟩ := hL
 have hx2 := hS.at (a3H (z := { z with fr := { z.fr with pc := z.fr.pc + 1, st := st }, q := q }))
 have ho2 := hS.at (List.mem_append_right _ (.head _))
 refine aU ?_
 refine p6 rfl rfl k.toNat zO zO ?_
 refine a8Y (y' := v) (l := z.fr.lo) (o := q.l) (ver := 0) hS (f7 .u64) (by show AV.ptr z.q.l 0 (0 + k.toNat * f5 none) = _; rw [<- hql]) (xv := .int .u64 v) rfl (n := k.toNat) (fo := 0) (y := w) (by simp [f5]) h3 (b9T (z := { z with fr := { z.fr with pc := z.fr.pc + 1, st := st }, q := q }) (k := k.toNat) (v := v)) rfl rfl (by simp [f5]) rfl (fun S hS => ?_)
 refine aU ?_
 refine And.intro ⟨⟨⟨_, hx1, rfl⟩, ⟨_, by rw [<- hq]; exact hx2, by show a0G none (frC p _ q) 2 = _; rw [<- hql]; rfl⟩⟩, ⟨rfl, fun x hx => by rw [List.mem_singleton.1 hx]; exact ho2.trans ho1.symm⟩, trivial⟩ ?_
 refine aE ?_
 exact ⟨trivial, _, rfl, _, ⟨_, q, hq, rfl, rfl⟩, a1J hS⟩
end
end Go.Proofs.Ytnpemocpfdgaoaa

/- One step of a run, told plainly. -/
namespace Go.Proofs.Ytnpemocpfdgaoaa
open Go Go.Ab
def goA (s : AS) (z : ARow) (r : List ARow) (f : SFr) : AS := { s with rows := { z with fr := f } :: r }
def a6X (p : Program) (s : AS) (rows : List ARow) (v : Int) : Option AS := (x8 p rows (⟨v, false⟩ :: s.pans)).map fun u =>
 { s with rows := u.2.1, pans := u.2.2, panics := max s.panics ((s.pans.length : Int) + 1), ek := if u.1.isSome then 2 else s.ek, ev := u.1.getD s.ev, depth := if u.1.isSome then s.depth else max s.depth (u.2.1.length : Int), live := if u.1.isSome then s.live else s.live - 1 }
def a5H (rows : List ARow) (pt : Int) : Option (Nat × Nat × Int) := if 0 <= b4J pt /\ 0 <= b5D pt then (rows.reverse[(b4J pt).toNat]?).bind fun y => (y.fr.lo[(b5D pt).toNat]?).map fun w => ((b4J pt).toNat, (b5D pt).toNat, w) else none
theorem a7t {rows : List ARow} {pt : Int} {c} (h : a5H rows pt = some c) : b4J pt = (c.1 : Int) /\ b5D pt = (c.2.1 : Int) /\ ∃ y, rows.reverse[c.1]? = some y /\ y.fr.lo[c.2.1]? = some c.2.2 := by
 unfold a5H at h
 split at h
 ·rename_i hc
  obtain ⟨y, h1, h2⟩ := Option.bind_eq_some_iff.1 h
  obtain ⟨w, h3, rfl⟩ := Option.map_eq_some_iff.1 h2
  exact ⟨by simp only; omega, by simp only; omega, y, h1, h3⟩
 ·cases h
def t5 (p : Program) (s : AS) (z : ARow) (r : List ARow) (f : SFr) (op k im : Int) : Option AS :=
 if op = 1 then some (goA s z r { f with st := im :: f.st })
 else if op = 2 then (j7 f.lo k).map fun v => goA s z r { f with st := v :: f.st }
 else if op = 3 then (match f.st with | v :: st => (j7 f.lo k).map fun _ => goA s z r { f with st := st, lo := f.lo.set k.toNat v } | [] => none)
 else if op = 4 then some (goA s z r { f with st := a8s f.nu k :: f.st })
 else if op = 5 then (match f.st with
  | pt :: st => if pt = 0 then a6X p s ({ z with fr := { f with st := st } } :: r) 18446744073709551614 else (a5H ({ z with fr := { f with st := st } } :: r) pt).map fun c => goA s z r { f with st := c.2.2 :: st }
  | [] => none)
 else if op = 6 then (match f.st with
  | v :: pt :: st => if pt = 0 then a6X p s ({ z with fr := { f with st := st } } :: r) 18446744073709551614 else (a5H ({ z with fr := { f with st := st } } :: r) pt).map fun c => { s with rows := a8g ({ z with fr := { f with st := st } } :: r) c.1 c.2.1 v }
  | _ => none)
 else if op = 21 then some (goA s z r { f with pc := k })
 else if op = 22 then (match f.st with | v :: st => some (goA s z r (if v = 0 then { f with pc := k, st := st } else { f with st := st })) | [] => none)
 else if op = 31 then (match f.st with | _ :: st => some (goA s z r { f with st := st }) | [] => none)
 else if op = 32 then (match f.st with | v :: st => some (goA s z r { f with st := v :: v :: st }) | [] => none)
 else if op = 28 then some { s with tape := s.tape.tail, evs := s.evs ++ [⟨2, inV s.tape⟩], rows := { z with fr := { f with st := inV s.tape :: f.st } } :: r }
 else if op = 29 then (match f.st with | v :: st => some { s with evs := s.evs ++ [⟨1, v⟩], rows := { z with fr := { f with st := st } } :: r } | [] => none)
 else if op = 23 then (f.args p k).bind fun a => (a1e p k a.1 (r.length + 2)).map fun f2 => { s with rows := ⟨f2, 0, [], 0⟩ :: { z with fr := a.2 } :: r, depth := max s.depth ((r.length : Int) + 2) }
 else if op = 25 then (f.args p k).map fun a => { s with rows := { z with fr := a.2, df := ⟨k, a.1⟩ :: z.df } :: r, defers := max s.defers (s.live + 1), live := s.live + 1 }
 else if op = 24 then (a6W f).bind fun a => (a5n p { z with fr := a.2, ret := a.1 } r s.pans).map fun u =>
  { s with rows := u.A, pans := u.ps, ek := u.en.elim s.ek (·.1), ev := u.en.elim s.ev (·.2), depth := if u.push then max s.depth (u.A.length : Int) else s.depth, live := if u.push then s.live - 1 else s.live }
 else if op = 26 then (match f.st with | v :: st => a6X p s ({ z with fr := { f with st := st } } :: r) v | [] => none)
 else if op = 27 then (if z.why = 2 /\ s.pans = [] then none else some { s with rows := { z with fr := { f with st := (a1L z.why s.pans).1.2 :: (a1L z.why s.pans).1.1 :: f.st } } :: r, pans := (a1L z.why s.pans).2 })
 else if op = 30 then (match f.st with | v :: st => some { s with rows := { z with fr := { f with st := st } } :: r, ek := 1, ev := v } | [] => none)
 else (match f.st with
  | b :: a :: st => (a0w op a b).bind fun w => if w.2 = 0 then some (goA s z r { f with st := w.1 :: st }) else a6X p s ({ z with fr := { f with st := st } } :: r) 18446744073709551615
  | _ => none)
def a3e (p : Program) (s : AS) : Option AS := match s.rows with
 | [] => none
 | z :: r => (j7 z.fr.f.Code z.fr.pc).bind fun i => t5 p s z r { z.fr with pc := z.fr.pc + 1 } i.Op i.Arg i.Imm
structure Bd (p : Program) (s : AS) : Prop where
 lo : ∀ g ∈ p.Funcs, g.Locals.length < 1000000000
 rn : s.rows.length < 9999999
 pn : s.pans.length < 9999999
 dep : 0 <= s.depth /\ s.depth < 1000000000
 lv : 0 <= s.live /\ s.live < 100000000
 row : ∀ z ∈ s.rows, (z.df.length : Int) <= s.live /\ z.fr.pc < 2305843009213693952 /\ z.fr.st.length < 100000000
 ev : s.evs.length < 1000000000
end Go.Proofs.Ytnpemocpfdgaoaa

/- sem.frame's Step as one contract. -/
namespace Go.Ab
theorem Tri.beside {P : Program} {f : FuncId} {args : List AV} {L X : List It} {Q : AV -> List It -> Prop} (c : Tri P f args L Q) : Tri P f args (L ++ X) (fun v L' => ∃ L0, Q v L0 /\ L' = L0 ++ X) := fun R S hS => by
 rw [List.append_assoc] at hS
 obtain ⟨r, S', h1, L', h2, h3⟩ := c _ _ hS
 exact ⟨r, S', h1, _, ⟨L', h2, rfl⟩, by rw [List.append_assoc]; exact h3⟩
end Go.Ab
namespace Go.Proofs.Ytnpemocpfdgaoaa
open Go Go.Ab
set_option maxRecDepth 20000
set_option maxHeartbeats 2000000
structure TO where
 tr : Nat
 te : Nat
 tv : Nat
def trL (t : TO) (s : AS) : List It := [(t.tr, 0, [.sl false 1 (s.tape.map (avI .u64)), .ref t.te t.tv 0 s.evs.length (some 2)]), (t.te, t.tv, flat i9.av s.evs)]
abbrev sL (p : Program) (o : UO) (t : TO) (s : AS) (rows : List Row) (rj pj : List AV) : List It :=
 uL p o (.ptr t.tr 0 0) (.int .i64 s.steps) (.int .i64 s.defers) (.int .i64 s.panics) s.ek s.ev s.depth s.live rows s.pans rj pj
def mS (p : Program) (o : UO) (t : TO) (s : AS) (rows : List Row) (rj pj : List AV) : List It := sL p o t s rows rj pj ++ trL t s
def b8E (p : Program) (m : Nat) (s : AS) (L : List It) : Prop := ∃ o t rows rj pj, o.m = m /\ a1Q rows = s.rows /\ L = mS p o t s rows rj pj
section
variable {p : Program} {o : UO} {t : TO} {s s' : AS} {z : Row} {r : List Row} {rj pj : List AV}
theorem lift_tri {g : FuncId} {ag : List AV} {rows : List Row} {Q : List It -> Prop} (c : Tri Try.prog g ag (sL p o t s rows rj pj) (fun _ L' => Q L')) (ht : s'.tape = s.tape) (he : s'.evs = s.evs)
  (k : ∀ L', Q L' -> ∃ o' rows' rj' pj', o'.m = o.m /\ a1Q rows' = s'.rows /\ L' = sL p o' t s' rows' rj' pj') : Tri Try.prog g ag (mS p o t s rows rj pj) (fun _ L' => b8E p o.m s' L') :=
 (Tri.beside c).mono (fun v L' ⟨L0, h1, h2⟩ => by
  obtain ⟨o', rows', rj', pj', h3, h4, rfl⟩ := k _ h1
  refine ⟨o', t, rows', rj', pj', h3, h4, ?_⟩
  rw [h2]; unfold mS trL; rw [ht, he])
theorem a3I {g : FuncId} {ag : List AV} {F : SFr} (c : Tri Try.prog g ag (sL p o t s (z :: r) rj pj) (fun _ L' => ∃ f q, q.x = z.q.x /\ f = F /\ L' = sL p o t s ({ z with fr := f, q := q } :: r) rj pj)) :
  Tri Try.prog g ag (mS p o t s (z :: r) rj pj) (fun _ L' => b8E p o.m (goA s z.toARow (a1Q r) F) L') :=
 lift_tri c rfl rfl (fun L' ⟨f, q, h1, h2, h3⟩ => ⟨o, { z with fr := f, q := q } :: r, rj, pj, rfl, by rw [h2]; rfl, h3⟩)
theorem a8h {g : FuncId} {ag : List AV} {rows : List Row} {rs : List ARow} {v : Int} (hv : a6X p s rs v = some s')
  (c : ∀ {en : Option Int} {A' : List ARow} {ps' : List n9}, x8 p rs (⟨v, false⟩ :: s.pans) = some (en, A', ps') -> Tri Try.prog g ag (sL p o t s rows rj pj)
   (fun _ L' => ∃ rv rows' rj' pj', a1Q rows' = A' /\ L' = uL p { o with rv := rv, pv := o.pv + 1 } (.ptr t.tr 0 0) (.int .i64 s.steps) (.int .i64 s.defers) (.int .i64 (max s.panics ((s.pans.length : Int) + 1))) (if en.isSome then 2 else s.ek) (en.getD s.ev) (if en.isSome then s.depth else max s.depth (A'.length : Int)) (if en.isSome then s.live else s.live - 1) rows' ps' rj' pj')) :
  Tri Try.prog g ag (mS p o t s rows rj pj) (fun _ L' => b8E p o.m s' L') := by
 unfold a6X at hv
 obtain ⟨⟨en, A', ps'⟩, h1, rfl⟩ := Option.map_eq_some_iff.1 hv
 exact lift_tri (c h1) rfl rfl (fun L' ⟨rv, rows', rj', pj', h2, h3⟩ => ⟨{ o with rv := rv, pv := o.pv + 1 }, rows', rj', pj', rfl, h2, h3⟩)
theorem b5K (hb : Bd p s) (hA : a1Q (z :: r) = s.rows) (hst : a3e p s = some s') :
  Tri Try.prog 142 [.ptr z.q.x 0 0, .ptr o.m 0 0] (mS p o t s (z :: r) rj pj) (fun _ L' => b8E p o.m s' L') := by
 have hA2 : s.rows = z.toARow :: a1Q r := hA.symm
 unfold a3e at hst
 rw [hA2] at hst
 obtain ⟨⟨op, k, im⟩, hi, hst⟩ := Option.bind_eq_some_iff.1 hst
 have hrl : (a1Q r).length = r.length := by simp [a1Q]
 have hrn : r.length < 9999998 := by have := hb.rn; rw [hA2] at this; simp [hrl] at this; omega
 have hrow : ∀ y ∈ z :: r, (y.df.length : Int) <= s.live /\ y.fr.pc < 2305843009213693952 /\ y.fr.st.length < 100000000 := fun y hy => hb.row y.toARow (by rw [<- hA]; exact List.mem_map_of_mem hy)
 obtain ⟨hz1, hz2, hz3⟩ := hrow z (.head _)
 have hlv : ∀ y ∈ z :: r, (y.df.length : Int) <= s.live := fun y hy => (hrow y hy).1
 have hpc : z.fr.pc < 4611686018427387904 := by omega
 have hlv1 : ∀ (F : SFr), ∀ y ∈ { z with fr := F } :: r, (y.df.length : Int) <= s.live := fun F y hy => by
  rcases List.mem_cons.1 hy with rfl | hy
  ·exact hz1
  ·exact hlv y (.tail _ hy)
 have hpn := hb.pn
 have hlv2 := hb.lv
 have hdep := hb.dep
 unfold t5 at hst
 dsimp only at hi hst
 by_cases h : op = 1
 ·rw [if_pos h] at hst; subst h; cases hst
  exact a3I (b3H hi hpc zO)
 rw [if_neg h] at hst; have n1 := h; clear h
 by_cases h : op = 2
 ·rw [if_pos h] at hst; subst h
  obtain ⟨v, hv, rfl⟩ := Option.map_eq_some_iff.1 hst
  exact a3I (b3I hi hpc zO hv)
 rw [if_neg h] at hst; have n2 := h; clear h
 by_cases h : op = 3
 ·rw [if_pos h] at hst; subst h
  split at hst
  ·rename_i v st e
   obtain ⟨w, hw, rfl⟩ := Option.map_eq_some_iff.1 hst
   exact a3I (b3K hi hpc e (by rw [e] at hz3; simp at hz3; omega) hw)
  ·cases hst
 rw [if_neg h] at hst; have n3 := h; clear h
 by_cases h : op = 4
 ·rw [if_pos h] at hst; subst h; cases hst
  exact a3I (b3J hi hpc zO)
 rw [if_neg h] at hst; have n4 := h; clear h
 by_cases h : op = 5
 ·rw [if_pos h] at hst; subst h
  split at hst
  ·rename_i pt st e
   have hs : st.length < 100000000 := by rw [e] at hz3; simp at hz3; omega
   split at hst
   ·rename_i h0
    rw [h0] at e
    exact a8h hst (fun h1 => a9j hi hpc (b0Y (z := { z with fr := { z.fr with pc := z.fr.pc + 1 } }) e zO h1 zO hpn hb.lo hdep (hlv1 _) hlv2.2))
   ·rename_i h0
    obtain ⟨c, hc, rfl⟩ := Option.map_eq_some_iff.1 hst
    obtain ⟨c1, c2, y, c3, c4⟩ := a7t hc
    exact a3I (a9j hi hpc (b5G (z := { z with fr := { z.fr with pc := z.fr.pc + 1 } }) e hs h0 c1 c2 c3 c4))
  ·cases hst
 rw [if_neg h] at hst; have n5 := h; clear h
 by_cases h : op = 6
 ·rw [if_pos h] at hst; subst h
  split at hst
  ·rename_i v pt st e
   have hs : st.length < 99999999 := by rw [e] at hz3; simp at hz3; omega
   split at hst
   ·rename_i h0
    rw [h0] at e
    exact a8h hst (fun h1 => a9k hi hpc e zE (fun q hq => by
     have c := b0Y (z := { z with fr := { z.fr with pc := z.fr.pc + 1, st := 0 :: st }, q := q }) (v := v) (b := true) (o := o) (r := r) (rj := rj) (pj := pj) (a0 := .ptr t.tr 0 0) (a4 := .int .i64 s.steps) (a6 := .int .i64 s.defers) (pmx := s.panics) (ek := s.ek) (ev := s.ev) (dep := s.depth) (live := s.live) (p := p) rfl zO h1 zO hpn hb.lo hdep (fun y hy => by
      rcases List.mem_cons.1 hy with rfl | hy
      ·exact hz1
      ·exact hlv y (.tail _ hy)) hlv2.2
     rw [show ({ z with fr := { z.fr with pc := z.fr.pc + 1, st := 0 :: st }, q := q } : Row).q.x = z.q.x from hq] at c
     exact c))
   ·rename_i h0
    obtain ⟨c, hc, rfl⟩ := Option.map_eq_some_iff.1 hst
    obtain ⟨c1, c2, y, c3, c4⟩ := a7t hc
    refine lift_tri (Q := fun L' => ∃ rows', a1Q rows' = a8g ({ z.toARow with fr := { z.fr with pc := z.fr.pc + 1, st := st } } :: a1Q r) c.1 c.2.1 v /\ L' = sL p o t s rows' rj pj) (a9k hi hpc e zE (fun q hq => ?_)) rfl rfl (fun L' ⟨rows', h1, h2⟩ => ⟨o, rows', rj, pj, rfl, h1, h2⟩)
    have c := b5I (z := { z with fr := { z.fr with pc := z.fr.pc + 1, st := pt :: st }, q := q }) (v := v) (o := o) (r := r) (rj := rj) (pj := pj) (a0 := .ptr t.tr 0 0) (a4 := .int .i64 s.steps) (a6 := .int .i64 s.defers) (a7 := .int .i64 s.panics) (ek := s.ek) (ev := s.ev) (dep := s.depth) (live := s.live) (p := p) (ps := s.pans) rfl zO h0 c1 c2 c3 c4
    rw [show ({ z with fr := { z.fr with pc := z.fr.pc + 1, st := pt :: st }, q := q } : Row).q.x = z.q.x from hq] at c
    exact c
  ·cases hst
 rw [if_neg h] at hst; have n6 := h; clear h
 by_cases h : op = 21
 ·rw [if_pos h] at hst; subst h; cases hst
  exact a3I (b1F hi hpc)
 rw [if_neg h] at hst; have n21 := h; clear h
 by_cases h : op = 22
 ·rw [if_pos h] at hst; subst h
  split at hst
  ·rename_i v st e
   have hs : st.length < 100000000 := by rw [e] at hz3; simp at hz3; omega
   cases hst
   by_cases h0 : v = 0
   ·subst h0
    rw [if_pos rfl]
    exact a3I (a9W hi hpc e hs)
   ·rw [if_neg h0]
    exact a3I (a9X hi hpc e (by simpa using h0) hs)
  ·cases hst
 rw [if_neg h] at hst; have n22 := h; clear h
 by_cases h : op = 31
 ·rw [if_pos h] at hst; subst h
  split at hst
  ·rename_i v st e
   cases hst
   exact a3I (b1E hi hpc e (by rw [e] at hz3; simp at hz3; omega))
  ·cases hst
 rw [if_neg h] at hst; have n31 := h; clear h
 by_cases h : op = 32
 ·rw [if_pos h] at hst; subst h
  split at hst
  ·rename_i v st e
   cases hst
   exact a3I (b1G hi hpc e (by rw [e] at hz3; simp at hz3; omega))
  ·cases hst
 rw [if_neg h] at hst; have n32 := h; clear h
 by_cases h : op = 28
 ·rw [if_pos h] at hst; subst h; cases hst
  exact (b1H (tr := t.tr) (te := t.te) (tv := t.tv) (tape := s.tape) (evs := s.evs) hi hpc zO hb.ev).mono (fun v L' ⟨f, q, h1, h2, h3⟩ => ⟨o, { t with tv := t.tv + 1 }, { z with fr := f, q := q } :: r, rj, pj, rfl, by rw [h2]; rfl, h3⟩)
 rw [if_neg h] at hst; have n28 := h; clear h
 by_cases h : op = 29
 ·rw [if_pos h] at hst; subst h
  split at hst
  ·rename_i v st e
   cases hst
   exact (b1I (tr := t.tr) (te := t.te) (tv := t.tv) (tape := s.tape) (evs := s.evs) hi hpc e (by rw [e] at hz3; simp at hz3; omega) hb.ev).mono (fun v L' ⟨f, q, h1, h2, h3⟩ => ⟨o, { t with tv := t.tv + 1 }, { z with fr := f, q := q } :: r, rj, pj, rfl, by rw [h2]; rfl, h3⟩)
  ·cases hst
 rw [if_neg h] at hst; have n29 := h; clear h
 by_cases h : op = 23
 ·rw [if_pos h] at hst; subst h
  obtain ⟨⟨ag, f1⟩, h1, h2⟩ := Option.bind_eq_some_iff.1 hst
  obtain ⟨f2, h3, rfl⟩ := Option.map_eq_some_iff.1 h2
  rw [hrl] at h3
  refine lift_tri (a1C hi hpc (by simp [a4P]) (b3z (z := { z with fr := { z.fr with pc := z.fr.pc + 1 } }) h1 (by show z.fr.st.length < _; omega) h3 zO hb.lo hdep)) rfl rfl (fun L' ⟨rows', h4, h5⟩ => ⟨{ o with rv := o.rv + 1 }, rows', [], pj, rfl, h4, ?_⟩)
  rw [h5]; simp only [hrl]
 rw [if_neg h] at hst; have n23 := h; clear h
 by_cases h : op = 25
 ·rw [if_pos h] at hst; subst h
  obtain ⟨⟨ag, f1⟩, h1, rfl⟩ := Option.map_eq_some_iff.1 hst
  exact lift_tri (a1C hi hpc (by simp [a4P]) (b3D (z := { z with fr := { z.fr with pc := z.fr.pc + 1 } }) h1 (by show z.fr.st.length < _; omega) zO (by show z.df.length < _; omega) hlv2)) rfl rfl (fun L' ⟨rows', h4, h5⟩ => ⟨o, rows', rj, pj, rfl, h4, h5⟩)
 rw [if_neg h] at hst; have n25 := h; clear h
 by_cases h : op = 24
 ·rw [if_pos h] at hst; subst h
  obtain ⟨⟨v, f1⟩, h1, h2⟩ := Option.bind_eq_some_iff.1 hst
  obtain ⟨u, h3, rfl⟩ := Option.map_eq_some_iff.1 h2
  refine lift_tri (a1C hi hpc (by simp [a4P]) (b3C (z := { z with fr := { z.fr with pc := z.fr.pc + 1 } }) h1 (by show z.fr.st.length < _; omega) h3 zO zO hb.lo hdep (fun y hy => ?_) hlv2.2)) rfl rfl (fun L' ⟨rv, rows', rj', pj', h4, h5⟩ => ⟨{ o with rv := rv }, rows', rj', pj', rfl, h4, h5⟩)
  rcases List.mem_cons.1 hy with rfl | hy
  ·exact ⟨hz1, by show z.fr.pc + 1 < _; omega, by show z.fr.st.length < _; omega⟩
  ·obtain ⟨y1, y2, y3⟩ := hrow y (.tail _ hy)
   exact ⟨y1, by omega, by omega⟩
 rw [if_neg h] at hst; have n24 := h; clear h
 by_cases h : op = 26
 ·rw [if_pos h] at hst; subst h
  split at hst
  ·rename_i v st e
   exact a8h hst (fun h1 => a1C hi hpc (by simp [a4P]) (b3A (z := { z with fr := { z.fr with pc := z.fr.pc + 1 } }) e (by rw [e] at hz3; simp at hz3; omega) h1 zO hpn hb.lo hdep (hlv1 _) hlv2.2))
  ·cases hst
 rw [if_neg h] at hst; have n26 := h; clear h
 by_cases h : op = 27
 ·rw [if_pos h] at hst; subst h
  split at hst
  ·cases hst
  ·rename_i h0
   cases hst
   exact lift_tri (a1C hi hpc (by simp [a4P]) (b3E (z := { z with fr := { z.fr with pc := z.fr.pc + 1 } }) (by show z.fr.st.length < _; omega) zO (fun h1 h2 => h0 ⟨h1, h2⟩) zO)) rfl rfl
    (fun L' ⟨f, q, h1, h2, h3⟩ => ⟨o, { z with fr := f, q := q } :: r, rj, pj, rfl, by rw [h2]; rfl, h3⟩)
 rw [if_neg h] at hst; have n27 := h; clear h
 by_cases h : op = 30
 ·rw [if_pos h] at hst; subst h
  split at hst
  ·rename_i v st e
   cases hst
   exact lift_tri (a1C hi hpc (by simp [a4P]) (b3B (z := { z with fr := { z.fr with pc := z.fr.pc + 1 } }) e (by rw [e] at hz3; simp at hz3; omega))) rfl rfl
    (fun L' ⟨f, q, h1, h2, h3⟩ => ⟨o, { z with fr := f, q := q } :: r, rj, pj, rfl, by rw [h2]; rfl, h3⟩)
  ·cases hst
 rw [if_neg h] at hst; have n30 := h; clear h
 have hns : a4P op := by simp [a4P, n1, n2, n3, n4, n5, n6, n21, n22, n31, n32, n28, n29]
 have hnc : b0Z op := by simp [b0Z, n23, n24, n25, n26, n27, n30]
 split at hst
 ·rename_i b a st e
  have hs : st.length < 99999999 := by rw [e] at hz3; simp at hz3; omega
  obtain ⟨⟨v, er⟩, hw, hst⟩ := Option.bind_eq_some_iff.1 hst
  dsimp only at hst
  split at hst
  ·rename_i h0
   cases hst
   rw [h0] at hw
   exact a3I (a1C hi hpc hns (b3F (z := { z with fr := { z.fr with pc := z.fr.pc + 1 } }) hnc e zO hw))
  ·rename_i h0
   exact a8h hst (fun h1 => a1C hi hpc hns (b3G (z := { z with fr := { z.fr with pc := z.fr.pc + 1 } }) hnc e zO hw h0 h1 zO hpn hb.lo hdep (hlv1 _) hlv2.2))
 ·cases hst
end
end Go.Proofs.Ytnpemocpfdgaoaa

