/- ref6's next, waiting, unwind, a1e: the walks. -/
import Derived.Test.YtnpemocpfdgaoaaRsW2
import Derived.Test.YtnpemocpfdgaoaaGenRt
set_option linter.unusedVariables false
set_option linter.unusedSimpArgs false
namespace Go.Proofs.Ytnpemocpfdgaoaa
open Go Go.Ab
set_option maxRecDepth 20000
set_option maxHeartbeats 2000000
noncomputable def c2F : FC := fcO 117
theorem c0p : Fn3 Try.prog 117 51 [(4, none)] c2F := ⟨_, _, Try.func117, rfl, rfl, rfl, by kernel_rfl⟩

noncomputable def c5Y : FC := fcO 97
theorem c5Z : Fn3 Try.prog 97 26 [(2, none)] c5Y := ⟨_, _, Try.func97, rfl, rfl, rfl, by kernel_rfl⟩

noncomputable def c2G : FC := fcO 116
theorem c2H : Fn3 Try.prog 116 86 [] c2G := ⟨_, _, Try.func116, rfl, rfl, rfl, by kernel_rfl⟩

noncomputable def c6a : FC := fcO 94
theorem c6b : Fn3 Try.prog 94 35 [] c6a := ⟨_, _, Try.func94, rfl, rfl, rfl, by kernel_rfl⟩

def a8n (fs : List Func) : List F6 -> List n9 -> Option (Option Int × List F6 × List n9)
 | [], _ => none
 | z :: r, ps => match z.wa with
   | x :: wa => (a8t fs x.f x.args 2).bind fun F => some (none, F :: { z with wa := wa } :: r, ps)
   | [] => (b6D z.why ps).bind fun ps' => match r with
     | [] => (c1i ps').map fun v => (some v, [], ps')
     | y :: t => a8n fs (y :: t) ps'
theorem b6d {fs : List Func} {z : F6} {r : List F6} {ps : List n9} {x} (hz : z.wa = []) (h : a8n fs (z :: r) ps = some x) : ∃ q, b6D z.why ps = some q /\ (r = [] -> ∃ v, c1i q = some v /\ x = (some v, [], q)) /\ (r ≠ [] -> a8n fs r q = some x) := by
 unfold a8n at h
 rw [hz] at h
 obtain ⟨q, h1, h2⟩ := Option.bind_eq_some_iff.1 h
 refine ⟨q, h1, fun e => ?_, fun e => ?_⟩
 ·subst e
  obtain ⟨v, h3, h4⟩ := Option.map_eq_some_iff.1 h2
  exact ⟨v, h3, h4.symm⟩
 ·cases r with
  | nil => exact absurd rfl e
  | cons y t => exact h2
theorem b4h {fs : List Func} {z : F6} {r : List F6} {ps : List n9} {x y df} (hz : z.wa = y :: df) (h : a8n fs (z :: r) ps = some x) : ∃ F, a8t fs y.f y.args 2 = some F /\ x = (none, F :: { z with wa := df } :: r, ps) := by
 unfold a8n at h
 rw [hz] at h
 obtain ⟨f, h1, h2⟩ := Option.bind_eq_some_iff.1 h
 cases h2
 exact ⟨f, h1, rfl⟩
section
variable {fs : List Func} {o : O6} {s : S6} {z : Q6} {r : List Q6} {rj pj : List AV}
theorem a7z {w : Int} (hz : z.wa = []) (hn : r.length < 10000000) : Tri Try.prog 117 [.ptr o.r 0 0, .int .i64 w] (L6 fs o s (z :: r) rj pj) (fun x L' => x = .bool false /\ L' = L6 fs o s (z :: r) rj pj) := by
 refine i8 mixed c0p zS [7] (fun R S hS => ?_)
 refine aU ?_
 refine c9 hS rfl (.head _) (v := .ref o.ro o.rv 0 (r.length + 1) (some 8)) rfl ?_
 refine aU ?_
 refine c9 hS rfl (.head _) (v := .ref o.ro o.rv 0 (r.length + 1) (some 8)) rfl ?_
 refine aU ?_
 refine p6 rfl rfl r.length (a2h zO) zO ?_
 refine aU ?_
 refine c9 hS rfl (.tail _ (.head _)) (v := .ref z.wl z.wv 0 z.wa.length (some 2)) (by rw [k9]; exact vT (m8 r) rfl) ?_
 refine aU ?_
 refine E_cs (t := true) (by show AV.bool ((z.wa.length : Int) == 0) = _; rw [hz]; rfl) (fun _ => ?_) (fun h => by cases h)
 refine aU ?_
 refine d8 ?_
 refine aE ?_
 exact ⟨trivial, _, rfl, _, ⟨rfl, rfl⟩, hS⟩
theorem a7A {w : Int} {x : a0y} {wa : List a0y} {F : F6} (hz : z.wa = x :: wa) (hv : a8t fs x.f x.args w = some F) (hok : ∀ g ∈ fs, g.Locals.length < 1000000) (hn : r.length < 9999999) (hd : 0 <= s.depth /\ s.depth < 1000000000) (hw : wa.length < 100000000) :
  Tri Try.prog 117 [.ptr o.r 0 0, .int .i64 w] (L6 fs o s (z :: r) rj pj) (fun v L' => v = .bool true /\ ∃ z1 : Q6, z1.toF6 = F /\ L' = L6 fs { o with rv := o.rv + 1 } { s with depth := max s.depth ((r.length : Int) + 2) } (z1 :: { z with wa := wa, wj := x.cells ++ z.wj } :: r) [] pj) := by
 have hx : z.wa.reverse[wa.length]? = some x := by rw [hz, List.reverse_cons, List.getElem?_append_right zS]; simp
 have hlen : z.wa.length = wa.length + 1 := by rw [hz]; rfl
 refine i8 mixed c0p zS [7] (fun R S hS => ?_)
 refine aU ?_
 refine c9 hS rfl (.head _) (v := .ref o.ro o.rv 0 (r.length + 1) (some 8)) rfl ?_
 refine aU ?_
 refine c9 hS rfl (.head _) (v := .ref o.ro o.rv 0 (r.length + 1) (some 8)) rfl ?_
 refine aU ?_
 refine p6 rfl rfl r.length (a2h zO) zO ?_
 refine aU ?_
 refine c9 hS rfl (.tail _ (.head _)) (v := .ref z.wl z.wv 0 z.wa.length (some 2)) (by rw [k9]; exact vT (m8 r) rfl) ?_
 refine aU ?_
 refine E_cs (t := false) (by show AV.bool ((z.wa.length : Int) == 0) = _; rw [show ((z.wa.length : Int) == 0) = false by simp; rw [hz]; simp]) (fun h => by cases h) (fun _ => ?_)
 refine aU ?_
 refine c9 hS rfl (.tail _ (.head _)) (v := .ref z.wl z.wv 0 z.wa.length (some 2)) (by rw [k9]; exact vT (m8 r) rfl) ?_
 refine aU ?_
 refine p6 rfl rfl wa.length (by show IntKind.i64.wrap ((z.wa.length : Int) - 1) = _; rw [hlen]; exact a2h zO) zO ?_
 refine a4n hS a0y.enc rfl c0n (n := wa.length) (fo := 0) (y := x) zS hx (v := x.av) rfl ?_
 refine a5G hS rfl (fun od S hS => ?_)
 refine E_stS hS rfl (xv := x.av) rfl Rp.here rfl rfl zV (fun S hS => ?_)
 refine aU ?_
 refine c9 hS rfl (.tail _ (.tail _ (.head _))) (v := .ref z.wl z.wv 0 z.wa.length (some 2)) (by rw [k9]; exact vT (m8 r) rfl) ?_
 refine aU ?_
 refine a2f (a := 0) (b := wa.length) rfl rfl (by show hiN z.wa.length (some (.int .i64 (IntKind.i64.wrap ((z.wa.length : Int) - 1)))) = _; rw [hlen, a2h zO, z0 zO]; simp) ⟨by omega, by omega, .inl rfl⟩ ?_
 refine aU ?_
 have e2 : flat a0y.av z.wa.reverse ++ z.wj = flat a0y.av wa.reverse ++ (x.cells ++ z.wj) := by rw [hz, List.reverse_cons, n7, List.append_assoc]; rfl
 refine E_stS hS rfl (xv := .ref z.wl z.wv 0 wa.length (some 2)) (by show AV.ref z.wl z.wv (0 + 0 * f5 (some 2)) (wa.length - 0) (some 2) = _; simp) (Rp.there (a4f (z' := { z with wa := wa, wj := x.cells ++ z.wj }) zO rfl rfl (by show [_, _, (z.wl, z.wv, flat a0y.av wa.reverse ++ (x.cells ++ z.wj))] = _; rw [<- e2]))) rfl rfl (a1r zO) (fun S hS => ?_)
 refine aU ?_
 refine c9 hS rfl (.head _) (v := .int .i64 x.f) rfl ?_
 refine aU ?_
 refine c9 hS rfl (.head _) (v := .sl false 1 (x.args.map (avI .u64))) rfl ?_
 refine aU ?_
 refine u6 (a9q (r := { z with wa := wa, wj := x.cells ++ z.wj } :: r) hv hok zE hd) hS rfl (Spl.last (PkC.there PkC.here)) (fun y S L' hL hS => ?_)
 obtain ⟨z1, h1, rfl⟩ := hL
 refine aU ?_
 refine d8 ?_
 refine aE ?_
 refine ⟨trivial, _, rfl, _, ⟨rfl, z1, h1, rfl⟩, ?_⟩
 have e1 : max s.depth (((({ z with wa := wa, wj := x.cells ++ z.wj } :: r : List Q6).length : Nat) : Int) + 1) = max s.depth ((r.length : Int) + 2) := by simp; omega
 rw [e1] at hS
 exact hS.sub (List.Sublist.append_left (List.sublist_cons_self _ _) _)
theorem vM6 : ∀ (rows : List Q6) {i k : Nat} {y : Q6} {x : AV} {J : List AV}, rows.reverse[i]? = some y -> (c6 y)[k]? = some x -> a0G none (rC6 rows ++ J) (0 + i * f5 (some 8) + k) = some x
 | [], i, k, y, x, J, h, _ => by simp at h
 | z :: r, i, k, y, x, J, h, hk => by
   rw [k9]
   rw [List.reverse_cons] at h
   by_cases hi : i < r.length
   ·rw [List.getElem?_append_left (by simpa using hi)] at h
    exact vM6 r h hk
   ·have hir : i = r.length := by
     have := (List.getElem?_eq_some_iff.1 h).1
     simp at this; omega
    subst hir
    rw [List.getElem?_append_right zS] at h
    simp at h
    subst h
    exact vT (m8 r) hk
def a5T : List F6 -> Nat
 | [] => 0
 | z :: r => z.wa.length + a5T r
def a8o : List Q6 -> Nat -> Nat
 | _, 0 => 0
 | rows, i + 1 => a8o rows i + (rows.reverse[i]?.map fun z => z.wa.length).getD 0
theorem a9r {z : Q6} {r : List Q6} : ∀ i, i <= r.length -> a8o (z :: r) i = a8o r i
 | 0, _ => rfl
 | i + 1, h => by
   unfold a8o
   rw [a9r i zO, List.reverse_cons, List.getElem?_append_left zE]
theorem a8p : ∀ rows : List Q6, a8o rows rows.length = a5T (ab6 rows)
 | [] => rfl
 | z :: r => by
   show a8o (z :: r) r.length + _ = z.wa.length + a5T (ab6 r)
   rw [a9r _ (Nat.le_refl _), a8p r, List.reverse_cons, List.getElem?_append_right zS]
   simp; omega
theorem a9s {rows : List Q6} {i : Nat} : ∀ j, a8o rows i <= a8o rows (i + j)
 | 0 => Nat.le_refl _
 | j + 1 => Nat.le_trans (a9s j) (by show _ <= a8o rows (i + j) + _; omega)
theorem a9t {rows : List Q6} (hn : rows.length < 100000000) (hw : a5T (ab6 rows) < 1000000000) : Tri Try.prog 97 [.ptr o.r 0 0] (L6 fs o s rows rj pj) (fun x L' => x = .int .i64 (a5T (ab6 rows)) /\ L' = L6 fs o s rows rj pj) := by
 refine i8 mixed c5Z zS [] (fun R S0 hS => ?_)
 refine aU ?_
 refine c9 hS rfl (.head _) (v := .ref o.ro o.rv 0 rows.length (some 8)) rfl ?_
 refine aU ?_
 refine b9v rows.length (fun q : Nat => [(0, .ptr o.r 0 0), (3, .int .i64 q)]) (fun q => L6 fs o s rows rj pj ++ R)
  (fun i q => q = a8o rows i) 0 hS rfl wF zO zD zD (fun _ => ⟨rfl, rfl, rfl, rfl⟩) (fun i q S hi hI hS => ?_) (fun q fr' S hI hS hw => ?_)
 ·subst hI
  obtain ⟨y, hy⟩ : ∃ y, rows.reverse[i]? = some y := ⟨_, List.getElem?_eq_getElem (by simpa using hi)⟩
  refine aU ?_
  refine c9 hS rfl (.head _) (v := .ref o.ro o.rv 0 rows.length (some 8)) rfl ?_
  refine aU ?_
  refine p6 rfl rfl i rfl hi ?_
  refine aU ?_
  refine c9 hS rfl (.tail _ (.head _)) (v := .ref y.wl y.wv 0 y.wa.length (some 2)) (vM6 rows hy rfl) ?_
  refine aU ?_
  have e : a8o rows (i + 1) = a8o rows i + y.wa.length := by show a8o rows i + (rows.reverse[i]?.map fun z => z.wa.length).getD 0 = _; rw [hy]; rfl
  have hb : a8o rows (i + 1) <= a5T (ab6 rows) := by
   rw [<- a8p]
   have := a9s (rows := rows) (i := i + 1) (rows.length - (i + 1))
   rwa [show i + 1 + (rows.length - (i + 1)) = rows.length by omega] at this
  refine R_n (a8o rows (i + 1)) rfl hS (a6P ⟨.refl _, .refl _, .refl _, ?_, trivial⟩)
  show a5E none (.int .i64 (IntKind.i64.wrap ((a8o rows i : Int) + (y.wa.length : Int)))) (.int .i64 (a8o rows (i + 1) : Int))
  rw [q9 zO, show (a8o rows i : Int) + (y.wa.length : Int) = ((a8o rows (i + 1) : Nat) : Int) by omega]
  exact .refl _
 ·subst hI
  rw [a8p] at hw
  refine a4F hw ?_
  refine aU ?_
  refine d8 ?_
  refine aE ?_
  exact ⟨trivial, _, rfl, _, ⟨rfl, rfl⟩, hS⟩
theorem c0q {R : List It} {S : List Ob} (h : Ab.Sep S ((o.r, 0, h6 fs o s r.length) :: (o.ro, o.rv, rC6 (z :: r) ++ rj) :: (x6 o s pj ++ (z :: r).flatMap o6 ++ R))) : Ab.Sep S (L6 fs o s r (c6 z ++ rj) pj ++ R) := by
 rw [k9] at h
 refine h.sub ?_
 refine .cons_cons _ (.cons_cons _ ?_)
 exact List.Sublist.append_right (List.Sublist.append_left (by rw [List.flatMap_cons]; exact List.sublist_append_right _ _) _) _
theorem b6L (z : Q6) : (AV.agg (c6 z)).cells.all AV.one = true := rfl
theorem a6I {rows : List Q6} {ps' : List n9} {en : Option Int} {A' : List F6} (hv : a8n fs (ab6 rows) s.pans = some (en, A', ps')) (hok : ∀ g ∈ fs, g.Locals.length < 1000000) (hn : rows.length < 9999999) (hp : s.pans.length < 10000000) (hd : 0 <= s.depth /\ s.depth < 1000000000) (hw : ∀ z ∈ rows, z.wa.length < 100000000) :
  Tri Try.prog 116 [.ptr o.r 0 0] (L6 fs o s rows rj pj)
   (fun _ L' => ∃ rv lv rows' rj' pj', ab6 rows' = A' /\ L' = L6 fs { o with rv := rv, lv := lv } { s with pans := ps', ek := if en.isSome then 2 else s.ek, ev := en.getD s.ev, depth := if en.isSome then s.depth else max s.depth (A'.length : Int) } rows' rj' pj') := by
 refine i8 mixed c2H zS [2, 4] (fun R S hS => ?_)
 refine g9 (a2U (σ := List Q6 × List n9 × List AV × List AV × Nat) (fun _ => [(0, .ptr o.r 0 0)]) (fun q => L6 fs { o with lv := q.2.2.2.2 } { s with pans := q.2.1 } q.1 q.2.2.1 q.2.2.2.1 ++ R)
  (fun q => a8n fs (ab6 q.1) q.2.1 = some (en, A', ps') /\ q.1.length < 9999999 /\ q.2.1.length < 10000000 /\ ∀ z ∈ q.1, z.wa.length < 100000000) (fun q => q.1.length) (rows, s.pans, rj, pj, o.lv) hS ⟨hv, hn, hp, hw⟩
  wF (fun q S hI hS => ?_))
 obtain ⟨rows1, ps1, rj1, pj1, lv⟩ := q
 obtain ⟨i1, i2, i3, i4⟩ := hI
 dsimp only at i1 i2 i3 i4 hS
 cases rows1 with
 | nil => cases i1
 | cons z r =>
 have hrl : r.length < 9999998 := by simp at i2; omega
 refine aU ?_
 cases hz : z.wa with
 | nil =>
   refine u6 (a7z (o := { o with lv := lv }) (s := { s with pans := ps1 }) (r := r) (w := 2) hz zO) hS rfl (.refl _) (fun r0 S L' hL hS => ?_)
   obtain ⟨rfl, rfl⟩ := hL
   refine aU ?_
   refine E_cs (t := true) rfl (fun _ => ?_) (fun h => by cases h)
   refine aU ?_
   refine g9 ?_
   refine v7 ?_
   refine a0r ?_
   refine aU ?_
   refine c9 hS rfl (.head _) (v := .ref o.ro o.rv 0 (r.length + 1) (some 8)) rfl ?_
   refine aU ?_
   refine c9 hS rfl (.head _) (v := .ref o.ro o.rv 0 (r.length + 1) (some 8)) rfl ?_
   refine aU ?_
   refine p6 rfl rfl r.length (a2h zO) zO ?_
   refine c9 hS rfl (.tail _ (.head _)) (v := .agg (c6 z)) (by rw [k9]; exact vT0 (m8 r) rfl) ?_
   refine a5G hS rfl (fun oi S hS => ?_)
   have h1 : o.r ≠ oi := fun e => (List.nodup_cons.1 hS.2).1 (by rw [<- e]; exact List.mem_map.2 ⟨_, .head _, rfl⟩)
   have h2 : o.ro ≠ oi := fun e => (List.nodup_cons.1 hS.2).1 (by rw [<- e]; exact List.mem_map.2 ⟨_, .tail _ (.head _), rfl⟩)
   refine E_stS hS rfl (xv := .agg (c6 z)) rfl Rp.here rfl (b6L z) zV (fun S hS => ?_)
   refine j8 ?_
   refine And.intro (by simp [a0q, a4A, y6, a1j, h1, h2, Ne.symm h1, Ne.symm h2]) ?_
   refine aU ?_
   refine c9 hS rfl (.tail _ (.head _)) (v := .ref o.ro o.rv 0 (r.length + 1) (some 8)) rfl ?_
   refine aU ?_
   refine c9 hS rfl (.tail _ (.head _)) (v := .ref o.ro o.rv 0 (r.length + 1) (some 8)) rfl ?_
   refine aU ?_
   refine a2f (a := 0) (b := r.length) rfl rfl (by show hiN (r.length + 1) (some (.int .i64 (IntKind.i64.wrap (((r.length + 1 : Nat) : Int) - 1)))) = _; rw [a2h zO, z0 zO]; simp) ⟨by omega, by omega, .inl rfl⟩ ?_
   refine aU ?_
   refine E_stS hS rfl (xv := .ref o.ro o.rv 0 r.length (some 8)) (by show AV.ref o.ro o.rv (0 + 0 * f5 (some 8)) (r.length - 0) (some 8) = _; simp) (Rp.there Rp.here) rfl rfl zV (fun S hS => ?_)
   have hS2 : Ab.Sep S (L6 fs { o with lv := lv } { s with pans := ps1 } r (c6 z ++ rj1) pj1 ++ ((oi, 0, c6 z) :: R)) := c0q (R := (oi, 0, c6 z) :: R) (hS.perm (by
    refine (List.perm_middle (l₁ := (o.r, 0, h6 fs { o with lv := lv } { s with pans := ps1 } r.length) :: (o.ro, o.rv, rC6 (z :: r) ++ rj1) :: (x6 { o with lv := lv } { s with pans := ps1 } pj1 ++ (z :: r).flatMap o6)) (l₂ := R)).symm))
   clear hS
   refine aU ?_
   refine c9 hS2 rfl (.head _) (v := .ref o.li lv 0 ps1.length (some 2)) rfl ?_
   refine aU ?_
   refine c9 hS2 rfl (List.mem_append_right _ (.head _)) (v := .int .i64 z.why) rfl ?_
   refine aU ?_
   obtain ⟨ps2, h3, h4, h5⟩ := b6d (z := z.toF6) (r := ab6 r) hz i1
   refine a8c (σ := List AV × Nat) (fun _ => [(0, .ptr o.r 0 0)])
    (fun q => L6 fs { o with lv := q.2 } { s with pans := ps2 } r (c6 z ++ rj1) q.1 ++ R)
    (fun _ => ps2.length <= ps1.length) ?_ (fun q S hI hS => ?_)
   ·refine E_cs (t := z.why == 2) rfl (fun hw => ?_) (fun hw => ?_)
    ·have hw' : z.why = 2 := by simpa using hw
     obtain ⟨_, a, b, l, rfl, rfl⟩ : z.why = 2 /\ ∃ a b l, ps1 = a :: b :: l /\ ps2 = a :: l := (a4M h3).resolve_right (fun h => h.1 hw')
     simp only [List.length_cons] at i3
     have hxa : (a :: b :: l).reverse[l.length + 1]? = some a := by simp [List.getElem?_append]
     refine aU ?_
     refine c9 hS2 rfl (.head _) (v := .ref o.li lv 0 (l.length + 2) (some 2)) rfl ?_
     refine aU ?_
     refine p6 rfl rfl (l.length + 1) (by show IntKind.i64.wrap (((l.length + 1 + 1 : Nat) : Int) - 1) = _; exact a2h zO) zO ?_
     refine a4n hS2 n9.enc rfl (.tail _ (.tail _ (.head _))) (n := l.length + 1) (fo := 0) (y := a) zS hxa (v := a.av) rfl ?_
     refine a5G hS2 rfl (fun o4 S hS => ?_)
     refine E_stS hS rfl (xv := a.av) rfl Rp.here rfl rfl zV (fun S hS => ?_)
     refine j8 ?_
     refine y4 ?_
     refine a0r ?_
     refine aU ?_
     refine c9 hS rfl (.tail _ (.head _)) (v := .ref o.li lv 0 (l.length + 2) (some 2)) rfl ?_
     refine aU ?_
     refine a2f (a := 0) (b := l.length) rfl rfl (by show hiN (l.length + 2) (some (.int .i64 (IntKind.i64.wrap (((l.length + 1 + 1 : Nat) : Int) - 2)))) = _; rw [q9 zO, z0 zO]; simp; omega) ⟨by omega, by omega, .inl rfl⟩ ?_
     refine aU ?_
     refine c9 hS rfl (.head _) (v := a.av) rfl ?_
     refine aU ?_
     have e4 : flat n9.av (a :: b :: l).reverse ++ pj1 = flat n9.av l.reverse ++ (b.cells ++ (a.cells ++ pj1)) := by
      rw [List.reverse_cons, List.reverse_cons, n7, n7, List.append_assoc, List.append_assoc]; rfl
     refine a4m (o := o.li) (ver := lv) (f := n9.av) (l := l.reverse) (m := [a]) (j := b.cells ++ (a.cells ++ pj1)) hS n9.enc (by show AV.ref o.li lv (0 + 0 * f5 (some 2)) (l.length - 0) _ = _; rw [List.length_reverse]; simp) (s4 (f := n9.av) (esh := some 2) [a]) (by rw [<- e4]; exact Rp.there (Rp.there (Rp.there Rp.here))) ⟨by simp; omega, by simp; omega⟩ (fun S hS => ?_)
     refine aU ?_
     refine E_stS hS rfl (xv := .ref o.li (lv + 1) 0 (l.length + 1) (some 2)) (by show AV.ref o.li (lv + 1) 0 (l.reverse ++ [a]).length _ = _; simp) (Rp.there Rp.here) rfl rfl zV (fun S hS => ?_)
     refine j8 ?_
     refine And.intro (by simp [a0q, a4A, y6, a1j]) ?_
     refine ⟨([], lv + 1), by simp, ?_, wF⟩
     have e5 : flat n9.av (l.reverse ++ [a]) = flat n9.av (a :: l).reverse ++ [] := by simp
     have hS5 : Ab.Sep S ((o4, 0, a.cells) :: (o.r, 0, h6 fs { o with lv := lv + 1 } { s with pans := a :: l } r.length) :: (o.ro, o.rv, rC6 r ++ (c6 z ++ rj1)) :: (o.li, lv + 1, flat n9.av (l.reverse ++ [a])) :: (o.te, o.tv, flat i9.av s.evs) :: (r.flatMap o6 ++ ((oi, 0, c6 z) :: R))) := hS
     rw [e5] at hS5
     have hS6 := hS5.sub (List.sublist_cons_self _ _)
     exact hS6.sub (.cons_cons _ (.cons_cons _ (.cons_cons _ (.cons_cons _ (List.Sublist.append_left (List.sublist_cons_self _ _) _)))))
    ·have hw' : ¬ z.why = 2 := by simpa using hw
     obtain ⟨_, rfl⟩ := (a4M h3).resolve_left (fun h => hw' h.1)
     refine aU ?_
     exact s5 ⟨(pj1, lv), Nat.le_refl _, hS2.sub (List.Sublist.append_left (List.sublist_cons_self _ _) _), wF⟩
   ·obtain ⟨pj2, lv2⟩ := q
    dsimp only at hS
    refine aU ?_
    refine c9 hS rfl (.head _) (v := .ref o.ro o.rv 0 r.length (some 8)) rfl ?_
    refine aU ?_
    refine E_cs (t := ((r.length : Int) == 0)) rfl (fun hr => ?_) (fun hr => ?_)
    ·have hr0 : r = [] := by
      have : (r.length : Int) = 0 := by simpa using hr
      exact List.length_eq_zero_iff.1 zO
     subst hr0
     obtain ⟨v, h6, h7⟩ := h4 rfl
     obtain ⟨a, l, rfl⟩ : ∃ a l, ps2 = a :: l := by
      cases ps2 with
      | nil => cases h6
      | cons a l => exact ⟨a, l, rfl⟩
     cases h6
     cases h7
     have hla : (a :: l).reverse[l.length]? = some a := by simp
     simp only [List.length_cons] at hI
     refine aU ?_
     refine c9 hS rfl (.head _) (v := .ref o.li lv2 0 (l.length + 1) (some 2)) rfl ?_
     refine aU ?_
     refine c9 hS rfl (.head _) (v := .ref o.li lv2 0 (l.length + 1) (some 2)) rfl ?_
     refine aU ?_
     refine p6 rfl rfl l.length (a2h zO) zO ?_
     refine aU ?_
     refine a4n hS n9.enc rfl (.tail _ (.tail _ (.head _))) (n := l.length) (fo := 0) (y := a) zS hla (v := .int .u64 a.v) rfl ?_
     refine aU ?_
     refine E_stS hS rfl (xv := .agg [.int .i64 2, .int .u64 a.v]) rfl Rp.here rfl rfl zV (fun S hS => ?_)
     refine aU ?_
     refine d8 ?_
     refine aE ?_
     exact ⟨trivial, _, rfl, _, ⟨o.rv, lv2, [], _, pj2, rfl, rfl⟩, hS⟩
    ·have hr0 : r ≠ [] := fun e => by subst e; cases hr
     refine aU ?_
     refine aE ?_
     have hr1 : ab6 r ≠ [] := fun e => hr0 (List.map_eq_nil_iff.1 e)
     exact s5 ⟨(r, ps2, c6 z ++ rj1, pj2, lv2), ⟨h5 hr1, by show r.length < 9999999; omega, by show ps2.length < 10000000; omega, fun y hy => i4 y (.tail _ hy)⟩, by show r.length < (z :: r).length; simp, hS, wF⟩
 | cons x wa =>
   obtain ⟨F, h1, h2⟩ := b4h (z := z.toF6) (r := ab6 r) hz i1
   cases h2
   have hwz := i4 z (.head _)
   rw [hz] at hwz
   refine u6 (a7A (o := { o with lv := lv }) (s := { s with pans := ps' }) (r := r) (w := 2) hz h1 hok zO hd (by simp at hwz; omega)) hS rfl (.refl _) (fun r0 S L' hL hS => ?_)
   obtain ⟨rfl, z1, hz1, rfl⟩ := hL
   refine aU ?_
   refine E_cs (t := false) rfl (fun h => by cases h) (fun _ => ?_)
   refine a1u ?_
   refine aE ?_
   refine ⟨trivial, _, rfl, _, ⟨o.rv + 1, lv, z1 :: { z with wa := wa, wj := x.cells ++ z.wj } :: r, [], pj1, by rw [<- hz1]; rfl, rfl⟩, ?_⟩
   have e1 : max s.depth ((r.length : Int) + 2) = max s.depth (((F :: { z.toF6 with wa := wa } :: ab6 r : List F6).length : Nat) : Int) := by simp [ab6]; omega
   rw [e1] at hS
   exact hS
theorem a3X {rows : List Q6} {v : Int} {ps' : List n9} {en : Option Int} {A' : List F6} (hv : a8n fs (ab6 rows) (⟨v, false⟩ :: s.pans) = some (en, A', ps')) (hok : ∀ g ∈ fs, g.Locals.length < 1000000) (hn : rows.length < 9999999) (hp : s.pans.length < 9999999) (hd : 0 <= s.depth /\ s.depth < 1000000000) (hw : ∀ z ∈ rows, z.wa.length < 100000000) :
  Tri Try.prog 94 [.ptr o.r 0 0, .int .u64 v] (L6 fs o s rows rj pj)
   (fun _ L' => ∃ rv lv rows' rj' pj', ab6 rows' = A' /\ L' = L6 fs { o with rv := rv, lv := lv } { s with pans := ps', panics := max s.panics ((s.pans.length : Int) + 1), ek := if en.isSome then 2 else s.ek, ev := en.getD s.ev, depth := if en.isSome then s.depth else max s.depth (A'.length : Int) } rows' rj' pj') := by
 refine i8 mixed c6b zS [] (fun R S hS => ?_)
 refine aU ?_
 refine c9 hS rfl (.head _) (v := .ref o.li o.lv 0 s.pans.length (some 2)) rfl ?_
 refine aU ?_
 refine a4m (o := o.li) (ver := o.lv) (f := n9.av) (l := s.pans.reverse) (m := [(⟨v, false⟩ : n9)]) (j := pj) hS n9.enc (by show AV.ref o.li o.lv 0 s.pans.length _ = _; rw [List.length_reverse]) (s4 (f := n9.av) (esh := some 2) [(⟨v, false⟩ : n9)]) (Rp.there (Rp.there Rp.here)) ⟨by simp; omega, by simp; omega⟩ (fun S hS => ?_)
 refine aU ?_
 refine E_stS hS rfl (xv := .ref o.li (o.lv + 1) 0 (s.pans.length + 1) (some 2)) (by show AV.ref o.li (o.lv + 1) 0 (s.pans.reverse ++ [(⟨v, false⟩ : n9)]).length _ = _; simp) Rp.here rfl rfl zV (fun S hS => ?_)
 refine aU ?_
 refine c9 hS rfl (.head _) (v := .ref o.li (o.lv + 1) 0 (s.pans.length + 1) (some 2)) rfl ?_
 refine aU ?_
 refine c9 hS rfl (.head _) (v := .int .i64 s.panics) rfl ?_
 refine aU ?_
 have e5 : flat n9.av (s.pans.reverse ++ [(⟨v, false⟩ : n9)]) = flat n9.av ((⟨v, false⟩ : n9) :: s.pans).reverse ++ [] := by simp
 refine a8c (σ := Unit) (fun _ => [(0, .ptr o.r 0 0)]) (fun _ => L6 fs { o with lv := o.lv + 1 } { s with pans := ⟨v, false⟩ :: s.pans, panics := max s.panics ((s.pans.length : Int) + 1) } rows rj [] ++ R) (fun _ => True) ?_ (fun _ S _ hS => ?_)
 ·refine E_cs (t := decide (((s.pans.length + 1 : Nat) : Int) > s.panics)) rfl (fun hq => ?_) (fun hq => ?_)
  ·refine aU ?_
   refine c9 hS rfl (.head _) (v := .ref o.li (o.lv + 1) 0 (s.pans.length + 1) (some 2)) rfl ?_
   refine aU ?_
   have hq' := of_decide_eq_true hq
   refine E_stS hS rfl (xv := .int .i64 (max s.panics ((s.pans.length : Int) + 1))) (by show AV.int .i64 ((s.pans.length + 1 : Nat) : Int) = _; congr 1; omega) Rp.here rfl rfl zV (fun S hS => ?_)
   refine aU ?_
   refine s5 ⟨(), trivial, ?_, wF⟩
   have hS5 : Ab.Sep S ((o.r, 0, h6 fs { o with lv := o.lv + 1 } { s with pans := ⟨v, false⟩ :: s.pans, panics := max s.panics ((s.pans.length : Int) + 1) } rows.length) :: (o.ro, o.rv, rC6 rows ++ rj) :: (o.li, o.lv + 1, flat n9.av (s.pans.reverse ++ [(⟨v, false⟩ : n9)])) :: (o.te, o.tv, flat i9.av s.evs) :: (rows.flatMap o6 ++ R)) := hS
   rw [e5] at hS5
   exact hS5
  ·refine aU ?_
   have hq' := of_decide_eq_false hq
   refine s5 ⟨(), trivial, ?_, wF⟩
   have e : max s.panics ((s.pans.length : Int) + 1) = s.panics := by omega
   rw [e]
   have hS5 : Ab.Sep S ((o.r, 0, h6 fs { o with lv := o.lv + 1 } { s with pans := ⟨v, false⟩ :: s.pans } rows.length) :: (o.ro, o.rv, rC6 rows ++ rj) :: (o.li, o.lv + 1, flat n9.av (s.pans.reverse ++ [(⟨v, false⟩ : n9)])) :: (o.te, o.tv, flat i9.av s.evs) :: (rows.flatMap o6 ++ R)) := hS
   rw [e5] at hS5
   exact hS5
 ·refine aU ?_
  refine u6 (a6I (o := { o with lv := o.lv + 1 }) (s := { s with pans := ⟨v, false⟩ :: s.pans, panics := max s.panics ((s.pans.length : Int) + 1) }) hv hok hn zE hd hw) hS rfl (.refl _) (fun x S L' hL hS => ?_)
  refine aU ?_
  refine aE ?_
  exact ⟨trivial, _, rfl, _, hL, hS⟩
end
end Go.Proofs.Ytnpemocpfdgaoaa

/- ref6's settle: the walk. -/
namespace Go.Proofs.Ytnpemocpfdgaoaa
open Go Go.Ab
set_option maxRecDepth 20000
set_option maxHeartbeats 2000000
noncomputable def c6c : FC := fcO 96
theorem c6d : Fn3 Try.prog 96 161 [] c6c := ⟨_, _, Try.func96, rfl, rfl, rfl, by kernel_rfl⟩

def b0l (fs : List Func) (y : F6) : Option Int := (j7 fs y.f).bind fun g => if 0 <= g.Keep then j7 y.lo g.Keep else some 0
structure RO6 where
 en : Option (Int × Int)
 push : Bool
 A : List F6
 ps : List n9
def a3l (fs : List Func) : List F6 -> List n9 -> Option RO6
 | [], _ => none
 | z :: r, ps => if z.ends = false then some ⟨none, false, z :: r, ps⟩ else
   match z.wa with
   | x :: wa => (a8t fs x.f x.args 1).map fun F => ⟨none, true, F :: { z with wa := wa } :: r, ps⟩
   | [] => match r with
     | [] => some ⟨some (1, 0), false, [], ps⟩
     | y :: t =>
       if z.why = 0 then (j7 fs z.f).bind fun g => a3l fs ((if g.Result then { y with st := z.ret :: y.st } else y) :: t) ps
       else if z.why = 2 then (match ps with
        | [] => none
        | a :: l => if a.rcv then (b0l fs y).bind fun v => a3l fs ({ y with ends := true, ret := v } :: t) l
          else (a8n fs (y :: t) (a :: l)).map fun u => ⟨u.1.map fun v => (2, v), u.1.isNone, u.2.1, u.2.2⟩)
       else a3l fs (y :: t) ps
 termination_by rows => rows.length
theorem b6e {fs : List Func} {z : F6} {r : List F6} {ps : List n9} {u : RO6} (hz : z.ends = false) (h : a3l fs (z :: r) ps = some u) : u = ⟨none, false, z :: r, ps⟩ := by
 unfold a3l at h; rw [if_pos hz] at h; cases h; rfl
theorem b4i {fs : List Func} {z : F6} {r : List F6} {ps : List n9} {u : RO6} {x wa} (hz : z.ends = true) (hw : z.wa = x :: wa) (h : a3l fs (z :: r) ps = some u) : ∃ F, a8t fs x.f x.args 1 = some F /\ u = ⟨none, true, F :: { z with wa := wa } :: r, ps⟩ := by
 unfold a3l at h; rw [if_neg (by simp [hz]), hw] at h
 obtain ⟨F, h1, h2⟩ := Option.map_eq_some_iff.1 h
 exact ⟨F, h1, h2.symm⟩
theorem b4j {fs : List Func} {z : F6} {ps : List n9} {u : RO6} (hz : z.ends = true) (hw : z.wa = []) (h : a3l fs [z] ps = some u) : u = ⟨some (1, 0), false, [], ps⟩ := by
 unfold a3l at h; rw [if_neg (by simp [hz]), hw] at h; cases h; rfl
theorem b4k {fs : List Func} {z y : F6} {t : List F6} {ps : List n9} {u : RO6} (hz : z.ends = true) (hw : z.wa = []) (h : a3l fs (z :: y :: t) ps = some u) :
  (z.why = 0 /\ ∃ g, j7 fs z.f = some g /\ a3l fs ((if g.Result then { y with st := z.ret :: y.st } else y) :: t) ps = some u) \/
  (z.why = 2 /\ ∃ a l, ps = a :: l /\ ((a.rcv = true /\ ∃ v, b0l fs y = some v /\ a3l fs ({ y with ends := true, ret := v } :: t) l = some u) \/
   (a.rcv = false /\ ∃ w, a8n fs (y :: t) (a :: l) = some w /\ u = ⟨w.1.map fun v => (2, v), w.1.isNone, w.2.1, w.2.2⟩))) \/
  (z.why ≠ 0 /\ z.why ≠ 2 /\ a3l fs (y :: t) ps = some u) := by
 unfold a3l at h; rw [if_neg (by simp [hz]), hw] at h
 dsimp only at h
 split at h
 ·rename_i h0
  obtain ⟨g, h1, h2⟩ := Option.bind_eq_some_iff.1 h
  exact .inl ⟨h0, g, h1, h2⟩
 ·rename_i h0
  split at h
  ·rename_i h2
   cases ps with
   | nil => cases h
   | cons a l =>
     dsimp only at h
     split at h
     ·rename_i ha
      obtain ⟨v, h3, h4⟩ := Option.bind_eq_some_iff.1 h
      exact .inr (.inl ⟨h2, a, l, rfl, .inl ⟨ha, v, h3, h4⟩⟩)
     ·rename_i ha
      obtain ⟨w, h3, h4⟩ := Option.map_eq_some_iff.1 h
      exact .inr (.inl ⟨h2, a, l, rfl, .inr ⟨by simpa using ha, w, h3, h4.symm⟩⟩)
  ·rename_i h2
   exact .inr (.inr ⟨h0, h2, h⟩)
section
variable {fs : List Func} {o : O6} {s : S6} {z : Q6} {r : List Q6} {rj pj : List AV}
def S6.ret (s : S6) (u : RO6) : S6 := { s with pans := u.ps, ek := u.en.elim s.ek (·.1), ev := u.en.elim s.ev (·.2), depth := if u.push then max s.depth (u.A.length : Int) else s.depth }
theorem b0m {rows : List Q6} {u : RO6} (hv : a3l fs (ab6 rows) s.pans = some u) (hok : ∀ g ∈ fs, g.Locals.length < 1000000) (hek : s.ek = 0) (hn : rows.length < 9999999) (hp : s.pans.length < 9999999) (hd : 0 <= s.depth /\ s.depth < 1000000000) (hw : ∀ z ∈ rows, z.wa.length < 100000000 /\ z.st.length + rows.length < 200000000) :
  Tri Try.prog 96 [.ptr o.r 0 0] (L6 fs o s rows rj pj)
   (fun _ L' => ∃ rv lv rows' rj' pj', ab6 rows' = u.A /\ L' = L6 fs { o with rv := rv, lv := lv } (s.ret u) rows' rj' pj') := by
 refine i8 mixed c6d zS [2] (fun R S hS => ?_)
 refine g9 (a2U (σ := List Q6 × List n9 × List AV × List AV) (fun _ => [(0, .ptr o.r 0 0)]) (fun q => L6 fs o { s with pans := q.2.1 } q.1 q.2.2.1 q.2.2.2 ++ R)
  (fun q => a3l fs (ab6 q.1) q.2.1 = some u /\ q.1.length < 9999999 /\ q.2.1.length < 9999999 /\ ∀ z ∈ q.1, z.wa.length < 100000000 /\ z.st.length + q.1.length < 200000000) (fun q => q.1.length) (rows, s.pans, rj, pj) hS ⟨hv, hn, hp, hw⟩
  wF (fun q S hI hS => ?_))
 obtain ⟨rows1, ps1, rj1, pj1⟩ := q
 obtain ⟨i1, i2, i3, i4⟩ := hI
 dsimp only at i1 i2 i3 i4 hS
 cases rows1 with
 | nil => unfold a3l at i1; cases i1
 | cons z r =>
 have hrl : r.length < 9999998 := by simp at i2; omega
 refine aU ?_
 refine c9 hS rfl (.head _) (v := .int .i64 0) (by show a0G none (h6 fs o { s with pans := ps1 } (r.length + 1)) (0 + 5 + 0) = _; rw [show h6 fs o { s with pans := ps1 } (r.length + 1) = h6 fs o { s with pans := ps1, ek := 0 } (r.length + 1) by rw [<- hek]]; rfl) ?_
 refine aU ?_
 refine c9 hS rfl (.head _) (v := .ref o.ro o.rv 0 (r.length + 1) (some 8)) rfl ?_
 refine aU ?_
 refine c9 hS rfl (.head _) (v := .ref o.ro o.rv 0 (r.length + 1) (some 8)) rfl ?_
 refine aU ?_
 refine p6 rfl rfl r.length (a2h zO) zO ?_
 refine aU ?_
 refine c9 hS rfl (.tail _ (.head _)) (v := .bool z.ends) (by rw [k9]; exact vT (m8 r) rfl) ?_
 refine aU ?_
 refine E_cs (t := z.ends) rfl (fun hE => ?_) (fun hE => ?_)
 rotate_left
 ·-- it goes on
  refine a1u ?_
  refine aE ?_
  cases b6e hE i1
  exact ⟨trivial, _, rfl, _, ⟨o.rv, o.lv, z :: r, rj1, pj1, rfl, by simp [S6.ret]⟩, hS⟩
 refine aU ?_
 refine g9 ?_
 cases hz : z.wa with
 | cons x wa =>
   obtain ⟨F, h1, h2⟩ := b4i (z := z.toF6) (r := ab6 r) hE hz i1
   have hwz := (i4 z (.head _)).1
   rw [hz] at hwz
   refine aU ?_
   refine u6 (a7A (s := { s with pans := ps1 }) (r := r) (w := 1) hz h1 hok zO hd (by simp at hwz; omega)) hS rfl (.refl _) (fun r0 S L' hL hS => ?_)
   obtain ⟨rfl, z1, hz1, rfl⟩ := hL
   refine aU ?_
   refine E_cs (t := true) rfl (fun _ => ?_) (fun h => by cases h)
   refine d8 ?_
   refine aE ?_
   refine ⟨trivial, _, rfl, _, ⟨o.rv + 1, o.lv, z1 :: { z with wa := wa, wj := x.cells ++ z.wj } :: r, [], pj1, by rw [h2, <- hz1]; rfl, rfl⟩, ?_⟩
   have e1 : s.ret u = { s with pans := ps1, depth := max s.depth ((r.length : Int) + 2) } := by
    rw [h2]; simp [S6.ret, ab6]; omega
   rw [e1]
   exact hS
 | nil =>
 refine aU ?_
 refine u6 (a7z (s := { s with pans := ps1 }) (r := r) (w := 1) hz zO) hS rfl (.refl _) (fun r0 S L' hL hS => ?_)
 obtain ⟨rfl, rfl⟩ := hL
 refine aU ?_
 refine E_cs (t := false) rfl (fun h => by cases h) (fun _ => ?_)
 refine aU ?_
 refine a0r ?_
 refine aU ?_
 refine c9 hS rfl (.head _) (v := .ref o.ro o.rv 0 (r.length + 1) (some 8)) rfl ?_
 refine aU ?_
 refine c9 hS rfl (.head _) (v := .ref o.ro o.rv 0 (r.length + 1) (some 8)) rfl ?_
 refine aU ?_
 refine p6 rfl rfl r.length (a2h zO) zO ?_
 refine c9 hS rfl (.tail _ (.head _)) (v := .agg (c6 z)) (by rw [k9]; exact vT0 (m8 r) rfl) ?_
 refine a5G hS rfl (fun oi S hS => ?_)
 have h1 : o.r ≠ oi := fun e => (List.nodup_cons.1 hS.2).1 (by rw [<- e]; exact List.mem_map.2 ⟨_, .head _, rfl⟩)
 have h2 : o.ro ≠ oi := fun e => (List.nodup_cons.1 hS.2).1 (by rw [<- e]; exact List.mem_map.2 ⟨_, .tail _ (.head _), rfl⟩)
 refine E_stS hS rfl (xv := .agg (c6 z)) rfl Rp.here rfl (b6L z) zV (fun S hS => ?_)
 refine j8 ?_
 refine And.intro (by simp [a0q, a4A, y6, a1j, h1, h2, Ne.symm h1, Ne.symm h2]) ?_
 refine aU ?_
 refine c9 hS rfl (.tail _ (.head _)) (v := .ref o.ro o.rv 0 (r.length + 1) (some 8)) rfl ?_
 refine aU ?_
 refine c9 hS rfl (.tail _ (.head _)) (v := .ref o.ro o.rv 0 (r.length + 1) (some 8)) rfl ?_
 refine aU ?_
 refine a2f (a := 0) (b := r.length) rfl rfl (by show hiN (r.length + 1) (some (.int .i64 (IntKind.i64.wrap (((r.length + 1 : Nat) : Int) - 1)))) = _; rw [a2h zO, z0 zO]; simp) ⟨by omega, by omega, .inl rfl⟩ ?_
 refine aU ?_
 refine E_stS hS rfl (xv := .ref o.ro o.rv 0 r.length (some 8)) (by show AV.ref o.ro o.rv (0 + 0 * f5 (some 8)) (r.length - 0) (some 8) = _; simp) (Rp.there Rp.here) rfl rfl zV (fun S hS => ?_)
 have hS2 : Ab.Sep S (L6 fs o { s with pans := ps1 } r (c6 z ++ rj1) pj1 ++ ((oi, 0, c6 z) :: R)) := c0q (R := (oi, 0, c6 z) :: R) (hS.perm (by
  refine (List.perm_middle (l₁ := (o.r, 0, h6 fs o { s with pans := ps1 } r.length) :: (o.ro, o.rv, rC6 (z :: r) ++ rj1) :: (x6 o { s with pans := ps1 } pj1 ++ (z :: r).flatMap o6)) (l₂ := R)).symm))
 clear hS
 refine aU ?_
 refine c9 hS2 rfl (.head _) (v := .ref o.ro o.rv 0 r.length (some 8)) rfl ?_
 refine aU ?_
 refine E_cs (t := ((r.length : Int) == 0)) rfl (fun hr => ?_) (fun hr => ?_)
 ·have hr0 : r = [] := by
   have : (r.length : Int) = 0 := by simpa using hr
   exact List.length_eq_zero_iff.1 zO
  subst hr0
  cases b4j hE hz i1
  refine aU ?_
  refine E_stS hS2 rfl (xv := .agg [.int .i64 1, .int .u64 0]) rfl Rp.here rfl rfl zV (fun S hS => ?_)
  refine aU ?_
  refine d8 ?_
  refine aE ?_
  exact ⟨trivial, _, rfl, _, ⟨o.rv, o.lv, [], c6 z ++ rj1, pj1, rfl, rfl⟩, hS.sub (List.Sublist.append_left (List.sublist_cons_self _ _) _)⟩
 cases r with
 | nil => cases hr
 | cons y t =>
 have htl : t.length < 9999998 := by simp at hrl; omega
 refine aU ?_
 refine c9 hS2 rfl (.head _) (v := .ref o.ro o.rv 0 (t.length + 1) (some 8)) rfl ?_
 refine aU ?_
 refine c9 hS2 rfl (.head _) (v := .ref o.ro o.rv 0 (t.length + 1) (some 8)) rfl ?_
 refine aU ?_
 refine p6 rfl rfl t.length (a2h zO) zO ?_
 refine aU ?_
 refine c9 hS2 rfl (List.mem_append_right _ (.head _)) (v := .int .i64 z.why) rfl ?_
 refine aU ?_
 have hstp := b4k (z := z.toF6) (y := y.toF6) (t := ab6 t) hE hz i1
 have hoi : oi ∉ (L6 fs o { s with pans := ps1 } (y :: t) (c6 z ++ rj1) pj1).map (·.1) := fun hm => by
  have hS3 := hS2.perm List.perm_middle
  exact (List.nodup_cons.1 hS3.2).1 (by rw [List.map_append]; exact List.mem_append_left _ hm)
 have i5 : ∀ q ∈ y :: t, q.wa.length < 100000000 /\ q.st.length + 1 + (y :: t).length < 200000000 := fun q hq => by
  have := i4 q (.tail _ hq)
  simp only [List.length_cons] at this ⊢
  omega
 refine a6k (b := z.why == 0) rfl rfl rfl (fun hb => ?_) (fun hb => ?_)
 ·have hw0 : z.why = 0 := by simpa using hb
  obtain ⟨g, hg, hg2⟩ : ∃ g, j7 fs z.f = some g /\ a3l fs ((if g.Result then { y.toF6 with st := z.ret :: y.st } else y.toF6) :: ab6 t) ps1 = some u := by
   rcases hstp with ⟨_, g, h3, h4⟩ | ⟨h3, _⟩ | ⟨h3, _⟩
   ·exact ⟨g, h3, h4⟩
   ·exact absurd (hw0.symm.trans h3) zD
   ·exact absurd hw0 h3
  refine aU ?_
  refine c9 hS2 rfl (.head _) (v := .sl false 5 (List.map Func.av fs)) rfl ?_
  refine aU ?_
  refine c9 hS2 rfl (List.mem_append_right _ (.head _)) (v := .int .i64 z.f) rfl ?_
  refine aU ?_
  refine l8 (esh := some 5) (f := Func.av) (ys := fs) (y := g) rfl rfl hg ?_
  refine aU ?_
  refine E_cs (t := g.Result) rfl (fun hR => ?_) (fun hR => ?_)
  ·rw [if_pos hR] at hg2
   have hyl := i5 y (.head _)
   refine aU ?_
   refine a0r ?_
   refine aU ?_
   refine c9 hS2 rfl (.tail _ (.head _)) (v := .ref y.sl y.sv 0 y.st.length none) (by rw [k9]; exact vT (m8 t) rfl) ?_
   refine aU ?_
   refine c9 hS2 rfl (List.mem_append_right _ (.head _)) (v := .int .u64 z.ret) rfl ?_
   refine aU ?_
   refine a4m (o := y.sl) (ver := y.sv) (f := avI .u64) (l := y.st.reverse) (m := [z.ret]) (j := y.sj) hS2 (f7 .u64) (by show AV.ref y.sl y.sv 0 y.st.length none = _; rw [List.length_reverse]) (s4 (f := avI .u64) (esh := none) [z.ret]) (Rp.there (Rp.there (Rp.there (Rp.there (Rp.there Rp.here))))) ⟨by simp; omega, by simp; omega⟩ (fun S hS => ?_)
   refine aU ?_
   refine E_stS hS rfl (xv := .ref y.sl (y.sv + 1) 0 (y.st.length + 1) none) (by show AV.ref y.sl (y.sv + 1) 0 (y.st.reverse ++ [z.ret]).length _ = _; simp) (b0k zO rfl) rfl rfl (a1r zO) (fun S hS => ?_)
   have e1 : flat (avI .u64) (z.ret :: y.st).reverse ++ [] = flat (avI .u64) (y.st.reverse ++ [z.ret]) := by simp
   have hS3 : Ab.Sep S (L6 fs o { s with pans := ps1 } ({ y with st := z.ret :: y.st, sv := y.sv + 1, sj := [] } :: t) (c6 z ++ rj1) pj1 ++ ((oi, 0, c6 z) :: R)) := by
    unfold L6
    rw [k9]
    show Ab.Sep S (_ :: _ :: _ :: _ :: _ :: (y.sl, y.sv + 1, flat (avI .u64) (z.ret :: y.st).reverse ++ []) :: _)
    rw [e1]
    exact hS
   have n1 : o.ro ≠ oi := fun e => hoi (by rw [<- e]; exact .tail _ (.head _))
   have n2 : y.sl ≠ oi := fun e => hoi (by rw [<- e]; exact List.mem_map.2 ⟨_, .tail _ (.tail _ (.tail _ (.tail _ (.tail _ (.head _))))), rfl⟩)
   refine j8 ?_
   refine And.intro (by simp [a0q, a4A, y6, a1j, n1, n2, Ne.symm n1, Ne.symm n2]) ?_
   refine aU ?_
   refine c9 hS3 rfl (List.mem_append_right _ (.head _)) (v := .int .i64 z.why) rfl ?_
   refine aU ?_
   refine E_cs (t := false) (by show AV.bool (z.why == 2) = _; rw [hw0]; rfl) (fun h => by cases h) (fun _ => ?_)
   refine aU ?_
   refine aE ?_
   exact s5 ⟨({ y with st := z.ret :: y.st, sv := y.sv + 1, sj := [] } :: t, ps1, c6 z ++ rj1, pj1), ⟨hg2, by show t.length + 1 < _; omega, i3, fun q hq => by
    rcases List.mem_cons.1 hq with rfl | hq
    ·have := i5 y (.head _); simp only [List.length_cons] at this ⊢; omega
    ·have := i5 q (.tail _ hq); simp only [List.length_cons] at this ⊢; omega⟩, by show t.length + 1 < (z :: y :: t).length; simp, hS3.sub (List.Sublist.append_left (List.sublist_cons_self _ _) _), wF⟩
  ·rw [if_neg (by simp [hR])] at hg2
   refine aU ?_
   refine c9 hS2 rfl (List.mem_append_right _ (.head _)) (v := .int .i64 z.why) rfl ?_
   refine aU ?_
   refine E_cs (t := false) (by show AV.bool (z.why == 2) = _; rw [hw0]; rfl) (fun h => by cases h) (fun _ => ?_)
   refine aU ?_
   refine aE ?_
   exact s5 ⟨(y :: t, ps1, c6 z ++ rj1, pj1), ⟨hg2, by show t.length + 1 < _; omega, i3, fun q hq => by have := i5 q hq; simp only [List.length_cons] at this ⊢; omega⟩, by show t.length + 1 < (z :: y :: t).length; simp, hS2.sub (List.Sublist.append_left (List.sublist_cons_self _ _) _), wF⟩
 ·have hw0 : z.why ≠ 0 := by simpa using hb
  refine aU ?_
  refine E_cs (t := false) rfl (fun h => by cases h) (fun _ => ?_)
  refine aU ?_
  refine c9 hS2 rfl (List.mem_append_right _ (.head _)) (v := .int .i64 z.why) rfl ?_
  refine aU ?_
  refine E_cs (t := z.why == 2) rfl (fun hb => ?_) (fun hb => ?_)
  ·have hw2 : z.why = 2 := by simpa using hb
   obtain ⟨a, l, rfl, h4⟩ : ∃ a l, ps1 = a :: l /\ ((a.rcv = true /\ ∃ v, b0l fs y.toF6 = some v /\ a3l fs ({ y.toF6 with ends := true, ret := v } :: ab6 t) l = some u) \/
     (a.rcv = false /\ ∃ w, a8n fs (y.toF6 :: ab6 t) (a :: l) = some w /\ u = ⟨w.1.map fun v => (2, v), w.1.isNone, w.2.1, w.2.2⟩)) := by
    rcases hstp with ⟨h3, _⟩ | ⟨_, a, l, h3, h4⟩ | ⟨_, h3, _⟩
    ·exact absurd h3 hw0
    ·exact ⟨a, l, h3, h4⟩
    ·exact absurd hw2 h3
   have hll : l.length < 9999998 := by simp at i3; omega
   have hxa : (a :: l).reverse[l.length]? = some a := by simp
   refine aU ?_
   refine c9 hS2 rfl (.head _) (v := .ref o.li o.lv 0 (l.length + 1) (some 2)) rfl ?_
   refine aU ?_
   refine c9 hS2 rfl (.head _) (v := .ref o.li o.lv 0 (l.length + 1) (some 2)) rfl ?_
   refine aU ?_
   refine p6 rfl rfl l.length (a2h zO) zO ?_
   refine aU ?_
   refine a4n hS2 n9.enc rfl (.tail _ (.tail _ (.head _))) (n := l.length) (fo := 1) (y := a) zS hxa (v := .bool a.rcv) rfl ?_
   refine aU ?_
   refine E_cs (t := !a.rcv) rfl (fun hq => ?_) (fun hq => ?_)
   ·have hq' : a.rcv = false := by simpa using hq
    obtain ⟨w, h5, h6⟩ : ∃ w, a8n fs (y.toF6 :: ab6 t) (a :: l) = some w /\ u = ⟨w.1.map fun v => (2, v), w.1.isNone, w.2.1, w.2.2⟩ := by
     rcases h4 with ⟨h4, _⟩ | ⟨_, w, h5, h6⟩
     ·rw [hq'] at h4; cases h4
     ·exact ⟨w, h5, h6⟩
    refine aU ?_
    refine u6 (a6I (rows := y :: t) (s := { s with pans := a :: l }) h5 hok (by show t.length + 1 < _; omega) (by show l.length + 1 < _; omega) hd (fun q hq => (i5 q hq).1)) hS2 rfl (.refl _) (fun x S L' hL hS => ?_)
    refine aU ?_
    refine d8 ?_
    refine aE ?_
    obtain ⟨rv, lv, rows', rj', pj', h7, rfl⟩ := hL
    obtain ⟨en, A', ps'⟩ := w
    refine ⟨trivial, _, rfl, _, ⟨rv, lv, rows', rj', pj', by rw [h6, h7], ?_⟩, hS.sub (List.Sublist.append_left (List.sublist_cons_self _ _) _)⟩
    rw [h6]
    cases en <;> rfl
   ·have hq' : a.rcv = true := by simpa using hq
    obtain ⟨v, h5, h6⟩ : ∃ v, b0l fs y.toF6 = some v /\ a3l fs ({ y.toF6 with ends := true, ret := v } :: ab6 t) l = some u := by
     rcases h4 with ⟨_, v, h5, h6⟩ | ⟨h4, _⟩
     ·exact ⟨v, h5, h6⟩
     ·rw [hq'] at h4; cases h4
    obtain ⟨g, h7, h8⟩ := Option.bind_eq_some_iff.1 h5
    refine aU ?_
    refine c9 hS2 rfl (.head _) (v := .ref o.li o.lv 0 (l.length + 1) (some 2)) rfl ?_
    refine aU ?_
    refine a2f (a := 0) (b := l.length) rfl rfl (by show hiN (l.length + 1) (some (.int .i64 (IntKind.i64.wrap (((l.length + 1 : Nat) : Int) - 1)))) = _; rw [a2h zO, z0 zO]; simp) ⟨by omega, by omega, .inl rfl⟩ ?_
    refine aU ?_
    refine E_stS hS2 rfl (xv := .ref o.li o.lv 0 l.length (some 2)) (by show AV.ref o.li o.lv (0 + 0 * f5 (some 2)) (l.length - 0) (some 2) = _; simp) Rp.here rfl rfl zV (fun S hS => ?_)
    have e4 : flat n9.av (a :: l).reverse ++ pj1 = flat n9.av l.reverse ++ (a.cells ++ pj1) := by
     rw [List.reverse_cons, n7, List.append_assoc]; rfl
    have hS3 : Ab.Sep S (L6 fs o { s with pans := l } (y :: t) (c6 z ++ rj1) (a.cells ++ pj1) ++ ((oi, 0, c6 z) :: R)) := by
     unfold L6
     show Ab.Sep S (_ :: _ :: (o.li, o.lv, flat n9.av l.reverse ++ (a.cells ++ pj1)) :: _)
     rw [<- e4]
     exact hS
    clear hS
    refine aU ?_
    refine E_stS hS3 rfl (xv := .bool true) rfl (a4f (z' := { y with ends := true }) zO rfl rfl rfl) rfl rfl (a1r zO) (fun S hS => ?_)
    refine aU ?_
    refine E_stS hS rfl (xv := .int .u64 0) rfl (a4f (z' := { y with ends := true, ret := 0 }) zO rfl rfl rfl) rfl rfl (a1r zO) (fun S hS => ?_)
    refine aU ?_
    refine c9 hS rfl (.head _) (v := .sl false 5 (List.map Func.av fs)) rfl ?_
    refine aU ?_
    refine c9 hS rfl (.tail _ (.head _)) (v := .int .i64 y.f) (by rw [k9]; exact vT (m8 t) rfl) ?_
    refine aU ?_
    refine l8 (esh := some 5) (f := Func.av) (ys := fs) (y := g) rfl rfl h7 ?_
    refine aU ?_
    refine E_cs (t := decide (g.Keep >= 0)) rfl (fun hk => ?_) (fun hk => ?_)
    ·have hk' := of_decide_eq_true hk
     rw [if_pos hk'] at h8
     obtain ⟨k1, k2, k3⟩ := d9 h8
     refine aU ?_
     refine c9 hS rfl (.tail _ (.head _)) (v := .ref y.pl y.pv 0 y.lo.length none) (by rw [k9]; exact vT (m8 t) rfl) ?_
     refine aU ?_
     refine p6 rfl rfl g.Keep.toNat zO zO ?_
     refine a7m hS (f7 .u64) rfl b6K (n := g.Keep.toNat) (fo := 0) (y := v) (by simp [f5]) k3 (v := .int .u64 v) rfl ?_
     refine aU ?_
     refine E_stS hS rfl (xv := .int .u64 v) rfl (a4f (z' := { y with ends := true, ret := v }) zO rfl rfl rfl) rfl rfl (a1r zO) (fun S hS => ?_)
     refine aU ?_
     refine aE ?_
     exact s5 ⟨({ y with ends := true, ret := v } :: t, l, c6 z ++ rj1, a.cells ++ pj1), ⟨h6, by show t.length + 1 < _; omega, by show l.length < _; omega, fun q hq => by
      rcases List.mem_cons.1 hq with rfl | hq
      ·have := i5 y (.head _); simp only [List.length_cons] at this ⊢; omega
      ·have := i5 q (.tail _ hq); simp only [List.length_cons] at this ⊢; omega⟩, by show t.length + 1 < (z :: y :: t).length; simp, hS.sub (List.Sublist.append_left (List.sublist_cons_self _ _) _), wF⟩
    ·have hk' := of_decide_eq_false hk
     rw [if_neg hk'] at h8
     cases h8
     refine aU ?_
     refine aE ?_
     exact s5 ⟨({ y with ends := true, ret := 0 } :: t, l, c6 z ++ rj1, a.cells ++ pj1), ⟨h6, by show t.length + 1 < _; omega, by show l.length < _; omega, fun q hq => by
      rcases List.mem_cons.1 hq with rfl | hq
      ·have := i5 y (.head _); simp only [List.length_cons] at this ⊢; omega
      ·have := i5 q (.tail _ hq); simp only [List.length_cons] at this ⊢; omega⟩, by show t.length + 1 < (z :: y :: t).length; simp, hS.sub (List.Sublist.append_left (List.sublist_cons_self _ _) _), wF⟩
  ·have hw2 : z.why ≠ 2 := by simpa using hb
   have h5 : a3l fs (y.toF6 :: ab6 t) ps1 = some u := by
    rcases hstp with ⟨h3, _⟩ | ⟨h3, _⟩ | ⟨_, _, h5⟩
    ·exact absurd h3 hw0
    ·exact absurd h3 hw2
    ·exact h5
   refine aU ?_
   refine aE ?_
   exact s5 ⟨(y :: t, ps1, c6 z ++ rj1, pj1), ⟨h5, by show t.length + 1 < _; omega, i3, fun q hq => by have := i5 q hq; simp only [List.length_cons] at this ⊢; omega⟩, by show t.length + 1 < (z :: y :: t).length; simp, hS2.sub (List.Sublist.append_left (List.sublist_cons_self _ _) _), wF⟩
end
end Go.Proofs.Ytnpemocpfdgaoaa

/- ref6's Step: what comes ahead of its operations. -/
namespace Go.Proofs.Ytnpemocpfdgaoaa
open Go Go.Ab
set_option maxRecDepth 20000
set_option maxHeartbeats 2000000
noncomputable def c2I : FC := fcO 65
noncomputable def b8f : FC := pB (pR (pR (pR (pR (pR (pR c2I))))))
theorem a5U : Fn3 Try.prog 65 366 [] c2I := ⟨_, _, Try.func65, rfl, rfl, rfl, by kernel_rfl⟩

section
variable {fs : List Func} {o : O6} {s : S6} {z : Q6} {r : List Q6} {rj pj : List AV}
theorem p2 (a b : It) (X R : List It) : List.Perm (a :: b :: (X ++ R)) (X ++ (a :: b :: R)) := (List.Perm.cons a List.perm_middle.symm).trans List.perm_middle.symm
theorem p7 {g : Func} {i : Instr} {R : List It} {S : List Ob} {K : Post} (hg : j7 fs z.f = some g) (hi : j7 g.Code z.pc = some i) (hpc : z.pc < 4611686018427387904) (hst : 0 <= s.steps /\ s.steps < 4611686018427387904) (hn : r.length < 100000000) (hS : Ab.Sep S (L6 fs o s (z :: r) rj pj ++ R))
  (h : ∀ oi og S', Ab.Sep S' (L6 fs o { s with steps := s.steps + 1 } ({ z with pc := z.pc + 1 } :: r) rj pj ++ ((oi, 0, i.cells) :: (og, 0, g.cells) :: R)) -> VT Try.prog S [3, 4] b8f [(62, .int .u8 i.Op), (0, .ptr o.r 0 0), (2, .ptr o.ro o.rv (0 + r.length * f5 (some 8))), (3, .ptr og 0 0), (4, .ptr oi 0 0)] S' (Post.blk 0 K)) :
  VT Try.prog S [3, 4] c2I (a2a 0 [.ptr o.r 0 0]) S K := by
 have hi0 := (d9 hi).1
 refine v7 ?_
 refine m7 ?_
 refine aS ?_
 refine c9 hS rfl (.head _) (v := .int .i64 s.steps) rfl ?_
 refine aS ?_
 refine E_stS hS rfl (xv := .int .i64 (s.steps + 1)) (by show AV.int .i64 (IntKind.i64.wrap (s.steps + 1)) = _; rw [q9 zO]) Rp.here rfl rfl zV (fun S hS => ?_)
 have hS0 : Ab.Sep S (L6 fs o { s with steps := s.steps + 1 } (z :: r) rj pj ++ R) := hS
 clear hS
 refine aU ?_
 refine c9 hS0 rfl (.head _) (v := .ref o.ro o.rv 0 (r.length + 1) (some 8)) rfl ?_
 refine aU ?_
 refine c9 hS0 rfl (.head _) (v := .ref o.ro o.rv 0 (r.length + 1) (some 8)) rfl ?_
 refine aU ?_
 refine p6 rfl rfl r.length (a2h zO) zO ?_
 refine aU ?_
 refine a0r ?_
 refine aS ?_
 refine c9 hS0 rfl (.head _) (v := .sl false 5 (List.map Func.av fs)) rfl ?_
 refine aU ?_
 refine c9 hS0 rfl (.tail _ (.head _)) (v := .int .i64 z.f) (by rw [k9]; exact vT (m8 r) rfl) ?_
 refine aU ?_
 refine l8 (esh := some 5) (f := Func.av) (ys := fs) (y := g) rfl rfl hg ?_
 refine aU ?_
 refine a5G hS0 rfl (fun og S hS => ?_)
 have hgr : o.r ≠ og := fun e => (List.nodup_cons.1 hS.2).1 (by rw [<- e]; exact List.mem_map.2 ⟨_, .head _, rfl⟩)
 have hgo : o.ro ≠ og := fun e => (List.nodup_cons.1 hS.2).1 (by rw [<- e]; exact List.mem_map.2 ⟨_, .tail _ (.head _), rfl⟩)
 refine E_stS hS rfl (xv := g.av) rfl Rp.here rfl rfl zV (fun S hS => ?_)
 refine j8 ?_
 refine And.intro (by simp [a0q, a4A, y6, a1j, hgr, hgo, Ne.symm hgr, Ne.symm hgo]) ?_
 refine y4 ?_
 refine v7 ?_
 refine a0r ?_
 refine aU ?_
 refine c9 hS rfl (.head _) (v := .sl false 3 (List.map Instr.av g.Code)) rfl ?_
 refine aU ?_
 refine c9 hS rfl (.tail _ (.tail _ (.head _))) (v := .int .i64 z.pc) (by rw [k9]; exact vT (m8 r) rfl) ?_
 refine aU ?_
 refine l8 (esh := some 3) (f := Instr.av) (ys := g.Code) (y := i) rfl rfl hi ?_
 refine aU ?_
 refine a5G hS rfl (fun oi S hS => ?_)
 have hir : o.ro ≠ oi := fun e => (List.nodup_cons.1 hS.2).1 (by rw [<- e]; exact List.mem_map.2 ⟨_, .tail _ (.tail _ (.head _)), rfl⟩)
 have hig : og ≠ oi := fun e => (List.nodup_cons.1 hS.2).1 (by rw [<- e]; exact List.mem_map.2 ⟨_, .head _, rfl⟩)
 refine E_stS hS rfl (xv := i.av) rfl Rp.here rfl rfl zV (fun S hS => ?_)
 refine j8 ?_
 refine And.intro (by simp [a0q, a4A, y6, a1j, hir, hig, Ne.symm hir, Ne.symm hig]) ?_
 refine y4 ?_
 refine v7 ?_
 refine m7 ?_
 refine aS ?_
 have hS1 := hS.perm (p2 _ _ (L6 fs o { s with steps := s.steps + 1 } (z :: r) rj pj) R)
 clear hS
 refine c9 hS1 rfl (.tail _ (.head _)) (v := .int .i64 z.pc) (by rw [k9]; exact vT (m8 r) rfl) ?_
 refine aS ?_
 refine E_stS hS1 rfl (xv := .int .i64 (z.pc + 1)) (by show AV.int .i64 (IntKind.i64.wrap (z.pc + 1)) = _; rw [q9 zO]) (a4f (z' := { z with pc := z.pc + 1 }) zO rfl rfl rfl) rfl rfl (a1r zO) (fun S hS => ?_)
 refine j8 ?_
 refine a4F (F := [(0, .ptr o.r 0 0), (2, .ptr o.ro o.rv (0 + r.length * f5 (some 8))), (3, .ptr og 0 0), (4, .ptr oi 0 0)]) wF ?_
 refine v7 ?_
 refine m7 ?_
 refine aS ?_
 refine c9 hS rfl (List.mem_append_right _ (.head _)) (v := .int .u8 i.Op) rfl ?_
 refine j8 ?_
 refine a4F (F := [(62, .int .u8 i.Op), (0, .ptr o.r 0 0), (2, .ptr o.ro o.rv (0 + r.length * f5 (some 8))), (3, .ptr og 0 0), (4, .ptr oi 0 0)]) wF ?_
 exact g9 (h oi og S hS)
def At6 (fs : List Func) (r0 : Nat) (t : S6 × List F6) (L : List It) : Prop := ∃ (o : O6) (rows : List Q6) (rj pj : List AV), o.r = r0 /\ ab6 rows = t.2 /\ L = L6 fs o t.1 rows rj pj
theorem a1s {a b : It} {A R : List It} {S : List Ob} (h : Ab.Sep S (A ++ (a :: b :: R))) : Ab.Sep S (A ++ R) := h.sub (List.Sublist.append_left ((List.sublist_cons_self _ _).trans (List.sublist_cons_self _ _)) _)
structure B6 (s : S6) (z : Q6) (r : List Q6) : Prop where
 pc : z.pc < 4611686018427387904
 st : 0 <= s.steps /\ s.steps < 4611686018427387904
 n : r.length < 9999998
 s : z.st.length < 100000000
theorem c2J {g : Func} {k im : Int} (B : B6 s z r) (hg : j7 fs z.f = some g) (hi : j7 g.Code z.pc = some ⟨1, k, im⟩) :
  Tri Try.prog 65 [.ptr o.r 0 0] (L6 fs o s (z :: r) rj pj) (fun _ L' => At6 fs o.r ({ s with steps := s.steps + 1 }, { z.toF6 with pc := z.pc + 1, st := im :: z.st } :: ab6 r) L') := by
 refine i8 mixed a5U zS [3, 4] (fun R S hS => p7 hg hi B.pc B.st (by have := B.n; omega) hS (fun oi og S hS => ?_))
 refine a0i rfl rfl ?_
 refine aU ?_
 refine c9 hS rfl (List.mem_append_right _ (.head _)) (v := .int .u64 im) rfl ?_
 refine aU ?_
 refine u6 (a0d (z := { z with pc := z.pc + 1 }) (v := im) (by have := B.n; omega) (by show z.st.length < _; have := B.s; omega)) hS rfl (.refl _) (fun x S L' hL hS => ?_)
 subst hL
 refine aU ?_
 refine aE ?_
 exact ⟨trivial, _, rfl, _, ⟨o, _, _, _, rfl, rfl, rfl⟩, a1s hS⟩
end
end Go.Proofs.Ytnpemocpfdgaoaa

/- ref6's Step, operation by operation (printed by mkR6.py). -/
namespace Go.Proofs.Ytnpemocpfdgaoaa
open Go Go.Ab
set_option maxRecDepth 20000
set_option maxHeartbeats 2000000
def b8g (n : Nat) (k : Int) : Int := IntKind.u64.wrap (IntKind.i64.wrap (IntKind.i64.wrap (1000 * (n : Int)) + k))
def b1h (fs : List Func) (s : S6) (rows : List F6) (v : Int) : Option (S6 × List F6) := (a8n fs rows (⟨v, false⟩ :: s.pans)).map fun u =>
 ({ s with pans := u.2.2, panics := max s.panics ((s.pans.length : Int) + 1), ek := if u.1.isSome then 2 else s.ek, ev := u.1.getD s.ev, depth := if u.1.isSome then s.depth else max s.depth (u.2.1.length : Int) }, u.2.1)
section
variable {fs : List Func} {o : O6} {s : S6} {z : Q6} {r : List Q6} {rj pj : List AV}
theorem c2K {g : Func} {k im : Int} {v : Int} (B : B6 s z r) (hg : j7 fs z.f = some g) (hi : j7 g.Code z.pc = some ⟨2, k, im⟩) (hv : j7 z.lo k = some v) :
  Tri Try.prog 65 [.ptr o.r 0 0] (L6 fs o s (z :: r) rj pj) (fun _ L' => At6 fs o.r ({ s with steps := s.steps + 1 }, { z.toF6 with pc := z.pc + 1, st := v :: z.st } :: ab6 r) L') := by
 refine i8 mixed a5U zS [3, 4] (fun R S hS => p7 hg hi B.pc B.st (by have := B.n; omega) hS (fun oi og S hS => ?_))
 (repeat refine j4 rfl rfl ?_)
 refine a0i rfl rfl ?_
 refine aU ?_
 have hs := B.s
 obtain ⟨h1, h2, h3⟩ := d9 hv
 refine c9 hS rfl (.tail _ (.head _)) (v := .ref z.pl z.pv 0 z.lo.length none) (by rw [k9]; exact vT (m8 r) rfl) ?_
 refine aU ?_
 refine c9 hS rfl (List.mem_append_right _ (.head _)) (v := .int .i64 k) rfl ?_
 refine aU ?_
 refine p6 rfl rfl k.toNat zO zO ?_
 refine a7m hS (f7 .u64) rfl b6K (n := k.toNat) (fo := 0) (y := v) (by simp [f5]) h3 (v := .int .u64 v) rfl ?_
 refine aU ?_
 refine u6 (a0d (z := { z with pc := z.pc + 1 }) (v := v) (by have := B.n; omega) (by show z.st.length < _; omega)) hS rfl (.refl _) (fun x S L' hL hS => ?_)
 subst hL
 refine aU ?_
 refine aE ?_
 exact ⟨trivial, _, rfl, _, ⟨o, _, _, _, rfl, rfl, rfl⟩, a1s hS⟩
theorem c2L {g : Func} {k im : Int} (B : B6 s z r) (hg : j7 fs z.f = some g) (hi : j7 g.Code z.pc = some ⟨4, k, im⟩) :
  Tri Try.prog 65 [.ptr o.r 0 0] (L6 fs o s (z :: r) rj pj) (fun _ L' => At6 fs o.r ({ s with steps := s.steps + 1 }, { z.toF6 with pc := z.pc + 1, st := b8g (r.length + 1) k :: z.st } :: ab6 r) L') := by
 refine i8 mixed a5U zS [3, 4] (fun R S hS => p7 hg hi B.pc B.st (by have := B.n; omega) hS (fun oi og S hS => ?_))
 (repeat refine j4 rfl rfl ?_)
 refine a0i rfl rfl ?_
 refine aU ?_
 have hs := B.s
 refine c9 hS rfl (.head _) (v := .ref o.ro o.rv 0 (r.length + 1) (some 8)) rfl ?_
 refine aU ?_
 refine c9 hS rfl (List.mem_append_right _ (.head _)) (v := .int .i64 k) rfl ?_
 refine aU ?_
 refine u6 (a0d (z := { z with pc := z.pc + 1 }) (v := b8g (r.length + 1) k) (by have := B.n; omega) (by show z.st.length < _; omega)) hS rfl (.refl _) (fun x S L' hL hS => ?_)
 subst hL
 refine aU ?_
 refine aE ?_
 exact ⟨trivial, _, rfl, _, ⟨o, _, _, _, rfl, rfl, rfl⟩, a1s hS⟩
theorem c0r {g : Func} {k im : Int} {v : Int} {st : List Int} (B : B6 s z r) (hg : j7 fs z.f = some g) (hi : j7 g.Code z.pc = some ⟨31, k, im⟩) (hst : z.st = v :: st) (hs : st.length < 100000000) :
  Tri Try.prog 65 [.ptr o.r 0 0] (L6 fs o s (z :: r) rj pj) (fun _ L' => At6 fs o.r ({ s with steps := s.steps + 1 }, { z.toF6 with pc := z.pc + 1, st := st } :: ab6 r) L') := by
 refine i8 mixed a5U zS [3, 4] (fun R S hS => p7 hg hi B.pc B.st (by have := B.n; omega) hS (fun oi og S hS => ?_))
 (repeat refine j4 rfl rfl ?_)
 refine a3d rfl zD zD rfl rfl (fun h => by cases h) (fun _ => ?_)
 (repeat refine j4 rfl rfl ?_)
 refine a0i rfl rfl ?_
 refine aU ?_
 refine u6 (w8 (z := { z with pc := z.pc + 1 }) hst (by have := B.n; omega) zO) hS rfl (.refl _) (fun x S L' hL hS => ?_)
 obtain ⟨rfl, rfl⟩ := hL
 refine aU ?_
 refine aE ?_
 exact ⟨trivial, _, rfl, _, ⟨o, _, _, _, rfl, rfl, rfl⟩, a1s hS⟩
theorem c0s {g : Func} {k im : Int} {v : Int} {st : List Int} (B : B6 s z r) (hg : j7 fs z.f = some g) (hi : j7 g.Code z.pc = some ⟨32, k, im⟩) (hst : z.st = v :: st) (hs : st.length < 100000000) :
  Tri Try.prog 65 [.ptr o.r 0 0] (L6 fs o s (z :: r) rj pj) (fun _ L' => At6 fs o.r ({ s with steps := s.steps + 1 }, { z.toF6 with pc := z.pc + 1, st := v :: v :: st } :: ab6 r) L') := by
 refine i8 mixed a5U zS [3, 4] (fun R S hS => p7 hg hi B.pc B.st (by have := B.n; omega) hS (fun oi og S hS => ?_))
 (repeat refine j4 rfl rfl ?_)
 refine a3d rfl zD zD rfl rfl (fun h => by cases h) (fun _ => ?_)
 (repeat refine j4 rfl rfl ?_)
 refine a0i rfl rfl ?_
 refine aU ?_
 refine u6 (w8 (z := { z with pc := z.pc + 1 }) hst (by have := B.n; omega) zO) hS rfl (.refl _) (fun x S L' hL hS => ?_)
 obtain ⟨rfl, rfl⟩ := hL
 refine aU ?_
 refine u6 (a0d (z := { z with pc := z.pc + 1, st := st, sj := .int .u64 v :: z.sj }) (v := v) (by have := B.n; omega) (by show st.length < _; omega)) hS rfl (.refl _) (fun x S L' hL hS => ?_)
 subst hL
 refine aU ?_
 refine u6 (a0d (z := { z with pc := z.pc + 1, st := v :: st, sv := z.sv + 1, sj := [] }) (v := v) (by have := B.n; omega) (by show (v :: st).length < _; rw [List.length_cons]; omega)) hS rfl (.refl _) (fun x S L' hL hS => ?_)
 subst hL
 refine aU ?_
 refine aE ?_
 exact ⟨trivial, _, rfl, _, ⟨o, _, _, _, rfl, rfl, rfl⟩, a1s hS⟩
theorem c0t {g : Func} {k im : Int} (B : B6 s z r) (hg : j7 fs z.f = some g) (hi : j7 g.Code z.pc = some ⟨21, k, im⟩) :
  Tri Try.prog 65 [.ptr o.r 0 0] (L6 fs o s (z :: r) rj pj) (fun _ L' => At6 fs o.r ({ s with steps := s.steps + 1 }, { z.toF6 with pc := k } :: ab6 r) L') := by
 refine i8 mixed a5U zS [3, 4] (fun R S hS => p7 hg hi B.pc B.st (by have := B.n; omega) hS (fun oi og S hS => ?_))
 (repeat refine j4 rfl rfl ?_)
 refine a3d rfl zD zD rfl rfl (fun h => by cases h) (fun _ => ?_)
 (repeat refine j4 rfl rfl ?_)
 refine a0i rfl rfl ?_
 refine aU ?_
 refine c9 hS rfl (List.mem_append_right _ (.head _)) (v := .int .i64 k) rfl ?_
 refine aU ?_
 refine E_stS hS rfl (xv := .int .i64 k) rfl (a4f (z' := { z with pc := k }) zO rfl rfl rfl) rfl rfl (a1r zO) (fun S hS => ?_)
 refine aU ?_
 refine aE ?_
 exact ⟨trivial, _, rfl, _, ⟨o, _, _, _, rfl, rfl, rfl⟩, a1s hS⟩
theorem c0u {g : Func} {k im : Int} {v : Int} {st : List Int} (B : B6 s z r) (hg : j7 fs z.f = some g) (hi : j7 g.Code z.pc = some ⟨22, k, im⟩) (hst : z.st = v :: st) (hs : st.length < 100000000) :
  Tri Try.prog 65 [.ptr o.r 0 0] (L6 fs o s (z :: r) rj pj) (fun _ L' => At6 fs o.r ({ s with steps := s.steps + 1 }, (if v = 0 then { z.toF6 with pc := k, st := st } else { z.toF6 with pc := z.pc + 1, st := st }) :: ab6 r) L') := by
 refine i8 mixed a5U zS [3, 4] (fun R S hS => p7 hg hi B.pc B.st (by have := B.n; omega) hS (fun oi og S hS => ?_))
 (repeat refine j4 rfl rfl ?_)
 refine a3d rfl zD zD rfl rfl (fun h => by cases h) (fun _ => ?_)
 (repeat refine j4 rfl rfl ?_)
 refine a0i rfl rfl ?_
 refine aU ?_
 refine u6 (w8 (z := { z with pc := z.pc + 1 }) hst (by have := B.n; omega) zO) hS rfl (.refl _) (fun x S L' hL hS => ?_)
 obtain ⟨rfl, rfl⟩ := hL
 refine aU ?_
 refine E_cs (t := v == 0) rfl (fun hv => ?_) (fun hv => ?_)
 ·have hv' : v = 0 := by simpa using hv
  rw [if_pos hv']
  refine aU ?_
  refine c9 hS rfl (List.mem_append_right _ (.head _)) (v := .int .i64 k) rfl ?_
  refine aU ?_
  refine E_stS hS rfl (xv := .int .i64 k) rfl (a4f (z' := { z with pc := k, st := st, sj := .int .u64 v :: z.sj }) zO rfl rfl rfl) rfl rfl (a1r zO) (fun S hS => ?_)
  refine aU ?_
  refine aE ?_
  exact ⟨trivial, _, rfl, _, ⟨o, _, _, _, rfl, rfl, rfl⟩, a1s hS⟩
 ·have hv' : v ≠ 0 := by simpa using hv
  rw [if_neg hv']
  refine aU ?_
  refine aE ?_
  exact ⟨trivial, _, rfl, _, ⟨o, _, _, _, rfl, rfl, rfl⟩, a1s hS⟩
theorem c0v {g : Func} {k im : Int} {v : Int} {st : List Int} (B : B6 s z r) (hg : j7 fs z.f = some g) (hi : j7 g.Code z.pc = some ⟨30, k, im⟩) (hst : z.st = v :: st) (hs : st.length < 100000000) :
  Tri Try.prog 65 [.ptr o.r 0 0] (L6 fs o s (z :: r) rj pj) (fun _ L' => At6 fs o.r ({ s with steps := s.steps + 1, ek := 1, ev := v }, { z.toF6 with pc := z.pc + 1, st := st } :: ab6 r) L') := by
 refine i8 mixed a5U zS [3, 4] (fun R S hS => p7 hg hi B.pc B.st (by have := B.n; omega) hS (fun oi og S hS => ?_))
 (repeat refine j4 rfl rfl ?_)
 refine a3d rfl zD zD rfl rfl (fun h => by cases h) (fun _ => ?_)
 (repeat refine j4 rfl rfl ?_)
 refine a0i rfl rfl ?_
 refine aU ?_
 refine u6 (w8 (z := { z with pc := z.pc + 1 }) hst (by have := B.n; omega) zO) hS rfl (.refl _) (fun x S L' hL hS => ?_)
 obtain ⟨rfl, rfl⟩ := hL
 refine aU ?_
 refine E_stS hS rfl (xv := .agg [.int .i64 1, .int .u64 v]) rfl Rp.here rfl rfl zV (fun S hS => ?_)
 refine aU ?_
 refine aE ?_
 exact ⟨trivial, _, rfl, _, ⟨o, { z with pc := z.pc + 1, st := st, sj := .int .u64 v :: z.sj } :: r, rj, pj, rfl, rfl, rfl⟩, a1s hS⟩
end
end Go.Proofs.Ytnpemocpfdgaoaa

/- ref6's Step, the operations that touch memory (printed by mkR7.py). -/
namespace Go.Proofs.Ytnpemocpfdgaoaa
open Go Go.Ab
set_option maxRecDepth 20000
set_option maxHeartbeats 2000000
section
variable {fs : List Func} {o : O6} {s : S6} {z : Q6} {r : List Q6} {rj pj : List AV}
theorem b8h {R : List It} {rows : List Q6} {a : Nat} {y : Q6} (h : rows.reverse[a]? = some y) : (y.pl, y.pv, flat (avI .u64) y.lo) ∈ L6 fs o s rows rj pj ++ R := by
 have hm : y ∈ rows := List.mem_reverse.1 (List.mem_of_getElem? h)
 unfold L6
 exact List.mem_append_left _ (.tail _ (.tail _ (List.mem_append_right _ (List.mem_flatMap.2 ⟨y, hm, .head _⟩))))
def b1T (k : Nat) (v : Int) (y : Q6) : Q6 := { y with lo := y.lo.set k v }
def c1l (k : Nat) (v : Int) (y : F6) : F6 := { y with lo := y.lo.set k v }
def a4R (l : List F6) (i k : Nat) (v : Int) : List F6 := l.modify (l.length - 1 - i) (c1l k v)
theorem c0w {k : Nat} {v : Int} {y : Q6} : c6 (b1T k v y) = c6 y := by
 show [AV.int .i64 y.f, .int .i64 y.pc, .int .i64 y.why, .ref y.pl y.pv 0 (y.lo.set k v).length none, _, _, _, _] = _
 rw [List.length_set]; rfl
theorem b4l {k : Nat} {v : Int} : ∀ (rows : List Q6) (j : Nat), rC6 (rows.modify j (b1T k v)) = rC6 rows
 | [], 0 => rfl
 | [], _ + 1 => rfl
 | x :: l, 0 => by rw [List.modify_zero_cons]; unfold rC6; rw [c0w]
 | x :: l, j + 1 => by rw [List.modify_succ_cons]; unfold rC6; rw [b4l l j]
theorem b6M {k : Nat} {v : Int} {R : List It} : ∀ (rows : List Q6) (j : Nat) {y : Q6}, rows[j]? = some y -> Rp (rows.flatMap o6 ++ R) (y.pl, y.pv, flat (avI .u64) y.lo) (y.pl, y.pv, flat (avI .u64) (y.lo.set k v)) ((rows.modify j (b1T k v)).flatMap o6 ++ R)
 | [], _, _, h => by simp at h
 | x :: t, 0, y, h => by
   simp at h; subst h
   have e1 : (x :: t).flatMap o6 ++ R = o6 x ++ (t.flatMap o6 ++ R) := by simp
   have e2 : ((x :: t).modify 0 (b1T k v)).flatMap o6 ++ R = o6 (b1T k v x) ++ (t.flatMap o6 ++ R) := by simp
   rw [e1, e2]
   exact Rp.here
 | x :: t, j + 1, y, h => by
   have e1 : (x :: t).flatMap o6 ++ R = o6 x ++ (t.flatMap o6 ++ R) := by simp
   have e2 : ((x :: t).modify (j + 1) (b1T k v)).flatMap o6 ++ R = o6 x ++ ((t.modify j (b1T k v)).flatMap o6 ++ R) := by simp
   rw [e1, e2]
   exact Rp.skip (b6M t j (by simpa using h))
theorem b6N {k : Nat} {v : Int} {R : List It} {rows : List Q6} {a : Nat} {y : Q6} (h : rows.reverse[a]? = some y) : Rp (L6 fs o s rows rj pj ++ R) (y.pl, y.pv, flat (avI .u64) y.lo) (y.pl, y.pv, flat (avI .u64) (y.lo.set k v)) (L6 fs o s (rows.modify (rows.length - 1 - a) (b1T k v)) rj pj ++ R) := by
 have ha := (List.getElem?_eq_some_iff.1 h).1
 rw [List.length_reverse] at ha
 rw [List.getElem?_reverse ha] at h
 have e : L6 fs o s (rows.modify (rows.length - 1 - a) (b1T k v)) rj pj = (o.r, 0, h6 fs o s rows.length) :: (o.ro, o.rv, rC6 rows ++ rj) :: (x6 o s pj ++ (rows.modify (rows.length - 1 - a) (b1T k v)).flatMap o6) := by
  unfold L6
  rw [List.length_modify, b4l]
 rw [e]
 have h2 := b6M (k := k) (v := v) (R := R) rows _ h
 exact Rp.there (Rp.there (Rp.there (Rp.there h2)))
theorem b4m {k : Nat} {v : Int} {rows : List Q6} {a : Nat} : ab6 (rows.modify (rows.length - 1 - a) (b1T k v)) = a4R (ab6 rows) a k v := by
 unfold ab6 a4R
 rw [a6A (f := Q6.toF6) (g := b1T k v) (h := c1l k v) (fun x => rfl), List.length_map]
def a5K (rows : List F6) (p : Int) : Option (Nat × Nat × Int) := if 1000 <= p /\ p < 4611686018427387904 then (rows.reverse[(p / 1000 - 1).toNat]?).bind fun y => (y.lo[(p % 1000).toNat]?).map fun w => ((p / 1000 - 1).toNat, (p % 1000).toNat, w) else none
theorem a7B {rows : List Q6} {p : Int} {c} (h : a5K (ab6 rows) p = some c) : IntKind.i64.wrap p = p /\ p ≠ 0 /\ IntKind.i64.wrap (IntKind.i64.wrap (Int.tdiv p 1000) - 1) = (c.1 : Int) /\ Int.tmod p 1000 = (c.2.1 : Int) /\ ∃ y, rows.reverse[c.1]? = some y /\ y.lo[c.2.1]? = some c.2.2 := by
 unfold a5K at h
 split at h
 ·rename_i hc
  obtain ⟨y, h1, h2⟩ := Option.bind_eq_some_iff.1 h
  obtain ⟨w, h3, rfl⟩ := Option.map_eq_some_iff.1 h2
  unfold ab6 at h1
  rw [<- List.map_reverse, List.getElem?_map] at h1
  obtain ⟨q, h4, rfl⟩ := Option.map_eq_some_iff.1 h1
  refine ⟨q9 zO, by omega, ?_, ?_, q, h4, h3⟩
  ·rw [Int.tdiv_eq_ediv_of_nonneg zO, q9 (x := p / 1000) zO, q9 zO]; simp only; omega
  ·rw [Int.tmod_eq_emod_of_nonneg zO]; simp only; omega
 ·cases h
theorem c2M {g : Func} {k im : Int} {v w : Int} {st : List Int} (B : B6 s z r) (hg : j7 fs z.f = some g) (hi : j7 g.Code z.pc = some ⟨3, k, im⟩) (hst : z.st = v :: st) (hs : st.length < 100000000) (hk : j7 z.lo k = some w) :
  Tri Try.prog 65 [.ptr o.r 0 0] (L6 fs o s (z :: r) rj pj) (fun _ L' => At6 fs o.r ({ s with steps := s.steps + 1 }, { z.toF6 with pc := z.pc + 1, st := st, lo := z.lo.set k.toNat v } :: ab6 r) L') := by
 refine i8 mixed a5U zS [3, 4] (fun R S hS => p7 hg hi B.pc B.st (by have := B.n; omega) hS (fun oi og S hS => ?_))
 (repeat refine j4 rfl rfl ?_)
 refine a0i rfl rfl ?_
 obtain ⟨h1, h2, h3⟩ := d9 hk
 refine b6t ?_
 refine b8z ?_
 refine aU ?_
 refine b8z ?_
 refine aU ?_
 refine b8z ?_
 refine aU ?_
 refine c3B (o := o.ro) (ver := o.rv) (q := 0 + r.length * f5 (some 8) + 3) (cs := rC6 ({ z with pc := z.pc + 1 } :: r) ++ rj) (v := .ref z.pl z.pv 0 z.lo.length none) rfl (hS.at (.tail _ (.head _))) (by rw [k9]; exact vT (m8 r) rfl) ?_
 refine a7h ?_
 refine aU ?_
 refine c9 hS rfl (List.mem_append_right _ (.head _)) (v := .int .i64 k) rfl ?_
 refine aU ?_
 have hx1 := hS.at (.tail _ (.head _))
 have ho1 := hS.at (List.mem_append_right _ (.head _))
 refine u6 (w8 (z := { z with pc := z.pc + 1 }) hst (by have := B.n; omega) zO) hS rfl (.refl _) (fun x S L' hL hS => ?_)
 obtain ⟨rfl, rfl⟩ := hL
 have hx2 := hS.at (.tail _ (.head _))
 have ho2 := hS.at (List.mem_append_right _ (.head _))
 refine aU ?_
 refine p6 rfl rfl k.toNat zO zO ?_
 refine a8Y (y' := v) (l := z.lo) hS (f7 .u64) rfl (xv := .int .u64 v) rfl (n := k.toNat) (fo := 0) (y := w) (by simp [f5]) h3 (b6N (rows := { z with pc := z.pc + 1, st := st, sj := .int .u64 v :: z.sj } :: r) (a := r.length) (k := k.toNat) (v := v) (y := { z with pc := z.pc + 1, st := st, sj := .int .u64 v :: z.sj }) zS) rfl rfl (by simp [f5]) rfl (fun S hS => ?_)
 refine aU ?_
 refine And.intro ⟨⟨⟨_, hx1, by rw [k9]; exact vT (m8 r) rfl⟩, ⟨_, hx2, by rw [k9]; exact vT (m8 r) rfl⟩⟩, ⟨rfl, fun x hx => by rw [List.mem_singleton.1 hx]; exact ho2.trans ho1.symm⟩, trivial⟩ ?_
 refine aE ?_
 refine ⟨trivial, _, rfl, _, ⟨o, _, rj, pj, rfl, ?_, rfl⟩, a1s hS⟩
 rw [b4m]
 show a4R (_ :: ab6 r) r.length k.toNat v = _
 unfold a4R
 rw [show (({ z.toF6 with pc := z.pc + 1, st := st } : F6) :: ab6 r).length - 1 - r.length = 0 by simp [ab6], List.modify_zero_cons]; rfl
end
end Go.Proofs.Ytnpemocpfdgaoaa

/- ref6's Step, loads, stores, calls (printed by mkR8.py). -/
namespace Go.Proofs.Ytnpemocpfdgaoaa
open Go Go.Ab
set_option maxRecDepth 20000
set_option maxHeartbeats 2000000
section
variable {fs : List Func} {o : O6} {s : S6} {z : Q6} {r : List Q6} {rj pj : List AV}
theorem c0x {g : Func} {k im : Int} {st : List Int} {t : S6 × List F6} (B : B6 s z r) (hg : j7 fs z.f = some g) (hi : j7 g.Code z.pc = some ⟨5, k, im⟩) (hst : z.st = 0 :: st) (hs : st.length < 100000000) (hok : ∀ g ∈ fs, g.Locals.length < 1000000) (hp : s.pans.length < 9999999) (hd : 0 <= s.depth /\ s.depth < 1000000000) (hw : ∀ y ∈ z :: r, y.wa.length < 100000000) (hv : b1h fs { s with steps := s.steps + 1 } ({ z.toF6 with pc := z.pc + 1, st := st } :: ab6 r) 18446744073709551614 = some t) :
  Tri Try.prog 65 [.ptr o.r 0 0] (L6 fs o s (z :: r) rj pj) (fun _ L' => At6 fs o.r t L') := by
 refine i8 mixed a5U zS [3, 4] (fun R S hS => p7 hg hi B.pc B.st (by have := B.n; omega) hS (fun oi og S hS => ?_))
 have hn := B.n
 (repeat refine j4 rfl rfl ?_)
 obtain ⟨u, hu, rfl⟩ := Option.map_eq_some_iff.1 hv
 refine b9z rfl rfl ?_
 refine aU ?_
 refine c9 hS rfl (List.mem_append_right _ (.head _)) (v := .int .u8 5) rfl ?_
 refine aU ?_
 refine E_cs (t := false) rfl (fun h => by cases h) (fun _ => ?_)
 refine aU ?_
 refine u6 (w8 (z := { z with pc := z.pc + 1 }) hst zO zO) hS rfl (.refl _) (fun x S L' hL hS => ?_)
 obtain ⟨rfl, rfl⟩ := hL
 refine aU ?_
 refine E_cs (t := true) rfl (fun _ => ?_) (fun h => by cases h)
 refine aU ?_
 refine u6 (a3X (rows := { z with pc := z.pc + 1, st := st, sj := .int .u64 0 :: z.sj } :: r) (s := { s with steps := s.steps + 1 }) (v := 18446744073709551614) (ps' := u.2.2) (en := u.1) (A' := u.2.1) hu hok zE hp hd (fun y hy => (List.mem_cons.1 hy).elim (fun e => by rw [e]; exact hw z (.head _)) (fun e => hw y (.tail _ e)))) hS rfl (.refl _) (fun x S L' hL hS => ?_)
 refine aU ?_
 refine d8 ?_
 refine aE ?_
 obtain ⟨rv, lv, rows', rj', pj', h7, rfl⟩ := hL
 exact ⟨trivial, _, rfl, _, ⟨{ o with rv := rv, lv := lv }, rows', rj', pj', rfl, h7, rfl⟩, a1s hS⟩
theorem c2N {g : Func} {k im : Int} {p : Int} {st : List Int} {c : Nat × Nat × Int} (B : B6 s z r) (hg : j7 fs z.f = some g) (hi : j7 g.Code z.pc = some ⟨5, k, im⟩) (hst : z.st = p :: st) (hs : st.length < 100000000) (hc : a5K ({ z.toF6 with pc := z.pc + 1, st := st } :: ab6 r) p = some c) :
  Tri Try.prog 65 [.ptr o.r 0 0] (L6 fs o s (z :: r) rj pj) (fun _ L' => At6 fs o.r ({ s with steps := s.steps + 1 }, { z.toF6 with pc := z.pc + 1, st := c.2.2 :: st } :: ab6 r) L') := by
 refine i8 mixed a5U zS [3, 4] (fun R S hS => p7 hg hi B.pc B.st (by have := B.n; omega) hS (fun oi og S hS => ?_))
 have hn := B.n
 (repeat refine j4 rfl rfl ?_)
 obtain ⟨c1, c2, c3, c4, y, c5, c6'⟩ := a7B (rows := { z with pc := z.pc + 1, st := st, sj := .int .u64 p :: z.sj } :: r) hc
 have ha := (List.getElem?_eq_some_iff.1 c5).1
 have hb := (List.getElem?_eq_some_iff.1 c6').1
 rw [List.length_reverse] at ha
 refine b9z rfl rfl ?_
 refine aU ?_
 refine c9 hS rfl (List.mem_append_right _ (.head _)) (v := .int .u8 5) rfl ?_
 refine aU ?_
 refine E_cs (t := false) rfl (fun h => by cases h) (fun _ => ?_)
 refine aU ?_
 refine u6 (w8 (z := { z with pc := z.pc + 1 }) hst zO zO) hS rfl (.refl _) (fun x S L' hL hS => ?_)
 obtain ⟨rfl, rfl⟩ := hL
 refine aU ?_
 refine E_cs (t := false) (by show AV.bool (IntKind.i64.wrap p == 0) = _; rw [c1]; simp [c2]) (fun h => by cases h) (fun _ => ?_)
 refine aU ?_
 refine c9 hS rfl (.head _) (v := .ref o.ro o.rv 0 (r.length + 1) (some 8)) rfl ?_
 refine aU ?_
 refine p6 rfl rfl c.1 (by show IntKind.i64.wrap (IntKind.i64.wrap (Int.tdiv (IntKind.i64.wrap p) 1000) - 1) = _; rw [c1, c3]) (by simpa using ha) ?_
 refine aU ?_
 refine c9 hS rfl (List.mem_append_right _ (.head _)) (v := .int .u8 5) rfl ?_
 refine aU ?_
 refine E_cs (t := false) rfl (fun h => by cases h) (fun _ => ?_)
 refine aU ?_
 refine c9 hS rfl (.tail _ (.head _)) (v := .ref y.pl y.pv 0 y.lo.length none) (vM6 _ c5 rfl) ?_
 refine aU ?_
 refine p6 rfl rfl c.2.1 (by show Int.tmod (IntKind.i64.wrap p) 1000 = _; rw [c1, c4]) hb ?_
 refine a7m hS (f7 .u64) rfl (b8h c5) (n := c.2.1) (fo := 0) (y := c.2.2) (by simp [f5]) c6' (v := .int .u64 c.2.2) rfl ?_
 refine aU ?_
 refine u6 (a0d (z := { z with pc := z.pc + 1, st := st, sj := .int .u64 p :: z.sj }) (v := c.2.2) zO (by show st.length < _; omega)) hS rfl (.refl _) (fun x S L' hL hS => ?_)
 subst hL
 refine aU ?_
 refine aE ?_
 exact ⟨trivial, _, rfl, _, ⟨o, _, _, _, rfl, rfl, rfl⟩, a1s hS⟩
theorem c0y {g : Func} {k im : Int} {v : Int} {st : List Int} {t : S6 × List F6} (B : B6 s z r) (hg : j7 fs z.f = some g) (hi : j7 g.Code z.pc = some ⟨6, k, im⟩) (hst : z.st = v :: 0 :: st) (hs : st.length < 100000000) (hok : ∀ g ∈ fs, g.Locals.length < 1000000) (hp : s.pans.length < 9999999) (hd : 0 <= s.depth /\ s.depth < 1000000000) (hw : ∀ y ∈ z :: r, y.wa.length < 100000000) (hv : b1h fs { s with steps := s.steps + 1 } ({ z.toF6 with pc := z.pc + 1, st := st } :: ab6 r) 18446744073709551614 = some t) :
  Tri Try.prog 65 [.ptr o.r 0 0] (L6 fs o s (z :: r) rj pj) (fun _ L' => At6 fs o.r t L') := by
 refine i8 mixed a5U zS [3, 4] (fun R S hS => p7 hg hi B.pc B.st (by have := B.n; omega) hS (fun oi og S hS => ?_))
 have hn := B.n
 (repeat refine j4 rfl rfl ?_)
 obtain ⟨u, hu, rfl⟩ := Option.map_eq_some_iff.1 hv
 refine a3d rfl zD zD rfl rfl (fun _ => ?_) (fun h => by cases h)
 refine aU ?_
 refine c9 hS rfl (List.mem_append_right _ (.head _)) (v := .int .u8 6) rfl ?_
 refine aU ?_
 refine E_cs (t := true) rfl (fun _ => ?_) (fun h => by cases h)
 refine aU ?_
 refine u6 (w8 (z := { z with pc := z.pc + 1 }) hst zO (by first | omega | (simp; omega))) hS rfl (.refl _) (fun x S L' hL hS => ?_)
 obtain ⟨rfl, rfl⟩ := hL
 refine aU ?_
 refine u6 (w8 (z := { z with pc := z.pc + 1, st := 0 :: st, sj := .int .u64 v :: z.sj }) rfl zO (by first | omega | (simp; omega))) hS rfl (.refl _) (fun x S L' hL hS => ?_)
 obtain ⟨rfl, rfl⟩ := hL
 refine aU ?_
 refine E_cs (t := true) rfl (fun _ => ?_) (fun h => by cases h)
 refine aU ?_
 refine u6 (a3X (rows := { z with pc := z.pc + 1, st := st, sj := .int .u64 0 :: .int .u64 v :: z.sj } :: r) (s := { s with steps := s.steps + 1 }) (v := 18446744073709551614) (ps' := u.2.2) (en := u.1) (A' := u.2.1) hu hok zE hp hd (fun y hy => (List.mem_cons.1 hy).elim (fun e => by rw [e]; exact hw z (.head _)) (fun e => hw y (.tail _ e)))) hS rfl (.refl _) (fun x S L' hL hS => ?_)
 refine aU ?_
 refine d8 ?_
 refine aE ?_
 obtain ⟨rv, lv, rows', rj', pj', h7, rfl⟩ := hL
 exact ⟨trivial, _, rfl, _, ⟨{ o with rv := rv, lv := lv }, rows', rj', pj', rfl, h7, rfl⟩, a1s hS⟩
theorem c2O {g : Func} {k im : Int} {v p : Int} {st : List Int} {c : Nat × Nat × Int} (B : B6 s z r) (hg : j7 fs z.f = some g) (hi : j7 g.Code z.pc = some ⟨6, k, im⟩) (hst : z.st = v :: p :: st) (hs : st.length < 100000000) (hc : a5K ({ z.toF6 with pc := z.pc + 1, st := st } :: ab6 r) p = some c) :
  Tri Try.prog 65 [.ptr o.r 0 0] (L6 fs o s (z :: r) rj pj) (fun _ L' => At6 fs o.r ({ s with steps := s.steps + 1 }, a4R ({ z.toF6 with pc := z.pc + 1, st := st } :: ab6 r) c.1 c.2.1 v) L') := by
 refine i8 mixed a5U zS [3, 4] (fun R S hS => p7 hg hi B.pc B.st (by have := B.n; omega) hS (fun oi og S hS => ?_))
 have hn := B.n
 (repeat refine j4 rfl rfl ?_)
 obtain ⟨c1, c2, c3, c4, y, c5, c6'⟩ := a7B (rows := { z with pc := z.pc + 1, st := st, sj := .int .u64 p :: .int .u64 v :: z.sj } :: r) hc
 have ha := (List.getElem?_eq_some_iff.1 c5).1
 have hb := (List.getElem?_eq_some_iff.1 c6').1
 rw [List.length_reverse] at ha
 refine a3d rfl zD zD rfl rfl (fun _ => ?_) (fun h => by cases h)
 refine aU ?_
 refine c9 hS rfl (List.mem_append_right _ (.head _)) (v := .int .u8 6) rfl ?_
 refine aU ?_
 refine E_cs (t := true) rfl (fun _ => ?_) (fun h => by cases h)
 refine aU ?_
 refine u6 (w8 (z := { z with pc := z.pc + 1 }) hst zO (by first | omega | (simp; omega))) hS rfl (.refl _) (fun x S L' hL hS => ?_)
 obtain ⟨rfl, rfl⟩ := hL
 refine aU ?_
 refine u6 (w8 (z := { z with pc := z.pc + 1, st := p :: st, sj := .int .u64 v :: z.sj }) rfl zO (by first | omega | (simp; omega))) hS rfl (.refl _) (fun x S L' hL hS => ?_)
 obtain ⟨rfl, rfl⟩ := hL
 refine aU ?_
 refine E_cs (t := false) (by show AV.bool (IntKind.i64.wrap p == 0) = _; rw [c1]; simp [c2]) (fun h => by cases h) (fun _ => ?_)
 refine aU ?_
 refine c9 hS rfl (.head _) (v := .ref o.ro o.rv 0 (r.length + 1) (some 8)) rfl ?_
 refine aU ?_
 refine p6 rfl rfl c.1 (by show IntKind.i64.wrap (IntKind.i64.wrap (Int.tdiv (IntKind.i64.wrap p) 1000) - 1) = _; rw [c1, c3]) (by simpa using ha) ?_
 refine aU ?_
 refine c9 hS rfl (List.mem_append_right _ (.head _)) (v := .int .u8 6) rfl ?_
 refine aU ?_
 refine E_cs (t := true) rfl (fun h => ?_) (fun h => by cases h)
 refine aU ?_
 refine c9 hS rfl (.tail _ (.head _)) (v := .ref y.pl y.pv 0 y.lo.length none) (vM6 _ c5 rfl) ?_
 refine aU ?_
 refine p6 rfl rfl c.2.1 (by show Int.tmod (IntKind.i64.wrap p) 1000 = _; rw [c1, c4]) hb ?_
 refine a8Y (y' := v) (l := y.lo) (o := y.pl) (ver := y.pv) hS (f7 .u64) rfl (xv := .int .u64 v) rfl (n := c.2.1) (fo := 0) (y := c.2.2) (by simp [f5]) c6' (b6N (k := c.2.1) (v := v) c5) rfl rfl (by simp [f5]) rfl (fun S hS => ?_)
 refine aU ?_
 refine aE ?_
 exact ⟨trivial, _, rfl, _, ⟨o, _, _, _, rfl, b4m, rfl⟩, a1s hS⟩
end
end Go.Proofs.Ytnpemocpfdgaoaa

/- ref6's Step, calls, their ends, panics, events, reckoning (printed by mkR9.py). -/
namespace Go.Proofs.Ytnpemocpfdgaoaa
open Go Go.Ab
set_option maxRecDepth 20000
set_option maxHeartbeats 2000000
section
variable {fs : List Func} {o : O6} {s : S6} {z : Q6} {r : List Q6} {rj pj : List AV}
theorem c0z {g : Func} {k im : Int} {a : List Int} {z' F : F6} (B : B6 s z r) (hg : j7 fs z.f = some g) (hi : j7 g.Code z.pc = some ⟨23, k, im⟩) (hok : ∀ g ∈ fs, g.Locals.length < 1000000) (hd : 0 <= s.depth /\ s.depth < 1000000000) (ha : F6.args fs { z.toF6 with pc := z.pc + 1 } k = some (a, z')) (hF : a8t fs k a 0 = some F) :
  Tri Try.prog 65 [.ptr o.r 0 0] (L6 fs o s (z :: r) rj pj) (fun _ L' => At6 fs o.r ({ s with steps := s.steps + 1, depth := max s.depth ((r.length : Int) + 2) }, F :: z' :: ab6 r) L') := by
 refine i8 mixed a5U zS [3, 4] (fun R S hS => p7 hg hi B.pc B.st (by have := B.n; omega) hS (fun oi og S hS => ?_))
 have hn := B.n
 (repeat refine j4 rfl rfl ?_)
 refine a3d rfl zD zD rfl rfl (fun h => by cases h) (fun _ => ?_)
 (repeat refine j4 rfl rfl ?_)
 refine a0i rfl rfl ?_
 have hs := B.s
 refine a0r ?_
 refine aU ?_
 refine c9 hS rfl (List.mem_append_right _ (.head _)) (v := .int .i64 k) rfl ?_
 refine aU ?_
 refine c9 hS rfl (List.mem_append_right _ (.head _)) (v := .int .i64 k) rfl ?_
 refine aU ?_
 have hm1 := hS.at (List.mem_append_right _ (.head _))
 refine u6 (a9p (z := { z with pc := z.pc + 1 }) ha zO (by show z.st.length < _; omega)) hS rfl (.refl _) (fun x S L' hL hS => ?_)
 obtain ⟨y, rfl, rfl, rfl⟩ := hL
 have hm2 := hS.at (List.mem_append_right _ (.head _))
 refine aU ?_
 refine u6 (a9q (r := y :: r) (s := { s with steps := s.steps + 1 }) hF hok (by show r.length + 1 < _; omega) hd) hS rfl (.refl _) (fun x S L' hL hS => ?_)
 obtain ⟨q, rfl, rfl⟩ := hL
 refine aU ?_
 refine And.intro ⟨⟨rfl, fun x hx => by rw [List.mem_singleton.1 hx]; exact hm2.trans hm1.symm⟩, trivial⟩ ?_
 refine aE ?_
 refine ⟨trivial, _, rfl, _, ⟨{ o with rv := o.rv + 1 }, q :: y :: r, [], pj, rfl, rfl, rfl⟩, ?_⟩
 have e1 : max s.depth ((((y :: r : List Q6).length : Nat) : Int) + 1) = max s.depth ((r.length : Int) + 2) := by simp; omega
 rw [e1] at hS
 exact a1s hS
def b0n (g : Func) (z : F6) : Option F6 := if g.Result = true then (match z.st with | v :: st => some { z with st := st, ret := v } | [] => none) else some z
theorem c0A {g : Func} {k im : Int} {z1 : F6} {u : RO6} (B : B6 s z r) (hg : j7 fs z.f = some g) (hi : j7 g.Code z.pc = some ⟨24, k, im⟩) (hok : ∀ g ∈ fs, g.Locals.length < 1000000) (hd : 0 <= s.depth /\ s.depth < 1000000000) (hek : s.ek = 0) (hp : s.pans.length < 9999999) (hw : ∀ y ∈ z :: r, y.wa.length < 100000000 /\ y.st.length < 100000000) (h1 : b0n g { z.toF6 with pc := z.pc + 1 } = some z1) (h2 : a3l fs ({ z1 with ends := true } :: ab6 r) s.pans = some u) :
  Tri Try.prog 65 [.ptr o.r 0 0] (L6 fs o s (z :: r) rj pj) (fun _ L' => At6 fs o.r (S6.ret { s with steps := s.steps + 1 } u, u.A) L') := by
 refine i8 mixed a5U zS [3, 4] (fun R S hS => p7 hg hi B.pc B.st (by have := B.n; omega) hS (fun oi og S hS => ?_))
 have hn := B.n
 (repeat refine j4 rfl rfl ?_)
 refine a3d rfl zD zD rfl rfl (fun h => by cases h) (fun _ => ?_)
 (repeat refine j4 rfl rfl ?_)
 refine a0i rfl rfl ?_
 have hs := B.s
 refine aU ?_
 refine c9 hS rfl (List.mem_append_right _ (.tail _ (.head _))) (v := .bool g.Result) rfl ?_
 refine aU ?_
 refine a8c (σ := Q6) (fun _ => [(0, .ptr o.r 0 0), (2, .ptr o.ro o.rv (0 + r.length * f5 (some 8))), (4, .ptr oi 0 0)]) (fun q => L6 fs o { s with steps := s.steps + 1 } (q :: r) rj pj ++ ((oi, 0, (⟨24, k, im⟩ : Instr).cells) :: (og, 0, g.cells) :: R)) (fun q => q.toF6 = z1 /\ q.wa.length < 100000000 /\ q.st.length < 100000000) ?_ (fun q S hI hS => ?_)
 ·refine E_cs (t := g.Result) rfl (fun hR => ?_) (fun hR => ?_)
  ·unfold b0n at h1
   rw [if_pos hR] at h1
   cases hst : z.st with
   | nil => rw [show ({ z.toF6 with pc := z.pc + 1 } : F6).st = z.st from rfl, hst] at h1; cases h1
   | cons v st =>
     rw [show ({ z.toF6 with pc := z.pc + 1 } : F6).st = z.st from rfl, hst] at h1
     cases h1
     have hw1 := hw z (.head _)
     rw [hst] at hw1
     simp only [List.length_cons] at hw1
     refine aU ?_
     refine u6 (w8 (z := { z with pc := z.pc + 1 }) hst zO zO) hS rfl (.refl _) (fun x S L' hL hS => ?_)
     obtain ⟨rfl, rfl⟩ := hL
     refine aU ?_
     refine E_stS hS rfl (xv := .int .u64 v) rfl (a4f (z' := { z with pc := z.pc + 1, st := st, sj := .int .u64 v :: z.sj, ret := v }) zO rfl rfl rfl) rfl rfl (a1r zO) (fun S hS => ?_)
     refine aU ?_
     exact s5 ⟨{ z with pc := z.pc + 1, st := st, sj := .int .u64 v :: z.sj, ret := v }, ⟨rfl, hw1.1, by show st.length < _; omega⟩, hS, wF⟩
  ·unfold b0n at h1
   rw [if_neg (by simp [hR])] at h1
   cases h1
   refine aU ?_
   exact s5 ⟨{ z with pc := z.pc + 1 }, ⟨rfl, hw z (.head _)⟩, hS, wF⟩
 ·obtain ⟨rfl, q1, q2⟩ := hI
  refine aU ?_
  refine E_stS hS rfl (xv := .bool true) rfl (a4f (z' := { q with ends := true }) zO rfl rfl rfl) rfl rfl (a1r zO) (fun S hS => ?_)
  refine aU ?_
  refine u6 (b0m (rows := { q with ends := true } :: r) (s := { s with steps := s.steps + 1 }) (u := u) h2 hok hek (by show r.length + 1 < _; omega) hp hd (fun y hy => by
   rcases List.mem_cons.1 hy with rfl | hy
   ·exact ⟨q1, by show q.st.length + (r.length + 1) < _; omega⟩
   ·have := hw y (.tail _ hy); exact ⟨this.1, by show y.st.length + (r.length + 1) < _; omega⟩)) hS rfl (.refl _) (fun x S L' hL hS => ?_)
  obtain ⟨rv, lv, rows', rj', pj', h7, rfl⟩ := hL
  refine aU ?_
  refine aE ?_
  exact ⟨trivial, _, rfl, _, ⟨{ o with rv := rv, lv := lv }, rows', rj', pj', rfl, h7, rfl⟩, a1s hS⟩
theorem c0B {g : Func} {k im : Int} {v : Int} {st : List Int} {t : S6 × List F6} (B : B6 s z r) (hg : j7 fs z.f = some g) (hi : j7 g.Code z.pc = some ⟨26, k, im⟩) (hst : z.st = v :: st) (hs : st.length < 100000000) (hok : ∀ g ∈ fs, g.Locals.length < 1000000) (hp : s.pans.length < 9999999) (hd : 0 <= s.depth /\ s.depth < 1000000000) (hw : ∀ y ∈ z :: r, y.wa.length < 100000000) (hv : b1h fs { s with steps := s.steps + 1 } ({ z.toF6 with pc := z.pc + 1, st := st } :: ab6 r) v = some t) :
  Tri Try.prog 65 [.ptr o.r 0 0] (L6 fs o s (z :: r) rj pj) (fun _ L' => At6 fs o.r t L') := by
 refine i8 mixed a5U zS [3, 4] (fun R S hS => p7 hg hi B.pc B.st (by have := B.n; omega) hS (fun oi og S hS => ?_))
 have hn := B.n
 (repeat refine j4 rfl rfl ?_)
 obtain ⟨u, hu, rfl⟩ := Option.map_eq_some_iff.1 hv
 refine a3d rfl zD zD rfl rfl (fun h => by cases h) (fun _ => ?_)
 (repeat refine j4 rfl rfl ?_)
 refine a0i rfl rfl ?_
 refine aU ?_
 refine u6 (w8 (z := { z with pc := z.pc + 1 }) hst zO zO) hS rfl (.refl _) (fun x S L' hL hS => ?_)
 obtain ⟨rfl, rfl⟩ := hL
 refine aU ?_
 refine u6 (a3X (rows := { z with pc := z.pc + 1, st := st, sj := .int .u64 v :: z.sj } :: r) (s := { s with steps := s.steps + 1 }) (v := v) (ps' := u.2.2) (en := u.1) (A' := u.2.1) hu hok zE hp hd (fun y hy => (List.mem_cons.1 hy).elim (fun e => by rw [e]; exact hw z (.head _)) (fun e => hw y (.tail _ e)))) hS rfl (.refl _) (fun x S L' hL hS => ?_)
 refine aU ?_
 refine aE ?_
 obtain ⟨rv, lv, rows', rj', pj', h7, rfl⟩ := hL
 exact ⟨trivial, _, rfl, _, ⟨{ o with rv := rv, lv := lv }, rows', rj', pj', rfl, h7, rfl⟩, a1s hS⟩
end
end Go.Proofs.Ytnpemocpfdgaoaa

/- ref6's Step, deferred calls, recoveries, events, reckoning (printed by mkR10.py). -/
namespace Go.Proofs.Ytnpemocpfdgaoaa
open Go Go.Ab
set_option maxRecDepth 20000
set_option maxHeartbeats 2000000
section
variable {fs : List Func} {o : O6} {s : S6} {z : Q6} {r : List Q6} {rj pj : List AV}
theorem c0C {g : Func} {k im : Int} {a : List Int} {z' : F6} (B : B6 s z r) (hg : j7 fs z.f = some g) (hi : j7 g.Code z.pc = some ⟨25, k, im⟩) (ha : F6.args fs { z.toF6 with pc := z.pc + 1 } k = some (a, z')) (hw : a5T (ab6 (z :: r)) < 900000000) :
  Tri Try.prog 65 [.ptr o.r 0 0] (L6 fs o s (z :: r) rj pj) (fun _ L' => At6 fs o.r ({ s with steps := s.steps + 1, defers := max s.defers ((a5T (ab6 (z :: r)) : Int) + 1) }, { z' with wa := ⟨k, a⟩ :: z.wa } :: ab6 r) L') := by
 refine i8 mixed a5U zS [3, 4] (fun R S hS => p7 hg hi B.pc B.st (by have := B.n; omega) hS (fun oi og S hS => ?_))
 have hn := B.n
 (repeat refine j4 rfl rfl ?_)
 refine a3d rfl zD zD rfl rfl (fun h => by cases h) (fun _ => ?_)
 (repeat refine j4 rfl rfl ?_)
 refine a0i rfl rfl ?_
 have hs := B.s
 refine aU ?_
 refine c9 hS rfl (List.mem_append_right _ (.head _)) (v := .int .i64 k) rfl ?_
 refine aU ?_
 have hz' : z'.wa = z.wa := by
  unfold F6.args at ha
  obtain ⟨_, _, ha⟩ := Option.bind_eq_some_iff.1 ha
  split at ha
  ·cases ha; rfl
  ·cases ha
 have hwl : z.wa.length + a5T (ab6 r) < 900000000 := hw
 refine u6 (a9p (z := { z with pc := z.pc + 1 }) ha zO (by show z.st.length < _; omega)) hS rfl (.refl _) (fun x S L' hL hS => ?_)
 obtain ⟨y, rfl, rfl, rfl⟩ := hL
 replace hz' : y.wa = z.wa := hz'
 have hyl : y.wa.length = z.wa.length := by rw [hz']
 have hoi : y.wl ≠ oi := fun e => by
  have h2 := hS.perm List.perm_middle
  exact (List.nodup_cons.1 h2.2).1 (by rw [List.map_append]; exact List.mem_append_left _ (by rw [<- e]; exact List.mem_map.2 ⟨_, .tail _ (.tail _ (.tail _ (.tail _ (.tail _ (.tail _ (.head _)))))), rfl⟩))
 have hoo : o.ro ≠ oi := fun e => by
  have h2 := hS.perm List.perm_middle
  exact (List.nodup_cons.1 h2.2).1 (by rw [List.map_append]; exact List.mem_append_left _ (by rw [<- e]; exact List.mem_map.2 ⟨_, .tail _ (.head _), rfl⟩))
 refine aU ?_
 refine a0r ?_
 refine aU ?_
 refine c9 hS rfl (.tail _ (.head _)) (v := .ref y.wl y.wv 0 y.wa.length (some 2)) (by rw [k9]; exact vT (m8 r) rfl) ?_
 refine aU ?_
 refine c9 hS rfl (List.mem_append_right _ (.head _)) (v := .int .i64 k) rfl ?_
 refine aU ?_
 refine a4m (o := y.wl) (ver := y.wv) (f := a0y.av) (l := y.wa.reverse) (m := [(⟨k, a⟩ : a0y)]) (j := y.wj) hS a0y.enc (by show AV.ref y.wl y.wv 0 y.wa.length (some 2) = _; rw [List.length_reverse]) (s4 (f := a0y.av) (esh := some 2) [(⟨k, a⟩ : a0y)]) (Rp.there (Rp.there (Rp.there (Rp.there (Rp.there (Rp.there Rp.here)))))) ⟨by simp; omega, by simp; omega⟩ (fun S hS => ?_)
 refine aU ?_
 refine E_stS hS rfl (xv := .ref y.wl (y.wv + 1) 0 (y.wa.length + 1) (some 2)) (by show AV.ref y.wl (y.wv + 1) 0 (y.wa.reverse ++ [(⟨k, a⟩ : a0y)]).length _ = _; simp) (b0k zO rfl) rfl rfl (a1r zO) (fun S hS => ?_)
 have e1 : flat a0y.av ((⟨k, a⟩ : a0y) :: y.wa).reverse ++ [] = flat a0y.av (y.wa.reverse ++ [(⟨k, a⟩ : a0y)]) := by simp
 have hS3 : Ab.Sep S (L6 fs o { s with steps := s.steps + 1 } ({ y with wa := ⟨k, a⟩ :: y.wa, wv := y.wv + 1, wj := [] } :: r) rj pj ++ ((oi, 0, (⟨25, k, im⟩ : Instr).cells) :: (og, 0, g.cells) :: R)) := by
  unfold L6
  rw [k9]
  show Ab.Sep S (_ :: _ :: _ :: _ :: _ :: _ :: (y.wl, y.wv + 1, flat a0y.av ((⟨k, a⟩ : a0y) :: y.wa).reverse ++ []) :: _)
  rw [e1]
  exact hS
 clear hS
 refine j8 ?_
 refine And.intro (by simp [a0q, a4A, y6, a1j, hoi, hoo, Ne.symm hoi, Ne.symm hoo]) ?_
 refine aU ?_
 have e3 : a5T (ab6 ({ y with wa := ⟨k, a⟩ :: y.wa, wv := y.wv + 1, wj := [] } :: r)) = a5T (ab6 (z :: r)) + 1 := by
  show (y.wa.length + 1) + a5T (ab6 r) = z.wa.length + a5T (ab6 r) + 1
  rw [hz']; omega
 refine u6 (a9t (rows := { y with wa := ⟨k, a⟩ :: y.wa, wv := y.wv + 1, wj := [] } :: r) (s := { s with steps := s.steps + 1 }) (by show r.length + 1 < _; omega) zO) hS3 rfl (.refl _) (fun x S L' hL hS => ?_)
 obtain ⟨rfl, rfl⟩ := hL
 rw [e3]
 refine aU ?_
 refine c9 hS rfl (.head _) (v := .int .i64 s.defers) rfl ?_
 refine aU ?_
 refine E_cs (t := decide (((a5T (ab6 (z :: r)) + 1 : Nat) : Int) > s.defers)) rfl (fun hq => ?_) (fun hq => ?_)
 ·have hq' := of_decide_eq_true hq
  refine aU ?_
  refine E_stS hS rfl (xv := .int .i64 (max s.defers ((a5T (ab6 (z :: r)) : Int) + 1))) (by show AV.int .i64 ((a5T (ab6 (z :: r)) + 1 : Nat) : Int) = _; congr 1; omega) Rp.here rfl rfl zV (fun S hS => ?_)
  refine aU ?_
  refine aE ?_
  exact ⟨trivial, _, rfl, _, ⟨o, { y with wa := ⟨k, a⟩ :: y.wa, wv := y.wv + 1, wj := [] } :: r, rj, pj, rfl, by rw [<- hz']; rfl, rfl⟩, a1s hS⟩
 ·have hq' := of_decide_eq_false hq
  have e : max s.defers ((a5T (ab6 (z :: r)) : Int) + 1) = s.defers := by omega
  rw [e]
  refine aU ?_
  refine aE ?_
  exact ⟨trivial, _, rfl, _, ⟨o, { y with wa := ⟨k, a⟩ :: y.wa, wv := y.wv + 1, wj := [] } :: r, rj, pj, rfl, by rw [<- hz']; rfl, rfl⟩, a1s hS⟩
theorem b8i {g : Func} {k im : Int} (B : B6 s z r) (hg : j7 fs z.f = some g) (hi : j7 g.Code z.pc = some ⟨27, k, im⟩) (hw : z.why ≠ 2) :
  Tri Try.prog 65 [.ptr o.r 0 0] (L6 fs o s (z :: r) rj pj) (fun _ L' => At6 fs o.r ({ s with steps := s.steps + 1 }, { z.toF6 with pc := z.pc + 1, st := 0 :: 0 :: z.st } :: ab6 r) L') := by
 refine i8 mixed a5U zS [3, 4] (fun R S hS => p7 hg hi B.pc B.st (by have := B.n; omega) hS (fun oi og S hS => ?_))
 have hn := B.n
 (repeat refine j4 rfl rfl ?_)
 refine a3d rfl zD zD rfl rfl (fun h => by cases h) (fun _ => ?_)
 (repeat refine j4 rfl rfl ?_)
 refine a0i rfl rfl ?_
 have hs := B.s
 refine aU ?_
 refine c9 hS rfl (.head _) (v := .ref o.li o.lv 0 s.pans.length (some 2)) rfl ?_
 refine aU ?_
 refine c9 hS rfl (.tail _ (.head _)) (v := .int .i64 z.why) (by rw [k9]; exact vT (m8 r) rfl) ?_
 refine aU ?_
 refine a6k (b := z.why == 2) rfl rfl rfl (fun hb => absurd (by simpa using hb) hw) (fun hb => ?_)
 refine aU ?_
 refine E_cs (t := false) rfl (fun h => by cases h) (fun _ => ?_)
 refine aU ?_
 refine u6 (a0d (z := { z with pc := z.pc + 1 }) (v := 0) zO (by show z.st.length < _; omega)) hS rfl (.refl _) (fun x S L' hL hS => ?_)
 subst hL
 refine aU ?_
 refine u6 (a0d (z := { z with pc := z.pc + 1, st := 0 :: z.st, sv := z.sv + 1, sj := [] }) (v := 0) zO (by show (0 :: z.st).length < _; rw [List.length_cons]; omega)) hS rfl (.refl _) (fun x S L' hL hS => ?_)
 subst hL
 refine aU ?_
 refine aE ?_
 exact ⟨trivial, _, rfl, _, ⟨o, _, _, _, rfl, rfl, rfl⟩, a1s hS⟩
theorem b8j {g : Func} {k im : Int} {a : n9} {l : List n9} (B : B6 s z r) (hg : j7 fs z.f = some g) (hi : j7 g.Code z.pc = some ⟨27, k, im⟩) (hw : z.why = 2) (hp : s.pans.length < 9999999) (hps : s.pans = a :: l) (hr : a.rcv = true) :
  Tri Try.prog 65 [.ptr o.r 0 0] (L6 fs o s (z :: r) rj pj) (fun _ L' => At6 fs o.r ({ s with steps := s.steps + 1 }, { z.toF6 with pc := z.pc + 1, st := 0 :: 0 :: z.st } :: ab6 r) L') := by
 refine i8 mixed a5U zS [3, 4] (fun R S hS => p7 hg hi B.pc B.st (by have := B.n; omega) hS (fun oi og S hS => ?_))
 have hn := B.n
 (repeat refine j4 rfl rfl ?_)
 refine a3d rfl zD zD rfl rfl (fun h => by cases h) (fun _ => ?_)
 (repeat refine j4 rfl rfl ?_)
 refine a0i rfl rfl ?_
 have hs := B.s
 refine aU ?_
 refine c9 hS rfl (.head _) (v := .ref o.li o.lv 0 s.pans.length (some 2)) rfl ?_
 refine aU ?_
 refine c9 hS rfl (.tail _ (.head _)) (v := .int .i64 z.why) (by rw [k9]; exact vT (m8 r) rfl) ?_
 refine aU ?_
 have hpl : s.pans.length = l.length + 1 := by rw [hps]; rfl
 have hxa : s.pans.reverse[l.length]? = some a := by rw [hps]; simp
 refine a6k (b := z.why == 2) rfl rfl rfl (fun hb => ?_) (fun hb => absurd hw (by simpa using hb))
 refine aU ?_
 refine c9 hS rfl (.head _) (v := .ref o.li o.lv 0 s.pans.length (some 2)) rfl ?_
 refine aU ?_
 refine p6 rfl rfl l.length (by show IntKind.i64.wrap ((s.pans.length : Int) - 1) = _; rw [hpl]; exact a2h zO) zO ?_
 refine aU ?_
 refine a4n hS n9.enc rfl (.tail _ (.tail _ (.head _))) (n := l.length) (fo := 1) (y := a) zS hxa (v := .bool a.rcv) rfl ?_
 refine aU ?_
 refine E_cs (t := false) (by show AV.bool (!a.rcv) = _; rw [hr]; rfl) (fun h => by cases h) (fun _ => ?_)
 refine aU ?_
 refine u6 (a0d (z := { z with pc := z.pc + 1 }) (v := 0) zO (by show z.st.length < _; omega)) hS rfl (.refl _) (fun x S L' hL hS => ?_)
 subst hL
 refine aU ?_
 refine u6 (a0d (z := { z with pc := z.pc + 1, st := 0 :: z.st, sv := z.sv + 1, sj := [] }) (v := 0) zO (by show (0 :: z.st).length < _; rw [List.length_cons]; omega)) hS rfl (.refl _) (fun x S L' hL hS => ?_)
 subst hL
 refine aU ?_
 refine aE ?_
 exact ⟨trivial, _, rfl, _, ⟨o, _, _, _, rfl, rfl, rfl⟩, a1s hS⟩
theorem c0D {g : Func} {k im : Int} {a : n9} {l : List n9} (B : B6 s z r) (hg : j7 fs z.f = some g) (hi : j7 g.Code z.pc = some ⟨27, k, im⟩) (hw : z.why = 2) (hp : s.pans.length < 9999999) (hps : s.pans = a :: l) (hr : a.rcv = false) :
  Tri Try.prog 65 [.ptr o.r 0 0] (L6 fs o s (z :: r) rj pj) (fun _ L' => At6 fs o.r ({ s with steps := s.steps + 1, pans := ⟨a.v, true⟩ :: l }, { z.toF6 with pc := z.pc + 1, st := 1 :: a.v :: z.st } :: ab6 r) L') := by
 refine i8 mixed a5U zS [3, 4] (fun R S hS => p7 hg hi B.pc B.st (by have := B.n; omega) hS (fun oi og S hS => ?_))
 have hn := B.n
 (repeat refine j4 rfl rfl ?_)
 refine a3d rfl zD zD rfl rfl (fun h => by cases h) (fun _ => ?_)
 (repeat refine j4 rfl rfl ?_)
 refine a0i rfl rfl ?_
 have hs := B.s
 refine aU ?_
 refine c9 hS rfl (.head _) (v := .ref o.li o.lv 0 s.pans.length (some 2)) rfl ?_
 refine aU ?_
 refine c9 hS rfl (.tail _ (.head _)) (v := .int .i64 z.why) (by rw [k9]; exact vT (m8 r) rfl) ?_
 refine aU ?_
 have hpl : s.pans.length = l.length + 1 := by rw [hps]; rfl
 have hxa : s.pans.reverse[l.length]? = some a := by rw [hps]; simp
 refine a6k (b := z.why == 2) rfl rfl rfl (fun hb => ?_) (fun hb => absurd hw (by simpa using hb))
 refine aU ?_
 refine c9 hS rfl (.head _) (v := .ref o.li o.lv 0 s.pans.length (some 2)) rfl ?_
 refine aU ?_
 refine p6 rfl rfl l.length (by show IntKind.i64.wrap ((s.pans.length : Int) - 1) = _; rw [hpl]; exact a2h zO) zO ?_
 refine aU ?_
 refine a4n hS n9.enc rfl (.tail _ (.tail _ (.head _))) (n := l.length) (fo := 1) (y := a) zS hxa (v := .bool a.rcv) rfl ?_
 refine aU ?_
 refine E_cs (t := true) (by show AV.bool (!a.rcv) = _; rw [hr]; rfl) (fun _ => ?_) (fun h => by cases h)
 refine aU ?_
 refine c9 hS rfl (.head _) (v := .ref o.li o.lv 0 s.pans.length (some 2)) rfl ?_
 refine aU ?_
 refine p6 rfl rfl l.length (by show IntKind.i64.wrap ((s.pans.length : Int) - 1) = _; rw [hpl]; exact a2h zO) zO ?_
 refine aU ?_
 refine b7G (y' := (⟨a.v, true⟩ : n9)) (l := s.pans.reverse) (j := pj) hS n9.enc rfl (xv := .bool true) rfl (n := l.length) (fo := 1) (y := a) zS hxa (Rp.there (Rp.there Rp.here)) rfl rfl (by simp [f5]) rfl (fun S hS => ?_)
 have e9 : s.pans.reverse.set l.length ⟨a.v, true⟩ = ((⟨a.v, true⟩ : n9) :: l).reverse := by rw [hps, List.reverse_cons, List.reverse_cons, List.set_append_right _ _ zS]; simp
 have hS4 : Ab.Sep S (L6 fs o { s with steps := s.steps + 1, pans := ⟨a.v, true⟩ :: l } ({ z with pc := z.pc + 1 } :: r) rj pj ++ ((oi, 0, (⟨27, k, im⟩ : Instr).cells) :: (og, 0, g.cells) :: R)) := by
  rw [e9] at hS
  have e10 : h6 fs o { s with steps := s.steps + 1, pans := ⟨a.v, true⟩ :: l } (r.length + 1) = h6 fs o { s with steps := s.steps + 1 } (r.length + 1) := by
   show [_, _, AV.ref o.li o.lv 0 (l.length + 1) (some 2), _, _, _, _, _, _, _, _] = _
   rw [<- hpl]
  unfold L6
  show Ab.Sep S ((o.r, 0, h6 fs o { s with steps := s.steps + 1, pans := ⟨a.v, true⟩ :: l } (r.length + 1)) :: _)
  rw [e10]
  exact hS
 clear hS
 refine aU ?_
 refine c9 hS4 rfl (.head _) (v := .ref o.li o.lv 0 (l.length + 1) (some 2)) rfl ?_
 refine aU ?_
 refine p6 rfl rfl l.length (by show IntKind.i64.wrap ((s.pans.length : Int) - 1) = _; rw [hpl]; exact a2h zO) zO ?_
 refine aU ?_
 refine a4n hS4 n9.enc rfl (.tail _ (.tail _ (.head _))) (n := l.length) (fo := 0) (y := (⟨a.v, true⟩ : n9)) zS zS (v := .int .u64 a.v) rfl ?_
 refine aU ?_
 refine u6 (a0d (z := { z with pc := z.pc + 1 }) (v := a.v) zO (by show z.st.length < _; omega)) hS4 rfl (.refl _) (fun x S L' hL hS => ?_)
 subst hL
 refine aU ?_
 refine u6 (a0d (z := { z with pc := z.pc + 1, st := a.v :: z.st, sv := z.sv + 1, sj := [] }) (v := 1) zO (by show (a.v :: z.st).length < _; rw [List.length_cons]; omega)) hS rfl (.refl _) (fun x S L' hL hS => ?_)
 subst hL
 refine aU ?_
 refine aE ?_
 exact ⟨trivial, _, rfl, _, ⟨o, _, _, _, rfl, rfl, rfl⟩, a1s hS⟩
end
end Go.Proofs.Ytnpemocpfdgaoaa

/- ref6's Step, events, reckoning (printed by mkR11.py). -/
namespace Go.Proofs.Ytnpemocpfdgaoaa
open Go Go.Ab
set_option maxRecDepth 20000
set_option maxHeartbeats 2000000
section
variable {fs : List Func} {o : O6} {s : S6} {z : Q6} {r : List Q6} {rj pj : List AV}
theorem c0E {g : Func} {k im : Int} (B : B6 s z r) (hg : j7 fs z.f = some g) (hi : j7 g.Code z.pc = some ⟨28, k, im⟩) (he : s.evs.length < 1000000000) :
  Tri Try.prog 65 [.ptr o.r 0 0] (L6 fs o s (z :: r) rj pj) (fun _ L' => At6 fs o.r ({ s with steps := s.steps + 1, tape := s.tape.tail, evs := s.evs ++ [(⟨2, inV s.tape⟩ : i9)] }, { z.toF6 with pc := z.pc + 1, st := inV s.tape :: z.st } :: ab6 r) L') := by
 refine i8 mixed a5U zS [3, 4] (fun R S hS => p7 hg hi B.pc B.st (by have := B.n; omega) hS (fun oi og S hS => ?_))
 have hn := B.n
 (repeat refine j4 rfl rfl ?_)
 refine a3d rfl zD zD rfl rfl (fun h => by cases h) (fun _ => ?_)
 (repeat refine j4 rfl rfl ?_)
 refine a0i rfl rfl ?_
 have hs := B.s
 refine aU ?_
 refine c9 hS rfl (.head _) (v := .sl false 1 (s.tape.map (avI .u64))) rfl ?_
 refine aU ?_
 have hc : s.tape = [] \/ ∃ v l, s.tape = v :: l := by
  cases s.tape with
  | nil => exact .inl rfl
  | cons v l => exact .inr ⟨v, l, rfl⟩
 rcases hc with ht | ⟨v, l, ht⟩
 ·rw [show inV s.tape = 0 by rw [ht]; rfl, show s.tape.tail = s.tape by rw [ht]; rfl]
  refine E_cs (t := false) (by show AV.bool (decide (((s.tape).length : Int) > 0)) = _; rw [ht]; rfl) (fun h => by cases h) (fun _ => ?_)
  refine aU ?_
  refine c9 hS rfl (.head _) (v := .ref o.te o.tv 0 s.evs.length (some 2)) rfl ?_
  refine aU ?_
  refine a4m (o := o.te) (ver := o.tv) (f := i9.av) (l := s.evs) (m := [(⟨2, 0⟩ : i9)]) (j := []) hS i9.enc rfl a7q (Rp.there (Rp.there (Rp.there (by rw [List.append_nil]; exact Rp.here)))) ⟨by simp; omega, by simp; omega⟩ (fun S hS => ?_)
  refine aU ?_
  refine E_stS hS rfl (xv := .ref o.te (o.tv + 1) 0 (s.evs ++ [(⟨2, 0⟩ : i9)]).length (some 2)) rfl Rp.here rfl rfl zV (fun S hS => ?_)
  have hS3 : Ab.Sep S (L6 fs { o with tv := o.tv + 1 } { s with steps := s.steps + 1, tape := s.tape, evs := s.evs ++ [(⟨2, 0⟩ : i9)] } ({ z with pc := z.pc + 1 } :: r) rj pj ++ ((oi, 0, (⟨28, k, im⟩ : Instr).cells) :: (og, 0, g.cells) :: R)) := hS
  clear hS
  refine aU ?_
  refine u6 (a0d (o := { o with tv := o.tv + 1 }) (z := { z with pc := z.pc + 1 }) (v := 0) zO (by show z.st.length < _; omega)) hS3 rfl (.refl _) (fun x S L' hL hS => ?_)
  subst hL
  refine aU ?_
  refine aE ?_
  exact ⟨trivial, _, rfl, _, ⟨{ o with tv := o.tv + 1 }, _, _, _, rfl, rfl, rfl⟩, a1s hS⟩
 ·rw [show inV s.tape = v by rw [ht]; rfl, show s.tape.tail = l by rw [ht]; rfl]
  refine E_cs (t := true) (by show AV.bool (decide (((s.tape).length : Int) > 0)) = _; rw [ht, decide_eq_true (by simp only [List.length_cons]; omega)]) (fun _ => ?_) (fun h => by cases h)
  refine aU ?_
  refine c9 hS rfl (.head _) (v := .sl false 1 (s.tape.map (avI .u64))) rfl ?_
  refine aU ?_
  refine l8 (esh := none) (f := avI .u64) (ys := s.tape) (y := v) rfl rfl (by rw [ht]; rfl) ?_
  refine aU ?_
  refine c9 hS rfl (.head _) (v := .sl false 1 (s.tape.map (avI .u64))) rfl ?_
  refine aU ?_
  refine b2U (esh := none) (f := avI .u64) (l := s.tape) (a := 1) (b := l.length + 1) rfl rfl (by rw [ht]; rfl) ⟨by omega, by rw [ht]; simp⟩ ?_
  refine aU ?_
  refine E_stS hS rfl (xv := .sl false 1 (l.map (avI .u64))) (by show AV.sl false 1 (List.map (avI .u64) (List.drop 1 (List.take (l.length + 1) s.tape))) = _; rw [ht]; simp) Rp.here rfl rfl zV (fun S hS => ?_)
  refine aU ?_
  refine c9 hS rfl (.head _) (v := .ref o.te o.tv 0 s.evs.length (some 2)) rfl ?_
  refine aU ?_
  refine a4m (o := o.te) (ver := o.tv) (f := i9.av) (l := s.evs) (m := [(⟨2, v⟩ : i9)]) (j := []) hS i9.enc rfl a7q (Rp.there (Rp.there (Rp.there (by rw [List.append_nil]; exact Rp.here)))) ⟨by simp; omega, by simp; omega⟩ (fun S hS => ?_)
  refine aU ?_
  refine E_stS hS rfl (xv := .ref o.te (o.tv + 1) 0 (s.evs ++ [(⟨2, v⟩ : i9)]).length (some 2)) rfl Rp.here rfl rfl zV (fun S hS => ?_)
  have hS3 : Ab.Sep S (L6 fs { o with tv := o.tv + 1 } { s with steps := s.steps + 1, tape := l, evs := s.evs ++ [(⟨2, v⟩ : i9)] } ({ z with pc := z.pc + 1 } :: r) rj pj ++ ((oi, 0, (⟨28, k, im⟩ : Instr).cells) :: (og, 0, g.cells) :: R)) := hS
  clear hS
  refine aU ?_
  refine u6 (a0d (o := { o with tv := o.tv + 1 }) (z := { z with pc := z.pc + 1 }) (v := v) zO (by show z.st.length < _; omega)) hS3 rfl (.refl _) (fun x S L' hL hS => ?_)
  subst hL
  refine aU ?_
  refine aE ?_
  exact ⟨trivial, _, rfl, _, ⟨{ o with tv := o.tv + 1 }, _, _, _, rfl, rfl, rfl⟩, a1s hS⟩
theorem c0F {g : Func} {k im : Int} {v : Int} {st : List Int} (B : B6 s z r) (hg : j7 fs z.f = some g) (hi : j7 g.Code z.pc = some ⟨29, k, im⟩) (hst : z.st = v :: st) (hs : st.length < 100000000) (he : s.evs.length < 1000000000) :
  Tri Try.prog 65 [.ptr o.r 0 0] (L6 fs o s (z :: r) rj pj) (fun _ L' => At6 fs o.r ({ s with steps := s.steps + 1, evs := s.evs ++ [(⟨1, v⟩ : i9)] }, { z.toF6 with pc := z.pc + 1, st := st } :: ab6 r) L') := by
 refine i8 mixed a5U zS [3, 4] (fun R S hS => p7 hg hi B.pc B.st (by have := B.n; omega) hS (fun oi og S hS => ?_))
 have hn := B.n
 (repeat refine j4 rfl rfl ?_)
 refine a3d rfl zD zD rfl rfl (fun h => by cases h) (fun _ => ?_)
 (repeat refine j4 rfl rfl ?_)
 refine a0i rfl rfl ?_
 refine a0r ?_
 refine aU ?_
 refine c9 hS rfl (.head _) (v := .ref o.te o.tv 0 s.evs.length (some 2)) rfl ?_
 refine aU ?_
 have hm1 := hS.at (.head _)
 refine u6 (w8 (z := { z with pc := z.pc + 1 }) hst zO zO) hS rfl (.refl _) (fun x S L' hL hS => ?_)
 obtain ⟨rfl, rfl⟩ := hL
 have hm2 := hS.at (.head _)
 refine aU ?_
 refine a4m (o := o.te) (ver := o.tv) (f := i9.av) (l := s.evs) (m := [(⟨1, v⟩ : i9)]) (j := []) hS i9.enc rfl a7q (Rp.there (Rp.there (Rp.there (by rw [List.append_nil]; exact Rp.here)))) ⟨by simp; omega, by simp; omega⟩ (fun S hS => ?_)
 refine aU ?_
 refine E_stS hS rfl (xv := .ref o.te (o.tv + 1) 0 (s.evs ++ [(⟨1, v⟩ : i9)]).length (some 2)) rfl Rp.here rfl rfl zV (fun S hS => ?_)
 refine aU ?_
 refine And.intro ⟨⟨rfl, fun x hx => by rw [List.mem_singleton.1 hx]; exact hm2.trans hm1.symm⟩, by simp [a0q, a4A, y6, a1j]⟩ ?_
 refine aE ?_
 exact ⟨trivial, _, rfl, _, ⟨{ o with tv := o.tv + 1 }, _, _, _, rfl, rfl, rfl⟩, a1s hS⟩
def b8k (op : Int) : Prop := (op == 1) = false /\ (op == 2) = false /\ (op == 3) = false /\ (op == 4) = false /\ (op == 5) = false /\ (op == 6) = false /\ (op == 21) = false /\ (op == 22) = false /\ (op == 23) = false /\ (op == 24) = false /\ (op == 25) = false /\ (op == 26) = false /\ (op == 27) = false /\ (op == 28) = false /\ (op == 29) = false /\ (op == 30) = false /\ (op == 31) = false /\ (op == 32) = false
theorem c2P {g : Func} {op k im : Int} {a b v : Int} {st : List Int} {fuel : Nat} (B : B6 s z r) (hg : j7 fs z.f = some g) (hi : j7 g.Code z.pc = some ⟨op, k, im⟩) (hop : b8k op) (hst : z.st = b :: a :: st) (hs : st.length < 100000000) (hv : l7 fuel op a b = some (v, 0)) :
  Tri Try.prog 65 [.ptr o.r 0 0] (L6 fs o s (z :: r) rj pj) (fun _ L' => At6 fs o.r ({ s with steps := s.steps + 1 }, { z.toF6 with pc := z.pc + 1, st := v :: st } :: ab6 r) L') := by
 obtain ⟨o1, o2, o3, o4, o5, o6, o7, o8, o9, o10, o11, o12, o13, o14, o15, o16, o17, o18⟩ := hop
 refine i8 mixed a5U zS [3, 4] (fun R S hS => p7 hg hi B.pc B.st (by have := B.n; omega) hS (fun oi og S hS => ?_))
 have hn := B.n
 refine j4 rfl o1 (j4 rfl o2 (j4 rfl o3 (j4 rfl o4 (a3d rfl zD zD o5 o6 (fun h => by cases h) (fun _ => j4 rfl o7 (j4 rfl o8 (j4 rfl o9 (j4 rfl o10 (j4 rfl o11 (j4 rfl o12 (j4 rfl o13 (j4 rfl o14 (j4 rfl o15 (j4 rfl o16 (j4 rfl o17 (j4 rfl o18 ?_))))))))))))))))
 refine aU ?_
 refine u6 (w8 (z := { z with pc := z.pc + 1 }) hst zO zE) hS rfl (.refl _) (fun x S L' hL hS => ?_)
 obtain ⟨rfl, rfl⟩ := hL
 refine aU ?_
 refine u6 (w8 (z := { z with pc := z.pc + 1, st := a :: st, sj := .int .u64 b :: z.sj }) rfl zO zO) hS rfl (.refl _) (fun x S L' hL hS => ?_)
 obtain ⟨rfl, rfl⟩ := hL
 refine aU ?_
 refine c9 hS rfl (List.mem_append_right _ (.head _)) (v := .int .u8 op) rfl ?_
 refine aU ?_
 refine a2c (a2g hv) rfl rfl rfl ?_
 refine aU ?_
 refine E_cs (t := false) rfl (fun h => by cases h) (fun _ => ?_)
 refine aU ?_
 refine u6 (a0d (z := { z with pc := z.pc + 1, st := st, sj := .int .u64 a :: .int .u64 b :: z.sj }) (v := v) zO (by show st.length < _; omega)) hS rfl (.refl _) (fun x S L' hL hS => ?_)
 subst hL
 refine aU ?_
 refine aE ?_
 exact ⟨trivial, _, rfl, _, ⟨o, _, _, _, rfl, rfl, rfl⟩, a1s hS⟩
theorem c2Q {g : Func} {op k im : Int} {a b v e : Int} {st : List Int} {fuel : Nat} {t : S6 × List F6} (B : B6 s z r) (hg : j7 fs z.f = some g) (hi : j7 g.Code z.pc = some ⟨op, k, im⟩) (hop : b8k op) (hst : z.st = b :: a :: st) (hs : st.length < 100000000) (hv : l7 fuel op a b = some (v, e)) (he : e ≠ 0) (hok : ∀ g ∈ fs, g.Locals.length < 1000000) (hp : s.pans.length < 9999999) (hd : 0 <= s.depth /\ s.depth < 1000000000) (hw : ∀ y ∈ z :: r, y.wa.length < 100000000) (hp6 : b1h fs { s with steps := s.steps + 1 } ({ z.toF6 with pc := z.pc + 1, st := st } :: ab6 r) 18446744073709551615 = some t) :
  Tri Try.prog 65 [.ptr o.r 0 0] (L6 fs o s (z :: r) rj pj) (fun _ L' => At6 fs o.r t L') := by
 obtain ⟨o1, o2, o3, o4, o5, o6, o7, o8, o9, o10, o11, o12, o13, o14, o15, o16, o17, o18⟩ := hop
 refine i8 mixed a5U zS [3, 4] (fun R S hS => p7 hg hi B.pc B.st (by have := B.n; omega) hS (fun oi og S hS => ?_))
 have hn := B.n
 refine j4 rfl o1 (j4 rfl o2 (j4 rfl o3 (j4 rfl o4 (a3d rfl zD zD o5 o6 (fun h => by cases h) (fun _ => j4 rfl o7 (j4 rfl o8 (j4 rfl o9 (j4 rfl o10 (j4 rfl o11 (j4 rfl o12 (j4 rfl o13 (j4 rfl o14 (j4 rfl o15 (j4 rfl o16 (j4 rfl o17 (j4 rfl o18 ?_))))))))))))))))
 refine aU ?_
 refine u6 (w8 (z := { z with pc := z.pc + 1 }) hst zO zE) hS rfl (.refl _) (fun x S L' hL hS => ?_)
 obtain ⟨rfl, rfl⟩ := hL
 refine aU ?_
 refine u6 (w8 (z := { z with pc := z.pc + 1, st := a :: st, sj := .int .u64 b :: z.sj }) rfl zO zO) hS rfl (.refl _) (fun x S L' hL hS => ?_)
 obtain ⟨rfl, rfl⟩ := hL
 refine aU ?_
 refine c9 hS rfl (List.mem_append_right _ (.head _)) (v := .int .u8 op) rfl ?_
 refine aU ?_
 refine a2c (a2g hv) rfl rfl rfl ?_
 refine aU ?_
 refine E_cs (t := true) (by show AV.bool (e != 0) = _; simp [he]) (fun _ => ?_) (fun h => by cases h)
 obtain ⟨u, hu, rfl⟩ := Option.map_eq_some_iff.1 hp6
 refine aU ?_
 refine u6 (a3X (rows := { z with pc := z.pc + 1, st := st, sj := .int .u64 a :: .int .u64 b :: z.sj } :: r) (s := { s with steps := s.steps + 1 }) (v := 18446744073709551615) (ps' := u.2.2) (en := u.1) (A' := u.2.1) hu hok zE hp hd (fun y hy => (List.mem_cons.1 hy).elim (fun e => by rw [e]; exact hw z (.head _)) (fun e => hw y (.tail _ e)))) hS rfl (.refl _) (fun x S L' hL hS => ?_)
 refine aU ?_
 refine d8 ?_
 refine aE ?_
 obtain ⟨rv, lv, rows', rj', pj', h7, rfl⟩ := hL
 exact ⟨trivial, _, rfl, _, ⟨{ o with rv := rv, lv := lv }, rows', rj', pj', rfl, h7, rfl⟩, a1s hS⟩
end
end Go.Proofs.Ytnpemocpfdgaoaa

