/- ref8's settle: the walk. -/
import Derived.Test.YtnpemocpfdgaoaaRfW4
import Derived.Test.YtnpemocpfdgaoaaWlK11
import Derived.Test.YtnpemocpfdgaoaaGenTr
import Derived.Test.YtnpemocpfdgaoaaWlH2
import Derived.Test.YtnpemocpfdgaoaaGenK
set_option linter.unusedVariables false
set_option linter.unusedSimpArgs false
namespace Go.Proofs.Ytnpemocpfdgaoaa
open Go Go.Ab
set_option maxRecDepth 20000
set_option maxHeartbeats 2000000
noncomputable def c7L : FC := fcO 78
theorem c7M : Fn3 Try.prog 78 142 [] c7L := ⟨_, _, Try.func78, rfl, rfl, rfl, by kernel_rfl⟩

def b2A (gs : List a9) (y : F8) : Option Int := (j9 gs y.f).bind fun g => if 0 <= g.Keep then j9 y.ce g.Keep else some 0
structure RO8 where
 en : Option (Int × Int)
 push : Bool
 A : List F8
 ps : List a1W
def a4Z (gs : List a9) : List F8 -> List a1W -> Option RO8
 | [], _ => none
 | z :: r, ps => if z.ends = false then some ⟨none, false, z :: r, ps⟩ else
   match z.wa with
   | x :: wa => (b0R gs x.f x.args 1).map fun F => ⟨none, true, F :: { z with wa := wa } :: r, ps⟩
   | [] => match r with
     | [] => some ⟨some (1, 0), false, [], ps⟩
     | y :: t =>
       if z.why = 0 then match y.back gs z.ret with | some y1 => a4Z gs (y1 :: t) ps | none => none
       else if z.why = 2 then (match ps with
        | [] => none
        | a :: l => if a.rcv then (b2A gs y).bind fun v => a4Z gs ({ y with ends := true, ret := v } :: t) l
          else (a9v gs (y :: t) (a :: l)).map fun u => ⟨u.1.map fun v => (2, v), u.1.isNone, u.2.1, u.2.2⟩)
       else a4Z gs (y :: t) ps
 termination_by rows => rows.length
theorem b2B {gs : List a9} {z : F8} {r : List F8} {ps : List a1W} {u : RO8} (hz : z.ends = false) (h : a4Z gs (z :: r) ps = some u) : u = ⟨none, false, z :: r, ps⟩ := by
 unfold a4Z at h; rw [if_pos hz] at h; cases h; rfl
theorem b0T {gs : List a9} {z : F8} {r : List F8} {ps : List a1W} {u : RO8} {x wa} (hz : z.ends = true) (hw : z.wa = x :: wa) (h : a4Z gs (z :: r) ps = some u) : ∃ F, b0R gs x.f x.args 1 = some F /\ u = ⟨none, true, F :: { z with wa := wa } :: r, ps⟩ := by
 unfold a4Z at h; rw [if_neg (by simp [hz]), hw] at h
 obtain ⟨F, h1, h2⟩ := Option.map_eq_some_iff.1 h
 exact ⟨F, h1, h2.symm⟩
theorem b0U {gs : List a9} {z : F8} {ps : List a1W} {u : RO8} (hz : z.ends = true) (hw : z.wa = []) (h : a4Z gs [z] ps = some u) : u = ⟨some (1, 0), false, [], ps⟩ := by
 unfold a4Z at h; rw [if_neg (by simp [hz]), hw] at h; cases h; rfl
theorem b0V {gs : List a9} {z y : F8} {t : List F8} {ps : List a1W} {u : RO8} (hz : z.ends = true) (hw : z.wa = []) (h : a4Z gs (z :: y :: t) ps = some u) :
  (z.why = 0 /\ ∃ y1, y.back gs z.ret = some y1 /\ a4Z gs (y1 :: t) ps = some u) \/
  (z.why = 2 /\ ∃ a l, ps = a :: l /\ ((a.rcv = true /\ ∃ v, b2A gs y = some v /\ a4Z gs ({ y with ends := true, ret := v } :: t) l = some u) \/
   (a.rcv = false /\ ∃ w, a9v gs (y :: t) (a :: l) = some w /\ u = ⟨w.1.map fun v => (2, v), w.1.isNone, w.2.1, w.2.2⟩))) \/
  (z.why ≠ 0 /\ z.why ≠ 2 /\ a4Z gs (y :: t) ps = some u) := by
 unfold a4Z at h; rw [if_neg (by simp [hz]), hw] at h
 dsimp only at h
 split at h
 ·rename_i h0
  split at h
  ·rename_i y1 h1
   exact .inl ⟨h0, y1, h1, h⟩
  ·cases h
 ·rename_i h0
  split at h
  ·rename_i h2
   cases ps with
   | nil => cases h
   | cons a l =>
     dsimp only at h
     split at h
     ·rename_i ha
      obtain ⟨v, h3, h4⟩ := Option.bind_eq_some_iff.1 h
      exact .inr (.inl ⟨h2, a, l, rfl, .inl ⟨ha, v, h3, h4⟩⟩)
     ·rename_i ha
      obtain ⟨w, h3, h4⟩ := Option.map_eq_some_iff.1 h
      exact .inr (.inl ⟨h2, a, l, rfl, .inr ⟨by simpa using ha, w, h3, h4.symm⟩⟩)
  ·rename_i h2
   exact .inr (.inr ⟨h0, h2, h⟩)
section
variable {gs : List a9} {o : O8} {s : S8} {z : Q8} {r : List Q8} {rj pj : List AV}
theorem b9F {z y : F8} {k v : Int} (h : z.set k v = some y) : y.wa = z.wa := by
 unfold F8.set at h
 split at h
 ·split at h
  ·cases h; rfl
  ·cases h
 ·cases h; rfl
theorem b4o {z y : F8} {v : Int} (h : z.back gs v = some y) : y.wa = z.wa := by
 unfold F8.back at h
 obtain ⟨g, h1, h⟩ := Option.bind_eq_some_iff.1 h
 obtain ⟨n, h2, h⟩ := Option.bind_eq_some_iff.1 h
 exact b9F (z := { z with pc := n.Next }) h
def S8.ret (s : S8) (u : RO8) : S8 := { s with pans := u.ps, ek := u.en.elim s.ek (·.1), ev := u.en.elim s.ev (·.2), depth := if u.push then max s.depth (u.A.length : Int) else s.depth }
theorem a9i {rows : List Q8} {u : RO8} (hv : a4Z gs (ab8 rows) s.pans = some u) (hok : ∀ g ∈ gs, okG g) (hek : s.ek = 0) (hn : rows.length < 9999999) (hp : s.pans.length < 9999999) (hd : 0 <= s.depth /\ s.depth < 1000000000) (hw : ∀ z ∈ rows, z.wa.length < 100000000) :
  Tri Try.prog 78 [.ptr o.r 0 0] (L8 gs o s rows rj pj)
   (fun _ L' => ∃ rv lv rows' rj' pj', ab8 rows' = u.A /\ L' = L8 gs { o with rv := rv, lv := lv } (s.ret u) rows' rj' pj') := by
 refine j7 mixed c7M zS [2] (fun R S hS => ?_)
 refine p5 (a2t (σ := List Q8 × List a1W × List AV × List AV) (fun _ => [(0, .ptr o.r 0 0)]) (fun q => L8 gs o { s with pans := q.2.1 } q.1 q.2.2.1 q.2.2.2 ++ R)
  (fun q => a4Z gs (ab8 q.1) q.2.1 = some u /\ q.1.length < 9999999 /\ q.2.1.length < 9999999 /\ ∀ z ∈ q.1, z.wa.length < 100000000) (fun q => q.1.length) (rows, s.pans, rj, pj) hS ⟨hv, hn, hp, hw⟩
  wF (fun q S hI hS => ?_))
 obtain ⟨rows1, ps1, rj1, pj1⟩ := q
 obtain ⟨i1, i2, i3, i4⟩ := hI
 dsimp only at i1 i2 i3 i4 hS
 cases rows1 with
 | nil => unfold a4Z at i1; cases i1
 | cons z r =>
 have hrl : r.length < 9999998 := by simp at i2; omega
 refine aU ?_
 refine b7 hS rfl (.head _) (v := .int .i64 0) (by show w9 none (h8 gs o { s with pans := ps1 } (r.length + 1)) (0 + 7 + 0) = _; rw [show h8 gs o { s with pans := ps1 } (r.length + 1) = h8 gs o { s with pans := ps1, ek := 0 } (r.length + 1) by rw [<- hek]]; rfl) ?_
 refine aU ?_
 refine b7 hS rfl (.head _) (v := .ref o.ro o.rv 0 (r.length + 1) (some 9)) rfl ?_
 refine aU ?_
 refine b7 hS rfl (.head _) (v := .ref o.ro o.rv 0 (r.length + 1) (some 9)) rfl ?_
 refine aU ?_
 refine s6 rfl rfl r.length (a1M zO) zO ?_
 refine aU ?_
 refine b7 hS rfl (.tail _ (.head _)) (v := .bool z.ends) (by rw [u1]; exact vT (z4 r) rfl) ?_
 refine aU ?_
 refine E_cs (t := z.ends) rfl (fun hE => ?_) (fun hE => ?_)
 rotate_left
 ·-- it goes on
  refine a3f ?_
  refine aE ?_
  cases b2B hE i1
  exact ⟨trivial, _, rfl, _, ⟨o.rv, o.lv, z :: r, rj1, pj1, rfl, by simp [S8.ret]⟩, hS⟩
 refine aU ?_
 refine p5 ?_
 cases hz : z.wa with
 | cons x wa =>
   obtain ⟨F, h1, h2⟩ := b0T (z := z.toF8) (r := ab8 r) hE hz i1
   have hwz := (i4 z (.head _))
   rw [hz] at hwz
   refine aU ?_
   refine a2S (a7l (s := { s with pans := ps1 }) (r := r) (w := 1) hz h1 hok zO hd (by simp at hwz; omega)) hS rfl (.refl _) (fun r0 S L' hL hS => ?_)
   obtain ⟨rfl, z1, hz1, rfl⟩ := hL
   refine aU ?_
   refine E_cs (t := true) rfl (fun _ => ?_) (fun h => by cases h)
   refine f7 ?_
   refine aE ?_
   refine ⟨trivial, _, rfl, _, ⟨o.rv + 1, o.lv, z1 :: { z with wa := wa, wj := x.cells ++ z.wj } :: r, [], pj1, by rw [h2, <- hz1]; rfl, rfl⟩, ?_⟩
   have e1 : s.ret u = { s with pans := ps1, depth := max s.depth ((r.length : Int) + 2) } := by
    rw [h2]; simp [S8.ret, ab8]; omega
   rw [e1]
   exact hS
 | nil =>
 refine aU ?_
 refine a2S (a7k (s := { s with pans := ps1 }) (r := r) (w := 1) hz zO) hS rfl (.refl _) (fun r0 S L' hL hS => ?_)
 obtain ⟨rfl, rfl⟩ := hL
 refine aU ?_
 refine E_cs (t := false) rfl (fun h => by cases h) (fun _ => ?_)
 refine aU ?_
 refine s4 ?_
 refine aU ?_
 refine b7 hS rfl (.head _) (v := .ref o.ro o.rv 0 (r.length + 1) (some 9)) rfl ?_
 refine aU ?_
 refine b7 hS rfl (.head _) (v := .ref o.ro o.rv 0 (r.length + 1) (some 9)) rfl ?_
 refine aU ?_
 refine s6 rfl rfl r.length (a1M zO) zO ?_
 refine b7 hS rfl (.tail _ (.head _)) (v := .agg (c8 z)) (by rw [u1]; exact vT0 (z4 r) rfl) ?_
 refine z7 hS rfl (fun oi S hS => ?_)
 have h1 : o.r ≠ oi := fun e => (List.nodup_cons.1 hS.2).1 (by rw [<- e]; exact List.mem_map.2 ⟨_, .head _, rfl⟩)
 have h2 : o.ro ≠ oi := fun e => (List.nodup_cons.1 hS.2).1 (by rw [<- e]; exact List.mem_map.2 ⟨_, .tail _ (.head _), rfl⟩)
 refine E_stS hS rfl (xv := .agg (c8 z)) rfl Rp.here rfl (b3h z) zqV (fun S hS => ?_)
 refine a7 ?_
 refine And.intro (by simp [u7, a1u, r5, y8, h1, h2, Ne.symm h1, Ne.symm h2]) ?_
 refine aU ?_
 refine b7 hS rfl (.tail _ (.head _)) (v := .ref o.ro o.rv 0 (r.length + 1) (some 9)) rfl ?_
 refine aU ?_
 refine b7 hS rfl (.tail _ (.head _)) (v := .ref o.ro o.rv 0 (r.length + 1) (some 9)) rfl ?_
 refine aU ?_
 refine a5J (a := 0) (b := r.length) rfl rfl (by show hiN (r.length + 1) (some (.int .i64 (IntKind.i64.wrap (((r.length + 1 : Nat) : Int) - 1)))) = _; rw [a1M zO, a0U zO]; simp) ⟨by omega, by omega, .inl rfl⟩ ?_
 refine aU ?_
 refine E_stS hS rfl (xv := .ref o.ro o.rv 0 r.length (some 9)) (by show AV.ref o.ro o.rv (0 + 0 * d9 (some 9)) (r.length - 0) (some 9) = _; simp) (Rp.there Rp.here) rfl rfl zqV (fun S hS => ?_)
 have hS2 : Ab.Sep S (L8 gs o { s with pans := ps1 } r (c8 z ++ rj1) pj1 ++ ((oi, 0, c8 z) :: R)) := b9E (R := (oi, 0, c8 z) :: R) (hS.perm (by
  refine (List.perm_middle (l₁ := (o.r, 0, h8 gs o { s with pans := ps1 } r.length) :: (o.ro, o.rv, rC (z :: r) ++ rj1) :: (x8 o { s with pans := ps1 } pj1 ++ (z :: r).flatMap o8)) (l₂ := R)).symm))
 clear hS
 refine aU ?_
 refine b7 hS2 rfl (.head _) (v := .ref o.ro o.rv 0 r.length (some 9)) rfl ?_
 refine aU ?_
 refine E_cs (t := ((r.length : Int) == 0)) rfl (fun hr => ?_) (fun hr => ?_)
 ·have hr0 : r = [] := by
   have : (r.length : Int) = 0 := by simpa using hr
   exact List.length_eq_zero_iff.1 zO
  subst hr0
  cases b0U hE hz i1
  refine aU ?_
  refine E_stS hS2 rfl (xv := .agg [.int .i64 1, .int .u64 0]) rfl Rp.here rfl rfl zqV (fun S hS => ?_)
  refine aU ?_
  refine f7 ?_
  refine aE ?_
  exact ⟨trivial, _, rfl, _, ⟨o.rv, o.lv, [], c8 z ++ rj1, pj1, rfl, rfl⟩, hS.sub (List.Sublist.append_left (List.sublist_cons_self _ _) _)⟩
 cases r with
 | nil => cases hr
 | cons y t =>
 have htl : t.length < 9999998 := by simp at hrl; omega
 refine aU ?_
 refine b7 hS2 rfl (.head _) (v := .ref o.ro o.rv 0 (t.length + 1) (some 9)) rfl ?_
 refine aU ?_
 refine b7 hS2 rfl (.head _) (v := .ref o.ro o.rv 0 (t.length + 1) (some 9)) rfl ?_
 refine aU ?_
 refine s6 rfl rfl t.length (a1M zO) zO ?_
 refine aU ?_
 refine b7 hS2 rfl (List.mem_append_right _ (.head _)) (v := .int .i64 z.why) rfl ?_
 refine aU ?_
 have hstp := b0V (z := z.toF8) (y := y.toF8) (t := ab8 t) hE hz i1
 have hoi : oi ∉ (L8 gs o { s with pans := ps1 } (y :: t) (c8 z ++ rj1) pj1).map (·.1) := fun hm => by
  have hS3 := hS2.perm List.perm_middle
  exact (List.nodup_cons.1 hS3.2).1 (by rw [List.map_append]; exact List.mem_append_left _ hm)
 have i5 : ∀ q ∈ y :: t, q.wa.length < 100000000 := fun q hq => i4 q (.tail _ hq)
 refine p5 ?_
 refine aU ?_
 refine E_cs (t := z.why == 0) rfl (fun hb => ?_) (fun hb => ?_)
 ·have hw0 : z.why = 0 := by simpa using hb
  obtain ⟨y1, hb1, hg2⟩ : ∃ y1, y.toF8.back gs z.ret = some y1 /\ a4Z gs (y1 :: ab8 t) ps1 = some u := by
   rcases hstp with ⟨_, g, h3, h4⟩ | ⟨h3, _⟩ | ⟨h3, _⟩
   ·exact ⟨g, h3, h4⟩
   ·exact absurd (hw0.symm.trans h3) zD
   ·exact absurd hw0 h3
  refine aU ?_
  refine b7 hS2 rfl (List.mem_append_right _ (.head _)) (v := .int .u64 z.ret) rfl ?_
  refine aU ?_
  refine a2S (b2y (s := { s with pans := ps1 }) hb1 zO) hS2 rfl (.refl _) (fun x S L' hL hS => ?_)
  obtain ⟨q1, rfl, rfl⟩ := hL
  refine aU ?_
  refine aE ?_
  have hq1 : q1.wa.length < 100000000 := by
   have hb2 := b4o hb1
   rw [show q1.wa = y.wa from hb2]
   exact i5 y (.head _)
  exact s7 ⟨(q1 :: t, ps1, c8 z ++ rj1, pj1), ⟨hg2, by show t.length + 1 < _; omega, i3, fun q hq => (List.mem_cons.1 hq).elim (fun e => by rw [e]; exact hq1) (fun e => i5 q (.tail _ e))⟩, by show t.length + 1 < (z :: y :: t).length; simp, hS.sub (List.Sublist.append_left (List.sublist_cons_self _ _) _), wF⟩
 ·have hw0 : z.why ≠ 0 := by simpa using hb
  refine aU ?_
  refine E_cs (t := z.why == 2) rfl (fun hb => ?_) (fun hb => ?_)
  ·have hw2 : z.why = 2 := by simpa using hb
   obtain ⟨a, l, rfl, h4⟩ : ∃ a l, ps1 = a :: l /\ ((a.rcv = true /\ ∃ v, b2A gs y.toF8 = some v /\ a4Z gs ({ y.toF8 with ends := true, ret := v } :: ab8 t) l = some u) \/
     (a.rcv = false /\ ∃ w, a9v gs (y.toF8 :: ab8 t) (a :: l) = some w /\ u = ⟨w.1.map fun v => (2, v), w.1.isNone, w.2.1, w.2.2⟩)) := by
    rcases hstp with ⟨h3, _⟩ | ⟨_, a, l, h3, h4⟩ | ⟨_, h3, _⟩
    ·exact absurd h3 hw0
    ·exact ⟨a, l, h3, h4⟩
    ·exact absurd hw2 h3
   have hll : l.length < 9999998 := by simp at i3; omega
   have hxa : (a :: l).reverse[l.length]? = some a := by simp
   refine aU ?_
   refine b7 hS2 rfl (.head _) (v := .ref o.li o.lv 0 (l.length + 1) (some 2)) rfl ?_
   refine aU ?_
   refine b7 hS2 rfl (.head _) (v := .ref o.li o.lv 0 (l.length + 1) (some 2)) rfl ?_
   refine aU ?_
   refine s6 rfl rfl l.length (a1M zO) zO ?_
   refine aU ?_
   refine b2q hS2 a1W.enc rfl (.tail _ (.tail _ (.head _))) (n := l.length) (fo := 1) (y := a) zS hxa (v := .bool a.rcv) rfl ?_
   refine aU ?_
   refine E_cs (t := !a.rcv) rfl (fun hq => ?_) (fun hq => ?_)
   ·have hq' : a.rcv = false := by simpa using hq
    obtain ⟨w, h5, h8⟩ : ∃ w, a9v gs (y.toF8 :: ab8 t) (a :: l) = some w /\ u = ⟨w.1.map fun v => (2, v), w.1.isNone, w.2.1, w.2.2⟩ := by
     rcases h4 with ⟨h4, _⟩ | ⟨_, w, h5, h8⟩
     ·rw [hq'] at h4; cases h4
     ·exact ⟨w, h5, h8⟩
    refine aU ?_
    refine a2S (a9h (rows := y :: t) (s := { s with pans := a :: l }) h5 hok (by show t.length + 1 < _; omega) (by show l.length + 1 < _; omega) hd i5) hS2 rfl (.refl _) (fun x S L' hL hS => ?_)
    refine aU ?_
    refine f7 ?_
    refine aE ?_
    obtain ⟨rv, lv, rows', rj', pj', h7, rfl⟩ := hL
    obtain ⟨en, A', ps'⟩ := w
    refine ⟨trivial, _, rfl, _, ⟨rv, lv, rows', rj', pj', by rw [h8, h7], ?_⟩, hS.sub (List.Sublist.append_left (List.sublist_cons_self _ _) _)⟩
    rw [h8]
    cases en <;> rfl
   ·have hq' : a.rcv = true := by simpa using hq
    obtain ⟨v, h5, hk6⟩ : ∃ v, b2A gs y.toF8 = some v /\ a4Z gs ({ y.toF8 with ends := true, ret := v } :: ab8 t) l = some u := by
     rcases h4 with ⟨_, v, h5, hk6⟩ | ⟨h4, _⟩
     ·exact ⟨v, h5, hk6⟩
     ·rw [hq'] at h4; cases h4
    obtain ⟨g, h7, h8⟩ := Option.bind_eq_some_iff.1 h5
    refine aU ?_
    refine b7 hS2 rfl (.head _) (v := .ref o.li o.lv 0 (l.length + 1) (some 2)) rfl ?_
    refine aU ?_
    refine a5J (a := 0) (b := l.length) rfl rfl (by show hiN (l.length + 1) (some (.int .i64 (IntKind.i64.wrap (((l.length + 1 : Nat) : Int) - 1)))) = _; rw [a1M zO, a0U zO]; simp) ⟨by omega, by omega, .inl rfl⟩ ?_
    refine aU ?_
    refine E_stS hS2 rfl (xv := .ref o.li o.lv 0 l.length (some 2)) (by show AV.ref o.li o.lv (0 + 0 * d9 (some 2)) (l.length - 0) (some 2) = _; simp) Rp.here rfl rfl zqV (fun S hS => ?_)
    have e4 : flat a1W.av (a :: l).reverse ++ pj1 = flat a1W.av l.reverse ++ (a.cells ++ pj1) := by
     rw [List.reverse_cons, w4, List.append_assoc]; rfl
    have hS3 : Ab.Sep S (L8 gs o { s with pans := l } (y :: t) (c8 z ++ rj1) (a.cells ++ pj1) ++ ((oi, 0, c8 z) :: R)) := by
     unfold L8
     show Ab.Sep S (_ :: _ :: (o.li, o.lv, flat a1W.av l.reverse ++ (a.cells ++ pj1)) :: _)
     rw [<- e4]
     exact hS
    clear hS
    refine aU ?_
    refine E_stS hS3 rfl (xv := .bool true) rfl (a4Y (z' := { y with ends := true }) zO rfl rfl rfl) rfl rfl (a2W zO) (fun S hS => ?_)
    refine aU ?_
    refine E_stS hS rfl (xv := .int .u64 0) rfl (a4Y (z' := { y with ends := true, ret := 0 }) zO rfl rfl rfl) rfl rfl (a2W zO) (fun S hS => ?_)
    refine aU ?_
    refine b7 hS rfl (.head _) (v := .sl false 8 (List.map a9.av gs)) rfl ?_
    refine aU ?_
    refine b7 hS rfl (.tail _ (.head _)) (v := .int .i64 y.f) (by rw [u1]; exact vT (z4 t) rfl) ?_
    refine aU ?_
    refine g8 (esh := some 8) (f := a9.av) (ys := gs) (y := g) rfl rfl h7 ?_
    refine aU ?_
    refine E_cs (t := decide (g.Keep >= 0)) rfl (fun hk => ?_) (fun hk => ?_)
    ·have hk' := of_decide_eq_true hk
     rw [if_pos hk'] at h8
     obtain ⟨k1, k2, k3⟩ := g9 h8
     refine aU ?_
     refine b7 hS rfl (.tail _ (.head _)) (v := .ref y.cl 0 0 y.ce.length none) (by rw [u1]; exact vT (z4 t) rfl) ?_
     refine aU ?_
     refine s6 rfl rfl g.Keep.toNat zO zO ?_
     refine a2K hS (d8 .u64) rfl b6S (n := g.Keep.toNat) (fo := 0) (y := v) (by simp [d9]) k3 (v := .int .u64 v) rfl ?_
     refine aU ?_
     refine E_stS hS rfl (xv := .int .u64 v) rfl (a4Y (z' := { y with ends := true, ret := v }) zO rfl rfl rfl) rfl rfl (a2W zO) (fun S hS => ?_)
     refine aU ?_
     refine aE ?_
     exact s7 ⟨({ y with ends := true, ret := v } :: t, l, c8 z ++ rj1, a.cells ++ pj1), ⟨hk6, by show t.length + 1 < _; omega, by show l.length < _; omega, fun q hq => (List.mem_cons.1 hq).elim (fun e => by rw [e]; exact i5 y (.head _)) (fun e => i5 q (.tail _ e))⟩, by show t.length + 1 < (z :: y :: t).length; simp, hS.sub (List.Sublist.append_left (List.sublist_cons_self _ _) _), wF⟩
    ·have hk' := of_decide_eq_false hk
     rw [if_neg hk'] at h8
     cases h8
     refine aU ?_
     refine aE ?_
     exact s7 ⟨({ y with ends := true, ret := 0 } :: t, l, c8 z ++ rj1, a.cells ++ pj1), ⟨hk6, by show t.length + 1 < _; omega, by show l.length < _; omega, fun q hq => (List.mem_cons.1 hq).elim (fun e => by rw [e]; exact i5 y (.head _)) (fun e => i5 q (.tail _ e))⟩, by show t.length + 1 < (z :: y :: t).length; simp, hS.sub (List.Sublist.append_left (List.sublist_cons_self _ _) _), wF⟩
  ·have hw2 : z.why ≠ 2 := by simpa using hb
   have h5 : a4Z gs (y.toF8 :: ab8 t) ps1 = some u := by
    rcases hstp with ⟨h3, _⟩ | ⟨h3, _⟩ | ⟨_, _, h5⟩
    ·exact absurd h3 hw0
    ·exact absurd h3 hw2
    ·exact h5
   refine aU ?_
   refine aE ?_
   exact s7 ⟨(y :: t, ps1, c8 z ++ rj1, pj1), ⟨h5, by show t.length + 1 < _; omega, i3, i5⟩, by show t.length + 1 < (z :: y :: t).length; simp, hS2.sub (List.Sublist.append_left (List.sublist_cons_self _ _) _), wF⟩
end
end Go.Proofs.Ytnpemocpfdgaoaa

/- ref8's Step: what comes ahead of its operations, and behind. -/
namespace Go.Proofs.Ytnpemocpfdgaoaa
open Go Go.Ab
set_option maxRecDepth 20000
set_option maxHeartbeats 2000000
def c3w : FC := .reg [⟨(some 14), none, .op (.mv (.t 0))⟩,  ⟨(some 15), none, .op (.nchk (.t 14))⟩,  ⟨(some 16), none, .op (.fad 9 (.t 15))⟩,  ⟨(some 17), none, .op (.load none (.t 16))⟩,  ⟨(some 18), none, .op (.bin .none .add (.t 17) (.v (.int .i64 1)))⟩,  ⟨(some 19), none, .op (.nchk (.t 14))⟩,  ⟨(some 20), none, .op (.fad 9 (.t 19))⟩,  ⟨none, none, .op (.store 1 (.t 20) (.t 18))⟩] []
def c3x : FC := .reg [⟨(some 21), none, .op (.mv (.t 0))⟩,  ⟨(some 22), none, .op (.nchk (.t 21))⟩,  ⟨(some 23), none, .op (.fad 3 (.t 22))⟩,  ⟨(some 24), none, .op (.load none (.t 23))⟩,  ⟨(some 25), none, .op (.mv (.t 0))⟩,  ⟨(some 26), none, .op (.nchk (.t 25))⟩,  ⟨(some 27), none, .op (.fad 3 (.t 26))⟩,  ⟨(some 28), none, .op (.load none (.t 27))⟩,  ⟨(some 29), none, .op (.len .sl (.t 28))⟩,  ⟨(some 30), none, .op (.bin .none .sub (.t 29) (.v (.int .i64 1)))⟩,  ⟨(some 31), none, .op (.iad none (some 9) (.t 24) (.t 30))⟩,  ⟨(some 2), none, .op (.mv (.t 31))⟩] []
def c3y : FC := .reg [⟨(some 32), none, .op (.mv (.t 0))⟩,  ⟨(some 33), none, .op (.nchk (.t 32))⟩,  ⟨(some 34), none, .op (.fad 0 (.t 33))⟩,  ⟨(some 35), none, .op (.fad 0 (.t 34))⟩,  ⟨(some 36), none, .op (.load none (.t 35))⟩,  ⟨(some 37), none, .op (.mv (.t 2))⟩,  ⟨(some 38), none, .op (.nchk (.t 37))⟩,  ⟨(some 39), none, .op (.fad 0 (.t 38))⟩,  ⟨(some 40), none, .op (.load none (.t 39))⟩,  ⟨(some 41), none, .op (.iad none (some 8) (.t 36) (.t 40))⟩,  ⟨(some 42), none, .op (.fad 6 (.t 41))⟩,  ⟨(some 43), none, .op (.load none (.t 42))⟩,  ⟨(some 44), none, .op (.mv (.t 2))⟩,  ⟨(some 45), none, .op (.nchk (.t 44))⟩,  ⟨(some 46), none, .op (.fad 1 (.t 45))⟩,  ⟨(some 47), none, .op (.load none (.t 46))⟩,  ⟨(some 48), none, .op (.iad none (some 12) (.t 43) (.t 47))⟩,  ⟨(some 49), none, .op (.load (some 12) (.t 48))⟩,  ⟨(some 3), none, .op (.new [(.int .u8 0), (.int .u8 0), (.int .i64 0), (.int .i64 0), (.int .i64 0), (.int .i64 0), (.int .i64 0), (.int .i64 0), (.int .u64 0), .nils, (.int .i64 0), (.int .i64 0)])⟩,  ⟨none, none, .op (.store 12 (.t 3) (.t 49))⟩] [(4, 18), (8, 18), (11, 18), (15, 18), (17, 18)]
def c3z : FC := .reg [⟨(some 50), none, .op (.fad 10 (.t 3))⟩,  ⟨(some 51), none, .op (.load none (.t 50))⟩,  ⟨(some 4), none, .op (.mv (.t 51))⟩] []
def c3A : FC := .reg [⟨(some 52), none, .op (.fad 0 (.t 3))⟩,  ⟨(some 53), none, .op (.load none (.t 52))⟩] []
def c3B : FC := .reg [⟨(some 63), none, .op (.bin .none .eql (.t 53) (.v (.int .u8 1)))⟩,  ⟨(some 62), none, .op (.mv (.t 63))⟩] []
def c3C : FC := .reg [⟨(some 64), none, .op (.mv (.t 0))⟩,  ⟨(some 65), none, .op (.fad 2 (.t 3))⟩,  ⟨(some 66), none, .op (.load none (.t 65))⟩,  ⟨(some 67), none, .op (.fad 8 (.t 3))⟩,  ⟨(some 68), none, .op (.load none (.t 67))⟩,  ⟨(some 69), none, .call 72 [(.t 64), (.t 66), (.t 68)]⟩] []
def c3D : FC := .reg [⟨(some 71), none, .op (.bin .none .eql (.t 53) (.v (.int .u8 2)))⟩,  ⟨(some 70), none, .op (.mv (.t 71))⟩] []
def c3E : FC := .reg [⟨(some 72), none, .op (.mv (.t 0))⟩,  ⟨(some 73), none, .op (.fad 2 (.t 3))⟩,  ⟨(some 74), none, .op (.load none (.t 73))⟩,  ⟨(some 75), none, .op (.mv (.t 0))⟩,  ⟨(some 76), none, .op (.fad 4 (.t 3))⟩,  ⟨(some 77), none, .op (.load none (.t 76))⟩,  ⟨(some 78), none, .call 73 [(.t 75), (.t 77)]⟩,  ⟨(some 79), none, .call 72 [(.t 72), (.t 74), (.t 78)]⟩] [(2, 6)]
def b9G : FC := .reg [⟨(some 81), none, .op (.bin .none .eql (.t 53) (.v (.int .u8 3)))⟩,  ⟨(some 80), none, .op (.mv (.t 81))⟩] []
def b9H : FC := .reg [⟨(some 83), none, .op (.fad 1 (.t 3))⟩,  ⟨(some 84), none, .op (.load none (.t 83))⟩,  ⟨(some 85), none, .op (.mv (.t 0))⟩,  ⟨(some 86), none, .op (.fad 4 (.t 3))⟩,  ⟨(some 87), none, .op (.load none (.t 86))⟩,  ⟨(some 88), none, .call 73 [(.t 85), (.t 87)]⟩,  ⟨(some 89), none, .op (.mv (.t 0))⟩,  ⟨(some 90), none, .op (.fad 5 (.t 3))⟩,  ⟨(some 91), none, .op (.load none (.t 90))⟩,  ⟨(some 92), none, .call 73 [(.t 89), (.t 91)]⟩,  ⟨(some 93), none, .call 74 [(.t 84), (.t 88), (.t 92)]⟩,  ⟨(some 82), none, .op (.mv (.t 93))⟩,  ⟨(some 94), none, .op (.ext 0 (.t 82))⟩,  ⟨(some 95), none, .op (.ext 1 (.t 82))⟩,  ⟨(some 5), none, .op (.mv (.t 94))⟩,  ⟨(some 6), none, .op (.mv (.t 95))⟩] [(1, 5), (5, 8), (1, 9)]
def b9I : FC := .reg [⟨(some 96), none, .op (.mv (.t 6))⟩,  ⟨(some 97), none, .op (.bin .none .neq (.t 96) (.v (.int .i64 0)))⟩] []
def b9J : FC := .reg [⟨(some 98), none, .op (.mv (.t 0))⟩,  ⟨(some 99), none, .call 75 [(.t 98), (.v (.int .u64 18446744073709551615))]⟩] []
def b9K : FC := .seq b9J FC.ret
def b9L : FC := .cond (.t 97) b9K FC.skip
def b9M : FC := .seq b9I b9L
def b9N : FC := .reg [⟨(some 100), none, .op (.mv (.t 0))⟩,  ⟨(some 101), none, .op (.fad 2 (.t 3))⟩,  ⟨(some 102), none, .op (.load none (.t 101))⟩,  ⟨(some 103), none, .op (.mv (.t 5))⟩,  ⟨(some 104), none, .call 72 [(.t 100), (.t 102), (.t 103)]⟩] []
def b9O : FC := .seq b9M b9N
def b9P : FC := .seq b9H b9O
def b9Q : FC := .reg [⟨(some 106), none, .op (.bin .none .eql (.t 53) (.v (.int .u8 4)))⟩,  ⟨(some 105), none, .op (.mv (.t 106))⟩] []
def b9R : FC := .reg [⟨(some 107), none, .op (.mv (.t 0))⟩,  ⟨(some 108), none, .op (.fad 2 (.t 3))⟩,  ⟨(some 109), none, .op (.load none (.t 108))⟩,  ⟨(some 110), none, .op (.mv (.t 2))⟩,  ⟨(some 111), none, .op (.nchk (.t 110))⟩,  ⟨(some 112), none, .op (.fad 4 (.t 111))⟩,  ⟨(some 113), none, .op (.load none (.t 112))⟩,  ⟨(some 114), none, .op (.fad 7 (.t 3))⟩,  ⟨(some 115), none, .op (.load none (.t 114))⟩,  ⟨(some 116), none, .op (.iad none none (.t 113) (.t 115))⟩,  ⟨(some 117), none, .op (.load none (.t 116))⟩,  ⟨(some 118), none, .call 72 [(.t 107), (.t 109), (.t 117)]⟩] []
def b9S : FC := .reg [⟨(some 120), none, .op (.bin .none .eql (.t 53) (.v (.int .u8 5)))⟩,  ⟨(some 119), none, .op (.mv (.t 120))⟩] []
def b9T : FC := .reg [⟨(some 121), none, .op (.mv (.t 2))⟩,  ⟨(some 122), none, .op (.nchk (.t 121))⟩,  ⟨(some 123), none, .op (.fad 4 (.t 122))⟩,  ⟨(some 124), none, .op (.load none (.t 123))⟩,  ⟨(some 125), none, .op (.fad 7 (.t 3))⟩,  ⟨(some 126), none, .op (.load none (.t 125))⟩,  ⟨(some 127), none, .op (.mv (.t 0))⟩,  ⟨(some 128), none, .op (.fad 4 (.t 3))⟩,  ⟨(some 129), none, .op (.load none (.t 128))⟩,  ⟨(some 130), none, .call 73 [(.t 127), (.t 129)]⟩,  ⟨(some 131), none, .op (.iad none none (.t 124) (.t 126))⟩,  ⟨none, none, .op (.store 1 (.t 131) (.t 130))⟩] [(3, 9), (5, 9)]
def b9U : FC := .reg [⟨(some 133), none, .op (.bin .none .eql (.t 53) (.v (.int .u8 6)))⟩,  ⟨(some 132), none, .op (.mv (.t 133))⟩] []
def b9V : FC := .reg [⟨(some 134), none, .op (.mv (.t 0))⟩,  ⟨(some 135), none, .op (.fad 2 (.t 3))⟩,  ⟨(some 136), none, .op (.load none (.t 135))⟩,  ⟨(some 137), none, .op (.mv (.t 0))⟩,  ⟨(some 138), none, .op (.nchk (.t 137))⟩,  ⟨(some 139), none, .op (.fad 3 (.t 138))⟩,  ⟨(some 140), none, .op (.load none (.t 139))⟩,  ⟨(some 141), none, .op (.len .sl (.t 140))⟩,  ⟨(some 142), none, .op (.bin .none .sub (.t 141) (.v (.int .i64 1)))⟩,  ⟨(some 143), none, .op (.cint .u64 (.t 142))⟩,  ⟨(some 144), none, .op (.bin .none .mul (.t 143) (.v (.int .u64 65536)))⟩,  ⟨(some 145), none, .op (.bin .none .add (.v (.int .u64 4611686018427387904)) (.t 144))⟩,  ⟨(some 146), none, .op (.fad 7 (.t 3))⟩,  ⟨(some 147), none, .op (.load none (.t 146))⟩,  ⟨(some 148), none, .op (.cint .u64 (.t 147))⟩,  ⟨(some 149), none, .op (.bin .none .add (.t 145) (.t 148))⟩,  ⟨(some 150), none, .call 72 [(.t 134), (.t 136), (.t 149)]⟩] []
def b9W : FC := .reg [⟨(some 152), none, .op (.bin .none .eql (.t 53) (.v (.int .u8 7)))⟩,  ⟨(some 151), none, .op (.mv (.t 152))⟩] []
def b9X : FC := .reg [⟨(some 153), none, .op (.bin .none .eql (.t 53) (.v (.int .u8 8)))⟩,  ⟨(some 151), none, .op (.mv (.t 153))⟩] []
def b9Y : FC := .cond (.t 151) FC.skip b9X
def b9Z : FC := .seq b9W b9Y
def c0a : FC := .reg [⟨(some 155), none, .op (.mv (.t 0))⟩,  ⟨(some 156), none, .op (.mv (.t 0))⟩,  ⟨(some 157), none, .op (.fad 4 (.t 3))⟩,  ⟨(some 158), none, .op (.load none (.t 157))⟩,  ⟨(some 159), none, .call 73 [(.t 156), (.t 158)]⟩,  ⟨(some 160), none, .call 76 [(.t 155), (.t 159)]⟩,  ⟨(some 154), none, .op (.mv (.t 160))⟩,  ⟨(some 161), none, .op (.ext 0 (.t 154))⟩,  ⟨(some 162), none, .op (.ext 1 (.t 154))⟩,  ⟨(some 7), none, .op (.mv (.t 161))⟩,  ⟨(some 8), none, .op (.mv (.t 162))⟩] []
def c0b : FC := .reg [⟨(some 163), none, .op (.mv (.t 7))⟩,  ⟨(some 164), none, .op (.bin .none .lss (.t 163) (.v (.int .i64 0)))⟩] []
def c0c : FC := .reg [⟨(some 165), none, .op (.mv (.t 0))⟩,  ⟨(some 166), none, .call 75 [(.t 165), (.v (.int .u64 18446744073709551614))]⟩] []
def c0d : FC := .seq c0c FC.ret
def c0e : FC := .cond (.t 164) c0d FC.skip
def c0f : FC := .seq c0b c0e
def c0g : FC := .reg [⟨(some 167), none, .op (.fad 0 (.t 3))⟩,  ⟨(some 168), none, .op (.load none (.t 167))⟩,  ⟨(some 169), none, .op (.bin .none .eql (.t 168) (.v (.int .u8 7)))⟩] []
def c0h : FC := .reg [⟨(some 170), none, .op (.mv (.t 0))⟩,  ⟨(some 171), none, .op (.fad 2 (.t 3))⟩,  ⟨(some 172), none, .op (.load none (.t 171))⟩,  ⟨(some 173), none, .op (.mv (.t 0))⟩,  ⟨(some 174), none, .op (.nchk (.t 173))⟩,  ⟨(some 175), none, .op (.fad 3 (.t 174))⟩,  ⟨(some 176), none, .op (.load none (.t 175))⟩,  ⟨(some 177), none, .op (.mv (.t 7))⟩,  ⟨(some 178), none, .op (.iad none (some 9) (.t 176) (.t 177))⟩,  ⟨(some 179), none, .op (.fad 4 (.t 178))⟩,  ⟨(some 180), none, .op (.load none (.t 179))⟩,  ⟨(some 181), none, .op (.mv (.t 8))⟩,  ⟨(some 182), none, .op (.iad none none (.t 180) (.t 181))⟩,  ⟨(some 183), none, .op (.load none (.t 182))⟩,  ⟨(some 184), none, .call 72 [(.t 170), (.t 172), (.t 183)]⟩] []
def c0i : FC := .reg [⟨(some 185), none, .op (.mv (.t 0))⟩,  ⟨(some 186), none, .op (.nchk (.t 185))⟩,  ⟨(some 187), none, .op (.fad 3 (.t 186))⟩,  ⟨(some 188), none, .op (.load none (.t 187))⟩,  ⟨(some 189), none, .op (.mv (.t 7))⟩,  ⟨(some 190), none, .op (.iad none (some 9) (.t 188) (.t 189))⟩,  ⟨(some 191), none, .op (.fad 4 (.t 190))⟩,  ⟨(some 192), none, .op (.load none (.t 191))⟩,  ⟨(some 193), none, .op (.mv (.t 8))⟩,  ⟨(some 194), none, .op (.mv (.t 0))⟩,  ⟨(some 195), none, .op (.fad 5 (.t 3))⟩,  ⟨(some 196), none, .op (.load none (.t 195))⟩,  ⟨(some 197), none, .call 73 [(.t 194), (.t 196)]⟩,  ⟨(some 198), none, .op (.iad none none (.t 192) (.t 193))⟩,  ⟨none, none, .op (.store 1 (.t 198) (.t 197))⟩] [(3, 12), (7, 12)]
def c0j : FC := .cond (.t 169) c0h c0i
def c0k : FC := .seq c0g c0j
def c0l : FC := .seq c0f c0k
def c0m : FC := .seq c0a c0l
def c0n : FC := .reg [⟨(some 200), none, .op (.bin .none .eql (.t 53) (.v (.int .u8 9)))⟩,  ⟨(some 199), none, .op (.mv (.t 200))⟩] []
def c0o : FC := .reg [⟨(some 201), none, .op (.mv (.t 0))⟩,  ⟨(some 202), none, .op (.fad 4 (.t 3))⟩,  ⟨(some 203), none, .op (.load none (.t 202))⟩,  ⟨(some 204), none, .call 73 [(.t 201), (.t 203)]⟩,  ⟨(some 205), none, .op (.bin .none .eql (.t 204) (.v (.int .u64 0)))⟩] []
def c0p : FC := .reg [⟨(some 206), none, .op (.fad 11 (.t 3))⟩,  ⟨(some 207), none, .op (.load none (.t 206))⟩,  ⟨(some 4), none, .op (.mv (.t 207))⟩] []
def c0q : FC := .cond (.t 205) c0p FC.skip
def c0r : FC := .seq c0o c0q
def c0s : FC := .reg [⟨(some 209), none, .op (.bin .none .eql (.t 53) (.v (.int .u8 10)))⟩,  ⟨(some 208), none, .op (.mv (.t 209))⟩] []
def c0t : FC := .reg [⟨(some 211), none, .op (.bin .none .eql (.t 53) (.v (.int .u8 11)))⟩,  ⟨(some 210), none, .op (.mv (.t 211))⟩] []
def c0u : FC := .reg [⟨(some 212), none, .op (.mv (.t 2))⟩,  ⟨(some 213), none, .op (.bsl none [(.int .u64 0)] 0 [])⟩,  ⟨(some 214), none, .op (.mv (.t 0))⟩,  ⟨(some 215), none, .op (.nchk (.t 214))⟩,  ⟨(some 216), none, .op (.fad 2 (.t 215))⟩,  ⟨(some 217), none, .op (.load none (.t 216))⟩,  ⟨(some 218), none, .op (.app none 8 (.t 213) (.t 217))⟩,  ⟨(some 219), none, .op (.nchk (.t 212))⟩,  ⟨(some 220), none, .op (.fad 8 (.t 219))⟩,  ⟨none, none, .op (.store 1 (.t 220) (.t 218))⟩] []
def c0v : FC := .reg [⟨(some 221), none, .op (.mv (.t 0))⟩,  ⟨(some 222), none, .op (.fad 6 (.t 3))⟩,  ⟨(some 223), none, .op (.load none (.t 222))⟩,  ⟨(some 224), none, .op (.mv (.t 0))⟩,  ⟨(some 225), none, .op (.load (some 12) (.t 3))⟩,  ⟨(some 226), none, .call 77 [(.t 224), (.t 225)]⟩,  ⟨(some 227), none, .call 47 [(.t 221), (.t 223), (.t 226), (.v (.int .i64 0))]⟩] [(2, 5)]
def c0w : FC := .seq c0v FC.ret
def c0x : FC := .seq c0u c0w
def c0y : FC := .reg [⟨(some 229), none, .op (.bin .none .eql (.t 53) (.v (.int .u8 12)))⟩,  ⟨(some 228), none, .op (.mv (.t 229))⟩] []
def c0z : FC := .reg [⟨(some 230), none, .op (.fad 4 (.t 3))⟩,  ⟨(some 231), none, .op (.load none (.t 230))⟩,  ⟨(some 232), none, .op (.bin .none .geq (.t 231) (.v (.int .i64 0)))⟩] []
def c0A : FC := .reg [⟨(some 233), none, .op (.mv (.t 2))⟩,  ⟨(some 234), none, .op (.mv (.t 0))⟩,  ⟨(some 235), none, .op (.fad 4 (.t 3))⟩,  ⟨(some 236), none, .op (.load none (.t 235))⟩,  ⟨(some 237), none, .call 73 [(.t 234), (.t 236)]⟩,  ⟨(some 238), none, .op (.nchk (.t 233))⟩,  ⟨(some 239), none, .op (.fad 7 (.t 238))⟩,  ⟨none, none, .op (.store 1 (.t 239) (.t 237))⟩] []
def c0B : FC := .cond (.t 232) c0A FC.skip
def c0C : FC := .seq c0z c0B
def c0D : FC := .reg [⟨(some 240), none, .op (.mv (.t 2))⟩,  ⟨(some 241), none, .op (.nchk (.t 240))⟩,  ⟨(some 242), none, .op (.fad 6 (.t 241))⟩,  ⟨none, none, .op (.store 1 (.t 242) (.v (.bool true)))⟩] []
def c0E : FC := .reg [⟨(some 243), none, .op (.mv (.t 0))⟩,  ⟨(some 244), none, .call 78 [(.t 243)]⟩] []
def c0F : FC := .seq c0E FC.ret
def c0G : FC := .seq c0D c0F
def c0H : FC := .seq c0C c0G
def c0I : FC := .reg [⟨(some 246), none, .op (.bin .none .eql (.t 53) (.v (.int .u8 13)))⟩,  ⟨(some 245), none, .op (.mv (.t 246))⟩] []
def c0J : FC := .reg [⟨(some 247), none, .op (.mv (.t 2))⟩,  ⟨(some 248), none, .op (.mv (.t 2))⟩,  ⟨(some 249), none, .op (.nchk (.t 248))⟩,  ⟨(some 250), none, .op (.fad 5 (.t 249))⟩,  ⟨(some 251), none, .op (.load none (.t 250))⟩,  ⟨(some 252), none, .op (.fad 6 (.t 3))⟩,  ⟨(some 253), none, .op (.load none (.t 252))⟩,  ⟨(some 254), none, .op (.mv (.t 0))⟩,  ⟨(some 255), none, .op (.load (some 12) (.t 3))⟩,  ⟨(some 256), none, .call 77 [(.t 254), (.t 255)]⟩,  ⟨(some 257), none, .op (.build [(.int .i64 0), .nils] [(0, 1, (.t 253)), (1, 1, (.t 256))])⟩,  ⟨(some 258), none, .op (.bsl (some 2) [(.int .i64 0), .nils] 1 [(0, 2, (.t 257))])⟩,  ⟨(some 259), none, .op (.app (some 2) 32 (.t 251) (.t 258))⟩,  ⟨(some 260), none, .op (.nchk (.t 247))⟩,  ⟨(some 261), none, .op (.fad 5 (.t 260))⟩,  ⟨none, none, .op (.store 1 (.t 261) (.t 259))⟩] [(4, 9), (6, 9), (4, 11)]
def c0K : FC := .reg [⟨(some 262), none, .op (.mv (.t 0))⟩,  ⟨(some 263), none, .call 79 [(.t 262)]⟩,  ⟨(some 9), none, .op (.mv (.t 263))⟩] []
def c0L : FC := .reg [⟨(some 264), none, .op (.mv (.t 9))⟩,  ⟨(some 265), none, .op (.mv (.t 0))⟩,  ⟨(some 266), none, .op (.nchk (.t 265))⟩,  ⟨(some 267), none, .op (.fad 11 (.t 266))⟩,  ⟨(some 268), none, .op (.load none (.t 267))⟩,  ⟨(some 269), none, .op (.bin .none .gtr (.t 264) (.t 268))⟩] []
def c0M : FC := .reg [⟨(some 270), none, .op (.mv (.t 0))⟩,  ⟨(some 271), none, .op (.mv (.t 9))⟩,  ⟨(some 272), none, .op (.nchk (.t 270))⟩,  ⟨(some 273), none, .op (.fad 11 (.t 272))⟩,  ⟨none, none, .op (.store 1 (.t 273) (.t 271))⟩] []
def c0N : FC := .cond (.t 269) c0M FC.skip
def c0O : FC := .seq c0L c0N
def c0P : FC := .seq c0K c0O
def c0Q : FC := .seq c0J c0P
def c0R : FC := .reg [⟨(some 275), none, .op (.bin .none .eql (.t 53) (.v (.int .u8 14)))⟩,  ⟨(some 274), none, .op (.mv (.t 275))⟩] []
def c0S : FC := .reg [⟨(some 276), none, .op (.mv (.t 0))⟩,  ⟨(some 277), none, .op (.mv (.t 0))⟩,  ⟨(some 278), none, .op (.fad 4 (.t 3))⟩,  ⟨(some 279), none, .op (.load none (.t 278))⟩,  ⟨(some 280), none, .call 73 [(.t 277), (.t 279)]⟩,  ⟨(some 281), none, .call 75 [(.t 276), (.t 280)]⟩] []
def c0T : FC := .seq c0S FC.ret
def c0U : FC := .reg [⟨(some 283), none, .op (.bin .none .eql (.t 53) (.v (.int .u8 15)))⟩,  ⟨(some 282), none, .op (.mv (.t 283))⟩] []
def c0V : FC := .reg [⟨(some 10), none, .op (.mv (.v (.int .u64 0)))⟩,  ⟨(some 11), none, .op (.mv (.v (.int .u64 0)))⟩] []
def c0W : FC := .reg [⟨(some 284), none, .op (.mv (.t 0))⟩,  ⟨(some 285), none, .op (.nchk (.t 284))⟩,  ⟨(some 286), none, .op (.fad 4 (.t 285))⟩,  ⟨(some 287), none, .op (.load none (.t 286))⟩,  ⟨(some 288), none, .op (.len .sl (.t 287))⟩,  ⟨(some 289), none, .op (.bin .none .sub (.t 288) (.v (.int .i64 1)))⟩,  ⟨(some 12), none, .op (.mv (.t 289))⟩] []
def c0X : FC := .reg [⟨(some 290), none, .op (.mv (.t 2))⟩,  ⟨(some 291), none, .op (.nchk (.t 290))⟩,  ⟨(some 292), none, .op (.fad 2 (.t 291))⟩,  ⟨(some 293), none, .op (.load none (.t 292))⟩,  ⟨(some 294), none, .op (.bin .none .eql (.t 293) (.v (.int .i64 2)))⟩,  ⟨(some 295), none, .op (.mv (.t 294))⟩,  ⟨(some 296), some (295, true), .op (.mv (.t 0))⟩,  ⟨(some 297), some (295, true), .op (.nchk (.t 296))⟩,  ⟨(some 298), some (295, true), .op (.fad 4 (.t 297))⟩,  ⟨(some 299), some (295, true), .op (.load none (.t 298))⟩,  ⟨(some 300), some (295, true), .op (.mv (.t 12))⟩,  ⟨(some 301), some (295, true), .op (.iad none (some 2) (.t 299) (.t 300))⟩,  ⟨(some 302), some (295, true), .op (.fad 1 (.t 301))⟩,  ⟨(some 303), some (295, true), .op (.load none (.t 302))⟩,  ⟨(some 304), some (295, true), .op (.un .not (.t 303))⟩,  ⟨(some 305), none, .op (.pick (.t 295) (.t 304) (.v (.bool false)))⟩] []
def c0Y : FC := .reg [⟨(some 306), none, .op (.mv (.t 0))⟩,  ⟨(some 307), none, .op (.nchk (.t 306))⟩,  ⟨(some 308), none, .op (.fad 4 (.t 307))⟩,  ⟨(some 309), none, .op (.load none (.t 308))⟩,  ⟨(some 310), none, .op (.mv (.t 12))⟩,  ⟨(some 311), none, .op (.iad none (some 2) (.t 309) (.t 310))⟩,  ⟨(some 312), none, .op (.fad 1 (.t 311))⟩,  ⟨none, none, .op (.store 1 (.t 312) (.v (.bool true)))⟩] []
def c0Z : FC := .reg [⟨(some 313), none, .op (.mv (.t 0))⟩,  ⟨(some 314), none, .op (.nchk (.t 313))⟩,  ⟨(some 315), none, .op (.fad 4 (.t 314))⟩,  ⟨(some 316), none, .op (.load none (.t 315))⟩,  ⟨(some 317), none, .op (.mv (.t 12))⟩,  ⟨(some 318), none, .op (.iad none (some 2) (.t 316) (.t 317))⟩,  ⟨(some 319), none, .op (.fad 0 (.t 318))⟩,  ⟨(some 320), none, .op (.load none (.t 319))⟩,  ⟨(some 10), none, .op (.mv (.t 320))⟩,  ⟨(some 11), none, .op (.mv (.v (.int .u64 1)))⟩] []
def c1a : FC := .seq c0Y c0Z
def c1b : FC := .cond (.t 305) c1a FC.skip
def c1c : FC := .seq c0X c1b
def c1d : FC := .reg [⟨(some 321), none, .op (.mv (.t 0))⟩,  ⟨(some 322), none, .op (.fad 2 (.t 3))⟩,  ⟨(some 323), none, .op (.load none (.t 322))⟩,  ⟨(some 324), none, .op (.mv (.t 10))⟩,  ⟨(some 325), none, .call 72 [(.t 321), (.t 323), (.t 324)]⟩] []
def c1e : FC := .reg [⟨(some 326), none, .op (.mv (.t 0))⟩,  ⟨(some 327), none, .op (.fad 3 (.t 3))⟩,  ⟨(some 328), none, .op (.load none (.t 327))⟩,  ⟨(some 329), none, .op (.mv (.t 11))⟩,  ⟨(some 330), none, .call 72 [(.t 326), (.t 328), (.t 329)]⟩] []
def c1f : FC := .seq c1d c1e
def c1g : FC := .seq c1c c1f
def c1h : FC := .seq c0W c1g
def c1i : FC := .seq c0V c1h
def c1j : FC := .reg [⟨(some 332), none, .op (.bin .none .eql (.t 53) (.v (.int .u8 16)))⟩,  ⟨(some 331), none, .op (.mv (.t 332))⟩] []
def c1k : FC := .reg [⟨(some 13), none, .op (.mv (.v (.int .u64 0)))⟩] []
def c1l : FC := .reg [⟨(some 333), none, .op (.mv (.t 0))⟩,  ⟨(some 334), none, .op (.nchk (.t 333))⟩,  ⟨(some 335), none, .op (.fad 5 (.t 334))⟩,  ⟨(some 336), none, .op (.load none (.t 335))⟩,  ⟨(some 337), none, .op (.len .sl (.t 336))⟩,  ⟨(some 338), none, .op (.bin .none .gtr (.t 337) (.v (.int .i64 0)))⟩] []
def c1m : FC := .reg [⟨(some 339), none, .op (.mv (.t 0))⟩,  ⟨(some 340), none, .op (.nchk (.t 339))⟩,  ⟨(some 341), none, .op (.fad 5 (.t 340))⟩,  ⟨(some 342), none, .op (.load none (.t 341))⟩,  ⟨(some 343), none, .op (.iad none none (.t 342) (.v (.int .i64 0)))⟩,  ⟨(some 344), none, .op (.load none (.t 343))⟩,  ⟨(some 13), none, .op (.mv (.t 344))⟩] []
def c1n : FC := .reg [⟨(some 345), none, .op (.mv (.t 0))⟩,  ⟨(some 346), none, .op (.mv (.t 0))⟩,  ⟨(some 347), none, .op (.nchk (.t 346))⟩,  ⟨(some 348), none, .op (.fad 5 (.t 347))⟩,  ⟨(some 349), none, .op (.load none (.t 348))⟩,  ⟨(some 350), none, .op (.slc none (.t 349) (some (.v (.int .i64 1))) none none)⟩,  ⟨(some 351), none, .op (.nchk (.t 345))⟩,  ⟨(some 352), none, .op (.fad 5 (.t 351))⟩,  ⟨none, none, .op (.store 1 (.t 352) (.t 350))⟩] []
def c1o : FC := .seq c1m c1n
def c1p : FC := .cond (.t 338) c1o FC.skip
def c1q : FC := .seq c1l c1p
def c1r : FC := .reg [⟨(some 353), none, .op (.mv (.t 0))⟩,  ⟨(some 354), none, .op (.mv (.t 0))⟩,  ⟨(some 355), none, .op (.nchk (.t 354))⟩,  ⟨(some 356), none, .op (.fad 6 (.t 355))⟩,  ⟨(some 357), none, .op (.load none (.t 356))⟩,  ⟨(some 358), none, .op (.mv (.t 13))⟩,  ⟨(some 359), none, .op (.build [(.int .i64 0), (.int .u64 0)] [(0, 1, (.v (.int .i64 2))), (1, 1, (.t 358))])⟩,  ⟨(some 360), none, .op (.bsl (some 2) [(.int .i64 0), (.int .u64 0)] 1 [(0, 2, (.t 359))])⟩,  ⟨(some 361), none, .op (.app (some 2) 16 (.t 357) (.t 360))⟩,  ⟨(some 362), none, .op (.nchk (.t 353))⟩,  ⟨(some 363), none, .op (.fad 6 (.t 362))⟩,  ⟨none, none, .op (.store 1 (.t 363) (.t 361))⟩] []
def b4p : FC := .reg [⟨(some 364), none, .op (.mv (.t 0))⟩,  ⟨(some 365), none, .op (.fad 2 (.t 3))⟩,  ⟨(some 366), none, .op (.load none (.t 365))⟩,  ⟨(some 367), none, .op (.mv (.t 13))⟩,  ⟨(some 368), none, .call 72 [(.t 364), (.t 366), (.t 367)]⟩] []
def b4q : FC := .seq c1r b4p
def b4r : FC := .seq c1q b4q
def b4s : FC := .seq c1k b4r
def b4t : FC := .reg [⟨(some 370), none, .op (.bin .none .eql (.t 53) (.v (.int .u8 17)))⟩,  ⟨(some 369), none, .op (.mv (.t 370))⟩] []
def b4u : FC := .reg [⟨(some 371), none, .op (.mv (.t 0))⟩,  ⟨(some 372), none, .op (.mv (.t 0))⟩,  ⟨(some 373), none, .op (.nchk (.t 372))⟩,  ⟨(some 374), none, .op (.fad 6 (.t 373))⟩,  ⟨(some 375), none, .op (.load none (.t 374))⟩,  ⟨(some 376), none, .op (.mv (.t 0))⟩,  ⟨(some 377), none, .op (.fad 4 (.t 3))⟩,  ⟨(some 378), none, .op (.load none (.t 377))⟩,  ⟨(some 379), none, .call 73 [(.t 376), (.t 378)]⟩,  ⟨(some 380), none, .op (.build [(.int .i64 0), (.int .u64 0)] [(0, 1, (.v (.int .i64 1))), (1, 1, (.t 379))])⟩,  ⟨(some 381), none, .op (.bsl (some 2) [(.int .i64 0), (.int .u64 0)] 1 [(0, 2, (.t 380))])⟩,  ⟨(some 382), none, .op (.app (some 2) 16 (.t 375) (.t 381))⟩,  ⟨(some 383), none, .op (.nchk (.t 371))⟩,  ⟨(some 384), none, .op (.fad 6 (.t 383))⟩,  ⟨none, none, .op (.store 1 (.t 384) (.t 382))⟩] [(4, 8), (4, 10)]
def b4v : FC := .reg [⟨(some 54), none, .op (.mv (.t 0))⟩,  ⟨(some 55), none, .op (.mv (.t 0))⟩,  ⟨(some 56), none, .op (.fad 4 (.t 3))⟩,  ⟨(some 57), none, .op (.load none (.t 56))⟩,  ⟨(some 58), none, .call 73 [(.t 55), (.t 57)]⟩,  ⟨(some 59), none, .op (.build [(.int .i64 0), (.int .u64 0)] [(0, 1, (.v (.int .i64 1))), (1, 1, (.t 58))])⟩,  ⟨(some 60), none, .op (.nchk (.t 54))⟩,  ⟨(some 61), none, .op (.fad 7 (.t 60))⟩,  ⟨none, none, .op (.store 2 (.t 61) (.t 59))⟩] []
def b4w : FC := .seq b4v FC.ret
def b4x : FC := .cond (.t 369) b4u b4w
def b4y : FC := .seq b4t b4x
def b4z : FC := .cond (.t 331) b4s b4y
def b4A : FC := .seq c1j b4z
def b4B : FC := .cond (.t 282) c1i b4A
def b4C : FC := .seq c0U b4B
def b4D : FC := .cond (.t 274) c0T b4C
def b4E : FC := .seq c0R b4D
def b4F : FC := .cond (.t 245) c0Q b4E
def b4G : FC := .seq c0I b4F
def b4H : FC := .cond (.t 228) c0H b4G
def b4I : FC := .seq c0y b4H
def b4J : FC := .cond (.t 210) c0x b4I
def b4K : FC := .seq c0t b4J
def b4L : FC := .cond (.t 208) FC.skip b4K
def b4M : FC := .seq c0s b4L
def b4N : FC := .cond (.t 199) c0r b4M
def b4O : FC := .seq c0n b4N
def b4P : FC := .cond (.t 151) c0m b4O
def b4Q : FC := .seq b9Z b4P
def b4R : FC := .cond (.t 132) b9V b4Q
def b4S : FC := .seq b9U b4R
def b4T : FC := .cond (.t 119) b9T b4S
def b4U : FC := .seq b9S b4T
def b4V : FC := .cond (.t 105) b9R b4U
def b4W : FC := .seq b9Q b4V
def b4X : FC := .cond (.t 80) b9P b4W
def b4Y : FC := .seq b9G b4X
def b4Z : FC := .cond (.t 70) c3E b4Y
def b5a : FC := .seq c3D b4Z
def b5b : FC := .cond (.t 62) c3C b5a
def b0W : FC := .seq c3B b5b
def b5c : FC := .block 0 b0W
def b5d : FC := .seq c3A b5c
def a7V : FC := .reg [⟨(some 385), none, .op (.mv (.t 0))⟩,  ⟨(some 386), none, .op (.nchk (.t 385))⟩,  ⟨(some 387), none, .op (.fad 3 (.t 386))⟩,  ⟨(some 388), none, .op (.load none (.t 387))⟩,  ⟨(some 389), none, .op (.mv (.t 0))⟩,  ⟨(some 390), none, .op (.nchk (.t 389))⟩,  ⟨(some 391), none, .op (.fad 3 (.t 390))⟩,  ⟨(some 392), none, .op (.load none (.t 391))⟩,  ⟨(some 393), none, .op (.len .sl (.t 392))⟩,  ⟨(some 394), none, .op (.bin .none .sub (.t 393) (.v (.int .i64 1)))⟩,  ⟨(some 395), none, .op (.mv (.t 4))⟩,  ⟨(some 396), none, .op (.iad none (some 9) (.t 388) (.t 394))⟩,  ⟨(some 397), none, .op (.fad 1 (.t 396))⟩,  ⟨none, none, .op (.store 1 (.t 397) (.t 395))⟩] []
def b5e : FC := .seq b5d a7V
def b5f : FC := .seq c3z b5e
def b5g : FC := .seq c3y b5f
def b5h : FC := .seq c3x b5g
def b5i : FC := .seq c3w b5h
def c6y : FC := b5i
theorem c3F : Fn3 Try.prog 48 398 [] c6y := ⟨_, _, Try.func48, rfl, rfl, rfl, by kernel_rfl⟩

section
variable {gs : List a9} {o : O8} {s : S8} {z : Q8} {r : List Q8} {rj pj : List AV}
theorem a5a {g : a9} {n : b8} {R : List It} {S : List Ob} {K : Post} (hg : j9 gs z.f = some g) (hi : j9 g.Nodes z.pc = some n) (hst : 0 <= s.steps /\ s.steps < 4611686018427387904) (hn : r.length < 100000000) (hS : Ab.Sep S (L8 gs o s (z :: r) rj pj ++ R))
  (h : ∀ oi S', Ab.Sep S' (L8 gs o { s with steps := s.steps + 1 } (z :: r) rj pj ++ ((oi, 0, n.cells) :: R)) -> VT Try.prog S [3] b0W [(53, .int .u8 n.Op), (4, .int .i64 n.Next), (0, .ptr o.r 0 0), (2, .ptr o.ro o.rv (0 + r.length * d9 (some 9))), (3, .ptr oi 0 0)] S' (Post.blk 0 (Post.thn (fun fr' S' => ∃ F T, Wk S fr' S' F T /\ VT Try.prog S [3] a7V F T K) K))) :
  VT Try.prog S [3] c6y (a1h 0 [.ptr o.r 0 0]) S K := by
 refine c7 ?_
 refine a8 ?_
 refine aS ?_
 refine b7 hS rfl (.head _) (v := .int .i64 s.steps) rfl ?_
 refine aS ?_
 refine E_stS hS rfl (xv := .int .i64 (s.steps + 1)) (by show AV.int .i64 (IntKind.i64.wrap (s.steps + 1)) = _; rw [p4 zO]) Rp.here rfl rfl zqV (fun S hS => ?_)
 have hS0 : Ab.Sep S (L8 gs o { s with steps := s.steps + 1 } (z :: r) rj pj ++ R) := hS
 clear hS
 refine aU ?_
 refine b7 hS0 rfl (.head _) (v := .ref o.ro o.rv 0 (r.length + 1) (some 9)) rfl ?_
 refine aU ?_
 refine b7 hS0 rfl (.head _) (v := .ref o.ro o.rv 0 (r.length + 1) (some 9)) rfl ?_
 refine aU ?_
 refine s6 rfl rfl r.length (a1M zO) zO ?_
 refine aU ?_
 refine s4 ?_
 refine aS ?_
 refine b7 hS0 rfl (.head _) (v := .sl false 8 (List.map a9.av gs)) rfl ?_
 refine aU ?_
 refine b7 hS0 rfl (.tail _ (.head _)) (v := .int .i64 z.f) (by rw [u1]; exact vT (z4 r) rfl) ?_
 refine aU ?_
 refine g8 (esh := some 8) (f := a9.av) (ys := gs) (y := g) rfl rfl hg ?_
 refine aU ?_
 refine b7 hS0 rfl (.tail _ (.head _)) (v := .int .i64 z.pc) (by rw [u1]; exact vT (z4 r) rfl) ?_
 refine aU ?_
 refine g8 (esh := some 12) (f := b8.av) (ys := g.Nodes) (y := n) rfl rfl hi ?_
 refine aU ?_
 refine z7 hS0 rfl (fun oi S hS => ?_)
 have hgr : o.r ≠ oi := fun e => (List.nodup_cons.1 hS.2).1 (by rw [<- e]; exact List.mem_map.2 ⟨_, .head _, rfl⟩)
 have hgo : o.ro ≠ oi := fun e => (List.nodup_cons.1 hS.2).1 (by rw [<- e]; exact List.mem_map.2 ⟨_, .tail _ (.head _), rfl⟩)
 refine E_stS hS rfl (xv := n.av) rfl Rp.here rfl rfl zqV (fun S hS => ?_)
 refine a7 ?_
 refine And.intro (by simp [u7, a1u, r5, y8, hgr, hgo, Ne.symm hgr, Ne.symm hgo]) ?_
 refine aU ?_
 refine b7 hS rfl (.head _) (v := .int .i64 n.Next) rfl ?_
 refine aU ?_
 refine b7 hS rfl (.head _) (v := .int .u8 n.Op) rfl ?_
 refine a7 ?_
 refine s9 (F := [(53, .int .u8 n.Op), (4, .int .i64 n.Next), (0, .ptr o.r 0 0), (2, .ptr o.ro o.rv (0 + r.length * d9 (some 9))), (3, .ptr oi 0 0)]) wF ?_
 exact c7 (p5 (h oi S (Sep.perm (L := (oi, 0, n.cells) :: (L8 gs o { s with steps := s.steps + 1 } (z :: r) rj pj ++ R)) hS List.perm_middle.symm)))
theorem c1s {nx : Int} {R : List It} {S0 S : List Ob} {K : Post} (hn : r.length < 100000000) (hS : Ab.Sep S (L8 gs o s (z :: r) rj pj ++ R)) (h : ∀ fr' S', Ab.Sep S' (L8 gs o s ({ z with pc := nx } :: r) rj pj ++ R) -> K .normal fr' S') :
  VT Try.prog S0 [3] a7V [(0, .ptr o.r 0 0), (4, .int .i64 nx)] S K := by
 refine a8 ?_
 refine aS ?_
 refine b7 hS rfl (.head _) (v := .ref o.ro o.rv 0 (r.length + 1) (some 9)) rfl ?_
 refine aS ?_
 refine b7 hS rfl (.head _) (v := .ref o.ro o.rv 0 (r.length + 1) (some 9)) rfl ?_
 refine aS ?_
 refine s6 rfl rfl r.length (a1M zO) zO ?_
 refine aS ?_
 refine E_stS hS rfl (xv := .int .i64 nx) rfl (a4Y (z' := { z with pc := nx }) zO rfl rfl rfl) rfl rfl (a2W zO) (fun S hS => ?_)
 exact a7 (h _ _ hS)
def At8 (gs : List a9) (r0 : Nat) (t : S8 × List F8) (L : List It) : Prop := ∃ (o : O8) (rows : List Q8) (rj pj : List AV), o.r = r0 /\ ab8 rows = t.2 /\ L = L8 gs o t.1 rows rj pj
theorem b5j {a : It} {A R : List It} {S : List Ob} (h : Ab.Sep S (A ++ (a :: R))) : Ab.Sep S (A ++ R) := h.sub (List.Sublist.append_left (List.sublist_cons_self _ _) _)
structure B8 (s : S8) (r : List Q8) : Prop where
 st : 0 <= s.steps /\ s.steps < 4611686018427387904
 n : r.length < 9999998
end
end Go.Proofs.Ytnpemocpfdgaoaa

/- ref8's Step, operation by operation (printed by mkF7.py). -/
namespace Go.Proofs.Ytnpemocpfdgaoaa
open Go Go.Ab
set_option maxRecDepth 20000
set_option maxHeartbeats 2000000
section
variable {gs : List a9} {o : O8} {s : S8} {z : Q8} {r : List Q8} {rj pj : List AV}
theorem c3G {g : a9} {n : b8} {z1 : F8} (B : B8 s r) (hg : j9 gs z.f = some g) (hi : j9 g.Nodes z.pc = some n) (hop : n.Op = 1) (hs : z.toF8.set n.D n.Imm = some z1) :
  Tri Try.prog 48 [.ptr o.r 0 0] (L8 gs o s (z :: r) rj pj) (fun _ L' => At8 gs o.r ({ s with steps := s.steps + 1 }, { z1 with pc := n.Next } :: ab8 r) L') := by
 have hn := B.n
 refine j7 mixed c3F zS [3] (fun R S hS => a5a hg hi B.st zO hS (fun oi S hS => ?_))
 rw [hop]
 (repeat refine j6 rfl rfl ?_)
 refine x7 rfl rfl ?_
 refine aU ?_
 refine b7 hS rfl (List.mem_append_right _ (.head _)) (v := .int .i64 n.D) rfl ?_
 refine aU ?_
 refine b7 hS rfl (List.mem_append_right _ (.head _)) (v := .int .u64 n.Imm) rfl ?_
 refine aU ?_
 refine a2S (a6q (z := z) (s := { s with steps := s.steps + 1 }) hs zO) hS rfl (.refl _) (fun x S L' hL hS => ?_)
 obtain ⟨l, hl, rfl⟩ := hL
 refine aU ?_
 refine aE ?_
 refine s9 (F := [(0, .ptr o.r 0 0), (4, .int .i64 n.Next)]) wF ?_
 refine c1s (o := o) (z := { z with lo := l }) zO hS (fun fr' S hS => ?_)
 exact ⟨trivial, _, rfl, _, ⟨o, _, _, _, rfl, (by rw [<- hl]; rfl), rfl⟩, b5j hS⟩
end
end Go.Proofs.Ytnpemocpfdgaoaa

/- ref8's point: the walk. -/
namespace Go.Proofs.Ytnpemocpfdgaoaa
open Go Go.Ab
set_option maxRecDepth 20000
set_option maxHeartbeats 2000000
section
variable {gs : List a9} {o : O8} {s : S8} {rows : List Q8} {rj pj : List AV} {p : Int}
end
end Go.Proofs.Ytnpemocpfdgaoaa

/- ref8's Step, operation by operation (printed by mkF8.py). -/
namespace Go.Proofs.Ytnpemocpfdgaoaa
open Go Go.Ab
set_option maxRecDepth 20000
set_option maxHeartbeats 2000000
section
variable {gs : List a9} {o : O8} {s : S8} {z : Q8} {r : List Q8} {rj pj : List AV}
end
end Go.Proofs.Ytnpemocpfdgaoaa

/- ref8's Step, operation by operation (printed by mkF10.py). -/
namespace Go.Proofs.Ytnpemocpfdgaoaa
open Go Go.Ab
set_option maxRecDepth 20000
set_option maxHeartbeats 2000000
theorem c1t {S : List Ob} {K v : Int} : a8Z (some 2) (.sl true 2 [.agg [.int .i64 K, .int .u64 v]]) S = some (1, flat a1A.av [(⟨K, v⟩ : a1A)], []) := u3 (f := a1A.av) (esh := some 2) [(⟨K, v⟩ : a1A)]
section
variable {gs : List a9} {o : O8} {s : S8} {z : Q8} {r : List Q8} {rj pj : List AV}
theorem b5k {g : a9} {n : b8} {u : RO8} (B : B8 s r) (hg : j9 gs z.f = some g) (hi : j9 g.Nodes z.pc = some n) (hop : n.Op = 12) (hok : ∀ g ∈ gs, okG g) (hd : 0 <= s.depth /\ s.depth < 1000000000) (hek : s.ek = 0) (hp : s.pans.length < 9999999) (hw : ∀ y ∈ z :: r, y.wa.length < 100000000) (hA : n.A < 0) (h2 : a4Z gs ({ z.toF8 with ends := true } :: ab8 r) s.pans = some u) :
  Tri Try.prog 48 [.ptr o.r 0 0] (L8 gs o s (z :: r) rj pj) (fun _ L' => At8 gs o.r (S8.ret { s with steps := s.steps + 1 } u, u.A) L') := by
 have hn := B.n
 refine j7 mixed c3F zS [3] (fun R S hS => a5a hg hi B.st zO hS (fun oi S hS => ?_))
 rw [hop]
 (repeat refine j6 rfl rfl ?_)
 refine a0q rfl zD zD rfl rfl (fun h => by cases h) (fun _ => ?_)
 (repeat refine j6 rfl rfl ?_)
 refine x7 rfl rfl ?_
 refine aU ?_
 refine b7 hS rfl (List.mem_append_right _ (.head _)) (v := .int .i64 n.A) rfl ?_
 refine aU ?_
 refine E_cs (t := false) (by show AV.bool (decide (n.A >= 0)) = _; simp; omega) (fun h => by cases h) (fun _ => ?_)
 refine aU ?_
 refine E_stS hS rfl (xv := .bool true) rfl (a4Y (z' := { z with ends := true }) zO rfl rfl rfl) rfl rfl (a2W zO) (fun S hS => ?_)
 refine aU ?_
 refine a2S (a9i (rows := { z with ends := true } :: r) (s := { s with steps := s.steps + 1 }) (u := u) h2 hok hek (by show r.length + 1 < _; omega) hp hd (fun y hy => by
  rcases List.mem_cons.1 hy with rfl | hy
  ·exact hw z (.head _)
  ·exact hw y (.tail _ hy))) hS rfl (.refl _) (fun x S L' hL hS => ?_)
 obtain ⟨rv, lv, rows', rj', pj', h7, rfl⟩ := hL
 refine aU ?_
 refine f7 ?_
 refine aE ?_
 exact ⟨trivial, _, rfl, _, ⟨{ o with rv := rv, lv := lv }, rows', rj', pj', rfl, h7, rfl⟩, b5j hS⟩
end
end Go.Proofs.Ytnpemocpfdgaoaa

/- ref8's Step, operation by operation (printed by mkF11.py). -/
namespace Go.Proofs.Ytnpemocpfdgaoaa
open Go Go.Ab
set_option maxRecDepth 20000
set_option maxHeartbeats 2000000
section
variable {gs : List a9} {o : O8} {s : S8} {z : Q8} {r : List Q8} {rj pj : List AV}
theorem c1u {g : a9} {n : b8} {v : Int} (B : B8 s r) (hg : j9 gs z.f = some g) (hi : j9 g.Nodes z.pc = some n) (hop : n.Op = 17) (hv : z.toF8.get n.A = some v) (he : s.evs.length < 1000000000) :
  Tri Try.prog 48 [.ptr o.r 0 0] (L8 gs o s (z :: r) rj pj) (fun _ L' => At8 gs o.r ({ s with steps := s.steps + 1, evs := s.evs ++ [(⟨1, v⟩ : a1A)] }, { z.toF8 with pc := n.Next } :: ab8 r) L') := by
 have hn := B.n
 refine j7 mixed c3F zS [3] (fun R S hS => a5a hg hi B.st zO hS (fun oi S hS => ?_))
 rw [hop]
 (repeat refine j6 rfl rfl ?_)
 refine a0q rfl zD zD rfl rfl (fun h => by cases h) (fun _ => ?_)
 (repeat refine j6 rfl rfl ?_)
 refine x7 rfl rfl ?_
 refine s4 ?_
 refine aU ?_
 refine b7 hS rfl (.head _) (v := .ref o.te o.tv 0 s.evs.length (some 2)) rfl ?_
 refine aU ?_
 refine b7 hS rfl (List.mem_append_right _ (.head _)) (v := .int .i64 n.A) rfl ?_
 refine aU ?_
 refine a7f (b2v (z := z) (s := { s with steps := s.steps + 1 }) hv zO) hS rfl (.refl _) ?_
 refine aU ?_
 refine a3m (o := o.te) (ver := o.tv) (f := a1A.av) (l := s.evs) (m := [(⟨1, v⟩ : a1A)]) (j := []) hS a1A.enc rfl c1t (Rp.there (Rp.there (Rp.there (by rw [List.append_nil]; exact Rp.here)))) ⟨by simp; omega, by simp; omega⟩ (fun S hS => ?_)
 refine aU ?_
 refine E_stS hS rfl (xv := .ref o.te (o.tv + 1) 0 (s.evs ++ [(⟨1, v⟩ : a1A)]).length (some 2)) rfl Rp.here rfl rfl zqV (fun S hS => ?_)
 have hS3 : Ab.Sep S (L8 gs { o with tv := o.tv + 1 } { s with steps := s.steps + 1, tape := s.tape, evs := s.evs ++ [(⟨1, v⟩ : a1A)] } (z :: r) rj pj ++ ((oi, 0, n.cells) :: R)) := hS
 clear hS
 have hS := hS3
 refine a7 ?_
 refine And.intro (by simp [u7, a1u, r5, y8]) ?_
 refine aE ?_
 refine s9 (F := [(0, .ptr o.r 0 0), (4, .int .i64 n.Next)]) wF ?_
 refine c1s (s := { s with steps := s.steps + 1, tape := s.tape, evs := s.evs ++ [(⟨1, v⟩ : a1A)] }) (o := { o with tv := o.tv + 1 }) (z := z) zO hS (fun fr' S hS => ?_)
 exact ⟨trivial, _, rfl, _, ⟨{ o with tv := o.tv + 1 }, _, _, _, rfl, rfl, rfl⟩, b5j hS⟩
end
end Go.Proofs.Ytnpemocpfdgaoaa

/- One step of ref8's run, told plainly. -/
namespace Go.Proofs.Ytnpemocpfdgaoaa
open Go Go.Ab
def nx8 (s : S8) (n : b8) (f : F8) (r : List F8) : S8 × List F8 := (s, { f with pc := n.Next } :: r)
def c6z (gs : List a9) (s : S8) (f : F8) (r : List F8) (n : b8) : Option (S8 × List F8) :=
 if n.Op = 1 then (f.set n.D n.Imm).map fun x => nx8 s n x r
 else if n.Op = 12 then (if 0 <= n.A then none else (a4Z gs ({ f with ends := true } :: r) s.pans).map fun u => (s.ret u, u.A))
 else if n.Op = 17 then (f.get n.A).map fun v => nx8 { s with evs := s.evs ++ [⟨1, v⟩] } n f r
 else none
def st8 (gs : List a9) (s : S8) : List F8 -> Option (S8 × List F8)
 | [] => none
 | z :: r => (j9 gs z.f).bind fun g => (j9 g.Nodes z.pc).bind fun n => c6z gs { s with steps := s.steps + 1 } z r n
structure Bd8 (gs : List a9) (s : S8) (rows : List F8) : Prop where
 ok : ∀ g ∈ gs, okG g
 ek : s.ek = 0
 st : 0 <= s.steps /\ s.steps < 4611686018427387904
 rn : rows.length < 9999998
 pn : s.pans.length < 9999998
 dep : 0 <= s.depth /\ s.depth < 1000000000
 row : ∀ z ∈ rows, z.wa.length < 100000000
 wa : waS rows < 900000000
 ev : s.evs.length < 1000000000
section
variable {gs : List a9} {o : O8} {s : S8} {rows : List Q8} {rj pj : List AV}
theorem a9j {t : S8 × List F8} (hv : st8 gs s (ab8 rows) = some t) (B : Bd8 gs s (ab8 rows)) : Tri Try.prog 48 [.ptr o.r 0 0] (L8 gs o s rows rj pj) (fun _ L' => At8 gs o.r t L') := by
 cases rows with
 | nil => cases hv
 | cons z r =>
 have hlen : (ab8 (z :: r)).length = r.length + 1 := by simp [ab8]
 have hlr : (ab8 r).length = r.length := by simp [ab8]
 have hw1 : ∀ y ∈ z :: r, y.wa.length < 100000000 := fun y hy => B.row y.toF8 (List.mem_map.2 ⟨y, hy, rfl⟩)
 have hrn := B.rn
 rw [hlen] at hrn
 have B0 : B8 s r := ⟨B.st, by omega⟩
 have hpn : s.pans.length < 9999999 := by have := B.pn; omega
 obtain ⟨g, hg, hv⟩ := Option.bind_eq_some_iff.1 hv
 obtain ⟨n, hi, hv⟩ := Option.bind_eq_some_iff.1 hv
 have hgm : g ∈ gs := List.mem_of_getElem? (g9 hg).2.2
 have hnm : n ∈ g.Nodes := List.mem_of_getElem? (g9 hi).2.2
 have hal : n.Args.length < 100000000 := (B.ok g hgm).2.2.2 n hnm
 unfold c6z nx8 at hv
 by_cases h : n.Op = 1
 ·rw [if_pos h] at hv
  obtain ⟨z1, h2, rfl⟩ := Option.map_eq_some_iff.1 hv
  exact c3G B0 hg hi h h2
 rw [if_neg h] at hv
 clear h
 by_cases h : n.Op = 12
 ·rw [if_pos h] at hv
  by_cases hA : 0 <= n.A
  ·rw [if_pos hA] at hv; cases hv
  ·rw [if_neg hA] at hv
   obtain ⟨u, q2, rfl⟩ := Option.map_eq_some_iff.1 hv
   exact b5k B0 hg hi h B.ok B.dep B.ek hpn hw1 zO q2
 rw [if_neg h] at hv
 clear h
 by_cases h : n.Op = 17
 ·rw [if_pos h] at hv
  obtain ⟨v, q1, rfl⟩ := Option.map_eq_some_iff.1 hv
  exact c1u B0 hg hi h q1 B.ev
 rw [if_neg h] at hv
 cases hv
end
end Go.Proofs.Ytnpemocpfdgaoaa

/- ref8's All: the walk. -/
namespace Go.Proofs.Ytnpemocpfdgaoaa
open Go Go.Ab
set_option maxRecDepth 20000
set_option maxHeartbeats 2000000
noncomputable def c7N : FC := fcO 27
theorem c7O : Fn3 Try.prog 27 40 [(8, none)] c7N := ⟨_, _, Try.func27, rfl, rfl, rfl, by kernel_rfl⟩

def a9w (gs : List a9) : Nat -> S8 × List F8 -> Option (S8 × List F8)
 | 0, t => if t.1.ek ≠ 0 then some t else some ({ t.1 with ek := 3 }, t.2)
 | n + 1, t => if t.1.ek ≠ 0 then some t else (st8 gs t.1 t.2).bind (a9w gs n)
def b0X (gs : List a9) : Nat -> S8 × List F8 -> Prop
 | 0, _ => True
 | n + 1, t => t.1.ek = 0 -> Bd8 gs t.1 t.2 /\ ∀ t', st8 gs t.1 t.2 = some t' -> t'.1.steps = t.1.steps + 1 /\ b0X gs n t'
theorem b2C {gs : List a9} {n : Nat} {t t' : S8 × List F8} (h : a9w gs n t = some t') (h0 : t.1.ek ≠ 0) : t' = t := by
 cases n <;> (unfold a9w at h; rw [if_pos h0] at h; cases h; rfl)
theorem b0Y {gs : List a9} {t t' : S8 × List F8} (h : a9w gs 0 t = some t') (h0 : t.1.ek = 0) : t' = ({ t.1 with ek := 3 }, t.2) := by
 unfold a9w at h; rw [if_neg (by simpa using h0)] at h; cases h; rfl
theorem b5l {gs : List a9} {n : Nat} {t t' : S8 × List F8} (h : a9w gs (n + 1) t = some t') (h0 : t.1.ek = 0) : ∃ t1, st8 gs t.1 t.2 = some t1 /\ a9w gs n t1 = some t' := by
 unfold a9w at h; rw [if_neg (by simpa using h0)] at h; exact Option.bind_eq_some_iff.1 h
def s08 (tape : List Int) : S8 := ⟨tape, [], 0, 0, 0, 0, 0, 0, []⟩
section
variable {gs : List a9} {tape : List Int}
structure c3H where
 o : O8
 s : S8
 n : Nat
 rows : List Q8
 rj : List AV
 pj : List AV
theorem b2D {fuel : Nat} {f : F8} {t : S8 × List F8} (hf : b0R gs 0 [] 0 = some f) (hok : ∀ g ∈ gs, okG g) (ht : tape.length < 1000000000) (hfu : fuel <= 1048576)
  (hr : a9w gs fuel ({ s08 tape with depth := 1 }, [f]) = some t) (hsf : b0X gs fuel ({ s08 tape with depth := 1 }, [f])) :
  Tri Try.prog 27 [c9.av ⟨gs⟩, .bool false, .sl false 1 (tape.map (avI .u64)), .int .i64 fuel] [] (fun x L' => ∃ (o : O8) (rows : List Q8) (rj pj : List AV), ab8 rows = t.2 /\ x = .ptr o.r 0 0 /\ L' = L8 gs o t.1 rows rj pj) := by
 refine j7 mixed c7O zS [4, 12, 17] (fun R S hS => ?_)
 refine aU ?_
 refine a3J hS rfl (xv := c9.av ⟨gs⟩) rfl rfl (fun pb S hS => ?_)
 refine aS ?_
 refine a7 ?_
 refine b2t 4 hS Pk.here (by exact c9.enc.blw ⟨gs⟩ 0) rfl (fun S hS => ?_)
 refine c7 ?_
 refine s4 ?_
 refine aU ?_
 refine b2o (f := avI .u64) (x := (0 : Int)) (n := 16) (n' := 16) hS (d8 .u64) rfl rfl rfl rfl zO (fun rg S hS => ?_)
 refine aU ?_
 refine b6s (l := []) (m := tape) (d8 .u64) rfl (.inr rfl) (u3 _) ⟨by simp; omega, by simp; omega⟩ ?_
 refine aU ?_
 refine a3J hS rfl (xv := .agg [.sl false 8 (List.map a9.av gs), .bool false, .ref rg 0 0 16 none, .nils, .nils, .sl false 1 (tape.map (avI .u64)), .nils, .int .i64 0, .int .u64 0, .int .i64 0, .int .i64 0, .int .i64 0, .int .i64 0]) rfl rfl (fun ro S hS => ?_)
 refine aS ?_
 refine a7 ?_
 refine And.intro (by simp [u7, a1u, r5, y8]) ?_
 refine a3n 3 (some 9) (Lf := fun o' => (ro, 0, [.sl false 8 (List.map a9.av gs), .bool false, .ref rg 0 0 16 none, AV.ref o' 0 0 0 (some 9), .nils, .sl false 1 (tape.map (avI .u64)), .nils, .int .i64 0, .int .u64 0, .int .i64 0, .int .i64 0, .int .i64 0, .int .i64 0]) :: (rg, 0, flat (avI .u64) (List.replicate (16 : Int).toNat 0)) :: ([] ++ R)) hS (fun o' => Rp.here) rfl (fun q1 S hS => ?_)
 refine a3n 4 (some 2) (Lf := fun o' => (q1, 0, []) :: (ro, 0, [.sl false 8 (List.map a9.av gs), .bool false, .ref rg 0 0 16 none, AV.ref q1 0 0 0 (some 9), AV.ref o' 0 0 0 (some 2), .sl false 1 (tape.map (avI .u64)), .nils, .int .i64 0, .int .u64 0, .int .i64 0, .int .i64 0, .int .i64 0, .int .i64 0]) :: (rg, 0, flat (avI .u64) (List.replicate (16 : Int).toNat 0)) :: ([] ++ R)) hS (fun o' => Rp.there Rp.here) rfl (fun q2 S hS => ?_)
 refine a9d 6 (some 2) (Lf := fun o' => (q2, 0, []) :: (q1, 0, []) :: (ro, 0, [.sl false 8 (List.map a9.av gs), .bool false, .ref rg 0 0 16 none, AV.ref q1 0 0 0 (some 9), AV.ref q2 0 0 0 (some 2), .sl false 1 (tape.map (avI .u64)), AV.ref o' 0 0 0 (some 2), .int .i64 0, .int .u64 0, .int .i64 0, .int .i64 0, .int .i64 0, .int .i64 0]) :: (rg, 0, flat (avI .u64) (List.replicate (16 : Int).toNat 0)) :: ([] ++ R)) hS (fun o' => Rp.there (Rp.there Rp.here)) rfl (fun q3 S hS => ?_)
 have hS2 : Ab.Sep S (L8 gs ⟨ro, rg, q1, 0, q2, 0, q3, 0⟩ (s08 tape) [] [] [] ++ R) := hS.perm (Spl.cons (Pk.there (Pk.there (Pk.there Pk.here))) (Spl.cons (Pk.there (Pk.there Pk.here)) (Spl.cons (Pk.there Pk.here) (Spl.cons Pk.here (.refl _)))))
 clear hS
 refine aU ?_
 refine a2S (a7j (av := .nils) (ag := []) (r := []) (o := ⟨ro, rg, q1, 0, q2, 0, q3, 0⟩) (s := s08 tape) (.inr ⟨rfl, rfl⟩) hf hok (by show (0 : Nat) < _; omega) ⟨Int.le_refl _, by show (0 : Int) < _; omega⟩) hS2 rfl (.refl _) (fun x S L' hL hS => ?_)
 obtain ⟨z, rfl, rfl⟩ := hL
 refine aU ?_
 refine p5 (a2t (σ := c3H) (fun q => [(8, .nilp), (9, .ptr q.o.r 0 0), (3, .int .i64 fuel)]) (fun q => L8 gs q.o q.s q.rows q.rj q.pj ++ R)
  (fun q => a9w gs q.n (q.s, ab8 q.rows) = some t /\ b0X gs q.n (q.s, ab8 q.rows) /\ q.s.steps + q.n = fuel /\ 0 <= q.s.steps) (fun q => q.n) ⟨_, _, fuel, [z], [], []⟩ hS ⟨hr, hsf, by show (0 : Int) + ((fuel : Nat) : Int) = _; omega, Int.le_refl _⟩ wF (fun q S hI hS => ?_))
 obtain ⟨o2, s2, n, rows2, rj2, pj2⟩ := q
 obtain ⟨i3, i4, i5, i6⟩ := hI
 dsimp only at i3 i4 i5 i6 hS
 refine aU ?_
 refine b7 hS rfl (.head _) (v := .int .i64 s2.ek) rfl ?_
 refine aU ?_
 refine E_cs (t := s2.ek == 0) rfl (fun hk => ?_) (fun hk => ?_)
 rotate_left
 ·have hk' : s2.ek ≠ 0 := by simpa using hk
  refine a3f ?_
  refine aE ?_
  refine d7 ?_
  refine aU ?_
  refine f7 ?_
  refine aE ?_
  have := b2C i3 hk'
  subst this
  exact ⟨trivial, _, rfl, _, ⟨o2, rows2, rj2, pj2, rfl, rfl, rfl⟩, hS⟩
 have hk' : s2.ek = 0 := by simpa using hk
 refine aU ?_
 refine p5 ?_
 refine aU ?_
 refine b7 hS rfl (.head _) (v := .int .i64 s2.steps) rfl ?_
 refine aU ?_
 cases n with
 | zero =>
   refine E_cs (t := true) (by show AV.bool (decide (s2.steps >= (fuel : Int))) = _; rw [decide_eq_true (by simp at i5; omega)]) (fun _ => ?_) (fun h => by cases h)
   refine aU ?_
   refine E_stS hS rfl (xv := .int .i64 3) rfl Rp.here rfl rfl zqV (fun S hS => ?_)
   refine aU ?_
   refine f7 ?_
   refine aE ?_
   have := b0Y i3 hk'
   subst this
   exact ⟨trivial, _, rfl, _, ⟨o2, rows2, rj2, pj2, rfl, rfl, rfl⟩, hS⟩
 | succ n =>
   refine E_cs (t := false) (by show AV.bool (decide (s2.steps >= (fuel : Int))) = _; rw [decide_eq_false zO]) (fun h => by cases h) (fun _ => ?_)
   refine aU ?_
   obtain ⟨t1, h3, h4⟩ := b5l i3 hk'
   obtain ⟨b1, b2⟩ := i4 hk'
   obtain ⟨b3, b4⟩ := b2 _ h3
   refine a2S (a9j h3 b1) hS rfl (.refl _) (fun r0 S L' hL hS => ?_)
   obtain ⟨o4, rows4, rj4, pj4, k1, k2, rfl⟩ := hL
   refine aU ?_
   refine aE ?_
   have e4 : (t1.1, ab8 rows4) = t1 := by rw [k2]
   exact s7 ⟨⟨o4, t1.1, n, rows4, rj4, pj4⟩, ⟨by rw [e4]; exact h4, by rw [e4]; exact b4, by show t1.1.steps + (n : Int) = _; dsimp only at b3; omega, by show 0 <= t1.1.steps; dsimp only at b3; omega⟩, by show n < n + 1; omega, hS, a5n ⟨.refl _, by show a4m none (.ptr o2.r 0 0) (.ptr o4.r 0 0); rw [k1]; exact .refl _, .refl _, trivial⟩⟩
end
end Go.Proofs.Ytnpemocpfdgaoaa

/- Stub: what live's texts say, for building ref8's plain texts alone. -/
namespace Go.Proofs.Ytnpemocpfdgaoaa
open Go Go.Ab Go.RowKit
set_option maxRecDepth 20000
theorem a7n {α : Type} {l : List α} {i : Nat} : j9 l (i : Int) = l[i]? := a0f l i
def b0Z (n : b8) : List Int :=
 if n.Op < 1 \/ n.Op > 18 \/ n.Op = 12 \/ n.Op = 14 \/ n.Op = 18 then [] else if n.Op = 9 /\ n.Else ≠ n.Next then [n.Next, n.Else] else [n.Next]
def c7P (n : b8) : List Int :=
 if n.Op = 2 \/ n.Op = 5 \/ n.Op = 7 \/ n.Op = 9 \/ n.Op = 12 \/ n.Op = 14 \/ n.Op = 17 \/ n.Op = 18 then [n.A] else if n.Op = 3 \/ n.Op = 8 then [n.A, n.B] else if n.Op = 11 \/ n.Op = 13 then n.Args else []
def c7Q (n : b8) : List Int :=
 if n.Op = 1 \/ n.Op = 2 \/ n.Op = 3 \/ n.Op = 4 \/ n.Op = 6 \/ n.Op = 7 \/ n.Op = 11 \/ n.Op = 16 then [n.D] else if n.Op = 15 then [n.D, n.E] else []
def b1F (g : a9) (k p : Int) : Bool := decide (0 <= p /\ p < g.Kinds.length) && (j9 g.Kinds p == some k)
def isB (g : a9) (k : Int) (ps : List Int) : Bool := ps.all (b1F g k)
def a6s (g : a9) (n : Int) : Bool := decide (0 <= n /\ n < g.Cells)
def a9k {α : Type} (ok : Nat -> α -> Bool) : Nat -> List α -> Bool
 | _, [] => true
 | i, x :: r => ok i x && a9k ok (i + 1) r
theorem a5b {α : Type} {ok : Nat -> α -> Bool} : ∀ {xs : List α} {k : Nat}, a9k ok k xs = true ↔ ∀ i x, xs[i]? = some x -> ok (k + i) x = true
 | [], k => by simp [a9k]
 | x :: r, k => by
   simp only [a9k, Bool.and_eq_true, a5b (xs := r)]
   constructor
   ·rintro ⟨a, b⟩ i y hy
    cases i with
    | zero => simp at hy; subst hy; exact a
    | succ i =>
      have := b i y (by simpa using hy)
      rwa [show k + 1 + i = k + (i + 1) by omega] at this
   ·intro h
    refine ⟨by simpa using h 0 x rfl, fun i y hy => ?_⟩
    have := h (i + 1) y (by simpa using hy)
    rwa [show k + (i + 1) = k + 1 + i by omega] at this
def c6A (g f : a9) (i : Nat) (p : Int) : Bool := match f.Params[i]? with
 | none => false
 | some q => match j9 f.Kinds q with
   | some k => b1F g k p
   | none => false
def c2g (all : List a9) (g : a9) (n : b8) : Bool := match j9 all n.F with
 | none => false
 | some f => decide (n.Args.length = f.Params.length) && a9k (c6A g f) 0 n.Args
def c6B (g : a9) (i : Nat) (p : Int) : Bool := decide (0 <= p /\ p < g.Kinds.length) && (!decide (p ∈ g.Params.take i) && (match g.Init[i]? with | none => false | some k => decide (k = -1) || (a6s g k && b1F g 0 p)))
def c6C (g : a9) : Bool := decide (1 <= g.Nodes.length /\ g.Nodes.length <= 4096 /\ 0 <= g.Entry /\ g.Entry < g.Nodes.length)
def b5m (g : a9) : Bool := decide (g.Kinds.length <= 1024) && (!(g.Kinds.any fun k => decide (k > 1)) && (decide (g.Params.length <= 4) && (decide (g.Init.length = g.Params.length) && (decide (0 <= g.Cells /\ g.Cells <= 64) && ((decide (g.Keep = -1) || a6s g g.Keep) && (a9k (c6B g) 0 g.Params && c6C g))))))
def opB (all : List a9) (g : a9) (n : b8) : Bool :=
 if n.Op = 1 \/ n.Op = 16 then isB g 0 [n.D] else if n.Op = 2 then isB g 0 [n.D, n.A] || isB g 1 [n.D, n.A] else if n.Op = 3 then decide (7 <= n.By /\ n.By <= 20) && isB g 0 [n.D, n.A, n.B]
 else if n.Op = 4 then a6s g n.Cell && isB g 0 [n.D] else if n.Op = 5 then a6s g n.Cell && isB g 0 [n.A] else if n.Op = 6 then a6s g n.Cell && isB g 1 [n.D] else if n.Op = 7 then isB g 0 [n.D] && isB g 1 [n.A]
 else if n.Op = 8 then isB g 1 [n.A] && isB g 0 [n.B] else if n.Op = 10 then true else if n.Op = 9 \/ n.Op = 14 \/ n.Op = 18 \/ n.Op = 17 then isB g 0 [n.A] else if n.Op = 15 then decide (n.D ≠ n.E) && isB g 0 [n.D, n.E]
 else if n.Op = 13 then c2g all g n else if n.Op = 11 then c2g all g n && (decide (n.D = -1) || (isB g 0 [n.D] && (match j9 all n.F with | some f => f.Result | none => false)))
 else if n.Op = 12 then (decide (n.A = -1) && !g.Result) || (decide (n.A ≠ -1) && (g.Result && isB g 0 [n.A])) else false
def b2E (all : List a9) (g : a9) (n : b8) : Bool := ((b0Z n).all fun to => decide (0 <= to /\ to < g.Nodes.length)) && opB all g n
def nxt (g : a9) (i : Nat) : List Int := match g.Nodes[i]? with | some n => b0Z n | none => []
def rdR (g : a9) (i : Nat) : List Int := match g.Nodes[i]? with | some n => c7P n | none => []
def wrR (g : a9) (i : Nat) : List Int := match g.Nodes[i]? with | some n => c7Q n | none => []
inductive Lv (g : a9) : Nat -> Nat -> Prop
 | read {i p : Nat} (hi : i < g.Nodes.length) (hp : p < g.Kinds.length) (h : (p : Int) ∈ rdR g i) : Lv g i p
 | step {i p to : Nat} (hi : i < g.Nodes.length) (ht : (to : Int) ∈ nxt g i) (h : Lv g to p) (hw : (p : Int) ∉ wrR g i) : Lv g i p
theorem Lv.lt {g : a9} {i p : Nat} (h : Lv g i p) : i < g.Nodes.length /\ p < g.Kinds.length := by
 induction h with
 | read a b _ => exact ⟨a, b⟩
 | step a _ _ _ ih => exact ⟨a, ih.2⟩
def c1v (G : c9) : Bool := match G.Funcs[0]? with
 | some f => decide (f.Params.length = 0) && !f.Result
 | none => false
def b1a (G : c9) : Bool := decide (1 <= G.Funcs.length /\ G.Funcs.length <= 16) && (c1v G && (G.Funcs.all b5m && G.Funcs.all fun f => f.Nodes.all (b2E G.Funcs f)))
theorem rangeL_inv {α σ ρ : Type} {body : Nat -> α -> σ -> Option (Stp σ ρ)} (ok : α -> Bool) (v : ρ) (Inv : Nat -> σ -> Prop) : ∀ (xs : List α) (k : Nat) (s : σ), Inv k s ->
  (∀ i x s, xs[i]? = some x -> Inv (k + i) s -> if ok x = true then ∃ s', body (k + i) x s = some (.nxt s') /\ Inv (k + i + 1) s' else body (k + i) x s = some (.ret v)) ->
  if xs.all ok = true then ∃ s', a0m body xs k s = some (.fin s') /\ Inv (k + xs.length) s' else a0m body xs k s = some (.ret v)
 | [], k, s, hi, h => by simp only [List.all_nil, if_true, a0m]; exact ⟨s, rfl, by simpa using hi⟩
 | x :: r, k, s, hi, h => by
   have h0 := h 0 x s rfl hi
   cases hx : ok x with
   | false =>
     rw [hx] at h0
     simp only [Nat.add_zero, Bool.false_eq_true, if_false] at h0
     simp only [List.all_cons, hx, Bool.false_and, Bool.false_eq_true, if_false, a0m, h0]
   | true =>
     rw [hx] at h0
     simp only [Nat.add_zero, if_true] at h0
     obtain ⟨s', e1, e2⟩ := h0
     have := rangeL_inv ok v Inv r (k + 1) s' e2 (fun i y s hy hs => by
      have := h (i + 1) y s (by simpa using hy) (by rwa [show k + (i + 1) = k + 1 + i by omega])
      rwa [show k + (i + 1) = k + 1 + i by omega] at this)
     simp only [List.all_cons, hx, Bool.true_and, a0m, e1, List.length_cons]
     rw [show k + (r.length + 1) = k + 1 + r.length by omega]
     exact this
theorem rng_inv {α σ ρ : Type} {body : Nat -> α -> σ -> Option (Stp σ ρ)} {xs : List α} {s0 : σ} (ok : α -> Bool) (v : ρ) (Inv : Nat -> σ -> Prop) (hl : xs.length <= 4611686018427387904) (h0 : Inv 0 s0)
  (h : ∀ i x s, xs[i]? = some x -> Inv i s -> if ok x = true then ∃ s', body i x s = some (.nxt s') /\ Inv (i + 1) s' else body i x s = some (.ret v)) :
  if xs.all ok = true then ∃ s', rng body xs s0 = some (.fin s') /\ Inv xs.length s' else rng body xs s0 = some (.ret v) := by
 unfold rng
 rw [if_pos hl]
 have := rangeL_inv ok v Inv xs 0 s0 h0 (fun i x s hx hs => by simpa using h i x s hx (by simpa using hs))
 simpa using this
theorem rangeN_inv {σ ρ : Type} {body : Nat -> σ -> Option (Stp σ ρ)} (Inv : Nat -> σ -> Prop) : ∀ (n k : Nat) (s : σ), Inv k s ->
  (∀ i s, k <= i -> i < k + n -> Inv i s -> ∃ s', body i s = some (.nxt s') /\ Inv (i + 1) s') -> ∃ s', a0n body n k s = some (.fin s') /\ Inv (k + n) s'
 | 0, k, s, hi, h => ⟨s, rfl, hi⟩
 | n + 1, k, s, hi, h => by
   obtain ⟨s', e1, e2⟩ := h k s zO zO hi
   obtain ⟨s2, e3, e4⟩ := rangeN_inv Inv n (k + 1) s' e2 (fun i s a b c => h i s zO zO c)
   exact ⟨s2, by simp only [a0n, e1, e3], by rwa [show k + (n + 1) = k + 1 + n by omega]⟩
theorem rni_inv {σ ρ : Type} {body : Nat -> σ -> Option (Stp σ ρ)} {n : Int} {s0 : σ} (Inv : Nat -> σ -> Prop) (hn : n <= 4611686018427387904) (h0 : Inv 0 s0)
  (h : ∀ (i : Nat) s, (i : Int) < n -> Inv i s -> ∃ s', body i s = some (.nxt s') /\ Inv (i + 1) s') : ∃ s', rni body n s0 = some (.fin s') /\ Inv n.toNat s' := by
 unfold rni
 rw [if_pos hn]
 obtain ⟨s', a, b⟩ := rangeN_inv (body := body) Inv n.toNat 0 s0 h0 (fun i s _ hi hs => h i s zO hs)
 exact ⟨s', a, by simpa using b⟩
theorem appL_of {α : Type} {b : Nat} {l m : List α} (h : (l.length + m.length) * b <= 140737488355328 /\ l.length + m.length <= 140737488355328) : a2R b l m = some (l ++ m) := if_pos h
theorem appL1 {l m : List Int} (h : l.length + m.length <= 140737488355328) : a2R 1 l m = some (l ++ m) := appL_of zO

def a1j (op : Int) : Int := if op = 1 then 8 else if op = 2 \/ op = 3 \/ op = 4 \/ op = 23 \/ op = 25 then 1 else if op = 21 \/ op = 22 then 2 else if op < 1 \/ op > 32 then -1 else 0
theorem b2F (op : Int) : a0M op = some (a1j op) := by
 unfold a0M a1j
 simp only [jp, beq_iff_eq, decide_eq_true_eq]
 by_cases h1 : op = 1
 ·simp [h1]
 by_cases h2 : op = 2
 ·simp [h2]
 by_cases h3 : op = 3
 ·simp [h3]
 by_cases h4 : op = 4
 ·simp [h4]
 by_cases h5 : op = 23
 ·simp [h5]
 by_cases h6 : op = 25
 ·simp [h6]
 by_cases h7 : op = 21
 ·simp [h7]
 by_cases h8 : op = 22
 ·simp [h8]
 by_cases h9 : op < 1
 ·simp [h1, h2, h3, h4, h5, h6, h7, h8, h9]
 by_cases h10 : op > 32 <;> simp [h1, h2, h3, h4, h5, h6, h7, h8, h9, h10]
theorem a5c (op : Int) : a1j op = -1 \/ a1j op = 0 \/ a1j op = 1 \/ a1j op = 2 \/ a1j op = 8 := by
 unfold a1j
 split
 ·simp
 ·split
  ·simp
  ·split
   ·simp
   ·split <;> simp
def a2L (i : Instr) : Bool := decide (0 <= a1j i.Op) && (if a1j i.Op = 8 then decide (i.Arg = 0) else decide (i.Imm = 0 /\ 0 <= i.Arg /\ i.Arg < 256 ^ (a1j i.Op).toNat))

theorem a7W (b : List Int) (v n : Int) (hb : b.length <= 1000000000) (hn : 0 <= n /\ n <= 8) : ∃ l, z3 b v n = some l /\ l.length = b.length + n.toNat := by
 unfold z3
 obtain ⟨s', e1, e2⟩ := rni_inv (σ := Int × List Int) (ρ := Option (List Int)) (n := n) (s0 := (v, b)) (body := fun (i_2 : Nat) (s_1 : (Int × (List Int))) => ((gd (0 <= (U64 (I64 (8 * (i_2 : Int))))) ((a2R 1 s_1.2 [(U8 (shR .u64 s_1.1 (U64 (I64 (8 * (i_2 : Int))))))]).bind fun l_4 => (some (.nxt (s_1.1, l_4))))) : Option (Stp (Int × (List Int)) (Option (List Int)))))
  (fun i s => s.2.length = b.length + i) zO zS (fun i s hi hs => by
   have e : U64 (I64 (8 * (i : Int))) = 8 * i := by rw [a3l zO, b0E zO]
   rw [e, b0r zO, appL1 (by simp <;> omega)]
   exact ⟨_, rfl, by simp [hs]; omega⟩)
 rw [e1]
 exact ⟨s'.2, rfl, e2⟩

theorem a5t (b : List Int) (i : Instr) (hb : b.length <= 900000000) : ∃ l, p7 b i = some (a2L i, l) /\ l.length <= b.length + 9 := by
 unfold p7
 rw [b2F]
 simp only [Option.bind_some, jp]
 have hw := a5c i.Op
 unfold a2L
 generalize a1j i.Op = w at hw ⊢
 by_cases h0 : w < 0
 ·have : ¬ 0 <= w := by omega
  simp [h0, this]
 have h0' : 0 <= w := by omega
 have hd0 : decide (w < 0) = false := by simpa using h0'
 simp only [hd0, Bool.false_eq_true, if_false]
 by_cases h8 : w = 8
 ·subst h8
  simp only [bne_self_eq_false, beq_self_eq_true, Bool.false_eq_true, if_false, if_true]
  rw [appL1 (by simp <;> omega)]
  simp only [Option.bind_some]
  obtain ⟨l, e1, e2⟩ := a7W (b ++ [i.Op]) i.Imm 8 (by simp <;> omega) zO
  rw [e1]
  refine ⟨l, ?_, by rw [e2]; simp⟩
  simp
  by_cases ha : i.Arg = 0 <;> simp [ha]
 ·have e8 : (w != 8) = true := by simpa using h8
  have e8' : (w == 8) = false := by simpa using h8
  rw [if_pos e8]
  by_cases hi : i.Imm = 0
  ·have : (i.Imm != 0) = false := by simp [hi]
   rw [this]
   simp only [Bool.false_eq_true, if_false]
   rw [appL1 (by simp <;> omega)]
   simp only [Option.bind_some, e8', Bool.false_eq_true, if_false]
   obtain ⟨l, e1, e2⟩ := a7W (b ++ [i.Op]) (U64 i.Arg) w (by simp <;> omega) zO
   rw [e1]
   simp only [Option.bind_some]
   by_cases ha : i.Arg >= 0
   ·rw [if_pos (by simpa using ha), b0r (by rw [a3l zO, b0E zO]; omega)]
    refine ⟨l, ?_, by rw [e2]; simp; omega⟩
    have : shL .i64 1 (U64 (I64 (8 * w))) = 256 ^ w.toNat := by
     rw [a3l zO, b0E zO]
     rcases hw with h | h | h | h | h <;> first | omega | (subst h; rfl)
    rw [this]
    simp [h0', h8, hi]
    by_cases hb2 : i.Arg < 256 ^ w.toNat <;> simp [hb2] <;> omega
   ·rw [if_neg (by simpa using ha)]
    refine ⟨l, ?_, by rw [e2]; simp; omega⟩
    simp [h8]
    intro _ _ h; omega
  ·have : (i.Imm != 0) = true := by simpa using hi
   rw [this]
   simp only [if_true]
   refine ⟨[], ?_, by simp⟩
   simp [h8, hi]

def a1k (f : Func) : Bool := decide (0 <= f.Params /\ f.Params <= f.Locals.length /\ f.Locals.length <= 255 /\ -1 <= f.Keep /\ f.Keep <= 254 /\ f.Code.length <= 65535) && (f.Locals.all (fun k => decide (k <= 1)) && f.Code.all a2L)
theorem a7X (b : List Int) (f : Func) (hb : b.length <= 800000000) : ∃ l, u9 b f = some (a1k f, l) /\ (a1k f = true -> l.length <= b.length + 600000) := by
 unfold u9
 simp only [jp]
 by_cases hc : 0 <= f.Params /\ f.Params <= f.Locals.length /\ f.Locals.length <= 255 /\ -1 <= f.Keep /\ f.Keep <= 254 /\ f.Code.length <= 65535
 case neg =>
  have hf : a1k f = false := by unfold a1k; rw [decide_eq_false hc]; rfl
  refine ⟨[], ?_, by rw [hf]; simp⟩
  rw [hf]
  by_cases h1 : f.Params < 0
  ·simp [h1]
  by_cases h2 : f.Params > f.Locals.length
  ·simp [h1, h2]
  by_cases h3 : (f.Locals.length : Int) > 255
  ·simp [h1, h2, h3]
  by_cases h4 : f.Keep < -1
  ·simp [h1, h2, h3, h4]
  by_cases h5 : f.Keep > 254
  ·simp [h1, h2, h3, h4, h5]
  by_cases h6 : (f.Code.length : Int) > 65535
  ·simp [h1, h2, h3, h4, h5, h6]
  ·omega
 obtain ⟨c1, c2, c3, c4, c5, c6⟩ := hc
 have n1 : ¬ f.Params < 0 := by omega
 have n2 : ¬ f.Params > f.Locals.length := by omega
 have n3 : ¬ (f.Locals.length : Int) > 255 := by omega
 have n4 : ¬ f.Keep < -1 := by omega
 have n5 : ¬ f.Keep > 254 := by omega
 have n6 : ¬ (f.Code.length : Int) > 65535 := by omega
 simp only [n1, n2, n3, n4, n5, n6, decide_false, Bool.false_eq_true, if_false]
 rw [appL1 (by simp <;> omega)]
 simp only [Option.bind_some]
 have hf : a1k f = (f.Locals.all (fun k => decide (k <= 1)) && f.Code.all a2L) := by
  unfold a1k; rw [decide_eq_true zO]; rfl
 have L1 := rng_inv (σ := List Int) (ρ := Option (Bool × List Int)) (xs := f.Locals) (s0 := b ++ [U8 f.Params, U8 f.Locals.length]) (fun k => decide (k <= 1)) (some (false, []))
  (fun i s => s.length = b.length + 2 + i) (body := fun (i_5 : Nat) (k_6 : Int) (s_4 : (List Int)) => ((if (decide (k_6 > 1)) then (some (.ret (some (false, [])))) else ((a2R 1 s_4 [k_6]).bind fun l_8 => (some (.nxt l_8)))) : Option (Stp (List Int) (Option (Bool × (List Int)))))) zO zS (fun i x s hx hs => by
   have hi := (List.getElem?_eq_some_iff.1 hx).1
   by_cases h : x <= 1
   ·rw [if_pos (by simpa using h), if_neg (by simpa using h), appL1 (by simp <;> omega)]
    exact ⟨_, rfl, by simp <;> omega⟩
   ·rw [if_neg (by simpa using h), if_pos (by simpa using h)])
 cases hl : f.Locals.all (fun k => decide (k <= 1)) with
 | false =>
   rw [hl] at L1
   simp only [Bool.false_eq_true, if_false] at L1
   rw [L1]
   exact ⟨[], by rw [hf, hl]; rfl, by rw [hf, hl]; simp⟩
 | true =>
   rw [hl] at L1
   simp only [if_true] at L1
   obtain ⟨s1, e1, e2⟩ := L1
   rw [e1]
   simp only [Option.bind_some, oc]
   have key : ∀ (r : Int), ∃ l, ((a2R 1 s1 [r, (U8 f.Keep)]).bind fun l_11 => ((z3 l_11 (U64 (List.length f.Code : Int)) 2).bind fun (put_12 : (List Int)) => ((rng (fun (i_14 : Nat) (i_15 : Instr) (s_13 : (List Int)) => (((p7 s_13 i_15).bind fun (ins_17 : (Bool × (List Int))) => (if (!ins_17.1) then (some (.ret (some (false, [])))) else (some (.nxt ins_17.2)))) : Option (Stp (List Int) (Option (Bool × (List Int)))))) f.Code put_12).bind (oc (fun (s_13 : (List Int)) => (some (true, s_13))))))) = some (a1k f, l) /\ (a1k f = true -> l.length <= b.length + 600000) := by
    intro r
    rw [appL1 (by simp <;> omega)]
    simp only [Option.bind_some]
    obtain ⟨l2, e3, e4⟩ := a7W (s1 ++ [r, U8 f.Keep]) (U64 f.Code.length) 2 (by simp <;> omega) zO
    rw [e3]
    simp only [Option.bind_some]
    have L2 := rng_inv (σ := List Int) (ρ := Option (Bool × List Int)) (xs := f.Code) (s0 := l2) a2L (some (false, [])) (fun i s => s.length <= b.length + 300 + 9 * i)
     (body := fun (i_14 : Nat) (i_15 : Instr) (s_13 : (List Int)) => (((p7 s_13 i_15).bind fun (ins_17 : (Bool × (List Int))) => (if (!ins_17.1) then (some (.ret (some (false, [])))) else (some (.nxt ins_17.2)))) : Option (Stp (List Int) (Option (Bool × (List Int)))))) zO (by rw [e4]; simp; omega) (fun i x s hx hs => by
      have hi := (List.getElem?_eq_some_iff.1 hx).1
      obtain ⟨l, a, c⟩ := a5t s x zO
      rw [a]
      cases a2L x with
      | false => rfl
      | true => exact ⟨l, rfl, by omega⟩)
    cases hc : f.Code.all a2L with
    | false =>
      rw [hc] at L2
      simp only [Bool.false_eq_true, if_false] at L2
      rw [L2]
      exact ⟨[], by rw [hf, hl, hc]; rfl, by rw [hf, hl, hc]; simp⟩
    | true =>
      rw [hc] at L2
      simp only [if_true] at L2
      obtain ⟨s3, a, c⟩ := L2
      rw [a]
      exact ⟨s3, by rw [hf, hl, hc]; rfl, fun _ => by omega⟩
   cases f.Result with
   | false => exact key 0
   | true => exact key 1

theorem b5n {a s i C : Nat} (h : a <= s + C) (k : s <= 3 + C * i) : a <= 3 + C * (i + 1) := by
 rw [Nat.mul_add, Nat.mul_one]
 generalize C * i = q at k ⊢
 omega
def encP (p : Program) : Bool := decide (1 <= p.Funcs.length /\ p.Funcs.length <= 255) && p.Funcs.all a1k
theorem b1b (p : Program) : ∃ l, a0A p = some (l, if encP p = true then 0 else 30) := by
 unfold a0A
 simp only [jp]
 by_cases hc : 1 <= p.Funcs.length /\ p.Funcs.length <= 255
 case neg =>
  have : encP p = false := by unfold encP; rw [decide_eq_false hc]; rfl
  rw [this]
  refine ⟨[], ?_⟩
  by_cases h1 : p.Funcs.length = 0
  ·simp [h1]
  ·have h2 : (p.Funcs.length : Int) > 255 := by omega
   have h1' : ((p.Funcs.length : Int) == 0) = false := by simpa using h1
   simp [h1', h2]
 have h1' : ((p.Funcs.length : Int) == 0) = false := by simp; intro h; simp [h] at hc
 have h2 : ¬ (p.Funcs.length : Int) > 255 := by omega
 simp only [h1', h2, decide_false, Bool.false_eq_true, if_false]
 have L := rng_inv (σ := List Int) (ρ := Option (List Int × Int)) (xs := p.Funcs) (s0 := [87, 76, U8 p.Funcs.length]) a1k (some ([], 30)) (fun i s => s.length <= 3 + 600000 * i)
  (body := fun (i_4 : Nat) (f_5 : Func) (s_3 : (List Int)) => (((u9 s_3 f_5).bind fun (vfun_7 : (Bool × (List Int))) => (if (!vfun_7.1) then (some (.ret (some ([], 30)))) else (some (.nxt vfun_7.2)))) : Option (Stp (List Int) (Option ((List Int) × Int))))) zO zS (fun i x s hx hs => by
   have hi := (List.getElem?_eq_some_iff.1 hx).1
   obtain ⟨l, a, c⟩ := a7X s x zO
   rw [a]
   cases e : a1k x with
   | false => rfl
   | true => exact ⟨l, rfl, b5n (c e) hs⟩)
 have he : encP p = p.Funcs.all a1k := by unfold encP; rw [decide_eq_true hc]; rfl
 rw [he]
 cases e : p.Funcs.all a1k with
 | false =>
   rw [e] at L
   simp only [Bool.false_eq_true, if_false] at L
   rw [L]
   exact ⟨[], rfl⟩
 | true =>
   rw [e] at L
   simp only [if_true] at L
   obtain ⟨s, a, _⟩ := L
   rw [a]
   exact ⟨s, rfl⟩
def a5d (f : Func) : Bool := decide (f.Params <= 4 /\ f.Locals.length <= 16 /\ f.Code.length <= 256)
def a3r (p : Program) : Bool := p.Funcs.all a5d && decide (p.Funcs.length <= 16)
theorem a9l (p : Program) (hp : p.Funcs.length <= 1048576) : a0c p = some (a3r p) := by
 unfold a0c a3r
 simp only [jp]
 have L := rng_inv (σ := Unit) (ρ := Option Bool) (xs := p.Funcs) (s0 := ()) a5d (some false) (fun _ _ => True)
  (body := fun (i_2 : Nat) (f_3 : Func) (s_1 : Unit) => ((if (decide (f_3.Params > 4)) then (if true = true then (some (.ret (some false))) else (some (.nxt ()))) else (if (decide ((List.length f_3.Locals : Int) > 16)) then (if true = true then (some (.ret (some false))) else (some (.nxt ()))) else (if decide ((List.length f_3.Code : Int) > 256) = true then (some (.ret (some false))) else (some (.nxt ()))))) : Option (Stp Unit (Option Bool)))) zO trivial (fun i x s hx _ => by
   unfold a5d
   by_cases h1 : x.Params > 4
   ·have : ¬ (x.Params <= 4 /\ x.Locals.length <= 16 /\ x.Code.length <= 256) := by omega
    simp [h1, this]
   by_cases h2 : (x.Locals.length : Int) > 16
   ·have : ¬ (x.Params <= 4 /\ x.Locals.length <= 16 /\ x.Code.length <= 256) := by omega
    simp [h1, h2, this]
   by_cases h3 : (x.Code.length : Int) > 256
   ·have : ¬ (x.Params <= 4 /\ x.Locals.length <= 16 /\ x.Code.length <= 256) := by omega
    simp [h1, h2, h3, this]
   ·have : (x.Params <= 4 /\ x.Locals.length <= 16 /\ x.Code.length <= 256) := by omega
    simp [h1, h2, h3, this])
 cases e : p.Funcs.all a5d with
 | false =>
   rw [e] at L
   simp only [Bool.false_eq_true, if_false] at L
   simp only [if_true] at L ⊢
   rw [L]; rfl
 | true =>
   rw [e] at L
   simp only [if_true] at L ⊢
   obtain ⟨s, a, _⟩ := L
   rw [a]
   simp [oc]
   omega
theorem whileN_ex {σ ρ : Type} {body : σ -> Option (Stp σ ρ)} (Inv : σ -> Prop) (μ : σ -> Nat) (Q : Out σ ρ -> Prop)
  (h : ∀ s, Inv s -> (∃ s', body s = some (.nxt s') /\ Inv s' /\ μ s' < μ s) \/ (∃ s', body s = some (.brk s') /\ Q (.fin s')) \/ (∃ v, body s = some (.ret v) /\ Q (.ret v))) :
  ∀ (n : Nat) (s : σ), Inv s -> μ s < n -> ∃ o, a0V body n s = some o /\ Q o
 | 0, s, _, hn => by omega
 | n + 1, s, hi, hn => by
   rcases h s hi with ⟨s', h1, h2, h3⟩ | ⟨s', h1, h2⟩ | ⟨v, h1, h2⟩
   ·rw [a4N h1]; exact whileN_ex Inv μ Q h n s' h2 zO
   ·rw [a5M h1]; exact ⟨_, rfl, h2⟩
   ·rw [a5N h1]; exact ⟨_, rfl, h2⟩
theorem rangeL_ex {α σ ρ : Type} {body : Nat -> α -> σ -> Option (Stp σ ρ)} (Inv : Nat -> σ -> Prop) (Q : Out σ ρ -> Prop) : ∀ (xs : List α) (k : Nat) (s : σ), Inv k s ->
  (∀ i x s, xs[i]? = some x -> Inv (k + i) s -> (∃ s', body (k + i) x s = some (.nxt s') /\ Inv (k + i + 1) s') \/ ∃ v, body (k + i) x s = some (.ret v) /\ Q (.ret v)) ->
  (∀ s, Inv (k + xs.length) s -> Q (.fin s)) -> ∃ o, a0m body xs k s = some o /\ Q o
 | [], k, s, hi, h, hQ => ⟨_, rfl, hQ s (by simpa using hi)⟩
 | x :: r, k, s, hi, h, hQ => by
   rcases h 0 x s rfl (by simpa using hi) with ⟨s', e1, e2⟩ | ⟨v, e1, e2⟩
   ·simp only [Nat.add_zero] at e1 e2
    simp only [a0m, e1]
    refine rangeL_ex Inv Q r (k + 1) s' e2 (fun i y s hy hs => ?_) (fun s hs => hQ s (by rw [List.length_cons]; rwa [show k + (r.length + 1) = k + 1 + r.length by omega]))
    have := h (i + 1) y s (by simpa using hy) (by rwa [show k + (i + 1) = k + 1 + i by omega])
    rwa [show k + (i + 1) = k + 1 + i by omega] at this
   ·simp only [Nat.add_zero] at e1
    simp only [a0m, e1]
    exact ⟨_, rfl, e2⟩
theorem rng_ex {α σ ρ : Type} {body : Nat -> α -> σ -> Option (Stp σ ρ)} {xs : List α} {s0 : σ} (Inv : Nat -> σ -> Prop) (Q : Out σ ρ -> Prop) (hl : xs.length <= 4611686018427387904) (h0 : Inv 0 s0)
  (h : ∀ i x s, xs[i]? = some x -> Inv i s -> (∃ s', body i x s = some (.nxt s') /\ Inv (i + 1) s') \/ ∃ v, body i x s = some (.ret v) /\ Q (.ret v)) (hQ : ∀ s, Inv xs.length s -> Q (.fin s)) : ∃ o, rng body xs s0 = some o /\ Q o := by
 unfold rng
 rw [if_pos hl]
 exact rangeL_ex Inv Q xs 0 s0 h0 (fun i x s hx hs => by simpa using h i x s hx (by simpa using hs)) (fun s hs => hQ s (by simpa using hs))
theorem rangeN_ex {σ ρ : Type} {body : Nat -> σ -> Option (Stp σ ρ)} (Inv : Nat -> σ -> Prop) (Q : Out σ ρ -> Prop) : ∀ (n k : Nat) (s : σ), Inv k s ->
  (∀ i s, k <= i -> i < k + n -> Inv i s -> (∃ s', body i s = some (.nxt s') /\ Inv (i + 1) s') \/ ∃ v, body i s = some (.ret v) /\ Q (.ret v)) ->
  (∀ s, Inv (k + n) s -> Q (.fin s)) -> ∃ o, a0n body n k s = some o /\ Q o
 | 0, k, s, hi, h, hQ => ⟨_, rfl, hQ s hi⟩
 | n + 1, k, s, hi, h, hQ => by
   rcases h k s zO zO hi with ⟨s', e1, e2⟩ | ⟨v, e1, e2⟩
   ·simp only [a0n, e1]
    exact rangeN_ex Inv Q n (k + 1) s' e2 (fun i s a b c => h i s zO zO c) (fun s hs => hQ s (by rwa [show k + (n + 1) = k + 1 + n by omega]))
   ·simp only [a0n, e1]
    exact ⟨_, rfl, e2⟩
theorem rni_ex {σ ρ : Type} {body : Nat -> σ -> Option (Stp σ ρ)} {n : Int} {s0 : σ} (Inv : Nat -> σ -> Prop) (Q : Out σ ρ -> Prop) (hn : n <= 4611686018427387904) (h0 : Inv 0 s0)
  (h : ∀ (i : Nat) s, (i : Int) < n -> Inv i s -> (∃ s', body i s = some (.nxt s') /\ Inv (i + 1) s') \/ ∃ v, body i s = some (.ret v) /\ Q (.ret v)) (hQ : ∀ s, Inv n.toNat s -> Q (.fin s)) : ∃ o, rni body n s0 = some o /\ Q o := by
 unfold rni
 rw [if_pos hn]
 exact rangeN_ex Inv Q n.toNat 0 s0 h0 (fun i s _ hi hs => h i s zO hs) (fun s hs => hQ s (by simpa using hs))

def a3s (p : Program) (f : Func) (i : Instr) : Bool :=
 if i.Op = 2 \/ i.Op = 3 then decide (i.Arg < f.Locals.length)
 else if i.Op = 4 then decide (i.Arg < f.Locals.length /\ f.Locals[i.Arg.toNat]? = some 0)
 else if i.Op = 23 \/ i.Op = 25 then decide (i.Arg < p.Funcs.length)
 else if i.Op = 21 \/ i.Op = 22 then decide (i.Arg < f.Code.length) else true
theorem b2G (p : Program) (f : Func) (i : Instr) (ha : 0 <= i.Arg) : x9 p f i = some (a3s p f i) := by
 unfold x9 a3s
 simp only [jp]
 by_cases h2 : i.Op = 2
 ·simp [h2]
 by_cases h3 : i.Op = 3
 ·simp [h3]
 by_cases h4 : i.Op = 4
 ·simp only [h4]
  simp
  by_cases h : i.Arg < f.Locals.length
  ·rw [if_pos h, a1U ha zO]
   simp [h, List.getElem?_eq_getElem (show i.Arg.toNat < f.Locals.length by omega)]
   rfl
  ·rw [if_neg h]; simp [h]
 by_cases h5 : i.Op = 23
 ·simp [h5]
 by_cases h6 : i.Op = 25
 ·simp [h6]
 by_cases h7 : i.Op = 21
 ·simp [h7]
 by_cases h8 : i.Op = 22
 ·simp [h8]
 simp [h2, h3, h4, h5, h6, h7, h8]

def a9m (p : Program) (f : Func) (i : Instr) : Bool := a3s p f i && !(decide (i.Op = 25) && (f.Result && decide (f.Keep < 0)))
def a9n (f : Func) : Bool := decide (f.Code.length ≠ 0 /\ f.Keep < f.Locals.length) && (decide (f.Keep < 0) || decide (f.Locals[f.Keep.toNat]? = some 0))
def a3O (p : Program) (f : Func) : Bool := a9n f && f.Code.all (a9m p f)
theorem a5e {i : Instr} (h : a2L i = true) : 0 <= i.Arg /\ i.Arg <= 65535 /\ 0 <= a1j i.Op := by
 unfold a2L at h
 simp only [Bool.and_eq_true, decide_eq_true_eq] at h
 obtain ⟨h1, h2⟩ := h
 split at h2
 ·simp at h2; omega
 ·rename_i h8
  simp only [decide_eq_true_eq] at h2
  obtain ⟨_, h3, h4⟩ := h2
  have hw := a5c i.Op
  have : (256 : Int) ^ (a1j i.Op).toNat <= 65536 := by
   rcases hw with e | e | e | e | e <;> rw [e] at h1 h8 ⊢ <;> first | omega | decide
  omega
theorem a3P {f : Func} (h : a1k f = true) : ∀ i ∈ f.Code, a2L i = true := by
 unfold a1k at h
 simp only [Bool.and_eq_true, decide_eq_true_eq, List.all_eq_true] at h
 exact h.2.2
theorem b5o (p : Program) (f : Func) (hf : a1k f = true) (hp : p.Funcs.length <= 1048576) : a0o p f = some (a3O p f) := by
 have hc := a3P hf
 have hd : f.Code.length <= 65535 := by
  unfold a1k at hf
  simp only [Bool.and_eq_true, decide_eq_true_eq] at hf
  omega
 unfold a0o a3O
 simp only [jp]
 have L := rng_inv (σ := Unit) (ρ := Option Bool) (xs := f.Code) (s0 := ()) (a9m p f) (some false) (fun _ _ => True)
  (body := fun (i_5 : Nat) (i_6 : Instr) (s_4 : Unit) => (((x9 p f i_6).bind fun nam_10 => (if (!nam_10) then (if true = true then (some (.ret (some false))) else (some (.nxt ()))) else (if (i_6.Op == 25) then (if f.Result then (if (decide (f.Keep < 0)) = true then (some (.ret (some false))) else (some (.nxt ()))) else (if false = true then (some (.ret (some false))) else (some (.nxt ())))) else (if false = true then (some (.ret (some false))) else (some (.nxt ())))))) : Option (Stp Unit (Option Bool)))) zO trivial (fun i x s hx _ => by
   have hm := List.mem_of_getElem? hx
   rw [b2G p f x (a5e (hc x hm)).1]
   unfold a9m
   cases a3s p f x with
   | false => rfl
   | true =>
     simp only [Option.bind_some, Bool.not_true, Bool.false_eq_true, if_false, Bool.true_and]
     by_cases h25 : x.Op = 25
     ·simp only [h25, beq_self_eq_true, if_true, decide_true, Bool.true_and]
      cases f.Result with
      | false => exact ⟨(), rfl, trivial⟩
      | true =>
        simp only [if_true, Bool.true_and]
        cases decide (f.Keep < 0) with
        | false => exact ⟨(), rfl, trivial⟩
        | true => rfl
     ·have : (x.Op == 25) = false := by simpa using h25
      simp only [this, Bool.false_eq_true, if_false, decide_eq_false h25, Bool.false_and, Bool.not_false, if_true]
      exact ⟨(), by simp, trivial⟩)
 have key : ((rng (fun (i_5 : Nat) (i_6 : Instr) (s_4 : Unit) => (((x9 p f i_6).bind fun nam_10 => (if (!nam_10) then (if true = true then (some (.ret (some false))) else (some (.nxt ()))) else (if (i_6.Op == 25) then (if f.Result then (if (decide (f.Keep < 0)) = true then (some (.ret (some false))) else (some (.nxt ()))) else (if false = true then (some (.ret (some false))) else (some (.nxt ())))) else (if false = true then (some (.ret (some false))) else (some (.nxt ())))))) : Option (Stp Unit (Option Bool)))) f.Code ()).bind (oc (fun (s_4 : Unit) => (some true)))) = some (f.Code.all (a9m p f)) := by
  cases e : f.Code.all (a9m p f) with
  | false =>
    rw [e] at L
    simp only [Bool.false_eq_true, if_false] at L ⊢
    rw [L]; rfl
  | true =>
    rw [e] at L
    simp only [if_true] at L ⊢
    obtain ⟨s, a, _⟩ := L
    rw [a]; rfl
 unfold a9n
 by_cases h1 : f.Code.length = 0
 ·simp [h1]
 have h1' : ((f.Code.length : Int) == 0) = false := by simpa using h1
 by_cases h2 : f.Keep >= f.Locals.length
 ·have : ¬ (f.Keep < f.Locals.length) := by omega
  simp only [h1', Bool.false_eq_true, if_false, decide_eq_true h2, if_true]
  simp [this]
 have h2' : f.Keep < f.Locals.length := by omega
 simp only [h1', Bool.false_eq_true, if_false, decide_eq_false h2, decide_eq_true (show f.Code.length ≠ 0 /\ f.Keep < f.Locals.length from ⟨h1, h2'⟩), Bool.true_and]
 by_cases h3 : f.Keep >= 0
 ·have h3' : ¬ f.Keep < 0 := by omega
  simp only [decide_eq_true h3, if_true, decide_eq_false h3', Bool.false_or]
  rw [a1U h3 zO, List.getElem?_eq_getElem (show f.Keep.toNat < f.Locals.length by omega)]
  simp only [Option.bind_some]
  by_cases h4 : f.Locals[f.Keep.toNat] = 0
  ·simp only [h4, bne_self_eq_false, Bool.false_eq_true, if_false, decide_true, Bool.true_and]
   simp only [decide_eq_false h3', Bool.false_eq_true, if_false] at key ⊢
   exact key
  ·have : (f.Locals[f.Keep.toNat] != 0) = true := by simpa using h4
   simp [this, h4]
 ·have h3' : f.Keep < 0 := by omega
  simp only [decide_eq_false h3, Bool.false_eq_true, if_false, decide_eq_true h3', Bool.true_or, Bool.true_and]
  simp only [decide_eq_true h3', Bool.false_eq_true, if_false] at key ⊢
  exact key

def a8E (i : Instr) (a : Nat) : List Int := if i.Op = 21 then [i.Arg] else if i.Op = 22 then [(a : Int) + 1, i.Arg] else if i.Op = 24 \/ i.Op = 26 \/ i.Op = 30 then [] else [(a : Int) + 1]
theorem b1c (i : Instr) (a : Nat) (ha : a <= 1048576) : a0e i a = some (a8E i a) := by
 unfold a0e a8E
 simp only [jp]
 rw [a3l (x := (a : Int) + 1) zO]
 by_cases h1 : i.Op = 21
 ·simp [h1]
 by_cases h2 : i.Op = 22
 ·simp [h2]
 by_cases h3 : i.Op = 24
 ·simp [h3]
 by_cases h4 : i.Op = 26
 ·simp [h4]
 by_cases h5 : i.Op = 30
 ·simp [h5]
 simp [h1, h2, h3, h4, h5]
theorem b5p (i : Instr) (a : Nat) : (a8E i a).length <= 2 := by
 unfold a8E
 split
 ·simp
 ·split
  ·simp
  ·split <;> simp

theorem a5f {σ ρ : Type} {a b : List Int} {body : Nat -> σ -> Option (Stp σ ρ)} (s : σ) (v : ρ) (hl : a.length = b.length)
  (h : ∀ (i : Nat) (h1 : i < a.length) (h2 : i < b.length), body i s = some (if a[i] = b[i] then .nxt s else .ret v)) :
  ∀ (m k : Nat), k + m = a.length -> a0n body m k s = some (if a.drop k = b.drop k then .fin s else .ret v)
 | 0, k, hk => by
   rw [List.drop_eq_nil_of_le zO, List.drop_eq_nil_of_le zO]; rfl
 | m + 1, k, hk => by
   have h1 : k < a.length := by omega
   have h2 : k < b.length := by omega
   have key : a.drop k = b.drop k ↔ a[k] = b[k] /\ a.drop (k + 1) = b.drop (k + 1) := by
    rw [List.drop_eq_getElem_cons h1, List.drop_eq_getElem_cons h2, List.cons.injEq]
   simp only [a0n, h k h1 h2]
   by_cases e : a[k] = b[k]
   ·rw [if_pos e]
    simp only
    rw [a5f s v hl h m (k + 1) zO]
    by_cases e2 : a.drop (k + 1) = b.drop (k + 1)
    ·rw [if_pos e2, if_pos (key.2 ⟨e, e2⟩)]
    ·rw [if_neg e2, if_neg (fun hh => e2 (key.1 hh).2)]
   ·rw [if_neg e, if_neg (fun hh => e (key.1 hh).1)]
theorem a8F (a b : List Int) (ha : a.length <= 1000000) : u4 a b = some (decide (a = b)) := by
 unfold u4
 by_cases hl : a.length = b.length
 ·have e : ((a.length : Int) != b.length) = false := by simp [hl]
  simp only [e, Bool.false_eq_true, if_false, rni]
  rw [if_pos zO, show ((a.length : Int)).toNat = a.length by omega]
  rw [a5f (a := a) (b := b) b (some false) hl (fun i h1 h2 => ?_) a.length 0 zO]
  ·simp only [List.drop_zero, Option.bind_some]
   by_cases e : a = b
   ·rw [if_pos e, decide_eq_true e]; rfl
   ·rw [if_neg e, decide_eq_false e]; rfl
  ·rw [a0f, a0f, List.getElem?_eq_getElem h1, List.getElem?_eq_getElem h2]
   simp only [Option.bind_some]
   by_cases e : a[i] = b[i]
   ·rw [if_pos e]; simp [e]
   ·rw [if_neg e]; simp [e]
 ·have e : ((a.length : Int) != b.length) = true := by simp; omega
  rw [if_pos e, decide_eq_false (fun h => hl (by rw [h]))]
def b1G (f : Func) (i : Instr) : List Int := [f.Locals[i.Arg.toNat]?.getD 0]
def eff (p : Program) (f : Func) (i : Instr) (top : Int) : List Int × List Int :=
 if i.Op = 1 \/ i.Op = 28 then ([], [0]) else if i.Op = 2 then ([], b1G f i) else if i.Op = 3 then (b1G f i, []) else if i.Op = 4 then ([], [1]) else if i.Op = 5 then ([1], [0])
 else if i.Op = 6 then ([1, 0], []) else if i.Op = 21 then ([], []) else if i.Op = 22 \/ i.Op = 26 \/ i.Op = 29 \/ i.Op = 30 then ([0], [])
 else if i.Op = 23 \/ i.Op = 25 then (match p.Funcs[i.Arg.toNat]? with | some g => (g.Locals.take g.Params.toNat, if i.Op = 23 /\ g.Result = true then [0] else []) | none => ([], []))
 else if i.Op = 24 then (if f.Result = true then [0] else [], []) else if i.Op = 27 then ([], [0, 0]) else if i.Op = 31 then ([top], []) else if i.Op = 32 then ([top], [top, top]) else ([0, 0], [0])
theorem b1d {l : List Int} {a : Int} (h0 : 0 <= a) (h : a < l.length) (hb : a <= 65535) : a4n l a (I64 (a + 1)) = some [l[a.toNat]?.getD 0] := by
 rw [a3l zO]
 unfold a4n
 rw [if_pos zO]
 have hlt : a.toNat < l.length := by omega
 rw [show (a + 1).toNat = a.toNat + 1 by omega, List.getElem?_eq_getElem hlt]
 rw [List.take_succ_eq_append_getElem hlt, List.drop_append_of_le_length zE]
 simp
theorem a2H {f : Func} (h : a1k f = true) : 0 <= f.Params /\ f.Params <= f.Locals.length /\ f.Locals.length <= 255 /\ -1 <= f.Keep /\ f.Keep <= 254 /\ f.Code.length <= 65535 := by
 unfold a1k at h
 simp only [Bool.and_eq_true, decide_eq_true_eq] at h
 exact h.1
theorem b1e (p : Program) (f : Func) (i : Instr) (top : Int) (ha : 0 <= i.Arg /\ i.Arg <= 65535) (hn : a3s p f i = true) (hg : ∀ g ∈ p.Funcs, a1k g = true) : a0d p f i top = some (eff p f i top) := by
 unfold a0d eff
 simp only [jp]
 unfold a3s at hn
 by_cases h1 : i.Op = 1
 ·simp [h1]
 by_cases h28 : i.Op = 28
 ·simp [h28]
 by_cases h2 : i.Op = 2
 ·simp [h2] at hn
  simp [h2, b1d ha.1 hn ha.2, b1G]
 by_cases h3 : i.Op = 3
 ·simp [h3] at hn
  simp [h3, b1d ha.1 hn ha.2, b1G]
 by_cases h4 : i.Op = 4
 ·simp [h4]
 by_cases h5 : i.Op = 5
 ·simp [h5]
 by_cases h6 : i.Op = 6
 ·simp [h6]
 by_cases h21 : i.Op = 21
 ·simp [h21]
 by_cases h22 : i.Op = 22
 ·simp [h22]
 by_cases h26 : i.Op = 26
 ·simp [h26]
 by_cases h29 : i.Op = 29
 ·simp [h29]
 by_cases h30 : i.Op = 30
 ·simp [h30]
 by_cases hc : i.Op = 23 \/ i.Op = 25
 ·have hlt : i.Arg < p.Funcs.length := by
   rcases hc with h | h <;> simpa [h] using hn
  have hlt' : i.Arg.toNat < p.Funcs.length := by omega
  have hf := a2H (hg _ (List.getElem_mem hlt'))
  have hs : a4n (p.Funcs[i.Arg.toNat]).Locals 0 (p.Funcs[i.Arg.toNat]).Params = some ((p.Funcs[i.Arg.toNat]).Locals.take (p.Funcs[i.Arg.toNat]).Params.toNat) := by
   unfold a4n
   rw [if_pos zO]
   simp
  rw [List.getElem?_eq_getElem hlt']
  rcases hc with h | h
  ·simp only [h]
   simp
   rw [a1U ha.1 hlt']
   simp only [Option.bind_some, hs]
   cases (p.Funcs[i.Arg.toNat]).Result <;> simp
  ·simp only [h]
   simp
   rw [a1U ha.1 hlt']
   simp [hs]
 have h23 : ¬ i.Op = 23 := fun h => hc (.inl h)
 have h25 : ¬ i.Op = 25 := fun h => hc (.inr h)
 by_cases h24 : i.Op = 24
 ·simp [h24]
  cases f.Result <;> simp
 by_cases h27 : i.Op = 27
 ·simp [h27]
 by_cases h31 : i.Op = 31
 ·simp [h31]
 by_cases h32 : i.Op = 32
 ·simp [h32]
 simp [h1, h28, h2, h3, h4, h5, h6, h21, h22, h26, h29, h30, h23, h25, h24, h27, h31, h32]

def a4f (s : List Int) : Int := s.getLast?.getD 0
def a3Q (p : Program) (f : Func) (i : Instr) (s : List Int) : Option (List Int) :=
 let e := eff p f i (a4f s)
 if e.1.length <= s.length /\ s.drop (s.length - e.1.length) = e.1 /\ ¬ (i.Op = 24 /\ e.1.length < s.length) then some (s.take (s.length - e.1.length) ++ e.2) else none
theorem b5q {c : Prop} [Decidable c] : (if c then [(0 : Int)] else []).length <= 2 := by split <;> exact Nat.le_of_ble_eq_true rfl
theorem b1f (p : Program) (f : Func) (i : Instr) (t : Int) : (eff p f i t).2.length <= 2 := by
 unfold eff b1G
 by_cases h0 : i.Op = 1 \/ i.Op = 28
 ·rw [if_pos h0]
  exact Nat.le_of_ble_eq_true rfl
 rw [if_neg h0]
 by_cases h1 : i.Op = 2
 ·rw [if_pos h1]
  exact Nat.le_of_ble_eq_true rfl
 rw [if_neg h1]
 by_cases h2 : i.Op = 3
 ·rw [if_pos h2]
  exact Nat.le_of_ble_eq_true rfl
 rw [if_neg h2]
 by_cases h3 : i.Op = 4
 ·rw [if_pos h3]
  exact Nat.le_of_ble_eq_true rfl
 rw [if_neg h3]
 by_cases h4 : i.Op = 5
 ·rw [if_pos h4]
  exact Nat.le_of_ble_eq_true rfl
 rw [if_neg h4]
 by_cases h5 : i.Op = 6
 ·rw [if_pos h5]
  exact Nat.le_of_ble_eq_true rfl
 rw [if_neg h5]
 by_cases h6 : i.Op = 21
 ·rw [if_pos h6]
  exact Nat.le_of_ble_eq_true rfl
 rw [if_neg h6]
 by_cases h7 : i.Op = 22 \/ i.Op = 26 \/ i.Op = 29 \/ i.Op = 30
 ·rw [if_pos h7]
  exact Nat.le_of_ble_eq_true rfl
 rw [if_neg h7]
 by_cases h8 : i.Op = 23 \/ i.Op = 25
 ·rw [if_pos h8]
  cases p.Funcs[i.Arg.toNat]? with
  | none => exact Nat.le_of_ble_eq_true rfl
  | some g => exact b5q
 rw [if_neg h8]
 by_cases h9 : i.Op = 24
 ·rw [if_pos h9]
  exact Nat.le_of_ble_eq_true rfl
 rw [if_neg h9]
 by_cases h10 : i.Op = 27
 ·rw [if_pos h10]
  exact Nat.le_of_ble_eq_true rfl
 rw [if_neg h10]
 by_cases h11 : i.Op = 31
 ·rw [if_pos h11]
  exact Nat.le_of_ble_eq_true rfl
 rw [if_neg h11]
 by_cases h12 : i.Op = 32
 ·rw [if_pos h12]
  exact Nat.le_of_ble_eq_true rfl
 rw [if_neg h12]
 exact Nat.le_of_ble_eq_true rfl
theorem b2H {p f i s s'} (h : a3Q p f i s = some s') : s'.length <= s.length + 2 := by
 unfold a3Q at h
 simp only at h
 split at h
 ·cases h
  have := b1f p f i (a4f s)
  simp; omega
 ·cases h

inductive Der (p : Program) (f : Func) : Nat -> List Int -> Prop
 | start : Der p f 0 []
 | go {a : Nat} {s s' : List Int} {i : Instr} {b : Nat} (h : Der p f a s) (hi : f.Code[a]? = some i) (hs : a3Q p f i s = some s') (hb : (b : Int) ∈ a8E i a) : Der p f b s'
def Bad (p : Program) (f : Func) : Prop :=
 (∃ a s i, Der p f a s /\ f.Code[a]? = some i /\ (a3Q p f i s = none \/ ∃ b ∈ a8E i a, (f.Code.length : Int) <= b)) \/ ∃ b s1 s2, Der p f b s1 /\ Der p f b s2 /\ s1 ≠ s2
def Deep (p : Program) (f : Func) : Prop := ∃ a s i s', Der p f a s /\ f.Code[a]? = some i /\ a3Q p f i s = some s' /\ 16 < s'.length
def Sol (p : Program) (f : Func) (R : Nat -> Option (List Int)) : Prop :=
 R 0 = some [] /\ ∀ a s, R a = some s -> Der p f a s /\ ∃ i s', f.Code[a]? = some i /\ a3Q p f i s = some s' /\ ∀ b ∈ a8E i a, ∃ m : Nat, b = m /\ m < f.Code.length /\ R m = some s'
theorem Sol.all {p f R} (h : Sol p f R) {a s} (d : Der p f a s) : R a = some s := by
 induction d with
 | start => exact h.1
 | go d hi hs hb ih =>
   obtain ⟨_, i, s', h1, h2, h3⟩ := h.2 _ _ ih
   rw [hi] at h1; cases h1
   rw [hs] at h2; cases h2
   obtain ⟨m, e, _, h4⟩ := h3 _ hb
   have : m = _ := Int.ofNat.inj e.symm
   subst this
   exact h4
theorem b1g {α β : Type} {x : Option α} {F : α -> Option β} {P : β -> Prop} (h : ∃ o, x = some o /\ ∃ r, F o = some r /\ P r) : ∃ r, x.bind F = some r /\ P r := by
 obtain ⟨o, rfl, r, h1, h2⟩ := h
 exact ⟨r, h1, h2⟩
end Go.Proofs.Ytnpemocpfdgaoaa

