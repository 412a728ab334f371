/- Two runs that agree in what is live go the same way: the plain proof. -/
import Derived.Test.YtipeiholgieclaaDoorRfT2
import Derived.Test.YtipeiholgieclaaDoorWlK3
import Derived.WalkKit
import Derived.ProofKit
import Derived.OpenShut
import Derived.JoinedCond
import Derived.Test.YtipeiholgieclaaDoorWlTz
import Derived.Lib.LaidTab
import Derived.Deep.DeepHandedRow
set_option linter.unusedVariables false
set_option linter.unusedSimpArgs false
namespace Go.Proofs.YtipeiholgieclaaDoor
open Go Go.Ab Go.RowKit
set_option maxRecDepth 20000
def LI (gs : List b5) (f pc : Int) (k : Nat) : Prop := ∃ g, m0 gs f = some g /\ Lv g pc.toNat k
def LW (gs : List b5) (x : F8) (k : Nat) : Prop := ∃ g n, m0 gs x.f = some g /\ m0 g.Nodes x.pc = some n /\ (k : Int) ≠ n.D /\ LI gs x.f n.Next k
def AG (gs : List b5) : Option Int -> F8 -> List Int -> Prop
 | none, x, l => x.ends = true \/ ∀ k, LI gs x.f x.pc k -> x.lo[k]? = l[k]?
 | some w, x, l => (w = 0 -> ∀ k, LW gs x k -> x.lo[k]? = l[k]?) /\ (w ≠ 0 -> w ≠ 2 -> x.ends = true)
def RA (gs : List b5) : Option Int -> List F8 -> List F8 -> Prop
 | _, [], [] => True
 | m, x :: r, y :: s => (∃ l, y = { x with lo := l } /\ l.length = x.lo.length /\ AG gs m x l) /\ RA gs (some x.why) r s
 | _, [], _ :: _ => False
 | _, _ :: _, [] => False
section
variable {gs : List b5} {g : b5} {n : f6}
theorem a9Q : ∀ {m : Option Int} {A B : List F8}, RA gs m A B -> B.length = A.length
 | _, [], [], _ => rfl
 | _, x :: r, y :: s, h => by have := a9Q h.2; simp [this]
theorem b4I : ∀ {m : Option Int} {A B : List F8}, RA gs m A B -> waS B = waS A
 | _, [], [], _ => rfl
 | _, x :: r, y :: s, h => by
   have := b4I h.2
   obtain ⟨l, rfl, _⟩ := h.1
   show x.wa.length + waS s = x.wa.length + waS r; rw [this]
theorem c4R : ∀ {m : Option Int} {A B : List F8}, RA gs m A B -> B.map F8.ce = A.map F8.ce
 | _, [], [], _ => rfl
 | _, x :: r, y :: s, h => by
   have := c4R h.2
   obtain ⟨l, rfl, _⟩ := h.1
   simp [this]
theorem b1W {rows : List F8} {p : Int} : a2K rows p = if 4611686018427387904 <= p /\ p < 4611967493404098560 then ((rows.map F8.ce).reverse[((p - 4611686018427387904) / 65536).toNat]?).bind fun c => (c[(p % 65536).toNat]?).map fun w => (((p - 4611686018427387904) / 65536).toNat, (p % 65536).toNat, w) else none := by
 unfold a2K
 rw [<- List.map_reverse, List.getElem?_map]
 cases rows.reverse[((p - 4611686018427387904) / 65536).toNat]? <;> rfl
theorem b4J {m : Option Int} {A B : List F8} (h : RA gs m A B) {p : Int} : a2K B p = a2K A p := by
 rw [b1W, b1W, c4R h]
theorem b7f {k : Nat} {v : Int} : ∀ {m : Option Int} {A B : List F8} (j : Nat), RA gs m A B -> RA gs m (A.modify j (b0I k v)) (B.modify j (b0I k v))
 | _, [], [], 0, _ => trivial
 | _, [], [], _ + 1, _ => trivial
 | m, x :: r, y :: s, 0, h => by
   rw [List.modify_zero_cons, List.modify_zero_cons]
   obtain ⟨⟨l, rfl, h2, h3⟩, h4⟩ := h
   exact ⟨⟨l, rfl, h2, (by cases m <;> exact h3)⟩, h4⟩
 | m, x :: r, y :: s, j + 1, h => by
   rw [List.modify_succ_cons, List.modify_succ_cons]
   exact ⟨h.1, b7f j h.2⟩
theorem b7g {x : F8} {l : List Int} {k v : Int} (h : x.get k = some v) (ha : x.lo[k.toNat]? = l[k.toNat]?) : ({ x with lo := l } : F8).get k = some v := by
 unfold F8.get at h ⊢
 split at h
 ·rename_i h0; rw [if_pos h0]; rw [<- h]; exact ha.symm
 ·cases h
theorem b4K {x : F8} {k v : Int} (h : x.get k = some v) : 0 <= k /\ k.toNat < x.lo.length := by
 unfold F8.get at h
 split at h
 ·rename_i h0; exact ⟨h0, (List.getElem?_eq_some_iff.1 h).1⟩
 ·cases h
theorem a4r {x x' : F8} {l : List Int} {k v : Int} (h : x.set k v = some x') (hl : l.length = x.lo.length) : ∃ a b, x' = { x with lo := a } /\ ({ x with lo := l } : F8).set k v = some { x with lo := b } /\ b.length = a.length /\ ∀ j : Nat, ((j : Int) = k \/ x.lo[j]? = l[j]?) -> a[j]? = b[j]? := by
 unfold F8.set at h ⊢
 by_cases h0 : 0 <= k
 ·rw [if_pos h0] at h
  by_cases h1 : k.toNat < x.lo.length
  ·rw [if_pos h1] at h; cases h
   refine ⟨x.lo.set k.toNat v, l.set k.toNat v, rfl, by rw [if_pos h0, if_pos (by show k.toNat < l.length; omega)], by simp [hl], fun j hj => ?_⟩
   by_cases hjk : k.toNat = j
   ·subst hjk
    rw [List.getElem?_set_self h1, List.getElem?_set_self zO]
   ·rw [List.getElem?_set_ne hjk, List.getElem?_set_ne hjk]
    exact hj.resolve_left (fun e => hjk zO)
  ·rw [if_neg h1] at h; cases h
 ·rw [if_neg h0] at h; cases h
  refine ⟨x.lo, l, rfl, by rw [if_neg h0], hl, fun j hj => hj.resolve_left zO⟩
theorem b0O {x : F8} {l : List Int} : ∀ {ks ag : List Int}, a4H x ks = some ag -> (∀ k ∈ ks, 0 <= k -> k.toNat < x.lo.length -> x.lo[k.toNat]? = l[k.toNat]?) -> a4H { x with lo := l } ks = some ag
 | [], ag, h, _ => h
 | k :: ks, ag, h, ha => by
   unfold a4H at h ⊢
   obtain ⟨v, h1, h2⟩ := Option.bind_eq_some_iff.1 h
   obtain ⟨m, h3, rfl⟩ := Option.map_eq_some_iff.1 h2
   obtain ⟨q1, q2⟩ := b4K h1
   rw [b7g h1 (ha k (.head _) q1 q2), Option.bind_some, b0O h3 (fun k hk => ha k (.tail _ hk))]; rfl
theorem b0P {ag : List Int} : ∀ {ks : List Int} {i : Nat} {z f : F8}, b5Z g ag i ks z = some f -> ∃ l c, f = { z with lo := l, ce := c }
 | [], _, z, f, h => by cases h; exact ⟨_, _, rfl⟩
 | k :: ks, i, z, f, h => by
   unfold b5Z at h
   obtain ⟨a, _, h⟩ := Option.bind_eq_some_iff.1 h
   obtain ⟨z1, h1, h⟩ := Option.bind_eq_some_iff.1 h
   obtain ⟨c, _, h⟩ := Option.bind_eq_some_iff.1 h
   obtain ⟨l1, _, rfl, _⟩ := a4r (l := z.lo) h1 rfl
   split at h
   ·split at h
    ·obtain ⟨l, c, e⟩ := b0P h; exact ⟨l, c, e⟩
    ·cases h
   ·obtain ⟨l, c, e⟩ := b0P h; exact ⟨l, c, e⟩
theorem b0Q {k w : Int} {ag : List Int} {f : F8} (h : a8x gs k ag w = some f) : f.why = w /\ f.ends = false := by
 unfold a8x at h
 obtain ⟨g, _, h⟩ := Option.bind_eq_some_iff.1 h
 split at h
 ·obtain ⟨l, c, rfl⟩ := b0P h; exact ⟨rfl, rfl⟩
 ·cases h
theorem a8D {x : F8} {m : Option Int} (h : AG gs m x x.lo) : ∃ l, x = { x with lo := l } /\ l.length = x.lo.length /\ AG gs m x l := ⟨x.lo, rfl, rfl, h⟩
def b6g (A : List F8) : Prop := ∀ z r, A = z :: r -> z.ends = false
theorem b4L : ∀ {m : Option Int} {A B : List F8} {ps : List a1c} {u : Option Int × List F8 × List a1c}, a7b gs A ps = some u -> RA gs m A B -> ∃ B', a7b gs B ps = some (u.1, B', u.2.2) /\ RA gs none u.2.1 B' /\ b6g u.2.1
 | _, [], B, ps, u, h, _ => by cases h
 | m, x :: r, y :: s, ps, u, h, hR => by
   obtain ⟨⟨l, rfl, h2, h3⟩, h4⟩ := hR
   cases hz : x.wa with
   | cons d df =>
     obtain ⟨F, k1, rfl⟩ := a9L hz h
     obtain ⟨w1, w2⟩ := b0Q k1
     refine ⟨F :: { { x with lo := l } with wa := df } :: s, ?_, ⟨a8D (.inr fun _ _ => rfl), ⟨l, rfl, h2, ?_⟩, h4⟩, fun z r e => by cases e; exact w2⟩
     ·unfold a7b; simp only [hz, k1, Option.bind_some]
     ·rw [w1]; exact ⟨fun e => absurd e zD, fun _ e => absurd rfl e⟩
   | nil =>
     obtain ⟨q, k1, k2, k3⟩ := b1N hz h
     cases r with
     | nil =>
       cases s with
       | cons _ _ => exact absurd h4 (by simp [RA])
       | nil =>
       obtain ⟨v, k4, rfl⟩ := k2 rfl
       refine ⟨[], ?_, trivial, fun z r e => by cases e⟩
       unfold a7b; simp only [hz, k1, Option.bind_some, k4]; rfl
     | cons x2 r2 =>
       cases s with
       | nil => exact absurd h4 (by simp [RA])
       | cons y2 s2 =>
       obtain ⟨B', e1, e2, e3⟩ := b4L (k3 zS) h4
       refine ⟨B', ?_, e2, e3⟩
       unfold a7b; simp only [hz, k1, Option.bind_some]; exact e1
theorem b9z {x x' : F8} {l : List Int} {v : Int} (h : x.back gs v = some x') (hl : l.length = x.lo.length) (ha : ∀ k, LW gs x k -> x.lo[k]? = l[k]?) : x'.ends = x.ends /\ x'.why = x.why /\ ∃ b, ({ x with lo := l } : F8).back gs v = some { x' with lo := b } /\ b.length = x'.lo.length /\ ∀ k, LI gs x'.f x'.pc k -> x'.lo[k]? = b[k]? := by
 unfold F8.back at h ⊢
 obtain ⟨g, h1, h⟩ := Option.bind_eq_some_iff.1 h
 obtain ⟨n, h2, h⟩ := Option.bind_eq_some_iff.1 h
 obtain ⟨a, b, rfl, e1, e2, e3⟩ := a4r (x := { x with pc := n.Next }) (l := l) h hl
 refine ⟨rfl, rfl, b, ?_, e2, fun k hk => e3 k ?_⟩
 ·show (m0 gs x.f).bind _ = _
  rw [h1, Option.bind_some]
  show (m0 g.Nodes x.pc).bind _ = _
  rw [h2, Option.bind_some]
  exact e1
 ·by_cases hd : (k : Int) = n.D
  ·exact .inl hd
  ·exact .inr (ha k ⟨g, n, h1, h2, hd, hk⟩)
theorem a4C : ∀ (r : List F8) {x : F8} {B : List F8} {ps : List a1c} {u : RO8}, a2M gs (x :: r) ps = some u -> RA gs none (x :: r) B -> ∃ B', a2M gs B ps = some ⟨u.en, u.push, B', u.ps⟩ /\ RA gs none u.A B' /\ b6g u.A
 | r, x, [], ps, u, h, hR => absurd hR (by simp [RA])
 | r, x, y :: s, ps, u, h, hR => by
   have hR0 := hR
   obtain ⟨⟨l, rfl, h2, h3⟩, h4⟩ := hR
   rcases Bool.eq_false_or_eq_true x.ends with he | he
   rotate_left
   ·have := b1O he h
    subst this
    exact ⟨_, by unfold a2M; rw [if_pos he], hR0, fun z r e => by cases e; exact he⟩
   have hen : ¬ x.ends = false := by simp [he]
   obtain ⟨d, df, hz⟩ | hz : (∃ d df, x.wa = d :: df) \/ x.wa = [] := by cases x.wa <;> simp
   ·obtain ⟨F, k1, rfl⟩ := a9N he hz h
    obtain ⟨w1, w2⟩ := b0Q k1
    refine ⟨F :: { { x with lo := l } with wa := df } :: s, ?_, ⟨a8D (.inr fun _ _ => rfl), ⟨l, rfl, h2, ?_⟩, h4⟩, fun z r e => by cases e; exact w2⟩
    ·unfold a2M; rw [if_neg hen]; simp only [hz, k1, Option.map_some]
    ·rw [w1]; exact ⟨fun e => absurd e zD, fun _ _ => he⟩
   ·cases r with
    | nil =>
      cases s with
      | cons _ _ => exact absurd h4 (by simp [RA])
      | nil =>
      have := a9O he hz h
      subst this
      exact ⟨[], by unfold a2M; rw [if_neg hen]; simp only [hz], trivial, fun z r e => by cases e⟩
    | cons x2 t =>
      cases s with
      | nil => exact absurd h4 (by simp [RA])
      | cons y2 t2 =>
      obtain ⟨⟨l2, rfl, q2, q3⟩, q4⟩ := h4
      rcases a9P he hz h with ⟨w0, x3, b1, hs⟩ | ⟨w0, a, l0, rfl, hs⟩ | ⟨w0, w1, hs⟩
      ·obtain ⟨c1, c2, b, c3, c4, c5⟩ := b9z b1 q2 (q3.1 w0)
       have hR2 : RA gs none (x3 :: t) ({ x3 with lo := b } :: t2) := ⟨⟨b, rfl, c4, .inr c5⟩, by rw [c2]; exact q4⟩
       obtain ⟨B', e1, e2, e3⟩ := a4C t hs hR2
       refine ⟨B', ?_, e2, e3⟩
       unfold a2M; rw [if_neg hen]; simp only [hz]; rw [if_pos w0]
       show (match ({ x2 with lo := l2 } : F8).back gs x.ret with | some y1 => a2M gs (y1 :: t2) ps | none => none) = _
       rw [c3]; exact e1
      ·rcases hs with ⟨ha, v, kv, hs⟩ | ⟨ha, w, kw, rfl⟩
       ·have hR2 : RA gs none ({ x2 with ends := true, ret := v } :: t) ({ { x2 with lo := l2 } with ends := true, ret := v } :: t2) := ⟨⟨l2, rfl, q2, .inl rfl⟩, q4⟩
        obtain ⟨B', e1, e2, e3⟩ := a4C t hs hR2
        refine ⟨B', ?_, e2, e3⟩
        unfold a2M; rw [if_neg hen]; simp only [hz]; rw [if_neg zO, if_pos w0, if_pos ha]
        rw [show a9M gs { x2 with lo := l2 } = a9M gs x2 from rfl, kv, Option.bind_some]; exact e1
       ·obtain ⟨B', e1, e2, e3⟩ := b4L kw (B := { x2 with lo := l2 } :: t2) (m := some x.why) ⟨⟨l2, rfl, q2, q3⟩, q4⟩
        refine ⟨B', ?_, e2, e3⟩
        unfold a2M; rw [if_neg hen]; simp only [hz]; rw [if_neg zO, if_pos w0, if_neg (by simp [ha]), e1]; rfl
      ·have hR2 : RA gs none (x2 :: t) ({ x2 with lo := l2 } :: t2) := ⟨⟨l2, rfl, q2, .inl (q3.2 w0 w1)⟩, q4⟩
       obtain ⟨B', e1, e2, e3⟩ := a4C t hs hR2
       refine ⟨B', ?_, e2, e3⟩
       unfold a2M; rw [if_neg hen]; simp only [hz]; rw [if_neg w0, if_neg w1]; exact e1
 termination_by r => r.length
end
end Go.Proofs.YtipeiholgieclaaDoor

/- Two runs that agree in what is live go the same way: one node, the run. -/
namespace Go.Proofs.YtipeiholgieclaaDoor
open Go Go.Ab Go.RowKit
set_option maxRecDepth 20000
section
variable {gs : List b5} {g : b5} {n : f6} {x : F8} {l : List Int} {r r2 : List F8} {s : S8}
theorem b9A (hF : a4q gs g x) (hn : m0 g.Nodes x.pc = some n) (hA : ∀ k, LI gs x.f x.pc k -> x.lo[k]? = l[k]?) {k : Int} (hk : k ∈ a6a n) (h0 : 0 <= k) (h1 : k.toNat < x.lo.length) : x.lo[k.toNat]? = l[k.toNat]? := by
 refine hA _ ⟨g, hF.mem, .read (by have := hF.pc; omega) (by rw [<- hF.ll]; exact h1) ?_⟩
 unfold rdR
 rw [(i8 hn).2.2]
 rw [show ((k.toNat : Nat) : Int) = k by omega]
 exact hk
theorem c4S (hF : a4q gs g x) (hn : m0 g.Nodes x.pc = some n) {to : Int} (ht : to ∈ a0O n) (h0 : 0 <= to) {k : Nat} (hk : LI gs x.f to k) (hw : (k : Int) ∉ a6b n) : LI gs x.f x.pc k := by
 obtain ⟨g', h1, h2⟩ := hk
 rw [hF.mem] at h1; cases h1
 refine ⟨g, hF.mem, .step (to := to.toNat) (by have := hF.pc; omega) ?_ h2 ?_⟩
 ·unfold nxt
  rw [(i8 hn).2.2]
  rw [show ((to.toNat : Nat) : Int) = to by omega]
  exact ht
 ·unfold wrR
  rw [(i8 hn).2.2]
  exact hw
theorem c6V (hF : a4q gs g x) (hn : m0 g.Nodes x.pc = some n) (hnn : ∀ to ∈ a0O n, 0 <= to) (hA : ∀ k, LI gs x.f x.pc k -> x.lo[k]? = l[k]?) (hR : RA gs (some x.why) r r2) {x' : F8} {b : List Int} (hf : x'.f = x.f) (hw : x'.why = x.why) (he : x'.ends = false) (hto : x'.pc ∈ a0O n) (hb : b.length = x'.lo.length)
  (hab : ∀ j : Nat, ((j : Int) ∈ a6b n \/ x.lo[j]? = l[j]?) -> x'.lo[j]? = b[j]?) : RA gs none (x' :: r) ({ x' with lo := b } :: r2) /\ b6g (x' :: r) := by
 refine ⟨⟨⟨b, rfl, hb, .inr fun k hk => hab k ?_⟩, by rw [hw]; exact hR⟩, fun z t e => by cases e; exact he⟩
 by_cases h : (k : Int) ∈ a6b n
 ·exact .inl h
 ·rw [hf] at hk
  exact .inr (hA k (c4S hF hn hto (hnn _ hto) hk h))
theorem c6W (hF : a4q gs g x) (hn : m0 g.Nodes x.pc = some n) (hnb : a2h gs g n = true) (he : x.ends = false) (hl : l.length = x.lo.length) (hA : ∀ k, LI gs x.f x.pc k -> x.lo[k]? = l[k]?) (hR : RA gs (some x.why) r r2) {t : S8 × List F8} (hv : b7a gs s x r n = some t) :
  ∃ B, b7a gs s { x with lo := l } r2 n = some (t.1, B) /\ RA gs none t.2 B /\ b6g t.2 := by
 have hnn : ∀ to ∈ a0O n, 0 <= to := fun to ht => ((a8A hnb).1 to ht).1
 have hlen := a9Q hR
 have hwa := b4I hR
 have hRx : RA gs none (x :: r) ({ x with lo := l } :: r2) := ⟨⟨l, rfl, hl, .inr hA⟩, hR⟩
 have hrd : ∀ {k v : Int}, x.get k = some v -> k ∈ a6a n -> ({ x with lo := l } : F8).get k = some v := fun h hk => b7g h (b9A hF hn hA hk (b4K h).1 (b4K h).2)
 have hpan : ∀ {v : Int} {t : S8 × List F8}, b2D gs s (x :: r) v = some t -> ∃ B, b2D gs s ({ x with lo := l } :: r2) v = some (t.1, B) /\ RA gs none t.2 B /\ b6g t.2 := fun {v t} h => by
  obtain ⟨u, h1, rfl⟩ := Option.map_eq_some_iff.1 h
  obtain ⟨B', e1, e2, e3⟩ := b4L h1 hRx
  refine ⟨B', ?_, e2, e3⟩
  unfold b2D
  rw [e1]
  simp only [Option.map_some, a9Q e2]
 have hset : ∀ {y : F8} {u : RO8}, a2M gs (y :: r) s.pans = some u -> y.ends = true -> y.why = x.why -> ∀ {m : List Int}, m.length = y.lo.length -> ∃ B, (a2M gs ({ y with lo := m } :: r2) s.pans).map (fun u => (s.ret u, u.A)) = some (s.ret u, B) /\ RA gs none u.A B /\ b6g u.A := fun {y u} h h1 h2 {m} hm => by
  obtain ⟨B', e1, e2, e3⟩ := a4C r h (B := { y with lo := m } :: r2) ⟨⟨m, rfl, hm, .inl h1⟩, by rw [h2]; exact hR⟩
  refine ⟨B', ?_, e2, e3⟩
  rw [e1]
  simp only [Option.map_some, S8.ret, a9Q e2]
 have hgo := @c6V gs g n x l r r2 hF hn hnn hA hR
 unfold b7a nx8 at hv ⊢
 by_cases h : n.Op = 1
 ·rw [if_pos h] at hv ⊢
  obtain ⟨z1, h2, rfl⟩ := Option.map_eq_some_iff.1 hv
  obtain ⟨a, b, rfl, e1, e2, e3⟩ := a4r h2 hl
  exact ⟨_, by rw [e1]; rfl, hgo rfl rfl he (by simp [a0O, h]) e2 (fun j hj => e3 j (by simpa [a6b, h] using hj))⟩
 rw [if_neg h] at hv ⊢; have n1 := h; clear h
 by_cases h : n.Op = 2
 ·rw [if_pos h] at hv ⊢
  obtain ⟨v, g1, hv⟩ := Option.bind_eq_some_iff.1 hv
  obtain ⟨z1, h2, rfl⟩ := Option.map_eq_some_iff.1 hv
  obtain ⟨a, b, rfl, e1, e2, e3⟩ := a4r h2 hl
  exact ⟨_, by rw [hrd g1 (by simp [a6a, h]), Option.bind_some, e1]; rfl, hgo rfl rfl he (by simp [a0O, h]) e2 (fun j hj => e3 j (by simpa [a6b, h] using hj))⟩
 rw [if_neg h] at hv ⊢; have n2 := h; clear h
 by_cases h : n.Op = 3
 ·rw [if_pos h] at hv ⊢
  obtain ⟨va, g1, hv⟩ := Option.bind_eq_some_iff.1 hv
  obtain ⟨vb, g2, hv⟩ := Option.bind_eq_some_iff.1 hv
  obtain ⟨w, g3, hv⟩ := Option.bind_eq_some_iff.1 hv
  rw [hrd g1 (by simp [a6a, h]), Option.bind_some, hrd g2 (by simp [a6a, h]), Option.bind_some, g3, Option.bind_some]
  by_cases h0 : w.2 = 0
  ·rw [if_pos h0] at hv ⊢
   obtain ⟨z1, h2, rfl⟩ := Option.map_eq_some_iff.1 hv
   obtain ⟨a, b, rfl, e1, e2, e3⟩ := a4r h2 hl
   exact ⟨_, by rw [e1]; rfl, hgo rfl rfl he (by simp [a0O, h]) e2 (fun j hj => e3 j (by simpa [a6b, h] using hj))⟩
  ·rw [if_neg h0] at hv ⊢
   exact hpan hv
 rw [if_neg h] at hv ⊢; have n3 := h; clear h
 by_cases h : n.Op = 4
 ·rw [if_pos h] at hv ⊢
  obtain ⟨v, g1, hv⟩ := Option.bind_eq_some_iff.1 hv
  obtain ⟨z1, h2, rfl⟩ := Option.map_eq_some_iff.1 hv
  obtain ⟨a, b, rfl, e1, e2, e3⟩ := a4r h2 hl
  exact ⟨_, by rw [g1, Option.bind_some, e1]; rfl, hgo rfl rfl he (by simp [a0O, h]) e2 (fun j hj => e3 j (by simpa [a6b, h] using hj))⟩
 rw [if_neg h] at hv ⊢; have n4 := h; clear h
 by_cases h : n.Op = 5
 ·rw [if_pos h] at hv ⊢
  obtain ⟨v, g1, hv⟩ := Option.bind_eq_some_iff.1 hv
  obtain ⟨w, g2, rfl⟩ := Option.map_eq_some_iff.1 hv
  exact ⟨_, by rw [hrd g1 (by simp [a6a, h]), Option.bind_some, g2]; rfl, hgo (b := l) rfl rfl he (by simp [a0O, h]) hl (fun j hj => hj.resolve_left (by simp [a6b, h]))⟩
 rw [if_neg h] at hv ⊢; have n5 := h; clear h
 by_cases h : n.Op = 6
 ·rw [if_pos h] at hv ⊢
  obtain ⟨z1, h2, rfl⟩ := Option.map_eq_some_iff.1 hv
  obtain ⟨a, b, rfl, e1, e2, e3⟩ := a4r h2 hl
  exact ⟨_, by rw [hlen, e1]; rfl, hgo rfl rfl he (by simp [a0O, h]) e2 (fun j hj => e3 j (by simpa [a6b, h] using hj))⟩
 rw [if_neg h] at hv ⊢; have n6 := h; clear h
 by_cases h : n.Op = 7
 ·rw [if_pos h] at hv ⊢
  obtain ⟨p, g1, hv⟩ := Option.bind_eq_some_iff.1 hv
  rw [hrd g1 (by simp [a6a, h]), Option.bind_some, b4J hRx]
  cases hc : a2K (x :: r) p with
  | some c =>
    rw [hc] at hv
    obtain ⟨z1, h2, rfl⟩ := Option.map_eq_some_iff.1 hv
    obtain ⟨a, b, rfl, e1, e2, e3⟩ := a4r h2 hl
    exact ⟨_, by simp only [e1]; rfl, hgo rfl rfl he (by simp [a0O, h]) e2 (fun j hj => e3 j (by simpa [a6b, h] using hj))⟩
  | none =>
    rw [hc] at hv
    dsimp only at hv ⊢
    split at hv
    ·rename_i hp; rw [if_pos hp]; exact hpan hv
    ·cases hv
 rw [if_neg h] at hv ⊢; have n7 := h; clear h
 by_cases h : n.Op = 8
 ·rw [if_pos h] at hv ⊢
  obtain ⟨p, g1, hv⟩ := Option.bind_eq_some_iff.1 hv
  rw [hrd g1 (by simp [a6a, h]), Option.bind_some, b4J hRx]
  cases hc : a2K (x :: r) p with
  | some c =>
    rw [hc] at hv
    obtain ⟨v, g2, rfl⟩ := Option.map_eq_some_iff.1 hv
    have hx1 := hgo (x' := { x with pc := n.Next }) (b := l) rfl rfl he (by simp [a0O, h]) hl (fun j hj => hj.resolve_left (by simp [a6b, h]))
    have hm := b7f (k := c.2.1) (v := v) ((x :: r).length - 1 - c.1) hx1.1
    have hst : ∀ (y : F8) (q : List F8) (j : Nat), a5t n.Next ((y :: q).modify j (b0I c.2.1 v)) = ({ y with pc := n.Next } :: q).modify j (b0I c.2.1 v) := fun y q j => by
     cases j with
     | zero => rfl
     | succ j => rw [List.modify_succ_cons, List.modify_succ_cons]; rfl
    refine ⟨a5t n.Next (a4p ({ x with lo := l } :: r2) c.1 c.2.1 v), by simp only [hrd g2 (show n.B ∈ a6a n by simp [a6a, h]), Option.map_some], ?_, ?_⟩
    ·show RA gs none (a5t n.Next ((x :: r).modify ((x :: r).length - 1 - c.1) (b0I c.2.1 v))) (a5t n.Next (({ x with lo := l } :: r2).modify (({ x with lo := l } :: r2).length - 1 - c.1) (b0I c.2.1 v)))
     rw [hst, hst, show ({ x with lo := l } :: r2 : List F8).length = (x :: r).length by simp [hlen]]
     exact hm
    ·show b6g (a5t n.Next ((x :: r).modify ((x :: r).length - 1 - c.1) (b0I c.2.1 v)))
     rw [hst]
     intro z q e
     cases hj : (x :: r).length - 1 - c.1 with
     | zero => rw [hj] at e; cases e; exact he
     | succ j => rw [hj, List.modify_succ_cons] at e; cases e; exact he
  | none =>
    rw [hc] at hv
    dsimp only at hv ⊢
    split at hv
    ·rename_i hp; rw [if_pos hp]; exact hpan hv
    ·cases hv
 rw [if_neg h] at hv ⊢; have n8 := h; clear h
 by_cases h : n.Op = 9
 ·rw [if_pos h] at hv ⊢
  obtain ⟨v, g1, rfl⟩ := Option.map_eq_some_iff.1 hv
  refine ⟨_, by rw [hrd g1 (by simp [a6a, h])]; rfl, hgo (x' := { x with pc := if v = 0 then n.Else else n.Next }) (b := l) rfl rfl he ?_ hl (fun j hj => hj.resolve_left (by simp [a6b, h]))⟩
  by_cases hee : n.Else = n.Next
  ·simp [a0O, h, hee]
  ·rw [show a0O n = [n.Next, n.Else] by unfold a0O; simp [h, hee]]
   show (if v = 0 then n.Else else n.Next) ∈ _
   split <;> simp
 rw [if_neg h] at hv ⊢; have n9 := h; clear h
 by_cases h : n.Op = 10
 ·rw [if_pos h] at hv ⊢
  cases hv
  exact ⟨_, rfl, hgo (b := l) rfl rfl he (by simp [a0O, h]) hl (fun j hj => hj.resolve_left (by simp [a6b, h]))⟩
 rw [if_neg h] at hv ⊢; have n10 := h; clear h
 by_cases h : n.Op = 11
 ·rw [if_pos h] at hv ⊢
  obtain ⟨ag, g1, hv⟩ := Option.bind_eq_some_iff.1 hv
  obtain ⟨F, g2, rfl⟩ := Option.map_eq_some_iff.1 hv
  obtain ⟨w1, w2⟩ := b0Q g2
  have g3 := b0O g1 (l := l) (fun k hk => b9A hF hn hA (by simp [a6a, h, hk]))
  refine ⟨F :: { { x with kp := some (List.replicate 16 0) } with lo := l } :: r2, by rw [g3, Option.bind_some, g2, Option.map_some, hlen], ⟨a8D (.inr fun _ _ => rfl), ⟨l, rfl, hl, ?_⟩, hR⟩, fun z q e => by cases e; exact w2⟩
  rw [w1]
  refine ⟨fun _ k hk => ?_, fun e => absurd rfl e⟩
  obtain ⟨g', n', q1, q2, q3, q4⟩ := hk
  rw [show ({ x with kp := some (List.replicate 16 0) } : F8).f = x.f from rfl, hF.mem] at q1; cases q1
  rw [show ({ x with kp := some (List.replicate 16 0) } : F8).pc = x.pc from rfl, hn] at q2; cases q2
  exact hA k (c4S hF hn (by simp [a0O, h]) (hnn _ (by simp [a0O, h])) q4 (by simp [a6b, h]; exact q3))
 rw [if_neg h] at hv ⊢; have n11 := h; clear h
 by_cases h : n.Op = 12
 ·rw [if_pos h] at hv ⊢
  by_cases hA0 : 0 <= n.A
  ·rw [if_pos hA0] at hv ⊢
   obtain ⟨v, g1, hv⟩ := Option.bind_eq_some_iff.1 hv
   obtain ⟨u, g2, rfl⟩ := Option.map_eq_some_iff.1 hv
   rw [hrd g1 (by simp [a6a, h]), Option.bind_some]
   exact hset g2 rfl rfl hl
  ·rw [if_neg hA0] at hv ⊢
   obtain ⟨u, g2, rfl⟩ := Option.map_eq_some_iff.1 hv
   exact hset g2 rfl rfl hl
 rw [if_neg h] at hv ⊢; have n12 := h; clear h
 by_cases h : n.Op = 13
 ·rw [if_pos h] at hv ⊢
  obtain ⟨ag, g1, rfl⟩ := Option.map_eq_some_iff.1 hv
  have g3 := b0O g1 (l := l) (fun k hk => b9A hF hn hA (by simp [a6a, h, hk]))
  have hw9 : waS ({ x with lo := l } :: r2) = waS (x :: r) := b4I hRx
  exact ⟨_, by rw [g3, hw9]; rfl, hgo (b := l) rfl rfl he (by simp [a0O, h]) hl (fun j hj => hj.resolve_left (by simp [a6b, h]))⟩
 rw [if_neg h] at hv ⊢; have n13 := h; clear h
 by_cases h : n.Op = 14
 ·rw [if_pos h] at hv ⊢
  obtain ⟨v, g1, hv⟩ := Option.bind_eq_some_iff.1 hv
  rw [hrd g1 (by simp [a6a, h]), Option.bind_some]
  exact hpan hv
 rw [if_neg h] at hv ⊢; have n14 := h; clear h
 by_cases h : n.Op = 15
 ·rw [if_pos h] at hv ⊢
  have h2s : ∀ {va vb : Int} {s' : S8} {t : S8 × List F8}, ((x.set n.D va).bind fun x1 => (x1.set n.E vb).map fun y => (s', ({ y with pc := n.Next } : F8) :: r)) = some t ->
    ∃ B, ((({ x with lo := l } : F8).set n.D va).bind fun x1 => (x1.set n.E vb).map fun y => (s', ({ y with pc := n.Next } : F8) :: r2)) = some (t.1, B) /\ RA gs none t.2 B /\ b6g t.2 := fun {va vb s' t} hq => by
   obtain ⟨z1, q1, hq⟩ := Option.bind_eq_some_iff.1 hq
   obtain ⟨z2, q2, rfl⟩ := Option.map_eq_some_iff.1 hq
   obtain ⟨a, b, rfl, e1, e2, e3⟩ := a4r q1 hl
   obtain ⟨a2, b2, rfl, e4, e5, e6⟩ := a4r (x := { x with lo := a }) (l := b) q2 e2
   refine ⟨_, by rw [e1, Option.bind_some, e4]; rfl, hgo rfl rfl he (by simp [a0O, h]) e5 (fun j hj => e6 j ?_)⟩
   by_cases hj2 : (j : Int) = n.E
   ·exact .inl hj2
   ·exact .inr (e3 j (by simpa [a6b, h, hj2] using hj))
  by_cases hw : x.why = 2
  ·rw [if_pos hw] at hv
   rw [if_pos (show ({ x with lo := l } : F8).why = 2 from hw)]
   cases hp : s.pans with
   | nil => rw [hp] at hv; cases hv
   | cons a l0 =>
     rw [hp] at hv
     dsimp only at hv ⊢
     by_cases hr : a.rcv = true
     ·rw [if_pos hr] at hv ⊢; exact h2s hv
     ·rw [if_neg hr] at hv ⊢; exact h2s hv
  ·rw [if_neg hw] at hv
   rw [if_neg (show ¬ ({ x with lo := l } : F8).why = 2 from hw)]
   exact h2s hv
 rw [if_neg h] at hv ⊢; have n15 := h; clear h
 by_cases h : n.Op = 16
 ·rw [if_pos h] at hv ⊢
  obtain ⟨z1, h2, rfl⟩ := Option.map_eq_some_iff.1 hv
  obtain ⟨a, b, rfl, e1, e2, e3⟩ := a4r h2 hl
  exact ⟨_, by rw [e1]; rfl, hgo rfl rfl he (by simp [a0O, h]) e2 (fun j hj => e3 j (by simpa [a6b, h] using hj))⟩
 rw [if_neg h] at hv ⊢; have n16 := h; clear h
 by_cases h : n.Op = 17
 ·rw [if_pos h] at hv ⊢
  obtain ⟨v, g1, rfl⟩ := Option.map_eq_some_iff.1 hv
  exact ⟨_, by rw [hrd g1 (by simp [a6a, h])]; rfl, hgo (b := l) rfl rfl he (by simp [a0O, h]) hl (fun j hj => hj.resolve_left (by simp [a6b, h]))⟩
 rw [if_neg h] at hv ⊢; have n17 := h; clear h
 have h18 : n.Op = 18 := by
  have hop := (a8A hnb).2
  unfold opB at hop
  by_cases h : n.Op = 18
  ·exact h
  ·simp [h, n1, n2, n3, n4, n5, n6, n7, n8, n9, n10, n11, n12, n13, n14, n15, n16, n17] at hop
 obtain ⟨v, g1, rfl⟩ := Option.map_eq_some_iff.1 hv
 exact ⟨_, by rw [hrd g1 (by simp [a6a, h18])]; rfl, hRx, fun z q e => by cases e; exact he⟩
def jr8 (gs : List b5) (J : F8 -> List Int) : Nat -> S8 × List F8 -> Option (S8 × List F8)
 | 0, t => if t.1.ek ≠ 0 then some t else some ({ t.1 with ek := 3 }, t.2)
 | m + 1, t => if t.1.ek ≠ 0 then some t else match t.2 with
   | [] => none
   | z :: r => (st8 gs t.1 ({ z with lo := J z } :: r)).bind (jr8 gs J m)
def b6h (gs : List b5) (J : F8 -> List Int) : Nat -> S8 × List F8 -> Prop
 | 0, _ => True
 | m + 1, t => t.1.ek = 0 -> ∃ z r, t.2 = z :: r /\ m0 gs z.f ≠ none /\ (∃ g, m0 gs z.f = some g /\ z.lo.length = g.Kinds.length /\ 0 <= z.pc /\ z.pc < g.Nodes.length) /\ Bd8 gs t.1 ({ z with lo := J z } :: r) /\ ∀ t', st8 gs t.1 ({ z with lo := J z } :: r) = some t' -> t'.1.steps = t.1.steps + 1 /\ b6h gs J m t'
theorem b4M (G : a3L gs) {J : F8 -> List Int} (hJ1 : ∀ z : F8, (J z).length = z.lo.length) (hJ2 : ∀ z k, 0 <= z.pc -> LI gs z.f z.pc k -> (J z)[k]? = z.lo[k]?) : ∀ (m k : Nat) {s : S8} {A B : List F8}, s.evs.length <= k -> (s.ek = 0 -> a3G gs k s A /\ b6g A) -> RA gs none A B -> k + m <= 2097152 -> 0 <= s.steps /\ s.steps <= k ->
  b4A gs m (s, A) /\ b6h gs J m (s, B) /\ ∃ a b, b0J gs m (s, A) = some a /\ jr8 gs J m (s, B) = some b /\ b.1 = a.1 /\ a.1.evs.length <= k + m
 | 0, k, s, A, B, he, hT, hR, hk, hst => by
   refine ⟨trivial, trivial, ?_⟩
   unfold b0J jr8
   by_cases h : s.ek = 0
   ·rw [if_neg (by simpa using h), if_neg (by simpa using h)]; exact ⟨_, _, rfl, rfl, rfl, he⟩
   ·rw [if_pos h, if_pos h]; exact ⟨_, _, rfl, rfl, rfl, he⟩
 | m + 1, k, s, A, B, he, hT, hR, hk, hst => by
   by_cases h : s.ek = 0
   ·obtain ⟨T, hE⟩ := hT h
    obtain ⟨t, h1, h2, h3, h4⟩ := c6U G T h
    cases A with
    | nil => exact absurd rfl T.top
    | cons x r =>
    cases B with
    | nil => exact absurd hR (by simp [RA])
    | cons y r2 =>
    obtain ⟨⟨l, rfl, q2, q3⟩, q4⟩ := hR
    have hex := hE x r rfl
    have hA : ∀ k, LI gs x.f x.pc k -> x.lo[k]? = l[k]? := q3.resolve_left (by simp [hex])
    obtain ⟨g, hF⟩ := T.rt.1.fr
    obtain ⟨i, hi, him, hnb, hiw⟩ := a8B G hF
    have hl2 : (J { x with lo := l }).length = x.lo.length := (hJ1 _).trans q2
    have hA2 : ∀ k, LI gs x.f x.pc k -> x.lo[k]? = (J { x with lo := l })[k]? := fun k hk => (hA k hk).trans (hJ2 { x with lo := l } k hF.pc.1 hk).symm
    have h1' := h1
    unfold st8 at h1'
    simp only [hF.mem, Option.bind_some, hi] at h1'
    obtain ⟨B', e1, e2, e3⟩ := c6W hF hi hnb hex hl2 hA2 q4 h1'
    have hstep : st8 gs s ({ { x with lo := l } with lo := J { x with lo := l } } :: r2) = some (t.1, B') := by
     unfold st8
     simp only [hF.mem, Option.bind_some, hi]
     exact e1
    have hBd := T.bd G zO h ⟨hst.1, by omega⟩
    have hbd2 : Bd8 gs s ({ { x with lo := l } with lo := J { x with lo := l } } :: r2) := by
     have hRA2 : RA gs none (x :: r) ({ { x with lo := l } with lo := J { x with lo := l } } :: r2) := ⟨⟨_, rfl, hl2, .inr hA2⟩, q4⟩
     refine ⟨hBd.ok, h, hBd.st, by rw [a9Q hRA2]; exact hBd.rn, hBd.pn, hBd.dep, fun z hz => ?_, by rw [b4I hRA2]; exact hBd.wa, hBd.ev⟩
     have := b9w hz
     have h9 := hBd.wa
     rw [b4I hRA2] at this
     have := T.lv
     omega
    have ih := b4M G hJ1 hJ2 m (k + 1) (s := t.1) (A := t.2) (B := B') h3 (fun h0 => ⟨h4 h0, e3⟩) e2 zO zO
    obtain ⟨i1, i2, a, b, i3, i4, i5, i6⟩ := ih
    refine ⟨fun _ => ⟨hBd, fun t' ht' => ?_⟩, fun _ => ⟨{ x with lo := l }, r2, rfl, (by rw [show ({ x with lo := l } : F8).f = x.f from rfl, hF.mem]; simp), ⟨g, hF.mem, q2.trans hF.ll, hF.pc⟩, hbd2, fun t' ht' => ?_⟩, a, b, ?_, ?_, i5, by omega⟩
    ·rw [h1] at ht'; cases ht'; exact ⟨h2, i1⟩
    ·rw [hstep] at ht'; cases ht'; exact ⟨h2, i2⟩
    ·unfold b0J; rw [if_neg (by simpa using h)]; simp only [h1, Option.bind_some]; exact i3
    ·unfold jr8; rw [if_neg (by simpa using h)]; simp only [hstep, Option.bind_some]; exact i4
   ·refine ⟨fun h0 => absurd h0 h, fun h0 => absurd h0 h, (s, A), (s, B), ?_, ?_, rfl, by show s.evs.length <= _; omega⟩
    ·unfold b0J; rw [if_pos h]
    ·unfold jr8; rw [if_pos h]
end
end Go.Proofs.YtipeiholgieclaaDoor

/- LiveRest: the walk of the law (printed by mkE1.py). -/
namespace Go.Proofs.YtipeiholgieclaaDoor
open Go Go.Ab
set_option maxRecDepth 20000
set_option maxHeartbeats 2000000
noncomputable def fc8 : FC := fcO 8
theorem fn8 : Fn3 Tryd.prog 8 4 [] fc8 := ⟨_, _, Tryd.func8, rfl, rfl, rfl, by kernel_rfl⟩
def d0U : FC := .reg [⟨(some 3), none, .op (.box (.t 0))⟩,  ⟨(some 6), none, .op (.mv (.v (.bool false)))⟩] []
def d0V : FC := .reg [⟨(some 15), none, .call 4 []⟩,  ⟨(some 16), none, .op (.un .not (.t 15))⟩] []
def d0W : FC := .reg [⟨(some 6), none, .op (.mv (.v (.bool false)))⟩] []
def d0X : FC := .seq d0W FC.ret
def d0Y : FC := .cond (.t 16) d0X FC.skip
def d0Z : FC := .seq d0V d0Y
def d1a : FC := .reg [⟨(some 17), none, .op (.load (some 1) (.t 3))⟩,  ⟨(some 18), none, .call 5 [(.t 17), (.v (.bool false))]⟩,  ⟨(some 19), none, .op (.un .not (.t 18))⟩] []
def d1b : FC := .reg [⟨(some 6), none, .op (.mv (.v (.bool true)))⟩] []
def d1c : FC := .seq d1b FC.ret
def c6X : FC := .cond (.t 19) d1c FC.skip
def c6Y : FC := .seq d1a c6X
def c6Z : FC := .reg [⟨(some 7), none, .op (.mv (.v .nils))⟩] []
def c7a : FC := .reg [⟨(some 20), none, .op (.fad 0 (.t 3))⟩,  ⟨(some 21), none, .op (.load none (.t 20))⟩,  ⟨(some 22), none, .op (.len .sl (.t 21))⟩,  ⟨(some 23), none, .op (.mv (.v (.int .i64 0)))⟩] []
def c7b : FC := .reg [⟨(some 25), none, .op (.mv (.t 23))⟩,  ⟨(some 8), none, .op (.mv (.t 25))⟩] []
def c7c : FC := .reg [⟨(some 27), none, .op (.load (some 1) (.t 3))⟩,  ⟨(some 28), none, .op (.mv (.t 8))⟩,  ⟨(some 29), none, .call 6 [(.t 27), (.t 28)]⟩,  ⟨(some 26), none, .op (.mv (.t 29))⟩,  ⟨(some 30), none, .op (.ext 0 (.t 26))⟩,  ⟨(some 31), none, .op (.ext 1 (.t 26))⟩,  ⟨(some 9), none, .op (.mv (.t 30))⟩,  ⟨(some 10), none, .op (.mv (.t 31))⟩] []
def c7d : FC := .reg [⟨(some 32), none, .op (.mv (.t 10))⟩,  ⟨(some 33), none, .op (.bin .none .neq (.t 32) (.v (.int .i64 0)))⟩,  ⟨(some 34), none, .op (.mv (.t 33))⟩,  ⟨(some 35), some (34, false), .op (.mv (.t 9))⟩,  ⟨(some 36), some (34, false), .op (.len .sl (.t 35))⟩,  ⟨(some 37), some (34, false), .op (.fad 0 (.t 3))⟩,  ⟨(some 38), some (34, false), .op (.load none (.t 37))⟩,  ⟨(some 39), some (34, false), .op (.mv (.t 8))⟩,  ⟨(some 40), some (34, false), .op (.iad none (some 8) (.t 38) (.t 39))⟩,  ⟨(some 41), some (34, false), .op (.fad 6 (.t 40))⟩,  ⟨(some 42), some (34, false), .op (.load none (.t 41))⟩,  ⟨(some 43), some (34, false), .op (.len .sl (.t 42))⟩,  ⟨(some 44), some (34, false), .op (.bin .none .neq (.t 36) (.t 43))⟩,  ⟨(some 45), none, .op (.pick (.t 34) (.v (.bool true)) (.t 44))⟩] []
def c7e : FC := .reg [⟨(some 6), none, .op (.mv (.v (.bool false)))⟩] []
def c7f : FC := .seq c7e FC.ret
def c7g : FC := .cond (.t 45) c7f FC.skip
def c7h : FC := .seq c7d c7g
def c7i : FC := .reg [⟨(some 46), none, .op (.mv (.t 7))⟩,  ⟨(some 47), none, .op (.mv (.t 9))⟩,  ⟨(some 48), none, .op (.bsl none [.nils] 1 [(0, 1, (.t 47))])⟩,  ⟨(some 49), none, .op (.app none 24 (.t 46) (.t 48))⟩,  ⟨(some 7), none, .op (.mv (.t 49))⟩] []
def c7j : FC := .seq c7h c7i
def c7k : FC := .seq c7c c7j
def c7l : FC := .seq c7b c7k
def c7m : FC := .loop (.seq (.reg [⟨(some 24), none, .op (.bin .none .lss (.t 23) (.t 22))⟩] []) (.seq (.cond (.t 24) .skip (.exit 0)) (.seq (.block 1 c7l) (.reg [⟨(some 50), none, .op (.bin .none .add (.t 23) (.v (.int .i64 1)))⟩,  ⟨(some 23), none, .op (.mv (.t 50))⟩] []))))
def c7n : FC := .block 0 c7m
def c7o : FC := .seq c7a c7n
def c7p : FC := .reg [⟨(some 51), none, .op (.load (some 1) (.t 3))⟩,  ⟨(some 52), none, .op (.mv (.t 1))⟩,  ⟨(some 53), none, .call 7 [(.t 51), (.v (.bool false)), (.t 52), (.v (.int .i64 300))]⟩,  ⟨(some 11), none, .op (.mv (.t 53))⟩] []
def c7q : FC := .reg [⟨(some 54), none, .op (.load (some 1) (.t 3))⟩,  ⟨(some 55), none, .op (.mksl none 8 [(.int .u64 0)] (.v (.int .i64 16)) (.v (.int .i64 16)))⟩,  ⟨(some 56), none, .op (.bsl none [(.int .u64 0)] 0 [])⟩,  ⟨(some 57), none, .op (.mv (.t 1))⟩,  ⟨(some 58), none, .op (.app none 8 (.t 56) (.t 57))⟩,  ⟨(some 59), none, .op (.build [.nils, (.bool false), .nils, .nils, .nils, .nils, .nils, (.int .i64 0), (.int .u64 0), (.int .i64 0), (.int .i64 0), (.int .i64 0), (.int .i64 0)] [(0, 1, (.t 54)), (2, 1, (.t 55)), (5, 1, (.t 58))])⟩,  ⟨(some 60), none, .op (.box (.t 59))⟩,  ⟨(some 12), none, .op (.mv (.t 60))⟩] [(0, 1), (0, 2), (1, 2), (0, 4), (1, 4)]
def c7r : FC := .reg [⟨(some 61), none, .op (.mv (.t 12))⟩,  ⟨(some 62), none, .call 8 [(.t 61)]⟩] []
def c7s : FC := .reg [⟨(some 63), none, .op (.mv (.t 12))⟩,  ⟨(some 64), none, .op (.nchk (.t 63))⟩,  ⟨(some 65), none, .op (.fad 7 (.t 64))⟩,  ⟨(some 66), none, .op (.fad 0 (.t 65))⟩,  ⟨(some 67), none, .op (.load none (.t 66))⟩,  ⟨(some 68), none, .op (.bin .none .eql (.t 67) (.v (.int .i64 0)))⟩] []
def c7t : FC := .cond (.t 68) FC.skip (FC.exit 2)
def c7u : FC := .seq c7s c7t
def c7v : FC := .reg [⟨(some 69), none, .op (.mv (.t 12))⟩,  ⟨(some 70), none, .op (.nchk (.t 69))⟩,  ⟨(some 71), none, .op (.fad 9 (.t 70))⟩,  ⟨(some 72), none, .op (.load none (.t 71))⟩,  ⟨(some 73), none, .op (.bin .none .geq (.t 72) (.v (.int .i64 300)))⟩] []
def c7w : FC := .reg [⟨(some 74), none, .op (.mv (.t 12))⟩,  ⟨(some 75), none, .op (.nchk (.t 74))⟩,  ⟨(some 76), none, .op (.fad 7 (.t 75))⟩,  ⟨(some 77), none, .op (.fad 0 (.t 76))⟩,  ⟨none, none, .op (.store 1 (.t 77) (.v (.int .i64 3)))⟩] []
def c7x : FC := .seq c7w (FC.exit 2)
def c7y : FC := .cond (.t 73) c7x FC.skip
def c7z : FC := .seq c7v c7y
def c7A : FC := .reg [⟨(some 78), none, .op (.mv (.t 12))⟩,  ⟨(some 79), none, .op (.nchk (.t 78))⟩,  ⟨(some 80), none, .op (.fad 3 (.t 79))⟩,  ⟨(some 81), none, .op (.load none (.t 80))⟩,  ⟨(some 82), none, .op (.mv (.t 12))⟩,  ⟨(some 83), none, .op (.nchk (.t 82))⟩,  ⟨(some 84), none, .op (.fad 3 (.t 83))⟩,  ⟨(some 85), none, .op (.load none (.t 84))⟩,  ⟨(some 86), none, .op (.len .sl (.t 85))⟩,  ⟨(some 87), none, .op (.bin .none .sub (.t 86) (.v (.int .i64 1)))⟩,  ⟨(some 88), none, .op (.iad none (some 9) (.t 81) (.t 87))⟩,  ⟨(some 13), none, .op (.mv (.t 88))⟩] []
def c7B : FC := .reg [⟨(some 89), none, .op (.mv (.t 13))⟩,  ⟨(some 90), none, .op (.nchk (.t 89))⟩,  ⟨(some 91), none, .op (.fad 3 (.t 90))⟩,  ⟨(some 92), none, .op (.load none (.t 91))⟩,  ⟨(some 93), none, .op (.len .sl (.t 92))⟩,  ⟨(some 94), none, .op (.mv (.v (.int .i64 0)))⟩] []
def c7C : FC := .reg [⟨(some 96), none, .op (.mv (.t 94))⟩,  ⟨(some 14), none, .op (.mv (.t 96))⟩] []
def c7D : FC := .reg [⟨(some 97), none, .op (.mv (.t 7))⟩,  ⟨(some 98), none, .op (.mv (.t 13))⟩,  ⟨(some 99), none, .op (.nchk (.t 98))⟩,  ⟨(some 100), none, .op (.fad 0 (.t 99))⟩,  ⟨(some 101), none, .op (.load none (.t 100))⟩,  ⟨(some 102), none, .op (.iad none none (.t 97) (.t 101))⟩,  ⟨(some 103), none, .op (.load none (.t 102))⟩,  ⟨(some 104), none, .op (.mv (.t 13))⟩,  ⟨(some 105), none, .op (.nchk (.t 104))⟩,  ⟨(some 106), none, .op (.fad 1 (.t 105))⟩,  ⟨(some 107), none, .op (.load none (.t 106))⟩,  ⟨(some 108), none, .op (.iad none none (.t 103) (.t 107))⟩,  ⟨(some 109), none, .op (.load none (.t 108))⟩,  ⟨(some 110), none, .op (.mv (.t 14))⟩,  ⟨(some 111), none, .call 9 [(.t 109), (.t 110)]⟩,  ⟨(some 112), none, .op (.un .not (.t 111))⟩] []
def c7E : FC := .reg [⟨(some 113), none, .op (.mv (.t 13))⟩,  ⟨(some 114), none, .op (.nchk (.t 113))⟩,  ⟨(some 115), none, .op (.fad 3 (.t 114))⟩,  ⟨(some 116), none, .op (.load none (.t 115))⟩,  ⟨(some 117), none, .op (.mv (.t 14))⟩,  ⟨(some 118), none, .op (.mv (.t 2))⟩,  ⟨(some 119), none, .op (.bin .none .rem (.t 118) (.v (.int .u64 4611686018427387904)))⟩,  ⟨(some 120), none, .op (.iad none none (.t 116) (.t 117))⟩,  ⟨none, none, .op (.store 1 (.t 120) (.t 119))⟩] []
def c7F : FC := .cond (.t 112) c7E FC.skip
def c7G : FC := .seq c7D c7F
def c7H : FC := .seq c7C c7G
def c7I : FC := .loop (.seq (.reg [⟨(some 95), none, .op (.bin .none .lss (.t 94) (.t 93))⟩] []) (.seq (.cond (.t 95) .skip (.exit 4)) (.seq (.block 5 c7H) (.reg [⟨(some 121), none, .op (.bin .none .add (.t 94) (.v (.int .i64 1)))⟩,  ⟨(some 94), none, .op (.mv (.t 121))⟩] []))))
def c7J : FC := .block 4 c7I
def c7K : FC := .seq c7B c7J
def c7L : FC := .reg [⟨(some 122), none, .op (.mv (.t 12))⟩,  ⟨(some 123), none, .call 10 [(.t 122)]⟩] []
def c7M : FC := .seq c7K c7L
def c7N : FC := .seq c7A c7M
def c7O : FC := .seq c7z c7N
def c7P : FC := .block 3 c7O
def c7Q : FC := .seq c7u c7P
def c7R : FC := .loop c7Q
def c7S : FC := .block 2 c7R
def c7T : FC := .reg [⟨(some 124), none, .op (.mv (.t 12))⟩,  ⟨(some 125), none, .op (.nchk (.t 124))⟩,  ⟨(some 126), none, .op (.fad 7 (.t 125))⟩,  ⟨(some 127), none, .op (.load (some 2) (.t 126))⟩,  ⟨(some 128), none, .op (.mv (.t 11))⟩,  ⟨(some 129), none, .op (.nchk (.t 128))⟩,  ⟨(some 130), none, .op (.fad 7 (.t 129))⟩,  ⟨(some 131), none, .op (.load (some 2) (.t 130))⟩,  ⟨(some 132), none, .op (.eqs [.int, .int] .eql (.t 127) (.t 131))⟩,  ⟨(some 133), none, .op (.mv (.t 132))⟩,  ⟨(some 134), some (133, true), .op (.mv (.t 12))⟩,  ⟨(some 135), some (133, true), .op (.nchk (.t 134))⟩,  ⟨(some 136), some (133, true), .op (.fad 6 (.t 135))⟩,  ⟨(some 137), some (133, true), .op (.load none (.t 136))⟩,  ⟨(some 138), some (133, true), .op (.mv (.t 11))⟩,  ⟨(some 139), some (133, true), .op (.nchk (.t 138))⟩,  ⟨(some 140), some (133, true), .op (.fad 6 (.t 139))⟩,  ⟨(some 141), some (133, true), .op (.load none (.t 140))⟩,  ⟨(some 142), some (133, true), .call 11 [(.t 137), (.t 141)]⟩,  ⟨(some 143), none, .op (.pick (.t 133) (.t 142) (.v (.bool false)))⟩,  ⟨(some 6), none, .op (.mv (.t 143))⟩] []
def c7U : FC := .seq c7T FC.ret
def c7V : FC := .seq c7S c7U
def c7W : FC := .seq c7r c7V
def c7X : FC := .seq c7q c7W
def c7Y : FC := .seq c7p c7X
def c7Z : FC := .seq c7o c7Y
def c8a : FC := .seq c6Z c7Z
def c8b : FC := .seq c6Y c8a
def c8c : FC := .seq d0Z c8b
def c8d : FC := .seq d0U c8c
def fc3 : FC := c8d
theorem fn3 : Fn3 Tryd.prog 3 144 [(6, none)] fc3 := ⟨_, _, Tryd.func3, rfl, rfl, rfl, by kernel_rfl⟩

def a9R (ins : List (List (List Int))) (z : F8) : List Int := ((m0 ins z.f).bind fun l => m0 l z.pc).getD []
def jkU (W : List Int) (J : Int) (lo : List Int) (i : Nat) : List Int := lo.mapIdx fun k v => if k < i /\ (k : Int) ∉ W then J else v
def jkF (ins : List (List (List Int))) (J : Int) (z : F8) : List Int := jkU (a9R ins z) J z.lo z.lo.length
theorem b0R {W : List Int} {J : Int} {lo : List Int} {i : Nat} : (jkU W J lo i).length = lo.length := by simp [jkU]
theorem b6i {W : List Int} {J : Int} {lo : List Int} : jkU W J lo 0 = lo := by
 refine List.ext_getElem? fun k => ?_
 unfold jkU
 rw [List.getElem?_mapIdx]
 cases lo[k]? <;> simp
theorem c4T {W : List Int} {J : Int} {lo : List Int} {i : Nat} (h : (i : Int) ∈ W) : jkU W J lo (i + 1) = jkU W J lo i := by
 refine List.ext_getElem? fun k => ?_
 unfold jkU
 rw [List.getElem?_mapIdx, List.getElem?_mapIdx]
 by_cases hk : k = i
 ·subst hk; simp [h]
 ·have : k < i + 1 ↔ k < i := by omega
  simp [this]
theorem b9B {W : List Int} {J : Int} {lo : List Int} {i : Nat} (h : (i : Int) ∉ W) (hi : i < lo.length) : jkU W J lo (i + 1) = (jkU W J lo i).set i J := by
 refine List.ext_getElem? fun k => ?_
 by_cases hk : i = k
 ·subst hk
  rw [List.getElem?_set_self (by rw [b0R]; exact hi)]
  unfold jkU
  rw [List.getElem?_mapIdx, List.getElem?_eq_getElem hi]
  simp [h]
 ·rw [List.getElem?_set_ne hk]
  unfold jkU
  rw [List.getElem?_mapIdx, List.getElem?_mapIdx]
  have : k < i + 1 ↔ k < i := by omega
  simp [this]
theorem b9C {gs : List b5} {J : F8 -> List Int} {n : Nat} {t t' : S8 × List F8} (h : jr8 gs J n t = some t') (h0 : t.1.ek ≠ 0) : t' = t := by
 cases n <;> (unfold jr8 at h; rw [if_pos h0] at h; cases h; rfl)
theorem b6j {gs : List b5} {J : F8 -> List Int} {t t' : S8 × List F8} (h : jr8 gs J 0 t = some t') (h0 : t.1.ek = 0) : t' = ({ t.1 with ek := 3 }, t.2) := by
 unfold jr8 at h; rw [if_neg (by simpa using h0)] at h; cases h; rfl
theorem c4U {gs : List b5} {J : F8 -> List Int} {n : Nat} {s : S8} {z : F8} {r : List F8} {t' : S8 × List F8} (h : jr8 gs J (n + 1) (s, z :: r) = some t') (h0 : s.ek = 0) : ∃ t1, st8 gs s ({ z with lo := J z } :: r) = some t1 /\ jr8 gs J n t1 = some t' := by
 unfold jr8 at h; rw [if_neg (by simpa using h0)] at h; exact Option.bind_eq_some_iff.1 h
section
variable {gs : List b5} {tape : List Int} {junk : Int} {ins : List (List (List Int))} {F : Nat}
theorem b2F {f : F8} {o : O8} {s : S8} (hf : a8x gs 0 [] 0 = some f) (hok : ∀ g ∈ gs, okG g) (hd : 0 <= s.depth /\ s.depth < 1000000000) : Tri Tryd.prog 8 [.ptr o.r 0 0] (L8 gs o s [] [] []) (fun _ L' => ∃ z : Q8, z.toF8 = f /\ L' = L8 gs { o with rv := o.rv + 1 } { s with depth := max s.depth 1 } [z] [] []) := by
 refine x4 mixed fn8 zS [] (fun R S hS => ?_)
 refine aU ?_
 refine a3l (a7a (av := .nils) (ag := []) (r := []) (.inr ⟨rfl, rfl⟩) hf hok (by show (0 : Nat) < _; omega) hd) hS rfl (.refl _) (fun x S L' hL hS => ?_)
 obtain ⟨z, h1, rfl⟩ := hL
 refine aU ?_
 refine aE ?_
 exact ⟨trivial, _, rfl, _, ⟨z, h1, rfl⟩, hS⟩
theorem c4V : Enc (avL 1 (avL 1 (avI .i64))) none := a5y (a5y (j3 .i64) 1) 1
theorem b6k {f : F8} {a b : S8 × List F8} (h1 : a0c F = some true) (h2 : w6 ⟨gs⟩ false = some true) (h16 : gs.length <= 16) (hil : ins.length = gs.length)
  (h3 : ∀ (i : Nat) (g : b5), gs[i]? = some g -> ∃ l, ins[i]? = some l /\ a3g F ⟨gs⟩ i = some (l, 0) /\ l.length = g.Nodes.length /\ ∀ w ∈ l, w.length <= 1000000)
  (hf : a8x gs 0 [] 0 = some f) (hok : ∀ g ∈ gs, okG g) (ht : tape.length < 1000000000)
  (hr : b0J gs 300 ({ s08 tape with depth := 1 }, [f]) = some a) (hsf : b4A gs 300 ({ s08 tape with depth := 1 }, [f]))
  (hj : jr8 gs (jkF ins (Int.tmod junk 4611686018427387904)) 300 ({ s08 tape with depth := 1 }, [f]) = some b) (hjs : b6h gs (jkF ins (Int.tmod junk 4611686018427387904)) 300 ({ s08 tape with depth := 1 }, [f])) (hab : b.1 = a.1) (hev : a0o a.1.evs a.1.evs = some true) :
  Tri Tryd.prog 3 [g7.av ⟨gs⟩, .sl false 1 (tape.map (avI .u64)), .int .u64 junk] [] (fun v L' => v = .bool true) := by
 refine x4 mixed fn3 zS [3, 55, 60] (fun R S hS => ?_)
 refine aU ?_
 refine b2v hS rfl (xv := g7.av ⟨gs⟩) rfl rfl (fun pb S hS => ?_)
 refine aS ?_
 refine b6 ?_
 refine b7S 3 hS Pk.here (by exact g7.enc.blw ⟨gs⟩ 0) rfl (fun S hS => ?_)
 refine aU ?_
 refine a4b (a1S h1) rfl rfl rfl ?_
 refine aU ?_
 refine E_cs (t := false) rfl (fun h => by cases h) (fun _ => ?_)
 refine aU ?_
 refine a4b (a1T h2) rfl (g9 ⟨g7.enc.blw ⟨gs⟩ 0, rfl, trivial⟩) rfl ?_
 refine aU ?_
 refine E_cs (t := false) rfl (fun h => by cases h) (fun _ => ?_)
 refine i7 ?_
 refine f5 ?_
 refine aQ ?_
 refine aS ?_
 refine b6 ?_
 refine c0x 7 none hS rfl (fun il S hS => ?_)
 refine aU ?_
 refine a9n gs.length (fun s : Nat => [(1, .sl false 1 (tape.map (avI .u64))), (2, .int .u64 junk), (3, .cptr (g7.cells ⟨gs⟩) 0), (6, .bool false), (7, .ref il s 0 s none)]) (fun q => (il, q, flat (avL 1 (avL 1 (avI .i64))) (ins.take q)) :: ([] ++ R))
  (fun i s => s = i) 0 (by exact hS) rfl wF zO zD zD (fun _ => ⟨rfl, rfl, rfl, rfl⟩) (fun i q S hi hI hS => ?_) (fun q fr' S hI hS hw => ?_)
 ·subst hI
  obtain ⟨l, k1, k2, k3, k4⟩ := h3 q gs[q] (List.getElem?_eq_getElem hi)
  have htl : (ins.take q).length = q := by simp; omega
  refine aU ?_
  refine a4b (a7J k2) rfl (g9 ⟨g7.enc.blw ⟨gs⟩ 0, rfl, trivial⟩) (a6M ⟨(a5y (a5y (j3 .i64) 1) 1).blw l 0, rfl, trivial⟩) ?_
  refine aU ?_
  refine j6 (esh := some 8) (f := b5.av) (ys := gs) (y := gs[q]) (n := (q : Int)) rfl rfl (by unfold m0; rw [if_pos zO]; exact List.getElem?_eq_getElem hi) ?_
  refine aU ?_
  refine E_cs (t := false) (by show AV.bool ((l.length : Int) != ((gs[q].Nodes.length : Nat) : Int)) = _; rw [k3]; simp) (fun h => by cases h) (fun _ => ?_)
  refine aU ?_
  refine a9m (o := il) (ver := q) (f := avL 1 (avL 1 (avI .i64))) (l := ins.take q) (m := [l]) (j := []) hS c4V (by show AV.ref il q 0 q none = _; rw [htl]) (a2z (f := avL 1 (avL 1 (avI .i64))) (esh := none) [l]) (by rw [List.append_nil]; exact Rp.here) ⟨by simp; omega, by simp; omega⟩ (fun S hS => ?_)
  refine aU ?_
  have e : ins.take q ++ [l] = ins.take (q + 1) := by rw [List.take_add_one, k1]; rfl
  rw [e] at hS ⊢
  have htl2 : (ins.take (q + 1)).length = q + 1 := by simp; omega
  rw [htl2]
  exact R_n (q + 1) rfl hS wF
 subst hI
 rw [<- hil, List.take_length] at hS
 rw [<- hil] at hw
 refine a1q hw ?_
 refine d9 ?_
 refine b8 ?_
 refine aU ?_
 refine a3l (b6e (fuel := 300) hf hok ht zD hr hsf) hS rfl Spl.nil (fun x S L' hL hS => ?_)
 obtain ⟨o1, rows1, rj1, pj1, j1, rfl, rfl⟩ := hL
 have hS2 : Ab.Sep S ((o1.r, 0, h8 gs o1 a.1 rows1.length) :: (o1.te, o1.tv, flat m8.av a.1.evs) :: (il, ins.length, flat (avL 1 (avL 1 (avI .i64))) ins) :: R) := by
  unfold L8 at hS
  exact hS.sub (.cons_cons _ (.cons _ (.cons _ (.cons_cons _ (.cons _ (List.sublist_append_right _ _))))))
 clear hS
 refine aS ?_
 refine b6 ?_
 refine c0E (o := o1.te) (ver := o1.tv) (o2 := o1.r) (v2 := 0) (jx := 6) (l := a.1.evs) (cs2 := h8 gs o1 a.1 rows1.length) m8.enc hS2 (Pk.there Pk.here) rfl Rp.here (fun S hS => ?_)
 refine b6N (l := ins) 7 c4V hS (Pk.there Pk.here) rfl (fun S hS => ?_)
 refine d9 ?_
 refine a1D ?_
 refine aU ?_
 refine b5D (f := avI .u64) (x := (0 : Int)) (n := 16) (n' := 16) hS (j3 .u64) rfl rfl rfl rfl zO (fun rg S hS => ?_)
 refine aU ?_
 refine b3B (l := []) (m := tape) (j3 .u64) rfl (.inr rfl) (a2z _) ⟨by simp; omega, by simp; omega⟩ ?_
 refine aU ?_
 refine b2v hS rfl (xv := .agg [.sl false 8 (List.map b5.av gs), .bool false, .ref rg 0 0 16 none, .nils, .nils, .sl false 1 (tape.map (avI .u64)), .nils, .int .i64 0, .int .u64 0, .int .i64 0, .int .i64 0, .int .i64 0, .int .i64 0]) rfl rfl (fun ro S hS => ?_)
 refine aS ?_
 refine b6 ?_
 refine And.intro (by simp [a1i, a5b, a0y, a1R]) ?_
 refine b1x 3 (some 9) (Lf := fun o' => (ro, 0, [.sl false 8 (List.map b5.av gs), .bool false, .ref rg 0 0 16 none, AV.ref o' 0 0 0 (some 9), .nils, .sl false 1 (tape.map (avI .u64)), .nils, .int .i64 0, .int .u64 0, .int .i64 0, .int .i64 0, .int .i64 0, .int .i64 0]) :: (rg, 0, flat (avI .u64) (List.replicate (16 : Int).toNat 0)) :: (o1.r, 0, ((h8 gs o1 a.1 rows1.length).set 6 (.sl false (g6 (some 2)) (a.1.evs.map m8.av)))) :: R) hS (fun o' => Rp.here) rfl (fun q1 S hS => ?_)
 refine b1x 4 (some 2) (Lf := fun o' => (q1, 0, []) :: (ro, 0, [.sl false 8 (List.map b5.av gs), .bool false, .ref rg 0 0 16 none, AV.ref q1 0 0 0 (some 9), AV.ref o' 0 0 0 (some 2), .sl false 1 (tape.map (avI .u64)), .nils, .int .i64 0, .int .u64 0, .int .i64 0, .int .i64 0, .int .i64 0, .int .i64 0]) :: (rg, 0, flat (avI .u64) (List.replicate (16 : Int).toNat 0)) :: (o1.r, 0, ((h8 gs o1 a.1 rows1.length).set 6 (.sl false (g6 (some 2)) (a.1.evs.map m8.av)))) :: R) hS (fun o' => Rp.there Rp.here) rfl (fun q2 S hS => ?_)
 refine b7Q 6 (some 2) (Lf := fun o' => (q2, 0, []) :: (q1, 0, []) :: (ro, 0, [.sl false 8 (List.map b5.av gs), .bool false, .ref rg 0 0 16 none, AV.ref q1 0 0 0 (some 9), AV.ref q2 0 0 0 (some 2), .sl false 1 (tape.map (avI .u64)), AV.ref o' 0 0 0 (some 2), .int .i64 0, .int .u64 0, .int .i64 0, .int .i64 0, .int .i64 0, .int .i64 0]) :: (rg, 0, flat (avI .u64) (List.replicate (16 : Int).toNat 0)) :: (o1.r, 0, ((h8 gs o1 a.1 rows1.length).set 6 (.sl false (g6 (some 2)) (a.1.evs.map m8.av)))) :: R) hS (fun o' => Rp.there (Rp.there Rp.here)) rfl (fun q3 S hS => ?_)
 have hS2 : Ab.Sep S (L8 gs ⟨ro, rg, q1, 0, q2, 0, q3, 0⟩ (s08 tape) [] [] [] ++ ((o1.r, 0, ((h8 gs o1 a.1 rows1.length).set 6 (.sl false (g6 (some 2)) (a.1.evs.map m8.av)))) :: R)) := hS.perm (Spl.cons (Pk.there (Pk.there (Pk.there Pk.here))) (Spl.cons (Pk.there (Pk.there Pk.here)) (Spl.cons (Pk.there Pk.here) (Spl.cons Pk.here (.refl _)))))
 clear hS
 refine aU ?_
 refine a3l (b2F (o := ⟨ro, rg, q1, 0, q2, 0, q3, 0⟩) (s := s08 tape) hf hok ⟨Int.le_refl _, by show (0 : Int) < _; omega⟩) hS2 rfl (.refl _) (fun x S L' hL hS => ?_)
 obtain ⟨z, rfl, rfl⟩ := hL
 refine aU ?_
 refine z6 (a6O (σ := c4H) (fun q => [(2, .int .u64 junk), (6, .bool false), (7, .sl false 1 (ins.map (avL 1 (avL 1 (avI .i64))))), (11, .ptr o1.r 0 0), (12, .ptr q.o.r 0 0)]) (fun q => L8 gs q.o q.s q.rows q.rj q.pj ++ ((o1.r, 0, ((h8 gs o1 a.1 rows1.length).set 6 (.sl false (g6 (some 2)) (a.1.evs.map m8.av)))) :: R))
  (fun q => jr8 gs (jkF ins (Int.tmod junk 4611686018427387904)) q.n (q.s, ab8 q.rows) = some b /\ b6h gs (jkF ins (Int.tmod junk 4611686018427387904)) q.n (q.s, ab8 q.rows) /\ q.s.steps + q.n = 300 /\ 0 <= q.s.steps) (fun q => q.n) ⟨_, _, 300, [z], [], []⟩ hS ⟨hj, hjs, by show (0 : Int) + 300 = _; omega, Int.le_refl _⟩ wF (fun q S hI hS => ?_))
 obtain ⟨o2, s2, n, rows2, rj2, pj2⟩ := q
 obtain ⟨i3, i4, i5, i6⟩ := hI
 dsimp only at i3 i4 i5 i6 hS
 refine aU ?_
 refine f7 hS rfl (.head _) (v := .int .i64 s2.ek) rfl ?_
 refine aU ?_
 refine E_cs (t := s2.ek == 0) rfl (fun hk => ?_) (fun hk => ?_)
 rotate_left
 ·have hk' : s2.ek ≠ 0 := by simpa using hk
  refine a3E ?_
  refine aE ?_
  have hb := b9C i3 hk'
  have hs2 : s2 = a.1 := by rw [<- hab, hb]
  subst hs2
  have hS3 : Ab.Sep S ((o2.r, 0, h8 gs o2 a.1 rows2.length) :: (o2.te, o2.tv, flat m8.av a.1.evs) :: (o1.r, 0, ((h8 gs o1 a.1 rows1.length).set 6 (.sl false (g6 (some 2)) (a.1.evs.map m8.av)))) :: R) := by
   unfold L8 at hS
   exact hS.sub (.cons_cons _ (.cons _ (.cons _ (.cons_cons _ (.cons _ (List.sublist_append_right _ _))))))
  clear hS
  refine b6M (o := o2.te) (ver := o2.tv) (o2 := o2.r) (v2 := 0) (jx := 6) (l := a.1.evs) (cs2 := h8 gs o2 a.1 rows2.length) m8.enc hS3 (Pk.there Pk.here) rfl Rp.here (fun S hS => ?_)
  refine aU ?_
  refine f7 hS rfl (.head _) (v := .agg [.int .i64 a.1.ek, .int .u64 a.1.ev]) rfl ?_
  refine aU ?_
  refine f7 hS rfl (.tail _ (.head _)) (v := .agg [.int .i64 a.1.ek, .int .u64 a.1.ev]) rfl ?_
  refine aU ?_
  refine b0p rfl rfl rfl (fun _ => ?_) (fun h => absurd h (by simp [a3Q, AV.same]))
  refine aU ?_
  refine f7 hS rfl (.head _) (v := .sl false 2 (a.1.evs.map m8.av)) rfl ?_
  refine aU ?_
  refine f7 hS rfl (.tail _ (.head _)) (v := .sl false 2 (a.1.evs.map m8.av)) rfl ?_
  refine aU ?_
  refine a4b (a2i hev) rfl (g9 ⟨(a5y m8.enc 2).blw a.1.evs 0, (a5y m8.enc 2).blw a.1.evs 0, trivial⟩) rfl ?_
  refine aU ?_
  refine g8 ?_
  refine aE ?_
  exact ⟨trivial, _, rfl, [], rfl, hS.sub (.cons _ (.cons _ (List.Sublist.refl _)))⟩
 have hk' : s2.ek = 0 := by simpa using hk
 refine aU ?_
 refine z6 ?_
 refine aU ?_
 refine f7 hS rfl (.head _) (v := .int .i64 s2.steps) rfl ?_
 refine aU ?_
 cases n with
 | zero =>
   refine E_cs (t := true) (by show AV.bool (decide (s2.steps >= (300 : Int))) = _; rw [decide_eq_true (by simp at i5; omega)]) (fun _ => ?_) (fun h => by cases h)
   refine aU ?_
   refine E_stS hS rfl (xv := .int .i64 3) rfl Rp.here rfl rfl zqV (fun S hS => ?_)
   refine aU ?_
   refine a3E ?_
   refine aE ?_
   have hb := b6j i3 hk'
   have hs2 : ({ s2 with ek := 3 } : S8) = a.1 := by rw [<- hab, hb]
   replace hS : Ab.Sep S (L8 gs o2 { s2 with ek := 3 } rows2 rj2 pj2 ++ ((o1.r, 0, ((h8 gs o1 a.1 rows1.length).set 6 (.sl false (g6 (some 2)) (a.1.evs.map m8.av)))) :: R)) := hS
   rw [hs2] at hS
   have hS3 : Ab.Sep S ((o2.r, 0, h8 gs o2 a.1 rows2.length) :: (o2.te, o2.tv, flat m8.av a.1.evs) :: (o1.r, 0, ((h8 gs o1 a.1 rows1.length).set 6 (.sl false (g6 (some 2)) (a.1.evs.map m8.av)))) :: R) := by
    unfold L8 at hS
    exact hS.sub (.cons_cons _ (.cons _ (.cons _ (.cons_cons _ (.cons _ (List.sublist_append_right _ _))))))
   clear hS
   refine b6M (o := o2.te) (ver := o2.tv) (o2 := o2.r) (v2 := 0) (jx := 6) (l := a.1.evs) (cs2 := h8 gs o2 a.1 rows2.length) m8.enc hS3 (Pk.there Pk.here) rfl Rp.here (fun S hS => ?_)
   refine aU ?_
   refine f7 hS rfl (.head _) (v := .agg [.int .i64 a.1.ek, .int .u64 a.1.ev]) rfl ?_
   refine aU ?_
   refine f7 hS rfl (.tail _ (.head _)) (v := .agg [.int .i64 a.1.ek, .int .u64 a.1.ev]) rfl ?_
   refine aU ?_
   refine b0p rfl rfl rfl (fun _ => ?_) (fun h => absurd h (by simp [a3Q, AV.same]))
   refine aU ?_
   refine f7 hS rfl (.head _) (v := .sl false 2 (a.1.evs.map m8.av)) rfl ?_
   refine aU ?_
   refine f7 hS rfl (.tail _ (.head _)) (v := .sl false 2 (a.1.evs.map m8.av)) rfl ?_
   refine aU ?_
   refine a4b (a2i hev) rfl (g9 ⟨(a5y m8.enc 2).blw a.1.evs 0, (a5y m8.enc 2).blw a.1.evs 0, trivial⟩) rfl ?_
   refine aU ?_
   refine g8 ?_
   refine aE ?_
   exact ⟨trivial, _, rfl, [], rfl, hS.sub (.cons _ (.cons _ (List.Sublist.refl _)))⟩
 | succ n =>
   refine E_cs (t := false) (by show AV.bool (decide (s2.steps >= (300 : Int))) = _; rw [decide_eq_false zO]) (fun h => by cases h) (fun _ => ?_)
   refine aU ?_
   obtain ⟨z8, r8, hzr, _, ⟨g, hg, hzl, hz0, hz1⟩, b1, b2⟩ := i4 hk'
   dsimp only at hzr b1 b2
   cases rows2 with
   | nil => cases hzr
   | cons z r =>
   obtain ⟨rfl, rfl⟩ : z.toF8 = z8 /\ ab8 r = r8 := by
    simp only [ab8, List.map_cons, List.cons.injEq] at hzr; exact hzr
   have hrn : r.length < 100000000 := by have := b1.rn; simp [ab8] at this; omega
   obtain ⟨t1, t2, t3⟩ := i8 hg
   obtain ⟨l, k1, _, k3, k4⟩ := h3 z.f.toNat g t3
   have hl1 : m0 ins z.f = some l := by unfold m0; rw [if_pos t1]; exact k1
   obtain ⟨w, hw1⟩ : ∃ w, m0 l z.pc = some w := ⟨_, by unfold m0; rw [if_pos hz0]; exact List.getElem?_eq_getElem zO⟩
   have hwl := k4 w (List.mem_of_getElem? (i8 hw1).2.2)
   have hla : a9R ins z.toF8 = w := by unfold a9R; rw [hl1, Option.bind_some, hw1]; rfl
   refine f7 hS rfl (.head _) (v := .ref o2.ro o2.rv 0 (r.length + 1) (some 9)) rfl ?_
   refine aU ?_
   refine f7 hS rfl (.head _) (v := .ref o2.ro o2.rv 0 (r.length + 1) (some 9)) rfl ?_
   refine aU ?_
   refine a0e rfl rfl r.length (a2m zO) zO ?_
   refine aU ?_
   refine f7 hS rfl (.tail _ (.head _)) (v := .ref z.pl 0 0 z.lo.length none) (by rw [u0]; exact vT (y9 r) rfl) ?_
   refine aU ?_
   refine a9n z.lo.length (fun q : List Int => [(2, .int .u64 junk), (6, .bool false), (7, .sl false 1 (ins.map (avL 1 (avL 1 (avI .i64))))), (11, .ptr o1.r 0 0), (12, .ptr o2.r 0 0), (13, .ptr o2.ro o2.rv (0 + r.length * g6 (some 9)))]) (fun q => L8 gs o2 s2 ({ z with lo := q } :: r) rj2 pj2 ++ ((o1.r, 0, ((h8 gs o1 a.1 rows1.length).set 6 (.sl false (g6 (some 2)) (a.1.evs.map m8.av)))) :: R))
    (fun i q => q = jkU w (Int.tmod junk 4611686018427387904) z.lo i) z.lo (by exact hS) b6i.symm wF (by have := hok g (List.mem_of_getElem? t3); have := this.1; omega) zD zD (fun _ => ⟨rfl, rfl, rfl, rfl⟩) (fun i q S hi hI hS => ?_) (fun q fr' S hI hS hw => ?_)
   ·have hql : q.length = z.lo.length := by rw [hI]; exact b0R
    refine aU ?_
    refine f7 hS rfl (.tail _ (.head _)) (v := .int .i64 z.f) (by rw [u0]; exact vT (y9 r) rfl) ?_
    refine aU ?_
    refine j6 (esh := none) (f := avL 1 (avL 1 (avI .i64))) (ys := ins) (y := l) rfl rfl hl1 ?_
    refine aU ?_
    refine f7 hS rfl (.tail _ (.head _)) (v := .int .i64 z.pc) (by rw [u0]; exact vT (y9 r) rfl) ?_
    refine aU ?_
    refine j6 (esh := none) (f := avL 1 (avI .i64)) (ys := l) (y := w) rfl rfl hw1 ?_
    refine aU ?_
    refine a4b (a2H (b6V w (i : Int) zO)) rfl (g9 ⟨(a5y (j3 .i64) 1).blw w 0, rfl, trivial⟩) rfl ?_
    refine aU ?_
    by_cases hin : (i : Int) ∈ w
    ·refine E_cs (t := false) (by show AV.bool (!decide _) = _; rw [decide_eq_true hin]; rfl) (fun h => by cases h) (fun _ => ?_)
     refine aU ?_
     refine aE ?_
     exact R_n q (by rw [c4T hin]; exact hI) hS wF
    ·refine E_cs (t := true) (by show AV.bool (!decide _) = _; rw [decide_eq_false hin]; rfl) (fun _ => ?_) (fun h => by cases h)
     refine aU ?_
     refine f7 hS rfl (.tail _ (.head _)) (v := .ref z.pl 0 0 q.length none) (by rw [u0]; exact vT (y9 r) rfl) ?_
     refine aU ?_
     refine a0e rfl rfl i rfl zO ?_
     refine a9o (y' := Int.tmod junk 4611686018427387904) (l := q) hS (j3 .u64) rfl (xv := .int .u64 (Int.tmod junk 4611686018427387904)) rfl (n := i) (fo := 0) (y := q[i]'zO) (by simp [g6]) (List.getElem?_eq_getElem zO) (c1h (z := { z with lo := q })) rfl rfl (by simp [g6]) rfl (fun S hS => ?_)
     refine aU ?_
     refine aE ?_
     exact R_n (q.set i (Int.tmod junk 4611686018427387904)) (by rw [b9B hin hi, <- hI]) hS wF
   ·have hJ : q = jkF ins (Int.tmod junk 4611686018427387904) z.toF8 := by unfold jkF; rw [hla]; exact hI
    subst hJ
    obtain ⟨t1, h4, h5⟩ := c4U i3 hk'
    obtain ⟨b3, b4⟩ := b2 _ h4
    refine a1q hw ?_
    refine aU ?_
    refine a3l (a7U (rows := { z with lo := jkF ins (Int.tmod junk 4611686018427387904) z.toF8 } :: r) h4 b1) hS rfl (.refl _) (fun r0 S L' hL hS => ?_)
    obtain ⟨o4, rows4, rj4, pj4, m1, m2, rfl⟩ := hL
    refine aU ?_
    refine aE ?_
    have e4 : (t1.1, ab8 rows4) = t1 := by rw [m2]
    exact a1u ⟨⟨o4, t1.1, n, rows4, rj4, pj4⟩, ⟨by rw [e4]; exact h5, by rw [e4]; exact b4, by show t1.1.steps + (n : Int) = _; omega, by show 0 <= t1.1.steps; omega⟩, by show n < n + 1; omega, hS, b5w ⟨.refl _, .refl _, .refl _, .refl _, by show a7B none (.ptr o2.r 0 0) (.ptr o4.r 0 0); rw [m1]; exact .refl _, trivial⟩⟩
end
end Go.Proofs.YtipeiholgieclaaDoor

/- How arguments are read. -/
namespace Go.Proofs.YtipeiholgieclaaDoor
open Go Go.Ab Go.RowKit
set_option maxRecDepth 20000
theorem b4N {H : Type} {d : DataW H} {l : List (DataW H)} (h : d ∈ l) : Rows.uptoBulk d <= Rows.uptoBulkAll l := by
 induction l with
 | nil => cases h
 | cons x r ih =>
   simp only [Rows.uptoBulkAll]
   rcases List.mem_cons.1 h with e | e
   ·subst e; omega
   ·have := ih e; omega
theorem c4W {H : Type} (d : DataW H) : 1 <= Rows.uptoBulk d := by
 cases d with
 | lit l => cases l <;> simp [Rows.uptoBulk]
 | _ => simp [Rows.uptoBulk]
theorem b4O {H : Type} (l : List (DataW H)) : l.length <= Rows.uptoBulkAll l := by
 induction l with
 | nil => simp [Rows.uptoBulkAll]
 | cons x r ih => have := c4W x; simp only [Rows.uptoBulkAll, List.length_cons]; omega
theorem c5p {H : Type} : c5C (H := H) Rows.uptoBulk :=
 ⟨fun bytes => by simp [Rows.uptoBulk], fun e s => by have := b4O e; simp only [Rows.uptoBulk]; omega, fun e s d h => by have := b4N h; simp only [Rows.uptoBulk]; omega, fun p d h => by have := b4N h; simp only [Rows.uptoBulk]; omega⟩

theorem a2Q : Tryd.prog.cellsOf 3 = 1 := by kernel_rfl
theorem b9D : Tryd.prog.cellsOf 56 = 1 := by kernel_rfl
theorem b9E : Tryd.prog.cellsOf 57 = 1 := by kernel_rfl
theorem b9F : Tryd.prog.cellsOf 58 = 1 := by kernel_rfl
theorem b4P : Tryd.prog.cellsOf 26 = 1 := by kernel_rfl
theorem b0S : Tryd.prog.cellsOf 34 = 1 := by kernel_rfl
theorem b4Q : Tryd.prog.cellsOf 60 = 12 := by kernel_rfl
def f6.Ok (N : Nat) (x : f6) : Prop := (fun n => (Lit.int .u8 n).wf = true) x.Op /\ (fun n => (Lit.int .u8 n).wf = true) x.By /\ (fun n => (Lit.int .i64 n).wf = true) x.D /\ (fun n => (Lit.int .i64 n).wf = true) x.E /\ (fun n => (Lit.int .i64 n).wf = true) x.A /\ (fun n => (Lit.int .i64 n).wf = true) x.B /\ (fun n => (Lit.int .i64 n).wf = true) x.F /\ (fun n => (Lit.int .i64 n).wf = true) x.Cell /\ (fun n => (Lit.int .u64 n).wf = true) x.Imm /\ (fun l => List.length l <= N /\ ∀ a ∈ l, (fun n => (Lit.int .i64 n).wf = true) a) x.Args /\ (fun n => (Lit.int .i64 n).wf = true) x.Next /\ (fun n => (Lit.int .i64 n).wf = true) x.Else
theorem f6.rd {N : Nat} : Rd Tryd.prog N f6.av (f6.Ok N) 60 := by
 intro avs ht
 obtain ⟨hl, hf⟩ := a6N Tryd.underlying60 ht
 have e0 : Ty Tryd.prog N 57 ((avs.drop 0).take (Tryd.prog.cellsOf 57)) := hf 0 _ rfl
 rw [b9E] at e0
 obtain ⟨a0, h0, q0⟩ := (rdI Tryd.underlying57) _ e0
 have e1 : Ty Tryd.prog N 58 ((avs.drop 1).take (Tryd.prog.cellsOf 58)) := hf 1 _ rfl
 rw [b9F] at e1
 obtain ⟨a1, h1, q1⟩ := (rdI Tryd.underlying58) _ e1
 have e2 : Ty Tryd.prog N 3 ((avs.drop 2).take (Tryd.prog.cellsOf 3)) := hf 2 _ rfl
 rw [a2Q] at e2
 obtain ⟨a2, h2, q2⟩ := (rdI Tryd.underlying3) _ e2
 have e3 : Ty Tryd.prog N 3 ((avs.drop 3).take (Tryd.prog.cellsOf 3)) := hf 3 _ rfl
 rw [a2Q] at e3
 obtain ⟨a3, h3, q3⟩ := (rdI Tryd.underlying3) _ e3
 have e4 : Ty Tryd.prog N 3 ((avs.drop 4).take (Tryd.prog.cellsOf 3)) := hf 4 _ rfl
 rw [a2Q] at e4
 obtain ⟨a4, h4, q4⟩ := (rdI Tryd.underlying3) _ e4
 have e5 : Ty Tryd.prog N 3 ((avs.drop 5).take (Tryd.prog.cellsOf 3)) := hf 5 _ rfl
 rw [a2Q] at e5
 obtain ⟨a5, h5, q5⟩ := (rdI Tryd.underlying3) _ e5
 have e6 : Ty Tryd.prog N 3 ((avs.drop 6).take (Tryd.prog.cellsOf 3)) := hf 6 _ rfl
 rw [a2Q] at e6
 obtain ⟨a6, h6, q6⟩ := (rdI Tryd.underlying3) _ e6
 have e7 : Ty Tryd.prog N 3 ((avs.drop 7).take (Tryd.prog.cellsOf 3)) := hf 7 _ rfl
 rw [a2Q] at e7
 obtain ⟨a7, h7, q7⟩ := (rdI Tryd.underlying3) _ e7
 have e8 : Ty Tryd.prog N 26 ((avs.drop 8).take (Tryd.prog.cellsOf 26)) := hf 8 _ rfl
 rw [b4P] at e8
 obtain ⟨a8, h8, q8⟩ := (rdI Tryd.underlying26) _ e8
 have e9 : Ty Tryd.prog N 34 ((avs.drop 9).take (Tryd.prog.cellsOf 34)) := hf 9 _ rfl
 rw [b0S] at e9
 obtain ⟨a9, h9, q9⟩ := (rdL (j3 .i64) (fun fs h => by rw [Tryd.underlying3] at h; cases h) Tryd.underlying34 a2Q (rdI Tryd.underlying3)) _ e9
 have e10 : Ty Tryd.prog N 3 ((avs.drop 10).take (Tryd.prog.cellsOf 3)) := hf 10 _ rfl
 rw [a2Q] at e10
 obtain ⟨a10, h10, q10⟩ := (rdI Tryd.underlying3) _ e10
 have e11 : Ty Tryd.prog N 3 ((avs.drop 11).take (Tryd.prog.cellsOf 3)) := hf 11 _ rfl
 rw [a2Q] at e11
 obtain ⟨a11, h11, q11⟩ := (rdI Tryd.underlying3) _ e11
 refine ⟨⟨a0, a1, a2, a3, a4, a5, a6, a7, a8, a9, a10, a11⟩, ?_, ⟨q0, q1, q2, q3, q4, q5, q6, q7, q8, q9, q10, q11⟩⟩
 have := (a0H h0 (a0H h1 (a0H h2 (a0H h3 (a0H h4 (a0H h5 (a0H h6 (a0H h7 (a0H h8 (a0H h9 (a0H h10 (a0H h11 (b3I (hl.trans b4Q))))))))))))))
 exact this
theorem b9G : Tryd.prog.cellsOf 35 = 1 := by kernel_rfl
theorem c4X : Tryd.prog.cellsOf 4 = 1 := by kernel_rfl
theorem b9H : Tryd.prog.cellsOf 36 = 1 := by kernel_rfl
theorem b4R : Tryd.prog.cellsOf 38 = 8 := by kernel_rfl
def b5.Ok (N : Nat) (x : b5) : Prop := (fun l => List.length l <= N /\ ∀ a ∈ l, (fun n => (Lit.int .i64 n).wf = true) a) x.Params /\ (fun l => List.length l <= N /\ ∀ a ∈ l, (fun n => (Lit.int .u8 n).wf = true) a) x.Kinds /\ (fun n => (Lit.int .i64 n).wf = true) x.Cells /\ (fun l => List.length l <= N /\ ∀ a ∈ l, (fun n => (Lit.int .i64 n).wf = true) a) x.Init /\ (fun _ => True) x.Result /\ (fun n => (Lit.int .i64 n).wf = true) x.Keep /\ (fun l => List.length l <= N /\ ∀ a ∈ l, (f6.Ok N) a) x.Nodes /\ (fun n => (Lit.int .i64 n).wf = true) x.Entry
theorem b5.rd {N : Nat} : Rd Tryd.prog N b5.av (b5.Ok N) 38 := by
 intro avs ht
 obtain ⟨hl, hf⟩ := a6N Tryd.underlying38 ht
 have e0 : Ty Tryd.prog N 34 ((avs.drop 0).take (Tryd.prog.cellsOf 34)) := hf 0 _ rfl
 rw [b0S] at e0
 obtain ⟨a0, h0, q0⟩ := (rdL (j3 .i64) (fun fs h => by rw [Tryd.underlying3] at h; cases h) Tryd.underlying34 a2Q (rdI Tryd.underlying3)) _ e0
 have e1 : Ty Tryd.prog N 35 ((avs.drop 1).take (Tryd.prog.cellsOf 35)) := hf 1 _ rfl
 rw [b9G] at e1
 obtain ⟨a1, h1, q1⟩ := (rdL (j3 .u8) (fun fs h => by rw [Tryd.underlying56] at h; cases h) Tryd.underlying35 b9D (rdI Tryd.underlying56)) _ e1
 have e2 : Ty Tryd.prog N 3 ((avs.drop 2).take (Tryd.prog.cellsOf 3)) := hf 2 _ rfl
 rw [a2Q] at e2
 obtain ⟨a2, h2, q2⟩ := (rdI Tryd.underlying3) _ e2
 have e3 : Ty Tryd.prog N 34 ((avs.drop 3).take (Tryd.prog.cellsOf 34)) := hf 3 _ rfl
 rw [b0S] at e3
 obtain ⟨a3, h3, q3⟩ := (rdL (j3 .i64) (fun fs h => by rw [Tryd.underlying3] at h; cases h) Tryd.underlying34 a2Q (rdI Tryd.underlying3)) _ e3
 have e4 : Ty Tryd.prog N 4 ((avs.drop 4).take (Tryd.prog.cellsOf 4)) := hf 4 _ rfl
 rw [c4X] at e4
 obtain ⟨a4, h4, q4⟩ := (rdB Tryd.underlying4) _ e4
 have e5 : Ty Tryd.prog N 3 ((avs.drop 5).take (Tryd.prog.cellsOf 3)) := hf 5 _ rfl
 rw [a2Q] at e5
 obtain ⟨a5, h5, q5⟩ := (rdI Tryd.underlying3) _ e5
 have e6 : Ty Tryd.prog N 36 ((avs.drop 6).take (Tryd.prog.cellsOf 36)) := hf 6 _ rfl
 rw [b9H] at e6
 obtain ⟨a6, h6, q6⟩ := (rdL f6.enc ⟨_, Tryd.underlying60⟩ Tryd.underlying36 b4Q f6.rd) _ e6
 have e7 : Ty Tryd.prog N 3 ((avs.drop 7).take (Tryd.prog.cellsOf 3)) := hf 7 _ rfl
 rw [a2Q] at e7
 obtain ⟨a7, h7, q7⟩ := (rdI Tryd.underlying3) _ e7
 refine ⟨⟨a0, a1, a2, a3, a4, a5, a6, a7⟩, ?_, ⟨q0, q1, q2, q3, q4, q5, q6, q7⟩⟩
 have := (a0H h0 (a0H h1 (a0H h2 (a0H h3 (a0H h4 (a0H h5 (a0H h6 (a0H h7 (b3I (hl.trans b4R))))))))))
 exact this
theorem b9I : Tryd.prog.cellsOf 22 = 1 := by kernel_rfl
theorem b9J : Tryd.prog.cellsOf 24 = 1 := by kernel_rfl
def g7.Ok (N : Nat) (x : g7) : Prop := (fun l => List.length l <= N /\ ∀ a ∈ l, (b5.Ok N) a) x.Funcs
theorem g7.rd {N : Nat} : Rd Tryd.prog N g7.av (g7.Ok N) 24 := by
 intro avs ht
 obtain ⟨hl, hf⟩ := a6N Tryd.underlying24 ht
 have e0 : Ty Tryd.prog N 22 ((avs.drop 0).take (Tryd.prog.cellsOf 22)) := hf 0 _ rfl
 rw [b9I] at e0
 obtain ⟨a0, h0, q0⟩ := (rdL b5.enc ⟨_, Tryd.underlying38⟩ Tryd.underlying22 b4R b5.rd) _ e0
 refine ⟨⟨a0⟩, ?_, q0⟩
 have := (a0H h0 (b3I (hl.trans b9J)))
 exact this

theorem own : ownKnob Tryd.prog.godebug = none := by kernel_rfl
theorem b0T : laidOutB Tryd.prog = true := by kernel_rfl
theorem b1X : a0c 100000000000 = some true := by kernel_rfl
theorem b7h {k : Int} (h : (Lit.int .u64 k).wf = true) : WV k := by
 unfold WV
 simp [Lit.wf, IntKind.min, IntKind.max, IntKind.bits, IntKind.signed] at h; omega
theorem b4S {a l : List m8} (h : a.length <= 1000000000) : y5 a (a ++ l) = some true := by
 unfold y5
 rw [show decide (((a.length : Nat) : Int) > (((a ++ l).length : Nat) : Int)) = false by simp; omega]
 obtain ⟨s', h1, rfl⟩ := b0q (σ := List m8) (ρ := Option Bool) (n := (a.length : Int)) (s0 := a ++ l) (body := fun (i_2 : Nat) (s_1 : (List m8)) => (((m0 a (i_2 : Int)).bind fun y_3 => ((m0 s_1 (i_2 : Int)).bind fun y_4 => (if (!((y_3.Kind == y_4.Kind) && ((y_3.Value == y_4.Value) && true))) then (some (.ret (some false))) else (some (.nxt s_1))))) : Option (Stp (List m8) (Option Bool))))
  (fun _ s => s = a ++ l) zO rfl (fun i s hi hs => by
   subst hs
   have hi' : i < a.length := by omega
   refine ⟨a ++ l, ?_, rfl⟩
   rw [a8p, a8p, List.getElem?_append_left hi', List.getElem?_eq_getElem hi']
   simp)
 simp only [Bool.false_eq_true, if_false]
 rw [h1]; rfl
theorem b9K {a : List m8} (h : a.length <= 1000000000) : a0o a a = some true := by
 unfold a0o jp
 have := b4S (l := []) h
 rw [List.append_nil] at this
 rw [this]; simp
theorem b6l (K : Nat) (A : Nat -> Bool) : (setL K A).length <= K := by
 unfold setL; rw [List.length_map]; exact Nat.le_trans (List.length_filter_le _ _) zS
theorem b6m {K : Nat} {A : Nat -> Bool} {p : Nat} : (p : Int) ∈ setL K A ↔ p < K /\ A p = true := by
 unfold setL
 simp only [List.mem_map, List.mem_filter, List.mem_range]
 constructor
 ·rintro ⟨q, h, e⟩
  have : q = p := by omega
  subst this; exact h
 ·intro h; exact ⟨p, h, rfl⟩
theorem b9L (g : b5) {t : Nat} (h : t < g.Nodes.length) : m0 (inL g) (t : Int) = some (setL g.Kinds.length (lvB g t)) := by
 rw [a0d]; unfold inL; simp [h]
theorem b9M {g : b5} {i p : Nat} : lvB g i p = true ↔ Lv g i p := by unfold lvB; exact @decide_eq_true_iff _ (Classical.propDecidable _)
theorem b6n {gs : List b5} {J : Int} {z : F8} {k : Nat} (h0 : 0 <= z.pc) (h : LI gs z.f z.pc k) : (jkF (gs.map inL) J z)[k]? = z.lo[k]? := by
 obtain ⟨g, h1, h2⟩ := h
 obtain ⟨a1, a2, a3⟩ := i8 h1
 obtain ⟨hlt, hk⟩ := h2.lt
 have hI : m0 (gs.map inL) z.f = some (inL g) := by unfold m0; rw [if_pos a1, List.getElem?_map, a3]; rfl
 have hw : a9R (gs.map inL) z = setL g.Kinds.length (lvB g z.pc.toNat) := by
  unfold a9R
  rw [hI, Option.bind_some, show z.pc = ((z.pc.toNat : Nat) : Int) by omega, b9L g hlt, Int.toNat_natCast]; rfl
 unfold jkF jkU
 rw [List.getElem?_mapIdx, hw]
 have hm : (k : Int) ∈ setL g.Kinds.length (lvB g z.pc.toNat) := b6m.2 ⟨hk, b9M.2 h2⟩
 cases z.lo[k]? <;> simp [hm]
theorem b4T {g : g7} {tape : List Int} {junk : Int} {F : Nat} (h1 : a0c F = some true) (h2 : w6 g false = some false) :
  Tri Tryd.prog 3 [g7.av g, .sl false 1 (tape.map (avI .u64)), .int .u64 junk] [] (fun v L' => v = .bool true) := by
 refine x4 mixed fn3 zS [3, 55, 60] (fun R S hS => ?_)
 refine aU ?_
 refine b2v hS rfl (xv := g7.av g) rfl rfl (fun pb S hS => ?_)
 refine aS ?_
 refine b6 ?_
 refine b7S 3 hS Pk.here (by exact g7.enc.blw g 0) rfl (fun S hS => ?_)
 refine aU ?_
 refine a4b (a1S h1) rfl rfl rfl ?_
 refine aU ?_
 refine E_cs (t := false) rfl (fun h => by cases h) (fun _ => ?_)
 refine aU ?_
 refine a4b (a1T h2) rfl (g9 ⟨g7.enc.blw g 0, rfl, trivial⟩) rfl ?_
 refine aU ?_
 refine E_cs (t := true) rfl (fun _ => ?_) (fun h => by cases h)
 refine aU ?_
 refine g8 ?_
 refine aE ?_
 exact ⟨trivial, _, rfl, [], rfl, hS⟩
theorem b6o (g : g7) (tape : List Int) (junk : Int) (hg : g7.Ok 1048576 g) (ht : tape.length <= 1048576 /\ ∀ v ∈ tape, (Lit.int .u64 v).wf = true) (hj : (Lit.int .u64 junk).wf = true) :
  PureEv Tryd.prog 3 [g7.av g, .sl false 1 (List.map (avI .u64) tape), .int .u64 junk] (.bool true) := by
 have key : Tri Tryd.prog 3 [g7.av g, .sl false 1 (tape.map (avI .u64)), .int .u64 junk] [] (fun v L' => v = .bool true) := by
  by_cases hr : a4k g = true
  ·obtain ⟨gs⟩ := g
   obtain ⟨q1, q2, q3⟩ := b0E hr |> fun h => (⟨h, trivial, trivial⟩ : (∀ f ∈ (⟨gs⟩ : g7).Funcs, a7o f /\ a3h f = true /\ ∀ n ∈ f.Nodes, a2h (⟨gs⟩ : g7).Funcs f n = true) /\ True /\ True)
   have hr2 := hr
   unfold a4k at hr2
   simp only [Bool.and_eq_true, decide_eq_true_eq] at hr2
   obtain ⟨⟨r1, r2⟩, r3, _⟩ := hr2
   have hm : ∃ f, gs[0]? = some f /\ f.Params = [] := by
    unfold b2C at r3
    split at r3
    ·rename_i f e
     refine ⟨f, e, ?_⟩
     simp only [Bool.and_eq_true, decide_eq_true_eq] at r3
     have : f.Params.length = 0 := by omega
     exact List.eq_nil_of_length_eq_zero this
    ·cases r3
   have G : a3L gs := ⟨fun f hf => (q1 f hf).2, fun f hf n hn => by
    have h1 := hg.2 f hf
    exact b7h ((h1.2.2.2.2.2.2.1.2 n hn).2.2.2.2.2.2.2.2.1), fun f hf n hn => by
    have h1 := hg.2 f hf
    have := ((h1.2.2.2.2.2.2.1.2 n hn).2.2.2.2.2.2.2.2.2.1).1
    omega, hm⟩
   obtain ⟨f, hf, he, hT⟩ := b4H G (tape := tape) (fun v hv => b7h (ht.2 v hv))
   obtain ⟨s1, s2, a, b, s3, s4, s5, s6⟩ := b4M G (J := jkF (gs.map inL) (Int.tmod junk 4611686018427387904)) (fun z => b0R) (fun z k h0 h => b6n h0 h) 300 0 (s := { s08 tape with depth := 1 }) (A := [f]) (B := [f]) (Nat.zero_le _) (fun _ => ⟨hT, fun z r e => by cases e; exact he⟩) ⟨a8D (.inr fun _ _ => rfl), trivial⟩ zO ⟨Int.le_refl _, Int.le_refl _⟩
   refine b6k (ins := gs.map inL) b1X (by rw [b1H, hr]) r2 zS (fun i g0 hi => ?_) hf (fun g0 h0 => G.okG h0) zO s3 s1 s4 s2 s5 (b9K zO)
   have hi2 : i < gs.length := (List.getElem?_eq_some_iff.1 hi).1
   have hgm : g0 ∈ gs := List.mem_of_getElem? hi
   refine ⟨inL g0, by rw [List.getElem?_map, hi]; rfl, c5Y (by rw [a8w, if_pos hr, if_pos ⟨by omega, by show (i : Int) < (gs.length : Int); omega⟩]) (by show m0 gs (i : Int) = _; rw [a0d]; exact hi) (q1 g0 hgm).1 (Nat.le_refl _), by unfold inL; simp, fun w hw => ?_⟩
   unfold inL at hw
   obtain ⟨t, _, rfl⟩ := List.mem_map.1 hw
   have := (q1 g0 hgm).1.kn
   exact Nat.le_trans (b6l _ _) zO
  ·exact b4T b1X (by rw [b1H]; cases h : a4k g with | true => exact absurd h hr | false => rfl)
 obtain ⟨v, h7, rfl⟩ := Tri.pure (Q' := fun x => x = .bool true) 1 key (fun v L' S hq hS => ⟨.bool true, by rw [hq]; exact a7k rfl (.refl _), rfl⟩)
 exact h7
theorem b9N : (Rows.laid_math_bits_deBruijn64tab : DataW Unit) = Lib.tabData .u8 tzT := by kernel_rfl
theorem b9O {P : Program} {W : World} {nm : String} {k : IntKind} {zs : List Int} {b : Nat} (hg : P.globalNamed nm = some b) (h : Lib.TabIs P W nm k zs) : ∃ t fz, W.heap[b]? = some (.cells (zs.map fun z => Value.int k z).toArray t fz) := by
 unfold Lib.TabIs World.var? at h
 rw [hg, Option.bind_some] at h
 cases e2 : W.heap[b]? with
 | none => rw [e2] at h; cases h
 | some o =>
   rw [e2] at h
   cases o with
   | cells c t fz => cases h; exact ⟨t, fz, rfl⟩
   | _ => cases h
theorem c4Y {nm : String} (h0 : Tryd.prog.globalNamed nm = some 0) {W : World} (h : laidMet Tryd.prog [(nm, Rows.laid_math_bits_deBruijn64tab)] W) : b1Y W.heap.size W := by
 have h' := h
 rw [b9N] at h'
 have hp := Lib.tabIs_of_head (rest := []) h0 (t := 114) (e := 5) (n := 64) zK Tryd.underlying114 Tryd.underlying5 zK zK h'
 obtain ⟨t, fz, q⟩ := b9O h0 hp
 intro b p e
 match b, e with
 | 0, e => cases Option.some.inj e; exact ⟨(Array.getElem?_eq_some_iff.1 q).1, _, t, fz, q, rfl⟩
 | n + 1, e => cases e
end Go.Proofs.YtipeiholgieclaaDoor

