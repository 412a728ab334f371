/- Plain laws of kinds: what kinds.Check answers; what is reached goes on to what is reached. -/
import Derived.Test.YtnpemocpfdgaoaaKdL5
set_option linter.unusedVariables false
set_option linter.unusedSimpArgs false
namespace Go.Proofs.Ytnpemocpfdgaoaa
open Go Go.Ab Go.RowKit
set_option maxRecDepth 20000

def a6O (p : Program) : Bool := match p.Funcs with | f :: _ => decide (f.Params = 0) && !f.Result | [] => false
def a3F (p : Program) : Bool := encP p && (a3A p && (a6O p && p.Funcs.all (a2g p)))
theorem a8u {p : Program} (h : a3F p = true) {f : Func} (hf : f ∈ p.Funcs) : FOk p f := by
 unfold a3F encP a3A at h
 simp only [Bool.and_eq_true, decide_eq_true_eq, List.all_eq_true] at h
 exact ⟨h.1.2, h.1.2 f hf, h.2.1.1 f hf, h.2.2.2 f hf⟩
def c2x (p : Program) (f : Func) (rd : List Bool) (st : List (List Int)) : Prop :=
 ∃ R, Sol p f R ∧ rd.length = f.Code.length ∧ st.length = f.Code.length ∧ ∀ a, a < f.Code.length → rd[a]? = some (R a).isSome ∧ st[a]? = some ((R a).getD [])
def c7x (p : Program) (o : Option a0o × Int) : Prop :=
 (encP p = false ∧ o = (none, 30)) ∨ (encP p = true ∧ a3A p = false ∧ o = (none, 31)) ∨ (encP p = true ∧ a3A p = true ∧ (a6O p && p.Funcs.all (a2g p)) = false ∧ o = (none, 50)) ∨
 (a3F p = true ∧ (∃ f ∈ p.Funcs, Bad p f) ∧ o = (none, 50)) ∨
 (a3F p = true ∧ (∀ f ∈ p.Funcs, ∃ R, Sol p f R) ∧ (∃ f ∈ p.Funcs, Deep p f) ∧ o = (none, 31)) ∨
 (a3F p = true ∧ (∀ f ∈ p.Funcs, ¬ Deep p f) ∧ ∃ T : a0o, o = (some T, 0) ∧ T.Reached.length = p.Funcs.length ∧ T.Stacks.length = p.Funcs.length ∧
  ∀ (k : Nat) f, p.Funcs[k]? = some f → ∃ rd st, T.Reached[k]? = some rd ∧ T.Stacks[k]? = some st ∧ c2x p f rd st)

structure c7y (p : Program) (j : Nat) (s : Bool × List (List Bool) × List (List (List Int))) : Prop where
 l1 : s.2.1.length = j
 l2 : s.2.2.length = j
 dp : s.1 = true ↔ ∃ (k : Nat) (f : Func), k < j ∧ p.Funcs[k]? = some f ∧ Deep p f
 ok : ∀ (k : Nat) f, k < j → p.Funcs[k]? = some f → ∃ rd st, s.2.1[k]? = some rd ∧ s.2.2[k]? = some st ∧ c2x p f rd st

theorem a8v (p : Program) (hl : p.Funcs.length ≤ 1048576) : ∃ o, l7 1048577 p = some o ∧ c7x p o := by
 unfold l7
 obtain ⟨l, he⟩ := b1b p
 rw [he]
 simp only [Option.bind_some]
 cases henc : encP p with
 | false => exact ⟨(none, 30), rfl, .inl ⟨henc, rfl⟩⟩
 | true =>
   have e0 : ((if true = true then (0 : Int) else 30) != 0) = false := rfl
   simp only [e0, Bool.false_eq_true, if_false]
   rw [a9c p hl]
   simp only [Option.bind_some]
   cases hbd : a3A p with
   | false => exact ⟨(none, 31), rfl, .inr (.inl ⟨henc, hbd, rfl⟩)⟩
   | true =>
     simp only [Bool.not_true, Bool.false_eq_true, if_false]
     have henc2 := henc
     unfold encP at henc2
     simp only [Bool.and_eq_true, decide_eq_true_eq, List.all_eq_true] at henc2
     have hmain : ∀ {β : Type} (K : Bool → Option β), jp K (fun k_3 => ((r7 p.Funcs 0).bind fun y_5 => (if (decide (y_5.Params > 0)) then (k_3 true) else (k_3 y_5.Result)))) = K (!a6O p) := by
      intro β K
      unfold jp a6O
      match hf : p.Funcs with
      | [] => rw [hf] at henc2; simp at henc2
      | f :: r =>
        have hfp := a2e (henc2.2 f (by rw [hf]; simp))
        show ((r7 (f :: r) ((0 : Nat) : Int)).bind _) = _
        rw [p5]
        simp only [List.getElem?_cons_zero, Option.bind_some]
        by_cases h0 : f.Params > 0
        ·have : ¬ f.Params = 0 := by omega
         simp [h0, this]
        ·have : f.Params = 0 := by omega
         simp [h0, this]
     rw [hmain]
     cases hm : a6O p with
     | false => exact ⟨(none, 50), rfl, .inr (.inr (.inl ⟨henc, hbd, by rw [hm]; rfl, rfl⟩))⟩
     | true =>
       simp only [Bool.not_true, Bool.false_eq_true, if_false]
       have L := rng_inv (σ := Unit) (ρ := Option (Option a0o × Int)) (xs := p.Funcs) (s0 := ()) (a2g p) (some (none, 50)) (fun _ _ => True)
        (body := fun (i_7 : Nat) (f_8 : Func) (s_6 : Unit) => (((w5 p f_8).bind fun hea_10 => (if (!hea_10) then (some (.ret (some (none, 50)))) else (some (.nxt ())))) : Option (Stp Unit (Option ((Option a0o) × Int))))) zO trivial (fun i x s hx _ => by
         rw [b7F p x (henc2.2 x (List.mem_of_getElem? hx)) hl]
         cases a2g p x with
         | false => rfl
         | true => exact ⟨(), rfl, trivial⟩)
       cases hh : p.Funcs.all (a2g p) with
       | false =>
         rw [hh] at L
         simp only [Bool.false_eq_true, if_false] at L
         rw [L]
         exact ⟨(none, 50), rfl, .inr (.inr (.inl ⟨henc, hbd, by rw [hm, hh]; rfl, rfl⟩))⟩
       | true =>
         rw [hh] at L
         simp only [if_true] at L
         obtain ⟨_, e1, _⟩ := L
         rw [e1]
         simp only [Option.bind_some, oc]
         have hgood : a3F p = true := by unfold a3F; rw [henc, hbd, hm, hh]; rfl
         refine b1g (rng_ex (c7y p) _ zO ?h0 ?h ?hQ)
         case h0 => exact ⟨rfl, rfl, ⟨fun e => (Bool.false_ne_true e).elim, fun ⟨k, f, hk, _⟩ => by omega⟩, fun k f hk => by omega⟩
         case hQ =>
          intro s hs
          cases hd : s.1 with
          | true =>
            refine ⟨(none, 31), by simp only [oc]; rw [hd]; rfl, .inr (.inr (.inr (.inr (.inl ⟨hgood, fun f hf => ?_, ?_, rfl⟩))))⟩
            ·obtain ⟨k, hk⟩ := List.getElem?_of_mem hf
             obtain ⟨_, _, _, _, R, hR, _⟩ := hs.ok k f (List.getElem?_eq_some_iff.1 hk).1 hk
             exact ⟨R, hR⟩
            ·obtain ⟨k, f, _, h2, h3⟩ := hs.dp.1 hd
             exact ⟨f, List.mem_of_getElem? h2, h3⟩
          | false =>
            refine ⟨(some ⟨s.2.1, s.2.2⟩, 0), by simp only [oc]; rw [hd]; rfl, .inr (.inr (.inr (.inr (.inr ⟨hgood, fun f hf hdp => ?_, ⟨s.2.1, s.2.2⟩, rfl, hs.l1, hs.l2, fun k f hk => hs.ok k f (List.getElem?_eq_some_iff.1 hk).1 hk⟩))))⟩
            obtain ⟨k, hk⟩ := List.getElem?_of_mem hf
            have := hs.dp.2 ⟨k, f, (List.getElem?_eq_some_iff.1 hk).1, hk, hdp⟩
            rw [hd] at this; cases this
         intro i f s hi hs
         have hmem := List.mem_of_getElem? hi
         have hilt := (List.getElem?_eq_some_iff.1 hi).1
         have hF := a8u hgood hmem
         obtain ⟨o, ho, ha⟩ := a7D p f hF
         rw [ho]
         simp only [Option.bind_some]
         rcases ha with ⟨hb, rfl⟩ | ⟨R, hR, h0, h1, h2, h3, h4⟩
         ·right
          exact ⟨some (none, 50), rfl, _, rfl, .inr (.inr (.inr (.inl ⟨hgood, ⟨f, hmem, hb⟩, rfl⟩)))⟩
         ·left
          have e2 : (o.2.2.2 != 0) = false := by rw [h0]; rfl
          simp only [e2, Bool.false_eq_true, if_false]
          have hjp : ∀ {β : Type} (K : Bool → Option β), jp K (fun k_16 => (if s.1 then (k_16 true) else (k_16 o.2.2.1))) = K (s.1 || o.2.2.1) := by
           intro β K; unfold jp; cases s.1 <;> rfl
          rw [hjp, appL_of (by have := hs.l1; simp; omega)]
          simp only [Option.bind_some]
          rw [appL_of (by have := hs.l2; simp; omega)]
          simp only [Option.bind_some]
          refine ⟨_, rfl, by simp [hs.l1], by simp [hs.l2], ?_, fun k g hk hg => ?_⟩
          ·simp only [Bool.or_eq_true]
           constructor
           ·rintro (e | e)
            ·obtain ⟨k, g, a, b, c⟩ := hs.dp.1 e
             exact ⟨k, g, by omega, b, c⟩
            ·exact ⟨i, f, by omega, hi, h3.1 e⟩
           ·rintro ⟨k, g, a, b, c⟩
            by_cases e : k = i
            ·subst e
             rw [hi] at b; cases b
             exact .inr (h3.2 c)
            ·exact .inl (hs.dp.2 ⟨k, g, by omega, b, c⟩)
          ·by_cases e : k = i
           ·subst e
            rw [hi] at hg; cases hg
            refine ⟨o.1, o.2.1, ?_, ?_, R, hR, h1, h2, h4⟩
            ·show (s.2.1 ++ [o.1])[k]? = _
             rw [List.getElem?_append_right (by rw [hs.l1]; exact Nat.le_refl _), hs.l1]; simp
            ·show (s.2.2 ++ [o.2.1])[k]? = _
             rw [List.getElem?_append_right (by rw [hs.l2]; exact Nat.le_refl _), hs.l2]; simp
           ·obtain ⟨rd, st, a, b, c⟩ := hs.ok k g zO hg
            refine ⟨rd, st, ?_, ?_, c⟩
            ·show (s.2.1 ++ [o.1])[k]? = _
             rw [List.getElem?_append_left (by rw [hs.l1]; omega)]; exact a
            ·show (s.2.2 ++ [o.2.1])[k]? = _
             rw [List.getElem?_append_left (by rw [hs.l2]; omega)]; exact b

theorem Der.le {p f a x} (d : Der p f a x) (h : ¬ Deep p f) : x.length ≤ 16 := by
 cases d with
 | start => simp
 | go d hi hs hb =>
   rename_i a' s i
   rcases Nat.lt_or_ge 16 x.length with h1 | h1
   ·exact (h ⟨a', s, i, x, d, hi, hs, h1⟩).elim
   ·exact h1
end Go.Proofs.Ytnpemocpfdgaoaa

/- Runs of checked programs: kinds of words, pointers. -/
namespace Go.Proofs.Ytnpemocpfdgaoaa
open Go Go.Ab Go.RowKit
set_option maxRecDepth 20000
theorem a2R {a : Int} (h : 0 ≤ a ∧ a < 18446744073709551616) : IntKind.u64.wrap a = a := by
 exact a6x (x := a) zO
theorem b1i {a b : Nat} (ha : a < 1073741824) (hb : b < 256) : a8o a b = (((a + 1) * 256 + b : Nat) : Int) := by
 unfold a8o
 have e1 : IntKind.i64.wrap ((a : Int) + 1) = ((a + 1 : Nat) : Int) := by rw [r9 zO]; omega
 have e2 : min (Int.toNat 8) IntKind.u64.bits = 8 := rfl
 rw [e1, a2R (a := ((a + 1 : Nat) : Int)) zO, e2, a2R (a := ((a + 1 : Nat) : Int) * 2 ^ 8) zO, a2R (a := (b : Int)) zO]
 have e3 : ((a + 1 : Nat) : Int) * (2 : Int) ^ 8 = (((a + 1) <<< 8 : Nat) : Int) := by rw [Nat.shiftLeft_eq]; simp
 rw [e3, BitVec.toNat_or]
 simp only [BitVec.ofInt_natCast, BitVec.toNat_ofNat]
 have e4 : IntKind.u64.bits = 64 := rfl
 rw [e4]
 have l1 : (a + 1) <<< 8 < 2 ^ 64 := by rw [Nat.shiftLeft_eq]; omega
 rw [Nat.mod_eq_of_lt l1, Nat.mod_eq_of_lt zO, ← Nat.shiftLeft_add_eq_or_of_lt zO, Nat.shiftLeft_eq, a2R zO]
theorem b7J {a b : Nat} (ha : a < 1073741824) (hb : b < 256) : b1z (((a + 1) * 256 + b : Nat) : Int) = a := by
 unfold b1z
 have e2 : min (Int.toNat 8) IntKind.u64.bits = 8 := rfl
 have e1 : Int.fdiv (((a + 1) * 256 + b : Nat) : Int) ((2 : Int) ^ 8) = ((a + 1 : Nat) : Int) := by
  rw [Int.fdiv_eq_ediv_of_nonneg _ zD]
  omega
 rw [e2, e1, r9 (x := ((a + 1 : Nat) : Int)) zO, r9 zO]
 omega
theorem b7K {a b : Nat} (ha : a < 1073741824) (hb : b < 256) : b2u (((a + 1) * 256 + b : Nat) : Int) = b := by
 unfold b2u
 rw [BitVec.toNat_and]
 have e4 : IntKind.u64.bits = 64 := rfl
 rw [e4]
 have e5 : (255 : Int) = ((255 : Nat) : Int) := rfl
 rw [e5]
 simp only [BitVec.ofInt_natCast, BitVec.toNat_ofNat]
 rw [Nat.mod_eq_of_lt zO, Nat.mod_eq_of_lt zO, show 255 = 2 ^ 8 - 1 from rfl, Nat.and_two_pow_sub_one_eq_mod, a2R zO]
 omega
def PtrOK (fs : List Func) (v : Int) : Prop := v = 0 ∨ ∃ (a b : Nat) (f : Func), fs.reverse[a]? = some f ∧ f.Locals[b]? = some 0 ∧ v = a8o a b
def WV (v : Int) : Prop := 0 ≤ v ∧ v < 18446744073709551616
def VOK (fs : List Func) (k v : Int) : Prop := WV v ∧ (k = 1 → PtrOK fs v)
def LOK (fs : List Func) : List Int → List Int → Prop
 | [], [] => True
 | k :: ks, v :: vs => VOK fs k v ∧ LOK fs ks vs
 | _, _ => False
theorem PtrOK.up {fs : List Func} {g : Func} {v : Int} (h : PtrOK fs v) : PtrOK (g :: fs) v := by
 rcases h with h | ⟨a, b, f, h1, h2, h3⟩
 ·exact .inl h
 ·refine .inr ⟨a, b, f, ?_, h2, h3⟩
  rw [List.reverse_cons, List.getElem?_append_left (List.getElem?_eq_some_iff.1 h1).1]
  exact h1
theorem LOK.up {fs : List Func} {g : Func} : ∀ {ks vs : List Int}, LOK fs ks vs → LOK (g :: fs) ks vs
 | [], [], _ => trivial
 | _ :: _, _ :: _, h => ⟨⟨h.1.1, fun e => (h.1.2 e).up⟩, h.2.up⟩
theorem LOK.len {fs : List Func} : ∀ {ks vs : List Int}, LOK fs ks vs → ks.length = vs.length
 | [], [], _ => rfl
 | _ :: _, _ :: _, h => by simp [h.2.len]
theorem LOK.app {fs : List Func} : ∀ {a b v w : List Int}, LOK fs a v → LOK fs b w → LOK fs (a ++ b) (v ++ w)
 | [], _, [], _, _, h => h
 | _ :: _, _, _ :: _, _, h, k => ⟨h.1, h.2.app k⟩
theorem LOK.split {fs : List Func} : ∀ {a b vs : List Int}, LOK fs (a ++ b) vs → ∃ v w, vs = v ++ w ∧ LOK fs a v ∧ LOK fs b w
 | [], _, vs, h => ⟨[], vs, rfl, trivial, h⟩
 | _ :: a, b, [], h => h.elim
 | _ :: a, b, x :: vs, h => by
   obtain ⟨v, w, rfl, h1, h2⟩ := LOK.split (a := a) (b := b) h.2
   exact ⟨x :: v, w, rfl, ⟨h.1, h1⟩, h2⟩
theorem LOK.nil {fs : List Func} {vs : List Int} (h : LOK fs [] vs) : vs = [] := by cases vs with | nil => rfl | cons => exact h.elim
theorem LOK.one {fs : List Func} {k : Int} {vs : List Int} (h : LOK fs [k] vs) : ∃ v, vs = [v] ∧ VOK fs k v := by
 match vs, h with
 | [v], h => exact ⟨v, rfl, h.1⟩
theorem LOK.two {fs : List Func} {k l : Int} {vs : List Int} (h : LOK fs [k, l] vs) : ∃ v w, vs = [v, w] ∧ VOK fs k v ∧ VOK fs l w := by
 match vs, h with
 | [v, w], h => exact ⟨v, w, rfl, h.1, h.2.1⟩
theorem LOK.get {fs : List Func} : ∀ {ks vs : List Int} {j : Nat} {k : Int}, LOK fs ks vs → ks[j]? = some k → ∃ v, vs[j]? = some v ∧ VOK fs k v
 | [], [], j, k, _, h => by simp at h
 | _ :: _, x :: _, 0, k, h, e => by simp at e; subst e; exact ⟨x, rfl, h.1⟩
 | _ :: _, _ :: _, j + 1, k, h, e => by
   obtain ⟨v, h1, h2⟩ := LOK.get h.2 (j := j) (k := k) (by simpa using e)
   exact ⟨v, by simpa using h1, h2⟩
theorem LOK.set {fs : List Func} {v k : Int} : ∀ {ks vs : List Int} {j : Nat}, LOK fs ks vs → ks[j]? = some k → VOK fs k v → LOK fs ks (vs.set j v)
 | [], [], j, _, h, _ => by simp at h
 | _ :: _, x :: _, 0, h, e, hv => by simp at e; subst e; exact ⟨hv, h.2⟩
 | _ :: _, _ :: _, j + 1, h, e, hv => ⟨h.1, h.2.set (by simpa using e) hv⟩
theorem LOK.rev {fs : List Func} : ∀ {ks vs : List Int}, LOK fs ks vs → LOK fs ks.reverse vs.reverse
 | [], [], _ => trivial
 | k :: ks, v :: vs, h => by
   rw [List.reverse_cons, List.reverse_cons]
   exact h.2.rev.app ⟨h.1, trivial⟩
theorem LOK.zeros {fs : List Func} : ∀ (ks : List Int), LOK fs ks (List.replicate ks.length 0)
 | [] => trivial
 | k :: ks => ⟨⟨⟨Int.le_refl _, by omega⟩, fun _ => .inl rfl⟩, LOK.zeros ks⟩
theorem VOK.num {fs : List Func} {v : Int} (h : WV v) : VOK fs 0 v := ⟨h, fun h => by cases h⟩
theorem WV.zero : WV 0 := ⟨Int.le_refl _, by omega⟩
theorem WV.u (x : Int) : WV (IntKind.u64.wrap x) := by
 unfold WV
 simp [IntKind.wrap, IntKind.bits, IntKind.signed]
 omega
end Go.Proofs.Ytnpemocpfdgaoaa

/- Runs of checked programs: rows of frames, what a panic and a return come to. -/
namespace Go.Proofs.Ytnpemocpfdgaoaa
open Go Go.Ab Go.RowKit
set_option maxRecDepth 20000
def a0e (rows : List ARow) : List Func := rows.map (·.fr.f)
def DOK (p : Program) (fs : List Func) (d : a0J) : Prop := ∃ g, r7 p.Funcs d.f = some g ∧ LOK fs (g.Locals.take g.Params.toNat) d.args
structure FB (p : Program) (n : Nat) (r : List ARow) (z : ARow) : Prop where
 mem : z.fr.f ∈ p.Funcs
 lo : LOK (a0e (z :: r)) z.fr.f.Locals z.fr.lo
 nu : z.fr.nu = (r.length : Int)
 df : ∀ d ∈ z.df, DOK p (a0e (z :: r)) d
 pc : 0 ≤ z.fr.pc ∧ z.fr.pc ≤ z.fr.f.Code.length
 st : z.fr.st.length ≤ 2 * n
 ret : WV z.ret
def c7z (p : Program) (r : List ARow) (y : ARow) : Prop := ∃ R s0 i g, Sol p y.fr.f R ∧ r7 y.fr.f.Code (y.fr.pc - 1) = some i ∧ r7 p.Funcs i.Arg = some g ∧ 1 ≤ y.fr.pc ∧
 R y.fr.pc.toNat = some (s0 ++ if g.Result = true then [0] else []) ∧ LOK (a0e (y :: r)) s0.reverse y.fr.st
def b3j (p : Program) (r : List ARow) (z : ARow) : Prop := ∃ R s, Sol p z.fr.f R ∧ 0 ≤ z.fr.pc ∧ R z.fr.pc.toNat = some s ∧ LOK (a0e (z :: r)) s.reverse z.fr.st
def RT (p : Program) (n : Nat) : List ARow → Prop
 | [] => True
 | z :: r => FB p n r z ∧ (z.why = 0 → ∀ y t, r = y :: t → c7z p t y) ∧ RT p n r
def w2 : List ARow → Nat
 | [] => 0
 | z :: r => (if z.why = 2 then 1 else 0) + w2 r
def dfS : List ARow → Nat
 | [] => 0
 | z :: r => z.df.length + dfS r
structure a5Q (p : Program) : Prop where
 ok : a3F p = true
 sol : ∀ f ∈ p.Funcs, ∃ R, Sol p f R
 imm : ∀ f ∈ p.Funcs, ∀ i ∈ f.Code, WV i.Imm
theorem FB.up {p n r z} (h : FB p n r z) : FB p (n + 1) r z := ⟨h.mem, h.lo, h.nu, h.df, h.pc, by have := h.st; omega, h.ret⟩
theorem RT.up {p n} : ∀ {rows : List ARow}, RT p n rows → RT p (n + 1) rows
 | [], _ => trivial
 | _ :: _, h => ⟨h.1.up, h.2.1, h.2.2.up⟩
theorem a3p {z : ARow} {r : List ARow} : w2 (z :: r) = (if z.why = 2 then 1 else 0) + w2 r := rfl
theorem c2y : ∀ rows : List ARow, w2 rows ≤ rows.length
 | [] => Nat.le_refl _
 | z :: r => by have := c2y r; unfold w2; split <;> simp <;> omega
theorem c2z : ∀ {rows : List ARow} {z : ARow}, z ∈ rows → z.df.length ≤ dfS rows
 | x :: r, z, h => by
   unfold dfS
   rcases List.mem_cons.1 h with rfl | h
   ·omega
   ·have := c2z h; omega
theorem RT.mem {p n} : ∀ {rows : List ARow} {z : ARow}, RT p n rows → z ∈ rows → ∃ r, FB p n r z
 | x :: r, z, h, hm => by
   rcases List.mem_cons.1 hm with rfl | hm
   ·exact ⟨r, h.1⟩
   ·exact h.2.2.mem hm
theorem u5 {p : Program} {f : Func} (h : FOk p f) : 0 ≤ f.Params ∧ f.Params ≤ f.Locals.length ∧ f.Locals.length ≤ 16 ∧ f.Code.length ≤ 256 ∧ f.Keep < f.Locals.length := by
 have h1 := a2e h.fp
 have h2 := h.bd
 unfold a2k at h2
 simp only [decide_eq_true_eq] at h2
 have h3 := h.hd
 unfold a2g b1c at h3
 simp only [Bool.and_eq_true, decide_eq_true_eq] at h3
 exact ⟨h1.1, h1.2.1, h2.2.1, h2.2.2, h3.1.1.2⟩
theorem a5Q.fok {p f} (G : a5Q p) (h : f ∈ p.Funcs) : FOk p f := a8u G.ok h
theorem a2f {α : Type} {l : List α} {k : Int} {x : α} (h : r7 l k = some x) : x ∈ l := List.mem_of_getElem? (g6 h).2.2
theorem a5N {p : Program} (G : a5Q p) {fs : List Func} {k : Int} {ag : List Int} {g : Func} (m : Nat) (hg : r7 p.Funcs k = some g) (h : LOK fs (g.Locals.take g.Params.toNat) ag) :
  ∃ lo, a0R p k ag m = some ⟨g, lo, [], 0, (m : Int) - 1⟩ ∧ LOK (g :: fs) g.Locals lo := by
 have hb := u5 (G.fok (a2f hg))
 have hl := h.len
 rw [List.length_take] at hl
 refine ⟨ag ++ List.replicate (g.Locals.length - ag.length) 0, ?_, ?_⟩
 ·unfold a0R
  rw [hg, Option.bind_some, if_pos zO]
 ·have h2 : LOK (g :: fs) (g.Locals.drop g.Params.toNat) (List.replicate (g.Locals.length - ag.length) 0) := by
   have := LOK.zeros (fs := g :: fs) (g.Locals.drop g.Params.toNat)
   rw [List.length_drop] at this
   rw [show g.Locals.length - ag.length = g.Locals.length - g.Params.toNat by omega]
   exact this
  have := (h.up (g := g)).app h2
  rwa [List.take_append_drop] at this
theorem a4s {p : Program} (G : a5Q p) {g : Func} (hg : g ∈ p.Funcs) {r : List ARow} {w : Int} {lo : List Int} {nu : Int} : b3j p r ⟨⟨g, lo, [], 0, nu⟩, w, [], 0⟩ := by
 obtain ⟨R, hR⟩ := G.sol g hg
 exact ⟨R, [], hR, Int.le_refl _, hR.1, trivial⟩
theorem b1j {p : Program} (G : a5Q p) {n : Nat} {z : ARow} {r : List ARow} {x : a0J} {df : List a0J} {w : Int} (hw : w ≠ 0) (hz : z.df = x :: df) (h : RT p n (z :: r)) :
  ∃ f, a0R p x.f x.args (r.length + 2) = some f ∧ b3j p ({ z with df := df } :: r) ⟨f, w, [], 0⟩ ∧ RT p n (⟨f, w, [], 0⟩ :: { z with df := df } :: r) := by
 obtain ⟨g, hg, ha⟩ := h.1.df x (by rw [hz]; exact .head _)
 obtain ⟨lo, h1, h2⟩ := a5N G (r.length + 2) hg ha
 have hm := a2f hg
 refine ⟨_, h1, a4s G hm, ⟨⟨hm, h2, ?_, nofun, ⟨Int.le_refl _, by show (0 : Int) ≤ _; omega⟩, Nat.zero_le _, .zero⟩, fun e => absurd e hw, ⟨⟨h.1.mem, h.1.lo, h.1.nu, fun d hd => h.1.df d (by rw [hz]; exact .tail _ hd), h.1.pc, h.1.st, h.1.ret⟩, h.2.1, h.2.2⟩⟩⟩
 show ((r.length + 2 : Nat) : Int) - 1 = ((r.length + 1 : Nat) : Int)
 omega
structure UOK (p : Program) (n : Nat) (rows : List ARow) (u : Option Int × List ARow × List n9) : Prop where
 go : u.1 = none → (∃ z r, u.2.1 = z :: r ∧ b3j p r z) ∧ RT p n u.2.1 ∧ u.2.2.length = w2 u.2.1 ∧ dfS u.2.1 + 1 = dfS rows ∧ ∀ a ∈ u.2.2, WV a.v
 len : u.2.1.length ≤ rows.length + 1
theorem a4t {p : Program} (G : a5Q p) {n : Nat} : ∀ (rows : List ARow) (ps : List n9), rows ≠ [] → RT p n rows → ps.length = w2 rows + 1 → (∀ a ∈ ps, WV a.v) → ∃ u, p9 p rows ps = some u ∧ UOK p n rows u
 | [], _, h, _, _, _ => absurd rfl h
 | z :: r, ps, _, h, hp, hv => by
   cases hz : z.df with
   | cons x df =>
     obtain ⟨f, h1, h2, h3⟩ := b1j G (w := 2) zD hz h
     refine ⟨(none, ⟨f, 2, [], 0⟩ :: { z with df := df } :: r, ps), ?_, fun _ => ⟨⟨_, _, rfl, h2⟩, h3, ?_, ?_, hv⟩, ?_⟩
     ·unfold p9; rw [hz]; simp only [h1, Option.bind_some]
     ·rw [hp]; show w2 (z :: r) + 1 = (if (2 : Int) = 2 then 1 else 0) + ((if z.why = 2 then 1 else 0) + w2 r); rw [a3p]; simp; omega
     ·show ([] : List a0J).length + (df.length + dfS r) + 1 = z.df.length + dfS r; rw [hz]; simp; omega
     ·simp
   | nil =>
     obtain ⟨q, hq, hql, hqv⟩ : ∃ q, b8d z.why ps = some q ∧ q.length = w2 r + 1 ∧ ∀ a ∈ q, WV a.v := by
      rw [a3p] at hp
      unfold b8d
      split
      ·rename_i hw
       rw [if_pos hw] at hp
       match ps, hp with
       | [], hp => simp at hp
       | [a], hp => simp at hp
       | a :: b :: l, hp => exact ⟨a :: l, rfl, by simp at hp ⊢; omega, fun x hx => hv x ((List.mem_cons.1 hx).elim (fun e => e ▸ .head _) (fun e => .tail _ (.tail _ e)))⟩
      ·rename_i hw
       rw [if_neg hw] at hp
       exact ⟨ps, rfl, by omega, hv⟩
     cases r with
     | nil =>
       cases q with
       | nil => simp at hql
       | cons a l =>
         refine ⟨(some a.v, [], a :: l), ?_, nofun, by simp⟩
         unfold p9; rw [hz]; simp only [hq, Option.bind_some]; rfl
     | cons y t =>
       obtain ⟨u, h1, h2⟩ := a4t G (y :: t) q zS h.2.2 hql hqv
       refine ⟨u, ?_, fun e => ?_, ?_⟩
       ·unfold p9; rw [hz]; simp only [hq, Option.bind_some]; exact h1
       ·obtain ⟨a1, a2, a3, a4, a5⟩ := h2.go e
        refine ⟨a1, a2, a3, ?_, a5⟩
        rw [a4]; show _ = z.df.length + _; rw [hz]; simp
       ·have := h2.len; simp at this ⊢; omega
structure ROK (p : Program) (n : Nat) (rows : List ARow) (u : RO) : Prop where
 en : ∀ e, u.en = some e → e.1 ≠ 0
 go : u.en = none → (∃ z r, u.A = z :: r ∧ b3j p r z) ∧ RT p (n + 1) u.A ∧ u.ps.length = w2 u.A ∧ dfS u.A + (if u.push = true then 1 else 0) = dfS rows ∧ ∀ a ∈ u.ps, WV a.v
 len : u.A.length ≤ rows.length + 1
theorem b1k {p : Program} (G : a5Q p) {n : Nat} : ∀ (r : List ARow) (z : ARow) (ps : List n9), RT p n (z :: r) → ps.length = w2 (z :: r) → (∀ a ∈ ps, WV a.v) → ∃ u, a3N p z r ps = some u ∧ ROK p n (z :: r) u
 | r, z, ps, h, hp, hv => by
   cases hz : z.df with
   | cons x df =>
     obtain ⟨f, h1, h2, h3⟩ := b1j G (w := 1) zD hz h
     refine ⟨⟨none, true, ⟨f, 1, [], 0⟩ :: { z with df := df } :: r, ps⟩, ?_, nofun, fun _ => ⟨⟨_, _, rfl, h2⟩, h3.up, ?_, ?_, hv⟩, ?_⟩
     ·unfold a3N; rw [hz]; simp only [h1, Option.bind_some]
     ·rw [hp]; show w2 (z :: r) = (if (1 : Int) = 2 then 1 else 0) + ((if z.why = 2 then 1 else 0) + w2 r); rw [a3p]; simp
     ·show ([] : List a0J).length + (df.length + dfS r) + 1 = z.df.length + dfS r; rw [hz]; simp; omega
     ·simp
   | nil =>
     cases r with
     | nil => exact ⟨⟨some (1, 0), false, [], ps⟩, by unfold a3N; rw [hz], fun e he => by cases he; decide, nofun, by simp⟩
     | cons y t =>
       obtain ⟨hF, hW, hy⟩ := h
       by_cases h0 : z.why = 0
       ·obtain ⟨R, s0, i, g, b1, b2, b3, b4, b5, b6⟩ := hW h0 y t rfl
        have hb : y.fr.back p z.ret = some (if g.Result then { y.fr with st := z.ret :: y.fr.st } else y.fr) := by
         unfold SFr.back; rw [b2, Option.bind_some, b3, Option.bind_some]
        refine ⟨⟨none, false, { y with fr := if g.Result then { y.fr with st := z.ret :: y.fr.st } else y.fr } :: t, ps⟩, ?_, nofun, fun _ => ⟨⟨_, _, rfl, ?_⟩, ?_, ?_, ?_, hv⟩, by simp⟩
        ·unfold a3N; rw [hz]; simp only; rw [if_pos h0, hb]; rfl
        ·cases hg : g.Result with
         | true =>
           rw [hg] at b5
           refine ⟨R, _, b1, by show 0 ≤ y.fr.pc; omega, b5, ?_⟩
           rw [if_pos rfl, List.reverse_append]
           exact ⟨.num hF.ret, b6⟩
         | false =>
           rw [hg] at b5
           refine ⟨R, _, b1, by show 0 ≤ y.fr.pc; omega, b5, ?_⟩
           simpa using b6
        ·have hy1 := hy.up
         refine ⟨⟨?_, ?_, ?_, ?_, ?_, ?_, hy1.1.ret⟩, hy1.2.1, hy1.2.2⟩
         ·split <;> exact hy.1.mem
         ·cases g.Result <;> exact hy.1.lo
         ·cases g.Result <;> exact hy.1.nu
         ·cases g.Result <;> exact hy.1.df
         ·cases g.Result <;> exact hy.1.pc
         ·have := hy.1.st
          cases g.Result <;> simp <;> omega
        ·rw [hp]; show (if z.why = 2 then 1 else 0) + w2 (y :: t) = w2 (y :: t); rw [if_neg zO]; simp
        ·show dfS (y :: t) + 0 = z.df.length + dfS (y :: t); rw [hz]; simp
       by_cases h2 : z.why = 2
       ·have hp' : ps.length = 1 + w2 (y :: t) := by rw [hp]; show (if z.why = 2 then 1 else 0) + _ = _; rw [if_pos h2]
        cases ps with
        | nil => simp at hp'; omega
        | cons a l =>
        have hl : l.length = w2 (y :: t) := by simp at hp'; omega
        cases ha : a.rcv with
        | true =>
          obtain ⟨v, hkv, hvv⟩ : ∃ v, a8P y.fr = some v ∧ WV v := by
           unfold a8P
           split
           ·exact ⟨0, rfl, .zero⟩
           ·have hk := (u5 (G.fok hy.1.mem)).2.2.2.2
            have hll := hy.1.lo.len
            obtain ⟨w, w1, w2⟩ := hy.1.lo.get (j := y.fr.f.Keep.toNat) (List.getElem?_eq_getElem zO)
            exact ⟨w, by rw [a1S zO (by omega : y.fr.f.Keep.toNat < y.fr.lo.length)]; rw [List.getElem?_eq_getElem zO] at w1; exact w1, w2.1⟩
          obtain ⟨u, e1, e2⟩ := b1k G t { y with ret := v } l ⟨⟨hy.1.mem, hy.1.lo, hy.1.nu, hy.1.df, hy.1.pc, hy.1.st, hvv⟩, hy.2.1, hy.2.2⟩ hl (fun x hx => hv x (.tail _ hx))
          refine ⟨u, ?_, e2.en, fun e => ?_, ?_⟩
          ·unfold a3N; rw [hz]; simp only; rw [if_neg h0, if_pos h2, ha, if_pos rfl, hkv, Option.bind_some]; exact e1
          ·obtain ⟨a1, a2, a3, a4, a5⟩ := e2.go e
           refine ⟨a1, a2, a3, ?_, a5⟩
           rw [a4]; show dfS (y :: t) = z.df.length + dfS (y :: t); rw [hz]; simp
          ·have := e2.len; simp at this ⊢; omega
        | false =>
          obtain ⟨w, e1, e2⟩ := a4t G (y :: t) (a :: l) zS hy (by simp [hl]) hv
          refine ⟨⟨w.1.map fun v => (2, v), w.1.isNone, w.2.1, w.2.2⟩, ?_, fun e he => by (cases hw1 : w.1 <;> rw [hw1] at he <;> cases he; show (2 : Int) ≠ 0; decide), fun e => ?_, ?_⟩
          ·unfold a3N; rw [hz]; simp only; rw [if_neg h0, if_pos h2, ha, if_neg zS, e1]; rfl
          ·have hn : w.1 = none := by simpa using e
           obtain ⟨a1, a2, a3, a4, a5⟩ := e2.go hn
           refine ⟨a1, a2.up, a3, ?_, a5⟩
           rw [hn]
           show dfS w.2.1 + 1 = z.df.length + dfS (y :: t)
           rw [a4, hz]; simp
          ·have := e2.len; simp at this ⊢; omega
       ·obtain ⟨u, e1, e2⟩ := b1k G t y ps hy (by rw [hp]; show (if z.why = 2 then 1 else 0) + _ = _; rw [if_neg h2]; simp) hv
        refine ⟨u, ?_, e2.en, fun e => ?_, ?_⟩
        ·unfold a3N; rw [hz]; simp only; rw [if_neg h0, if_neg h2]; exact e1
        ·obtain ⟨a1, a2, a3, a4, a5⟩ := e2.go e
         refine ⟨a1, a2, a3, ?_, a5⟩
         rw [a4]; show dfS (y :: t) = z.df.length + dfS (y :: t); rw [hz]; simp
        ·have := e2.len; simp at this ⊢; omega
 termination_by r => r.length
end Go.Proofs.Ytnpemocpfdgaoaa

/- Runs of checked programs: each step can be taken. -/
namespace Go.Proofs.Ytnpemocpfdgaoaa
open Go Go.Ab Go.RowKit
set_option maxRecDepth 20000
structure a1d (p : Program) (n : Nat) (s : AS) : Prop where
 top : ∃ z r, s.rows = z :: r ∧ b3j p r z
 rt : RT p n s.rows
 pn : s.pans.length = w2 s.rows
 pv : ∀ a ∈ s.pans, WV a.v
 lv : s.live = (dfS s.rows : Int)
 lv2 : s.live ≤ n
 rn : s.rows.length ≤ n + 1
 dep : 0 ≤ s.depth ∧ s.depth ≤ n + 1
 ev : s.evs.length ≤ n
 tape : ∀ v ∈ s.tape, WV v
section
variable {p : Program} {n : Nat} {s : AS} {z : ARow} {r : List ARow}
theorem a4u {f' : SFr} {df : List a0J} {w rt : Int} (h : f'.f = z.fr.f) : a0e (⟨f', w, df, rt⟩ :: r) = a0e (z :: r) := by simp [a0e, h]
theorem b2J (G : a5Q p) (hm : z.fr.f ∈ p.Funcs) (h : b3j p r z) : ∃ i R t top vs st1, r7 z.fr.f.Code z.fr.pc = some i ∧ Sol p z.fr.f R ∧ z.fr.st = vs ++ st1 ∧ LOK (a0e (z :: r)) (eff p z.fr.f i top).1.reverse vs ∧ LOK (a0e (z :: r)) t.reverse st1 ∧
  (∀ b ∈ a4y i z.fr.pc.toNat, ∃ m : Nat, b = m ∧ m < z.fr.f.Code.length ∧ R m = some (t ++ (eff p z.fr.f i top).2)) ∧ a3o p z.fr.f i = true ∧ (0 ≤ i.Arg ∧ i.Arg ≤ 65535) ∧ (0 ≤ z.fr.pc ∧ z.fr.pc < z.fr.f.Code.length) ∧ WV i.Imm := by
 obtain ⟨R, s, h1, h2, h3, h4⟩ := h
 obtain ⟨_, i, s', e1, e2, e3⟩ := h1.2 _ _ h3
 have hf := G.fok hm
 unfold a3E at e2
 simp only at e2
 split at e2
 case isFalse => cases e2
 rename_i hc
 cases e2
 obtain ⟨c1, c2, _⟩ := hc
 have hs : s = s.take (s.length - (eff p z.fr.f i (a7B s)).1.length) ++ (eff p z.fr.f i (a7B s)).1 := by
  conv => lhs; rw [← List.take_append_drop (s.length - (eff p z.fr.f i (a7B s)).1.length) s]
  rw [c2]
 generalize hta : s.take (s.length - (eff p z.fr.f i (a7B s)).1.length) = t at hs e3
 generalize a7B s = top at hs e3 hta
 rw [hs, List.reverse_append] at h4
 obtain ⟨vs, st1, h5, h6, h7⟩ := h4.split
 have hlt := (List.getElem?_eq_some_iff.1 e1).1
 have hcode : a3o p z.fr.f i = true := by
  have := hf.hd
  unfold a2g at this
  simp only [Bool.and_eq_true, List.all_eq_true] at this
  exact this.2 i (List.mem_of_getElem? e1)
 refine ⟨i, R, t, top, vs, st1, ?_, h1, h5, h6, h7, e3, hcode, hf.arg e1, ⟨h2, by omega⟩, G.imm _ hm _ (List.mem_of_getElem? e1)⟩
 rw [show z.fr.pc = ((z.fr.pc.toNat : Nat) : Int) by omega, p5]
 exact e1
theorem Sol.lt {f : Func} {R : Nat → Option (List Int)} (h : Sol p f R) {m : Nat} {s : List Int} (e : R m = some s) : m < f.Code.length := by
 obtain ⟨_, i, s', e1, _⟩ := h.2 _ _ e
 exact (List.getElem?_eq_some_iff.1 e1).1
theorem a7E (T : a1d p n s) (hs : s.rows = z :: r) {s' : AS} {f' : SFr} {R : Nat → Option (List Int)} {s2 : List Int} {df : List a0J} (hf : f'.f = z.fr.f) (hlo : LOK (a0e (z :: r)) z.fr.f.Locals f'.lo) (hnu : f'.nu = z.fr.nu) (hR : Sol p z.fr.f R) (hpc0 : 0 ≤ f'.pc)
  (hRp : R f'.pc.toNat = some s2) (hst : LOK (a0e (z :: r)) s2.reverse f'.st) (hlen : f'.st.length ≤ z.fr.st.length + 2) (hrows : s'.rows = ⟨f', z.why, df, z.ret⟩ :: r) (hdf : ∀ d ∈ df, DOK p (a0e (z :: r)) d)
  (hpans : s'.pans.length = s.pans.length) (hpv : ∀ a ∈ s'.pans, WV a.v) (hlive : s'.live + z.df.length = s.live + df.length) (hl2 : s'.live ≤ s.live + 1) (hdep : s'.depth = s.depth) (hev : s'.evs.length ≤ n + 1) (htape : ∀ v ∈ s'.tape, WV v) : a1d p (n + 1) s' := by
 have hz := T.rt
 rw [hs] at hz
 have hfs : a0e (⟨f', z.why, df, z.ret⟩ :: r) = a0e (z :: r) := a4u hf
 have hst2 := hz.1.st
 have hpc1 := hR.lt hRp
 have hlv := T.lv
 have hl3 := T.lv2
 have hrn := T.rn
 have hd := T.dep
 rw [hs] at hlv hrn
 have hd1 : dfS (z :: r) = z.df.length + dfS r := rfl
 have hrl : (z :: r).length = r.length + 1 := rfl
 refine ⟨⟨_, _, hrows, R, s2, by rw [hf]; exact hR, hpc0, hRp, by rw [hfs]; exact hst⟩, ?_, ?_, hpv, ?_, by omega, by rw [hrows]; show r.length + 1 ≤ _; omega, by omega, hev, htape⟩
 ·rw [hrows]
  exact ⟨⟨by rw [hf]; exact hz.1.mem, by rw [hfs, hf]; exact hlo, by rw [hnu]; exact hz.1.nu, by rw [hfs]; exact hdf, ⟨hpc0, by rw [hf]; show f'.pc ≤ _; omega⟩, by show f'.st.length ≤ _; omega, hz.1.ret⟩, hz.2.1, hz.2.2.up⟩
 ·rw [hpans, T.pn, hs, hrows]; rfl
 ·rw [hrows]; show _ = ((df.length + dfS r : Nat) : Int); omega
theorem c2A (G : a5Q p) (T : a1d p n s) (hs : s.rows = z :: r) {f' : SFr} {v : Int} (hf : f'.f = z.fr.f) (hlo : f'.lo = z.fr.lo) (hnu : f'.nu = z.fr.nu) (hpc : 0 ≤ f'.pc ∧ f'.pc ≤ z.fr.f.Code.length) (hlen : f'.st.length ≤ z.fr.st.length + 2) (hv : WV v) :
  ∃ b, a6P p s (⟨f', z.why, z.df, z.ret⟩ :: r) v = some b ∧ b.evs.length ≤ n + 1 ∧ (b.ek = 0 → a1d p (n + 1) b) := by
 have hz := T.rt
 rw [hs] at hz
 have hfs : a0e (⟨f', z.why, z.df, z.ret⟩ :: r) = a0e (z :: r) := a4u hf
 have hst2 := hz.1.st
 have hRT : RT p (n + 1) (⟨f', z.why, z.df, z.ret⟩ :: r) := ⟨⟨by rw [hf]; exact hz.1.mem, by rw [hfs, hf, hlo]; exact hz.1.lo, by rw [hnu]; exact hz.1.nu, by rw [hfs]; exact hz.1.df, ⟨hpc.1, by rw [hf]; exact hpc.2⟩, by show f'.st.length ≤ _; omega, hz.1.ret⟩, hz.2.1, hz.2.2.up⟩
 have hw : w2 (⟨f', z.why, z.df, z.ret⟩ :: r) = w2 (z :: r) := rfl
 have hdd : dfS (⟨f', z.why, z.df, z.ret⟩ :: r) = dfS (z :: r) := rfl
 obtain ⟨u, h1, h2⟩ := a4t G (⟨f', z.why, z.df, z.ret⟩ :: r) (⟨v, false⟩ :: s.pans) zS hRT (by rw [hw, List.length_cons, T.pn, hs]) (fun a ha => (List.mem_cons.1 ha).elim (fun e => by rw [e]; exact hv) (T.pv a))
 unfold a6P
 rw [h1]
 have hev := T.ev
 refine ⟨_, rfl, by show s.evs.length ≤ _; omega, fun hk => ?_⟩
 have hn : u.1 = none := by
  cases hu : u.1 with
  | none => rfl
  | some w => simp only [hu, Option.isSome_some, if_true] at hk; cases hk
 obtain ⟨a1, a2, a3, a4, a5⟩ := h2.go hn
 have hl := h2.len
 have hrn := T.rn
 have hd := T.dep
 have hlv := T.lv
 have hl2 := T.lv2
 rw [hs] at hrn hlv
 simp only [List.length_cons] at hl hrn
 refine ⟨a1, a2, a3, a5, ?_, ?_, ?_, ?_, by show s.evs.length ≤ _; omega, T.tape⟩
 ·simp only [hn, Option.isSome_none]
  rw [hdd] at a4
  simp; omega
 ·simp only [hn, Option.isSome_none]
  simp; omega
 ·show u.2.1.length ≤ _; omega
 ·simp only [hn, Option.isSome_none]
  simp; omega
theorem b7L (G : a5Q p) (T : a1d p n s) (hs : s.rows = z :: r) {f' : SFr} {v : Int} (hf : f'.f = z.fr.f) (hlo : f'.lo = z.fr.lo) (hnu : f'.nu = z.fr.nu) (hpc : 0 ≤ f'.pc ∧ f'.pc ≤ z.fr.f.Code.length) (hlen : f'.st.length ≤ z.fr.st.length) (hv : WV v) :
  ∃ u, a3N p ⟨f', z.why, z.df, v⟩ r s.pans = some u ∧ (u.en.elim s.ek (·.1) = 0 → a1d p (n + 1) { s with rows := u.A, pans := u.ps, ek := u.en.elim s.ek (·.1), ev := u.en.elim s.ev (·.2), depth := if u.push then max s.depth (u.A.length : Int) else s.depth, live := if u.push then s.live - 1 else s.live }) := by
 have hz := T.rt
 rw [hs] at hz
 have hfs : a0e (⟨f', z.why, z.df, v⟩ :: r) = a0e (z :: r) := a4u hf
 have hst2 := hz.1.st
 have hRT : RT p n (⟨f', z.why, z.df, v⟩ :: r) := ⟨⟨by rw [hf]; exact hz.1.mem, by rw [hfs, hf, hlo]; exact hz.1.lo, by rw [hnu]; exact hz.1.nu, by rw [hfs]; exact hz.1.df, ⟨hpc.1, by rw [hf]; exact hpc.2⟩, by show f'.st.length ≤ _; omega, hv⟩, hz.2.1, hz.2.2⟩
 have hw : w2 (⟨f', z.why, z.df, v⟩ :: r) = w2 (z :: r) := rfl
 have hdd : dfS (⟨f', z.why, z.df, v⟩ :: r) = dfS (z :: r) := rfl
 obtain ⟨u, h1, h2⟩ := b1k G r ⟨f', z.why, z.df, v⟩ s.pans hRT (by rw [hw, T.pn, hs]) T.pv
 refine ⟨u, h1, fun hk => ?_⟩
 have hn : u.en = none := by
  cases hu : u.en with
  | none => rfl
  | some e => rw [hu] at hk; exact absurd hk (h2.en e hu)
 obtain ⟨a1, a2, a3, a4, a5⟩ := h2.go hn
 have hl := h2.len
 have hrn := T.rn
 have hd := T.dep
 have hlv := T.lv
 have hl2 := T.lv2
 have hev := T.ev
 rw [hs] at hrn hlv
 rw [hdd] at a4
 simp only [List.length_cons] at hl hrn
 refine ⟨a1, a2, a3, a5, ?_, ?_, ?_, ?_, by show s.evs.length ≤ _; omega, T.tape⟩
 ·show (if u.push then s.live - 1 else s.live) = ((dfS u.A : Nat) : Int)
  split
  ·rename_i hp; rw [if_pos hp] at a4; omega
  ·rename_i hp; rw [if_neg hp] at a4; omega
 ·show (if u.push then s.live - 1 else s.live) ≤ _
  split <;> omega
 ·show u.A.length ≤ _; omega
 ·show 0 ≤ (if u.push then max s.depth (u.A.length : Int) else s.depth) ∧ (if u.push then max s.depth (u.A.length : Int) else s.depth) ≤ _
  split <;> omega
end
end Go.Proofs.Ytnpemocpfdgaoaa

/- Runs of checked programs: each step can be taken, operation by operation. -/
namespace Go.Proofs.Ytnpemocpfdgaoaa
open Go Go.Ab Go.RowKit
set_option maxRecDepth 20000
section
variable {p : Program} {n : Nat} {s : AS} {z : ARow} {r : List ARow}
theorem bWV {b : Bool} : WV (if b then 1 else 0) := by cases b <;> exact ⟨by decide, by decide⟩
theorem b1l (b : Bool) : a0q b = some (if b then 1 else 0) := by cases b <;> rfl
theorem c2B {a b : Int} (h : WV a) : WV (shR .u64 a b) := by
 unfold shR
 obtain ⟨h1, h2⟩ := h
 rw [Int.fdiv_eq_ediv_of_nonneg _ (Int.pow_nonneg zD)]
 exact ⟨Int.ediv_nonneg h1 (Int.pow_nonneg zD), Int.lt_of_le_of_lt (Int.ediv_le_self _ h1) h2⟩
theorem c5p {op a b : Int} (ha : WV a) (hb : WV b) : ∃ v e, z9 op a b = some (v, e) ∧ WV v := by
 unfold z9 jp
 by_cases h7 : op = 7
 ·exact ⟨_, _, by simp [h7]; exact ⟨rfl, rfl⟩, .u _⟩
 by_cases h8 : op = 8
 ·exact ⟨_, _, by simp [h8]; exact ⟨rfl, rfl⟩, .u _⟩
 by_cases h9 : op = 9
 ·exact ⟨_, _, by simp [h9]; exact ⟨rfl, rfl⟩, .u _⟩
 by_cases hd : op = 10 ∨ op = 11
 ·have hdiv : ∀ x y : Int, ∃ v e, x9 op x y = some (v, e) ∧ WV v := fun x y => by
   unfold x9
   by_cases h0 : y = 0
   ·exact ⟨0, 10, by simp [h0], .zero⟩
   ·have hg : gd (y ≠ 0) = (id : Option (Int × Int) → Option (Int × Int)) := by funext q; unfold gd; rw [if_pos h0]; rfl
    rcases hd with h | h
    ·exact ⟨_, _, by simp [h0, h, gd]; exact ⟨rfl, rfl⟩, .u _⟩
    ·exact ⟨_, _, by simp [h0, h, gd]; exact ⟨rfl, rfl⟩, .u _⟩
  obtain ⟨v, e, h1, h2⟩ := hdiv (I64 a) (I64 b)
  refine ⟨v, e, ?_, h2⟩
  rcases hd with h | h
  ·subst h; simp [h1]
  ·subst h; simp [h1]
 have h10 : op ≠ 10 := fun h => hd (.inl h)
 have h11 : op ≠ 11 := fun h => hd (.inr h)
 by_cases h12 : op = 12
 ·exact ⟨_, _, by simp [h12]; exact ⟨rfl, rfl⟩, .u _⟩
 by_cases h13 : op = 13
 ·exact ⟨_, _, by simp [h13]; exact ⟨rfl, rfl⟩, .u _⟩
 by_cases h14 : op = 14
 ·exact ⟨_, _, by simp [h14]; exact ⟨rfl, rfl⟩, .u _⟩
 by_cases h15 : op = 15
 ·exact ⟨_, _, by simp [h15, gd, hb.1]; exact ⟨rfl, rfl⟩, .u _⟩
 by_cases h16 : op = 16
 ·exact ⟨_, _, by simp [h16, gd, hb.1]; exact ⟨rfl, rfl⟩, c2B ha⟩
 by_cases h17 : op = 17
 ·have h0 : 0 ≤ (if 63 < b then 63 else b) := by have := hb.1; split <;> omega
  exact ⟨_, _, by simp [h17, gd, h0]; exact ⟨rfl, rfl⟩, .u _⟩
 by_cases h18 : op = 18
 ·exact ⟨if a == b then 1 else 0, 0, by simp [h18, b1l], bWV⟩
 by_cases h19 : op = 19
 ·exact ⟨if decide (I64 a < I64 b) then 1 else 0, 0, by simp [h19, b1l], bWV⟩
 by_cases h20 : op = 20
 ·exact ⟨if decide (a < b) then 1 else 0, 0, by simp [h20, b1l], bWV⟩
 exact ⟨0, 2, by simp [h7, h8, h9, h10, h11, h12, h13, h14, h15, h16, h17, h18, h19, h20], .zero⟩
theorem b1m {k : Nat} {v : Int} (rows : List ARow) (j : Nat) : a0e (rows.modify j (a7s k v)) = a0e rows := by
 unfold a0e
 rw [a5L (f := fun z : ARow => z.fr.f) (g := a7s k v) (h := id) (fun _ => rfl), List.modify_id]
theorem b3k {k : Nat} {v : Int} : ∀ (rows : List ARow) (j : Nat), w2 (rows.modify j (a7s k v)) = w2 rows
 | [], 0 => rfl
 | [], _ + 1 => rfl
 | z :: r, 0 => rfl
 | z :: r, j + 1 => by
   rw [List.modify_succ_cons, a3p, a3p, b3k r j]
theorem b1n {k : Nat} {v : Int} : ∀ (rows : List ARow) (j : Nat), dfS (rows.modify j (a7s k v)) = dfS rows
 | [], 0 => rfl
 | [], _ + 1 => rfl
 | z :: r, 0 => rfl
 | z :: r, j + 1 => by
   rw [List.modify_succ_cons]
   show z.df.length + dfS (r.modify j (a7s k v)) = z.df.length + dfS r
   rw [b1n r j]
theorem b3l {k : Nat} {v : Int} (hv : WV v) : ∀ (rows : List ARow) (j : Nat), RT p n rows → (∀ y, rows[j]? = some y → y.fr.f.Locals[k]? = some 0) → RT p n (rows.modify j (a7s k v))
 | [], 0, _, _ => trivial
 | [], _ + 1, _, _ => trivial
 | z :: r, 0, h, hk => by
   rw [List.modify_zero_cons]
   exact ⟨⟨h.1.mem, h.1.lo.set (hk z rfl) (.num hv), h.1.nu, h.1.df, h.1.pc, h.1.st, h.1.ret⟩, h.2.1, h.2.2⟩
 | z :: r, j + 1, h, hk => by
   rw [List.modify_succ_cons]
   have hfs : a0e (z :: r.modify j (a7s k v)) = a0e (z :: r) := by
    show z.fr.f :: a0e (r.modify j (a7s k v)) = z.fr.f :: a0e r
    rw [b1m]
   refine ⟨⟨h.1.mem, by rw [hfs]; exact h.1.lo, by rw [List.length_modify]; exact h.1.nu, by rw [hfs]; exact h.1.df, h.1.pc, h.1.st, h.1.ret⟩, fun h0 y t e => ?_, b3l hv r j h.2.2 (fun y hy => hk y (by simpa using hy))⟩
   cases r with
   | nil => cases j <;> simp at e
   | cons y0 t0 =>
     have hW := h.2.1 h0 y0 t0 rfl
     cases j with
     | zero =>
       rw [List.modify_zero_cons] at e
       cases e
       exact hW
     | succ j =>
       rw [List.modify_succ_cons] at e
       cases e
       obtain ⟨R, s0, i, g, b1, b2, b3, b4, b5, b6⟩ := hW
       refine ⟨R, s0, i, g, b1, b2, b3, b4, b5, ?_⟩
       have : a0e (y :: t0.modify j (a7s k v)) = a0e (y :: t0) := by
        show y.fr.f :: a0e (t0.modify j (a7s k v)) = y.fr.f :: a0e t0
        rw [b1m]
       rw [this]; exact b6
theorem a9d {f : Func} {i : Instr} (h : a3o p f i = true) : a2Q p f i = true := by
 unfold a3o at h
 simp only [Bool.and_eq_true] at h
 exact h.1
theorem a8w {rows : List ARow} {pt : Int} (h : RT p n rows) (hp : PtrOK (a0e rows) pt) (h0 : pt ≠ 0) (hl : rows.length < 1073741824) (G : a5Q p) : ∃ (a b : Nat) (w : Int), a6L rows pt = some (a, b, w) ∧ WV w ∧ a < rows.length ∧ ∀ y, rows[rows.length - 1 - a]? = some y → y.fr.f.Locals[b]? = some 0 := by
 rcases hp with hp | ⟨a, b, f, h1, h2, h3⟩
 ·exact absurd hp h0
 unfold a0e at h1
 rw [← List.map_reverse, List.getElem?_map] at h1
 obtain ⟨y, h4, rfl⟩ := Option.map_eq_some_iff.1 h1
 have ha := (List.getElem?_eq_some_iff.1 h4).1
 rw [List.length_reverse] at ha
 obtain ⟨r', hB⟩ := h.mem (z := y) (by simpa using List.mem_of_getElem? h4)
 obtain ⟨w, h5, h6⟩ := hB.lo.get h2
 have hb : b < 256 := by
  have := (u5 (G.fok hB.mem)).2.2.1
  have := (List.getElem?_eq_some_iff.1 h2).1
  omega
 rw [b1i zO hb] at h3
 refine ⟨a, b, w, ?_, h6.1, ha, fun y' hy' => ?_⟩
 ·unfold a6L
  rw [h3, b7J zO hb, b7K zO hb, if_pos zO]
  simp only [Int.toNat_natCast]
  rw [h4, Option.bind_some, h5]; rfl
 ·rw [List.getElem?_reverse ha] at h4
  rw [h4] at hy'; cases hy'
  exact h2
end
end Go.Proofs.Ytnpemocpfdgaoaa

/- Runs of checked programs: each step can be taken. -/
namespace Go.Proofs.Ytnpemocpfdgaoaa
open Go Go.Ab Go.RowKit
set_option maxRecDepth 20000
set_option maxHeartbeats 1000000
section
variable {p : Program} {n : Nat} {s : AS} {z : ARow} {r : List ARow}
theorem c5q {f' : SFr} (hz : RT p n (z :: r)) (hf : f'.f = z.fr.f) (hlo : LOK (a0e (z :: r)) z.fr.f.Locals f'.lo) (hnu : f'.nu = z.fr.nu) (hpc : 0 ≤ f'.pc ∧ f'.pc ≤ z.fr.f.Code.length) (hlen : f'.st.length ≤ z.fr.st.length + 2) : RT p (n + 1) (⟨f', z.why, z.df, z.ret⟩ :: r) := by
 have hfs : a0e (⟨f', z.why, z.df, z.ret⟩ :: r) = a0e (z :: r) := a4u hf
 have hst2 := hz.1.st
 exact ⟨⟨by rw [hf]; exact hz.1.mem, by rw [hfs, hf]; exact hlo, by rw [hnu]; exact hz.1.nu, by rw [hfs]; exact hz.1.df, ⟨hpc.1, by rw [hf]; exact hpc.2⟩, by show f'.st.length ≤ _; omega, hz.1.ret⟩, hz.2.1, hz.2.2.up⟩
theorem b2K {k : Nat} {v : Int} (j : Nat) (h : b3j p r z) : ∃ z' r', (z :: r).modify j (a7s k v) = z' :: r' ∧ b3j p r' z' := by
 cases j with
 | zero => rw [List.modify_zero_cons]; exact ⟨_, _, rfl, h⟩
 | succ j =>
   rw [List.modify_succ_cons]
   obtain ⟨R, s, h1, h2, h3, h4⟩ := h
   refine ⟨_, _, rfl, R, s, h1, h2, h3, ?_⟩
   have : a0e (z :: r.modify j (a7s k v)) = a0e (z :: r) := by
    show z.fr.f :: a0e (r.modify j (a7s k v)) = z.fr.f :: a0e r
    rw [b1m]
   rw [this]; exact h4
theorem b7M {w : Int} {ps : List n9} (h : ∀ a ∈ ps, WV a.v) : (a2d w ps).2.length = ps.length ∧ (∀ a ∈ (a2d w ps).2, WV a.v) ∧ WV (a2d w ps).1.1 ∧ WV (a2d w ps).1.2 := by
 unfold a2d
 split
 ·exact ⟨rfl, nofun, .zero, .zero⟩
 ·rename_i x l
  split
  ·exact ⟨rfl, h, .zero, .zero⟩
  ·exact ⟨rfl, fun a ha => (List.mem_cons.1 ha).elim (fun e => by rw [e]; exact h x (.head _)) (fun e => h a (.tail _ e)), h x (.head _), (⟨by decide, by decide⟩ : WV 1)⟩
theorem b2L (G : a5Q p) (T : a1d p n s) (hs : s.rows = z :: r) (hn : n < 2097152) {f : SFr} {op k im top : Int} {R : Nat → Option (List Int)} {t vs st1 : List Int}
  (hff : f.f = z.fr.f) (hlo : f.lo = z.fr.lo) (hnu : f.nu = z.fr.nu) (hpcE : f.pc = z.fr.pc + 1) (hpc : 0 ≤ z.fr.pc ∧ z.fr.pc < z.fr.f.Code.length) (hi : r7 z.fr.f.Code z.fr.pc = some ⟨op, k, im⟩) (hS : Sol p z.fr.f R) (hzs : z.fr.st = f.st) (hst : f.st = vs ++ st1)
  (hv : LOK (a0e (z :: r)) (eff p z.fr.f ⟨op, k, im⟩ top).1.reverse vs) (ht : LOK (a0e (z :: r)) t.reverse st1)
  (hfol : ∀ b ∈ a4y ⟨op, k, im⟩ z.fr.pc.toNat, ∃ m : Nat, b = m ∧ m < z.fr.f.Code.length ∧ R m = some (t ++ (eff p z.fr.f ⟨op, k, im⟩ top).2)) (hname : a2Q p z.fr.f ⟨op, k, im⟩ = true) (harg : 0 ≤ k ∧ k ≤ 65535) (him : WV im) (hk : s.ek = 0) :
  ∃ b, w8 p s z r f op k im = some b ∧ b.evs.length ≤ n + 1 ∧ (b.ek = 0 → a1d p (n + 1) b) := by
 have hz := T.rt
 rw [hs] at hz
 have hrl : r.length ≤ n := by have := T.rn; rw [hs] at this; simpa using this
 have hev0 := T.ev
 have hev : s.evs.length ≤ n + 1 := by omega
 have hlo' : LOK (a0e (z :: r)) z.fr.f.Locals f.lo := by rw [hlo]; exact hz.1.lo
 have hpr : 0 ≤ f.pc ∧ f.pc ≤ z.fr.f.Code.length := by omega
 have hmem : f.pc ∈ [(z.fr.pc.toNat : Int) + 1] := by rw [hpcE, List.mem_singleton]; omega
 have hsl : st1.length ≤ z.fr.st.length := by rw [hzs, hst]; simp
 have fin : ∀ (f' : SFr) (ws : List Int) (s' : AS), f'.pc ∈ a4y ⟨op, k, im⟩ z.fr.pc.toNat → f'.f = f.f → LOK (a0e (z :: r)) z.fr.f.Locals f'.lo → f'.nu = f.nu → f'.st = ws ++ st1 → LOK (a0e (z :: r)) (eff p z.fr.f ⟨op, k, im⟩ top).2.reverse ws → s'.rows = ⟨f', z.why, z.df, z.ret⟩ :: r →
   s'.pans = s.pans → s'.live = s.live → s'.depth = s.depth → s'.evs.length ≤ n + 1 → (∀ v ∈ s'.tape, WV v) → a1d p (n + 1) s' := fun f' ws s' a1 a2 a3 a4 a5 a6 a7 a8 a9 a10 a11 a12 => by
  obtain ⟨m, b1, b2, b3⟩ := hfol _ a1
  have hwl := a6.len
  have hel := a7C p z.fr.f ⟨op, k, im⟩ top
  rw [List.length_reverse] at hwl
  refine a7E T hs (a2.trans hff) a3 (a4.trans hnu) hS zO (s2 := t ++ (eff p z.fr.f ⟨op, k, im⟩ top).2) (by rw [b1, Int.toNat_natCast]; exact b3) ?_ ?_ a7 hz.1.df (by rw [a8]) (by rw [a8]; exact T.pv) (by rw [a9]) (by rw [a9]; omega) a10 a11 a12
  ·rw [List.reverse_append, a5]; exact a6.app ht
  ·rw [a5, List.length_append]; omega
 have pan : ∀ (v : Int), WV v → ∃ b, a6P p s (⟨{ f with st := st1 }, z.why, z.df, z.ret⟩ :: r) v = some b ∧ b.evs.length ≤ n + 1 ∧ (b.ek = 0 → a1d p (n + 1) b) := fun v hv => c2A G T hs (f' := { f with st := st1 }) hff hlo hnu hpr (by show st1.length ≤ _; omega) hv
 have hRT : RT p (n + 1) (⟨{ f with st := st1 }, z.why, z.df, z.ret⟩ :: r) := c5q hz hff hlo' hnu hpr (by show st1.length ≤ _; omega)
 have hfs : a0e (⟨{ f with st := st1 }, z.why, z.df, z.ret⟩ :: r) = a0e (z :: r) := a4u hff
 by_cases n1 : op = 1
 ·subst n1
  obtain rfl := LOK.nil (show LOK _ [] vs from hv)
  exact ⟨goA s z r { f with st := im :: f.st }, rfl, hev, fun _ => fin { f with st := im :: f.st } [im] _ hmem rfl hlo' rfl (by show im :: f.st = _; rw [hst]; rfl) ⟨.num him, trivial⟩ rfl rfl rfl rfl hev T.tape⟩
 by_cases n2 : op = 2
 ·subst n2
  obtain rfl := LOK.nil (show LOK _ [] vs from hv)
  have hlt : k.toNat < z.fr.f.Locals.length := by
   unfold a2Q at hname
   have : k < z.fr.f.Locals.length := by simpa using hname
   omega
  have hL : z.fr.f.Locals[k.toNat]? = some (z.fr.f.Locals[k.toNat]?.getD 0) := by rw [List.getElem?_eq_getElem hlt]; rfl
  obtain ⟨v, h1, h2⟩ := hlo'.get hL
  have hg : r7 f.lo k = some v := by unfold r7; rw [if_pos harg.1]; exact h1
  exact ⟨goA s z r { f with st := v :: f.st }, by unfold w8; rw [hg]; rfl, hev, fun _ => fin { f with st := v :: f.st } [v] _ hmem rfl hlo' rfl (by show v :: f.st = _; rw [hst]; rfl) ⟨h2, trivial⟩ rfl rfl rfl rfl hev T.tape⟩
 by_cases n3 : op = 3
 ·subst n3
  have hlt : k.toNat < z.fr.f.Locals.length := by
   unfold a2Q at hname
   have : k < z.fr.f.Locals.length := by simpa using hname
   omega
  have hL : z.fr.f.Locals[k.toNat]? = some (z.fr.f.Locals[k.toNat]?.getD 0) := by rw [List.getElem?_eq_getElem hlt]; rfl
  obtain ⟨w, h1, h2⟩ := hlo'.get hL
  have hg : r7 f.lo k = some w := by unfold r7; rw [if_pos harg.1]; exact h1
  obtain ⟨v, rfl, hvk⟩ := LOK.one (show LOK _ [z.fr.f.Locals[k.toNat]?.getD 0] vs from hv)
  exact ⟨goA s z r { f with st := st1, lo := f.lo.set k.toNat v }, by unfold w8; rw [hg, hst]; rfl, hev, fun _ => fin { f with st := st1, lo := f.lo.set k.toNat v } [] _ hmem rfl (hlo'.set hL hvk) rfl rfl trivial rfl rfl rfl rfl hev T.tape⟩
 by_cases n4 : op = 4
 ·subst n4
  obtain rfl := LOK.nil (show LOK _ [] vs from hv)
  obtain ⟨hlt, hL⟩ : k < z.fr.f.Locals.length ∧ z.fr.f.Locals[k.toNat]? = some 0 := by
   unfold a2Q at hname
   simpa using hname
  have hk1 := (u5 (G.fok hz.1.mem)).2.2.1
  have e : a8o f.nu k = a8o (r.length : Nat) (k.toNat : Nat) := by rw [hnu, hz.1.nu]; congr 1; omega
  have hp : VOK (a0e (z :: r)) 1 (a8o f.nu k) := by
   rw [e]
   refine ⟨?_, fun _ => .inr ⟨r.length, k.toNat, z.fr.f, ?_, hL, rfl⟩⟩
   ·rw [b1i zO zO]; exact ⟨by omega, by omega⟩
   ·show (z.fr.f :: a0e r).reverse[r.length]? = _
    rw [List.reverse_cons, List.getElem?_append_right (by simp [a0e])]; simp [a0e]
  exact ⟨goA s z r { f with st := a8o f.nu k :: f.st }, rfl, hev, fun _ => fin { f with st := a8o f.nu k :: f.st } [a8o f.nu k] _ hmem rfl hlo' rfl (by show a8o f.nu k :: f.st = _; rw [hst]; rfl) ⟨hp, trivial⟩ rfl rfl rfl rfl hev T.tape⟩
 by_cases n5 : op = 5
 ·subst n5
  obtain ⟨pt, rfl, hpt⟩ := LOK.one (show LOK _ [1] vs from hv)
  have e : w8 p s z r f 5 k im = if pt = 0 then a6P p s (⟨{ f with st := st1 }, z.why, z.df, z.ret⟩ :: r) 18446744073709551614 else (a6L (⟨{ f with st := st1 }, z.why, z.df, z.ret⟩ :: r) pt).map fun c => goA s z r { f with st := c.2.2 :: st1 } := by unfold w8; rw [hst]; rfl
  rw [e]
  by_cases h0 : pt = 0
  ·rw [if_pos h0]; exact pan _ ⟨by decide, by decide⟩
  ·rw [if_neg h0]
   obtain ⟨a, b, w, h1, h2, h3, h4⟩ := a8w hRT (by rw [hfs]; exact hpt.2 rfl) h0 zE G
   rw [h1]
   exact ⟨_, rfl, hev, fun _ => fin { f with st := w :: st1 } [w] _ hmem rfl hlo' rfl rfl ⟨.num h2, trivial⟩ rfl rfl rfl rfl hev T.tape⟩
 by_cases n6 : op = 6
 ·subst n6
  obtain ⟨v, pt, rfl, hvv, hpt⟩ := LOK.two (show LOK _ [0, 1] vs from hv)
  have e : w8 p s z r f 6 k im = if pt = 0 then a6P p s (⟨{ f with st := st1 }, z.why, z.df, z.ret⟩ :: r) 18446744073709551614 else (a6L (⟨{ f with st := st1 }, z.why, z.df, z.ret⟩ :: r) pt).map fun c => { s with rows := a8R (⟨{ f with st := st1 }, z.why, z.df, z.ret⟩ :: r) c.1 c.2.1 v } := by unfold w8; rw [hst]; rfl
  rw [e]
  by_cases h0 : pt = 0
  ·rw [if_pos h0]; exact pan _ ⟨by decide, by decide⟩
  ·rw [if_neg h0]
   obtain ⟨a, b, w, h1, h2, h3, h4⟩ := a8w hRT (by rw [hfs]; exact hpt.2 rfl) h0 zE G
   rw [h1]
   have T1 : a1d p (n + 1) { s with rows := ⟨{ f with st := st1 }, z.why, z.df, z.ret⟩ :: r } := fin { f with st := st1 } [] _ hmem rfl hlo' rfl rfl trivial rfl rfl rfl rfl hev T.tape
   obtain ⟨zt, rt, hzt, hrun⟩ := T1.top
   cases hzt
   obtain ⟨z', r', e1, e2⟩ := b2K (k := b) (v := v) ((⟨{ f with st := st1 }, z.why, z.df, z.ret⟩ :: r).length - 1 - a) hrun
   refine ⟨_, rfl, hev, fun _ => ⟨⟨z', r', e1, e2⟩, b3l hvv.1 _ _ T1.rt h4, ?_, T1.pv, ?_, T1.lv2, ?_, T1.dep, T1.ev, T1.tape⟩⟩
   ·show s.pans.length = w2 (List.modify _ _ _); rw [b3k]; exact T1.pn
   ·show s.live = ((dfS (List.modify _ _ _) : Nat) : Int); rw [b1n]; exact T1.lv
   ·show (List.modify _ _ _).length ≤ _; rw [List.length_modify]; exact T1.rn
 by_cases n21 : op = 21
 ·subst n21
  obtain rfl := LOK.nil (show LOK _ [] vs from hv)
  exact ⟨goA s z r { f with pc := k }, rfl, hev, fun _ => fin { f with pc := k } [] _ (.head _) rfl hlo' rfl (by show f.st = _; rw [hst]) trivial rfl rfl rfl rfl hev T.tape⟩
 by_cases n22 : op = 22
 ·subst n22
  obtain ⟨v, rfl, hvv⟩ := LOK.one (show LOK _ [0] vs from hv)
  have e : w8 p s z r f 22 k im = some (goA s z r (if v = 0 then { f with pc := k, st := st1 } else { f with st := st1 })) := by unfold w8; rw [hst]; rfl
  rw [e]
  refine ⟨_, rfl, hev, fun _ => ?_⟩
  split
  ·exact fin { f with pc := k, st := st1 } [] _ (.tail _ (.head _)) rfl hlo' rfl rfl trivial rfl rfl rfl rfl hev T.tape
  ·exact fin { f with st := st1 } [] _ (by rw [show ({ f with st := st1 } : SFr).pc = (z.fr.pc.toNat : Int) + 1 from List.mem_singleton.1 hmem]; exact .head _) rfl hlo' rfl rfl trivial rfl rfl rfl rfl hev T.tape
 by_cases n31 : op = 31
 ·subst n31
  obtain ⟨v, rfl, hvv⟩ := LOK.one (show LOK _ [top] vs from hv)
  exact ⟨goA s z r { f with st := st1 }, (by unfold w8; rw [hst]; rfl), hev, fun _ => fin { f with st := st1 } [] _ hmem rfl hlo' rfl rfl trivial rfl rfl rfl rfl hev T.tape⟩
 by_cases n32 : op = 32
 ·subst n32
  obtain ⟨v, rfl, hvv⟩ := LOK.one (show LOK _ [top] vs from hv)
  exact ⟨goA s z r { f with st := v :: v :: st1 }, (by unfold w8; rw [hst]; rfl), hev, fun _ => fin { f with st := v :: v :: st1 } [v, v] _ hmem rfl hlo' rfl rfl ⟨hvv, hvv, trivial⟩ rfl rfl rfl rfl hev T.tape⟩
 by_cases n28 : op = 28
 ·subst n28
  obtain rfl := LOK.nil (show LOK _ [] vs from hv)
  have hin : WV (inV s.tape) := by
   unfold inV
   cases ht : s.tape with
   | nil => exact .zero
   | cons a l => exact T.tape a (by rw [ht]; exact .head _)
  exact ⟨{ s with tape := s.tape.tail, evs := s.evs ++ [⟨2, inV s.tape⟩], rows := { z with fr := { f with st := inV s.tape :: f.st } } :: r }, rfl, by simp; omega, fun _ => fin { f with st := inV s.tape :: f.st } [inV s.tape] _ hmem rfl hlo' rfl (by show inV s.tape :: f.st = _; rw [hst]; rfl) ⟨.num hin, trivial⟩ rfl rfl rfl rfl zE (fun v hv => T.tape v (List.mem_of_mem_tail hv))⟩
 by_cases n29 : op = 29
 ·subst n29
  obtain ⟨v, rfl, hvv⟩ := LOK.one (show LOK _ [0] vs from hv)
  exact ⟨{ s with evs := s.evs ++ [⟨1, v⟩], rows := { z with fr := { f with st := st1 } } :: r }, (by unfold w8; rw [hst]; rfl), by simp; omega, fun _ => fin { f with st := st1 } [] _ hmem rfl hlo' rfl rfl trivial rfl rfl rfl rfl zE T.tape⟩
 by_cases n23 : op = 23
 ·subst n23
  obtain ⟨g, hg⟩ : ∃ g, r7 p.Funcs k = some g := by
   unfold a2Q at hname
   have : k < p.Funcs.length := by simpa using hname
   exact ⟨_, a1S harg.1 (by omega : k.toNat < p.Funcs.length)⟩
  have hg3 := (g6 hg).2.2
  have hE : eff p z.fr.f ⟨23, k, im⟩ top = (g.Locals.take g.Params.toNat, if g.Result = true then [0] else []) := by
   have e0 : eff p z.fr.f ⟨23, k, im⟩ top = (match p.Funcs[k.toNat]? with | some g => (g.Locals.take g.Params.toNat, if (23 : Int) = 23 ∧ g.Result = true then [0] else []) | none => ([], [])) := rfl
   rw [e0, hg3]; simp
  have hgb := u5 (G.fok (a2f hg))
  rw [hE] at hv
  have hvl : vs.length = g.Params.toNat := by have := hv.len; simp [List.length_take] at this; omega
  have hag : LOK (a0e (z :: r)) (g.Locals.take g.Params.toNat) vs.reverse := by have := hv.rev; rwa [List.reverse_reverse] at this
  have hA : f.args p k = some (vs.reverse, { f with st := st1 }) := by
   unfold SFr.args
   rw [hg, Option.bind_some, hst, if_pos zE, ← hvl, List.take_left, List.drop_left]
  obtain ⟨m, b1, b2, b3⟩ := hfol _ (show f.pc ∈ a4y ⟨23, k, im⟩ z.fr.pc.toNat from hmem)
  rw [hE] at b3
  obtain ⟨lo, hb1, hb2⟩ := a5N G (r.length + 2) hg hag
  have e : w8 p s z r f 23 k im = some { s with rows := ⟨⟨g, lo, [], 0, ((r.length + 2 : Nat) : Int) - 1⟩, 0, [], 0⟩ :: ⟨{ f with st := st1 }, z.why, z.df, z.ret⟩ :: r, depth := max s.depth ((r.length : Int) + 2) } := by
   have e0 : w8 p s z r f 23 k im = ((f.args p k).bind fun a => (a0R p k a.1 (r.length + 2)).map fun f2 => { s with rows := ⟨f2, 0, [], 0⟩ :: { z with fr := a.2 } :: r, depth := max s.depth ((r.length : Int) + 2) }) := rfl
   rw [e0, hA, Option.bind_some, hb1]; rfl
  rw [e]
  have hd := T.dep
  have hlv := T.lv
  have hl2 := T.lv2
  rw [hs] at hlv
  refine ⟨_, rfl, hev, fun _ => ⟨⟨_, _, rfl, a4s G (a2f hg)⟩, ⟨⟨a2f hg, by show LOK (g :: a0e _) _ _; rw [hfs]; exact hb2, by show ((r.length + 2 : Nat) : Int) - 1 = ((r.length + 1 : Nat) : Int); omega, nofun, ⟨Int.le_refl _, by show (0 : Int) ≤ _; omega⟩, Nat.zero_le _, .zero⟩, fun _ y t' e => ?_, hRT⟩, ?_, T.pv, ?_, by show s.live ≤ _; omega, by simp; omega, ?_, hev, T.tape⟩⟩
  ·cases e
   refine ⟨R, t, ⟨23, k, im⟩, g, by rw [show (({ f with st := st1 } : SFr).f) = z.fr.f from hff]; exact hS, ?_, hg, by show 1 ≤ f.pc; omega, ?_, by rw [hfs]; exact ht⟩
   ·show r7 f.f.Code (f.pc - 1) = _
    rw [hff, hpcE, show z.fr.pc + 1 - 1 = z.fr.pc by omega]; exact hi
   ·show R f.pc.toNat = _
    rw [b1, Int.toNat_natCast]; exact b3
  ·show s.pans.length = (if (0 : Int) = 2 then 1 else 0) + w2 (z :: r)
   rw [T.pn, hs]; simp
  ·show s.live = ((0 + dfS (z :: r) : Nat) : Int)
   rw [hlv]; simp
  ·show 0 ≤ max s.depth ((r.length : Int) + 2) ∧ max s.depth ((r.length : Int) + 2) ≤ _
   omega
 by_cases n25 : op = 25
 ·subst n25
  obtain ⟨g, hg⟩ : ∃ g, r7 p.Funcs k = some g := by
   unfold a2Q at hname
   have : k < p.Funcs.length := by simpa using hname
   exact ⟨_, a1S harg.1 (by omega : k.toNat < p.Funcs.length)⟩
  have hg3 := (g6 hg).2.2
  have hE : eff p z.fr.f ⟨25, k, im⟩ top = (g.Locals.take g.Params.toNat, []) := by
   have e0 : eff p z.fr.f ⟨25, k, im⟩ top = (match p.Funcs[k.toNat]? with | some g => (g.Locals.take g.Params.toNat, if (25 : Int) = 23 ∧ g.Result = true then [0] else []) | none => ([], [])) := rfl
   rw [e0, hg3]; simp
  have hgb := u5 (G.fok (a2f hg))
  rw [hE] at hv
  have hvl : vs.length = g.Params.toNat := by have := hv.len; simp [List.length_take] at this; omega
  have hag : LOK (a0e (z :: r)) (g.Locals.take g.Params.toNat) vs.reverse := by have := hv.rev; rwa [List.reverse_reverse] at this
  have hA : f.args p k = some (vs.reverse, { f with st := st1 }) := by
   unfold SFr.args
   rw [hg, Option.bind_some, hst, if_pos zE, ← hvl, List.take_left, List.drop_left]
  obtain ⟨m, b1, b2, b3⟩ := hfol _ (show f.pc ∈ a4y ⟨25, k, im⟩ z.fr.pc.toNat from hmem)
  rw [hE] at b3
  have e : w8 p s z r f 25 k im = some { s with rows := ⟨{ f with st := st1 }, z.why, ⟨k, vs.reverse⟩ :: z.df, z.ret⟩ :: r, defers := max s.defers (s.live + 1), live := s.live + 1 } := by
   have e0 : w8 p s z r f 25 k im = ((f.args p k).map fun a => { s with rows := { z with fr := a.2, df := ⟨k, a.1⟩ :: z.df } :: r, defers := max s.defers (s.live + 1), live := s.live + 1 }) := rfl
   rw [e0, hA]; rfl
  rw [e]
  refine ⟨_, rfl, hev, fun _ => a7E (f' := { f with st := st1 }) (df := ⟨k, vs.reverse⟩ :: z.df) T hs hff hlo' hnu hS (by show 0 ≤ f.pc; omega) (s2 := t ++ []) (by show R f.pc.toNat = _; rw [b1, Int.toNat_natCast]; exact b3) (by rw [List.append_nil]; exact ht) (by show st1.length ≤ _; omega) rfl (fun d hd => ?_) rfl T.pv (by show s.live + 1 + (z.df.length : Int) = s.live + ((z.df.length + 1 : Nat) : Int); omega) (Int.le_refl _) rfl hev T.tape⟩
  rcases List.mem_cons.1 hd with rfl | hd
  ·exact ⟨g, hg, hag⟩
  ·exact hz.1.df d hd
 by_cases n24 : op = 24
 ·subst n24
  obtain ⟨v, f1, h1, h2, h3, h4, h5, h6, h7⟩ : ∃ v f1, a7t f = some (v, f1) ∧ WV v ∧ f1.f = f.f ∧ f1.lo = f.lo ∧ f1.nu = f.nu ∧ f1.pc = f.pc ∧ f1.st.length ≤ z.fr.st.length := by
   have hff2 : f.f.Result = z.fr.f.Result := by rw [hff]
   unfold a7t
   rw [hff2]
   cases hres : z.fr.f.Result with
   | true =>
     have hE : eff p z.fr.f ⟨24, k, im⟩ top = (if z.fr.f.Result = true then [0] else [], []) := rfl
     rw [hE, hres] at hv
     obtain ⟨v, rfl, hvv⟩ := LOK.one (show LOK _ [0] vs from hv)
     rw [hst]
     exact ⟨v, { f with st := st1 }, rfl, hvv.1, rfl, rfl, rfl, rfl, hsl⟩
   | false => exact ⟨0, f, rfl, .zero, rfl, rfl, rfl, rfl, by rw [hzs]; exact Nat.le_refl _⟩
  obtain ⟨u, e1, e2⟩ := b7L G T hs (f' := f1) (v := v) (h3.trans hff) (h4.trans hlo) (h5.trans hnu) (by rw [h6]; exact hpr) h7 h2
  have e : w8 p s z r f 24 k im = ((a7t f).bind fun a => (a3N p { z with fr := a.2, ret := a.1 } r s.pans).map fun u =>
    { s with rows := u.A, pans := u.ps, ek := u.en.elim s.ek (·.1), ev := u.en.elim s.ev (·.2), depth := if u.push then max s.depth (u.A.length : Int) else s.depth, live := if u.push then s.live - 1 else s.live }) := rfl
  rw [e, h1, Option.bind_some, e1]
  exact ⟨_, rfl, hev, e2⟩
 by_cases n26 : op = 26
 ·subst n26
  obtain ⟨v, rfl, hvv⟩ := LOK.one (show LOK _ [0] vs from hv)
  have e : w8 p s z r f 26 k im = a6P p s (⟨{ f with st := st1 }, z.why, z.df, z.ret⟩ :: r) v := by unfold w8; rw [hst]; rfl
  rw [e]
  exact pan v hvv.1
 by_cases n27 : op = 27
 ·subst n27
  obtain rfl := LOK.nil (show LOK _ [] vs from hv)
  have hno : ¬ (z.why = 2 ∧ s.pans = []) := fun ⟨h1, h2⟩ => by
   have := T.pn
   rw [hs, h2, a3p, if_pos h1] at this
   simp at this
   omega
  obtain ⟨q1, q2, q3, q4⟩ := b7M (w := z.why) T.pv
  have e : w8 p s z r f 27 k im = some { s with rows := { z with fr := { f with st := (a2d z.why s.pans).1.2 :: (a2d z.why s.pans).1.1 :: f.st } } :: r, pans := (a2d z.why s.pans).2 } := by
   have e0 : w8 p s z r f 27 k im = (if z.why = 2 ∧ s.pans = [] then none else some { s with rows := { z with fr := { f with st := (a2d z.why s.pans).1.2 :: (a2d z.why s.pans).1.1 :: f.st } } :: r, pans := (a2d z.why s.pans).2 }) := rfl
   rw [e0, if_neg hno]
  rw [e]
  obtain ⟨m, b1, b2, b3⟩ := hfol _ (show f.pc ∈ a4y ⟨27, k, im⟩ z.fr.pc.toNat from hmem)
  exact ⟨_, rfl, hev, fun _ => a7E (f' := { f with st := (a2d z.why s.pans).1.2 :: (a2d z.why s.pans).1.1 :: f.st }) (df := z.df) T hs hff hlo' hnu hS (by show 0 ≤ f.pc; omega) (s2 := t ++ [0, 0]) (by show R f.pc.toNat = _; rw [b1, Int.toNat_natCast]; exact b3) (by rw [List.reverse_append, hst]; exact ⟨.num q4, .num q3, ht⟩) (by simp; rw [hzs]; omega) rfl hz.1.df q1 q2 rfl (by show s.live ≤ _; omega) rfl hev T.tape⟩
 by_cases n30 : op = 30
 ·subst n30
  obtain ⟨v, rfl, hvv⟩ := LOK.one (show LOK _ [0] vs from hv)
  exact ⟨{ s with rows := { z with fr := { f with st := st1 } } :: r, ek := 1, ev := v }, (by unfold w8; rw [hst]; rfl), hev, fun h => by cases h⟩
 have hE : eff p z.fr.f ⟨op, k, im⟩ top = ([0, 0], [0]) := by
  unfold eff; simp [n1, n2, n3, n4, n5, n6, n21, n22, n31, n32, n28, n29, n23, n25, n24, n26, n27, n30]
 have hF : a4y ⟨op, k, im⟩ z.fr.pc.toNat = [(z.fr.pc.toNat : Int) + 1] := by
  unfold a4y; simp [n21, n22, n24, n26, n30]
 rw [hE] at hv
 obtain ⟨b, a, rfl, hb, ha⟩ := LOK.two (show LOK _ [0, 0] vs from hv)
 obtain ⟨w, er, h1, h2⟩ := c5p (op := op) ha.1 hb.1
 have e : w8 p s z r f op k im = if er = 0 then some (goA s z r { f with st := w :: st1 }) else a6P p s (⟨{ f with st := st1 }, z.why, z.df, z.ret⟩ :: r) 18446744073709551615 := by
  unfold w8
  simp only [n1, n2, n3, n4, n5, n6, n21, n22, n31, n32, n28, n29, n23, n25, n24, n26, n27, n30, if_false]
  rw [hst]
  simp only [List.cons_append, List.nil_append, h1, Option.bind_some]
 rw [e]
 by_cases h0 : er = 0
 ·rw [if_pos h0]
  exact ⟨_, rfl, hev, fun _ => fin { f with st := w :: st1 } [w] _ (by rw [hF]; exact hmem) rfl hlo' rfl rfl (by rw [hE]; exact ⟨.num h2, trivial⟩) rfl rfl rfl rfl hev T.tape⟩
 ·rw [if_neg h0]
  exact pan _ ⟨by decide, by decide⟩
theorem prog (G : a5Q p) (T : a1d p n s) (hn : n < 2097152) (hk : s.ek = 0) : ∃ b, a1p p s = some b ∧ b.evs.length ≤ n + 1 ∧ (b.ek = 0 → a1d p (n + 1) b) := by
 obtain ⟨z, r, hs, hR⟩ := T.top
 have hz := T.rt
 rw [hs] at hz
 obtain ⟨⟨op, k, im⟩, R, t, top, vs, st1, hi, hS, hst, hv, ht, hfol, hcode, harg, hpc, him⟩ := b2J G hz.1.mem hR
 have e : a1p p s = w8 p s z r { z.fr with pc := z.fr.pc + 1 } op k im := by
  unfold a1p; rw [hs]; simp only [hi, Option.bind_some]
 rw [e]
 exact b2L G T hs hn (f := { z.fr with pc := z.fr.pc + 1 }) rfl rfl rfl rfl hpc hi hS rfl hst hv ht hfol (a9d hcode) harg him hk
end
end Go.Proofs.Ytnpemocpfdgaoaa

/- Runs of checked programs: the whole run. -/
namespace Go.Proofs.Ytnpemocpfdgaoaa
open Go Go.Ab Go.RowKit
set_option maxRecDepth 20000
section
variable {p : Program} {n : Nat} {s b : AS} {z : ARow} {r : List ARow}
theorem a1d.bd (G : a5Q p) (T : a1d p n s) (hn : n ≤ 2097152) {k : Int} : Bd p { s with steps := k } := by
 have h1 := T.rn
 have h2 := T.pn
 have h3 := c2y s.rows
 have h4 := T.dep
 have h5 := T.lv
 have h6 := T.lv2
 have h7 := T.ev
 refine ⟨fun g hg => by have := (u5 (G.fok hg)).2.2.1; omega, by show s.rows.length < _; omega, by show s.pans.length < _; omega, ⟨h4.1, by show s.depth < _; omega⟩, ⟨by show 0 ≤ s.live; omega, by show s.live < _; omega⟩, fun z hz => ?_, by show s.evs.length < _; omega⟩
 replace hz : z ∈ s.rows := hz
 obtain ⟨r, hB⟩ := T.rt.mem hz
 have hd := c2z hz
 have hp := hB.pc
 have hs := hB.st
 have hc := (u5 (G.fok hB.mem)).2.2.2.1
 exact ⟨by show (z.df.length : Int) ≤ s.live; omega, by omega, by omega⟩
theorem a7F {k : Int} (T : a1d p n s) : a1d p n { s with steps := k } := ⟨T.top, T.rt, T.pn, T.pv, T.lv, T.lv2, T.rn, T.dep, T.ev, T.tape⟩
theorem b3m (G : a5Q p) : ∀ (k n : Nat) (s : AS), s.evs.length ≤ n → (s.ek = 0 → a1d p n s) → n + k ≤ 2097152 → c1T p k s ∧ ∃ s', a1y p k s = some s' ∧ s'.evs.length ≤ n + k
 | 0, n, s, he, h, hn => by
   refine ⟨trivial, ?_⟩
   unfold a1y
   by_cases hk : s.ek = 0
   ·rw [if_neg (by simpa using hk)]; exact ⟨_, rfl, he⟩
   ·rw [if_pos hk]; exact ⟨_, rfl, he⟩
 | k + 1, n, s, he, h, hn => by
   by_cases hk : s.ek = 0
   ·have T := h hk
    obtain ⟨b, h1, h2, h3⟩ := prog G (a7F (k := s.steps + 1) T) zO hk
    have ih := b3m G k (n + 1) b h2 h3 zO
    refine ⟨fun _ => ⟨T.bd G zO, fun s' hs' => ?_⟩, ?_⟩
    ·rw [h1] at hs'; cases hs'; exact ih.1
    ·unfold a1y
     rw [if_neg (by simpa using hk)]
     simp only [h1, Option.bind_some]
     obtain ⟨s', e1, e2⟩ := ih.2
     exact ⟨s', e1, by omega⟩
   ·refine ⟨fun h => absurd h hk, ?_⟩
    unfold a1y
    rw [if_pos hk]
    exact ⟨_, rfl, by omega⟩
theorem b2M (G : a5Q p) {tape : List Int} (ht : ∀ v ∈ tape, WV v) : ∃ s1, as1 p tape = some s1 ∧ a1d p 0 s1 ∧ s1.steps = 0 ∧ s1.defers = 0 ∧ s1.panics = 0 := by
 have hok := G.ok
 unfold a3F a6O at hok
 cases hf : p.Funcs with
 | nil => rw [hf] at hok; simp at hok
 | cons f l =>
   rw [hf] at hok
   simp only [Bool.and_eq_true, decide_eq_true_eq, Bool.not_eq_true'] at hok
   have hp0 : f.Params = 0 := hok.2.2.1.1
   have hg : r7 p.Funcs 0 = some f := by rw [show (0 : Int) = ((0 : Nat) : Int) from rfl, p5, hf]; rfl
   have hm : f ∈ p.Funcs := by rw [hf]; exact .head _
   obtain ⟨lo, h1, h2⟩ := a5N G (fs := []) (ag := []) 1 hg (by rw [hp0]; exact trivial)
   refine ⟨{ as0 tape with rows := [⟨⟨f, lo, [], 0, ((1 : Nat) : Int) - 1⟩, 0, [], 0⟩], depth := 1 }, by unfold as1; rw [h1]; rfl, ⟨⟨_, _, rfl, a4s G hm⟩, ⟨⟨hm, h2, rfl, nofun, ⟨Int.le_refl _, by show (0 : Int) ≤ _; omega⟩, Nat.zero_le _, .zero⟩, (fun _ y t e => (by cases e)), trivial⟩, rfl, nofun, rfl, Int.le_refl _, Nat.le_refl _, ⟨by show (0 : Int) ≤ 1; decide, by show (1 : Int) ≤ _; omega⟩, Nat.le_refl _, ht⟩, rfl, rfl, rfl⟩
theorem a8x (G : a5Q p) {tape : List Int} {fl : Int} {c : Option a0o × Int} (hc : l7 1048577 p = some c) (hc0 : c.2 = 0) (ht : ∀ v ∈ tape, WV v) (htl : tape.length < 1000000000) (hfl : 0 ≤ fl ∧ fl ≤ 1048576) :
  ∃ s1 s2, as1 p tape = some s1 ∧ a1d p 0 s1 ∧ s1.steps = 0 ∧ a1y p fl.toNat s1 = some s2 ∧ y4 1048577 p tape fl = some (c1S s2, 0) ∧ s2.evs.length ≤ fl.toNat := by
 obtain ⟨s1, h1, h2, h3, _⟩ := b2M G ht
 obtain ⟨h4, s2, h5, h6⟩ := b3m G fl.toNat 0 s1 h2.ev (fun _ => h2) zO
 exact ⟨s1, s2, h1, h2, h3, h5, a9b hc (.run hc0 hfl h1 h5 h4 (fun g hg => by have := (u5 (G.fok hg)).2.2.1; omega) zO htl), by omega⟩
theorem a5k {c : Option a0o × Int} (hl : p.Funcs.length ≤ 1048576) (hi : ∀ f ∈ p.Funcs, ∀ i ∈ f.Code, WV i.Imm) (hc : l7 1048577 p = some c) (h0 : c.2 = 0) : a5Q p := by
 obtain ⟨o, h1, h2⟩ := a8v p hl
 rw [hc] at h1; cases h1
 rcases h2 with ⟨_, rfl⟩ | ⟨_, _, rfl⟩ | ⟨_, _, _, rfl⟩ | ⟨_, _, rfl⟩ | ⟨_, _, _, rfl⟩ | ⟨g1, _, T, _, _, _, g2⟩
 ·cases h0
 ·cases h0
 ·cases h0
 ·cases h0
 ·cases h0
 ·refine ⟨g1, fun f hf => ?_, hi⟩
  obtain ⟨k, hk⟩ := List.getElem?_of_mem hf
  obtain ⟨_, _, _, _, R, hR, _⟩ := g2 k f hk
  exact ⟨R, hR⟩
structure Ext (a b : AS) : Prop where
 evs : ∃ l, b.evs = a.evs ++ l
 depth : a.depth ≤ b.depth
 defers : a.defers ≤ b.defers
 panics : a.panics ≤ b.panics
theorem Ext.refl {a : AS} : Ext a a := ⟨⟨[], by simp⟩, Int.le_refl _, Int.le_refl _, Int.le_refl _⟩
theorem Ext.trans {a b c : AS} (h : Ext a b) (k : Ext b c) : Ext a c := by
 obtain ⟨l, h1⟩ := h.evs
 obtain ⟨m, k1⟩ := k.evs
 exact ⟨⟨l ++ m, by rw [k1, h1, List.append_assoc]⟩, Int.le_trans h.depth k.depth, Int.le_trans h.defers k.defers, Int.le_trans h.panics k.panics⟩
end
end Go.Proofs.Ytnpemocpfdgaoaa

