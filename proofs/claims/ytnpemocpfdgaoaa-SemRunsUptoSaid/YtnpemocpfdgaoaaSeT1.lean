/- A run, told plainly. -/
import Derived.Test.YtnpemocpfdgaoaaSeW19
import Derived.Test.YtnpemocpfdgaoaaGenCl
import Derived.Test.YtnpemocpfdgaoaaWlK9
import Derived.Test.YtnpemocpfdgaoaaGenK
set_option linter.unusedVariables false
set_option linter.unusedSimpArgs false
namespace Go.Proofs.Ytnpemocpfdgaoaa
open Go Go.Ab
structure End where
 Kind : Int
 Value : Int
def End.cells (x : End) : List AV := [(.int .i64 x.Kind), (.int .u64 x.Value)]
def End.av (x : End) : AV := .agg (End.cells x)
theorem End.enc : Enc End.av (some 2) := ⟨fun _ => rfl, fun _ => rfl, fun _ => rfl, fun x n => g8 ⟨((f7 .i64).blw x.Kind n), ((f7 .u64).blw x.Value n), trivial⟩⟩
structure Result where
 Events : (List i9)
 End : End
 Steps : Int
 Depth : Int
 Defers : Int
 Panics : Int
def Result.cells (x : Result) : List AV := [(.sl false 2 (List.map i9.av x.Events)), (.int .i64 x.End.Kind), (.int .u64 x.End.Value), (.int .i64 x.Steps), (.int .i64 x.Depth), (.int .i64 x.Defers), (.int .i64 x.Panics)]
def Result.av (x : Result) : AV := .agg (Result.cells x)
theorem Result.enc : Enc Result.av (some 7) := ⟨fun _ => rfl, fun _ => rfl, fun _ => rfl, fun x n => g8 ⟨((x3 i9.enc 2).blw x.Events n), ((f7 .i64).blw x.End.Kind n), ((f7 .u64).blw x.End.Value n), ((f7 .i64).blw x.Steps n), ((f7 .i64).blw x.Depth n), ((f7 .i64).blw x.Defers n), ((f7 .i64).blw x.Panics n), trivial⟩⟩
def a8i (p : Program) : Nat -> AS -> Option AS
 | n, s => if s.ek ≠ 0 then some s else match n with
   | 0 => some { s with ek := 3 }
   | n + 1 => (a3e p { s with steps := s.steps + 1 }).bind (a8i p n)
def as0 (tape : List Int) : AS := ⟨tape, [], 0, 0, 0, 0, 0, 0, [], [], 0⟩
def as1 (p : Program) (tape : List Int) : Option AS := (a1e p 0 [] 1).map fun f => { as0 tape with rows := [⟨f, 0, [], 0⟩], depth := 1 }
def b8F (s : AS) : Result := ⟨s.evs, ⟨s.ek, s.ev⟩, s.steps, s.depth, s.defers, s.panics⟩
def b9U (p : Program) : Nat -> AS -> Prop
 | 0, _ => True
 | n + 1, s => s.ek = 0 -> Bd p { s with steps := s.steps + 1 } /\ ∀ s', a3e p { s with steps := s.steps + 1 } = some s' -> b9U p n s'
end Go.Proofs.Ytnpemocpfdgaoaa

/- trace.New, trace.Events; core.M's Run: the walks. -/
namespace Go.Ab
theorem Ev.weaka {P f args args' r} {σ σ' : Hp} (h : Ev P f args' σ r σ') (ha : awL args args') : Ev P f args σ r σ' := by
 intro g w vals hw hv
 exact h g w vals hw ⟨by rw [hv.1, a2e ha], fun j h1 h2 => (hv.2 j (by rw [a2e ha]; exact h1) h2).w (a3D ha j _ h1)⟩
theorem Tri.argw {P : Program} {f : FuncId} {args args' : List AV} {L : List It} {Q : AV -> List It -> Prop} (c : Tri P f args' L Q) (ha : awL args args') : Tri P f args L Q := fun R S hS => by
 obtain ⟨r, S', h1, h2⟩ := c R S hS
 exact ⟨r, S', h1.weaka ha, h2⟩
section
variable {P : Program} {S0 : List Ob} {ow : List Nat} {fr : Fr} {S : List Ob} {L L' L0 : List It}
theorem b3L {b} {K K0 : Post} {o ver : Nat} {cs : List AV} (t : Nat) (hS : Sep S L) (hp' : Pk L (o, ver, cs) L0) (hb : a1T 0 cs = true) (ht : Fr.get fr t = .ptr o ver 0)
  (h : ∀ S', Sep S' L0 -> VT P S0 ow b ((t, .cptr cs 0) :: fr) S' K) : Post.thn (fun fr' S' => ∃ F T, Wk S0 fr' S' F T /\ VT P S0 ow b F T K) K0 .normal fr S := by
 have ho := hS.at (hp'.mem_iff.2 (.head _))
 refine a4F ((b3p ho hb).wk (fun t' => ?_)) (h _ (hS.kill hp'))
 rw [get_cons]
 split
 ·rename_i e1; subst e1; rw [ht]; exact .ptr
 ·exact .same _
end
end Go.Ab
namespace Go.Proofs.Ytnpemocpfdgaoaa
open Go Go.Ab
set_option maxRecDepth 20000
set_option maxHeartbeats 2000000
noncomputable def c5r : FC := fcO 40
theorem c5s : Fn3 Try.prog 40 7 [(2, none)] c5r := ⟨_, _, Try.func40, rfl, rfl, rfl, by kernel_rfl⟩

noncomputable def c5t : FC := fcO 44
theorem c5u : Fn3 Try.prog 44 10 [(2, none)] c5t := ⟨_, _, Try.func44, rfl, rfl, rfl, by kernel_rfl⟩

noncomputable def c5v : FC := fcO 43
theorem c5w : Fn3 Try.prog 43 46 [] c5v := ⟨_, _, Try.func43, rfl, rfl, rfl, by kernel_rfl⟩

theorem b9V {l : List Int} (h : l.length < 1000000000) : a0m l = some l := by
 unfold a0m a1d
 rw [if_pos zE]; rfl
theorem b9W {l : List i9} (h : l.length < 1000000000) : a0n l = some l := by
 unfold a0n a1d
 rw [if_pos zE]; rfl
theorem b7Q {tape : List Int} (h : tape.length < 1000000000) : Tri Try.prog 40 [.sl false 1 (tape.map (avI .u64))] [] (fun r L' => ∃ tr, r = .ptr tr 0 0 /\ L' = [(tr, 0, [.sl false 1 (tape.map (avI .u64)), .nils])]) := by
 refine i8 mixed c5s zS [6] (fun R S hS => ?_)
 refine aU ?_
 refine a2c (a4q (b9V h)) rfl (g8 ⟨(x3 (f7 .u64) 1).blw tape 0, trivial⟩) ((x3 (f7 .u64) 1).blw tape 0) ?_
 refine aU ?_
 refine a8b hS rfl (xv := .agg [.sl false 1 (tape.map (avI .u64)), .nils]) rfl rfl (fun tr S hS => ?_)
 refine aU ?_
 refine d8 ?_
 refine aE ?_
 exact ⟨trivial, _, rfl, _, ⟨tr, rfl, rfl⟩, hS⟩
theorem b1J {tr : Nat} {a : AV} {evs : List i9} (h : evs.length < 1000000000) : b4I Try.prog 44 [.ptr tr 0 0] [(tr, 0, [a, .sl false 2 (evs.map i9.av)])] (.sl false 2 (evs.map i9.av)) := by
 refine a5j mixed c5u zS [] (fun R S hS => ?_)
 refine aU ?_
 refine E_cs (t := false) rfl (fun h => by cases h) (fun _ => ?_)
 refine aU ?_
 refine c9 hS rfl (.head _) (v := .sl false 2 (evs.map i9.av)) rfl ?_
 refine aU ?_
 refine a2c (a4r (b9W h)) rfl (g8 ⟨(x3 i9.enc 2).blw evs 0, trivial⟩) ((x3 i9.enc 2).blw evs 0) ?_
 refine aU ?_
 refine d8 ?_
 refine aE ?_
 exact ⟨trivial, _, rfl, rfl, rfl⟩
section
variable {p : Program} {o : UO} {t : TO} {s s' : AS} {rj pj : List AV}
structure c5x where
 o : UO
 t : TO
 s : AS
 n : Nat
 rows : List Row
 rj : List AV
 pj : List AV
theorem a8j {n : Nat} (h : a8i p n s = some s') (h0 : s.ek ≠ 0) : s' = s := by
 unfold a8i at h; rw [if_pos h0] at h; cases h; rfl
theorem a9l (h : a8i p 0 s = some s') (h0 : s.ek = 0) : s' = { s with ek := 3 } := by
 unfold a8i at h; rw [if_neg (by simpa using h0)] at h; cases h; rfl
theorem b3M {n : Nat} (h : a8i p (n + 1) s = some s') (h0 : s.ek = 0) : ∃ s1, a3e p { s with steps := s.steps + 1 } = some s1 /\ a8i p n s1 = some s' := by
 unfold a8i at h; rw [if_neg (by simpa using h0)] at h; exact Option.bind_eq_some_iff.1 h
theorem b1K (h : a3e p s = some s') : s.rows ≠ [] := by
 intro e; unfold a3e at h; rw [e] at h; cases h
theorem b3N {f : SFr} (hf : a1e p 0 [] 1 = some f) (hl : f.f.Locals.length < 1000000000) (hs : s.rows = []) (hd : s.depth = 0) :
  Tri Try.prog 67 [.ptr o.m 0 0, .int .i64 0, .nils] (mS p o t s [] rj pj) (fun _ L' => b8E p o.m { s with rows := [⟨f, 0, [], 0⟩], depth := 1 } L') := by
 refine Tri.argw (args' := [.ptr o.m 0 0, .int .i64 0, .sl false 1 (([] : List Int).map (avI .u64))]) ?_ ⟨.refl _, .refl _, .nil, trivial⟩
 have c := a9b (m := o.m) (ro := o.ro) (rv := o.rv) (n := 0) (p := p) (rc := []) (rj := rj) (dep := s.depth) (k := 0) (ag := []) (a0 := .ptr t.tr 0 0) (a2 := .int .i64 s.ek) (a3 := .int .u64 s.ev) (a4 := .int .i64 s.steps) (a6 := .int .i64 s.defers) (a7 := .int .i64 s.panics) (a9 := .ref o.po o.pv 0 s.pans.length (some 2)) (a10 := .int .i64 s.live) hf zO hl rfl zO
 intro R S hS
 obtain ⟨r, S', h1, L', ⟨x, d, q, rfl⟩, h3⟩ := c ((o.po, o.pv, flat n9.av s.pans.reverse ++ pj) :: (trL t s ++ R)) S hS
 have e : max s.depth (((0 : Nat) : Int) + 1) = 1 := by omega
 rw [e] at h3
 refine ⟨r, S', h1, _, ⟨{ o with rv := o.rv + 1 }, t, [⟨⟨f, 0, [], 0⟩, x, d, 0, [], q⟩], [], pj, rfl, rfl, rfl⟩, ?_⟩
 refine h3.perm ?_
 simp [mS, sL, uL, a2j, List.append_assoc]
 exact List.perm_middle
theorem b7R {fuel : Nat} {f : SFr} (hf : a1e p 0 [] 1 = some f) (hl : f.f.Locals.length < 1000000000) (hs : s.rows = []) (hd : s.depth = 0) (hst : s.steps = 0) (hfu : fuel <= 1048576)
  (hr : a8i p fuel { s with rows := [⟨f, 0, [], 0⟩], depth := 1 } = some s') (hsf : b9U p fuel { s with rows := [⟨f, 0, [], 0⟩], depth := 1 }) (hsteps : ∀ a b, a3e p a = some b -> b.steps = a.steps) :
  Tri Try.prog 43 [.ptr o.m 0 0, .int .i64 fuel] (mS p o t s [] rj pj) (fun _ L' => b8E p o.m s' L') := by
 refine i8 mixed c5w zS [] (fun R S hS => ?_)
 refine aU ?_
 refine u6 (b3N hf hl hs hd) hS rfl (.refl _) (fun r0 S L' hL hS => ?_)
 obtain ⟨o1, t1, rows1, rj1, pj1, h1, h2, rfl⟩ := hL
 refine aU ?_
 refine g9 (a2U (σ := c5x) (fun _ => [(0, .ptr o.m 0 0), (1, .int .i64 fuel)]) (fun q => mS p q.o q.t q.s q.rows q.rj q.pj ++ R)
  (fun q => q.o.m = o.m /\ a1Q q.rows = q.s.rows /\ a8i p q.n q.s = some s' /\ b9U p q.n q.s /\ q.s.steps + q.n = fuel /\ 0 <= q.s.steps) (fun q => q.n) ⟨o1, t1, _, fuel, rows1, rj1, pj1⟩ hS ⟨h1, h2, hr, hsf, by show s.steps + ((fuel : Nat) : Int) = _; omega, by show 0 <= s.steps; omega⟩ wF (fun q S hI hS => ?_))
 obtain ⟨o2, t2, s2, n, rows2, rj2, pj2⟩ := q
 obtain ⟨i1, i2, i3, i4, i5, i6⟩ := hI
 dsimp only at i1 i2 i3 i4 i5 i6 hS
 rw [<- i1]
 refine aU ?_
 refine c9 hS rfl (.head _) (v := .int .i64 s2.ek) rfl ?_
 refine aU ?_
 refine E_cs (t := s2.ek == 0) rfl (fun hk => ?_) (fun hk => ?_)
 rotate_left
 ·have hk' : s2.ek ≠ 0 := by simpa using hk
  refine a1u ?_
  refine aE ?_
  have := a8j i3 hk'
  subst this
  exact ⟨trivial, _, rfl, _, ⟨o2, t2, rows2, rj2, pj2, rfl, i2, rfl⟩, hS⟩
 have hk' : s2.ek = 0 := by simpa using hk
 refine aU ?_
 refine g9 ?_
 refine aU ?_
 refine c9 hS rfl (.head _) (v := .int .i64 s2.steps) rfl ?_
 refine aU ?_
 cases n with
 | zero =>
   refine E_cs (t := true) (by show AV.bool (s2.steps == (fuel : Int)) = _; rw [show s2.steps = (fuel : Int) by simpa using i5]; simp) (fun _ => ?_) (fun h => by cases h)
   refine aU ?_
   refine E_stS hS rfl (xv := .int .i64 3) rfl Rp.here rfl rfl zV (fun S hS => ?_)
   refine aU ?_
   refine d8 ?_
   refine aE ?_
   have := a9l i3 hk'
   subst this
   exact ⟨trivial, _, rfl, _, ⟨o2, t2, rows2, rj2, pj2, rfl, i2, rfl⟩, hS⟩
 | succ n =>
   refine E_cs (t := false) (by show AV.bool (s2.steps == (fuel : Int)) = _; rw [show (s2.steps == (fuel : Int)) = false by simp; omega]) (fun h => by cases h) (fun _ => ?_)
   refine aU ?_
   refine c9 hS rfl (.head _) (v := .int .i64 s2.steps) rfl ?_
   refine aU ?_
   obtain ⟨s3, h3, h4⟩ := b3M i3 hk'
   obtain ⟨b1, b2⟩ := i4 hk'
   have hr3 := b1K h3
   have hst2 : s2.steps + 1 < 4611686018427387904 /\ -4611686018427387904 <= s2.steps + 1 := by
    constructor <;> omega
   refine E_stS hS rfl (xv := .int .i64 (s2.steps + 1)) (by show AV.int .i64 (IntKind.i64.wrap (s2.steps + 1)) = _; rw [q9 zO]) Rp.here rfl rfl zV (fun S hS => ?_)
   refine aU ?_
   cases rows2 with
   | nil => exact absurd i2.symm hr3
   | cons z r =>
   have hS2 : Ab.Sep S (mS p o2 t2 { s2 with steps := s2.steps + 1 } (z :: r) rj2 pj2 ++ R) := hS
   refine c9 hS rfl (.head _) (v := .ref o2.ro o2.rv 0 (r.length + 1) none) rfl ?_
   refine aU ?_
   refine c9 hS rfl (.head _) (v := .ref o2.ro o2.rv 0 (r.length + 1) none) rfl ?_
   refine aU ?_
   refine p6 rfl rfl r.length (a2v (by have := b1.rn; rw [<- i2] at this; simp [a1Q] at this; omega)) zO ?_
   refine c9 hS rfl (.tail _ (.head _)) (v := .ptr z.s 0 0) (by rw [z7]; exact a5z rfl zS) ?_
   refine aU ?_
   refine c9 hS rfl (.tail _ (.tail _ (.tail _ (.head _)))) (v := .iface 128 (.ptr z.q.x 0 0)) rfl ?_
   refine aU ?_
   refine b3l (b5K b1 i2 h3) hS2 rfl b9P zK rfl (.refl _) (fun r0 S L' hL hS => ?_)
   obtain ⟨o4, t4, rows4, rj4, pj4, k1, k2, rfl⟩ := hL
   refine aU ?_
   refine aE ?_
   exact s5 ⟨⟨o4, t4, s3, n, rows4, rj4, pj4⟩, ⟨k1, k2, h4, b2 _ h3, by have := hsteps _ _ h3; simp only at this ⊢; omega, by have := hsteps _ _ h3; simp only at this ⊢; omega⟩, by show n < n + 1; omega, hS, wF⟩
end
end Go.Proofs.Ytnpemocpfdgaoaa

/- sem.Run: the walk. -/
namespace Go.Ab
theorem a4Q {S : List Ob} {F : Fm} {t o ver n t2 : Nat} {cs : List AV} {v2 : AV} (h : F t = .ptr o ver 0) (ho : hp S o = .arr ver cs) (hn : cs.length = n) (h2 : F t2 = v2) : a3C S F [(t, some (some n)), (t2, none)] = some (.tup [.agg cs, v2]) := by
 simp [a3C, a7V, b8B, a9J, y9, h, ho, a0G, <- hn, h2]
section
variable {P : Program} {S0 : List Ob} {ow : List Nat} {fr : Fr} {S : List Ob} {L : List It}
theorem a9m {b} {K K0 : Post} {o ver : Nat} {cs : List AV} (j : Nat) (e : Option Nat) {Lf : Nat -> List It} (hS : Sep S L) (hr : ∀ o', Rp L (o, ver, cs) (o, ver, cs.set j (.ref o' 0 0 0 e)) (Lf o')) (hj : cs[j]? = some .nils)
  (h : ∀ o' S', Sep S' ((o', 0, []) :: Lf o') -> Post.thn (fun fr' S' => ∃ F T, Wk S0 fr' S' F T /\ VT P S0 ow b F T K) K0 .normal fr S') :
  Post.thn (fun fr' S' => ∃ F T, Wk S0 fr' S' F T /\ VT P S0 ow b F T K) K0 .normal fr S := by
 have hm := (hr 0).mem
 have ho := hS.at hm
 have h1 : Sep (a0M S S.length (.arr 0 [])) ((S.length, 0, []) :: L) := hS.new
 obtain ⟨F, T, hw, hv⟩ := h S.length _ (h1.rp (Rp.there (hr S.length)))
 exact a4F (fun g0 n a w hat => hw _ _ _ _ (a7o (e := e) ho hj g0 n a w hat)) hv
end
end Go.Ab
namespace Go.Proofs.Ytnpemocpfdgaoaa
open Go Go.Ab
set_option maxRecDepth 20000
set_option maxHeartbeats 2000000
noncomputable def c5y : FC := fcO 21
theorem c5z : Fn3 Try.prog 21 64 [(6, (some (some 7))), (7, none)] c5y := ⟨_, _, Try.func21, rfl, rfl, rfl, by kernel_rfl⟩

def rz : Result := ⟨[], ⟨0, 0⟩, 0, 0, 0, 0⟩
def rzC : List AV := [.nils, .int .i64 0, .int .u64 0, .int .i64 0, .int .i64 0, .int .i64 0, .int .i64 0]
inductive a4e (p : Program) (tape : List Int) (fl : Int) (c : Option a1y × Int) : Result × Int -> Prop
 | bad (h : c.2 ≠ 0) : a4e p tape fl c (rz, c.2)
 | arg (h : c.2 = 0) (h2 : fl < 0 \/ fl > 1048576) : a4e p tape fl c (rz, 2)
 | run {s1 s2 : AS} (h : c.2 = 0) (h2 : 0 <= fl /\ fl <= 1048576) (h3 : as1 p tape = some s1) (h4 : a8i p fl.toNat s1 = some s2) (h5 : b9U p fl.toNat s1) (h6 : ∀ g ∈ p.Funcs, g.Locals.length < 1000000000) (h7 : s2.evs.length < 1000000000) (h8 : tape.length < 1000000000) : a4e p tape fl c (b8F s2, 0)
section
variable {p : Program} {tape : List Int} {fl : Int}
theorem b1L {fuel : Nat} {c : Option a1y × Int} {r : Result × Int} (hc : u5 fuel p = some c) (hr : a4e p tape fl c r) (hsteps : ∀ a b, a3e p a = some b -> b.steps = a.steps) :
  Tri Try.prog 21 [Program.av p, .sl false 1 (tape.map (avI .u64)), .int .i64 fl] [] (fun v L' => L' = [] /\ (v = .tup [Result.av r.1, .int .i64 r.2] \/ (r.1 = rz /\ v = .tup [.agg rzC, .int .i64 r.2]))) := by
 refine i8 mixed c5z zS [3, 6, 30] (fun R S hS => ?_)
 refine aU ?_
 refine a8b hS rfl (xv := Program.av p) rfl rfl (fun pb S hS => ?_)
 refine a5G hS rfl (fun res S hS => ?_)
 refine aS ?_
 refine j8 ?_
 refine b3L 3 hS (Pk.there Pk.here) (by exact Program.enc.blw p 0) rfl (fun S hS => ?_)
 refine aU ?_
 refine a2c (a6U hc) rfl (g8 ⟨Program.enc.blw p 0, trivial⟩) (a2s ⟨(encP a1y.enc).blw _ 0, rfl, trivial⟩) ?_
 refine aU ?_
 refine E_cs (t := c.2 != 0) rfl (fun hb => ?_) (fun hb => ?_)
 ·have hc0 : c.2 ≠ 0 := by simpa using hb
  cases hr with
  | arg h => exact absurd h hc0
  | run h => exact absurd h hc0
  | bad h =>
  refine aU ?_
  refine E_stS hS rfl (xv := .agg rzC) rfl Rp.here rfl rfl zV (fun S hS => ?_)
  refine aU ?_
  refine d8 ?_
  refine aE ?_
  exact ⟨trivial, _, a4Q (cs := rzC) (v2 := .int .i64 c.2) rfl (hS.at (.head _)) rfl rfl, [], ⟨rfl, .inr ⟨rfl, rfl⟩⟩, hS.sub (List.sublist_cons_self _ _)⟩
 have hc0 : c.2 = 0 := by simpa using hb
 refine aU ?_
 by_cases hlt : fl < 0
 ·simp only [decide_eq_true hlt]
  obtain rfl : r = (rz, 2) := by
   cases hr with
   | bad h => exact absurd hc0 h
   | arg h h2 => rfl
   | run h h2 => omega
  refine aU ?_
  refine E_cs (t := true) rfl (fun _ => ?_) (fun h => by cases h)
  refine aU ?_
  refine E_stS hS rfl (xv := .agg rzC) rfl Rp.here rfl rfl zV (fun S hS => ?_)
  refine aU ?_
  refine d8 ?_
  refine aE ?_
  exact ⟨trivial, _, a4Q (cs := rzC) (v2 := .int .i64 2) rfl (hS.at (.head _)) rfl rfl, [], ⟨rfl, .inr ⟨rfl, rfl⟩⟩, hS.sub (List.sublist_cons_self _ _)⟩
 simp only [decide_eq_false hlt]
 refine aU ?_
 by_cases hgt : fl > 1048576
 ·obtain rfl : r = (rz, 2) := by
   cases hr with
   | bad h => exact absurd hc0 h
   | arg h h2 => rfl
   | run h h2 => omega
  refine E_cs (t := true) (by show AV.bool (decide (fl > 1048576)) = _; rw [decide_eq_true hgt]) (fun _ => ?_) (fun h => by cases h)
  refine aU ?_
  refine E_stS hS rfl (xv := .agg rzC) rfl Rp.here rfl rfl zV (fun S hS => ?_)
  refine aU ?_
  refine d8 ?_
  refine aE ?_
  exact ⟨trivial, _, a4Q (cs := rzC) (v2 := .int .i64 2) rfl (hS.at (.head _)) rfl rfl, [], ⟨rfl, .inr ⟨rfl, rfl⟩⟩, hS.sub (List.sublist_cons_self _ _)⟩
 refine E_cs (t := false) (by show AV.bool (decide (fl > 1048576)) = _; rw [decide_eq_false hgt]) (fun h => by cases h) (fun _ => ?_)
 cases hr with
 | bad h => exact absurd hc0 h
 | arg h h2 => omega
 | run h h2 h3 h4 h5 h6 h7 h8 =>
 rename_i s1 s2
 obtain ⟨f, hf, rfl⟩ := Option.map_eq_some_iff.1 h3
 obtain ⟨fn, hfn⟩ : ∃ n : Nat, fl = (n : Int) := ⟨fl.toNat, by omega⟩
 subst hfn
 rw [Int.toNat_natCast] at h4 h5
 refine aU ?_
 refine u6 (b7Q h8) hS rfl Spl.nil (fun x S L' hL hS => ?_)
 obtain ⟨tr, rfl, rfl⟩ := hL
 refine aU ?_
 refine a8b hS rfl (xv := .agg [.ptr tr 0 0, .nilf, .int .i64 0, .int .u64 0, .int .i64 0, .int .i64 0, .int .i64 0, .int .i64 0, .nils, .nils, .int .i64 0]) rfl rfl (fun m S hS => ?_)
 refine aS ?_
 refine j8 ?_
 refine a9m 8 none (Lf := fun o' => (m, 0, [.ptr tr 0 0, .nilf, .int .i64 0, .int .u64 0, .int .i64 0, .int .i64 0, .int .i64 0, .int .i64 0, .ref o' 0 0 0 none, .nils, .int .i64 0]) :: (tr, 0, [.sl false 1 (tape.map (avI .u64)), .nils]) :: (res, 0, rzC) :: ([] ++ R)) hS (fun o' => Rp.here) rfl (fun ro S hS => ?_)
 refine a9m 9 (some 2) (Lf := fun o' => (ro, 0, []) :: (m, 0, [.ptr tr 0 0, .nilf, .int .i64 0, .int .u64 0, .int .i64 0, .int .i64 0, .int .i64 0, .int .i64 0, .ref ro 0 0 0 none, .ref o' 0 0 0 (some 2), .int .i64 0]) :: (tr, 0, [.sl false 1 (tape.map (avI .u64)), .nils]) :: (res, 0, rzC) :: ([] ++ R)) hS (fun o' => Rp.there Rp.here) rfl (fun po S hS => ?_)
 refine b3m 1 (some 2) (Lf := fun o' => (po, 0, []) :: (ro, 0, []) :: (m, 0, [.ptr tr 0 0, .nilf, .int .i64 0, .int .u64 0, .int .i64 0, .int .i64 0, .int .i64 0, .int .i64 0, .ref ro 0 0 0 none, .ref po 0 0 0 (some 2), .int .i64 0]) :: (tr, 0, [.sl false 1 (tape.map (avI .u64)), .ref o' 0 0 0 (some 2)]) :: (res, 0, rzC) :: ([] ++ R)) hS (fun o' => Rp.there (Rp.there (Rp.there Rp.here))) rfl (fun te S hS => ?_)
 refine aU ?_
 refine E_stS hS rfl (xv := mkA p) rfl (Rp.there (Rp.there (Rp.there Rp.here))) rfl rfl zV (fun S hS => ?_)
 refine aU ?_
 have hS2 : Ab.Sep S (mS p ⟨m, ro, 0, po, 0⟩ ⟨tr, te, 0⟩ (as0 tape) [] [] [] ++ ((res, 0, rzC) :: R)) := by
  refine hS.perm ?_
  have : Spl ((te, 0, []) :: (po, 0, []) :: (ro, 0, []) :: (m, 0, [.ptr tr 0 0, mkA p, .int .i64 0, .int .u64 0, .int .i64 0, .int .i64 0, .int .i64 0, .int .i64 0, .ref ro 0 0 0 none, .ref po 0 0 0 (some 2), .int .i64 0]) :: (tr, 0, [.sl false 1 (tape.map (avI .u64)), .ref te 0 0 0 (some 2)]) :: (res, 0, rzC) :: R)
   [(m, 0, [.ptr tr 0 0, mkA p, .int .i64 0, .int .u64 0, .int .i64 0, .int .i64 0, .int .i64 0, .int .i64 0, .ref ro 0 0 0 none, .ref po 0 0 0 (some 2), .int .i64 0]), (ro, 0, []), (po, 0, []), (tr, 0, [.sl false 1 (tape.map (avI .u64)), .ref te 0 0 0 (some 2)]), (te, 0, [])] ((res, 0, rzC) :: R) := (by repeat (first | exact Spl.nil | refine Spl.cons (by repeat (first | exact Pk.here | apply Pk.there | apply Pk.skip)) ?_ | refine Spl.app (by repeat (first | exact PkC.here | apply PkC.there | apply PkC.skip)) ?_))
  exact this
 refine u6 (b7R (o := ⟨m, ro, 0, po, 0⟩) (s := as0 tape) hf (a5R h6 hf) rfl rfl rfl zO h4 h5 hsteps) hS2 rfl (.refl _) (fun x S9 L' hL hS9 => ?_)
 obtain ⟨o, t, rows, rj, pj, k1, k2, rfl⟩ := hL
 dsimp only at k1
 subst k1
 refine j8 ?_
 have hS10 : Ab.Sep S9 (sL p o t s2 rows rj pj ++ ((t.tr, 0, [AV.sl false 1 (s2.tape.map (avI .u64)), .ref t.te t.tv 0 s2.evs.length (some 2)]) :: (t.te, t.tv, flat i9.av s2.evs) :: (res, 0, rzC) :: R)) := by
  rw [mS, List.append_assoc] at hS9; exact hS9
 refine b6C (o := t.te) (ver := t.tv) (o2 := t.tr) (v2 := 0) (jx := 1) (l := s2.evs) (cs2 := [.sl false 1 (s2.tape.map (avI .u64)), .ref t.te t.tv 0 s2.evs.length (some 2)]) i9.enc hS10 (Pk.skip (Pk.there Pk.here)) rfl (Rp.skip Rp.here) (fun S hS => ?_)
 refine v7 ?_
 refine a0r ?_
 refine aU ?_
 refine c9 hS rfl (.head _) (v := .ptr t.tr 0 0) rfl ?_
 refine aU ?_
 refine b7H (b1J (tr := t.tr) (a := .sl false 1 (s2.tape.map (avI .u64))) (evs := s2.evs) h7) hS rfl (Spl.cons (Pk.skip Pk.here) Spl.nil) ?_
 refine aU ?_
 refine c9 hS rfl (.head _) (v := .agg [.int .i64 s2.ek, .int .u64 s2.ev]) rfl ?_
 refine aU ?_
 refine c9 hS rfl (.head _) (v := .int .i64 s2.steps) rfl ?_
 refine aU ?_
 refine c9 hS rfl (.head _) (v := .int .i64 s2.depth) rfl ?_
 refine aU ?_
 refine c9 hS rfl (.head _) (v := .int .i64 s2.defers) rfl ?_
 refine aU ?_
 refine c9 hS rfl (.head _) (v := .int .i64 s2.panics) rfl ?_
 refine aU ?_
 refine E_stS hS rfl (xv := Result.av (b8F s2)) rfl (Rp.skip (Rp.there Rp.here)) rfl rfl zV (fun S hS => ?_)
 refine aU ?_
 refine And.intro (by simp [a0q, a4A, y6, a1j]) ?_
 refine aU ?_
 refine d8 ?_
 refine aE ?_
 exact ⟨trivial, _, a4Q (cs := Result.cells (b8F s2)) (v2 := .int .i64 0) rfl (hS.at (List.mem_append_right _ (.tail _ (.head _)))) rfl rfl, [], ⟨rfl, .inl rfl⟩, hS.sub ((List.Sublist.cons _ (.cons _ (.refl _))).trans (List.sublist_append_right _ _))⟩
end
end Go.Proofs.Ytnpemocpfdgaoaa

/- What one step changes. -/
namespace Go.Proofs.Ytnpemocpfdgaoaa
open Go Go.Ab
section
variable {p : Program} {s b : AS} {z : ARow} {r : List ARow} {f : SFr} {op k im : Int}
structure Goes (f f' : SFr) : Prop where
 ef : f'.f = f.f
 enu : f'.nu = f.nu
 elo : f'.lo.length = f.lo.length
 est : f'.st.length <= f.st.length + 2
inductive a5I (p : Program) (s : AS) (z : ARow) (r : List ARow) (f : SFr) (op k : Int) : AS -> Prop
 | go (f' : SFr) (h : Goes f f') : a5I p s z r f op k (goA s z r f')
 | pan (f' : SFr) (v : Int) {b : AS} (h : Goes f f') (e : a6X p s ({ z with fr := f' } :: r) v = some b) : a5I p s z r f op k b
 | sto (f' : SFr) (i j : Nat) (v : Int) (h : Goes f f') : a5I p s z r f op k { s with rows := a8g ({ z with fr := f' } :: r) i j v }
 | inn (f' : SFr) (h : Goes f f') : a5I p s z r f op k { s with tape := s.tape.tail, evs := s.evs ++ [⟨2, inV s.tape⟩], rows := { z with fr := f' } :: r }
 | out (f' : SFr) (v : Int) (h : Goes f f') : a5I p s z r f op k { s with evs := s.evs ++ [⟨1, v⟩], rows := { z with fr := f' } :: r }
 | call (ag : List Int) (f1 f2 : SFr) (h : f.args p k = some (ag, f1)) (h2 : a1e p k ag (r.length + 2) = some f2) : a5I p s z r f op k { s with rows := ⟨f2, 0, [], 0⟩ :: { z with fr := f1 } :: r, depth := max s.depth ((r.length : Int) + 2) }
 | dfr (ag : List Int) (f1 : SFr) (h : f.args p k = some (ag, f1)) : a5I p s z r f op k { s with rows := { z with fr := f1, df := ⟨k, ag⟩ :: z.df } :: r, defers := max s.defers (s.live + 1), live := s.live + 1 }
 | ret (v : Int) (f1 : SFr) (u : RO) (h : a6W f = some (v, f1)) (h2 : a5n p { z with fr := f1, ret := v } r s.pans = some u) : a5I p s z r f op k
   { s with rows := u.A, pans := u.ps, ek := u.en.elim s.ek (·.1), ev := u.en.elim s.ev (·.2), depth := if u.push then max s.depth (u.A.length : Int) else s.depth, live := if u.push then s.live - 1 else s.live }
 | rcv (f' : SFr) (h : Goes f f') (hn : ¬ (z.why = 2 /\ s.pans = [])) : a5I p s z r f op k { s with rows := { z with fr := f' } :: r, pans := (a1L z.why s.pans).2 }
 | ext (f' : SFr) (v : Int) (h : Goes f f') : a5I p s z r f op k { s with rows := { z with fr := f' } :: r, ek := 1, ev := v }
theorem a9Y (h : t5 p s z r f op k im = some b) : a5I p s z r f op k b := by
 unfold t5 at h
 by_cases hop : op = 1
 ·rw [if_pos hop] at h
  cases h; exact .go _ ⟨rfl, rfl, rfl, by simp⟩
 rw [if_neg hop] at h; clear hop
 by_cases hop : op = 2
 ·rw [if_pos hop] at h
  obtain ⟨v, _, rfl⟩ := Option.map_eq_some_iff.1 h; exact .go _ ⟨rfl, rfl, rfl, by simp⟩
 rw [if_neg hop] at h; clear hop
 by_cases hop : op = 3
 ·rw [if_pos hop] at h
  split at h
  ·rename_i v st e
   obtain ⟨w, _, rfl⟩ := Option.map_eq_some_iff.1 h; exact .go _ ⟨rfl, rfl, by simp, by simp [e]; try omega⟩
  ·cases h
 rw [if_neg hop] at h; clear hop
 by_cases hop : op = 4
 ·rw [if_pos hop] at h
  cases h; exact .go _ ⟨rfl, rfl, rfl, by simp⟩
 rw [if_neg hop] at h; clear hop
 by_cases hop : op = 5
 ·rw [if_pos hop] at h
  split at h
  ·rename_i v st e
   split at h
   ·exact .pan { f with st := st } _ ⟨rfl, rfl, rfl, by simp [e]; try omega⟩ h
   ·obtain ⟨c, _, rfl⟩ := Option.map_eq_some_iff.1 h; exact .go _ ⟨rfl, rfl, rfl, by simp [e]; try omega⟩
  ·cases h
 rw [if_neg hop] at h; clear hop
 by_cases hop : op = 6
 ·rw [if_pos hop] at h
  split at h
  ·rename_i v pt st e
   split at h
   ·exact .pan { f with st := st } _ ⟨rfl, rfl, rfl, by simp [e]; try omega⟩ h
   ·obtain ⟨c, _, rfl⟩ := Option.map_eq_some_iff.1 h; exact .sto _ _ _ _ ⟨rfl, rfl, rfl, by simp [e]; try omega⟩
  ·cases h
 rw [if_neg hop] at h; clear hop
 by_cases hop : op = 21
 ·rw [if_pos hop] at h
  cases h; exact .go _ ⟨rfl, rfl, rfl, by simp⟩
 rw [if_neg hop] at h; clear hop
 by_cases hop : op = 22
 ·rw [if_pos hop] at h
  split at h
  ·rename_i v st e
   cases h
   split
   ·exact .go _ ⟨rfl, rfl, rfl, by simp [e]; try omega⟩
   ·exact .go _ ⟨rfl, rfl, rfl, by simp [e]; try omega⟩
  ·cases h
 rw [if_neg hop] at h; clear hop
 by_cases hop : op = 31
 ·rw [if_pos hop] at h
  split at h
  ·rename_i v st e
   cases h; exact .go _ ⟨rfl, rfl, rfl, by simp [e]; try omega⟩
  ·cases h
 rw [if_neg hop] at h; clear hop
 by_cases hop : op = 32
 ·rw [if_pos hop] at h
  split at h
  ·rename_i v st e
   cases h; exact .go _ ⟨rfl, rfl, rfl, by simp [e]; try omega⟩
  ·cases h
 rw [if_neg hop] at h; clear hop
 by_cases hop : op = 28
 ·rw [if_pos hop] at h
  cases h; exact .inn _ ⟨rfl, rfl, rfl, by simp⟩
 rw [if_neg hop] at h; clear hop
 by_cases hop : op = 29
 ·rw [if_pos hop] at h
  split at h
  ·rename_i v st e
   cases h; exact .out _ _ ⟨rfl, rfl, rfl, by simp [e]; try omega⟩
  ·cases h
 rw [if_neg hop] at h; clear hop
 by_cases hop : op = 23
 ·rw [if_pos hop] at h
  obtain ⟨⟨ag, f1⟩, h1, h2⟩ := Option.bind_eq_some_iff.1 h
  obtain ⟨f2, h3, rfl⟩ := Option.map_eq_some_iff.1 h2
  exact .call ag f1 f2 h1 h3
 rw [if_neg hop] at h; clear hop
 by_cases hop : op = 25
 ·rw [if_pos hop] at h
  obtain ⟨⟨ag, f1⟩, h1, rfl⟩ := Option.map_eq_some_iff.1 h
  exact .dfr ag f1 h1
 rw [if_neg hop] at h; clear hop
 by_cases hop : op = 24
 ·rw [if_pos hop] at h
  obtain ⟨⟨v, f1⟩, h1, h2⟩ := Option.bind_eq_some_iff.1 h
  obtain ⟨u, h3, rfl⟩ := Option.map_eq_some_iff.1 h2
  exact .ret v f1 u h1 h3
 rw [if_neg hop] at h; clear hop
 by_cases hop : op = 26
 ·rw [if_pos hop] at h
  split at h
  ·rename_i v st e
   exact .pan { f with st := st } _ ⟨rfl, rfl, rfl, by simp [e]; try omega⟩ h
  ·cases h
 rw [if_neg hop] at h; clear hop
 by_cases hop : op = 27
 ·rw [if_pos hop] at h
  split at h
  ·cases h
  ·rename_i hn; cases h; exact .rcv _ ⟨rfl, rfl, rfl, by simp⟩ hn
 rw [if_neg hop] at h; clear hop
 by_cases hop : op = 30
 ·rw [if_pos hop] at h
  split at h
  ·rename_i v st e
   cases h; exact .ext _ _ ⟨rfl, rfl, rfl, by simp [e]; try omega⟩
  ·cases h
 rw [if_neg hop] at h; clear hop
 split at h
 ·rename_i v w st e
  obtain ⟨q, _, h⟩ := Option.bind_eq_some_iff.1 h
  split at h
  ·cases h; exact .go _ ⟨rfl, rfl, rfl, by simp [e]; try omega⟩
  ·exact .pan { f with st := st } _ ⟨rfl, rfl, rfl, by simp [e]; try omega⟩ h
 ·cases h
theorem b3O {rows : List ARow} {v : Int} (h : a6X p s rows v = some b) : ∃ en A ps, x8 p rows (⟨v, false⟩ :: s.pans) = some (en, A, ps) /\ b = { s with rows := A, pans := ps, panics := max s.panics ((s.pans.length : Int) + 1), ek := if en.isSome then 2 else s.ek, ev := en.getD s.ev, depth := if en.isSome then s.depth else max s.depth (A.length : Int), live := if en.isSome then s.live else s.live - 1 } := by
 unfold a6X at h
 obtain ⟨⟨en, A, ps⟩, h1, rfl⟩ := Option.map_eq_some_iff.1 h
 exact ⟨en, A, ps, h1, rfl⟩
theorem a9Z (h : a3e p s = some b) : ∃ z r i, s.rows = z :: r /\ j7 z.fr.f.Code z.fr.pc = some i /\ a5I p s z r { z.fr with pc := z.fr.pc + 1 } i.Op i.Arg b := by
 unfold a3e at h
 split at h
 ·cases h
 ·rename_i z r e
  obtain ⟨i, h1, h⟩ := Option.bind_eq_some_iff.1 h
  exact ⟨z, r, i, e, h1, a9Y h⟩
theorem a6B (h : a3e p s = some b) : b.steps = s.steps := by
 obtain ⟨z, r, i, _, _, c⟩ := a9Z h
 cases c with
 | pan f' v h e => obtain ⟨en, A, ps, _, rfl⟩ := b3O e; rfl
 | _ => rfl
end
end Go.Proofs.Ytnpemocpfdgaoaa

/- sem.Run as a plain function. -/
namespace Go.Proofs.Ytnpemocpfdgaoaa
open Go Go.Ab
set_option maxRecDepth 20000
set_option maxHeartbeats 2000000
section
variable {p : Program} {tape : List Int} {fl : Int} {s b : AS}
theorem a4e.uniq {c : Option a1y × Int} {r r' : Result × Int} (h : a4e p tape fl c r) (h' : a4e p tape fl c r') : r = r' := by
 cases h <;> cases h' <;> first | rfl | omega | contradiction | skip
 rename_i s1 s2 a1 a2 a3 a4 a5 a6 a7 a8 t1 t2 b1 b2 b3 b4 b5 b6 b7 b8
 rw [a3] at b3; cases b3
 rw [a4] at b4; cases b4
 rfl
open Classical in
noncomputable def a0x (fuel : Nat) (p : Program) (tape : List Int) (fl : Int) : Option (Result × Int) := (u5 fuel p).bind fun c => if h : ∃ r, a4e p tape fl c r then some h.choose else none
theorem a5o {fuel : Nat} {c : Option a1y × Int} {r : Result × Int} (hc : u5 fuel p = some c) (h : a4e p tape fl c r) : a0x fuel p tape fl = some r := by
 unfold a0x
 have hx : ∃ r, a4e p tape fl c r := ⟨r, h⟩
 rw [hc, Option.bind_some, dif_pos hx]
 exact congrArg some (hx.choose_spec.uniq h)
theorem a7u {fuel : Nat} {p_00 : Program} {tape_01 : List Int} {fuel_02 : Int} {r : Result × Int} (h : a0x fuel p_00 tape_01 fuel_02 = some r) : PureEv Try.prog 21 [(Program.av p_00), (.sl false 1 (List.map (avI .u64) tape_01)), (.int .i64 fuel_02)] (.tup [(Result.av r.1), (.int .i64 r.2)]) := by
 unfold a0x at h
 obtain ⟨c, hc, h⟩ := Option.bind_eq_some_iff.1 h
 split at h
 case isFalse => cases h
 rename_i hx
 cases h
 have hr := hx.choose_spec
 generalize hx.choose = r at hr
 obtain ⟨r', h1, rfl⟩ := Tri.pure (Q' := fun x => x = .tup [(Result.av r.1), (.int .i64 r.2)]) 2 (b1L hc hr (fun _ _ => a6B)) (fun v L' S hq hS => by
  obtain ⟨rfl, rfl | ⟨e, rfl⟩⟩ := hq
  ·exact ⟨_, i7 (ys := [Result.av r.1, .int .i64 r.2]) ⟨a0p (Result.enc.blw _ 0) (.refl _), a0p rfl (.refl _), trivial⟩, rfl⟩
  ·refine ⟨_, i7 (ys := [Result.av r.1, .int .i64 r.2]) ⟨a0p rfl ?_, a0p rfl (.refl _), trivial⟩, rfl⟩
   rw [e]
   exact .aggL ⟨.nil, .refl _, .refl _, .refl _, .refl _, .refl _, .refl _, trivial⟩)
 exact h1
end
end Go.Proofs.Ytnpemocpfdgaoaa

/- Plain laws of kinds: loops; which programs have bytes. -/
namespace Go.Proofs.Ytnpemocpfdgaoaa
open Go Go.Ab Go.RowKit
set_option maxRecDepth 20000

theorem rangeL_inv {α σ ρ : Type} {body : Nat -> α -> σ -> Option (Stp σ ρ)} (ok : α -> Bool) (v : ρ) (Inv : Nat -> σ -> Prop) : ∀ (xs : List α) (k : Nat) (s : σ), Inv k s ->
  (∀ i x s, xs[i]? = some x -> Inv (k + i) s -> if ok x = true then ∃ s', body (k + i) x s = some (.nxt s') /\ Inv (k + i + 1) s' else body (k + i) x s = some (.ret v)) ->
  if xs.all ok = true then ∃ s', a0Q body xs k s = some (.fin s') /\ Inv (k + xs.length) s' else a0Q body xs k s = some (.ret v)
 | [], k, s, hi, h => by simp only [List.all_nil, if_true, a0Q]; exact ⟨s, rfl, by simpa using hi⟩
 | x :: r, k, s, hi, h => by
   have h0 := h 0 x s rfl hi
   cases hx : ok x with
   | false =>
     rw [hx] at h0
     simp only [Nat.add_zero, Bool.false_eq_true, if_false] at h0
     simp only [List.all_cons, hx, Bool.false_and, Bool.false_eq_true, if_false, a0Q, h0]
   | true =>
     rw [hx] at h0
     simp only [Nat.add_zero, if_true] at h0
     obtain ⟨s', e1, e2⟩ := h0
     have := rangeL_inv ok v Inv r (k + 1) s' e2 (fun i y s hy hs => by
      have := h (i + 1) y s (by simpa using hy) (by rwa [show k + (i + 1) = k + 1 + i by omega])
      rwa [show k + (i + 1) = k + 1 + i by omega] at this)
     simp only [List.all_cons, hx, Bool.true_and, a0Q, e1, List.length_cons]
     rw [show k + (r.length + 1) = k + 1 + r.length by omega]
     exact this
theorem rng_inv {α σ ρ : Type} {body : Nat -> α -> σ -> Option (Stp σ ρ)} {xs : List α} {s0 : σ} (ok : α -> Bool) (v : ρ) (Inv : Nat -> σ -> Prop) (hl : xs.length <= 4611686018427387904) (h0 : Inv 0 s0)
  (h : ∀ i x s, xs[i]? = some x -> Inv i s -> if ok x = true then ∃ s', body i x s = some (.nxt s') /\ Inv (i + 1) s' else body i x s = some (.ret v)) :
  if xs.all ok = true then ∃ s', rng body xs s0 = some (.fin s') /\ Inv xs.length s' else rng body xs s0 = some (.ret v) := by
 unfold rng
 rw [if_pos hl]
 have := rangeL_inv ok v Inv xs 0 s0 h0 (fun i x s hx hs => by simpa using h i x s hx (by simpa using hs))
 simpa using this
theorem rangeN_inv {σ ρ : Type} {body : Nat -> σ -> Option (Stp σ ρ)} (Inv : Nat -> σ -> Prop) : ∀ (n k : Nat) (s : σ), Inv k s ->
  (∀ i s, k <= i -> i < k + n -> Inv i s -> ∃ s', body i s = some (.nxt s') /\ Inv (i + 1) s') -> ∃ s', a0R body n k s = some (.fin s') /\ Inv (k + n) s'
 | 0, k, s, hi, h => ⟨s, rfl, hi⟩
 | n + 1, k, s, hi, h => by
   obtain ⟨s', e1, e2⟩ := h k s zO zO hi
   obtain ⟨s2, e3, e4⟩ := rangeN_inv Inv n (k + 1) s' e2 (fun i s a b c => h i s zO zO c)
   exact ⟨s2, by simp only [a0R, e1, e3], by rwa [show k + (n + 1) = k + 1 + n by omega]⟩
theorem rni_inv {σ ρ : Type} {body : Nat -> σ -> Option (Stp σ ρ)} {n : Int} {s0 : σ} (Inv : Nat -> σ -> Prop) (hn : n <= 4611686018427387904) (h0 : Inv 0 s0)
  (h : ∀ (i : Nat) s, (i : Int) < n -> Inv i s -> ∃ s', body i s = some (.nxt s') /\ Inv (i + 1) s') : ∃ s', rni body n s0 = some (.fin s') /\ Inv n.toNat s' := by
 unfold rni
 rw [if_pos hn]
 obtain ⟨s', a, b⟩ := rangeN_inv (body := body) Inv n.toNat 0 s0 h0 (fun i s _ hi hs => h i s zO hs)
 exact ⟨s', a, by simpa using b⟩
theorem appL_of {α : Type} {b : Nat} {l m : List α} (h : (l.length + m.length) * b <= 140737488355328 /\ l.length + m.length <= 140737488355328) : a1d b l m = some (l ++ m) := if_pos h
theorem appL1 {l m : List Int} (h : l.length + m.length <= 140737488355328) : a1d 1 l m = some (l ++ m) := appL_of zO

def a0h (op : Int) : Int := if op = 1 then 8 else if op = 2 \/ op = 3 \/ op = 4 \/ op = 23 \/ op = 25 then 1 else if op = 21 \/ op = 22 then 2 else if op < 1 \/ op > 32 then -1 else 0
theorem b5L (op : Int) : a1z op = some (a0h op) := by
 unfold a1z a0h
 simp only [jp, beq_iff_eq, decide_eq_true_eq]
 by_cases h1 : op = 1
 ·simp [h1]
 by_cases h2 : op = 2
 ·simp [h2]
 by_cases h3 : op = 3
 ·simp [h3]
 by_cases h4 : op = 4
 ·simp [h4]
 by_cases h5 : op = 23
 ·simp [h5]
 by_cases h6 : op = 25
 ·simp [h6]
 by_cases h7 : op = 21
 ·simp [h7]
 by_cases h8 : op = 22
 ·simp [h8]
 by_cases h9 : op < 1
 ·simp [h1, h2, h3, h4, h5, h6, h7, h8, h9]
 by_cases h10 : op > 32 <;> simp [h1, h2, h3, h4, h5, h6, h7, h8, h9, h10]
theorem a2W (op : Int) : a0h op = -1 \/ a0h op = 0 \/ a0h op = 1 \/ a0h op = 2 \/ a0h op = 8 := by
 unfold a0h
 split
 ·simp
 ·split
  ·simp
  ·split
   ·simp
   ·split <;> simp
def a1D (i : Instr) : Bool := decide (0 <= a0h i.Op) && (if a0h i.Op = 8 then decide (i.Arg = 0) else decide (i.Imm = 0 /\ 0 <= i.Arg /\ i.Arg < 256 ^ (a0h i.Op).toNat))

theorem b0a (b : List Int) (v n : Int) (hb : b.length <= 1000000000) (hn : 0 <= n /\ n <= 8) : ∃ l, a0v b v n = some l /\ l.length = b.length + n.toNat := by
 unfold a0v
 obtain ⟨s', e1, e2⟩ := rni_inv (σ := Int × List Int) (ρ := Option (List Int)) (n := n) (s0 := (v, b)) (body := fun (i_2 : Nat) (s_1 : (Int × (List Int))) => ((gd (0 <= (U64 (I64 (8 * (i_2 : Int))))) ((a1d 1 s_1.2 [(U8 (shR .u64 s_1.1 (U64 (I64 (8 * (i_2 : Int))))))]).bind fun l_4 => (some (.nxt (s_1.1, l_4))))) : Option (Stp (Int × (List Int)) (Option (List Int)))))
  (fun i s => s.2.length = b.length + i) zO zS (fun i s hi hs => by
   have e : U64 (I64 (8 * (i : Int))) = 8 * i := by rw [a2n zO, b0R zO]
   rw [e, b2T zO, appL1 (by simp <;> omega)]
   exact ⟨_, rfl, by simp [hs]; omega⟩)
 rw [e1]
 exact ⟨s'.2, rfl, e2⟩

theorem a6Y (b : List Int) (i : Instr) (hb : b.length <= 900000000) : ∃ l, p9 b i = some (a1D i, l) /\ l.length <= b.length + 9 := by
 unfold p9
 rw [b5L]
 simp only [Option.bind_some, jp]
 have hw := a2W i.Op
 unfold a1D
 generalize a0h i.Op = w at hw ⊢
 by_cases h0 : w < 0
 ·have : ¬ 0 <= w := by omega
  simp [h0, this]
 have h0' : 0 <= w := by omega
 have hd0 : decide (w < 0) = false := by simpa using h0'
 simp only [hd0, Bool.false_eq_true, if_false]
 by_cases h8 : w = 8
 ·subst h8
  simp only [bne_self_eq_false, beq_self_eq_true, Bool.false_eq_true, if_false, if_true]
  rw [appL1 (by simp <;> omega)]
  simp only [Option.bind_some]
  obtain ⟨l, e1, e2⟩ := b0a (b ++ [i.Op]) i.Imm 8 (by simp <;> omega) zO
  rw [e1]
  refine ⟨l, ?_, by rw [e2]; simp⟩
  simp
  by_cases ha : i.Arg = 0 <;> simp [ha]
 ·have e8 : (w != 8) = true := by simpa using h8
  have e8' : (w == 8) = false := by simpa using h8
  rw [if_pos e8]
  by_cases hi : i.Imm = 0
  ·have : (i.Imm != 0) = false := by simp [hi]
   rw [this]
   simp only [Bool.false_eq_true, if_false]
   rw [appL1 (by simp <;> omega)]
   simp only [Option.bind_some, e8', Bool.false_eq_true, if_false]
   obtain ⟨l, e1, e2⟩ := b0a (b ++ [i.Op]) (U64 i.Arg) w (by simp <;> omega) zO
   rw [e1]
   simp only [Option.bind_some]
   by_cases ha : i.Arg >= 0
   ·rw [if_pos (by simpa using ha), b2T (by rw [a2n zO, b0R zO]; omega)]
    refine ⟨l, ?_, by rw [e2]; simp; omega⟩
    have : shL .i64 1 (U64 (I64 (8 * w))) = 256 ^ w.toNat := by
     rw [a2n zO, b0R zO]
     rcases hw with h | h | h | h | h <;> first | omega | (subst h; rfl)
    rw [this]
    simp [h0', h8, hi]
    by_cases hb2 : i.Arg < 256 ^ w.toNat <;> simp [hb2] <;> omega
   ·rw [if_neg (by simpa using ha)]
    refine ⟨l, ?_, by rw [e2]; simp; omega⟩
    simp [h8]
    intro _ _ h; omega
  ·have : (i.Imm != 0) = true := by simpa using hi
   rw [this]
   simp only [if_true]
   refine ⟨[], ?_, by simp⟩
   simp [h8, hi]

def a0O (f : Func) : Bool := decide (0 <= f.Params /\ f.Params <= f.Locals.length /\ f.Locals.length <= 255 /\ -1 <= f.Keep /\ f.Keep <= 254 /\ f.Code.length <= 65535) && (f.Locals.all (fun k => decide (k <= 1)) && f.Code.all a1D)
theorem b0b (b : List Int) (f : Func) (hb : b.length <= 800000000) : ∃ l, x4 b f = some (a0O f, l) /\ (a0O f = true -> l.length <= b.length + 600000) := by
 unfold x4
 simp only [jp]
 by_cases hc : 0 <= f.Params /\ f.Params <= f.Locals.length /\ f.Locals.length <= 255 /\ -1 <= f.Keep /\ f.Keep <= 254 /\ f.Code.length <= 65535
 case neg =>
  have hf : a0O f = false := by unfold a0O; rw [decide_eq_false hc]; rfl
  refine ⟨[], ?_, by rw [hf]; simp⟩
  rw [hf]
  by_cases h1 : f.Params < 0
  ·simp [h1]
  by_cases h2 : f.Params > f.Locals.length
  ·simp [h1, h2]
  by_cases h3 : (f.Locals.length : Int) > 255
  ·simp [h1, h2, h3]
  by_cases h4 : f.Keep < -1
  ·simp [h1, h2, h3, h4]
  by_cases h5 : f.Keep > 254
  ·simp [h1, h2, h3, h4, h5]
  by_cases h6 : (f.Code.length : Int) > 65535
  ·simp [h1, h2, h3, h4, h5, h6]
  ·omega
 obtain ⟨c1, c2, c3, c4, c5, c6⟩ := hc
 have n1 : ¬ f.Params < 0 := by omega
 have n2 : ¬ f.Params > f.Locals.length := by omega
 have n3 : ¬ (f.Locals.length : Int) > 255 := by omega
 have n4 : ¬ f.Keep < -1 := by omega
 have n5 : ¬ f.Keep > 254 := by omega
 have n6 : ¬ (f.Code.length : Int) > 65535 := by omega
 simp only [n1, n2, n3, n4, n5, n6, decide_false, Bool.false_eq_true, if_false]
 rw [appL1 (by simp <;> omega)]
 simp only [Option.bind_some]
 have hf : a0O f = (f.Locals.all (fun k => decide (k <= 1)) && f.Code.all a1D) := by
  unfold a0O; rw [decide_eq_true zO]; rfl
 have L1 := rng_inv (σ := List Int) (ρ := Option (Bool × List Int)) (xs := f.Locals) (s0 := b ++ [U8 f.Params, U8 f.Locals.length]) (fun k => decide (k <= 1)) (some (false, []))
  (fun i s => s.length = b.length + 2 + i) (body := fun (i_5 : Nat) (k_6 : Int) (s_4 : (List Int)) => ((if (decide (k_6 > 1)) then (some (.ret (some (false, [])))) else ((a1d 1 s_4 [k_6]).bind fun l_8 => (some (.nxt l_8)))) : Option (Stp (List Int) (Option (Bool × (List Int)))))) zO zS (fun i x s hx hs => by
   have hi := (List.getElem?_eq_some_iff.1 hx).1
   by_cases h : x <= 1
   ·rw [if_pos (by simpa using h), if_neg (by simpa using h), appL1 (by simp <;> omega)]
    exact ⟨_, rfl, by simp <;> omega⟩
   ·rw [if_neg (by simpa using h), if_pos (by simpa using h)])
 cases hl : f.Locals.all (fun k => decide (k <= 1)) with
 | false =>
   rw [hl] at L1
   simp only [Bool.false_eq_true, if_false] at L1
   rw [L1]
   exact ⟨[], by rw [hf, hl]; rfl, by rw [hf, hl]; simp⟩
 | true =>
   rw [hl] at L1
   simp only [if_true] at L1
   obtain ⟨s1, e1, e2⟩ := L1
   rw [e1]
   simp only [Option.bind_some, oc]
   have key : ∀ (r : Int), ∃ l, ((a1d 1 s1 [r, (U8 f.Keep)]).bind fun l_11 => ((a0v l_11 (U64 (List.length f.Code : Int)) 2).bind fun (put_12 : (List Int)) => ((rng (fun (i_14 : Nat) (i_15 : Instr) (s_13 : (List Int)) => (((p9 s_13 i_15).bind fun (ins_17 : (Bool × (List Int))) => (if (!ins_17.1) then (some (.ret (some (false, [])))) else (some (.nxt ins_17.2)))) : Option (Stp (List Int) (Option (Bool × (List Int)))))) f.Code put_12).bind (oc (fun (s_13 : (List Int)) => (some (true, s_13))))))) = some (a0O f, l) /\ (a0O f = true -> l.length <= b.length + 600000) := by
    intro r
    rw [appL1 (by simp <;> omega)]
    simp only [Option.bind_some]
    obtain ⟨l2, e3, e4⟩ := b0a (s1 ++ [r, U8 f.Keep]) (U64 f.Code.length) 2 (by simp <;> omega) zO
    rw [e3]
    simp only [Option.bind_some]
    have L2 := rng_inv (σ := List Int) (ρ := Option (Bool × List Int)) (xs := f.Code) (s0 := l2) a1D (some (false, [])) (fun i s => s.length <= b.length + 300 + 9 * i)
     (body := fun (i_14 : Nat) (i_15 : Instr) (s_13 : (List Int)) => (((p9 s_13 i_15).bind fun (ins_17 : (Bool × (List Int))) => (if (!ins_17.1) then (some (.ret (some (false, [])))) else (some (.nxt ins_17.2)))) : Option (Stp (List Int) (Option (Bool × (List Int)))))) zO (by rw [e4]; simp; omega) (fun i x s hx hs => by
      have hi := (List.getElem?_eq_some_iff.1 hx).1
      obtain ⟨l, a, c⟩ := a6Y s x zO
      rw [a]
      cases a1D x with
      | false => rfl
      | true => exact ⟨l, rfl, by omega⟩)
    cases hc : f.Code.all a1D with
    | false =>
      rw [hc] at L2
      simp only [Bool.false_eq_true, if_false] at L2
      rw [L2]
      exact ⟨[], by rw [hf, hl, hc]; rfl, by rw [hf, hl, hc]; simp⟩
    | true =>
      rw [hc] at L2
      simp only [if_true] at L2
      obtain ⟨s3, a, c⟩ := L2
      rw [a]
      exact ⟨s3, by rw [hf, hl, hc]; rfl, fun _ => by omega⟩
   cases f.Result with
   | false => exact key 0
   | true => exact key 1

theorem b3P {a s i C : Nat} (h : a <= s + C) (k : s <= 3 + C * i) : a <= 3 + C * (i + 1) := by
 rw [Nat.mul_add, Nat.mul_one]
 generalize C * i = q at k ⊢
 omega
def encP (p : Program) : Bool := decide (1 <= p.Funcs.length /\ p.Funcs.length <= 255) && p.Funcs.all a0O
theorem b3Q (p : Program) : ∃ l, a1b p = some (l, if encP p = true then 0 else 30) := by
 unfold a1b
 simp only [jp]
 by_cases hc : 1 <= p.Funcs.length /\ p.Funcs.length <= 255
 case neg =>
  have : encP p = false := by unfold encP; rw [decide_eq_false hc]; rfl
  rw [this]
  refine ⟨[], ?_⟩
  by_cases h1 : p.Funcs.length = 0
  ·simp [h1]
  ·have h2 : (p.Funcs.length : Int) > 255 := by omega
   have h1' : ((p.Funcs.length : Int) == 0) = false := by simpa using h1
   simp [h1', h2]
 have h1' : ((p.Funcs.length : Int) == 0) = false := by simp; intro h; simp [h] at hc
 have h2 : ¬ (p.Funcs.length : Int) > 255 := by omega
 simp only [h1', h2, decide_false, Bool.false_eq_true, if_false]
 have L := rng_inv (σ := List Int) (ρ := Option (List Int × Int)) (xs := p.Funcs) (s0 := [87, 76, U8 p.Funcs.length]) a0O (some ([], 30)) (fun i s => s.length <= 3 + 600000 * i)
  (body := fun (i_4 : Nat) (f_5 : Func) (s_3 : (List Int)) => (((x4 s_3 f_5).bind fun (vfun_7 : (Bool × (List Int))) => (if (!vfun_7.1) then (some (.ret (some ([], 30)))) else (some (.nxt vfun_7.2)))) : Option (Stp (List Int) (Option ((List Int) × Int))))) zO zS (fun i x s hx hs => by
   have hi := (List.getElem?_eq_some_iff.1 hx).1
   obtain ⟨l, a, c⟩ := b0b s x zO
   rw [a]
   cases e : a0O x with
   | false => rfl
   | true => exact ⟨l, rfl, b3P (c e) hs⟩)
 have he : encP p = p.Funcs.all a0O := by unfold encP; rw [decide_eq_true hc]; rfl
 rw [he]
 cases e : p.Funcs.all a0O with
 | false =>
   rw [e] at L
   simp only [Bool.false_eq_true, if_false] at L
   rw [L]
   exact ⟨[], rfl⟩
 | true =>
   rw [e] at L
   simp only [if_true] at L
   obtain ⟨s, a, _⟩ := L
   rw [a]
   exact ⟨s, rfl⟩
def a3b (f : Func) : Bool := decide (f.Params <= 4 /\ f.Locals.length <= 16 /\ f.Code.length <= 256)
def a2G (p : Program) : Bool := p.Funcs.all a3b && decide (p.Funcs.length <= 16)
theorem b1M (p : Program) (hp : p.Funcs.length <= 1048576) : a0H p = some (a2G p) := by
 unfold a0H a2G
 simp only [jp]
 have L := rng_inv (σ := Unit) (ρ := Option Bool) (xs := p.Funcs) (s0 := ()) a3b (some false) (fun _ _ => True)
  (body := fun (i_2 : Nat) (f_3 : Func) (s_1 : Unit) => ((if (decide (f_3.Params > 4)) then (if true = true then (some (.ret (some false))) else (some (.nxt ()))) else (if (decide ((List.length f_3.Locals : Int) > 16)) then (if true = true then (some (.ret (some false))) else (some (.nxt ()))) else (if decide ((List.length f_3.Code : Int) > 256) = true then (some (.ret (some false))) else (some (.nxt ()))))) : Option (Stp Unit (Option Bool)))) zO trivial (fun i x s hx _ => by
   unfold a3b
   by_cases h1 : x.Params > 4
   ·have : ¬ (x.Params <= 4 /\ x.Locals.length <= 16 /\ x.Code.length <= 256) := by omega
    simp [h1, this]
   by_cases h2 : (x.Locals.length : Int) > 16
   ·have : ¬ (x.Params <= 4 /\ x.Locals.length <= 16 /\ x.Code.length <= 256) := by omega
    simp [h1, h2, this]
   by_cases h3 : (x.Code.length : Int) > 256
   ·have : ¬ (x.Params <= 4 /\ x.Locals.length <= 16 /\ x.Code.length <= 256) := by omega
    simp [h1, h2, h3, this]
   ·have : (x.Params <= 4 /\ x.Locals.length <= 16 /\ x.Code.length <= 256) := by omega
    simp [h1, h2, h3, this])
 cases e : p.Funcs.all a3b with
 | false =>
   rw [e] at L
   simp only [Bool.false_eq_true, if_false] at L
   simp only [if_true] at L ⊢
   rw [L]; rfl
 | true =>
   rw [e] at L
   simp only [if_true] at L ⊢
   obtain ⟨s, a, _⟩ := L
   rw [a]
   simp [oc]
   omega
theorem whileN_ex {σ ρ : Type} {body : σ -> Option (Stp σ ρ)} (Inv : σ -> Prop) (μ : σ -> Nat) (Q : Out σ ρ -> Prop)
  (h : ∀ s, Inv s -> (∃ s', body s = some (.nxt s') /\ Inv s' /\ μ s' < μ s) \/ (∃ s', body s = some (.brk s') /\ Q (.fin s')) \/ (∃ v, body s = some (.ret v) /\ Q (.ret v))) :
  ∀ (n : Nat) (s : σ), Inv s -> μ s < n -> ∃ o, whileN body n s = some o /\ Q o
 | 0, s, _, hn => by omega
 | n + 1, s, hi, hn => by
   rcases h s hi with ⟨s', h1, h2, h3⟩ | ⟨s', h1, h2⟩ | ⟨v, h1, h2⟩
   ·rw [a4l h1]; exact whileN_ex Inv μ Q h n s' h2 zO
   ·rw [a5i h1]; exact ⟨_, rfl, h2⟩
   ·rw [a7l h1]; exact ⟨_, rfl, h2⟩
theorem rangeL_ex {α σ ρ : Type} {body : Nat -> α -> σ -> Option (Stp σ ρ)} (Inv : Nat -> σ -> Prop) (Q : Out σ ρ -> Prop) : ∀ (xs : List α) (k : Nat) (s : σ), Inv k s ->
  (∀ i x s, xs[i]? = some x -> Inv (k + i) s -> (∃ s', body (k + i) x s = some (.nxt s') /\ Inv (k + i + 1) s') \/ ∃ v, body (k + i) x s = some (.ret v) /\ Q (.ret v)) ->
  (∀ s, Inv (k + xs.length) s -> Q (.fin s)) -> ∃ o, a0Q body xs k s = some o /\ Q o
 | [], k, s, hi, h, hQ => ⟨_, rfl, hQ s (by simpa using hi)⟩
 | x :: r, k, s, hi, h, hQ => by
   rcases h 0 x s rfl (by simpa using hi) with ⟨s', e1, e2⟩ | ⟨v, e1, e2⟩
   ·simp only [Nat.add_zero] at e1 e2
    simp only [a0Q, e1]
    refine rangeL_ex Inv Q r (k + 1) s' e2 (fun i y s hy hs => ?_) (fun s hs => hQ s (by rw [List.length_cons]; rwa [show k + (r.length + 1) = k + 1 + r.length by omega]))
    have := h (i + 1) y s (by simpa using hy) (by rwa [show k + (i + 1) = k + 1 + i by omega])
    rwa [show k + (i + 1) = k + 1 + i by omega] at this
   ·simp only [Nat.add_zero] at e1
    simp only [a0Q, e1]
    exact ⟨_, rfl, e2⟩
theorem rng_ex {α σ ρ : Type} {body : Nat -> α -> σ -> Option (Stp σ ρ)} {xs : List α} {s0 : σ} (Inv : Nat -> σ -> Prop) (Q : Out σ ρ -> Prop) (hl : xs.length <= 4611686018427387904) (h0 : Inv 0 s0)
  (h : ∀ i x s, xs[i]? = some x -> Inv i s -> (∃ s', body i x s = some (.nxt s') /\ Inv (i + 1) s') \/ ∃ v, body i x s = some (.ret v) /\ Q (.ret v)) (hQ : ∀ s, Inv xs.length s -> Q (.fin s)) : ∃ o, rng body xs s0 = some o /\ Q o := by
 unfold rng
 rw [if_pos hl]
 exact rangeL_ex Inv Q xs 0 s0 h0 (fun i x s hx hs => by simpa using h i x s hx (by simpa using hs)) (fun s hs => hQ s (by simpa using hs))
theorem rangeN_ex {σ ρ : Type} {body : Nat -> σ -> Option (Stp σ ρ)} (Inv : Nat -> σ -> Prop) (Q : Out σ ρ -> Prop) : ∀ (n k : Nat) (s : σ), Inv k s ->
  (∀ i s, k <= i -> i < k + n -> Inv i s -> (∃ s', body i s = some (.nxt s') /\ Inv (i + 1) s') \/ ∃ v, body i s = some (.ret v) /\ Q (.ret v)) ->
  (∀ s, Inv (k + n) s -> Q (.fin s)) -> ∃ o, a0R body n k s = some o /\ Q o
 | 0, k, s, hi, h, hQ => ⟨_, rfl, hQ s hi⟩
 | n + 1, k, s, hi, h, hQ => by
   rcases h k s zO zO hi with ⟨s', e1, e2⟩ | ⟨v, e1, e2⟩
   ·simp only [a0R, e1]
    exact rangeN_ex Inv Q n (k + 1) s' e2 (fun i s a b c => h i s zO zO c) (fun s hs => hQ s (by rwa [show k + (n + 1) = k + 1 + n by omega]))
   ·simp only [a0R, e1]
    exact ⟨_, rfl, e2⟩
theorem rni_ex {σ ρ : Type} {body : Nat -> σ -> Option (Stp σ ρ)} {n : Int} {s0 : σ} (Inv : Nat -> σ -> Prop) (Q : Out σ ρ -> Prop) (hn : n <= 4611686018427387904) (h0 : Inv 0 s0)
  (h : ∀ (i : Nat) s, (i : Int) < n -> Inv i s -> (∃ s', body i s = some (.nxt s') /\ Inv (i + 1) s') \/ ∃ v, body i s = some (.ret v) /\ Q (.ret v)) (hQ : ∀ s, Inv n.toNat s -> Q (.fin s)) : ∃ o, rni body n s0 = some o /\ Q o := by
 unfold rni
 rw [if_pos hn]
 exact rangeN_ex Inv Q n.toNat 0 s0 h0 (fun i s _ hi hs => h i s zO hs) (fun s hs => hQ s (by simpa using hs))

def a2k (p : Program) (f : Func) (i : Instr) : Bool :=
 if i.Op = 2 \/ i.Op = 3 then decide (i.Arg < f.Locals.length)
 else if i.Op = 4 then decide (i.Arg < f.Locals.length /\ f.Locals[i.Arg.toNat]? = some 0)
 else if i.Op = 23 \/ i.Op = 25 then decide (i.Arg < p.Funcs.length)
 else if i.Op = 21 \/ i.Op = 22 then decide (i.Arg < f.Code.length) else true
theorem b5M (p : Program) (f : Func) (i : Instr) (ha : 0 <= i.Arg) : a0b p f i = some (a2k p f i) := by
 unfold a0b a2k
 simp only [jp]
 by_cases h2 : i.Op = 2
 ·simp [h2]
 by_cases h3 : i.Op = 3
 ·simp [h3]
 by_cases h4 : i.Op = 4
 ·simp only [h4]
  simp
  by_cases h : i.Arg < f.Locals.length
  ·rw [if_pos h, a0N ha zO]
   simp [h, List.getElem?_eq_getElem (show i.Arg.toNat < f.Locals.length by omega)]
   rfl
  ·rw [if_neg h]; simp [h]
 by_cases h5 : i.Op = 23
 ·simp [h5]
 by_cases h6 : i.Op = 25
 ·simp [h6]
 by_cases h7 : i.Op = 21
 ·simp [h7]
 by_cases h8 : i.Op = 22
 ·simp [h8]
 simp [h2, h3, h4, h5, h6, h7, h8]

def a4s (p : Program) (f : Func) (i : Instr) : Bool := a2k p f i && !(decide (i.Op = 25) && (f.Result && decide (f.Keep < 0)))
def a9n (f : Func) : Bool := decide (f.Code.length ≠ 0 /\ f.Keep < f.Locals.length) && (decide (f.Keep < 0) || decide (f.Locals[f.Keep.toNat]? = some 0))
def a2w (p : Program) (f : Func) : Bool := a9n f && f.Code.all (a4s p f)
theorem a3J {i : Instr} (h : a1D i = true) : 0 <= i.Arg /\ i.Arg <= 65535 /\ 0 <= a0h i.Op := by
 unfold a1D at h
 simp only [Bool.and_eq_true, decide_eq_true_eq] at h
 obtain ⟨h1, h2⟩ := h
 split at h2
 ·simp at h2; omega
 ·rename_i h8
  simp only [decide_eq_true_eq] at h2
  obtain ⟨_, h3, h4⟩ := h2
  have hw := a2W i.Op
  have : (256 : Int) ^ (a0h i.Op).toNat <= 65536 := by
   rcases hw with e | e | e | e | e <;> rw [e] at h1 h8 ⊢ <;> first | omega | decide
  omega
theorem a3V {f : Func} (h : a0O f = true) : ∀ i ∈ f.Code, a1D i = true := by
 unfold a0O at h
 simp only [Bool.and_eq_true, decide_eq_true_eq, List.all_eq_true] at h
 exact h.2.2
theorem b7S (p : Program) (f : Func) (hf : a0O f = true) (hp : p.Funcs.length <= 1048576) : a0S p f = some (a2w p f) := by
 have hc := a3V hf
 have hd : f.Code.length <= 65535 := by
  unfold a0O at hf
  simp only [Bool.and_eq_true, decide_eq_true_eq] at hf
  omega
 unfold a0S a2w
 simp only [jp]
 have L := rng_inv (σ := Unit) (ρ := Option Bool) (xs := f.Code) (s0 := ()) (a4s p f) (some false) (fun _ _ => True)
  (body := fun (i_5 : Nat) (i_6 : Instr) (s_4 : Unit) => (((a0b p f i_6).bind fun nam_10 => (if (!nam_10) then (if true = true then (some (.ret (some false))) else (some (.nxt ()))) else (if (i_6.Op == 25) then (if f.Result then (if (decide (f.Keep < 0)) = true then (some (.ret (some false))) else (some (.nxt ()))) else (if false = true then (some (.ret (some false))) else (some (.nxt ())))) else (if false = true then (some (.ret (some false))) else (some (.nxt ())))))) : Option (Stp Unit (Option Bool)))) zO trivial (fun i x s hx _ => by
   have hm := List.mem_of_getElem? hx
   rw [b5M p f x (a3J (hc x hm)).1]
   unfold a4s
   cases a2k p f x with
   | false => rfl
   | true =>
     simp only [Option.bind_some, Bool.not_true, Bool.false_eq_true, if_false, Bool.true_and]
     by_cases h25 : x.Op = 25
     ·simp only [h25, beq_self_eq_true, if_true, decide_true, Bool.true_and]
      cases f.Result with
      | false => exact ⟨(), rfl, trivial⟩
      | true =>
        simp only [if_true, Bool.true_and]
        cases decide (f.Keep < 0) with
        | false => exact ⟨(), rfl, trivial⟩
        | true => rfl
     ·have : (x.Op == 25) = false := by simpa using h25
      simp only [this, Bool.false_eq_true, if_false, decide_eq_false h25, Bool.false_and, Bool.not_false, if_true]
      exact ⟨(), by simp, trivial⟩)
 have key : ((rng (fun (i_5 : Nat) (i_6 : Instr) (s_4 : Unit) => (((a0b p f i_6).bind fun nam_10 => (if (!nam_10) then (if true = true then (some (.ret (some false))) else (some (.nxt ()))) else (if (i_6.Op == 25) then (if f.Result then (if (decide (f.Keep < 0)) = true then (some (.ret (some false))) else (some (.nxt ()))) else (if false = true then (some (.ret (some false))) else (some (.nxt ())))) else (if false = true then (some (.ret (some false))) else (some (.nxt ())))))) : Option (Stp Unit (Option Bool)))) f.Code ()).bind (oc (fun (s_4 : Unit) => (some true)))) = some (f.Code.all (a4s p f)) := by
  cases e : f.Code.all (a4s p f) with
  | false =>
    rw [e] at L
    simp only [Bool.false_eq_true, if_false] at L ⊢
    rw [L]; rfl
  | true =>
    rw [e] at L
    simp only [if_true] at L ⊢
    obtain ⟨s, a, _⟩ := L
    rw [a]; rfl
 unfold a9n
 by_cases h1 : f.Code.length = 0
 ·simp [h1]
 have h1' : ((f.Code.length : Int) == 0) = false := by simpa using h1
 by_cases h2 : f.Keep >= f.Locals.length
 ·have : ¬ (f.Keep < f.Locals.length) := by omega
  simp only [h1', Bool.false_eq_true, if_false, decide_eq_true h2, if_true]
  simp [this]
 have h2' : f.Keep < f.Locals.length := by omega
 simp only [h1', Bool.false_eq_true, if_false, decide_eq_false h2, decide_eq_true (show f.Code.length ≠ 0 /\ f.Keep < f.Locals.length from ⟨h1, h2'⟩), Bool.true_and]
 by_cases h3 : f.Keep >= 0
 ·have h3' : ¬ f.Keep < 0 := by omega
  simp only [decide_eq_true h3, if_true, decide_eq_false h3', Bool.false_or]
  rw [a0N h3 zO, List.getElem?_eq_getElem (show f.Keep.toNat < f.Locals.length by omega)]
  simp only [Option.bind_some]
  by_cases h4 : f.Locals[f.Keep.toNat] = 0
  ·simp only [h4, bne_self_eq_false, Bool.false_eq_true, if_false, decide_true, Bool.true_and]
   simp only [decide_eq_false h3', Bool.false_eq_true, if_false] at key ⊢
   exact key
  ·have : (f.Locals[f.Keep.toNat] != 0) = true := by simpa using h4
   simp [this, h4]
 ·have h3' : f.Keep < 0 := by omega
  simp only [decide_eq_false h3, Bool.false_eq_true, if_false, decide_eq_true h3', Bool.true_or, Bool.true_and]
  simp only [decide_eq_true h3', Bool.false_eq_true, if_false] at key ⊢
  exact key

def a3f (i : Instr) (a : Nat) : List Int := if i.Op = 21 then [i.Arg] else if i.Op = 22 then [(a : Int) + 1, i.Arg] else if i.Op = 24 \/ i.Op = 26 \/ i.Op = 30 then [] else [(a : Int) + 1]
theorem b3R (i : Instr) (a : Nat) (ha : a <= 1048576) : a0J i a = some (a3f i a) := by
 unfold a0J a3f
 simp only [jp]
 rw [a2n (x := (a : Int) + 1) zO]
 by_cases h1 : i.Op = 21
 ·simp [h1]
 by_cases h2 : i.Op = 22
 ·simp [h2]
 by_cases h3 : i.Op = 24
 ·simp [h3]
 by_cases h4 : i.Op = 26
 ·simp [h4]
 by_cases h5 : i.Op = 30
 ·simp [h5]
 simp [h1, h2, h3, h4, h5]
theorem b7T (i : Instr) (a : Nat) : (a3f i a).length <= 2 := by
 unfold a3f
 split
 ·simp
 ·split
  ·simp
  ·split <;> simp

theorem a6C {σ ρ : Type} {a b : List Int} {body : Nat -> σ -> Option (Stp σ ρ)} (s : σ) (v : ρ) (hl : a.length = b.length)
  (h : ∀ (i : Nat) (h1 : i < a.length) (h2 : i < b.length), body i s = some (if a[i] = b[i] then .nxt s else .ret v)) :
  ∀ (m k : Nat), k + m = a.length -> a0R body m k s = some (if a.drop k = b.drop k then .fin s else .ret v)
 | 0, k, hk => by
   rw [List.drop_eq_nil_of_le zO, List.drop_eq_nil_of_le zO]; rfl
 | m + 1, k, hk => by
   have h1 : k < a.length := by omega
   have h2 : k < b.length := by omega
   have key : a.drop k = b.drop k ↔ a[k] = b[k] /\ a.drop (k + 1) = b.drop (k + 1) := by
    rw [List.drop_eq_getElem_cons h1, List.drop_eq_getElem_cons h2, List.cons.injEq]
   simp only [a0R, h k h1 h2]
   by_cases e : a[k] = b[k]
   ·rw [if_pos e]
    simp only
    rw [a6C s v hl h m (k + 1) zO]
    by_cases e2 : a.drop (k + 1) = b.drop (k + 1)
    ·rw [if_pos e2, if_pos (key.2 ⟨e, e2⟩)]
    ·rw [if_neg e2, if_neg (fun hh => e2 (key.1 hh).2)]
   ·rw [if_neg e, if_neg (fun hh => e (key.1 hh).1)]
theorem b1a (a b : List Int) (ha : a.length <= 1000000) : w9 a b = some (decide (a = b)) := by
 unfold w9
 by_cases hl : a.length = b.length
 ·have e : ((a.length : Int) != b.length) = false := by simp [hl]
  simp only [e, Bool.false_eq_true, if_false, rni]
  rw [if_pos zO, show ((a.length : Int)).toNat = a.length by omega]
  rw [a6C (a := a) (b := b) b (some false) hl (fun i h1 h2 => ?_) a.length 0 zO]
  ·simp only [List.drop_zero, Option.bind_some]
   by_cases e : a = b
   ·rw [if_pos e, decide_eq_true e]; rfl
   ·rw [if_neg e, decide_eq_false e]; rfl
  ·rw [m9, m9, List.getElem?_eq_getElem h1, List.getElem?_eq_getElem h2]
   simp only [Option.bind_some]
   by_cases e : a[i] = b[i]
   ·rw [if_pos e]; simp [e]
   ·rw [if_neg e]; simp [e]
 ·have e : ((a.length : Int) != b.length) = true := by simp; omega
  rw [if_pos e, decide_eq_false (fun h => hl (by rw [h]))]
def b4K (f : Func) (i : Instr) : List Int := [f.Locals[i.Arg.toNat]?.getD 0]
def eff (p : Program) (f : Func) (i : Instr) (top : Int) : List Int × List Int :=
 if i.Op = 1 \/ i.Op = 28 then ([], [0]) else if i.Op = 2 then ([], b4K f i) else if i.Op = 3 then (b4K f i, []) else if i.Op = 4 then ([], [1]) else if i.Op = 5 then ([1], [0])
 else if i.Op = 6 then ([1, 0], []) else if i.Op = 21 then ([], []) else if i.Op = 22 \/ i.Op = 26 \/ i.Op = 29 \/ i.Op = 30 then ([0], [])
 else if i.Op = 23 \/ i.Op = 25 then (match p.Funcs[i.Arg.toNat]? with | some g => (g.Locals.take g.Params.toNat, if i.Op = 23 /\ g.Result = true then [0] else []) | none => ([], []))
 else if i.Op = 24 then (if f.Result = true then [0] else [], []) else if i.Op = 27 then ([], [0, 0]) else if i.Op = 31 then ([top], []) else if i.Op = 32 then ([top], [top, top]) else ([0, 0], [0])
theorem b3S {l : List Int} {a : Int} (h0 : 0 <= a) (h : a < l.length) (hb : a <= 65535) : a5x l a (I64 (a + 1)) = some [l[a.toNat]?.getD 0] := by
 rw [a2n zO]
 unfold a5x
 rw [if_pos zO]
 have hlt : a.toNat < l.length := by omega
 rw [show (a + 1).toNat = a.toNat + 1 by omega, List.getElem?_eq_getElem hlt]
 rw [List.take_succ_eq_append_getElem hlt, List.drop_append_of_le_length zE]
 simp
theorem a1U {f : Func} (h : a0O f = true) : 0 <= f.Params /\ f.Params <= f.Locals.length /\ f.Locals.length <= 255 /\ -1 <= f.Keep /\ f.Keep <= 254 /\ f.Code.length <= 65535 := by
 unfold a0O at h
 simp only [Bool.and_eq_true, decide_eq_true_eq] at h
 exact h.1
theorem b3T (p : Program) (f : Func) (i : Instr) (top : Int) (ha : 0 <= i.Arg /\ i.Arg <= 65535) (hn : a2k p f i = true) (hg : ∀ g ∈ p.Funcs, a0O g = true) : a0I p f i top = some (eff p f i top) := by
 unfold a0I eff
 simp only [jp]
 unfold a2k at hn
 by_cases h1 : i.Op = 1
 ·simp [h1]
 by_cases h28 : i.Op = 28
 ·simp [h28]
 by_cases h2 : i.Op = 2
 ·simp [h2] at hn
  simp [h2, b3S ha.1 hn ha.2, b4K]
 by_cases h3 : i.Op = 3
 ·simp [h3] at hn
  simp [h3, b3S ha.1 hn ha.2, b4K]
 by_cases h4 : i.Op = 4
 ·simp [h4]
 by_cases h5 : i.Op = 5
 ·simp [h5]
 by_cases h6 : i.Op = 6
 ·simp [h6]
 by_cases h21 : i.Op = 21
 ·simp [h21]
 by_cases h22 : i.Op = 22
 ·simp [h22]
 by_cases h26 : i.Op = 26
 ·simp [h26]
 by_cases h29 : i.Op = 29
 ·simp [h29]
 by_cases h30 : i.Op = 30
 ·simp [h30]
 by_cases hc : i.Op = 23 \/ i.Op = 25
 ·have hlt : i.Arg < p.Funcs.length := by
   rcases hc with h | h <;> simpa [h] using hn
  have hlt' : i.Arg.toNat < p.Funcs.length := by omega
  have hf := a1U (hg _ (List.getElem_mem hlt'))
  have hs : a5x (p.Funcs[i.Arg.toNat]).Locals 0 (p.Funcs[i.Arg.toNat]).Params = some ((p.Funcs[i.Arg.toNat]).Locals.take (p.Funcs[i.Arg.toNat]).Params.toNat) := by
   unfold a5x
   rw [if_pos zO]
   simp
  rw [List.getElem?_eq_getElem hlt']
  rcases hc with h | h
  ·simp only [h]
   simp
   rw [a0N ha.1 hlt']
   simp only [Option.bind_some, hs]
   cases (p.Funcs[i.Arg.toNat]).Result <;> simp
  ·simp only [h]
   simp
   rw [a0N ha.1 hlt']
   simp [hs]
 have h23 : ¬ i.Op = 23 := fun h => hc (.inl h)
 have h25 : ¬ i.Op = 25 := fun h => hc (.inr h)
 by_cases h24 : i.Op = 24
 ·simp [h24]
  cases f.Result <;> simp
 by_cases h27 : i.Op = 27
 ·simp [h27]
 by_cases h31 : i.Op = 31
 ·simp [h31]
 by_cases h32 : i.Op = 32
 ·simp [h32]
 simp [h1, h28, h2, h3, h4, h5, h6, h21, h22, h26, h29, h30, h23, h25, h24, h27, h31, h32]

def a2K (s : List Int) : Int := s.getLast?.getD 0
def a1R (p : Program) (f : Func) (i : Instr) (s : List Int) : Option (List Int) :=
 let e := eff p f i (a2K s)
 if e.1.length <= s.length /\ s.drop (s.length - e.1.length) = e.1 /\ ¬ (i.Op = 24 /\ e.1.length < s.length) then some (s.take (s.length - e.1.length) ++ e.2) else none
theorem b7U {c : Prop} [Decidable c] : (if c then [(0 : Int)] else []).length <= 2 := by split <;> exact Nat.le_of_ble_eq_true rfl
theorem b0c (p : Program) (f : Func) (i : Instr) (t : Int) : (eff p f i t).2.length <= 2 := by
 unfold eff b4K
 by_cases h0 : i.Op = 1 \/ i.Op = 28
 ·rw [if_pos h0]
  exact Nat.le_of_ble_eq_true rfl
 rw [if_neg h0]
 by_cases h1 : i.Op = 2
 ·rw [if_pos h1]
  exact Nat.le_of_ble_eq_true rfl
 rw [if_neg h1]
 by_cases h2 : i.Op = 3
 ·rw [if_pos h2]
  exact Nat.le_of_ble_eq_true rfl
 rw [if_neg h2]
 by_cases h3 : i.Op = 4
 ·rw [if_pos h3]
  exact Nat.le_of_ble_eq_true rfl
 rw [if_neg h3]
 by_cases h4 : i.Op = 5
 ·rw [if_pos h4]
  exact Nat.le_of_ble_eq_true rfl
 rw [if_neg h4]
 by_cases h5 : i.Op = 6
 ·rw [if_pos h5]
  exact Nat.le_of_ble_eq_true rfl
 rw [if_neg h5]
 by_cases h6 : i.Op = 21
 ·rw [if_pos h6]
  exact Nat.le_of_ble_eq_true rfl
 rw [if_neg h6]
 by_cases h7 : i.Op = 22 \/ i.Op = 26 \/ i.Op = 29 \/ i.Op = 30
 ·rw [if_pos h7]
  exact Nat.le_of_ble_eq_true rfl
 rw [if_neg h7]
 by_cases h8 : i.Op = 23 \/ i.Op = 25
 ·rw [if_pos h8]
  cases p.Funcs[i.Arg.toNat]? with
  | none => exact Nat.le_of_ble_eq_true rfl
  | some g => exact b7U
 rw [if_neg h8]
 by_cases h9 : i.Op = 24
 ·rw [if_pos h9]
  exact Nat.le_of_ble_eq_true rfl
 rw [if_neg h9]
 by_cases h10 : i.Op = 27
 ·rw [if_pos h10]
  exact Nat.le_of_ble_eq_true rfl
 rw [if_neg h10]
 by_cases h11 : i.Op = 31
 ·rw [if_pos h11]
  exact Nat.le_of_ble_eq_true rfl
 rw [if_neg h11]
 by_cases h12 : i.Op = 32
 ·rw [if_pos h12]
  exact Nat.le_of_ble_eq_true rfl
 rw [if_neg h12]
 exact Nat.le_of_ble_eq_true rfl
theorem b1b {p f i s s'} (h : a1R p f i s = some s') : s'.length <= s.length + 2 := by
 unfold a1R at h
 simp only at h
 split at h
 ·cases h
  have := b0c p f i (a2K s)
  simp; omega
 ·cases h

inductive Der (p : Program) (f : Func) : Nat -> List Int -> Prop
 | start : Der p f 0 []
 | go {a : Nat} {s s' : List Int} {i : Instr} {b : Nat} (h : Der p f a s) (hi : f.Code[a]? = some i) (hs : a1R p f i s = some s') (hb : (b : Int) ∈ a3f i a) : Der p f b s'
def Bad (p : Program) (f : Func) : Prop :=
 (∃ a s i, Der p f a s /\ f.Code[a]? = some i /\ (a1R p f i s = none \/ ∃ b ∈ a3f i a, (f.Code.length : Int) <= b)) \/ ∃ b s1 s2, Der p f b s1 /\ Der p f b s2 /\ s1 ≠ s2
def Deep (p : Program) (f : Func) : Prop := ∃ a s i s', Der p f a s /\ f.Code[a]? = some i /\ a1R p f i s = some s' /\ 16 < s'.length
def Sol (p : Program) (f : Func) (R : Nat -> Option (List Int)) : Prop :=
 R 0 = some [] /\ ∀ a s, R a = some s -> Der p f a s /\ ∃ i s', f.Code[a]? = some i /\ a1R p f i s = some s' /\ ∀ b ∈ a3f i a, ∃ m : Nat, b = m /\ m < f.Code.length /\ R m = some s'
theorem Sol.all {p f R} (h : Sol p f R) {a s} (d : Der p f a s) : R a = some s := by
 induction d with
 | start => exact h.1
 | go d hi hs hb ih =>
   obtain ⟨_, i, s', h1, h2, h3⟩ := h.2 _ _ ih
   rw [hi] at h1; cases h1
   rw [hs] at h2; cases h2
   obtain ⟨m, e, _, h4⟩ := h3 _ hb
   have : m = _ := Int.ofNat.inj e.symm
   subst this
   exact h4
theorem Sol.good {p f R} (h : Sol p f R) : ¬ Bad p f := by
 rintro (⟨a, s, i, d, hi, hb⟩ | ⟨b, s1, s2, d1, d2, hne⟩)
 ·obtain ⟨_, i', s', h1, h2, h3⟩ := h.2 _ _ (h.all d)
  rw [hi] at h1; cases h1
  rcases hb with hb | ⟨b, hb, hl⟩
  ·rw [hb] at h2; cases h2
  ·obtain ⟨m, e, hm, _⟩ := h3 b hb
   omega
 ·have e1 := h.all d1
  have e2 := h.all d2
  rw [e1] at e2
  exact hne (Option.some.inj e2)
theorem Sol.uniq {p f R R'} (h : Sol p f R) (h' : Sol p f R') : R = R' := by
 funext a
 cases e : R a with
 | some s => exact (h'.all (h.2 _ _ e).1).symm
 | none =>
   cases e' : R' a with
   | none => rfl
   | some s =>
     have := h.all (h'.2 _ _ e').1
     rw [e] at this; cases this

theorem a6D {α β : Type} {x : Option α} {F : α -> Option β} {P : β -> Prop} (h : ∃ o, x = some o /\ ∃ r, F o = some r /\ P r) : ∃ r, x.bind F = some r /\ P r := by
 obtain ⟨o, rfl, r, h1, h2⟩ := h
 exact ⟨r, h1, h2⟩
theorem b9X {β : Type} (y : List Int) (hy : y.length <= 1000000000) (K : Int -> Option β) :
  jp K (fun k => if decide ((List.length y : Int) > 0) = true then (j7 y (I64 ((List.length y : Int) - 1))).bind fun v => k v else k 0) = K (a2K y) := by
 unfold jp a2K
 cases y with
 | nil => rfl
 | cons a r =>
   have h : ((List.length (a :: r) : Int) > 0) := by simp only [List.length_cons]; omega
   dsimp only
   rw [decide_eq_true h, if_pos rfl, a2n zO, show ((List.length (a :: r) : Int) - 1) = ((r.length : Nat) : Int) by simp only [List.length_cons]; omega, m9]
   rw [List.getLast?_eq_getElem?]
   simp only [List.length_cons, Nat.add_sub_cancel]
   rw [List.getElem?_eq_getElem zS]
   rfl
def okS (op : Int) (y t : List Int) : Bool := decide (t.length <= y.length /\ y.drop (y.length - t.length) = t /\ ¬ (op = 24 /\ t.length < y.length))
theorem b9Y {β : Type} (y t : List Int) (op : Int) (hy : y.length <= 1000000) (ht : t.length <= 1000000) (K : Bool -> Option β) :
  jp K (fun k => if decide (I64 ((List.length y : Int) - (List.length t : Int)) < 0) = true then k true else ((a5x y (I64 ((List.length y : Int) - (List.length t : Int))) (List.length y : Int)).bind fun l => (w9 l t).bind fun q =>
   if (!q) = true then k true else if (op == 24) = true then k (decide (I64 ((List.length y : Int) - (List.length t : Int)) > 0)) else k false)) = K (!okS op y t) := by
 unfold jp okS
 rw [a2n zO]
 by_cases h : t.length <= y.length
 ·have h1 : ¬ ((List.length y : Int) - (List.length t : Int) < 0) := by omega
  rw [decide_eq_false h1]
  simp only [Bool.false_eq_true, if_false]
  unfold a5x
  rw [if_pos zO]
  simp only [Option.bind_some]
  rw [show (((List.length y : Int) - (List.length t : Int))).toNat = y.length - t.length by omega, show ((List.length y : Int)).toNat = y.length by omega, List.take_length, b1a _ _ zE]
  simp only [Option.bind_some]
  by_cases h2 : y.drop (y.length - t.length) = t
  ·rw [decide_eq_true h2]
   simp only [Bool.not_true, Bool.false_eq_true, if_false]
   by_cases h3 : op = 24
   ·have e3 : (op == 24) = true := by simp [h3]
    rw [if_pos e3]
    by_cases h4 : t.length < y.length
    ·have : (List.length y : Int) - (List.length t : Int) > 0 := by omega
     rw [decide_eq_true this, decide_eq_false (fun hh => hh.2.2 ⟨h3, h4⟩)]; rfl
    ·have : ¬ ((List.length y : Int) - (List.length t : Int) > 0) := by omega
     rw [decide_eq_false this, decide_eq_true ⟨h, h2, fun hh => h4 hh.2⟩]; rfl
   ·have e3 : ¬ ((op == 24) = true) := by simp [h3]
    rw [if_neg e3, decide_eq_true ⟨h, h2, fun hh => h3 hh.1⟩]; rfl
  ·have e9 : decide (t.length <= y.length /\ y.drop (y.length - t.length) = t /\ ¬ (op = 24 /\ t.length < y.length)) = false := decide_eq_false (fun hh => h2 hh.2.1)
   rw [decide_eq_false h2, e9]; rfl
 ·have h1 : ((List.length y : Int) - (List.length t : Int) < 0) := by omega
  have e9 : decide (t.length <= y.length /\ y.drop (y.length - t.length) = t /\ ¬ (op = 24 /\ t.length < y.length)) = false := decide_eq_false (fun hh => h hh.1)
  dsimp only
  rw [decide_eq_true h1, e9]; rfl
theorem b3U {β : Type} (d : Bool) (n : Int) (K : Bool -> Option β) : jp K (fun k => if d = true then k true else k (decide (n > 16))) = K (d || decide (n > 16)) := by
 unfold jp; cases d <;> rfl
theorem b5N (p : Program) (f : Func) (i : Instr) (s : List Int) : a1R p f i s = if okS i.Op s (eff p f i (a2K s)).1 = true then some (s.take (s.length - (eff p f i (a2K s)).1.length) ++ (eff p f i (a2K s)).2) else none := by
 unfold a1R okS
 simp only [decide_eq_true_eq]
theorem b5O (l : List Int) (h : l.length <= 1000000000) : a0f l = some l := by unfold a0f; rw [appL1 (by simp <;> omega)]; simp
theorem b3V (l : List Int) (h : l.length <= 1000000000) : v5 l = some l := by unfold v5; rw [appL1 (by simp <;> omega)]; simp

theorem a9o {r : List Bool} {m : Nat} (h : r[m]? = some false) : (r.set m true).count false + 1 = r.count false := by
 induction r generalizing m with
 | nil => simp at h
 | cons x r ih =>
   cases m with
   | zero => simp at h; subst h; simp
   | succ m =>
     have := ih (m := m) (by simpa using h)
     simp only [List.set_cons_succ, List.count_cons]
     omega

structure c4s (p : Program) (f : Func) (r0 : List Bool) (st0 : List (List Int)) (td0 : List Int) (x' : List Int) (fol : List Int) (k : Nat) (q : List Bool × List (List Int) × List Int) : Prop where
 lr : q.1.length = f.Code.length
 ls : q.2.1.length = f.Code.length
 mono : ∀ m : Nat, r0[m]? = some true -> q.1[m]? = some true /\ q.2.1[m]? = st0[m]?
 new : ∀ m : Nat, q.1[m]? = some true -> r0[m]? = some true \/ (q.2.1[m]? = some x' /\ (m : Int) ∈ q.2.2 /\ Der p f m x')
 un : ∀ m : Nat, q.1[m]? = some false -> r0[m]? = some false /\ q.2.1[m]? = some []
 td : ∀ t ∈ q.2.2, ∃ a : Nat, t = a /\ q.1[a]? = some true
 sub : ∀ t ∈ td0, t ∈ q.2.2
 me : 2 * q.1.count false + q.2.2.length <= 2 * r0.count false + td0.length
 got : ∀ (j : Nat) b, j < k -> fol[j]? = some b -> ∃ m : Nat, b = m /\ m < f.Code.length /\ q.1[m]? = some true /\ q.2.1[m]? = some x'

theorem c2w {ρ : Type} (E : ρ) (p : Program) (f : Func) {r0 : List Bool} {st0 : List (List Int)} {td0 : List Int} {x x' : List Int} {a : Nat} {i : Instr} {fol : List Int}
  (hn : f.Code.length <= 256) (hd : Der p f a x) (hi : f.Code[a]? = some i) (hs : a1R p f i x = some x') (hx : x'.length <= 100000) (hfol : fol = a3f i a) (hf0 : ∀ b ∈ fol, 0 <= b) (hlr : r0.length = f.Code.length) (hls : st0.length = f.Code.length)
  (hsl : ∀ (m : Nat) (y : List Int), st0[m]? = some y -> y.length <= 100000)
  (hder : ∀ m : Nat, r0[m]? = some true -> ∃ y, st0[m]? = some y /\ Der p f m y) (hun : ∀ m : Nat, r0[m]? = some false -> st0[m]? = some []) (htd : ∀ t ∈ td0, ∃ a : Nat, t = a /\ r0[a]? = some true) (htl : td0.length <= 10000) :
  ∃ o, rng (fun (i_25 : Nat) (vto_26 : Int) (s_24 : ((List Bool) × (List (List Int)) × (List Int))) => ((if (decide (vto_26 >= (List.length f.Code : Int))) then (some (.ret E)) else ((j7 s_24.1 vto_26).bind fun y_28 => (if (!y_28) then ((j7 s_24.1 vto_26).bind fun y_29 => ((j7 s_24.2.1 vto_26).bind fun y_31 => ((a1d 8 s_24.2.2 [vto_26]).bind fun l_33 => (some (.nxt ((List.set s_24.1 (Int.toNat vto_26) true), (List.set s_24.2.1 (Int.toNat vto_26) x'), l_33)))))) else ((j7 s_24.2.1 vto_26).bind fun y_34 => ((w9 y_34 x').bind fun equ_35 => (if (!equ_35) then (some (.ret E)) else (some (.nxt (s_24.1, s_24.2.1, s_24.2.2))))))))) : Option (Stp ((List Bool) × (List (List Int)) × (List Int)) ρ))) fol (r0, st0, td0) = some o /\
   ((∃ q, o = .fin q /\ c4s p f r0 st0 td0 x' fol fol.length q) \/ (o = .ret E /\ Bad p f)) := by
 have hfl : fol.length <= 2 := by rw [hfol]; exact b7T i a
 refine rng_ex (c4s p f r0 st0 td0 x' fol) _ zO ?h0 ?h ?hQ
 case h0 => exact ⟨hlr, hls, fun m h => ⟨h, rfl⟩, fun m h => .inl h, fun m h => ⟨h, hun m h⟩, htd, fun t h => h, Nat.le_refl _, fun j b hj => by omega⟩
 case hQ => exact fun q hq => .inl ⟨q, rfl, hq⟩
 intro j to q hto hq
 have hb : to ∈ a3f i a := hfol ▸ List.mem_of_getElem? hto
 have hto0 : 0 <= to := hf0 to (List.mem_of_getElem? hto)
 obtain ⟨m, rfl⟩ : ∃ m : Nat, to = m := ⟨to.toNat, by omega⟩
 by_cases hge : (m : Int) >= f.Code.length
 ·right
  exact ⟨E, by rw [if_pos (by simpa using hge)], .inr ⟨rfl, .inl ⟨a, x, i, hd, hi, .inr ⟨m, hb, by omega⟩⟩⟩⟩
 have hlt : m < f.Code.length := by omega
 have hdm : Der p f m x' := .go hd hi hs hb
 rw [if_neg (by simpa using hge), m9]
 have hrm : q.1[m]? = some (q.1[m]'(by rw [hq.lr]; exact hlt)) := List.getElem?_eq_getElem _
 have hsm : q.2.1[m]? = some (q.2.1[m]'(by rw [hq.ls]; exact hlt)) := List.getElem?_eq_getElem _
 generalize q.1[m]'(by rw [hq.lr]; exact hlt) = rb at hrm
 generalize q.2.1[m]'(by rw [hq.ls]; exact hlt) = sb at hsm
 rw [hrm]
 simp only [Option.bind_some]
 cases rb with
 | false =>
   simp only [Bool.not_false, if_true]
   rw [m9, hsm]
   simp only [Option.bind_some]
   have hql : q.2.2.length <= 11000 := by
    have := hq.me
    have h2 : r0.count false <= r0.length := List.count_le_length
    omega
   rw [appL_of zE]
   left
   refine ⟨_, rfl, ?_⟩
   have hmf := hq.un m hrm
   have hc := a9o hrm
   refine ⟨by simpa using hq.lr, by simpa using hq.ls, fun k hk => ?_, fun k hk => ?_, fun k hk => ?_, fun t ht => ?_, fun t ht => by simp [hq.sub t ht], ?_, fun k b hk hb2 => ?_⟩
   ·have hne : k ≠ m := by rintro rfl; rw [hmf.1] at hk; cases hk
    have := hq.mono k hk
    simp only [Int.toNat_natCast, List.getElem?_set_ne (Ne.symm hne)]
    exact this
   ·by_cases e : k = m
    ·subst e
     right
     refine ⟨?_, by simp, hdm⟩
     simp only [Int.toNat_natCast]
     rw [List.getElem?_set_self (by rw [hq.ls]; exact hlt)]
    ·simp only [Int.toNat_natCast, List.getElem?_set_ne (Ne.symm e)] at hk ⊢
     rcases hq.new k hk with h | ⟨h1, h2, h3⟩
     ·exact .inl h
     ·exact .inr ⟨h1, by simp [h2], h3⟩
   ·by_cases e : k = m
    ·subst e
     simp only [Int.toNat_natCast] at hk
     rw [List.getElem?_set_self (by rw [hq.lr]; exact hlt)] at hk
     cases hk
    ·simp only [Int.toNat_natCast, List.getElem?_set_ne (Ne.symm e)] at hk ⊢
     exact hq.un k hk
   ·simp only [List.mem_append, List.mem_singleton] at ht
    simp only [Int.toNat_natCast]
    rcases ht with ht | rfl
    ·obtain ⟨c, rfl, h1⟩ := hq.td t ht
     refine ⟨c, rfl, ?_⟩
     by_cases e : c = m
     ·subst e; rw [List.getElem?_set_self (by rw [hq.lr]; exact hlt)]
     ·rw [List.getElem?_set_ne (Ne.symm e)]; exact h1
    ·exact ⟨m, rfl, by rw [List.getElem?_set_self (by rw [hq.lr]; exact hlt)]⟩
   ·have := hq.me
    simp only [Int.toNat_natCast, List.length_append, List.length_singleton]
    omega
   ·simp only [Int.toNat_natCast]
    by_cases e : k = j
    ·subst e
     rw [hto] at hb2; cases hb2
     exact ⟨m, rfl, hlt, by rw [List.getElem?_set_self (by rw [hq.lr]; exact hlt)], by rw [List.getElem?_set_self (by rw [hq.ls]; exact hlt)]⟩
    ·obtain ⟨c, rfl, h1, h2, h3⟩ := hq.got k b zO hb2
     have hne : c ≠ m := by rintro rfl; rw [hrm] at h2; cases h2
     exact ⟨c, rfl, h1, by rw [List.getElem?_set_ne (Ne.symm hne)]; exact h2, by rw [List.getElem?_set_ne (Ne.symm hne)]; exact h3⟩
 | true =>
   simp only [Bool.not_true, Bool.false_eq_true, if_false]
   rw [m9, hsm]
   simp only [Option.bind_some]
   have hsb : sb.length <= 100000 /\ Der p f m sb := by
    rcases hq.new m hrm with h | ⟨h1, _, h3⟩
    ·have := (hq.mono m h).2
     rw [hsm] at this
     obtain ⟨y, e1, e2⟩ := hder m h
     rw [e1] at this
     cases this
     exact ⟨hsl m sb e1, e2⟩
    ·rw [hsm] at h1; cases h1; exact ⟨hx, h3⟩
   rw [b1a sb x' zO]
   simp only [Option.bind_some]
   by_cases e : sb = x'
   ·left
    rw [decide_eq_true e]
    refine ⟨_, rfl, ?_⟩
    refine ⟨hq.lr, hq.ls, hq.mono, hq.new, hq.un, hq.td, hq.sub, hq.me, fun k b hk hb2 => ?_⟩
    by_cases ek : k = j
    ·subst ek
     rw [hto] at hb2; cases hb2
     exact ⟨m, rfl, hlt, hrm, by rw [<- e]; exact hsm⟩
    ·exact hq.got k b zO hb2
   ·right
    rw [decide_eq_false e]
    exact ⟨E, rfl, .inr ⟨rfl, .inr ⟨m, sb, x', hsb.2, hdm, e⟩⟩⟩
structure FOk (p : Program) (f : Func) : Prop where
 ps : ∀ g ∈ p.Funcs, a0O g = true
 fp : a0O f = true
 bd : a3b f = true
 hd : a2w p f = true
theorem FOk.n {p f} (h : FOk p f) : 1 <= f.Code.length /\ f.Code.length <= 256 := by
 have h1 := h.bd
 have h2 := h.hd
 unfold a3b at h1
 unfold a2w a9n at h2
 simp only [Bool.and_eq_true, decide_eq_true_eq] at h1 h2
 omega
theorem FOk.name {p f} (h : FOk p f) {a : Nat} {i : Instr} (hi : f.Code[a]? = some i) : a2k p f i = true := by
 have h2 := h.hd
 unfold a2w a4s at h2
 simp only [Bool.and_eq_true, List.all_eq_true] at h2
 exact (h2.2 i (List.mem_of_getElem? hi)).1
theorem FOk.arg {p f} (h : FOk p f) {a : Nat} {i : Instr} (hi : f.Code[a]? = some i) : 0 <= i.Arg /\ i.Arg <= 65535 := by
 have := a3J (a3V h.fp i (List.mem_of_getElem? hi))
 exact ⟨this.1, this.2.1⟩
theorem FOk.fol {p f} (h : FOk p f) {a : Nat} {i : Instr} (hi : f.Code[a]? = some i) : ∀ b ∈ a3f i a, 0 <= b := by
 have := (h.arg hi).1
 intro b hb
 unfold a3f at hb
 split at hb
 ·simp at hb; omega
 ·split at hb
  ·simp at hb; omega
  ·split at hb
   ·simp at hb
   ·simp at hb; omega
theorem b5P {p f} (h : FOk p f) (i : Instr) (t : Int) : (eff p f i t).1.length <= 255 := by
 have aux : ∀ (g : Func) (x : List Int), g ∈ p.Funcs -> (g.Locals.take g.Params.toNat, x).1.length <= 255 := fun g x hg => by
  have := a1U (h.ps g hg)
  simp; omega
 unfold eff b4K
 by_cases h0 : i.Op = 1 \/ i.Op = 28
 ·rw [if_pos h0]; exact Nat.le_of_ble_eq_true rfl
 rw [if_neg h0]
 by_cases h1 : i.Op = 2
 ·rw [if_pos h1]; exact Nat.le_of_ble_eq_true rfl
 rw [if_neg h1]
 by_cases h2 : i.Op = 3
 ·rw [if_pos h2]; exact Nat.le_of_ble_eq_true rfl
 rw [if_neg h2]
 by_cases h3 : i.Op = 4
 ·rw [if_pos h3]; exact Nat.le_of_ble_eq_true rfl
 rw [if_neg h3]
 by_cases h4 : i.Op = 5
 ·rw [if_pos h4]; exact Nat.le_of_ble_eq_true rfl
 rw [if_neg h4]
 by_cases h5 : i.Op = 6
 ·rw [if_pos h5]; exact Nat.le_of_ble_eq_true rfl
 rw [if_neg h5]
 by_cases h6 : i.Op = 21
 ·rw [if_pos h6]; exact Nat.le_of_ble_eq_true rfl
 rw [if_neg h6]
 by_cases h7 : i.Op = 22 \/ i.Op = 26 \/ i.Op = 29 \/ i.Op = 30
 ·rw [if_pos h7]; exact Nat.le_of_ble_eq_true rfl
 rw [if_neg h7]
 by_cases h8 : i.Op = 23 \/ i.Op = 25
 ·rw [if_pos h8]
  cases e : p.Funcs[i.Arg.toNat]? with
  | none => exact Nat.le_of_ble_eq_true rfl
  | some g => exact aux g _ (List.mem_of_getElem? e)
 rw [if_neg h8]
 by_cases h9 : i.Op = 24
 ·rw [if_pos h9]
  cases f.Result <;> exact Nat.le_of_ble_eq_true rfl
 rw [if_neg h9]
 by_cases h10 : i.Op = 27
 ·rw [if_pos h10]; exact Nat.le_of_ble_eq_true rfl
 rw [if_neg h10]
 by_cases h11 : i.Op = 31
 ·rw [if_pos h11]; exact Nat.le_of_ble_eq_true rfl
 rw [if_neg h11]
 by_cases h12 : i.Op = 32
 ·rw [if_pos h12]; exact Nat.le_of_ble_eq_true rfl
 rw [if_neg h12]
 exact Nat.le_of_ble_eq_true rfl

def muK (s : Bool × List Bool × List (List Int) × List Int) : Nat := 2 * s.2.1.count false + s.2.2.2.length
structure c2x (p : Program) (f : Func) (s : Bool × List Bool × List (List Int) × List Int) : Prop where
 lr : s.2.1.length = f.Code.length
 ls : s.2.2.1.length = f.Code.length
 td : ∀ t ∈ s.2.2.2, ∃ a : Nat, t = a /\ s.2.1[a]? = some true
 z : s.2.1[0]? = some true /\ s.2.2.1[0]? = some []
 der : ∀ a : Nat, s.2.1[a]? = some true -> ∃ x, s.2.2.1[a]? = some x /\ Der p f a x
 un : ∀ a : Nat, s.2.1[a]? = some false -> s.2.2.1[a]? = some []
 done : ∀ a : Nat, s.2.1[a]? = some true -> (a : Int) ∉ s.2.2.2 -> ∃ i x x', f.Code[a]? = some i /\ s.2.2.1[a]? = some x /\ a1R p f i x = some x' /\ (16 < x'.length -> s.1 = true) /\
  ∀ b ∈ a3f i a, ∃ m : Nat, b = m /\ m < f.Code.length /\ s.2.1[m]? = some true /\ s.2.2.1[m]? = some x'
 dp : s.1 = true -> Deep p f
 len : ∀ (a : Nat) x, s.2.2.1[a]? = some x -> x.length + 4 * muK s <= 8 * f.Code.length + 8

def c4t (p : Program) (f : Func) (o : List Bool × List (List Int) × Bool × Int) : Prop :=
 (Bad p f /\ o = ([], [], false, 50)) \/ ∃ R, Sol p f R /\ o.2.2.2 = 0 /\ o.1.length = f.Code.length /\ o.2.1.length = f.Code.length /\ (o.2.2.1 = true ↔ Deep p f) /\
  ∀ a, a < f.Code.length -> o.1[a]? = some (R a).isSome /\ o.2.1[a]? = some ((R a).getD [])

theorem c2x.ans {p f s} (h : c2x p f s) (ht : s.2.2.2 = []) : c4t p f (s.2.1, s.2.2.1, s.1, 0) := by
 right
 have hget : ∀ a : Nat, a < f.Code.length -> ∃ b x, s.2.1[a]? = some b /\ s.2.2.1[a]? = some x := fun a ha =>
  ⟨_, _, List.getElem?_eq_getElem (by rw [h.lr]; exact ha), List.getElem?_eq_getElem (by rw [h.ls]; exact ha)⟩
 let R : Nat -> Option (List Int) := fun a => if s.2.1[a]? = some true then s.2.2.1[a]? else none
 have hR : Sol p f R := by
  refine ⟨by simp only [R]; rw [if_pos h.z.1]; exact h.z.2, fun a x hx => ?_⟩
  simp only [R] at hx
  split at hx
  ·rename_i hr
   obtain ⟨y, e1, e2⟩ := h.der a hr
   rw [hx] at e1; cases e1
   refine ⟨e2, ?_⟩
   obtain ⟨i, y, x', d1, d2, d3, _, d4⟩ := h.done a hr (by rw [ht]; simp)
   rw [hx] at d2; cases d2
   refine ⟨i, x', d1, d3, fun b hb => ?_⟩
   obtain ⟨m, m1, m2, m3, m4⟩ := d4 b hb
   exact ⟨m, m1, m2, by simp only [R]; rw [if_pos m3]; exact m4⟩
  ·cases hx
 refine ⟨R, hR, rfl, h.lr, h.ls, ⟨h.dp, fun ⟨a, x, i, x', d, hi, hs, hl⟩ => ?_⟩, fun a ha => ?_⟩
 ·have e := hR.all d
  simp only [R] at e
  split at e
  ·rename_i hr
   obtain ⟨i2, y, x2, d1, d2, d3, d5, d4⟩ := h.done a hr (by rw [ht]; simp)
   rw [e] at d2; cases d2
   rw [hi] at d1; cases d1
   rw [hs] at d3; cases d3
   exact d5 hl
  ·cases e
 ·obtain ⟨b, x, e1, e2⟩ := hget a ha
  simp only [R, e1, e2]
  cases b with
  | true => simp
  | false =>
    have := h.un a e1
    rw [e2] at this; cases this
    simp

theorem b5Q {l : List Int} {m : Nat} (h : l.length = m + 1) : ∃ x, l[m]? = some x /\ l = l.take m ++ [x] := by
 have hlt : m < l.length := by omega
 refine ⟨l[m], List.getElem?_eq_getElem hlt, ?_⟩
 have := List.take_succ_eq_append_getElem hlt
 rw [<- h, List.take_length] at this
 exact this

theorem b0d (p : Program) (f : Func) (h : FOk p f) : ∃ o, a0g 1048577 p f = some o /\ c4t p f o := by
 obtain ⟨hn1, hn2⟩ := h.n
 unfold a0g
 have mk1 : mkL 1 (List.length f.Code : Int) (List.length f.Code : Int) false = some (List.replicate f.Code.length false) := by
  unfold mkL; rw [if_pos zO]; simp
 have mk2 : mkL 24 (List.length f.Code : Int) (List.length f.Code : Int) ([] : List Int) = some (List.replicate f.Code.length []) := by
  unfold mkL; rw [if_pos zO]; simp
 rw [mk1, mk2]
 simp only [Option.bind_some]
 rw [a0N zO zE]
 simp only [Option.bind_some]
 refine a6D (whileN_ex (c2x p f) muK _ ?h 1048577 _ ?h0 ?hm)
 case h0 =>
  have hc : (List.set (List.replicate f.Code.length false) 0 true).count false + 1 = f.Code.length := by
   have := a9o (r := List.replicate f.Code.length false) (m := 0) (by rw [List.getElem?_replicate, if_pos zO])
   simpa using this
  have g : ∀ a : Nat, (List.set (List.replicate f.Code.length false) 0 true)[a]? = some true -> a = 0 := fun a ha => by
   by_cases e : a = 0
   ·exact e
   ·rw [List.getElem?_set_ne (Ne.symm e)] at ha
    rw [List.getElem?_replicate] at ha
    split at ha <;> cases ha
  refine ⟨by simp, by simp, fun t ht => ?_, ⟨?_, ?_⟩, fun a ha => ?_, fun a ha => ?_, fun a ha hn => ?_, (fun e => (Bool.false_ne_true e).elim), fun a x hx => ?_⟩
  ·simp only [List.mem_singleton] at ht
   refine ⟨0, by simpa using ht, ?_⟩
   rw [show Int.toNat 0 = 0 from rfl, List.getElem?_set_self zE]
  ·rw [show Int.toNat 0 = 0 from rfl, List.getElem?_set_self zE]
  ·simp only [List.getElem?_replicate]; rw [if_pos zO]
  ·have := g a ha
   subst this
   exact ⟨[], by simp only [List.getElem?_replicate]; rw [if_pos zO], .start⟩
  ·simp only [List.getElem?_replicate]
   have : a < f.Code.length := by
    have := (List.getElem?_eq_some_iff.1 ha).1
    simpa using this
   rw [if_pos this]
  ·have := g a ha
   subst this
   simp at hn
  ·simp only [List.getElem?_replicate] at hx
   split at hx
   ·cases hx
    simp only [muK, List.length_nil, List.length_singleton]
    rw [show Int.toNat 0 = 0 from rfl]
    omega
   ·cases hx
 case hm =>
  have : (List.set (List.replicate f.Code.length false) 0 true).count false <= f.Code.length := by
   have := List.count_le_length (a := false) (l := List.set (List.replicate f.Code.length false) 0 true)
   simpa using this
  simp only [muK]
  rw [show Int.toNat 0 = 0 from rfl]
  simp only [List.length_singleton]
  omega
 intro s hs
 obtain ⟨dp, rd, st, td⟩ := s
 by_cases htd : td = []
 ·-- the end
  right; left
  subst htd
  refine ⟨(dp, rd, st, []), by simp, ?_⟩
  simp only [oc]
  have L := rni_inv (σ := List (List Int)) (ρ := Option (List Bool × List (List Int) × Bool × Int)) (n := (List.length st : Int)) (s0 := st) (fun i s => s = st)
   (body := fun (i_37 : Nat) (s_36 : (List (List Int))) => (((j7 s_36 (i_37 : Int)).bind fun y_38 => ((v5 y_38).bind fun clo_39 => ((j7 s_36 (i_37 : Int)).bind fun y_40 => (some (.nxt (List.set s_36 (Int.toNat (i_37 : Int)) clo_39)))))))) (by have := hs.ls; simp only at this; omega) rfl (fun i s hi e => by
    subst e
    have hlt : i < s.length := by omega
    rw [m9, List.getElem?_eq_getElem hlt]
    simp only [Option.bind_some]
    rw [b3V _ (by have := hs.len i _ (List.getElem?_eq_getElem hlt); omega)]
    exact ⟨_, rfl, by simp⟩)
  obtain ⟨s', e1, rfl⟩ := L
  rw [e1]
  exact ⟨_, rfl, hs.ans rfl⟩
 obtain ⟨k, hk⟩ : ∃ k, td.length = k + 1 := ⟨td.length - 1, by have := List.length_pos_iff.2 htd; omega⟩
 obtain ⟨t, ht1, ht2⟩ := b5Q hk
 have htl : td.length <= 2100 := by
  have h1 := hs.len 0 [] hs.z.2
  simp only [muK] at h1
  omega
 obtain ⟨a, rfl, hra⟩ := hs.td t (by simp only; rw [ht2]; simp)
 simp only at hra
 obtain ⟨x, hxa, hda⟩ := hs.der a hra
 simp only at hxa
 have halt : a < f.Code.length := by
  have := (List.getElem?_eq_some_iff.1 hra).1
  have h2 := hs.lr
  simp only at h2
  omega
 have hia : f.Code[a]? = some f.Code[a] := List.getElem?_eq_getElem halt
 generalize f.Code[a] = i at hia
 have hxl := hs.len a x hxa
 have hpos : decide ((List.length td : Int) > 0) = true := by simp; omega
 dsimp only
 rw [hpos]
 simp only [if_true]
 rw [show I64 ((List.length td : Int) - 1) = (k : Int) by rw [a2n zO]; omega, m9, ht1]
 simp only [Option.bind_some]
 have hsub : a5x td 0 (k : Int) = some (td.take k) := by
  unfold a5x; rw [if_pos zO]; simp
 rw [hsub]
 simp only [Option.bind_some]
 rw [m9, hxa]
 simp only [Option.bind_some]
 rw [m9, hia]
 simp only [Option.bind_some]
 rw [b9X x zO]
 rw [b3T p f i _ (h.arg hia) (h.name hia) h.ps]
 simp only [Option.bind_some]
 have hel := b5P h i (a2K x)
 have hel2 := b0c p f i (a2K x)
 have hst := b5N p f i x
 generalize eff p f i (a2K x) = e at hel hel2 hst ⊢
 rw [b9Y x e.1 i.Op zO zO]
 cases hok : okS i.Op x e.1 with
 | false =>
   right; right
   rw [hok] at hst
   simp only [Bool.false_eq_true, if_false] at hst
   refine ⟨some ([], [], false, 50), by simp, ?_⟩
   exact ⟨_, rfl, .inl ⟨.inl ⟨a, x, i, hda, hia, .inl hst⟩, rfl⟩⟩
 | true =>
   rw [hok] at hst
   simp only [if_true] at hst
   have hle : e.1.length <= x.length := by
    unfold okS at hok
    simp only [decide_eq_true_eq] at hok
    exact hok.1
   simp only [Bool.not_true, Bool.false_eq_true, if_false]
   have hsub2 : a5x x 0 (I64 ((List.length x : Int) - (List.length e.1 : Int))) = some (x.take (x.length - e.1.length)) := by
    rw [a2n zO]
    unfold a5x
    rw [if_pos zO, show (((List.length x : Int) - (List.length e.1 : Int))).toNat = x.length - e.1.length by omega]
    simp
   rw [hsub2]
   simp only [Option.bind_some]
   rw [b5O _ zE]
   simp only [Option.bind_some]
   rw [appL1 zE]
   simp only [Option.bind_some]
   rw [b3U, b3R i a zO]
   simp only [Option.bind_some]
   have hx'l := b1b hst
   generalize x.take (x.length - e.1.length) ++ e.2 = x' at hst hx'l ⊢
   have hmu : muK (dp, rd, st, td) = 2 * rd.count false + (k + 1) := by simp only [muK, hk]
   obtain ⟨o, ho, hq⟩ := c2w (some (.ret (some (([] : List Bool), ([] : List (List Int)), false, (50 : Int)))) : Option (Stp (Bool × List Bool × List (List Int) × List Int) (Option (List Bool × List (List Int) × Bool × Int)))) p f (r0 := rd) (st0 := st) (td0 := td.take k) (x := x) (x' := x') (a := a) (i := i) (fol := a3f i a)
    hn2 hda hia hst zO rfl (h.fol hia) hs.lr hs.ls (fun m y hy => by have := hs.len m y hy; omega) hs.der hs.un (fun t ht => hs.td t (List.mem_of_mem_take ht)) zE
   rw [ho]
   simp only [Option.bind_some]
   rcases hq with ⟨q, rfl, hq⟩ | ⟨rfl, hb⟩
   ·left
    refine ⟨_, rfl, ?_, ?_⟩
    ·have hlk : (td.take k).length = k := by simp; omega
     have hme := hq.me
     rw [hlk] at hme
     have hz := hq.mono 0 hs.z.1
     refine ⟨hq.lr, hq.ls, hq.td, ⟨hz.1, hz.2.trans hs.z.2⟩, fun m hm => ?_, fun m hm => (hq.un m hm).2, fun m hm hmt => ?_, fun hd => ?_, fun m y hy => ?_⟩
     ·rcases hq.new m hm with h1 | ⟨h1, _, h3⟩
      ·obtain ⟨y, e1, e2⟩ := hs.der m h1
       exact ⟨y, (hq.mono m h1).2.trans e1, e2⟩
      ·exact ⟨x', h1, h3⟩
     ·simp only at hm hmt
      rcases hq.new m hm with h1 | ⟨_, h2, _⟩
      ·by_cases hma : m = a
       ·subst hma
        refine ⟨i, x, x', hia, (hq.mono m h1).2.trans hxa, hst, fun hl => by simp; right; omega, fun b hb => ?_⟩
        obtain ⟨j, hj⟩ := List.getElem?_of_mem hb
        exact hq.got j b (List.getElem?_eq_some_iff.1 hj).1 hj
       ·have hnt : (m : Int) ∉ td := by
         intro hin
         rw [ht2] at hin
         simp only [List.mem_append, List.mem_singleton] at hin
         rcases hin with hin | hin
         ·exact hmt (hq.sub _ hin)
         ·exact hma (Int.ofNat.inj hin)
        obtain ⟨i2, y, y', d1, d2, d3, d4, d5⟩ := hs.done m h1 hnt
        refine ⟨i2, y, y', d1, (hq.mono m h1).2.trans d2, d3, fun hl => by have := d4 hl; simp only at this; simp [this], fun b hb => ?_⟩
        obtain ⟨c, c1, c2, c3, c4⟩ := d5 b hb
        exact ⟨c, c1, c2, (hq.mono c c3).1, (hq.mono c c3).2.trans c4⟩
      ·exact (hmt h2).elim
     ·simp only [Bool.or_eq_true, decide_eq_true_eq] at hd
      rcases hd with hd | hd
      ·exact hs.dp hd
      ·exact ⟨a, x, i, x', hda, hia, hst, by omega⟩
     ·have hmu2 : muK (dp || decide ((List.length x' : Int) > 16), q.1, q.2.1, q.2.2) = 2 * q.1.count false + q.2.2.length := rfl
      rw [hmu2]
      simp only at hy
      rw [hmu] at hxl
      have hmlt : m < f.Code.length := by
       have := (List.getElem?_eq_some_iff.1 hy).1
       have h2 := hq.ls
       omega
      have hb : q.1[m]? = some (q.1[m]'(by rw [hq.lr]; exact hmlt)) := List.getElem?_eq_getElem _
      generalize q.1[m]'(by rw [hq.lr]; exact hmlt) = bb at hb
      cases bb with
      | false =>
        have := (hq.un m hb).2
        rw [hy] at this; cases this
        simp; omega
      | true =>
        rcases hq.new m hb with h1 | ⟨h1, _, _⟩
        ·have e1 := (hq.mono m h1).2
         rw [hy] at e1
         have := hs.len m y e1.symm
         rw [hmu] at this
         omega
        ·rw [hy] at h1; cases h1
         omega
    ·have hme := hq.me
     have hlk : (td.take k).length = k := by simp; omega
     rw [hlk] at hme
     rw [hmu]
     simp only [muK]
     omega
   ·right; right
    exact ⟨_, rfl, _, rfl, .inl ⟨hb, rfl⟩⟩
def a5J (p : Program) : Bool := match p.Funcs with | f :: _ => decide (f.Params = 0) && !f.Result | [] => false
def a3K (p : Program) : Bool := encP p && (a2G p && (a5J p && p.Funcs.all (a2w p)))
theorem a8k {p : Program} (h : a3K p = true) {f : Func} (hf : f ∈ p.Funcs) : FOk p f := by
 unfold a3K encP a2G at h
 simp only [Bool.and_eq_true, decide_eq_true_eq, List.all_eq_true] at h
 exact ⟨h.1.2, h.1.2 f hf, h.2.1.1 f hf, h.2.2.2 f hf⟩
def b7V (p : Program) (f : Func) (rd : List Bool) (st : List (List Int)) : Prop :=
 ∃ R, Sol p f R /\ rd.length = f.Code.length /\ st.length = f.Code.length /\ ∀ a, a < f.Code.length -> rd[a]? = some (R a).isSome /\ st[a]? = some ((R a).getD [])
def c4u (p : Program) (o : Option a1y × Int) : Prop :=
 (encP p = false /\ o = (none, 30)) \/ (encP p = true /\ a2G p = false /\ o = (none, 31)) \/ (encP p = true /\ a2G p = true /\ (a5J p && p.Funcs.all (a2w p)) = false /\ o = (none, 50)) \/
 (a3K p = true /\ (∃ f ∈ p.Funcs, Bad p f) /\ o = (none, 50)) \/
 (a3K p = true /\ (∀ f ∈ p.Funcs, ∃ R, Sol p f R) /\ (∃ f ∈ p.Funcs, Deep p f) /\ o = (none, 31)) \/
 (a3K p = true /\ (∀ f ∈ p.Funcs, ¬ Deep p f) /\ ∃ T : a1y, o = (some T, 0) /\ T.Reached.length = p.Funcs.length /\ T.Stacks.length = p.Funcs.length /\
  ∀ (k : Nat) f, p.Funcs[k]? = some f -> ∃ rd st, T.Reached[k]? = some rd /\ T.Stacks[k]? = some st /\ b7V p f rd st)

structure c5A (p : Program) (j : Nat) (s : Bool × List (List Bool) × List (List (List Int))) : Prop where
 l1 : s.2.1.length = j
 l2 : s.2.2.length = j
 dp : s.1 = true ↔ ∃ (k : Nat) (f : Func), k < j /\ p.Funcs[k]? = some f /\ Deep p f
 ok : ∀ (k : Nat) f, k < j -> p.Funcs[k]? = some f -> ∃ rd st, s.2.1[k]? = some rd /\ s.2.2[k]? = some st /\ b7V p f rd st

theorem b1c (p : Program) (hl : p.Funcs.length <= 1048576) : ∃ o, u5 1048577 p = some o /\ c4u p o := by
 unfold u5
 obtain ⟨l, he⟩ := b3Q p
 rw [he]
 simp only [Option.bind_some]
 cases henc : encP p with
 | false => exact ⟨(none, 30), rfl, .inl ⟨henc, rfl⟩⟩
 | true =>
   have e0 : ((if true = true then (0 : Int) else 30) != 0) = false := rfl
   simp only [e0, Bool.false_eq_true, if_false]
   rw [b1M p hl]
   simp only [Option.bind_some]
   cases hbd : a2G p with
   | false => exact ⟨(none, 31), rfl, .inr (.inl ⟨henc, hbd, rfl⟩)⟩
   | true =>
     simp only [Bool.not_true, Bool.false_eq_true, if_false]
     have henc2 := henc
     unfold encP at henc2
     simp only [Bool.and_eq_true, decide_eq_true_eq, List.all_eq_true] at henc2
     have hmain : ∀ {β : Type} (K : Bool -> Option β), jp K (fun k_3 => ((j7 p.Funcs 0).bind fun y_5 => (if (decide (y_5.Params > 0)) then (k_3 true) else (k_3 y_5.Result)))) = K (!a5J p) := by
      intro β K
      unfold jp a5J
      match hf : p.Funcs with
      | [] => rw [hf] at henc2; simp at henc2
      | f :: r =>
        have hfp := a1U (henc2.2 f (by rw [hf]; simp))
        show ((j7 (f :: r) ((0 : Nat) : Int)).bind _) = _
        rw [m9]
        simp only [List.getElem?_cons_zero, Option.bind_some]
        by_cases h0 : f.Params > 0
        ·have : ¬ f.Params = 0 := by omega
         simp [h0, this]
        ·have : f.Params = 0 := by omega
         simp [h0, this]
     rw [hmain]
     cases hm : a5J p with
     | false => exact ⟨(none, 50), rfl, .inr (.inr (.inl ⟨henc, hbd, by rw [hm]; rfl, rfl⟩))⟩
     | true =>
       simp only [Bool.not_true, Bool.false_eq_true, if_false]
       have L := rng_inv (σ := Unit) (ρ := Option (Option a1y × Int)) (xs := p.Funcs) (s0 := ()) (a2w p) (some (none, 50)) (fun _ _ => True)
        (body := fun (i_7 : Nat) (f_8 : Func) (s_6 : Unit) => (((a0S p f_8).bind fun hea_10 => (if (!hea_10) then (some (.ret (some (none, 50)))) else (some (.nxt ())))) : Option (Stp Unit (Option ((Option a1y) × Int))))) zO trivial (fun i x s hx _ => by
         rw [b7S p x (henc2.2 x (List.mem_of_getElem? hx)) hl]
         cases a2w p x with
         | false => rfl
         | true => exact ⟨(), rfl, trivial⟩)
       cases hh : p.Funcs.all (a2w p) with
       | false =>
         rw [hh] at L
         simp only [Bool.false_eq_true, if_false] at L
         rw [L]
         exact ⟨(none, 50), rfl, .inr (.inr (.inl ⟨henc, hbd, by rw [hm, hh]; rfl, rfl⟩))⟩
       | true =>
         rw [hh] at L
         simp only [if_true] at L
         obtain ⟨_, e1, _⟩ := L
         rw [e1]
         simp only [Option.bind_some, oc]
         have hgood : a3K p = true := by unfold a3K; rw [henc, hbd, hm, hh]; rfl
         refine a6D (rng_ex (c5A p) _ zO ?h0 ?h ?hQ)
         case h0 => exact ⟨rfl, rfl, ⟨fun e => (Bool.false_ne_true e).elim, fun ⟨k, f, hk, _⟩ => by omega⟩, fun k f hk => by omega⟩
         case hQ =>
          intro s hs
          cases hd : s.1 with
          | true =>
            refine ⟨(none, 31), by simp only [oc]; rw [hd]; rfl, .inr (.inr (.inr (.inr (.inl ⟨hgood, fun f hf => ?_, ?_, rfl⟩))))⟩
            ·obtain ⟨k, hk⟩ := List.getElem?_of_mem hf
             obtain ⟨_, _, _, _, R, hR, _⟩ := hs.ok k f (List.getElem?_eq_some_iff.1 hk).1 hk
             exact ⟨R, hR⟩
            ·obtain ⟨k, f, _, h2, h3⟩ := hs.dp.1 hd
             exact ⟨f, List.mem_of_getElem? h2, h3⟩
          | false =>
            refine ⟨(some ⟨s.2.1, s.2.2⟩, 0), by simp only [oc]; rw [hd]; rfl, .inr (.inr (.inr (.inr (.inr ⟨hgood, fun f hf hdp => ?_, ⟨s.2.1, s.2.2⟩, rfl, hs.l1, hs.l2, fun k f hk => hs.ok k f (List.getElem?_eq_some_iff.1 hk).1 hk⟩))))⟩
            obtain ⟨k, hk⟩ := List.getElem?_of_mem hf
            have := hs.dp.2 ⟨k, f, (List.getElem?_eq_some_iff.1 hk).1, hk, hdp⟩
            rw [hd] at this; cases this
         intro i f s hi hs
         have hmem := List.mem_of_getElem? hi
         have hilt := (List.getElem?_eq_some_iff.1 hi).1
         have hF := a8k hgood hmem
         obtain ⟨o, ho, ha⟩ := b0d p f hF
         rw [ho]
         simp only [Option.bind_some]
         rcases ha with ⟨hb, rfl⟩ | ⟨R, hR, h0, h1, h2, h3, h4⟩
         ·right
          exact ⟨some (none, 50), rfl, _, rfl, .inr (.inr (.inr (.inl ⟨hgood, ⟨f, hmem, hb⟩, rfl⟩)))⟩
         ·left
          have e2 : (o.2.2.2 != 0) = false := by rw [h0]; rfl
          simp only [e2, Bool.false_eq_true, if_false]
          have hjp : ∀ {β : Type} (K : Bool -> Option β), jp K (fun k_16 => (if s.1 then (k_16 true) else (k_16 o.2.2.1))) = K (s.1 || o.2.2.1) := by
           intro β K; unfold jp; cases s.1 <;> rfl
          rw [hjp, appL_of (by have := hs.l1; simp; omega)]
          simp only [Option.bind_some]
          rw [appL_of (by have := hs.l2; simp; omega)]
          simp only [Option.bind_some]
          refine ⟨_, rfl, by simp [hs.l1], by simp [hs.l2], ?_, fun k g hk hg => ?_⟩
          ·simp only [Bool.or_eq_true]
           constructor
           ·rintro (e | e)
            ·obtain ⟨k, g, a, b, c⟩ := hs.dp.1 e
             exact ⟨k, g, by omega, b, c⟩
            ·exact ⟨i, f, by omega, hi, h3.1 e⟩
           ·rintro ⟨k, g, a, b, c⟩
            by_cases e : k = i
            ·subst e
             rw [hi] at b; cases b
             exact .inr (h3.2 c)
            ·exact .inl (hs.dp.2 ⟨k, g, by omega, b, c⟩)
          ·by_cases e : k = i
           ·subst e
            rw [hi] at hg; cases hg
            refine ⟨o.1, o.2.1, ?_, ?_, R, hR, h1, h2, h4⟩
            ·show (s.2.1 ++ [o.1])[k]? = _
             rw [List.getElem?_append_right (by rw [hs.l1]; exact Nat.le_refl _), hs.l1]; simp
            ·show (s.2.2 ++ [o.2.1])[k]? = _
             rw [List.getElem?_append_right (by rw [hs.l2]; exact Nat.le_refl _), hs.l2]; simp
           ·obtain ⟨rd, st, a, b, c⟩ := hs.ok k g zO hg
            refine ⟨rd, st, ?_, ?_, c⟩
            ·show (s.2.1 ++ [o.1])[k]? = _
             rw [List.getElem?_append_left (by rw [hs.l1]; omega)]; exact a
            ·show (s.2.2 ++ [o.2.1])[k]? = _
             rw [List.getElem?_append_left (by rw [hs.l2]; omega)]; exact b

theorem Der.le {p f a x} (d : Der p f a x) (h : ¬ Deep p f) : x.length <= 16 := by
 cases d with
 | start => simp
 | go d hi hs hb =>
   rename_i a' s i
   rcases Nat.lt_or_ge 16 x.length with h1 | h1
   ·exact (h ⟨a', s, i, x, d, hi, hs, h1⟩).elim
   ·exact h1
theorem a3W {a : Int} (h : 0 <= a /\ a < 18446744073709551616) : IntKind.u64.wrap a = a := by
 exact b0R (x := a) zO
theorem a6E {a b : Nat} (ha : a < 1073741824) (hb : b < 256) : a8s a b = (((a + 1) * 256 + b : Nat) : Int) := by
 unfold a8s
 have e1 : IntKind.i64.wrap ((a : Int) + 1) = ((a + 1 : Nat) : Int) := by rw [q9 zO]; omega
 have e2 : min (Int.toNat 8) IntKind.u64.bits = 8 := rfl
 rw [e1, a3W (a := ((a + 1 : Nat) : Int)) zO, e2, a3W (a := ((a + 1 : Nat) : Int) * 2 ^ 8) zO, a3W (a := (b : Int)) zO]
 have e3 : ((a + 1 : Nat) : Int) * (2 : Int) ^ 8 = (((a + 1) <<< 8 : Nat) : Int) := by rw [Nat.shiftLeft_eq]; simp
 rw [e3, BitVec.toNat_or]
 simp only [BitVec.ofInt_natCast, BitVec.toNat_ofNat]
 have e4 : IntKind.u64.bits = 64 := rfl
 rw [e4]
 have l1 : (a + 1) <<< 8 < 2 ^ 64 := by rw [Nat.shiftLeft_eq]; omega
 rw [Nat.mod_eq_of_lt l1, Nat.mod_eq_of_lt zO, <- Nat.shiftLeft_add_eq_or_of_lt zO, Nat.shiftLeft_eq, a3W zO]
theorem b0e {a b : Nat} (ha : a < 1073741824) (hb : b < 256) : b4J (((a + 1) * 256 + b : Nat) : Int) = a := by
 unfold b4J
 have e2 : min (Int.toNat 8) IntKind.u64.bits = 8 := rfl
 have e1 : Int.fdiv (((a + 1) * 256 + b : Nat) : Int) ((2 : Int) ^ 8) = ((a + 1 : Nat) : Int) := by
  rw [Int.fdiv_eq_ediv_of_nonneg _ zD]
  omega
 rw [e2, e1, q9 (x := ((a + 1 : Nat) : Int)) zO, q9 zO]
 omega
theorem b0f {a b : Nat} (ha : a < 1073741824) (hb : b < 256) : b5D (((a + 1) * 256 + b : Nat) : Int) = b := by
 unfold b5D
 rw [BitVec.toNat_and]
 have e4 : IntKind.u64.bits = 64 := rfl
 rw [e4]
 have e5 : (255 : Int) = ((255 : Nat) : Int) := rfl
 rw [e5]
 simp only [BitVec.ofInt_natCast, BitVec.toNat_ofNat]
 rw [Nat.mod_eq_of_lt zO, Nat.mod_eq_of_lt zO, show 255 = 2 ^ 8 - 1 from rfl, Nat.and_two_pow_sub_one_eq_mod, a3W zO]
 omega
def PtrOK (fs : List Func) (v : Int) : Prop := v = 0 \/ ∃ (a b : Nat) (f : Func), fs.reverse[a]? = some f /\ f.Locals[b]? = some 0 /\ v = a8s a b
def WV (v : Int) : Prop := 0 <= v /\ v < 18446744073709551616
def VOK (fs : List Func) (k v : Int) : Prop := WV v /\ (k = 1 -> PtrOK fs v)
def LOK (fs : List Func) : List Int -> List Int -> Prop
 | [], [] => True
 | k :: ks, v :: vs => VOK fs k v /\ LOK fs ks vs
 | _, _ => False
theorem PtrOK.up {fs : List Func} {g : Func} {v : Int} (h : PtrOK fs v) : PtrOK (g :: fs) v := by
 rcases h with h | ⟨a, b, f, h1, h2, h3⟩
 ·exact .inl h
 ·refine .inr ⟨a, b, f, ?_, h2, h3⟩
  rw [List.reverse_cons, List.getElem?_append_left (List.getElem?_eq_some_iff.1 h1).1]
  exact h1
theorem LOK.up {fs : List Func} {g : Func} : ∀ {ks vs : List Int}, LOK fs ks vs -> LOK (g :: fs) ks vs
 | [], [], _ => trivial
 | _ :: _, _ :: _, h => ⟨⟨h.1.1, fun e => (h.1.2 e).up⟩, h.2.up⟩
theorem LOK.len {fs : List Func} : ∀ {ks vs : List Int}, LOK fs ks vs -> ks.length = vs.length
 | [], [], _ => rfl
 | _ :: _, _ :: _, h => by simp [h.2.len]
theorem LOK.app {fs : List Func} : ∀ {a b v w : List Int}, LOK fs a v -> LOK fs b w -> LOK fs (a ++ b) (v ++ w)
 | [], _, [], _, _, h => h
 | _ :: _, _, _ :: _, _, h, k => ⟨h.1, h.2.app k⟩
theorem LOK.split {fs : List Func} : ∀ {a b vs : List Int}, LOK fs (a ++ b) vs -> ∃ v w, vs = v ++ w /\ LOK fs a v /\ LOK fs b w
 | [], _, vs, h => ⟨[], vs, rfl, trivial, h⟩
 | _ :: a, b, [], h => h.elim
 | _ :: a, b, x :: vs, h => by
   obtain ⟨v, w, rfl, h1, h2⟩ := LOK.split (a := a) (b := b) h.2
   exact ⟨x :: v, w, rfl, ⟨h.1, h1⟩, h2⟩
theorem LOK.nil {fs : List Func} {vs : List Int} (h : LOK fs [] vs) : vs = [] := by cases vs with | nil => rfl | cons => exact h.elim
theorem LOK.one {fs : List Func} {k : Int} {vs : List Int} (h : LOK fs [k] vs) : ∃ v, vs = [v] /\ VOK fs k v := by
 match vs, h with
 | [v], h => exact ⟨v, rfl, h.1⟩
theorem LOK.two {fs : List Func} {k l : Int} {vs : List Int} (h : LOK fs [k, l] vs) : ∃ v w, vs = [v, w] /\ VOK fs k v /\ VOK fs l w := by
 match vs, h with
 | [v, w], h => exact ⟨v, w, rfl, h.1, h.2.1⟩
theorem LOK.get {fs : List Func} : ∀ {ks vs : List Int} {j : Nat} {k : Int}, LOK fs ks vs -> ks[j]? = some k -> ∃ v, vs[j]? = some v /\ VOK fs k v
 | [], [], j, k, _, h => by simp at h
 | _ :: _, x :: _, 0, k, h, e => by simp at e; subst e; exact ⟨x, rfl, h.1⟩
 | _ :: _, _ :: _, j + 1, k, h, e => by
   obtain ⟨v, h1, h2⟩ := LOK.get h.2 (j := j) (k := k) (by simpa using e)
   exact ⟨v, by simpa using h1, h2⟩
theorem LOK.set {fs : List Func} {v k : Int} : ∀ {ks vs : List Int} {j : Nat}, LOK fs ks vs -> ks[j]? = some k -> VOK fs k v -> LOK fs ks (vs.set j v)
 | [], [], j, _, h, _ => by simp at h
 | _ :: _, x :: _, 0, h, e, hv => by simp at e; subst e; exact ⟨hv, h.2⟩
 | _ :: _, _ :: _, j + 1, h, e, hv => ⟨h.1, h.2.set (by simpa using e) hv⟩
theorem LOK.rev {fs : List Func} : ∀ {ks vs : List Int}, LOK fs ks vs -> LOK fs ks.reverse vs.reverse
 | [], [], _ => trivial
 | k :: ks, v :: vs, h => by
   rw [List.reverse_cons, List.reverse_cons]
   exact h.2.rev.app ⟨h.1, trivial⟩
theorem LOK.zeros {fs : List Func} : ∀ (ks : List Int), LOK fs ks (List.replicate ks.length 0)
 | [] => trivial
 | k :: ks => ⟨⟨⟨Int.le_refl _, by omega⟩, fun _ => .inl rfl⟩, LOK.zeros ks⟩
theorem VOK.num {fs : List Func} {v : Int} (h : WV v) : VOK fs 0 v := ⟨h, fun h => by cases h⟩
theorem WV.zero : WV 0 := ⟨Int.le_refl _, by omega⟩
theorem WV.u (x : Int) : WV (IntKind.u64.wrap x) := by
 unfold WV
 simp [IntKind.wrap, IntKind.bits, IntKind.signed]
 omega
end Go.Proofs.Ytnpemocpfdgaoaa

