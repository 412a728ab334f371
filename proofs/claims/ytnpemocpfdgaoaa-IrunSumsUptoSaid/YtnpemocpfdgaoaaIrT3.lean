/- trace.New, trace.Events; core.M's Run: the walks. -/
import Derived.Test.YtnpemocpfdgaoaaIrP3
import Derived.Test.YtnpemocpfdgaoaaWlK8
import Derived.Test.YtnpemocpfdgaoaaGenI
set_option linter.unusedVariables false
set_option linter.unusedSimpArgs false
namespace Go.Ab
theorem Ev.weaka {P f args args' r} {σ σ' : Hp} (h : Ev P f args' σ r σ') (ha : awL args args') : Ev P f args σ r σ' := by
 intro g w vals hw hv
 exact h g w vals hw ⟨by rw [hv.1, a2b ha], fun j h1 h2 => (hv.2 j (by rw [a2b ha]; exact h1) h2).w (a2c ha j _ h1)⟩
theorem Tri.argw {P : Program} {f : FuncId} {args args' : List AV} {L : List It} {Q : AV → List It → Prop} (c : Tri P f args' L Q) (ha : awL args args') : Tri P f args L Q := fun R S hS => by
 obtain ⟨r, S', h1, h2⟩ := c R S hS
 exact ⟨r, S', h1.weaka ha, h2⟩
section
variable {P : Program} {S0 : List Ob} {ow : List Nat} {fr : Fr} {S : List Ob} {L L' L0 : List It}
theorem c1G {b} {K K0 : Post} {o ver : Nat} {cs : List AV} (t : Nat) (hS : Sep S L) (hp' : Pk L (o, ver, cs) L0) (hb : a0v 0 cs = true) (ht : Fr.get fr t = .ptr o ver 0)
  (h : ∀ S', Sep S' L0 → VT P S0 ow b ((t, .cptr cs 0) :: fr) S' K) : Post.thn (fun fr' S' => ∃ F T, Wk S0 fr' S' F T ∧ VT P S0 ow b F T K) K0 .normal fr S := by
 have ho := hS.at (hp'.mem_iff.2 (.head _))
 refine a3v ((a9e ho hb).wk (fun t' => ?_)) (h _ (hS.kill hp'))
 rw [get_cons]
 split
 ·rename_i e1; subst e1; rw [ht]; exact .ptr
 ·exact .same _
end
end Go.Ab
namespace Go.Proofs.Ytnpemocpfdgaoaa
open Go Go.Ab
set_option maxRecDepth 20000
set_option maxHeartbeats 2000000
def c4y : FC := .reg [⟨(some 2), none, .op (.mv (.v .nilp))⟩] []
def c4z : FC := .reg [⟨(some 3), none, .op (.mv (.t 0))⟩,  ⟨(some 4), none, .call 66 [(.t 3)]⟩,  ⟨(some 5), none, .op (.build [.nils, .nils] [(0, 1, (.t 4))])⟩,  ⟨(some 6), none, .op (.box (.t 5))⟩,  ⟨(some 2), none, .op (.mv (.t 6))⟩] []
def c4A : FC := .seq c4z FC.ret
def c4B : FC := .seq c4y c4A
def c5Y : FC := c4B
theorem c5Z : Fn3 Try.prog 40 7 [(2, none)] c5Y := ⟨_, _, Try.func40, rfl, rfl, rfl, by kernel_rfl⟩

def c4C : FC := .reg [⟨(some 2), none, .op (.mv (.v .nils))⟩] []
def c4D : FC := .reg [⟨(some 3), none, .op (.mv (.t 0))⟩,  ⟨(some 4), none, .op (.bin .ptr .eql (.t 3) (.v .nilp))⟩] []
def c4E : FC := .reg [⟨(some 2), none, .op (.mv (.v .nils))⟩] []
def c4F : FC := .seq c4E FC.ret
def c4G : FC := .cond (.t 4) c4F FC.skip
def c4H : FC := .seq c4D c4G
def c4I : FC := .reg [⟨(some 5), none, .op (.mv (.t 0))⟩,  ⟨(some 6), none, .op (.nchk (.t 5))⟩,  ⟨(some 7), none, .op (.fad 1 (.t 6))⟩,  ⟨(some 8), none, .op (.load none (.t 7))⟩,  ⟨(some 9), none, .call 68 [(.t 8)]⟩,  ⟨(some 2), none, .op (.mv (.t 9))⟩] []
def c4J : FC := .seq c4I FC.ret
def c4K : FC := .seq c4H c4J
def c1H : FC := .seq c4C c4K
def c6a : FC := c1H
theorem c6b : Fn3 Try.prog 44 10 [(2, none)] c6a := ⟨_, _, Try.func44, rfl, rfl, rfl, by kernel_rfl⟩

def c4L : FC := .reg [⟨(some 4), none, .op (.mv (.t 0))⟩,  ⟨(some 5), none, .call 67 [(.t 4), (.v (.int .i64 0)), (.v .nils)]⟩] []
def c4M : FC := .reg [⟨(some 6), none, .op (.mv (.t 0))⟩,  ⟨(some 7), none, .op (.nchk (.t 6))⟩,  ⟨(some 8), none, .op (.fad 2 (.t 7))⟩,  ⟨(some 9), none, .op (.fad 0 (.t 8))⟩,  ⟨(some 10), none, .op (.load none (.t 9))⟩,  ⟨(some 11), none, .op (.bin .none .eql (.t 10) (.v (.int .i64 0)))⟩] []
def c4N : FC := .cond (.t 11) FC.skip (FC.exit 0)
def c4O : FC := .seq c4M c4N
def c4P : FC := .reg [⟨(some 12), none, .op (.mv (.t 0))⟩,  ⟨(some 13), none, .op (.nchk (.t 12))⟩,  ⟨(some 14), none, .op (.fad 4 (.t 13))⟩,  ⟨(some 15), none, .op (.load none (.t 14))⟩,  ⟨(some 16), none, .op (.mv (.t 1))⟩,  ⟨(some 17), none, .op (.bin .none .eql (.t 15) (.t 16))⟩] []
def c4Q : FC := .reg [⟨(some 18), none, .op (.mv (.t 0))⟩,  ⟨(some 19), none, .op (.nchk (.t 18))⟩,  ⟨(some 20), none, .op (.fad 2 (.t 19))⟩,  ⟨(some 21), none, .op (.fad 0 (.t 20))⟩,  ⟨none, none, .op (.store 1 (.t 21) (.v (.int .i64 3)))⟩] []
def c4R : FC := .seq c4Q FC.ret
def c4S : FC := .cond (.t 17) c4R FC.skip
def c4T : FC := .seq c4P c4S
def c1I : FC := .reg [⟨(some 22), none, .op (.mv (.t 0))⟩,  ⟨(some 23), none, .op (.nchk (.t 22))⟩,  ⟨(some 24), none, .op (.fad 4 (.t 23))⟩,  ⟨(some 25), none, .op (.load none (.t 24))⟩,  ⟨(some 26), none, .op (.bin .none .add (.t 25) (.v (.int .i64 1)))⟩,  ⟨(some 27), none, .op (.nchk (.t 22))⟩,  ⟨(some 28), none, .op (.fad 4 (.t 27))⟩,  ⟨none, none, .op (.store 1 (.t 28) (.t 26))⟩] []
def c1J : FC := .reg [⟨(some 29), none, .op (.mv (.t 0))⟩,  ⟨(some 30), none, .op (.nchk (.t 29))⟩,  ⟨(some 31), none, .op (.fad 8 (.t 30))⟩,  ⟨(some 32), none, .op (.load none (.t 31))⟩,  ⟨(some 33), none, .op (.mv (.t 0))⟩,  ⟨(some 34), none, .op (.nchk (.t 33))⟩,  ⟨(some 35), none, .op (.fad 8 (.t 34))⟩,  ⟨(some 36), none, .op (.load none (.t 35))⟩,  ⟨(some 37), none, .op (.len .sl (.t 36))⟩,  ⟨(some 38), none, .op (.bin .none .sub (.t 37) (.v (.int .i64 1)))⟩,  ⟨(some 39), none, .op (.iad none none (.t 32) (.t 38))⟩,  ⟨(some 40), none, .op (.load none (.t 39))⟩,  ⟨(some 41), none, .op (.nchk (.t 40))⟩,  ⟨(some 42), none, .op (.fad 0 (.t 41))⟩,  ⟨(some 43), none, .op (.load none (.t 42))⟩,  ⟨(some 44), none, .op (.mv (.t 0))⟩,  ⟨(some 45), none, .inv (.t 43) "Step" [(.t 44)]⟩] []
def c1K : FC := .seq c1I c1J
def c1L : FC := .seq c4T c1K
def c1M : FC := .block 1 c1L
def c1N : FC := .seq c4O c1M
def c1O : FC := .loop c1N
def c1P : FC := .block 0 c1O
def c1Q : FC := .seq c4L c1P
def c6c : FC := c1Q
theorem c6d : Fn3 Try.prog 43 46 [] c6c := ⟨_, _, Try.func43, rfl, rfl, rfl, by kernel_rfl⟩

theorem c1R {l : List Int} (h : l.length < 1000000000) : v5 l = some l := by
 unfold v5 b0W
 rw [if_pos zE]; rfl
theorem c1S {l : List k6} (h : l.length < 1000000000) : v6 l = some l := by
 unfold v6 b0W
 rw [if_pos zE]; rfl
theorem b7c {tape : List Int} (h : tape.length < 1000000000) : Tri Try.prog 40 [.sl false 1 (tape.map (avI .u64))] [] (fun r L' => ∃ tr, r = .ptr tr 0 0 ∧ L' = [(tr, 0, [.sl false 1 (tape.map (avI .u64)), .nils])]) := by
 refine l6 mixed c5Z zS [6] (fun R S hS => ?_)
 refine aU ?_
 refine a4j (a2f (c1R h)) rfl (l8 ⟨(a7C (m9 .u64) 1).blw tape 0, trivial⟩) ((a7C (m9 .u64) 1).blw tape 0) ?_
 refine aU ?_
 refine a1i hS rfl (xv := .agg [.sl false 1 (tape.map (avI .u64)), .nils]) rfl rfl (fun tr S hS => ?_)
 refine aU ?_
 refine g8 ?_
 (repeat (first | refine j3 ?_ | refine j4 ?_ | refine j5 rfl ?_ | refine f6 ?_ | refine f8 ?_ | refine j2 ?_))
 exact ⟨trivial, _, rfl, _, ⟨tr, rfl, rfl⟩, hS⟩
theorem a7S {tr : Nat} {a : AV} {evs : List k6} (h : evs.length < 1000000000) : a4M Try.prog 44 [.ptr tr 0 0] [(tr, 0, [a, .sl false 2 (evs.map k6.av)])] (.sl false 2 (evs.map k6.av)) := by
 refine a1b mixed c6b zS [] (fun R S hS => ?_)
 refine aU ?_
 refine f9 (t := false) rfl (fun h => by cases h) (fun _ => ?_)
 refine aU ?_
 refine d7 hS rfl (.head _) (v := .sl false 2 (evs.map k6.av)) rfl ?_
 refine aU ?_
 refine a4j (a2g (c1S h)) rfl (l8 ⟨(a7C k6.enc 2).blw evs 0, trivial⟩) ((a7C k6.enc 2).blw evs 0) ?_
 refine aU ?_
 refine g8 ?_
 (repeat (first | refine j3 ?_ | refine j4 ?_ | refine j5 rfl ?_ | refine f6 ?_ | refine f8 ?_ | refine j2 ?_))
 exact ⟨trivial, _, rfl, rfl, rfl⟩
section
variable {p : GP} {o : UO} {t : TO} {s s' : AS} {rj pj : List AV}
structure c6e where
 o : UO
 t : TO
 s : AS
 n : Nat
 rows : List Row
 rj : List AV
 pj : List AV
theorem b1q {n : Nat} (h : a3D p n s = some s') (h0 : s.ek ≠ 0) : s' = s := by
 unfold a3D at h; rw [if_pos h0] at h; cases h; rfl
theorem a9P (h : a3D p 0 s = some s') (h0 : s.ek = 0) : s' = { s with ek := 3 } := by
 unfold a3D at h; rw [if_neg (by simpa using h0)] at h; cases h; rfl
theorem b7d {n : Nat} (h : a3D p (n + 1) s = some s') (h0 : s.ek = 0) : ∃ s1, a0u p { s with steps := s.steps + 1 } = some s1 ∧ a3D p n s1 = some s' := by
 unfold a3D at h; rw [if_neg (by simpa using h0)] at h; exact Option.bind_eq_some_iff.1 h
theorem a7T (h : a0u p s = some s') : s.rows ≠ [] := by
 intro e; unfold a0u at h; rw [e] at h; cases h
theorem a9Q {f : SFr} (hf : a0T p 0 [] 1 = some f) (hl : okG f.f) (hs : s.rows = []) (hd : s.depth = 0) :
  Tri Try.prog 67 [.ptr o.m 0 0, .int .i64 0, .nils] (mS p o t s [] rj pj) (fun _ L' => b7J p o.m { s with rows := [⟨f, 0, [], 0⟩], depth := 1 } L') := by
 refine Tri.argw (args' := [.ptr o.m 0 0, .int .i64 0, .sl false 1 (([] : List Int).map (avI .u64))]) ?_ ⟨.refl _, .refl _, .nil, trivial⟩
 have c := a5D (m := o.m) (ro := o.ro) (rv := o.rv) (n := 0) (p := p) (rc := []) (rj := rj) (dep := s.depth) (k := 0) (ag := []) (a0 := .ptr t.tr 0 0) (a2 := .int .i64 s.ek) (a3 := .int .u64 s.ev) (a4 := .int .i64 s.steps) (a6 := .int .i64 s.defers) (a7 := .int .i64 s.panics) (a9 := .ref o.po o.pv 0 s.pans.length (some 2)) (a10 := .int .i64 s.live) hf zO hl rfl zO
 intro R S hS
 obtain ⟨r, S', h1, L', ⟨x, d, q, rfl⟩, h3⟩ := c ((o.po, o.pv, flat s4.av s.pans.reverse ++ pj) :: (trL t s ++ R)) S hS
 have e : max s.depth (((0 : Nat) : Int) + 1) = 1 := by omega
 rw [e] at h3
 refine ⟨r, S', h1, _, ⟨{ o with rv := o.rv + 1 }, t, [⟨⟨f, 0, [], 0⟩, x, d, 0, [], q⟩], [], pj, rfl, rfl, rfl⟩, ?_⟩
 refine h3.perm ?_
 simp [mS, sL, uL, a0l, List.append_assoc]
 exact List.perm_middle
theorem b7e {fuel : Nat} {f : SFr} (hf : a0T p 0 [] 1 = some f) (hl : okG f.f) (hs : s.rows = []) (hd : s.depth = 0) (hst : s.steps = 0) (hfu : fuel ≤ 1048576)
  (hr : a3D p fuel { s with rows := [⟨f, 0, [], 0⟩], depth := 1 } = some s') (hsf : b7K p fuel { s with rows := [⟨f, 0, [], 0⟩], depth := 1 }) (hsteps : ∀ a b, a0u p a = some b → b.steps = a.steps) :
  Tri Try.prog 43 [.ptr o.m 0 0, .int .i64 fuel] (mS p o t s [] rj pj) (fun _ L' => b7J p o.m s' L') := by
 refine l6 mixed c6d zS [] (fun R S hS => ?_)
 refine aU ?_
 refine a1l (a9Q hf hl hs hd) hS rfl (.refl _) (fun r0 S L' hL hS => ?_)
 obtain ⟨o1, t1, rows1, rj1, pj1, h1, h2, rfl⟩ := hL
 refine aU ?_
 refine j9 (a4L (σ := c6e) (fun _ => [(0, .ptr o.m 0 0), (1, .int .i64 fuel)]) (fun q => mS p q.o q.t q.s q.rows q.rj q.pj ++ R)
  (fun q => q.o.m = o.m ∧ x3 q.rows = q.s.rows ∧ a3D p q.n q.s = some s' ∧ b7K p q.n q.s ∧ q.s.steps + q.n = fuel ∧ 0 ≤ q.s.steps) (fun q => q.n) ⟨o1, t1, _, fuel, rows1, rj1, pj1⟩ hS ⟨h1, h2, hr, hsf, by show s.steps + ((fuel : Nat) : Int) = _; omega, by show 0 ≤ s.steps; omega⟩ (a2a ⟨.refl _, .refl _, trivial⟩) (fun q S hI hS => ?_))
 obtain ⟨o2, t2, s2, n, rows2, rj2, pj2⟩ := q
 obtain ⟨i1, i2, i3, i4, i5, i6⟩ := hI
 dsimp only at i1 i2 i3 i4 i5 i6 hS
 rw [← i1]
 refine aU ?_
 refine d7 hS rfl (.head _) (v := .int .i64 s2.ek) rfl ?_
 refine aU ?_
 refine f9 (t := s2.ek == 0) rfl (fun hk => ?_) (fun hk => ?_)
 rotate_left
 ·have hk' : s2.ek ≠ 0 := by simpa using hk
  refine a6T ?_
  (repeat (first | refine j3 ?_ | refine j4 ?_ | refine j5 rfl ?_ | refine f6 ?_ | refine f8 ?_ | refine j2 ?_))
  have := b1q i3 hk'
  subst this
  exact ⟨trivial, _, rfl, _, ⟨o2, t2, rows2, rj2, pj2, rfl, i2, rfl⟩, hS⟩
 have hk' : s2.ek = 0 := by simpa using hk
 refine aU ?_
 refine j9 ?_
 refine aU ?_
 refine d7 hS rfl (.head _) (v := .int .i64 s2.steps) rfl ?_
 refine aU ?_
 cases n with
 | zero =>
   refine f9 (t := true) (by show AV.bool (s2.steps == (fuel : Int)) = _; rw [show s2.steps = (fuel : Int) by simpa using i5]; simp) (fun _ => ?_) (fun h => by cases h)
   refine aU ?_
   refine E_stS hS rfl (xv := .int .i64 3) rfl Rp.here rfl rfl (by first | exact Nat.le_of_ble_eq_true rfl | (simp; omega) | omega) (fun S hS => ?_)
   refine aU ?_
   refine g8 ?_
   (repeat (first | refine j3 ?_ | refine j4 ?_ | refine j5 rfl ?_ | refine f6 ?_ | refine f8 ?_ | refine j2 ?_))
   have := a9P i3 hk'
   subst this
   exact ⟨trivial, _, rfl, _, ⟨o2, t2, rows2, rj2, pj2, rfl, i2, rfl⟩, hS⟩
 | succ n =>
   refine f9 (t := false) (by show AV.bool (s2.steps == (fuel : Int)) = _; rw [show (s2.steps == (fuel : Int)) = false by simp; omega]) (fun h => by cases h) (fun _ => ?_)
   refine aU ?_
   refine d7 hS rfl (.head _) (v := .int .i64 s2.steps) rfl ?_
   refine aU ?_
   obtain ⟨s3, h3, h4⟩ := b7d i3 hk'
   obtain ⟨b1, b2⟩ := i4 hk'
   have hr3 := a7T h3
   have hst2 : s2.steps + 1 < 4611686018427387904 ∧ -4611686018427387904 ≤ s2.steps + 1 := by
    constructor <;> omega
   refine E_stS hS rfl (xv := .int .i64 (s2.steps + 1)) (by show AV.int .i64 (IntKind.i64.wrap (s2.steps + 1)) = _; rw [a0B zO]) Rp.here rfl rfl (by first | exact Nat.le_of_ble_eq_true rfl | (simp; omega) | omega) (fun S hS => ?_)
   refine aU ?_
   cases rows2 with
   | nil => exact absurd i2.symm hr3
   | cons z r =>
   have hS2 : Ab.Sep S (mS p o2 t2 { s2 with steps := s2.steps + 1 } (z :: r) rj2 pj2 ++ R) := hS
   refine d7 hS rfl (.head _) (v := .ref o2.ro o2.rv 0 (r.length + 1) none) rfl ?_
   refine aU ?_
   refine d7 hS rfl (.head _) (v := .ref o2.ro o2.rv 0 (r.length + 1) none) rfl ?_
   refine aU ?_
   refine v7 rfl rfl r.length (a0I (by have := b1.rn; rw [← i2] at this; simp [x3] at this; omega)) zO ?_
   refine d7 hS rfl (.tail _ (.head _)) (v := .ptr z.s 0 0) (by rw [u0]; exact a2R rfl zS) ?_
   refine aU ?_
   refine d7 hS rfl (.tail _ (.tail _ (.tail _ (.head _)))) (v := .iface 173 (.ptr z.q.x 0 0)) rfl ?_
   refine aU ?_
   refine a9a (b1p b1 i2 h3) hS2 rfl c0V zK rfl (.refl _) (fun r0 S L' hL hS => ?_)
   obtain ⟨o4, t4, rows4, rj4, pj4, k1, k2, rfl⟩ := hL
   refine aU ?_
   (repeat (first | refine j3 ?_ | refine j4 ?_ | refine j5 rfl ?_ | refine f6 ?_ | refine f8 ?_ | refine j2 ?_))
   exact a1Q ⟨⟨o4, t4, s3, n, rows4, rj4, pj4⟩, ⟨k1, k2, h4, b2 _ h3, by have := hsteps _ _ h3; simp only at this ⊢; omega, by have := hsteps _ _ h3; simp only at this ⊢; omega⟩, by show n < n + 1; omega, hS, a2a ⟨.refl _, .refl _, trivial⟩⟩
end
end Go.Proofs.Ytnpemocpfdgaoaa

/- irun.Run: the walk. -/
namespace Go.Ab
theorem a2u {S : List Ob} {F : Fm} {t o ver n t2 : Nat} {cs : List AV} {v2 : AV} (h : F t = .ptr o ver 0) (ho : hp S o = .arr ver cs) (hn : cs.length = n) (h2 : F t2 = v2) : a2F S F [(t, some (some n)), (t2, none)] = some (.tup [.agg cs, v2]) := by
 simp [a2F, a4J, b7F, a7z, v3, h, ho, a0x, ← hn, h2]
section
variable {P : Program} {S0 : List Ob} {ow : List Nat} {fr : Fr} {S : List Ob} {L : List It}
theorem b2a {b} {K K0 : Post} {o ver : Nat} {cs : List AV} (j : Nat) (e : Option Nat) {Lf : Nat → List It} (hS : Sep S L) (hr : ∀ o', Rp L (o, ver, cs) (o, ver, cs.set j (.ref o' 0 0 0 e)) (Lf o')) (hj : cs[j]? = some .nils)
  (h : ∀ o' S', Sep S' ((o', 0, []) :: Lf o') → Post.thn (fun fr' S' => ∃ F T, Wk S0 fr' S' F T ∧ VT P S0 ow b F T K) K0 .normal fr S') :
  Post.thn (fun fr' S' => ∃ F T, Wk S0 fr' S' F T ∧ VT P S0 ow b F T K) K0 .normal fr S := by
 have hm := (hr 0).mem
 have ho := hS.at hm
 have h1 : Sep (y7 S S.length (.arr 0 [])) ((S.length, 0, []) :: L) := hS.new
 obtain ⟨F, T, hw, hv⟩ := h S.length _ (h1.rp (Rp.there (hr S.length)))
 exact a3v (fun g0 n a w hat => hw _ _ _ _ (a4o (e := e) ho hj g0 n a w hat)) hv
end
end Go.Ab
namespace Go.Proofs.Ytnpemocpfdgaoaa
open Go Go.Ab
set_option maxRecDepth 20000
set_option maxHeartbeats 2000000
def c4U : FC := .reg [⟨(some 4), none, .op (.box (.t 0))⟩,  ⟨(some 8), none, .op (.new [.nils, (.int .i64 0), (.int .u64 0), (.int .i64 0), (.int .i64 0), (.int .i64 0), (.int .i64 0)])⟩,  ⟨(some 9), none, .op (.mv (.v (.int .i64 0)))⟩] []
def c4V : FC := .reg [⟨(some 13), none, .op (.load (some 1) (.t 4))⟩,  ⟨(some 14), none, .op (.mv (.t 1))⟩,  ⟨(some 15), none, .call 45 [(.t 13), (.t 14)]⟩,  ⟨(some 10), none, .op (.mv (.t 15))⟩] []
def c4W : FC := .reg [⟨(some 16), none, .op (.mv (.t 10))⟩,  ⟨(some 17), none, .op (.bin .none .neq (.t 16) (.v (.int .i64 0)))⟩] []
def c4X : FC := .reg [⟨(some 18), none, .op (.build [.nils, (.int .i64 0), (.int .u64 0), (.int .i64 0), (.int .i64 0), (.int .i64 0), (.int .i64 0)] [])⟩,  ⟨(some 19), none, .op (.mv (.t 10))⟩,  ⟨none, none, .op (.store 7 (.t 8) (.t 18))⟩,  ⟨(some 9), none, .op (.mv (.t 19))⟩] []
def c4Y : FC := .seq c4X FC.ret
def c4Z : FC := .cond (.t 17) c4Y FC.skip
def c5a : FC := .seq c4W c4Z
def c5b : FC := .seq c4V c5a
def c5c : FC := .reg [⟨(some 20), none, .op (.mv (.t 3))⟩,  ⟨(some 21), none, .op (.bin .none .lss (.t 20) (.v (.int .i64 0)))⟩,  ⟨(some 22), none, .op (.mv (.t 21))⟩,  ⟨(some 23), some (22, false), .op (.mv (.t 3))⟩,  ⟨(some 24), some (22, false), .op (.bin .none .gtr (.t 23) (.v (.int .i64 1048576)))⟩,  ⟨(some 25), none, .op (.pick (.t 22) (.v (.bool true)) (.t 24))⟩] []
def c1T : FC := .reg [⟨(some 26), none, .op (.build [.nils, (.int .i64 0), (.int .u64 0), (.int .i64 0), (.int .i64 0), (.int .i64 0), (.int .i64 0)] [])⟩,  ⟨none, none, .op (.store 7 (.t 8) (.t 26))⟩,  ⟨(some 9), none, .op (.mv (.v (.int .i64 2)))⟩] []
def c1U : FC := .seq c1T FC.ret
def c1V : FC := .cond (.t 25) c1U FC.skip
def c1W : FC := .seq c5c c1V
def c1X : FC := .reg [⟨(some 27), none, .op (.fad 0 (.t 4))⟩,  ⟨(some 28), none, .op (.load none (.t 27))⟩,  ⟨(some 29), none, .op (.mv (.t 1))⟩,  ⟨(some 30), none, .op (.build [.nils, (.bool false), (.int .u64 0), (.int .u64 0), (.int .u64 0), (.int .u64 0), (.int .u64 0), (.int .u64 0), (.int .u64 0), (.int .u64 0), (.int .u64 0), (.int .u64 0), (.int .u64 0), (.int .u64 0), (.int .u64 0), (.int .u64 0), (.int .u64 0), (.int .u64 0)] [(0, 1, (.t 28)), (1, 1, (.t 29))])⟩,  ⟨(some 31), none, .op (.box (.t 30))⟩,  ⟨(some 11), none, .op (.mv (.t 31))⟩] []
def c1Y : FC := .reg [⟨(some 32), none, .op (.mv (.t 2))⟩,  ⟨(some 33), none, .call 40 [(.t 32)]⟩,  ⟨(some 34), none, .op (.mv (.t 11))⟩,  ⟨(some 35), none, .op (.mkf (.func 46) [(.t 34)] [])⟩,  ⟨(some 36), none, .op (.build [.nilp, .nilf, (.int .i64 0), (.int .u64 0), (.int .i64 0), (.int .i64 0), (.int .i64 0), (.int .i64 0), .nils, .nils, (.int .i64 0)] [(0, 1, (.t 33)), (1, 1, (.t 35))])⟩,  ⟨(some 37), none, .op (.box (.t 36))⟩,  ⟨(some 12), none, .op (.mv (.t 37))⟩] []
def c1Z : FC := .reg [⟨(some 38), none, .op (.mv (.t 12))⟩,  ⟨(some 39), none, .op (.mv (.t 3))⟩,  ⟨(some 40), none, .call 43 [(.t 38), (.t 39)]⟩] []
def c2a : FC := .reg [⟨(some 41), none, .op (.mv (.t 12))⟩,  ⟨(some 42), none, .op (.nchk (.t 41))⟩,  ⟨(some 43), none, .op (.fad 0 (.t 42))⟩,  ⟨(some 44), none, .op (.load none (.t 43))⟩,  ⟨(some 45), none, .call 44 [(.t 44)]⟩,  ⟨(some 46), none, .op (.mv (.t 12))⟩,  ⟨(some 47), none, .op (.nchk (.t 46))⟩,  ⟨(some 48), none, .op (.fad 2 (.t 47))⟩,  ⟨(some 49), none, .op (.load (some 2) (.t 48))⟩,  ⟨(some 50), none, .op (.mv (.t 12))⟩,  ⟨(some 51), none, .op (.nchk (.t 50))⟩,  ⟨(some 52), none, .op (.fad 4 (.t 51))⟩,  ⟨(some 53), none, .op (.load none (.t 52))⟩,  ⟨(some 54), none, .op (.mv (.t 12))⟩,  ⟨(some 55), none, .op (.nchk (.t 54))⟩,  ⟨(some 56), none, .op (.fad 5 (.t 55))⟩,  ⟨(some 57), none, .op (.load none (.t 56))⟩,  ⟨(some 58), none, .op (.mv (.t 12))⟩,  ⟨(some 59), none, .op (.nchk (.t 58))⟩,  ⟨(some 60), none, .op (.fad 6 (.t 59))⟩,  ⟨(some 61), none, .op (.load none (.t 60))⟩,  ⟨(some 62), none, .op (.mv (.t 12))⟩,  ⟨(some 63), none, .op (.nchk (.t 62))⟩,  ⟨(some 64), none, .op (.fad 7 (.t 63))⟩,  ⟨(some 65), none, .op (.load none (.t 64))⟩,  ⟨(some 66), none, .op (.build [.nils, (.int .i64 0), (.int .u64 0), (.int .i64 0), (.int .i64 0), (.int .i64 0), (.int .i64 0)] [(0, 1, (.t 45)), (1, 2, (.t 49)), (3, 1, (.t 53)), (4, 1, (.t 57)), (5, 1, (.t 61)), (6, 1, (.t 65))])⟩,  ⟨none, none, .op (.store 7 (.t 8) (.t 66))⟩,  ⟨(some 9), none, .op (.mv (.v (.int .i64 0)))⟩] [(4, 8), (4, 12), (4, 16), (4, 20), (4, 24)]
def c2b : FC := .seq c2a FC.ret
def c2c : FC := .seq c1Z c2b
def c2d : FC := .seq c1Y c2c
def c2e : FC := .seq c1X c2d
def c2f : FC := .seq c1W c2e
def c2g : FC := .seq c5b c2f
def c2h : FC := .seq c4U c2g
def c6f : FC := c2h
theorem c6g : Fn3 Try.prog 26 67 [(8, (some (some 7))), (9, none)] c6f := ⟨_, _, Try.func26, rfl, rfl, rfl, by kernel_rfl⟩

def rz : Result := ⟨[], ⟨0, 0⟩, 0, 0, 0, 0⟩
def rzC : List AV := [.nils, .int .i64 0, .int .u64 0, .int .i64 0, .int .i64 0, .int .i64 0, .int .i64 0]
inductive a1U (p : GP) (tape : List Int) (fl : Int) (c : Int) : Result × Int → Prop
 | bad (h : c ≠ 0) : a1U p tape fl c (rz, c)
 | arg (h : c = 0) (h2 : fl < 0 ∨ fl > 1048576) : a1U p tape fl c (rz, 2)
 | run {s1 s2 : AS} (h : c = 0) (h2 : 0 ≤ fl ∧ fl ≤ 1048576) (h3 : as1 p tape = some s1) (h4 : a3D p fl.toNat s1 = some s2) (h5 : b7K p fl.toNat s1) (h6 : ∀ g ∈ p.Funcs, okG g) (h7 : s2.evs.length < 1000000000) (h8 : tape.length < 1000000000) : a1U p tape fl c (b1Z s2, 0)
theorem c2i (p : GP) : a0v 0 (GP.cells p) = true := l8 ⟨(a7C b9.enc 8).blw _ 0, b1Q.blw _ 0, rfl, rfl, rfl, rfl, rfl, rfl, rfl, rfl, rfl, rfl, rfl, rfl, rfl, rfl, rfl, rfl, trivial⟩
section
variable {g : i7} {bd : Bool} {tape : List Int} {fl : Int}
theorem b1r {c : Int} {r : Result × Int} (hc : t9 g bd = some c) (hr : a1U ⟨g.Funcs, bd⟩ tape fl c r) (hsteps : ∀ a b, a0u ⟨g.Funcs, bd⟩ a = some b → b.steps = a.steps) :
  Tri Try.prog 26 [i7.av g, .bool bd, .sl false 1 (tape.map (avI .u64)), .int .i64 fl] [] (fun v L' => L' = [] ∧ (v = .tup [Result.av r.1, .int .i64 r.2] ∨ (r.1 = rz ∧ v = .tup [.agg rzC, .int .i64 r.2]))) := by
 obtain ⟨p, hpp⟩ : ∃ p : GP, p = ⟨g.Funcs, bd⟩ := ⟨_, rfl⟩
 rw [← hpp] at hr hsteps
 refine l6 mixed c6g zS [4, 8, 31, 37] (fun R S hS => ?_)
 refine aU ?_
 refine a1i hS rfl (xv := i7.av g) rfl rfl (fun pb S hS => ?_)
 refine b1b hS rfl (fun res S hS => ?_)
 refine aS ?_
 refine c7 ?_
 refine c1G 4 hS (Pk.there Pk.here) (by exact i7.enc.blw g 0) rfl (fun S hS => ?_)
 refine aU ?_
 refine a4j (a6l hc) rfl (l8 ⟨i7.enc.blw g 0, b1Q.blw bd 0, trivial⟩) rfl ?_
 refine aU ?_
 refine f9 (t := c != 0) rfl (fun hb => ?_) (fun hb => ?_)
 ·have hc0 : c ≠ 0 := by simpa using hb
  cases hr with
  | arg h => exact absurd h hc0
  | run h => exact absurd h hc0
  | bad h =>
  refine aU ?_
  refine E_stS hS rfl (xv := .agg rzC) rfl Rp.here rfl rfl (by first | exact Nat.le_of_ble_eq_true rfl | (simp; omega) | omega) (fun S hS => ?_)
  refine aU ?_
  refine g8 ?_
  (repeat (first | refine j3 ?_ | refine j4 ?_ | refine j5 rfl ?_ | refine f6 ?_ | refine f8 ?_ | refine j2 ?_))
  exact ⟨trivial, _, a2u (cs := rzC) (v2 := .int .i64 c) rfl (hS.at (.head _)) rfl rfl, [], ⟨rfl, .inr ⟨rfl, rfl⟩⟩, hS.sub (List.sublist_cons_self _ _)⟩
 have hc0 : c = 0 := by simpa using hb
 refine aU ?_
 by_cases hlt : fl < 0
 ·simp only [decide_eq_true hlt]
  obtain rfl : r = (rz, 2) := by
   cases hr with
   | bad h => exact absurd hc0 h
   | arg h h2 => rfl
   | run h h2 => omega
  refine aU ?_
  refine f9 (t := true) rfl (fun _ => ?_) (fun h => by cases h)
  refine aU ?_
  refine E_stS hS rfl (xv := .agg rzC) rfl Rp.here rfl rfl (by first | exact Nat.le_of_ble_eq_true rfl | (simp; omega) | omega) (fun S hS => ?_)
  refine aU ?_
  refine g8 ?_
  (repeat (first | refine j3 ?_ | refine j4 ?_ | refine j5 rfl ?_ | refine f6 ?_ | refine f8 ?_ | refine j2 ?_))
  exact ⟨trivial, _, a2u (cs := rzC) (v2 := .int .i64 2) rfl (hS.at (.head _)) rfl rfl, [], ⟨rfl, .inr ⟨rfl, rfl⟩⟩, hS.sub (List.sublist_cons_self _ _)⟩
 simp only [decide_eq_false hlt]
 refine aU ?_
 by_cases hgt : fl > 1048576
 ·obtain rfl : r = (rz, 2) := by
   cases hr with
   | bad h => exact absurd hc0 h
   | arg h h2 => rfl
   | run h h2 => omega
  refine f9 (t := true) (by show AV.bool (decide (fl > 1048576)) = _; rw [decide_eq_true hgt]) (fun _ => ?_) (fun h => by cases h)
  refine aU ?_
  refine E_stS hS rfl (xv := .agg rzC) rfl Rp.here rfl rfl (by first | exact Nat.le_of_ble_eq_true rfl | (simp; omega) | omega) (fun S hS => ?_)
  refine aU ?_
  refine g8 ?_
  (repeat (first | refine j3 ?_ | refine j4 ?_ | refine j5 rfl ?_ | refine f6 ?_ | refine f8 ?_ | refine j2 ?_))
  exact ⟨trivial, _, a2u (cs := rzC) (v2 := .int .i64 2) rfl (hS.at (.head _)) rfl rfl, [], ⟨rfl, .inr ⟨rfl, rfl⟩⟩, hS.sub (List.sublist_cons_self _ _)⟩
 refine f9 (t := false) (by show AV.bool (decide (fl > 1048576)) = _; rw [decide_eq_false hgt]) (fun h => by cases h) (fun _ => ?_)
 cases hr with
 | bad h => exact absurd hc0 h
 | arg h h2 => omega
 | run h h2 h3 h4 h5 h6 h7 h8 =>
 rename_i s1 s2
 obtain ⟨f, hf, rfl⟩ := Option.map_eq_some_iff.1 h3
 obtain ⟨fn, hfn⟩ : ∃ n : Nat, fl = (n : Int) := ⟨fl.toNat, by omega⟩
 subst hfn
 rw [Int.toNat_natCast] at h4 h5
 refine aU ?_
 refine a1i hS rfl (xv := .agg (GP.cells p)) (by rw [hpp]; rfl) rfl (fun ru S hS => ?_)
 refine aS ?_
 refine c7 ?_
 refine c1G 11 hS Pk.here (by exact c2i p) rfl (fun S hS => ?_)
 refine aU ?_
 refine a1l (b7c h8) hS rfl Spl.nil (fun x S L' hL hS => ?_)
 obtain ⟨tr, rfl, rfl⟩ := hL
 refine aU ?_
 refine a1i hS rfl (xv := .agg [.ptr tr 0 0, mkA p, .int .i64 0, .int .u64 0, .int .i64 0, .int .i64 0, .int .i64 0, .int .i64 0, .nils, .nils, .int .i64 0]) rfl rfl (fun m S hS => ?_)
 refine aS ?_
 refine c7 ?_
 refine b2a 8 none (Lf := fun o' => (m, 0, [.ptr tr 0 0, mkA p, .int .i64 0, .int .u64 0, .int .i64 0, .int .i64 0, .int .i64 0, .int .i64 0, .ref o' 0 0 0 none, .nils, .int .i64 0]) :: (tr, 0, [.sl false 1 (tape.map (avI .u64)), .nils]) :: (res, 0, rzC) :: ([] ++ R)) hS (fun o' => Rp.here) rfl (fun ro S hS => ?_)
 refine b2a 9 (some 2) (Lf := fun o' => (ro, 0, []) :: (m, 0, [.ptr tr 0 0, mkA p, .int .i64 0, .int .u64 0, .int .i64 0, .int .i64 0, .int .i64 0, .int .i64 0, .ref ro 0 0 0 none, .ref o' 0 0 0 (some 2), .int .i64 0]) :: (tr, 0, [.sl false 1 (tape.map (avI .u64)), .nils]) :: (res, 0, rzC) :: ([] ++ R)) hS (fun o' => Rp.there Rp.here) rfl (fun po S hS => ?_)
 refine b8r 1 (some 2) (Lf := fun o' => (po, 0, []) :: (ro, 0, []) :: (m, 0, [.ptr tr 0 0, mkA p, .int .i64 0, .int .u64 0, .int .i64 0, .int .i64 0, .int .i64 0, .int .i64 0, .ref ro 0 0 0 none, .ref po 0 0 0 (some 2), .int .i64 0]) :: (tr, 0, [.sl false 1 (tape.map (avI .u64)), .ref o' 0 0 0 (some 2)]) :: (res, 0, rzC) :: ([] ++ R)) hS (fun o' => Rp.there (Rp.there (Rp.there Rp.here))) rfl (fun te S hS => ?_)
 refine aU ?_
 have hS2 : Ab.Sep S (mS p ⟨m, ro, 0, po, 0⟩ ⟨tr, te, 0⟩ (as0 tape) [] [] [] ++ ((res, 0, rzC) :: R)) := by
  refine hS.perm ?_
  have : Spl ((te, 0, []) :: (po, 0, []) :: (ro, 0, []) :: (m, 0, [.ptr tr 0 0, mkA p, .int .i64 0, .int .u64 0, .int .i64 0, .int .i64 0, .int .i64 0, .int .i64 0, .ref ro 0 0 0 none, .ref po 0 0 0 (some 2), .int .i64 0]) :: (tr, 0, [.sl false 1 (tape.map (avI .u64)), .ref te 0 0 0 (some 2)]) :: (res, 0, rzC) :: R)
   [(m, 0, [.ptr tr 0 0, mkA p, .int .i64 0, .int .u64 0, .int .i64 0, .int .i64 0, .int .i64 0, .int .i64 0, .ref ro 0 0 0 none, .ref po 0 0 0 (some 2), .int .i64 0]), (ro, 0, []), (po, 0, []), (tr, 0, [.sl false 1 (tape.map (avI .u64)), .ref te 0 0 0 (some 2)]), (te, 0, [])] ((res, 0, rzC) :: R) := (by repeat (first | exact Spl.nil | refine Spl.cons (by repeat (first | exact Pk.here | apply Pk.there | apply Pk.skip)) ?_ | refine Spl.app (by repeat (first | exact PkC.here | apply PkC.there | apply PkC.skip)) ?_))
  exact this
 refine a1l (b7e (o := ⟨m, ro, 0, po, 0⟩) (s := as0 tape) hf (a3g h6 hf) rfl rfl rfl zO h4 h5 hsteps) hS2 rfl (.refl _) (fun x S9 L' hL hS9 => ?_)
 obtain ⟨o, t, rows, rj, pj, k1, k2, rfl⟩ := hL
 dsimp only at k1
 subst k1
 refine c7 ?_
 have hS10 : Ab.Sep S9 (sL p o t s2 rows rj pj ++ ((t.tr, 0, [AV.sl false 1 (s2.tape.map (avI .u64)), .ref t.te t.tv 0 s2.evs.length (some 2)]) :: (t.te, t.tv, flat k6.av s2.evs) :: (res, 0, rzC) :: R)) := by
  rw [mS, List.append_assoc] at hS9; exact hS9
 refine b8s (o := t.te) (ver := t.tv) (o2 := t.tr) (v2 := 0) (jx := 1) (l := s2.evs) (cs2 := [.sl false 1 (s2.tape.map (avI .u64)), .ref t.te t.tv 0 s2.evs.length (some 2)]) k6.enc hS10 (Pk.skip (Pk.there Pk.here)) rfl (Rp.skip Rp.here) (fun S hS => ?_)
 refine g9 ?_
 refine a0Q ?_
 refine aU ?_
 refine d7 hS rfl (.head _) (v := .ptr t.tr 0 0) rfl ?_
 refine aU ?_
 refine a2d (a7S (tr := t.tr) (a := .sl false 1 (s2.tape.map (avI .u64))) (evs := s2.evs) h7) hS rfl (Spl.cons (Pk.skip Pk.here) Spl.nil) ?_
 refine aU ?_
 refine d7 hS rfl (.head _) (v := .agg [.int .i64 s2.ek, .int .u64 s2.ev]) rfl ?_
 refine aU ?_
 refine d7 hS rfl (.head _) (v := .int .i64 s2.steps) rfl ?_
 refine aU ?_
 refine d7 hS rfl (.head _) (v := .int .i64 s2.depth) rfl ?_
 refine aU ?_
 refine d7 hS rfl (.head _) (v := .int .i64 s2.defers) rfl ?_
 refine aU ?_
 refine d7 hS rfl (.head _) (v := .int .i64 s2.panics) rfl ?_
 refine aU ?_
 refine E_stS hS rfl (xv := Result.av (b1Z s2)) rfl (Rp.skip (Rp.there Rp.here)) rfl rfl (by first | exact Nat.le_of_ble_eq_true rfl | (simp; omega) | omega) (fun S hS => ?_)
 refine aU ?_
 refine And.intro (by simp [a0g, a3S, w9, a0h]) ?_
 refine aU ?_
 refine g8 ?_
 (repeat (first | refine j3 ?_ | refine j4 ?_ | refine j5 rfl ?_ | refine f6 ?_ | refine f8 ?_ | refine j2 ?_))
 exact ⟨trivial, _, a2u (cs := Result.cells (b1Z s2)) (v2 := .int .i64 0) rfl (hS.at (List.mem_append_right _ (.tail _ (.head _)))) rfl rfl, [], ⟨rfl, .inl rfl⟩, hS.sub ((List.Sublist.cons _ (.cons _ (.refl _))).trans (List.sublist_append_right _ _))⟩
end
end Go.Proofs.Ytnpemocpfdgaoaa

/- What one step changes. -/
namespace Go.Proofs.Ytnpemocpfdgaoaa
open Go Go.Ab
section
variable {p : GP} {s b : AS} {z : ARow} {r : List ARow} {i : d8}
inductive a3E (p : GP) (s : AS) (z : ARow) (r : List ARow) : AS → Prop
 | go (rows : List ARow) (ps : List s4) : a3E p s z r { s with rows := rows, pans := ps }
 | pan (v : Int) {b : AS} (e : a9N p s (z :: r) v = some b) : a3E p s z r b
 | inn (rows : List ARow) (t : List Int) (l : List k6) : a3E p s z r { s with tape := t, evs := s.evs ++ l, rows := rows }
 | call (rows : List ARow) (d : Int) : a3E p s z r { s with rows := rows, depth := max s.depth d }
 | dfr (rows : List ARow) : a3E p s z r { s with rows := rows, defers := max s.defers (s.live + 1), live := s.live + 1 }
 | ret (v : Int) (u : RO) (h2 : a3B p { z with ret := v } r s.pans = some u) : a3E p s z r
   { s with rows := u.A, pans := u.ps, ek := u.en.elim s.ek (·.1), ev := u.en.elim s.ev (·.2), depth := if u.push then max s.depth (u.A.length : Int) else s.depth, live := if u.push then s.live - 1 else s.live }
 | ext (v : Int) : a3E p s z r { s with ek := 1, ev := v }
theorem a3E.goA (f : SFr) : a3E p s z r (goA s z r f) := .go _ s.pans
theorem a6q (h : a9O p s z r i = some b) : a3E p s z r b := by
 unfold a9O at h
 by_cases hop : i.Op = 1
 ·rw [if_pos hop] at h
  obtain ⟨f1, _, rfl⟩ := Option.map_eq_some_iff.1 h; exact .goA _
 rw [if_neg hop] at h; clear hop
 by_cases hop : i.Op = 2
 ·rw [if_pos hop] at h
  obtain ⟨v, _, h⟩ := Option.bind_eq_some_iff.1 h
  obtain ⟨f1, _, rfl⟩ := Option.map_eq_some_iff.1 h; exact .goA _
 rw [if_neg hop] at h; clear hop
 by_cases hop : i.Op = 4
 ·rw [if_pos hop] at h
  obtain ⟨v, _, h⟩ := Option.bind_eq_some_iff.1 h
  obtain ⟨f1, _, rfl⟩ := Option.map_eq_some_iff.1 h; exact .goA _
 rw [if_neg hop] at h; clear hop
 by_cases hop : i.Op = 5
 ·rw [if_pos hop] at h
  obtain ⟨v, _, h⟩ := Option.bind_eq_some_iff.1 h
  obtain ⟨f1, _, rfl⟩ := Option.map_eq_some_iff.1 h; exact .goA _
 rw [if_neg hop] at h; clear hop
 by_cases hop : i.Op = 6
 ·rw [if_pos hop] at h
  obtain ⟨f1, _, rfl⟩ := Option.map_eq_some_iff.1 h; exact .goA _
 rw [if_neg hop] at h; clear hop
 by_cases hop : i.Op = 9
 ·rw [if_pos hop] at h
  obtain ⟨f1, _, rfl⟩ := Option.map_eq_some_iff.1 h; exact .goA _
 rw [if_neg hop] at h; clear hop
 by_cases hop : i.Op = 10
 ·rw [if_pos hop] at h
  cases h; exact .goA _
 rw [if_neg hop] at h; clear hop
 by_cases hop : i.Op = 16
 ·rw [if_pos hop] at h
  obtain ⟨f1, _, rfl⟩ := Option.map_eq_some_iff.1 h; exact .inn _ _ _
 rw [if_neg hop] at h; clear hop
 by_cases hop : i.Op = 17
 ·rw [if_pos hop] at h
  obtain ⟨f1, _, rfl⟩ := Option.map_eq_some_iff.1 h; exact .inn _ s.tape _
 rw [if_neg hop] at h; clear hop
 by_cases hop : i.Op = 15
 ·rw [if_pos hop] at h
  split at h
  ·cases h
  ·obtain ⟨f1, _, h⟩ := Option.bind_eq_some_iff.1 h
   obtain ⟨f2, _, rfl⟩ := Option.map_eq_some_iff.1 h; exact .go _ _
 rw [if_neg hop] at h; clear hop
 by_cases hop : i.Op = 3
 ·rw [if_pos hop] at h
  obtain ⟨a, _, h⟩ := Option.bind_eq_some_iff.1 h
  obtain ⟨c, _, h⟩ := Option.bind_eq_some_iff.1 h
  obtain ⟨w, _, h⟩ := Option.bind_eq_some_iff.1 h
  split at h
  ·obtain ⟨f1, _, rfl⟩ := Option.map_eq_some_iff.1 h; exact .goA _
  ·exact .pan _ h
 rw [if_neg hop] at h; clear hop
 by_cases hop : i.Op = 7
 ·rw [if_pos hop] at h
  obtain ⟨a, _, h⟩ := Option.bind_eq_some_iff.1 h
  obtain ⟨c, _, h⟩ := Option.bind_eq_some_iff.1 h
  cases c with
  | none => exact .pan _ h
  | some c =>
    obtain ⟨y, _, h⟩ := Option.bind_eq_some_iff.1 h
    obtain ⟨w, _, h⟩ := Option.bind_eq_some_iff.1 h
    obtain ⟨f1, _, rfl⟩ := Option.map_eq_some_iff.1 h; exact .goA _
 rw [if_neg hop] at h; clear hop
 by_cases hop : i.Op = 8
 ·rw [if_pos hop] at h
  obtain ⟨a, _, h⟩ := Option.bind_eq_some_iff.1 h
  obtain ⟨c, _, h⟩ := Option.bind_eq_some_iff.1 h
  cases c with
  | none => exact .pan _ h
  | some c =>
    obtain ⟨y, _, h⟩ := Option.bind_eq_some_iff.1 h
    obtain ⟨w, _, h⟩ := Option.bind_eq_some_iff.1 h
    obtain ⟨f1, _, rfl⟩ := Option.map_eq_some_iff.1 h; exact .go _ s.pans
 rw [if_neg hop] at h; clear hop
 by_cases hop : i.Op = 11
 ·rw [if_pos hop] at h
  obtain ⟨a, _, h⟩ := Option.bind_eq_some_iff.1 h
  obtain ⟨f1, _, rfl⟩ := Option.map_eq_some_iff.1 h; exact .call _ _
 rw [if_neg hop] at h; clear hop
 by_cases hop : i.Op = 13
 ·rw [if_pos hop] at h
  obtain ⟨f1, _, rfl⟩ := Option.map_eq_some_iff.1 h; exact .dfr _
 rw [if_neg hop] at h; clear hop
 by_cases hop : i.Op = 12
 ·rw [if_pos hop] at h
  obtain ⟨v, _, h⟩ := Option.bind_eq_some_iff.1 h
  obtain ⟨u, h3, rfl⟩ := Option.map_eq_some_iff.1 h; exact .ret v u h3
 rw [if_neg hop] at h; clear hop
 by_cases hop : i.Op = 14
 ·rw [if_pos hop] at h
  obtain ⟨v, _, h⟩ := Option.bind_eq_some_iff.1 h
  exact .pan _ h
 rw [if_neg hop] at h; clear hop
 obtain ⟨v, _, rfl⟩ := Option.map_eq_some_iff.1 h; exact .ext _
theorem b7f {rows : List ARow} {v : Int} (h : a9N p s rows v = some b) : ∃ en A ps, s5 p rows (⟨v, false⟩ :: s.pans) = some (en, A, ps) ∧ b = { s with rows := A, pans := ps, panics := max s.panics ((s.pans.length : Int) + 1), ek := if en.isSome then 2 else s.ek, ev := en.getD s.ev, depth := if en.isSome then s.depth else max s.depth (A.length : Int), live := if en.isSome then s.live else s.live - 1 } := by
 unfold a9N at h
 obtain ⟨⟨en, A, ps⟩, h1, rfl⟩ := Option.map_eq_some_iff.1 h
 exact ⟨en, A, ps, h1, rfl⟩
theorem a6r (h : a0u p s = some b) : ∃ z r i, s.rows = z :: r ∧ u4 z.fr.f.Nodes z.fr.pc = some i ∧ a3E p s z r b := by
 unfold a0u at h
 split at h
 ·cases h
 ·rename_i z r e
  obtain ⟨i, h1, h⟩ := Option.bind_eq_some_iff.1 h
  exact ⟨z, r, i, e, h1, a6q h⟩
theorem a6s (h : a0u p s = some b) : b.steps = s.steps := by
 obtain ⟨z, r, i, _, _, c⟩ := a6r h
 cases c with
 | pan v e => obtain ⟨en, A, ps, _, rfl⟩ := b7f e; rfl
 | _ => rfl
end
end Go.Proofs.Ytnpemocpfdgaoaa

/- irun.Run as a plain function. -/
namespace Go.Proofs.Ytnpemocpfdgaoaa
open Go Go.Ab
set_option maxRecDepth 20000
set_option maxHeartbeats 2000000
section
variable {g : i7} {bd : Bool} {tape : List Int} {fl : Int} {s b : AS}
theorem a1U.uniq {p : GP} {c : Int} {r r' : Result × Int} (h : a1U p tape fl c r) (h' : a1U p tape fl c r') : r = r' := by
 cases h <;> cases h' <;> first | rfl | omega | contradiction | skip
 rename_i s1 s2 a1 a2 a3 a4 a5 a6 a7 a8 t1 t2 b1 b2 b3 b4 b5 b6 b7 b8
 rw [a3] at b3; cases b3
 rw [a4] at b4; cases b4
 rfl
open Classical in
noncomputable def u6 (fuel : Nat) (g : i7) (bd : Bool) (tape : List Int) (fl : Int) : Option (Result × Int) := (t9 g bd).bind fun c => if h : ∃ r, a1U ⟨g.Funcs, bd⟩ tape fl c r then some h.choose else none
theorem a3F {fuel : Nat} {c : Int} {r : Result × Int} (hc : t9 g bd = some c) (h : a1U ⟨g.Funcs, bd⟩ tape fl c r) : u6 fuel g bd tape fl = some r := by
 unfold u6
 have hx : ∃ r, a1U ⟨g.Funcs, bd⟩ tape fl c r := ⟨r, h⟩
 rw [hc, Option.bind_some, dif_pos hx]
 exact congrArg some (hx.choose_spec.uniq h)
theorem a3G {fuel : Nat} {g_00 : i7} {bound_01 : Bool} {tape_02 : List Int} {fuel_03 : Int} {r : Result × Int} (h : u6 fuel g_00 bound_01 tape_02 fuel_03 = some r) : n0 Try.prog 26 [(i7.av g_00), (.bool bound_01), (.sl false 1 (List.map (avI .u64) tape_02)), (.int .i64 fuel_03)] (.tup [(Result.av r.1), (.int .i64 r.2)]) := by
 unfold u6 at h
 obtain ⟨c, hc, h⟩ := Option.bind_eq_some_iff.1 h
 split at h
 case isFalse => cases h
 rename_i hx
 cases h
 have hr := hx.choose_spec
 generalize hx.choose = r at hr
 obtain ⟨r', h1, rfl⟩ := Tri.pure (Q' := fun x => x = .tup [(Result.av r.1), (.int .i64 r.2)]) 2 (b1r hc hr (fun _ _ => a6s)) (fun v L' S hq hS => by
  obtain ⟨rfl, rfl | ⟨e, rfl⟩⟩ := hq
  ·exact ⟨_, z0 (ys := [Result.av r.1, .int .i64 r.2]) ⟨y1 (Result.enc.blw _ 0) (.refl _), y1 rfl (.refl _), trivial⟩, rfl⟩
  ·refine ⟨_, z0 (ys := [Result.av r.1, .int .i64 r.2]) ⟨y1 rfl ?_, y1 rfl (.refl _), trivial⟩, rfl⟩
   rw [e]
   exact .aggL ⟨.nil, .refl _, .refl _, .refl _, .refl _, .refl _, .refl _, trivial⟩)
 exact h1
end
end Go.Proofs.Ytnpemocpfdgaoaa

/- What ir.Check says, plainly. -/
namespace Go.Proofs.Ytnpemocpfdgaoaa
open Go Go.Ab Go.RowKit
set_option maxRecDepth 20000
theorem a1g {α : Type} {l : List α} {i : Nat} : u4 l (i : Int) = l[i]? := a7a l i
theorem a9R {α : Type} {l : List α} {k : Nat} {x : α} (hx : l[k]? = some x) : l.take (k + 1) = l.take k ++ [x] := by rw [List.take_add_one, hx]; rfl
def a3H (n : d8) : List Int :=
 if n.Op < 1 ∨ n.Op > 18 ∨ n.Op = 12 ∨ n.Op = 14 ∨ n.Op = 18 then [] else if n.Op = 9 ∧ n.Else ≠ n.Next then [n.Next, n.Else] else [n.Next]
theorem b7g (n : d8) : a1D n = some (a3H n) := by
 unfold a1D a3H
 simp only [jp, beq_iff_eq, decide_eq_true_eq, bne_iff_ne, ne_eq]
 by_cases h12 : n.Op = 12
 ·simp [h12]
 by_cases h14 : n.Op = 14
 ·simp [h14]
 by_cases h18 : n.Op = 18
 ·simp [h18]
 by_cases h9 : n.Op = 9
 ·by_cases he : n.Else = n.Next <;> simp [h9, he]
 by_cases h1 : n.Op < 1
 ·simp [h1, h12, h14, h18, h9]
 by_cases h2 : n.Op > 18 <;> simp [h1, h2, h12, h14, h18, h9]
theorem a9S (n : d8) : (a3H n).length ≤ 2 := by unfold a3H; repeat' split <;> simp
theorem a5M (l : List Int) (v : Int) (hl : l.length ≤ 4611686018427387904) : t8 l v = some (decide (v ∈ l)) := by
 unfold t8 a0b
 obtain ⟨o, e1, e2⟩ := b1S (n := (l.length : Int)) (s0 := v) (body := (fun (i_2 : Nat) (s_1 : Int) => (((u4 l (i_2 : Int)).bind fun y_3 => (if (s_1 == y_3) then (some (.ret (some (i_2 : Int)))) else (some (.nxt s_1)))) : Option (Stp Int (Option Int)))))
  (fun k s => s = v ∧ v ∉ l.take k) (fun o => match o with | .fin s => v ∉ l | .ret (some x) => v ∈ l ∧ 0 ≤ x | .ret none => False) zO ⟨rfl, by simp⟩ (fun i s hi hs => by
   obtain ⟨rfl, hs2⟩ := hs
   have hi2 : i < l.length := by omega
   simp only [a1g, List.getElem?_eq_getElem hi2, Option.bind_some, beq_iff_eq]
   by_cases e : s = l[i]
   ·right
    refine ⟨some (i : Int), by rw [if_pos e], by rw [e]; exact List.getElem_mem _, by omega⟩
   ·left
    refine ⟨s, by rw [if_neg e], rfl, ?_⟩
    rw [List.take_add_one, List.getElem?_eq_getElem hi2]
    intro hm
    rcases List.mem_append.1 hm with a | a
    ·exact hs2 a
    ·exact e (by simpa using a)) (fun s hs => by
   obtain ⟨rfl, h2⟩ := hs
   simpa using h2)
 rw [e1]
 cases o with
 | fin s => simp only [Option.bind_some, oc]; have e2' : v ∉ l := e2; simp [e2']
 | ret x =>
   cases x with
   | none => exact e2.elim
   | some x => obtain ⟨a, b⟩ := e2; simp only [Option.bind_some, oc]; simp [a, b]
def a6t (g : b9) (k p : Int) : Bool := decide (0 ≤ p ∧ p < g.Kinds.length) && (u4 g.Kinds p == some k)
def isB (g : b9) (k : Int) (ps : List Int) : Bool := ps.all (a6t g k)
theorem a9T (all : List b9) (g : b9) (k : Int) (ps : List Int) (hl : ps.length ≤ 4611686018427387904) : c9 all g false k ps = some (isB g k ps, all, g, false) := by
 unfold c9
 have := b2G (xs := ps) (s0 := (k, ps)) (body := (fun (i_2 : Nat) (p_3 : Int) (s_1 : (Int × (List Int))) => (((u4 s_1.2 (i_2 : Int)).bind fun y_5 => (jp (fun (s_7 : Bool) => (if s_7 then (some (.ret (some (false, all, g, false)))) else (some (.nxt (s_1.1, s_1.2))))) (fun k_6 => (if (decide (y_5 < 0)) then (k_6 true) else (if (decide (y_5 ≥ (List.length g.Kinds : Int))) then (k_6 true) else (if (!false) then ((u4 g.Kinds y_5).bind fun y_8 => (k_6 (y_8 != s_1.1))) else (k_6 false))))))) : Option (Stp (Int × (List Int)) (Option (Bool × (List b9) × b9 × Bool)))))) (a6t g k) (some (false, all, g, false)) (fun _ s => s = (k, ps)) hl rfl (fun i p s hx hs => by
  subst hs
  simp only [a1g, hx, Option.bind_some, jp, decide_eq_true_eq]
  by_cases h1 : p < 0
  ·have : a6t g k p = false := by unfold a6t; simp; omega
   simp [this, h1]
  by_cases h2 : p ≥ (List.length g.Kinds : Int)
  ·have : a6t g k p = false := by unfold a6t; simp; omega
   simp [this, h1, h2]
  obtain ⟨q, rfl⟩ : ∃ i : Nat, p = (i : Int) := ⟨p.toNat, by omega⟩
  have hq : q < g.Kinds.length := by omega
  have e : a6t g k (q : Int) = (g.Kinds[q] == k) := by
   unfold a6t
   rw [a1g, List.getElem?_eq_getElem hq]
   simp [hq]
  rw [e, if_neg h1, if_neg h2, a1g, List.getElem?_eq_getElem hq]
  simp only [Bool.not_false, if_true, Option.bind_some]
  by_cases h3 : g.Kinds[q] = k <;> simp [h3])
 unfold isB
 cases ha : ps.all (a6t g k) with
 | true =>
   rw [ha, if_pos rfl] at this
   obtain ⟨s, e1, e2⟩ := this
   rw [e1]; simp [oc]
 | false =>
   rw [ha] at this
   simp only [Bool.false_eq_true, if_false] at this
   rw [this]; simp [oc]
def a1j (g : b9) (n : Int) : Bool := decide (0 ≤ n ∧ n < g.Cells)
theorem a6u (all : List b9) (g : b9) (n : Int) : i9 all g false n = some (a1j g n, all, g, false) := by
 unfold i9 a1j
 simp only [jp, decide_eq_true_eq]
 by_cases h : n ≥ 0
 ·have h' : 0 ≤ n := h
  simp [h']
 ·have h' : ¬ 0 ≤ n := h
  simp [h']
theorem b1s (l : List Int) (hl : l.length ≤ 4611686018427387904) : j6 l = some (l.any fun k => decide (k > 1)) := by
 unfold j6 p6
 obtain ⟨o, e1, e2⟩ := b1S (n := (l.length : Int)) (s0 := ()) (body := (fun (i_2 : Nat) (s_1 : Unit) => (((u4 l (i_2 : Int)).bind fun y_3 => ((r5 y_3).bind fun v1_4 => (if v1_4 then (some (.ret (some (i_2 : Int)))) else (some (.nxt ()))))) : Option (Stp Unit (Option Int)))))
  (fun k s => (l.take k).any (fun k => decide (k > 1)) = false) (fun o => match o with | .fin s => l.any (fun k => decide (k > 1)) = false | .ret (some x) => l.any (fun k => decide (k > 1)) = true ∧ 0 ≤ x | .ret none => False) zO zS (fun i s hi hs => by
   have hi2 : i < l.length := by omega
   simp only [a1g, List.getElem?_eq_getElem hi2, Option.bind_some, r5]
   by_cases e : l[i] > 1
   ·right
    refine ⟨some (i : Int), by simp [e], ?_, by omega⟩
    rw [List.any_eq_true]; exact ⟨l[i], List.getElem_mem _, by simpa using e⟩
   ·left
    refine ⟨(), by simp [e], ?_⟩
    rw [a9R (List.getElem?_eq_getElem hi2), List.any_append, hs]
    simp [e]) (fun s hs => by simpa using hs)
 rw [e1]
 cases o with
 | fin s => simp only [Option.bind_some, oc]; have e2' : l.any (fun k => decide (k > 1)) = false := e2; rw [e2']; rfl
 | ret x =>
   cases x with
   | none => exact e2.elim
   | some x => obtain ⟨a, b⟩ := e2; simp only [Option.bind_some, oc]; rw [a]; simp [b]
def a1E {α : Type} (ok : Nat → α → Bool) : Nat → List α → Bool
 | _, [] => true
 | i, x :: r => ok i x && a1E ok (i + 1) r
theorem a2T {α σ ρ : Type} {body : Nat → α → σ → Option (Stp σ ρ)} (st : σ) (ok : Nat → α → Bool) (v : ρ) : ∀ (xs : List α) (k : Nat), (∀ i x, xs[i]? = some x → body (k + i) x st = some (if ok (k + i) x = true then .nxt st else .ret v)) →
  a0C body xs k st = some (if a1E ok k xs = true then .fin st else .ret v)
 | [], k, h => by simp [a0C, a1E]
 | x :: r, k, h => by
   have h0 := h 0 x rfl
   simp only [Nat.add_zero] at h0
   by_cases ho : ok k x = true
   ·rw [if_pos ho] at h0
    simp only [a0C, a1E, h0, ho, Bool.true_and]
    exact a2T st ok v r (k + 1) (fun i y hy => by
     have := h (i + 1) y (by simpa using hy)
     rwa [show k + (i + 1) = k + 1 + i by omega] at this)
   ·rw [if_neg ho] at h0
    simp only [a0C, a1E, h0]
    simp [ho]
theorem a1F {α σ β : Type} {body : Nat → α → σ → Option (Stp σ (Option β))} {xs : List α} {f : σ → Option β} (st : σ) (ok : Nat → α → Bool) (v : β) (hl : xs.length ≤ 4611686018427387904)
  (h : ∀ i x, xs[i]? = some x → body i x st = some (if ok i x = true then .nxt st else .ret (some v))) : (rng body xs st).bind (oc f) = if a1E ok 0 xs = true then f st else some v := by
 unfold rng
 rw [if_pos hl, a2T st ok (some v) xs 0 (fun i x hx => by simpa using h i x hx)]
 simp only [Option.bind_some]
 split <;> rfl
theorem a2v {α : Type} {ok : Nat → α → Bool} : ∀ {xs : List α} {k : Nat}, a1E ok k xs = true ↔ ∀ i x, xs[i]? = some x → ok (k + i) x = true
 | [], k => by simp [a1E]
 | x :: r, k => by
   simp only [a1E, Bool.and_eq_true, a2v (xs := r)]
   constructor
   ·rintro ⟨a, b⟩ i y hy
    cases i with
    | zero => simp at hy; subst hy; exact a
    | succ i =>
      have := b i y (by simpa using hy)
      rwa [show k + 1 + i = k + (i + 1) by omega] at this
   ·intro h
    refine ⟨by simpa using h 0 x rfl, fun i y hy => ?_⟩
    have := h (i + 1) y (by simpa using hy)
    rwa [show k + (i + 1) = k + 1 + i by omega] at this
theorem a5N {α σ β : Type} {body : Nat → σ → Option (Stp σ (Option β))} {xs : List α} {f : σ → Option β} (st : σ) (ok : Nat → α → Bool) (v : β) (hl : xs.length ≤ 4611686018427387904)
  (h : ∀ i x, xs[i]? = some x → body i st = some (if ok i x = true then .nxt st else .ret (some v))) : (rni body (xs.length : Int) st).bind (oc f) = if a1E ok 0 xs = true then f st else some v := by
 have e : rni body (xs.length : Int) st = rni (fun i s => xs[i]?.bind fun _ => body i s) xs.length st := by
  unfold rni
  rw [if_pos zO, if_pos zO, Int.toNat_natCast]
  have : ∀ (m k : Nat) (s : σ), k + m = xs.length → a0D body m k s = a0D (fun i s => xs[i]?.bind fun _ => body i s) m k s := by
   intro m
   induction m with
   | zero => intro k s _; rfl
   | succ m ih =>
     intro k s hk
     simp only [a0D]
     have : (xs[k]?.bind fun _ => body k s) = body k s := by
      rw [List.getElem?_eq_getElem zO]; simp
     simp only [this]
     cases body k s with
     | none => rfl
     | some c =>
       cases c with
       | nxt s' => exact ih (k + 1) s' zO
       | brk s' => rfl
       | ret v => rfl
  exact this xs.length 0 st zO
 have e2 : rng (fun i (_ : α) s => body i s) xs st = rni (fun i s => xs[i]?.bind fun x => body i s) xs.length st := a8O _ _ _
 rw [e, ← e2]
 exact a1F st ok v hl (fun i x hx => h i x hx)
def c2j (g f : b9) (i : Nat) (p : Int) : Bool := match f.Params[i]? with
 | none => false
 | some q => match u4 f.Kinds q with
   | some k => a6t g k p
   | none => false
def b1t (all : List b9) (g : b9) (n : d8) : Bool := match u4 all n.F with
 | none => false
 | some f => decide (n.Args.length = f.Params.length) && a1E (c2j g f) 0 n.Args
def b1u (g : b9) : Prop := ∀ x ∈ g.Params, 0 ≤ x ∧ x < g.Kinds.length
theorem b7h (all : List b9) (g : b9) (n : d8) (hp : ∀ f ∈ all, b1u f ∧ f.Params.length ≤ 4) : l0 all g false n = some (b1t all g n, all, g, false) := by
 unfold l0 b1t
 simp only [jp]
 by_cases h1 : n.F < 0
 ·have : u4 all n.F = none := by unfold u4; rw [if_neg zO]
  simp [h1, this]
 simp only [h1, decide_false, Bool.false_eq_true, if_false]
 obtain ⟨F, hF⟩ : ∃ i : Nat, n.F = (i : Int) := ⟨n.F.toNat, by omega⟩
 rw [hF, a1g]
 by_cases h2 : F < all.length
 ·rw [List.getElem?_eq_getElem h2]
  have h2' : ¬ ((F : Int) ≥ (all.length : Int)) := by omega
  simp only [h2', decide_false, Bool.false_eq_true, if_false, Option.bind_some]
  obtain ⟨hpF, hp4⟩ := hp _ (List.getElem_mem h2)
  generalize all[F] = f at hpF hp4
  by_cases h3 : n.Args.length = f.Params.length
  ·have h3' : ((n.Args.length : Int) != (f.Params.length : Int)) = false := by simp [h3]
   rw [h3']
   simp only [Bool.false_eq_true, if_false]
   refine (a1F (all, g, false) (c2j g f) (false, all, g, false) zO (fun i p hx => ?_)).trans ?_
   ·have hi : i < n.Args.length := (List.getElem?_eq_some_iff.1 hx).1
    have hip : i < f.Params.length := by omega
    have hr := hpF _ (List.getElem_mem hip)
    obtain ⟨q, hq⟩ : ∃ q : Nat, f.Params[i] = (q : Int) := ⟨f.Params[i].toNat, by omega⟩
    have hqk : q < f.Kinds.length := by omega
    simp only [Bool.not_false, if_true, a1g, List.getElem?_eq_getElem hip, Option.bind_some, hq, List.getElem?_eq_getElem hqk, c2j]
    rw [a9T _ _ _ _ zS]
    simp only [Option.bind_some, isB, List.all_cons, List.all_nil, Bool.and_true]
    cases a6t g f.Kinds[q] p <;> simp
   ·simp only [h3, decide_true, Bool.true_and]
    cases a1E (c2j g f) 0 n.Args <;> simp
  ·have h3' : ((n.Args.length : Int) != (f.Params.length : Int)) = true := by simp; omega
   rw [h3']
   simp [h3]
 ·have h2' : ((F : Int) ≥ (all.length : Int)) := by omega
  rw [List.getElem?_eq_none zO]
  simp [h2']
def b7L (g : b9) (i : Nat) (p : Int) : Bool := decide (0 ≤ p ∧ p < g.Kinds.length) && (!decide (p ∈ g.Params.take i) && (match g.Init[i]? with | none => false | some k => decide (k = -1) || (a1j g k && a6t g 0 p)))
def c5d (g : b9) : Bool := decide (1 ≤ g.Nodes.length ∧ g.Nodes.length ≤ 4096 ∧ 0 ≤ g.Entry ∧ g.Entry < g.Nodes.length)
def a2I (g : b9) : Bool := decide (g.Kinds.length ≤ 1024) && (!(g.Kinds.any fun k => decide (k > 1)) && (decide (g.Params.length ≤ 4) && (decide (g.Init.length = g.Params.length) && (decide (0 ≤ g.Cells ∧ g.Cells ≤ 64) && ((decide (g.Keep = -1) || a1j g g.Keep) && (a1E (b7L g) 0 g.Params && c5d g))))))
theorem b7i (all : List b9) (g : b9) : m7 all g false = some (a2I g, all, g, false) := by
 unfold m7 a2I
 simp only [jp]
 by_cases h1 : g.Kinds.length ≤ 1024
 case neg =>
  have h1' : (g.Kinds.length : Int) > 1024 := by omega
  simp [h1, h1']
 have h1' : ¬ ((g.Kinds.length : Int) > 1024) := by omega
 simp only [h1', decide_false, Bool.false_eq_true, if_false, b1s g.Kinds zO, Option.bind_some, h1, decide_true, Bool.true_and]
 cases h2 : g.Kinds.any fun k => decide (k > 1) with
 | true => simp
 | false =>
 simp only [Bool.false_eq_true, if_false, Bool.not_false, Bool.true_and]
 by_cases h3 : g.Params.length ≤ 4
 case neg =>
  have h3' : (g.Params.length : Int) > 4 := by omega
  simp [h3, h3']
 have h3' : ¬ ((g.Params.length : Int) > 4) := by omega
 simp only [h3', decide_false, Bool.false_eq_true, if_false, h3, decide_true, Bool.true_and]
 by_cases h4 : g.Init.length = g.Params.length
 case neg =>
  have h4' : ((g.Init.length : Int) != (g.Params.length : Int)) = true := by simp; omega
  simp [h4, h4']
 have h4' : ((g.Init.length : Int) != (g.Params.length : Int)) = false := by simp; omega
 simp only [h4', Bool.false_eq_true, if_false]
 simp only [h4, decide_true, Bool.true_and]
 by_cases h5 : 0 ≤ g.Cells
 case neg =>
  have h5' : g.Cells < 0 := by omega
  simp [h5, h5']
 have h5' : ¬ (g.Cells < 0) := by omega
 by_cases h6 : g.Cells ≤ 64
 case neg =>
  have h6' : g.Cells > 64 := by omega
  simp [h5', h6, h6']
 have h6' : ¬ (g.Cells > 64) := by omega
 simp only [h5', h6', decide_false, Bool.false_eq_true, if_false, h5, h6, and_self, decide_true, Bool.true_and]
 have hkeep : ∀ (F X : Option (Bool × List b9 × b9 × Bool)), (if (g.Keep != -1) = true then (if (!a1j g g.Keep) = true then F else X) else X) = if (!(decide (g.Keep = -1) || a1j g g.Keep)) = true then F else X := fun F X => by
  by_cases h7 : g.Keep = -1
  ·simp [h7]
  ·simp [h7]
 simp only [a6u, Option.bind_some]
 rw [hkeep]
 cases h7 : decide (g.Keep = -1) || a1j g g.Keep with
 | false => simp
 | true =>
 simp only [Bool.not_true, Bool.false_eq_true, if_false, Bool.true_and]
 refine (a1F (all, g, false) (b7L g) (false, all, g, false) zO (fun i p hx => ?_)).trans ?_
 ·have hi : i < g.Params.length := (List.getElem?_eq_some_iff.1 hx).1
  have hi2 : i < g.Init.length := by omega
  have hsub : b7G g.Params 0 (i : Int) = some (g.Params.take i) := by
   unfold b7G; rw [if_pos zO]; simp
  simp only [b7L, List.getElem?_eq_getElem hi2, hsub, Option.bind_some, a1g]
  by_cases q1 : 0 ≤ p
  case neg =>
   have q1' : p < 0 := by omega
   simp [q1, q1']
  have q1' : ¬ (p < 0) := by omega
  by_cases q2 : p < (g.Kinds.length : Int)
  case neg =>
   have q2' : p ≥ (g.Kinds.length : Int) := by omega
   simp [q1', q2, q2']
  have q2' : ¬ (p ≥ (g.Kinds.length : Int)) := by omega
  simp only [q1', q2', decide_false, Bool.false_eq_true, if_false, q1, q2, and_self, decide_true, Bool.true_and]
  rw [a5M _ _ zE]
  by_cases q3 : p ∈ g.Params.take i
  ·simp [q3]
  simp only [q3, decide_false, Option.bind_some, Bool.false_eq_true, if_false, Bool.not_false, Bool.true_and]
  by_cases q4 : g.Init[i] = -1
  ·simp [q4]
  have q4' : (g.Init[i] != -1) = true := by simpa using q4
  simp only [q4', if_true, a6u, Option.bind_some, q4, decide_false, Bool.false_or]
  cases q5 : a1j g g.Init[i] with
  | false => simp
  | true =>
    simp only [Bool.not_true, Bool.false_eq_true, if_false, a9T all g 0 [p] zS, Option.bind_some, isB, List.all_cons, List.all_nil, Bool.and_true, Bool.true_and]
    cases a6t g 0 p <;> simp
 ·cases a1E (b7L g) 0 g.Params with
  | false => simp
  | true =>
    simp only [if_true, Bool.true_and, c5d]
    by_cases r1 : 1 ≤ g.Nodes.length
    case neg =>
     have r1' : ¬ ((g.Nodes.length : Int) > 0) := by omega
     simp only [r1, r1', decide_false, Bool.false_eq_true, if_false, false_and]
    have r1' : (g.Nodes.length : Int) > 0 := by omega
    by_cases r2 : g.Nodes.length ≤ 4096
    case neg =>
     have r2' : ¬ ((g.Nodes.length : Int) ≤ 4096) := by omega
     simp only [r1', r2, r2', decide_true, decide_false, Bool.false_eq_true, if_true, if_false, false_and, and_false]
    have r2' : (g.Nodes.length : Int) ≤ 4096 := by omega
    by_cases r3 : 0 ≤ g.Entry
    case neg =>
     have r3' : ¬ (g.Entry ≥ 0) := by omega
     simp only [r1', r2', r3, r3', decide_true, decide_false, Bool.false_eq_true, if_true, if_false, false_and, and_false]
    have r3' : g.Entry ≥ 0 := r3
    simp only [r1, r1', r2, r2', r3, r3', decide_true, if_true, true_and]
def opB (all : List b9) (g : b9) (n : d8) : Bool :=
 if n.Op = 1 ∨ n.Op = 16 then isB g 0 [n.D] else if n.Op = 2 then isB g 0 [n.D, n.A] || isB g 1 [n.D, n.A] else if n.Op = 3 then decide (7 ≤ n.By ∧ n.By ≤ 20) && isB g 0 [n.D, n.A, n.B]
 else if n.Op = 4 then a1j g n.Cell && isB g 0 [n.D] else if n.Op = 5 then a1j g n.Cell && isB g 0 [n.A] else if n.Op = 6 then a1j g n.Cell && isB g 1 [n.D] else if n.Op = 7 then isB g 0 [n.D] && isB g 1 [n.A]
 else if n.Op = 8 then isB g 1 [n.A] && isB g 0 [n.B] else if n.Op = 10 then true else if n.Op = 9 ∨ n.Op = 14 ∨ n.Op = 18 ∨ n.Op = 17 then isB g 0 [n.A] else if n.Op = 15 then decide (n.D ≠ n.E) && isB g 0 [n.D, n.E]
 else if n.Op = 13 then b1t all g n else if n.Op = 11 then b1t all g n && (decide (n.D = -1) || (isB g 0 [n.D] && (match u4 all n.F with | some f => f.Result | none => false)))
 else if n.Op = 12 then (decide (n.A = -1) && !g.Result) || (decide (n.A ≠ -1) && (g.Result && isB g 0 [n.A])) else false
def a2w (all : List b9) (g : b9) (n : d8) : Bool := ((a3H n).all fun to => decide (0 ≤ to ∧ to < g.Nodes.length)) && opB all g n
theorem a3I {α : Type} {ok : α → Bool} : ∀ (xs : List α) (k : Nat), a1E (fun _ x => ok x) k xs = xs.all ok
 | [], _ => rfl
 | x :: r, k => by simp only [a1E, List.all_cons, a3I r]
theorem b7j (all : List b9) (g : b9) (n : d8) (hp : ∀ f ∈ all, b1u f ∧ f.Params.length ≤ 4) : m8 all g false n = some (a2w all g n, all, g, false) := by
 unfold m8 a2w
 rw [b7g]
 simp only [Option.bind_some]
 refine (a1F (xs := a3H n) () (fun _ to => decide (0 ≤ to ∧ to < g.Nodes.length)) (false, all, g, false) (by have := a9S n; omega) (fun i to hx => ?_)).trans ?_
 ·simp only [jp]
  by_cases q1 : 0 ≤ to
  case neg =>
   have q1' : to < 0 := by omega
   simp [q1, q1']
  have q1' : ¬ (to < 0) := by omega
  by_cases q2 : to < (g.Nodes.length : Int)
  case neg =>
   have q2' : to ≥ (g.Nodes.length : Int) := by omega
   simp [q1', q2, q2']
  have q2' : ¬ (to ≥ (g.Nodes.length : Int)) := by omega
  simp [q1, q1', q2, q2']
 rw [a3I]
 cases (a3H n).all fun to => decide (0 ≤ to ∧ to < g.Nodes.length) with
 | false => simp
 | true =>
 simp only [if_true, Bool.true_and]
 have i1 : ∀ k a, c9 all g false k [a] = some (isB g k [a], all, g, false) := fun k a => a9T _ _ _ _ zS
 have i2 : ∀ k a b, c9 all g false k [a, b] = some (isB g k [a, b], all, g, false) := fun k a b => a9T _ _ _ _ zS
 have i3 : ∀ k a b c, c9 all g false k [a, b, c] = some (isB g k [a, b, c], all, g, false) := fun k a b c => a9T _ _ _ _ zS
 have ia := b7h all g n hp
 simp only [jp, opB, i1, i2, i3, ia, a6u, Option.bind_some, beq_iff_eq]
 by_cases h1 : n.Op = 1
 ·simp [h1]
 by_cases h16 : n.Op = 16
 ·simp [h16]
 by_cases h2 : n.Op = 2
 ·simp only [h2]; cases isB g 0 [n.D, n.A] <;> simp
 by_cases h3 : n.Op = 3
 ·simp only [h3]
  by_cases q1 : n.By ≥ 7
  ·by_cases q2 : n.By ≤ 20
   ·have : 7 ≤ n.By := q1
    simp [q1, q2, this]
   ·simp [q1, q2]
  ·have : ¬ 7 ≤ n.By := q1
   simp [q1, this]
 by_cases h4 : n.Op = 4
 ·simp only [h4]; cases a1j g n.Cell <;> simp
 by_cases h5 : n.Op = 5
 ·simp only [h5]; cases a1j g n.Cell <;> simp
 by_cases h6 : n.Op = 6
 ·simp only [h6]; cases a1j g n.Cell <;> simp
 by_cases h7 : n.Op = 7
 ·simp only [h7]; cases isB g 0 [n.D] <;> simp
 by_cases h8 : n.Op = 8
 ·simp only [h8]; cases isB g 1 [n.A] <;> simp
 by_cases h10 : n.Op = 10
 ·simp [h10]
 by_cases h9 : n.Op = 9
 ·simp [h9]
 by_cases h14 : n.Op = 14
 ·simp [h14]
 by_cases h18 : n.Op = 18
 ·simp [h18]
 by_cases h17 : n.Op = 17
 ·simp [h17]
 by_cases h15 : n.Op = 15
 ·simp only [h15]
  by_cases q : n.D = n.E <;> simp [q]
 by_cases h13 : n.Op = 13
 ·simp [h13]
 by_cases h11 : n.Op = 11
 ·simp only [h11]
  cases ha : b1t all g n with
  | false => simp
  | true =>
    by_cases q : n.D = -1
    ·simp [q]
    ·cases hi : isB g 0 [n.D] with
     | false => simp [q]
     | true =>
       obtain ⟨f, hf⟩ : ∃ f, u4 all n.F = some f := by
        unfold b1t at ha
        cases e : u4 all n.F with
        | none => rw [e] at ha; cases ha
        | some f => exact ⟨f, rfl⟩
       cases hr : f.Result <;> simp [q, hf, hr]
 by_cases h12 : n.Op = 12
 ·simp only [h12]
  by_cases q : n.A = -1 <;> cases hr : g.Result <;> simp [q]
 simp [h1, h2, h3, h4, h5, h6, h7, h8, h9, h10, h11, h12, h13, h14, h15, h16, h17, h18]
def b1v (G : i7) : Bool := match G.Funcs[0]? with
 | some f => decide (f.Params.length = 0) && !f.Result
 | none => false
def a4s (G : i7) : Bool := decide (1 ≤ G.Funcs.length ∧ G.Funcs.length ≤ 16) && (b1v G && (G.Funcs.all a2I && G.Funcs.all fun f => f.Nodes.all (a2w G.Funcs f)))
theorem a1e {g : b9} (h : a2I g = true) : g.Kinds.length ≤ 1024 ∧ g.Params.length ≤ 4 ∧ b1u g ∧ 1 ≤ g.Nodes.length ∧ g.Nodes.length ≤ 4096 ∧ 0 ≤ g.Entry ∧ g.Entry < g.Nodes.length := by
 unfold a2I at h
 simp only [Bool.and_eq_true, decide_eq_true_eq] at h
 obtain ⟨h1, h2, h3, h4, h5, h6, h7, h8⟩ := h
 unfold c5d at h8
 simp only [decide_eq_true_eq] at h8
 refine ⟨h1, h3, fun x hx => ?_, h8⟩
 obtain ⟨i, hi⟩ := List.getElem?_of_mem hx
 have := a2v.1 h7 i x hi
 simp only [b7L, Bool.and_eq_true, decide_eq_true_eq] at this
 exact this.1
theorem a2k {α : Type} {ok : α → Bool} {xs : List α} : a1E (fun _ x => ok x) 0 xs = xs.all ok := a3I xs 0
theorem a7j (G : i7) : t9 G false = some (if a4s G = true then 0 else 70) := by
 unfold t9 a4s
 simp only [jp, beq_iff_eq]
 by_cases h1 : 1 ≤ G.Funcs.length
 case neg =>
  have h1' : (G.Funcs.length : Int) = 0 := by omega
  simp [h1, h1']
 have h1' : ¬ (G.Funcs.length : Int) = 0 := by omega
 rw [if_neg h1']
 by_cases h2 : G.Funcs.length ≤ 16
 case neg =>
  have h2' : (G.Funcs.length : Int) > 16 := by omega
  simp [h2, h2']
 have h2' : ¬ (G.Funcs.length : Int) > 16 := by omega
 obtain ⟨f0, hf0⟩ : ∃ f, G.Funcs[0]? = some f := ⟨_, List.getElem?_eq_getElem (show 0 < G.Funcs.length by omega)⟩
 have hg0 : u4 G.Funcs 0 = some f0 := by
  have := a1g (l := G.Funcs) (i := 0)
  rw [hf0] at this; exact this
 have hm : b1v G = (decide (f0.Params.length = 0) && !f0.Result) := by unfold b1v; rw [hf0]
 simp only [h2', decide_false, Bool.false_eq_true, if_false, hg0, Option.bind_some, h1, h2, and_self, decide_true, Bool.true_and, hm]
 by_cases h3 : f0.Params.length = 0
 case neg =>
  have h3' : (f0.Params.length : Int) > 0 := by omega
  simp [h3, h3']
 have h3' : ¬ (f0.Params.length : Int) > 0 := by omega
 simp only [h3', decide_false, Bool.false_eq_true, if_false, h3, decide_true, Bool.true_and]
 cases h4 : f0.Result with
 | true => simp
 | false =>
 simp only [Bool.false_eq_true, if_false, Bool.not_false, Bool.true_and]
 refine (a5N (xs := G.Funcs) () (fun _ f => a2I f) (70 : Int) zO (fun i f hx => ?_)).trans ?_
 ·simp only [a1g, hx, Option.bind_some, b7i]
  cases a2I f <;> simp
 rw [a2k]
 cases h5 : G.Funcs.all a2I with
 | false => simp
 | true =>
 simp only [if_true, Bool.true_and]
 have hh : ∀ f ∈ G.Funcs, a2I f = true := List.all_eq_true.1 h5
 have hp : ∀ f ∈ G.Funcs, b1u f ∧ f.Params.length ≤ 4 := fun f hf => ⟨(a1e (hh f hf)).2.2.1, (a1e (hh f hf)).2.1⟩
 refine (a5N (xs := G.Funcs) () (fun _ f => f.Nodes.all (a2w G.Funcs f)) (70 : Int) zO (fun i f hx => ?_)).trans ?_
 ·simp only [a1g, hx, Option.bind_some]
  have hn := a1e (hh f (List.mem_of_getElem? hx))
  refine (a1F (G.Funcs, f, false) (fun _ n => a2w G.Funcs f n) (Stp.ret (some (70 : Int))) zO (fun j n hy => ?_)).trans ?_
  ·simp only [b7j _ _ _ hp, Option.bind_some]
   cases a2w G.Funcs f n <;> simp
  ·rw [a2k]
   cases f.Nodes.all (a2w G.Funcs f) <;> simp
 ·rw [a2k]
  cases (G.Funcs.all fun f => f.Nodes.all (a2w G.Funcs f)) <;> simp
theorem a6v {G : i7} (h : a4s G = true) : G.Funcs.length ≤ 16 ∧ (∃ f, G.Funcs[0]? = some f ∧ f.Params = []) ∧ ∀ f ∈ G.Funcs, a2I f = true ∧ ∀ n ∈ f.Nodes, a2w G.Funcs f n = true := by
 unfold a4s at h
 simp only [Bool.and_eq_true, decide_eq_true_eq] at h
 obtain ⟨h1, h2, h3, h4⟩ := h
 refine ⟨h1.2, ?_, fun f hf => ⟨List.all_eq_true.1 h3 f hf, List.all_eq_true.1 (List.all_eq_true.1 h4 f hf)⟩⟩
 unfold b1v at h2
 split at h2
 ·rename_i f e
  simp only [Bool.and_eq_true, decide_eq_true_eq] at h2
  exact ⟨f, e, List.length_eq_zero_iff.1 h2.1⟩
 ·cases h2
end Go.Proofs.Ytnpemocpfdgaoaa

/- Runs of checked graphs, read free: frames, rows, what a panic and a return come to. -/
namespace Go.Proofs.Ytnpemocpfdgaoaa
open Go Go.Ab Go.RowKit
set_option maxRecDepth 20000
def WV (v : Int) : Prop := 0 ≤ v ∧ v < 18446744073709551616
theorem WV.zero : WV 0 := ⟨Int.le_refl _, by omega⟩
theorem WV.u (x : Int) : WV (IntKind.u64.wrap x) := by
 unfold WV
 simp [IntKind.wrap, IntKind.bits, IntKind.signed]
 omega
structure a3J (p : GP) : Prop where
 bd : p.bound = false
 hd : ∀ f ∈ p.Funcs, a2I f = true ∧ ∀ n ∈ f.Nodes, a2w p.Funcs f n = true
 imm : ∀ f ∈ p.Funcs, ∀ n ∈ f.Nodes, WV n.Imm
 al : ∀ f ∈ p.Funcs, ∀ n ∈ f.Nodes, n.Args.length < 100000000
 main : ∃ f, p.Funcs[0]? = some f ∧ f.Params = []
structure HF (g : b9) : Prop where
 kn : g.Kinds.length ≤ 1024
 pn : g.Params.length ≤ 4
 inl : g.Init.length = g.Params.length
 cl : 0 ≤ g.Cells ∧ g.Cells ≤ 64
 keep : g.Keep = -1 ∨ (0 ≤ g.Keep ∧ g.Keep < g.Cells)
 par : ∀ (i : Nat) (k : Int), g.Params[i]? = some k → (0 ≤ k ∧ k < g.Kinds.length) ∧ ∃ c, g.Init[i]? = some c ∧ (c = -1 ∨ (0 ≤ c ∧ c < g.Cells))
 ent : 0 ≤ g.Entry ∧ g.Entry < g.Nodes.length
theorem b7k {g : b9} (h : a2I g = true) : HF g := by
 have hf := a1e h
 unfold a2I at h
 simp only [Bool.and_eq_true, decide_eq_true_eq, Bool.or_eq_true] at h
 obtain ⟨h1, h2, h3, h4, h5, h6, h7, h8⟩ := h
 refine ⟨h1, h3, h4, h5, ?_, fun i k hk => ?_, ⟨hf.2.2.2.2.2.1, hf.2.2.2.2.2.2⟩⟩
 ·rcases h6 with h6 | h6
  ·exact .inl h6
  ·unfold a1j at h6; simp only [decide_eq_true_eq] at h6; exact .inr h6
 ·have := a2v.1 h7 i k hk
  simp only [Nat.zero_add, b7L, Bool.and_eq_true, decide_eq_true_eq] at this
  obtain ⟨q1, q2, q3⟩ := this
  refine ⟨q1, ?_⟩
  have hi : i < g.Init.length := by have := (List.getElem?_eq_some_iff.1 hk).1; omega
  rw [List.getElem?_eq_getElem hi] at q3
  simp only [Bool.or_eq_true, Bool.and_eq_true, decide_eq_true_eq] at q3
  refine ⟨_, List.getElem?_eq_getElem hi, ?_⟩
  rcases q3 with q3 | ⟨q3, _⟩
  ·exact .inl q3
  ·unfold a1j at q3; simp only [decide_eq_true_eq] at q3; exact .inr q3
theorem a3J.hf {p : GP} (G : a3J p) {f : b9} (h : f ∈ p.Funcs) : HF f := b7k (G.hd f h).1
structure a4V (p : GP) (f : SFr) : Prop where
 mem : f.f ∈ p.Funcs
 ll : f.lo.length = f.f.Kinds.length
 lw : ∀ v ∈ f.lo, WV v
 cl : (f.ce.length : Int) = f.f.Cells
 cw : ∀ v ∈ f.ce, WV v
 pc : 0 ≤ f.pc ∧ f.pc < f.f.Nodes.length
theorem a4R {l : List Int} {k : Nat} {v w : Int} (h : w ∈ l.set k v) (hl : ∀ x ∈ l, WV x) (hv : WV v) : WV w := by
 rcases List.mem_or_eq_of_mem_set h with h | h
 ·exact hl w h
 ·rw [h]; exact hv
theorem a4V.isP {p : GP} {f : SFr} (G : a3J p) (h : a4V p f) {k : Int} (hk : 0 ≤ k ∧ k < f.f.Kinds.length) : f.isP p k := ⟨fun e => (by rw [G.bd] at e; cases e), ⟨hk.1, (by rw [h.ll]; exact hk.2)⟩⟩
theorem a0U {p : GP} {f : SFr} (G : a3J p) (h : a4V p f) {k : Int} (hk : 0 ≤ k ∧ k < f.f.Kinds.length) : ∃ v, f.get p k = some v ∧ WV v := by
 unfold SFr.get
 rw [if_pos (h.isP G hk)]
 have : k.toNat < f.lo.length := by rw [h.ll]; omega
 exact ⟨_, List.getElem?_eq_getElem this, h.lw _ (List.getElem_mem _)⟩
theorem a1G {p : GP} {f : SFr} (G : a3J p) (h : a4V p f) {k v : Int} (hk : k < f.f.Kinds.length) (hv : WV v) : ∃ f', f.set p k v = some f' ∧ a4V p f' ∧ f'.f = f.f ∧ f'.pc = f.pc := by
 unfold SFr.set
 by_cases h0 : 0 ≤ k
 ·rw [if_pos h0, if_pos (h.isP G ⟨h0, hk⟩)]
  exact ⟨_, rfl, ⟨h.mem, by simp [h.ll], fun w hw => a4R hw h.lw hv, h.cl, h.cw, h.pc⟩, rfl, rfl⟩
 ·rw [if_neg h0]
  exact ⟨_, rfl, h, rfl, rfl⟩
theorem a6w {p : GP} {f : SFr} (G : a3J p) (h : a4V p f) : ∀ (l : List Int), (∀ k ∈ l, 0 ≤ k ∧ k < f.f.Kinds.length) → ∃ ag, a2h p f l = some ag ∧ ag.length = l.length ∧ ∀ v ∈ ag, WV v
 | [], _ => ⟨[], rfl, rfl, nofun⟩
 | k :: l, hk => by
   obtain ⟨v, h1, h2⟩ := a0U G h (hk k (.head _))
   obtain ⟨ag, h3, h4, h5⟩ := a6w G h l (fun k hk' => hk k (.tail _ hk'))
   refine ⟨v :: ag, by unfold a2h; rw [h1, h3]; rfl, by simp [h4], fun w hw => ?_⟩
   rcases List.mem_cons.1 hw with rfl | hw
   ·exact h2
   ·exact h5 w hw
theorem a9U {p : GP} (G : a3J p) {g : b9} (hg : HF g) {ag : List Int} (hal : ag.length = g.Params.length) (haw : ∀ v ∈ ag, WV v) : ∀ (ks : List Int) (i : Nat) (f : SFr), g.Params.drop i = ks → i + ks.length = g.Params.length → a4V p f → f.f = g → ∃ f', b1h p g ag i ks f = some f' ∧ a4V p f' ∧ f'.f = g
 | [], i, f, _, _, h, hf => ⟨f, rfl, h, hf⟩
 | k :: ks, i, f, hd, hil, h, hf => by
   have hk : g.Params[i]? = some k := by
    have h0 : (g.Params.drop i)[0]? = some k := by rw [hd]; rfl
    simpa using h0
   have hi : i < g.Params.length := (List.getElem?_eq_some_iff.1 hk).1
   obtain ⟨hr, c, hc, hcr⟩ := hg.par i k hk
   have ha : ag[i]? = some (ag[i]'zO) := List.getElem?_eq_getElem zO
   have hw := haw _ (List.getElem_mem (l := ag) (n := i) zO)
   obtain ⟨f1, e1, e2, e3, _⟩ := a1G G h (k := k) (by rw [hf]; exact hr.2) hw
   have hd2 : g.Params.drop (i + 1) = ks := by
    have := congrArg List.tail hd
    simpa using this
   have hil2 : i + 1 + ks.length = g.Params.length := by simp at hil; omega
   unfold b1h
   rw [ha, Option.bind_some, e1, Option.bind_some, hc, Option.bind_some]
   by_cases h0 : 0 ≤ c
   ·rw [if_pos h0]
    have hcl : c < (f1.ce.length : Int) := by rw [e2.cl, e3, hf]; omega
    rw [if_pos hcl]
    exact a9U G hg hal haw ks (i + 1) _ hd2 hil2 ⟨e2.mem, e2.ll, e2.lw, by rw [List.length_set]; exact e2.cl, fun w hw' => a4R hw' e2.cw hw, e2.pc⟩ (e3.trans hf)
   ·rw [if_neg h0]
    exact a9U G hg hal haw ks (i + 1) _ hd2 hil2 e2 (e3.trans hf)
theorem a7k {α : Type} {l : List α} {k : Int} {x : α} (h : u4 l k = some x) : x ∈ l := List.mem_of_getElem? (a0s h).2.2
theorem a4S {p : GP} (G : a3J p) {k : Int} {ag : List Int} {g : b9} (m : Nat) (hg : u4 p.Funcs k = some g) (hal : ag.length = g.Params.length) (haw : ∀ v ∈ ag, WV v) : ∃ f, a0T p k ag m = some f ∧ a4V p f := by
 have hf := G.hf (a7k hg)
 unfold a0T
 rw [hg, Option.bind_some, if_pos hf.cl.1]
 obtain ⟨f, h1, h2, _⟩ := a9U G hf hal haw g.Params 0 ⟨g, List.replicate g.Kinds.length 0, List.replicate g.Cells.toNat 0, g.Entry, (m : Int) - 1⟩ rfl zS
  ⟨a7k hg, by simp, fun v hv => by rw [List.eq_of_mem_replicate hv]; exact .zero, by have := hf.cl.1; simp; omega, fun v hv => by rw [List.eq_of_mem_replicate hv]; exact .zero, hf.ent⟩ rfl
 exact ⟨f, h1, h2⟩
def DOK (p : GP) (d : a0S) : Prop := ∃ g, u4 p.Funcs d.f = some g ∧ d.args.length = g.Params.length ∧ ∀ v ∈ d.args, WV v
structure FB (p : GP) (z : ARow) : Prop where
 fr : a4V p z.fr
 df : ∀ d ∈ z.df, DOK p d
 ret : WV z.ret
def c6h (y : ARow) : Prop := ∃ n, u4 y.fr.f.Nodes y.fr.pc = some n ∧ n.Op = 11
def RT (p : GP) : List ARow → Prop
 | [] => True
 | z :: r => FB p z ∧ (z.why = 0 → ∀ y t, r = y :: t → c6h y) ∧ RT p r
def w2 : List ARow → Nat
 | [] => 0
 | z :: r => (if z.why = 2 then 1 else 0) + w2 r
def dfS : List ARow → Nat
 | [] => 0
 | z :: r => z.df.length + dfS r
theorem a2J {z : ARow} {r : List ARow} : w2 (z :: r) = (if z.why = 2 then 1 else 0) + w2 r := rfl
theorem c2k : ∀ rows : List ARow, w2 rows ≤ rows.length
 | [] => Nat.le_refl _
 | z :: r => by have := c2k r; unfold w2; split <;> simp <;> omega
theorem c2l : ∀ {rows : List ARow} {z : ARow}, z ∈ rows → z.df.length ≤ dfS rows
 | x :: r, z, h => by
   unfold dfS
   rcases List.mem_cons.1 h with rfl | h
   ·omega
   ·have := c2l h; omega
theorem RT.mem {p} : ∀ {rows : List ARow} {z : ARow}, RT p rows → z ∈ rows → FB p z
 | x :: r, z, h, hm => by
   rcases List.mem_cons.1 hm with rfl | hm
   ·exact h.1
   ·exact h.2.2.mem hm
theorem a9V {p : GP} (G : a3J p) {z : ARow} {r : List ARow} {x : a0S} {df : List a0S} {w : Int} (hw : w ≠ 0) (hz : z.df = x :: df) (h : RT p (z :: r)) :
  ∃ f, a0T p x.f x.args (r.length + 2) = some f ∧ RT p (⟨f, w, [], 0⟩ :: { z with df := df } :: r) := by
 obtain ⟨g, hg, ha, haw⟩ := h.1.df x (by rw [hz]; exact .head _)
 obtain ⟨f, h1, h2⟩ := a4S G (r.length + 2) hg ha haw
 exact ⟨f, h1, ⟨h2, nofun, .zero⟩, fun e => absurd e hw, ⟨h.1.fr, fun d hd => h.1.df d (by rw [hz]; exact .tail _ hd), h.1.ret⟩, h.2.1, h.2.2⟩
structure UOK (p : GP) (rows : List ARow) (u : Option Int × List ARow × List s4) : Prop where
 go : u.1 = none → u.2.1 ≠ [] ∧ RT p u.2.1 ∧ u.2.2.length = w2 u.2.1 ∧ dfS u.2.1 + 1 = dfS rows ∧ ∀ a ∈ u.2.2, WV a.v
 len : u.2.1.length ≤ rows.length + 1
theorem a3K {p : GP} (G : a3J p) : ∀ (rows : List ARow) (ps : List s4), rows ≠ [] → RT p rows → ps.length = w2 rows + 1 → (∀ a ∈ ps, WV a.v) → ∃ u, s5 p rows ps = some u ∧ UOK p rows u
 | [], _, h, _, _, _ => absurd rfl h
 | z :: r, ps, _, h, hp, hv => by
   cases hz : z.df with
   | cons x df =>
     obtain ⟨f, h1, h3⟩ := a9V G (w := 2) zD hz h
     refine ⟨(none, ⟨f, 2, [], 0⟩ :: { z with df := df } :: r, ps), ?_, fun _ => ⟨by simp, h3, ?_, ?_, hv⟩, ?_⟩
     ·unfold s5; rw [hz]; simp only [h1, Option.bind_some]
     ·rw [hp]; show w2 (z :: r) + 1 = (if (2 : Int) = 2 then 1 else 0) + ((if z.why = 2 then 1 else 0) + w2 r); rw [a2J]; simp; omega
     ·show ([] : List a0S).length + (df.length + dfS r) + 1 = z.df.length + dfS r; rw [hz]; simp; omega
     ·simp
   | nil =>
     obtain ⟨q, hq, hql, hqv⟩ : ∃ q, b7H z.why ps = some q ∧ q.length = w2 r + 1 ∧ ∀ a ∈ q, WV a.v := by
      rw [a2J] at hp
      unfold b7H
      split
      ·rename_i hw
       rw [if_pos hw] at hp
       match ps, hp with
       | [], hp => simp at hp
       | [a], hp => simp at hp
       | a :: b :: l, hp => exact ⟨a :: l, rfl, by simp at hp ⊢; omega, fun x hx => hv x ((List.mem_cons.1 hx).elim (fun e => e ▸ .head _) (fun e => .tail _ (.tail _ e)))⟩
      ·rename_i hw
       rw [if_neg hw] at hp
       exact ⟨ps, rfl, by omega, hv⟩
     cases r with
     | nil =>
       cases q with
       | nil => simp at hql
       | cons a l =>
         refine ⟨(some a.v, [], a :: l), ?_, nofun, by simp⟩
         unfold s5; rw [hz]; simp only [hq, Option.bind_some]; rfl
     | cons y t =>
       obtain ⟨u, h1, h2⟩ := a3K G (y :: t) q zS h.2.2 hql hqv
       refine ⟨u, ?_, fun e => ?_, ?_⟩
       ·unfold s5; rw [hz]; simp only [hq, Option.bind_some]; exact h1
       ·obtain ⟨a1, a2, a3, a4, a5⟩ := h2.go e
        refine ⟨a1, a2, a3, ?_, a5⟩
        rw [a4]; show _ = z.df.length + _; rw [hz]; simp
       ·have := h2.len; simp at this ⊢; omega
theorem a3L {g : b9} {k p : Int} (h : a6t g k p = true) : 0 ≤ p ∧ p < g.Kinds.length := by
 unfold a6t at h; simp only [Bool.and_eq_true, decide_eq_true_eq] at h; exact h.1
theorem is1 {g : b9} {k a : Int} (h : isB g k [a] = true) : 0 ≤ a ∧ a < g.Kinds.length := by
 unfold isB at h; simp only [List.all_cons, List.all_nil, Bool.and_true] at h; exact a3L h
theorem is2 {g : b9} {k a b : Int} (h : isB g k [a, b] = true) : (0 ≤ a ∧ a < g.Kinds.length) ∧ (0 ≤ b ∧ b < g.Kinds.length) := by
 unfold isB at h; simp only [List.all_cons, List.all_nil, Bool.and_true, Bool.and_eq_true] at h; exact ⟨a3L h.1, a3L h.2⟩
theorem is3 {g : b9} {k a b c : Int} (h : isB g k [a, b, c] = true) : (0 ≤ a ∧ a < g.Kinds.length) ∧ (0 ≤ b ∧ b < g.Kinds.length) ∧ (0 ≤ c ∧ c < g.Kinds.length) := by
 unfold isB at h; simp only [List.all_cons, List.all_nil, Bool.and_true, Bool.and_eq_true] at h; exact ⟨a3L h.1, a3L h.2.1, a3L h.2.2⟩
theorem a9W {all : List b9} {g : b9} {n : d8} (h : b1t all g n = true) : ∃ f, u4 all n.F = some f ∧ n.Args.length = f.Params.length ∧ ∀ k ∈ n.Args, 0 ≤ k ∧ k < g.Kinds.length := by
 unfold b1t at h
 split at h
 ·cases h
 ·rename_i f e
  simp only [Bool.and_eq_true, decide_eq_true_eq] at h
  refine ⟨f, e, h.1, fun k hk => ?_⟩
  obtain ⟨i, hi⟩ := List.getElem?_of_mem hk
  have := a2v.1 h.2 i k hi
  unfold c2j at this
  split at this
  ·cases this
  ·split at this
   ·exact a3L this
   ·cases this
theorem a9X {p : GP} (G : a3J p) {f : SFr} (h : a4V p f) : ∃ n, u4 f.f.Nodes f.pc = some n ∧ n ∈ f.f.Nodes ∧ a2w p.Funcs f.f n = true ∧ WV n.Imm := by
 have hl : f.pc.toNat < f.f.Nodes.length := by have := h.pc; omega
 have hg : u4 f.f.Nodes f.pc = some f.f.Nodes[f.pc.toNat] := by unfold u4; rw [if_pos h.pc.1]; exact List.getElem?_eq_getElem hl
 exact ⟨_, hg, List.getElem_mem _, (G.hd _ h.mem).2 _ (List.getElem_mem _), G.imm _ h.mem _ (List.getElem_mem _)⟩
theorem a9Y {all : List b9} {g : b9} {n : d8} (h : a2w all g n = true) : (∀ to ∈ a3H n, 0 ≤ to ∧ to < g.Nodes.length) ∧ opB all g n = true := by
 unfold a2w at h
 simp only [Bool.and_eq_true, List.all_eq_true, decide_eq_true_eq] at h
 exact h
theorem b7l {all : List b9} {g : b9} {n : d8} (h : a2w all g n = true) (ho : n.Op = 11) : b1t all g n = true ∧ n.D < g.Kinds.length ∧ (0 ≤ n.Next ∧ n.Next < g.Nodes.length) := by
 obtain ⟨h1, h2⟩ := a9Y h
 have hx : n.Next ∈ a3H n := by unfold a3H; simp [ho]
 unfold opB at h2
 simp [ho] at h2
 refine ⟨h2.1, ?_, h1 _ hx⟩
 rcases h2.2 with h3 | ⟨h3, _⟩
 ·omega
 ·exact (is1 h3).2
theorem b7m {p : GP} (G : a3J p) {f : SFr} (h : a4V p f) {v : Int} (hv : WV v) {n : d8} (hn : u4 f.f.Nodes f.pc = some n) (ho : n.Op = 11) : ∃ f', f.back p v = some f' ∧ a4V p f' := by
 obtain ⟨n', h1, h2, h3, _⟩ := a9X G h
 rw [hn] at h1; cases h1
 obtain ⟨c1, c2, c3⟩ := b7l h3 ho
 obtain ⟨g, hg, _⟩ := a9W c1
 obtain ⟨f1, e1, e2, e3, e4⟩ := a1G G h c2 hv
 refine ⟨{ f1 with pc := n.Next }, ?_, ⟨e2.mem, e2.ll, e2.lw, e2.cl, e2.cw, by rw [e3]; exact c3⟩⟩
 unfold SFr.back
 rw [G.bd, if_neg zS, hn, Option.bind_some, hg, Option.bind_some, e1]; rfl
structure ROK (p : GP) (rows : List ARow) (u : RO) : Prop where
 en : ∀ e, u.en = some e → e.1 ≠ 0
 go : u.en = none → u.A ≠ [] ∧ RT p u.A ∧ u.ps.length = w2 u.A ∧ dfS u.A + (if u.push = true then 1 else 0) = dfS rows ∧ ∀ a ∈ u.ps, WV a.v
 len : u.A.length ≤ rows.length + 1
theorem a9Z {p : GP} (G : a3J p) : ∀ (r : List ARow) (z : ARow) (ps : List s4), RT p (z :: r) → ps.length = w2 (z :: r) → (∀ a ∈ ps, WV a.v) → ∃ u, a3B p z r ps = some u ∧ ROK p (z :: r) u
 | r, z, ps, h, hp, hv => by
   cases hz : z.df with
   | cons x df =>
     obtain ⟨f, h1, h3⟩ := a9V G (w := 1) zD hz h
     refine ⟨⟨none, true, ⟨f, 1, [], 0⟩ :: { z with df := df } :: r, ps⟩, ?_, nofun, fun _ => ⟨by simp, h3, ?_, ?_, hv⟩, ?_⟩
     ·unfold a3B; rw [hz]; simp only [h1, Option.bind_some]
     ·rw [hp]; show w2 (z :: r) = (if (1 : Int) = 2 then 1 else 0) + ((if z.why = 2 then 1 else 0) + w2 r); rw [a2J]; simp
     ·show ([] : List a0S).length + (df.length + dfS r) + 1 = z.df.length + dfS r; rw [hz]; simp; omega
     ·simp
   | nil =>
     cases r with
     | nil => exact ⟨⟨some (1, 0), false, [], ps⟩, by unfold a3B; rw [hz], fun e he => by cases he; decide, nofun, by simp⟩
     | cons y t =>
       obtain ⟨hF, hW, hy⟩ := h
       by_cases h0 : z.why = 0
       ·obtain ⟨n, b1, b2⟩ := hW h0 y t rfl
        obtain ⟨f', hb, hf'⟩ := b7m G hy.1.fr hF.ret b1 b2
        refine ⟨⟨none, false, { y with fr := f' } :: t, ps⟩, ?_, nofun, fun _ => ⟨by simp, ?_, ?_, ?_, hv⟩, by simp⟩
        ·unfold a3B; rw [hz]; simp only; rw [if_pos h0, hb]; rfl
        ·exact ⟨⟨hf', hy.1.df, hy.1.ret⟩, hy.2.1, hy.2.2⟩
        ·rw [hp]; show (if z.why = 2 then 1 else 0) + w2 (y :: t) = w2 (y :: t); rw [if_neg zO]; simp
        ·show dfS (y :: t) + 0 = z.df.length + dfS (y :: t); rw [hz]; simp
       by_cases h2 : z.why = 2
       ·have hp' : ps.length = 1 + w2 (y :: t) := by rw [hp]; show (if z.why = 2 then 1 else 0) + _ = _; rw [if_pos h2]
        cases ps with
        | nil => simp at hp'; omega
        | cons a l =>
        have hl : l.length = w2 (y :: t) := by simp at hp'; omega
        cases ha : a.rcv with
        | true =>
          obtain ⟨v, hkv, hvv⟩ : ∃ v, a7G y.fr = some v ∧ WV v := by
           unfold a7G
           split
           ·exact ⟨0, rfl, .zero⟩
           ·rename_i hk0
            have hk := (G.hf hy.1.fr.mem).keep
            have hc := hy.1.fr.cl
            have hlt : y.fr.f.Keep.toNat < y.fr.ce.length := by omega
            exact ⟨_, by unfold u4; rw [if_pos zO]; exact List.getElem?_eq_getElem hlt, hy.1.fr.cw _ (List.getElem_mem _)⟩
          obtain ⟨u, e1, e2⟩ := a9Z G t { y with ret := v } l ⟨⟨hy.1.fr, hy.1.df, hvv⟩, hy.2.1, hy.2.2⟩ hl (fun x hx => hv x (.tail _ hx))
          refine ⟨u, ?_, e2.en, fun e => ?_, ?_⟩
          ·unfold a3B; rw [hz]; simp only; rw [if_neg h0, if_pos h2, ha, if_pos rfl, hkv, Option.bind_some]; exact e1
          ·obtain ⟨a1, a2, a3, a4, a5⟩ := e2.go e
           refine ⟨a1, a2, a3, ?_, a5⟩
           rw [a4]; show dfS (y :: t) = z.df.length + dfS (y :: t); rw [hz]; simp
          ·have := e2.len; simp at this ⊢; omega
        | false =>
          obtain ⟨w, e1, e2⟩ := a3K G (y :: t) (a :: l) zS hy (by simp [hl]) hv
          refine ⟨⟨w.1.map fun v => (2, v), w.1.isNone, w.2.1, w.2.2⟩, ?_, fun e he => by (cases hw1 : w.1 <;> rw [hw1] at he <;> cases he; show (2 : Int) ≠ 0; decide), fun e => ?_, ?_⟩
          ·unfold a3B; rw [hz]; simp only; rw [if_neg h0, if_pos h2, ha, if_neg zS, e1]; rfl
          ·have hn : w.1 = none := by simpa using e
           obtain ⟨a1, a2, a3, a4, a5⟩ := e2.go hn
           refine ⟨a1, a2, a3, ?_, a5⟩
           rw [hn]
           show dfS w.2.1 + 1 = z.df.length + dfS (y :: t)
           rw [a4, hz]; simp
          ·have := e2.len; simp at this ⊢; omega
       ·obtain ⟨u, e1, e2⟩ := a9Z G t y ps hy (by rw [hp]; show (if z.why = 2 then 1 else 0) + _ = _; rw [if_neg h2]; simp) hv
        refine ⟨u, ?_, e2.en, fun e => ?_, ?_⟩
        ·unfold a3B; rw [hz]; simp only; rw [if_neg h0, if_neg h2]; exact e1
        ·obtain ⟨a1, a2, a3, a4, a5⟩ := e2.go e
         refine ⟨a1, a2, a3, ?_, a5⟩
         rw [a4]; show dfS (y :: t) = z.df.length + dfS (y :: t); rw [hz]; simp
        ·have := e2.len; simp at this ⊢; omega
 termination_by r => r.length
end Go.Proofs.Ytnpemocpfdgaoaa

/- Runs of checked graphs: each step can be taken. -/
namespace Go.Proofs.Ytnpemocpfdgaoaa
open Go Go.Ab Go.RowKit
set_option maxRecDepth 20000
theorem bWV {b : Bool} : WV (if b then 1 else 0) := by cases b <;> exact ⟨by decide, by decide⟩
theorem b0a (b : Bool) : a0n b = some (if b then 1 else 0) := by cases b <;> rfl
theorem c2m {a b : Int} (h : WV a) : WV (shR .u64 a b) := by
 unfold shR
 obtain ⟨h1, h2⟩ := h
 rw [Int.fdiv_eq_ediv_of_nonneg _ (Int.pow_nonneg zD)]
 exact ⟨Int.ediv_nonneg h1 (Int.pow_nonneg zD), Int.lt_of_le_of_lt (Int.ediv_le_self _ h1) h2⟩
theorem c5e {op a b : Int} (ha : WV a) (hb : WV b) : ∃ v e, a0t op a b = some (v, e) ∧ WV v := by
 unfold a0t jp
 by_cases h7 : op = 7
 ·exact ⟨_, _, by simp [h7]; exact ⟨rfl, rfl⟩, .u _⟩
 by_cases h8 : op = 8
 ·exact ⟨_, _, by simp [h8]; exact ⟨rfl, rfl⟩, .u _⟩
 by_cases h9 : op = 9
 ·exact ⟨_, _, by simp [h9]; exact ⟨rfl, rfl⟩, .u _⟩
 by_cases hd : op = 10 ∨ op = 11
 ·have hdiv : ∀ x y : Int, ∃ v e, z3 op x y = some (v, e) ∧ WV v := fun x y => by
   unfold z3
   by_cases h0 : y = 0
   ·exact ⟨0, 10, by simp [h0], .zero⟩
   ·have hg : gd (y ≠ 0) = (id : Option (Int × Int) → Option (Int × Int)) := by funext q; unfold gd; rw [if_pos h0]; rfl
    rcases hd with h | h
    ·exact ⟨_, _, by simp [h0, h, gd]; exact ⟨rfl, rfl⟩, .u _⟩
    ·exact ⟨_, _, by simp [h0, h, gd]; exact ⟨rfl, rfl⟩, .u _⟩
  obtain ⟨v, e, h1, h2⟩ := hdiv (I64 a) (I64 b)
  refine ⟨v, e, ?_, h2⟩
  rcases hd with h | h
  ·subst h; simp [h1]
  ·subst h; simp [h1]
 have h10 : op ≠ 10 := fun h => hd (.inl h)
 have h11 : op ≠ 11 := fun h => hd (.inr h)
 by_cases h12 : op = 12
 ·exact ⟨_, _, by simp [h12]; exact ⟨rfl, rfl⟩, .u _⟩
 by_cases h13 : op = 13
 ·exact ⟨_, _, by simp [h13]; exact ⟨rfl, rfl⟩, .u _⟩
 by_cases h14 : op = 14
 ·exact ⟨_, _, by simp [h14]; exact ⟨rfl, rfl⟩, .u _⟩
 by_cases h15 : op = 15
 ·exact ⟨_, _, by simp [h15, gd, hb.1]; exact ⟨rfl, rfl⟩, .u _⟩
 by_cases h16 : op = 16
 ·exact ⟨_, _, by simp [h16, gd, hb.1]; exact ⟨rfl, rfl⟩, c2m ha⟩
 by_cases h17 : op = 17
 ·have h0 : 0 ≤ (if 63 < b then 63 else b) := by have := hb.1; split <;> omega
  exact ⟨_, _, by simp [h17, gd, h0]; exact ⟨rfl, rfl⟩, .u _⟩
 by_cases h18 : op = 18
 ·exact ⟨if a == b then 1 else 0, 0, by simp [h18, b0a], bWV⟩
 by_cases h19 : op = 19
 ·exact ⟨if decide (I64 a < I64 b) then 1 else 0, 0, by simp [h19, b0a], bWV⟩
 by_cases h20 : op = 20
 ·exact ⟨if decide (a < b) then 1 else 0, 0, by simp [h20, b0a], bWV⟩
 exact ⟨0, 2, by simp [h7, h8, h9, h10, h11, h12, h13, h14, h15, h16, h17, h18, h19, h20], .zero⟩

theorem b0b {x m : Int} (hm : 0 ≤ m ∧ m < 4294967296) : 0 ≤ IntKind.i64.wrap (IntKind.u64.wrap ↑(BitVec.ofInt IntKind.u64.bits x &&& BitVec.ofInt IntKind.u64.bits m).toNat) := by
 rw [BitVec.toNat_and]
 have e4 : IntKind.u64.bits = 64 := rfl
 rw [e4]
 obtain ⟨n, rfl⟩ : ∃ n : Nat, m = (n : Int) := ⟨m.toNat, by omega⟩
 have h1 : (BitVec.ofInt 64 (n : Int)).toNat = n := by
  rw [BitVec.ofInt_natCast, BitVec.toNat_ofNat]; exact Nat.mod_eq_of_lt zO
 rw [h1]
 have h2 : (BitVec.ofInt 64 x).toNat &&& n ≤ n := Nat.and_le_right
 generalize (BitVec.ofInt 64 x).toNat &&& n = y at h2
 rw [show IntKind.u64.wrap (y : Int) = (y : Int) from a7b (x := (y : Int)) zO, a0B zO]
 omega
theorem b7n (pt : Int) : 0 ≤ a6p pt := b0b zO
theorem b7o (pt : Int) : 0 ≤ b1Y pt := b0b zO
theorem b0c (rows : List ARow) (pt : Int) : ∃ c, a2X rows pt = some c ∧ ∀ i k, c = some (i, k) → ∃ y w, rows.reverse[i]? = some y ∧ y.fr.ce[k]? = some w := by
 unfold a2X
 by_cases h1 : (b7I pt != 16384) = true
 ·rw [if_pos h1]; exact ⟨none, rfl, nofun⟩
 rw [if_neg h1]
 by_cases h2 : (rows.length : Int) ≤ a6p pt
 ·rw [if_pos h2]; exact ⟨none, rfl, nofun⟩
 have hi := b7n pt
 have hk := b7o pt
 rw [if_neg h2, if_neg zO]
 have hlt : (a6p pt).toNat < rows.reverse.length := by rw [List.length_reverse]; omega
 rw [List.getElem?_eq_getElem hlt, Option.bind_some]
 split
 ·exact ⟨none, rfl, nofun⟩
 ·rename_i h3
  refine ⟨_, rfl, fun i k e => ?_⟩
  cases e
  exact ⟨_, _, List.getElem?_eq_getElem hlt, List.getElem?_eq_getElem zO⟩
structure a1H (p : GP) (n : Nat) (s : AS) : Prop where
 top : s.rows ≠ []
 rt : RT p s.rows
 pn : s.pans.length = w2 s.rows
 pv : ∀ a ∈ s.pans, WV a.v
 lv : s.live = (dfS s.rows : Int)
 lv2 : s.live ≤ n
 rn : s.rows.length ≤ n + 1
 dep : 0 ≤ s.depth ∧ s.depth ≤ n + 1
 ev : s.evs.length ≤ n
 tape : ∀ v ∈ s.tape, WV v
section
variable {p : GP} {n : Nat} {s : AS} {z : ARow} {r : List ARow}
theorem a3M (T : a1H p n s) (hs : s.rows = z :: r) {s' : AS} {f' : SFr} {df : List a0S} (hf : a4V p f') (hrows : s'.rows = ⟨f', z.why, df, z.ret⟩ :: r) (hdf : ∀ d ∈ df, DOK p d)
  (hpans : s'.pans.length = s.pans.length) (hpv : ∀ a ∈ s'.pans, WV a.v) (hlive : s'.live + z.df.length = s.live + df.length) (hl2 : s'.live ≤ s.live + 1) (hdep : s'.depth = s.depth) (hev : s'.evs.length ≤ n + 1) (htape : ∀ v ∈ s'.tape, WV v) : a1H p (n + 1) s' := by
 have hz := T.rt
 rw [hs] at hz
 have hlv := T.lv
 have hl3 := T.lv2
 have hrn := T.rn
 have hd := T.dep
 rw [hs] at hlv hrn
 have hd1 : dfS (z :: r) = z.df.length + dfS r := rfl
 have hrl : (z :: r).length = r.length + 1 := rfl
 refine ⟨by rw [hrows]; simp, ?_, ?_, hpv, ?_, by omega, by rw [hrows]; show r.length + 1 ≤ _; omega, by omega, hev, htape⟩
 ·rw [hrows]; exact ⟨⟨hf, hdf, hz.1.ret⟩, hz.2.1, hz.2.2⟩
 ·rw [hpans, T.pn, hs, hrows]; rfl
 ·rw [hrows]; show _ = ((df.length + dfS r : Nat) : Int); omega
theorem a3X (T : a1H p n s) (hs : s.rows = z :: r) {f' : SFr} (hf : a4V p f') : a1H p (n + 1) (goA s z r f') := by
 have hz := T.rt
 rw [hs] at hz
 have hev := T.ev
 exact a3M T hs hf rfl hz.1.df rfl T.pv rfl (by show s.live ≤ _; omega) rfl (by show s.evs.length ≤ _; omega) T.tape
theorem a7l (G : a3J p) (T : a1H p n s) (hs : s.rows = z :: r) {v : Int} (hv : WV v) :
  ∃ b, a9N p s (z :: r) v = some b ∧ b.evs.length ≤ n + 1 ∧ (b.ek = 0 → a1H p (n + 1) b) := by
 have hz := T.rt
 rw [hs] at hz
 obtain ⟨u, h1, h2⟩ := a3K G (z :: r) (⟨v, false⟩ :: s.pans) zS hz (by rw [List.length_cons, T.pn, hs]) (fun a ha => (List.mem_cons.1 ha).elim (fun e => by rw [e]; exact hv) (T.pv a))
 unfold a9N
 rw [h1]
 have hev := T.ev
 refine ⟨_, rfl, by show s.evs.length ≤ _; omega, fun hk => ?_⟩
 have hn : u.1 = none := by
  cases hu : u.1 with
  | none => rfl
  | some w => simp only [hu, Option.isSome_some, if_true] at hk; cases hk
 obtain ⟨a1, a2, a3, a4, a5⟩ := h2.go hn
 have hl := h2.len
 have hrn := T.rn
 have hd := T.dep
 have hlv := T.lv
 have hl2 := T.lv2
 rw [hs] at hrn hlv
 simp only [List.length_cons] at hl hrn
 refine ⟨a1, a2, a3, a5, ?_, ?_, ?_, ?_, by show s.evs.length ≤ _; omega, T.tape⟩
 ·simp only [hn, Option.isSome_none]
  simp; omega
 ·simp only [hn, Option.isSome_none]
  simp; omega
 ·show u.2.1.length ≤ _; omega
 ·simp only [hn, Option.isSome_none]
  simp; omega
theorem b7p (G : a3J p) (T : a1H p n s) (hs : s.rows = z :: r) {v : Int} (hv : WV v) :
  ∃ u, a3B p { z with ret := v } r s.pans = some u ∧ (u.en.elim s.ek (·.1) = 0 → a1H p (n + 1) { s with rows := u.A, pans := u.ps, ek := u.en.elim s.ek (·.1), ev := u.en.elim s.ev (·.2), depth := if u.push then max s.depth (u.A.length : Int) else s.depth, live := if u.push then s.live - 1 else s.live }) := by
 have hz := T.rt
 rw [hs] at hz
 have hRT : RT p ({ z with ret := v } :: r) := ⟨⟨hz.1.fr, hz.1.df, hv⟩, hz.2.1, hz.2.2⟩
 have hw : w2 ({ z with ret := v } :: r) = w2 (z :: r) := rfl
 have hdd : dfS ({ z with ret := v } :: r) = dfS (z :: r) := rfl
 obtain ⟨u, h1, h2⟩ := a9Z G r { z with ret := v } s.pans hRT (by rw [hw, T.pn, hs]) T.pv
 refine ⟨u, h1, fun hk => ?_⟩
 have hn : u.en = none := by
  cases hu : u.en with
  | none => rfl
  | some e => rw [hu] at hk; exact absurd hk (h2.en e hu)
 obtain ⟨a1, a2, a3, a4, a5⟩ := h2.go hn
 have hl := h2.len
 have hrn := T.rn
 have hd := T.dep
 have hlv := T.lv
 have hl2 := T.lv2
 have hev := T.ev
 rw [hs] at hrn hlv
 rw [hdd] at a4
 simp only [List.length_cons] at hl hrn
 refine ⟨a1, a2, a3, a5, ?_, ?_, ?_, ?_, by show s.evs.length ≤ _; omega, T.tape⟩
 ·show (if u.push then s.live - 1 else s.live) = ((dfS u.A : Nat) : Int)
  split
  ·rename_i hp; rw [if_pos hp] at a4; omega
  ·rename_i hp; rw [if_neg hp] at a4; omega
 ·show (if u.push then s.live - 1 else s.live) ≤ _
  split <;> omega
 ·show u.A.length ≤ _; omega
 ·show 0 ≤ (if u.push then max s.depth (u.A.length : Int) else s.depth) ∧ (if u.push then max s.depth (u.A.length : Int) else s.depth) ≤ _
  split <;> omega
theorem b2b {k : Nat} {v : Int} : ∀ (rows : List ARow) (j : Nat), w2 (rows.modify j (b0n k v)) = w2 rows
 | [], 0 => rfl
 | [], _ + 1 => rfl
 | z :: r, 0 => rfl
 | z :: r, j + 1 => by
   rw [List.modify_succ_cons, a2J, a2J, b2b r j]
theorem b0d {k : Nat} {v : Int} : ∀ (rows : List ARow) (j : Nat), dfS (rows.modify j (b0n k v)) = dfS rows
 | [], 0 => rfl
 | [], _ + 1 => rfl
 | z :: r, 0 => rfl
 | z :: r, j + 1 => by
   rw [List.modify_succ_cons]
   show z.df.length + dfS (r.modify j (b0n k v)) = z.df.length + dfS r
   rw [b0d r j]
theorem c2n {k : Nat} {v : Int} (hv : WV v) {y : ARow} (h : FB p y) : FB p (b0n k v y) :=
 ⟨⟨h.fr.mem, h.fr.ll, h.fr.lw, by show ((y.fr.ce.set k v).length : Int) = _; rw [List.length_set]; exact h.fr.cl, fun w hw => a4R hw h.fr.cw hv, h.fr.pc⟩, h.df, h.ret⟩
theorem b2c {k : Nat} {v : Int} (hv : WV v) : ∀ (rows : List ARow) (j : Nat), RT p rows → RT p (rows.modify j (b0n k v))
 | [], 0, _ => trivial
 | [], _ + 1, _ => trivial
 | z :: r, 0, h => by
   rw [List.modify_zero_cons]
   exact ⟨c2n hv h.1, h.2.1, h.2.2⟩
 | z :: r, j + 1, h => by
   rw [List.modify_succ_cons]
   refine ⟨h.1, fun h0 y t e => ?_, b2c hv r j h.2.2⟩
   cases r with
   | nil => cases j <;> simp at e
   | cons y0 t0 =>
     have hW := h.2.1 h0 y0 t0 rfl
     cases j with
     | zero => rw [List.modify_zero_cons] at e; cases e; exact hW
     | succ j => rw [List.modify_succ_cons] at e; cases e; exact hW
theorem b7q {w : Int} {ps : List s4} (h : ∀ a ∈ ps, WV a.v) : (a2H w ps).2.length = ps.length ∧ (∀ a ∈ (a2H w ps).2, WV a.v) ∧ WV (a2H w ps).1.1 ∧ WV (a2H w ps).1.2 := by
 unfold a2H
 split
 ·exact ⟨rfl, nofun, .zero, .zero⟩
 ·rename_i x l
  split
  ·exact ⟨rfl, h, .zero, .zero⟩
  ·exact ⟨rfl, fun a ha => (List.mem_cons.1 ha).elim (fun e => by rw [e]; exact h x (.head _)) (fun e => h a (.tail _ e)), h x (.head _), (⟨by decide, by decide⟩ : WV 1)⟩
theorem a4V.to {f f1 : SFr} {k : Int} (h : a4V p f1) (e : f1.f = f.f) (hk : 0 ≤ k ∧ k < f.f.Nodes.length) : a4V p { f1 with pc := k } := ⟨h.mem, h.ll, h.lw, h.cl, h.cw, by rw [e]; exact hk⟩
theorem b7r (a b : Int) : WV (c4w a b) := .u _
theorem c2o {tape : List Int} (h : ∀ v ∈ tape, WV v) : WV (inV tape) := by
 unfold inV
 cases tape with
 | nil => exact .zero
 | cons v l => exact h v (.head _)
theorem prog (G : a3J p) (T : a1H p n s) (hk : s.ek = 0) : ∃ b, a0u p s = some b ∧ b.evs.length ≤ n + 1 ∧ (b.ek = 0 → a1H p (n + 1) b) := by
 cases hs : s.rows with
 | nil => exact absurd hs T.top
 | cons z r =>
 have hz := T.rt
 rw [hs] at hz
 have hF := hz.1.fr
 obtain ⟨i, hi, him, hnb, hiw⟩ := a9X G hF
 obtain ⟨hnx, hop⟩ := a9Y hnb
 have hev := T.ev
 have hev1 : s.evs.length ≤ n + 1 := by omega
 unfold a0u
 rw [hs]
 simp only [hi, Option.bind_some]
 unfold opB at hop
 unfold a3H at hnx
 unfold a9O
 by_cases h : i.Op = 1
 ·rw [if_pos h]
  simp [h] at hop hnx
  have hd := is1 hop
  obtain ⟨f1, e1, e2, e3, e4⟩ := a1G G hF (k := i.D) hd.2 hiw
  rw [e1]
  exact ⟨_, rfl, hev1, fun _ => a3X T hs (e2.to e3 hnx)⟩
 rw [if_neg h]; have n1 := h; clear h
 by_cases h : i.Op = 2
 ·rw [if_pos h]
  simp [h] at hop hnx
  have hd : (0 ≤ i.D ∧ i.D < z.fr.f.Kinds.length) ∧ (0 ≤ i.A ∧ i.A < z.fr.f.Kinds.length) := hop.elim is2 is2
  obtain ⟨v, g1, g2⟩ := a0U G hF hd.2
  rw [g1, Option.bind_some]
  obtain ⟨f1, e1, e2, e3, e4⟩ := a1G G hF (k := i.D) hd.1.2 g2
  rw [e1]
  exact ⟨_, rfl, hev1, fun _ => a3X T hs (e2.to e3 hnx)⟩
 rw [if_neg h]; have n2 := h; clear h
 by_cases h : i.Op = 4
 ·rw [if_pos h]
  simp [h] at hop hnx
  have hd := is1 hop.2
  have hc := hop.1
  unfold a1j at hc
  simp only [decide_eq_true_eq] at hc
  have hcl := hF.cl
  have hlt : i.Cell.toNat < z.fr.ce.length := by omega
  have hg : u4 z.fr.ce i.Cell = some z.fr.ce[i.Cell.toNat] := by unfold u4; rw [if_pos hc.1]; exact List.getElem?_eq_getElem hlt
  rw [hg, Option.bind_some]
  obtain ⟨f1, e1, e2, e3, e4⟩ := a1G G hF (k := i.D) hd.2 (hF.cw _ (List.getElem_mem hlt))
  rw [e1]
  exact ⟨_, rfl, hev1, fun _ => a3X T hs (e2.to e3 hnx)⟩
 rw [if_neg h]; have n4 := h; clear h
 by_cases h : i.Op = 5
 ·rw [if_pos h]
  simp [h] at hop hnx
  have hd := is1 hop.2
  have hc := hop.1
  unfold a1j at hc
  simp only [decide_eq_true_eq] at hc
  have hcl := hF.cl
  have hlt : i.Cell.toNat < z.fr.ce.length := by omega
  have hg : u4 z.fr.ce i.Cell = some z.fr.ce[i.Cell.toNat] := by unfold u4; rw [if_pos hc.1]; exact List.getElem?_eq_getElem hlt
  obtain ⟨v, g1, g2⟩ := a0U G hF hd
  rw [g1, Option.bind_some, hg]
  exact ⟨_, rfl, hev1, fun _ => a3X T hs ⟨hF.mem, hF.ll, hF.lw, by simp [hF.cl], fun w hw => a4R hw hF.cw g2, hnx⟩⟩
 rw [if_neg h]; have n5 := h; clear h
 by_cases h : i.Op = 6
 ·rw [if_pos h]
  simp [h] at hop hnx
  have hd := is1 hop.2
  obtain ⟨f1, e1, e2, e3, e4⟩ := a1G G hF (k := i.D) hd.2 (b7r z.fr.nu i.Cell)
  rw [e1]
  exact ⟨_, rfl, hev1, fun _ => a3X T hs (e2.to e3 hnx)⟩
 rw [if_neg h]; have n6 := h; clear h
 by_cases h : i.Op = 9
 ·rw [if_pos h]
  simp [h] at hop hnx
  have hd := is1 hop
  obtain ⟨v, g1, g2⟩ := a0U G hF hd
  rw [g1]
  have hto : 0 ≤ (if v = 0 then i.Else else i.Next) ∧ (if v = 0 then i.Else else i.Next) < (z.fr.f.Nodes.length : Int) := by
   by_cases he : i.Else = i.Next
   ·simp [he] at hnx ⊢; exact hnx
   ·simp [he] at hnx
    split
    ·exact hnx.2
    ·exact hnx.1
  exact ⟨_, rfl, hev1, fun _ => a3X T hs (hF.to rfl hto)⟩
 rw [if_neg h]; have n9 := h; clear h
 by_cases h : i.Op = 10
 ·rw [if_pos h]
  simp [h] at hop hnx
  exact ⟨_, rfl, hev1, fun _ => a3X T hs (hF.to rfl hnx)⟩
 rw [if_neg h]; have n10 := h; clear h
 by_cases h : i.Op = 16
 ·rw [if_pos h]
  simp [h] at hop hnx
  have hd := is1 hop
  obtain ⟨f1, e1, e2, e3, e4⟩ := a1G G hF (k := i.D) hd.2 (c2o T.tape)
  rw [e1]
  exact ⟨_, rfl, by simp; omega, fun _ => a3M T hs (e2.to e3 hnx) rfl hz.1.df rfl T.pv rfl (by show s.live ≤ _; omega) rfl zE (fun v hv => T.tape v (List.mem_of_mem_tail hv))⟩
 rw [if_neg h]; have n16 := h; clear h
 by_cases h : i.Op = 17
 ·rw [if_pos h]
  simp [h] at hop hnx
  have hd := is1 hop
  obtain ⟨v, g1, g2⟩ := a0U G hF hd
  rw [g1]
  exact ⟨_, rfl, by simp; omega, fun _ => a3M T hs (hF.to rfl hnx) rfl hz.1.df rfl T.pv rfl (by show s.live ≤ _; omega) rfl zE T.tape⟩
 rw [if_neg h]; have n17 := h; clear h
 by_cases h : i.Op = 15
 ·rw [if_pos h]
  simp [h] at hop hnx
  have hd := is2 hop.2
  have hpn := T.pn
  rw [hs, a2J] at hpn
  rw [if_neg (fun hh => by rw [hh.2, if_pos hh.1] at hpn; simp at hpn; omega)]
  obtain ⟨q1, q2, q3, q4⟩ := b7q (w := z.why) T.pv
  obtain ⟨f1, e1, e2, e3, e4⟩ := a1G G hF (k := i.D) hd.1.2 q3
  obtain ⟨f2, e5, e6, e7, e8⟩ := a1G G e2 (k := i.E) (by rw [e3]; exact hd.2.2) q4
  rw [e1, Option.bind_some, e5]
  exact ⟨_, rfl, hev1, fun _ => a3M T hs (e6.to (e7.trans e3) hnx) rfl hz.1.df q1 q2 rfl (by show s.live ≤ _; omega) rfl hev1 T.tape⟩
 rw [if_neg h]; have n15 := h; clear h
 by_cases h : i.Op = 3
 ·rw [if_pos h]
  simp [h] at hop hnx
  have hd := is3 hop.2
  obtain ⟨a, g1, g2⟩ := a0U G hF hd.2.1
  obtain ⟨b, g3, g4⟩ := a0U G hF hd.2.2
  obtain ⟨v, e, d1, d2⟩ := c5e (op := i.By) g2 g4
  rw [g1, Option.bind_some, g3, Option.bind_some, d1, Option.bind_some]
  dsimp only
  by_cases h0 : e = 0
  ·rw [if_pos h0]
   obtain ⟨f1, e1, e2, e3, e4⟩ := a1G G hF (k := i.D) hd.1.2 d2
   rw [e1]
   exact ⟨_, rfl, hev1, fun _ => a3X T hs (e2.to e3 hnx)⟩
  ·rw [if_neg h0]
   exact a7l G T hs ⟨by decide, by decide⟩
 rw [if_neg h]; have n3 := h; clear h
 by_cases h : i.Op = 7
 ·rw [if_pos h]
  simp [h] at hop hnx
  have hd := is1 hop.1
  have ha := is1 hop.2
  obtain ⟨pt, g1, g2⟩ := a0U G hF ha
  obtain ⟨c, c1, c2⟩ := b0c (z :: r) pt
  rw [g1, Option.bind_some, c1, Option.bind_some]
  cases c with
  | none => exact a7l G T hs ⟨by decide, by decide⟩
  | some c =>
    obtain ⟨ci, ck⟩ := c
    obtain ⟨y, w, c3, c4⟩ := c2 ci ck rfl
    simp only [c3, c4, Option.bind_some]
    have hy := hz.mem (z := y) (List.mem_reverse.1 (List.mem_of_getElem? c3))
    obtain ⟨f1, e1, e2, e3, e4⟩ := a1G G hF (k := i.D) hd.2 (hy.fr.cw w (List.mem_of_getElem? c4))
    rw [e1]
    exact ⟨_, rfl, hev1, fun _ => a3X T hs (e2.to e3 hnx)⟩
 rw [if_neg h]; have n7 := h; clear h
 by_cases h : i.Op = 8
 ·rw [if_pos h]
  simp [h] at hop hnx
  have ha := is1 hop.1
  have hb := is1 hop.2
  obtain ⟨pt, g1, g2⟩ := a0U G hF ha
  obtain ⟨v, g3, g4⟩ := a0U G hF hb
  obtain ⟨c, c1, c2⟩ := b0c (z :: r) pt
  rw [g1, Option.bind_some, c1, Option.bind_some]
  cases c with
  | none => exact a7l G T hs ⟨by decide, by decide⟩
  | some c =>
    obtain ⟨ci, ck⟩ := c
    obtain ⟨y, w, c3, c4⟩ := c2 ci ck rfl
    simp only [g3, c3, c4, Option.bind_some, Option.map_some]
    have T2 := a3X T hs (hF.to rfl hnx)
    refine ⟨_, rfl, hev1, fun _ => ?_⟩
    have hR : RT p (({ z with fr := { z.fr with pc := i.Next } } :: r : List ARow).modify (({ z with fr := { z.fr with pc := i.Next } } :: r : List ARow).length - 1 - ci) (b0n ck v)) := b2c g4 _ _ T2.rt
    refine ⟨fun h0 => ?_, hR, ?_, T2.pv, ?_, T2.lv2, ?_, T2.dep, T2.ev, T2.tape⟩
    ·have := congrArg List.length h0
     simp [a5L] at this
    ·show _ = w2 (List.modify _ _ _); rw [b2b]; exact T2.pn
    ·show _ = ((dfS (List.modify _ _ _) : Nat) : Int); rw [b0d]; exact T2.lv
    ·show (List.modify _ _ _).length ≤ _; rw [List.length_modify]; exact T2.rn
 rw [if_neg h]; have n8 := h; clear h
 by_cases h : i.Op = 11
 ·rw [if_pos h]
  simp [h] at hop hnx
  obtain ⟨g, hg, hgl, hgi⟩ := a9W hop.1
  obtain ⟨ag, a1, a2, a3⟩ := a6w G hF i.Args hgi
  obtain ⟨f2, b1, b2⟩ := a4S G (r.length + 2) hg (a2.trans hgl) a3
  rw [a1, Option.bind_some, b1]
  refine ⟨_, rfl, hev1, fun _ => ?_⟩
  have hpn := T.pn
  have hlv := T.lv
  have hl2 := T.lv2
  have hrn := T.rn
  have hd := T.dep
  rw [hs] at hpn hlv hrn
  simp only [List.length_cons] at hrn
  refine ⟨by simp, ⟨⟨b2, nofun, .zero⟩, fun _ y t e => (by cases e; exact ⟨i, hi, h⟩), hz⟩, ?_, T.pv, ?_, ?_, ?_, ?_, by show s.evs.length ≤ _; omega, T.tape⟩
  ·rw [hpn]; show _ = (if (0 : Int) = 2 then 1 else 0) + w2 (z :: r); simp
  ·rw [hlv]; show _ = ((0 + dfS (z :: r) : Nat) : Int); simp
  ·show s.live ≤ _; omega
  ·show r.length + 1 + 1 ≤ _; omega
  ·show 0 ≤ max s.depth _ ∧ max s.depth _ ≤ _; omega
 rw [if_neg h]; have n11 := h; clear h
 by_cases h : i.Op = 13
 ·rw [if_pos h]
  simp [h] at hop hnx
  obtain ⟨g, hg, hgl, hgi⟩ := a9W hop
  obtain ⟨ag, a1, a2, a3⟩ := a6w G hF i.Args hgi
  rw [a1]
  exact ⟨_, rfl, hev1, fun _ => a3M T hs (hF.to rfl hnx) rfl (fun d hd => (List.mem_cons.1 hd).elim (fun e => by rw [e]; exact ⟨g, hg, a2.trans hgl, a3⟩) (hz.1.df d)) rfl T.pv (by simp only [List.length_cons]; omega) zS rfl hev1 T.tape⟩
 rw [if_neg h]; have n13 := h; clear h
 by_cases h : i.Op = 12
 ·rw [if_pos h]
  simp [h] at hop hnx
  obtain ⟨v, g1, g2⟩ : ∃ v, a9J p z.fr i.A = some v ∧ WV v := by
   unfold a9J
   by_cases h0 : 0 ≤ i.A
   ·rw [if_pos h0]
    refine a0U G hF ?_
    rcases hop with ⟨h1, _⟩ | ⟨_, _, h1⟩
    ·omega
    ·exact is1 h1
   ·rw [if_neg h0]; exact ⟨0, rfl, .zero⟩
  obtain ⟨u, u1, u2⟩ := b7p G T hs g2
  rw [g1, Option.bind_some, u1]
  exact ⟨_, rfl, hev1, u2⟩
 rw [if_neg h]; have n12 := h; clear h
 by_cases h : i.Op = 14
 ·rw [if_pos h]
  simp [h] at hop hnx
  have hd := is1 hop
  obtain ⟨v, g1, g2⟩ := a0U G hF hd
  rw [g1, Option.bind_some]
  exact a7l G T hs g2
 rw [if_neg h]; have n14 := h; clear h
 by_cases h : i.Op = 18
 ·simp [h] at hop
  obtain ⟨v, g1, g2⟩ := a0U G hF (is1 hop)
  rw [g1]
  exact ⟨_, rfl, hev1, fun e => by cases e⟩
 ·simp [h, n1, n2, n3, n4, n5, n6, n7, n8, n9, n10, n11, n12, n13, n14, n15, n16, n17] at hop
end
end Go.Proofs.Ytnpemocpfdgaoaa

/- Runs of checked graphs: the whole run. -/
namespace Go.Proofs.Ytnpemocpfdgaoaa
open Go Go.Ab Go.RowKit
set_option maxRecDepth 20000
section
variable {p : GP} {n : Nat} {s b : AS} {z : ARow} {r : List ARow}
theorem a3J.okG {p : GP} (G : a3J p) {g : b9} (hg : g ∈ p.Funcs) : okG g := by
 have h := G.hf hg
 have h1 := h.kn; have h2 := h.pn; have h3 := h.cl
 exact ⟨by omega, by omega, by omega, G.al g hg⟩
theorem a1H.bd (G : a3J p) (T : a1H p n s) (hn : n ≤ 2097152) {k : Int} : Bd p { s with steps := k } := by
 have h1 := T.rn
 have h2 := T.pn
 have h3 := c2k s.rows
 have h4 := T.dep
 have h5 := T.lv
 have h6 := T.lv2
 have h7 := T.ev
 refine ⟨fun g hg => G.okG hg, by show s.rows.length < _; omega, by show s.pans.length < _; omega, ⟨h4.1, by show s.depth < _; omega⟩, ⟨by show 0 ≤ s.live; omega, by show s.live < _; omega⟩, fun z hz => ?_, by show s.evs.length < _; omega⟩
 replace hz : z ∈ s.rows := hz
 have hB := T.rt.mem hz
 have hd := c2l hz
 exact ⟨by show (z.df.length : Int) ≤ s.live; omega, G.okG hB.fr.mem⟩
theorem a6x {k : Int} (T : a1H p n s) : a1H p n { s with steps := k } := ⟨T.top, T.rt, T.pn, T.pv, T.lv, T.lv2, T.rn, T.dep, T.ev, T.tape⟩
theorem b2d (G : a3J p) : ∀ (k n : Nat) (s : AS), s.evs.length ≤ n → (s.ek = 0 → a1H p n s) → n + k ≤ 2097152 → b7K p k s ∧ ∃ s', a3D p k s = some s' ∧ s'.evs.length ≤ n + k
 | 0, n, s, he, h, hn => by
   refine ⟨trivial, ?_⟩
   unfold a3D
   by_cases hk : s.ek = 0
   ·rw [if_neg (by simpa using hk)]; exact ⟨_, rfl, he⟩
   ·rw [if_pos hk]; exact ⟨_, rfl, he⟩
 | k + 1, n, s, he, h, hn => by
   by_cases hk : s.ek = 0
   ·have T := h hk
    obtain ⟨b, h1, h2, h3⟩ := prog G (a6x (k := s.steps + 1) T) hk
    have ih := b2d G k (n + 1) b h2 h3 zO
    refine ⟨fun _ => ⟨T.bd G zO, fun s' hs' => ?_⟩, ?_⟩
    ·rw [h1] at hs'; cases hs'; exact ih.1
    ·unfold a3D
     rw [if_neg (by simpa using hk)]
     simp only [h1, Option.bind_some]
     obtain ⟨s', e1, e2⟩ := ih.2
     exact ⟨s', e1, by omega⟩
   ·refine ⟨fun h => absurd h hk, ?_⟩
    unfold a3D
    rw [if_pos hk]
    exact ⟨_, rfl, by omega⟩
theorem b1w (G : a3J p) {tape : List Int} (ht : ∀ v ∈ tape, WV v) : ∃ s1, as1 p tape = some s1 ∧ a1H p 0 s1 ∧ s1.steps = 0 ∧ s1.defers = 0 ∧ s1.panics = 0 := by
 obtain ⟨f, hf, hp0⟩ := G.main
 have hg : u4 p.Funcs 0 = some f := by
  have := a1g (l := p.Funcs) (i := 0)
  rw [hf] at this; exact this
 obtain ⟨f1, h1, h2⟩ := a4S G (ag := []) 1 hg (by rw [hp0]) nofun
 refine ⟨{ as0 tape with rows := [⟨f1, 0, [], 0⟩], depth := 1 }, by unfold as1; rw [h1]; rfl, ⟨by simp, ⟨⟨h2, nofun, .zero⟩, (fun _ y t e => (by cases e)), trivial⟩, rfl, nofun, rfl, Int.le_refl _, Nat.le_refl _, ⟨by show (0 : Int) ≤ 1; decide, by show (1 : Int) ≤ _; omega⟩, Nat.le_refl _, ht⟩, rfl, rfl, rfl⟩
theorem b0e {g : i7} (G : a3J ⟨g.Funcs, false⟩) {tape : List Int} {fl : Int} (hc : t9 g false = some 0) (ht : ∀ v ∈ tape, WV v) (htl : tape.length < 1000000000) (hfl : 0 ≤ fl ∧ fl ≤ 1048576) :
  ∃ s1 s2, as1 ⟨g.Funcs, false⟩ tape = some s1 ∧ a1H ⟨g.Funcs, false⟩ 0 s1 ∧ s1.steps = 0 ∧ a3D ⟨g.Funcs, false⟩ fl.toNat s1 = some s2 ∧ u6 1048577 g false tape fl = some (b1Z s2, 0) ∧ s2.evs.length ≤ fl.toNat := by
 obtain ⟨s1, h1, h2, h3, _⟩ := b1w G ht
 obtain ⟨h4, s2, h5, h6⟩ := b2d G fl.toNat 0 s1 h2.ev (fun _ => h2) zO
 exact ⟨s1, s2, h1, h2, h3, h5, a3F hc (.run rfl hfl h1 h5 h4 (fun g hg => G.okG hg) zO htl), by omega⟩
theorem a7U {g : i7} (hi : ∀ f ∈ g.Funcs, ∀ n ∈ f.Nodes, WV n.Imm ∧ n.Args.length < 100000000) : (t9 g false = some 0 ∧ a3J ⟨g.Funcs, false⟩) ∨ t9 g false = some 70 := by
 rw [a7j]
 by_cases h : a4s g = true
 ·rw [if_pos h]
  obtain ⟨h1, h2, h3⟩ := a6v h
  exact .inl ⟨rfl, rfl, h3, fun f hf n hn => (hi f hf n hn).1, fun f hf n hn => (hi f hf n hn).2, h2⟩
 ·rw [if_neg h]; exact .inr rfl
structure Ext (a b : AS) : Prop where
 evs : ∃ l, b.evs = a.evs ++ l
 depth : a.depth ≤ b.depth
 defers : a.defers ≤ b.defers
 panics : a.panics ≤ b.panics
theorem Ext.refl {a : AS} : Ext a a := ⟨⟨[], by simp⟩, Int.le_refl _, Int.le_refl _, Int.le_refl _⟩
theorem Ext.trans {a b c : AS} (h : Ext a b) (k : Ext b c) : Ext a c := by
 obtain ⟨l, h1⟩ := h.evs
 obtain ⟨m, k1⟩ := k.evs
 exact ⟨⟨l ++ m, by rw [k1, h1, List.append_assoc]⟩, Int.le_trans h.depth k.depth, Int.le_trans h.defers k.defers, Int.le_trans h.panics k.panics⟩
end
end Go.Proofs.Ytnpemocpfdgaoaa

