/- What runs: rows of frames, deferred calls, panics; told plainly, and as objects. -/
import Derived.Test.YtnpemocpfdgaoaaGenTr
import Derived.Test.YtnpemocpfdgaoaaWlK9
set_option linter.unusedVariables false
set_option linter.unusedSimpArgs false
namespace Go.Proofs.Ytnpemocpfdgaoaa
open Go Go.Ab
structure a0y where
 f : Int
 args : List Int
def a0y.cells (x : a0y) : List AV := [.int .i64 x.f, .sl false 1 (List.map (avI .u64) x.args)]
def a0y.av (x : a0y) : AV := .agg x.cells
theorem a0y.enc : Enc a0y.av (some 2) := ⟨fun _ => rfl, fun _ => rfl, fun _ => rfl, fun x n => g8 ⟨rfl, ((x3 (f7 .u64) 1).blw x.args n), trivial⟩⟩
structure n9 where
 v : Int
 rcv : Bool
def n9.cells (x : n9) : List AV := [.int .u64 x.v, .bool x.rcv]
def n9.av (x : n9) : AV := .agg x.cells
theorem n9.enc : Enc n9.av (some 2) := ⟨fun _ => rfl, fun _ => rfl, fun _ => rfl, fun x n => g8 ⟨rfl, rfl, trivial⟩⟩
structure SFr where
 f : Func
 lo : List Int
 st : List Int
 pc : Int
 nu : Int
structure ARow where
 fr : SFr
 why : Int
 df : List a0y
 ret : Int
structure AS where
 tape : List Int
 evs : List i9
 ek : Int
 ev : Int
 steps : Int
 depth : Int
 defers : Int
 panics : Int
 rows : List ARow
 pans : List n9
 live : Int
structure FO where
 x : Nat
 l : Nat
 t : Nat
 tv : Nat
 tj : List AV
structure Row extends ARow where
 s : Nat
 d : Nat
 dv : Nat
 dj : List AV
 q : FO
abbrev frC (p : Program) (f : SFr) (q : FO) : List AV := [.cptr (Program.av p).cells 0, .cptr (Func.av f.f).cells 0, .ref q.l 0 0 f.lo.length none, .ref q.t q.tv 0 f.st.length none, .int .i64 f.pc, .int .i64 f.nu]
abbrev frL (p : Program) (f : SFr) (q : FO) : List It := [(q.x, 0, frC p f q), (q.l, 0, flat (avI .u64) f.lo), (q.t, q.tv, flat (avI .u64) f.st.reverse ++ q.tj)]
abbrev slL (z : Row) : List It := [(z.s, 0, [.iface 128 (.ptr z.q.x 0 0), .int .i64 z.why, .ref z.d z.dv 0 z.df.length (some 2), .int .u64 z.ret]), (z.d, z.dv, flat a0y.av z.df.reverse ++ z.dj)]
def a1A (p : Program) (z : Row) : List It := slL z ++ frL p z.fr z.q
def mkA (p : Program) : AV := .fn (.func 41) [] [.cptr (Program.av p).cells 0]
def a1Q (rows : List Row) : List ARow := rows.map Row.toARow
end Go.Proofs.Ytnpemocpfdgaoaa

/- sem.frame's stack: the walks. -/
namespace Go.Ab
section
variable {P : Program} {S0 : List Ob} {ow : List Nat} {fr : Fr} {S : List Ob} {log : List LE} {L L' : List It} {esh : Option Nat}
theorem p6 {d x i rs} {K : Fr -> List Ob -> List LE -> Prop} {o ver off m k z} (e : ev (Fr.get fr) x = .ref o ver off m esh) (e1 : ev (Fr.get fr) i = .int k z) (n : Nat) (hz : z = (n : Int)) (hn : n < m)
  (h : VTops P ow rs ((d, .ptr o ver (off + n * f5 esh)) :: fr) S (.acc [] none :: log) K) : VTops P ow (⟨some d, none, .op (.iad none esh x i)⟩ :: rs) fr S log K := by
 subst hz
 have := a1w (P := P) (ow := ow) (fr := fr) (S := S) (log := log) (d := d) (rs := rs) (K := K) (n := (n : Int)) e e1 ⟨by omega, by omega⟩ (by simpa using h)
 exact this
theorem b9G {d x lo hi rs} {K : Fr -> List Ob -> List LE -> Prop} {o ver off n a : Nat} (e : ev (Fr.get fr) x = .ref o ver off n esh) (h1 : loN (evO (Fr.get fr) lo) = some a) (h2 : hiN n (evO (Fr.get fr) hi) = some a) (ha : a <= n /\ 0 < a)
  (h : VTops P ow rs ((d, .sl false (f5 esh) []) :: fr) S (.acc [] none :: log) K) : VTops P ow (⟨some d, none, .op (.slc esh x lo hi none)⟩ :: rs) fr S log K := by
 refine a2r (v := .sl false (f5 esh) []) ?_ rfl h
 simp only [opV, e, b8x, h1, h2]
 rw [if_neg zO, if_pos ⟨trivial, trivial, ha.1⟩]; rfl
theorem b9H {d bytes s x rs} {K : Fr -> List Ob -> List LE -> Prop} {o ver n m : Nat} {cs j ys : List AV} {rdx : List Nat} (hS : Sep S L) (e : ev (Fr.get fr) s = .ref o ver 0 n esh) (e2 : a6L esh (ev (Fr.get fr) x) S = some (m, ys, rdx))
  (hr : Rp L (o, ver, cs ++ j) (o, ver + 1, cs ++ ys) L') (hl : cs.length = n * f5 esh) (h1 : ys.all AV.one = true) (hb : (n + m) * bytes <= 140737488355328 /\ n + m <= 140737488355328)
  (h : ∀ S', Sep S' L' -> VTops P ow rs ((d, .ref o (ver + 1) 0 (n + m) esh) :: fr) S' (.acc (o :: o :: rdx) (some o) :: log) K) : VTops P ow (⟨some d, none, .op (.app esh bytes s x)⟩ :: rs) fr S log K := by
 have ho := hS.at hr.mem
 refine t8 (v := .ref o (ver + 1) 0 (n + m) esh) (rd := o :: rdx) (δ := some (o, .arr (ver + 1) (cs ++ ys))) ?_ rfl rfl (h _ (hS.rp hr))
 simp only [opV, b1Q, e, e2, Option.bind_some, h1, if_true]
 rw [if_pos ⟨trivial, hb.1, hb.2⟩]
 simp only [y9, ho, if_true, Option.map_some, List.drop_zero]
 rw [<- hl, List.take_left]
end
end Go.Ab
namespace Go.Proofs.Ytnpemocpfdgaoaa
open Go Go.Ab
set_option maxRecDepth 20000
set_option maxHeartbeats 2000000
noncomputable def c1O : FC := fcO 144
theorem c1P : Fn3 Try.prog 144 28 [(2, none)] c1O := ⟨_, _, Try.func144, rfl, rfl, rfl, by kernel_rfl⟩

noncomputable def c1Q : FC := fcO 143
theorem c1R : Fn3 Try.prog 143 13 [] c1Q := ⟨_, _, Try.func143, rfl, rfl, rfl, by kernel_rfl⟩

theorem b3s {a b c e g : AV} {x t tv : Nat} {v : Int} {st : List Int} {j : List AV} (hl : st.length < 1000000000) :
  Tri Try.prog 144 [.ptr x 0 0] [(x, 0, [a, b, c, .ref t tv 0 (st.length + 1) none, e, g]), (t, tv, flat (avI .u64) (v :: st).reverse ++ j)] (fun r L' => r = .int .u64 v /\ L' = [(x, 0, [a, b, c, .ref t tv 0 st.length none, e, g]), (t, tv, flat (avI .u64) st.reverse ++ (.int .u64 v :: j))]) := by
 have hx : (v :: st).reverse[st.length]? = some v := by rw [List.reverse_cons, List.getElem?_append_right zS]; simp
 have hw : IntKind.i64.wrap (((st.length + 1 : Nat) : Int) - 1) = (st.length : Int) := by rw [q9 zO]; omega
 refine i8 mixed c1P zS [] (fun R S hS => ?_)
 refine aU ?_
 refine c9 hS rfl (.head _) (v := .ref t tv 0 (st.length + 1) none) rfl ?_
 refine aU ?_
 refine c9 hS rfl (.head _) (v := .ref t tv 0 (st.length + 1) none) rfl ?_
 refine aU ?_
 refine p6 rfl rfl st.length hw zO ?_
 refine a4n hS (f7 .u64) rfl (.tail _ (.head _)) (n := st.length) (fo := 0) (y := v) (by simp [f5]) hx (v := .int .u64 v) rfl ?_
 refine aU ?_
 refine c9 hS rfl (.head _) (v := .ref t tv 0 (st.length + 1) none) rfl ?_
 refine aU ?_
 refine a2f (a := 0) (b := st.length) rfl rfl (by show hiN (st.length + 1) (some (.int .i64 (IntKind.i64.wrap (((st.length + 1 : Nat) : Int) - 1)))) = _; rw [hw, z0 zO]; simp) ⟨by omega, by omega, .inl rfl⟩ ?_
 refine aU ?_
 refine E_stS hS rfl (xv := .ref t tv 0 st.length none) (by show AV.ref t tv (0 + 0 * f5 none) (st.length - 0) none = _; simp) Rp.here rfl rfl zV (fun S hS => ?_)
 refine aU ?_
 refine d8 ?_
 refine aE ?_
 have e1 : flat (avI .u64) (v :: st).reverse ++ j = flat (avI .u64) st.reverse ++ (.int .u64 v :: j) := by rw [List.reverse_cons, n7]; simp [flat, avI, AV.cells]
 rw [e1] at hS
 exact ⟨trivial, _, rfl, _, ⟨rfl, rfl⟩, hS⟩
theorem b0U {a b c e g : AV} {x t tv : Nat} {ex : Bool} {vs st : List Int} {j : List AV} (hl : st.length < 1000000000) (hl2 : vs.length <= 1000) :
  Tri Try.prog 143 [.ptr x 0 0, .sl ex 1 (vs.map (avI .u64))] [(x, 0, [a, b, c, .ref t tv 0 st.length none, e, g]), (t, tv, flat (avI .u64) st.reverse ++ j)] (fun r L' => L' = [(x, 0, [a, b, c, .ref t (tv + 1) 0 (vs.reverse ++ st).length none, e, g]), (t, tv + 1, flat (avI .u64) (vs.reverse ++ st).reverse ++ [])]) := by
 refine i8 mixed c1R zS [] (fun R S hS => ?_)
 refine m7 ?_
 refine aS ?_
 refine c9 hS rfl (.head _) (v := .ref t tv 0 st.length none) rfl ?_
 refine aS ?_
 refine a4m (o := t) (ver := tv) (l := st.reverse) (m := vs) (j := j) hS (f7 .u64) (by show AV.ref t tv 0 st.length none = _; rw [List.length_reverse]) (s4 vs) (Rp.there Rp.here) ⟨by simp; omega, by simp; omega⟩ (fun S hS => ?_)
 refine aS ?_
 refine E_stS hS rfl zC Rp.here rfl rfl zV (fun S hS => ?_)
 refine j8 ?_
 refine aE ?_
 refine ⟨trivial, _, rfl, _, rfl, ?_⟩
 have e1 : (vs.reverse ++ st).reverse = st.reverse ++ vs := by simp
 have e2 : (vs.reverse ++ st).length = (st.reverse ++ vs).length := by simp; omega
 rw [e1, e2, List.append_nil]
 exact hS
noncomputable def c1S : FC := fcO 139
theorem c1T : Fn3 Try.prog 139 38 [(2, none)] c1S := ⟨_, _, Try.func139, rfl, rfl, rfl, by kernel_rfl⟩

noncomputable def c1U : FC := fcO 147
theorem c1V : Fn3 Try.prog 147 17 [] c1U := ⟨_, _, Try.func147, rfl, rfl, rfl, by kernel_rfl⟩

noncomputable def c1W : FC := fcO 141
theorem c1X : Fn3 Try.prog 141 24 [(2, none)] c1W := ⟨_, _, Try.func141, rfl, rfl, rfl, by kernel_rfl⟩

noncomputable def c1Y : FC := fcO 140
theorem c1Z : Fn3 Try.prog 140 33 [] c1Y := ⟨_, _, Try.func140, rfl, rfl, rfl, by kernel_rfl⟩

noncomputable def c2a : FC := fcO 151
theorem c2b : Fn3 Try.prog 151 41 [(4, none)] c2a := ⟨_, _, Try.func151, rfl, rfl, rfl, by kernel_rfl⟩

noncomputable def c2c : FC := fcO 145
theorem c2d : Fn3 Try.prog 145 12 [(4, none)] c2c := ⟨_, _, Try.func145, rfl, rfl, rfl, by kernel_rfl⟩

noncomputable def c2e : FC := fcO 149
theorem b9I : Fn3 Try.prog 149 20 [(4, none)] c2e := ⟨_, _, Try.func149, rfl, rfl, rfl, by kernel_rfl⟩


def inV (tape : List Int) : Int := tape.headD 0
section
variable {tape : List Int} {evs : List i9} {tr te tv : Nat}
theorem a7q {S : List Ob} {K v : Int} : a6L (some 2) (.sl true 2 [.agg [.int .i64 K, .int .u64 v]]) S = some (1, flat i9.av [(⟨K, v⟩ : i9)], []) := s4 (f := i9.av) (esh := some 2) [(⟨K, v⟩ : i9)]
theorem b9J (hl : evs.length < 1000000000) :
  Tri Try.prog 139 [.ptr tr 0 0] [(tr, 0, [.sl false 1 (tape.map (avI .u64)), .ref te tv 0 evs.length (some 2)]), (te, tv, flat i9.av evs)]
   (fun r L' => r = .int .u64 (inV tape) /\ L' = [(tr, 0, [.sl false 1 (tape.tail.map (avI .u64)), .ref te (tv + 1) 0 (evs ++ [(⟨2, inV tape⟩ : i9)]).length (some 2)]), (te, tv + 1, flat i9.av (evs ++ [(⟨2, inV tape⟩ : i9)]))]) := by
 refine i8 mixed c1T zS [] (fun R S hS => ?_)
 refine aU ?_
 refine E_cs (t := false) rfl (fun h => by cases h) (fun _ => ?_)
 refine aU ?_
 refine c9 hS rfl (.head _) (v := .sl false 1 (tape.map (avI .u64))) rfl ?_
 refine aU ?_
 cases tape with
 | nil =>
   refine E_cs (t := false) rfl (fun h => by cases h) (fun _ => ?_)
   refine aU ?_
   refine c9 hS rfl (.head _) (v := .ref te tv 0 evs.length (some 2)) rfl ?_
   refine aU ?_
   refine a4m (o := te) (ver := tv) (l := evs) (m := [(⟨2, 0⟩ : i9)]) (j := []) hS i9.enc rfl a7q (Rp.there (by rw [List.append_nil]; exact Rp.here)) ⟨by simp; omega, by simp; omega⟩ (fun S hS => ?_)
   refine aU ?_
   refine E_stS hS rfl zC (by first | exact Rp.here | (repeat (first | exact Rp.here | apply Rp.there | apply Rp.skip))) rfl rfl zV (fun S hS => ?_)
   refine aU ?_
   refine d8 ?_
   refine aE ?_
   exact ⟨trivial, _, rfl, _, ⟨rfl, rfl⟩, hS⟩
 | cons v l =>
   refine E_cs (t := true) (by show AV.bool (decide (((v :: l).length : Int) > 0)) = _; rw [decide_eq_true (by simp only [List.length_cons]; omega)]) (fun _ => ?_) (fun h => by cases h)
   refine aU ?_
   refine c9 hS rfl (.head _) (v := .sl false 1 ((v :: l).map (avI .u64))) rfl ?_
   refine aU ?_
   refine l8 (esh := none) (f := avI .u64) (ys := v :: l) (y := v) rfl rfl rfl ?_
   refine aU ?_
   refine c9 hS rfl (.head _) (v := .sl false 1 ((v :: l).map (avI .u64))) rfl ?_
   refine aU ?_
   refine b2U (esh := none) (f := avI .u64) (l := v :: l) (a := 1) (b := l.length + 1) rfl rfl rfl ⟨by omega, by simp⟩ ?_
   refine aU ?_
   refine E_stS hS rfl (xv := .sl false 1 (l.map (avI .u64))) (by show AV.sl false 1 (List.map (avI .u64) (List.drop 1 (List.take (l.length + 1) (v :: l)))) = _; simp) Rp.here rfl rfl zV (fun S hS => ?_)
   refine aU ?_
   refine c9 hS rfl (.head _) (v := .ref te tv 0 evs.length (some 2)) rfl ?_
   refine aU ?_
   refine a4m (o := te) (ver := tv) (l := evs) (m := [(⟨2, v⟩ : i9)]) (j := []) hS i9.enc rfl a7q (Rp.there (by rw [List.append_nil]; exact Rp.here)) ⟨by simp; omega, by simp; omega⟩ (fun S hS => ?_)
   refine aU ?_
   refine E_stS hS rfl zC (by first | exact Rp.here | (repeat (first | exact Rp.here | apply Rp.there | apply Rp.skip))) rfl rfl zV (fun S hS => ?_)
   refine aU ?_
   refine d8 ?_
   refine aE ?_
   exact ⟨trivial, _, rfl, _, ⟨rfl, rfl⟩, hS⟩
theorem b7K {v : Int} (hl : evs.length < 1000000000) :
  Tri Try.prog 147 [.ptr tr 0 0, .int .u64 v] [(tr, 0, [.sl false 1 (tape.map (avI .u64)), .ref te tv 0 evs.length (some 2)]), (te, tv, flat i9.av evs)]
   (fun _ L' => L' = [(tr, 0, [.sl false 1 (tape.map (avI .u64)), .ref te (tv + 1) 0 (evs ++ [(⟨1, v⟩ : i9)]).length (some 2)]), (te, tv + 1, flat i9.av (evs ++ [(⟨1, v⟩ : i9)]))]) := by
 refine i8 mixed c1V zS [] (fun R S hS => ?_)
 refine aU ?_
 refine E_cs (t := true) rfl (fun _ => ?_) (fun h => by cases h)
 refine aU ?_
 refine c9 hS rfl (.head _) (v := .ref te tv 0 evs.length (some 2)) rfl ?_
 refine aU ?_
 refine a4m (o := te) (ver := tv) (l := evs) (m := [(⟨1, v⟩ : i9)]) (j := []) hS i9.enc rfl a7q (Rp.there (by rw [List.append_nil]; exact Rp.here)) ⟨by simp; omega, by simp; omega⟩ (fun S hS => ?_)
 refine aU ?_
 refine E_stS hS rfl zC (by first | exact Rp.here | (repeat (first | exact Rp.here | apply Rp.there | apply Rp.skip))) rfl rfl zV (fun S hS => ?_)
 refine aU ?_
 refine aE ?_
 exact ⟨trivial, _, rfl, _, rfl, hS⟩
end
end Go.Proofs.Ytnpemocpfdgaoaa

/- sem.frame's Keep, Back, args: the walks. -/
namespace Go.Ab
section
variable {P : Program} {S0 : List Ob} {ow : List Nat} {fr : Fr} {S : List Ob} {log : List LE}
theorem b5w {esh : Option Nat} {o ver off m : Nat} {cs : List AV} (ho : hp S o = .arr ver cs) : a6L esh (.ref o ver off m esh) S = some (m, (cs.drop off).take (m * f5 esh), [o]) := by
 simp only [a6L, if_true, y9, ho, Option.map_some]
theorem b5x {d x lo rs} {K : Fr -> List Ob -> List LE -> Prop} {o ver n a : Nat} (e : ev (Fr.get fr) x = .ref o ver 0 n none) (h1 : loN (evO (Fr.get fr) lo) = some a) (ha : a <= n)
  (h : ∀ w, (∀ (S : List Ob) (cs : List AV), hp S o = .arr ver cs -> ∃ rdx, a6L none w S = some (n - a, (cs.drop a).take (n - a), rdx)) -> VTops P ow rs ((d, w) :: fr) S (.acc [] none :: log) K) : VTops P ow (⟨some d, none, .op (.slc none x lo none none)⟩ :: rs) fr S log K := by
 by_cases h0 : a = 0 \/ a < n
 ·refine a2f (a := a) (b := n) e h1 rfl ⟨ha, Nat.le_refl _, h0⟩ (h _ (fun S cs ho => ⟨[o], ?_⟩))
  rw [b5w ho]; simp [f5]
 ·have : a = n := by omega
  subst this
  refine b9G e h1 rfl ⟨Nat.le_refl _, by omega⟩ (h _ (fun S cs ho => ⟨[], ?_⟩))
  simp [a6L, f5]
end
end Go.Ab
namespace Go.Proofs.Ytnpemocpfdgaoaa
open Go Go.Ab
set_option maxRecDepth 20000
set_option maxHeartbeats 2000000
section
variable {p : Program} {f : SFr} {q : FO}
def a8f (f : SFr) : Option Int := if f.f.Keep < 0 then some 0 else j7 f.lo f.f.Keep
theorem b5y {v : Int} (hv : a8f f = some v) : Tri Try.prog 141 [.ptr q.x 0 0] (frL p f q) (fun r L' => r = .int .u64 v /\ L' = frL p f q) := by
 refine i8 mixed c1X zS [] (fun R S hS => ?_)
 refine aU ?_
 refine c9 hS rfl (.head _) (v := .cptr (Func.av f.f).cells 0) rfl ?_
 refine aU ?_
 unfold a8f at hv
 refine E_cs (t := decide (f.f.Keep < 0)) rfl (fun hk => ?_) (fun hk => ?_)
 ·rw [if_pos (of_decide_eq_true hk)] at hv; cases hv
  refine aU ?_
  refine d8 ?_
  refine aE ?_
  exact ⟨trivial, _, rfl, _, ⟨rfl, rfl⟩, hS⟩
 ·rw [if_neg (of_decide_eq_false hk)] at hv
  obtain ⟨h1, h2, h3⟩ := d9 hv
  refine aU ?_
  refine c9 hS rfl (.head _) (v := .ref q.l 0 0 f.lo.length none) rfl ?_
  refine aU ?_
  refine c9 hS rfl (.head _) (v := .cptr (Func.av f.f).cells 0) rfl ?_
  refine aU ?_
  refine p6 rfl rfl f.f.Keep.toNat zO zO ?_
  refine a7m hS (f7 .u64) rfl (.tail _ (.head _)) (n := f.f.Keep.toNat) (fo := 0) (y := v) (by simp [f5]) h3 (v := .int .u64 v) rfl ?_
  refine aU ?_
  refine d8 ?_
  refine aE ?_
  exact ⟨trivial, _, rfl, _, ⟨rfl, rfl⟩, hS⟩
def SFr.back (p : Program) (f : SFr) (v : Int) : Option SFr := (j7 f.f.Code (f.pc - 1)).bind fun i => (j7 p.Funcs i.Arg).bind fun g => some (if g.Result then { f with st := v :: f.st } else f)
theorem b5z {v : Int} {f' : SFr} (hv : f.back p v = some f') (hpc : f.pc < 4611686018427387904) (hl : f.st.length < 1000000000) :
  Tri Try.prog 140 [.ptr q.x 0 0, .int .u64 v] (frL p f q) (fun r L' => ∃ q', q'.x = q.x /\ q'.l = q.l /\ L' = frL p f' q') := by
 unfold SFr.back at hv
 obtain ⟨i, hi, hv⟩ := Option.bind_eq_some_iff.1 hv
 obtain ⟨g, hg, hv⟩ := Option.bind_eq_some_iff.1 hv
 have hi1 := (d9 hi).1
 refine i8 mixed c1Z zS [] (fun R S hS => ?_)
 refine aU ?_
 refine c9 hS rfl (.head _) (v := .cptr (Program.av p).cells 0) rfl ?_
 refine aU ?_
 refine c9 hS rfl (.head _) (v := .cptr (Func.av f.f).cells 0) rfl ?_
 refine aU ?_
 refine c9 hS rfl (.head _) (v := .int .i64 f.pc) rfl ?_
 refine aU ?_
 refine l8 (esh := some 3) (f := Instr.av) (ys := f.f.Code) (y := i) (k := .i64) (n := f.pc - 1) rfl (by show AV.int .i64 (IntKind.i64.wrap (f.pc - 1)) = _; rw [q9 zO]) hi ?_
 refine aU ?_
 refine l8 (esh := some 5) (f := Func.av) (ys := p.Funcs) (y := g) rfl rfl hg ?_
 refine aU ?_
 refine E_cs (t := g.Result) rfl (fun hr => ?_) (fun hr => ?_)
 ·rw [hr] at hv; cases hv
  refine aU ?_
  refine u6 (b0U (a := .cptr (Program.av p).cells 0) (b := .cptr (Func.av f.f).cells 0) (c := .ref q.l 0 0 f.lo.length none) (e := .int .i64 f.pc) (g := .int .i64 f.nu) (x := q.x) (t := q.t) (tv := q.tv) (ex := true) (vs := [v]) (st := f.st) (j := q.tj) hl zS) hS rfl (Spl.cons Pk.here (Spl.cons (Pk.there Pk.here) Spl.nil)) (fun r S L' hL hS => ?_)
  subst hL
  refine aU ?_
  refine aE ?_
  exact ⟨trivial, _, rfl, _, ⟨{ q with tv := q.tv + 1, tj := [] }, rfl, rfl, rfl⟩, hS.perm (by repeat (first | exact Spl.nil | refine Spl.cons (by repeat (first | exact Pk.here | apply Pk.there | apply Pk.skip)) ?_ | refine Spl.app (by repeat (first | exact PkC.here | apply PkC.there | apply PkC.skip)) ?_))⟩
 ·rw [hr] at hv; cases hv
  refine aU ?_
  refine aE ?_
  exact ⟨trivial, _, rfl, _, ⟨q, rfl, rfl, rfl⟩, hS⟩
def SFr.args (p : Program) (f : SFr) (k : Int) : Option (List Int × SFr) := (j7 p.Funcs k).bind fun g => if 0 <= g.Params /\ g.Params <= f.st.length then some ((f.st.take g.Params.toNat).reverse, { f with st := f.st.drop g.Params.toNat }) else none
theorem b5A {k : Int} {ag : List Int} {f' : SFr} (hv : f.args p k = some (ag, f')) (hl : f.st.length < 1000000000) :
  Tri Try.prog 151 [.ptr q.x 0 0, .int .i64 k] (frL p f q) (fun r L' => r = .sl false 1 (ag.map (avI .u64)) /\ ∃ q', q'.x = q.x /\ q'.l = q.l /\ L' = frL p f' q') := by
 unfold SFr.args at hv
 obtain ⟨g, hg, hv⟩ := Option.bind_eq_some_iff.1 hv
 split at hv
 case isFalse => cases hv
 rename_i hP
 obtain ⟨n, hn⟩ : ∃ n : Nat, g.Params = (n : Int) := ⟨g.Params.toNat, by omega⟩
 rw [hn] at hv hP
 simp only [Int.toNat_natCast] at hv
 cases hv
 have hnl : n <= f.st.length := by omega
 have hw : IntKind.i64.wrap ((f.st.length : Int) - g.Params) = ((f.st.length - n : Nat) : Int) := by rw [hn, q9 zO]; omega
 have hsp : flat (avI .u64) f.st.reverse = flat (avI .u64) (f.st.drop n).reverse ++ flat (avI .u64) (f.st.take n).reverse := by
  rw [<- n7, <- List.reverse_append, List.take_append_drop]
 have hl1 : (flat (avI .u64) (f.st.drop n).reverse).length = f.st.length - n := by rw [(f7 .u64).length]; simp [f5]
 have hl2 : (flat (avI .u64) (f.st.take n).reverse).length = n := by rw [(f7 .u64).length]; simp [f5]; omega
 have hlt : (f.st.take n).reverse.length = n := by simp; omega
 refine i8 mixed c2b zS [] (fun R S hS => ?_)
 refine aU ?_
 refine c9 hS rfl (.head _) (v := .ref q.t q.tv 0 f.st.length none) rfl ?_
 refine aU ?_
 refine c9 hS rfl (.head _) (v := .cptr (Program.av p).cells 0) rfl ?_
 refine aU ?_
 refine l8 (esh := some 5) (f := Func.av) (ys := p.Funcs) (y := g) rfl rfl hg ?_
 refine aU ?_
 refine c9 hS rfl (.head _) (v := .ref q.t q.tv 0 f.st.length none) rfl ?_
 refine aU ?_
 refine b5x (n := f.st.length) (a := f.st.length - n) rfl (by show loN (some (AV.int .i64 (IntKind.i64.wrap ((f.st.length : Int) - g.Params)))) = _; rw [hw]; simp [loN]) zO (fun w hsrc => ?_)
 obtain ⟨rdx, hsrc⟩ := hsrc S _ (hS.at (.tail _ (.tail _ (.head _))))
 rw [hsp, List.append_assoc, <- hl1, List.drop_left, hl1, show f.st.length - (f.st.length - n) = (flat (avI .u64) (f.st.take n).reverse).length by omega, List.take_left, hl2] at hsrc
 refine b9g (esh := none) (f := avI .u64) (l := []) (m := (f.st.take n).reverse) (f7 .u64) rfl (.inl ⟨rfl, rfl⟩) (rdx := rdx) (by show a6L none w S = some ((f.st.take n).reverse.length, _, rdx); rw [hlt, hsrc]) (by rw [hlt]; simp; omega) ?_
 refine aU ?_
 refine c9 hS rfl (.head _) (v := .ref q.t q.tv 0 f.st.length none) rfl ?_
 refine aU ?_
 refine a2f (a := 0) (b := f.st.length - n) rfl rfl (by show hiN f.st.length (some (.int .i64 (IntKind.i64.wrap ((f.st.length : Int) - g.Params)))) = _; rw [hw, z0 zO]; simp) ⟨by omega, by omega, .inl rfl⟩ ?_
 refine aU ?_
 refine E_stS hS rfl (xv := .ref q.t q.tv 0 (f.st.length - n) none) (by show AV.ref q.t q.tv (0 + 0 * f5 none) (f.st.length - n - 0) none = _; simp) Rp.here rfl rfl zV (fun S hS => ?_)
 refine aU ?_
 refine d8 ?_
 refine aE ?_
 refine ⟨trivial, _, rfl, _, ⟨rfl, { q with tj := flat (avI .u64) (f.st.take n).reverse ++ q.tj }, rfl, rfl, rfl⟩, ?_⟩
 rw [hsp, List.append_assoc] at hS
 show Sep S ((q.x, 0, [AV.cptr (Program.av p).cells 0, .cptr (Func.av f.f).cells 0, .ref q.l 0 0 f.lo.length none, .ref q.t q.tv 0 (f.st.drop n).length none, .int .i64 f.pc, .int .i64 f.nu]) :: _)
 rw [List.length_drop]
 exact hS
end
end Go.Proofs.Ytnpemocpfdgaoaa

/- core.M's Len, sem.Run's Make: the walks. -/
namespace Go.Ab
section
variable {P : Program} {S0 : List Ob} {ow : List Nat} {fr : Fr} {S : List Ob} {log : List LE} {L L' : List It}
theorem b9K {d s x rs} {K : Fr -> List Ob -> List LE -> Prop} {esh : Option Nat} {o ver n m : Nat} {cs ys : List AV} {rdx : List Nat} (hS : Sep S L) (e : ev (Fr.get fr) s = .ref o ver 0 m esh) (e2 : a6L esh (ev (Fr.get fr) x) S = some (n, ys, rdx)) (hn : n <= m)
  (h1 : ys.all AV.one = true) (hr : Rp L (o, ver, cs) (o, ver, splice cs 0 ys) L')
  (h : ∀ S', Sep S' L' -> VTops P ow rs ((d, .int .i64 n) :: fr) S' (.acc (o :: rdx) (some o) :: log) K) : VTops P ow (⟨some d, none, .op (.cpy esh s x)⟩ :: rs) fr S log K := by
 have ho := hS.at hr.mem
 refine t8 (v := .int .i64 n) (rd := rdx) (δ := some (o, .arr ver (splice cs 0 ys))) ?_ rfl rfl (h _ (hS.rp hr))
 simp only [opV, c0Y, e, e2, Option.bind_some, h1, if_true]
 rw [if_pos ⟨trivial, hn⟩]
 simp only [y9, ho, if_true, Option.map_some]
theorem a8Z {ag : List Int} {n : Nat} (h : ag.length <= n) : splice (flat (avI .u64) (List.replicate n 0)) 0 (flat (avI .u64) ag) = flat (avI .u64) (ag ++ List.replicate (n - ag.length) 0) := by
 have h1 : ∀ l : List Int, (flat (avI .u64) l).length = l.length := fun l => by rw [(f7 .u64).length]; simp [f5]
 have h2 : List.replicate n (0 : Int) = List.replicate ag.length 0 ++ List.replicate (n - ag.length) 0 := by rw [List.replicate_append_replicate]; congr 1; omega
 have h3 := a4G (flat (avI .u64) ag) (a := []) (c := flat (avI .u64) (List.replicate ag.length (0 : Int))) (b := flat (avI .u64) (List.replicate (n - ag.length) (0 : Int))) (fo := 0) (by simp [h1])
 have h4 := a7n (flat (avI .u64) ag) [] (flat (avI .u64) (List.replicate ag.length (0 : Int))) (by simp [h1])
 simp only [List.nil_append, List.length_nil, Nat.zero_add] at h3 h4
 rw [h2, n7, n7, h3, h4]
end
end Go.Ab
namespace Go.Proofs.Ytnpemocpfdgaoaa
open Go Go.Ab
set_option maxRecDepth 20000
set_option maxHeartbeats 2000000
noncomputable def c5i : FC := fcO 42
theorem c5j : Fn3 Try.prog 42 8 [(2, none)] c5i := ⟨_, _, Try.func42, rfl, rfl, rfl, by kernel_rfl⟩

noncomputable def c5k : FC := fcO 41
theorem c5l : Fn3 Try.prog 41 34 [(7, none)] c5k := ⟨_, _, Try.func41, rfl, rfl, rfl, by kernel_rfl⟩

section
variable {a0 a1 a2 a3 a4 a5 a6 a7 a9 a10 : AV} {m ro rv n : Nat} {p : Program}
theorem b7L : b4I Try.prog 42 [.ptr m 0 0] [(m, 0, [a0, a1, a2, a3, a4, a5, a6, a7, .ref ro rv 0 n none, a9, a10])] (.int .i64 n) := by
 refine a5j mixed c5j zS [] (fun R S hS => ?_)
 refine aU ?_
 refine c9 hS rfl (.head _) (v := .ref ro rv 0 n none) rfl ?_
 refine aU ?_
 refine d8 ?_
 refine aE ?_
 exact ⟨trivial, _, rfl, rfl, rfl⟩
def a1e (p : Program) (k : Int) (ag : List Int) (n : Nat) : Option SFr := (j7 p.Funcs k).bind fun g => if ag.length <= g.Locals.length then some ⟨g, ag ++ List.replicate (g.Locals.length - ag.length) 0, [], 0, (n : Int) - 1⟩ else none
theorem b5B {k : Int} {ag : List Int} {f : SFr} (hv : a1e p k ag n = some f) (hn : n < 1000000000) (hl : f.f.Locals.length < 1000000000) :
  Tri Try.prog 41 [.ptr m 0 0, .int .i64 k, .sl false 1 (ag.map (avI .u64)), .cptr (Program.av p).cells 0] [(m, 0, [a0, a1, a2, a3, a4, a5, a6, a7, .ref ro rv 0 n none, a9, a10])]
   (fun r L' => ∃ q, r = .iface 128 (.ptr q.x 0 0) /\ L' = frL p f q ++ [(m, 0, [a0, a1, a2, a3, a4, a5, a6, a7, .ref ro rv 0 n none, a9, a10])]) := by
 unfold a1e at hv
 obtain ⟨g, hg, hv⟩ := Option.bind_eq_some_iff.1 hv
 split at hv
 case isFalse => cases hv
 rename_i hgl
 cases hv
 have hw : IntKind.i64.wrap ((n : Int) - 1) = (n : Int) - 1 := by rw [q9 zO]
 refine i8 mixed c5l zS [20, 25] (fun R S hS => ?_)
 refine aU ?_
 refine l8 (esh := some 5) (f := Func.av) (ys := p.Funcs) (y := g) rfl rfl hg ?_
 refine aU ?_
 refine a0r ?_
 refine aU ?_
 refine b9s (f := avI .u64) (x := (0 : Int)) (n := g.Locals.length) (n' := g.Locals.length) hS (f7 .u64) rfl rfl rfl rfl (by simp at hl; omega) (fun l S hS => ?_)
 refine aU ?_
 have hlm : m ≠ l := fun e => (List.nodup_cons.1 hS.2).1 (by rw [<- e]; simp)
 refine b7H b7L hS rfl (Spl.cons (Pk.there Pk.here) Spl.nil) ?_
 refine aU ?_
 refine a8b hS rfl (xv := .agg [.cptr (Program.av p).cells 0, .cptr (Func.av g).cells 0, .ref l 0 0 g.Locals.length none, .nils, .int .i64 0, .int .i64 ((n : Int) - 1)]) (by show AV.agg [_, _, _, _, _, .int .i64 (IntKind.i64.wrap ((n : Int) - 1))] = _; rw [hw]; rfl) rfl (fun x S hS => ?_)
 refine aU ?_
 refine And.intro (by simp [a0q, a4A, y6, a1j, hlm, Ne.symm hlm]) ?_
 refine b3m 3 none (Lf := fun o' => (x, 0, [.cptr (Program.av p).cells 0, .cptr (Func.av g).cells 0, .ref l 0 0 g.Locals.length none, .ref o' 0 0 0 none, .int .i64 0, .int .i64 ((n : Int) - 1)]) :: (l, 0, flat (avI .u64) (List.replicate (g.Locals.length : Int).toNat 0)) :: (m, 0, [a0, a1, a2, a3, a4, a5, a6, a7, .ref ro rv 0 n none, a9, a10]) :: R) hS (fun o' => Rp.here) rfl (fun t S hS => ?_)
 refine aU ?_
 refine c9 hS rfl (.tail _ (.head _)) (v := .ref l 0 0 g.Locals.length none) rfl ?_
 refine aU ?_
 refine b9K (n := ag.length) (ys := flat (avI .u64) ag) (L' := (t, 0, []) :: (x, 0, [.cptr (Program.av p).cells 0, .cptr (Func.av g).cells 0, .ref l 0 0 g.Locals.length none, .ref t 0 0 0 none, .int .i64 0, .int .i64 ((n : Int) - 1)]) :: (l, 0, flat (avI .u64) (ag ++ List.replicate (g.Locals.length - ag.length) 0)) :: (m, 0, [a0, a1, a2, a3, a4, a5, a6, a7, .ref ro rv 0 n none, a9, a10]) :: R) hS rfl (s4 (f := avI .u64) (esh := none) ag) hgl ((f7 .u64).all _) (by
  rw [Int.toNat_natCast]
  refine Rp.there (Rp.there ?_)
  show Rp _ _ (l, 0, splice (flat (avI .u64) (List.replicate g.Locals.length 0)) 0 (flat (avI .u64) ag)) _
  rw [a8Z hgl]; exact Rp.here) (fun S hS => ?_)
 refine aU ?_
 refine d8 ?_
 refine aE ?_
 have hlo : (ag ++ List.replicate (g.Locals.length - ag.length) (0 : Int)).length = g.Locals.length := by simp; omega
 refine ⟨trivial, _, rfl, _, ⟨⟨x, l, t, 0, []⟩, rfl, rfl⟩, ?_⟩
 show Sep S ([(x, 0, [AV.cptr (Program.av p).cells 0, .cptr (Func.av g).cells 0, .ref l 0 0 (ag ++ List.replicate (g.Locals.length - ag.length) (0 : Int)).length none, .ref t 0 0 0 none, .int .i64 0, .int .i64 ((n : Int) - 1)]), (l, 0, flat (avI .u64) (ag ++ List.replicate (g.Locals.length - ag.length) 0)), (t, 0, []), (m, 0, _)] ++ R)
 rw [hlo]
 exact hS.perm (Spl.cons (Pk.there Pk.here) (Spl.cons (Pk.there Pk.here) (Spl.cons Pk.here (.refl _))))
end
end Go.Proofs.Ytnpemocpfdgaoaa

/- core.M's push: the walk. -/
namespace Go.Proofs.Ytnpemocpfdgaoaa
open Go Go.Ab
set_option maxRecDepth 20000
set_option maxHeartbeats 2000000
noncomputable def c5m : FC := fcO 98
theorem c5n : Fn3 Try.prog 98 46 [] c5m := ⟨_, _, Try.func98, rfl, rfl, rfl, by kernel_rfl⟩

noncomputable def c5o : FC := fcO 67
theorem c5p : Fn3 Try.prog 67 10 [] c5o := ⟨_, _, Try.func67, rfl, rfl, rfl, by kernel_rfl⟩

section
variable {a0 a2 a3 a4 a6 a7 a9 a10 : AV} {m ro rv n : Nat} {p : Program} {rc rj : List AV} {dep w k : Int} {ag : List Int} {f : SFr}
theorem a9a (hv : a1e p k ag (n + 1) = some f) (hn : n < 100000000) (hl : f.f.Locals.length < 1000000000) (hrc : rc.length = n) (hd : 0 <= dep /\ dep < 1000000000) :
  Tri Try.prog 98 [.ptr m 0 0, .int .i64 k, .sl false 1 (ag.map (avI .u64)), .int .i64 w] [(m, 0, [a0, mkA p, a2, a3, a4, .int .i64 dep, a6, a7, .ref ro rv 0 n none, a9, a10]), (ro, rv, rc ++ rj)]
   (fun r L' => ∃ s d q, L' = [(m, 0, [a0, mkA p, a2, a3, a4, .int .i64 (max dep ((n : Int) + 1)), a6, a7, .ref ro (rv + 1) 0 (n + 1) none, a9, a10]), (ro, rv + 1, rc ++ [.ptr s 0 0])] ++ a1A p ⟨⟨f, w, [], 0⟩, s, d, 0, [], q⟩) := by
 refine i8 mixed c5n zS [11] (fun R S hS => ?_)
 refine aU ?_
 refine a8b hS rfl (xv := .agg [.nili, .int .i64 w, .nils, .int .u64 0]) rfl rfl (fun s S hS => ?_)
 refine aS ?_
 refine j8 ?_
 refine b3m 2 (some 2) (Lf := fun o' => (s, 0, [.nili, .int .i64 w, .ref o' 0 0 0 (some 2), .int .u64 0]) :: (m, 0, [a0, mkA p, a2, a3, a4, .int .i64 dep, a6, a7, .ref ro rv 0 n none, a9, a10]) :: (ro, rv, rc ++ rj) :: R) hS (fun o' => Rp.here) rfl (fun d S hS => ?_)
 refine aU ?_
 refine c9 hS rfl (.tail _ (.tail _ (.head _))) (v := .ref ro rv 0 n none) rfl ?_
 refine aU ?_
 refine b9H (o := ro) (ver := rv) (n := n) (m := 1) (cs := rc) (j := rj) (ys := [.ptr s 0 0]) hS rfl (rdx := []) rfl (Rp.there (Rp.there (Rp.there Rp.here))) (by simp [f5, hrc]) rfl zO (fun S hS => ?_)
 refine aU ?_
 refine E_stS hS rfl (xv := .ref ro (rv + 1) 0 (n + 1) none) rfl (Rp.there (Rp.there Rp.here)) rfl rfl zV (fun S hS => ?_)
 refine aU ?_
 refine c9 hS rfl (.tail _ (.tail _ (.head _))) (v := .int .i64 dep) rfl ?_
 refine aU ?_
 refine c9 hS rfl (.tail _ (.tail _ (.head _))) (v := .ref ro (rv + 1) 0 (n + 1) none) rfl ?_
 refine aU ?_
 have hmx : (if ((n + 1 : Nat) : Int) > dep then ((n + 1 : Nat) : Int) else dep) = max dep ((n : Int) + 1) := by split <;> omega
 refine E_stS hS rfl (xv := .int .i64 (max dep ((n : Int) + 1))) (by show AV.int .i64 (if true = true then if ((n + 1 : Nat) : Int) > dep then ((n + 1 : Nat) : Int) else dep else _) = _; rw [if_pos rfl, hmx]) (Rp.there (Rp.there Rp.here)) rfl rfl zV (fun S hS => ?_)
 refine aU ?_
 refine c9 hS rfl (.tail _ (.tail _ (.head _))) (v := mkA p) rfl ?_
 refine aU ?_
 refine b5t (b5B (m := m) (p := p) (a0 := a0) (a1 := mkA p) (a2 := a2) (a3 := a3) (a4 := a4) (a5 := .int .i64 (max dep ((n : Int) + 1))) (a6 := a6) (a7 := a7) (a9 := a9) (a10 := a10) (ro := ro) (rv := rv + 1) (n := n + 1) (k := k) (ag := ag) hv zO hl) hS rfl rfl rfl (Spl.cons (Pk.there (Pk.there Pk.here)) Spl.nil) (fun r S L' hL hS => ?_)
 obtain ⟨q, rfl, rfl⟩ := hL
 refine aU ?_
 refine E_stS hS rfl (xv := .iface 128 (.ptr q.x 0 0)) rfl (Rp.there (Rp.there (Rp.there (Rp.there (Rp.there Rp.here))))) rfl rfl zV (fun S hS => ?_)
 refine aU ?_
 refine aE ?_
 refine ⟨trivial, _, rfl, _, ⟨s, d, q, rfl⟩, ?_⟩
 have hS2 : Sep S ((q.x, 0, frC p f q) :: (q.l, 0, flat (avI .u64) f.lo) :: (q.t, q.tv, flat (avI .u64) f.st.reverse ++ q.tj) :: (m, 0, [a0, mkA p, a2, a3, a4, .int .i64 (max dep ((n : Int) + 1)), a6, a7, .ref ro (rv + 1) 0 (n + 1) none, a9, a10]) :: (d, 0, []) :: (s, 0, [.iface 128 (.ptr q.x 0 0), .int .i64 w, .ref d 0 0 0 (some 2), .int .u64 0]) :: (ro, rv + 1, rc ++ [.ptr s 0 0]) :: R) := hS
 exact hS2.perm (Spl.cons (Pk.there (Pk.there (Pk.there Pk.here))) (Spl.cons (Pk.there (Pk.there (Pk.there (Pk.there (Pk.there Pk.here))))) (Spl.cons (Pk.there (Pk.there (Pk.there (Pk.there Pk.here)))) (Spl.cons (Pk.there (Pk.there (Pk.there Pk.here))) (.refl _)))))
theorem a9b (hv : a1e p k ag (n + 1) = some f) (hn : n < 100000000) (hl : f.f.Locals.length < 1000000000) (hrc : rc.length = n) (hd : 0 <= dep /\ dep < 1000000000) :
  Tri Try.prog 67 [.ptr m 0 0, .int .i64 k, .sl false 1 (ag.map (avI .u64))] [(m, 0, [a0, mkA p, a2, a3, a4, .int .i64 dep, a6, a7, .ref ro rv 0 n none, a9, a10]), (ro, rv, rc ++ rj)]
   (fun r L' => ∃ s d q, L' = [(m, 0, [a0, mkA p, a2, a3, a4, .int .i64 (max dep ((n : Int) + 1)), a6, a7, .ref ro (rv + 1) 0 (n + 1) none, a9, a10]), (ro, rv + 1, rc ++ [.ptr s 0 0])] ++ a1A p ⟨⟨f, 0, [], 0⟩, s, d, 0, [], q⟩) := by
 refine i8 mixed c5p zS [] (fun R S hS => ?_)
 refine m7 ?_
 refine aS ?_
 refine u6 (a9a (w := 0) hv hn hl hrc hd) hS rfl (Spl.cons Pk.here (Spl.cons Pk.here Spl.nil)) (fun r S L' hL hS => ?_)
 refine aU ?_
 refine aE ?_
 exact ⟨trivial, _, rfl, _, hL, hS⟩
end
end Go.Proofs.Ytnpemocpfdgaoaa

/- core.M's next, Defer: the walks. -/
namespace Go.Ab
theorem a5z {a b : List AV} {x : AV} (hx : x.one = true) {i : Nat} (hi : i = a.length) : a0G none (a ++ x :: b) (0 + i * f5 none) = some x := by
 subst hi
 rw [show 0 + a.length * f5 none = a.length by simp [f5]]
 unfold a0G
 simp
theorem b5C {m r o s d : It} {A R : List It} : List.Perm (m :: r :: (A ++ (o :: s :: d :: R))) (o :: ((([m, r] ++ [s, d]) ++ A) ++ R)) :=
 Spl.cons (Pk.there (Pk.there (Pk.skip Pk.here))) (Spl.cons Pk.here (Spl.cons Pk.here (Spl.cons (Pk.skip Pk.here) (Spl.cons (Pk.skip Pk.here) (.refl _)))))
theorem a2v {n : Nat} (h : n < 1000000000) : IntKind.i64.wrap (((n + 1 : Nat) : Int) - 1) = (n : Int) := by rw [q9 zO]; omega
end Go.Ab
namespace Go.Proofs.Ytnpemocpfdgaoaa
open Go Go.Ab
set_option maxRecDepth 20000
set_option maxHeartbeats 2000000
noncomputable def c2f : FC := fcO 157
theorem b9L : Fn3 Try.prog 157 58 [(4, none)] c2f := ⟨_, _, Try.func157, rfl, rfl, rfl, by kernel_rfl⟩

section
variable {a0 a2 a3 a4 a6 a7 a9 a10 : AV} {m ro rv n : Nat} {p : Program} {rc rj : List AV} {dep w live : Int} {z : Row} {f : SFr}
theorem a9c (hz : z.df = []) (hn : n < 100000000) (hrc : rc.length = n) :
  Tri Try.prog 157 [.ptr m 0 0, .int .i64 w] ((m, 0, [a0, mkA p, a2, a3, a4, .int .i64 dep, a6, a7, .ref ro rv 0 (n + 1) none, a9, a10]) :: (ro, rv, rc ++ (.ptr z.s 0 0 :: rj)) :: slL z)
   (fun r L' => r = .bool false /\ L' = (m, 0, [a0, mkA p, a2, a3, a4, .int .i64 dep, a6, a7, .ref ro rv 0 (n + 1) none, a9, a10]) :: (ro, rv, rc ++ (.ptr z.s 0 0 :: rj)) :: slL z) := by
 refine i8 mixed b9L zS [7] (fun R S hS => ?_)
 refine aU ?_
 refine c9 hS rfl (.head _) (v := .ref ro rv 0 (n + 1) none) rfl ?_
 refine aU ?_
 refine c9 hS rfl (.head _) (v := .ref ro rv 0 (n + 1) none) rfl ?_
 refine aU ?_
 refine p6 rfl rfl n (a2v zO) zO ?_
 refine c9 hS rfl (.tail _ (.head _)) (v := .ptr z.s 0 0) (a5z rfl hrc.symm) ?_
 refine aU ?_
 refine c9 hS rfl (.tail _ (.tail _ (.head _))) (v := .ref z.d z.dv 0 z.df.length (some 2)) rfl ?_
 refine aU ?_
 refine E_cs (t := true) (by show AV.bool (decide (IntKind.i64.wrap ((z.df.length : Int) - 1) < 0)) = _; rw [hz]; rfl) (fun _ => ?_) (fun h => by cases h)
 refine aU ?_
 refine d8 ?_
 refine aE ?_
 exact ⟨trivial, _, rfl, _, ⟨rfl, rfl⟩, hS⟩
theorem a9d {x : a0y} {df : List a0y} (hz : z.df = x :: df) (hv : a1e p x.f x.args (n + 2) = some f) (hn : n < 10000000) (hl : f.f.Locals.length < 1000000000) (hrc : rc.length = n) (hd : 0 <= dep /\ dep < 1000000000) (hdf : df.length < 100000000) (hlv : 0 < live /\ live < 1000000000) :
  Tri Try.prog 157 [.ptr m 0 0, .int .i64 w] ((m, 0, [a0, mkA p, a2, a3, a4, .int .i64 dep, a6, a7, .ref ro rv 0 (n + 1) none, a9, .int .i64 live]) :: (ro, rv, rc ++ (.ptr z.s 0 0 :: rj)) :: slL z)
   (fun r L' => r = .bool true /\ ∃ s d q, L' = ([(m, 0, [a0, mkA p, a2, a3, a4, .int .i64 (max dep ((n : Int) + 2)), a6, a7, .ref ro (rv + 1) 0 (n + 2) none, a9, .int .i64 (live - 1)]), (ro, rv + 1, rc ++ [.ptr z.s 0 0, .ptr s 0 0])] ++ slL { z with df := df, dj := x.cells ++ z.dj }) ++ a1A p ⟨⟨f, w, [], 0⟩, s, d, 0, [], q⟩) := by
 have hx : z.df.reverse[df.length]? = some x := by rw [hz, List.reverse_cons, List.getElem?_append_right zS]; simp
 have hlen : z.df.length = df.length + 1 := by rw [hz]; rfl
 refine i8 mixed b9L zS [7] (fun R S hS => ?_)
 refine aU ?_
 refine c9 hS rfl (.head _) (v := .ref ro rv 0 (n + 1) none) rfl ?_
 refine aU ?_
 refine c9 hS rfl (.head _) (v := .ref ro rv 0 (n + 1) none) rfl ?_
 refine aU ?_
 refine p6 rfl rfl n (a2v zO) zO ?_
 refine c9 hS rfl (.tail _ (.head _)) (v := .ptr z.s 0 0) (a5z rfl hrc.symm) ?_
 refine aU ?_
 refine c9 hS rfl (.tail _ (.tail _ (.head _))) (v := .ref z.d z.dv 0 (df.length + 1) (some 2)) (by rw [<- hlen]; rfl) ?_
 refine aU ?_
 refine E_cs (t := false) (by show AV.bool (decide (IntKind.i64.wrap (((df.length + 1 : Nat) : Int) - 1) < 0)) = _; rw [a2v zO, decide_eq_false zO]) (fun h => by cases h) (fun _ => ?_)
 refine aU ?_
 refine c9 hS rfl (.tail _ (.tail _ (.head _))) (v := .ref z.d z.dv 0 (df.length + 1) (some 2)) (by rw [<- hlen]; rfl) ?_
 refine aU ?_
 refine p6 rfl rfl df.length (a2v zO) zO ?_
 refine a4n hS a0y.enc rfl (.tail _ (.tail _ (.tail _ (.head _)))) (n := df.length) (fo := 0) (y := x) zS hx (v := x.av) rfl ?_
 refine a5G hS rfl (fun o S hS => ?_)
 refine E_stS hS rfl (xv := x.av) rfl Rp.here rfl rfl zV (fun S hS => ?_)
 refine aU ?_
 refine c9 hS rfl (.tail _ (.tail _ (.tail _ (.head _)))) (v := .ref z.d z.dv 0 (df.length + 1) (some 2)) (by rw [<- hlen]; rfl) ?_
 refine aU ?_
 refine a2f (a := 0) (b := df.length) rfl rfl (by show hiN (df.length + 1) (some (.int .i64 (IntKind.i64.wrap (((df.length + 1 : Nat) : Int) - 1)))) = _; rw [a2v zO, z0 zO]; simp) ⟨by omega, by omega, .inl rfl⟩ ?_
 refine aU ?_
 refine E_stS hS rfl (xv := .ref z.d z.dv 0 df.length (some 2)) (by show AV.ref z.d z.dv (0 + 0 * f5 (some 2)) (df.length - 0) (some 2) = _; simp) (Rp.there (Rp.there (Rp.there Rp.here))) rfl rfl zV (fun S hS => ?_)
 refine aU ?_
 refine c9 hS rfl (.tail _ (.head _)) (v := .int .i64 live) rfl ?_
 refine aU ?_
 refine E_stS hS rfl (xv := .int .i64 (live - 1)) (by show AV.int .i64 (IntKind.i64.wrap (live - 1)) = _; rw [q9 zO]) (Rp.there Rp.here) rfl rfl zV (fun S hS => ?_)
 refine aU ?_
 refine c9 hS rfl (.head _) (v := .int .i64 x.f) rfl ?_
 refine aU ?_
 refine c9 hS rfl (.head _) (v := .sl false 1 (x.args.map (avI .u64))) rfl ?_
 refine aU ?_
 have hS1 : Sep S ((o, 0, x.cells) :: (m, 0, [a0, mkA p, a2, a3, a4, .int .i64 dep, a6, a7, .ref ro rv 0 (n + 1) none, a9, .int .i64 (live - 1)]) :: (ro, rv, (rc ++ [.ptr z.s 0 0]) ++ rj) :: (z.s, 0, [.iface 128 (.ptr z.q.x 0 0), .int .i64 z.why, .ref z.d z.dv 0 df.length (some 2), .int .u64 z.ret]) :: (z.d, z.dv, flat a0y.av z.df.reverse ++ z.dj) :: R) := by rw [List.append_assoc]; exact hS
 refine u6 (a9a (m := m) (a0 := a0) (p := p) (a2 := a2) (a3 := a3) (a4 := a4) (dep := dep) (a6 := a6) (a7 := a7) (a9 := a9) (a10 := .int .i64 (live - 1)) (n := n + 1) (ro := ro) (rv := rv) (rc := rc ++ [.ptr z.s 0 0]) (rj := rj) (w := w) hv zO hl (by simp [hrc]) hd) hS1 rfl (Spl.cons (Pk.there Pk.here) (Spl.cons (Pk.there Pk.here) Spl.nil)) (fun r S L' hL hS => ?_)
 obtain ⟨s, d, q, rfl⟩ := hL
 refine aU ?_
 refine d8 ?_
 refine aE ?_
 refine ⟨trivial, _, rfl, _, ⟨rfl, s, d, q, rfl⟩, ?_⟩
 have e1 : max dep (((n + 1 : Nat) : Int) + 1) = max dep ((n : Int) + 2) := by omega
 have e2 : flat a0y.av z.df.reverse ++ z.dj = flat a0y.av df.reverse ++ (x.cells ++ z.dj) := by rw [hz, List.reverse_cons, n7, List.append_assoc]; rfl
 rw [e1, e2, List.append_assoc rc] at hS
 have hS3 := hS.perm (b5C (A := a1A p ⟨⟨f, w, [], 0⟩, s, d, 0, [], q⟩) (R := R) : List.Perm (_ :: _ :: (_ ++ (_ :: _ :: _ :: R))) _)
 exact hS3.sub (List.sublist_cons_self _ _)
end
end Go.Proofs.Ytnpemocpfdgaoaa

/- core.M's Defer, Recover, Panic: the walks. -/
namespace Go.Proofs.Ytnpemocpfdgaoaa
open Go Go.Ab
set_option maxRecDepth 20000
set_option maxHeartbeats 2000000
noncomputable def c2g : FC := fcO 152
theorem c2h : Fn3 Try.prog 152 50 [] c2g := ⟨_, _, Try.func152, rfl, rfl, rfl, by kernel_rfl⟩

noncomputable def c2i : FC := fcO 154
theorem c2j : Fn3 Try.prog 154 52 [(2, none), (3, none)] c2i := ⟨_, _, Try.func154, rfl, rfl, rfl, by kernel_rfl⟩

section
variable {a0 a1 a2 a3 a4 a5 a6 a7 a9 a10 : AV} {m ro rv n : Nat} {p : Program} {rc rj : List AV} {dep w k live dfs : Int} {ag : List Int} {z : Row} {f : SFr}
theorem b9M {a b : Int} : (if b > a then b else a) = max a b := by split <;> omega
theorem b1C (hn : n < 100000000) (hrc : rc.length = n) (hdf : z.df.length < 100000000) (hlv : 0 <= live /\ live < 1000000000) :
  Tri Try.prog 152 [.ptr m 0 0, .int .i64 k, .sl false 1 (ag.map (avI .u64))] ((m, 0, [a0, a1, a2, a3, a4, a5, .int .i64 dfs, a7, .ref ro rv 0 (n + 1) none, a9, .int .i64 live]) :: (ro, rv, rc ++ (.ptr z.s 0 0 :: rj)) :: slL z)
   (fun r L' => L' = (m, 0, [a0, a1, a2, a3, a4, a5, .int .i64 (max dfs (live + 1)), a7, .ref ro rv 0 (n + 1) none, a9, .int .i64 (live + 1)]) :: (ro, rv, rc ++ (.ptr z.s 0 0 :: rj)) :: slL { z with df := ⟨k, ag⟩ :: z.df, dv := z.dv + 1, dj := [] }) := by
 refine i8 mixed c2h zS [] (fun R S hS => ?_)
 refine aU ?_
 refine c9 hS rfl (.head _) (v := .ref ro rv 0 (n + 1) none) rfl ?_
 refine aU ?_
 refine c9 hS rfl (.head _) (v := .ref ro rv 0 (n + 1) none) rfl ?_
 refine aU ?_
 refine p6 rfl rfl n (a2v zO) zO ?_
 refine c9 hS rfl (.tail _ (.head _)) (v := .ptr z.s 0 0) (a5z rfl hrc.symm) ?_
 refine aU ?_
 refine c9 hS rfl (.tail _ (.tail _ (.head _))) (v := .ref z.d z.dv 0 z.df.length (some 2)) rfl ?_
 refine aU ?_
 refine a4m (o := z.d) (ver := z.dv) (f := a0y.av) (l := z.df.reverse) (m := [(⟨k, ag⟩ : a0y)]) (j := z.dj) hS a0y.enc (by show AV.ref z.d z.dv 0 z.df.length _ = _; rw [List.length_reverse]) (s4 (f := a0y.av) (esh := some 2) [(⟨k, ag⟩ : a0y)]) (Rp.there (Rp.there (Rp.there Rp.here))) ⟨by simp; omega, by simp; omega⟩ (fun S hS => ?_)
 refine aU ?_
 refine E_stS hS rfl (xv := .ref z.d (z.dv + 1) 0 (z.df.length + 1) (some 2)) (by show AV.ref z.d (z.dv + 1) 0 (z.df.reverse ++ [(⟨k, ag⟩ : a0y)]).length _ = _; simp) (Rp.there (Rp.there Rp.here)) rfl rfl zV (fun S hS => ?_)
 refine aU ?_
 refine c9 hS rfl (.head _) (v := .int .i64 live) rfl ?_
 refine aU ?_
 refine E_stS hS rfl (xv := .int .i64 (live + 1)) (by show AV.int .i64 (IntKind.i64.wrap (live + 1)) = _; rw [q9 zO]) Rp.here rfl rfl zV (fun S hS => ?_)
 refine aU ?_
 refine c9 hS rfl (.head _) (v := .int .i64 dfs) rfl ?_
 refine aU ?_
 refine c9 hS rfl (.head _) (v := .int .i64 (live + 1)) rfl ?_
 refine aU ?_
 refine E_stS hS rfl (xv := .int .i64 (max dfs (live + 1))) (by show AV.int .i64 (if true = true then if live + 1 > dfs then live + 1 else dfs else _) = _; rw [if_pos rfl, b9M]) Rp.here rfl rfl zV (fun S hS => ?_)
 refine aU ?_
 refine aE ?_
 refine ⟨trivial, _, rfl, _, rfl, ?_⟩
 have e1 : flat a0y.av ((⟨k, ag⟩ : a0y) :: z.df).reverse ++ [] = flat a0y.av (z.df.reverse ++ [(⟨k, ag⟩ : a0y)]) := by rw [List.append_nil, List.reverse_cons]
 show Sep S (_ :: _ :: (z.s, 0, _) :: (z.d, z.dv + 1, flat a0y.av ((⟨k, ag⟩ : a0y) :: z.df).reverse ++ []) :: R)
 rw [e1]
 exact hS
end
section
variable {a0 a1 a2 a3 a4 a5 a6 a7 a10 : AV} {m ro rv n po pv : Nat} {p : Program} {rc rj pj : List AV} {z : Row} {pans : List n9}
def a1L (why : Int) (pans : List n9) : (Int × Int) × List n9 := match pans with
 | [] => ((0, 0), [])
 | x :: l => if why ≠ 2 \/ x.rcv = true then ((0, 0), x :: l) else ((x.v, 1), { x with rcv := true } :: l)
theorem a9T (hn : n < 100000000) (hrc : rc.length = n) (hp : z.why = 2 -> pans ≠ []) (hpl : pans.length < 100000000) :
  Tri Try.prog 154 [.ptr m 0 0] ((m, 0, [a0, a1, a2, a3, a4, a5, a6, a7, .ref ro rv 0 (n + 1) none, .ref po pv 0 pans.length (some 2), a10]) :: (ro, rv, rc ++ (.ptr z.s 0 0 :: rj)) :: (po, pv, flat n9.av pans.reverse ++ pj) :: slL z)
   (fun r L' => r = .tup [.int .u64 (a1L z.why pans).1.1, .int .u64 (a1L z.why pans).1.2] /\ L' = (m, 0, [a0, a1, a2, a3, a4, a5, a6, a7, .ref ro rv 0 (n + 1) none, .ref po pv 0 pans.length (some 2), a10]) :: (ro, rv, rc ++ (.ptr z.s 0 0 :: rj)) :: (po, pv, flat n9.av (a1L z.why pans).2.reverse ++ pj) :: slL z) := by
 refine i8 mixed c2j zS [] (fun R S hS => ?_)
 refine aU ?_
 refine c9 hS rfl (.head _) (v := .ref po pv 0 pans.length (some 2)) rfl ?_
 refine aU ?_
 refine c9 hS rfl (.head _) (v := .ref ro rv 0 (n + 1) none) rfl ?_
 refine aU ?_
 refine c9 hS rfl (.head _) (v := .ref ro rv 0 (n + 1) none) rfl ?_
 refine aU ?_
 refine p6 rfl rfl n (a2v zO) zO ?_
 refine c9 hS rfl (.tail _ (.head _)) (v := .ptr z.s 0 0) (a5z rfl hrc.symm) ?_
 refine aU ?_
 refine c9 hS rfl (.tail _ (.tail _ (.tail _ (.head _)))) (v := .int .i64 z.why) rfl ?_
 by_cases hw : z.why = 2
 ·obtain ⟨x, l, rfl⟩ : ∃ x l, pans = x :: l := by
   cases pans with
   | nil => exact absurd rfl (hp hw)
   | cons x l => exact ⟨x, l, rfl⟩
  have hx : (x :: l).reverse[l.length]? = some x := by rw [List.reverse_cons, List.getElem?_append_right zS]; simp
  simp only [List.length_cons] at hpl
  refine a2r (v' := .bool false) rfl (by show AV.bool (z.why != 2) = _; rw [hw]; rfl) ?_
  refine aU ?_
  refine c9 hS rfl (.head _) (v := .ref po pv 0 (l.length + 1) (some 2)) rfl ?_
  refine aU ?_
  refine p6 rfl rfl l.length (a2v zO) zO ?_
  refine aU ?_
  refine a4n hS n9.enc rfl (.tail _ (.tail _ (.head _))) (n := l.length) (fo := 1) (y := x) zS hx (v := .bool x.rcv) rfl ?_
  refine b2J rfl (v' := .bool x.rcv) rfl ?_
  refine aU ?_
  refine E_cs (t := x.rcv) rfl (fun hr => ?_) (fun hr => ?_)
  ·refine aU ?_
   refine d8 ?_
   refine aE ?_
   have e : a1L z.why (x :: l) = ((0, 0), x :: l) := by simp [a1L, hr]
   rw [e]
   exact ⟨trivial, _, rfl, _, ⟨rfl, rfl⟩, hS⟩
  ·refine aU ?_
   refine c9 hS rfl (.head _) (v := .ref po pv 0 (l.length + 1) (some 2)) rfl ?_
   refine aU ?_
   refine p6 rfl rfl l.length (a2v zO) zO ?_
   refine aU ?_
   refine b7G (y' := ({ x with rcv := true } : n9)) hS n9.enc rfl rfl (n := l.length) (fo := 1) (y := x) zS hx (Rp.there (Rp.there Rp.here)) rfl rfl (by simp [f5]) rfl (fun S hS => ?_)
   have hset : (x :: l).reverse.set l.length ({ x with rcv := true } : n9) = (({ x with rcv := true } : n9) :: l).reverse := by
    simp [List.set_append]
   rw [hset] at hS
   have hx2 : (({ x with rcv := true } : n9) :: l).reverse[l.length]? = some ({ x with rcv := true } : n9) := by rw [List.reverse_cons, List.getElem?_append_right zS]; simp
   refine aU ?_
   refine c9 hS rfl (.head _) (v := .ref po pv 0 (l.length + 1) (some 2)) rfl ?_
   refine aU ?_
   refine p6 rfl rfl l.length (a2v zO) zO ?_
   refine aU ?_
   refine a4n hS n9.enc rfl (.tail _ (.tail _ (.head _))) (n := l.length) (fo := 0) (y := ({ x with rcv := true } : n9)) zS hx2 (v := .int .u64 x.v) rfl ?_
   refine aU ?_
   refine d8 ?_
   refine aE ?_
   have e : a1L z.why (x :: l) = ((x.v, 1), { x with rcv := true } :: l) := by simp [a1L, hr, hw]
   rw [e]
   exact ⟨trivial, _, rfl, _, ⟨rfl, rfl⟩, hS⟩
 ·have hb : (z.why != 2) = true := by simpa using hw
  refine a2r (v' := .bool true) rfl (by show AV.bool (z.why != 2) = _; rw [hb]) ?_
  refine aU ?_
  refine E_cs (t := true) rfl (fun _ => ?_) (fun h => by cases h)
  refine aU ?_
  refine d8 ?_
  refine aE ?_
  have e : a1L z.why pans = ((0, 0), pans) := by
   unfold a1L
   cases pans with
   | nil => rfl
   | cons x l => simp only; rw [if_pos (.inl hw)]
  rw [e]
  exact ⟨trivial, _, rfl, _, ⟨rfl, rfl⟩, hS⟩
end
end Go.Proofs.Ytnpemocpfdgaoaa

/- core.M's unwind, Panic: the walks. -/
namespace Go.Proofs.Ytnpemocpfdgaoaa
open Go Go.Ab
set_option maxRecDepth 20000
set_option maxHeartbeats 2000000
noncomputable def c2k : FC := fcO 138
theorem c2l : Fn3 Try.prog 138 87 [] c2k := ⟨_, _, Try.func138, rfl, rfl, rfl, by kernel_rfl⟩

noncomputable def c2m : FC := fcO 150
theorem c2n : Fn3 Try.prog 150 30 [] c2m := ⟨_, _, Try.func150, rfl, rfl, rfl, by kernel_rfl⟩

def b6D (w : Int) (ps : List n9) : Option (List n9) := if w = 2 then (match ps with | a :: _ :: l => some (a :: l) | _ => none) else some ps
theorem a4M {w : Int} {ps q : List n9} (h : b6D w ps = some q) : (w = 2 /\ ∃ a b l, ps = a :: b :: l /\ q = a :: l) \/ (w ≠ 2 /\ q = ps) := by
 unfold b6D at h
 split at h
 ·rename_i hw
  split at h
  ·cases h; exact .inl ⟨hw, _, _, _, rfl, rfl⟩
  ·cases h
 ·rename_i hw
  cases h; exact .inr ⟨hw, rfl⟩
def c1i : List n9 -> Option Int
 | a :: _ => some a.v
 | [] => none
def x8 (p : Program) : List ARow -> List n9 -> Option (Option Int × List ARow × List n9)
 | [], _ => none
 | z :: r, ps => match z.df with
   | x :: df => (a1e p x.f x.args (r.length + 2)).bind fun f => some (none, ⟨f, 2, [], 0⟩ :: { z with df := df } :: r, ps)
   | [] => (b6D z.why ps).bind fun ps' => match r with
     | [] => (c1i ps').map fun v => (some v, [], ps')
     | y :: t => x8 p (y :: t) ps'
theorem a6y {p : Program} {z : ARow} {r : List ARow} {ps : List n9} {x} (hz : z.df = []) (h : x8 p (z :: r) ps = some x) : ∃ q, b6D z.why ps = some q /\ (r = [] -> ∃ v, c1i q = some v /\ x = (some v, [], q)) /\ (r ≠ [] -> x8 p r q = some x) := by
 unfold x8 at h
 rw [hz] at h
 obtain ⟨q, h1, h2⟩ := Option.bind_eq_some_iff.1 h
 refine ⟨q, h1, fun e => ?_, fun e => ?_⟩
 ·subst e
  obtain ⟨v, h3, h4⟩ := Option.map_eq_some_iff.1 h2
  exact ⟨v, h3, h4.symm⟩
 ·cases r with
  | nil => exact absurd rfl e
  | cons y t => exact h2
theorem a5A {p : Program} {z : ARow} {r : List ARow} {ps : List n9} {x y df} (hz : z.df = y :: df) (h : x8 p (z :: r) ps = some x) : ∃ f, a1e p y.f y.args (r.length + 2) = some f /\ x = (none, ⟨f, 2, [], 0⟩ :: { z with df := df } :: r, ps) := by
 unfold x8 at h
 rw [hz] at h
 obtain ⟨f, h1, h2⟩ := Option.bind_eq_some_iff.1 h
 cases h2
 exact ⟨f, h1, rfl⟩
abbrev a2j (rows : List Row) : List AV := (rows.map (fun z => AV.ptr z.s 0 0)).reverse
structure UO where
 m : Nat
 ro : Nat
 rv : Nat
 po : Nat
 pv : Nat
def uL (p : Program) (o : UO) (a0 a4 a6 a7 : AV) (ek ev dep live : Int) (rows : List Row) (ps : List n9) (rj pj : List AV) : List It :=
 (o.m, 0, [a0, mkA p, .int .i64 ek, .int .u64 ev, a4, .int .i64 dep, a6, a7, .ref o.ro o.rv 0 rows.length none, .ref o.po o.pv 0 ps.length (some 2), .int .i64 live]) :: (o.ro, o.rv, a2j rows ++ rj) :: (o.po, o.pv, flat n9.av ps.reverse ++ pj) :: rows.flatMap (a1A p)
theorem z7 {z : Row} {r : List Row} {rj : List AV} : a2j (z :: r) ++ rj = a2j r ++ (.ptr z.s 0 0 :: rj) := by simp [a2j]
theorem c5q {k : IntKind} {a b : Int} (h : a = b) : a5E none (.int k a) (.int k b) := h ▸ .refl _
theorem a5R {p : Program} {k : Int} {ag : List Int} {n : Nat} {f : SFr} (hl : ∀ g ∈ p.Funcs, g.Locals.length < 1000000000) (h : a1e p k ag n = some f) : f.f.Locals.length < 1000000000 := by
 unfold a1e at h
 obtain ⟨g, h1, h2⟩ := Option.bind_eq_some_iff.1 h
 split at h2
 ·cases h2; exact hl g (List.mem_of_getElem? (d9 h1).2.2)
 ·cases h2
theorem b0V {m r q : It} {A B C X R : List It} : List.Perm ((([m, r] ++ B) ++ A) ++ (q :: (C ++ X ++ R))) (m :: r :: q :: (A ++ (B ++ (C ++ (X ++ R))))) := by
 simp only [List.cons_append, List.nil_append, List.append_assoc]
 refine List.Perm.cons _ (List.Perm.cons _ ?_)
 have h1 : List.Perm (B ++ (A ++ (q :: (C ++ (X ++ R))))) (q :: (B ++ (A ++ (C ++ (X ++ R))))) := by
  simpa only [List.append_assoc] using (List.perm_middle : List.Perm ((B ++ A) ++ (q :: (C ++ (X ++ R)))) (q :: ((B ++ A) ++ (C ++ (X ++ R)))))
 refine h1.trans (List.Perm.cons _ ?_)
 rw [<- List.append_assoc, <- List.append_assoc A]
 exact List.Perm.append_right _ List.perm_append_comm
theorem b3t {m r s d q x l t : It} {X : List It} : List.Sublist (m :: r :: q :: X) (m :: r :: s :: d :: q :: x :: l :: t :: X) :=
 .cons_cons _ (.cons_cons _ (.cons _ (.cons _ (.cons_cons _ (.cons _ (.cons _ (.cons _ (.refl _))))))))
section
variable {a0 a4 a6 a7 : AV} {o : UO} {p : Program} {ek ev dep live : Int}
theorem a7r {rows : List Row} {ps ps' : List n9} {rj pj : List AV} {en : Option Int} {A' : List ARow} (hv : x8 p (a1Q rows) ps = some (en, A', ps')) (hn : rows.length < 10000000) (hp : ps.length < 10000000)
  (hl : ∀ g ∈ p.Funcs, g.Locals.length < 1000000000) (hd : 0 <= dep /\ dep < 1000000000) (hlv : ∀ z ∈ rows, (z.df.length : Int) <= live) (hlv2 : live < 100000000) :
  Tri Try.prog 138 [.ptr o.m 0 0] (uL p o a0 a4 a6 a7 ek ev dep live rows ps rj pj)
   (fun _ L' => ∃ rv rows' rj' pj', a1Q rows' = A' /\ L' = uL p { o with rv := rv } a0 a4 a6 a7 (if en.isSome then 2 else ek) (en.getD ev) (if en.isSome then dep else max dep (A'.length : Int)) (if en.isSome then live else live - 1) rows' ps' rj' pj') := by
 refine i8 mixed c2l zS [] (fun R S hS => ?_)
 refine g9 (a2U (σ := List Row × List n9 × List AV × List AV) (fun _ => [(0, .ptr o.m 0 0)]) (fun q => uL p o a0 a4 a6 a7 ek ev dep live q.1 q.2.1 q.2.2.1 q.2.2.2 ++ R)
  (fun q => x8 p (a1Q q.1) q.2.1 = some (en, A', ps') /\ q.1.length < 10000000 /\ q.2.1.length < 10000000 /\ ∀ z ∈ q.1, (z.df.length : Int) <= live) (fun q => q.1.length) (rows, ps, rj, pj) hS ⟨hv, hn, hp, hlv⟩
  wF (fun q S hI hS => ?_))
 obtain ⟨rows1, ps1, rj1, pj1⟩ := q
 obtain ⟨i1, i2, i3, i4⟩ := hI
 dsimp only at i1 i2 i3 i4 hS
 cases rows1 with
 | nil => cases i1
 | cons z r =>
 have hS0 : Sep S ((o.m, 0, [a0, mkA p, .int .i64 ek, .int .u64 ev, a4, .int .i64 dep, a6, a7, .ref o.ro o.rv 0 (r.length + 1) none, .ref o.po o.pv 0 ps1.length (some 2), .int .i64 live]) :: (o.ro, o.rv, a2j (z :: r) ++ rj1) :: (o.po, o.pv, flat n9.av ps1.reverse ++ pj1) ::
  (z.s, 0, [.iface 128 (.ptr z.q.x 0 0), .int .i64 z.why, .ref z.d z.dv 0 z.df.length (some 2), .int .u64 z.ret]) :: (z.d, z.dv, flat a0y.av z.df.reverse ++ z.dj) :: (frL p z.fr z.q ++ r.flatMap (a1A p) ++ R)) := by
  simpa [uL, a1A, slL, List.append_assoc] using hS
 rw [z7] at hS0
 refine aU ?_
 cases hz : z.df with
 | nil =>
   refine u6 (a9c (m := o.m) (ro := o.ro) (rv := o.rv) (n := r.length) (p := p) (rc := a2j r) (rj := rj1) (dep := dep) (w := 2) (z := z) hz (by simp at i2; omega) zS) hS0 rfl
    (Spl.cons Pk.here (Spl.cons Pk.here (Spl.cons (Pk.there Pk.here) (Spl.cons (Pk.there Pk.here) Spl.nil)))) (fun r0 S L' hL hS => ?_)
   obtain ⟨rfl, rfl⟩ := hL
   refine aU ?_
   refine E_cs (t := true) rfl (fun _ => ?_) (fun h => by cases h)
   refine aU ?_
   refine g9 ?_
   refine aU ?_
   refine c9 hS rfl (.head _) (v := .ref o.ro o.rv 0 (r.length + 1) none) rfl ?_
   refine aU ?_
   refine c9 hS rfl (.head _) (v := .ref o.ro o.rv 0 (r.length + 1) none) rfl ?_
   refine aU ?_
   have hr1 : r.length < 10000000 := by simp at i2; omega
   refine p6 rfl rfl r.length (a2v zO) zO ?_
   refine c9 hS rfl (.tail _ (.head _)) (v := .ptr z.s 0 0) (a5z rfl zS) ?_
   refine aU ?_
   refine c9 hS rfl (.head _) (v := .ref o.ro o.rv 0 (r.length + 1) none) rfl ?_
   refine aU ?_
   refine c9 hS rfl (.head _) (v := .ref o.ro o.rv 0 (r.length + 1) none) rfl ?_
   refine aU ?_
   refine a2f (a := 0) (b := r.length) rfl rfl (by show hiN (r.length + 1) (some (.int .i64 (IntKind.i64.wrap (((r.length + 1 : Nat) : Int) - 1)))) = _; rw [a2v zO, z0 zO]; simp) ⟨by omega, by omega, .inl rfl⟩ ?_
   refine aU ?_
   refine E_stS hS rfl (xv := .ref o.ro o.rv 0 r.length none) (by show AV.ref o.ro o.rv (0 + 0 * f5 none) (r.length - 0) none = _; simp) Rp.here rfl rfl zV (fun S hS => ?_)
   refine aU ?_
   refine c9 hS rfl (.head _) (v := .ref o.po o.pv 0 ps1.length (some 2)) rfl ?_
   refine aU ?_
   refine c9 hS rfl (.tail _ (.tail _ (.head _))) (v := .int .i64 z.why) rfl ?_
   refine aU ?_
   obtain ⟨ps2, h2, h3, h4⟩ := a6y (z := z.toARow) (r := a1Q r) hz i1
   refine a8c (σ := List AV) (fun _ => [(0, .ptr o.m 0 0), (3, .int .i64 (IntKind.i64.wrap ((ps2.length : Int) - 1)))])
    (fun pj2 => (o.m, 0, [a0, mkA p, .int .i64 ek, .int .u64 ev, a4, .int .i64 dep, a6, a7, .ref o.ro o.rv 0 r.length none, .ref o.po o.pv 0 ps2.length (some 2), .int .i64 live]) :: (o.ro, o.rv, a2j r ++ (.ptr z.s 0 0 :: rj1)) :: (o.po, o.pv, flat n9.av ps2.reverse ++ pj2) :: (r.flatMap (a1A p) ++ R))
    (fun _ => ps2.length <= ps1.length) ?_ (fun pj2 S hI hS => ?_)
   ·refine E_cs (t := z.why == 2) rfl (fun hw => ?_) (fun hw => ?_)
    ·have hw' : z.why = 2 := by simpa using hw
     obtain ⟨_, a, b, l, rfl, rfl⟩ : z.why = 2 /\ ∃ a b l, ps1 = a :: b :: l /\ ps2 = a :: l := (a4M h2).resolve_right (fun h => h.1 hw')
     simp only [List.length_cons] at i3
     have hxa : (a :: b :: l).reverse[l.length + 1]? = some a := by simp [List.getElem?_append]
     have hxb : (a :: b :: l).reverse[l.length]? = some b := by simp [List.getElem?_append]
     have hw1 : IntKind.i64.wrap (((l.length + 1 + 1 : Nat) : Int) - 1) = ((l.length + 1 : Nat) : Int) := a2v zO
     refine aU ?_
     refine c9 hS rfl (.head _) (v := .ref o.po o.pv 0 (l.length + 2) (some 2)) rfl ?_
     refine aU ?_
     refine c9 hS rfl (.head _) (v := .ref o.po o.pv 0 (l.length + 2) (some 2)) rfl ?_
     refine aU ?_
     refine p6 rfl rfl (l.length + 1) hw1 zO ?_
     refine a4n hS n9.enc rfl (.tail _ (.tail _ (.tail _ (.tail _ (.head _))))) (n := l.length + 1) (fo := 0) (y := a) zS hxa (v := a.av) rfl ?_
     refine p6 rfl rfl l.length (by show IntKind.i64.wrap (IntKind.i64.wrap (((l.length + 1 + 1 : Nat) : Int) - 1) - 1) = _; rw [hw1]; exact a2v zO) zO ?_
     refine b7G (y' := a) hS n9.enc rfl (xv := a.av) rfl (n := l.length) (fo := 0) (y := b) zS hxb (Rp.there (Rp.there (Rp.there (Rp.there Rp.here)))) rfl rfl (by simp [f5]) rfl (fun S hS => ?_)
     refine aU ?_
     refine c9 hS rfl (.head _) (v := .ref o.po o.pv 0 (l.length + 2) (some 2)) rfl ?_
     refine aU ?_
     refine a2f (a := 0) (b := l.length + 1) rfl rfl (by show hiN (l.length + 2) (some (.int .i64 (IntKind.i64.wrap (((l.length + 1 + 1 : Nat) : Int) - 1)))) = _; rw [hw1, z0 zO]; simp) ⟨by omega, by omega, .inl rfl⟩ ?_
     refine aU ?_
     refine E_stS hS rfl (xv := .ref o.po o.pv 0 (l.length + 1) (some 2)) (by show AV.ref o.po o.pv (0 + 0 * f5 (some 2)) (l.length + 1 - 0) (some 2) = _; simp) Rp.here rfl rfl zV (fun S hS => ?_)
     refine aU ?_
     have e3 : IntKind.i64.wrap (IntKind.i64.wrap (((l.length + 1 + 1 : Nat) : Int) - 1) - 1) = IntKind.i64.wrap (((a :: l).length : Int) - 1) := by rw [hw1]; rfl
     refine s5 ⟨a.cells ++ pj1, by simp, ?_, a6P ⟨.refl _, c5q e3, trivial⟩⟩
     have e4 : flat n9.av ((a :: b :: l).reverse.set l.length a) ++ pj1 = flat n9.av (a :: l).reverse ++ (a.cells ++ pj1) := by
      have : (a :: b :: l).reverse.set l.length a = (a :: l).reverse ++ [a] := by simp [List.set_append]
      rw [this, n7, List.append_assoc]; rfl
     have hS4 : Ab.Sep S ((o.m, 0, [a0, mkA p, .int .i64 ek, .int .u64 ev, a4, .int .i64 dep, a6, a7, .ref o.ro o.rv 0 r.length none, .ref o.po o.pv 0 (a :: l).length (some 2), .int .i64 live]) :: (o.ro, o.rv, a2j r ++ (.ptr z.s 0 0 :: rj1)) :: _ :: _ :: (o.po, o.pv, flat n9.av ((a :: b :: l).reverse.set l.length a) ++ pj1) :: _ :: _ :: _ :: (r.flatMap (a1A p) ++ R)) := hS
     rw [e4] at hS4
     exact hS4.sub b3t
    ·have hw' : ¬ z.why = 2 := by simpa using hw
     obtain ⟨_, rfl⟩ := (a4M h2).resolve_left (fun h => hw' h.1)
     refine aU ?_
     refine s5 ⟨pj1, Nat.le_refl _, ?_, wF⟩
     have hS4 : Ab.Sep S ((o.m, 0, [a0, mkA p, .int .i64 ek, .int .u64 ev, a4, .int .i64 dep, a6, a7, .ref o.ro o.rv 0 r.length none, .ref o.po o.pv 0 ps2.length (some 2), .int .i64 live]) :: (o.ro, o.rv, a2j r ++ (.ptr z.s 0 0 :: rj1)) :: _ :: _ :: (o.po, o.pv, flat n9.av ps2.reverse ++ pj1) :: _ :: _ :: _ :: (r.flatMap (a1A p) ++ R)) := hS
     exact hS4.sub b3t
   ·refine aU ?_
    refine c9 hS rfl (.head _) (v := .ref o.ro o.rv 0 r.length none) rfl ?_
    refine aU ?_
    refine E_cs (t := ((r.length : Int) == 0)) rfl (fun hr => ?_) (fun hr => ?_)
    ·have hr0 : r = [] := by
      have : (r.length : Int) = 0 := by simpa using hr
      exact List.length_eq_zero_iff.1 zO
     subst hr0
     obtain ⟨v, h5, h6⟩ := h3 rfl
     obtain ⟨a, l, rfl⟩ : ∃ a l, ps2 = a :: l := by
      cases ps2 with
      | nil => cases h5
      | cons a l => exact ⟨a, l, rfl⟩
     cases h5
     cases h6
     have hla : (a :: l).reverse[l.length]? = some a := by simp
     simp only [List.length_cons] at hI
     refine aU ?_
     refine c9 hS rfl (.head _) (v := .ref o.po o.pv 0 (l.length + 1) (some 2)) rfl ?_
     refine aU ?_
     refine p6 rfl rfl l.length (by show IntKind.i64.wrap (((l.length + 1 : Nat) : Int) - 1) = _; exact a2v zO) zO ?_
     refine aU ?_
     refine a4n hS n9.enc rfl (.tail _ (.tail _ (.head _))) (n := l.length) (fo := 0) (y := a) zS hla (v := .int .u64 a.v) rfl ?_
     refine aU ?_
     refine E_stS hS rfl (xv := .agg [.int .i64 2, .int .u64 a.v]) rfl Rp.here rfl rfl zV (fun S hS => ?_)
     refine aU ?_
     refine d8 ?_
     refine aE ?_
     exact ⟨trivial, _, rfl, _, ⟨o.rv, [], _, pj2, rfl, rfl⟩, hS⟩
    ·have hr0 : r ≠ [] := fun e => by subst e; cases hr
     refine aU ?_
     refine aE ?_
     have hr1 : a1Q r ≠ [] := fun e => hr0 (List.map_eq_nil_iff.1 e)
     exact s5 ⟨(r, ps2, .ptr z.s 0 0 :: rj1, pj2), ⟨h4 hr1, by simp at i2; show r.length < 10000000; omega, by show ps2.length < 10000000; omega, fun y hy => i4 y (.tail _ hy)⟩, by show r.length < (z :: r).length; simp, hS, wF⟩
 | cons x df =>
   obtain ⟨f, h1, h2⟩ := a5A (z := z.toARow) (r := a1Q r) hz i1
   simp only [a1Q, List.length_map] at h1
   cases h2
   have hr1 : r.length < 10000000 := by simp at i2; omega
   have hlz := i4 z (.head _)
   rw [hz, List.length_cons] at hlz
   refine u6 (a9d (m := o.m) (ro := o.ro) (rv := o.rv) (n := r.length) (p := p) (rc := a2j r) (rj := rj1) (dep := dep) (w := 2) (z := z) (live := live) hz h1 hr1 (a5R hl h1) zS hd zO zO) hS0 rfl
    (Spl.cons Pk.here (Spl.cons Pk.here (Spl.cons (Pk.there Pk.here) (Spl.cons (Pk.there Pk.here) Spl.nil)))) (fun r0 S L' hL hS => ?_)
   obtain ⟨rfl, s, d, q, rfl⟩ := hL
   refine aU ?_
   refine E_cs (t := false) rfl (fun h => by cases h) (fun _ => ?_)
   refine a1u ?_
   refine aE ?_
   refine ⟨trivial, _, rfl, _, ⟨o.rv + 1, ⟨⟨f, 2, [], 0⟩, s, d, 0, [], q⟩ :: { z with df := df, dj := x.cells ++ z.dj } :: r, [], pj1, rfl, rfl⟩, ?_⟩
   have e1 : max dep ((r.length : Int) + 2) = max dep (((⟨f, 2, [], 0⟩ :: { z.toARow with df := df } :: a1Q r : List ARow).length : Nat) : Int) := by simp [a1Q]; omega
   rw [e1] at hS
   have e2 : a2j r ++ [AV.ptr z.s 0 0, .ptr s 0 0] = a2j (⟨⟨f, 2, [], 0⟩, s, d, 0, [], q⟩ :: { z with df := df, dj := x.cells ++ z.dj } :: r) ++ [] := by simp [a2j]
   rw [e2] at hS
   have hS5 := hS.perm (b0V (A := a1A p ⟨⟨f, 2, [], 0⟩, s, d, 0, [], q⟩) (B := slL { z with df := df, dj := x.cells ++ z.dj }) (C := frL p z.fr z.q) (X := r.flatMap (a1A p)) (R := R) : List.Perm ((([_, _] ++ _) ++ _) ++ (_ :: (_ ++ _ ++ R))) _)
   simpa [uL, a1A, List.append_assoc] using hS5
theorem a6z {v pmx : Int} {rows : List Row} {ps ps' : List n9} {rj pj : List AV} {en : Option Int} {A' : List ARow} (hv : x8 p (a1Q rows) (⟨v, false⟩ :: ps) = some (en, A', ps')) (hn : rows.length < 10000000) (hp : ps.length < 9999999)
  (hl : ∀ g ∈ p.Funcs, g.Locals.length < 1000000000) (hd : 0 <= dep /\ dep < 1000000000) (hlv : ∀ z ∈ rows, (z.df.length : Int) <= live) (hlv2 : live < 100000000) :
  Tri Try.prog 150 [.ptr o.m 0 0, .int .u64 v] (uL p o a0 a4 a6 (.int .i64 pmx) ek ev dep live rows ps rj pj)
   (fun _ L' => ∃ rv rows' rj' pj', a1Q rows' = A' /\ L' = uL p { o with rv := rv, pv := o.pv + 1 } a0 a4 a6 (.int .i64 (max pmx ((ps.length : Int) + 1))) (if en.isSome then 2 else ek) (en.getD ev) (if en.isSome then dep else max dep (A'.length : Int)) (if en.isSome then live else live - 1) rows' ps' rj' pj') := by
 refine i8 mixed c2n zS [] (fun R S hS => ?_)
 refine aU ?_
 refine c9 hS rfl (.head _) (v := .ref o.po o.pv 0 ps.length (some 2)) rfl ?_
 refine aU ?_
 refine a4m (o := o.po) (ver := o.pv) (f := n9.av) (l := ps.reverse) (m := [(⟨v, false⟩ : n9)]) (j := pj) hS n9.enc (by show AV.ref o.po o.pv 0 ps.length _ = _; rw [List.length_reverse]) (s4 (f := n9.av) (esh := some 2) [(⟨v, false⟩ : n9)]) (Rp.there (Rp.there Rp.here)) ⟨by simp; omega, by simp; omega⟩ (fun S hS => ?_)
 refine aU ?_
 refine E_stS hS rfl (xv := .ref o.po (o.pv + 1) 0 (ps.length + 1) (some 2)) (by show AV.ref o.po (o.pv + 1) 0 (ps.reverse ++ [(⟨v, false⟩ : n9)]).length _ = _; simp) Rp.here rfl rfl zV (fun S hS => ?_)
 refine aU ?_
 refine c9 hS rfl (.head _) (v := .int .i64 pmx) rfl ?_
 refine aU ?_
 refine c9 hS rfl (.head _) (v := .ref o.po (o.pv + 1) 0 (ps.length + 1) (some 2)) rfl ?_
 refine aU ?_
 refine E_stS hS rfl (xv := .int .i64 (max pmx ((ps.length : Int) + 1))) (by show AV.int .i64 (if true = true then if ((ps.length + 1 : Nat) : Int) > pmx then ((ps.length + 1 : Nat) : Int) else pmx else _) = _; rw [if_pos rfl, b9M]; rfl) Rp.here rfl rfl zV (fun S hS => ?_)
 refine aU ?_
 have e1 : flat n9.av (ps.reverse ++ [(⟨v, false⟩ : n9)]) = flat n9.av ((⟨v, false⟩ : n9) :: ps).reverse ++ [] := by rw [List.reverse_cons, List.append_nil]
 rw [e1] at hS
 have hS2 : Ab.Sep S (uL p { o with pv := o.pv + 1 } a0 a4 a6 (.int .i64 (max pmx ((ps.length : Int) + 1))) ek ev dep live rows ((⟨v, false⟩ : n9) :: ps) rj [] ++ R) := hS
 refine u6 (a7r (o := { o with pv := o.pv + 1 }) hv hn zE hl hd hlv hlv2) hS2 rfl (.refl _) (fun r S L' hL hS => ?_)
 refine aU ?_
 refine aE ?_
 obtain ⟨rv, rows', rj', pj', h1, rfl⟩ := hL
 exact ⟨trivial, _, rfl, _, ⟨rv, rows', rj', pj', h1, rfl⟩, hS⟩
end
end Go.Proofs.Ytnpemocpfdgaoaa

/- core.M's Return: the walk. -/
namespace Go.Proofs.Ytnpemocpfdgaoaa
open Go Go.Ab
set_option maxRecDepth 20000
set_option maxHeartbeats 2000000
noncomputable def c2o : FC := fcO 153
theorem c2p : Fn3 Try.prog 153 116 [] c2o := ⟨_, _, Try.func153, rfl, rfl, rfl, by kernel_rfl⟩

theorem b9N : a3t Try.prog 128 "Back" = some 140 := by kernel_rfl
theorem b9O : a3t Try.prog 128 "Keep" = some 141 := by kernel_rfl
theorem b9P : a3t Try.prog 128 "Step" = some 142 := by kernel_rfl
structure RO where
 en : Option (Int × Int)
 push : Bool
 A : List ARow
 ps : List n9
def a5n (p : Program) : ARow -> List ARow -> List n9 -> Option RO
 | z, r, ps => match z.df with
   | x :: df => (a1e p x.f x.args (r.length + 2)).bind fun f => some ⟨none, true, ⟨f, 1, [], 0⟩ :: { z with df := df } :: r, ps⟩
   | [] => match r with
     | [] => some ⟨some (1, 0), false, [], ps⟩
     | y :: t =>
       if z.why = 0 then (y.fr.back p z.ret).map fun f => ⟨none, false, { y with fr := f } :: t, ps⟩
       else if z.why = 2 then (match ps with
        | [] => none
        | a :: l => if a.rcv then (a8f y.fr).bind fun v => a5n p { y with ret := v } t l
          else (x8 p (y :: t) (a :: l)).map fun u => ⟨u.1.map fun v => (2, v), u.1.isNone, u.2.1, u.2.2⟩)
       else a5n p y t ps
theorem a9e {p : Program} {z : ARow} {r : List ARow} {ps : List n9} {u : RO} {x df} (hz : z.df = x :: df) (h : a5n p z r ps = some u) : ∃ f, a1e p x.f x.args (r.length + 2) = some f /\ u = ⟨none, true, ⟨f, 1, [], 0⟩ :: { z with df := df } :: r, ps⟩ := by
 unfold a5n at h
 rw [hz] at h
 obtain ⟨f, h1, h2⟩ := Option.bind_eq_some_iff.1 h
 cases h2
 exact ⟨f, h1, rfl⟩
theorem b0W {p : Program} {z : ARow} {ps : List n9} {u : RO} (hz : z.df = []) (h : a5n p z [] ps = some u) : u = ⟨some (1, 0), false, [], ps⟩ := by
 unfold a5n at h
 rw [hz] at h
 cases h; rfl
theorem a9f {p : Program} {z y : ARow} {t : List ARow} {ps : List n9} {u : RO} (hz : z.df = []) (h : a5n p z (y :: t) ps = some u) :
  (z.why = 0 /\ ∃ f, y.fr.back p z.ret = some f /\ u = ⟨none, false, { y with fr := f } :: t, ps⟩) \/
  (z.why = 2 /\ ∃ a l, ps = a :: l /\ ((a.rcv = true /\ ∃ v, a8f y.fr = some v /\ a5n p { y with ret := v } t l = some u) \/
   (a.rcv = false /\ ∃ w, x8 p (y :: t) ps = some w /\ u = ⟨w.1.map fun v => (2, v), w.1.isNone, w.2.1, w.2.2⟩))) \/
  (z.why ≠ 0 /\ z.why ≠ 2 /\ a5n p y t ps = some u) := by
 unfold a5n at h
 rw [hz] at h
 dsimp only at h
 split at h
 ·rename_i h0
  obtain ⟨f, h1, h2⟩ := Option.map_eq_some_iff.1 h
  exact .inl ⟨h0, f, h1, h2.symm⟩
 ·rename_i h0
  split at h
  ·rename_i h2
   cases ps with
   | nil => cases h
   | cons a l =>
     dsimp only at h
     cases ha : a.rcv with
     | true =>
       rw [ha, if_pos rfl] at h
       obtain ⟨v, h3, h4⟩ := Option.bind_eq_some_iff.1 h
       exact .inr (.inl ⟨h2, a, l, rfl, .inl ⟨ha, v, h3, h4⟩⟩)
     | false =>
       rw [ha, if_neg zS] at h
       obtain ⟨w, h3, h4⟩ := Option.map_eq_some_iff.1 h
       exact .inr (.inl ⟨h2, a, l, rfl, .inr ⟨ha, w, h3, h4.symm⟩⟩)
  ·rename_i h2
   exact .inr (.inr ⟨h0, h2, h⟩)
theorem b3u {a b c m r zs zd q zx zl zt ys yd : It} {X : List It} : Spl (a :: b :: c :: m :: r :: zs :: zd :: q :: zx :: zl :: zt :: ys :: yd :: X) [zs, zd, zx, zl, zt, m, r, q, ys, yd, a, b, c] X := (by repeat (first | exact Spl.nil | refine Spl.cons (by repeat (first | exact Pk.here | apply Pk.there | apply Pk.skip)) ?_ | refine Spl.app (by repeat (first | exact PkC.here | apply PkC.there | apply PkC.skip)) ?_))
section
variable {a0 a4 a6 a7 : AV} {o : UO} {p : Program} {ek ev dep live : Int}
def Siz (live : Int) (z : Row) : Prop := (z.df.length : Int) <= live /\ z.fr.pc < 4611686018427387904 /\ z.fr.st.length < 1000000000
theorem a7s {z : Row} {r : List Row} {ps : List n9} {rj pj : List AV} {v : Int} {u : RO} (hv : a5n p { z.toARow with ret := v } (a1Q r) ps = some u) (hn : r.length < 9999999) (hp : ps.length < 10000000)
  (hl : ∀ g ∈ p.Funcs, g.Locals.length < 1000000000) (hd : 0 <= dep /\ dep < 1000000000) (hlv : ∀ y ∈ z :: r, Siz live y) (hlv2 : live < 100000000) :
  Tri Try.prog 153 [.ptr o.m 0 0, .int .u64 v] (uL p o a0 a4 a6 a7 ek ev dep live (z :: r) ps rj pj)
   (fun _ L' => ∃ rv rows' rj' pj', a1Q rows' = u.A /\ L' = uL p { o with rv := rv } a0 a4 a6 a7 (u.en.elim ek (·.1)) (u.en.elim ev (·.2)) (if u.push then max dep (u.A.length : Int) else dep) (if u.push then live - 1 else live) rows' u.ps rj' pj') := by
 refine i8 mixed c2p zS [] (fun R S hS => ?_)
 have hS0 : Ab.Sep S ((o.m, 0, [a0, mkA p, .int .i64 ek, .int .u64 ev, a4, .int .i64 dep, a6, a7, .ref o.ro o.rv 0 (r.length + 1) none, .ref o.po o.pv 0 ps.length (some 2), .int .i64 live]) :: (o.ro, o.rv, a2j (z :: r) ++ rj) :: (o.po, o.pv, flat n9.av ps.reverse ++ pj) ::
  (z.s, 0, [.iface 128 (.ptr z.q.x 0 0), .int .i64 z.why, .ref z.d z.dv 0 z.df.length (some 2), .int .u64 z.ret]) :: (z.d, z.dv, flat a0y.av z.df.reverse ++ z.dj) :: (frL p z.fr z.q ++ r.flatMap (a1A p) ++ R)) := by
  simpa [uL, a1A, slL, List.append_assoc] using hS
 rw [z7] at hS0
 refine aU ?_
 refine c9 hS0 rfl (.head _) (v := .ref o.ro o.rv 0 (r.length + 1) none) rfl ?_
 refine aU ?_
 refine c9 hS0 rfl (.head _) (v := .ref o.ro o.rv 0 (r.length + 1) none) rfl ?_
 refine aU ?_
 refine p6 rfl rfl r.length (a2v zO) zO ?_
 refine c9 hS0 rfl (.tail _ (.head _)) (v := .ptr z.s 0 0) (a5z rfl zS) ?_
 refine aU ?_
 refine E_stS hS0 rfl (xv := .int .u64 v) rfl (Rp.there (Rp.there (Rp.there Rp.here))) rfl rfl zV (fun S hS => ?_)
 rw [<- z7] at hS
 have hS1 : Ab.Sep S (uL p o a0 a4 a6 a7 ek ev dep live ({ z with ret := v } :: r) ps rj pj ++ R) := by
  have hS2 : Ab.Sep S ((o.m, 0, [a0, mkA p, .int .i64 ek, .int .u64 ev, a4, .int .i64 dep, a6, a7, .ref o.ro o.rv 0 (r.length + 1) none, .ref o.po o.pv 0 ps.length (some 2), .int .i64 live]) :: (o.ro, o.rv, a2j ({ z with ret := v } :: r) ++ rj) :: (o.po, o.pv, flat n9.av ps.reverse ++ pj) ::
   (z.s, 0, [.iface 128 (.ptr z.q.x 0 0), .int .i64 z.why, .ref z.d z.dv 0 z.df.length (some 2), .int .u64 v]) :: (z.d, z.dv, flat a0y.av z.df.reverse ++ z.dj) :: (frL p z.fr z.q ++ r.flatMap (a1A p) ++ R)) := hS
  simpa [uL, a1A, slL, List.append_assoc] using hS2
 refine aU ?_
 refine g9 (a2U (σ := Row × List Row × List n9 × List AV × List AV) (fun q => [(0, .ptr o.m 0 0), (4, .ptr q.1.s 0 0)]) (fun q => uL p o a0 a4 a6 a7 ek ev dep live (q.1 :: q.2.1) q.2.2.1 q.2.2.2.1 q.2.2.2.2 ++ R)
  (fun q => a5n p q.1.toARow (a1Q q.2.1) q.2.2.1 = some u /\ q.2.1.length < 9999999 /\ q.2.2.1.length < 10000000 /\ ∀ z ∈ q.1 :: q.2.1, Siz live z) (fun q => q.2.1.length) ({ z with ret := v }, r, ps, rj, pj) hS1 ⟨hv, hn, hp, fun y hy => by
   rcases List.mem_cons.1 hy with rfl | hy
   ·exact hlv z (.head _)
   ·exact hlv y (.tail _ hy)⟩
  wF (fun q S hI hS => ?_))
 clear hS1 hS0 hlv hv hn hp
 obtain ⟨z, r, ps, rj, pj⟩ := q
 obtain ⟨i1, i2, i3, i4⟩ := hI
 dsimp only at i1 i2 i3 i4 hS
 have hS0 : Ab.Sep S ((o.m, 0, [a0, mkA p, .int .i64 ek, .int .u64 ev, a4, .int .i64 dep, a6, a7, .ref o.ro o.rv 0 (r.length + 1) none, .ref o.po o.pv 0 ps.length (some 2), .int .i64 live]) :: (o.ro, o.rv, a2j (z :: r) ++ rj) :: (o.po, o.pv, flat n9.av ps.reverse ++ pj) ::
  (z.s, 0, [.iface 128 (.ptr z.q.x 0 0), .int .i64 z.why, .ref z.d z.dv 0 z.df.length (some 2), .int .u64 z.ret]) :: (z.d, z.dv, flat a0y.av z.df.reverse ++ z.dj) :: (frL p z.fr z.q ++ r.flatMap (a1A p) ++ R)) := by
  simpa [uL, a1A, slL, List.append_assoc] using hS
 rw [z7] at hS0
 refine aU ?_
 cases hz : z.df with
 | cons x df =>
   obtain ⟨f, h1, h2⟩ := a9e (z := z.toARow) hz i1
   simp only [a1Q, List.length_map] at h1
   subst h2
   have hlz := (i4 z (.head _)).1
   rw [hz, List.length_cons] at hlz
   refine u6 (a9d (m := o.m) (ro := o.ro) (rv := o.rv) (n := r.length) (p := p) (rc := a2j r) (rj := rj) (dep := dep) (w := 1) (z := z) (live := live) hz h1 zO (a5R hl h1) zS hd zO zO) hS0 rfl
    (Spl.cons Pk.here (Spl.cons Pk.here (Spl.cons (Pk.there Pk.here) (Spl.cons (Pk.there Pk.here) Spl.nil)))) (fun r0 S L' hL hS => ?_)
   obtain ⟨rfl, s, d, q, rfl⟩ := hL
   refine aU ?_
   refine E_cs (t := false) rfl (fun h => by cases h) (fun _ => ?_)
   refine a1u ?_
   refine aE ?_
   refine ⟨trivial, _, rfl, _, ⟨o.rv + 1, ⟨⟨f, 1, [], 0⟩, s, d, 0, [], q⟩ :: { z with df := df, dj := x.cells ++ z.dj } :: r, [], pj, rfl, rfl⟩, ?_⟩
   have e1 : max dep ((r.length : Int) + 2) = max dep (((⟨f, 1, [], 0⟩ :: { z.toARow with df := df } :: a1Q r : List ARow).length : Nat) : Int) := by simp [a1Q]; omega
   rw [e1] at hS
   have e2 : a2j r ++ [AV.ptr z.s 0 0, .ptr s 0 0] = a2j (⟨⟨f, 1, [], 0⟩, s, d, 0, [], q⟩ :: { z with df := df, dj := x.cells ++ z.dj } :: r) ++ [] := by simp [a2j]
   rw [e2] at hS
   have hS5 := hS.perm (b0V (A := a1A p ⟨⟨f, 1, [], 0⟩, s, d, 0, [], q⟩) (B := slL { z with df := df, dj := x.cells ++ z.dj }) (C := frL p z.fr z.q) (X := r.flatMap (a1A p)) (R := R) : List.Perm ((([_, _] ++ _) ++ _) ++ (_ :: (_ ++ _ ++ R))) _)
   simpa [uL, a1A, List.append_assoc] using hS5
 | nil =>
   refine u6 (a9c (m := o.m) (ro := o.ro) (rv := o.rv) (n := r.length) (p := p) (rc := a2j r) (rj := rj) (dep := dep) (w := 1) (z := z) hz zO zS) hS0 rfl
    (Spl.cons Pk.here (Spl.cons Pk.here (Spl.cons (Pk.there Pk.here) (Spl.cons (Pk.there Pk.here) Spl.nil)))) (fun r0 S L' hL hS => ?_)
   obtain ⟨rfl, rfl⟩ := hL
   refine aU ?_
   refine E_cs (t := true) rfl (fun _ => ?_) (fun h => by cases h)
   refine aU ?_
   refine g9 ?_
   refine aU ?_
   refine c9 hS rfl (.head _) (v := .ref o.ro o.rv 0 (r.length + 1) none) rfl ?_
   refine aU ?_
   refine c9 hS rfl (.head _) (v := .ref o.ro o.rv 0 (r.length + 1) none) rfl ?_
   refine aU ?_
   refine a2f (a := 0) (b := r.length) rfl rfl (by show hiN (r.length + 1) (some (.int .i64 (IntKind.i64.wrap (((r.length + 1 : Nat) : Int) - 1)))) = _; rw [a2v zO, z0 zO]; simp) ⟨by omega, by omega, .inl rfl⟩ ?_
   refine aU ?_
   refine E_stS hS rfl (xv := .ref o.ro o.rv 0 r.length none) (by show AV.ref o.ro o.rv (0 + 0 * f5 none) (r.length - 0) none = _; simp) Rp.here rfl rfl zV (fun S hS => ?_)
   refine aU ?_
   refine c9 hS rfl (.head _) (v := .ref o.ro o.rv 0 r.length none) rfl ?_
   refine aU ?_
   cases r with
   | nil =>
     have hu := b0W (z := z.toARow) hz i1
     subst hu
     refine E_cs (t := true) rfl (fun _ => ?_) (fun h => by cases h)
     refine aU ?_
     refine E_stS hS rfl (xv := .agg [.int .i64 1, .int .u64 0]) rfl Rp.here rfl rfl zV (fun S hS => ?_)
     refine aU ?_
     refine d8 ?_
     refine aE ?_
     refine ⟨trivial, _, rfl, _, ⟨o.rv, [], .ptr z.s 0 0 :: rj, pj, rfl, rfl⟩, ?_⟩
     have hS4 : Ab.Sep S ((o.m, 0, [a0, mkA p, .int .i64 1, .int .u64 0, a4, .int .i64 dep, a6, a7, .ref o.ro o.rv 0 0 none, .ref o.po o.pv 0 ps.length (some 2), .int .i64 live]) :: (o.ro, o.rv, a2j [] ++ (.ptr z.s 0 0 :: rj)) :: _ :: _ :: (o.po, o.pv, flat n9.av ps.reverse ++ pj) :: _ :: _ :: _ :: ([] ++ R)) := hS
     exact hS4.sub b3t
   | cons y t =>
     simp only [List.length_cons] at i2
     refine E_cs (t := false) (by show AV.bool (((t.length + 1 : Nat) : Int) == 0) = _; rw [show (((t.length + 1 : Nat) : Int) == 0) = false by simp; omega]) (fun h => by cases h) (fun _ => ?_)
     have hS6 : Ab.Sep S ((o.m, 0, [a0, mkA p, .int .i64 ek, .int .u64 ev, a4, .int .i64 dep, a6, a7, .ref o.ro o.rv 0 (t.length + 1) none, .ref o.po o.pv 0 ps.length (some 2), .int .i64 live]) :: (o.ro, o.rv, a2j (y :: t) ++ (.ptr z.s 0 0 :: rj)) ::
      (z.s, 0, [.iface 128 (.ptr z.q.x 0 0), .int .i64 z.why, .ref z.d z.dv 0 z.df.length (some 2), .int .u64 z.ret]) :: (z.d, z.dv, flat a0y.av z.df.reverse ++ z.dj) :: (o.po, o.pv, flat n9.av ps.reverse ++ pj) :: (z.q.x, 0, frC p z.fr z.q) :: (z.q.l, 0, flat (avI .u64) z.fr.lo) :: (z.q.t, z.q.tv, flat (avI .u64) z.fr.st.reverse ++ z.q.tj) ::
      (y.s, 0, [.iface 128 (.ptr y.q.x 0 0), .int .i64 y.why, .ref y.d y.dv 0 y.df.length (some 2), .int .u64 y.ret]) :: (y.d, y.dv, flat a0y.av y.df.reverse ++ y.dj) :: (y.q.x, 0, frC p y.fr y.q) :: (y.q.l, 0, flat (avI .u64) y.fr.lo) :: (y.q.t, y.q.tv, flat (avI .u64) y.fr.st.reverse ++ y.q.tj) :: (t.flatMap (a1A p) ++ R)) := by
      have hS5 : Ab.Sep S ((o.m, 0, [a0, mkA p, .int .i64 ek, .int .u64 ev, a4, .int .i64 dep, a6, a7, .ref o.ro o.rv 0 (t.length + 1) none, .ref o.po o.pv 0 ps.length (some 2), .int .i64 live]) :: (o.ro, o.rv, a2j (y :: t) ++ (.ptr z.s 0 0 :: rj)) ::
       (z.s, 0, [.iface 128 (.ptr z.q.x 0 0), .int .i64 z.why, .ref z.d z.dv 0 z.df.length (some 2), .int .u64 z.ret]) :: (z.d, z.dv, flat a0y.av z.df.reverse ++ z.dj) :: (o.po, o.pv, flat n9.av ps.reverse ++ pj) :: (z.q.x, 0, frC p z.fr z.q) :: (z.q.l, 0, flat (avI .u64) z.fr.lo) :: (z.q.t, z.q.tv, flat (avI .u64) z.fr.st.reverse ++ z.q.tj) ::
       ((a1A p y ++ t.flatMap (a1A p)) ++ R)) := hS
      exact hS5
     rw [z7] at hS6
     clear hS hS0
     refine aU ?_
     refine c9 hS6 rfl (.head _) (v := .ref o.ro o.rv 0 (t.length + 1) none) rfl ?_
     refine aU ?_
     refine c9 hS6 rfl (.head _) (v := .ref o.ro o.rv 0 (t.length + 1) none) rfl ?_
     refine aU ?_
     refine p6 rfl rfl t.length (a2v zO) zO ?_
     refine c9 hS6 rfl (.tail _ (.head _)) (v := .ptr y.s 0 0) (a5z rfl zS) ?_
     refine aU ?_
     refine c9 hS6 rfl (.tail _ (.tail _ (.head _))) (v := .int .i64 z.why) rfl ?_
     refine aU ?_
     refine g9 ?_
     refine aU ?_
     have hjy := i4 y (.tail _ (.head _))
     rcases a9f (z := z.toARow) (y := y.toARow) (t := a1Q t) hz i1 with ⟨w0, f, h1, h2⟩ | ⟨w2, a, l, h1, h2⟩ | ⟨w0, w2, h1⟩
     ·refine E_cs (t := true) (by show AV.bool (z.why == 0) = _; rw [w0]; rfl) (fun _ => ?_) (fun h => by cases h)
      refine aU ?_
      refine c9 hS6 rfl (.tail _ (.tail _ (.tail _ (.tail _ (.tail _ (.tail _ (.tail _ (.tail _ (.head _))))))))) (v := .iface 128 (.ptr y.q.x 0 0)) rfl ?_
      refine aU ?_
      refine c9 hS6 rfl (.tail _ (.tail _ (.head _))) (v := .int .u64 z.ret) rfl ?_
      refine aU ?_
      refine b3l (b5z (q := y.q) h1 hjy.2.1 hjy.2.2) hS6 rfl b9N zK rfl (Spl.cons (Pk.there (Pk.there (Pk.there (Pk.there (Pk.there (Pk.there (Pk.there (Pk.there (Pk.there (Pk.there Pk.here)))))))))) (Spl.cons (Pk.there (Pk.there (Pk.there (Pk.there (Pk.there (Pk.there (Pk.there (Pk.there (Pk.there (Pk.there Pk.here)))))))))) (Spl.cons (Pk.there (Pk.there (Pk.there (Pk.there (Pk.there (Pk.there (Pk.there (Pk.there (Pk.there (Pk.there Pk.here)))))))))) Spl.nil))) (fun r0 S L' hL hS => ?_)
      obtain ⟨q', e1, e2, rfl⟩ := hL
      refine aU ?_
      refine d8 ?_
      refine aE ?_
      subst h2
      refine ⟨trivial, _, rfl, _, ⟨o.rv, { y with fr := f, q := q' } :: t, .ptr z.s 0 0 :: rj, pj, rfl, rfl⟩, ?_⟩
      have hS7 := (hS.perm b3u).sub (List.sublist_append_right [_, _, _, _, _] _)
      rw [<- z7, <- e1] at hS7
      exact hS7
     ·subst h1
      simp only [List.length_cons] at i3
      have hla : (a :: l).reverse[l.length]? = some a := by simp
      have hpf : flat n9.av (a :: l).reverse ++ pj = flat n9.av l.reverse ++ (a.cells ++ pj) := by rw [List.reverse_cons, n7, List.append_assoc]; rfl
      refine E_cs (t := false) (by show AV.bool (z.why == 0) = _; rw [w2]; rfl) (fun h => by cases h) (fun _ => ?_)
      refine aU ?_
      refine E_cs (t := true) (by show AV.bool (z.why == 2) = _; rw [w2]; rfl) (fun _ => ?_) (fun h => by cases h)
      refine aU ?_
      refine c9 hS6 rfl (.head _) (v := .ref o.po o.pv 0 (l.length + 1) (some 2)) rfl ?_
      refine aU ?_
      refine c9 hS6 rfl (.head _) (v := .ref o.po o.pv 0 (l.length + 1) (some 2)) rfl ?_
      refine aU ?_
      refine p6 rfl rfl l.length (a2v zO) zO ?_
      refine aU ?_
      refine a4n hS6 n9.enc rfl (.tail _ (.tail _ (.tail _ (.tail _ (.head _))))) (n := l.length) (fo := 1) (y := a) zS hla (v := .bool a.rcv) rfl ?_
      refine aU ?_
      rcases h2 with ⟨ha, v, h3, h4⟩ | ⟨ha, w, h3, h4⟩
      ·refine E_cs (t := false) (by show AV.bool (!a.rcv) = _; rw [ha]; rfl) (fun h => by cases h) (fun _ => ?_)
       refine aU ?_
       refine c9 hS6 rfl (.head _) (v := .ref o.po o.pv 0 (l.length + 1) (some 2)) rfl ?_
       refine aU ?_
       refine a2f (a := 0) (b := l.length) rfl rfl (by show hiN (l.length + 1) (some (.int .i64 (IntKind.i64.wrap (((l.length + 1 : Nat) : Int) - 1)))) = _; rw [a2v zO, z0 zO]; simp) ⟨by omega, by omega, .inl rfl⟩ ?_
       refine aU ?_
       refine E_stS hS6 rfl (xv := .ref o.po o.pv 0 l.length (some 2)) (by show AV.ref o.po o.pv (0 + 0 * f5 (some 2)) (l.length - 0) (some 2) = _; simp) Rp.here rfl rfl zV (fun S hS => ?_)
       refine aU ?_
       refine c9 hS rfl (.tail _ (.tail _ (.tail _ (.tail _ (.tail _ (.tail _ (.tail _ (.tail _ (.head _))))))))) (v := .iface 128 (.ptr y.q.x 0 0)) rfl ?_
       refine aU ?_
       refine b3l (b5y (p := p) (q := y.q) h3) hS rfl b9O zK rfl (Spl.cons (Pk.there (Pk.there (Pk.there (Pk.there (Pk.there (Pk.there (Pk.there (Pk.there (Pk.there (Pk.there Pk.here)))))))))) (Spl.cons (Pk.there (Pk.there (Pk.there (Pk.there (Pk.there (Pk.there (Pk.there (Pk.there (Pk.there (Pk.there Pk.here)))))))))) (Spl.cons (Pk.there (Pk.there (Pk.there (Pk.there (Pk.there (Pk.there (Pk.there (Pk.there (Pk.there (Pk.there Pk.here)))))))))) Spl.nil))) (fun r0 S L' hL hS => ?_)
       obtain ⟨rfl, rfl⟩ := hL
       refine aU ?_
       refine E_stS hS rfl (xv := .int .u64 v) rfl (Rp.there (Rp.there (Rp.there (Rp.there (Rp.there (Rp.there (Rp.there (Rp.there (Rp.there (Rp.there (Rp.there Rp.here))))))))))) rfl rfl zV (fun S hS => ?_)
       refine aU ?_
       refine aE ?_
       refine aU ?_
       refine aE ?_
       have hS7 := (hS.perm b3u).sub (List.sublist_append_right [_, _, _, _, _] _)
       rw [hpf, <- z7] at hS7
       exact s5 ⟨({ y with ret := v }, t, l, .ptr z.s 0 0 :: rj, a.cells ++ pj), ⟨h4, by show t.length < 9999999; omega, by show l.length < 10000000; omega, fun x hx => by
        rcases List.mem_cons.1 hx with rfl | hx
        ·exact hjy
        ·exact i4 x (.tail _ (.tail _ hx))⟩, by show t.length < (y :: t).length; simp, hS7, wF⟩
      ·refine E_cs (t := true) (by show AV.bool (!a.rcv) = _; rw [ha]; rfl) (fun _ => ?_) (fun h => by cases h)
       have hS7 := hS6.sub b3t
       rw [<- z7] at hS7
       obtain ⟨en, A', ps'⟩ := w
       refine aU ?_
       refine u6 (a7r (o := o) (a0 := a0) (a4 := a4) (a6 := a6) (a7 := a7) (ek := ek) (ev := ev) (dep := dep) (live := live) (rows := y :: t) (ps := a :: l) (rj := .ptr z.s 0 0 :: rj) (pj := pj) h3 zE zE hl hd (fun x hx => (i4 x (.tail _ hx)).1) hlv2) hS7 rfl (.refl _) (fun r0 S L' hL hS => ?_)
       obtain ⟨rv, rows', rj', pj', h5, rfl⟩ := hL
       refine aU ?_
       refine d8 ?_
       refine aE ?_
       subst h4
       refine ⟨trivial, _, rfl, _, ⟨rv, rows', rj', pj', h5, rfl⟩, ?_⟩
       cases en <;> exact hS
     ·have hb0 : (z.why == 0) = false := by simpa using w0
      have hb2 : (z.why == 2) = false := by simpa using w2
      refine E_cs (t := false) (by show AV.bool (z.why == 0) = _; rw [hb0]) (fun h => by cases h) (fun _ => ?_)
      refine aU ?_
      refine E_cs (t := false) (by show AV.bool (z.why == 2) = _; rw [hb2]) (fun h => by cases h) (fun _ => ?_)
      refine aU ?_
      refine aE ?_
      refine aU ?_
      refine aE ?_
      have hS7 := hS6.sub b3t
      rw [<- z7] at hS7
      exact s5 ⟨(y, t, ps, .ptr z.s 0 0 :: rj, pj), ⟨h1, by show t.length < 9999999; omega, i3, fun x hx => i4 x (.tail _ hx)⟩, by show t.length < (y :: t).length; simp, hS7, wF⟩
end
end Go.Proofs.Ytnpemocpfdgaoaa

/- sem's pointer, cell, core.M's At: the walks. -/
namespace Go.Proofs.Ytnpemocpfdgaoaa
open Go Go.Ab
set_option maxRecDepth 20000
set_option maxHeartbeats 2000000
noncomputable def c2q : FC := fcO 156
theorem c2r : Fn3 Try.prog 156 15 [(4, none)] c2q := ⟨_, _, Try.func156, rfl, rfl, rfl, by kernel_rfl⟩

section
variable {a0 a4 a6 a7 : AV} {o : UO} {p : Program} {ek ev dep live : Int} {rows : List Row} {ps : List n9} {rj pj : List AV}
def a8s (a b : Int) : Int := IntKind.u64.wrap ↑(BitVec.ofInt IntKind.u64.bits (IntKind.u64.wrap (IntKind.u64.wrap (IntKind.i64.wrap (a + 1)) * 2 ^ min (Int.toNat 8) IntKind.u64.bits)) ||| BitVec.ofInt IntKind.u64.bits (IntKind.u64.wrap b)).toNat
theorem a9U {a b : Int} : b4I Try.prog 145 [.int .i64 a, .int .i64 b] [] (.int .u64 (a8s a b)) := by
 refine a5j mixed c2d zS [] (fun R S hS => ?_)
 refine aU ?_
 refine d8 ?_
 refine aE ?_
 exact ⟨trivial, _, rfl, rfl, rfl⟩
theorem b9Q {i : Nat} {y : Row} (hy : rows.reverse[i]? = some y) : b4I Try.prog 156 [.ptr o.m 0 0, .int .i64 i] (uL p o a0 a4 a6 a7 ek ev dep live rows ps rj pj) (.iface 128 (.ptr y.q.x 0 0)) := by
 have hi := (List.getElem?_eq_some_iff.1 hy).1
 simp only [List.length_reverse] at hi
 have hyr : y ∈ rows := by simpa using List.mem_of_getElem? hy
 refine a5j mixed c2r zS [] (fun R S hS => ?_)
 refine aU ?_
 refine c9 hS rfl (.head _) (v := .ref o.ro o.rv 0 rows.length none) rfl ?_
 refine aU ?_
 refine p6 rfl rfl i rfl hi ?_
 have hpt : a0G none (a2j rows ++ rj) (0 + i * f5 none) = some (.ptr y.s 0 0) := by
  rw [show 0 + i * f5 none = i by simp [f5]]
  unfold a0G
  simp only [a2j, <- List.map_reverse, List.length_append, List.length_map, List.length_reverse]
  rw [if_pos zO, List.getD_eq_getElem?_getD, List.getElem?_append_left (by simp [hi]), List.getElem?_map, hy]
  rfl
 refine c9 hS rfl (.tail _ (.head _)) (v := .ptr y.s 0 0) hpt ?_
 refine aU ?_
 have hm : (y.s, 0, [AV.iface 128 (.ptr y.q.x 0 0), .int .i64 y.why, .ref y.d y.dv 0 y.df.length (some 2), .int .u64 y.ret]) ∈ uL p o a0 a4 a6 a7 ek ev dep live rows ps rj pj ++ R :=
  List.mem_append_left _ (.tail _ (.tail _ (.tail _ (List.mem_flatMap.2 ⟨y, hyr, .head _⟩))))
 refine c9 hS rfl hm (v := .iface 128 (.ptr y.q.x 0 0)) rfl ?_
 refine aU ?_
 refine d8 ?_
 refine aE ?_
 exact ⟨trivial, _, rfl, rfl, rfl⟩
def b4J (pt : Int) : Int := IntKind.i64.wrap (IntKind.i64.wrap (pt.fdiv (2 ^ min (Int.toNat 8) IntKind.u64.bits)) - 1)
def b5D (pt : Int) : Int := IntKind.u64.wrap ↑(BitVec.ofInt IntKind.u64.bits pt &&& BitVec.ofInt IntKind.u64.bits 255).toNat
theorem b0X {i k : Nat} {y : Row} {pt : Int} (hp : pt ≠ 0) (hpi : b4J pt = (i : Int)) (hpk : b5D pt = (k : Int)) (hy : rows.reverse[i]? = some y) (hk : k < y.fr.lo.length) : b4I Try.prog 149 [.ptr o.m 0 0, .int .u64 pt] (uL p o a0 a4 a6 a7 ek ev dep live rows ps rj pj) (.ptr y.q.l 0 k) := by
 refine a5j mixed b9I zS [] (fun R S hS => ?_)
 refine aU ?_
 refine E_cs (t := false) (by show AV.bool (pt == 0) = _; rw [show (pt == 0) = false by simpa using hp]) (fun h => by cases h) (fun _ => ?_)
 refine aU ?_
 refine b7H (b9Q hy) hS (by show [AV.ptr o.m 0 0, .int .i64 (b4J pt)] = _; rw [hpi]) (.refl _) ?_
 refine aU ?_
 have hm : (y.q.x, 0, frC p y.fr y.q) ∈ uL p o a0 a4 a6 a7 ek ev dep live rows ps rj pj ++ R :=
  List.mem_append_left _ (.tail _ (.tail _ (.tail _ (List.mem_flatMap.2 ⟨y, by simpa using List.mem_of_getElem? hy, .tail _ (.tail _ (.head _))⟩))))
 refine c9 hS rfl hm (v := .ref y.q.l 0 0 y.fr.lo.length none) rfl ?_
 refine aU ?_
 trace_state
 refine p6 rfl rfl k hpk hk ?_
 refine aU ?_
 refine d8 ?_
 refine aE ?_
 exact ⟨trivial, _, rfl, by show AV.ptr y.q.l 0 (0 + k * f5 none) = _; simp [f5], rfl⟩
theorem b5E : b4I Try.prog 149 [.ptr o.m 0 0, .int .u64 0] [] .nilp := by
 refine a5j mixed b9I zS [] (fun R S hS => ?_)
 refine aU ?_
 refine E_cs (t := true) rfl (fun _ => ?_) (fun h => by cases h)
 refine aU ?_
 refine d8 ?_
 refine aE ?_
 exact ⟨trivial, _, rfl, rfl, rfl⟩
end
end Go.Proofs.Ytnpemocpfdgaoaa

/- sem's memory: the walk. -/
namespace Go.Proofs.Ytnpemocpfdgaoaa
open Go Go.Ab
set_option maxRecDepth 20000
set_option maxHeartbeats 2000000
section
variable {a0 a4 a6 a7 : AV} {o : UO} {p : Program} {ek ev dep live : Int} {z : Row} {r : List Row} {ps : List n9} {rj pj : List AV} {R : List It} {S : List Ob}
def uR (p : Program) (o : UO) (a0 a4 a6 a7 : AV) (ek ev dep live : Int) (z : Row) (r : List Row) (ps : List n9) (rj pj : List AV) : List It :=
 (o.m, 0, [a0, mkA p, .int .i64 ek, .int .u64 ev, a4, .int .i64 dep, a6, a7, .ref o.ro o.rv 0 (r.length + 1) none, .ref o.po o.pv 0 ps.length (some 2), .int .i64 live]) :: (o.ro, o.rv, a2j (z :: r) ++ rj) :: (o.po, o.pv, flat n9.av ps.reverse ++ pj) :: (slL z ++ r.flatMap (a1A p))
theorem a9V : List.Perm (uL p o a0 a4 a6 a7 ek ev dep live (z :: r) ps rj pj ++ R) (frL p z.fr z.q ++ (uR p o a0 a4 a6 a7 ek ev dep live z r ps rj pj ++ R)) := by
 have h : Spl ((o.m, 0, [a0, mkA p, .int .i64 ek, .int .u64 ev, a4, .int .i64 dep, a6, a7, .ref o.ro o.rv 0 (r.length + 1) none, .ref o.po o.pv 0 ps.length (some 2), .int .i64 live]) :: (o.ro, o.rv, a2j (z :: r) ++ rj) :: (o.po, o.pv, flat n9.av ps.reverse ++ pj) :: (z.s, 0, [.iface 128 (.ptr z.q.x 0 0), .int .i64 z.why, .ref z.d z.dv 0 z.df.length (some 2), .int .u64 z.ret]) :: (z.d, z.dv, flat a0y.av z.df.reverse ++ z.dj) :: (z.q.x, 0, frC p z.fr z.q) :: (z.q.l, 0, flat (avI .u64) z.fr.lo) :: (z.q.t, z.q.tv, flat (avI .u64) z.fr.st.reverse ++ z.q.tj) :: (r.flatMap (a1A p) ++ R))
  [(z.q.x, 0, frC p z.fr z.q), (z.q.l, 0, flat (avI .u64) z.fr.lo), (z.q.t, z.q.tv, flat (avI .u64) z.fr.st.reverse ++ z.q.tj)] _ :=
  Spl.cons (Pk.there (Pk.there (Pk.there (Pk.there (Pk.there Pk.here))))) (Spl.cons (Pk.there (Pk.there (Pk.there (Pk.there (Pk.there Pk.here))))) (Spl.cons (Pk.there (Pk.there (Pk.there (Pk.there (Pk.there Pk.here))))) Spl.nil))
 exact h
theorem b3v {f : SFr} {q : FO} (hq : q.x = z.q.x) (h : Ab.Sep S (frL p f q ++ (uR p o a0 a4 a6 a7 ek ev dep live z r ps rj pj ++ R))) : Ab.Sep S (uL p o a0 a4 a6 a7 ek ev dep live ({ z with fr := f, q := q } :: r) ps rj pj ++ R) := by
 have h1 := (a9V (a0 := a0) (a4 := a4) (a6 := a6) (a7 := a7) (o := o) (p := p) (ek := ek) (ev := ev) (dep := dep) (live := live) (z := { z with fr := f, q := q }) (r := r) (ps := ps) (rj := rj) (pj := pj) (R := R)).symm
 refine Sep.perm (L := frL p f q ++ (uR p o a0 a4 a6 a7 ek ev dep live { z with fr := f, q := q } r ps rj pj ++ R)) ?_ h1
 have e : uR p o a0 a4 a6 a7 ek ev dep live { z with fr := f, q := q } r ps rj pj = uR p o a0 a4 a6 a7 ek ev dep live z r ps rj pj := by
  unfold uR slL; dsimp only; rw [hq]; rfl
 rw [e]; exact h
end
section
variable {a0 a4 a6 a7 : AV} {o : UO} {p : Program} {ek ev dep live : Int} {z : Row} {r : List Row} {ps ps' : List n9} {rj pj : List AV}
theorem Tri_top {g : FuncId} {ag : List AV} {Qf : AV -> SFr -> Prop} (c : Tri Try.prog g ag (frL p z.fr z.q) (fun v L' => ∃ f q, q.x = z.q.x /\ Qf v f /\ L' = frL p f q)) :
  Tri Try.prog g ag (uL p o a0 a4 a6 a7 ek ev dep live (z :: r) ps rj pj) (fun v L' => ∃ f q, q.x = z.q.x /\ Qf v f /\ L' = uL p o a0 a4 a6 a7 ek ev dep live ({ z with fr := f, q := q } :: r) ps rj pj) := fun R S hS => by
 obtain ⟨v, S', h1, L', ⟨f, q, h2, h3, rfl⟩, h4⟩ := c _ _ (hS.perm a9V)
 exact ⟨v, S', h1, _, ⟨f, q, h2, h3, rfl⟩, b3v h2 h4⟩
theorem b5F {f : SFr} {q : FO} {v : Int} {st : List Int} (hst : f.st = v :: st) (hl : st.length < 1000000000) :
  Tri Try.prog 144 [.ptr q.x 0 0] (frL p f q) (fun r L' => ∃ f' q', q'.x = q.x /\ (r = .int .u64 v /\ f' = { f with st := st }) /\ L' = frL p f' q') := fun R S hS => by
 have h2 := hS.perm (L' := [(q.x, 0, frC p f q), (q.t, q.tv, flat (avI .u64) f.st.reverse ++ q.tj)] ++ ((q.l, 0, flat (avI .u64) f.lo) :: R)) (List.Perm.cons _ (List.Perm.swap _ _ _))
 have c := b3s (a := .cptr (Program.av p).cells 0) (b := .cptr (Func.av f.f).cells 0) (c := .ref q.l 0 0 f.lo.length none) (e := .int .i64 f.pc) (g := .int .i64 f.nu) (x := q.x) (t := q.t) (tv := q.tv) (v := v) (st := st) (j := q.tj) hl
 unfold frC at h2
 rw [hst] at h2
 obtain ⟨r', S', h3, L', ⟨rfl, rfl⟩, h4⟩ := c _ _ h2
 exact ⟨_, S', h3, _, ⟨{ f with st := st }, { q with tj := .int .u64 v :: q.tj }, rfl, ⟨rfl, rfl⟩, rfl⟩, h4.perm (List.Perm.cons _ (List.Perm.swap _ _ _))⟩
theorem b3w {f : SFr} {q : FO} {ex : Bool} {vs : List Int} (hl : f.st.length < 1000000000) (hl2 : vs.length <= 1000) :
  Tri Try.prog 143 [.ptr q.x 0 0, .sl ex 1 (vs.map (avI .u64))] (frL p f q) (fun r L' => ∃ f' q', q'.x = q.x /\ f' = { f with st := vs.reverse ++ f.st } /\ L' = frL p f' q') := fun R S hS => by
 have h2 := hS.perm (L' := [(q.x, 0, frC p f q), (q.t, q.tv, flat (avI .u64) f.st.reverse ++ q.tj)] ++ ((q.l, 0, flat (avI .u64) f.lo) :: R)) (List.Perm.cons _ (List.Perm.swap _ _ _))
 have c := b0U (a := .cptr (Program.av p).cells 0) (b := .cptr (Func.av f.f).cells 0) (c := .ref q.l 0 0 f.lo.length none) (e := .int .i64 f.pc) (g := .int .i64 f.nu) (x := q.x) (t := q.t) (tv := q.tv) (ex := ex) (vs := vs) (st := f.st) (j := q.tj) hl hl2
 obtain ⟨r', S', h3, L', rfl, h4⟩ := c _ _ h2
 exact ⟨_, S', h3, _, ⟨{ f with st := vs.reverse ++ f.st }, { q with tv := q.tv + 1, tj := [] }, rfl, rfl, rfl⟩, h4.perm (List.Perm.cons _ (List.Perm.swap _ _ _))⟩
theorem z5 {v : Int} {st : List Int} (hst : z.fr.st = v :: st) (hl : st.length < 1000000000) :
  Tri Try.prog 144 [.ptr z.q.x 0 0] (uL p o a0 a4 a6 a7 ek ev dep live (z :: r) ps rj pj) (fun x L' => ∃ f q, q.x = z.q.x /\ (x = .int .u64 v /\ f = { z.fr with st := st }) /\ L' = uL p o a0 a4 a6 a7 ek ev dep live ({ z with fr := f, q := q } :: r) ps rj pj) :=
 Tri_top (Qf := fun x f' => x = .int .u64 v /\ f' = { z.fr with st := st }) (b5F (p := p) (q := z.q) hst hl)
theorem a1B {ex : Bool} {vs : List Int} (hl : z.fr.st.length < 1000000000) (hl2 : vs.length <= 1000) :
  Tri Try.prog 143 [.ptr z.q.x 0 0, .sl ex 1 (vs.map (avI .u64))] (uL p o a0 a4 a6 a7 ek ev dep live (z :: r) ps rj pj) (fun x L' => ∃ f q, q.x = z.q.x /\ f = { z.fr with st := vs.reverse ++ z.fr.st } /\ L' = uL p o a0 a4 a6 a7 ek ev dep live ({ z with fr := f, q := q } :: r) ps rj pj) :=
 Tri_top (Qf := fun _ f' => f' = { z.fr with st := vs.reverse ++ z.fr.st }) (b3w (p := p) (f := z.fr) (q := z.q) (ex := ex) (vs := vs) hl hl2)
theorem a9g {k : Int} {ag : List Int} {f' : SFr} (hv : z.fr.args p k = some (ag, f')) (hl : z.fr.st.length < 1000000000) :
  Tri Try.prog 151 [.ptr z.q.x 0 0, .int .i64 k] (uL p o a0 a4 a6 a7 ek ev dep live (z :: r) ps rj pj) (fun x L' => ∃ f q, q.x = z.q.x /\ (x = .sl false 1 (ag.map (avI .u64)) /\ f = f') /\ L' = uL p o a0 a4 a6 a7 ek ev dep live ({ z with fr := f, q := q } :: r) ps rj pj) :=
 Tri_top (Qf := fun x f => x = .sl false 1 (ag.map (avI .u64)) /\ f = f') ((b5A (q := z.q) hv hl).mono (fun v L' ⟨h1, q', h2, _, h3⟩ => ⟨f', q', h2, ⟨h1, rfl⟩, h3⟩))
end
end Go.Proofs.Ytnpemocpfdgaoaa

/- sem's memory: the walk. -/
namespace Go.Proofs.Ytnpemocpfdgaoaa
open Go Go.Ab
set_option maxRecDepth 20000
set_option maxHeartbeats 2000000
noncomputable def c2s : FC := fcO 146
theorem b7M : Fn3 Try.prog 146 29 [] c2s := ⟨_, _, Try.func146, rfl, rfl, rfl, by kernel_rfl⟩

section
variable {a0 a4 a6 a7 : AV} {o : UO} {p : Program} {ek ev dep live : Int} {z : Row} {r : List Row} {ps ps' : List n9} {rj pj : List AV}
theorem b0Y {v pmx : Int} {b : Bool} {st : List Int} {en : Option Int} {A' : List ARow} (hst : z.fr.st = 0 :: st) (hs : st.length < 1000000000)
  (hv : x8 p ({ z.toARow with fr := { z.fr with st := st } } :: a1Q r) (⟨18446744073709551614, false⟩ :: ps) = some (en, A', ps')) (hn : r.length < 9999999) (hp : ps.length < 9999999)
  (hl : ∀ g ∈ p.Funcs, g.Locals.length < 1000000000) (hd : 0 <= dep /\ dep < 1000000000) (hlv : ∀ y ∈ z :: r, (y.df.length : Int) <= live) (hlv2 : live < 100000000) :
  Tri Try.prog 146 [.ptr z.q.x 0 0, .ptr o.m 0 0, .int .u64 v, .bool b] (uL p o a0 a4 a6 (.int .i64 pmx) ek ev dep live (z :: r) ps rj pj)
   (fun _ L' => ∃ rv rows' rj' pj', a1Q rows' = A' /\ L' = uL p { o with rv := rv, pv := o.pv + 1 } a0 a4 a6 (.int .i64 (max pmx ((ps.length : Int) + 1))) (if en.isSome then 2 else ek) (en.getD ev) (if en.isSome then dep else max dep (A'.length : Int)) (if en.isSome then live else live - 1) rows' ps' rj' pj') := by
 refine i8 mixed b7M zS [] (fun R S hS => ?_)
 refine aU ?_
 refine u6 (z5 hst hs) hS rfl (.refl _) (fun x S L' hL hS => ?_)
 obtain ⟨f, q, hq, ⟨rfl, rfl⟩, rfl⟩ := hL
 refine b7H (b5E (o := o)) hS rfl Spl.nil ?_
 refine aU ?_
 refine g9 ?_
 refine aU ?_
 refine E_cs (t := true) rfl (fun _ => ?_) (fun h => by cases h)
 refine aU ?_
 refine u6 (a6z (o := o) (pmx := pmx) (v := 18446744073709551614) (rows := { z with fr := { z.fr with st := st }, q := q } :: r) hv zE hp hl hd (fun y hy => by
  rcases List.mem_cons.1 hy with rfl | hy
  ·exact hlv z (.head _)
  ·exact hlv y (.tail _ hy)) hlv2) hS rfl (.refl _) (fun x S L' hL hS => ?_)
 refine aU ?_
 refine aE ?_
 exact ⟨trivial, _, rfl, _, hL, hS⟩
theorem b3x {rows : List Row} {i : Nat} {ya : ARow} (h : (a1Q rows).reverse[i]? = some ya) : ∃ y, rows.reverse[i]? = some y /\ y.toARow = ya := by
 unfold a1Q at h
 rw [<- List.map_reverse, List.getElem?_map] at h
 obtain ⟨y, h1, h2⟩ := Option.map_eq_some_iff.1 h
 exact ⟨y, h1, h2⟩
theorem b9R {rows : List Row} {i : Nat} {y : Row} {R : List It} (h : rows.reverse[i]? = some y) : (y.q.l, 0, flat (avI .u64) y.fr.lo) ∈ uL p o a0 a4 a6 a7 ek ev dep live rows ps rj pj ++ R :=
 List.mem_append_left _ (.tail _ (.tail _ (.tail _ (List.mem_flatMap.2 ⟨y, by simpa using List.mem_of_getElem? h, .tail _ (.tail _ (.tail _ (.head _)))⟩))))
theorem b5G {v pt w : Int} {st : List Int} {i k : Nat} {ya : ARow} (hst : z.fr.st = pt :: st) (hs : st.length < 100000000) (hp0 : pt ≠ 0) (hpi : b4J pt = (i : Int)) (hpk : b5D pt = (k : Int))
  (hy : ({ z.toARow with fr := { z.fr with st := st } } :: a1Q r).reverse[i]? = some ya) (hw : ya.fr.lo[k]? = some w) :
  Tri Try.prog 146 [.ptr z.q.x 0 0, .ptr o.m 0 0, .int .u64 v, .bool false] (uL p o a0 a4 a6 a7 ek ev dep live (z :: r) ps rj pj)
   (fun _ L' => ∃ f q, q.x = z.q.x /\ f = { z.fr with st := w :: st } /\ L' = uL p o a0 a4 a6 a7 ek ev dep live ({ z with fr := f, q := q } :: r) ps rj pj) := by
 refine i8 mixed b7M zS [] (fun R S hS => ?_)
 refine aU ?_
 refine u6 (z5 hst zO) hS rfl (.refl _) (fun x S L' hL hS => ?_)
 obtain ⟨f, q, hq, ⟨rfl, rfl⟩, rfl⟩ := hL
 obtain ⟨y, hy1, rfl⟩ := b3x (rows := { z with fr := { z.fr with st := st }, q := q } :: r) hy
 refine b7H (b0X (o := o) hp0 hpi hpk hy1 (List.getElem?_eq_some_iff.1 hw).1) hS rfl (.refl _) ?_
 refine aU ?_
 refine g9 ?_
 refine aU ?_
 refine E_cs (t := false) rfl (fun h => by cases h) (fun _ => ?_)
 refine aU ?_
 refine E_cs (t := false) rfl (fun h => by cases h) (fun _ => ?_)
 refine aU ?_
 refine a7m hS (f7 .u64) rfl (b9R hy1) (n := k) (fo := 0) (y := w) (by simp [f5]) hw (v := .int .u64 w) rfl ?_
 refine aU ?_
 refine u6 (a1B (z := { z with fr := { z.fr with st := st }, q := q }) (ex := true) (vs := [w]) (by show st.length < _; omega) zS) hS (by show [AV.ptr z.q.x 0 0, _] = [AV.ptr q.x 0 0, _]; rw [hq]; rfl) (.refl _) (fun x S L' hL hS => ?_)
 obtain ⟨f, q2, hq2, rfl, rfl⟩ := hL
 refine aU ?_
 refine aE ?_
 exact ⟨trivial, _, rfl, _, ⟨_, q2, hq2.trans hq, rfl, rfl⟩, hS⟩
def a4N (k : Nat) (v : Int) (y : Row) : Row := { y with fr := { y.fr with lo := y.fr.lo.set k v } }
def a9h (k : Nat) (v : Int) (y : ARow) : ARow := { y with fr := { y.fr with lo := y.fr.lo.set k v } }
def a8g (l : List ARow) (i k : Nat) (v : Int) : List ARow := l.modify (l.length - 1 - i) (a9h k v)
theorem a6A {α β : Type} {f : α -> β} {g : α -> α} {h : β -> β} (e : ∀ x, f (g x) = h (f x)) : ∀ (l : List α) (j : Nat), (l.modify j g).map f = (l.map f).modify j h
 | [], 0 => rfl
 | [], _ + 1 => rfl
 | x :: l, 0 => by simp [e]
 | x :: l, j + 1 => by simp [a6A e l j]
theorem b7N {k : Nat} {v : Int} {R : List It} : ∀ (rows : List Row) (j : Nat) {y : Row}, rows[j]? = some y -> Rp (rows.flatMap (a1A p) ++ R) (y.q.l, 0, flat (avI .u64) y.fr.lo) (y.q.l, 0, flat (avI .u64) (y.fr.lo.set k v)) ((rows.modify j (a4N k v)).flatMap (a1A p) ++ R)
 | [], _, _, h => by simp at h
 | x :: t, 0, y, h => by
   simp at h; subst h
   have e1 : (x :: t).flatMap (a1A p) ++ R = a1A p x ++ (t.flatMap (a1A p) ++ R) := by simp
   have e2 : ((x :: t).modify 0 (a4N k v)).flatMap (a1A p) ++ R = a1A p (a4N k v x) ++ (t.flatMap (a1A p) ++ R) := by simp
   rw [e1, e2]
   have e3 : a1A p (a4N k v x) = slL x ++ [(x.q.x, 0, frC p x.fr x.q), (x.q.l, 0, flat (avI .u64) (x.fr.lo.set k v)), (x.q.t, x.q.tv, flat (avI .u64) x.fr.st.reverse ++ x.q.tj)] := by
    show slL x ++ [(x.q.x, 0, [AV.cptr (Program.av p).cells 0, .cptr (Func.av x.fr.f).cells 0, .ref x.q.l 0 0 (x.fr.lo.set k v).length none, _, _, _]), _, _] = _
    rw [List.length_set]
    rfl
   rw [e3]
   exact Rp.there (Rp.there (Rp.there Rp.here))
 | x :: t, j + 1, y, h => by
   have e1 : (x :: t).flatMap (a1A p) ++ R = a1A p x ++ (t.flatMap (a1A p) ++ R) := by simp
   have e2 : ((x :: t).modify (j + 1) (a4N k v)).flatMap (a1A p) ++ R = a1A p x ++ ((t.modify j (a4N k v)).flatMap (a1A p) ++ R) := by simp
   rw [e1, e2]
   exact Rp.skip (b7N t j (by simpa using h))
theorem b5H {k : Nat} {v : Int} (rows : List Row) (j : Nat) : a2j (rows.modify j (a4N k v)) = a2j rows := by
 unfold a2j
 rw [a6A (f := fun z : Row => AV.ptr z.s 0 0) (g := a4N k v) (h := id) (fun _ => rfl), List.modify_id]
theorem b5I {v pt w : Int} {st : List Int} {i k : Nat} {ya : ARow} (hst : z.fr.st = pt :: st) (hs : st.length < 100000000) (hp0 : pt ≠ 0) (hpi : b4J pt = (i : Int)) (hpk : b5D pt = (k : Int))
  (hy : ({ z.toARow with fr := { z.fr with st := st } } :: a1Q r).reverse[i]? = some ya) (hw : ya.fr.lo[k]? = some w) :
  Tri Try.prog 146 [.ptr z.q.x 0 0, .ptr o.m 0 0, .int .u64 v, .bool true] (uL p o a0 a4 a6 a7 ek ev dep live (z :: r) ps rj pj)
   (fun _ L' => ∃ rows', a1Q rows' = a8g ({ z.toARow with fr := { z.fr with st := st } } :: a1Q r) i k v /\ L' = uL p o a0 a4 a6 a7 ek ev dep live rows' ps rj pj) := by
 refine i8 mixed b7M zS [] (fun R S hS => ?_)
 refine aU ?_
 refine u6 (z5 hst zO) hS rfl (.refl _) (fun x S L' hL hS => ?_)
 obtain ⟨f, q, hq, ⟨rfl, rfl⟩, rfl⟩ := hL
 obtain ⟨y, hy1, rfl⟩ := b3x (rows := { z with fr := { z.fr with st := st }, q := q } :: r) hy
 refine b7H (b0X (o := o) hp0 hpi hpk hy1 (List.getElem?_eq_some_iff.1 hw).1) hS rfl (.refl _) ?_
 refine aU ?_
 refine g9 ?_
 refine aU ?_
 refine E_cs (t := false) rfl (fun h => by cases h) (fun _ => ?_)
 refine aU ?_
 refine E_cs (t := true) rfl (fun _ => ?_) (fun h => by cases h)
 refine aU ?_
 have hi := (List.getElem?_eq_some_iff.1 hy1).1
 rw [List.length_reverse] at hi
 have hy2 : ({ z with fr := { z.fr with st := st }, q := q } :: r)[({ z with fr := { z.fr with st := st }, q := q } :: r).length - 1 - i]? = some y := by
  rw [<- hy1, List.getElem?_reverse hi]
 have hR := b7N (p := p) (k := k) (v := v) (R := R) _ _ hy2
 have hlen : (({ z with fr := { z.fr with st := st }, q := q } :: r).modify (({ z with fr := { z.fr with st := st }, q := q } :: r).length - 1 - i) (a4N k v)).length = r.length + 1 := by simp
 have hptr := b5H (k := k) (v := v) ({ z with fr := { z.fr with st := st }, q := q } :: r) (({ z with fr := { z.fr with st := st }, q := q } :: r).length - 1 - i)
 refine a8Y (y' := v) hS (f7 .u64) rfl (xv := .int .u64 v) rfl (n := k) (fo := 0) (y := w) (by simp [f5]) hw (Rp.there (Rp.there (Rp.there hR))) rfl rfl (by simp [f5]) rfl (fun S hS => ?_)
 refine aU ?_
 refine aE ?_
 refine ⟨trivial, _, rfl, _, ⟨({ z with fr := { z.fr with st := st }, q := q } :: r).modify (({ z with fr := { z.fr with st := st }, q := q } :: r).length - 1 - i) (a4N k v), ?_, rfl⟩, ?_⟩
 rotate_left
 ·show Ab.Sep S ((o.m, 0, [a0, mkA p, .int .i64 ek, .int .u64 ev, a4, .int .i64 dep, a6, a7, .ref o.ro o.rv 0 (List.length (({ z with fr := { z.fr with st := st }, q := q } :: r).modify (({ z with fr := { z.fr with st := st }, q := q } :: r).length - 1 - i) (a4N k v))) none, .ref o.po o.pv 0 ps.length (some 2), .int .i64 live]) :: (o.ro, o.rv, a2j (({ z with fr := { z.fr with st := st }, q := q } :: r).modify (({ z with fr := { z.fr with st := st }, q := q } :: r).length - 1 - i) (a4N k v)) ++ rj) :: _)
  rw [hlen, hptr]
  exact hS
 ·unfold a1Q a8g
  rw [a6A (f := Row.toARow) (g := a4N k v) (h := a9h k v) (fun x => rfl)]
  simp
end
end Go.Proofs.Ytnpemocpfdgaoaa

